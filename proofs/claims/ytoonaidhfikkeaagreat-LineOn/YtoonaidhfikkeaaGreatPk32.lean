/- Part 33 of a proof. Conditions: each theorem's own. -/
import Derived.Test.YtoonaidhfikkeaaGreatPk30
import Derived.Test.YtoonaidhfikkeaaGreatPk31
set_option linter.all false
set_option maxHeartbeats 8000000
open Go.Proofs
namespace Go.Abs
open Go.RowKit
variable {A B:LR} {R s:Nat} {T:List LR} {u:List (List Rat)} {v x:Re}
theorem Pp {P:Nat} (hl:∀x∈T,x.length<=1000000) (a5:T.length<=1000) (z:P=T.length):CF 223 [.one (.sl (.sl AA) T)] (.one (.own (.sl AA) T P)):=by
 refine AE Tryz.func223 (by kernel_rfl) rfl fun E X=>?_
 conv=>cbv
 rintro n7 ⟨e7,f7⟩;conv=>cbv
 refine⟨fun _=>⟨by omega,by omega,by show _*24<=140737488355328;omega⟩,?_⟩;intro D (F:List (el (.sl AA))) v;have a2:=v.1;have w:F=List.replicate D ([]:el (.sl AA)):=v.2;have V:F.length=D:=by rw[w,List.length_replicate]
 conv=>cbv
 intro G g;have U:=g.eq;have f10:=g.le;conv=>cbv
 refine .inr ?_;obtain⟨S,h⟩:=xJ fun Q J k=>∃(o:List LR) (m i':Nat) (L i:Int),Q=[.one (.AM (.sl AA) 8 0 0 m),.one (.sl (.sl AA) T),.one (.int .i64 L),.one (.int .i64 i)]/\J=[.arr 0 (.sl AA) o]/\(o.length=T.length/\m=T.length/\B1 L T.length/\AK i i'/\i'<=T.length)/\o.take i'=T.take i'/\k=T.length-i'
 refine⟨[3,9,10,11],[8],S,⟨T.length-0,by rw[h];exact⟨F,D,0,G,0,rfl,rfl,⟨by omega,by omega,g,Ah 0,by omega⟩,rfl,rfl⟩⟩,?_⟩;intro Q J a6 N;rw[h] at N;obtain⟨o,m,i',L,i,rfl,rfl,⟨ho,hm,M,Y,Z⟩,hinv,a1⟩:=N;conv=>cbv
 have eL:=M.eq;have ei:=Y.eq;intro H n;conv=>cbv
 cases H <;> conv=>cbv
 ·have C:=AR n;have d:T=o:=by rw[<-List.take_length (l:=T),<-show i'=T.length by omega,<-hinv,List.take_of_length_le (by omega)]
  exact fA ⟨⟨rfl,.inr (.inl ⟨_,_,by decide,rfl,rfl,by omega,rfl,CM (d) (by rw[z,<-d])⟩),trivial⟩,trivial⟩ rfl (by simp)
 have C:=AS n;refine .inr ?_;obtain⟨b,a⟩:=AG (l:=T) (i:=i') (by omega);refine⟨b,fun _=>⟨by omega,by rw[show (i).toNat=i' by omega];exact a⟩,?_⟩;try conv=>cbv
 refine cL X (N2 (hl b (List.mem_of_getElem? a))) t1 ?_;try conv=>cbv
 refine g2 (by omega) ?_;intro t O;conv=>cbv
 refine⟨b,fun _=>⟨by show _<List.length (α:=(el (.sl AA))) o;(first | omega | (simp;omega)),by first | exact t1 | exact t2 | exact t4 | simp[Ac,Ak,cells]⟩,?_⟩;intro (j:List (el (.sl AA))) (f:j=List.set (α:=(el (.sl AA))) o t b);have K:j.length=o.length:=by rw[f,List.length_set]
 conv=>cbv
 intro I W;conv=>cbv
 refine g1 (by omega) ?_;refine⟨T.length-(i'+1),?_,?_⟩
 ·omega
 rw[h];refine⟨j,m,i'+1,L,I,rfl,rfl,⟨by omega,by omega,M,⟨by omega⟩,by omega⟩,?_,rfl⟩;rw[f,show t=i' by omega,Kx (by omega),hinv,<-BJ a]
theorem WM (b:∀x∈T,x.length<=1000000) (a:T.length<=1000):CF 223 [.one (.sl (.sl AA) T)] (.one (.sl (.sl AA) T)):=B8 (Pp b a rfl)
theorem TM (h:AU R u) (g:T=tw u):∀x∈T,x.length<=1000000:=by
 intro x b;rw[g,tw] at b;obtain⟨y,j,rfl⟩:=List.mem_map.1 b;obtain⟨i,a⟩:=List.mem_iff_getElem?.1 j;have d:=Hq h.red i y a;have f:=Fg a;rw[List.length_reverse] at f;have k:=h.ht;rw[List.length_map,d];exact Nat.le_trans (CA (by omega)) (by decide)
theorem Fj:At x<0↔x<0:=by
 rcases Dp x with⟨a,b⟩ |⟨a,b⟩ |⟨a,b⟩ <;> rw[b]
 ·exact⟨fun _=>a,fun _=>by decide⟩
 ·rw[a];exact⟨fun h=>absurd h (by decide),fun h=>by grind⟩
 exact⟨fun h=>absurd h (by decide),fun h=>by grind⟩
theorem YW (h:AU R u) (t:T=tw u) (F:A=em u x) (H:El u s x) (o:Fit u.length R s) {w:Re} (hw:In u w) (d:w*w=x) (I:FC 254 u x w) (j:0<=v) (k:v*v=x) (D:B=em u v):CF 222 [.one (.sl (.sl AA) T),.one (.sl AA A)] (.AF [(false,[.sl AA B]),(false,[.bool true])]):=by
 have l:=H.sqrt h hw d;refine AE Tryz.func222 (by kernel_rfl) rfl fun E n=>?_
 conv=>cbv
 obtain⟨L,a⟩:=xR (em u w);refine cL n (I t F a) t2 ?_;try conv=>cbv
 intro J m;cases m.trans (rfl:_=false);conv=>cbv
 obtain⟨K,g⟩:=xI (At w);refine cL n (G7 h t a l o.v o.vR g) t2 ?_;try conv=>cbv
 intro C f;conv=>cbv
 refine .inr ?_;cases C <;> conv=>cbv
 ·have z:=AR f;exact fA ⟨⟨rfl,congrArg _ (by rw[D,a];congr 1;have:¬w<0:=(fun G=>by have:=Fj.2 G;omega);exact Re.Fx j (by grind) (k.trans d.symm)),trivial⟩,t2,trivial⟩ rfl (by simp)
 have z:=AS f;obtain⟨M,b⟩:=xR (em u (-w));refine cL n (OH h t a l (Nat.le_trans (Du u.length R _) o.v) b) t2 ?_;try conv=>cbv
 exact fA ⟨⟨rfl,congrArg _ (by rw[D,b];congr 1;have:w<0:=Fj.1 (by omega);exact Re.Fx j (by grind) (by rw[k,<-d];grind)),trivial⟩,t2,trivial⟩ rfl (by simp)
theorem YV (h:AU R u) (g:T=tw u) (b:A=em u x) (n:El u s x) (m:Fit u.length R s) {l:LR} (j:FB 254 u x l) (d:B=[]):CF 222 [.one (.sl (.sl AA) T),.one (.sl AA A)] (.AF [(false,[.sl AA B]),(false,[.bool false])]):=by
 refine AE Tryz.func222 (by kernel_rfl) rfl fun E f=>?_
 conv=>cbv
 refine cL f (j g b) t2 ?_;try conv=>cbv
 intro k a;cases a.trans (rfl:_=true);conv=>cbv
 exact fA ⟨⟨rfl,.inr (.inl ⟨_,congrArg _ (d)⟩),trivial⟩,t2,trivial⟩ rfl (by simp)
theorem YX (h:AU R u) (m:T=tw u) (k:A=em u x) (j:El u s x) (g:Fit u.length R s) (n:In u v) (d:0<=v) (a:v*v=x) (l:B=em u v):CF 222 [.one (.sl (.sl AA) T),.one (.sl AA A)] (.AF [(false,[.sl AA B]),(false,[.bool true])]):=by
 rcases Nc h j g.q with⟨w,hw,f,o⟩ |⟨b,_⟩
 ·exact YW h m k j g hw f o d a l
 exact absurd ⟨v,n,a⟩ b
theorem YU (h:AU R u) (k:T=tw u) (g:A=em u x) (f:El u s x) (d:Fit u.length R s) (a:¬Sq u x) (j:B=[]):CF 222 [.one (.sl (.sl AA) T),.one (.sl AA A)] (.AF [(false,[.sl AA B]),(false,[.bool false])]):=by
 rcases Nc h f d.q with⟨w,hw,b,n⟩ |⟨_,l,_,m⟩
 ·exact absurd ⟨w,hw,b⟩ a
 exact YV h k g f d m j
theorem LP (h:AU R u) (C:T=tw u) (hv:VV u.length R R<=60000000000000) (hq:QQ u.length R R<=60000000000000):CF 221 [.one (.sl (.sl AA) T)] (.one (.bool true)):=by
 have af:T.length=u.length:=by rw[C,Ay]
 have hR:=h.hR;refine AE Tryz.func221 (by kernel_rfl) rfl fun E Q=>?_
 conv=>cbv
 intro n8 P;have e8:=P.eq;have f8:=P.le;conv=>cbv
 refine .inr ?_;obtain⟨J0,g⟩:=xJ fun vs bl k=>∃(i':Nat) (L i:Int),vs=[.one (.sl (.sl AA) T),.one (.sl (.sl AA) T),.one (.int .i64 L),.one (.int .i64 i)]/\(B1 L T.length/\AK i i'/\i'<=T.length)/\k=T.length-i'
 refine⟨[0,7,8,9],[],J0,⟨T.length-0,by rw[g];exact⟨0,n8,0,rfl,⟨P,Ah 0,by omega⟩,rfl⟩⟩,?_⟩;intro vs bl ai hj;rw[g] at hj;obtain⟨i',L,i,rfl,⟨hL,hi,ag⟩,ah⟩:=hj;conv=>cbv
 have eL:=hL.eq;have ei:=hi.eq;intro Z v;conv=>cbv
 cases Z <;> conv=>cbv
 ·have V:=AR v;exact fA ⟨t2,trivial⟩ rfl (by simp)
 have V:=AS v;refine .inr ?_;obtain⟨t,f⟩:=AG (l:=T) (i:=i') (by omega);refine⟨t,fun _=>⟨by omega,by rw[show (i).toNat=i' by omega];exact f⟩,?_⟩;try conv=>cbv
 obtain⟨r,I,H⟩:=GR (u:=u) (i:=i') (by omega);have o:AQ (r::pre u i'):=I ▸ (h.pre (i'+1)).red;have S:t=AW r:=by rw[<-C,f] at H;exact Option.some.inj H
 have a:t=em (pre u i') (AI (pre u i') r):=S.trans (Cn o);have b:El (pre u i') R (AI (pre u i') r):=El.Bz (I ▸ h.pre (i'+1));intro aj aa;conv=>cbv
 refine g2 (by omega) ?_;intro K a6;conv=>cbv
 intro W D;conv=>cbv
 have j:W=tw (pre u i'):=by rw[D,List.drop_zero,show K=i' by omega,C,Fq]
 refine cL (r:= .one (.bool true)) Q (EX j (h.pre i').Ds a (b.BE hR) (by rw[b.len,List.length_reverse];exact (decide_eq_true rfl).symm)) t2 ?_;try conv=>cbv
 intro an O;cases O.trans (rfl:_=false);conv=>cbv
 intro ak ab;conv=>cbv
 refine g2 (by omega) ?_;intro M a7;conv=>cbv
 intro X F;conv=>cbv
 have m:X=tw (pre u i'):=by rw[F,List.drop_zero,show M=i' by omega,C,Fq]
 obtain⟨a5,d⟩:=xI (At (AI (pre u i') r));refine cL (r:= .one (.int .i64 a5)) Q (G7 (h.pre i') m a b (by rw[GQ (by omega)];exact Nat.le_trans (H8 (by omega) R R) hv) (by rw[GQ (by omega)];exact Nat.le_trans (H8 (by omega) R R) hv) d) t2 ?_;try conv=>cbv
 intro a1 z;conv=>cbv
 cases a1 <;> conv=>cbv
 ·have J:=DR z;intro al ad;conv=>cbv
  refine g2 (by omega) ?_;intro N a8;conv=>cbv
  intro Y G;conv=>cbv
  have n:Y=tw (pre u i'):=by rw[G,List.drop_zero,show N=i' by omega,C,Fq]
  obtain⟨l,hl,hn⟩:=((Nc (h.pre i') b (by rw[GQ (by omega)];exact Nat.le_trans (UG (by omega) R R) hq)).resolve_left (fun⟨w,hw,U,_⟩=>o.2.2.2 ⟨w,hw,U⟩)).2;refine cL Q (hn n a) t2 ?_;try conv=>cbv
  intro a2 ae;conv=>cbv
  refine g1 (by omega) ?_;refine⟨T.length-(i'+1),?_,?_⟩
  ·omega
  rw[g];exact⟨i'+1,L,a2,rfl,⟨hL,⟨by omega⟩,by omega⟩,rfl⟩
 have J:=DS z;exact absurd J (by rw[d,FQ o.2.2.1];omega)
theorem Vk (h:AU R u) (b:T=tw u) (n:A=em u x) (k:El u s x) (a:Fit u.length R s) (G:In u v) (o:0<=v) (j:v*v=x) (C:B=em u v):CF 173 [.one (.sl (.sl AA) T),.one (.sl AA A)] (.AF [(false,[.sl (.sl AA) T]),(false,[.sl AA B]),(false,[.int .i64 0])]):=by
 have D:T.length=u.length:=by rw[b,Ay]
 have F:=h.ht;have t:¬x<0:=by rw[<-j];have:=Re.Ng v;grind
 refine AE Tryz.func173 (by kernel_rfl) rfl fun E f=>?_
 conv=>cbv
 refine .inr ?_;refine cL (r:= .one (.bool true)) f (EX b h.Ds n (k.BE a.s) (by rw[k.len,List.length_reverse];exact (decide_eq_true rfl).symm)) t2 ?_;try conv=>cbv
 intro H l;cases l.trans (rfl:_=false);conv=>cbv
 refine cL f (LP h b a.vR a.qR) t1 ?_;try conv=>cbv
 intro I m;cases m.trans (rfl:_=false);conv=>cbv
 obtain⟨J,g⟩:=xI (At x);refine cL f (G7 h b n k a.v0 a.vR g) t2 ?_;try conv=>cbv
 intro z d;conv=>cbv
 cases z <;> conv=>cbv
 ·have w:=AR d;refine cL f (YX h b n k a G o j C) t2 ?_;try conv=>cbv
  refine cL f (WM (TM h b) (by omega)) t1 ?_;try conv=>cbv
  exact fA ⟨t2,t2,t2,trivial⟩ rfl (by simp)
 have w:=AS d;exact absurd ((Fj (x:=x)).1 (by omega)) t
theorem Vl {B:LR} (h:AU R u) (k:T=tw u) (o:A=em u x) (l:El u s x) (b:Fit u.length R s) (t:x<0):CF 173 [.one (.sl (.sl AA) T),.one (.sl AA A)] (.AF [(false,[.sl (.sl AA) (([]:List LR))]),(false,[.sl AA (([]:LR))]),(false,[.int .i64 7])]):=by
 refine AE Tryz.func173 (by kernel_rfl) rfl fun E j=>?_
 conv=>cbv
 refine .inr ?_;refine cL (r:= .one (.bool true)) j (EX k h.Ds o (l.BE b.s) (by rw[l.len,List.length_reverse];exact (decide_eq_true rfl).symm)) t2 ?_;try conv=>cbv
 intro v f;cases f.trans (rfl:_=false);conv=>cbv
 refine cL j (LP h k b.vR b.qR) t1 ?_;try conv=>cbv
 intro w g;cases g.trans (rfl:_=false);conv=>cbv
 obtain⟨z,d⟩:=xI (At x);refine cL j (G7 h k o l b.v0 b.vR d) t2 ?_;try conv=>cbv
 intro n a;conv=>cbv
 cases n <;> conv=>cbv
 ·have m:=AR a;exact absurd (Fj.2 t) (by omega)
 have m:=AS a;exact fA ⟨⟨rfl,.inr (.inl ⟨_,rfl⟩),trivial⟩,⟨rfl,.inr (.inl ⟨_,rfl⟩),trivial⟩,t2,trivial⟩ rfl (by simp)
theorem Vn (h:AU R u) (f:T=tw u) (m:A=em u x) (w:El u s x) (j:Fit u.length R s) {R':Nat} {r:List Rat} {T2:List LR} (h8:u.length<8) (V:0<=x) (I:¬Sq u x) (U:r=co u x) (h':AU R' (r::u)) (G:T2=tw (r::u)) (Q:B=em (r::u) (rt u r)):CF 173 [.one (.sl (.sl AA) T),.one (.sl AA A)] (.AF [(false,[.sl (.sl AA) T2]),(false,[.sl AA B]),(false,[.int .i64 0])]):=by
 have H:T.length=u.length:=by rw[f,Ay]
 have S:=h.ht;refine AE Tryz.func173 (by kernel_rfl) rfl fun E d=>?_
 conv=>cbv
 refine .inr ?_;refine cL (r:= .one (.bool true)) d (EX f h.Ds m (w.BE j.s) (by rw[w.len,List.length_reverse];exact (decide_eq_true rfl).symm)) t2 ?_;try conv=>cbv
 intro W D;cases D.trans (rfl:_=false);conv=>cbv
 refine cL d (LP h f j.vR j.qR) t1 ?_;try conv=>cbv
 intro X F;cases F.trans (rfl:_=false);conv=>cbv
 obtain⟨a1,t⟩:=xI (At x);refine cL d (G7 h f m w j.v0 j.vR t) t2 ?_;try conv=>cbv
 intro K k;conv=>cbv
 cases K <;> conv=>cbv
 ·have J:=AR k;refine cL d (YU h f m w j I rfl) t2 ?_;try conv=>cbv
  rintro Y ⟨O,f36⟩;conv=>cbv
  intro L l;conv=>cbv
  cases L <;> conv=>cbv
  ·have z:=DO l;obtain⟨tn,v⟩:=xN T.length;refine cL d (Pp (TM h f) (by omega) v) t1 ?_;try conv=>cbv
   have P:A.length=2^u.length:=by rw[m,Ao w.mem]
   have N:=CA h.ht;refine cL d (N2 (by omega)) t1 ?_;try conv=>cbv
   refine⟨[A],fun _=>⟨rfl,by decide,rfl,⟨rfl,by first | exact t1 | exact t2 | exact t4 | simp[Ac,Ak,cells],trivial⟩⟩,.inr ?_⟩;try conv=>cbv
   refine .inr ⟨[A],fun _=>⟨rfl,by rw[v],rfl,by show (T.length+1)*24<=140737488355328;(try simp only[List.length_take,List.length_drop]);omega⟩,?_⟩;intro (g:List (el (.sl AA))) M b;have n:g=(T:List (el (.sl AA)))++([A]:List (el (.sl AA))):=b.1;have o:M=List.length (α:=(el (.sl AA))) g:=b.2;conv=>cbv
   refine⟨fun _=>o,?_⟩;rintro Z ⟨C,f47⟩;conv=>cbv
   have a:g=tw (r::u):=by rw[n,f,JA,m,em,U]
   refine cL d (US h' a (AK.of (C.trans (congrArg _ H))) Q) t2 ?_;try conv=>cbv
   exact fA ⟨⟨rfl,congrArg _ (by rw[G,a]),trivial⟩,t2,t2,trivial⟩ rfl (by simp)
  have z:=DP l;exact absurd z (by omega)
 have J:=AS k;exact absurd ((Fj (x:=x)).1 (by omega)) (by grind)
end Go.Abs
namespace Go.Abs
open Go.RowKit
variable {A B:LR} {R s zn:Nat} {T:List LR} {c:Int} {i p q x y:Re} {r:List Rat} {u:List (List Rat)}
theorem Oo {C:LR} (h:AU R (r::u)) (Y:T=tw (r::u)) (D:A=em (r::u) x) (hx:El (r::u) s x) (f:x=p+q*rt u r) (g:El u s p) (d:El u s q) (hb:2*s+2*EE u.length R+R+1<=60000000000000) (hC:C=em u (p*p-q*q*AI u r)):CF 184 [.one (.sl (.sl AA) T),.one (.sl AA A)] (.one (.sl AA C)):=by
 have au:T.length=u.length+1:=by rw[Y,Ay];rfl
 have ar:A.length=2^u.length+2^u.length:=by rw[D,Ao hx.mem,BI]
 have O:=El.Bz h;have hR:=h.hR;refine AE Tryz.func184 (by kernel_rfl) rfl fun E Q=>?_
 conv=>cbv
 rintro n9 ⟨e9,f9⟩;conv=>cbv
 intro aA an;conv=>cbv
 refine g2 ⟨by omega,by omega,i64 (by omega)⟩ ?_;rintro aB ⟨ak,f13⟩;conv=>cbv
 intro aC ao;conv=>cbv
 refine g1 (by omega) ?_;intro av af;conv=>cbv
 refine g2 (by omega) ?_;intro V ab;conv=>cbv
 intro Z H;conv=>cbv
 rintro aD ⟨al,f18⟩;conv=>cbv
 intro a7 aq;conv=>cbv
 refine g1 (by omega) ?_;obtain⟨P,b⟩:=AG (l:=T) (i:=(T.length-1)) (by omega);refine⟨P,fun _=>⟨by omega,by rw[show (a7).toNat=(T.length-1) by omega];exact b⟩,?_⟩;try conv=>cbv
 refine g2 rfl ?_;intro aw ag;conv=>cbv
 refine g2 (by omega) ?_;intro W ad;conv=>cbv
 intro a1 I;conv=>cbv
 intro ax ah;conv=>cbv
 refine g2 (by omega) ?_;intro X ae;conv=>cbv
 intro a2 J;conv=>cbv
 have a:Z=tw u:=by rw[H,List.drop_zero,show V=T.length-1 by omega,Y,CV]
 have o:a1=em u p:=by rw[I,List.drop_zero,show W=A.length/2 by omega,D,Bb h.red g.mem d.mem f]
 have t:a2=em u p:=by rw[J,List.drop_zero,show X=A.length/2 by omega,D,Bb h.red g.mem d.mem f]
 obtain⟨aE,j⟩:=xR (em u (p*p));refine cL Q (Ch h.tail a o t g g (by omega) j) t3 ?_;try conv=>cbv
 intro ay M;conv=>cbv
 refine g2 (by omega) ?_;rintro S ai ⟨a8,F⟩;conv=>cbv
 intro a5 K;conv=>cbv
 intro az N;conv=>cbv
 refine g2 (by omega) ?_;rintro U aj ⟨aa,G⟩;conv=>cbv
 intro a6 L;conv=>cbv
 have v:a5=em u q:=by rw[K,show S=A.length/2 by omega,F,M,List.take_length,D,BO h.red g.mem d.mem f]
 have w:a6=em u q:=by rw[L,show U=A.length/2 by omega,G,N,List.take_length,D,BO h.red g.mem d.mem f]
 obtain⟨aF,k⟩:=xR (em u (q*q));refine cL Q (Ch h.tail a v w d d (by omega) k) t3 ?_;try conv=>cbv
 have z:P=em u (AI u r):=by rw[Y,Da] at b;exact (Option.some.inj b).symm.trans (Cn h.red)
 obtain⟨aG,m⟩:=xR (em u (q*q*AI u r));refine cL Q (Ch h.tail a k z (d.mul h.tail d) O (by omega) m) t3 ?_;try conv=>cbv
 obtain⟨aH,n⟩:=xR (em u (p*p-q*q*AI u r));refine cL Q (JS h.tail j m (g.mul h.tail g) ((d.mul h.tail d).mul h.tail O) (by omega) (by omega) n) t3 ?_;try conv=>cbv
 refine g2 rfl ?_;exact fA ⟨⟨rfl,congrArg _ (by rw[hC,n]),trivial⟩,trivial⟩ rfl (by simp)
def LY (R:Nat) (u:List (List Rat)):Prop:=∀{T:List LR} {A B:LR} {zn s:Nat} {x y:Re},T=tw u->A=em u x->El u s x->In u y->x*y=1->II u.length R s<=60000000000000->B=em u y->zn=B.length->
 CF 164 [.one (.sl (.sl AA) T),.one (.sl AA A)] (.AF [(false,[.own AA B zn]),(false,[.int .i64 0])])
theorem VB {p q:Rat} (P:T=[]) (C:A=[rp p]) (M:B=[rp q]) (h:p≠0) (D:q=1/p) (F:zn=B.length):CF 164 [.one (.sl (.sl AA) T),.one (.sl AA A)] (.AF [(false,[.own AA B zn]),(false,[.int .i64 0])]):=by
 refine AE Tryz.func164 (by kernel_rfl) rfl fun E O=>?_
 conv=>cbv
 rintro S ⟨w,f13⟩;conv=>cbv
 intro H f;conv=>cbv
 cases H <;> conv=>cbv
 ·have k:=Ab f;exact absurd (by rw[w,P];rfl) k
 have k:=Ad f;have N:A.length=1:=by rw[C];rfl
 obtain⟨m,a⟩:=AG (l:=A) (i:=0) (by omega);refine⟨m,fun _=>⟨by omega,a⟩,?_⟩;try conv=>cbv
 have j:=C8 C a;rintro I ⟨z,f20⟩;conv=>cbv
 have L:I=((List.length (α:=UInt32) m.1.2:Nat):Int):=z;intro J g;conv=>cbv
 cases J <;> conv=>cbv
 ·have G:=Ab g;obtain⟨K,b⟩:=AG (l:=A) (i:=0) (by omega);refine⟨K,fun _=>⟨by omega,b⟩,?_⟩;try conv=>cbv
  have Q:=C8 C b;obtain⟨t,v,n,o,d⟩:=BD q;refine cL O (Ur Q h D d) ⟨t4,trivial⟩ ?_;try conv=>cbv
  refine⟨[((t,v),(n,o))],fun _=>⟨rfl,by decide,rfl,⟨rfl,by first | exact t1 | exact t2 | exact t4 | simp[Ac,Ak,cells],trivial⟩⟩,.inl ?_⟩;try conv=>cbv
  exact fA ⟨⟨rfl,.inr (.inl ⟨_,_,by decide,rfl,rfl,rfl,rfl,CM (by rw[M,d.rp]) (by rw[F,M];rfl)⟩),trivial⟩,t2,trivial⟩ rfl (by simp)
 have G:=Ad g;exact absurd (Rat.num_eq_zero.1 (j.num.Dm.1 (by omega))) h
theorem VD {y:Re} (h:AU R (r::u)) (ih:LY R u) (hT:T=tw (r::u)) (Q:A=em (r::u) x) (hx:El (r::u) s x) (J:x=p+q*rt u r) (U:El u s p) (W:El u s q) (h0:q=0) (S:In u i) (V:p*i=1) (hs:II (r::u).length R s<=60000000000000) (hB:B=em (r::u) i) (X:zn=B.length):CF 164 [.one (.sl (.sl AA) T),.one (.sl AA A)] (.AF [(false,[.own AA B zn]),(false,[.int .i64 0])]):=by
 have ay:T.length=u.length+1:=by rw[hT,Ay];rfl
 have aw:A.length=2^u.length+2^u.length:=by rw[Q,Ao hx.mem,BI]
 have ax:II (r::u).length R s=s+EE u.length R+II u.length R (2*s+2*EE u.length R+R+1):=rfl;have af:=Gc u.length R (s:=s) (t:=2*s+2*EE u.length R+R+1) (by omega);refine AE Tryz.func164 (by kernel_rfl) rfl fun E L=>?_
 conv=>cbv
 rintro aC ⟨ao,f13⟩;conv=>cbv
 intro a2 w;conv=>cbv
 cases a2 <;> conv=>cbv
 ·have K:=Ab w;rintro aD ⟨aq,f28⟩;conv=>cbv
  intro aE au;conv=>cbv
  refine g2 ⟨by omega,by omega,i64 (by omega)⟩ ?_;rintro aF ⟨ar,f32⟩;conv=>cbv
  intro aG av;conv=>cbv
  refine g1 (by omega) ?_;intro az ad;conv=>cbv
  refine g2 (by omega) ?_;intro N a7;conv=>cbv
  intro Y C;conv=>cbv
  intro aA H;conv=>cbv
  refine g2 (by omega) ?_;rintro M an ⟨a6,z⟩;conv=>cbv
  intro Z D;conv=>cbv
  have n:Z=em u q:=by rw[D,show M=A.length/2 by omega,z,H,List.take_length,Q,BO h.red U.mem W.mem J]
  refine cL L (Fa h.tail.red W.mem n h0) t1 ?_;try conv=>cbv
  intro aB ae;conv=>cbv
  refine g2 (by omega) ?_;intro O a8;conv=>cbv
  intro a1 F;conv=>cbv
  have a:Y=tw u:=by rw[C,List.drop_zero,show N=T.length-1 by omega,hT,CV]
  have o:a1=em u p:=by rw[F,List.drop_zero,show O=A.length/2 by omega,Q,Bb h.red U.mem W.mem J]
  obtain⟨j,b⟩:=xR (em u i);obtain⟨ah,d⟩:=xN j.length;refine cL L (ih a o U S V (by omega) b d) t2 ?_;try conv=>cbv
  intro aH P;cases P.trans (show _=false by decide);conv=>cbv
  obtain⟨ak,al,ai,aj,l⟩:=BD (((0:Int):Rat));refine cL L (DI (by omega) rfl l) t1 ?_;try conv=>cbv
  obtain⟨g,f⟩:=xR (em u (0));refine cL (r:= .one (.sl AA g)) L (EJ h.tail a l (by rw[show Re.ofRat ((0:Int):Rat)=0 from rfl];exact f)) ⟨rfl,t4,trivial⟩ ?_;try conv=>cbv
  have aa:j.length=2^u.length:=by rw[b,Ao S]
  have ab:g.length=2^u.length:=by rw[f,Ao (BP u)]
  have ag:=CA h.tail.ht;refine .inl ⟨g,fun _=>⟨rfl,d,rfl,by show (j.length+g.length)*64<=140737488355328;(try simp only[List.length_take,List.length_drop]);omega⟩,?_⟩;intro (v:LR) a5 m;have G:v=(j:LR)++(g:LR):=m.1;have I:a5=List.length (α:=(el AA)) v:=m.2;conv=>cbv
  have k:B=v:=by rw[hB,G,b,f];exact DL h.red S (BP u) (by clear ih;grind)
  exact fA ⟨⟨rfl,.inr (.inl ⟨_,_,by decide,rfl,rfl,I,rfl,CM (k) (by rw[X,k])⟩),trivial⟩,t2,trivial⟩ rfl (by simp)
 have K:=Ad w;exact absurd K (by omega)
theorem VC (h:AU R (r::u)) (ih:LY R u) (hT:T=tw (r::u)) (J:A=em (r::u) x) (hx:El (r::u) s x) (k:x=p+q*rt u r) (t:El u s p) (l:El u s q) (h0:q≠0) (hi:In u i) (K:(p*p-q*q*AI u r)*i=1) (hy:y=p*i+ -q*i*rt u r) (hs:II (r::u).length R s<=60000000000000) (hB:B=em (r::u) y) (a7:zn=B.length):CF 164 [.one (.sl (.sl AA) T),.one (.sl AA A)] (.AF [(false,[.own AA B zn]),(false,[.int .i64 0])]):=by
 have aE:T.length=u.length+1:=by rw[hT,Ay];rfl
 have aC:A.length=2^u.length+2^u.length:=by rw[J,Ao hx.mem,BI]
 have aD:II (r::u).length R s=s+EE u.length R+II u.length R (2*s+2*EE u.length R+R+1):=rfl;have hN:=El.norm h t.mem l.mem (k ▸ hx);have b:=hN.inv h.tail hi K;have aq:=C4 u.length R (2*s+2*EE u.length R+R+1);have W:=(l.neg h.red.1).mul h.tail b;refine AE Tryz.func164 (by kernel_rfl) rfl fun E H=>?_
 conv=>cbv
 rintro aJ ⟨ax,f13⟩;conv=>cbv
 intro ae I;conv=>cbv
 cases ae <;> conv=>cbv
 ·have Y:=Ab I;rintro aK ⟨ay,f28⟩;conv=>cbv
  intro aL aA;conv=>cbv
  refine g2 ⟨by omega,by omega,i64 (by omega)⟩ ?_;rintro aM ⟨az,f32⟩;conv=>cbv
  intro aN aB;conv=>cbv
  refine g1 (by omega) ?_;intro aF an;conv=>cbv
  refine g2 (by omega) ?_;intro a2 ai;conv=>cbv
  intro a8 N;conv=>cbv
  intro aG U;conv=>cbv
  refine g2 (by omega) ?_;rintro Z av ⟨ag,L⟩;conv=>cbv
  intro aa O;conv=>cbv
  have C:aa=em u q:=by rw[O,show Z=A.length/2 by omega,L,U,List.take_length,J,BO h.red t.mem l.mem k]
  refine cL H (F3 h.tail.red l.mem C h0) t1 ?_;try conv=>cbv
  have a:a8=tw u:=by rw[N,List.drop_zero,show a2=T.length-1 by omega,hT,CV]
  obtain⟨aP,v⟩:=xR (em u (p*p-q*q*AI u r));refine cL H (Oo h hT J hx k t l (by omega) v) t2 ?_;try conv=>cbv
  obtain⟨aQ,d⟩:=xR (em u i);refine cL H (B8 (ih a v hN hi K (by omega) d rfl)) t2 ?_;try conv=>cbv
  intro aO a6;cases a6.trans (show _=false by decide);conv=>cbv
  intro aH ao;conv=>cbv
  refine g2 (by omega) ?_;intro a5 aj;conv=>cbv
  intro ab P;conv=>cbv
  have D:ab=em u p:=by rw[P,List.drop_zero,show a5=A.length/2 by omega,J,Bb h.red t.mem l.mem k]
  obtain⟨m,f⟩:=xR (em u (p*i));obtain⟨au,g⟩:=xN m.length;refine cL H (Te h.tail a D d t b (by omega) f g) t3 ?_;try conv=>cbv
  intro aI V;conv=>cbv
  refine g2 (by omega) ?_;rintro a1 aw ⟨ah,M⟩;conv=>cbv
  intro ad Q;conv=>cbv
  have F:ad=em u q:=by rw[Q,show a1=A.length/2 by omega,M,V,List.take_length,J,BO h.red t.mem l.mem k]
  obtain⟨aR,w⟩:=xR (em u (-q));refine cL H (HB h.tail F l w) t2 ?_;try conv=>cbv
  obtain⟨n,j⟩:=xR (em u (-q*i));refine cL H (Ch h.tail a w d (l.neg h.red.1) b (by omega) j) t3 ?_;try conv=>cbv
  have ak:m.length=2^u.length:=by rw[f,Ao (t.mul h.tail b).mem]
  have al:n.length=2^u.length:=by rw[j,Ao W.mem]
  have ar:=CA h.tail.ht;refine .inl ⟨n,fun _=>⟨rfl,g,rfl,by show (m.length+n.length)*64<=140737488355328;(try simp only[List.length_take,List.length_drop]);omega⟩,?_⟩;intro (G:LR) af z;have S:G=(m:LR)++(n:LR):=z.1;have X:af=List.length (α:=(el AA)) G:=z.2;conv=>cbv
  refine g2 rfl ?_;have o:B=G:=by rw[hB,S,f,j];exact DL h.red (t.mul h.tail b).mem W.mem hy
  exact fA ⟨⟨rfl,.inr (.inl ⟨_,_,by decide,rfl,rfl,X,rfl,CM (o) (by rw[a7,o])⟩),trivial⟩,t2,trivial⟩ rfl (by simp)
 have Y:=Ad I;exact absurd Y (by omega)
theorem aQ (h:AU R u):LY R u:=by
 induction u with
 | nil=>
  intro T A B zn s x y t j g G b D k f;obtain⟨p,rfl⟩:=Bj.1 g.mem;obtain⟨q,rfl⟩:=Bj.1 G;rw[Ci] at j k;rw[<-Re.ofRat_mul] at b;have e:=Re.GM.1 b;exact VB t j k (by intro H;subst H;grind) (by grind) f
 | cons r u d=>
  intro T A B zn s x y t j g G b D k f;obtain⟨p,q,a,m,v⟩:=El.parts h.red g;have L:=Bg h.red;have J:(0:Re)<1:=Re.GN.2 (show (0:Rat)<1 by decide)
  by_cases o:q=0
  ·have C:p≠0:=by intro e;rw[e,o] at a;rw[a] at b;clear d;grind
   obtain⟨i,z,n⟩:=DE h.red.1 m.mem C
   have F:y=i:=by
    have:y=i*(x*y):=by
     have I:x=p:=by rw[a,o];clear d;grind
     rw[I];have:i*(p*y)=y*(p*i):=by clear d;grind
     rw[this,n];clear d;grind
    rw[b] at this;clear d;grind
   exact VD (y:=y) h (d h.tail) t j g a m v o z n D (F ▸ k) f
  have K:=El.norm h m.mem v.mem (a ▸ g);have w:p*p-q*q*AI u r≠0:=RH h.red m.mem v.mem (by intro e;rw[<-a] at e;rw[e] at b;clear d;grind);obtain⟨i,z,l⟩:=DE h.red.1 K.mem w;refine VC h (d h.tail) t j g a m v o z l ?_ D k f
  have:y=x*y*((p-q*rt u r)*i):=by
   have:x*y*((p-q*rt u r)*i)=y*((p*p-q*q*AI u r)*i):=by rw[a];clear d;grind
   rw[this,l];clear d;grind
  rw[b] at this
  clear d;grind
theorem JR (h:AU R u) (f:T=tw u) (b:A=em u x) (j:El u s x) (k:In u y) (a:x*y=1) (g:II u.length R s<=60000000000000) (d:B=em u y):
 CF 164 [.one (.sl (.sl AA) T),.one (.sl AA A)] (.AF [(false,[.sl AA B]),(false,[.int .i64 0])]):=B8 (aQ h f b j k a g d rfl)
theorem U9 (C:T=[]) (w:A=[rp 0]):CF 164 [.one (.sl (.sl AA) T),.one (.sl AA A)] (.AF [(false,[.sl AA (([]:LR))]),(false,[.int .i64 6])]):=by
 refine AE Tryz.func164 (by kernel_rfl) rfl fun E F=>?_
 conv=>cbv
 rintro D ⟨m,f13⟩;conv=>cbv
 intro o d;conv=>cbv
 cases o <;> conv=>cbv
 ·have h:=Ab d;exact absurd (by rw[m,C];rfl) h
 have h:=Ad d;have z:A.length=1:=by rw[w];rfl
 obtain⟨k,a⟩:=AG (l:=A) (i:=0) (by omega);refine⟨k,fun _=>⟨by omega,a⟩,?_⟩;try conv=>cbv
 have g:=C8 w a;rintro t ⟨n,f20⟩;conv=>cbv
 have b:t=((List.length (α:=UInt32) k.1.2:Nat):Int):=n;intro v f;conv=>cbv
 cases v <;> conv=>cbv
 ·have j:=Ab f;exact absurd (by rw[b,g.num.Dm.2 rfl];rfl) j
 have j:=Ad f;exact fA ⟨⟨rfl,.inr (.inl ⟨_,rfl⟩),trivial⟩,t2,trivial⟩ rfl (by simp)
theorem VA (h:AU R (r::u)) (ih:∀{T A},T=tw u->A=em u 0->CF 164 [.one (.sl (.sl AA) T),.one (.sl AA A)] (.AF [(false,[.sl AA []]),(false,[.int .i64 6])])) (J:T=tw (r::u)) (C:A=em (r::u) 0):CF 164 [.one (.sl (.sl AA) T),.one (.sl AA A)] (.AF [(false,[.sl AA (([]:LR))]),(false,[.int .i64 6])]):=by
 have Z:El (r::u) 0 0:=El.rat h.red EM;have f:(0:Re)=0+0*rt u r:=by grind
 have Y:T.length=u.length+1:=by rw[J,Ay];rfl
 have X:A.length=2^u.length+2^u.length:=by rw[C,Ao Z.mem,BI]
 refine AE Tryz.func164 (by kernel_rfl) rfl fun E I=>?_
 conv=>cbv
 rintro a6 ⟨Q,f13⟩;conv=>cbv
 intro H g;conv=>cbv
 cases H <;> conv=>cbv
 ·have o:=Ab g;rintro a7 ⟨S,f28⟩;conv=>cbv
  intro a8 V;conv=>cbv
  refine g2 ⟨by omega,by omega,i64 (by omega)⟩ ?_;rintro aa ⟨U,f32⟩;conv=>cbv
  intro ab W;conv=>cbv
  refine g1 (by omega) ?_;intro a1 N;conv=>cbv
  refine g2 (by omega) ?_;intro v L;conv=>cbv
  intro D k;conv=>cbv
  intro a2 n;conv=>cbv
  refine g2 (by omega) ?_;rintro t P ⟨K,j⟩;conv=>cbv
  intro F l;conv=>cbv
  have b:F=em u 0:=by rw[l,show t=A.length/2 by omega,j,n,List.take_length,C,BO h.red (BP u) (BP u) f]
  refine cL I (Fa h.tail.red (BP u) b rfl) t1 ?_;try conv=>cbv
  intro a5 O;conv=>cbv
  refine g2 (by omega) ?_;intro w M;conv=>cbv
  intro G m;conv=>cbv
  have a:D=tw u:=by rw[k,List.drop_zero,show v=T.length-1 by omega,J,CV]
  have d:G=em u 0:=by rw[m,List.drop_zero,show w=A.length/2 by omega,C,Bb h.red (BP u) (BP u) f]
  refine cL I (ih a d) t2 ?_;try conv=>cbv
  intro ad z;cases z.trans (show _=true by decide);conv=>cbv
  exact fA ⟨⟨rfl,.inr (.inl ⟨_,rfl⟩),trivial⟩,t2,trivial⟩ rfl (by simp)
 have o:=Ad g;exact absurd o (by omega)
theorem Om:∀{u:List (List Rat)} {R:Nat},AU R u->∀{T A},T=tw u->A=em u 0->CF 164 [.one (.sl (.sl AA) T),.one (.sl AA A)] (.AF [(false,[.sl AA []]),(false,[.int .i64 6])])
 | [],R,h=>fun b a=>U9 b (a.trans (Ci 0))
 | r::u,R,h=>fun b a=>VA h (Om h.tail) b a
def Oh (R:Nat) (u:List (List Rat)):Prop:=∀{T:List LR} {A:LR} {s:Nat} {x:Re} {c:Int},T=tw u->A=em u x->El u s x->VV u.length R s<=60000000000000->c=At x->
 CF 141 [.one (.sl (.sl AA) T),.one (.sl AA A)] (.one (.int .i64 c))
theorem Vf {p:Rat} (o:T=[]) (k:A=[rp p]) (t:c=C0 p):CF 141 [.one (.sl (.sl AA) T),.one (.sl AA A)] (.one (.int .i64 c)):=by
 refine AE Tryz.func141 (by kernel_rfl) rfl fun E n=>?_
 conv=>cbv
 rintro v ⟨g,f11⟩;conv=>cbv
 intro h d;conv=>cbv
 cases h <;> conv=>cbv
 ·have f:=Ab d;exact absurd (by rw[g,o];rfl) f
 have f:=Ad d;have m:A.length=1:=by rw[k];rfl
 obtain⟨j,b⟩:=AG (l:=A) (i:=0) (by omega);refine⟨j,fun _=>⟨by omega,b⟩,?_⟩;try conv=>cbv
 obtain⟨w,a⟩:=xI (C0 p);refine cL n (Oc (C8 k b) a) ⟨t4,trivial⟩ ?_;try conv=>cbv
 exact fA ⟨⟨rfl,congrArg _ (t.trans a.symm),trivial⟩,trivial⟩ rfl (by simp)
theorem Vg (h:AU R (r::u)) (ih:Oh R u) (I:T=tw (r::u)) (V:A=em (r::u) x) (Y:El (r::u) s x) (hs:VV (r::u).length R s<=60000000000000) (X:c=At x):CF 141 [.one (.sl (.sl AA) T),.one (.sl AA A)] (.one (.int .i64 c)):=by
 obtain⟨p,q,d,Q,S⟩:=El.parts h.red Y;have aF:T.length=u.length+1:=by rw[I,Ay];rfl
 have aE:A.length=2^u.length+2^u.length:=by rw[V,Ao Y.mem,BI]
 have aH:VV (r::u).length R s=VV u.length R (2*s+2*EE u.length R+R+1):=rfl;have aI:=Du u.length R (2*s+2*EE u.length R+R+1);have aG:=FX u.length R (s:=s) (t:=2*s+2*EE u.length R+R+1) (by omega);have hN:=El.norm h Q.mem S.mem (d ▸ Y);have g:=SN h.red;have a7:=Bg h.red;refine AE Tryz.func141 (by kernel_rfl) rfl fun E W=>?_
 conv=>cbv
 rintro aN ⟨ax,f11⟩;conv=>cbv
 intro af C;conv=>cbv
 cases af <;> conv=>cbv
 ·have U:=Ab C;rintro aO ⟨ay,f18⟩;conv=>cbv
  intro aP aB;conv=>cbv
  refine g1 (by omega) ?_;rintro aQ ⟨az,f22⟩;conv=>cbv
  intro aR aC;conv=>cbv
  refine g2 ⟨by omega,by omega,i64 (by omega)⟩ ?_;intro aJ aq;conv=>cbv
  refine g2 (by omega) ?_;intro a1 ak;conv=>cbv
  intro a8 K;conv=>cbv
  rintro aS ⟨aA,f27⟩;conv=>cbv
  intro aT aD;conv=>cbv
  refine g2 ⟨by omega,by omega,i64 (by omega)⟩ ?_;intro aK P;conv=>cbv
  refine g2 (by omega) ?_;rintro Z aw ⟨aj,J⟩;conv=>cbv
  intro aa L;conv=>cbv
  refine g2 rfl ?_;intro m32 ar;conv=>cbv
  refine g2 (by omega) ?_;intro a2 al;conv=>cbv
  intro ab M;conv=>cbv
  have m:ab=tw u:=by rw[M,List.drop_zero,show a2=T.length-1 by omega,I,CV]
  have k:a8=em u p:=by rw[K,List.drop_zero,show a1=A.length/2 by omega,V,Bb h.red Q.mem S.mem d]
  obtain⟨aV,a⟩:=xI (At p);refine cL W (ih m k Q (by omega) a) t2 ?_;try conv=>cbv
  intro aL au;conv=>cbv
  refine g2 (by omega) ?_;intro a5 an;conv=>cbv
  intro ad N;conv=>cbv
  have n:ad=tw u:=by rw[N,List.drop_zero,show a5=T.length-1 by omega,I,CV]
  have l:aa=em u q:=by rw[L,show Z=A.length/2 by omega,J,P,List.take_length,V,BO h.red Q.mem S.mem d]
  obtain⟨aW,b⟩:=xI (At q);refine cL W (ih n l S (by omega) b) t2 ?_;try conv=>cbv
  refine g2 rfl ?_;intro ag D;conv=>cbv
  cases ag <;> conv=>cbv
  ·have v:=Ab D;intro ah F;conv=>cbv
   cases ah <;> conv=>cbv
   ·have w:=Ab F;intro ai G;conv=>cbv
    cases ai <;> conv=>cbv
    ·have z:=Ab G;intro aM av;conv=>cbv
     refine g2 (by omega) ?_;intro a6 ao;conv=>cbv
     intro ae O;conv=>cbv
     have o:ae=tw u:=by rw[O,List.drop_zero,show a6=T.length-1 by omega,I,CV]
     obtain⟨aY,j⟩:=xR (em u (p*p-q*q*AI u r));refine cL W (Oo h I V Y d Q S (by omega) j) t2 ?_;try conv=>cbv
     obtain⟨aX,f⟩:=xI (At (p*p-q*q*AI u r));refine cL W (ih o j hN (by omega) f) t2 ?_;try conv=>cbv
     intro aU H;conv=>cbv
     refine⟨fun _=>by rw[H,a,f];exact Sd _ _,?_⟩;refine g2 rfl ?_;exact fA ⟨⟨rfl,congrArg _ (by rw[X,H,a,f,d];exact Sg g a7 (fun e=>z (by rw[a,e];exact E0)) (fun e=>v (by rw[b,e];exact E0)) (by rw[<-a,<-b];exact w)),trivial⟩,trivial⟩ rfl (by simp)
    have z:=Ad G;exact fA ⟨⟨rfl,congrArg _ (by rw[X,b,d];exact Sh g (Ez.1 (a ▸ z))),trivial⟩,trivial⟩ rfl (by simp)
   have w:=Ad F;exact fA ⟨⟨rfl,congrArg _ (by rw[X,a,d];exact Kt g (.inr (by rw[<-a,<-b];exact w))),trivial⟩,trivial⟩ rfl (by simp)
  have v:=Ad D;exact fA ⟨⟨rfl,congrArg _ (by rw[X,a,d];exact Kt g (.inl (Ez.1 (b ▸ v)))),trivial⟩,trivial⟩ rfl (by simp)
 have U:=Ad C;exact absurd U (by omega)
theorem Nz (h:AU R u):Oh R u:=by
 induction u with
 | nil=>
  intro T A s x c b a f g d;obtain⟨p,rfl⟩:=Bj.1 f.mem;rw[Ci] at a;exact Vf b a (d.trans (Sf p))
 | cons r u j=>
  intro T A s x c b a f g d;exact Vg h (j h.tail) b a f g d
end Go.Abs
