/- Part 34 of a proof. Conditions: each theorem's own. -/
import Derived.Test.YtfilemenbchajaaGreatPk31
import Derived.Test.YtfilemenbchajaaGreatPk32
set_option linter.all false
set_option maxHeartbeats 8000000
set_option maxRecDepth 20000
open Go.Proofs
namespace Go.Abs
open Go.RowKit
variable {A B:LR} {R s:Nat} {T:List LR} {u:List (List Rat)} {v x:Re}
theorem SE {P:Nat} (hl:∀x∈T,x.length<=1000000) (a2:T.length<=1000) (z:P=T.length):CF 234 [.one (.sl (.sl AA) T)] (.one (.own (.sl AA) T P)):=by
 refine AH Tryz.func234 (by kernel_rfl) rfl fun E W=>?_
 conv=>cbv
 rintro n7 ⟨e7,f7⟩;conv=>cbv
 refine⟨fun _=>⟨by omega,by omega,by show _*24<=140737488355328;omega⟩,?_⟩;intro D (F:List (el (.sl AA))) v;have a1:=v.1;have w:F=List.replicate D ([]:el (.sl AA)):=v.2;have U:F.length=D:=by rw[w,List.length_replicate]
 conv=>cbv
 intro G g;have S:=g.eq;have f10:=g.le;conv=>cbv
 refine .inr ?_;obtain⟨Q,h⟩:=xJ fun vs J k=>∃(o:List LR) (m i':Nat) (L i:Int),vs=[.one (.AT (.sl AA) 8 0 0 m),.one (.sl (.sl AA) T),.one (.int .i64 L),.one (.int .i64 i)]/\J=[.arr 0 (.sl AA) o]/\(o.length=T.length/\m=T.length/\Cb L T.length/\AS i i'/\i'<=T.length)/\o.take i'=T.take i'/\k=T.length-i'
 refine⟨[3,9,10,11],[8],Q,⟨T.length-0,by rw[h];exact⟨F,D,0,G,0,rfl,rfl,⟨by omega,by omega,g,BC 0,by omega⟩,rfl,rfl⟩⟩,?_⟩;intro vs J a5 N;rw[h] at N;obtain⟨o,m,i',L,i,rfl,rfl,⟨ho,hm,M,X,Y⟩,hinv,Z⟩:=N;conv=>cbv
 have eL:=M.eq;have ei:=X.eq;intro H n;conv=>cbv
 cases H <;> conv=>cbv
 ·have C:=Ad n;have d:T=o:=by rw[<-List.take_length (l:=T),<-show i'=T.length by omega,<-hinv,List.take_of_length_le (by omega)]
  exact fA ⟨⟨rfl,.inr (.inl ⟨_,_,by decide,rfl,rfl,by omega,rfl,C2 (d) (by rw[z,<-d])⟩),trivial⟩,trivial⟩ rfl (by simp)
 have C:=Ae n;refine .inr ?_;obtain⟨b,a⟩:=AG (l:=T) (i:=i') (by omega);refine⟨b,fun _=>⟨by omega,by rw[show (i).toNat=i' by omega];exact a⟩,?_⟩;try conv=>cbv
 refine cL W (QE (hl b (List.mem_of_getElem? a))) t1 ?_;try conv=>cbv
 refine g2 (by omega) ?_;intro t O;conv=>cbv
 refine⟨b,fun _=>⟨by show _<List.length (α:=(el (.sl AA))) o;(first | omega | (simp;omega)),by first | exact t1 | exact t2 | exact t4 | simp[Aw,BF,cells]⟩,?_⟩;intro (j:List (el (.sl AA))) (f:j=List.set (α:=(el (.sl AA))) o t b);have K:j.length=o.length:=by rw[f,List.length_set]
 conv=>cbv
 intro I V;conv=>cbv
 refine g1 (by omega) ?_;refine⟨T.length-(i'+1),?_,?_⟩
 ·omega
 rw[h];refine⟨j,m,i'+1,L,I,rfl,rfl,⟨by omega,by omega,M,⟨by omega⟩,by omega⟩,?_,rfl⟩;rw[f,show t=i' by omega,Ms (by omega),hinv,<-Bi a]
theorem ZQ (b:∀x∈T,x.length<=1000000) (a:T.length<=1000):CF 234 [.one (.sl (.sl AA) T)] (.one (.sl (.sl AA) T)):=Cl (SE b a rfl)
theorem WL (h:Al R u) (g:T=tw u):∀x∈T,x.length<=1000000:=by
 intro x b;rw[g,tw] at b;obtain⟨y,j,rfl⟩:=List.mem_map.1 b;obtain⟨i,a⟩:=List.mem_iff_getElem?.1 j;have d:=JE h.red i y a;have f:=Gd a;rw[List.length_reverse] at f;have h3:=h.ht;rw[List.length_map,d];exact Nat.le_trans (Cq (by omega)) (by decide)
theorem HJ:BJ x<0↔x<0:=by
 rcases EP x with⟨a,b⟩ |⟨a,b⟩ |⟨a,b⟩ <;> rw[b]
 ·exact⟨fun _=>a,fun _=>by decide⟩
 ·rw[a];exact⟨fun h=>absurd h (by decide),fun h=>by grind⟩
 exact⟨fun h=>absurd h (by decide),fun h=>by grind⟩
theorem dD (h:Al R u) (t:T=tw u) (F:A=em u x) (H:El u s x) (o:Fit u.length R s) {w:Re} (hw:In u w) (d:w*w=x) (I:F3 283 u x w) (j:0<=v) (k:v*v=x) (D:B=em u v):CF 233 [.one (.sl (.sl AA) T),.one (.sl AA A)] (.AE [(false,[.sl AA B]),(false,[.bool true])]):=by
 have l:=H.sqrt h hw d;refine AH Tryz.func233 (by kernel_rfl) rfl fun E n=>?_
 conv=>cbv
 obtain⟨L,a⟩:=xR (em u w);refine cL n (I t F a) t2 ?_;try conv=>cbv
 intro J m;cases m.trans (rfl:_=false);conv=>cbv
 obtain⟨K,g⟩:=xI (BJ w);refine cL n (JZ h t a l o.v o.vR g) t2 ?_;try conv=>cbv
 intro C f;conv=>cbv
 refine .inr ?_;cases C <;> conv=>cbv
 ·have z:=Ad f;exact fA ⟨⟨rfl,congrArg _ (by rw[D,a];congr 1;have:¬w<0:=(fun G=>by have:=HJ.2 G;omega);exact Re.Gs j (by grind) (k.trans d.symm)),trivial⟩,t2,trivial⟩ rfl (by simp)
 have z:=Ae f;obtain⟨M,b⟩:=xR (em u (-w));refine cL n (QU h t a l (Nat.le_trans (Ei u.length R _) o.v) b) t2 ?_;try conv=>cbv
 exact fA ⟨⟨rfl,congrArg _ (by rw[D,b];congr 1;have:w<0:=HJ.1 (by omega);exact Re.Gs j (by grind) (by rw[k,<-d];grind)),trivial⟩,t2,trivial⟩ rfl (by simp)
theorem dC (h:Al R u) (g:T=tw u) (b:A=em u x) (n:El u s x) (m:Fit u.length R s) {l:LR} (j:F2 283 u x l) (d:B=[]):CF 233 [.one (.sl (.sl AA) T),.one (.sl AA A)] (.AE [(false,[.sl AA B]),(false,[.bool false])]):=by
 refine AH Tryz.func233 (by kernel_rfl) rfl fun E f=>?_
 conv=>cbv
 refine cL f (j g b) t2 ?_;try conv=>cbv
 intro k a;cases a.trans (rfl:_=true);conv=>cbv
 exact fA ⟨⟨rfl,.inr (.inl ⟨_,congrArg _ (d)⟩),trivial⟩,t2,trivial⟩ rfl (by simp)
theorem dE (h:Al R u) (m:T=tw u) (k:A=em u x) (j:El u s x) (g:Fit u.length R s) (n:In u v) (d:0<=v) (a:v*v=x) (l:B=em u v):CF 233 [.one (.sl (.sl AA) T),.one (.sl AA A)] (.AE [(false,[.sl AA B]),(false,[.bool true])]):=by
 rcases Pr h j g.q with⟨w,hw,f,o⟩ |⟨b,_⟩
 ·exact dD h m k j g hw f o d a l
 exact absurd ⟨v,n,a⟩ b
theorem dB (h:Al R u) (k:T=tw u) (g:A=em u x) (f:El u s x) (d:Fit u.length R s) (a:¬Sq u x) (j:B=[]):CF 233 [.one (.sl (.sl AA) T),.one (.sl AA A)] (.AE [(false,[.sl AA B]),(false,[.bool false])]):=by
 rcases Pr h f d.q with⟨w,hw,b,n⟩ |⟨_,l,_,m⟩
 ·exact absurd ⟨w,hw,b⟩ a
 exact dC h k g f d m j
theorem QY (h:Al R u) (C:T=tw u) (hv:VV u.length R R<=60000000000000) (hq:QQ u.length R R<=60000000000000):CF 232 [.one (.sl (.sl AA) T)] (.one (.bool true)):=by
 have af:T.length=u.length:=by rw[C,BU]
 have hR:=h.hR;refine AH Tryz.func232 (by kernel_rfl) rfl fun E Q=>?_
 conv=>cbv
 intro n8 P;have e8:=P.eq;have f8:=P.le;conv=>cbv
 refine .inr ?_;obtain⟨J0,g⟩:=xJ fun vs bl k=>∃(i':Nat) (L i:Int),vs=[.one (.sl (.sl AA) T),.one (.sl (.sl AA) T),.one (.int .i64 L),.one (.int .i64 i)]/\(Cb L T.length/\AS i i'/\i'<=T.length)/\k=T.length-i'
 refine⟨[0,7,8,9],[],J0,⟨T.length-0,by rw[g];exact⟨0,n8,0,rfl,⟨P,BC 0,by omega⟩,rfl⟩⟩,?_⟩;intro vs bl ai hj;rw[g] at hj;obtain⟨i',L,i,rfl,⟨hL,hi,ag⟩,ah⟩:=hj;conv=>cbv
 have eL:=hL.eq;have ei:=hi.eq;intro Z v;conv=>cbv
 cases Z <;> conv=>cbv
 ·have V:=Ad v;exact fA ⟨t2,trivial⟩ rfl (by simp)
 have V:=Ae v;refine .inr ?_;obtain⟨t,f⟩:=AG (l:=T) (i:=i') (by omega);refine⟨t,fun _=>⟨by omega,by rw[show (i).toNat=i' by omega];exact f⟩,?_⟩;try conv=>cbv
 obtain⟨r,I,H⟩:=HS (u:=u) (i:=i') (by omega);have o:Ab (r::pre u i'):=I ▸ (h.pre (i'+1)).red;have S:t=Ao r:=by rw[<-C,f] at H;exact Option.some.inj H
 have a:t=em (pre u i') (AN (pre u i') r):=S.trans (DU o);have b:El (pre u i') R (AN (pre u i') r):=El.Ca (I ▸ h.pre (i'+1));intro aj aa;conv=>cbv
 refine g2 (by omega) ?_;intro K a6;conv=>cbv
 intro W D;conv=>cbv
 have j:W=tw (pre u i'):=by rw[D,List.drop_zero,show K=i' by omega,C,Gk]
 refine cL (r:= .one (.bool true)) Q (GR j (h.pre i').FA a (b.Bh hR) (by rw[b.len,List.length_reverse];exact (decide_eq_true rfl).symm)) t2 ?_;try conv=>cbv
 intro an O;cases O.trans (rfl:_=false);conv=>cbv
 intro ak ab;conv=>cbv
 refine g2 (by omega) ?_;intro M a7;conv=>cbv
 intro X F;conv=>cbv
 have m:X=tw (pre u i'):=by rw[F,List.drop_zero,show M=i' by omega,C,Gk]
 obtain⟨a5,d⟩:=xI (BJ (AN (pre u i') r));refine cL (r:= .one (.int .i64 a5)) Q (JZ (h.pre i') m a b (by rw[HR (by omega)];exact Nat.le_trans (Jb (by omega) R R) hv) (by rw[HR (by omega)];exact Nat.le_trans (Jb (by omega) R R) hv) d) t2 ?_;try conv=>cbv
 intro a1 z;conv=>cbv
 cases a1 <;> conv=>cbv
 ·have J:=Dg z;intro al ad;conv=>cbv
  refine g2 (by omega) ?_;intro N a8;conv=>cbv
  intro Y G;conv=>cbv
  have n:Y=tw (pre u i'):=by rw[G,List.drop_zero,show N=i' by omega,C,Gk]
  obtain⟨l,hl,hn⟩:=((Pr (h.pre i') b (by rw[HR (by omega)];exact Nat.le_trans (XA (by omega) R R) hq)).resolve_left (fun⟨w,hw,U,_⟩=>o.2.2.2 ⟨w,hw,U⟩)).2;refine cL Q (hn n a) t2 ?_;try conv=>cbv
  intro a2 ae;conv=>cbv
  refine g1 (by omega) ?_;refine⟨T.length-(i'+1),?_,?_⟩
  ·omega
  rw[g];exact⟨i'+1,L,a2,rfl,⟨hL,⟨by omega⟩,by omega⟩,rfl⟩
 have J:=Dh z;exact absurd J (by rw[d,Fq o.2.2.1];omega)
theorem Yc (h:Al R u) (b:T=tw u) (n:A=em u x) (k:El u s x) (a:Fit u.length R s) (G:In u v) (o:0<=v) (j:v*v=x) (C:B=em u v):CF 177 [.one (.sl (.sl AA) T),.one (.sl AA A)] (.AE [(false,[.sl (.sl AA) T]),(false,[.sl AA B]),(false,[.int .i64 0])]):=by
 have D:T.length=u.length:=by rw[b,BU]
 have F:=h.ht;have t:¬x<0:=by rw[<-j];have:=Re.IE v;grind
 refine AH Tryz.func177 (by kernel_rfl) rfl fun E f=>?_
 conv=>cbv
 refine .inr ?_;refine cL (r:= .one (.bool true)) f (GR b h.FA n (k.Bh a.s) (by rw[k.len,List.length_reverse];exact (decide_eq_true rfl).symm)) t2 ?_;try conv=>cbv
 intro H l;cases l.trans (rfl:_=false);conv=>cbv
 refine cL f (QY h b a.vR a.qR) t1 ?_;try conv=>cbv
 intro I m;cases m.trans (rfl:_=false);conv=>cbv
 obtain⟨J,g⟩:=xI (BJ x);refine cL f (JZ h b n k a.v0 a.vR g) t2 ?_;try conv=>cbv
 intro z d;conv=>cbv
 cases z <;> conv=>cbv
 ·have w:=Ad d;refine cL f (dE h b n k a G o j C) t2 ?_;try conv=>cbv
  refine cL f (ZQ (WL h b) (by omega)) t1 ?_;try conv=>cbv
  exact fA ⟨t2,t2,t2,trivial⟩ rfl (by simp)
 have w:=Ae d;exact absurd ((HJ (x:=x)).1 (by omega)) t
theorem Yd (h:Al R u) (f:T=tw u) (m:A=em u x) (w:El u s x) (j:Fit u.length R s) {R':Nat} {r:List Rat} {T2:List LR} (h8:u.length<8) (V:0<=x) (I:¬Sq u x) (U:r=co u x) (h':Al R' (r::u)) (G:T2=tw (r::u)) (Q:B=em (r::u) (rt u r)):CF 177 [.one (.sl (.sl AA) T),.one (.sl AA A)] (.AE [(false,[.sl (.sl AA) T2]),(false,[.sl AA B]),(false,[.int .i64 0])]):=by
 have H:T.length=u.length:=by rw[f,BU]
 have S:=h.ht;refine AH Tryz.func177 (by kernel_rfl) rfl fun E d=>?_
 conv=>cbv
 refine .inr ?_;refine cL (r:= .one (.bool true)) d (GR f h.FA m (w.Bh j.s) (by rw[w.len,List.length_reverse];exact (decide_eq_true rfl).symm)) t2 ?_;try conv=>cbv
 intro W D;cases D.trans (rfl:_=false);conv=>cbv
 refine cL d (QY h f j.vR j.qR) t1 ?_;try conv=>cbv
 intro X F;cases F.trans (rfl:_=false);conv=>cbv
 obtain⟨a1,t⟩:=xI (BJ x);refine cL d (JZ h f m w j.v0 j.vR t) t2 ?_;try conv=>cbv
 intro K k;conv=>cbv
 cases K <;> conv=>cbv
 ·have J:=Ad k;refine cL d (dB h f m w j I rfl) t2 ?_;try conv=>cbv
  rintro Y ⟨O,f36⟩;conv=>cbv
  intro L l;conv=>cbv
  cases L <;> conv=>cbv
  ·have z:=EC l;obtain⟨tn,v⟩:=xN T.length;refine cL d (SE (WL h f) (by omega) v) t1 ?_;try conv=>cbv
   have P:A.length=2^u.length:=by rw[m,BL w.mem]
   have N:=Cq h.ht;refine cL d (QE (by omega)) t1 ?_;try conv=>cbv
   refine⟨[A],fun _=>⟨rfl,by decide,rfl,⟨rfl,by first | exact t1 | exact t2 | exact t4 | simp[Aw,BF,cells],trivial⟩⟩,.inr ?_⟩;try conv=>cbv
   refine .inr ⟨[A],fun _=>⟨rfl,by rw[v],rfl,by show (T.length+1)*24<=140737488355328;(try simp only[List.length_take,List.length_drop]);omega⟩,?_⟩;intro (g:List (el (.sl AA))) M b;have n:g=(T:List (el (.sl AA)))++([A]:List (el (.sl AA))):=b.1;have o:M=List.length (α:=(el (.sl AA))) g:=b.2;conv=>cbv
   refine⟨fun _=>o,?_⟩;rintro Z ⟨C,f47⟩;conv=>cbv
   have a:g=tw (r::u):=by rw[n,f,Km,m,em,U]
   refine cL d (XL h' a (AS.of (C.trans (congrArg _ H))) Q) t2 ?_;try conv=>cbv
   exact fA ⟨⟨rfl,congrArg _ (by rw[G,a]),trivial⟩,t2,t2,trivial⟩ rfl (by simp)
  have z:=ED l;exact absurd z (by omega)
 have J:=Ae k;exact absurd ((HJ (x:=x)).1 (by omega)) (by grind)
end Go.Abs
namespace Go.Abs
open Go.RowKit
variable {A B:LR} {R s zn:Nat} {T:List LR} {c:Int} {i p q x y:Re} {r:List Rat} {u:List (List Rat)}
theorem Q2 {C:LR} (h:Al R (r::u)) (Y:T=tw (r::u)) (D:A=em (r::u) x) (hx:El (r::u) s x) (f:x=p+q*rt u r) (g:El u s p) (d:El u s q) (hb:2*s+2*EE u.length R+R+1<=60000000000000) (hC:C=em u (p*p-q*q*AN u r)):CF 239 [.one (.sl (.sl AA) T),.one (.sl AA A)] (.one (.sl AA C)):=by
 have au:T.length=u.length+1:=by rw[Y,BU];rfl
 have ar:A.length=2^u.length+2^u.length:=by rw[D,BL hx.mem,Bc]
 have O:=El.Ca h;have hR:=h.hR;refine AH Tryz.func239 (by kernel_rfl) rfl fun E Q=>?_
 conv=>cbv
 rintro n9 ⟨e9,f9⟩;conv=>cbv
 intro aA an;conv=>cbv
 refine g2 ⟨by omega,by omega,i64 (by omega)⟩ ?_;rintro aB ⟨ak,f13⟩;conv=>cbv
 intro aC ao;conv=>cbv
 refine g1 (by omega) ?_;intro av af;conv=>cbv
 refine g2 (by omega) ?_;intro V ab;conv=>cbv
 intro Z H;conv=>cbv
 rintro aD ⟨al,f18⟩;conv=>cbv
 intro a7 aq;conv=>cbv
 refine g1 (by omega) ?_;obtain⟨P,b⟩:=AG (l:=T) (i:=(T.length-1)) (by omega);refine⟨P,fun _=>⟨by omega,by rw[show (a7).toNat=(T.length-1) by omega];exact b⟩,?_⟩;try conv=>cbv
 refine g2 rfl ?_;intro aw ag;conv=>cbv
 refine g2 (by omega) ?_;intro W ad;conv=>cbv
 intro a1 I;conv=>cbv
 intro ax ah;conv=>cbv
 refine g2 (by omega) ?_;intro X ae;conv=>cbv
 intro a2 J;conv=>cbv
 have a:Z=tw u:=by rw[H,List.drop_zero,show V=T.length-1 by omega,Y,DA]
 have o:a1=em u p:=by rw[I,List.drop_zero,show W=A.length/2 by omega,D,B9 h.red g.mem d.mem f]
 have t:a2=em u p:=by rw[J,List.drop_zero,show X=A.length/2 by omega,D,B9 h.red g.mem d.mem f]
 obtain⟨aE,j⟩:=xR (em u (p*p));refine cL Q (DM h.tail a o t g g (by omega) j) t3 ?_;try conv=>cbv
 intro ay M;conv=>cbv
 refine g2 (by omega) ?_;rintro S ai ⟨a8,F⟩;conv=>cbv
 intro a5 K;conv=>cbv
 intro az N;conv=>cbv
 refine g2 (by omega) ?_;rintro U aj ⟨aa,G⟩;conv=>cbv
 intro a6 L;conv=>cbv
 have v:a5=em u q:=by rw[K,show S=A.length/2 by omega,F,M,List.take_length,D,Bo h.red g.mem d.mem f]
 have w:a6=em u q:=by rw[L,show U=A.length/2 by omega,G,N,List.take_length,D,Bo h.red g.mem d.mem f]
 obtain⟨aF,k⟩:=xR (em u (q*q));refine cL Q (DM h.tail a v w d d (by omega) k) t3 ?_;try conv=>cbv
 have z:P=em u (AN u r):=by rw[Y,ES] at b;exact (Option.some.inj b).symm.trans (DU h.red)
 obtain⟨aG,m⟩:=xR (em u (q*q*AN u r));refine cL Q (DM h.tail a k z (d.mul h.tail d) O (by omega) m) t3 ?_;try conv=>cbv
 obtain⟨aH,n⟩:=xR (em u (p*p-q*q*AN u r));refine cL Q (LC h.tail j m (g.mul h.tail g) ((d.mul h.tail d).mul h.tail O) (by omega) (by omega) n) t3 ?_;try conv=>cbv
 refine g2 rfl ?_;exact fA ⟨⟨rfl,congrArg _ (by rw[hC,n]),trivial⟩,trivial⟩ rfl (by simp)
def NL (R:Nat) (u:List (List Rat)):Prop:=∀{T:List LR} {A B:LR} {zn s:Nat} {x y:Re},T=tw u->A=em u x->El u s x->In u y->x*y=1->II u.length R s<=60000000000000->B=em u y->zn=B.length->
 CF 188 [.one (.sl (.sl AA) T),.one (.sl AA A)] (.AE [(false,[.own AA B zn]),(false,[.int .i64 0])])
theorem X6 {p q:Rat} (P:T=[]) (C:A=[rp p]) (M:B=[rp q]) (h:p≠0) (D:q=1/p) (F:zn=B.length):CF 188 [.one (.sl (.sl AA) T),.one (.sl AA A)] (.AE [(false,[.own AA B zn]),(false,[.int .i64 0])]):=by
 refine AH Tryz.func188 (by kernel_rfl) rfl fun E O=>?_
 conv=>cbv
 rintro S ⟨w,f13⟩;conv=>cbv
 intro H f;conv=>cbv
 cases H <;> conv=>cbv
 ·have k:=Au f;exact absurd (by rw[w,P];rfl) k
 have k:=Av f;have N:A.length=1:=by rw[C];rfl
 obtain⟨m,a⟩:=AG (l:=A) (i:=0) (by omega);refine⟨m,fun _=>⟨by omega,a⟩,?_⟩;try conv=>cbv
 have j:=D2 C a;rintro I ⟨z,f20⟩;conv=>cbv
 have L:I=((List.length (α:=UInt32) m.1.2:Nat):Int):=z;intro J g;conv=>cbv
 cases J <;> conv=>cbv
 ·have G:=Au g;obtain⟨K,b⟩:=AG (l:=A) (i:=0) (by omega);refine⟨K,fun _=>⟨by omega,b⟩,?_⟩;try conv=>cbv
  have Q:=D2 C b;obtain⟨t,v,n,o,d⟩:=Bb q;refine cL O (Xi Q h D d) ⟨t4,trivial⟩ ?_;try conv=>cbv
  refine⟨[((t,v),(n,o))],fun _=>⟨rfl,by decide,rfl,⟨rfl,by first | exact t1 | exact t2 | exact t4 | simp[Aw,BF,cells],trivial⟩⟩,.inl ?_⟩;try conv=>cbv
  exact fA ⟨⟨rfl,.inr (.inl ⟨_,_,by decide,rfl,rfl,rfl,rfl,C2 (by rw[M,d.rp]) (by rw[F,M];rfl)⟩),trivial⟩,t2,trivial⟩ rfl (by simp)
 have G:=Av g;exact absurd (Rat.num_eq_zero.1 (j.num.Eb.1 (by omega))) h
theorem X8 {y:Re} (h:Al R (r::u)) (ih:NL R u) (hT:T=tw (r::u)) (Q:A=em (r::u) x) (hx:El (r::u) s x) (J:x=p+q*rt u r) (U:El u s p) (W:El u s q) (h0:q=0) (S:In u i) (V:p*i=1) (hs:II (r::u).length R s<=60000000000000) (hB:B=em (r::u) i) (X:zn=B.length):CF 188 [.one (.sl (.sl AA) T),.one (.sl AA A)] (.AE [(false,[.own AA B zn]),(false,[.int .i64 0])]):=by
 have ay:T.length=u.length+1:=by rw[hT,BU];rfl
 have aw:A.length=2^u.length+2^u.length:=by rw[Q,BL hx.mem,Bc]
 have ax:II (r::u).length R s=s+EE u.length R+II u.length R (2*s+2*EE u.length R+R+1):=rfl;have af:=Hh u.length R (s:=s) (t:=2*s+2*EE u.length R+R+1) (by omega);refine AH Tryz.func188 (by kernel_rfl) rfl fun E L=>?_
 conv=>cbv
 rintro aC ⟨ao,f13⟩;conv=>cbv
 intro a2 w;conv=>cbv
 cases a2 <;> conv=>cbv
 ·have K:=Au w;rintro aD ⟨aq,f28⟩;conv=>cbv
  intro aE au;conv=>cbv
  refine g2 ⟨by omega,by omega,i64 (by omega)⟩ ?_;rintro aF ⟨ar,f32⟩;conv=>cbv
  intro aG av;conv=>cbv
  refine g1 (by omega) ?_;intro az ad;conv=>cbv
  refine g2 (by omega) ?_;intro N a7;conv=>cbv
  intro Y C;conv=>cbv
  intro aA H;conv=>cbv
  refine g2 (by omega) ?_;rintro M an ⟨a6,z⟩;conv=>cbv
  intro Z D;conv=>cbv
  have n:Z=em u q:=by rw[D,show M=A.length/2 by omega,z,H,List.take_length,Q,Bo h.red U.mem W.mem J]
  refine cL L (GY h.tail.red W.mem n h0) t1 ?_;try conv=>cbv
  intro aB ae;conv=>cbv
  refine g2 (by omega) ?_;intro O a8;conv=>cbv
  intro a1 F;conv=>cbv
  have a:Y=tw u:=by rw[C,List.drop_zero,show N=T.length-1 by omega,hT,DA]
  have o:a1=em u p:=by rw[F,List.drop_zero,show O=A.length/2 by omega,Q,B9 h.red U.mem W.mem J]
  obtain⟨j,b⟩:=xR (em u i);obtain⟨ah,d⟩:=xN j.length;refine cL L (ih a o U S V (by omega) b d) t2 ?_;try conv=>cbv
  intro aH P;cases P.trans (show _=false by decide);conv=>cbv
  obtain⟨ak,al,ai,aj,l⟩:=Bb (((0:Int):Rat));refine cL L (D7 (by omega) rfl l) t1 ?_;try conv=>cbv
  obtain⟨g,f⟩:=xR (em u (0));refine cL (r:= .one (.sl AA g)) L (FC h.tail a l (by rw[show Re.ofRat ((0:Int):Rat)=0 from rfl];exact f)) ⟨rfl,t4,trivial⟩ ?_;try conv=>cbv
  have aa:j.length=2^u.length:=by rw[b,BL S]
  have ab:g.length=2^u.length:=by rw[f,BL (Bp u)]
  have ag:=Cq h.tail.ht;refine .inl ⟨g,fun _=>⟨rfl,d,rfl,by show (j.length+g.length)*64<=140737488355328;(try simp only[List.length_take,List.length_drop]);omega⟩,?_⟩;intro (v:LR) a5 m;have G:v=(j:LR)++(g:LR):=m.1;have I:a5=List.length (α:=(el AA)) v:=m.2;conv=>cbv
  have k:B=v:=by rw[hB,G,b,f];exact EA h.red S (Bp u) (by clear ih;grind)
  exact fA ⟨⟨rfl,.inr (.inl ⟨_,_,by decide,rfl,rfl,I,rfl,C2 (k) (by rw[X,k])⟩),trivial⟩,t2,trivial⟩ rfl (by simp)
 have K:=Av w;exact absurd K (by omega)
theorem X7 (h:Al R (r::u)) (ih:NL R u) (hT:T=tw (r::u)) (J:A=em (r::u) x) (hx:El (r::u) s x) (k:x=p+q*rt u r) (t:El u s p) (l:El u s q) (h0:q≠0) (hi:In u i) (K:(p*p-q*q*AN u r)*i=1) (hy:y=p*i+ -q*i*rt u r) (hs:II (r::u).length R s<=60000000000000) (hB:B=em (r::u) y) (a7:zn=B.length):CF 188 [.one (.sl (.sl AA) T),.one (.sl AA A)] (.AE [(false,[.own AA B zn]),(false,[.int .i64 0])]):=by
 have aE:T.length=u.length+1:=by rw[hT,BU];rfl
 have aC:A.length=2^u.length+2^u.length:=by rw[J,BL hx.mem,Bc]
 have aD:II (r::u).length R s=s+EE u.length R+II u.length R (2*s+2*EE u.length R+R+1):=rfl;have hN:=El.norm h t.mem l.mem (k ▸ hx);have b:=hN.inv h.tail hi K;have aq:=Dn u.length R (2*s+2*EE u.length R+R+1);have W:=(l.neg h.red.1).mul h.tail b;refine AH Tryz.func188 (by kernel_rfl) rfl fun E H=>?_
 conv=>cbv
 rintro aJ ⟨ax,f13⟩;conv=>cbv
 intro ae I;conv=>cbv
 cases ae <;> conv=>cbv
 ·have Y:=Au I;rintro aK ⟨ay,f28⟩;conv=>cbv
  intro aL aA;conv=>cbv
  refine g2 ⟨by omega,by omega,i64 (by omega)⟩ ?_;rintro aM ⟨az,f32⟩;conv=>cbv
  intro aN aB;conv=>cbv
  refine g1 (by omega) ?_;intro aF an;conv=>cbv
  refine g2 (by omega) ?_;intro a2 ai;conv=>cbv
  intro a8 N;conv=>cbv
  intro aG U;conv=>cbv
  refine g2 (by omega) ?_;rintro Z av ⟨ag,L⟩;conv=>cbv
  intro aa O;conv=>cbv
  have C:aa=em u q:=by rw[O,show Z=A.length/2 by omega,L,U,List.take_length,J,Bo h.red t.mem l.mem k]
  refine cL H (G0 h.tail.red l.mem C h0) t1 ?_;try conv=>cbv
  have a:a8=tw u:=by rw[N,List.drop_zero,show a2=T.length-1 by omega,hT,DA]
  obtain⟨aP,v⟩:=xR (em u (p*p-q*q*AN u r));refine cL H (Q2 h hT J hx k t l (by omega) v) t2 ?_;try conv=>cbv
  obtain⟨aQ,d⟩:=xR (em u i);refine cL H (Cl (ih a v hN hi K (by omega) d rfl)) t2 ?_;try conv=>cbv
  intro aO a6;cases a6.trans (show _=false by decide);conv=>cbv
  intro aH ao;conv=>cbv
  refine g2 (by omega) ?_;intro a5 aj;conv=>cbv
  intro ab P;conv=>cbv
  have D:ab=em u p:=by rw[P,List.drop_zero,show a5=A.length/2 by omega,J,B9 h.red t.mem l.mem k]
  obtain⟨m,f⟩:=xR (em u (p*i));obtain⟨au,g⟩:=xN m.length;refine cL H (Wf h.tail a D d t b (by omega) f g) t3 ?_;try conv=>cbv
  intro aI V;conv=>cbv
  refine g2 (by omega) ?_;rintro a1 aw ⟨ah,M⟩;conv=>cbv
  intro ad Q;conv=>cbv
  have F:ad=em u q:=by rw[Q,show a1=A.length/2 by omega,M,V,List.take_length,J,Bo h.red t.mem l.mem k]
  obtain⟨aR,w⟩:=xR (em u (-q));refine cL H (IV h.tail F l w) t2 ?_;try conv=>cbv
  obtain⟨n,j⟩:=xR (em u (-q*i));refine cL H (DM h.tail a w d (l.neg h.red.1) b (by omega) j) t3 ?_;try conv=>cbv
  have ak:m.length=2^u.length:=by rw[f,BL (t.mul h.tail b).mem]
  have al:n.length=2^u.length:=by rw[j,BL W.mem]
  have ar:=Cq h.tail.ht;refine .inl ⟨n,fun _=>⟨rfl,g,rfl,by show (m.length+n.length)*64<=140737488355328;(try simp only[List.length_take,List.length_drop]);omega⟩,?_⟩;intro (G:LR) af z;have S:G=(m:LR)++(n:LR):=z.1;have X:af=List.length (α:=(el AA)) G:=z.2;conv=>cbv
  refine g2 rfl ?_;have o:B=G:=by rw[hB,S,f,j];exact EA h.red (t.mul h.tail b).mem W.mem hy
  exact fA ⟨⟨rfl,.inr (.inl ⟨_,_,by decide,rfl,rfl,X,rfl,C2 (o) (by rw[a7,o])⟩),trivial⟩,t2,trivial⟩ rfl (by simp)
 have Y:=Av I;exact absurd Y (by omega)
theorem gx (h:Al R u):NL R u:=by
 induction u with
 | nil=>
  intro T A B zn s x y t j g G b D k f;obtain⟨p,rfl⟩:=CI.1 g.mem;obtain⟨q,rfl⟩:=CI.1 G;rw[DT] at j k;rw[<-Re.ofRat_mul] at b;have e:=Re.Du.1 b;exact X6 t j k (by intro H;subst H;grind) (by grind) f
 | cons r u d=>
  intro T A B zn s x y t j g G b D k f;obtain⟨p,q,a,m,v⟩:=El.parts h.red g;have L:=CO h.red;have J:(0:Re)<1:=Re.HO.2 (show (0:Rat)<1 by decide)
  by_cases o:q=0
  ·have C:p≠0:=by intro e;rw[e,o] at a;rw[a] at b;clear d;grind
   obtain⟨i,z,n⟩:=EF h.red.1 m.mem C
   have F:y=i:=by
    have:y=i*(x*y):=by
     have I:x=p:=by rw[a,o];clear d;grind
     rw[I];have:i*(p*y)=y*(p*i):=by clear d;grind
     rw[this,n];clear d;grind
    rw[b] at this;clear d;grind
   exact X8 (y:=y) h (d h.tail) t j g a m v o z n D (F ▸ k) f
  have K:=El.norm h m.mem v.mem (a ▸ g);have w:p*p-q*q*AN u r≠0:=UB h.red m.mem v.mem (by intro e;rw[<-a] at e;rw[e] at b;clear d;grind);obtain⟨i,z,l⟩:=EF h.red.1 K.mem w;refine X7 h (d h.tail) t j g a m v o z l ?_ D k f
  have:y=x*y*((p-q*rt u r)*i):=by
   have:x*y*((p-q*rt u r)*i)=y*((p*p-q*q*AN u r)*i):=by rw[a];clear d;grind
   rw[this,l];clear d;grind
  rw[b] at this
  clear d;grind
theorem LB (h:Al R u) (f:T=tw u) (b:A=em u x) (j:El u s x) (k:In u y) (a:x*y=1) (g:II u.length R s<=60000000000000) (d:B=em u y):
 CF 188 [.one (.sl (.sl AA) T),.one (.sl AA A)] (.AE [(false,[.sl AA B]),(false,[.int .i64 0])]):=Cl (gx h f b j k a g d rfl)
theorem X4 (C:T=[]) (w:A=[rp 0]):CF 188 [.one (.sl (.sl AA) T),.one (.sl AA A)] (.AE [(false,[.sl AA (([]:LR))]),(false,[.int .i64 6])]):=by
 refine AH Tryz.func188 (by kernel_rfl) rfl fun E F=>?_
 conv=>cbv
 rintro D ⟨m,f13⟩;conv=>cbv
 intro o d;conv=>cbv
 cases o <;> conv=>cbv
 ·have h:=Au d;exact absurd (by rw[m,C];rfl) h
 have h:=Av d;have z:A.length=1:=by rw[w];rfl
 obtain⟨k,a⟩:=AG (l:=A) (i:=0) (by omega);refine⟨k,fun _=>⟨by omega,a⟩,?_⟩;try conv=>cbv
 have g:=D2 w a;rintro t ⟨n,f20⟩;conv=>cbv
 have b:t=((List.length (α:=UInt32) k.1.2:Nat):Int):=n;intro v f;conv=>cbv
 cases v <;> conv=>cbv
 ·have j:=Au f;exact absurd (by rw[b,g.num.Eb.2 rfl];rfl) j
 have j:=Av f;exact fA ⟨⟨rfl,.inr (.inl ⟨_,rfl⟩),trivial⟩,t2,trivial⟩ rfl (by simp)
theorem X5 (h:Al R (r::u)) (ih:∀{T A},T=tw u->A=em u 0->CF 188 [.one (.sl (.sl AA) T),.one (.sl AA A)] (.AE [(false,[.sl AA []]),(false,[.int .i64 6])])) (J:T=tw (r::u)) (C:A=em (r::u) 0):CF 188 [.one (.sl (.sl AA) T),.one (.sl AA A)] (.AE [(false,[.sl AA (([]:LR))]),(false,[.int .i64 6])]):=by
 have Z:El (r::u) 0 0:=El.rat h.red Gb;have f:(0:Re)=0+0*rt u r:=by grind
 have Y:T.length=u.length+1:=by rw[J,BU];rfl
 have X:A.length=2^u.length+2^u.length:=by rw[C,BL Z.mem,Bc]
 refine AH Tryz.func188 (by kernel_rfl) rfl fun E I=>?_
 conv=>cbv
 rintro a6 ⟨Q,f13⟩;conv=>cbv
 intro H g;conv=>cbv
 cases H <;> conv=>cbv
 ·have o:=Au g;rintro a7 ⟨S,f28⟩;conv=>cbv
  intro a8 V;conv=>cbv
  refine g2 ⟨by omega,by omega,i64 (by omega)⟩ ?_;rintro aa ⟨U,f32⟩;conv=>cbv
  intro ab W;conv=>cbv
  refine g1 (by omega) ?_;intro a1 N;conv=>cbv
  refine g2 (by omega) ?_;intro v L;conv=>cbv
  intro D k;conv=>cbv
  intro a2 n;conv=>cbv
  refine g2 (by omega) ?_;rintro t P ⟨K,j⟩;conv=>cbv
  intro F l;conv=>cbv
  have b:F=em u 0:=by rw[l,show t=A.length/2 by omega,j,n,List.take_length,C,Bo h.red (Bp u) (Bp u) f]
  refine cL I (GY h.tail.red (Bp u) b rfl) t1 ?_;try conv=>cbv
  intro a5 O;conv=>cbv
  refine g2 (by omega) ?_;intro w M;conv=>cbv
  intro G m;conv=>cbv
  have a:D=tw u:=by rw[k,List.drop_zero,show v=T.length-1 by omega,J,DA]
  have d:G=em u 0:=by rw[m,List.drop_zero,show w=A.length/2 by omega,C,B9 h.red (Bp u) (Bp u) f]
  refine cL I (ih a d) t2 ?_;try conv=>cbv
  intro ad z;cases z.trans (show _=true by decide);conv=>cbv
  exact fA ⟨⟨rfl,.inr (.inl ⟨_,rfl⟩),trivial⟩,t2,trivial⟩ rfl (by simp)
 have o:=Av g;exact absurd o (by omega)
theorem Q0:∀{u:List (List Rat)} {R:Nat},Al R u->∀{T A},T=tw u->A=em u 0->CF 188 [.one (.sl (.sl AA) T),.one (.sl AA A)] (.AE [(false,[.sl AA []]),(false,[.int .i64 6])])
 | [],R,h=>fun b a=>X4 b (a.trans (DT 0))
 | r::u,R,h=>fun b a=>X5 h (Q0 h.tail) b a
def Qv (R:Nat) (u:List (List Rat)):Prop:=∀{T:List LR} {A:LR} {s:Nat} {x:Re} {c:Int},T=tw u->A=em u x->El u s x->VV u.length R s<=60000000000000->c=BJ x->
 CF 181 [.one (.sl (.sl AA) T),.one (.sl AA A)] (.one (.int .i64 c))
theorem YX {p:Rat} (o:T=[]) (k:A=[rp p]) (t:c=Dk p):CF 181 [.one (.sl (.sl AA) T),.one (.sl AA A)] (.one (.int .i64 c)):=by
 refine AH Tryz.func181 (by kernel_rfl) rfl fun E n=>?_
 conv=>cbv
 rintro v ⟨g,f11⟩;conv=>cbv
 intro h d;conv=>cbv
 cases h <;> conv=>cbv
 ·have f:=Au d;exact absurd (by rw[g,o];rfl) f
 have f:=Av d;have m:A.length=1:=by rw[k];rfl
 obtain⟨j,b⟩:=AG (l:=A) (i:=0) (by omega);refine⟨j,fun _=>⟨by omega,b⟩,?_⟩;try conv=>cbv
 obtain⟨w,a⟩:=xI (Dk p);refine cL n (Qq (D2 k b) a) ⟨t4,trivial⟩ ?_;try conv=>cbv
 exact fA ⟨⟨rfl,congrArg _ (t.trans a.symm),trivial⟩,trivial⟩ rfl (by simp)
theorem YY (h:Al R (r::u)) (ih:Qv R u) (I:T=tw (r::u)) (V:A=em (r::u) x) (Y:El (r::u) s x) (hs:VV (r::u).length R s<=60000000000000) (X:c=BJ x):CF 181 [.one (.sl (.sl AA) T),.one (.sl AA A)] (.one (.int .i64 c)):=by
 obtain⟨p,q,d,Q,S⟩:=El.parts h.red Y;have aF:T.length=u.length+1:=by rw[I,BU];rfl
 have aE:A.length=2^u.length+2^u.length:=by rw[V,BL Y.mem,Bc]
 have aH:VV (r::u).length R s=VV u.length R (2*s+2*EE u.length R+R+1):=rfl;have aI:=Ei u.length R (2*s+2*EE u.length R+R+1);have aG:=GV u.length R (s:=s) (t:=2*s+2*EE u.length R+R+1) (by omega);have hN:=El.norm h Q.mem S.mem (d ▸ Y);have g:=VK h.red;have a7:=CO h.red;refine AH Tryz.func181 (by kernel_rfl) rfl fun E W=>?_
 conv=>cbv
 rintro aN ⟨ax,f11⟩;conv=>cbv
 intro af C;conv=>cbv
 cases af <;> conv=>cbv
 ·have U:=Au C;rintro aO ⟨ay,f18⟩;conv=>cbv
  intro aP aB;conv=>cbv
  refine g1 (by omega) ?_;rintro aQ ⟨az,f22⟩;conv=>cbv
  intro aR aC;conv=>cbv
  refine g2 ⟨by omega,by omega,i64 (by omega)⟩ ?_;intro aJ aq;conv=>cbv
  refine g2 (by omega) ?_;intro a1 ak;conv=>cbv
  intro a8 K;conv=>cbv
  rintro aS ⟨aA,f27⟩;conv=>cbv
  intro aT aD;conv=>cbv
  refine g2 ⟨by omega,by omega,i64 (by omega)⟩ ?_;intro aK P;conv=>cbv
  refine g2 (by omega) ?_;rintro Z aw ⟨aj,J⟩;conv=>cbv
  intro aa L;conv=>cbv
  refine g2 rfl ?_;intro m32 ar;conv=>cbv
  refine g2 (by omega) ?_;intro a2 al;conv=>cbv
  intro ab M;conv=>cbv
  have m:ab=tw u:=by rw[M,List.drop_zero,show a2=T.length-1 by omega,I,DA]
  have k:a8=em u p:=by rw[K,List.drop_zero,show a1=A.length/2 by omega,V,B9 h.red Q.mem S.mem d]
  obtain⟨aV,a⟩:=xI (BJ p);refine cL W (ih m k Q (by omega) a) t2 ?_;try conv=>cbv
  intro aL au;conv=>cbv
  refine g2 (by omega) ?_;intro a5 an;conv=>cbv
  intro ad N;conv=>cbv
  have n:ad=tw u:=by rw[N,List.drop_zero,show a5=T.length-1 by omega,I,DA]
  have l:aa=em u q:=by rw[L,show Z=A.length/2 by omega,J,P,List.take_length,V,Bo h.red Q.mem S.mem d]
  obtain⟨aW,b⟩:=xI (BJ q);refine cL W (ih n l S (by omega) b) t2 ?_;try conv=>cbv
  refine g2 rfl ?_;intro ag D;conv=>cbv
  cases ag <;> conv=>cbv
  ·have v:=Au D;intro ah F;conv=>cbv
   cases ah <;> conv=>cbv
   ·have w:=Au F;intro ai G;conv=>cbv
    cases ai <;> conv=>cbv
    ·have z:=Au G;intro aM av;conv=>cbv
     refine g2 (by omega) ?_;intro a6 ao;conv=>cbv
     intro ae O;conv=>cbv
     have o:ae=tw u:=by rw[O,List.drop_zero,show a6=T.length-1 by omega,I,DA]
     obtain⟨aY,j⟩:=xR (em u (p*p-q*q*AN u r));refine cL W (Q2 h I V Y d Q S (by omega) j) t2 ?_;try conv=>cbv
     obtain⟨aX,f⟩:=xI (BJ (p*p-q*q*AN u r));refine cL W (ih o j hN (by omega) f) t2 ?_;try conv=>cbv
     intro aU H;conv=>cbv
     refine⟨fun _=>by rw[H,a,f];exact VZ _ _,?_⟩;refine g2 rfl ?_;exact fA ⟨⟨rfl,congrArg _ (by rw[X,H,a,f,d];exact Vc g a7 (fun e=>z (by rw[a,e];exact Dw)) (fun e=>v (by rw[b,e];exact Dw)) (by rw[<-a,<-b];exact w)),trivial⟩,trivial⟩ rfl (by simp)
    have z:=Av G;exact fA ⟨⟨rfl,congrArg _ (by rw[X,b,d];exact Vf g (Dv.1 (a ▸ z))),trivial⟩,trivial⟩ rfl (by simp)
   have w:=Av F;exact fA ⟨⟨rfl,congrArg _ (by rw[X,a,d];exact Mo g (.inr (by rw[<-a,<-b];exact w))),trivial⟩,trivial⟩ rfl (by simp)
  have v:=Av D;exact fA ⟨⟨rfl,congrArg _ (by rw[X,a,d];exact Mo g (.inl (Dv.1 (b ▸ v)))),trivial⟩,trivial⟩ rfl (by simp)
 have U:=Av C;exact absurd U (by omega)
theorem QB (h:Al R u):Qv R u:=by
 induction u with
 | nil=>
  intro T A s x c b a f g d;obtain⟨p,rfl⟩:=CI.1 f.mem;rw[DT] at a;exact YX b a (d.trans (Vb p))
 | cons r u j=>
  intro T A s x c b a f g d;exact YY h (j h.tail) b a f g d
end Go.Abs
namespace Go.Abs
open Go.RowKit
variable {A:LR} {R s:Nat} {T:List LR} {c:Int} {u:List (List Rat)} {x:Re}
theorem XY (h:Al R u) (d:T=tw u) (a:A=em u x) (j:El u s x) (g:VV u.length R s<=60000000000000) (f:c=BJ x):CF 95 [.one (.sl (.sl AA) T),.one (.sl AA A)] (.one (.int .i64 c)):=by
 refine AH Tryz.func95 (by kernel_rfl) rfl fun E b=>?_
 conv=>cbv
 refine cL b (QB h d a j g f) t2 ?_;try conv=>cbv
 exact fA ⟨t2,trivial⟩ rfl (by simp)
theorem Xn (h:Al R u) (C:T=tw u) (hs:VV u.length R R<=60000000000000):CF 313 [.one (.sl (.sl AA) T)] (.one (.bool true)):=by
 have W:T.length=u.length:=by rw[C,BU]
 refine AH Tryz.func313 (by kernel_rfl) rfl fun E M=>?_
 conv=>cbv
 refine cL M (Qt h C) t1 ?_;try conv=>cbv
 intro n6 V;cases V.trans (rfl:_=false);conv=>cbv
 refine .inr ?_;obtain⟨Q,d⟩:=xJ fun vs S k=>∃(i':Nat) (i:Int),vs=[.one (.sl (.sl AA) T),.one (.int .i64 i)]/\(AS i i'/\i'<=T.length)/\k=T.length-i'
 refine⟨[0,3],[],Q,⟨T.length-0,by rw[d];exact⟨0,0,rfl,⟨BC 0,by omega⟩,rfl⟩⟩,?_⟩;intro vs S a1 O;rw[d] at O;obtain⟨i',i,rfl,⟨X,Y⟩,Z⟩:=O;conv=>cbv
 have ei:=X.eq;rintro n9 ⟨e9,f9⟩;conv=>cbv
 intro I m;conv=>cbv
 cases I <;> conv=>cbv
 ·have G:=Ad m;exact fA ⟨t2,trivial⟩ rfl (by simp)
 have G:=Ae m;refine .inr ?_;intro a2 P;conv=>cbv
 refine g2 (by omega) ?_;intro D N;conv=>cbv
 intro H o;conv=>cbv
 obtain⟨j,b⟩:=AG (l:=T) (i:=i') (by omega);refine⟨j,fun _=>⟨by omega,by rw[show (i).toNat=i' by omega];exact b⟩,?_⟩;try conv=>cbv
 obtain⟨r,w,v⟩:=HS (u:=u) (i:=i') (by omega);have t:Ab (r::pre u i'):=w ▸ (h.pre (i'+1)).red;have F:j=Ao r:=by rw[<-C,b] at v;exact Option.some.inj v
 have g:j=em (pre u i') (AN (pre u i') r):=F.trans (DU t);have f:H=tw (pre u i'):=by rw[o,List.drop_zero,show D=i' by omega,C,Gk]
 obtain⟨L,a⟩:=xI (BJ (AN (pre u i') r));refine cL (r:= .one (.int .i64 L)) M (QB (h.pre i') f g (El.Ca (w ▸ h.pre (i'+1))) (by rw[HR (by omega)];exact Nat.le_trans (Jb (by omega) R R) hs) a) t2 ?_;try conv=>cbv
 intro K n;conv=>cbv
 refine g2 rfl ?_;cases K <;> conv=>cbv
 ·have z:=Dg n;intro J U;conv=>cbv
  refine g1 (by omega) ?_;refine⟨T.length-(i'+1),?_,?_⟩
  ·omega
  rw[d];exact⟨i'+1,J,rfl,⟨⟨by omega⟩,by omega⟩,rfl⟩
 have z:=Dh n;exact absurd (a.trans (Fq t.2.2.1)) z
theorem FQ (h:Al R u) (d:T=tw u) (g:A=em u x) (j:El u s x) (m:VV u.length R s<=60000000000000) (f:s<=60000000000000) (hR:VV u.length R R<=60000000000000) (l:c=BJ x):CF 274 [.one (.sl (.sl AA) T),.one (.sl AA A)] (.one (.int .i64 c)):=by
 refine AH Tryz.func274 (by kernel_rfl) rfl fun E b=>?_
 conv=>cbv
 refine cL b (Jc h d g j f) t2 ?_;try conv=>cbv
 intro o k;cases k.trans (rfl:_=false);conv=>cbv
 refine cL b (Xn h d hR) t1 ?_;try conv=>cbv
 intro n a;cases a.trans (rfl:_=false);conv=>cbv
 refine cL b (QB h d g j m l) t2 ?_;try conv=>cbv
 exact fA ⟨t2,trivial⟩ rfl (by simp)
theorem Xo {C:LR} {r:List Rat} {k:Int} (h:Al R (r::u)) (N:T=tw (r::u)) (P:AS k u.length) (M:C=em (r::u) (rt u r)):CF 279 [.one (.sl (.sl AA) T),.one (.int .i64 k)] (.one (.sl AA C)):=by
 have L:=P.eq;have O:(r::u).length<=16:=h.ht;have Q:(r::u).length=u.length+1:=rfl;refine AH Tryz.func279 (by kernel_rfl) rfl fun E D=>?_
 conv=>cbv
 obtain⟨Y,Z,W,X,w⟩:=Bb (((0:Int):Rat));refine cL D (D7 (by omega) rfl w) t1 ?_;try conv=>cbv
 obtain⟨o,l⟩:=xR (em (r::u) (0));obtain⟨G,v⟩:=xN o.length;refine cL (r:= .one (.own AA o G)) D (Qk h N w (by rw[show Re.ofRat ((0:Int):Rat)=0 from rfl];exact l) v) ⟨rfl,t4,trivial⟩ ?_;try conv=>cbv
 intro V z;conv=>cbv
 refine g2 (by omega) ?_;have K:=(D3 (k:=u.length) z L (by omega)).eq;obtain⟨g,j,d,f,b⟩:=Bb (((1:Int):Rat));refine cL D (D7 (by omega) rfl b) t1 ?_;try conv=>cbv
 have S:o.length=2^u.length+2^u.length:=by rw[l,BL (Bp _),Bc]
 have U:=DG u.length;have J:=Cq (n:=u.length) (by omega);refine g2 (by omega) ?_;intro F I;conv=>cbv
 refine⟨((g,j),(d,f)),fun _=>⟨by show _<List.length (α:=(el AA)) o;(first | omega | (simp;omega)),by first | exact t1 | exact t2 | exact t4 | simp[Aw,BF,cells]⟩,?_⟩;intro (m:LR) (a:m=List.set (α:=(el AA)) o F (((g,j),(d,f))));have H:m.length=o.length:=by rw[a,List.length_set]
 conv=>cbv
 refine g2 rfl ?_;have t:C=m:=by rw[M,Si h.red,a,l];congr 1 <;> first | omega | exact b.rp
 exact fA ⟨⟨rfl,.inl ⟨_,rfl,by omega,congrArg _ (by rw[t,List.drop_zero,List.take_of_length_le (by omega)])⟩,trivial⟩,trivial⟩ rfl (by simp)
end Go.Abs
