/- Part 33 of a proof. Conditions: each theorem's own. -/
import Derived.Test.YtjpiilcgomggaaaGreatPk30
import Derived.Test.YtjpiilcgomggaaaGreatPk31
set_option linter.all false
set_option maxHeartbeats 8000000
open Go.Proofs
namespace Go.Abs
open Go.RowKit
variable {A B:LR} {R s:Nat} {T:List LR} {u:List (List Rat)} {v x:Re}
theorem Pf {P:Nat} (hl:∀x∈T,x.length<=1000000) (a5:T.length<=1000) (z:P=T.length):CF 148 [.one (.sl (.sl AA) T)] (.one (.own (.sl AA) T P)):=by
 refine AE Tryz.func148 (by kernel_rfl) rfl fun E X=>?_
 conv=>cbv
 rintro n7 ⟨e7,f7⟩;conv=>cbv
 refine⟨fun _=>⟨by omega,by omega,by show _*24<=140737488355328;omega⟩,?_⟩;intro D (F:List (el (.sl AA))) v;have a2:=v.1;have w:F=List.replicate D ([]:el (.sl AA)):=v.2;have V:F.length=D:=by rw[w,List.length_replicate]
 conv=>cbv
 intro G g;have U:=g.eq;have f10:=g.le;conv=>cbv
 refine .inr ?_;obtain⟨S,h⟩:=xJ fun Q J k=>∃(o:List LR) (m i':Nat) (L i:Int),Q=[.one (.AL (.sl AA) 8 0 0 m),.one (.sl (.sl AA) T),.one (.int .i64 L),.one (.int .i64 i)]/\J=[.arr 0 (.sl AA) o]/\(o.length=T.length/\m=T.length/\Bu L T.length/\AK i i'/\i'<=T.length)/\o.take i'=T.take i'/\k=T.length-i'
 refine⟨[3,9,10,11],[8],S,⟨T.length-0,by rw[h];exact⟨F,D,0,G,0,rfl,rfl,⟨by omega,by omega,g,Ai 0,by omega⟩,rfl,rfl⟩⟩,?_⟩;intro Q J a6 N;rw[h] at N;obtain⟨o,m,i',L,i,rfl,rfl,⟨ho,hm,M,Y,Z⟩,hinv,a1⟩:=N;conv=>cbv
 have eL:=M.eq;have ei:=Y.eq;intro H n;conv=>cbv
 cases H <;> conv=>cbv
 ·have C:=AR n;have d:T=o:=by rw[<-List.take_length (l:=T),<-show i'=T.length by omega,<-hinv,List.take_of_length_le (by omega)]
  exact fA ⟨⟨rfl,.inr (.inl ⟨_,_,by decide,rfl,rfl,by omega,rfl,CH (d) (by rw[z,<-d])⟩),trivial⟩,trivial⟩ rfl (by simp)
 have C:=AS n;refine .inr ?_;obtain⟨b,a⟩:=AF (l:=T) (i:=i') (by omega);refine⟨b,fun _=>⟨by omega,by rw[show (i).toNat=i' by omega];exact a⟩,?_⟩;try conv=>cbv
 refine cL X (Nt (hl b (List.mem_of_getElem? a))) t1 ?_;try conv=>cbv
 refine g2 (by omega) ?_;intro t O;conv=>cbv
 refine⟨b,fun _=>⟨by show _<List.length (α:=(el (.sl AA))) o;(first | omega | (simp;omega)),by first | exact t1 | exact t2 | exact t4 | simp[Ae,Ak,cells]⟩,?_⟩;intro (j:List (el (.sl AA))) (f:j=List.set (α:=(el (.sl AA))) o t b);have K:j.length=o.length:=by rw[f,List.length_set]
 conv=>cbv
 intro I W;conv=>cbv
 refine g1 (by omega) ?_;refine⟨T.length-(i'+1),?_,?_⟩
 ·omega
 rw[h];refine⟨j,m,i'+1,L,I,rfl,rfl,⟨by omega,by omega,M,⟨by omega⟩,by omega⟩,?_,rfl⟩;rw[f,show t=i' by omega,Kz (by omega),hinv,<-BG a]
theorem WD (b:∀x∈T,x.length<=1000000) (a:T.length<=1000):CF 148 [.one (.sl (.sl AA) T)] (.one (.sl (.sl AA) T)):=B0 (Pf b a rfl)
theorem TK (h:AU R u) (hT:T=tw u):∀x∈T,x.length<=1000000:=by
 intro x hx;rw[hT,tw] at hx;obtain⟨y,f,rfl⟩:=List.mem_map.1 hx;obtain⟨i,a⟩:=List.mem_iff_getElem?.1 f;have b:=Hp h.red i y a;have d:=GA a;rw[List.length_reverse] at d;have g:=h.ht;rw[List.length_map,b];exact Nat.le_trans (B5 (by omega)) (by decide)
theorem Fb:Ao x<0↔x<0:=by
 rcases DV x with⟨a,b⟩ |⟨a,b⟩ |⟨a,b⟩ <;> rw[b]
 ·exact⟨fun _=>a,fun _=>by decide⟩
 ·rw[a];exact⟨fun h=>absurd h (by decide),fun h=>by grind⟩
 exact⟨fun h=>absurd h (by decide),fun h=>by grind⟩
theorem YS (h:AU R u) (hT:T=tw u) (hA:A=em u x) (hx:El u s x) (o:Fit u.length R s) {w:Re} (hw:In u w) (d:w*w=x) (F:E7 197 u x w) (j:0<=v) (k:v*v=x) (C:B=em u v):CF 147 [.one (.sl (.sl AA) T),.one (.sl AA A)] (.AG [(false,[.sl AA B]),(false,[.bool true])]):=by
 have l:=hx.sqrt h hw d;refine AE Tryz.func147 (by kernel_rfl) rfl fun E n=>?_
 conv=>cbv
 obtain⟨I,a⟩:=xR (em u w);refine cL n (F hT hA a) t2 ?_;try conv=>cbv
 intro G m;cases m.trans (rfl:_=false);conv=>cbv
 obtain⟨H,g⟩:=xI (Ao w);refine cL n (G4 h hT a l o.v o.vR g) t2 ?_;try conv=>cbv
 intro z f;conv=>cbv
 refine .inr ?_;cases z <;> conv=>cbv
 ·have t:=AR f;exact fA ⟨⟨rfl,congrArg _ (by rw[C,a];congr 1;have:¬w<0:=(fun D=>by have:=Fb.2 D;omega);exact Re.Fq j (by grind) (k.trans d.symm)),trivial⟩,t2,trivial⟩ rfl (by simp)
 have t:=AS f;obtain⟨J,b⟩:=xR (em u (-w));refine cL n (N9 h hT a l (Nat.le_trans (Dn u.length R _) o.v) b) t2 ?_;try conv=>cbv
 exact fA ⟨⟨rfl,congrArg _ (by rw[C,b];congr 1;have:w<0:=Fb.1 (by omega);exact Re.Fq j (by grind) (by rw[k,<-d];grind)),trivial⟩,t2,trivial⟩ rfl (by simp)
theorem YR (h:AU R u) (hT:T=tw u) (hA:A=em u x) (hx:El u s x) (j:Fit u.length R s) {l:LR} (f:E6 197 u x l) (b:B=[]):CF 147 [.one (.sl (.sl AA) T),.one (.sl AA A)] (.AG [(false,[.sl AA B]),(false,[.bool false])]):=by
 refine AE Tryz.func147 (by kernel_rfl) rfl fun E d=>?_
 conv=>cbv
 refine cL d (f hT hA) t2 ?_;try conv=>cbv
 intro g a;cases a.trans (rfl:_=true);conv=>cbv
 exact fA ⟨⟨rfl,.inr (.inl ⟨_,congrArg _ (b)⟩),trivial⟩,t2,trivial⟩ rfl (by simp)
theorem YT (h:AU R u) (hT:T=tw u) (hA:A=em u x) (hx:El u s x) (g:Fit u.length R s) (k:In u v) (d:0<=v) (a:v*v=x) (j:B=em u v):CF 147 [.one (.sl (.sl AA) T),.one (.sl AA A)] (.AG [(false,[.sl AA B]),(false,[.bool true])]):=by
 rcases NY h hx g.q with⟨w,hw,f,l⟩ |⟨b,_⟩
 ·exact YS h hT hA hx g hw f l d a j
 exact absurd ⟨v,k,a⟩ b
theorem YQ (h:AU R u) (hT:T=tw u) (hA:A=em u x) (hx:El u s x) (d:Fit u.length R s) (a:¬Sq u x) (f:B=[]):CF 147 [.one (.sl (.sl AA) T),.one (.sl AA A)] (.AG [(false,[.sl AA B]),(false,[.bool false])]):=by
 rcases NY h hx d.q with⟨w,hw,b,j⟩ |⟨_,l,_,g⟩
 ·exact absurd ⟨w,hw,b⟩ a
 exact YR h hT hA hx d g f
theorem LW (h:AU R u) (hT:T=tw u) (hv:VV u.length R R<=60000000000000) (hq:QQ u.length R R<=60000000000000):CF 145 [.one (.sl (.sl AA) T)] (.one (.bool true)):=by
 have ae:T.length=u.length:=by rw[hT,Au]
 have hR:=h.hR;refine AE Tryz.func145 (by kernel_rfl) rfl fun E P=>?_
 conv=>cbv
 intro n8 O;have e8:=O.eq;have f8:=O.le;conv=>cbv
 refine .inr ?_;obtain⟨J0,g⟩:=xJ fun vs bl k=>∃(i':Nat) (L i:Int),vs=[.one (.sl (.sl AA) T),.one (.sl (.sl AA) T),.one (.int .i64 L),.one (.int .i64 i)]/\(Bu L T.length/\AK i i'/\i'<=T.length)/\k=T.length-i'
 refine⟨[0,7,8,9],[],J0,⟨T.length-0,by rw[g];exact⟨0,n8,0,rfl,⟨O,Ai 0,by omega⟩,rfl⟩⟩,?_⟩;intro vs bl ah hj;rw[g] at hj;obtain⟨i',L,i,rfl,⟨hL,hi,af⟩,ag⟩:=hj;conv=>cbv
 have eL:=hL.eq;have ei:=hi.eq;intro Y v;conv=>cbv
 cases Y <;> conv=>cbv
 ·have U:=AR v;exact fA ⟨t2,trivial⟩ rfl (by simp)
 have U:=AS v;refine .inr ?_;obtain⟨t,f⟩:=AF (l:=T) (i:=i') (by omega);refine⟨t,fun _=>⟨by omega,by rw[show (i).toNat=i' by omega];exact f⟩,?_⟩;try conv=>cbv
 obtain⟨r,H,G⟩:=GP (u:=u) (i:=i') (by omega);have o:AQ (r::pre u i'):=H ▸ (h.pre (i'+1)).red;have Q:t=AW r:=by rw[<-hT,f] at G;exact Option.some.inj G
 have a:t=em (pre u i') (AI (pre u i') r):=Q.trans (Cj o);have b:El (pre u i') R (AI (pre u i') r):=El.Br (H ▸ h.pre (i'+1));intro ai a8;conv=>cbv
 refine g2 (by omega) ?_;intro J a5;conv=>cbv
 intro V C;conv=>cbv
 have j:V=tw (pre u i'):=by rw[C,List.drop_zero,show J=i' by omega,hT,Fi]
 refine cL (r:= .one (.bool true)) P (EX j (h.pre i').Dl a (b.BC hR) (by rw[b.len,List.length_reverse];exact (decide_eq_true rfl).symm)) t2 ?_;try conv=>cbv
 intro al N;cases N.trans (rfl:_=false);conv=>cbv
 intro aj aa;conv=>cbv
 refine g2 (by omega) ?_;intro K a6;conv=>cbv
 intro W D;conv=>cbv
 have m:W=tw (pre u i'):=by rw[D,List.drop_zero,show K=i' by omega,hT,Fi]
 obtain⟨a2,d⟩:=xI (Ao (AI (pre u i') r));refine cL (r:= .one (.int .i64 a2)) P (G4 (h.pre i') m a b (by rw[GO (by omega)];exact Nat.le_trans (H9 (by omega) R R) hv) (by rw[GO (by omega)];exact Nat.le_trans (H9 (by omega) R R) hv) d) t2 ?_;try conv=>cbv
 intro Z z;conv=>cbv
 cases Z <;> conv=>cbv
 ·have I:=DK z;intro ak ab;conv=>cbv
  refine g2 (by omega) ?_;intro M a7;conv=>cbv
  intro X F;conv=>cbv
  have n:X=tw (pre u i'):=by rw[F,List.drop_zero,show M=i' by omega,hT,Fi]
  obtain⟨l,hl,hn⟩:=((NY (h.pre i') b (by rw[GO (by omega)];exact Nat.le_trans (T4 (by omega) R R) hq)).resolve_left (fun⟨w,hw,S,_⟩=>o.2.2.2 ⟨w,hw,S⟩)).2;refine cL P (hn n a) t2 ?_;try conv=>cbv
  intro a1 ad;conv=>cbv
  refine g1 (by omega) ?_;refine⟨T.length-(i'+1),?_,?_⟩
  ·omega
  rw[g];exact⟨i'+1,L,a1,rfl,⟨hL,⟨by omega⟩,by omega⟩,rfl⟩
 have I:=DL z;exact absurd I (by rw[d,Ev o.2.2.1];omega)
theorem Vb (h:AU R u) (hT:T=tw u) (hA:A=em u x) (hx:El u s x) (a:Fit u.length R s) (C:In u v) (l:0<=v) (g:v*v=x) (t:B=em u v):CF 76 [.one (.sl (.sl AA) T),.one (.sl AA A)] (.AG [(false,[.sl (.sl AA) T]),(false,[.sl AA B]),(false,[.int .i64 0])]):=by
 have w:T.length=u.length:=by rw[hT,Au]
 have z:=h.ht;have m:¬x<0:=by rw[<-g];have:=Re.Na v;grind
 refine AE Tryz.func76 (by kernel_rfl) rfl fun E d=>?_
 conv=>cbv
 refine .inr ?_;refine cL (r:= .one (.bool true)) d (EX hT h.Dl hA (hx.BC a.s) (by rw[hx.len,List.length_reverse];exact (decide_eq_true rfl).symm)) t2 ?_;try conv=>cbv
 intro D j;cases j.trans (rfl:_=false);conv=>cbv
 refine cL d (LW h hT a.vR a.qR) t1 ?_;try conv=>cbv
 intro F k;cases k.trans (rfl:_=false);conv=>cbv
 obtain⟨G,f⟩:=xI (Ao x);refine cL d (G4 h hT hA hx a.v0 a.vR f) t2 ?_;try conv=>cbv
 intro o b;conv=>cbv
 cases o <;> conv=>cbv
 ·have n:=AR b;refine cL d (YT h hT hA hx a C l g t) t2 ?_;try conv=>cbv
  refine cL d (WD (TK h hT) (by omega)) t1 ?_;try conv=>cbv
  exact fA ⟨t2,t2,t2,trivial⟩ rfl (by simp)
 have n:=AS b;exact absurd ((Fb (x:=x)).1 (by omega)) m
theorem Vc {B:LR} (h:AU R u) (hT:T=tw u) (hA:A=em u x) (hx:El u s x) (b:Fit u.length R s) (m:x<0):CF 76 [.one (.sl (.sl AA) T),.one (.sl AA A)] (.AG [(false,[.sl (.sl AA) (([]:List LR))]),(false,[.sl AA (([]:LR))]),(false,[.int .i64 7])]):=by
 refine AE Tryz.func76 (by kernel_rfl) rfl fun E j=>?_
 conv=>cbv
 refine .inr ?_;refine cL (r:= .one (.bool true)) j (EX hT h.Dl hA (hx.BC b.s) (by rw[hx.len,List.length_reverse];exact (decide_eq_true rfl).symm)) t2 ?_;try conv=>cbv
 intro n f;cases f.trans (rfl:_=false);conv=>cbv
 refine cL j (LW h hT b.vR b.qR) t1 ?_;try conv=>cbv
 intro o g;cases g.trans (rfl:_=false);conv=>cbv
 obtain⟨t,d⟩:=xI (Ao x);refine cL j (G4 h hT hA hx b.v0 b.vR d) t2 ?_;try conv=>cbv
 intro l a;conv=>cbv
 cases l <;> conv=>cbv
 ·have k:=AR a;exact absurd (Fb.2 m) (by omega)
 have k:=AS a;exact fA ⟨⟨rfl,.inr (.inl ⟨_,rfl⟩),trivial⟩,⟨rfl,.inr (.inl ⟨_,rfl⟩),trivial⟩,t2,trivial⟩ rfl (by simp)
theorem Vd (h:AU R u) (hT:T=tw u) (hA:A=em u x) (hx:El u s x) (g:Fit u.length R s) {R':Nat} {r:List Rat} {T2:List LR} (Y:u.length<8) (Q:0<=x) (F:¬Sq u x) (P:r=co u x) (h':AU R' (r::u)) (C:T2=tw (r::u)) (N:B=em (r::u) (rt u r)):CF 76 [.one (.sl (.sl AA) T),.one (.sl AA A)] (.AG [(false,[.sl (.sl AA) T2]),(false,[.sl AA B]),(false,[.int .i64 0])]):=by
 have D:T.length=u.length:=by rw[hT,Au]
 have O:=h.ht;refine AE Tryz.func76 (by kernel_rfl) rfl fun E d=>?_
 conv=>cbv
 refine .inr ?_;refine cL (r:= .one (.bool true)) d (EX hT h.Dl hA (hx.BC g.s) (by rw[hx.len,List.length_reverse];exact (decide_eq_true rfl).symm)) t2 ?_;try conv=>cbv
 intro S w;cases w.trans (rfl:_=false);conv=>cbv
 refine cL d (LW h hT g.vR g.qR) t1 ?_;try conv=>cbv
 intro U z;cases z.trans (rfl:_=false);conv=>cbv
 obtain⟨X,n⟩:=xI (Ao x);refine cL d (G4 h hT hA hx g.v0 g.vR n) t2 ?_;try conv=>cbv
 intro H j;conv=>cbv
 cases H <;> conv=>cbv
 ·have G:=AR j;refine cL d (YQ h hT hA hx g F rfl) t2 ?_;try conv=>cbv
  rintro V ⟨L,f36⟩;conv=>cbv
  intro I k;conv=>cbv
  cases I <;> conv=>cbv
  ·have t:=DC k;obtain⟨Z,o⟩:=xN T.length;refine cL d (Pf (TK h hT) (by omega) o) t1 ?_;try conv=>cbv
   have M:A.length=2^u.length:=by rw[hA,Ap hx.mem]
   have K:=B5 h.ht;refine cL d (Nt (by omega)) t1 ?_;try conv=>cbv
   refine⟨[A],fun _=>⟨rfl,by decide,rfl,⟨rfl,by first | exact t1 | exact t2 | exact t4 | simp[Ae,Ak,cells],trivial⟩⟩,.inr ?_⟩;try conv=>cbv
   refine .inr ⟨[A],fun _=>⟨rfl,by rw[o],rfl,by show (T.length+1)*24<=140737488355328;(try simp only[List.length_take,List.length_drop]);omega⟩,?_⟩;intro (f:List (el (.sl AA))) J b;have l:f=(T:List (el (.sl AA)))++([A]:List (el (.sl AA))):=b.1;have m:J=List.length (α:=(el (.sl AA))) f:=b.2;conv=>cbv
   refine⟨fun _=>m,?_⟩;rintro W ⟨v,f47⟩;conv=>cbv
   have a:f=tw (r::u):=by rw[l,hT,I9,hA,em,P]
   refine cL d (UI h' a (AK.of (v.trans (congrArg _ D))) N) t2 ?_;try conv=>cbv
   exact fA ⟨⟨rfl,congrArg _ (by rw[C,a]),trivial⟩,t2,t2,trivial⟩ rfl (by simp)
  have t:=DD k;exact absurd t (by omega)
 have G:=AS j;exact absurd ((Fb (x:=x)).1 (by omega)) (by grind)
end Go.Abs
namespace Go.Abs
open Go.RowKit
variable {A B:LR} {R s zn:Nat} {T:List LR} {c:Int} {i p q x y:Re} {r:List Rat} {u:List (List Rat)}
theorem Oh {C:LR} (h:AU R (r::u)) (hT:T=tw (r::u)) (hA:A=em (r::u) x) (hx:El (r::u) s x) (f:x=p+q*rt u r) (g:El u s p) (d:El u s q) (hb:2*s+2*EE u.length R+R+1<=60000000000000) (hC:C=em u (p*p-q*q*AI u r)):CF 199 [.one (.sl (.sl AA) T),.one (.sl AA A)] (.one (.sl AA C)):=by
 have aq:T.length=u.length+1:=by rw[hT,Au];rfl
 have ao:A.length=2^u.length+2^u.length:=by rw[hA,Ap hx.mem,BE]
 have N:=El.Br h;have hR:=h.hR;refine AE Tryz.func199 (by kernel_rfl) rfl fun E P=>?_
 conv=>cbv
 rintro n9 ⟨e9,f9⟩;conv=>cbv
 intro ay ak;conv=>cbv
 refine g2 ⟨by omega,by omega,i64 (by omega)⟩ ?_;rintro az ⟨ai,f13⟩;conv=>cbv
 intro aA al;conv=>cbv
 refine g1 (by omega) ?_;intro ar ad;conv=>cbv
 refine g2 (by omega) ?_;intro U a8;conv=>cbv
 intro X G;conv=>cbv
 rintro aB ⟨aj,f18⟩;conv=>cbv
 intro a5 an;conv=>cbv
 refine g1 (by omega) ?_;obtain⟨O,b⟩:=AF (l:=T) (i:=(T.length-1)) (by omega);refine⟨O,fun _=>⟨by omega,by rw[show (a5).toNat=(T.length-1) by omega];exact b⟩,?_⟩;try conv=>cbv
 refine g2 rfl ?_;intro au ae;conv=>cbv
 refine g2 (by omega) ?_;intro V aa;conv=>cbv
 intro Y H;conv=>cbv
 intro av af;conv=>cbv
 refine g2 (by omega) ?_;intro W ab;conv=>cbv
 intro Z I;conv=>cbv
 have a:X=tw u:=by rw[G,List.drop_zero,show U=T.length-1 by omega,hT,CO]
 have o:Y=em u p:=by rw[H,List.drop_zero,show V=A.length/2 by omega,hA,BY h.red g.mem d.mem f]
 have t:Z=em u p:=by rw[I,List.drop_zero,show W=A.length/2 by omega,hA,BY h.red g.mem d.mem f]
 obtain⟨aC,j⟩:=xR (em u (p*p));refine cL P (Cf h.tail a o t g g (by omega) j) t3 ?_;try conv=>cbv
 intro aw L;conv=>cbv
 refine g2 (by omega) ?_;rintro Q ag ⟨a6,D⟩;conv=>cbv
 intro a1 J;conv=>cbv
 intro ax M;conv=>cbv
 refine g2 (by omega) ?_;rintro S ah ⟨a7,F⟩;conv=>cbv
 intro a2 K;conv=>cbv
 have v:a1=em u q:=by rw[J,show Q=A.length/2 by omega,D,L,List.take_length,hA,BL h.red g.mem d.mem f]
 have w:a2=em u q:=by rw[K,show S=A.length/2 by omega,F,M,List.take_length,hA,BL h.red g.mem d.mem f]
 obtain⟨aD,k⟩:=xR (em u (q*q));refine cL P (Cf h.tail a v w d d (by omega) k) t3 ?_;try conv=>cbv
 have z:O=em u (AI u r):=by rw[hT,DY] at b;exact (Option.some.inj b).symm.trans (Cj h.red)
 obtain⟨aE,m⟩:=xR (em u (q*q*AI u r));refine cL P (Cf h.tail a k z (d.mul h.tail d) N (by omega) m) t3 ?_;try conv=>cbv
 obtain⟨aF,n⟩:=xR (em u (p*p-q*q*AI u r));refine cL P (JT h.tail j m (g.mul h.tail g) ((d.mul h.tail d).mul h.tail N) (by omega) (by omega) n) t3 ?_;try conv=>cbv
 refine g2 rfl ?_;exact fA ⟨⟨rfl,congrArg _ (by rw[hC,n]),trivial⟩,trivial⟩ rfl (by simp)
def La (R:Nat) (u:List (List Rat)):Prop:=∀{T:List LR} {A B:LR} {zn s:Nat} {x y:Re},T=tw u->A=em u x->El u s x->In u y->x*y=1->II u.length R s<=60000000000000->B=em u y->zn=B.length->
 CF 156 [.one (.sl (.sl AA) T),.one (.sl AA A)] (.AG [(false,[.own AA B zn]),(false,[.int .i64 0])])
theorem U4 {p q:Rat} (hT:T=[]) (hA:A=[rp p]) (L:B=[rp q]) (h:p≠0) (C:q=1/p) (D:zn=B.length):CF 156 [.one (.sl (.sl AA) T),.one (.sl AA A)] (.AG [(false,[.own AA B zn]),(false,[.int .i64 0])]):=by
 refine AE Tryz.func156 (by kernel_rfl) rfl fun E N=>?_
 conv=>cbv
 rintro P ⟨w,f13⟩;conv=>cbv
 intro G f;conv=>cbv
 cases G <;> conv=>cbv
 ·have k:=Ac f;exact absurd (by rw[w,hT];rfl) k
 have k:=Ad f;have M:A.length=1:=by rw[hA];rfl
 obtain⟨m,a⟩:=AF (l:=A) (i:=0) (by omega);refine⟨m,fun _=>⟨by omega,a⟩,?_⟩;try conv=>cbv
 have j:=C8 hA a;rintro H ⟨z,f20⟩;conv=>cbv
 have K:H=((List.length (α:=UInt32) m.1.2:Nat):Int):=z;intro I g;conv=>cbv
 cases I <;> conv=>cbv
 ·have F:=Ac g;obtain⟨J,b⟩:=AF (l:=A) (i:=0) (by omega);refine⟨J,fun _=>⟨by omega,b⟩,?_⟩;try conv=>cbv
  have O:=C8 hA b;obtain⟨t,v,n,o,d⟩:=A9 q;refine cL N (Uk O h C d) ⟨t4,trivial⟩ ?_;try conv=>cbv
  refine⟨[((t,v),(n,o))],fun _=>⟨rfl,by decide,rfl,⟨rfl,by first | exact t1 | exact t2 | exact t4 | simp[Ae,Ak,cells],trivial⟩⟩,.inl ?_⟩;try conv=>cbv
  exact fA ⟨⟨rfl,.inr (.inl ⟨_,_,by decide,rfl,rfl,rfl,rfl,CH (by rw[L,d.rp]) (by rw[D,L];rfl)⟩),trivial⟩,t2,trivial⟩ rfl (by simp)
 have F:=Ad g;exact absurd (Rat.num_eq_zero.1 (j.num.Dh.1 (by omega))) h
theorem U6 {y:Re} (h:AU R (r::u)) (ih:La R u) (hT:T=tw (r::u)) (hA:A=em (r::u) x) (hx:El (r::u) s x) (J:x=p+q*rt u r) (S:El u s p) (V:El u s q) (h0:q=0) (Q:In u i) (U:p*i=1) (hs:II (r::u).length R s<=60000000000000) (hB:B=em (r::u) i) (W:zn=B.length):CF 156 [.one (.sl (.sl AA) T),.one (.sl AA A)] (.AG [(false,[.own AA B zn]),(false,[.int .i64 0])]):=by
 have ax:T.length=u.length+1:=by rw[hT,Au];rfl
 have av:A.length=2^u.length+2^u.length:=by rw[hA,Ap hx.mem,BE]
 have aw:II (r::u).length R s=s+EE u.length R+II u.length R (2*s+2*EE u.length R+R+1):=rfl;have ae:=Ga u.length R (s:=s) (t:=2*s+2*EE u.length R+R+1) (by omega);refine AE Tryz.func156 (by kernel_rfl) rfl fun E L=>?_
 conv=>cbv
 rintro aB ⟨an,f13⟩;conv=>cbv
 intro a1 w;conv=>cbv
 cases a1 <;> conv=>cbv
 ·have K:=Ac w;rintro aC ⟨ao,f28⟩;conv=>cbv
  intro aD ar;conv=>cbv
  refine g2 ⟨by omega,by omega,i64 (by omega)⟩ ?_;rintro aE ⟨aq,f32⟩;conv=>cbv
  intro aF au;conv=>cbv
  refine g1 (by omega) ?_;intro ay ab;conv=>cbv
  refine g2 (by omega) ?_;intro N a6;conv=>cbv
  intro X C;conv=>cbv
  intro az H;conv=>cbv
  refine g2 (by omega) ?_;rintro M al ⟨a5,z⟩;conv=>cbv
  intro Y D;conv=>cbv
  have n:Y=em u q:=by rw[D,show M=A.length/2 by omega,z,H,List.take_length,hA,BL h.red S.mem V.mem J]
  refine cL L (FU h.tail.red V.mem n h0) t1 ?_;try conv=>cbv
  intro aA ad;conv=>cbv
  refine g2 (by omega) ?_;intro O a7;conv=>cbv
  intro Z F;conv=>cbv
  have a:X=tw u:=by rw[C,List.drop_zero,show N=T.length-1 by omega,hT,CO]
  have o:Z=em u p:=by rw[F,List.drop_zero,show O=A.length/2 by omega,hA,BY h.red S.mem V.mem J]
  obtain⟨j,b⟩:=xR (em u i);obtain⟨ag,d⟩:=xN j.length;refine cL L (ih a o S Q U (by omega) b d) t2 ?_;try conv=>cbv
  intro aG P;cases P.trans (show _=false by decide);conv=>cbv
  obtain⟨aj,ak,ah,ai,l⟩:=A9 (((0:Int):Rat));refine cL L (Dp (by omega) rfl l) t1 ?_;try conv=>cbv
  obtain⟨g,f⟩:=xR (em u (0));refine cL (r:= .one (.sl AA g)) L (EG h.tail a l (by rw[show Re.ofRat ((0:Int):Rat)=0 from rfl];exact f)) ⟨rfl,t4,trivial⟩ ?_;try conv=>cbv
  have a8:j.length=2^u.length:=by rw[b,Ap Q]
  have aa:g.length=2^u.length:=by rw[f,Ap (BM u)]
  have af:=B5 h.tail.ht;refine .inl ⟨g,fun _=>⟨rfl,d,rfl,by show (j.length+g.length)*64<=140737488355328;(try simp only[List.length_take,List.length_drop]);omega⟩,?_⟩;intro (v:LR) a2 m;have G:v=(j:LR)++(g:LR):=m.1;have I:a2=List.length (α:=(el AA)) v:=m.2;conv=>cbv
  have k:B=v:=by rw[hB,G,b,f];exact DI h.red Q (BM u) (by clear ih;grind)
  exact fA ⟨⟨rfl,.inr (.inl ⟨_,_,by decide,rfl,rfl,I,rfl,CH (k) (by rw[W,k])⟩),trivial⟩,t2,trivial⟩ rfl (by simp)
 have K:=Ad w;exact absurd K (by omega)
theorem U5 (h:AU R (r::u)) (ih:La R u) (hT:T=tw (r::u)) (hA:A=em (r::u) x) (hx:El (r::u) s x) (k:x=p+q*rt u r) (t:El u s p) (l:El u s q) (h0:q≠0) (hi:In u i) (J:(p*p-q*q*AI u r)*i=1) (hy:y=p*i+ -q*i*rt u r) (hs:II (r::u).length R s<=60000000000000) (hB:B=em (r::u) y) (a6:zn=B.length):CF 156 [.one (.sl (.sl AA) T),.one (.sl AA A)] (.AG [(false,[.own AA B zn]),(false,[.int .i64 0])]):=by
 have aD:T.length=u.length+1:=by rw[hT,Au];rfl
 have aB:A.length=2^u.length+2^u.length:=by rw[hA,Ap hx.mem,BE]
 have aC:II (r::u).length R s=s+EE u.length R+II u.length R (2*s+2*EE u.length R+R+1):=rfl;have hN:=El.norm h t.mem l.mem (k ▸ hx);have b:=hN.inv h.tail hi J;have ao:=C3 u.length R (2*s+2*EE u.length R+R+1);have V:=(l.neg h.red.1).mul h.tail b;refine AE Tryz.func156 (by kernel_rfl) rfl fun E H=>?_
 conv=>cbv
 rintro aI ⟨aw,f13⟩;conv=>cbv
 intro ad I;conv=>cbv
 cases ad <;> conv=>cbv
 ·have X:=Ac I;rintro aJ ⟨ax,f28⟩;conv=>cbv
  intro aK az;conv=>cbv
  refine g2 ⟨by omega,by omega,i64 (by omega)⟩ ?_;rintro aL ⟨ay,f32⟩;conv=>cbv
  intro aM aA;conv=>cbv
  refine g1 (by omega) ?_;intro aE al;conv=>cbv
  refine g2 (by omega) ?_;intro a1 ah;conv=>cbv
  intro a7 M;conv=>cbv
  intro aF S;conv=>cbv
  refine g2 (by omega) ?_;rintro Y au ⟨af,K⟩;conv=>cbv
  intro a8 N;conv=>cbv
  have C:a8=em u q:=by rw[N,show Y=A.length/2 by omega,K,S,List.take_length,hA,BL h.red t.mem l.mem k]
  refine cL H (Fy h.tail.red l.mem C h0) t1 ?_;try conv=>cbv
  have a:a7=tw u:=by rw[M,List.drop_zero,show a1=T.length-1 by omega,hT,CO]
  obtain⟨aO,v⟩:=xR (em u (p*p-q*q*AI u r));refine cL H (Oh h hT hA hx k t l (by omega) v) t2 ?_;try conv=>cbv
  obtain⟨aP,d⟩:=xR (em u i);refine cL H (B0 (ih a v hN hi J (by omega) d rfl)) t2 ?_;try conv=>cbv
  intro aN a5;cases a5.trans (show _=false by decide);conv=>cbv
  intro aG an;conv=>cbv
  refine g2 (by omega) ?_;intro a2 ai;conv=>cbv
  intro aa O;conv=>cbv
  have D:aa=em u p:=by rw[O,List.drop_zero,show a2=A.length/2 by omega,hA,BY h.red t.mem l.mem k]
  obtain⟨m,f⟩:=xR (em u (p*i));obtain⟨ar,g⟩:=xN m.length;refine cL H (Ta h.tail a D d t b (by omega) f g) t3 ?_;try conv=>cbv
  intro aH U;conv=>cbv
  refine g2 (by omega) ?_;rintro Z av ⟨ag,L⟩;conv=>cbv
  intro ab P;conv=>cbv
  have F:ab=em u q:=by rw[P,show Z=A.length/2 by omega,L,U,List.take_length,hA,BL h.red t.mem l.mem k]
  obtain⟨aQ,w⟩:=xR (em u (-q));refine cL H (G9 h.tail F l w) t2 ?_;try conv=>cbv
  obtain⟨n,j⟩:=xR (em u (-q*i));refine cL H (Cf h.tail a w d (l.neg h.red.1) b (by omega) j) t3 ?_;try conv=>cbv
  have aj:m.length=2^u.length:=by rw[f,Ap (t.mul h.tail b).mem]
  have ak:n.length=2^u.length:=by rw[j,Ap V.mem]
  have aq:=B5 h.tail.ht;refine .inl ⟨n,fun _=>⟨rfl,g,rfl,by show (m.length+n.length)*64<=140737488355328;(try simp only[List.length_take,List.length_drop]);omega⟩,?_⟩;intro (G:LR) ae z;have Q:G=(m:LR)++(n:LR):=z.1;have W:ae=List.length (α:=(el AA)) G:=z.2;conv=>cbv
  refine g2 rfl ?_;have o:B=G:=by rw[hB,Q,f,j];exact DI h.red (t.mul h.tail b).mem V.mem hy
  exact fA ⟨⟨rfl,.inr (.inl ⟨_,_,by decide,rfl,rfl,W,rfl,CH (o) (by rw[a6,o])⟩),trivial⟩,t2,trivial⟩ rfl (by simp)
 have X:=Ad I;exact absurd X (by omega)
theorem aG (h:AU R u):La R u:=by
 induction u with
 | nil=>
  intro T A B zn s x y hT hA hx C b w g f;obtain⟨p,rfl⟩:=Bb.1 hx.mem;obtain⟨q,rfl⟩:=Bb.1 C;rw[Cg] at hA g;rw[<-Re.ofRat_mul] at b;have e:=Re.Ff.1 b;exact U4 hT hA g (by intro D;subst D;grind) (by grind) f
 | cons r u d=>
  intro T A B zn s x y hT hA hx C b w g f;obtain⟨p,q,a,k,n⟩:=El.parts h.red hx;have I:=Bk h.red;have G:(0:Re)<1:=Re.FH.2 (show (0:Rat)<1 by decide)
  by_cases m:q=0
  ·have v:p≠0:=by intro e;rw[e,m] at a;rw[a] at b;clear d;grind
   obtain⟨i,t,l⟩:=DR h.red.1 k.mem v
   have z:y=i:=by
    have:y=i*(x*y):=by
     have F:x=p:=by rw[a,m];clear d;grind
     rw[F];have:i*(p*y)=y*(p*i):=by clear d;grind
     rw[this,l];clear d;grind
    rw[b] at this;clear d;grind
   exact U6 (y:=y) h (d h.tail) hT hA hx a k n m t l w (z ▸ g) f
  have H:=El.norm h k.mem n.mem (a ▸ hx);have o:p*p-q*q*AI u r≠0:=RK h.red k.mem n.mem (by intro e;rw[<-a] at e;rw[e] at b;clear d;grind);obtain⟨i,t,j⟩:=DR h.red.1 H.mem o;refine U5 h (d h.tail) hT hA hx a k n m t j ?_ w g f
  have:y=x*y*((p-q*rt u r)*i):=by
   have:x*y*((p-q*rt u r)*i)=y*((p*p-q*q*AI u r)*i):=by rw[a];clear d;grind
   rw[this,j];clear d;grind
  rw[b] at this
  clear d;grind
theorem JS (h:AU R u) (hT:T=tw u) (hA:A=em u x) (hx:El u s x) (f:In u y) (a:x*y=1) (d:II u.length R s<=60000000000000) (b:B=em u y):
 CF 156 [.one (.sl (.sl AA) T),.one (.sl AA A)] (.AG [(false,[.sl AA B]),(false,[.int .i64 0])]):=B0 (aG h hT hA hx f a d b rfl)
theorem U2 (hT:T=[]) (hA:A=[rp 0]):CF 156 [.one (.sl (.sl AA) T),.one (.sl AA A)] (.AG [(false,[.sl AA (([]:LR))]),(false,[.int .i64 6])]):=by
 refine AE Tryz.func156 (by kernel_rfl) rfl fun E C=>?_
 conv=>cbv
 rintro z ⟨m,f13⟩;conv=>cbv
 intro o d;conv=>cbv
 cases o <;> conv=>cbv
 ·have h:=Ac d;exact absurd (by rw[m,hT];rfl) h
 have h:=Ad d;have w:A.length=1:=by rw[hA];rfl
 obtain⟨k,a⟩:=AF (l:=A) (i:=0) (by omega);refine⟨k,fun _=>⟨by omega,a⟩,?_⟩;try conv=>cbv
 have g:=C8 hA a;rintro t ⟨n,f20⟩;conv=>cbv
 have b:t=((List.length (α:=UInt32) k.1.2:Nat):Int):=n;intro v f;conv=>cbv
 cases v <;> conv=>cbv
 ·have j:=Ac f;exact absurd (by rw[b,g.num.Dh.2 rfl];rfl) j
 have j:=Ad f;exact fA ⟨⟨rfl,.inr (.inl ⟨_,rfl⟩),trivial⟩,t2,trivial⟩ rfl (by simp)
theorem U3 (h:AU R (r::u)) (X:∀{T A},T=tw u->A=em u 0->CF 156 [.one (.sl (.sl AA) T),.one (.sl AA A)] (.AG [(false,[.sl AA []]),(false,[.int .i64 6])])) (hT:T=tw (r::u)) (hA:A=em (r::u) 0):CF 156 [.one (.sl (.sl AA) T),.one (.sl AA A)] (.AG [(false,[.sl AA (([]:LR))]),(false,[.int .i64 6])]):=by
 have hx:El (r::u) 0 0:=El.rat h.red EK;have f:(0:Re)=0+0*rt u r:=by grind
 have W:T.length=u.length+1:=by rw[hT,Au];rfl
 have V:A.length=2^u.length+2^u.length:=by rw[hA,Ap hx.mem,BE]
 refine AE Tryz.func156 (by kernel_rfl) rfl fun E H=>?_
 conv=>cbv
 rintro a2 ⟨O,f13⟩;conv=>cbv
 intro G g;conv=>cbv
 cases G <;> conv=>cbv
 ·have o:=Ac g;rintro a5 ⟨P,f28⟩;conv=>cbv
  intro a6 S;conv=>cbv
  refine g2 ⟨by omega,by omega,i64 (by omega)⟩ ?_;rintro a7 ⟨Q,f32⟩;conv=>cbv
  intro a8 U;conv=>cbv
  refine g1 (by omega) ?_;intro Y L;conv=>cbv
  refine g2 (by omega) ?_;intro v J;conv=>cbv
  intro C k;conv=>cbv
  intro Z n;conv=>cbv
  refine g2 (by omega) ?_;rintro t N ⟨I,j⟩;conv=>cbv
  intro D l;conv=>cbv
  have b:D=em u 0:=by rw[l,show t=A.length/2 by omega,j,n,List.take_length,hA,BL h.red (BM u) (BM u) f]
  refine cL H (FU h.tail.red (BM u) b rfl) t1 ?_;try conv=>cbv
  intro a1 M;conv=>cbv
  refine g2 (by omega) ?_;intro w K;conv=>cbv
  intro F m;conv=>cbv
  have a:C=tw u:=by rw[k,List.drop_zero,show v=T.length-1 by omega,hT,CO]
  have d:F=em u 0:=by rw[m,List.drop_zero,show w=A.length/2 by omega,hA,BY h.red (BM u) (BM u) f]
  refine cL H (X a d) t2 ?_;try conv=>cbv
  intro aa z;cases z.trans (show _=true by decide);conv=>cbv
  exact fA ⟨⟨rfl,.inr (.inl ⟨_,rfl⟩),trivial⟩,t2,trivial⟩ rfl (by simp)
 have o:=Ad g;exact absurd o (by omega)
theorem Of:∀{u:List (List Rat)} {R:Nat},AU R u->∀{T A},T=tw u->A=em u 0->CF 156 [.one (.sl (.sl AA) T),.one (.sl AA A)] (.AG [(false,[.sl AA []]),(false,[.int .i64 6])])
 | [],R,h=>fun hT hA=>U2 hT (hA.trans (Cg 0))
 | r::u,R,h=>fun hT hA=>U3 h (Of h.tail) hT hA
def Oa (R:Nat) (u:List (List Rat)):Prop:=∀{T:List LR} {A:LR} {s:Nat} {x:Re} {c:Int},T=tw u->A=em u x->El u s x->VV u.length R s<=60000000000000->c=Ao x->
 CF 152 [.one (.sl (.sl AA) T),.one (.sl AA A)] (.one (.int .i64 c))
theorem VW {p:Rat} (hT:T=[]) (hA:A=[rp p]) (n:c=C1 p):CF 152 [.one (.sl (.sl AA) T),.one (.sl AA A)] (.one (.int .i64 c)):=by
 refine AE Tryz.func152 (by kernel_rfl) rfl fun E m=>?_
 conv=>cbv
 rintro o ⟨g,f11⟩;conv=>cbv
 intro h d;conv=>cbv
 cases h <;> conv=>cbv
 ·have f:=Ac d;exact absurd (by rw[g,hT];rfl) f
 have f:=Ad d;have k:A.length=1:=by rw[hA];rfl
 obtain⟨j,b⟩:=AF (l:=A) (i:=0) (by omega);refine⟨j,fun _=>⟨by omega,b⟩,?_⟩;try conv=>cbv
 obtain⟨t,a⟩:=xI (C1 p);refine cL m (OW (C8 hA b) a) ⟨t4,trivial⟩ ?_;try conv=>cbv
 exact fA ⟨⟨rfl,congrArg _ (n.trans a.symm),trivial⟩,trivial⟩ rfl (by simp)
theorem VX (h:AU R (r::u)) (ih:Oa R u) (hT:T=tw (r::u)) (hA:A=em (r::u) x) (hx:El (r::u) s x) (hs:VV (r::u).length R s<=60000000000000) (V:c=Ao x):CF 152 [.one (.sl (.sl AA) T),.one (.sl AA A)] (.one (.int .i64 c)):=by
 obtain⟨p,q,d,P,Q⟩:=El.parts h.red hx;have aC:T.length=u.length+1:=by rw[hT,Au];rfl
 have aB:A.length=2^u.length+2^u.length:=by rw[hA,Ap hx.mem,BE]
 have aE:VV (r::u).length R s=VV u.length R (2*s+2*EE u.length R+R+1):=rfl;have aF:=Dn u.length R (2*s+2*EE u.length R+R+1);have aD:=FQ u.length R (s:=s) (t:=2*s+2*EE u.length R+R+1) (by omega);have hN:=El.norm h P.mem Q.mem (d ▸ hx);have g:=SH h.red;have a2:=Bk h.red;refine AE Tryz.func152 (by kernel_rfl) rfl fun E U=>?_
 conv=>cbv
 rintro aK ⟨au,f11⟩;conv=>cbv
 intro ab C;conv=>cbv
 cases ab <;> conv=>cbv
 ·have S:=Ac C;rintro aL ⟨av,f18⟩;conv=>cbv
  intro aM ay;conv=>cbv
  refine g1 (by omega) ?_;rintro aN ⟨aw,f22⟩;conv=>cbv
  intro aO az;conv=>cbv
  refine g2 ⟨by omega,by omega,i64 (by omega)⟩ ?_;intro aG al;conv=>cbv
  refine g2 (by omega) ?_;intro X ah;conv=>cbv
  intro a5 J;conv=>cbv
  rintro aP ⟨ax,f27⟩;conv=>cbv
  intro aQ aA;conv=>cbv
  refine g2 ⟨by omega,by omega,i64 (by omega)⟩ ?_;intro aH O;conv=>cbv
  refine g2 (by omega) ?_;rintro W ar ⟨ag,I⟩;conv=>cbv
  intro a6 K;conv=>cbv
  refine g2 rfl ?_;intro m32 an;conv=>cbv
  refine g2 (by omega) ?_;intro Y ai;conv=>cbv
  intro a7 L;conv=>cbv
  have m:a7=tw u:=by rw[L,List.drop_zero,show Y=T.length-1 by omega,hT,CO]
  have k:a5=em u p:=by rw[J,List.drop_zero,show X=A.length/2 by omega,hA,BY h.red P.mem Q.mem d]
  obtain⟨aS,a⟩:=xI (Ao p);refine cL U (ih m k P (by omega) a) t2 ?_;try conv=>cbv
  intro aI ao;conv=>cbv
  refine g2 (by omega) ?_;intro Z aj;conv=>cbv
  intro a8 M;conv=>cbv
  have n:a8=tw u:=by rw[M,List.drop_zero,show Z=T.length-1 by omega,hT,CO]
  have l:a6=em u q:=by rw[K,show W=A.length/2 by omega,I,O,List.take_length,hA,BL h.red P.mem Q.mem d]
  obtain⟨aT,b⟩:=xI (Ao q);refine cL U (ih n l Q (by omega) b) t2 ?_;try conv=>cbv
  refine g2 rfl ?_;intro ad D;conv=>cbv
  cases ad <;> conv=>cbv
  ·have v:=Ac D;intro ae F;conv=>cbv
   cases ae <;> conv=>cbv
   ·have w:=Ac F;intro af G;conv=>cbv
    cases af <;> conv=>cbv
    ·have z:=Ac G;intro aJ aq;conv=>cbv
     refine g2 (by omega) ?_;intro a1 ak;conv=>cbv
     intro aa N;conv=>cbv
     have o:aa=tw u:=by rw[N,List.drop_zero,show a1=T.length-1 by omega,hT,CO]
     obtain⟨aV,j⟩:=xR (em u (p*p-q*q*AI u r));refine cL U (Oh h hT hA hx d P Q (by omega) j) t2 ?_;try conv=>cbv
     obtain⟨aU,f⟩:=xI (Ao (p*p-q*q*AI u r));refine cL U (ih o j hN (by omega) f) t2 ?_;try conv=>cbv
     intro aR H;conv=>cbv
     refine⟨fun _=>by rw[H,a,f];exact SX _ _,?_⟩;refine g2 rfl ?_;exact fA ⟨⟨rfl,congrArg _ (by rw[V,H,a,f,d];exact Se g a2 (fun e=>z (by rw[a,e];exact Ew)) (fun e=>v (by rw[b,e];exact Ew)) (by rw[<-a,<-b];exact w)),trivial⟩,trivial⟩ rfl (by simp)
    have z:=Ad G;exact fA ⟨⟨rfl,congrArg _ (by rw[V,b,d];exact Sf g (I6.1 (a ▸ z))),trivial⟩,trivial⟩ rfl (by simp)
   have w:=Ad F;exact fA ⟨⟨rfl,congrArg _ (by rw[V,a,d];exact Kv g (.inr (by rw[<-a,<-b];exact w))),trivial⟩,trivial⟩ rfl (by simp)
  have v:=Ad D;exact fA ⟨⟨rfl,congrArg _ (by rw[V,a,d];exact Kv g (.inl (I6.1 (b ▸ v)))),trivial⟩,trivial⟩ rfl (by simp)
 have S:=Ad C;exact absurd S (by omega)
theorem Nr (h:AU R u):Oa R u:=by
 induction u with
 | nil=>
  intro T A s x c hT hA hx b a;obtain⟨p,rfl⟩:=Bb.1 hx.mem;rw[Cg] at hA;exact VW hT hA (a.trans (SZ p))
 | cons r u d=>
  intro T A s x c hT hA hx b a;exact VX h (d h.tail) hT hA hx b a
end Go.Abs
