/- Part 48 of a proof. Conditions: each theorem's own. -/
import Derived.Test.YtjpiilcgomggaaaGreatPk46
set_option linter.all false
set_option maxHeartbeats 8000000
open Go.Proofs
namespace Go.Abs
open Go.RowKit
noncomputable def af (p:Vee):Vee:=(aw p.1,aw p.2)
variable {A1 A2 A5 A6:LR} {C R k m s:Nat} {T1 T2:List LR} {TT:List (List Rat)->Prop} {V:List Re} {X:List (el Bl)} {c:Bool} {ns:List Nu}
theorem cT (p:Vee):0<=(aW p p).2:=by
 show (0:Re)<=p.1.2*p.1.2+p.2.2*p.2.2
 have a:=Re.Na p.1.2;have b:=Re.Na p.2.2
 grind
theorem dG {W:List UInt8} (y:ns=(runN (X.take 24)).1) (g:V.length<=3) (h:∀n∈ns,BI V n):CF 5 [.agg [.sl Bl X,.sl .u8 W]] (.one (.bool true)):=by
 have F:=ah g h;obtain⟨Q,x⟩:∃z,z=ag ns W:=⟨_,rfl⟩
 obtain⟨c,B⟩:=xB (decide (2<=Q.length));refine AE Tryz.func5 (by kernel_rfl) rfl fun E f=>?_
 conv=>cbv
 refine cL f (a8 y g h x (i':=2) ⟨rfl⟩ (by decide) B) ⟨t2,rfl,trivial⟩ ?_;try conv=>cbv
 refine cL f aa trivial ?_;try conv=>cbv
 intro D w;cases w.trans (rfl:_=false);conv=>cbv
 intro A q;conv=>cbv
 cases A <;> conv=>cbv
 ·have r:=Co q;have G:2<=Q.length:=of_decide_eq_true (B.symm.trans r);obtain⟨j,a⟩:=AF (l:=Q) (i:=0) (by omega);refine⟨j,fun _=>⟨by omega,a⟩,?_⟩;try conv=>cbv
  obtain⟨t,d⟩:=AF (l:=Q) (i:=1) (by omega);refine⟨t,fun _=>⟨by omega,d⟩,?_⟩;try conv=>cbv
  obtain⟨H,b⟩:=aZ g h x a;obtain⟨I,o⟩:=aZ g h x d;obtain⟨T5,A5,u⟩:=b.dot F (by decide) o;obtain⟨T6,A6,v⟩:=b.dot F (by decide) b;refine cL f (ax F (by decide) b o u) ⟨t4,t4,trivial⟩ ?_;try conv=>cbv
  refine⟨fun _=>YB (by kernel_rfl),?_⟩;refine⟨j,fun _=>⟨by omega,a⟩,?_⟩;try conv=>cbv
  refine⟨t,fun _=>⟨by omega,d⟩,?_⟩;try conv=>cbv
  refine cL f (bZ F (by decide) b o u) ⟨t4,t4,trivial⟩ ?_;try conv=>cbv
  refine⟨fun _=>YB (by kernel_rfl),?_⟩;refine⟨j,fun _=>⟨by omega,a⟩,?_⟩;try conv=>cbv
  refine cL f (bM F (by decide) b v) ⟨t4,trivial⟩ ?_;try conv=>cbv
  refine⟨j,fun _=>⟨by omega,a⟩,?_⟩;try conv=>cbv
  refine cL f (ba F (by decide) b v) ⟨t4,trivial⟩ ?_;try conv=>cbv
  refine cL f (bR F (by decide) u u rfl) ⟨t2,rfl,t2,rfl,trivial⟩ ?_;try conv=>cbv
  refine cL f (bR F (by decide) v v rfl) ⟨t2,rfl,t2,rfl,trivial⟩ ?_;try conv=>cbv
  exact fA ⟨t2,trivial⟩ rfl (by simp)
 have r:=Cp q;refine cL f aa trivial ?_;try conv=>cbv
 exact fA ⟨t2,trivial⟩ rfl (by simp)
theorem dF {W:List UInt8} (x:ns=(runN (X.take 24)).1) (d:V.length<=3) (f:∀n∈ns,BI V n):CF 6 [.agg [.sl Bl X,.sl .u8 W]] (.one (.bool true)):=by
 have F:=ah d f;obtain⟨Q,w⟩:∃z,z=ag ns W:=⟨_,rfl⟩
 obtain⟨c,A⟩:=xB (decide (2<=Q.length));refine AE Tryz.func6 (by kernel_rfl) rfl fun E j=>?_
 conv=>cbv
 refine cL j (a8 x d f w (i':=2) ⟨rfl⟩ (by decide) A) ⟨t2,rfl,trivial⟩ ?_;try conv=>cbv
 refine cL j aa trivial ?_;try conv=>cbv
 intro D v;cases v.trans (rfl:_=false);conv=>cbv
 intro y o;conv=>cbv
 cases y <;> conv=>cbv
 ·have q:=Co o;have G:2<=Q.length:=of_decide_eq_true (A.symm.trans q);obtain⟨r,a⟩:=AF (l:=Q) (i:=0) (by omega);refine⟨r,fun _=>⟨by omega,a⟩,?_⟩;try conv=>cbv
  obtain⟨t,b⟩:=AF (l:=Q) (i:=1) (by omega);refine⟨t,fun _=>⟨by omega,b⟩,?_⟩;try conv=>cbv
  obtain⟨H,g⟩:=aZ d f w a;obtain⟨I,h⟩:=aZ d f w b;obtain⟨A4,B⟩:=g.left F (by decide);obtain⟨T5,A5,u⟩:=B.dot F (by decide) h;refine cL j (bC F (by decide) g h u) ⟨t4,t4,trivial⟩ ?_;try conv=>cbv
  refine⟨fun _=>YB (by kernel_rfl),?_⟩;refine⟨r,fun _=>⟨by omega,a⟩,?_⟩;try conv=>cbv
  refine⟨t,fun _=>⟨by omega,b⟩,?_⟩;try conv=>cbv
  refine cL j (ct F (by decide) g h u) ⟨t4,t4,trivial⟩ ?_;try conv=>cbv
  refine⟨fun _=>YB (by kernel_rfl),?_⟩;refine cL j (bR F (by decide) u u rfl) ⟨t2,rfl,t2,rfl,trivial⟩ ?_;try conv=>cbv
  exact fA ⟨t2,trivial⟩ rfl (by simp)
 have q:=Cp o;refine cL j aa trivial ?_;try conv=>cbv
 exact fA ⟨t2,trivial⟩ rfl (by simp)
theorem dL {W:List UInt8} (A:ns=(runN (X.take 24)).1) (g:V.length<=3) (h:∀n∈ns,BI V n):CF 8 [.agg [.sl Bl X,.sl .u8 W]] (.one (.bool true)):=by
 have F:=ah g h;obtain⟨Q,y⟩:∃z,z=ag ns W:=⟨_,rfl⟩
 obtain⟨c,G⟩:=xB (decide (2<=Q.length));refine AE Tryz.func8 (by kernel_rfl) rfl fun E j=>?_
 conv=>cbv
 refine cL j (a8 A g h y (i':=2) ⟨rfl⟩ (by decide) G) ⟨t2,rfl,trivial⟩ ?_;try conv=>cbv
 refine cL j aa trivial ?_;try conv=>cbv
 intro I x;cases x.trans (rfl:_=false);conv=>cbv
 intro B u;conv=>cbv
 cases B <;> conv=>cbv
 ·have w:=Co u;have N:2<=Q.length:=of_decide_eq_true (G.symm.trans w);obtain⟨o,a⟩:=AF (l:=Q) (i:=0) (by omega);refine⟨o,fun _=>⟨by omega,a⟩,?_⟩;try conv=>cbv
  obtain⟨q,b⟩:=AF (l:=Q) (i:=1) (by omega);refine⟨q,fun _=>⟨by omega,b⟩,?_⟩;try conv=>cbv
  obtain⟨r,d⟩:=aZ g h y a;obtain⟨t,f⟩:=aZ g h y b;obtain⟨T5,A5,T6,A6,v⟩:=d.aj F (by decide) (a7 F (by decide)) f;obtain⟨L,J,M,K,D⟩:=f.aj F (by decide) (a7 F (by decide)) d;refine cL j (bX F (by decide) (a7 F (by decide)) d f v) ⟨t4,t4,trivial⟩ ?_;try conv=>cbv
  refine⟨fun _=>YB (by kernel_rfl),?_⟩;refine⟨q,fun _=>⟨by omega,b⟩,?_⟩;try conv=>cbv
  refine⟨o,fun _=>⟨by omega,a⟩,?_⟩;try conv=>cbv
  refine cL j (bX F (by decide) (a7 F (by decide)) f d D) ⟨t4,t4,trivial⟩ ?_;try conv=>cbv
  refine⟨fun _=>YB (by kernel_rfl),?_⟩;refine⟨o,fun _=>⟨by omega,a⟩,?_⟩;try conv=>cbv
  refine⟨q,fun _=>⟨by omega,b⟩,?_⟩;try conv=>cbv
  refine cL j (cy F (by decide) (a7 F (by decide)) d f v) ⟨t4,t4,trivial⟩ ?_;try conv=>cbv
  refine⟨fun _=>YB (by kernel_rfl),?_⟩;refine cL j (bm F (by decide) v v ⟨rfl,rfl⟩) ⟨t4,rfl,t4,rfl,trivial⟩ ?_;try conv=>cbv
  have H:au (bB t r) (bB r t):=⟨show (t.1.2+r.1.2)*Re.ofRat (1/2)=(r.1.2+t.1.2)*Re.ofRat (1/2) by grind,show (t.2.2+r.2.2)*Re.ofRat (1/2)=(r.2.2+t.2.2)*Re.ofRat (1/2) by grind⟩;refine cL j (bm F (by decide) D v H) ⟨t4,rfl,t4,rfl,trivial⟩ ?_;try conv=>cbv
  exact fA ⟨t2,trivial⟩ rfl (by simp)
 have w:=Cp u;refine cL j aa trivial ?_;try conv=>cbv
 exact fA ⟨t2,trivial⟩ rfl (by simp)
theorem dI {W:List UInt8} (S:ns=(runN (X.take 24)).1) (o:V.length<=3) (q:∀n∈ns,BI V n):CF 9 [.agg [.sl Bl X,.sl .u8 W]] (.one (.bool true)):=by
 have F:=ah o q;obtain⟨Q,P⟩:∃z,z=ag ns W:=⟨_,rfl⟩
 obtain⟨c,Z⟩:=xB (decide (2<=Q.length));refine AE Tryz.func9 (by kernel_rfl) rfl fun E j=>?_
 conv=>cbv
 refine cL j (a8 S o q P (i':=2) ⟨rfl⟩ (by decide) Z) ⟨t2,rfl,trivial⟩ ?_;try conv=>cbv
 refine cL j aa trivial ?_;try conv=>cbv
 intro ad G;cases G.trans (rfl:_=false);conv=>cbv
 intro U y;conv=>cbv
 cases U <;> conv=>cbv
 ·have B:=Co y;have hl:2<=Q.length:=of_decide_eq_true (Z.symm.trans B);obtain⟨r,g⟩:=AF (l:=Q) (i:=0) (by omega);refine⟨r,fun _=>⟨by omega,g⟩,?_⟩;try conv=>cbv
  obtain⟨t,h⟩:=AF (l:=Q) (i:=1) (by omega);refine⟨t,fun _=>⟨by omega,h⟩,?_⟩;try conv=>cbv
  obtain⟨a,d⟩:=aZ o q P g;obtain⟨b,f⟩:=aZ o q P h;obtain⟨A4,H⟩:=d.left F (by decide);obtain⟨T5,A5,Y⟩:=d.dot F (by decide) f;obtain⟨T7,A7,A⟩:=H.dot F (by decide) f;obtain⟨T8,A8,K⟩:=d.dot F (by decide) d;obtain⟨T9,A9,N⟩:=f.dot F (by decide) f;refine cL j (ax F (by decide) d f Y) ⟨t4,t4,trivial⟩ ?_;try conv=>cbv
  refine⟨fun _=>YB (by kernel_rfl),?_⟩;refine⟨r,fun _=>⟨by omega,g⟩,?_⟩;try conv=>cbv
  refine⟨t,fun _=>⟨by omega,h⟩,?_⟩;try conv=>cbv
  refine cL j (bC F (by decide) d f A) ⟨t4,t4,trivial⟩ ?_;try conv=>cbv
  refine⟨fun _=>YB (by kernel_rfl),?_⟩;refine⟨r,fun _=>⟨by omega,g⟩,?_⟩;try conv=>cbv
  refine cL j (bM F (by decide) d K) ⟨t4,trivial⟩ ?_;try conv=>cbv
  refine⟨t,fun _=>⟨by omega,h⟩,?_⟩;try conv=>cbv
  refine cL j (bM F (by decide) f N) ⟨t4,trivial⟩ ?_;try conv=>cbv
  refine⟨r,fun _=>⟨by omega,g⟩,?_⟩;try conv=>cbv
  refine cL j (bW F (by decide) d H) ⟨t4,trivial⟩ ?_;try conv=>cbv
  refine⟨t,fun _=>⟨by omega,h⟩,?_⟩;try conv=>cbv
  refine cL j (ax F (by decide) H f A) ⟨t4,t4,trivial⟩ ?_;try conv=>cbv
  refine⟨fun _=>YB (by kernel_rfl),?_⟩;intro ae I;cases I.trans (show _=false by decide);conv=>cbv
  intro af J;cases J.trans (show _=false by decide);conv=>cbv
  intro ai L;cases L.trans (show _=false by decide);conv=>cbv
  intro aj M;cases M.trans (show _=false by decide);conv=>cbv
  intro an O;cases O.trans (show _=false by decide);conv=>cbv
  have T:Wvv (Tf (PN ns)) (Lvv 2) T5 A5 T7 A7 (aW a b,ak a b):=⟨Y,A⟩;obtain⟨a7,a5,u⟩:=T.dot F (by decide) T;refine cL j (ba F (by decide) T u) ⟨t4,trivial⟩ ?_;try conv=>cbv
  obtain⟨ab,a6,w⟩:=K.mul F (by decide) N;refine cL j (bI F (by decide) K N w) ⟨t2,t2,trivial⟩ ?_;try conv=>cbv
  intro a1 v;cases v.trans (show _=true by decide);conv=>cbv
  intro a2 x;cases x.trans (show _=true by decide);conv=>cbv
  have D:(aW (aW a b,ak a b) (aW a b,ak a b)).2=(al (aW a a) (aW b b)).2:=by
   show (a.1.2*b.1.2+a.2.2*b.2.2)*(a.1.2*b.1.2+a.2.2*b.2.2)+(-a.2.2*b.1.2+a.1.2*b.2.2)*(-a.2.2*b.1.2+a.1.2*b.2.2)=(a.1.2*a.1.2+a.2.2*a.2.2)*(b.1.2*b.1.2+b.2.2*b.2.2)
   grind
  refine cL j (ay F (by decide) u (w.up F (by decide) (by decide)) (c:=true) ⟨fun _=>D,fun _=>rfl⟩) ⟨t2,t2,trivial⟩ ?_;try conv=>cbv
  refine cL j (ay F (by decide) A A (c:=true) ⟨fun _=>rfl,fun _=>rfl⟩) ⟨t2,t2,trivial⟩ ?_;try conv=>cbv
  exact fA ⟨t2,trivial⟩ rfl (by simp)
 have B:=Cp y;refine cL j aa trivial ?_;try conv=>cbv
 exact fA ⟨t2,trivial⟩ rfl (by simp)
theorem dK {W:List UInt8} (a6:ns=(runN (X.take 24)).1) (u:V.length<=3) (v:∀n∈ns,BI V n):CF 10 [.agg [.sl Bl X,.sl .u8 W]] (.one (.bool true)):=by
 have F:=ah u v;obtain⟨Q,S⟩:∃z,z=ag ns W:=⟨_,rfl⟩
 obtain⟨c,hc⟩:=xB (decide (3<=Q.length));refine AE Tryz.func10 (by kernel_rfl) rfl fun E f=>?_
 conv=>cbv
 refine cL f (a8 a6 u v S (i':=3) ⟨rfl⟩ (by decide) hc) ⟨t2,rfl,trivial⟩ ?_;try conv=>cbv
 refine cL f aa trivial ?_;try conv=>cbv
 intro aC Y;cases Y.trans (rfl:_=false);conv=>cbv
 intro a7 N;conv=>cbv
 cases a7 <;> conv=>cbv
 ·have P:=Co N;have hl:3<=Q.length:=of_decide_eq_true (hc.symm.trans P);obtain⟨A,g⟩:=AF (l:=Q) (i:=0) (by omega);refine⟨A,fun _=>⟨by omega,g⟩,?_⟩;try conv=>cbv
  obtain⟨B,h⟩:=AF (l:=Q) (i:=1) (by omega);refine⟨B,fun _=>⟨by omega,h⟩,?_⟩;try conv=>cbv
  obtain⟨r,j⟩:=aZ u v S g;obtain⟨t,o⟩:=aZ u v S h;obtain⟨T5,A5,T6,A6,O⟩:=j.add F (by decide) o;refine cL f (cD F (by decide) j o O) ⟨t4,t4,trivial⟩ ?_;try conv=>cbv
  refine⟨fun _=>YB (by kernel_rfl),?_⟩;obtain⟨q,a⟩:=AF (l:=Q) (i:=2) (by omega);refine⟨q,fun _=>⟨by omega,a⟩,?_⟩;try conv=>cbv
  obtain⟨d,b⟩:=aZ u v S a;have w:=b.up F (k:=1) (by decide) (by decide);obtain⟨A4,h4⟩:=O.left F (by decide);obtain⟨A3,h3⟩:=j.left F (by decide);obtain⟨A2,h2⟩:=o.left F (by decide);obtain⟨T7,A7,h7⟩:=O.dot F (by decide) w;obtain⟨T8,A8,h8⟩:=j.dot F (by decide) b;obtain⟨T9,A9,h9⟩:=o.dot F (by decide) b;obtain⟨av,al,D⟩:=h4.dot F (by decide) w;obtain⟨aw,an,x⟩:=h3.dot F (by decide) b;obtain⟨az,ao,y⟩:=h2.dot F (by decide) b;refine cL f (ax F (by decide) O w h7) ⟨t4,t4,trivial⟩ ?_;try conv=>cbv
  refine⟨fun _=>YB (by kernel_rfl),?_⟩;refine⟨A,fun _=>⟨by omega,g⟩,?_⟩;try conv=>cbv
  refine⟨q,fun _=>⟨by omega,a⟩,?_⟩;try conv=>cbv
  refine cL f (ax F (by decide) j b h8) ⟨t4,t4,trivial⟩ ?_;try conv=>cbv
  refine⟨fun _=>YB (by kernel_rfl),?_⟩;refine⟨B,fun _=>⟨by omega,h⟩,?_⟩;try conv=>cbv
  refine⟨q,fun _=>⟨by omega,a⟩,?_⟩;try conv=>cbv
  refine cL f (ax F (by decide) o b h9) ⟨t4,t4,trivial⟩ ?_;try conv=>cbv
  refine⟨fun _=>YB (by kernel_rfl),?_⟩;intro aD Z;cases Z.trans (show _=false by decide);conv=>cbv
  intro aE a1;cases a1.trans (show _=false by decide);conv=>cbv
  intro aF a2;cases a2.trans (show _=false by decide);conv=>cbv
  intro aG a5;cases a5.trans (show _=false by decide);conv=>cbv
  refine⟨q,fun _=>⟨by omega,a⟩,?_⟩;try conv=>cbv
  refine cL f (bC F (by decide) O w D) ⟨t4,t4,trivial⟩ ?_;try conv=>cbv
  refine⟨fun _=>YB (by kernel_rfl),?_⟩;refine⟨A,fun _=>⟨by omega,g⟩,?_⟩;try conv=>cbv
  refine⟨q,fun _=>⟨by omega,a⟩,?_⟩;try conv=>cbv
  refine cL f (bC F (by decide) j b x) ⟨t4,t4,trivial⟩ ?_;try conv=>cbv
  refine⟨fun _=>YB (by kernel_rfl),?_⟩;refine⟨B,fun _=>⟨by omega,h⟩,?_⟩;try conv=>cbv
  refine⟨q,fun _=>⟨by omega,a⟩,?_⟩;try conv=>cbv
  refine cL f (bC F (by decide) o b y) ⟨t4,t4,trivial⟩ ?_;try conv=>cbv
  refine⟨fun _=>YB (by kernel_rfl),?_⟩;intro ab G;cases G.trans (show _=false by decide);conv=>cbv
  intro ad H;cases H.trans (show _=false by decide);conv=>cbv
  intro af I;cases I.trans (show _=false by decide);conv=>cbv
  obtain⟨aA,aq,J⟩:=h8.add F (by decide) h9;refine cL f (bH F (by decide) h8 h9 J) ⟨t2,t2,trivial⟩ ?_;try conv=>cbv
  obtain⟨aB,au,M⟩:=x.add F (by decide) y;refine cL f (bH F (by decide) x y M) ⟨t2,t2,trivial⟩ ?_;try conv=>cbv
  intro ai K;cases K.trans (show _=true by decide);conv=>cbv
  intro aj L;cases L.trans (show _=true by decide);conv=>cbv
  have T:(aW (ae r t) d).2=(ar (aW r d) (aW t d)).2:=show (r.1.2+t.1.2)*d.1.2+(r.2.2+t.2.2)*d.2.2=r.1.2*d.1.2+r.2.2*d.2.2+(t.1.2*d.1.2+t.2.2*d.2.2) by grind
  refine cL f (ay F (by decide) h7 J (c:=true) ⟨fun _=>T,fun _=>rfl⟩) ⟨t2,t2,trivial⟩ ?_;try conv=>cbv
  have U:(ak (ae r t) d).2=(ar (ak r d) (ak t d)).2:=show -(r.2.2+t.2.2)*d.1.2+(r.1.2+t.1.2)*d.2.2= -r.2.2*d.1.2+r.1.2*d.2.2+(-t.2.2*d.1.2+t.1.2*d.2.2) by grind
  refine cL f (ay F (by decide) D M (c:=true) ⟨fun _=>U,fun _=>rfl⟩) ⟨t2,t2,trivial⟩ ?_;try conv=>cbv
  exact fA ⟨t2,trivial⟩ rfl (by simp)
 have P:=Cp N;refine cL f aa trivial ?_;try conv=>cbv
 exact fA ⟨t2,trivial⟩ rfl (by simp)
theorem cG {L:Nat->Nat} (F:Ctx TT R C L m) {p:Vee} (l:k<=m) (n:Wvv TT (L k) T1 A1 T2 A2 p) (j:c=true↔p.1.2=0/\p.2.2=0):CF 58 [.agg [.sl (.sl AA) T1,.sl AA A1,.sl (.sl AA) T2,.sl AA A2]] (.one (.bool c)):=by
 refine AE Tryz.func58 (by kernel_rfl) rfl fun E i=>?_
 conv=>cbv
 obtain⟨t,b⟩:=xI (Ao p.1.2);refine cL i (bn F l n.x b) ⟨t2,trivial⟩ ?_;try conv=>cbv
 intro q g;conv=>cbv
 cases q <;> conv=>cbv
 ·have f:=Ac g;exact fA ⟨⟨rfl,congrArg _ (by cases c with | false=>rfl | true=>exact absurd (by rw[b];exact I6.2 (j.1 rfl).1) f),trivial⟩,trivial⟩ rfl (by simp)
 have f:=Ad g;obtain⟨r,a⟩:=xI (Ao p.2.2);refine cL i (bn F l n.y a) ⟨t2,trivial⟩ ?_;try conv=>cbv
 intro o d;conv=>cbv
 exact fA ⟨⟨rfl,congrArg _ (by rw[Bool.eq_iff_iff,d,beq_iff_eq,a,I6,j];exact⟨fun h=>h.2,fun h=>⟨I6.1 (b.symm.trans f),h⟩⟩),trivial⟩,trivial⟩ rfl (by simp)
theorem cN {L:Nat->Nat} (F:Ctx TT R C L m) {p:Vee} (l:k<=m) (n:Wvv TT (L k) T1 A1 T2 A2 p) (j:c=true↔p.1.2=0/\p.2.2=0):CF 56 [.agg [.sl (.sl AA) T1,.sl AA A1,.sl (.sl AA) T2,.sl AA A2]] (.one (.bool c)):=by
 refine AE Tryz.func56 (by kernel_rfl) rfl fun E i=>?_
 conv=>cbv
 obtain⟨t,b⟩:=xI (Ao p.1.2);refine cL i (cI F l n.x b) ⟨t2,trivial⟩ ?_;try conv=>cbv
 intro q g;conv=>cbv
 cases q <;> conv=>cbv
 ·have f:=Ac g;exact fA ⟨⟨rfl,congrArg _ (by cases c with | false=>rfl | true=>exact absurd (by rw[b];exact I6.2 (j.1 rfl).1) f),trivial⟩,trivial⟩ rfl (by simp)
 have f:=Ad g;obtain⟨r,a⟩:=xI (Ao p.2.2);refine cL i (cI F l n.y a) ⟨t2,trivial⟩ ?_;try conv=>cbv
 intro o d;conv=>cbv
 exact fA ⟨⟨rfl,congrArg _ (by rw[Bool.eq_iff_iff,d,beq_iff_eq,a,I6,j];exact⟨fun h=>h.2,fun h=>⟨I6.1 (b.symm.trans f),h⟩⟩),trivial⟩,trivial⟩ rfl (by simp)
theorem cz {L:Nat->Nat} (F:Ctx TT R C L m) {p:Vee} (b:k<=m) (c:Wvv TT (L k) T1 A1 T2 A2 p) (d:Wvv TT s T1 A5 T2 A6 (af p)):CF 116 [.agg [.sl (.sl AA) T1,.sl AA A1,.sl (.sl AA) T2,.sl AA A2]] (.agg [.sl (.sl AA) T1,.sl AA A5,.sl (.sl AA) T2,.sl AA A6]):=by
 refine AE Tryz.func116 (by kernel_rfl) rfl fun E a=>?_
 conv=>cbv
 refine cL a (bY F b c.x d.x) ⟨t2,trivial⟩ ?_;try conv=>cbv
 refine cL a (bY F b c.y d.y) ⟨t2,trivial⟩ ?_;try conv=>cbv
 refine⟨fun _=>YB (by kernel_rfl),?_⟩;exact fA ⟨⟨rfl,rfl,rfl,rfl,rfl,trivial⟩,trivial⟩ rfl (by simp)
theorem dC {L:Nat->Nat} (F:Ctx TT R C L m) {T3 T4 T5 T6:List LR} {A3 A4:LR} {p q:Vee} (a:k<=m) (i:Wvv TT (L k) T1 A1 T2 A2 p) (b:Wvv TT (L k) T3 A3 T4 A4 q) (j:Wvv TT s T5 A5 T6 A6 (ae p (af q))):CF 50 [.agg [.sl (.sl AA) T1,.sl AA A1,.sl (.sl AA) T2,.sl AA A2],.agg [.sl (.sl AA) T3,.sl AA A3,.sl (.sl AA) T4,.sl AA A4]] (.AG [(true,[.sl (.sl AA) T5,.sl AA A5,.sl (.sl AA) T6,.sl AA A6]),(false,[.int .i64 0])]):=by
 refine AE Tryz.func50 (by kernel_rfl) rfl fun E h=>?_
 conv=>cbv
 obtain⟨c,f⟩:=b.x.neg F a;obtain⟨d,g⟩:=b.y.neg F a;refine cL h (cz F a b (⟨f,g⟩:Wvv TT (L k) T3 c T4 d (af q))) ⟨t4,trivial⟩ ?_;try conv=>cbv
 refine cL h (cM F a i (⟨f,g⟩:Wvv TT (L k) T3 c T4 d (af q)) j) ⟨t4,t4,trivial⟩ ?_;try conv=>cbv
 refine⟨fun _=>YB (by kernel_rfl),?_⟩;exact fA ⟨⟨rfl,rfl,rfl,rfl,rfl,trivial⟩,t2,trivial⟩ rfl (by simp)
theorem Wvv.af {L:Nat->Nat} (F:Ctx TT R C L m) {p:Vee} (b:k<=m) (c:Wvv TT (L k) T1 A1 T2 A2 p):∃A a,Wvv TT (L k) T1 A T2 a (Go.Abs.af p):=by
 obtain⟨A,h⟩:=c.x.neg F b;obtain⟨a,h'⟩:=c.y.neg F b;exact⟨A,a,h,h'⟩
theorem cW {p q:Vee}:au p q↔(ae p (af q)).1.2=0/\(ae p (af q)).2.2=0:=by
 show p.1.2=q.1.2/\p.2.2=q.2.2↔p.1.2+ -q.1.2=0/\p.2.2+ -q.2.2=0
 constructor <;> rintro⟨a,b⟩ <;> constructor <;> grind
theorem dH {W:List UInt8} (M:ns=(runN (X.take 24)).1) (j:V.length<=3) (o:∀n∈ns,BI V n):CF 12 [.agg [.sl Bl X,.sl .u8 W]] (.one (.bool true)):=by
 have F:=ah j o;obtain⟨Q,K⟩:∃z,z=ag ns W:=⟨_,rfl⟩
 obtain⟨c,T⟩:=xB (decide (2<=Q.length));refine AE Tryz.func12 (by kernel_rfl) rfl fun E h=>?_
 conv=>cbv
 refine cL h (a8 M j o K (i':=2) ⟨rfl⟩ (by decide) T) ⟨t2,rfl,trivial⟩ ?_;try conv=>cbv
 refine cL h aa trivial ?_;try conv=>cbv
 intro a1 G;cases G.trans (rfl:_=false);conv=>cbv
 intro N u;conv=>cbv
 cases N <;> conv=>cbv
 ·have x:=Co u;have hl:2<=Q.length:=of_decide_eq_true (T.symm.trans x);obtain⟨d,a⟩:=AF (l:=Q) (i:=0) (by omega);refine⟨d,fun _=>⟨by omega,a⟩,?_⟩;try conv=>cbv
  obtain⟨D,g⟩:=AF (l:=Q) (i:=1) (by omega);refine⟨D,fun _=>⟨by omega,g⟩,?_⟩;try conv=>cbv
  obtain⟨B,b⟩:=aZ j o K a;obtain⟨S,t⟩:=aZ j o K g;obtain⟨A7,A8,L⟩:=t.af F (by decide);obtain⟨T5,A5,T6,A6,I⟩:=b.add F (by decide) L;refine cL h (dC F (by decide) b t I) ⟨t4,t4,trivial⟩ ?_;try conv=>cbv
  refine⟨fun _=>YB (by kernel_rfl),?_⟩;intro a2 H;cases H.trans (show _=true by decide);conv=>cbv
  obtain⟨U,f⟩:=CZ ((ae B (af S)).1.2=0/\(ae B (af S)).2.2=0);refine cL h (cN F (by decide) I f) ⟨t4,trivial⟩ ?_;try conv=>cbv
  refine⟨d,fun _=>⟨by omega,a⟩,?_⟩;try conv=>cbv
  refine⟨D,fun _=>⟨by omega,g⟩,?_⟩;try conv=>cbv
  obtain⟨Y,q⟩:=CZ (au B S);refine cL h (bL F (by decide) b t q) ⟨t4,t4,trivial⟩ ?_;try conv=>cbv
  intro O v;conv=>cbv
  cases O <;> conv=>cbv
  ·have y:=PM v;exact absurd (by rw[Bool.eq_iff_iff,q,f,cW]) y
  have y:=PO v;refine⟨d,fun _=>⟨by omega,a⟩,?_⟩;try conv=>cbv
  refine⟨d,fun _=>⟨by omega,a⟩,?_⟩;try conv=>cbv
  refine cL h (bL F (by decide) b b (c:=true) ⟨fun _=>⟨rfl,rfl⟩,fun _=>rfl⟩) ⟨t4,t4,trivial⟩ ?_;try conv=>cbv
  refine cL h (cG F (by decide) I f) ⟨t4,trivial⟩ ?_;try conv=>cbv
  intro P w;conv=>cbv
  cases P <;> conv=>cbv
  ·have A:=PM w;exact absurd rfl A
  have A:=PO w;refine⟨d,fun _=>⟨by omega,a⟩,?_⟩;try conv=>cbv
  obtain⟨Z,r⟩:=CZ (B.1.2=0/\B.2.2=0);refine cL h (cG F (by decide) b r) ⟨t4,trivial⟩ ?_;try conv=>cbv
  refine⟨d,fun _=>⟨by omega,a⟩,?_⟩;try conv=>cbv
  refine cL h (cN F (by decide) b r) ⟨t4,trivial⟩ ?_;try conv=>cbv
  intro a5 J;conv=>cbv
  refine⟨fun _=>YB (by kernel_rfl),?_⟩;exact fA ⟨⟨rfl,congrArg _ (by rw[J];simp),trivial⟩,trivial⟩ rfl (by simp)
 have x:=Cp u;refine cL h aa trivial ?_;try conv=>cbv
 exact fA ⟨t2,trivial⟩ rfl (by simp)
end Go.Abs
namespace Go.Abs
open Go.RowKit
abbrev K1:Nat:=930000000
abbrev SLL:Nat:=71000000000
theorem cY:∀h,h<=4->Fit h K1 SLL
 |0,_|1,_|2,_|3,_|4,_=>⟨by decide +kernel,by decide +kernel,by decide +kernel,by decide +kernel⟩
 | _+5,h=>absurd h (by omega)
theorem cX:∀h,h<=4->Cu h K1 SLL
 |0,_|1,_|2,_|3,_|4,_=>⟨by decide +kernel,by decide +kernel,by decide +kernel,by decide +kernel⟩
 | _+5,h=>absurd h (by omega)
theorem cb:2*SLL+EE 4 K1<=60000000000000:=by decide +kernel
theorem cU:EE 3 Rm<=6000000:=by decide +kernel
theorem cZ:GG 3 K1<=70000000000:=by decide +kernel
theorem cR {w:List (List Rat)} (hw:AQ w) (tb:TB K1 w) (d:w.length<=4) {S:Nat} (c:K1<=S) (b:S<=SLL):CP (fun u=>u<:+w) K1 0 S:=
 WC hw tb d (by decide) c (fun h a=>(cY h a).mono b) (fun h a=>(cX h a).mono b) (by have:=cb;omega)
theorem cl {x:Re} (h:0<=x):0<=Ao x:=by rcases DV x with⟨a,b⟩ |⟨a,b⟩ |⟨a,b⟩ <;> first | omega | (exfalso;grind)
section
variable {V:List Re} {ns:List Nu} {p:Vee} {T1 T2:List LR} {A1 A2:LR}
theorem bh (a:V.length<=3) (h:∀n∈ns,BI V n) {u:List (List Rat)} (hu:Tf (PN ns) u):u.length<=3:=Nat.le_trans (hu.len (PN.Dg a h) (fun b=>PN.A3 h b)) a
theorem cm (d:V.length<=3) (h:∀n∈ns,BI V n) (a:Wvv (Tf (PN ns)) (Lvv 0) T1 A1 T2 A2 p):Tf (PN ns) (aW p p).1/\El (aW p p).1 K1 (aW p p).2:=by
 have G:=(EP d h (S:=8000000) (by decide) (by decide)).toGam
 have key:∀{n:Nu} {T A},Nvv (Tf (PN ns)) (Lvv 0) T A n->El n.1 8000000 (n.2*n.2):=fun {n T A} c=>by
  have ht:=G.AN c.hu;have he:=Ft (h:=n.1.length) (h':=3) (R:=Rm) (R':=Rm) (bh d h c.hu) (Nat.le_refl _);have:=cU;exact (c.hx.mul ht c.hx).mono (show 802678+802678+EE n.1.length Rm<=8000000 by omega)
 obtain⟨b,f,g⟩:=G.Al a.x.hu a.y.hu
 show Tf (PN ns) (Al (Al p.1.1 p.1.1) (Al p.2.1 p.2.1))/\El (Al (Al p.1.1 p.1.1) (Al p.2.1 p.2.1)) K1 (p.1.2*p.1.2+p.2.2*p.2.2)
 rw[KF,KF];refine⟨b,((G.BA a.x.hu b f (key a.x)).add (G.AN b).red (G.BA a.y.hu b g (key a.y))).mono (by decide)⟩
theorem ca (f:V.length<=3) (h:∀n∈ns,BI V n) (g:Wvv (Tf (PN ns)) (Lvv 0) T1 A1 T2 A2 p):
  ∃(u w:List (List Rat)) (x:Re) (T:List LR) (A:LR),u=(aW p p).1/\x=(aW p p).2/\0<=x/\u<:+w/\T=tw w/\A=em w (Re.sqrt x)/\El u K1 x/\El w K1 x/\El w SLL (Re.sqrt x)/\(∀S,K1<=S->S<=SLL->CP (fun v=>v<:+w) K1 0 S)/\
   CF 39 [.agg [.sl (.sl AA) T1,.sl AA A1,.sl (.sl AA) T2,.sl AA A2]] (.AG [(true,[.sl (.sl AA) T,.sl AA A]),(false,[.int .i64 0])]):=by
 have F:=ah f h;have F0:=(EP f h (Nat.le_refl Rm) (by decide)).toGam;obtain⟨hu,hx⟩:=cm f h g;obtain⟨G,D,i⟩:=g.dot F (by decide) g;have b:=cT p
 generalize d:(aW p p).1=u at*
 generalize z:(aW p p).2=x at*
 have ht:=F0.AN hu;have B:=bh f h hu;have t:=Iw ht.red hx.mem b
 have o:(Aa u x).length<=4:=by
  by_cases a:Sq u x
  ·rw[CY a];omega
  rw[C4 a];exact Nat.succ_le_succ B
 have tb:TB K1 (Aa u x):=by
  by_cases a:Sq u x
  ·rw[CY a];exact ht.tb.mono (by decide)
  rw[C4 a];intro r q;rcases List.mem_cons.1 q with rfl | q
  ·exact hx.bd
  exact (ht.tb r q).mono (by decide)
 have c:El (Aa u x) SLL (Re.sqrt x):=by
  by_cases a:Sq u x
  ·have y:AU K1 u:=⟨ht.red,by rwa [CY a] at tb,by decide,by omega⟩;have L:GG u.length K1<=GG 3 K1:=JD B (Nat.le_refl _);have:=cZ;rw[CY a];exact (hx.sqrt y ((Hv b).1 a) (Re.CB b)).mono (show 930000000+GG u.length K1<=71000000000 by omega)
  have K:x≠0:=fun e=>a ⟨0,BM _,by rw[e];grind⟩
  have J:=Kj ht.red hx.mem (by grind) a;rw[C4 a,<-Gs hx.mem];exact (F6 J).mono (Nat.zero_le _)
 have CH:∀S,K1<=S->S<=SLL->CP (fun v=>v<:+Aa u x) K1 0 S:=fun S H I=>cR t tb o H I
 refine⟨u,Aa u x,x,_,_,rfl,rfl,b,HE u x,rfl,rfl,hx,(CH K1 (Nat.le_refl _) (by decide)).toGam.BA (HE u x) (List.suffix_refl _) (IV (HE u x)) hx,c,CH,cE F (by decide) g i ?_⟩;have l:G=tw u:=by rw[i.hT,d]
 have j:D=em u x:=by rw[i.hA,d,z]
 exact LU (CH K1 (Nat.le_refl _) (by decide)).toGam (HE u x) l j hx (List.suffix_refl _) b rfl rfl c (by decide)
end
theorem dJ {X:List (el Bl)} {W:List UInt8} {ns:List Nu} (T:ns=(runN (X.take 24)).1) {V:List Re} (g:V.length<=3) (j:∀n∈ns,BI V n):CF 7 [.agg [.sl Bl X,.sl .u8 W]] (.one (.bool true)):=by
 have F:=ah g j;obtain⟨Q,hQ⟩:∃z,z=ag ns W:=⟨_,rfl⟩
 obtain⟨c,hc⟩:=xB (decide (1<=Q.length));refine AE Tryz.func7 (by kernel_rfl) rfl fun E d=>?_
 conv=>cbv
 refine cL d (a8 T g j hQ (i':=1) ⟨rfl⟩ (by decide) hc) ⟨t2,rfl,trivial⟩ ?_;try conv=>cbv
 refine cL d aa trivial ?_;try conv=>cbv
 intro a1 I;cases I.trans (rfl:_=false);conv=>cbv
 intro Z q;conv=>cbv
 cases Z <;> conv=>cbv
 ·have G:=Co q;have hl:1<=Q.length:=of_decide_eq_true (hc.symm.trans G);obtain⟨H,a⟩:=AF (l:=Q) (i:=0) (by omega);refine⟨H,fun _=>⟨by omega,a⟩,?_⟩;try conv=>cbv
  obtain⟨p0,o⟩:=aZ g j hQ a;obtain⟨u,w,x,T5,A5,hu,hx,h0,D,f,b,hex,A,h,CH,S⟩:=ca g j o;have U:Re.sqrt x*Re.sqrt x=x:=Re.CB h0;refine cL d S ⟨t4,trivial⟩ ?_;try conv=>cbv
  refine⟨H,fun _=>⟨by omega,a⟩,?_⟩;try conv=>cbv
  obtain⟨T8,A8,N⟩:=o.dot F (by decide) o;have P:T8=tw u:=by rw[hu];exact N.hT
  have O:A8=em u x:=by rw[hu,hx];exact N.hA
  refine cL d (ba F (by decide) o N) ⟨t4,trivial⟩ ?_;try conv=>cbv
  intro a2 J;cases J.trans (show _=false by decide);conv=>cbv
  intro a5 K;cases K.trans (show _=false by decide);conv=>cbv
  refine cL d (Uh (CH SLL (by decide) (Nat.le_refl _)) (List.suffix_refl _) f b h) ⟨t2,trivial⟩ ?_;try conv=>cbv
  intro a6 L;cases L.trans (rfl:_=false);conv=>cbv
  obtain⟨ab,B⟩:=xI (Ao (Re.sqrt x));refine cL d (JP (CH SLL (by decide) (Nat.le_refl _)) (List.suffix_refl _) f b h B) ⟨t2,trivial⟩ ?_;try conv=>cbv
  intro B4 t;conv=>cbv
  cases B4 <;> conv=>cbv
  ·have Y:=AR t;obtain⟨T9,y⟩:=B9 (tw w);obtain⟨A9,v⟩:=BB (em w x);refine cL (r:= .AG [(true,[.sl (.sl AA) T9,.sl AA A9]),(false,[.int .i64 0])]) d (JO (CH SLL (by decide) (Nat.le_refl _)) (List.suffix_refl _) (List.suffix_refl _) f f b b h h (by rw[y,KF]) (by rw[v,KF,U])) ⟨t2,t2,trivial⟩ ?_;try conv=>cbv
   intro a7 M;cases M.trans (show _=true by decide);conv=>cbv
   refine cL (r:=.one (.bool true)) d (Uf (CH K1 (Nat.le_refl _) (by decide)) (List.suffix_refl _) D y P v O A hex (CH 2000000000 (by decide) (by decide)) (by decide) (by simp)) ⟨t2,t2,trivial⟩ ?_;try conv=>cbv
   exact fA ⟨t2,trivial⟩ rfl (by simp)
  have Y:=AS t;exact absurd (cl (Re.DO x)) (by omega)
 have G:=Cp q;refine cL d aa trivial ?_;try conv=>cbv
 exact fA ⟨t2,trivial⟩ rfl (by simp)
end Go.Abs
