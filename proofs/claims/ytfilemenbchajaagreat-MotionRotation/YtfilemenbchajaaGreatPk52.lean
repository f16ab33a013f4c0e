/- Part 53 of a proof. Conditions: each theorem's own. -/
import Derived.Test.YtfilemenbchajaaGreatPk50
import Derived.Test.YtfilemenbchajaaGreatPk51
set_option linter.all false
set_option maxHeartbeats 8000000
set_option maxRecDepth 20000
open Go.Proofs
namespace Go.Abs
open Go.RowKit
variable {TT:List (List Rat)->Prop} {V:List Re} {X:List (el Bf)} {a b c j two x y:Re} {ns:List Nu} {q r:Rat}
theorem Pt (h:r*r=q) (a:0<=r):Re.sqrt (Re.ofRat q)=Re.ofRat r:=by
 have d:(0:Re)<=Re.ofRat q:=by rw[<-h,Re.ofRat_mul];exact Re.IE _
 exact Re.Gs (Re.GN _) (Gl a) (by rw[Re.E9 d,<-h,Re.ofRat_mul])
theorem Yg (h:r*r=q):∀u,TT u->In u (Re.ofRat q)->TT (Ax u (Re.ofRat q)):=fun u hu _=>by
 rw[EW ⟨_,Ds r u,by rw[<-Re.ofRat_mul,h]⟩];exact hu
theorem KD:CF 45 [] (.one (.bool true)):=by
 obtain⟨w,F⟩:=Z1 (V:=[]) (ns:=[]) (by decide) (fun n hn=>by simp at hn);have bu:El w (1*1950000) (Re.sqrt (Re.ofRat 25)):=by rw[Pt (r:=5) (by decide +kernel) (by decide +kernel)];exact (DK F (p:=5) (by decide +kernel)).choose_spec.2.choose_spec.2.2.2.2
 have bt:=Pb F (K:=70000) (l:=1) (by decide) (Yg (r:=5) (q:=25) (by decide +kernel)) (Gl (by decide +kernel)) bu (by decide);obtain⟨AK,z,m⟩:=DK F (p:=((1:Int):Rat)) (by decide +kernel);obtain⟨AJ,br,aM⟩:=DK F (p:=((5:Int):Rat)) (by decide +kernel);obtain⟨AQ,AO,aN,bB,bD⟩:=D1 F m aM (d:=70) (by omega) (by (try simp only[<-Re.ofRat_add,<-Re.ofRat_mul,<-Re.ofRat_neg,B7,CH]);exact fun h=>absurd (Re.Du.1 (h.trans Re.GI.symm)) (by decide +kernel)) (by omega) (by omega) (by omega);have aO:=C6 F (by decide) (r:=1/5) (by decide +kernel) aN (by (try simp only[<-Re.ofRat_add,<-Re.ofRat_mul,<-Re.ofRat_neg,B7,CH]);exact congrArg Re.ofRat (by decide +kernel));obtain⟨b5,b6,⟨A,B⟩,L⟩:=EH F (p:=((0:Int):Rat)) (q:=((5:Int):Rat)) (by decide +kernel) (by decide +kernel);obtain⟨b7,b8,⟨f,g⟩,t⟩:=EH F (p:=((0:Int):Rat)) (q:=((0:Int):Rat)) (by decide +kernel) (by decide +kernel)
 obtain⟨BA,Ay,al,Z,an,a1,ao,a2,M,N,aG⟩:=bO F t L aO F L (v:=Re.ofRat 25) (kr:=1) (fun h=>absurd (Re.Du.1 h.2) (by decide +kernel)) (by (try simp only[<-Re.ofRat_add,<-Re.ofRat_mul,<-Re.ofRat_neg,B7,CH]);exact congrArg Re.ofRat (by decide +kernel)) bt (by decide) (by decide) (by rw[Pt (r:=5) (by decide +kernel) (by decide +kernel)];exact fun h=>absurd (Re.Du.1 (h.trans Re.GI.symm)) (by decide +kernel)) (by rw[Pt (r:=5) (by decide +kernel) (by decide +kernel),<-Re.ofRat_mul];exact congrArg Re.ofRat (by decide +kernel)) (by omega);have aP:Vm _ w 1950000 1 1 BA Ay al Z _ _:=⟨C6 F (by decide) (r:=0) (by decide +kernel) M.x (by (try simp only[<-Re.ofRat_add,<-Re.ofRat_mul,<-Re.ofRat_neg,B7,CH]);exact congrArg Re.ofRat (by decide +kernel)),C6 F (by decide) (r:=1) (by decide +kernel) M.y (by (try simp only[<-Re.ofRat_add,<-Re.ofRat_mul,<-Re.ofRat_neg,B7,CH]);exact congrArg Re.ofRat (by decide +kernel))⟩
 have aQ:Vm _ w 1950000 1 1 an a1 ao a2 _ _:=⟨C6 F (by decide) (r:=0) (by decide +kernel) N.x (by (try simp only[<-Re.ofRat_add,<-Re.ofRat_mul,<-Re.ofRat_neg,B7,CH]);exact congrArg Re.ofRat (by decide +kernel)),C6 F (by decide) (r:=0) (by decide +kernel) N.y (by (try simp only[<-Re.ofRat_add,<-Re.ofRat_mul,<-Re.ofRat_neg,B7,CH]);exact congrArg Re.ofRat (by decide +kernel))⟩;obtain⟨b9,ba,⟨C,D⟩,aR⟩:=EH F (p:=((1:Int):Rat)) (q:=((0:Int):Rat)) (by decide +kernel) (by decide +kernel);obtain⟨aq,a5,ar,a6,O,aH⟩:=Ta F aP aQ aR (by omega);have aS:Vm _ w 1950000 1 1 aq a5 ar a6 _ _:=⟨C6 F (by decide) (r:=0) (by decide +kernel) O.x (by (try simp only[<-Re.ofRat_add,<-Re.ofRat_mul,<-Re.ofRat_neg,B7,CH]);exact congrArg Re.ofRat (by decide +kernel)),C6 F (by decide) (r:=1) (by decide +kernel) O.y (by (try simp only[<-Re.ofRat_add,<-Re.ofRat_mul,<-Re.ofRat_neg,B7,CH]);exact congrArg Re.ofRat (by decide +kernel))⟩
 obtain⟨bw,Y,aT⟩:=DK F (p:=((0:Int):Rat)) (by decide +kernel);obtain⟨au,a7,av,a8,aw,aa,ax,ab,P,Q,aI⟩:=Td F m aT m m (by (try simp only[<-Re.ofRat_add,<-Re.ofRat_mul,<-Re.ofRat_neg,B7,CH]);exact fun h=>absurd (Re.Du.1 (h.trans Re.GI.symm)) (by decide +kernel)) (by simp only[<-Re.ofRat_add,<-Re.ofRat_mul];exact congrArg Re.ofRat (by decide +kernel)) (by omega);have aU:Vm _ w 1950000 1 1 au a7 av a8 _ _:=⟨C6 F (by decide) (r:= -1) (by decide +kernel) P.x (by (try simp only[<-Re.ofRat_add,<-Re.ofRat_mul,<-Re.ofRat_neg,B7,CH]);exact congrArg Re.ofRat (by decide +kernel)),C6 F (by decide) (r:=0) (by decide +kernel) P.y (by (try simp only[<-Re.ofRat_add,<-Re.ofRat_mul,<-Re.ofRat_neg,B7,CH]);exact congrArg Re.ofRat (by decide +kernel))⟩;have aV:Vm _ w 1950000 1 1 aw aa ax ab _ _:=⟨C6 F (by decide) (r:=2) (by decide +kernel) Q.x (by (try simp only[<-Re.ofRat_add,<-Re.ofRat_mul,<-Re.ofRat_neg,B7,CH]);exact congrArg Re.ofRat (by decide +kernel)),C6 F (by decide) (r:=0) (by decide +kernel) Q.y (by (try simp only[<-Re.ofRat_add,<-Re.ofRat_mul,<-Re.ofRat_neg,B7,CH]);exact congrArg Re.ofRat (by decide +kernel))⟩
 obtain⟨ay,ad,az,ae,R,aJ⟩:=bL F aU aV t (by omega);have aW:Vm _ w 1950000 1 1 ay ad az ae _ _:=⟨C6 F (by decide) (r:=2) (by decide +kernel) R.x (by (try simp only[<-Re.ofRat_add,<-Re.ofRat_mul,<-Re.ofRat_neg,B7,CH]);exact congrArg Re.ofRat (by decide +kernel)),C6 F (by decide) (r:=0) (by decide +kernel) R.y (by (try simp only[<-Re.ofRat_add,<-Re.ofRat_mul,<-Re.ofRat_neg,B7,CH]);exact congrArg Re.ofRat (by decide +kernel))⟩;obtain⟨bx,bs,aX⟩:=DK F (p:=((4:Int):Rat)) (by decide +kernel);obtain⟨bA,bz,aY,bC,bE⟩:=D1 F m aX (d:=70) (by omega) (by (try simp only[<-Re.ofRat_add,<-Re.ofRat_mul,<-Re.ofRat_neg,B7,CH]);exact fun h=>absurd (Re.Du.1 (h.trans Re.GI.symm)) (by decide +kernel)) (by omega) (by omega) (by omega);have aZ:=C6 F (by decide) (r:=1/4) (by decide +kernel) aY (by (try simp only[<-Re.ofRat_add,<-Re.ofRat_mul,<-Re.ofRat_neg,B7,CH]);exact congrArg Re.ofRat (by decide +kernel))
 obtain⟨bb,bc,⟨o,s⟩,S⟩:=EH F (p:=((2:Int):Rat)) (q:=((0:Int):Rat)) (by decide +kernel) (by decide +kernel);obtain⟨bd,bf,⟨G,H⟩,b0⟩:=EH F (p:=((1:Int):Rat)) (q:=((1:Int):Rat)) (by decide +kernel) (by decide +kernel);obtain⟨bg,bh,⟨I,J⟩,b1⟩:=EH F (p:=((1:Int):Rat)) (q:=((3:Int):Rat)) (by decide +kernel) (by decide +kernel);obtain⟨aA,af,aB,ag,aC,ah,aD,ai,T,U,aK⟩:=bM F t S b0 b1 aZ (by (try simp only[<-Re.ofRat_add,<-Re.ofRat_mul,<-Re.ofRat_neg,B7,CH]);exact fun h=>absurd (Re.Du.1 (h.trans Re.GI.symm)) (by decide +kernel)) (by (try simp only[<-Re.ofRat_add,<-Re.ofRat_mul,B7]);exact congrArg Re.ofRat (by decide +kernel)) (by simp only[<-Re.ofRat_add,<-Re.ofRat_mul,B7];exact congrArg Re.ofRat (by decide +kernel)) (by omega);have b2:Vm _ w 1950000 1 1 aA af aB ag _ _:=⟨C6 F (by decide) (r:=0) (by decide +kernel) T.x (by (try simp only[<-Re.ofRat_add,<-Re.ofRat_mul,<-Re.ofRat_neg,B7,CH]);exact congrArg Re.ofRat (by decide +kernel)),C6 F (by decide) (r:=1) (by decide +kernel) T.y (by (try simp only[<-Re.ofRat_add,<-Re.ofRat_mul,<-Re.ofRat_neg,B7,CH]);exact congrArg Re.ofRat (by decide +kernel))⟩
 have b3:Vm _ w 1950000 1 1 aC ah aD ai _ _:=⟨C6 F (by decide) (r:=1) (by decide +kernel) U.x (by (try simp only[<-Re.ofRat_add,<-Re.ofRat_mul,<-Re.ofRat_neg,B7,CH]);exact congrArg Re.ofRat (by decide +kernel)),C6 F (by decide) (r:=1) (by decide +kernel) U.y (by (try simp only[<-Re.ofRat_add,<-Re.ofRat_mul,<-Re.ofRat_neg,B7,CH]);exact congrArg Re.ofRat (by decide +kernel))⟩;obtain⟨bj,bk,⟨i,k⟩,u⟩:=EH F (p:=((0:Int):Rat)) (q:=((1:Int):Rat)) (by decide +kernel) (by decide +kernel);obtain⟨aE,aj,aF,ak,W,aL⟩:=Ta F b2 b3 u (by omega);have b4:Vm _ w 1950000 1 1 aE aj aF ak _ _:=⟨C6 F (by decide) (r:=0) (by decide +kernel) W.x (by (try simp only[<-Re.ofRat_add,<-Re.ofRat_mul,<-Re.ofRat_neg,B7,CH]);exact congrArg Re.ofRat (by decide +kernel)),C6 F (by decide) (r:=1) (by decide +kernel) W.y (by (try simp only[<-Re.ofRat_add,<-Re.ofRat_mul,<-Re.ofRat_neg,B7,CH]);exact congrArg Re.ofRat (by decide +kernel))⟩
 refine BP Tryz.func45 (by kernel_rfl) rfl fun E a=>?_
 conv=>cbv
 refine cL a (Eh (x:=0) (y:=0) (by decide) (by decide) f g) t2 ?_;try conv=>cbv
 refine cL a (Eh (x:=0) (y:=5) (by decide) (by decide) A B) t2 ?_;try conv=>cbv
 refine cL a aG ⟨t4,t4,trivial⟩ ?_;try conv=>cbv
 refine cL a (Eh (x:=1) (y:=0) (by decide) (by decide) C D) t2 ?_;try conv=>cbv
 refine cL a aH ⟨⟨rfl,rfl,rfl,rfl,rfl,rfl,rfl,rfl,rfl,trivial⟩,t4,trivial⟩ ?_;try conv=>cbv
 refine⟨fun _=>Aq (by kernel_rfl),?_⟩;refine cL a (D6 (by decide) z) t1 ?_;try conv=>cbv
 refine cL a (D6 (by decide) Y) t1 ?_;try conv=>cbv
 refine cL a (D6 (by decide) z) t1 ?_;try conv=>cbv
 refine cL a aI ⟨⟨rfl,rfl,rfl,rfl,rfl,rfl,trivial⟩,trivial⟩ ?_;try conv=>cbv
 refine cL a (Eh (x:=0) (y:=0) (by decide) (by decide) f g) t2 ?_;try conv=>cbv
 refine cL a aJ ⟨⟨rfl,rfl,rfl,rfl,rfl,rfl,rfl,rfl,rfl,trivial⟩,t4,trivial⟩ ?_;try conv=>cbv
 refine⟨fun _=>Aq (by kernel_rfl),?_⟩;refine cL a (Eh (x:=0) (y:=0) (by decide) (by decide) f g) t2 ?_;try conv=>cbv
 refine cL a (Eh (x:=2) (y:=0) (by decide) (by decide) o s) t2 ?_;try conv=>cbv
 refine cL a (Eh (x:=1) (y:=1) (by decide) (by decide) G H) t2 ?_;try conv=>cbv
 refine cL a (Eh (x:=1) (y:=3) (by decide) (by decide) I J) t2 ?_;try conv=>cbv
 refine cL a aK ⟨t4,t4,t4,t4,rfl,trivial⟩ ?_;try conv=>cbv
 refine cL a (Eh (x:=0) (y:=1) (by decide) (by decide) i k) t2 ?_;try conv=>cbv
 refine cL a aL ⟨⟨rfl,rfl,rfl,rfl,rfl,rfl,rfl,rfl,rfl,trivial⟩,t4,trivial⟩ ?_;try conv=>cbv
 refine⟨fun _=>Aq (by kernel_rfl),?_⟩;intro bF bl;cases bl.trans (show _=true by decide);conv=>cbv
 intro bG bm;cases bm.trans (show _=true by decide);conv=>cbv
 intro bH bn;cases bn.trans (show _=true by decide);conv=>cbv
 intro bI bo;cases bo.trans (show _=true by decide);conv=>cbv
 intro bJ bp;cases bp.trans (show _=true by decide);conv=>cbv
 intro bK bq;cases bq.trans (show _=true by decide);conv=>cbv
 refine cL a (Eh (x:=0) (y:=1) (by decide) (by decide) i k) t2 ?_;try conv=>cbv
 refine cL a (EU F aS u (by omega) (by omega) (by omega) (by omega) (e:=true) ⟨fun _=>⟨congrArg Re.ofRat (by decide +kernel),congrArg Re.ofRat (by decide +kernel)⟩,fun _=>rfl⟩) ⟨t4,t4,trivial⟩ ?_;try conv=>cbv
 refine cL a (Eh (x:=2) (y:=0) (by decide) (by decide) o s) t2 ?_;try conv=>cbv
 refine cL a (EU F aW S (by omega) (by omega) (by omega) (by omega) (e:=true) ⟨fun _=>⟨congrArg Re.ofRat (by decide +kernel),congrArg Re.ofRat (by decide +kernel)⟩,fun _=>rfl⟩) ⟨t4,t4,trivial⟩ ?_;try conv=>cbv
 refine cL a (Eh (x:=0) (y:=1) (by decide) (by decide) i k) t2 ?_;try conv=>cbv
 refine cL a (EU F b4 u (by omega) (by omega) (by omega) (by omega) (e:=true) ⟨fun _=>⟨congrArg Re.ofRat (by decide +kernel),congrArg Re.ofRat (by decide +kernel)⟩,fun _=>rfl⟩) ⟨t4,t4,trivial⟩ ?_;try conv=>cbv
 refine⟨fun _=>Aq (by kernel_rfl),?_⟩;exact fA ⟨t2,trivial⟩ rfl (by simp)
theorem iK {W:List UInt8} (N:ns=(runN (X.take 24)).1) (D:V.length<=3) (g:∀n∈ns,BY V n) {mr:Bool}:CF 11 [.agg [.sl (.pr .u8 (.pr .u8 (.pr .u8 (.pr .i8 .u8)))) X,.sl .u8 W],.one (.bool mr)] (.one (.bool true)):=by
 obtain⟨w,L⟩:=GL D g;have F:=L.fd;obtain⟨Q,M⟩:∃z,z=FL ns W:=⟨_,rfl⟩
 obtain⟨c,hc⟩:=xB (decide (2<=Q.length));refine BP Tryz.func11 (by kernel_rfl) rfl fun E d=>?_
 conv=>cbv
 refine cL d (Hd N D g M (i':=2) ⟨rfl⟩ (by decide) hc) ⟨t2,rfl,trivial⟩ ?_;try conv=>cbv
 refine cL d KD trivial ?_;try conv=>cbv
 intro a1 K;cases K.trans (rfl:_=false);conv=>cbv
 intro S u;conv=>cbv
 cases S <;> conv=>cbv
 ·have I:=CJ u;have hl:2<=Q.length:=of_decide_eq_true (hc.symm.trans I);obtain⟨J,f⟩:=AG (l:=Q) (i:=0) (by omega);obtain⟨Z,Y0,O⟩:=C9 L g M f;have a:=O (b:=1950000) (k:=1) (by decide);obtain⟨x1,o⟩:=AG (l:=Q) (i:=1) (by omega);obtain⟨X1,Y1,P⟩:=C9 L g M o;have H:=P (b:=1950000) (k:=1) (by decide);obtain⟨ev,G⟩:=CV (Z*Z+Y0*Y0=Re.ofRat ((1:Int):Rat));obtain⟨A0,h0,R⟩:=DK F (p:=((0:Int):Rat)) (by decide +kernel);obtain⟨A1,h1,n1⟩:=DK F (p:=((1:Int):Rat)) (by decide +kernel);have h:Vm _ w 1950000 1 1 ([]:List LR) A1 ([]:List LR) A0 _ _:=⟨n1.mono (by omega),R.mono (by omega)⟩;have v:Vm _ w 1950000 1 1 ([]:List LR) A0 ([]:List LR) A0 _ _:=⟨R.mono (by omega),R.mono (by omega)⟩;obtain⟨Aj,Bq,Ay,T,A,B,s⟩:=dN F;obtain⟨U,Y,C,t⟩:=Ur F a;refine⟨J,fun _=>⟨by omega,f⟩,?_⟩;try conv=>cbv
  refine⟨J,fun _=>⟨by omega,f⟩,?_⟩;try conv=>cbv
  refine⟨x1,fun _=>⟨by omega,o⟩,?_⟩;try conv=>cbv
  refine⟨x1,fun _=>⟨by omega,o⟩,?_⟩;try conv=>cbv
  refine⟨fun _=>Aq (by kernel_rfl),?_⟩;refine cL d (bU F a H (mr:=mr) G (by omega)) ⟨⟨rfl,rfl,rfl,rfl,rfl,rfl,rfl,rfl,rfl,trivial⟩,trivial⟩ ?_;try conv=>cbv
  refine cL d (UpS F a H (mr:=mr) G (by omega)) ⟨⟨rfl,rfl,rfl,rfl,rfl,rfl,rfl,rfl,rfl,trivial⟩,trivial⟩ ?_;try conv=>cbv
  intro a2 m;(have m:=m.trans (show _=true by simp));subst m;conv=>cbv
  refine cL d (Tc h0 h1) trivial ?_;try conv=>cbv
  refine cL d s trivial ?_;try conv=>cbv
  refine cL (r:= .one (.bool true)) d (Oc F h v A B (mr:=false) (by simp only[<-Re.ofRat_add,<-Re.ofRat_mul];exact congrArg Re.ofRat (by decide +kernel)) rfl rfl rfl rfl (by omega)) ⟨⟨rfl,rfl,rfl,rfl,rfl,rfl,rfl,rfl,rfl,trivial⟩,rfl,⟨rfl,rfl,rfl,rfl,rfl,rfl,rfl,rfl,rfl,trivial⟩,trivial⟩ ?_;try conv=>cbv
  refine⟨J,fun _=>⟨by omega,f⟩,?_⟩;try conv=>cbv
  refine cL d (bP F a h0 h1 (by omega)) ⟨t4,trivial⟩ ?_;try conv=>cbv
  refine⟨J,fun _=>⟨by omega,f⟩,?_⟩;try conv=>cbv
  refine cL d t ⟨t4,trivial⟩ ?_;try conv=>cbv
  refine cL (r:= .one (.bool true)) d (Oc F h a C a (mr:=false) (by simp only[<-Re.ofRat_add,<-Re.ofRat_mul];exact congrArg Re.ofRat (by decide +kernel)) rfl rfl rfl rfl (by omega)) ⟨⟨rfl,rfl,rfl,rfl,rfl,rfl,rfl,rfl,rfl,trivial⟩,rfl,⟨rfl,rfl,rfl,rfl,rfl,rfl,rfl,rfl,rfl,trivial⟩,trivial⟩ ?_;try conv=>cbv
  refine⟨fun _=>Aq (by kernel_rfl),?_⟩;exact fA ⟨t2,trivial⟩ rfl (by simp)
 have I:=CK u;refine cL d KD trivial ?_;try conv=>cbv
 exact fA ⟨t2,trivial⟩ rfl (by simp)
theorem dR {w:List (List Rat)} (F:Fd TT w) {o s t u:List LR} {g k l m:LR} {xa ya xb yb:Re} (ha:Vm TT w 1950000 1 1 o g s k xa ya) (hb:Vm TT w 1950000 1 1 t l u m xb yb) (h:¬(xa=xb/\ya=yb)):∃Tf n f i T1 A1 T2 A2 T3 A3,f*i=1/\Nm TT w 1950000 3 Tf n f/\Vm TT w 1950000 170 170 T1 A1 T2 A2 (-(yb-ya)*i) ((xb-xa)*i)/\Nm TT w 1950000 345 T3 A3 (-(yb-ya)*i*xa+(xb-xa)*i*ya)/\CF 50 [.agg [.sl (.sl AA) o,.sl AA g,.sl (.sl AA) s,.sl AA k],.agg [.sl (.sl AA) t,.sl AA l,.sl (.sl AA) u,.sl AA m]] (.agg [.sl (.sl AA) T1,.sl AA A1,.sl (.sl AA) T2,.sl AA A2,.sl (.sl AA) T3,.sl AA A3]):=by
 obtain⟨A0,_,H⟩:=DK F (p:=((1:Int):Rat)) (by decide +kernel);have z:∀x:Re,x≠0->x*(Re.ofRat ((1:Int):Rat)*As x)=1:=fun x a=>by have:=Cy a;rw[show Re.ofRat ((1:Int):Rat)=1 from rfl];grind
 by_cases a: -(yb-ya)=0
 ·have B:xb-xa≠0:=fun e=>h ⟨by grind,by grind⟩
  obtain⟨Tf,n,_,_,A,_⟩:=JR F hb ha (by omega) (by omega) (by omega) (by omega);obtain⟨_,_,G,_⟩:=D1 F H A.x (d:=164) (by omega) B (by omega) (by omega) (by omega);obtain⟨T1,A1,T2,A2,T3,A3,C,D,c⟩:=dT F ha hb G a B (z _ B) (by omega);exact⟨Tf,n,_,_,T1,A1,T2,A2,T3,A3,z _ B,A.x.mono (by omega),C.mono (by omega) (by omega),D.mono (by omega),c⟩
 obtain⟨_,_,_,_,A,_⟩:=JR F hb ha (by omega) (by omega) (by omega) (by omega);obtain⟨n,v,_⟩:=Ec F A.y (by omega);obtain⟨_,_,G,_⟩:=D1 F H v (d:=164) (by omega) a (by omega) (by omega) (by omega);obtain⟨T1,A1,T2,A2,T3,A3,C,D,c⟩:=dU F ha hb G a (z _ a) (by omega);exact⟨_,n,_,_,T1,A1,T2,A2,T3,A3,z _ a,v.mono (by omega),C.mono (by omega) (by omega),D.mono (by omega),c⟩
theorem bX {f i q:Re} (a:f*i=1) (d:(x*x+y*y)*q=1):(x*i*(x*i)+y*i*(y*i))*(f*f*q)=1:=by
 have:(x*i*(x*i)+y*i*(y*i))*(f*f*q)=(x*x+y*y)*q*(f*i)*(f*i):=by grind
 rw[this,d,a];grind
theorem bZ (h:x*j=1):x≠0:=fun e=>Uv (by rw[<-h,e];grind)
theorem bW (h:(a*a+b*b)*j=1) (d:two=1+1):(b*b-a*a)*j*((b*b-a*a)*j)+ -(two*j*(a*b))* -(two*j*(a*b))=1:=by
 have:(b*b-a*a)*j*((b*b-a*a)*j)+ -(two*j*(a*b))* -(two*j*(a*b))=(a*a+b*b)*j*((a*a+b*b)*j):=by rw[d];grind
 rw[this,h];grind
theorem ba (h:(a*a+b*b)*j=1) (d:two=1+1):two*j*(a*c)=a*j*c-((-b* -b-a*a)*j*(a*j*c)-(-b*a+a* -b)*j* -(b*j*c)):=by
 have:(-b* -b-a*a)*j*(a*j*c)-(-b*a+a* -b)*j* -(b*j*c)= -((a*a+b*b)*j)*(a*j*c):=by grind
 rw[this,h,d];grind
theorem bc (h:(a*a+b*b)*j=1) (d:two=1+1):two*j*(b*c)=b*j*c-((-b* -b-a*a)*j* -(b*j*c)+(-b*a+a* -b)*j*(a*j*c)):=by
 have:(-b* -b-a*a)*j* -(b*j*c)+(-b*a+a* -b)*j*(a*j*c)= -((a*a+b*b)*j)*(b*j*c):=by grind
 rw[this,h,d];grind
theorem bY {c x y h:Re} (d:(a*a+b*b)*j=1) (f:two=1+1) (k:h*(1+1)=1):
  let x':=(b*b-a*a)*j*x- -(two*j*(a*b))* -y+two*j*(a*c)
  let y':=(b*b-a*a)*j* -y+ -(two*j*(a*b))*x+two*j*(b*c)
  a*((x+x')*h)+b*((y+y')*h)=c/\ -(y'+ -y)*a+(x'+ -x)*b=0:=by
 have g:(b*b-a*a)*j*x- -(two*j*(a*b))* -y+two*j*(a*c)=x-(1+1)*j*a*(a*x+b*y-c):=by
  have:(b*b-a*a)*j=1-(1+1)*(a*a)*j:=by rw[<-d];grind
  rw[this,f];grind
 have i:(b*b-a*a)*j* -y+ -(two*j*(a*b))*x+two*j*(b*c)=y-(1+1)*j*b*(a*x+b*y-c):=by
  have:(b*b-a*a)*j=(1+1)*(b*b)*j-1:=by rw[<-d];grind
  rw[this,f];grind
 show a*((x+((b*b-a*a)*j*x- -(two*j*(a*b))* -y+two*j*(a*c)))*h)+b*((y+((b*b-a*a)*j* -y+ -(two*j*(a*b))*x+two*j*(b*c)))*h)=c/\ -((b*b-a*a)*j* -y+ -(two*j*(a*b))*x+two*j*(b*c)+ -y)*a+((b*b-a*a)*j*x- -(two*j*(a*b))* -y+two*j*(a*c)+ -x)*b=0
 rw[g,i]
 constructor
 ·have:a*((x+(x-(1+1)*j*a*(a*x+b*y-c)))*h)+b*((y+(y-(1+1)*j*b*(a*x+b*y-c)))*h)=(a*x+b*y)*(h*(1+1))-(h*(1+1))*((a*a+b*b)*j)*(a*x+b*y-c):=by grind
  rw[this,k,d];grind
 grind
theorem iJ {W:List UInt8} (aH:ns=(runN (X.take 24)).1) (ao:V.length<=3) (p:∀n∈ns,BY V n):CF 10 [.agg [.sl (.pr .u8 (.pr .u8 (.pr .u8 (.pr .i8 .u8)))) X,.sl .u8 W]] (.one (.bool true)):=by
 obtain⟨w,L⟩:=GL ao p;have F:=L.fd;obtain⟨Q,hQ⟩:∃z,z=FL ns W:=⟨_,rfl⟩
 obtain⟨c,hc⟩:=xB (decide (3<=Q.length));refine BP Tryz.func10 (by kernel_rfl) rfl fun E g=>?_
 conv=>cbv
 refine cL g (Hd aH ao p hQ (i':=3) ⟨rfl⟩ (by decide) hc) ⟨t2,rfl,trivial⟩ ?_;try conv=>cbv
 refine cL g KD trivial ?_;try conv=>cbv
 intro bs ax;cases ax.trans (rfl:_=false);conv=>cbv
 intro aK a8;conv=>cbv
 cases aK <;> conv=>cbv
 ·have ar:=CJ a8;have hl:3<=Q.length:=of_decide_eq_true (hc.symm.trans ar);obtain⟨x0,S⟩:=AG (l:=Q) (i:=0) (by omega);obtain⟨s,t,v⟩:=C9 L p hQ S;have N:=v (b:=1950000) (k:=1) (by decide);obtain⟨x1,T⟩:=AG (l:=Q) (i:=1) (by omega);obtain⟨B,C,aI⟩:=C9 L p hQ T;have O:=aI (b:=1950000) (k:=1) (by decide);obtain⟨x2,A⟩:=AG (l:=Q) (i:=2) (by omega);obtain⟨X2,Y2,aJ⟩:=C9 L p hQ A;have P:=aJ (b:=1950000) (k:=1) (by decide);obtain⟨aw,K⟩:=CV (s=B/\t=C);refine⟨x0,fun _=>⟨by omega,S⟩,?_⟩;try conv=>cbv
  refine⟨x1,fun _=>⟨by omega,T⟩,?_⟩;try conv=>cbv
  refine cL g (EU F N O (by omega) (by omega) (by omega) (by omega) K) ⟨t4,t4,trivial⟩ ?_;try conv=>cbv
  refine⟨fun _=>Aq (by kernel_rfl),?_⟩;cases aw <;> conv=>cbv
  ·have au:¬(s=B/\t=C):=fun z=>absurd (K.2 z) (by decide)
   obtain⟨Tf,Af,f,i,T1,A1,T2,A2,T3,A3,aE,hf,aq,aD,cl⟩:=dR F N O au;obtain⟨AL,AK,AI,AJ,aa,bj⟩:=JR F O N (by omega) (by omega) (by omega) (by omega);obtain⟨AO,ab,bk⟩:=P5 F aa (by omega) (by omega);obtain⟨Aa,AZ,ad,bl⟩:=WS F ab (by omega) (by omega);obtain⟨Ai,Ah,ae,bm,bp⟩:=EN F hf hf (by omega) (by omega);have v: -(C-t)* -(C-t)+(B-s)*(B-s)≠0:=Kh (fun z=>au ⟨by grind,by grind⟩);obtain⟨Ak,Aj,af,bn,bq⟩:=D1 F ae ad (d:=728) (by omega) v (by omega) (by omega) (by omega);have u:=bX aE (Cy v);obtain⟨J,an⟩:∃z,z=(f*f)*As ((-(C-t))*(-(C-t))+(B-s)*(B-s)):=⟨_,rfl⟩
   have D:=af.cast (y:=J) (an.symm);rw[<-an] at u;have M:=bZ u;obtain⟨a,ha⟩:∃z,z= -(C-t)*i:=⟨_,rfl⟩
   obtain⟨b,hb⟩:∃z,z=(B-s)*i:=⟨_,rfl⟩
   obtain⟨k,hk⟩:∃z,z= -(C-t)*i*s+(B-s)*i*t:=⟨_,rfl⟩
   rw[<-ha,<-hb] at u M;have h:=aq.x.cast (y:=a) (ha.symm);have m:=aq.y.cast (y:=b) (hb.symm);have o:=aD.cast (y:=k) (hk.symm);have h2:Re.ofRat ((2:Int):Rat)=1+1:=JQ;obtain⟨b0,aL,b1,aM,b2,aN,b3,aO,G,H,U⟩:=Td F h m o D M u (by omega);obtain⟨b4,aP,b5,aQ,b6,aR,b7,aS,ag,ah,Y⟩:=dV F h m o D M u (by omega);obtain⟨b8,aT,b9,aU,I,Z⟩:=dK F G H P (by omega);obtain⟨bb,aV,bd,aW,ai,a1⟩:=gz F P I (by omega) (by omega);obtain⟨aF,aG⟩:=bY (a:=a) (b:=b) (c:=k) (j:=J) (x:=X2) (y:=Y2) u h2 HE;obtain⟨bf,aX,bg,aY,aj,a2⟩:=Wk F I P (by omega) (by omega) (by omega) (by omega);have ak:Vm _ w 1950000 170 170 T1 A1 T2 A2 _ _:=⟨h.mono (by omega),m.mono (by omega)⟩;obtain⟨bh,aZ,al,a5⟩:=QC F aj ak (by omega) (by omega)
   obtain⟨av,R,bo,a6⟩:=DQ F al (by omega);obtain rfl:av=0:=R.trans ((congrArg BJ aG).trans Dw);refine⟨x0,fun _=>⟨by omega,S⟩,?_⟩;try conv=>cbv
   refine⟨x1,fun _=>⟨by omega,T⟩,?_⟩;try conv=>cbv
   refine cL g cl ⟨t4,t4,trivial⟩ ?_;try conv=>cbv
   refine⟨fun _=>Aq (by kernel_rfl),?_⟩;refine cL g U ⟨⟨rfl,rfl,rfl,rfl,rfl,rfl,trivial⟩,trivial⟩ ?_;try conv=>cbv
   refine cL g Y ⟨⟨rfl,rfl,rfl,rfl,rfl,rfl,trivial⟩,trivial⟩ ?_;try conv=>cbv
   refine cL (r:= .one (.bool true)) g (Oc F G H ag ah (mr:=true) ((bW u h2).trans rfl) (by grind) (by rw[h2];grind) (ba u h2) (bc u h2) (by omega)) ⟨⟨rfl,rfl,rfl,rfl,rfl,rfl,rfl,rfl,rfl,trivial⟩,rfl,⟨rfl,rfl,rfl,rfl,rfl,rfl,rfl,rfl,rfl,trivial⟩,trivial⟩ ?_;try conv=>cbv
   intro Cg ay;cases ay.trans (rfl:_=false);conv=>cbv
   intro bt az;cases az.trans (rfl:_=false);conv=>cbv
   refine⟨fun _=>Aq (by kernel_rfl),?_⟩;refine⟨x2,fun _=>⟨by omega,A⟩,?_⟩;try conv=>cbv
   refine cL g Z ⟨⟨rfl,rfl,rfl,rfl,rfl,rfl,rfl,rfl,rfl,trivial⟩,t4,trivial⟩ ?_;try conv=>cbv
   refine⟨fun _=>Aq (by kernel_rfl),?_⟩;refine⟨x2,fun _=>⟨by omega,A⟩,?_⟩;try conv=>cbv
   refine cL g a1 ⟨t4,t4,trivial⟩ ?_;try conv=>cbv
   refine⟨fun _=>Aq (by kernel_rfl),?_⟩;refine⟨x2,fun _=>⟨by omega,A⟩,?_⟩;try conv=>cbv
   refine cL g a2 ⟨t4,t4,trivial⟩ ?_;try conv=>cbv
   refine⟨fun _=>Aq (by kernel_rfl),?_⟩;refine cL g a5 ⟨t4,t4,trivial⟩ ?_;try conv=>cbv
   intro bu aA;cases aA.trans (show _=true by decide);conv=>cbv
   intro bw aB;cases aB.trans (show _=true by decide);conv=>cbv
   intro bx aC;cases aC.trans (show _=true by decide);conv=>cbv
   refine cL g (dW F h m o ai aF (by omega)) ⟨⟨rfl,rfl,rfl,rfl,rfl,rfl,trivial⟩,t4,trivial⟩ ?_;try conv=>cbv
   refine cL g a6 ⟨t2,trivial⟩ ?_;try conv=>cbv
   intro br a7;cases a7.trans (show _=true by decide);conv=>cbv
   exact fA ⟨t2,trivial⟩ rfl (by simp)
  refine cL g KD trivial ?_;try conv=>cbv
  exact fA ⟨t2,trivial⟩ rfl (by simp)
 have ar:=CK a8;refine⟨fun _=>Aq (by kernel_rfl),?_⟩;refine cL g KD trivial ?_;try conv=>cbv
 exact fA ⟨t2,trivial⟩ rfl (by simp)
end Go.Abs
