/- Part 50 of a proof. Conditions: each theorem's own. -/
import Derived.Test.YtoonaidhfikkeaaGreatPk48
set_option linter.all false
set_option maxHeartbeats 8000000
open Go.Proofs
namespace Go.Abs
open Go.RowKit
variable {A1 A2 A3 A4 A5:LR} {M R c k k' l p q:Nat} {T1 T2 T3 T4 T5:List LR} {TT:List (List Rat)->Prop} {r:Rat} {w:List (List Rat)} {x x1 y1:Re}
theorem cA (a:Rat):un (Re.ofRat a)=Re.ofRat (if a=0 then 0 else 1):=by
 by_cases h:a=0
 ·rw[if_pos h,cI (by rw[h];rfl)];rfl
 rw[if_neg h,cF (fun e=>h (Re.GM.1 e))];rfl
theorem bw (a b:Rat):fs (Re.ofRat a) (Re.ofRat b)=Re.ofRat (if a=0 then b else a):=by
 by_cases h:a=0
 ·rw[if_pos h,cG (by rw[h];rfl)]
 rw[if_neg h,cH (fun e=>h (Re.GM.1 e))]
theorem bx (a:Rat):Dk (Re.ofRat a)=Re.ofRat a⁻¹:=by
 by_cases h:a=0
 ·subst h;unfold Dk;rw[dif_neg (fun h=>h rfl)];exact congrArg Re.ofRat (show (0:Rat)=0⁻¹ by decide +kernel)
 exact (cr (by rw[<-Re.ofRat_mul,Rat.mul_inv_cancel a h];rfl)).symm
theorem bz (a b:Rat):Re.ofRat a-Re.ofRat b=Re.ofRat (a-b):=by
 rw[show Re.ofRat a-Re.ofRat b=Re.ofRat a+ -Re.ofRat b by grind,<-Re.ofRat_neg,<-Re.ofRat_add,Rat.sub_eq_add_neg]
theorem dx {b:Nat} (F:Fm TT w R b c M q p) (s:Nm TT w b k T1 A1 x) (t:k+c+1<=M) (n:Bq r) (o:(0:Re)<=Re.ofRat r) (e:x=Re.ofRat r*Re.ofRat r):∃T A,Nm TT w b 1 T A (Re.ofRat r)/\CF 125 [.agg [.sl (.sl AA) T1,.sl AA A1]] (.AF [(true,[.sl (.sl AA) T,.sl AA A]),(false,[.int .i64 0])]):=by
 obtain⟨u,hu,i,h,y,v,m⟩:=F.own (by omega) s;have G:=(F.g t (by omega)).toGam;have a:Ag u x=u:=DA ⟨_,En r u,e.symm⟩;have f:0<=x:=by rw[e];exact Re.Ng _
 have d:Re.sqrt x=Re.ofRat r:=Re.Fx (Re.D6 x) o (by rw[Re.C1 f,e]);have j:El u 64 (Re.sqrt x):=by rw[d];exact El.rat (G.AL hu).red (HF n (Nat.le_refl 64))
 exact⟨_,_,⟨u,hu,rfl,rfl,En r u,by rw[Nat.one_mul];exact El.rat (G.AL F.top).red (HF n F.hb)⟩,ah G hu i h (m.mono (Nat.mul_le_mul_right b (Nat.le_succ (k+c)))) (by rw[a];exact hu) f (by rw[a]) (by rw[a,d]) (by rw[a];exact j) (by decide)⟩
theorem eU {b:Nat} (F:Fm TT w R b c M q p) (o:Vm TT w b k k' T1 A1 T2 A2 x1 y1) (u:2*k+2*k'+c+4<=M) (s:Bq r) (j:(0:Re)<=Re.ofRat r) (e:x1*x1+y1*y1=Re.ofRat r*Re.ofRat r):∃T A,Nm TT w b (1) T A (Re.ofRat r)/\CF 61 [.agg [.sl (.sl AA) T1,.sl AA A1,.sl (.sl AA) T2,.sl AA A2]] (.AF [(true,[.sl (.sl AA) T,.sl AA A]),(false,[.int .i64 0])]):=by
 obtain⟨T5,A5,m,h⟩:=bI F o (by omega) (by omega);obtain⟨g,f,n,i⟩:=dx F m (by omega) s j e;refine⟨g,f,n,?_⟩;refine bj Tryz.func61 (by kernel_rfl) rfl fun E d=>?_
 conv=>cbv
 refine cL d h ⟨t4,trivial⟩ ?_;try conv=>cbv
 intro t a;cases a.trans (show _=false by decide);conv=>cbv
 refine cL d i ⟨t2,trivial⟩ ?_;try conv=>cbv
 exact fA ⟨t3,t2,trivial⟩ rfl (by simp)
theorem dn {b l' j:Nat} (F:Fm TT w R b c M q p) {x2 y2 δ:Re} (hp:Vm TT w b k k' T1 A1 T2 A2 x1 y1) (hq:Vm TT w b l l' T3 A3 T4 A4 x2 y2) (hn:Nm TT w b j T5 A5 δ) (h0:¬(x1=x2/\y1=y2)) (ah:0<=δ) (hr:Bq r) (aa:(0:Re)<=Re.ofRat r) (ab:Re.ofRat r≠0) (e:(x2-x1)*(x2-x1)+(y2-y1)*(y2-y1)=Re.ofRat r*Re.ofRat r) {d d':Nat} (hd:q*1+p<=d) (a6:q*(l+k+1)+p<=d') (a8:q*(l'+k'+1)+p<=d') (hM:8*(k+k'+l+l'+j+d+d')+4*c+100<=M):∃T A T' A' B t k1 k2,(k1<=8*(k+k'+l+l'+j+d+d')+20/\k2<=8*(k+k'+l+l'+j+d+d')+20)/\bh TT w b k1 k2 T A T' A' B t (un (y2-y1)) (-(x2-x1)*Dk (fs (y2-y1) (-(x2-x1)))) (((x1+ -(y2-y1)*(δ*Dk (Re.ofRat r)))*(y2-y1)+(y1+(x2-x1)*(δ*Dk (Re.ofRat r)))* -(x2-x1))*Dk (fs (y2-y1) (-(x2-x1))))/\CF 14 [.agg [.sl (.sl AA) T1,.sl AA A1,.sl (.sl AA) T2,.sl AA A2],.agg [.sl (.sl AA) T3,.sl AA A3,.sl (.sl AA) T4,.sl AA A4],.agg [.sl (.sl AA) T5,.sl AA A5],.one (.int .i64 1)] (.AF [(true,[.sl (.sl AA) T,.sl AA A,.sl (.sl AA) T',.sl AA A',.sl (.sl AA) B,.sl AA t]),(false,[.int .i64 0])]):=by
 obtain⟨ae,af,X,_⟩:=KX F hn (by omega);have s:¬ae<0:=by rcases Dp δ with⟨a,b⟩ |⟨a,b⟩ |⟨a,b⟩ <;> first | omega | (exfalso;grind)
 obtain⟨O,A6,P,N,h6,c6⟩:=bJ F hq hp (by omega) (by omega) (by omega) (by omega);obtain⟨T8,A8,h8,c8⟩:=eU F h6 (by omega) hr aa e;obtain⟨T9,A9,h9,c9,_⟩:=a7 F hn h8 hd ab (by omega) (by omega) (by omega);obtain⟨ag,Y,Q⟩:=bG F h6 (by omega) (by omega);obtain⟨C,u,D,v,Z,S⟩:=aF F Y h9 (by omega) (by omega) (by omega);obtain⟨m,g,n,i,a1,U⟩:=aD F hp Z (by omega) (by omega) (by omega) (by omega);obtain⟨L,o,V⟩:=cX F h6 (by omega) (by omega);obtain⟨G,x,H,y,I,z,a2,W⟩:=cP F a1 o a8 a6 (by omega) (by omega) (fun h=>h0 ⟨by grind,by grind⟩);refine⟨G,x,H,y,I,z,_,_,⟨?_,?_⟩,a2,?_⟩
 ·omega
 ·omega
 refine bj Tryz.func14 (by kernel_rfl) rfl fun E f=>?_
 conv=>cbv
 refine .inr ?_;intro ai o;cases o.trans (show _=false by decide);conv=>cbv
 refine cL f X ⟨t2,trivial⟩ ?_;try conv=>cbv
 intro ad J;conv=>cbv
 cases ad <;> conv=>cbv
 ·have K:=AR J;refine cL (r:= .one (.bool false)) f (bF F hp hq (by omega) (by omega) (by omega) (by omega) (e:=false) ⟨fun h=>(by cases h),fun h=>absurd h h0⟩) ⟨t4,t4,trivial⟩ ?_;try conv=>cbv
  refine cL f c6 ⟨t4,t4,trivial⟩ ?_;try conv=>cbv
  refine .inr (.inr (.inr (.inl ⟨32,.var 1 [.int .i64 0],[.one (.Am 0 0 0),.agg [.sl (.sl AA) O,.sl AA A6,.sl (.sl AA) P,.sl AA N],.one (.int .i64 0)],.agg [.sl (.sl AA) O,.sl AA A6,.sl (.sl AA) P,.sl AA N],fun _=>⟨rfl,⟨⟨⟨rfl,rfl⟩,rfl⟩,t4,rfl,trivial⟩⟩,fun _=>E4 f (cD),?_⟩)));try conv=>cbv
  refine cL f c8 ⟨t4,trivial⟩ ?_;try conv=>cbv
  refine .inr (.inr (.inr (.inl ⟨32,.var 1 [.int .i64 0],[.one (.Am 0 0 0),.agg [.sl (.sl AA) T8,.sl AA A8],.one (.int .i64 0)],.agg [.sl (.sl AA) T8,.sl AA A8],fun _=>⟨rfl,⟨⟨⟨rfl,rfl⟩,rfl⟩,t2,rfl,trivial⟩⟩,fun _=>E4 f (bu),?_⟩)));try conv=>cbv
  refine cL f c9 ⟨t2,t2,trivial⟩ ?_;try conv=>cbv
  refine .inr (.inr (.inr (.inl ⟨32,.var 1 [.int .i64 0],[.one (.Am 0 0 0),.agg [.sl (.sl AA) T9,.sl AA A9],.one (.int .i64 0)],.agg [.sl (.sl AA) T9,.sl AA A9],fun _=>⟨rfl,⟨⟨⟨rfl,rfl⟩,rfl⟩,t2,rfl,trivial⟩⟩,fun _=>E4 f (bu),?_⟩)));try conv=>cbv
  refine⟨fun _=>Et (by kernel_rfl),?_⟩;intro CQ a5;cases a5.trans (show _=false by decide);conv=>cbv
  refine .inr ?_;refine cL f Q ⟨t4,trivial⟩ ?_;try conv=>cbv
  refine cL f S ⟨t4,t2,trivial⟩ ?_;try conv=>cbv
  refine .inr (.inr (.inr (.inl ⟨32,.var 1 [.int .i64 0],[.one (.Am 0 0 0),.agg [.sl (.sl AA) C,.sl AA u,.sl (.sl AA) D,.sl AA v],.one (.int .i64 0)],.agg [.sl (.sl AA) C,.sl AA u,.sl (.sl AA) D,.sl AA v],fun _=>⟨rfl,⟨⟨⟨rfl,rfl⟩,rfl⟩,t4,rfl,trivial⟩⟩,fun _=>E4 f (cD),?_⟩)));try conv=>cbv
  refine cL f U ⟨t4,t4,trivial⟩ ?_;try conv=>cbv
  refine .inr (.inr (.inr (.inl ⟨32,.var 1 [.int .i64 0],[.one (.Am 0 0 0),.agg [.sl (.sl AA) m,.sl AA g,.sl (.sl AA) n,.sl AA i],.one (.int .i64 0)],.agg [.sl (.sl AA) m,.sl AA g,.sl (.sl AA) n,.sl AA i],fun _=>⟨rfl,⟨⟨⟨rfl,rfl⟩,rfl⟩,t4,rfl,trivial⟩⟩,fun _=>E4 f (cD),?_⟩)));try conv=>cbv
  refine cL f V ⟨t4,trivial⟩ ?_;try conv=>cbv
  refine .inr (.inr (.inr (.inl ⟨32,.var 1 [.int .i64 0],[.one (.Am 0 0 0),.agg [.sl (.sl AA) m,.sl AA g,.sl (.sl AA) n,.sl AA i],.agg [.sl (.sl AA) P,.sl AA N,.sl (.sl AA) O,.sl AA L]],.AF [(true,[.sl (.sl AA) G,.sl AA x,.sl (.sl AA) H,.sl AA y,.sl (.sl AA) I,.sl AA z]),(false,[.int .i64 0])],fun _=>⟨rfl,⟨⟨⟨rfl,rfl⟩,rfl⟩,t4,t4,trivial⟩⟩,fun _=>E4 f (W),?_⟩)));try conv=>cbv
  refine⟨fun _=>Et (by kernel_rfl),?_⟩;exact fA ⟨⟨rfl,rfl,rfl,rfl,rfl,rfl,rfl,trivial⟩,t2,trivial⟩ rfl (by simp)
 have K:=AS J;exact absurd K s
theorem cC {n d:Int} {q:Rat} {A:LR} (i: -9223372036854775808<=n/\n<9223372036854775808) (h: -9223372036854775808<=d/\d<9223372036854775808) (f:d≠0) (j:q=Rat.divInt n d) (m:Bq q) (g:A=em [] (Re.ofRat q)):CF 51 [.one (.int .i64 n),.one (.int .i64 d)] (.agg [.sl (.sl AA) (([]:List LR)),.sl AA A]):=by
 refine bj Tryz.func51 (by kernel_rfl) rfl fun E a=>?_
 conv=>cbv
 obtain⟨o,s,r,t,b⟩:=BD q;refine cL a (LX i h f j b) t2 ?_;try conv=>cbv
 refine cL a (OE b (ZG m) g) ⟨t4,trivial⟩ ?_;try conv=>cbv
 exact fA ⟨t3,trivial⟩ rfl (by simp)
theorem ca (F:Fd TT w) {B:List LR} {A:LR} {y z a b c:Re} (v:bh TT w 700000 k l T1 A1 T2 A2 T3 A3 x y z) (H:Nm TT w 700000 1 T4 A4 a) (hb:Nm TT w 700000 1 T5 A5 b) (I:Nm TT w 700000 1 B A c) (K:k<=300000) (J:l<=300000) (C:x=a) (D:y=b) (G:z=c):CF 52 [.agg [.sl (.sl AA) T1,.sl AA A1,.sl (.sl AA) T2,.sl AA A2,.sl (.sl AA) T3,.sl AA A3],.agg [.sl (.sl AA) T4,.sl AA A4],.agg [.sl (.sl AA) T5,.sl AA A5],.agg [.sl (.sl AA) B,.sl AA A]] (.one (.bool true)):=by
 obtain⟨r,m,d,_⟩:=KW F v.x H (by omega) (by omega);have h:r=true:=m.2 C;rw[h] at d;obtain⟨s,n,f,_⟩:=KW F v.y hb (by omega) (by omega);have i:s=true:=n.2 D;rw[i] at f;obtain⟨t,o,g,_⟩:=KW F v.z I (by omega) (by omega);have j:t=true:=o.2 G;rw[j] at g;refine bj Tryz.func52 (by kernel_rfl) rfl fun E u=>?_
 conv=>cbv
 refine cL u d ⟨t2,t2,trivial⟩ ?_;try conv=>cbv
 refine cL u f ⟨t2,t2,trivial⟩ ?_;try conv=>cbv
 refine cL u g ⟨t2,t2,trivial⟩ ?_;try conv=>cbv
 exact fA ⟨t2,trivial⟩ rfl (by simp)
theorem cE:CF 12 [] (.one (.bool true)):=by
 obtain⟨w,F⟩:=aq (V:=[]) (ns:=[]) (by decide) (fun n hn=>by simp at hn);refine bj Tryz.func12 (by kernel_rfl) rfl fun E a=>?_
 conv=>cbv
 obtain⟨b9,ba,⟨B,C⟩,aA⟩:=bD F (p:=((0:Int):Rat)) (q:=((1:Int):Rat)) (by decide +kernel) (by decide +kernel);refine cL a (bL (x:=0) (y:=1) (by decide) (by decide) B C) t2 ?_;try conv=>cbv
 obtain⟨bb,bc,⟨D,G⟩,aB⟩:=bD F (p:=((2:Int):Rat)) (q:=((5:Int):Rat)) (by decide +kernel) (by decide +kernel);refine cL a (bL (x:=2) (y:=5) (by decide) (by decide) D G) t2 ?_;try conv=>cbv
 obtain⟨bT,bd,bU,bf,bV,bg,aC,au⟩:=cY F aA aB (by decide) (by decide) (by decide) (by decide) (fun h=>absurd (Re.GM.1 h.1) (by decide +kernel)) (d:=100) (by decide) (by decide) (by decide) (by decide);refine cL a au ⟨t4,t4,trivial⟩ ?_;try conv=>cbv
 obtain⟨bh,bk,⟨H,I⟩,aD⟩:=bD F (p:=((2:Int):Rat)) (q:=((0:Int):Rat)) (by decide +kernel) (by decide +kernel);refine cL a (bL (x:=2) (y:=0) (by decide) (by decide) H I) t2 ?_;try conv=>cbv
 obtain⟨bl,bn,⟨J,K⟩,aE⟩:=bD F (p:=((1:Int):Rat)) (q:=((-1:Int):Rat)) (by decide +kernel) (by decide +kernel);refine cL a (bL (x:=1) (y:= -1) (by decide) (by decide) J K) t2 ?_;try conv=>cbv
 obtain⟨bW,bo,bX,bp,bY,bq,o,av⟩:=dJ F aD aE (by decide) (by decide) (fun h=>absurd (Re.GM.1 h.1) (by decide +kernel)) (d:=100) (by decide) (by decide) (by decide) (by decide);refine cL a av ⟨t4,t4,trivial⟩ ?_;try conv=>cbv
 obtain⟨br,bs,⟨L,N⟩,aF⟩:=bD F (p:=((0:Int):Rat)) (q:=((0:Int):Rat)) (by decide +kernel) (by decide +kernel);refine cL a (bL (x:=0) (y:=0) (by decide) (by decide) L N) t2 ?_;try conv=>cbv
 have m:¬(un (Re.ofRat ((-1:Int):Rat))=0/\ -Re.ofRat ((1:Int):Rat)*Dk (fs (Re.ofRat ((-1:Int):Rat)) (-Re.ofRat ((1:Int):Rat)))=0):=fun h=>absurd (Re.GM.1 ((show Re.ofRat 1=un (Re.ofRat ((-1:Int):Rat)) from (cF (fun e=>absurd (Re.GM.1 e) (by decide +kernel))).symm).trans h.1)) (by decide)
 obtain⟨ck,c5,cl,c6,aG,aw⟩:=cV F o aF m (d:=6000) (by decide) (by decide) (by decide);refine cL a aw ⟨⟨rfl,rfl,rfl,rfl,rfl,rfl,trivial⟩,t4,trivial⟩ ?_;try conv=>cbv
 refine⟨fun _=>Et (by kernel_rfl),?_⟩;obtain⟨bt,bu,⟨O,P⟩,aH⟩:=bD F (p:=((0:Int):Rat)) (q:=((0:Int):Rat)) (by decide +kernel) (by decide +kernel);refine cL a (bL (x:=0) (y:=0) (by decide) (by decide) O P) t2 ?_;try conv=>cbv
 obtain⟨cm,c7,cn,c8,aI,ax⟩:=cR F o aH m (d:=6000) (by decide) (by decide) (by decide);refine cL a ax ⟨⟨rfl,rfl,rfl,rfl,rfl,rfl,trivial⟩,t4,trivial⟩ ?_;try conv=>cbv
 refine⟨fun _=>Et (by kernel_rfl),?_⟩;obtain⟨bB,bE,⟨Q,S⟩,aJ⟩:=bD F (p:=((0:Int):Rat)) (q:=((0:Int):Rat)) (by decide +kernel) (by decide +kernel);refine cL a (bL (x:=0) (y:=0) (by decide) (by decide) Q S) t2 ?_;try conv=>cbv
 obtain⟨bG,bH,⟨T,U⟩,aK⟩:=bD F (p:=((3:Int):Rat)) (q:=((4:Int):Rat)) (by decide +kernel) (by decide +kernel);refine cL a (bL (x:=3) (y:=4) (by decide) (by decide) T U) t2 ?_;try conv=>cbv
 obtain⟨c9,ad,aL⟩:=bC F (p:=Rat.divInt (5) 1) (by decide +kernel);refine cL a (cC (n:=5) (d:=1) (by decide) (by decide) (by decide) rfl (by decide +kernel) ad) t2 ?_;try conv=>cbv
 have hle:∀{r:Rat},0<=r->(0:Re)<=Re.ofRat r:=fun h=>by rw[<-Re.bA];exact Re.M1.2 h
 obtain⟨bZ,bI,c0,bJ,c1,bK,k1,k2,j,aM,ay⟩:=dn F aJ aK aL (fun h=>absurd (Re.GM.1 h.1) (by decide +kernel)) (hle (by decide +kernel)) (r:=5) (by decide +kernel) (hle (by decide +kernel)) (fun e=>absurd (Re.GM.1 e) (by decide +kernel)) (by simp only[<-Re.ofRat_add,<-Re.ofRat_mul,<-Re.ofRat_neg,bz,bw,cA,bx];exact congrArg Re.ofRat (by decide +kernel)) (d:=100) (d':=100) (by decide) (by decide) (by decide) (by decide);refine cL a ay ⟨t4,t4,t2,rfl,trivial⟩ ?_;try conv=>cbv
 obtain⟨bM,bN,⟨W,X⟩,aN⟩:=bD F (p:=((0:Int):Rat)) (q:=((0:Int):Rat)) (by decide +kernel) (by decide +kernel);refine cL a (bL (x:=0) (y:=0) (by decide) (by decide) W X) t2 ?_;try conv=>cbv
 obtain⟨bO,bP,⟨Y,Z⟩,aO⟩:=bD F (p:=((1:Int):Rat)) (q:=((0:Int):Rat)) (by decide +kernel) (by decide +kernel);refine cL a (bL (x:=1) (y:=0) (by decide) (by decide) Y Z) t2 ?_;try conv=>cbv
 obtain⟨cb,ae,aP⟩:=bC F (p:=Rat.divInt (1) 1) (by decide +kernel);refine cL a (cC (n:=1) (d:=1) (by decide) (by decide) (by decide) rfl (by decide +kernel) ae) t2 ?_;try conv=>cbv
 obtain⟨c2,bQ,c3,bR,c4,bS,aQ,az⟩:=dM F aN aO aP (fun h=>absurd (Re.GM.1 h.1) (by decide +kernel)) (d:=1000) (by decide) (by decide) (by decide);refine cL a az ⟨t4,t4,t2,trivial⟩ ?_;try conv=>cbv
 intro cp aR;cases aR.trans (show _=true by decide);conv=>cbv
 intro cq aS;cases aS.trans (show _=true by decide);conv=>cbv
 intro cr aT;cases aT.trans (show _=true by decide);conv=>cbv
 intro ct aU;cases aU.trans (show _=true by decide);conv=>cbv
 intro cu aV;cases aV.trans (show _=true by decide);conv=>cbv
 intro cv aW;cases aW.trans (show _=true by decide);conv=>cbv
 obtain⟨cc,af,aX⟩:=bC F (p:=Rat.divInt (1) 1) (by decide +kernel);refine cL a (cC (n:=1) (d:=1) (by decide) (by decide) (by decide) rfl (by decide +kernel) af) t2 ?_;try conv=>cbv
 obtain⟨cd,ag,aY⟩:=bC F (p:=Rat.divInt (-1) 2) (by decide +kernel);refine cL a (cC (n:= -1) (d:=2) (by decide) (by decide) (by decide) rfl (by decide +kernel) ag) t2 ?_;try conv=>cbv
 obtain⟨cf,ah,aZ⟩:=bC F (p:=Rat.divInt (-1) 2) (by decide +kernel);refine cL a (cC (n:= -1) (d:=2) (by decide) (by decide) (by decide) rfl (by decide +kernel) ah) t2 ?_;try conv=>cbv
 refine cL (r:= .one (.bool true)) a (ca F aC aX aY aZ (by decide) (by decide) (by simp only[<-Re.ofRat_add,<-Re.ofRat_mul,<-Re.ofRat_neg,bz,bw,cA,bx];exact congrArg Re.ofRat (by decide +kernel)) (by simp only[<-Re.ofRat_add,<-Re.ofRat_mul,<-Re.ofRat_neg,bz,bw,cA,bx];exact congrArg Re.ofRat (by decide +kernel)) (by simp only[<-Re.ofRat_add,<-Re.ofRat_mul,<-Re.ofRat_neg,bz,bw,cA,bx];exact congrArg Re.ofRat (by decide +kernel))) ⟨⟨rfl,rfl,rfl,rfl,rfl,rfl,trivial⟩,t2,t2,t2,trivial⟩ ?_;try conv=>cbv
 obtain⟨cg,ai,b0⟩:=bC F (p:=Rat.divInt (1) 1) (by decide +kernel);refine cL a (cC (n:=1) (d:=1) (by decide) (by decide) (by decide) rfl (by decide +kernel) ai) t2 ?_;try conv=>cbv
 obtain⟨ch,aj,b1⟩:=bC F (p:=Rat.divInt (1) 1) (by decide +kernel);refine cL a (cC (n:=1) (d:=1) (by decide) (by decide) (by decide) rfl (by decide +kernel) aj) t2 ?_;try conv=>cbv
 obtain⟨cj,ak,b2⟩:=bC F (p:=Rat.divInt (2) 1) (by decide +kernel);refine cL a (cC (n:=2) (d:=1) (by decide) (by decide) (by decide) rfl (by decide +kernel) ak) t2 ?_;try conv=>cbv
 refine cL (r:= .one (.bool true)) a (ca F o b0 b1 b2 (by decide) (by decide) (by simp only[<-Re.ofRat_add,<-Re.ofRat_mul,<-Re.ofRat_neg,bz,bw,cA,bx];exact congrArg Re.ofRat (by decide +kernel)) (by simp only[<-Re.ofRat_add,<-Re.ofRat_mul,<-Re.ofRat_neg,bz,bw,cA,bx];exact congrArg Re.ofRat (by decide +kernel)) (by simp only[<-Re.ofRat_add,<-Re.ofRat_mul,<-Re.ofRat_neg,bz,bw,cA,bx];exact congrArg Re.ofRat (by decide +kernel))) ⟨⟨rfl,rfl,rfl,rfl,rfl,rfl,trivial⟩,t2,t2,t2,trivial⟩ ?_;try conv=>cbv
 obtain⟨al,an,⟨b,f⟩,a1⟩:=bD F (p:=((1:Int):Rat)) (q:=((1:Int):Rat)) (by decide +kernel) (by decide +kernel);refine cL a (bL (x:=1) (y:=1) (by decide) (by decide) b f) t2 ?_;try conv=>cbv
 refine cL a (bF F aG a1 (by decide) (by decide) (by decide) (by decide) (e:=true) ⟨fun _=>⟨by simp only[bm,<-Re.ofRat_add,<-Re.ofRat_mul,<-Re.ofRat_neg,bz,bw,cA,bx];exact congrArg Re.ofRat (by decide +kernel),by simp only[bm,<-Re.ofRat_add,<-Re.ofRat_mul,<-Re.ofRat_neg,bz,bw,cA,bx];exact congrArg Re.ofRat (by decide +kernel)⟩,fun _=>rfl⟩) ⟨t4,t4,trivial⟩ ?_;try conv=>cbv
 obtain⟨ao,ar,⟨g,i⟩,a2⟩:=bD F (p:=((2:Int):Rat)) (q:=((2:Int):Rat)) (by decide +kernel) (by decide +kernel);refine cL a (bL (x:=2) (y:=2) (by decide) (by decide) g i) t2 ?_;try conv=>cbv
 refine cL a (bF F aI a2 (by decide) (by decide) (by decide) (by decide) (e:=true) ⟨fun _=>⟨by simp only[bm,<-Re.ofRat_add,<-Re.ofRat_mul,<-Re.ofRat_neg,bz,bw,cA,bx];exact congrArg Re.ofRat (by decide +kernel),by simp only[bm,<-Re.ofRat_add,<-Re.ofRat_mul,<-Re.ofRat_neg,bz,bw,cA,bx];exact congrArg Re.ofRat (by decide +kernel)⟩,fun _=>rfl⟩) ⟨t4,t4,trivial⟩ ?_;try conv=>cbv
 obtain⟨b3,s,a5⟩:=bC F (p:=Rat.divInt (1) 1) (by decide +kernel);refine cL a (cC (n:=1) (d:=1) (by decide) (by decide) (by decide) rfl (by decide +kernel) s) t2 ?_;try conv=>cbv
 obtain⟨b4,t,a6⟩:=bC F (p:=Rat.divInt (-3) 4) (by decide +kernel);refine cL a (cC (n:= -3) (d:=4) (by decide) (by decide) (by decide) rfl (by decide +kernel) t) t2 ?_;try conv=>cbv
 obtain⟨b5,u,a7⟩:=bC F (p:=Rat.divInt (-25) 4) (by decide +kernel);refine cL a (cC (n:= -25) (d:=4) (by decide) (by decide) (by decide) rfl (by decide +kernel) u) t2 ?_;try conv=>cbv
 refine cL (r:= .one (.bool true)) a (ca F aM a5 a6 a7 (Nat.le_trans j.1 (by decide)) (Nat.le_trans j.2 (by decide)) (by simp only[<-Re.ofRat_add,<-Re.ofRat_mul,<-Re.ofRat_neg,bz,bw,cA,bx];exact congrArg Re.ofRat (by decide +kernel)) (by simp only[<-Re.ofRat_add,<-Re.ofRat_mul,<-Re.ofRat_neg,bz,bw,cA,bx];exact congrArg Re.ofRat (by decide +kernel)) (by simp only[<-Re.ofRat_add,<-Re.ofRat_mul,<-Re.ofRat_neg,bz,bw,cA,bx];exact congrArg Re.ofRat (by decide +kernel))) ⟨⟨rfl,rfl,rfl,rfl,rfl,rfl,trivial⟩,t2,t2,t2,trivial⟩ ?_;try conv=>cbv
 obtain⟨b6,v,a8⟩:=bC F (p:=Rat.divInt (1) 1) (by decide +kernel);refine cL a (cC (n:=1) (d:=1) (by decide) (by decide) (by decide) rfl (by decide +kernel) v) t2 ?_;try conv=>cbv
 obtain⟨b7,z,aa⟩:=bC F (p:=Rat.divInt (-1) 1) (by decide +kernel);refine cL a (cC (n:= -1) (d:=1) (by decide) (by decide) (by decide) rfl (by decide +kernel) z) t2 ?_;try conv=>cbv
 obtain⟨b8,A,ab⟩:=bC F (p:=Rat.divInt (0) 1) (by decide +kernel);refine cL a (cC (n:=0) (d:=1) (by decide) (by decide) (by decide) rfl (by decide +kernel) A) t2 ?_;try conv=>cbv
 refine cL (r:= .one (.bool true)) a (ca F aQ a8 aa ab (by decide) (by decide) (by simp only[<-Re.ofRat_add,<-Re.ofRat_mul,<-Re.ofRat_neg,bz,bw,cA,bx];exact congrArg Re.ofRat (by decide +kernel)) (by simp only[<-Re.ofRat_add,<-Re.ofRat_mul,<-Re.ofRat_neg,bz,bw,cA,bx];exact congrArg Re.ofRat (by decide +kernel)) (by simp only[<-Re.ofRat_add,<-Re.ofRat_mul,<-Re.ofRat_neg,bz,bw,cA,bx];exact congrArg Re.ofRat (by decide +kernel))) ⟨⟨rfl,rfl,rfl,rfl,rfl,rfl,trivial⟩,t2,t2,t2,trivial⟩ ?_;try conv=>cbv
 refine⟨fun _=>Et (by kernel_rfl),?_⟩;exact fA ⟨t2,trivial⟩ rfl (by simp)
end Go.Abs
