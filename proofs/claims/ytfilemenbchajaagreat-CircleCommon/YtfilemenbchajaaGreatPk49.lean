/- Part 50 of a proof. Conditions: each theorem's own. -/
import Derived.Test.YtfilemenbchajaaGreatPk01
import Derived.Test.YtfilemenbchajaaGreatPk48
set_option linter.all false
set_option maxHeartbeats 8000000
set_option maxRecDepth 20000
open Go.Proofs
namespace Go.Abs
open Go.RowKit
theorem fx:Re.ofRat 2*Re.sqrt (Re.ofRat (1/2))=Re.sqrt (Re.ofRat 2):=by
 refine Re.Gs (Re.Of (Gl (by decide +kernel)) (Re.GN _)) (Re.GN _) ?_;have a:=Re.E9 (Gl (q:=1/2) (by decide +kernel));have b:=Re.E9 (Gl (q:=2) (by decide +kernel));rw[b];have:Re.ofRat 2*Re.sqrt (Re.ofRat (1/2))*(Re.ofRat 2*Re.sqrt (Re.ofRat (1/2)))=Re.ofRat 2*Re.ofRat 2*(Re.sqrt (Re.ofRat (1/2))*Re.sqrt (Re.ofRat (1/2))):=by grind
 rw[this,a,<-Re.ofRat_mul,<-Re.ofRat_mul];exact congrArg Re.ofRat (by decide +kernel)
theorem cI:Re.ofRat 1+(Re.ofRat ((3:Int):Rat)-Re.ofRat 1)*Re.sqrt (Re.ofRat (1/2))=Re.sqrt (Re.ofRat 2)+Re.ofRat ((1:Int):Rat):=by
 rw[B7,show ((3:Int):Rat)-1=2 by decide +kernel,fx,show ((1:Int):Rat)=1 by decide +kernel];grind
theorem G7 {x y:Int} {A1 A2:LR} (f: -9223372036854775808<=x/\x<9223372036854775808) (g: -9223372036854775808<=y/\y<9223372036854775808) (a:A1=em [] (Re.ofRat x)) (b:A2=em [] (Re.ofRat y)):CF 78 [.one (.int .i64 x),.one (.int .i64 y)] (.agg [.sl (.sl AA) (([]:List LR)),.sl AA A1,.sl (.sl AA) (([]:List LR)),.sl AA A2]):=by
 refine BP Tryz.func78 (by kernel_rfl) rfl fun E c=>?_
 conv=>cbv
 refine cL c (Eh f g a b) t2 ?_;try conv=>cbv
 exact fA ⟨⟨rfl,rfl,rfl,rfl,rfl,trivial⟩,trivial⟩ rfl (by simp)
theorem FF:CF 16 [] (.one (.bool true)):=by
 obtain⟨w,F,aI,aH⟩:=Zs;obtain⟨ai,aj,⟨i,j⟩,T⟩:=EH F (p:=((0:Int):Rat)) (q:=((0:Int):Rat)) (by decide +kernel) (by decide +kernel);obtain⟨ak,al,⟨k,l⟩,U⟩:=EH F (p:=((2:Int):Rat)) (q:=((0:Int):Rat)) (by decide +kernel) (by decide +kernel);obtain⟨an,ao,⟨m,n⟩,W⟩:=EH F (p:=((0:Int):Rat)) (q:=((2:Int):Rat)) (by decide +kernel) (by decide +kernel);obtain⟨Ai,Ah,Ak,Aj,CD,Bq,I,Y,O⟩:=ZJ F T U W (by (try simp only[<-Re.ofRat_add,<-Re.ofRat_mul,<-Re.ofRat_neg,B7,CH]);exact fun h=>absurd (Re.Du.1 (h.trans Re.GI.symm)) (by decide +kernel)) (by omega);obtain⟨aq,ar,⟨o,s⟩,Z⟩:=EH F (p:=((-1:Int):Rat)) (q:=((0:Int):Rat)) (by decide +kernel) (by decide +kernel);obtain⟨au,av,⟨u,z⟩,a1⟩:=EH F (p:=((1:Int):Rat)) (q:=((0:Int):Rat)) (by decide +kernel) (by decide +kernel)
 obtain⟨L,c,b⟩:=DK F (p:=((1:Int):Rat)) (by decide +kernel);obtain⟨aR,aJ,a2,aY,b1⟩:=D1 F b b (d:=70) (by omega) (by (try simp only[<-Re.ofRat_add,<-Re.ofRat_mul,<-Re.ofRat_neg,B7,CH]);exact fun h=>absurd (Re.Du.1 (h.trans Re.GI.symm)) (by decide +kernel)) (by omega) (by omega) (by omega);obtain⟨aS,aK,aT,aL,aU,aM,a5,a6,P⟩:=Nr F Z a1 b a2 (fun h=>absurd (Re.Du.1 h.1) (by decide +kernel)) (by (try simp only[<-Re.ofRat_add,<-Re.ofRat_mul,<-Re.ofRat_neg,B7,CH]);exact fun h=>absurd (Re.Du.1 (h.trans Re.GI.symm)) (by decide +kernel)) (by simp only[CH,<-Re.ofRat_mul];exact congrArg Re.ofRat (by decide +kernel)) (by omega);obtain⟨aN,f,g⟩:=DK F (p:=((2:Int):Rat)) (by decide +kernel);have J:Vm _ w 1950000 1 1 Ai Ah Ak Aj _ _:=⟨C6 F (by decide) (r:=1) (by decide +kernel) I.x (by (try simp only[wX,wY,iX,iY,<-Re.ofRat_add,<-Re.ofRat_mul,<-Re.ofRat_neg,B7,CH]);exact congrArg Re.ofRat (by decide +kernel)),C6 F (by decide) (r:=1) (by decide +kernel) I.y (by (try simp only[wX,wY,iX,iY,<-Re.ofRat_add,<-Re.ofRat_mul,<-Re.ofRat_neg,B7,CH]);exact congrArg Re.ofRat (by decide +kernel))⟩
 have K:=C6 F (by decide) (r:=2) (by decide +kernel) Y (by (try simp only[wX,wY,iX,iY,<-Re.ofRat_add,<-Re.ofRat_mul,<-Re.ofRat_neg,B7,CH]);exact congrArg Re.ofRat (by decide +kernel));obtain⟨aw,ax,⟨A,B⟩,a7⟩:=EH F (p:=((1:Int):Rat)) (q:=((1:Int):Rat)) (by decide +kernel) (by decide +kernel);obtain⟨ay,az,⟨C,D⟩,a8⟩:=EH F (p:=((0:Int):Rat)) (q:=((1:Int):Rat)) (by decide +kernel) (by decide +kernel);obtain⟨aA,aB,⟨G,H⟩,aa⟩:=EH F (p:=((3:Int):Rat)) (q:=((1:Int):Rat)) (by decide +kernel) (by decide +kernel);obtain⟨aV,aO,aW,aP,ab,Q⟩:=ZH F J K aa (v:=Re.ofRat (1/2)) (kr:=1) (fun h=>absurd (Re.Du.1 h.1) (by decide +kernel)) (by (try simp only[<-Re.ofRat_add,<-Re.ofRat_mul,<-Re.ofRat_neg,B7,CH]);exact fun h=>absurd (Re.Du.1 (h.trans Re.GI.symm)) (by decide +kernel)) (by (try simp only[wX,wY,iX,iY,<-Re.ofRat_add,<-Re.ofRat_mul,<-Re.ofRat_neg,B7,CH]);exact congrArg Re.ofRat (by decide +kernel)) aI (by omega)
 have ad:=g.cast (y:=Re.ofRat 2) (congrArg Re.ofRat (by decide +kernel));obtain⟨aX,aQ,ae,aZ,R⟩:=aH.get (by omega) ad;obtain⟨N,M,af,b0,S⟩:=GH F ae b (by omega) (by omega);have ag:Vm _ w 1950000 3 3 N M ([]:List LR) L _ _:=⟨af.mono (by omega),b.mono (by omega)⟩;have ah:=ab.cast (x':=(Re.ofRat (1))+(((Re.ofRat ((3:Int):Rat))-(Re.ofRat (1)))*(Re.sqrt (Re.ofRat (1/2))))) (y':=Re.ofRat 1) (rfl) (by rw[show Re.ofRat ((1:Int):Rat)=Re.ofRat 1 from congrArg Re.ofRat (by decide +kernel)];grind);refine BP Tryz.func16 (by kernel_rfl) rfl fun E a=>?_
 conv=>cbv
 refine cL a (G7 (x:=0) (y:=0) (by decide) (by decide) i j) t2 ?_;try conv=>cbv
 refine cL a (G7 (x:=2) (y:=0) (by decide) (by decide) k l) t2 ?_;try conv=>cbv
 refine cL a (G7 (x:=0) (y:=2) (by decide) (by decide) m n) t2 ?_;try conv=>cbv
 refine cL a O ⟨t4,t4,t4,trivial⟩ ?_;try conv=>cbv
 refine cL a (G7 (x:= -1) (y:=0) (by decide) (by decide) o s) t2 ?_;try conv=>cbv
 refine cL a (G7 (x:=1) (y:=0) (by decide) (by decide) u z) t2 ?_;try conv=>cbv
 refine cL a (D6 (by decide) c) t1 ?_;try conv=>cbv
 refine cL a P ⟨t4,t4,t2,trivial⟩ ?_;try conv=>cbv
 intro b2 aC;cases aC.trans (show _=false by decide);conv=>cbv
 intro b3 aD;cases aD.trans (show _=false by decide);conv=>cbv
 refine cL a (G7 (x:=1) (y:=1) (by decide) (by decide) A B) t2 ?_;try conv=>cbv
 refine cL a (D6 (by decide) f) t1 ?_;try conv=>cbv
 refine cL a (KT F J K a7 g (e:=true) ⟨fun _=>⟨⟨congrArg Re.ofRat (by decide +kernel),congrArg Re.ofRat (by decide +kernel)⟩,congrArg Re.ofRat (by decide +kernel)⟩,fun _=>rfl⟩ (by omega)) ⟨⟨rfl,rfl,rfl,rfl,rfl,rfl,trivial⟩,⟨rfl,rfl,rfl,rfl,rfl,rfl,trivial⟩,trivial⟩ ?_;try conv=>cbv
 intro b4 aE;cases aE.trans (rfl:_=false);conv=>cbv
 refine cL a (G7 (x:=0) (y:=1) (by decide) (by decide) C D) t2 ?_;try conv=>cbv
 refine cL a (D6 (by decide) f) t1 ?_;try conv=>cbv
 refine cL a (KT F a5 a6 a8 g (e:=true) ⟨fun _=>⟨⟨by (try simp only[wX,wY,iX,iY,<-Re.ofRat_add,<-Re.ofRat_mul,<-Re.ofRat_neg,B7,CH]);exact congrArg Re.ofRat (by decide +kernel),by (try simp only[wX,wY,iX,iY,<-Re.ofRat_add,<-Re.ofRat_mul,<-Re.ofRat_neg,B7,CH]);exact congrArg Re.ofRat (by decide +kernel)⟩,by (try simp only[wX,wY,iX,iY,<-Re.ofRat_add,<-Re.ofRat_mul,<-Re.ofRat_neg,B7,CH]);exact congrArg Re.ofRat (by decide +kernel)⟩,fun _=>rfl⟩ (by omega)) ⟨⟨rfl,rfl,rfl,rfl,rfl,rfl,trivial⟩,⟨rfl,rfl,rfl,rfl,rfl,rfl,trivial⟩,trivial⟩ ?_;try conv=>cbv
 intro b5 aF;cases aF.trans (rfl:_=false);conv=>cbv
 refine⟨fun _=>Aq (by kernel_rfl),?_⟩;refine cL a (G7 (x:=3) (y:=1) (by decide) (by decide) G H) t2 ?_;try conv=>cbv
 refine cL a Q ⟨⟨rfl,rfl,rfl,rfl,rfl,rfl,trivial⟩,t4,trivial⟩ ?_;try conv=>cbv
 refine⟨fun _=>Aq (by kernel_rfl),?_⟩;refine cL a (D6 (by decide) f) t1 ?_;try conv=>cbv
 refine cL a R ⟨t2,trivial⟩ ?_;try conv=>cbv
 refine cL a (D6 (by decide) c) t1 ?_;try conv=>cbv
 refine cL a S ⟨t2,t2,trivial⟩ ?_;try conv=>cbv
 refine⟨fun _=>Aq (by kernel_rfl),?_⟩;intro b6 aG;cases aG.trans (show _=true by decide);conv=>cbv
 refine cL a (D6 (by decide) c) t1 ?_;try conv=>cbv
 refine cL a (EU F ah ag (by omega) (by omega) (by omega) (by omega) (e:=true) ⟨fun _=>⟨cI,congrArg Re.ofRat (by decide +kernel)⟩,fun _=>rfl⟩) ⟨t4,t4,trivial⟩ ?_;try conv=>cbv
 refine⟨fun _=>Aq (by kernel_rfl),?_⟩;exact fA ⟨t2,trivial⟩ rfl (by simp)
end Go.Abs
namespace Go.Abs
open Go.RowKit
variable {V:List Re} {X:List (el Bf)} {c d t x1 x2 y y1 y2:Re} {ns:List Nu}
theorem iG {W:List UInt8} (a5:ns=(runN (X.take 24)).1) (H:V.length<=3) (a:∀n∈ns,BY V n):CF 6 [.agg [.sl Bf X,.sl .u8 W]] (.one (.bool true)):=by
 obtain⟨w,L⟩:=GL H a;have F:=L.fd;obtain⟨Q,S⟩:∃z,z=FL ns W:=⟨_,rfl⟩
 obtain⟨c,hc⟩:=xB (decide (3<=Q.length));refine BP Tryz.func6 (by kernel_rfl) rfl fun E f=>?_
 conv=>cbv
 refine cL f (Hd a5 H a S (i':=3) ⟨rfl⟩ (by decide) hc) ⟨t2,rfl,trivial⟩ ?_;try conv=>cbv
 refine cL f FF trivial ?_;try conv=>cbv
 intro ao T;cases T.trans (rfl:_=false);conv=>cbv
 intro ad C;conv=>cbv
 cases ad <;> conv=>cbv
 ·have M:=CJ C;have hl:3<=Q.length:=of_decide_eq_true (hc.symm.trans M);obtain⟨x0,J⟩:=AG (l:=Q) (i:=0) (by omega);obtain⟨P,R,a8⟩:=C9 L a S J;have a6:=a8 (b:=1950000) (k:=1) (by decide);obtain⟨x1,K⟩:=AG (l:=Q) (i:=1) (by omega);obtain⟨X1,Y1,aa⟩:=C9 L a S K;have a7:=aa (b:=1950000) (k:=1) (by decide);obtain⟨x2,g⟩:=AG (l:=Q) (i:=2) (by omega);obtain⟨X2,Y2,ab⟩:=C9 L a S g;have p:=ab (b:=1950000) (k:=1) (by decide);obtain⟨ak,ah,al,ai,an,aj,ea,a2,ca⟩:=IA F (i:=0) (k:=1) J K (by decide) (by decide) a6 a7 (by omega);refine cL f ca t3 ?_;try conv=>cbv
  intro ae D;conv=>cbv
  cases ae <;> conv=>cbv
  ·have N:=CJ D;obtain⟨_,na,s,r⟩:=a2.resolve_right (fun h=>absurd (h.1.symm.trans N) (by decide));obtain⟨AI,AJ,G,v⟩:=Rx F s r p (by omega);obtain⟨Aa,AZ,j,x⟩:=dZ F s r p (by omega);obtain⟨u,o,af,A⟩:=EM F G j (by omega) (by omega);obtain rfl:u=true:=o.2 (by grind);obtain⟨sn,I⟩:∃z,z=BJ ((((X2-P)*(X2-P))+((Y2-R)*(Y2-R)))-((P-X1)*(P-X1)+(R-Y1)*(R-Y1))):=⟨_,rfl⟩
   have a1:=Ns F s r p I (by omega);obtain⟨O,q,ag,B⟩:=DQ F j (by omega);obtain rfl:sn=O:=I.trans ((congrArg BJ (by grind)).trans q.symm);refine⟨x2,fun _=>⟨by omega,g⟩,?_⟩;try conv=>cbv
   refine cL f v ⟨⟨rfl,rfl,rfl,rfl,rfl,rfl,trivial⟩,t4,trivial⟩ ?_;try conv=>cbv
   refine⟨fun _=>Aq (by kernel_rfl),?_⟩;refine⟨x2,fun _=>⟨by omega,g⟩,?_⟩;try conv=>cbv
   refine cL f x ⟨⟨rfl,rfl,rfl,rfl,rfl,rfl,trivial⟩,t4,trivial⟩ ?_;try conv=>cbv
   refine⟨fun _=>Aq (by kernel_rfl),?_⟩;refine⟨x2,fun _=>⟨by omega,g⟩,?_⟩;try conv=>cbv
   refine cL f a1 ⟨⟨rfl,rfl,rfl,rfl,rfl,rfl,trivial⟩,t4,trivial⟩ ?_;try conv=>cbv
   refine⟨fun _=>Aq (by kernel_rfl),?_⟩;intro aq U;cases U.trans (show _=true by decide);conv=>cbv
   intro ar Y;cases Y.trans (show _=true by decide);conv=>cbv
   intro au Z;cases Z.trans (show _=true by decide);conv=>cbv
   refine cL f A ⟨t2,t2,trivial⟩ ?_;try conv=>cbv
   refine cL f B ⟨t2,trivial⟩ ?_;try conv=>cbv
   intro av m;(have m:=m.trans (show _=true by simp));subst m;conv=>cbv
   exact fA ⟨t2,trivial⟩ rfl (by simp)
  have N:=CK D;exact fA ⟨t2,trivial⟩ rfl (by simp)
 have M:=CK C;refine cL f FF trivial ?_;try conv=>cbv
 exact fA ⟨t2,trivial⟩ rfl (by simp)
theorem aV {x:Re} (ht:t≠0):(x-iX x1 y1 x2 y2 t)*(x-iX x1 y1 x2 y2 t)+(y-iY x1 y1 x2 y2 t)*(y-iY x1 y1 x2 y2 t)-((x1-iX x1 y1 x2 y2 t)*(x1-iX x1 y1 x2 y2 t)+(y1-iY x1 y1 x2 y2 t)*(y1-iY x1 y1 x2 y2 t))=0↔(x1-x)*(y2-y)-(y1-y)*(x2-x)=t*((x1-x)*(x2-x)+(y1-y)*(y2-y)):=by
 have b:t*(Re.ofRat ((1:Int):Rat)*As t)=1:=by
  have:=Cy ht;rw[show Re.ofRat ((1:Int):Rat)=1 from rfl];grind
 have h:=aW (x:=x) (y:=y) HE b (show iX x1 y1 x2 y2 t=_ from rfl) (show iY x1 y1 x2 y2 t=_ from rfl)
 constructor
 ·intro e;rw[e] at h;grind
 intro e;rw[e] at h;have a:t*As t=1:=Cy ht
 generalize (x-iX x1 y1 x2 y2 t)*(x-iX x1 y1 x2 y2 t)+(y-iY x1 y1 x2 y2 t)*(y-iY x1 y1 x2 y2 t)-((x1-iX x1 y1 x2 y2 t)*(x1-iX x1 y1 x2 y2 t)+(y1-iY x1 y1 x2 y2 t)*(y1-iY x1 y1 x2 y2 t))=P at*
 have:P=P*t*As t:=by have:P*t*As t=P*(t*As t):=by grind
                     rw[this,a];grind
 rw[this,h];grind
theorem aU {x:Re} (ht:t≠0) {b c es:Bool} (g:c=(b==es)) (f:b=(BJ ((x-iX x1 y1 x2 y2 t)*(x-iX x1 y1 x2 y2 t)+(y-iY x1 y1 x2 y2 t)*(y-iY x1 y1 x2 y2 t)-((x1-iX x1 y1 x2 y2 t)*(x1-iX x1 y1 x2 y2 t)+(y1-iY x1 y1 x2 y2 t)*(y1-iY x1 y1 x2 y2 t)))==0)) (a:es=true↔(x1-x)*(y2-y)-(y1-y)*(x2-x)=t*((x1-x)*(x2-x)+(y1-y)*(y2-y))):c=true:=by
 rw[g,f,beq_iff_eq,Bool.eq_iff_iff,beq_iff_eq,Dv,aV ht,a]
theorem iE {W:List UInt8} (ad:ns=(runN (X.take 24)).1) (C:V.length<=3) (f:∀n∈ns,BY V n):CF 7 [.agg [.sl Bf X,.sl .u8 W]] (.one (.bool true)):=by
 obtain⟨w,L⟩:=GL C f;have F:=L.fd;obtain⟨Q,hQ⟩:∃z,z=FL ns W:=⟨_,rfl⟩
 obtain⟨c,hc⟩:=xB (decide (3<=Q.length));obtain⟨Tt,At,t,aw,ct,ak⟩:=Wi (W:=W) ad C f L;have ht:=aw (b:=1950000) (k:=1) (by decide);refine BP Tryz.func7 (by kernel_rfl) rfl fun E a=>?_
 conv=>cbv
 refine cL a (Hd ad C f hQ (i':=3) ⟨rfl⟩ (by decide) hc) ⟨t2,rfl,trivial⟩ ?_;try conv=>cbv
 refine cL a ct ⟨t2,trivial⟩ ?_;try conv=>cbv
 refine cL a FF trivial ?_;try conv=>cbv
 intro aR al;cases al.trans (rfl:_=false);conv=>cbv
 intro az a5;conv=>cbv
 cases az <;> conv=>cbv
 ·have aj:=CJ a5;have hl:3<=Q.length:=of_decide_eq_true (hc.symm.trans aj);obtain⟨H,p⟩:=AG (l:=Q) (i:=0) (by omega);obtain⟨g,j,aq⟩:=C9 L f hQ p;have ae:=aq (b:=1950000) (k:=1) (by decide);obtain⟨x1,q⟩:=AG (l:=Q) (i:=1) (by omega);obtain⟨m,o,ar⟩:=C9 L f hQ q;have af:=ar (b:=1950000) (k:=1) (by decide);obtain⟨x2,r⟩:=AG (l:=Q) (i:=2) (by omega);obtain⟨I,J,au⟩:=C9 L f hQ r;have G:=au (b:=1950000) (k:=1) (by decide);obtain⟨aL,aF,aM,aG,aN,aH,aO,aI,aP,aJ,aQ,aK,e,hd,ca,cb⟩:=aT F ae af ht (by omega);refine cL a ak ⟨t2,trivial⟩ ?_;try conv=>cbv
  intro aS an;cases an.trans (rfl:_=false);conv=>cbv
  refine⟨H,fun _=>⟨by omega,p⟩,?_⟩;try conv=>cbv
  refine⟨x1,fun _=>⟨by omega,q⟩,?_⟩;try conv=>cbv
  refine cL a ca ⟨t4,t4,t2,trivial⟩ ?_;try conv=>cbv
  refine⟨fun _=>Aq (by kernel_rfl),?_⟩;refine⟨H,fun _=>⟨by omega,p⟩,?_⟩;try conv=>cbv
  refine⟨x1,fun _=>⟨by omega,q⟩,?_⟩;try conv=>cbv
  refine cL a cb ⟨t4,t4,t2,trivial⟩ ?_;try conv=>cbv
  refine⟨fun _=>Aq (by kernel_rfl),?_⟩;intro aV A;(have A:=A.trans (show _=false by simp));subst A;conv=>cbv
  intro aA aa;conv=>cbv
  cases aA <;> conv=>cbv
  ·have ay:=Dg aa;obtain⟨_,⟨n0,nt⟩,⟨ai,ag⟩,ax,av⟩:=hd.resolve_right (fun h=>by omega);obtain⟨AI,AJ,AQ,AO,v,O⟩:=Ew F ae G (by omega);obtain⟨Ai,Ah,Ak,Aj,x,P⟩:=Ew F af G (by omega);obtain⟨BA,Ay,a6,R⟩:=Mi F v x (by omega);obtain⟨u,s,a7,S⟩:=PU F v x (by omega);obtain⟨M,K,a8,T⟩:=Gq F ht a7 (by omega);obtain⟨es,ab⟩:=CV ((g-I)*(o-J)-(j-J)*(m-I)=t*((g-I)*(m-I)+(j-J)*(o-J)));obtain⟨N,D,_,U⟩:=EM F a6 a8 (by omega) (by omega);obtain rfl:es=N:=Bool.eq_iff_iff.2 (ab.trans D.symm);obtain⟨sn,ah⟩:∃z,z=BJ ((I-(iX g j m o t))*(I-(iX g j m o t))+(J-(iY g j m o t))*(J-(iY g j m o t))-(((g-(iX g j m o t))*(g-(iX g j m o t)))+((j-(iY g j m o t))*(j-(iY g j m o t))))):=⟨_,rfl⟩
   have ao:=Ns F ai ag G ah (by omega);refine⟨H,fun _=>⟨by omega,p⟩,?_⟩;try conv=>cbv
   refine⟨x2,fun _=>⟨by omega,r⟩,?_⟩;try conv=>cbv
   refine .inr (.inr (.inr (.inl ⟨68,.var 1 [.int .i64 0],[.one (.AD 0 0 0),.agg [.sl (.sl AA) H.1.1,.sl AA H.1.2,.sl (.sl AA) H.2.1,.sl AA H.2.2],.agg [.sl (.sl AA) x2.1.1,.sl AA x2.1.2,.sl (.sl AA) x2.2.1,.sl AA x2.2.2]],.agg [.sl (.sl AA) AI,.sl AA AJ,.sl (.sl AA) AQ,.sl AA AO],fun _=>⟨rfl,⟨⟨⟨rfl,rfl⟩,rfl⟩,t4,t4,trivial⟩⟩,fun _=>AP a (O),?_⟩)));try conv=>cbv
   refine⟨x1,fun _=>⟨by omega,q⟩,?_⟩;try conv=>cbv
   refine⟨x2,fun _=>⟨by omega,r⟩,?_⟩;try conv=>cbv
   refine .inr (.inr (.inr (.inl ⟨68,.var 1 [.int .i64 0],[.one (.AD 0 0 0),.agg [.sl (.sl AA) x1.1.1,.sl AA x1.1.2,.sl (.sl AA) x1.2.1,.sl AA x1.2.2],.agg [.sl (.sl AA) x2.1.1,.sl AA x2.1.2,.sl (.sl AA) x2.2.1,.sl AA x2.2.2]],.agg [.sl (.sl AA) Ai,.sl AA Ah,.sl (.sl AA) Ak,.sl AA Aj],fun _=>⟨rfl,⟨⟨⟨rfl,rfl⟩,rfl⟩,t4,t4,trivial⟩⟩,fun _=>AP a (P),?_⟩)));try conv=>cbv
   refine⟨fun _=>Aq (by kernel_rfl),?_⟩;refine .inr (.inr (.inr (.inl ⟨68,.var 1 [.int .i64 0],[.one (.AD 0 0 0),.agg [.sl (.sl AA) AI,.sl AA AJ,.sl (.sl AA) AQ,.sl AA AO],.agg [.sl (.sl AA) Ai,.sl AA Ah,.sl (.sl AA) Ak,.sl AA Aj]],.agg [.sl (.sl AA) BA,.sl AA Ay],fun _=>⟨rfl,⟨⟨⟨rfl,rfl⟩,rfl⟩,t4,t4,trivial⟩⟩,fun _=>AP a (R),?_⟩)));try conv=>cbv
   refine .inr (.inr (.inr (.inl ⟨68,.var 1 [.int .i64 0],[.one (.AD 0 0 0),.agg [.sl (.sl AA) AI,.sl AA AJ,.sl (.sl AA) AQ,.sl AA AO],.agg [.sl (.sl AA) Ai,.sl AA Ah,.sl (.sl AA) Ak,.sl AA Aj]],.agg [.sl (.sl AA) u,.sl AA s],fun _=>⟨rfl,⟨⟨⟨rfl,rfl⟩,rfl⟩,t4,t4,trivial⟩⟩,fun _=>AP a (S),?_⟩)));try conv=>cbv
   refine .inr (.inr (.inr (.inl ⟨68,.var 1 [.int .i64 0],[.one (.AD 0 0 0),.agg [.sl (.sl AA) Tt,.sl AA At],.agg [.sl (.sl AA) u,.sl AA s]],.agg [.sl (.sl AA) M,.sl AA K],fun _=>⟨rfl,⟨⟨⟨rfl,rfl⟩,rfl⟩,t2,t2,trivial⟩⟩,fun _=>AP a (T),?_⟩)));try conv=>cbv
   refine cL a U ⟨t2,t2,trivial⟩ ?_;try conv=>cbv
   refine⟨fun _=>Aq (by kernel_rfl),?_⟩;refine⟨x2,fun _=>⟨by omega,r⟩,?_⟩;try conv=>cbv
   refine cL a ao ⟨⟨rfl,rfl,rfl,rfl,rfl,rfl,trivial⟩,t4,trivial⟩ ?_;try conv=>cbv
   refine⟨fun _=>Aq (by kernel_rfl),?_⟩;refine cL a (KT F ai ag ax av (e:=true) ⟨fun _=>⟨⟨rfl,rfl⟩,by grind⟩,fun _=>rfl⟩ (by omega)) ⟨⟨rfl,rfl,rfl,rfl,rfl,rfl,trivial⟩,⟨rfl,rfl,rfl,rfl,rfl,rfl,trivial⟩,trivial⟩ ?_;try conv=>cbv
   intro aB Y;cases Y.trans (show _=true by decide);conv=>cbv
   intro aC Z;cases Z.trans (show _=true by decide);conv=>cbv
   intro aD a1;conv=>cbv
   intro aE a2;conv=>cbv
   exact fA ⟨⟨rfl,congrArg _ ((aU nt a2 (a1.trans (by rw[ah])) ab).symm),trivial⟩,trivial⟩ rfl (by simp)
  have ay:=Dh aa;intro aW B;(have B:=B.trans (show _=true by simp));subst B;conv=>cbv
  exact fA ⟨t2,trivial⟩ rfl (by simp)
 have aj:=CK a5;refine cL a FF trivial ?_;try conv=>cbv
 exact fA ⟨t2,trivial⟩ rfl (by simp)
theorem gK (f:d≠0) (b:c≠0):c*As d*(d*As c)=1:=by
 have h:=Cy f;have a:=Cy b;have:c*As d*(d*As c)=(d*As d)*(c*As c):=by grind
 rw[this,h,a];grind
theorem WI (b:d≠0) (a:c≠0):c*As d≠0:=fun z=>a (by
 have h:=Cy b
 have:c=c*As d*d:=by have:c*As d*d=c*(d*As d):=by grind
                     rw[this,h];grind
 rw[this,z];grind)
theorem gJ {a b:Re} (c:(a-x2)*(x1-x2)+(b-y2)*(y1-y2)≠0) (h:(a-x2)*(y1-y2)-(b-y2)*(x1-x2)≠0) (l:(x1-a)*(y2-b)-(y1-b)*(x2-a)≠0):
  a+wX a b x1 y1 x2 y2=iX a b x1 y1 (((a-x2)*(y1-y2)-(b-y2)*(x1-x2))*As ((a-x2)*(x1-x2)+(b-y2)*(y1-y2)))/\b+wY a b x1 y1 x2 y2=iY a b x1 y1 (((a-x2)*(y1-y2)-(b-y2)*(x1-x2))*As ((a-x2)*(x1-x2)+(b-y2)*(y1-y2))):=by
 have i:=Cy (HV l);have k:=Cy c;have j:=Cy (WI c h);have e:(x1-a)*(y2-b)-(y1-b)*(x2-a)=(a-x2)*(y1-y2)-(b-y2)*(x1-x2):=by grind
 obtain⟨f,g⟩:=gI (ux:=x1-a) (uy:=y1-b) (vx:=x2-a) (vy:=y2-b) (d:=(x1-a)*(y2-b)-(y1-b)*(x2-a)) (dt:=(a-x2)*(x1-x2)+(b-y2)*(y1-y2)) rfl (by grind) i HE (by rw[e];exact j) k;unfold wX wY iX iY;rw[show Re.ofRat ((1:Int):Rat)=1 from rfl]
 constructor
 ·rw[f];grind
 rw[g];grind
theorem iH {W:List UInt8} (al:ns=(runN (X.take 24)).1) (ad:V.length<=3) (j:∀n∈ns,BY V n):CF 4 [.agg [.sl Bf X,.sl .u8 W]] (.one (.bool true)):=by
 obtain⟨w,L⟩:=GL ad j;have F:=L.fd;obtain⟨Q,hQ⟩:∃z,z=FL ns W:=⟨_,rfl⟩
 obtain⟨c,hc⟩:=xB (decide (3<=Q.length));refine BP Tryz.func4 (by kernel_rfl) rfl fun E a=>?_
 conv=>cbv
 refine cL a (Hd al ad j hQ (i':=3) ⟨rfl⟩ (by decide) hc) ⟨t2,rfl,trivial⟩ ?_;try conv=>cbv
 refine cL a FF trivial ?_;try conv=>cbv
 intro aS ai;cases ai.trans (rfl:_=false);conv=>cbv
 intro ax a2;conv=>cbv
 cases ax <;> conv=>cbv
 ·have ag:=CJ a2;have hl:3<=Q.length:=of_decide_eq_true (hc.symm.trans ag);obtain⟨I,o⟩:=AG (l:=Q) (i:=0) (by omega);obtain⟨M,O,an⟩:=C9 L j hQ o;have C:=an (b:=1950000) (k:=1) (by decide);obtain⟨x1,p⟩:=AG (l:=Q) (i:=1) (by omega);obtain⟨N,P,ao⟩:=C9 L j hQ p;have D:=ao (b:=1950000) (k:=1) (by decide);obtain⟨x2,q⟩:=AG (l:=Q) (i:=2) (by omega);obtain⟨u,v,aq⟩:=C9 L j hQ q;have G:=aq (b:=1950000) (k:=1) (by decide);obtain⟨aP,aM,aQ,aN,aR,aO,e,hd,ca⟩:=de F C D G (by omega);refine⟨I,fun _=>⟨by omega,o⟩,?_⟩;try conv=>cbv
  refine⟨x1,fun _=>⟨by omega,p⟩,?_⟩;try conv=>cbv
  refine⟨x2,fun _=>⟨by omega,q⟩,?_⟩;try conv=>cbv
  refine cL a ca ⟨t4,t4,t4,trivial⟩ ?_;try conv=>cbv
  refine⟨fun _=>Aq (by kernel_rfl),?_⟩;intro ay a5;conv=>cbv
  cases ay <;> conv=>cbv
  ·have aw:=Dg a5;obtain⟨_,af,av,ar⟩:=hd.resolve_right (fun h=>by omega);obtain⟨AI,AJ,AQ,AO,x,R⟩:=Ew F C G (by omega);obtain⟨Ai,Ah,Ak,Aj,A,S⟩:=Ew F D G (by omega);obtain⟨BA,Ay,f,T⟩:=PU F x A (by omega);obtain⟨aL,H,aI,a1⟩:=DQ F f (by omega);refine⟨I,fun _=>⟨by omega,o⟩,?_⟩;try conv=>cbv
   refine⟨x2,fun _=>⟨by omega,q⟩,?_⟩;try conv=>cbv
   refine .inr (.inr (.inr (.inl ⟨41,.var 1 [.int .i64 0],[.one (.AD 0 0 0),.agg [.sl (.sl AA) I.1.1,.sl AA I.1.2,.sl (.sl AA) I.2.1,.sl AA I.2.2],.agg [.sl (.sl AA) x2.1.1,.sl AA x2.1.2,.sl (.sl AA) x2.2.1,.sl AA x2.2.2]],.agg [.sl (.sl AA) AI,.sl AA AJ,.sl (.sl AA) AQ,.sl AA AO],fun _=>⟨rfl,⟨⟨⟨rfl,rfl⟩,rfl⟩,t4,t4,trivial⟩⟩,fun _=>AP a (R),?_⟩)));try conv=>cbv
   refine⟨x1,fun _=>⟨by omega,p⟩,?_⟩;try conv=>cbv
   refine⟨x2,fun _=>⟨by omega,q⟩,?_⟩;try conv=>cbv
   refine .inr (.inr (.inr (.inl ⟨41,.var 1 [.int .i64 0],[.one (.AD 0 0 0),.agg [.sl (.sl AA) x1.1.1,.sl AA x1.1.2,.sl (.sl AA) x1.2.1,.sl AA x1.2.2],.agg [.sl (.sl AA) x2.1.1,.sl AA x2.1.2,.sl (.sl AA) x2.2.1,.sl AA x2.2.2]],.agg [.sl (.sl AA) Ai,.sl AA Ah,.sl (.sl AA) Ak,.sl AA Aj],fun _=>⟨rfl,⟨⟨⟨rfl,rfl⟩,rfl⟩,t4,t4,trivial⟩⟩,fun _=>AP a (S),?_⟩)));try conv=>cbv
   refine⟨fun _=>Aq (by kernel_rfl),?_⟩;refine .inr (.inr (.inr (.inl ⟨41,.var 1 [.int .i64 0],[.one (.AD 0 0 0),.agg [.sl (.sl AA) AI,.sl AA AJ,.sl (.sl AA) AQ,.sl AA AO],.agg [.sl (.sl AA) Ai,.sl AA Ah,.sl (.sl AA) Ak,.sl AA Aj]],.agg [.sl (.sl AA) BA,.sl AA Ay],fun _=>⟨rfl,⟨⟨⟨rfl,rfl⟩,rfl⟩,t4,t4,trivial⟩⟩,fun _=>AP a (T),?_⟩)));try conv=>cbv
   intro aT aj;cases aj.trans (show _=false by decide);conv=>cbv
   refine cL a a1 ⟨t2,trivial⟩ ?_;try conv=>cbv
   intro az ab;conv=>cbv
   cases az <;> conv=>cbv
   ·have ah:=Au ab;have m:(M-u)*(N-u)+(O-v)*(P-v)≠0:=fun z=>ah (H.trans (Dv.2 z))
    obtain⟨s,r,B,U⟩:=Mi F x A (by omega);obtain⟨K,J,a6,Y⟩:=Fo F B f m (by omega);have g:(M-u)*(P-v)-(O-v)*(N-u)≠0:=fun z=>af (by rw[<-z];grind)
    have au:((M-u)*(P-v)-(O-v)*(N-u))*As ((M-u)*(N-u)+(O-v)*(P-v))≠0:=WI m g;have ae:¬(M=N/\O=P):=fun z=>g (by rw[z.1,z.2];grind)
    obtain⟨aE,aA,a7,aJ,aK⟩:=D1 F f B (d:=728) (by omega) g (by omega) (by omega) (by omega);obtain⟨aF,aB,aG,aC,aH,aD,a8,aa,Z⟩:=Nr F C D a6 a7 ae au (gK m g) (by omega);obtain⟨ex,ey⟩:=gJ m g af;refine⟨I,fun _=>⟨by omega,o⟩,?_⟩;try conv=>cbv
    refine⟨x1,fun _=>⟨by omega,p⟩,?_⟩;try conv=>cbv
    refine .inr (.inr (.inr (.inl ⟨41,.var 1 [.int .i64 0],[.one (.AD 0 0 0),.agg [.sl (.sl AA) AI,.sl AA AJ,.sl (.sl AA) AQ,.sl AA AO],.agg [.sl (.sl AA) Ai,.sl AA Ah,.sl (.sl AA) Ak,.sl AA Aj]],.agg [.sl (.sl AA) s,.sl AA r],fun _=>⟨rfl,⟨⟨⟨rfl,rfl⟩,rfl⟩,t4,t4,trivial⟩⟩,fun _=>AP a (U),?_⟩)));try conv=>cbv
    refine .inr (.inr (.inr (.inl ⟨41,.var 1 [.int .i64 0],[.one (.AD 0 0 0),.agg [.sl (.sl AA) s,.sl AA r],.agg [.sl (.sl AA) BA,.sl AA Ay]],.agg [.sl (.sl AA) K,.sl AA J],fun _=>⟨rfl,⟨⟨⟨rfl,rfl⟩,rfl⟩,t2,t2,trivial⟩⟩,fun _=>AP a (Y),?_⟩)));try conv=>cbv
    refine cL a Z ⟨t4,t4,t2,trivial⟩ ?_;try conv=>cbv
    refine⟨fun _=>Aq (by kernel_rfl),?_⟩;intro aU ak;cases ak.trans (show _=true by decide);conv=>cbv
    refine cL a (KT F av ar a8 aa (e:=true) ⟨fun _=>⟨⟨ex,ey⟩,by rw[<-ex,<-ey];grind⟩,fun _=>rfl⟩ (by omega)) ⟨⟨rfl,rfl,rfl,rfl,rfl,rfl,trivial⟩,⟨rfl,rfl,rfl,rfl,rfl,rfl,trivial⟩,trivial⟩ ?_;try conv=>cbv
    exact fA ⟨t2,trivial⟩ rfl (by simp)
   have ah:=Av ab;exact fA ⟨t2,trivial⟩ rfl (by simp)
  have aw:=Dh a5;exact fA ⟨t2,trivial⟩ rfl (by simp)
 have ag:=CK a2;refine cL a FF trivial ?_;try conv=>cbv
 exact fA ⟨t2,trivial⟩ rfl (by simp)
theorem Rz {TT:List (List Rat)->Prop} {w:List (List Rat)} (F:Fd TT w) {AL AI AQ:List LR} {AK AJ AO:LR} {xo yo vs:Re} {ko ks:Nat} {e:Bool} (k:Vm TT w 1950000 ko ko AL AK AI AJ xo yo) (i:Nm TT w 1950000 ks AQ AO vs) (he:e=decide (BJ vs>0)) (j:ks+111<=80000):CF 34 [.agg [.sl (.sl AA) AL,.sl AA AK,.sl (.sl AA) AI,.sl AA AJ,.sl (.sl AA) AQ,.sl AA AO]] (.one (.bool e)):=by
 obtain⟨f,a,b,c⟩:=DQ F i (by omega);refine BP Tryz.func34 (by kernel_rfl) rfl fun E h=>?_
 conv=>cbv
 refine cL h b ⟨t2,trivial⟩ ?_;try conv=>cbv
 intro l g;conv=>cbv
 exact fA ⟨⟨rfl,congrArg _ ((g.trans (by rw[a];exact he.symm)).symm),trivial⟩,trivial⟩ rfl (by simp)
theorem eZ (x:Re):BJ (-x)= -BJ x:=by
 rcases EP x with⟨a,b⟩ |⟨a,b⟩ |⟨a,b⟩
 ·rw[b,Fq (by grind)];rfl
 ·rw[b,a,show (-0:Re)=0 by grind,Dw];rfl
 rw[b,JH (by grind)]
theorem iI {W:List UInt8} (M:ns=(runN (X.take 24)).1) (p:V.length<=3) (f:∀n∈ns,BY V n):CF 5 [.agg [.sl Bf X,.sl .u8 W]] (.one (.bool true)):=by
 obtain⟨w,L⟩:=GL p f;have F:=L.fd;obtain⟨Q,I⟩:∃z,z=FL ns W:=⟨_,rfl⟩
 obtain⟨c,hc⟩:=xB (decide (4<=Q.length));obtain⟨Tt,At,t,an,ct,a7⟩:=Wi (W:=W) M p f L;have ht:=an (b:=1950000) (k:=1) (by decide);refine BP Tryz.func5 (by kernel_rfl) rfl fun E a=>?_
 conv=>cbv
 refine cL a (Hd M p f I (i':=4) ⟨rfl⟩ (by decide) hc) ⟨t2,rfl,trivial⟩ ?_;try conv=>cbv
 refine cL a FF trivial ?_;try conv=>cbv
 intro aJ a8;cases a8.trans (rfl:_=false);conv=>cbv
 intro ao A;conv=>cbv
 cases ao <;> conv=>cbv
 ·have Y:=CJ A;have hl:4<=Q.length:=of_decide_eq_true (hc.symm.trans Y);obtain⟨x0,u⟩:=AG (l:=Q) (i:=0) (by omega);obtain⟨X0,Y0,ai⟩:=C9 L f I u;have N:=ai (b:=1950000) (k:=1) (by decide);obtain⟨x1,v⟩:=AG (l:=Q) (i:=1) (by omega);obtain⟨X1,Y1,aj⟩:=C9 L f I v;have O:=aj (b:=1950000) (k:=1) (by decide);obtain⟨x2,T⟩:=AG (l:=Q) (i:=2) (by omega);obtain⟨X2,Y2,ak⟩:=C9 L f I T;have ag:=ak (b:=1950000) (k:=1) (by decide);obtain⟨x3,U⟩:=AG (l:=Q) (i:=3) (by omega);obtain⟨X3,Y3,al⟩:=C9 L f I U;have ah:=al (b:=1950000) (k:=1) (by decide);obtain⟨AK,C,aw,x⟩:=Ec F ht (by omega);obtain⟨rt,s⟩:∃z,z=BJ t:=⟨_,rfl⟩
  have P:BJ (-t)= -rt:=by rw[s];exact eZ t
  obtain⟨a6,q,_,m⟩:=DQ F ht (by omega);obtain rfl:rt=a6:=s.trans q.symm;obtain⟨e1,J⟩:∃z,z=decide (rt>0):=⟨_,rfl⟩
  obtain⟨e2,K⟩:∃z,z=decide (-rt>0):=⟨_,rfl⟩
  obtain⟨aD,ax,aE,ay,aF,az,ea,ae,ca⟩:=IA F (i:=0) (k:=1) u v (by decide) (by decide) N O (by omega);obtain⟨aG,aA,aH,aB,aI,aC,eb,af,cb⟩:=IA F (i:=2) (k:=3) T U (by decide) (by decide) ag ah (by omega);refine cL a ct ⟨t2,trivial⟩ ?_;try conv=>cbv
  refine⟨x0,fun _=>⟨by omega,u⟩,?_⟩;try conv=>cbv
  refine⟨x1,fun _=>⟨by omega,v⟩,?_⟩;try conv=>cbv
  refine cL a x ⟨t2,trivial⟩ ?_;try conv=>cbv
  refine⟨fun _=>Aq (by kernel_rfl),?_⟩;refine cL a a7 ⟨t2,trivial⟩ ?_;try conv=>cbv
  intro aK aa;cases aa.trans (rfl:_=false);conv=>cbv
  refine cL (r:= .one (.bool e1)) a (Rz F N ht (J.trans (by rw[s])) (by omega)) ⟨⟨rfl,rfl,rfl,rfl,rfl,rfl,trivial⟩,trivial⟩ ?_;try conv=>cbv
  refine cL a m ⟨t2,trivial⟩ ?_;try conv=>cbv
  intro aL ab;conv=>cbv
  intro aq B;conv=>cbv
  cases aq <;> conv=>cbv
  ·have Z:=LO B;refine cL (r:= .one (.bool e2)) a (Rz F O C (K.trans (by rw[P])) (by omega)) ⟨⟨rfl,rfl,rfl,rfl,rfl,rfl,trivial⟩,trivial⟩ ?_;try conv=>cbv
   refine cL a m ⟨t2,trivial⟩ ?_;try conv=>cbv
   intro Cg ad;conv=>cbv
   intro ar D;conv=>cbv
   refine⟨fun _=>Aq (by kernel_rfl),?_⟩;cases ar <;> conv=>cbv
   ·have a1:=LO D;refine cL a ca t3 ?_;try conv=>cbv
    refine cL a cb t3 ?_;try conv=>cbv
    intro au G;conv=>cbv
    cases au <;> conv=>cbv
    ·have a2:=CJ G;obtain⟨_,na,j,g⟩:=ae.resolve_right (fun h=>absurd (h.1.symm.trans a2) (by decide));intro av H;conv=>cbv
     cases av <;> conv=>cbv
     ·have a5:=CJ H;obtain⟨_,nb,S,R⟩:=af.resolve_right (fun h=>absurd (h.1.symm.trans a5) (by decide));obtain⟨eq,heq⟩:=CV ((X0=X2/\Y0=Y2)/\(X0-X1)*(X0-X1)+(Y0-Y1)*(Y0-Y1)=(X2-X3)*(X2-X3)+(Y2-Y3)*(Y2-Y3));refine cL a (Rw F j g S R heq (by omega)) ⟨⟨rfl,rfl,rfl,rfl,rfl,rfl,trivial⟩,⟨rfl,rfl,rfl,rfl,rfl,rfl,trivial⟩,trivial⟩ ?_;try conv=>cbv
      refine cL a (KT F j g S R heq (by omega)) ⟨⟨rfl,rfl,rfl,rfl,rfl,rfl,trivial⟩,⟨rfl,rfl,rfl,rfl,rfl,rfl,trivial⟩,trivial⟩ ?_;try conv=>cbv
      intro aM o;(have o:=o.trans (show _=true by simp));subst o;conv=>cbv
      refine cL a (Rw F j g j g (e:=true) ⟨fun _=>⟨⟨rfl,rfl⟩,rfl⟩,fun _=>rfl⟩ (by omega)) ⟨⟨rfl,rfl,rfl,rfl,rfl,rfl,trivial⟩,⟨rfl,rfl,rfl,rfl,rfl,rfl,trivial⟩,trivial⟩ ?_;try conv=>cbv
      refine⟨fun _=>Aq (by kernel_rfl),?_⟩;exact fA ⟨t2,trivial⟩ rfl (by simp)
     have a5:=CK H;refine⟨fun _=>Aq (by kernel_rfl),?_⟩;exact fA ⟨t2,trivial⟩ rfl (by simp)
    have a2:=CK G;refine⟨fun _=>Aq (by kernel_rfl),?_⟩;exact fA ⟨t2,trivial⟩ rfl (by simp)
   have a1:=LP D;exact absurd (K.trans ((show decide (-rt>0)=decide (rt<0) by rw[decide_eq_decide];omega).trans ad.symm)) a1
  have Z:=LP B;exact absurd (J.trans ab.symm) Z
 have Y:=CK A;refine cL a FF trivial ?_;try conv=>cbv
 exact fA ⟨t2,trivial⟩ rfl (by simp)
end Go.Abs
