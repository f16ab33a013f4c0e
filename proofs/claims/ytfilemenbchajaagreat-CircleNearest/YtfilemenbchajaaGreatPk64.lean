/- Part 65 of a proof. Conditions: each theorem's own. -/
import Derived.Test.YtfilemenbchajaaGreatPk48
set_option linter.all false
set_option maxHeartbeats 8000000
set_option maxRecDepth 20000
open Go.Proofs
namespace Go.Abs
open Go.RowKit
theorem fx:Re.ofRat 2*Re.sqrt (Re.ofRat (1/2))=Re.sqrt (Re.ofRat 2):=by
 refine Re.Gs (Re.Of (Gl (by decide +kernel)) (Re.GN _)) (Re.GN _) ?_;have a:=Re.E9 (Gl (q:=1/2) (by decide +kernel));have b:=Re.E9 (Gl (q:=2) (by decide +kernel));rw[b];have:Re.ofRat 2*Re.sqrt (Re.ofRat (1/2))*(Re.ofRat 2*Re.sqrt (Re.ofRat (1/2)))=Re.ofRat 2*Re.ofRat 2*(Re.sqrt (Re.ofRat (1/2))*Re.sqrt (Re.ofRat (1/2))):=by grind
 rw[this,a,<-Re.ofRat_mul,<-Re.ofRat_mul];exact congrArg Re.ofRat (by decide +kernel)
theorem cI:Re.ofRat 1+(Re.ofRat ((3:Int):Rat)-Re.ofRat 1)*Re.sqrt (Re.ofRat (1/2))=Re.sqrt (Re.ofRat 2)+Re.ofRat ((1:Int):Rat):=by
 rw[B7,show ((3:Int):Rat)-1=2 by decide +kernel,fx,show ((1:Int):Rat)=1 by decide +kernel];grind
theorem G7 {x y:Int} {A1 A2:LR} (f: -9223372036854775808<=x/\x<9223372036854775808) (g: -9223372036854775808<=y/\y<9223372036854775808) (a:A1=em [] (Re.ofRat x)) (b:A2=em [] (Re.ofRat y)):CF 78 [.one (.int .i64 x),.one (.int .i64 y)] (.agg [.sl (.sl AA) (([]:List LR)),.sl AA A1,.sl (.sl AA) (([]:List LR)),.sl AA A2]):=by
 refine BP Tryz.func78 (by kernel_rfl) rfl fun E c=>?_
 conv=>cbv
 refine cL c (Eh f g a b) t2 ?_;try conv=>cbv
 exact fA ⟨⟨rfl,rfl,rfl,rfl,rfl,trivial⟩,trivial⟩ rfl (by simp)
theorem FF:CF 16 [] (.one (.bool true)):=by
 obtain⟨w,F,aI,aH⟩:=Zs;obtain⟨ai,aj,⟨i,j⟩,T⟩:=EH F (p:=((0:Int):Rat)) (q:=((0:Int):Rat)) (by decide +kernel) (by decide +kernel);obtain⟨ak,al,⟨k,l⟩,U⟩:=EH F (p:=((2:Int):Rat)) (q:=((0:Int):Rat)) (by decide +kernel) (by decide +kernel);obtain⟨an,ao,⟨m,n⟩,W⟩:=EH F (p:=((0:Int):Rat)) (q:=((2:Int):Rat)) (by decide +kernel) (by decide +kernel);obtain⟨Ai,Ah,Ak,Aj,CD,Bq,I,Y,O⟩:=ZJ F T U W (by (try simp only[<-Re.ofRat_add,<-Re.ofRat_mul,<-Re.ofRat_neg,B7,CH]);exact fun h=>absurd (Re.Du.1 (h.trans Re.GI.symm)) (by decide +kernel)) (by omega);obtain⟨aq,ar,⟨o,s⟩,Z⟩:=EH F (p:=((-1:Int):Rat)) (q:=((0:Int):Rat)) (by decide +kernel) (by decide +kernel);obtain⟨au,av,⟨u,z⟩,a1⟩:=EH F (p:=((1:Int):Rat)) (q:=((0:Int):Rat)) (by decide +kernel) (by decide +kernel)
 obtain⟨L,c,b⟩:=DK F (p:=((1:Int):Rat)) (by decide +kernel);obtain⟨aR,aJ,a2,aY,b1⟩:=D1 F b b (d:=70) (by omega) (by (try simp only[<-Re.ofRat_add,<-Re.ofRat_mul,<-Re.ofRat_neg,B7,CH]);exact fun h=>absurd (Re.Du.1 (h.trans Re.GI.symm)) (by decide +kernel)) (by omega) (by omega) (by omega);obtain⟨aS,aK,aT,aL,aU,aM,a5,a6,P⟩:=Nr F Z a1 b a2 (fun h=>absurd (Re.Du.1 h.1) (by decide +kernel)) (by (try simp only[<-Re.ofRat_add,<-Re.ofRat_mul,<-Re.ofRat_neg,B7,CH]);exact fun h=>absurd (Re.Du.1 (h.trans Re.GI.symm)) (by decide +kernel)) (by simp only[CH,<-Re.ofRat_mul];exact congrArg Re.ofRat (by decide +kernel)) (by omega);obtain⟨aN,f,g⟩:=DK F (p:=((2:Int):Rat)) (by decide +kernel);have J:Vm _ w 1950000 1 1 Ai Ah Ak Aj _ _:=⟨C6 F (by decide) (r:=1) (by decide +kernel) I.x (by (try simp only[wX,wY,iX,iY,<-Re.ofRat_add,<-Re.ofRat_mul,<-Re.ofRat_neg,B7,CH]);exact congrArg Re.ofRat (by decide +kernel)),C6 F (by decide) (r:=1) (by decide +kernel) I.y (by (try simp only[wX,wY,iX,iY,<-Re.ofRat_add,<-Re.ofRat_mul,<-Re.ofRat_neg,B7,CH]);exact congrArg Re.ofRat (by decide +kernel))⟩
 have K:=C6 F (by decide) (r:=2) (by decide +kernel) Y (by (try simp only[wX,wY,iX,iY,<-Re.ofRat_add,<-Re.ofRat_mul,<-Re.ofRat_neg,B7,CH]);exact congrArg Re.ofRat (by decide +kernel));obtain⟨aw,ax,⟨A,B⟩,a7⟩:=EH F (p:=((1:Int):Rat)) (q:=((1:Int):Rat)) (by decide +kernel) (by decide +kernel);obtain⟨ay,az,⟨C,D⟩,a8⟩:=EH F (p:=((0:Int):Rat)) (q:=((1:Int):Rat)) (by decide +kernel) (by decide +kernel);obtain⟨aA,aB,⟨G,H⟩,aa⟩:=EH F (p:=((3:Int):Rat)) (q:=((1:Int):Rat)) (by decide +kernel) (by decide +kernel);obtain⟨aV,aO,aW,aP,ab,Q⟩:=ZH F J K aa (v:=Re.ofRat (1/2)) (kr:=1) (fun h=>absurd (Re.Du.1 h.1) (by decide +kernel)) (by (try simp only[<-Re.ofRat_add,<-Re.ofRat_mul,<-Re.ofRat_neg,B7,CH]);exact fun h=>absurd (Re.Du.1 (h.trans Re.GI.symm)) (by decide +kernel)) (by (try simp only[wX,wY,iX,iY,<-Re.ofRat_add,<-Re.ofRat_mul,<-Re.ofRat_neg,B7,CH]);exact congrArg Re.ofRat (by decide +kernel)) aI (by omega)
 have ad:=g.cast (y:=Re.ofRat 2) (congrArg Re.ofRat (by decide +kernel));obtain⟨aX,aQ,ae,aZ,R⟩:=aH.get (by omega) ad;obtain⟨N,M,af,b0,S⟩:=GH F ae b (by omega) (by omega);have ag:Vm _ w 1950000 3 3 N M ([]:List LR) L _ _:=⟨af.mono (by omega),b.mono (by omega)⟩;have ah:=ab.cast (x':=(Re.ofRat (1))+(((Re.ofRat ((3:Int):Rat))-(Re.ofRat (1)))*(Re.sqrt (Re.ofRat (1/2))))) (y':=Re.ofRat 1) (rfl) (by rw[show Re.ofRat ((1:Int):Rat)=Re.ofRat 1 from congrArg Re.ofRat (by decide +kernel)];grind);refine BP Tryz.func16 (by kernel_rfl) rfl fun E a=>?_
 conv=>cbv
 refine cL a (G7 (x:=0) (y:=0) (by decide) (by decide) i j) t2 ?_;try conv=>cbv
 refine cL a (G7 (x:=2) (y:=0) (by decide) (by decide) k l) t2 ?_;try conv=>cbv
 refine cL a (G7 (x:=0) (y:=2) (by decide) (by decide) m n) t2 ?_;try conv=>cbv
 refine cL a O ⟨t4,t4,t4,trivial⟩ ?_;try conv=>cbv
 refine cL a (G7 (x:= -1) (y:=0) (by decide) (by decide) o s) t2 ?_;try conv=>cbv
 refine cL a (G7 (x:=1) (y:=0) (by decide) (by decide) u z) t2 ?_;try conv=>cbv
 refine cL a (D6 (by decide) c) t1 ?_;try conv=>cbv
 refine cL a P ⟨t4,t4,t2,trivial⟩ ?_;try conv=>cbv
 intro b2 aC;cases aC.trans (show _=false by decide);conv=>cbv
 intro b3 aD;cases aD.trans (show _=false by decide);conv=>cbv
 refine cL a (G7 (x:=1) (y:=1) (by decide) (by decide) A B) t2 ?_;try conv=>cbv
 refine cL a (D6 (by decide) f) t1 ?_;try conv=>cbv
 refine cL a (KT F J K a7 g (e:=true) ⟨fun _=>⟨⟨congrArg Re.ofRat (by decide +kernel),congrArg Re.ofRat (by decide +kernel)⟩,congrArg Re.ofRat (by decide +kernel)⟩,fun _=>rfl⟩ (by omega)) ⟨⟨rfl,rfl,rfl,rfl,rfl,rfl,trivial⟩,⟨rfl,rfl,rfl,rfl,rfl,rfl,trivial⟩,trivial⟩ ?_;try conv=>cbv
 intro b4 aE;cases aE.trans (rfl:_=false);conv=>cbv
 refine cL a (G7 (x:=0) (y:=1) (by decide) (by decide) C D) t2 ?_;try conv=>cbv
 refine cL a (D6 (by decide) f) t1 ?_;try conv=>cbv
 refine cL a (KT F a5 a6 a8 g (e:=true) ⟨fun _=>⟨⟨by (try simp only[wX,wY,iX,iY,<-Re.ofRat_add,<-Re.ofRat_mul,<-Re.ofRat_neg,B7,CH]);exact congrArg Re.ofRat (by decide +kernel),by (try simp only[wX,wY,iX,iY,<-Re.ofRat_add,<-Re.ofRat_mul,<-Re.ofRat_neg,B7,CH]);exact congrArg Re.ofRat (by decide +kernel)⟩,by (try simp only[wX,wY,iX,iY,<-Re.ofRat_add,<-Re.ofRat_mul,<-Re.ofRat_neg,B7,CH]);exact congrArg Re.ofRat (by decide +kernel)⟩,fun _=>rfl⟩ (by omega)) ⟨⟨rfl,rfl,rfl,rfl,rfl,rfl,trivial⟩,⟨rfl,rfl,rfl,rfl,rfl,rfl,trivial⟩,trivial⟩ ?_;try conv=>cbv
 intro b5 aF;cases aF.trans (rfl:_=false);conv=>cbv
 refine⟨fun _=>Aq (by kernel_rfl),?_⟩;refine cL a (G7 (x:=3) (y:=1) (by decide) (by decide) G H) t2 ?_;try conv=>cbv
 refine cL a Q ⟨⟨rfl,rfl,rfl,rfl,rfl,rfl,trivial⟩,t4,trivial⟩ ?_;try conv=>cbv
 refine⟨fun _=>Aq (by kernel_rfl),?_⟩;refine cL a (D6 (by decide) f) t1 ?_;try conv=>cbv
 refine cL a R ⟨t2,trivial⟩ ?_;try conv=>cbv
 refine cL a (D6 (by decide) c) t1 ?_;try conv=>cbv
 refine cL a S ⟨t2,t2,trivial⟩ ?_;try conv=>cbv
 refine⟨fun _=>Aq (by kernel_rfl),?_⟩;intro b6 aG;cases aG.trans (show _=true by decide);conv=>cbv
 refine cL a (D6 (by decide) c) t1 ?_;try conv=>cbv
 refine cL a (EU F ah ag (by omega) (by omega) (by omega) (by omega) (e:=true) ⟨fun _=>⟨cI,congrArg Re.ofRat (by decide +kernel)⟩,fun _=>rfl⟩) ⟨t4,t4,trivial⟩ ?_;try conv=>cbv
 refine⟨fun _=>Aq (by kernel_rfl),?_⟩;exact fA ⟨t2,trivial⟩ rfl (by simp)
end Go.Abs
