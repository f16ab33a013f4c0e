/- Part 39 of a proof. Conditions: each theorem's own. -/
import Derived.Test.YtmhbikooakmagaaGreatRk37
set_option linter.all false
set_option maxHeartbeats 8000000
set_option maxRecDepth 20000
open Go.Proofs
namespace Go.Abs
open Go.RowKit
theorem fh (X Y:Nat->Int):DH (fun i=>Re.ofRat (X i:Rat)) (fun i=>Re.ofRat (Y i:Rat))=fun i j=>if DR ((X i.toNat:Rat)-(X j.toNat:Rat))=0 then DR ((Y i.toNat:Rat)-(Y j.toNat:Rat)) else DR ((X i.toNat:Rat)-(X j.toNat:Rat)):=by
 funext i j
 unfold DH GB;simp only[D9,Gv]
theorem kN (X Y:Nat->Int):Da (fun i=>Re.ofRat (X i:Rat)) (fun i=>Re.ofRat (Y i:Rat))=fun i j k=>DR (-((Y j.toNat:Rat)-(Y i.toNat:Rat))*((X k.toNat:Rat)-(X i.toNat:Rat))+((X j.toNat:Rat)-(X i.toNat:Rat))*((Y k.toNat:Rat)-(Y i.toNat:Rat))):=by
 funext i j k
 unfold Da;simp only[<-Re.ofRat_add,<-Re.ofRat_mul,<-Re.ofRat_neg,D9,Gv]
def Qi (i:Nat):Int:=[0,2,1,2,1,0].getD i 0
def Qj (i:Nat):Int:=[0,0,1,2,0,2].getD i 0
theorem iK:([(0:Int),(1:Int),(3:Int),(5:Int)]:List Int)=Gd (DH (fun i=>Re.ofRat (Qi i:Rat)) fun i=>Re.ofRat (Qj i:Rat)) (Da (fun i=>Re.ofRat (Qi i:Rat)) fun i=>Re.ofRat (Qj i:Rat)) 6:=by
 rw[fh,kN];decide +kernel
theorem jz {b1 c1:Bool} {l1 m1:List UInt32} {A:LR} (cf:CF 116 [.agg (BS b1 l1 c1 m1)] (.agg [.sl (.sl AA) [],.sl AA A])):CF 141 [.agg (BS b1 l1 c1 m1),.agg (BS b1 l1 c1 m1)] (.agg (Af [] A [] A)):=by
 refine CJ Tryz.func141 fun E a=>?_
 conv=>cbv
 refine AB a cf ?_;conv=>cbv
 refine AB a cf ?_;conv=>cbv
 refine BG ?_;exact AD ⟨⟨rfl,rfl,rfl,rfl,rfl,trivial⟩,trivial⟩
theorem KY:CF 35 [] (.one (.bool true)):=by
 obtain⟨w,F⟩:=gi (V:=[]) (ns:=[]) (by decide) (fun n hn=>by simp at hn);obtain⟨v,z,⟨a,b⟩,k⟩:=FL F (p:=((0:Int):Rat)) (q:=((0:Int):Rat)) (by decide +kernel) (by decide +kernel);obtain⟨A,B,⟨c,d⟩,l⟩:=FL F (p:=((1:Int):Rat)) (q:=((0:Int):Rat)) (by decide +kernel) (by decide +kernel);obtain⟨a1,a2,⟨g,j⟩,m⟩:=FL F (p:=((0:Int):Rat)) (q:=((1:Int):Rat)) (by decide +kernel) (by decide +kernel);obtain⟨a5,a7,a6,a8,M⟩:=Be (1/2:Rat);have W:(1/2:Rat)=Rat.divInt 1 2:=by decide +kernel
 obtain⟨BU,U,R⟩:=Ii F (p:=(1/2:Rat)) (by decide +kernel);have X:Vm _ w 1950000 1 1 ([]:List LR) BU ([]:List LR) BU _ _:=⟨R.mono (by omega),R.mono (by omega)⟩;obtain⟨C,D,⟨o,s⟩,S⟩:=FL F (p:=((1:Int):Rat)) (q:=((1:Int):Rat)) (by decide +kernel) (by decide +kernel);obtain⟨G,H,⟨t,u⟩,T⟩:=FL F (p:=((2:Int):Rat)) (q:=((2:Int):Rat)) (by decide +kernel) (by decide +kernel);obtain⟨I,J,⟨N,O⟩,Y⟩:=FL F (p:=((2:Int):Rat)) (q:=((0:Int):Rat)) (by decide +kernel) (by decide +kernel);obtain⟨K,L,⟨P,Q⟩,Z⟩:=FL F (p:=((0:Int):Rat)) (q:=((2:Int):Rat)) (by decide +kernel) (by decide +kernel)
 have hQ:Fl _ w 1950000 1 [((([]:List LR),v),(([]:List LR),z)),((([]:List LR),I),(([]:List LR),J)),((([]:List LR),C),(([]:List LR),D)),((([]:List LR),G),(([]:List LR),H)),((([]:List LR),A),(([]:List LR),B)),((([]:List LR),K),(([]:List LR),L))] (fun i=>Re.ofRat (Qi i:Rat)) (fun i=>Re.ofRat (Qj i:Rat)):=fun i x h=>match i,h with
  | 0,h=>by obtain rfl:=Option.some.inj h;exact k
  | 1,h=>by obtain rfl:=Option.some.inj h;exact Y
  | 2,h=>by obtain rfl:=Option.some.inj h;exact S
  | 3,h=>by obtain rfl:=Option.some.inj h;exact T
  | 4,h=>by obtain rfl:=Option.some.inj h;exact l
  | 5,h=>by obtain rfl:=Option.some.inj h;exact Z
  | n+6,h=>by simp at h
 refine CJ Tryz.func35 fun E f=>?_
 conv=>cbv
 refine AB f (EC (x:=0) (y:=0) (by decide) (by decide) a b) ?_;conv=>cbv
 refine AB f (EC (x:=1) (y:=0) (by decide) (by decide) c d) ?_;conv=>cbv
 refine AB f (EC (x:=0) (y:=1) (by decide) (by decide) g j) ?_;conv=>cbv
 refine AB (r:= .AG [(false,[.int .i64 1]),(false,[.int .i64 0])]) f (Ri F k l m (sn:=1) (by simp only[<-Re.ofRat_add,<-Re.ofRat_mul,<-Re.ofRat_neg,D9,Gv];decide +kernel) (by omega)) ?_;try conv=>cbv
 refine AB f (I2 (by decide) (by decide) (by decide) W M) ?_;conv=>cbv
 refine AB f (EC (x:=0) (y:=0) (by decide) (by decide) a b) ?_;conv=>cbv
 refine AB f (EC (x:=1) (y:=0) (by decide) (by decide) c d) ?_;conv=>cbv
 refine AB f (EC (x:=0) (y:=1) (by decide) (by decide) g j) ?_;conv=>cbv
 refine AB f (jz (K6 M (F1 (by decide +kernel:B9 (1/2:Rat))) U)) ?_;conv=>cbv
 refine AB (r:= .AG [(false,[.int .i64 1]),(false,[.int .i64 0])]) f (Rh F k l m X (sn:=1) (by show An _=_;simp only[<-Re.ofRat_add,<-Re.ofRat_mul,<-Re.ofRat_neg,D9,Gv];decide +kernel) (by simp only[<-Re.ofRat_add,<-Re.ofRat_mul,<-Re.ofRat_neg,D9,Gv];decide +kernel) (by omega)) ?_;try conv=>cbv
 refine BG ?_;refine AB f (EC (x:=0) (y:=0) (by decide) (by decide) a b) ?_;conv=>cbv
 refine AB f (EC (x:=1) (y:=0) (by decide) (by decide) c d) ?_;conv=>cbv
 refine AB f (EC (x:=0) (y:=1) (by decide) (by decide) g j) ?_;conv=>cbv
 refine AB f (EC (x:=1) (y:=1) (by decide) (by decide) o s) ?_;conv=>cbv
 refine AB (r:= .AG [(false,[.int .i64 0]),(false,[.int .i64 0])]) f (Rh F k l m S (sn:=0) (by show An _=_;simp only[<-Re.ofRat_add,<-Re.ofRat_mul,<-Re.ofRat_neg,D9,Gv];decide +kernel) (by simp only[<-Re.ofRat_add,<-Re.ofRat_mul,<-Re.ofRat_neg,D9,Gv];decide +kernel) (by omega)) ?_;try conv=>cbv
 refine AB f (EC (x:=0) (y:=0) (by decide) (by decide) a b) ?_;conv=>cbv
 refine AB f (EC (x:=1) (y:=0) (by decide) (by decide) c d) ?_;conv=>cbv
 refine AB f (EC (x:=0) (y:=1) (by decide) (by decide) g j) ?_;conv=>cbv
 refine AB f (EC (x:=2) (y:=2) (by decide) (by decide) t u) ?_;conv=>cbv
 refine AB (r:= .AG [(false,[.int .i64 (-1)]),(false,[.int .i64 0])]) f (Rh F k l m T (sn:= -1) (by show An _=_;simp only[<-Re.ofRat_add,<-Re.ofRat_mul,<-Re.ofRat_neg,D9,Gv];decide +kernel) (by simp only[<-Re.ofRat_add,<-Re.ofRat_mul,<-Re.ofRat_neg,D9,Gv];decide +kernel) (by omega)) ?_;try conv=>cbv
 refine AB f (EC (x:=0) (y:=0) (by decide) (by decide) a b) ?_;conv=>cbv
 refine AB f (EC (x:=2) (y:=0) (by decide) (by decide) N O) ?_;conv=>cbv
 refine AB f (EC (x:=1) (y:=1) (by decide) (by decide) o s) ?_;conv=>cbv
 refine AB f (EC (x:=2) (y:=2) (by decide) (by decide) t u) ?_;conv=>cbv
 refine AB f (EC (x:=1) (y:=0) (by decide) (by decide) c d) ?_;conv=>cbv
 refine AB f (EC (x:=0) (y:=2) (by decide) (by decide) P Q) ?_;conv=>cbv
 refine⟨[((([]:List LR),v),(([]:List LR),z)),((([]:List LR),I),(([]:List LR),J)),((([]:List LR),C),(([]:List LR),D)),((([]:List LR),G),(([]:List LR),H)),((([]:List LR),A),(([]:List LR),B)),((([]:List LR),K),(([]:List LR),L))],fun _=>⟨rfl,by decide,rfl,⟨rfl,by first | exact t1 | exact t2 | exact t4 | simp[Ao,BA,cells],⟨rfl,by first | exact t1 | exact t2 | exact t4 | simp[Ao,BA,cells],⟨rfl,by first | exact t1 | exact t2 | exact t4 | simp[Ao,BA,cells],⟨rfl,by first | exact t1 | exact t2 | exact t4 | simp[Ao,BA,cells],⟨rfl,by first | exact t1 | exact t2 | exact t4 | simp[Ao,BA,cells],⟨rfl,by first | exact t1 | exact t2 | exact t4 | simp[Ao,BA,cells],trivial⟩⟩⟩⟩⟩⟩⟩,.inr ?_⟩;try conv=>cbv
 refine AB (r:= .AG [(false,[.sl .i64 [(0:Int),(1:Int),(3:Int),(5:Int)]]),(false,[.int .i64 0])]) f (X6 F hQ iK (by simp)) ?_;conv=>cbv
 refine Bc ?_;conv=>cbv
 refine Bc ?_;conv=>cbv
 refine Bc ?_;conv=>cbv
 refine Bc ?_;conv=>cbv
 refine Bc ?_;conv=>cbv
 refine Bc ?_;conv=>cbv
 refine Bc ?_;conv=>cbv
 refine Bc ?_;conv=>cbv
 refine Bc ?_;conv=>cbv
 refine⟨[(0:Int),(1:Int),(3:Int),(5:Int)],fun _=>⟨rfl,by decide,rfl,⟨rfl,t1,⟨rfl,t1,⟨rfl,t1,⟨rfl,t1,trivial⟩⟩⟩⟩⟩,.inr ?_⟩;try conv=>cbv
 refine AB f ZT ?_;conv=>cbv
 exact AD ⟨t2,trivial⟩
end Go.Abs
