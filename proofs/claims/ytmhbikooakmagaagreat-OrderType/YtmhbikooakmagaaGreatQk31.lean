/- Part 32 of a proof. Conditions: each theorem's own. -/
import Derived.Test.YtmhbikooakmagaaGreatQk30
set_option linter.all false
set_option maxHeartbeats 8000000
set_option maxRecDepth 20000
open Go.Proofs
namespace Go.Abs
open Go.RowKit
theorem ZE (X Y:Nat->Int):E7 (fun i=>Re.ofRat (X i:Rat)) (fun i=>Re.ofRat (Y i:Rat))=fun i j=>if Cw ((X i.toNat:Rat)-(X j.toNat:Rat))=0 then Cw ((Y i.toNat:Rat)-(Y j.toNat:Rat)) else Cw ((X i.toNat:Rat)-(X j.toNat:Rat)):=by
 funext i j
 unfold E7 DC;simp only[Gj,Fg]
theorem cA (X Y:Nat->Int):FB (fun i=>Re.ofRat (X i:Rat)) (fun i=>Re.ofRat (Y i:Rat))=fun i j k=>Cw (-((Y j.toNat:Rat)-(Y i.toNat:Rat))*((X k.toNat:Rat)-(X i.toNat:Rat))+((X j.toNat:Rat)-(X i.toNat:Rat))*((Y k.toNat:Rat)-(Y i.toNat:Rat))):=by
 funext i j k
 unfold FB;simp only[<-Re.ofRat_add,<-Re.ofRat_mul,<-Re.ofRat_neg,Gj,Fg]
def Nb (i:Nat):Int:=[0,2,1,2,1,0].getD i 0
def Nc (i:Nat):Int:=[0,0,1,2,0,2].getD i 0
theorem Z0:([(0:Int),(1:Int),(3:Int),(5:Int)]:List Int)=Jj (E7 (fun i=>Re.ofRat (Nb i:Rat)) fun i=>Re.ofRat (Nc i:Rat)) (FB (fun i=>Re.ofRat (Nb i:Rat)) fun i=>Re.ofRat (Nc i:Rat)) 6:=by
 rw[ZE,cA];decide +kernel
theorem bW {b1 c1:Bool} {l1 m1:List UInt32} {A:LR} (cf:CF 116 [.agg (BK b1 l1 c1 m1)] (.agg [.sl (.sl AA) [],.sl AA A])):CF 141 [.agg (BK b1 l1 c1 m1),.agg (BK b1 l1 c1 m1)] (.agg (BI [] A [] A)):=by
 refine Ds Tryz.func141 fun E a=>?_
 conv=>cbv
 refine AB a cf ?_;conv=>cbv
 refine AB a cf ?_;conv=>cbv
 refine BC ?_;exact AD ⟨⟨rfl,rfl,rfl,rfl,rfl,trivial⟩,trivial⟩
theorem Ia:CF 35 [] (.one (.bool true)):=by
 obtain⟨w,F⟩:=Zk (V:=[]) (ns:=[]) (by decide) (fun n hn=>by simp at hn);obtain⟨v,z,⟨a,b⟩,k⟩:=Hm F (p:=((0:Int):Rat)) (q:=((0:Int):Rat)) (by decide +kernel) (by decide +kernel);obtain⟨A,B,⟨c,d⟩,l⟩:=Hm F (p:=((1:Int):Rat)) (q:=((0:Int):Rat)) (by decide +kernel) (by decide +kernel);obtain⟨a1,a2,⟨g,j⟩,m⟩:=Hm F (p:=((0:Int):Rat)) (q:=((1:Int):Rat)) (by decide +kernel) (by decide +kernel);obtain⟨a5,a7,a6,a8,M⟩:=BP (1/2:Rat);have W:(1/2:Rat)=Rat.divInt 1 2:=by decide +kernel
 obtain⟨Dc,U,R⟩:=UP F (p:=(1/2:Rat)) (by decide +kernel);have X:Vm _ w 1950000 1 1 ([]:List LR) Dc ([]:List LR) Dc _ _:=⟨R.mono (by omega),R.mono (by omega)⟩;obtain⟨C,D,⟨o,s⟩,S⟩:=Hm F (p:=((1:Int):Rat)) (q:=((1:Int):Rat)) (by decide +kernel) (by decide +kernel);obtain⟨G,H,⟨t,u⟩,T⟩:=Hm F (p:=((2:Int):Rat)) (q:=((2:Int):Rat)) (by decide +kernel) (by decide +kernel);obtain⟨I,J,⟨N,O⟩,Y⟩:=Hm F (p:=((2:Int):Rat)) (q:=((0:Int):Rat)) (by decide +kernel) (by decide +kernel);obtain⟨K,L,⟨P,Q⟩,Z⟩:=Hm F (p:=((0:Int):Rat)) (q:=((2:Int):Rat)) (by decide +kernel) (by decide +kernel)
 have hQ:KV _ w 1950000 1 [((([]:List LR),v),(([]:List LR),z)),((([]:List LR),I),(([]:List LR),J)),((([]:List LR),C),(([]:List LR),D)),((([]:List LR),G),(([]:List LR),H)),((([]:List LR),A),(([]:List LR),B)),((([]:List LR),K),(([]:List LR),L))] (fun i=>Re.ofRat (Nb i:Rat)) (fun i=>Re.ofRat (Nc i:Rat)):=fun i x h=>match i,h with
  | 0,h=>by obtain rfl:=Option.some.inj h;exact k
  | 1,h=>by obtain rfl:=Option.some.inj h;exact Y
  | 2,h=>by obtain rfl:=Option.some.inj h;exact S
  | 3,h=>by obtain rfl:=Option.some.inj h;exact T
  | 4,h=>by obtain rfl:=Option.some.inj h;exact l
  | 5,h=>by obtain rfl:=Option.some.inj h;exact Z
  | n+6,h=>by simp at h
 refine Ds Tryz.func35 fun E f=>?_
 conv=>cbv
 refine AB f (DX (x:=0) (y:=0) (by decide) (by decide) a b) ?_;conv=>cbv
 refine AB f (DX (x:=1) (y:=0) (by decide) (by decide) c d) ?_;conv=>cbv
 refine AB f (DX (x:=0) (y:=1) (by decide) (by decide) g j) ?_;conv=>cbv
 refine AB (r:= .AI [(false,[.int .i64 1]),(false,[.int .i64 0])]) f (Hh F k l m (sn:=1) (by simp only[<-Re.ofRat_add,<-Re.ofRat_mul,<-Re.ofRat_neg,Gj,Fg];decide +kernel) (by omega)) ?_;try conv=>cbv
 refine AB f (Ke (by decide) (by decide) (by decide) W M) ?_;conv=>cbv
 refine AB f (DX (x:=0) (y:=0) (by decide) (by decide) a b) ?_;conv=>cbv
 refine AB f (DX (x:=1) (y:=0) (by decide) (by decide) c d) ?_;conv=>cbv
 refine AB f (DX (x:=0) (y:=1) (by decide) (by decide) g j) ?_;conv=>cbv
 refine AB f (bW (Pn M (VH (by decide +kernel:CG (1/2:Rat))) U)) ?_;conv=>cbv
 refine AB (r:= .AI [(false,[.int .i64 1]),(false,[.int .i64 0])]) f (OP F k l m X (sn:=1) (by show AZ _=_;simp only[<-Re.ofRat_add,<-Re.ofRat_mul,<-Re.ofRat_neg,Gj,Fg];decide +kernel) (by simp only[<-Re.ofRat_add,<-Re.ofRat_mul,<-Re.ofRat_neg,Gj,Fg];decide +kernel) (by omega)) ?_;try conv=>cbv
 refine BC ?_;refine AB f (DX (x:=0) (y:=0) (by decide) (by decide) a b) ?_;conv=>cbv
 refine AB f (DX (x:=1) (y:=0) (by decide) (by decide) c d) ?_;conv=>cbv
 refine AB f (DX (x:=0) (y:=1) (by decide) (by decide) g j) ?_;conv=>cbv
 refine AB f (DX (x:=1) (y:=1) (by decide) (by decide) o s) ?_;conv=>cbv
 refine AB (r:= .AI [(false,[.int .i64 0]),(false,[.int .i64 0])]) f (OP F k l m S (sn:=0) (by show AZ _=_;simp only[<-Re.ofRat_add,<-Re.ofRat_mul,<-Re.ofRat_neg,Gj,Fg];decide +kernel) (by simp only[<-Re.ofRat_add,<-Re.ofRat_mul,<-Re.ofRat_neg,Gj,Fg];decide +kernel) (by omega)) ?_;try conv=>cbv
 refine AB f (DX (x:=0) (y:=0) (by decide) (by decide) a b) ?_;conv=>cbv
 refine AB f (DX (x:=1) (y:=0) (by decide) (by decide) c d) ?_;conv=>cbv
 refine AB f (DX (x:=0) (y:=1) (by decide) (by decide) g j) ?_;conv=>cbv
 refine AB f (DX (x:=2) (y:=2) (by decide) (by decide) t u) ?_;conv=>cbv
 refine AB (r:= .AI [(false,[.int .i64 (-1)]),(false,[.int .i64 0])]) f (OP F k l m T (sn:= -1) (by show AZ _=_;simp only[<-Re.ofRat_add,<-Re.ofRat_mul,<-Re.ofRat_neg,Gj,Fg];decide +kernel) (by simp only[<-Re.ofRat_add,<-Re.ofRat_mul,<-Re.ofRat_neg,Gj,Fg];decide +kernel) (by omega)) ?_;try conv=>cbv
 refine AB f (DX (x:=0) (y:=0) (by decide) (by decide) a b) ?_;conv=>cbv
 refine AB f (DX (x:=2) (y:=0) (by decide) (by decide) N O) ?_;conv=>cbv
 refine AB f (DX (x:=1) (y:=1) (by decide) (by decide) o s) ?_;conv=>cbv
 refine AB f (DX (x:=2) (y:=2) (by decide) (by decide) t u) ?_;conv=>cbv
 refine AB f (DX (x:=1) (y:=0) (by decide) (by decide) c d) ?_;conv=>cbv
 refine AB f (DX (x:=0) (y:=2) (by decide) (by decide) P Q) ?_;conv=>cbv
 refine⟨[((([]:List LR),v),(([]:List LR),z)),((([]:List LR),I),(([]:List LR),J)),((([]:List LR),C),(([]:List LR),D)),((([]:List LR),G),(([]:List LR),H)),((([]:List LR),A),(([]:List LR),B)),((([]:List LR),K),(([]:List LR),L))],fun _=>⟨rfl,by decide,rfl,⟨rfl,by first | exact t1 | exact t2 | exact t4 | simp[Aj,Ar,cells],⟨rfl,by first | exact t1 | exact t2 | exact t4 | simp[Aj,Ar,cells],⟨rfl,by first | exact t1 | exact t2 | exact t4 | simp[Aj,Ar,cells],⟨rfl,by first | exact t1 | exact t2 | exact t4 | simp[Aj,Ar,cells],⟨rfl,by first | exact t1 | exact t2 | exact t4 | simp[Aj,Ar,cells],⟨rfl,by first | exact t1 | exact t2 | exact t4 | simp[Aj,Ar,cells],trivial⟩⟩⟩⟩⟩⟩⟩,.inr ?_⟩;try conv=>cbv
 refine AB (r:= .AI [(false,[.sl .i64 [(0:Int),(1:Int),(3:Int),(5:Int)]]),(false,[.int .i64 0])]) f (bV F hQ Z0 (by simp)) ?_;conv=>cbv
 refine Bu ?_;conv=>cbv
 refine Bu ?_;conv=>cbv
 refine Bu ?_;conv=>cbv
 refine Bu ?_;conv=>cbv
 refine Bu ?_;conv=>cbv
 refine Bu ?_;conv=>cbv
 refine Bu ?_;conv=>cbv
 refine Bu ?_;conv=>cbv
 refine Bu ?_;conv=>cbv
 refine⟨[(0:Int),(1:Int),(3:Int),(5:Int)],fun _=>⟨rfl,by decide,rfl,⟨rfl,t1,⟨rfl,t1,⟨rfl,t1,⟨rfl,t1,trivial⟩⟩⟩⟩⟩,.inr ?_⟩;try conv=>cbv
 refine AB f dG ?_;conv=>cbv
 exact AD ⟨t2,trivial⟩
end Go.Abs
