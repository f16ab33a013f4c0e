/- Part 26 of a proof. Conditions: each theorem's own. -/
import Derived.Test.YtclgfoceefhnkaaGreatDoorLn24
set_option linter.all false
set_option maxHeartbeats 80000000
set_option maxRecDepth 20000
open Go.Proofs
namespace Go.Abs
section
open Go.RowKit
structure Vm (TT:List (List Rat)->Prop) (w:List (List Rat)) (b k k':Nat) (T1:List LR) (A1:LR) (T2:List LR) (A2:LR) (x y:Re):Prop where
 x:Nm TT w b k T1 A1 x
 y:Nm TT w b k' T2 A2 y
section
variable {TT:List (List Rat)->Prop} {w:List (List Rat)} {R b c M q p k k' l l':Nat} {T1 T2:List LR} {A1 A2:LR} {x y x' y':Re}
theorem Vm.mono (h:Vm TT w b k k' T1 A1 T2 A2 x y) (g:k<=l) (f:k'<=l'):Vm TT w b l l' T1 A1 T2 A2 x y:=⟨h.x.mono g,h.y.mono f⟩
theorem Vm.cast (h:Vm TT w b k k' T1 A1 T2 A2 x y) (e:x=x') (f:y=y'):Vm TT w b k k' T1 A1 T2 A2 x' y':=e ▸ f ▸ h
theorem GC (F:Fm TT w R b c M q p) (f:c<=M) {r:Rat} (h:Bd b [r]):Nm TT w b 1 [] (em [] (Re.ofRat r)) (Re.ofRat r):=by
 have G:=F.g f (Nat.le_refl c);exact⟨[],G.nil,rfl,rfl,HN r [],by rw[Nat.one_mul];exact El.rat (G.BG F.top).red h⟩
theorem FP {r:Rat} (h:Cp r) (hb:64<=b:=by omega):Bd b [r]:=(MO (a:=[r]) (fun z f=>by rw[List.mem_singleton.1 f];exact h)).mono hb
end
theorem RF {g:FuncId} {T1 T2 T3 T4 T5 T6:List LR} {A1 A2 A3 A4 A5 A6:LR} (h:CF g [.agg (AJ T1 A1),.agg (AJ T3 A3)] (.AI [(true,(AJ T5 A5)),(false,[.int .i64 0])])) (i:CF g [.agg (AJ T2 A2),.agg (AJ T4 A4)] (.AI [(true,(AJ T6 A6)),(false,[.int .i64 0])])):CF 281 [.agg (AH T1 A1 T2 A2),.agg (AH T3 A3 T4 A4),.one (.fn g)] (.AI [(true,(AH T5 A5 T6 A6)),(false,[.int .i64 0])]):=by
 refine AG Tryz.func281 fun E f=>?_
 refine AB f h ?_;refine BH ?_;refine AB f i ?_;refine BH ?_;exact AE ⟨⟨rfl,rfl,rfl,rfl,rfl,trivial⟩,t2,trivial⟩
theorem pj {TT:List (List Rat)->Prop} {w:List (List Rat)} {R b c M q p k k' l l':Nat} (F:Fm TT w R b c M q p) {T1 T2 T3 T4:List LR} {A1 A2 A3 A4:LR} {x1 y1 x2 y2:Re} (h:Vm TT w b k k' T1 A1 T2 A2 x1 y1) (i:Vm TT w b l l' T3 A3 T4 A4 x2 y2) (H:k+c+1<=M:=by omega) (D:k'+c+1<=M:=by omega) (I:l+c+1<=M:=by omega) (G:l'+c+1<=M:=by omega):∃T A g f,Vm TT w b (k+l+1) (k'+l'+1) T A g f (x1-x2) (y1-y2)/\CF 218 [.agg (AH T1 A1 T2 A2),.agg (AH T3 A3 T4 A4)] (.AI [(true,(AH T A g f)),(false,[.int .i64 0])]):=by
 obtain⟨T5,A5,v,j,_⟩:=Ia F h.x i.x;obtain⟨T6,A6,B,o,_⟩:=Ia F h.y i.y;refine⟨T5,A5,T6,A6,⟨v,B⟩,?_⟩;refine AG Tryz.func218 fun E C=>?_
 refine AB C (RF j o) ?_;exact AE ⟨⟨rfl,rfl,rfl,rfl,rfl,trivial⟩,t2,trivial⟩
theorem pg {TT:List (List Rat)->Prop} {w:List (List Rat)} {R b c M q p k k' j:Nat} (F:Fm TT w R b c M q p) {T1 T2 T3:List LR} {A1 A2 A3:LR} {x1 y1 n:Re} (i:Vm TT w b k k' T1 A1 T2 A2 x1 y1) (h:Nm TT w b j T3 A3 n) (H:k+c+1<=M:=by omega) (G:k'+c+1<=M:=by omega) (I:j+c+1<=M:=by omega):∃T A g f,Vm TT w b (k+j+1) (k'+j+1) T A g f (x1*n) (y1*n)/\CF 219 [.agg (AH T1 A1 T2 A2),.agg (AJ T3 A3)] (.AI [(true,(AH T A g f)),(false,[.int .i64 0])]):=by
 obtain⟨T5,A5,B,o,_⟩:=Eu F i.x h;obtain⟨T6,A6,C,v,_⟩:=Eu F i.y h;refine⟨T5,A5,T6,A6,⟨B,C⟩,?_⟩;refine AG Tryz.func219 fun E D=>?_
 refine AB D (RF o v) ?_;exact AE ⟨⟨rfl,rfl,rfl,rfl,rfl,trivial⟩,t2,trivial⟩
theorem ba {TT:List (List Rat)->Prop} {w:List (List Rat)} {R b c M q p k k' l l':Nat} (F:Fm TT w R b c M q p) {T1 T2 T3 T4:List LR} {A1 A2 A3 A4:LR} {x1 y1 x2 y2:Re} (g:Vm TT w b k k' T1 A1 T2 A2 x1 y1) (h:Vm TT w b l l' T3 A3 T4 A4 x2 y2) (G:k+l+c+2<=M:=by omega) (D:k'+l'+c+2<=M:=by omega):∃T A,Nm TT w b (k+k'+l+l'+3) T A (x1*x2+y1*y2)/\CF 280 [.agg (AH T1 A1 T2 A2),.agg (AH T3 A3 T4 A4)] (.AI [(true,(AJ T A)),(false,[.int .i64 0])]):=by
 obtain⟨T5,A5,v,i,_⟩:=Eu F g.x h.x;obtain⟨T6,A6,B,j,_⟩:=Eu F g.y h.y;obtain⟨T7,A7,C,o,_⟩:=HS F v B;refine⟨T7,A7,C.mono (by omega),?_⟩;refine AG Tryz.func280 fun E f=>?_
 refine AB f (RF i j) ?_;refine BH ?_;refine AB f o ?_;exact AE ⟨t3,t2,trivial⟩
theorem ph {TT:List (List Rat)->Prop} {w:List (List Rat)} {R b c M q p k k':Nat} (F:Fm TT w R b c M q p) {T1 T2:List LR} {A1 A2:LR} {x1 y1:Re} (f:Vm TT w b k k' T1 A1 T2 A2 x1 y1) (o:2*k+c+2<=M:=by omega) (j:2*k'+c+2<=M:=by omega):∃T A,Nm TT w b (2*k+2*k'+3) T A (x1*x1+y1*y1)/\CF 251 [.agg (AH T1 A1 T2 A2)] (.AI [(true,(AJ T A)),(false,[.int .i64 0])]):=by
 obtain⟨T7,A7,h,g⟩:=ba F f f;refine⟨T7,A7,h.mono (by omega),?_⟩;refine AG Tryz.func251 fun E i=>?_
 refine AB i g ?_;exact AE ⟨t3,t2,trivial⟩
theorem bc {TT:List (List Rat)->Prop} {w:List (List Rat)} {R b c M q p k k' l l':Nat} (F:Fm TT w R b c M q p) {T1 T2 T3 T4:List LR} {A1 A2 A3 A4:LR} {x1 y1 x2 y2:Re} (o:Vm TT w b k k' T1 A1 T2 A2 x1 y1) (v:Vm TT w b l l' T3 A3 T4 A4 x2 y2) (H:2*k+4*c+3<=M) (D:2*k'+4*c+3<=M) (I:2*l+4*c+3<=M) (G:2*l'+4*c+3<=M) {e:Bool} (he:e=true↔x1=x2/\y1=y2):CF 122 [.agg (AH T1 A1 T2 A2),.agg (AH T3 A3 T4 A4)] (.one (.bool e)):=by
 obtain⟨C,g,A,_⟩:=Pd F o.x v.x;obtain⟨B,f,i,_⟩:=Pd F o.y v.y;refine AG Tryz.func122 fun E j=>?_
 refine AB j A ?_;cases C <;> conv=>cbv
 ·exact AF (by cases e with | false=>rfl | true=>exact absurd (g.2 (he.1 rfl).1) (by simp))
 refine AB j i ?_;exact AF (by rw[Bool.eq_iff_iff,f,he];exact⟨fun h=>h.2,fun h=>⟨g.1 rfl,h⟩⟩)
theorem FK {TT:List (List Rat)->Prop} {w:List (List Rat)} {R b c M q p k k' l l':Nat} (F:Fm TT w R b c M q p) {T1 T2 T3 T4:List LR} {A1 A2 A3 A4:LR} {x1 y1 x2 y2:Re} (o:Vm TT w b k k' T1 A1 T2 A2 x1 y1) (v:Vm TT w b l l' T3 A3 T4 A4 x2 y2) (H:2*k+4*c+3<=M) (D:2*k'+4*c+3<=M) (I:2*l+4*c+3<=M) (G:2*l'+4*c+3<=M) {e:Bool} (he:e=true↔x1=x2/\y1=y2):CF 19 [.agg (AH T1 A1 T2 A2),.agg (AH T3 A3 T4 A4)] (.one (.bool e)):=by
 obtain⟨C,g,_,A⟩:=Pd F o.x v.x;obtain⟨B,f,_,i⟩:=Pd F o.y v.y;refine AG Tryz.func19 fun E j=>?_
 refine AB j A ?_;cases C <;> conv=>cbv
 ·exact AF (by cases e with | false=>rfl | true=>exact absurd (g.2 (he.1 rfl).1) (by simp))
 refine AB j i ?_;exact AF (by rw[Bool.eq_iff_iff,f,he];exact⟨fun h=>h.2,fun h=>⟨g.1 rfl,h⟩⟩)
theorem QR {TT:List (List Rat)->Prop} {w:List (List Rat)} {R b c M q p k k':Nat} (F:Fm TT w R b c M q p) {T1 T2:List LR} {A1 A2:LR} {x1 y1:Re} (A:Vm TT w b k k' T1 A1 T2 A2 x1 y1) (H:k+c+1<=M) (C:k'+c+1<=M) {e:Bool} (he:e=true↔x1=0/\y1=0):CF 207 [.agg (AH T1 A1 T2 A2)] (.one (.bool e)):=by
 obtain⟨I,g,_,B⟩:=GH F A.x;obtain⟨G,f,_,i⟩:=GH F A.y;refine AG Tryz.func207 fun E v=>?_
 refine AB v B ?_;refine CH (fun o=>?_) fun o=>?_
 ·exact AF (by cases e with | false=>rfl | true=>exact absurd (by rw[g];exact Gh.2 (he.1 rfl).1) o)
 refine AB v i ?_;intro D j;exact AF (by rw[Bool.eq_iff_iff,j,beq_iff_eq,f,Gh,he];exact⟨fun h=>h.2,fun h=>⟨Gh.1 (g.symm.trans o),h⟩⟩)
theorem qH {i j:Rat} {b1 c1 b2 c2:Bool} {l1 m1 l2 m2:List UInt32} (o:BY i b1 l1 c1 m1) (v:BY j b2 l2 c2 m2) {A1 A2:LR} (f:A1=em [] (Re.ofRat i)) (g:A2=em [] (Re.ofRat j)):CF 101 [.agg (Bw b1 l1 c1 m1),.agg (Bw b2 l2 c2 m2)] (.agg (AH [] A1 [] A2)):=by
 refine AG Tryz.func101 fun E h=>?_
 refine AB h (Kc o f) ?_;refine AB h (Kc v g) ?_;exact AE ⟨⟨rfl,rfl,rfl,rfl,rfl,trivial⟩,trivial⟩
theorem cO {x y:Int} {A1 A2:LR} (o: -9223372036854775808<=x/\x<9223372036854775808) (v: -9223372036854775808<=y/\y<9223372036854775808) (f:A1=em [] (Re.ofRat x)) (g:A2=em [] (Re.ofRat y)):CF 36 [.one (.int .i64 x),.one (.int .i64 y)] (.agg (AH [] A1 [] A2)):=by
 refine AG Tryz.func36 fun E h=>?_
 obtain⟨b1,l1,c1,m1,i⟩:=CA (x:Rat);refine AB h (EN o rfl i) ?_;obtain⟨b2,l2,c2,m2,j⟩:=CA (y:Rat);refine AB h (EN v rfl j) ?_;refine AB h (qH i j f g) ?_;exact AE ⟨⟨rfl,rfl,rfl,rfl,rfl,trivial⟩,trivial⟩
theorem cP:CF 184 [.one (.int .i64 0),.one (.int .i64 0)] (.one (.int .i64 0)):=by
 refine AG Tryz.func184 fun E f=>?_
 refine BH ?_;exact AE ⟨t2,trivial⟩
theorem cR {T1 T2:List LR} {A1 A2:LR}:CF 186 [.agg (AJ T1 A1),.agg (AJ T2 A2),.one (.int .i64 0)] (.AI [(true,(AH T1 A1 T2 A2)),(false,[.int .i64 0])]):=by
 refine AG Tryz.func186 fun E f=>?_
 refine BH ?_;exact AE ⟨⟨rfl,rfl,rfl,rfl,rfl,trivial⟩,t2,trivial⟩
theorem Nl {TT:List (List Rat)->Prop} {w:List (List Rat)} {R b c M q p k k' l l':Nat} (F:Fm TT w R b c M q p) {T1 T2 T3 T4:List LR} {A1 A2 A3 A4:LR} {x1 y1 x2 y2:Re} (i:Vm TT w b k k' T1 A1 T2 A2 x1 y1) (j:Vm TT w b l l' T3 A3 T4 A4 x2 y2) (H:k+c+1<=M:=by omega) (D:k'+c+1<=M:=by omega) (I:l+c+1<=M:=by omega) (G:l'+c+1<=M:=by omega):∃T A h g,Vm TT w b (k+l+1) (k'+l'+1) T A h g (x1+x2) (y1+y2)/\CF 83 [.agg (AH T1 A1 T2 A2),.agg (AH T3 A3 T4 A4)] (.AI [(true,(AH T A h g)),(false,[.int .i64 0])]):=by
 obtain⟨T5,A5,B,_,o⟩:=HS F i.x j.x;obtain⟨T6,A6,C,_,v⟩:=HS F i.y j.y;refine⟨T5,A5,T6,A6,⟨B,C⟩,?_⟩;refine AG Tryz.func83 fun E f=>?_
 refine AB f o ?_;refine AB f v ?_;refine AB f cP ?_;refine AB f cR ?_;exact AE ⟨⟨rfl,rfl,rfl,rfl,rfl,trivial⟩,t2,trivial⟩
theorem QO {TT:List (List Rat)->Prop} {w:List (List Rat)} {R b c M q p k k' j:Nat} (F:Fm TT w R b c M q p) {T1 T2 T3:List LR} {A1 A2 A3:LR} {x1 y1 n:Re} (o:Vm TT w b k k' T1 A1 T2 A2 x1 y1) (i:Nm TT w b j T3 A3 n) (H:k+c+1<=M:=by omega) (G:k'+c+1<=M:=by omega) (I:j+c+1<=M:=by omega):∃T A h g,Vm TT w b (k+j+1) (k'+j+1) T A h g (x1*n) (y1*n)/\CF 82 [.agg (AH T1 A1 T2 A2),.agg (AJ T3 A3)] (.AI [(true,(AH T A h g)),(false,[.int .i64 0])]):=by
 obtain⟨T5,A5,C,_,v⟩:=Eu F o.x i;obtain⟨T6,A6,D,_,B⟩:=Eu F o.y i;refine⟨T5,A5,T6,A6,⟨C,D⟩,?_⟩;refine AG Tryz.func82 fun E f=>?_
 refine AB f v ?_;refine AB f B ?_;refine AB f cP ?_;refine AB f cR ?_;exact AE ⟨⟨rfl,rfl,rfl,rfl,rfl,trivial⟩,t2,trivial⟩
theorem cU {TT:List (List Rat)->Prop} {w:List (List Rat)} {R b c M q p k k':Nat} (F:Fm TT w R b c M q p) {T1 T2:List LR} {A1 A2:LR} {x1 y1:Re} (i:Vm TT w b k k' T1 A1 T2 A2 x1 y1) (C:k+c+1<=M:=by omega) (f:k'+c+1<=M:=by omega):∃A g,Vm TT w b k k' T1 A T2 g (-x1) (-y1)/\CF 113 [.agg (AH T1 A1 T2 A2)] (.agg (AH T1 A T2 g)):=by
 obtain⟨A5,v,_,j⟩:=KB F i.x C;obtain⟨A6,B,_,o⟩:=KB F i.y f;refine⟨A5,A6,⟨v,B⟩,?_⟩;refine AG Tryz.func113 fun E h=>?_
 refine AB h j ?_;refine AB h o ?_;exact AE ⟨⟨rfl,rfl,rfl,rfl,rfl,trivial⟩,trivial⟩
theorem Ja {TT:List (List Rat)->Prop} {w:List (List Rat)} {R b c M q p k k' l l':Nat} (F:Fm TT w R b c M q p) {T1 T2 T3 T4:List LR} {A1 A2 A3 A4:LR} {x1 y1 x2 y2:Re} (D:Vm TT w b k k' T1 A1 T2 A2 x1 y1) (G:Vm TT w b l l' T3 A3 T4 A4 x2 y2) (H:k+c+1<=M:=by omega) (B:k'+c+1<=M:=by omega) (I:l+c+1<=M:=by omega) (C:l'+c+1<=M:=by omega):∃T A g f,Vm TT w b (k+l+1) (k'+l'+1) T A g f (x1+ -x2) (y1+ -y2)/\CF 78 [.agg (AH T1 A1 T2 A2),.agg (AH T3 A3 T4 A4)] (.AI [(true,(AH T A g f)),(false,[.int .i64 0])]):=by
 obtain⟨A7,A8,v,j⟩:=cU F G;obtain⟨T5,A5,T6,A6,o,i⟩:=Nl F D v;refine⟨T5,A5,T6,A6,o,?_⟩;refine AG Tryz.func78 fun E h=>?_
 refine AB h j ?_;refine AB h i ?_;exact AE ⟨⟨rfl,rfl,rfl,rfl,rfl,trivial⟩,t2,trivial⟩
theorem Nn {TT:List (List Rat)->Prop} {w:List (List Rat)} {R b c M q p k k':Nat} (F:Fm TT w R b c M q p) {T1 T2:List LR} {A1 A2:LR} {x1 y1:Re} (g:Vm TT w b k k' T1 A1 T2 A2 x1 y1) (o:k+c+1<=M:=by omega) (f:k'+c+1<=M:=by omega):∃A,Vm TT w b k' k T2 A T1 A1 (-y1) x1/\CF 118 [.agg (AH T1 A1 T2 A2)] (.agg (AH T2 A T1 A1)):=by
 obtain⟨A5,i,_,h⟩:=KB F g.y f;refine⟨A5,⟨i,g.x⟩,?_⟩;refine AG Tryz.func118 fun E j=>?_
 refine AB j h ?_;exact AE ⟨⟨rfl,rfl,rfl,rfl,rfl,trivial⟩,trivial⟩
theorem qb {TT:List (List Rat)->Prop} {w:List (List Rat)} {R b c M q p k k' l l':Nat} (F:Fm TT w R b c M q p) {T1 T2 T3 T4:List LR} {A1 A2 A3 A4:LR} {x1 y1 x2 y2:Re} (g:Vm TT w b k k' T1 A1 T2 A2 x1 y1) (h:Vm TT w b l l' T3 A3 T4 A4 x2 y2) (G:k+l+c+2<=M:=by omega) (D:k'+l'+c+2<=M:=by omega):∃T A,Nm TT w b (k+k'+l+l'+3) T A (x1*x2+y1*y2)/\CF 79 [.agg (AH T1 A1 T2 A2),.agg (AH T3 A3 T4 A4)] (.AI [(true,(AJ T A)),(false,[.int .i64 0])]):=by
 obtain⟨T5,A5,v,_,i⟩:=Eu F g.x h.x;obtain⟨T6,A6,B,_,j⟩:=Eu F g.y h.y;obtain⟨T7,A7,C,_,o⟩:=HS F v B;refine⟨T7,A7,C.mono (by omega),?_⟩;refine AG Tryz.func79 fun E f=>?_
 refine AB f i ?_;refine AB f j ?_;refine BH ?_;refine BH ?_;refine AB f o ?_;exact AE ⟨t3,t2,trivial⟩
theorem QP {TT:List (List Rat)->Prop} {w:List (List Rat)} {R b c M q p k k':Nat} (F:Fm TT w R b c M q p) {T1 T2:List LR} {A1 A2:LR} {x1 y1:Re} (f:Vm TT w b k k' T1 A1 T2 A2 x1 y1) (o:2*k+c+2<=M:=by omega) (j:2*k'+c+2<=M:=by omega):∃T A,Nm TT w b (2*k+2*k'+3) T A (x1*x1+y1*y1)/\CF 80 [.agg (AH T1 A1 T2 A2)] (.AI [(true,(AJ T A)),(false,[.int .i64 0])]):=by
 obtain⟨T7,A7,h,g⟩:=qb F f f;refine⟨T7,A7,h.mono (by omega),?_⟩;refine AG Tryz.func80 fun E i=>?_
 refine AB i g ?_;exact AE ⟨t3,t2,trivial⟩
theorem cS {TT:List (List Rat)->Prop} {w:List (List Rat)} {R b c M q p k k' l l':Nat} (F:Fm TT w R b c M q p) {T1 T2 T3 T4:List LR} {A1 A2 A3 A4:LR} {x1 y1 x2 y2:Re} (H:Vm TT w b k k' T1 A1 T2 A2 x1 y1) (I:Vm TT w b l l' T3 A3 T4 A4 x2 y2) (N:k+l+c+2<=M) (G:k'+l'+c+2<=M):∃T A i h,Vm TT w b (k+l+3) (k'+l'+3) T A i h ((x1+x2)*Re.ofRat (1/2)) ((y1+y2)*Re.ofRat (1/2))/\CF 54 [.agg (AH T1 A1 T2 A2),.agg (AH T3 A3 T4 A4)] (.AI [(true,(AH T A i h)),(false,[.int .i64 0])]):=by
 obtain⟨J,fl,K,L,hf⟩:=CA (1/2:Rat);have D:(1/2:Rat)=Rat.divInt 1 2:=by decide +kernel
 obtain⟨A7,f⟩:=C8 (em [] (Re.ofRat (1/2)));have B:Nm TT w b 1 [] A7 (Re.ofRat (1/2)):=f ▸ GC F (by omega) (FP (by decide +kernel) F.hb);obtain⟨T8,A8,T9,A9,C,o⟩:=Nl F H I;obtain⟨T5,A5,T6,A6,v,j⟩:=QO F C B;refine⟨T5,A5,T6,A6,v.mono (by omega) (by omega),?_⟩;refine AG Tryz.func54 fun E g=>?_
 refine AB g o ?_;refine BH ?_;refine AB g (N5 (by decide) (by decide) (by decide) D f) ?_;refine AB g j ?_;exact AE ⟨⟨rfl,rfl,rfl,rfl,rfl,trivial⟩,t2,trivial⟩
end
section
structure Ml (w:List (List Rat)) (E:Nat):Prop where
 dn:∃K:Nat,0<K/\K<=2^E/\∀{x y:Re} {D D':Nat},In w x->In w y->DN D (co w x)->DN D' (co w y)->DN (D*D'*K) (co w (x*y))
 mx:∀{x y:Re} {B C:Nat},In w x->In w y->MX B (co w x)->MX C (co w y)->MX (B*C*2^E) (co w (x*y))
theorem Ml.of {w:List (List Rat)} {R:Nat} (hw:AU w) (f:TB R w):Ml w (EE w.length R):=⟨Ju hw f,Hs hw f⟩
section
variable {u:List (List Rat)} {r:List Rat} {E R s t:Nat} {x y:Re}
theorem Ml.mono {f:Nat} (M:Ml u E) (h:E<=f):Ml u f:=by
 obtain⟨K,g,i,hm⟩:=M.dn;exact⟨⟨K,g,Nat.le_trans i (Cb h),hm⟩,fun j o a b=>(M.mx j o a b).mono (Nat.mul_le_mul_left _ (Cb h))⟩
theorem Ml.bd (M:Ml u E) (g:In u x) (h:In u y) (a:Bd s (co u x)) (b:Bd t (co u y)):Bd (s+t+E) (co u (x*y)):=by
 obtain⟨D,j,o,v,h3⟩:=a;obtain⟨i,k0,k1,k2,B⟩:=b;obtain⟨K,A,f,hm⟩:=M.dn;refine⟨D*i*K,Nat.mul_pos (Nat.mul_pos j k0) A,?_,hm g h v k2,?_⟩
 ·have:=Nat.mul_le_mul (Nat.mul_le_mul o k1) f;rwa [<-Nat.pow_add,<-Nat.pow_add] at this
 have:=M.mx g h h3 B;rwa [<-Nat.pow_add,<-Nat.pow_add] at this
theorem Ml.cons (h:AU (r::u)) (M:Ml u E) (O:Bd R r):Ml (r::u) (2*E+R+2):=by
 obtain⟨K,U,F,hm⟩:=M.dn;obtain⟨A,X,J,I,L⟩:=O;refine⟨⟨K*K*A,Nat.mul_pos (Nat.mul_pos U U) X,?_,fun {x y D Y} Q T i j=>?_⟩,fun {x y B C} Q T o v=>?_⟩
 ·have H:K*K*A<=2^E*2^E*2^R:=Nat.mul_le_mul (Nat.mul_le_mul F F) J;rw[<-Nat.pow_add,<-Nat.pow_add] at H;exact Nat.le_trans H (Cb)
 ·obtain⟨a,b,ha,hb,rfl⟩:=Cd.1 Q;obtain⟨c,d,g,f,rfl⟩:=Cd.1 T;rw[DB h ha hb rfl,DN.app] at i;rw[DB h g f rfl,DN.app] at j;rw[Oc h ha hb g f rfl rfl,DN.app];have N:DN A (co u (AM u r)):=by rw[EP h];exact I
  refine⟨DN.FH h.1 (Ag h.1 ha g) (Ag h.1 (Ag h.1 hb f) (B9 h)) ((hm ha g i.1 j.1).dvd ⟨K*A,by grind⟩) ((hm (Ag h.1 hb f) (B9 h) (hm hb f i.2 j.2) N).dvd ⟨1,by grind⟩),
   DN.FH h.1 (Ag h.1 ha f) (Ag h.1 hb g) ((hm ha f i.1 j.2).dvd ⟨K*A,by grind⟩) ((hm hb g i.2 j.1).dvd ⟨K*A,by grind⟩)⟩
 have G:=fun {x y:Re} {B C:Nat}=>M.mx (x:=x) (y:=y) (B:=B) (C:=C)
 obtain⟨a,b,ha,hb,rfl⟩:=Cd.1 Q;obtain⟨c,d,g,f,rfl⟩:=Cd.1 T;rw[DB h ha hb rfl,MX.app] at o;rw[DB h g f rfl,MX.app] at v;rw[Oc h ha hb g f rfl rfl,MX.app];have N:MX (2^R) (co u (AM u r)):=by rw[EP h];exact L
 have e:2*E+R+2=E+E+R+2:=by omega
 rw[e,Nat.pow_add,Nat.pow_add,Nat.pow_add];have H:=DI E;have W:=DI R
 generalize 2^E=K at*
 generalize 2^R=S at*
 have k1:B*C*K<=B*C*(K*K*S):=Nat.mul_le_mul_left _ (by
  have:K*1<=K*(K*S):=Nat.mul_le_mul_left _ (Nat.mul_pos H W);rw[Nat.mul_assoc];omega)
 have k2:B*C*K*S*K=B*C*(K*K*S):=by grind
 refine⟨(MX.FH h.1 (Ag h.1 ha g) (Ag h.1 (Ag h.1 hb f) (B9 h)) (G ha g o.1 v.1) (G (Ag h.1 hb f) (B9 h) (G hb f o.2 v.2) N)).mono ?_,
  (MX.FH h.1 (Ag h.1 ha f) (Ag h.1 hb g) (G ha f o.1 v.2) (G hb g o.2 v.1)).mono ?_⟩
 ·rw[k2];grind
 grind
theorem Ml.inv {P:Nat->Nat} (h:AU (r::u)) (M:Ml u E) (S:Bd R r) (hI:∀{x y:Re} {s:Nat},In u x->In u y->x*y=1->Bd s (co u x)->Bd (P s) (co u y)) (hx:In (r::u) x) (e:x*y=1) (hb:Bd s (co (r::u) x)):Bd (s+E+P (2*s+2*E+R+1)) (co (r::u) y):=by
 obtain⟨p,q,g,f,rfl⟩:=Cd.1 hx;have hr:=Cu h;obtain⟨D,J,L,Y,h3⟩:=hb;rw[DB h g f rfl] at Y h3;obtain⟨G,H⟩:=DN.app.1 Y;obtain⟨mp,X⟩:=MX.app.1 h3;obtain⟨K,N,v,hm⟩:=M.dn;obtain⟨F,k0,k1,k2,k3⟩:=S;have T:DN F (co u (AM u r)):=by rw[EP h];exact k2
 have Q:MX (2^R) (co u (AM u r)):=by rw[EP h];exact k3
 have hN:Bd (2*s+2*E+R+1) (co u (p*p-q*q*AM u r)):=by
  refine⟨D*D*K*F*K,Nat.mul_pos (Nat.mul_pos (Nat.mul_pos (Nat.mul_pos J J) N) k0) N,?_,DN.Iq h.1 (Ag h.1 g g) (Ag h.1 (Ag h.1 f f) (B9 h)) ((hm g g G G).dvd ⟨F*K,by grind⟩) (hm (Ag h.1 f f) (B9 h) (hm f f H H) T),
   (MX.Iq h.1 (Ag h.1 g g) (Ag h.1 (Ag h.1 f f) (B9 h)) (M.mx g g mp mp) (M.mx (Ag h.1 f f) (B9 h) (M.mx f f X X) Q)).mono ?_⟩
  ·have:=Nat.mul_le_mul (Nat.mul_le_mul (Nat.mul_le_mul (Nat.mul_le_mul L L) v) k1) v;rw[<-Nat.pow_add,<-Nat.pow_add,<-Nat.pow_add,<-Nat.pow_add] at this;exact Nat.le_trans this (Cb)
  rw[<-Nat.pow_add,<-Nat.pow_add,<-Nat.pow_add,<-Nat.pow_add,Nat.pow_succ];have e1:2^(s+s+E)<=2^(2*s+2*E+R):=Cb;have I:2^(s+s+E+R+E)<=2^(2*s+2*E+R):=Cb;omega
 have j:=E5 (Ag h.1 g g) (Ag h.1 (Ag h.1 f f) (B9 h));have a1:(0:Re)<1:=Re.HT.2 (show (0:Rat)<1 by decide)
 have O:p*p-q*q*AM u r≠0:=by
  intro e0;have e1:(p+q*rt u r)*(p-q*rt u r)=0:=by grind
  rcases Re.F3 e1 with I | I
  ·rw[I] at e;grind
  obtain⟨e3,e4⟩:=indep h g (F5 f) (CN u) (CN u) (show p+ -q*rt u r=0+0*rt u r by grind);have:p+q*rt u r=0:=by grind
  rw[this] at e;grind
 obtain⟨i,o,A⟩:=Dv h.1 j O;obtain⟨Z,U,W,B,C⟩:=hI j o A hN
 have ey:y=p*i+ -(q*i)*rt u r:=by
  have:y=(p+q*rt u r)*y*((p-q*rt u r)*i):=by
   have:(p+q*rt u r)*y*((p-q*rt u r)*i)=y*((p*p-q*q*AM u r)*i):=by grind
   rw[this,A];grind
  rw[e] at this
  grind
 rw[ey,DB h (Ag h.1 g o) (F5 (Ag h.1 f o)) rfl,Kp h.1 (Ag h.1 f o)];have m1:=M.mx g o mp C;have m2:=M.mx f o X C;rw[<-Nat.pow_add,<-Nat.pow_add] at m1 m2;refine⟨D*Z*K,Nat.mul_pos (Nat.mul_pos J U) N,?_,DN.app.2 ⟨hm g o G B,(hm f o H B).neg⟩,MX.app.2 ⟨m1.mono (Cb),(m2.mono (Cb)).neg⟩⟩;have:=Nat.mul_le_mul (Nat.mul_le_mul L W) v;rw[<-Nat.pow_add,<-Nat.pow_add] at this;exact Nat.le_trans this (Cb)
end
end
section
variable {E:Nat} {u w:List (List Rat)} {x:Re}
theorem XK (hu:AU u) (hw:AU w) (h:BT u w):∀{v:List (List Rat)},AU v->BT v w->BT (ext u v) w
 | [],_,_=>h
 | r::v,f,g=>by
  have j:=XK hu hw h f.1 g.tail;rw[ext]
  by_cases i:Sq (ext u v) (AM v r)
  ·rw[Df i];exact j
  rw[DG i];refine I6 hw j ?_;rw[Ik ((Ii hu f.1).2 _ (B9 f))];exact g.root
theorem Wb:∀(v:List (List Rat)) {u:List (List Rat)} {x:Re},AU (v++u)->In u x->cf (v++u) x 0=cf u x 0
 | [],_,_,_,_=>rfl
 | r::v,u,x,h,f=>by
  rw[List.cons_append,GS (u:=v++u) h (Mk v _ f) (CN _) (by grind) (DI _)];exact Wb v h.1 f
theorem Wa (h:AU u):cf u 1 0=1:=by
 rw[cf,show (1:Re)=Re.ofRat 1 from rfl,Hj 1 h];rfl
theorem MS (hu:AU u) (hw:AU w) (h:BT u w) (j:In u x):cf u x 0=cf w x 0:=by
 obtain⟨ht,i⟩:=Ii hu hw;have f:=XK hu hw h hw (BT.refl w);have o:=Oy u w;have g:=Mm o;obtain⟨v,e⟩:=o;have k1:=bM ht hw f i (J3 _);rw[Nb ht (J3 _),Nb hw (J3 _),Wa ht,Wa hw] at k1;have k2:=bM ht hw f i (g _ j);rw[Nb ht (g _ j),Nb hw (h _ j)] at k2
 have B:((2^w.length:Nat):Rat)≠0:=fun e=>by
  have:=Rat.natCast_inj.1 (e.trans (show (0:Rat)=((0:Nat):Rat) from rfl));have:=DI w.length;omega
 have A:cf (ext u w) x 0=cf w x 0:=by grind
 rw[<-A,<-e];exact (Wb v (e ▸ ht) j).symm
def Rb (w:List (List Rat)):List (List Rat)->Nat->Prop
 | [],k=>k=0
 | r::u,k=>∃k1 k2,k=k1+k2/\Rb w u k1/\∃y,y*rt u r=1/\Bd k2 (co w y)
theorem Zc (hw:AU w) (M:Ml w E):∀{u:List (List Rat)} {k:Nat},AU u->BT u w->Rb w u k->∃Y:Nat->Re,(∀i,In u (Y i))/\(∀{x:Re},In u x->∀i,i<2^u.length->cf u x i=cf w (x*Y i) 0)/\
  ∃D:Nat,0<D/\D<=2^(k+u.length*E)/\∀i,i<2^u.length->DN D (co w (Y i))/\MX (2^(k+u.length*E)) (co w (Y i))
 | [],k,hu,g,F=>by
  have F:k=0:=F;subst F;refine⟨fun _=>1,fun _=>J3 _,fun {x} G i A=>?_,1,by decide,by simp,fun i _=>?_⟩
  ·have:i=0:=by have A:i<1:=A;omega
   subst this;rw[show x*1=x by grind];exact MS hu hw g G
  have e:co w (1:Re)=1::List.replicate (2^w.length-1) 0:=Hj 1 hw
  have hm:∀q∈co w (1:Re),q=1\/q=0:=fun q f=>by
   rw[e] at f;rcases List.mem_cons.1 f with h | h
   ·exact .inl h
   exact .inr (List.eq_of_mem_replicate h)
  refine⟨fun q f=>?_,fun q f=>?_⟩
  ·rcases hm q f with rfl | rfl
   ·exact⟨1,by decide +kernel⟩
   exact⟨0,by decide +kernel⟩
  rcases hm q f with rfl | rfl
  ·simp only[List.length_nil,Nat.zero_mul,Nat.add_zero,Nat.pow_zero];exact⟨by decide +kernel,by decide +kernel⟩
  simp only[List.length_nil,Nat.zero_mul,Nat.add_zero,Nat.pow_zero];exact⟨by decide +kernel,by decide +kernel⟩
 | r::u,k,hu,g,F=>by
  obtain⟨k1,k2,rfl,J,y,W,O,d1,d2,d3,d4⟩:=F;obtain⟨Y,y1,y2,D,e1,Q,S⟩:=Zc hw M hu.1 g.tail J;obtain⟨K,X,Z,hK⟩:=M.dn;have hr:=Cu hu;have N:AM u r≠0:=by have:=hu.2.2.1;grind
  obtain⟨s,U,L⟩:=Dv hu.1 (B9 hu) N
  have T:y=s*rt u r:=by
   have:y=y*(AM u r*s):=by rw[L];grind
   rw[this,<-hr];have:y*(rt u r*rt u r*s)=(y*rt u r)*(s*rt u r):=by grind
   rw[this,W];grind
  have v:In (r::u) y:=by rw[T];exact Ag hu (E6 U) (IU u r)
  have H:=g _ v;have hlen:k1+k2+(r::u).length*E=(k1+u.length*E)+k2+E:=by rw[List.length_cons,Nat.succ_mul];omega
  refine⟨fun i=>if i<2^u.length then Y i else Y (i-2^u.length)*y,fun i=>?_,fun {x} G i A=>?_,D*O*K,Nat.mul_pos (Nat.mul_pos e1 d1) X,?_,fun i A=>?_⟩
  ·show In (r::u) (if _ then _ else _)
   split
   ·exact E6 (y1 i)
   exact Ag hu (E6 (y1 _)) v
  ·obtain⟨p,q,B,f,e⟩:=Cd.1 G
   show _=cf w (x*if _ then _ else _) 0
   split
   ·rename_i o
    rw[GS hu B f e o,y2 B i o,<-MS hu.1 hw g.tail (Ag hu.1 B (y1 i)),<-MS hu hw g (Ag hu G (E6 (y1 i)))];exact (GS hu (Ag hu.1 B (y1 i)) (Ag hu.1 f (y1 i)) (by rw[e];grind) (DI _)).symm
   rename_i I
   rw[B8] at A;obtain⟨j,rfl⟩:∃j,i=2^u.length+j:=⟨i-2^u.length,by omega⟩
   rw[Nat.add_sub_cancel_left,IJ hu B f e,y2 f j (by omega),<-MS hu.1 hw g.tail (Ag hu.1 f (y1 j)),<-MS hu hw g (Ag hu G (Ag hu (E6 (y1 j)) v))];refine (GS hu (Ag hu.1 f (y1 j)) (Ag hu.1 (Ag hu.1 B (y1 j)) U) ?_ (DI _)).symm;have:x*(Y j*y)=p*Y j*y+q*Y j*(y*rt u r):=by rw[e];grind
   rw[this,W,T];grind
  ·rw[hlen];simp only[Nat.pow_add] at Q ⊢;exact Nat.mul_le_mul (Nat.mul_le_mul Q d2) Z
  show DN _ (co w (if _ then _ else _))/\MX _ (co w (if _ then _ else _))
  split
  ·rename_i o
   obtain⟨f1,f2⟩:=S i o;refine⟨(f1.mul_right (O*K)).dvd ⟨1,by grind⟩,f2.mono ?_⟩;rw[hlen];exact Cb
  rename_i I
  rw[B8] at A;obtain⟨f1,f2⟩:=S (i-2^u.length) (by omega);have C:=g.tail _ (y1 (i-2^u.length));refine⟨hK C H f1 d3,?_⟩;have:=M.mx C H f2 d4;rw[hlen];simp only[Nat.pow_add] at this ⊢;exact this
theorem OP {k s:Nat} (hw:AU w) (M:Ml w E) (hu:AU u) (h:BT u w) (O:Rb w u k) (A:In u x) (Q:Bd s (co w x)):Bd (s+k+(u.length+1)*E) (co u x):=by
 obtain⟨Y,y1,y2,D,e1,B,C⟩:=Zc hw M hu h O;obtain⟨K,H,I,N⟩:=M.dn;obtain⟨G,d1,d2,d3,d4⟩:=Q;have f:=h _ A;have F:s+k+(u.length+1)*E=s+(k+u.length*E)+E:=by rw[Nat.succ_mul];omega
 have key:∀q∈co u x,∃i,i<2^u.length/\q∈co w (x*Y i):=fun q v=>by
  obtain⟨i,g,rfl⟩:=List.mem_iff_getElem.1 v;have j:i<2^u.length:=by rw[<-C0 A];exact g
  refine⟨i,j,?_⟩;have J:=y2 A i j;have S:=Ag hw f (h _ (y1 i));have o:0<(co w (x*Y i)).length:=by rw[C0 S];exact DI _
  have L:cf u x i=(co u x)[i]:=by rw[cf,List.getD_eq_getElem?_getD,List.getElem?_eq_getElem g];rfl
  have h3:cf w (x*Y i) 0=(co w (x*Y i))[0]:=by rw[cf,List.getD_eq_getElem?_getD,List.getElem?_eq_getElem o];rfl
  rw[<-L,J,h3];exact List.getElem_mem o
 refine⟨G*D*K,Nat.mul_pos (Nat.mul_pos d1 e1) H,?_,fun q v=>?_,fun q v=>?_⟩
 ·rw[F];simp only[Nat.pow_add] at B ⊢;exact Nat.mul_le_mul (Nat.mul_le_mul d2 B) I
 ·obtain⟨i,g,hm⟩:=key q v;exact N f (h _ (y1 i)) d3 (C i g).1 q hm
 obtain⟨i,g,hm⟩:=key q v;have:=M.mx f (h _ (y1 i)) d4 (C i g).2 q hm;rw[F];simp only[Nat.pow_add] at this ⊢;exact this
end
section
theorem Q6 {w:List (List Rat)} {E σ:Nat} (hw:AU w) (M:Ml w E):∀{u:List (List Rat)},AU u->BT u w->(∀v∈BB u,Bd σ (co w (Re.sqrt v)))->∃K:Nat,0<K/\K<=2^(u.length*(σ+E+1))/\
  ∀{x:Re} {D B:Nat},In u x->(DN D (co u x)->DN (D*K) (co w x))/\(MX B (co u x)->MX (B*2^(u.length*(σ+E+1))) (co w x))
 | [],_,_,_=>⟨1,by decide,by simp,fun {x D B} S=>by
  obtain⟨q,rfl⟩:=Ct.1 S;rw[Dg,Hj q hw,Nat.mul_one];refine⟨Ra,fun h=>?_⟩;rw[show B*2^(([]:List (List Rat)).length*(σ+E+1))=B by simp];exact SY h⟩
 | r::u,h,A,o=>by
  obtain⟨K,Y,Q,hb⟩:=Q6 hw M h.1 A.tail (fun v Z=>o v (List.mem_cons_of_mem _ Z));obtain⟨G,N,O,hm⟩:=M.dn;obtain⟨F,X,J,I,L⟩:=o (AM u r) List.mem_cons_self;have g:In w (rt u r):=A.root;have U:(r::u).length*(σ+E+1)=u.length*(σ+E+1)+(σ+E+1):=by rw[List.length_cons,Nat.succ_mul]
  refine⟨K*(F*G),Nat.mul_pos Y (Nat.mul_pos X N),?_,fun {x D B} S=>?_⟩
  ·have W:=Nat.mul_le_mul Q (Nat.mul_le_mul J O);simp only[<-Nat.pow_add] at W;exact Nat.le_trans W (Cb (by rw[U];omega))
  obtain⟨p,q,C,H,rfl⟩:=Cd.1 S;rw[DB h C H rfl,DN.app,MX.app];have j:=A.tail _ C;have f:=A.tail _ H;refine⟨fun i=>?_,fun i=>?_⟩
  ·have k1:=(hb (B:=0) C).1 i.1;have k2:=(hb (B:=0) H).1 i.2;have T:=hm f g k2 I;exact DN.FH hw j (Ag hw f g) (k1.dvd ⟨F*G,by grind⟩) (T.dvd ⟨1,by grind⟩)
  have k1:=(hb (D:=0) C).2 i.1;have k2:=(hb (D:=0) H).2 i.2;have T:=M.mx f g k2 L;refine (MX.FH hw j (Ag hw f g) k1 T).mono ?_
  have e:B*2^(u.length*(σ+E+1))*2^σ*2^E=B*2^(u.length*(σ+E+1)+σ+E):=by
   rw[Nat.mul_assoc,Nat.mul_assoc,<-Nat.pow_add,<-Nat.pow_add];congr 2;omega
  rw[e,<-Nat.mul_add];refine Nat.mul_le_mul_left B ?_;have h3:2^(u.length*(σ+E+1))<=2^(u.length*(σ+E+1)+σ+E):=Cb;rw[U,show u.length*(σ+E+1)+(σ+E+1)=u.length*(σ+E+1)+σ+E+1 by omega,Nat.pow_succ];omega
structure Wv (w:List (List Rat)) (σ κ ν:Nat) (v:Re):Prop where
 root:In w (Re.sqrt v)
 rb:Bd σ (co w (Re.sqrt v))
 inv:∃y,y*Re.sqrt v=1/\Bd κ (co w y)
 vb:Bd ν (co w v)
theorem Pq {w:List (List Rat)} {σ κ ν:Nat}:∀{u:List (List Rat)},(∀v∈BB u,Wv w σ κ ν v)->Rb w u (u.length*κ)
 | [],_=>by show _=0;simp
 | r::u,h=>by
  obtain⟨y,g,hb⟩:=(h (AM u r) List.mem_cons_self).inv;exact⟨u.length*κ,κ,by rw[List.length_cons,Nat.succ_mul],Pq (fun v f=>h v (List.mem_cons_of_mem _ f)),y,g,hb⟩
section
variable {w u:List (List Rat)} {E σ κ ν m:Nat}
theorem IM (hw:AU w):∀{u:List (List Rat)},AU u->(∀v∈BB u,In w (Re.sqrt v))->BT u w
 | [],_,_=>Kz w
 | r::u,h,f=>I6 hw (IM hw h.1 (fun v hm=>f v (List.mem_cons_of_mem _ hm))) (f (AM u r) List.mem_cons_self)
theorem UE (hw:AU w) (M:Ml w E):∀{u:List (List Rat)},AU u->u.length<=m+1->(∀v∈BB u,Wv w σ κ ν v)->TB (ν+m*κ+(m+1)*E) u
 | [],_,_,_=>fun r A=>by simp at A
 | r::u,h,o,i=>fun s g=>by
  rw[List.length_cons] at o;have f:∀v∈BB u,Wv w σ κ ν v:=fun v hm=>i v (List.mem_cons_of_mem _ hm)
  rcases List.mem_cons.1 g with rfl | g
  ·have j:=IM hw h.1 (fun v hm=>(f v hm).root);have:=OP hw M h.1 j (Pq f) (B9 h) (i _ List.mem_cons_self).vb;rw[EP h] at this;refine this.mono ?_;have B:=Nat.mul_le_mul_right κ (show u.length<=m by omega);have C:=Nat.mul_le_mul_right E (show u.length+1<=m+1 by omega);omega
  exact UE hw M h.1 (by omega) f s g
theorem jF {u v:List (List Rat)} {s:Nat} {x:Re} (hw:AU w) (M:Ml w E) (hu:AU u) (o:AU v) (h:∀z∈BB u,Wv w σ κ ν z) (i:∀z∈BB v,Wv w σ κ ν z) (l1:u.length<=m) (l2:v.length<=m) (j:BT u v) (f:El u s x):El v (s+m*(σ+E+1)+m*κ+(m+1)*E) x:=by
 have e1:=IM hw hu (fun z g=>(h z g).root);have A:=IM hw o (fun z g=>(i z g).root);obtain⟨K,k0,k1,k2⟩:=Q6 hw M hu e1 (fun z g=>(h z g).rb);obtain⟨D,d0,d1,d2,d3⟩:=f.bd
 have hb:Bd (s+u.length*(σ+E+1)) (co w x):=by
  refine⟨D*K,Nat.mul_pos d0 k0,?_,(k2 (B:=0) f.mem).1 d2,?_⟩
  ·rw[Nat.pow_add];exact Nat.mul_le_mul d1 k1
  rw[Nat.pow_add];exact (k2 (D:=0) f.mem).2 d3
 refine⟨j _ f.mem,(OP hw M o A (Pq i) (j _ f.mem) hb).mono ?_⟩;have C:=Nat.mul_le_mul_right (σ+E+1) l1;have F:=Nat.mul_le_mul_right κ l2;have a3:=Nat.mul_le_mul_right E (show v.length+1<=m+1 by omega);omega
end
theorem Tf.all {P:List (List Rat)->Prop} {R0:Nat} (I:CD P R0) {B:Re->Prop} (o:∀{r u},P (r::u)->B (AM u r)) {u:List (List Rat)} (h:Tf P u):∀v∈Go.Abs.BB u,B v:=by
 induction h with
 | nil=>intro v f;simp[Go.Abs.BB] at f
 | @BC u C D ht g A j=>
  by_cases i:Sq u (AM D C)
  ·rw[Df i];exact j
  rw[DG i];intro v f;rcases List.mem_cons.1 f with rfl | f
  ·rw[EC (A _ (B9 (I.red g)))];exact o g
  exact j v f
end
section
section
variable {P:List (List Rat)->Prop} {V:List Re}
theorem Tf.Gj (I:CD P 256) (hV:∀{u},P u->∀v∈Go.Abs.BB u,v∈V) (h3:V.length<=3) {u:List (List Rat)} (h:Tf P u):TB Rn u:=(h.bK I hV h3).2.mono (by decide +kernel)
abbrev Ce:Nat:=226506
theorem Tf.Ot (I:CD P 256) (hV:∀{u},P u->∀v∈Go.Abs.BB u,v∈V) (h3:V.length<=3) {u w:List (List Rat)} {s:Nat} {x:Re} (hu:Tf P u) (hw:Tf P w) (g:BT u w) (f:El u s x):El w (s+Ce) x:=by
 by_cases i:w.length<=2
 ·refine (f.CL (hw.red I) (hw.Gj I hV h3) (hu.red I) (hu.Gj I hV h3) g).mono ?_;have:=Jb (k:=u.length) (k':=3) (R0:=Rn) (H7:=Rn) (h:=w.length) (h':=2) (R:=Rn) (R':=Rn) (Nat.le_trans (hu.len I hV) h3) (Nat.le_refl _) i (Nat.le_refl _);have A:CC 3 Rn 2 Rn=Ce:=by decide +kernel
  omega
 refine⟨g _ f.mem,(Q7 (hw.red I) (hu.red I) (fun v o=>Classical.byContradiction fun j=>?_) f.mem f.bd).mono (Nat.le_add_right _ _)⟩
 have:=IZ (l:=v::Go.Abs.BB w) (m:=V) (List.nodup_cons.2 ⟨j,Gl (hw.red I)⟩) (fun x f=>by
  rcases List.mem_cons.1 f with rfl | f
  ·exact hu.BB I hV _ o
  exact hw.BB I hV x f)
 rw[List.length_cons,Ip] at this;omega
theorem jl (I:CD P 256) (hV:∀{u},P u->∀v∈Go.Abs.BB u,v∈V) (h3:V.length<=3) {C S:Nat} (o:Ce<=C) (h:C<=Cn) (f:Rn<=S) (g:S<=Sm):C3 (Tf P) Rn C S:=
 have G:=Xb I hV h3 f g
 {G with
  CL:=fun hu hw i j=>(Tf.Ot I hV h3 hu hw i j).mono (by omega)
  fit:=fun hu=>(G.fit hu).mono (by omega)
  mul:=fun hu=>by have:=G.mul hu;omega
  GV:=fun hu=>(G.GV hu).mono (by omega)}
end
end
section
theorem El.BC {u:List (List Rat)} {n x:Re} {s:Nat} (hu:AU u) (h:AU (BC u n)) (f:El u s x):El (BC u n) s x:=by
 by_cases i:Sq u n
 ·rw[Df i];exact f
 rw[DG i] at h ⊢;have g:El u 0 0:=El.rat hu GO;have:=MN h f.mem g.mem f.bd g.bd;rw[show x+0*rt u (co u n)=x by grind] at this;exact⟨E6 f.mem,this⟩
def P4 (P:List (List Rat)->Prop) (n:Re) (u:List (List Rat)):Prop:=P u\/∃u0,Tf P u0/\In u0 n/\u<:+BC u0 n
abbrev R4:Nat:=1920500
abbrev E4:Nat:=1942090
abbrev Rf:Nat:=150420000
section
variable {P:List (List Rat)->Prop} {V:List Re} {w:List (List Rat)} {n:Re}
theorem cI (I:CD P 256) (hV:∀{u},P u->∀v∈Go.Abs.BB u,v∈V) (h3:V.length<=3) (hw:Tf P w) (ha:∀{u},Tf P u->BT u w) {z:List (List Rat)} (H:AU z) (f:∀{s x},El w s x->El z s x) {r:List Rat} {u:List (List Rat)} (h:Tf P (r::u)):Wv z 2032990 46909868 R4 (AM u r):=by
 have g:=h.red I;have e1:=Tf.Ot I hV h3 h hw (ha h) (IL g);have o:In (r::u) (AM u r):=E6 (B9 g);have B:AM u r≠0:=by have:=g.2.2.1;grind
 have A:rt u r≠0:=fun e=>B (by rw[<-Cu g,e];grind)
 obtain⟨y,D,i⟩:=Dv (hw.red I) e1.mem A;have F:=GP (hw.red I) (hw.Gj I hV h3) e1.mem D i e1.bd;have j:El w 46909868 y:=⟨D,F.mono (Nat.le_trans (FL (Nat.le_trans (hw.len I hV) h3) (Nat.le_refl _) (Nat.le_refl _)) (by decide +kernel))⟩
 have b3:El (r::u) (Rn+0) (AM u r):=by
  have C:El u 0 0:=El.rat g.1 GO;have hb:Bd Rn (co u (AM u r)):=by rw[EP g];exact (h.Gj I hV h3).head
  have:=MN g (B9 g) C.mem hb C.bd;rw[show AM u r+0*rt u r=AM u r by grind] at this;exact⟨o,this⟩
 have G:=Tf.Ot I hV h3 h hw (ha h) b3;exact⟨(f e1).mem,(f e1).bd.mono (by decide),⟨y,by rw[<-i];exact Re.mul_comm _ _,(f j).bd⟩,(f G).bd.mono (by decide)⟩
theorem cG (I:CD P 256) (hV:∀{u},P u->∀v∈Go.Abs.BB u,v∈V) (h3:V.length<=3) (hw:Tf P w) (f:El w R4 n) (O:0<n):Wv (BC w n) 2032990 46909868 R4 n:=by
 have g:=hw.red I;have F:=hw.Gj I hV h3;have H:w.length<=3:=Nat.le_trans (hw.len I hV) h3;have C:n≠0:=by grind
 have o:Re.sqrt n*Re.sqrt n=n:=Re.G5 (by grind);have J:Re.sqrt n≠0:=fun e=>C (by rw[<-o,e];grind)
 by_cases j:Sq w n
 ·rw[Df j];have hm:=(KQ (by grind)).1 j;have b1:=OQ g F hm o f.bd
  have A:Bd 2032990 (co w (Re.sqrt n)):=b1.mono (by
   have:=Nt (h:=w.length) (h':=3) (R:=Rn) (R':=Rn) H (Nat.le_refl _);have e:GG 3 Rn=112490:=by decide +kernel
   have T:R4=1920500:=rfl;omega)
  obtain⟨y,S,D⟩:=Dv g hm J;have b2:=GP g F hm S D A;exact⟨hm,A,⟨y,by rw[<-D];exact Re.mul_comm _ _,b2.mono (Nat.le_trans (FL H (Nat.le_refl _) (Nat.le_refl _)) (by decide +kernel))⟩,f.bd⟩
 have G:=JQ g f.mem O j;have K:∀{s x},El w s x->El (BC w n) s x:=fun Q=>El.BC g (by rw[DG j];exact G) Q
 have e1:=IL G;rw[Ik f.mem] at e1;obtain⟨i,L,B⟩:=Dv g f.mem C;have b2:=GP g F f.mem L B f.bd;have z0:El w 0 0:=El.rat g GO;have b3:=MN G z0.mem L z0.bd b2;rw[Ik f.mem,show (0:Re)+i*Re.sqrt n=i*Re.sqrt n by grind] at b3;refine⟨by rw[DG j];exact e1.mem,by rw[DG j];exact e1.bd.mono (by decide),⟨i*Re.sqrt n,?_,?_⟩,(K f).bd⟩
 ·have N:i*Re.sqrt n*Re.sqrt n=i*(Re.sqrt n*Re.sqrt n):=by grind
  have:i*Re.sqrt n*Re.sqrt n=n*i:=by rw[N,o];exact Re.mul_comm _ _
  rw[this,B]
 rw[DG j];refine b3.mono (Nat.le_trans (Nat.add_le_add_left (FL H (Nat.le_refl _) (Nat.le_refl _)) _) (by decide +kernel))
theorem SR (I:CD P 256) (hV:∀{u},P u->∀v∈Go.Abs.BB u,v∈V) (h3:V.length<=3) (hw:Tf P w) (g:El w R4 n) (B:0<=n):Ml (BC w n) E4:=by
 have i:=hw.red I;have j:=hw.Gj I hV h3;have he:=Fv (h:=w.length) (h':=3) (R:=Rn) (R':=Rn) (Nat.le_trans (hw.len I hV) h3) (Nat.le_refl _);have A:EE 3 Rn=10794:=by decide +kernel
 have M:=Ml.of i j
 by_cases f:Sq w n
 ·rw[Df f];exact M.mono (by show _<=1942090;omega)
 have o:=JQ i g.mem (by
  have:n≠0:=fun e=>f (by rw[e];exact⟨0,CN w,by grind⟩)
  grind) f
 rw[DG f];have C:R4=1920500:=rfl;exact (M.cons o g.bd).mono (by show _<=1942090;omega)
theorem kM (I:CD P 256) (hV:∀{u},P u->∀v∈Go.Abs.BB u,v∈V) (h3:V.length<=3) (hw:Tf P w) (C:El w R4 n) (H:0<=n) {x y:Re} {s:Nat} (f:El (BC w n) s x) (g:In (BC w n) y) (e:x*y=1):El (BC w n) (47*s+44850000) y:=by
 have i:=hw.red I;have A:=hw.Gj I hV h3;have B:w.length<=3:=Nat.le_trans (hw.len I hV) h3;have he:=Fv (h:=w.length) (h':=3) (R:=Rn) (R':=Rn) B (Nat.le_refl _);have G:EE 3 Rn=10794:=by decide +kernel
 have o:∀s,II w.length Rn s<=23*s+151098:=fun s=>Nat.le_trans (FL B (Nat.le_refl _) (Nat.le_refl _)) (by simp only[II,EE,Rn];omega)
 refine⟨g,?_⟩
 by_cases j:Sq w n
 ·rw[Df j] at f g ⊢;exact (GP i A f.mem g e f.bd).mono (by have:=o s;omega)
 have F:=JQ i C.mem (by
  have:n≠0:=fun e=>j (by rw[e];exact⟨0,CN w,by grind⟩)
  grind) j
 rw[DG j] at f g ⊢;have:=Ml.inv (P:=fun s=>II w.length Rn s) F (Ml.of i A) C.bd (fun f g e hb=>GP i A f g e hb) f.mem e f.bd;refine this.mono ?_;have D:=o (2*s+2*EE w.length Rn+R4+1)
 show s+EE w.length Rn+II w.length Rn (2*s+2*EE w.length Rn+1920500+1)<=_
 have D:II w.length Rn (2*s+2*EE w.length Rn+1920500+1)<=23*(2*s+2*EE w.length Rn+1920500+1)+151098:=o _;omega
theorem Tf.Io (I:CD P 256) {u v:List (List Rat)} (h:u<:+v) (f:Tf P v):Tf P u:=by
 obtain⟨t,rfl⟩:=h
 induction t with
 | nil=>exact f
 | cons r t g=>exact g (f.sub I)
theorem P4.sub (I:CD P 256) {r:List Rat} {u:List (List Rat)} (h:P4 P n (r::u)):P4 P n u:=by
 rcases h with h |⟨i,h,f,g⟩
 ·exact .inl (I.sub h)
 exact .inr ⟨i,h,f,(List.suffix_cons r u).trans g⟩
theorem P4.red (I:CD P 256) (f:0<=n) {u:List (List Rat)} (h:P4 P n u):AU u:=by
 rcases h with h |⟨j,h,g,i⟩
 ·exact I.red h
 exact TG i (Gf (h.red I) g f)
theorem P4.top (I:CD P 256) {r:List Rat} {u:List (List Rat)} (h:P4 P n (r::u)):Tf P (r::u)\/(In u n/\¬Sq u n/\AM u r=n):=by
 rcases h with h |⟨j,h,i,f⟩
 ·exact .inl (Tf.of I h)
 by_cases g:Sq j n
 ·rw[Df g] at f;exact .inl (h.Io I f)
 rw[DG g] at f;rcases List.suffix_cons_iff.1 f with e | f
 ·obtain⟨rfl,rfl⟩:=List.cons.inj e;exact .inr ⟨i,g,EC i⟩
 exact .inl (h.Io I f)
theorem P4.len (I:CD P 256) (hV:∀{u},P u->∀v∈Go.Abs.BB u,v∈V) {u:List (List Rat)} (h:P4 P n u):∀v∈Go.Abs.BB u,v∈n::V:=by
 induction u with
 | nil=>intro v f;simp[Go.Abs.BB] at f
 | cons r u g=>
  intro v f;rcases List.mem_cons.1 f with rfl | f
  ·rcases h.top I with h |⟨_,_,e⟩
   ·exact List.mem_cons_of_mem _ (h.BB I hV _ List.mem_cons_self)
   rw[e];exact List.mem_cons_self
  exact g (h.sub I) v f
theorem UQ (I:CD P 256) (hV:∀{u},P u->∀v∈Go.Abs.BB u,v∈V) (h3:V.length<=3) (hw:Tf P w) (ha:∀{u},Tf P u->BT u w) (f:El w R4 n) (i:0<=n) {r:List Rat} {u:List (List Rat)} (h:P4 P n (r::u)):Wv (BC w n) 2032990 46909868 R4 (AM u r):=by
 have g:AU (BC w n):=Gf (hw.red I) f.mem i;rcases h.top I with h |⟨A,j,e⟩
 ·exact cI I hV h3 hw ha g (fun o=>El.BC (hw.red I) g o) h
 rw[e]
 exact cG I hV h3 hw f (by
  have:n≠0:=fun e=>j (by rw[e];exact⟨0,CN u,by grind⟩)
  grind)
theorem Xr (I:CD P 256) (hV:∀{u},P u->∀v∈Go.Abs.BB u,v∈V) (h3:V.length<=3) (hw:Tf P w) (ha:∀{u},Tf P u->BT u w) (i:El w R4 n) (g:0<=n):CD (P4 P n) Rf:=by
 have A:AU (BC w n):=Gf (hw.red I) i.mem g;have M:=SR I hV h3 hw i g;refine⟨fun h=>P4.red I g h,fun {u} h=>?_,fun h=>P4.sub I h⟩;have j:=P4.red I g h
 have o:u.length<=4:=by
  have:=IZ (Gl j) (P4.len I hV h);rw[Ip,List.length_cons] at this;omega
 have f:∀v∈Go.Abs.BB u,Wv (BC w n) 2032990 46909868 R4 v:=by
  clear o j
  induction u with
  | nil=>intro v f;simp[Go.Abs.BB] at f
  | cons r u B=>
   intro v f;rcases List.mem_cons.1 f with rfl | f
   ·exact UQ I hV h3 hw ha i g h
   exact B (P4.sub I h) v f
 exact (UE (m:=3) A M j o f).mono (by decide)
theorem Tf.JC (I:CD P 256) (hV:∀{u},P u->∀v∈Go.Abs.BB u,v∈V) (h3:V.length<=3) (J:CD (P4 P n) Rf) {u:List (List Rat)} (h:Tf (P4 P n) u):u.length<=4:=by
 have:=h.len J (V:=n::V) (fun f=>P4.len I hV f);rw[List.length_cons] at this;omega
theorem Tf.Sp (I:CD P 256) {u:List (List Rat)} (h:Tf P u):Tf (P4 P n) u:=by
 induction h with
 | nil=>exact .nil
 | BC _ g f i=>exact .BC i (.inl g) f
theorem Tf.OH (I:CD P 256) {u:List (List Rat)} (h:Tf P u) (f:In u n):Tf (P4 P n) (Go.Abs.BC u n):=by
 by_cases g:Sq u n
 ·rw[Df g];exact h.Sp I
 have:=Tf.BC (h.Sp I (n:=n)) (show P4 P n (co u n::u) from .inr ⟨u,h,f,by rw[DG g];exact List.suffix_refl _⟩) (BT.refl u);rwa [EC f] at this
end
end
section
abbrev Cf:Nat:=214500000
abbrev Mf:Nat:=156000000000
theorem jQ:∀h,h<=4->Fit h Rf (Mf+Cf)
 |0,_|1,_|2,_|3,_|4,_=>⟨by decide +kernel,by decide +kernel,by decide +kernel,by decide +kernel⟩
 | _+5,h=>absurd h (by omega)
theorem jM:∀h,h<=4->EM h Rf (Mf+Cf)
 |0,_|1,_|2,_|3,_|4,_=>⟨by decide +kernel,by decide +kernel,by decide +kernel,by decide +kernel⟩
 | _+5,h=>absurd h (by omega)
theorem lR:2*(Mf+Cf)+EE 4 Rf<=60000000000000:=by decide +kernel
theorem Xn:II 4 Rf Mf<=60000000000000:=by decide +kernel
theorem XZ {P:List (List Rat)->Prop} {R0 S:Nat} (I:CD P R0) (o:∀{u},Tf P u->TB Rf u) (f:∀{u},Tf P u->u.length<=4) (i:∀{u w s x},Tf P u->Tf P w->BT u w->El u s x->El w (s+Cf) x) (j:Rf<=S) (g:S<=Mf):C3 (Tf P) Rf Cf S where
 BG:=fun {u} h=>⟨h.red I,o h,by decide,by have:=f h;omega⟩
 ht:=fun {u} h=>by have:=f h;omega
 nil:= .nil
 sub:=fun {r u} h=>h.sub I
 BC:=fun {t r u} ht h i=>ht.OI I h i
 CL:=i
 fit:=fun {u} h=>(jQ _ (f h)).mono (Nat.add_le_add_right g Cf)
 mul:=fun {u} h=>Nat.le_trans (Nat.add_le_add (Nat.mul_le_mul_left 2 (Nat.add_le_add_right g Cf)) (Fv (h:=u.length) (h':=4) (R:=Rf) (R':=Rf) (f h) (Nat.le_refl _))) lR
 RS:=j
 GV:=fun {u} h=>(jM _ (f h)).mono (Nat.add_le_add_right g Cf)
section
variable {P:List (List Rat)->Prop} {V:List Re} {w:List (List Rat)} {n:Re}
theorem ji (I:CD P 256) (hV:∀{u},P u->∀v∈Go.Abs.BB u,v∈V) (h3:V.length<=3) (hw:Tf P w) (ha:∀{u},Tf P u->BT u w) (i:El w R4 n) (g:0<=n) {S:Nat} (A:Rf<=S) (B:S<=Mf):C3 (Tf (P4 P n)) Rf Cf S:=by
 have J:=Xr I hV h3 hw ha i g;have o:AU (BC w n):=Gf (hw.red I) i.mem g;have M:=SR I hV h3 hw i g;have j:∀{u},Tf (P4 P n) u->∀v∈Go.Abs.BB u,Wv (BC w n) 2032990 46909868 R4 v:=fun {u} h=>Tf.all J (fun D=>UQ I hV h3 hw ha i g D) h
 refine XZ J (fun {u} h=>(UE (m:=3) o M (h.red J) (h.JC I hV h3 J) (j h)).mono (by decide)) (fun h=>h.JC I hV h3 J) (fun {u v s x} hu f C F=>(jF (m:=4) o M (hu.red J) (f.red J) (j hu) (j f) (hu.JC I hV h3 J) (f.JC I hV h3 J) C F).mono ?_) A B
 show s+4*(2032990+1942090+1)+4*46909868+(4+1)*1942090<=s+214500000
 omega
theorem jg (I:CD P 256) (hV:∀{u},P u->∀v∈Go.Abs.BB u,v∈V) (h3:V.length<=3) {S:Nat} (f:Rf<=S) (g:S<=Mf):C3 (Tf P) Rf Cf S:=by
 refine XZ I (fun {u} h=>(h.Gj I hV h3).mono (by decide)) (fun h=>Nat.le_trans (h.len I hV) (by omega)) (fun {u v s x} hu j i o=>(Tf.Ot I hV h3 hu j i o).mono ?_) f g
 show s+226506<=s+214500000
 omega
end
end
section
open Go.RowKit
abbrev Ve:=Nu×Nu
noncomputable def vm (p:Ve):el Bz:=(nm p.1,nm p.2)
noncomputable def mf (ns:List Nu) (W:List UInt8):List Ve:=(List.range (W.length/2)).map fun i=>(Dt ns (W.getD (2*i) 0).toNat,Dt ns (W.getD (2*i+1) 0).toNat)
abbrev Fe (TT:List (List Rat)->Prop) (w:List (List Rat)):Prop:=Fm TT w Rn 11500 20 43400000 23 14
abbrev Fd (TT:List (List Rat)->Prop) (w:List (List Rat)):Prop:=Fm TT w Rf 1950000 110 80000 47 23
abbrev Nd (TT:List (List Rat)->Prop) (w:List (List Rat)) (k:Nat) (T:List LR) (A:LR) (x:Re):Prop:=Nm TT w 1950000 k T A x
abbrev Vd (TT:List (List Rat)->Prop) (w:List (List Rat)) (k k':Nat) (T1:List LR) (A1:LR) (T2:List LR) (A2:LR) (x y:Re):Prop:=Vm TT w 1950000 k k' T1 A1 T2 A2 x y
theorem R5 (t:Nat):II 3 Rn t<=23*t+14*11500:=by simp only[II,EE,Rn];omega
structure Pl (P:List (List Rat)->Prop) (V:List Re) (w:List (List Rat)):Prop where
 I:CD P 256
 hV:∀{u},P u->∀v∈BB u,v∈V
 h3:V.length<=3
 hw:Tf P w
 ha:∀{u},Tf P u->BT u w
theorem mQ {P:List (List Rat)->Prop} {V:List Re} (I:CD P 256) (hV:∀{u},P u->∀v∈BB u,v∈V) (h3:V.length<=3):∃w,Pl P V w:=by
 obtain⟨w,hw,ha⟩:=Tf.top I (fun {u} h=>Nat.le_trans (h.len I hV) h3);exact⟨w,I,hV,h3,hw,ha⟩
section
variable {P:List (List Rat)->Prop} {V:List Re} {w:List (List Rat)}
theorem Pl.len (L:Pl P V w) {u:List (List Rat)} (h:Tf P u):u.length<=3:=Nat.le_trans (h.len L.I L.hV) L.h3
theorem Pl.mul (L:Pl P V w) {x y:Re} {s t:Nat} (f:El w s x) (g:El w t y):El w (s+t+10794) (x*y):=(f.mul ⟨L.hw.red L.I,L.hw.Gj L.I L.hV L.h3,by decide,by have:=L.len L.hw;omega⟩ g).mono (by
 have:=Fv (L.len L.hw) (Nat.le_refl Rn);have e:EE 3 Rn=10794:=by decide +kernel
 omega)
theorem Pl.inv (L:Pl P V w) {x y:Re} {s:Nat} (f:El w s x) (g:In w y) (e:x*y=1):El w (23*s+14*11500) y:=(f.inv ⟨L.hw.red L.I,L.hw.Gj L.I L.hV L.h3,by decide,by have:=L.len L.hw;omega⟩ g e).mono (Nat.le_trans (FL (L.len L.hw) (Nat.le_refl _) (Nat.le_refl _)) (R5 s))
theorem Pl.fe (L:Pl P V w):Fe (Tf P) w:=by
 refine⟨fun {S} h i=>jl L.I L.hV L.h3 (by decide) (by decide) h (Nat.le_trans i (by decide)),L.hw,L.ha,by decide,by decide,fun f g=>(L.mul f g).mono (by omega),fun f g e=>L.inv f g e,fun {u} hu=>?_⟩;exact Nat.le_trans (FL (L.len hu) (Nat.le_refl _) (Nat.le_refl _)) (Nat.le_trans (R5 _) (by decide))
theorem Pl.fd (L:Pl P V w):Fd (Tf P) w:=by
 refine⟨fun {S} h i=>jg L.I L.hV L.h3 h (Nat.le_trans i (by decide)),L.hw,L.ha,by decide,by decide,fun f g=>(L.mul f g).mono (by omega),fun f g e=>(L.inv f g e).mono (by omega),fun {u} hu=>?_⟩;exact Nat.le_trans (FL (Nat.le_trans (L.len hu) (by decide:3<=4)) (Nat.le_refl _) (Nat.le_refl _)) Xn
theorem Pl.Rp (L:Pl P V w) {n:Re} (f:El w R4 n) (g:0<=n):Fd (Tf (P4 P n)) (BC w n):=by
 have J:=Xr L.I L.hV L.h3 L.hw L.ha f g;have j:AU (BC w n):=Gf (L.hw.red L.I) f.mem g;have M:=SR L.I L.hV L.h3 L.hw f g;refine⟨fun {S} o A=>ji L.I L.hV L.h3 L.hw L.ha f g o (Nat.le_trans A (by decide)),L.hw.OH L.I f.mem,fun {u} hu=>IM j (hu.red J) (fun v C=>(Tf.all J (fun B=>UQ L.I L.hV L.h3 L.hw L.ha f g B) hu v C).root),by decide,by decide,fun {x y s t} h i=>⟨Ag j h.mem i.mem,(M.bd h.mem i.mem h.bd i.bd).mono (by show s+t+1942090<=s+t+1950000;omega)⟩,fun h i e=>(kM L.I L.hV L.h3 L.hw f g h i e).mono (by omega),fun {u} hu=>?_⟩;exact Nat.le_trans (FL (hu.JC L.I L.hV L.h3 J) (Nat.le_refl _) (Nat.le_refl _)) Xn
theorem Pl.lift (L:Pl P V w) {n:Re} (B:In w n) (f:0<=n) {b k b' k':Nat} {T:List LR} {A:LR} {x:Re} (h:Nm (Tf P) w b k T A x) (v:k*b<=k'*b'):Nm (Tf (P4 P n)) (BC w n) b' k' T A x:=by
 obtain⟨u,g,i,h3,j,o⟩:=h;exact⟨u,g.Sp L.I,i,h3,j,(El.BC (L.hw.red L.I) (Gf (L.hw.red L.I) B f) o).mono v⟩
end
theorem mR {V:List Re} {ns:List Nu} (hV:V.length<=3) (h:∀n∈ns,Cc V n):∃w,Pl (PN ns) V w:=mQ (PN.I9 hV h) (fun f=>PN.BB h f) hV
noncomputable def qv (ns:List Nu) (W:List UInt8):List (el Bz):=if W.length<=24 then (mf ns W).map vm else []
theorem ZU {TT:List (List Rat)->Prop} {w:List (List Rat)} (F:Fd TT w) {p:Rat} (f:Cp p):∃A,A=em [] (Re.ofRat p)/\Nd TT w 1 [] A (Re.ofRat p):=⟨_,rfl,GC F (by decide) (FP f)⟩
end
section
open Go.RowKit
open Classical in
noncomputable def fs (x y:Re):Re:=if x=0 then y else x
open Classical in
noncomputable def un (x:Re):Re:=if x=0 then 0 else 1
section
variable {x y z:Re}
theorem Mp (h:x=0):fs x y=y:=if_pos h
theorem Oz (h:x≠0):fs x y=x:=if_neg h
theorem QG (h:x=0):un x=0:=if_pos h
theorem QH (h:x≠0):un x=1:=if_neg h
theorem jd (h:¬(x=0/\y=0)):fs x y≠0:=by
 by_cases f:x=0
 ·rw[Mp f];exact fun e=>h ⟨f,e⟩
 rw[Oz f];exact f
theorem TD:(1:Re)≠0:=fun e=>absurd (Re.Ib.1 (show Re.ofRat 1=Re.ofRat 0 from e)) (by decide)
theorem R8 {i:Re} (h:x*i=1):i=BU x:=by
 have f:x≠0:=fun e=>TD (by rw[<-h,e];grind)
 have:=Ga f;have e:i=i*(x*BU x):=by rw[this];grind
 rw[e,show i*(x*BU x)=(x*i)*BU x by grind,h];grind
theorem inv_neg (h:x≠0):BU (-x)= -BU x:=(R8 (by have:=Ga h;grind)).symm
theorem pd:un (-x)=un x:=by
 by_cases h:x=0
 ·rw[QG h,QG (by rw[h];grind)]
 rw[QH h,QH (fun e=>h (by grind))]
theorem je:fs (-x) (-y)= -fs x y:=by
 by_cases h:x=0
 ·rw[Mp h,Mp (by rw[h];grind)]
 rw[Oz h,Oz (fun e=>h (by grind))]
theorem YJ (h:¬(x=0/\y=0)): -z*BU (fs (-x) (-y))=z*BU (fs x y):=by
 rw[je,inv_neg (jd h)];grind
theorem lF (h:¬(x=0/\y=0)):un x=1\/un x=0/\y*BU (fs x y)=1:=by
 by_cases f:x=0
 ·exact .inr ⟨QG f,by rw[Mp f];exact Ga (fun e=>h ⟨f,e⟩)⟩
 exact .inl (QH f)
end
structure Ff (TT:List (List Rat)->Prop) (w:List (List Rat)) (b k l:Nat) (T1:List LR) (A1:LR) (T2:List LR) (A2:LR) (T3:List LR) (A3:LR) (x y z:Re):Prop where
 x:Nm TT w b 1 T1 A1 x
 y:Nm TT w b k T2 A2 y
 z:Nm TT w b l T3 A3 z
section
variable {TT:List (List Rat)->Prop} {w:List (List Rat)} {R b c M q p k k' l l':Nat} {T1 T2:List LR} {A1 A2:LR} {x y:Re}
theorem Nm.shrink (h:Nm TT w b k T1 A1 x) (g:Nm TT w b l T2 A2 y) (e:x=y):Nm TT w b l T1 A1 x:=by
 obtain⟨u,f,o,j,v,_⟩:=h;obtain⟨_,_,_,_,_,i⟩:=g;exact⟨u,f,o,j,v,e ▸ i⟩
theorem Yh (F:Fm TT w R b c M q p) (f:c<=M) {r:Rat} (g:Cp r) (h:Nm TT w b k T1 A1 x) (e:x=Re.ofRat r):Nm TT w b 1 T1 A1 (Re.ofRat r):=e ▸ h.shrink (GC F f (FP g F.hb)) e
end
section
variable {x y z a d:Re}
theorem a7 {x:Re} (h:x≠0):0<x*x:=by
 have f:=Re.Ft x;have g:=J8 h h
 grind
theorem NZ (h:¬(x=0/\y=0)):x*x+y*y≠0:=by
 have g:=Re.Ft x;have i:=Re.Ft y
 by_cases f:x=0
 ·have:=a7 (fun e=>h ⟨f,e⟩)
  grind
 have:=a7 f
 grind
end
section
variable {n m z n' m' z' x y x1 y1 x2 y2:Re}
theorem oE (h:¬(n=0/\m=0)) (f:n'= -n) (em:m'= -m) (g:z'= -z):un n=un n'/\m*BU (fs n m)=m'*BU (fs n' m')/\z*BU (fs n m)=z'*BU (fs n' m'):=by
 rw[f,em,g];exact⟨pd.symm,(YJ h).symm,(YJ h).symm⟩
end
end
end Go.Abs
