/- Part 31 of a proof. Conditions: each theorem's own. -/
import Derived.Test.YtmaoeopjnhfplaaGreatPk27
set_option linter.all false
set_option maxHeartbeats 8000000
set_option maxRecDepth 20000
namespace Go.Abs
open Go.RowKit
structure Up (CU:List (List Rat)->Prop) (w0:List (List Rat)) (b0 K:Nat) (TT:List (List Rat)->Prop) (w:List (List Rat)) (b:Nat):Prop where
 up:∀{k:Nat} {T:List LR} {A:LR} {x:Re},k<=K->Nm CU w0 b0 k T A x->Nm TT w b 1 T A x
theorem Up.v {CU TT:List (List Rat)->Prop} {w0 w:List (List Rat)} {b0 K b k k':Nat} {T1 T2:List LR} {A1 A2:LR} {x y:Re} (U:Up CU w0 b0 K TT w b) (c:k<=K) (a:k'<=K) (h:Vm CU w0 b0 k k' T1 A1 T2 A2 x y):Vm TT w b 1 1 T1 A1 T2 A2 x y:=⟨U.up c h.x,U.up a h.y⟩
theorem rv {n:Re} (c:0<=n) (b:n≠0):Re.sqrt n≠0/\Re.sqrt n*(Re.sqrt n*AE n)=1/\n*(Re.sqrt n*AE n*(Re.sqrt n*AE n))=1:=by
 have h:=Re.Ev c;have a:=F6 b;refine⟨fun e=>b (by rw[<-h,e];grind),?_,?_⟩
 ·have:Re.sqrt n*(Re.sqrt n*AE n)=Re.sqrt n*Re.sqrt n*AE n:=by grind
  rw[this,h,a]
 have:n*(Re.sqrt n*AE n*(Re.sqrt n*AE n))=n*AE n*(Re.sqrt n*Re.sqrt n*AE n):=by grind
 rw[this,h,a];grind
theorem SH (x y:Re):0<=x*x+y*y:=by
 have a:=Re.Ji x;have b:=Re.Ji y
 grind
end Go.Abs
