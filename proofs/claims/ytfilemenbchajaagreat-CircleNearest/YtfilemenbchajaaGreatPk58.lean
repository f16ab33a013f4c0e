/- Part 59 of a proof. Conditions: each theorem's own. -/
import Derived.Test.YtfilemenbchajaaGreatPk56
set_option linter.all false
set_option maxHeartbeats 8000000
set_option maxRecDepth 20000
namespace Go.Abs
open Go.RowKit
structure Up (Gy:List (List Rat)->Prop) (w0:List (List Rat)) (b0 K:Nat) (TT:List (List Rat)->Prop) (w:List (List Rat)) (b:Nat):Prop where
 up:∀{k:Nat} {T:List LR} {A:LR} {x:Re},k<=K->Nm Gy w0 b0 k T A x->Nm TT w b 1 T A x
variable {k:Nat} {n:Re} {w0:List (List Rat)}
theorem Up.v {Gy TT:List (List Rat)->Prop} {w:List (List Rat)} {b0 K b k':Nat} {T1 T2:List LR} {A1 A2:LR} {x y:Re} (U:Up Gy w0 b0 K TT w b) (c:k<=K) (a:k'<=K) (h:Vm Gy w0 b0 k k' T1 A1 T2 A2 x y):Vm TT w b 1 1 T1 A1 T2 A2 x y:=⟨U.up c h.x,U.up a h.y⟩
theorem jM {P:List (List Rat)->Prop} {V:List Re} (L:Pl P V w0) {T:List LR} {A:LR} (f:Nm (Tf P) w0 11500 k T A n) (c:k<=167) (a:0<=n):∃TT w,Fd TT w/\Up (Tf P) w0 11500 167 TT w 1950000/\Rt (Tf P) w0 11500 167 TT w 1950000 2 n/\(n≠0->∃T A,Nm TT w 1950000 73 T A (Re.sqrt n*As n)):=by
 have hu:=f;obtain⟨_,_,_,_,_,he⟩:=f
 have b:El w0 R4 n:=he.mono (by have m:R4=1920500:=rfl
                                omega)
 have U:Up (Tf P) w0 11500 167 (Tf (P4 P n)) (Ax w0 n) 1950000:=⟨fun c h=>L.lift b.mem a h (by omega)⟩;have g:=lJ L b a;refine⟨_,_,L.jL b a,U,g,fun l=>?_⟩;obtain⟨_,_,i,_⟩:=g.get c hu;obtain⟨T,A,j,_⟩:=D1 (L.jL b a) i (U.up c hu) (d:=70) (by decide) l (by decide) (by decide) (by decide);exact⟨T,A,j⟩
theorem jT (c:0<=n) (b:n≠0):Re.sqrt n≠0/\Re.sqrt n*(Re.sqrt n*As n)=1/\n*(Re.sqrt n*As n*(Re.sqrt n*As n))=1:=by
 have h:=Re.E9 c;have a:=Cy b;refine⟨fun e=>b (by rw[<-h,e];grind),?_,?_⟩
 ·have:Re.sqrt n*(Re.sqrt n*As n)=Re.sqrt n*Re.sqrt n*As n:=by grind
  rw[this,h,a]
 have:n*(Re.sqrt n*As n*(Re.sqrt n*As n))=n*As n*(Re.sqrt n*Re.sqrt n*As n):=by grind
 rw[this,h,a];grind
theorem jS (x y:Re):0<=x*x+y*y:=by
 have a:=Re.IE x;have b:=Re.IE y
 grind
theorem il {x y i:Re} (h:y*i=1):x*As y=x*i:=by rw[<-H3 h]
end Go.Abs
