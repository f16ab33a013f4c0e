/- Part 33 of a proof. Conditions: each theorem's own. -/
import Derived.Test.YtmaoeopjnhfplaaGreatPk30
set_option linter.all false
set_option maxHeartbeats 8000000
set_option maxRecDepth 20000
namespace Go.Abs
open Go.RowKit
section
variable {P:List (List Rat)->Prop} {V:List Re} {w:List (List Rat)}
theorem Mc (L:Pl P V w) {k:Nat} {T:List LR} {A:LR} {n:Re} (f:Nm (Tf P) w 11500 k T A n) (c:k<=167) (a:0<=n):Fd (Tf (P4 P n)) (Aj w n)/\Up (Tf P) w 11500 167 (Tf (P4 P n)) (Aj w n) 1950000/\Rt (Tf P) w 11500 167 (Tf (P4 P n)) (Aj w n) 1950000 2 n/\(n≠0->∃T A,Nm (Tf (P4 P n)) (Aj w n) 1950000 25 T A (Re.sqrt n*AE n)):=by
 have hu:=f;obtain⟨_,_,_,_,_,he⟩:=f
 have b:El w R4 n:=he.mono (by have s:R4=1920500:=rfl
                               omega)
 have U:Up (Tf P) w 11500 167 (Tf (P4 P n)) (Aj w n) 1950000:=⟨fun c h=>L.lift b.mem a h (by omega)⟩;have g:=qv L b a;refine⟨L.UE b a,U,g,fun j=>?_⟩;obtain⟨_,_,p,_⟩:=g.get c hu;obtain⟨T,A,⟨u,b1,b2,b3,l,m⟩,_⟩:=DE (L.UE b a) p (U.up c hu) (d:=70) (by decide) j;obtain⟨y,o,i⟩:=(PX L.I L.hV L.h3 L.hw b (by grind)).inv
 have e:y=Re.sqrt n*AE n:=by
  have q:n*AE n=1:=F6 j;have r:=Re.Ev a;have:y=y*(n*AE n):=by rw[q];grind
  rw[this,show y*(n*AE n)=y*(Re.sqrt n*Re.sqrt n)*AE n by rw[r];grind,show y*(Re.sqrt n*Re.sqrt n)*AE n=y*Re.sqrt n*(Re.sqrt n*AE n) by grind,o];grind
 rw[e] at i;exact⟨T,A,u,b1,b2,b3,l,m.mem,i.mono (by decide)⟩
end
end Go.Abs
