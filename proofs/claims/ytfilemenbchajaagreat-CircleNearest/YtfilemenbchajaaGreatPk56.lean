/- Part 57 of a proof. Conditions: each theorem's own. -/
import Derived.Test.YtfilemenbchajaaGreatPk55
set_option linter.all false
set_option maxHeartbeats 8000000
set_option maxRecDepth 20000
namespace Go.Abs
open Go.RowKit
section
variable {x y z:Re}
theorem inv_neg (h:x≠0):As (-x)= -As x:=(H3 (by have:=Cy h;grind)).symm
theorem lM:un (-x)=un x:=by
 by_cases h:x=0
 ·rw[Kn h,Kn (by rw[h];grind)]
 rw[Ko h,Ko (fun e=>h (by grind))]
theorem kF:fs (-x) (-y)= -fs x y:=by
 by_cases h:x=0
 ·rw[It h,It (by rw[h];grind)]
 rw[Hx h,Hx (fun e=>h (by grind))]
theorem jm (h:¬(x=0/\y=0)): -z*As (fs (-x) (-y))=z*As (fs x y):=by
 rw[kF,inv_neg (Z5 h)];grind
theorem jn (h:¬(x=0/\y=0)):un x=1\/un x=0/\y*As (fs x y)=1:=by
 by_cases f:x=0
 ·exact .inr ⟨Kn f,by rw[It f];exact Cy (fun e=>h ⟨f,e⟩)⟩
 exact .inl (Ko f)
end
section
variable {TT:List (List Rat)->Prop} {w:List (List Rat)} {R b c M q p k k' l l':Nat} {T1 T2:List LR} {A1 A2:LR} {x y:Re}
end
section
variable {x y z a d:Re}
end
section
variable {n m z n' m' z' x y x1 y1 x2 y2:Re}
theorem lK (h:¬(n=0/\m=0)) (f:n'= -n) (em:m'= -m) (g:z'= -z):un n=un n'/\m*As (fs n m)=m'*As (fs n' m')/\z*As (fs n m)=z'*As (fs n' m'):=by
 rw[f,em,g];exact⟨lM.symm,(jm h).symm,(jm h).symm⟩
end
theorem ib (a:Rat):un (Re.ofRat a)=Re.ofRat (if a=0 then 0 else 1):=by
 by_cases h:a=0
 ·rw[if_pos h,Kn (by rw[h];rfl)];rfl
 rw[if_neg h,Ko (fun e=>h (Re.Du.1 e))];rfl
theorem ia (a b:Rat):fs (Re.ofRat a) (Re.ofRat b)=Re.ofRat (if a=0 then b else a):=by
 by_cases h:a=0
 ·rw[if_pos h,It (by rw[h];rfl)]
 rw[if_neg h,Hx (fun e=>h (Re.Du.1 e))]
theorem kf {TT:List (List Rat)->Prop} {w:List (List Rat)} {R b c M q p k:Nat} (F:Fm TT w R b c M q p) {T1:List LR} {A1:LR} {x:Re} (ha:Nm TT w b k T1 A1 x) (C:k+c+1<=M) {r:Rat} (v:Bz r) (B:(0:Re)<=Re.ofRat r) (e:x=Re.ofRat r*Re.ofRat r):∃T A,Nm TT w b 1 T A (Re.ofRat r)/\CF 86 [.agg [.sl (.sl AA) T1,.sl AA A1]] (.AE [(true,[.sl (.sl AA) T,.sl AA A]),(false,[.int .i64 0])]):=by
 obtain⟨u,hu,o,j,H,D,t⟩:=F.own (by omega) ha;have G:=(F.g C (by omega)).toGam;have f:Ax u x=u:=EW ⟨_,Ds r u,e.symm⟩;have i:0<=x:=by rw[e];exact Re.IE _
 have h:Re.sqrt x=Re.ofRat r:=Re.Gs (Re.GN x) B (by rw[Re.E9 i,e]);have s:El u 64 (Re.sqrt x):=by rw[h];exact El.rat (G.AU hu).red (IZ v (Nat.le_refl 64))
 exact⟨_,_,⟨u,hu,rfl,rfl,Ds r u,by rw[Nat.one_mul];exact El.rat (G.AU F.top).red (IZ v F.hb)⟩,W6 G hu o j (t.mono (Nat.mul_le_mul_right b (Nat.le_succ (k+c)))) (by rw[f];exact hu) i (by rw[f]) (by rw[f,h]) (by rw[f];exact s) (by decide)⟩
end Go.Abs
namespace Go.Abs
open Go.RowKit
theorem lJ {P:List (List Rat)->Prop} {V:List Re} {w:List (List Rat)} (L:Pl P V w) {n:Re} (g:El w R4 n) (f:0<=n):Rt (Tf P) w 11500 167 (Tf (P4 P n)) (Ax w n) 1950000 2 n:=⟨fun {k T1 A1} t ha=>by
 have j:=L.lift g.mem f (b':=1950000) (k':=1) ha (by omega);obtain⟨u,hu,i,_,o,_⟩:=ha;refine cU (L.jL g f) j (by decide) (fun v _ e _=>?_) f ?_ (by decide)
 ·rw[<-Mw (i.symm.trans e)];exact hu.jX L.I o
 by_cases s:n=0
 ·have h:Re.sqrt n=Re.ofRat 0:=by
   have:=Re.E9 f;rcases Re.FH (this.trans s) with e | e <;> exact e
  rw[h];exact (El.rat (PJ (L.hw.red L.I) g.mem f) (IZ (b:=64) (r:=0) (by decide +kernel) (Nat.le_refl 64))).mono (by decide)
 have W:=j4 L.I L.hV L.h3 L.hw g (by grind);exact⟨W.root,W.rb.mono (by decide)⟩⟩
end Go.Abs
