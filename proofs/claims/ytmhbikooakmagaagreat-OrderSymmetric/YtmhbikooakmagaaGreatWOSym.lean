/- Part 33 of a proof. Conditions: each theorem's own. -/
import Derived.Test.YtmhbikooakmagaaGreatQk31
set_option linter.all false
set_option maxHeartbeats 8000000
set_option maxRecDepth 20000
open Go.Proofs
namespace Go.Abs
open Go.RowKit
theorem MG (x:Re):AZ (-x)= -AZ x:=by
 rcases Cv x with⟨a,b⟩ |⟨a,b⟩ |⟨a,b⟩
 ·rw[b,FE (by grind)];rfl
 ·rw[b,a,show -(0:Re)=0 by grind,E0];rfl
 rw[b,Ho (by grind)]
theorem ft {X:List (el Bo)} {W:List UInt8} {ns:List Nu} (N:ns=(runN (X.take 24)).1) {V:List Re} (y:V.length<=3) (a:∀n∈ns,BU V n):CF 6 [.agg [.sl (.pr .u8 (.pr .u8 (.pr .u8 (.pr .i8 .u8)))) X,.sl .u8 W]] (.one (.bool true)):=by
 obtain⟨w,L⟩:=L3 y a;have F:=L.fd;obtain⟨Q,I⟩:∃z,z=Hl ns W:=⟨_,rfl⟩
 obtain⟨c,T⟩:=xB (decide (3<=Q.length));refine Ds Tryz.func6 fun E t=>?_
 conv=>cbv
 refine AB t (PX N y a I (i':=3) ⟨rfl⟩ (by decide) T) ?_;conv=>cbv
 refine AB t Ia ?_;conv=>cbv
 refine Ai ?_;conv=>cbv
 intro n20 u;conv=>cbv
 cases n20 <;> conv=>cbv
 ·have C:=C1 u;have hl:3<=Q.length:=of_decide_eq_true (T.symm.trans C);obtain⟨x0,f⟩:=AL (l:=Q) (i:=0) (by omega);obtain⟨p,r,O⟩:=Ge L a I f;have j:=O (b:=1950000) (k:=1) (by decide);obtain⟨x1,g⟩:=AL (l:=Q) (i:=1) (by omega);obtain⟨q,s,P⟩:=Ge L a I g;have m:=P (b:=1950000) (k:=1) (by decide);obtain⟨x2,h⟩:=AL (l:=Q) (i:=2) (by omega);obtain⟨G,H,R⟩:=Ge L a I h;have o:=R (b:=1950000) (k:=1) (by decide);obtain⟨s1,d⟩:∃z,z=AZ (-(s-r)*(G-p)+(q-p)*(H-r)):=⟨_,rfl⟩
  obtain⟨s2,A⟩:∃z,z=AZ (-(r-s)*(G-q)+(p-q)*(H-s)):=⟨_,rfl⟩
  obtain⟨s3,B⟩:∃z,z=AZ (-(H-s)*(p-q)+(G-q)*(r-s)):=⟨_,rfl⟩
  have K:=HG (-(s-r)*(G-p)+(q-p)*(H-r));rw[<-d] at K;have U:s2= -s1:=by rw[A,d,<-MG];exact congrArg AZ (by grind)
  have M:s3=s1:=by rw[B,d];exact congrArg AZ (by grind)
  refine⟨x0,fun _=>⟨by omega,f⟩,?_⟩;try conv=>cbv
  refine⟨x1,fun _=>⟨by omega,g⟩,?_⟩;try conv=>cbv
  refine⟨x2,fun _=>⟨by omega,h⟩,?_⟩;try conv=>cbv
  refine AB t (Hh F j m o d (by omega)) ?_;conv=>cbv
  refine BC ?_;refine⟨x1,fun _=>⟨by omega,g⟩,?_⟩;try conv=>cbv
  refine⟨x0,fun _=>⟨by omega,f⟩,?_⟩;try conv=>cbv
  refine⟨x2,fun _=>⟨by omega,h⟩,?_⟩;try conv=>cbv
  refine AB t (Hh F m j o A (by omega)) ?_;conv=>cbv
  refine BC ?_;refine⟨x1,fun _=>⟨by omega,g⟩,?_⟩;try conv=>cbv
  refine⟨x2,fun _=>⟨by omega,h⟩,?_⟩;try conv=>cbv
  refine⟨x0,fun _=>⟨by omega,f⟩,?_⟩;try conv=>cbv
  refine AB t (Hh F m o j B (by omega)) ?_;conv=>cbv
  refine BC ?_;refine Bu ?_;conv=>cbv
  refine Bu ?_;conv=>cbv
  refine Bu ?_;conv=>cbv
  intro Y v;conv=>cbv
  have v:=wrap_i64 v;intro S x;conv=>cbv
  cases S <;> conv=>cbv
  ·have D:=Ac x;exact absurd (by omega) D
  have D:=Ae x;intro Z J;conv=>cbv
  exact AD ⟨⟨rfl,congrArg _ ((J.trans (beq_iff_eq.2 M.symm)).symm),trivial⟩,trivial⟩
 have C:=C2 u;refine AB t Ia ?_;conv=>cbv
 exact AD ⟨t2,trivial⟩
end Go.Abs
