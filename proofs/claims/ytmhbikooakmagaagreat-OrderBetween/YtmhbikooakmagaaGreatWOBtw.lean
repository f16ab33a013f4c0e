/- Part 33 of a proof. Conditions: each theorem's own. -/
import Derived.Test.YtmhbikooakmagaaGreatQk31
set_option linter.all false
set_option maxHeartbeats 8000000
set_option maxRecDepth 20000
open Go.Proofs
namespace Go.Abs
open Go.RowKit
variable {x0 x1 y0 y1:Re}
theorem SY:Re.ofRat (1/2)+Re.ofRat (1/2)=1:=by
 rw[<-Re.ofRat_add,<-Re.ba];exact congrArg Re.ofRat (by decide +kernel)
theorem UT {a b:Re} (h:a+a=b+b):a=b:=by
 have c:=SY
 generalize Re.ofRat (1/2)=q at c
 have d:a=(a+a)*q:=by
  have:(a+a)*q=a*(q+q):=by grind
  rw[this,c];grind
 have f:b=(b+b)*q:=by
  have:(b+b)*q=b*(q+q):=by grind
  rw[this,c];grind
 rw[d,f,h]
theorem Yw:true=true↔Ea x0 y0 x1 y1 ((x0+x1)*Re.ofRat (1/2)) ((y0+y1)*Re.ofRat (1/2)):=by
 refine⟨fun _=>Kx.2 ?_,fun _=>rfl⟩;have i:=SY
 generalize Re.ofRat (1/2)=h at i ⊢
 have d:x0+x1=(x0+x1)*h+(x0+x1)*h:=by
  have:(x0+x1)*h+(x0+x1)*h=(x0+x1)*(h+h):=by grind
  rw[this];grind
 have f:y0+y1=(y0+y1)*h+(y0+y1)*h:=by
  have:(y0+y1)*h+(y0+y1)*h=(y0+y1)*(h+h):=by grind
  rw[this];grind
 generalize (x0+x1)*h=mx at d ⊢
 generalize (y0+y1)*h=c at f ⊢
 refine⟨Dx.2 (by grind),?_⟩
 by_cases e:x0=x1/\y0=y1
 ·obtain⟨rfl,rfl⟩:=e;exact .inl ⟨⟨rfl,rfl⟩,by grind,by grind⟩
 refine .inr ⟨e,?_⟩;have:=Re.Fh (x0-mx);have:=Re.Fh (y0-c);have g:(x0-mx)*(x1-mx)+(y0-c)*(y1-c)= -((x0-mx)*(x0-mx)+(y0-c)*(y0-c)):=by grind
 rw[g];rcases Cv (-((x0-mx)*(x0-mx)+(y0-c)*(y0-c))) with⟨_,b⟩ |⟨_,b⟩ |⟨a,_⟩
 ·omega
 ·omega
 grind
theorem Yu:true=true↔Ea x0 y0 x1 y1 x0 y0:=⟨fun _=> .inl ⟨rfl,rfl⟩,fun _=>rfl⟩
theorem Yv {e:Bool} (he:e=true↔x0=x1/\y0=y1):e=true↔Ea x0 y0 x1 y1 (x1+(x1+ -x0)) (y1+(y1+ -y0)):=by
 rw[he]
 constructor
 ·rintro⟨rfl,rfl⟩;exact .inl ⟨by grind,by grind⟩
 rintro (⟨h,k⟩ |⟨h,k⟩ |⟨_,k⟩)
 ·exact⟨UT (by grind),UT (by grind)⟩
 ·exact⟨by grind,by grind⟩
 have d:=Re.Fh (x1-x0);have f:=Re.Fh (y1-y0);have c:(x0-(x1+(x1+ -x0)))*(x1-(x1+(x1+ -x0)))+(y0-(y1+(y1+ -y0)))*(y1-(y1+(y1+ -y0)))=((x1-x0)*(x1-x0)+(y1-y0)*(y1-y0))+((x1-x0)*(x1-x0)+(y1-y0)*(y1-y0)):=by grind
 rw[c] at k;rcases Cv (((x1-x0)*(x1-x0)+(y1-y0)*(y1-y0))+((x1-x0)*(x1-x0)+(y1-y0)*(y1-y0))) with⟨a,_⟩ |⟨_,b⟩ |⟨_,b⟩
 ·grind
 ·omega
 omega
theorem fp {X:List (el Bo)} {W:List UInt8} {ns:List Nu} (D:ns=(runN (X.take 24)).1) {V:List Re} (v:V.length<=3) (m:∀n∈ns,BU V n):CF 8 [.agg [.sl (.pr .u8 (.pr .u8 (.pr .u8 (.pr .i8 .u8)))) X,.sl .u8 W]] (.one (.bool true)):=by
 obtain⟨w,L⟩:=L3 v m;have F:=L.fd;obtain⟨Q,C⟩:∃z,z=Hl ns W:=⟨_,rfl⟩
 obtain⟨c,O⟩:=xB (decide (3<=Q.length));refine Ds Tryz.func8 fun E h=>?_
 conv=>cbv
 refine AB h (PX D v m C (i':=3) ⟨rfl⟩ (by decide) O) ?_;conv=>cbv
 refine AB h Ia ?_;conv=>cbv
 refine Ai ?_;conv=>cbv
 intro n20 s;conv=>cbv
 cases n20 <;> conv=>cbv
 ·have B:=C1 s;have hl:3<=Q.length:=of_decide_eq_true (O.symm.trans B);obtain⟨x0,a⟩:=AL (l:=Q) (i:=0) (by omega);obtain⟨J,M,G⟩:=Ge L m C a;have f:=G (b:=1950000) (k:=1) (by decide);obtain⟨x1,d⟩:=AL (l:=Q) (i:=1) (by omega);obtain⟨K,N,H⟩:=Ge L m C d;have g:=H (b:=1950000) (k:=1) (by decide);obtain⟨x2,p⟩:=AL (l:=Q) (i:=2) (by omega);obtain⟨Y,Z,I⟩:=Ge L m C p;have A:=I (b:=1950000) (k:=1) (by decide);obtain⟨T,R,U,S,hm,cm⟩:=fU F f g (by omega) (by omega);obtain⟨Dg,DY,Dh,DZ,t,q⟩:=ff F g f;obtain⟨Di,Da,Dj,Db,u,r⟩:=PV F g t;obtain⟨e1,x⟩:=D4 (Ea J M K N Y Z);obtain⟨e2,y⟩:=D4 (J=K/\M=N);refine⟨x0,fun _=>⟨by omega,a⟩,?_⟩;try conv=>cbv
  refine⟨x1,fun _=>⟨by omega,d⟩,?_⟩;try conv=>cbv
  refine AB h cm ?_;conv=>cbv
  refine BC ?_;refine Ai ?_;conv=>cbv
  refine⟨x1,fun _=>⟨by omega,d⟩,?_⟩;try conv=>cbv
  refine⟨x0,fun _=>⟨by omega,a⟩,?_⟩;try conv=>cbv
  refine AB h q ?_;conv=>cbv
  refine BC ?_;refine⟨x1,fun _=>⟨by omega,d⟩,?_⟩;try conv=>cbv
  refine AB h r ?_;conv=>cbv
  refine BC ?_;refine Ai ?_;conv=>cbv
  refine Ai ?_;conv=>cbv
  refine⟨x0,fun _=>⟨by omega,a⟩,?_⟩;try conv=>cbv
  refine⟨x1,fun _=>⟨by omega,d⟩,?_⟩;try conv=>cbv
  refine⟨x2,fun _=>⟨by omega,p⟩,?_⟩;try conv=>cbv
  refine AB h (Lu F f g A x (by omega)) ?_;conv=>cbv
  refine⟨x0,fun _=>⟨by omega,a⟩,?_⟩;try conv=>cbv
  refine⟨x1,fun _=>⟨by omega,d⟩,?_⟩;try conv=>cbv
  refine⟨x2,fun _=>⟨by omega,p⟩,?_⟩;try conv=>cbv
  refine AB h (fS F f g A x (by omega)) ?_;conv=>cbv
  intro a1 o;(have o:=o.trans (show _=true by simp));subst o;conv=>cbv
  refine⟨x0,fun _=>⟨by omega,a⟩,?_⟩;try conv=>cbv
  refine⟨x1,fun _=>⟨by omega,d⟩,?_⟩;try conv=>cbv
  refine AB h (Lu F f g hm Yw (by omega)) ?_;conv=>cbv
  refine⟨x0,fun _=>⟨by omega,a⟩,?_⟩;try conv=>cbv
  refine⟨x1,fun _=>⟨by omega,d⟩,?_⟩;try conv=>cbv
  refine⟨x0,fun _=>⟨by omega,a⟩,?_⟩;try conv=>cbv
  refine AB h (Lu F f g f Yu (by omega)) ?_;conv=>cbv
  refine⟨x0,fun _=>⟨by omega,a⟩,?_⟩;try conv=>cbv
  refine⟨x1,fun _=>⟨by omega,d⟩,?_⟩;try conv=>cbv
  refine AB h (Lu F f g u (Yv y) (by omega)) ?_;conv=>cbv
  refine⟨x0,fun _=>⟨by omega,a⟩,?_⟩;try conv=>cbv
  refine⟨x1,fun _=>⟨by omega,d⟩,?_⟩;try conv=>cbv
  refine AB h (MV F f g (by omega) (by omega) (by omega) (by omega) y) ?_;conv=>cbv
  intro P j;(have j:=j.trans (show _=true by simp));subst j;conv=>cbv
  refine BC ?_;exact AD ⟨t2,trivial⟩
 have B:=C2 s;refine AB h Ia ?_;conv=>cbv
 exact AD ⟨t2,trivial⟩
end Go.Abs
