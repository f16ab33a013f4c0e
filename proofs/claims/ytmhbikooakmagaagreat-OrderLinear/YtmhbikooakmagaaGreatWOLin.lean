/- Part 33 of a proof. Conditions: each theorem's own. -/
import Derived.Test.YtmhbikooakmagaaGreatQk31
set_option linter.all false
set_option maxHeartbeats 8000000
set_option maxRecDepth 20000
open Go.Proofs
namespace Go.Abs
open Go.RowKit
variable {n:Int}
theorem MG (x:Re):AZ (-x)= -AZ x:=by
 rcases Cv x with⟨a,b⟩ |⟨a,b⟩ |⟨a,b⟩
 ·rw[b,FE (by grind)];rfl
 ·rw[b,a,show -(0:Re)=0 by grind,E0];rfl
 rw[b,Ho (by grind)]
theorem RZ (a b c d:Re): -1<=DC a b c d/\DC a b c d<=1:=by
 unfold DC;split <;> exact HG _
theorem ZC (a b c d:Re):DC a b c d= -DC c d a b:=by
 unfold DC;rw[show a-c= -(c-a) by grind,show b-d= -(d-b) by grind,MG,MG]
 split <;> split <;> omega
theorem ZB {a b c d:Re}:DC a b c d=0↔a=c/\b=d:=by
 unfold DC
 split
 ·rename_i h
  have:=Dx.1 h;rw[Dx];exact⟨fun z=>⟨by grind,by grind⟩,fun z=>by grind⟩
 rename_i h
 exact⟨fun z=>absurd z h,fun z=>absurd (Dx.2 (show a-c=0 by grind)) h⟩
theorem U9 {x y z:Re} (h:z=x+y):(0<=AZ x->0<=AZ y->(AZ z=AZ x\/AZ z=AZ y)/\AZ x<=AZ z/\AZ y<=AZ z)/\(AZ x<=0->AZ y<=0->(AZ z=AZ x\/AZ z=AZ y)/\AZ z<=AZ x/\AZ z<=AZ y):=by
 subst h;rcases Cv x with⟨a,b⟩ |⟨a,b⟩ |⟨a,b⟩ <;> rcases Cv y with⟨c,d⟩ |⟨c,d⟩ |⟨c,d⟩ <;> rcases Cv (x+y) with⟨e,f⟩ |⟨e,f⟩ |⟨e,f⟩ <;> first | omega | (exfalso;grind)
theorem ZD {x0 y0 x1 y1 x2 y2:Re} {a b c:Int} (ha:a=DC x0 y0 x1 y1) (hb:b=DC x1 y1 x2 y2) (d:c=DC x0 y0 x2 y2):(0<=a->0<=b->(c=a\/c=b)/\a<=c/\b<=c)/\(a<=0->b<=0->(c=a\/c=b)/\c<=a/\c<=b):=by
 have j:=U9 (x:=x0-x1) (y:=x1-x2) (z:=x0-x2) (by grind);have k:=U9 (x:=y0-y1) (y:=y1-y2) (z:=y0-y2) (by grind);have b1:=HG (x0-x1);have b2:=HG (x1-x2);have b3:=HG (x0-x2);have g:=HG (y0-y1);have h:=HG (y1-y2);have i:=HG (y0-y2);unfold DC at ha hb d;have l:AZ (x0-x1)=0->AZ (x1-x2)=0->AZ (x0-x2)=0:=fun e f=>Dx.2 (by have:=Dx.1 e;have:=Dx.1 f;grind)
 split at ha <;> split at hb <;> split at d <;> omega
theorem OA {a b:Int} (h:n=if b>a then b else a):(a<=n/\b<=n)/\(n=a\/n=b):=by split at h <;> omega
theorem Ib {a b:Int} (h:n=if b<a then b else a):(n<=a/\n<=b)/\(n=a\/n=b):=by split at h <;> omega
theorem fq {X:List (el Bo)} {W:List UInt8} {ns:List Nu} (ax:ns=(runN (X.take 24)).1) {V:List Re} (ae:V.length<=3) (M:∀n∈ns,BU V n):CF 7 [.agg [.sl (.pr .u8 (.pr .u8 (.pr .u8 (.pr .i8 .u8)))) X,.sl .u8 W]] (.one (.bool true)):=by
 obtain⟨w,L⟩:=L3 ae M;have F:=L.fd;obtain⟨Q,hQ⟩:∃z,z=Hl ns W:=⟨_,rfl⟩
 obtain⟨c,hc⟩:=xB (decide (3<=Q.length));refine Ds Tryz.func7 fun E hE=>?_
 conv=>cbv
 refine AB hE (PX ax ae M hQ (i':=3) ⟨rfl⟩ (by decide) hc) ?_;conv=>cbv
 refine AB hE Ia ?_;conv=>cbv
 refine Ai ?_;conv=>cbv
 intro n22 a8;conv=>cbv
 cases n22 <;> conv=>cbv
 ·have an:=C1 a8;have hl:3<=Q.length:=of_decide_eq_true (hc.symm.trans an);obtain⟨x0,O⟩:=AL (l:=Q) (i:=0) (by omega);obtain⟨X0,Y0,ay⟩:=Ge L M hQ O;have R:=ay (b:=1950000) (k:=1) (by decide);obtain⟨x1,P⟩:=AL (l:=Q) (i:=1) (by omega);obtain⟨X1,Y1,az⟩:=Ge L M hQ P;have S:=az (b:=1950000) (k:=1) (by decide);obtain⟨x2,a7⟩:=AL (l:=Q) (i:=2) (by omega);obtain⟨X2,Y2,aA⟩:=Ge L M hQ a7;have ag:=aA (b:=1950000) (k:=1) (by decide);obtain⟨s1,N⟩:∃z,z=DC X0 Y0 X1 Y1:=⟨_,rfl⟩
  obtain⟨s2,a6⟩:∃z,z=DC X1 Y1 X2 Y2:=⟨_,rfl⟩
  obtain⟨s3,ah⟩:∃z,z=DC X0 Y0 X2 Y2:=⟨_,rfl⟩
  obtain⟨s4,ai⟩:∃z,z=DC X1 Y1 X0 Y0:=⟨_,rfl⟩
  have aD: -1<=s1/\s1<=1:=N ▸ RZ ..;have aE: -1<=s2/\s2<=1:=a6 ▸ RZ ..;have aF:s1= -s4:=by rw[N,ai];exact ZC ..
  have aG:=ZD N a6 ah;obtain⟨e1,af⟩:=xB ((s1==0));refine⟨x0,fun _=>⟨by omega,O⟩,?_⟩;try conv=>cbv
  refine⟨x1,fun _=>⟨by omega,P⟩,?_⟩;try conv=>cbv
  refine AB hE (Jv F R S N (by omega)) ?_;conv=>cbv
  refine BC ?_;refine⟨x1,fun _=>⟨by omega,P⟩,?_⟩;try conv=>cbv
  refine⟨x2,fun _=>⟨by omega,a7⟩,?_⟩;try conv=>cbv
  refine AB hE (Jv F S ag a6 (by omega)) ?_;conv=>cbv
  refine BC ?_;refine⟨x0,fun _=>⟨by omega,O⟩,?_⟩;try conv=>cbv
  refine⟨x2,fun _=>⟨by omega,a7⟩,?_⟩;try conv=>cbv
  refine AB hE (Jv F R ag ah (by omega)) ?_;conv=>cbv
  refine BC ?_;refine⟨x1,fun _=>⟨by omega,P⟩,?_⟩;try conv=>cbv
  refine⟨x0,fun _=>⟨by omega,O⟩,?_⟩;try conv=>cbv
  refine AB hE (Jv F S R ai (by omega)) ?_;conv=>cbv
  refine BC ?_;refine Bu ?_;conv=>cbv
  refine Bu ?_;conv=>cbv
  refine Bu ?_;conv=>cbv
  refine Bu ?_;conv=>cbv
  intro aH aa;conv=>cbv
  have aa:=wrap_i64 aa;intro aB ab;conv=>cbv
  cases aB <;> conv=>cbv
  ·have ao:=Ac ab;exact absurd (by omega) ao
  have ao:=Ae ab;intro aI aw;conv=>cbv
  refine⟨x0,fun _=>⟨by omega,O⟩,?_⟩;try conv=>cbv
  refine⟨x1,fun _=>⟨by omega,P⟩,?_⟩;try conv=>cbv
  refine AB (r:= .one (.bool e1)) hE (MV F R S (by omega) (by omega) (by omega) (by omega) (by rw[af,beq_iff_eq,N];exact ZB)) ?_;try conv=>cbv
  intro aC ad;conv=>cbv
  cases aC <;> conv=>cbv
  ·have aq:=NA ad;exact absurd (aw.trans af.symm) aq
  have aq:=NB ad;intro ar U;conv=>cbv
  cases ar <;> conv=>cbv
  ·have aj:=Cr U;intro a2 B;conv=>cbv
   have T:=OA B;intro H x;conv=>cbv
   cases H <;> conv=>cbv
   ·have D:=Ac x;intro J m;conv=>cbv
    have A:=Ib m;intro s h;conv=>cbv
    cases s <;> conv=>cbv
    ·have p:=Ac h;intro u o;conv=>cbv
     refine AH ?_;intro g a;conv=>cbv
     cases g <;> conv=>cbv
     ·have f:=Ac a;refine BC ?_
      exfalso;omega
     have f:=Ae a;intro v d;conv=>cbv
     refine BC ?_;exact AD ⟨⟨rfl,congrArg _ (by rw[d];exact (beq_iff_eq.2 (by omega)).symm),trivial⟩,trivial⟩
    have p:=Ae h;intro K C;conv=>cbv
    refine AH ?_;intro t j;conv=>cbv
    cases t <;> conv=>cbv
    ·have q:=AW j;intro u o;conv=>cbv
     refine AH ?_;intro g a;conv=>cbv
     cases g <;> conv=>cbv
     ·have f:=Ac a;refine BC ?_
      exfalso;omega
     have f:=Ae a;intro v d;conv=>cbv
     refine BC ?_;exact AD ⟨⟨rfl,congrArg _ (by rw[d];exact (beq_iff_eq.2 (by omega)).symm),trivial⟩,trivial⟩
    have q:=AY j;refine BC ?_;exact AD ⟨t2,trivial⟩
   have D:=Ae x;intro a5 a1;conv=>cbv
   refine AH ?_;intro I y;conv=>cbv
   cases I <;> conv=>cbv
   ·have G:=Bh y;intro J m;conv=>cbv
    have A:=Ib m;intro s h;conv=>cbv
    cases s <;> conv=>cbv
    ·have p:=Ac h;intro u o;conv=>cbv
     refine AH ?_;intro g a;conv=>cbv
     cases g <;> conv=>cbv
     ·have f:=Ac a;refine BC ?_
      exfalso;omega
     have f:=Ae a;intro v d;conv=>cbv
     refine BC ?_;exact AD ⟨⟨rfl,congrArg _ (by rw[d];exact (beq_iff_eq.2 (by omega)).symm),trivial⟩,trivial⟩
    have p:=Ae h;intro K C;conv=>cbv
    refine AH ?_;intro t j;conv=>cbv
    cases t <;> conv=>cbv
    ·have q:=AW j;intro u o;conv=>cbv
     refine AH ?_;intro g a;conv=>cbv
     cases g <;> conv=>cbv
     ·have f:=Ac a;refine BC ?_
      exfalso;omega
     have f:=Ae a;intro v d;conv=>cbv
     refine BC ?_;exact AD ⟨⟨rfl,congrArg _ (by rw[d];exact (beq_iff_eq.2 (by omega)).symm),trivial⟩,trivial⟩
    have q:=AY j;refine BC ?_;exact AD ⟨t2,trivial⟩
   have G:=Bi y;refine BC ?_;exact AD ⟨t2,trivial⟩
  have aj:=Cs U;intro au Y;conv=>cbv
  cases au <;> conv=>cbv
  ·have ak:=Cr Y;intro a2 B;conv=>cbv
   have T:=OA B;intro H x;conv=>cbv
   cases H <;> conv=>cbv
   ·have D:=Ac x;intro J m;conv=>cbv
    have A:=Ib m;intro s h;conv=>cbv
    cases s <;> conv=>cbv
    ·have p:=Ac h;intro u o;conv=>cbv
     refine AH ?_;intro g a;conv=>cbv
     cases g <;> conv=>cbv
     ·have f:=Ac a;refine BC ?_
      exfalso;omega
     have f:=Ae a;intro v d;conv=>cbv
     refine BC ?_;exact AD ⟨⟨rfl,congrArg _ (by rw[d];exact (beq_iff_eq.2 (by omega)).symm),trivial⟩,trivial⟩
    have p:=Ae h;intro K C;conv=>cbv
    refine AH ?_;intro t j;conv=>cbv
    cases t <;> conv=>cbv
    ·have q:=AW j;intro u o;conv=>cbv
     refine AH ?_;intro g a;conv=>cbv
     cases g <;> conv=>cbv
     ·have f:=Ac a;refine BC ?_
      exfalso;omega
     have f:=Ae a;intro v d;conv=>cbv
     refine BC ?_;exact AD ⟨⟨rfl,congrArg _ (by rw[d];exact (beq_iff_eq.2 (by omega)).symm),trivial⟩,trivial⟩
    have q:=AY j;refine BC ?_;exact AD ⟨t2,trivial⟩
   have D:=Ae x;intro a5 a1;conv=>cbv
   refine AH ?_;intro I y;conv=>cbv
   cases I <;> conv=>cbv
   ·have G:=Bh y;intro J m;conv=>cbv
    have A:=Ib m;intro s h;conv=>cbv
    cases s <;> conv=>cbv
    ·have p:=Ac h;intro u o;conv=>cbv
     refine AH ?_;intro g a;conv=>cbv
     cases g <;> conv=>cbv
     ·have f:=Ac a;refine BC ?_
      exfalso;omega
     have f:=Ae a;intro v d;conv=>cbv
     refine BC ?_;exact AD ⟨⟨rfl,congrArg _ (by rw[d];exact (beq_iff_eq.2 (by omega)).symm),trivial⟩,trivial⟩
    have p:=Ae h;intro K C;conv=>cbv
    refine AH ?_;intro t j;conv=>cbv
    cases t <;> conv=>cbv
    ·have q:=AW j;intro u o;conv=>cbv
     refine AH ?_;intro g a;conv=>cbv
     cases g <;> conv=>cbv
     ·have f:=Ac a;refine BC ?_
      exfalso;omega
     have f:=Ae a;intro v d;conv=>cbv
     refine BC ?_;exact AD ⟨⟨rfl,congrArg _ (by rw[d];exact (beq_iff_eq.2 (by omega)).symm),trivial⟩,trivial⟩
    have q:=AY j;refine BC ?_;exact AD ⟨t2,trivial⟩
   have G:=Bi y;refine BC ?_;exact AD ⟨t2,trivial⟩
  have ak:=Cs Y;intro av Z;conv=>cbv
  cases av <;> conv=>cbv
  ·have al:=Cr Z;intro a2 B;conv=>cbv
   have T:=OA B;intro H x;conv=>cbv
   cases H <;> conv=>cbv
   ·have D:=Ac x;intro J m;conv=>cbv
    have A:=Ib m;intro s h;conv=>cbv
    cases s <;> conv=>cbv
    ·have p:=Ac h;intro u o;conv=>cbv
     refine AH ?_;intro g a;conv=>cbv
     cases g <;> conv=>cbv
     ·have f:=Ac a;refine BC ?_
      exfalso;omega
     have f:=Ae a;intro v d;conv=>cbv
     refine BC ?_;exact AD ⟨⟨rfl,congrArg _ (by rw[d];exact (beq_iff_eq.2 (by omega)).symm),trivial⟩,trivial⟩
    have p:=Ae h;intro K C;conv=>cbv
    refine AH ?_;intro t j;conv=>cbv
    cases t <;> conv=>cbv
    ·have q:=AW j;intro u o;conv=>cbv
     refine AH ?_;intro g a;conv=>cbv
     cases g <;> conv=>cbv
     ·have f:=Ac a;refine BC ?_
      exfalso;omega
     have f:=Ae a;intro v d;conv=>cbv
     refine BC ?_;exact AD ⟨⟨rfl,congrArg _ (by rw[d];exact (beq_iff_eq.2 (by omega)).symm),trivial⟩,trivial⟩
    have q:=AY j;refine BC ?_;exact AD ⟨t2,trivial⟩
   have D:=Ae x;intro a5 a1;conv=>cbv
   refine AH ?_;intro I y;conv=>cbv
   cases I <;> conv=>cbv
   ·have G:=Bh y;intro J m;conv=>cbv
    have A:=Ib m;intro s h;conv=>cbv
    cases s <;> conv=>cbv
    ·have p:=Ac h;intro u o;conv=>cbv
     refine AH ?_;intro g a;conv=>cbv
     cases g <;> conv=>cbv
     ·have f:=Ac a;refine BC ?_
      exfalso;omega
     have f:=Ae a;intro v d;conv=>cbv
     refine BC ?_;exact AD ⟨⟨rfl,congrArg _ (by rw[d];exact (beq_iff_eq.2 (by omega)).symm),trivial⟩,trivial⟩
    have p:=Ae h;intro K C;conv=>cbv
    refine AH ?_;intro t j;conv=>cbv
    cases t <;> conv=>cbv
    ·have q:=AW j;intro u o;conv=>cbv
     refine AH ?_;intro g a;conv=>cbv
     cases g <;> conv=>cbv
     ·have f:=Ac a;refine BC ?_
      exfalso;omega
     have f:=Ae a;intro v d;conv=>cbv
     refine BC ?_;exact AD ⟨⟨rfl,congrArg _ (by rw[d];exact (beq_iff_eq.2 (by omega)).symm),trivial⟩,trivial⟩
    have q:=AY j;refine BC ?_;exact AD ⟨t2,trivial⟩
   have G:=Bi y;refine BC ?_;exact AD ⟨t2,trivial⟩
  have al:=Cs Z;refine BC ?_;exact AD ⟨t2,trivial⟩
 have an:=C2 a8;refine AB hE Ia ?_;conv=>cbv
 exact AD ⟨t2,trivial⟩
end Go.Abs
