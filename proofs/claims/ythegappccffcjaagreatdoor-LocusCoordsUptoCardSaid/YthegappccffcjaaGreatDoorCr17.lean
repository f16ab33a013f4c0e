/- Part 18 of a proof. Conditions: each theorem's own. -/
import Derived.Test.YthegappccffcjaaGreatDoorCr16
set_option linter.all false
set_option maxHeartbeats 80000000
set_option maxRecDepth 20000
open Go.Proofs
namespace Go.Abs
open Go.RowKit
section
def Bj (f:FuncId) (i:Int) (cs:List AC) (kd:Int) (P C:List Int) (V:List Ex) (sd:Int) (vl:LR) (AE:List Int) (AG:Int) (cr:List (el AR)):Prop:=
 ∀e:Int,Bi Tryz.prog f [BT,AD i] (.var 0 (BI kd P C V sd vl AE AG cr e)) (.agg cs) (.var 0 (BI kd P C V sd vl AE AG cr e))
variable {Au Aw vl:LR} {C P AE:List Int} {Tu Tw:List LR} {V:List Ex} {c0 e1 p0 AG q0 r sd t:Int} {cr:List (el AR)} {r0 r1:el AR} {x:el CV}
theorem r9 (u:P[0]? =some p0) (h:p0=t) (o:Bj 125 0 (cV x) 13 P C V sd vl AE AG cr) (m:Bj 124 0 (cN r0) 13 P C V sd vl AE AG cr) (hm:CF 155 [.agg (cN r0),.agg (cN r0)] (AS (AK Tu Au) 0)) (he:e1=if r=0 then 6 else 0) (n:CF 49 [.agg (AK Tu Au)] (AD r)):Bi Tryz.prog 78 [BT,AD t] (.var 0 (BI 13 P C V sd vl AE AG cr 0)) (.agg [.int .i64 2,BC,BD,BC,BD,BC,BD,BC,BD,BC,BD,BA x.1.1,AU x.1.2,BA x.2.1,AU x.2.2,BA Tu,AU Au,BC,BD,BC,BD]) (.var 0 (BI 13 P C V sd vl AE AG cr e1)):=by
 refine CI Tryz.func78 (by kernel_rfl) rfl fun E g=>?_
 conv=>cbv
 refine .inr ?_;refine Bx ?_;refine Cj u ?_;refine CU (fun f=>?_) fun f=>?_
 ·exact absurd h f
 refine vu rfl (BE g (o 0)) AQ ?_
 refine vu rfl (BE g (m 0)) AQ ?_
 refine vu rfl (BE g (Kf hm)) AQ ?_
 refine vu rfl (BE g (I9 he n)) AQ ?_
 refine AQ
theorem r6 (u:P[0]? =some p0) (h:p0≠t) (o:Bj 82 0 (cV x) 13 P C V sd vl AE AG cr) (m:Bj 124 0 (cN r0) 13 P C V sd vl AE AG cr) (hm:CF 155 [.agg (cN r0),.agg (cN r0)] (AS (AK Tu Au) 0)) (he:e1=if r=0 then 6 else 0) (n:CF 49 [.agg (AK Tu Au)] (AD r)):Bi Tryz.prog 78 [BT,AD t] (.var 0 (BI 13 P C V sd vl AE AG cr 0)) (.agg [.int .i64 2,BC,BD,BC,BD,BC,BD,BC,BD,BC,BD,BA x.1.1,AU x.1.2,BA x.2.1,AU x.2.2,BA Tu,AU Au,BC,BD,BC,BD]) (.var 0 (BI 13 P C V sd vl AE AG cr e1)):=by
 refine CI Tryz.func78 (by kernel_rfl) rfl fun E g=>?_
 conv=>cbv
 refine .inr ?_;refine Bx ?_;refine Cj u ?_;refine BV (fun f=>?_) fun f=>?_
 ·exact absurd f h
 refine vu rfl (BE g (o 0)) AQ ?_
 refine vu rfl (BE g (m 0)) AQ ?_
 refine vu rfl (BE g (Kf hm)) AQ ?_
 refine vu rfl (BE g (I9 he n)) AQ ?_
 refine AQ
theorem sT {a b:el CV} {Tl Tm Tn Tx Ty:List LR} {Al Am An Ax Ay:LR} {f1:Int} (ha:Bj 82 0 (cV a) 16 P C V sd vl AE AG cr) (hb:Bj 82 1 (cV b) 16 P C V sd vl AE AG cr) (m:Bj 124 0 (cN r0) 16 P C V sd vl AE AG cr) (g:CF 159 [.agg (cV a),.agg (cV b),.agg (cN r0),AD sd] (AS (Bu Tl Al Tm Am Tn An) f1)) (h:CF 166 [.agg (cV b),.agg (cV a)] (AS (AI Tx Ax Ty Ay) 0)):Bi Tryz.prog 78 [BT,AD t] (.var 0 (BI 16 P C V sd vl AE AG cr 0)) (.agg [.int .i64 1,BA Tl,AU Al,BA Tm,AU Am,BA Tn,AU An,BA Tx,AU Ax,BA Ty,AU Ay,BC,BD,BC,BD,BC,BD,BC,BD,BC,BD]) (.var 0 (BI 16 P C V sd vl AE AG cr f1)):=by
 refine CI Tryz.func78 (by kernel_rfl) rfl fun E f=>?_
 conv=>cbv
 refine .inr ?_;refine AY ?_;refine Bx ?_;refine vu rfl (BE f (ha 0)) AQ ?_
 refine vu rfl (BE f (hb 0)) AQ ?_
 refine vu rfl (BE f (m 0)) AQ ?_
 refine vu rfl (BE f (dG g h)) AQ ?_
 refine AQ
theorem sR (J:C[0]? =some c0) (z:0<=c0) (I:AE[c0.toNat]? =some q0) (D:q0=t) (A:sd=1) (H:Bj 125 1 (cV x) 17 P C V sd vl AE AG cr) (F:Bj 124 0 (cN r0) 17 P C V sd vl AE AG cr) (o:Bj 124 1 (cN r1) 17 P C V sd vl AE AG cr) (B:CF 151 [.agg (cN r0),.agg (cN r1)] (AS (AK Tw Aw) 0)) (hm:CF 155 [.agg (AK Tw Aw),.agg (AK Tw Aw)] (AS (AK Tu Au) 0)) (he:e1=if r=0 then 6 else 0) (G:CF 49 [.agg (AK Tu Au)] (AD r)):Bi Tryz.prog 78 [BT,AD t] (.var 0 (BI 17 P C V sd vl AE AG cr 0)) (.agg [.int .i64 2,BC,BD,BC,BD,BC,BD,BC,BD,BC,BD,BA x.1.1,AU x.1.2,BA x.2.1,AU x.2.2,BA Tu,AU Au,BC,BD,BC,BD]) (.var 0 (BI 17 P C V sd vl AE AG cr e1)):=by
 refine CI Tryz.func78 (by kernel_rfl) rfl fun E f=>?_
 conv=>cbv
 refine .inr ?_;refine AY ?_;refine AY ?_;refine Cj J ?_;refine Cj I ?_;intro u g;refine .inr ?_;cases u <;> conv=>cbv
 ·have m:=Bm g;exact absurd D m
 have m:=Bp g;intro y h;conv=>cbv
 refine .inr ?_;cases y <;> conv=>cbv
 ·have n:=HK h;refine vu rfl (BE f (H 0)) AQ ?_
  refine vu rfl (BE f (F 0)) AQ ?_
  refine vu rfl (BE f (o 0)) AQ ?_
  refine vu rfl (BE f (My B)) AQ ?_
  refine vu rfl (BE f (Kf hm)) AQ ?_
  refine vu rfl (BE f (I9 he G)) AQ ?_
  refine AQ
 have n:=HM h;exact absurd A n
theorem sS (J:C[0]? =some c0) (z:0<=c0) (I:AE[c0.toNat]? =some q0) (D:q0=t) (A:sd≠1) (H:Bj 125 1 (cV x) 17 P C V sd vl AE AG cr) (F:Bj 124 0 (cN r0) 17 P C V sd vl AE AG cr) (o:Bj 124 1 (cN r1) 17 P C V sd vl AE AG cr) (B:CF 128 [.agg (cN r0),.agg (cN r1)] (AS (AK Tw Aw) 0)) (hm:CF 155 [.agg (AK Tw Aw),.agg (AK Tw Aw)] (AS (AK Tu Au) 0)) (he:e1=if r=0 then 6 else 0) (G:CF 49 [.agg (AK Tu Au)] (AD r)):Bi Tryz.prog 78 [BT,AD t] (.var 0 (BI 17 P C V sd vl AE AG cr 0)) (.agg [.int .i64 2,BC,BD,BC,BD,BC,BD,BC,BD,BC,BD,BA x.1.1,AU x.1.2,BA x.2.1,AU x.2.2,BA Tu,AU Au,BC,BD,BC,BD]) (.var 0 (BI 17 P C V sd vl AE AG cr e1)):=by
 refine CI Tryz.func78 (by kernel_rfl) rfl fun E f=>?_
 conv=>cbv
 refine .inr ?_;refine AY ?_;refine AY ?_;refine Cj J ?_;refine Cj I ?_;intro u g;refine .inr ?_;cases u <;> conv=>cbv
 ·have m:=Bm g;exact absurd D m
 have m:=Bp g;intro y h;conv=>cbv
 refine .inr ?_;cases y <;> conv=>cbv
 ·have n:=HK h;exact absurd n A
 have n:=HM h;refine vu rfl (BE f (H 0)) AQ ?_
 refine vu rfl (BE f (F 0)) AQ ?_
 refine vu rfl (BE f (o 0)) AQ ?_
 refine vu rfl (BE f (My B)) AQ ?_
 refine vu rfl (BE f (Kf hm)) AQ ?_
 refine vu rfl (BE f (I9 he G)) AQ ?_
 refine AQ
theorem sO (J:C[0]? =some c0) (z:0<=c0) (I:AE[c0.toNat]? =some q0) (D:q0≠t) (A:sd=1) (H:Bj 125 0 (cV x) 17 P C V sd vl AE AG cr) (F:Bj 124 0 (cN r0) 17 P C V sd vl AE AG cr) (o:Bj 124 1 (cN r1) 17 P C V sd vl AE AG cr) (B:CF 151 [.agg (cN r0),.agg (cN r1)] (AS (AK Tw Aw) 0)) (hm:CF 155 [.agg (AK Tw Aw),.agg (AK Tw Aw)] (AS (AK Tu Au) 0)) (he:e1=if r=0 then 6 else 0) (G:CF 49 [.agg (AK Tu Au)] (AD r)):Bi Tryz.prog 78 [BT,AD t] (.var 0 (BI 17 P C V sd vl AE AG cr 0)) (.agg [.int .i64 2,BC,BD,BC,BD,BC,BD,BC,BD,BC,BD,BA x.1.1,AU x.1.2,BA x.2.1,AU x.2.2,BA Tu,AU Au,BC,BD,BC,BD]) (.var 0 (BI 17 P C V sd vl AE AG cr e1)):=by
 refine CI Tryz.func78 (by kernel_rfl) rfl fun E f=>?_
 conv=>cbv
 refine .inr ?_;refine AY ?_;refine AY ?_;refine Cj J ?_;refine Cj I ?_;intro u g;refine .inr ?_;cases u <;> conv=>cbv
 ·have m:=Bm g;intro y h;conv=>cbv
  refine .inr ?_;cases y <;> conv=>cbv
  ·have n:=HK h;refine vu rfl (BE f (H 0)) AQ ?_
   refine vu rfl (BE f (F 0)) AQ ?_
   refine vu rfl (BE f (o 0)) AQ ?_
   refine vu rfl (BE f (My B)) AQ ?_
   refine vu rfl (BE f (Kf hm)) AQ ?_
   refine vu rfl (BE f (I9 he G)) AQ ?_
   refine AQ
  have n:=HM h;exact absurd A n
 have m:=Bp g;exact absurd m D
theorem sQ (J:C[0]? =some c0) (z:0<=c0) (I:AE[c0.toNat]? =some q0) (D:q0≠t) (A:sd≠1) (H:Bj 125 0 (cV x) 17 P C V sd vl AE AG cr) (F:Bj 124 0 (cN r0) 17 P C V sd vl AE AG cr) (o:Bj 124 1 (cN r1) 17 P C V sd vl AE AG cr) (B:CF 128 [.agg (cN r0),.agg (cN r1)] (AS (AK Tw Aw) 0)) (hm:CF 155 [.agg (AK Tw Aw),.agg (AK Tw Aw)] (AS (AK Tu Au) 0)) (he:e1=if r=0 then 6 else 0) (G:CF 49 [.agg (AK Tu Au)] (AD r)):Bi Tryz.prog 78 [BT,AD t] (.var 0 (BI 17 P C V sd vl AE AG cr 0)) (.agg [.int .i64 2,BC,BD,BC,BD,BC,BD,BC,BD,BC,BD,BA x.1.1,AU x.1.2,BA x.2.1,AU x.2.2,BA Tu,AU Au,BC,BD,BC,BD]) (.var 0 (BI 17 P C V sd vl AE AG cr e1)):=by
 refine CI Tryz.func78 (by kernel_rfl) rfl fun E f=>?_
 conv=>cbv
 refine .inr ?_;refine AY ?_;refine AY ?_;refine Cj J ?_;refine Cj I ?_;intro u g;refine .inr ?_;cases u <;> conv=>cbv
 ·have m:=Bm g;intro y h;conv=>cbv
  refine .inr ?_;cases y <;> conv=>cbv
  ·have n:=HK h;exact absurd n A
  have n:=HM h;refine vu rfl (BE f (H 0)) AQ ?_
  refine vu rfl (BE f (F 0)) AQ ?_
  refine vu rfl (BE f (o 0)) AQ ?_
  refine vu rfl (BE f (My B)) AQ ?_
  refine vu rfl (BE f (Kf hm)) AQ ?_
  refine vu rfl (BE f (I9 he G)) AQ ?_
  refine AQ
 have m:=Bp g;exact absurd m D
end
section
abbrev Ep (i j:Int):Prop:=(i=0/\j=1)\/(i=1/\j=0)\/(i=2/\j=3)\/(i=3/\j=2)
variable {Al Am An Ap Aq At Au Av Aw Ax Ay Az vl:LR} {C P AE:List Int} {Tl Tm Tn Tp Tq Tt Tu Tv Tw Tx Ty Tz:List LR} {V:List Ex} {cr:List (el AR)} {e1 f1 i j ja jb p AG q r sd:Int} {n0:el AR} {x:el CV}
theorem vx {M:Int->Int->Prop} (h:Ep i j) (a:M 0 1) (b:M 1 0) (c:M 2 3) (d:M 3 2):M i j:=by rcases h with⟨rfl,rfl⟩ |⟨rfl,rfl⟩ |⟨rfl,rfl⟩ |⟨rfl,rfl⟩ <;> assumption
theorem sJ {a b:el CV} (y:Ep i j) (z:ja=if i<2 then 2 else 0) (A:jb=if i<2 then 3 else 1) (I:Bj 82 j (cV x) 8 P C V sd vl AE AG cr) (ha:Bj 82 ja (cV a) 8 P C V sd vl AE AG cr) (hb:Bj 82 jb (cV b) 8 P C V sd vl AE AG cr) (F:CF 166 [.agg (cV b),.agg (cV a)] (AS (AI Tx Ax Ty Ay) 0)) (G:CF 194 [.agg (AI Tx Ax Ty Ay)] (AS (AK Tu Au) 0)) (he:e1=if r=0 then 6 else 0) (H:CF 49 [.agg (AK Tu Au)] (AD r)):Bi Tryz.prog 95 [BT,AD i] (.var 0 (BI 8 P C V sd vl AE AG cr 0)) (.agg [.int .i64 2,BC,BD,BC,BD,BC,BD,BC,BD,BC,BD,BA x.1.1,AU x.1.2,BA x.2.1,AU x.2.2,BA Tu,AU Au,BC,BD,BC,BD]) (.var 0 (BI 8 P C V sd vl AE AG cr e1)):=by
 refine CI Tryz.func95 (by kernel_rfl) rfl fun E f=>?_
 conv=>cbv
 refine⟨.i64,j,fun _=>⟨⟨AA,AA⟩,by apply vx y <;> rfl⟩,?_⟩;try conv=>cbv
 refine C8 0 rfl (BE f (I 0)) AQ ?_;refine AP ?_;intro J g K h B m;obtain rfl:ja=B:=by rw[z,m,h,g];apply vx y <;> rfl
 refine C8 0 rfl (BE f (ha 0)) AQ ?_;refine AP ?_;intro L n N o D u;obtain rfl:jb=D:=by rw[A,u,o,n];apply vx y <;> rfl
 refine vu rfl (BE f (hb 0)) AQ ?_
 refine vu rfl (BE f (H7 (e:=0) (e1:=0) (by simp) F)) AQ ?_
 refine .inr ?_;refine Bx ?_;refine vu rfl (BE f (Vu (e:=0) (e1:=0) (e2:=0) (by simp) (by simp) F G)) AQ ?_
 refine vu rfl (BE f (I9 he H)) AQ ?_
 refine AQ
theorem sH {a b:el CV} (y:Ep i j) (z:ja=if i<2 then 2 else 0) (A:jb=if i<2 then 3 else 1) (H:Bj 82 j (cV x) 6 P C V sd vl AE AG cr) (ha:Bj 82 ja (cV a) 6 P C V sd vl AE AG cr) (hb:Bj 82 jb (cV b) 6 P C V sd vl AE AG cr) (G:CF 166 [.agg (cV b),.agg (cV a)] (AS (AI Tx Ax Ty Ay) 0)) (F:CF 168 [.agg (cV x),.agg (AI Tx Ax Ty Ay)] (AS (Bu Tl Al Tm Am Tn An) f1)):Bi Tryz.prog 95 [BT,AD i] (.var 0 (BI 6 P C V sd vl AE AG cr 0)) (.agg [.int .i64 1,BA Tl,AU Al,BA Tm,AU Am,BA Tn,AU An,BA Tx,AU Ax,BA Ty,AU Ay,BC,BD,BC,BD,BC,BD,BC,BD,BC,BD]) (.var 0 (BI 6 P C V sd vl AE AG cr f1)):=by
 refine CI Tryz.func95 (by kernel_rfl) rfl fun E f=>?_
 conv=>cbv
 refine⟨.i64,j,fun _=>⟨⟨AA,AA⟩,by apply vx y <;> rfl⟩,?_⟩;try conv=>cbv
 refine C8 0 rfl (BE f (H 0)) AQ ?_;refine AP ?_;intro I g J h B m;obtain rfl:ja=B:=by rw[z,m,h,g];apply vx y <;> rfl
 refine C8 0 rfl (BE f (ha 0)) AQ ?_;refine AP ?_;intro K n L o D u;obtain rfl:jb=D:=by rw[A,u,o,n];apply vx y <;> rfl
 refine vu rfl (BE f (hb 0)) AQ ?_
 refine vu rfl (BE f (H7 (e:=0) (e1:=0) (by simp) G)) AQ ?_
 refine .inr ?_;refine AY ?_;refine AY ?_;refine .inr ?_;refine AY ?_;refine .inr ?_;refine vu rfl (BE f (Mx F)) AQ ?_
 refine AQ
theorem sI {a b:el CV} (y:Ep i j) (z:ja=if i<2 then 2 else 0) (A:jb=if i<2 then 3 else 1) (I:Bj 82 j (cV x) 7 P C V sd vl AE AG cr) (ha:Bj 82 ja (cV a) 7 P C V sd vl AE AG cr) (hb:Bj 82 jb (cV b) 7 P C V sd vl AE AG cr) (H:CF 166 [.agg (cV b),.agg (cV a)] (AS (AI Tx Ax Ty Ay) 0)) (G:CF 173 [.agg (AI Tx Ax Ty Ay)] (.agg (AI Tu Au Tv Av))) (F:CF 168 [.agg (cV x),.agg (AI Tu Au Tv Av)] (AS (Bu Tl Al Tm Am Tn An) f1)):Bi Tryz.prog 95 [BT,AD i] (.var 0 (BI 7 P C V sd vl AE AG cr 0)) (.agg [.int .i64 1,BA Tl,AU Al,BA Tm,AU Am,BA Tn,AU An,BA Tu,AU Au,BA Tv,AU Av,BC,BD,BC,BD,BC,BD,BC,BD,BC,BD]) (.var 0 (BI 7 P C V sd vl AE AG cr f1)):=by
 refine CI Tryz.func95 (by kernel_rfl) rfl fun E f=>?_
 conv=>cbv
 refine⟨.i64,j,fun _=>⟨⟨AA,AA⟩,by apply vx y <;> rfl⟩,?_⟩;try conv=>cbv
 refine C8 0 rfl (BE f (I 0)) AQ ?_;refine AP ?_;intro J g K h B m;obtain rfl:ja=B:=by rw[z,m,h,g];apply vx y <;> rfl
 refine C8 0 rfl (BE f (ha 0)) AQ ?_;refine AP ?_;intro L n N o D u;obtain rfl:jb=D:=by rw[A,u,o,n];apply vx y <;> rfl
 refine vu rfl (BE f (hb 0)) AQ ?_
 refine vu rfl (BE f (H7 (e:=0) (e1:=0) (by simp) H)) AQ ?_
 refine .inr ?_;refine AY ?_;refine Bx ?_;refine .inr ?_;refine AB f G ?_;refine vu rfl (BE f (Mx F)) AQ ?_
 refine AQ
theorem sF {a b:el CV} (z:Ep i j) (A:ja=if i<2 then 2 else 0) (B:jb=if i<2 then 3 else 1) (O:Bj 82 j (cV x) 5 P C V sd vl AE AG cr) (ha:Bj 82 ja (cV a) 5 P C V sd vl AE AG cr) (hb:Bj 82 jb (cV b) 5 P C V sd vl AE AG cr) (K:CF 166 [.agg (cV b),.agg (cV a)] (AS (AI Tx Ax Ty Ay) 0)) (N:Bj 84 0 (cN n0) 5 P C V sd vl AE AG cr) (D:i<2) (J:CF 50 [.agg (cN n0)] (.agg (AK Tt At))) (L:CF 174 [.agg (AI Tx Ax Ty Ay)] (.one (.bool true))):Bi Tryz.prog 95 [BT,AD i] (.var 0 (BI 5 P C V sd vl AE AG cr 0)) (.agg (Cu 0 Bv Bv)) (.var 0 (BI 5 P C V sd vl AE AG cr 6)):=by
 refine CI Tryz.func95 (by kernel_rfl) rfl fun E f=>?_
 conv=>cbv
 refine⟨.i64,j,fun _=>⟨⟨AA,AA⟩,by apply vx z <;> rfl⟩,?_⟩;try conv=>cbv
 refine C8 0 rfl (BE f (O 0)) AQ ?_;refine AP ?_;intro S h T m G n;obtain rfl:ja=G:=by rw[A,n,m,h];apply vx z <;> rfl
 refine C8 0 rfl (BE f (ha 0)) AQ ?_;refine AP ?_;intro U o W u H y;obtain rfl:jb=H:=by rw[B,y,u,o];apply vx z <;> rfl
 refine vu rfl (BE f (hb 0)) AQ ?_
 refine vu rfl (BE f (H7 (e:=0) (e1:=0) (by simp) K)) AQ ?_
 refine .inr ?_;refine AY ?_;refine AY ?_;refine .inr ?_;refine Bx ?_;refine .inr ?_;refine C8 0 rfl (BE f (N 0)) AQ ?_;refine Ak ?_;intro I g;refine .inr ?_;cases I <;> conv=>cbv
 ·have F:=ES g;exact absurd D AA
 have F:=ET g;refine AB f J ?_;refine AB f L ?_;refine C8 0 rfl (BE f (Ok (e:=0) (e1:=6) (by simp))) ⟨⟨⟨rfl,rfl⟩,rfl⟩,⟨rfl,.inl rfl,.inl rfl,.inl rfl,.inl rfl,.inl rfl,.inl rfl,.inl rfl,.inl rfl,.inl rfl,.inl rfl,.inl rfl,.inl rfl,.inl rfl,.inl rfl,.inl rfl,.inl rfl,.inl rfl,.inl rfl,.inl rfl,.inl rfl,trivial⟩,rfl,trivial⟩ ?_;try conv=>cbv
 refine AQ
theorem sB {a b:el CV} (z:Ep i j) (A:ja=if i<2 then 2 else 0) (B:jb=if i<2 then 3 else 1) (W:Bj 82 j (cV x) 5 P C V sd vl AE AG cr) (ha:Bj 82 ja (cV a) 5 P C V sd vl AE AG cr) (hb:Bj 82 jb (cV b) 5 P C V sd vl AE AG cr) (S:CF 166 [.agg (cV b),.agg (cV a)] (AS (AI Tx Ax Ty Ay) 0)) (U:Bj 84 0 (cN n0) 5 P C V sd vl AE AG cr) (D:i<2) (O:CF 50 [.agg (cN n0)] (.agg (AK Tt At))) (T:CF 174 [.agg (AI Tx Ax Ty Ay)] (.one (.bool false))) (N:CF 173 [.agg (AI Tx Ax Ty Ay)] (.agg (AI Tu Au Tv Av))) (K:CF 161 [.agg (AI Tu Au Tv Av),.agg (AK Tt At)] (AS (AI Tw Aw Tz Az) 0)) (L:CF 160 [.agg (AI Tx Ax Ty Ay),.agg (AI Tw Aw Tz Az)] (AS (AI Tp Ap Tq Aq) 0)) (J:CF 168 [.agg (cV x),.agg (AI Tp Ap Tq Aq)] (AS (Bu Tl Al Tm Am Tn An) f1)):Bi Tryz.prog 95 [BT,AD i] (.var 0 (BI 5 P C V sd vl AE AG cr 0)) (.agg [.int .i64 1,BA Tl,AU Al,BA Tm,AU Am,BA Tn,AU An,BA Tp,AU Ap,BA Tq,AU Aq,BC,BD,BC,BD,BC,BD,BC,BD,BC,BD]) (.var 0 (BI 5 P C V sd vl AE AG cr f1)):=by
 refine CI Tryz.func95 (by kernel_rfl) rfl fun E f=>?_
 conv=>cbv
 refine⟨.i64,j,fun _=>⟨⟨AA,AA⟩,by apply vx z <;> rfl⟩,?_⟩;try conv=>cbv
 refine C8 0 rfl (BE f (W 0)) AQ ?_;refine AP ?_;intro Y h Z m G n;obtain rfl:ja=G:=by rw[A,n,m,h];apply vx z <;> rfl
 refine C8 0 rfl (BE f (ha 0)) AQ ?_;refine AP ?_;intro a1 o a2 u H y;obtain rfl:jb=H:=by rw[B,y,u,o];apply vx z <;> rfl
 refine vu rfl (BE f (hb 0)) AQ ?_
 refine vu rfl (BE f (H7 (e:=0) (e1:=0) (by simp) S)) AQ ?_
 refine .inr ?_;refine AY ?_;refine AY ?_;refine .inr ?_;refine Bx ?_;refine .inr ?_;refine C8 0 rfl (BE f (U 0)) AQ ?_;refine Ak ?_;intro I g;refine .inr ?_;cases I <;> conv=>cbv
 ·have F:=ES g;exact absurd D AA
 have F:=ET g;refine AB f O ?_;refine AB f T ?_;refine AB f N ?_;refine AB f K ?_;refine vu rfl (BE f (Lk (e:=0) (e1:=0) (f1:=0) (by simp))) AQ ?_
 refine Bx ?_;refine .inr ?_;refine AB f L ?_;refine vu rfl (BE f (Lk (e:=0) (e1:=0) (f1:=0) (by simp))) AQ ?_
 refine vu rfl (BE f (Mx J)) AQ ?_
 refine AQ
theorem sG {a b:el CV} (A:Ep i j) (B:ja=if i<2 then 2 else 0) (D:jb=if i<2 then 3 else 1) (N:Bj 82 j (cV x) 5 P C V sd vl AE AG cr) (ha:Bj 82 ja (cV a) 5 P C V sd vl AE AG cr) (hb:Bj 82 jb (cV b) 5 P C V sd vl AE AG cr) (J:CF 166 [.agg (cV b),.agg (cV a)] (AS (AI Tx Ax Ty Ay) 0)) (L:Bj 84 0 (cN n0) 5 P C V sd vl AE AG cr) (F:¬i<2) (K:CF 174 [.agg (AI Tx Ax Ty Ay)] (.one (.bool true))):Bi Tryz.prog 95 [BT,AD i] (.var 0 (BI 5 P C V sd vl AE AG cr 0)) (.agg (Cu 0 Bv Bv)) (.var 0 (BI 5 P C V sd vl AE AG cr 6)):=by
 refine CI Tryz.func95 (by kernel_rfl) rfl fun E f=>?_
 conv=>cbv
 refine⟨.i64,j,fun _=>⟨⟨AA,AA⟩,by apply vx A <;> rfl⟩,?_⟩;try conv=>cbv
 refine C8 0 rfl (BE f (N 0)) AQ ?_;refine AP ?_;intro O m S n G o;obtain rfl:ja=G:=by rw[B,o,n,m];apply vx A <;> rfl
 refine C8 0 rfl (BE f (ha 0)) AQ ?_;refine AP ?_;intro T u U y H z;obtain rfl:jb=H:=by rw[D,z,y,u];apply vx A <;> rfl
 refine vu rfl (BE f (hb 0)) AQ ?_
 refine vu rfl (BE f (H7 (e:=0) (e1:=0) (by simp) J)) AQ ?_
 refine .inr ?_;refine AY ?_;refine AY ?_;refine .inr ?_;refine Bx ?_;refine .inr ?_;refine C8 0 rfl (BE f (L 0)) AQ ?_;refine Ak ?_;intro I g;refine .inr ?_;cases I <;> conv=>cbv
 ·have h:=ES g;refine AB f K ?_;refine C8 0 rfl (BE f (Ok (e:=0) (e1:=6) (by simp))) ⟨⟨⟨rfl,rfl⟩,rfl⟩,⟨rfl,.inl rfl,.inl rfl,.inl rfl,.inl rfl,.inl rfl,.inl rfl,.inl rfl,.inl rfl,.inl rfl,.inl rfl,.inl rfl,.inl rfl,.inl rfl,.inl rfl,.inl rfl,.inl rfl,.inl rfl,.inl rfl,.inl rfl,.inl rfl,trivial⟩,rfl,trivial⟩ ?_;try conv=>cbv
  refine AQ
 have h:=ET g;exact absurd h F
theorem sC {a b:el CV} (A:Ep i j) (B:ja=if i<2 then 2 else 0) (D:jb=if i<2 then 3 else 1) (U:Bj 82 j (cV x) 5 P C V sd vl AE AG cr) (ha:Bj 82 ja (cV a) 5 P C V sd vl AE AG cr) (hb:Bj 82 jb (cV b) 5 P C V sd vl AE AG cr) (O:CF 166 [.agg (cV b),.agg (cV a)] (AS (AI Tx Ax Ty Ay) 0)) (T:Bj 84 0 (cN n0) 5 P C V sd vl AE AG cr) (F:¬i<2) (S:CF 174 [.agg (AI Tx Ax Ty Ay)] (.one (.bool false))) (N:CF 173 [.agg (AI Tx Ax Ty Ay)] (.agg (AI Tu Au Tv Av))) (K:CF 161 [.agg (AI Tu Au Tv Av),.agg (cN n0)] (AS (AI Tw Aw Tz Az) 0)) (L:CF 160 [.agg (AI Tx Ax Ty Ay),.agg (AI Tw Aw Tz Az)] (AS (AI Tp Ap Tq Aq) 0)) (J:CF 168 [.agg (cV x),.agg (AI Tp Ap Tq Aq)] (AS (Bu Tl Al Tm Am Tn An) f1)):Bi Tryz.prog 95 [BT,AD i] (.var 0 (BI 5 P C V sd vl AE AG cr 0)) (.agg [.int .i64 1,BA Tl,AU Al,BA Tm,AU Am,BA Tn,AU An,BA Tp,AU Ap,BA Tq,AU Aq,BC,BD,BC,BD,BC,BD,BC,BD,BC,BD]) (.var 0 (BI 5 P C V sd vl AE AG cr f1)):=by
 refine CI Tryz.func95 (by kernel_rfl) rfl fun E f=>?_
 conv=>cbv
 refine⟨.i64,j,fun _=>⟨⟨AA,AA⟩,by apply vx A <;> rfl⟩,?_⟩;try conv=>cbv
 refine C8 0 rfl (BE f (U 0)) AQ ?_;refine AP ?_;intro W m Y n G o;obtain rfl:ja=G:=by rw[B,o,n,m];apply vx A <;> rfl
 refine C8 0 rfl (BE f (ha 0)) AQ ?_;refine AP ?_;intro Z u a1 y H z;obtain rfl:jb=H:=by rw[D,z,y,u];apply vx A <;> rfl
 refine vu rfl (BE f (hb 0)) AQ ?_
 refine vu rfl (BE f (H7 (e:=0) (e1:=0) (by simp) O)) AQ ?_
 refine .inr ?_;refine AY ?_;refine AY ?_;refine .inr ?_;refine Bx ?_;refine .inr ?_;refine C8 0 rfl (BE f (T 0)) AQ ?_;refine Ak ?_;intro I g;refine .inr ?_;cases I <;> conv=>cbv
 ·have h:=ES g;refine AB f S ?_;refine AB f N ?_;refine AB f K ?_;refine vu rfl (BE f (Lk (e:=0) (e1:=0) (f1:=0) (by simp))) AQ ?_
  refine Bx ?_;refine .inr ?_;refine AB f L ?_;refine vu rfl (BE f (Lk (e:=0) (e1:=0) (f1:=0) (by simp))) AQ ?_
  refine vu rfl (BE f (Mx J)) AQ ?_
  refine AQ
 have h:=ET g;exact absurd h F
theorem rN {a b:el CV} (h:Ep i p) (m:Ep j q) (ha:Bj 82 p (cV a) 6 P C V sd vl AE AG cr) (hb:Bj 82 q (cV b) 6 P C V sd vl AE AG cr) {k1:Int} {tg:Nat->List LR} {ag:Nat->LR} (g:Bi Tryz.prog 85 [BT,.agg (cV a),.agg (cV b)] (.var 0 (BI 6 P C V sd vl AE AG cr 0)) (.agg (Cu k1 tg ag)) (.var 0 (BI 6 P C V sd vl AE AG cr e1))):Bi Tryz.prog 94 [BT,.one (.sl .i64 [i,j])] (.var 0 (BI 6 P C V sd vl AE AG cr 0)) (.agg (Cu k1 tg ag)) (.var 0 (BI 6 P C V sd vl AE AG cr e1)):=by
 refine CI Tryz.func94 (by kernel_rfl) rfl fun E f=>?_
 conv=>cbv
 refine⟨i,fun _=>⟨AA,rfl⟩,?_⟩;try conv=>cbv
 refine⟨.i64,p,fun _=>⟨⟨AA,AA⟩,by apply vx h <;> rfl⟩,?_⟩;try conv=>cbv
 refine vu rfl (BE f (ha 0)) AQ ?_
 refine⟨j,fun _=>⟨AA,rfl⟩,?_⟩;try conv=>cbv
 refine⟨.i64,q,fun _=>⟨⟨AA,AA⟩,by apply vx m <;> rfl⟩,?_⟩;try conv=>cbv
 refine vu rfl (BE f (hb 0)) AQ ?_
 refine .inr ?_;refine Bx ?_;refine vu rfl (BE f g) AQ ?_
 refine AQ
theorem rM {a b:el CV} (h:Ep i p) (m:Ep j q) (ha:Bj 82 p (cV a) 5 P C V sd vl AE AG cr) (hb:Bj 82 q (cV b) 5 P C V sd vl AE AG cr) (n:Bj 84 0 (cN n0) 5 P C V sd vl AE AG cr) {Ts:List LR} {As:LR} (g:CF 170 [.agg (cV a),.agg (cV b),.agg (cN n0)] (AS (Bu Tu Au Tv Av Ts As) f1)):Bi Tryz.prog 94 [BT,.one (.sl .i64 [i,j])] (.var 0 (BI 5 P C V sd vl AE AG cr 0)) (.agg [.int .i64 2,BC,BD,BC,BD,BC,BD,BC,BD,BC,BD,BA Tu,AU Au,BA Tv,AU Av,BA Ts,AU As,BC,BD,BC,BD]) (.var 0 (BI 5 P C V sd vl AE AG cr f1)):=by
 refine CI Tryz.func94 (by kernel_rfl) rfl fun E f=>?_
 conv=>cbv
 refine⟨i,fun _=>⟨AA,rfl⟩,?_⟩;try conv=>cbv
 refine⟨.i64,p,fun _=>⟨⟨AA,AA⟩,by apply vx h <;> rfl⟩,?_⟩;try conv=>cbv
 refine vu rfl (BE f (ha 0)) AQ ?_
 refine⟨j,fun _=>⟨AA,rfl⟩,?_⟩;try conv=>cbv
 refine⟨.i64,q,fun _=>⟨⟨AA,AA⟩,by apply vx m <;> rfl⟩,?_⟩;try conv=>cbv
 refine vu rfl (BE f (hb 0)) AQ ?_
 refine .inr ?_;refine AY ?_;refine Bx ?_;refine vu rfl (BE f (n 0)) AQ ?_
 refine AB f g ?_;refine vu rfl (BE f (rU (e:=0) (e1:=f1) (f1:=f1) (by simp))) AQ ?_
 refine AQ
theorem rQ {a b:el CV} (g:Ep i p) (h:Ep j q) (ha:Bj 82 p (cV a) 7 P C V sd vl AE AG cr) (hb:Bj 82 q (cV b) 7 P C V sd vl AE AG cr) (m:CF 156 [.agg (cV a),.agg (cV b)] (.one (.bool true))):Bi Tryz.prog 94 [BT,.one (.sl .i64 [i,j])] (.var 0 (BI 7 P C V sd vl AE AG cr 0)) (.agg (Cu 0 Bv Bv)) (.var 0 (BI 7 P C V sd vl AE AG cr 11)):=by
 refine CI Tryz.func94 (by kernel_rfl) rfl fun E f=>?_
 conv=>cbv
 refine⟨i,fun _=>⟨AA,rfl⟩,?_⟩;try conv=>cbv
 refine⟨.i64,p,fun _=>⟨⟨AA,AA⟩,by apply vx g <;> rfl⟩,?_⟩;try conv=>cbv
 refine vu rfl (BE f (ha 0)) AQ ?_
 refine⟨j,fun _=>⟨AA,rfl⟩,?_⟩;try conv=>cbv
 refine⟨.i64,q,fun _=>⟨⟨AA,AA⟩,by apply vx h <;> rfl⟩,?_⟩;try conv=>cbv
 refine vu rfl (BE f (hb 0)) AQ ?_
 refine .inr ?_;refine AY ?_;refine AY ?_;refine AB f m ?_;refine C8 0 rfl (BE f (Ok (e:=0) (e1:=11) (by simp))) ⟨⟨⟨rfl,rfl⟩,rfl⟩,⟨rfl,.inl rfl,.inl rfl,.inl rfl,.inl rfl,.inl rfl,.inl rfl,.inl rfl,.inl rfl,.inl rfl,.inl rfl,.inl rfl,.inl rfl,.inl rfl,.inl rfl,.inl rfl,.inl rfl,.inl rfl,.inl rfl,.inl rfl,.inl rfl,trivial⟩,rfl,trivial⟩ ?_;try conv=>cbv
 refine AQ
theorem rS {a b:el CV} (g:Ep i p) (h:Ep j q) (ha:Bj 82 p (cV a) 8 P C V sd vl AE AG cr) (hb:Bj 82 q (cV b) 8 P C V sd vl AE AG cr) (m:CF 156 [.agg (cV a),.agg (cV b)] (.one (.bool true))):Bi Tryz.prog 94 [BT,.one (.sl .i64 [i,j])] (.var 0 (BI 8 P C V sd vl AE AG cr 0)) (.agg (Cu 0 Bv Bv)) (.var 0 (BI 8 P C V sd vl AE AG cr 11)):=by
 refine CI Tryz.func94 (by kernel_rfl) rfl fun E f=>?_
 conv=>cbv
 refine⟨i,fun _=>⟨AA,rfl⟩,?_⟩;try conv=>cbv
 refine⟨.i64,p,fun _=>⟨⟨AA,AA⟩,by apply vx g <;> rfl⟩,?_⟩;try conv=>cbv
 refine vu rfl (BE f (ha 0)) AQ ?_
 refine⟨j,fun _=>⟨AA,rfl⟩,?_⟩;try conv=>cbv
 refine⟨.i64,q,fun _=>⟨⟨AA,AA⟩,by apply vx h <;> rfl⟩,?_⟩;try conv=>cbv
 refine vu rfl (BE f (hb 0)) AQ ?_
 refine .inr ?_;refine AY ?_;refine AY ?_;refine AB f m ?_;refine C8 0 rfl (BE f (Ok (e:=0) (e1:=11) (by simp))) ⟨⟨⟨rfl,rfl⟩,rfl⟩,⟨rfl,.inl rfl,.inl rfl,.inl rfl,.inl rfl,.inl rfl,.inl rfl,.inl rfl,.inl rfl,.inl rfl,.inl rfl,.inl rfl,.inl rfl,.inl rfl,.inl rfl,.inl rfl,.inl rfl,.inl rfl,.inl rfl,.inl rfl,.inl rfl,trivial⟩,rfl,trivial⟩ ?_;try conv=>cbv
 refine AQ
theorem rR {a b:el CV} (n:Ep i p) (o:Ep j q) (ha:Bj 82 p (cV a) 8 P C V sd vl AE AG cr) (hb:Bj 82 q (cV b) 8 P C V sd vl AE AG cr) (u:CF 156 [.agg (cV a),.agg (cV b)] (.one (.bool false))) (g:CF 172 [.agg (cV a),.agg (cV b)] (AS (Bu Tl Al Tm Am Tn An) 0)) (m:CF 166 [.agg (cV b),.agg (cV a)] (AS (AI Tx Ax Ty Ay) 0)) (h:CF 173 [.agg (AI Tx Ax Ty Ay)] (.agg (AI Tu Au Tv Av))):Bi Tryz.prog 94 [BT,.one (.sl .i64 [i,j])] (.var 0 (BI 8 P C V sd vl AE AG cr 0)) (.agg [.int .i64 1,BA Tl,AU Al,BA Tm,AU Am,BA Tn,AU An,BA Tu,AU Au,BA Tv,AU Av,BC,BD,BC,BD,BC,BD,BC,BD,BC,BD]) (.var 0 (BI 8 P C V sd vl AE AG cr 0)):=by
 refine CI Tryz.func94 (by kernel_rfl) rfl fun E f=>?_
 conv=>cbv
 refine⟨i,fun _=>⟨AA,rfl⟩,?_⟩;try conv=>cbv
 refine⟨.i64,p,fun _=>⟨⟨AA,AA⟩,by apply vx n <;> rfl⟩,?_⟩;try conv=>cbv
 refine vu rfl (BE f (ha 0)) AQ ?_
 refine⟨j,fun _=>⟨AA,rfl⟩,?_⟩;try conv=>cbv
 refine⟨.i64,q,fun _=>⟨⟨AA,AA⟩,by apply vx o <;> rfl⟩,?_⟩;try conv=>cbv
 refine vu rfl (BE f (hb 0)) AQ ?_
 refine .inr ?_;refine AY ?_;refine AY ?_;refine AB f u ?_;refine Bx ?_;refine AB f g ?_;refine vu rfl (BE f (Lj (e:=0) (e1:=0) (f1:=0) (by simp))) AQ ?_
 refine vu rfl (BE f (H7 (e:=0) (e1:=0) (by simp) m)) AQ ?_
 refine AB f h ?_;refine AQ
theorem rP {a b:el CV} (n:Ep i p) (o:Ep j q) (ha:Bj 82 p (cV a) 7 P C V sd vl AE AG cr) (hb:Bj 82 q (cV b) 7 P C V sd vl AE AG cr) (u:CF 156 [.agg (cV a),.agg (cV b)] (.one (.bool false))) (g:CF 87 [.agg (cV a),.agg (cV b)] (AS (AI Tm Am Tn An) 0)) (m:CF 166 [.agg (cV a),.agg (AI Tm Am Tn An)] (AS (AI Tx Ax Ty Ay) 0)) (h:CF 194 [.agg (AI Tx Ax Ty Ay)] (AS (AK Tu Au) 0)) (he:e1=if r=0 then 6 else 0) (y:CF 49 [.agg (AK Tu Au)] (AD r)):Bi Tryz.prog 94 [BT,.one (.sl .i64 [i,j])] (.var 0 (BI 7 P C V sd vl AE AG cr 0)) (.agg [.int .i64 2,BC,BD,BC,BD,BC,BD,BC,BD,BC,BD,BA Tm,AU Am,BA Tn,AU An,BA Tu,AU Au,BC,BD,BC,BD]) (.var 0 (BI 7 P C V sd vl AE AG cr e1)):=by
 refine CI Tryz.func94 (by kernel_rfl) rfl fun E f=>?_
 conv=>cbv
 refine⟨i,fun _=>⟨AA,rfl⟩,?_⟩;try conv=>cbv
 refine⟨.i64,p,fun _=>⟨⟨AA,AA⟩,by apply vx n <;> rfl⟩,?_⟩;try conv=>cbv
 refine vu rfl (BE f (ha 0)) AQ ?_
 refine⟨j,fun _=>⟨AA,rfl⟩,?_⟩;try conv=>cbv
 refine⟨.i64,q,fun _=>⟨⟨AA,AA⟩,by apply vx o <;> rfl⟩,?_⟩;try conv=>cbv
 refine vu rfl (BE f (hb 0)) AQ ?_
 refine .inr ?_;refine AY ?_;refine AY ?_;refine AB f u ?_;refine AY ?_;refine AB f g ?_;refine vu rfl (BE f (Lk (e:=0) (e1:=0) (f1:=0) (by simp))) AQ ?_
 refine vu rfl (BE f (Vu (e:=0) (e1:=0) (e2:=0) (by simp) (by simp) m h)) AQ ?_
 refine vu rfl (BE f (I9 he y)) AQ ?_
 refine AQ
end
section
variable {Aa Ab Al Am An vl:LR} {C P AE pl:List Int} {Ta Tb Tl Tm Tn:List LR} {V:List Ex} {a b x:el CV} {cr:List (el AR)} {e1 i j k0 k1 kd AG sd t:Int} {n0:el AR}
theorem rV (m:CF 73 [.agg (cC 1 P [] V sd),AD t] (.one (.sl .i64 pl))) (o:pl[0]? =some i) {v0 v1:el AL} (g0:vl[0]? =some v0) (g1:vl[1]? =some v1) (u:CF 80 [.agg [.bool v0.1.1,.sl .u32 v0.1.2,.bool v0.2.1,.sl .u32 v0.2.2],.agg [.bool v1.1.1,.sl .u32 v1.1.2,.bool v1.2.1,.sl .u32 v1.2.2]] (.agg (AI Ta Aa Tb Ab))):Bi Tryz.prog 26 [BT,AD t] (.var 0 (BI 1 P ((([]:List Int))) V sd vl AE AG cr 0)) (.agg [.int .i64 3,BC,BD,BC,BD,BC,BD,BC,BD,BC,BD,BC,BD,BC,BD,BC,BD,BA Ta,AU Aa,BA Tb,AU Ab]) (.var 0 (BI 1 P ((([]:List Int))) V sd vl AE AG cr 0)):=by
 refine CI Tryz.func26 (by kernel_rfl) rfl fun E h=>?_
 refine Ak ?_;rintro n ⟨g,f15⟩;have y:n=0:=g;refine EX (fun f=>?_) fun f=>?_
 ·exact absurd f AA
 refine AB h m ?_;refine Cj o ?_;refine .inr ?_;refine Bx ?_;refine⟨v0,fun _=>⟨AA,g0⟩,?_⟩;try conv=>cbv
 refine⟨v1,fun _=>⟨AA,g1⟩,?_⟩;try conv=>cbv
 refine AB h u ?_;refine vu rfl (BE h RZ) AQ ?_
 refine AQ
theorem rh (m:CF 73 [.agg (cC 2 P [] V sd),AD t] (.one (.sl .i64 pl))) (u:pl[0]? =some i) (G:j=1-i) (B:Bj 82 j (cV x) 2 P [] V sd vl AE AG cr) (F:0<=i/\i<=1) (A:Bj 84 0 (cN n0) 2 P [] V sd vl AE AG cr) {Tu:List LR} {Au:LR} (hm:CF 155 [.agg (cN n0),.agg (cN n0)] (AS (AK Tu Au) 0)) {r:Int} (he:e1=if r=0 then 6 else 0) (z:CF 49 [.agg (AK Tu Au)] (AD r)):Bi Tryz.prog 26 [BT,AD t] (.var 0 (BI 2 P [] V sd vl AE AG cr 0)) (.agg [.int .i64 2,BC,BD,BC,BD,BC,BD,BC,BD,BC,BD,BA x.1.1,AU x.1.2,BA x.2.1,AU x.2.2,BA Tu,AU Au,BC,BD,BC,BD]) (.var 0 (BI 2 P [] V sd vl AE AG cr e1)):=by
 refine CI Tryz.func26 (by kernel_rfl) rfl fun E f=>?_
 refine Ak ?_;rintro n ⟨h,f15⟩;have D:n=0:=h;refine EX (fun g=>?_) fun g=>?_
 ·exact absurd g AA
 refine AB f m ?_;refine Cj u ?_;refine .inr ?_;refine AY ?_;refine Bx ?_;intro o y;obtain rfl:j=o:=AA
 refine vu rfl (BE f (B 0)) AQ ?_
 refine vu rfl (BE f (A 0)) AQ ?_
 refine vu rfl (BE f (Kf hm)) AQ ?_
 refine vu rfl (BE f (I9 he z)) AQ ?_
 refine AQ
theorem rm (m:CF 73 [.agg (cC 4 P [] V sd),AD t] (.one (.sl .i64 pl))) (o:pl[0]? =some i) (ha:Bj 82 1 (cV a) 4 P [] V sd vl AE AG cr) (hb:Bj 82 2 (cV b) 4 P [] V sd vl AE AG cr) (y:Bj 84 0 (cN n0) 4 P [] V sd vl AE AG cr) {tg:Nat->List LR} {ag:Nat->LR} (u:Bi Tryz.prog 86 [BT,.agg (cV a),.agg (cV b),.agg (cN n0)] (.var 0 (BI 4 P (([]:List Int)) V sd vl AE AG cr 0)) (.agg (Cu k1 tg ag)) (.var 0 (BI 4 P (([]:List Int)) V sd vl AE AG cr e1))):Bi Tryz.prog 26 [BT,AD t] (.var 0 (BI 4 P ((([]:List Int))) V sd vl AE AG cr 0)) (.agg (Cu k1 tg ag)) (.var 0 (BI 4 P ((([]:List Int))) V sd vl AE AG cr e1)):=by
 refine CI Tryz.func26 (by kernel_rfl) rfl fun E f=>?_
 refine Ak ?_;rintro n ⟨h,f15⟩;have z:n=0:=h;refine EX (fun g=>?_) fun g=>?_
 ·exact absurd g AA
 refine AB f m ?_;refine Cj o ?_;refine .inr ?_;refine AY ?_;refine AY ?_;refine AY ?_;refine Bx ?_;refine vu rfl (BE f (ha 0)) AQ ?_
 refine vu rfl (BE f (hb 0)) AQ ?_
 refine vu rfl (BE f (y 0)) AQ ?_
 refine vu rfl (BE f u) AQ ?_
 refine AQ
theorem rq (n:CF 73 [.agg (cC 9 P [] V sd),AD t] (.one (.sl .i64 pl))) (u:pl[0]? =some i) (z:i=0) (A:Bj 82 1 (cV a) 9 P [] V sd vl AE AG cr) (B:Bj 82 2 (cV b) 9 P [] V sd vl AE AG cr) (y:CF 87 [.agg (cV a),.agg (cV b)] (AS (AI Ta Aa Tb Ab) 0)):Bi Tryz.prog 26 [BT,AD t] (.var 0 (BI 9 P ((([]:List Int))) V sd vl AE AG cr 0)) (.agg [.int .i64 3,BC,BD,BC,BD,BC,BD,BC,BD,BC,BD,BC,BD,BC,BD,BC,BD,BA Ta,AU Aa,BA Tb,AU Ab]) (.var 0 (BI 9 P ((([]:List Int))) V sd vl AE AG cr 0)):=by
 refine CI Tryz.func26 (by kernel_rfl) rfl fun E f=>?_
 refine Ak ?_;rintro o ⟨m,f15⟩;have D:o=0:=m;refine EX (fun g=>?_) fun g=>?_
 ·exact absurd g AA
 refine AB f n ?_;refine Cj u ?_;refine .inr ?_;refine AY ?_;refine AY ?_;refine AY ?_;refine AY ?_;refine Bx ?_;refine CU (fun h=>?_) fun h=>?_
 ·exact absurd z h
 refine vu rfl (BE f (A 0)) AQ ?_
 refine vu rfl (BE f (B 0)) AQ ?_
 refine AB f y ?_;refine vu rfl (BE f RZ) AQ ?_
 refine AQ
theorem rn (o:CF 73 [.agg (cC 9 P [] V sd),AD t] (.one (.sl .i64 pl))) (z:pl[0]? =some i) (G:1<=i/\i<=2) (H:j=3-i) (B:Bj 82 0 (cV a) 9 P [] V sd vl AE AG cr) (D:Bj 82 j (cV b) 9 P [] V sd vl AE AG cr) (A:Bi Tryz.prog 88 [BT,.agg (cV a),.agg (cV b)] (.var 0 (BI 9 P (([]:List Int)) V sd vl AE AG cr 0)) (AS (AI Ta Aa Tb Ab) 0) (.var 0 (BI 9 P (([]:List Int)) V sd vl AE AG cr 0))):Bi Tryz.prog 26 [BT,AD t] (.var 0 (BI 9 P ((([]:List Int))) V sd vl AE AG cr 0)) (.agg [.int .i64 3,BC,BD,BC,BD,BC,BD,BC,BD,BC,BD,BC,BD,BC,BD,BC,BD,BA Ta,AU Aa,BA Tb,AU Ab]) (.var 0 (BI 9 P ((([]:List Int))) V sd vl AE AG cr 0)):=by
 refine CI Tryz.func26 (by kernel_rfl) rfl fun E f=>?_
 refine Ak ?_;rintro u ⟨n,f15⟩;have F:u=0:=n;refine EX (fun g=>?_) fun g=>?_
 ·exact absurd g AA
 refine AB f o ?_;refine Cj z ?_;refine .inr ?_;refine AY ?_;refine AY ?_;refine AY ?_;refine AY ?_;refine Bx ?_;refine BV (fun h=>?_) fun h=>?_
 ·exact absurd h AA
 refine C8 0 rfl (BE f (B 0)) AQ ?_;refine AP ?_;intro m y;obtain rfl:j=m:=AA
 refine vu rfl (BE f (D 0)) AQ ?_
 refine vu rfl (BE f A) AQ ?_
 refine vu rfl (BE f RZ) AQ ?_
 refine AQ
theorem rX (n:CF 73 [.agg (cC 10 P [] V sd),AD t] (.one (.sl .i64 pl))) (u:pl[0]? =some i) (ha:Bj 82 2 (cV a) 10 P [] V sd vl AE AG cr) (hb:Bj 82 3 (cV b) 10 P [] V sd vl AE AG cr) {f1:Int} (hf:f1≠0) (y:CF 89 [.agg (cV a),.agg (cV b)] (AS (Bu Tl Al Tm Am Tn An) f1)):Bi Tryz.prog 26 [BT,AD t] (.var 0 (BI 10 P ((([]:List Int))) V sd vl AE AG cr 0)) (.agg (Cu 0 Bv Bv)) (.var 0 (BI 10 P ((([]:List Int))) V sd vl AE AG cr f1)):=by
 refine CI Tryz.func26 (by kernel_rfl) rfl fun E g=>?_
 refine Ak ?_;rintro o ⟨m,f15⟩;have z:o=0:=m;refine EX (fun h=>?_) fun h=>?_
 ·exact absurd h AA
 refine AB g n ?_;refine Cj u ?_;refine .inr ?_;refine AY ?_;refine AY ?_;refine AY ?_;refine AY ?_;refine AY ?_;refine Bx ?_;refine vu rfl (BE g (ha 0)) AQ ?_
 refine vu rfl (BE g (hb 0)) AQ ?_
 refine AB g y ?_;refine vu rfl (BE g (Lj (e:=0) (e1:=f1) (f1:=f1) (by simp))) AQ ?_
 refine Ht (fun f=>?_) fun f=>?_
 ·exact absurd f hf
 refine AQ
theorem rW (n:CF 73 [.agg (cC 10 P [] V sd),AD t] (.one (.sl .i64 pl))) (y:pl[0]? =some i) (ha:Bj 82 2 (cV a) 10 P [] V sd vl AE AG cr) (hb:Bj 82 3 (cV b) 10 P [] V sd vl AE AG cr) (A:CF 89 [.agg (cV a),.agg (cV b)] (AS (Bu Tl Al Tm Am Tn An) 0)) (G:j=1-i) (B:Bj 82 j (cV x) 10 P [] V sd vl AE AG cr) (F:0<=i/\i<=1) (z:CF 91 [.agg (Bu Tl Al Tm Am Tn An),.agg (cV x)] (AS (AI Ta Aa Tb Ab) 0)):Bi Tryz.prog 26 [BT,AD t] (.var 0 (BI 10 P ((([]:List Int))) V sd vl AE AG cr 0)) (.agg [.int .i64 3,BC,BD,BC,BD,BC,BD,BC,BD,BC,BD,BC,BD,BC,BD,BC,BD,BA Ta,AU Aa,BA Tb,AU Ab]) (.var 0 (BI 10 P ((([]:List Int))) V sd vl AE AG cr 0)):=by
 refine CI Tryz.func26 (by kernel_rfl) rfl fun E f=>?_
 refine Ak ?_;rintro o ⟨m,f15⟩;have D:o=0:=m;refine EX (fun g=>?_) fun g=>?_
 ·exact absurd g AA
 refine AB f n ?_;refine Cj y ?_;refine .inr ?_;refine AY ?_;refine AY ?_;refine AY ?_;refine AY ?_;refine AY ?_;refine Bx ?_;refine vu rfl (BE f (ha 0)) AQ ?_
 refine vu rfl (BE f (hb 0)) AQ ?_
 refine AB f A ?_;refine vu rfl (BE f (Lj (e:=0) (e1:=0) (f1:=0) (by simp))) AQ ?_
 refine AY ?_;intro h u;obtain rfl:j=h:=AA
 refine vu rfl (BE f (B 0)) AQ ?_
 refine AB f z ?_;refine vu rfl (BE f RZ) AQ ?_
 refine AQ
theorem rY (n:CF 73 [.agg (cC 11 P [] V sd),AD t] (.one (.sl .i64 pl))) (y:pl[0]? =some i) (H:j=1-i) (D:Bj 82 j (cV x) 11 P [] V sd vl AE AG cr) (G:0<=i/\i<=1) (z:CF 93 [AD 1] (.agg (AK Ta Aa))) (A:CF 93 [AD 0] (.agg (AK Tb Ab))) {tg:Nat->List LR} {ag:Nat->LR} (B:Bi Tryz.prog 92 [BT,.agg (cV x),.agg (AI Ta Aa Tb Ab)] (.var 0 (BI 11 P (([]:List Int)) V sd vl AE AG cr 0)) (.agg (Cu k1 tg ag)) (.var 0 (BI 11 P (([]:List Int)) V sd vl AE AG cr e1))):Bi Tryz.prog 26 [BT,AD t] (.var 0 (BI 11 P ((([]:List Int))) V sd vl AE AG cr 0)) (.agg (Cu k1 tg ag)) (.var 0 (BI 11 P ((([]:List Int))) V sd vl AE AG cr e1)):=by
 refine CI Tryz.func26 (by kernel_rfl) rfl fun E f=>?_
 refine Ak ?_;rintro o ⟨m,f15⟩;have F:o=0:=m;refine EX (fun g=>?_) fun g=>?_
 ·exact absurd g AA
 refine AB f n ?_;refine Cj y ?_;refine .inr ?_;refine AY ?_;refine AY ?_;refine AY ?_;refine AY ?_;refine AY ?_;refine AY ?_;refine Bx ?_;intro h u;obtain rfl:j=h:=AA
 refine vu rfl (BE f (D 0)) AQ ?_
 refine AB f z ?_;refine AB f A ?_;refine vu rfl (BE f B) AQ ?_
 refine AQ
theorem rZ (n:CF 73 [.agg (cC 12 P [] V sd),AD t] (.one (.sl .i64 pl))) (y:pl[0]? =some i) (H:j=1-i) (D:Bj 82 j (cV x) 12 P [] V sd vl AE AG cr) (G:0<=i/\i<=1) (z:CF 93 [AD 0] (.agg (AK Ta Aa))) (A:CF 93 [AD 1] (.agg (AK Tb Ab))) {tg:Nat->List LR} {ag:Nat->LR} (B:Bi Tryz.prog 92 [BT,.agg (cV x),.agg (AI Ta Aa Tb Ab)] (.var 0 (BI 12 P (([]:List Int)) V sd vl AE AG cr 0)) (.agg (Cu k1 tg ag)) (.var 0 (BI 12 P (([]:List Int)) V sd vl AE AG cr e1))):Bi Tryz.prog 26 [BT,AD t] (.var 0 (BI 12 P ((([]:List Int))) V sd vl AE AG cr 0)) (.agg (Cu k1 tg ag)) (.var 0 (BI 12 P ((([]:List Int))) V sd vl AE AG cr e1)):=by
 refine CI Tryz.func26 (by kernel_rfl) rfl fun E f=>?_
 refine Ak ?_;rintro o ⟨m,f15⟩;have F:o=0:=m;refine EX (fun g=>?_) fun g=>?_
 ·exact absurd g AA
 refine AB f n ?_;refine Cj y ?_;refine .inr ?_;refine AY ?_;refine AY ?_;refine AY ?_;refine AY ?_;refine AY ?_;refine AY ?_;refine AY ?_;refine Bx ?_;intro h u;obtain rfl:j=h:=AA
 refine vu rfl (BE f (D 0)) AQ ?_
 refine AB f z ?_;refine AB f A ?_;refine vu rfl (BE f B) AQ ?_
 refine AQ
theorem ri (h:CF 73 [.agg (cC 3 P [] V sd),AD t] (.one (.sl .i64 pl))) (o:pl[0]? =some 0) (ha:Bj 82 1 (cV a) 3 P [] V sd vl AE AG cr) (hb:Bj 82 2 (cV b) 3 P [] V sd vl AE AG cr) {tg:Nat->List LR} {ag:Nat->LR} (u:Bi Tryz.prog 85 [BT,.agg (cV a),.agg (cV b)] (.var 0 (BI 3 P (([]:List Int)) V sd vl AE AG cr 0)) (.agg (Cu k1 tg ag)) (.var 0 (BI 3 P (([]:List Int)) V sd vl AE AG cr e1))):Bi Tryz.prog 26 [BT,AD t] (.var 0 (BI 3 P ((([]:List Int))) V sd vl AE AG cr 0)) (.agg (Cu k1 tg ag)) (.var 0 (BI 3 P ((([]:List Int))) V sd vl AE AG cr e1)):=by
 refine CI Tryz.func26 (by kernel_rfl) rfl fun E f=>?_
 refine Ak ?_;rintro n ⟨g,f15⟩;have y:n=0:=g;refine QL ?_ ?_ <;> intro m <;> conv=>cbv
 ·exact absurd m AA
 refine Be f h ?_;conv=>cbv
 refine Bk o ?_;try conv=>cbv
 refine .inr ?_;refine He ?_;conv=>cbv
 refine He ?_;conv=>cbv
 refine Gd ?_;conv=>cbv
 refine⟨fun _=>⟨AF,AF⟩,?_⟩;try conv=>cbv
 refine⟨fun _=>⟨AF,AF⟩,?_⟩;try conv=>cbv
 refine vu rfl (BE f (ha 0)) AQ ?_
 refine vu rfl (BE f (hb 0)) AQ ?_
 refine vu rfl (BE f u) AQ ?_
 refine AQ
theorem rj (h:CF 73 [.agg (cC 3 P [] V sd),AD t] (.one (.sl .i64 pl))) (o:pl[0]? =some 1) (ha:Bj 82 2 (cV a) 3 P [] V sd vl AE AG cr) (hb:Bj 82 0 (cV b) 3 P [] V sd vl AE AG cr) {tg:Nat->List LR} {ag:Nat->LR} (u:Bi Tryz.prog 85 [BT,.agg (cV a),.agg (cV b)] (.var 0 (BI 3 P (([]:List Int)) V sd vl AE AG cr 0)) (.agg (Cu k1 tg ag)) (.var 0 (BI 3 P (([]:List Int)) V sd vl AE AG cr e1))):Bi Tryz.prog 26 [BT,AD t] (.var 0 (BI 3 P ((([]:List Int))) V sd vl AE AG cr 0)) (.agg (Cu k1 tg ag)) (.var 0 (BI 3 P ((([]:List Int))) V sd vl AE AG cr e1)):=by
 refine CI Tryz.func26 (by kernel_rfl) rfl fun E f=>?_
 refine Ak ?_;rintro n ⟨g,f15⟩;have y:n=0:=g;refine QL ?_ ?_ <;> intro m <;> conv=>cbv
 ·exact absurd m AA
 refine Be f h ?_;conv=>cbv
 refine Bk o ?_;try conv=>cbv
 refine .inr ?_;refine He ?_;conv=>cbv
 refine He ?_;conv=>cbv
 refine Gd ?_;conv=>cbv
 refine⟨fun _=>⟨AF,AF⟩,?_⟩;try conv=>cbv
 refine⟨fun _=>⟨AF,AF⟩,?_⟩;try conv=>cbv
 refine vu rfl (BE f (ha 0)) AQ ?_
 refine vu rfl (BE f (hb 0)) AQ ?_
 refine vu rfl (BE f u) AQ ?_
 refine AQ
theorem rl (h:CF 73 [.agg (cC 3 P [] V sd),AD t] (.one (.sl .i64 pl))) (o:pl[0]? =some 2) (ha:Bj 82 1 (cV a) 3 P [] V sd vl AE AG cr) (hb:Bj 82 0 (cV b) 3 P [] V sd vl AE AG cr) {tg:Nat->List LR} {ag:Nat->LR} (u:Bi Tryz.prog 85 [BT,.agg (cV a),.agg (cV b)] (.var 0 (BI 3 P (([]:List Int)) V sd vl AE AG cr 0)) (.agg (Cu k1 tg ag)) (.var 0 (BI 3 P (([]:List Int)) V sd vl AE AG cr e1))):Bi Tryz.prog 26 [BT,AD t] (.var 0 (BI 3 P ((([]:List Int))) V sd vl AE AG cr 0)) (.agg (Cu k1 tg ag)) (.var 0 (BI 3 P ((([]:List Int))) V sd vl AE AG cr e1)):=by
 refine CI Tryz.func26 (by kernel_rfl) rfl fun E f=>?_
 refine Ak ?_;rintro n ⟨g,f15⟩;have y:n=0:=g;refine QL ?_ ?_ <;> intro m <;> conv=>cbv
 ·exact absurd m AA
 refine Be f h ?_;conv=>cbv
 refine Bk o ?_;try conv=>cbv
 refine .inr ?_;refine He ?_;conv=>cbv
 refine He ?_;conv=>cbv
 refine Gd ?_;conv=>cbv
 refine⟨fun _=>⟨AF,AF⟩,?_⟩;try conv=>cbv
 refine⟨fun _=>⟨AF,AF⟩,?_⟩;try conv=>cbv
 refine vu rfl (BE f (ha 0)) AQ ?_
 refine vu rfl (BE f (hb 0)) AQ ?_
 refine vu rfl (BE f u) AQ ?_
 refine AQ
theorem ru (O:5<=kd/\kd<=8) (G:CF 73 [.agg (cC kd P [] V sd),AD t] (.one (.sl .i64 pl))) (K:pl[0]? =some i) (S:pl.length=2) {tg:Nat->List LR} {ag:Nat->LR} (L:Bi Tryz.prog 94 [BT,.one (.sl .i64 pl)] (.var 0 (BI kd P (([]:List Int)) V sd vl AE AG cr 0)) (.agg (Cu k1 tg ag)) (.var 0 (BI kd P (([]:List Int)) V sd vl AE AG cr e1))):Bi Tryz.prog 26 [BT,AD t] (.var 0 (BI kd P [] V sd vl AE AG cr 0)) (.agg (Cu k1 tg ag)) (.var 0 (BI kd P [] V sd vl AE AG cr e1)):=by
 refine CI Tryz.func26 (by kernel_rfl) rfl fun E J=>?_
 refine Ak ?_;rintro H ⟨F,f15⟩;have N:H=0:=F;refine EX (fun o=>?_) fun o=>?_
 ·exact absurd o AA
 refine AB J G ?_;refine Cj K ?_;refine .inr ?_;refine BV (fun u=>?_) fun u=>?_
 ·exact absurd u AA
 refine BV (fun y=>?_) fun y=>?_
 ·exact absurd y AA
 refine BV (fun z=>?_) fun z=>?_
 ·exact absurd z AA
 refine BV (fun A=>?_) fun A=>?_
 ·exact absurd A AA
 refine BV (fun B=>?_) fun B=>?_
 ·exact absurd B AA
 refine BV (fun g=>?_) fun g=>?_
 ·exact absurd g AA
 refine BV (fun h=>?_) fun h=>?_
 ·exact absurd h AA
 refine BV (fun m=>?_) fun m=>?_
 ·exact absurd m AA
 intro D f;have I:=f.eq;have f171:=f.le;refine CU (fun n=>?_) fun n=>?_
 ·exact absurd (by omega:D=2) n
 refine vu rfl (BE J L) AQ ?_
 refine AQ
theorem dC (O:5<=kd/\kd<=8) (F:CF 73 [.agg (cC kd P [] V sd),AD t] (.one (.sl .i64 pl))) (K:pl[0]? =some i) (S:pl.length≠2) {tg:Nat->List LR} {ag:Nat->LR} (L:Bi Tryz.prog 95 [BT,AD i] (.var 0 (BI kd P (([]:List Int)) V sd vl AE AG cr 0)) (.agg (Cu k1 tg ag)) (.var 0 (BI kd P (([]:List Int)) V sd vl AE AG cr e1))):Bi Tryz.prog 26 [BT,AD t] (.var 0 (BI kd P [] V sd vl AE AG cr 0)) (.agg (Cu k1 tg ag)) (.var 0 (BI kd P [] V sd vl AE AG cr e1)):=by
 refine CI Tryz.func26 (by kernel_rfl) rfl fun E I=>?_
 refine Ak ?_;rintro G ⟨D,f15⟩;have N:G=0:=D;refine EX (fun o=>?_) fun o=>?_
 ·exact absurd o AA
 refine AB I F ?_;refine Cj K ?_;refine .inr ?_;refine BV (fun u=>?_) fun u=>?_
 ·exact absurd u AA
 refine BV (fun y=>?_) fun y=>?_
 ·exact absurd y AA
 refine BV (fun z=>?_) fun z=>?_
 ·exact absurd z AA
 refine BV (fun A=>?_) fun A=>?_
 ·exact absurd A AA
 refine BV (fun B=>?_) fun B=>?_
 ·exact absurd B AA
 refine BV (fun g=>?_) fun g=>?_
 ·exact absurd g AA
 refine BV (fun h=>?_) fun h=>?_
 ·exact absurd h AA
 refine BV (fun m=>?_) fun m=>?_
 ·exact absurd m AA
 intro J f;have H:=f.eq;have f171:=f.le;refine BV (fun n=>?_) fun n=>?_
 ·exact absurd n AA
 refine vu rfl (BE I L) AQ ?_
 refine AQ
theorem Ol (o:0<C.length) {tg:Nat->List LR} {ag:Nat->LR} (n:Bi Tryz.prog 78 [BT,AD t] (.var 0 (BI kd P C V sd vl AE AG cr 0)) (.agg (Cu k1 tg ag)) (.var 0 (BI kd P C V sd vl AE AG cr e1))):Bi Tryz.prog 26 [BT,AD t] (.var 0 (BI kd P C V sd vl AE AG cr 0)) (.agg (Cu k1 tg ag)) (.var 0 (BI kd P C V sd vl AE AG cr e1)):=by
 refine CI Tryz.func26 (by kernel_rfl) rfl fun E m=>?_
 refine Ak ?_;rintro g ⟨h,f15⟩;refine Fw (fun f=>?_) fun f=>?_
 ·exact absurd (by omega:g>0) AA
 refine vu rfl (BE m n) AQ ?_
 refine AQ
theorem ry (m:CF 22 [.agg (cC kd P C V sd),.one (.sl .i64 AE),AD t] (AD k0)) (o:k0≠0) (hR:Bi Tryz.prog 25 [BT,AD (-1)] (.var 0 (BI kd P C V sd vl AE AG cr 0)) (.one (.bool true)) (.var 0 (BI kd P C V sd vl AE AG cr 0))) {tg:Nat->List LR} {ag:Nat->LR} (he:e1≠0) (n:Bi Tryz.prog 26 [BT,AD t] (.var 0 (BI kd P C V sd vl AE AG cr 0)) (.agg (Cu k1 tg ag)) (.var 0 (BI kd P C V sd vl AE AG cr e1))):CF 7 (FH kd P C V sd vl AE AG t cr) (AS (Cu 0 Bv Bv) e1):=by
 refine AN Tryz.func7 fun E h=>?_
 refine AB h m ?_;refine BV (fun f=>?_) fun f=>?_
 ·exact absurd f o
 refine C8 22 rfl (BE h (hR)) AQ ?_;try conv=>cbv
 refine AY ?_;refine C8 22 rfl (BE h (n)) AQ ?_;try conv=>cbv
 refine Ht (fun g=>?_) fun g=>?_
 ·exact absurd g he
 exact AM AQ
theorem rz (h:CF 22 [.agg (cC kd P C V sd),.one (.sl .i64 AE),AD t] (AD k0)) (m:k0=0):CF 7 (FH kd P C V sd vl AE AG t cr) (AS (Cu 0 Bv Bv) 1):=by
 refine AN Tryz.func7 fun E g=>?_
 refine AB g h ?_;refine CU (fun f=>?_) fun f=>?_
 ·exact absurd m f
 exact AM AQ
theorem dF (h:CF 22 [.agg (cC kd P C V sd),.one (.sl .i64 AE),AD t] (AD k0)) (hR:Bi Tryz.prog 25 [BT,AD (-1)] (.var 0 (BI kd P C V sd vl AE AG cr 0)) (.one (.bool false)) (.var 0 (BI kd P C V sd vl AE AG cr 0))):CF 7 (FH kd P C V sd vl AE AG t cr) (AS (Cu 0 Bv Bv) 1):=by
 refine AN Tryz.func7 fun E g=>?_
 refine AB g h ?_;refine BV (fun f=>?_) fun f=>?_
 ·exact AM AQ
 refine C8 22 rfl (BE g (hR)) AQ ?_;try conv=>cbv
 refine Bx ?_;exact AM AQ
end
section
variable {Al Am An Ar Ax Ay Az vl:LR} {C P AE:List Int} {Tl Tm Tn Tr Tx Ty Tz:List LR} {V:List Ex} {a b:el CV} {cr:List (el AR)} {i j kd AG s sd t x:Int} {r0:el AR}
theorem dD {Ta Tb Tc Td:List LR} {Aa Ab Ac Ad:LR} (h:CF 166 [.agg (AI Tc Ac Td Ad),.agg (AI Ta Aa Tb Ab)] (AS (AI Tx Ax Ty Ay) 0)) (g:CF 194 [.agg (AI Tx Ax Ty Ay)] (AS (AK Tz Az) 0)) (hR:CF 121 [.agg (AK Tz Az)] (AS (AK Tr Ar) 0)):Bi Tryz.prog 120 [.agg (AI Ta Aa Tb Ab),.agg (AI Tc Ac Td Ad),.one (.I8 (0,0,0))] (.var 0 (BI kd P C V sd vl AE AG cr 0)) (.agg (AK Tr Ar)) (.var 0 (BI kd P C V sd vl AE AG cr 0)):=by
 refine CI Tryz.func120 (by kernel_rfl) rfl fun E f=>?_
 conv=>cbv
 refine vu rfl (BE f (Vu (e:=0) (e1:=0) (e2:=0) (by simp) (by simp) h g)) AQ ?_
 refine AB f hR ?_;refine vu rfl (BE f (Oj (e:=0) (e1:=0) (f1:=0) (by simp))) AQ ?_
 refine AQ
theorem sW (f:Bj 84 0 (cN r0) 14 P C V sd vl AE AG cr):Bi Tryz.prog 47 [BT,AD i] (.var 0 (BI 14 P C V sd vl AE AG cr 0)) (.agg (cN r0)) (.var 0 (BI 14 P C V sd vl AE AG cr 0)):=by
 refine CI Tryz.func47 (by kernel_rfl) rfl fun E g=>?_
 conv=>cbv
 refine .inr ?_;refine Bx ?_;refine vu rfl (BE g (f 0)) AQ ?_
 refine AQ
theorem sX (o:j=1-i) (n:0<=i/\i<=1) (f:Bj 124 j (cN r0) 15 P C V sd vl AE AG cr):Bi Tryz.prog 47 [BT,AD i] (.var 0 (BI 15 P C V sd vl AE AG cr 0)) (.agg (cN r0)) (.var 0 (BI 15 P C V sd vl AE AG cr 0)):=by
 refine CI Tryz.func47 (by kernel_rfl) rfl fun E m=>?_
 conv=>cbv
 refine .inr ?_;refine AY ?_;refine Bx ?_;intro g h;obtain rfl:j=g:=AA
 refine vu rfl (BE m (f 0)) AQ ?_
 refine AQ
theorem sV (ha:Bj 125 0 (cV a) 13 P C V sd vl AE AG cr) (hb:Bj 82 0 (cV b) 13 P C V sd vl AE AG cr) (h:CF 166 [.agg (cV b),.agg (cV a)] (AS (AI Tx Ax Ty Ay) 0)) (g:CF 194 [.agg (AI Tx Ax Ty Ay)] (AS (AK Tz Az) 0)) (hR:CF 121 [.agg (AK Tz Az)] (AS (AK Tr Ar) 0)):Bi Tryz.prog 47 [BT,AD i] (.var 0 (BI 13 P C V sd vl AE AG cr 0)) (.agg (AK Tr Ar)) (.var 0 (BI 13 P C V sd vl AE AG cr 0)):=by
 refine CI Tryz.func47 (by kernel_rfl) rfl fun E f=>?_
 conv=>cbv
 refine .inr ?_;refine AY ?_;refine AY ?_;refine Bx ?_;refine vu rfl (BE f (ha 0)) AQ ?_
 refine vu rfl (BE f (hb 0)) AQ ?_
 refine .inr (.inr (.inr (.inr (.inr (.inr ⟨0,.var 0 (BI 13 P C V sd vl AE AG cr 0),[.agg (cV a),.agg (cV b),.one (.I8 (0,0,0))],.agg [BA Tr,AU Ar],.var 0 (BI 13 P C V sd vl AE AG cr 0),fun _=>⟨rfl,⟨t4,t4,.inr ⟨⟨AF,rfl⟩,0,rfl,rfl⟩,trivial⟩⟩,fun _=>BE f (dD h g hR),?_⟩)))));try conv=>cbv
 refine Bl ?_;refine AQ
theorem sa (ha:Bj 125 0 (cV a) 17 P C V sd vl AE AG cr) (hb:Bj 125 1 (cV b) 17 P C V sd vl AE AG cr) {Ts:List LR} {As:LR} (u:CF 166 [.agg (cV b),.agg (cV a)] (AS (AI Tx Ax Ty Ay) 0)) (o:CF 194 [.agg (AI Tx Ax Ty Ay)] (AS (AK Tz Az) 0)) (hR:CF 121 [.agg (AK Tz Az)] (AS (AK Tr Ar) 0)) (z:j=1-i) (y:0<=i/\i<=1) (g:Bj 124 j (cN r0) 17 P C V sd vl AE AG cr) (n:CF 128 [.agg (AK Tr Ar),.agg (cN r0)] (AS (AK Ts As) 0)):Bi Tryz.prog 47 [BT,AD i] (.var 0 (BI 17 P C V sd vl AE AG cr 0)) (.agg (AK Ts As)) (.var 0 (BI 17 P C V sd vl AE AG cr 0)):=by
 refine CI Tryz.func47 (by kernel_rfl) rfl fun E f=>?_
 conv=>cbv
 refine .inr ?_;refine AY ?_;refine AY ?_;refine AY ?_;refine AY ?_;refine vu rfl (BE f (ha 0)) AQ ?_
 refine vu rfl (BE f (hb 0)) AQ ?_
 refine .inr (.inr (.inr (.inr (.inr (.inr ⟨0,.var 0 (BI 17 P C V sd vl AE AG cr 0),[.agg (cV a),.agg (cV b),.one (.I8 (0,0,0))],.agg [BA Tr,AU Ar],.var 0 (BI 17 P C V sd vl AE AG cr 0),fun _=>⟨rfl,⟨t4,t4,.inr ⟨⟨AF,rfl⟩,0,rfl,rfl⟩,trivial⟩⟩,fun _=>BE f (dD u o hR),?_⟩)))));refine AP ?_;intro h m;obtain rfl:j=h:=AA
 refine vu rfl (BE f (g 0)) AQ ?_
 refine vu rfl (BE f (My n)) AQ ?_
 refine AQ
theorem sZ (ha:Bj 82 0 (cV a) 16 P C V sd vl AE AG cr) (hb:Bj 82 1 (cV b) 16 P C V sd vl AE AG cr) {f1:Int} (hf:f1≠0) (m:CF 89 [.agg (cV a),.agg (cV b)] (AS (Bu Tl Al Tm Am Tn An) f1)) (h:CF 93 [AD 0] (.agg (AK Tz Az))):Bi Tryz.prog 47 [BT,AD i] (.var 0 (BI 16 P C V sd vl AE AG cr 0)) (.agg (AK Tz Az)) (.var 0 (BI 16 P C V sd vl AE AG cr f1)):=by
 refine CI Tryz.func47 (by kernel_rfl) rfl fun E f=>?_
 conv=>cbv
 refine .inr ?_;refine AY ?_;refine AY ?_;refine AY ?_;refine Bx ?_;refine vu rfl (BE f (ha 0)) AQ ?_
 refine vu rfl (BE f (hb 0)) AQ ?_
 refine AB f m ?_;refine vu rfl (BE f (Lj (e:=0) (e1:=f1) (f1:=f1) (by simp))) AQ ?_
 refine Ht (fun g=>?_) fun g=>?_
 ·exact absurd g hf
 refine AB f h ?_;refine AQ
theorem sY (ha:Bj 82 0 (cV a) 16 P C V sd vl AE AG cr) (hb:Bj 82 1 (cV b) 16 P C V sd vl AE AG cr) (h:CF 89 [.agg (cV a),.agg (cV b)] (AS (Bu Tl Al Tm Am Tn An) 0)) {c:el CV} (m:Bj 125 0 (cV c) 16 P C V sd vl AE AG cr) (g:CF 126 [.agg (Bu Tl Al Tm Am Tn An),.agg (cV c)] (AS (AK Tz Az) 0)) (hR:CF 121 [.agg (AK Tz Az)] (AS (AK Tr Ar) 0)):Bi Tryz.prog 47 [BT,AD i] (.var 0 (BI 16 P C V sd vl AE AG cr 0)) (.agg (AK Tr Ar)) (.var 0 (BI 16 P C V sd vl AE AG cr 0)):=by
 refine CI Tryz.func47 (by kernel_rfl) rfl fun E f=>?_
 conv=>cbv
 refine .inr ?_;refine AY ?_;refine AY ?_;refine AY ?_;refine Bx ?_;refine vu rfl (BE f (ha 0)) AQ ?_
 refine vu rfl (BE f (hb 0)) AQ ?_
 refine AB f h ?_;refine vu rfl (BE f (Lj (e:=0) (e1:=0) (f1:=0) (by simp))) AQ ?_
 refine AY ?_;refine vu rfl (BE f (m 0)) AQ ?_
 refine AB f g ?_;refine vu rfl (BE f (Oj (e:=0) (e1:=0) (f1:=0) (by simp))) AQ ?_
 refine AY ?_;refine AB f hR ?_;refine vu rfl (BE f (Oj (e:=0) (e1:=0) (f1:=0) (by simp))) AQ ?_
 refine AQ
theorem dJ (g:CF 23 [.agg (cC kd P C V sd),.one (.sl .i64 AE),AD t] (.one (.bool false))):CF 9 (FH kd P C V sd vl AE AG t cr) (AS (AK [] []) 1):=by
 refine AN Tryz.func9 fun E f=>?_
 refine AB f g ?_;refine Bx ?_;exact AM AQ
theorem dI (g:CF 23 [.agg (cC kd P C V sd),.one (.sl .i64 AE),AD t] (.one (.bool true))) (hR:Bi Tryz.prog 25 [BT,AD t] (.var 0 (BI kd P C V sd vl AE AG cr 0)) (.one (.bool false)) (.var 0 (BI kd P C V sd vl AE AG cr 0))):CF 9 (FH kd P C V sd vl AE AG t cr) (AS (AK [] []) 1):=by
 refine AN Tryz.func9 fun E f=>?_
 refine AB f g ?_;refine AY ?_;refine C8 22 rfl (BE f (hR)) AQ ?_;try conv=>cbv
 refine Bx ?_;exact AM AQ
theorem sL (h:CF 23 [.agg (cC kd P C V sd),.one (.sl .i64 AE),AD t] (.one (.bool true))) (hR:Bi Tryz.prog 25 [BT,AD t] (.var 0 (BI kd P C V sd vl AE AG cr 0)) (.one (.bool true)) (.var 0 (BI kd P C V sd vl AE AG cr 0))) (m:CF 48 [.one (.sl .i64 C),AD t] (AD x)) {e1:Int} (he:e1≠0) (n:Bi Tryz.prog 47 [BT,AD x] (.var 0 (BI kd P C V sd vl AE AG cr 0)) (.agg (AK Tr Ar)) (.var 0 (BI kd P C V sd vl AE AG cr e1))):CF 9 (FH kd P C V sd vl AE AG t cr) (AS (AK [] []) e1):=by
 refine AN Tryz.func9 fun E g=>?_
 refine AB g h ?_;refine AY ?_;refine C8 22 rfl (BE g (hR)) AQ ?_;try conv=>cbv
 refine AY ?_;refine AB g m ?_;refine C8 22 rfl (BE g (n)) AQ ?_;try conv=>cbv
 refine Ht (fun f=>?_) fun f=>?_
 ·exact absurd f he
 exact AM AQ
theorem sK (m:CF 23 [.agg (cC kd P C V sd),.one (.sl .i64 AE),AD t] (.one (.bool true))) (hR:Bi Tryz.prog 25 [BT,AD t] (.var 0 (BI kd P C V sd vl AE AG cr 0)) (.one (.bool true)) (.var 0 (BI kd P C V sd vl AE AG cr 0))) (n:CF 48 [.one (.sl .i64 C),AD t] (AD x)) (o:Bi Tryz.prog 47 [BT,AD x] (.var 0 (BI kd P C V sd vl AE AG cr 0)) (.agg (AK Tr Ar)) (.var 0 (BI kd P C V sd vl AE AG cr 0))) (h:CF 49 [.agg (AK Tr Ar)] (AD s)) (u:s=0):CF 9 (FH kd P C V sd vl AE AG t cr) (AS (AK [] []) 6):=by
 refine AN Tryz.func9 fun E f=>?_
 refine AB f m ?_;refine AY ?_;refine C8 22 rfl (BE f (hR)) AQ ?_;try conv=>cbv
 refine AY ?_;refine AB f n ?_;refine C8 22 rfl (BE f (o)) AQ ?_;try conv=>cbv
 refine AY ?_;refine AB f h ?_;refine .inr ?_;refine CU (fun g=>?_) fun g=>?_
 ·exact absurd u g
 exact AM AQ
theorem sM (n:CF 23 [.agg (cC kd P C V sd),.one (.sl .i64 AE),AD t] (.one (.bool true))) (hR:Bi Tryz.prog 25 [BT,AD t] (.var 0 (BI kd P C V sd vl AE AG cr 0)) (.one (.bool true)) (.var 0 (BI kd P C V sd vl AE AG cr 0))) (o:CF 48 [.one (.sl .i64 C),AD t] (AD x)) (u:Bi Tryz.prog 47 [BT,AD x] (.var 0 (BI kd P C V sd vl AE AG cr 0)) (.agg (AK Tr Ar)) (.var 0 (BI kd P C V sd vl AE AG cr 0))) (m:CF 49 [.agg (AK Tr Ar)] (AD s)) (y:s= -1):CF 9 (FH kd P C V sd vl AE AG t cr) (AS (AK [] []) 7):=by
 refine AN Tryz.func9 fun E f=>?_
 refine AB f n ?_;refine AY ?_;refine C8 22 rfl (BE f (hR)) AQ ?_;try conv=>cbv
 refine AY ?_;refine AB f o ?_;refine C8 22 rfl (BE f (u)) AQ ?_;try conv=>cbv
 refine AY ?_;refine AB f m ?_;refine .inr ?_;refine BV (fun g=>?_) fun g=>?_
 ·exact absurd g AA
 refine CU (fun h=>?_) fun h=>?_
 ·exact absurd y h
 exact AM AQ
theorem sN (u:CF 23 [.agg (cC kd P C V sd),.one (.sl .i64 AE),AD t] (.one (.bool true))) (hR:Bi Tryz.prog 25 [BT,AD t] (.var 0 (BI kd P C V sd vl AE AG cr 0)) (.one (.bool true)) (.var 0 (BI kd P C V sd vl AE AG cr 0))) (y:CF 48 [.one (.sl .i64 C),AD t] (AD x)) {Tp Tq:List LR} {Ap Aq:LR} (z:Bi Tryz.prog 47 [BT,AD x] (.var 0 (BI kd P C V sd vl AE AG cr 0)) (.agg (AK Tr Ar)) (.var 0 (BI kd P C V sd vl AE AG cr 0))) (m:CF 49 [.agg (AK Tr Ar)] (AD s)) (A:s=1) (n:CF 50 [.agg (AK Tr Ar)] (.agg (AK Tp Ap))) (o:CF 50 [.agg (AK Tp Ap)] (.agg (AK Tq Aq))):CF 9 (FH kd P C V sd vl AE AG t cr) (AS (AK Tq Aq) 0):=by
 refine AN Tryz.func9 fun E f=>?_
 refine AB f u ?_;refine AY ?_;refine C8 22 rfl (BE f (hR)) AQ ?_;try conv=>cbv
 refine AY ?_;refine AB f y ?_;refine C8 22 rfl (BE f (z)) AQ ?_;try conv=>cbv
 refine AY ?_;refine AB f m ?_;refine .inr ?_;refine BV (fun g=>?_) fun g=>?_
 ·exact absurd g AA
 refine BV (fun h=>?_) fun h=>?_
 ·exact absurd h AA
 refine AB f n ?_;refine AB f o ?_;exact AM ⟨t3,t2,trivial⟩
end
section
variable {A1 A2 A3 A4 CJ CK CP Cb Cz FP:LR} {M R b c d k k' ki kp kq kt l l' p q:Nat} {T1 T2 T3 T4 CL CM CQ Cc C0 FR:List LR} {TT EA:AH->Prop} {v vi vt x1 x2 xp xq y1 y2 yp yq:Re} {w w0:AH}
theorem WL (F:Fm TT w R b c M q p) (G:Vm TT w b k k' T1 A1 T2 A2 x1 y1) (H:Vm TT w b l l' T3 A3 T4 A4 x2 y2) (L:k+l+c+2<=M) (D:k'+l'+c+2<=M):∃T A m h,Vm TT w b (k+l+3) (k'+l'+3) T A m h ((x1+x2)*Re.ofRat (1/2)) ((y1+y2)*Re.ofRat (1/2))/\CF 87 [.agg (AI T1 A1 T2 A2),.agg (AI T3 A3 T4 A4)] (AS (AI T A m h) 0):=by
 obtain⟨I,fl,J,K,hf⟩:=CZ (1/2:Rat);have B:(1/2:Rat)=Rat.divInt 1 2:=by decide +kernel
 obtain⟨A7,f⟩:=Di (em [] (Re.ofRat (1/2)));have y:Nm TT w b 1 [] A7 (Re.ofRat (1/2)):=f ▸ GU F AA (Fg (by decide +kernel) F.hb);obtain⟨T8,A8,T9,A9,z,o⟩:=Ox F G H;obtain⟨T5,A5,T6,A6,u,n⟩:=Oy F z y;refine⟨T5,A5,T6,A6,u.mono AA AA,?_⟩;refine AN Tryz.func87 fun E g=>?_
 refine AB g o ?_;refine AY ?_;refine AB g (SG AF AF AF B hf) ?_;refine AB g (Kw hf (Hk (by decide +kernel:C7 (1/2:Rat))) f) ?_;refine AB g n ?_;exact AM AQ
theorem lW (F:Fm TT w R b c M q p) (Z:Vm TT w b k k' T1 A1 T2 A2 x1 y1) (g:Vm TT w b l l' T3 A3 T4 A4 x2 y2) (D:q*l+p<=d) (Y:q*l'+p<=d) (hi:d+c+1<=M) (h1:k+k'+l+l'+c+4<=M) (h:x2≠0):∃T A I H n m,E8 TT w b (l'+d+1) (k+k'+l+l'+d+4) T A I H n m (un x2) (y2*BU (fs x2 y2)) ((x1*x2+y1*y2)*BU (fs x2 y2))/\CY Tryz.prog 163 [BT,.agg (AI T1 A1 T2 A2),.agg (AI T3 A3 T4 A4)] (.var 0 [.int .i64 0]) (AS (Bu T A I H n m) 0):=by
 obtain⟨T5,A5,O,J⟩:=Ry F Z g;obtain⟨a1,u,B,_⟩:=EN F g.x;obtain⟨T6,A6,S,K,_⟩:=G0 F g.x g.x D h;obtain⟨T7,A7,U,L,_⟩:=G0 F g.y g.x D h;obtain⟨T8,A8,W,N,_⟩:=G0 F O g.x D h;rw[MT h,NG h];refine⟨T6,A6,T7,A7,T8,A8,⟨(RA F AA (r:=1) (by decide +kernel) S (Fj h)),U.mono AA,W.mono AA⟩,?_⟩;refine C5 Tryz.func163 fun E f=>?_
 conv=>cbv
 refine AB f J ?_;refine Bh 0 0 f GK ?_;refine AB f B ?_;intro G o;refine .inr ?_;cases G <;> conv=>cbv
 ·have z:=Bm o;refine AB f K ?_;refine Bh 0 0 f GK ?_;refine AB f L ?_;refine Bh 0 0 f GK ?_;refine AB f N ?_;refine Bh 0 0 f GK ?_;refine AY ?_;refine AQ
 have z:=Bp o;exact absurd (Fu.1 (u.symm.trans z)) h
theorem lV (F:Fm TT w R b c M q p) (Z:Vm TT w b k k' T1 A1 T2 A2 x1 y1) (h:Vm TT w b l l' T3 A3 T4 A4 x2 y2) (hd:q*l+p<=d) (g:q*l'+p<=d) (hi:d+c+1<=M) (h1:k+k'+l+l'+c+4<=M) (B:x2=0) (G:y2≠0):∃T A J I n m,E8 TT w b (l'+d+1) (k+k'+l+l'+d+4) T A J I n m (un x2) (y2*BU (fs x2 y2)) ((x1*x2+y1*y2)*BU (fs x2 y2))/\CY Tryz.prog 163 [BT,.agg (AI T1 A1 T2 A2),.agg (AI T3 A3 T4 A4)] (.var 0 [.int .i64 0]) (AS (Bu T A J I n m) 0):=by
 obtain⟨T5,A5,S,K⟩:=Ry F Z h;obtain⟨a1,u,D,_⟩:=EN F h.x;obtain⟨T6,A6,U,L,_⟩:=G0 F h.x h.y g G;obtain⟨T7,A7,W,N,_⟩:=G0 F h.y h.y g G;obtain⟨T8,A8,Y,O,_⟩:=G0 F S h.y g G;rw[MS B,ND B];refine⟨T6,A6,T7,A7,T8,A8,⟨(RA F AA (r:=0) (by decide +kernel) U (show _=(0:Re) by rw[B];grind)),W.mono AA,Y.mono AA⟩,?_⟩;refine C5 Tryz.func163 fun E f=>?_
 conv=>cbv
 refine AB f K ?_;refine Bh 0 0 f GK ?_;refine AB f D ?_;intro H o;refine .inr ?_;cases H <;> conv=>cbv
 ·have z:=Bm o;exact absurd (u.trans (by rw[B];exact Gk)) z
 have z:=Bp o;refine AB f L ?_;refine Bh 0 0 f GK ?_;refine AB f N ?_;refine Bh 0 0 f GK ?_;refine AB f O ?_;refine Bh 0 0 f GK ?_;refine AY ?_;refine AQ
theorem N3 (F:Fm TT w R b c M q p) (D:Vm TT w b k k' T1 A1 T2 A2 x1 y1) (B:Vm TT w b l l' T3 A3 T4 A4 x2 y2) (y:q*l+p<=d) (h:q*l'+p<=d) (z:d+c+1<=M) (u:k+k'+l+l'+c+4<=M) (G:¬(x2=0/\y2=0)):∃T A o n g f,E8 TT w b (l'+d+1) (k+k'+l+l'+d+4) T A o n g f (un x2) (y2*BU (fs x2 y2)) ((x1*x2+y1*y2)*BU (fs x2 y2))/\CY Tryz.prog 163 [BT,.agg (AI T1 A1 T2 A2),.agg (AI T3 A3 T4 A4)] (.var 0 [.int .i64 0]) (AS (Bu T A o n g f) 0):=by
 by_cases m:x2=0
 ·exact lV F D B y h z u m fun e=>G ⟨m,e⟩
 exact lW F D B y h z u m
theorem Qk (F:Fm TT w R b c M q p) (f:Vm TT w b k k' T1 A1 T2 A2 x1 y1) (n:k+c+1<=M) (o:k'+c+1<=M):∃A,Vm TT w b k' k T2 A2 T1 A y1 (-x1)/\CF 164 [.agg (AI T1 A1 T2 A2)] (.agg (AI T2 A2 T1 A)):=by
 obtain⟨A5,h,g,_⟩:=Gh F f.x n;refine⟨A5,⟨f.y,h⟩,?_⟩;refine AN Tryz.func164 fun E m=>?_
 refine AB m g ?_;exact AM AQ
theorem Z0 (F:Fm TT w R b c M q p) (H:Vm TT w b k k' T1 A1 T2 A2 x1 y1) (L:Vm TT w b l l' T3 A3 T4 A4 x2 y2) (hk:2*k+4*c+3<=M) (D:2*k'+4*c+3<=M) (hl:2*l+4*c+3<=M) (G:2*l'+4*c+3<=M) (K:¬(x1=x2/\y1=y2)) (Y:q*(l+k+1)+p<=d) (B:q*(l'+k'+1)+p<=d) (Z:d+c+1<=M) (h1:2*k+2*k'+l+l'+c+6<=M):∃T A J I g f,E8 TT w b (l+k+d+2) (2*k+2*k'+l+l'+d+6) T A J I g f (un (y2-y1)) (-(x2-x1)*BU (fs (y2-y1) (-(x2-x1)))) ((x1*(y2-y1)+y1* -(x2-x1))*BU (fs (y2-y1) (-(x2-x1))))/\CF 89 [.agg (AI T1 A1 T2 A2),.agg (AI T3 A3 T4 A4)] (AS (Bu T A J I g f) 0):=by
 obtain⟨T5,A5,T6,A6,U,N⟩:=Gn F L H;obtain⟨A7,W,O⟩:=Qk F U AA AA;obtain⟨T8,A8,T9,A9,o,n,u,S⟩:=N3 F H W B Y Z AA (fun h=>K ⟨by grind,by grind⟩);refine⟨T8,A8,T9,A9,o,n,⟨u.x,u.y.mono AA,u.z.mono AA⟩,?_⟩;refine AN Tryz.func89 fun E m=>?_
 refine AB (r:= .one (.bool false)) m (Hr F H L hk D hl G (e:=false) ⟨fun h=>(by cases h),fun h=>absurd h K⟩) ?_;refine AB m N ?_;refine Bh 12 1 m Hb ?_;refine AB m O ?_;refine Bh 12 1 m S ?_;exact AM AQ
theorem Z1 (F:Fm TT w R b c M q p) (u:Vm TT w b k k' T1 A1 T2 A2 x1 y1) (y:Vm TT w b l l' T3 A3 T4 A4 x2 y2) (n:2*k+4*c+3<=M) (f:2*k'+4*c+3<=M) (o:2*l+4*c+3<=M) (g:2*l'+4*c+3<=M) (h:x1=x2/\y1=y2):CF 89 [.agg (AI T1 A1 T2 A2),.agg (AI T3 A3 T4 A4)] (AS (Bu [] [] [] [] [] []) 11):=by
 refine AN Tryz.func89 fun E m=>?_
 refine AB m (Hr F u y n f o g (e:=true) ⟨fun _=>h,fun _=>rfl⟩) ?_;exact AM AQ
theorem Zy (F:Fm TT w R b c M q p) (W:Vm TT w b k k' T1 A1 T2 A2 x1 y1) (J:Vm TT w b l l' T3 A3 T4 A4 x2 y2) (U:l+c+1<=M) (D:l'+c+1<=M) (I:¬(x2=0/\y2=0)) (O:q*l+p<=d) (B:q*l'+p<=d) (S:d+c+1<=M) (Y:k+k'+l+l'+c+4<=M):∃T A H G g f,E8 TT w b (l+d+1) (k+k'+l+l'+d+4) T A H G g f (un y2) (-x2*BU (fs y2 (-x2))) ((x1*y2+y1* -x2)*BU (fs y2 (-x2)))/\CF 168 [.agg (AI T1 A1 T2 A2),.agg (AI T3 A3 T4 A4)] (AS (Bu T A H G g f) 0):=by
 obtain⟨A7,N,K⟩:=Qk F J AA AA;obtain⟨T8,A8,T9,A9,n,m,o,L⟩:=N3 F W N B O S AA (fun h=>I ⟨by grind,by grind⟩);refine⟨T8,A8,T9,A9,n,m,⟨o.x,o.y.mono AA,o.z.mono AA⟩,?_⟩;refine AN Tryz.func168 fun E u=>?_
 refine AB (r:= .one (.bool false)) u (WM F J U D (e:=false) ⟨fun h=>(by cases h),fun h=>absurd h I⟩) ?_;refine AB u K ?_;refine Bh 10 1 u L ?_;exact AM AQ
theorem oF (F:Fm TT w R b c M q p) (o:Vm TT w b k k' T1 A1 T2 A2 x1 y1) (n:Vm TT w b l l' T3 A3 T4 A4 x2 y2) (m:l+c+1<=M) (f:l'+c+1<=M) (g:x2=0/\y2=0):CF 168 [.agg (AI T1 A1 T2 A2),.agg (AI T3 A3 T4 A4)] (AS (Bu [] [] [] [] [] []) 6):=by
 refine AN Tryz.func168 fun E h=>?_
 refine AB h (WM F n m f (e:=true) ⟨fun _=>g,fun _=>rfl⟩) ?_;exact AM AQ
theorem oI {m m':Nat} (F:Fm TT w R b c M q p) {T5:List LR} {A5:LR} {α β γ x y:Re} (D:E8 TT w b k l T1 A1 T2 A2 T3 A3 α β γ) (ha:Vm TT w b m m' T4 A4 T5 A5 x y) (n:¬(α=0/\β=0)) (z:q*(2*k+5)+p<=d) (B:d+c+1<=M) (h3:2*k+l+m+m'+d+c+12<=M):∃T A g f,Vm TT w b (k+l+2*m+m'+d+11) (2*k+l+m+2*m'+d+10) T A g f (x-α*(Fi α β γ x y*Re.ofRat (((2:Int):Rat)))) (y-β*(Fi α β γ x y*Re.ofRat (((2:Int):Rat))))/\CF 91 [.agg (Bu T1 A1 T2 A2 T3 A3),.agg (AI T4 A4 T5 A5)] (AS (AI T A g f) 0):=by
 obtain⟨T7,A7,T8,A8,o,h⟩:=Z2 F D ha n z B (t:=2) AF (by decide +kernel) h3;refine⟨T7,A7,T8,A8,o,?_⟩;refine AN Tryz.func91 fun E u=>?_
 refine AB u h ?_;exact AM AQ
theorem oG (F:Fm TT w R b c M q p) (J:Vm TT w b k k' T1 A1 T2 A2 x1 y1) (K:Vm TT w b l l' T3 A3 T4 A4 x2 y2) (hk:2*k+4*c+3<=M) (H:2*k'+4*c+3<=M) (hl:2*l+4*c+3<=M) (I:2*l'+4*c+3<=M) (O:¬(x1=x2/\y1=y2)) (hd:q*(l+k+1)+p<=d) (G:q*(l'+k'+1)+p<=d) (hi:d+c+1<=M) (h1:2*k+2*k'+2*l+2*l'+c+12<=M):∃T A N L m g,E8 TT w b (l'+k'+d+2) (2*k+2*k'+2*l+2*l'+d+12) T A N L m g (un (x2-x1)) ((y2-y1)*BU (fs (x2-x1) (y2-y1))) ((((x1+x2)*Re.ofRat (1/2))*(x2-x1)+((y1+y2)*Re.ofRat (1/2))*(y2-y1))*BU (fs (x2-x1) (y2-y1)))/\CF 172 [.agg (AI T1 A1 T2 A2),.agg (AI T3 A3 T4 A4)] (AS (Bu T A N L m g) 0):=by
 obtain⟨T5,A5,T6,A6,Y,S⟩:=WL F J K AA AA;obtain⟨T7,A7,T8,A8,Z,U⟩:=Gn F K J;obtain⟨T9,A9,u,n,B,o,D,W⟩:=N3 F Y Z hd G hi AA (fun h=>O ⟨by grind,by grind⟩);refine⟨T9,A9,u,n,B,o,⟨D.x,D.y.mono AA,D.z.mono AA⟩,?_⟩;refine Gc Tryz.func172 fun E f=>?_
 conv=>cbv
 refine Be (r:= .one (.bool false)) f (Hr F J K hk H hl I (e:=false) ⟨fun h=>(by cases h),fun h=>absurd h O⟩) ?_;conv=>cbv
 refine Be f S ?_;conv=>cbv
 refine C1 12 1 f Hb ?_;try conv=>cbv
 refine Be f U ?_;conv=>cbv
 refine C1 12 1 f Hb ?_;try conv=>cbv
 refine C1 12 1 f W ?_;try conv=>cbv
 refine Bl ?_;exact AM AQ
theorem oK (F:Fd TT w) (hp:Vm TT w 1950000 kp kp CL CJ CM CK xp yp) (hq:Vm TT w 1950000 kq kq CQ CP Cc Cb xq yq) (ht:Nm TT w 1950000 kt C0 Cz vt) (hi:Nm TT w 1950000 ki FR FP vi) (F0:Fe EA w0) (ab:Vm EA w0 11500 20 20 CL CJ CM CK xp yp) (ad:Vm EA w0 11500 20 20 CQ CP Cc Cb xq yq) (U:Up EA w0 11500 167 TT w 1950000) (hr:Rt EA w0 11500 167 TT w 1950000 2 v) (hv:(xq-xp)*(xq-xp)+(yq-yp)*(yq-yp)=v) (h0:¬(xp=xq/\yp=yq)) (ae:0<=vt) (hn:Re.sqrt v≠0) (a5:Re.sqrt v*vi=1) (hM:2*ki+2*kp+2*kq+2*kt+443<=80000):∃U0 B0 U1 B1 U2 B2,Nm TT w 1950000 (1) U0 B0 (un (yq-yp))/\Nm TT w 1950000 (72) U1 B1 ((-(xq-xp))*BU (fs (yq-yp) (-(xq-xp))))/\Nm TT w 1950000 (2*ki+2*kp+2*kt+84) U2 B2 (oC xp yp xq yq (vt*vi)*BU (fs (yq-yp) (-(xq-xp))))/\CF 159 [.agg (AI CL CJ CM CK),.agg (AI CQ CP Cc Cb),.agg (AK C0 Cz),AD 1] (AS (Bu U0 B0 U1 B1 U2 B2) 0):=by
 obtain⟨aB,B,D,ay⟩:=EN F ht;have a8:=Kh ae B;obtain⟨Tw,Aw,Tv,Av,a6,cw⟩:=Gn F0 ad ab;have hw:=U.v AF AF a6;obtain⟨Tn,An,aa,cn⟩:=fP F0 a6 hv hr AF AF;obtain⟨ao,af,N,G,az⟩:=G0 F ht aa (d:=117) AA hn;obtain⟨aq,ag,O,ax,aA⟩:=Ef F ht hi;have S:=N.shrink O (KM a5);have T:=S.cast (y:=vt*vi) (KM a5);obtain⟨ah,W,H⟩:=Rz F hw;obtain⟨ar,ai,au,aj,Y,I⟩:=Oy F W T;obtain⟨av,ak,aw,al,Z,J⟩:=Ox F hp Y;obtain⟨an,a1,K⟩:=Qk F hw AA AA;obtain⟨o,h,u,m,A,n,g,L⟩:=N3 F Z a1 (d:=70) AA AA AA AA (fun z=>h0 ⟨by grind,by grind⟩)
 have a2:=g.z.cast (y:=oC xp yp xq yq (vt*vi)*BU (fs (yq-yp) (-(xq-xp)))) (rfl);refine⟨o,h,u,m,A,n,g.x.mono AA,g.y.mono AA,a2.mono AA,?_⟩;refine AN Tryz.func159 fun E f=>?_
 refine .inr ?_;refine AY ?_;refine AB f D ?_;refine C6 (fun a7=>?_) fun a7=>?_
 ·exact absurd a7 a8
 refine AB (r:= .one (.bool false)) f (Hr F hp hq AA AA AA AA (e:=false) ⟨fun z=>(by cases z),fun z=>absurd z h0⟩) ?_;refine AB f cw ?_;refine Bh 32 1 f Hb ?_;refine AB f cn ?_;refine Bh 32 1 f GK ?_;refine AB f G ?_;refine Bh 32 1 f GK ?_;refine AY ?_;refine .inr ?_;refine AB f H ?_;refine AB f I ?_;refine Bh 32 1 f Hb ?_;refine AB f J ?_;refine Bh 32 1 f Hb ?_;refine AB f K ?_;refine Bh 32 1 f L ?_;exact AM AQ
theorem oJ (F:Fd TT w) (hp:Vm TT w 1950000 kp kp CL CJ CM CK xp yp) (hq:Vm TT w 1950000 kq kq CQ CP Cc Cb xq yq) (ht:Nm TT w 1950000 kt C0 Cz vt) (hi:Nm TT w 1950000 ki FR FP vi) (F0:Fe EA w0) (ae:Vm EA w0 11500 20 20 CL CJ CM CK xp yp) (af:Vm EA w0 11500 20 20 CQ CP Cc Cb xq yq) (U:Up EA w0 11500 167 TT w 1950000) (hr:Rt EA w0 11500 167 TT w 1950000 2 v) (hv:(xq-xp)*(xq-xp)+(yq-yp)*(yq-yp)=v) (h0:¬(xp=xq/\yp=yq)) (ag:0<=vt) (hn:Re.sqrt v≠0) (a7:Re.sqrt v*vi=1) (hM:2*ki+2*kp+2*kq+2*kt+443<=80000):∃U0 B0 U1 B1 U2 B2,Nm TT w 1950000 (1) U0 B0 (un (yq-yp))/\Nm TT w 1950000 (72) U1 B1 ((-(xq-xp))*BU (fs (yq-yp) (-(xq-xp))))/\Nm TT w 1950000 (2*ki+2*kp+2*kt+84) U2 B2 (oC xp yp xq yq (-(vt*vi))*BU (fs (yq-yp) (-(xq-xp))))/\CF 159 [.agg (AI CL CJ CM CK),.agg (AI CQ CP Cc Cb),.agg (AK C0 Cz),AD (-1)] (AS (Bu U0 B0 U1 B1 U2 B2) 0):=by
 obtain⟨aF,B,D,aB⟩:=EN F ht;have ab:=Kh ag B;obtain⟨Tw,Aw,Tv,Av,a8,cw⟩:=Gn F0 af ae;have hw:=U.v AF AF a8;obtain⟨Tn,An,ad,cn⟩:=fP F0 a8 hv hr AF AF;obtain⟨au,ah,O,G,aC⟩:=G0 F ht ad (d:=117) AA hn;obtain⟨av,ai,S,aA,aD⟩:=Ef F ht hi;have T:=O.shrink S (KM a7);have W:=T.cast (y:=vt*vi) (KM a7);obtain⟨aj,Y,H,aE⟩:=Gh F W;obtain⟨ak,Z,I⟩:=Rz F hw;obtain⟨aw,al,ax,an,a1,J⟩:=Oy F Z Y;obtain⟨ay,ao,az,aq,a2,K⟩:=Ox F hp a1;obtain⟨ar,a5,L⟩:=Qk F hw AA AA;obtain⟨o,h,u,m,A,n,g,N⟩:=N3 F a2 a5 (d:=70) AA AA AA AA (fun z=>h0 ⟨by grind,by grind⟩)
 have a6:=g.z.cast (y:=oC xp yp xq yq (-(vt*vi))*BU (fs (yq-yp) (-(xq-xp)))) (rfl);refine⟨o,h,u,m,A,n,g.x.mono AA,g.y.mono AA,a6.mono AA,?_⟩;refine AN Tryz.func159 fun E f=>?_
 refine .inr ?_;refine Bx ?_;refine AY ?_;refine AB f D ?_;refine C6 (fun aa=>?_) fun aa=>?_
 ·exact absurd aa ab
 refine AB (r:= .one (.bool false)) f (Hr F hp hq AA AA AA AA (e:=false) ⟨fun z=>(by cases z),fun z=>absurd z h0⟩) ?_;refine AB f cw ?_;refine Bh 32 1 f Hb ?_;refine AB f cn ?_;refine Bh 32 1 f GK ?_;refine AB f G ?_;refine Bh 32 1 f GK ?_;refine Bx ?_;refine .inr ?_;refine AB f H ?_;refine AB f I ?_;refine AB f J ?_;refine Bh 32 1 f Hb ?_;refine AB f K ?_;refine Bh 32 1 f Hb ?_;refine AB f L ?_;refine Bh 32 1 f N ?_;exact AM AQ
end
section
noncomputable def IS (c:Prop) (n:Int):Int:=open Classical in if c then n else 0
theorem mC {c d:Prop} {n:Int} (h:c↔d):IS c n=IS d n:=by rw[propext h]
theorem JW {c:Prop} {n:Int} (h:c):IS c n=n:=if_pos h
theorem Hc {c:Prop} {n:Int} (h:¬c):IS c n=0:=if_neg h
def Er (C:AV->Prop) (e:Int):Prop:=∃k t a,C (Dr k t a e)
theorem Er.mono {C D:AV->Prop} {e:Int} (h:Er C e) (f:∀k t a,C (Dr k t a e)->D (Dr k t a e)):Er D e:=let ⟨k,t,a,c⟩:=h;⟨k,t,a,f _ _ _ c⟩
def Dt (k:Int) (t:Nat->F1) (a:Nat->F2):Prop:=CF 27 [.agg (Cu k t a)] (.agg (Cu k t a))
def Wr (W:List AC->Int->Prop) (e:Int):Prop:=∃k t a,W (Cu k t a) e/\(e=0->Dt k t a)
theorem Wr.mono {W X:List AC->Int->Prop} {e:Int} (h:Wr W e) (g:∀k t a,W (Cu k t a) e->X (Cu k t a) e):Wr X e:=let ⟨k,t,a,c,d⟩:=h;⟨k,t,a,g _ _ _ c,d⟩
def Bo (C:AV->Prop) (W:List AC->Int->Prop):Prop:=∃e,Er C e/\Wr W e
theorem Bo.mono {C D:AV->Prop} {W X:List AC->Int->Prop} (h:Bo C W) (f:∀k t a e,C (Dr k t a e)->D (Dr k t a e)) (g:∀k t a e,W (Cu k t a) e->X (Cu k t a) e):Bo D X:=
 let ⟨e,⟨k,t,a,c⟩,k1,t1,m,c1,d⟩:=h;⟨e,⟨k,t,a,f _ _ _ _ c⟩,k1,t1,m,g _ _ _ _ c1,d⟩
theorem JV {k:Int} {T0 T1 T2 T3 T4:F1} {A0 A1 A2 A3 A4:F2} (h:Eb T3 A3) (f:Eb T4 A4):Dt k (Df [T0,T1,T2,T3,T4]) (Db [A0,A1,A2,A3,A4]):=Qr h f (FX _) (FX _) (FX _) (FX _) (FX _)
theorem LI {k:Int} {T0 T1 T2:F1} {A0 A1 A2:F2} (h:Eb T0 A0) (f:Eb T1 A1) (g:Eb T2 A2):Dt k (Df [[],[],[],[],[],T0,T1,T2]) (Db [[],[],[],[],[],A0,A1,A2]):=Qr (FX _) (FX _) h f g (FX _) (FX _)
theorem QK {k:Int} {T0 T1:F1} {A0 A1:F2} (h:Eb T0 A0) (f:Eb T1 A1):Dt k (Df [[],[],[],[],[],[],[],[],T0,T1]) (Db [[],[],[],[],[],[],[],[],A0,A1]):=Qr (FX _) (FX _) (FX _) (FX _) (FX _) h f
section
variable {P:AH->Prop} {V:List Re} {w:AH}
theorem Rr (F:Fl (Tf P) w) {p q:el CV} {xp yp xq yq:Re} (g:VF P w 20 p xp yp) (h:VF P w 20 q xq yq):Er (CF 35 [.agg (cV p),.agg (cV q)]) (IS (xp=xq/\yp=yq) 11):=by
 obtain⟨T1,A1,T2,A2,m,c1⟩:=Ls F h g
 by_cases f:xp=xq/\yp=yq
 ·rw[JW f];exact⟨0,Bv,Bv,vB AF (VT F g h AF AF AF AF f) c1⟩
 rw[Hc f];obtain⟨T3,A3,T4,A4,T5,A5,n,c2⟩:=VS F g h AF AF AF AF f vw vw;exact⟨1,Df [T3,T4,T5,T1,T2],Db [A3,A4,A5,A1,A2],vA c2 c1⟩
theorem Sp (F:Fl (Tf P) w) {p q:el CV} {xp yp xq yq:Re} {k l:Nat} (g:VF P w k p xp yp) (h:VF P w l q xq yq) (n:k<=200) (o:l<=200):Er (CF 43 [.agg (cV p),.agg (cV q)]) (IS (xq=0/\yq=0) 6):=by
 by_cases f:xq=0/\yq=0
 ·rw[JW f];exact⟨0,Bv,Bv,uZ AF (qK F g h AA AA f)⟩
 rw[Hc f];obtain⟨T3,A3,T4,A4,T5,A5,m,c2⟩:=Oa F g h AA AA f vw vw AA;exact⟨1,Df [T3,T4,T5,q.1.1,q.2.1],Db [A3,A4,A5,q.1.2,q.2.2],uY c2⟩
theorem fG (F:Fl (Tf P) w) {p q:el CV} {n:el AR} {xp yp xq yq t:Re} (m:VF P w 20 p xp yp) (g:VF P w 41 q xq yq) (h:NF P w 1 n t):Er (CF 118 [.agg (cV p),.agg (cV q),.agg (cN n)]) (IS (xq=0/\yq=0) 6):=by
 obtain⟨A1,u,c1⟩:=O4 F g;obtain⟨T2,A2,T3,A3,y,c2⟩:=Wa F u h;obtain⟨T4,A4,T5,A5,h3,c3⟩:=SB F g y
 by_cases f:xq=0/\yq=0
 ·rw[JW f];exact⟨0,Bv,Bv,vD AF (qb F m g h AF AF f) c1 c2 c3⟩
 rw[Hc f];obtain⟨T6,A6,T7,A7,T8,A8,z,o⟩:=qa F m g h f vw AF AF;exact⟨1,Df [T6,T7,T8,T4,T5],Db [A6,A7,A8,A4,A5],vC o c1 c2 c3⟩
theorem K7 (F:Fl (Tf P) w) {c:el CV} {s:el AR} {S:Re} {k:Nat} (h:NF P w k s S) (m:k<=800):Er (CF 33 [.agg (cV c),.agg (cN s),AD 0]) (IS (S=0) 6):=by
 obtain⟨r,g,_,c1⟩:=EN F h
 by_cases f:S=0
 ·rw[JW f];obtain rfl:r=0:=g.trans (Fu.2 f);exact⟨0,Bv,Bv,uc c1⟩
 rw[Hc f];exact⟨2,Df [[],[],[],[],[],c.1.1,c.2.1,s.1],Db [[],[],[],[],[],c.1.2,c.2.2,s.2],ua (fun q=>f (Fu.1 (g.symm.trans q))) c1⟩
theorem OG {c:el CV}:Er (CF 31 [.agg (cV c),AD 0]) 0:=⟨3,Df [[],[],[],[],[],[],[],[],c.1.1,c.2.1],Db [[],[],[],[],[],[],[],[],c.1.2,c.2.2],ue⟩
end
end
section
abbrev WS (kd:Int) (Q C:List Int) (X:List Ex) (sd:Int) (vl:LR) (AE:List Int) (AG:Int) (cr:List (el AR)) (f:FuncId) (args:List AV) (l:List AC) (e:Int):Prop:=
 Bi Tryz.prog f (BT::args) (.var 0 (BI kd Q C X sd vl AE AG cr 0)) (.agg l) (.var 0 (BI kd Q C X sd vl AE AG cr e))
abbrev JS (l m n:el AR):List AC:=[.sl (.sl AL) l.1,.sl AL l.2,.sl (.sl AL) m.1,.sl AL m.2,.sl (.sl AL) n.1,.sl AL n.2]
theorem Bw.pos {q:Rat} {b1 b2:Bool} {l1 l2:List UInt32} (h:Bw q b1 l1 b2 l2) (hb:b1=false) (f:l1.length≠0):0<q:=(Rat.lt_iff _ _).2 (by
 have s:=h.num.Fa;have n:=mt h.num.Gf.2 f;rw[hb] at s;simp at s
 show (0:Int)*_<q.num*((1:Nat):Int)
 omega)
section
variable {P:AH->Prop} {V:List Re} {w:AH} {cr:List (el AR)} {AG:Int} {nc:Nat}
theorem Em.Dy (H:Em P w cr AG nc) {kd sd:Int} {Q C:List Int} {X:List Ex} {vl:LR} {AE:List Int} {i p:Int} {i0:Nat} (g:Ah i i0) (f:Q[i0]? =some p) (m:0<=p/\p<AG):Bj 82 i (cV (EH cr p)) kd Q C X sd vl AE AG cr:=fun e=>by
 have h:=H.len;have hb:=H.b;exact dH g (p0:=p.toNat) ⟨AA⟩ AA (getD_some AA) (getD_some AA) f
theorem Em.LS (H:Em P w cr AG nc) {kd sd:Int} {Q C:List Int} {X:List Ex} {vl:LR} {AE:List Int} {i c p:Int} {i0:Nat} (h:Ah i i0) (f:C[i0]? =some c) (g:0<=c) (m:AE[c.toNat]? =some p) (o:0<=p/\p<AG):Bj 125 i (cV (EH cr p)) kd Q C X sd vl AE AG cr:=fun e=>by
 have n:=H.len;have hb:=H.b;exact rL h (p0:=p.toNat) ⟨AA⟩ AA (getD_some AA) (getD_some AA) f g m
theorem Em.LV (H:Em P w cr AG nc) {kd sd:Int} {Q C:List Int} {X:List Ex} {vl:LR} {AE:List Int} {i c:Int} {i0:Nat} (h:Ah i i0) (f:C[i0]? =some c) (g:0<=c/\c<(nc:Nat)):Bj 124 i (cN (E0 cr AG c)) kd Q C X sd vl AE AG cr:=fun e=>by
 have hb:=H.b;exact sA h f ⟨AA,AA⟩ ⟨AA,AA⟩ (H.rd g)
theorem Vz {rv:Int} {l:LR} (h:E5 rv l) {i:Nat} {v:el AL} (n:l[i]? =some v):∃q,Bw q v.1.1 v.1.2 v.2.1 v.2.2/\C7 q/\[v]=em [] (Re.ofRat q)/\(rv=2->0<q):=by
 obtain⟨m,o,h3,_,g⟩:=h v (List.mem_of_getElem? n);obtain⟨q,f⟩:=NH.1 m;exact⟨q,f,(Ju f).2 ⟨AA,AA⟩,by rw[FD,f.rp],fun e=>f.pos (g e).1 (g e).2⟩
theorem Ko (F:Fl (Tf P) w) {rv:Int} {l:LR} (h:E5 rv l) {i:Int} {i0:Nat} {v:el AL} (m:Ah i i0) (g:l[i0]? =some v):∃x,NF P w 1 (([],[v]):el AR) x/\(rv=2->0<x)/\∀kd Q C X sd AE,Bj 84 i (cN (([],[v]):el AR)) kd Q C X sd l AE AG cr:=by
 obtain⟨q,o,f,he,n⟩:=Vz h g;have:=GU F AF (Fg f);rw[<-he] at this;exact⟨_,this,fun e=>Re.Ia.2 (n e),fun _ _ _ _ _ _ _=>dK m g (Kw o (Hk f) he)⟩
variable {kd sd:Int} {Q C:List Int} {X:List Ex} {vl:LR} {AE:List Int}
theorem TC (F:Fl (Tf P) w) {p q:el CV} {xp yp xq yq:Re} (g:VF P w 20 p xp yp) (n:VF P w 20 q xq yq):Wr (WS kd Q C X sd vl AE AG cr 85 [.agg (cV p),.agg (cV q)]) (IS (xp=xq/\yp=yq) 11):=by
 by_cases f:xp=xq/\yp=yq
 ·rw[JW f];exact⟨0,Bv,Bv,dB (Hr F g n AF AF AF AF ⟨fun _=>f,fun _=>rfl⟩),Ca⟩
 rw[Hc f];obtain⟨T1,A1,T2,A2,m,c1⟩:=Gn F n g;obtain⟨T3,A3,T4,A4,T5,A5,_,c2⟩:=Zy F g m AF AF (fun h=>f ⟨by grind,by grind⟩) vw vw AF AF;exact⟨1,Df [T3,T4,T5,T1,T2],Db [A3,A4,A5,A1,A2],dA (Hr F g n AF AF AF AF ⟨fun h=>(nomatch h),fun h=>absurd h f⟩) c1 c2,fun _=>JV (DD F m.x AF) (DD F m.y AF)⟩
theorem L7 (F:Fl (Tf P) w) {p q:el CV} {xp yp xq yq:Re} {k l:Nat} (g:VF P w k p xp yp) (h:VF P w l q xq yq) (o:k<=200) (u:l<=200):∃l m n:el AR,CF 168 [.agg (cV p),.agg (cV q)] (.BN [(true,JS l m n),(false,[.int .i64 (IS (xq=0/\yq=0) 6)])]):=by
 by_cases f:xq=0/\yq=0
 ·rw[JW f];exact⟨([],[]),([],[]),([],[]),oF F g h AA AA f⟩
 rw[Hc f];obtain⟨T3,A3,T4,A4,T5,A5,_,c2⟩:=Zy F g h AA AA f vw vw AA AA;exact⟨(T3,A3),(T4,A4),(T5,A5),c2⟩
theorem Xr (F:Fl (Tf P) w) {p q:el CV} {xp yp xq yq:Re} {k l:Nat} (o:VF P w k p xp yp) (f:VF P w l q xq yq) (g:k<=200) (h:l<=200):Bo (CF 43 [.agg (cV p),.agg (cV q)]) (WS kd Q C X sd vl AE AG cr 92 [.agg (cV p),.agg (cV q)]):=by
 obtain⟨l,m,n,c⟩:=L7 F o f g h;exact⟨_,Sp F o f g h,1,Df [l.1,m.1,n.1,q.1.1,q.2.1],Db [l.2,m.2,n.2,q.1.2,q.2.2],Mx c,fun _=>JV (DD F f.x AA) (DD F f.y AA)⟩
theorem O6 (F:Fl (Tf P) w) {s:el AR} {S:Re} {k:Nat} (h:NF P w k s S) (m:k<=800):∃r:Int,IS (S=0) 6=(if r=0 then 6 else 0)/\CF 49 [.agg (cN s)] (AD r):=by
 obtain⟨r,g,c1,_⟩:=EN F h;refine⟨r,?_,c1⟩
 by_cases f:S=0
 ·rw[JW f,if_pos (g.trans (Fu.2 f))]
 rw[Hc f,if_neg fun e=>f (Fu.1 (g.symm.trans e))]
theorem ZX:Re.ofRat (1/2)≠0:=fun e=>absurd (Re.Jm.1 (show Re.ofRat (1/2)=Re.ofRat 0 from e)) (by decide +kernel)
theorem nY {xp yp xq yq t:Re} (h:¬(xp=xq/\yp=yq)):(iX xp yp xq yq t-xp)*(iX xp yp xq yq t-xp)+(iY xp yp xq yq t-yp)*(iY xp yp xq yq t-yp)≠0:=Ic fun e=>by
 unfold iX iY at e;refine Rw (x:=(xq-xp)*Re.ofRat (1/2)) (y:=(yq-yp)*Re.ofRat (1/2)) (t:=Re.ofRat ((1:Int):Rat)*BU t) (fun g=>h ?_) ⟨by grind,by grind⟩;have a:xq-xp=0:=Classical.byContradiction fun n=>I3 n ZX g.1
 have b:yq-yp=0:=Classical.byContradiction fun n=>I3 n ZX g.2
 exact⟨by grind,by grind⟩
theorem nX (L:Pl P V w) (F:Fl (Tf P) w) {p q:el CV} {n:el AR} {xp yp xq yq t:Re} (o:VF P w 20 p xp yp) (z:VF P w 20 q xq yq) (m:NF P w 1 n t):
  ∃f:Int,(∃u v s:el AR,CF 115 [.agg (cV p),.agg (cV q),.agg (cN n)] (AS (JS u v s) f)/\Er (CF 33 [.agg (cV (u,v)),.agg (cN s),AD f]) f)/\
   ∃u v s:el AR,CF 170 [.agg (cV p),.agg (cV q),.agg (cN n)] (AS (JS u v s) f)/\Dt 2 (Df [[],[],[],[],[],u.1,v.1,s.1]) (Db [[],[],[],[],[],u.2,v.2,s.2]):=by
 have B:=o.to (b':=1950000) (k':=1) AF;have D:=z.to (b':=1950000) (k':=1) AF;have A:=m.to (b':=1950000) (k':=1) AF;have Z:=LI (k:=2) (FX []) (FX []) (FX [])
 by_cases g:xp=xq/\yp=yq
 ·exact⟨11,⟨([],[]),([],[]),([],[]),qO F o z m g AF,0,Bv,Bv,fk AF⟩,([],[]),([],[]),([],[]),kf L.fd B D A g AF,Z⟩
 by_cases h:t=0
 ·exact⟨6,⟨([],[]),([],[]),([],[]),qP F o z m g h AF,0,Bv,Bv,fk AF⟩,([],[]),([],[]),([],[]),kg L.fd B D A g h AF,Z⟩
 have h1:NF P w 1 (([],em [] (Re.ofRat 1)):el AR) (Re.ofRat 1):=GU F AF (Fg (by decide +kernel));obtain⟨T5,A5,O,_⟩:=G0 F h1 m vw h;have S:t*(Re.ofRat 1*BU t)=1:=by rw[show Re.ofRat 1=1 from rfl,show (1:Re)*BU t=BU t by grind];exact Fj h
 obtain⟨J,G,K,H,N,I,r1,r2,ci⟩:=qN F o z m O g h S AF;obtain⟨Y,T,W1,U,W2,W,s1,s2,cj⟩:=ke L.fd B D A (O.to (b':=1950000) (k':=1) AF) g h S AF;have:=K7 F (c:=((J,G),K,H)) (s:=(N,I)) r2 AF;rw[Hc (nY g)] at this;exact⟨0,⟨(J,G),(K,H),(N,I),ci,this⟩,(Y,T),(W1,U),(W2,W),cj,LI (DD L.fd s1.x AF) (DD L.fd s1.y AF) (DD L.fd s2 AF)⟩
theorem ax (L:Pl P V w) (F:Fl (Tf P) w) {p q:el CV} {n:el AR} {xp yp xq yq tv:Re} (Y:VF P w 20 p xp yp) (Z:VF P w 20 q xq yq) (hn:NF P w 20 n tv) (hs:sd=1\/sd= -1):
  ∃f:Int,(∃(a b c:el AR) (u:el CV),CF 36 [.agg (cV p),.agg (cV q),.agg (cN n),AD sd] (AS (JS a b c) f)/\CF 38 [.agg (cV p),.agg (cV q)] (.agg (cV u))/\Er (CF 37 [.agg (JS a b c),.agg (cV u),AD f]) f)/\
   ∃(a b c:el AR) (u:el CV),CF 159 [.agg (cV p),.agg (cV q),.agg (cN n),AD sd] (AS (JS a b c) f)/\CF 166 [.agg (cV q),.agg (cV p)] (AS (cV u) 0)/\Dt 1 (Df [a.1,b.1,c.1,u.1.1,u.2.1]) (Db [a.2,b.2,c.2,u.1.2,u.2.2]):=by
 obtain⟨u,_,cu⟩:=R5 F Y Z AF AF;obtain⟨T8,A8,T9,A9,h8,c8⟩:=Gn F Z Y;have o:=Y.to (b':=1950000) (k':=1) AF;have z:=Z.to (b':=1950000) (k':=1) AF;have m:=hn.to (b':=1950000) (k':=1) AF;have D:=fun {a b c:el AR}=>JV (k:=1) (T0:=a.1) (T1:=b.1) (T2:=c.1) (A0:=a.2) (A1:=b.2) (A2:=c.2) (DD F h8.x AF) (DD F h8.y AF)
 have err:=fun {f:Int} (hf:f≠0) r l=>(⟨f,⟨([],[]),([],[]),([],[]),u,r,cu,0,Bv,Bv,O1 hf⟩,([],[]),([],[]),([],[]),((T8,A8),T9,A9),l,c8,D⟩:∃f:Int,(∃(a b c:el AR) (u:el CV),CF 36 [.agg (cV p),.agg (cV q),.agg (cN n),AD sd] (AS (JS a b c) f)/\CF 38 [.agg (cV p),.agg (cV q)] (.agg (cV u))/\Er (CF 37 [.agg (JS a b c),.agg (cV u),AD f]) f)/\
  ∃(a b c:el AR) (u:el CV),CF 159 [.agg (cV p),.agg (cV q),.agg (cN n),AD sd] (AS (JS a b c) f)/\CF 166 [.agg (cV q),.agg (cV p)] (AS (cV u) 0)/\Dt 1 (Df [a.1,b.1,c.1,u.1.1,u.2.1]) (Db [a.2,b.2,c.2,u.1.2,u.2.2]))
 by_cases g:tv<0
 ·rcases hs with rfl | rfl
  ·exact err (f:=7) AF (qX L.fd o z m g AF) (oO L.fd o z m g AF)
  exact err (f:=7) AF (qW L.fd o z m g AF) (oN L.fd o z m g AF)
 have g:0<=tv:=by grind
 by_cases he:xp=xq/\yp=yq
 ·rcases hs with rfl | rfl
  ·exact err (f:=11) AF (qV L.fd o z m g he AF) (oM L.fd o z m g he AF)
  exact err (f:=11) AF (qU L.fd o z m g he AF) (oL L.fd o z m g he AF)
 obtain⟨T5,A5,d5,_⟩:=Kn F h8;have N:(xq-xp)*(xq-xp)+(yq-yp)*(yq-yp)≠0:=Ic fun h=>he ⟨by grind,by grind⟩
 have O:=Rl (xq-xp) (yq-yp);obtain⟨TT,w4,W,U,hr,A⟩:=mg L (d5.to (b':=11500) (k':=167) AF) vw O;obtain⟨Ti,Ai,A⟩:=A N;obtain⟨i1,i2,_⟩:=tK O N;have S:=Y.to (b':=11500) (k':=20) AF;have T:=Z.to (b':=11500) (k':=20) AF;have nt:=U.up AF (hn.to (b':=11500) (k':=20) AF);have pu:=U.v AF AF S;have qu:=U.v AF AF T;rcases hs with rfl | rfl
 ·obtain⟨I,B,J,G,K,H,_,_,_,c⟩:=qT W pu qu nt A L.fe S T U hr rfl he g i1 i2 AF;obtain⟨W0,D0,W1,D1,W2,D2,_,_,_,d⟩:=oK W pu qu nt A L.fe S T U hr rfl he g i1 i2 AF;exact⟨0,⟨(I,B),(J,G),(K,H),u,c,cu,1,Df [I,J,K,u.1.1,u.2.1],Db [B,G,H,u.1.2,u.2.2],NJ⟩,(W0,D0),(W1,D1),(W2,D2),((T8,A8),T9,A9),d,c8,D⟩
 obtain⟨I,B,J,G,K,H,_,_,_,c⟩:=qS W pu qu nt A L.fe S T U hr rfl he g i1 i2 AF;obtain⟨W0,D0,W1,D1,W2,D2,_,_,_,d⟩:=oJ W pu qu nt A L.fe S T U hr rfl he g i1 i2 AF;exact⟨0,⟨(I,B),(J,G),(K,H),u,c,cu,1,Df [I,J,K,u.1.1,u.2.1],Db [B,G,H,u.1.2,u.2.2],NJ⟩,(W0,D0),(W1,D1),(W2,D2),((T8,A8),T9,A9),d,c8,D⟩
end
end
end Go.Abs
