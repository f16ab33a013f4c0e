/- Part 18 of a proof. Conditions: each theorem's own. -/
import Derived.Test.YtmifleedghiimaaGreatDoorRb16
set_option linter.all false
set_option maxHeartbeats 80000000
set_option maxRecDepth 20000
open Go.Proofs
namespace Go.Abs
open Go.RowKit
section
def Bm (f:FuncId) (i:Int) (cs:List AC) (kd:Int) (P C:List Int) (V:List Ex) (sd:Int) (vl:LR) (AF:List Int) (AE:Int) (cr:List (el Ae)):Prop:=
 ∀e:Int,Bp Tryz.prog f [Bf,AH i] (.var 0 (BN kd P C V sd vl AF AE cr e)) (.agg cs) (.var 0 (BN kd P C V sd vl AF AE cr e))
variable {Au Aw vl:LR} {C P AF:List Int} {Tu Tw:List LR} {V:List Ex} {c0 e1 p0 AE q0 r sd t:Int} {cr:List (el Ae)} {r0 r1:el Ae} {x:el Co}
def wJ (u:P[0]? =some p0) (h:p0=t) (o:Bm 123 0 (cV x) 13 P C V sd vl AF AE cr) (m:Bm 124 0 (cN r0) 13 P C V sd vl AF AE cr) (hm:CF 131 [.agg (cN r0),.agg (cN r0)] (BK (AY Tu Au) 0)) (he:e1=if r=0 then 6 else 0) (n:CF 64 [.agg (AY Tu Au)] (AH r)):Bp Tryz.prog 65 [Bf,AH t] (.var 0 (BN 13 P C V sd vl AF AE cr 0)) (.agg [.int .i64 2,BB,BC,BB,BC,BB,BC,BB,BC,BB,BC,Ao x.1.1,AT x.1.2,Ao x.2.1,AT x.2.2,Ao Tu,AT Au,BB,BC,BB,BC]) (.var 0 (BN 13 P C V sd vl AF AE cr e1)):=by
 refine CM Tryz.func65 (by kernel_rfl) rfl fun E g=>?_
 conv=>cbv
 refine .inr ?_;refine CN ?_;refine CJ u ?_;refine Cw (fun f=>?_) fun f=>?_
 ·exact absurd h f
 refine BR rfl (BJ g (o 0)) AK ?_
 refine BR rfl (BJ g (m 0)) AK ?_
 refine BR rfl (BJ g (Ld hm)) AK ?_
 refine BR rfl (BJ g (Jp he n)) AK ?_
 refine AK
def wI (u:P[0]? =some p0) (h:p0≠t) (o:Bm 69 0 (cV x) 13 P C V sd vl AF AE cr) (m:Bm 124 0 (cN r0) 13 P C V sd vl AF AE cr) (hm:CF 131 [.agg (cN r0),.agg (cN r0)] (BK (AY Tu Au) 0)) (he:e1=if r=0 then 6 else 0) (n:CF 64 [.agg (AY Tu Au)] (AH r)):Bp Tryz.prog 65 [Bf,AH t] (.var 0 (BN 13 P C V sd vl AF AE cr 0)) (.agg [.int .i64 2,BB,BC,BB,BC,BB,BC,BB,BC,BB,BC,Ao x.1.1,AT x.1.2,Ao x.2.1,AT x.2.2,Ao Tu,AT Au,BB,BC,BB,BC]) (.var 0 (BN 13 P C V sd vl AF AE cr e1)):=by
 refine CM Tryz.func65 (by kernel_rfl) rfl fun E g=>?_
 conv=>cbv
 refine .inr ?_;refine CN ?_;refine CJ u ?_;refine BY (fun f=>?_) fun f=>?_
 ·exact absurd f h
 refine BR rfl (BJ g (o 0)) AK ?_
 refine BR rfl (BJ g (m 0)) AK ?_
 refine BR rfl (BJ g (Ld hm)) AK ?_
 refine BR rfl (BJ g (Jp he n)) AK ?_
 refine AK
def wU {a b:el Co} {Tl Tm Tn Tx Ty:List LR} {Al Am An Ax Ay:LR} {f1:Int} (ha:Bm 69 0 (cV a) 16 P C V sd vl AF AE cr) (hb:Bm 69 1 (cV b) 16 P C V sd vl AF AE cr) (m:Bm 124 0 (cN r0) 16 P C V sd vl AF AE cr) (g:CF 135 [.agg (cV a),.agg (cV b),.agg (cN r0),AH sd] (BK (DL Tl Al Tm Am Tn An) f1)) (h:CF 142 [.agg (cV b),.agg (cV a)] (BK (Ag Tx Ax Ty Ay) 0)):Bp Tryz.prog 65 [Bf,AH t] (.var 0 (BN 16 P C V sd vl AF AE cr 0)) (.agg [.int .i64 1,Ao Tl,AT Al,Ao Tm,AT Am,Ao Tn,AT An,Ao Tx,AT Ax,Ao Ty,AT Ay,BB,BC,BB,BC,BB,BC,BB,BC,BB,BC]) (.var 0 (BN 16 P C V sd vl AF AE cr f1)):=by
 refine CM Tryz.func65 (by kernel_rfl) rfl fun E f=>?_
 conv=>cbv
 refine .inr ?_;refine BG ?_;refine CN ?_;refine BR rfl (BJ f (ha 0)) AK ?_
 refine BR rfl (BJ f (hb 0)) AK ?_
 refine BR rfl (BJ f (m 0)) AK ?_
 refine BR rfl (BJ f (gk g h)) AK ?_
 refine AK
def wR (L:C[0]? =some c0) (A:0<=c0) (K:AF[c0.toNat]? =some q0) (F:q0=t) (B:sd=1) (J:Bm 123 1 (cV x) 17 P C V sd vl AF AE cr) (H:Bm 124 0 (cN r0) 17 P C V sd vl AF AE cr) (o:Bm 124 1 (cN r1) 17 P C V sd vl AF AE cr) (D:CF 125 [.agg (cN r0),.agg (cN r1)] (BK (AY Tw Aw) 0)) (hm:CF 131 [.agg (AY Tw Aw),.agg (AY Tw Aw)] (BK (AY Tu Au) 0)) (he:e1=if r=0 then 6 else 0) (I:CF 64 [.agg (AY Tu Au)] (AH r)):Bp Tryz.prog 65 [Bf,AH t] (.var 0 (BN 17 P C V sd vl AF AE cr 0)) (.agg [.int .i64 2,BB,BC,BB,BC,BB,BC,BB,BC,BB,BC,Ao x.1.1,AT x.1.2,Ao x.2.1,AT x.2.2,Ao Tu,AT Au,BB,BC,BB,BC]) (.var 0 (BN 17 P C V sd vl AF AE cr e1)):=by
 refine CM Tryz.func65 (by kernel_rfl) rfl fun E f=>?_
 conv=>cbv
 refine .inr ?_;refine BG ?_;refine BG ?_;refine CJ L ?_;refine CJ K ?_;intro u g;refine .inr ?_;cases u <;> conv=>cbv
 ·have m:=CI g;exact absurd F m
 have m:=CL g;intro z h;conv=>cbv
 refine .inr ?_;cases z <;> conv=>cbv
 ·have n:=Ib h;refine BR rfl (BJ f (J 0)) AK ?_
  refine BR rfl (BJ f (H 0)) AK ?_
  refine BR rfl (BJ f (o 0)) AK ?_
  refine BR rfl (BJ f (Pw D)) AK ?_
  refine BR rfl (BJ f (Ld hm)) AK ?_
  refine BR rfl (BJ f (Jp he I)) AK ?_
  refine AK
 have n:=Ic h;exact absurd B n
def wS (L:C[0]? =some c0) (A:0<=c0) (K:AF[c0.toNat]? =some q0) (F:q0=t) (B:sd≠1) (J:Bm 123 1 (cV x) 17 P C V sd vl AF AE cr) (H:Bm 124 0 (cN r0) 17 P C V sd vl AF AE cr) (o:Bm 124 1 (cN r1) 17 P C V sd vl AF AE cr) (D:CF 126 [.agg (cN r0),.agg (cN r1)] (BK (AY Tw Aw) 0)) (hm:CF 131 [.agg (AY Tw Aw),.agg (AY Tw Aw)] (BK (AY Tu Au) 0)) (he:e1=if r=0 then 6 else 0) (I:CF 64 [.agg (AY Tu Au)] (AH r)):Bp Tryz.prog 65 [Bf,AH t] (.var 0 (BN 17 P C V sd vl AF AE cr 0)) (.agg [.int .i64 2,BB,BC,BB,BC,BB,BC,BB,BC,BB,BC,Ao x.1.1,AT x.1.2,Ao x.2.1,AT x.2.2,Ao Tu,AT Au,BB,BC,BB,BC]) (.var 0 (BN 17 P C V sd vl AF AE cr e1)):=by
 refine CM Tryz.func65 (by kernel_rfl) rfl fun E f=>?_
 conv=>cbv
 refine .inr ?_;refine BG ?_;refine BG ?_;refine CJ L ?_;refine CJ K ?_;intro u g;refine .inr ?_;cases u <;> conv=>cbv
 ·have m:=CI g;exact absurd F m
 have m:=CL g;intro z h;conv=>cbv
 refine .inr ?_;cases z <;> conv=>cbv
 ·have n:=Ib h;exact absurd n B
 have n:=Ic h;refine BR rfl (BJ f (J 0)) AK ?_
 refine BR rfl (BJ f (H 0)) AK ?_
 refine BR rfl (BJ f (o 0)) AK ?_
 refine BR rfl (BJ f (Pw D)) AK ?_
 refine BR rfl (BJ f (Ld hm)) AK ?_
 refine BR rfl (BJ f (Jp he I)) AK ?_
 refine AK
def wO (L:C[0]? =some c0) (A:0<=c0) (K:AF[c0.toNat]? =some q0) (F:q0≠t) (B:sd=1) (J:Bm 123 0 (cV x) 17 P C V sd vl AF AE cr) (H:Bm 124 0 (cN r0) 17 P C V sd vl AF AE cr) (o:Bm 124 1 (cN r1) 17 P C V sd vl AF AE cr) (D:CF 125 [.agg (cN r0),.agg (cN r1)] (BK (AY Tw Aw) 0)) (hm:CF 131 [.agg (AY Tw Aw),.agg (AY Tw Aw)] (BK (AY Tu Au) 0)) (he:e1=if r=0 then 6 else 0) (I:CF 64 [.agg (AY Tu Au)] (AH r)):Bp Tryz.prog 65 [Bf,AH t] (.var 0 (BN 17 P C V sd vl AF AE cr 0)) (.agg [.int .i64 2,BB,BC,BB,BC,BB,BC,BB,BC,BB,BC,Ao x.1.1,AT x.1.2,Ao x.2.1,AT x.2.2,Ao Tu,AT Au,BB,BC,BB,BC]) (.var 0 (BN 17 P C V sd vl AF AE cr e1)):=by
 refine CM Tryz.func65 (by kernel_rfl) rfl fun E f=>?_
 conv=>cbv
 refine .inr ?_;refine BG ?_;refine BG ?_;refine CJ L ?_;refine CJ K ?_;intro u g;refine .inr ?_;cases u <;> conv=>cbv
 ·have m:=CI g;intro z h;conv=>cbv
  refine .inr ?_;cases z <;> conv=>cbv
  ·have n:=Ib h;refine BR rfl (BJ f (J 0)) AK ?_
   refine BR rfl (BJ f (H 0)) AK ?_
   refine BR rfl (BJ f (o 0)) AK ?_
   refine BR rfl (BJ f (Pw D)) AK ?_
   refine BR rfl (BJ f (Ld hm)) AK ?_
   refine BR rfl (BJ f (Jp he I)) AK ?_
   refine AK
  have n:=Ic h;exact absurd B n
 have m:=CL g;exact absurd m F
def wQ (L:C[0]? =some c0) (A:0<=c0) (K:AF[c0.toNat]? =some q0) (F:q0≠t) (B:sd≠1) (J:Bm 123 0 (cV x) 17 P C V sd vl AF AE cr) (H:Bm 124 0 (cN r0) 17 P C V sd vl AF AE cr) (o:Bm 124 1 (cN r1) 17 P C V sd vl AF AE cr) (D:CF 126 [.agg (cN r0),.agg (cN r1)] (BK (AY Tw Aw) 0)) (hm:CF 131 [.agg (AY Tw Aw),.agg (AY Tw Aw)] (BK (AY Tu Au) 0)) (he:e1=if r=0 then 6 else 0) (I:CF 64 [.agg (AY Tu Au)] (AH r)):Bp Tryz.prog 65 [Bf,AH t] (.var 0 (BN 17 P C V sd vl AF AE cr 0)) (.agg [.int .i64 2,BB,BC,BB,BC,BB,BC,BB,BC,BB,BC,Ao x.1.1,AT x.1.2,Ao x.2.1,AT x.2.2,Ao Tu,AT Au,BB,BC,BB,BC]) (.var 0 (BN 17 P C V sd vl AF AE cr e1)):=by
 refine CM Tryz.func65 (by kernel_rfl) rfl fun E f=>?_
 conv=>cbv
 refine .inr ?_;refine BG ?_;refine BG ?_;refine CJ L ?_;refine CJ K ?_;intro u g;refine .inr ?_;cases u <;> conv=>cbv
 ·have m:=CI g;intro z h;conv=>cbv
  refine .inr ?_;cases z <;> conv=>cbv
  ·have n:=Ib h;exact absurd n B
  have n:=Ic h;refine BR rfl (BJ f (J 0)) AK ?_
  refine BR rfl (BJ f (H 0)) AK ?_
  refine BR rfl (BJ f (o 0)) AK ?_
  refine BR rfl (BJ f (Pw D)) AK ?_
  refine BR rfl (BJ f (Ld hm)) AK ?_
  refine BR rfl (BJ f (Jp he I)) AK ?_
  refine AK
 have m:=CL g;exact absurd m F
end
section
abbrev Ep (i j:Int):Prop:=(i=0/\j=1)\/(i=1/\j=0)\/(i=2/\j=3)\/(i=3/\j=2)
variable {Al Am An Ap Aq At Au Av Aw Ax Ay Az vl:LR} {C P AF:List Int} {Tl Tm Tn Tp Tq Tt Tu Tv Tw Tx Ty Tz:List LR} {V:List Ex} {cr:List (el Ae)} {e1 f1 i j ja jb p AE q r sd:Int} {n0:el Ae} {x:el Co}
def D3 {M:Int->Int->Prop} (h:Ep i j) (a:M 0 1) (b:M 1 0) (c:M 2 3) (d:M 3 2):M i j:=by rcases h with⟨rfl,rfl⟩ |⟨rfl,rfl⟩ |⟨rfl,rfl⟩ |⟨rfl,rfl⟩ <;> assumption
def wN {a b:el Co} (z:Ep i j) (A:ja=if i<2 then 2 else 0) (B:jb=if i<2 then 3 else 1) (K:Bm 69 j (cV x) 8 P C V sd vl AF AE cr) (ha:Bm 69 ja (cV a) 8 P C V sd vl AF AE cr) (hb:Bm 69 jb (cV b) 8 P C V sd vl AF AE cr) (H:CF 142 [.agg (cV b),.agg (cV a)] (BK (Ag Tx Ax Ty Ay) 0)) (I:CF 205 [.agg (Ag Tx Ax Ty Ay)] (BK (AY Tu Au) 0)) (he:e1=if r=0 then 6 else 0) (J:CF 64 [.agg (AY Tu Au)] (AH r)):Bp Tryz.prog 82 [Bf,AH i] (.var 0 (BN 8 P C V sd vl AF AE cr 0)) (.agg [.int .i64 2,BB,BC,BB,BC,BB,BC,BB,BC,BB,BC,Ao x.1.1,AT x.1.2,Ao x.2.1,AT x.2.2,Ao Tu,AT Au,BB,BC,BB,BC]) (.var 0 (BN 8 P C V sd vl AF AE cr e1)):=by
 refine CM Tryz.func82 (by kernel_rfl) rfl fun E f=>?_
 conv=>cbv
 refine⟨.i64,j,fun _=>⟨⟨AA,AA⟩,by apply D3 z <;> rfl⟩,?_⟩;try conv=>cbv
 refine Dh 0 rfl (BJ f (K 0)) AK ?_;refine AM ?_;intro L g N h D m;obtain rfl:ja=D:=by rw[A,m,h,g];apply D3 z <;> rfl
 refine Dh 0 rfl (BJ f (ha 0)) AK ?_;refine AM ?_;intro O n S o F u;obtain rfl:jb=F:=by rw[B,u,o,n];apply D3 z <;> rfl
 refine BR rfl (BJ f (hb 0)) AK ?_
 refine BR rfl (BJ f (Ih (e:=0) (e1:=0) (by simp) H)) AK ?_
 refine .inr ?_;refine CN ?_;refine BR rfl (BJ f (gg (e:=0) (e1:=0) (e2:=0) (by simp) (by simp) H I)) AK ?_
 refine BR rfl (BJ f (Jp he J)) AK ?_
 refine AK
def gq {a b:el Co} (z:Ep i j) (A:ja=if i<2 then 2 else 0) (B:jb=if i<2 then 3 else 1) (J:Bm 69 j (cV x) 6 P C V sd vl AF AE cr) (ha:Bm 69 ja (cV a) 6 P C V sd vl AF AE cr) (hb:Bm 69 jb (cV b) 6 P C V sd vl AF AE cr) (I:CF 142 [.agg (cV b),.agg (cV a)] (BK (Ag Tx Ax Ty Ay) 0)) (H:CF 144 [.agg (cV x),.agg (Ag Tx Ax Ty Ay)] (BK (DL Tl Al Tm Am Tn An) f1)):Bp Tryz.prog 82 [Bf,AH i] (.var 0 (BN 6 P C V sd vl AF AE cr 0)) (.agg [.int .i64 1,Ao Tl,AT Al,Ao Tm,AT Am,Ao Tn,AT An,Ao Tx,AT Ax,Ao Ty,AT Ay,BB,BC,BB,BC,BB,BC,BB,BC,BB,BC]) (.var 0 (BN 6 P C V sd vl AF AE cr f1)):=by
 refine CM Tryz.func82 (by kernel_rfl) rfl fun E f=>?_
 conv=>cbv
 refine⟨.i64,j,fun _=>⟨⟨AA,AA⟩,by apply D3 z <;> rfl⟩,?_⟩;try conv=>cbv
 refine Dh 0 rfl (BJ f (J 0)) AK ?_;refine AM ?_;intro K g L h D m;obtain rfl:ja=D:=by rw[A,m,h,g];apply D3 z <;> rfl
 refine Dh 0 rfl (BJ f (ha 0)) AK ?_;refine AM ?_;intro N n O o F u;obtain rfl:jb=F:=by rw[B,u,o,n];apply D3 z <;> rfl
 refine BR rfl (BJ f (hb 0)) AK ?_
 refine BR rfl (BJ f (Ih (e:=0) (e1:=0) (by simp) I)) AK ?_
 refine .inr ?_;refine BG ?_;refine BG ?_;refine .inr ?_;refine BG ?_;refine .inr ?_;refine BR rfl (BJ f (Mi H)) AK ?_
 refine AK
def gu {a b:el Co} (z:Ep i j) (A:ja=if i<2 then 2 else 0) (B:jb=if i<2 then 3 else 1) (K:Bm 69 j (cV x) 7 P C V sd vl AF AE cr) (ha:Bm 69 ja (cV a) 7 P C V sd vl AF AE cr) (hb:Bm 69 jb (cV b) 7 P C V sd vl AF AE cr) (J:CF 142 [.agg (cV b),.agg (cV a)] (BK (Ag Tx Ax Ty Ay) 0)) (I:CF 149 [.agg (Ag Tx Ax Ty Ay)] (.agg (Ag Tu Au Tv Av))) (H:CF 144 [.agg (cV x),.agg (Ag Tu Au Tv Av)] (BK (DL Tl Al Tm Am Tn An) f1)):Bp Tryz.prog 82 [Bf,AH i] (.var 0 (BN 7 P C V sd vl AF AE cr 0)) (.agg [.int .i64 1,Ao Tl,AT Al,Ao Tm,AT Am,Ao Tn,AT An,Ao Tu,AT Au,Ao Tv,AT Av,BB,BC,BB,BC,BB,BC,BB,BC,BB,BC]) (.var 0 (BN 7 P C V sd vl AF AE cr f1)):=by
 refine CM Tryz.func82 (by kernel_rfl) rfl fun E f=>?_
 conv=>cbv
 refine⟨.i64,j,fun _=>⟨⟨AA,AA⟩,by apply D3 z <;> rfl⟩,?_⟩;try conv=>cbv
 refine Dh 0 rfl (BJ f (K 0)) AK ?_;refine AM ?_;intro L g N h D m;obtain rfl:ja=D:=by rw[A,m,h,g];apply D3 z <;> rfl
 refine Dh 0 rfl (BJ f (ha 0)) AK ?_;refine AM ?_;intro O n S o F u;obtain rfl:jb=F:=by rw[B,u,o,n];apply D3 z <;> rfl
 refine BR rfl (BJ f (hb 0)) AK ?_
 refine BR rfl (BJ f (Ih (e:=0) (e1:=0) (by simp) J)) AK ?_
 refine .inr ?_;refine BG ?_;refine CN ?_;refine .inr ?_;refine AB f I ?_;refine BR rfl (BJ f (Mi H)) AK ?_
 refine AK
def wL {a b:el Co} (A:Ep i j) (B:ja=if i<2 then 2 else 0) (D:jb=if i<2 then 3 else 1) (T:Bm 69 j (cV x) 5 P C V sd vl AF AE cr) (ha:Bm 69 ja (cV a) 5 P C V sd vl AF AE cr) (hb:Bm 69 jb (cV b) 5 P C V sd vl AF AE cr) (N:CF 142 [.agg (cV b),.agg (cV a)] (BK (Ag Tx Ax Ty Ay) 0)) (S:Bm 71 0 (cN n0) 5 P C V sd vl AF AE cr) (F:i<2) (L:CF 84 [.agg (cN n0)] (.agg (AY Tt At))) (O:CF 151 [.agg (Ag Tx Ax Ty Ay)] (.one (.bool true))):Bp Tryz.prog 82 [Bf,AH i] (.var 0 (BN 5 P C V sd vl AF AE cr 0)) (.agg (Ct 0 Da Da)) (.var 0 (BN 5 P C V sd vl AF AE cr 6)):=by
 refine CM Tryz.func82 (by kernel_rfl) rfl fun E f=>?_
 conv=>cbv
 refine⟨.i64,j,fun _=>⟨⟨AA,AA⟩,by apply D3 A <;> rfl⟩,?_⟩;try conv=>cbv
 refine Dh 0 rfl (BJ f (T 0)) AK ?_;refine AM ?_;intro U h Z m I n;obtain rfl:ja=I:=by rw[B,n,m,h];apply D3 A <;> rfl
 refine Dh 0 rfl (BJ f (ha 0)) AK ?_;refine AM ?_;intro a1 o a2 u J z;obtain rfl:jb=J:=by rw[D,z,u,o];apply D3 A <;> rfl
 refine BR rfl (BJ f (hb 0)) AK ?_
 refine BR rfl (BJ f (Ih (e:=0) (e1:=0) (by simp) N)) AK ?_
 refine .inr ?_;refine BG ?_;refine BG ?_;refine .inr ?_;refine CN ?_;refine .inr ?_;refine Dh 0 rfl (BJ f (S 0)) AK ?_;refine Af ?_;intro K g;refine .inr ?_;cases K <;> conv=>cbv
 ·have H:=EY g;exact absurd F AA
 have H:=EZ g;refine AB f L ?_;refine AB f O ?_;refine Dh 0 rfl (BJ f (Pu (e:=0) (e1:=6) (by simp))) ⟨⟨⟨rfl,rfl⟩,rfl⟩,⟨rfl,.inl rfl,.inl rfl,.inl rfl,.inl rfl,.inl rfl,.inl rfl,.inl rfl,.inl rfl,.inl rfl,.inl rfl,.inl rfl,.inl rfl,.inl rfl,.inl rfl,.inl rfl,.inl rfl,.inl rfl,.inl rfl,.inl rfl,.inl rfl,trivial⟩,rfl,trivial⟩ ?_;try conv=>cbv
 refine AK
def gn {a b:el Co} (A:Ep i j) (B:ja=if i<2 then 2 else 0) (D:jb=if i<2 then 3 else 1) (hx:Bm 69 j (cV x) 5 P C V sd vl AF AE cr) (ha:Bm 69 ja (cV a) 5 P C V sd vl AF AE cr) (hb:Bm 69 jb (cV b) 5 P C V sd vl AF AE cr) (U:CF 142 [.agg (cV b),.agg (cV a)] (BK (Ag Tx Ax Ty Ay) 0)) (hv:Bm 71 0 (cN n0) 5 P C V sd vl AF AE cr) (F:i<2) (T:CF 84 [.agg (cN n0)] (.agg (AY Tt At))) (Z:CF 151 [.agg (Ag Tx Ax Ty Ay)] (.one (.bool false))) (S:CF 149 [.agg (Ag Tx Ax Ty Ay)] (.agg (Ag Tu Au Tv Av))) (N:CF 137 [.agg (Ag Tu Au Tv Av),.agg (AY Tt At)] (BK (Ag Tw Aw Tz Az) 0)) (O:CF 136 [.agg (Ag Tx Ax Ty Ay),.agg (Ag Tw Aw Tz Az)] (BK (Ag Tp Ap Tq Aq) 0)) (L:CF 144 [.agg (cV x),.agg (Ag Tp Ap Tq Aq)] (BK (DL Tl Al Tm Am Tn An) f1)):Bp Tryz.prog 82 [Bf,AH i] (.var 0 (BN 5 P C V sd vl AF AE cr 0)) (.agg [.int .i64 1,Ao Tl,AT Al,Ao Tm,AT Am,Ao Tn,AT An,Ao Tp,AT Ap,Ao Tq,AT Aq,BB,BC,BB,BC,BB,BC,BB,BC,BB,BC]) (.var 0 (BN 5 P C V sd vl AF AE cr f1)):=by
 refine CM Tryz.func82 (by kernel_rfl) rfl fun E f=>?_
 conv=>cbv
 refine⟨.i64,j,fun _=>⟨⟨AA,AA⟩,by apply D3 A <;> rfl⟩,?_⟩;try conv=>cbv
 refine Dh 0 rfl (BJ f (hx 0)) AK ?_;refine AM ?_;intro a1 h a2 m I n;obtain rfl:ja=I:=by rw[B,n,m,h];apply D3 A <;> rfl
 refine Dh 0 rfl (BJ f (ha 0)) AK ?_;refine AM ?_;intro a5 o a6 u J z;obtain rfl:jb=J:=by rw[D,z,u,o];apply D3 A <;> rfl
 refine BR rfl (BJ f (hb 0)) AK ?_
 refine BR rfl (BJ f (Ih (e:=0) (e1:=0) (by simp) U)) AK ?_
 refine .inr ?_;refine BG ?_;refine BG ?_;refine .inr ?_;refine CN ?_;refine .inr ?_;refine Dh 0 rfl (BJ f (hv 0)) AK ?_;refine Af ?_;intro K g;refine .inr ?_;cases K <;> conv=>cbv
 ·have H:=EY g;exact absurd F AA
 have H:=EZ g;refine AB f T ?_;refine AB f Z ?_;refine AB f S ?_;refine AB f N ?_;refine BR rfl (BJ f (Mj (e:=0) (e1:=0) (f1:=0) (by simp))) AK ?_
 refine CN ?_;refine .inr ?_;refine AB f O ?_;refine BR rfl (BJ f (Mj (e:=0) (e1:=0) (f1:=0) (by simp))) AK ?_
 refine BR rfl (BJ f (Mi L)) AK ?_
 refine AK
def wM {a b:el Co} (B:Ep i j) (D:ja=if i<2 then 2 else 0) (F:jb=if i<2 then 3 else 1) (S:Bm 69 j (cV x) 5 P C V sd vl AF AE cr) (ha:Bm 69 ja (cV a) 5 P C V sd vl AF AE cr) (hb:Bm 69 jb (cV b) 5 P C V sd vl AF AE cr) (L:CF 142 [.agg (cV b),.agg (cV a)] (BK (Ag Tx Ax Ty Ay) 0)) (O:Bm 71 0 (cN n0) 5 P C V sd vl AF AE cr) (H:¬i<2) (N:CF 151 [.agg (Ag Tx Ax Ty Ay)] (.one (.bool true))):Bp Tryz.prog 82 [Bf,AH i] (.var 0 (BN 5 P C V sd vl AF AE cr 0)) (.agg (Ct 0 Da Da)) (.var 0 (BN 5 P C V sd vl AF AE cr 6)):=by
 refine CM Tryz.func82 (by kernel_rfl) rfl fun E f=>?_
 conv=>cbv
 refine⟨.i64,j,fun _=>⟨⟨AA,AA⟩,by apply D3 B <;> rfl⟩,?_⟩;try conv=>cbv
 refine Dh 0 rfl (BJ f (S 0)) AK ?_;refine AM ?_;intro T m U n I o;obtain rfl:ja=I:=by rw[D,o,n,m];apply D3 B <;> rfl
 refine Dh 0 rfl (BJ f (ha 0)) AK ?_;refine AM ?_;intro Z u a1 z J A;obtain rfl:jb=J:=by rw[F,A,z,u];apply D3 B <;> rfl
 refine BR rfl (BJ f (hb 0)) AK ?_
 refine BR rfl (BJ f (Ih (e:=0) (e1:=0) (by simp) L)) AK ?_
 refine .inr ?_;refine BG ?_;refine BG ?_;refine .inr ?_;refine CN ?_;refine .inr ?_;refine Dh 0 rfl (BJ f (O 0)) AK ?_;refine Af ?_;intro K g;refine .inr ?_;cases K <;> conv=>cbv
 ·have h:=EY g;refine AB f N ?_;refine Dh 0 rfl (BJ f (Pu (e:=0) (e1:=6) (by simp))) ⟨⟨⟨rfl,rfl⟩,rfl⟩,⟨rfl,.inl rfl,.inl rfl,.inl rfl,.inl rfl,.inl rfl,.inl rfl,.inl rfl,.inl rfl,.inl rfl,.inl rfl,.inl rfl,.inl rfl,.inl rfl,.inl rfl,.inl rfl,.inl rfl,.inl rfl,.inl rfl,.inl rfl,.inl rfl,trivial⟩,rfl,trivial⟩ ?_;try conv=>cbv
  refine AK
 have h:=EZ g;exact absurd h H
def gp {a b:el Co} (B:Ep i j) (D:ja=if i<2 then 2 else 0) (F:jb=if i<2 then 3 else 1) (hx:Bm 69 j (cV x) 5 P C V sd vl AF AE cr) (ha:Bm 69 ja (cV a) 5 P C V sd vl AF AE cr) (hb:Bm 69 jb (cV b) 5 P C V sd vl AF AE cr) (T:CF 142 [.agg (cV b),.agg (cV a)] (BK (Ag Tx Ax Ty Ay) 0)) (Z:Bm 71 0 (cN n0) 5 P C V sd vl AF AE cr) (H:¬i<2) (U:CF 151 [.agg (Ag Tx Ax Ty Ay)] (.one (.bool false))) (S:CF 149 [.agg (Ag Tx Ax Ty Ay)] (.agg (Ag Tu Au Tv Av))) (N:CF 137 [.agg (Ag Tu Au Tv Av),.agg (cN n0)] (BK (Ag Tw Aw Tz Az) 0)) (O:CF 136 [.agg (Ag Tx Ax Ty Ay),.agg (Ag Tw Aw Tz Az)] (BK (Ag Tp Ap Tq Aq) 0)) (L:CF 144 [.agg (cV x),.agg (Ag Tp Ap Tq Aq)] (BK (DL Tl Al Tm Am Tn An) f1)):Bp Tryz.prog 82 [Bf,AH i] (.var 0 (BN 5 P C V sd vl AF AE cr 0)) (.agg [.int .i64 1,Ao Tl,AT Al,Ao Tm,AT Am,Ao Tn,AT An,Ao Tp,AT Ap,Ao Tq,AT Aq,BB,BC,BB,BC,BB,BC,BB,BC,BB,BC]) (.var 0 (BN 5 P C V sd vl AF AE cr f1)):=by
 refine CM Tryz.func82 (by kernel_rfl) rfl fun E f=>?_
 conv=>cbv
 refine⟨.i64,j,fun _=>⟨⟨AA,AA⟩,by apply D3 B <;> rfl⟩,?_⟩;try conv=>cbv
 refine Dh 0 rfl (BJ f (hx 0)) AK ?_;refine AM ?_;intro a1 m a2 n I o;obtain rfl:ja=I:=by rw[D,o,n,m];apply D3 B <;> rfl
 refine Dh 0 rfl (BJ f (ha 0)) AK ?_;refine AM ?_;intro a5 u a6 z J A;obtain rfl:jb=J:=by rw[F,A,z,u];apply D3 B <;> rfl
 refine BR rfl (BJ f (hb 0)) AK ?_
 refine BR rfl (BJ f (Ih (e:=0) (e1:=0) (by simp) T)) AK ?_
 refine .inr ?_;refine BG ?_;refine BG ?_;refine .inr ?_;refine CN ?_;refine .inr ?_;refine Dh 0 rfl (BJ f (Z 0)) AK ?_;refine Af ?_;intro K g;refine .inr ?_;cases K <;> conv=>cbv
 ·have h:=EY g;refine AB f U ?_;refine AB f S ?_;refine AB f N ?_;refine BR rfl (BJ f (Mj (e:=0) (e1:=0) (f1:=0) (by simp))) AK ?_
  refine CN ?_;refine .inr ?_;refine AB f O ?_;refine BR rfl (BJ f (Mj (e:=0) (e1:=0) (f1:=0) (by simp))) AK ?_
  refine BR rfl (BJ f (Mi L)) AK ?_
  refine AK
 have h:=EZ g;exact absurd h H
def vZ {a b:el Co} (h:Ep i p) (m:Ep j q) (ha:Bm 69 p (cV a) 6 P C V sd vl AF AE cr) (hb:Bm 69 q (cV b) 6 P C V sd vl AF AE cr) {k1:Int} {tg:Nat->List LR} {ag:Nat->LR} (g:Bp Tryz.prog 72 [Bf,.agg (cV a),.agg (cV b)] (.var 0 (BN 6 P C V sd vl AF AE cr 0)) (.agg (Ct k1 tg ag)) (.var 0 (BN 6 P C V sd vl AF AE cr e1))):Bp Tryz.prog 81 [Bf,.one (.sl .i64 [i,j])] (.var 0 (BN 6 P C V sd vl AF AE cr 0)) (.agg (Ct k1 tg ag)) (.var 0 (BN 6 P C V sd vl AF AE cr e1)):=by
 refine CM Tryz.func81 (by kernel_rfl) rfl fun E f=>?_
 conv=>cbv
 refine⟨i,fun _=>⟨AA,rfl⟩,?_⟩;try conv=>cbv
 refine⟨.i64,p,fun _=>⟨⟨AA,AA⟩,by apply D3 h <;> rfl⟩,?_⟩;try conv=>cbv
 refine BR rfl (BJ f (ha 0)) AK ?_
 refine⟨j,fun _=>⟨AA,rfl⟩,?_⟩;try conv=>cbv
 refine⟨.i64,q,fun _=>⟨⟨AA,AA⟩,by apply D3 m <;> rfl⟩,?_⟩;try conv=>cbv
 refine BR rfl (BJ f (hb 0)) AK ?_
 refine .inr ?_;refine CN ?_;refine BR rfl (BJ f g) AK ?_
 refine AK
def gb {a b:el Co} (h:Ep i p) (m:Ep j q) (ha:Bm 69 p (cV a) 5 P C V sd vl AF AE cr) (hb:Bm 69 q (cV b) 5 P C V sd vl AF AE cr) (n:Bm 71 0 (cN n0) 5 P C V sd vl AF AE cr) {Ts:List LR} {As:LR} (g:CF 146 [.agg (cV a),.agg (cV b),.agg (cN n0)] (BK (DL Tu Au Tv Av Ts As) f1)):Bp Tryz.prog 81 [Bf,.one (.sl .i64 [i,j])] (.var 0 (BN 5 P C V sd vl AF AE cr 0)) (.agg [.int .i64 2,BB,BC,BB,BC,BB,BC,BB,BC,BB,BC,Ao Tu,AT Au,Ao Tv,AT Av,Ao Ts,AT As,BB,BC,BB,BC]) (.var 0 (BN 5 P C V sd vl AF AE cr f1)):=by
 refine CM Tryz.func81 (by kernel_rfl) rfl fun E f=>?_
 conv=>cbv
 refine⟨i,fun _=>⟨AA,rfl⟩,?_⟩;try conv=>cbv
 refine⟨.i64,p,fun _=>⟨⟨AA,AA⟩,by apply D3 h <;> rfl⟩,?_⟩;try conv=>cbv
 refine BR rfl (BJ f (ha 0)) AK ?_
 refine⟨j,fun _=>⟨AA,rfl⟩,?_⟩;try conv=>cbv
 refine⟨.i64,q,fun _=>⟨⟨AA,AA⟩,by apply D3 m <;> rfl⟩,?_⟩;try conv=>cbv
 refine BR rfl (BJ f (hb 0)) AK ?_
 refine .inr ?_;refine BG ?_;refine CN ?_;refine BR rfl (BJ f (n 0)) AK ?_
 refine AB f g ?_;refine BR rfl (BJ f (vk (e:=0) (e1:=f1) (f1:=f1) (by simp))) AK ?_
 refine AK
def vf {a b:el Co} (g:Ep i p) (h:Ep j q) (ha:Bm 69 p (cV a) 7 P C V sd vl AF AE cr) (hb:Bm 69 q (cV b) 7 P C V sd vl AF AE cr) (m:CF 132 [.agg (cV a),.agg (cV b)] (.one (.bool true))):Bp Tryz.prog 81 [Bf,.one (.sl .i64 [i,j])] (.var 0 (BN 7 P C V sd vl AF AE cr 0)) (.agg (Ct 0 Da Da)) (.var 0 (BN 7 P C V sd vl AF AE cr 11)):=by
 refine CM Tryz.func81 (by kernel_rfl) rfl fun E f=>?_
 conv=>cbv
 refine⟨i,fun _=>⟨AA,rfl⟩,?_⟩;try conv=>cbv
 refine⟨.i64,p,fun _=>⟨⟨AA,AA⟩,by apply D3 g <;> rfl⟩,?_⟩;try conv=>cbv
 refine BR rfl (BJ f (ha 0)) AK ?_
 refine⟨j,fun _=>⟨AA,rfl⟩,?_⟩;try conv=>cbv
 refine⟨.i64,q,fun _=>⟨⟨AA,AA⟩,by apply D3 h <;> rfl⟩,?_⟩;try conv=>cbv
 refine BR rfl (BJ f (hb 0)) AK ?_
 refine .inr ?_;refine BG ?_;refine BG ?_;refine AB f m ?_;refine Dh 0 rfl (BJ f (Pu (e:=0) (e1:=11) (by simp))) ⟨⟨⟨rfl,rfl⟩,rfl⟩,⟨rfl,.inl rfl,.inl rfl,.inl rfl,.inl rfl,.inl rfl,.inl rfl,.inl rfl,.inl rfl,.inl rfl,.inl rfl,.inl rfl,.inl rfl,.inl rfl,.inl rfl,.inl rfl,.inl rfl,.inl rfl,.inl rfl,.inl rfl,.inl rfl,trivial⟩,rfl,trivial⟩ ?_;try conv=>cbv
 refine AK
def vh {a b:el Co} (g:Ep i p) (h:Ep j q) (ha:Bm 69 p (cV a) 8 P C V sd vl AF AE cr) (hb:Bm 69 q (cV b) 8 P C V sd vl AF AE cr) (m:CF 132 [.agg (cV a),.agg (cV b)] (.one (.bool true))):Bp Tryz.prog 81 [Bf,.one (.sl .i64 [i,j])] (.var 0 (BN 8 P C V sd vl AF AE cr 0)) (.agg (Ct 0 Da Da)) (.var 0 (BN 8 P C V sd vl AF AE cr 11)):=by
 refine CM Tryz.func81 (by kernel_rfl) rfl fun E f=>?_
 conv=>cbv
 refine⟨i,fun _=>⟨AA,rfl⟩,?_⟩;try conv=>cbv
 refine⟨.i64,p,fun _=>⟨⟨AA,AA⟩,by apply D3 g <;> rfl⟩,?_⟩;try conv=>cbv
 refine BR rfl (BJ f (ha 0)) AK ?_
 refine⟨j,fun _=>⟨AA,rfl⟩,?_⟩;try conv=>cbv
 refine⟨.i64,q,fun _=>⟨⟨AA,AA⟩,by apply D3 h <;> rfl⟩,?_⟩;try conv=>cbv
 refine BR rfl (BJ f (hb 0)) AK ?_
 refine .inr ?_;refine BG ?_;refine BG ?_;refine AB f m ?_;refine Dh 0 rfl (BJ f (Pu (e:=0) (e1:=11) (by simp))) ⟨⟨⟨rfl,rfl⟩,rfl⟩,⟨rfl,.inl rfl,.inl rfl,.inl rfl,.inl rfl,.inl rfl,.inl rfl,.inl rfl,.inl rfl,.inl rfl,.inl rfl,.inl rfl,.inl rfl,.inl rfl,.inl rfl,.inl rfl,.inl rfl,.inl rfl,.inl rfl,.inl rfl,.inl rfl,trivial⟩,rfl,trivial⟩ ?_;try conv=>cbv
 refine AK
def vg {a b:el Co} (n:Ep i p) (o:Ep j q) (ha:Bm 69 p (cV a) 8 P C V sd vl AF AE cr) (hb:Bm 69 q (cV b) 8 P C V sd vl AF AE cr) (u:CF 132 [.agg (cV a),.agg (cV b)] (.one (.bool false))) (g:CF 148 [.agg (cV a),.agg (cV b)] (BK (DL Tl Al Tm Am Tn An) 0)) (m:CF 142 [.agg (cV b),.agg (cV a)] (BK (Ag Tx Ax Ty Ay) 0)) (h:CF 149 [.agg (Ag Tx Ax Ty Ay)] (.agg (Ag Tu Au Tv Av))):Bp Tryz.prog 81 [Bf,.one (.sl .i64 [i,j])] (.var 0 (BN 8 P C V sd vl AF AE cr 0)) (.agg [.int .i64 1,Ao Tl,AT Al,Ao Tm,AT Am,Ao Tn,AT An,Ao Tu,AT Au,Ao Tv,AT Av,BB,BC,BB,BC,BB,BC,BB,BC,BB,BC]) (.var 0 (BN 8 P C V sd vl AF AE cr 0)):=by
 refine CM Tryz.func81 (by kernel_rfl) rfl fun E f=>?_
 conv=>cbv
 refine⟨i,fun _=>⟨AA,rfl⟩,?_⟩;try conv=>cbv
 refine⟨.i64,p,fun _=>⟨⟨AA,AA⟩,by apply D3 n <;> rfl⟩,?_⟩;try conv=>cbv
 refine BR rfl (BJ f (ha 0)) AK ?_
 refine⟨j,fun _=>⟨AA,rfl⟩,?_⟩;try conv=>cbv
 refine⟨.i64,q,fun _=>⟨⟨AA,AA⟩,by apply D3 o <;> rfl⟩,?_⟩;try conv=>cbv
 refine BR rfl (BJ f (hb 0)) AK ?_
 refine .inr ?_;refine BG ?_;refine BG ?_;refine AB f u ?_;refine CN ?_;refine AB f g ?_;refine BR rfl (BJ f (Pt (e:=0) (e1:=0) (f1:=0) (by simp))) AK ?_
 refine BR rfl (BJ f (Ih (e:=0) (e1:=0) (by simp) m)) AK ?_
 refine AB f h ?_;refine AK
def vd {a b:el Co} (n:Ep i p) (o:Ep j q) (ha:Bm 69 p (cV a) 7 P C V sd vl AF AE cr) (hb:Bm 69 q (cV b) 7 P C V sd vl AF AE cr) (u:CF 132 [.agg (cV a),.agg (cV b)] (.one (.bool false))) (g:CF 74 [.agg (cV a),.agg (cV b)] (BK (Ag Tm Am Tn An) 0)) (m:CF 142 [.agg (cV a),.agg (Ag Tm Am Tn An)] (BK (Ag Tx Ax Ty Ay) 0)) (h:CF 205 [.agg (Ag Tx Ax Ty Ay)] (BK (AY Tu Au) 0)) (he:e1=if r=0 then 6 else 0) (z:CF 64 [.agg (AY Tu Au)] (AH r)):Bp Tryz.prog 81 [Bf,.one (.sl .i64 [i,j])] (.var 0 (BN 7 P C V sd vl AF AE cr 0)) (.agg [.int .i64 2,BB,BC,BB,BC,BB,BC,BB,BC,BB,BC,Ao Tm,AT Am,Ao Tn,AT An,Ao Tu,AT Au,BB,BC,BB,BC]) (.var 0 (BN 7 P C V sd vl AF AE cr e1)):=by
 refine CM Tryz.func81 (by kernel_rfl) rfl fun E f=>?_
 conv=>cbv
 refine⟨i,fun _=>⟨AA,rfl⟩,?_⟩;try conv=>cbv
 refine⟨.i64,p,fun _=>⟨⟨AA,AA⟩,by apply D3 n <;> rfl⟩,?_⟩;try conv=>cbv
 refine BR rfl (BJ f (ha 0)) AK ?_
 refine⟨j,fun _=>⟨AA,rfl⟩,?_⟩;try conv=>cbv
 refine⟨.i64,q,fun _=>⟨⟨AA,AA⟩,by apply D3 o <;> rfl⟩,?_⟩;try conv=>cbv
 refine BR rfl (BJ f (hb 0)) AK ?_
 refine .inr ?_;refine BG ?_;refine BG ?_;refine AB f u ?_;refine BG ?_;refine AB f g ?_;refine BR rfl (BJ f (Mj (e:=0) (e1:=0) (f1:=0) (by simp))) AK ?_
 refine BR rfl (BJ f (gg (e:=0) (e1:=0) (e2:=0) (by simp) (by simp) m h)) AK ?_
 refine BR rfl (BJ f (Jp he z)) AK ?_
 refine AK
end
section
variable {Aa Ab Al Am An vl:LR} {C P AF pl:List Int} {Ta Tb Tl Tm Tn:List LR} {V:List Ex} {a b x:el Co} {cr:List (el Ae)} {e1 i j k0 k1 kd AE sd t:Int} {n0:el Ae}
def vo (m:CF 58 [.agg (cC 1 P [] V sd),AH t] (.one (.sl .i64 pl))) (o:pl[0]? =some i) {v0 v1:el AJ} (g0:vl[0]? =some v0) (g1:vl[1]? =some v1) (u:CF 67 [.agg [.bool v0.1.1,.sl .u32 v0.1.2,.bool v0.2.1,.sl .u32 v0.2.2],.agg [.bool v1.1.1,.sl .u32 v1.1.2,.bool v1.2.1,.sl .u32 v1.2.2]] (.agg (Ag Ta Aa Tb Ab))):Bp Tryz.prog 26 [Bf,AH t] (.var 0 (BN 1 P ((([]:List Int))) V sd vl AF AE cr 0)) (.agg [.int .i64 3,BB,BC,BB,BC,BB,BC,BB,BC,BB,BC,BB,BC,BB,BC,BB,BC,Ao Ta,AT Aa,Ao Tb,AT Ab]) (.var 0 (BN 1 P ((([]:List Int))) V sd vl AF AE cr 0)):=by
 refine CM Tryz.func26 (by kernel_rfl) rfl fun E h=>?_
 refine Af ?_;rintro n ⟨g,f15⟩;have z:n=0:=g;refine Eb (fun f=>?_) fun f=>?_
 ·exact absurd f AA
 refine AB h m ?_;refine CJ o ?_;refine .inr ?_;refine CN ?_;refine⟨v0,fun _=>⟨AA,g0⟩,?_⟩;try conv=>cbv
 refine⟨v1,fun _=>⟨AA,g1⟩,?_⟩;try conv=>cbv
 refine AB h u ?_;refine BR rfl (BJ h S4) AK ?_
 refine AK
def vx (m:CF 58 [.agg (cC 2 P [] V sd),AH t] (.one (.sl .i64 pl))) (u:pl[0]? =some i) (I:j=1-i) (D:Bm 69 j (cV x) 2 P [] V sd vl AF AE cr) (H:0<=i/\i<=1) (B:Bm 71 0 (cN n0) 2 P [] V sd vl AF AE cr) {Tu:List LR} {Au:LR} (hm:CF 131 [.agg (cN n0),.agg (cN n0)] (BK (AY Tu Au) 0)) {r:Int} (he:e1=if r=0 then 6 else 0) (A:CF 64 [.agg (AY Tu Au)] (AH r)):Bp Tryz.prog 26 [Bf,AH t] (.var 0 (BN 2 P [] V sd vl AF AE cr 0)) (.agg [.int .i64 2,BB,BC,BB,BC,BB,BC,BB,BC,BB,BC,Ao x.1.1,AT x.1.2,Ao x.2.1,AT x.2.2,Ao Tu,AT Au,BB,BC,BB,BC]) (.var 0 (BN 2 P [] V sd vl AF AE cr e1)):=by
 refine CM Tryz.func26 (by kernel_rfl) rfl fun E f=>?_
 refine Af ?_;rintro n ⟨h,f15⟩;have F:n=0:=h;refine Eb (fun g=>?_) fun g=>?_
 ·exact absurd g AA
 refine AB f m ?_;refine CJ u ?_;refine .inr ?_;refine BG ?_;refine CN ?_;intro o z;obtain rfl:j=o:=AA
 refine BR rfl (BJ f (D 0)) AK ?_
 refine BR rfl (BJ f (B 0)) AK ?_
 refine BR rfl (BJ f (Ld hm)) AK ?_
 refine BR rfl (BJ f (Jp he A)) AK ?_
 refine AK
def v7 (m:CF 58 [.agg (cC 4 P [] V sd),AH t] (.one (.sl .i64 pl))) (o:pl[0]? =some i) (ha:Bm 69 1 (cV a) 4 P [] V sd vl AF AE cr) (hb:Bm 69 2 (cV b) 4 P [] V sd vl AF AE cr) (z:Bm 71 0 (cN n0) 4 P [] V sd vl AF AE cr) {tg:Nat->List LR} {ag:Nat->LR} (u:Bp Tryz.prog 73 [Bf,.agg (cV a),.agg (cV b),.agg (cN n0)] (.var 0 (BN 4 P (([]:List Int)) V sd vl AF AE cr 0)) (.agg (Ct k1 tg ag)) (.var 0 (BN 4 P (([]:List Int)) V sd vl AF AE cr e1))):Bp Tryz.prog 26 [Bf,AH t] (.var 0 (BN 4 P ((([]:List Int))) V sd vl AF AE cr 0)) (.agg (Ct k1 tg ag)) (.var 0 (BN 4 P ((([]:List Int))) V sd vl AF AE cr e1)):=by
 refine CM Tryz.func26 (by kernel_rfl) rfl fun E f=>?_
 refine Af ?_;rintro n ⟨h,f15⟩;have A:n=0:=h;refine Eb (fun g=>?_) fun g=>?_
 ·exact absurd g AA
 refine AB f m ?_;refine CJ o ?_;refine .inr ?_;refine BG ?_;refine BG ?_;refine BG ?_;refine CN ?_;refine BR rfl (BJ f (ha 0)) AK ?_
 refine BR rfl (BJ f (hb 0)) AK ?_
 refine BR rfl (BJ f (z 0)) AK ?_
 refine BR rfl (BJ f u) AK ?_
 refine AK
def wB (n:CF 58 [.agg (cC 9 P [] V sd),AH t] (.one (.sl .i64 pl))) (u:pl[0]? =some i) (A:i=0) (B:Bm 69 1 (cV a) 9 P [] V sd vl AF AE cr) (D:Bm 69 2 (cV b) 9 P [] V sd vl AF AE cr) (z:CF 74 [.agg (cV a),.agg (cV b)] (BK (Ag Ta Aa Tb Ab) 0)):Bp Tryz.prog 26 [Bf,AH t] (.var 0 (BN 9 P ((([]:List Int))) V sd vl AF AE cr 0)) (.agg [.int .i64 3,BB,BC,BB,BC,BB,BC,BB,BC,BB,BC,BB,BC,BB,BC,BB,BC,Ao Ta,AT Aa,Ao Tb,AT Ab]) (.var 0 (BN 9 P ((([]:List Int))) V sd vl AF AE cr 0)):=by
 refine CM Tryz.func26 (by kernel_rfl) rfl fun E f=>?_
 refine Af ?_;rintro o ⟨m,f15⟩;have F:o=0:=m;refine Eb (fun g=>?_) fun g=>?_
 ·exact absurd g AA
 refine AB f n ?_;refine CJ u ?_;refine .inr ?_;refine BG ?_;refine BG ?_;refine BG ?_;refine BG ?_;refine CN ?_;refine Cw (fun h=>?_) fun h=>?_
 ·exact absurd A h
 refine BR rfl (BJ f (B 0)) AK ?_
 refine BR rfl (BJ f (D 0)) AK ?_
 refine AB f z ?_;refine BR rfl (BJ f S4) AK ?_
 refine AK
def wA (o:CF 58 [.agg (cC 9 P [] V sd),AH t] (.one (.sl .i64 pl))) (A:pl[0]? =some i) (I:1<=i/\i<=2) (J:j=3-i) (D:Bm 69 0 (cV a) 9 P [] V sd vl AF AE cr) (F:Bm 69 j (cV b) 9 P [] V sd vl AF AE cr) (B:Bp Tryz.prog 75 [Bf,.agg (cV a),.agg (cV b)] (.var 0 (BN 9 P (([]:List Int)) V sd vl AF AE cr 0)) (BK (Ag Ta Aa Tb Ab) 0) (.var 0 (BN 9 P (([]:List Int)) V sd vl AF AE cr 0))):Bp Tryz.prog 26 [Bf,AH t] (.var 0 (BN 9 P ((([]:List Int))) V sd vl AF AE cr 0)) (.agg [.int .i64 3,BB,BC,BB,BC,BB,BC,BB,BC,BB,BC,BB,BC,BB,BC,BB,BC,Ao Ta,AT Aa,Ao Tb,AT Ab]) (.var 0 (BN 9 P ((([]:List Int))) V sd vl AF AE cr 0)):=by
 refine CM Tryz.func26 (by kernel_rfl) rfl fun E f=>?_
 refine Af ?_;rintro u ⟨n,f15⟩;have H:u=0:=n;refine Eb (fun g=>?_) fun g=>?_
 ·exact absurd g AA
 refine AB f o ?_;refine CJ A ?_;refine .inr ?_;refine BG ?_;refine BG ?_;refine BG ?_;refine BG ?_;refine CN ?_;refine BY (fun h=>?_) fun h=>?_
 ·exact absurd h AA
 refine Dh 0 rfl (BJ f (D 0)) AK ?_;refine AM ?_;intro m z;obtain rfl:j=m:=AA
 refine BR rfl (BJ f (F 0)) AK ?_
 refine BR rfl (BJ f B) AK ?_
 refine BR rfl (BJ f S4) AK ?_
 refine AK
def vq (n:CF 58 [.agg (cC 10 P [] V sd),AH t] (.one (.sl .i64 pl))) (u:pl[0]? =some i) (ha:Bm 69 2 (cV a) 10 P [] V sd vl AF AE cr) (hb:Bm 69 3 (cV b) 10 P [] V sd vl AF AE cr) {f1:Int} (hf:f1≠0) (z:CF 76 [.agg (cV a),.agg (cV b)] (BK (DL Tl Al Tm Am Tn An) f1)):Bp Tryz.prog 26 [Bf,AH t] (.var 0 (BN 10 P ((([]:List Int))) V sd vl AF AE cr 0)) (.agg (Ct 0 Da Da)) (.var 0 (BN 10 P ((([]:List Int))) V sd vl AF AE cr f1)):=by
 refine CM Tryz.func26 (by kernel_rfl) rfl fun E g=>?_
 refine Af ?_;rintro o ⟨m,f15⟩;have A:o=0:=m;refine Eb (fun h=>?_) fun h=>?_
 ·exact absurd h AA
 refine AB g n ?_;refine CJ u ?_;refine .inr ?_;refine BG ?_;refine BG ?_;refine BG ?_;refine BG ?_;refine BG ?_;refine CN ?_;refine BR rfl (BJ g (ha 0)) AK ?_
 refine BR rfl (BJ g (hb 0)) AK ?_
 refine AB g z ?_;refine BR rfl (BJ g (Pt (e:=0) (e1:=f1) (f1:=f1) (by simp))) AK ?_
 refine OK (fun f=>?_) fun f=>?_
 ·exact absurd f hf
 refine AK
def vp (n:CF 58 [.agg (cC 10 P [] V sd),AH t] (.one (.sl .i64 pl))) (z:pl[0]? =some i) (ha:Bm 69 2 (cV a) 10 P [] V sd vl AF AE cr) (hb:Bm 69 3 (cV b) 10 P [] V sd vl AF AE cr) (B:CF 76 [.agg (cV a),.agg (cV b)] (BK (DL Tl Al Tm Am Tn An) 0)) (I:j=1-i) (D:Bm 69 j (cV x) 10 P [] V sd vl AF AE cr) (H:0<=i/\i<=1) (A:CF 78 [.agg (DL Tl Al Tm Am Tn An),.agg (cV x)] (BK (Ag Ta Aa Tb Ab) 0)):Bp Tryz.prog 26 [Bf,AH t] (.var 0 (BN 10 P ((([]:List Int))) V sd vl AF AE cr 0)) (.agg [.int .i64 3,BB,BC,BB,BC,BB,BC,BB,BC,BB,BC,BB,BC,BB,BC,BB,BC,Ao Ta,AT Aa,Ao Tb,AT Ab]) (.var 0 (BN 10 P ((([]:List Int))) V sd vl AF AE cr 0)):=by
 refine CM Tryz.func26 (by kernel_rfl) rfl fun E f=>?_
 refine Af ?_;rintro o ⟨m,f15⟩;have F:o=0:=m;refine Eb (fun g=>?_) fun g=>?_
 ·exact absurd g AA
 refine AB f n ?_;refine CJ z ?_;refine .inr ?_;refine BG ?_;refine BG ?_;refine BG ?_;refine BG ?_;refine BG ?_;refine CN ?_;refine BR rfl (BJ f (ha 0)) AK ?_
 refine BR rfl (BJ f (hb 0)) AK ?_
 refine AB f B ?_;refine BR rfl (BJ f (Pt (e:=0) (e1:=0) (f1:=0) (by simp))) AK ?_
 refine BG ?_;intro h u;obtain rfl:j=h:=AA
 refine BR rfl (BJ f (D 0)) AK ?_
 refine AB f A ?_;refine BR rfl (BJ f S4) AK ?_
 refine AK
def vu (n:CF 58 [.agg (cC 11 P [] V sd),AH t] (.one (.sl .i64 pl))) (z:pl[0]? =some i) (J:j=1-i) (F:Bm 69 j (cV x) 11 P [] V sd vl AF AE cr) (I:0<=i/\i<=1) (A:CF 80 [AH 1] (.agg (AY Ta Aa))) (B:CF 80 [AH 0] (.agg (AY Tb Ab))) {tg:Nat->List LR} {ag:Nat->LR} (D:Bp Tryz.prog 79 [Bf,.agg (cV x),.agg (Ag Ta Aa Tb Ab)] (.var 0 (BN 11 P (([]:List Int)) V sd vl AF AE cr 0)) (.agg (Ct k1 tg ag)) (.var 0 (BN 11 P (([]:List Int)) V sd vl AF AE cr e1))):Bp Tryz.prog 26 [Bf,AH t] (.var 0 (BN 11 P ((([]:List Int))) V sd vl AF AE cr 0)) (.agg (Ct k1 tg ag)) (.var 0 (BN 11 P ((([]:List Int))) V sd vl AF AE cr e1)):=by
 refine CM Tryz.func26 (by kernel_rfl) rfl fun E f=>?_
 refine Af ?_;rintro o ⟨m,f15⟩;have H:o=0:=m;refine Eb (fun g=>?_) fun g=>?_
 ·exact absurd g AA
 refine AB f n ?_;refine CJ z ?_;refine .inr ?_;refine BG ?_;refine BG ?_;refine BG ?_;refine BG ?_;refine BG ?_;refine BG ?_;refine CN ?_;intro h u;obtain rfl:j=h:=AA
 refine BR rfl (BJ f (F 0)) AK ?_
 refine AB f A ?_;refine AB f B ?_;refine BR rfl (BJ f D) AK ?_
 refine AK
def vw (n:CF 58 [.agg (cC 12 P [] V sd),AH t] (.one (.sl .i64 pl))) (z:pl[0]? =some i) (J:j=1-i) (F:Bm 69 j (cV x) 12 P [] V sd vl AF AE cr) (I:0<=i/\i<=1) (A:CF 80 [AH 0] (.agg (AY Ta Aa))) (B:CF 80 [AH 1] (.agg (AY Tb Ab))) {tg:Nat->List LR} {ag:Nat->LR} (D:Bp Tryz.prog 79 [Bf,.agg (cV x),.agg (Ag Ta Aa Tb Ab)] (.var 0 (BN 12 P (([]:List Int)) V sd vl AF AE cr 0)) (.agg (Ct k1 tg ag)) (.var 0 (BN 12 P (([]:List Int)) V sd vl AF AE cr e1))):Bp Tryz.prog 26 [Bf,AH t] (.var 0 (BN 12 P ((([]:List Int))) V sd vl AF AE cr 0)) (.agg (Ct k1 tg ag)) (.var 0 (BN 12 P ((([]:List Int))) V sd vl AF AE cr e1)):=by
 refine CM Tryz.func26 (by kernel_rfl) rfl fun E f=>?_
 refine Af ?_;rintro o ⟨m,f15⟩;have H:o=0:=m;refine Eb (fun g=>?_) fun g=>?_
 ·exact absurd g AA
 refine AB f n ?_;refine CJ z ?_;refine .inr ?_;refine BG ?_;refine BG ?_;refine BG ?_;refine BG ?_;refine BG ?_;refine BG ?_;refine BG ?_;refine CN ?_;intro h u;obtain rfl:j=h:=AA
 refine BR rfl (BJ f (F 0)) AK ?_
 refine AB f A ?_;refine AB f B ?_;refine BR rfl (BJ f D) AK ?_
 refine AK
def vy (h:CF 58 [.agg (cC 3 P [] V sd),AH t] (.one (.sl .i64 pl))) (o:pl[0]? =some 0) (ha:Bm 69 1 (cV a) 3 P [] V sd vl AF AE cr) (hb:Bm 69 2 (cV b) 3 P [] V sd vl AF AE cr) {tg:Nat->List LR} {ag:Nat->LR} (u:Bp Tryz.prog 72 [Bf,.agg (cV a),.agg (cV b)] (.var 0 (BN 3 P (([]:List Int)) V sd vl AF AE cr 0)) (.agg (Ct k1 tg ag)) (.var 0 (BN 3 P (([]:List Int)) V sd vl AF AE cr e1))):Bp Tryz.prog 26 [Bf,AH t] (.var 0 (BN 3 P ((([]:List Int))) V sd vl AF AE cr 0)) (.agg (Ct k1 tg ag)) (.var 0 (BN 3 P ((([]:List Int))) V sd vl AF AE cr e1)):=by
 refine CM Tryz.func26 (by kernel_rfl) rfl fun E f=>?_
 refine Af ?_;rintro n ⟨g,f15⟩;have z:n=0:=g;refine RP ?_ ?_ <;> intro m <;> conv=>cbv
 ·exact absurd m AA
 refine Be f h ?_;conv=>cbv
 refine Bh o ?_;try conv=>cbv
 refine .inr ?_;refine IZ ?_;conv=>cbv
 refine IZ ?_;conv=>cbv
 refine G7 ?_;conv=>cbv
 refine⟨fun _=>⟨AD,AD⟩,?_⟩;try conv=>cbv
 refine⟨fun _=>⟨AD,AD⟩,?_⟩;try conv=>cbv
 refine BR rfl (BJ f (ha 0)) AK ?_
 refine BR rfl (BJ f (hb 0)) AK ?_
 refine BR rfl (BJ f u) AK ?_
 refine AK
def vz (h:CF 58 [.agg (cC 3 P [] V sd),AH t] (.one (.sl .i64 pl))) (o:pl[0]? =some 1) (ha:Bm 69 2 (cV a) 3 P [] V sd vl AF AE cr) (hb:Bm 69 0 (cV b) 3 P [] V sd vl AF AE cr) {tg:Nat->List LR} {ag:Nat->LR} (u:Bp Tryz.prog 72 [Bf,.agg (cV a),.agg (cV b)] (.var 0 (BN 3 P (([]:List Int)) V sd vl AF AE cr 0)) (.agg (Ct k1 tg ag)) (.var 0 (BN 3 P (([]:List Int)) V sd vl AF AE cr e1))):Bp Tryz.prog 26 [Bf,AH t] (.var 0 (BN 3 P ((([]:List Int))) V sd vl AF AE cr 0)) (.agg (Ct k1 tg ag)) (.var 0 (BN 3 P ((([]:List Int))) V sd vl AF AE cr e1)):=by
 refine CM Tryz.func26 (by kernel_rfl) rfl fun E f=>?_
 refine Af ?_;rintro n ⟨g,f15⟩;have z:n=0:=g;refine RP ?_ ?_ <;> intro m <;> conv=>cbv
 ·exact absurd m AA
 refine Be f h ?_;conv=>cbv
 refine Bh o ?_;try conv=>cbv
 refine .inr ?_;refine IZ ?_;conv=>cbv
 refine IZ ?_;conv=>cbv
 refine G7 ?_;conv=>cbv
 refine⟨fun _=>⟨AD,AD⟩,?_⟩;try conv=>cbv
 refine⟨fun _=>⟨AD,AD⟩,?_⟩;try conv=>cbv
 refine BR rfl (BJ f (ha 0)) AK ?_
 refine BR rfl (BJ f (hb 0)) AK ?_
 refine BR rfl (BJ f u) AK ?_
 refine AK
def v5 (h:CF 58 [.agg (cC 3 P [] V sd),AH t] (.one (.sl .i64 pl))) (o:pl[0]? =some 2) (ha:Bm 69 1 (cV a) 3 P [] V sd vl AF AE cr) (hb:Bm 69 0 (cV b) 3 P [] V sd vl AF AE cr) {tg:Nat->List LR} {ag:Nat->LR} (u:Bp Tryz.prog 72 [Bf,.agg (cV a),.agg (cV b)] (.var 0 (BN 3 P (([]:List Int)) V sd vl AF AE cr 0)) (.agg (Ct k1 tg ag)) (.var 0 (BN 3 P (([]:List Int)) V sd vl AF AE cr e1))):Bp Tryz.prog 26 [Bf,AH t] (.var 0 (BN 3 P ((([]:List Int))) V sd vl AF AE cr 0)) (.agg (Ct k1 tg ag)) (.var 0 (BN 3 P ((([]:List Int))) V sd vl AF AE cr e1)):=by
 refine CM Tryz.func26 (by kernel_rfl) rfl fun E f=>?_
 refine Af ?_;rintro n ⟨g,f15⟩;have z:n=0:=g;refine RP ?_ ?_ <;> intro m <;> conv=>cbv
 ·exact absurd m AA
 refine Be f h ?_;conv=>cbv
 refine Bh o ?_;try conv=>cbv
 refine .inr ?_;refine IZ ?_;conv=>cbv
 refine IZ ?_;conv=>cbv
 refine G7 ?_;conv=>cbv
 refine⟨fun _=>⟨AD,AD⟩,?_⟩;try conv=>cbv
 refine⟨fun _=>⟨AD,AD⟩,?_⟩;try conv=>cbv
 refine BR rfl (BJ f (ha 0)) AK ?_
 refine BR rfl (BJ f (hb 0)) AK ?_
 refine BR rfl (BJ f u) AK ?_
 refine AK
def wD (T:5<=kd/\kd<=8) (I:CF 58 [.agg (cC kd P [] V sd),AH t] (.one (.sl .i64 pl))) (N:pl[0]? =some i) (U:pl.length=2) {tg:Nat->List LR} {ag:Nat->LR} (O:Bp Tryz.prog 81 [Bf,.one (.sl .i64 pl)] (.var 0 (BN kd P (([]:List Int)) V sd vl AF AE cr 0)) (.agg (Ct k1 tg ag)) (.var 0 (BN kd P (([]:List Int)) V sd vl AF AE cr e1))):Bp Tryz.prog 26 [Bf,AH t] (.var 0 (BN kd P [] V sd vl AF AE cr 0)) (.agg (Ct k1 tg ag)) (.var 0 (BN kd P [] V sd vl AF AE cr e1)):=by
 refine CM Tryz.func26 (by kernel_rfl) rfl fun E L=>?_
 refine Af ?_;rintro J ⟨H,f15⟩;have S:J=0:=H;refine Eb (fun o=>?_) fun o=>?_
 ·exact absurd o AA
 refine AB L I ?_;refine CJ N ?_;refine .inr ?_;refine BY (fun u=>?_) fun u=>?_
 ·exact absurd u AA
 refine BY (fun z=>?_) fun z=>?_
 ·exact absurd z AA
 refine BY (fun A=>?_) fun A=>?_
 ·exact absurd A AA
 refine BY (fun B=>?_) fun B=>?_
 ·exact absurd B AA
 refine BY (fun D=>?_) fun D=>?_
 ·exact absurd D AA
 refine BY (fun g=>?_) fun g=>?_
 ·exact absurd g AA
 refine BY (fun h=>?_) fun h=>?_
 ·exact absurd h AA
 refine BY (fun m=>?_) fun m=>?_
 ·exact absurd m AA
 intro F f;have K:=f.eq;have f171:=f.le;refine Cw (fun n=>?_) fun n=>?_
 ·exact absurd (by omega:F=2) n
 refine BR rfl (BJ L O) AK ?_
 refine AK
def gi (T:5<=kd/\kd<=8) (H:CF 58 [.agg (cC kd P [] V sd),AH t] (.one (.sl .i64 pl))) (N:pl[0]? =some i) (U:pl.length≠2) {tg:Nat->List LR} {ag:Nat->LR} (O:Bp Tryz.prog 82 [Bf,AH i] (.var 0 (BN kd P (([]:List Int)) V sd vl AF AE cr 0)) (.agg (Ct k1 tg ag)) (.var 0 (BN kd P (([]:List Int)) V sd vl AF AE cr e1))):Bp Tryz.prog 26 [Bf,AH t] (.var 0 (BN kd P [] V sd vl AF AE cr 0)) (.agg (Ct k1 tg ag)) (.var 0 (BN kd P [] V sd vl AF AE cr e1)):=by
 refine CM Tryz.func26 (by kernel_rfl) rfl fun E K=>?_
 refine Af ?_;rintro I ⟨F,f15⟩;have S:I=0:=F;refine Eb (fun o=>?_) fun o=>?_
 ·exact absurd o AA
 refine AB K H ?_;refine CJ N ?_;refine .inr ?_;refine BY (fun u=>?_) fun u=>?_
 ·exact absurd u AA
 refine BY (fun z=>?_) fun z=>?_
 ·exact absurd z AA
 refine BY (fun A=>?_) fun A=>?_
 ·exact absurd A AA
 refine BY (fun B=>?_) fun B=>?_
 ·exact absurd B AA
 refine BY (fun D=>?_) fun D=>?_
 ·exact absurd D AA
 refine BY (fun g=>?_) fun g=>?_
 ·exact absurd g AA
 refine BY (fun h=>?_) fun h=>?_
 ·exact absurd h AA
 refine BY (fun m=>?_) fun m=>?_
 ·exact absurd m AA
 intro L f;have J:=f.eq;have f171:=f.le;refine BY (fun n=>?_) fun n=>?_
 ·exact absurd n AA
 refine BR rfl (BJ K O) AK ?_
 refine AK
def Pv (o:0<C.length) {tg:Nat->List LR} {ag:Nat->LR} (n:Bp Tryz.prog 65 [Bf,AH t] (.var 0 (BN kd P C V sd vl AF AE cr 0)) (.agg (Ct k1 tg ag)) (.var 0 (BN kd P C V sd vl AF AE cr e1))):Bp Tryz.prog 26 [Bf,AH t] (.var 0 (BN kd P C V sd vl AF AE cr 0)) (.agg (Ct k1 tg ag)) (.var 0 (BN kd P C V sd vl AF AE cr e1)):=by
 refine CM Tryz.func26 (by kernel_rfl) rfl fun E m=>?_
 refine Af ?_;rintro g ⟨h,f15⟩;refine Fu (fun f=>?_) fun f=>?_
 ·exact absurd (by omega:g>0) AA
 refine BR rfl (BJ m n) AK ?_
 refine AK
def wE (m:CF 23 [.agg (cC kd P C V sd),.one (.sl .i64 AF),AH t] (AH k0)) (o:k0≠0) (hR:Bp Tryz.prog 25 [Bf,AH (-1)] (.var 0 (BN kd P C V sd vl AF AE cr 0)) (.one (.bool true)) (.var 0 (BN kd P C V sd vl AF AE cr 0))) {tg:Nat->List LR} {ag:Nat->LR} (he:e1≠0) (n:Bp Tryz.prog 26 [Bf,AH t] (.var 0 (BN kd P C V sd vl AF AE cr 0)) (.agg (Ct k1 tg ag)) (.var 0 (BN kd P C V sd vl AF AE cr e1))):CF 6 (WM kd P C V sd vl AF AE t cr) (BK (Ct 0 Da Da) e1):=by
 refine AL Tryz.func6 fun E h=>?_
 refine AB h m ?_;refine BY (fun f=>?_) fun f=>?_
 ·exact absurd f o
 refine Dh 22 rfl (BJ h (hR)) AK ?_;try conv=>cbv
 refine BG ?_;refine Dh 22 rfl (BJ h (n)) AK ?_;try conv=>cbv
 refine OK (fun g=>?_) fun g=>?_
 ·exact absurd g he
 exact AN AK
def wG (h:CF 23 [.agg (cC kd P C V sd),.one (.sl .i64 AF),AH t] (AH k0)) (m:k0=0):CF 6 (WM kd P C V sd vl AF AE t cr) (BK (Ct 0 Da Da) 1):=by
 refine AL Tryz.func6 fun E g=>?_
 refine AB g h ?_;refine Cw (fun f=>?_) fun f=>?_
 ·exact absurd m f
 exact AN AK
def wH (h:CF 23 [.agg (cC kd P C V sd),.one (.sl .i64 AF),AH t] (AH k0)) (hR:Bp Tryz.prog 25 [Bf,AH (-1)] (.var 0 (BN kd P C V sd vl AF AE cr 0)) (.one (.bool false)) (.var 0 (BN kd P C V sd vl AF AE cr 0))):CF 6 (WM kd P C V sd vl AF AE t cr) (BK (Ct 0 Da Da) 1):=by
 refine AL Tryz.func6 fun E g=>?_
 refine AB g h ?_;refine BY (fun f=>?_) fun f=>?_
 ·exact AN AK
 refine Dh 22 rfl (BJ g (hR)) AK ?_;try conv=>cbv
 refine CN ?_;exact AN AK
end
section
end
section
variable {A1 A2 A3 A4 CQ CR CW C3 Df HZ:LR} {M R b c d k k' ki kp kq kt l l' p q:Nat} {T1 T2 T3 T4 CT CU CX C5 Dg Hb:List LR} {TT Fc:AG->Prop} {v vi vt x1 x2 xp xq y1 y2 yp yq:Re} {w w0:AG}
def X3 (F:Fm TT w R b c M q p) (I:Vm TT w b k k' T1 A1 T2 A2 x1 y1) (J:Vm TT w b l l' T3 A3 T4 A4 x2 y2) (O:k+l+c+2<=M) (H:k'+l'+c+2<=M):∃T A m h,Vm TT w b (k+l+3) (k'+l'+3) T A m h ((x1+x2)*Re.ofRat (1/2)) ((y1+y2)*Re.ofRat (1/2))/\CF 74 [.agg (Ag T1 A1 T2 A2),.agg (Ag T3 A3 T4 A4)] (BK (Ag T A m h) 0):=by
 obtain⟨K,fl,L,N,hf⟩:=Ca (1/2:Rat);have D:(1/2:Rat)=Rat.divInt 1 2:=by decide +kernel
 obtain⟨A7,f⟩:=D8 (em [] (Re.ofRat (1/2)));have z:Nm TT w b 1 [] A7 (Re.ofRat (1/2)):=f ▸ JB F AA (Gm (by decide +kernel) F.hb);obtain⟨T8,A8,T9,A9,B,o⟩:=P9 F I J;obtain⟨T5,A5,T6,A6,u,n⟩:=QA F B z;refine⟨T5,A5,T6,A6,u.mono AA AA,?_⟩;refine AL Tryz.func74 fun E g=>?_
 refine AB g o ?_;refine BG ?_;refine AB g (UG AD AD AD D hf) ?_;refine AB g (Lu hf (Ii (by decide +kernel:C4 (1/2:Rat))) f) ?_;refine AB g n ?_;exact AN AK
def pG (F:Fm TT w R b c M q p) (hp:Vm TT w b k k' T1 A1 T2 A2 x1 y1) (g:Vm TT w b l l' T3 A3 T4 A4 x2 y2) (D:q*l+p<=d) (a1:q*l'+p<=d) (hi:d+c+1<=M) (h1:k+k'+l+l'+c+4<=M) (h:x2≠0):∃T A J I n m,Hw TT w b (l'+d+1) (k+k'+l+l'+d+4) T A J I n m (un x2) (y2*Bl (fs x2 y2)) ((x1*x2+y1*y2)*Bl (fs x2 y2))/\Cz Tryz.prog 139 [Bf,.agg (Ag T1 A1 T2 A2),.agg (Ag T3 A3 T4 A4)] (.var 0 [.int .i64 0]) (BK (DL T A J I n m) 0):=by
 obtain⟨T5,A5,S,K⟩:=TU F hp g;obtain⟨a2,u,B,_⟩:=Gw F g.x;obtain⟨T6,A6,U,L,_⟩:=IB F g.x g.x D h;obtain⟨T7,A7,Z,N,_⟩:=IB F g.y g.x D h;obtain⟨T8,A8,h8,O,_⟩:=IB F S g.x D h;rw[Vk h,X2 h];refine⟨T6,A6,T7,A7,T8,A8,⟨(eJ F AA (r:=1) (by decide +kernel) U (HQ h)),Z.mono AA,h8.mono AA⟩,?_⟩;refine DW Tryz.func139 fun E f=>?_
 conv=>cbv
 refine AB f K ?_;refine CK 0 0 f Gn ?_;refine AB f B ?_;intro H o;refine .inr ?_;cases H <;> conv=>cbv
 ·have z:=CI o;refine AB f L ?_;refine CK 0 0 f Gn ?_;refine AB f N ?_;refine CK 0 0 f Gn ?_;refine AB f O ?_;refine CK 0 0 f Gn ?_;refine BG ?_;refine AK
 have z:=CL o;exact absurd (G0.1 (u.symm.trans z)) h
def pF (F:Fm TT w R b c M q p) (hp:Vm TT w b k k' T1 A1 T2 A2 x1 y1) (h:Vm TT w b l l' T3 A3 T4 A4 x2 y2) (hd:q*l+p<=d) (g:q*l'+p<=d) (hi:d+c+1<=M) (h1:k+k'+l+l'+c+4<=M) (B:x2=0) (H:y2≠0):∃T A K J n m,Hw TT w b (l'+d+1) (k+k'+l+l'+d+4) T A K J n m (un x2) (y2*Bl (fs x2 y2)) ((x1*x2+y1*y2)*Bl (fs x2 y2))/\Cz Tryz.prog 139 [Bf,.agg (Ag T1 A1 T2 A2),.agg (Ag T3 A3 T4 A4)] (.var 0 [.int .i64 0]) (BK (DL T A K J n m) 0):=by
 obtain⟨T5,A5,U,L⟩:=TU F hp h;obtain⟨a1,u,D,_⟩:=Gw F h.x;obtain⟨T6,A6,Z,N,_⟩:=IB F h.x h.y g H;obtain⟨T7,A7,h7,O,_⟩:=IB F h.y h.y g H;obtain⟨T8,A8,h8,S,_⟩:=IB F U h.y g H;rw[Vj B,X1 B];refine⟨T6,A6,T7,A7,T8,A8,⟨(eJ F AA (r:=0) (by decide +kernel) Z (show _=(0:Re) by rw[B];grind)),h7.mono AA,h8.mono AA⟩,?_⟩;refine DW Tryz.func139 fun E f=>?_
 conv=>cbv
 refine AB f L ?_;refine CK 0 0 f Gn ?_;refine AB f D ?_;intro I o;refine .inr ?_;cases I <;> conv=>cbv
 ·have z:=CI o;exact absurd (u.trans (by rw[B];exact Ht)) z
 have z:=CL o;refine AB f N ?_;refine CK 0 0 f Gn ?_;refine AB f O ?_;refine CK 0 0 f Gn ?_;refine AB f S ?_;refine CK 0 0 f Gn ?_;refine BG ?_;refine AK
def O0 (F:Fm TT w R b c M q p) (H:Vm TT w b k k' T1 A1 T2 A2 x1 y1) (D:Vm TT w b l l' T3 A3 T4 A4 x2 y2) (z:q*l+p<=d) (h:q*l'+p<=d) (B:d+c+1<=M) (u:k+k'+l+l'+c+4<=M) (I:¬(x2=0/\y2=0)):∃T A o n g f,Hw TT w b (l'+d+1) (k+k'+l+l'+d+4) T A o n g f (un x2) (y2*Bl (fs x2 y2)) ((x1*x2+y1*y2)*Bl (fs x2 y2))/\Cz Tryz.prog 139 [Bf,.agg (Ag T1 A1 T2 A2),.agg (Ag T3 A3 T4 A4)] (.var 0 [.int .i64 0]) (BK (DL T A o n g f) 0):=by
 by_cases m:x2=0
 ·exact pF F H D z h B u m fun e=>I ⟨m,e⟩
 exact pG F H D z h B u m
def SE (F:Fm TT w R b c M q p) (f:Vm TT w b k k' T1 A1 T2 A2 x1 y1) (n:k+c+1<=M) (o:k'+c+1<=M):∃A,Vm TT w b k' k T2 A2 T1 A y1 (-x1)/\CF 140 [.agg (Ag T1 A1 T2 A2)] (.agg (Ag T2 A2 T1 A)):=by
 obtain⟨A5,h,g,_⟩:=JD F f.x n;refine⟨A5,⟨f.y,h⟩,?_⟩;refine AL Tryz.func140 fun E m=>?_
 refine AB m g ?_;exact AN AK
def sI (F:Fm TT w R b c M q p) (I:Vm TT w b k k' T1 A1 T2 A2 x1 y1) (N:Vm TT w b l l' T3 A3 T4 A4 x2 y2) (hk:2*k+4*c+3<=M) (D:2*k'+4*c+3<=M) (hl:2*l+4*c+3<=M) (H:2*l'+4*c+3<=M) (L:¬(x1=x2/\y1=y2)) (hd:q*(l+k+1)+p<=d) (B:q*(l'+k'+1)+p<=d) (hi:d+c+1<=M) (h1:2*k+2*k'+l+l'+c+6<=M):∃T A K J g f,Hw TT w b (l+k+d+2) (2*k+2*k'+l+l'+d+6) T A K J g f (un (y2-y1)) (-(x2-x1)*Bl (fs (y2-y1) (-(x2-x1)))) ((x1*(y2-y1)+y1* -(x2-x1))*Bl (fs (y2-y1) (-(x2-x1))))/\CF 76 [.agg (Ag T1 A1 T2 A2),.agg (Ag T3 A3 T4 A4)] (BK (DL T A K J g f) 0):=by
 obtain⟨T5,A5,T6,A6,Z,O⟩:=JL F N I;obtain⟨A7,h7,S⟩:=SE F Z AA AA;obtain⟨T8,A8,T9,A9,o,n,u,U⟩:=O0 F I h7 B hd hi AA (fun h=>L ⟨by grind,by grind⟩);refine⟨T8,A8,T9,A9,o,n,⟨u.x,u.y.mono AA,u.z.mono AA⟩,?_⟩;refine AL Tryz.func76 fun E m=>?_
 refine AB (r:= .one (.bool false)) m (IG F I N hk D hl H (e:=false) ⟨fun h=>(by cases h),fun h=>absurd h L⟩) ?_;refine AB m O ?_;refine CK 12 1 m I3 ?_;refine AB m S ?_;refine CK 12 1 m U ?_;exact AN AK
def sJ (F:Fm TT w R b c M q p) (u:Vm TT w b k k' T1 A1 T2 A2 x1 y1) (z:Vm TT w b l l' T3 A3 T4 A4 x2 y2) (n:2*k+4*c+3<=M) (f:2*k'+4*c+3<=M) (o:2*l+4*c+3<=M) (g:2*l'+4*c+3<=M) (h:x1=x2/\y1=y2):CF 76 [.agg (Ag T1 A1 T2 A2),.agg (Ag T3 A3 T4 A4)] (BK (DL [] [] [] [] [] []) 11):=by
 refine AL Tryz.func76 fun E m=>?_
 refine AB m (IG F u z n f o g (e:=true) ⟨fun _=>h,fun _=>rfl⟩) ?_;exact AN AK
def dN (F:Fm TT w R b c M q p) (hp:Vm TT w b k k' T1 A1 T2 A2 x1 y1) (K:Vm TT w b l l' T3 A3 T4 A4 x2 y2) (Z:l+c+1<=M) (D:l'+c+1<=M) (J:¬(x2=0/\y2=0)) (S:q*l+p<=d) (B:q*l'+p<=d) (U:d+c+1<=M) (h1:k+k'+l+l'+c+4<=M):∃T A I H g f,Hw TT w b (l+d+1) (k+k'+l+l'+d+4) T A I H g f (un y2) (-x2*Bl (fs y2 (-x2))) ((x1*y2+y1* -x2)*Bl (fs y2 (-x2)))/\CF 144 [.agg (Ag T1 A1 T2 A2),.agg (Ag T3 A3 T4 A4)] (BK (DL T A I H g f) 0):=by
 obtain⟨A7,O,L⟩:=SE F K AA AA;obtain⟨T8,A8,T9,A9,n,m,o,N⟩:=O0 F hp O B S U AA (fun h=>J ⟨by grind,by grind⟩);refine⟨T8,A8,T9,A9,n,m,⟨o.x,o.y.mono AA,o.z.mono AA⟩,?_⟩;refine AL Tryz.func144 fun E u=>?_
 refine AB (r:= .one (.bool false)) u (X4 F K Z D (e:=false) ⟨fun h=>(by cases h),fun h=>absurd h J⟩) ?_;refine AB u L ?_;refine CK 10 1 u N ?_;exact AN AK
def ru (F:Fm TT w R b c M q p) (o:Vm TT w b k k' T1 A1 T2 A2 x1 y1) (n:Vm TT w b l l' T3 A3 T4 A4 x2 y2) (m:l+c+1<=M) (f:l'+c+1<=M) (g:x2=0/\y2=0):CF 144 [.agg (Ag T1 A1 T2 A2),.agg (Ag T3 A3 T4 A4)] (BK (DL [] [] [] [] [] []) 6):=by
 refine AL Tryz.func144 fun E h=>?_
 refine AB h (X4 F n m f (e:=true) ⟨fun _=>g,fun _=>rfl⟩) ?_;exact AN AK
def r9 {m m':Nat} (F:Fm TT w R b c M q p) {T5:List LR} {A5:LR} {α β γ x y:Re} (D:Hw TT w b k l T1 A1 T2 A2 T3 A3 α β γ) (ha:Vm TT w b m m' T4 A4 T5 A5 x y) (n:¬(α=0/\β=0)) (z:q*(2*k+5)+p<=d) (B:d+c+1<=M) (h3:2*k+l+m+m'+d+c+12<=M):∃T A g f,Vm TT w b (k+l+2*m+m'+d+11) (2*k+l+m+2*m'+d+10) T A g f (x-α*(K8 α β γ x y*Re.ofRat (((2:Int):Rat)))) (y-β*(K8 α β γ x y*Re.ofRat (((2:Int):Rat))))/\CF 78 [.agg (DL T1 A1 T2 A2 T3 A3),.agg (Ag T4 A4 T5 A5)] (BK (Ag T A g f) 0):=by
 obtain⟨T7,A7,T8,A8,o,h⟩:=sK F D ha n z B (t:=2) AD (by decide +kernel) h3;refine⟨T7,A7,T8,A8,o,?_⟩;refine AL Tryz.func78 fun E u=>?_
 refine AB u h ?_;exact AN AK
def ry (F:Fm TT w R b c M q p) (K:Vm TT w b k k' T1 A1 T2 A2 x1 y1) (L:Vm TT w b l l' T3 A3 T4 A4 x2 y2) (hk:2*k+4*c+3<=M) (I:2*k'+4*c+3<=M) (hl:2*l+4*c+3<=M) (J:2*l'+4*c+3<=M) (S:¬(x1=x2/\y1=y2)) (hd:q*(l+k+1)+p<=d) (H:q*(l'+k'+1)+p<=d) (hi:d+c+1<=M) (h1:2*k+2*k'+2*l+2*l'+c+12<=M):∃T A O N m g,Hw TT w b (l'+k'+d+2) (2*k+2*k'+2*l+2*l'+d+12) T A O N m g (un (x2-x1)) ((y2-y1)*Bl (fs (x2-x1) (y2-y1))) ((((x1+x2)*Re.ofRat (1/2))*(x2-x1)+((y1+y2)*Re.ofRat (1/2))*(y2-y1))*Bl (fs (x2-x1) (y2-y1)))/\CF 148 [.agg (Ag T1 A1 T2 A2),.agg (Ag T3 A3 T4 A4)] (BK (DL T A O N m g) 0):=by
 obtain⟨T5,A5,T6,A6,h5,U⟩:=X3 F K L AA AA;obtain⟨T7,A7,T8,A8,h7,Z⟩:=JL F L K;obtain⟨T9,A9,u,n,B,o,D,c9⟩:=O0 F h5 h7 hd H hi AA (fun h=>S ⟨by grind,by grind⟩);refine⟨T9,A9,u,n,B,o,⟨D.x,D.y.mono AA,D.z.mono AA⟩,?_⟩;refine IN Tryz.func148 fun E f=>?_
 conv=>cbv
 refine Be (r:= .one (.bool false)) f (IG F K L hk I hl J (e:=false) ⟨fun h=>(by cases h),fun h=>absurd h S⟩) ?_;conv=>cbv
 refine Be f U ?_;conv=>cbv
 refine KF 12 1 f I3 ?_;try conv=>cbv
 refine Be f Z ?_;conv=>cbv
 refine KF 12 1 f I3 ?_;try conv=>cbv
 refine KF 12 1 f c9 ?_;try conv=>cbv
 refine B8 ?_;exact AN AK
def sB (F:Fd TT w) (hp:Vm TT w 1950000 kp kp CT CQ CU CR xp yp) (hq:Vm TT w 1950000 kq kq CX CW C5 C3 xq yq) (ht:Nm TT w 1950000 kt Dg Df vt) (hi:Nm TT w 1950000 ki Hb HZ vi) (F0:Fe Fc w0) (af:Vm Fc w0 11500 20 20 CT CQ CU CR xp yp) (ag:Vm Fc w0 11500 20 20 CX CW C5 C3 xq yq) (U:Up Fc w0 11500 167 TT w 1950000) (hr:Rt Fc w0 11500 167 TT w 1950000 2 v) (hv:(xq-xp)*(xq-xp)+(yq-yp)*(yq-yp)=v) (h0:¬(xp=xq/\yp=yq)) (ah:0<=vt) (hn:Re.sqrt v≠0) (a8:Re.sqrt v*vi=1) (hM:2*ki+2*kp+2*kq+2*kt+443<=80000):∃U0 B0 U1 B1 U2 B2,Nm TT w 1950000 (1) U0 B0 (un (yq-yp))/\Nm TT w 1950000 (72) U1 B1 ((-(xq-xp))*Bl (fs (yq-yp) (-(xq-xp))))/\Nm TT w 1950000 (2*ki+2*kp+2*kt+84) U2 B2 (oC xp yp xq yq (vt*vi)*Bl (fs (yq-yp) (-(xq-xp))))/\CF 135 [.agg (Ag CT CQ CU CR),.agg (Ag CX CW C5 C3),.agg (AY Dg Df),AH 1] (BK (DL U0 B0 U1 B1 U2 B2) 0):=by
 obtain⟨aE,B,D,aB⟩:=Gw F ht;have ad:=S7 ah B;obtain⟨Tw,Aw,Tv,Av,aa,cw⟩:=JL F0 ag af;have hw:=U.v AD AD aa;obtain⟨Tn,An,ae,cn⟩:=jq F0 aa hv hr AD AD;obtain⟨au,ai,O,H,aC⟩:=IB F ht ae (d:=117) AA hn;obtain⟨av,aj,S,aA,aD⟩:=Gv F ht hi;have T:=O.shrink S (R8 a8);have Z:=T.cast (y:=vt*vi) (R8 a8);obtain⟨ak,a1,I⟩:=TV F hw;obtain⟨aw,al,ax,an,a2,J⟩:=QA F a1 Z;obtain⟨ay,ao,az,aq,a5,K⟩:=P9 F hp a2;obtain⟨ar,a6,L⟩:=SE F hw AA AA;obtain⟨o,h,u,m,A,n,g,N⟩:=O0 F a5 a6 (d:=70) AA AA AA AA (fun z=>h0 ⟨by grind,by grind⟩)
 have a7:=g.z.cast (y:=oC xp yp xq yq (vt*vi)*Bl (fs (yq-yp) (-(xq-xp)))) (rfl);refine⟨o,h,u,m,A,n,g.x.mono AA,g.y.mono AA,a7.mono AA,?_⟩;refine AL Tryz.func135 fun E f=>?_
 refine .inr ?_;refine BG ?_;refine AB f D ?_;refine Dk (fun ab=>?_) fun ab=>?_
 ·exact absurd ab ad
 refine AB (r:= .one (.bool false)) f (IG F hp hq AA AA AA AA (e:=false) ⟨fun z=>(by cases z),fun z=>absurd z h0⟩) ?_;refine AB f cw ?_;refine CK 32 1 f I3 ?_;refine AB f cn ?_;refine CK 32 1 f Gn ?_;refine AB f H ?_;refine CK 32 1 f Gn ?_;refine BG ?_;refine .inr ?_;refine AB f I ?_;refine AB f J ?_;refine CK 32 1 f I3 ?_;refine AB f K ?_;refine CK 32 1 f I3 ?_;refine AB f L ?_;refine CK 32 1 f N ?_;exact AN AK
def sA (F:Fd TT w) (hp:Vm TT w 1950000 kp kp CT CQ CU CR xp yp) (hq:Vm TT w 1950000 kq kq CX CW C5 C3 xq yq) (ht:Nm TT w 1950000 kt Dg Df vt) (hi:Nm TT w 1950000 ki Hb HZ vi) (F0:Fe Fc w0) (ah:Vm Fc w0 11500 20 20 CT CQ CU CR xp yp) (ai:Vm Fc w0 11500 20 20 CX CW C5 C3 xq yq) (U:Up Fc w0 11500 167 TT w 1950000) (hr:Rt Fc w0 11500 167 TT w 1950000 2 v) (hv:(xq-xp)*(xq-xp)+(yq-yp)*(yq-yp)=v) (h0:¬(xp=xq/\yp=yq)) (aj:0<=vt) (hn:Re.sqrt v≠0) (ab:Re.sqrt v*vi=1) (hM:2*ki+2*kp+2*kq+2*kt+443<=80000):∃U0 B0 U1 B1 U2 B2,Nm TT w 1950000 (1) U0 B0 (un (yq-yp))/\Nm TT w 1950000 (72) U1 B1 ((-(xq-xp))*Bl (fs (yq-yp) (-(xq-xp))))/\Nm TT w 1950000 (2*ki+2*kp+2*kt+84) U2 B2 (oC xp yp xq yq (-(vt*vi))*Bl (fs (yq-yp) (-(xq-xp))))/\CF 135 [.agg (Ag CT CQ CU CR),.agg (Ag CX CW C5 C3),.agg (AY Dg Df),AH (-1)] (BK (DL U0 B0 U1 B1 U2 B2) 0):=by
 obtain⟨aI,B,D,aE⟩:=Gw F ht;have af:=S7 aj B;obtain⟨Tw,Aw,Tv,Av,ad,cw⟩:=JL F0 ai ah;have hw:=U.v AD AD ad;obtain⟨Tn,An,ag,cn⟩:=jq F0 ad hv hr AD AD;obtain⟨ax,ak,S,H,aF⟩:=IB F ht ag (d:=117) AA hn;obtain⟨ay,al,T,aD,aG⟩:=Gv F ht hi;have Z:=S.shrink T (R8 ab);have a1:=Z.cast (y:=vt*vi) (R8 ab);obtain⟨an,a2,I,aH⟩:=JD F a1;obtain⟨ao,a5,J⟩:=TV F hw;obtain⟨az,aq,aA,ar,a6,K⟩:=QA F a5 a2;obtain⟨aB,au,aC,av,a7,L⟩:=P9 F hp a6;obtain⟨aw,a8,N⟩:=SE F hw AA AA;obtain⟨o,h,u,m,A,n,g,O⟩:=O0 F a7 a8 (d:=70) AA AA AA AA (fun z=>h0 ⟨by grind,by grind⟩)
 have aa:=g.z.cast (y:=oC xp yp xq yq (-(vt*vi))*Bl (fs (yq-yp) (-(xq-xp)))) (rfl);refine⟨o,h,u,m,A,n,g.x.mono AA,g.y.mono AA,aa.mono AA,?_⟩;refine AL Tryz.func135 fun E f=>?_
 refine .inr ?_;refine CN ?_;refine BG ?_;refine AB f D ?_;refine Dk (fun ae=>?_) fun ae=>?_
 ·exact absurd ae af
 refine AB (r:= .one (.bool false)) f (IG F hp hq AA AA AA AA (e:=false) ⟨fun z=>(by cases z),fun z=>absurd z h0⟩) ?_;refine AB f cw ?_;refine CK 32 1 f I3 ?_;refine AB f cn ?_;refine CK 32 1 f Gn ?_;refine AB f H ?_;refine CK 32 1 f Gn ?_;refine CN ?_;refine .inr ?_;refine AB f I ?_;refine AB f J ?_;refine AB f K ?_;refine CK 32 1 f I3 ?_;refine AB f L ?_;refine CK 32 1 f I3 ?_;refine AB f N ?_;refine CK 32 1 f O ?_;exact AN AK
end
section
noncomputable def VO (c:Prop) (n:Int):Int:=open Classical in if c then n else 0
def bB {c:Prop} {n:Int} (h:c):VO c n=n:=if_pos h
def bA {c:Prop} {n:Int} (h:¬c):VO c n=0:=if_neg h
def Er (C:AV->Prop) (e:Int):Prop:=∃k t a,C (lcR k t a e)
def Dt (k:Int) (t:Nat->FB) (a:Nat->FC):Prop:=CF 27 [.agg (Ct k t a)] (.agg (Ct k t a))
def Wr (W:List AC->Int->Prop) (e:Int):Prop:=∃k t a,W (Ct k t a) e/\(e=0->Dt k t a)
def Bo (C:AV->Prop) (W:List AC->Int->Prop):Prop:=∃e,Er C e/\Wr W e
def Ky {k:Int} {T0 T1 T2 T3 T4:FB} {A0 A1 A2 A3 A4:FC} (h:Eh T3 A3) (f:Eh T4 A4):Dt k (EL [T0,T1,T2,T3,T4]) (EF [A0,A1,A2,A3,A4]):=SK h f (Gd _) (Gd _) (Gd _) (Gd _) (Gd _)
def NH {k:Int} {T0 T1 T2:FB} {A0 A1 A2:FC} (h:Eh T0 A0) (f:Eh T1 A1) (g:Eh T2 A2):Dt k (EL [[],[],[],[],[],T0,T1,T2]) (EF [[],[],[],[],[],A0,A1,A2]):=SK (Gd _) (Gd _) h f g (Gd _) (Gd _)
def a8 {k:Int} {T0 T1:FB} {A0 A1:FC} (h:Eh T0 A0) (f:Eh T1 A1):Dt k (EL [[],[],[],[],[],[],[],[],T0,T1]) (EF [[],[],[],[],[],[],[],[],A0,A1]):=SK (Gd _) (Gd _) (Gd _) (Gd _) (Gd _) h f
section
variable {P:AG->Prop} {V:List Re} {w:AG}
end
end
section
abbrev WS (kd:Int) (Q C:List Int) (X:List Ex) (sd:Int) (vl:LR) (AF:List Int) (AE:Int) (cr:List (el Ae)) (f:FuncId) (args:List AV) (l:List AC) (e:Int):Prop:=
 Bp Tryz.prog f (Bf::args) (.var 0 (BN kd Q C X sd vl AF AE cr 0)) (.agg l) (.var 0 (BN kd Q C X sd vl AF AE cr e))
abbrev Qx (l m n:el Ae):List AC:=[.sl (.sl AJ) l.1,.sl AJ l.2,.sl (.sl AJ) m.1,.sl AJ m.2,.sl (.sl AJ) n.1,.sl AJ n.2]
def Bn.pos {q:Rat} {b1 b2:Bool} {l1 l2:List UInt32} (h:Bn q b1 l1 b2 l2) (hb:b1=false) (f:l1.length≠0):0<q:=(Rat.lt_iff _ _).2 (by
 have s:=h.num.Fq;have n:=mt h.num.G9.2 f;rw[hb] at s;simp at s
 show (0:Int)*_<q.num*((1:Nat):Int)
 omega)
section
variable {P:AG->Prop} {V:List Re} {w:AG} {cr:List (el Ae)} {AE:Int} {nc:Nat}
def FA.ER (H:FA P w cr AE nc) {kd sd:Int} {Q C:List Int} {X:List Ex} {vl:LR} {AF:List Int} {i p:Int} {i0:Nat} (g:AZ i i0) (f:Q[i0]? =some p) (m:0<=p/\p<AE):Bm 69 i (cV (Ie cr p)) kd Q C X sd vl AF AE cr:=fun e=>by
 have h:=H.len;have hb:=H.b;exact gl g (p0:=p.toNat) ⟨AA⟩ AA (getD_some AA) (getD_some AA) f
def FA.WJ (H:FA P w cr AE nc) {kd sd:Int} {Q C:List Int} {X:List Ex} {vl:LR} {AF:List Int} {i c p:Int} {i0:Nat} (h:AZ i i0) (f:C[i0]? =some c) (g:0<=c) (m:AF[c.toNat]? =some p) (o:0<=p/\p<AE):Bm 123 i (cV (Ie cr p)) kd Q C X sd vl AF AE cr:=fun e=>by
 have n:=H.len;have hb:=H.b;exact vY h (p0:=p.toNat) ⟨AA⟩ AA (getD_some AA) (getD_some AA) f g m
def FA.PZ (H:FA P w cr AE nc) {kd sd:Int} {Q C:List Int} {X:List Ex} {vl:LR} {AF:List Int} {i c:Int} {i0:Nat} (h:AZ i i0) (f:C[i0]? =some c) (g:0<=c/\c<(nc:Nat)):Bm 124 i (cN (Hs cr AE c)) kd Q C X sd vl AF AE cr:=fun e=>by
 have hb:=H.b;exact wK h f ⟨AA,AA⟩ ⟨AA,AA⟩ (H.rd g)
def TD {rv:Int} {l:LR} (h:FE rv l) {i:Nat} {v:el AJ} (n:l[i]? =some v):∃q,Bn q v.1.1 v.1.2 v.2.1 v.2.2/\C4 q/\[v]=em [] (Re.ofRat q)/\(rv=2->0<q):=by
 obtain⟨m,o,h3,_,g⟩:=h v (List.mem_of_getElem? n);obtain⟨q,f⟩:=OE.1 m;exact⟨q,f,(KZ f).2 ⟨AA,AA⟩,by rw[E5,f.rp],fun e=>f.pos (g e).1 (g e).2⟩
variable {kd sd:Int} {Q C:List Int} {X:List Ex} {vl:LR} {AF:List Int}
def zf (F:Fl (Tf P) w) {s:el Ae} {S:Re} {k:Nat} (h:NF P w k s S) (m:k<=800):∃r:Int,VO (S=0) 6=(if r=0 then 6 else 0)/\CF 64 [.agg (cN s)] (AH r):=by
 obtain⟨r,g,c1,_⟩:=Gw F h;refine⟨r,?_,c1⟩
 by_cases f:S=0
 ·rw[bB f,if_pos (g.trans (G0.2 f))]
 rw[bA f,if_neg fun e=>f (G0.1 (g.symm.trans e))]
end
end
section
def uM {a b c d t:Int} (h:a≠b) (m:c≠d):C1 t [a,b,c,d] 0=(if hasB [a,b,c,d] t 0=true then [if a=t then 0 else 1] else [])++if hasB [a,b,c,d] t 2=true then [if c=t then (2:Int) else 3] else []:=by
 by_cases ha:a=t <;> by_cases hb:b=t <;> by_cases f:c=t <;> by_cases g:d=t <;> first | (exfalso;omega) | simp[C1,hasB,ha,hb,f,g]
section
variable {P:AG->Prop} {V:List Re} {w:AG} {cr:List (el Ae)} {AE:Int} {nc:Nat} {sd:Int} {Q C:List Int} {X:List Ex} {vl:LR} {AF:List Int}
end
end
section
end
section
section
variable {X Y xa ya xb yb xc yc xd yd x1 y1 x2 y2 x y t r s α β γ:Re}
def R7 (h:x≠0):Bl x≠0:=fun e=>by
 have:=HQ h;rw[e] at this;exact Sw (by grind)
def eo (h:¬(x2=0/\y2=0)):un y2*X+ -x2*Bl (fs y2 (-x2))*Y=(x1*y2+y1* -x2)*Bl (fs y2 (-x2))↔y2*(X-x1)-x2*(Y-y1)=0:=by
 have h':¬(y2=0/\ -x2=0):=fun⟨a,b⟩=>h ⟨by grind,a⟩
 have f:=R7 (Rs h');rw[TS h']
 generalize Bl (fs y2 (-x2))=i at*
 constructor
 ·intro e;rcases Re.F3 (show (y2*(X-x1)-x2*(Y-y1))*i=0 by grind) with e | e
  ·exact e
  exact absurd e f
 intro e;have:(y2*(X-x1)-x2*(Y-y1))*i=0:=by rw[e];grind
 grind
def tf (hm:x+x=xa+xb) (f:y+y=ya+yb):(X-x)*(X-x)+(Y-y)*(Y-y)=(x-xa)*(x-xa)+(y-ya)*(y-ya)↔(X-xa)*(X-xb)+(Y-ya)*(Y-yb)=0:=by
 have e1:xb=x+x-xa:=by grind
 have e2:yb=y+y-ya:=by grind
 subst e1 e2
 constructor <;> intro k <;> grind
def th:(xb-xa)*(X+X-(xa+xb))+(yb-ya)*(Y+Y-(ya+yb))=0↔(X-xa)*(X-xa)+(Y-ya)*(Y-ya)-((X-xb)*(X-xb)+(Y-yb)*(Y-yb))=0:=by constructor <;> intro k <;> grind
def cP (h:x+x=xa+xb):X=x↔X-xa+(X-xb)=0:=by
 constructor
 ·rintro rfl;grind
 intro k;have:(X-x)+(X-x)=0:=by grind
 grind
def ji:X=xa+(xa-xb)↔xa-X+(xa-xb)=0:=by constructor <;> intro k <;> grind
def te {i:Re} (f:(x*x+y*y)*i=1) (e:γ=y*xc+ -x*yc):(X=xa-y*((y*xa+ -x*ya-γ)*i*(1+1))/\Y=ya- -x*((y*xa+ -x*ya-γ)*i*(1+1)))↔((X-xc+(xa-xc))*y-(Y-yc+(ya-yc))*x=0/\(X-xa)*x+(Y-ya)*y=0):=by
 subst e
 constructor
 ·rintro⟨rfl,rfl⟩
  refine⟨?_,by grind⟩;have:∀k:Re,k*((x*x+y*y)*i)=k:=fun k=>by rw[f];grind
  have g:=this (y*xa+ -x*ya-(y*xc+ -x*yc))
  grind
 rintro⟨g,h⟩
 have k1:(X-xa)*((x*x+y*y)*i)=X-xa:=by rw[f];grind
 have k2:(Y-ya)*((x*x+y*y)*i)=Y-ya:=by rw[f];grind
 constructor
 ·grind
 grind
end
end
section
section
variable {X Y xa ya xb yb xp yp xq yq δ t k:Re}
def ez (h:¬(xp=xq/\yp=yq)):un (yq-yp)*X+ -(xq-xp)*Bl (fs (yq-yp) (-(xq-xp)))*Y=oC xp yp xq yq δ*Bl (fs (yq-yp) (-(xq-xp)))↔(yq-yp)*(X-xp)-(xq-xp)*(Y-yp)= -(δ*((xq-xp)*(xq-xp)+(yq-yp)*(yq-yp))):=by
 have h':¬(yq-yp=0/\ -(xq-xp)=0):=fun⟨a,b⟩=>h ⟨by grind,by grind⟩
 have f:=R7 (Rs h');rw[TS h'];unfold oC
 generalize Bl (fs (yq-yp) (-(xq-xp)))=i at*
 constructor
 ·intro e;rcases Re.F3 (show ((yq-yp)*(X-xp)-(xq-xp)*(Y-yp)+δ*((xq-xp)*(xq-xp)+(yq-yp)*(yq-yp)))*i=0 by grind) with e | e
  ·grind
  exact absurd e f
 intro e;have:((yq-yp)*(X-xp)-(xq-xp)*(Y-yp)+δ*((xq-xp)*(xq-xp)+(yq-yp)*(yq-yp)))*i=0:=by rw[e];grind
 grind
def xh {a b:Re}:a= -b\/ -a= -b↔a*a-b*b=0:=by
 constructor
 ·rintro (h | h)
  ·rw[h];grind
  rw[show a=b by grind];grind
 intro h;rcases Re.F3 (show (a+b)*(a-b)=0 by grind) with e | e
 ·exact .inl (by grind)
 exact .inr (by grind)
def eu (h:¬(xp=xq/\yp=yq)) (f:δ*δ*((xq-xp)*(xq-xp)+(yq-yp)*(yq-yp))=t*t):
  (un (yq-yp)*X+ -(xq-xp)*Bl (fs (yq-yp) (-(xq-xp)))*Y=oC xp yp xq yq δ*Bl (fs (yq-yp) (-(xq-xp)))\/un (yq-yp)*(xp+((xq-xp)*k-(X-xp)))+ -(xq-xp)*Bl (fs (yq-yp) (-(xq-xp)))*(yp+((yq-yp)*k-(Y-yp)))=oC xp yp xq yq δ*Bl (fs (yq-yp) (-(xq-xp))))↔
  ((xq-xp)*(Y-yp)-(yq-yp)*(X-xp))*((xq-xp)*(Y-yp)-(yq-yp)*(X-xp))-t*t*((xq-xp)*(xq-xp)+(yq-yp)*(yq-yp))=0:=by
 rw[ez h,ez h,show (yq-yp)*(xp+((xq-xp)*k-(X-xp))-xp)-(xq-xp)*(yp+((yq-yp)*k-(Y-yp))-yp)= -((yq-yp)*(X-xp)-(xq-xp)*(Y-yp)) by grind,xh]
 generalize g:(xq-xp)*(xq-xp)+(yq-yp)*(yq-yp)=S at*
 rw[show ((yq-yp)*(X-xp)-(xq-xp)*(Y-yp))*((yq-yp)*(X-xp)-(xq-xp)*(Y-yp))=((xq-xp)*(Y-yp)-(yq-yp)*(X-xp))*((xq-xp)*(Y-yp)-(yq-yp)*(X-xp)) by grind,show δ*S*(δ*S)=δ*δ*S*S by grind,f]
def tl (ht:t≠0):(X-iX xa ya xb yb t)*(X-iX xa ya xb yb t)+(Y-iY xa ya xb yb t)*(Y-iY xa ya xb yb t)=(xa-iX xa ya xb yb t)*(xa-iX xa ya xb yb t)+(ya-iY xa ya xb yb t)*(ya-iY xa ya xb yb t)↔(xa-X)*(yb-Y)-(ya-Y)*(xb-X)-t*((xa-X)*(xb-X)+(ya-Y)*(yb-Y))=0:=by
 have g:=HQ ht;unfold iX iY;rw[show Re.ofRat ((1:Int):Rat)=1 from rfl]
 have f:Re.ofRat (1/2)+Re.ofRat (1/2)=1:=by
  rw[<-Re.ofRat_add,show ((1:Rat)/2+1/2)=1 by decide +kernel];rfl
 generalize Re.ofRat (1/2)=o at*
 generalize Bl t=i at*
 have key:(X-(xa+(xb-xa)*o+ -((yb-ya)*o)*(1*i)))*(X-(xa+(xb-xa)*o+ -((yb-ya)*o)*(1*i)))+(Y-(ya+(yb-ya)*o+(xb-xa)*o*(1*i)))*(Y-(ya+(yb-ya)*o+(xb-xa)*o*(1*i)))-((xa-(xa+(xb-xa)*o+ -((yb-ya)*o)*(1*i)))*(xa-(xa+(xb-xa)*o+ -((yb-ya)*o)*(1*i)))+(ya-(ya+(yb-ya)*o+(xb-xa)*o*(1*i)))*(ya-(ya+(yb-ya)*o+(xb-xa)*o*(1*i))))=(X-xa)*(X-xb)+(Y-ya)*(Y-yb)-((xa-X)*(yb-Y)-(ya-Y)*(xb-X))*i:=by
  have e1:(X-xa)*((xb-xa)*(o+o))=(X-xa)*(xb-xa):=by rw[f];grind
  have e2:(Y-ya)*((yb-ya)*(o+o))=(Y-ya)*(yb-ya):=by rw[f];grind
  have h:(X-xa)*(yb-ya)*i*(o+o)=(X-xa)*(yb-ya)*i:=by rw[f];grind
  have m:(Y-ya)*(xb-xa)*i*(o+o)=(Y-ya)*(xb-xa)*i:=by rw[f];grind
  grind
 constructor
 ·intro e;have k1:(X-xa)*(X-xb)+(Y-ya)*(Y-yb)-((xa-X)*(yb-Y)-(ya-Y)*(xb-X))*i=0:=by rw[<-key,e];grind
  have k2:((xa-X)*(yb-Y)-(ya-Y)*(xb-X))*(t*i)=(xa-X)*(yb-Y)-(ya-Y)*(xb-X):=by rw[g];grind
  have n:t*((X-xa)*(X-xb)+(Y-ya)*(Y-yb)-((xa-X)*(yb-Y)-(ya-Y)*(xb-X))*i)=0:=by rw[k1];grind
  grind
 intro e
 have k2:((xa-X)*(yb-Y)-(ya-Y)*(xb-X))*i=((xa-X)*(xb-X)+(ya-Y)*(yb-Y))*(t*i):=by
  rw[show (xa-X)*(yb-Y)-(ya-Y)*(xb-X)=t*((xa-X)*(xb-X)+(ya-Y)*(yb-Y)) by grind];grind
 rw[g] at k2
 grind
end
end
section
 inductive Lv (P:AG->Prop) (w:AG) (G:Re->Re->Prop):Int->(Nat->FB)->(Nat->FC)->Prop
  | ln {TT:AG->Prop} {w':AG} {R b c M q p k l m:Nat} {T1 T2 T3 T4 T5:FB} {A1 A2 A3 A4 A5:FC} {α β γ:Re} (F:Fm TT w' R b c M q p) (hl:Hw TT w' b k l T1 A1 T2 A2 T3 A3 α β γ) (up:∀{T:FB} {A:FC} {x:Re},Nm (Tf P) w 2100 9500 T A x->Nm TT w' b m T A x) (hM:k+l+m+m+c+8<=M) (hG:∀x y,α*x+β*y=γ↔G x y):Lv P w G 1 (EL [T1,T2,T3,T4,T5]) (EF [A1,A2,A3,A4,A5])
  | ci {T0 T1 T2:FB} {A0 A1 A2:FC} {xo yo S:Re} {k l:Nat} (F:Fd (Tf P) w) (hc:Vm (Tf P) w 1950000 k k T0 A0 T1 A1 xo yo) (hs:Nm (Tf P) w 1950000 l T2 A2 S) (hk:k<=1000) (hl:l<=1000) (hG:∀x y,(x-xo)*(x-xo)+(y-yo)*(y-yo)=S↔G x y):Lv P w G 2 (EL [[],[],[],[],[],T0,T1,T2]) (EF [[],[],[],[],[],A0,A1,A2])
  | pt {T0 T1:FB} {A0 A1:FC} {xo yo:Re} {k:Nat} (h:Vm (Tf P) w 2100 k k T0 A0 T1 A1 xo yo) (hk:k<=100000) (hG:∀x y,xo=x/\yo=y↔G x y):Lv P w G 3 (EL [[],[],[],[],[],[],[],[],T0,T1]) (EF [[],[],[],[],[],[],[],[],A0,A1])
section
variable {P:AG->Prop} {V:List Re} {w:AG} {G G':Re->Re->Prop} {k:Int} {t:Nat->FB} {a:Nat->FC} {W X:List AC->Int->Prop}
def Lv.iff (h:Lv P w G k t a) (e:∀x y,G x y↔G' x y):Lv P w G' k t a:=by
 cases h with
 | ln F m up n f=>exact .ln F m up n fun x y=>(f x y).trans (e x y)
 | ci F o u g m f=>exact .ci F o u g m fun x y=>(f x y).trans (e x y)
 | pt h g f=>exact .pt h g fun x y=>(f x y).trans (e x y)
def Fw (P:AG->Prop) (w:AG) (W:List AC->Int->Prop) (G:Re->Re->Prop):Prop:=(∃e k t a,e≠0/\W (Ct k t a) e)\/∃k t a,W (Ct k t a) 0/\Dt k t a/\Lv P w G k t a
def Fw.mono (h:Fw P w W G) (g:∀k t a e,W (Ct k t a) e->X (Ct k t a) e):Fw P w X G:=
 h.imp (fun⟨e,k,t,a,f,m⟩=>⟨e,k,t,a,f,g _ _ _ _ m⟩) fun⟨k,t,a,f,m⟩=>⟨k,t,a,g _ _ _ _ f,m⟩
def Fw.iff (h:Fw P w W G) (e:∀x y,G x y↔G' x y):Fw P w W G':=h.imp id fun⟨k,t,a,f,g,h3⟩=>⟨k,t,a,f,g,h3.iff e⟩
def Mp (F:Fl (Tf P) w) {s:el Ae} {S:Re} {n:Nat} (o:NF P w n s S) (m:n<=800) (D:Dt k t a) (u:Lv P w G k t a) (f:∀e r:Int,e=(if r=0 then 6 else 0)->CF 64 [.agg (cN s)] (AH r)->W (Ct k t a) e):Fw P w W G:=by
 obtain⟨r,g,cs⟩:=zf F o m
 by_cases h:S=0
 ·rw[bB h] at g;exact .inl ⟨6,k,t,a,AD,f _ _ g cs⟩
 rw[bA h] at g;exact .inr ⟨k,t,a,f _ _ g cs,D,u⟩
def MO (L:Pl P V w) {c:el Co} {s:el Ae} {f g S:Re} {m n:Nat} (h:VF P w m c f g) (o:NF P w n s S) (hm:m<=800) (u:n<=800):Lv P w (fun x y=>(x-f)*(x-f)+(y-g)*(y-g)=S) 2 (EL [[],[],[],[],[],c.1.1,c.2.1,s.1]) (EF [[],[],[],[],[],c.1.2,c.2.2,s.2]):=
 .ci L.fd (h.to (b':=1950000) (k':=1) AA) (o.to (b':=1950000) (k':=1) AA) AD AD fun _ _=>Iff.rfl
def Oe (F:Fl (Tf P) w) {p q:el Co} {xp yp xq yq:Re} {m n:Nat} (g:VF P w m p xp yp) (o:VF P w n q xq yq) (hm:m<=200) (z:n<=200):(∃l m n:el Ae,CF 144 [.agg (cV p),.agg (cV q)] (BK (Qx l m n) 6))\/
  ∃l m n:el Ae,CF 144 [.agg (cV p),.agg (cV q)] (BK (Qx l m n) 0)/\∀{T4 T5:FB} {A4 A5:FC},Lv P w (fun x y=>yq*(x-xp)-xq*(y-yp)=0) 1 (EL [l.1,m.1,n.1,T4,T5]) (EF [l.2,m.2,n.2,A4,A5]):=by
 by_cases f:xq=0/\yq=0
 ·exact .inl ⟨([],[]),([],[]),([],[]),ru F g o AA AA f⟩
 obtain⟨T3,A3,T4,A4,T5,A5,u,c2⟩:=dN F g o AA AA f Bg Bg AA AA;exact .inr ⟨(T3,A3),(T4,A4),(T5,A5),c2,.ln F u (fun h=>h) AA fun x y=>eo f⟩
variable {cr:List (el Ae)} {AE:Int} {kd sd:Int} {Q C:List Int} {Y:List Ex} {vl:LR} {AF:List Int}
def Qq (F:Fl (Tf P) w) {p q:el Co} {xp yp xq yq:Re} (g:VF P w 20 p xp yp) (o:VF P w 20 q xq yq):Fw P w (WS kd Q C Y sd vl AF AE cr 72 [.agg (cV p),.agg (cV q)]) (fun x y=>(yq-yp)*(x-xp)-(xq-xp)*(y-yp)=0):=by
 by_cases m:xp=xq/\yp=yq
 ·exact .inl ⟨11,0,Da,Da,AD,vX (IG F g o AD AD AD AD ⟨fun _=>m,fun _=>rfl⟩)⟩
 obtain⟨T1,A1,T2,A2,n,c1⟩:=JL F o g;have f:¬(xq-xp=0/\yq-yp=0):=fun h=>m ⟨by grind,by grind⟩
 obtain⟨T3,A3,T4,A4,T5,A5,u,c2⟩:=dN F g n AD AD f Bg Bg AD AD;exact .inr ⟨1,EL [T3,T4,T5,T1,T2],EF [A3,A4,A5,A1,A2],vW (IG F g o AD AD AD AD ⟨fun h=>(nomatch h),fun h=>absurd h m⟩) c1 c2,Ky (Db F n.x AD) (Db F n.y AD),.ln F u (fun h=>h) AD fun x y=>eo f⟩
def rJ (L:Pl P V w) (F:Fl (Tf P) w) {p q:el Co} {n:el Ae} {xp yp xq yq t:Re} (T:VF P w 20 p xp yp) (U:VF P w 20 q xq yq) (A:NF P w 1 n t):∃(f:Int) (u v s:el Ae),CF 146 [.agg (cV p),.agg (cV q),.agg (cN n)] (BK (Qx u v s) f)/\
  (f=0->Dt 2 (EL [[],[],[],[],[],u.1,v.1,s.1]) (EF [[],[],[],[],[],u.2,v.2,s.2])/\Lv P w (fun x y=>(xp-x)*(yq-y)-(yp-y)*(xq-x)-t*((xp-x)*(xq-x)+(yp-y)*(yq-y))=0) 2 (EL [[],[],[],[],[],u.1,v.1,s.1]) (EF [[],[],[],[],[],u.2,v.2,s.2])):=by
 have o:=T.to (b':=1950000) (k':=1) AD;have z:=U.to (b':=1950000) (k':=1) AD;have m:=A.to (b':=1950000) (k':=1) AD
 by_cases h:xp=xq/\yp=yq
 ·exact⟨11,([],[]),([],[]),([],[]),oU L.fd o z m h AD,HB⟩
 by_cases g:t=0
 ·exact⟨6,([],[]),([],[]),([],[]),oV L.fd o z m h g AD,HB⟩
 have O:NF P w 1 (([],em [] (Re.ofRat 1)):el Ae) (Re.ofRat 1):=JB F AD (Gm (by decide +kernel));obtain⟨T5,A5,S,_⟩:=IB F O A Bg g;have Z:t*(Re.ofRat 1*Bl t)=1:=by rw[show Re.ofRat 1=1 from rfl,show (1:Re)*Bl t=Bl t by grind];exact HQ g
 obtain⟨I,B,J,D,K,H,s1,s2,N⟩:=oT L.fd o z m (S.to (b':=1950000) (k':=1) AD) h g Z AD;exact⟨0,(I,B),(J,D),(K,H),N,fun _=>⟨NH (Db L.fd s1.x AD) (Db L.fd s1.y AD) (Db L.fd s2 AD),.ci L.fd s1 s2 AD AD fun x y=>tl g⟩⟩
def qc (L:Pl P V w) {m:Nat} {T:FB} {A:FC} {n:Re} (o:Nm (Tf P) w 11500 m T A n) (hm:m<=167) (f:0<=n):∃TT w',Fd TT w'/\Up (Tf P) w 11500 167 TT w' 1950000/\(∀{T:FB} {A:FC} {x:Re},Nm (Tf P) w 2100 9500 T A x->Nm TT w' 1950000 11 T A x)/\Rt (Tf P) w 11500 167 TT w' 1950000 2 n/\(n≠0->∃T A,Nm TT w' 1950000 73 T A (Re.sqrt n*Bl n)):=by
 have hu:=o;obtain⟨_,_,_,_,_,he⟩:=o
 have g:El w R4 n:=he.mono (by have H:R4=1920500:=rfl
                               omega)
 have U:Up (Tf P) w 11500 167 (Tf (P4 P n)) (Bb w n) 1950000:=⟨fun F h=>L.lift g.mem f h AA⟩;have u:=vN L g f;refine⟨_,_,L.Vc g f,U,fun h=>L.lift g.mem f h AD,u,fun D=>?_⟩;obtain⟨_,_,z,_⟩:=u.get hm hu;obtain⟨T,A,B,_⟩:=IB (L.Vc g f) z (U.up hm hu) (d:=70) AD D;exact⟨T,A,B⟩
def eZ (L:Pl P V w) (F:Fl (Tf P) w) {p q:el Co} {n:el Ae} {xp yp xq yq g:Re} (hp:VF P w 20 p xp yp) (hq:VF P w 20 q xq yq) (hn:NF P w 20 n g) (hs:sd=1\/sd= -1):
  ∃(f:Int) (a b c:el Ae) (u:el Co),CF 135 [.agg (cV p),.agg (cV q),.agg (cN n),AH sd] (BK (Qx a b c) f)/\CF 142 [.agg (cV q),.agg (cV p)] (BK (cV u) 0)/\
   (f=0->Dt 1 (EL [a.1,b.1,c.1,u.1.1,u.2.1]) (EF [a.2,b.2,c.2,u.1.2,u.2.2])/\¬(xp=xq/\yp=yq)/\∃δ:Re,δ*δ*((xq-xp)*(xq-xp)+(yq-yp)*(yq-yp))=g*g/\
    Lv P w (fun x y=>un (yq-yp)*x+ -(xq-xp)*Bl (fs (yq-yp) (-(xq-xp)))*y=oC xp yp xq yq δ*Bl (fs (yq-yp) (-(xq-xp)))) 1 (EL [a.1,b.1,c.1,u.1.1,u.2.1]) (EF [a.2,b.2,c.2,u.1.2,u.2.2])):=by
 obtain⟨T8,A8,T9,A9,h8,o⟩:=JL F hq hp;have K:=hp.to (b':=1950000) (k':=1) AD;have N:=hq.to (b':=1950000) (k':=1) AD;have J:=hn.to (b':=1950000) (k':=1) AD;have D:=fun {a b c:el Ae}=>Ky (k:=1) (T0:=a.1) (T1:=b.1) (T2:=c.1) (A0:=a.2) (A1:=b.2) (A2:=c.2) (Db F h8.x AD) (Db F h8.y AD)
 by_cases m:g<0
 ·rcases hs with rfl | rfl
  ·exact⟨7,([],[]),([],[]),([],[]),((T8,A8),T9,A9),sH L.fd K N J m AD,o,HB⟩
  exact⟨7,([],[]),([],[]),([],[]),((T8,A8),T9,A9),sG L.fd K N J m AD,o,HB⟩
 have m:0<=g:=by grind
 by_cases he:xp=xq/\yp=yq
 ·rcases hs with rfl | rfl
  ·exact⟨11,([],[]),([],[]),([],[]),((T8,A8),T9,A9),sF L.fd K N J m he AD,o,HB⟩
  exact⟨11,([],[]),([],[]),([],[]),((T8,A8),T9,A9),sC L.fd K N J m he AD,o,HB⟩
 obtain⟨T5,A5,d5,_⟩:=QB F h8;have z:(xq-xp)*(xq-xp)+(yq-yp)*(yq-yp)≠0:=TH fun h=>he ⟨by grind,by grind⟩
 have A:=xT (xq-xp) (yq-yp);obtain⟨TT,w4,H,U,up,hr,I⟩:=qc L (d5.to (b':=11500) (k':=167) AD) Bg A;obtain⟨Ti,Ai,I⟩:=I z;obtain⟨i1,i2,i3⟩:=xY A z;have p2:=hp.to (b':=11500) (k':=20) AD;have q2:=hq.to (b':=11500) (k':=20) AD;have nt:=U.up AD (hn.to (b':=11500) (k':=20) AD);have pu:=U.v AD AD p2;have qu:=U.v AD AD q2
 generalize hv:(xq-xp)*(xq-xp)+(yq-yp)*(yq-yp)=v at*
 have B:g*(Re.sqrt v*Bl v)*(g*(Re.sqrt v*Bl v))*v=g*g:=by
  rw[show g*(Re.sqrt v*Bl v)*(g*(Re.sqrt v*Bl v))*v=g*g*(v*(Re.sqrt v*Bl v*(Re.sqrt v*Bl v))) by grind,i3];grind
 rcases hs with rfl | rfl
 ·obtain⟨Z,O,W1,S,W2,T,l1,l2,l3,d⟩:=sB H pu qu nt I L.fe p2 q2 U hr hv he m i1 i2 AD;exact⟨0,(Z,O),(W1,S),(W2,T),((T8,A8),T9,A9),d,o,fun _=>⟨D,he,_,B,.ln H ⟨l1,l2,l3⟩ up AD fun _ _=>Iff.rfl⟩⟩
 obtain⟨Z,O,W1,S,W2,T,l1,l2,l3,d⟩:=sA H pu qu nt I L.fe p2 q2 U hr hv he m i1 i2 AD;exact⟨0,(Z,O),(W1,S),(W2,T),((T8,A8),T9,A9),d,o,fun _=>⟨D,he,-(g*(Re.sqrt v*Bl v)),by rw[<-B];grind,.ln H ⟨l1,l2,l3⟩ up AD fun _ _=>Iff.rfl⟩⟩
end
end
section
def Vq:Re.ofRat (1/2)+Re.ofRat (1/2)=1:=by
 rw[<-Re.ofRat_add,show ((1:Rat)/2+1/2)=1 by decide +kernel];rfl
def tk {X Y xa ya xb yb h:Re} (f:h+h=1) (g:¬(xa=xb/\ya=yb)):un (xb-xa)*X+(yb-ya)*Bl (fs (xb-xa) (yb-ya))*Y=((xa+xb)*h*(xb-xa)+(ya+yb)*h*(yb-ya))*Bl (fs (xb-xa) (yb-ya))↔(xb-xa)*(X+X-(xa+xb))+(yb-ya)*(Y+Y-(ya+yb))=0:=by
 have h':¬(xb-xa=0/\yb-ya=0):=fun⟨a,b⟩=>g ⟨by grind,by grind⟩
 have m:=R7 (Rs h');rw[TS h']
 generalize Bl (fs (xb-xa) (yb-ya))=i at*
 have key:(xb-xa)*(X+X-(xa+xb))+(yb-ya)*(Y+Y-(ya+yb))=((xb-xa)*X+(yb-ya)*Y-((xa+xb)*h*(xb-xa)+(ya+yb)*h*(yb-ya)))+((xb-xa)*X+(yb-ya)*Y-((xa+xb)*h*(xb-xa)+(ya+yb)*h*(yb-ya))):=by
  have e1:(xa+xb)*(xb-xa)*(h+h)=(xa+xb)*(xb-xa):=by rw[f];grind
  have e2:(ya+yb)*(yb-ya)*(h+h)=(ya+yb)*(yb-ya):=by rw[f];grind
  grind
 constructor
 ·intro e;rcases Re.F3 (show ((xb-xa)*X+(yb-ya)*Y-((xa+xb)*h*(xb-xa)+(ya+yb)*h*(yb-ya)))*i=0 by grind) with e | e
  ·rw[key,e];grind
  exact absurd e m
 intro e;have:((xb-xa)*X+(yb-ya)*Y-((xa+xb)*h*(xb-xa)+(ya+yb)*h*(yb-ya)))*(h+h)=0:=by rw[key] at e;grind
 rw[f] at this;have:((xb-xa)*X+(yb-ya)*Y-((xa+xb)*h*(xb-xa)+(ya+yb)*h*(yb-ya)))*i=0:=by rw[show (xb-xa)*X+(yb-ya)*Y-((xa+xb)*h*(xb-xa)+(ya+yb)*h*(yb-ya))=0 by grind];grind
 grind
section
variable {P:AG->Prop} {V:List Re} {w:AG} {cr:List (el Ae)} {AE:Int} {nc:Nat} {sd:Int} {Q C:List Int} {Y:List Ex} {vl:LR} {AF:List Int}
def Mn (F:Fl (Tf P) w) {rv:Int} {l:LR} (h:FE rv l) {i:Int} {i0:Nat} {v:el AJ} (n:AZ i i0) (m:l[i0]? =some v):∃q:Rat,v=rp q/\C4 q/\NF P w 1 (([],[v]):el Ae) (Re.ofRat q)/\∀kd Q C X sd AF,Bm 71 i (cN (([],[v]):el Ae)) kd Q C X sd l AF AE cr:=by
 obtain⟨q,g,f,he,_⟩:=TD h m;have:=JB F AD (Gm f);rw[<-he] at this;exact⟨q,g.rp.symm,f,this,fun _ _ _ _ _ _ _=>gx n m (Lu g (Ii f) he)⟩
def ie (L:Pl P V w) (F:Fl (Tf P) w) {i j ja jb:Int} (o:Ep i j) (f:ja=if i<2 then 2 else 0) (g:jb=if i<2 then 3 else 1) {z p q:el Co} {N O xp yp xq yq:Re} (J:VF P w 20 z N O) (hp:VF P w 20 p xp yp) (hq:VF P w 20 q xq yq)
  (A:∀kd,Bm 69 j (cV z) kd Q C Y sd vl AF AE cr) (mp:∀kd,Bm 69 ja (cV p) kd Q C Y sd vl AF AE cr) (u:∀kd,Bm 69 jb (cV q) kd Q C Y sd vl AF AE cr):
  Fw P w (WS 6 Q C Y sd vl AF AE cr 82 [AH i]) (fun x y=>(yq-yp)*(x-N)-(xq-xp)*(y-O)=0)/\
  Fw P w (WS 7 Q C Y sd vl AF AE cr 82 [AH i]) (fun x y=>(xq-xp)*(x-N)- -(yq-yp)*(y-O)=0)/\
  Fw P w (WS 8 Q C Y sd vl AF AE cr 82 [AH i]) (fun x y=>(x-N)*(x-N)+(y-O)*(y-O)=(xq-xp)*(xq-xp)+(yq-yp)*(yq-yp))/\
  ∀{n:el Ae} {t:Re},NF P w 1 n t->Bm 71 0 (cN n) 5 Q C Y sd vl AF AE cr->(i<2->Fw P w (WS 5 Q C Y sd vl AF AE cr 82 [AH i]) (fun x y=>(yq-yp+(xq-xp)* -t)*(x-N)-(xq-xp+ -(yq-yp)* -t)*(y-O)=0))/\
   (¬i<2->Fw P w (WS 5 Q C Y sd vl AF AE cr 82 [AH i]) (fun x y=>(yq-yp+(xq-xp)*t)*(x-N)-(xq-xp+ -(yq-yp)*t)*(y-O)=0)):=by
 obtain⟨T1,A1,T2,A2,H,c1⟩:=JL F hq hp;have hv:VF P w 41 ((T1,A1),T2,A2) (xq-xp) (yq-yp):=H;obtain⟨U,l3,c3⟩:=TV F H;have a2:VF P w 42 ((T2,U),T1,A1) (-(yq-yp)) (xq-xp):=⟨l3.x.mono AD,l3.y.mono AD⟩;refine⟨?_,?_,?_,fun {n t} hn T=>?_⟩
 ·rcases Oe F J hv AD AD with⟨l,m,n,c⟩ |⟨l,m,n,c,K⟩
  ·exact .inl ⟨6,1,EL [l.1,m.1,n.1,T1,T2],EF [l.2,m.2,n.2,A1,A2],AD,gq o f g (A 6) (mp 6) (u 6) c1 c⟩
  exact .inr ⟨1,EL [l.1,m.1,n.1,T1,T2],EF [l.2,m.2,n.2,A1,A2],gq o f g (A 6) (mp 6) (u 6) c1 c,Ky (Db F H.x AD) (Db F H.y AD),K⟩
 ·rcases Oe F J a2 AD AD with⟨l,m,n,c⟩ |⟨l,m,n,c,K⟩
  ·exact .inl ⟨6,1,EL [l.1,m.1,n.1,T2,T1],EF [l.2,m.2,n.2,U,A1],AD,gu o f g (A 7) (mp 7) (u 7) c1 c3 c⟩
  exact .inr ⟨1,EL [l.1,m.1,n.1,T2,T1],EF [l.2,m.2,n.2,U,A1],gu o f g (A 7) (mp 7) (u 7) c1 c3 c,Ky (Db F l3.x AD) (Db F l3.y AD),K⟩
 ·obtain⟨T5,A5,l5,D⟩:=QB F H;exact Mp (s:=(T5,A5)) F l5 AD (NH (Db F J.x AD) (Db F J.y AD) (Db F l5 AD)) (MO L (c:=z) (s:=(T5,A5)) J l5 AD AD) fun e r er cs=>wN o f g (A 8) (mp 8) (u 8) c1 D er cs
 have side:∀{m:el Ae} {v:Re},NF P w 1 m v->∃T3 A3 T4 A4 T5 A5 T6 A6,CF 137 [.agg [Ao T2,AT U,Ao T1,AT A1],.agg (cN m)] (BK [Ao T3,AT A3,Ao T4,AT A4] 0)/\
   CF 136 [.agg [Ao T1,AT A1,Ao T2,AT A2],.agg [Ao T3,AT A3,Ao T4,AT A4]] (BK [Ao T5,AT A5,Ao T6,AT A6] 0)/\
   VF P w 85 ((T5,A5),T6,A6) (xq-xp+ -(yq-yp)*v) (yq-yp+(xq-xp)*v):=fun hm=>by
  obtain⟨T3,A3,T4,A4,h3,c3⟩:=QA F l3 hm;obtain⟨T5,A5,T6,A6,h4,B⟩:=P9 F H h3;exact⟨T3,A3,T4,A4,T5,A5,T6,A6,c3,B,h4.mono AD AD⟩
 obtain⟨b0,a1⟩:=Es (xq-xp=0/\yq-yp=0);have S:=X4 F H AD AD a1;obtain⟨Am,hm,Z,_⟩:=JD F hn;cases b0
 ·refine⟨fun h=>?_,fun h=>?_⟩
  ·obtain⟨T3,A3,T4,A4,T5,A5,T6,A6,B,D,I⟩:=side (m:=(_,Am)) hm;rcases Oe F J I AD AD with⟨l,m,n,c⟩ |⟨l,m,n,c,K⟩
   ·exact .inl ⟨6,1,EL [l.1,m.1,n.1,T5,T6],EF [l.2,m.2,n.2,A5,A6],AD,gn o f g (A 5) (mp 5) (u 5) c1 T h Z S c3 B D c⟩
   exact .inr ⟨1,EL [l.1,m.1,n.1,T5,T6],EF [l.2,m.2,n.2,A5,A6],gn o f g (A 5) (mp 5) (u 5) c1 T h Z S c3 B D c,Ky (Db F I.x AD) (Db F I.y AD),K⟩
  obtain⟨T3,A3,T4,A4,T5,A5,T6,A6,B,D,I⟩:=side hn;rcases Oe F J I AD AD with⟨l,m,n,c⟩ |⟨l,m,n,c,K⟩
  ·exact .inl ⟨6,1,EL [l.1,m.1,n.1,T5,T6],EF [l.2,m.2,n.2,A5,A6],AD,gp o f g (A 5) (mp 5) (u 5) c1 T h S c3 B D c⟩
  exact .inr ⟨1,EL [l.1,m.1,n.1,T5,T6],EF [l.2,m.2,n.2,A5,A6],gp o f g (A 5) (mp 5) (u 5) c1 T h S c3 B D c,Ky (Db F I.x AD) (Db F I.y AD),K⟩
 exact⟨fun h=> .inl ⟨6,0,Da,Da,AD,wL o f g (A 5) (mp 5) (u 5) c1 T h Z S⟩,fun h=> .inl ⟨6,0,Da,Da,AD,wM o f g (A 5) (mp 5) (u 5) c1 T h S⟩⟩
def pV (L:Pl P V w) (F:Fl (Tf P) w) {i j p q:Int} (H:Ep i p) (I:Ep j q) {A B:el Co} {g m xB o:Re} (z:VF P w 20 A g m) (N:VF P w 20 B xB o)
  (J:∀kd,Bm 69 p (cV A) kd Q C Y sd vl AF AE cr) (K:∀kd,Bm 69 q (cV B) kd Q C Y sd vl AF AE cr):
  Fw P w (WS 6 Q C Y sd vl AF AE cr 81 [.one (.sl .i64 [i,j])]) (fun x y=>(o-m)*(x-g)-(xB-g)*(y-m)=0)/\
  Fw P w (WS 7 Q C Y sd vl AF AE cr 81 [.one (.sl .i64 [i,j])]) (fun x y=>(x-g)*(x-xB)+(y-m)*(y-o)=0)/\
  Fw P w (WS 8 Q C Y sd vl AF AE cr 81 [.one (.sl .i64 [i,j])]) (fun x y=>(x-g)*(x-g)+(y-m)*(y-m)-((x-xB)*(x-xB)+(y-o)*(y-o))=0)/\
  ∀{n:el Ae} {t:Re},NF P w 1 n t->Bm 71 0 (cN n) 5 Q C Y sd vl AF AE cr->Fw P w (WS 5 Q C Y sd vl AF AE cr 81 [.one (.sl .i64 [i,j])]) (fun x y=>(g-x)*(o-y)-(m-y)*(xB-x)-t*((g-x)*(xB-x)+(m-y)*(o-y))=0):=by
 obtain⟨b7,S⟩:=Es (g=xB/\m=o);have T:=IG F z N AD AD AD AD S;refine⟨(Qq F z N).mono fun k t a e r=>vZ H I (J 6) (K 6) r,?_,?_,fun {n t} hn mn=>?_⟩
 ·cases b7
  ·obtain⟨T3,A3,T4,A4,m2,cn⟩:=X3 F z N AD AD;obtain⟨T5,A5,T6,A6,m3,U⟩:=JL F z m2;obtain⟨T7,A7,m4,Z⟩:=QB F m3
   have O:∀u v:Re,(u+v)*Re.ofRat (1/2)+(u+v)*Re.ofRat (1/2)=u+v:=fun u v=>by
    rw[show (u+v)*Re.ofRat (1/2)+(u+v)*Re.ofRat (1/2)=(u+v)*(Re.ofRat (1/2)+Re.ofRat (1/2)) by grind,Vq];grind
   refine (Mp (s:=(T7,A7)) F m4 AD (NH (Db F m2.x AD) (Db F m2.y AD) (Db F m4 AD)) (MO L (c:=((T3,A3),T4,A4)) (s:=(T7,A7)) m2 m4 AD AD) fun e r er cs=>vd H I (J 7) (K 7) T cn U Z er cs).iff fun x y=>?_
   rw[<-tf (O g xB) (O m o)]
   constructor <;> intro h <;> grind
  exact .inl ⟨11,0,Da,Da,AD,vf H I (J 7) (K 7) T⟩
 ·cases b7
  ·have e0:¬(g=xB/\m=o):=fun e=>nomatch S.2 e
   obtain⟨T6,A6,T7,A7,T8,A8,hl,U⟩:=ry F z N AD AD AD AD e0 Bg Bg AD AD;obtain⟨U1,B1,U2,B2,h8,Z⟩:=JL F N z;obtain⟨B3,l3,c9⟩:=TV F h8;exact .inr ⟨1,EL [T6,T7,T8,U2,U1],EF [A6,A7,A8,B3,B1],vg H I (J 8) (K 8) T U Z c9,Ky (Db F l3.x AD) (Db F l3.y AD),.ln F hl (fun h=>h) AD fun x y=>(tk Vq e0).trans th⟩
  exact .inl ⟨11,0,Da,Da,AD,vh H I (J 8) (K 8) T⟩
 obtain⟨f,u,v,s,cj,D⟩:=rJ L F z N hn
 by_cases h0:f=0
 ·subst h0;exact .inr ⟨2,_,_,gb H I (J 5) (K 5) mn cj,(D rfl).1,(D rfl).2⟩
 exact .inl ⟨f,2,EL [[],[],[],[],[],u.1,v.1,s.1],EF [[],[],[],[],[],u.2,v.2,s.2],h0,gb (Tu:=u.1) (Tv:=v.1) (Ts:=s.1) (Au:=u.2) (Av:=v.2) (As:=s.2) H I (J 5) (K 5) mn cj⟩
end
end
section
end
section
def rj {kd t:Int} {P:List Int} {c0 c1:Bool} (u:1<=kd/\kd<=17) (np:(P.length:Int)=(DO kd).2.1)
  (pr:(kd=5\/kd=6\/kd=7\/kd=8)->∀a b c d,P=[a,b,c,d]->a≠b/\c≠d):
  kP kd (C1 t P 0) c0 c1=kD (kF kd (Di P t) (P.getD 0 0==t) (hasB P t 0) (hasB P t 2) c0 c1):=by
 have g:kd=1\/kd=2\/kd=3\/kd=4\/kd=5\/kd=6\/kd=7\/kd=8\/kd=9\/kd=10\/kd=11\/kd=12\/kd=13\/kd=14\/kd=15\/kd=16\/kd=17:=AA
 rcases g with rfl | rfl | rfl | rfl | rfl | rfl | rfl | rfl | rfl | rfl | rfl | rfl | rfl | rfl | rfl | rfl | rfl
 ·have f:P.length=1:=by have h:(P.length:Int)=1:=np;omega
  match P,f with
  | [a],_=>
  by_cases ha:a=t <;> simp[kP,kF,C1,Di,hasB,FM,kD,ha]
 ·have f:P.length=2:=by have h:(P.length:Int)=2:=np;omega
  match P,f with
  | [a,b],_=>
  by_cases ha:a=t <;> by_cases hb:b=t <;> simp[kP,kF,C1,Di,hasB,FM,kD,ha,hb]
 ·have f:P.length=3:=by have h:(P.length:Int)=3:=np;omega
  match P,f with
  | [a,b,c],_=>
  by_cases ha:a=t <;> by_cases hb:b=t <;> by_cases g:c=t <;> simp[kP,kF,C1,Di,hasB,FM,kD,ha,hb,g]
 ·have f:P.length=3:=by have h:(P.length:Int)=3:=np;omega
  match P,f with
  | [a,b,c],_=>
  by_cases ha:a=t <;> by_cases hb:b=t <;> by_cases g:c=t <;> simp[kP,kF,C1,Di,hasB,FM,kD,ha,hb,g]
 ·have f:P.length=4:=by have h:(P.length:Int)=4:=np;omega
  match P,f with
  | [a,b,c,d],_=>
  obtain⟨n,o⟩:=pr AA a b c d rfl
  by_cases ha:a=t <;> by_cases hb:b=t <;> by_cases g:c=t <;> by_cases m:d=t <;> first | (exfalso;omega) | simp[kP,kF,C1,Di,hasB,FM,kD,ha,hb,g,m]
 ·have f:P.length=4:=by have h:(P.length:Int)=4:=np;omega
  match P,f with
  | [a,b,c,d],_=>
  obtain⟨n,o⟩:=pr AA a b c d rfl
  by_cases ha:a=t <;> by_cases hb:b=t <;> by_cases g:c=t <;> by_cases m:d=t <;> first | (exfalso;omega) | simp[kP,kF,C1,Di,hasB,FM,kD,ha,hb,g,m]
 ·have f:P.length=4:=by have h:(P.length:Int)=4:=np;omega
  match P,f with
  | [a,b,c,d],_=>
  obtain⟨n,o⟩:=pr AA a b c d rfl
  by_cases ha:a=t <;> by_cases hb:b=t <;> by_cases g:c=t <;> by_cases m:d=t <;> first | (exfalso;omega) | simp[kP,kF,C1,Di,hasB,FM,kD,ha,hb,g,m]
 ·have f:P.length=4:=by have h:(P.length:Int)=4:=np;omega
  match P,f with
  | [a,b,c,d],_=>
  obtain⟨n,o⟩:=pr AA a b c d rfl
  by_cases ha:a=t <;> by_cases hb:b=t <;> by_cases g:c=t <;> by_cases m:d=t <;> first | (exfalso;omega) | simp[kP,kF,C1,Di,hasB,FM,kD,ha,hb,g,m]
 ·have f:P.length=3:=by have h:(P.length:Int)=3:=np;omega
  match P,f with
  | [a,b,c],_=>
  by_cases ha:a=t <;> by_cases hb:b=t <;> by_cases g:c=t <;> simp[kP,kF,C1,Di,hasB,FM,kD,ha,hb,g]
 ·have f:P.length=4:=by have h:(P.length:Int)=4:=np;omega
  match P,f with
  | [a,b,c,d],_=>
  by_cases ha:a=t <;> by_cases hb:b=t <;> by_cases g:c=t <;> by_cases m:d=t <;> simp[kP,kF,C1,Di,hasB,FM,kD,ha,hb,g,m]
 ·have f:P.length=2:=by have h:(P.length:Int)=2:=np;omega
  match P,f with
  | [a,b],_=>
  by_cases ha:a=t <;> by_cases hb:b=t <;> simp[kP,kF,C1,Di,hasB,FM,kD,ha,hb]
 ·have f:P.length=2:=by have h:(P.length:Int)=2:=np;omega
  match P,f with
  | [a,b],_=>
  by_cases ha:a=t <;> by_cases hb:b=t <;> simp[kP,kF,C1,Di,hasB,FM,kD,ha,hb]
 ·have f:P.length=1:=by have h:(P.length:Int)=1:=np;omega
  match P,f with
  | [a],_=>
  by_cases ha:a=t <;> cases c0 <;> simp[kP,kF,C1,Di,hasB,FM,kD,ha]
 ·have f:P.length=0:=by have h:(P.length:Int)=0:=np;omega
  match P,f with
  | [],_=>
  simp[kP,kF,C1,Di,hasB,FM,kD]
 ·have f:P.length=0:=by have h:(P.length:Int)=0:=np;omega
  match P,f with
  | [],_=>
  simp[kP,kF,C1,Di,hasB,FM,kD]
 ·have f:P.length=2:=by have h:(P.length:Int)=2:=np;omega
  match P,f with
  | [a,b],_=>
  by_cases ha:a=t <;> by_cases hb:b=t <;> cases c0 <;> simp[kP,kF,C1,Di,hasB,FM,kD,ha,hb]
 have f:P.length=0:=by have h:(P.length:Int)=0:=np;omega
 match P,f with
 | [],_=>
 cases c0 <;> cases c1 <;> simp[kP,kF,C1,Di,hasB,FM,kD]
end
section
def yS {h m:Rat} {b1 c1 b2 c2:Bool} {l1 m1 l2 m2:List UInt32} (o:Bn h b1 l1 c1 m1) (u:Bn m b2 l2 c2 m2) (s1:Ch h) (s2:Ch m) {A1 A2:LR} (f:A1=em [] (Re.ofRat h)) (g:A2=em [] (Re.ofRat m)):CF 67 [.agg (CP b1 l1 c1 m1),.agg (CP b2 l2 c2 m2)] (.agg (Ag [] A1 [] A2)):=by
 refine IN Tryz.func67 fun E n=>?_
 conv=>cbv
 refine Be n (Lu o s1 f) ?_;conv=>cbv
 refine Be n (Lu u s2 g) ?_;conv=>cbv
 refine⟨fun _=>by kernel_rfl,?_⟩;exact AN AK
def GO {a b t:Int} {l:List Int} (h:a=t\/b=t):∃(i:Int) (n:Nat),(C1 t (a::b::l) 0)[0]? =some i/\(0<=i/\i<=1)/\AZ (1-i) n/\(a::b::l)[n]? =some (if a=t then b else a):=by
 by_cases ha:a=t
 ·exact⟨0,1,by simp[C1,ha],AD,⟨AD⟩,by rw[if_pos ha];rfl⟩
 exact⟨1,0,by simp[C1,ha,h.resolve_left ha],AD,⟨AD⟩,by rw[if_neg ha];rfl⟩
def LC {a t:Int} {l:List Int} (h:Di (a::l) t=true):a=t\/Di l t=true:=by
 unfold Di at h ⊢;rw[List.any_cons,Bool.or_eq_true] at h;exact h.imp_left fun e=>by simpa using e
def in_1 {a t:Int} (h:Di [a] t=true):a=t:=(LC h).resolve_right nofun
section
variable {P:AG->Prop} {V:List Re} {w:AG} {cr:List (el Ae)} {AE:Int}
end
end
section
def vD {kd sd AE e:Int} {P C:List Int} {V:List Ex} {vl:LR} {AF:List Int} {cr:List (el Ae)} {c Fg g:Int} {x:el Ae} {b:Bool} (F:0<=c/\c<=1000000) (H:0<=AE/\AE<=1000000) (z:cr[(2*AE+c).toNat]? =some x) (u:CF 64 [.agg (cN x)] (AH g)) (hb:b= !(decide (c=Fg)||decide (0<g))):CF 63 [AH c,.one (.DM .i64 Fg 0),.one (.DM (.rf (.pr (.pr .i64 (.pr (.sl .i64) (.pr (.sl .i64) (.pr (.sl .ex) .i64)))) (.pr (.sl AJ) (.pr (.sl .i64) (.pr .i64 (.pr (.sl Ae) .i64)))))) (S5 kd P C V sd vl AF AE cr e) 0)] (.one (.bool b)):=by
 refine AL Tryz.func63 fun E o=>?_
 refine OK (fun A=>?_) fun A=>?_
 ·exact AO (by rw[hb,decide_eq_true (AA:c=Fg)];rfl)
 intro B m h n;refine⟨x,fun _=>⟨AA,(by rw[(AA:h.toNat=(2*AE+c).toNat)];exact z)⟩,?_⟩;try conv=>cbv
 refine AB o u ?_;intro D f;exact AO (by rw[hb,decide_eq_false (AA:¬c=Fg),f];by_cases q:0<g <;> simp[q] <;> omega)
end
section
section
variable {P:AG->Prop} {V:List Re} {w:AG} {cr:List (el Ae)} {AE:Int} {nc:Nat}
def FA.sg (H:FA P w cr AE nc) (F:Fl (Tf P) w):∃s:Int->Int,∀c:Int,0<=c/\c<(nc:Nat)->∃v,NF P w 20 (Hs cr AE c) v/\s c=Bv v/\CF 64 [.agg (cN (Hs cr AE c))] (AH (s c))/\CF 16 [.agg (cN (Hs cr AE c))] (AH (s c)):=by
 have h:∀c:Int,∃s:Int,0<=c/\c<(nc:Nat)->∃v,NF P w 20 (Hs cr AE c) v/\s=Bv v/\CF 64 [.agg (cN (Hs cr AE c))] (AH s)/\CF 16 [.agg (cN (Hs cr AE c))] (AH s):=fun c=>by
  by_cases f:0<=c/\c<(nc:Nat)
  ·obtain⟨v,g⟩:=H.D9 f;obtain⟨s,e,c1,c2⟩:=Gw F g;exact⟨s,fun _=>⟨v,g,e,c1,c2⟩⟩
  exact⟨0,fun h=>absurd h f⟩
 exact⟨fun c=>(h c).choose,fun c=>(h c).choose_spec⟩
end
def En (C:AV->Prop) (e:Int):Prop:=∃T A,C (BK [Ao T,AT A] e)
def sE (g:Int):Int:=if g=0 then 6 else if g<0 then 7 else 0
section
variable {TT:AG->Prop} {w:AG} {R b c M q p k l:Nat}
end
section
variable {P:AG->Prop} {V:List Re} {w:AG} {cr:List (el Ae)} {AE:Int}
def aU {ns:List Nu} {V:List Re} {w:AG} (L:Pl (PN (KP ns)) V w) (m:∀n∈ns,DA V n) {kd sd AE:Int} {Q C:List Int} {X:List Ex} {vl:LR} {AF:List Int} {W:List UInt8} (h:ON ns kd sd AE Q C X vl AF W):FA (PN (KP ns)) w ((HN ns AE W W.length).map nm) AE AF.length:=by
 have A:=h.len;have F:=L.fl WH;refine⟨by rw[List.length_map,VL];exact A,⟨⟨h.p0,h.p8⟩,h.c3⟩,fun i x o=>?_⟩;have u:i<W.length:=by have:=EX o;rwa [List.length_map,VL] at this
 have g:=List.getElem?_eq_getElem u
 have e:x=nm (Kx ns AE W i):=by
  rw[List.getElem?_map,HN,List.getElem?_map,List.getElem?_range u] at o;exact (Option.some.inj o).symm
 have z:=tM L m (.inl (Rx h.ne (W[i]).toNat)) (by rw[tw,List.length_map,List.length_reverse];exact h.low i _ g) (b:=2100) (k:=20) AD;subst e
 by_cases f:(i:Int)<2*AE
 ·rw[aV g f];exact⟨_,z⟩
 rw[Ov g f];unfold Mc
 split
 ·exact⟨_,(JB F AD (Gm (by decide +kernel))).mono AD⟩
 exact⟨_,tL z (L.hw.red L.I)⟩
end
end
section
abbrev Mo:Type:=Rat×List Int
noncomputable def Ds (ρ:Int->Re):List Int->Re
 | []=>1
 | i::v=>ρ i*Ds ρ v
noncomputable def BS (ρ:Int->Re):List Mo->Re
 | []=>0
 | m::p=>Re.ofRat m.1*Ds ρ m.2+BS ρ p
section
variable {ρ:Int->Re}
def bU:∀(a b:List Int),Ds ρ (a++b)=Ds ρ a*Ds ρ b
 | [],b=>by show Ds ρ b=1*Ds ρ b;grind
 | i::a,b=>by show ρ i*Ds ρ (a++b)=ρ i*Ds ρ a*Ds ρ b;rw[bU a b];grind
def bV {a b:List Int} (h:a.Perm b):Ds ρ a=Ds ρ b:=by
 induction h with
 | nil=>rfl
 | cons x _ m=>show ρ x*_=ρ x*_;rw[m]
 | swap x y l=>show ρ y*(ρ x*_)=ρ x*(ρ y*_);grind
 | trans _ _ f g=>exact f.trans g
def NM:∀(a b:List Mo),BS ρ (a++b)=BS ρ a+BS ρ b
 | [],b=>by show BS ρ b=0+BS ρ b;grind
 | m::a,b=>by show _+BS ρ (a++b)=_+BS ρ a+BS ρ b;rw[NM a b];grind
def IU (m:Mo) (p:List Mo):BS ρ (m::p)=Re.ofRat m.1*Ds ρ m.2+BS ρ p:=rfl
def bQ (m:Mo):BS ρ [m]=Re.ofRat m.1*Ds ρ m.2:=by rw[IU];show _+0=_;grind
def bL (p:List Mo) (k:Nat):BS ρ p=BS ρ (p.take k)+BS ρ (p.drop k):=by rw[<-NM,List.take_append_drop]
def pq {p:List Mo} {k:Nat} {c d:Rat} {v:List Int} (h:p[k]? =some (c,v)):BS ρ (p.set k (c+d,v))=BS ρ p+Re.ofRat d*Ds ρ v:=by
 have g:k<p.length:=by
  rcases Nat.lt_or_ge k p.length with f | f
  ·exact f
  rw[List.getElem?_eq_none f] at h;cases h
 have m:p[k]=(c,v):=Option.some.inj ((List.getElem?_eq_getElem g).symm.trans h);rw[List.set_eq_take_append_cons_drop,if_pos g,NM,IU,bL p k,List.drop_eq_getElem_cons g,IU,m]
 show _+(Re.ofRat (c+d)*Ds ρ v+_)=_+(Re.ofRat c*Ds ρ v+_)+_
 rw[Re.ofRat_add];grind
def pn (p:List Mo) (k:Nat) (m:Mo):BS ρ (p.take k++m::p.drop k)=BS ρ p+Re.ofRat m.1*Ds ρ m.2:=by
 rw[NM,IU,bL p k];grind
def bO:∀(p:List Mo),BS ρ (p.filter fun m=>decide (m.1≠0))=BS ρ p
 | []=>rfl
 | m::p=>by
  rw[List.filter_cons,IU,<-bO p]
  by_cases h:m.1=0
  ·rw[if_neg (by simp[h]),h];have:Re.ofRat 0=0:=rfl;rw[this];grind
  rw[if_pos (by simp[h]),IU]
def bT (c:Rat):∀(p:List Mo),BS ρ (p.map fun m=>(m.1*c,m.2))=BS ρ p*Re.ofRat c
 | []=>by show (0:Re)=0*_;grind
 | m::p=>by
  rw[List.map_cons,IU,IU,bT c p]
  show Re.ofRat (m.1*c)*_+_=_
  rw[Re.ofRat_mul];grind
def bR (m:Mo):∀(q:List Mo),BS ρ (q.map fun n=>(m.1*n.1,m.2++n.2))=Re.ofRat m.1*Ds ρ m.2*BS ρ q
 | []=>by show (0:Re)=_*0;grind
 | n::q=>by
  rw[List.map_cons,IU,IU,bR m q]
  show Re.ofRat (m.1*n.1)*Ds ρ (m.2++n.2)+_=_
  rw[Re.ofRat_mul,bU];grind
def bP:∀(p q:List Mo),BS ρ (p.flatMap fun m=>q.map fun n=>(m.1*n.1,m.2++n.2))=BS ρ p*BS ρ q
 | [],q=>by show (0:Re)=0*_;grind
 | m::p,q=>by rw[List.flatMap_cons,NM,bR,bP p q,IU];grind
end
def CB (b:Nat) (p:List Mo):Prop:=∀m∈p,Bd b [m.1]
structure PB (n d b:Nat) (p:List Mo):Prop where
 len:p.length<=n
 Fh:∀m∈p,m.2.length<=d
 cb:CB b p
def uj {a b:Nat} {p q:Rat} (h:Bd a [p]) (k:Bd b [q]):Bd (a+b+1) [p+q]:=by
 have:=Um gC (G8 p []) (G8 q []) (by rw[D5];exact h) (by rw[D5];exact k);rw[<-Re.ofRat_add,D5] at this;exact this
def Ss {a b:Nat} {p q:Rat} (h:Bd a [p]) (k:Bd b [q]):Bd (a+b) [p*q]:=by
 have:=Zq (R:=0) gC (fun r h=>by simp at h) (G8 p []) (G8 q []) (by rw[D5];exact h) (by rw[D5];exact k);rw[<-Re.ofRat_mul,D5] at this;exact this
def Su {a:Nat} {p:Rat} (h:Bd a [p]) (ha:a<=60000000000000):Ch p:=h.Cy ha p (List.mem_singleton.2 rfl)
end
end Go.Abs
