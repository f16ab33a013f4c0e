/- Part 17 of a proof. Conditions: each theorem's own. -/
import Derived.Test.YtajccafjojgleaaGreatDoorRa15
set_option linter.all false
set_option maxHeartbeats 80000000
set_option maxRecDepth 20000
open Go.Proofs
namespace Go.Abs
open Go.RowKit
section
def Fv (f:FuncId) (i:Int) (cs:List AC) (kd:Int) (P C:List Int) (V:List Ex) (sd:Int) (vl:LR) (AJ:List Int) (AI:Int) (cr:List (el AY)):Prop:=
 ∀e:Int,CI Tryz.prog f [CT,AH i] (.var 0 (Be kd P C V sd vl AJ AI cr e)) (.agg cs) (.var 0 (Be kd P C V sd vl AJ AI cr e))
end
section
abbrev PrI (i j:Int):Prop:=(i=0/\j=1)\/(i=1/\j=0)\/(i=2/\j=3)\/(i=3/\j=2)
end
section
end
section
variable {Al Am An Ar Ax Ay Az vl:LR} {C P AJ:List Int} {Tl Tm Tn Tr Tx Ty Tz:List LR} {V:List Ex} {a b:el K7} {cr:List (el AY)} {i j kd AI s sd t x:Int} {r0:el AY}
theorem cU {Ta Tb Tc Td:List LR} {Aa Ab Ac Ad:LR} (h:CF 130 [.agg (Bl Tc Ac Td Ad),.agg (Bl Ta Aa Tb Ab)] (BY (Bl Tx Ax Ty Ay) 0)) (g:CF 122 [.agg (Bl Tx Ax Ty Ay)] (BY (AZ Tz Az) 0)) (hR:CF 59 [.agg (AZ Tz Az)] (BY (AZ Tr Ar) 0)):CI Tryz.prog 58 [.agg (Bl Ta Aa Tb Ab),.agg (Bl Tc Ac Td Ad),.one (.IN (0,0,0))] (.var 0 (Be kd P C V sd vl AJ AI cr 0)) (.agg (AZ Tr Ar)) (.var 0 (Be kd P C V sd vl AJ AI cr 0)):=by
 refine DV Tryz.func58 (by kernel_rfl) rfl fun E f=>?_
 conv=>cbv
 refine Da rfl (CL f (p6 (e:=0) (e1:=0) (e2:=0) (by simp) (by simp) h g)) Ao ?_
 refine AB f hR ?_;refine Da rfl (CL f (OH (e:=0) (e1:=0) (f1:=0) (by simp))) Ao ?_
 refine Ao
theorem qK (f:Fv 62 0 (cN r0) 14 P C V sd vl AJ AI cr):CI Tryz.prog 24 [CT,AH i] (.var 0 (Be 14 P C V sd vl AJ AI cr 0)) (.agg (cN r0)) (.var 0 (Be 14 P C V sd vl AJ AI cr 0)):=by
 refine DV Tryz.func24 (by kernel_rfl) rfl fun E g=>?_
 conv=>cbv
 refine .inr ?_;refine DJ ?_;refine Da rfl (CL g (f 0)) Ao ?_
 refine Ao
theorem qL (B:j=1-i) (z:0<=i/\i<=1) (f:Fv 63 j (cN r0) 15 P C V sd vl AJ AI cr):CI Tryz.prog 24 [CT,AH i] (.var 0 (Be 15 P C V sd vl AJ AI cr 0)) (.agg (cN r0)) (.var 0 (Be 15 P C V sd vl AJ AI cr 0)):=by
 refine DV Tryz.func24 (by kernel_rfl) rfl fun E u=>?_
 conv=>cbv
 refine .inr ?_;refine BM ?_;refine DJ ?_;intro g h;obtain rfl:j=g:=AA
 refine Da rfl (CL u (f 0)) Ao ?_
 refine Ao
theorem qJ (ha:Fv 64 0 (cV a) 13 P C V sd vl AJ AI cr) (hb:Fv 65 0 (cV b) 13 P C V sd vl AJ AI cr) (h:CF 130 [.agg (cV b),.agg (cV a)] (BY (Bl Tx Ax Ty Ay) 0)) (g:CF 122 [.agg (Bl Tx Ax Ty Ay)] (BY (AZ Tz Az) 0)) (hR:CF 59 [.agg (AZ Tz Az)] (BY (AZ Tr Ar) 0)):CI Tryz.prog 24 [CT,AH i] (.var 0 (Be 13 P C V sd vl AJ AI cr 0)) (.agg (AZ Tr Ar)) (.var 0 (Be 13 P C V sd vl AJ AI cr 0)):=by
 refine DV Tryz.func24 (by kernel_rfl) rfl fun E f=>?_
 conv=>cbv
 refine .inr ?_;refine BM ?_;refine BM ?_;refine DJ ?_;refine Da rfl (CL f (ha 0)) Ao ?_
 refine Da rfl (CL f (hb 0)) Ao ?_
 refine .inr (.inr (.inr (.inr (.inr (.inr (.inl ⟨0,.var 0 (Be 13 P C V sd vl AJ AI cr 0),[.agg (cV a),.agg (cV b),.one (.IN (0,0,0))],.agg [BP Tr,Au Ar],.var 0 (Be 13 P C V sd vl AJ AI cr 0),fun _=>⟨rfl,⟨t4,t4,.inr ⟨⟨AE,rfl⟩,0,rfl,rfl⟩,trivial⟩⟩,fun _=>CL f (cU h g hR),?_⟩))))));try conv=>cbv
 refine Bn ?_;refine Ao
theorem qO (ha:Fv 64 0 (cV a) 17 P C V sd vl AJ AI cr) (hb:Fv 64 1 (cV b) 17 P C V sd vl AJ AI cr) {z:List LR} {u:LR} (G:CF 130 [.agg (cV b),.agg (cV a)] (BY (Bl Tx Ax Ty Ay) 0)) (F:CF 122 [.agg (Bl Tx Ax Ty Ay)] (BY (AZ Tz Az) 0)) (hR:CF 59 [.agg (AZ Tz Az)] (BY (AZ Tr Ar) 0)) (I:j=1-i) (H:0<=i/\i<=1) (g:Fv 63 j (cN r0) 17 P C V sd vl AJ AI cr) (D:CF 71 [.agg (AZ Tr Ar),.agg (cN r0)] (BY (AZ z u) 0)):CI Tryz.prog 24 [CT,AH i] (.var 0 (Be 17 P C V sd vl AJ AI cr 0)) (.agg (AZ z u)) (.var 0 (Be 17 P C V sd vl AJ AI cr 0)):=by
 refine DV Tryz.func24 (by kernel_rfl) rfl fun E f=>?_
 conv=>cbv
 refine .inr ?_;refine BM ?_;refine BM ?_;refine BM ?_;refine BM ?_;refine Da rfl (CL f (ha 0)) Ao ?_
 refine Da rfl (CL f (hb 0)) Ao ?_
 refine .inr (.inr (.inr (.inr (.inr (.inr (.inl ⟨0,.var 0 (Be 17 P C V sd vl AJ AI cr 0),[.agg (cV a),.agg (cV b),.one (.IN (0,0,0))],.agg [BP Tr,Au Ar],.var 0 (Be 17 P C V sd vl AJ AI cr 0),fun _=>⟨rfl,⟨t4,t4,.inr ⟨⟨AE,rfl⟩,0,rfl,rfl⟩,trivial⟩⟩,fun _=>CL f (cU G F hR),?_⟩))))));refine AK ?_;intro h B;obtain rfl:j=h:=AA
 refine Da rfl (CL f (g 0)) Ao ?_
 refine Da rfl (CL f (cW D)) Ao ?_
 refine Ao
theorem qN (ha:Fv 65 0 (cV a) 16 P C V sd vl AJ AI cr) (hb:Fv 65 1 (cV b) 16 P C V sd vl AJ AI cr) {f1:Int} (hf:f1≠0) (u:CF 66 [.agg (cV a),.agg (cV b)] (BY (GH Tl Al Tm Am Tn An) f1)) (h:CF 68 [AH 0] (.agg (AZ Tz Az))):CI Tryz.prog 24 [CT,AH i] (.var 0 (Be 16 P C V sd vl AJ AI cr 0)) (.agg (AZ Tz Az)) (.var 0 (Be 16 P C V sd vl AJ AI cr f1)):=by
 refine DV Tryz.func24 (by kernel_rfl) rfl fun E f=>?_
 conv=>cbv
 refine .inr ?_;refine BM ?_;refine BM ?_;refine BM ?_;refine DJ ?_;refine Da rfl (CL f (ha 0)) Ao ?_
 refine Da rfl (CL f (hb 0)) Ao ?_
 refine AB f u ?_;refine Da rfl (CL f (cT (e:=0) (e1:=f1) (f1:=f1) (by simp))) Ao ?_
 refine OT (fun g=>?_) fun g=>?_
 ·exact absurd g hf
 refine AB f h ?_;refine Ao
theorem qM (ha:Fv 65 0 (cV a) 16 P C V sd vl AJ AI cr) (hb:Fv 65 1 (cV b) 16 P C V sd vl AJ AI cr) (h:CF 66 [.agg (cV a),.agg (cV b)] (BY (GH Tl Al Tm Am Tn An) 0)) {c:el K7} (u:Fv 64 0 (cV c) 16 P C V sd vl AJ AI cr) (g:CF 69 [.agg (GH Tl Al Tm Am Tn An),.agg (cV c)] (BY (AZ Tz Az) 0)) (hR:CF 59 [.agg (AZ Tz Az)] (BY (AZ Tr Ar) 0)):CI Tryz.prog 24 [CT,AH i] (.var 0 (Be 16 P C V sd vl AJ AI cr 0)) (.agg (AZ Tr Ar)) (.var 0 (Be 16 P C V sd vl AJ AI cr 0)):=by
 refine DV Tryz.func24 (by kernel_rfl) rfl fun E f=>?_
 conv=>cbv
 refine .inr ?_;refine BM ?_;refine BM ?_;refine BM ?_;refine DJ ?_;refine Da rfl (CL f (ha 0)) Ao ?_
 refine Da rfl (CL f (hb 0)) Ao ?_
 refine AB f h ?_;refine Da rfl (CL f (cT (e:=0) (e1:=0) (f1:=0) (by simp))) Ao ?_
 refine BM ?_;refine Da rfl (CL f (u 0)) Ao ?_
 refine AB f g ?_;refine Da rfl (CL f (OH (e:=0) (e1:=0) (f1:=0) (by simp))) Ao ?_
 refine BM ?_;refine AB f hR ?_;refine Da rfl (CL f (OH (e:=0) (e1:=0) (f1:=0) (by simp))) Ao ?_
 refine Ao
theorem qH (g:CF 22 [.agg (cC kd P C V sd),.one (.sl .i64 AJ),AH t] (.one (.bool false))):CF 6 (L6 kd P C V sd vl AJ AI t cr) (BY (AZ [] []) 1):=by
 refine AM Tryz.func6 fun E f=>?_
 refine AB f g ?_;refine DJ ?_;exact AN Ao
theorem qG (g:CF 22 [.agg (cC kd P C V sd),.one (.sl .i64 AJ),AH t] (.one (.bool true))) (hR:CI Tryz.prog 23 [CT,AH t] (.var 0 (Be kd P C V sd vl AJ AI cr 0)) (.one (.bool false)) (.var 0 (Be kd P C V sd vl AJ AI cr 0))):CF 6 (L6 kd P C V sd vl AJ AI t cr) (BY (AZ [] []) 1):=by
 refine AM Tryz.func6 fun E f=>?_
 refine AB f g ?_;refine BM ?_;refine FG 22 rfl (CL f (hR)) Ao ?_;try conv=>cbv
 refine DJ ?_;exact AN Ao
theorem qD (h:CF 22 [.agg (cC kd P C V sd),.one (.sl .i64 AJ),AH t] (.one (.bool true))) (hR:CI Tryz.prog 23 [CT,AH t] (.var 0 (Be kd P C V sd vl AJ AI cr 0)) (.one (.bool true)) (.var 0 (Be kd P C V sd vl AJ AI cr 0))) (u:CF 25 [.one (.sl .i64 C),AH t] (AH x)) {e1:Int} (he:e1≠0) (z:CI Tryz.prog 24 [CT,AH x] (.var 0 (Be kd P C V sd vl AJ AI cr 0)) (.agg (AZ Tr Ar)) (.var 0 (Be kd P C V sd vl AJ AI cr e1))):CF 6 (L6 kd P C V sd vl AJ AI t cr) (BY (AZ [] []) e1):=by
 refine AM Tryz.func6 fun E g=>?_
 refine AB g h ?_;refine BM ?_;refine FG 22 rfl (CL g (hR)) Ao ?_;try conv=>cbv
 refine BM ?_;refine AB g u ?_;refine FG 22 rfl (CL g (z)) Ao ?_;try conv=>cbv
 refine OT (fun f=>?_) fun f=>?_
 ·exact absurd f he
 exact AN Ao
theorem qC (u:CF 22 [.agg (cC kd P C V sd),.one (.sl .i64 AJ),AH t] (.one (.bool true))) (hR:CI Tryz.prog 23 [CT,AH t] (.var 0 (Be kd P C V sd vl AJ AI cr 0)) (.one (.bool true)) (.var 0 (Be kd P C V sd vl AJ AI cr 0))) (z:CF 25 [.one (.sl .i64 C),AH t] (AH x)) (B:CI Tryz.prog 24 [CT,AH x] (.var 0 (Be kd P C V sd vl AJ AI cr 0)) (.agg (AZ Tr Ar)) (.var 0 (Be kd P C V sd vl AJ AI cr 0))) (h:CF 26 [.agg (AZ Tr Ar)] (AH s)) (D:s=0):CF 6 (L6 kd P C V sd vl AJ AI t cr) (BY (AZ [] []) 6):=by
 refine AM Tryz.func6 fun E f=>?_
 refine AB f u ?_;refine BM ?_;refine FG 22 rfl (CL f (hR)) Ao ?_;try conv=>cbv
 refine BM ?_;refine AB f z ?_;refine FG 22 rfl (CL f (B)) Ao ?_;try conv=>cbv
 refine BM ?_;refine AB f h ?_;refine .inr ?_;refine CN (fun g=>?_) fun g=>?_
 ·exact absurd D g
 exact AN Ao
theorem qE (z:CF 22 [.agg (cC kd P C V sd),.one (.sl .i64 AJ),AH t] (.one (.bool true))) (hR:CI Tryz.prog 23 [CT,AH t] (.var 0 (Be kd P C V sd vl AJ AI cr 0)) (.one (.bool true)) (.var 0 (Be kd P C V sd vl AJ AI cr 0))) (B:CF 25 [.one (.sl .i64 C),AH t] (AH x)) (D:CI Tryz.prog 24 [CT,AH x] (.var 0 (Be kd P C V sd vl AJ AI cr 0)) (.agg (AZ Tr Ar)) (.var 0 (Be kd P C V sd vl AJ AI cr 0))) (u:CF 26 [.agg (AZ Tr Ar)] (AH s)) (F:s= -1):CF 6 (L6 kd P C V sd vl AJ AI t cr) (BY (AZ [] []) 7):=by
 refine AM Tryz.func6 fun E f=>?_
 refine AB f z ?_;refine BM ?_;refine FG 22 rfl (CL f (hR)) Ao ?_;try conv=>cbv
 refine BM ?_;refine AB f B ?_;refine FG 22 rfl (CL f (D)) Ao ?_;try conv=>cbv
 refine BM ?_;refine AB f u ?_;refine .inr ?_;refine BS (fun g=>?_) fun g=>?_
 ·exact absurd g AA
 refine CN (fun h=>?_) fun h=>?_
 ·exact absurd F h
 exact AN Ao
theorem qF (I:CF 22 [.agg (cC kd P C V sd),.one (.sl .i64 AJ),AH t] (.one (.bool true))) (hR:CI Tryz.prog 23 [CT,AH t] (.var 0 (Be kd P C V sd vl AJ AI cr 0)) (.one (.bool true)) (.var 0 (Be kd P C V sd vl AJ AI cr 0))) (J:CF 25 [.one (.sl .i64 C),AH t] (AH x)) {B D:List LR} {u z:LR} (K:CI Tryz.prog 24 [CT,AH x] (.var 0 (Be kd P C V sd vl AJ AI cr 0)) (.agg (AZ Tr Ar)) (.var 0 (Be kd P C V sd vl AJ AI cr 0))) (F:CF 26 [.agg (AZ Tr Ar)] (AH s)) (L:s=1) (G:CF 27 [.agg (AZ Tr Ar)] (.agg (AZ B u))) (H:CF 27 [.agg (AZ B u)] (.agg (AZ D z))):CF 6 (L6 kd P C V sd vl AJ AI t cr) (BY (AZ D z) 0):=by
 refine AM Tryz.func6 fun E f=>?_
 refine AB f I ?_;refine BM ?_;refine FG 22 rfl (CL f (hR)) Ao ?_;try conv=>cbv
 refine BM ?_;refine AB f J ?_;refine FG 22 rfl (CL f (K)) Ao ?_;try conv=>cbv
 refine BM ?_;refine AB f F ?_;refine .inr ?_;refine BS (fun g=>?_) fun g=>?_
 ·exact absurd g AA
 refine BS (fun h=>?_) fun h=>?_
 ·exact absurd h AA
 refine AB f G ?_;refine AB f H ?_;exact AN ⟨t3,t2,trivial⟩
end
section
variable {A1 A2 A3 A4:LR} {M R b c d k k' l l' p q:Nat} {T1 T2 T3 T4:List LR} {TT:AD->Prop} {w:AD} {x1 x2 y1 y2:Re}
theorem kU (F:Fm TT w R b c M q p) (hp:Vm TT w b k k' T1 A1 T2 A2 x1 y1) (g:Vm TT w b l l' T3 A3 T4 A4 x2 y2) (I:q*l+p<=d) (a1:q*l'+p<=d) (hi:d+c+1<=M) (h1:k+k'+l+l'+c+4<=M) (h:x2≠0):∃T A L K z u,JD TT w b (l'+d+1) (k+k'+l+l'+d+4) T A L K z u (un x2) (y2*Bm (fs x2 y2)) ((x1*x2+y1*y2)*Bm (fs x2 y2))/\Dn Tryz.prog 127 [CT,.agg (Bl T1 A1 T2 A2),.agg (Bl T3 A3 T4 A4)] (.var 0 [.int .i64 0]) (BY (GH T A L K z u) 0):=by
 obtain⟨T5,A5,Z,O⟩:=RG F hp g;obtain⟨a2,D,H,_⟩:=MD F g.x;obtain⟨T6,A6,h6,U,_⟩:=Jp F g.x g.x I h;obtain⟨T7,A7,h7,W,_⟩:=Jp F g.y g.x I h;obtain⟨T8,A8,h8,Y,_⟩:=Jp F Z g.x I h;rw[TE h,VZ h];refine⟨T6,A6,T7,A7,T8,A8,⟨(aA F AA (r:=1) (by decide +kernel) h6 (F0 h)),h7.mono AA,h8.mono AA⟩,?_⟩;refine Fx Tryz.func127 fun E f=>?_
 conv=>cbv
 refine AB f O ?_;refine Fc 0 0 f GV ?_;refine AB f H ?_;intro J B;refine .inr ?_;cases J <;> conv=>cbv
 ·have G:=Bu B;refine AB f U ?_;refine Fc 0 0 f GV ?_;refine AB f W ?_;refine Fc 0 0 f GV ?_;refine AB f Y ?_;refine Fc 0 0 f GV ?_;refine BM ?_;refine Ao
 have G:=Bv B;exact absurd (K4.1 (D.symm.trans G)) h
theorem kT (F:Fm TT w R b c M q p) (hp:Vm TT w b k k' T1 A1 T2 A2 x1 y1) (h:Vm TT w b l l' T3 A3 T4 A4 x2 y2) (hd:q*l+p<=d) (g:q*l'+p<=d) (hi:d+c+1<=M) (h1:k+k'+l+l'+c+4<=M) (H:x2=0) (J:y2≠0):∃T A O L z u,JD TT w b (l'+d+1) (k+k'+l+l'+d+4) T A O L z u (un x2) (y2*Bm (fs x2 y2)) ((x1*x2+y1*y2)*Bm (fs x2 y2))/\Dn Tryz.prog 127 [CT,.agg (Bl T1 A1 T2 A2),.agg (Bl T3 A3 T4 A4)] (.var 0 [.int .i64 0]) (BY (GH T A O L z u) 0):=by
 obtain⟨T5,A5,h5,U⟩:=RG F hp h;obtain⟨a1,D,I,_⟩:=MD F h.x;obtain⟨T6,A6,h6,W,_⟩:=Jp F h.x h.y g J;obtain⟨T7,A7,h7,Y,_⟩:=Jp F h.y h.y g J;obtain⟨T8,A8,h8,Z,_⟩:=Jp F h5 h.y g J;rw[TD H,VY H];refine⟨T6,A6,T7,A7,T8,A8,⟨(aA F AA (r:=0) (by decide +kernel) h6 (show _=(0:Re) by rw[H];grind)),h7.mono AA,h8.mono AA⟩,?_⟩;refine Fx Tryz.func127 fun E f=>?_
 conv=>cbv
 refine AB f U ?_;refine Fc 0 0 f GV ?_;refine AB f I ?_;intro K B;refine .inr ?_;cases K <;> conv=>cbv
 ·have G:=Bu B;exact absurd (D.trans (by rw[H];exact G0)) G
 have G:=Bv B;refine AB f W ?_;refine Fc 0 0 f GV ?_;refine AB f Y ?_;refine Fc 0 0 f GV ?_;refine AB f Z ?_;refine Fc 0 0 f GV ?_;refine BM ?_;refine Ao
theorem kS (F:Fm TT w R b c M q p) (J:Vm TT w b k k' T1 A1 T2 A2 x1 y1) (I:Vm TT w b l l' T3 A3 T4 A4 x2 y2) (G:q*l+p<=d) (h:q*l'+p<=d) (H:d+c+1<=M) (D:k+k'+l+l'+c+4<=M) (K:¬(x2=0/\y2=0)):∃T A B z g f,JD TT w b (l'+d+1) (k+k'+l+l'+d+4) T A B z g f (un x2) (y2*Bm (fs x2 y2)) ((x1*x2+y1*y2)*Bm (fs x2 y2))/\Dn Tryz.prog 127 [CT,.agg (Bl T1 A1 T2 A2),.agg (Bl T3 A3 T4 A4)] (.var 0 [.int .i64 0]) (BY (GH T A B z g f) 0):=by
 by_cases u:x2=0
 ·exact kT F J I G h H D u fun e=>K ⟨u,e⟩
 exact kU F J I G h H D u
theorem nB (F:Fm TT w R b c M q p) (f:Vm TT w b k k' T1 A1 T2 A2 x1 y1) (z:k+c+1<=M) (B:k'+c+1<=M):∃A,Vm TT w b k' k T2 A2 T1 A y1 (-x1)/\CF 128 [.agg (Bl T1 A1 T2 A2)] (.agg (Bl T2 A2 T1 A)):=by
 obtain⟨A5,h,g,_⟩:=QY F f.x z;refine⟨A5,⟨f.y,h⟩,?_⟩;refine AM Tryz.func128 fun E u=>?_
 refine AB u g ?_;exact AN Ao
theorem nD (F:Fm TT w R b c M q p) (K:Vm TT w b k k' T1 A1 T2 A2 x1 y1) (W:Vm TT w b l l' T3 A3 T4 A4 x2 y2) (hk:2*k+4*c+3<=M) (I:2*k'+4*c+3<=M) (hl:2*l+4*c+3<=M) (J:2*l'+4*c+3<=M) (U:¬(x1=x2/\y1=y2)) (hd:q*(l+k+1)+p<=d) (H:q*(l'+k'+1)+p<=d) (hi:d+c+1<=M) (h1:2*k+2*k'+l+l'+c+6<=M):∃T A O L g f,JD TT w b (l+k+d+2) (2*k+2*k'+l+l'+d+6) T A O L g f (un (y2-y1)) (-(x2-x1)*Bm (fs (y2-y1) (-(x2-x1)))) ((x1*(y2-y1)+y1* -(x2-x1))*Bm (fs (y2-y1) (-(x2-x1))))/\CF 66 [.agg (Bl T1 A1 T2 A2),.agg (Bl T3 A3 T4 A4)] (BY (GH T A O L g f) 0):=by
 obtain⟨T5,A5,T6,A6,h5,Y⟩:=Mg F W K;obtain⟨A7,h7,Z⟩:=nB F h5 AA AA;obtain⟨T8,A8,T9,A9,D,B,G,c8⟩:=kS F K h7 H hd hi AA (fun h=>U ⟨by grind,by grind⟩);refine⟨T8,A8,T9,A9,D,B,⟨G.x,G.y.mono AA,G.z.mono AA⟩,?_⟩;refine AM Tryz.func66 fun E u=>?_
 refine AB (r:= .one (.bool false)) u (eV F K W hk I hl J (e:=false) ⟨fun h=>(by cases h),fun h=>absurd h U⟩) ?_;refine AB u Y ?_;refine Fc 12 1 u NV ?_;refine AB u Z ?_;refine Fc 12 1 u c8 ?_;exact AN Ao
theorem nE (F:Fm TT w R b c M q p) (D:Vm TT w b k k' T1 A1 T2 A2 x1 y1) (G:Vm TT w b l l' T3 A3 T4 A4 x2 y2) (z:2*k+4*c+3<=M) (f:2*k'+4*c+3<=M) (B:2*l+4*c+3<=M) (g:2*l'+4*c+3<=M) (h:x1=x2/\y1=y2):CF 66 [.agg (Bl T1 A1 T2 A2),.agg (Bl T3 A3 T4 A4)] (BY (GH [] [] [] [] [] []) 11):=by
 refine AM Tryz.func66 fun E u=>?_
 refine AB u (eV F D G z f B g (e:=true) ⟨fun _=>h,fun _=>rfl⟩) ?_;exact AN Ao
end
section
noncomputable def eIf (c:Prop) (n:Int):Int:=open Classical in if c then n else 0
def Er (C:AV->Prop) (e:Int):Prop:=∃k t a,C (lcR k t a e)
def Dt (k:Int) (t:Nat->KH) (a:Nat->KI):Prop:=CF 50 [.agg (QA k t a)] (.agg (QA k t a))
def Wr (W:List AC->Int->Prop) (e:Int):Prop:=∃k t a,W (QA k t a) e/\(e=0->Dt k t a)
def Bo (C:AV->Prop) (W:List AC->Int->Prop):Prop:=∃e,Er C e/\Wr W e
section
variable {P:AD->Prop} {V:List Re} {w:AD}
end
end
section
abbrev WS (kd:Int) (Q C:List Int) (X:List Ex) (sd:Int) (vl:LR) (AJ:List Int) (AI:Int) (cr:List (el AY)) (f:FuncId) (args:List AV) (l:List AC) (e:Int):Prop:=
 CI Tryz.prog f (CT::args) (.var 0 (Be kd Q C X sd vl AJ AI cr 0)) (.agg l) (.var 0 (Be kd Q C X sd vl AJ AI cr e))
abbrev cLn (l m n:el AY):List AC:=[.sl (.sl AG) l.1,.sl AG l.2,.sl (.sl AG) m.1,.sl AG m.2,.sl (.sl AG) n.1,.sl AG n.2]
theorem BV.pos {q:Rat} {b1 b2:Bool} {l1 l2:List UInt32} (h:BV q b1 l1 b2 l2) (hb:b1=false) (f:l1.length≠0):0<q:=(Rat.lt_iff _ _).2 (by
 have s:=h.num.Ep;have n:=mt h.num.F1.2 f;rw[hb] at s;simp at s
 show (0:Int)*_<q.num*((1:Nat):Int)
 omega)
section
variable {P:AD->Prop} {V:List Re} {w:AD} {cr:List (el AY)} {AI:Int} {nc:Nat}
theorem FD.UB (H:FD P w cr AI nc) {kd sd:Int} {Q C:List Int} {X:List Ex} {vl:LR} {AJ:List Int} {i p:Int} {i0:Nat} (g:AR i i0) (f:Q[i0]? =some p) (u:0<=p/\p<AI):Fv 65 i (cV (Ug cr p)) kd Q C X sd vl AJ AI cr:=fun e=>by
 have h:=H.len;have hb:=H.b;exact cY g (p0:=p.toNat) ⟨AA⟩ AA (getD_some AA) (getD_some AA) f
theorem FD.QM (H:FD P w cr AI nc) {kd sd:Int} {Q C:List Int} {X:List Ex} {vl:LR} {AJ:List Int} {i c p:Int} {i0:Nat} (h:AR i i0) (f:C[i0]? =some c) (g:0<=c) (u:AJ[c.toNat]? =some p) (B:0<=p/\p<AI):Fv 64 i (cV (Ug cr p)) kd Q C X sd vl AJ AI cr:=fun e=>by
 have z:=H.len;have hb:=H.b;exact p4 h (p0:=p.toNat) ⟨AA⟩ AA (getD_some AA) (getD_some AA) f g u
theorem FD.Z0 (H:FD P w cr AI nc) {kd sd:Int} {Q C:List Int} {X:List Ex} {vl:LR} {AJ:List Int} {i c:Int} {i0:Nat} (h:AR i i0) (f:C[i0]? =some c) (g:0<=c/\c<(nc:Nat)):Fv 63 i (cN (HJ cr AI c)) kd Q C X sd vl AJ AI cr:=fun e=>by
 have hb:=H.b;exact qA h f ⟨AA,AA⟩ ⟨AA,AA⟩ (H.rd g)
theorem VD {rv:Int} {l:LR} (h:EO rv l) {i:Nat} {v:el AG} (z:l[i]? =some v):∃q,BV q v.1.1 v.1.2 v.2.1 v.2.2/\Ct q/\[v]=em [] (Re.ofRat q)/\(rv=2->0<q):=by
 obtain⟨u,B,h3,_,g⟩:=h v (List.mem_of_getElem? z);obtain⟨q,f⟩:=Mh.1 u;exact⟨q,f,(I4 f).2 ⟨AA,AA⟩,by rw[Ds,f.rp],fun e=>f.pos (g e).1 (g e).2⟩
theorem ru (F:Fl (Tf P) w) {rv:Int} {l:LR} (h:EO rv l) {i:Int} {i0:Nat} {v:el AG} (u:AR i i0) (g:l[i0]? =some v):∃x,NF P w 1 (([],[v]):el AY) x/\(rv=2->0<x)/\∀kd Q C X sd AJ,Fv 62 i (cN (([],[v]):el AY)) kd Q C X sd l AJ AI cr:=by
 obtain⟨q,B,f,he,z⟩:=VD h g;have:=MA F AE (Ha f);rw[<-he] at this;exact⟨_,this,fun e=>Re.IJ.2 (z e),fun _ _ _ _ _ _ _=>cd u g (Rh B (Q0 f) he)⟩
variable {kd sd:Int} {Q C:List Int} {X:List Ex} {vl:LR} {AJ:List Int}
end
end
section
section
variable {P:AD->Prop} {V:List Re} {w:AD} {cr:List (el AY)} {AI:Int} {nc:Nat} {sd:Int} {Q C:List Int} {X:List Ex} {vl:LR} {AJ:List Int}
end
end
section
end
section
theorem size_eq {kd sd t:Int} {P C AJ:List Int} (z:1<=kd/\kd<=17) (nc:(C.length:Int)=(Co kd).2.2.1):
  sP kd sd (B9 t C 0) (Cr P (AJ.getD t.toNat 0)) (CJ AJ C 0) (CJ AJ C 1)=sD kd sd (Cr C t) (Cr P (CJ AJ C 0)) (CJ AJ C 0) (CJ AJ C 1):=by
 have u:kd=1\/kd=2\/kd=3\/kd=4\/kd=5\/kd=6\/kd=7\/kd=8\/kd=9\/kd=10\/kd=11\/kd=12\/kd=13\/kd=14\/kd=15\/kd=16\/kd=17:=AA
 rcases u with rfl | rfl | rfl | rfl | rfl | rfl | rfl | rfl | rfl | rfl | rfl | rfl | rfl | rfl | rfl | rfl | rfl
 ·have f:C.length=0:=by have h:(C.length:Int)=0:=nc;omega
  match C,f with
  | [],_=>
  simp[sP,sD,B9,Cr]
 ·have f:C.length=0:=by have h:(C.length:Int)=0:=nc;omega
  match C,f with
  | [],_=>
  simp[sP,sD,B9,Cr]
 ·have f:C.length=0:=by have h:(C.length:Int)=0:=nc;omega
  match C,f with
  | [],_=>
  simp[sP,sD,B9,Cr]
 ·have f:C.length=0:=by have h:(C.length:Int)=0:=nc;omega
  match C,f with
  | [],_=>
  simp[sP,sD,B9,Cr]
 ·have f:C.length=0:=by have h:(C.length:Int)=0:=nc;omega
  match C,f with
  | [],_=>
  simp[sP,sD,B9,Cr]
 ·have f:C.length=0:=by have h:(C.length:Int)=0:=nc;omega
  match C,f with
  | [],_=>
  simp[sP,sD,B9,Cr]
 ·have f:C.length=0:=by have h:(C.length:Int)=0:=nc;omega
  match C,f with
  | [],_=>
  simp[sP,sD,B9,Cr]
 ·have f:C.length=0:=by have h:(C.length:Int)=0:=nc;omega
  match C,f with
  | [],_=>
  simp[sP,sD,B9,Cr]
 ·have f:C.length=0:=by have h:(C.length:Int)=0:=nc;omega
  match C,f with
  | [],_=>
  simp[sP,sD,B9,Cr]
 ·have f:C.length=0:=by have h:(C.length:Int)=0:=nc;omega
  match C,f with
  | [],_=>
  simp[sP,sD,B9,Cr]
 ·have f:C.length=0:=by have h:(C.length:Int)=0:=nc;omega
  match C,f with
  | [],_=>
  simp[sP,sD,B9,Cr]
 ·have f:C.length=0:=by have h:(C.length:Int)=0:=nc;omega
  match C,f with
  | [],_=>
  simp[sP,sD,B9,Cr]
 ·have f:C.length=1:=by have h:(C.length:Int)=1:=nc;omega
  match C,f with
  | [x],_=>
  by_cases h:t=x
  ·subst h;simp[sP,sD,B9,Cr,CJ]
  simp[sP,sD,B9,Cr,CJ,h,Ne.symm h]
 ·have f:C.length=1:=by have h:(C.length:Int)=1:=nc;omega
  match C,f with
  | [x],_=>
  by_cases h:t=x
  ·subst h;simp[sP,sD,B9,Cr,CJ]
  simp[sP,sD,B9,Cr,CJ,h,Ne.symm h]
 ·have f:C.length=2:=by have h:(C.length:Int)=2:=nc;omega
  match C,f with
  | [x,y],_=>
  by_cases h:t=x
  ·subst h;simp[sP,sD,B9,Cr,CJ]
  by_cases g:t=y
  ·subst g;simp[sP,sD,B9,Cr,CJ,h]
  simp[sP,sD,B9,Cr,CJ,h,g,Ne.symm h,Ne.symm g]
 ·have f:C.length=1:=by have h:(C.length:Int)=1:=nc;omega
  match C,f with
  | [x],_=>
  by_cases h:t=x
  ·subst h;simp[sP,sD,B9,Cr,CJ]
  simp[sP,sD,B9,Cr,CJ,h,Ne.symm h]
 have f:C.length=2:=by have h:(C.length:Int)=2:=nc;omega
 match C,f with
 | [x,y],_=>
 by_cases h:t=x
 ·subst h;simp[sP,sD,B9,Cr,CJ]
 by_cases g:t=y
 ·subst g;simp[sP,sD,B9,Cr,CJ,h]
 simp[sP,sD,B9,Cr,CJ,h,g,Ne.symm h,Ne.symm g]
end
section
theorem TN {a t:Int} {l:List Int} (h:Cr (a::l) t=true):a=t\/Cr l t=true:=by
 unfold Cr at h ⊢;rw[List.any_cons,Bool.or_eq_true] at h;exact h.imp_left fun e=>by simpa using e
theorem in_1 {a t:Int} (h:Cr [a] t=true):a=t:=(TN h).resolve_right nofun
section
variable {P:AD->Prop} {V:List Re} {w:AD} {cr:List (el AY)} {AI:Int}
end
end
section
theorem pZ {kd sd AI e:Int} {P C:List Int} {V:List Ex} {vl:LR} {AJ:List Int} {cr:List (el AY)} {c Ee g:Int} {x:el AY} {b:Bool} (J:0<=c/\c<=1000000) (K:0<=AI/\AI<=1000000) (F:cr[(2*AI+c).toNat]? =some x) (D:CF 26 [.agg (cN x)] (AH g)) (hb:b= !(decide (c=Ee)||decide (0<g))):CF 57 [AH c,.one (.Ck .i64 Ee 0),.one (.Ck (.rf (.pr (.pr .i64 (.pr (.sl .i64) (.pr (.sl .i64) (.pr (.sl .ex) .i64)))) (.pr (.sl AG) (.pr (.sl .i64) (.pr .i64 (.pr (.sl AY) .i64)))))) (Qv kd P C V sd vl AJ AI cr e) 0)] (.one (.bool b)):=by
 refine AM Tryz.func57 fun E B=>?_
 refine OT (fun G=>?_) fun G=>?_
 ·exact AL (by rw[hb,decide_eq_true (AA:c=Ee)];rfl)
 intro H u h z;refine⟨x,fun _=>⟨AA,(by rw[(AA:h.toNat=(2*AI+c).toNat)];exact F)⟩,?_⟩;try conv=>cbv
 refine AB B D ?_;intro I f;exact AL (by rw[hb,decide_eq_false (AA:¬c=Ee),f];by_cases q:0<g <;> simp[q] <;> omega)
end
section
theorem nS {x y:Re} (h:¬(x=0/\y=0)):un x*un x+y*Bm (fs x y)*(y*Bm (fs x y))=(x*x+y*y)*(Bm (fs x y)*Bm (fs x y))/\un x*un x+y*Bm (fs x y)*(y*Bm (fs x y))≠0:=by
 have e:un x*un x+y*Bm (fs x y)*(y*Bm (fs x y))=(x*x+y*y)*(Bm (fs x y)*Bm (fs x y)):=by rw[eR h];grind
 refine⟨e,?_⟩;rw[e];have g:=F0 (Y2 h);have f:Bm (fs x y)≠0:=fun z=>Uu (by rw[<-g,z];grind)
 exact Nw (K6 h) (Nw f f)
end
section
section
variable {P:AD->Prop} {V:List Re} {w:AD} {cr:List (el AY)} {AI:Int} {nc:Nat}
theorem FD.sg (H:FD P w cr AI nc) (F:Fl (Tf P) w):∃s:Int->Int,∀c:Int,0<=c/\c<(nc:Nat)->∃v,NF P w 20 (HJ cr AI c) v/\s c=Bg v/\CF 26 [.agg (cN (HJ cr AI c))] (AH (s c))/\CF 7 [.agg (cN (HJ cr AI c))] (AH (s c)):=by
 have h:∀c:Int,∃s:Int,0<=c/\c<(nc:Nat)->∃v,NF P w 20 (HJ cr AI c) v/\s=Bg v/\CF 26 [.agg (cN (HJ cr AI c))] (AH s)/\CF 7 [.agg (cN (HJ cr AI c))] (AH s):=fun c=>by
  by_cases f:0<=c/\c<(nc:Nat)
  ·obtain⟨v,g⟩:=H.DL f;obtain⟨s,e,c1,c2⟩:=MD F g;exact⟨s,fun _=>⟨v,g,e,c1,c2⟩⟩
  exact⟨0,fun h=>absurd h f⟩
 exact⟨fun c=>(h c).choose,fun c=>(h c).choose_spec⟩
end
def En (C:AV->Prop) (e:Int):Prop:=∃T A,C (BY [BP T,Au A] e)
def sE (g:Int):Int:=if g=0 then 6 else if g<0 then 7 else 0
section
variable {TT:AD->Prop} {w:AD} {R b c M q p k l:Nat}
end
section
variable {P:AD->Prop} {V:List Re} {w:AD} {cr:List (el AY)} {AI:Int}
theorem Nz (L:Pl P V w) {k:Nat} {T:KH} {A:KI} {n:Re} (H:Nm (Tf P) w 2100 k T A n) (D:k<=22000) (f:0<=n):∃TT w',F9 TT w'/\(∀{k':Nat} {B:KH} {z:KI} {x:Re},k'<=22000->Nm (Tf P) w 2100 k' B z x->Nm TT w' 47000000 1 B z x)/\Rt (Tf P) w 2100 22000 TT w' 47000000 1 n:=by
 obtain⟨_,_,_,_,_,he⟩:=H;have g:El w R9 n:=he.mono (by show k*2100<=46300000;omega);refine⟨_,_,L.f9 g f,fun D h=>L.lift g.mem f h AA,⟨fun {k T1 A1} D ha=>?_⟩⟩;have G:=L.lift g.mem f (b':=47000000) (k':=1) ha AA;obtain⟨u,hu,F,_,J,_⟩:=ha;refine oO (L.f9 g f) G AE (fun O _ e _=>?_) f ?_ AE
 ·rw[<-OQ (F.symm.trans e)];exact hu.XE L.I J
 by_cases K:n=0
 ·rw[show Re.sqrt n=Re.ofRat 0 from (Re.GW ((Re.G3 f).trans K)).elim id id];exact (El.rat (I1 (L.hw.red L.I) g.mem f) (Ha (b:=64) (r:=0) (by decide +kernel) (Nat.le_refl 64))).mono AE
 have W:=fO L.I L.hV L.h3 L.hw g (by grind);exact⟨W.root,W.rb.mono AE⟩
theorem mZ {x:Re} (h:0<=x) (f:x≠0):0<=Bm x:=by
 have e:=F0 f;rw[show Bm x=x*(Bm x*Bm x) by grind];exact Re.QS h (Re.IP _)
theorem la {x y α β γ:Re} (g:¬(α=0/\β=0)):(x-(x-α*(GX α β γ x y*Re.ofRat ((1:Int):Rat))))*(x-(x-α*(GX α β γ x y*Re.ofRat ((1:Int):Rat))))+(y-(y-β*(GX α β γ x y*Re.ofRat ((1:Int):Rat))))*(y-(y-β*(GX α β γ x y*Re.ofRat ((1:Int):Rat))))=(α*x+β*y-γ)*(α*x+β*y-γ)*Bm (α*α+β*β):=by
 have f:=F0 (K6 g);rw[show Re.ofRat ((1:Int):Rat)=1 from rfl];unfold GX
 generalize Bm (α*α+β*β)=i at*
 have e:(x-(x-α*((α*x+β*y-γ)*i*1)))*(x-(x-α*((α*x+β*y-γ)*i*1)))+(y-(y-β*((α*x+β*y-γ)*i*1)))*(y-(y-β*((α*x+β*y-γ)*i*1)))=(α*x+β*y-γ)*(α*x+β*y-γ)*i*((α*α+β*β)*i):=by grind
 rw[e,f];grind
theorem kh {a b z X Y:Re} (h:¬(a=0/\b=0)):(un a*X+b*Bm (fs a b)*Y-z*Bm (fs a b))*(un a*X+b*Bm (fs a b)*Y-z*Bm (fs a b))*Bm (un a*un a+b*Bm (fs a b)*(b*Bm (fs a b)))=(a*X+b*Y-z)*(a*X+b*Y-z)*Bm (a*a+b*b):=by
 obtain⟨e1,g⟩:=nS h;have e2:=F0 g;have f:=F0 (K6 h);have u:=F0 (Y2 h);rw[show un a*X+b*Bm (fs a b)*Y-z*Bm (fs a b)=(a*X+b*Y-z)*Bm (fs a b) by rw[eR h];grind]
 generalize un a*un a+b*Bm (fs a b)*(b*Bm (fs a b))=N at*
 generalize a*X+b*Y-z=c at*
 generalize Bm (fs a b)=i at*
 generalize Bm N=n at*
 generalize Bm (a*a+b*b)=m at*
 generalize a*a+b*b=S at*
 have:c*i*(c*i)*n=c*i*(c*i)*n*(S*m):=by rw[f];grind
 rw[this,show c*i*(c*i)*n*(S*m)=c*c*m*(S*(i*i)*n) by grind,<-e1,e2]
 grind
theorem ZV {c d t:Int} (h:c=t\/d=t):∃n:Nat,B9 t [c,d] 0=(if c=t then 0 else 1)/\AR (1-(if c=t then (0:Int) else 1)) n/\(0<=(if c=t then (0:Int) else 1)/\(if c=t then (0:Int) else 1)<=1)/\[c,d][n]? =some (if c=t then d else c):=by
 by_cases e:c=t
 ·exact⟨1,by simp[B9,e],by rw[if_pos e];exact⟨AE⟩,by rw[if_pos e];decide,by rw[if_pos e];rfl⟩
 exact⟨0,by simp[B9,(h.resolve_left e),e,Ne.symm e],by rw[if_neg e];exact⟨AE⟩,by rw[if_neg e];decide,by rw[if_neg e];rfl⟩
theorem kJ {ns:List Nu} {V:List Re} {w:AD} (L:Pl (PN (Jg ns)) V w) (u:∀n∈ns,CY V n) {kd sd AI:Int} {Q C:List Int} {X:List Ex} {vl:LR} {AJ:List Int} {W:List UInt8} (h:OU ns kd sd AI Q C X vl AJ W):FD (PN (Jg ns)) w ((GS ns AI W W.length).map nm) AI AJ.length:=by
 have G:=h.len;have F:=L.fl To;refine⟨by rw[List.length_map,PU];exact G,⟨⟨h.p0,h.p8⟩,h.c3⟩,fun i x z=>?_⟩;have B:i<W.length:=by have:=Dg z;rwa [List.length_map,PU] at this
 have g:=List.getElem?_eq_getElem B
 have e:x=nm (JR ns AI W i):=by
  rw[List.getElem?_map,GS,List.getElem?_map,List.getElem?_range B] at z;exact (Option.some.inj z).symm
 have D:=oI L u (.inl (Pv h.ne (W[i]).toNat)) (by rw[tw,List.length_map,List.length_reverse];exact h.low i _ g) (b:=2100) (k:=20) AE;subst e
 by_cases f:(i:Int)<2*AI
 ·rw[YC g f];exact⟨_,D⟩
 rw[NQ g f];unfold Kv
 split
 ·exact⟨_,(MA F AE (Ha (by decide +kernel))).mono AE⟩
 exact⟨_,oH D (L.hw.red L.I)⟩
end
end
section
abbrev Mo:Type:=Rat×List Int
noncomputable def DA (ρ:Int->Re):List Int->Re
 | []=>1
 | i::v=>ρ i*DA ρ v
noncomputable def Bf (ρ:Int->Re):List Mo->Re
 | []=>0
 | m::p=>Re.ofRat m.1*DA ρ m.2+Bf ρ p
section
variable {ρ:Int->Re}
theorem Yo:∀(a b:List Int),DA ρ (a++b)=DA ρ a*DA ρ b
 | [],b=>by show DA ρ b=1*DA ρ b;grind
 | i::a,b=>by show ρ i*DA ρ (a++b)=ρ i*DA ρ a*DA ρ b;rw[Yo a b];grind
theorem Yp {a b:List Int} (h:a.Perm b):DA ρ a=DA ρ b:=by
 induction h with
 | nil=>rfl
 | cons x _ u=>show ρ x*_=ρ x*_;rw[u]
 | swap x y l=>show ρ y*(ρ x*_)=ρ x*(ρ y*_);grind
 | trans _ _ f g=>exact f.trans g
theorem Lj:∀(a b:List Mo),Bf ρ (a++b)=Bf ρ a+Bf ρ b
 | [],b=>by show Bf ρ b=0+Bf ρ b;grind
 | m::a,b=>by show _+Bf ρ (a++b)=_+Bf ρ a+Bf ρ b;rw[Lj a b];grind
theorem HD (m:Mo) (p:List Mo):Bf ρ (m::p)=Re.ofRat m.1*DA ρ m.2+Bf ρ p:=rfl
theorem Yl (m:Mo):Bf ρ [m]=Re.ofRat m.1*DA ρ m.2:=by rw[HD];show _+0=_;grind
theorem Yh (p:List Mo) (k:Nat):Bf ρ p=Bf ρ (p.take k)+Bf ρ (p.drop k):=by rw[<-Lj,List.take_append_drop]
theorem lA {p:List Mo} {k:Nat} {c d:Rat} {v:List Int} (h:p[k]? =some (c,v)):Bf ρ (p.set k (c+d,v))=Bf ρ p+Re.ofRat d*DA ρ v:=by
 have g:k<p.length:=by
  rcases Nat.lt_or_ge k p.length with f | f
  ·exact f
  rw[List.getElem?_eq_none f] at h;cases h
 have u:p[k]=(c,v):=Option.some.inj ((List.getElem?_eq_getElem g).symm.trans h);rw[List.set_eq_take_append_cons_drop,if_pos g,Lj,HD,Yh p k,List.drop_eq_getElem_cons g,HD,u]
 show _+(Re.ofRat (c+d)*DA ρ v+_)=_+(Re.ofRat c*DA ρ v+_)+_
 rw[Re.ofRat_add];grind
theorem kx (p:List Mo) (k:Nat) (m:Mo):Bf ρ (p.take k++m::p.drop k)=Bf ρ p+Re.ofRat m.1*DA ρ m.2:=by
 rw[Lj,HD,Yh p k];grind
theorem Yj:∀(p:List Mo),Bf ρ (p.filter fun m=>decide (m.1≠0))=Bf ρ p
 | []=>rfl
 | m::p=>by
  rw[List.filter_cons,HD,<-Yj p]
  by_cases h:m.1=0
  ·rw[if_neg (by simp[h]),h];have:Re.ofRat 0=0:=rfl;rw[this];grind
  rw[if_pos (by simp[h]),HD]
theorem Yn (c:Rat):∀(p:List Mo),Bf ρ (p.map fun m=>(m.1*c,m.2))=Bf ρ p*Re.ofRat c
 | []=>by show (0:Re)=0*_;grind
 | m::p=>by
  rw[List.map_cons,HD,HD,Yn c p]
  show Re.ofRat (m.1*c)*_+_=_
  rw[Re.ofRat_mul];grind
theorem Ym (m:Mo):∀(q:List Mo),Bf ρ (q.map fun n=>(m.1*n.1,m.2++n.2))=Re.ofRat m.1*DA ρ m.2*Bf ρ q
 | []=>by show (0:Re)=_*0;grind
 | n::q=>by
  rw[List.map_cons,HD,HD,Ym m q]
  show Re.ofRat (m.1*n.1)*DA ρ (m.2++n.2)+_=_
  rw[Re.ofRat_mul,Yo];grind
theorem Yk:∀(p q:List Mo),Bf ρ (p.flatMap fun m=>q.map fun n=>(m.1*n.1,m.2++n.2))=Bf ρ p*Bf ρ q
 | [],q=>by show (0:Re)=0*_;grind
 | m::p,q=>by rw[List.flatMap_cons,Lj,Ym,Yk p q,HD];grind
end
def CB (b:Nat) (p:List Mo):Prop:=∀m∈p,Bd b [m.1]
structure PB (n d b:Nat) (p:List Mo):Prop where
 len:p.length<=n
 Ef:∀m∈p,m.2.length<=d
 cb:CB b p
theorem pG {a b:Nat} {p q:Rat} (h:Bd a [p]) (k:Bd b [q]):Bd (a+b+1) [p+q]:=by
 have:=SG bc (Fy p []) (Fy q []) (by rw[DH];exact h) (by rw[DH];exact k);rw[<-Re.ofRat_add,DH] at this;exact this
theorem Qn {a b:Nat} {p q:Rat} (h:Bd a [p]) (k:Bd b [q]):Bd (a+b) [p*q]:=by
 have:=Xd (R:=0) bc (fun r h=>by simp at h) (Fy p []) (Fy q []) (by rw[DH];exact h) (by rw[DH];exact k);rw[<-Re.ofRat_mul,DH] at this;exact this
theorem Qo {a:Nat} {p:Rat} (h:Bd a [p]) (ha:a<=60000000000000):B8 p:=h.CM ha p (List.mem_singleton.2 rfl)
end
section
def Jc:List Int->Int->List Int
 | [],x=>[x]
 | y::r,x=>if y>x then y::Jc r x else x::y::r
def Gu (l:List Int) (x:Int):List Int:=(Jc l.reverse x).reverse
variable {A a:List Int} {b d i n:Nat} {y:Int}
theorem mR (x:Int):Gu [] x=[x]:=rfl
theorem mP {x:Int} (h:y>x):Gu (A++[y]) x=Gu A x++[y]:=by
 unfold Gu;rw[List.reverse_append];show (Jc (y::A.reverse) x).reverse=_;rw[Jc,if_pos h,List.reverse_cons]
theorem mQ {x:Int} (h:¬y>x):Gu (A++[y]) x=A++[y]++[x]:=by
 unfold Gu;rw[List.reverse_append];show (Jc (y::A.reverse) x).reverse=_;rw[Jc,if_neg h,List.reverse_cons,List.reverse_cons,List.reverse_reverse]
theorem ZL:∀(l:List Int) (x:Int),(Jc l x).Perm (x::l)
 | [],_=>List.Perm.refl _
 | y::r,x=>by
  rw[Jc]
  split
  ·exact ((ZL r x).cons y).trans (List.Perm.swap x y r)
  exact List.Perm.refl _
theorem TP (l:List Int) (x:Int):(Gu l x).Perm (l++[x]):=by
 refine (List.reverse_perm _).trans ((ZL _ x).trans ?_);exact (((List.reverse_perm l).cons x).trans (List.perm_append_singleton x l).symm)
def CQ (l:List Int):List Int:=l.foldl Gu []
theorem dz {l:List Int} {x:Int} (h:l[i]? =some x):CQ (l.take (i+1))=Gu (CQ (l.take i)) x:=by
 unfold CQ;rw[List.take_add_one,h,List.foldl_append];rfl
theorem dy:∀(l acc:List Int),(l.foldl Gu acc).Perm (acc++l)
 | [],acc=>by rw[List.append_nil];exact List.Perm.refl _
 | x::l,acc=>by
  refine (dy l (Gu acc x)).trans ?_;have:=(TP acc x).append_right l;rwa [List.append_assoc] at this
theorem MV (l:List Int):(CQ l).Perm l:=dy l []
theorem Q8 (l:List Int):(CQ l).length=l.length:=(MV l).length_eq
def HA:List Int->List Int->Int
 | x::a,y::b=>if x≠y then x-y else HA a b
 | _,_=>0
def Gp (a b:List Int):Int:=if a.length≠b.length then a.length-b.length else HA a b
theorem Xh:∀{a b:List Int},a.length=b.length->HA a b=0->a=b
 | [],[],_,_=>rfl
 | x::a,y::b,h,e=>by
  rw[HA] at e
  split at e
  ·omega
  rename_i f
  rw[Decidable.not_not.1 f,Xh (a:=a) (b:=b) (by simpa using h) e]
theorem jn {b:List Int} (h:Gp a b=0):a=b:=by
 unfold Gp at h
 split at h
 ·omega
 rename_i f;exact Xh (Decidable.not_not.1 f) h
theorem Xg {b:List Int} {x:Int} (ha:a[i]? =some x) (hb:b[i]? =some y):HA (a.drop i) (b.drop i)=if x≠y then x-y else HA (a.drop (i+1)) (b.drop (i+1)):=by
 have f:=Dg ha;have g:=Dg hb;rw[List.drop_eq_getElem_cons f,List.drop_eq_getElem_cons g,HA,Option.some.inj ((List.getElem?_eq_getElem f).symm.trans ha),Option.some.inj ((List.getElem?_eq_getElem g).symm.trans hb)]
def GJ (v:List Int):List Mo->Nat
 | []=>0
 | o::p=>if Gp o.2 v<0 then GJ v p+1 else 0
theorem bA {v:List Int} {p:List Mo} {k:Nat} {o:Mo} (h:p[k]? =some o):GJ v (p.drop k)=if Gp o.2 v<0 then GJ v (p.drop (k+1))+1 else 0:=by
 have f:=Dg h;rw[List.drop_eq_getElem_cons f,GJ,Option.some.inj ((List.getElem?_eq_getElem f).symm.trans h)]
def Ed (p:List Mo) (m:Mo):List Mo:=
 match p[GJ (CQ m.2) p]? with
 | some o=>if Gp o.2 (CQ m.2)=0 then p.set (GJ (CQ m.2) p) (o.1+m.1,o.2) else p.take (GJ (CQ m.2) p)++(m.1,CQ m.2)::p.drop (GJ (CQ m.2) p)
 | none=>p.take (GJ (CQ m.2) p)++(m.1,CQ m.2)::p.drop (GJ (CQ m.2) p)
theorem Ow (p:List Mo) (m:Mo):(∃k c,p[k]? =some (c,CQ m.2)/\Ed p m=p.set k (c+m.1,CQ m.2))\/∃k,Ed p m=p.take k++(m.1,CQ m.2)::p.drop k:=by
 unfold Ed
 split
 ·rename_i o f
  split
  ·rename_i e
   have:=jn e;exact .inl ⟨_,o.1,by rw[f,<-this],by rw[<-this]⟩
  exact .inr ⟨_,rfl⟩
 exact .inr ⟨_,rfl⟩
theorem kv {ρ:Int->Re} (p:List Mo) (m:Mo):Bf ρ (Ed p m)=Bf ρ p+Re.ofRat m.1*DA ρ m.2:=by
 rcases Ow p m with⟨k,c,h,e⟩ |⟨k,e⟩
 ·rw[e,lA h,Yp (MV m.2)]
 rw[e,kx];show _+Re.ofRat m.1*DA ρ (CQ m.2)=_;rw[Yp (MV m.2)]
def Hn (l:List Mo):List Mo:=l.foldl Ed []
def Ho (l:List Mo):List Mo:=(Hn l).filter fun m=>decide (m.1≠0)
theorem VO {l:List Mo} {m:Mo} (h:l[i]? =some m):Hn (l.take (i+1))=Ed (Hn (l.take i)) m:=by
 unfold Hn;rw[List.take_add_one,h,List.foldl_append];rfl
theorem Yi {ρ:Int->Re}:∀(l acc:List Mo),Bf ρ (l.foldl Ed acc)=Bf ρ acc+Bf ρ l
 | [],acc=>by show _=_+0;show Bf ρ acc=_;grind
 | m::l,acc=>by rw[List.foldl_cons,Yi l,kv,HD];grind
theorem Pm {ρ:Int->Re} (l:List Mo):Bf ρ (Ho l)=Bf ρ l:=by
 unfold Ho;rw[Yj];unfold Hn;rw[Yi];show 0+_=_;grind
theorem og {j:Nat} {p:List Mo} {m:Mo} (h:PB n d ((b+1)*j) p) (hm:Bd b [m.1]) (z:m.2.length<=d):PB (n+1) d ((b+1)*(j+1)) (Ed p m):=by
 have B:∀x∈p,Bd ((b+1)*(j+1)) [x.1]:=fun x f=>(h.cb x f).mono (Nat.mul_le_mul_left _ (Nat.le_succ j))
 have one:Bd ((b+1)*(j+1)) [m.1]:=hm.mono (by rw[Nat.mul_add];omega);have D:=h.len;rcases Ow p m with⟨k,c,e1,e⟩ |⟨k,e⟩
 ·have u:=List.mem_of_getElem? e1;rw[e];refine⟨by rw[List.length_set];omega,fun x f=>?_,fun x f=>?_⟩
  ·rcases List.mem_or_eq_of_mem_set f with f | rfl
   ·exact h.Ef x f
   exact by show (CQ m.2).length<=d;rw[Q8];exact z
  rcases List.mem_or_eq_of_mem_set f with f | rfl
  ·exact B x f
  exact (pG (h.cb _ u) hm).mono (by rw[Nat.mul_add];omega)
 have f:∀x∈Ed p m,x∈p\/x=(m.1,CQ m.2):=fun x f=>by
  rw[e,List.mem_append,List.mem_cons] at f;rcases f with f | rfl | f
  ·exact .inl (List.mem_of_mem_take f)
  ·exact .inr rfl
  exact .inl (List.mem_of_mem_drop f)
 refine⟨by rw[e,List.length_append,List.length_cons,List.length_take,List.length_drop];omega,fun x g=>?_,fun x g=>?_⟩
 ·rcases f x g with g | rfl
  ·exact h.Ef x g
  exact by show (CQ m.2).length<=d;rw[Q8];exact z
 rcases f x g with g | rfl
 ·exact B x g
 exact one
theorem au:∀(l acc:List Mo) (n:Nat),PB n d ((b+1)*n) acc->(∀m∈l,m.2.length<=d)->CB b l->PB (n+l.length) d ((b+1)*(n+l.length)) (l.foldl Ed acc)
 | [],_,_,h,_,_=>h
 | m::l,acc,n,h,u,g=>by
  have:=au l (Ed acc m) (n+1) (og h (g m List.mem_cons_self) (u m List.mem_cons_self)) (fun x f=>u x (List.mem_cons_of_mem _ f)) fun x f=>g x (List.mem_cons_of_mem _ f)
  rwa [show n+1+l.length=n+(m::l).length by rw[List.length_cons];omega] at this
theorem aw {l:List Mo} (h:PB n d b l):PB n d ((b+1)*n) (Hn l):=by
 have:=au l [] 0 ⟨Nat.le_refl _,fun _ h=>by simp at h,fun _ h=>by simp at h⟩ h.Ef h.cb;rw[Nat.zero_add] at this;exact⟨Nat.le_trans this.len h.len,this.Ef,fun x f=>(this.cb x f).mono (Nat.mul_le_mul_left _ h.len)⟩
theorem Qg {l:List Mo} (h:PB n d b l):PB n d ((b+1)*n) (Ho l):=by
 have:=aw h;exact⟨Nat.le_trans (List.length_filter_le _ _) this.len,fun x f=>this.Ef x (List.mem_filter.1 f).1,fun x f=>this.cb x (List.mem_filter.1 f).1⟩
end
section
def EW (p q:List Mo):List Mo:=Ho (p++q)
def Iy (p:List Mo) (c:Rat):List Mo:=Ho (p.map fun m=>(m.1*c,m.2))
def CH (p q:List Mo):List Mo:=EW p (Iy q (-1))
def E6 (m:Mo) (q:List Mo):List Mo:=q.map fun n=>(m.1*n.1,m.2++n.2)
def Dj (p q:List Mo):List Mo:=Ho (p.flatMap fun m=>E6 m q)
def Ek (c:Rat):List Mo:=Ho [(c,[])]
def B7 (v:Int):List Mo:=[(1,[v])]
section
variable {ρ:Int->Re}
theorem Su (p q:List Mo):Bf ρ (EW p q)=Bf ρ p+Bf ρ q:=by unfold EW;rw[Pm,Lj]
theorem kz (p:List Mo) (c:Rat):Bf ρ (Iy p c)=Bf ρ p*Re.ofRat c:=by unfold Iy;rw[Pm,Yn]
theorem oQ:Re.ofRat (-1)= -1:=by
 have h:Re.ofRat (-1)+Re.ofRat 1=Re.ofRat (-1+1):=(Re.ofRat_add _ _).symm;rw[show (-1+1:Rat)=0 by decide +kernel,show Re.ofRat 0=0 from rfl,show Re.ofRat 1=1 from rfl] at h
 grind
theorem JU (p q:List Mo):Bf ρ (CH p q)=Bf ρ p-Bf ρ q:=by unfold CH;rw[Su,kz,oQ];grind
theorem Lk (p q:List Mo):Bf ρ (Dj p q)=Bf ρ p*Bf ρ q:=by unfold Dj;rw[Pm];exact Yk p q
theorem ky (c:Rat):Bf ρ (Ek c)=Re.ofRat c:=by unfold Ek;rw[Pm,Yl];show _*1=_;grind
theorem JV (v:Int):Bf ρ (B7 v)=ρ v:=by unfold B7;rw[Yl];show Re.ofRat 1*(ρ v*1)=_;rw[show Re.ofRat 1=1 from rfl];grind
end
theorem PB.mono {n d b n' f b':Nat} {p:List Mo} (h:PB n d b p) (u:n<=n') (g:d<=f) (hb:b<=b'):PB n' f b' p:=⟨Nat.le_trans h.len u,fun m hm=>Nat.le_trans (h.Ef m hm) g,fun m hm=>(h.cb m hm).mono hb⟩
theorem Uc {n m d b:Nat} {p q:List Mo} (h:PB n d b p) (k:PB m d b q):PB (n+m) d ((b+1)*(n+m)) (EW p q):=by
 refine Qg ⟨by rw[List.length_append];exact Nat.add_le_add h.len k.len,fun x f=>?_,fun x f=>?_⟩ <;> rcases List.mem_append.1 f with f | f
 ·exact h.Ef x f
 ·exact k.Ef x f
 ·exact h.cb x f
 exact k.cb x f
theorem Ud {n d b e:Nat} {p:List Mo} {c:Rat} (h:PB n d b p) (k:Bd e [c]):PB n d ((b+e+1)*n) (Iy p c):=by
 refine Qg ⟨by rw[List.length_map];exact h.len,fun x f=>?_,fun x f=>?_⟩ <;> obtain⟨y,g,rfl⟩:=List.mem_map.1 f
 ·exact h.Ef y g
 exact Qn (h.cb y g) k
theorem O9:Bd 1 [(-1:Rat)]:=⟨1,AE,AE,fun q f=>⟨-1,by rw[List.mem_singleton.1 f];decide +kernel⟩,fun q f=>by rw[List.mem_singleton.1 f];decide +kernel⟩
theorem oo {n m d b:Nat} {p q:List Mo} (h:PB n d b p) (k:PB m d b q):PB (n+m) d ((b+(b+2)*m+1)*(n+m)) (CH p q):=
 Uc (h.mono Bi Bi (Nat.le_add_right _ _)) ((Ud k O9).mono Bi Bi (Nat.le_add_left _ _))
theorem oh {n m d e b c:Nat} {p q:List Mo} (h:PB n d b p) (k:PB m e c q):PB (n*m) (d+e) ((b+c+1)*(n*m)) (Dj p q):=by
 have f:∀x∈p.flatMap (fun m=>E6 m q),∃y∈p,∃z∈q,x=(y.1*z.1,y.2++z.2):=fun x f=>by
  obtain⟨y,g,f⟩:=List.mem_flatMap.1 f;obtain⟨z,u,rfl⟩:=List.mem_map.1 f;exact⟨y,g,z,u,rfl⟩
 have D:∀p:List Mo,(p.flatMap fun m=>E6 m q).length=p.length*q.length:=fun p=>by
  induction p with
  | nil=>simp
  | cons y p F=>rw[List.flatMap_cons,List.length_append,F,List.length_cons,Nat.succ_mul,E6,List.length_map];omega
 refine Qg ⟨by rw[D];exact Nat.mul_le_mul h.len k.len,fun x B=>?_,fun x B=>?_⟩ <;> obtain⟨y,g,z,u,rfl⟩:=f x B
 ·show (y.2++z.2).length<=_;rw[List.length_append];exact Nat.add_le_add (h.Ef y g) (k.Ef z u)
 exact Qn (h.cb y g) (k.cb z u)
theorem om {b:Nat} {c:Rat} (h:Bd b [c]):PB 1 0 (b+1) (Ek c):=by
 have:=Qg (n:=1) (d:=0) (b:=b) (l:=[(c,[])]) ⟨Nat.le_refl _,fun m hm=>by rw[List.mem_singleton.1 hm];exact Nat.le_refl _,fun m hm=>by rw[List.mem_singleton.1 hm];exact h⟩;rwa [Nat.mul_one] at this
theorem oq (v:Int):PB 1 1 0 (B7 v):=⟨Nat.le_refl _,fun m hm=>by rw[List.mem_singleton.1 hm];exact Nat.le_refl _,fun m hm=>by rw[List.mem_singleton.1 hm];exact Xb⟩
def VR (N:Int) (p:List Mo):Prop:=∀m∈p,∀v∈m.2,0<=v/\v<N
section
variable {N:Int}
theorem sA {p:List Mo} {m:Mo} (h:VR N p) (hm:∀v∈m.2,0<=v/\v<N):VR N (Ed p m):=fun x f v g=>by
 have u:∀v∈CQ m.2,0<=v/\v<N:=fun v h=>hm v ((MV m.2).mem_iff.1 h)
 rcases Ow p m with⟨k,c,e1,e⟩ |⟨k,e⟩ <;> rw[e] at f
 ·rcases List.mem_or_eq_of_mem_set f with f | rfl
  ·exact h x f v g
  exact u v g
 rw[List.mem_append,List.mem_cons] at f;rcases f with f | rfl | f
 ·exact h x (List.mem_of_mem_take f) v g
 ·exact u v g
 exact h x (List.mem_of_mem_drop f) v g
theorem Vb:∀(l acc:List Mo),VR N acc->VR N l->VR N (l.foldl Ed acc)
 | [],_,h,_=>h
 | m::l,acc,h,k=>Vb l (Ed acc m) (sA h (k m List.mem_cons_self)) fun x f=>k x (List.mem_cons_of_mem _ f)
theorem RJ {l:List Mo} (h:VR N l):VR N (Ho l):=fun x f=>Vb l [] (fun _ h=>by simp at h) h x (List.mem_filter.1 f).1
theorem eo {p q:List Mo} (h:VR N p) (k:VR N q):VR N (EW p q):=RJ fun x f=>(List.mem_append.1 f).elim (h x) (k x)
theorem et {p:List Mo} {c:Rat} (h:VR N p):VR N (Iy p c):=RJ fun x f=>by obtain⟨y,g,rfl⟩:=List.mem_map.1 f;exact h y g
theorem eu {p q:List Mo} (h:VR N p) (k:VR N q):VR N (CH p q):=eo h (et k)
theorem sB {p q:List Mo} (h:VR N p) (k:VR N q):VR N (Dj p q):=RJ fun x g v f=>by
 obtain⟨y,u,g⟩:=List.mem_flatMap.1 g;obtain⟨z,B,rfl⟩:=List.mem_map.1 g;rcases List.mem_append.1 f with f | f
 ·exact h y u v f
 exact k z B v f
theorem sC (c:Rat):VR N (Ek c):=RJ fun x g v f=>by rw[List.mem_singleton.1 g] at f;simp at f
theorem sF {v:Int} (h:0<=v/\v<N):VR N (B7 v):=fun x f u hu=>by rw[List.mem_singleton.1 f] at hu;rw[List.mem_singleton.1 hu];exact h
end
end
section
def FB (r:Int) (o e:Nat) (v:List Int):Nat:=if r∈v then e else o
def wP (r:Int) (o e:Nat) (p:List Mo):Nat:=(p.map fun m=>FB r o e m.2).sum
section
variable {r:Int} {o e:Nat}
theorem fN (v:List Int):FB r o e (CQ v)=FB r o e v:=by unfold FB;simp only[(MV v).mem_iff]
theorem sZ (h:o<=e) (v:List Int):FB r o e v<=e:=by unfold FB;split <;> omega
theorem RK (p q:List Mo):wP r o e (p++q)=wP r o e p+wP r o e q:=by unfold wP;rw[List.map_append,List.sum_append]
theorem I8 (m:Mo) (p:List Mo):wP r o e (m::p)=FB r o e m.2+wP r o e p:=by unfold wP;rw[List.map_cons,List.sum_cons]
theorem ez (p:List Mo) (k:Nat):wP r o e p=wP r o e (p.take k)+wP r o e (p.drop k):=by rw[<-RK,List.take_append_drop]
theorem sG (p:List Mo) (m:Mo):wP r o e (Ed p m)<=wP r o e p+FB r o e m.2:=by
 rcases Ow p m with⟨k,c,h,e1⟩ |⟨k,e1⟩
 ·have f:=Dg h;have g:p[k]=(c,CQ m.2):=Option.some.inj ((List.getElem?_eq_getElem f).symm.trans h);rw[e1,List.set_eq_take_append_cons_drop,if_pos f,RK,I8,ez p k,List.drop_eq_getElem_cons f,I8,g];have e2:∀x:Rat,FB r o e ((x,CQ m.2):Mo).2=FB r o e m.2:=fun _=>fN _
  rw[e2];omega
 rw[e1,RK,I8,fN,ez p k];omega
theorem fB:∀(l acc:List Mo),wP r o e (l.foldl Ed acc)<=wP r o e acc+wP r o e l
 | [],acc=>Nat.le_add_right _ _
 | m::l,acc=>by
  have f:=fB l (Ed acc m);have g:=sG (r:=r) (o:=o) (e:=e) acc m;rw[List.foldl_cons,I8];omega
theorem fC (f:Mo->Bool):∀(p:List Mo),wP r o e (p.filter f)<=wP r o e p
 | []=>Nat.le_refl _
 | m::p=>by
  have:=fC f p;rw[List.filter_cons]
  split
  ·rw[I8,I8];omega
  rw[I8];omega
theorem fD (l:List Mo):wP r o e (Ho l)<=wP r o e l:=by
 have f:=fC (r:=r) (o:=o) (e:=e) (fun m=>decide (m.1≠0)) (Hn l);have g:=fB (r:=r) (o:=o) (e:=e) l [];have h3:wP r o e ([]:List Mo)=0:=rfl;unfold Ho;unfold Hn at f ⊢;omega
theorem sH (p q:List Mo):wP r o e (EW p q)<=wP r o e p+wP r o e q:=by unfold EW;rw[<-RK];exact fD _
theorem sI (p:List Mo) (c:Rat):wP r o e (Iy p c)<=wP r o e p:=by
 refine Nat.le_trans (fD _) (Nat.le_of_eq ?_);unfold wP;rw[List.map_map];rfl
theorem OR (p q:List Mo):wP r o e (CH p q)<=wP r o e p+wP r o e q:=Nat.le_trans (sH _ _) (Nat.add_le_add_left (sI _ _) _)
theorem KB (h:o<=e):∀(p:List Mo),wP r o e p<=e*p.length
 | []=>Nat.le_refl _
 | m::p=>by
  have f:=KB h p;have g:=sZ (r:=r) h m.2;rw[I8,List.length_cons,Nat.mul_succ];omega
theorem Vc {N:Int} (f:N<=r):∀{p:List Mo},VR N p->wP r o e p<=o*p.length
 | [],_=>Nat.le_refl _
 | m::p,h=>by
  have z:=Vc f (p:=p) fun x u=>h x (List.mem_cons_of_mem _ u)
  have B:FB r o e m.2=o:=by
   unfold FB;rw[if_neg];intro g;have:=(h m List.mem_cons_self r g).2;omega
  rw[I8,List.length_cons,Nat.mul_succ];omega
end
theorem VR.mono {N M:Int} {p:List Mo} (h:VR N p) (k:N<=M):VR M p:=fun m hm v f=>⟨(h m hm v f).1,by have:=(h m hm v f).2;omega⟩
abbrev Ar:Type:=List Mo×List Mo
def Aw (i k:Int):Ar:=(CH (B7 (2*k)) (B7 (2*i)),CH (B7 (2*k+1)) (B7 (2*i+1)))
def CU (a b:Ar):List Mo:=EW (Dj a.1 b.1) (Dj a.2 b.2)
def EM (a b:Ar):List Mo:=CH (Dj a.1 b.2) (Dj a.2 b.1)
def CV (p:List Mo):List Mo:=Dj p p
section
variable {ρ:Int->Re}
theorem JW (i k:Int):Bf ρ (Aw i k).1=ρ (2*k)-ρ (2*i)/\Bf ρ (Aw i k).2=ρ (2*k+1)-ρ (2*i+1):=by unfold Aw;rw[JU,JU];simp only[JV];exact⟨trivial,trivial⟩
theorem Sw (a b:Ar):Bf ρ (CU a b)=Bf ρ a.1*Bf ρ b.1+Bf ρ a.2*Bf ρ b.2:=by unfold CU;rw[Su,Lk,Lk]
theorem lB (a b:Ar):Bf ρ (EM a b)=Bf ρ a.1*Bf ρ b.2-Bf ρ a.2*Bf ρ b.1:=by unfold EM;rw[JU,Lk,Lk]
theorem Pq (p:List Mo):Bf ρ (CV p)=Bf ρ p*Bf ρ p:=Lk p p
end
structure PV (n d b:Nat) (N:Int) (p:List Mo):Prop where
 pb:PB n d b p
 vr:VR N p
def Eu (n d b:Nat) (N:Int) (a:Ar):Prop:=PV n d b N a.1/\PV n d b N a.2
section
variable {n m d e b c:Nat} {N:Int} {p q:List Mo}
theorem PV.mono {n' g b':Nat} {f:Int} (h:PV n d b N p) (B:n<=n') (z:d<=g) (hb:b<=b') (u:N<=f):PV n' g b' f p:=⟨h.pb.mono B z hb,h.vr.mono u⟩
theorem Gi {v:Int} (h:0<=v/\v<N):PV 1 1 0 N (B7 v):=⟨oq v,sF h⟩
theorem bQ {x:Rat} (h:Bd b [x]):PV 1 0 (b+1) N (Ek x):=⟨om h,sC x⟩
theorem Ul (h:PV n d b N p) (k:PV m d b N q):PV (n+m) d ((b+1)*(n+m)) N (EW p q):=⟨Uc h.pb k.pb,eo h.vr k.vr⟩
theorem Ql (h:PV n d b N p) (k:PV m d b N q):PV (n+m) d ((b+(b+2)*m+1)*(n+m)) N (CH p q):=⟨oo h.pb k.pb,eu h.vr k.vr⟩
theorem Hl (h:PV n d b N p) (k:PV m e c N q):PV (n*m) (d+e) ((b+c+1)*(n*m)) N (Dj p q):=⟨oh h.pb k.pb,sB h.vr k.vr⟩
theorem Jy (h:PV n d b N p):PV (n*n) (d+d) ((b+b+1)*(n*n)) N (CV p):=Hl h h
theorem NC {i k AI:Int} (f:0<=i/\i<AI) (g:0<=k/\k<AI):Eu 2 1 6 (2*AI) (Aw i k):=⟨Ql (b:=0) (Gi ⟨AA,AA⟩) (Gi ⟨AA,AA⟩),Ql (b:=0) (Gi ⟨AA,AA⟩) (Gi ⟨AA,AA⟩)⟩
theorem Kt {a f:Ar} (h:Eu 2 1 6 N a) (k:Eu 2 1 6 N f):PV 8 2 424 N (CU a f):=(Ul (Hl h.1 k.1) (Hl h.2 k.2)).mono AE AE AE (Int.le_refl _)
theorem bO {a f:Ar} (h:Eu 2 1 6 N a) (k:Eu 2 1 6 N f):PV 8 2 2152 N (EM a f):=(Ql (Hl h.1 k.2) (Hl h.2 k.1)).mono AE AE AE (Int.le_refl _)
end
end
section
def FF (l out:List Int) (i k:Nat):Prop:=∃A B x,l[i]? =some x/\out=A++x::(B++l.drop (i+1))/\A.length=k/\Gu (CQ (l.take i)) x=Gu A x++B
section
variable {l out:List Int} {i k:Nat}
theorem FF.len (h:FF l out i k):out.length=l.length/\k<out.length:=by
 obtain⟨A,B,x,f,rfl,rfl,e⟩:=h;have D:=Dg f;have g:=congrArg List.length e;have u:=(TP (CQ (l.take i)) x).length_eq;have h3:=(TP A x).length_eq;have z:=Q8 (l.take i);simp only[List.length_append,List.length_cons,List.length_drop,List.length_take,List.length_nil] at*;omega
theorem FF.start (h:out=CQ (l.take i)++l.drop i) (f:i<l.length):FF l out i i:=
 ⟨CQ (l.take i),[],l[i],List.getElem?_eq_getElem f,by rw[h,List.drop_eq_getElem_cons f];rfl,by rw[Q8,List.length_take];omega,by rw[List.append_nil]⟩
theorem FF.zero (h:FF l out i 0):out=CQ (l.take (i+1))++l.drop (i+1):=by
 obtain⟨A,B,x,g,rfl,f,e⟩:=h;obtain rfl:=List.eq_nil_of_length_eq_zero f;rw[dz g,e,mR];rfl
theorem FF.le {a b:Int} (h:FF l out i (k+1)) (ha:out[k]? =some a) (hb:out[k+1]? =some b) (f:¬a>b):out=CQ (l.take (i+1))++l.drop (i+1):=by
 obtain⟨A,B,x,D,rfl,g,e⟩:=h;obtain⟨A,y,rfl⟩:∃z y,A=z++[y]:=⟨A.dropLast,A.getLast (by intro h;simp[h] at g),(List.dropLast_concat_getLast _).symm⟩
 rw[List.length_append,List.length_singleton] at g;have u:A.length=k:=AA
 have e1:(A++[y]++x::(B++l.drop (i+1)))[k]? =some y:=by rw[List.append_assoc,<-u,List.getElem?_append_right Bi,Nat.sub_self];rfl
 have e2:(A++[y]++x::(B++l.drop (i+1)))[k+1]? =some x:=by rw[List.getElem?_append_right (by simp;omega),List.length_append,List.length_singleton,u,Nat.sub_self];rfl
 obtain rfl:=Option.some.inj (e1.symm.trans ha);obtain rfl:=Option.some.inj (e2.symm.trans hb);rw[mQ f] at e;rw[dz D,e];simp
theorem FF.gt {a b:Int} (h:FF l out i (k+1)) (ha:out[k]? =some a) (hb:out[k+1]? =some b) (g:a>b):FF l ((out.set k b).set (k+1) a) i k:=by
 obtain⟨A,B,x,D,rfl,u,e⟩:=h;obtain⟨A,y,rfl⟩:∃z y,A=z++[y]:=⟨A.dropLast,A.getLast (by intro h;simp[h] at u),(List.dropLast_concat_getLast _).symm⟩
 rw[List.length_append,List.length_singleton] at u;have f:A.length=k:=AA
 have e1:(A++[y]++x::(B++l.drop (i+1)))[k]? =some y:=by rw[List.append_assoc,<-f,List.getElem?_append_right Bi,Nat.sub_self];rfl
 have e2:(A++[y]++x::(B++l.drop (i+1)))[k+1]? =some x:=by rw[List.getElem?_append_right (by simp;omega),List.length_append,List.length_singleton,f,Nat.sub_self];rfl
 obtain rfl:=Option.some.inj (e1.symm.trans ha);obtain rfl:=Option.some.inj (e2.symm.trans hb);rw[mP g] at e;refine⟨A,y::B,x,D,?_,f,by rw[e,List.append_assoc];rfl⟩;subst f;rw[List.append_assoc,List.set_append_right _ _ Bi,Nat.sub_self,List.set_append_right _ _ AA,(AA:A.length+1-A.length=1)];rfl
theorem rJ (h:out=CQ (l.take i)++l.drop i) (f:l.length<=i):out=CQ l:=by rw[h,List.take_of_length_le f,List.drop_of_length_le f,List.append_nil]
def HS (v:List Int) (o:List Mo) (k:Nat):Prop:=GJ v o=k+GJ v (o.drop k)
theorem HS.zero {v:List Int} {o:List Mo}:HS v o 0:=(Nat.zero_add _).symm
theorem HS.up {v:List Int} {o:List Mo} {m:Mo} (h:HS v o k) (hm:o[k]? =some m) (f:Gp m.2 v<0):HS v o (k+1):=by
 unfold HS at *;rw[h,bA hm,if_pos f];omega
theorem HS.stop {v:List Int} {o:List Mo} (h:HS v o k) (f:o.length<=k\/∃m,o[k]? =some m/\¬Gp m.2 v<0):GJ v o=k:=by
 unfold HS at h;rcases f with f |⟨m,hm,g⟩
 ·rw[h,List.drop_of_length_le f];rfl
 rw[h,bA hm,if_neg g];rfl
theorem jR {o:List Mo} {m:Mo} {k:Nat} {c:Mo} (h:GJ (CQ m.2) o=k) (g:o[k]? =some c) (f:Gp c.2 (CQ m.2)=0):Ed o m=o.set k (c.1+m.1,c.2):=by
 unfold Ed;rw[h,g];exact if_pos f
theorem W9 {o:List Mo} {m:Mo} {k:Nat} (h:GJ (CQ m.2) o=k) (f:∀c,o[k]? =some c->Gp c.2 (CQ m.2)≠0):Ed o m=o.take k++(m.1,CQ m.2)::o.drop k:=by
 unfold Ed;rw[h];cases g:o[k]? with
 | none=>rfl
 | some c=>exact if_neg (f c g)
end
structure HT (l:List Mo):Prop where
 ex:∃n d b,PV n d b 1000 l/\n<=100000/\d<=100/\(b+1)*(n+1)<=60000000000000
theorem PB.take {n d b:Nat} {l:List Mo} (h:PB n d b l) (i:Nat):PB n d b (l.take i):=⟨Nat.le_trans (List.length_take_le' _ _) h.len,fun m hm=>h.Ef m (List.mem_of_mem_take hm),fun m hm=>h.cb m (List.mem_of_mem_take hm)⟩
theorem HT.pre {l:List Mo} (h:HT l) (i:Nat):(∀m∈Hn (l.take i),B8 m.1/\∀v∈m.2,0<=v/\v<1000)/\(Hn (l.take i)).length<=100000:=by
 obtain⟨n,d,b,f,u,h3,z⟩:=h.ex;have g:=aw (f.pb.take i);refine⟨fun m hm=>⟨Qo (g.cb m hm) (by rw[Nat.mul_add] at z;omega),?_⟩,Nat.le_trans g.len u⟩;exact Vb _ [] (fun _ h=>by simp at h) (fun x B=>f.vr x (List.mem_of_mem_take B)) m hm
theorem HT.at {l:List Mo} (h:HT l) {m:Mo} (hm:m∈l):(B8 m.1/\∀v∈m.2,0<=v/\v<1000)/\m.2.length<=100:=by
 obtain⟨n,d,b,f,u,h3,g⟩:=h.ex;refine⟨⟨Qo (f.pb.cb m hm) ?_,f.vr m hm⟩,Nat.le_trans (f.pb.Ef m hm) h3⟩;rw[Nat.mul_add] at g;omega
theorem HT.len {l:List Mo} (h:HT l):l.length<=100000:=let ⟨_,_,_,f,g,_⟩:=h.ex;Nat.le_trans f.pb.len g
section
variable {n m d e b c:Nat} {p q:List Mo}
theorem qi {x:Rat} (h:Bd b [x]) (hb:b<=20000000000000):HT [(x,[])]:=
 ⟨1,0,b,⟨⟨Nat.le_refl _,fun m hm=>by rw[List.mem_singleton.1 hm];exact Nat.le_refl _,fun m hm=>by rw[List.mem_singleton.1 hm];exact h⟩,fun m hm v f=>by rw[List.mem_singleton.1 hm] at f;simp at f⟩,AE,AE,AA⟩
theorem qg (h:PV n d b 1000 p) (k:PV m d b 1000 q) (u:n+m<=100000) (g:d<=100) (hb:(b+1)*(n+m+1)<=60000000000000):HT (p++q):=
 ⟨n+m,d,b,⟨⟨by rw[List.length_append];exact Nat.add_le_add h.pb.len k.pb.len,fun x f=>(List.mem_append.1 f).elim (h.pb.Ef x) (k.pb.Ef x),fun x f=>(List.mem_append.1 f).elim (h.pb.cb x) (k.pb.cb x)⟩,fun x f=>(List.mem_append.1 f).elim (h.vr x) (k.vr x)⟩,u,g,hb⟩
theorem qj {x:Rat} (h:PV n d b 1000 p) (k:Bd c [x]) (B:n<=100000) (u:d<=100) (hb:(b+c+1)*(n+1)<=60000000000000):HT (p.map fun m=>(m.1*x,m.2)):=
 ⟨n,d,b+c,⟨⟨by rw[List.length_map];exact h.pb.len,fun z g=>by obtain⟨y,f,rfl⟩:=List.mem_map.1 g;exact h.pb.Ef y f,fun z g=>by obtain⟨y,f,rfl⟩:=List.mem_map.1 g;exact Qn (h.pb.cb y f) k⟩,fun z g=>by obtain⟨y,f,rfl⟩:=List.mem_map.1 g;exact h.vr y f⟩,B,u,hb⟩
theorem lU (p q:List Mo):(p.flatMap fun m=>E6 m q).length=p.length*q.length:=by
 induction p with
 | nil=>simp
 | cons y p f=>rw[List.flatMap_cons,List.length_append,f,List.length_cons,Nat.succ_mul,E6,List.length_map];omega
theorem qh (h:PV n d b 1000 p) (k:PV m e c 1000 q) (F:n*m<=100000) (D:d+e<=100) (hb:(b+c+1)*(n*m+1)<=60000000000000):HT (p.flatMap fun m=>E6 m q):=by
 have f:∀x∈p.flatMap (fun m=>E6 m q),∃y∈p,∃z∈q,x=(y.1*z.1,y.2++z.2):=fun x f=>by
  obtain⟨y,g,f⟩:=List.mem_flatMap.1 f;obtain⟨z,u,rfl⟩:=List.mem_map.1 f;exact⟨y,g,z,u,rfl⟩
 refine⟨n*m,d+e,b+c,⟨⟨by rw[lU];exact Nat.mul_le_mul h.pb.len k.pb.len,fun x B=>?_,fun x B=>?_⟩,fun x B v G=>?_⟩,F,D,hb⟩ <;> obtain⟨y,g,z,u,rfl⟩:=f x B
 ·show (y.2++z.2).length<=_;rw[List.length_append];exact Nat.add_le_add (h.pb.Ef y g) (k.pb.Ef z u)
 ·exact Qn (h.pb.cb y g) (k.pb.cb z u)
 exact (List.mem_append.1 G).elim (h.vr y g v) (k.vr z u v)
end
theorem PV.at {n d b:Nat} {p:List Mo} (h:PV n d b 1000 p) (hb:b<=60000000000000) {m:Mo} (hm:m∈p):B8 m.1/\m.2.length<=d:=⟨Qo (h.pb.cb m hm) hb,h.pb.Ef m hm⟩
def BN (p:List Mo):List (el (.pr AG (.sl .i64))):=p.map fun m=>(rp m.1,m.2)
theorem IG (p:List Mo):(BN p).length=p.length:=List.length_map _
theorem UA (p q:List Mo):BN (p++q)=BN p++BN q:=List.map_append
theorem IF {p:List Mo} {i:Nat} {x:el (.pr AG (.sl .i64))} (h:(BN p)[i]? =some x):∃m,p[i]? =some m/\x=(rp m.1,m.2):=by
 unfold BN at h;rw[List.getElem?_map] at h;cases e:p[i]? with
 | none=>rw[e] at h;cases h
 | some m=>rw[e] at h;exact⟨m,rfl,(Option.some.inj h).symm⟩
theorem nd (p:List Mo) (i:Nat) (m:Mo):BN (p.set i m)=(BN p).set i (rp m.1,m.2):=List.map_set
theorem na (p:List Mo) (i:Nat) (m:Mo):BN (p.take i++m::p.drop i)=(BN p).take i++((rp m.1,m.2)::(BN p).drop i):=by
 unfold BN;rw[List.map_append,List.map_cons,List.map_take,List.map_drop]
theorem FF.le2 {l out:List Int} {i k:Nat} {a b:Int} (h:FF l out i k) (g:0<k) (ha:out[k-1]? =some a) (hb:out[k]? =some b) (f:¬a>b):out=CQ (l.take (i+1))++l.drop (i+1):=by
 obtain⟨j,rfl⟩:∃j,k=j+1:=⟨k-1,AA⟩
 exact h.le ha hb f
theorem FF.gt2 {l out:List Int} {i k:Nat} {a b:Int} (h:FF l out i k) (g:0<k) (ha:out[k-1]? =some a) (hb:out[k]? =some b) (f:a>b):FF l ((out.set (k-1) b).set k a) i (k-1):=by
 obtain⟨j,rfl⟩:∃j,k=j+1:=⟨k-1,AA⟩
 exact h.gt ha hb f
abbrev AS:T:= .pr AG (.sl .i64)
theorem ZM {c l1 l2 l3:List (el AS)} {o:List Mo} {m:Mo} {x:el AS} {v:List Int} {k:Nat} (h:c=BN o) (z:x=(rp m.1,m.2)) (u:v=CQ m.2) (f:l1=[]++c.take k) (g:l2=l1++[(x.1,v)]) (h3:l3=l2++c.drop k):l3=BN (o.take k++(m.1,CQ m.2)::o.drop k):=by
 rw[h3,g,f,h,na,z,u];simp
theorem qS {c l1:List (el AS)} {o:List Mo} {m:Mo} {k:Nat} {q:Rat} {b1 b2:Bool} {l2 l3:List UInt32} {v:List Int} (g:c=BN o) (u:BV q b1 l2 b2 l3) (h:v=m.2) (f:l1=c.set k (((b1,l2),(b2,l3)),v)):l1=BN (o.set k (q,m.2)):=by
 rw[f,nd,u.rp,g,h]
def IC (o:List Mo) (j:Nat):List Mo:=(o.take j).filter fun m=>decide (m.1≠0)
theorem mz {o:List Mo} {j:Nat} {m:Mo} (h:o[j]? =some m) (f:m.1≠0):IC o (j+1)=IC o j++[m]:=by
 unfold IC;rw[List.take_add_one,h,List.filter_append];simp[f]
theorem mw {o:List Mo} {j:Nat} {m:Mo} (h:o[j]? =some m) (f:m.1=0):IC o (j+1)=IC o j:=by
 unfold IC;rw[List.take_add_one,h,List.filter_append];simp[f]
theorem mu {o:List Mo} {j:Nat} (h:o.length<=j):IC o j=o.filter fun m=>decide (m.1≠0):=by unfold IC;rw[List.take_of_length_le h]
theorem my (o:List Mo) (j:Nat):(IC o j).length<=o.length:=Nat.le_trans (List.length_filter_le _ _) (List.length_take_le' _ _)
theorem nf {c l1:List (el AS)} {o:List Mo} {m:Mo} {x:el AS} (g:c=BN o) (h:x=(rp m.1,m.2)) (f:l1=c++[x]):l1=BN (o++[m]):=by rw[f,g,h,UA];rfl
theorem dI {q:Rat} {r:Int} (h:r=Dm q):r=0↔q=0:=by
 rw[h];unfold Dm Cd;rw[<-Rat.num_eq_zero]
 split
 ·omega
 split <;> omega
theorem lV {p q:List Mo} {i:Nat} {m:Mo} (h:p[i]? =some m):(p.take (i+1)).flatMap (fun m=>E6 m q)=(p.take i).flatMap (fun m=>E6 m q)++E6 m q:=by
 rw[List.take_add_one,h,List.flatMap_append];simp
theorem pA {m:Mo} {q:List Mo} {i:Nat} {n:Mo} (h:q[i]? =some n):E6 m (q.take (i+1))=E6 m (q.take i)++[(m.1*n.1,m.2++n.2)]:=by
 unfold E6;rw[List.take_add_one,h,List.map_append];rfl
theorem o9 {m:Mo} {q:List Mo} {i:Nat} (h:q.length<=i):E6 m (q.take i)=E6 m q:=by rw[List.take_of_length_le h]
theorem qP {p:List Mo} {c:Rat} {i:Nat} {m:Mo} (h:p[i]? =some m):(p.take (i+1)).map (fun m=>(m.1*c,m.2))=(p.take i).map (fun m=>(m.1*c,m.2))++[(m.1*c,m.2)]:=by
 rw[List.take_add_one,h,List.map_append];rfl
theorem Zz {c l1:List (el AS)} {o:List Mo} {q:Rat} {b1 b2:Bool} {l2 l3:List UInt32} {v u:List Int} (g:c=BN o) (z:BV q b1 l2 b2 l3) (h:v=u) (f:l1=c++[(((b1,l2),(b2,l3)),v)]):l1=BN (o++[(q,u)]):=by rw[f,g,h,UA,<-z.rp];rfl
theorem qQ {bk:Nat->Option Af} {f:List Nat} {n:Nat} {t:T} {l:List (el t)} (h:n=l.length):QX bk f (if n=l.length then .one (.sl t l) else .one .Bx)= .one (.sl t l):=by rw[if_pos h];rfl
theorem jm (b:List Int):HA [] b=0:=by cases b <;> simp[HA]
theorem Xi {a b:List Int} (h:a.length=b.length):Gp a b=HA a b:=if_neg (Decidable.not_not.2 h)
theorem jo {a b:List Int} (h:a.length≠b.length):Gp a b=a.length-b.length:=if_pos h
end
section
section
variable {TT:AD->Prop} {w:AD} {R b c M q p:Nat} {cr:List (el AY)} {ρ:Int->Re}
def Mu (cr:List (el AY)) (vs:List Int) (x:Nat->el AY):Prop:=∀(j:Nat) (v:Int) (y:el AY),vs[j]? =some v->cr[v.toNat]? =some y->CF 35 [.agg (cN (x j)),.agg (cN y)] (BY (cN (x (j+1))) 0)
theorem UC (F:Fm TT w R b c M q p) {kk:Nat} (D:kk+c+1<=M):∀(vs:List Int) (f:el AY) (c0:Re) (k:Nat),(∀v∈vs,∃y,cr[v.toNat]? =some y/\Nm TT w b kk y.1 y.2 (ρ v))->Nm TT w b k f.1 f.2 c0->k+vs.length*(kk+1)+c+1<=M->
  ∃x:Nat->el AY,x 0=f/\Mu cr vs x/\Nm TT w b (k+vs.length*(kk+1)) (x vs.length).1 (x vs.length).2 (c0*DA ρ vs)
 | [],f,c0,k,_,g,_=>⟨fun _=>f,rfl,fun j v y h=>by simp at h,by show Nm TT w b (k+0*(kk+1)) f.1 f.2 (c0*1);rw[Nat.zero_mul,Nat.add_zero,show c0*1=c0 by grind];exact g⟩
 | v::vs,f,c0,k,B,g,J=>by
  rw[List.length_cons,Nat.succ_mul] at J;obtain⟨y,O,U⟩:=B v List.mem_cons_self;obtain⟨T,A,I,_,c1⟩:=Gx F g U AA D;obtain⟨x,H,L,K⟩:=UC F D vs (T,A) (c0*ρ v) (k+kk+1) (fun u hu=>B u (List.mem_cons_of_mem _ hu)) I AA;refine⟨fun | 0=>f | j+1=>x j,rfl,fun j u z hu G=>?_,?_⟩
  ·match j with
   | 0=>
    obtain rfl:v=u:=by simpa using hu
    obtain rfl:=Option.some.inj (O.symm.trans G)
    show Eb _ false _ [.agg (cN f),.agg (cN y)] (BY (cN (x 0)) 0)
    rw[H];exact c1
   | j+1=>exact L j u z (by simpa using hu) G
  show Nm TT w b (k+(vs.length+1)*(kk+1)) (x vs.length).1 (x vs.length).2 (c0*(ρ v*DA ρ vs))
  rw[Nat.succ_mul,show c0*(ρ v*DA ρ vs)=c0*ρ v*DA ρ vs by grind,(AA:k+(vs.length*(kk+1)+(kk+1))=k+kk+1+vs.length*(kk+1))];exact K
def Vs (zs:List (el AY)) (s:Nat->el AY):Prop:=∀(i:Nat) (z:el AY),zs[i]? =some z->CF 32 [.agg (cN (s i)),.agg (cN z)] (BY (cN (s (i+1))) 0)
theorem XC (F:Fm TT w R b c M q p) {wt:Mo->Nat}:∀(P:List Mo) (g:List (el AY)) (f:el AY) (c0:Re) (k:Nat),g.length=P.length->(∀(i:Nat) (m:Mo) (z:el AY),P[i]? =some m->g[i]? =some z->Nm TT w b (wt m) z.1 z.2 (Re.ofRat m.1*DA ρ m.2))->Nm TT w b k f.1 f.2 c0->(P.map fun m=>wt m+1).sum+k+c+1<=M->
  ∃s:Nat->el AY,s 0=f/\Vs g s/\Nm TT w b (k+(P.map fun m=>wt m+1).sum) (s P.length).1 (s P.length).2 (c0+Bf ρ P)
 | [],[],f,c0,k,_,_,B,_=>⟨fun _=>f,rfl,fun j z h=>by simp at h,by show Nm TT w b (k+0) f.1 f.2 (c0+0);rw[show c0+0=c0 by grind];exact B⟩
 | m::P,z::g,f,c0,k,K,G,B,J=>by
  rw[List.map_cons,List.sum_cons] at J;obtain⟨T,A,I,_,c1⟩:=N2 F B (G 0 m z rfl rfl);obtain⟨s,H,L,D⟩:=XC F P g (T,A) (c0+Re.ofRat m.1*DA ρ m.2) (k+wt m+1) (by simpa using K) (fun i n y D u=>G (i+1) n y (by simpa using D) (by simpa using u)) I AA;refine⟨fun | 0=>f | j+1=>s j,rfl,fun j y u=>?_,?_⟩
  ·match j with
   | 0=>
    obtain rfl:z=y:=by simpa using u
    show Eb _ false _ [.agg (cN f),.agg (cN z)] (BY (cN (s 0)) 0)
    rw[H];exact c1
   | j+1=>exact L j y (by simpa using u)
  show Nm TT w b (k+((wt m+1)+(P.map fun m=>wt m+1).sum)) (s P.length).1 (s P.length).2 (c0+(Re.ofRat m.1*DA ρ m.2+Bf ρ P))
  rw[show c0+(Re.ofRat m.1*DA ρ m.2+Bf ρ P)=c0+Re.ofRat m.1*DA ρ m.2+Bf ρ P by grind,(AA:k+(wt m+1+(P.map fun m=>wt m+1).sum)=k+wt m+1+(P.map fun m=>wt m+1).sum)];exact D
end
end
section
def OX (cr:List (el AY)) (p:List Mo) (z:el AY):Prop:=∃(zs:List (el AY)) (s:Nat->el AY),zs.length=p.length/\(∀(i:Nat) (m:Mo) (y:el AY),p[i]? =some m->zs[i]? =some y->∃x:Nat->el AY,x 0=([],[rp m.1])/\Mu cr m.2 x/\x m.2.length=y)/\s 0=([],[rp 0])/\Vs zs s/\s p.length=z
section
variable {TT:AD->Prop} {w:AD} {R b c M q p k:Nat}
theorem UM (F:Fm TT w R b c M q p) (f:c<=M) {r:Rat} (h:Bd (k*b) [r]):Nm TT w b k [] [rp r] (Re.ofRat r):=by
 have G:=F.g f (Nat.le_refl c);exact⟨[],G.nil,rfl,(Ds r).symm,Fy r [],El.rat (G.BG F.top).red h⟩
theorem lI (F:Fm TT w R b c M q p) {cr:List (el AY)} {ρ:Int->Re} {wt:Mo->Nat} {P:List Mo} (h:∀m∈P,∃x:Nat->el AY,x 0=([],[rp m.1])/\Mu cr m.2 x/\Nm TT w b (wt m) (x m.2.length).1 (x m.2.length).2 (Re.ofRat m.1*DA ρ m.2)) (J:(P.map fun m=>wt m+1).sum+c+2<=M):∃z,OX cr P z/\Nm TT w b (1+(P.map fun m=>wt m+1).sum) z.1 z.2 (Bf ρ P):=by
 have h':∀m:Mo,∃x:Nat->el AY,m∈P->x 0=([],[rp m.1])/\Mu cr m.2 x/\Nm TT w b (wt m) (x m.2.length).1 (x m.2.length).2 (Re.ofRat m.1*DA ρ m.2):=fun m=>by
  by_cases hm:m∈P
  ·obtain⟨x,H⟩:=h m hm;exact⟨x,fun _=>H⟩
  exact⟨fun _=>([],[]),fun h=>absurd h hm⟩
 have u:∀{i:Nat} {m:Mo} {y:el AY},P[i]? =some m->(P.map fun m=>(h' m).choose m.2.length)[i]? =some y->m∈P/\(h' m).choose m.2.length=y:=fun {i m y} hm g=>by
  rw[List.getElem?_map,hm] at g;exact⟨List.mem_of_getElem? hm,Option.some.inj g⟩
 obtain⟨s,B,G,D⟩:=XC F (ρ:=ρ) (wt:=wt) P (P.map fun m=>(h' m).choose m.2.length) ([],[rp 0]) 0 1 (List.length_map _) (fun i m z hm I=>by
  obtain⟨f,rfl⟩:=u hm I;exact ((h' m).choose_spec f).2.2) (UM F AA (Ha (b:=1*b) (r:=0) (by decide +kernel) (by have:=F.hb;omega))) AA
 refine⟨s P.length,⟨_,s,List.length_map _,fun i m y hm g=>?_,B,G,rfl⟩,?_⟩
 ·obtain⟨f,rfl⟩:=u hm g;exact⟨(h' m).choose,((h' m).choose_spec f).1,((h' m).choose_spec f).2.1,rfl⟩
 rwa [show (0:Re)+Bf ρ P=Bf ρ P by grind] at D
end
theorem lH {Q:AD->Prop} {w w':AD} {TT:AD->Prop} (F:Fl (Tf Q) w) (B:F9 TT w') (lift:∀{k':Nat} {K:KH} {J:KI} {x:Re},k'<=22000->Nm (Tf Q) w 2100 k' K J x->Nm TT w' 47000000 1 K J x) {cr:List (el AY)} {ρ:Int->Re} {r N:Int} (old:∀v:Int,0<=v/\v<N->v≠r->∃y,cr[v.toNat]? =some y/\NF Q w 20 y (ρ v)) (new:∀y,cr[r.toNat]? =some y->Nm TT w' 47000000 10 y.1 y.2 (ρ r)) (W:∃y,cr[r.toNat]? =some y) {n b:Nat} {P:List Mo} (h:PV n 4 b N P) (hb:b<=21000000) {k:Nat} (hk:wP r 2 46 P<=k) (U:k<=640):∃z,OX cr P z/\Nm TT w' 47000000 (k+1) z.1 z.2 (Bf ρ P):=by
 have hw:∀l:List Mo,(l.map fun m=>FB r 1 45 m.2+1).sum=wP r 2 46 l:=fun l=>by
  unfold wP;congr 1;refine List.map_congr_left fun m _=>?_;unfold FB;split <;> rfl
 suffices H:∀m∈P,∃x:Nat->el AY,x 0=([],[rp m.1])/\Mu cr m.2 x/\Nm TT w' 47000000 (FB r 1 45 m.2) (x m.2.length).1 (x m.2.length).2 (Re.ofRat m.1*DA ρ m.2) from by
  obtain⟨z,O,T⟩:=lI B (wt:=fun m=>FB r 1 45 m.2) H (by rw[hw];omega);exact⟨z,O,T.mono (by rw[hw];omega)⟩
 intro m hm;have Z:=h.pb.Ef m hm;have L:=(h.pb.cb m hm).mono hb
 by_cases f:r∈m.2
 ·obtain⟨x,D,I,G⟩:=UC (cr:=cr) (ρ:=ρ) B (kk:=10) AE m.2 ([],[rp m.1]) (Re.ofRat m.1) 1 (fun v g=>by
   by_cases e:v=r
   ·subst e;obtain⟨y,u⟩:=W;exact⟨y,u,new y u⟩
   obtain⟨y,u,Y⟩:=old v (h.vr m hm v g) e;exact⟨y,u,(lift AE Y).mono AE⟩) (UM B AE (L.mono AE)) AA
  exact⟨x,D,I,G.mono (by show _<=FB r 1 45 m.2;rw[FB,if_pos f];omega)⟩
 obtain⟨x,D,I,G⟩:=UC (cr:=cr) (ρ:=ρ) F (kk:=20) AE m.2 ([],[rp m.1]) (Re.ofRat m.1) 10000 (fun v g=>old v (h.vr m hm v g) fun e=>f (e ▸ g)) (UM F AE (L.mono AE)) AA;exact⟨x,D,I,by show Nm TT w' 47000000 (FB r 1 45 m.2) _ _ _;rw[FB,if_neg f];exact lift AA G⟩
end
section
def Le (a c r:Int):List Mo:=CH (CU (Aw c a) (Aw c a)) (CV (B7 r))
def Lf (r:Int) (v:Rat):List Mo:=CH (B7 r) (Ek v)
def Lg (r s:Int):List Mo:=CH (B7 r) (B7 s)
def Lh (a e c r:Int):List Mo:=CH (CV (EM (Aw a e) (Aw a c))) (Dj (CV (B7 r)) (CU (Aw a e) (Aw a e)))
def Li (c d r s:Int):List Mo:=CH (CU (Aw c d) (Aw c d)) (CV (EW (B7 r) (B7 s)))
section
variable {ρ:Int->Re} {a c d e r s:Int}
theorem lC:Bf ρ (Le a c r)=(ρ (2*a)-ρ (2*c))*(ρ (2*a)-ρ (2*c))+(ρ (2*a+1)-ρ (2*c+1))*(ρ (2*a+1)-ρ (2*c+1))-ρ r*ρ r:=by unfold Le;rw[JU,Sw,Pq,JV,(JW c a).1,(JW c a).2]
theorem lD {v:Rat}:Bf ρ (Lf r v)=ρ r-Re.ofRat v:=by unfold Lf;rw[JU,JV,ky]
theorem lE:Bf ρ (Lg r s)=ρ r-ρ s:=by unfold Lg;rw[JU,JV,JV]
theorem lF:Bf ρ (Lh a e c r)=((ρ (2*e)-ρ (2*a))*(ρ (2*c+1)-ρ (2*a+1))-(ρ (2*e+1)-ρ (2*a+1))*(ρ (2*c)-ρ (2*a)))*((ρ (2*e)-ρ (2*a))*(ρ (2*c+1)-ρ (2*a+1))-(ρ (2*e+1)-ρ (2*a+1))*(ρ (2*c)-ρ (2*a)))-ρ r*ρ r*((ρ (2*e)-ρ (2*a))*(ρ (2*e)-ρ (2*a))+(ρ (2*e+1)-ρ (2*a+1))*(ρ (2*e+1)-ρ (2*a+1))):=by
 unfold Lh;rw[JU,Pq,lB,Lk,Pq,JV,Sw,(JW a e).1,(JW a e).2,(JW a c).1,(JW a c).2]
theorem lG:Bf ρ (Li c d r s)=(ρ (2*d)-ρ (2*c))*(ρ (2*d)-ρ (2*c))+(ρ (2*d+1)-ρ (2*c+1))*(ρ (2*d+1)-ρ (2*c+1))-(ρ r+ρ s)*(ρ r+ρ s):=by unfold Li;rw[JU,Sw,Pq,Su,JV,JV,(JW c d).1,(JW c d).2]
end
section
variable {n m d b c:Nat} {N:Int} {p q:List Mo}
theorem Qm (h:PV n d b N p) (k:PV m d c N q) (f:(c+2)*m<=b):PV (n+m) d ((b+1)*(n+m)) N (CH p q):=
 ⟨Uc h.pb ((Ud k.pb O9).mono Bi Bi (by rw[(AA:c+1+1=c+2)];exact f)),eu h.vr k.vr⟩
end
structure Wk (t N:Int) (p:List Mo):Prop where
 pv:∃n b,b<=21000000/\PV n 4 b N p
 w:wP t 2 46 p<=640
section
variable {AI N t:Int} {a c d e r s:Int}
theorem fF {x y:Ar} (h:Eu 2 1 6 (2*AI) x) (k:Eu 2 1 6 (2*AI) y) (ht:2*AI<=t):wP t 2 46 (CU x y)<=16:=by
 have f:=Kt h k;have:=Vc (o:=2) (e:=46) ht f.vr;have:=f.pb.len;omega
theorem sO (h:0<=r/\r<N) (u:0<=s/\s<N):Wk t N (Lg r s):=
 ⟨⟨2,6,AE,(Ql (b:=0) (Gi h) (Gi u)).mono AE AE AE (Int.le_refl _)⟩,by
  have f:=KB (r:=t) (o:=2) (e:=46) AE (B7 r);have g:=KB (r:=t) (o:=2) (e:=46) AE (B7 s);have h3:=OR (r:=t) (o:=2) (e:=46) (B7 r) (B7 s);have e1:∀v,(B7 v).length=1:=fun _=>rfl
  rw[e1] at f g;unfold Lg;omega⟩
theorem sN {v:Rat} (h:0<=r/\r<N) (u:Bd 2100 [v]):Wk t N (Lf r v):=by
 have f:PV 1 1 2101 N (Ek v):=(bQ u).mono Bi AE Bi (Int.le_refl _);refine⟨⟨2,21000,AE,(Qm (b:=2103) ((Gi h).mono Bi Bi AE (Int.le_refl _)) f AE).mono AE AE AE (Int.le_refl _)⟩,?_⟩;have g:=KB (r:=t) (o:=2) (e:=46) AE (B7 r);have z:=KB (r:=t) (o:=2) (e:=46) AE (Ek v);have h3:=OR (r:=t) (o:=2) (e:=46) (B7 r) (Ek v);have e1:(B7 r).length=1:=rfl;have:=f.pb.len;rw[e1] at g;unfold Lf;omega
theorem sM (ha:0<=a/\a<AI) (h:0<=c/\c<AI) (u:0<=r/\r<N) (ht:2*AI<=t) (g:2*AI<=N):Wk t N (Le a c r):=by
 have w:=NC h ha;have f:=Jy (Gi u);refine⟨⟨9,3825,AE,(Qm ((Kt w w).mono Bi Bi Bi g) f AE).mono AE AE AE (Int.le_refl _)⟩,?_⟩;have z:=fF w w ht;have h3:=KB (r:=t) (o:=2) (e:=46) AE (CV (B7 r));have B:=f.pb.len;have D:=OR (r:=t) (o:=2) (e:=46) (CU (Aw c a) (Aw c a)) (CV (B7 r));unfold Le;omega
theorem sR (h:0<=c/\c<AI) (u:0<=d/\d<AI) (z:0<=r/\r<N) (B:0<=s/\s<N) (ht:2*AI<=t) (g:2*AI<=N):Wk t N (Li c d r s):=by
 have w:=NC h u;have f:=Jy (Ul (b:=0) (Gi z) (Gi B));refine⟨⟨12,5100,AE,(Qm ((Kt w w).mono Bi Bi Bi g) f AE).mono AE AE AE (Int.le_refl _)⟩,?_⟩;have D:=fF w w ht;have h3:=KB (r:=t) (o:=2) (e:=46) AE (CV (EW (B7 r) (B7 s)));have F:=f.pb.len;have G:=OR (r:=t) (o:=2) (e:=46) (CU (Aw c d) (Aw c d)) (CV (EW (B7 r) (B7 s)));unfold Li;omega
theorem sQ (ha:0<=a/\a<AI) (he:0<=e/\e<AI) (z:0<=c/\c<AI) (B:0<=r/\r<N) (ht:2*AI<=t) (h:2*AI<=N):Wk t N (Lh a e c r):=by
 have w:=NC ha he;have u:=NC ha z;have f:=Jy (bO w u);have g:=Hl (Jy (Gi B)) ((Kt w w).mono Bi Bi Bi h);refine⟨⟨72,19837512,AE,(Qm (f.mono Bi Bi Bi h) g AE).mono AE AE AE (Int.le_refl _)⟩,?_⟩;have h3:=Vc (o:=2) (e:=46) ht f.vr;have D:=f.pb.len;have F:=KB (r:=t) (o:=2) (e:=46) AE (Dj (CV (B7 r)) (CU (Aw a e) (Aw a e)));have G:=g.pb.len;have H:=OR (r:=t) (o:=2) (e:=46) (CV (EM (Aw a e) (Aw a c))) (Dj (CV (B7 r)) (CU (Aw a e) (Aw a e)));unfold Lh;omega
end
end
section
def Mr (kd sd:Int) (Q C:List Int) (vl:LR) (AJ:List Int) (AI t:Int) (p:List Mo):Prop:=
 (kd=13/\∃a,Q=[a]/\C=[t]/\p=Le a (CJ AJ C 0) (2*AI+t))\/
 (kd=14/\C=[t]/\∃q,vl=[rp q]/\p=Lf (2*AI+t) q)\/
 (kd=15/\∃c d,C=[c,d]/\p=Lg (2*AI+c) (2*AI+d))\/
 (kd=16/\∃a e,Q=[a,e]/\C=[t]/\p=Lh a e (CJ AJ C 0) (2*AI+t))\/
 (kd=17/\sd=1/\∃c d,C=[c,d]/\p=Li (CJ AJ C 0) (CJ AJ C 1) (2*AI+c) (2*AI+d))
section
variable {TT:AD->Prop} {w:AD} {R b c M q p k l:Nat}
theorem OK (F:Fm TT w R b c M q p) {kd sd t AI x:Int} {Q C:List Int} {X:List Ex} {vl:LR} {AJ:List Int} {cr:List (el AY)} {r:el AY} {v:Re} (I:Nm TT w b k r.1 r.2 v) (h:k+c+1<=M)
  (u:CF 22 [.agg (cC kd Q C X sd),.one (.sl .i64 AJ),AH t] (.one (.bool true))) (hR:CI Tryz.prog 23 [CT,AH t] (.var 0 (Be kd Q C X sd vl AJ AI cr 0)) (.one (.bool true)) (.var 0 (Be kd Q C X sd vl AJ AI cr 0)))
  (O:x=B9 t C 0) (G:CI Tryz.prog 24 [CT,AH x] (.var 0 (Be kd Q C X sd vl AJ AI cr 0)) (.agg (cN r)) (.var 0 (Be kd Q C X sd vl AJ AI cr 0))):
  (∃e,e≠0/\En (CF 6 [.agg (cC kd Q C X sd),AO vl,.one (.sl .i64 AJ),AH AI,AH t,.one (.sl AY cr)]) e)\/(0<v/\∃z:el AY,CF 6 [.agg (cC kd Q C X sd),AO vl,.one (.sl .i64 AJ),AH AI,AH t,.one (.sl AY cr)] (BY (cN z) 0)/\Nm TT w b k z.1 z.2 v):=by
 obtain⟨g,T,c2,_⟩:=MD F I h;obtain⟨B,L,c3,_⟩:=QY F I h;obtain⟨D,H,J,_⟩:=QY F L h;have f:=OZ O;rcases FX v with⟨_,e⟩ |⟨_,e⟩ |⟨K,e⟩ <;> obtain rfl:=T.trans e
 ·exact .inl ⟨7,AE,[],[],qE u hR f G c2 rfl⟩
 ·exact .inl ⟨6,AE,[],[],qC u hR f G c2 rfl⟩
 rw[show- -v=v by grind] at H;exact .inr ⟨K,(_,D),qF u hR f G c2 rfl c3 J,H⟩
end
section
variable {P:AD->Prop} {V:List Re} {w:AD} {cr:List (el AY)} {AI:Int} {nc:Nat}
theorem FD.ndp {AJ:List Int} (H:FD P w cr AI AJ.length) (F:Fl (Tf P) w) {kd sd:Int} {Q C:List Int} {X:List Ex} {vl:LR} {Ee:Int} (f:∀c∈C,0<=c/\c<(AJ.length:Nat)):∃b:Bool,
  CI Tryz.prog 23 [CT,AH Ee] (.var 0 (Be kd Q C X sd vl AJ AI cr 0)) (.one (.bool b)) (.var 0 (Be kd Q C X sd vl AJ AI cr 0)):=by
 have u:=H.len;have hb:=H.b;obtain⟨s,z⟩:=H.sg F;refine⟨C.all (Z7 Ee s),ca (q:=C.any fun c=> !Z7 Ee s c) ⟨AA,AA⟩ (fun _=>Vy (fun c g=>?_) rfl) ?_⟩
 ·have h:=f c g;obtain⟨_,_,_,c1,_⟩:=z c h;exact pZ ⟨AA,AA⟩ ⟨AA,AA⟩ (H.rd h) c1 rfl
 rw[decide_eq_true u,Bool.true_and];exact List.all_eq_not_any_not
theorem Ks {ρ:Int->Re} {N:Int} (f:∀i:Int,0<=i/\i<N->NF P w 20 (cr.getD i.toNat ([],[])) (ρ i)) (u:2*AI<=N) {p:Int} (z:0<=p/\p<AI):VF P w 20 (Ug cr p) (ρ (2*p)) (ρ (2*p+1)):=by
 have g:=f (2*p) ⟨AA,AA⟩;have h:=f (2*p+1) ⟨AA,AA⟩;rw[(AA:(2*p).toNat=2*p.toNat)] at g;rw[(AA:(2*p+1).toNat=2*p.toNat+1)] at h;exact⟨g,h⟩
end
end
section
section
variable {P:AD->Prop} {V:List Re} {w:AD} {cr:List (el AY)} {AI:Int}
structure At (ρ ρ':Int->Re) (N r:Int) (v:Re):Prop where
 old:∀i,0<=i/\i<N->i≠r->ρ' i=ρ i
 new:ρ' r=v
theorem qe (L:Pl P V w) (F:Fl (Tf P) w) {AJ:List Int} (H:FD P w cr AI AJ.length) {ρ:Int->Re} (J:∀i:Int,0<=i/\i<2*AI+(AJ.length:Nat)->NF P w 20 (cr.getD i.toNat ([],[])) (ρ i)) {kd sd t:Int} {Q C:List Int} {X:List Ex} {vl:LR} (B:HV kd Q C X sd AI (AJ.length:Nat)) (a6:EO (Co kd).2.2.2.2.1 vl/\vl.length=X.length) (a1:Dy AI AJ=true):
  (∃e,e≠0/\En (CF 6 [.agg (cC kd Q C X sd),AO vl,.one (.sl .i64 AJ),AH AI,AH t,.one (.sl AY cr)]) e)\/
  ∃(TT:AD->Prop) (O:AD) (z:el AY) (v:Re),F9 TT O/\(∀{k':Nat} {T':KH} {A':KI} {x:Re},k'<=22000->Nm (Tf P) w 2100 k' T' A' x->Nm TT O 47000000 1 T' A' x)/\CF 6 [.agg (cC kd Q C X sd),AO vl,.one (.sl .i64 AJ),AH AI,AH t,.one (.sl AY cr)] (BY (cN z) 0)/\Nm TT O 47000000 10 z.1 z.2 v/\0<v/\∃p,Mr kd sd Q C vl AJ AI t p/\Wk (2*AI+t) (2*AI+(AJ.length:Nat)) p/\∀D,At ρ D (2*AI+(AJ.length:Nat)) (2*AI+t) v->Bf D p=0:=by
 have hk:=B.kk;obtain⟨⟨l1,l2,l3⟩,l4,l5,l6,l7,l8⟩:=B.ls;have hP:∀p∈Q,0<=p/\p<AI:=fun p hp=>of_decide_eq_true (List.all_eq_true.1 B.wp p hp)
 have W:∀c∈C,0<=c/\c<(AJ.length:Nat):=fun p hp=>of_decide_eq_true (List.all_eq_true.1 B.wc p hp)
 obtain⟨b,hb⟩:∃b,b=sD kd sd (Cr C t) (Cr Q (CJ AJ C 0)) (CJ AJ C 0) (CJ AJ C 1):=⟨_,rfl⟩
 have ZS:=Rp (sd:=sd) (V:=X) B.wc l5 (hb.trans (size_eq hk B.nc).symm);have hlen:=H.len;have ao:=H.b;have hN:2*AI<=2*AI+(AJ.length:Nat):=AA
 cases b
 ·exact .inl ⟨1,AE,_,_,qH ZS⟩
 obtain⟨b,hR⟩:=H.ndp F (kd:=kd) (sd:=sd) (Q:=Q) (X:=X) (vl:=vl) (Ee:=t) W;cases b
 ·exact .inl ⟨1,AE,_,_,qG ZS hR⟩
 have hn:=B.np;have Z:=B.nc;have ab:=B.nv;have ar:=a6.2;have z0:NF P w 1 (([],em [] (Re.ofRat ((0:Int):Rat))):el AY) (Re.ofRat ((0:Int):Rat)):=MA F AE (Ha (by decide +kernel))
 have K:Cr C t=true:=by
  cases h:Cr C t
  ·rw[h] at hb;exact absurd hb (by unfold sD;rw[if_pos rfl];decide)
  rfl
 have aa:kd=13\/kd=14\/kd=15\/kd=16\/kd=17:=by
  have hle:∀k:Int,1<=k->k<=12-> @Eq Int (Co k).2.2.1 0:=fun k h1 h2=>by
   have Y:k=1\/k=2\/k=3\/k=4\/k=5\/k=6\/k=7\/k=8\/k=9\/k=10\/k=11\/k=12:=AA
   rcases Y with rfl | rfl | rfl | rfl | rfl | rfl | rfl | rfl | rfl | rfl | rfl | rfl <;> decide
  by_cases a8:kd<=12
  ·have e:=hle kd hk.1 a8;rw[show C=[] from List.eq_nil_of_length_eq_zero AA] at K;exact nomatch K
  omega
 rcases aa with rfl | rfl | rfl | rfl | rfl
 ·obtain⟨a,rfl⟩:=Lz (l:=Q) (by have e:(Q.length:Int)=1:=hn;omega);obtain⟨c,rfl⟩:=Lz (l:=C) (by have e:(C.length:Int)=1:=Z;omega);obtain rfl:=in_1 K;have cin:=PX (i:=0) a1 W (AE:0<1);have pa:=hP a Ai;have pc:=W c Ai;have gc:AJ[c.toNat]? =some (CJ AJ [c] 0):=getD_some AA;have ha:=Ks J hN pa;have Y:=Ks J hN cin;obtain⟨T1,A1,T2,A2,h1,c1⟩:=Mg F ha Y;obtain⟨T3,A3,h3,c3⟩:=RH F h1;obtain⟨TT,O,f,U,rt⟩:=Nz L h3 AE (ON _ _);obtain⟨_,_,r2,q2,_⟩:=rt.get AE h3;rcases OK (r:=(_,_)) f r2 AE ZS hR rfl (qJ (H.QM (BD 0) rfl pc.1 gc cin) (H.UB (BD 0) rfl pa) c1 c3 q2) with h |⟨h0,z,k1,k2⟩
  ·exact .inl h
  refine .inr ⟨TT,O,z,_,f,U,k1,k2.mono AE,h0,_,.inl ⟨rfl,a,rfl,rfl,rfl⟩,sM pa cin ⟨AA,AA⟩ AA AA,fun D h=>?_⟩;rw[lC,h.new,Re.G3 (ON _ _),h.old (2*a) ⟨AA,AA⟩ AA,h.old (2*a+1) ⟨AA,AA⟩ AA,h.old _ ⟨AA,AA⟩ AA,h.old (2*CJ AJ [c] 0+1) ⟨AA,AA⟩ AA];grind
 ·obtain⟨c,rfl⟩:=Lz (l:=C) (by have e:(C.length:Int)=1:=Z;omega);obtain rfl:=in_1 K;have pc:=W c Ai;obtain⟨v,rfl⟩:=Lz (l:=vl) (by have e:(X.length:Int)=1:=ab;omega);obtain⟨q,hq,hs,he,hp⟩:=VD a6.1 (i:=0) rfl;have nq:=MA F AE (Ha hs);rw[<-he] at nq;rw[Ds] at he;obtain⟨_,_,_,mv⟩:=ru (AI:=AI) (cr:=cr) F a6.1 (v:=v) (BD 0) rfl;obtain⟨TT,O,f,U,_⟩:=Nz L z0 AE (by rw[show Re.ofRat ((0:Int):Rat)=0 from rfl];grind);rcases OK (r:=([],[v])) f (U AE nq) AE ZS hR rfl (qK (mv _ _ _ _ _ _)) with h |⟨h0,z,k1,k2⟩
  ·exact .inl h
  refine .inr ⟨TT,O,z,_,f,U,k1,k2.mono AE,h0,_,.inr (.inl ⟨rfl,rfl,q,he,rfl⟩),sN ⟨AA,AA⟩ (Ha hs),fun D h=>?_⟩;rw[lD,h.new];grind
 ·obtain⟨c,d,rfl⟩:=TY (l:=C) (by have e:(C.length:Int)=2:=Z;omega);have pc:=W c Ai;have pd:=W d Ai;have ht:c=t\/d=t:=(TN K).imp_right in_1;have a5:d≠c:=(B.df (by unfold DR;decide)).2 1 0 d c AE rfl rfl;obtain⟨n,i1,i2,i3,i4⟩:=ZV ht;have a7:=aq (t:=t) pc pd;have hv:NF P w 20 (HJ cr AI (if c=t then d else c)) (ρ (2*AI+(if c=t then d else c))):=J _ ⟨AA,AA⟩;obtain⟨TT,O,f,U,_⟩:=Nz L z0 AE (by rw[show Re.ofRat ((0:Int):Rat)=0 from rfl];grind);rcases OK (r:=HJ cr AI (if c=t then d else c)) f (U AE hv) AE ZS hR i1.symm (qL rfl i3 (H.Z0 i2 i4 a7)) with h |⟨h0,z,k1,k2⟩
  ·exact .inl h
  refine .inr ⟨TT,O,z,_,f,U,k1,k2.mono AE,h0,_,.inr (.inr (.inl ⟨rfl,c,d,rfl,rfl⟩)),sO ⟨AA,AA⟩ ⟨AA,AA⟩,fun D h=>?_⟩;rw[lE];rcases ht with rfl | rfl
  ·rw[h.new,h.old (2*AI+d) ⟨AA,AA⟩ AA,if_pos rfl];grind
  rw[h.new,h.old (2*AI+c) ⟨AA,AA⟩ AA,if_neg (Ne.symm a5)];grind
 ·obtain⟨a,e,rfl⟩:=TY (l:=Q) (by have e:(Q.length:Int)=2:=hn;omega);obtain⟨c,rfl⟩:=Lz (l:=C) (by have e:(C.length:Int)=1:=Z;omega);obtain rfl:=in_1 K;have cin:=PX (i:=0) a1 W (AE:0<1);have pa:=hP a Ai;have pe:=hP e Ai;have pc:=W c Ai;have gc:AJ[c.toNat]? =some (CJ AJ [c] 0):=getD_some AA;have ha:=Ks J hN pa;have he:=Ks J hN pe;have Y:=Ks J hN cin;have ma:=H.UB (kd:=16) (sd:=sd) (Q:=[a,e]) (C:=[c]) (X:=X) (vl:=vl) (AJ:=AJ) (BD 0) rfl pa;have me:=H.UB (kd:=16) (sd:=sd) (Q:=[a,e]) (C:=[c]) (X:=X) (vl:=vl) (AJ:=AJ) (BD 1) rfl pe;have o1:∀{D v},At ρ D (2*AI+(AJ.length:Nat)) (2*AI+c) v->∀p,0<=p/\p<AI->D (2*p)=ρ (2*p)/\D (2*p+1)=ρ (2*p+1):=fun h p hp=>⟨h.old _ ⟨AA,AA⟩ AA,h.old _ ⟨AA,AA⟩ AA⟩
  generalize af:ρ (2*a)=g at ha
  generalize ai:ρ (2*a+1)=u at ha
  generalize ah:ρ (2*e)=G at he
  generalize ak:ρ (2*e+1)=I at he
  generalize ag:ρ (2*CJ AJ [c] 0)=xc at Y
  generalize aj:ρ (2*CJ AJ [c] 0+1)=yc at Y
  by_cases e0:g=G/\u=I
  ·exact .inl ⟨11,AE,_,_,qD ZS hR (OZ rfl) AE (qN ma me AE (nE F ha he AE AE AE AE e0) (WA AE (Q0 (by decide +kernel)) rfl))⟩
  have T:¬(I-u=0/\ -(G-g)=0):=fun h=>e0 ⟨by grind,by grind⟩
  obtain⟨U1,B1,U2,B2,U3,B3,k1,d1⟩:=nD F ha he AE AE AE AE e0 Bi Bi AE AE;obtain⟨U4,B4,k4,d4⟩:=nC F k1 Y (Zn T) Bi;rw[la (Zn T),kh T] at k4;obtain⟨T5,A5,T6,A6,w1,_⟩:=Mg F he ha;obtain⟨A7,w2,_⟩:=QY F w1.x;obtain⟨T7,an,w3,_⟩:=Gx F w1.y Y.x;obtain⟨T8,A8,w4,_⟩:=Gx F w2 Y.y;obtain⟨T9,A9,w5,_⟩:=N2 F w3 w4;obtain⟨S1,D1,w6,_⟩:=Gx F ha.x w1.y;obtain⟨S2,D2,w7,_⟩:=Gx F ha.y w2;obtain⟨S3,D3,w8,_⟩:=N2 F w6 w7;obtain⟨S4,D4,O,_⟩:=N3 F w5 w8;obtain⟨S5,D5,v1,_⟩:=Gx F O O
  obtain⟨S6,D6,v2,_⟩:=Gx F w1.y w1.y;obtain⟨S7,D7,v3,_⟩:=Gx F w2 w2;obtain⟨S8,D8,v4,_⟩:=N2 F v2 v3;obtain⟨S9,D9,v5,_⟩:=Jp F v1 v4 Bi (K6 T);have k5:=k4.shrink v5 rfl;have nn:0<=((I-u)*xc+ -(G-g)*yc-(g*(I-u)+u* -(G-g)))*((I-u)*xc+ -(G-g)*yc-(g*(I-u)+u* -(G-g)))*Bm ((I-u)*(I-u)+ -(G-g)* -(G-g)):=Re.QS (Re.IP _) (mZ (ON _ _) (K6 T));obtain⟨TT,al,f,U,rt⟩:=Nz L k5 AE nn;obtain⟨_,_,r2,q2,_⟩:=rt.get AE k5;rcases OK (r:=(_,_)) f r2 AE ZS hR rfl (qM ma me d1 (H.QM (BD 0) rfl pc.1 gc cin) d4 q2) with h |⟨h0,z,k1,k2⟩
  ·exact .inl h
  refine .inr ⟨TT,al,z,_,f,U,k1,k2.mono AE,h0,_,.inr (.inr (.inr (.inl ⟨rfl,a,e,rfl,rfl,rfl⟩))),sQ pa pe cin ⟨AA,AA⟩ AA AA,fun D h=>?_⟩;have i1:=F0 (K6 T);rw[lF,h.new,Re.G3 nn,(o1 h a pa).1,(o1 h a pa).2,(o1 h e pe).1,(o1 h e pe).2,(o1 h _ cin).1,(o1 h _ cin).2,af,ai,ah,ak,ag,aj]
  generalize Bm ((I-u)*(I-u)+ -(G-g)* -(G-g))=i at i1
  rw[show ((I-u)*xc+ -(G-g)*yc-(g*(I-u)+u* -(G-g)))*((I-u)*xc+ -(G-g)*yc-(g*(I-u)+u* -(G-g)))*i*((G-g)*(G-g)+(I-u)*(I-u))=((I-u)*xc+ -(G-g)*yc-(g*(I-u)+u* -(G-g)))*((I-u)*xc+ -(G-g)*yc-(g*(I-u)+u* -(G-g)))*(((I-u)*(I-u)+ -(G-g)* -(G-g))*i) by grind,i1]
  grind
 obtain⟨c,d,rfl⟩:=TY (l:=C) (by have e:(C.length:Int)=2:=Z;omega);have cin:=PX (i:=0) a1 W (AE:0<2);have a2:=PX (i:=1) a1 W (AE:1<2);have pc:=W c Ai;have pd:=W d Ai;have gc:AJ[c.toNat]? =some (CJ AJ [c,d] 0):=getD_some AA;have gd:AJ[d.toNat]? =some (CJ AJ [c,d] 1):=getD_some AA;have ht:c=t\/d=t:=(TN K).imp_right in_1;have a5:d≠c:=(B.df (by unfold DR;decide)).2 1 0 d c AE rfl rfl
 have ad:sd=1:=by
  rw[K] at hb;have:(sd==1&&(CJ AJ [c,d] 0 !=CJ AJ [c,d] 1))=true:=hb.symm;exact of_decide_eq_true (Bool.and_eq_true_iff.1 this).1
 obtain⟨n,i1,i2,i3,i4⟩:=ZV ht;have a7:=aq (t:=t) pc pd;have hv:NF P w 20 (HJ cr AI (if c=t then d else c)) (ρ (2*AI+(if c=t then d else c))):=J _ ⟨AA,AA⟩;have ha:=Ks J hN cin;have Y:=Ks J hN a2;obtain⟨T1,A1,T2,A2,h1,c1⟩:=Mg F Y ha;obtain⟨T3,A3,h3,c3⟩:=RH F h1;obtain⟨TT,O,f,U,rt⟩:=Nz L h3 AE (ON _ _);obtain⟨_,_,r2,q2,_⟩:=rt.get AE h3;have ae:=U AE hv;obtain⟨_,_,r3,q3,_⟩:=N3 f r2 ae;rcases OK (r:=(_,_)) f r3 AE ZS hR i1.symm (qO (H.QM (BD 0) rfl pc.1 gc cin) (H.QM (BD 1) rfl pd.1 gd a2) c1 c3 q2 rfl i3 (H.Z0 i2 i4 a7) q3) with h |⟨h0,z,k1,k2⟩
 ·exact .inl h
 refine .inr ⟨TT,O,z,_,f,U,k1,k2.mono AE,h0,_,.inr (.inr (.inr (.inr ⟨rfl,ad,c,d,rfl,rfl⟩))),sR cin a2 ⟨AA,AA⟩ ⟨AA,AA⟩ AA AA,fun D h=>?_⟩;have sq:=Re.G3 (ON (ρ (2*CJ AJ [c,d] 1)-ρ (2*CJ AJ [c,d] 0)) (ρ (2*CJ AJ [c,d] 1+1)-ρ (2*CJ AJ [c,d] 0+1)));rw[lG,h.old (2*CJ AJ [c,d] 1) ⟨AA,AA⟩ AA,h.old (2*CJ AJ [c,d] 1+1) ⟨AA,AA⟩ AA,h.old (2*CJ AJ [c,d] 0) ⟨AA,AA⟩ AA,h.old (2*CJ AJ [c,d] 0+1) ⟨AA,AA⟩ AA];rcases ht with rfl | rfl
 ·rw[h.new,h.old (2*AI+d) ⟨AA,AA⟩ AA,if_pos rfl];grind
 rw[h.new,h.old (2*AI+c) ⟨AA,AA⟩ AA,if_neg (Ne.symm a5)];grind
end
end
section
section
variable {P:AD->Prop} {V:List Re} {w:AD} {cr:List (el AY)} {AI:Int}
theorem FD.rho {nc:Nat} (H:FD P w cr AI nc):∃ρ:Int->Re,∀i:Int,0<=i/\i<2*AI+(nc:Nat)->NF P w 20 (cr.getD i.toNat ([],[])) (ρ i):=by
 have u:=H.len
 have h:∀i:Int,∃v:Re,0<=i/\i<2*AI+(nc:Nat)->NF P w 20 (cr.getD i.toNat ([],[])) v:=fun i=>by
  by_cases f:0<=i/\i<2*AI+(nc:Nat)
  ·obtain⟨v,g⟩:=H.nm _ _ (getD_some (d:=([],[])) (AA:i.toNat<cr.length));exact⟨v,fun _=>g⟩
  exact⟨0,fun h=>absurd h f⟩
 exact⟨fun i=>(h i).choose,fun i=>(h i).choose_spec⟩
theorem pI (L:Pl P V w) (F:Fl (Tf P) w) {AJ:List Int} (H:FD P w cr AI AJ.length) {kd sd t:Int} {Q C:List Int} {X:List Ex} {vl:LR} (ht:0<=t/\t<(AJ.length:Nat)) (W:HV kd Q C X sd AI (AJ.length:Nat)) (T:EO (Co kd).2.2.2.2.1 vl/\vl.length=X.length) (J:Dy AI AJ=true):
  (∃e,e≠0/\En (CF 6 [.agg (cC kd Q C X sd),AO vl,.one (.sl .i64 AJ),AH AI,AH t,.one (.sl AY cr)]) e)\/
  ∃z:el AY,CF 6 [.agg (cC kd Q C X sd),AO vl,.one (.sl .i64 AJ),AH AI,AH t,.one (.sl AY cr)] (BY (cN z) 0)/\CF 7 [.agg (cN z)] (AH 1)/\∃p,Mr kd sd Q C vl AJ AI t p/\(∃n b,b<=21000000/\PV n 4 b (2*AI+(AJ.length:Nat)) p)/\∃y,OX (cr.set (2*AI+t).toNat z) p y/\CF 7 [.agg (cN y)] (AH 0):=by
 have hl:=H.len;have hb:=H.b;obtain⟨ρ,I⟩:=H.rho;rcases qe L F H I W T J (t:=t) with h |⟨TT,w9,z,v,u,U,c1,hz,h0,p,he,hw,hv⟩
 ·exact .inl h
 obtain⟨g,K,_,cg⟩:=MD u hz;obtain rfl:g=1:=K.trans (HK h0);obtain⟨n,b,B,Y⟩:=hw.pv
 have G:∀i:Int,0<=i/\i<2*AI+(AJ.length:Nat)->i≠2*AI+t->(cr.set (2*AI+t).toNat z)[i.toNat]? =some (cr.getD i.toNat ([],[])):=fun i O D=>by
  rw[List.getElem?_set_ne AA];exact getD_some AA
 have f:(cr.set (2*AI+t).toNat z)[(2*AI+t).toNat]? =some z:=List.getElem?_set_self AA;have hA:At ρ (fun i=>if i=2*AI+t then v else ρ i) (2*AI+(AJ.length:Nat)) (2*AI+t) v:=⟨fun i _ D=>if_neg D,if_pos rfl⟩
 obtain⟨y,c2,Z⟩:=lH F u U (cr:=cr.set (2*AI+t).toNat z) (ρ:=fun i=>if i=2*AI+t then v else ρ i) (fun i O D=>⟨_,G i O D,by rw[if_neg D];exact I i O⟩) (fun x hx=>by
  obtain rfl:=Option.some.inj (f.symm.trans hx);rw[if_pos rfl];exact hz) ⟨z,f⟩ Y B hw.w AE
 rw[hv _ hA] at Z;obtain⟨g,K,_,cy⟩:=MD u Z;obtain rfl:g=0:=K.trans (by rcases FX (0:Re) with⟨a,_⟩ |⟨_,e⟩ |⟨a,_⟩ <;> first | exact e | exact absurd a (by grind));exact .inr ⟨z,c1,cg,p,he,⟨n,b,B,Y⟩,y,c2,cy⟩
end
end
section
def N5 (a b:Ar):Ar:=(EW a.1 b.1,EW a.2 b.2)
def tF (a:Int) (v:Rat):List Mo:=CH (B7 (2*a)) (Ek v)
def tG (a:Int) (v:Rat):List Mo:=CH (B7 (2*a+1)) (Ek v)
def eq2 (a b:Int) (v:Rat):List Mo:=CH (CU (Aw a b) (Aw a b)) (CV (Ek v))
def eq3 (a b c:Int):List Mo:=EM (Aw b c) (Aw b a)
def eq4 (a b c:Int) (v:Rat):List Mo:=CH (CV (EM (Aw b c) (Aw b a))) (Dj (CV (Ek v)) (CU (Aw b c) (Aw b c)))
def eq5 (a b c d:Int) (v:Rat):List Mo:=CH (EM (Aw a b) (Aw c d)) (Dj (Ek v) (CU (Aw a b) (Aw c d)))
def eq6 (a b c d:Int):List Mo:=EM (Aw a b) (Aw c d)
def eq7 (a b c d:Int):List Mo:=CU (Aw a b) (Aw c d)
def eq8 (a b c d:Int):List Mo:=CH (CU (Aw a b) (Aw a b)) (CU (Aw c d) (Aw c d))
def Yf (a b c:Int):Ar:=N5 (Aw b a) (Aw c a)
def tB (a b c d:Int):List Mo:=EM (N5 (Aw c a) (Aw c b)) (Aw c d)
def tC (a b:Int):List Mo:=CH (B7 (2*a+1)) (B7 (2*b+1))
def tD (a b:Int):List Mo:=CH (B7 (2*a)) (B7 (2*b))
def tE (c d r s:Int):List Mo:=CH (CU (Aw c d) (Aw c d)) (CV (CH (B7 r) (B7 s)))
section
variable {ρ:Int->Re} {a b c d r s:Int} {v:Rat}
end
def Wl (N:Int) (p:List Mo):Prop:=∃n b,n<=1000/\b<=21000000/\PV n 4 b N p
section
variable {AI N:Int} {a b c d r s:Int} {v:Rat}
theorem Eu.mono {n e k:Nat} {M f:Int} {x:Ar} (h:Eu n e k M x) (g:M<=f):Eu n e k f x:=⟨h.1.mono Bi Bi Bi g,h.2.mono Bi Bi Bi g⟩
end
end
section
def ef (ql:List Rat):List Mo:=match ql with | []=>[] | q::_=>Ek q
def C1 (AI:Int) (C:List Int) (i:Nat):List Mo:=match C[i]? with | none=>[] | some c=>B7 (2*AI+c)
def Hc (AJ C:List Int) (i:Nat):Int:=match C[i]? with | none=>0 | some x=>AJ.getD x.toNat 0
def HH (kd sd:Int) (p q r s:Int) (v:List Mo) (w:Rat) (R S:List Mo) (c d:Int):List (List Mo):=
 if kd=1 then [CH (B7 (2*p)) v,CH (B7 (2*p+1)) (Ek w)]
 else if kd=2 then [CH (CU (Aw p q) (Aw p q)) (CV v)]
 else if kd=3 then [EM (Aw q r) (Aw q p)]
 else if kd=4 then [CH (CV (EM (Aw q r) (Aw q p))) (Dj (CV v) (CU (Aw q r) (Aw q r)))]
 else if kd=5 then [CH (EM (Aw p q) (Aw r s)) (Dj v (CU (Aw p q) (Aw r s)))]
 else if kd=6 then [EM (Aw p q) (Aw r s)]
 else if kd=7 then [CU (Aw p q) (Aw r s)]
 else if kd=8 then [CH (CU (Aw p q) (Aw p q)) (CU (Aw r s) (Aw r s))]
 else if kd=9 then [(N5 (Aw q p) (Aw r p)).1,(N5 (Aw q p) (Aw r p)).2]
 else if kd=10 then [EM (N5 (Aw r p) (Aw r q)) (Aw r s),CU (Aw p q) (Aw r s)]
 else if kd=11 then [CH (B7 (2*p+1)) (B7 (2*q+1))]
 else if kd=12 then [CH (B7 (2*p)) (B7 (2*q))]
 else if kd=13 then [CH (CU (Aw c p) (Aw c p)) (CV R)]
 else if kd=14 then [CH R v]
 else if kd=15 then [CH R S]
 else if kd=16 then [CH (CV (EM (Aw p q) (Aw p c))) (Dj (CV R) (CU (Aw p q) (Aw p q)))]
 else if sd=1 then [CH (CU (Aw c d) (Aw c d)) (CV (EW R S))]
 else [CH (CU (Aw c d) (Aw c d)) (CV (CH R S))]
section
variable {sd p q r s:Int} {v:List Mo} {w:Rat} {R S:List Mo} {c d:Int}
theorem aM:HH 13 sd p q r s v w R S c d=[CH (CU (Aw c p) (Aw c p)) (CV R)]:=by simp only[HH];simp
theorem aN:HH 14 sd p q r s v w R S c d=[CH R v]:=by simp only[HH];simp
theorem aO:HH 15 sd p q r s v w R S c d=[CH R S]:=by simp only[HH];simp
theorem aP:HH 16 sd p q r s v w R S c d=[CH (CV (EM (Aw p q) (Aw p c))) (Dj (CV R) (CU (Aw p q) (Aw p q)))]:=by simp only[HH];simp
theorem aQ:HH 17 1 p q r s v w R S c d=[CH (CU (Aw c d) (Aw c d)) (CV (EW R S))]:=by simp only[HH];simp
end
section
variable {AI x:Int} {C AJ Q:List Int} {i:Nat}
theorem bW (h:C[i]? =some x):C1 AI C i=B7 (2*AI+x):=by unfold C1;rw[h]
theorem bX (h:C.length<=i):C1 AI C i=[]:=by unfold C1;rw[List.getElem?_eq_none h]
theorem X5 {y:Int} (h:C[i]? =some x) (k:AJ[x.toNat]? =some y):Hc AJ C i=y:=by unfold Hc;rw[h];show AJ.getD x.toNat 0=y;rw[List.getD_eq_getElem?_getD,k];rfl
theorem X7 (h:C.length<=i):Hc AJ C i=0:=by unfold Hc;rw[List.getElem?_eq_none h]
theorem bP {n d b:Nat} {N:Int}:PV n d b N []:=⟨⟨Nat.zero_le _,fun _ h=>by simp at h,fun _ h=>by simp at h⟩,fun _ h=>by simp at h⟩
theorem bY (f:∀c∈C,0<=c/\c<100) (h:0<=AI/\AI<=100):PV 1 1 4 1000 (C1 AI C i):=by
 unfold C1
 split
 ·exact bP
 rename_i c g
 have:=f c (List.mem_of_getElem? g);exact (Gi ⟨AA,AA⟩).mono AE AE AE (Int.le_refl _)
theorem X6 (h:∀x∈AJ,0<=x/\x<490):0<=Hc AJ C i/\Hc AJ C i<490:=by
 unfold Hc
 split
 ·decide
 rename_i c _
 rw[List.getD_eq_getElem?_getD];cases e:AJ[c.toNat]? with
 | none=>decide
 | some y=>exact h y (List.mem_of_getElem? e)
theorem Qe (h:i<4):(Q++[0,0,0,0])[i]? =some (Q.getD i 0):=by
 rw[List.getD_eq_getElem?_getD];rcases Nat.lt_or_ge i Q.length with f | f
 ·rw[List.getElem?_append_left f,List.getElem?_eq_getElem f];rfl
 rw[List.getElem?_append_right f,List.getElem?_eq_none f];have:i-Q.length=0\/i-Q.length=1\/i-Q.length=2\/i-Q.length=3:=AA
 rcases this with e | e | e | e <;> rw[e] <;> rfl
theorem Qf (h:∀x∈Q,0<=x/\x<490):0<=Q.getD i 0/\Q.getD i 0<490:=by
 rw[List.getD_eq_getElem?_getD];cases e:Q[i]? with
 | none=>decide
 | some y=>exact h y (List.mem_of_getElem? e)
theorem KQ {j k:Int} (f:0<=j/\j<490) (g:0<=k/\k<490):Eu 2 1 6 1000 (Aw j k):=(NC f g).mono AE
end
def JH (vl:List (el AG)) (v:List Mo):Prop:=(vl=[]/\v=[])\/∃x l,vl=rp x::l/\Bd 2100 [x]/\v=Ek x
theorem JH.cons {vl:List (el AG)} {v:List Mo} (h:JH vl v) (f:0<vl.length):∃x l,vl=rp x::l/\Bd 2100 [x]/\v=Ek x:=by
 rcases h with⟨rfl,_⟩ | h
 ·simp at f
 exact h
theorem JH.nil {vl:List (el AG)} {v:List Mo} (h:JH vl v) (f:vl.length=0):v=[]:=by
 rcases h with⟨_,e⟩ |⟨x,l,e,_⟩
 ·exact e
 rw[e] at f;simp at f
theorem JH.pv {vl:List (el AG)} {v:List Mo} (h:JH vl v):PV 1 1 2101 1000 v:=by
 rcases h with⟨_,rfl⟩ |⟨x,l,_,hb,rfl⟩
 ·exact bP
 exact (bQ hb).mono Bi AE Bi (Int.le_refl _)
end
section
theorem oS {kd sd:Int} {Q C:List Int} {F:List Rat} {AJ:List Int} {AI t:Int} {p:List Mo} {w:Rat} (h:Mr kd sd Q C (F.map rp) AJ AI t p):HH kd sd (Q.getD 0 0) (Q.getD 1 0) (Q.getD 2 0) (Q.getD 3 0) (ef F) w (C1 AI C 0) (C1 AI C 1) (Hc AJ C 0) (Hc AJ C 1)=[p]:=by
 unfold Mr at h;cases h with
 | inl h=>
  obtain⟨e1,a,e2,u,z⟩:=h;rw[z,e1,e2,u];simp only[aM,Le,List.getD_cons_zero];rfl
 | inr h=>cases h with
 | inl h=>
  obtain⟨e1,u,q,H,z⟩:=h;obtain⟨x,rfl⟩:∃x,F=[x]:=Lz (by have:=congrArg List.length H;rwa [List.length_map] at this)
  have I:some (rp x)=some (rp q):=congrArg List.head? H;rw[z,e1,u,Qt (Option.some.inj I)];simp only[aN,Lf];rfl
 | inr h=>cases h with
 | inl h=>
  obtain⟨e1,c,d,u,z⟩:=h;rw[z,e1,u];simp only[aO,Lg];rfl
 | inr h=>cases h with
 | inl h=>
  obtain⟨e1,a,e,e2,u,z⟩:=h;rw[z,e1,e2,u];simp only[aP,Lh,List.getD_cons_zero,List.getD_cons_succ];rfl
 | inr h=>
  obtain⟨e1,e2,c,d,u,z⟩:=h;rw[z,e1,e2,u];simp only[aQ,Li];rfl
end
end Go.Abs
