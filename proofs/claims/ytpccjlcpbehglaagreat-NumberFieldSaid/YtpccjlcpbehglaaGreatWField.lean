/- Part 54 of a proof. Conditions: each theorem's own. -/
import Derived.Test.YtpccjlcpbehglaaGreatPk52
set_option linter.all false
set_option maxHeartbeats 8000000
open Go.Proofs
namespace Go.Abs
open Go.RowKit
abbrev S1:Nat:=1000000000
theorem ee_m:∀h,h≤3→EE h Rm≤6000000
 | 0,_=>by decide +kernel
 | 1,_=>by decide +kernel
 | 2,_=>by decide +kernel
 | 3,_=>by decide +kernel
 | _+4,h=>absurd h (by omega)
section
variable {V:List Re} {ns:List Nu}
theorem fam_len (hV:V.length≤3) (h:∀n∈ns,NOk V n) {u:List (List Rat)} (hu:Tf (PN ns) u):u.length≤3:=Nat.le_trans (hu.len (PN.ini hV h) (fun hp=>PN.vals h hp)) hV
theorem fam_j2 (hV:V.length≤3) (h:∀n∈ns,NOk V n) {u v:List (List Rat)} {x y:Re} {s q:Nat} (hu:Tf (PN ns) u) (hv:Tf (PN ns) v) (hs:s≤Sm) (hq:max s Rm+Cm≤q) (hx:El u s x) (hy:El v s y):
  Tf (PN ns) (join2 u v)∧El (join2 u v) q x∧El (join2 u v) q y:=by
 have G:=(fam_of hV h (S:=max s Rm) (Nat.le_max_right _ _) (Nat.max_le.2 ⟨hs,by decide⟩)).toGam
 obtain⟨h1,h2,h3⟩:=G.join2 hu hv
 exact⟨h1,(G.emb hu h1 h2 (hx.mono (Nat.le_max_left _ _))).mono hq,(G.emb hv h1 h3 (hy.mono (Nat.le_max_left _ _))).mono hq⟩
theorem fam_add (hV:V.length≤3) (h:∀n∈ns,NOk V n) {u v:List (List Rat)} {x y:Re} {s q t:Nat} (hu:Tf (PN ns) u) (hv:Tf (PN ns) v) (hs:s≤Sm) (hx:El u s x) (hy:El v s y) (hq:max s Rm+Cm≤q) (ht:2*q+6000000≤t):El (join2 u v) t (x+y):=by
 obtain⟨h1,h2,h3⟩:=fam_j2 hV h hu hv hs hq hx hy
 clear hq hs
 exact (h2.add (h1.red (PN.ini hV h)) h3).mono (by omega)
theorem fam_mul (hV:V.length≤3) (h:∀n∈ns,NOk V n) {u v:List (List Rat)} {x y:Re} {s q t:Nat} (hu:Tf (PN ns) u) (hv:Tf (PN ns) v) (hs:s≤Sm) (hx:El u s x) (hy:El v s y) (hq:max s Rm+Cm≤q) (ht:2*q+6000000≤t):El (join2 u v) t (x*y):=by
 obtain⟨h1,h2,h3⟩:=fam_j2 hV h hu hv hs hq hx hy
 have G:=(fam_of hV h (Nat.le_refl Rm) (by decide)).toGam
 have he:=ee_m _ (fam_len hV h h1)
 have:=h2.mul (G.twr h1) h3
 generalize EE (join2 u v).length Rm=e at*
 clear hq hs G
 exact this.mono (by omega)
end
theorem num_q1:max Rm Rm+Cm≤455921699:=by decide +kernel
theorem num_1:2*455921699+6000000≤S1:=by decide +kernel
theorem num_q2:max S1 Rm+Cm≤1455119021:=by decide +kernel
theorem num_2a:2*1455119021+6000000≤Sa:=by decide +kernel
theorem run_ctx (X:List (el tOp)):∃V:List Re,V.length≤3∧∀n∈(runN X).1,NOk V n:=by
 obtain⟨h3,V,hV,hn⟩:=runN_ok X
 exact⟨V,Nat.le_trans hV h3,hn⟩
end Go.Abs
namespace Go.Abs
open Go.RowKit
variable {X:List (el tOp)} {ns:List Nu}
theorem LField_short (hns:ns=(runN (X.take 24)).1) (h3:ns.length<3):CF 8 [.one (.sl tOp X)] (.one (.bool true)):=by
 obtain⟨L,hL⟩:∃z:List (el tNum),z=ns.map nm:=⟨_,rfl⟩
 have hLl:L.length=ns.length:=by rw[hL,List.length_map]
 refine acall_fn Tryz.func8 (by kernel_rfl) rfl fun E hE=>?_
 conv=>cbv
 refine cL (r:= .one (.sl tNum L)) hE (YBuild_ok (by rw[hL,hns])) ⟨rfl,trivial⟩ ?_
 try conv=>cbv
 refine cA hE awake_ok ?_
 try conv=>cbv
 intro n26 h26;(have h26:=h26.trans (show _=false from rfl));subst h26;conv=>cbv
 intro n29 h29;have e29:=h29.eq;have f29:=h29.le;conv=>cbv
 intro n30 h30;conv=>cbv
 cases n30 <;> conv=>cbv
 ·have k30:=lss_f h30
  exact absurd k30 (by omega)
 ·have k30:=lss_t h30
  refine cA hE awake_ok ?_
  try conv=>cbv
  exact fA ⟨⟨rfl,rfl,trivial⟩,trivial⟩ rfl (by simp)
theorem LField_ok (hns:ns=(runN (X.take 24)).1) {V:List Re} (hV3:V.length≤3) (hok:∀n∈ns,NOk V n) (h3:3≤ns.length):CF 8 [.one (.sl tOp X)] (.one (.bool true)):=by
 obtain⟨L,hL⟩:∃z:List (el tNum),z=ns.map nm:=⟨_,rfl⟩
 have hLl:L.length=ns.length:=by rw[hL,List.length_map]
 refine acall_fn Tryz.func8 (by kernel_rfl) rfl fun E hE=>?_
 conv=>cbv
 refine cL (r:= .one (.sl tNum L)) hE (YBuild_ok (by rw[hL,hns])) ⟨rfl,trivial⟩ ?_
 try conv=>cbv
 refine cA hE awake_ok ?_
 try conv=>cbv
 intro n26 h26;(have h26:=h26.trans (show _=false from rfl));subst h26;conv=>cbv
 intro n29 h29;have e29:=h29.eq;have f29:=h29.le;conv=>cbv
 intro n30 h30;conv=>cbv
 cases n30 <;> conv=>cbv
 ·have k30:=lss_f h30
  refine cA hE (YAll_t hL (fun n hn=>⟨(hok n hn).cos,(hok n hn).rads⟩)) ?_
  try conv=>cbv
  intro n35 h35;(have h35:=h35.trans (show _=false from rfl));subst h35;conv=>cbv
  intro n40 h40;have e40:=h40.eq;have f40:=h40.le;conv=>cbv
  intro n41 h41;conv=>cbv
  refine⟨fun _=>i64 (by omega),?_⟩
  obtain⟨x42,hx42⟩:=get_ex (l:=L) (i:=(n41).toNat) (by omega)
  refine⟨x42,fun _=>⟨by omega,hx42⟩,?_⟩
  try conv=>cbv
  intro n46 h46;have e46:=h46.eq;have f46:=h46.le;conv=>cbv
  intro n47 h47;conv=>cbv
  refine⟨fun _=>i64 (by omega),?_⟩
  obtain⟨x48,hx48⟩:=get_ex (l:=L) (i:=(n47).toNat) (by omega)
  refine⟨x48,fun _=>⟨by omega,hx48⟩,?_⟩
  try conv=>cbv
  intro n52 h52;have e52:=h52.eq;have f52:=h52.le;conv=>cbv
  intro n53 h53;conv=>cbv
  refine⟨fun _=>i64 (by omega),?_⟩
  obtain⟨x54,hx54⟩:=get_ex (l:=L) (i:=(n53).toNat) (by omega)
  refine⟨x54,fun _=>⟨by omega,hx54⟩,?_⟩
  try conv=>cbv
  refine⟨fun _=>by kernel_rfl,?_⟩
  obtain⟨u1,y1,hxu1,hxy1,hn1⟩:=get_nm hL hx42
  obtain⟨u2,y2,hxu2,hxy2,hn2⟩:=get_nm hL hx48
  obtain⟨u3,y3,hxu3,hxy3,hn3⟩:=get_nm hL hx54
  have ma:=List.mem_of_getElem? hn1
  have mb:=List.mem_of_getElem? hn2
  have mc:=List.mem_of_getElem? hn3
  have ta:=fam_mem hV3 hok ma
  have tb:=fam_mem hV3 hok mb
  have tc:=fam_mem hV3 hok mc
  have ea:=((hok _ ma).el hV3).mono (by decide:512≤Rm)
  have eb:=((hok _ mb).el hV3).mono (by decide:512≤Rm)
  have ec:=((hok _ mc).el hV3).mono (by decide:512≤Rm)
  have tab:=(fam_join hV3 hok ma mb).1
  have tbc:=(fam_join hV3 hok mb mc).1
  have tca:=(fam_join hV3 hok mc ma).1
  have tac:=(fam_join hV3 hok ma mc).1
  have eab:=fam_add hV3 hok ta tb (by decide) ea eb num_q1 num_1
  have ebc:=fam_add hV3 hok tb tc (by decide) eb ec num_q1 num_1
  have eac:=fam_add hV3 hok ta tc (by decide) ea ec num_q1 num_1
  have eca:=fam_mul hV3 hok tc ta (by decide) ec ea num_q1 num_1
  have ebcm:=fam_mul hV3 hok tb tc (by decide) eb ec num_q1 num_1
  have hj:=(fam_of hV3 hok (S:=Rm) (by decide) (by decide)).toGam
  have tp:=(hj.join2 tab tc).1
  have tq:=(hj.join2 ta tbc).1
  have tx:=(hj.join2 tc tab).1
  have ts:=(hj.join2 tca tbc).1
  have ep:=fam_add hV3 hok tab tc (by decide) eab (ec.mono (by decide)) num_q2 num_2a
  have eq:=fam_add hV3 hok ta tbc (by decide) (ea.mono (by decide)) ebc num_q2 num_2a
  have ex:=fam_mul hV3 hok tc tab (by decide) (ec.mono (by decide)) eab num_q2 num_2a
  have es:=fam_add hV3 hok tca tbc (by decide) eca ebcm num_q2 num_2a
  obtain⟨w59,hw59⟩:=pre_v (tw (join2 u1 u2))
  obtain⟨v59,hv59⟩:=pre_r (em (join2 u1 u2) (y1+y2))
  refine cL hE (NAdd (fam_of hV3 hok (S:=Rm) (by decide) (by decide)).toGam ta tb hxu1 hxu2 hxy1 hxy2 ea eb hw59 hv59) ⟨⟨rfl,rfl,trivial⟩,⟨rfl,rfl,trivial⟩,trivial⟩ ?_
  try conv=>cbv
  obtain⟨w65,hw65⟩:=pre_v (tw (join2 u2 u3))
  obtain⟨v65,hv65⟩:=pre_r (em (join2 u2 u3) (y2+y3))
  refine cL hE (NAdd (fam_of hV3 hok (S:=Rm) (by decide) (by decide)).toGam tb tc hxu2 hxu3 hxy2 hxy3 eb ec hw65 hv65) ⟨⟨rfl,rfl,trivial⟩,⟨rfl,rfl,trivial⟩,trivial⟩ ?_
  try conv=>cbv
  obtain⟨w71,hw71⟩:=pre_v (tw (join2 (join2 u1 u2) u3))
  obtain⟨v71,hv71⟩:=pre_r (em (join2 (join2 u1 u2) u3) (y1+y2+y3))
  refine cL hE (NAdd (fam_of hV3 hok (S:=S1) (by decide) (by decide)).toGam tab tc hw59 hxu3 hv59 hxy3 eab (ec.mono (by decide)) hw71 hv71) ⟨⟨rfl,rfl,trivial⟩,⟨rfl,rfl,trivial⟩,trivial⟩ ?_
  try conv=>cbv
  obtain⟨w77,hw77⟩:=pre_v (tw (join2 u1 (join2 u2 u3)))
  obtain⟨v77,hv77⟩:=pre_r (em (join2 u1 (join2 u2 u3)) (y1+(y2+y3)))
  refine cL hE (NAdd (fam_of hV3 hok (S:=S1) (by decide) (by decide)).toGam ta tbc hxu1 hw65 hxy1 hv65 (ea.mono (by decide)) ebc hw77 hv77) ⟨⟨rfl,rfl,trivial⟩,⟨rfl,rfl,trivial⟩,trivial⟩ ?_
  try conv=>cbv
  intro n81 h81;(have h81:=h81.trans (show _=false by decide));subst h81;conv=>cbv
  intro n84 h84;(have h84:=h84.trans (show _=false by decide));subst h84;conv=>cbv
  intro n88 h88;(have h88:=h88.trans (show _=false by decide));subst h88;conv=>cbv
  intro n92 h92;(have h92:=h92.trans (show _=false by decide));subst h92;conv=>cbv
  have hpq:y1+y2+y3=y1+(y2+y3):=by grind
  refine cL (r:= .one (.bool true)) hE (NEqual (fam_of hV3 hok (S:=Sa) (by decide) (by decide)).toGam tp tq hw71 hw77 hv71 hv77 ep eq (by simp[hpq])) ⟨⟨rfl,rfl,trivial⟩,⟨rfl,rfl,trivial⟩,trivial⟩ ?_
  try conv=>cbv
  intro n98 h98;(have h98:=h98.trans (show _=false from rfl));subst h98;conv=>cbv
  obtain⟨w103,hw103⟩:=pre_v (tw (join2 u3 (join2 u1 u2)))
  obtain⟨v103,hv103⟩:=pre_r (em (join2 u3 (join2 u1 u2)) (y3*(y1+y2)))
  refine cL hE (NMul (fam_of hV3 hok (S:=S1) (by decide) (by decide)).toGam tc tab hxu3 hw59 hxy3 hv59 (ec.mono (by decide)) eab hw103 hv103) ⟨⟨rfl,rfl,trivial⟩,⟨rfl,rfl,trivial⟩,trivial⟩ ?_
  try conv=>cbv
  obtain⟨w109,hw109⟩:=pre_v (tw (join2 u3 u1))
  obtain⟨v109,hv109⟩:=pre_r (em (join2 u3 u1) (y3*y1))
  refine cL hE (NMul (fam_of hV3 hok (S:=Rm) (by decide) (by decide)).toGam tc ta hxu3 hxu1 hxy3 hxy1 ec ea hw109 hv109) ⟨⟨rfl,rfl,trivial⟩,⟨rfl,rfl,trivial⟩,trivial⟩ ?_
  try conv=>cbv
  obtain⟨w115,hw115⟩:=pre_v (tw (join2 u2 u3))
  obtain⟨v115,hv115⟩:=pre_r (em (join2 u2 u3) (y2*y3))
  refine cL hE (NMul (fam_of hV3 hok (S:=Rm) (by decide) (by decide)).toGam tb tc hxu2 hxu3 hxy2 hxy3 eb ec hw115 hv115) ⟨⟨rfl,rfl,trivial⟩,⟨rfl,rfl,trivial⟩,trivial⟩ ?_
  try conv=>cbv
  obtain⟨w121,hw121⟩:=pre_v (tw (join2 (join2 u3 u1) (join2 u2 u3)))
  obtain⟨v121,hv121⟩:=pre_r (em (join2 (join2 u3 u1) (join2 u2 u3)) (y3*y1+y2*y3))
  refine cL hE (NAdd (fam_of hV3 hok (S:=S1) (by decide) (by decide)).toGam tca tbc hw109 hw115 hv109 hv115 eca ebcm hw121 hv121) ⟨⟨rfl,rfl,trivial⟩,⟨rfl,rfl,trivial⟩,trivial⟩ ?_
  try conv=>cbv
  intro n125 h125;(have h125:=h125.trans (show _=false by decide));subst h125;conv=>cbv
  intro n128 h128;(have h128:=h128.trans (show _=false by decide));subst h128;conv=>cbv
  intro n132 h132;(have h132:=h132.trans (show _=false by decide));subst h132;conv=>cbv
  intro n136 h136;(have h136:=h136.trans (show _=false by decide));subst h136;conv=>cbv
  have hxs:y3*(y1+y2)=y3*y1+y2*y3:=by grind
  refine cL (r:= .one (.bool true)) hE (NEqual (fam_of hV3 hok (S:=Sa) (by decide) (by decide)).toGam tx ts hw103 hw121 hv103 hv121 ex es (by simp[hxs])) ⟨⟨rfl,rfl,trivial⟩,⟨rfl,rfl,trivial⟩,trivial⟩ ?_
  try conv=>cbv
  intro n142 h142;(have h142:=h142.trans (show _=false from rfl));subst h142;conv=>cbv
  obtain⟨r147,hr147⟩:∃z:Int,z=sgR (y1-y2):=⟨_,rfl⟩
  refine cL hE (NCmp (fam_of hV3 hok (S:=Rm) (by decide) (by decide)).toGam ta tb hxu1 hxu2 hxy1 hxy2 ea eb (fam_of hV3 hok (S:=Sa) (by decide) (by decide)).toGam (by decide) hr147) ⟨⟨rfl,rfl,trivial⟩,⟨rfl,rfl,trivial⟩,trivial⟩ ?_
  try conv=>cbv
  obtain⟨w153,hw153⟩:=pre_v (tw (join2 u2 u3))
  obtain⟨v153,hv153⟩:=pre_r (em (join2 u2 u3) (y2+y3))
  refine cL hE (NAdd (fam_of hV3 hok (S:=Rm) (by decide) (by decide)).toGam tb tc hxu2 hxu3 hxy2 hxy3 eb ec hw153 hv153) ⟨⟨rfl,rfl,trivial⟩,⟨rfl,rfl,trivial⟩,trivial⟩ ?_
  try conv=>cbv
  obtain⟨w159,hw159⟩:=pre_v (tw (join2 u1 u3))
  obtain⟨v159,hv159⟩:=pre_r (em (join2 u1 u3) (y1+y3))
  refine cL hE (NAdd (fam_of hV3 hok (S:=Rm) (by decide) (by decide)).toGam ta tc hxu1 hxu3 hxy1 hxy3 ea ec hw159 hv159) ⟨⟨rfl,rfl,trivial⟩,⟨rfl,rfl,trivial⟩,trivial⟩ ?_
  try conv=>cbv
  have hdd:y1+y3-(y2+y3)=y1-y2:=by grind
  refine cL (r:= .tup [(false,[.int .i64 r147]),(false,[.int .i64 0])]) hE (NCmp (fam_of hV3 hok (S:=S1) (by decide) (by decide)).toGam tac tbc hw159 hw153 hv159 hv153 eac ebc (fam_of hV3 hok (S:=Sa) (by decide) (by decide)).toGam (by decide) (by rw[hr147,hdd])) ⟨⟨rfl,rfl,trivial⟩,⟨rfl,rfl,trivial⟩,trivial⟩ ?_
  try conv=>cbv
  intro n169 h169;(have h169:=h169.trans (show _=true by decide));subst h169;conv=>cbv
  intro n172 h172;(have h172:=h172.trans (show _=true by decide));subst h172;conv=>cbv
  intro n176 h176;(have h176:=h176.trans (show _=true by decide));subst h176;conv=>cbv
  intro n180 h180;(have h180:=h180.trans (show _=true by decide));subst h180;conv=>cbv
  intro n185 h185;conv=>cbv
  exact fA ⟨⟨rfl,congrArg _ (by rw[h185];simp),trivial⟩,trivial⟩ rfl (by simp)
 ·have k30:=lss_t h30
  exact absurd k30 (by omega)
end Go.Abs
