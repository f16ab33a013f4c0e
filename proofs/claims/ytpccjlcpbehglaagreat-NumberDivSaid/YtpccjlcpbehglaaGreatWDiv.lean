/- Part 54 of a proof. Conditions: each theorem's own. -/
import Derived.Test.YtpccjlcpbehglaaGreatPk52
set_option linter.all false
set_option maxHeartbeats 8000000
open Go.Proofs
namespace Go.Abs
open Go.RowKit
abbrev S1:Nat:=1000000000
theorem ee_m:∀h,h≤3→EE h Rm≤6000000
 | 0,_=>by decide +kernel
 | 1,_=>by decide +kernel
 | 2,_=>by decide +kernel
 | 3,_=>by decide +kernel
 | _+4,h=>absurd h (by omega)
section
variable {V:List Re} {ns:List Nu}
theorem fam_len (hV:V.length≤3) (h:∀n∈ns,NOk V n) {u:List (List Rat)} (hu:Tf (PN ns) u):u.length≤3:=Nat.le_trans (hu.len (PN.ini hV h) (fun hp=>PN.vals h hp)) hV
theorem fam_j2 (hV:V.length≤3) (h:∀n∈ns,NOk V n) {u v:List (List Rat)} {x y:Re} {s q:Nat} (hu:Tf (PN ns) u) (hv:Tf (PN ns) v) (hs:s≤Sm) (hq:max s Rm+Cm≤q) (hx:El u s x) (hy:El v s y):
  Tf (PN ns) (join2 u v)∧El (join2 u v) q x∧El (join2 u v) q y:=by
 have G:=(fam_of hV h (S:=max s Rm) (Nat.le_max_right _ _) (Nat.max_le.2 ⟨hs,by decide⟩)).toGam
 obtain⟨h1,h2,h3⟩:=G.join2 hu hv
 exact⟨h1,(G.emb hu h1 h2 (hx.mono (Nat.le_max_left _ _))).mono hq,(G.emb hv h1 h3 (hy.mono (Nat.le_max_left _ _))).mono hq⟩
theorem fam_mul (hV:V.length≤3) (h:∀n∈ns,NOk V n) {u v:List (List Rat)} {x y:Re} {s q t:Nat} (hu:Tf (PN ns) u) (hv:Tf (PN ns) v) (hs:s≤Sm) (hx:El u s x) (hy:El v s y) (hq:max s Rm+Cm≤q) (ht:2*q+6000000≤t):El (join2 u v) t (x*y):=by
 obtain⟨h1,h2,h3⟩:=fam_j2 hV h hu hv hs hq hx hy
 have G:=(fam_of hV h (Nat.le_refl Rm) (by decide)).toGam
 have he:=ee_m _ (fam_len hV h h1)
 have:=h2.mul (G.twr h1) h3
 generalize EE (join2 u v).length Rm=e at*
 clear hq hs G
 exact this.mono (by omega)
end
theorem num_q1:max Rm Rm+Cm≤455921699:=by decide +kernel
theorem num_1:2*455921699+6000000≤S1:=by decide +kernel
theorem num_q2:max S1 Rm+Cm≤1455119021:=by decide +kernel
theorem num_2a:2*1455119021+6000000≤Sa:=by decide +kernel
theorem run_ctx (X:List (el tOp)):∃V:List Re,V.length≤3∧∀n∈(runN X).1,NOk V n:=by
 obtain⟨h3,V,hV,hn⟩:=runN_ok X
 exact⟨V,Nat.le_trans hV h3,hn⟩
theorem is_e6:CF 19 [.agg [.sl (.sl tRat) (([]:List LR)),.sl tRat (([]:LR))],.one (.int .i64 6),.agg [.sl (.sl tRat) (([]:List LR)),.sl tRat (([]:LR))],.one (.int .i64 6)] (.one (.bool true)):=by
 refine acall_fn Tryz.func19 (by kernel_rfl) rfl fun E hE=>?_
 conv=>cbv
 intro n10 h10;(have h10:=h10.trans (show _=true by decide));subst h10;conv=>cbv
 intro n13 h13;(have h13:=h13.trans (show _=true by decide));subst h13;conv=>cbv
 intro n17 h17;have e17:=h17.eq;have f17:=h17.le;conv=>cbv
 intro n18 h18;conv=>cbv
 cases n18 <;> conv=>cbv
 ·have k18:=eql_f h18
  exact absurd k18 (by have:=e17;simp at this;omega)
 ·have k18:=eql_t h18
  intro n23 h23;have e23:=h23.eq;have f23:=h23.le;conv=>cbv
  intro n24 h24;conv=>cbv
  exact fA ⟨⟨rfl,congrArg _ (by rw[h24,e23];rfl),trivial⟩,trivial⟩ rfl (by simp)
theorem build_nil {X:List (el tOp)} {ns:List Nu} (hns:ns=(runN (X.take 24)).1) (hne:ns=[]):CF 15 [.one (.sl tOp X)] (.tup [(true,[.sl (.sl tRat) (([]:List LR)),.sl tRat (([]:LR))]),(true,[.sl (.sl tRat) (([]:List LR)),.sl tRat (([]:LR))]),(false,[.bool false])]):=by
 refine acall_fn Tryz.func15 (by kernel_rfl) rfl fun E hE=>?_
 conv=>cbv
 obtain⟨L7,hL7⟩:∃z:List (el tNum),z=ns.map nm:=⟨_,rfl⟩
 refine cL (r:= .one (.sl tNum L7)) hE (YBuild_ok (by rw[hL7,hns])) ⟨rfl,trivial⟩ ?_
 try conv=>cbv
 intro n9 h9;have e9:=h9.eq;have f9:=h9.le;conv=>cbv
 intro n10 h10;conv=>cbv
 cases n10 <;> conv=>cbv
 ·have k10:=eql_f h10
  exact absurd k10 (by have:=e9;rw[hL7,hne] at this;simp at this;omega)
 ·have k10:=eql_t h10
  exact fA ⟨⟨rfl,.inr (.inl ⟨_,rfl⟩),.inr (.inl ⟨_,rfl⟩),trivial⟩,⟨rfl,.inr (.inl ⟨_,rfl⟩),.inr (.inl ⟨_,rfl⟩),trivial⟩,⟨rfl,rfl,trivial⟩,trivial⟩ rfl (by simp)
theorem build_ok {X:List (el tOp)} {ns:List Nu} (hns:ns=(runN (X.take 24)).1) (hne:ns≠[]) {V:List Re} (hV3:V.length≤3) (hok:∀n∈ns,NOk V n) {a b:Nu} (ha:a=ns.getLastD zeroN) (hb:b=getN ns (ns.length/2)) {T1 T2:List LR} {A1 A2:LR} (hT1:T1=tw a.1) (hA1:A1=em a.1 a.2) (hT2:T2=tw b.1) (hA2:A2=em b.1 b.2):CF 15 [.one (.sl tOp X)] (.tup [(true,[.sl (.sl tRat) T1,.sl tRat A1]),(true,[.sl (.sl tRat) T2,.sl tRat A2]),(false,[.bool true])]):=by
 have hpos:0<ns.length:=List.length_pos_iff.2 hne
 obtain⟨L7,hL7⟩:∃z:List (el tNum),z=ns.map nm:=⟨_,rfl⟩
 have hLl:L7.length=ns.length:=by rw[hL7,List.length_map]
 refine acall_fn Tryz.func15 (by kernel_rfl) rfl fun E hE=>?_
 conv=>cbv
 refine cL (r:= .one (.sl tNum L7)) hE (YBuild_ok (by rw[hL7,hns])) ⟨rfl,trivial⟩ ?_
 try conv=>cbv
 intro n9 h9;have e9:=h9.eq;have f9:=h9.le;conv=>cbv
 intro n10 h10;conv=>cbv
 cases n10 <;> conv=>cbv
 ·have k10:=eql_f h10
  refine cA hE (YAll_t hL7 (fun n hn=>⟨(hok n hn).cos,(hok n hn).rads⟩)) ?_
  try conv=>cbv
  intro n14 h14;(have h14:=h14.trans (show _=false from rfl));subst h14;conv=>cbv
  intro n20 h20;have e20:=h20.eq;have f20:=h20.le;conv=>cbv
  intro n21 h21;conv=>cbv
  refine⟨fun _=>i64 (by omega),?_⟩
  obtain⟨x22,hx22⟩:=get_ex (l:=L7) (i:=(n21).toNat) (by omega)
  refine⟨x22,fun _=>⟨by omega,hx22⟩,?_⟩
  try conv=>cbv
  intro n26 h26;have e26:=h26.eq;have f26:=h26.le;conv=>cbv
  intro n27 h27;conv=>cbv
  refine⟨fun _=>⟨by omega,by omega,i64 (by omega)⟩,?_⟩
  refine cL hE (YAt_ok hL7 hne ⟨by omega⟩ hb hT2 hA2) ⟨rfl,rfl,trivial⟩ ?_
  try conv=>cbv
  refine⟨fun _=>by kernel_rfl,?_⟩
  obtain⟨u,y,hxu,hxy,hnu⟩:=get_nm hL7 hx22
  have en:a=(u,y):=by rw[ha,last_get hnu (by omega)]
  exact fA ⟨⟨rfl,congrArg _ (by rw[hT1,en];exact hxu.symm),congrArg _ (by rw[hA1,en];exact hxy.symm),trivial⟩,⟨rfl,rfl,rfl,trivial⟩,⟨rfl,rfl,trivial⟩,trivial⟩ rfl (by simp)
 ·have k10:=eql_t h10
  exact absurd k10 (by omega)
theorem LDiv_nil {X:List (el tOp)} {ns:List Nu} (hns:ns=(runN (X.take 24)).1) (hne:ns=[]):CF 4 [.one (.sl tOp X)] (.one (.bool true)):=by
 refine acall_fn Tryz.func4 (by kernel_rfl) rfl fun E hE=>?_
 conv=>cbv
 refine cA hE (build_nil hns hne) ?_
 try conv=>cbv
 refine cA hE awake_ok ?_
 try conv=>cbv
 intro n17 h17;(have h17:=h17.trans (show _=false from rfl));subst h17;conv=>cbv
 intro n20 h20;(have h20:=h20.trans (show _=true from rfl));subst h20;conv=>cbv
 refine cA hE awake_ok ?_
 try conv=>cbv
 exact fA ⟨⟨rfl,rfl,trivial⟩,trivial⟩ rfl (by simp)
theorem LDiv_zero {X:List (el tOp)} {ns:List Nu} (hns:ns=(runN (X.take 24)).1) (hne:ns≠[]) {V:List Re} (hV3:V.length≤3) (hok:∀n∈ns,NOk V n) (h0:(getN ns (ns.length/2)).2=0):CF 4 [.one (.sl tOp X)] (.one (.bool true)):=by
 obtain⟨a,ha⟩:∃z,z=ns.getLastD zeroN:=⟨_,rfl⟩
 obtain⟨b,hb⟩:∃z,z=getN ns (ns.length/2):=⟨_,rfl⟩
 have hma:a∈ns:=ha ▸ last_mem hne
 have hmb:b∈ns:=hb ▸ getN_mem hne _
 have hta:=fam_mem hV3 hok hma
 have htb:=fam_mem hV3 hok hmb
 have hea:=((hok a hma).el hV3).mono (by decide:512≤Rm)
 have heb:=((hok b hmb).el hV3).mono (by decide:512≤Rm)
 have htj:=(fam_join hV3 hok hma hmb).1
 obtain⟨T1,hT1⟩:=pre_v (tw a.1)
 obtain⟨A1,hA1⟩:=pre_r (em a.1 a.2)
 obtain⟨T2,hT2⟩:=pre_v (tw b.1)
 obtain⟨A2,hA2⟩:=pre_r (em b.1 b.2)
 rw[←hb] at h0
 refine acall_fn Tryz.func4 (by kernel_rfl) rfl fun E hE=>?_
 conv=>cbv
 refine cA hE (build_ok hns hne hV3 hok ha hb hT1 hA1 hT2 hA2) ?_
 try conv=>cbv
 refine cA hE awake_ok ?_
 try conv=>cbv
 intro n17 h17;(have h17:=h17.trans (show _=false from rfl));subst h17;conv=>cbv
 intro n20 h20;(have h20:=h20.trans (show _=false from rfl));subst h20;conv=>cbv
 refine cL (r:= .tup [(true,[.sl (.sl tRat) (([]:List LR)),.sl tRat (([]:LR))]),(false,[.int .i64 6])]) hE (NDiv0 (fam_of hV3 hok (S:=Rm) (by decide) (by decide)).toGam hta htb hT1 hT2 hA1 hA2 hea heb h0 (by have:=ee_m _ (fam_len hV3 hok htb);show _+802678≤_;omega)) ⟨⟨rfl,rfl,trivial⟩,⟨rfl,rfl,trivial⟩,trivial⟩ ?_
 try conv=>cbv
 refine cL (r:= .one (.int .i64 0)) hE (YNSign (fam_of hV3 hok (S:=Rm) (by decide) (by decide)) htb hT2 hA2 heb (by rw[h0];exact sgR_zero.symm)) ⟨⟨rfl,rfl,trivial⟩,trivial⟩ ?_
 try conv=>cbv
 intro n31 h31;(have h31:=h31.trans (show _=true by decide));subst h31;conv=>cbv
 refine cL hE is_e6 ⟨⟨rfl,rfl,trivial⟩,rfl,⟨.inr ⟨_,rfl⟩,.inr ⟨_,rfl⟩,trivial⟩,rfl,trivial⟩ ?_
 try conv=>cbv
 exact fA ⟨⟨rfl,rfl,trivial⟩,trivial⟩ rfl (by simp)
theorem LDiv_ok {X:List (el tOp)} {ns:List Nu} (hns:ns=(runN (X.take 24)).1) (hne:ns≠[]) {V:List Re} (hV3:V.length≤3) (hok:∀n∈ns,NOk V n) (h0:(getN ns (ns.length/2)).2≠0):CF 4 [.one (.sl tOp X)] (.one (.bool true)):=by
 obtain⟨a,ha⟩:∃z,z=ns.getLastD zeroN:=⟨_,rfl⟩
 obtain⟨b,hb⟩:∃z,z=getN ns (ns.length/2):=⟨_,rfl⟩
 have hma:a∈ns:=ha ▸ last_mem hne
 have hmb:b∈ns:=hb ▸ getN_mem hne _
 have hta:=fam_mem hV3 hok hma
 have htb:=fam_mem hV3 hok hmb
 have hea:=((hok a hma).el hV3).mono (by decide:512≤Rm)
 have heb:=((hok b hmb).el hV3).mono (by decide:512≤Rm)
 have htj:=(fam_join hV3 hok hma hmb).1
 obtain⟨T1,hT1⟩:=pre_v (tw a.1)
 obtain⟨A1,hA1⟩:=pre_r (em a.1 a.2)
 obtain⟨T2,hT2⟩:=pre_v (tw b.1)
 obtain⟨A2,hA2⟩:=pre_r (em b.1 b.2)
 rw[←hb] at h0
 have hbi:=(hok b hmb).inv hV3 h0
 have hel26:El (join2 a.1 b.1) S1 (a.2*invR b.2):=fam_mul hV3 hok hta htb (by decide) hea hbi num_q1 num_1
 have hel39:El (join2 (join2 a.1 b.1) b.1) Sa (a.2*invR b.2*b.2):=fam_mul hV3 hok htj htb (by decide) hel26 (heb.mono (by decide)) num_q2 num_2a
 have hta2:a.2*invR b.2*b.2=a.2:=by have:=invR_spec h0;grind
 have htj2:=((fam_of hV3 hok (S:=Rm) (by decide) (by decide)).toGam.join2 htj htb).1
 refine acall_fn Tryz.func4 (by kernel_rfl) rfl fun E hE=>?_
 conv=>cbv
 refine cA hE (build_ok hns hne hV3 hok ha hb hT1 hA1 hT2 hA2) ?_
 try conv=>cbv
 refine cA hE awake_ok ?_
 try conv=>cbv
 intro n17 h17;(have h17:=h17.trans (show _=false from rfl));subst h17;conv=>cbv
 intro n20 h20;(have h20:=h20.trans (show _=false from rfl));subst h20;conv=>cbv
 obtain⟨w26,hw26⟩:=pre_v (tw (join2 a.1 b.1))
 obtain⟨v26,hv26⟩:=pre_r (em (join2 a.1 b.1) (a.2*invR b.2))
 refine cL hE (NDiv (fam_of hV3 hok (S:=Rm) (by decide) (by decide)).toGam hta htb hT1 hT2 hA1 hA2 hea heb (in_invR (hok b hmb).red (hok b hmb).mem h0) (invR_spec h0) hbi (ii_m _ (Nat.le_trans (hok b hmb).len hV3)) hw26 hv26) ⟨⟨rfl,rfl,trivial⟩,⟨rfl,rfl,trivial⟩,trivial⟩ ?_
 try conv=>cbv
 obtain⟨r30,hr30⟩:∃z:Int,z=sgR b.2:=⟨_,rfl⟩
 refine cL hE (YNSign (fam_of hV3 hok (S:=Rm) (by decide) (by decide)) htb hT2 hA2 heb hr30) ⟨⟨rfl,rfl,trivial⟩,trivial⟩ ?_
 try conv=>cbv
 intro n31 h31;conv=>cbv
 cases n31 <;> conv=>cbv
 ·have k31:=eql_f h31
  obtain⟨w39,hw39⟩:=pre_v (tw (join2 (join2 a.1 b.1) b.1))
  obtain⟨v39,hv39⟩:=pre_r (em (join2 (join2 a.1 b.1) b.1) (a.2*invR b.2*b.2))
  refine cL hE (YNMul (fam_of hV3 hok (S:=S1) (by decide) (by decide)) htj htb hw26 hT2 hv26 hA2 hel26 (heb.mono (by decide)) hw39 hv39) ⟨⟨rfl,rfl,trivial⟩,⟨rfl,rfl,trivial⟩,trivial⟩ ?_
  try conv=>cbv
  intro n43 h43;(have h43:=h43.trans (show _=true by decide));subst h43;conv=>cbv
  refine cL hE (YNValid_t (fam_of hV3 hok (S:=S1) (by decide) (by decide)) htj hw26 hv26 hel26) ⟨⟨rfl,rfl,trivial⟩,trivial⟩ ?_
  try conv=>cbv
  intro n50 h50;(have h50:=h50.trans (show _=true by decide));subst h50;conv=>cbv
  refine cL (r:= .one (.bool true)) hE (YNEqual (fam_of hV3 hok (S:=Sa) (by decide) (by decide)) htj2 hta hw39 hT1 hv39 hA1 hel39 (hea.mono (by decide)) (fam_of hV3 hok (S:=Sb) (by decide) (by decide)) (by decide) (by simp[hta2])) ⟨⟨rfl,rfl,trivial⟩,⟨rfl,rfl,trivial⟩,trivial⟩ ?_
  try conv=>cbv
  exact fA ⟨⟨rfl,rfl,trivial⟩,trivial⟩ rfl (by simp)
 ·have k31:=eql_t h31
  exact absurd (sgR_eq0.1 (hr30.symm.trans k31)) h0
end Go.Abs
