/- Part 54 of a proof. Conditions: each theorem's own. -/
import Derived.Test.YtpccjlcpbehglaaGreatPk52
set_option linter.all false
set_option maxHeartbeats 8000000
open Go.Proofs
namespace Go.Abs
open Go.RowKit
abbrev S1:Nat:=1000000000
section
variable {V:List Re} {ns:List Nu}
theorem fam_j2 (hV:V.length≤3) (h:∀n∈ns,NOk V n) {u v:List (List Rat)} {x y:Re} {s q:Nat} (hu:Tf (PN ns) u) (hv:Tf (PN ns) v) (hs:s≤Sm) (hq:max s Rm+Cm≤q) (hx:El u s x) (hy:El v s y):
  Tf (PN ns) (join2 u v)∧El (join2 u v) q x∧El (join2 u v) q y:=by
 have G:=(fam_of hV h (S:=max s Rm) (Nat.le_max_right _ _) (Nat.max_le.2 ⟨hs,by decide⟩)).toGam
 obtain⟨h1,h2,h3⟩:=G.join2 hu hv
 exact⟨h1,(G.emb hu h1 h2 (hx.mono (Nat.le_max_left _ _))).mono hq,(G.emb hv h1 h3 (hy.mono (Nat.le_max_left _ _))).mono hq⟩
theorem fam_add (hV:V.length≤3) (h:∀n∈ns,NOk V n) {u v:List (List Rat)} {x y:Re} {s q t:Nat} (hu:Tf (PN ns) u) (hv:Tf (PN ns) v) (hs:s≤Sm) (hx:El u s x) (hy:El v s y) (hq:max s Rm+Cm≤q) (ht:2*q+6000000≤t):El (join2 u v) t (x+y):=by
 obtain⟨h1,h2,h3⟩:=fam_j2 hV h hu hv hs hq hx hy
 clear hq hs
 exact (h2.add (h1.red (PN.ini hV h)) h3).mono (by omega)
theorem fam_sub (hV:V.length≤3) (h:∀n∈ns,NOk V n) {u v:List (List Rat)} {x y:Re} {s q t:Nat} (hu:Tf (PN ns) u) (hv:Tf (PN ns) v) (hs:s≤Sm) (hx:El u s x) (hy:El v s y) (hq:max s Rm+Cm≤q) (ht:2*q+6000000≤t):El (join2 u v) t (x-y):=by
 obtain⟨h1,h2,h3⟩:=fam_j2 hV h hu hv hs hq hx hy
 clear hq hs
 exact (h2.sub (h1.red (PN.ini hV h)) h3).mono (by omega)
end
theorem num_q1:max Rm Rm+Cm≤455921699:=by decide +kernel
theorem num_1a:2*455921699+6000000≤Sa:=by decide +kernel
theorem run_ctx (X:List (el tOp)):∃V:List Re,V.length≤3∧∀n∈(runN X).1,NOk V n:=by
 obtain⟨h3,V,hV,hn⟩:=runN_ok X
 exact⟨V,Nat.le_trans hV h3,hn⟩
theorem is_t {TT:List (List Rat)→Prop} {R K S:Nat} (G:GamY TT R K S) {T1 T2:List LR} {A1 A2:LR} {u v:List (List Rat)} {x y:Re} (hu:TT u) (hv:TT v) (hT1:T1=tw u) (hT2:T2=tw v) (hA1:A1=em u x) (hA2:A2=em v y) (hx:El u S x) (hy:El v S y) {K2 S2:Nat} (G2:GamY TT R K2 S2) (hS:2*(S+K)+1≤S2) (hxy:x=y):CF 19 [.agg [.sl (.sl tRat) T1,.sl tRat A1],.one (.int .i64 0),.agg [.sl (.sl tRat) T2,.sl tRat A2],.one (.int .i64 0)] (.one (.bool true)):=by
 refine acall_fn Tryz.func19 (by kernel_rfl) rfl fun E hE=>?_
 conv=>cbv
 intro n10 h10;(have h10:=h10.trans (show _=false by decide));subst h10;conv=>cbv
 intro n27 h27;(have h27:=h27.trans (show _=true by decide));subst h27;conv=>cbv
 refine cA hE (YNValid_t G hu hT1 hA1 hx) ?_
 try conv=>cbv
 refine cL (r:= .one (.bool true)) hE (YNEqual G hu hv hT1 hT2 hA1 hA2 hx hy G2 hS (by simp[hxy])) ⟨⟨rfl,rfl,trivial⟩,⟨rfl,rfl,trivial⟩,trivial⟩ ?_
 try conv=>cbv
 exact fA ⟨⟨rfl,rfl,trivial⟩,trivial⟩ rfl (by simp)
theorem build_nil {X:List (el tOp)} {ns:List Nu} (hns:ns=(runN (X.take 24)).1) (hne:ns=[]):CF 15 [.one (.sl tOp X)] (.tup [(true,[.sl (.sl tRat) (([]:List LR)),.sl tRat (([]:LR))]),(true,[.sl (.sl tRat) (([]:List LR)),.sl tRat (([]:LR))]),(false,[.bool false])]):=by
 refine acall_fn Tryz.func15 (by kernel_rfl) rfl fun E hE=>?_
 conv=>cbv
 obtain⟨L7,hL7⟩:∃z:List (el tNum),z=ns.map nm:=⟨_,rfl⟩
 refine cL (r:= .one (.sl tNum L7)) hE (YBuild_ok (by rw[hL7,hns])) ⟨rfl,trivial⟩ ?_
 try conv=>cbv
 intro n9 h9;have e9:=h9.eq;have f9:=h9.le;conv=>cbv
 intro n10 h10;conv=>cbv
 cases n10 <;> conv=>cbv
 ·have k10:=eql_f h10
  exact absurd k10 (by have:=e9;rw[hL7,hne] at this;simp at this;omega)
 ·have k10:=eql_t h10
  exact fA ⟨⟨rfl,.inr (.inl ⟨_,rfl⟩),.inr (.inl ⟨_,rfl⟩),trivial⟩,⟨rfl,.inr (.inl ⟨_,rfl⟩),.inr (.inl ⟨_,rfl⟩),trivial⟩,⟨rfl,rfl,trivial⟩,trivial⟩ rfl (by simp)
theorem build_ok {X:List (el tOp)} {ns:List Nu} (hns:ns=(runN (X.take 24)).1) (hne:ns≠[]) {V:List Re} (hV3:V.length≤3) (hok:∀n∈ns,NOk V n) {a b:Nu} (ha:a=ns.getLastD zeroN) (hb:b=getN ns (ns.length/2)) {T1 T2:List LR} {A1 A2:LR} (hT1:T1=tw a.1) (hA1:A1=em a.1 a.2) (hT2:T2=tw b.1) (hA2:A2=em b.1 b.2):CF 15 [.one (.sl tOp X)] (.tup [(true,[.sl (.sl tRat) T1,.sl tRat A1]),(true,[.sl (.sl tRat) T2,.sl tRat A2]),(false,[.bool true])]):=by
 have hpos:0<ns.length:=List.length_pos_iff.2 hne
 obtain⟨L7,hL7⟩:∃z:List (el tNum),z=ns.map nm:=⟨_,rfl⟩
 have hLl:L7.length=ns.length:=by rw[hL7,List.length_map]
 refine acall_fn Tryz.func15 (by kernel_rfl) rfl fun E hE=>?_
 conv=>cbv
 refine cL (r:= .one (.sl tNum L7)) hE (YBuild_ok (by rw[hL7,hns])) ⟨rfl,trivial⟩ ?_
 try conv=>cbv
 intro n9 h9;have e9:=h9.eq;have f9:=h9.le;conv=>cbv
 intro n10 h10;conv=>cbv
 cases n10 <;> conv=>cbv
 ·have k10:=eql_f h10
  refine cA hE (YAll_t hL7 (fun n hn=>⟨(hok n hn).cos,(hok n hn).rads⟩)) ?_
  try conv=>cbv
  intro n14 h14;(have h14:=h14.trans (show _=false from rfl));subst h14;conv=>cbv
  intro n20 h20;have e20:=h20.eq;have f20:=h20.le;conv=>cbv
  intro n21 h21;conv=>cbv
  refine⟨fun _=>i64 (by omega),?_⟩
  obtain⟨x22,hx22⟩:=get_ex (l:=L7) (i:=(n21).toNat) (by omega)
  refine⟨x22,fun _=>⟨by omega,hx22⟩,?_⟩
  try conv=>cbv
  intro n26 h26;have e26:=h26.eq;have f26:=h26.le;conv=>cbv
  intro n27 h27;conv=>cbv
  refine⟨fun _=>⟨by omega,by omega,i64 (by omega)⟩,?_⟩
  refine cL hE (YAt_ok hL7 hne ⟨by omega⟩ hb hT2 hA2) ⟨rfl,rfl,trivial⟩ ?_
  try conv=>cbv
  refine⟨fun _=>by kernel_rfl,?_⟩
  obtain⟨u,y,hxu,hxy,hnu⟩:=get_nm hL7 hx22
  have en:a=(u,y):=by rw[ha,last_get hnu (by omega)]
  exact fA ⟨⟨rfl,congrArg _ (by rw[hT1,en];exact hxu.symm),congrArg _ (by rw[hA1,en];exact hxy.symm),trivial⟩,⟨rfl,rfl,rfl,trivial⟩,⟨rfl,rfl,trivial⟩,trivial⟩ rfl (by simp)
 ·have k10:=eql_t h10
  exact absurd k10 (by omega)
theorem LSums_nil {X:List (el tOp)} {ns:List Nu} (hns:ns=(runN (X.take 24)).1) (hne:ns=[]):CF 10 [.one (.sl tOp X)] (.one (.bool true)):=by
 refine acall_fn Tryz.func10 (by kernel_rfl) rfl fun E hE=>?_
 conv=>cbv
 refine cA hE (build_nil hns hne) ?_
 try conv=>cbv
 refine cA hE awake_ok ?_
 try conv=>cbv
 intro n21 h21;(have h21:=h21.trans (show _=false from rfl));subst h21;conv=>cbv
 intro n24 h24;(have h24:=h24.trans (show _=true from rfl));subst h24;conv=>cbv
 refine cA hE awake_ok ?_
 try conv=>cbv
 exact fA ⟨⟨rfl,rfl,trivial⟩,trivial⟩ rfl (by simp)
theorem LSums_ok {X:List (el tOp)} {ns:List Nu} (hns:ns=(runN (X.take 24)).1) (hne:ns≠[]) {V:List Re} (hV3:V.length≤3) (hok:∀n∈ns,NOk V n):CF 10 [.one (.sl tOp X)] (.one (.bool true)):=by
 obtain⟨a,ha⟩:∃z,z=ns.getLastD zeroN:=⟨_,rfl⟩
 obtain⟨b,hb⟩:∃z,z=getN ns (ns.length/2):=⟨_,rfl⟩
 have hma:a∈ns:=ha ▸ last_mem hne
 have hmb:b∈ns:=hb ▸ getN_mem hne _
 have hta:=fam_mem hV3 hok hma
 have htb:=fam_mem hV3 hok hmb
 have hea:=((hok a hma).el hV3).mono (by decide:512≤Rm)
 have heb:=((hok b hmb).el hV3).mono (by decide:512≤Rm)
 have htj:=(fam_join hV3 hok hma hmb).1
 obtain⟨T1,hT1⟩:=pre_v (tw a.1)
 obtain⟨A1,hA1⟩:=pre_r (em a.1 a.2)
 obtain⟨T2,hT2⟩:=pre_v (tw b.1)
 obtain⟨A2,hA2⟩:=pre_r (em b.1 b.2)
 refine acall_fn Tryz.func10 (by kernel_rfl) rfl fun E hE=>?_
 conv=>cbv
 refine cA hE (build_ok hns hne hV3 hok ha hb hT1 hA1 hT2 hA2) ?_
 try conv=>cbv
 refine cA hE awake_ok ?_
 try conv=>cbv
 intro n21 h21;(have h21:=h21.trans (show _=false from rfl));subst h21;conv=>cbv
 intro n24 h24;(have h24:=h24.trans (show _=false from rfl));subst h24;conv=>cbv
 obtain⟨w30,hw30⟩:=pre_v (tw (join2 a.1 b.1))
 obtain⟨v30,hv30⟩:=pre_r (em (join2 a.1 b.1) (a.2+b.2))
 refine cL hE (NAdd (fam_of hV3 hok (S:=Rm) (by decide) (by decide)).toGam hta htb hT1 hT2 hA1 hA2 hea heb hw30 hv30) ⟨⟨rfl,rfl,trivial⟩,⟨rfl,rfl,trivial⟩,trivial⟩ ?_
 try conv=>cbv
 obtain⟨w36,hw36⟩:=pre_v (tw (join2 a.1 b.1))
 obtain⟨v36,hv36⟩:=pre_r (em (join2 a.1 b.1) (a.2-b.2))
 refine cL hE (NSub (fam_of hV3 hok (S:=Rm) (by decide) (by decide)).toGam hta htb hT1 hT2 hA1 hA2 hea heb hw36 hv36) ⟨⟨rfl,rfl,trivial⟩,⟨rfl,rfl,trivial⟩,trivial⟩ ?_
 try conv=>cbv
 obtain⟨w42,hw42⟩:=pre_v (tw (join2 a.1 b.1))
 obtain⟨v42,hv42⟩:=pre_r (em (join2 a.1 b.1) (a.2+b.2))
 refine cL hE (YNAdd (fam_of hV3 hok (S:=Rm) (by decide) (by decide)) hta htb hT1 hT2 hA1 hA2 hea heb hw42 hv42) ⟨⟨rfl,rfl,trivial⟩,⟨rfl,rfl,trivial⟩,trivial⟩ ?_
 try conv=>cbv
 obtain⟨w48,hw48⟩:=pre_v (tw (join2 a.1 b.1))
 obtain⟨v48,hv48⟩:=pre_r (em (join2 a.1 b.1) (a.2-b.2))
 refine cL hE (YNSub (fam_of hV3 hok (S:=Rm) (by decide) (by decide)) hta htb hT1 hT2 hA1 hA2 hea heb hw48 hv48) ⟨⟨rfl,rfl,trivial⟩,⟨rfl,rfl,trivial⟩,trivial⟩ ?_
 try conv=>cbv
 have he_30:El (join2 a.1 b.1) Sa (a.2+b.2):=fam_add hV3 hok hta htb (by decide) hea heb num_q1 num_1a
 refine cL hE (is_t (fam_of hV3 hok (S:=Sa) (by decide) (by decide)) htj htj hw30 hw42 hv30 hv42 he_30 he_30 (fam_of hV3 hok (S:=Sb) (by decide) (by decide)) (by decide) rfl) ⟨⟨rfl,rfl,trivial⟩,rfl,⟨rfl,rfl,trivial⟩,rfl,trivial⟩ ?_
 try conv=>cbv
 have he_36:El (join2 a.1 b.1) Sa (a.2-b.2):=fam_sub hV3 hok hta htb (by decide) hea heb num_q1 num_1a
 refine cL hE (is_t (fam_of hV3 hok (S:=Sa) (by decide) (by decide)) htj htj hw36 hw48 hv36 hv48 he_36 he_36 (fam_of hV3 hok (S:=Sb) (by decide) (by decide)) (by decide) rfl) ⟨⟨rfl,rfl,trivial⟩,rfl,⟨rfl,rfl,trivial⟩,rfl,trivial⟩ ?_
 try conv=>cbv
 obtain⟨v65,hv65⟩:=pre_r (em a.1 (-a.2))
 refine cL hE (NNeg (fam_of hV3 hok (S:=Rm) (by decide) (by decide)).toGam hta hT1 hA1 hea hv65) ⟨⟨rfl,rfl,trivial⟩,trivial⟩ ?_
 try conv=>cbv
 obtain⟨v67,hv67⟩:=pre_r (em a.1 (-a.2))
 refine cL hE (YNNeg (fam_of hV3 hok (S:=Rm) (by decide) (by decide)) hta hT1 hA1 hea hv67) ⟨⟨rfl,rfl,trivial⟩,trivial⟩ ?_
 try conv=>cbv
 have hen:=(hea.neg (hok a hma).red).mono (by decide:Rm≤Sa)
 refine cL hE (is_t (fam_of hV3 hok (S:=Sa) (by decide) (by decide)) hta hta hT1 hT1 hv65 hv67 hen hen (fam_of hV3 hok (S:=Sb) (by decide) (by decide)) (by decide) rfl) ⟨⟨rfl,rfl,trivial⟩,rfl,⟨rfl,rfl,trivial⟩,rfl,trivial⟩ ?_
 try conv=>cbv
 refine⟨fun _=>by kernel_rfl,?_⟩
 exact fA ⟨⟨rfl,rfl,trivial⟩,trivial⟩ rfl (by simp)
end Go.Abs
