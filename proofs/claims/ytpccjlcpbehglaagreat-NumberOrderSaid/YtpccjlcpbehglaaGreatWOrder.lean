/- Part 54 of a proof. Conditions: each theorem's own. -/
import Derived.Test.YtpccjlcpbehglaaGreatPk52
set_option linter.all false
set_option maxHeartbeats 8000000
open Go.Proofs
namespace Go.Abs
open Go.RowKit
abbrev S1:Nat:=1000000000
section
variable {V:List Re} {ns:List Nu}
end
theorem run_ctx (X:List (el tOp)):∃V:List Re,V.length≤3∧∀n∈(runN X).1,NOk V n:=by
 obtain⟨h3,V,hV,hn⟩:=runN_ok X
 exact⟨V,Nat.le_trans hV h3,hn⟩
theorem build_nil {X:List (el tOp)} {ns:List Nu} (hns:ns=(runN (X.take 24)).1) (hne:ns=[]):CF 15 [.one (.sl tOp X)] (.tup [(true,[.sl (.sl tRat) (([]:List LR)),.sl tRat (([]:LR))]),(true,[.sl (.sl tRat) (([]:List LR)),.sl tRat (([]:LR))]),(false,[.bool false])]):=by
 refine acall_fn Tryz.func15 (by kernel_rfl) rfl fun E hE=>?_
 conv=>cbv
 obtain⟨L7,hL7⟩:∃z:List (el tNum),z=ns.map nm:=⟨_,rfl⟩
 refine cL (r:= .one (.sl tNum L7)) hE (YBuild_ok (by rw[hL7,hns])) ⟨rfl,trivial⟩ ?_
 try conv=>cbv
 intro n9 h9;have e9:=h9.eq;have f9:=h9.le;conv=>cbv
 intro n10 h10;conv=>cbv
 cases n10 <;> conv=>cbv
 ·have k10:=eql_f h10
  exact absurd k10 (by have:=e9;rw[hL7,hne] at this;simp at this;omega)
 ·have k10:=eql_t h10
  exact fA ⟨⟨rfl,.inr (.inl ⟨_,rfl⟩),.inr (.inl ⟨_,rfl⟩),trivial⟩,⟨rfl,.inr (.inl ⟨_,rfl⟩),.inr (.inl ⟨_,rfl⟩),trivial⟩,⟨rfl,rfl,trivial⟩,trivial⟩ rfl (by simp)
theorem build_ok {X:List (el tOp)} {ns:List Nu} (hns:ns=(runN (X.take 24)).1) (hne:ns≠[]) {V:List Re} (hV3:V.length≤3) (hok:∀n∈ns,NOk V n) {a b:Nu} (ha:a=ns.getLastD zeroN) (hb:b=getN ns (ns.length/2)) {T1 T2:List LR} {A1 A2:LR} (hT1:T1=tw a.1) (hA1:A1=em a.1 a.2) (hT2:T2=tw b.1) (hA2:A2=em b.1 b.2):CF 15 [.one (.sl tOp X)] (.tup [(true,[.sl (.sl tRat) T1,.sl tRat A1]),(true,[.sl (.sl tRat) T2,.sl tRat A2]),(false,[.bool true])]):=by
 have hpos:0<ns.length:=List.length_pos_iff.2 hne
 obtain⟨L7,hL7⟩:∃z:List (el tNum),z=ns.map nm:=⟨_,rfl⟩
 have hLl:L7.length=ns.length:=by rw[hL7,List.length_map]
 refine acall_fn Tryz.func15 (by kernel_rfl) rfl fun E hE=>?_
 conv=>cbv
 refine cL (r:= .one (.sl tNum L7)) hE (YBuild_ok (by rw[hL7,hns])) ⟨rfl,trivial⟩ ?_
 try conv=>cbv
 intro n9 h9;have e9:=h9.eq;have f9:=h9.le;conv=>cbv
 intro n10 h10;conv=>cbv
 cases n10 <;> conv=>cbv
 ·have k10:=eql_f h10
  refine cA hE (YAll_t hL7 (fun n hn=>⟨(hok n hn).cos,(hok n hn).rads⟩)) ?_
  try conv=>cbv
  intro n14 h14;(have h14:=h14.trans (show _=false from rfl));subst h14;conv=>cbv
  intro n20 h20;have e20:=h20.eq;have f20:=h20.le;conv=>cbv
  intro n21 h21;conv=>cbv
  refine⟨fun _=>i64 (by omega),?_⟩
  obtain⟨x22,hx22⟩:=get_ex (l:=L7) (i:=(n21).toNat) (by omega)
  refine⟨x22,fun _=>⟨by omega,hx22⟩,?_⟩
  try conv=>cbv
  intro n26 h26;have e26:=h26.eq;have f26:=h26.le;conv=>cbv
  intro n27 h27;conv=>cbv
  refine⟨fun _=>⟨by omega,by omega,i64 (by omega)⟩,?_⟩
  refine cL hE (YAt_ok hL7 hne ⟨by omega⟩ hb hT2 hA2) ⟨rfl,rfl,trivial⟩ ?_
  try conv=>cbv
  refine⟨fun _=>by kernel_rfl,?_⟩
  obtain⟨u,y,hxu,hxy,hnu⟩:=get_nm hL7 hx22
  have en:a=(u,y):=by rw[ha,last_get hnu (by omega)]
  exact fA ⟨⟨rfl,congrArg _ (by rw[hT1,en];exact hxu.symm),congrArg _ (by rw[hA1,en];exact hxy.symm),trivial⟩,⟨rfl,rfl,rfl,trivial⟩,⟨rfl,rfl,trivial⟩,trivial⟩ rfl (by simp)
 ·have k10:=eql_t h10
  exact absurd k10 (by omega)
theorem LOrder_nil {X:List (el tOp)} {ns:List Nu} (hns:ns=(runN (X.take 24)).1) (hne:ns=[]):CF 6 [.one (.sl tOp X)] (.one (.bool true)):=by
 refine acall_fn Tryz.func6 (by kernel_rfl) rfl fun E hE=>?_
 conv=>cbv
 refine cA hE (build_nil hns hne) ?_
 try conv=>cbv
 refine cA hE awake_ok ?_
 try conv=>cbv
 intro n17 h17;(have h17:=h17.trans (show _=false from rfl));subst h17;conv=>cbv
 intro n20 h20;(have h20:=h20.trans (show _=true from rfl));subst h20;conv=>cbv
 refine cA hE awake_ok ?_
 try conv=>cbv
 exact fA ⟨⟨rfl,rfl,trivial⟩,trivial⟩ rfl (by simp)
theorem LOrder_ok {X:List (el tOp)} {ns:List Nu} (hns:ns=(runN (X.take 24)).1) (hne:ns≠[]) {V:List Re} (hV3:V.length≤3) (hok:∀n∈ns,NOk V n):CF 6 [.one (.sl tOp X)] (.one (.bool true)):=by
 obtain⟨a,ha⟩:∃z,z=ns.getLastD zeroN:=⟨_,rfl⟩
 obtain⟨b,hb⟩:∃z,z=getN ns (ns.length/2):=⟨_,rfl⟩
 have hma:a∈ns:=ha ▸ last_mem hne
 have hmb:b∈ns:=hb ▸ getN_mem hne _
 have hta:=fam_mem hV3 hok hma
 have htb:=fam_mem hV3 hok hmb
 have hea:=((hok a hma).el hV3).mono (by decide:512≤Rm)
 have heb:=((hok b hmb).el hV3).mono (by decide:512≤Rm)
 have htj:=(fam_join hV3 hok hma hmb).1
 obtain⟨T1,hT1⟩:=pre_v (tw a.1)
 obtain⟨A1,hA1⟩:=pre_r (em a.1 a.2)
 obtain⟨T2,hT2⟩:=pre_v (tw b.1)
 obtain⟨A2,hA2⟩:=pre_r (em b.1 b.2)
 obtain⟨r26,hr26⟩:∃z:Int,z=sgR (a.2-b.2):=⟨_,rfl⟩
 obtain⟨r36,hr36⟩:∃z:Int,z=sgR a.2:=⟨_,rfl⟩
 refine acall_fn Tryz.func6 (by kernel_rfl) rfl fun E hE=>?_
 conv=>cbv
 refine cA hE (build_ok hns hne hV3 hok ha hb hT1 hA1 hT2 hA2) ?_
 try conv=>cbv
 refine cA hE awake_ok ?_
 try conv=>cbv
 intro n17 h17;(have h17:=h17.trans (show _=false from rfl));subst h17;conv=>cbv
 intro n20 h20;(have h20:=h20.trans (show _=false from rfl));subst h20;conv=>cbv
 refine cL hE (NCmp (fam_of hV3 hok (S:=Rm) (by decide) (by decide)).toGam hta htb hT1 hT2 hA1 hA2 hea heb (fam_of hV3 hok (S:=Sa) (by decide) (by decide)).toGam (by decide) hr26) ⟨⟨rfl,rfl,trivial⟩,⟨rfl,rfl,trivial⟩,trivial⟩ ?_
 try conv=>cbv
 refine cL hE (YNCmp (fam_of hV3 hok (S:=Rm) (by decide) (by decide)) hta htb hT1 hT2 hA1 hA2 hea heb (fam_of hV3 hok (S:=Sa) (by decide) (by decide)) (by decide) hr26) ⟨⟨rfl,rfl,trivial⟩,⟨rfl,rfl,trivial⟩,trivial⟩ ?_
 try conv=>cbv
 refine cL hE (NSign (fam_of hV3 hok (S:=Rm) (by decide) (by decide)).toGam hta hT1 hA1 hea hr36) ⟨⟨rfl,rfl,trivial⟩,trivial⟩ ?_
 try conv=>cbv
 refine cL hE (YNSign (fam_of hV3 hok (S:=Rm) (by decide) (by decide)) hta hT1 hA1 hea hr36) ⟨⟨rfl,rfl,trivial⟩,trivial⟩ ?_
 try conv=>cbv
 intro n39 h39;conv=>cbv
 cases n39 <;> conv=>cbv
 ·have k39:=eql_f h39
  exact absurd rfl k39
 ·have k39:=eql_t h39
  intro n43 h43;conv=>cbv
  cases n43 <;> conv=>cbv
  ·have k43:=eql_f h43
   exact absurd rfl k43
  ·have k43:=eql_t h43
   intro n48 h48;(have h48:=h48.trans (show _=true by decide));subst h48;conv=>cbv
   obtain⟨c53,hc53⟩:=bool_ex (a.2=b.2)
   refine cL hE (NEqual (fam_of hV3 hok (S:=Rm) (by decide) (by decide)).toGam hta htb hT1 hT2 hA1 hA2 hea heb hc53) ⟨⟨rfl,rfl,trivial⟩,⟨rfl,rfl,trivial⟩,trivial⟩ ?_
   try conv=>cbv
   intro n55 h55;conv=>cbv
   intro n56 h56;conv=>cbv
   cases n56 <;> conv=>cbv
   ·have k56:=beq_f h56
    exact absurd (by rw[Bool.eq_iff_iff,hc53,h55,beq_iff_eq,hr26,sgR_eq0];constructor <;> intro h <;> grind) k56
   ·have k56:=beq_t h56
    obtain⟨c61,hc61⟩:=bool_ex (b.2=a.2)
    refine cL hE (NEqual (fam_of hV3 hok (S:=Rm) (by decide) (by decide)).toGam htb hta hT2 hT1 hA2 hA1 heb hea hc61) ⟨⟨rfl,rfl,trivial⟩,⟨rfl,rfl,trivial⟩,trivial⟩ ?_
    try conv=>cbv
    intro n63 h63;conv=>cbv
    intro n64 h64;conv=>cbv
    refine⟨fun _=>by kernel_rfl,?_⟩
    exact fA ⟨⟨rfl,congrArg _ ((h64.trans (beq_iff_eq.2 (by rw[Bool.eq_iff_iff,hc61,h63,beq_iff_eq,hr26,sgR_eq0];constructor <;> intro h <;> grind))).symm),trivial⟩,trivial⟩ rfl (by simp)
end Go.Abs
