/- Part 47 of a proof. Conditions: each theorem's own. -/
import Derived.Test.YtpccjlcpbehglaaGreatPk45
set_option linter.all false
set_option maxHeartbeats 8000000
open Go.Proofs
namespace Go.Abs
open Go.RowKit
section
variable {TT:List (List Rat)→Prop} {R K S:Nat}
theorem Gam.join2 (G:Gam TT R K S) {u v:List (List Rat)} (hu:TT u) (hv:TT v):TT (Go.Abs.join2 u v)∧Emb u (Go.Abs.join2 u v)∧Emb v (Go.Abs.join2 u v):=by
 have hh:∀n∈[(u,(0:Re)),(v,0)],TT n.1:=by intro n hn;simp at hn;rcases hn with rfl | rfl;exact hu;exact hv
 have he:=emb_joinL G hh
 exact⟨G.joinL hh,he (u,0) (by simp),he (v,0) (by simp)⟩
end
theorem pre_v (T0:List LR):∃z:List LR,z=T0:=⟨_,rfl⟩
theorem pre_r (T0:LR):∃z:LR,z=T0:=⟨_,rfl⟩
theorem NAdd {TT:List (List Rat)→Prop} {R K S:Nat} (G:Gam TT R K S) {T1 T2:List LR} {A1 A2:LR} {u v:List (List Rat)} {x y:Re} (hu:TT u) (hv:TT v) (hT1:T1=tw u) (hT2:T2=tw v) (hA1:A1=em u x) (hA2:A2=em v y) (hx:El u S x) (hy:El v S y) {T:List LR} {C:LR} (hT:T=tw (join2 u v)) (hC:C=em (join2 u v) (x+y)):CF 37 [.agg [.sl (.sl tRat) T1,.sl tRat A1],.agg [.sl (.sl tRat) T2,.sl tRat A2]] (.tup [(true,[.sl (.sl tRat) T,.sl tRat C]),(false,[.int .i64 0])]):=by
 obtain⟨htj,hej,hfj⟩:=G.join2 hu hv
 have hxj:=G.emb hu htj hej hx
 have hyj:=G.emb hv htj hfj hy
 have hmul:=G.mul htj
 obtain⟨A,hA⟩:=pre_r (em (join2 u v) x)
 obtain⟨B,hB⟩:=pre_r (em (join2 u v) y)
 refine acall_fn Tryz.func37 (by kernel_rfl) rfl fun E hE=>?_
 conv=>cbv
 refine cL hE (combine_ok G hu hv hT1 hT2 hA1 hA2 hx hy hT hA hB (Addv (G.twr htj) hT hA hB hxj hyj (by omega) (by omega) hC)) ⟨⟨rfl,rfl,trivial⟩,⟨rfl,rfl,trivial⟩,rfl,trivial⟩ ?_
 try conv=>cbv
 exact fA ⟨⟨rfl,rfl,rfl,trivial⟩,⟨rfl,rfl,trivial⟩,trivial⟩ rfl (by simp)
theorem NSub {TT:List (List Rat)→Prop} {R K S:Nat} (G:Gam TT R K S) {T1 T2:List LR} {A1 A2:LR} {u v:List (List Rat)} {x y:Re} (hu:TT u) (hv:TT v) (hT1:T1=tw u) (hT2:T2=tw v) (hA1:A1=em u x) (hA2:A2=em v y) (hx:El u S x) (hy:El v S y) {T:List LR} {C:LR} (hT:T=tw (join2 u v)) (hC:C=em (join2 u v) (x-y)):CF 40 [.agg [.sl (.sl tRat) T1,.sl tRat A1],.agg [.sl (.sl tRat) T2,.sl tRat A2]] (.tup [(true,[.sl (.sl tRat) T,.sl tRat C]),(false,[.int .i64 0])]):=by
 obtain⟨htj,hej,hfj⟩:=G.join2 hu hv
 have hxj:=G.emb hu htj hej hx
 have hyj:=G.emb hv htj hfj hy
 have hmul:=G.mul htj
 obtain⟨A,hA⟩:=pre_r (em (join2 u v) x)
 obtain⟨B,hB⟩:=pre_r (em (join2 u v) y)
 refine acall_fn Tryz.func40 (by kernel_rfl) rfl fun E hE=>?_
 conv=>cbv
 refine cL hE (combine_ok G hu hv hT1 hT2 hA1 hA2 hx hy hT hA hB (Subv (G.twr htj) hT hA hB hxj hyj (by omega) (by omega) hC)) ⟨⟨rfl,rfl,trivial⟩,⟨rfl,rfl,trivial⟩,rfl,trivial⟩ ?_
 try conv=>cbv
 exact fA ⟨⟨rfl,rfl,rfl,trivial⟩,⟨rfl,rfl,trivial⟩,trivial⟩ rfl (by simp)
theorem NMul {TT:List (List Rat)→Prop} {R K S:Nat} (G:Gam TT R K S) {T1 T2:List LR} {A1 A2:LR} {u v:List (List Rat)} {x y:Re} (hu:TT u) (hv:TT v) (hT1:T1=tw u) (hT2:T2=tw v) (hA1:A1=em u x) (hA2:A2=em v y) (hx:El u S x) (hy:El v S y) {T:List LR} {C:LR} (hT:T=tw (join2 u v)) (hC:C=em (join2 u v) (x*y)):CF 17 [.agg [.sl (.sl tRat) T1,.sl tRat A1],.agg [.sl (.sl tRat) T2,.sl tRat A2]] (.tup [(true,[.sl (.sl tRat) T,.sl tRat C]),(false,[.int .i64 0])]):=by
 obtain⟨htj,hej,hfj⟩:=G.join2 hu hv
 have hxj:=G.emb hu htj hej hx
 have hyj:=G.emb hv htj hfj hy
 have hmul:=G.mul htj
 obtain⟨A,hA⟩:=pre_r (em (join2 u v) x)
 obtain⟨B,hB⟩:=pre_r (em (join2 u v) y)
 refine acall_fn Tryz.func17 (by kernel_rfl) rfl fun E hE=>?_
 conv=>cbv
 refine cL hE (combine_ok G hu hv hT1 hT2 hA1 hA2 hx hy hT hA hB (Mulv (G.twr htj) hT hA hB hxj hyj (by omega) hC)) ⟨⟨rfl,rfl,trivial⟩,⟨rfl,rfl,trivial⟩,rfl,trivial⟩ ?_
 try conv=>cbv
 exact fA ⟨⟨rfl,rfl,rfl,trivial⟩,⟨rfl,rfl,trivial⟩,trivial⟩ rfl (by simp)
theorem NNeg {TT:List (List Rat)→Prop} {R K S:Nat} (G:Gam TT R K S) {T1:List LR} {A1:LR} {u:List (List Rat)} {x:Re} (hu:TT u) (hT1:T1=tw u) (hA1:A1=em u x) (hx:El u S x) {C:LR} (hC:C=em u (-x)):CF 43 [.agg [.sl (.sl tRat) T1,.sl tRat A1]] (.agg [.sl (.sl tRat) T1,.sl tRat C]):=by
 have hmul:=G.mul hu
 refine acall_fn Tryz.func43 (by kernel_rfl) rfl fun E hE=>?_
 conv=>cbv
 refine cL hE (detach_ok (G.twr hu) hT1 hA1 hx (by omega)) ⟨⟨rfl,rfl,trivial⟩,trivial⟩ ?_
 try conv=>cbv
 refine cL hE (Negv (G.twr hu) hT1 hA1 hx (by omega) hC) ⟨rfl,rfl,trivial⟩ ?_
 try conv=>cbv
 exact fA ⟨⟨rfl,rfl,rfl,trivial⟩,trivial⟩ rfl (by simp)
theorem NSign {TT:List (List Rat)→Prop} {R K S:Nat} (G:Gam TT R K S) {T1:List LR} {A1:LR} {u:List (List Rat)} {x:Re} (hu:TT u) (hT1:T1=tw u) (hA1:A1=em u x) (hx:El u S x) {c:Int} (hc:c=sgR x):CF 28 [.agg [.sl (.sl tRat) T1,.sl tRat A1]] (.one (.int .i64 c)):=by
 refine acall_fn Tryz.func28 (by kernel_rfl) rfl fun E hE=>?_
 conv=>cbv
 refine cA hE (Signv (G.twr hu) hT1 hA1 hx ((G.fit hu).mono (Nat.le_add_right _ _)).v0 (G.fit hu).vR hc) ?_
 try conv=>cbv
 exact fA ⟨⟨rfl,rfl,trivial⟩,trivial⟩ rfl (by simp)
theorem NSqrt {TT:List (List Rat)→Prop} {R K S:Nat} (G:Gam TT R K S) {T1:List LR} {A1:LR} {u:List (List Rat)} {x:Re} (hu:TT u) (hT1:T1=tw u) (hA1:A1=em u x) (hx:El u S x) (hw:TT (adj u x)) (h0:0≤x) {T:List LR} {C:LR} (hT:T=tw (adj u x)) (hC:C=em (adj u x) (Re.sqrt x)) {s:Nat} (hs:El (adj u x) s (Re.sqrt x)) (hsb:s≤60000000000000):CF 24 [.agg [.sl (.sl tRat) T1,.sl tRat A1]] (.tup [(true,[.sl (.sl tRat) T,.sl tRat C]),(false,[.int .i64 0])]):=by
 refine acall_fn Tryz.func24 (by kernel_rfl) rfl fun E hE=>?_
 conv=>cbv
 refine cA hE (Adjoin_v (G.twr hu) (G.twr hw) (G.ht hw) hT1 hA1 hx ((G.fit hu).mono (Nat.le_add_right _ _)) h0 hT hC) ?_
 try conv=>cbv
 intro n17 h17;(have h17:=h17.trans (show _=false by decide));subst h17;conv=>cbv
 refine cA hE (detach_ok (G.twr hw) hT hC hs hsb) ?_
 try conv=>cbv
 exact fA ⟨⟨rfl,rfl,rfl,trivial⟩,⟨rfl,rfl,trivial⟩,trivial⟩ rfl (by simp)
theorem NDiv {TT:List (List Rat)→Prop} {R K S:Nat} (G:Gam TT R K S) {T1 T2:List LR} {A1 A2:LR} {u v:List (List Rat)} {x y:Re} (hu:TT u) (hv:TT v) (hT1:T1=tw u) (hT2:T2=tw v) (hA1:A1=em u x) (hA2:A2=em v y) (hx:El u S x) (hy:El v S y) {i:Re} (hi:In v i) (hyi:y*i=1) (hiE:El v S i) (hII:II v.length R S≤60000000000000) {T:List LR} {C:LR} (hT:T=tw (join2 u v)) (hC:C=em (join2 u v) (x*i)):CF 20 [.agg [.sl (.sl tRat) T1,.sl tRat A1],.agg [.sl (.sl tRat) T2,.sl tRat A2]] (.tup [(true,[.sl (.sl tRat) T,.sl tRat C]),(false,[.int .i64 0])]):=by
 refine acall_fn Tryz.func20 (by kernel_rfl) rfl fun E hE=>?_
 conv=>cbv
 obtain⟨w14,hw14⟩:=pre_r (em v i)
 refine cA hE (Invv (G.twr hv) hT2 hA2 hy hi hyi hII hw14) ?_
 try conv=>cbv
 intro n17 h17;(have h17:=h17.trans (show _=false by decide));subst h17;conv=>cbv
 refine cA hE (NMul G hu hv hT1 hT2 hA1 hw14 hx hiE hT hC) ?_
 try conv=>cbv
 exact fA ⟨⟨rfl,rfl,rfl,trivial⟩,⟨rfl,rfl,trivial⟩,trivial⟩ rfl (by simp)
theorem NDiv0 {TT:List (List Rat)→Prop} {R K S:Nat} (G:Gam TT R K S) {T1 T2:List LR} {A1 A2:LR} {u v:List (List Rat)} {x y:Re} (hu:TT u) (hv:TT v) (hT1:T1=tw u) (hT2:T2=tw v) (hA1:A1=em u x) (hA2:A2=em v y) (hx:El u S x) (hy:El v S y) (hy0:y=0) (hEE:EE v.length R+R≤60000000000000):CF 20 [.agg [.sl (.sl tRat) T1,.sl tRat A1],.agg [.sl (.sl tRat) T2,.sl tRat A2]] (.tup [(true,[.sl (.sl tRat) (([]:List LR)),.sl tRat (([]:LR))]),(false,[.int .i64 6])]):=by
 refine acall_fn Tryz.func20 (by kernel_rfl) rfl fun E hE=>?_
 conv=>cbv
 refine cL (r:= .tup [(false,[.sl tRat (([]:LR))]),(false,[.int .i64 6])]) hE (Inv0 (G.twr hv) hT2 (hA2.trans (by rw[hy0])) hEE) ⟨rfl,rfl,trivial⟩ ?_
 try conv=>cbv
 intro n17 h17;(have h17:=h17.trans (show _=true by decide));subst h17;conv=>cbv
 exact fA ⟨⟨rfl,.inr (.inl ⟨_,rfl⟩),.inr (.inl ⟨_,rfl⟩),trivial⟩,⟨rfl,rfl,trivial⟩,trivial⟩ rfl (by simp)
theorem NCmp {TT:List (List Rat)→Prop} {R K S:Nat} (G:Gam TT R K S) {T1 T2:List LR} {A1 A2:LR} {u v:List (List Rat)} {x y:Re} (hu:TT u) (hv:TT v) (hT1:T1=tw u) (hT2:T2=tw v) (hA1:A1=em u x) (hA2:A2=em v y) (hx:El u S x) (hy:El v S y) {K2 S2:Nat} (G2:Gam TT R K2 S2) (hS:2*(S+K)+1≤S2) {c:Int} (hc:c=sgR (x-y)):CF 26 [.agg [.sl (.sl tRat) T1,.sl tRat A1],.agg [.sl (.sl tRat) T2,.sl tRat A2]] (.tup [(false,[.int .i64 c]),(false,[.int .i64 0])]):=by
 obtain⟨htj,hej,hfj⟩:=G.join2 hu hv
 have hxj:=G.emb hu htj hej hx
 have hyj:=G.emb hv htj hfj hy
 have hmul:=G.mul htj
 refine acall_fn Tryz.func26 (by kernel_rfl) rfl fun E hE=>?_
 conv=>cbv
 obtain⟨wT,hwT⟩:=pre_v (tw (join2 u v))
 obtain⟨wC,hwC⟩:=pre_r (em (join2 u v) (x-y))
 refine cA hE (NSub G hu hv hT1 hT2 hA1 hA2 hx hy hwT hwC) ?_
 try conv=>cbv
 intro n15 h15;(have h15:=h15.trans (show _=false by decide));subst h15;conv=>cbv
 refine cL hE (NSign G2 htj hwT hwC ((hxj.sub (G.twr htj).red hyj).mono (by omega)) hc) ⟨⟨rfl,rfl,trivial⟩,trivial⟩ ?_
 try conv=>cbv
 exact fA ⟨⟨rfl,rfl,trivial⟩,⟨rfl,rfl,trivial⟩,trivial⟩ rfl (by simp)
theorem em_inj {u:List (List Rat)} {x y:Re} (hx:In u x) (hy:In u y):em u x=em u y↔x=y:=
 ⟨fun h=>by rw[←ev_co hx,←ev_co hy,rps_inj h],fun h=>by rw[h]⟩
theorem suffix_anti {u v:List (List Rat)} (h:u<:+v) (k:v<:+u):u=v:=h.eq_of_length_le k.length_le
theorem NEqual {TT:List (List Rat)→Prop} {R K S:Nat} (G:Gam TT R K S) {T1 T2:List LR} {A1 A2:LR} {u v:List (List Rat)} {x y:Re} (hu:TT u) (hv:TT v) (hT1:T1=tw u) (hT2:T2=tw v) (hA1:A1=em u x) (hA2:A2=em v y) (hx:El u S x) (hy:El v S y) {c:Bool} (hc:c=true↔x=y):CF 29 [.agg [.sl (.sl tRat) T1,.sl tRat A1],.agg [.sl (.sl tRat) T2,.sl tRat A2]] (.one (.bool c)):=by
 obtain⟨htj,hej,hfj⟩:=G.join2 hu hv
 have hxj:=G.emb hu htj hej hx
 have hyj:=G.emb hv htj hfj hy
 have hmul:=G.mul htj
 obtain⟨A,hA⟩:=pre_r (em (join2 u v) x)
 obtain⟨B,hB⟩:=pre_r (em (join2 u v) y)
 obtain⟨T,hT⟩:=pre_v (tw (join2 u v))
 obtain⟨O,hO⟩:∃z:List (el tNum),z=[(T,A),(T,B)]:=⟨_,rfl⟩
 have hOl:O.length=2:=by rw[hO];rfl
 have h0:O[0]? =some (T,A):=by rw[hO];rfl
 have h1:O[1]? =some (T,B):=by rw[hO];rfl
 refine acall_fn Tryz.func29 (by kernel_rfl) rfl fun E hE=>?_
 conv=>cbv
 obtain⟨c14,hc14⟩:=bool_ex (v<:+u)
 refine cA hE (begins_d (G.twr hu) (G.twr hv) hT1 hT2 hc14) ?_
 try conv=>cbv
 cases c14 <;> conv=>cbv
 ·have k14:=fun q=>Bool.false_ne_true (hc14.2 q)
  refine⟨[(T1,A1),(T2,A2)],fun _=>⟨rfl,by decide,rfl,⟨rfl,by first | exact⟨rfl,trivial⟩ | exact⟨rfl,rfl,trivial⟩ | exact⟨rfl,rfl,rfl,rfl,trivial⟩ | simp[allC,leC,cells],⟨rfl,by first | exact⟨rfl,trivial⟩ | exact⟨rfl,rfl,trivial⟩ | exact⟨rfl,rfl,rfl,rfl,trivial⟩ | simp[allC,leC,cells],trivial⟩⟩⟩,.inr ?_⟩
  try conv=>cbv
  refine cL (r:= .tup [(false,[.sl tNum O]),(false,[.int .i64 0])]) hE (Join_ok (ns:=[(u,x),(v,y)]) G (by intro n hn;simp at hn;rcases hn with rfl | rfl;exact hu;exact hv) (by rw[hT1,hT2,hA1,hA2];rfl) (by intro n hn;simp at hn;rcases hn with rfl | rfl;exact hx;exact hy) (by show 2≤1000000;decide) (by rw[hO,hT,hA,hB];rfl)) ⟨rfl,trivial⟩ ?_
  try conv=>cbv
  intro n35 h35;(have h35:=h35.trans (show _=true by decide));subst h35;conv=>cbv
  obtain⟨x37,hx37⟩:=get_ex (l:=O) (i:=0) (by omega)
  refine⟨x37,fun _=>⟨by omega,hx37⟩,?_⟩
  try conv=>cbv
  obtain⟨x41,hx41⟩:=get_ex (l:=O) (i:=1) (by omega)
  refine⟨x41,fun _=>⟨by omega,hx41⟩,?_⟩
  try conv=>cbv
  have e37:=Option.some.inj (hx37.symm.trans h0)
  have e41:=Option.some.inj (hx41.symm.trans h1)
  have hcA:c=decide (x37.2=x41.2):=by rw[Bool.eq_iff_iff,decide_eq_true_eq,hc,e37,e41,hA,hB];exact (em_inj hxj.mem hyj.mem).symm
  refine cL (r:= .one (.bool c)) hE (same_ok (by rw[e37];exact hA) (by rw[e41];exact hB) (hxj.smalls (by omega)) (hyj.smalls (by omega)) hcA) ⟨rfl,rfl,trivial⟩ ?_
  try conv=>cbv
  refine⟨fun _=>rfl,?_⟩
  exact fA ⟨⟨rfl,rfl,trivial⟩,trivial⟩ rfl (by simp)
 ·have k14:=hc14.1 rfl
  obtain⟨c20,hc20⟩:=bool_ex (u<:+v)
  refine cA hE (begins_d (G.twr hv) (G.twr hu) hT2 hT1 hc20) ?_
  try conv=>cbv
  cases c20 <;> conv=>cbv
  ·have k20:=fun q=>Bool.false_ne_true (hc20.2 q)
   refine⟨[(T1,A1),(T2,A2)],fun _=>⟨rfl,by decide,rfl,⟨rfl,by first | exact⟨rfl,trivial⟩ | exact⟨rfl,rfl,trivial⟩ | exact⟨rfl,rfl,rfl,rfl,trivial⟩ | simp[allC,leC,cells],⟨rfl,by first | exact⟨rfl,trivial⟩ | exact⟨rfl,rfl,trivial⟩ | exact⟨rfl,rfl,rfl,rfl,trivial⟩ | simp[allC,leC,cells],trivial⟩⟩⟩,.inr ?_⟩
   try conv=>cbv
   refine cL (r:= .tup [(false,[.sl tNum O]),(false,[.int .i64 0])]) hE (Join_ok (ns:=[(u,x),(v,y)]) G (by intro n hn;simp at hn;rcases hn with rfl | rfl;exact hu;exact hv) (by rw[hT1,hT2,hA1,hA2];rfl) (by intro n hn;simp at hn;rcases hn with rfl | rfl;exact hx;exact hy) (by show 2≤1000000;decide) (by rw[hO,hT,hA,hB];rfl)) ⟨rfl,trivial⟩ ?_
   try conv=>cbv
   intro n35 h35;(have h35:=h35.trans (show _=true by decide));subst h35;conv=>cbv
   obtain⟨x37,hx37⟩:=get_ex (l:=O) (i:=0) (by omega)
   refine⟨x37,fun _=>⟨by omega,hx37⟩,?_⟩
   try conv=>cbv
   obtain⟨x41,hx41⟩:=get_ex (l:=O) (i:=1) (by omega)
   refine⟨x41,fun _=>⟨by omega,hx41⟩,?_⟩
   try conv=>cbv
   have e37:=Option.some.inj (hx37.symm.trans h0)
   have e41:=Option.some.inj (hx41.symm.trans h1)
   have hcA:c=decide (x37.2=x41.2):=by rw[Bool.eq_iff_iff,decide_eq_true_eq,hc,e37,e41,hA,hB];exact (em_inj hxj.mem hyj.mem).symm
   refine cL (r:= .one (.bool c)) hE (same_ok (by rw[e37];exact hA) (by rw[e41];exact hB) (hxj.smalls (by omega)) (hyj.smalls (by omega)) hcA) ⟨rfl,rfl,trivial⟩ ?_
   try conv=>cbv
   refine⟨fun _=>rfl,?_⟩
   exact fA ⟨⟨rfl,rfl,trivial⟩,trivial⟩ rfl (by simp)
  ·have k20:=hc20.1 rfl
   have huv:=suffix_anti k20 k14
   have hcA:c=decide (A1=A2):=by rw[Bool.eq_iff_iff,decide_eq_true_eq,hc,hA1,hA2,←huv];exact (em_inj hx.mem (huv ▸ hy.mem)).symm
   refine cL hE (same_ok hA1 hA2 (hx.smalls (by omega)) (hy.smalls (by omega)) hcA) ⟨rfl,rfl,trivial⟩ ?_
   try conv=>cbv
   exact fA ⟨⟨rfl,rfl,trivial⟩,trivial⟩ rfl (by simp)
theorem NFromRat {q:Rat} {b1 b2:Bool} {l1 l2:List UInt32} {C:LR} (hq:IsR q b1 l1 b2 l2) (hs:SmallQ q) (hC:C=em [] (Re.ofRat q)):CF 64 [.agg [.bool b1,.sl .u32 l1,.bool b2,.sl .u32 l2]] (.agg [.sl (.sl tRat) (([]:List LR)),.sl tRat C]):=by
 refine acall_fn Tryz.func64 (by kernel_rfl) rfl fun E hE=>?_
 conv=>cbv
 refine cA hE (copyRat_ok hq hs) ?_
 try conv=>cbv
 refine⟨[((b1,l1),(b2,l2))],fun _=>⟨rfl,by decide,rfl,⟨rfl,by first | exact⟨rfl,trivial⟩ | exact⟨rfl,rfl,trivial⟩ | exact⟨rfl,rfl,rfl,rfl,trivial⟩ | simp[allC,leC,cells],trivial⟩⟩,.inr ?_⟩
 try conv=>cbv
 exact fA ⟨⟨rfl,.inr (.inl ⟨_,rfl⟩),congrArg _ (by rw[hC,em_nil,←hq.rp]),trivial⟩,trivial⟩ rfl (by simp)
theorem NFromInt {x:Int} {C:LR} (hx: -9223372036854775808≤x∧x<9223372036854775808) (hs:SmallQ x) (hC:C=em [] (Re.ofRat x)):CF 63 [.one (.int .i64 x)] (.agg [.sl (.sl tRat) (([]:List LR)),.sl tRat C]):=by
 refine acall_fn Tryz.func63 (by kernel_rfl) rfl fun E hE=>?_
 conv=>cbv
 obtain⟨zb4,zl4,yb4,yl4,hz4⟩:=isR_ex (x:Rat)
 refine cA hE (RFromInt_ok hx rfl hz4) ?_
 try conv=>cbv
 refine cA hE (NFromRat hz4 hs hC) ?_
 try conv=>cbv
 exact fA ⟨⟨rfl,rfl,rfl,trivial⟩,trivial⟩ rfl (by simp)
end Go.Abs
namespace Go.Abs
open Go.RowKit
structure FitY (h R s:Nat):Prop where
 q:SS h R s≤60000000000000
 v:VV h R (s+GG h R)≤60000000000000
 qR:SS h R R≤60000000000000
 vR:VV h R R≤60000000000000
variable {A B:LR} {R':Nat} {T T2:List LR} {r:List Rat} {u:List (List Rat)} {v x:Re}
theorem FitY.v0 {h R s:Nat} (f:FitY h R s):VV h R s≤60000000000000:=Nat.le_trans (VV_mono h R (by omega)) f.v
theorem FitY.s {h R s:Nat} (f:FitY h R s):s≤60000000000000:=Nat.le_trans (SS_ge h R s) f.q
theorem FitY.mono {h R s t:Nat} (f:FitY h R s) (ht:t≤s):FitY h R t:=⟨Nat.le_trans (SS_mono h R ht) f.q,Nat.le_trans (VV_mono h R (by omega)) f.v,f.qR,f.vR⟩
theorem SS_up:∀(h R s:Nat),SS h R s≤SS (h+1) R s:=fun h R s=>Nat.le_trans (SS_mono h R (by unfold TQ;omega)) (SS_d h R s)
theorem SS_le {i h:Nat} (hi:i≤h) (R s:Nat):SS i R s≤SS h R s:=by
 induction hi with
 | refl=>exact Nat.le_refl _
 | step _ ih=>exact Nat.le_trans ih (SS_up _ _ _)
theorem Yroot_walk {R s:Nat} (h:Twr R u) (hT:T=tw u) (hA:A=em u x) (hx:El u s x) (hF:FitY u.length R s) {w:Re} (hw:In u w) (hww:w*w=x) (hy:YSqY u x w) (hv0:0≤v) (hvv:v*v=x) (hB:B=em u v):CF 223 [.one (.sl (.sl tRat) T),.one (.sl tRat A)] (.tup [(false,[.sl tRat B]),(false,[.bool true])]):=by
 have hwE:=hx.sqrt h hw hww
 refine acall_fn Tryz.func223 (by kernel_rfl) rfl fun E hE=>?_
 conv=>cbv
 obtain⟨w12,hw12⟩:∃z:LR,z=em u w:=⟨_,rfl⟩
 refine cA hE (hy hT hA hw12) ?_
 try conv=>cbv
 intro n15 h15;(have h15:=h15.trans (show _=false from rfl));subst h15;conv=>cbv
 obtain⟨r18,hr18⟩:∃z:Int,z=sgR w:=⟨_,rfl⟩
 refine cA hE (YSignv h hT hw12 hwE hF.v (Nat.le_trans (VV_ge _ _ _) hF.v) hF.vR hr18) ?_
 try conv=>cbv
 intro n19 h19;conv=>cbv
 refine .inr ?_
 cases n19 <;> conv=>cbv
 ·have k19:=lss_f h19
  exact fA ⟨⟨rfl,congrArg _ (by rw[hB,hw12];congr 1;have:¬w<0:=(fun hc=>by have:=lt_zero_sg.2 hc;omega);exact Re.sq_inj hv0 (by grind) (hvv.trans hww.symm)),trivial⟩,⟨rfl,rfl,trivial⟩,trivial⟩ rfl (by simp)
 ·have k19:=lss_t h19
  obtain⟨w22,hw22⟩:∃z:LR,z=em u (-w):=⟨_,rfl⟩
  refine cA hE (Ynegv h hw12 hwE hw22) ?_
  try conv=>cbv
  exact fA ⟨⟨rfl,congrArg _ (by rw[hB,hw22];congr 1;have:w<0:=lt_zero_sg.1 (by omega);exact Re.sq_inj hv0 (by grind) (by rw[hvv,←hww];grind)),trivial⟩,⟨rfl,rfl,trivial⟩,trivial⟩ rfl (by simp)
theorem Yroot_none {B:LR} {R s:Nat} (h:Twr R u) (hT:T=tw u) (hA:A=em u x) (hx:El u s x) (hF:FitY u.length R s) {l:LR} (hn:YSqN u x l):CF 223 [.one (.sl (.sl tRat) T),.one (.sl tRat A)] (.tup [(false,[.sl tRat (([]:LR))]),(false,[.bool false])]):=by
 refine acall_fn Tryz.func223 (by kernel_rfl) rfl fun E hE=>?_
 conv=>cbv
 refine cA hE (hn hT hA) ?_
 try conv=>cbv
 intro n15 h15;(have h15:=h15.trans (show _=true from rfl));subst h15;conv=>cbv
 exact fA ⟨⟨rfl,.inr (.inl ⟨_,rfl⟩),trivial⟩,⟨rfl,rfl,trivial⟩,trivial⟩ rfl (by simp)
theorem Yroot_yes {R s:Nat} (h:Twr R u) (hT:T=tw u) (hA:A=em u x) (hx:El u s x) (hF:FitY u.length R s) (hv:In u v) (hv0:0≤v) (hvv:v*v=x) (hB:B=em u v):CF 223 [.one (.sl (.sl tRat) T),.one (.sl tRat A)] (.tup [(false,[.sl tRat B]),(false,[.bool true])]):=by
 rcases ysqC h hx hF.q hF.vR with⟨w,hw,hww,hy⟩ |⟨hno,_⟩
 ·exact Yroot_walk h hT hA hx hF hw hww hy hv0 hvv hB
 ·exact absurd ⟨v,hv,hvv⟩ hno
theorem Yroot_no {R s:Nat} (h:Twr R u) (hT:T=tw u) (hA:A=em u x) (hx:El u s x) (hF:FitY u.length R s) (hno:¬Sq u x):CF 223 [.one (.sl (.sl tRat) T),.one (.sl tRat A)] (.tup [(false,[.sl tRat []]),(false,[.bool false])]):=by
 rcases ysqC h hx hF.q hF.vR with⟨w,hw,hww,hy⟩ |⟨_,l,hn⟩
 ·exact absurd ⟨w,hw,hww⟩ hno
 ·exact Yroot_none (B:=[]) h hT hA hx hF hn
theorem YReducedv {R:Nat} (h:Twr R u) (hT:T=tw u) (hv:VV u.length R R≤60000000000000) (hq:SS u.length R R≤60000000000000):CF 34 [.one (.sl (.sl tRat) T)] (.one (.bool true)):=by
 have hTl:T.length=u.length:=by rw[hT,tw_len]
 have hR:=h.hR
 refine acall_fn Tryz.func34 (by kernel_rfl) rfl fun E hE=>?_
 conv=>cbv
 refine .inr ?_
 obtain⟨J0,hJ0⟩:∃J:List AV→List Blk→Nat→Prop,J=fun vs bl k=>∃(i':Nat) (i:Int),vs=[.one (.sl (.sl tRat) T),.one (.int .i64 i)]∧(NatIs i i'∧i'≤T.length)∧k=T.length-i':=⟨_,rfl⟩
 refine⟨[0,3],[],J0,⟨T.length-0,by rw[hJ0];exact⟨0,0,rfl,⟨natIs 0,by omega⟩,rfl⟩⟩,?_⟩
 intro vs bl kk0 hj;rw[hJ0] at hj
 obtain⟨i',i,rfl,⟨hi,hiL⟩,hk0⟩:=hj
 conv=>cbv
 have ei:=hi.eq
 intro n8 h8;have e8:=h8.eq;have f8:=h8.le;conv=>cbv
 intro n9 h9;conv=>cbv
 cases n9 <;> conv=>cbv
 ·have k9:=lss_f h9
  exact fA ⟨⟨rfl,rfl,trivial⟩,trivial⟩ rfl (by simp)
 ·have k9:=lss_t h9
  refine .inr ?_
  intro m14 hm14;conv=>cbv
  refine⟨fun _=>⟨by omega,by omega⟩,?_⟩
  intro b14 hb14;conv=>cbv
  intro l14 hl14;conv=>cbv
  obtain⟨x17,hx17⟩:=get_ex (l:=T) (i:=i') (by omega)
  refine⟨x17,fun _=>⟨by omega,by rw[show (i).toNat=i' by omega];exact hx17⟩,?_⟩
  try conv=>cbv
  obtain⟨r,hrp,hri⟩:=pre_succ (u:=u) (i:=i') (by omega)
  have hrd:Red (r::pre u i'):=hrp ▸ (h.pre (i'+1)).red
  have hrx:∀x,T[i']? =some x→x=em (pre u i') (evR (pre u i') r):=fun x hx=>by rw[←hT,hx] at hri;exact (Option.some.inj hri).trans (em_rad hrd)
  have hx18e:=hrx _ hx17
  have hrE:El (pre u i') R (evR (pre u i') r):=El.rad (hrp ▸ h.pre (i'+1))
  have hl14e:l14=tw (pre u i'):=by rw[hl14,List.drop_zero,show b14=i' by omega,hT,pre_take]
  have hpl:(pre u i').length≤u.length:=by rw[pre_len (by omega)];omega
  have hvp:VV (pre u i').length R R≤60000000000000:=Nat.le_trans (VV_le hpl R R) hv
  have hqp:SS (pre u i').length R R≤60000000000000:=Nat.le_trans (SS_le hpl R R) hq
  refine cA hE (YFormed_ok (h.pre i') hl14e hx18e hrE hR) ?_
  try conv=>cbv
  intro n20 h20;(have h20:=h20.trans (show _=false from rfl));subst h20;conv=>cbv
  intro m24 hm24;conv=>cbv
  refine⟨fun _=>⟨by omega,by omega⟩,?_⟩
  intro b24 hb24;conv=>cbv
  intro l24 hl24;conv=>cbv
  obtain⟨x27,hx27⟩:=get_ex (l:=T) (i:=i') (by omega)
  refine⟨x27,fun _=>⟨by omega,by rw[show (i).toNat=i' by omega];exact hx27⟩,?_⟩
  try conv=>cbv
  have hl24e:l24=tw (pre u i'):=by rw[hl24,List.drop_zero,show b24=i' by omega,hT,pre_take]
  have hx18f:=hrx _ hx27
  obtain⟨r29,hr29⟩:∃z:Int,z=sgR (evR (pre u i') r):=⟨_,rfl⟩
  refine cA hE (YSignv (h.pre i') hl24e hx18f hrE hvp hR hvp hr29) ?_
  try conv=>cbv
  intro n30 h30;conv=>cbv
  refine⟨fun _=>rfl,?_⟩
  cases n30 <;> conv=>cbv
  ·have k30:=leq_f h30
   intro m35 hm35;conv=>cbv
   refine⟨fun _=>⟨by omega,by omega⟩,?_⟩
   intro b35 hb35;conv=>cbv
   intro l35 hl35;conv=>cbv
   obtain⟨x38,hx38⟩:=get_ex (l:=T) (i:=i') (by omega)
   refine⟨x38,fun _=>⟨by omega,by rw[show (i).toNat=i' by omega];exact hx38⟩,?_⟩
   try conv=>cbv
   have hl35e:l35=tw (pre u i'):=by rw[hl35,List.drop_zero,show b35=i' by omega,hT,pre_take]
   have hx18g:=hrx _ hx38
   obtain⟨l,hn⟩:=((ysqC (h.pre i') hrE hqp hvp).resolve_left (fun⟨w,hw,hww,_⟩=>hrd.2.2.2 ⟨w,hw,hww⟩)).2
   refine cA hE (hn hl35e hx18g) ?_
   try conv=>cbv
   refine⟨fun _=>rfl,?_⟩
   intro n11 h11;conv=>cbv
   refine⟨fun _=>i64 (by omega),?_⟩
   refine⟨T.length-(i'+1),?_,?_⟩
   ·omega
   rw[hJ0]
   exact⟨i'+1,n11,rfl,⟨⟨by omega⟩,by omega⟩,rfl⟩
  ·have k30:=leq_t h30
   exact absurd k30 (by rw[hr29,sgR_pos hrd.2.2.1];omega)
theorem YExt_in {R s:Nat} (h:Twr R u) (hT:T=tw u) (hA:A=em u x) (hx:El u s x) (hF:FitY u.length R s) (hv:In u v) (hv0:0≤v) (hvv:v*v=x) (hB:B=em u v):CF 194 [.one (.sl (.sl tRat) T),.one (.sl tRat A)] (.tup [(false,[.sl (.sl tRat) T]),(false,[.sl tRat B]),(false,[.int .i64 0])]):=by
 have hxn:0≤x:=by rw[←hvv];exact Re.sq_nn v
 refine acall_fn Tryz.func194 (by kernel_rfl) rfl fun E hE=>?_
 conv=>cbv
 obtain⟨r12,hr12⟩:∃z:Int,z=sgR x:=⟨_,rfl⟩
 refine cA hE (YSignv h hT hA hx hF.v0 hF.s hF.vR hr12) ?_
 try conv=>cbv
 intro n13 h13;conv=>cbv
 cases n13 <;> conv=>cbv
 ·have k13:=lss_f h13
  refine cA hE (Yroot_yes h hT hA hx hF hv hv0 hvv hB) ?_
  try conv=>cbv
  exact fA ⟨⟨rfl,rfl,trivial⟩,⟨rfl,rfl,trivial⟩,⟨rfl,rfl,trivial⟩,trivial⟩ rfl (by simp)
 ·have k13:=lss_t h13
  exact (not_neg_sg hr12 k13 hxn).elim
theorem YExt_new {R s:Nat} (h:Twr R u) (hT:T=tw u) (hA:A=em u x) (hx:El u s x) (hF:FitY u.length R s) (h8:u.length<8) (hxn:0≤x) (hno:¬Sq u x) (hr:r=co u x) (h':Twr R' (r::u)) (hT2:T2=tw (r::u)) (hB:B=em (r::u) (rt u r)):CF 194 [.one (.sl (.sl tRat) T),.one (.sl tRat A)] (.tup [(false,[.sl (.sl tRat) T2]),(false,[.sl tRat B]),(false,[.int .i64 0])]):=by
 have hTl:T.length=u.length:=by rw[hT,tw_len]
 have hht:=h.ht
 refine acall_fn Tryz.func194 (by kernel_rfl) rfl fun E hE=>?_
 conv=>cbv
 obtain⟨r12,hr12⟩:∃z:Int,z=sgR x:=⟨_,rfl⟩
 refine cA hE (YSignv h hT hA hx hF.v0 hF.s hF.vR hr12) ?_
 try conv=>cbv
 intro n13 h13;conv=>cbv
 cases n13 <;> conv=>cbv
 ·have k13:=lss_f h13
  refine cA hE (Yroot_no h hT hA hx hF hno) ?_
  try conv=>cbv
  intro n24 h24;have e24:=h24.eq;have f24:=h24.le;conv=>cbv
  intro n25 h25;conv=>cbv
  cases n25 <;> conv=>cbv
  ·have k25:=geq_f h25
   refine⟨[],fun _=>⟨rfl,by decide,rfl,trivial⟩,.inl ?_⟩
   try conv=>cbv
   refine .inl ⟨T,fun _=>⟨rfl,rfl,rfl,by show (0+T.length)*24≤140737488355328;(try simp only[List.length_take,List.length_drop]);omega⟩,?_⟩
   intro (l28:List (el (.sl tRat))) n28 ql28;have hl28:l28=([]:List (el (.sl tRat)))++(T:List (el (.sl tRat))):=ql28.1;have hn28:n28=List.length (α:=(el (.sl tRat))) l28:=ql28.2;conv=>cbv
   refine⟨[A],fun _=>⟨rfl,by decide,rfl,⟨rfl,by first | exact⟨rfl,trivial⟩ | exact⟨rfl,rfl,trivial⟩ | exact⟨rfl,rfl,rfl,rfl,trivial⟩ | simp[allC,leC,cells],trivial⟩⟩,.inr ?_⟩
   try conv=>cbv
   have hl28l:l28.length=T.length:=by rw[hl28];simp
   refine .inr ⟨[A],fun _=>⟨rfl,hn28,rfl,by show (l28.length+1)*24≤140737488355328;(try simp only[List.length_take,List.length_drop]);omega⟩,?_⟩
   intro (l31:List (el (.sl tRat))) n31 ql31;have hl31:l31=(l28:List (el (.sl tRat)))++([A]:List (el (.sl tRat))):=ql31.1;have hn31:n31=List.length (α:=(el (.sl tRat))) l31:=ql31.2;conv=>cbv
   refine⟨fun _=>hn31,?_⟩
   intro n35 h35;have e35:=h35.eq;have f35:=h35.le;conv=>cbv
   have hl31e:l31=tw (r::u):=by rw[hl31,hl28,hT,tw_cons,hA,em,hr];rfl
   refine cA hE (YRootv h' hl31e (NatIs.of (e35.trans (congrArg _ hTl))) hB) ?_
   try conv=>cbv
   exact fA ⟨⟨rfl,congrArg _ (by rw[hT2,hl31e]),trivial⟩,⟨rfl,rfl,trivial⟩,⟨rfl,rfl,trivial⟩,trivial⟩ rfl (by simp)
  ·have k25:=geq_t h25
   exact absurd k25 (by omega)
 ·have k13:=lss_t h13
  exact (not_neg_sg hr12 k13 hxn).elim
theorem Yad_in {R s:Nat} (h:Twr R u) (hT:T=tw u) (hA:A=em u x) (hx:El u s x) (hF:FitY u.length R s) (hv:In u v) (hv0:0≤v) (hvv:v*v=x) (hB:B=em u v):CF 150 [.one (.sl (.sl tRat) T),.one (.sl tRat A)] (.tup [(false,[.sl (.sl tRat) T]),(false,[.sl tRat B]),(false,[.int .i64 0])]):=by
 refine acall_fn Tryz.func150 (by kernel_rfl) rfl fun E hE=>?_
 conv=>cbv
 refine cA hE (YReducedv h hT hF.vR hF.qR) ?_
 try conv=>cbv
 intro n9 h9;(have h9:=h9.trans (show _=false from rfl));subst h9;conv=>cbv
 refine cA hE (YFormed_ok h hT hA hx hF.s) ?_
 try conv=>cbv
 intro n14 h14;(have h14:=h14.trans (show _=false from rfl));subst h14;conv=>cbv
 refine cA hE (YExt_in h hT hA hx hF hv hv0 hvv hB) ?_
 try conv=>cbv
 exact fA ⟨⟨rfl,rfl,trivial⟩,⟨rfl,rfl,trivial⟩,⟨rfl,rfl,trivial⟩,trivial⟩ rfl (by simp)
theorem Yad_new {R s:Nat} (h:Twr R u) (hT:T=tw u) (hA:A=em u x) (hx:El u s x) (hF:FitY u.length R s) (h8:u.length<8) (hxn:0≤x) (hno:¬Sq u x) (hr:r=co u x) (h':Twr R' (r::u)) (hT2:T2=tw (r::u)) (hB:B=em (r::u) (rt u r)):CF 150 [.one (.sl (.sl tRat) T),.one (.sl tRat A)] (.tup [(false,[.sl (.sl tRat) T2]),(false,[.sl tRat B]),(false,[.int .i64 0])]):=by
 refine acall_fn Tryz.func150 (by kernel_rfl) rfl fun E hE=>?_
 conv=>cbv
 refine cA hE (YReducedv h hT hF.vR hF.qR) ?_
 try conv=>cbv
 intro n9 h9;(have h9:=h9.trans (show _=false from rfl));subst h9;conv=>cbv
 refine cA hE (YFormed_ok h hT hA hx hF.s) ?_
 try conv=>cbv
 intro n14 h14;(have h14:=h14.trans (show _=false from rfl));subst h14;conv=>cbv
 refine cA hE (YExt_new h hT hA hx hF h8 hxn hno hr h' hT2 hB) ?_
 try conv=>cbv
 exact fA ⟨⟨rfl,rfl,trivial⟩,⟨rfl,rfl,trivial⟩,⟨rfl,rfl,trivial⟩,trivial⟩ rfl (by simp)
theorem YAdjoin_v {R s:Nat} (h:Twr R u) (h':Twr R' (adj u v)) (h8:(adj u v).length≤8) (hT:T=tw u) (hA:A=em u v) (hx:El u s v) (hF:FitY u.length R s) (h0:0≤v) (hT2:T2=tw (adj u v)) (hB:B=em (adj u v) (Re.sqrt v)):
  CF 150 [.one (.sl (.sl tRat) T),.one (.sl tRat A)] (.tup [(false,[.sl (.sl tRat) T2]),(false,[.sl tRat B]),(false,[.int .i64 0])]):=by
 by_cases hs:Sq u v
 ·rw[adj_in hs] at hT2 hB
  have hTT:T2=T:=hT2.trans hT.symm
  subst hTT
  exact Yad_in h hT hA hx hF ((sq_sqrt h0).1 hs) (Re.sqrt_nn v) (Re.sqrt_sq h0) hB
 ·rw[adj_new hs] at h' h8 hT2 hB
  rw[←rt_new hx.mem] at hB
  exact Yad_new h hT hA hx hF (by rw[List.length_cons] at h8;omega) h0 hs rfl h' hT2 hB
end Go.Abs
