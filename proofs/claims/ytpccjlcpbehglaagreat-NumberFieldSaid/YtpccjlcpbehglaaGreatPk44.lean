/- Part 45 of a proof. Conditions: each theorem's own. -/
import Derived.Test.YtpccjlcpbehglaaGreatPk43
set_option linter.all false
set_option maxHeartbeats 8000000
open Go.Proofs
namespace Go.Abs
open Go.RowKit
def RootsOK (w:List (List Rat)) (RL:List LR):List (List Rat)→Prop
 | []=>True
 | r::u=>RootsOK w RL u∧∃wk,wk<:+w∧In wk (rt u r)∧RL[u.length]? =some (em wk (rt u r))
variable {A C:LR} {K R S a k mm n:Nat} {RL T:List LR} {TT:List (List Rat)→Prop} {p q x:Re} {r:List Rat} {u w:List (List Rat)}
theorem RootsOK.mono {w':List (List Rat)} {X:List LR} (h:w<:+w'):∀{u:List (List Rat)},RootsOK w RL u→RootsOK w' (RL++X) u
 | [],_=>trivial
 | r::u,⟨h1,wk,h2,h3,h4⟩=>⟨h1.mono h,wk,h2.trans h,h3,by rw[List.getElem?_append_left (getE h4)];exact h4⟩
noncomputable def rootsL (t:List (List Rat)):List (List Rat)→List LR
 | []=>[]
 | r::u=>rootsL t u++[em (ext t (r::u)) (rt u r)]
theorem rootsL_len (t:List (List Rat)):∀u,(rootsL t u).length=u.length
 | []=>rfl
 | r::u=>by rw[rootsL,List.length_append,rootsL_len t u];rfl
theorem roots_ok {t:List (List Rat)} (ht:Red t):∀{u:List (List Rat)},Red u→RootsOK (ext t u) (rootsL t u) u
 | [],_=>trivial
 | r::u,hu=>by
  refine⟨(roots_ok ht hu.1).mono (adj_suffix _ _),ext t (r::u),List.suffix_refl _,(red_ext ht hu).2.root,?_⟩
  rw[rootsL,List.getElem?_append_right (by rw[rootsL_len];omega),rootsL_len,Nat.sub_self];rfl
theorem ext_eq {t:List (List Rat)} (ht:Red t):∀{u:List (List Rat)},Red u→Emb u t→ext t u=t
 | [],_,_=>rfl
 | r::u,hu,h=>by
  rw[ext,ext_eq ht hu.1 h.tail]
  exact adj_in ⟨rt u r,h.root,rt_sq hu⟩
def ImC (f:FuncId) (S:Nat) (w u:List (List Rat)):Prop:=∀{T RL:List LR} {A C:LR} {x:Re},T=tw w→RootsOK w RL u→A=em u x→El u S x→C=em w x→
 CF f [.agg [.sl (.sl tRat) T,.sl (.sl tRat) RL],.one (.sl tRat A)] (.one (.sl tRat C))
def ImD (f:FuncId) (S:Nat) (w u:List (List Rat)):Prop:=∀{T RL:List LR} {A C:LR} {x:Re} {mm:Nat},T=tw w→RootsOK w RL u→mm=RL.length→A=em u x→El u S x→C=em w x→
 DCall Tryz.prog f [.agg [.sl (.sl tRat) T,.lsl (.sl tRat) 0 0 0 mm],.one (.sl tRat A)] (.arr 0 (.sl tRat) RL) (.one (.sl tRat C))
theorem pow_lt_iff {b:Nat}:2^a<2^b↔a<b:=Nat.pow_lt_pow_iff_right (by decide)
theorem k_lt (ha:a=2^n+2^n) (h:2^(k+1)<a):k<n:=by
 have h2:a=2^(n+1):=by rw[ha,Nat.pow_succ];omega
 rw[h2,pow_lt_iff] at h;omega
theorem k_ge (ha:a=2^n+2^n) (h:¬2^(k+1)<a):n≤k:=by
 have h2:a=2^(n+1):=by rw[ha,Nat.pow_succ];omega
 rw[h2,pow_lt_iff] at h;omega
theorem imc_base {u:List (List Rat)} {x:Re} (G:Gam TT R K S) (hw:TT w) (hT:T=tw w) {q:Rat} (hA:A=em [] (Re.ofRat q)) (hq:SmallQ q) (hC:C=em w (Re.ofRat q)):CF 90 [.agg [.sl (.sl tRat) T,.sl (.sl tRat) RL],.one (.sl tRat A)] (.one (.sl tRat C)):=by
 have hA1:A=[rp q]:=hA.trans (em_nil q)
 have hAl:A.length=1:=by rw[hA1];rfl
 refine acall_fn Tryz.func90 (by kernel_rfl) rfl fun E hE=>?_
 conv=>cbv
 intro n10 h10;have e10:=h10.eq;have f10:=h10.le;conv=>cbv
 intro n11 h11;conv=>cbv
 cases n11 <;> conv=>cbv
 ·have k11:=eql_f h11
  exact absurd k11 (by omega)
 ·have k11:=eql_t h11
  obtain⟨x15,hx15⟩:=get_ex (l:=A) (i:=0) (by omega)
  refine⟨x15,fun _=>⟨by omega,hx15⟩,?_⟩
  try conv=>cbv
  refine cA hE (FromRatv (G.twr hw) hT (one_rp hA1 hx15) hq hC) ?_
  try conv=>cbv
  refine⟨fun _=>rfl,?_⟩
  exact fA ⟨⟨rfl,rfl,trivial⟩,trivial⟩ rfl (by simp)
theorem imc_z (G:Gam TT R K S) (hw:TT w) (hT:T=tw w) (hu:TT (r::u)) (hEm:Emb (r::u) w) (ih:ImC 90 S w u) (hR:RootsOK w RL (r::u)) (hA:A=em (r::u) x) (hx:El (r::u) S x) (hxe:x=p+q*rt u r) (hp:El u S p) (hq:El u S q) (h0:q=0) (hC:C=em w x):CF 90 [.agg [.sl (.sl tRat) T,.sl (.sl tRat) RL],.one (.sl tRat A)] (.one (.sl tRat C)):=by
 have hur:=(G.twr hu).red
 have hAl:A.length=2^u.length+2^u.length:=by rw[hA,em_len hx.mem,pow_len]
 have hpp:=pow_pos2 u.length
 have hht:(r::u).length≤8:=G.ht hu
 have hht2:(r::u).length=u.length+1:=rfl
 have hmul:=G.mul hw
 have hroot:El w K (rt u r):=by have:=G.emb hu hw hEm (el_root hur);rwa [Nat.zero_add] at this
 obtain⟨wk,hwk,hrin,hRk⟩:=hR.2
 obtain⟨rk,hrk⟩:∃z:LR,z=em wk (rt u r):=⟨_,rfl⟩
 rw[←hrk] at hRk
 refine acall_fn Tryz.func90 (by kernel_rfl) rfl fun E hE=>?_
 conv=>cbv
 intro n10 h10;have e10:=h10.eq;have f10:=h10.le;conv=>cbv
 intro n11 h11;conv=>cbv
 cases n11 <;> conv=>cbv
 ·have k11:=eql_f h11
  intro n19 h19;have e19:=h19.eq;have f19:=h19.le;conv=>cbv
  intro n20 h20;conv=>cbv
  refine⟨fun _=>⟨by omega,by omega,i64 (by omega)⟩,?_⟩
  refine .inr ?_
  obtain⟨J0,hJ0⟩:∃J:List AV→List Blk→Nat→Prop,J=fun vs bl k=>∃(k':Nat) (hv kk:Int),vs=[.one (.sl tRat A),.one (.lptr 2 0 0),.one (.int .i64 hv),.one (.int .i64 kk)]∧bl=[.var 0 [.sl (.sl tRat) T,.sl (.sl tRat) RL]]∧(NatIs hv (A.length/2)∧NatIs kk k'∧k'≤u.length)∧k=u.length-k':=⟨_,rfl⟩
  refine⟨[1,2,5,6],[2],J0,⟨u.length-0,by rw[hJ0];exact⟨0,n20,0,rfl,rfl,⟨⟨by omega⟩,natIs 0,by omega⟩,rfl⟩⟩,?_⟩
  intro vs bl kk0 hj;rw[hJ0] at hj
  obtain⟨k',hv,kk,rfl,rfl,⟨hHv,hKk,hkl⟩,hk0⟩:=hj
  conv=>cbv
  have eHv:=hHv.eq
  have eKk:=hKk.eq
  intro n22 h22;conv=>cbv
  refine⟨fun _=>i64 (by omega),?_⟩
  intro n23 h23;conv=>cbv
  refine⟨fun _=>by omega,?_⟩
  intro n25 h25;have e25:=h25.eq;have f25:=h25.le;conv=>cbv
  have hs23:=(shl_one (k:=k'+1) h23 (by omega) (by omega)).eq
  intro n26 h26;conv=>cbv
  cases n26 <;> conv=>cbv
  ·have k26:=lss_f h26
   have hku:k'=u.length:=by have:=k_ge hAl (show ¬2^(k'+1)<A.length by omega);omega
   intro m32 hm32;conv=>cbv
   refine⟨fun _=>⟨by omega,by omega⟩,?_⟩
   intro b32 hb32;conv=>cbv
   intro l32 hl32;conv=>cbv
   have hl32e:l32=em u p:=by rw[hl32,List.drop_zero,show b32=A.length/2 by omega,hA,em_lo hur hp.mem hq.mem hxe]
   obtain⟨w33,hw33⟩:∃z:LR,z=em w (p):=⟨_,rfl⟩
   refine cA hE (ih hT hR.1 hl32e hp hw33) ?_
   try conv=>cbv
   refine⟨fun _=>rfl,?_⟩
   intro m36 hm36;conv=>cbv
   refine⟨fun _=>⟨by omega,by omega⟩,?_⟩
   rintro a36 b36 ⟨ha36,hb36⟩;conv=>cbv
   intro l36 hl36;conv=>cbv
   have hl36e:l36=em u q:=by rw[hl36,show a36=A.length/2 by omega,hb36,hm36,List.take_length,hA,em_hi hur hp.mem hq.mem hxe]
   refine cA hE (Zero_t (G.twr (G.sub hu)).red hq.mem hl36e h0) ?_
   try conv=>cbv
   exact fA ⟨⟨rfl,congrArg _ (by rw[hC,hw33];congr 1;rw[hxe,h0];clear ih;grind),trivial⟩,trivial⟩ rfl (by simp)
  ·have k26:=lss_t h26
   refine .inr ?_
   have hku:k'<u.length:=k_lt hAl (show 2^(k'+1)<A.length by omega)
   intro n28 h28;conv=>cbv
   refine⟨fun _=>i64 (by omega),?_⟩
   refine⟨u.length-(k'+1),?_,?_⟩
   ·omega
   rw[hJ0]
   exact⟨k'+1,hv,n28,rfl,rfl,⟨hHv,⟨by omega⟩,by omega⟩,rfl⟩
 ·have k11:=eql_t h11
  exact absurd k11 (by omega)
theorem imc_s (G:Gam TT R K S) (hw:TT w) (hT:T=tw w) (hu:TT (r::u)) (hEm:Emb (r::u) w) (ih:ImC 90 S w u) (hR:RootsOK w RL (r::u)) (hA:A=em (r::u) x) (hx:El (r::u) S x) (hxe:x=p+q*rt u r) (hp:El u S p) (hq:El u S q) (h0:q≠0) (hC:C=em w x):CF 90 [.agg [.sl (.sl tRat) T,.sl (.sl tRat) RL],.one (.sl tRat A)] (.one (.sl tRat C)):=by
 have hur:=(G.twr hu).red
 have hAl:A.length=2^u.length+2^u.length:=by rw[hA,em_len hx.mem,pow_len]
 have hpp:=pow_pos2 u.length
 have hht:(r::u).length≤8:=G.ht hu
 have hht2:(r::u).length=u.length+1:=rfl
 have hmul:=G.mul hw
 have hroot:El w K (rt u r):=by have:=G.emb hu hw hEm (el_root hur);rwa [Nat.zero_add] at this
 obtain⟨wk,hwk,hrin,hRk⟩:=hR.2
 obtain⟨rk,hrk⟩:∃z:LR,z=em wk (rt u r):=⟨_,rfl⟩
 rw[←hrk] at hRk
 refine acall_fn Tryz.func90 (by kernel_rfl) rfl fun E hE=>?_
 conv=>cbv
 intro n10 h10;have e10:=h10.eq;have f10:=h10.le;conv=>cbv
 intro n11 h11;conv=>cbv
 cases n11 <;> conv=>cbv
 ·have k11:=eql_f h11
  intro n19 h19;have e19:=h19.eq;have f19:=h19.le;conv=>cbv
  intro n20 h20;conv=>cbv
  refine⟨fun _=>⟨by omega,by omega,i64 (by omega)⟩,?_⟩
  refine .inr ?_
  obtain⟨J0,hJ0⟩:∃J:List AV→List Blk→Nat→Prop,J=fun vs bl k=>∃(k':Nat) (hv kk:Int),vs=[.one (.sl tRat A),.one (.lptr 2 0 0),.one (.int .i64 hv),.one (.int .i64 kk)]∧bl=[.var 0 [.sl (.sl tRat) T,.sl (.sl tRat) RL]]∧(NatIs hv (A.length/2)∧NatIs kk k'∧k'≤u.length)∧k=u.length-k':=⟨_,rfl⟩
  refine⟨[1,2,5,6],[2],J0,⟨u.length-0,by rw[hJ0];exact⟨0,n20,0,rfl,rfl,⟨⟨by omega⟩,natIs 0,by omega⟩,rfl⟩⟩,?_⟩
  intro vs bl kk0 hj;rw[hJ0] at hj
  obtain⟨k',hv,kk,rfl,rfl,⟨hHv,hKk,hkl⟩,hk0⟩:=hj
  conv=>cbv
  have eHv:=hHv.eq
  have eKk:=hKk.eq
  intro n22 h22;conv=>cbv
  refine⟨fun _=>i64 (by omega),?_⟩
  intro n23 h23;conv=>cbv
  refine⟨fun _=>by omega,?_⟩
  intro n25 h25;have e25:=h25.eq;have f25:=h25.le;conv=>cbv
  have hs23:=(shl_one (k:=k'+1) h23 (by omega) (by omega)).eq
  intro n26 h26;conv=>cbv
  cases n26 <;> conv=>cbv
  ·have k26:=lss_f h26
   have hku:k'=u.length:=by have:=k_ge hAl (show ¬2^(k'+1)<A.length by omega);omega
   intro m32 hm32;conv=>cbv
   refine⟨fun _=>⟨by omega,by omega⟩,?_⟩
   intro b32 hb32;conv=>cbv
   intro l32 hl32;conv=>cbv
   have hl32e:l32=em u p:=by rw[hl32,List.drop_zero,show b32=A.length/2 by omega,hA,em_lo hur hp.mem hq.mem hxe]
   obtain⟨w33,hw33⟩:∃z:LR,z=em w (p):=⟨_,rfl⟩
   refine cA hE (ih hT hR.1 hl32e hp hw33) ?_
   try conv=>cbv
   refine⟨fun _=>rfl,?_⟩
   intro m36 hm36;conv=>cbv
   refine⟨fun _=>⟨by omega,by omega⟩,?_⟩
   rintro a36 b36 ⟨ha36,hb36⟩;conv=>cbv
   intro l36 hl36;conv=>cbv
   have hl36e:l36=em u q:=by rw[hl36,show a36=A.length/2 by omega,hb36,hm36,List.take_length,hA,em_hi hur hp.mem hq.mem hxe]
   refine cA hE (Zero_f (G.twr (G.sub hu)).red hq.mem hl36e h0) ?_
   try conv=>cbv
   intro m44 hm44;conv=>cbv
   refine⟨fun _=>⟨by omega,by omega⟩,?_⟩
   rintro a44 b44 ⟨ha44,hb44⟩;conv=>cbv
   intro l44 hl44;conv=>cbv
   have hl44e:l44=em u q:=by rw[hl44,show a44=A.length/2 by omega,hb44,hm44,List.take_length,hA,em_hi hur hp.mem hq.mem hxe]
   obtain⟨w45,hw45⟩:∃z:LR,z=em w (q):=⟨_,rfl⟩
   refine cA hE (ih hT hR.1 hl44e hq hw45) ?_
   try conv=>cbv
   refine⟨rk,fun _=>⟨by omega,by rw[show kk.toNat=u.length by omega];exact hRk⟩,?_⟩
   try conv=>cbv
   obtain⟨w53,hw53⟩:∃z:LR,z=em w (rt u r):=⟨_,rfl⟩
   refine cA hE (pad_ok (G.twr hw) hT hrk hrin hwk hw53) ?_
   try conv=>cbv
   obtain⟨w54,hw54⟩:∃z:LR,z=em w (q*rt u r):=⟨_,rfl⟩
   refine cL hE (Mulv (G.twr hw) hT hw45 hw53 (G.emb (G.sub hu) hw hEm.tail hq) hroot (by omega) hw54) ⟨rfl,rfl,rfl,trivial⟩ ?_
   try conv=>cbv
   refine⟨fun _=>rfl,?_⟩
   refine cL (r:= .one (.sl tRat C)) hE (Addv (G.twr hw) hT hw33 hw54 (G.emb (G.sub hu) hw hEm.tail hp) ((G.emb (G.sub hu) hw hEm.tail hq).mul (G.twr hw) hroot) (by omega) (by omega) (by rw[hC,hxe])) ⟨rfl,rfl,rfl,trivial⟩ ?_
   try conv=>cbv
   exact fA ⟨⟨rfl,rfl,trivial⟩,trivial⟩ rfl (by simp)
  ·have k26:=lss_t h26
   refine .inr ?_
   have hku:k'<u.length:=k_lt hAl (show 2^(k'+1)<A.length by omega)
   intro n28 h28;conv=>cbv
   refine⟨fun _=>i64 (by omega),?_⟩
   refine⟨u.length-(k'+1),?_,?_⟩
   ·omega
   rw[hJ0]
   exact⟨k'+1,hv,n28,rfl,rfl,⟨hHv,⟨by omega⟩,by omega⟩,rfl⟩
 ·have k11:=eql_t h11
  exact absurd k11 (by omega)
theorem imd_base {u:List (List Rat)} {x:Re} (hmm:mm=RL.length) (G:Gam TT R K S) (hw:TT w) (hT:T=tw w) {q:Rat} (hA:A=em [] (Re.ofRat q)) (hq:SmallQ q) (hC:C=em w (Re.ofRat q)):DCall Tryz.prog 90 [.agg [.sl (.sl tRat) T,.lsl (.sl tRat) 0 0 0 mm],.one (.sl tRat A)] (.arr 0 (.sl tRat) RL) (.one (.sl tRat C)):=by
 have hA1:A=[rp q]:=hA.trans (em_nil q)
 have hAl:A.length=1:=by rw[hA1];rfl
 refine dcall_fn Tryz.func90 (by kernel_rfl) rfl fun E hE=>?_
 conv=>cbv
 intro n10 h10;have e10:=h10.eq;have f10:=h10.le;conv=>cbv
 intro n11 h11;conv=>cbv
 cases n11 <;> conv=>cbv
 ·have k11:=eql_f h11
  exact absurd k11 (by omega)
 ·have k11:=eql_t h11
  obtain⟨x15,hx15⟩:=get_ex (l:=A) (i:=0) (by omega)
  refine⟨x15,fun _=>⟨by omega,hx15⟩,?_⟩
  try conv=>cbv
  refine cA hE (FromRatv (G.twr hw) hT (one_rp hA1 hx15) hq hC) ?_
  try conv=>cbv
  refine⟨fun _=>rfl,?_⟩
  refine fun _=>⟨⟨⟨⟨rfl,rfl,trivial⟩,trivial⟩,rfl,by simp⟩,rfl⟩
theorem imd_z (hmm:mm=RL.length) (G:Gam TT R K S) (hw:TT w) (hT:T=tw w) (hu:TT (r::u)) (hEm:Emb (r::u) w) (ih:ImD 90 S w u) (hR:RootsOK w RL (r::u)) (hA:A=em (r::u) x) (hx:El (r::u) S x) (hxe:x=p+q*rt u r) (hp:El u S p) (hq:El u S q) (h0:q=0) (hC:C=em w x):DCall Tryz.prog 90 [.agg [.sl (.sl tRat) T,.lsl (.sl tRat) 0 0 0 mm],.one (.sl tRat A)] (.arr 0 (.sl tRat) RL) (.one (.sl tRat C)):=by
 have hur:=(G.twr hu).red
 have hAl:A.length=2^u.length+2^u.length:=by rw[hA,em_len hx.mem,pow_len]
 have hpp:=pow_pos2 u.length
 have hht:(r::u).length≤8:=G.ht hu
 have hht2:(r::u).length=u.length+1:=rfl
 have hmul:=G.mul hw
 have hroot:El w K (rt u r):=by have:=G.emb hu hw hEm (el_root hur);rwa [Nat.zero_add] at this
 obtain⟨wk,hwk,hrin,hRk⟩:=hR.2
 obtain⟨rk,hrk⟩:∃z:LR,z=em wk (rt u r):=⟨_,rfl⟩
 rw[←hrk] at hRk
 refine dcall_fn Tryz.func90 (by kernel_rfl) rfl fun E hE=>?_
 conv=>cbv
 intro n10 h10;have e10:=h10.eq;have f10:=h10.le;conv=>cbv
 intro n11 h11;conv=>cbv
 cases n11 <;> conv=>cbv
 ·have k11:=eql_f h11
  intro n19 h19;have e19:=h19.eq;have f19:=h19.le;conv=>cbv
  intro n20 h20;conv=>cbv
  refine⟨fun _=>⟨by omega,by omega,i64 (by omega)⟩,?_⟩
  refine .inr ?_
  obtain⟨J0,hJ0⟩:∃J:List AV→List Blk→Nat→Prop,J=fun vs bl k=>∃(k':Nat) (hv kk:Int),vs=[.one (.sl tRat A),.one (.lptr 2 0 0),.one (.int .i64 hv),.one (.int .i64 kk)]∧bl=[.arr 0 (.sl tRat) RL,.var 0 [.sl (.sl tRat) T,.lsl (.sl tRat) 0 0 0 mm]]∧(NatIs hv (A.length/2)∧NatIs kk k'∧k'≤u.length)∧k=u.length-k':=⟨_,rfl⟩
  refine⟨[1,2,5,6],[0,2],J0,⟨u.length-0,by rw[hJ0];exact⟨0,n20,0,rfl,rfl,⟨⟨by omega⟩,natIs 0,by omega⟩,rfl⟩⟩,?_⟩
  intro vs bl kk0 hj;rw[hJ0] at hj
  obtain⟨k',hv,kk,rfl,rfl,⟨hHv,hKk,hkl⟩,hk0⟩:=hj
  conv=>cbv
  have eHv:=hHv.eq
  have eKk:=hKk.eq
  intro n22 h22;conv=>cbv
  refine⟨fun _=>i64 (by omega),?_⟩
  intro n23 h23;conv=>cbv
  refine⟨fun _=>by omega,?_⟩
  intro n25 h25;have e25:=h25.eq;have f25:=h25.le;conv=>cbv
  have hs23:=(shl_one (k:=k'+1) h23 (by omega) (by omega)).eq
  intro n26 h26;conv=>cbv
  cases n26 <;> conv=>cbv
  ·have k26:=lss_f h26
   have hku:k'=u.length:=by have:=k_ge hAl (show ¬2^(k'+1)<A.length by omega);omega
   intro m32 hm32;conv=>cbv
   refine⟨fun _=>⟨by omega,by omega⟩,?_⟩
   intro b32 hb32;conv=>cbv
   intro l32 hl32;conv=>cbv
   have hl32e:l32=em u p:=by rw[hl32,List.drop_zero,show b32=A.length/2 by omega,hA,em_lo hur hp.mem hq.mem hxe]
   obtain⟨w33,hw33⟩:∃z:LR,z=em w (p):=⟨_,rfl⟩
   refine .inr (.inr (.inl ⟨0,.arr 0 (.sl tRat) RL,[.agg [.sl (.sl tRat) T,.lsl (.sl tRat) 0 0 0 mm],.one (.sl tRat l32)],.one (.sl tRat w33),fun _=>⟨rfl,⟨⟨rfl,⟨⟨rfl,rfl⟩,rfl⟩,trivial⟩,rfl,trivial⟩⟩,fun _=>useD hE (ih hT hR.1 hmm hl32e hp hw33),?_⟩))
   try conv=>cbv
   refine⟨fun _=>rfl,?_⟩
   intro m36 hm36;conv=>cbv
   refine⟨fun _=>⟨by omega,by omega⟩,?_⟩
   rintro a36 b36 ⟨ha36,hb36⟩;conv=>cbv
   intro l36 hl36;conv=>cbv
   have hl36e:l36=em u q:=by rw[hl36,show a36=A.length/2 by omega,hb36,hm36,List.take_length,hA,em_hi hur hp.mem hq.mem hxe]
   refine cA hE (Zero_t (G.twr (G.sub hu)).red hq.mem hl36e h0) ?_
   try conv=>cbv
   refine fun _=>⟨⟨⟨⟨rfl,congrArg _ (by rw[hC,hw33];congr 1;rw[hxe,h0];clear ih;grind),trivial⟩,trivial⟩,rfl,by simp⟩,rfl⟩
  ·have k26:=lss_t h26
   refine .inr ?_
   have hku:k'<u.length:=k_lt hAl (show 2^(k'+1)<A.length by omega)
   intro n28 h28;conv=>cbv
   refine⟨fun _=>i64 (by omega),?_⟩
   refine⟨u.length-(k'+1),?_,?_⟩
   ·omega
   rw[hJ0]
   exact⟨k'+1,hv,n28,rfl,rfl,⟨hHv,⟨by omega⟩,by omega⟩,rfl⟩
 ·have k11:=eql_t h11
  exact absurd k11 (by omega)
theorem imd_s (hmm:mm=RL.length) (G:Gam TT R K S) (hw:TT w) (hT:T=tw w) (hu:TT (r::u)) (hEm:Emb (r::u) w) (ih:ImD 90 S w u) (hR:RootsOK w RL (r::u)) (hA:A=em (r::u) x) (hx:El (r::u) S x) (hxe:x=p+q*rt u r) (hp:El u S p) (hq:El u S q) (h0:q≠0) (hC:C=em w x):DCall Tryz.prog 90 [.agg [.sl (.sl tRat) T,.lsl (.sl tRat) 0 0 0 mm],.one (.sl tRat A)] (.arr 0 (.sl tRat) RL) (.one (.sl tRat C)):=by
 have hur:=(G.twr hu).red
 have hAl:A.length=2^u.length+2^u.length:=by rw[hA,em_len hx.mem,pow_len]
 have hpp:=pow_pos2 u.length
 have hht:(r::u).length≤8:=G.ht hu
 have hht2:(r::u).length=u.length+1:=rfl
 have hmul:=G.mul hw
 have hroot:El w K (rt u r):=by have:=G.emb hu hw hEm (el_root hur);rwa [Nat.zero_add] at this
 obtain⟨wk,hwk,hrin,hRk⟩:=hR.2
 obtain⟨rk,hrk⟩:∃z:LR,z=em wk (rt u r):=⟨_,rfl⟩
 rw[←hrk] at hRk
 refine dcall_fn Tryz.func90 (by kernel_rfl) rfl fun E hE=>?_
 conv=>cbv
 intro n10 h10;have e10:=h10.eq;have f10:=h10.le;conv=>cbv
 intro n11 h11;conv=>cbv
 cases n11 <;> conv=>cbv
 ·have k11:=eql_f h11
  intro n19 h19;have e19:=h19.eq;have f19:=h19.le;conv=>cbv
  intro n20 h20;conv=>cbv
  refine⟨fun _=>⟨by omega,by omega,i64 (by omega)⟩,?_⟩
  refine .inr ?_
  obtain⟨J0,hJ0⟩:∃J:List AV→List Blk→Nat→Prop,J=fun vs bl k=>∃(k':Nat) (hv kk:Int),vs=[.one (.sl tRat A),.one (.lptr 2 0 0),.one (.int .i64 hv),.one (.int .i64 kk)]∧bl=[.arr 0 (.sl tRat) RL,.var 0 [.sl (.sl tRat) T,.lsl (.sl tRat) 0 0 0 mm]]∧(NatIs hv (A.length/2)∧NatIs kk k'∧k'≤u.length)∧k=u.length-k':=⟨_,rfl⟩
  refine⟨[1,2,5,6],[0,2],J0,⟨u.length-0,by rw[hJ0];exact⟨0,n20,0,rfl,rfl,⟨⟨by omega⟩,natIs 0,by omega⟩,rfl⟩⟩,?_⟩
  intro vs bl kk0 hj;rw[hJ0] at hj
  obtain⟨k',hv,kk,rfl,rfl,⟨hHv,hKk,hkl⟩,hk0⟩:=hj
  conv=>cbv
  have eHv:=hHv.eq
  have eKk:=hKk.eq
  intro n22 h22;conv=>cbv
  refine⟨fun _=>i64 (by omega),?_⟩
  intro n23 h23;conv=>cbv
  refine⟨fun _=>by omega,?_⟩
  intro n25 h25;have e25:=h25.eq;have f25:=h25.le;conv=>cbv
  have hs23:=(shl_one (k:=k'+1) h23 (by omega) (by omega)).eq
  intro n26 h26;conv=>cbv
  cases n26 <;> conv=>cbv
  ·have k26:=lss_f h26
   have hku:k'=u.length:=by have:=k_ge hAl (show ¬2^(k'+1)<A.length by omega);omega
   intro m32 hm32;conv=>cbv
   refine⟨fun _=>⟨by omega,by omega⟩,?_⟩
   intro b32 hb32;conv=>cbv
   intro l32 hl32;conv=>cbv
   have hl32e:l32=em u p:=by rw[hl32,List.drop_zero,show b32=A.length/2 by omega,hA,em_lo hur hp.mem hq.mem hxe]
   obtain⟨w33,hw33⟩:∃z:LR,z=em w (p):=⟨_,rfl⟩
   refine .inr (.inr (.inl ⟨0,.arr 0 (.sl tRat) RL,[.agg [.sl (.sl tRat) T,.lsl (.sl tRat) 0 0 0 mm],.one (.sl tRat l32)],.one (.sl tRat w33),fun _=>⟨rfl,⟨⟨rfl,⟨⟨rfl,rfl⟩,rfl⟩,trivial⟩,rfl,trivial⟩⟩,fun _=>useD hE (ih hT hR.1 hmm hl32e hp hw33),?_⟩))
   try conv=>cbv
   refine⟨fun _=>rfl,?_⟩
   intro m36 hm36;conv=>cbv
   refine⟨fun _=>⟨by omega,by omega⟩,?_⟩
   rintro a36 b36 ⟨ha36,hb36⟩;conv=>cbv
   intro l36 hl36;conv=>cbv
   have hl36e:l36=em u q:=by rw[hl36,show a36=A.length/2 by omega,hb36,hm36,List.take_length,hA,em_hi hur hp.mem hq.mem hxe]
   refine cA hE (Zero_f (G.twr (G.sub hu)).red hq.mem hl36e h0) ?_
   try conv=>cbv
   intro m44 hm44;conv=>cbv
   refine⟨fun _=>⟨by omega,by omega⟩,?_⟩
   rintro a44 b44 ⟨ha44,hb44⟩;conv=>cbv
   intro l44 hl44;conv=>cbv
   have hl44e:l44=em u q:=by rw[hl44,show a44=A.length/2 by omega,hb44,hm44,List.take_length,hA,em_hi hur hp.mem hq.mem hxe]
   obtain⟨w45,hw45⟩:∃z:LR,z=em w (q):=⟨_,rfl⟩
   refine .inr (.inr (.inl ⟨0,.arr 0 (.sl tRat) RL,[.agg [.sl (.sl tRat) T,.lsl (.sl tRat) 0 0 0 mm],.one (.sl tRat l44)],.one (.sl tRat w45),fun _=>⟨rfl,⟨⟨rfl,⟨⟨rfl,rfl⟩,rfl⟩,trivial⟩,rfl,trivial⟩⟩,fun _=>useD hE (ih hT hR.1 hmm hl44e hq hw45),?_⟩))
   try conv=>cbv
   refine⟨fun _=>⟨by omega,by have:=getE hRk;omega⟩,?_⟩
   intro j51 hj51;conv=>cbv
   obtain⟨x52,hx52⟩:=get_ex (l:=RL) (i:=j51) (by have:=getE hRk;omega)
   refine⟨x52,fun _=>hx52,?_⟩
   try conv=>cbv
   have hx52e:x52=rk:=by have:=hx52;rw[show j51=u.length by omega,hRk] at this;exact (Option.some.inj this).symm
   have hrk:x52=em wk (rt u r):=hx52e.trans hrk
   obtain⟨w53,hw53⟩:∃z:LR,z=em w (rt u r):=⟨_,rfl⟩
   refine cA hE (pad_ok (G.twr hw) hT hrk hrin hwk hw53) ?_
   try conv=>cbv
   obtain⟨w54,hw54⟩:∃z:LR,z=em w (q*rt u r):=⟨_,rfl⟩
   refine cL hE (Mulv (G.twr hw) hT hw45 hw53 (G.emb (G.sub hu) hw hEm.tail hq) hroot (by omega) hw54) ⟨rfl,rfl,rfl,trivial⟩ ?_
   try conv=>cbv
   refine⟨fun _=>rfl,?_⟩
   refine cL (r:= .one (.sl tRat C)) hE (Addv (G.twr hw) hT hw33 hw54 (G.emb (G.sub hu) hw hEm.tail hp) ((G.emb (G.sub hu) hw hEm.tail hq).mul (G.twr hw) hroot) (by omega) (by omega) (by rw[hC,hxe])) ⟨rfl,rfl,rfl,trivial⟩ ?_
   try conv=>cbv
   refine fun _=>⟨⟨⟨⟨rfl,rfl,trivial⟩,trivial⟩,rfl,by simp⟩,rfl⟩
  ·have k26:=lss_t h26
   refine .inr ?_
   have hku:k'<u.length:=k_lt hAl (show 2^(k'+1)<A.length by omega)
   intro n28 h28;conv=>cbv
   refine⟨fun _=>i64 (by omega),?_⟩
   refine⟨u.length-(k'+1),?_,?_⟩
   ·omega
   rw[hJ0]
   exact⟨k'+1,hv,n28,rfl,rfl,⟨hHv,⟨by omega⟩,by omega⟩,rfl⟩
 ·have k11:=eql_t h11
  exact absurd k11 (by omega)
theorem imC (G:Gam TT R K S) (hw:TT w):∀{u:List (List Rat)},TT u→Emb u w→ImC 90 S w u:=by
 intro u
 induction u with
 | nil=>
  intro hu hE T RL A C x hT hR hA hx hC
  obtain⟨q,rfl⟩:=in_nil.1 hx.mem
  have hq:=hx.smalls (by have:=G.mul hw;omega)
  rw[co_nil] at hq
  exact imc_base (u:=[]) (x:=0) G hw hT hA (hq q List.mem_cons_self) hC
 | cons r u ih=>
  intro hu hE T RL A C x hT hR hA hx hC
  obtain⟨p,q,hxe,hp,hq⟩:=El.parts (G.twr hu).red hx
  by_cases h0:q=0
  ·exact imc_z G hw hT hu hE (ih (G.sub hu) hE.tail) hR hA hx hxe hp hq h0 hC
  ·exact imc_s G hw hT hu hE (ih (G.sub hu) hE.tail) hR hA hx hxe hp hq h0 hC
theorem imD (G:Gam TT R K S) (hw:TT w):∀{u:List (List Rat)},TT u→Emb u w→ImD 90 S w u:=by
 intro u
 induction u with
 | nil=>
  intro hu hE T RL A C x mm hT hR hmm hA hx hC
  obtain⟨q,rfl⟩:=in_nil.1 hx.mem
  have hq:=hx.smalls (by have:=G.mul hw;omega)
  rw[co_nil] at hq
  exact imd_base (u:=[]) (x:=0) hmm G hw hT hA (hq q List.mem_cons_self) hC
 | cons r u ih=>
  intro hu hE T RL A C x mm hT hR hmm hA hx hC
  obtain⟨p,q,hxe,hp,hq⟩:=El.parts (G.twr hu).red hx
  by_cases h0:q=0
  ·exact imd_z hmm G hw hT hu hE (ih (G.sub hu) hE.tail) hR hA hx hxe hp hq h0 hC
  ·exact imd_s hmm G hw hT hu hE (ih (G.sub hu) hE.tail) hR hA hx hxe hp hq h0 hC
end Go.Abs
