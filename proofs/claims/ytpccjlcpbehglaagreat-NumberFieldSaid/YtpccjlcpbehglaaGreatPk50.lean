/- Part 51 of a proof. Conditions: each theorem's own. -/
import Derived.Test.YtpccjlcpbehglaaGreatPk49
set_option linter.all false
set_option maxHeartbeats 8000000
open Go.Proofs
namespace Go.Abs
open Go.RowKit
variable {A A1 A2 C:LR} {L:List (el tNum)} {T T1 T2 o:List LR} {c:Bool} {i' k:Nat} {ns:List Nu} {q:Rat} {s xs:List Rat} {ts:List (List Rat)}
theorem occF_step {i:Nat} (h:xs[k]? =some q):occF i k (xs.drop k)=((bitB k i&&q !=0)||occF i (k+1) (xs.drop (k+1))):=by
 have hk:=getE' h
 rw[List.drop_eq_getElem_cons hk,occF]
 rw[List.getElem?_eq_getElem hk] at h
 rw[Option.some.inj h]
theorem occF_stay {i:Nat} (h:k<xs.length) (hb:bitB k i=false):occF i k (xs.drop k)=occF i (k+1) (xs.drop (k+1)):=by
 obtain⟨q,hq⟩:=get_ex h
 rw[occF_step hq,hb];rfl
theorem woF_snoc {i:Nat} (h:xs[k]? =some q):woF i 0 (xs.take (k+1))=woF i 0 (xs.take k)++(if bitB k i=true then [] else [q]):=by
 have hk:=getE' h
 rw[take_snoc h,woF_app,Nat.zero_add,List.length_take,Nat.min_eq_left (by omega),woF,woF]
theorem woF_len (i:Nat):∀(k:Nat) (l:List Rat),(woF i k l).length≤l.length
 | _,[]=>Nat.le_refl _
 | k,x::l=>by
  rw[woF]
  have:=woF_len i (k+1) l
  split
  ·rw[List.length_cons];omega
  ·rw[List.length_cons,List.length_cons];omega
theorem bit_of {i:Nat} {n14 n15:Int} (h1:n14=((k/2^i:Nat):Int)) (h2:n15=n14%2):(bitB k i=true↔n15=1)∧(bitB k i=false↔n15=0):=by
 unfold bitB
 constructor
 ·rw[beq_iff_eq];omega
 ·rw[beq_eq_false_iff_ne];omega
theorem limbs2 {n:Nat}:(limbs n).length≤2↔n<18446744073709551616:=by
 constructor
 ·intro h
  have h1:=natL_lt (limbs n)
  rw[natL_limbs] at h1
  exact Nat.lt_of_lt_of_le h1 (Nat.pow_le_pow_right (by decide) (by omega:32*(limbs n).length≤64))
 ·intro h;exact limbs_len_le (k:=2) h
theorem shq_len {b1 b2:Bool} {l1 l2:List UInt32} (h:IsR q b1 l1 b2 l2):ShQ q↔l1.length≤2∧l2.length≤2:=by
 have h1:=h.num.mag
 have h2:=h.den.mag
 rw[h1,h2,limbs2,limbs2]
 unfold ShQ
 rw[Int.natAbs_natCast]
theorem sgnQ_zero (h:sgnQ q=0):q=0:=by
 unfold sgnQ sgnI at h
 split at h
 ·omega
 ·split at h
  ·exact Rat.num_eq_zero.1 (by assumption)
  ·omega
theorem take_all {p:Rat→Prop} (h:∀x∈xs.take k,p x) (hq:xs[k]? =some q) (h2:p q):∀x∈xs.take (k+1),p x:=by
 intro x hx
 rw[take_snoc hq] at hx
 rcases List.mem_append.1 hx with hx | hx
 ·exact h x hx
 ·rw[List.mem_singleton.1 hx];exact h2
theorem Yoccurs_ok {i:Int} (hA:A=rps xs) (hi:NatIs i i') (h6:i'≤60) (hc:c=occF i' 0 xs):CF 74 [.one (.sl tRat A),.one (.int .i64 i)] (.one (.bool c)):=by
 have ei:=hi.eq
 have hAl:A.length=xs.length:=by rw[hA,List.length_map]
 refine acall_fn Tryz.func74 (by kernel_rfl) rfl fun E hE=>?_
 conv=>cbv
 refine .inr ?_
 obtain⟨J0,hJ0⟩:∃J:List AV→List Blk→Nat→Prop,J=fun vs bl k=>∃(k':Nat) (j:Int),vs=[.one (.sl tRat A),.one (.int .i64 i),.one (.int .i64 j)]∧(NatIs j k'∧k'≤xs.length)∧occF i' 0 xs=occF i' k' (xs.drop k')∧k=xs.length-k':=⟨_,rfl⟩
 refine⟨[0,1,5],[],J0,⟨xs.length-0,by rw[hJ0];exact⟨0,0,rfl,⟨natIs 0,by omega⟩,by rw[List.drop_zero],rfl⟩⟩,?_⟩
 intro vs bl kk0 hj;rw[hJ0] at hj
 obtain⟨k',j,rfl,⟨hj,hjl⟩,hinv,hk0⟩:=hj
 conv=>cbv
 have ej:=hj.eq
 intro n8 h8;have e8:=h8.eq;have f8:=h8.le;conv=>cbv
 intro n9 h9;conv=>cbv
 cases n9 <;> conv=>cbv
 ·have k9:=lss_f h9
  exact fA ⟨⟨rfl,congrArg _ (by rw[hc,hinv,show k'=xs.length by omega,List.drop_length];rfl),trivial⟩,trivial⟩ rfl (by simp)
 ·have k9:=lss_t h9
  refine .inr ?_
  intro n14 h14;conv=>cbv
  refine⟨fun _=>by omega,?_⟩
  obtain⟨d14,hd14,e14⟩:∃d:Nat,d=k'/2^i'∧n14=d:=⟨_,rfl,shr_var (p:=k') (e:=i') h14 (by omega) (by omega) (by show i'≤64;omega)⟩
  intro n15 h15;conv=>cbv
  refine⟨fun _=>⟨by omega,by omega⟩,?_⟩
  have hb15:=bit_of (k:=k') (i:=i') (by rw[e14,hd14]) h15
  intro n16 h16;conv=>cbv
  cases n16 <;> conv=>cbv
  ·have k16:=eql_f h16
   intro n11 h11;conv=>cbv
   refine⟨fun _=>i64 (by omega),?_⟩
   refine⟨xs.length-(k'+1),?_,?_⟩
   ·omega
   rw[hJ0]
   refine⟨k'+1,n11,rfl,⟨⟨by omega⟩,by omega⟩,?_,rfl⟩
   rw[hinv,occF_stay (by omega) (hb15.2.2 (by omega))]
  ·have k16:=eql_t h16
   obtain⟨x20,hx20⟩:=get_ex (l:=A) (i:=k') (by omega)
   refine⟨x20,fun _=>⟨by omega,by rw[show (j).toNat=k' by omega];exact hx20⟩,?_⟩
   try conv=>cbv
   obtain⟨q20,hr20,hq20,_⟩:=get_rq hA hx20
   obtain⟨r22,hr22⟩:∃z:Int,z=sgnQ q20:=⟨_,rfl⟩
   refine cA hE (YRSign_ok hr20 hr22) ?_
   try conv=>cbv
   intro n23 h23;conv=>cbv
   cases n23 <;> conv=>cbv
   ·have k23:=neq_f h23
    intro n11 h11;conv=>cbv
    refine⟨fun _=>i64 (by omega),?_⟩
    refine⟨xs.length-(k'+1),?_,?_⟩
    ·omega
    rw[hJ0]
    refine⟨k'+1,n11,rfl,⟨⟨by omega⟩,by omega⟩,?_,rfl⟩
    have hq0:q20=0:=sgnQ_zero (by omega)
    rw[hinv,occF_step hq20,hq0];simp
   ·have k23:=neq_t h23
    exact fA ⟨⟨rfl,congrArg _ (by rw[hc,hinv,occF_step hq20,hb15.1.2 k16,bne_iff_ne.2 (fun e=>k23 (by rw[hr22,e];rfl))];rfl),trivial⟩,trivial⟩ rfl (by simp)
theorem Ywithout_ok {i:Int} (hA:A=rps xs) (hi:NatIs i i') (h6:i'≤60) (hl:xs.length≤1000000) (hC:C=rps (woF i' 0 xs)):CF 75 [.one (.sl tRat A),.one (.int .i64 i)] (.one (.sl tRat C)):=by
 have ei:=hi.eq
 have hAl:A.length=xs.length:=by rw[hA,List.length_map]
 refine acall_fn Tryz.func75 (by kernel_rfl) rfl fun E hE=>?_
 conv=>cbv
 refine .inr ?_
 obtain⟨J0,hJ0⟩:∃J:List AV→List Blk→Nat→Prop,J=fun vs bl k=>(∃(k':Nat) (j:Int),vs=[.one (.sl tRat A),.one (.int .i64 i),.one .nil,.one (.int .i64 j)]∧bl=[.dead 0]∧(NatIs j k'∧k'≤xs.length)∧woF i' 0 (xs.take k')=[]∧k=xs.length-k')∨(∃(o:LR) (n k':Nat) (j:Int),vs=[.one (.sl tRat A),.one (.int .i64 i),.one (.lsl tRat 24 0 0 n),.one (.int .i64 j)]∧bl=[.arr 0 tRat o]∧(NatIs j k'∧k'≤xs.length∧n=o.length)∧o=rps (woF i' 0 (xs.take k'))∧k=xs.length-k'):=⟨_,rfl⟩
 refine⟨[0,1,5,6],[24],J0,⟨xs.length-0,by rw[hJ0];exact .inl ⟨0,0,rfl,rfl,⟨natIs 0,by omega⟩,rfl,rfl⟩⟩,?_⟩
 intro vs bl kk0 hj;rw[hJ0] at hj
 rcases hj with⟨k',j,rfl,rfl,⟨hj,hjl⟩,hinv,hk0⟩ |⟨o,n,k',j,rfl,rfl,⟨hj,hjl,hn⟩,hinv,hk0⟩
 ·conv=>cbv
  have ej:=hj.eq
  intro n9 h9;have e9:=h9.eq;have f9:=h9.le;conv=>cbv
  intro n10 h10;conv=>cbv
  cases n10 <;> conv=>cbv
  ·have k10:=lss_f h10
   exact fA ⟨⟨rfl,.inr (.inl ⟨_,congrArg _ (by rw[hC];rw[show k'=xs.length by omega,List.take_length] at hinv;rw[hinv];rfl)⟩),trivial⟩,trivial⟩ rfl (by simp)
  ·have k10:=lss_t h10
   refine .inr ?_
   intro n15 h15;conv=>cbv
   refine⟨fun _=>by omega,?_⟩
   obtain⟨d15,hd15,e15⟩:∃d:Nat,d=k'/2^i'∧n15=d:=⟨_,rfl,shr_var (p:=k') (e:=i') h15 (by omega) (by omega) (by show i'≤64;omega)⟩
   intro n16 h16;conv=>cbv
   refine⟨fun _=>⟨by omega,by omega⟩,?_⟩
   have hb16:=bit_of (k:=k') (i:=i') (by rw[e15,hd15]) h16
   intro n17 h17;conv=>cbv
   refine .inr ?_
   cases n17 <;> conv=>cbv
   ·have k17:=eql_f h17
    intro n12 h12;conv=>cbv
    refine⟨fun _=>i64 (by omega),?_⟩
    refine⟨xs.length-(k'+1),?_,?_⟩
    ·omega
    rw[hJ0]
    obtain⟨qq,hqq⟩:=get_ex (l:=xs) (i:=k') (by omega)
    exact .inl ⟨k'+1,n12,rfl,rfl,⟨⟨by omega⟩,by omega⟩,by rw[woF_snoc hqq,hinv,if_pos (hb16.1.2 (by omega))];rfl,rfl⟩
   ·have k17:=eql_t h17
    obtain⟨q21,hr21,hq21,hxq⟩:∃q,IsR q (rp q).1.1 (rp q).1.2 (rp q).2.1 (rp q).2.2∧xs[k']? =some q∧A[k']? =some (rp q):=by
     obtain⟨q,hq⟩:=get_ex (l:=xs) (i:=k') (by omega)
     exact⟨q,isR_rp q,hq,by rw[hA,List.getElem?_map,hq];rfl⟩
    obtain⟨x21,hx21⟩:=get_ex (l:=A) (i:=k') (by omega)
    refine⟨x21,fun _=>⟨by omega,by rw[show (j).toNat=k' by omega];exact hx21⟩,?_⟩
    try conv=>cbv
    refine⟨[((x21.1.1,x21.1.2),(x21.2.1,x21.2.2))],fun _=>⟨rfl,by decide,rfl,⟨rfl,by first | exact⟨rfl,trivial⟩ | exact⟨rfl,rfl,trivial⟩ | exact⟨rfl,rfl,rfl,rfl,trivial⟩ | simp[allC,leC,cells],trivial⟩⟩,.inr ?_⟩
    try conv=>cbv
    refine .inl ⟨[((x21.1.1,x21.1.2),(x21.2.1,x21.2.2))],fun _=>⟨rfl,by show (1)*64≤140737488355328;(try simp only[List.length_take,List.length_drop]);omega⟩,?_⟩
    intro n24 h24;conv=>cbv
    intro n12 h12;conv=>cbv
    refine⟨fun _=>i64 (by omega),?_⟩
    refine⟨xs.length-(k'+1),?_,?_⟩
    ·omega
    rw[hJ0]
    have ex:x21=rp q21:=by have:=hx21.symm.trans hxq;exact Option.some.inj this
    refine .inr ⟨_,_,k'+1,n12,rfl,rfl,⟨⟨by omega⟩,by omega,h24⟩,?_,rfl⟩
    rw[woF_snoc hq21,if_neg (by rw[hb16.2.2 (by omega)];decide)]
    rw[hinv];show _=[rp q21];rw[←ex]
 ·conv=>cbv
  have ej:=hj.eq
  have hol:o.length≤xs.length:=by rw[hinv,List.length_map];have:=woF_len i' 0 (xs.take k');rw[List.length_take] at this;omega
  intro n9 h9;have e9:=h9.eq;have f9:=h9.le;conv=>cbv
  intro n10 h10;conv=>cbv
  cases n10 <;> conv=>cbv
  ·have k10:=lss_f h10
   exact fA ⟨⟨rfl,.inl ⟨_,rfl,by omega,congrArg _ (by rw[hC,hn,List.drop_zero,List.take_length,hinv,show k'=xs.length by omega,List.take_length])⟩,trivial⟩,trivial⟩ rfl (by simp)
  ·have k10:=lss_t h10
   refine .inr ?_
   intro n15 h15;conv=>cbv
   refine⟨fun _=>by omega,?_⟩
   obtain⟨d15,hd15,e15⟩:∃d:Nat,d=k'/2^i'∧n15=d:=⟨_,rfl,shr_var (p:=k') (e:=i') h15 (by omega) (by omega) (by show i'≤64;omega)⟩
   intro n16 h16;conv=>cbv
   refine⟨fun _=>⟨by omega,by omega⟩,?_⟩
   have hb16:=bit_of (k:=k') (i:=i') (by rw[e15,hd15]) h16
   intro n17 h17;conv=>cbv
   refine .inr ?_
   cases n17 <;> conv=>cbv
   ·have k17:=eql_f h17
    intro n12 h12;conv=>cbv
    refine⟨fun _=>i64 (by omega),?_⟩
    refine⟨xs.length-(k'+1),?_,?_⟩
    ·omega
    rw[hJ0]
    obtain⟨qq,hqq⟩:=get_ex (l:=xs) (i:=k') (by omega)
    exact .inr ⟨o,n,k'+1,n12,rfl,rfl,⟨⟨by omega⟩,by omega,hn⟩,by rw[woF_snoc hqq,if_pos (hb16.1.2 (by omega)),List.append_nil];exact hinv,rfl⟩
   ·have k17:=eql_t h17
    obtain⟨q21,hr21,hq21,hxq⟩:∃q,IsR q (rp q).1.1 (rp q).1.2 (rp q).2.1 (rp q).2.2∧xs[k']? =some q∧A[k']? =some (rp q):=by
     obtain⟨q,hq⟩:=get_ex (l:=xs) (i:=k') (by omega)
     exact⟨q,isR_rp q,hq,by rw[hA,List.getElem?_map,hq];rfl⟩
    obtain⟨x21,hx21⟩:=get_ex (l:=A) (i:=k') (by omega)
    refine⟨x21,fun _=>⟨by omega,by rw[show (j).toNat=k' by omega];exact hx21⟩,?_⟩
    try conv=>cbv
    refine⟨[((x21.1.1,x21.1.2),(x21.2.1,x21.2.2))],fun _=>⟨rfl,by decide,rfl,⟨rfl,by first | exact⟨rfl,trivial⟩ | exact⟨rfl,rfl,trivial⟩ | exact⟨rfl,rfl,rfl,rfl,trivial⟩ | simp[allC,leC,cells],trivial⟩⟩,.inr ?_⟩
    try conv=>cbv
    refine .inl ⟨[((x21.1.1,x21.1.2),(x21.2.1,x21.2.2))],fun _=>⟨rfl,by (first | rfl | omega),rfl,by show (o.length+1)*64≤140737488355328;(try simp only[List.length_take,List.length_drop]);omega⟩,?_⟩
    intro (l24:LR) n24 ql24;have hl24:l24=(o:LR)++([((x21.1.1,x21.1.2),(x21.2.1,x21.2.2))]:LR):=ql24.1;have hn24:n24=List.length (α:=(el tRat)) l24:=ql24.2;conv=>cbv
    intro n12 h12;conv=>cbv
    refine⟨fun _=>i64 (by omega),?_⟩
    refine⟨xs.length-(k'+1),?_,?_⟩
    ·omega
    rw[hJ0]
    have ex:x21=rp q21:=by have:=hx21.symm.trans hxq;exact Option.some.inj this
    refine .inr ⟨l24,_,k'+1,n12,rfl,rfl,⟨⟨by omega⟩,by omega,hn24⟩,?_,rfl⟩
    rw[woF_snoc hq21,if_neg (by rw[hb16.2.2 (by omega)];decide)]
    rw[hl24,hinv];show _=List.map rp _;rw[List.map_append];show _=rps _++[rp q21];rw[←ex]
theorem Ymade_ok:CF 84 [.agg [.sl (.sl tRat) T1,.sl tRat A1],.one (.int .i64 0),.agg [.sl (.sl tRat) T2,.sl tRat A2]] (.agg [.sl (.sl tRat) T1,.sl tRat A1]):=by
 refine acall_fn Tryz.func84 (by kernel_rfl) rfl fun E hE=>?_
 conv=>cbv
 intro n8 h8;(have h8:=h8.trans (show _=false by decide));subst h8;conv=>cbv
 exact fA ⟨⟨rfl,rfl,rfl,trivial⟩,trivial⟩ rfl (by simp)
theorem Ymade_err:CF 84 [.agg [.sl (.sl tRat) T1,.sl tRat A1],.one (.int .i64 6),.agg [.sl (.sl tRat) T2,.sl tRat A2]] (.agg [.sl (.sl tRat) T2,.sl tRat A2]):=by
 refine acall_fn Tryz.func84 (by kernel_rfl) rfl fun E hE=>?_
 conv=>cbv
 intro n8 h8;(have h8:=h8.trans (show _=true by decide));subst h8;conv=>cbv
 exact fA ⟨⟨rfl,rfl,rfl,trivial⟩,trivial⟩ rfl (by simp)
theorem taken_all (h:∀x∈ts.take k,∀q∈x,ShQ q) (hq:ts[k]? =some s) (h2:∀q∈s,ShQ q):∀x∈ts.take (k+1),∀q∈x,ShQ q:=by
 intro x hx
 rw[take_snoc hq] at hx
 rcases List.mem_append.1 hx with hx | hx
 ·exact h x hx
 ·rw[List.mem_singleton.1 hx];exact h2
def LongL (ts:List (List Rat)) (xs:List Rat):Prop:=(∃q∈xs,¬ShQ q)∨∃s∈ts,∃q∈s,¬ShQ q
theorem Ylong_ok (hT:T=ts.map rps) (hA:A=rps xs) (hc:c=true↔LongL ts xs):CF 87 [.agg [.sl (.sl tRat) T,.sl tRat A]] (.one (.bool c)):=by
 have hAl:A.length=xs.length:=by rw[hA,List.length_map]
 have hTl:T.length=ts.length:=by rw[hT,List.length_map]
 refine acall_fn Tryz.func87 (by kernel_rfl) rfl fun E hE=>?_
 conv=>cbv
 refine .inr ?_
 obtain⟨J0,hJ0⟩:∃J:List AV→List Blk→Nat→Prop,J=fun vs bl k=>∃(k':Nat) (j:Int),vs=[.one (.lptr 1 0 0),.one (.bool false),.one (.int .i64 j)]∧bl=[.var 0 [.sl (.sl tRat) T,.sl tRat A]]∧(NatIs j k'∧k'≤xs.length)∧(∀q∈xs.take k',ShQ q)∧k=xs.length-k':=⟨_,rfl⟩
 refine⟨[1,2,3],[1],J0,⟨xs.length-0,by rw[hJ0];exact⟨0,0,rfl,rfl,⟨natIs 0,by omega⟩,by simp,rfl⟩⟩,?_⟩
 intro vs bl kk0 hj;rw[hJ0] at hj
 obtain⟨k',j,rfl,rfl,⟨hj,hjl⟩,hinv,hk0⟩:=hj
 conv=>cbv
 have ej:=hj.eq
 intro n10 h10;have e10:=h10.eq;have f10:=h10.le;conv=>cbv
 intro n11 h11;conv=>cbv
 cases n11 <;> conv=>cbv
 ·have k11:=lss_f h11
  refine .inr ?_
  obtain⟨J1,hJ1⟩:∃J:List AV→List Blk→Nat→Prop,J=fun vs bl k=>∃(m':Nat) (m:Int),vs=[.one (.lptr 1 0 0),.one (.bool false),.one (.int .i64 m)]∧bl=[.var 0 [.sl (.sl tRat) T,.sl tRat A]]∧(NatIs m m'∧m'≤ts.length)∧(∀s∈ts.take m',∀q∈s,ShQ q)∧k=ts.length-m':=⟨_,rfl⟩
  refine⟨[1,2,4],[1],J1,⟨ts.length-0,by rw[hJ1];exact⟨0,0,rfl,rfl,⟨natIs 0,by omega⟩,by simp,rfl⟩⟩,?_⟩
  intro vs bl kk1 hj;rw[hJ1] at hj
  obtain⟨m',m,rfl,rfl,⟨hm,hml⟩,hinm,hk1⟩:=hj
  conv=>cbv
  have em:=hm.eq
  intro n37 h37;have e37:=h37.eq;have f37:=h37.le;conv=>cbv
  intro n38 h38;conv=>cbv
  cases n38 <;> conv=>cbv
  ·have k38:=lss_f h38
   exact fA ⟨⟨rfl,congrArg _ (by rw[Bool.eq_false_iff];intro h;rcases hc.1 h with⟨q,hq,hn⟩ |⟨s,hs,q,hq,hn⟩;exact hn (hinv q (by rw[List.take_of_length_le (by omega)];exact hq));exact hn (hinm s (by rw[List.take_of_length_le (by omega)];exact hs) q hq)),trivial⟩,trivial⟩ rfl (by simp)
  ·have k38:=lss_t h38
   refine .inr ?_
   obtain⟨s2,hs2',hs2⟩:∃s,T[m']? =some (rps s)∧ts[m']? =some s:=by
    obtain⟨s,hs⟩:=get_ex (l:=ts) (i:=m') (by omega)
    exact⟨s,by rw[hT,List.getElem?_map,hs];rfl,hs⟩
   refine .inr ?_
   obtain⟨J2,hJ2⟩:∃J:List AV→List Blk→Nat→Prop,J=fun vs bl k=>∃(p':Nat) (p:Int),vs=[.one (.lptr 1 0 0),.one (.bool false),.one (.int .i64 m),.one (.int .i64 p)]∧bl=[.var 0 [.sl (.sl tRat) T,.sl tRat A]]∧(NatIs p p'∧p'≤s2.length)∧(∀q∈s2.take p',ShQ q)∧k=s2.length-p':=⟨_,rfl⟩
   refine⟨[1,2,4,5],[1],J2,⟨s2.length-0,by rw[hJ2];exact⟨0,0,rfl,rfl,⟨natIs 0,by omega⟩,by simp,rfl⟩⟩,?_⟩
   intro vs bl kk2 hj;rw[hJ2] at hj
   obtain⟨p',p,rfl,rfl,⟨hp,hpl⟩,hinp,hk2⟩:=hj
   conv=>cbv
   have ep:=hp.eq
   obtain⟨x45,hx45⟩:=get_ex (l:=T) (i:=m') (by omega)
   refine⟨x45,fun _=>⟨by omega,by rw[show (m).toNat=m' by omega];exact hx45⟩,?_⟩
   try conv=>cbv
   have es2:x45=rps s2:=Option.some.inj (hx45.symm.trans hs2')
   have hsl:x45.length=s2.length:=by rw[es2,List.length_map]
   intro n47 h47;have e47:=h47.eq;have f47:=h47.le;conv=>cbv
   intro n48 h48;conv=>cbv
   cases n48 <;> conv=>cbv
   ·have k48:=lss_f h48
    intro n40 h40;conv=>cbv
    refine⟨fun _=>i64 (by omega),?_⟩
    refine⟨ts.length-(m'+1),?_,?_⟩
    ·omega
    rw[hJ1]
    exact⟨m'+1,_,rfl,rfl,⟨⟨by omega⟩,by omega⟩,taken_all hinm hs2 (by rw[show p'=s2.length by omega,List.take_length] at hinp;exact hinp),rfl⟩
   ·have k48:=lss_t h48
    refine .inr ?_
    obtain⟨x54,hx54⟩:=get_ex (l:=T) (i:=m') (by omega)
    refine⟨x54,fun _=>⟨by omega,by rw[show (m).toNat=m' by omega];exact hx54⟩,?_⟩
    try conv=>cbv
    have es3:x54=rps s2:=Option.some.inj (hx54.symm.trans hs2')
    have hsl3:x54.length=s2.length:=by rw[es3,List.length_map]
    obtain⟨x57,hx57⟩:=get_ex (l:=x54) (i:=p') (by omega)
    refine⟨x57,fun _=>⟨by omega,by rw[show (p).toNat=p' by omega];exact hx57⟩,?_⟩
    try conv=>cbv
    obtain⟨q3,hr3,hq3,_⟩:=get_rq es3 hx57
    have hr3':IsR q3 x57.1.1 x57.1.2 x57.2.1 x57.2.2:=hr3
    intro n62 h62;have e62:=h62.eq;have f62:=h62.le;conv=>cbv
    have e62':n62=((List.length x57.1.2:Nat):Int):=h62.eq
    intro n63 h63;conv=>cbv
    cases n63 <;> conv=>cbv
    ·have k63:=gtr_f h63
     intro n68 h68;have e68:=h68.eq;have f68:=h68.le;conv=>cbv
     have e68':n68=((List.length x57.2.2:Nat):Int):=h68.eq
     intro n69 h69;conv=>cbv
     cases n69 <;> conv=>cbv
     ·have k69:=gtr_f h69
      intro n50 h50;conv=>cbv
      refine⟨fun _=>i64 (by omega),?_⟩
      refine⟨s2.length-(p'+1),?_,?_⟩
      ·omega
      rw[hJ2]
      exact⟨p'+1,_,rfl,rfl,⟨⟨by omega⟩,by omega⟩,take_all hinp hq3 ((shq_len hr3').2 ⟨by omega,by omega⟩),rfl⟩
     ·have k69:=gtr_t h69
      exact fA ⟨⟨rfl,congrArg _ (hc.2 (.inr ⟨s2,List.mem_of_getElem? hs2,q3,List.mem_of_getElem? hq3,fun h=>by have:=(shq_len hr3').1 h;omega⟩)),trivial⟩,trivial⟩ rfl (by simp)
    ·have k63:=gtr_t h63
     exact fA ⟨⟨rfl,congrArg _ (hc.2 (.inr ⟨s2,List.mem_of_getElem? hs2,q3,List.mem_of_getElem? hq3,fun h=>by have:=(shq_len hr3').1 h;omega⟩)),trivial⟩,trivial⟩ rfl (by simp)
 ·have k11:=lss_t h11
  refine .inr ?_
  obtain⟨x17,hx17⟩:=get_ex (l:=A) (i:=k') (by omega)
  refine⟨x17,fun _=>⟨by omega,by rw[show (j).toNat=k' by omega];exact hx17⟩,?_⟩
  try conv=>cbv
  obtain⟨q1,hr1,hq1,_⟩:=get_rq hA hx17
  have hr1':IsR q1 x17.1.1 x17.1.2 x17.2.1 x17.2.2:=hr1
  intro n21 h21;have e21:=h21.eq;have f21:=h21.le;conv=>cbv
  have e21':n21=((List.length x17.1.2:Nat):Int):=h21.eq
  intro n22 h22;conv=>cbv
  cases n22 <;> conv=>cbv
  ·have k22:=gtr_f h22
   obtain⟨x27,hx27⟩:=get_ex (l:=A) (i:=k') (by omega)
   refine⟨x27,fun _=>⟨by omega,by rw[show (j).toNat=k' by omega];exact hx27⟩,?_⟩
   try conv=>cbv
   have ex27:=Option.some.inj (hx27.symm.trans hx17)
   have el27:List.length x27.2.2=List.length x17.2.2:=by rw[ex27]
   intro n31 h31;have e31:=h31.eq;have f31:=h31.le;conv=>cbv
   have e31':n31=((List.length x27.2.2:Nat):Int):=h31.eq
   intro n32 h32;conv=>cbv
   cases n32 <;> conv=>cbv
   ·have k32:=gtr_f h32
    intro n13 h13;conv=>cbv
    refine⟨fun _=>i64 (by omega),?_⟩
    refine⟨xs.length-(k'+1),?_,?_⟩
    ·omega
    rw[hJ0]
    exact⟨k'+1,_,rfl,rfl,⟨⟨by omega⟩,by omega⟩,take_all hinv hq1 ((shq_len hr1').2 ⟨by omega,by omega⟩),rfl⟩
   ·have k32:=gtr_t h32
    exact fA ⟨⟨rfl,congrArg _ (hc.2 (.inl ⟨q1,List.mem_of_getElem? hq1,fun h=>by have:=(shq_len hr1').1 h;omega⟩)),trivial⟩,trivial⟩ rfl (by simp)
  ·have k22:=gtr_t h22
   exact fA ⟨⟨rfl,congrArg _ (hc.2 (.inl ⟨q1,List.mem_of_getElem? hq1,fun h=>by have:=(shq_len hr1').1 h;omega⟩)),trivial⟩,trivial⟩ rfl (by simp)
theorem YLight_t (hT:T=ts.map rps) (hA:A=rps xs) (h1:∀q∈xs,ShQ q) (h2:∀s∈ts,∀q∈s,ShQ q):CF 38 [.agg [.sl (.sl tRat) T,.sl tRat A]] (.one (.bool true)):=by
 have hAl:A.length=xs.length:=by rw[hA,List.length_map]
 have hTl:T.length=ts.length:=by rw[hT,List.length_map]
 refine acall_fn Tryz.func38 (by kernel_rfl) rfl fun E hE=>?_
 conv=>cbv
 refine .inr ?_
 obtain⟨J0,hJ0⟩:∃J:List AV→List Blk→Nat→Prop,J=fun vs bl k=>∃(k':Nat) (j:Int),vs=[.one (.lptr 1 0 0),.one (.bool false),.one (.int .i64 j)]∧bl=[.var 0 [.sl (.sl tRat) T,.sl tRat A]]∧(NatIs j k'∧k'≤xs.length)∧k=xs.length-k':=⟨_,rfl⟩
 refine⟨[1,2,3],[1],J0,⟨xs.length-0,by rw[hJ0];exact⟨0,0,rfl,rfl,⟨natIs 0,by omega⟩,rfl⟩⟩,?_⟩
 intro vs bl kk0 hj;rw[hJ0] at hj
 obtain⟨k',j,rfl,rfl,⟨hj,hjl⟩,hk0⟩:=hj
 conv=>cbv
 have ej:=hj.eq
 intro n9 h9;have e9:=h9.eq;have f9:=h9.le;conv=>cbv
 intro n10 h10;conv=>cbv
 cases n10 <;> conv=>cbv
 ·have k10:=lss_f h10
  refine .inr ?_
  obtain⟨J1,hJ1⟩:∃J:List AV→List Blk→Nat→Prop,J=fun vs bl k=>∃(m':Nat) (m:Int),vs=[.one (.lptr 1 0 0),.one (.bool false),.one (.int .i64 m)]∧bl=[.var 0 [.sl (.sl tRat) T,.sl tRat A]]∧(NatIs m m'∧m'≤ts.length)∧k=ts.length-m':=⟨_,rfl⟩
  refine⟨[1,2,4],[1],J1,⟨ts.length-0,by rw[hJ1];exact⟨0,0,rfl,rfl,⟨natIs 0,by omega⟩,rfl⟩⟩,?_⟩
  intro vs bl kk1 hj;rw[hJ1] at hj
  obtain⟨m',m,rfl,rfl,⟨hm,hml⟩,hk1⟩:=hj
  conv=>cbv
  have em:=hm.eq
  intro n36 h36;have e36:=h36.eq;have f36:=h36.le;conv=>cbv
  intro n37 h37;conv=>cbv
  cases n37 <;> conv=>cbv
  ·have k37:=lss_f h37
   exact fA ⟨⟨rfl,rfl,trivial⟩,trivial⟩ rfl (by simp)
  ·have k37:=lss_t h37
   refine .inr ?_
   obtain⟨s2,hs2',hs2⟩:∃s,T[m']? =some (rps s)∧ts[m']? =some s:=by
    obtain⟨s,hs⟩:=get_ex (l:=ts) (i:=m') (by omega)
    exact⟨s,by rw[hT,List.getElem?_map,hs];rfl,hs⟩
   refine .inr ?_
   obtain⟨J2,hJ2⟩:∃J:List AV→List Blk→Nat→Prop,J=fun vs bl k=>∃(p':Nat) (p:Int),vs=[.one (.lptr 1 0 0),.one (.bool false),.one (.int .i64 m),.one (.int .i64 p)]∧bl=[.var 0 [.sl (.sl tRat) T,.sl tRat A]]∧(NatIs p p'∧p'≤s2.length)∧k=s2.length-p':=⟨_,rfl⟩
   refine⟨[1,2,4,5],[1],J2,⟨s2.length-0,by rw[hJ2];exact⟨0,0,rfl,rfl,⟨natIs 0,by omega⟩,rfl⟩⟩,?_⟩
   intro vs bl kk2 hj;rw[hJ2] at hj
   obtain⟨p',p,rfl,rfl,⟨hp,hpl⟩,hk2⟩:=hj
   conv=>cbv
   have ep:=hp.eq
   obtain⟨x44,hx44⟩:=get_ex (l:=T) (i:=m') (by omega)
   refine⟨x44,fun _=>⟨by omega,by rw[show (m).toNat=m' by omega];exact hx44⟩,?_⟩
   try conv=>cbv
   have es2:x44=rps s2:=Option.some.inj (hx44.symm.trans hs2')
   have hsl:x44.length=s2.length:=by rw[es2,List.length_map]
   intro n46 h46;have e46:=h46.eq;have f46:=h46.le;conv=>cbv
   intro n47 h47;conv=>cbv
   cases n47 <;> conv=>cbv
   ·have k47:=lss_f h47
    intro n39 h39;conv=>cbv
    refine⟨fun _=>i64 (by omega),?_⟩
    refine⟨ts.length-(m'+1),?_,?_⟩
    ·omega
    rw[hJ1]
    exact⟨m'+1,_,rfl,rfl,⟨⟨by omega⟩,by omega⟩,rfl⟩
   ·have k47:=lss_t h47
    refine .inr ?_
    obtain⟨x53,hx53⟩:=get_ex (l:=T) (i:=m') (by omega)
    refine⟨x53,fun _=>⟨by omega,by rw[show (m).toNat=m' by omega];exact hx53⟩,?_⟩
    try conv=>cbv
    have es3:x53=rps s2:=Option.some.inj (hx53.symm.trans hs2')
    have hsl3:x53.length=s2.length:=by rw[es3,List.length_map]
    obtain⟨x56,hx56⟩:=get_ex (l:=x53) (i:=p') (by omega)
    refine⟨x56,fun _=>⟨by omega,by rw[show (p).toNat=p' by omega];exact hx56⟩,?_⟩
    try conv=>cbv
    obtain⟨q3,hr3,hq3,_⟩:=get_rq es3 hx56
    have hr3':IsR q3 x56.1.1 x56.1.2 x56.2.1 x56.2.2:=hr3
    have hsh3:=(shq_len hr3').1 (h2 s2 (List.mem_of_getElem? hs2) q3 (List.mem_of_getElem? hq3))
    intro n60 h60;have e60:=h60.eq;have f60:=h60.le;conv=>cbv
    have e60':n60=((List.length x56.1.2:Nat):Int):=h60.eq
    intro n61 h61;conv=>cbv
    cases n61 <;> conv=>cbv
    ·have k61:=gtr_f h61
     obtain⟨x66,hx66⟩:=get_ex (l:=T) (i:=m') (by omega)
     refine⟨x66,fun _=>⟨by omega,by rw[show (m).toNat=m' by omega];exact hx66⟩,?_⟩
     try conv=>cbv
     have ex66:=Option.some.inj (hx66.symm.trans hx53)
     have hsl6:x66.length=s2.length:=by rw[ex66,es3,List.length_map]
     obtain⟨x69,hx69⟩:=get_ex (l:=x66) (i:=p') (by omega)
     refine⟨x69,fun _=>⟨by omega,by rw[show (p).toNat=p' by omega];exact hx69⟩,?_⟩
     try conv=>cbv
     have ex69:=Option.some.inj ((show x53[p']? =some x69 by rw[←ex66];exact hx69).symm.trans hx56)
     have el69:List.length x69.2.2=List.length x56.2.2:=by rw[ex69]
     intro n73 h73;have e73:=h73.eq;have f73:=h73.le;conv=>cbv
     have e73':n73=((List.length x69.2.2:Nat):Int):=h73.eq
     intro n74 h74;conv=>cbv
     cases n74 <;> conv=>cbv
     ·have k74:=gtr_f h74
      intro n49 h49;conv=>cbv
      refine⟨fun _=>i64 (by omega),?_⟩
      refine⟨s2.length-(p'+1),?_,?_⟩
      ·omega
      rw[hJ2]
      exact⟨p'+1,_,rfl,rfl,⟨⟨by omega⟩,by omega⟩,rfl⟩
     ·have k74:=gtr_t h74
      exfalso;omega
    ·have k61:=gtr_t h61
     exfalso;omega
 ·have k10:=lss_t h10
  refine .inr ?_
  obtain⟨x16,hx16⟩:=get_ex (l:=A) (i:=k') (by omega)
  refine⟨x16,fun _=>⟨by omega,by rw[show (j).toNat=k' by omega];exact hx16⟩,?_⟩
  try conv=>cbv
  obtain⟨q1,hr1,hq1,_⟩:=get_rq hA hx16
  have hr1':IsR q1 x16.1.1 x16.1.2 x16.2.1 x16.2.2:=hr1
  have hsh1:=(shq_len hr1').1 (h1 q1 (List.mem_of_getElem? hq1))
  intro n20 h20;have e20:=h20.eq;have f20:=h20.le;conv=>cbv
  have e20':n20=((List.length x16.1.2:Nat):Int):=h20.eq
  intro n21 h21;conv=>cbv
  cases n21 <;> conv=>cbv
  ·have k21:=gtr_f h21
   obtain⟨x26,hx26⟩:=get_ex (l:=A) (i:=k') (by omega)
   refine⟨x26,fun _=>⟨by omega,by rw[show (j).toNat=k' by omega];exact hx26⟩,?_⟩
   try conv=>cbv
   have ex26:=Option.some.inj (hx26.symm.trans hx16)
   have el26:List.length x26.2.2=List.length x16.2.2:=by rw[ex26]
   intro n30 h30;have e30:=h30.eq;have f30:=h30.le;conv=>cbv
   have e30':n30=((List.length x26.2.2:Nat):Int):=h30.eq
   intro n31 h31;conv=>cbv
   cases n31 <;> conv=>cbv
   ·have k31:=gtr_f h31
    intro n12 h12;conv=>cbv
    refine⟨fun _=>i64 (by omega),?_⟩
    refine⟨xs.length-(k'+1),?_,?_⟩
    ·omega
    rw[hJ0]
    exact⟨k'+1,_,rfl,rfl,⟨⟨by omega⟩,by omega⟩,rfl⟩
   ·have k31:=gtr_t h31
    exfalso;omega
  ·have k21:=gtr_t h21
   exfalso;omega
theorem YAll_t (hL:L=ns.map nm) (h1:∀n∈ns,(∀q∈co n.1 n.2,ShQ q)∧∀s∈n.1,∀q∈s,ShQ q):CF 31 [.one (.sl tNum L)] (.one (.bool true)):=by
 have hLl:L.length=ns.length:=by rw[hL,List.length_map]
 refine acall_fn Tryz.func31 (by kernel_rfl) rfl fun E hE=>?_
 conv=>cbv
 refine .inr ?_
 obtain⟨J0,hJ0⟩:∃J:List AV→List Blk→Nat→Prop,J=fun vs bl k=>∃(k':Nat) (j:Int),vs=[.one (.sl tNum L),.one (.int .i64 j)]∧(NatIs j k'∧k'≤L.length)∧k=L.length-k':=⟨_,rfl⟩
 refine⟨[0,3],[],J0,⟨L.length-0,by rw[hJ0];exact⟨0,0,rfl,⟨natIs 0,by omega⟩,rfl⟩⟩,?_⟩
 intro vs bl kk0 hj;rw[hJ0] at hj
 obtain⟨k',j,rfl,⟨hj,hjl⟩,hk0⟩:=hj
 conv=>cbv
 have ej:=hj.eq
 intro n6 h6;have e6:=h6.eq;have f6:=h6.le;conv=>cbv
 intro n7 h7;conv=>cbv
 cases n7 <;> conv=>cbv
 ·have k7:=lss_f h7
  exact fA ⟨⟨rfl,rfl,trivial⟩,trivial⟩ rfl (by simp)
 ·have k7:=lss_t h7
  refine .inr ?_
  obtain⟨x12,hx12⟩:=get_ex (l:=L) (i:=k') (by omega)
  refine⟨x12,fun _=>⟨by omega,by rw[show (j).toNat=k' by omega];exact hx12⟩,?_⟩
  try conv=>cbv
  obtain⟨u,y,hxu,hxy,hnu⟩:=get_nm hL hx12
  have hsh:=h1 _ (List.mem_of_getElem? hnu)
  refine cA hE (YLight_t (ts:=u.reverse) (xs:=co u y) hxu hxy hsh.1 (fun s hs=>hsh.2 s (List.mem_reverse.1 hs))) ?_
  try conv=>cbv
  intro n15 h15;(have h15:=h15.trans (show _=false from rfl));subst h15;conv=>cbv
  intro n9 h9;conv=>cbv
  refine⟨fun _=>i64 (by omega),?_⟩
  refine⟨L.length-(k'+1),?_,?_⟩
  ·omega
  rw[hJ0]
  exact⟨k'+1,_,rfl,⟨⟨by omega⟩,by omega⟩,rfl⟩
theorem YAt_ok {i:Int} {n:Nu} (hL:L=ns.map nm) (hne:ns≠[]) (hi:NatIs i i') (hn:n=getN ns i') (hT:T=tw n.1) (hA:A=em n.1 n.2):CF 58 [.one (.sl tNum L),.one (.int .i64 i)] (.agg [.sl (.sl tRat) T,.sl tRat A]):=by
 have ei:=hi.eq
 have hLl:L.length=ns.length:=by rw[hL,List.length_map]
 have hpos:0<ns.length:=List.length_pos_iff.2 hne
 refine acall_fn Tryz.func58 (by kernel_rfl) rfl fun E hE=>?_
 conv=>cbv
 intro n6 h6;have e6:=h6.eq;have f6:=h6.le;conv=>cbv
 intro n7 h7;conv=>cbv
 cases n7 <;> conv=>cbv
 ·have k7:=eql_f h7
  intro n10 h10;conv=>cbv
  cases n10 <;> conv=>cbv
  ·have k10:=lss_f h10
   intro n16 h16;have e16:=h16.eq;have f16:=h16.le;conv=>cbv
   intro n17 h17;conv=>cbv
   refine⟨fun _=>⟨by omega,by omega⟩,?_⟩
   have h17':n17=((i'%L.length:Nat):Int):=by rw[h17,ei,e16];exact (Int.natCast_emod _ _).symm
   obtain⟨x18,hx18⟩:=get_ex (l:=L) (i:=(i'%L.length)) (by exact Nat.mod_lt _ (by omega))
   refine⟨x18,fun _=>⟨by omega,by rw[show (n17).toNat=(i'%L.length) by omega];exact hx18⟩,?_⟩
   try conv=>cbv
   obtain⟨u,y,hxu,hxy,hnu⟩:=get_nm hL hx18
   have en:n=(u,y):=by rw[hn];unfold getN;rw[←hLl,List.getD_eq_getElem?_getD,hnu];rfl
   exact fA ⟨⟨rfl,congrArg _ (by rw[hT,en];exact hxu.symm),congrArg _ (by rw[hA,en];exact hxy.symm),trivial⟩,trivial⟩ rfl (by simp)
  ·have k10:=lss_t h10
   exact absurd k10 (by omega)
 ·have k7:=eql_t h7
  exact absurd k7 (by omega)
theorem mix_get {i:Nat} (hq:∀m,o[m]? =(ts[m]?).map fun s=>rps (if i<m∧m<k then woF i 0 s else s)) (hs:ts[k]? =some s) (hk:i<k) {w:LR} (hw:w=rps (woF i 0 s)):
  ∀m,(o.set k w)[m]? =(ts[m]?).map fun s=>rps (if i<m∧m<k+1 then woF i 0 s else s):=by
 intro m
 by_cases e:k=m
 ·subst e
  have hk2:=getE' hs
  have ho:k<o.length:=by
   have:=hq k
   rw[hs] at this
   exact getE' this
  rw[List.getElem?_set_self ho,hs,Option.map_some,if_pos ⟨hk,by omega⟩,hw]
 ·rw[List.getElem?_set_ne e,hq m]
  have:(i<m∧m<k+1)↔(i<m∧m<k):=by omega
  simp only[this]
theorem mix_end {i:Nat} (hi:i<ts.length) (hq:∀m,o[m]? =(ts[m]?).map fun s=>rps (if i<m∧m<ts.length then woF i 0 s else s)):o.take i++o.drop (i+1)=(ts.take i++(ts.drop (i+1)).map (woF i 0)).map rps:=by
 have e:o=(ts.take (i+1)++(ts.drop (i+1)).map (woF i 0)).map rps:=by
  apply List.ext_getElem?
  intro m
  rw[hq m,List.getElem?_map,List.getElem?_append,List.length_take,Nat.min_eq_left (by omega)]
  by_cases hm:m<i+1
  ·rw[if_pos hm,List.getElem?_take,if_pos hm]
   cases ts[m]? with
   | none=>rfl
   | some s=>simp only[Option.map_some];rw[if_neg (by omega)]
  ·rw[if_neg hm,List.getElem?_map,List.getElem?_drop,show i+1+(m-(i+1))=m by omega]
   by_cases hm2:m<ts.length
   ·rw[List.getElem?_eq_getElem hm2]
    simp only[Option.map_some];rw[if_pos ⟨by omega,hm2⟩]
   ·rw[List.getElem?_eq_none (by omega)];rfl
 have hlen:(ts.take (i+1)).length=i+1:=by rw[List.length_take];omega
 rw[e,List.map_append,List.map_append,List.take_append_of_le_length (by rw[List.length_map,hlen];omega),List.drop_left' (by rw[List.length_map,hlen]),←List.map_take,List.take_take,Nat.min_eq_left (by omega)]
theorem any_snoc {i:Nat} {f:List Rat→Bool} (hs:ts[k]? =some s) (hk:i<k):((ts.drop (i+1)).take (k+1-(i+1))).any f=(((ts.drop (i+1)).take (k-(i+1))).any f||f s):=by
 rw[show k+1-(i+1)=k-(i+1)+1 by omega,take_snoc (l:=ts.drop (i+1)) (i:=k-(i+1)) (x:=s) (by rw[List.getElem?_drop,show i+1+(k-(i+1))=k by omega];exact hs)]
 simp
theorem YTrim_ok {u wF:List (List Rat)} {x:Re} (h:Red u) (hx:In u x) (hl:u.length≤8) (hw:trimF u.length (u.reverse,co u x)=(wF.reverse,co wF x)) (hT:T=tw u) (hA:A=em u x) (hT2:T2=tw wF) (hC:C=em wF x):CF 25 [.agg [.sl (.sl tRat) T,.sl tRat A]] (.agg [.sl (.sl tRat) T2,.sl tRat C]):=by
 have hTl:T.length=u.length:=by rw[hT,tw_len]
 refine acall_fn Tryz.func25 (by kernel_rfl) rfl fun E hE=>?_
 conv=>cbv
 refine⟨[],fun _=>⟨rfl,by decide,rfl,trivial⟩,.inl ?_⟩
 try conv=>cbv
 refine .inl ⟨T,fun _=>⟨rfl,by (first | rfl | omega),rfl,by show (0+T.length)*24≤140737488355328;(try simp only[List.length_take,List.length_drop]);omega⟩,?_⟩
 intro (l11:List (el (.sl tRat))) n11 ql11;have hl11:l11=([]:List (el (.sl tRat)))++(T:List (el (.sl tRat))):=ql11.1;have hn11:n11=List.length (α:=(el (.sl tRat))) l11:=ql11.2;conv=>cbv
 refine⟨fun _=>rfl,?_⟩
 intro n17 h17;have e17:=h17.eq;conv=>cbv
 have hl11':List.length l11=List.length T:=by rw[hl11];rfl
 intro n18 h18;conv=>cbv
 refine⟨fun _=>i64 (by omega),?_⟩
 refine .inr ?_
 obtain⟨J0,hJ0⟩:∃J:List AV→List Blk→Nat→Prop,J=fun vs bl k=>∃(w:List (List Rat)) (O:List LR) (B:LR) (n j:Nat) (i:Int),vs=[.one (.lptr 2 0 0),.one (.lptr 3 0 0),.one (.int .i64 i)]∧bl=[.var 0 [.nil,.nil],.var 0 [.lsl (.sl tRat) 8 0 0 n,.sl tRat B],.arr 0 (.sl tRat) O]∧
  (NatIs (i+1) j∧n=O.length∧O=tw w∧B=em w x)∧(Red w∧In w x∧j≤w.length∧w.length≤8)∧trimF j (w.reverse,co w x)=(wF.reverse,co wF x)∧k=j:=⟨_,rfl⟩
 refine⟨[2,3,4],[2,3,8],J0,⟨u.length,by rw[hJ0];exact⟨u,_,_,_,u.length,n18,rfl,rfl,⟨⟨by omega⟩,hn11,by rw[hl11,hT];rfl,hA⟩,⟨h,hx,Nat.le_refl _,hl⟩,hw,rfl⟩⟩,?_⟩
 intro vs bl kk0 hj;rw[hJ0] at hj
 obtain⟨w,O,B,n,j,i,rfl,rfl,⟨hi,hn,hO,hB⟩,⟨hwr,hwx,hjw,hw8⟩,htr,hk0⟩:=hj
 conv=>cbv
 have ei:=hi.eq
 obtain⟨i',hie⟩:∃z:Nat,z=j-1:=⟨_,rfl⟩
 intro n20 h20;conv=>cbv
 cases n20 <;> conv=>cbv
 ·have k20:=geq_f h20
  exact fA ⟨⟨rfl,.inl ⟨_,rfl,by omega,congrArg _ (by rw[hT2,hn,List.drop_zero,List.take_length,hO];have:=htr;rw[show j=0 by omega,trimF] at this;rw[tw,tw,(Prod.mk.inj this).1])⟩,congrArg _ (by rw[hC,hB];have:=htr;rw[show j=0 by omega,trimF] at this;rw[em,em,(Prod.mk.inj this).2]),trivial⟩,trivial⟩ rfl (by simp)
 ·have k20:=geq_t h20
  obtain⟨K1,hK1⟩:∃J:List AV→List Blk→Prop,J=fun vs bl=>∃(w2:List (List Rat)) (O2:List LR) (B2:LR) (n2:Nat),vs=[.one (.lptr 2 0 0),.one (.lptr 3 0 0),.one (.int .i64 i)]∧bl=[.var 0 [.nil,.nil],.var 0 [.lsl (.sl tRat) 8 0 0 n2,.sl tRat B2],.arr 0 (.sl tRat) O2]∧
   (n2=O2.length∧O2=tw w2∧B2=em w2 x)∧(Red w2∧In w2 x∧i'≤w2.length∧w2.length≤8)∧trimF i' (w2.reverse,co w2 x)=(wF.reverse,co wF x):=⟨_,rfl⟩
  refine .inl ⟨[2,3,4],[2,3,8],K1,?_,?_⟩
  ·intro vs bl hj;rw[hK1] at hj
   obtain⟨w2,O2,B2,n2,rfl,rfl,⟨hn2,hO2,hB2⟩,⟨hwr2,hwx2,hjw2,hw82⟩,htr2⟩:=hj
   conv=>cbv
   intro n22 h22;conv=>cbv
   refine⟨fun _=>i64 (by omega),?_⟩
   refine⟨i',?_,?_⟩
   ·omega
   rw[hJ0]
   exact⟨w2,O2,B2,n2,i',n22,rfl,rfl,⟨⟨by omega⟩,hn2,hO2,hB2⟩,⟨hwr2,hwx2,hjw2,hw82⟩,htr2,rfl⟩
  try conv=>cbv
  have hji:j=i'+1:=by omega
  subst hji
  have hi':NatIs i i':=⟨by omega⟩
  obtain⟨ts,hts⟩:∃z:List (List Rat),z=w.reverse:=⟨_,rfl⟩
  have hOt:O=ts.map rps:=by rw[hO,hts];rfl
  have htl:ts.length=w.length:=by rw[hts,List.length_reverse]
  have hOl:O.length=ts.length:=by rw[hOt,List.length_map]
  have hcl:(co w x).length≤1000000:=by rw[co_len hwx];exact Nat.le_trans (pow_le2 hw8) (by decide)
  obtain⟨c26,hc26⟩:∃z:Bool,z=occF i' 0 (co w x):=⟨_,rfl⟩
  refine cL hE (Yoccurs_ok (xs:=co w x) hB hi' (by omega) hc26) ⟨rfl,rfl,trivial⟩ ?_
  try conv=>cbv
  intro n28 h28;conv=>cbv
  refine⟨fun _=>i64 (by omega),?_⟩
  refine .inr ?_
  obtain⟨J1,hJ1⟩:∃J:List AV→List Blk→Nat→Prop,J=fun vs bl k=>∃(b:Bool) (k':Nat) (j:Int),vs=[.one (.lptr 2 0 0),.one (.lptr 3 0 0),.one (.int .i64 i),.one (.bool b),.one (.int .i64 j)]∧bl=[.var 0 [.nil,.nil],.var 0 [.lsl (.sl tRat) 8 0 0 n,.sl tRat B],.arr 0 (.sl tRat) O]∧
   (NatIs j k'∧i'<k'∧k'≤ts.length)∧b=(occF i' 0 (co w x)||((ts.drop (i'+1)).take (k'-(i'+1))).any (occF i' 0))∧k=ts.length-k':=⟨_,rfl⟩
  refine⟨[2,3,4,5,6],[2,3,8],J1,⟨ts.length-(i'+1),by rw[hJ1];exact⟨c26,i'+1,n28,rfl,rfl,⟨⟨by omega⟩,by omega,by omega⟩,by rw[hc26,Nat.sub_self,List.take_zero];simp,rfl⟩⟩,?_⟩
  intro vs bl kk1 hj;rw[hJ1] at hj
  obtain⟨b,k',j,rfl,rfl,⟨hj,hik,hjl⟩,hb,hk1⟩:=hj
  conv=>cbv
  have ej:=hj.eq
  intro n32 h32;have e32:=h32.eq;conv=>cbv
  intro n33 h33;conv=>cbv
  cases n33 <;> conv=>cbv
  ·have k33:=lss_f h33
   cases b <;> conv=>cbv
   ·obtain⟨C50,hC50⟩:∃z:LR,z=rps (woF i' 0 (co w x)):=⟨_,rfl⟩
    refine cL hE (Ywithout_ok (xs:=co w x) hB hi' (by omega) hcl hC50) ⟨rfl,rfl,trivial⟩ ?_
    try conv=>cbv
    intro n53 h53;conv=>cbv
    refine⟨fun _=>i64 (by omega),?_⟩
    refine .inr ?_
    obtain⟨J2,hJ2⟩:∃J:List AV→List Blk→Nat→Prop,J=fun vs bl k=>∃(o:List LR) (k2:Nat) (j2:Int),vs=[.one (.lptr 2 0 0),.one (.lptr 3 0 0),.one (.int .i64 i),.one (.int .i64 j2)]∧bl=[.var 0 [.nil,.nil],.var 0 [.lsl (.sl tRat) 8 0 0 n,.sl tRat C50],.arr 0 (.sl tRat) o]∧
     (NatIs j2 k2∧i'<k2∧k2≤ts.length∧o.length=ts.length)∧(∀m,o[m]? =(ts[m]?).map fun s=>rps (if i'<m∧m<k2 then woF i' 0 s else s))∧k=ts.length-k2:=⟨_,rfl⟩
    refine⟨[2,3,4,7],[2,3,8],J2,⟨ts.length-(i'+1),by rw[hJ2];exact⟨O,i'+1,n53,rfl,rfl,⟨⟨by omega⟩,by omega,by omega,by omega⟩,fun m=>by
     have hne:¬(i'<m∧m<i'+1):=by omega
     simp only[hne,if_false]
     rw[hOt,List.getElem?_map],rfl⟩⟩,?_⟩
    intro vs bl kk2 hj;rw[hJ2] at hj
    obtain⟨o,k2,j2,rfl,rfl,⟨hj2,hik2,hjl2,hol⟩,hq,hk2⟩:=hj
    conv=>cbv
    have ej2:=hj2.eq
    intro n57 h57;have e57:=h57.eq;conv=>cbv
    intro n58 h58;conv=>cbv
    cases n58 <;> conv=>cbv
    ·have k58:=lss_f h58
     refine⟨fun _=>⟨by omega,by omega,by omega⟩,?_⟩
     intro b76 hb76;conv=>cbv
     rintro o76 c76 ⟨ho76,hc76⟩;conv=>cbv
     intro n80 h80;conv=>cbv
     refine⟨fun _=>i64 (by omega),?_⟩
     refine⟨fun _=>⟨by omega,by omega⟩,?_⟩
     rintro a81 b81 ⟨ha81,hb81⟩;conv=>cbv
     rintro o81 c81 ⟨ho81,hc81⟩;conv=>cbv
     refine .inl ⟨((o).drop o81).take c81,fun _=>⟨by omega,by omega,⟨_,rfl,by omega,rfl⟩,by show (c76+(((o).drop o81).take c81).length)*24≤140737488355328;(try simp only[List.length_take,List.length_drop]);omega⟩,?_⟩
     intro (l82:List (el (.sl tRat))) n82 ql82;have hl82:l82=(List.take c76 o:List (el (.sl tRat)))++(((o).drop o81).take c81:List (el (.sl tRat))):=ql82.1;have hn82:n82=List.length (α:=(el (.sl tRat))) l82:=ql82.2;conv=>cbv
     refine⟨fun _=>rfl,?_⟩
     rw[hK1]
     have hkk:k'=ts.length:=by omega
     have hb':¬(occF i' 0 (co w x)||(ts.drop (i'+1)).any (occF i' 0))=true:=by
      have h1:=hb
      rw[hkk,List.take_of_length_le (by rw[List.length_drop];omega)] at h1
      rw[←h1];exact Bool.false_ne_true
     obtain⟨w1,e1,ht1,hl1⟩:=trim_step hwr hwx (by omega:i'<w.length)
     have e2:=e1
     unfold trimStep at e2
     rw[←hts,if_neg hb'] at e2
     have e3:=Prod.mk.inj e2
     have hl82':l82=o.take i'++o.drop (i'+1):=by
      rw[hl82,show c76=i' by omega,show o81=i'+1 by omega,List.take_of_length_le (l:=o.drop (i'+1)) (by rw[List.length_drop];omega)]
     rw[show k2=ts.length by omega] at hq
     refine⟨w1,l82,C50,n82,rfl,rfl,⟨hn82,?_,?_⟩,⟨ht1.red,ht1.mem,hl1,Nat.le_trans ht1.len hw8⟩,by rw[trimF,e1] at htr;exact htr⟩
     ·rw[hl82',mix_end (by omega) hq,tw,←hts] at*
      rw[e3.1]
     ·rw[hC50,em,←e3.2]
    ·have k58:=lss_t h58
     refine .inr ?_
     refine⟨fun _=>⟨by omega,by omega⟩,?_⟩
     intro j67 hj67;conv=>cbv
     obtain⟨x68,hx68⟩:=get_ex (l:=o) (i:=j67) (by omega)
     refine⟨x68,fun _=>hx68,?_⟩
     try conv=>cbv
     obtain⟨s7,hs7⟩:=get_ex (l:=ts) (i:=k2) (by omega)
     have hxk:o[k2]? =some x68:=by rw[←hx68];congr 1;omega
     have es7:x68=rps s7:=by have h1:=hq k2;rw[hs7,hxk,Option.map_some,if_neg (by omega)] at h1;exact Option.some.inj h1
     have hs7l:s7.length≤1000000:=by have h1:=rad_len hwr (List.mem_reverse.1 (hts ▸ List.mem_of_getElem? hs7));have h2:2^w.length≤2^8:=pow_le2 hw8;omega
     obtain⟨w70,hw70⟩:∃z:LR,z=rps (woF i' 0 s7):=⟨_,rfl⟩
     refine cL hE (Ywithout_ok es7 hi' (by omega) hs7l hw70) ⟨rfl,rfl,trivial⟩ ?_
     try conv=>cbv
     refine⟨fun _=>⟨by omega,by omega⟩,?_⟩
     intro j71 hj71;conv=>cbv
     refine⟨w70,fun _=>⟨by show _<List.length (α:=(el (.sl tRat))) o;(first | omega | (simp;omega)),by first | exact⟨rfl,trivial⟩ | exact⟨rfl,rfl,trivial⟩ | exact⟨rfl,rfl,rfl,rfl,trivial⟩ | simp[allC,leC,cells]⟩,?_⟩
     intro (l71:List (el (.sl tRat))) (hl71:l71=List.set (α:=(el (.sl tRat))) o j71 w70);have gl71:l71.length=o.length:=by rw[hl71,List.length_set]
     conv=>cbv
     refine⟨fun _=>rfl,?_⟩
     intro n60 h60;conv=>cbv
     refine⟨fun _=>i64 (by omega),?_⟩
     refine⟨ts.length-(k2+1),?_,?_⟩
     ·omega
     rw[hJ2]
     exact⟨l71,k2+1,n60,rfl,rfl,⟨⟨by omega⟩,by omega,by omega,by rw[hl71,List.length_set];exact hol⟩,by rw[hl71,show j71=k2 by omega];exact mix_get hq hs7 hik2 hw70,rfl⟩
   ·rw[hK1]
    have hkk:k'=ts.length:=by omega
    have hb':(occF i' 0 (co w x)||(ts.drop (i'+1)).any (occF i' 0))=true:=by
     have h1:=hb
     rw[hkk,List.take_of_length_le (by rw[List.length_drop];omega)] at h1
     exact h1.symm
    have e1:trimStep i' (w.reverse,co w x)=(w.reverse,co w x):=by
     unfold trimStep
     rw[←hts,if_pos hb']
    exact⟨w,O,B,n,rfl,rfl,⟨hn,hO,hB⟩,⟨hwr,hwx,by omega,hw8⟩,by rw[trimF,e1] at htr;exact htr⟩
  ·have k33:=lss_t h33
   refine .inr ?_
   cases b <;> conv=>cbv
   ·refine⟨fun _=>⟨by omega,by omega⟩,?_⟩
    intro j41 hj41;conv=>cbv
    obtain⟨x42,hx42⟩:=get_ex (l:=O) (i:=j41) (by omega)
    refine⟨x42,fun _=>hx42,?_⟩
    try conv=>cbv
    obtain⟨s4,es4,hs4⟩:=get_rps (i:=k') hOt (by rw[←hx42];congr 1;omega)
    obtain⟨c44,hc44⟩:∃z:Bool,z=occF i' 0 s4:=⟨_,rfl⟩
    refine cL hE (Yoccurs_ok es4 hi' (by omega) hc44) ⟨rfl,rfl,trivial⟩ ?_
    try conv=>cbv
    intro n35 h35;conv=>cbv
    refine⟨fun _=>i64 (by omega),?_⟩
    refine⟨ts.length-(k'+1),?_,?_⟩
    ·omega
    rw[hJ1]
    exact⟨_,k'+1,n35,rfl,rfl,⟨⟨by omega⟩,by omega,by omega⟩,by rw[any_snoc hs4 hik,←Bool.or_assoc,←hb,hc44];simp,rfl⟩
   ·intro n35 h35;conv=>cbv
    refine⟨fun _=>i64 (by omega),?_⟩
    refine⟨ts.length-(k'+1),?_,?_⟩
    ·omega
    rw[hJ1]
    obtain⟨s4,hs4⟩:=get_ex (l:=ts) (i:=k') (by omega)
    exact⟨_,k'+1,n35,rfl,rfl,⟨⟨by omega⟩,by omega,by omega⟩,by rw[any_snoc hs4 hik,←Bool.or_assoc,←hb];simp,rfl⟩
end Go.Abs
