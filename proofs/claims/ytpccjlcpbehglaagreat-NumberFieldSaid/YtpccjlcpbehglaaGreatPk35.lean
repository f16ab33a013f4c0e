/- Part 36 of a proof. Conditions: each theorem's own. -/
import Derived.Test.YtpccjlcpbehglaaGreatPk31
import Derived.Test.YtpccjlcpbehglaaGreatPk34
set_option linter.all false
set_option maxHeartbeats 8000000
open Go.Proofs
namespace Go.Abs
open Go.RowKit
variable {C X Z:LR} {R i zn:Nat} {T:List LR} {b1 b2:Bool} {l1 l2:List UInt32} {q:Rat} {u:List (List Rat)} {xs:List Rat}
theorem get_rq {x:el tRat} (hX:X=rps xs) (hx:X[i]? =some x):∃q,IsR q x.1.1 x.1.2 x.2.1 x.2.2∧xs[i]? =some q∧x=rp q:=by
 rw[hX,rps,List.getElem?_map] at hx
 cases h:xs[i]? with
 | none=>rw[h] at hx;simp at hx
 | some q=>
  rw[h] at hx
  have e:x=rp q:=(Option.some.inj hx).symm
  exact⟨q,by rw[e];exact isR_rp q,rfl,e⟩
theorem rps_take_succ (h:xs[i]? =some q):rps (xs.take (i+1))=rps (xs.take i)++[rp q]:=by
 rw[take_snoc h,rps,rps,List.map_append];rfl
theorem YZero_ok {c:Bool} (hX:X=rps xs) (hc:c=decide (∀q∈xs,q=0)):CF 35 [.one (.sl tRat X)] (.one (.bool c)):=by
 have hXl:X.length=xs.length:=by rw[hX,List.length_map]
 refine acall_fn Tryz.func35 (by kernel_rfl) rfl fun E hE=>?_
 conv=>cbv
 refine .inr ?_
 obtain⟨J0,hJ0⟩:∃J:List AV→List Blk→Nat→Prop,J=fun vs bl k=>∃(i':Nat) (i:Int),vs=[.one (.sl tRat X),.one (.int .i64 i)]∧(NatIs i i'∧i'≤X.length)∧(∀q∈xs.take i',q=0)∧k=X.length-i':=⟨_,rfl⟩
 refine⟨[0,3],[],J0,⟨X.length-0,by rw[hJ0];exact⟨0,0,rfl,⟨natIs 0,by omega⟩,by simp,rfl⟩⟩,?_⟩
 intro vs bl kk0 hj;rw[hJ0] at hj
 obtain⟨i',i,rfl,⟨hi,hiL⟩,hinv,hk0⟩:=hj
 conv=>cbv
 have ei:=hi.eq
 intro n6 h6;have e6:=h6.eq;have f6:=h6.le;conv=>cbv
 intro n7 h7;conv=>cbv
 cases n7 <;> conv=>cbv
 ·have k7:=lss_f h7
  exact fA ⟨⟨rfl,congrArg _ (by rw[hc,decide_eq_true];intro z hz;rw[←List.take_of_length_le (show xs.length≤i' by omega)] at hz;exact hinv z hz),trivial⟩,trivial⟩ rfl (by simp)
 ·have k7:=lss_t h7
  refine .inr ?_
  obtain⟨x12,hx12⟩:=get_ex (l:=X) (i:=i') (by omega)
  refine⟨x12,fun _=>⟨by omega,by rw[show (i).toNat=i' by omega];exact hx12⟩,?_⟩
  try conv=>cbv
  obtain⟨q,hq,hqi,hqe⟩:=get_rq hX hx12
  intro n16 h16;have e16:=h16.eq;have f16:=h16.le;conv=>cbv
  have e16b:n16=((List.length (α:=UInt32) x12.1.2:Nat):Int):=e16
  intro n17 h17;conv=>cbv
  cases n17 <;> conv=>cbv
  ·have k17:=gtr_f h17
   intro n9 h9;conv=>cbv
   refine⟨fun _=>i64 (by omega),?_⟩
   refine⟨X.length-(i'+1),?_,?_⟩
   ·omega
   rw[hJ0]
   refine⟨i'+1,n9,rfl,⟨⟨by omega⟩,by omega⟩,?_,rfl⟩
   intro z hz
   rw[take_snoc hqi] at hz
   rcases List.mem_append.1 hz with hz | hz
   ·exact hinv z hz
   ·rw[List.mem_singleton.1 hz];exact Rat.num_eq_zero.1 (hq.num.len0.1 (by omega))
  ·have k17:=gtr_t h17
   have hq0:q≠0:=fun e=>by have:=hq.num.len0.2 (Rat.num_eq_zero.2 e);omega
   exact fA ⟨⟨rfl,congrArg _ (by rw[hc,decide_eq_false];exact fun h=>hq0 (h q (List.mem_of_getElem? hqi))),trivial⟩,trivial⟩ rfl (by simp)
theorem Yright_ok {n:Int} (hX:X=rps xs) (hs:Smalls xs) (hn:n=(xs.length:Int)):CF 135 [.one (.sl tRat X),.one (.int .i64 n)] (.one (.bool true)):=by
 have hXl:X.length=xs.length:=by rw[hX,List.length_map]
 refine acall_fn Tryz.func135 (by kernel_rfl) rfl fun E hE=>?_
 conv=>cbv
 refine .inr ?_
 obtain⟨J0,hJ0⟩:∃J:List AV→List Blk→Nat→Prop,J=fun vs bl k=>∃(i':Nat) (i:Int),vs=[.one (.sl tRat X),.one (.int .i64 n),.one (.int .i64 i)]∧(NatIs i i'∧i'≤X.length)∧k=X.length-i':=⟨_,rfl⟩
 refine⟨[0,1,5],[],J0,⟨X.length-0,by rw[hJ0];exact⟨0,0,rfl,⟨natIs 0,by omega⟩,rfl⟩⟩,?_⟩
 intro vs bl kk0 hj;rw[hJ0] at hj
 obtain⟨i',i,rfl,⟨hi,hiL⟩,hk0⟩:=hj
 conv=>cbv
 have ei:=hi.eq
 intro n8 h8;have e8:=h8.eq;have f8:=h8.le;conv=>cbv
 intro n9 h9;conv=>cbv
 cases n9 <;> conv=>cbv
 ·have k9:=lss_f h9
  intro n19 h19;have e19:=h19.eq;have f19:=h19.le;conv=>cbv
  intro n21 h21;conv=>cbv
  exact fA ⟨⟨rfl,congrArg _ (by rw[h21];simp;omega),trivial⟩,trivial⟩ rfl (by simp)
 ·have k9:=lss_t h9
  refine .inr ?_
  obtain⟨x14,hx14⟩:=get_ex (l:=X) (i:=i') (by omega)
  refine⟨x14,fun _=>⟨by omega,by rw[show (i).toNat=i' by omega];exact hx14⟩,?_⟩
  try conv=>cbv
  obtain⟨q,hq,hqi,hsq⟩:=get_rp hX hs hx14
  refine cA hE (YRValid_ok hq hsq) ?_
  try conv=>cbv
  intro n17 h17;(have h17:=h17.trans (show _=false from rfl));subst h17;conv=>cbv
  intro n11 h11;conv=>cbv
  refine⟨fun _=>i64 (by omega),?_⟩
  refine⟨X.length-(i'+1),?_,?_⟩
  ·omega
  rw[hJ0]
  exact⟨i'+1,n11,rfl,⟨⟨by omega⟩,by omega⟩,rfl⟩
theorem YTower_ok (h:Twr R u) (hT:T=tw u):CF 134 [.one (.sl (.sl tRat) T)] (.one (.bool true)):=by
 have hTl:T.length=u.length:=by rw[hT,tw_len]
 have hht:=h.ht
 refine acall_fn Tryz.func134 (by kernel_rfl) rfl fun E hE=>?_
 conv=>cbv
 refine .inr ?_
 obtain⟨J0,hJ0⟩:∃J:List AV→List Blk→Nat→Prop,J=fun vs bl k=>∃(i':Nat) (i:Int),vs=[.one (.sl (.sl tRat) T),.one (.int .i64 i)]∧(NatIs i i'∧i'≤T.length)∧k=T.length-i':=⟨_,rfl⟩
 refine⟨[0,3],[],J0,⟨T.length-0,by rw[hJ0];exact⟨0,0,rfl,⟨natIs 0,by omega⟩,rfl⟩⟩,?_⟩
 intro vs bl kk0 hj;rw[hJ0] at hj
 obtain⟨i',i,rfl,⟨hi,hiL⟩,hk0⟩:=hj
 conv=>cbv
 have ei:=hi.eq
 intro n6 h6;have e6:=h6.eq;have f6:=h6.le;conv=>cbv
 intro n7 h7;conv=>cbv
 cases n7 <;> conv=>cbv
 ·have k7:=lss_f h7
  exact fA ⟨⟨rfl,rfl,trivial⟩,trivial⟩ rfl (by simp)
 ·have k7:=lss_t h7
  refine .inr ?_
  obtain⟨x12,hx12⟩:=get_ex (l:=T) (i:=i') (by omega)
  refine⟨x12,fun _=>⟨by omega,by rw[show (i).toNat=i' by omega];exact hx12⟩,?_⟩
  try conv=>cbv
  obtain⟨y,hye,hyi⟩:=get_rps hT hx12
  have hyl:=red_form h.red _ y hyi
  intro n15 h15;conv=>cbv
  refine⟨fun _=>by omega,?_⟩
  have hs15:=(shl_one (k:=i') h15 (by omega) (by omega)).eq
  refine cL (r:= .one (.bool true)) hE (Yright_ok hye ((h.tb y (List.mem_reverse.1 (List.mem_of_getElem? hyi))).smalls h.hR) (by rw[hyl];exact hs15)) ⟨rfl,rfl,trivial⟩ ?_
  try conv=>cbv
  intro n17 h17;(have h17:=h17.trans (show _=false from rfl));subst h17;conv=>cbv
  refine⟨fun _=>rfl,?_⟩
  intro n9 h9;conv=>cbv
  refine⟨fun _=>i64 (by omega),?_⟩
  refine⟨T.length-(i'+1),?_,?_⟩
  ·omega
  rw[hJ0]
  exact⟨i'+1,n9,rfl,⟨⟨by omega⟩,by omega⟩,rfl⟩
theorem YFormed_ok {A:LR} {s:Nat} {x:Re} (h:Twr R u) (hT:T=tw u) (hA:A=em u x) (hx:El u s x) (hs:s≤60000000000000):CF 71 [.one (.sl (.sl tRat) T),.one (.sl tRat A)] (.one (.bool true)):=by
 have hTl:T.length=u.length:=by rw[hT,tw_len]
 have hht:=h.ht
 refine acall_fn Tryz.func71 (by kernel_rfl) rfl fun E hE=>?_
 conv=>cbv
 refine cA hE (YTower_ok h hT) ?_
 try conv=>cbv
 intro n10 h10;have e10:=h10.eq;have f10:=h10.le;conv=>cbv
 intro n11 h11;conv=>cbv
 refine⟨fun _=>by omega,?_⟩
 have hs11:=(shl_one (k:=u.length) h11 (e10.trans (congrArg _ hTl)) (by omega)).eq
 refine cL (r:= .one (.bool true)) hE (Yright_ok hA (hx.smalls hs) (by rw[hx.len];exact hs11)) ⟨rfl,rfl,trivial⟩ ?_
 try conv=>cbv
 exact fA ⟨⟨rfl,rfl,trivial⟩,trivial⟩ rfl (by simp)
theorem YFromRat_own (h:Twr R u) (hT:T=tw u) (hq:IsR q b1 l1 b2 l2) (hC:C=em u (Re.ofRat q)) (hzn:zn=C.length):CF 131 [.one (.sl (.sl tRat) T),.agg [.bool b1,.sl .u32 l1,.bool b2,.sl .u32 l2]] (.one (.own tRat C zn)):=by
 have hTl:T.length=u.length:=by rw[hT,tw_len]
 have hht:=h.ht
 have hp16:=pow16 h.ht
 have hpp:=pow_pos2 u.length
 refine acall_fn Tryz.func131 (by kernel_rfl) rfl fun E hE=>?_
 conv=>cbv
 refine⟨[((b1,l1),(b2,l2))],fun _=>⟨rfl,by decide,rfl,⟨rfl,by first | exact⟨rfl,trivial⟩ | exact⟨rfl,rfl,trivial⟩ | exact⟨rfl,rfl,rfl,rfl,trivial⟩ | simp[allC,leC,cells],trivial⟩⟩,.inl ?_⟩
 try conv=>cbv
 refine .inr ?_
 obtain⟨J0,hJ0⟩:∃J:List AV→List Blk→Nat→Prop,J=fun vs bl k=>∃(o:LR) (mm j:Nat),vs=[.one (.sl (.sl tRat) T),.one (.lsl tRat 7 0 0 mm)]∧bl=[.arr 0 tRat o]∧(mm=o.length∧o.length=j+1∧o.length≤2^u.length)∧o=rp q::List.replicate j (rp 0)∧k=2^u.length-o.length:=⟨_,rfl⟩
 refine⟨[0,5],[7],J0,⟨2^u.length-[rp q].length,by rw[hJ0];exact⟨[rp q],1,0,rfl,by rw[hq.rp];rfl,⟨rfl,rfl,by show 1≤_;omega⟩,rfl,rfl⟩⟩,?_⟩
 intro vs bl kk0 hj;rw[hJ0] at hj
 obtain⟨o,mm,j,rfl,rfl,⟨hmm,hoj,hol⟩,hinv,hk0⟩:=hj
 conv=>cbv
 intro n9 h9;have e9:=h9.eq;conv=>cbv
 intro n11 h11;have e11:=h11.eq;have f11:=h11.le;conv=>cbv
 intro n12 h12;conv=>cbv
 refine⟨fun _=>by omega,?_⟩
 have hn12:=(shl_one (k:=u.length) h12 (e11.trans (congrArg _ hTl)) (by omega)).eq
 intro n13 h13;conv=>cbv
 cases n13 <;> conv=>cbv
 ·have k13:=lss_f h13
  have hfin:C=o:=by rw[hC,em,co_rat q h.red,hinv,show j=2^u.length-1 by omega,rps,List.map_cons,List.map_replicate]
  exact fA ⟨⟨rfl,.inr (.inl ⟨_,_,by decide,rfl,rfl,hmm,rfl,own_eq (hfin) (by rw[hzn,hfin])⟩),trivial⟩,trivial⟩ rfl (by simp)
 ·have k13:=lss_t h13
  refine .inr ?_
  obtain⟨zb15,zl15,yb15,yl15,hz15⟩:=isR_ex (((0:Int):Rat))
  refine cL hE (YRFromInt_ok (by omega) rfl hz15) ⟨rfl,trivial⟩ ?_
  try conv=>cbv
  refine⟨[((zb15,zl15),(yb15,yl15))],fun _=>⟨rfl,by decide,rfl,⟨rfl,by first | exact⟨rfl,trivial⟩ | exact⟨rfl,rfl,trivial⟩ | exact⟨rfl,rfl,rfl,rfl,trivial⟩ | simp[allC,leC,cells],trivial⟩⟩,.inr ?_⟩
  try conv=>cbv
  refine .inl ⟨[((zb15,zl15),(yb15,yl15))],fun _=>⟨rfl,hmm,rfl,by show (o.length+1)*64≤140737488355328;(try simp only[List.length_take,List.length_drop]);omega⟩,?_⟩
  intro (l17:LR) n17 ql17;have hl17:l17=(o:LR)++([((zb15,zl15),(yb15,yl15))]:LR):=ql17.1;have hn17:n17=List.length (α:=(el tRat)) l17:=ql17.2;conv=>cbv
  have hl17l:l17.length=o.length+1:=by rw[hl17];simp
  refine⟨2^u.length-l17.length,?_,?_⟩
  ·omega
  rw[hJ0]
  exact⟨l17,n17,j+1,rfl,rfl,⟨hn17,by omega,by omega⟩,by rw[hl17,hinv,List.replicate_succ',List.cons_append,←hz15.rp];rfl,rfl⟩
theorem YFromRat_ok (h:Twr R u) (hT:T=tw u) (hq:IsR q b1 l1 b2 l2) (hC:C=em u (Re.ofRat q)):CF 131 [.one (.sl (.sl tRat) T),.agg [.bool b1,.sl .u32 l1,.bool b2,.sl .u32 l2]] (.one (.sl tRat C)):=acall_plain (YFromRat_own h hT hq hC rfl)
theorem YNeg_rps (hX:X=rps xs) (hl:xs.length≤1000000) (hZ:Z=rps (xs.map (- ·))):CF 98 [.one (.sl (.sl tRat) T),.one (.sl tRat X)] (.one (.sl tRat Z)):=by
 have hXl:X.length=xs.length:=by rw[hX,List.length_map]
 refine acall_fn Tryz.func98 (by kernel_rfl) rfl fun E hE=>?_
 conv=>cbv
 refine .inr ?_
 obtain⟨J0,hJ0⟩:∃J:List AV→List Blk→Nat→Prop,J=fun vs bl k=>(∃(i:Int),vs=[.one (.sl tRat X),.one .nil,.one (.int .i64 i)]∧bl=[.dead 0]∧NatIs i 0∧k=X.length)∨
  (∃(o:LR) (mm i':Nat) (i:Int),vs=[.one (.sl tRat X),.one (.lsl tRat 20 0 0 mm),.one (.int .i64 i)]∧bl=[.arr 0 tRat o]∧(NatIs i i'∧i'≤X.length∧mm=o.length)∧o=rps ((xs.map (- ·)).take i')∧k=X.length-i'):=⟨_,rfl⟩
 refine⟨[1,5,6],[20],J0,⟨X.length,by rw[hJ0];exact .inl ⟨0,rfl,rfl,natIs 0,rfl⟩⟩,?_⟩
 intro vs bl kk0 hj;rw[hJ0] at hj
 rcases hj with⟨i,rfl,rfl,hi,hk0⟩ |⟨o,mm,i',i,rfl,rfl,⟨hi,hiL,hmm⟩,hinv,hk0⟩
 ·conv=>cbv
  have ei:=hi.eq
  obtain⟨i',hi'⟩:∃z:Nat,z=0:=⟨_,rfl⟩
  intro n9 h9;have e9:=h9.eq;have f9:=h9.le;conv=>cbv
  intro n10 h10;conv=>cbv
  cases n10 <;> conv=>cbv
  ·have k10:=lss_f h10
   exact fA ⟨⟨rfl,.inr (.inl ⟨_,congrArg _ (by rw[hZ,show xs=[] from List.eq_nil_of_length_eq_zero (by omega)];rfl)⟩),trivial⟩,trivial⟩ rfl (by simp)
  ·have k10:=lss_t h10
   refine .inr ?_
   obtain⟨x16,hx16⟩:=get_ex (l:=X) (i:=i') (by omega)
   refine⟨x16,fun _=>⟨by omega,by rw[show (i).toNat=i' by omega];exact hx16⟩,?_⟩
   try conv=>cbv
   obtain⟨q,hq,hqi,hqe⟩:=get_rq hX hx16
   have hqm:(xs.map (- ·))[i']? =some (-q):=by rw[List.getElem?_map,hqi];rfl
   obtain⟨zb18,zl18,yb18,yl18,hz18⟩:=isR_ex (-q)
   refine cA hE (YRNeg_ok hq rfl hz18) ?_
   try conv=>cbv
   refine⟨[((zb18,zl18),(yb18,yl18))],fun _=>⟨rfl,by decide,rfl,⟨rfl,by first | exact⟨rfl,trivial⟩ | exact⟨rfl,rfl,trivial⟩ | exact⟨rfl,rfl,rfl,rfl,trivial⟩ | simp[allC,leC,cells],trivial⟩⟩,.inr ?_⟩
   try conv=>cbv
   refine .inl ⟨[((zb18,zl18),(yb18,yl18))],fun _=>⟨rfl,by show (1)*64≤140737488355328;(try simp only[List.length_take,List.length_drop]);omega⟩,?_⟩
   intro n20 h20;conv=>cbv
   intro n12 h12;conv=>cbv
   refine⟨fun _=>i64 (by omega),?_⟩
   refine⟨X.length-(i'+1),?_,?_⟩
   ·omega
   rw[hJ0]
   exact .inr ⟨_,n20,i'+1,n12,rfl,rfl,⟨⟨by omega⟩,by omega,h20⟩,by rw[rps_take_succ hqm,hi',←hz18.rp];rfl,rfl⟩
 ·conv=>cbv
  have ei:=hi.eq
  have hol:o.length≤X.length:=by rw[hinv,rps,List.length_map,List.length_take,List.length_map];omega
  intro n9 h9;have e9:=h9.eq;have f9:=h9.le;conv=>cbv
  intro n10 h10;conv=>cbv
  cases n10 <;> conv=>cbv
  ·have k10:=lss_f h10
   exact fA ⟨⟨rfl,.inl ⟨_,rfl,by omega,congrArg _ (by rw[hZ,hmm,hinv,List.drop_zero,List.take_length,List.take_of_length_le (by rw[List.length_map];omega)])⟩,trivial⟩,trivial⟩ rfl (by simp)
  ·have k10:=lss_t h10
   refine .inr ?_
   obtain⟨x16,hx16⟩:=get_ex (l:=X) (i:=i') (by omega)
   refine⟨x16,fun _=>⟨by omega,by rw[show (i).toNat=i' by omega];exact hx16⟩,?_⟩
   try conv=>cbv
   obtain⟨q,hq,hqi,hqe⟩:=get_rq hX hx16
   have hqm:(xs.map (- ·))[i']? =some (-q):=by rw[List.getElem?_map,hqi];rfl
   obtain⟨zb18,zl18,yb18,yl18,hz18⟩:=isR_ex (-q)
   refine cA hE (YRNeg_ok hq rfl hz18) ?_
   try conv=>cbv
   refine⟨[((zb18,zl18),(yb18,yl18))],fun _=>⟨rfl,by decide,rfl,⟨rfl,by first | exact⟨rfl,trivial⟩ | exact⟨rfl,rfl,trivial⟩ | exact⟨rfl,rfl,rfl,rfl,trivial⟩ | simp[allC,leC,cells],trivial⟩⟩,.inr ?_⟩
   try conv=>cbv
   refine .inl ⟨[((zb18,zl18),(yb18,yl18))],fun _=>⟨rfl,hmm,rfl,by show (o.length+1)*64≤140737488355328;(try simp only[List.length_take,List.length_drop]);omega⟩,?_⟩
   intro (l20:LR) n20 ql20;have hl20:l20=(o:LR)++([((zb18,zl18),(yb18,yl18))]:LR):=ql20.1;have hn20:n20=List.length (α:=(el tRat)) l20:=ql20.2;conv=>cbv
   intro n12 h12;conv=>cbv
   refine⟨fun _=>i64 (by omega),?_⟩
   refine⟨X.length-(i'+1),?_,?_⟩
   ·omega
   rw[hJ0]
   exact .inr ⟨l20,n20,i'+1,n12,rfl,rfl,⟨⟨by omega⟩,by omega,hn20⟩,by rw[hl20,hinv,rps_take_succ hqm,←hz18.rp],rfl⟩
theorem YAdd_own {Y:LR} {ys:List Rat} (hX:X=rps xs) (hY:Y=rps ys) (hs:Smalls xs) (ht:Smalls ys) (hxy:ys.length=xs.length) (hl:xs.length≤1000000) (hZ:Z=rps (List.zipWith (· + ·) xs ys)) (hzn:zn=Z.length):CF 97 [.one (.sl (.sl tRat) T),.one (.sl tRat X),.one (.sl tRat Y)] (.one (.own tRat Z zn)):=by
 have hXl:X.length=xs.length:=by rw[hX,List.length_map]
 have hYl:Y.length=ys.length:=by rw[hY,List.length_map]
 refine acall_fn Tryz.func97 (by kernel_rfl) rfl fun E hE=>?_
 conv=>cbv
 refine .inr ?_
 obtain⟨J0,hJ0⟩:∃J:List AV→List Blk→Nat→Prop,J=fun vs bl k=>(∃(i:Int),vs=[.one (.sl tRat X),.one (.sl tRat Y),.one .nil,.one (.int .i64 i)]∧bl=[.dead 0]∧NatIs i 0∧k=X.length)∨
  (∃(o:LR) (mm i':Nat) (i:Int),vs=[.one (.sl tRat X),.one (.sl tRat Y),.one (.lsl tRat 26 0 0 mm),.one (.int .i64 i)]∧bl=[.arr 0 tRat o]∧(NatIs i i'∧i'≤X.length∧mm=o.length)∧o=rps ((List.zipWith (· + ·) xs ys).take i')∧k=X.length-i'):=⟨_,rfl⟩
 refine⟨[1,2,7,8],[26],J0,⟨X.length,by rw[hJ0];exact .inl ⟨0,rfl,rfl,natIs 0,rfl⟩⟩,?_⟩
 intro vs bl kk0 hj;rw[hJ0] at hj
 rcases hj with⟨i,rfl,rfl,hi,hk0⟩ |⟨o,mm,i',i,rfl,rfl,⟨hi,hiL,hmm⟩,hinv,hk0⟩
 ·conv=>cbv
  have ei:=hi.eq
  obtain⟨i',hi'⟩:∃z:Nat,z=0:=⟨_,rfl⟩
  intro n11 h11;have e11:=h11.eq;have f11:=h11.le;conv=>cbv
  intro n12 h12;conv=>cbv
  cases n12 <;> conv=>cbv
  ·have k12:=lss_f h12
   have hz0:Z=[]:=by rw[hZ,show xs=[] from List.eq_nil_of_length_eq_zero (by omega)];rfl
   exact fA ⟨⟨rfl,.inr (.inr ⟨_,own_eq (hz0) (by rw[hzn,hz0];rfl)⟩),trivial⟩,trivial⟩ rfl (by simp)
  ·have k12:=lss_t h12
   refine .inr ?_
   obtain⟨x18,hx18⟩:=get_ex (l:=X) (i:=i') (by omega)
   refine⟨x18,fun _=>⟨by omega,by rw[show (i).toNat=i' by omega];exact hx18⟩,?_⟩
   try conv=>cbv
   obtain⟨x22,hx22⟩:=get_ex (l:=Y) (i:=i') (by omega)
   refine⟨x22,fun _=>⟨by omega,by rw[show (i).toNat=i' by omega];exact hx22⟩,?_⟩
   try conv=>cbv
   obtain⟨p,hp,hpi,hsp⟩:=get_rp hX hs hx18
   obtain⟨q,hq,hqi,hsq⟩:=get_rp hY ht hx22
   have hqm:(List.zipWith (· + ·) xs ys)[i']? =some (p+q):=by rw[List.getElem?_zipWith,hpi,hqi]
   obtain⟨zb24,zl24,yb24,yl24,hz24⟩:=isR_ex (p+q)
   refine cA hE (YRAdd_ok hp hq hsp hsq rfl hz24) ?_
   try conv=>cbv
   refine⟨[((zb24,zl24),(yb24,yl24))],fun _=>⟨rfl,by decide,rfl,⟨rfl,by first | exact⟨rfl,trivial⟩ | exact⟨rfl,rfl,trivial⟩ | exact⟨rfl,rfl,rfl,rfl,trivial⟩ | simp[allC,leC,cells],trivial⟩⟩,.inr ?_⟩
   try conv=>cbv
   refine .inl ⟨[((zb24,zl24),(yb24,yl24))],fun _=>⟨rfl,by show (1)*64≤140737488355328;(try simp only[List.length_take,List.length_drop]);omega⟩,?_⟩
   intro n26 h26;conv=>cbv
   refine⟨fun _=>rfl,?_⟩
   intro n14 h14;conv=>cbv
   refine⟨fun _=>i64 (by omega),?_⟩
   refine⟨X.length-(i'+1),?_,?_⟩
   ·omega
   rw[hJ0]
   exact .inr ⟨_,n26,i'+1,n14,rfl,rfl,⟨⟨by omega⟩,by omega,h26⟩,by rw[rps_take_succ hqm,hi',←hz24.rp];rfl,rfl⟩
 ·conv=>cbv
  have ei:=hi.eq
  have hol:o.length≤X.length:=by rw[hinv,rps,List.length_map,List.length_take,List.length_zipWith];omega
  intro n11 h11;have e11:=h11.eq;have f11:=h11.le;conv=>cbv
  intro n12 h12;conv=>cbv
  cases n12 <;> conv=>cbv
  ·have k12:=lss_f h12
   have hfin:Z=o:=by rw[hZ,hinv,List.take_of_length_le (by rw[List.length_zipWith];omega)]
   exact fA ⟨⟨rfl,.inr (.inl ⟨_,_,by decide,rfl,rfl,hmm,rfl,own_eq (hfin) (by rw[hzn,hfin])⟩),trivial⟩,trivial⟩ rfl (by simp)
  ·have k12:=lss_t h12
   refine .inr ?_
   obtain⟨x18,hx18⟩:=get_ex (l:=X) (i:=i') (by omega)
   refine⟨x18,fun _=>⟨by omega,by rw[show (i).toNat=i' by omega];exact hx18⟩,?_⟩
   try conv=>cbv
   obtain⟨x22,hx22⟩:=get_ex (l:=Y) (i:=i') (by omega)
   refine⟨x22,fun _=>⟨by omega,by rw[show (i).toNat=i' by omega];exact hx22⟩,?_⟩
   try conv=>cbv
   obtain⟨p,hp,hpi,hsp⟩:=get_rp hX hs hx18
   obtain⟨q,hq,hqi,hsq⟩:=get_rp hY ht hx22
   have hqm:(List.zipWith (· + ·) xs ys)[i']? =some (p+q):=by rw[List.getElem?_zipWith,hpi,hqi]
   obtain⟨zb24,zl24,yb24,yl24,hz24⟩:=isR_ex (p+q)
   refine cA hE (YRAdd_ok hp hq hsp hsq rfl hz24) ?_
   try conv=>cbv
   refine⟨[((zb24,zl24),(yb24,yl24))],fun _=>⟨rfl,by decide,rfl,⟨rfl,by first | exact⟨rfl,trivial⟩ | exact⟨rfl,rfl,trivial⟩ | exact⟨rfl,rfl,rfl,rfl,trivial⟩ | simp[allC,leC,cells],trivial⟩⟩,.inr ?_⟩
   try conv=>cbv
   refine .inl ⟨[((zb24,zl24),(yb24,yl24))],fun _=>⟨rfl,hmm,rfl,by show (o.length+1)*64≤140737488355328;(try simp only[List.length_take,List.length_drop]);omega⟩,?_⟩
   intro (l26:LR) n26 ql26;have hl26:l26=(o:LR)++([((zb24,zl24),(yb24,yl24))]:LR):=ql26.1;have hn26:n26=List.length (α:=(el tRat)) l26:=ql26.2;conv=>cbv
   refine⟨fun _=>rfl,?_⟩
   intro n14 h14;conv=>cbv
   refine⟨fun _=>i64 (by omega),?_⟩
   refine⟨X.length-(i'+1),?_,?_⟩
   ·omega
   rw[hJ0]
   exact .inr ⟨l26,n26,i'+1,n14,rfl,rfl,⟨⟨by omega⟩,by omega,hn26⟩,by rw[hl26,hinv,rps_take_succ hqm,←hz24.rp],rfl⟩
end Go.Abs
