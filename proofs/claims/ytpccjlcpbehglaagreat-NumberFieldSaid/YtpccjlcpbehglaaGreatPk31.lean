/- Part 32 of a proof. Conditions: each theorem's own. -/
import Derived.Test.YtpccjlcpbehglaaGreatPk30
set_option linter.all false
set_option maxHeartbeats 8000000
open Go.Proofs
namespace Go.Abs
open Go.RowKit
variable {B X Z o:LR} {i n zn:Nat} {xs ys:List Rat}
theorem halves_ok {A:LR} (hA:A=X.take (X.length/2)) (hB:B=X.drop (X.length/2)):CF 183 [.one (.sl tRat X)] (.tup [(false,[.sl tRat A]),(false,[.sl tRat B])]):=by
 refine acall_fn Tryz.func183 (by kernel_rfl) rfl fun E hE=>?_
 conv=>cbv
 intro n6 h6;have e6:=h6.eq;have f6:=h6.le;conv=>cbv
 intro n7 h7;conv=>cbv
 refine⟨fun _=>⟨by omega,by omega,i64 (by omega)⟩,?_⟩
 intro m8 hm8;conv=>cbv
 refine⟨fun _=>⟨by omega,by omega⟩,?_⟩
 intro b8 hb8;conv=>cbv
 intro l8 hl8;conv=>cbv
 intro n11 h11;have e11:=h11.eq;have f11:=h11.le;conv=>cbv
 intro n12 h12;conv=>cbv
 refine⟨fun _=>⟨by omega,by omega,i64 (by omega)⟩,?_⟩
 intro m13 hm13;conv=>cbv
 refine⟨fun _=>⟨by omega,by omega⟩,?_⟩
 rintro a13 b13 ⟨ha13,hb13⟩;conv=>cbv
 intro l13 hl13;conv=>cbv
 refine⟨fun _=>rfl,?_⟩
 exact fA ⟨⟨rfl,congrArg _ (by rw[hA,hl8,List.drop_zero,show b8=X.length/2 by omega]),trivial⟩,⟨rfl,congrArg _ (by rw[hB,hl13,hb13,hm13,List.take_length,show a13=X.length/2 by omega]),trivial⟩,trivial⟩ rfl (by simp)
theorem split_ok {X A:List LR} (h0:X≠[]) (hA:A=X.take (X.length-1)) (hB:X[X.length-1]? =some B):CF 182 [.one (.sl (.sl tRat) X)] (.tup [(false,[.sl (.sl tRat) A]),(false,[.sl tRat B])]):=by
 refine acall_fn Tryz.func182 (by kernel_rfl) rfl fun E hE=>?_
 conv=>cbv
 intro n6 h6;have e6:=h6.eq;have f6:=h6.le;conv=>cbv
 have h1:0<X.length:=List.length_pos_iff.2 h0
 intro n7 h7;conv=>cbv
 refine⟨fun _=>i64 (by omega),?_⟩
 intro m8 hm8;conv=>cbv
 refine⟨fun _=>⟨by omega,by omega⟩,?_⟩
 intro b8 hb8;conv=>cbv
 intro l8 hl8;conv=>cbv
 intro n11 h11;have e11:=h11.eq;have f11:=h11.le;conv=>cbv
 intro n12 h12;conv=>cbv
 refine⟨fun _=>i64 (by omega),?_⟩
 obtain⟨x13,hx13⟩:=get_ex (l:=X) (i:=(n12).toNat) (by omega)
 refine⟨x13,fun _=>⟨by omega,hx13⟩,?_⟩
 try conv=>cbv
 refine⟨fun _=>rfl,?_⟩
 exact fA ⟨⟨rfl,congrArg _ (by rw[hA,hl8,List.drop_zero,show b8=X.length-1 by omega]),trivial⟩,⟨rfl,congrArg _ (by rw[show n12.toNat=X.length-1 by omega] at hx13;exact (Option.some.inj (hB.symm.trans hx13))),trivial⟩,trivial⟩ rfl (by simp)
theorem hinv_n {Z:Nat→LR} (h:o.take i=Z i) (e:i=n):o.take n=Z n:=by rw[←e];exact h
theorem take_set_snoc {α:Type} {o:List α} {w:α} (h:i<o.length):(o.set i w).take (i+1)=o.take i++[w]:=by
 rw[List.take_succ_eq_append_getElem (by rw[List.length_set];exact h),List.take_set_of_le (Nat.le_refl _),List.getElem_set_self]
theorem zeros_own {a:Int} (ha:NatIs a n) (hn:n≤1000000) (hX:X=rps (List.replicate n 0)) (hzn:zn=X.length):CF 181 [.one (.int .i64 a)] (.one (.own tRat X zn)):=by
 have ea:=ha.eq
 refine acall_fn Tryz.func181 (by kernel_rfl) rfl fun E hE=>?_
 conv=>cbv
 refine⟨fun _=>⟨by omega,by omega,by show _*64≤140737488355328;omega⟩,?_⟩
 intro k6 (l6:LR) ql6;have hk6:=ql6.1;have hl6:l6=List.replicate k6 (((false,[]),(false,[])):el tRat):=ql6.2;have gl6:l6.length=k6:=by rw[hl6,List.length_replicate]
 conv=>cbv
 intro n8 h8;have e8:=h8.eq;conv=>cbv
 refine .inr ?_
 obtain⟨J0,hJ0⟩:∃J:List AV→List Blk→Nat→Prop,J=fun vs bl k=>∃(o:LR) (m i':Nat) (L i:Int),vs=[.one (.lsl tRat 6 0 0 m),.one (.int .i64 L),.one (.int .i64 i)]∧bl=[.arr 0 tRat o]∧(o.length=n∧m=n∧LenIs L n∧NatIs i i'∧i'≤n)∧o.take i'=rps (List.replicate i' 0)∧k=n-i':=⟨_,rfl⟩
 refine⟨[3,8,9],[6],J0,⟨n-0,by rw[hJ0];exact⟨l6,k6,0,n8,0,rfl,rfl,⟨by omega,by omega,⟨by omega,by omega⟩,natIs 0,by omega⟩,rfl,rfl⟩⟩,?_⟩
 intro vs bl kk0 hj;rw[hJ0] at hj
 obtain⟨o,m,i',L,i,rfl,rfl,⟨ho,hm,hL,hi,hiL⟩,hinv,hk0⟩:=hj
 conv=>cbv
 have eL:=hL.eq
 have ei:=hi.eq
 intro n10 h10;conv=>cbv
 cases n10 <;> conv=>cbv
 ·have k10:=lss_f h10
  have hfin:o=X:=by rw[hX,←hinv_n (Z:=fun i=>rps (List.replicate i 0)) hinv (by omega),List.take_of_length_le (by omega)]
  exact fA ⟨⟨rfl,.inr (.inl ⟨_,_,by decide,rfl,rfl,by omega,rfl,own_eq (hfin.symm) (by rw[hzn,←hfin])⟩),trivial⟩,trivial⟩ rfl (by simp)
 ·have k10:=lss_t h10
  refine .inr ?_
  obtain⟨zb14,zl14,yb14,yl14,hz14⟩:=isR_ex (((0:Int):Rat))
  refine cL hE (RFromInt_ok (by omega) rfl hz14) ⟨rfl,trivial⟩ ?_
  try conv=>cbv
  refine⟨fun _=>⟨by omega,by omega⟩,?_⟩
  intro j15 hj15;conv=>cbv
  refine⟨((zb14,zl14),(yb14,yl14)),fun _=>⟨by show _<List.length (α:=(el tRat)) o;(first | omega | (simp;omega)),by first | exact⟨rfl,trivial⟩ | exact⟨rfl,rfl,trivial⟩ | exact⟨rfl,rfl,rfl,rfl,trivial⟩ | simp[allC,leC,cells]⟩,?_⟩
  intro (l15:LR) (hl15:l15=List.set (α:=(el tRat)) o j15 (((zb14,zl14),(yb14,yl14))));have gl15:l15.length=o.length:=by rw[hl15,List.length_set]
  conv=>cbv
  intro n16 h16;conv=>cbv
  refine⟨fun _=>i64 (by omega),?_⟩
  refine⟨n-(i'+1),?_,?_⟩
  ·omega
  rw[hJ0]
  refine⟨l15,m,i'+1,L,n16,rfl,rfl,⟨by omega,by omega,hL,⟨by omega⟩,by omega⟩,?_,rfl⟩
  rw[hl15,show j15=i' by omega,take_set_snoc (by omega),hinv,List.replicate_succ',rps,rps,List.map_append,←hz14.rp];rfl
theorem get_rp {x:el tRat} (hX:X=rps xs) (hs:Smalls xs) (hx:X[i]? =some x):∃q,IsR q x.1.1 x.1.2 x.2.1 x.2.2∧xs[i]? =some q∧SmallQ q:=by
 rw[hX,rps,List.getElem?_map] at hx
 cases h:xs[i]? with
 | none=>rw[h] at hx;simp at hx
 | some q=>
  rw[h] at hx
  have e:x=rp q:=(Option.some.inj hx).symm
  exact⟨q,by rw[e];exact isR_rp q,rfl,hs q (List.mem_of_getElem? h)⟩
theorem rps_done (h:o.take i=rps (ys.take i)) (hn:i=n) (_ho:o.length=n) (hy:ys.length=n):rps ys=o.take n:=by
 rw[hn] at h;rw[h,←hy,List.take_length]
theorem rps_step {l:LR} {j:Nat} {q:Rat} {w:el tRat} (h:o.take i=rps (ys.take i)) (hi:i<o.length) (hj:j=i) (hl:l=o.set j w) (hq:ys[i]? =some q) (hw:rp q=w):l.take (i+1)=rps (ys.take (i+1)):=by
 have hy:i<ys.length:=getE hq
 rw[hl,hj,take_set_snoc hi,h,List.take_succ,hq,rps,rps,List.map_append,←hw];rfl
theorem neg_ok (hX:X=rps xs) (hs:Smalls xs) (hn:xs.length≤1000000) (hZ:Z=rps (xs.map (- ·))):CF 163 [.one (.sl tRat X)] (.one (.sl tRat Z)):=by
 refine acall_fn Tryz.func163 (by kernel_rfl) rfl fun E hE=>?_
 conv=>cbv
 have hXl:X.length=xs.length:=by rw[hX,List.length_map]
 intro n7 h7;have e7:=h7.eq;have f7:=h7.le;conv=>cbv
 refine⟨fun _=>⟨by omega,by omega,by show _*64≤140737488355328;omega⟩,?_⟩
 intro k8 (l8:LR) ql8;have hk8:=ql8.1;have hl8:l8=List.replicate k8 (((false,[]),(false,[])):el tRat):=ql8.2;have gl8:l8.length=k8:=by rw[hl8,List.length_replicate]
 conv=>cbv
 intro n10 h10;have e10:=h10.eq;have f10:=h10.le;conv=>cbv
 refine .inr ?_
 obtain⟨J0,hJ0⟩:∃J:List AV→List Blk→Nat→Prop,J=fun vs bl k=>∃(o:LR) (m i':Nat) (L i:Int),vs=[.one (.lsl tRat 8 0 0 m),.one (.sl tRat X),.one (.int .i64 L),.one (.int .i64 i)]∧bl=[.arr 0 tRat o]∧(o.length=X.length∧m=X.length∧LenIs L X.length∧NatIs i i'∧i'≤X.length)∧o.take i'=rps ((xs.map (- ·)).take i')∧k=X.length-i':=⟨_,rfl⟩
 refine⟨[3,9,10,11],[8],J0,⟨X.length-0,by rw[hJ0];exact⟨l8,k8,0,n10,0,rfl,rfl,⟨by omega,by omega,h10,natIs 0,by omega⟩,rfl,rfl⟩⟩,?_⟩
 intro vs bl kk0 hj;rw[hJ0] at hj
 obtain⟨o,m,i',L,i,rfl,rfl,⟨ho,hm,hL,hi,hiL⟩,hinv,hk0⟩:=hj
 conv=>cbv
 have eL:=hL.eq
 have ei:=hi.eq
 intro n12 h12;conv=>cbv
 cases n12 <;> conv=>cbv
 ·have k12:=lss_f h12
  exact fA ⟨⟨rfl,.inl ⟨_,rfl,by omega,congrArg _ (by rw[hZ,hm,List.drop_zero];exact rps_done hinv (by omega) (by omega) (by rw[List.length_map];omega))⟩,trivial⟩,trivial⟩ rfl (by simp)
 ·have k12:=lss_t h12
  refine .inr ?_
  obtain⟨x14,hx14⟩:=get_ex (l:=X) (i:=i') (by omega)
  refine⟨x14,fun _=>⟨by omega,by rw[show (i).toNat=i' by omega];exact hx14⟩,?_⟩
  try conv=>cbv
  obtain⟨q,hq,hqi,hsq⟩:=get_rp hX hs hx14
  obtain⟨zb19,zl19,yb19,yl19,hz19⟩:=isR_ex (-q)
  refine cA hE (RNeg_ok hq hsq rfl hz19) ?_
  try conv=>cbv
  refine⟨fun _=>⟨by omega,by omega⟩,?_⟩
  intro j20 hj20;conv=>cbv
  refine⟨((zb19,zl19),(yb19,yl19)),fun _=>⟨by show _<List.length (α:=(el tRat)) o;(first | omega | (simp;omega)),by first | exact⟨rfl,trivial⟩ | exact⟨rfl,rfl,trivial⟩ | exact⟨rfl,rfl,rfl,rfl,trivial⟩ | simp[allC,leC,cells]⟩,?_⟩
  intro (l20:LR) (hl20:l20=List.set (α:=(el tRat)) o j20 (((zb19,zl19),(yb19,yl19))));have gl20:l20.length=o.length:=by rw[hl20,List.length_set]
  conv=>cbv
  intro n21 h21;conv=>cbv
  refine⟨fun _=>i64 (by omega),?_⟩
  refine⟨X.length-(i'+1),?_,?_⟩
  ·omega
  rw[hJ0]
  refine⟨l20,m,i'+1,L,n21,rfl,rfl,⟨by omega,by omega,hL,⟨by omega⟩,by omega⟩,?_,rfl⟩
  exact rps_step hinv (by omega) (by omega) hl20 (by rw[List.getElem?_map,hqi];rfl) hz19.rp
theorem add_own {Y:LR} (hX:X=rps xs) (hY:Y=rps ys) (hs:Smalls xs) (ht:Smalls ys) (hxy:ys.length=xs.length) (hn:xs.length≤1000000) (hZ:Z=rps (List.zipWith (· + ·) xs ys)) (hzn:zn=Z.length):CF 159 [.one (.sl tRat X),.one (.sl tRat Y)] (.one (.own tRat Z zn)):=by
 refine acall_fn Tryz.func159 (by kernel_rfl) rfl fun E hE=>?_
 conv=>cbv
 have hXl:X.length=xs.length:=by rw[hX,List.length_map]
 have hYl:Y.length=xs.length:=by rw[hY,List.length_map,hxy]
 intro n8 h8;have e8:=h8.eq;have f8:=h8.le;conv=>cbv
 refine⟨fun _=>⟨by omega,by omega,by show _*64≤140737488355328;omega⟩,?_⟩
 intro k9 (l9:LR) ql9;have hk9:=ql9.1;have hl9:l9=List.replicate k9 (((false,[]),(false,[])):el tRat):=ql9.2;have gl9:l9.length=k9:=by rw[hl9,List.length_replicate]
 conv=>cbv
 intro n11 h11;have e11:=h11.eq;conv=>cbv
 refine .inr ?_
 obtain⟨J0,hJ0⟩:∃J:List AV→List Blk→Nat→Prop,J=fun vs bl k=>∃(o:LR) (m i':Nat) (L i:Int),vs=[.one (.sl tRat X),.one (.sl tRat Y),.one (.lsl tRat 9 0 0 m),.one (.int .i64 L),.one (.int .i64 i)]∧bl=[.arr 0 tRat o]∧(o.length=X.length∧m=X.length∧NatIs L X.length∧NatIs i i'∧i'≤X.length)∧o.take i'=rps ((List.zipWith (· + ·) xs ys).take i')∧k=X.length-i':=⟨_,rfl⟩
 refine⟨[0,1,5,11,12],[9],J0,⟨X.length-0,by rw[hJ0];exact⟨l9,k9,0,n11,0,rfl,rfl,⟨by omega,by omega,⟨by omega⟩,natIs 0,by omega⟩,rfl,rfl⟩⟩,?_⟩
 intro vs bl kk0 hj;rw[hJ0] at hj
 obtain⟨o,m,i',L,i,rfl,rfl,⟨ho,hm,hL,hi,hiL⟩,hinv,hk0⟩:=hj
 conv=>cbv
 have eL:=hL.eq
 have ei:=hi.eq
 intro n13 h13;conv=>cbv
 cases n13 <;> conv=>cbv
 ·have k13:=lss_f h13
  have hfin:rps (List.zipWith (· + ·) xs ys)=o.take X.length:=rps_done hinv (by omega) (by omega) (by rw[List.length_zipWith];omega)
  have hfin2:Z=o:=by rw[hZ,hfin,List.take_of_length_le (by omega)]
  exact fA ⟨⟨rfl,.inr (.inl ⟨_,_,by decide,rfl,rfl,by omega,rfl,own_eq (hfin2) (by rw[hzn,hfin2])⟩),trivial⟩,trivial⟩ rfl (by simp)
 ·have k13:=lss_t h13
  refine .inr ?_
  obtain⟨x19,hx19⟩:=get_ex (l:=X) (i:=i') (by omega)
  refine⟨x19,fun _=>⟨by omega,by rw[show (i).toNat=i' by omega];exact hx19⟩,?_⟩
  try conv=>cbv
  obtain⟨x23,hx23⟩:=get_ex (l:=Y) (i:=i') (by omega)
  refine⟨x23,fun _=>⟨by omega,by rw[show (i).toNat=i' by omega];exact hx23⟩,?_⟩
  try conv=>cbv
  obtain⟨p,hp,hpi,hsp⟩:=get_rp hX hs hx19
  obtain⟨q,hq,hqi,hsq⟩:=get_rp hY ht hx23
  obtain⟨zb25,zl25,yb25,yl25,hz25⟩:=isR_ex (p+q)
  refine cA hE (RAdd_ok hp hq hsp hsq rfl hz25) ?_
  try conv=>cbv
  refine⟨fun _=>⟨by omega,by omega⟩,?_⟩
  intro j26 hj26;conv=>cbv
  refine⟨((zb25,zl25),(yb25,yl25)),fun _=>⟨by show _<List.length (α:=(el tRat)) o;(first | omega | (simp;omega)),by first | exact⟨rfl,trivial⟩ | exact⟨rfl,rfl,trivial⟩ | exact⟨rfl,rfl,rfl,rfl,trivial⟩ | simp[allC,leC,cells]⟩,?_⟩
  intro (l26:LR) (hl26:l26=List.set (α:=(el tRat)) o j26 (((zb25,zl25),(yb25,yl25))));have gl26:l26.length=o.length:=by rw[hl26,List.length_set]
  conv=>cbv
  refine⟨fun _=>rfl,?_⟩
  intro n27 h27;conv=>cbv
  refine⟨fun _=>i64 (by omega),?_⟩
  refine⟨X.length-(i'+1),?_,?_⟩
  ·omega
  rw[hJ0]
  refine⟨l26,m,i'+1,L,n27,rfl,rfl,⟨by omega,by omega,hL,⟨by omega⟩,by omega⟩,?_,rfl⟩
  exact rps_step hinv (by omega) (by omega) hl26 (by rw[List.getElem?_zipWith,hpi,hqi]) hz25.rp
end Go.Abs
namespace Go.Abs
open Go.RowKit
def idxF (p:el tRat→Bool):Nat→LR→Int
 | _,[]=> -1
 | i,x::l=>if p x=true then i else idxF p (i+1) l
variable {Y:LR} {b1 b2 c:Bool} {g:FuncId} {i:Nat} {l1 l2:List UInt32} {ys:List Rat}
theorem idx_drop {X:LR} {x:el tRat} (h:X[i]? =some x):X.drop i=x::X.drop (i+1):=by
 have hi:=getE h
 rw[List.drop_eq_getElem_cons hi]
 rw[List.getElem?_eq_getElem hi] at h
 rw[Option.some.inj h]
theorem idx_miss {X:LR} {p:el tRat→Bool} {x:el tRat} (h:X[i]? =some x) (hp:p x=false):idxF p i (X.drop i)=idxF p (i+1) (X.drop (i+1)):=by
 rw[idx_drop h,idxF,hp];rfl
theorem idx_hit {X:LR} {p:el tRat→Bool} {x:el tRat} (h:X[i]? =some x) (hp:p x=true):idxF p i (X.drop i)=i:=by
 rw[idx_drop h,idxF,if_pos hp]
theorem IndexFunc_ok {X:LR} {p:el tRat→Bool} {r:Int} (hg:∀x∈X,CF g [.agg (cells tRat x)] (.one (.bool (p x)))) (hr:r=idxF p 0 X):CF 227 [.one (.sl tRat X),.one (.fn g)] (.one (.int .i64 r)):=by
 refine acall_fn Tryz.func227 (by kernel_rfl) rfl fun E hE=>?_
 conv=>cbv
 intro n7 h7;have e7:=h7.eq;have f7:=h7.le;conv=>cbv
 refine .inr ?_
 obtain⟨J0,hJ0⟩:∃J:List AV→List Blk→Nat→Prop,J=fun vs bl k=>∃(i':Nat) (L i:Int),vs=[.one (.sl tRat X),.one (.fn g),.one (.int .i64 L),.one (.int .i64 i)]∧(LenIs L X.length∧NatIs i i'∧i'≤X.length)∧r=idxF p i' (X.drop i')∧k=X.length-i':=⟨_,rfl⟩
 refine⟨[0,1,7,8],[],J0,⟨X.length-0,by rw[hJ0];exact⟨0,n7,0,rfl,⟨h7,natIs 0,by omega⟩,hr,rfl⟩⟩,?_⟩
 intro vs bl kk0 hj;rw[hJ0] at hj
 obtain⟨i',L,i,rfl,⟨hL,hi,hiL⟩,hinv,hk0⟩:=hj
 conv=>cbv
 have eL:=hL.eq
 have ei:=hi.eq
 intro n9 h9;conv=>cbv
 cases n9 <;> conv=>cbv
 ·have k9:=lss_f h9
  exact fA ⟨⟨rfl,congrArg _ (by rw[hinv,List.drop_eq_nil_of_le (by omega)];rfl),trivial⟩,trivial⟩ rfl (by simp)
 ·have k9:=lss_t h9
  refine .inr ?_
  obtain⟨x14,hx14⟩:=get_ex (l:=X) (i:=i') (by omega)
  refine⟨x14,fun _=>⟨by omega,by rw[show (i).toNat=i' by omega];exact hx14⟩,?_⟩
  try conv=>cbv
  obtain⟨b16,hb16⟩:∃z:Bool,z=p x14:=⟨_,rfl⟩
  refine .inl ⟨[.agg [.bool x14.1.1,.sl .u32 x14.1.2,.bool x14.2.1,.sl .u32 x14.2.2]],.one (.bool b16),fun _=>⟨⟨rfl,rfl,rfl,rfl,trivial⟩,trivial⟩,fun _=>useC hE ((by rw[hb16];exact hg x14 (List.mem_of_getElem? hx14))),?_⟩
  try conv=>cbv
  cases b16 <;> conv=>cbv
  ·intro n18 h18;conv=>cbv
   refine⟨fun _=>i64 (by omega),?_⟩
   refine⟨X.length-(i'+1),?_,?_⟩
   ·omega
   rw[hJ0]
   refine⟨i'+1,L,n18,rfl,⟨hL,⟨by omega⟩,by omega⟩,?_,rfl⟩
   rw[hinv,idx_miss hx14 hb16.symm]
  ·exact fA ⟨⟨rfl,congrArg _ (by rw[hinv,idx_hit hx14 hb16.symm];omega),trivial⟩,trivial⟩ rfl (by simp)
theorem idx_any (p:el tRat→Bool):∀(X:LR) (i:Nat),decide (idxF p i X ≥ 0)=X.any p
 | [],i=>rfl
 | x::X,i=>by
  rw[idxF,List.any_cons]
  split
  ·rename_i h;rw[h,Bool.true_or];exact decide_eq_true (by omega)
  ·rename_i h;rw[Bool.eq_false_iff.2 h,Bool.false_or];exact idx_any p X (i+1)
theorem ContainsFunc_ok {X:LR} {p:el tRat→Bool} (hg:∀x∈X,CF g [.agg (cells tRat x)] (.one (.bool (p x)))) (hc:c=X.any p):CF 196 [.one (.sl tRat X),.one (.fn g)] (.one (.bool c)):=by
 refine acall_fn Tryz.func196 (by kernel_rfl) rfl fun E hE=>?_
 conv=>cbv
 obtain⟨r7,hr7⟩:∃z:Int,z=idxF p 0 X:=⟨_,rfl⟩
 refine cA hE (IndexFunc_ok hg hr7) ?_
 try conv=>cbv
 intro n8 h8;conv=>cbv
 exact fA ⟨⟨rfl,congrArg _ (by rw[hc,h8,hr7];exact (idx_any p X 0).symm),trivial⟩,trivial⟩ rfl (by simp)
theorem sgnQ_ne (q:Rat):decide (q≠0)=(sgnQ q !=0):=by
 have h:= @Rat.num_eq_zero q
 rw[Bool.eq_iff_iff,decide_eq_true_eq,bne_iff_ne]
 rcases sgnQ_cases q with⟨a,e⟩ |⟨a,e⟩ |⟨a,e⟩ <;> rw[e]
 ·exact⟨fun _=>by decide,fun _ hq=>by rw[h.2 hq] at a;omega⟩
 ·exact⟨fun hq=>absurd (h.1 a) hq,fun hq=>absurd rfl hq⟩
 ·exact⟨fun _=>by decide,fun _ hq=>by rw[h.2 hq] at a;omega⟩
theorem nonzero_ok {q:Rat} (hx:IsR q b1 l1 b2 l2) (hc:c=decide (q≠0)):CF 197 [.agg [.bool b1,.sl .u32 l1,.bool b2,.sl .u32 l2]] (.one (.bool c)):=by
 refine acall_fn Tryz.func197 (by kernel_rfl) rfl fun E hE=>?_
 conv=>cbv
 obtain⟨r4,hr4⟩:∃z:Int,z=sgnQ q:=⟨_,rfl⟩
 refine cA hE (RSign_ok hx hr4) ?_
 try conv=>cbv
 intro n5 h5;conv=>cbv
 exact fA ⟨⟨rfl,congrArg _ (by rw[hc,h5,hr4];exact sgnQ_ne q),trivial⟩,trivial⟩ rfl (by simp)
theorem rp_nz (q:Rat):decide (q≠0)= !(rp q).1.2.isEmpty:=by
 have h:(rp q).1.2=limbs q.num.natAbs:=rfl
 rw[h,Bool.eq_iff_iff,decide_eq_true_eq,Bool.not_eq_true',List.isEmpty_eq_false_iff,Ne,Ne,limbs_eq_nil,←Rat.num_eq_zero]
 omega
theorem rps_any (xs:List Rat):(rps xs).any (fun x=> !x.1.2.isEmpty)= !decide (∀q∈xs,q=0):=by
 induction xs with
 | nil=>rfl
 | cons q xs ih=>
  rw[rps,List.map_cons,List.any_cons,←rp_nz,←rps,ih]
  by_cases h:q=0 <;> simp[h]
theorem test_ok {X:LR} {xs:List Rat} (hX:X=rps xs):∀x∈X,CF 197 [.agg (cells tRat x)] (.one (.bool (!x.1.2.isEmpty))):=by
 intro x hx
 rw[hX] at hx
 obtain⟨q,_,rfl⟩:=List.mem_map.1 hx
 exact nonzero_ok (isR_rp q) (rp_nz q).symm
theorem Zero_ok {X:LR} {xs:List Rat} (hX:X=rps xs) (hc:c=decide (∀q∈xs,q=0)):CF 152 [.one (.sl tRat X)] (.one (.bool c)):=by
 refine acall_fn Tryz.func152 (by kernel_rfl) rfl fun E hE=>?_
 conv=>cbv
 obtain⟨b4,hb4⟩:∃z:Bool,z=X.any (fun x=> !x.1.2.isEmpty):=⟨_,rfl⟩
 refine cA hE (ContainsFunc_ok (test_ok hX) hb4) ?_
 try conv=>cbv
 intro n5 h5;conv=>cbv
 exact fA ⟨⟨rfl,congrArg _ (by rw[hc,h5,hb4,hX,rps_any,Bool.not_not]),trivial⟩,trivial⟩ rfl (by simp)
theorem invalid_ok (hc:c= !validQ b1 l1 b2 l2) (s1:l1.length≤17592186042000) (s2:l2.length≤17592186042000):CF 202 [.agg [.bool b1,.sl .u32 l1,.bool b2,.sl .u32 l2]] (.one (.bool c)):=by
 refine acall_fn Tryz.func202 (by kernel_rfl) rfl fun E hE=>?_
 conv=>cbv
 obtain⟨b4,hb4⟩:∃z:Bool,z=validQ b1 l1 b2 l2:=⟨_,rfl⟩
 refine cA hE (RValid_ok hb4 s1 s2) ?_
 try conv=>cbv
 intro n5 h5;conv=>cbv
 exact fA ⟨⟨rfl,congrArg _ (by rw[hc,h5,hb4]),trivial⟩,trivial⟩ rfl (by simp)
theorem bad_ok {X:LR} {xs:List Rat} (hX:X=rps xs) (hs:Smalls xs):∀x∈X,CF 202 [.agg (cells tRat x)] (.one (.bool false)):=by
 intro x hx
 rw[hX] at hx
 obtain⟨q,hq,rfl⟩:=List.mem_map.1 hx
 have h:=(isR_rp q).small (hs q hq)
 exact invalid_ok (by rw[validQ_iff.2 ⟨q,isR_rp q⟩];rfl) (by omega) (by omega)
theorem any_false (X:LR):false=X.any (fun _=>false):=by
 induction X with
 | nil=>rfl
 | cons x X ih=>rw[List.any_cons,←ih];rfl
theorem numbers_ok {X:LR} {xs:List Rat} {k:Int} {n:Nat} (hX:X=rps xs) (hs:Smalls xs) (hk:NatIs k n) (hc:c=decide (xs.length=n)):CF 161 [.one (.sl tRat X),.one (.int .i64 k)] (.one (.bool c)):=by
 have ek:=hk.eq
 refine acall_fn Tryz.func161 (by kernel_rfl) rfl fun E hE=>?_
 conv=>cbv
 intro n6 h6;have e6:=h6.eq;have f6:=h6.le;conv=>cbv
 intro n8 h8;conv=>cbv
 cases n8 <;> conv=>cbv
 ·have k8:=eql_f h8
  exact fA ⟨⟨rfl,congrArg _ (by have hXl:X.length=xs.length:=(by rw[hX,List.length_map]);rw[hc];exact decide_eq_false (by omega)),trivial⟩,trivial⟩ rfl (by simp)
 ·have k8:=eql_t h8
  refine cA hE (ContainsFunc_ok (p:=fun _=>false) (bad_ok hX hs) (any_false X)) ?_
  try conv=>cbv
  intro n12 h12;conv=>cbv
  exact fA ⟨⟨rfl,congrArg _ (by have hXl:X.length=xs.length:=(by rw[hX,List.length_map]);rw[hc,h12];exact decide_eq_true (by omega)),trivial⟩,trivial⟩ rfl (by simp)
theorem shl_one {n i:Int} {k:Nat} (h:n=IntKind.i64.wrap (1*2^min i.toNat IntKind.i64.bits)) (e:i=k) (hk:k≤20):NatIs n (2^k):=by
 have h1:=wrap_i64 h
 have h2:2^k≤2^20:=Nat.pow_le_pow_right (by decide) hk
 have h3:((2:Int)^min i.toNat IntKind.i64.bits)=((2^k:Nat):Int):=by
  rw[e,Int.toNat_natCast,Nat.min_eq_left (Nat.le_trans hk (by decide))];simp
 rw[h3,Int.one_mul] at h1
 generalize 2^k=Q at*
 exact⟨by omega⟩
theorem get_rps {X:List LR} {xs:List (List Rat)} {x:LR} (hX:X=xs.map rps) (hx:X[i]? =some x):∃y,x=rps y∧xs[i]? =some y:=by
 rw[hX,List.getElem?_map] at hx
 cases h:xs[i]? with
 | none=>rw[h] at hx;simp at hx
 | some q=>rw[h] at hx;exact⟨q,(Option.some.inj hx).symm,rfl⟩
theorem radicands_ok {X:List LR} {xs:List (List Rat)} (hX:X=xs.map rps) (ht:Tow xs) (hc:c=true):CF 160 [.one (.sl (.sl tRat) X)] (.one (.bool c)):=by
 refine acall_fn Tryz.func160 (by kernel_rfl) rfl fun E hE=>?_
 conv=>cbv
 have hXl:X.length=xs.length:=by rw[hX,List.length_map]
 have hl:=ht.height
 intro n6 h6;have e6:=h6.eq;have f6:=h6.le;conv=>cbv
 refine .inr ?_
 obtain⟨J0,hJ0⟩:∃J:List AV→List Blk→Nat→Prop,J=fun vs bl k=>∃(i':Nat) (L i:Int),vs=[.one (.sl (.sl tRat) X),.one (.int .i64 L),.one (.int .i64 i)]∧(LenIs L X.length∧NatIs i i'∧i'≤X.length)∧k=X.length-i':=⟨_,rfl⟩
 refine⟨[5,6,7],[],J0,⟨X.length-0,by rw[hJ0];exact⟨0,n6,0,rfl,⟨h6,natIs 0,by omega⟩,rfl⟩⟩,?_⟩
 intro vs bl kk0 hj;rw[hJ0] at hj
 obtain⟨i',L,i,rfl,⟨hL,hi,hiL⟩,hk0⟩:=hj
 conv=>cbv
 have eL:=hL.eq
 have ei:=hi.eq
 intro n8 h8;conv=>cbv
 cases n8 <;> conv=>cbv
 ·have k8:=lss_f h8
  exact fA ⟨⟨rfl,congrArg _ (hc),trivial⟩,trivial⟩ rfl (by simp)
 ·have k8:=lss_t h8
  refine .inr ?_
  obtain⟨x10,hx10⟩:=get_ex (l:=X) (i:=i') (by omega)
  refine⟨x10,fun _=>⟨by omega,by rw[show (i).toNat=i' by omega];exact hx10⟩,?_⟩
  try conv=>cbv
  intro n14 h14;conv=>cbv
  refine⟨fun _=>by omega,?_⟩
  obtain⟨x,hxe,hxi⟩:=get_rps hX hx10
  refine cL (r:= .one (.bool true)) hE (numbers_ok hxe (ht.small x (List.mem_of_getElem? hxi)) (shl_one h14 ei (by omega)) (by rw[ht.form i' x hxi];exact (decide_eq_true rfl).symm)) ⟨rfl,rfl,trivial⟩ ?_
  try conv=>cbv
  intro n16 h16;conv=>cbv
  cases n16 <;> conv=>cbv
  ·have k16:=not_f h16
   intro n17 h17;conv=>cbv
   refine⟨fun _=>i64 (by omega),?_⟩
   refine⟨X.length-(i'+1),?_,?_⟩
   ·omega
   rw[hJ0]
   exact⟨i'+1,L,n17,rfl,⟨hL,⟨by omega⟩,by omega⟩,rfl⟩
  ·have k16:=not_t h16
   exact absurd k16 (by decide)
theorem Formed_ok {X:List LR} {xs:List (List Rat)} (hX:X=xs.map rps) (ht:Tow xs) (hY:Y=rps ys) (hs:Smalls ys) (hc:c=decide (ys.length=2^xs.length)):CF 100 [.one (.sl (.sl tRat) X),.one (.sl tRat Y)] (.one (.bool c)):=by
 refine acall_fn Tryz.func100 (by kernel_rfl) rfl fun E hE=>?_
 conv=>cbv
 have hXl:X.length=xs.length:=by rw[hX,List.length_map]
 have hl:=ht.height
 refine cA hE (radicands_ok hX ht rfl) ?_
 try conv=>cbv
 intro n10 h10;have e10:=h10.eq;have f10:=h10.le;conv=>cbv
 intro n11 h11;conv=>cbv
 refine⟨fun _=>by omega,?_⟩
 obtain⟨b12,hb12⟩:∃z:Bool,z=decide (ys.length=2^xs.length):=⟨_,rfl⟩
 refine cL hE (numbers_ok hY hs (shl_one h11 (e10.trans (congrArg _ hXl)) (by omega)) hb12) ⟨rfl,rfl,trivial⟩ ?_
 try conv=>cbv
 exact fA ⟨⟨rfl,congrArg _ (hc.trans hb12.symm),trivial⟩,trivial⟩ rfl (by simp)
theorem formed_ok {X:List LR} {Z:LR} {xs:List (List Rat)} {zs:List Rat} (hX:X=xs.map rps) (ht:Tow xs) (hY:Y=rps ys) (hs:Smalls ys) (hyl:ys.length=2^xs.length) (hZ:Z=rps zs) (hs2:Smalls zs) (hzl:zs.length=2^xs.length):CF 128 [.one (.sl (.sl tRat) X),.one (.sl tRat Y),.one (.sl tRat Z)] (.one (.bool true)):=by
 refine acall_fn Tryz.func128 (by kernel_rfl) rfl fun E hE=>?_
 conv=>cbv
 have hXl:X.length=xs.length:=by rw[hX,List.length_map]
 have hl:=ht.height
 refine cA hE (Formed_ok hX ht hY hs (decide_eq_true hyl).symm) ?_
 try conv=>cbv
 intro n13 h13;have e13:=h13.eq;have f13:=h13.le;conv=>cbv
 intro n14 h14;conv=>cbv
 refine⟨fun _=>by omega,?_⟩
 refine cL hE (numbers_ok hZ hs2 (shl_one h14 (e13.trans (congrArg _ hXl)) (by omega)) (decide_eq_true hzl).symm) ⟨rfl,rfl,trivial⟩ ?_
 try conv=>cbv
 exact fA ⟨⟨rfl,rfl,trivial⟩,trivial⟩ rfl (by simp)
end Go.Abs
