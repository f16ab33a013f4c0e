/- Part 29 of a proof. Conditions: each theorem's own. -/
import Derived.Test.YtpccjlcpbehglaaGreatPk27
set_option linter.all false
set_option maxHeartbeats 8000000
open Go.Proofs
namespace Go.Abs
open Go.RowKit
variable {c n o:Nat} {l u z:List UInt32}
theorem set_seg {i k:Nat} {w:UInt32} (h:i+k<z.length):((z.set (i+k) w).drop i).take (k+1)=(z.drop i).take k++[w]:=by
 rw[List.drop_set,if_neg (by omega),Nat.add_sub_cancel_left,take_set_succ (by rw[List.length_drop];omega)]
theorem Ytrim_Bo {m:Nat} (hn:o+n≤l.length) (hl:l.length≤140737488355328) (hm:m=(trimL ((l.drop o).take n)).length):BCall Tryz.prog 213 (.lsl .u32 0 0 o n) (.arr 0 .u32 l) [] (.one (.lsl .u32 0 0 o m)) (.arr 0 .u32 l):=by
 refine bcall_fn Tryz.func213 (by kernel_rfl) rfl fun E hE=>?_
 conv=>cbv
 refine .inr ?_
 obtain⟨J0,hJ0⟩:∃J:List AV→List Blk→Nat→Prop,J=fun vs bl k=>∃q:Nat,vs=[.one (.lsl .u32 0 0 o q)]∧bl=[.arr 0 .u32 l]∧o+q≤l.length∧m=(trimL ((l.drop o).take q)).length∧k=q:=⟨_,rfl⟩
 refine⟨[0],[0],J0,⟨n,by rw[hJ0];exact⟨n,rfl,rfl,hn,hm,rfl⟩⟩,?_⟩
 intro vs bl kk0 hj;rw[hJ0] at hj
 obtain⟨q,rfl,rfl,hq,hmq,hk0⟩:=hj
 conv=>cbv
 intro n4 h4;have e4:=h4.eq;conv=>cbv
 intro n5 h5;conv=>cbv
 cases n5 <;> conv=>cbv
 ·have k5:=gtr_f h5
  refine⟨fun _=>⟨⟨⟨rfl,.inr (.inr ⟨rfl,rfl,congrArg (AC.lsl .u32 0 0 o) (by rw[hmq,show q=0 by omega];rfl)⟩),trivial⟩,trivial⟩,rfl,by simp⟩,fun _=>rfl⟩
 ·have k5:=gtr_t h5
  intro n9 h9;have e9:=h9.eq;conv=>cbv
  intro n10 h10;conv=>cbv
  refine⟨fun _=>i64 (by omega),?_⟩
  refine⟨fun _=>⟨by omega,by omega⟩,?_⟩
  intro j11 hj11;conv=>cbv
  obtain⟨x12,hx12⟩:=get_ex (l:=l) (i:=j11) (by omega)
  refine⟨x12,fun _=>hx12,?_⟩
  try conv=>cbv
  intro n12 h12;have e12:=h12.eq;have f12:=h12.lt;conv=>cbv
  intro n13 h13;conv=>cbv
  cases n13 <;> conv=>cbv
  ·have k13:=eql_f h13
   have hx0:x12≠0:=fun h=>by subst h;exact k13 h12.eq
   have hx12b:(l.drop o)[q-1]? =some x12:=by rw[List.getElem?_drop,show o+(q-1)=j11 by omega];exact hx12
   refine⟨fun _=>⟨⟨⟨rfl,.inr (.inr ⟨rfl,rfl,congrArg (AC.lsl .u32 0 0 o) (by rw[hmq,show q=q-1+1 by omega,take_snoc hx12b,trimL_ne hx0,List.length_append,List.length_take,List.length_drop];simp;omega)⟩),trivial⟩,trivial⟩,rfl,by simp⟩,fun _=>rfl⟩
  ·have k13:=eql_t h13
   refine .inr ?_
   intro n17 h17;have e17:=h17.eq;conv=>cbv
   intro n18 h18;conv=>cbv
   refine⟨fun _=>i64 (by omega),?_⟩
   refine⟨fun _=>⟨by omega,by omega⟩,?_⟩
   intro b19 hb19;conv=>cbv
   rintro o19 c19 ⟨ho19,hc19⟩;conv=>cbv
   refine⟨c19,?_,?_⟩
   ·omega
   rw[hJ0]
   obtain rfl:o19=o:=by omega
   refine⟨c19,rfl,rfl,by omega,?_,rfl⟩
   obtain rfl:x12=0:=UInt32.toNat_inj.1 (by show _=0;omega)
   rw[hmq,show q=c19+1 by omega,take_snoc (x:=0) (by rw[List.getElem?_drop,show o19+c19=j11 by omega];exact hx12),trimL_zero]
theorem Ydigit_D {y p:List UInt32} {q:Int} {X V n':Nat} (hX:natL ((u.drop o).take c)=X) (hoc:o+c≤u.length) (hul:u.length≤17592186044400) (hy:y=limbs V) (hyl:y.length=n'+1) (hcn:c=n'+2) (hXV:X<4294967296*V) (hq:NatIs q (X/V)) (hp:p=limbs (X/V*V)):DCall Tryz.prog 241 [.one (.lsl .u32 0 0 o c),.one (.sl .u32 y)] (.arr 0 .u32 u) (.tup [(false,[.int .u32 q]),(false,[.sl .u32 p])]):=by
 obtain⟨x,hx⟩:∃z:List UInt32,z=(u.drop o).take c:=⟨_,rfl⟩
 have hxl:x.length=n'+2:=by rw[hx,List.length_take,List.length_drop];omega
 have hgx:∀i,i<c→x[i]? =u[o+i]? :=fun i h=>by rw[hx,List.getElem?_take,if_pos h,List.getElem?_drop]
 rw[←hx] at hX
 refine dcall_fn Tryz.func241 (by kernel_rfl) rfl fun E hE=>?_
 conv=>cbv
 intro n10 h10;have e10:=h10.eq;have f10:=h10.le;conv=>cbv
 refine⟨fun _=>⟨by omega,by omega⟩,?_⟩
 intro j13 hj13;conv=>cbv
 obtain⟨x14,hx14⟩:=get_ex (l:=u) (i:=j13) (by omega)
 refine⟨x14,fun _=>hx14,?_⟩
 try conv=>cbv
 intro n14 h14;have e14:=h14.eq;have f14:=h14.lt;conv=>cbv
 intro n15 h15;conv=>cbv
 have h15:=wrap_u64 h15
 intro n16 h16;conv=>cbv
 refine⟨fun _=>by omega,?_⟩
 have h16:=shl_u64 (p:=4294967296) h16 rfl
 have h16b:n16=((x14.toNat*4294967296:Nat):Int):=by omega
 intro n19 h19;conv=>cbv
 refine⟨fun _=>i64 (by omega),?_⟩
 refine⟨fun _=>⟨by omega,by omega⟩,?_⟩
 intro j20 hj20;conv=>cbv
 obtain⟨x21,hx21⟩:=get_ex (l:=u) (i:=j20) (by omega)
 refine⟨x21,fun _=>hx21,?_⟩
 try conv=>cbv
 intro n21 h21;have e21:=h21.eq;have f21:=h21.lt;conv=>cbv
 intro n22 h22;conv=>cbv
 have h22:=wrap_u64 h22
 intro n23 h23;conv=>cbv
 have h23:=or_hilo (p:=x14.toNat) (q:=x21.toNat) h23 (by omega) (by omega) (by omega) (by omega)
 intro n26 h26;conv=>cbv
 refine⟨fun _=>i64 (by omega),?_⟩
 obtain⟨x27,hx27⟩:=get_ex (l:=y) (i:=n') (by omega)
 refine⟨x27,fun _=>⟨by omega,by rw[show (n26).toNat=n' by omega];exact hx27⟩,?_⟩
 try conv=>cbv
 intro n28 h28;have e28:=h28.eq;have f28:=h28.lt;conv=>cbv
 intro n29 h29;conv=>cbv
 have h29:=wrap_u64 h29
 have hx13:x[n'+1]? =some x14:=by rw[hgx _ (by omega),show o+(n'+1)=j13 by omega];exact hx14
 have hx20:x[n']? =some x21:=by rw[hgx _ (by omega),show o+n'=j20 by omega];exact hx21
 have hx270:x27.toNat≠0:=canon_last (by rw[←hy];exact hx27) (by rw[←hy];omega)
 obtain⟨top,htop⟩:∃t,t=x21.toNat+4294967296*x14.toNat:=⟨_,rfl⟩
 have hXf:X=top*2^(32*n')+natL (x.take n'):=by have h1:=natL_take_succ hx13;have h2:=natL_take_succ hx20;rw[List.take_of_length_le (by omega),hX] at h1;rw[h1,h2,pow32,htop];grind
 have hVf:V=x27.toNat*2^(32*n')+natL (y.take n'):=by have h1:=natL_take_succ hx27;rw[List.take_of_length_le (by omega),hy,natL_limbs,←hy] at h1;rw[h1];grind
 have hg:=top_guess hXf (take_lt (l:=x) (n:=n')) hVf (by omega)
 have hV0:0<V:=by have:=Nat.mul_pos (show 0<x27.toNat by omega) (Nat.two_pow_pos (32*n'));omega
 have hqw:X/V<4294967296:=(Nat.div_lt_iff_lt_mul hV0).2 hXV
 have htl:top<18446744073709551616:=by omega
 intro n30 h30;conv=>cbv
 refine⟨fun _=>⟨by omega,by omega⟩,?_⟩
 have h30:=wrap_u64 h30
 have h30b:n30=((top/x27.toNat:Nat):Int):=by rw[h30,h23,show n29=(x27.toNat:Int) by omega,←htop,←Int.natCast_ediv];have:=Nat.div_le_self top x27.toNat;generalize top/x27.toNat=Q at *;omega
 refine⟨fun _=>rfl,?_⟩
 intro n32 h32;conv=>cbv
 obtain⟨J32,hJ32⟩:∃J:List AV→List Blk→Prop,J=fun vs bl=>∃(G:Nat) (g:Int),vs=[.one (.lsl .u32 0 0 o c),.one (.sl .u32 y),.one (.int .u64 g)]∧bl=[.arr 0 .u32 u]∧NatIs g G∧X/V≤G∧G<4294967296:=⟨_,rfl⟩
 refine .inl ⟨[0,1,7],[0],J32,?_,?_⟩
 ·intro vs bl hj;rw[hJ32] at hj
  obtain⟨G,g,rfl,rfl,hg2,hGl,hG32⟩:=hj
  conv=>cbv
  have eg2:=hg2.eq
  intro n35 h35;conv=>cbv
  have h35:=wrap_u32 h35
  obtain⟨w36,hw36⟩:=u32_ex (n:=n35) (by omega)
  have ew36:=hw36.eq;have fw36:=hw36.lt
  refine⟨[w36],fun _=>⟨rfl,by decide,rfl,⟨rfl,put_w hw36,trivial⟩⟩,.inr ?_⟩
  try conv=>cbv
  obtain⟨w37,hw37⟩:∃z:List UInt32,z=limbs (V*G):=⟨_,rfl⟩
  refine cL (r:= .one (.sl .u32 w37)) hE (Ytimes_ok (a:=V) (b:=G) (by rw[hy,natL_limbs]) (by simp[natL];omega) hw37 (by omega) (by simp)) ⟨rfl,rfl,trivial⟩ ?_
  try conv=>cbv
  refine .inr ?_
  obtain⟨J0,hJ0⟩:∃J:List AV→List Blk→Nat→Prop,J=fun vs bl k=>∃(D:Nat) (d:Int) (pp:List UInt32),vs=[.one (.lsl .u32 0 0 o c),.one (.sl .u32 y),.one (.int .u64 d),.one (.sl .u32 pp)]∧bl=[.arr 0 .u32 u]∧(NatIs d D∧D<4294967296∧X/V≤D)∧pp=limbs (V*D)∧k=D:=⟨_,rfl⟩
  refine⟨[0,1,7,8],[0],J0,⟨G,by rw[hJ0];exact⟨G,g,w37,rfl,rfl,⟨hg2,hG32,hGl⟩,hw37,rfl⟩⟩,?_⟩
  intro vs bl kk0 hj;rw[hJ0] at hj
  obtain⟨D,d,pp,rfl,rfl,⟨hd,hD32,hDl⟩,hpp,hk0⟩:=hj
  conv=>cbv
  have ed:=hd.eq
  have hnl39:c≤(u.drop o).length:=by rw[List.length_drop];omega
  obtain⟨m39,hm39⟩:∃z:Nat,z=(trimL ((u.drop o).take c)).length:=⟨_,rfl⟩
  obtain⟨hle39,htk39⟩:=trim_take hnl39 hm39
  refine .inr (.inr (.inl ⟨[],.one (.lsl .u32 0 0 o m39),.arr 0 .u32 u,fun _=>⟨by first | decide | simp[idsV,idsC],trivial⟩,fun _=>⟨useB hE (Ytrim_Bo (by omega) (by omega) hm39),rfl,rfl⟩,?_⟩))
  try conv=>cbv
  obtain⟨r41,hr41⟩:∃z:Int,z=cmpZ X (V*D:Nat):=⟨_,rfl⟩
  refine .inr (.inl ⟨[.one (.sl .u32 (((u).drop o).take m39)),.one (.sl .u32 pp)],.one (.int .i64 r41),fun _=>⟨⟨_,rfl,by omega,rfl⟩,rfl,trivial⟩,fun _=>useC hE (acall_flat rfl (Ycompare_ok (by rw[htk39,←hx,hX]) hpp hr41)),?_⟩)
  try conv=>cbv
  intro n42 h42;conv=>cbv
  cases n42 <;> conv=>cbv
  ·have k42:=lss_f h42
   intro n49 h49;conv=>cbv
   have h49:=wrap_u32 h49
   have hge:V*D≤X:=by rw[hr41] at k42;have:=cmpZ_ge k42;omega
   have hDe:D=X/V:=Nat.le_antisymm ((Nat.le_div_iff_mul_le hV0).2 (by rw[Nat.mul_comm];exact hge)) hDl
   refine fun _=>⟨⟨⟨⟨rfl,congrArg _ (by rw[hq.eq,←hDe];omega),trivial⟩,⟨rfl,congrArg _ (by rw[hp,hpp,←hDe,Nat.mul_comm]),trivial⟩,trivial⟩,rfl,by simp⟩,rfl⟩
  ·have k42:=lss_t h42
   have hlt:X<V*D:=by rw[hr41] at k42;have:=cmpZ_lt k42;omega
   have hD1:1≤D:=by apply Nat.pos_of_ne_zero;intro e;rw[e,Nat.mul_zero] at hlt;omega
   have hppl:pp.length≤17592186044416:=by rw[hpp];refine Nat.le_trans (limbs_len_le (k:=n'+2) ?_) (by omega);have h1:=natL_lt y;rw[hyl,hy,natL_limbs] at h1;have h2:2^(32*(n'+2))=4294967296*2^(32*(n'+1)):=pow32 (n'+1);rw[h2,Nat.mul_comm];exact Nat.mul_lt_mul_of_lt_of_le hD32 (Nat.le_of_lt h1) (by omega)
   refine .inr ?_
   intro n44 h44;conv=>cbv
   have h44:=wrap_u64 h44
   obtain⟨w47,hw47⟩:∃z:List UInt32,z=limbs (V*D-V):=⟨_,rfl⟩
   refine cL (r:= .one (.sl .u32 w47)) hE (Yminus_ok hpp hy hw47 (by have:=Nat.mul_le_mul_left V hD1;omega) hppl) ⟨rfl,rfl,trivial⟩ ?_
   try conv=>cbv
   refine⟨D-1,?_,?_⟩
   ·omega
   rw[hJ0]
   exact⟨D-1,n44,w47,rfl,rfl,⟨⟨by omega⟩,by omega,by have:=(Nat.div_lt_iff_lt_mul hV0).2 (show X<D*V by rw[Nat.mul_comm];exact hlt);omega⟩,by rw[hw47,Nat.mul_sub,Nat.mul_one],rfl⟩
 cases n32 <;> conv=>cbv
 ·have k32:=gtr_f h32
  rw[hJ32]
  exact⟨_,_,rfl,rfl,⟨h30b⟩,hg,by omega⟩
 ·have k32:=gtr_t h32
  rw[hJ32]
  exact⟨4294967295,_,rfl,rfl,⟨rfl⟩,by omega,by omega⟩
theorem Yminus_D {m:List UInt32} {a b:Nat} (hul:l=(u.drop o).take c) (hoc:o+c≤u.length) (hl:l=limbs a) (hm:m=limbs b) (hz:z=limbs (a-b)) (hab:b≤a) (sl:u.length≤17592186044416):DCall Tryz.prog 231 [.one (.lsl .u32 0 0 o c),.one (.sl .u32 m)] (.arr 0 .u32 u) (.one (.sl .u32 z)):=by
 have hml:m.length≤l.length:=by rw[hl,hm];exact limbs_len_mono hab
 have hll:l.length=c:=by rw[hul,List.length_take,List.length_drop];omega
 have hgx:∀i,i<c→l[i]? =u[o+i]? :=fun i h=>by rw[hul,List.getElem?_take,if_pos h,List.getElem?_drop]
 refine dcall_fn Tryz.func231 (by kernel_rfl) rfl fun E hE=>?_
 conv=>cbv
 intro n11 h11;have e11:=h11.eq;conv=>cbv
 refine⟨fun _=>⟨by omega,by omega,by show _*4≤140737488355328;omega⟩,?_⟩
 intro k12 (l12:List UInt32) ql12;have hk12:=ql12.1;have hl12:l12=List.replicate k12 (0:el .u32):=ql12.2;have gl12:l12.length=k12:=by rw[hl12,List.length_replicate]
 conv=>cbv
 refine .inr ?_
 obtain⟨J0,hJ0⟩:∃J:List AV→List Blk→Nat→Prop,J=fun vs bl k=>∃(q:List UInt32) (n c' i':Nat) (cc i:Int),vs=[.one (.lsl .u32 0 0 o c),.one (.sl .u32 m),.one (.lsl .u32 12 0 0 n),.one (.int .u64 cc),.one (.int .i64 i)]∧
  bl=[.arr 0 .u32 u,.arr 0 .u32 q]∧(q.length=l.length∧n=q.length∧NatIs i i'∧i'≤l.length∧NatIs cc c'∧c'≤1)∧
  natL (q.take i')+natL (m.take i')=natL (l.take i')+2^(32*i')*c'∧k=l.length-i':=⟨_,rfl⟩
 refine⟨[0,1,5,6,7],[0,12],J0,⟨l.length-0,by rw[hJ0];exact⟨l12,k12,0,0,0,0,rfl,rfl,⟨by rw[hl12,List.length_replicate];omega,by rw[hl12,List.length_replicate],natIs 0,by omega,natIs 0,by omega⟩,by simp[natL],rfl⟩⟩,?_⟩
 intro vs bl kk0 hj;rw[hJ0] at hj
 obtain⟨q,n,c',i',cc,i,rfl,rfl,⟨hq,hn,hi,hiL,hc,hc1⟩,hinv,hk0⟩:=hj
 conv=>cbv
 have ei:=hi.eq
 have ec:=hc.eq
 intro n15 h15;have e15:=h15.eq;conv=>cbv
 intro n16 h16;conv=>cbv
 cases n16 <;> conv=>cbv
 ·have k16:=lss_f h16
  have hnl47:n≤(q).length:=by omega
  obtain⟨m47,hm47⟩:∃z:Nat,z=(trimL ((q).take n)).length:=⟨_,rfl⟩
  obtain⟨hle47,htk47⟩:=trim_take hnl47 hm47
  refine .inr (.inr (.inl ⟨[],.one (.lsl .u32 0 0 0 m47),.arr 0 .u32 q,fun _=>⟨by first | decide | simp[idsV,idsC],trivial⟩,fun _=>⟨useB hE (Ytrim_B hnl47 (by omega) hm47),rfl,rfl⟩,?_⟩))
  try conv=>cbv
  have hk:i'=l.length:=by omega
  have hfin:natL (q.take n)=a-b:=by rw[hk,natL_take_ge hml,natL_take_ge (Nat.le_refl _),hm,hl,natL_limbs,natL_limbs,←hl,←hq,List.take_length] at hinv;have hlt:=natL_lt q;generalize 2^(32*q.length)=P at *;rw[hn,List.take_length];rcases (by omega:c'=0∨c'=1) with e | e <;> rw[e] at hinv <;> omega
  refine fun _=>⟨⟨⟨⟨rfl,.inl ⟨_,rfl,by omega,congrArg _ (by rw[List.drop_zero,htk47,hfin,hz])⟩,trivial⟩,trivial⟩,rfl,by simp⟩,rfl⟩
 ·have k16:=lss_t h16
  refine .inr ?_
  intro n21 h21;have e21:=h21.eq;have f21:=h21.le;conv=>cbv
  intro n22 h22;conv=>cbv
  refine .inr ?_
  cases n22 <;> conv=>cbv
  ·have k22:=lss_f h22
   refine⟨fun _=>⟨by omega,by omega⟩,?_⟩
   intro j30 hj30;conv=>cbv
   obtain⟨x31,hx31⟩:=get_ex (l:=u) (i:=j30) (by omega)
   refine⟨x31,fun _=>hx31,?_⟩
   try conv=>cbv
   intro n31 h31;have e31:=h31.eq;have f31:=h31.lt;conv=>cbv
   intro n32 h32;conv=>cbv
   have h32:=wrap_u64 h32
   intro n33 h33;conv=>cbv
   have h33:=wrap_u64 h33
   intro n35 h35;conv=>cbv
   have h35:=wrap_u64 h35
   intro n37 h37;conv=>cbv
   have h37:=wrap_u64 h37
   intro n41 h41;conv=>cbv
   have h41:=wrap_u32 h41
   refine⟨fun _=>⟨by omega,by omega⟩,?_⟩
   intro j42 hj42;conv=>cbv
   obtain⟨w42,hw42⟩:=u32_ex (n:=n41) (by omega)
   have ew42:=hw42.eq;have fw42:=hw42.lt
   refine⟨w42,fun _=>⟨by show _<List.length (α:=UInt32) q;(first | omega | (simp;omega)),put_w hw42⟩,?_⟩
   intro (l42:List UInt32) (hl42:l42=List.set (α:=UInt32) q j42 w42);have gl42:l42.length=q.length:=by rw[hl42,List.length_set]
   conv=>cbv
   intro n44 h44;conv=>cbv
   refine⟨fun _=>by omega,?_⟩
   have h44:=shr_lit (p:=4294967296) h44 rfl
   intro n45 h45;conv=>cbv
   have h45:=wrap_u64 h45
   intro n18 h18;conv=>cbv
   refine⟨fun _=>i64 (by omega),?_⟩
   refine⟨l.length-(i'+1),?_,?_⟩
   ·omega
   rw[hJ0]
   have hx30:l[i']? =some x31:=by rw[hgx _ (by omega),show o+i'=j30 by omega];exact hx31
   refine⟨l42,n,n45.toNat,i'+1,n45,n18,rfl,rfl,⟨by rw[hl42,List.length_set];exact hq,by rw[hl42,List.length_set];exact hn,⟨by omega⟩,by omega,⟨by omega⟩,by omega⟩,?_,rfl⟩
   have hs:=minus_step (w:=w42) (o:=q) (i:=i') (xi:=x31.toNat) (yi:=0) (bor:=c') (bor':=n45.toNat) (by omega) hinv (by omega)
   rw[hl42,show j42=i' by omega,natL_take_succ hx30,←hs,natL_take_ge (l:=m) (i:=i'+1) (by omega),natL_take_ge (l:=m) (i:=i') (by omega),Nat.mul_zero]
   rfl
  ·have k22:=lss_t h22
   obtain⟨x25,hx25⟩:=get_ex (l:=m) (i:=i') (by omega)
   refine⟨x25,fun _=>⟨by omega,by rw[show (i).toNat=i' by omega];exact hx25⟩,?_⟩
   try conv=>cbv
   intro n26 h26;have e26:=h26.eq;have f26:=h26.lt;conv=>cbv
   intro n27 h27;conv=>cbv
   have h27:=wrap_u64 h27
   refine⟨fun _=>⟨by omega,by omega⟩,?_⟩
   intro j30 hj30;conv=>cbv
   obtain⟨x31,hx31⟩:=get_ex (l:=u) (i:=j30) (by omega)
   refine⟨x31,fun _=>hx31,?_⟩
   try conv=>cbv
   intro n31 h31;have e31:=h31.eq;have f31:=h31.lt;conv=>cbv
   intro n32 h32;conv=>cbv
   have h32:=wrap_u64 h32
   intro n33 h33;conv=>cbv
   have h33:=wrap_u64 h33
   intro n35 h35;conv=>cbv
   have h35:=wrap_u64 h35
   intro n37 h37;conv=>cbv
   have h37:=wrap_u64 h37
   intro n41 h41;conv=>cbv
   have h41:=wrap_u32 h41
   refine⟨fun _=>⟨by omega,by omega⟩,?_⟩
   intro j42 hj42;conv=>cbv
   obtain⟨w42,hw42⟩:=u32_ex (n:=n41) (by omega)
   have ew42:=hw42.eq;have fw42:=hw42.lt
   refine⟨w42,fun _=>⟨by show _<List.length (α:=UInt32) q;(first | omega | (simp;omega)),put_w hw42⟩,?_⟩
   intro (l42:List UInt32) (hl42:l42=List.set (α:=UInt32) q j42 w42);have gl42:l42.length=q.length:=by rw[hl42,List.length_set]
   conv=>cbv
   intro n44 h44;conv=>cbv
   refine⟨fun _=>by omega,?_⟩
   have h44:=shr_lit (p:=4294967296) h44 rfl
   intro n45 h45;conv=>cbv
   have h45:=wrap_u64 h45
   intro n18 h18;conv=>cbv
   refine⟨fun _=>i64 (by omega),?_⟩
   refine⟨l.length-(i'+1),?_,?_⟩
   ·omega
   rw[hJ0]
   have hx30:l[i']? =some x31:=by rw[hgx _ (by omega),show o+i'=j30 by omega];exact hx31
   refine⟨l42,n,n45.toNat,i'+1,n45,n18,rfl,rfl,⟨by rw[hl42,List.length_set];exact hq,by rw[hl42,List.length_set];exact hn,⟨by omega⟩,by omega,⟨by omega⟩,by omega⟩,?_,rfl⟩
   have hs:=minus_step (w:=w42) (o:=q) (i:=i') (xi:=x31.toNat) (yi:=x25.toNat) (bor:=c') (bor':=n45.toNat) (by omega) hinv (by omega)
   rw[hl42,show j42=i' by omega,natL_take_succ hx30,←hs,natL_take_succ hx25]
theorem Yback_D {s:Int} (hcu:c≤u.length) (sl:u.length≤17592186044416) (hs:NatIs s n) (hn:n≤31) (hz:z=limbs (natL (u.take c)/2^n)):DCall Tryz.prog 242 [.one (.lsl .u32 0 0 0 c),.one (.int .i64 s)] (.arr 0 .u32 u) (.one (.sl .u32 z)):=by
 have es:=hs.eq
 obtain⟨l,hl⟩:∃z:List UInt32,z=u.take c:=⟨_,rfl⟩
 have hll:l.length=c:=by rw[hl,List.length_take];omega
 have hgx:∀i,i<c→l[i]? =u[i]? :=fun i h=>by rw[hl,List.getElem?_take,if_pos h]
 rw[←hl] at hz
 refine dcall_fn Tryz.func242 (by kernel_rfl) rfl fun E hE=>?_
 conv=>cbv
 intro n9 h9;have e9:=h9.eq;conv=>cbv
 refine⟨fun _=>⟨by omega,by omega,by show _*4≤140737488355328;omega⟩,?_⟩
 intro k10 (l10:List UInt32) ql10;have hk10:=ql10.1;have hl10:l10=List.replicate k10 (0:el .u32):=ql10.2;have gl10:l10.length=k10:=by rw[hl10,List.length_replicate]
 conv=>cbv
 refine .inr ?_
 obtain⟨J0,hJ0⟩:∃J:List AV→List Blk→Nat→Prop,J=fun vs bl k=>∃(o:List UInt32) (m i':Nat) (i:Int),vs=[.one (.lsl .u32 0 0 0 c),.one (.int .i64 s),.one (.lsl .u32 10 0 0 m),.one (.int .i64 i)]∧
  bl=[.arr 0 .u32 u,.arr 0 .u32 o]∧(o.length=l.length∧m=o.length∧NatIs i i'∧i'≤l.length)∧
  natL (o.take i')=natL l/2^n%2^(32*i')∧k=l.length-i':=⟨_,rfl⟩
 refine⟨[0,1,5,6],[0,10],J0,⟨l.length-0,by rw[hJ0];exact⟨l10,k10,0,0,rfl,rfl,⟨by rw[hl10,List.length_replicate];omega,by rw[hl10,List.length_replicate],natIs 0,by omega⟩,by simp[natL,Nat.mod_one],rfl⟩⟩,?_⟩
 intro vs bl kk0 hj;rw[hJ0] at hj
 obtain⟨o,m,i',i,rfl,rfl,⟨ho,hm,hi,hiL⟩,hinv,hk0⟩:=hj
 conv=>cbv
 have ei:=hi.eq
 intro n13 h13;have e13:=h13.eq;conv=>cbv
 intro n14 h14;conv=>cbv
 cases n14 <;> conv=>cbv
 ·have k14:=lss_f h14
  have hnl44:m≤(o).length:=by omega
  obtain⟨m44,hm44⟩:∃z:Nat,z=(trimL ((o).take m)).length:=⟨_,rfl⟩
  obtain⟨hle44,htk44⟩:=trim_take hnl44 hm44
  refine .inr (.inr (.inl ⟨[],.one (.lsl .u32 0 0 0 m44),.arr 0 .u32 o,fun _=>⟨by first | decide | simp[idsV,idsC],trivial⟩,fun _=>⟨useB hE (Ytrim_B hnl44 (by omega) hm44),rfl,rfl⟩,?_⟩))
  try conv=>cbv
  have hk:i'=l.length:=by omega
  have hfin:natL o=natL l/2^n:=by rw[hk,←ho,List.take_length,ho] at hinv;rw[hinv];exact Nat.mod_eq_of_lt (Nat.lt_of_le_of_lt (Nat.div_le_self _ _) (natL_lt l))
  refine fun _=>⟨⟨⟨⟨rfl,.inl ⟨_,rfl,by omega,congrArg _ (by rw[List.drop_zero,htk44,hz,hm,List.take_length,hfin])⟩,trivial⟩,trivial⟩,rfl,by simp⟩,rfl⟩
 ·have k14:=lss_t h14
  refine .inr ?_
  refine⟨fun _=>⟨by omega,by omega⟩,?_⟩
  intro j19 hj19;conv=>cbv
  obtain⟨x20,hx20⟩:=get_ex (l:=u) (i:=j19) (by omega)
  refine⟨x20,fun _=>hx20,?_⟩
  try conv=>cbv
  intro n20 h20;have e20:=h20.eq;have f20:=h20.lt;conv=>cbv
  intro n21 h21;conv=>cbv
  have h21:=wrap_u64 h21
  intro n23 h23;conv=>cbv
  refine⟨fun _=>i64 (by omega),?_⟩
  intro n25 h25;have e25:=h25.eq;conv=>cbv
  intro n26 h26;conv=>cbv
  refine .inr ?_
  cases n26 <;> conv=>cbv
  ·have k26:=lss_f h26
   intro n40 h40;conv=>cbv
   refine⟨fun _=>by omega,?_⟩
   obtain⟨v,hv⟩:∃v:Nat,v=x20.toNat:=⟨_,rfl⟩
   obtain⟨q40,hq40,h40⟩:∃q:Nat,q=v/2^n∧n40=q:=⟨_,rfl,shr_var h40 (by omega) (by omega) (by show n≤64;omega)⟩
   rw[hq40] at h40
   intro n41 h41;conv=>cbv
   have h41:=wrap_u32 h41
   refine⟨fun _=>⟨by omega,by omega⟩,?_⟩
   intro j42 hj42;conv=>cbv
   obtain⟨w42,hw42⟩:=u32_ex (n:=n41) (by omega)
   have ew42:=hw42.eq;have fw42:=hw42.lt
   refine⟨w42,fun _=>⟨by show _<List.length (α:=UInt32) o;(first | omega | (simp;omega)),put_w hw42⟩,?_⟩
   intro (l42:List UInt32) (hl42:l42=List.set (α:=UInt32) o j42 w42);have gl42:l42.length=o.length:=by rw[hl42,List.length_set]
   conv=>cbv
   intro n16 h16;conv=>cbv
   refine⟨fun _=>i64 (by omega),?_⟩
   refine⟨l.length-(i'+1),?_,?_⟩
   ·omega
   rw[hJ0]
   have ew:w42.toNat=v/2^n%4294967296:=by omega
   have hx19:l[i']? =some x20:=by rw[hgx _ (by omega),show i'=j19 by omega];exact hx20
   refine⟨l42,m,i'+1,n16,rfl,rfl,⟨by rw[hl42,List.length_set];exact ho,by rw[hl42,List.length_set];exact hm,⟨by omega⟩,by omega⟩,?_,rfl⟩
   rw[hl42,show j42=i' by omega,take_set_succ (by omega),natL_snoc,List.length_take,Nat.min_eq_left (by omega),hinv,trunc_succ,ew]
   rw[Nat.div_div_eq_div_mul,Nat.mul_comm (2^n),←Nat.div_div_eq_div_mul,div_pow_drop (by omega:i'≤l.length),drop_word hx19,List.drop_eq_nil_of_le (by omega:l.length≤i'+1),hv,natL,Nat.mul_zero,Nat.add_zero]
  ·have k26:=lss_t h26
   intro n30 h30;conv=>cbv
   refine⟨fun _=>i64 (by omega),?_⟩
   refine⟨fun _=>⟨by omega,by omega⟩,?_⟩
   intro j31 hj31;conv=>cbv
   obtain⟨x32,hx32⟩:=get_ex (l:=u) (i:=j31) (by omega)
   refine⟨x32,fun _=>hx32,?_⟩
   try conv=>cbv
   intro n32 h32;have e32:=h32.eq;have f32:=h32.lt;conv=>cbv
   intro n33 h33;conv=>cbv
   have h33:=wrap_u64 h33
   intro n34 h34;conv=>cbv
   refine⟨fun _=>by omega,?_⟩
   have h34:=shl_u64 (p:=4294967296) h34 rfl
   intro n35 h35;conv=>cbv
   obtain⟨v,hv,e35⟩:∃v:Nat,v=x20.toNat+4294967296*x32.toNat∧n35=v:=⟨_,rfl,or_lohi h35 (by omega) (by omega) (by omega) (by omega)⟩
   intro n40 h40;conv=>cbv
   refine⟨fun _=>by omega,?_⟩
   obtain⟨q40,hq40,h40⟩:∃q:Nat,q=v/2^n∧n40=q:=⟨_,rfl,shr_var h40 (by omega) (by omega) (by show n≤64;omega)⟩
   rw[hq40] at h40
   intro n41 h41;conv=>cbv
   have h41:=wrap_u32 h41
   refine⟨fun _=>⟨by omega,by omega⟩,?_⟩
   intro j42 hj42;conv=>cbv
   obtain⟨w42,hw42⟩:=u32_ex (n:=n41) (by omega)
   have ew42:=hw42.eq;have fw42:=hw42.lt
   refine⟨w42,fun _=>⟨by show _<List.length (α:=UInt32) o;(first | omega | (simp;omega)),put_w hw42⟩,?_⟩
   intro (l42:List UInt32) (hl42:l42=List.set (α:=UInt32) o j42 w42);have gl42:l42.length=o.length:=by rw[hl42,List.length_set]
   conv=>cbv
   intro n16 h16;conv=>cbv
   refine⟨fun _=>i64 (by omega),?_⟩
   refine⟨l.length-(i'+1),?_,?_⟩
   ·omega
   rw[hJ0]
   have ew:w42.toNat=v/2^n%4294967296:=by omega
   have hx19:l[i']? =some x20:=by rw[hgx _ (by omega),show i'=j19 by omega];exact hx20
   refine⟨l42,m,i'+1,n16,rfl,rfl,⟨by rw[hl42,List.length_set];exact ho,by rw[hl42,List.length_set];exact hm,⟨by omega⟩,by omega⟩,?_,rfl⟩
   rw[hl42,show j42=i' by omega,take_set_succ (by omega),natL_snoc,List.length_take,Nat.min_eq_left (by omega),hinv,trunc_succ,ew]
   rw[Nat.div_div_eq_div_mul,Nat.mul_comm (2^n),←Nat.div_div_eq_div_mul,div_pow_drop (by omega:i'≤l.length),drop_word hx19,drop_word (show l[i'+1]? =some x32 from (by rw[hgx _ (by omega),show i'+1=j31 by omega];exact hx32)),back_word (by omega),hv]
end Go.Abs
