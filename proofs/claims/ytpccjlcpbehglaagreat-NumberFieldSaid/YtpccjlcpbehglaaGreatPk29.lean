/- Part 30 of a proof. Conditions: each theorem's own. -/
import Derived.Test.YtpccjlcpbehglaaGreatPk28
set_option linter.all false
set_option maxHeartbeats 8000000
open Go.Proofs
namespace Go.Abs
open Go.RowKit
theorem Ydivide_ok {l m z1 z2:List UInt32} {a b:Nat} (hl:l=limbs a) (hm:m=limbs b) (hb:0<b) (hz1:z1=limbs (a/b)) (hz2:z2=limbs (a%b)) (sl:l.length≤17592186043990):CF 214 [.one (.sl .u32 l),.one (.sl .u32 m)] (.tup [(false,[.sl .u32 z1]),(false,[.sl .u32 z2])]):=by
 refine acall_fn Tryz.func214 (by kernel_rfl) rfl fun E hE=>?_
 conv=>cbv
 obtain⟨r22,hr22⟩:∃z:Int,z=cmpZ a b:=⟨_,rfl⟩
 refine cA hE (Ycompare_ok hl hm hr22) ?_
 try conv=>cbv
 intro n23 h23;conv=>cbv
 cases n23 <;> conv=>cbv
 ·have k23:=lss_f h23
  have hba:b≤a:=by rw[hr22] at k23;have:=cmpZ_ge k23;omega
  have hml:m.length≤l.length:=by rw[hl,hm];exact limbs_len_mono hba
  have hm0:m.length≠0:=fun e=>by have e2:=List.eq_nil_of_length_eq_zero e;rw[hm] at e2;have:=limbs_eq_nil.1 e2;omega
  intro n26 h26;have e26:=h26.eq;have f26:=h26.le;conv=>cbv
  intro n27 h27;conv=>cbv
  cases n27 <;> conv=>cbv
  ·have k27:=leq_f h27
   intro n41 h41;have e41:=h41.eq;have f41:=h41.le;conv=>cbv
   intro n42 h42;conv=>cbv
   cases n42 <;> conv=>cbv
   ·have k42:=eql_f h42
    intro n56 h56;have e56:=h56.eq;have f56:=h56.le;conv=>cbv
    intro n57 h57;conv=>cbv
    refine⟨fun _=>i64 (by omega),?_⟩
    obtain⟨r59,hr59⟩:∃n:Int,NatIs n (nbits b):=⟨_,⟨rfl⟩⟩
    have er59:=hr59.eq
    refine cL hE (Ylength_ok hm hr59 (by omega)) ⟨rfl,trivial⟩ ?_
    try conv=>cbv
    obtain⟨n,hn⟩:∃n,n=m.length:=⟨_,rfl⟩
    have hn2:2≤n:=by omega
    obtain⟨xt,hxt⟩:=get_ex (l:=m) (i:=n-1) (by omega)
    have hxtb:=hxt
    rw[hm] at hxtb
    have hxt1:n-1+1=(limbs b).length:=by rw[←hm];omega
    have hxt0:=canon_last hxtb hxt1
    have hsp:=nbits_spec (x:=xt.toNat) (by omega)
    have hbw:=bits_words hxtb hxt1 hsp.1 hsp.2.1 hsp.2.2
    have h32:=nbits_32 (x:=xt.toNat) (by have:=xt.toNat_lt;omega)
    obtain⟨s,hs⟩:∃s,s=32-nbits xt.toNat:=⟨_,rfl⟩
    intro n60 h60;conv=>cbv
    refine⟨fun _=>i64 (by omega),?_⟩
    have e60s:n60=(s:Int):=by omega
    have hs60:NatIs n60 s:=⟨e60s⟩
    obtain⟨z63,hz631,hz632⟩:=pad_ex (N:=natL l*2^s) (k:=l.length+1) (shl_lt l (by omega))
    obtain⟨zn63,hzn63⟩:∃k,k=z63.length:=⟨_,rfl⟩
    refine cL hE (Yshifted_own hs60 (by omega) hz631 hz632 hzn63 (by omega)) ⟨rfl,rfl,trivial⟩ ?_
    try conv=>cbv
    obtain⟨z66,hz661,hz662⟩:=pad_ex (N:=natL m*2^s) (k:=m.length+1) (shl_lt m (by omega))
    refine cL hE (acall_plain (Yshifted_own hs60 (by omega) hz661 hz662 rfl (by omega))) ⟨rfl,rfl,trivial⟩ ?_
    try conv=>cbv
    obtain⟨w67,hw67⟩:∃z:List UInt32,z=limbs (natL m*2^s):=⟨_,rfl⟩
    refine cA hE (Ytrim_A hz662 hw67) ?_
    try conv=>cbv
    obtain⟨hwl,hwV⟩:=shift_len (b:=b) (n:=n) (s:=s) (x:=xt) (k:=nbits xt.toNat) (by rw[←hm,hn]) (by omega) hxtb hsp.1 hsp.2.1 hsp.2.2 h32 hs
    obtain⟨V,hVw⟩:∃V,V=natL w67:=⟨_,rfl⟩
    have hV:V=b*2^s:=by rw[hVw,hw67,natL_limbs,hm,natL_limbs]
    have hyV:w67=limbs V:=by rw[hV,hw67,hm,natL_limbs]
    have hwn:w67.length=n:=by rw[hyV,hV];exact hwl
    rw[←hV] at hwV
    intro n69 h69;have e69:=h69.eq;have f69:=h69.le;conv=>cbv
    refine⟨fun _=>⟨by omega,by omega,by show _*4≤140737488355328;omega⟩,?_⟩
    intro k70 (l70:List UInt32) ql70;have hk70:=ql70.1;have hl70:l70=List.replicate k70 (0:el .u32):=ql70.2;have gl70:l70.length=k70:=by rw[hl70,List.length_replicate]
    conv=>cbv
    intro n72 h72;have e72:=h72.eq;have f72:=h72.le;conv=>cbv
    intro n74 h74;have e74:=h74.eq;have f74:=h74.le;conv=>cbv
    obtain⟨A,hA⟩:∃A,A=natL z63:=⟨_,rfl⟩
    have hVpos:0<V:=by rw[hV];exact Nat.mul_pos hb (Nat.two_pow_pos s)
    have hk70:k70=l.length:=by omega
    have hk70n:n≤k70:=by omega
    have hzl:zn63=l.length+1∧z63.length=l.length+1:=by omega
    have hs31:s≤31:=by omega
    have hstart:natL (z63.drop (k70-n+1))<V:=start_small hz632 hs31 hz631 (by omega) (by omega) hwV
    intro n75 h75;conv=>cbv
    refine⟨fun _=>i64 (by omega),?_⟩
    refine .inr ?_
    obtain⟨J0,hJ0⟩:∃J:List AV→List Blk→Nat→Prop,J=fun vs bl k=>∃(u q:List UInt32) (j':Nat) (i:Int),vs=[.one (.int .i64 n60),.one (.lsl .u32 63 0 0 zn63),.one (.sl .u32 w67),.one (.lsl .u32 70 0 0 k70),.one (.int .i64 i)]∧
     bl=[.arr 0 .u32 u,.arr 0 .u32 q]∧(u.length=z63.length∧q.length=k70∧NatIs (i+1) j'∧j'+n≤k70+1)∧natL (u.drop j')<V∧A=natL u+2^(32*j')*natL (q.drop j')*V∧k=j':=⟨_,rfl⟩
    refine⟨[10,11,12,13,14],[63,70],J0,⟨k70-n+1,by rw[hJ0];exact⟨z63,l70,k70-n+1,n75,rfl,rfl,⟨rfl,by rw[hl70,List.length_replicate],⟨by omega⟩,by omega⟩,hstart,by rw[hl70,List.drop_replicate,natL_replicate];simp[hA],rfl⟩⟩,?_⟩
    intro vs bl kk0 hj;rw[hJ0] at hj
    obtain⟨u,q,j',i,rfl,rfl,⟨hul,hql,hi,hjl⟩,hlt,hinv,hk0⟩:=hj
    conv=>cbv
    clear hr22 h23 k23 hba hml h26 e26 f26 h27 k27 h41 e41 f41 h42 k42 h56 e56 f56 h57 hr59 er59 hn hxt hxtb hxt1 hxt0 hsp hbw h32 hs h60 hz631 hzn63 hz661 hz662 hwl hwV h69 e69 f69 hl70 gl70 h72 e72 f72 h74 e74 f74 hstart h75
    have ei:=hi.eq
    intro n77 h77;conv=>cbv
    cases n77 <;> conv=>cbv
    ·have k77:=geq_f h77
     have hnl123:k70≤(q).length:=by omega
     obtain⟨m123,hm123⟩:∃z:Nat,z=(trimL ((q).take k70)).length:=⟨_,rfl⟩
     obtain⟨hle123,htk123⟩:=trim_take hnl123 hm123
     refine .inr (.inr (.inl ⟨[],.one (.lsl .u32 0 0 0 m123),.arr 0 .u32 q,fun _=>⟨by first | decide | simp[idsV,idsC],trivial⟩,fun _=>⟨useB hE (Ytrim_B hnl123 (by omega) hm123),rfl,rfl⟩,?_⟩))
     try conv=>cbv
     have hnl125:zn63≤u.length:=by omega
     obtain⟨m125,hm125⟩:∃z:Nat,z=(trimL (u.take zn63)).length:=⟨_,rfl⟩
     obtain⟨hle125,htk125⟩:=trim_take hnl125 hm125
     refine .inr (.inr (.inl ⟨[],.one (.lsl .u32 0 0 0 m125),.arr 0 .u32 u,fun _=>⟨by first | decide | simp[idsV,idsC],trivial⟩,fun _=>⟨useB hE (Ytrim_B hnl125 (by omega) hm125),rfl,rfl⟩,?_⟩))
     try conv=>cbv
     obtain⟨w127,hw127⟩:∃z:List UInt32,z=limbs (natL (u.take m125)/2^s):=⟨_,rfl⟩
     refine .inr (.inr (.inr (.inl ⟨63,.arr 0 .u32 u,[.one (.lsl .u32 0 0 0 m125),.one (.int .i64 n60)],.one (.sl .u32 w127),fun _=>⟨rfl,⟨⟨⟨rfl,rfl⟩,rfl⟩,rfl,trivial⟩⟩,fun _=>useD hE (Yback_D (by omega) (by omega) hs60 (by omega) hw127),?_⟩)))
     try conv=>cbv
     have hj0:j'=0:=by omega
     rw[hj0,List.drop_zero] at hlt
     have hinv2:A=natL u+natL q*V:=by rw[hj0] at hinv;simpa using hinv
     have hA2:A=a*2^s:=by rw[hA,hz632,hl,natL_limbs]
     obtain⟨e1,e2⟩:=divide_end hA2 hV hinv2 hlt hb
     have hum:natL (u.take m125)=natL u:=by rw[htk125,natL_limbs,List.take_of_length_le (by omega)]
     exact fA ⟨⟨rfl,.inl ⟨_,rfl,by omega,congrArg _ (by rw[List.drop_zero,htk123,←hql,List.take_length,e1,hz1])⟩,trivial⟩,⟨rfl,congrArg _ (by rw[hz2,hw127,hum,e2]),trivial⟩,trivial⟩ rfl (by simp)
    ·have k77:=geq_t h77
     refine .inr ?_
     obtain⟨i',rfl⟩:∃i',j'=i'+1:=⟨j'-1,by omega⟩
     obtain⟨R,hRd⟩:∃R,R=natL (u.drop i'):=⟨_,rfl⟩
     have hVlt:V<2^(32*n):=by have:=natL_lt w67;rw[←hVw,hwn] at this;exact this
     have h0:natL (u.drop (i'+n+1))=0:=by have:=high_zero (l:=u.drop (i'+1)) (n:=n) (by omega) (by rw[List.length_drop];omega);rwa [List.drop_drop,show i'+1+n=i'+n+1 by omega] at this
     have hRV:R<4294967296*V:=by obtain⟨xi,hxi⟩:=get_ex (l:=u) (i:=i') (by omega);rw[hRd,drop_word hxi];have:=xi.toNat_lt;omega
     intro n84 h84;have e84:=h84.eq;have f84:=h84.le;conv=>cbv
     intro n85 h85;conv=>cbv
     refine⟨fun _=>i64 (by omega),?_⟩
     intro n86 h86;conv=>cbv
     refine⟨fun _=>i64 (by omega),?_⟩
     refine⟨fun _=>⟨by omega,by omega,by omega⟩,?_⟩
     rintro a87 b87 ⟨ha87,hb87⟩;conv=>cbv
     rintro o87 c87 ⟨ho87,hc87⟩;conv=>cbv
     have ho87b:o87=i':=by omega
     have hc87b:c87=n+1:=by omega
     have hseg:natL ((u.drop o87).take c87)=R:=by rw[ho87b,hc87b,hRd];exact seg_take (by omega) h0
     obtain⟨r92,hr92⟩:∃n:Int,NatIs n (R/V):=⟨_,⟨rfl⟩⟩
     have er92:=hr92.eq
     have hqw:R/V<4294967296:=(Nat.div_lt_iff_lt_mul hVpos).2 hRV
     obtain⟨Qd,hQd⟩:∃d,d=R/V:=⟨_,rfl⟩
     rw[←hQd] at er92 hqw
     obtain⟨w93,hw93⟩:∃z:List UInt32,z=limbs (R/V*V):=⟨_,rfl⟩
     refine .inr (.inr (.inr (.inl ⟨63,.arr 0 .u32 u,[.one (.lsl .u32 0 0 o87 c87),.one (.sl .u32 w67)],.tup [(false,[.int .u32 r92]),(false,[.sl .u32 w93])],fun _=>⟨rfl,⟨⟨⟨rfl,rfl⟩,rfl⟩,rfl,trivial⟩⟩,fun _=>useD hE (Ydigit_D (n':=n-1) hseg (by omega) (by omega) hyV (by omega) (by omega) hRV hr92 hw93),?_⟩)))
     try conv=>cbv
     refine⟨fun _=>⟨by omega,by omega⟩,?_⟩
     intro j97 hj97;conv=>cbv
     obtain⟨w97,hw97⟩:=u32_ex (n:=r92) (by omega)
     have ew97:=hw97.eq;have fw97:=hw97.lt
     refine⟨w97,fun _=>⟨by show _<List.length (α:=UInt32) q;(first | omega | (simp;omega)),put_w hw97⟩,?_⟩
     intro (l97:List UInt32) (hl97:l97=List.set (α:=UInt32) q j97 w97);have gl97:l97.length=q.length:=by rw[hl97,List.length_set]
     conv=>cbv
     have hnl99:c87≤(u.drop o87).length:=by rw[List.length_drop];omega
     obtain⟨m99,hm99⟩:∃z:Nat,z=(trimL ((u.drop o87).take c87)).length:=⟨_,rfl⟩
     obtain⟨hle99,htk99⟩:=trim_take hnl99 hm99
     refine .inr (.inr (.inl ⟨[],.one (.lsl .u32 0 0 o87 m99),.arr 0 .u32 u,fun _=>⟨by first | decide | simp[idsV,idsC],trivial⟩,fun _=>⟨useB hE (Ytrim_Bo (by omega) (by omega) hm99),rfl,rfl⟩,?_⟩))
     try conv=>cbv
     have hdm:=Nat.div_add_mod R V
     have hmlt:=Nat.mod_lt R hVpos
     have hsub:R-R/V*V=R%V:=by rw[Nat.mul_comm];omega
     obtain⟨w101,hw101⟩:∃z:List UInt32,z=limbs (R%V):=⟨_,rfl⟩
     refine .inr (.inr (.inr (.inl ⟨63,.arr 0 .u32 u,[.one (.lsl .u32 0 0 o87 m99),.one (.sl .u32 w93)],.one (.sl .u32 w101),fun _=>⟨rfl,⟨⟨⟨rfl,rfl⟩,rfl⟩,rfl,trivial⟩⟩,fun _=>useD hE (Yminus_D (a:=R) (b:=R/V*V) rfl (by omega) (by rw[htk99,hseg]) hw93 (by rw[hw101,hsub]) (by rw[Nat.mul_comm];omega) (by omega)),?_⟩)))
     try conv=>cbv
     refine .inr ?_
     obtain⟨J1,hJ1⟩:∃J:List AV→List Blk→Nat→Prop,J=fun vs bl k=>∃(z:List UInt32) (k':Nat) (j:Int),vs=[.one (.int .i64 n60),.one (.lsl .u32 63 0 0 zn63),.one (.sl .u32 w67),.one (.lsl .u32 70 0 0 k70),.one (.int .i64 i),.one (.lsl .u32 63 0 o87 c87),.one (.sl .u32 w101),.one (.int .i64 j)]∧
      bl=[.arr 0 .u32 z,.arr 0 .u32 l97]∧(z.length=u.length∧z.take i'=u.take i'∧z.drop (i'+(n+1))=u.drop (i'+(n+1))∧NatIs j k'∧k'≤n+1)∧natL ((z.drop i').take k')=natL (w101.take k')∧k=n+1-k':=⟨_,rfl⟩
     refine⟨[10,11,12,13,14,15,18,19],[63,70],J1,⟨n+1-0,by rw[hJ1];exact⟨u,0,0,rfl,rfl,⟨rfl,rfl,rfl,natIs 0,by omega⟩,by simp[natL],rfl⟩⟩,?_⟩
     intro vs bl kk1 hj;rw[hJ1] at hj
     obtain⟨z,k',j,rfl,rfl,⟨hzl1,hzt,hzd,hj,hkl⟩,hzv,hk1⟩:=hj
     conv=>cbv
     have ej:=hj.eq
     intro n104 h104;have e104:=h104.eq;conv=>cbv
     intro n105 h105;conv=>cbv
     cases n105 <;> conv=>cbv
     ·have k105:=lss_f h105
      intro n79 h79;conv=>cbv
      refine⟨fun _=>i64 (by omega),?_⟩
      refine⟨i',?_,?_⟩
      ·omega
      rw[hJ0]
      have hk2:k'=n+1:=by omega
      rw[hk2] at hzv
      have hwl:w101.length≤n+1:=by rw[hw101];have:=limbs_len_mono (Nat.le_of_lt hmlt);rw[←hyV] at this;omega
      rw[natL_take_ge (l:=w101) hwl,hw101,natL_limbs] at hzv
      have hwq:w97.toNat=R/V:=by rw[←hQd];omega
      obtain⟨g1,g2⟩:=round_step (u:=u) (z:=z) (A:=A) (V:=V) (i:=i') (n:=n) (Q:=natL (q.drop (i'+1))) (q:=w97.toNat) hzl1 hzt hzd (by omega) h0 (by rw[hwq,hRd]) (by rw[hzv,hRd]) hinv
      refine⟨z,l97,i',n79,rfl,rfl,⟨by omega,by omega,⟨by omega⟩,by omega⟩,?_,?_,rfl⟩
      ·rw[g1];exact Nat.mod_lt _ hVpos
      ·rw[hl97,show j97=i' by omega,drop_word (l:=q.set i' w97) (i:=i') (x:=w97) (by rw[List.getElem?_set_self (by omega)]),List.drop_set_of_lt (by omega)]
       exact g2
     ·have k105:=lss_t h105
      refine .inr ?_
      refine⟨fun _=>⟨by omega,by omega⟩,?_⟩
      intro j110 hj110;conv=>cbv
      obtain⟨w110,hw110⟩:=u32_ex (n:=0) (by omega)
      have ew110:=hw110.eq;have fw110:=hw110.lt
      refine⟨w110,fun _=>⟨by show _<List.length (α:=UInt32) z;(first | omega | (simp;omega)),put_w hw110⟩,?_⟩
      intro (l110:List UInt32) (hl110:l110=List.set (α:=UInt32) z j110 w110);have gl110:l110.length=z.length:=by rw[hl110,List.length_set]
      conv=>cbv
      intro n113 h113;have e113:=h113.eq;have f113:=h113.le;conv=>cbv
      intro n114 h114;conv=>cbv
      refine .inr ?_
      cases n114 <;> conv=>cbv
      ·have k114:=lss_f h114
       intro n107 h107;conv=>cbv
       refine⟨fun _=>i64 (by omega),?_⟩
       refine⟨n+1-(k'+1),?_,?_⟩
       ·omega
       rw[hJ1]
       refine⟨l110,k'+1,n107,rfl,rfl,⟨by omega,?_,?_,⟨by omega⟩,by omega⟩,?_,rfl⟩
       ·rw[hl110,show j110=i'+k' by omega];rw[take_set_le (by omega)];exact hzt
       ·rw[hl110,show j110=i'+k' by omega,List.drop_set_of_lt (by omega)];exact hzd
       ·rw[hl110,show j110=i'+k' by omega,set_seg (by omega),natL_snoc,List.length_take,List.length_drop,Nat.min_eq_left (by omega),hzv,natL_take_ge (l:=w101) (i:=k'+1) (by omega),natL_take_ge (l:=w101) (i:=k') (by omega),show w110.toNat=0 by omega,Nat.mul_zero,Nat.add_zero]
      ·have k114:=lss_t h114
       obtain⟨x119,hx119⟩:=get_ex (l:=w101) (i:=k') (by omega)
       refine⟨x119,fun _=>⟨by omega,by rw[show (j).toNat=k' by omega];exact hx119⟩,?_⟩
       try conv=>cbv
       intro n120 h120;have e120:=h120.eq;have f120:=h120.lt;conv=>cbv
       refine⟨fun _=>⟨by omega,by omega⟩,?_⟩
       intro j121 hj121;conv=>cbv
       obtain⟨w121,hw121⟩:=u32_ex (n:=n120) (by omega)
       have ew121:=hw121.eq;have fw121:=hw121.lt
       refine⟨w121,fun _=>⟨by show _<List.length (α:=UInt32) l110;(first | omega | (simp;omega)),put_w hw121⟩,?_⟩
       intro (l121:List UInt32) (hl121:l121=List.set (α:=UInt32) l110 j121 w121);have gl121:l121.length=l110.length:=by rw[hl121,List.length_set]
       conv=>cbv
       intro n107 h107;conv=>cbv
       refine⟨fun _=>i64 (by omega),?_⟩
       refine⟨n+1-(k'+1),?_,?_⟩
       ·omega
       rw[hJ1]
       refine⟨l121,k'+1,n107,rfl,rfl,⟨by omega,?_,?_,⟨by omega⟩,by omega⟩,?_,rfl⟩
       ·rw[hl121,hl110,show j121=j110 by omega,List.set_set,show j110=i'+k' by omega];rw[take_set_le (by omega)];exact hzt
       ·rw[hl121,hl110,show j121=j110 by omega,List.set_set,show j110=i'+k' by omega,List.drop_set_of_lt (by omega)];exact hzd
       ·rw[hl121,hl110,show j121=j110 by omega,List.set_set,show j110=i'+k' by omega,set_seg (by omega),natL_snoc,List.length_take,List.length_drop,Nat.min_eq_left (by omega),hzv,natL_take_succ hx119,show w121.toNat=x119.toNat by omega]
   ·have k42:=eql_t h42
    obtain⟨x46,hx46⟩:=get_ex (l:=m) (i:=0) (by omega)
    refine⟨x46,fun _=>⟨by omega,hx46⟩,?_⟩
    try conv=>cbv
    intro n47 h47;have e47:=h47.eq;have f47:=h47.lt;conv=>cbv
    have hb46:b=x46.toNat:=by have:=natL_take_succ hx46;rw[show 0+1=m.length by omega,List.take_length,hm,natL_limbs] at this;simpa [natL] using this
    obtain⟨w48,hw48⟩:∃z:List UInt32,z=limbs (natL l/b):=⟨_,rfl⟩
    obtain⟨r48,hr48⟩:∃n:Int,NatIs n (natL l%b):=⟨_,⟨rfl⟩⟩
    have er48:=hr48.eq
    have hrb:=Nat.mod_lt (natL l) hb
    refine cL hE (Yby_ok (d:=n47) (b:=b) (NatIs.of (by omega)) hb (by omega) hw48 hr48 (by omega)) ⟨rfl,rfl,trivial⟩ ?_
    try conv=>cbv
    intro n53 h53;conv=>cbv
    have h53:=wrap_u64 h53
    obtain⟨w54,hw54⟩:∃z:List UInt32,z=limbs (natL l%b):=⟨_,rfl⟩
    refine cL (r:= .one (.sl .u32 w54)) hE (Ywords_ok (NatIs.of (k:=natL l%b) (by generalize natL l%b=Q at *;omega)) (by generalize natL l%b=Q at *;omega) hw54) ⟨rfl,trivial⟩ ?_
    try conv=>cbv
    exact fA ⟨⟨rfl,congrArg _ (by rw[hz1,hw48,hl,natL_limbs]),trivial⟩,⟨rfl,congrArg _ (by rw[hz2,hw54,hl,natL_limbs]),trivial⟩,trivial⟩ rfl (by simp)
  ·have k27:=leq_t h27
   obtain⟨r29,hr29⟩:∃n:Int,NatIs n (a):=⟨_,⟨rfl⟩⟩
   have er29:=hr29.eq
   refine cL (r:= .one (.int .u64 r29)) hE (Yshort_ok (by omega) (by rw[hl,natL_limbs];exact hr29)) ⟨rfl,trivial⟩ ?_
   try conv=>cbv
   obtain⟨r31,hr31⟩:∃n:Int,NatIs n (b):=⟨_,⟨rfl⟩⟩
   have er31:=hr31.eq
   refine cL (r:= .one (.int .u64 r31)) hE (Yshort_ok (by omega) (by rw[hm,natL_limbs];exact hr31)) ⟨rfl,trivial⟩ ?_
   try conv=>cbv
   have ha64:a<18446744073709551616:=by have:=natL_lt l;rw[hl,natL_limbs] at this;exact Nat.lt_of_lt_of_le this (Nat.pow_le_pow_right (by decide) (by rw[←hl];omega:32*(limbs a).length≤64))
   intro n34 h34;conv=>cbv
   refine⟨fun _=>⟨by omega,by omega⟩,?_⟩
   have h34:=wrap_u64 h34
   have bq:=Nat.div_le_self a b
   have h34:n34=((a/b:Nat):Int):=by rw[h34,er29,er31,←Int.natCast_ediv];generalize a/b=Q at *;omega
   obtain⟨w35,hw35⟩:∃z:List UInt32,z=limbs (a/b):=⟨_,rfl⟩
   refine cL (r:= .one (.sl .u32 w35)) hE (Ywords_ok (NatIs.of (k:=a/b) h34) (by generalize a/b=Q at *;omega) hw35) ⟨rfl,trivial⟩ ?_
   try conv=>cbv
   intro n38 h38;conv=>cbv
   refine⟨fun _=>⟨by omega,by omega⟩,?_⟩
   have br:=Nat.mod_lt a hb
   have h38:n38=((a%b:Nat):Int):=by rw[h38,er29,er31];exact (Int.natCast_emod _ _).symm
   obtain⟨w39,hw39⟩:∃z:List UInt32,z=limbs (a%b):=⟨_,rfl⟩
   refine cL (r:= .one (.sl .u32 w39)) hE (Ywords_ok (NatIs.of (k:=a%b) h38) (by generalize a%b=Q at *;omega) hw39) ⟨rfl,trivial⟩ ?_
   try conv=>cbv
   refine⟨fun _=>rfl,?_⟩
   exact fA ⟨⟨rfl,congrArg _ (by rw[hz1,hw35]),trivial⟩,⟨rfl,congrArg _ (by rw[hz2,hw39]),trivial⟩,trivial⟩ rfl (by simp)
 ·have k23:=lss_t h23
  have hlt:a<b:=by rw[hr22] at k23;have:=cmpZ_lt k23;omega
  exact fA ⟨⟨rfl,.inr (.inl ⟨_,congrArg _ (by rw[hz1,Nat.div_eq_of_lt hlt];rfl)⟩),trivial⟩,⟨rfl,congrArg _ (by rw[hz2,Nat.mod_eq_of_lt hlt,hl]),trivial⟩,trivial⟩ rfl (by simp)
end Go.Abs
namespace Go.Abs
open Go.RowKit
variable {b b1 b2 b3:Bool} {l l1 l2 l3:List UInt32} {q x y:Int}
theorem sgn_quo (hy:y≠0) (h:x=q*y):q=if (decide (x<0) !=decide (y<0))=true then -((x.natAbs/y.natAbs:Nat):Int) else ((x.natAbs/y.natAbs:Nat):Int):=by
 have h1:x.natAbs/y.natAbs=q.natAbs:=by rw[h,Int.natAbs_mul,Nat.mul_div_cancel _ (by omega)]
 rw[h1]
 rcases Int.lt_trichotomy q 0 with hq | hq | hq
 ·rcases Int.lt_or_gt_of_ne hy with hy | hy
  ·have:=Int.mul_pos_of_neg_of_neg hq hy
   rw[decide_eq_false (by omega:¬x<0),decide_eq_true hy];simp;omega
  ·have:=Int.mul_neg_of_neg_of_pos hq hy
   rw[decide_eq_true (by omega:x<0),decide_eq_false (by omega:¬y<0)];simp;omega
 ·subst hq
  split <;> simp
 ·rcases Int.lt_or_gt_of_ne hy with hy | hy
  ·have:=Int.mul_neg_of_pos_of_neg hq hy
   rw[decide_eq_true (by omega:x<0),decide_eq_true hy];simp;omega
  ·have:=Int.mul_pos hq hy
   rw[decide_eq_false (by omega:¬x<0),decide_eq_false (by omega:¬y<0)];simp;omega
theorem YDivMod_ex (hx:IsI x b1 l1) (hy:IsI y b2 l2) (hy0:y≠0) (hxy:x=q*y) (hq:IsI q b3 l3) (s1:l1.length≤17592186043000) (s2:l2.length≤17592186043000):CF 215 [.agg [.bool b1,.sl .u32 l1],.agg [.bool b2,.sl .u32 l2]] (.tup [(true,[.bool b3,.sl .u32 l3]),(true,[.bool false,.sl .u32 []]),(false,[.int .i64 0])]):=by
 refine acall_fn Tryz.func215 (by kernel_rfl) rfl fun E hE=>?_
 conv=>cbv
 refine cA hE (YNorm_ok hx) ?_
 try conv=>cbv
 refine cA hE (YNorm_ok hy) ?_
 try conv=>cbv
 refine⟨fun _=>rfl,?_⟩
 intro n17 h17;have e17:=h17.eq;have f17:=h17.le;conv=>cbv
 intro n18 h18;conv=>cbv
 cases n18 <;> conv=>cbv
 ·have k18:=eql_f h18
  obtain⟨w26,hw26⟩:∃z:List UInt32,z=limbs (x.natAbs/y.natAbs):=⟨_,rfl⟩
  obtain⟨v26,hv26⟩:∃z:List UInt32,z=limbs (x.natAbs%y.natAbs):=⟨_,rfl⟩
  refine cL hE (Ydivide_ok hx.mag hy.mag (by omega) hw26 hv26 (by omega)) ⟨rfl,rfl,trivial⟩ ?_
  try conv=>cbv
  intro n33 h33;conv=>cbv
  refine cL (r:= .agg [.bool b3,.sl .u32 l3]) hE (Ysigned_ok (by rw[hw26,natL_limbs,h33,hx.neg,hy.neg];exact sgn_quo hy0 hxy) hq) ⟨rfl,rfl,trivial⟩ ?_
  try conv=>cbv
  obtain⟨zb39,zl39,hz39⟩:=isI_ex (x)
  refine cL (r:= .agg [.bool zb39,.sl .u32 zl39]) hE (YMul_ok hq hy (hxy ▸ hz39) (by rw[hq.mag];have:=limbs_len_mono (show q.natAbs≤x.natAbs by rw[hxy,Int.natAbs_mul];exact Nat.le_mul_of_pos_right _ (by omega));rw[←hx.mag] at this;omega) (by omega)) ⟨⟨rfl,rfl,trivial⟩,⟨rfl,rfl,trivial⟩,trivial⟩ ?_
  try conv=>cbv
  obtain⟨zb40,zl40,hz40⟩:=isI_ex (0)
  refine cL (r:= .agg [.bool zb40,.sl .u32 zl40]) hE (YSub_ok hx hz39 (by rw[Int.sub_self];exact hz40) (by omega) (by rw[hz39.mag,←hx.mag];omega)) ⟨⟨rfl,rfl,trivial⟩,⟨rfl,rfl,trivial⟩,trivial⟩ ?_
  try conv=>cbv
  refine⟨fun _=>rfl,?_⟩
  obtain⟨r42,hr42⟩:∃z:Int,z=sgnI (0:Int):=⟨_,rfl⟩
  refine cA hE (YSign_ok hz40 hr42) ?_
  try conv=>cbv
  obtain⟨r44,hr44⟩:∃z:Int,z=sgnI y:=⟨_,rfl⟩
  refine cA hE (YSign_ok hy hr44) ?_
  try conv=>cbv
  have em:r42*r44=0:=by rw[hr42,show sgnI (0:Int)=0 from rfl,Int.zero_mul]
  intro n45 h45;conv=>cbv
  refine⟨fun _=>i64 (by omega),?_⟩
  intro n46 h46;conv=>cbv
  refine⟨fun _=>rfl,?_⟩
  refine .inr ?_
  cases n46 <;> conv=>cbv
  ·have k46:=lss_f h46
   refine⟨fun _=>rfl,?_⟩
   exact fA ⟨⟨rfl,rfl,rfl,trivial⟩,⟨rfl,congrArg _ ((hz40.neg.trans rfl).symm),congrArg _ ((hz40.mag.trans rfl).symm),trivial⟩,⟨rfl,rfl,trivial⟩,trivial⟩ rfl (by simp)
  ·have k46:=lss_t h46
   exact absurd k46 (by rw[h45,hr42];show ¬_*_<0;rw[show sgnI (0:Int)=0 from rfl,Int.zero_mul];decide)
 ·have k18:=eql_t h18
  exact absurd (hy.len0.1 (by omega)) hy0
theorem YGCD_ok (hx:IsI x b1 l1) (hy:IsI y b2 l2) (hz:IsI ((Nat.gcd x.natAbs y.natAbs:Nat):Int) b3 l3) (s1:l1.length≤17592186043000) (s2:l2.length≤17592186043000):CF 175 [.agg [.bool b1,.sl .u32 l1],.agg [.bool b2,.sl .u32 l2]] (.agg [.bool b3,.sl .u32 l3]):=by
 refine acall_fn Tryz.func175 (by kernel_rfl) rfl fun E hE=>?_
 conv=>cbv
 refine cA hE (Ytrim_A hx.nat hx.mag) ?_
 try conv=>cbv
 refine cA hE (Ytrim_A hy.nat hy.mag) ?_
 try conv=>cbv
 refine⟨fun _=>rfl,?_⟩
 refine .inr ?_
 obtain⟨J0,hJ0⟩:∃J:List AV→List Blk→Nat→Prop,J=fun vs bl k=>∃(u v:List UInt32) (A B:Nat),vs=[.one (.lptr 4 0 0),.one (.sl .u32 u),.one (.sl .u32 v)]∧bl=[.var 0 [.bool false,.nil]]∧(u=limbs A∧v=limbs B∧Nat.gcd A B=Nat.gcd x.natAbs y.natAbs∧u.length≤17592186043000∧v.length≤17592186043000)∧k=B:=⟨_,rfl⟩
 refine⟨[4,5,6],[4],J0,⟨y.natAbs,by rw[hJ0];exact⟨l1,l2,x.natAbs,y.natAbs,rfl,rfl,⟨hx.mag,hy.mag,rfl,s1,s2⟩,rfl⟩⟩,?_⟩
 intro vs bl kk0 hj;rw[hJ0] at hj
 obtain⟨u,v,A,B,rfl,rfl,⟨hu,hv,hG,hul,hvl⟩,hk0⟩:=hj
 conv=>cbv
 intro n16 h16;have e16:=h16.eq;have f16:=h16.le;conv=>cbv
 intro n17 h17;conv=>cbv
 cases n17 <;> conv=>cbv
 ·have k17:=gtr_f h17
  have hB00:B=0:=limbs_eq_nil.1 (by rw[←hv];exact List.eq_nil_of_length_eq_zero (by omega))
  refine cL (r:= .agg [.bool b3,.sl .u32 l3]) hE (Ysigned_ok (n:=false) (by rw[hu,natL_limbs,←hG,hB00,Nat.gcd_zero_right];rfl) hz) ⟨rfl,rfl,trivial⟩ ?_
  try conv=>cbv
  exact fA ⟨⟨rfl,rfl,rfl,trivial⟩,trivial⟩ rfl (by simp)
 ·have k17:=gtr_t h17
  refine .inr ?_
  have hB0:0<B:=by apply Nat.pos_of_ne_zero;intro e;rw[e,limbs_zero] at hv;rw[hv] at *;simp at *;omega
  obtain⟨w21,hw21⟩:∃z:List UInt32,z=limbs (A/B):=⟨_,rfl⟩
  obtain⟨v21,hv21⟩:∃z:List UInt32,z=limbs (A%B):=⟨_,rfl⟩
  refine cL hE (Ydivide_ok hu hv hB0 hw21 hv21 (by omega)) ⟨rfl,rfl,trivial⟩ ?_
  try conv=>cbv
  refine⟨A%B,?_,?_⟩
  ·rw[hk0];exact Nat.mod_lt _ hB0
  rw[hJ0]
  exact⟨v,v21,B,A%B,rfl,rfl,⟨hv,hv21,by rw[←hG,Nat.gcd_comm B,←Nat.gcd_rec,Nat.gcd_comm],hvl,by have:=limbs_len_mono (Nat.le_of_lt (Nat.mod_lt A hB0));rw[←hv21,←hv] at this;omega⟩,rfl⟩
theorem YBits_ok {c:Int} (hx:IsI x b l) (hc:NatIs c (nbits x.natAbs)) (sl:l.length≤17592186043000):CF 228 [.agg [.bool b,.sl .u32 l]] (.one (.int .i64 c)):=by
 refine acall_fn Tryz.func228 (by kernel_rfl) rfl fun E hE=>?_
 conv=>cbv
 refine cA hE (Ytrim_A hx.nat hx.mag) ?_
 try conv=>cbv
 refine cL hE (Ylength_ok hx.mag hc (by omega)) ⟨rfl,trivial⟩ ?_
 try conv=>cbv
 exact fA ⟨⟨rfl,rfl,trivial⟩,trivial⟩ rfl (by simp)
theorem YValid_ok (hx:IsI x b l):CF 217 [.agg [.bool b,.sl .u32 l]] (.one (.bool true)):=by
 refine acall_fn Tryz.func217 (by kernel_rfl) rfl fun E hE=>?_
 conv=>cbv
 refine cA hE (Ytrim_A hx.nat hx.mag) ?_
 try conv=>cbv
 intro n6 h6;have e6:=h6.eq;have f6:=h6.le;conv=>cbv
 intro n9 h9;have e9:=h9.eq;have f9:=h9.le;conv=>cbv
 intro n10 h10;conv=>cbv
 cases n10 <;> conv=>cbv
 ·have k10:=eql_f h10
  refine⟨fun _=>rfl,?_⟩
  exfalso;omega
 ·have k10:=eql_t h10
  intro n14 h14;conv=>cbv
  cases n14 <;> conv=>cbv
  ·have k14:=not_f h14
   intro n18 h18;have e18:=h18.eq;have f18:=h18.le;conv=>cbv
   intro n19 h19;conv=>cbv
   refine⟨fun _=>rfl,?_⟩
   exact fA ⟨⟨rfl,congrArg _ (by have hb:b=true:=(by cases b with | false=>cases h14 | true=>rfl);have h1:=hx.neg;rw[hb] at h1;have hx0:x<0:=of_decide_eq_true h1.symm;have h2:l.length≠0:=(fun e=>by have:=hx.len0.1 e;omega);rw[h19,decide_eq_true (by omega)]),trivial⟩,trivial⟩ rfl (by simp)
  ·have k14:=not_t h14
   refine⟨fun _=>rfl,?_⟩
   exact fA ⟨⟨rfl,rfl,trivial⟩,trivial⟩ rfl (by simp)
end Go.Abs
