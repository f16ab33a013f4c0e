/- Part 25 of a proof. Conditions: each theorem's own. -/
import Derived.Test.YtpccjlcpbehglaaGreatPk13
import Derived.Test.YtpccjlcpbehglaaGreatPk17
import Derived.Test.YtpccjlcpbehglaaGreatPk23
set_option linter.all false
set_option maxHeartbeats 8000000
open Go.Proofs
namespace Go.Abs
open Go.RowKit
theorem LeadingZeros32_ok {x c:Int} {k:Nat} (hx:NatIs x k) (hk0:k≠0) (hk:k<4294967296) (hc:NatIs c (32-Lib.bitLen k)):CF 253 [.one (.int .u32 x)] (.one (.int .i64 c)):=by
 refine acall_fn Tryz.func253 (by kernel_rfl) rfl fun E hE=>?_
 conv=>cbv
 obtain⟨r4,hr4⟩:∃n:Int,NatIs n (Lib.bitLen k):=⟨_,⟨rfl⟩⟩
 have er4:=hr4.eq
 refine cA hE (Len32_ok hx hk hr4) ?_
 try conv=>cbv
 have hb:=bitLen_spec hk hk0
 intro n5 h5;conv=>cbv
 refine⟨fun _=>i64 (by omega),?_⟩
 exact fA ⟨⟨rfl,congrArg _ (by rw[hc.eq];omega),trivial⟩,trivial⟩ rfl (by simp)
theorem divide_ok {l m z1 z2:List UInt32} {a b:Nat} (hl:l=limbs a) (hm:m=limbs b) (hb:0<b) (hz1:z1=limbs (a/b)) (hz2:z2=limbs (a%b)) (sl:l.length≤17592186044000):CF 245 [.one (.sl .u32 l),.one (.sl .u32 m)] (.tup [(false,[.sl .u32 z1]),(false,[.sl .u32 z2])]):=by
 refine acall_fn Tryz.func245 (by kernel_rfl) rfl fun E hE=>?_
 conv=>cbv
 refine .inr ?_
 obtain⟨r22,hr22⟩:∃z:Int,z=cmpZ a b:=⟨_,rfl⟩
 refine cA hE (compare_ok hl hm hr22) ?_
 try conv=>cbv
 intro n23 h23;conv=>cbv
 cases n23 <;> conv=>cbv
 ·have k23:=lss_f h23
  have hba:b≤a:=by rw[hr22] at k23;have:=cmpZ_ge k23;omega
  have hml:m.length≤l.length:=by rw[hl,hm];exact limbs_len_mono hba
  intro n28 h28;have e28:=h28.eq;have f28:=h28.le;conv=>cbv
  intro n29 h29;conv=>cbv
  cases n29 <;> conv=>cbv
  ·have k29:=leq_f h29
   intro n44 h44;have e44:=h44.eq;have f44:=h44.le;conv=>cbv
   intro n45 h45;conv=>cbv
   cases n45 <;> conv=>cbv
   ·have k45:=eql_f h45
    have hm0:m.length≠0:=fun e=>by have e2:=List.eq_nil_of_length_eq_zero e;rw[hm] at e2;have:=limbs_eq_nil.1 e2;omega
    obtain⟨n,hn⟩:∃n,n=m.length:=⟨_,rfl⟩
    have hn2:2≤n:=by omega
    intro n55 h55;have e55:=h55.eq;have f55:=h55.le;conv=>cbv
    intro n56 h56;conv=>cbv
    refine⟨fun _=>i64 (by omega),?_⟩
    obtain⟨x57,hx57⟩:=get_ex (l:=m) (i:=(n-1)) (by omega)
    refine⟨x57,fun _=>⟨by omega,by rw[show (n56).toNat=(n-1) by omega];exact hx57⟩,?_⟩
    try conv=>cbv
    have hx57b:=hx57
    rw[hm] at hx57b
    have hx570:x57.toNat≠0:=canon_last hx57b (by rw[←hm];omega)
    intro n58 h58;have e58:=h58.eq;have f58:=h58.lt;conv=>cbv
    obtain⟨s,hs⟩:∃s,s=32-Lib.bitLen x57.toNat:=⟨_,rfl⟩
    have hbl:=bitLen_spec (x:=x57.toNat) (by omega) hx570
    obtain⟨r59,hr59⟩:∃n:Int,NatIs n s:=⟨_,⟨rfl⟩⟩
    have er59:=hr59.eq
    refine cL hE (LeadingZeros32_ok (k:=x57.toNat) (NatIs.of (by omega)) hx570 (by omega) (hs ▸ hr59)) ⟨rfl,trivial⟩ ?_
    try conv=>cbv
    obtain⟨z62,hz621,hz622⟩:=pad_ex (N:=natL l*2^s) (k:=l.length+1) (shl_lt l (by omega))
    obtain⟨zn62,hzn62⟩:∃k,k=z62.length:=⟨_,rfl⟩
    refine cL hE (shiftLeft_own hr59 (by omega) hz621 hz622 hzn62 (by omega)) ⟨rfl,rfl,trivial⟩ ?_
    try conv=>cbv
    obtain⟨z65,hz651,hz652⟩:=pad_ex (N:=natL m*2^s) (k:=m.length+1) (shl_lt m (by omega))
    refine cL hE (acall_plain (shiftLeft_own hr59 (by omega) hz651 hz652 rfl (by omega))) ⟨rfl,rfl,trivial⟩ ?_
    try conv=>cbv
    obtain⟨w66,hw66⟩:∃z:List UInt32,z=limbs (natL m*2^s):=⟨_,rfl⟩
    refine cA hE (trim_A hz652 hw66) ?_
    try conv=>cbv
    obtain⟨hwl,hwV⟩:=shift_len (b:=b) (n:=n) (s:=s) (x:=x57) (k:=Lib.bitLen x57.toNat) (by rw[←hm,hn]) (by omega) hx57b hbl.1 hbl.2.1 hbl.2.2.1 hbl.2.2.2 hs
    have hV:natL w66=b*2^s:=by rw[hw66,natL_limbs,hm,natL_limbs]
    have hwn:w66.length=n:=by rw[hw66,hm,natL_limbs];exact hwl
    rw[←hV] at hwV
    intro n68 h68;have e68:=h68.eq;have f68:=h68.le;conv=>cbv
    intro n70 h70;have e70:=h70.eq;conv=>cbv
    intro n72 h72;conv=>cbv
    refine⟨fun _=>i64 (by omega),?_⟩
    refine⟨fun _=>⟨by omega,by omega,by show _*4≤140737488355328;omega⟩,?_⟩
    intro k73 (l73:List UInt32) ql73;have hk73:=ql73.1;have hl73:l73=List.replicate k73 (0:el .u32):=ql73.2;have gl73:l73.length=k73:=by rw[hl73,List.length_replicate]
    conv=>cbv
    intro n76 h76;conv=>cbv
    refine⟨fun _=>i64 (by omega),?_⟩
    obtain⟨x77,hx77⟩:=get_ex (l:=w66) (i:=(n-1)) (by omega)
    refine⟨x77,fun _=>⟨by omega,by rw[show (n76).toNat=(n-1) by omega];exact hx77⟩,?_⟩
    try conv=>cbv
    intro n78 h78;have e78:=h78.eq;have f78:=h78.lt;conv=>cbv
    intro n79 h79;conv=>cbv
    have h79:=wrap_u64 h79
    intro n82 h82;conv=>cbv
    refine⟨fun _=>i64 (by omega),?_⟩
    obtain⟨x83,hx83⟩:=get_ex (l:=w66) (i:=(n-2)) (by omega)
    refine⟨x83,fun _=>⟨by omega,by rw[show (n82).toNat=(n-2) by omega];exact hx83⟩,?_⟩
    try conv=>cbv
    intro n84 h84;have e84:=h84.eq;have f84:=h84.lt;conv=>cbv
    intro n85 h85;conv=>cbv
    have h85:=wrap_u64 h85
    refine⟨fun _=>rfl,?_⟩
    obtain⟨A,hA⟩:∃A,A=natL z62:=⟨_,rfl⟩
    obtain⟨high,hhigh⟩:∃k,k=x77.toNat:=⟨_,rfl⟩
    obtain⟨next,hnext⟩:∃k,k=x83.toNat:=⟨_,rfl⟩
    obtain⟨hVf,hVf2⟩:=top_two hwn hx77 hx83 hn2
    rw[←hhigh,←hnext] at hVf
    rw[←hhigh] at hVf2
    have hV0:=take_lt (l:=w66) (n:=n-2)
    have hV1:=take_lt (l:=w66) (n:=n-1)
    have hhi:=high_big hwV hVf2 hV1
    have hstart:natL (z62.drop k73)<natL w66:=start_small hz622 (by omega) hz621 (by omega) (by omega) hwV
    have hwlt:=natL_lt w66
    rw[hwn] at hwlt
    have hVpos:0<natL w66:=by omega
    have hk73n:k73+n=l.length+1:=by omega
    have hzl:zn62=l.length+1∧z62.length=l.length+1:=by omega
    have hs31:s≤31:=by omega
    have e79:n79=(high:Int):=by omega
    have e85:n85=(next:Int):=by omega
    have hhl:high<4294967296:=by omega
    have hnl:next<4294967296:=by omega
    have hn68:n68=(n:Int):=by omega
    have hVpos:0<natL w66:=by omega
    have hk73n:k73+n=l.length+1:=by omega
    have hzl:zn62=l.length+1∧z62.length=l.length+1:=by omega
    have hs31:s≤31:=by omega
    have e79:n79=(high:Int):=by omega
    have e85:n85=(next:Int):=by omega
    have hhl:high<4294967296:=by omega
    have hnl:next<4294967296:=by omega
    have hn68:n68=(n:Int):=by omega
    have hVM:natL w66≤2^(32*(n+1)):=by rw[pow32];omega
    intro n87 h87;have e87:=h87.eq;conv=>cbv
    intro n88 h88;conv=>cbv
    refine⟨fun _=>i64 (by omega),?_⟩
    refine .inr ?_
    obtain⟨J0,hJ0⟩:∃J:List AV→List Blk→Nat→Prop,J=fun vs bl k=>∃(u q:List UInt32) (j':Nat) (i:Int),vs=[.one (.int .i64 r59),.one (.lsl .u32 62 0 0 zn62),.one (.sl .u32 w66),.one (.int .i64 n68),.one (.lsl .u32 73 0 0 k73),.one (.int .u64 n79),.one (.int .u64 n85),.one (.int .i64 i)]∧
     bl=[.arr 0 .u32 u,.arr 0 .u32 q]∧(u.length=z62.length∧q.length=k73∧NatIs (i+1) j'∧j'≤k73)∧natL (u.drop j')<natL w66∧A=natL u+2^(32*j')*natL (q.drop j')*natL w66∧k=j':=⟨_,rfl⟩
    refine⟨[8,9,10,11,12,13,14,15],[62,73],J0,⟨k73,by rw[hJ0];exact⟨z62,l73,k73,n88,rfl,rfl,⟨rfl,by rw[hl73,List.length_replicate],⟨by omega⟩,by omega⟩,hstart,by rw[List.drop_eq_nil_of_le (by rw[hl73,List.length_replicate];omega)];simp[natL,hA],rfl⟩⟩,?_⟩
    intro vs bl kk0 hj;rw[hJ0] at hj
    obtain⟨u,q,j',i,rfl,rfl,⟨hul,hql,hi,hjl⟩,hlt,hinv,hk0⟩:=hj
    conv=>cbv
    clear hr22 h23 k23 hba hml h28 e28 f28 h29 k29 h44 e44 f44 h45 k45 hm0 hn h55 e55 f55 h56 hx57 hx57b hx570 h58 e58 f58 hs hbl hz621 hzn62 hz651 hz652 hw66 hwl h68 e68 f68 h70 e70 h72 hk73 hl73 gl73 h76 hx77 h78 e78 f78 h79 h82 hx83 h84 e84 f84 h85 hhigh hnext hstart h87 e87 h88
    have ei:=hi.eq
    intro n90 h90;conv=>cbv
    cases n90 <;> conv=>cbv
    ·have k90:=geq_f h90
     have hnl169:k73≤(q).length:=by omega
     obtain⟨m169,hm169⟩:∃z:Nat,z=(trimL ((q).take k73)).length:=⟨_,rfl⟩
     obtain⟨hle169,htk169⟩:=trim_take hnl169 hm169
     refine .inr (.inr (.inl ⟨[],.one (.lsl .u32 0 0 0 m169),.arr 0 .u32 q,fun _=>⟨by first | decide | simp[idsV,idsC],trivial⟩,fun _=>⟨useB hE (trim_B hnl169 (by omega) hm169),rfl,rfl⟩,?_⟩))
     try conv=>cbv
     refine⟨fun _=>⟨by omega,by omega⟩,?_⟩
     intro b172 hb172;conv=>cbv
     rintro o172 c172 ⟨ho172,hc172⟩;conv=>cbv
     have ho172:o172=0:=by omega
     subst ho172
     have hnl173:c172≤u.length:=by omega
     obtain⟨m173,hm173⟩:∃z:Nat,z=(trimL (u.take c172)).length:=⟨_,rfl⟩
     obtain⟨hle173,htk173⟩:=trim_take hnl173 hm173
     refine .inr (.inr (.inl ⟨[],.one (.lsl .u32 0 0 0 m173),.arr 0 .u32 u,fun _=>⟨by first | decide | simp[idsV,idsC],trivial⟩,fun _=>⟨useB hE (trim_B hnl173 (by omega) hm173),rfl,rfl⟩,?_⟩))
     try conv=>cbv
     have hl175:(u.take m173).length≤u.length:=by rw[List.length_take];omega
     obtain⟨z175,hz1751,hz1752⟩:=pad_ex (N:=natL (u.take m173)/2^s) (k:=(u.take m173).length) (Nat.lt_of_le_of_lt (Nat.div_le_self _ _) (natL_lt _))
     refine .inr (.inl ⟨[.one (.sl .u32 ((u).take m173)),.one (.int .i64 r59)],.one (.sl .u32 z175),fun _=>⟨⟨_,rfl,by simp <;> omega,by simp⟩,rfl,trivial⟩,fun _=>useC hE (acall_plain (acall_flat rfl (shiftRight_own hr59 (by omega) hz1751 hz1752 rfl (by omega)))),?_⟩)
     try conv=>cbv
     obtain⟨w176,hw176⟩:∃z:List UInt32,z=limbs (natL (u.take m173)/2^s):=⟨_,rfl⟩
     refine cA hE (trim_A hz1752 hw176) ?_
     try conv=>cbv
     refine⟨fun _=>rfl,?_⟩
     have hj0:j'=0:=by omega
     rw[hj0,List.drop_zero] at hlt
     have hinv2:A=natL u+natL q*natL w66:=by rw[hj0] at hinv;simpa using hinv
     have hA2:A=a*2^s:=by rw[hA,hz622,hl,natL_limbs]
     obtain⟨e1,e2⟩:=divide_end hA2 hV hinv2 hlt hb
     have hcn:c172=n:=by omega
     have hun:natL (u.take c172)=natL u:=by rw[hcn];have h1:=natL_take_add_drop u n (by omega);rw[high_zero (by omega) (by omega)] at h1;omega
     have hum:natL (u.take m173)=natL u:=by rw[htk173,natL_limbs,hun]
     exact fA ⟨⟨rfl,.inl ⟨_,rfl,by omega,congrArg _ (by rw[List.drop_zero,htk169,←hql,List.take_length,e1,hz1])⟩,trivial⟩,⟨rfl,congrArg _ (by rw[hz2,hw176,hum,e2]),trivial⟩,trivial⟩ rfl (by simp)
    ·have k90:=geq_t h90
     refine .inr ?_
     obtain⟨i',rfl⟩:∃i',j'=i'+1:=⟨j'-1,by omega⟩
     intro n96 h96;conv=>cbv
     refine⟨fun _=>i64 (by omega),?_⟩
     refine⟨fun _=>⟨by omega,by omega⟩,?_⟩
     intro j97 hj97;conv=>cbv
     obtain⟨x98,hx98⟩:=get_ex (l:=u) (i:=j97) (by omega)
     refine⟨x98,fun _=>hx98,?_⟩
     try conv=>cbv
     intro n98 h98;have e98:=h98.eq;have f98:=h98.lt;conv=>cbv
     intro n99 h99;conv=>cbv
     have h99:=wrap_u64 h99
     intro n100 h100;conv=>cbv
     refine⟨fun _=>by omega,?_⟩
     have h100:=shl_u64 (p:=4294967296) h100 rfl
     intro n104 h104;conv=>cbv
     refine⟨fun _=>i64 (by omega),?_⟩
     intro n105 h105;conv=>cbv
     refine⟨fun _=>i64 (by omega),?_⟩
     refine⟨fun _=>⟨by omega,by omega⟩,?_⟩
     intro j106 hj106;conv=>cbv
     obtain⟨x107,hx107⟩:=get_ex (l:=u) (i:=j106) (by omega)
     refine⟨x107,fun _=>hx107,?_⟩
     try conv=>cbv
     intro n107 h107;have e107:=h107.eq;have f107:=h107.lt;conv=>cbv
     intro n108 h108;conv=>cbv
     have h108:=wrap_u64 h108
     intro n109 h109;conv=>cbv
     have h109:=or_hilo (p:=x98.toNat) (q:=x107.toNat) h109 (by omega) (by omega) (by omega) (by omega)
     refine⟨fun _=>rfl,?_⟩
     obtain⟨x130y,hy130⟩:=get_ex (l:=u) (i:=i'+n-2) (by omega)
     obtain⟨u3,hu3⟩:∃k,k=x130y.toNat:=⟨_,rfl⟩
     obtain⟨R,hRd⟩:∃R,R=natL (u.drop i'):=⟨_,rfl⟩
     obtain⟨top,htop⟩:∃t,t=x107.toNat+4294967296*x98.toNat:=⟨_,rfl⟩
     have h0:natL (u.drop (i'+n+1))=0:=by have:=high_zero (l:=u.drop (i'+1)) (n:=n) (by omega) (by rw[List.length_drop];omega);rwa [List.drop_drop,show i'+1+n=i'+n+1 by omega] at this
     have hx97:u[i'+n]? =some x98:=by rw[←hx98];congr 1;omega
     have hx106:u[i'+n-1]? =some x107:=by rw[←hx107];congr 1;omega
     have hRf:=top_words hx97 hx106 hy130 hn2 h0
     have hRf2:=top_words2 hx97 hx106 (by omega) h0
     rw[←htop,←hu3,←hRd] at hRf
     rw[←htop,←hRd] at hRf2
     have hR0:=take_lt (l:=u.drop i') (n:=n-2)
     have hR1:=take_lt (l:=u.drop i') (n:=n-1)
     have hRV:R<4294967296*natL w66:=by obtain⟨xi,hxi⟩:=get_ex (l:=u) (i:=i') (by omega);rw[hRd,drop_word hxi];have:=xi.toNat_lt;omega
     have hRM:R<2^(32*(n+1)):=by rw[pow32];omega
     have htl:=top_small hRf2 hVf2 hV1 hRV
     have hg0:=guess_start hRf2 hR1 hVf2 hhi (by omega) htl
     have hqw:R/natL w66<4294967296:=(Nat.div_lt_iff_lt_mul hVpos).2 hRV
     have hbig:top<18446744073709551616:=by have:=x107.toNat_lt;have:=x98.toNat_lt;omega
     intro n112 h112;conv=>cbv
     refine⟨fun _=>⟨by omega,by omega⟩,?_⟩
     have h112:=wrap_u64 h112
     have e112:n112=((top/high:Nat):Int):=by rw[h112,h109,e79,←htop,←Int.natCast_ediv];have:=Nat.div_le_self top high;generalize top/high=Q at *;omega
     intro n115 h115;conv=>cbv
     refine⟨fun _=>⟨by omega,by omega⟩,?_⟩
     have e115:n115=((top%high:Nat):Int):=by rw[h115,h109,e79,←htop];exact (Int.natCast_emod _ _).symm
     refine⟨fun _=>rfl,?_⟩
     obtain⟨K3,hK3⟩:∃J:List AV→List Blk→Prop,J=fun vs bl=>∃(Dd:Nat) (d:Int),vs=[.one (.int .i64 r59),.one (.lsl .u32 62 0 0 zn62),.one (.sl .u32 w66),.one (.int .i64 n68),.one (.lsl .u32 73 0 0 k73),.one (.int .u64 n79),.one (.int .u64 n85),.one (.int .i64 i),.one (.int .u64 d)]∧bl=[.arr 0 .u32 u,.arr 0 .u32 q]∧NatIs d Dd∧Near R (natL w66) Dd:=⟨_,rfl⟩
     refine .inl ⟨[8,9,10,11,12,13,14,15,17],[62,73],K3,?_,?_⟩
     ·intro vs bl hj;rw[hK3] at hj
      obtain⟨Dd,d,rfl,rfl,hDd,hnear⟩:=hj
      conv=>cbv
      clear k90 h96 hj97 hx98 h98 e98 f98 h99 h100 h104 h105 hj106 hx107 h107 e107 f107 h108 h109 hy130 hu3 htop hx97 hx106 hRf hRf2 hR0 hR1 hRV htl hg0 hbig h112 e112 h115 e115
      have eDd:=hDd.eq
      intro n146 h146;conv=>cbv
      refine⟨fun _=>i64 (by omega),?_⟩
      intro n147 h147;conv=>cbv
      refine⟨fun _=>i64 (by omega),?_⟩
      refine⟨fun _=>⟨by omega,by omega,by omega⟩,?_⟩
      rintro a148 b148 ⟨ha148,hb148⟩;conv=>cbv
      rintro o148 c148 ⟨ho148,hc148⟩;conv=>cbv
      have hDw:=hnear.word
      have hseg:natL ((u.drop i').take (n+1))=R:=by rw[hRd];exact seg_take (by omega) h0
      obtain⟨b151,S151,hS151,hSl151⟩:=sub_val_ex (M:=2^(32*(n+1))) hnear hVpos hRM hVM
      have ho148:i'=o148:=by omega
      have hc148:n+1=c148:=by omega
      subst ho148 hc148
      obtain⟨z151,hz1511,hz1512,hz1513,hz1514⟩:=seg_ex (u:=u) (off:=i') (len:=n+1) hSl151 (by omega)
      refine .inr (.inr (.inl ⟨[.one (.sl .u32 w66),.one (.int .u64 d)],.one (.bool b151),.arr 0 .u32 z151,fun _=>⟨by first | decide | simp[idsV,idsC],⟨rfl,rfl,trivial⟩⟩,fun _=>⟨useB hE (subtract_B (d:=Dd) (by omega) (by omega) hDd hnear.word (by omega) hz1511 hz1512 hz1513 (by rw[hz1514,hseg];exact hS151)),rfl,rfl⟩,?_⟩))
      try conv=>cbv
      obtain⟨J151,hJ151⟩:∃J:List AV→List Blk→Prop,J=fun vs bl=>∃(z:List UInt32) (q0:Nat) (d:Int),vs=[.one (.int .i64 r59),.one (.lsl .u32 62 0 0 zn62),.one (.sl .u32 w66),.one (.int .i64 n68),.one (.lsl .u32 73 0 0 k73),.one (.int .u64 n79),.one (.int .u64 n85),.one (.int .i64 i),.one (.int .u64 d)]∧bl=[.arr 0 .u32 z,.arr 0 .u32 q]∧NatIs d q0∧(q0=R/natL w66∧q0<4294967296)∧(z.length=u.length∧z.take i'=u.take i'∧z.drop (i'+(n+1))=u.drop (i'+(n+1)))∧natL ((z.drop i').take (n+1))=R%natL w66:=⟨_,rfl⟩
      refine .inl ⟨[8,9,10,11,12,13,14,15,17],[62,73],J151,?_,?_⟩
      ·intro vs bl hj;rw[hJ151] at hj
       obtain⟨z,q0,d,rfl,rfl,hq0,⟨hqR,hqlt⟩,⟨hzl1,hzt,hzd⟩,hzv⟩:=hj
       conv=>cbv
       have eq0:=hq0.eq
       intro n166 h166;conv=>cbv
       have h166:=wrap_u32 h166
       refine⟨fun _=>⟨by omega,by omega⟩,?_⟩
       intro j167 hj167;conv=>cbv
       obtain⟨w167,hw167⟩:=u32_ex (n:=n166) (by omega)
       have ew167:=hw167.eq;have fw167:=hw167.lt
       refine⟨w167,fun _=>⟨by show _<List.length (α:=UInt32) q;(first | omega | (simp;omega)),put_w hw167⟩,?_⟩
       intro (l167:List UInt32) (hl167:l167=List.set (α:=UInt32) q j167 w167);have gl167:l167.length=q.length:=by rw[hl167,List.length_set]
       conv=>cbv
       intro n92 h92;conv=>cbv
       refine⟨fun _=>i64 (by omega),?_⟩
       refine⟨i',?_,?_⟩
       ·omega
       rw[hJ0]
       have hwq:w167.toNat=R/natL w66:=by rw[←hqR];omega
       obtain⟨g1,g2⟩:=round_step (u:=u) (z:=z) (A:=A) (V:=natL w66) (i:=i') (n:=n) (Q:=natL (q.drop (i'+1))) (q:=w167.toNat) hzl1 hzt hzd (by omega) h0 (by rw[hwq,hRd]) (by rw[hzv,hRd]) hinv
       refine⟨z,l167,i',n92,rfl,rfl,⟨by omega,by omega,⟨by omega⟩,by omega⟩,?_,?_,rfl⟩
       ·rw[g1];exact Nat.mod_lt _ hVpos
       ·rw[hl167,show j167=i' by omega,drop_word (l:=q.set i' w167) (i:=i') (x:=w167) (by rw[List.getElem?_set_self (by omega)]),List.drop_set_of_lt (by omega)]
        exact g2
      cases b151 <;> conv=>cbv
      ·rw[hJ151]
       obtain⟨e1,e2⟩:=(near_sub hnear hVpos hS151 hSl151).1 rfl
       exact⟨z151,Dd,_,rfl,rfl,hDd,⟨e1,hDw⟩,⟨hz1511,hz1512,hz1513⟩,by rw[hz1514,e2]⟩
      ·intro n153 h153;conv=>cbv
       have h153:=wrap_u64 h153
       intro n158 h158;conv=>cbv
       refine⟨fun _=>i64 (by omega),?_⟩
       intro n159 h159;conv=>cbv
       refine⟨fun _=>i64 (by omega),?_⟩
       refine⟨fun _=>⟨by omega,by omega,by omega⟩,?_⟩
       rintro a160 b160 ⟨ha160,hb160⟩;conv=>cbv
       rintro o160 c160 ⟨ho160,hc160⟩;conv=>cbv
       have ho160:i'=o160:=by omega
       have hc160:n+1=c160:=by omega
       subst ho160 hc160
       obtain⟨z162,hz1621,hz1622,hz1623,hz1624⟩:=seg_ex (u:=z151) (off:=i') (len:=n+1) (S:=(S151+natL w66)%2^(32*(n+1))) (Nat.mod_lt _ (Nat.two_pow_pos _)) (by omega)
       refine .inr (.inr (.inl ⟨[.one (.sl .u32 w66)],.tup [],.arr 0 .u32 z162,fun _=>⟨by first | decide | simp[idsV,idsC],⟨rfl,trivial⟩⟩,fun _=>⟨useB hE (restore_B (by omega) (by omega) (by omega) hz1621 hz1622 hz1623 (by rw[hz1624,hz1514])),rfl,rfl⟩,?_⟩))
       try conv=>cbv
       rw[hJ151]
       obtain⟨e1,e2,e3⟩:=(near_sub hnear hVpos hS151 hSl151).2 rfl
       exact⟨z162,Dd-1,_,rfl,rfl,⟨by omega⟩,⟨e1,by omega⟩,⟨hz1621.trans hz1511,hz1622.trans hz1512,hz1623.trans hz1513⟩,by rw[hz1624,e3 (Nat.lt_of_le_of_lt (Nat.mod_le _ _) hRM)]⟩
     obtain⟨J1,hJ1⟩:∃J:List AV→List Blk→Nat→Prop,J=fun vs bl k=>∃(D r':Nat) (d r:Int),vs=[.one (.int .i64 r59),.one (.lsl .u32 62 0 0 zn62),.one (.sl .u32 w66),.one (.int .i64 n68),.one (.lsl .u32 73 0 0 k73),.one (.int .u64 n79),.one (.int .u64 n85),.one (.int .i64 i),.one (.int .u64 d),.one (.int .u64 r)]∧
      bl=[.arr 0 .u32 u,.arr 0 .u32 q]∧(NatIs d D∧NatIs r r')∧Guess R (natL w66) top high D r'∧k=D:=⟨_,rfl⟩
     refine⟨[8,9,10,11,12,13,14,15,17,18],[62,73],J1,⟨top/high,by rw[hJ1];exact⟨top/high,top%high,n112,n115,rfl,rfl,⟨⟨e112⟩,⟨e115⟩⟩,hg0,rfl⟩⟩,?_⟩
     intro vs bl kk1 hj;rw[hJ1] at hj
     obtain⟨D,r',d,r,rfl,rfl,⟨hd,hr⟩,hg,hk1⟩:=hj
     conv=>cbv
     clear k90 h96 hj97 hx98 h98 e98 f98 h99 h100 h104 h105 hj106 hx107 h107 e107 f107 h108 h109 h112 e112 h115 e115
     have ed:=hd.eq
     have er:=hr.eq
     intro n117 h117;conv=>cbv
     cases n117 <;> conv=>cbv
     ·have k117:=geq_f h117
      intro n121 h121;conv=>cbv
      have h121:=wrap_u64 h121
      obtain⟨p121,hp121,h121⟩:∃p:Nat,p=D*next∧n121=p:=⟨_,rfl,by rw[h121,ed,e85,←Int.natCast_mul];have:=Nat.mul_le_mul (by omega:D≤4294967295) (by omega:next≤4294967295);omega⟩
      intro n123 h123;conv=>cbv
      refine⟨fun _=>by omega,?_⟩
      have h123:=shl_u64 (p:=4294967296) h123 rfl
      intro n127 h127;conv=>cbv
      refine⟨fun _=>i64 (by omega),?_⟩
      intro n128 h128;conv=>cbv
      refine⟨fun _=>i64 (by omega),?_⟩
      refine⟨fun _=>⟨by omega,by omega⟩,?_⟩
      intro j129 hj129;conv=>cbv
      obtain⟨x130,hx130⟩:=get_ex (l:=u) (i:=j129) (by omega)
      refine⟨x130,fun _=>hx130,?_⟩
      try conv=>cbv
      intro n130 h130;have e130:=h130.eq;have f130:=h130.lt;conv=>cbv
      intro n131 h131;conv=>cbv
      have h131:=wrap_u64 h131
      intro n132 h132;conv=>cbv
      have x130e:x130=x130y:=by rw[show j129=i'+n-2 by omega,hy130] at hx130;exact (Option.some.inj hx130).symm
      have hrr:=hg.rest
      have h132:=or_hilo (p:=r') (q:=x130.toNat) h132 (by omega) (by omega) hrr (by omega)
      rw[x130e,←hu3] at h132
      intro n133 h133;conv=>cbv
      cases n133 <;> conv=>cbv
      ·have k133:=gtr_f h133
       rw[hK3]
       first
        | exact⟨D-1,_,rfl,rfl,⟨e136⟩,near_break hg hq1 hDp hRf hVf hV0 hhi (by omega) htl (by omega)⟩
        | exact⟨D,_,rfl,rfl,hd,near_done hg hRf hVf hV0 hhi (by omega) (by omega)⟩
      ·have k133:=gtr_t h133
       refine .inr ?_
       have hgm:=hg.most
       have hgr:=hg.rest
       have hq1:R/natL w66≤D-1:=by first | exact guess_big hg hqw (by omega) | exact guess_next hg hRf hR0 hVf (by omega)
       have hDp:0<D:=by first | omega | (apply Nat.pos_of_ne_zero;intro e;rw[e,Nat.zero_mul] at hp121;omega)
       intro n136 h136;conv=>cbv
       have h136:=wrap_u64 h136
       have e136:n136=((D-1:Nat):Int):=by omega
       intro n139 h139;conv=>cbv
       have h139:=wrap_u64 h139
       have e139:n139=((r'+high:Nat):Int):=by omega
       intro n141 h141;conv=>cbv
       cases n141 <;> conv=>cbv
       ·have k141:=geq_f h141
        refine⟨D-1,?_,?_⟩
        ·omega
        rw[hJ1]
        exact⟨D-1,r'+high,n136,n139,rfl,rfl,⟨⟨e136⟩,⟨e139⟩⟩,guess_step hg hq1 hDp (by omega),rfl⟩
       ·have k141:=geq_t h141
        rw[hK3]
        first
         | exact⟨D-1,_,rfl,rfl,⟨e136⟩,near_break hg hq1 hDp hRf hVf hV0 hhi (by omega) htl (by omega)⟩
         | exact⟨D,_,rfl,rfl,hd,near_done hg hRf hVf hV0 hhi (by omega) (by omega)⟩
     ·have k117:=geq_t h117
      refine .inr ?_
      have hgm:=hg.most
      have hgr:=hg.rest
      have hq1:R/natL w66≤D-1:=by first | exact guess_big hg hqw (by omega) | exact guess_next hg hRf hR0 hVf (by omega)
      have hDp:0<D:=by first | omega | (apply Nat.pos_of_ne_zero;intro e;rw[e,Nat.zero_mul] at hp121;omega)
      intro n136 h136;conv=>cbv
      have h136:=wrap_u64 h136
      have e136:n136=((D-1:Nat):Int):=by omega
      intro n139 h139;conv=>cbv
      have h139:=wrap_u64 h139
      have e139:n139=((r'+high:Nat):Int):=by omega
      intro n141 h141;conv=>cbv
      cases n141 <;> conv=>cbv
      ·have k141:=geq_f h141
       refine⟨D-1,?_,?_⟩
       ·omega
       rw[hJ1]
       exact⟨D-1,r'+high,n136,n139,rfl,rfl,⟨⟨e136⟩,⟨e139⟩⟩,guess_step hg hq1 hDp (by omega),rfl⟩
      ·have k141:=geq_t h141
       rw[hK3]
       first
        | exact⟨D-1,_,rfl,rfl,⟨e136⟩,near_break hg hq1 hDp hRf hVf hV0 hhi (by omega) htl (by omega)⟩
        | exact⟨D,_,rfl,rfl,hd,near_done hg hRf hVf hV0 hhi (by omega) (by omega)⟩
   ·have k45:=eql_t h45
    obtain⟨x48,hx48⟩:=get_ex (l:=m) (i:=0) (by omega)
    refine⟨x48,fun _=>⟨by omega,hx48⟩,?_⟩
    try conv=>cbv
    intro n49 h49;have e49:=h49.eq;have f49:=h49.lt;conv=>cbv
    have hb48:b=x48.toNat:=by have:=natL_take_succ hx48;rw[show 0+1=m.length by omega,List.take_length,hm,natL_limbs] at this;simpa [natL] using this
    obtain⟨w50,hw50⟩:∃z:List UInt32,z=limbs (natL l/b):=⟨_,rfl⟩
    obtain⟨v50,hv50⟩:∃z:List UInt32,z=limbs (natL l%b):=⟨_,rfl⟩
    refine cL hE (divideWord_ok (d:=n49) (b:=b) (NatIs.of (by omega)) hb (by omega) hw50 hv50 (by omega)) ⟨rfl,rfl,trivial⟩ ?_
    try conv=>cbv
    exact fA ⟨⟨rfl,congrArg _ (by rw[hz1,hw50,hl,natL_limbs]),trivial⟩,⟨rfl,congrArg _ (by rw[hz2,hv50,hl,natL_limbs]),trivial⟩,trivial⟩ rfl (by simp)
  ·have k29:=leq_t h29
   obtain⟨r31,hr31⟩:∃n:Int,NatIs n (a):=⟨_,⟨rfl⟩⟩
   have er31:=hr31.eq
   refine cL (r:= .one (.int .u64 r31)) hE (toUint_ok (by rw[hl,natL_limbs]) (by omega) hr31) ⟨rfl,trivial⟩ ?_
   try conv=>cbv
   obtain⟨r33,hr33⟩:∃n:Int,NatIs n (b):=⟨_,⟨rfl⟩⟩
   have er33:=hr33.eq
   refine cL (r:= .one (.int .u64 r33)) hE (toUint_ok (by rw[hm,natL_limbs]) (by omega) hr33) ⟨rfl,trivial⟩ ?_
   try conv=>cbv
   have ha64:a<18446744073709551616:=by have:=natL_lt l;rw[hl,natL_limbs] at this;exact Nat.lt_of_lt_of_le this (Nat.pow_le_pow_right (by decide) (by rw[←hl];omega:32*(limbs a).length≤64))
   intro n36 h36;conv=>cbv
   refine⟨fun _=>⟨by omega,by omega⟩,?_⟩
   have h36:=wrap_u64 h36
   have bq:=Nat.div_le_self a b
   have h36:n36=((a/b:Nat):Int):=by rw[h36,er31,er33,←Int.natCast_ediv];generalize a/b=Q at *;omega
   obtain⟨w37,hw37⟩:∃z:List UInt32,z=limbs (a/b):=⟨_,rfl⟩
   refine cL (r:= .one (.sl .u32 w37)) hE (fromUint_ok (NatIs.of (k:=a/b) h36) (by generalize a/b=Q at *;omega) hw37) ⟨rfl,trivial⟩ ?_
   try conv=>cbv
   intro n40 h40;conv=>cbv
   refine⟨fun _=>⟨by omega,by omega⟩,?_⟩
   have br:=Nat.mod_lt a hb
   have h40:n40=((a%b:Nat):Int):=by rw[h40,er31,er33];exact (Int.natCast_emod _ _).symm
   obtain⟨w41,hw41⟩:∃z:List UInt32,z=limbs (a%b):=⟨_,rfl⟩
   refine cL (r:= .one (.sl .u32 w41)) hE (fromUint_ok (NatIs.of (k:=a%b) h40) (by generalize a%b=Q at *;omega) hw41) ⟨rfl,trivial⟩ ?_
   try conv=>cbv
   refine⟨fun _=>rfl,?_⟩
   exact fA ⟨⟨rfl,congrArg _ (by rw[hz1,hw37]),trivial⟩,⟨rfl,congrArg _ (by rw[hz2,hw41]),trivial⟩,trivial⟩ rfl (by simp)
 ·have k23:=lss_t h23
  obtain⟨w25,hw25⟩:∃z:List UInt32,z=l:=⟨_,rfl⟩
  refine cL hE (Clone_w hw25 (by omega)) ⟨rfl,trivial⟩ ?_
  try conv=>cbv
  have hlt:a<b:=by rw[hr22] at k23;have:=cmpZ_lt k23;omega
  exact fA ⟨⟨rfl,.inr (.inl ⟨_,congrArg _ (by rw[hz1,Nat.div_eq_of_lt hlt];rfl)⟩),trivial⟩,⟨rfl,congrArg _ (by rw[hz2,Nat.mod_eq_of_lt hlt,hw25,hl]),trivial⟩,trivial⟩ rfl (by simp)
end Go.Abs
namespace Go.Abs
open Go.RowKit
variable {c:Int} {k n:Nat} {l z:List UInt32}
theorem half_ok {a:Nat} (hl:l=limbs a) (hz:z=limbs (a/2)) (sl:l.length≤17592186044416):CF 261 [.one (.sl .u32 l)] (.one (.sl .u32 z)):=by
 refine acall_fn Tryz.func261 (by kernel_rfl) rfl fun E hE=>?_
 conv=>cbv
 obtain⟨z4,hz41,hz42⟩:=pad_ex (N:=natL l/2^1) (k:=l.length) (Nat.lt_of_le_of_lt (Nat.div_le_self _ _) (natL_lt _))
 refine cL hE (acall_plain (shiftRight_own (n:=1) ⟨rfl⟩ (by omega) hz41 hz42 rfl sl)) ⟨rfl,rfl,trivial⟩ ?_
 try conv=>cbv
 obtain⟨w5,hw5⟩:∃z:List UInt32,z=limbs (natL l/2^1):=⟨_,rfl⟩
 refine cA hE (trim_A hz42 hw5) ?_
 try conv=>cbv
 exact fA ⟨⟨rfl,congrArg _ (by rw[hz,hw5,hl,natL_limbs]),trivial⟩,trivial⟩ rfl (by simp)
def nbits (n:Nat):Nat:=if n=0 then 0 else Nat.log2 n+1
theorem nbits_of (h1:2^k≤n) (h2:n<2^(k+1)):nbits n=k+1:=by
 have h0:n≠0:=by have:=Nat.two_pow_pos k;omega
 unfold nbits
 rw[if_neg h0]
 have a:k≤Nat.log2 n:=(Nat.le_log2 h0).2 h1
 have b:Nat.log2 n<k+1:=(Nat.log2_lt h0).2 h2
 omega
theorem bits_words {i:Nat} {x:UInt32} (hx:(limbs n)[i]? =some x) (hi:i+1=(limbs n).length) (h1:2^(k-1)≤x.toNat) (h2:x.toNat<2^k) (hk:1≤k):nbits n=32*i+k:=by
 have h3:=natL_take_succ hx
 rw[hi,List.take_length,natL_limbs] at h3
 have h4:=take_lt (l:=limbs n) (n:=i)
 obtain⟨j,rfl⟩:∃j,k=j+1:=⟨k-1,by omega⟩
 simp only[Nat.add_sub_cancel] at h1
 have e1:2^(32*i+j)=2^(32*i)*2^j:=Nat.pow_add _ _ _
 have e2:2^(32*i+j+1)=2^(32*i)*2^(j+1):=by rw[←Nat.pow_add,Nat.add_assoc]
 refine nbits_of (k:=32*i+j) ?_ ?_
 ·rw[e1,h3]
  have:=Nat.mul_le_mul_left (2^(32*i)) h1
  omega
 ·rw[e2,h3]
  have:=Nat.mul_le_mul_left (2^(32*i)) (show x.toNat+1≤2^(j+1) from h2)
  rw[Nat.mul_add] at this
  omega
theorem Bits_ok {x:Int} {b:Bool} (hx:IsI x b l) (hc:NatIs c (nbits x.natAbs)) (sl:l.length≤17592186044416):CF 259 [.agg [.bool b,.sl .u32 l]] (.one (.int .i64 c)):=by
 refine acall_fn Tryz.func259 (by kernel_rfl) rfl fun E hE=>?_
 conv=>cbv
 obtain⟨w6,hw6⟩:∃z:List UInt32,z=limbs (natL l):=⟨_,rfl⟩
 refine cA hE (trim_A rfl hw6) ?_
 try conv=>cbv
 have t6:w6=l:=by rw[hw6];exact hx.trim
 have t6l:w6.length=l.length:=by rw[t6]
 intro n8 h8;have e8:=h8.eq;have f8:=h8.le;conv=>cbv
 intro n9 h9;conv=>cbv
 cases n9 <;> conv=>cbv
 ·have k9:=eql_f h9
  intro n11 h11;have e11:=h11.eq;have f11:=h11.le;conv=>cbv
  intro n12 h12;conv=>cbv
  refine⟨fun _=>i64 (by omega),?_⟩
  intro n13 h13;conv=>cbv
  refine⟨fun _=>i64 (by omega),?_⟩
  intro n16 h16;have e16:=h16.eq;have f16:=h16.le;conv=>cbv
  intro n17 h17;conv=>cbv
  refine⟨fun _=>i64 (by omega),?_⟩
  obtain⟨x18,hx18⟩:=get_ex (l:=w6) (i:=(w6.length-1)) (by omega)
  refine⟨x18,fun _=>⟨by omega,by rw[show (n17).toNat=(w6.length-1) by omega];exact hx18⟩,?_⟩
  try conv=>cbv
  have hx18b:=hx18
  rw[t6,hx.mag] at hx18b
  have hxl:(limbs x.natAbs).length-1+1=(limbs x.natAbs).length:=by rw[←hx.mag,←t6];omega
  have hx180:=canon_last hx18b hxl
  intro n19 h19;have e19:=h19.eq;have f19:=h19.lt;conv=>cbv
  obtain⟨r20,hr20⟩:∃n:Int,NatIs n (Lib.bitLen x18.toNat):=⟨_,⟨rfl⟩⟩
  have er20:=hr20.eq
  refine cA hE (Len32_ok ⟨e19⟩ f19 hr20) ?_
  try conv=>cbv
  have hb:=bitLen_spec (x:=x18.toNat) f19 hx180
  have hbw:=bits_words hx18b hxl hb.1 hb.2.1 hb.2.2.1
  intro n21 h21;conv=>cbv
  refine⟨fun _=>i64 (by omega),?_⟩
  exact fA ⟨⟨rfl,congrArg _ (by rw[hc.eq,hbw,←hx.mag,←t6];omega),trivial⟩,trivial⟩ rfl (by simp)
 ·have k9:=eql_t h9
  exact fA ⟨⟨rfl,congrArg _ (by rw[hc.eq];have h0:x=0:=hx.len0.1 (by rw[←t6];omega);rw[h0];rfl),trivial⟩,trivial⟩ rfl (by simp)
theorem shifted_ok (hc:NatIs c n) (hn:n≤1125899906000000) (hz:z=limbs (2^n)):CF 260 [.one (.int .i64 c)] (.one (.sl .u32 z)):=by
 have ec:=hc.eq
 refine acall_fn Tryz.func260 (by kernel_rfl) rfl fun E hE=>?_
 conv=>cbv
 intro n5 h5;conv=>cbv
 refine⟨fun _=>⟨by omega,by omega,i64 (by omega)⟩,?_⟩
 intro n6 h6;conv=>cbv
 refine⟨fun _=>i64 (by omega),?_⟩
 refine⟨fun _=>⟨by omega,by omega,by show _*4≤140737488355328;omega⟩,?_⟩
 intro k7 (l7:List UInt32) ql7;have hk7:=ql7.1;have hl7:l7=List.replicate k7 (0:el .u32):=ql7.2;have gl7:l7.length=k7:=by rw[hl7,List.length_replicate]
 conv=>cbv
 intro n10 h10;conv=>cbv
 refine⟨fun _=>⟨by omega,by omega,i64 (by omega)⟩,?_⟩
 intro n12 h12;conv=>cbv
 refine⟨fun _=>⟨by omega,by omega⟩,?_⟩
 intro n13 h13;conv=>cbv
 refine⟨fun _=>by omega,?_⟩
 obtain⟨q13,hq13,h13⟩:∃q:Nat,q=2^(n%32)∧n13=q:=⟨_,rfl,by have:=shl_var32 (p:=1) (e:=n%32) h13 rfl (by omega) (by omega);rw[this,Nat.one_mul];congr 1;exact Nat.mod_eq_of_lt (Nat.lt_of_le_of_lt (Nat.pow_le_pow_right (by decide) (by omega:n%32≤31)) (by decide))⟩
 have hb13:q13<4294967296:=by rw[hq13];exact Nat.lt_of_le_of_lt (Nat.pow_le_pow_right (by decide) (by omega:n%32≤31)) (by decide)
 refine⟨fun _=>⟨by omega,by omega⟩,?_⟩
 intro j14 hj14;conv=>cbv
 obtain⟨w14,hw14⟩:=u32_ex (n:=n13) (by omega)
 have ew14:=hw14.eq;have fw14:=hw14.lt
 refine⟨w14,fun _=>⟨by show _<List.length (α:=UInt32) l7;(first | omega | (simp;omega)),put_w hw14⟩,?_⟩
 intro (l14:List UInt32) (hl14:l14=List.set (α:=UInt32) l7 j14 w14);have gl14:l14.length=l7.length:=by rw[hl14,List.length_set]
 conv=>cbv
 have hk:k7=n/32+1:=by omega
 have hv:natL l14=2^n:=by
  have h0:l7[n/32]? =some 0:=by rw[hl7,List.getElem?_replicate,if_pos (by omega)]
  have:=natL_set (w:=w14) h0
  rw[hl14,show j14=n/32 by omega]
  rw[hl7,natL_replicate] at this
  rw[hl7]
  have e:2^n=2^(32*(n/32))*2^(n%32):=by rw[←Nat.pow_add];congr 1;omega
  rw[e,←hq13,show q13=w14.toNat by omega]
  simpa using this
 have hlen:l14.length=n/32+1:=by rw[hl14,List.length_set,hl7,List.length_replicate,hk]
 have hlim:limbs (natL l14)=l14:=limbs_natL (.inr (by rw[hv,hlen];exact Nat.pow_le_pow_right (by decide) (by omega)))
 exact fA ⟨⟨rfl,.inl ⟨_,rfl,by omega,congrArg _ (by rw[hz,←hv,hlim,List.drop_zero,List.take_of_length_le (by omega)])⟩,trivial⟩,trivial⟩ rfl (by simp)
end Go.Abs
