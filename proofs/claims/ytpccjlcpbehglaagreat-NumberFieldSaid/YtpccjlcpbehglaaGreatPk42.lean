/- Part 43 of a proof. Conditions: each theorem's own. -/
import Derived.Test.YtpccjlcpbehglaaGreatPk29
import Derived.Test.YtpccjlcpbehglaaGreatPk30
set_option linter.all false
set_option maxHeartbeats 8000000
open Go.Proofs
namespace Go.Abs
open Go.RowKit
variable {R a i k m q:Nat} {b b1 b2 c:Bool} {l l1 l2 o z:List UInt32} {x y:Int}
theorem or_pow {x:Nat} (h:x=2^(m+1)*k):x ||| 2^m=x+2^m:=by
 rw[h,Nat.or_comm,or_add (Nat.pow_lt_pow_right (by decide) (Nat.lt_succ_self m)),Nat.add_comm]
theorem word_dvd {x:UInt32} (hx:o[q]? =some x) (hm:m<32) (hd:2^(32*q+m+1)∣natL o):∃k,x.toNat=2^(m+1)*k:=by
 have hq:q<o.length:=by apply Classical.byContradiction;intro hn;rw[List.getElem?_eq_none (by omega)] at hx;exact absurd hx (by simp)
 have e1:natL o=natL (o.take q)+2^(32*q)*(x.toNat+4294967296*natL (o.drop (q+1))):=by
  conv=>lhs;rw[←List.take_append_drop q o]
  rw[natL_append,List.length_take,Nat.min_eq_left (by omega),drop_word hx]
 have e2:2^(32*q)∣natL o:=Nat.dvd_trans ⟨2^(m+1),by rw[←Nat.pow_add];congr 1⟩ hd
 have e3:2^(32*q)∣natL (o.take q):=by
  rw[e1] at e2
  exact (Nat.dvd_add_iff_left ⟨_,rfl⟩).2 e2
 have e4:natL (o.take q)<2^(32*q):=by
  have:=natL_lt (o.take q)
  rwa [List.length_take,Nat.min_eq_left (by omega)] at this
 have e5:natL (o.take q)=0:=Nat.eq_zero_of_dvd_of_lt e3 e4
 rw[e1,e5,Nat.zero_add,Nat.add_assoc,Nat.pow_add] at hd
 have e6:2^(m+1)∣x.toNat+4294967296*natL (o.drop (q+1)):=Nat.dvd_of_mul_dvd_mul_left (Nat.two_pow_pos _) hd
 have e7:2^(m+1)∣4294967296*natL (o.drop (q+1)):=Nat.dvd_trans ⟨2^(31-m),by rw[←Nat.pow_add,show m+1+(31-m)=32 by omega]⟩ ⟨_,rfl⟩
 exact (Nat.dvd_add_iff_left e7).2 e6
theorem bit_set {x w:UInt32} (hx:o[q]? =some x) (hm:m<32) (hd:2^(32*q+m+1)∣natL o) (hw:w.toNat=x.toNat ||| 2^m):natL (o.set q w)=natL o+2^(32*q+m)∧w.toNat=x.toNat+2^m:=by
 obtain⟨k,hk⟩:=word_dvd hx hm hd
 rw[or_pow hk] at hw
 have:=natL_set (w:=w) hx
 rw[hw,Nat.mul_add,←Nat.pow_add] at this
 exact⟨by omega,hw⟩
theorem andNot_u32 {n a b:Int} {p:Nat} (h:n=IntKind.u32.wrap (BitVec.ofInt IntKind.u32.bits a &&& ~~~ BitVec.ofInt IntKind.u32.bits b).toNat) (ha:a=((p+2^m:Nat):Int)) (hb:b=((2^m:Nat):Int)) (hp:p=2^(m+1)*k) (hm:m<32) (hs:p+2^m<4294967296):n=p:=by
 have h2:=wrap_u32 h
 have hm2:2^m<4294967296:=by omega
 have e1:(BitVec.ofInt 32 a &&& ~~~ BitVec.ofInt 32 b:BitVec 32).toNat=p:=by
  have ea:BitVec.ofInt 32 a=BitVec.ofNat 32 (p+2^m):=by rw[ha];exact BitVec.ofInt_natCast 32 _
  have eb:BitVec.ofInt 32 b=BitVec.ofNat 32 (2^m):=by rw[hb];exact BitVec.ofInt_natCast 32 _
  rw[ea,eb]
  have e2:BitVec.ofNat 32 (p+2^m) &&& ~~~BitVec.ofNat 32 (2^m)=BitVec.ofNat 32 p:=by
   apply BitVec.eq_of_getLsbD_eq
   intro i hi
   rw[BitVec.getLsbD_and,BitVec.getLsbD_not,BitVec.getLsbD_ofNat,BitVec.getLsbD_ofNat,BitVec.getLsbD_ofNat,←or_pow hp,Nat.testBit_or,Nat.testBit_two_pow]
   have e3:p.testBit m=false:=by
    rw[hp,Nat.testBit_two_pow_mul];simp;intro h;omega
   by_cases e:m=i
   ·subst e;simp[e3,hm]
   ·simp[e,hi]
  rw[e2,BitVec.toNat_ofNat];exact Nat.mod_eq_of_lt (Nat.lt_of_le_of_lt (Nat.le_add_right p (2^m)) hs)
 have e4:n=(((BitVec.ofInt 32 a &&& ~~~ BitVec.ofInt 32 b:BitVec 32).toNat:Nat):Int)%4294967296:=h2
 rw[e1] at e4
 rw[e4]
 exact Int.emod_eq_of_lt (by omega) (by omega)
theorem IsI.iff {b':Bool} {l':List UInt32} (h:IsI x b l) (h':IsI y b' l'):x=y↔b=b'∧l=l':=
 ⟨fun e=>h.uniq h' e,fun e=>by rw[h.sgn,h'.sgn,e.1,e.2]⟩
theorem Ytimes_D {u:List UInt32} {c d b:Nat} (hcu:c≤u.length) (hdu:d≤u.length) (sl:u.length≤17592186044416) (ha:natL (u.take c)=a) (hb:natL (u.take d)=b) (hz:z=limbs (a*b)):DCall Tryz.prog 174 [.one (.lsl .u32 0 0 0 c),.one (.lsl .u32 0 0 0 d)] (.arr 0 .u32 u) (.one (.sl .u32 z)):=by
 obtain⟨l,hl⟩:∃z:List UInt32,z=u.take c:=⟨_,rfl⟩
 have hll:l.length=c:=by rw[hl,List.length_take];omega
 have hgx:∀i,i<c→l[i]? =u[i]? :=fun i h=>by rw[hl,List.getElem?_take,if_pos h]
 rw[←hl] at ha
 obtain⟨m,hm⟩:∃z:List UInt32,z=u.take d:=⟨_,rfl⟩
 have hmm:m.length=d:=by rw[hm,List.length_take];omega
 have hgy:∀i,i<d→m[i]? =u[i]? :=fun i h=>by rw[hm,List.getElem?_take,if_pos h]
 rw[←hm] at hb
 refine dcall_fn Tryz.func174 (by kernel_rfl) rfl fun E hE=>?_
 conv=>cbv
 intro n10 h10;have e10:=h10.eq;conv=>cbv
 intro n12 h12;have e12:=h12.eq;conv=>cbv
 intro n13 h13;conv=>cbv
 refine⟨fun _=>i64 (by omega),?_⟩
 refine⟨fun _=>⟨by omega,by omega,by show _*4≤140737488355328;omega⟩,?_⟩
 intro k14 (l14:List UInt32) ql14;have hk14:=ql14.1;have hl14:l14=List.replicate k14 (0:el .u32):=ql14.2;have gl14:l14.length=k14:=by rw[hl14,List.length_replicate]
 conv=>cbv
 refine .inr ?_
 obtain⟨J0,hJ0⟩:∃J:List AV→List Blk→Nat→Prop,J=fun vs bl k=>∃(o:List UInt32) (n i':Nat) (i:Int),vs=[.one (.lsl .u32 0 0 0 c),.one (.lsl .u32 0 0 0 d),.one (.lsl .u32 14 0 0 n),.one (.int .i64 i)]∧
  bl=[.arr 0 .u32 u,.arr 0 .u32 o]∧(o.length=l.length+m.length∧n=o.length∧NatIs i i'∧i'≤l.length)∧
  natL (o.take (i'+m.length))=natL (l.take i')*natL m∧k=l.length-i':=⟨_,rfl⟩
 refine⟨[0,1,5,6],[0,14],J0,⟨l.length-0,by rw[hJ0];exact⟨l14,k14,0,0,rfl,rfl,⟨by rw[hl14,List.length_replicate];omega,by rw[hl14,List.length_replicate],natIs 0,by omega⟩,by rw[hl14,List.take_replicate,natL_replicate];simp[natL],rfl⟩⟩,?_⟩
 intro vs bl kk0 hj;rw[hJ0] at hj
 obtain⟨o,n,i',i,rfl,rfl,⟨ho,hn,hi,hiL⟩,hinv,hk0⟩:=hj
 conv=>cbv
 have ei:=hi.eq
 intro n17 h17;have e17:=h17.eq;conv=>cbv
 intro n18 h18;conv=>cbv
 cases n18 <;> conv=>cbv
 ·have k18:=lss_f h18
  have hnl66:n≤(o).length:=by omega
  obtain⟨m66,hm66⟩:∃z:Nat,z=(trimL ((o).take n)).length:=⟨_,rfl⟩
  obtain⟨hle66,htk66⟩:=trim_take hnl66 hm66
  refine .inr (.inr (.inl ⟨[],.one (.lsl .u32 0 0 0 m66),.arr 0 .u32 o,fun _=>⟨by first | decide | simp[idsV,idsC],trivial⟩,fun _=>⟨useB hE (Ytrim_B hnl66 (by omega) hm66),rfl,rfl⟩,?_⟩))
  try conv=>cbv
  have hfin:natL (o.take n)=a*b:=by rw[show i'=l.length by omega,List.take_length,ha,hb,←ho,List.take_length] at hinv;rw[hn,List.take_length,hinv]
  refine fun _=>⟨⟨⟨⟨rfl,.inl ⟨_,rfl,by omega,congrArg _ (by rw[List.drop_zero,htk66,hfin,hz])⟩,trivial⟩,trivial⟩,rfl,by simp⟩,rfl⟩
 ·have k18:=lss_t h18
  refine .inr ?_
  refine .inr ?_
  obtain⟨J1,hJ1⟩:∃J:List AV→List Blk→Nat→Prop,J=fun vs bl k=>∃(o1:List UInt32) (n1 c' k':Nat) (cc i1:Int),vs=[.one (.lsl .u32 0 0 0 c),.one (.lsl .u32 0 0 0 d),.one (.lsl .u32 14 0 0 n1),.one (.int .i64 i),.one (.int .u64 cc),.one (.int .i64 i1)]∧
   bl=[.arr 0 .u32 u,.arr 0 .u32 o1]∧(o1.length=l.length+m.length∧n1=o1.length∧NatIs i1 k'∧k'≤m.length∧NatIs cc c'∧c'<4294967296)∧
   natL (o1.take (i'+m.length))+2^(32*(i'+k'))*c'=natL (l.take i')*natL m+(l.getD i' 0).toNat*2^(32*i')*natL (m.take k')∧k=m.length-k':=⟨_,rfl⟩
  refine⟨[0,1,5,6,7,8],[0,14],J1,⟨m.length-0,by rw[hJ1];exact⟨o,n,0,0,0,0,rfl,rfl,⟨ho,hn,natIs 0,by omega,natIs 0,by omega⟩,by rw[hinv];simp[natL],rfl⟩⟩,?_⟩
  intro vs bl kk1 hj;rw[hJ1] at hj
  obtain⟨o1,n1,c',k',cc,i1,rfl,rfl,⟨ho1,hn1,hi1,hiL1,hc,hc1⟩,hinv1,hk1⟩:=hj
  conv=>cbv
  have ei1:=hi1.eq
  have ec:=hc.eq
  intro n23 h23;have e23:=h23.eq;conv=>cbv
  intro n24 h24;conv=>cbv
  cases n24 <;> conv=>cbv
  ·have k24:=lss_f h24
   intro n60 h60;have e60:=h60.eq;conv=>cbv
   intro n61 h61;conv=>cbv
   refine⟨fun _=>i64 (by omega),?_⟩
   intro n63 h63;conv=>cbv
   have h63:=wrap_u32 h63
   refine⟨fun _=>⟨by omega,by omega⟩,?_⟩
   intro j64 hj64;conv=>cbv
   obtain⟨w64,hw64⟩:=u32_ex (n:=n63) (by omega)
   have ew64:=hw64.eq;have fw64:=hw64.lt
   refine⟨w64,fun _=>⟨by show _<List.length (α:=UInt32) o1;(first | omega | (simp;omega)),put_w hw64⟩,?_⟩
   intro (l64:List UInt32) (hl64:l64=List.set (α:=UInt32) o1 j64 w64);have gl64:l64.length=o1.length:=by rw[hl64,List.length_set]
   conv=>cbv
   intro n20 h20;conv=>cbv
   refine⟨fun _=>i64 (by omega),?_⟩
   refine⟨l.length-(i'+1),?_,?_⟩
   ·omega
   rw[hJ0]
   refine⟨l64,n1,i'+1,n20,rfl,rfl,⟨by rw[hl64,List.length_set];exact ho1,by rw[hl64,List.length_set];exact hn1,⟨by omega⟩,by omega⟩,?_,rfl⟩
   obtain⟨ai,hai⟩:=get_ex (l:=l) (i:=i') (by omega)
   have hk:k'=m.length:=by omega
   have hlen:i'+m.length<o1.length:=by omega
   rw[hl64,show i'+1+m.length=i'+m.length+1 by omega,show j64=i'+m.length by omega,take_set_succ hlen,natL_snoc,List.length_take,Nat.min_eq_left (by omega),show w64.toNat=c' by omega]
   rw[hk,getD_of hai] at hinv1
   rw[hinv1,List.take_length,natL_take_succ hai]
   grind
  ·have k24:=lss_t h24
   refine .inr ?_
   intro n31 h31;conv=>cbv
   refine⟨fun _=>i64 (by omega),?_⟩
   refine⟨fun _=>⟨by omega,by omega⟩,?_⟩
   intro j32 hj32;conv=>cbv
   obtain⟨x33,hx33⟩:=get_ex (l:=o1) (i:=j32) (by omega)
   refine⟨x33,fun _=>hx33,?_⟩
   try conv=>cbv
   intro n33 h33;have e33:=h33.eq;have f33:=h33.lt;conv=>cbv
   intro n34 h34;conv=>cbv
   have h34:=wrap_u64 h34
   intro n35 h35;conv=>cbv
   have h35:=wrap_u64 h35
   refine⟨fun _=>⟨by omega,by omega⟩,?_⟩
   intro j38 hj38;conv=>cbv
   obtain⟨x39,hx39⟩:=get_ex (l:=u) (i:=j38) (by omega)
   refine⟨x39,fun _=>hx39,?_⟩
   try conv=>cbv
   intro n39 h39;have e39:=h39.eq;have f39:=h39.lt;conv=>cbv
   intro n40 h40;conv=>cbv
   have h40:=wrap_u64 h40
   refine⟨fun _=>⟨by omega,by omega⟩,?_⟩
   intro j43 hj43;conv=>cbv
   obtain⟨x44,hx44⟩:=get_ex (l:=u) (i:=j43) (by omega)
   refine⟨x44,fun _=>hx44,?_⟩
   try conv=>cbv
   intro n44 h44;have e44:=h44.eq;have f44:=h44.lt;conv=>cbv
   intro n45 h45;conv=>cbv
   have h45:=wrap_u64 h45
   have ep:n40*n45=((x39.toNat*x44.toNat:Nat):Int):=by rw[Int.natCast_mul];congr 1 <;> omega
   have bp:x39.toNat*x44.toNat≤4294967295*4294967295:=Nat.mul_le_mul (by omega) (by omega)
   intro n46 h46;conv=>cbv
   have h46:=wrap_u64 h46
   intro n47 h47;conv=>cbv
   have h47:=wrap_u64 h47
   refine⟨fun _=>rfl,?_⟩
   intro n51 h51;conv=>cbv
   refine⟨fun _=>i64 (by omega),?_⟩
   intro n53 h53;conv=>cbv
   have h53:=wrap_u32 h53
   refine⟨fun _=>⟨by omega,by omega⟩,?_⟩
   intro j54 hj54;conv=>cbv
   obtain⟨w54,hw54⟩:=u32_ex (n:=n53) (by omega)
   have ew54:=hw54.eq;have fw54:=hw54.lt
   refine⟨w54,fun _=>⟨by show _<List.length (α:=UInt32) o1;(first | omega | (simp;omega)),put_w hw54⟩,?_⟩
   intro (l54:List UInt32) (hl54:l54=List.set (α:=UInt32) o1 j54 w54);have gl54:l54.length=o1.length:=by rw[hl54,List.length_set]
   conv=>cbv
   intro n56 h56;conv=>cbv
   refine⟨fun _=>by omega,?_⟩
   have h56:=shr_lit (p:=4294967296) h56 rfl
   intro n26 h26;conv=>cbv
   refine⟨fun _=>i64 (by omega),?_⟩
   refine⟨m.length-(k'+1),?_,?_⟩
   ·omega
   rw[hJ1]
   have hx38:l[i']? =some x39:=by rw[hgx _ (by omega),show i'=j38 by omega];exact hx39
   have hx43:m[k']? =some x44:=by rw[hgy _ (by omega),show k'=j43 by omega];exact hx44
   refine⟨l54,n1,n56.toNat,k'+1,n56,n26,rfl,rfl,⟨by rw[hl54,List.length_set];exact ho1,by rw[hl54,List.length_set];exact hn1,⟨by omega⟩,by omega,⟨by omega⟩,by omega⟩,?_,rfl⟩
   have hj:j54=i'+k':=by omega
   have hj2:j32=i'+k':=by omega
   rw[hj2] at hx33
   rw[getD_of hx38] at hinv1
   rw[hl54,hj,natL_take_succ hx43,show i'+(k'+1)=i'+k'+1 by omega,getD_of hx38]
   refine times_step (q:=x33) (xi:=x39.toNat) (yk:=x44.toNat) (old:=x33.toNat) (c:=c') rfl (by omega) hx33 rfl hinv1 ?_ rfl
   rw[ep] at h46
   omega
theorem cmpZ_le (h:cmpZ ((R*R:Nat):Int) a≤0):R*R≤a:=by
 unfold cmpZ at h
 split at h
 ·omega
 ·split at h
  ·omega
  ·omega
theorem cmpZ_gt (h:cmpZ ((R*R:Nat):Int) a>0):a<R*R:=by
 unfold cmpZ at h
 split at h
 ·omega
 ·split at h
  ·omega
  ·omega
theorem set_same {α:Type} {l:List α} {x:α} (h:l[i]? =some x):l.set i x=l:=by
 apply List.ext_getElem?
 intro k
 by_cases e:i=k
 ·subst e
  rw[h,List.getElem?_set_self]
  apply Classical.byContradiction;intro hn;rw[List.getElem?_eq_none (by omega)] at h;exact absurd h (by simp)
 ·rw[List.getElem?_set_ne e]
theorem YISqrt_ok (hx:IsI x b l) (h0:0≤x) (hz:IsI ((isqrt x.toNat:Nat):Int) c z) (sl:l.length≤17592186043000):CF 198 [.agg [.bool b,.sl .u32 l]] (.tup [(true,[.bool c,.sl .u32 z]),(false,[.int .i64 0])]):=by
 obtain⟨a,ha⟩:∃a:Nat,a=x.toNat:=⟨_,rfl⟩
 obtain⟨N,hN⟩:∃N:Nat,N=(nbits a+1)/2:=⟨_,rfl⟩
 have hxa:x.natAbs=a:=by omega
 have hla:l=limbs a:=by rw[←hxa];exact hx.mag
 rw[←ha] at hz
 have haN:a<2^N*2^N:=by
  rw[←Nat.pow_add]
  by_cases h:a=0
  ·rw[h];exact Nat.two_pow_pos _
  ·exact Nat.lt_of_lt_of_le (nbits_spec (by omega:0<a)).2.1 (Nat.pow_le_pow_right (by decide) (by omega))
 have hNl:N≤300000000000000:=by
  have h1:nbits a≤32*l.length:=by
   by_cases h:a=0
   ·rw[h];exact Nat.zero_le _
   ·have h2:=(nbits_spec (by omega:0<a)).1
    have h3:a<2^(32*l.length):=by have:=natL_lt l;rw[hx.nat,hxa] at this;exact this
    have h4:=(Nat.pow_lt_pow_iff_right (a:=2) (by decide)).1 (Nat.lt_of_le_of_lt h2 h3)
    omega
  omega
 refine acall_fn Tryz.func198 (by kernel_rfl) rfl fun E hE=>?_
 conv=>cbv
 refine cA hE (YNorm_ok hx) ?_
 try conv=>cbv
 cases b <;> conv=>cbv
 ·obtain⟨r13,hr13⟩:∃n:Int,NatIs n (nbits a):=⟨_,⟨rfl⟩⟩
  have er13:=hr13.eq
  refine cL (r:= .one (.int .i64 r13)) hE (YBits_ok hx (by rw[hxa];exact hr13) sl) ⟨⟨rfl,rfl,trivial⟩,trivial⟩ ?_
  try conv=>cbv
  intro n14 h14;conv=>cbv
  refine⟨fun _=>i64 (by omega),?_⟩
  intro n15 h15;conv=>cbv
  refine⟨fun _=>⟨by omega,by omega,i64 (by omega)⟩,?_⟩
  intro n17 h17;conv=>cbv
  refine⟨fun _=>⟨by omega,by omega,i64 (by omega)⟩,?_⟩
  intro n18 h18;conv=>cbv
  refine⟨fun _=>i64 (by omega),?_⟩
  refine⟨fun _=>⟨by omega,by omega,by show _*4≤140737488355328;omega⟩,?_⟩
  intro k19 (l19:List UInt32) ql19;have hk19:=ql19.1;have hl19:l19=List.replicate k19 (0:el .u32):=ql19.2;have gl19:l19.length=k19:=by rw[hl19,List.length_replicate]
  conv=>cbv
  intro n21 h21;conv=>cbv
  refine⟨fun _=>i64 (by omega),?_⟩
  refine .inr ?_
  obtain⟨J0,hJ0⟩:∃J:List AV→List Blk→Nat→Prop,J=fun vs bl k=>∃(o:List UInt32) (m j:Nat) (i:Int),vs=[.one (.lptr 1 0 0),.one (.lptr 2 0 0),.one (.int .i64 0),.one (.lsl .u32 19 0 0 m),.one (.int .i64 i)]∧
   bl=[.var 0 [.bool false,.sl .u32 l],.var 0 [.bool false,.nil],.arr 0 .u32 o]∧(o.length=N/32+1∧m=o.length∧NatIs (i+1) j∧j≤N)∧
   (2^j∣natL o∧natL o*natL o≤a∧a<(natL o+2^j)*(natL o+2^j))∧k=j:=⟨_,rfl⟩
  refine⟨[1,2,3,5,6],[1,2,19],J0,⟨N,by rw[hJ0];exact⟨l19,k19,N,n21,rfl,rfl,⟨by rw[hl19,List.length_replicate];omega,by rw[hl19,List.length_replicate],⟨by omega⟩,Nat.le_refl _⟩,⟨by rw[hl19,natL_replicate];exact Nat.dvd_zero _,by rw[hl19,natL_replicate];omega,by rw[hl19,natL_replicate,Nat.zero_add];exact haN⟩,rfl⟩⟩,?_⟩
  intro vs bl kk0 hj;rw[hJ0] at hj
  obtain⟨o,m,j,i,rfl,rfl,⟨ho,hm,hi,hiL⟩,⟨hd,hlo,hhi⟩,hk0⟩:=hj
  conv=>cbv
  have ei:=hi.eq
  intro n23 h23;conv=>cbv
  cases n23 <;> conv=>cbv
  ·have k23:=geq_f h23
   have hj0:j=0:=by omega
   rw[hj0] at hhi
   have hsq:=isqrt_unique hlo hhi
   have hs62:((isqrt a:Nat):Int)=if false=true then -(natL (o.take m):Int) else natL (o.take m):=by
    rw[if_neg (by decide),hm,List.take_length,hsq]
   obtain⟨zb62,zl62,hz62⟩:=isI_ex (((isqrt a:Nat):Int))
   refine .inr (.inr (.inr ⟨19,.arr 0 .u32 o,[.one (.bool false),.one (.sl .u32 ((o).take m))],.agg [.bool zb62,.sl .u32 zl62],fun _=>⟨⟨by decide,rfl,by first | rfl | decide | simp[idsV,idsC]⟩,⟨rfl,⟨_,rfl,by simp <;> omega,by simp⟩,trivial⟩⟩,fun _=>⟨useC hE (Ysigned_ok (n:=false) hs62 hz62),rfl⟩,?_⟩))
   try conv=>cbv
   exact fA ⟨⟨rfl,congrArg _ ((hz62.uniq hz rfl).1.symm),congrArg _ ((hz62.uniq hz rfl).2.symm),trivial⟩,⟨rfl,rfl,trivial⟩,trivial⟩ rfl (by simp)
  ·have k23:=geq_t h23
   refine .inr ?_
   intro n28 h28;conv=>cbv
   refine⟨fun _=>⟨by omega,by omega,i64 (by omega)⟩,?_⟩
   intro n31 h31;conv=>cbv
   refine⟨fun _=>⟨by omega,by omega,i64 (by omega)⟩,?_⟩
   obtain⟨i',hi'⟩:∃i',j=i'+1:=⟨j-1,by omega⟩
   subst hi'
   refine⟨fun _=>⟨by omega,by omega⟩,?_⟩
   intro j32 hj32;conv=>cbv
   obtain⟨x33,hx33⟩:=get_ex (l:=o) (i:=j32) (by omega)
   refine⟨x33,fun _=>hx33,?_⟩
   try conv=>cbv
   intro n33 h33;have e33:=h33.eq;have f33:=h33.lt;conv=>cbv
   intro n35 h35;conv=>cbv
   refine⟨fun _=>⟨by omega,by omega⟩,?_⟩
   intro n36 h36;conv=>cbv
   refine⟨fun _=>by omega,?_⟩
   obtain⟨h36',hp36⟩:n36=((2^(i'%32):Nat):Int)∧2^(i'%32)<4294967296:=by
    have hb:2^(i'%32)<4294967296:=Nat.lt_of_le_of_lt (Nat.pow_le_pow_right (by decide) (by omega:i'%32≤31)) (by decide)
    have:=shl_var32 (p:=1) (e:=i'%32) h36 rfl (by omega) (by omega)
    rw[this,Nat.one_mul];exact⟨congrArg _ (Nat.mod_eq_of_lt hb),hb⟩
   intro n37 h37;conv=>cbv
   have h37':=or_u32 (p:=x33.toNat) (q:=2^(i'%32)) h37 (by omega) (by omega) (by omega) hp36
   have ho37:x33.toNat ||| 2^(i'%32)<4294967296:=Nat.or_lt_two_pow (n:=32) x33.toNat_lt hp36
   refine⟨fun _=>⟨by omega,by omega⟩,?_⟩
   intro j38 hj38;conv=>cbv
   obtain⟨w38,hw38⟩:=u32_ex (n:=n37) (by omega)
   have ew38:=hw38.eq;have fw38:=hw38.lt
   refine⟨w38,fun _=>⟨by show _<List.length (α:=UInt32) o;(first | omega | (simp;omega)),put_w hw38⟩,?_⟩
   intro (l38:List UInt32) (hl38:l38=List.set (α:=UInt32) o j38 w38);have gl38:l38.length=o.length:=by rw[hl38,List.length_set]
   conv=>cbv
   refine⟨fun _=>rfl,?_⟩
   have hw38n:w38.toNat=x33.toNat ||| 2^(i'%32):=by omega
   have hqm:2^(32*(i'/32)+i'%32)=2^i':=by congr 1;omega
   have hset:=bit_set (o:=o) (q:=i'/32) (m:=i'%32) (x:=x33) (w:=w38) (by rw[show i'/32=j32 by omega];exact hx33) (by omega) (by rw[show 32*(i'/32)+i'%32+1=i'+1 by omega];exact hd) hw38n
   rw[show i'/32=j38 by omega,←hl38,show j38=i'/32 by omega] at hset
   have hnl40:m≤(l38).length:=by omega
   obtain⟨m40,hm40⟩:∃z:Nat,z=(trimL ((l38).take m)).length:=⟨_,rfl⟩
   obtain⟨hle40,htk40⟩:=trim_take hnl40 hm40
   refine .inr (.inr (.inl ⟨[],.one (.lsl .u32 0 0 0 m40),.arr 0 .u32 l38,fun _=>⟨by first | decide | simp[idsV,idsC],trivial⟩,fun _=>⟨useB hE (Ytrim_B hnl40 (by omega) hm40),rfl,rfl⟩,?_⟩))
   try conv=>cbv
   have hnl42:m≤(l38).length:=by omega
   obtain⟨m42,hm42⟩:∃z:Nat,z=(trimL ((l38).take m)).length:=⟨_,rfl⟩
   obtain⟨hle42,htk42⟩:=trim_take hnl42 hm42
   refine .inr (.inr (.inl ⟨[],.one (.lsl .u32 0 0 0 m42),.arr 0 .u32 l38,fun _=>⟨by first | decide | simp[idsV,idsC],trivial⟩,fun _=>⟨useB hE (Ytrim_B hnl42 (by omega) hm42),rfl,rfl⟩,?_⟩))
   try conv=>cbv
   obtain⟨R,hR⟩:∃R:Nat,R=natL l38:=⟨_,rfl⟩
   obtain⟨w43,hw43⟩:∃z:List UInt32,z=limbs (R*R):=⟨_,rfl⟩
   have hR2:natL l38*natL l38=R*R:=by rw[hR]
   have ht40:natL (l38.take m40)=R:=by rw[htk40,natL_limbs,hR];congr 1;exact List.take_of_length_le (by omega)
   have ht42:natL (l38.take m42)=R:=by rw[htk42,natL_limbs,hR];congr 1;exact List.take_of_length_le (by omega)
   refine .inr (.inr (.inr (.inl ⟨19,.arr 0 .u32 l38,[.one (.lsl .u32 0 0 0 m40),.one (.lsl .u32 0 0 0 m42)],.one (.sl .u32 w43),fun _=>⟨rfl,⟨⟨⟨rfl,rfl⟩,rfl⟩,⟨⟨rfl,rfl⟩,rfl⟩,trivial⟩⟩,fun _=>useD hE (Ytimes_D (by omega) (by omega) (by omega) ht40 ht42 hw43),?_⟩)))
   try conv=>cbv
   obtain⟨r46,hr46⟩:∃z:Int,z=cmpZ ((R*R:Nat):Int) a:=⟨_,rfl⟩
   refine cA hE (Ycompare_ok hw43 hla hr46) ?_
   try conv=>cbv
   intro n47 h47;conv=>cbv
   refine⟨fun _=>rfl,?_⟩
   refine .inr ?_
   cases n47 <;> conv=>cbv
   ·have k47:=gtr_f h47
    intro n25 h25;conv=>cbv
    refine⟨fun _=>i64 (by omega),?_⟩
    refine⟨i',?_,?_⟩
    ·omega
    rw[hJ0]
    have hbase:2^i'∣natL o:=Nat.dvd_trans ⟨2,by rw[Nat.pow_succ]⟩ hd
    refine⟨l38,m,i',n25,rfl,rfl,⟨by omega,by omega,⟨by omega⟩,by omega⟩,⟨?_,?_,?_⟩,rfl⟩
    ·rw[hset.1];exact Nat.dvd_add hbase (by rw[hqm];exact Nat.dvd_refl _)
    ·rw[hR2];rw[hr46] at k47;have:=cmpZ_le k47;exact this
    ·rw[hset.1,hqm];rw[Nat.pow_succ] at hhi;rwa [show natL o+2^i'+2^i'=natL o+2^i'*2 by omega]
   ·have k47:=gtr_t h47
    intro n50 h50;conv=>cbv
    refine⟨fun _=>⟨by omega,by omega,i64 (by omega)⟩,?_⟩
    intro n53 h53;conv=>cbv
    refine⟨fun _=>⟨by omega,by omega,i64 (by omega)⟩,?_⟩
    refine⟨fun _=>⟨by omega,by omega⟩,?_⟩
    intro j54 hj54;conv=>cbv
    obtain⟨x55,hx55⟩:=get_ex (l:=l38) (i:=j54) (by omega)
    refine⟨x55,fun _=>hx55,?_⟩
    try conv=>cbv
    intro n55 h55;have e55:=h55.eq;have f55:=h55.lt;conv=>cbv
    intro n57 h57;conv=>cbv
    refine⟨fun _=>⟨by omega,by omega⟩,?_⟩
    intro n58 h58;conv=>cbv
    refine⟨fun _=>by omega,?_⟩
    obtain⟨h58',hp58⟩:n58=((2^(i'%32):Nat):Int)∧2^(i'%32)<4294967296:=by
     have hb:2^(i'%32)<4294967296:=Nat.lt_of_le_of_lt (Nat.pow_le_pow_right (by decide) (by omega:i'%32≤31)) (by decide)
     have:=shl_var32 (p:=1) (e:=i'%32) h58 rfl (by omega) (by omega)
     rw[this,Nat.one_mul];exact⟨congrArg _ (Nat.mod_eq_of_lt hb),hb⟩
    intro n59 h59;conv=>cbv
    obtain⟨kk,hkk⟩:=word_dvd (o:=o) (q:=i'/32) (m:=i'%32) (x:=x33) (by rw[show i'/32=j32 by omega];exact hx33) (by omega) (by rw[show 32*(i'/32)+i'%32+1=i'+1 by omega];exact hd)
    have e55:x55=w38:=by
     have:=hx55
     rw[hl38,show j54=i'/32 by omega,show j38=i'/32 by omega,List.getElem?_set_self (by omega)] at this
     exact (Option.some.inj this).symm
    have hn59:=andNot_u32 (p:=x33.toNat) (m:=i'%32) h59 (by rw[←hset.2,←e55];omega) (by omega) hkk (by omega) (by rw[←hset.2];omega)
    refine⟨fun _=>⟨by omega,by omega⟩,?_⟩
    intro j60 hj60;conv=>cbv
    obtain⟨w60,hw60⟩:=u32_ex (n:=n59) (by omega)
    have ew60:=hw60.eq;have fw60:=hw60.lt
    refine⟨w60,fun _=>⟨by show _<List.length (α:=UInt32) l38;(first | omega | (simp;omega)),put_w hw60⟩,?_⟩
    intro (l60:List UInt32) (hl60:l60=List.set (α:=UInt32) l38 j60 w60);have gl60:l60.length=l38.length:=by rw[hl60,List.length_set]
    conv=>cbv
    refine⟨fun _=>rfl,?_⟩
    intro n25 h25;conv=>cbv
    refine⟨fun _=>i64 (by omega),?_⟩
    refine⟨i',?_,?_⟩
    ·omega
    rw[hJ0]
    have hbase:2^i'∣natL o:=Nat.dvd_trans ⟨2,by rw[Nat.pow_succ]⟩ hd
    have hlo60:l60=o:=by
     have e1:w60=x33:=UInt32.toNat_inj.1 (by omega)
     rw[hl60,hl38,show j60=i'/32 by omega,show j38=i'/32 by omega,List.set_set,e1]
     exact set_same (by rw[show i'/32=j32 by omega];exact hx33)
    refine⟨l60,m,i',n25,rfl,rfl,⟨by rw[hlo60];exact ho,by rw[hlo60];exact hm,⟨by omega⟩,by omega⟩,?_,rfl⟩
    rw[hlo60]
    refine⟨hbase,hlo,?_⟩
    rw[hr46] at k47;have:=cmpZ_gt k47;rw[←hR2,hset.1,hqm] at this;exact this
 ·exact absurd hx.neg (by simp;omega)
theorem take_eq_snoc0 {α:Type} {X Y:List α} {x y:α} (hx:X[i]? =some x) (hy:Y[i]? =some y) (h:X.take i=Y.take i) (e:x=y):X.take (i+1)=Y.take (i+1):=by
 rw[List.take_add_one,List.take_add_one,hx,hy,h,e]
theorem YSameInt_ok (hx:IsI x b1 l1) (hy:IsI y b2 l2) (hc:c=decide (x=y)):CF 199 [.agg [.bool b1,.sl .u32 l1],.agg [.bool b2,.sl .u32 l2]] (.one (.bool c)):=by
 refine acall_fn Tryz.func199 (by kernel_rfl) rfl fun E hE=>?_
 conv=>cbv
 intro n10 h10;conv=>cbv
 cases n10 <;> conv=>cbv
 ·have k10:=bne_f h10
  intro n14 h14;have e14:=h14.eq;have f14:=h14.le;conv=>cbv
  intro n17 h17;have e17:=h17.eq;have f17:=h17.le;conv=>cbv
  intro n18 h18;conv=>cbv
  cases n18 <;> conv=>cbv
  ·have k18:=neq_f h18
   refine .inr ?_
   obtain⟨J0,hJ0⟩:∃J:List AV→List Blk→Nat→Prop,J=fun vs bl k=>∃(k':Nat) (j:Int),vs=[.one (.lptr 2 0 0),.one (.lptr 3 0 0),.one (.bool false),.one (.int .i64 j)]∧bl=[.var 0 [.bool b1,.sl .u32 l1],.var 0 [.bool b2,.sl .u32 l2]]∧(NatIs j k'∧k'≤l1.length∧l1.length=l2.length∧b1=b2)∧l1.take k'=l2.take k'∧k=l1.length-k':=⟨_,rfl⟩
   refine⟨[2,3,4,5],[2,3],J0,⟨l1.length-0,by rw[hJ0];exact⟨0,0,rfl,rfl,⟨natIs 0,by omega,by omega,k10⟩,rfl,rfl⟩⟩,?_⟩
   intro vs bl kk0 hj;rw[hJ0] at hj
   obtain⟨k',j,rfl,rfl,⟨hj,hjl,hll,hbb⟩,hinv,hk0⟩:=hj
   conv=>cbv
   have ej:=hj.eq
   intro n23 h23;have e23:=h23.eq;have f23:=h23.le;conv=>cbv
   intro n24 h24;conv=>cbv
   cases n24 <;> conv=>cbv
   ·have k24:=lss_f h24
    exact fA ⟨⟨rfl,congrArg _ (by rw[hc];exact (decide_eq_true ((hx.iff hy).2 ⟨hbb,by have h1:=hinv;rw[show k'=l1.length by omega,List.take_length,hll,List.take_length] at h1;exact h1⟩))),trivial⟩,trivial⟩ rfl (by simp)
   ·have k24:=lss_t h24
    refine .inr ?_
    obtain⟨x30,hx30⟩:=get_ex (l:=l1) (i:=k') (by omega)
    refine⟨x30,fun _=>⟨by omega,by rw[show (j).toNat=k' by omega];exact hx30⟩,?_⟩
    try conv=>cbv
    intro n31 h31;have e31:=h31.eq;have f31:=h31.lt;conv=>cbv
    obtain⟨x35,hx35⟩:=get_ex (l:=l2) (i:=k') (by omega)
    refine⟨x35,fun _=>⟨by omega,by rw[show (j).toNat=k' by omega];exact hx35⟩,?_⟩
    try conv=>cbv
    intro n36 h36;have e36:=h36.eq;have f36:=h36.lt;conv=>cbv
    intro n37 h37;conv=>cbv
    refine⟨fun _=>rfl,?_⟩
    cases n37 <;> conv=>cbv
    ·have k37:=neq_f h37
     intro n26 h26;conv=>cbv
     refine⟨fun _=>i64 (by omega),?_⟩
     refine⟨l1.length-(k'+1),?_,?_⟩
     ·omega
     rw[hJ0]
     exact⟨k'+1,n26,rfl,rfl,⟨⟨by omega⟩,by omega,hll,hbb⟩,take_eq_snoc0 hx30 hx35 hinv (UInt32.toNat_inj.1 (by omega)),rfl⟩
    ·have k37:=neq_t h37
     exact fA ⟨⟨rfl,congrArg _ (by rw[hc];exact (decide_eq_false (fun e=>by have h1:=((hx.iff hy).1 e).2;have h2:=hx30;rw[h1,hx35] at h2;have h3:=Option.some.inj h2;rw[h3] at e36;omega))),trivial⟩,trivial⟩ rfl (by simp)
  ·have k18:=neq_t h18
   exact fA ⟨⟨rfl,congrArg _ (by rw[hc];exact (decide_eq_false (fun e=>by have h1:=((hx.iff hy).1 e).2;rw[h1] at e14;omega))),trivial⟩,trivial⟩ rfl (by simp)
 ·have k10:=bne_t h10
  exact fA ⟨⟨rfl,congrArg _ (by rw[hc];exact (decide_eq_false (fun e=>k10 ((hx.iff hy).1 e).1))),trivial⟩,trivial⟩ rfl (by simp)
theorem YRSqrt_ok {q r:Rat} {c1 c2:Bool} {m1 m2:List UInt32} (hx:IsR q b1 l1 b2 l2) (hs:SmallQ q) (h0:0≤r) (hr:r*r=q) (hz:IsR r c1 m1 c2 m2):CF 155 [.agg [.bool b1,.sl .u32 l1,.bool b2,.sl .u32 l2]] (.tup [(true,[.bool c1,.sl .u32 m1,.bool c2,.sl .u32 m2]),(false,[.bool true])]):=by
 have hn:=sqrt_num h0 hr
 have hd:=sqrt_den h0 hr
 have hq0:0≤q.num:=by rw[←hn.2,←hn.1];exact Int.mul_nonneg (by omega) (by omega)
 have hd0:(0:Int)≤(q.den:Int):=by omega
 have hsm:=hx.small hs
 obtain⟨zb15,zl15,hz15⟩:=isI_ex (((isqrt q.num.toNat:Nat):Int))
 obtain⟨zb21,zl21,hz21⟩:=isI_ex (((isqrt (q.den:Int).toNat:Nat):Int))
 have hl15:=isqrt_len hx.num hz15
 have hl21:=isqrt_len hx.den hz21
 refine acall_fn Tryz.func155 (by kernel_rfl) rfl fun E hE=>?_
 conv=>cbv
 cases b1 <;> conv=>cbv
 ·refine cL hE (YISqrt_ok hx.num hq0 hz15 (by omega)) ⟨⟨rfl,rfl,trivial⟩,trivial⟩ ?_
  try conv=>cbv
  refine cL hE (YISqrt_ok hx.den hd0 hz21 (by omega)) ⟨⟨rfl,rfl,trivial⟩,trivial⟩ ?_
  try conv=>cbv
  obtain⟨zb26,zl26,hz26⟩:=isI_ex (((isqrt q.num.toNat:Nat):Int)*((isqrt q.num.toNat:Nat):Int))
  refine cL hE (YMul_ok hz15 hz15 hz26 (by omega) (by omega)) ⟨⟨rfl,rfl,trivial⟩,⟨rfl,rfl,trivial⟩,trivial⟩ ?_
  try conv=>cbv
  refine cL (r:= .one (.bool true)) hE (YSameInt_ok hz26 hx.num (by rw[hn.1];exact (decide_eq_true hn.2).symm)) ⟨⟨rfl,rfl,trivial⟩,⟨rfl,rfl,trivial⟩,trivial⟩ ?_
  try conv=>cbv
  intro n30 h30;(have h30:=h30.trans (show _=false from rfl));subst h30;conv=>cbv
  obtain⟨zb34,zl34,hz34⟩:=isI_ex (((isqrt (q.den:Int).toNat:Nat):Int)*((isqrt (q.den:Int).toNat:Nat):Int))
  refine cL hE (YMul_ok hz21 hz21 hz34 (by omega) (by omega)) ⟨⟨rfl,rfl,trivial⟩,⟨rfl,rfl,trivial⟩,trivial⟩ ?_
  try conv=>cbv
  refine cL (r:= .one (.bool true)) hE (YSameInt_ok hz34 hx.den (by rw[hd.1];exact (decide_eq_true hd.2).symm)) ⟨⟨rfl,rfl,trivial⟩,⟨rfl,rfl,trivial⟩,trivial⟩ ?_
  try conv=>cbv
  intro n38 h38;(have h38:=h38.trans (show _=false from rfl));subst h38;conv=>cbv
  refine⟨fun _=>rfl,?_⟩
  exact fA ⟨⟨rfl,congrArg _ ((hz15.uniq hz.num hn.1).1.symm),congrArg _ ((hz15.uniq hz.num hn.1).2.symm),congrArg _ ((hz21.uniq hz.den hd.1).1.symm),congrArg _ ((hz21.uniq hz.den hd.1).2.symm),trivial⟩,⟨rfl,rfl,trivial⟩,trivial⟩ rfl (by simp)
 ·exact absurd (of_decide_eq_true hx.num.neg.symm) (by omega)
theorem YRSqrt_none {q:Rat} (hx:IsR q b1 l1 b2 l2) (hs:SmallQ q) (hr:¬∃r:Rat,0≤r∧r*r=q):CF 155 [.agg [.bool b1,.sl .u32 l1,.bool b2,.sl .u32 l2]] (.tup [(true,[.bool false,.sl .u32 [],.bool false,.sl .u32 []]),(false,[.bool false])]):=by
 have hd0:(0:Int)≤(q.den:Int):=by omega
 have hsm:=hx.small hs
 obtain⟨zb15,zl15,hz15⟩:=isI_ex (((isqrt q.num.toNat:Nat):Int))
 obtain⟨zb21,zl21,hz21⟩:=isI_ex (((isqrt (q.den:Int).toNat:Nat):Int))
 have hl15:=isqrt_len hx.num hz15
 have hl21:=isqrt_len hx.den hz21
 refine acall_fn Tryz.func155 (by kernel_rfl) rfl fun E hE=>?_
 conv=>cbv
 cases b1 <;> conv=>cbv
 ·have hq0:0≤q.num:=by have:=of_decide_eq_false hx.num.neg.symm;omega
  refine cL hE (YISqrt_ok hx.num hq0 hz15 (by omega)) ⟨⟨rfl,rfl,trivial⟩,trivial⟩ ?_
  try conv=>cbv
  refine cL hE (YISqrt_ok hx.den hd0 hz21 (by omega)) ⟨⟨rfl,rfl,trivial⟩,trivial⟩ ?_
  try conv=>cbv
  obtain⟨zb26,zl26,hz26⟩:=isI_ex (((isqrt q.num.toNat:Nat):Int)*((isqrt q.num.toNat:Nat):Int))
  refine cL hE (YMul_ok hz15 hz15 hz26 (by omega) (by omega)) ⟨⟨rfl,rfl,trivial⟩,⟨rfl,rfl,trivial⟩,trivial⟩ ?_
  try conv=>cbv
  obtain⟨b29,hb29⟩:∃z:Bool,z=decide (((isqrt q.num.toNat:Nat):Int)*((isqrt q.num.toNat:Nat):Int)=q.num):=⟨_,rfl⟩
  refine cA hE (YSameInt_ok hz26 hx.num hb29) ?_
  try conv=>cbv
  intro n30 h30;conv=>cbv
  cases n30 <;> conv=>cbv
  ·have k30:=not_f h30
   obtain⟨zb34,zl34,hz34⟩:=isI_ex (((isqrt (q.den:Int).toNat:Nat):Int)*((isqrt (q.den:Int).toNat:Nat):Int))
   refine cL hE (YMul_ok hz21 hz21 hz34 (by omega) (by omega)) ⟨⟨rfl,rfl,trivial⟩,⟨rfl,rfl,trivial⟩,trivial⟩ ?_
   try conv=>cbv
   obtain⟨b37,hb37⟩:∃z:Bool,z=decide (((isqrt (q.den:Int).toNat:Nat):Int)*((isqrt (q.den:Int).toNat:Nat):Int)=(q.den:Int)):=⟨_,rfl⟩
   refine cA hE (YSameInt_ok hz34 hx.den hb37) ?_
   try conv=>cbv
   intro n38 h38;conv=>cbv
   refine⟨fun _=>rfl,?_⟩
   cases n38 <;> conv=>cbv
   ·have k38:=not_f h38
    exact absurd (sqrt_both (of_decide_eq_true (hb29.symm.trans (by simpa using k30))) (of_decide_eq_true (hb37.symm.trans (by simpa using k38)))) hr
   ·have k38:=not_t h38
    exact fA ⟨⟨rfl,rfl,.inr (.inl ⟨_,rfl⟩),rfl,.inr (.inl ⟨_,rfl⟩),trivial⟩,⟨rfl,rfl,trivial⟩,trivial⟩ rfl (by simp)
  ·have k30:=not_t h30
   refine⟨fun _=>rfl,?_⟩
   exact fA ⟨⟨rfl,rfl,.inr (.inl ⟨_,rfl⟩),rfl,.inr (.inl ⟨_,rfl⟩),trivial⟩,⟨rfl,rfl,trivial⟩,trivial⟩ rfl (by simp)
 ·exact fA ⟨⟨rfl,rfl,.inr (.inl ⟨_,rfl⟩),rfl,.inr (.inl ⟨_,rfl⟩),trivial⟩,⟨rfl,rfl,trivial⟩,trivial⟩ rfl (by simp)
end Go.Abs
