/- Part 24 of a proof. Conditions: each theorem's own. -/
import Derived.RangeFuncBox
import Derived.RangeFuncLeaves
import Derived.Shelf.Abstract
import Derived.WalkKit
import Derived.OwnWalkIn
import Derived.TacticsInMore
import Derived.LoopNIn
import Derived.LoopIn
import Derived.Test.YtpccjlcpbehglaaGreatPk00
import Derived.Test.YtpccjlcpbehglaaGreatPk13
import Derived.Test.YtpccjlcpbehglaaGreatPk22
set_option linter.all false
set_option maxHeartbeats 8000000
open Go.Proofs
namespace Go.Abs
open Go.RowKit
variable {b:Bool} {c w:Int} {i len off:Nat} {l o v z:List UInt32}
theorem seg_eq (hl:o.length=z.length) (h1:o.take off=z.take off) (h2:o.drop (off+len)=z.drop (off+len)) (hlen:off+len≤o.length) (h3:natL ((o.drop off).take len)=natL ((z.drop off).take len)):o=z:=by
 have e1:(o.drop off).take len=(z.drop off).take len:=natL_inj (by simp;omega) h3
 rw[←List.take_append_drop off o,←List.take_append_drop off z,h1,←List.take_append_drop len (o.drop off),←List.take_append_drop len (z.drop off),e1,List.drop_drop,List.drop_drop,h2]
theorem get_drop:(l.drop off)[i]? =l[off+i]? :=by rw[List.getElem?_drop]
theorem take_succ_get {x:UInt32} (h:l[i]? =some x):natL (l.take (i+1))=natL (l.take i)+2^(32*i)*x.toNat:=natL_take_succ h
theorem drop_same {x:UInt32} (h:o.drop i=l.drop i) (hx:o[i]? =some x):l[i]? =some x:=by
 have:(o.drop i)[0]? =(l.drop i)[0]? :=by rw[h]
 rw[List.getElem?_drop,List.getElem?_drop] at this
 simpa [hx] using this.symm
theorem sub_word {x p n25 n32 n33 n30 n34 n38 n41 n43 n44:Int} (hx:0≤x∧x<4294967296) (hp:0≤p∧p≤18446744065119617025) (hc:0≤c∧c≤4294967296) (h25:n25=(p+c)%18446744073709551616)
  (h32:n32=n25%4294967296) (h33:n33=n32%18446744073709551616) (h30:n30=x%18446744073709551616) (h34:n34=(n30-n33)%18446744073709551616) (h38:n38=n34%4294967296) (hw:n38=w)
  (h41:n41=n25/4294967296) (h43:n43=n34/9223372036854775808) (h44:n44=(n41+n43)%18446744073709551616):(0≤n44∧n44≤4294967296)∧w+p+c=x+4294967296*n44:=by
 have a1:n25=p+c:=by omega
 have a2:0≤n32∧n32<4294967296:=by omega
 have a3:n33=n32:=by omega
 have a4:n30=x:=by omega
 have a5:n25=n32+4294967296*n41:=by omega
 have a6:0≤n41∧n41≤4294967295:=by omega
 clear h25 h32 h41 h33 h30
 subst a3 a4
 by_cases hlt:n30<n33
 ·have b1:n34=n30-n33+18446744073709551616:=by omega
  have b2:n43=1:=by omega
  have b3:n38=n30-n33+4294967296:=by omega
  clear h34 h38 h43
  omega
 ·have b1:n34=n30-n33:=by omega
  have b2:n43=0:=by omega
  have b3:n38=n30-n33:=by omega
  clear h34 h38 h43
  omega
theorem last_word {x n51 n53 n58 n61:Int} (hx:0≤x∧x<4294967296) (hc:0≤c∧c≤4294967296) (h51:n51=x%18446744073709551616) (h53:n53=(n51-c)%18446744073709551616) (h58:n58=n53%4294967296) (hw:n58=w)
  (h61:n61=n53/9223372036854775808) (hb:b=(n61==1)):w+c=x+4294967296*(b.toNat:Int):=by
 have a4:n51=x:=by omega
 subst a4
 clear h51
 by_cases hlt:n51<c
 ·have b1:n53=n51-c+18446744073709551616:=by omega
  have b2:n61=1:=by omega
  have b3:n58=n51-c+4294967296:=by omega
  rw[hb,b2]
  show w+c=n51+4294967296*1
  omega
 ·have b1:n53=n51-c:=by omega
  have b2:n61=0:=by omega
  have b3:n58=n51-c:=by omega
  rw[hb,b2]
  show w+c=n51+4294967296*0
  omega
theorem two_ways {S1 S2 W T M:Nat} {c:Bool} (h1:S1+W=T+M*b.toNat) (h2:S2+W=T+M*c.toNat) (l1:S1<M) (l2:S2<M):S1=S2∧b=c:=by
 cases b <;> cases c <;> simp at h1 h2 ⊢ <;> omega
theorem drop_succ_same (h:o.drop i=l.drop i):o.drop (i+1)=l.drop (i+1):=by
 rw[←List.drop_drop,←List.drop_drop,h]
theorem subtract_B {d:Nat} {g:Int} (hlen:len=v.length+1) (hoff:off+len≤l.length) (hg:NatIs g d) (hd:d<4294967296) (hll:l.length≤140737488355328) (hz1:z.length=l.length) (hz2:z.take off=l.take off) (hz3:z.drop (off+len)=l.drop (off+len)) (hz4:natL ((z.drop off).take len)+natL v*d=natL ((l.drop off).take len)+2^(32*len)*b.toNat):BCall Tryz.prog 255 (.lsl .u32 0 0 off len) (.arr 0 .u32 l) [.one (.sl .u32 v),.one (.int .u64 g)] (.one (.bool b)) (.arr 0 .u32 z):=by
 have eg:=hg.eq
 refine bcall_fn Tryz.func255 (by kernel_rfl) rfl fun E hE=>?_
 conv=>cbv
 intro n14 h14;have e14:=h14.eq;have f14:=h14.le;conv=>cbv
 refine .inr ?_
 obtain⟨J0,hJ0⟩:∃J:List AV→List Blk→Nat→Prop,J=fun vs bl k=>∃(o:List UInt32) (c' i':Nat) (c L i:Int),vs=[.one (.lsl .u32 0 0 off len),.one (.sl .u32 v),.one (.int .u64 g),.one (.int .u64 c),.one (.sl .u32 v),.one (.int .i64 L),.one (.int .i64 i)]∧
  bl=[.arr 0 .u32 o]∧(o.length=l.length∧LenIs L v.length∧NatIs i i'∧i'≤v.length∧NatIs c c'∧c'≤4294967296)∧(o.take off=l.take off∧o.drop (off+i')=l.drop (off+i'))∧
  natL ((o.drop off).take i')+natL (v.take i')*d=natL ((l.drop off).take i')+2^(32*i')*c'∧k=v.length-i':=⟨_,rfl⟩
 refine⟨[0,1,2,7,13,14,15],[0],J0,⟨v.length-0,by rw[hJ0];exact⟨l,0,0,0,n14,0,rfl,rfl,⟨rfl,h14,natIs 0,by omega,natIs 0,by omega⟩,⟨rfl,rfl⟩,by simp[natL],rfl⟩⟩,?_⟩
 intro vs bl kk0 hj;rw[hJ0] at hj
 obtain⟨o,c',i',c,L,i,rfl,rfl,⟨ho,hL,hi,hiL,hc,hc1⟩,⟨ht,hdr⟩,hinv,hk0⟩:=hj
 conv=>cbv
 have eL:=hL.eq
 have ei:=hi.eq
 have ec:=hc.eq
 intro n16 h16;conv=>cbv
 cases n16 <;> conv=>cbv
 ·have k16:=lss_f h16
  intro n48 h48;have e48:=h48.eq;have f48:=h48.le;conv=>cbv
  refine⟨fun _=>⟨by omega,by omega⟩,?_⟩
  intro j49 hj49;conv=>cbv
  obtain⟨x50,hx50⟩:=get_ex (l:=o) (i:=j49) (by omega)
  refine⟨x50,fun _=>hx50,?_⟩
  try conv=>cbv
  intro n50 h50;have e50:=h50.eq;have f50:=h50.lt;conv=>cbv
  intro n51 h51;conv=>cbv
  have h51:=wrap_u64 h51
  intro n53 h53;conv=>cbv
  have h53:=wrap_u64 h53
  intro n56 h56;have e56:=h56.eq;have f56:=h56.le;conv=>cbv
  intro n58 h58;conv=>cbv
  have h58:=wrap_u32 h58
  refine⟨fun _=>⟨by omega,by omega⟩,?_⟩
  intro j59 hj59;conv=>cbv
  obtain⟨w59,hw59⟩:=u32_ex (n:=n58) (by omega)
  have ew59:=hw59.eq;have fw59:=hw59.lt
  refine⟨w59,fun _=>⟨by show _<List.length (α:=UInt32) o;(first | omega | (simp;omega)),put_w hw59⟩,?_⟩
  intro (l59:List UInt32) (hl59:l59=List.set (α:=UInt32) o j59 w59);have gl59:l59.length=o.length:=by rw[hl59,List.length_set]
  conv=>cbv
  intro n61 h61;conv=>cbv
  refine⟨fun _=>by omega,?_⟩
  have h61:=shr_lit (p:=9223372036854775808) h61 rfl
  intro n62 h62;conv=>cbv
  have hk:i'=v.length:=by omega
  subst hk
  have ej:j59=off+v.length:=by omega
  have ej2:j49=off+v.length:=by omega
  rw[ej2] at hx50
  have hx:=drop_same hdr hx50
  have hlw:=last_word (n51:=n51) (n53:=n53) (x:=x50.toNat) (c:=c') (w:=w59.toNat) (by omega) (by omega) (by rw[←e50];exact h51) (by rw[←ec];exact h53) h58 ew59 h61 h62
  have hfin:natL ((l59.drop off).take len)+natL v*d=natL ((l.drop off).take len)+2^(32*len)*n62.toNat:=by
   rw[hlen,take_succ_get (l:=l.drop off) (by rw[get_drop];exact hx),hl59,ej,drop_set_ge,take_set_succ (by rw[List.length_drop];omega),natL_snoc,List.length_take,List.length_drop,Nat.min_eq_left (by omega),pow32]
   rw[List.take_length] at hinv
   have hlw2:w59.toNat+c'=x50.toNat+4294967296*n62.toNat:=by omega
   generalize 2^(32*v.length)=P at*
   have e:P*(w59.toNat+c')=P*(x50.toNat+4294967296*n62.toNat):=by rw[hlw2]
   clear hlw hlw2 hz4
   grind
  have hlt:∀y:List UInt32,natL ((y.drop off).take len)<2^(32*len):=fun y=>Nat.lt_of_lt_of_le (natL_lt _) (Nat.pow_le_pow_right (by decide) (by rw[List.length_take];omega))
  obtain⟨q1,q2⟩:=two_ways hfin hz4 (hlt _) (hlt _)
  have hzz:l59=z:=seg_eq (off:=off) (len:=len) (by omega) (by rw[hz2,hl59,ej,take_set_le (by omega),ht]) (by rw[hz3,hl59,ej,List.drop_set_of_lt (by omega),hlen,←Nat.add_assoc];exact drop_succ_same hdr) (by omega) q1
  refine⟨fun _=>⟨⟨⟨rfl,congrArg _ (q2.symm),trivial⟩,trivial⟩,rfl,by simp⟩,fun _=>by show some (Blk.arr 0 .u32 l59)=_;rw[hzz]⟩
 ·have k16:=lss_t h16
  refine .inr ?_
  obtain⟨x18,hx18⟩:=get_ex (l:=v) (i:=i') (by omega)
  refine⟨x18,fun _=>⟨by omega,by rw[show (i).toNat=i' by omega];exact hx18⟩,?_⟩
  try conv=>cbv
  intro n19 h19;have e19:=h19.eq;have f19:=h19.lt;conv=>cbv
  intro n21 h21;conv=>cbv
  have h21:=wrap_u64 h21
  intro n23 h23;conv=>cbv
  have h23:=wrap_u64 h23
  obtain⟨p23,ep,h23⟩:∃p:Nat,p=x18.toNat*d∧n23=p:=⟨_,rfl,by rw[h23,(by omega:n21=(x18.toNat:Int)),eg,←Int.natCast_mul];have:=Nat.mul_le_mul (by omega:x18.toNat≤4294967295) (by omega:d≤4294967295);clear hinv;omega⟩
  have bp:p23≤4294967295*4294967295:=by rw[ep];exact Nat.mul_le_mul (by omega) (by omega)
  intro n25 h25;conv=>cbv
  have h25:=wrap_u64 h25
  refine⟨fun _=>⟨by omega,by omega⟩,?_⟩
  intro j28 hj28;conv=>cbv
  obtain⟨x29,hx29⟩:=get_ex (l:=o) (i:=j28) (by omega)
  refine⟨x29,fun _=>hx29,?_⟩
  try conv=>cbv
  intro n29 h29;have e29:=h29.eq;have f29:=h29.lt;conv=>cbv
  intro n30 h30;conv=>cbv
  have h30:=wrap_u64 h30
  intro n32 h32;conv=>cbv
  have h32:=wrap_u32 h32
  intro n33 h33;conv=>cbv
  have h33:=wrap_u64 h33
  intro n34 h34;conv=>cbv
  have h34:=wrap_u64 h34
  intro n38 h38;conv=>cbv
  have h38:=wrap_u32 h38
  refine⟨fun _=>⟨by omega,by omega⟩,?_⟩
  intro j39 hj39;conv=>cbv
  obtain⟨w39,hw39⟩:=u32_ex (n:=n38) (by omega)
  have ew39:=hw39.eq;have fw39:=hw39.lt
  refine⟨w39,fun _=>⟨by show _<List.length (α:=UInt32) o;(first | omega | (simp;omega)),put_w hw39⟩,?_⟩
  intro (l39:List UInt32) (hl39:l39=List.set (α:=UInt32) o j39 w39);have gl39:l39.length=o.length:=by rw[hl39,List.length_set]
  conv=>cbv
  intro n41 h41;conv=>cbv
  refine⟨fun _=>by omega,?_⟩
  have h41:=shr_lit (p:=4294967296) h41 rfl
  intro n43 h43;conv=>cbv
  refine⟨fun _=>by omega,?_⟩
  have h43:=shr_lit (p:=9223372036854775808) h43 rfl
  intro n44 h44;conv=>cbv
  have h44:=wrap_u64 h44
  intro n45 h45;conv=>cbv
  refine⟨fun _=>i64 (by omega),?_⟩
  refine⟨v.length-(i'+1),?_,?_⟩
  ·omega
  rw[hJ0]
  have ej:j39=off+i':=by omega
  have ej2:j28=off+i':=by omega
  rw[ej2] at hx29
  have hx:=drop_same hdr hx29
  have hsw:=sub_word (x:=x29.toNat) (p:=p23) (c:=c') (w:=w39.toNat) (by omega) (by omega) (by omega) (by rw[h25,h23,ec]) h32 h33 (by rw[h30,e29]) h34 h38 ew39 h41 h43 h44
  have hw:w39.toNat+x18.toNat*d+c'=x29.toNat+4294967296*n44.toNat:=by rw[←ep];obtain⟨h1,h2⟩:=hsw;clear hinv;omega
  refine⟨l39,n44.toNat,i'+1,n44,L,n45,rfl,rfl,⟨by omega,hL,⟨by omega⟩,by omega,⟨by have:=hsw.1;omega⟩,by have:=hsw.1;omega⟩,⟨by rw[hl39,ej,take_set_le (by omega)];exact ht,by rw[hl39,ej,List.drop_set_of_lt (by omega)];exact drop_succ_same hdr⟩,?_,rfl⟩
  have hs:=sub_step (o:=o.drop off) (w:=w39) (i:=i') (xi:=x29.toNat) (yi:=x18.toNat) (D:=d) (bor:=c') (bor':=n44.toNat) (by rw[List.length_drop];omega) hinv hw
  rw[hl39,ej,drop_set_ge,natL_take_succ hx18,take_succ_get (l:=l.drop off) (by rw[get_drop];exact hx)]
  exact hs
theorem restore_B (hlen:len=v.length+1) (hoff:off+len≤l.length) (hll:l.length≤140737488355328) (hz1:z.length=l.length) (hz2:z.take off=l.take off) (hz3:z.drop (off+len)=l.drop (off+len)) (hz4:natL ((z.drop off).take len)=(natL ((l.drop off).take len)+natL v)%2^(32*len)):BCall Tryz.prog 256 (.lsl .u32 0 0 off len) (.arr 0 .u32 l) [.one (.sl .u32 v)] (.tup []) (.arr 0 .u32 z):=by
 refine bcall_fn Tryz.func256 (by kernel_rfl) rfl fun E hE=>?_
 conv=>cbv
 intro n8 h8;have e8:=h8.eq;have f8:=h8.le;conv=>cbv
 refine .inr ?_
 obtain⟨J0,hJ0⟩:∃J:List AV→List Blk→Nat→Prop,J=fun vs bl k=>∃(o:List UInt32) (c' i':Nat) (c L i:Int),vs=[.one (.lsl .u32 0 0 off len),.one (.sl .u32 v),.one (.int .u64 c),.one (.sl .u32 v),.one (.int .i64 L),.one (.int .i64 i)]∧
  bl=[.arr 0 .u32 o]∧(o.length=l.length∧LenIs L v.length∧NatIs i i'∧i'≤v.length∧NatIs c c'∧c'≤1)∧(o.take off=l.take off∧o.drop (off+i')=l.drop (off+i'))∧
  natL ((o.drop off).take i')+2^(32*i')*c'=natL ((l.drop off).take i')+natL (v.take i')∧k=v.length-i':=⟨_,rfl⟩
 refine⟨[0,1,4,7,8,9],[0],J0,⟨v.length-0,by rw[hJ0];exact⟨l,0,0,0,n8,0,rfl,rfl,⟨rfl,h8,natIs 0,by omega,natIs 0,by omega⟩,⟨rfl,rfl⟩,by simp[natL],rfl⟩⟩,?_⟩
 intro vs bl kk0 hj;rw[hJ0] at hj
 obtain⟨o,c',i',c,L,i,rfl,rfl,⟨ho,hL,hi,hiL,hc,hc1⟩,⟨ht,hdr⟩,hinv,hk0⟩:=hj
 conv=>cbv
 have eL:=hL.eq
 have ei:=hi.eq
 have ec:=hc.eq
 intro n10 h10;conv=>cbv
 cases n10 <;> conv=>cbv
 ·have k10:=lss_f h10
  intro n34 h34;have e34:=h34.eq;have f34:=h34.le;conv=>cbv
  refine⟨fun _=>⟨by omega,by omega⟩,?_⟩
  intro j35 hj35;conv=>cbv
  obtain⟨x36,hx36⟩:=get_ex (l:=o) (i:=j35) (by omega)
  refine⟨x36,fun _=>hx36,?_⟩
  try conv=>cbv
  intro n36 h36;have e36:=h36.eq;have f36:=h36.lt;conv=>cbv
  intro n38 h38;conv=>cbv
  have h38:=wrap_u32 h38
  intro n39 h39;conv=>cbv
  have h39:=wrap_u32 h39
  refine⟨fun _=>⟨by omega,by omega⟩,?_⟩
  intro j40 hj40;conv=>cbv
  obtain⟨w40,hw40⟩:=u32_ex (n:=n39) (by omega)
  have ew40:=hw40.eq;have fw40:=hw40.lt
  refine⟨w40,fun _=>⟨by show _<List.length (α:=UInt32) o;(first | omega | (simp;omega)),put_w hw40⟩,?_⟩
  intro (l40:List UInt32) (hl40:l40=List.set (α:=UInt32) o j40 w40);have gl40:l40.length=o.length:=by rw[hl40,List.length_set]
  conv=>cbv
  have hk:i'=v.length:=by omega
  subst hk
  have ej:j40=off+v.length:=by omega
  have ej2:j35=off+v.length:=by omega
  rw[ej2] at hx36
  have hx:=drop_same hdr hx36
  have hlw:w40.toNat=(x36.toNat+c')%4294967296:=by clear hinv hz4;omega
  have hlt:∀y:List UInt32,natL ((y.drop off).take len)<2^(32*len):=fun y=>Nat.lt_of_lt_of_le (natL_lt _) (Nat.pow_le_pow_right (by decide) (by rw[List.length_take];omega))
  have hfin:natL ((l40.drop off).take len)=(natL ((l.drop off).take len)+natL v)%2^(32*len):=by
   have h0:=hlt l40
   have e1:natL ((l40.drop off).take len)+2^(32*len)*((x36.toNat+c')/4294967296)=natL ((l.drop off).take len)+natL v:=by
    rw[hlen,take_succ_get (l:=l.drop off) (by rw[get_drop];exact hx),hl40,ej,drop_set_ge,take_set_succ (by rw[List.length_drop];omega),natL_snoc,List.length_take,List.length_drop,Nat.min_eq_left (by omega),pow32]
    rw[List.take_length] at hinv
    have hd:=Nat.div_add_mod (x36.toNat+c') 4294967296
    rw[←hlw] at hd
    generalize (x36.toNat+c')/4294967296=Q at*
    generalize 2^(32*v.length)=P at*
    have e:P*(4294967296*Q+w40.toNat)=P*(x36.toNat+c'):=by rw[hd]
    clear hlw hz4 h0 hlt
    grind
   rw[←e1,Nat.add_mul_mod_self_left,Nat.mod_eq_of_lt h0]
  have hzz:l40=z:=seg_eq (off:=off) (len:=len) (by omega) (by rw[hz2,hl40,ej,take_set_le (by omega),ht]) (by rw[hz3,hl40,ej,List.drop_set_of_lt (by omega),hlen,←Nat.add_assoc];exact drop_succ_same hdr) (by omega) (by rw[hfin,hz4])
  refine⟨fun _=>⟨trivial,rfl,by simp⟩,fun _=>by show some (Blk.arr 0 .u32 l40)=_;rw[hzz]⟩
 ·have k10:=lss_t h10
  refine .inr ?_
  obtain⟨x12,hx12⟩:=get_ex (l:=v) (i:=i') (by omega)
  refine⟨x12,fun _=>⟨by omega,by rw[show (i).toNat=i' by omega];exact hx12⟩,?_⟩
  try conv=>cbv
  intro n13 h13;have e13:=h13.eq;have f13:=h13.lt;conv=>cbv
  refine⟨fun _=>⟨by omega,by omega⟩,?_⟩
  intro j17 hj17;conv=>cbv
  obtain⟨x18,hx18⟩:=get_ex (l:=o) (i:=j17) (by omega)
  refine⟨x18,fun _=>hx18,?_⟩
  try conv=>cbv
  intro n18 h18;have e18:=h18.eq;have f18:=h18.lt;conv=>cbv
  intro n19 h19;conv=>cbv
  have h19:=wrap_u64 h19
  intro n21 h21;conv=>cbv
  have h21:=wrap_u64 h21
  intro n22 h22;conv=>cbv
  have h22:=wrap_u64 h22
  intro n23 h23;conv=>cbv
  have h23:=wrap_u64 h23
  intro n27 h27;conv=>cbv
  have h27:=wrap_u32 h27
  refine⟨fun _=>⟨by omega,by omega⟩,?_⟩
  intro j28 hj28;conv=>cbv
  obtain⟨w28,hw28⟩:=u32_ex (n:=n27) (by omega)
  have ew28:=hw28.eq;have fw28:=hw28.lt
  refine⟨w28,fun _=>⟨by show _<List.length (α:=UInt32) o;(first | omega | (simp;omega)),put_w hw28⟩,?_⟩
  intro (l28:List UInt32) (hl28:l28=List.set (α:=UInt32) o j28 w28);have gl28:l28.length=o.length:=by rw[hl28,List.length_set]
  conv=>cbv
  intro n30 h30;conv=>cbv
  refine⟨fun _=>by omega,?_⟩
  have h30:=shr_lit (p:=4294967296) h30 rfl
  intro n31 h31;conv=>cbv
  refine⟨fun _=>i64 (by omega),?_⟩
  refine⟨v.length-(i'+1),?_,?_⟩
  ·omega
  rw[hJ0]
  have ej:j28=off+i':=by omega
  have ej2:j17=off+i':=by omega
  rw[ej2] at hx18
  have hx:=drop_same hdr hx18
  have hw:w28.toNat+4294967296*n30.toNat=x18.toNat+x12.toNat+c':=by clear hinv;omega
  refine⟨l28,n30.toNat,i'+1,n30,L,n31,rfl,rfl,⟨by omega,hL,⟨by omega⟩,by omega,⟨by omega⟩,by omega⟩,⟨by rw[hl28,ej,take_set_le (by omega)];exact ht,by rw[hl28,ej,List.drop_set_of_lt (by omega)];exact drop_succ_same hdr⟩,?_,rfl⟩
  have hs:=add_step (o:=o.drop off) (w:=w28) (i:=i') (xi:=x18.toNat) (yi:=x12.toNat) (car:=c') (car':=n30.toNat) (by rw[List.length_drop];omega) hinv hw
  rw[hl28,ej,drop_set_ge,natL_take_succ hx12,take_succ_get (l:=l.drop off) (by rw[get_drop];exact hx)]
  exact hs
end Go.Abs
namespace Go.Abs
open Go.RowKit Go.Shelf Go.Proofs
attribute [local go_sem] Oper.semAt_some
def upto {α:Type} (f:Nat→α) (k:Nat):List α:=(List.range k).map f
theorem upto_succ {α:Type} (f:Nat→α) (k:Nat):upto f (k+1)=upto f k++[f k]:=by simp[upto,List.range_succ]
theorem upto_length {α:Type} (f:Nat→α) (k:Nat):(upto f k).length=k:=by simp[upto]
def bk (l:List UInt32) (k:Nat):Int×UInt32:=((l.length:Int)-1-k,l[l.length-1-k]?.getD 0)
structure KeepB (n b:Nat) (A B:World):Prop where
 below:Below n A B
 block:B.heap[b]? =A.heap[b]?
theorem KeepB.refl (n b:Nat) (A:World):KeepB n b A A:=⟨Below.refl _ _,rfl⟩
theorem KeepB.trans {n b:Nat} {A B C:World} (h:KeepB n b A B) (k:KeepB n b B C):KeepB n b A C:=⟨h.1.trans k.1,k.2.trans h.2⟩
set_option maxRecDepth 100000 in
theorem backward1_in (F:Fence) (n:Nat) (h7:F.fn 263) (hro:F.round=none) (hn:1≤n) (l Bs n₀ b off cap:Nat) (zs:List UInt32) (hreach:zs.length≤140737488351232) (hb:b<n₀) (J Jx:List (Int×UInt32)→World→Prop)
  (hY:∀pre x W,J pre W→pre.length<zs.length→YieldAt F (n-1) Tryz.prog l #[.int .i64 x.1,.int .u32 (x.2.toNat:Int)] W fun e W'=>
   (e= .returned (.bool true)∧J (pre++[x]) W'∧KeepB n₀ Bs W W')∨(e= .returned (.bool false)∧Jx (pre++[x]) W'))
  (W:World) (hBs:W.cell? ⟨Bs,0,none⟩=some (.slice (some ⟨b,off,none⟩) zs.length cap)) (hc:∀j,j<zs.length→W.cell? ⟨b,off+j,none⟩=some (.int .u32 ((zs[j]?.getD 0).toNat:Int))) (h0:J [] W):
  CallsIn F n Tryz.prog 263 #[.func (.yield l) #[] #[],.pointer (some ⟨Bs,0,none⟩)] W fun e W'=>(∃v,e= .returned v)∧
   ((∃ys,ys=upto (bk zs) zs.length∧J ys W')∨(∃pre,(∃k,k≤zs.length∧pre=upto (bk zs) k)∧Jx pre W')):=by
 refine callsIn_of_wp Tryz.func263 rfl h7 ?_ hro
 simp only[Tryz.ntmps263,List.size_toArray,List.length_cons,List.length_nil,Nat.reduceAdd,Nat.reduceSub,Array.replicate_succ,Array.replicate_zero,List.push_toArray,List.append_toArray,List.nil_append,List.cons_append]
 gi_wp2
 gi_loopw [3] (fun i wr=>∃k:Nat,k≤zs.length∧i= .int .i64 ((zs.length:Int)-1-k)∧J (upto (bk zs) k) wr∧KeepB n₀ Bs W wr)
  (fun i _=>(intOf i+1).toNat)
 case atStart=>exact⟨0,Nat.zero_le _,by simp,h0,KeepB.refl _ _ _⟩
 case round=>
  obtain⟨k,hk,rfl,hJs,hnx⟩:=hrel
  by_cases hlt:k<zs.length
  ·obtain⟨j,ej,hjl,ex⟩:∃j:Nat,(zs.length:Int)-1-k=(j:Int)∧j<zs.length∧bk zs k=((j:Int),zs[j]?.getD 0):=
    ⟨zs.length-1-k,by omega,by omega,by unfold bk;rw[show ((zs.length:Int)-1-k)=((zs.length-1-k:Nat):Int) by omega]⟩
   have hcx:wr.cell? ⟨b,off+j,none⟩=some (.int .u32 ((zs[j]?.getD 0).toNat:Int)):=(hnx.below.cell (p:=⟨b,off+j,none⟩) hb).trans (hc j hjl)
   have hbx:wr.cell? ⟨Bs,0,none⟩=some (.slice (some ⟨b,off,none⟩) zs.length cap):=(World.cell?_of_block (a:=⟨Bs,0,none⟩) hnx.block).trans hBs
   obtain⟨fn,tmps,assign,body,hy,hR⟩:=hY _ (bk zs k) wr hJs (by rw[upto_length];exact hlt)
   rw[ex] at hy hR
   have eg:zs[j]?.getD 0=zs[j]:=by simp[hjl]
   rw[eg] at hy hcx
   dsimp only at hy
   rw[ej]
   have hmz:((j:Int):Int)-1+1=j:=by omega
   gi_wp2
   refine hR.mono ?_
   rintro e W3 (⟨rfl,hJ3,hk3⟩ |⟨rfl,hJx3⟩)
   ·gi_wp2
    go_roundw
    case rel=>exact⟨k+1,by omega,by congr 1;omega,by rw[upto_succ,ex];exact hJ3,hnx.trans hk3⟩
    case measure=>simp[intOf]
   ·gi_wp2
    refine bodyPost_ret (results_none rfl _ _ _) rfl ?_
    exact⟨⟨_,rfl⟩,.inr ⟨_,⟨k+1,by omega,by rw[upto_succ,ex]⟩,hJx3⟩⟩
  ·obtain rfl:k=zs.length:=by omega
   rw[show (zs.length:Int)-1-zs.length= -1 by omega]
   gi_wp2
   go_end0
   exact⟨⟨_,rfl⟩,.inl ⟨_,rfl,hJs⟩⟩
set_option maxRecDepth 100000 in
theorem backward1_nil_in (F:Fence) (n:Nat) (h7:F.fn 263) (hro:F.round=none) (l Bs:Nat) (base:Option Addr) (cap:Nat) (J:List (Int×UInt32)→World→Prop) (W:World) (hBs:W.cell? ⟨Bs,0,none⟩=some (.slice base 0 cap)) (h0:J [] W):
  CallsIn F n Tryz.prog 263 #[.func (.yield l) #[] #[],.pointer (some ⟨Bs,0,none⟩)] W fun e W'=>(∃v,e= .returned v)∧J [] W':=by
 refine callsIn_of_wp Tryz.func263 rfl h7 ?_ hro
 simp only[Tryz.ntmps263,List.size_toArray,List.length_cons,List.length_nil,Nat.reduceAdd,Nat.reduceSub,Array.replicate_succ,Array.replicate_zero,List.push_toArray,List.append_toArray,List.nil_append,List.cons_append]
 gi_wp2
 gi_loopw [3] (fun i wr=>i= .int .i64 (-1)∧J [] wr) (fun _ _=>0)
 case atStart=>exact⟨by simp,h0⟩
 case round=>
  obtain⟨rfl,hJs⟩:=hrel
  gi_wp2
  go_end0
  exact⟨⟨_,rfl⟩,hJs⟩
theorem backward_in (F:Fence) (n:Nat) (h5:F.fn 258) (hro:F.round=none) (a:Option Addr) (len cap:Nat) (w:World):
  CallsIn F n Tryz.prog 258 #[.slice a len cap] w fun e w'=>e= .returned (.func (.func 263) #[] #[.pointer (some ⟨w.heap.size,0,none⟩)])∧w'=w.alloc (.cells #[.slice a len cap] 69):=by
 refine callsIn_of_wp Tryz.func258 rfl h5 ?_ hro
 simp only[Tryz.ntmps258,List.size_toArray,List.length_cons,List.length_nil,Nat.reduceAdd,Nat.reduceSub,Array.replicate_succ,Array.replicate_zero,List.push_toArray,List.append_toArray,List.nil_append,List.cons_append]
 gi_wp2
 go_ret
 exact⟨rfl,rfl⟩
def Words (n:Nat) (W:World) (sv:Value) (zs:List UInt32):Prop:=
 (∃base cap,sv= .slice base 0 cap∧zs=[])∨∃b off cap,sv= .slice (some ⟨b,off,none⟩) zs.length cap∧b<n∧∀j,j<zs.length→W.cell? ⟨b,off+j,none⟩=some (.int .u32 ((zs[j]?.getD 0).toNat:Int))
theorem Words.below {n:Nat} {A B:World} (h:Below n A B) {sv:Value} {zs:List UInt32}:Words n A sv zs→Words n B sv zs
 | .inl e=> .inl e
 | .inr ⟨b,off,cap,e,hb,hc⟩=> .inr ⟨b,off,cap,e,hb,fun j hj=>(h.cell (p:=⟨b,off+j,none⟩) hb).trans (hc j hj)⟩
theorem backward_stops (F:Fence) (n:Nat) (h7:F.fn 263) (hro:F.round=none) (hn:1≤n) (Bs n₀:Nat) (sv:Value) (zs:List UInt32) (hreach:zs.length≤140737488351232) (w:World) (hBs:Bs<w.heap.size) (hn₀:n₀≤w.heap.size)
  (hc:w.cell? ⟨Bs,0,none⟩=some sv) (hI:Words n₀ w sv zs):
  SeqStopsK F n Tryz.prog 263 #[.pointer (some ⟨Bs,0,none⟩)] (fun x:Int×UInt32=> #[Value.int .i64 x.1,Value.int .u32 (x.2.toNat:Int)]) (KeepB n₀ Bs) (fun ys=>ys=upto (bk zs) zs.length)
   (fun pre=>∃k,k≤zs.length∧pre=upto (bk zs) k) zs.length w:=fun l J Jx W hW _ _ hY h0=>by
 have hc':=(hW.cell (p:=⟨Bs,0,none⟩) hBs).trans hc
 rcases hI.below (hW.mono hn₀) with⟨base,cap,rfl,rfl⟩ |⟨b,off,cap,rfl,hb,hcs⟩
 ·exact (backward1_nil_in F n h7 hro l Bs base cap J W hc' h0).mono fun e W' ⟨he,hj⟩=>⟨he,.inl ⟨_,rfl,hj⟩⟩
 ·exact backward1_in F n h7 hro hn l Bs n₀ b off cap zs hreach hb J Jx hY W hc' hcs h0
def accU (s:Int) (x:Int×UInt32):Int:=bits BinOp.or IntKind.u64 (IntKind.u64.wrap (s*4294967296)) (IntKind.u64.wrap (x.2.toNat:Int))
def foldU (pre:List (Int×UInt32)):Int:=pre.foldl accU 0
theorem foldU_snoc (pre:List (Int×UInt32)) (x:Int×UInt32):foldU (pre++[x])=accU (foldU pre) x:=by simp[foldU]
set_option maxRecDepth 100000 in
theorem toUint_in (F:Fence) (n:Nat) (h3:F.fn 246) (h5:F.fn 258) (h7:F.fn 263) (hro:F.round=none) (hn:3≤n) (a:Option Addr) (len cap:Nat) (zs:List UInt32) (hreach:zs.length≤140737488351232) (w:World) (hI:Words w.heap.size w (.slice a len cap) zs):
  CallsIn F n Tryz.prog 246 #[.slice a len cap] w fun e W'=>e= .returned (.int .u64 (foldU (upto (bk zs) zs.length)))∧Below w.heap.size w W':=by
 have h1:1≤n:=by omega
 refine callsIn_of_wp_marks Tryz.func246 rfl h3 ?_ hro
 simp only[Tryz.ntmps246,List.size_toArray,List.length_cons,List.length_nil,Nat.reduceAdd,Nat.reduceSub,Array.replicate_succ,Array.replicate_zero,List.push_toArray,List.append_toArray,List.nil_append,List.cons_append]
 gi_wp2_with (gi_at_call 258;refine (backward_in F (n-1) h5 hro _ _ _ _).mono ?_;rintro e w' ⟨rfl,rfl⟩)
 have bS:=Boxed.new w 150 (.int .u64 0)
 have bN:=Boxed.new (w.alloc (.cells #[.int .u64 0] 150)) 69 (.slice a len cap)
 rw[World.size_alloc] at bN
 have hB0:Below w.heap.size w ((w.alloc (.cells #[.int .u64 0] 150)).alloc (.cells #[.slice a len cap] 69)):=((Below.refl _ w).alloc (Nat.le_refl _) _).alloc (by simp) _
 refine wpIn_rangeFunc_ownG hro h1 (gf:=263) (lb:= #[.pointer (some ⟨w.heap.size+1,0,none⟩)]) rfl h7 (enters_of Tryz.func263 (by kernel_rfl) rfl)
  (backward_stops F (n-1) h7 hro (by omega) (w.heap.size+1) w.heap.size _ zs hreach _ (by simp) (by simp;omega) bN.cell (hI.below hB0)) KeepB.trans (fun W l o o' hl h hc hw=>⟨belowK_b (by simp;omega) W l o o' hl h hc hw,World.putObj_heap_other (by simp at hl;omega)⟩) (Below.refl _ _) (fun _=>rfl)
  (fun pre W=>(W.cell? ⟨w.heap.size,0,none⟩=some (.int .u64 (foldU pre))∧W.frozen? ⟨w.heap.size,0,none⟩=false)∧Below w.heap.size w W)
  (fun _ _ _=>False)
  (OwnFrom.and (Own.from (fun s A B row hs hg hr=>⟨cell_kept hs.1 hg hr,(frozen_kept hs.1 hg hr).trans hs.2⟩) _) (ownFrom_below (Nat.le_refl _) (by simp;omega)))
  (fun _ _ _ _ _ hs _ _=>hs)
  ⟨⟨(bS.alloc _).cell,(bS.alloc _).frozen⟩,hB0⟩
  (fun x=>{tmps:= #[.slice a len cap,undef,.int .u64 0,.pointer (some ⟨w.heap.size,0,none⟩),undef,.int .u32 (x.2.toNat:Int),.slice a len cap,.func (.func 263) #[] #[.pointer (some ⟨w.heap.size+1,0,none⟩)],.int .i64 x.1,.int .u32 (x.2.toNat:Int),undef,undef,undef,undef,undef,undef],defers:=[]}) ?assign ?body ?done ?stop
 case assign=>
  intro l x W K hK
  gi_wp2
  exact hK
 case body=>
  rintro l pre x W ⟨⟨hc,hf⟩,hB⟩ _
  gi_wp2
  exact⟨(KeepsOthers.setCell _ _ _).from _,⟨(Below.refl w.heap.size W).setCell (p:=⟨w.heap.size,0,none⟩) (Nat.le_refl _) _,Below.heap_setCell W _ _ _ (by simp)⟩,⟨by rw[foldU_snoc];exact World.cell?_setCell_same' _ _ _ (by rw[hc];rfl),by rw[World.frozen?_setCell];exact hf⟩,hB.setCell (p:=⟨w.heap.size,0,none⟩) (Nat.le_refl _) _⟩
 case done=>
  rintro D ys W hD rfl ⟨⟨hc,_⟩,hB⟩ hK
  gi_wp2
  refine⟨by simp,.inl ⟨_,_,rfl,run_takeDeferred hK,?_⟩⟩
  exact⟨_,results_tmp rfl _ _ _,rfl,hB.trans (belowK_b (w:=w) (Nat.le_refl _) W D _ _ (by simp at hD;omega) hK rfl rfl)⟩
 case stop=>
  rintro D c pre W _ _ h _
  exact h.elim
theorem accU_val {s:Int} {p:Nat} (x:Int×UInt32) (hs:s=p) (hp:p<4294967296):accU s x=((x.2.toNat+4294967296*p:Nat):Int):=by
 have hx:=x.2.toNat_lt
 refine or_hilo (a:=IntKind.u64.wrap (s*4294967296)) (b:=IntKind.u64.wrap (x.2.toNat:Int)) rfl ?_ ?_ hp hx
 ·rw[wrap_u64 (rfl:IntKind.u64.wrap (s*4294967296)=_),hs];omega
 ·rw[wrap_u64 (rfl:IntKind.u64.wrap (x.2.toNat:Int)=_)];omega
theorem foldU_val:∀(l:List UInt32),l.length≤2→foldU (upto (bk l) l.length)=(natL l:Int)
 | [],_=>rfl
 | [x],_=>by
  show accU 0 (bk [x] 0)=_
  refine (accU_val (p:=0) _ rfl (by decide)).trans ?_
  simp[bk,natL]
 | [x,y],_=>by
  show accU (accU 0 (bk [x,y] 0)) (bk [x,y] 1)=_
  have h1:=accU_val (p:=0) (bk [x,y] 0) rfl (by decide)
  have hy:=y.toNat_lt
  rw[accU_val (p:=y.toNat) _ (by simpa [bk] using h1) hy]
  simp[bk,natL]
 | _::_::_::_,h=>by simp at h
theorem toUint_ok {l:List UInt32} {n:Int} {k:Nat} (hk:natL l=k) (hl:l.length≤2) (hn:NatIs n k):CF 246 [.one (.sl .u32 l)] (.one (.int .u64 n)):=by
 obtain⟨c,hc⟩:∃c,Tryz.f246.body=some c:=⟨_,rfl⟩
 refine⟨⟨Tryz.f246,c,by kernel_rfl,by rfl,hc⟩,⟨rfl,rfl⟩,fun w I vs hI hvs=>?_⟩
 match vs,hvs with
 | [v],hvs=>
  rcases hvs.1 with hj |⟨base,cap,hv,h1,h2,h3⟩
  ·cases hj
  ·obtain rfl:v= .slice base l.length cap:=by simpa using hv
   have hw:Words w.heap.size w (.slice base l.length cap) l:=by
    rcases h3 with rfl |⟨b,off,rfl,hb,h4⟩
    ·exact .inl ⟨base,cap,rfl,rfl⟩
    ·refine .inr ⟨b,off,cap,rfl,hI b hb,fun j hj=>?_⟩
     obtain⟨us,hu,hr⟩:=h4 j l[j] (by simp[hj])
     have hu:us=[.int .u32 (l[j].toNat:Int)]:=hu
     have:=hr 0 (.int .u32 (l[j].toNat:Int)) (by rw[hu];rfl)
     have e:l[j]?.getD 0=l[j]:=by simp[hj]
     rw[e]
     have hs:T.u32.size=1:=rfl
     rw[hs] at this
     have this:w.cell? ⟨b,off+j*1+0,none⟩=_:=this
     simpa using this
   refine (callsIn_wide.1 (toUint_in Fence.wide 3 trivial trivial trivial rfl (Nat.le_refl _) base l.length cap l (by omega) w hw)).mono ?_
   rintro e w' ⟨rfl,hB⟩
   refine⟨_,none,rfl,hB,.inr ?_⟩
   show _=_
   rw[foldU_val l hl,hk,hn.eq]
 | [],hvs=>exact hvs.elim
 | _::_::_,hvs=>exact hvs.2.elim
end Go.Abs
namespace Go.Abs
open Go.RowKit Go.Shelf Go.Proofs
theorem bitLen_spec {x:Nat} (h:x<4294967296) (h0:x≠0):2^(Lib.bitLen x-1)≤x∧x<2^Lib.bitLen x∧1≤Lib.bitLen x∧Lib.bitLen x≤32:=by
 have key:∀(f x:Nat),x<2^f→x≠0→2^(Lib.bitLenAux f x-1)≤x∧x<2^Lib.bitLenAux f x∧1≤Lib.bitLenAux f x∧Lib.bitLenAux f x≤f:=by
  intro f
  induction f with
  | zero=>intro x h h0;simp at h;exact absurd h h0
  | succ f ih=>
   intro x h h0
   simp only[Lib.bitLenAux,if_neg h0]
   by_cases h2:x/2=0
   ·rw[h2]
    have:Lib.bitLenAux f 0=0:=by cases f <;> simp[Lib.bitLenAux]
    rw[this]
    simp
    omega
   ·obtain⟨a,b,c,d⟩:=ih (x/2) (by rw[Nat.pow_succ] at h;omega) h2
    generalize Lib.bitLenAux f (x/2)=m at*
    obtain⟨m,rfl⟩:∃k,m=k+1:=⟨m-1,by omega⟩
    rw[show 1+(m+1)=m+1+1 by omega,Nat.pow_succ]
    simp only[Nat.add_sub_cancel] at a ⊢
    rw[Nat.pow_succ] at b ⊢
    omega
 have e:Lib.bitLen x=Lib.bitLenAux 32 x:=Lib.bitLenAux_fuel 32 x (by simpa using h) 64 (by decide)
 rw[e]
 exact key 32 x (by simpa using h) h0
theorem Len32_ok {x c:Int} {k:Nat} (hx:NatIs x k) (hk:k<4294967296) (hc:NatIs c (Lib.bitLen k)):CF 262 [.one (.int .u32 x)] (.one (.int .i64 c)):=by
 obtain⟨b,hb⟩:∃b,Tryz.f262.body=some b:=⟨_,rfl⟩
 refine⟨⟨Tryz.f262,b,by kernel_rfl,by rfl,hb⟩,⟨rfl,rfl⟩,fun w I vs hI hvs=>?_⟩
 match vs,hvs with
 | [v],hvs=>
  rcases hvs.1 with hj | hv
  ·cases hj
  ·obtain rfl:v= .int .u32 x:=hv
   have:=hx.eq
   refine (len32_calls x w (by omega) (by omega)).mono ?_
   rintro e w' ⟨rfl,rfl⟩
   refine⟨_,none,rfl,Below.refl _ _,.inr ?_⟩
   show _=_
   rw[hc.eq,hx.eq];rfl
 | [],hvs=>exact hvs.elim
 | _::_::_,hvs=>exact hvs.2.elim
end Go.Abs
