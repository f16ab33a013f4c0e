/- Part 52 of a proof. Conditions: each theorem's own. -/
import Derived.Test.YtpccjlcpbehglaaGreatPk50
set_option linter.all false
set_option maxHeartbeats 8000000
open Go.Proofs
namespace Go.Abs
open Go.RowKit
theorem ratN_eq {o:el tOp} {n d:Int} (h1:n=wrN o.2.2.2.1) (h2:d=((o.2.2.2.2.toNat%8+1:Nat):Int)):ratN o=Rat.divInt n d:=by subst h1 h2;rfl
theorem raw_rat {st:List Nu×Nat} {o:el tOp} (h:st.1=[]∨o.1.toNat%6=0):rawN st o=(([],Re.ofRat (ratN o)),st.2):=by unfold rawN;rw[if_pos h]
theorem raw_op {st:List Nu×Nat} {o:el tOp} (h1:st.1≠[]) (h2:o.1.toNat%6≠0):rawN st o=opN (o.1.toNat%6) (getN st.1 o.2.1.toNat) (getN st.1 o.2.2.1.toNat) st.2:=by
 unfold rawN;rw[if_neg (fun h=>h.elim h1 h2)]
theorem op_add (a b:Nu) (r:Nat):opN 1 a b r=((join2 a.1 b.1,a.2+b.2),r):=by unfold opN;rw[if_pos rfl]
theorem op_sub (a b:Nu) (r:Nat):opN 2 a b r=((join2 a.1 b.1,a.2-b.2),r):=by unfold opN;rw[if_neg (by decide),if_pos rfl]
theorem op_mul (a b:Nu) (r:Nat):opN 3 a b r=((join2 a.1 b.1,a.2*b.2),r):=by unfold opN;rw[if_neg (by decide),if_neg (by decide),if_pos rfl]
theorem op_div0 {a b:Nu} (r:Nat) (h:b.2=0):opN 4 a b r=(a,r):=by unfold opN;rw[if_neg (by decide),if_neg (by decide),if_neg (by decide),if_pos rfl,if_pos h]
theorem op_div {a b:Nu} (r:Nat) (h:b.2≠0):opN 4 a b r=((join2 a.1 b.1,a.2*invR b.2),r):=by unfold opN;rw[if_neg (by decide),if_neg (by decide),if_neg (by decide),if_pos rfl,if_neg h]
theorem op_root (a b:Nu) {r:Nat} (h:r<3):opN 5 a b r=((adj a.1 (absR a.2),Re.sqrt (absR a.2)),r+1):=by unfold opN;rw[if_neg (by decide),if_neg (by decide),if_neg (by decide),if_neg (by decide),if_pos h]
theorem op_full (a b:Nu) {r:Nat} (h:¬r<3):opN 5 a b r=(a,r):=by unfold opN;rw[if_neg (by decide),if_neg (by decide),if_neg (by decide),if_neg (by decide),if_neg h]
theorem get_eq {ns:List Nu} {i j:Nat} {n:Nu} (h:ns[j]? =some n) (hj:j=i%ns.length):getN ns i=n:=by
 unfold getN;rw[List.getD_eq_getElem?_getD,←hj,h];rfl
theorem ii_m:∀h,h≤3→II h Rm Rm≤60000000000000
 | 0,_=>by decide +kernel
 | 1,_=>by decide +kernel
 | 2,_=>by decide +kernel
 | 3,_=>by decide +kernel
 | _+4,h=>absurd h (by omega)
theorem ii_s:∀h,h≤3→II h 256 512≤Rm
 | 0,_=>by decide +kernel
 | 1,_=>by decide +kernel
 | 2,_=>by decide +kernel
 | 3,_=>by decide +kernel
 | _+4,h=>absurd h (by omega)
section
variable {V:List Re} {ns:List Nu}
theorem NOk.tb {n:Nu} (h:NOk V n) (hV:V.length≤3):TB 256 n.1:=(PN.ini (ns:=[n]) hV (fun m hm=>by rw[List.mem_singleton.1 hm];exact h)).tb (PN.self (List.mem_singleton.2 rfl))
theorem NOk.inv {n:Nu} (h:NOk V n) (hV:V.length≤3) (h0:n.2≠0):El n.1 Rm (invR n.2):=by
 have hl:=Nat.le_trans h.len hV
 have ht:Twr 256 n.1:=⟨h.red,h.tb hV,by decide,by omega⟩
 exact ((h.el hV).inv ht (in_invR h.red h.mem h0) (invR_spec h0)).mono (ii_s _ hl)
theorem NOk.abs {n:Nu} (h:NOk V n):NOk V (n.1,absR n.2):=by
 refine⟨h.red,in_absR h.mem,h.vals,h.rads,fun q hq=>?_⟩
 have hq:q∈co n.1 (absR n.2):=hq
 unfold absR at hq
 split at hq
 ·rw[co_neg h.red h.mem] at hq
  obtain⟨p,hp,rfl⟩:=List.mem_map.1 hq
  have:=h.cos p hp
  exact⟨by show (-p.num).natAbs<_;rw[Int.natAbs_neg];exact this.1,this.2⟩
 ·exact h.cos q hq
theorem root_fam {n:Nu} (h:NOk V n) (hV:V.length≤2) (h0:0≤n.2) {S:Nat} (h1:Rm≤S) (h2:S≤Sm):GamY (Tf fun u=>u<:+adj n.1 n.2) Rm Cm S∧Tf (fun u=>u<:+adj n.1 n.2) n.1∧Tf (fun u=>u<:+adj n.1 n.2) (adj n.1 n.2):=by
 have hr:=red_adj0 h.red h.mem h0
 have hn:=h.len
 have htb:TB 256 (adj n.1 n.2):=by
  by_cases hs:Sq n.1 n.2
  ·rw[adj_in hs];exact h.tb (by omega)
  ·rw[adj_new hs]
   intro r hr'
   rcases List.mem_cons.1 hr' with rfl | hr'
   ·refine (bd_short h.cos).mono ?_
    rw[co_len h.mem]
    have:2^n.1.length≤2^2:=pow_le2 (by omega)
    omega
   ·exact h.tb (by omega) r hr'
 have I:Ini (fun u=>u<:+adj n.1 n.2) 256:=⟨fun {u} hu=>red_suffix hu hr,fun {u} hu=>fun r hr'=>htb r (hu.subset hr'),fun {r u} hu=>(List.suffix_cons r u).trans hu⟩
 refine⟨gam_m I (fun {u} hu=>?_) h1 h2,Tf.of I (adj_suffix _ _),Tf.of I (List.suffix_refl _)⟩
 have:=hu.len I (V:=n.2::V) (fun {u} hu v hv=>by
  rcases vals_adj h.mem v (vals_suffix hu v hv) with rfl | hv
  ·exact List.mem_cons_self
  ·exact List.mem_cons_of_mem _ (h.vals v hv))
 rw[List.length_cons] at this;omega
theorem div_made (hV:V.length≤3) (hn:∀n∈ns,NOk V n) {a b:Nu} (ha:a∈ns) (hb:b∈ns) {r:Nat}:∃(T A T' A':_) (e:Int),CF 85 [.agg [.sl (.sl tRat) (tw a.1),.sl tRat (em a.1 a.2)],.agg [.sl (.sl tRat) (tw b.1),.sl tRat (em b.1 b.2)]] (.tup [(true,[.sl (.sl tRat) T,.sl tRat A]),(false,[.int .i64 e])])∧
  CF 84 [.agg [.sl (.sl tRat) T,.sl tRat A],.one (.int .i64 e),.agg [.sl (.sl tRat) (tw a.1),.sl tRat (em a.1 a.2)]] (.agg [.sl (.sl tRat) T',.sl tRat A'])∧T'=tw (opN 4 a b r).1.1∧A'=em (opN 4 a b r).1.1 (opN 4 a b r).1.2∧(opN 4 a b r).2=r:=by
 have G:=fam_of hV hn (Nat.le_refl Rm) (by decide)
 have ea:=((hn a ha).el hV).mono (by decide:512≤Rm)
 have eb:=((hn b hb).el hV).mono (by decide:512≤Rm)
 by_cases h0:b.2=0
 ·rw[op_div0 r h0]
  exact⟨_,_,_,_,_,YNDiv0 G (fam_mem hV hn ha) (fam_mem hV hn hb) rfl rfl rfl rfl ea eb h0,Ymade_err,rfl,rfl,rfl⟩
 ·rw[op_div r h0]
  have hbl:=Nat.le_trans (hn b hb).len hV
  exact⟨_,_,_,_,_,YNDiv G (fam_mem hV hn ha) (fam_mem hV hn hb) rfl rfl rfl rfl ea eb (in_invR (hn b hb).red (hn b hb).mem h0) (invR_spec h0) ((hn b hb).inv hV h0) (ii_m _ hbl) rfl rfl,Ymade_ok,rfl,rfl,rfl⟩
end
theorem keep_nil (x:Nu):keepN [] x=x:=by unfold keepN;rw[if_neg (fun h=>h.1 rfl)]
theorem keep_long {l:List Nu} {x:Nu} (h:l≠[]) (hl:LongN x):keepN l x=l.getLastD zeroN:=by unfold keepN;rw[if_pos ⟨h,hl⟩]
theorem keep_short {l:List Nu} {x:Nu} (hl:¬LongN x):keepN l x=x:=by unfold keepN;rw[if_neg (fun h=>hl h.2)]
theorem long_iff {n:Nu}:LongL n.1.reverse (co n.1 n.2)↔LongN n:=by
 unfold LongL LongN
 simp only[List.mem_reverse]
theorem last_get {l:List Nu} {j:Nat} {n:Nu} (h:l[j]? =some n) (hj:j+1=l.length):l.getLastD zeroN=n:=by
 rw[List.getLastD_eq_getLast?,List.getLast?_eq_getElem?,show l.length-1=j by omega,h];rfl
theorem run_len:∀(xs:List (el tOp)) (st:List Nu×Nat),(xs.foldl stepN st).1.length=st.1.length+xs.length
 | [],_=>rfl
 | o::xs,st=>by
  rw[List.foldl_cons,run_len xs (stepN st o),List.length_cons]
  unfold stepN
  rw[List.length_append,List.length_singleton];omega
theorem sg_lt {x:Re} (h:sgR x<0):x<0:=by rcases sgR_cases x with⟨a,b⟩ |⟨a,b⟩ |⟨a,b⟩ <;> first | exact a | (exfalso;omega)
theorem sg_ge {x:Re} (h:¬sgR x<0):¬x<0:=by rcases sgR_cases x with⟨a,b⟩ |⟨a,b⟩ |⟨a,b⟩ <;> first | (exfalso;omega) | (rw[a];exact fun h=>by grind) | (intro h;grind)
theorem YBuild_ok {X:List (el tOp)} {L:List (el tNum)} (hL:L=(runN (X.take 24)).1.map nm):CF 30 [.one (.sl tOp X)] (.one (.sl tNum L)):=by
 refine acall_fn Tryz.func30 (by kernel_rfl) rfl fun E hE=>?_
 conv=>cbv
 refine .inr ?_
 obtain⟨J0,hJ0⟩:∃J:List AV→List Blk→Nat→Prop,J=fun vs bl k=>(vs=[.one (.sl tOp X),.one .nil,.one (.int .i64 0),.one (.int .i64 0)]∧bl=[.dead 0]∧k=24)∨(∃(o:List (el tNum)) (n k':Nat) (rr j:Int),vs=[.one (.sl tOp X),.one (.lsl tNum 157 0 0 n),.one (.int .i64 rr),.one (.int .i64 j)]∧bl=[.arr 0 tNum o]∧(NatIs j k'∧k'≤X.length∧k'≤24∧0<k'∧n=o.length)∧(o=(runN (X.take k')).1.map nm∧NatIs rr (runN (X.take k')).2)∧k=24-k'):=⟨_,rfl⟩
 refine⟨[0,3,4,5],[157],J0,⟨24,by rw[hJ0];exact .inl ⟨rfl,rfl,rfl⟩⟩,?_⟩
 intro vs bl kk0 hj;rw[hJ0] at hj
 rcases hj with⟨rfl,rfl,hk0⟩ |⟨o,n,k',rr,j,rfl,rfl,⟨hj,hjl,hj24,hj0,hn⟩,⟨ho,hroots⟩,hk0⟩
 ·conv=>cbv
  obtain⟨k',hk0⟩:∃z:Nat,z=0:=⟨_,rfl⟩
  obtain⟨hr3,V,hV,hns⟩:=runN_ok (X.take k')
  obtain⟨st,hst⟩:∃s,s=runN (X.take k'):=⟨_,rfl⟩
  rw[←hst] at hr3 hV hns
  have hnil:st.1=[]:=by rw[hst,hk0];rfl
  have hst2:st.2=0:=by rw[hst,hk0];rfl
  intro n22 h22;have e22:=h22.eq;have f22:=h22.le;conv=>cbv
  intro n23 h23;conv=>cbv
  cases n23 <;> conv=>cbv
  ·have k23:=lss_f h23
   exact fA ⟨⟨rfl,.inr (.inl ⟨_,congrArg _ (by rw[hL,show X.take 24=[] by rw[List.take_eq_nil_iff];right;exact List.eq_nil_of_length_eq_zero (by omega)];rfl)⟩),trivial⟩,trivial⟩ rfl (by simp)
  ·have k23:=lss_t h23
   intro n26 h26;(have h26:=h26.trans (show _=true by decide));subst h26;conv=>cbv
   refine .inr ?_
   obtain⟨x32,hx32⟩:=get_ex (l:=X) (i:=0) (by omega)
   refine⟨x32,fun _=>⟨by omega,hx32⟩,?_⟩
   try conv=>cbv
   intro n33 h33;have e33:=h33.eq;have f33:=h33.lt;conv=>cbv
   intro n33' h33';have e33':=h33'.eq;have f33':=h33'.lt;conv=>cbv
   intro n33'' h33'';have e33'':=h33''.eq;have f33'':=h33''.lt;conv=>cbv
   intro n33''' h33''';have e33''':=h33'''.eq;have f33''':=h33'''.lt;conv=>cbv
   have hu1:n33=((x32.1.toNat:Nat):Int):=e33
   have hu2:n33'=((x32.2.1.toNat:Nat):Int):=e33'
   have hu3:n33''=((x32.2.2.1.toNat:Nat):Int):=e33''
   have hu5:n33'''=((x32.2.2.2.2.toNat:Nat):Int):=e33'''
   intro n36 h36;conv=>cbv
   have h36:=wrap_i64 h36
   have h36':n36=wrN x32.2.2.2.1:=h36
   intro n39 h39;conv=>cbv
   refine⟨fun _=>⟨by omega,by omega⟩,?_⟩
   intro n40 h40;conv=>cbv
   have h40:=wrap_i64 h40
   intro n41 h41;conv=>cbv
   refine⟨fun _=>i64 (by omega),?_⟩
   obtain⟨w42,hw42⟩:=pre_r (em [] (Re.ofRat (ratN x32)))
   have hwr:=wrN_in x32.2.2.2.1
   refine cL (r:= .agg [.sl (.sl tRat) (([]:List LR)),.sl tRat w42]) hE (YNFrac (q:=ratN x32) (by omega) (by omega) (by omega) (ratN_eq h36' (by show n41=((x32.2.2.2.2.toNat%8+1:Nat):Int);omega)) hw42) ⟨rfl,rfl,trivial⟩ ?_
   try conv=>cbv
   intro n45 h45;(have h45:=h45.trans (show _=false by decide));subst h45;conv=>cbv
   refine .inr ?_
   intro n142 h142;(have h142:=h142.trans (show _=false by decide));subst h142;conv=>cbv
   refine .inr ?_
   obtain⟨_,VV',hV',hns',hrk⟩:=raw_ok (st:=st) ⟨hr3,V,hV,hns⟩ x32
   have hV8:VV'.length≤8:=by have:=(raw_ok (st:=st) ⟨hr3,V,hV,hns⟩ x32).1;omega
   have hko:=keep_ok (l:=[]) (x:=(rawN st x32).1) (fun n hn=>by simp at hn) hrk (fun he=>by rw[raw_rat (.inl hnil)];exact rat_short x32)
   obtain⟨kk,hkk⟩:∃z:Nu,z=keepN [] (rawN st x32).1:=⟨_,rfl⟩
   rw[←hkk] at hko
   have hspec:=trimN_spec hko.red hko.mem
   have hk2:kk=([],Re.ofRat (ratN x32)):=by rw[hkk,keep_nil,raw_rat (.inl hnil)]
   have hTn:(([]:List LR):List LR)=tw kk.1:=by rw[hk2];rfl
   have hAn:w42=em kk.1 kk.2:=by rw[hk2];exact hw42
   obtain⟨w155,hw155⟩:=pre_v (tw (trimN kk).1)
   obtain⟨v155,hv155⟩:=pre_r (em (trimN kk).1 (trimN kk).2)
   refine cL (r:= .agg [.sl (.sl tRat) w155,.sl tRat v155]) hE (YTrim_ok hko.red hko.mem (by have:=hko.len;omega) (by rw[hspec.1,hspec.2.2]) hTn hAn hw155 (by rw[hv155,hspec.2.2])) ⟨⟨rfl,rfl,trivial⟩,trivial⟩ ?_
   try conv=>cbv
   refine⟨[(w155,v155)],fun _=>⟨rfl,by decide,rfl,⟨rfl,by first | exact⟨rfl,trivial⟩ | exact⟨rfl,rfl,trivial⟩ | exact⟨rfl,rfl,rfl,rfl,trivial⟩ | simp[allC,leC,cells],trivial⟩⟩,.inr ?_⟩
   try conv=>cbv
   refine .inl ⟨[(w155,v155)],fun _=>⟨rfl,by show (1)*48≤140737488355328;(try simp only[List.length_take,List.length_drop]);omega⟩,?_⟩
   intro n157 h157;conv=>cbv
   intro n29 h29;conv=>cbv
   refine⟨fun _=>i64 (by omega),?_⟩
   refine⟨24-(k'+1),?_,?_⟩
   ·omega
   rw[hJ0]
   have hx32':X[k']? =some x32:=by (first | exact hx32 | (rw[←hx32];congr 1 <;> omega))
   refine .inr ⟨_,_,k'+1,0,n29,rfl,rfl,⟨⟨by omega⟩,by have:=getE' hx32';omega,by omega,by omega,h157⟩,?_,rfl⟩
   rw[take_snoc (x:=x32) hx32',runN_snoc,←hst]
   refine⟨by rw[stepN,hnil,List.nil_append,←hkk,hw155,hv155];rfl,?_⟩
   show NatIs 0 (rawN st x32).2
   rw[raw_rat (.inl hnil),hst2];exact natIs 0
 ·conv=>cbv
  have ej:=hj.eq
  have eroots:=hroots.eq
  obtain⟨hr3,V,hV,hns⟩:=runN_ok (X.take k')
  obtain⟨st,hst⟩:∃s,s=runN (X.take k'):=⟨_,rfl⟩
  rw[←hst] at hr3 hV hns
  rw[←hst] at ho hroots eroots
  have hlen:st.1.length=k':=by rw[hst,runN,run_len,List.length_nil,List.length_take];omega
  have hol:o.length=k':=by rw[ho,List.length_map,hlen]
  have hne:st.1≠[]:=fun e=>by rw[e] at hlen;simp at hlen;omega
  have hV3:=Nat.le_trans hV hr3
  intro n22 h22;have e22:=h22.eq;have f22:=h22.le;conv=>cbv
  intro n23 h23;conv=>cbv
  cases n23 <;> conv=>cbv
  ·have k23:=lss_f h23
   exact fA ⟨⟨rfl,.inl ⟨_,rfl,by omega,congrArg _ (by have e:X.take 24=X.take k':=(by first | rw[show k'=24 by omega] | rw[List.take_of_length_le (by omega),List.take_of_length_le (by omega)]);rw[hL,hn,List.drop_zero,List.take_length,ho,hst,e])⟩,trivial⟩,trivial⟩ rfl (by simp)
  ·have k23:=lss_t h23
   intro n26 h26;conv=>cbv
   cases n26 <;> conv=>cbv
   ·have k26:=lss_f h26
    exact fA ⟨⟨rfl,.inl ⟨_,rfl,by omega,congrArg _ (by have e:X.take 24=X.take k':=(by first | rw[show k'=24 by omega] | rw[List.take_of_length_le (by omega),List.take_of_length_le (by omega)]);rw[hL,hn,List.drop_zero,List.take_length,ho,hst,e])⟩,trivial⟩,trivial⟩ rfl (by simp)
   ·have k26:=lss_t h26
    refine .inr ?_
    obtain⟨x32,hx32⟩:=get_ex (l:=X) (i:=k') (by omega)
    refine⟨x32,fun _=>⟨by omega,by rw[show (j).toNat=k' by omega];exact hx32⟩,?_⟩
    try conv=>cbv
    intro n33 h33;have e33:=h33.eq;have f33:=h33.lt;conv=>cbv
    intro n33' h33';have e33':=h33'.eq;have f33':=h33'.lt;conv=>cbv
    intro n33'' h33'';have e33'':=h33''.eq;have f33'':=h33''.lt;conv=>cbv
    intro n33''' h33''';have e33''':=h33'''.eq;have f33''':=h33'''.lt;conv=>cbv
    have hu1:n33=((x32.1.toNat:Nat):Int):=e33
    have hu2:n33'=((x32.2.1.toNat:Nat):Int):=e33'
    have hu3:n33''=((x32.2.2.1.toNat:Nat):Int):=e33''
    have hu5:n33'''=((x32.2.2.2.2.toNat:Nat):Int):=e33'''
    intro n36 h36;conv=>cbv
    have h36:=wrap_i64 h36
    have h36':n36=wrN x32.2.2.2.1:=h36
    intro n39 h39;conv=>cbv
    refine⟨fun _=>⟨by omega,by omega⟩,?_⟩
    intro n40 h40;conv=>cbv
    have h40:=wrap_i64 h40
    intro n41 h41;conv=>cbv
    refine⟨fun _=>i64 (by omega),?_⟩
    obtain⟨w42,hw42⟩:=pre_r (em [] (Re.ofRat (ratN x32)))
    have hwr:=wrN_in x32.2.2.2.1
    refine cL (r:= .agg [.sl (.sl tRat) (([]:List LR)),.sl tRat w42]) hE (YNFrac (q:=ratN x32) (by omega) (by omega) (by omega) (ratN_eq h36' (by show n41=((x32.2.2.2.2.toNat%8+1:Nat):Int);omega)) hw42) ⟨rfl,rfl,trivial⟩ ?_
    try conv=>cbv
    intro n44 h44;have e44:=h44.eq;conv=>cbv
    intro n45 h45;conv=>cbv
    cases n45 <;> conv=>cbv
    ·have k45:=gtr_f h45
     exact absurd k45 (by omega)
    ·have k45:=gtr_t h45
     intro n49 h49;conv=>cbv
     refine⟨fun _=>⟨by omega,by omega⟩,?_⟩
     intro n50 h50;conv=>cbv
     obtain⟨J51,hJ51⟩:∃J:List AV→List Blk→Prop,J=fun vs bl=>∃(T7:List LR) (A7:LR) (r7:Int),vs=[.one (.sl tOp X),.one (.lsl tNum 157 0 0 n),.one (.int .i64 r7),.one (.int .i64 j),.one (.lptr 7 0 0)]∧bl=[.var 0 [.sl (.sl tRat) T7,.sl tRat A7],.arr 0 tNum o]∧(T7=tw (rawN st x32).1.1∧A7=em (rawN st x32).1.1 (rawN st x32).1.2)∧NatIs r7 (rawN st x32).2:=⟨_,rfl⟩
     refine .inl ⟨[0,3,4,5,7],[7,157],J51,?_,?_⟩
     ·intro vs bl hj;rw[hJ51] at hj
      obtain⟨T7,A7,r7,rfl,rfl,⟨hT7,hA7⟩,hr7⟩:=hj
      conv=>cbv
      have er7:=hr7.eq
      intro n141 h141;have e141:=h141.eq;conv=>cbv
      intro n142 h142;conv=>cbv
      cases n142 <;> conv=>cbv
      ·have k142:=gtr_f h142
       exact absurd k142 (by omega)
      ·have k142:=gtr_t h142
       obtain⟨c145,hc145⟩:=bool_ex (LongL (rawN st x32).1.1.reverse (co (rawN st x32).1.1 (rawN st x32).1.2))
       refine cA hE (Ylong_ok hT7 hA7 hc145) ?_
       try conv=>cbv
       obtain⟨J146,hJ146⟩:∃J:List AV→List Blk→Prop,J=fun vs bl=>∃(T8:List LR) (A8:LR),vs=[.one (.sl tOp X),.one (.lsl tNum 157 0 0 n),.one (.int .i64 r7),.one (.int .i64 j),.one (.lptr 7 0 0)]∧bl=[.var 0 [.sl (.sl tRat) T8,.sl tRat A8],.arr 0 tNum o]∧(T8=tw (keepN st.1 (rawN st x32).1).1∧A8=em (keepN st.1 (rawN st x32).1).1 (keepN st.1 (rawN st x32).1).2):=⟨_,rfl⟩
       refine .inl ⟨[0,3,4,5,7],[7,157],J146,?_,?_⟩
       ·intro vs bl hj;rw[hJ146] at hj
        obtain⟨T8,A8,rfl,rfl,hT8,hA8⟩:=hj
        conv=>cbv
        obtain⟨_,VV',hV',hns',hrk⟩:=raw_ok (st:=st) ⟨hr3,V,hV,hns⟩ x32
        have hV8:VV'.length≤8:=by have:=(raw_ok (st:=st) ⟨hr3,V,hV,hns⟩ x32).1;omega
        have hko:=keep_ok (l:=st.1) (x:=(rawN st x32).1) hns' hrk (fun he=>by rw[raw_rat (.inl he)];exact rat_short x32)
        obtain⟨kk,hkk⟩:∃z:Nu,z=keepN st.1 (rawN st x32).1:=⟨_,rfl⟩
        rw[←hkk] at hko
        have hspec:=trimN_spec hko.red hko.mem
        rw[←hkk] at hT8 hA8
        obtain⟨w155,hw155⟩:=pre_v (tw (trimN kk).1)
        obtain⟨v155,hv155⟩:=pre_r (em (trimN kk).1 (trimN kk).2)
        refine cL (r:= .agg [.sl (.sl tRat) w155,.sl tRat v155]) hE (YTrim_ok hko.red hko.mem (by have:=hko.len;omega) (by rw[hspec.1,hspec.2.2]) hT8 hA8 hw155 (by rw[hv155,hspec.2.2])) ⟨⟨rfl,rfl,trivial⟩,trivial⟩ ?_
        try conv=>cbv
        refine⟨[(w155,v155)],fun _=>⟨rfl,by decide,rfl,⟨rfl,by first | exact⟨rfl,trivial⟩ | exact⟨rfl,rfl,trivial⟩ | exact⟨rfl,rfl,rfl,rfl,trivial⟩ | simp[allC,leC,cells],trivial⟩⟩,.inr ?_⟩
        try conv=>cbv
        refine .inl ⟨[(w155,v155)],fun _=>⟨rfl,by (first | rfl | omega),rfl,by show (o.length+1)*48≤140737488355328;(try simp only[List.length_take,List.length_drop]);omega⟩,?_⟩
        intro (l157:List (el tNum)) n157 ql157;have hl157:l157=(o:List (el tNum))++([(w155,v155)]:List (el tNum)):=ql157.1;have hn157:n157=List.length (α:=(el tNum)) l157:=ql157.2;conv=>cbv
        intro n29 h29;conv=>cbv
        refine⟨fun _=>i64 (by omega),?_⟩
        refine⟨24-(k'+1),?_,?_⟩
        ·omega
        rw[hJ0]
        have hx32':X[k']? =some x32:=by (first | exact hx32 | (rw[←hx32];congr 1 <;> omega))
        refine .inr ⟨l157,_,k'+1,r7,n29,rfl,rfl,⟨⟨by omega⟩,by have:=getE' hx32';omega,by omega,by omega,hn157⟩,?_,rfl⟩
        rw[take_snoc (x:=x32) hx32',runN_snoc,←hst]
        exact⟨by rw[hl157,ho,stepN,List.map_append,←hkk,hw155,hv155];rfl,hr7⟩
       cases c145 <;> conv=>cbv
       ·rw[hJ146]
        refine⟨_,_,rfl,rfl,?_⟩ <;> rw[keep_short (fun hl=>Bool.false_ne_true (hc145.2 (long_iff.2 hl)))]
        exact⟨hT7,hA7⟩
       ·intro n149 h149;have e149:=h149.eq;conv=>cbv
        intro n150 h150;conv=>cbv
        refine⟨fun _=>i64 (by omega),?_⟩
        refine⟨fun _=>⟨by omega,by omega⟩,?_⟩
        intro j151 hj151;conv=>cbv
        obtain⟨x152,hx152⟩:=get_ex (l:=o) (i:=j151) (by omega)
        refine⟨x152,fun _=>hx152,?_⟩
        try conv=>cbv
        rw[hJ146]
        obtain⟨u3,y3,hxu3,hxy3,hn3⟩:=get_nm ho hx152
        refine⟨_,_,rfl,rfl,?_⟩ <;> rw[keep_long hne (long_iff.1 (hc145.1 rfl)),last_get hn3 (by omega)]
        exact⟨hxu3,hxy3⟩
     cases n50 <;> conv=>cbv
     ·have k50:=neq_f h50
      rw[hJ51]
      refine⟨_,_,_,rfl,rfl,?_,?_⟩ <;> rw[raw_rat (.inr (by omega))]
      ·exact⟨rfl,hw42⟩
      ·exact hroots
     ·have k50:=neq_t h50
      intro n55 h55;conv=>cbv
      have h55:=wrap_i64 h55
      intro n57 h57;have e57:=h57.eq;conv=>cbv
      intro n58 h58;conv=>cbv
      refine⟨fun _=>⟨by omega,by omega⟩,?_⟩
      obtain⟨d58,hd58,e58,hlt58⟩:∃d:Nat,d=x32.2.1.toNat%k'∧n58=d∧d<k':=⟨_,rfl,by rw[h58,show n55=((x32.2.1.toNat:Nat):Int) by omega,show n57=(k':Int) by omega];exact (Int.natCast_emod _ _).symm,Nat.mod_lt _ hj0⟩
      refine⟨fun _=>⟨by omega,by omega⟩,?_⟩
      intro j59 hj59;conv=>cbv
      obtain⟨x60,hx60⟩:=get_ex (l:=o) (i:=j59) (by omega)
      refine⟨x60,fun _=>hx60,?_⟩
      try conv=>cbv
      intro n64 h64;conv=>cbv
      have h64:=wrap_i64 h64
      intro n66 h66;have e66:=h66.eq;conv=>cbv
      intro n67 h67;conv=>cbv
      refine⟨fun _=>⟨by omega,by omega⟩,?_⟩
      obtain⟨d67,hd67,e67,hlt67⟩:∃d:Nat,d=x32.2.2.1.toNat%k'∧n67=d∧d<k':=⟨_,rfl,by rw[h67,show n64=((x32.2.2.1.toNat:Nat):Int) by omega,show n66=(k':Int) by omega];exact (Int.natCast_emod _ _).symm,Nat.mod_lt _ hj0⟩
      refine⟨fun _=>⟨by omega,by omega⟩,?_⟩
      intro j68 hj68;conv=>cbv
      obtain⟨x69,hx69⟩:=get_ex (l:=o) (i:=j68) (by omega)
      refine⟨x69,fun _=>hx69,?_⟩
      try conv=>cbv
      refine⟨fun _=>rfl,?_⟩
      obtain⟨u1,y1,hxu1,hxy1,hn1⟩:=get_nm ho hx60
      obtain⟨u2,y2,hxu2,hxy2,hn2⟩:=get_nm ho hx69
      have hma:=List.mem_of_getElem? hn1
      have hmb:=List.mem_of_getElem? hn2
      have hj1:j59=x32.2.1.toNat%st.1.length:=by rw[hlen,←hd58];omega
      have hj2:j68=x32.2.2.1.toNat%st.1.length:=by rw[hlen,←hd67];omega
      have hea:=((hns _ hma).el hV3).mono (by decide:512≤Rm)
      have heb:=((hns _ hmb).el hV3).mono (by decide:512≤Rm)
      intro n73 h73;conv=>cbv
      refine⟨fun _=>⟨by omega,by omega⟩,?_⟩
      refine .inr ?_
      intro n93 h93;conv=>cbv
      refine .inr ?_
      cases n93 <;> conv=>cbv
      ·have k93:=eql_f h93
       intro n105 h105;conv=>cbv
       refine .inr ?_
       cases n105 <;> conv=>cbv
       ·have k105:=eql_f h105
        intro n117 h117;conv=>cbv
        refine .inr ?_
        cases n117 <;> conv=>cbv
        ·have k117:=eql_f h117
         intro n129 h129;conv=>cbv
         refine .inr ?_
         cases n129 <;> conv=>cbv
         ·have k129:=eql_f h129
          obtain⟨r75,hr75⟩:∃z:Int,z=sgR y1:=⟨_,rfl⟩
          refine cL hE (YNSign (fam_of hV3 hns (Nat.le_refl Rm) (by decide)) (fam_mem hV3 hns hma) hxu1 hxy1 hea hr75) ⟨⟨rfl,rfl,trivial⟩,trivial⟩ ?_
          try conv=>cbv
          intro n76 h76;conv=>cbv
          refine .inr ?_
          cases n76 <;> conv=>cbv
          ·have k76:=lss_f h76
           intro n80 h80;conv=>cbv
           refine .inr ?_
           cases n80 <;> conv=>cbv
           ·have k80:=lss_f h80
            rw[hJ51]
            have hro:=raw_op (o:=x32) hne (by omega:x32.1.toNat%6≠0)
            rw[get_eq hn1 hj1,get_eq hn2 hj2] at hro
            rw[show x32.1.toNat%6=5 by omega,op_full _ _ (by omega)] at hro
            refine⟨_,_,_,rfl,rfl,?_,?_⟩ <;> rw[hro]
            ·exact⟨hxu1,hxy1⟩
            ·exact hroots
           ·have k80:=lss_t h80
            intro n82 h82;conv=>cbv
            refine⟨fun _=>i64 (by omega),?_⟩
            have hab:=(hns _ hma).abs
            have habs:absR y1=y1:=by unfold absR;rw[if_neg (sg_ge (by omega))]
            obtain⟨hG,hg1,hg2⟩:=root_fam hab (by omega) (absR_nn _) (Nat.le_refl Rm) (by decide)
            obtain⟨w85,hw85⟩:=pre_v (tw (adj u1 (absR y1)))
            obtain⟨v85,hv85⟩:=pre_r (em (adj u1 (absR y1)) (Re.sqrt (absR y1)))
            refine cL (r:= .tup [(true,[.sl (.sl tRat) w85,.sl tRat v85]),(false,[.int .i64 0])]) hE (YNSqrt hG hg1 hxu1 (by show _=em u1 (absR y1);rw[habs];exact hxy1) ((hab.el hV3).mono (by decide)) hg2 (absR_nn _) hw85 hv85) ⟨⟨rfl,rfl,trivial⟩,trivial⟩ ?_
            try conv=>cbv
            refine cA hE Ymade_ok ?_
            try conv=>cbv
            rw[hJ51]
            have hro:=raw_op (o:=x32) hne (by omega:x32.1.toNat%6≠0)
            rw[get_eq hn1 hj1,get_eq hn2 hj2] at hro
            rw[show x32.1.toNat%6=5 by omega,op_root _ _ (by omega)] at hro
            refine⟨_,_,_,rfl,rfl,?_,?_⟩ <;> rw[hro]
            ·exact⟨hw85,hv85⟩
            ·exact⟨by show n82=((st.2+1:Nat):Int);omega⟩
          ·have k76:=lss_t h76
           obtain⟨v78,hv78⟩:=pre_r (em u1 (-y1))
           refine cL hE (YNNeg (fam_of hV3 hns (Nat.le_refl Rm) (by decide)) (fam_mem hV3 hns hma) hxu1 hxy1 hea hv78) ⟨⟨rfl,rfl,trivial⟩,trivial⟩ ?_
           try conv=>cbv
           intro n80 h80;conv=>cbv
           refine .inr ?_
           cases n80 <;> conv=>cbv
           ·have k80:=lss_f h80
            rw[hJ51]
            have hro:=raw_op (o:=x32) hne (by omega:x32.1.toNat%6≠0)
            rw[get_eq hn1 hj1,get_eq hn2 hj2] at hro
            rw[show x32.1.toNat%6=5 by omega,op_full _ _ (by omega)] at hro
            refine⟨_,_,_,rfl,rfl,?_,?_⟩ <;> rw[hro]
            ·exact⟨hxu1,hxy1⟩
            ·exact hroots
           ·have k80:=lss_t h80
            intro n82 h82;conv=>cbv
            refine⟨fun _=>i64 (by omega),?_⟩
            have hab:=(hns _ hma).abs
            have habs:absR y1= -y1:=by unfold absR;rw[if_pos (sg_lt (by omega))]
            obtain⟨hG,hg1,hg2⟩:=root_fam hab (by omega) (absR_nn _) (Nat.le_refl Rm) (by decide)
            obtain⟨w85,hw85⟩:=pre_v (tw (adj u1 (absR y1)))
            obtain⟨v85,hv85⟩:=pre_r (em (adj u1 (absR y1)) (Re.sqrt (absR y1)))
            refine cL (r:= .tup [(true,[.sl (.sl tRat) w85,.sl tRat v85]),(false,[.int .i64 0])]) hE (YNSqrt hG hg1 hxu1 (by show _=em u1 (absR y1);rw[habs];exact hv78) ((hab.el hV3).mono (by decide)) hg2 (absR_nn _) hw85 hv85) ⟨⟨rfl,rfl,trivial⟩,trivial⟩ ?_
            try conv=>cbv
            refine cA hE Ymade_ok ?_
            try conv=>cbv
            rw[hJ51]
            have hro:=raw_op (o:=x32) hne (by omega:x32.1.toNat%6≠0)
            rw[get_eq hn1 hj1,get_eq hn2 hj2] at hro
            rw[show x32.1.toNat%6=5 by omega,op_root _ _ (by omega)] at hro
            refine⟨_,_,_,rfl,rfl,?_,?_⟩ <;> rw[hro]
            ·exact⟨hw85,hv85⟩
            ·exact⟨by show n82=((st.2+1:Nat):Int);omega⟩
         ·have k129:=eql_t h129
          obtain⟨T133,A133,T133b,A133b,e133,hd133,hm133,hT133b,hA133b,hr133⟩:=div_made hV3 hns hma hmb (r:=st.2)
          refine .inl ⟨[.agg [.sl (.sl tRat) x60.1,.sl tRat x60.2],.agg [.sl (.sl tRat) x69.1,.sl tRat x69.2]],.tup [(true,[.sl (.sl tRat) T133,.sl tRat A133]),(false,[.int .i64 e133])],fun _=>⟨⟨rfl,rfl,trivial⟩,⟨rfl,rfl,trivial⟩,trivial⟩,fun _=>useC hE (by rw[hxu1,hxy1,hxu2,hxy2];exact hd133),?_⟩
          try conv=>cbv
          refine .inl ⟨[.agg [.sl (.sl tRat) T133,.sl tRat A133],.one (.int .i64 e133),.agg [.sl (.sl tRat) x60.1,.sl tRat x60.2]],.agg [.sl (.sl tRat) T133b,.sl tRat A133b],fun _=>⟨⟨rfl,rfl,trivial⟩,rfl,⟨rfl,rfl,trivial⟩,trivial⟩,fun _=>useC hE (by rw[hxu1,hxy1];exact hm133),?_⟩
          try conv=>cbv
          rw[hJ51]
          have hro:=raw_op (o:=x32) hne (by omega:x32.1.toNat%6≠0)
          rw[get_eq hn1 hj1,get_eq hn2 hj2] at hro
          rw[show x32.1.toNat%6=4 by omega] at hro
          refine⟨_,_,_,rfl,rfl,?_,?_⟩ <;> rw[hro]
          ·exact⟨hT133b,hA133b⟩
          ·rw[hr133];exact hroots
        ·have k117:=eql_t h117
         obtain⟨w121,hw121⟩:=pre_v (tw (join2 u1 u2))
         obtain⟨v121,hv121⟩:=pre_r (em (join2 u1 u2) (y1*y2))
         refine cL hE (YNMul (fam_of hV3 hns (Nat.le_refl Rm) (by decide)) (fam_mem hV3 hns hma) (fam_mem hV3 hns hmb) hxu1 hxu2 hxy1 hxy2 hea heb hw121 hv121) ⟨⟨rfl,rfl,trivial⟩,⟨rfl,rfl,trivial⟩,trivial⟩ ?_
         try conv=>cbv
         refine cA hE Ymade_ok ?_
         try conv=>cbv
         rw[hJ51]
         have hro:=raw_op (o:=x32) hne (by omega:x32.1.toNat%6≠0)
         rw[get_eq hn1 hj1,get_eq hn2 hj2] at hro
         rw[show x32.1.toNat%6=3 by omega,op_mul] at hro
         refine⟨_,_,_,rfl,rfl,?_,?_⟩ <;> rw[hro]
         ·exact⟨hw121,hv121⟩
         ·exact hroots
       ·have k105:=eql_t h105
        obtain⟨w109,hw109⟩:=pre_v (tw (join2 u1 u2))
        obtain⟨v109,hv109⟩:=pre_r (em (join2 u1 u2) (y1-y2))
        refine cL hE (YNSub (fam_of hV3 hns (Nat.le_refl Rm) (by decide)) (fam_mem hV3 hns hma) (fam_mem hV3 hns hmb) hxu1 hxu2 hxy1 hxy2 hea heb hw109 hv109) ⟨⟨rfl,rfl,trivial⟩,⟨rfl,rfl,trivial⟩,trivial⟩ ?_
        try conv=>cbv
        refine cA hE Ymade_ok ?_
        try conv=>cbv
        rw[hJ51]
        have hro:=raw_op (o:=x32) hne (by omega:x32.1.toNat%6≠0)
        rw[get_eq hn1 hj1,get_eq hn2 hj2] at hro
        rw[show x32.1.toNat%6=2 by omega,op_sub] at hro
        refine⟨_,_,_,rfl,rfl,?_,?_⟩ <;> rw[hro]
        ·exact⟨hw109,hv109⟩
        ·exact hroots
      ·have k93:=eql_t h93
       obtain⟨w97,hw97⟩:=pre_v (tw (join2 u1 u2))
       obtain⟨v97,hv97⟩:=pre_r (em (join2 u1 u2) (y1+y2))
       refine cL hE (YNAdd (fam_of hV3 hns (Nat.le_refl Rm) (by decide)) (fam_mem hV3 hns hma) (fam_mem hV3 hns hmb) hxu1 hxu2 hxy1 hxy2 hea heb hw97 hv97) ⟨⟨rfl,rfl,trivial⟩,⟨rfl,rfl,trivial⟩,trivial⟩ ?_
       try conv=>cbv
       refine cA hE Ymade_ok ?_
       try conv=>cbv
       rw[hJ51]
       have hro:=raw_op (o:=x32) hne (by omega:x32.1.toNat%6≠0)
       rw[get_eq hn1 hj1,get_eq hn2 hj2] at hro
       rw[show x32.1.toNat%6=1 by omega,op_add] at hro
       refine⟨_,_,_,rfl,rfl,?_,?_⟩ <;> rw[hro]
       ·exact⟨hw97,hv97⟩
       ·exact hroots
end Go.Abs
