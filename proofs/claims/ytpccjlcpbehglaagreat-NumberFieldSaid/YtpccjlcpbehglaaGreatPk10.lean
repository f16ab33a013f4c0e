/- Part 11 of a proof. Conditions: each theorem's own. -/
import Derived.Test.YtpccjlcpbehglaaGreatPk09
set_option linter.all false
set_option maxHeartbeats 8000000
namespace Go.Abs
open Go.RowKit
section
variable {P:Program} {E:Env} {TI:TypeId→Info}
def unl:List Bool→Nat
 | []=>0
 | b::l=>(if b then 0 else 1)+unl l
theorem unl_set:∀(l:List Bool) (i:Nat),l[i]? =some false→unl (l.set i true)+1=unl l
 | [],_,h=>by simp at h
 | b::l,0,h=>by simp at h;subst h;simp[unl];omega
 | b::l,i+1,h=>by have:=unl_set l i (by simpa using h);simp[unl];omega
theorem unl_zero:∀(l:List Bool),unl l=0→∀j,j<l.length→l[j]? =some true
 | [],_,j,h=>by simp at h
 | b::l,h,0,_=>by cases b <;> simp[unl] at h ⊢
 | b::l,h,j+1,hj=>by have:=unl_zero l (by simp[unl] at h;exact h.2) j (by simpa using hj);simpa using this
theorem befs_ext:∀(r:List Oper) (acc:List (List Nat)) (k:Nat),k<acc.length→(befs r acc).getD k []=acc.getD k []
 | [],_,_,_=>rfl
 | o::r,acc,k,h=>by
  rw[befs,befs_ext r _ k (by simp;omega)]
  simp[List.getD_eq_getElem?_getD,List.getElem?_append_left h]
theorem befs_spec:∀(r:List Oper) (acc:List (List Nat)) (j:Nat) (o:Oper),r[j]? =some o→∀i∈(befs r acc).getD (acc.length+j) [],∃k∈anyOn o,i=k∨i∈(befs r acc).getD k []
 | [],_,_,_,h=>by simp at h
 | o::r,acc,0,o',h=>by
  simp at h
  subst h
  intro i hi
  rw[befs,Nat.add_zero,befs_ext r _ acc.length (by simp)] at hi
  simp only[List.getD_eq_getElem?_getD,List.getElem?_concat_length,Option.getD_some] at hi
  obtain⟨k,hk,hi⟩:=List.mem_flatMap.1 hi
  refine⟨k,hk,?_⟩
  rcases List.mem_cons.1 hi with rfl | hi
  ·exact .inl rfl
  ·refine .inr ?_
   rcases Nat.lt_or_ge k acc.length with h' | h'
   ·rw[befs,befs_ext r _ k (by simp;omega)]
    simpa [List.getD_eq_getElem?_getD,List.getElem?_append_left h'] using hi
   ·simp[List.getElem?_eq_none h'] at hi
 | o::r,acc,j+1,o',h=>by
  intro i hi
  have:=befs_spec r (acc++[(anyOn o).flatMap fun j=>j::acc.getD j []]) j o' (by simpa using h) i (by
   rw[List.length_append,List.length_singleton,show acc.length+1+j=acc.length+(j+1) by omega];exact hi)
  exact this
theorem len_fin:∀(r:List Oper) (fs:List Eff) (s:St),(fin r fs s).sl.length=s.sl.length
 | o::r,f::fs,s=>by rw[fin,len_fin r fs,len_app]
 | [],_,_=>rfl
 | _::_,[],_=>rfl
theorem disj_spec {a b:List Nat} (h:disj a b=true):∀x∈a,x ∉ b:=fun x hx=>by
 have:=List.all_eq_true.1 h x hx
 simpa using this
theorem apartX_spec {ops:List Oper} {oi oj:Oper} {ti tj:List Nat×List Nat} (h:apartX ops oi oj ti tj=true):
  (∀q,oi.dst=some q→q ∉ onames ops oj)∧(∀q,oj.dst=some q→q ∉ onames ops oi)∧(∀x∈ti.2,x ∉ tj.1∧x ∉ tj.2)∧(∀x∈tj.2,x ∉ ti.1):=by
 simp only[apartX,Bool.and_eq_true] at h
 obtain⟨⟨⟨h1,h2⟩,h3⟩,h4⟩:=h
 refine⟨fun q hq=>disj_spec h1 q (by simp[hq]),fun q hq=>disj_spec h2 q (by simp[hq]),fun x hx=>?_,disj_spec h4⟩
 have:=disj_spec h3 x hx
 simpa using this
theorem dst_mem {ops:List Oper} {o:Oper} {q:Nat} (h:o.dst=some q):q∈onames ops o:=by simp[onames,h]
theorem draw_sound {ops:Array Oper} {fs:List Eff} {s0:St} {w0:World} {X:WX} {Q:Exit→Act→World→Prop} (hc:chain E TI ops.toList ops.toList fs s0) (hok:okDraw ops.toList (fs.map trOf)=true)
  (hs:∀o∈ops.toList,Sound P E TI o) (hQ:∀β a w,SimB w0 X β (fin ops.toList fs s0) a w→Q .normal a w):
  ∀(fuel:Nat) (listed:Array Bool) (β:Nat→Option Nat) (a:Act) (w:World),listed.size=ops.size→(∀j o,ops[j]? =some o→listed.getD j false=true→∀i∈anyOn o,listed.getD i false=true)→
   unl listed.toList≤fuel→SimB w0 X β (run (fun j=>listed.getD j false) 0 ops.toList fs s0) a w→wpAny P .any ops Q fuel listed a w:=by
 simp only[okDraw,Bool.and_eq_true] at hok
 obtain⟨hback,hpairs⟩:=hok
 have back:∀j o,ops[j]? =some o→∀i∈anyOn o,i<j:=by
  intro j o ho i hi
  have hj:j<ops.toList.length:=by simpa using (Array.getElem?_eq_some_iff.1 ho).1
  have:=List.all_eq_true.1 hback j (List.mem_range.2 hj)
  have ho':ops.toList[j]? =some o:=by simpa using ho
  rw[ho'] at this
  have:=List.all_eq_true.1 this i hi
  simpa using this
 have pair:∀i j oi oj fi fj,i<j→ops[i]? =some oi→ops[j]? =some oj→fs[i]? =some fi→fs[j]? =some fj→i ∉ (befs ops.toList []).getD j []→apartX ops.toList oi oj (trOf fi) (trOf fj)=true:=by
  intro i j oi oj fi fj hij h1 h2 h3 h4 h5
  have hj:j<ops.toList.length:=by simpa using (Array.getElem?_eq_some_iff.1 h2).1
  have:=List.all_eq_true.1 (List.all_eq_true.1 hpairs j (List.mem_range.2 hj)) i (List.mem_range.2 hij)
  rw[Bool.or_eq_true] at this
  rcases this with h | h
  ·exact absurd (by simpa using h) h5
  ·have e1:ops.toList[i]? =some oi:=by simpa using h1
   have e2:ops.toList[j]? =some oj:=by simpa using h2
   simpa [e1,e2,h3,h4] using h
 have anyOn_mem:∀(o:Oper) (i:Nat),i∈anyOn o↔∃e∈o.after,Region.binds .any e=true∧e.on=i:=by
  intro o i
  simp[anyOn,and_assoc]
 have closed:∀(listed:Array Bool),(∀j o,ops[j]? =some o→listed.getD j false=true→∀i∈anyOn o,listed.getD i false=true)→
   ∀(n j:Nat) (o:Oper),j≤n→ops[j]? =some o→(∀i∈anyOn o,listed.getD i false=true)→∀i∈(befs ops.toList []).getD j [],listed.getD i false=true:=by
  intro listed hdc n
  induction n with
  | zero=>
   intro j o hj ho hl i hi
   obtain⟨k,hk,_⟩:=befs_spec ops.toList [] j o (by simpa using ho) i (by simpa using hi)
   have:=back j o ho k hk;omega
  | succ n ih=>
   intro j o hj ho hl i hi
   obtain⟨k,hk,h⟩:=befs_spec ops.toList [] j o (by simpa using ho) i (by simpa using hi)
   have hkj:=back j o ho k hk
   rcases h with rfl | h
   ·exact hl _ hk
   ·have hk':=hl k hk
    obtain⟨ok,hok⟩:∃ok,ops[k]? =some ok:=by
     have hj:j<ops.size:=(Array.getElem?_eq_some_iff.1 ho).1
     exact⟨ops[k]'(by omega),by simp⟩
    exact ih k ok (by omega) hok (hdc k ok hok hk') i h
 have all_of:∀(listed:Array Bool),listed.size=ops.size→(∀j,j<ops.size→listed.getD j false=true)→run (fun j=>listed.getD j false) 0 ops.toList fs s0=fin ops.toList fs s0:=
  fun listed hsz h=>run_all fun j _ hj=>h j (by simpa using hj)
 have none_ready:∀(listed:Array Bool),listed.size=ops.size→(∀j,j<ops.size→listed.getD j false=true)→Region.ready .any ops listed=[]:=by
  intro listed hsz h
  rcases hr:Region.ready .any ops listed with _ |⟨x,l⟩
  ·rfl
  ·have hx:x∈Region.ready .any ops listed:=by rw[hr];simp
   obtain⟨h1,o,ho,_⟩:=mem_ready.1 hx
   have hlt:=(Array.getElem?_eq_some_iff.1 ho).1
   have:=h x hlt
   simp[hsz,hlt] at h1 this
   rw[h1] at this;cases this
 have ready_none:∀(listed:Array Bool),listed.size=ops.size→Region.ready .any ops listed=[]→∀n j,j<n→j<ops.size→listed.getD j false=true:=by
  intro listed hsz hr n
  induction n with
  | zero=>intro j hj;omega
  | succ n ih=>
   intro j hjn hj
   cases hl:listed.getD j false with
   | true=>rfl
   | false=>
    exfalso
    have:j∈Region.ready .any ops listed:=mem_ready.2 ⟨by simpa [hsz,hj] using hl,ops[j],by simp[hj],fun e he hb=>by
     have hlt:=back j ops[j] (by simp[hj]) e.on ((anyOn_mem _ _).2 ⟨e,he,hb,rfl⟩)
     exact ih e.on (by omega) (by omega)⟩
    rw[hr] at this;cases this
 intro fuel
 induction fuel with
 | zero=>
  intro listed β a w hsz _ hu S
  have hall:∀j,j<ops.size→listed.getD j false=true:=fun j hj=>by
   have:=unl_zero _ (Nat.le_zero.1 hu) j (by simpa [hsz] using hj)
   simp[hsz,hj] at this
   simp[hsz,hj,this]
  exact⟨none_ready listed hsz hall,hQ β a w (by rw[all_of listed hsz hall] at S;exact S)⟩
 | succ fuel ih=>
  intro listed β a w hsz hdc hu S
  refine⟨fun hr=>?_,fun i hi=>?_⟩
  ·have hall:=fun j hj=>ready_none listed hsz hr (j+1) j (Nat.lt_succ_self j) hj
   exact hQ β a w (by rw[all_of listed hsz hall] at S;exact S)
  ·obtain⟨h1,o,ho,hdeps⟩:=mem_ready.1 hi
   have hilt:=(Array.getElem?_eq_some_iff.1 ho).1
   have hil:listed.getD i false=false:=by simp[hsz,hilt] at h1 ⊢;exact h1
   have hanyi:∀k∈anyOn o,listed.getD k false=true:=fun k hk=>by
    obtain⟨e,he,hb,rfl⟩:=(anyOn_mem o k).1 hk
    exact hdeps e he hb
   obtain⟨f,hf,hfo⟩:=chain_at (k:=0) hc (show ops.toList[i]? =some o by simpa using ho)
   simp only[Nat.zero_add] at hfo
   have apart:∀j oj fj,ops[j]? =some oj→fs[j]? =some fj→listed.getD j false≠decide (j<i)→
     (∀q,oj.dst=some q→q ∉ onames ops.toList o)∧(∀x∈fj.ws.map (·.1),x ∉ f.rd)∧(∀q,oj.dst=some q→o.dst≠some q)∧(∀x∈fj.ws.map (·.1),x ∉ f.ws.map (·.1)):=by
    intro j oj fj hj hfj hne
    have hij:j≠i:=by rintro rfl;rw[hil] at hne;simp at hne
    rcases Nat.lt_or_gt_of_ne hij with hlt | hgt
    ·have hlj:listed.getD j false=false:=by
      cases h:listed.getD j false with
      | false=>rfl
      | true=>rw[h] at hne;simp[hlt] at hne
     have hnb:j ∉ (befs ops.toList []).getD i []:=fun hm=>by
      have:=closed listed hdc i i o (Nat.le_refl _) ho hanyi j hm
      rw[hlj] at this;cases this
     obtain⟨a1,a2,a3,a4⟩:=apartX_spec (pair j i oj o fj f hlt hj ho hfj hf hnb)
     exact⟨a1,fun x hx=>(a3 x hx).1,fun q hq e=>a1 q hq (dst_mem e),fun x hx=>(a3 x hx).2⟩
    ·have hlj:listed.getD j false=true:=by
      cases h:listed.getD j false with
      | true=>rfl
      | false=>rw[h] at hne;simp[Nat.not_lt.2 (Nat.le_of_lt hgt)] at hne
     have hnb:i ∉ (befs ops.toList []).getD j []:=fun hm=>by
      have:=closed listed hdc j j oj (Nat.le_refl _) hj (hdc j oj hj hlj) i hm
      rw[hil] at this;cases this
     obtain⟨a1,a2,a3,a4⟩:=apartX_spec (pair i j o oj f fj hgt ho hj hf hfj hnb)
     exact⟨a2,a4,fun q hq e=>a2 q hq (dst_mem e),fun x hx hx'=>(a3 x hx').2 hx⟩
   have getf:∀j oj,ops[j]? =some oj→∃fj,fs[j]? =some fj:=fun j oj hj=>by
    have hlt:j<fs.length:=by rw[chain_len hc];simpa using (Array.getElem?_eq_some_iff.1 hj).1
    exact⟨fs[j],List.getElem?_eq_getElem hlt⟩
   have geto:∀j (fj:Eff),fs[j]? =some fj→∃oj,ops[j]? =some oj:=fun j fj hj=>by
    have hlt:j<fs.length:=(List.getElem?_eq_some_iff.1 hj).1
    rw[chain_len hc] at hlt
    have hlt:j<ops.size:=by simpa using hlt
    exact⟨ops[j],Array.getElem?_eq_getElem hlt⟩
   have hfo':opOK E TI ops.toList o f (run (fun j=>listed.getD j false) 0 ops.toList fs s0):=by
    refine opOK_congr (fun x hx=>?_) (fun x hx=>?_) hfo
    ·refine run_sl (fun j oj hj hne=>?_) rfl rfl
     have hne:decide (j<i)≠listed.getD j false:=by simpa using hne
     have hj':ops[j]? =some oj:=by simpa using hj
     obtain⟨fj,hfj⟩:=getf j oj hj'
     exact fun e=>(apart j oj fj hj' hfj (Ne.symm hne)).1 x e hx
    ·refine run_bk (fun j fj hfj hne=>?_) rfl rfl
     have hne:decide (j<i)≠listed.getD j false:=by simpa using hne
     obtain⟨oj,hj⟩:=geto j fj hfj
     exact fun hm=>(apart j oj fj hj hfj (Ne.symm hne)).2.1 x hm hx
   have hget':∀j,j≠i→(listed.setIfInBounds i true).getD j false=listed.getD j false:=fun j hj=>getD_set_ne false (Ne.symm hj)
   have hgeti:(listed.setIfInBounds i true).getD i false=true:=by simp[hsz,hilt]
   have key:(run (fun j=>listed.getD j false) 0 ops.toList fs s0).app o.dst f=run (fun j=>(listed.setIfInBounds i true).getD j false) 0 ops.toList fs s0:=by
    refine run_ins (by omega:i=0+i) (by simpa using ho) hf hil hgeti hget' fun j oj fj hlt hj hfj hl=>?_
    simp only[Nat.zero_add] at hl
    have:=apart j oj fj (by simpa using hj) hfj (by rw[hl];simp;omega)
    exact this.2.2
   have:=op_step (Q:=Q) (N:=wpAny P .any ops Q fuel (listed.setIfInBounds i true)) (hs o (by simpa using Array.mem_of_getElem? ho)) S hfo' fun β' a' w' S'=>by
    rw[key] at S'
    refine ih _ β' a' w' (by simpa using hsz) (fun j oj hj hl k hk=>?_) ?_ S'
    ·by_cases hki:k=i
     ·subst hki;exact hgeti
     ·rw[hget' k hki]
      by_cases hji:j=i
      ·subst hji
       obtain rfl:o=oj:=Option.some.inj (ho.symm.trans hj)
       exact hanyi k hk
      ·rw[hget' j hji] at hl
       exact hdc j oj hj hl k hk
    ·have:=unl_set listed.toList i (by simp[hsz,hilt] at hil;simp[hsz,hilt,hil])
     simp only[Array.toList_setIfInBounds]
     omega
   unfold wpOp
   rw[ho]
   simp only
   split
   ·rename_i hw;rw[if_pos hw] at this;exact .inl this
   ·rename_i hw;rw[if_neg hw] at this;exact this
theorem region_sound (hm:P.follows .mixedOrders=true) {id:Nat} {ops:Array Oper} {draw:Bool} {s:St} {w0:World} {X:WX} {β:Nat→Option Nat} {a:Act} {w:World} {R:St→Prop} {Q:Exit→Act→World→Prop}
  (hs:∀o∈ops.toList,Sound P E TI o) (S:SimB w0 X β s a w) (h:runOps E TI ops.toList draw ops.toList [] R s) (hQ:∀s',R s'→s'.sl.length=s.sl.length→∀β a w,SimB w0 X β s' a w→Q .normal a w):(Code.region id ops draw).wp P Q a w:=by
 obtain⟨fs,hc,hR,hok⟩:=runOps_chain hs S h
 cases draw with
 | false=>
  refine wp_region ?_
  have:=wpOps_chain (Q:=Q) (k:=0) (ops:=ops) (r:=ops.toList) (fun j=>by simp) hs S hc (hQ _ hR (len_fin _ _ _))
  rw[List.range_eq_range']
  simpa using this
 | true=>
  refine wp_region_any hm ?_
  have S':SimB w0 X β s a {w with drawn:=w.drawn+1}:=S.ext (dst:=none) (v:= .one .junk) (u:=undef) (rd:=[]) (fun _ _=>rfl) (Nat.le_refl _) rfl rfl rfl (repV_junk _ _)
  refine draw_sound hc (by simpa using hok rfl) hs (hQ _ hR (len_fin _ _ _)) _ _ β a _ (by simp) (fun j o hj hl=>?_) ?_ ?_
  ·have hlt:=(Array.getElem?_eq_some_iff.1 hj).1
   simp[hlt] at hl
  ·have:∀n,unl (List.replicate n false)=n:=fun n=>by induction n with
    | zero=>rfl
    | succ n ih=>rw[List.replicate_succ,unl,ih];simp;omega
   simp[this]
  ·have e:run (fun j=>(Array.replicate ops.size false).getD j false) 0 ops.toList fs s=s:=by
    have:∀(r:List Oper) (fs:List Eff) (k:Nat) (s:St),run (fun j=>(Array.replicate ops.size false).getD j false) k r fs s=s:=by
     intro r
     induction r with
     | nil=>intro fs k s;cases fs <;> rfl
     | cons o r ih=>
      intro fs k s
      cases fs with
      | nil=>rfl
      | cons f fs=>
       simp only[run]
       rw[if_neg,ih]
       by_cases h:k<ops.size <;> simp[h]
    exact this _ _ _ _
   rw[e];exact S'
end
end Go.Abs
namespace Go.Abs
open Go.RowKit
section
variable {P:Program} {E:Env} {TI:TypeId→Info}
theorem wp_loop_k {c:Code} {Q:Exit→Act→World→Prop} (I:Nat→Act→World→Prop) {k:Nat} {a:Act} {w:World} (h0:I k a w)
  (round:∀k a w,I k a w→c.wp P (Exit.then (fun a' w'=>∃k',k'<k∧I k' a' w') Q) a w):(Code.loop c).wp P Q a w:=by
 have least:∀(a:Act) (w:World) (n:Nat),I n a w→∃k,I k a w∧∀j,I j a w→k≤j:=by
  intro a w n
  induction n using Nat.strongRecOn with
  | _ n ih=>
   intro hn
   by_cases h:∃j,j<n∧I j a w
   ·obtain⟨j,h1,h2⟩:=h;exact ih j h1 h2
   ·exact⟨n,hn,fun j hj=>Nat.le_of_not_lt fun hlt=>h ⟨j,hlt,hj⟩⟩
 have⟨μ,hμ⟩:∃μ:Act→World→Nat,∀a w,(∃n,I n a w)→I (μ a w) a w∧∀j,I j a w→μ a w≤j:=by
  have:∀p:Act×World,∃k,(∃n,I n p.1 p.2)→I k p.1 p.2∧∀j,I j p.1 p.2→k≤j:=fun p=>by
   by_cases h:∃n,I n p.1 p.2
   ·obtain⟨n,hn⟩:=h
    obtain⟨k,h1,h2⟩:=least p.1 p.2 n hn
    exact⟨k,fun _=>⟨h1,h2⟩⟩
   ·exact⟨0,fun h'=>absurd h' h⟩
  exact⟨fun a w=>Classical.choose (this (a,w)),fun a w=>Classical.choose_spec (this (a,w))⟩
 refine wp_loop (fun a w=>∃n,I n a w) μ ⟨k,h0⟩ fun a w hI=>?_
 refine wp_mono (round _ a w (hμ a w hI).1) fun e a' w' he=>?_
 cases e with
 | normal=>obtain⟨k',h1,h2⟩:=he;exact⟨⟨k',h2⟩,Nat.lt_of_le_of_lt ((hμ a' w' ⟨k',h2⟩).2 k' h2) h1⟩
 | _=>exact he
def keep1 (s:St) (bs:List Nat) (k:Nat):Blk:=match nthb s.bk k with | some b=>if k==0&&b.ver !=0 then .dead 0 else normB (nthb s.bk) bs b | none=> .dead 0
theorem keep1_spec (s:St) (bs:List Nat) (k:Nat):keep1 s bs k= .dead 0∨∃b,nthb s.bk k=some b∧keep1 s bs k=normB (nthb s.bk) bs b∧(k=0→b.ver=0):=by
 unfold keep1
 split
 ·rename_i b hb
  split
  ·exact .inl rfl
  ·rename_i h
   refine .inr ⟨b,hb,rfl,fun e=>?_⟩
   subst e
   simpa using h
 ·exact .inl rfl
theorem normB_ver (bk:Nat→Option Blk) (bs:List Nat) (b:Blk):(normB bk bs b).ver=0:=by cases b <;> rfl
theorem normB_live (bk:Nat→Option Blk) (bs:List Nat) (b:Blk):(normB bk bs b).live=b.live:=by cases b <;> rfl
theorem keepB_cons (s:St) (bs:List Nat) (k:Nat) (r:List Nat):keepB s bs (k::r)=keep1 s bs k::keepB s bs r:=rfl
theorem nthb_putB (s:St) (bs0:List Nat):∀(bs:List Nat) (l:List (Option Blk)) (id:Nat),nthb (putB bs (keepB s bs0 bs) l) id=if id∈bs∧id<l.length then some (keep1 s bs0 id) else nthb l id
 | [],l,id=>by simp[putB,keepB]
 | k::r,l,id=>by
  rw[keepB_cons,putB,nthb_putB s bs0 r,length_setn,nthb_setn]
  by_cases h1:id<l.length
  ·by_cases h2:id∈r
   ·simp[h1,h2]
   ·by_cases h3:id=k
    ·subst h3;simp[h1,h2]
    ·simp[h1,h2,h3]
  ·by_cases h3:id=k
   ·subst h3;simp[h1]
   ·simp[h1,h3]
theorem nth_putS (s:St) (bs0:List Nat):∀(ks:List Nat) (l:List AV) (i:Nat),nth (putS ks (keepS s bs0 ks) l) i=if i∈ks∧i<l.length then normV (nthb s.bk) bs0 (nth s.sl i) else nth l i
 | [],l,i=>by simp[putS,keepS]
 | k::r,l,i=>by
  rw[keepS,putS,nth_putS s bs0 r,length_setn,nth_setn]
  by_cases h1:i<l.length
  ·by_cases h2:i∈r
   ·simp[h1,h2]
   ·by_cases h3:i=k
    ·subst h3;simp[h1,h2]
    ·simp[h1,h2,h3]
  ·by_cases h3:i=k
   ·subst h3;simp[h1]
   ·simp[h1,h3]
theorem len_putB:∀(bs:List Nat) (bl:List Blk) (l:List (Option Blk)),(putB bs bl l).length=l.length
 | [],_,_=>by simp[putB]
 | _::_,[],_=>by simp[putB]
 | k::r,b::bl,l=>by rw[putB,len_putB r,length_setn]
theorem len_putS:∀(ks:List Nat) (vs:List AV) (l:List AV),(putS ks vs l).length=l.length
 | [],_,_=>by simp[putS]
 | _::_,[],_=>by simp[putS]
 | k::r,b::bl,l=>by rw[putS,len_putS r,length_setn]
theorem len_reps {α:Type}:∀(n:Nat) (x:α),(reps n x).length=n
 | 0,_=>rfl
 | n+1,x=>by simp[reps,len_reps n x]
theorem nthb_reps:∀(n i:Nat),nthb (reps n none) i=none
 | 0,_=>rfl
 | n+1,0=>rfl
 | n+1,i+1=>nthb_reps n i
theorem nth_reps:∀(n i:Nat),nth (reps n (.one .junk)) i= .one .junk
 | 0,_=>rfl
 | n+1,0=>rfl
 | n+1,i+1=>nth_reps n i
theorem normC_rep {x y:Cx} {bk:Nat→Option Blk} {bs:List Nat} (hw:y.w=x.w) (hβ:y.β=x.β) (hx:x.cv=ver bk) (hy:∀id,y.cv id=0) (hI:∀b,x.I b→y.I b):∀{c:AC} {v:Value},RepC x c v→RepC y (normC bk bs c) v
 | .junk,_,r=>r
 | .int _ _,_,r=>r
 | .bool _,_,r=>r
 | .fn _,_,r=>r
 | .nil,_,r=>r
 | .sl _ _,_,r=>rep_mono (fun b hb=>⟨hI b hb,by rw[hw]⟩) _ _ _ r
 | .lsl t id v off len,u,r=>by
  simp only[normC]
  split
  ·rename_i h
   simp only[Bool.and_eq_true,beq_iff_eq] at h
   have:=r.2 (by rw[hx];exact h.2.symm)
   exact⟨⟨r.1.1,Nat.zero_le _⟩,fun _=>by rw[hw,hβ];exact this⟩
  ·exact r.1.1
 | .csl _ _ _ _ _,_,r=>r.1.1
 | .lptr id v off,u,r=>by
  simp only[normC]
  split
  ·rename_i h
   simp only[Bool.and_eq_true,beq_iff_eq] at h
   have:=r.2 (by rw[hx];exact h.2.symm)
   exact⟨⟨r.1.1,Nat.zero_le _⟩,fun _=>by rw[hβ];exact this⟩
  ·exact r.1.1
 | .eptr t id v i k,u,r=>by
  simp only[normC]
  split
  ·rename_i h
   simp only[Bool.and_eq_true,beq_iff_eq] at h
   have:=r.2 (by rw[hx];exact h.2.symm)
   exact⟨⟨r.1.1,Nat.zero_le _⟩,fun _=>by rw[hβ];exact this⟩
  ·exact r.1.1
 | .ub _,_,h=>h
 | .pptr t z off,_,⟨b,o,us,h1,h2,h3,h4⟩=>⟨b,o,us,h1,hI b h2,rep_mono (fun b hb=>⟨hI b hb,by rw[hw]⟩) _ _ _ h3,by rw[hw];exact h4⟩
 | .own _ _ _,_,r=>r.elim
theorem All2.norm {x y:Cx} {bk:Nat→Option Blk} {bs:List Nat} (hw:y.w=x.w) (hβ:y.β=x.β) (hx:x.cv=ver bk) (hy:∀id,y.cv id=0) (hI:∀b,x.I b→y.I b):∀{cs:List AC} {us:List Value},All2 (RepC x) cs us→All2 (RepC y) (cs.map (normC bk bs)) us
 | [],[],_=>trivial
 | _::_,_::_,h=>⟨normC_rep hw hβ hx hy hI h.1,All2.norm hw hβ hx hy hI h.2⟩
 | [],_::_,h=>h.elim
 | _::_,[],h=>h.elim
theorem normV_rep {x y:Cx} {bk:Nat→Option Blk} {bs:List Nat} (hw:y.w=x.w) (hβ:y.β=x.β) (hx:x.cv=ver bk) (hy:∀id,y.cv id=0) (hI:∀b,x.I b→y.I b) {a:AV} {v:Value} (h:RepV x a v):RepV y (normV bk bs a) v:=by
 cases a with
 | one c=>
  rcases h with rfl | h
  ·exact .inl rfl
  ·exact .inr (normC_rep hw hβ hx hy hI h)
 | agg cs=>obtain⟨arr,e,h⟩:=h;exact⟨arr,e,All2.norm hw hβ hx hy hI h⟩
 | tup _=>exact .inl rfl
theorem SimB.head {w0:World} {X:WX} {β:Nat→Option Nat} {s:St} {a:Act} {w:World} (S:SimB w0 X β s a w) {n:Nat} (hn:s.sl.length=n) (ks bs:List Nat):SimB w0 X β (mkSt n ks (keepS s bs ks) bs (keepB s bs bs)) a w:=by
 have hbk:∀id b,nthb (mkSt n ks (keepS s bs ks) bs (keepB s bs bs)).bk id=some b→b=keep1 s bs id:=fun id b h=>by
  have h:nthb (putB bs (keepB s bs bs) (reps n none)) id=some b:=h
  rw[nthb_putB,nthb_reps] at h
  split at h
  ·exact (Option.some.inj h).symm
  ·cases h
 have hver:∀id,ver (nthb (mkSt n ks (keepS s bs ks) bs (keepB s bs bs)).bk) id=0:=fun id=>by
  unfold ver
  split
  ·rename_i b hb
   rw[hbk id b hb]
   rcases keep1_spec s bs id with h |⟨b',_,h,_⟩ <;> rw[h]
   ·rfl
   ·exact normB_ver _ _ _
  ·rfl
 have hlive:∀id,live (nthb (mkSt n ks (keepS s bs ks) bs (keepB s bs bs)).bk) id→live (nthb s.bk) id:=fun id ⟨b,hb,hl⟩=>by
  have:=hbk id b hb
  subst this
  rcases keep1_spec s bs id with h |⟨b',hb',h,_⟩ <;> rw[h] at hl
  ·cases hl
  ·rw[normB_live] at hl;exact⟨b',hb',hl⟩
 have hI:∀b,(cx X w β (nthb s.bk)).I b→(cx X w β (nthb (mkSt n ks (keepS s bs ks) bs (keepB s bs bs)).bk)).I b:=fun b hb=>⟨⟨hb.1.1,fun id hl=>hb.1.2 id (hlive id hl)⟩,hb.2⟩
 refine⟨S.defers,?_,?_,fun i=>?_,fun id b hb=>?_,fun id id' b h1 h2=>S.inj id id' b (hlive _ h1) (hlive _ h2),fun id b h1=>S.own id b (hlive _ h1),S.os,S.tape,S.output,S.size,S.block,fun id b hb=>?_,S.fresh,fun hl _=>?_⟩
 ·show (putS _ _ _).length=_
  rw[len_putS,len_reps,←hn];exact S.len
 ·show (putB _ _ _).length=_
  rw[len_putB,len_reps,←hn];exact S.len
 ·show RepV _ (nth (putS _ _ _) i) _
  rw[nth_putS,nth_reps]
  split
  ·exact normV_rep (x:=cx X w β (nthb s.bk)) (y:=cx X w β (nthb (mkSt n ks (keepS s bs ks) bs (keepB s bs bs)).bk)) rfl rfl rfl hver hI (S.slots i)
  ·exact repV_junk _ _
 ·have:=hbk id b hb
  subst this
  rcases keep1_spec s bs id with h |⟨b',hb',h,_⟩ <;> rw[h]
  ·trivial
  ·have r:=S.blocks id b' hb'
   cases b' with
   | dead _=>trivial
   | var _ cs=>obtain⟨b,arr,e,h1,h2,h3⟩:=r;exact⟨b,arr,e,h1,h2,All2.norm (x:=cx X w β (nthb s.bk)) (y:=cx X w β (nthb (mkSt n ks (keepS s bs ks) bs (keepB s bs bs)).bk)) rfl rfl rfl hver hI h3⟩
   | arr _ t l=>
    refine r.imp (fun q=>q) fun⟨b,arr,e,h1,h2,h3⟩=>⟨b,arr,e,h1,h2,fun i y hy=>?_⟩
    obtain⟨us,p1,p2⟩:=h3 i y hy
    exact⟨us,rep_mono (w':=w) (fun b hb=>⟨hI b hb,rfl⟩) _ _ _ p1,p2⟩
 ·have:=hbk id b hb
  subst this
  rcases keep1_spec s bs id with h |⟨b',hb',h,_⟩ <;> rw[h]
  ·trivial
  ·have:=S.lens id b' hb'
   cases b' <;> exact this
 ·have hl':=hlive 0 hl
  obtain⟨b,hb,hl⟩:=hl
  have:=hbk 0 b hb
  subst this
  rcases keep1_spec s bs 0 with h |⟨b',hb',h,h0⟩ <;> rw[h] at hl
  ·cases hl
  ·exact S.hist hl' (by unfold ver;rw[hb'];exact h0 rfl)
def dstC:Code→Bool
 | .region _ ops _=>ops.toList.all dstB
 | .seq a b=>dstC a&&dstC b
 | .cond _ a b=>dstC a&&dstC b
 | .block _ c=>dstC c
 | .loop c=>dstC c
 | _=>true
def toExit:AX→Exit
 | .nrm=> .normal
 | .exit n=> .exit n
 | .ret=> .ret
def Gets (w0:World) (X:WX) (n:Nat) (Q:AX→St→Prop) (e:Exit) (a:Act) (w:World):Prop:=
 ∃x s β,e=toExit x∧Q x s∧s.sl.length=n∧SimB w0 X β s a w
theorem awp_sound (hm:P.follows .mixedOrders=true) (hs:∀o,dstB o=true→Sound P E TI o) {n:Nat} {w0:World} {X:WX}:∀{c:Code} {Q:AX→St→Prop} {β:Nat→Option Nat} {s:St} {a:Act} {w:World},dstC c=true→s.sl.length=n→SimB w0 X β s a w→awp E TI n c Q s→
  c.wp P (Gets w0 X n Q) a w
 | .skip,Q,β,s,a,w,_,hn,S,h=>wp_skip ⟨.nrm,s,β,rfl,h,hn,S⟩
 | .exit i,Q,β,s,a,w,_,hn,S,h=>wp_exit ⟨.exit i,s,β,rfl,h,hn,S⟩
 | .ret,Q,β,s,a,w,_,hn,S,h=>wp_ret ⟨.ret,s,β,rfl,h,hn,S⟩
 | .region id ops draw,Q,β,s,a,w,hd,hn,S,h=>
  region_sound hm (fun o ho=>hs o (List.all_eq_true.1 hd o ho)) S h fun s' h1 h2 β' a' w' S'=>⟨.nrm,s',β',rfl,h1,by rw[h2];exact hn,S'⟩
 | .seq x y,Q,β,s,a,w,hd,hn,S,h=>by
  simp only[dstC,Bool.and_eq_true] at hd
  refine wp_seq (wp_mono (awp_sound hm hs hd.1 hn S h) fun e a' w' he=>?_)
  obtain⟨x',s',β',rfl,hq,hn',S'⟩:=he
  cases x' with
  | nrm=>exact awp_sound hm hs hd.2 hn' S' hq
  | exit i=>exact⟨.exit i,s',β',rfl,hq,hn',S'⟩
  | ret=>exact⟨.ret,s',β',rfl,hq,hn',S'⟩
 | .cond c x y,Q,β,s,a,w,hd,hn,S,h=>by
  simp only[dstC,Bool.and_eq_true] at hd
  have hc:=ev_rep S.slots c
  have plain:(match ev s.sl c with | .one (.bool true)=>awp E TI n x Q s | .one (.bool false)=>awp E TI n y Q s | .one (.ub u)=>(u=true→awp E TI n x Q s)∧awp E TI n y Q s | _=>False)→(Code.cond c x y).wp P (Gets w0 X n Q) a w:=by
   intro h
   split at h
   ·rename_i he
    rw[he] at hc
    exact wp_cond_true (repV_one hc (by simp)) (awp_sound hm hs hd.1 hn S h)
   ·rename_i he
    rw[he] at hc
    exact wp_cond_false (repV_one hc (by simp)) (awp_sound hm hs hd.2 hn S h)
   ·rename_i u he
    rw[he] at hc
    obtain⟨b,hb,hbu⟩:=repV_one hc (by simp)
    cases b with
    | true=>exact wp_cond_true hb (awp_sound hm hs hd.1 hn S (h.1 (hbu rfl)))
    | false=>exact wp_cond_false hb (awp_sound hm hs hd.2 hn S h.2)
   ·exact h.elim
  simp only[awp] at h
  split at h
  ·rcases h with⟨ks,bs,J,hJ,h⟩ | h
   ·have fin:∀e a' w',Gets w0 X n (fun e s'=>match e with | .nrm=>J (keepS s' bs ks) (keepB s' bs bs) | .exit i=>Q (.exit i) s' | .ret=>Q .ret s') e a' w'→Gets w0 X n Q e a' w':=by
     rintro e a' w' ⟨x',s',β',rfl,hq,hn',S'⟩
     cases x' with
     | nrm=>exact⟨.nrm,_,β',rfl,hJ _ _ hq,by show (putS _ _ _).length=_;rw[len_putS,len_reps],S'.head hn' ks bs⟩
     | exit i=>exact⟨.exit i,s',β',rfl,hq,hn',S'⟩
     | ret=>exact⟨.ret,s',β',rfl,hq,hn',S'⟩
    split at h
    ·rename_i he
     rw[he] at hc
     exact wp_cond_true (repV_one hc (by simp)) (wp_mono (awp_sound hm hs hd.1 hn S h) fin)
    ·rename_i he
     rw[he] at hc
     exact wp_cond_false (repV_one hc (by simp)) (wp_mono (awp_sound hm hs hd.2 hn S h) fin)
    ·rename_i u he
     rw[he] at hc
     obtain⟨b,hb,hbu⟩:=repV_one hc (by simp)
     cases b with
     | true=>exact wp_cond_true hb (wp_mono (awp_sound hm hs hd.1 hn S (h.1 (hbu rfl))) fin)
     | false=>exact wp_cond_false hb (wp_mono (awp_sound hm hs hd.2 hn S h.2) fin)
    ·exact h.elim
   ·exact plain h
  ·exact plain h
 | .block id c,Q,β,s,a,w,hd,hn,S,h=>by
  rcases h with⟨ks,bs,J,hJ,h⟩ | h
  ·refine wp_block (wp_mono (awp_sound hm hs (c:=c) hd hn S h) fun e a' w' he=>?_)
   obtain⟨x',s',β',rfl,hq,hn',S'⟩:=he
   have fin:J (keepS s' bs ks) (keepB s' bs bs)→Gets w0 X n Q .normal a' w':=fun hq=>
    ⟨.nrm,_,β',rfl,hJ _ _ hq,by show (putS _ _ _).length=_;rw[len_putS,len_reps],S'.head hn' ks bs⟩
   cases x' with
   | nrm=>exact fin hq
   | exit i=>
    show Exit.inBlock id (Gets w0 X n Q) (.exit i) a' w'
    simp only[Exit.inBlock]
    simp only at hq
    split
    ·rename_i h1;rw[if_pos h1] at hq;exact fin hq
    ·rename_i h1;rw[if_neg h1] at hq;exact⟨.exit i,s',β',rfl,hq,hn',S'⟩
   | ret=>exact⟨.ret,s',β',rfl,hq,hn',S'⟩
  ·refine wp_block (wp_mono (awp_sound hm hs (c:=c) hd hn S h) fun e a' w' he=>?_)
   obtain⟨x',s',β',rfl,hq,hn',S'⟩:=he
   cases x' with
   | nrm=>exact⟨.nrm,s',β',rfl,hq,hn',S'⟩
   | exit i=>
    show Exit.inBlock id (Gets w0 X n Q) (.exit i) a' w'
    simp only[Exit.inBlock]
    simp only at hq
    split
    ·rename_i h1;rw[if_pos h1] at hq;exact⟨.nrm,s',β',rfl,hq,hn',S'⟩
    ·rename_i h1;rw[if_neg h1] at hq;exact⟨.exit i,s',β',rfl,hq,hn',S'⟩
   | ret=>exact⟨.ret,s',β',rfl,hq,hn',S'⟩
 | .loop c,Q,β,s,a,w,hd,hn,S,h=>by
  obtain⟨ks,bs,J,⟨k0,h0⟩,hr⟩:=h
  refine wp_loop_k (fun k a w=>∃vs bl β,J vs bl k∧SimB w0 X β (mkSt n ks vs bs bl) a w) ⟨_,_,β,h0,S.head hn ks bs⟩ fun k a w hI=>?_
  obtain⟨vs,bl,β,hJ,S⟩:=hI
  refine wp_mono (awp_sound hm hs (c:=c) hd (by show (putS _ _ _).length=_;rw[len_putS,len_reps]) S (hr vs bl k hJ)) fun e a' w' he=>?_
  obtain⟨x',s',β',rfl,hq,hn',S'⟩:=he
  cases x' with
  | nrm=>obtain⟨k',h1,h2⟩:=hq;exact⟨k',h1,_,_,β',h2,S'.head hn' ks bs⟩
  | exit i=>exact⟨.exit i,s',β',rfl,hq,hn',S'⟩
  | ret=>exact⟨.ret,s',β',rfl,hq,hn',S'⟩
 | .rangeFunc _ _ _ _,_,_,_,_,_,_,_,_,h=>h.elim
 | .scope _,_,_,_,_,_,_,_,_,h=>h.elim
 | .label _,_,_,_,_,_,_,_,_,h=>h.elim
 | .goto _,_,_,_,_,_,_,_,_,h=>h.elim
 | .refuse _,_,_,_,_,_,_,_,_,h=>h.elim
end
end Go.Abs
