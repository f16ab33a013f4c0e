/- Part 8 of a proof. Conditions: each theorem's own. -/
import Derived.Laws.Sem
import Derived.Test.YtclgfoceefhnkaaGreatDoorLk06
set_option linter.all false
set_option maxHeartbeats 80000000
set_option maxRecDepth 20000
namespace Go.Abs
open Go.RowKit
section
variable {P:Program} {E:Env} {TI:TypeId->Info}
def GM:List Bool->Nat
 | []=>0
 | b::l=>(if b then 0 else 1)+GM l
theorem W6:∀(l:List Bool) (i:Nat),l[i]? =some false->GM (l.set i true)+1=GM l
 | [],_,h=>by simp at h
 | b::l,0,h=>by simp at h;subst h;simp[GM];omega
 | b::l,i+1,h=>by have:=W6 l i (by simpa using h);simp[GM];omega
theorem W7:∀(l:List Bool),GM l=0->∀j,j<l.length->l[j]? =some true
 | [],_,j,h=>by simp at h
 | b::l,h,0,_=>by cases b <;> simp[GM] at h ⊢
 | b::l,h,j+1,c=>by have:=W7 l (by simp[GM] at h;exact h.2) j (by simpa using c);simpa using this
theorem Nr:∀(r:List Oper) (acc:List (List Nat)) (k:Nat),k<acc.length->(Ej r acc).getD k []=acc.getD k []
 | [],_,_,_=>rfl
 | o::r,acc,k,h=>by
  rw[Ej,Nr r _ k (by simp;omega)];simp[List.getD_eq_getElem?_getD,List.getElem?_append_left h]
theorem Ns:∀(r:List Oper) (acc:List (List Nat)) (j:Nat) (o:Oper),r[j]? =some o->∀i∈(Ej r acc).getD (acc.length+j) [],∃k∈EA o,i=k\/i∈(Ej r acc).getD k []
 | [],_,_,_,h=>by simp at h
 | o::r,acc,0,c,h=>by
  simp at h;subst h;intro i b;rw[Ej,Nat.add_zero,Nr r _ acc.length (by simp)] at b;simp only[List.getD_eq_getElem?_getD,List.getElem?_concat_length,Option.getD_some] at b;obtain⟨k,d,b⟩:=List.mem_flatMap.1 b;refine⟨k,d,?_⟩;rcases List.mem_cons.1 b with rfl | b
  ·exact .inl rfl
  refine .inr ?_;rcases Nat.lt_or_ge k acc.length with h' | h'
  ·rw[Ej,Nr r _ k (by simp;omega)];simpa [List.getD_eq_getElem?_getD,List.getElem?_append_left h'] using b
  simp[List.getElem?_eq_none h'] at b
 | o::r,acc,j+1,c,h=>by
  intro i b
  have:=Ns r (acc++[(EA o).flatMap fun j=>j::acc.getD j []]) j c (by simpa using h) i (by
   rw[List.length_append,List.length_singleton,show acc.length+1+j=acc.length+(j+1) by omega];exact b)
  exact this
theorem Oj:∀(r:List Oper) (b:List BR) (s:St),(fin r b s).sl.length=s.sl.length
 | o::r,f::b,s=>by rw[fin,Oj r b,KR]
 |[],_,_|_::_,[],_=>rfl
theorem Lp {a b:List Nat} (h:KI a b=true):∀x∈a,x ∉ b:=fun x c=>by
 have:=List.all_eq_true.1 h x c;simpa using this
theorem Rq {ops:List Oper} {d f:Oper} {g b:List Nat×List Nat} (h:J3 ops d f g b=true):
  (∀q,d.dst=some q->q ∉ Gc ops f)/\(∀q,f.dst=some q->q ∉ Gc ops d)/\(∀x∈g.2,x ∉ b.1/\x ∉ b.2)/\(∀x∈b.2,x ∉ g.1):=by
 simp only[J3,Bool.and_eq_true] at h;obtain⟨⟨⟨i,j⟩,k⟩,l⟩:=h;refine⟨fun q c=>Lp i q (by simp[c]),fun q c=>Lp j q (by simp[c]),fun x m=>?_,Lp l⟩;have:=Lp k x m;simpa using this
theorem S9 {ops:List Oper} {o:Oper} {q:Nat} (h:o.dst=some q):q∈Gc ops o:=by simp[Gc,h]
theorem ar {ops:Array Oper} {fs:List BR} {s0:St} {w0:World} {X:WX} {Q:Exit->Act->World->Prop} (hc:chain E TI ops.toList ops.toList fs s0) (hok:Hd ops.toList (fs.map JY)=true)
  (hs:∀o∈ops.toList,Sound P E TI o) (hQ:∀β a w,BB w0 X β (fin ops.toList fs s0) a w->Q .normal a w):
  ∀(fuel:Nat) (listed:Array Bool) (β:Nat->Option Nat) (a:Act) (w:World),listed.size=ops.size->(∀j o,ops[j]? =some o->listed.getD j false=true->∀i∈EA o,listed.getD i false=true)->
   GM listed.toList<=fuel->BB w0 X β (run (fun j=>listed.getD j false) 0 ops.toList fs s0) a w->wpAny P .any ops Q fuel listed a w:=by
 simp only[Hd,Bool.and_eq_true] at hok;obtain⟨hback,hpairs⟩:=hok
 have back:∀j o,ops[j]? =some o->∀i∈EA o,i<j:=by
  intro j o ho i hi;have hj:j<ops.toList.length:=by simpa using (Array.getElem?_eq_some_iff.1 ho).1
  have:=List.all_eq_true.1 hback j (List.mem_range.2 hj);have ho':ops.toList[j]? =some o:=by simpa using ho
  rw[ho'] at this;have:=List.all_eq_true.1 this i hi;simpa using this
 have pair:∀i j oi oj fi fj,i<j->ops[i]? =some oi->ops[j]? =some oj->fs[i]? =some fi->fs[j]? =some fj->i ∉ (Ej ops.toList []).getD j []->J3 ops.toList oi oj (JY fi) (JY fj)=true:=by
  intro i j oi oj fi fj hij h1 h2 h3 h4 h5;have hj:j<ops.toList.length:=by simpa using (Array.getElem?_eq_some_iff.1 h2).1
  have:=List.all_eq_true.1 (List.all_eq_true.1 hpairs j (List.mem_range.2 hj)) i (List.mem_range.2 hij);rw[Bool.or_eq_true] at this;rcases this with h | h
  ·exact absurd (by simpa using h) h5
  have e1:ops.toList[i]? =some oi:=by simpa using h1
  have e2:ops.toList[j]? =some oj:=by simpa using h2
  simpa [e1,e2,h3,h4] using h
 have anyOn_mem:∀(o:Oper) (i:Nat),i∈EA o↔∃e∈o.after,Region.binds .any e=true/\e.on=i:=by
  intro o i;simp[EA,and_assoc]
 have closed:∀(listed:Array Bool),(∀j o,ops[j]? =some o->listed.getD j false=true->∀i∈EA o,listed.getD i false=true)->
   ∀(n j:Nat) (o:Oper),j<=n->ops[j]? =some o->(∀i∈EA o,listed.getD i false=true)->∀i∈(Ej ops.toList []).getD j [],listed.getD i false=true:=by
  intro listed hdc n
  induction n with
  | zero=>
   intro j o hj ho hl i hi;obtain⟨k,hk,_⟩:=Ns ops.toList [] j o (by simpa using ho) i (by simpa using hi);have:=back j o ho k hk;omega
  | succ n ih=>
   intro j o hj ho hl i hi;obtain⟨k,hk,h⟩:=Ns ops.toList [] j o (by simpa using ho) i (by simpa using hi);have hkj:=back j o ho k hk;rcases h with rfl | h
   ·exact hl _ hk
   have hk':=hl k hk
   obtain⟨ok,hok⟩:∃ok,ops[k]? =some ok:=by
    have hj:j<ops.size:=(Array.getElem?_eq_some_iff.1 ho).1;exact⟨ops[k]'(by omega),by simp⟩
   exact ih k ok (by omega) hok (hdc k ok hok hk') i h
 have all_of:∀(listed:Array Bool),listed.size=ops.size->(∀j,j<ops.size->listed.getD j false=true)->run (fun j=>listed.getD j false) 0 ops.toList fs s0=fin ops.toList fs s0:=
  fun listed hsz h=>V5 fun j _ hj=>h j (by simpa using hj)
 have none_ready:∀(listed:Array Bool),listed.size=ops.size->(∀j,j<ops.size->listed.getD j false=true)->Region.ready .any ops listed=[]:=by
  intro listed hsz h;rcases hr:Region.ready .any ops listed with _ |⟨x,l⟩
  ·rfl
  have hx:x∈Region.ready .any ops listed:=by rw[hr];simp
  obtain⟨h1,o,ho,_⟩:=mem_ready.1 hx;have hlt:=(Array.getElem?_eq_some_iff.1 ho).1;have:=h x hlt;simp[hsz,hlt] at h1 this;rw[h1] at this;cases this
 have ready_none:∀(listed:Array Bool),listed.size=ops.size->Region.ready .any ops listed=[]->∀n j,j<n->j<ops.size->listed.getD j false=true:=by
  intro listed hsz hr n
  induction n with
  | zero=>intro j hj;omega
  | succ n ih=>
   intro j hjn hj;cases hl:listed.getD j false with
   | true=>rfl
   | false=>
    exfalso
    have:j∈Region.ready .any ops listed:=mem_ready.2 ⟨by simpa [hsz,hj] using hl,ops[j],by simp[hj],fun e he hb=>by
     have hlt:=back j ops[j] (by simp[hj]) e.on ((anyOn_mem _ _).2 ⟨e,he,hb,rfl⟩);exact ih e.on (by omega) (by omega)⟩
    rw[hr] at this;cases this
 intro fuel
 induction fuel with
 | zero=>
  intro listed β a w hsz _ hu S
  have hall:∀j,j<ops.size->listed.getD j false=true:=fun j hj=>by
   have:=W7 _ (Nat.le_zero.1 hu) j (by simpa [hsz] using hj);simp[hsz,hj] at this;simp[hsz,hj,this]
  exact⟨none_ready listed hsz hall,hQ β a w (by rw[all_of listed hsz hall] at S;exact S)⟩
 | succ fuel ih=>
  intro listed β a w hsz hdc hu S;refine⟨fun hr=>?_,fun i hi=>?_⟩
  ·have hall:=fun j hj=>ready_none listed hsz hr (j+1) j (Nat.lt_succ_self j) hj
   exact hQ β a w (by rw[all_of listed hsz hall] at S;exact S)
  obtain⟨h1,o,ho,hdeps⟩:=mem_ready.1 hi;have hilt:=(Array.getElem?_eq_some_iff.1 ho).1;have hil:listed.getD i false=false:=by simp[hsz,hilt] at h1 ⊢;exact h1
  have hanyi:∀k∈EA o,listed.getD k false=true:=fun k hk=>by
   obtain⟨e,he,hb,rfl⟩:=(anyOn_mem o k).1 hk;exact hdeps e he hb
  obtain⟨f,hf,hfo⟩:=SN (k:=0) hc (show ops.toList[i]? =some o by simpa using ho);simp only[Nat.zero_add] at hfo
  have apart:∀j oj fj,ops[j]? =some oj->fs[j]? =some fj->listed.getD j false≠decide (j<i)->
    (∀q,oj.dst=some q->q ∉ Gc ops.toList o)/\(∀x∈fj.ws.map (·.1),x ∉ f.rd)/\(∀q,oj.dst=some q->o.dst≠some q)/\(∀x∈fj.ws.map (·.1),x ∉ f.ws.map (·.1)):=by
   intro j oj fj hj hfj hne;have hij:j≠i:=by rintro rfl;rw[hil] at hne;simp at hne
   rcases Nat.lt_or_gt_of_ne hij with hlt | hgt
   ·have hlj:listed.getD j false=false:=by
     cases h:listed.getD j false with
     | false=>rfl
     | true=>rw[h] at hne;simp[hlt] at hne
    have hnb:j ∉ (Ej ops.toList []).getD i []:=fun hm=>by
     have:=closed listed hdc i i o (Nat.le_refl _) ho hanyi j hm;rw[hlj] at this;cases this
    obtain⟨a1,a2,a3,a4⟩:=Rq (pair j i oj o fj f hlt hj ho hfj hf hnb);exact⟨a1,fun x hx=>(a3 x hx).1,fun q hq e=>a1 q hq (S9 e),fun x hx=>(a3 x hx).2⟩
   have hlj:listed.getD j false=true:=by
    cases h:listed.getD j false with
    | true=>rfl
    | false=>rw[h] at hne;simp[Nat.not_lt.2 (Nat.le_of_lt hgt)] at hne
   have hnb:i ∉ (Ej ops.toList []).getD j []:=fun hm=>by
    have:=closed listed hdc j j oj (Nat.le_refl _) hj (hdc j oj hj hlj) i hm;rw[hil] at this;cases this
   obtain⟨a1,a2,a3,a4⟩:=Rq (pair i j o oj f fj hgt ho hj hf hfj hnb);exact⟨a2,a4,fun q hq e=>a2 q hq (S9 e),fun x hx hx'=>(a3 x hx').2 hx⟩
  have getf:∀j oj,ops[j]? =some oj->∃fj,fs[j]? =some fj:=fun j oj hj=>by
   have hlt:j<fs.length:=by rw[N0 hc];simpa using (Array.getElem?_eq_some_iff.1 hj).1
   exact⟨fs[j],List.getElem?_eq_getElem hlt⟩
  have geto:∀j (fj:BR),fs[j]? =some fj->∃oj,ops[j]? =some oj:=fun j fj hj=>by
   have hlt:j<fs.length:=(List.getElem?_eq_some_iff.1 hj).1;rw[N0 hc] at hlt;have hlt:j<ops.size:=by simpa using hlt
   exact⟨ops[j],Array.getElem?_eq_getElem hlt⟩
  have hfo':Eb E TI ops.toList o f (run (fun j=>listed.getD j false) 0 ops.toList fs s0):=by
   refine dP (fun x hx=>?_) (fun x hx=>?_) hfo
   ·refine Kr (fun j oj hj hne=>?_) rfl rfl;have hne:decide (j<i)≠listed.getD j false:=by simpa using hne
    have hj':ops[j]? =some oj:=by simpa using hj
    obtain⟨fj,hfj⟩:=getf j oj hj';exact fun e=>(apart j oj fj hj' hfj (Ne.symm hne)).1 x e hx
   refine Kq (fun j fj hfj hne=>?_) rfl rfl;have hne:decide (j<i)≠listed.getD j false:=by simpa using hne
   obtain⟨oj,hj⟩:=geto j fj hfj;exact fun hm=>(apart j oj fj hj hfj (Ne.symm hne)).2.1 x hm hx
  have hget':∀j,j≠i->(listed.setIfInBounds i true).getD j false=listed.getD j false:=fun j hj=>getD_set_ne false (Ne.symm hj)
  have hgeti:(listed.setIfInBounds i true).getD i false=true:=by simp[hsz,hilt]
  have key:(run (fun j=>listed.getD j false) 0 ops.toList fs s0).app o.dst f=run (fun j=>(listed.setIfInBounds i true).getD j false) 0 ops.toList fs s0:=by
   refine V6 (by omega:i=0+i) (by simpa using ho) hf hil hgeti hget' fun j oj fj hlt hj hfj hl=>?_
   simp only[Nat.zero_add] at hl;have:=apart j oj fj (by simpa using hj) hfj (by rw[hl];simp;omega);exact this.2.2
  have:=PG (Q:=Q) (N:=wpAny P .any ops Q fuel (listed.setIfInBounds i true)) (hs o (by simpa using Array.mem_of_getElem? ho)) S hfo' fun β' a' w' S'=>by
   rw[key] at S';refine ih _ β' a' w' (by simpa using hsz) (fun j oj hj hl k hk=>?_) ?_ S'
   ·by_cases hki:k=i
    ·subst hki;exact hgeti
    rw[hget' k hki]
    by_cases hji:j=i
    ·subst hji;obtain rfl:o=oj:=Option.some.inj (ho.symm.trans hj);exact hanyi k hk
    rw[hget' j hji] at hl;exact hdc j oj hj hl k hk
   have:=W6 listed.toList i (by simp[hsz,hilt] at hil;simp[hsz,hilt,hil]);simp only[Array.toList_setIfInBounds];omega
  unfold wpOp;rw[ho];simp only
  split
  ·rename_i hw;rw[if_pos hw] at this;exact .inl this
  rename_i hw;rw[if_neg hw] at this;exact this
theorem dx (hm:P.follows .mixedOrders=true) {id:Nat} {ops:Array Oper} {draw:Bool} {s:St} {w0:World} {X:WX} {β:Nat->Option Nat} {a:Act} {w:World} {R:St->Prop} {Q:Exit->Act->World->Prop}
  (g:∀o∈ops.toList,Sound P E TI o) (S:BB w0 X β s a w) (h:GD E TI ops.toList draw ops.toList [] R s) (l:∀s',R s'->s'.sl.length=s.sl.length->∀β a w,BB w0 X β s' a w->Q .normal a w):(Code.region id ops draw).wp P Q a w:=by
 obtain⟨b,m,hR,d⟩:=V4 g S h;cases draw with
 | false=>
  refine wp_region ?_;have:=XN (Q:=Q) (k:=0) (ops:=ops) (r:=ops.toList) (fun j=>by simp) g S m (l _ hR (Oj _ _ _));rw[List.range_eq_range'];simpa using this
 | true=>
  refine wp_region_any hm ?_;have p:BB w0 X β s a {w with drawn:=w.drawn+1}:=S.ext (dst:=none) (v:= .one .BN) (u:=undef) (rd:=[]) (fun _ _=>rfl) (Nat.le_refl _) rfl rfl rfl (Hi _ _);refine ar m (by simpa using d rfl) g (l _ hR (Oj _ _ _)) _ _ β a _ (by simp) (fun j o q t=>?_) ?_ ?_
  ·have c:=(Array.getElem?_eq_some_iff.1 q).1;simp[c] at t
  ·have:∀n,GM (List.replicate n false)=n:=fun n=>by induction n with
    | zero=>rfl
    | succ n i=>rw[List.replicate_succ,GM,i];simp;omega
   simp[this]
  have e:run (fun j=>(Array.replicate ops.size false).getD j false) 0 ops.toList b s=s:=by
   have:∀(r:List Oper) (b:List BR) (k:Nat) (s:St),run (fun j=>(Array.replicate ops.size false).getD j false) k r b s=s:=by
    intro r
    induction r with
    | nil=>intro b k s;cases b <;> rfl
    | cons o r i=>
     intro b k s;cases b with
     | nil=>rfl
     | cons f b=>
      simp only[run];rw[if_neg,i]
      by_cases h:k<ops.size <;> simp[h]
   exact this _ _ _ _
  rw[e];exact p
end
section
variable {P:Program} {E:Env} {TI:TypeId->Info}
theorem iC {c:Code} {Q:Exit->Act->World->Prop} (I:Nat->Act->World->Prop) {k:Nat} {a:Act} {w:World} (m:I k a w)
  (round:∀k a w,I k a w->c.wp P (Exit.then (fun g w'=>∃k',k'<k/\I k' g w') Q) a w):(Code.loop c).wp P Q a w:=by
 have least:∀(a:Act) (w:World) (n:Nat),I n a w->∃k,I k a w/\∀j,I j a w->k<=j:=by
  intro a w n
  induction n using Nat.strongRecOn with
  | _ n r=>
   intro l
   by_cases h:∃j,j<n/\I j a w
   ·obtain⟨j,d,b⟩:=h;exact r j d b
   exact⟨n,l,fun j q=>Nat.le_of_not_lt fun i=>h ⟨j,i,q⟩⟩
 have⟨μ,f⟩:∃μ:Act->World->Nat,∀a w,(∃n,I n a w)->I (μ a w) a w/\∀j,I j a w->μ a w<=j:=by
  have:∀p:Act×World,∃k,(∃n,I n p.1 p.2)->I k p.1 p.2/\∀j,I j p.1 p.2->k<=j:=fun p=>by
   by_cases h:∃n,I n p.1 p.2
   ·obtain⟨n,l⟩:=h;obtain⟨k,d,b⟩:=least p.1 p.2 n l;exact⟨k,fun _=>⟨d,b⟩⟩
   exact⟨0,fun h'=>absurd h' h⟩
  exact⟨fun a w=>Classical.choose (this (a,w)),fun a w=>Classical.choose_spec (this (a,w))⟩
 refine wp_loop (fun a w=>∃n,I n a w) μ ⟨k,m⟩ fun a w o=>?_
 refine wp_mono (round _ a w (f a w o).1) fun e g w' he=>?_
 cases e with
 | normal=>obtain⟨k',d,b⟩:=he;exact⟨⟨k',b⟩,Nat.lt_of_le_of_lt ((f g w' ⟨k',b⟩).2 k' b) d⟩
 | _=>exact he
def I2 (s:St) (bs:List Nat) (k:Nat):AG:=match AF s.bk k with | some b=>if k==0&&b.AK !=0 then .dead 0 else Ka (AF s.bk) bs b | none=> .dead 0
theorem KP (s:St) (c:List Nat) (k:Nat):I2 s c k= .dead 0\/∃b,AF s.bk k=some b/\I2 s c k=Ka (AF s.bk) c b/\(k=0->b.AK=0):=by
 unfold I2
 split
 ·rename_i b d
  split
  ·exact .inl rfl
  rename_i h
  refine .inr ⟨b,d,rfl,fun e=>?_⟩;subst e;simpa using h
 exact .inl rfl
theorem dF (bk:Nat->Option AG) (c:List Nat) (b:AG):(Ka bk c b).AK=0:=by cases b <;> rfl
theorem dE (bk:Nat->Option AG) (c:List Nat) (b:AG):(Ka bk c b).live=b.live:=by cases b <;> rfl
theorem cE (s:St) (b:List Nat) (k:Nat) (r:List Nat):DK s b (k::r)=I2 s b k::DK s b r:=rfl
theorem Uz (s:St) (b:List Nat):∀(f:List Nat) (l:List (Option AG)) (id:Nat),AF (GB f (DK s b f) l) id=if id∈f/\id<l.length then some (I2 s b id) else AF l id
 | [],l,id=>by simp[GB,DK]
 | k::r,l,id=>by
  rw[cE,GB,Uz s b r,E4,F9]
  by_cases c:id<l.length
  ·by_cases g:id∈r
   ·simp[c,g]
   by_cases d:id=k
   ·subst d;simp[c,g]
   simp[c,g,d]
  by_cases d:id=k
  ·subst d;simp[c]
  simp[c,d]
theorem Uy (s:St) (b:List Nat):∀(g:List Nat) (l:List AV) (i:Nat),nth (E9 g (Dc s b g) l) i=if i∈g/\i<l.length then O1 (AF s.bk) b (nth s.sl i) else nth l i
 | [],l,i=>by simp[E9,Dc]
 | k::r,l,i=>by
  rw[Dc,E9,Uy s b r,E4,IC]
  by_cases c:i<l.length
  ·by_cases f:i∈r
   ·simp[c,f]
   by_cases d:i=k
   ·subst d;simp[c,f]
   simp[c,f,d]
  by_cases d:i=k
  ·subst d;simp[c]
  simp[c,d]
theorem UQ:∀(d:List Nat) (c:List AG) (l:List (Option AG)),(GB d c l).length=l.length
 |[],_,_|_::_,[],_=>by simp[GB]
 | k::r,b::c,l=>by rw[GB,UQ r,E4]
theorem KS:∀(c:List Nat) (vs:List AV) (l:List AV),(E9 c vs l).length=l.length
 |[],_,_|_::_,[],_=>by simp[E9]
 | k::r,b::d,l=>by rw[E9,KS r,E4]
theorem Fb {α:Type}:∀(n:Nat) (x:α),(GC n x).length=n
 | 0,_=>rfl
 | n+1,x=>by simp[GC,Fb n x]
theorem O5:∀(n i:Nat),AF (GC n none) i=none
 |0,_|n+1,0=>rfl
 | n+1,i+1=>O5 n i
theorem O3:∀(n i:Nat),nth (GC n (.one .BN)) i= .one .BN
 |0,_|n+1,0=>rfl
 | n+1,i+1=>O3 n i
theorem Us {x y:Cx} {bk:Nat->Option AG} {A:List Nat} (hw:y.w=x.w) (d:y.β=x.β) (m:x.cv=AK bk) (K:∀id,y.cv id=0) (l:∀b,x.I b->y.I b) (C:∀b,x.J b->y.J b):∀{c:AC} {v:Value},Ai x c v->Ai y (Ga bk A c) v
 |.BN,_,r|.int _ _,_,r|.bool _,_,r|.fn _,_,r|.nil,_,r=>r
 | .sl _ _,_,r=>By (fun b j=>⟨l b j,by rw[hw]⟩) _ _ _ r
 | .AQ t id v off len,u,r=>by
  simp only[Ga]
  split
  ·rename_i h
   simp only[Bool.and_eq_true,beq_iff_eq] at h;have:=r.2 (by rw[m];exact h.2.symm);exact⟨⟨r.1.1,Nat.zero_le _⟩,fun _=>by rw[hw,d];exact this⟩
  exact r.1.1
 | .Co _ _ _ _ _,_,r=>r.1.1
 | .Ae id v off,u,r=>by
  simp only[Ga]
  split
  ·rename_i h
   simp only[Bool.and_eq_true,beq_iff_eq] at h;have:=r.2 (by rw[m];exact h.2.symm);exact⟨⟨r.1.1,Nat.zero_le _⟩,fun _=>by rw[d];exact this⟩
  exact r.1.1
 | .Ca t id v i k,u,r=>by
  simp only[Ga]
  split
  ·rename_i h
   simp only[Bool.and_eq_true,beq_iff_eq] at h;have:=r.2 (by rw[m];exact h.2.symm);exact⟨⟨r.1.1,Nat.zero_le _⟩,fun _=>by rw[d];exact this⟩
  exact r.1.1
 | .ub _,_,h=>h
 | .BW t z off,_,⟨b,o,us,g,f,n,B⟩=>⟨b,o,us,g,l b f,By (fun b j=>⟨l b j,by rw[hw]⟩) _ _ _ n,by rw[hw];exact B⟩
 | .CU _ _,_,⟨_,e,_⟩=>by rw[e];rfl
 | .CJ _ _,_,⟨us,e,r⟩=>⟨us,e,r.mono fun _ _=>EV.mono fun b j=>⟨l b j,by rw[hw]⟩⟩
 | .str _,_,r=>r
 | .Ch ps,u,⟨b,o,c,us,e,D,q,F,G⟩=>by
  simp only[Ga]
  split
  ·rename_i h
   have key:∀(ps:List (Nat×Nat×Nat)) (us:List Value),(ps.all fun p=>A.contains p.1&&AK bk p.1==p.2.1)=true->AT (FN x) ps us->AT (FN y) (ps.map fun p=>(p.1,0,p.2.2)) us:=by
    intro ps
    induction ps with
    | nil=>intro us _ h;cases us with
     | nil=>trivial
     | cons _ _=>exact h.elim
    | cons p ps H=>intro us g f;cases us with
     | nil=>exact f.elim
     | cons u us=>
      simp only[List.all_cons,Bool.and_eq_true,beq_iff_eq] at g;have n:=f.1.2 (by rw[m];exact g.1.2.symm);exact⟨⟨⟨f.1.1.1,Nat.zero_le _⟩,fun _=>by rw[d];exact n⟩,H us g.2 f.2⟩
   exact⟨b,o,c,us,by rw[e,List.length_map],by rw[List.length_map];exact D,C b q,key ps us h F,by rw[hw];exact G⟩
  rw[e];rfl
 | .Cp _,_,⟨_,_,_,e,_⟩=>by simp only[Ga];rw[e];rfl
 | .own _ _ _,_,r=>r.elim
theorem AT.norm {x y:Cx} {bk:Nat->Option AG} {j:List Nat} (hw:y.w=x.w) (c:y.β=x.β) (g:x.cv=AK bk) (i:∀id,y.cv id=0) (d:∀b,x.I b->y.I b) (f:∀b,x.J b->y.J b):∀{cs:List AC} {us:List Value},AT (Ai x) cs us->AT (Ai y) (cs.map (Ga bk j)) us
 | [],[],_=>trivial
 | _::_,_::_,h=>⟨Us hw c g i d f h.1,AT.norm hw c g i d f h.2⟩
 |[],_::_,h|_::_,[],h=>h.elim
theorem dG {x y:Cx} {bk:Nat->Option AG} {k:List Nat} (hw:y.w=x.w) (d:y.β=x.β) (i:x.cv=AK bk) (j:∀id,y.cv id=0) (f:∀b,x.I b->y.I b) (g:∀b,x.J b->y.J b) {a:AV} {v:Value} (h:BF x a v):BF y (O1 bk k a) v:=by
 cases a with
 | one c=>
  rcases h with rfl | h
  ·exact .inl rfl
  exact .inr (Us hw d i j f g h)
 | agg cs=>obtain⟨arr,e,h⟩:=h;exact⟨arr,e,AT.norm hw d i j f g h⟩
 | AJ _=>exact .inl rfl
theorem BB.head {w0:World} {X:WX} {β:Nat->Option Nat} {s:St} {a:Act} {w:World} (S:BB w0 X β s a w) {n:Nat} (D:s.sl.length=n) (g c:List Nat):BB w0 X β (Ff n g (Dc s c g) c (DK s c c)) a w:=by
 have m:∀id b,AF (Ff n g (Dc s c g) c (DK s c c)).bk id=some b->b=I2 s c id:=fun id b h=>by
  have h:AF (GB c (DK s c c) (GC n none)) id=some b:=h;rw[Uz,O5] at h
  split at h
  ·exact (Option.some.inj h).symm
  cases h
 have o:∀id,AK (AF (Ff n g (Dc s c g) c (DK s c c)).bk) id=0:=fun id=>by
  unfold AK
  split
  ·rename_i b f
   rw[m id b f];rcases KP s c id with h |⟨b',_,h,_⟩ <;> rw[h]
   ·rfl
   exact dF _ _ _
  rfl
 have d:∀id,live (AF (Ff n g (Dc s c g) c (DK s c c)).bk) id->live (AF s.bk) id:=fun id ⟨b,f,k⟩=>by
  have:=m id b f;subst this;rcases KP s c id with h |⟨b',j,h,_⟩ <;> rw[h] at k
  ·cases k
  rw[dE] at k;exact⟨b',j,k⟩
 have z:∀b,(cx X w β (AF s.bk)).I b->(cx X w β (AF (Ff n g (Dc s c g) c (DK s c c)).bk)).I b:=fun b f=>⟨⟨f.1.1,fun id k=>f.1.2 id (d id k)⟩,f.2⟩
 have C:∀b,(cx X w β (AF s.bk)).J b->(cx X w β (AF (Ff n g (Dc s c g) c (DK s c c)).bk)).J b:=fun b f=>⟨f.1,fun id k=>f.2 id (d id k)⟩
 refine⟨S.defers,?_,?_,fun i=>?_,fun id b f=>?_,fun id B b p u=>S.inj id B b (d _ p) (d _ u),fun id b p=>S.own id b (d _ p),S.os,S.tape,S.output,S.size,S.block,fun id b f=>?_,S.fresh,fun k _=>?_⟩
 ·show (E9 _ _ _).length=_
  rw[KS,Fb,<-D];exact S.len
 ·show (GB _ _ _).length=_
  rw[UQ,Fb,<-D];exact S.len
 ·show BF _ (nth (E9 _ _ _) i) _
  rw[Uy,O3]
  split
  ·exact dG (x:=cx X w β (AF s.bk)) (y:=cx X w β (AF (Ff n g (Dc s c g) c (DK s c c)).bk)) rfl rfl rfl o z C (S.GJ i)
  exact Hi _ _
 ·have:=m id b f;subst this;rcases KP s c id with h |⟨b',j,h,_⟩ <;> rw[h]
  ·trivial
  have r:=S.blocks id b' j;cases b' with
  | dead _=>trivial
  | var _ cs=>obtain⟨b,arr,e,p,u,v⟩:=r;exact⟨b,arr,e,p,u,AT.norm (x:=cx X w β (AF s.bk)) (y:=cx X w β (AF (Ff n g (Dc s c g) c (DK s c c)).bk)) rfl rfl rfl o z C v⟩
  | arr _ t l=>
   refine r.imp (fun q=>q) fun⟨b,arr,e,p,u,v⟩=>⟨b,arr,e,p,u,fun i y G=>?_⟩
   obtain⟨us,H,K⟩:=v i y G;exact⟨us,By (w':=w) (fun b f=>⟨z b f,rfl⟩) _ _ _ H,K⟩
 ·have:=m id b f;subst this;rcases KP s c id with h |⟨b',j,h,_⟩ <;> rw[h]
  ·trivial
  have:=S.lens id b' j;cases b' <;> exact this
 have A:=d 0 k;obtain⟨b,f,k⟩:=k;have:=m 0 b f;subst this;rcases KP s c 0 with h |⟨b',j,h,F⟩ <;> rw[h] at k
 ·cases k
 exact S.H7 A (by unfold AK;rw[j];exact F rfl)
theorem Vc (a:Act) (k:Nat):a.put (some k) (a.tmps.getD k undef)=a:=by
 have h:a.tmps.setIfInBounds k (a.tmps.getD k undef)=a.tmps:=by
  apply Array.ext
  ·simp
  intro i c b;rw[Array.getElem_setIfInBounds]
  split
  ·subst_vars;simp[Array.getD,b]
  rfl
 simp only[Act.put,h]
theorem BB.conv {w0:World} {X:WX} {a:Act} {w:World} {n:Nat}:∀{s:St} {β:Nat->Option Nat},BB w0 X β s a w->s.sl.length=n->∀(cv:List (Nat×T×Bool)),∃β',BB w0 X β' (Ik s cv) a w/\(Ik s cv).sl.length=n
 | s,β,S,d,[]=>⟨β,S,d⟩
 | s,β,S,d,(k,t,b)::r=>by
  have y:∀{c:AC},(∀v:Value,v= .slice none 0 0->Ai (cx X w β (AF s.bk)) c v)->nth s.sl k= .one .nil->BB w0 X β ⟨Av s.sl k (.one c),s.bk⟩ a w:=fun {c} p e=>by
   have i:=S.GJ k;rw[e] at i;have f:a.tmps.getD k undef= .slice none 0 0:=i.resolve_left (by simp);have:=S.val (dst:=some k) (v:= .one c) (u:=a.tmps.getD k undef) (rd:=[]) (.inr (p _ f));rw[Vc] at this;exact this
  unfold Ik
  split
  ·rename_i e
   exact BB.conv (y (c:= .sl t []) (fun v f=>⟨none,0,by rw[f];rfl,Nat.le_refl _,Nat.zero_le _,.inl rfl⟩) e) (by rw[E4];exact d) r
  ·rename_i e
   by_cases g:k<s.bk.length
   ·have i:=S.GJ k;rw[e] at i;have f:a.tmps.getD k undef= .slice none 0 0:=i.resolve_left (by simp)
    have:=S.write (β':=fun j=>if j=k then none else β j) (w':=w) (dst:=some k) (v:= .one (.AQ t k (AK (AF s.bk) k+1) 0 0)) (u:=a.tmps.getD k undef) (rd:=[]) (id:=k) (Au:= .arr (AK (AF s.bk) k+1) t []) g (Nat.zero_le _)
     (fun j x=>by simp[x]) (by simp[AG.AK]) (fun e=>by simp[AG.AK] at e) (fun _ _ _=>rfl) (Nat.le_refl _) (fun b arr e q=>⟨arr,q,rfl⟩) rfl rfl rfl (fun _ b o=>by simp at o)
     (fun _=> .inl ⟨by show (if k=k then _ else _)=_;simp,rfl⟩)
     (fun _=> .inr ⟨⟨by rw[f];rfl,by show _<=AK _ k;rw[ET _ _ _ g,if_pos rfl];exact Nat.le_refl _⟩,fun _=>⟨none,0,f,Nat.le_refl _,Nat.zero_le _,fun h=>(by cases h),.inl rfl⟩⟩)
    rw[Vc] at this;exact BB.conv this (by show (Av _ _ _).length=_;rw[E4];exact d) r
   have l:Av s.sl k (.one (.AQ t k (AK (AF s.bk) k+1) 0 0))=s.sl:=GF _ _ _ (by rw[S.len,<-S.GZ];omega);have m:Av s.bk k (some (AG.arr (AK (AF s.bk) k+1) t []))=s.bk:=GF _ _ _ (by omega);rw[l,m];exact BB.conv S d r
  exact BB.conv S d r
def F0:Code->Bool
 | .region _ ops _=>ops.toList.all Lw
 |.seq a b|.cond _ a b=>F0 a&&F0 b
 |.block _ c|.loop c=>F0 c
 | _=>true
def gW:AX->Exit
 | .Cf=> .normal
 | .exit n=> .exit n
 | .ret=> .ret
def Hp (w0:World) (X:WX) (n:Nat) (Q:AX->St->Prop) (e:Exit) (a:Act) (w:World):Prop:=
 ∃x s β,e=gW x/\Q x s/\s.sl.length=n/\BB w0 X β s a w
theorem EL (hm:P.follows .mixedOrders=true) (m:∀o,Lw o=true->Sound P E TI o) {n:Nat} {w0:World} {X:WX}:∀{c:Code} {Q:AX->St->Prop} {β:Nat->Option Nat} {s:St} {a:Act} {w:World},F0 c=true->s.sl.length=n->BB w0 X β s a w->CZ E TI n c Q s->
  c.wp P (Hp w0 X n Q) a w
 | .skip,Q,β,s,a,w,_,g,S,h=>wp_skip ⟨.Cf,s,β,rfl,h,g,S⟩
 | .exit i,Q,β,s,a,w,_,g,S,h=>wp_exit ⟨.exit i,s,β,rfl,h,g,S⟩
 | .ret,Q,β,s,a,w,_,g,S,h=>wp_ret ⟨.ret,s,β,rfl,h,g,S⟩
 | .region id ops draw,Q,β,s,a,w,l,g,S,h=>
  dx hm (fun o I=>m o (List.all_eq_true.1 l o I)) S h fun s' t F β' r w' j=>⟨.Cf,s',β',rfl,t,by rw[F];exact g,j⟩
 | .seq x y,Q,β,s,a,w,l,g,S,h=>by
  simp only[F0,Bool.and_eq_true] at l;refine wp_seq (wp_mono (EL hm m l.1 g S h) fun e r w' he=>?_);obtain⟨z,s',β',rfl,f,d,j⟩:=he;cases z with
  | Cf=>exact EL hm m l.2 d j f
  | exit i=>exact⟨.exit i,s',β',rfl,f,d,j⟩
  | ret=>exact⟨.ret,s',β',rfl,f,d,j⟩
 | .cond c x y,Q,β,s,a,w,l,g,S,h=>by
  simp only[F0,Bool.and_eq_true] at l;have q:=Bx S c
  have plain:(match ev s.sl c with | .one (.bool true)=>CZ E TI n x Q s | .one (.bool false)=>CZ E TI n y Q s | .one (.ub u)=>(u=true->CZ E TI n x Q s)/\CZ E TI n y Q s | _=>False)->(Code.cond c x y).wp P (Hp w0 X n Q) a w:=by
   intro h
   split at h
   ·rename_i he
    rw[he] at q;exact wp_cond_true (BA q (by simp)) (EL hm m l.1 g S h)
   ·rename_i he
    rw[he] at q;exact wp_cond_false (BA q (by simp)) (EL hm m l.2 g S h)
   ·rename_i u he
    rw[he] at q;obtain⟨b,C,A⟩:=BA q (by simp);cases b with
    | true=>exact wp_cond_true C (EL hm m l.1 g S (h.1 (A rfl)))
    | false=>exact wp_cond_false C (EL hm m l.2 g S h.2)
   exact h.elim
  simp only[CZ] at h
  split at h
  ·rcases h with⟨v,p,J,B,h⟩ | h
   ·have fin:∀e r w',Hp w0 X n (fun e s'=>match e with | .Cf=>J (Dc s' p v) (DK s' p p) | .exit i=>Q (.exit i) s' | .ret=>Q .ret s') e r w'->Hp w0 X n Q e r w':=by
     rintro e r w' ⟨z,s',β',rfl,f,d,j⟩;cases z with
     | Cf=>exact⟨.Cf,_,β',rfl,B _ _ f,by show (E9 _ _ _).length=_;rw[KS,Fb],j.head d v p⟩
     | exit i=>exact⟨.exit i,s',β',rfl,f,d,j⟩
     | ret=>exact⟨.ret,s',β',rfl,f,d,j⟩
    split at h
    ·rename_i he
     rw[he] at q;exact wp_cond_true (BA q (by simp)) (wp_mono (EL hm m l.1 g S h) fin)
    ·rename_i he
     rw[he] at q;exact wp_cond_false (BA q (by simp)) (wp_mono (EL hm m l.2 g S h) fin)
    ·rename_i u he
     rw[he] at q;obtain⟨b,C,A⟩:=BA q (by simp);cases b with
     | true=>exact wp_cond_true C (wp_mono (EL hm m l.1 g S (h.1 (A rfl))) fin)
     | false=>exact wp_cond_false C (wp_mono (EL hm m l.2 g S h.2) fin)
    exact h.elim
   exact plain h
  exact plain h
 | .block id c,Q,β,s,a,w,l,g,S,h=>by
  rcases h with⟨v,p,J,B,h⟩ | h
  ·refine wp_block (wp_mono (EL hm m (c:=c) l g S h) fun e r w' he=>?_);obtain⟨z,s',β',rfl,f,d,j⟩:=he
   have fin:J (Dc s' p v) (DK s' p p)->Hp w0 X n Q .normal r w':=fun f=>
    ⟨.Cf,_,β',rfl,B _ _ f,by show (E9 _ _ _).length=_;rw[KS,Fb],j.head d v p⟩
   cases z with
   | Cf=>exact fin f
   | exit i=>
    show Exit.inBlock id (Hp w0 X n Q) (.exit i) r w'
    simp only[Exit.inBlock];simp only at f
    split
    ·rename_i t;rw[if_pos t] at f;exact fin f
    rename_i t;rw[if_neg t] at f;exact⟨.exit i,s',β',rfl,f,d,j⟩
   | ret=>exact⟨.ret,s',β',rfl,f,d,j⟩
  refine wp_block (wp_mono (EL hm m (c:=c) l g S h) fun e r w' he=>?_);obtain⟨z,s',β',rfl,f,d,j⟩:=he;cases z with
  | Cf=>exact⟨.Cf,s',β',rfl,f,d,j⟩
  | exit i=>
   show Exit.inBlock id (Hp w0 X n Q) (.exit i) r w'
   simp only[Exit.inBlock];simp only at f
   split
   ·rename_i t;rw[if_pos t] at f;exact⟨.Cf,s',β',rfl,f,d,j⟩
   rename_i t;rw[if_neg t] at f;exact⟨.exit i,s',β',rfl,f,d,j⟩
  | ret=>exact⟨.ret,s',β',rfl,f,d,j⟩
 | .loop c,Q,β,s,a,w,l,g,S,h=>by
  obtain⟨cv,v,p,J,⟨k0,G⟩,K⟩:=h;obtain⟨β,S,g⟩:=S.conv g cv;refine iC (fun k a w=>∃vs D β,J vs D k/\BB w0 X β (Ff n v vs p D) a w) ⟨_,_,β,G,S.head g v p⟩ fun k a w H=>?_
  obtain⟨vs,D,β,B,S⟩:=H;refine wp_mono (EL hm m (c:=c) l (by show (E9 _ _ _).length=_;rw[KS,Fb]) S (K vs D k B)) fun e r w' he=>?_
  obtain⟨z,s',β',rfl,f,d,j⟩:=he;cases z with
  | Cf=>obtain⟨k',t,F⟩:=f;exact⟨k',t,_,_,β',F,j.head d v p⟩
  | exit i=>exact⟨.exit i,s',β',rfl,f,d,j⟩
  | ret=>exact⟨.ret,s',β',rfl,f,d,j⟩
 |.rangeFunc _ _ _ _,_,_,_,_,_,_,_,_,h|.scope _,_,_,_,_,_,_,_,_,h|.label _,_,_,_,_,_,_,_,_,h|.goto _,_,_,_,_,_,_,_,_,h|.refuse _,_,_,_,_,_,_,_,_,h=>h.elim
end
section
variable {P:Program} {TI:TypeId->Info}
def Kk (tmps:Array Value):ResultVar->Sem Value
 | .tmp t=>pure (tmps.getD t undef)
 | .cell a t=>do loadVar t (<-asAddr (tmps.getD a undef))
theorem Uc {w:World} {f:ResultVar->Sem Value}:∀{l:List ResultVar} {vs:List Value},AT (fun r v=>(f r).run P w= .ok v w) l vs->(l.mapM f).run P w= .ok vs w
 | [],[],_=>by simp
 | r::l,v::vs,h=>by
  rw[List.mapM_cons];simp[Sem.run_bind,h.1,Uc h.2]
 |[],_::_,h|_::_,[],h=>h.elim
def GA:List Value->Value
 | [v]=>v
 | vs=> .tuple vs.toArray
theorem Ms {fn:Func} {tmps:Array Value} {w:World} {vs:List Value} (h:AT (fun r v=>(Kk tmps r).run P w= .ok v w) fn.results.toList vs):(results fn tmps).run P w= .ok (GA vs) w:=by
 have e:results fn tmps=(do let vs <-fn.results.mapM (Kk tmps);pure (if h:vs.size=1 then vs[0] else .tuple vs)):=by
  unfold results
  congr 1
 rw[e,Array.mapM_eq_mapM_toList];simp only[Sem.run_bind,map_eq_pure_bind,Uc h,Result.andThen_ok,Sem.run_pure]
 congr 1
 match vs with
 |[]|[v]|_::_::_=>rfl
section
variable {w0:World} {X:WX} {β:Nat->Option Nat} {s:St} {a:Act} {w:World}
theorem eF (A:∀t,Cw P t (TI t)) (S:BB w0 X β s a w) {r:ResultVar} {b b':Bool×List AC} (h:Mr TI s r=some b) (m:Aq (Dr (AF s.bk)) b.2 b'.2):
  ∃v us,(Kk a.tmps r).run P w= .ok v w/\AT (Ai (cx X w β (AF s.bk))) b.2 us/\(b.1=true->v= .agg us.toArray)/\(b.1=false->us=[]\/us=[v]):=by
 cases r with
 | tmp t=>
  simp only[Mr,Option.some.injEq] at h;subst h;have f:=S.GJ t
  generalize N:nth s.sl t=g at m f
  cases g with
  | one c=>
   have o:c≠ .BN:=by
    rintro rfl;cases b' with
    | mk x y=>cases y with
     | nil=>exact m.elim
     | cons _ _=>exact m.1.elim
   exact⟨_,[a.tmps.getD t undef],rfl,⟨BA f o,trivial⟩,fun e=>by simp[AV.comp] at e,fun _=> .inr rfl⟩
  | agg cs=>
   obtain⟨arr,e,f⟩:=f;exact⟨_,arr.toList,rfl,f,fun _=>by rw[e],fun e=>by simp[AV.comp] at e⟩
  | AJ _=>exact⟨_,[],rfl,trivial,fun e=>by simp[AV.comp] at e,fun _=> .inl rfl⟩
 | cell q t=>
  simp only[Mr] at h;have f:=S.GJ q
  split at h
  ·rename_i id v off he
   rw[he] at f;have f:=BA f (by simp)
   split at h
   ·rename_i O cs B
    split at h
    ·rename_i d
     simp only[Bool.and_eq_true,beq_iff_eq] at d;obtain⟨⟨C,z⟩,hlen⟩:=d;obtain⟨F,arr,e,G,H,I⟩:=S.blocks id _ B;have M:v=AK (AF s.bk) id:=by unfold AK;rw[B];exact z.symm
     obtain⟨b1,l,L⟩:=f.2 M;obtain rfl:F=b1:=Option.some.inj (G.symm.trans l)
     have i:AT (Ai (cx X w β (AF s.bk))) (EH cs off (TI t).size) ((arr.toList.drop off).take (TI t).size):=by
      rw[IP];exact (I.drop off).take _
     have D:=i.length;have k:=run_load (A t) C (Mm H (off:=off) (n:=(TI t).size)) (by rw[<-D];exact hlen);obtain rfl:=Option.some.inj h;have p:(TI t).agg=false->(TI t).size=1:=by obtain⟨_,_,_,_,_,_,_,_,_,J⟩:=(A t).info C;exact J
     refine⟨valOf (TI t).agg ((arr.toList.drop off).take (TI t).size),_,?_,i,fun e=>?_,fun e=>?_⟩
     ·refine Eq.trans ?_ k;simp only[Kk,L,asAddr,Instr.loadAt,Instr.sureAddr]
      rfl
     ·rw[show (TI t).agg=true from e];rfl
     right
     have K:=p e;rw[show (TI t).agg=false from e];have j:((arr.toList.drop off).take (TI t).size).length=1:=by rw[<-D,hlen];exact K
     generalize (arr.toList.drop off).take (TI t).size=us at j
     match us,j with
     | [u],_=>rfl
    cases h
   cases h
  cases h
end
section
variable {w0:World} {X:WX} {β:Nat->Option Nat} {s:St} {a:Act} {w:World}
def Yb (I:Nat->Prop) (lo:Nat) (w:World) (bo:Option Nat):Cx:=Cb w fun b=>((false=false/\I b)\/lo<=b)/\b<w.heap.size/\bo≠some b
theorem Vl {I:Nat->Prop} (S:BB w0 X β s a w) (T:∀b,¬X.X b) (R:∀b,X.A b->I b\/w0.heap.size<=b) {bo:Option Nat} (B:bo=none\/∃id,live (AF s.bk) id/\β id=bo) {c d:AC} {v:Value} (M:E1 d=false) (V:HW c=true->bo=none) (h:Dr (AF s.bk) c d) (Q:∀t o l,d≠ .AQ t 0 0 o l)
  (r:Ai (cx X w β (AF s.bk)) c v):Cq (Yb I w0.heap.size w bo) w0.heap.size bo d v:=by
 have L:∀b,(cx X w β (AF s.bk)).I b->(Yb I w0.heap.size w bo).I b/\w.heap[b]? =w.heap[b]? :=fun b x=>
  ⟨⟨(R b x.2).imp (fun q=>⟨rfl,q⟩) id,x.1.1,fun e=>by
   rcases B with h' |⟨id,g,K⟩
   ·rw[h'] at e;cases e
   exact x.1.2 id g (K.trans e)⟩,rfl⟩
 cases c with
 | AQ t id j off len=>
  rcases h with⟨l,g,K,rfl⟩ |⟨l,n,_,_,_,_,_,rfl⟩ |⟨_,_,rfl⟩
  ·have z:=V rfl;subst z;have W:j=AK (AF s.bk) id:=by rw[Cv g];rfl
   obtain⟨base,cap,e,g1,g2,_,J⟩:=r.2 W;have hlen:((l.drop off).take len).length=len:=by simp;omega
   have m:l.length<=140737488355328:=S.lens id _ g;refine⟨base,cap,by rw[hlen,e],by rw[hlen];exact g1,by rw[hlen];omega,?_⟩;rcases J with J |⟨b,arr,e',k1,k2,k3,k4⟩
   ·left;exact List.eq_nil_of_length_eq_zero (by rw[hlen];omega)
   have F:=S.blocks id _ g;rcases F with⟨u,N⟩ |⟨b',H,O,u,N,q3⟩
   ·exact absurd (u.symm.trans k1) (by simp)
   obtain rfl:b'=b:=Option.some.inj (u.symm.trans k1);have D:live (AF s.bk) id:=⟨_,g,rfl⟩
   have C:b'<w.heap.size:=by
    rcases Nat.lt_or_ge b' w.heap.size with h' | h'
    ·exact h'
    have G:w.heap[b']? =_:=N;simp[Array.getElem?_eq_none h'] at G
   refine .inr ⟨b',_,k2,⟨.inr ((S.own id b' D u).resolve_right (fun q=>T b' q.1)),C,by simp⟩,fun i y p=>?_⟩
   have U:l[off+i]? =some y:=by
    rw[List.getElem?_take] at p
    split at p
    ·simpa using p
    cases p
   obtain⟨us,Y,Z⟩:=q3 (off+i) y U;exact⟨us,By (w':=w) L _ _ _ Y,by rw[show off*t.size+i*t.size=(off+i)*t.size by rw[Nat.add_mul]];exact Z⟩
  ·cases M
  exact absurd rfl (Q t off len)
 | nil=>
  rcases h with rfl |⟨t,rfl⟩ |⟨t,rfl⟩
  ·exact r
  ·exact⟨none,0,by rw[show v=_ from r];rfl,Nat.le_refl _,by simp,.inl rfl⟩
  cases M
 |int k n|bool b|str b|fn f=>rw[show d=_ from h];exact r
 | sl t l=>rw[show d=_ from h];exact By (w':=w) L _ _ _ r
 | _=>exact h.elim
theorem eD {I:Nat->Prop} (S:BB w0 X β s a w) (H:∀b,¬X.X b) (F:∀b,X.A b->I b\/w0.heap.size<=b) {c d:AC} {v:Value} (m:E1 d=true) (h:Dr (AF s.bk) c d)
  (r:Ai (cx X w β (AF s.bk)) c v):∃bo,Cq (Yb I w0.heap.size w bo) w0.heap.size bo d v/\(bo=none\/((∃id,live (AF s.bk) id/\β id=bo)/\HW c=true)):=by
 cases c with
 | AQ t id u off len=>
  rcases h with⟨l,p,T,rfl⟩ |⟨l,n,_,p,rfl,rfl,rfl,rfl⟩ |⟨_,_,rfl⟩
  ·cases m
  ·have J:u=AK (AF s.bk) id:=by rw[Cv p];rfl
   obtain⟨base,cap,e,g1,g2,_,D⟩:=r.2 J;have g:l.length<=140737488355328:=S.lens id _ p;have j:live (AF s.bk) id:=⟨_,p,rfl⟩;rcases D with rfl |⟨b,arr,e',k1,k2,L,M⟩
   ·exact⟨none,⟨rfl,base,0,e,g1,g2,g,.inl ⟨rfl,List.eq_nil_of_length_eq_zero (by omega),rfl⟩⟩,.inl rfl⟩
   have z:=S.blocks id _ p;rcases z with⟨o,Q⟩ |⟨b',B,C,o,Q,R⟩
   ·exact absurd (o.symm.trans k1) (by simp)
   obtain rfl:b'=b:=Option.some.inj (o.symm.trans k1)
   have G:∀b,(cx X w β (AF s.bk)).I b->(Yb I w0.heap.size w (some b')).I b/\w.heap[b]? =w.heap[b]? :=fun b x=>
    ⟨⟨(F b x.2).imp (fun q=>⟨rfl,q⟩) (fun q=>q),x.1.1,fun e=>x.1.2 id j (o.trans e)⟩,rfl⟩
   refine⟨some b',⟨rfl,base,cap,e,g1,g2,g,.inr ⟨b',arr,e',rfl,(S.own id b' j o).resolve_right (fun q=>H b' q.1),by rw[k2];simp,L,by simpa using M,fun i y K=>?_⟩⟩,.inr ⟨⟨id,j,o⟩,rfl⟩⟩;obtain⟨us,N,O⟩:=R i y K;exact⟨us,By (w':=w) G _ _ _ N,O⟩
  cases m
 | nil=>
  rcases h with rfl |⟨t,rfl⟩ |⟨t,rfl⟩
  ·cases m
  ·cases m
  exact⟨none,⟨rfl,none,0,by rw[show v=_ from r];rfl,Nat.le_refl _,Nat.zero_le _,by simp,.inl ⟨rfl,rfl,rfl⟩⟩,.inl rfl⟩
 |int k n|bool b|str b|fn f|sl t l=>rw[show d=_ from h] at m;cases m
 | _=>exact h.elim
theorem PX {I:Nat->Prop} (S:BB w0 X β s a w) (r:∀b,¬X.X b) (q:∀b,X.A b->I b\/w0.heap.size<=b) {bo:Option Nat} (g:bo=none\/∃id,live (AF s.bk) id/\β id=bo):∀{cs f:List AC} {vs:List Value},f.filter E1=[]->(cs.filter HW≠[]->bo=none)->Aq (Dr (AF s.bk)) cs f->f.all Bp=true->
  AT (Ai (cx X w β (AF s.bk))) cs vs->AT (Cq (Yb I w0.heap.size w bo) w0.heap.size bo) f vs
 | [],[],[],_,_,_,_,_=>trivial
 | c::cs,d::f,v::vs,i,m,n,j,p=>by
  simp only[List.all_cons,Bool.and_eq_true] at j
  have u:E1 d=false:=by
   cases h:E1 d with
   | false=>rfl
   | true=>rw[List.filter_cons,h] at i;simp at i
  refine⟨Vl S r q g u (fun k=>m (by rw[List.filter_cons,k];simp)) n.1 (fun t o l e=>by subst e;simp[Bp,Ao] at j) p.1,PX S r q g (by rw[List.filter_cons,u] at i;simpa using i) (fun k=>m (fun e=>k ?_)) n.2 j.2 p.2⟩;rw[List.filter_cons] at e
  split at e
  ·cases e
  exact e
 |[],[],_::_,_,_,_,_,h|_::_,_::_,[],_,_,_,_,h|[],_::_,_,_,_,h,_,_|_::_,[],_,_,_,h,_,_=>h.elim
theorem Vn {I:Nat->Prop} (S:BB w0 X β s a w) (x:∀b,¬X.X b) (u:∀b,X.A b->I b\/w0.heap.size<=b):∀{cs g:List AC} {vs:List Value},(g.filter E1).length<=1->((g.filter E1).length=1->(cs.filter HW).length<=1)->Aq (Dr (AF s.bk)) cs g->g.all Bp=true->
  AT (Ai (cx X w β (AF s.bk))) cs vs->∃bo,AT (Cq (Yb I w0.heap.size w bo) w0.heap.size bo) g vs/\(bo=none\/((∃id,live (AF s.bk) id/\β id=bo)/\cs.filter HW≠[]))
 | [],[],[],_,_,_,_,_=>⟨none,trivial,.inl rfl⟩
 | c::cs,d::g,v::vs,k,j,n,p,r=>by
  have B:=p;simp only[List.all_cons,Bool.and_eq_true] at p;cases y:E1 d with
  | true=>
   rw[List.filter_cons,y] at k j;simp only[if_true,List.length_cons] at k j;have i:g.filter E1=[]:=List.eq_nil_of_length_eq_zero (by omega);obtain⟨bo,g1,g2⟩:=eD S x u y n.1 r.1;refine⟨bo,⟨g1,PX S x u (g2.imp id fun q=>q.1) i (fun C=>?_) n.2 p.2 r.2⟩,g2.imp id fun q=>⟨q.1,by rw[List.filter_cons,q.2];simp⟩⟩;rcases g2 with g2 |⟨_,g2⟩
   ·exact g2
   exfalso
   have:=j (by rw[i];rfl);rw[List.filter_cons,g2] at this;simp only[if_true,List.length_cons] at this;exact C (List.eq_nil_of_length_eq_zero (by omega))
  | false=>
   rw[List.filter_cons,y] at k j;simp only[Bool.false_eq_true,if_false] at k j;have D:∀t o l,d≠ .AQ t 0 0 o l:=fun t o l e=>by subst e;simp[Bp,Ao] at p
   by_cases z:(g.filter E1).length=1
   ·have f:=j z
    have m:(cs.filter HW).length<=1:=by
     rw[List.filter_cons] at f
     split at f
     ·simp only[List.length_cons] at f;omega
     exact f
    obtain⟨bo,g1,g2⟩:=Vn S x u k (fun _=>m) n.2 p.2 r.2;refine⟨bo,⟨Vl S x u (g2.imp id fun q=>q.1) y (fun F=>?_) n.1 D r.1,g1⟩,g2.imp id fun q=>⟨q.1,fun e=>q.2 ?_⟩⟩
    ·rcases g2 with g2 |⟨_,g2⟩
     ·exact g2
     rw[List.filter_cons,F] at f;simp only[if_true,List.length_cons] at f;exact absurd (List.eq_nil_of_length_eq_zero (by omega)) g2
    rw[List.filter_cons] at e
    split at e
    ·cases e
    exact e
   have i:g.filter E1=[]:=List.eq_nil_of_length_eq_zero (by omega);exact⟨none,PX S x u (.inl rfl) (by rw[List.filter_cons,y];simpa using i) (fun _=>rfl) n B r,.inl rfl⟩
 |[],[],_::_,_,_,_,_,h|_::_,_::_,[],_,_,_,_,h|[],_::_,_,_,_,h,_,_|_::_,[],_,_,_,h,_,_=>h.elim
end
end
section
variable {P:Program} {TI:TypeId->Info}
section
variable {w0:World} {X:WX} {β:Nat->Option Nat} {s:St} {a:Act} {w:World}
theorem Kl (j:∀t,Cw P t (TI t)) (S:BB w0 X β s a w):∀{rs:List ResultVar} {xs ys:List (Bool×List AC)},Gh TI s rs=some xs->Gg (AF s.bk) xs ys->
  ∃vs us,AT (fun r v=>(Kk a.tmps r).run P w= .ok v w) rs vs/\AT (Ai (cx X w β (AF s.bk))) (xs.flatMap (·.2)) us/\
   ∀(y:Cx) (lo:Nat) (bo:Option Nat),AT (Cq y lo bo) (ys.flatMap (·.2)) us->AT (fun z q=>FE y lo bo (C2 z) q) ys vs
 | [],xs,ys,h,f=>by
  simp only[Gh,Option.some.injEq] at h;subst h;cases ys with
  | nil=>exact⟨[],[],trivial,trivial,fun _ _ _ _=>trivial⟩
  | cons _ _=>exact f.elim
 | r::rs,xs,ys,h,f=>by
  simp only[Gh] at h
  split at h
  ·rename_i b D p u
   obtain rfl:=Option.some.inj h;cases ys with
   | nil=>exact f.elim
   | cons b' ys=>
    obtain⟨⟨e,k⟩,f⟩:=f;obtain⟨v,us,g1,g2,n,o⟩:=eF j S p k;obtain⟨vs,i,k1,k2,B⟩:=Kl j S u f;refine⟨v::vs,us++i,⟨g1,k1⟩,by rw[List.flatMap_cons];exact g2.append k2,fun y lo bo d=>?_⟩;rw[List.flatMap_cons] at d;obtain⟨m1,m2,e',g,C⟩:=d.O9
    have hlen:us.length=m1.length:=by
     rw[<-g2.length,<-g.length]
     have:∀{l m:List AC},Aq (Dr (AF s.bk)) l m->l.length=m.length:=by
      intro l
      induction l with
      | nil=>intro m h;cases m <;> first | rfl | exact h.elim
      | cons x l A=>intro m h;cases m with
       | nil=>exact h.elim
       | cons y m=>simp[A h.2]
     exact this k
    obtain⟨rfl,rfl⟩:=List.append_inj e' hlen;refine⟨?_,B y lo bo C⟩;obtain⟨t,cs⟩:=b';simp only at e;cases t with
    | true=>exact⟨us.toArray,n e,by simpa using g⟩
    | false=>
     rcases o e with rfl | rfl
     ·cases cs with
      | nil=>exact .inl rfl
      | cons _ _=>exact g.elim
     cases cs with
     | nil=>exact g.elim
     | cons c cs=>exact .inr g.1
  cases h
end
theorem Ux:∀(l m:List AV) (i:Nat),nth (l++m) i=if i<l.length then nth l i else nth m (i-l.length)
 | [],m,i=>by simp
 | x::l,m,0=>by simp[nth]
 | x::l,m,i+1=>by simp[nth,Ux l m i]
theorem AT.nth {x:Cx}:∀{l:List AV} {vs:List Value} (i:Nat),AT (BF x) l vs->i<l.length->BF x (nth l i) (vs.getD i undef)
 | _::_,_::_,0,h,_=>by simpa [Abs.nth] using h.1
 | _::_,_::_,i+1,h,b=>by simpa [Abs.nth] using AT.nth i h.2 (by simpa using b)
 | [],[],_,_,b=>by simp at b
 |[],_::_,_,h,_|_::_,[],_,h,_=>h.elim
theorem Mk {x y:Cx} (h:∀b,x.I b->y.I b/\y.w.heap[b]? =x.w.heap[b]?):∀{l:List AV} {vs:List Value},(l.all fun c=>match c with | .AJ _=>false | c=>c.all Ao)=true->AT (BF x) l vs->AT (BF y) l vs
 | [],[],_,_=>trivial
 | .one c::_,_::_,e,r=>by
  simp only[List.all_cons,Bool.and_eq_true] at e;exact⟨r.1.imp (fun q=>q) (Kd h e.1),Mk h e.2 r.2⟩
 | .agg c::_,_::_,e,r=>by
  simp only[List.all_cons,Bool.and_eq_true] at e;obtain⟨arr,e',d⟩:=r.1;exact⟨⟨arr,e',AT.pure h e.1 d⟩,Mk h e.2 r.2⟩
 | .AJ _::_,_::_,e,_=>by simp at e
 |[],_::_,_,r|_::_,[],_,r=>r.elim
theorem BB.start {w:World} {X:WX} {args:List AV} {vs:List Value} {n:Nat} {f:Option AG} (t:args.length<=n) (o:∀b,X.ob=some b->X.X b) (m:(∀b,w.heap.size<=b->X.A b)/\FD w fun b=>(X.A b/\¬X.X b)/\b<w.heap.size) (q:∀b,f=some b->b.AK=0/\b.short/\0<n)
  (c:AT (BF (cx X w (β0 X.ob) (AF (CK n args f).bk))) args vs) (p:∀b,f=some b->CM (cx X w (β0 X.ob) (AF (CK n args f).bk)) 0 b):
  BB w X (β0 X.ob) (CK n args f) {tmps:=vs.toArray++Array.replicate (n-vs.toArray.size) undef,defers:=[]} w:=by
 have hlen:=c.length
 have d:∀id b,AF (CK n args f).bk id=some b->id=0/\f=some b:=by
  intro id b h;cases n with
  | zero=>simp[CK,AF] at h
  | succ n=>
   cases id with
   | zero=>exact⟨rfl,h⟩
   | succ id=>
    have:AF (GC n none) id=some b:=h;rw[O5] at this;cases this
 refine⟨rfl,?_,?_,fun i=>?_,fun id b h=>?_,fun id r b ⟨_,g,_⟩ ⟨_,l,_⟩ _ _=>?_,fun id b ⟨_,g,_⟩ j=> .inr ?_,rfl,rfl,rfl,Nat.le_refl _,fun _ _ _=>rfl,fun id b h=>?_,m,fun _ _=>⟨rfl,fun b arr e _ he=>⟨arr,he,rfl⟩⟩⟩
 ·simp[CK,Fb];omega
 ·simp[CK];cases n with
  | zero=>simp;omega
  | succ n=>simp[Fb];omega
 ·show BF _ (nth (args++_) i) _
  rw[Ux]
  split
  ·rename_i k
   have:=c.nth i k
   have e:(vs.toArray++Array.replicate (n-vs.toArray.size) undef).getD i undef=vs.getD i undef:=by
    rw[Array.getD_eq_getD_getElem?,Array.getElem?_append_left (by simpa [<-hlen] using k)];simp[List.getD_eq_getElem?_getD]
   rw[e];exact this
  rw[O3];exact Hi _ _
 ·obtain⟨rfl,h'⟩:=d id b h;exact p b h'
 ·rw[(d _ _ g).1,(d _ _ l).1]
 ·obtain⟨rfl,_⟩:=d _ _ g;exact⟨o b j,rfl⟩
 exact (q b (d id b h).2).2.1
def IH (args:List AV):Bool:=args.all fun c=>match c with | .AJ _=>false | c=>c.all Ao
structure Fn (P:Program) (TI:TypeId->Info) (f:FuncId) (n:Nat) (c:Code) (rs:List ResultVar):Prop where
 get : ∃ fn, P.funcs[f]? = some fn /\ (fn.name == "runtime.NumGoroutine") = false /\ fn.body = some c /\ fn.ntmps = n /\ fn.results.toList = rs
 dst:F0 c=true
 ty:∀t,Cw P t (TI t)
 mixed:P.follows .mixedOrders=true
theorem Lj {r:AV} {y:Cx} {lo:Nat} {bo:Option Nat} {vs:List Value} (b:vs.length=1↔∀ys,r≠ .AJ ys) (h:AT (fun z q=>FE y lo bo (C2 z) q) r.Dj vs):Fo y lo bo r (GA vs):=by
 cases r with
 | AJ xs=>
  have:vs.length≠1:=fun e=>b.1 e xs rfl
  have e:GA vs= .tuple vs.toArray:=by
   match vs,this with
   | [],_=>rfl
   | [_],h=>exact absurd rfl h
   | _::_::_,_=>rfl
  exact⟨vs.toArray,e,h⟩
 | one c=>
  match vs,h with
  | [v],h=>exact h.1
 | agg cs=>
  match vs,h with
  | [v],h=>exact h.1
theorem RY {f:FuncId} {n:Nat} {c:Code} {rs:List ResultVar} (F:Fn P TI f n c rs) {args:List AV} {r:AV} (V:IH args=true) (C:r.all Bp=true/\r.wf=true) (T:args.length<=n)
  (h:CZ (env P) TI n c (post TI rs r none) (CK n args none)):Eh P false f args r:=by
 obtain⟨fn,M,q,d,A,D⟩:=F.get;refine⟨⟨fn,c,M,q,d⟩,C,fun w I vs L R k=>?_⟩;refine calls_of_wp M d ?_
 have N:BB w ⟨fun _=>False,fun b=>I b\/w.heap.size<=b,none⟩ (β0 none) (CK n args none) {tmps:=vs.toArray++Array.replicate (n-vs.toArray.size) undef,defers:=[]} w:=
  BB.start (X:=⟨fun _=>False,fun b=>I b\/w.heap.size<=b,none⟩) T (fun _ e=>by cases e) ⟨fun b d=> .inr d,R.mono fun b d=>⟨⟨⟨.inl d,id⟩,L b d⟩,rfl⟩⟩ (fun b e=>by cases e)
   (Mk (x:=Cb w I) (y:=cx ⟨fun _=>False,fun b=>I b\/w.heap.size<=b,none⟩ w (β0 none) (AF (CK n args none).bk)) (fun b d=>⟨⟨⟨L b d,fun id _ e=>by simp[β0] at e⟩,.inl d⟩,rfl⟩) V k) (fun b e=>by cases e)
 rw[A];refine wp_mono (EL F.mixed (fun o U=>M1 F.ty o U) F.dst (by simp[CK,Fb];omega) N h) fun e J w' he=>?_
 obtain⟨x,s',β',rfl,j,_,S⟩:=he
 have fin:post TI rs r none x s'->x≠ .exit 0/\(∀i,x≠ .exit i)->J.defers=[]/\∃v,(results fn J.tmps).run P w'= .ok v w'/\∃u bo,Ending.returned v= .returned u/\Below w.heap.size w w'/\
   Fo (Cb w' fun b=>((false=false/\I b)\/w.heap.size<=b)/\b<w'.heap.size/\bo≠some b) w.heap.size bo r u:=by
  intro j W;refine⟨S.defers,?_⟩
  have B:∃xs,Gh TI s' rs=some xs/\Gg (AF s'.bk) xs r.Dj/\Md xs r.Dj=true/\(rs.length=1↔∀ys,r≠ .AJ ys):=by
   unfold post at j
   split at j
   ·exact absurd rfl (W.2 _)
   split at j
   ·rename_i xs G
    exact⟨xs,G,j.1 ()⟩
   exact j.elim
  obtain⟨xs,O,K,z,Q⟩:=B;obtain⟨us,ws,k1,k2,Y⟩:=Kl F.ty S O K
  have p:Aq (Dr (AF s'.bk)) (xs.flatMap (·.2)) (r.Dj.flatMap (·.2)):=by
   have app:∀{l m l' m':List AC},Aq (Dr (AF s'.bk)) l m->Aq (Dr (AF s'.bk)) l' m'->Aq (Dr (AF s'.bk)) (l++l') (m++m'):=by
    intro l
    induction l with
    | nil=>intro m l' m' h h';cases m <;> first | exact h' | exact h.elim
    | cons x l H=>intro m l' m' h h';cases m with
     | nil=>exact h.elim
     | cons y m=>exact⟨h.1,H h.2 h'⟩
   have:∀{l m:List (Bool×List AC)},Gg (AF s'.bk) l m->Aq (Dr (AF s'.bk)) (l.flatMap (·.2)) (m.flatMap (·.2)):=by
    intro l
    induction l with
    | nil=>intro m h;cases m <;> first | trivial | exact h.elim
    | cons x l H=>intro m h;cases m with
     | nil=>exact h.elim
     | cons y m=>rw[List.flatMap_cons,List.flatMap_cons];exact app h.1.2 (H h.2)
   exact this K
  have t:(r.Dj.flatMap (·.2)).all Bp=true:=by
   cases r with
   |one c|agg cs=>simpa [AV.Dj,AV.comp,AV.all] using C.1
   | AJ xs=>simp only[AV.Dj,List.all_flatMap];exact C.1
  have g:((r.Dj.flatMap (·.2)).filter E1).length<=1/\(((r.Dj.flatMap (·.2)).filter E1).length=1->((xs.flatMap (·.2)).filter HW).length<=1):=by
   unfold Md at z
   split at z
   ·rename_i e;rw[e];simp
   ·rename_i e;rw[e];simpa using z
   cases z
  obtain⟨bo,g1,_⟩:=Vn (I:=I) S (fun b h=>h) (fun b h=>h) g.1 g.2 p t k2;have hlen:us.length=rs.length:=k1.length.symm;refine⟨GA us,Ms (by rw[D];exact k1),GA us,bo,rfl,⟨S.os,S.tape,S.output,S.size,fun b d=>S.block b d (fun h=>h)⟩,?_⟩;exact Lj (by rw[hlen];exact Q) (Y _ _ _ g1)
 cases x with
 |Cf|ret=>exact fin j ⟨by simp,by simp⟩
 | exit i=>exact j.elim
end
end Go.Abs
