/- Part 37 of a proof. Conditions: each theorem's own. -/
import Derived.Shelf.Spec.SlicesInsertGrow
import Derived.Test.YtmhbikooakmagaaGreatRk07
set_option linter.all false
set_option maxHeartbeats 8000000
set_option maxRecDepth 20000
open Go.Proofs
namespace Go.Abs
open Go.RowKit Go.Shelf Go.Proofs
def Es:Ren:=⟨fun k=>match k with | 21=>263 | 27=>334 | 28=>335 | 35=>372 | 39=>163 | _=>0,
 fun k=>match k with | 3=>3 | 4=>4 | 22=>83 | _=>0,fun k=>k⟩
variable {b cap i j m:Nat} {x y:Int}
theorem OH:Lays2.n21 Tryz.prog Es where
 mixed:=by kernel_rfl
 f21:=Tryz.func263.trans (congrArg some (by kernel_rfl))
 f27:=Tryz.func334.trans (congrArg some (by kernel_rfl))
 f28:=Tryz.func335.trans (congrArg some (by kernel_rfl))
 f35:=Tryz.func372.trans (congrArg some (by kernel_rfl))
 f39:=Tryz.func163.trans (congrArg some (by kernel_rfl))
 t0:=Tryz.underlying0
 a0:=Tryz.isAgg0
 z0:=Tryz.sizeOf0
 v0:=Tryz.zeroValue0
 t3:=Tryz.underlying3
 a3:=Tryz.isAgg3
 z3:=Tryz.sizeOf3
 v3:=Tryz.zeroValue3
 t4:=Tryz.underlying4
 a4:=Tryz.isAgg4
 z4:=Tryz.sizeOf4
 v4:=Tryz.zeroValue4
 t22:=Tryz.underlying83
 a22:=Tryz.isAgg83
 z22:=Tryz.sizeOf83
 v22:=Tryz.zeroValue83
 i3:=by kernel_rfl
def PU (w:World) (I:Nat->Prop) (ob:Option Nat) (l':List Int) (u:Value) (w':World):Prop:=∃ob',
 (w'.os=w.os/\w'.tape=w.tape/\w'.output=w.output/\w.heap.size<=w'.heap.size/\∀k,k<w.heap.size->ob≠some k->w'.heap[k]? =w.heap[k]?)/\
 (∀(b:Nat) arr e,ob=some b->w.heap[b]? =some (.cells arr e (0,0))->∃arr',w'.heap[b]? =some (.cells arr' e (0,0))/\arr'.size=arr.size)/\
 (ob'=ob\/∃b,ob'=some b/\w.heap.size<=b)/\l'.length<=140737488355328/\
 Ap (Bw w' ob' fun k=>(I k\/w.heap.size<=k)/\k<w'.heap.size/\ob≠some k/\ob'≠some k) (.AN .i64 0 0 0 l'.length) u/\
 Cc (Bw w' ob' fun k=>(I k\/w.heap.size<=k)/\k<w'.heap.size/\ob≠some k/\ob'≠some k) 0 (.arr 0 .i64 l')
theorem YJ {w:World} (h:w.cell? ⟨b,i,none⟩=some (.int .i64 y)):w.rangeAt b (i*T.size .i64) [.int .i64 y]:=by
 intro j v a
 match j,a with
 | 0,a=>rw[show i*T.size .i64+0=i by simp[T.size],h];exact a
theorem Wo {w w':World} {I:Nat->Prop} {arr a:Array Value} {e:TypeId} {l':List Int} (q:w.heap[b]? =some (.cells arr e (0,0))) (s:w'.os=w.os/\w'.tape=w.tape/\w'.output=w.output/\w'.heap.size=w.heap.size)
  (t:∀k,k≠b->w'.heap[k]? =w.heap[k]?) (d:w'.heap[b]? =some (.cells a e (0,0))) (hs:a.size=arr.size) (o:l'.length<=cap) (l:cap<=maxLen) (p:cap<=arr.size) (g:l'.length<=140737488355328)
  (c:∀i y,l'[i]? =some y->w'.cell? ⟨b,i,none⟩=some (.int .i64 y)):PU w I (some b) l' (.slice (some ⟨b,0,none⟩) l'.length cap) w':=by
 obtain⟨s1,s2,v,A⟩:=s;refine⟨some b,⟨s1,s2,v,by omega,fun k _ r=>t k fun e=>r (by rw[e])⟩,fun b2 n z h f=>?_,.inl rfl,g,⟨⟨rfl,Nat.le_refl _⟩,fun _=>⟨_,_,rfl,o,l,by simp,.inr ⟨b,a,e,rfl,by simp,d,by simp[T.size];omega⟩⟩⟩,.inr ⟨b,a,e,rfl,d,fun i y u=>⟨_,rfl,YJ (c i y u)⟩⟩⟩;obtain rfl:=Option.some.inj h;rw[q] at f;cases Option.some.inj f;exact⟨a,d,hs⟩
theorem Wp {w w':World} {I:Nat->Prop} {ob:Option Nat} {arr:Array Value} {e:TypeId} {l':List Int} (n:∀b,ob=some b->b<w.heap.size) (s:w'.os=w.os/\w'.tape=w.tape/\w'.output=w.output/\w.heap.size<=w'.heap.size)
  (o:∀k,k<w.heap.size->w'.heap[k]? =w.heap[k]?) (d:w'.heap[w.heap.size]? =some (.cells arr e (0,0))) (p:l'.length<=cap) (h:cap<=maxLen) (q:cap<=arr.size) (f:l'.length<=140737488355328)
  (a:∀i y,l'[i]? =some y->w'.cell? ⟨w.heap.size,i,none⟩=some (.int .i64 y)):PU w I ob l' (.slice (some ⟨w.heap.size,0,none⟩) l'.length cap) w':=by
 obtain⟨s1,s2,u,v⟩:=s;refine⟨some w.heap.size,⟨s1,s2,u,v,fun k r _=>o k r⟩,fun b2 c z g l=>⟨c,(o b2 (n b2 g)).trans l,rfl⟩,.inr ⟨_,rfl,Nat.le_refl _⟩,f,⟨⟨rfl,Nat.le_refl _⟩,fun _=>⟨_,_,rfl,p,h,by simp,.inr ⟨_,arr,e,rfl,by simp,d,by simp[T.size];omega⟩⟩⟩,.inr ⟨_,arr,e,rfl,d,fun i y t=>⟨_,rfl,YJ (a i y t)⟩⟩⟩
theorem OE {l:List Int} (hm:m<=l.length) (h:(l.take m++x::l.drop m)[i]? =some y):(i<m/\l[i]? =some y)\/(i=m/\x=y)\/(m<i/\l[i-1]? =some y):=by
 have a:(l.take m).length=m:=by simp;omega
 rcases Nat.lt_trichotomy i m with k | k | k
 ·rw[List.getElem?_append_left (by omega),List.getElem?_take,if_pos k] at h;exact .inl ⟨k,h⟩
 ·subst k;rw[List.getElem?_append_right (by omega),a,Nat.sub_self] at h;exact .inr (.inl ⟨rfl,by simpa using h⟩)
 rw[List.getElem?_append_right (by omega),a,show i-m=(i-1-m)+1 by omega,List.getElem?_cons_succ,List.getElem?_drop,show m+(i-1-m)=i-1 by omega] at h;exact .inr (.inr ⟨k,h⟩)
def ints (l:List Int):List Value:=l.map (Value.int .i64)
theorem Q2 {l:List Int} {v:Value} (h:(ints l)[j]? =some v):∃y,l[j]? =some y/\v= .int .i64 y:=by
 unfold ints at h;rw[List.getElem?_map] at h;cases e:l[j]? with
 | none=>rw[e] at h;cases h
 | some y=>rw[e] at h;exact⟨y,rfl,(Option.some.inj h).symm⟩
theorem Ws {l:List Int}:∀v∈ints l,v.oneCell'=true:=fun v a=>by
 obtain⟨y,_,rfl⟩:=List.mem_map.1 a;rfl
theorem Gg (l:List Int):(ints l).length=l.length:=by simp[ints]
theorem OC {l:List Int} (h:l[j]? =some y):(ints l)[j]? =some (.int .i64 y):=by simp[ints,List.getElem?_map,h]
theorem HJ {α:Type} {l:List α} {y:α} (h:l[i]? =some y):i<l.length:=by
 rcases Nat.lt_or_ge i l.length with a | a
 ·exact a
 rw[List.getElem?_eq_none a] at h;cases h
theorem Lc {w:World} {o:Nat} {vs:List Value} {v:Value} {arr:Array Value} {e:TypeId} (f:w.heap[b]? =some (.cells arr e (0,0))) (d:o+vs.length<=arr.size) (c:vs[j]? =some v):(w.setCells b o vs).cell? ⟨b,o+j,none⟩=some v:=by
 have a:=HJ c;rw[World.cell?_setCells_in b vs o w (fun m hm=>(Mi f d m hm).1) j a,<-c,List.getElem?_eq_getElem a]
theorem I9 {w:World} {o:Nat} {vs:List Value} (h:i<o\/o+vs.length<=i):(w.setCells b o vs).cell? ⟨b,i,none⟩=w.cell? ⟨b,i,none⟩:=World.cell?_setCells_out b vs o w _ fun _ _=>h
theorem ia {w:World} {l:List Int} {arr:Array Value} {e:TypeId} (hm:m<=l.length) (c:w.heap[b]? =some (.cells arr e (0,0))) (p:l.length+1<=arr.size) (f:∀i y,i<m->l[i]? =some y->w.cell? ⟨b,i,none⟩=some (.int .i64 y)):
  ∀i y,(l.take m++x::l.drop m)[i]? =some y->((w.setCells b (m+1) ((ints l).drop m)).setCells b m [.int .i64 x]).cell? ⟨b,i,none⟩=some (.int .i64 y):=by
 intro i y g;have n:((ints l).drop m).length=l.length-m:=by rw[List.length_drop,Gg]
 obtain⟨a,d,_,h3⟩:=GM b ((ints l).drop m) (m+1) w arr e c;rcases OE hm g with⟨h,k⟩ |⟨h,k⟩ |⟨h,k⟩
 ·rw[I9 (.inl h),I9 (.inl (by omega))];exact f i y h k
 ·subst h k;exact Lc (j:=0) d (by simp;omega) rfl
 have hi:=HJ k;rw[I9 (.inr (by simp;omega))];have:=Lc (w:=w) (b:=b) (o:=m+1) (vs:=(ints l).drop m) (j:=i-(m+1)) (v:= .int .i64 y) c (by omega) (by rw[List.getElem?_drop,show m+(i-(m+1))=i-1 by omega];exact OC k);rwa [show m+1+(i-(m+1))=i by omega] at this
theorem mC {w:World} {o o':Nat} {vs K5:List Value}:((w.setCells b o vs).setCells b o' K5).os=w.os/\((w.setCells b o vs).setCells b o' K5).tape=w.tape/\((w.setCells b o vs).setCells b o' K5).output=w.output/\((w.setCells b o vs).setCells b o' K5).heap.size=w.heap.size:=by
 obtain⟨a,c,a3,a4⟩:=Iq b vs o w;obtain⟨b1,b2,b3,d⟩:=Iq b K5 o' (w.setCells b o vs);exact⟨b1.trans a,b2.trans c,b3.trans a3,d.trans a4⟩
theorem UU (w:World) (o:Obj):w.heap.size<=(w.alloc o).heap.size:=by
 show _<=(w.heap.push o).size
 rw[Array.size_push];exact Nat.le_succ _
theorem Wk {l:List Int} {k:Int} (hk:k=(m:Int)) (hm:m<=l.length) (hl:l.length<=1000000):Mv Tryz.prog 263 .i64 l [.one (.int .i64 k),.one (.sl .i64 [x])] (l.take m++x::l.drop m):=by
 subst hk;refine⟨⟨_,_,Tryz.func263,rfl,rfl⟩,?_⟩;intro w I J ob v0 vs hI hJ h0 hb hlen hargs
 match vs,hargs with
 | [v1,v2],⟨a1,a2,_⟩=>
 have e1:v1= .int .i64 m:=a1.resolve_left (by simp);obtain⟨base2,cap2,e2,h21,_,h23⟩:=a2.resolve_left (by simp);obtain rfl:v2= .slice base2 1 cap2:=by simpa using e2
 subst e1;rcases h23 with h23 |⟨vb,voff,rfl,hJb,hcell⟩
 ·simp at h23
 obtain⟨us,u1,u2⟩:=hcell 0 x rfl;have u1:us=[.int .i64 x]:=u1;subst u1;obtain⟨hob,varr,ve,hv⟩:=hJ vb hJb
 have hvs:∀j v,([.int .i64 x]:List Value)[j]? =some v->w.cell? ⟨vb,voff+j,none⟩=some v:=fun j v hj=>by
  have:=u2 j v hj;rwa [show voff+0*T.size .i64+j=voff+j by simp] at this
 have h1v:∀v∈([.int .i64 x]:List Value),v.oneCell'=true:=fun v hv=>by rw[List.mem_singleton.1 hv];rfl
 have hlt:∀b o,w.heap[b]? =some o->b<w.heap.size:=fun b o h=>by
  rcases Nat.lt_or_ge b w.heap.size with h' | h'
  ·exact h'
  simp[Array.getElem?_eq_none h'] at h
 obtain⟨base,cap,rfl,k1,k2,_,k3⟩:=h0.2 rfl;have hll:(l.take m++x::l.drop m).length=l.length+1:=by simp;omega
 have hn0:ob=none->l=[]:=fun e=>by
  rcases hb with hb |⟨b,_,_,q,_⟩
  ·exact hb.2
  exact absurd (e.symm.trans q) (by simp)
 have hcs:∀b,ob=some b->∀j y,l[j]? =some y->w.cell? ⟨b,j,none⟩=some (.int .i64 y):=fun b hbb j y hy=>by
  rcases hb with hb |⟨b',arr,e,q,hh,hr⟩
  ·rw[hb.2] at hy;simp at hy
  obtain rfl:b'=b:=Option.some.inj (q.symm.trans hbb);obtain⟨us,r1,r2⟩:=hr j y hy;have r1:us=[.int .i64 y]:=r1;subst r1;have r3:w.rangeAt b' (j*T.size .i64) [.int .i64 y]:=r2;simpa [T.size] using r3 0 _ rfl
 have hobl:∀b,ob=some b->b<w.heap.size:=fun b hbb=>by
  rcases hb with hb |⟨b',arr,e,q,hh,hr⟩
  ·exact absurd (hbb.symm.trans hb.1) (by simp)
  obtain rfl:b'=b:=Option.some.inj (q.symm.trans hbb);exact hlt _ _ hh
 suffices h:Calls Tryz.prog 263 #[.slice base l.length cap,.int .i64 m,.slice (some ⟨vb,voff,none⟩) 1 cap2] w fun e w'=>∃u,e= .returned u/\PU w I ob (l.take m++x::l.drop m) u w' from
  h.mono fun e w' ⟨u,he,ob',hr⟩=>⟨u,ob',he,hr⟩
 by_cases hroom:l.length+1<=cap
 ·rcases k3 with rfl |⟨b,arr,e,hbb,rfl,hh0,hsz⟩
  ·omega
  have hbb:ob=some b:=hbb;have hh:w.heap[b]? =some (.cells arr e (0,0)):=hh0;subst hbb;have hsz':cap<=arr.size:=by simpa [T.size] using hsz
  have hb0:0*T.size .i64=0:=by simp
  rw[hb0];have hsp:∀j,j<l.length+1->(w.cell? ⟨b,0+j,none⟩).isSome=true:=fun j hj=>(Mi (off:=0) (n:=l.length+1) hh (by omega) j hj).1
  have hfz:∀j,w.frozen? ⟨b,j,none⟩=false:=fun j=>by simp[World.frozen?,hh]
  have hne:vb≠b:=fun e=>hob (by rw[e])
  by_cases hmn:m=l.length
  ·subst hmn;refine (Any2.slices_Insert_int_end_room OH b 0 l.length cap vb voff 1 cap2 [.int .i64 x] w (by omega) hroom (Nat.le_trans k2 (by decide)) rfl (fun j hj=>by rw[show 0+l.length+j=0+(l.length+j) by omega];exact hsp _ (by omega)) (fun j hj=>hfz _) hvs h1v).mono fun e2 w' ⟨h1,h2⟩=>⟨_,h1,?_⟩
   subst h2;obtain⟨arr',q1,_,q3⟩:=GM b [.int .i64 x] (0+l.length) w arr e hh
   have:=Wo (I:=I) (l':=l.take l.length++x::l.drop l.length) hh (Iq b [.int .i64 x] (0+l.length) w) (fun k hk=>HT b _ _ _ k hk) q1 q3 (cap:=cap) (by rw[hll];exact hroom) k2 hsz' (by rw[hll];omega) (fun i y hy=>by
    rcases OE (Nat.le_refl _) hy with⟨h,k⟩ |⟨h,k⟩ |⟨h,k⟩
    ·rw[I9 (.inl (by omega))];exact hcs b rfl i y k
    ·subst h k;exact Lc (j:=0) (o:=0+l.length) hh (by simp;omega) rfl |> fun z=>by simpa using z
    have:=HJ k;omega)
   rw[hll] at this;exact this
  have hn:m<l.length:=by omega
  refine (Any2.slices_Insert_int_shift OH b 0 l.length cap m vb voff 1 cap2 (ints l) [.int .i64 x] w hn (by omega) hroom (Nat.le_trans k2 (by decide)) hne (Gg l) rfl (fun j v hj=>by obtain⟨y,q,rfl⟩:=Q2 hj;rw[Nat.zero_add];exact hcs b rfl j y q) hsp (fun j _=>hfz _) hvs Ws h1v ve e varr.size arr.size (by simp[World.shape?,hv]) (by simp[World.shape?,hh]) (by omega) (by simp[World.frozen?,hv]) (by simp[World.frozen?,hv])).mono fun e2 w' ⟨h1,h2⟩=>⟨_,h1,?_⟩
  subst h2;rw[Nat.zero_add,Nat.zero_add];have hh2:w.drew.heap[b]? =some (.cells arr e (0,0)):=hh;obtain⟨arr',q1,_,q3⟩:=GM b ((ints l).drop m) (m+1) w.drew arr e hh2;obtain⟨arr2,q4,_,q6⟩:=GM b [.int .i64 x] m _ arr' e q1
  have:=Wo (I:=I) (l':=l.take m++x::l.drop m) hh (mC (w:=w.drew) (b:=b) (o:=m+1) (vs:=(ints l).drop m) (o':=m) (K5:=[.int .i64 x])) (fun k hk=>(HT b _ _ _ k hk).trans (HT b _ _ w.drew k hk)) q4 (q6.trans q3) (cap:=cap) (by rw[hll];exact hroom) k2 hsz' (by rw[hll];omega)
   (ia hm hh2 (by omega) fun i y _ hy=>hcs b rfl i y hy)
  rw[hll] at this;exact this
 have hnc:∀b,ob=some b->cap≠0->base=some ⟨b,0,none⟩:=fun b hbb h=>by
  rcases k3 with k3 |⟨b',arr,e,q,rfl,_⟩
  ·exact absurd k3 h
  have:b'=b:=Option.some.inj (Eq.trans (Eq.symm q) hbb);subst this;simp
 have hgc:=grownCap_ge w (l.length+1) cap (Es.t 3);have hgm:=grownCap_le_maxLen w (l.length+1) cap (Es.t 3) (by unfold maxLen;omega)
 by_cases hmn:m=l.length
 ·subst hmn;refine (Any2.slices_Insert_int_end_grow OH base l.length cap vb voff 1 cap2 (ints l) [.int .i64 x] w (by omega) k1 (by omega) (by omega) (Gg l) rfl (fun e=>?_) (fun a ha j v hj=>?_) hvs h1v).mono fun e2 w' ⟨h1,h2⟩=>⟨_,h1,?_⟩
  ·rcases k3 with k3 |⟨b',arr,e',q,q2,_⟩
   ·omega
   exact absurd (e.symm.trans q2) (by simp)
  ·obtain⟨y,q,rfl⟩:=Q2 hj;have:=HJ q;rcases k3 with k3 |⟨b',arr,e',q1,q2,_⟩
   ·omega
   obtain rfl:=Option.some.inj (ha.symm.trans q2);simpa [Addr.add_lit] using hcs b' q1 j y q
  subst h2;have hnew:=heap_alloc_new w.drew (.cells ((ints l++[Value.int .i64 x]).toArray++Builtin.zeroCells (Value.int IntKind.i64 0).cells (grownCap w (l.length+1) cap (Es.t 3)-(l.length+1))) (Es.t 3))
  have:=Wp (w:=w) (I:=I) (ob:=ob) (l':=l.take l.length++x::l.drop l.length) (e:=Es.t 3) hobl ⟨rfl,rfl,rfl,UU w.drew _⟩ (w':=w.drew.alloc (.cells ((ints l++[Value.int .i64 x]).toArray++Builtin.zeroCells (Value.int IntKind.i64 0).cells (grownCap w (l.length+1) cap (Es.t 3)-(l.length+1))) (Es.t 3)))
   (fun k hk=>by simp only[World.alloc,World.drew];rw[Array.getElem?_push,if_neg (by omega)]) hnew (cap:=grownCap w (l.length+1) cap (Es.t 3)) (by rw[hll];exact hgc) hgm (by simp[size_zeroCells,Gg,Value.cells];omega) (by rw[hll];omega) (fun i y hy=>by
    rw[show w.heap.size=w.drew.heap.size from rfl,World.cell?_alloc_new w.drew _ _ i];have hi:=HJ hy;rw[hll] at hi;rw[Array.getElem?_append_left (by simp[Gg];omega)];rcases OE (Nat.le_refl _) hy with⟨h,k⟩ |⟨h,k⟩ |⟨h,k⟩
    ·simp[List.getElem?_append_left (show i<(ints l).length by rw[Gg];exact h),OC k]
    ·subst h k;simp[List.getElem?_append_right,Gg]
    have:=HJ k;omega)
  rw[hll] at this;exact this
 have hn:m<l.length:=by omega
 rcases k3 with k3 |⟨b,arr,e,hbb,rfl,hh0,hsz⟩
 ·omega
 have hbb:ob=some b:=hbb;have hh:w.heap[b]? =some (.cells arr e (0,0)):=hh0;have hb0:0*T.size .i64=0:=by simp
 rw[hb0];refine (Any2.slices_Insert_int_grow OH b 0 l.length cap m vb voff 1 cap2 (ints l) [.int .i64 x] w hn (by omega) k1 (by omega) (by omega) (Gg l) rfl (fun j v hj=>by obtain⟨y,q,rfl⟩:=Q2 hj;rw[Nat.zero_add];exact hcs b hbb j y q) hvs Ws h1v).mono fun e2 w' ⟨h1,h2⟩=>⟨_,h1,?_⟩
 subst h2;obtain⟨G,hG⟩:∃z,z=grownCap w (l.length+1) cap (Es.t 3):=⟨_,rfl⟩
 rw[<-hG] at hgc hgm ⊢;obtain⟨row,hrow⟩:∃z,z=((ints l).take m).toArray++Builtin.zeroCells (Value.int IntKind.i64 0).cells (l.length+1-m)++Builtin.zeroCells (Value.int IntKind.i64 0).cells (G-(l.length+1)):=⟨_,rfl⟩
 rw[<-hrow];have hrs:row.size=G:=by rw[hrow];simp[size_zeroCells,Gg,Value.cells];omega
 have hrow1:∀i y,i<m->l[i]? =some y->row[i]? =some (.int .i64 y):=fun i y hi hy=>by
  rw[hrow,Array.append_assoc,Array.getElem?_append_left (by simp[Gg];omega)];simp[List.getElem?_take,hi,OC hy]
 obtain⟨W,hW⟩:∃z,z=w.alloc (.cells row (Es.t 3)):=⟨_,rfl⟩
 rw[<-hW];have hWh:W.heap[w.heap.size]? =some (.cells row (Es.t 3) (0,0)):=by rw[hW];exact heap_alloc_new w _
 have hc0:∀i,W.cell? ⟨w.heap.size,i,none⟩=row[i]? :=fun i=>by rw[hW];exact World.cell?_alloc_new w row (Es.t 3) i
 have hd:((ints l).drop m).length=l.length-m:=by rw[List.length_drop,Gg]
 have hWo:∀k,k<w.heap.size->W.heap[k]? =w.heap[k]? :=fun k hk=>by rw[hW];simp only[World.alloc];rw[Array.getElem?_push,if_neg (by omega)]
 have hWs:W.os=w.os/\W.tape=w.tape/\W.output=w.output/\w.heap.size<=W.heap.size:=by rw[hW];exact⟨rfl,rfl,rfl,UU w _⟩
 obtain⟨X,hX⟩:∃z,z=W.drew.setCells w.heap.size m [Value.int .i64 x]:=⟨_,rfl⟩
 rw[<-hX];obtain⟨arr1,q1,_,q3⟩:=GM w.heap.size [.int .i64 x] m W.drew row (Es.t 3) hWh;rw[<-hX] at q1;have q1':X.drew.heap[w.heap.size]? =some (.cells arr1 (Es.t 3) (0,0)):=q1;obtain⟨arr2,q4,_,q6⟩:=GM w.heap.size ((ints l).drop m) (m+1) X.drew arr1 (Es.t 3) q1';obtain⟨a1,a2,a3,a4⟩:=Iq w.heap.size [.int .i64 x] m W.drew;rw[<-hX] at a1 a2 a3 a4;obtain⟨b1,b2,b3,b4⟩:=Iq w.heap.size ((ints l).drop m) (m+1) X.drew
 have:=Wp (w:=w) (I:=I) (ob:=ob) (l':=l.take m++x::l.drop m) (e:=Es.t 3) hobl (w':=X.drew.setCells w.heap.size (m+1) ((ints l).drop m)) ⟨b1.trans (a1.trans hWs.1),b2.trans (a2.trans hWs.2.1),b3.trans (a3.trans hWs.2.2.1),by rw[b4];exact Nat.le_trans hWs.2.2.2 (Nat.le_of_eq a4.symm)⟩
  (fun k hk=>(HT _ _ _ X.drew k (by omega)).trans (by show X.heap[k]? =_;rw[hX];exact (HT _ _ _ W.drew k (by omega)).trans (hWo k hk))) q4 (cap:=G) (by rw[hll];exact hgc) hgm (by omega) (by rw[hll];omega) (fun i y hy=>by
   rcases OE hm hy with⟨h,k⟩ |⟨h,k⟩ |⟨h,k⟩
   ·rw[I9 (.inl (by omega))];show X.cell? _=_;rw[hX,I9 (.inl h)];exact (hc0 i).trans (hrow1 i y h k)
   ·subst h k;rw[I9 (.inl (by omega))];show X.cell? _=_;rw[hX];exact Lc (j:=0) (w:=W.drew) hWh (by simp;omega) rfl
   have hi:=HJ k;have:=Lc (w:=X.drew) (b:=w.heap.size) (o:=m+1) (vs:=(ints l).drop m) (j:=i-(m+1)) (v:= .int .i64 y) q1' (by omega) (by rw[List.getElem?_drop,show m+(i-(m+1))=i-1 by omega];exact OC k);rwa [show m+1+(i-(m+1))=i by omega] at this)
 rw[hll] at this;exact this
end Go.Abs
