/- Part 42 of a proof. Conditions: each theorem's own. -/
import Derived.Test.YtmhbikooakmagaaGreatRk39
import Derived.Test.YtmhbikooakmagaaGreatRk40
set_option linter.all false
set_option maxHeartbeats 80000000
set_option maxRecDepth 20000
open Go.Proofs
namespace Go.Abs
def Jl (pp:Int->Re×Re) (d:List Int) (i:Nat):Prop:=∀a b x y z,a<i->a<b->d[a]? =some x->d[b]? =some y->d[0]? =some z->(a=0->¬lx (pp y) (pp x))/\(0<a->0<=AZ (pp z) (pp x) (pp y))
def Jk (pp:Int->Re×Re) (d:List Int) (i k:Nat):Prop:=∀b x y z,i<b->b<k->d[i]? =some x->d[b]? =some y->d[0]? =some z->(i=0->¬lx (pp y) (pp x))/\(0<i->0<=AZ (pp z) (pp x) (pp y))
theorem nY {pp:Int->Re×Re} {d:List Int} {i k:Nat} (h:Jl pp d i) (m:Jk pp d i k) (n:d.length<=k):Jl pp d (i+1):=by
 intro a b x y z ha f h3 g l;rcases Nat.lt_or_ge a i with q | q
 ·exact h a b x y z q f h3 g l
 obtain rfl:a=i:=by omega
 have hb:=Eu g;exact m b x y z f (by omega) h3 g l
theorem nV {pp:Int->Re×Re} {d:List Int} {i k:Nat} {x y z:Int} (g:Jk pp d i k) (m:d[i]? =some x) (n:d[k]? =some y) (p:d[0]? =some z) (h:(i=0->¬lx (pp y) (pp x))/\(0<i->0<=AZ (pp z) (pp x) (pp y))):Jk pp d i (k+1):=by
 intro b x' y' z' hb l h3 a f;rcases Nat.lt_or_ge b k with q | q
 ·exact g b x' y' z' hb q h3 a f
 obtain rfl:b=k:=by omega
 obtain rfl:=Option.some.inj (h3.symm.trans m);obtain rfl:=Option.some.inj (a.symm.trans n);obtain rfl:=Option.some.inj (f.symm.trans p);exact h
section
variable {d:List Int} {i k:Nat} {x y:Int}
theorem O3 (a:i<k) (b:k<d.length):((d.set i y).set k x)[i]? =some y:=by
 rw[List.getElem?_set_ne (by omega),List.getElem?_set_self (by omega)]
theorem O4 (a:k<d.length):((d.set i y).set k x)[k]? =some x:=by
 rw[List.getElem?_set_self (by rw[List.length_set];exact a)]
theorem Mg {b:Nat} (a:b≠i) (f:b≠k):((d.set i y).set k x)[b]? =d[b]? :=by
 rw[List.getElem?_set_ne (fun e=>f e.symm),List.getElem?_set_ne (fun e=>a e.symm)]
theorem nj (g:i<k) (n:d[i]? =some x) (m:d[k]? =some y) (u:Int):u∈(d.set i y).set k x↔u∈d:=by
 have l:=Eu m
 constructor
 ·intro h;obtain⟨b,hb⟩:=List.getElem?_of_mem h
  by_cases a:b=k
  ·subst a;rw[O4 l] at hb;rw[<-Option.some.inj hb];exact List.mem_of_getElem? n
  by_cases f:b=i
  ·subst f;rw[O3 g l] at hb;rw[<-Option.some.inj hb];exact List.mem_of_getElem? m
  rw[Mg f a] at hb;exact List.mem_of_getElem? hb
 intro h;obtain⟨b,hb⟩:=List.getElem?_of_mem h
 by_cases a:b=k
 ·subst a;rw[<-Option.some.inj (m.symm.trans hb)];exact List.mem_of_getElem? (O3 (x:=x) g l)
 by_cases f:b=i
 ·subst f;rw[<-Option.some.inj (n.symm.trans hb)];exact List.mem_of_getElem? (O4 (i:=b) (y:=y) l)
 rw[<-Mg (x:=x) (y:=y) f a] at hb;exact List.mem_of_getElem? hb
end
theorem nX {pp:Int->Re×Re} {d:List Int} {i k:Nat} {x y:Int} (h:Jl pp d i) (n:i<k) (t:d[i]? =some x) (s:d[k]? =some y):Jl pp ((d.set i y).set k x) i:=by
 have r:=Eu s;intro a b u v z ha l h3 f g;have m:∀c,c≠i->c≠k->((d.set i y).set k x)[c]? =d[c]? :=fun c=>Mg
 rw[m a (by omega) (by omega)] at h3;rw[m 0 (by omega) (by omega)] at g
 by_cases p:b=k
 ·subst p;rw[O4 r] at f;obtain rfl:=Option.some.inj f;exact h a i u x z ha ha h3 t g
 by_cases q:b=i
 ·subst q;rw[O3 n r] at f;obtain rfl:=Option.some.inj f;exact h a k u y z ha (by omega) h3 s g
 rw[m b q p] at f;exact h a b u v z ha l h3 f g
theorem nW {pp:Int->Re×Re} {d:List Int} {i k:Nat} {x y z:Int} (G:∀q∈d,0<i->pp q=pp z\/lx (pp z) (pp q)) (C:Jk pp d i k) (l:i<k) (A:d[i]? =some x) (B:d[k]? =some y) (p:d[0]? =some z)
  (h:(i=0->lx (pp y) (pp x))/\(0<i->AZ (pp z) (pp x) (pp y)<0)):Jk pp ((d.set i y).set k x) i (k+1):=by
 have t:=Eu B;intro b u v w hb D h3 a s;rw[O3 l t] at h3;obtain rfl:=Option.some.inj h3;have hw:0<i->w=z:=fun hi=>by rw[Mg (by omega) (by omega)] at s;exact Option.some.inj (s.symm.trans p)
 by_cases r:b=k
 ·subst r;rw[O4 t] at a;obtain rfl:=Option.some.inj a;exact⟨fun hi k'=>Fw (Fx k' (h.1 hi)),fun hi=>by rw[hw hi];have:=h.2 hi;have:=MC (pp z) (pp y) (pp x);grind⟩
 rw[Mg (by omega) r] at a;have g:=C b x v z hb (by omega) A a p;refine⟨fun hi k'=>g.1 hi (Fx k' (h.1 hi)),fun hi=>?_⟩;rw[hw hi];have g2:=g.2 hi;have e:=h.2 hi;have f:0<AZ (pp z) (pp y) (pp x):=by have:=MC (pp z) (pp y) (pp x);grind
 have n:∀{q:Int},q∈d->lx (pp z) (pp q)\/pp q=pp z:=fun F=>(G _ F hi).symm
 rcases n (List.mem_of_getElem? B) with k1 | k1
 ·rcases n (List.mem_of_getElem? A) with k2 | k2
  ·rcases n (List.mem_of_getElem? a) with m | m
   ·exact YS k1 k2 m (DL f) g2
   rw[m,Ic];exact Std.le_refl _
  rw[k2,Ic] at f;exfalso;grind
 rw[k1,Rv] at f;exfalso;grind
theorem nU {pp:Int->Re×Re} {S d:List Int} (n:(S.map pp).Pairwise lx) (B:d.Nodup) (hm:∀x,x∈d↔x∈S/\Ext (fun q=>q∈S.map pp) (pp x)) (hs:Jl pp d d.length) (D:∀z,z∈d->(∀q∈d,pp q=pp z\/lx (pp z) (pp q))->∀q∈S,pp q=pp z\/lx (pp z) (pp q)) (h:d=[]->S=[]):Iz pp S d:=by
 refine⟨hm,?_⟩;cases d with
 | nil=>exact .inl (h rfl)
 | cons z W=>
  right
  have f:=List.nodup_cons.1 B
  have r:∀q∈z::W,pp q=pp z\/lx (pp z) (pp q):=fun q a=>by
   rcases List.mem_cons.1 a with e | e
   ·left;rw[e]
   obtain⟨b,hb⟩:=List.getElem?_of_mem e;have:=(hs 0 (b+1) z q z (by simp) (by omega) rfl (by rw[List.getElem?_cons_succ];exact hb) rfl).1 rfl;rcases Ly (pp q) (pp z) with k | k | k
   ·exact absurd k this
   ·exact .inl k
   exact .inr k
  have l:=D z (by simp) r
  have hw:∀q∈W,lx (pp z) (pp q):=fun q a=>by
   rcases r q (List.mem_cons_of_mem _ a) with k | k
   ·have:=Lo n q ((hm q).1 (List.mem_cons_of_mem _ a)).1 z ((hm z).1 (by simp)).1 k;rw[this] at a;exact absurd a f.1
   exact k
  refine⟨z,W,rfl,l,hw,?_⟩;rw[List.pairwise_iff_getElem];intro i j hi p C;have v:(z::W)[i+1]? =some W[i]:=by rw[List.getElem?_cons_succ];exact List.getElem?_eq_getElem hi
  have w:(z::W)[j+1]? =some W[j]:=by rw[List.getElem?_cons_succ];exact List.getElem?_eq_getElem p
  have g:=(hs (i+1) (j+1) W[i] W[j] z (by simp;omega) (by omega) v w rfl).2 (by omega);rcases Classical.em (0<AZ (pp z) (pp W[i]) (pp W[j])) with k | k
  ·exact k
  exfalso
  have A:AZ (pp z) (pp W[i]) (pp W[j])=0:=by grind
  have s:W[i]∈W:=List.getElem_mem hi;have t:W[j]∈W:=List.getElem_mem p;have xi:=(hm W[i]).1 (List.mem_cons_of_mem _ s);have m:=(hm W[j]).1 (List.mem_cons_of_mem _ t);have u:=(hm z).1 (by simp);rcases Ly (pp W[i]) (pp W[j]) with q | q | q
  ·exact xi.2.1 (pp z) (pp W[j]) (List.mem_map_of_mem u.1) (List.mem_map_of_mem m.1) (QH (by have:=MC (pp z) (pp W[i]) (pp W[j]);grind) (hw _ s) q)
  ·have:=Lo n _ xi.1 _ m.1 q;have:=(List.getElem_inj f.2).1 this;omega
  exact m.2.1 (pp z) (pp W[i]) (List.mem_map_of_mem u.1) (List.mem_map_of_mem xi.1) (QH A (hw _ t) q)
open Go.RowKit
def Bl (px py:Nat->Re) (i:Int):Re×Re:=(px i.toNat,py i.toNat)
theorem fg {a b c d:Re}:GB a b c d=0↔((a,b):Re×Re)=(c,d):=by
 unfold GB;rw[Prod.mk.injEq]
 split
 ·rename_i h
  have:=EP.1 h;rw[EP];exact⟨fun z=>⟨by grind,by grind⟩,fun z=>by grind⟩
 rename_i h
 exact⟨fun z=>absurd z h,fun z=>absurd (EP.2 (show a-c=0 by grind)) h⟩
theorem Mc {x:Re}:An x<0↔x<0:=by
 rcases Df x with⟨a,b⟩ |⟨a,b⟩ |⟨a,b⟩
 ·exact⟨fun _=>a,fun _=>by omega⟩
 ·exact⟨fun h=>by omega,fun h=>by exfalso;grind⟩
 exact⟨fun h=>by omega,fun h=>by exfalso;grind⟩
theorem mI {x:Re}:0<An x↔0<x:=by
 rcases Df x with⟨a,b⟩ |⟨a,b⟩ |⟨a,b⟩
 ·exact⟨fun h=>by omega,fun h=>by exfalso;grind⟩
 ·exact⟨fun h=>by omega,fun h=>by exfalso;grind⟩
 exact⟨fun _=>a,fun _=>by omega⟩
theorem QP {a b c d:Re}:GB a b c d<0↔lx (a,b) (c,d):=by
 unfold GB lx
 split
 ·rename_i h
  have:=EP.1 h;rw[Mc];exact⟨fun z=> .inr ⟨by grind,by grind⟩,fun z=>by rcases z with z |⟨_,z⟩ <;> grind⟩
 rename_i h
 rw[Mc];have f:a≠c:=fun e=>h (EP.2 (by grind))
 exact⟨fun z=> .inl (by grind),fun z=>by rcases z with z |⟨z,_⟩ <;> grind⟩
theorem QJ (px py:Nat->Re):Hy (Bl px py) (DH px py) (Da px py):=⟨fun a b=>fg,fun a b=>QP,fun a b c=>by unfold Da;rw[mI,MA];exact Iff.rfl⟩
structure Eb (px py:Nat->Re) (Q:List (el Ai)) (o:List Int) (p:List (el Ai)) (i:Nat):Prop where
 mem:∀x,x∈o↔∃k:Nat,x=k/\k<i/\∀j:Nat,j<k->Bl px py j≠Bl px py k
 nd:o.Nodup
 len:o.length<=i
 sub:∀(k:Nat) (x:el Ai),p[k]? =some x->∃a:Int,o[k]? =some a/\Q[a.toNat]? =some x
 eq:p.length=o.length
theorem Eb.skip {px py:Nat->Re} {Q:List (el Ai)} {o:List Int} {p:List (el Ai)} {i:Nat} (h:Eb px py Q o p i) (he:∃(j:Nat) (a:Int),o[j]? =some a/\Bl px py a=Bl px py i):Eb px py Q o p (i+1):=by
 obtain⟨j,a,g,l⟩:=he;obtain⟨k',e,m,_⟩:=(h.mem a).1 (List.mem_of_getElem? g);subst e;refine⟨fun x=>?_,h.nd,by have:=h.len;omega,h.sub,h.eq⟩;rw[h.mem]
 constructor
 ·rintro⟨k,f,b',b⟩;exact⟨k,f,by omega,b⟩
 rintro⟨k,f,b',b⟩
 refine⟨k,f,?_,b⟩;rcases Nat.lt_or_ge k i with q | q
 ·exact q
 obtain rfl:k=i:=by omega
 exact absurd l (b k' m)
theorem Eb.add {px py:Nat->Re} {Q:List (el Ai)} {o:List Int} {p:List (el Ai)} {i:Nat} {x:el Ai} (h:Eb px py Q o p i) (v:Q[i]? =some x) (he:¬∃(j:Nat) (a:Int),o[j]? =some a/\Bl px py a=Bl px py i):Eb px py Q (o++[(i:Int)]) (p++[x]) (i+1):=by
 have first:∀m:Nat,m<i->∃k:Nat,k<=m/\Bl px py k=Bl px py m/\∀j:Nat,j<k->Bl px py j≠Bl px py k:=by
  intro m
  induction m using Nat.strongRecOn with
  | _ m w=>
   intro hm;rcases Classical.em (∃j:Nat,j<m/\Bl px py j=Bl px py m) with⟨j,g,e⟩ | h
   ·obtain⟨k,a,b,c⟩:=w j g (by omega);exact⟨k,by omega,b.trans e,c⟩
   exact⟨m,Nat.le_refl _,rfl,fun j g e=>h ⟨j,g,e⟩⟩
 have t:∀j:Nat,j<i->Bl px py j≠Bl px py i:=fun j g e=>by
  obtain⟨k,a,b,c⟩:=first j g
  obtain⟨q,u⟩:=List.getElem?_of_mem ((h.mem k).2 ⟨k,rfl,by omega,c⟩);exact he ⟨q,k,u,b.trans e⟩
 have n:(i:Int) ∉ o:=fun hi=>by
  obtain⟨k,e,f,_⟩:=(h.mem i).1 hi;omega
 refine⟨fun y=>?_,?_,by rw[List.length_append,List.length_singleton];have:=h.len;omega,fun k y f=>?_,by rw[List.length_append,List.length_append,h.eq];rfl⟩
 ·rw[List.mem_append,List.mem_singleton,h.mem]
  constructor
  ·rintro (⟨k,a,b,c⟩ | e)
   ·exact⟨k,a,by omega,c⟩
   exact⟨i,e,by omega,t⟩
  rintro⟨k,a,b,c⟩
  rcases Nat.lt_or_ge k i with q | q
  ·exact .inl ⟨k,a,q,c⟩
  right;rw[a];congr 1;omega
 ·rw[List.nodup_append];exact⟨h.nd,by simp,fun a ha b hb e=>n (by rw[List.mem_singleton.1 hb] at e;rw[<-e];exact ha)⟩
 rcases Nat.lt_or_ge k p.length with q | q
 ·rw[List.getElem?_append_left q] at f;obtain⟨a,r,s⟩:=h.sub k y f;exact⟨a,by rw[List.getElem?_append_left (by rw[<-h.eq];exact q)];exact r,s⟩
 have l:=Eu f;rw[List.length_append,List.length_singleton] at l;obtain rfl:k=p.length:=by omega
 rw[List.getElem?_append_right (Nat.le_refl _),Nat.sub_self] at f;obtain rfl:x=y:=Option.some.inj f;exact⟨i,by rw[List.getElem?_append_right (by rw[h.eq];exact Nat.le_refl _),h.eq,Nat.sub_self];rfl,by rw[show ((i:Int)).toNat=i by omega];exact v⟩
theorem Eb.same {px py:Nat->Re} {Q:List (el Ai)} {o:List Int} {p:List (el Ai)} {i:Nat} (h:Eb px py Q o p i) (x:Int):x∈o↔x∈CL (DH px py) i:=by
 rw[h.mem,(Me (QJ px py) i).2]
theorem Eb.inj {px py:Nat->Re} {Q:List (el Ai)} {o:List Int} {p:List (el Ai)} {i:Nat} (h:Eb px py Q o p i) {a b:Int} (ha:a∈o) (hb:b∈o) (e:Bl px py a=Bl px py b):a=b:=
 Lo (Me (QJ px py) i).1 a ((h.same a).1 ha) b ((h.same b).1 hb) e
def CH (px:Nat->Re) (o:List Int) (k:Nat):Re:=px (o.getD k 0).toNat
theorem Eb.JM {TT:List (List Rat)->Prop} {w:List (List Rat)} {px py:Nat->Re} {Q:List (el Ai)} {o:List Int} {p:List (el Ai)} {i:Nat} (h:Eb px py Q o p i) {b k:Nat} (l:Fl TT w b k Q px py):Fl TT w b k p (CH px o) (CH py o):=fun j x m=>by
 obtain⟨a,f,g⟩:=h.sub j x m;have e:o.getD j 0=a:=by rw[List.getD_eq_getElem?_getD,f];rfl
 unfold CH;rw[e];exact l _ _ g
theorem VZ {px py:Nat->Re} {Q:List (el Ai)} {o:List Int} {p:List (el Ai)} {i:Nat} (h:Eb px py Q o p i) {c:Nat} {z:Int} (t:o[c]? =some z):Je (CH px o) (CH py o) o.length c↔Ext (fun q=>q∈o.map (Bl px py)) (Bl px py z):=by
 have s:∀j a,o[j]? =some a->((CH px o j,CH py o j):Re×Re)=Bl px py a:=fun j a u=>by
  have e:o.getD j 0=a:=by rw[List.getD_eq_getElem?_getD,u];rfl
  unfold CH Bl;rw[e]
 have v:∀j a,o[j]? =some a->c≠j->Bl px py a≠Bl px py z:=fun j a u S e=>by
  have:=h.inj (List.mem_of_getElem? u) (List.mem_of_getElem? t) e;subst this;have T:=Eu u;have U:=Eu t;have P:=(List.getElem?_eq_getElem T).symm.trans u;have R:=(List.getElem?_eq_getElem U).symm.trans t;exact S ((List.getElem_inj h.nd).1 (Option.some.inj (R.trans P.symm)))
 have L:=s c z t
 have O:∀{a b x:Re×Re},bt a b x->a≠x/\b≠x/\a≠b:=fun {a b x} k=>by
  have k2:=k.2;refine⟨fun e=>?_,fun e=>?_,fun e=>?_⟩
  ·subst e;grind
  ·subst e;grind
  subst e;have:=Re.Fi (a.1-x.1);have:=Re.Fi (a.2-x.2)
  grind
 have G:∀{a b x:Re×Re},a≠x->b≠x->(GO a.1 a.2 b.1 b.2 x.1 x.2↔bt a b x):=fun {a b x} ha hb=>by
  unfold GO bt;rw[MA,EP,Mc];exact⟨fun k=>(k.resolve_left (fun e=>ha (Prod.ext e.1 e.2))).resolve_left (fun e=>hb (Prod.ext e.1 e.2)),fun k=> .inr (.inr k)⟩
 have V:∀{a b d x:Re×Re},ins a b d x->a≠b/\b≠d/\d≠a/\a≠x/\b≠x/\d≠x:=fun {a b d x} k=>by
  unfold ins at k;refine⟨fun e=>?_,fun e=>?_,fun e=>?_,fun e=>?_,fun e=>?_,fun e=>?_⟩ <;> subst e <;> unfold AZ at k <;> rcases k with⟨k1,k2,k3⟩ |⟨k1,k2,k3⟩ <;> grind
 constructor
 ·intro hC
  have key:∀{j k:Nat} {a b:Int},k<j->o[j]? =some a->o[k]? =some b->c≠j->c≠k->¬bt (Bl px py a) (Bl px py b) (Bl px py z)/\∀m d,m<k->m≠c->o[m]? =some d->¬ins (Bl px py a) (Bl px py b) (Bl px py d) (Bl px py z):=fun {j k a b} Z g l w A=>by
   obtain⟨g1,g2⟩:=hC j k (Eu g) Z w A;refine⟨fun q=>g1 ?_,fun m d hm H h3 q=>g2 m hm H ?_⟩
   ·have:=(G (v j a g w) (v k b l A)).2 q;rw[<-s j a g,<-s k b l,<-L] at this;exact this
   rw[<-s j a g,<-s k b l,<-s m d h3,<-L] at q;exact q
  have idx:∀{q:Re×Re},q∈o.map (Bl px py)->∃j a,o[j]? =some a/\q=Bl px py a:=fun {q} hq=>by
   obtain⟨a,ha,e⟩:=List.mem_map.1 hq;obtain⟨j,u⟩:=List.getElem?_of_mem ha;exact⟨j,a,u,e.symm⟩
  have n:∀{j k:Nat} {a b:Int},o[j]? =some a->o[k]? =some b->Bl px py a≠Bl px py b->j≠k:=fun {j k a b} g l hn e=>by subst e;rw[Option.some.inj (g.symm.trans l)] at hn;exact hn rfl
  refine⟨fun a b ha hb B=>?_,fun a b d ha hb hd hi=>?_⟩
  ·obtain⟨j,M,g,rfl⟩:=idx ha;obtain⟨k,b',l,rfl⟩:=idx hb;obtain⟨w,A,W⟩:=O B;have d1:=n t g (fun e=>w e.symm);have d2:=n t l (fun e=>A e.symm);have d3:=n g l W;rcases Nat.lt_or_gt_of_ne d3 with q | q
   ·exact (key q l g d2 d1).1 (fO B)
   exact (key q g l d1 d2).1 B
  obtain⟨j,M,g,rfl⟩:=idx ha;obtain⟨k,b',l,rfl⟩:=idx hb;obtain⟨m,X,h3,rfl⟩:=idx hd;obtain⟨w,A,W,n4,n5,n6⟩:=V hi;have c1:=n t g (fun e=>n4 e.symm);have c2:=n t l (fun e=>n5 e.symm);have F:=n t h3 (fun e=>n6 e.symm);have P:=n g l w;have R:=n l h3 A;have e3:=n h3 g W
  have r:∀{a b d x:Re×Re},ins a b d x->ins b d a x:=fun {a b d x} k=>by
   rcases k with⟨x1,x2,K⟩ |⟨x1,x2,K⟩
   ·exact .inl ⟨x2,K,x1⟩
   exact .inr ⟨x2,K,x1⟩
  have C:∀{a b d x:Re×Re},ins a b d x->ins b a d x:=fun {a b d x} k=>by
   have s1:=MB a b x;have s2:=MB b d x;have s3:=MB d a x;rcases k with⟨x1,x2,K⟩ |⟨x1,x2,K⟩
   ·exact .inr ⟨by grind,by grind,by grind⟩
   exact .inl ⟨by grind,by grind,by grind⟩
  rcases Nat.lt_or_gt_of_ne P with I | I <;> rcases Nat.lt_or_gt_of_ne R with J | J <;> rcases Nat.lt_or_gt_of_ne e3 with D | D
  ·exact absurd D (by omega)
  ·exact (key J h3 l F c2).2 j M I c1.symm g (r (r (C hi)))
  ·exact (key I l g c2 c1).2 m X D F.symm h3 (C hi)
  ·exact (key J l h3 c2 F).2 j M D c1.symm g (r hi)
  ·exact (key D g h3 c1 F).2 k b' J c2.symm l (r (C hi))
  ·exact (key D h3 g F c1).2 k b' I c2.symm l (r (r hi))
  ·exact (key I g l c1 c2).2 m X J F.symm h3 hi
  exact absurd D (by omega)
 intro Y j k u Z w A;obtain⟨a,g⟩:∃a,o[j]? =some a:=⟨_,List.getElem?_eq_getElem u⟩
 obtain⟨b,l⟩:∃b,o[k]? =some b:=⟨_,List.getElem?_eq_getElem (by omega)⟩
 have ma:=List.mem_map_of_mem (f:=Bl px py) (List.mem_of_getElem? g);have mb:=List.mem_map_of_mem (f:=Bl px py) (List.mem_of_getElem? l);refine⟨fun q=>Y.1 _ _ ma mb ?_,fun m hm H q=>?_⟩
 ·refine (G (v j a g w) (v k b l A)).1 ?_;rw[<-s j a g,<-s k b l,<-L];exact q
 obtain⟨d,h3⟩:∃d,o[m]? =some d:=⟨_,List.getElem?_eq_getElem (by omega)⟩
 refine Y.2 _ _ _ ma mb (List.mem_map_of_mem (f:=Bl px py) (List.mem_of_getElem? h3)) ?_;rw[<-s j a g,<-s k b l,<-s m d h3,<-L];exact q
theorem Eb.zero {px py:Nat->Re} {Q:List (el Ai)}:Eb px py Q [] [] 0:=⟨fun x=>⟨fun h=>by simp at h,fun⟨k,_,h,_⟩=>absurd h (by omega)⟩,List.nodup_nil,Nat.le_refl _,fun k x h=>by simp at h,rfl⟩
structure FP (px py:Nat->Re) (o:List Int) (N:Nat) (d:List Int) (c:Nat):Prop where
 mem:∀x,x∈d↔∃k:Nat,x=k/\k<c/\Je (CH px o) (CH py o) N k
 nd:d.Nodup
 len:d.length<=c
section
variable {px py:Nat->Re} {o d:List Int} {N c i k:Nat} {x y z:Int}
theorem FP.zero:FP px py o N [] 0:=⟨fun x=>⟨fun h=>by simp at h,fun⟨k,_,h,_⟩=>absurd h (by omega)⟩,List.nodup_nil,Nat.le_refl _⟩
theorem FP.no (h:FP px py o N d c) (f:¬Je (CH px o) (CH py o) N c):FP px py o N d (c+1):=by
 refine⟨fun x=>?_,h.nd,by have:=h.len;omega⟩;rw[h.mem]
 constructor
 ·rintro⟨k,a,b,e⟩;exact⟨k,a,by omega,e⟩
 rintro⟨k,a,b,e⟩
 refine⟨k,a,?_,e⟩;rcases Nat.lt_or_ge k c with q | q
 ·exact q
 obtain rfl:k=c:=by omega
 exact absurd e f
theorem FP.yes (h:FP px py o N d c) (f:Je (CH px o) (CH py o) N c) (g:z=c):FP px py o N (d++[z]) (c+1):=by
 subst g;refine⟨fun x=>?_,?_,by rw[List.length_append,List.length_singleton];have:=h.len;omega⟩
 ·rw[List.mem_append,List.mem_singleton,h.mem]
  constructor
  ·rintro (⟨k,a,b,e⟩ | e)
   ·exact⟨k,a,by omega,e⟩
   exact⟨c,e,by omega,f⟩
  rintro⟨k,a,b,e⟩
  rcases Nat.lt_or_ge k c with q | q
  ·exact .inl ⟨k,a,q,e⟩
  right;rw[a];congr 1;omega
 rw[List.nodup_append];refine⟨h.nd,by simp,fun a ha b hb e=>?_⟩;rw[List.mem_singleton.1 hb] at e;obtain⟨k,l,m,_⟩:=(h.mem a).1 ha;omega
theorem FP.lt (h:FP px py o N d c) (a:x∈d):0<=x/\x<c:=by
 obtain⟨k,e,b,_⟩:=(h.mem x).1 a;omega
structure Ey (px py:Nat->Re) (o:List Int) (N:Nat) (d:List Int) (i k:Nat):Prop where
 c:FP px py o N d N
 lo:Jl (Bl (CH px o) (CH py o)) d i
 hi:Jk (Bl (CH px o) (CH py o)) d i k
theorem Ey.no (h:Ey px py o N d i k) (b:d[i]? =some x) (f:d[k]? =some y) (g:d[0]? =some z) (a:(i=0->¬DH (CH px o) (CH py o) y x<0)/\(0<i->¬Da (CH px o) (CH py o) z x y<0)):Ey px py o N d i (k+1):=by
 refine⟨h.c,h.lo,nV h.hi b f g ⟨fun e q=>a.1 e (QP.2 q),fun e=>?_⟩⟩;have:=a.2 e;unfold Da at this;rw[Mc,MA] at this
 show 0<=AZ (_,_) (_,_) (_,_)
 grind
theorem Ey.sw (h:Ey px py o N d i k) (a:i<k) (l:d[i]? =some x) (f:d[k]? =some y) (m:d[0]? =some z) (p:(i=0->DH (CH px o) (CH py o) y x<0)/\(0<i->Da (CH px o) (CH py o) z x y<0)):Ey px py o N ((d.set i y).set k x) i (k+1):=by
 have n:=Eu f;refine⟨⟨fun u=>(nj a l f u).trans (h.c.mem u),?_,by rw[List.length_set,List.length_set];exact h.c.len⟩,nX h.lo a l f,nW (z:=z) (fun q t hi=>?_) h.hi a l f m ⟨fun e=>QP.1 (p.1 e),fun e=>?_⟩⟩
 ·have r:d[i]'(by omega)=x:=Option.some.inj ((List.getElem?_eq_getElem (by omega)).symm.trans l);have s:d[k]'n=y:=Option.some.inj ((List.getElem?_eq_getElem n).symm.trans f);have:=List.set_set_perm («as»:=d) (i:=i) (j:=k) (by omega) n;rw[r,s] at this;exact this.nodup_iff.2 h.c.nd
 ·obtain⟨b,hb⟩:=List.getElem?_of_mem t;rcases Nat.eq_zero_or_pos b with e | e
  ·subst e;rw[Option.some.inj (hb.symm.trans m)];exact .inl rfl
  have:=(h.lo 0 b z q z hi e m hb m).1 rfl;rcases Ly (Bl (CH px o) (CH py o) z) (Bl (CH px o) (CH py o) q) with g | g | g
  ·exact .inr g
  ·exact .inl g.symm
  exact absurd g this
 have:=p.2 e;unfold Da at this;rw[Mc,MA] at this;exact this
theorem Ey.up (h:Ey px py o N d i k) (f:d.length<=k):Ey px py o N d (i+1) (i+1+1):=
 ⟨h.c,nY h.lo h.hi f,fun b x y z a g=>absurd a (by omega)⟩
theorem Ey.zero (h:FP px py o N d N):Ey px py o N d 0 1:=⟨h,fun a b x y z f=>absurd f (by omega),fun b x y z f g=>absurd f (by omega)⟩
end
theorem Z9 {px py:Nat->Re} {Q:List (el Ai)} {o d:List Int} {p:List (el Ai)} {n i k:Nat} (h:Eb px py Q o p n) (hs:Ey px py o p.length d i k) (hi:d.length<=i):d.map (fun x=>o.getD x.toNat 0)=Gd (DH px py) (Da px py) n:=by
 have I:=QJ px py;obtain⟨J,T⟩:=Me I n
 have F:∀x,x∈d->∃a,o[x.toNat]? =some a/\o.getD x.toNat 0=a:=fun x H=>by
  obtain⟨k',e,U,_⟩:=(hs.c.mem x).1 H;obtain⟨a,ha⟩:=AK (l:=o) (i:=x.toNat) (by rw[<-h.eq];omega);exact⟨a,ha,by rw[List.getD_eq_getElem?_getD,ha];rfl⟩
 have v:∀q,q∈o.map (Bl px py)↔q∈(CL (DH px py) n).map (Bl px py):=fun q=>by
  rw[List.mem_map,List.mem_map];exact⟨fun⟨a,b,c⟩=>⟨a,(h.same a).1 b,c⟩,fun⟨a,b,c⟩=>⟨a,(h.same a).2 b,c⟩⟩
 have G:(fun q=>q∈o.map (Bl px py))=fun q=>q∈(CL (DH px py) n).map (Bl px py):=funext fun q=>propext (v q)
 have hm:∀x,x∈d.map (fun x=>o.getD x.toNat 0)↔x∈CL (DH px py) n/\Ext (fun q=>q∈(CL (DH px py) n).map (Bl px py)) (Bl px py x):=fun x=>by
  rw[List.mem_map,<-G,<-h.same]
  constructor
  ·rintro⟨y,L,e⟩
   obtain⟨a,ha,m⟩:=F y L;obtain⟨k',B,U,t⟩:=(hs.c.mem y).1 L;have C:x=a:=e.symm.trans m;subst C;refine⟨List.mem_of_getElem? ha,(VZ h (c:=k') (by rw[<-ha,B];rfl)).1 (by rw[<-h.eq];exact t)⟩
  rintro⟨H,S⟩
  obtain⟨c,t⟩:=List.getElem?_of_mem H;have:=(VZ h t).2 S;have D:=Eu t;refine⟨(c:Int),(hs.c.mem _).2 ⟨c,rfl,by rw[h.eq];exact D,by rw[h.eq];exact this⟩,?_⟩;rw[show ((c:Int)).toNat=c by omega,List.getD_eq_getElem?_getD,t];rfl
 have A:=iJ I n;have u:∀z W,Gd (DH px py) (Da px py) n=z::W->z∈d.map (fun x=>o.getD x.toNat 0):=fun z W e=>(hm z).2 ((A.mem z).1 (by rw[e];simp))
 refine Iz.uniq J (nU J ?_ hm ?_ ?_ ?_) A
 ·refine List.Pairwise.map _ (R:=fun a b=>a∈d/\b∈d/\a≠b) (fun a b r e=>?_) ?_
  ·obtain⟨ha,hb,V⟩:=r;obtain⟨M,s,w⟩:=F a ha;obtain⟨b',h3,P⟩:=F b hb;have m:M=b':=w.symm.trans (e.trans P);subst m;have l1:=Eu s;have l2:=Eu h3;have B:=(List.getElem?_eq_getElem l1).symm.trans s;have C:=(List.getElem?_eq_getElem l2).symm.trans h3;have:=(List.getElem_inj h.nd).1 (Option.some.inj (B.trans C.symm));have:=hs.c.lt ha;have:=hs.c.lt hb;exact V (by omega)
  exact List.Pairwise.and_mem.1 hs.c.nd
 ·intro a b x y z ha r s w h3;rw[List.length_map] at ha;rw[List.getElem?_map,Option.map_eq_some_iff] at s w h3;obtain⟨x',g1,rfl⟩:=s;obtain⟨y',g2,rfl⟩:=w;obtain⟨z',O,rfl⟩:=h3;exact hs.lo a b x' y' z' (by omega) r g1 g2 O
 ·intro z Y X q f;rcases A.low with e |⟨z0,W,e,K,_⟩
  ·rw[e] at f;simp at f
  rcases X z0 (u z0 W e) with g | g
  ·rw[<-g];exact K q f
  rcases K q f with g2 | g2
  ·rw[g2];exact .inr g
  exact .inr (Fx g g2)
 intro e;rcases A.low with m |⟨z0,W,m,_⟩
 ·exact m
 have:=u z0 W m;rw[e] at this;simp at this
def Kn (px py:Nat->Re) (o:List Int) (i j:Nat):Prop:=∃(q:Nat) (a:Int),q<j/\o[q]? =some a/\Bl px py a=Bl px py i
section
variable {px py:Nat->Re} {o:List Int} {i j:Nat}
theorem Kn.ex (h:Kn px py o i j):∃(q:Nat) (a:Int),o[q]? =some a/\Bl px py a=Bl px py i:=by
 obtain⟨q,a,_,h⟩:=h;exact⟨q,a,h⟩
theorem Kn.all (h:∃(q:Nat) (a:Int),o[q]? =some a/\Bl px py a=Bl px py i) (g:o.length<=j):Kn px py o i j:=by
 obtain⟨q,a,b,f⟩:=h;have:=Eu b;exact⟨q,a,by omega,b,f⟩
theorem Kn.zero:false=true↔Kn px py o i 0:=⟨fun z=>absurd z (by decide),fun h=>by
 obtain⟨q,a,h,_⟩:=h;omega⟩
theorem Kn.up (h:true=true↔Kn px py o i j):true=true↔Kn px py o i (j+1):=⟨fun _=>by
 obtain⟨q,a,f,b⟩:=h.1 rfl;exact⟨q,a,by omega,b⟩,fun _=>rfl⟩
theorem jY {b:Bool} (h:false=true↔Kn px py o i j) (m:j<o.length) (hb:b=true↔CH px o j=px i/\CH py o j=py i):b=true↔Kn px py o i (j+1):=by
 obtain⟨a,ha⟩:=AK m;have e:o.getD j 0=a:=by rw[List.getD_eq_getElem?_getD,ha];rfl
 unfold CH at hb;rw[e] at hb;rw[hb]
 constructor
 ·exact fun z=>⟨j,a,by omega,ha,Prod.ext z.1 z.2⟩
 rintro⟨q,l,n,f,h3⟩
 rcases Nat.lt_or_ge q j with g | g
 ·exact absurd (h.2 ⟨q,l,g,f,h3⟩) (by decide)
 obtain rfl:q=j:=by omega
 obtain rfl:=Option.some.inj (ha.symm.trans f);exact⟨congrArg Prod.fst h3,congrArg Prod.snd h3⟩
end
theorem nt {o d:List Int} {i:Nat} {x y:Int} (a:d[i]? =some x) (b:o[x.toNat]? =some y):(d.take i).map (fun x=>o.getD x.toNat 0)++[y]=(d.take (i+1)).map (fun x=>o.getD x.toNat 0):=by
 rw[List.take_add_one,a,List.map_append]
 congr 1
 show [y]=[o.getD x.toNat 0]
 rw[List.getD_eq_getElem?_getD,b];rfl
theorem od {TT:List (List Rat)->Prop} {w:List (List Rat)} (F:Fd TT w) {Q:List (el Ai)} {px py:Nat->Re} (hQ:Fl TT w 1950000 1 Q px py) {L:List Int} (hL:L=Gd (DH px py) (Da px py) Q.length) (h9:Q.length<=50):CF 51 [.one (.sl Ai Q)] (.AG [(false,[.sl .i64 L]),(false,[.int .i64 0])]):=by
 refine CJ Tryz.func51 fun E hE=>?_
 conv=>cbv
 refine .inr ?_;obtain⟨J0,ar⟩:=xJ fun vs S k=>∃(o:List Int) (p:List (el Ai)) (m n i':Nat) (i:Int),vs=[.one (.sl Ai Q),.one (.AN .i64 4 0 0 m),.one (.AN Ai 5 0 0 n),.one (.int .i64 i)]/\S=[.arr 0 .i64 o,.arr 0 Ai p]/\(AO i i'/\i'<=Q.length/\m=o.length/\n=p.length)/\Eb px py Q o p i'/\k=Q.length-i'
 refine⟨[(4,.i64,true),(5,Ai,true)],[0,4,5,6],[4,5],J0,⟨Q.length-0,by rw[ar];exact⟨[],[],0,0,0,0,rfl,rfl,⟨Al 0,by omega,rfl,rfl⟩,Eb.zero,rfl⟩⟩,?_⟩;intro vs S cU K;rw[ar] at K;obtain⟨o,p,m,n,i',i,rfl,rfl,⟨hi,cK,hm,hn⟩,hD,cL⟩:=K;conv=>cbv
 have ei:=hi.eq;have cS:=hD.len;have cT:=hD.eq;rintro n24 ⟨cz,f24⟩;conv=>cbv
 intro n25 b4;conv=>cbv
 cases n25 <;> conv=>cbv
 ·have c9:=AW b4;refine .inr ?_;obtain⟨J2,av⟩:=xJ fun vs S k=>∃(d:List Int) (c G:Nat) (j:Int),vs=[.one (.sl Ai Q),.one (.AN .i64 4 0 0 m),.one (.AN Ai 5 0 0 n),.one (.AN .i64 9 0 0 c),.one (.int .i64 j)]/\S=[.arr 0 .i64 o,.arr 0 Ai p,.arr 0 .i64 d]/\(AO j G/\G<=p.length/\c=d.length)/\FP px py o p.length d G/\k=p.length-G
  refine⟨[(9,.i64,true)],[0,4,5,9,10],[4,5,9],J2,⟨p.length-0,by rw[av];exact⟨[],0,0,0,rfl,rfl,⟨Al 0,by omega,rfl⟩,FP.zero,rfl⟩⟩,?_⟩;intro vs S cW K;rw[av] at K;obtain⟨d,c,G,j,rfl,rfl,⟨K,c0,hc⟩,hC,cN⟩:=K;conv=>cbv
  have ej:=K.eq;have bc:=hC.len;intro n61 bJ;have cB:=bJ.eq;conv=>cbv
  intro n62 b7;conv=>cbv
  cases n62 <;> conv=>cbv
  ·have cb:=AW b7;intro da bL;have cC:=bL.eq;conv=>cbv
   intro ck b8;conv=>cbv
   cases ck <;> conv=>cbv
   ·have cc:=Ah b8;refine .inr ?_;obtain⟨J3,aT⟩:=xJ fun vs S k=>∃(d:List Int) (c i2:Nat) (i:Int),vs=[.one (.sl Ai Q),.one (.AN .i64 4 0 0 m),.one (.AN Ai 5 0 0 n),.one (.AN .i64 9 0 0 c),.one (.int .i64 i)]/\S=[.arr 0 .i64 o,.arr 0 Ai p,.arr 0 .i64 d]/\(AO i i2/\i2<=d.length/\c=d.length)/\Ey px py o p.length d i2 (i2+1)/\k+i2=p.length+1
    refine⟨[],[0,4,5,9,13],[4,5,9],J3,⟨p.length+1,by rw[aT];exact⟨d,c,0,0,rfl,rfl,⟨Al 0,by omega,hc⟩,Ey.zero (by rw[show p.length=G by omega] at hC ⊢;exact hC),by omega⟩⟩,?_⟩;intro vs S cX K;rw[aT] at K;obtain⟨d,c,i2,i,rfl,rfl,⟨hi,cu,hc⟩,W,cO⟩:=K;conv=>cbv
    have ei:=hi.eq;have bc:=W.c.len;intro db bM;have cD:=bM.eq;conv=>cbv
    intro cl b9;conv=>cbv
    cases cl <;> conv=>cbv
    ·have cd:=AW b9;refine .inr ?_;obtain⟨J5,aU⟩:=xJ fun vs S k=>∃(u:List Int) (e i3:Nat) (i:Int),vs=[.one (.AN .i64 4 0 0 m),.one (.AN .i64 9 0 0 c),.one (.AN .i64 20 0 0 e),.one (.int .i64 i)]/\S=[.arr 0 .i64 o,.arr 0 .i64 d,.arr 0 .i64 u]/\(AO i i3/\i3<=d.length/\e=u.length/\u.length=i3)/\u=(d.take i3).map (fun x=>o.getD x.toNat 0)/\k=d.length-i3
     refine⟨[(20,.i64,true)],[4,9,20,21],[4,9,20],J5,⟨d.length-0,by rw[aU];exact⟨[],0,0,0,rfl,rfl,⟨Al 0,by omega,rfl,rfl⟩,rfl,rfl⟩⟩,?_⟩;intro vs S cZ K;rw[aU] at K;obtain⟨u,e,i3,i,rfl,rfl,⟨hi,cv,he,c8⟩,hu,cQ⟩:=K;conv=>cbv
     have ei:=hi.eq;intro cx b3;have cr:=b3.eq;conv=>cbv
     intro bt aA;conv=>cbv
     cases bt <;> conv=>cbv
     ·have bn:=AW aA;exact AD ⟨⟨rfl,.inl ⟨_,rfl,by omega,congrArg _ (by rw[he,List.drop_zero,List.take_length,hL,hu,List.take_of_length_le (by omega),Z9 hD W (by omega),show Q.length=i' by omega])⟩,trivial⟩,t2,trivial⟩
     have bn:=AY aA;refine .inr ?_;refine AH ?_;intro aK bY;conv=>cbv
     obtain⟨aR,Z⟩:=AK (l:=d) (i:=aK) (by omega);refine⟨aR,fun _=>Z,?_⟩;try conv=>cbv
     have c7:=W.c.lt (List.mem_of_getElem? Z);refine AH ?_;intro aL bZ;conv=>cbv
     obtain⟨a7,ai⟩:=AK (l:=o) (i:=aL) (by omega);refine⟨a7,fun _=>ai,?_⟩;try conv=>cbv
     refine⟨[a7],fun _=>⟨rfl,by decide,rfl,⟨rfl,t1,trivial⟩⟩,.inl ?_⟩;try conv=>cbv
     refine .inl ⟨[a7],fun _=>⟨rfl,by (first | rfl | omega),⟨_,rfl,by simp <;> omega,by simp⟩,by show (u.length+1)*8<=140737488355328;(try simp only[List.length_take,List.length_drop]);omega⟩,?_⟩;intro (aM:List (el .i64)) aN ao;have ab:aM=(u:List (el .i64))++([a7]:List (el .i64)):=ao.1;have aZ:aN=List.length (α:=(el .i64)) aM:=ao.2;conv=>cbv
     intro cy ct;conv=>cbv
     refine AI ?_;refine⟨d.length-(i3+1),?_,?_⟩
     ·omega
     rw[aU];exact⟨_,aN,i3+1,_,rfl,rfl,⟨⟨by omega⟩,by omega,aZ,by rw[ab,List.length_append,c8];rfl⟩,by rw[ab,hu];exact nt (by rw[show i3=aK by omega];exact Z) (by rw[show aR.toNat=aL by omega];exact ai),rfl⟩
    have cd:=AY b9;refine .inr ?_;intro dd cH;conv=>cbv
    refine AI ?_;refine .inr ?_;obtain⟨J4,a8⟩:=xJ fun vs S k=>∃(d:List Int) (c k2:Nat) (kk:Int),vs=[.one (.sl Ai Q),.one (.AN .i64 4 0 0 m),.one (.AN Ai 5 0 0 n),.one (.AN .i64 9 0 0 c),.one (.int .i64 i),.one (.int .i64 kk)]/\S=[.arr 0 .i64 o,.arr 0 Ai p,.arr 0 .i64 d]/\(AO kk k2/\i2<k2/\i2<d.length/\k2<=d.length/\c=d.length)/\Ey px py o p.length d i2 k2/\k+k2=d.length
    refine⟨[],[0,4,5,9,13,14],[4,5,9],J4,⟨d.length-(i2+1),by rw[a8];exact⟨d,c,i2+1,_,rfl,rfl,⟨⟨by omega⟩,by omega,by omega,by omega,hc⟩,W,by omega⟩⟩,?_⟩;intro vs S cY K;rw[a8] at K;obtain⟨d,c,k2,kk,rfl,rfl,⟨c1,cJ,cI,cR,hc⟩,W,cP⟩:=K;conv=>cbv
    have cF:=c1.eq;have bc:=W.c.len;intro de bN;have cE:=bN.eq;conv=>cbv
    intro cm ba;conv=>cbv
    cases cm <;> conv=>cbv
    ·have cf:=AW ba;intro dc cG;conv=>cbv
     refine AI ?_;refine⟨p.length+1-(i2+1),?_,?_⟩
     ·omega
     rw[aT];exact⟨d,c,i2+1,_,rfl,rfl,⟨⟨by omega⟩,by omega,hc⟩,W.up (by omega),by omega⟩
    have cf:=AY ba;refine .inr ?_;intro cn bb;conv=>cbv
    refine .inr ?_;cases cn <;> conv=>cbv
    ·have cg:=Ah bb;refine AH ?_;intro ak bS;conv=>cbv
     obtain⟨aq,O⟩:=AK (l:=d) (i:=ak) (by omega);refine⟨aq,fun _=>O,?_⟩;try conv=>cbv
     have c4:=W.c.lt (List.mem_of_getElem? O);refine AH ?_;intro aH bT;conv=>cbv
     obtain⟨bC,af⟩:=AK (l:=p) (i:=aH) (by omega);refine⟨bC,fun _=>af,?_⟩;try conv=>cbv
     refine AH ?_;intro al bU;conv=>cbv
     obtain⟨a5,P⟩:=AK (l:=d) (i:=al) (by omega);refine⟨a5,fun _=>P,?_⟩;try conv=>cbv
     have c5:=W.c.lt (List.mem_of_getElem? P);refine AH ?_;intro aI bV;conv=>cbv
     obtain⟨bD,ag⟩:=AK (l:=p) (i:=aI) (by omega);refine⟨bD,fun _=>ag,?_⟩;try conv=>cbv
     refine AH ?_;intro an bW;conv=>cbv
     obtain⟨a6,R⟩:=AK (l:=d) (i:=an) (by omega);refine⟨a6,fun _=>R,?_⟩;try conv=>cbv
     have c6:=W.c.lt (List.mem_of_getElem? R);refine AH ?_;intro aJ bX;conv=>cbv
     obtain⟨bE,ah⟩:=AK (l:=p) (i:=aJ) (by omega);refine⟨bE,fun _=>ah,?_⟩;try conv=>cbv
     refine Exists.elim (show ∃z,z=Da (CH px o) (CH py o) aq a5 a6 from⟨_,rfl⟩) fun bz Y=>?_
     refine AB (r:= .AG [(false,[.int .i64 bz]),(false,[.int .i64 0])]) hE (Mr F (hD.JM hQ _ _ af) (hD.JM hQ _ _ ag) (hD.JM hQ _ _ ah) (Y.trans (by rw[Da,show aq.toNat=aH by omega,show a5.toNat=aI by omega,show a6.toNat=aJ by omega])) (by omega)) ?_;conv=>cbv
     refine BG ?_;refine AU ?_;conv=>cbv
     intro bs az;conv=>cbv
     refine .inr ?_;cases bs <;> conv=>cbv
     ·have bm:=AW az;intro b1 aS;conv=>cbv
      refine AI ?_;refine⟨d.length-(k2+1),?_,?_⟩
      ·omega
      rw[a8];exact⟨d,c,k2+1,_,rfl,rfl,⟨⟨by omega⟩,by omega,by omega,by omega,hc⟩,W.no (by rw[show i2=al by omega];exact P) (by rw[show k2=an by omega];exact R) (by rw[show 0=ak by omega];exact O) ⟨fun h=>absurd h (by omega),fun _=>by rw[<-Y];omega⟩,by omega⟩
     have bm:=AY az;refine AH ?_;intro H aV;conv=>cbv
     obtain⟨t,q⟩:=AK (l:=d) (i:=H) (by omega);refine⟨t,fun _=>q,?_⟩;try conv=>cbv
     refine AH ?_;intro I aW;conv=>cbv
     obtain⟨v,s⟩:=AK (l:=d) (i:=I) (by omega);refine⟨v,fun _=>s,?_⟩;try conv=>cbv
     refine AH ?_;intro U aX;conv=>cbv
     refine⟨t,fun _=>⟨by show _<List.length (α:=(el .i64)) d;(first | omega | (simp;omega)),by first | exact t1 | exact t2 | exact t4 | simp[Ao,BA,cells]⟩,?_⟩;intro (g:List (el .i64)) (C:g=List.set (α:=(el .i64)) d U t);have a:g.length=d.length:=by rw[C,List.length_set]
     conv=>cbv
     refine AH ?_;intro V aY;conv=>cbv
     refine⟨v,fun _=>⟨by show _<List.length (α:=(el .i64)) g;(first | omega | (simp;omega)),by first | exact t1 | exact t2 | exact t4 | simp[Ao,BA,cells]⟩,?_⟩;intro (J:List (el .i64)) (D:J=List.set (α:=(el .i64)) g V v);have f:J.length=g.length:=by rw[D,List.length_set]
     conv=>cbv
     refine BG ?_;intro b1 aS;conv=>cbv
     refine AI ?_;refine⟨d.length-(k2+1),?_,?_⟩
     ·omega
     rw[a8];have q1:t=a6:=Option.some.inj (q.symm.trans (by rw[show H=an by omega];exact R));have q2:v=a5:=Option.some.inj (s.symm.trans (by rw[show I=al by omega];exact P));exact⟨J,c,k2+1,_,rfl,rfl,⟨⟨by omega⟩,by omega,by rw[f,a];omega,by rw[f,a];omega,by rw[f,a];omega⟩,by rw[D,C,show U=i2 by omega,show V=k2 by omega];exact W.sw (by omega) (by rw[show i2=I by omega];exact s) (by rw[show k2=H by omega];exact q) (by rw[show 0=ak by omega];exact O) ⟨fun h=>absurd h (by omega),fun _=>by rw[q1,q2,<-Y];omega⟩,by rw[f,a];omega⟩
    have cg:=Aj bb;refine AH ?_;intro aj bO;conv=>cbv
    obtain⟨a1,M⟩:=AK (l:=d) (i:=aj) (by omega);refine⟨a1,fun _=>M,?_⟩;try conv=>cbv
    have c2:=W.c.lt (List.mem_of_getElem? M);refine AH ?_;intro aF bP;conv=>cbv
    obtain⟨bA,ad⟩:=AK (l:=p) (i:=aF) (by omega);refine⟨bA,fun _=>ad,?_⟩;try conv=>cbv
    refine AH ?_;intro T bQ;conv=>cbv
    obtain⟨a2,A⟩:=AK (l:=d) (i:=T) (by omega);refine⟨a2,fun _=>A,?_⟩;try conv=>cbv
    have c3:=W.c.lt (List.mem_of_getElem? A);refine AH ?_;intro aG bR;conv=>cbv
    obtain⟨bB,ae⟩:=AK (l:=p) (i:=aG) (by omega);refine⟨bB,fun _=>ae,?_⟩;try conv=>cbv
    refine Exists.elim (show ∃z,z=DH (CH px o) (CH py o) a1 a2 from⟨_,rfl⟩) fun bx X=>?_
    refine AB (r:= .AG [(false,[.int .i64 bx]),(false,[.int .i64 0])]) hE (oZ F (hD.JM hQ _ _ ad) (hD.JM hQ _ _ ae) (X.trans (by rw[DH,show a1.toNat=aF by omega,show a2.toNat=aG by omega])) (by omega)) ?_;conv=>cbv
    refine BG ?_;refine AU ?_;conv=>cbv
    intro br ay;conv=>cbv
    refine .inr ?_;cases br <;> conv=>cbv
    ·have bl:=AW ay;intro b1 aS;conv=>cbv
     refine AI ?_;refine⟨d.length-(k2+1),?_,?_⟩
     ·omega
     rw[a8];exact⟨d,c,k2+1,_,rfl,rfl,⟨⟨by omega⟩,by omega,by omega,by omega,hc⟩,W.no (by rw[show i2=T by omega];exact A) (by rw[show k2=aj by omega];exact M) (by rw[show 0=T by omega];exact A) ⟨fun _=>by rw[<-X];omega,fun h=>absurd h (by omega)⟩,by omega⟩
    have bl:=AY ay;refine AH ?_;intro H aV;conv=>cbv
    obtain⟨t,q⟩:=AK (l:=d) (i:=H) (by omega);refine⟨t,fun _=>q,?_⟩;try conv=>cbv
    refine AH ?_;intro I aW;conv=>cbv
    obtain⟨v,s⟩:=AK (l:=d) (i:=I) (by omega);refine⟨v,fun _=>s,?_⟩;try conv=>cbv
    refine AH ?_;intro U aX;conv=>cbv
    refine⟨t,fun _=>⟨by show _<List.length (α:=(el .i64)) d;(first | omega | (simp;omega)),by first | exact t1 | exact t2 | exact t4 | simp[Ao,BA,cells]⟩,?_⟩;intro (g:List (el .i64)) (C:g=List.set (α:=(el .i64)) d U t);have a:g.length=d.length:=by rw[C,List.length_set]
    conv=>cbv
    refine AH ?_;intro V aY;conv=>cbv
    refine⟨v,fun _=>⟨by show _<List.length (α:=(el .i64)) g;(first | omega | (simp;omega)),by first | exact t1 | exact t2 | exact t4 | simp[Ao,BA,cells]⟩,?_⟩;intro (J:List (el .i64)) (D:J=List.set (α:=(el .i64)) g V v);have f:J.length=g.length:=by rw[D,List.length_set]
    conv=>cbv
    refine BG ?_;intro b1 aS;conv=>cbv
    refine AI ?_;refine⟨d.length-(k2+1),?_,?_⟩
    ·omega
    rw[a8];have q1:t=a1:=Option.some.inj (q.symm.trans (by rw[show H=aj by omega];exact M));have q2:v=a2:=Option.some.inj (s.symm.trans (by rw[show I=T by omega];exact A));exact⟨J,c,k2+1,_,rfl,rfl,⟨⟨by omega⟩,by omega,by rw[f,a];omega,by rw[f,a];omega,by rw[f,a];omega⟩,by rw[D,C,show U=i2 by omega,show V=k2 by omega];exact W.sw (by omega) (by rw[show i2=I by omega];exact s) (by rw[show k2=H by omega];exact q) (by rw[show 0=T by omega];exact A) ⟨fun _=>by rw[q1,q2,<-X];omega,fun h=>absurd h (by omega)⟩,by rw[f,a];omega⟩
   have cc:=Aj b8;exact AD ⟨⟨rfl,.inr (.inl ⟨_,congrArg _ (by have h8:=Z9 hD (Ey.zero (by rw[show p.length=G by omega] at hC ⊢;exact hC)) (by omega);rw[hL,show Q.length=i' by omega,<-h8,show d=[] from List.eq_nil_of_length_eq_zero (by omega)];rfl)⟩),trivial⟩,t2,trivial⟩
  have cb:=AY b7;refine .inr ?_;refine Exists.elim (Dv (Je (CH px o) (CH py o) p.length G)) fun b2 aa=>?_
  refine .inr (.inl ⟨[.one (.sl Ai ((p).take n)),.one (.int .i64 j)],.AG [(false,[.bool b2]),(false,[.int .i64 0])],fun _=>⟨⟨_,rfl,by simp <;> omega,by simp⟩,rfl,trivial⟩,fun _=>E6 hE (I7 rfl (by rw[hn,List.take_length];exact oa F (hD.JM hQ) K (by omega) (by omega) aa)),?_⟩);try conv=>cbv
  refine AU ?_;conv=>cbv
  refine .inr ?_;cases b2 <;> conv=>cbv
  ·intro cj bK;conv=>cbv
   refine AI ?_;refine⟨p.length-(G+1),?_,?_⟩
   ·omega
   rw[av];exact⟨d,c,G+1,_,rfl,rfl,⟨⟨by omega⟩,by omega,hc⟩,hC.no (fun z=>absurd (aa.2 z) (by decide)),rfl⟩
  refine⟨[j],fun _=>⟨rfl,by decide,rfl,⟨rfl,t1,trivial⟩⟩,.inl ?_⟩;try conv=>cbv
  refine .inl ⟨[j],fun _=>⟨rfl,by (first | rfl | omega),⟨_,rfl,by simp <;> omega,by simp⟩,by show (d.length+1)*8<=140737488355328;(try simp only[List.length_take,List.length_drop]);omega⟩,?_⟩;intro (bq:List (el .i64)) bw aQ;have bg:bq=(d:List (el .i64))++([j]:List (el .i64)):=aQ.1;have bk:bw=List.length (α:=(el .i64)) bq:=aQ.2;conv=>cbv
  intro cj bK;conv=>cbv
  refine AI ?_;refine⟨p.length-(G+1),?_,?_⟩
  ·omega
  rw[av];exact⟨_,bw,G+1,_,rfl,rfl,⟨⟨by omega⟩,by omega,bk⟩,by rw[bg];exact hC.yes (aa.1 rfl) (by omega),rfl⟩
 have c9:=AY b4;refine .inr ?_;refine .inr ?_;obtain⟨J1,au⟩:=xJ fun vs S k=>∃(G:Nat) (j:Int) (b:Bool),vs=[.one (.sl Ai Q),.one (.AN .i64 4 0 0 m),.one (.AN Ai 5 0 0 n),.one (.int .i64 i),.one (.bool b),.one (.int .i64 j)]/\S=[.arr 0 .i64 o,.arr 0 Ai p]/\(AO j G/\G<=p.length)/\(b=true↔Kn px py o i' G)/\k=p.length-G
 refine⟨[],[0,4,5,6,7,8],[4,5],J1,⟨p.length-0,by rw[au];exact⟨0,0,false,rfl,rfl,⟨Al 0,by omega⟩,Kn.zero,rfl⟩⟩,?_⟩;intro vs S cV K;rw[au] at K;obtain⟨G,j,b,rfl,rfl,⟨K,c0⟩,aw,cM⟩:=K;conv=>cbv
 have ej:=K.eq;intro n30 bH;have cA:=bH.eq;conv=>cbv
 intro n31 b5;conv=>cbv
 cases n31 <;> conv=>cbv
 ·have ca:=AW b5;intro ch b6;conv=>cbv
  refine .inr ?_;cases ch <;> conv=>cbv
  ·have b0:=C3 b6;intro n27 bG;conv=>cbv
   refine AI ?_;refine⟨Q.length-(i'+1),?_,?_⟩
   ·omega
   rw[ar];exact⟨o,p,m,n,i'+1,_,rfl,rfl,⟨⟨by omega⟩,by omega,hm,hn⟩,hD.skip (aw.1 b0).ex,rfl⟩
  have b0:=C4 b6;refine⟨[i],fun _=>⟨rfl,by decide,rfl,⟨rfl,t1,trivial⟩⟩,.inl ?_⟩;try conv=>cbv
  refine .inl ⟨[i],fun _=>⟨rfl,by (first | rfl | omega),⟨_,rfl,by simp <;> omega,by simp⟩,by show (o.length+1)*8<=140737488355328;(try simp only[List.length_take,List.length_drop]);omega⟩,?_⟩;intro (bo:List (el .i64)) n51 aO;have bd:bo=(o:List (el .i64))++([i]:List (el .i64)):=aO.1;have bh:n51=List.length (α:=(el .i64)) bo:=aO.2;conv=>cbv
  refine Exists.elim (AK (l:=Q) (i:=i') (by omega)) fun B aE=>?_
  refine⟨B,fun _=>⟨by omega,by rw[show (i).toNat=i' by omega];exact aE⟩,?_⟩;try conv=>cbv
  refine⟨[((B.1.1,B.1.2),(B.2.1,B.2.2))],fun _=>⟨rfl,by decide,rfl,⟨rfl,by first | exact t1 | exact t2 | exact t4 | simp[Ao,BA,cells],trivial⟩⟩,.inl ?_⟩;try conv=>cbv
  refine .inl ⟨[((B.1.1,B.1.2),(B.2.1,B.2.2))],fun _=>⟨rfl,by (first | rfl | omega),⟨_,rfl,by simp <;> omega,by simp⟩,by show (p.length+1)*96<=140737488355328;(try simp only[List.length_take,List.length_drop]);omega⟩,?_⟩;intro (bp:List (el Ai)) bu aP;have bf:bp=(p:List (el Ai))++([((B.1.1,B.1.2),(B.2.1,B.2.2))]:List (el Ai)):=aP.1;have bj:bu=List.length (α:=(el Ai)) bp:=aP.2;conv=>cbv
  refine BG ?_;intro n27 bG;conv=>cbv
  refine AI ?_;refine⟨Q.length-(i'+1),?_,?_⟩
  ·omega
  rw[ar];exact⟨_,_,n51,bu,i'+1,_,rfl,rfl,⟨⟨by omega⟩,by omega,bh,bj⟩,by rw[bd,bf,show i=(i':Int) by omega];exact hD.add aE (fun z=>absurd (aw.2 (Kn.all z (by omega))) (by rw[b0];decide)),rfl⟩
 have ca:=AY b5;refine .inr ?_;cases b <;> conv=>cbv
 ·refine AH ?_;intro ax cw;conv=>cbv
  obtain⟨cp,aC⟩:=AK (l:=p) (i:=ax) (by omega);refine⟨cp,fun _=>aC,?_⟩;try conv=>cbv
  refine Exists.elim (AK (l:=Q) (i:=i') (by omega)) fun cq aD=>?_
  refine⟨cq,fun _=>⟨by omega,by rw[show (i).toNat=i' by omega];exact aD⟩,?_⟩;try conv=>cbv
  refine Exists.elim (Dv (CH px o ax=px i'/\CH py o ax=py i')) fun bF aB=>?_
  refine AB hE (Jb F (hD.JM hQ _ _ aC) (hQ _ _ aD) (by omega) (by omega) (by omega) (by omega) aB) ?_;conv=>cbv
  refine BG ?_;intro n33 bI;conv=>cbv
  refine AI ?_;refine⟨p.length-(G+1),?_,?_⟩
  ·omega
  rw[au];exact⟨G+1,_,bF,rfl,rfl,⟨⟨by omega⟩,by omega⟩,jY aw (by omega) (by rw[show G=ax by omega];exact aB),rfl⟩
 refine BG ?_;intro n33 bI;conv=>cbv
 refine AI ?_;refine⟨p.length-(G+1),?_,?_⟩
 ·omega
 rw[au];exact⟨G+1,_,true,rfl,rfl,⟨⟨by omega⟩,by omega⟩,Kn.up aw,rfl⟩
theorem o4 {X:List (el Bn)} {W:List UInt8} {ns:List Nu} (m:ns=(runN (X.take 24)).1) {V:List Re} (l:V.length<=3) (b:∀n∈ns,BP V n):CF 11 [.agg [.sl (.pr .u8 (.pr .u8 (.pr .u8 (.pr .i8 .u8)))) X,.sl .u8 W]] (.one (.bool true)):=by
 obtain⟨w,L⟩:=ME l b;have F:=L.fd;obtain⟨Q,s⟩:∃z,z=GK ns W:=⟨_,rfl⟩
 obtain⟨px,py,r⟩:=Yk L b s;obtain⟨c,u⟩:=xB (decide (W.length<=24));obtain⟨v,h⟩:∃z:List Int,z=Gd (DH px py) (Da px py) Q.length:=⟨_,rfl⟩
 refine CJ Tryz.func11 fun E a=>?_
 conv=>cbv
 refine AB a (oo m l b s u) ?_;conv=>cbv
 refine AB a KY ?_;conv=>cbv
 refine AU ?_;conv=>cbv
 intro n18 f;conv=>cbv
 cases n18 <;> conv=>cbv
 ·have p:=C3 f;rintro n22 ⟨t,f22⟩;conv=>cbv
  intro n23 g;conv=>cbv
  cases n23 <;> conv=>cbv
  ·have q:=Bq g;refine AB a (X6 F r h (by omega)) ?_;conv=>cbv
   refine AB a (od F r h (by omega)) ?_;conv=>cbv
   refine Bc ?_;conv=>cbv
   refine Bc ?_;conv=>cbv
   refine AB a ZT ?_;conv=>cbv
   exact AD ⟨t2,trivial⟩
  have q:=Br g;refine AB a KY ?_;conv=>cbv
  exact AD ⟨t2,trivial⟩
 have p:=C4 f;refine AB a KY ?_;conv=>cbv
 exact AD ⟨t2,trivial⟩
end Go.Abs
