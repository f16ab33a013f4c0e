/- Part 41 of a proof. Conditions: each theorem's own. -/
import Derived.Test.YtmhbikooakmagaaGreatRk37
set_option linter.all false
set_option maxHeartbeats 8000000
set_option maxRecDepth 20000
open Go.Proofs
namespace Go.Abs
def AZ (a b c:Re×Re):Re:=(b.1-a.1)*(c.2-a.2)-(b.2-a.2)*(c.1-a.1)
def lx (a b:Re×Re):Prop:=a.1<b.1\/(a.1=b.1/\a.2<b.2)
def lp (x y:Re):Prop:=0<x\/(x=0/\0<y)
variable {d e f x y:Re}
theorem EX {a b:Re×Re}:lx a b↔lp (b.1-a.1) (b.2-a.2):=by
 unfold lx lp;constructor
 ·rintro (h |⟨h,k⟩)
  ·exact .inl (by grind)
  exact .inr ⟨by grind,by grind⟩
 rintro (h |⟨h,k⟩)
 ·exact .inl (by grind)
 exact .inr ⟨by grind,by grind⟩
theorem Fw {a:Re×Re} (h:lx a a):False:=by rcases h with h |⟨_,h⟩ <;> grind
theorem Fx {a b c:Re×Re} (h:lx a b) (k:lx b c):lx a c:=by
 rcases h with h |⟨h,h'⟩ <;> rcases k with k |⟨k,k'⟩
 ·exact .inl (by grind)
 ·exact .inl (by grind)
 ·exact .inl (by grind)
 exact .inr ⟨by grind,by grind⟩
theorem Ly (a b:Re×Re):lx a b\/a=b\/lx b a:=by
 unfold lx;rcases Classical.em (a.1<b.1) with h | h
 ·exact .inl (.inl h)
 rcases Classical.em (b.1<a.1) with k | k
 ·exact .inr (.inr (.inl k))
 have e:a.1=b.1:=by grind
 rcases Classical.em (a.2<b.2) with c | c
 ·exact .inl (.inr ⟨e,c⟩)
 rcases Classical.em (b.2<a.2) with k2 | k2
 ·exact .inr (.inr (.inr ⟨e.symm,k2⟩))
 exact .inr (.inl (Prod.ext e (by grind)))
theorem DL (h:0<x):0<=x:=by grind
theorem DQ (h:0<=x) (k:0<=y):0<=x*y:=Re.IU h k
theorem HS (h:0<x) (k:0<y):0<x*y:=Re.mul_pos h k
theorem Ry (h:0<x*y) (k:0<x):0<y:=by
 rcases Classical.em (0<y) with z | z
 ·exact z
 have:=DQ (x:=x) (y:= -y) (by grind) (by grind);grind
theorem Xn (h:0<=x*y) (k:0<x):0<=y:=by
 rcases Classical.em (0<=y) with z | z
 ·exact z
 have:=HS (x:=x) (y:= -y) k (by grind);grind
theorem gC {a b c:Re} (u:lp a b) (v:lp c d) (w:lp e f) (h:0<=a*d-b*c) (k:0<=c*f-d*e):0<=a*f-b*e:=by
 have key:c*(a*f-b*e)=e*(a*d-b*c)+a*(c*f-d*e):=by grind
 have ha:0<=a:=by rcases u with u |⟨u,_⟩ <;> grind
 have he:0<=e:=by rcases w with w |⟨w,_⟩ <;> grind
 rcases v with v |⟨v,l⟩
 ·exact Xn (by rw[key];have:=DQ he h;have:=DQ ha k;grind) v
 subst v;have g:0<=d*(-e):=by grind
 have j:e=0:=by have:=Xn g l;grind
 rcases w with w |⟨_,w⟩
 ·grind
 subst j;have:=DQ ha (DL w);grind
theorem QZ {a b c:Re} (u:lp a b) (v:lp c d) (w:lp e f) (h:0<a*d-b*c) (k:0<=c*f-d*e):0<a*f-b*e:=by
 have key:c*(a*f-b*e)=e*(a*d-b*c)+a*(c*f-d*e):=by grind
 have ha:0<a:=by
  rcases u with u |⟨u,j⟩
  ·exact u
  subst u;have g:0<=c:=by rcases v with v |⟨v,_⟩ <;> grind
  have:=DQ (DL j) g;grind
 have he:0<=e:=by rcases w with w |⟨w,_⟩ <;> grind
 rcases w with w |⟨w,w'⟩
 ·rcases v with v |⟨v,l⟩
  ·exact Ry (by rw[key];have:=HS w h;have:=DQ (DL ha) k;grind) v
  subst v;have:=HS l w;grind
 subst w;have:=HS ha w';grind
theorem gD {a b c:Re} (u:lp a b) (v:lp c d) (w:lp e f) (h:0<=a*d-b*c) (k:0<c*f-d*e):0<a*f-b*e:=by
 have key:c*(a*f-b*e)=e*(a*d-b*c)+a*(c*f-d*e):=by grind
 have g:0<c:=by
  rcases v with v |⟨v,l⟩
  ·exact v
  subst v;have he:0<=e:=by rcases w with w |⟨w,_⟩ <;> grind
  have:=DQ (DL l) he;grind
 have ha:0<a:=by
  rcases u with u |⟨u,j⟩
  ·exact u
  subst u;have:=HS j g;grind
 have he:0<=e:=by rcases w with w |⟨w,_⟩ <;> grind
 exact Ry (by rw[key];have:=DQ he h;have:=HS ha k;grind) g
theorem YS {p a b c:Re×Re} (u:lx p a) (v:lx p b) (w:lx p c) (h:0<=AZ p a b) (k:0<=AZ p b c):0<=AZ p a c:=gC (EX.1 u) (EX.1 v) (EX.1 w) h k
theorem kP (a b c:Re×Re):AZ a b c=AZ b c a:=by unfold AZ;grind
theorem MB (a b c:Re×Re):AZ b a c= -AZ a b c:=by unfold AZ;grind
theorem MC (a b c:Re×Re):AZ a c b= -AZ a b c:=by unfold AZ;grind
theorem Ic (a b:Re×Re):AZ a b a=0:=by unfold AZ;grind
theorem YR (a b:Re×Re):AZ a b b=0:=by unfold AZ;grind
theorem Rv (a b:Re×Re):AZ a a b=0:=by unfold AZ;grind
theorem YQ {a b c p:Re×Re} (u:lx a b) (v:lx b c) (w:lx b p) (h:0<AZ a b c) (k:0<=AZ b c p):0<AZ a b p:=by
 have:=QZ (EX.1 u) (EX.1 v) (EX.1 w) (by unfold AZ at h;grind) k;unfold AZ;grind
theorem kO {a b p q:Re×Re} (u:lx a b) (v:lx b p) (w:lx q b) (h:0<AZ a b p) (k:0<=AZ a b q):0<=AZ b p q:=by
 have:=gD (EX.1 w) (EX.1 u) (EX.1 v) (by unfold AZ at k;grind) (by unfold AZ at h;grind);unfold AZ;grind
noncomputable def Dl (p:Re×Re):List (Re×Re)->List (Re×Re)
 | []=>[]
 | [b]=>[b]
 | b::a::r=>open Classical in if 0<AZ a b p then b::a::r else Dl p (a::r)
noncomputable def Cs:List (Re×Re)->List (Re×Re)->List (Re×Re)
 | st,[]=>st
 | st,p::ps=>Cs (p::Dl p st) ps
def Conv:List (Re×Re)->Prop
 | c::b::a::r=>0<AZ a b c/\Conv (b::a::r)
 | _=>True
def FQ:List (Re×Re)->Prop
 | b::a::r=>lx a b/\FQ (a::r)
 | _=>True
def E9 (D:Re×Re->Prop):List (Re×Re)->Prop
 | b::a::r=>(∀q,D q->0<=AZ a b q)/\E9 D (a::r)
 | _=>True
structure Mt (D:Re×Re->Prop) (st:List (Re×Re)) (z:Re×Re):Prop where
 conv:Conv st
 Qy:FQ st
 left:E9 D st
 sub:∀q∈st,D q
 bot:st.getLast? =some z
 low:∀q,D q->z=q\/lx z q
 top:∀c r,st=c::r->∀q,D q->q=c\/lx q c
theorem Conv.tail {c:Re×Re}:∀{r:List (Re×Re)},Conv (c::r)->Conv r
 |[],_|[_],_=>trivial
 | _::_::_,h=>h.2
theorem E9.add {D:Re×Re->Prop} {p:Re×Re}:∀{r:List (Re×Re)},E9 D r->E9 (fun q=>q=p) r->E9 (fun q=>D q\/q=p) r
 |[],_,_|[_],_,_=>trivial
 | _::_::_,h,k=>⟨fun q a=>a.elim (h.1 q) (k.1 q),E9.add h.2 k.2⟩
theorem W8 {p:Re×Re}:∀{r:List (Re×Re)} {b a:Re×Re},Conv (b::a::r)->FQ (b::a::r)->lx b p->0<AZ a b p->E9 (fun q=>q=p) (b::a::r)
 | [],_,_,_,_,_,h=>⟨fun q e=>by subst e;exact DL h,trivial⟩
 | c::r,b,a,cv,g,hb,h=>⟨fun q e=>by subst e;exact DL h,W8 cv.2 g.2 (Fx g.1 hb) (YQ g.2.1 g.1 (Fx g.1 hb) cv.1 (DL h))⟩
theorem Ya {D:Re×Re->Prop} {p:Re×Re} (n:∀q,D q->lx q p):∀{st:List (Re×Re)},Conv st->FQ st->E9 D st->(∀q∈st,D q)->
  (∀c r,st=c::r->∀q,D q->(q=c\/lx c q)->0<=AZ c p q)->
  (∀z,st.getLast? =some z->∀q,D q->q=z\/lx z q)->
  Conv (p::Dl p st)/\FQ (p::Dl p st)/\E9 (fun q=>D q\/q=p) (p::Dl p st)/\(∀q∈Dl p st,D q)/\(Dl p st).getLast? =st.getLast?
 | [],_,_,_,_,_,_=>⟨trivial,trivial,trivial,by simp[Dl],rfl⟩
 | [b],_,_,_,hs,ht,j=>⟨trivial,⟨n b (hs b (by simp)),trivial⟩,⟨fun q g=>by
  rcases g with g | rfl
  ·exact ht b [] rfl q g (j b rfl q g)
  rw[YR];exact Std.le_refl _,trivial⟩,hs,rfl⟩
 | b::a::r,cv,l,j,hs,ht,F=>by
  have hb:=n b (hs b (by simp));unfold Dl
  split
  ·rename_i h
   refine⟨⟨h,cv⟩,⟨hb,l⟩,⟨fun q g=>?_,E9.add j (W8 cv l hb h)⟩,hs,rfl⟩;rcases g with g | rfl
   ·rcases Ly q b with k | k | k
    ·exact kO l.1 hb k h (j.1 q g)
    ·exact ht b _ rfl q g (.inl k)
    exact ht b _ rfl q g (.inr k)
   rw[YR];exact Std.le_refl _
  rename_i h
  have u:0<=AZ a p b:=by rw[MC];grind
  obtain⟨v,A,h3,B,C⟩:=Ya n (st:=a::r) cv.tail l.2 j.2 (fun q g=>hs q (List.mem_cons_of_mem _ g)) (fun c G e q g o=>by
   obtain⟨rfl,rfl⟩:=List.cons.inj e;rcases o with rfl | o
   ·rw[Ic];exact Std.le_refl _
   exact YS (n a (hs a (by simp))) l.1 o u (j.1 q g)) (fun z e=>F z (by rw[List.getLast?_cons_cons];exact e))
  exact⟨v,A,h3,B,by rw[C,List.getLast?_cons_cons]⟩
theorem VF:∀{ps:List (Re×Re)} {D:Re×Re->Prop} {st:List (Re×Re)} {z:Re×Re},Mt D st z->(∀p∈ps,∀q,D q->lx q p)->ps.Pairwise lx->Mt (fun q=>D q\/q∈ps) (Cs st ps) z
 | [],D,st,z,h,_,_=>by
  have e:(fun q=>D q\/q∈([]:List (Re×Re)))=D:=funext fun q=>propext (by simp)
  rw[e];exact h
 | p::ps,D,st,z,h,o,u=>by
  have F:D z:=h.sub z (List.mem_of_getLast? h.bot)
  obtain⟨A,B,h3,C,n⟩:=Ya (o p (by simp)) h.conv h.Qy h.left h.sub (fun c r e q g j=>by
   rcases h.top c r e q g with rfl | k
   ·rw[Ic];exact Std.le_refl _
   ·rcases j with rfl | j
    ·rw[Ic];exact Std.le_refl _
    exact (Fw (Fx k j)).elim) (fun z' e q g=>by
   have:z'=z:=Option.some.inj (e.symm.trans h.bot);subst this;exact (h.low q g).imp (fun e=>e.symm) id)
  have j:Mt (fun q=>D q\/q=p) (p::Dl p st) z:=⟨A,B,h3,fun q g=>(List.mem_cons.1 g).elim .inr fun k=> .inl (C q k),by
   rw[show (p::Dl p st).getLast? =(Dl p st).getLast? from ?_,n,h.bot];cases e:Dl p st with
   | nil=>rw[e] at n;rw[h.bot] at n;cases n
   | cons a b=>rfl,fun q g=>g.elim (h.low q) (fun e=> .inr (e ▸ o p (by simp) z F)),fun c r e q g=>by
   obtain⟨rfl,rfl⟩:=List.cons.inj e;exact g.elim (fun k=> .inr (o p (by simp) q k)) .inl⟩
  rw[List.pairwise_cons] at u;have:=VF (ps:=ps) j (fun v l q g=>g.elim (o v (List.mem_cons_of_mem _ l) q) (fun e=>e ▸ u.1 v l)) u.2;have e:(fun q=>(D q\/q=p)\/q∈ps)=fun q=>D q\/q∈p::ps:=funext fun q=>propext (by simp[or_assoc])
  rw[e] at this;exact this
theorem VH {p:Re×Re} {ps:List (Re×Re)} (a:(p::ps).Pairwise lx):Mt (fun q=>q∈p::ps) (Cs [] (p::ps)) p:=by
 rw[List.pairwise_cons] at a
 have:=VF (ps:=ps) (D:=fun q=>q=p) (st:=[p]) (z:=p) ⟨trivial,trivial,trivial,by simp,rfl,fun q e=> .inl e.symm,fun c r e q g=>by obtain⟨rfl,_⟩:=List.cons.inj e;exact .inl g⟩
  (fun h b q e=>e ▸ a.1 h b) a.2
 have e:(fun q=>q=p\/q∈ps)=fun q=>q∈p::ps:=funext fun q=>propext (by simp)
 rw[e] at this;exact this
end Go.Abs
namespace Go.Abs
def bt (a b x:Re×Re):Prop:=AZ a b x=0/\(a.1-x.1)*(b.1-x.1)+(a.2-x.2)*(b.2-x.2)<0
def ins (a b c x:Re×Re):Prop:=(0<AZ a b x/\0<AZ b c x/\0<AZ c a x)\/(AZ a b x<0/\AZ b c x<0/\AZ c a x<0)
def Ext (D:Re×Re->Prop) (x:Re×Re):Prop:=(∀a b,D a->D b->¬bt a b x)/\∀a b c,D a->D b->D c->¬ins a b c x
variable {y:Re}
theorem LP (a b c x:Re×Re):(a.1-x.1)*AZ b c x+(b.1-x.1)*AZ c a x+(c.1-x.1)*AZ a b x=0:=by unfold AZ;grind
theorem LQ (a b c x:Re×Re):(a.2-x.2)*AZ b c x+(b.2-x.2)*AZ c a x+(c.2-x.2)*AZ a b x=0:=by unfold AZ;grind
theorem eo (a b c x:Re×Re):AZ b c x+AZ c a x+AZ a b x=AZ a b c:=by unfold AZ;grind
theorem fO {a b x:Re×Re} (h:bt a b x):bt b a x:=⟨by have:=h.1;unfold AZ at *;grind,by have:=h.2;grind⟩
theorem O1 {x z:Re} (a:0<=x) (b:0<=y) (c:0<=z) (h:x+y+z=0):x=0/\y=0/\z=0:=⟨by grind,by grind,by grind⟩
theorem OV {x:Re} (a:0<=x) (b:0<y) (h:x*y=0):x=0:=by
 rcases Re.Cd h with h | h
 ·exact h
 grind
theorem Uy {a b x:Re×Re} (h:bt a b x):∃s t:Re,0<s/\0<t/\s*(a.1-x.1)+t*(b.1-x.1)=0/\s*(a.2-x.2)+t*(b.2-x.2)=0:=by
 obtain⟨c,n⟩:=h
 have o:0<(b.1-x.1)*(b.1-x.1)+(b.2-x.2)*(b.2-x.2):=by
  have p:=Re.Fi (b.1-x.1);have q:=Re.Fi (b.2-x.2);rcases Classical.em (0<(b.1-x.1)*(b.1-x.1)+(b.2-x.2)*(b.2-x.2)) with z | z
  ·exact z
  have g:(b.1-x.1)*(b.1-x.1)=0:=by grind
  have j:(b.2-x.2)*(b.2-x.2)=0:=by grind
  have k:=(Re.Cd g).elim id id;have l:=(Re.Cd j).elim id id;rw[k,l] at n
  exfalso;grind
 refine⟨_,-((a.1-x.1)*(b.1-x.1)+(a.2-x.2)*(b.2-x.2)),o,by grind,?_,?_⟩
 ·unfold AZ at c;grind
 unfold AZ at c;grind
theorem Qk {D:Re×Re->Prop} {x:Re×Re} (h:∀q,D q->q=x\/lx x q):Ext D x:=by
 have G:∀q,D q->(q.1-x.1=0/\q.2-x.2=0)\/lp (q.1-x.1) (q.2-x.2):=fun q j=>(h q j).imp (fun e=>by subst e;exact⟨by grind,by grind⟩) EX.1
 have g:∀q,D q->0<=q.1-x.1:=fun q j=>by rcases G q j with z | z | z <;> grind
 have l:∀q,D q->q.1-x.1=0->0<=q.2-x.2:=fun q j e=>by rcases G q j with z | z | z <;> grind
 have h3:∀q,D q->q.1-x.1=0->q.2-x.2=0->q=x:=fun q j e f=>by
  rcases h q j with z | z
  ·exact z
  rcases EX.1 z with z | z <;> grind
 constructor
 ·intro a b ha hb n;obtain⟨s,t,hs,ht,C,F⟩:=Uy n;have p:=DQ (DL hs) (g a ha);have q:=DQ (DL ht) (g b hb);have k:a.1-x.1=0:=(Re.Cd (show s*(a.1-x.1)=0 by grind)).resolve_left (by grind);have b1:b.1-x.1=0:=(Re.Cd (show t*(b.1-x.1)=0 by grind)).resolve_left (by grind);have p:=DQ (DL hs) (l a ha k);have q:=DQ (DL ht) (l b hb b1);have H:a.2-x.2=0:=(Re.Cd (show s*(a.2-x.2)=0 by grind)).resolve_left (by grind);have:=n.2;rw[k,H] at this;grind
 intro a b c ha hb o hi
 have key:∀u v z:Re,0<u->0<v->0<z->(a.1-x.1)*u+(b.1-x.1)*v+(c.1-x.1)*z=0->(a.2-x.2)*u+(b.2-x.2)*v+(c.2-x.2)*z=0->a=x:=fun u v z hu A B C F=>by
  obtain⟨k1,k2,I⟩:=O1 (DQ (g a ha) (DL hu)) (DQ (g b hb) (DL A)) (DQ (g c o) (DL B)) C;have k:=OV (g a ha) hu k1;have b1:=OV (g b hb) A k2;have c1:=OV (g c o) B I;obtain⟨m1,_,_⟩:=O1 (DQ (l a ha k) (DL hu)) (DQ (l b hb b1) (DL A)) (DQ (l c o c1) (DL B)) F;exact h3 a ha k (OV (l a ha k) hu m1)
 have e:a=x:=by
  rcases hi with⟨i1,i2,i3⟩ |⟨i1,i2,i3⟩
  ·exact key _ _ _ i2 i3 i1 (LP a b c x) (LQ a b c x)
  exact key (-AZ b c x) (-AZ c a x) (-AZ a b x) (by grind) (by grind) (by grind) (by have:=LP a b c x;grind) (by have:=LQ a b c x;grind)
 subst e;have:=Rv a b;rcases hi with⟨i1,i2,i3⟩ |⟨i1,i2,i3⟩
 ·rw[Ic] at i1;grind
 rw[Ic] at i1;grind
theorem gW {D:Re×Re->Prop} {a x c:Re×Re} (B:∀q,D q->0<=AZ a x q) (C:∀q,D q->0<=AZ x c q) (ht:0<AZ a x c):Ext D x:=by
 have J:∀q:Re×Re,AZ a x q=0->AZ x c q=0->q.1-x.1=0/\q.2-x.2=0:=fun q e f=>by
  have k1:AZ a x c*(q.1-x.1)=0:=by
   have:AZ a x c*(q.1-x.1)=(c.1-x.1)*AZ a x q+(a.1-x.1)*AZ x c q:=by unfold AZ;grind
   rw[this,e,f];grind
  have k2:AZ a x c*(q.2-x.2)=0:=by
   have:AZ a x c*(q.2-x.2)=(c.2-x.2)*AZ a x q+(a.2-x.2)*AZ x c q:=by unfold AZ;grind
   rw[this,e,f];grind
  exact⟨(Re.Cd k1).resolve_left (by grind),(Re.Cd k2).resolve_left (by grind)⟩
 have o:∀{u v z:Re} {p q r b d:Re×Re},u*(p.1-x.1)+v*(q.1-x.1)+z*(r.1-x.1)=0->u*(p.2-x.2)+v*(q.2-x.2)+z*(r.2-x.2)=0->u*((x.1-b.1)*(p.2-x.2)-(x.2-b.2)*(p.1-x.1))+v*((x.1-b.1)*(q.2-x.2)-(x.2-b.2)*(q.1-x.1))+z*((x.1-b.1)*(r.2-x.2)-(x.2-b.2)*(r.1-x.1))=0:=fun {u v z p q r b d} e f=>by
  have:u*((x.1-b.1)*(p.2-x.2)-(x.2-b.2)*(p.1-x.1))+v*((x.1-b.1)*(q.2-x.2)-(x.2-b.2)*(q.1-x.1))+z*((x.1-b.1)*(r.2-x.2)-(x.2-b.2)*(r.1-x.1))=(x.1-b.1)*(u*(p.2-x.2)+v*(q.2-x.2)+z*(r.2-x.2))-(x.2-b.2)*(u*(p.1-x.1)+v*(q.1-x.1)+z*(r.1-x.1)):=by grind
  rw[this,e,f];grind
 have G:∀q:Re×Re,AZ a x q=(x.1-a.1)*(q.2-x.2)-(x.2-a.2)*(q.1-x.1):=fun q=>by unfold AZ;grind
 have H:∀q:Re×Re,AZ x c q= -((x.1-c.1)*(q.2-x.2)-(x.2-c.2)*(q.1-x.1)):=fun q=>by unfold AZ;grind
 have g:∀{u v z:Re} {p q r:Re×Re},0<u->0<=v->0<=z->D p->D q->D r->u*(p.1-x.1)+v*(q.1-x.1)+z*(r.1-x.1)=0->u*(p.2-x.2)+v*(q.2-x.2)+z*(r.2-x.2)=0->p.1-x.1=0/\p.2-x.2=0:=fun {u v z p q r} hu I n j h l e f=>by
  have g1:=o (b:=a) (d:=a) e f;rw[<-G,<-G,<-G] at g1;have g2:=o (b:=c) (d:=a) e f;have A:u*AZ x c p+v*AZ x c q+z*AZ x c r=0:=by rw[H,H,H];grind
  obtain⟨k1,_,_⟩:=O1 (DQ (DL hu) (B p j)) (DQ I (B q h)) (DQ n (B r l)) g1;obtain⟨k2,_,_⟩:=O1 (DQ (DL hu) (C p j)) (DQ I (C q h)) (DQ n (C r l)) A;exact J p ((Re.Cd k1).resolve_left (by grind)) ((Re.Cd k2).resolve_left (by grind))
 constructor
 ·intro p q j h k;obtain⟨s,t,hs,F,K,L⟩:=Uy k;obtain⟨k1,k2⟩:=g (z:=0) (r:=q) hs (DL F) (Std.le_refl _) j h h (by grind) (by grind);have:=k.2;rw[k1,k2] at this;grind
 intro p q r j h l hi
 have e:p.1-x.1=0/\p.2-x.2=0:=by
  rcases hi with⟨i1,i2,i3⟩ |⟨i1,i2,i3⟩
  ·exact g i2 (DL i3) (DL i1) j h l (by have:=LP p q r x;grind) (by have:=LQ p q r x;grind)
  exact g (u:= -AZ q r x) (v:= -AZ r p x) (z:= -AZ p q x) (by grind) (by grind) (by grind) j h l (by have:=LP p q r x;grind) (by have:=LQ p q r x;grind)
 have M:AZ p q x=0:=by unfold AZ;grind
 rcases hi with⟨i1,_⟩ |⟨i1,_⟩ <;> grind
theorem gX {D:Re×Re->Prop} {a b c x:Re×Re} (ha:D a) (hb:D b) (n:D c) (I:0<=AZ a b x) (J:0<=AZ b c x) (h3:0<=AZ c a x) (ht:0<AZ a b c) (l:Ext D x):x=a\/x=b\/x=c:=by
 have hs:=eo a b c x;have b1:=LP a b c x;have b2:=LQ a b c x
 have g:∀{p:Re×Re} {u:Re},0<u->(p.1-x.1)*u=0->(p.2-x.2)*u=0->x=p:=fun {p u} hu e f=>by
  have o:=(Re.Cd e).resolve_right (by grind);have A:=(Re.Cd f).resolve_right (by grind);exact Prod.ext (by grind) (by grind)
 have two:∀{p q:Re×Re} {u v:Re},0<u->0<v->(p.1-x.1)*u+(q.1-x.1)*v=0->(p.2-x.2)*u+(q.2-x.2)*v=0->x=p\/bt p q x:=fun {p q u v} hu H e f=>by
  rcases Classical.em (p.1-x.1=0/\p.2-x.2=0) with z | z
  ·exact .inl (Prod.ext (by grind) (by grind))
  right
  have B:AZ p q x*v=0:=by
   have:AZ p q x*v=(p.1-x.1)*((q.2-x.2)*v+(p.2-x.2)*u)-(p.2-x.2)*((q.1-x.1)*v+(p.1-x.1)*u):=by unfold AZ;grind
   rw[this];have:(q.2-x.2)*v+(p.2-x.2)*u=0:=by grind
   have:(q.1-x.1)*v+(p.1-x.1)*u=0:=by grind
   grind
  refine⟨(Re.Cd B).resolve_right (by grind),?_⟩
  have G:0<(p.1-x.1)*(p.1-x.1)+(p.2-x.2)*(p.2-x.2):=by
   have M:=Re.Fi (p.1-x.1);have N:=Re.Fi (p.2-x.2);rcases Classical.em (0<(p.1-x.1)*(p.1-x.1)+(p.2-x.2)*(p.2-x.2)) with y | y
   ·exact y
   have o:(p.1-x.1)*(p.1-x.1)=0:=by grind
   have A:(p.2-x.2)*(p.2-x.2)=0:=by grind
   exact absurd ⟨(Re.Cd o).elim id id,(Re.Cd A).elim id id⟩ z
  have K:((p.1-x.1)*(q.1-x.1)+(p.2-x.2)*(q.2-x.2))*v= -(((p.1-x.1)*(p.1-x.1)+(p.2-x.2)*(p.2-x.2))*u):=by
   have C:(q.1-x.1)*v= -((p.1-x.1)*u):=by grind
   have F:(q.2-x.2)*v= -((p.2-x.2)*u):=by grind
   have:((p.1-x.1)*(q.1-x.1)+(p.2-x.2)*(q.2-x.2))*v=(p.1-x.1)*((q.1-x.1)*v)+(p.2-x.2)*((q.2-x.2)*v):=by grind
   rw[this,C,F];grind
  have L:=HS G hu;rcases Classical.em (0<=(p.1-x.1)*(q.1-x.1)+(p.2-x.2)*(q.2-x.2)) with y | y
  ·have:=DQ y (DL H);exfalso;grind
  grind
 rcases Classical.em (0<AZ a b x) with h | h <;> rcases Classical.em (0<AZ b c x) with j | j <;> rcases Classical.em (0<AZ c a x) with z3 | z3
 ·exact absurd (.inl ⟨h,j,z3⟩) (l.2 a b c ha hb n)
 ·have e:AZ c a x=0:=by grind
  rw[e] at b1 b2;rcases two (p:=a) (q:=c) j h (by grind) (by grind) with k | k
  ·exact .inl k
  exact absurd k (l.1 a c ha n)
 ·have e:AZ b c x=0:=by grind
  rw[e] at b1 b2;rcases two (p:=b) (q:=c) z3 h (by grind) (by grind) with k | k
  ·exact .inr (.inl k)
  exact absurd k (l.1 b c hb n)
 ·have e:AZ b c x=0:=by grind
  have e':AZ c a x=0:=by grind
  rw[e,e'] at b1 b2;exact .inr (.inr (g h (by grind) (by grind)))
 ·have e:AZ a b x=0:=by grind
  rw[e] at b1 b2;rcases two (p:=a) (q:=b) j z3 (by grind) (by grind) with k | k
  ·exact .inl k
  exact absurd k (l.1 a b ha hb)
 ·have e:AZ a b x=0:=by grind
  have e':AZ c a x=0:=by grind
  rw[e,e'] at b1 b2;exact .inl (g j (by grind) (by grind))
 ·have e:AZ b c x=0:=by grind
  have e':AZ a b x=0:=by grind
  rw[e,e'] at b1 b2;exact .inr (.inl (g z3 (by grind) (by grind)))
 exfalso;grind
end Go.Abs
namespace Go.Abs
def o8 (D:Re×Re->Prop) (l:List (Re×Re)):Prop:=∀i a b,l[i]? =some a->l[i+1]? =some b->∀q,D q->0<=AZ a b q
variable {i:Nat}
theorem E9.at {D:Re×Re->Prop}:∀{st:List (Re×Re)} {i:Nat} {a b:Re×Re},E9 D st->st[i]? =some b->st[i+1]? =some a->∀q,D q->0<=AZ a b q
 |[],_,_,_,_,h,_|[_],0,_,_,_,_,h|[_],_+1,_,_,_,h,_=>by simp at h
 | b'::j::r,0,a,b,h,c,g=>by
  obtain rfl:=Option.some.inj c;obtain rfl:=Option.some.inj g;exact h.1
 | b'::j::r,i+1,a,b,h,c,g=>E9.at (st:=j::r) (i:=i) h.2 c g
theorem FQ.at:∀{st:List (Re×Re)} {i:Nat} {a b:Re×Re},FQ st->st[i]? =some b->st[i+1]? =some a->lx a b
 |[],_,_,_,_,h,_|[_],0,_,_,_,_,h|[_],_+1,_,_,_,h,_=>by simp at h
 | b'::j::r,0,a,b,h,c,g=>by
  obtain rfl:=Option.some.inj c;obtain rfl:=Option.some.inj g;exact h.1
 | b'::j::r,i+1,a,b,h,c,g=>FQ.at (st:=j::r) (i:=i) h.2 c g
theorem Conv.at:∀{st:List (Re×Re)} {i:Nat} {a b c:Re×Re},Conv st->st[i]? =some c->st[i+1]? =some b->st[i+2]? =some a->0<AZ a b c
 |[],_,_,_,_,_,h,_,_|[_],0,_,_,_,_,_,h,_|[_],_+1,_,_,_,_,h,_,_|[_,_],0,_,_,_,_,_,_,h|[_,_],1,_,_,_,_,_,h,_|[_,_],_+2,_,_,_,_,h,_,_=>by simp at h
 | l::b'::k::r,0,a,b,c,h,g,j,h3=>by
  obtain rfl:=Option.some.inj g;obtain rfl:=Option.some.inj j;obtain rfl:=Option.some.inj h3;exact h.1
 | l::b'::k::r,i+1,a,b,c,h,g,j,h3=>Conv.at (st:=b'::k::r) (i:=i) h.2 g j h3
theorem FQ.lt {st:List (Re×Re)} (h:FQ st):∀{d:Nat} {a b:Re×Re},st[i]? =some b->st[i+d+1]? =some a->lx a b
 | 0,a,b,g,c=>h.at g c
 | d+1,a,b,g,c=>by
  have j:i+(d+1)+1<st.length:=by
   rcases Nat.lt_or_ge (i+(d+1)+1) st.length with k | k
   ·exact k
   rw[List.getElem?_eq_none k] at c;cases c
  have h3:st[i+d+1]? =some st[i+d+1]:=List.getElem?_eq_getElem (by omega);exact Fx (h.at (i:=i+d+1) h3 c) (h.lt g h3)
theorem SW {st:List (Re×Re)} (cv:Conv st) (h:FQ st) {p:Re×Re} (j:st[i]? =some p):∀{d:Nat} {a b:Re×Re},st[i+d+1]? =some b->st[i+d+2]? =some a->0<AZ a b p
 | 0,a,b,c,g=>cv.at j c g
 | d+1,a,b,c,g=>by
  have l:i+(d+1)+1<st.length:=by
   rcases Nat.lt_or_ge (i+(d+1)+1) st.length with k | k
   ·exact k
   rw[List.getElem?_eq_none k] at c;cases c
  have h3:st[i+d+1]? =some st[i+d+1]:=List.getElem?_eq_getElem (by omega);have hi:=SW cv h j (d:=d) h3 c;exact YQ (h.at (i:=i+(d+1)+1) c g) (h.at (i:=i+d+1) h3 c) (h.lt (d:=d+1) j c) (cv.at (i:=i+d+1) h3 c g) (DL hi)
theorem oC {z a b p:Re×Re} (g:lx z a) (h:lx a b) (h3:lx b p) (j:0<AZ z a b) (l:0<AZ a b p):0<AZ z b p:=by
 have k:=QZ (a:=a.1-z.1) (b:=a.2-z.2) (c:=b.1-a.1) (d:=b.2-a.2) (e:=p.1-b.1) (f:=p.2-b.2) (EX.1 g) (EX.1 h) (EX.1 h3) (by unfold AZ at j;grind) (by unfold AZ at l;grind);unfold AZ at *;grind
theorem Sl {st:List (Re×Re)} (cv:Conv st) (a:FQ st) {d:Nat} {b p:Re×Re} (g:st[i]? =some p) (hb:st[i+d+1]? =some b):∀{e:Nat} {z:Re×Re},st[i+d+e+2]? =some z->0<AZ z b p
 | 0,z,h=>SW cv a g hb h
 | e+1,z,h=>by
  have l:i+d+(e+1)+2<st.length:=by
   rcases Nat.lt_or_ge (i+d+(e+1)+2) st.length with k | k
   ·exact k
   rw[List.getElem?_eq_none k] at h;cases h
  have h3:st[i+d+e+2]? =some st[i+d+e+2]:=List.getElem?_eq_getElem (by omega);have c:st[i+d+1+e+1]? =some st[i+d+e+2]:=by rw[show i+d+1+e+1=i+d+e+2 by omega];exact h3
  have j:st[i+d+1+e+2]? =some z:=by rw[show i+d+1+e+2=i+d+(e+1)+2 by omega];exact h
  exact oC (a.at (i:=i+d+e+2) h3 h) (a.lt (d:=e) hb c) (a.lt (d:=d) g hb) (SW cv a hb (d:=e) c j) (Sl cv a g hb h3)
theorem WD {D:Re×Re->Prop} {z x:Re×Re} (l:D z) (j:Ext D x):∀{W:List (Re×Re)} {b c:Re×Re},(∀q∈b::c::W,D q)->0<=AZ z b x->(∀i a b',(b::c::W)[i]? =some a->(b::c::W)[i+1]? =some b'->0<=AZ a b' x/\0<AZ z a b')->
  (∀e,(b::c::W).getLast? =some e->0<=AZ e z x)->x=z\/x∈b::c::W
 | W,b,c,g,o,hs,h=>by
  obtain⟨s1,s2⟩:=hs 0 b c rfl rfl
  have Kx:0<=AZ c z x->x=z\/x∈b::c::W:=fun k=>by
   rcases gX l (g b (by simp)) (g c (by simp)) o s1 k s2 j with e | e | e
   ·exact .inl e
   ·exact .inr (by simp[e])
   exact .inr (by simp[e])
  rcases Classical.em (0<=AZ c z x) with k | k
  ·exact Kx k
  match W,g,hs,h with
  | [],_,_,h=>exact absurd (h c rfl) k
  | d::n,g,hs,h=>
   have k2:0<=AZ z c x:=by have:=MB c z x;grind
   rcases WD l j (W:=n) (b:=c) (c:=d) (fun q v=>g q (List.mem_cons_of_mem _ v)) k2 (fun i a b' p u=>hs (i+1) a b' p u) (fun e he=>h e (by rw[List.getLast?_cons_cons];exact he)) with e | e
   ·exact .inl e
   exact .inr (List.mem_cons_of_mem _ e)
theorem QH {a b x:Re×Re} (h:AZ a b x=0) (l:lx a x) (n:lx x b):bt a b x:=by
 refine⟨h,?_⟩;have p:=EX.1 l;have q:=EX.1 n;have c:(x.1-a.1)*(b.2-x.2)-(x.2-a.2)*(b.1-x.1)=0:=by unfold AZ at h;grind
 have e:(a.1-x.1)*(b.1-x.1)+(a.2-x.2)*(b.2-x.2)= -((x.1-a.1)*(b.1-x.1)+(x.2-a.2)*(b.2-x.2)):=by grind
 rw[e]
 have g:0<(x.1-a.1)*(b.1-x.1)+(x.2-a.2)*(b.2-x.2):=by
  rcases p with p |⟨j,o⟩ <;> rcases q with q |⟨u,v⟩
  ·have k:(x.1-a.1)*((x.1-a.1)*(b.1-x.1)+(x.2-a.2)*(b.2-x.2))=(b.1-x.1)*((x.1-a.1)*(x.1-a.1)+(x.2-a.2)*(x.2-a.2)):=by grind
   have A:=HS p p;have B:=Re.Fi (x.2-a.2);exact Ry (by rw[k];exact HS q (by grind)) p
  ·rw[u] at c;have z:=(Re.Cd (show (x.1-a.1)*(b.2-x.2)=0 by grind))
   exfalso;rcases z with z | z <;> grind
  ·rw[j] at c;have z:=(Re.Cd (show (x.2-a.2)*(b.1-x.1)=0 by grind))
   exfalso;rcases z with z | z <;> grind
  have:=HS o v;rw[j];grind
 grind
theorem Zt {α:Type} {ρ:α->α->Prop} (has:∀a b,ρ a b->ρ b a->False):∀{l m:List α},l.Pairwise ρ->m.Pairwise ρ->(∀x,x∈l↔x∈m)->l=m
 | [],[],_,_,_=>rfl
 | [],b::m,_,_,h=>absurd ((h b).2 (by simp)) (by simp)
 | a::l,[],_,_,h=>absurd ((h a).1 (by simp)) (by simp)
 | a::l,b::m,g,j,h=>by
  rw[List.pairwise_cons] at g j
  have e:a=b:=by
   rcases List.mem_cons.1 ((h a).1 (by simp)) with k | k
   ·exact k
   rcases List.mem_cons.1 ((h b).2 (by simp)) with k' | k'
   ·exact k'.symm
   exact (has a b (g.1 b k') (j.1 a k)).elim
  subst e;rw[Zt has g.2 j.2 fun x=>?_]
  constructor
  ·intro c;rcases List.mem_cons.1 ((h x).1 (List.mem_cons_of_mem _ c)) with k | k
   ·subst k;exact (has x x (g.1 x c) (g.1 x c)).elim
   exact k
  intro c;rcases List.mem_cons.1 ((h x).2 (List.mem_cons_of_mem _ c)) with k | k
  ·subst k;exact (has x x (j.1 x c) (j.1 x c)).elim
  exact k
end Go.Abs
namespace Go.Abs
def ng (p:Re×Re):Re×Re:=(-p.1,-p.2)
theorem FH (p:Re×Re):ng (ng p)=p:=Prod.ext (by show- -p.1=p.1;grind) (by show- -p.2=p.2;grind)
theorem Ib (a b c:Re×Re):AZ (ng a) (ng b) (ng c)=AZ a b c:=by unfold AZ ng;grind
theorem Lx {a b:Re×Re}:lx (ng a) (ng b)↔lx b a:=by
 unfold lx ng
 constructor
 ·rintro (h |⟨h,k⟩)
  ·exact .inl (by grind)
  exact .inr ⟨by grind,by grind⟩
 rintro (h |⟨h,k⟩)
 ·exact .inl (by grind)
 exact .inr ⟨by grind,by grind⟩
theorem YZ (p:Re×Re):∀st:List (Re×Re),Dl (ng p) (st.map ng)=(Dl p st).map ng
 |[]|[_]=>rfl
 | b::a::r=>by
  show Dl (ng p) (ng b::ng a::r.map ng)=_
  unfold Dl;rw[Ib]
  split
  ·rfl
  exact YZ p (a::r)
theorem VE:∀(ps st:List (Re×Re)),Cs (st.map ng) (ps.map ng)=(Cs st ps).map ng
 | [],_=>rfl
 | p::ps,st=>by
  show Cs (ng p::Dl (ng p) (st.map ng)) (ps.map ng)=_
  rw[YZ];exact VE ps (p::Dl p st)
theorem fN {a b x:Re×Re}:bt (ng a) (ng b) (ng x)↔bt a b x:=by
 unfold bt;rw[Ib];have e:((ng a).1-(ng x).1)*((ng b).1-(ng x).1)+((ng a).2-(ng x).2)*((ng b).2-(ng x).2)=(a.1-x.1)*(b.1-x.1)+(a.2-x.2)*(b.2-x.2):=by unfold ng;grind
 rw[e]
theorem ib {a b c x:Re×Re}:ins (ng a) (ng b) (ng c) (ng x)↔ins a b c x:=by unfold ins;rw[Ib,Ib,Ib]
theorem gV {D:Re×Re->Prop} {x:Re×Re} (h:∀q,D q->q=x\/lx q x):Ext D x:=by
 have k:=Qk (D:=fun q=>D (ng q)) (x:=ng x) fun q n=>(h _ n).imp (fun e=>by rw[<-e,FH]) fun e=>by rw[<-FH q];exact Lx.2 e
 have g:∀a,D a->D (ng (ng a)):=fun a h=>by rw[FH];exact h
 exact⟨fun a b ha hb j=>k.1 (ng a) (ng b) (g a ha) (g b hb) (fN.2 j),fun a b c ha hb l hi=>k.2 (ng a) (ng b) (ng c) (g a ha) (g b hb) (g c l) (ib.2 hi)⟩
theorem G8 {st:List (Re×Re)} {i:Nat} {a:Re×Re} (h:st[i]? =some a):(st.map ng)[i]? =some (ng a):=by rw[List.getElem?_map,h];rfl
structure Poly (D:Re×Re->Prop) (s t:List (Re×Re)) (m r:Nat) (z y:Re×Re):Prop where
 cs:Conv s
 is:FQ s
 ls:E9 D s
 ct:Conv (t.map ng)
 it:FQ (t.map ng)
 lt:∀(i:Nat) (a b:Re×Re),t[i]? =some b->t[i+1]? =some a->∀q,D q->0<=AZ a b q
 hs:s.length=m+1
 ht:t.length=r+1
 m0:0<m
 r0:0<r
 s0:s[0]? =some y
 sm:s[m]? =some z
 t0:t[0]? =some z
 tr:t[r]? =some y
 ms:∀q∈s,D q
 mt:∀q∈t,D q
 lo:∀q,D q->q=z\/lx z q
 hi:∀q,D q->q=y\/lx q y
def Ca (s t:List (Re×Re)):List (Re×Re):=s.reverse.dropLast++t.reverse
section
variable {D:Re×Re->Prop} {s t:List (Re×Re)} {m r:Nat} {z y:Re×Re}
theorem Poly.G7 (P:Poly D s t m r z y) {i:Nat} (h:i<=m):(Ca s t)[i]? =s[m-i]? :=by
 have a:(s.reverse.dropLast).length=m:=by rw[List.length_dropLast,List.length_reverse,P.hs];rfl
 unfold Ca;rcases Nat.lt_or_ge i m with k | k
 ·rw[List.getElem?_append_left (by omega),List.getElem?_dropLast,if_pos (by rw[List.length_reverse,P.hs];omega),List.getElem?_reverse (by rw[P.hs];omega),P.hs] <;> (try congr 1) <;> omega
 obtain rfl:i=m:=by omega
 rw[List.getElem?_append_right (by omega),a,Nat.sub_self,List.getElem?_reverse (by rw[P.ht];omega),P.ht,show r+1-1-0=r by omega,P.tr,P.s0]
theorem Poly.Jt (P:Poly D s t m r z y) {i:Nat} (h:m<=i) (b:i<=m+r):(Ca s t)[i]? =t[m+r-i]? :=by
 have a:(s.reverse.dropLast).length=m:=by rw[List.length_dropLast,List.length_reverse,P.hs];rfl
 unfold Ca;rw[List.getElem?_append_right (by omega),a,List.getElem?_reverse (by rw[P.ht];omega),P.ht] <;> (try congr 1) <;> omega
theorem Poly.len (P:Poly D s t m r z y):(Ca s t).length=m+r+1:=by
 unfold Ca;rw[List.length_append,List.length_dropLast,List.length_reverse,List.length_reverse,P.hs,P.ht];omega
theorem Eu {α:Type} {l:List α} {i:Nat} {a:α} (h:l[i]? =some a):i<l.length:=by
 rcases Nat.lt_or_ge i l.length with k | k
 ·exact k
 rw[List.getElem?_eq_none k] at h;cases h
theorem Poly.side (P:Poly D s t m r z y) {i:Nat} {a b:Re×Re} (g:(Ca s t)[i]? =some a) (c:(Ca s t)[i+1]? =some b):∀q,D q->0<=AZ a b q:=by
 have h:=Eu c;rw[P.len] at h;rcases Nat.lt_or_ge i m with k | k
 ·rw[P.G7 (by omega)] at g c;exact P.ls.at (i:=m-(i+1)) c (by rw[show m-(i+1)+1=m-i by omega];exact g)
 rw[P.Jt (by omega) (by omega)] at g c;exact P.lt (m+r-(i+1)) a b c (by rw[show m+r-(i+1)+1=m+r-i by omega];exact g)
theorem Poly.in (P:Poly D s t m r z y) {i:Nat} {a:Re×Re} (h:(Ca s t)[i]? =some a):D a:=by
 have:=List.mem_of_getElem? h;unfold Ca at this;rcases List.mem_append.1 this with k | k
 ·exact P.ms a (List.mem_reverse.1 ((List.dropLast_sublist _).subset k))
 exact P.mt a (List.mem_reverse.1 k)
theorem Poly.aL (P:Poly D s t m r z y) {i j:Nat} {a b:Re×Re} (k:0<i) (h:i<j) (l:j<=m) (c:(Ca s t)[i]? =some a) (g:(Ca s t)[j]? =some b):0<AZ z a b:=by
 rw[P.G7 (by omega)] at c g;exact Sl P.cs P.is (i:=m-j) (d:=j-i-1) (e:=i-1) g (by rw[show m-j+(j-i-1)+1=m-i by omega];exact c) (by rw[show m-j+(j-i-1)+(i-1)+2=m by omega];exact P.sm)
theorem Poly.aM (P:Poly D s t m r z y) {i j:Nat} {a b:Re×Re} (k:m<=i) (h:i<j) (l:j<m+r) (c:(Ca s t)[i]? =some a) (g:(Ca s t)[j]? =some b):0<AZ z a b:=by
 rw[P.Jt (by omega) (by omega)] at c g;have:=Sl P.ct P.it (i:=0) (d:=m+r-j-1) (e:=j-i-1) (G8 P.t0) (by rw[show 0+(m+r-j-1)+1=m+r-j by omega];exact G8 g) (by rw[show 0+(m+r-j-1)+(j-i-1)+2=m+r-i by omega];exact G8 c);rw[Ib] at this;rw[kP];exact this
theorem Poly.XO (P:Poly D s t m r z y) {a b:Re×Re} (ha:D a) (h:0<AZ z a b):lx z a:=by
 rcases P.lo a ha with e | e
 ·subst e;rw[Rv] at h;exfalso;grind
 exact e
theorem Poly.jR (P:Poly D s t m r z y) {a b:Re×Re} (hb:D b) (h:0<AZ z a b):lx z b:=by
 rcases P.lo b hb with e | e
 ·subst e;rw[Ic] at h;exfalso;grind
 exact e
theorem Poly.Kx (P:Poly D s t m r z y) {i j:Nat} {a b:Re×Re} (p:0<i) (c:i<j) (q:j<m+r) (g:(Ca s t)[i]? =some a) (h:(Ca s t)[j]? =some b):0<AZ z a b:=by
 rcases Nat.lt_or_ge m j with k | k
 ·rcases Nat.lt_or_ge i m with k' | k'
  ·have n:(Ca s t)[m]? =some y:=by rw[P.G7 (Nat.le_refl m),Nat.sub_self];exact P.s0
   have o:=P.aL p k' (Nat.le_refl m) g n;have l:=P.aM (Nat.le_refl m) k q n h;have:=QZ (EX.1 (P.XO (P.in g) o)) (EX.1 (P.XO (P.in n) l)) (EX.1 (P.jR (P.in h) l)) o (DL l);exact this
  exact P.aM k' c q g h
 exact P.aL p c k g h
theorem Poly.ext (P:Poly D s t m r z y) {i:Nat} {a:Re×Re} (h:(Ca s t)[i]? =some a):Ext D a:=by
 have b:=Eu h;rw[P.len] at b
 have c:i=0\/i=m+r->a=z:=fun e=>by
  rcases e with rfl | rfl
  ·rw[P.G7 (Nat.zero_le m),Nat.sub_zero,P.sm] at h;exact (Option.some.inj h).symm
  rw[P.Jt (by omega) (Nat.le_refl _),Nat.sub_self,P.t0] at h;exact (Option.some.inj h).symm
 rcases Classical.em (i=0\/i=m+r) with k | k
 ·rw[c k];exact Qk P.lo
 rcases Classical.em (i=m) with e | e
 ·subst e;rw[P.G7 (Nat.le_refl i),Nat.sub_self,P.s0] at h;rw[<-Option.some.inj h];exact gV P.hi
 have g1:(Ca s t)[i-1]? =some ((Ca s t)[i-1]'(by rw[P.len];omega)):=List.getElem?_eq_getElem _;have g2:(Ca s t)[i+1]? =some ((Ca s t)[i+1]'(by rw[P.len];omega)):=List.getElem?_eq_getElem _;refine gW (P.side g1 (by rw[show i-1+1=i by omega];exact h)) (P.side h g2) ?_;rcases Nat.lt_or_ge i m with q | q
 ·rw[P.G7 (by omega)] at g1 g2 h;exact P.cs.at (i:=m-(i+1)) g2 (by rw[show m-(i+1)+1=m-i by omega];exact h) (by rw[show m-(i+1)+2=m-(i-1) by omega];exact g1)
 rw[P.Jt (by omega) (by omega)] at g1 g2 h;have:=P.ct.at (i:=m+r-(i+1)) (G8 g2) (G8 (by rw[show m+r-(i+1)+1=m+r-i by omega];exact h)) (G8 (by rw[show m+r-(i+1)+2=m+r-(i-1) by omega];exact g1));rwa [Ib] at this
theorem Poly.all (P:Poly D s t m r z y) {x:Re×Re} (v:D x) (he:Ext D x):x∈Ca s t:=by
 have j:(Ca s t)[0]? =some z:=by rw[P.G7 (Nat.zero_le m),Nat.sub_zero];exact P.sm
 have A:(Ca s t)[m+r]? =some z:=by rw[P.Jt (by omega) (Nat.le_refl _),Nat.sub_self];exact P.t0
 have K:D z:=P.in j
 match n:Ca s t,P.len with
 | [],e=>simp at e
 | [_],e=>have:=P.m0;simp at e;omega
 | [_,_],e=>have:=P.m0;have:=P.r0;simp at e;omega
 | [a,b,c],e=>
  have hm:m=1/\r=1:=by have:=P.m0;have:=P.r0;simp at e;omega
  rw[n] at j;obtain rfl:a=z:=Option.some.inj j;have hb:(Ca s t)[m]? =some b:=by rw[n,hm.1];rfl
  have F:b=y:=by rw[P.G7 (Nat.le_refl m),Nat.sub_self,P.s0] at hb;exact (Option.some.inj hb).symm
  have s1:=P.side (i:=0) (a:=a) (b:=b) (by rw[n];rfl) (by rw[n];rfl) x v;have s2:=P.side (i:=1) (a:=b) (b:=c) (by rw[n];rfl) (by rw[n];rfl) x v;have N:c=a:=by rw[n,hm.1,hm.2] at A;exact Option.some.inj A
  subst N;have M:AZ c b x=0:=by have:=MB b c x;grind
  rcases P.lo x v with k | k
  ·simp[k]
  rcases P.hi x v with k' | k'
  ·simp[k',F]
  exact absurd (QH M k (F ▸ k')) (he.1 c b K (P.in hb))
 | a::b::c::d::W,e=>
  have ha:a=z:=by rw[n] at j;exact Option.some.inj j
  obtain⟨U,l,C⟩:∃U l,c::d::W=U++[l]:=⟨(c::d::W).dropLast,(c::d::W).getLast (by simp),(List.dropLast_concat_getLast (by simp)).symm⟩
  have hlen:(a::b::U).length=m+r:=by
   have:(a::b::(U++[l])).length=m+r+1:=by rw[<-C];exact e
   simp at this ⊢;omega
  have u:Ca s t=(a::b::U)++[l]:=by rw[n,C];rfl
  have g:∀i B,(b::U)[i]? =some B->(Ca s t)[i+1]? =some B/\i+1<m+r:=fun i B h=>by
   have:=Eu h;have O:(a::b::U).length=(b::U).length+1:=rfl;refine⟨?_,by omega⟩;rw[u,List.getElem?_append_left (by omega)];exact h
  match U,C,hlen,u,g with
  | [],C,_,_,_=>simp at C
  | p::o,C,hlen,u,g=>
   have hb:=g 0 b rfl
   have key:=WD (D:=D) (z:=z) (x:=x) K he (W:=o) (b:=b) (c:=p) (fun q H=>by
    obtain⟨i,hi⟩:=List.getElem?_of_mem H;exact P.in (g i q hi).1) (P.side j hb.1 x v) (fun i B b' J G=>⟨P.side (g i B J).1 (g (i+1) b' G).1 x v,P.Kx (by omega) (by omega) (g (i+1) b' G).2 (g i B J).1 (g (i+1) b' G).1⟩) (fun q H=>by
    have I:(b::p::o)[(b::p::o).length-1]? =some q:=by rw[<-List.getLast?_eq_getElem?];exact H
    obtain⟨g1,g2⟩:=g _ q I;have Q:(a::b::p::o).length=(b::p::o).length+1:=rfl
    have L:(b::p::o).length-1+1+1=m+r:=by
     have:0<(b::p::o).length:=by simp
     omega
    exact P.side g1 (by rw[L];exact A) x v)
   rw[show a::b::c::d::W=Ca s t from n.symm];rcases key with k | k
   ·rw[k];exact List.mem_of_getElem? j
   obtain⟨i,hi⟩:=List.getElem?_of_mem k;exact List.mem_of_getElem? (g i x hi).1
end
end Go.Abs
namespace Go.Abs
theorem kW {S:List (Re×Re)} (K:S.Pairwise lx) (I:2<=S.length):∃m r z y,Poly (fun q=>q∈S) (Cs [] S) (Cs [] S.reverse) m r z y:=by
 obtain⟨p,g,rfl⟩:∃p g,S=p::g:=by
  cases S with
  | nil=>simp at I
  | cons p g=>exact⟨p,g,rfl⟩
 have o:=VH K
 have Q:((p::g).reverse.map ng).Pairwise lx:=by
  rw[List.pairwise_map,List.pairwise_reverse];exact K.imp fun h=>Lx.2 h
 obtain⟨y,S2,v⟩:∃y S2,(p::g).reverse=y::S2:=by
  cases e:(p::g).reverse with
  | nil=>simp at e
  | cons y S2=>exact⟨y,S2,rfl⟩
 have L:(ng y::S2.map ng).Pairwise lx:=by rw[v] at Q;exact Q
 have k1:=VH L
 have he:Cs [] (ng y::S2.map ng)=(Cs [] (y::S2)).map ng:=by
  have:=VE (y::S2) [];exact this
 rw[he] at k1;have hm:∀q,q∈y::S2↔q∈p::g:=fun q=>by rw[<-v,List.mem_reverse]
 have J:∀q,q∈p::g->ng q∈ng y::S2.map ng:=fun q j=>by
  have:=List.mem_map_of_mem (f:=ng) ((hm q).2 j);exact this
 have H:y∈p::g:=(hm y).1 (by simp)
 have A:∀q,q∈p::g->q=y\/lx q y:=fun q j=>by
  rcases k1.low (ng q) (J q j) with e | e
  ·left;have:=congrArg ng e;rw[FH,FH] at this;exact this.symm
  right;exact Lx.1 e
 have F:∀q,q∈p::g->q=p\/lx p q:=fun q j=>(o.low q j).imp (fun e=>e.symm) id
 have G:p≠y:=by
  intro e;have h3:g≠[]:=fun e=>by rw[e] at I;simp at I
  obtain⟨q,j⟩:=List.exists_mem_of_ne_nil g h3;have l1:=(List.pairwise_cons.1 K).1 q j;rcases A q (List.mem_cons_of_mem _ j) with k | k
  ·rw[k,<-e] at l1;exact Fw l1
  rw[<-e] at k;exact Fw (Fx l1 k)
 have M:∃r,Cs [] (p::g)=y::r:=by
  cases e:Cs [] (p::g) with
  | nil=>have:=o.bot;rw[e] at this;cases this
  | cons c r=>
   have k:=o.top c r e y H;have O:=o.sub c (by rw[e];simp);rcases k with k | k
   ·exact⟨r,by rw[k]⟩
   rcases A c O with k' | k'
   ·exact⟨r,by rw[k']⟩
   exact (Fw (Fx k k')).elim
 have N:∃r,Cs [] (y::S2)=p::r:=by
  cases e:Cs [] (y::S2) with
  | nil=>have:=k1.bot;rw[e] at this;cases this
  | cons c r=>
   have k:=k1.top (ng c) (r.map ng) (by rw[e];rfl) (ng p) (J p (by simp))
   have O:c∈p::g:=by
    have:=k1.sub (ng c) (by rw[e];simp)
    obtain⟨u,T,R⟩:∃u,u∈y::S2/\ng u=ng c:=by
     rcases List.mem_cons.1 this with q | q
     ·exact⟨y,by simp,q.symm⟩
     obtain⟨u,a,b⟩:=List.mem_map.1 q;exact⟨u,List.mem_cons_of_mem _ a,b⟩
    have:=congrArg ng R;rw[FH,FH] at this;rw[<-this];exact (hm u).1 T
   rcases k with k | k
   ·have:=congrArg ng k;rw[FH,FH] at this;exact⟨r,by rw[this]⟩
   have k:=Lx.1 k;rcases F c O with k' | k'
   ·exact⟨r,by rw[k']⟩
   exact (Fw (Fx k k')).elim
 obtain⟨s',l⟩:=M;obtain⟨t',n⟩:=N
 have B:(Cs [] (p::g))[(y::s').length-1]? =some p:=by
  have:=o.bot;rw[List.getLast?_eq_getElem?,l] at this;rw[l];exact this
 have C:(Cs [] (y::S2))[(p::t').length-1]? =some y:=by
  have:=k1.bot;rw[List.getLast?_eq_getElem?,n,List.getElem?_map] at this;simp only[List.map_cons,List.length_cons,List.length_map] at this;rw[n];cases e:(p::t')[t'.length+1-1]? with
  | none=>rw[e] at this;cases this
  | some c=>
   rw[e] at this;have:=congrArg ng (Option.some.inj this);rw[FH,FH] at this;rw[this]
 refine⟨s'.length,t'.length,p,y,?_⟩;rw[v];refine⟨o.conv,o.Qy,o.left,k1.conv,k1.Qy,fun i a b hb ha q j=>?_,by rw[l];rfl,by rw[n];rfl,?_,?_,by rw[l];rfl,B,by rw[n];rfl,C,o.sub,fun q j=>?_,F,A⟩
 ·have:=k1.left.at (G8 hb) (G8 ha) (ng q) (J q j);rwa [Ib] at this
 ·rcases Nat.eq_zero_or_pos s'.length with k | k
  ·have:s'=[]:=List.eq_nil_of_length_eq_zero k;subst this;rw[l] at B;exact absurd (Option.some.inj B).symm G
  exact k
 ·rcases Nat.eq_zero_or_pos t'.length with k | k
  ·have:t'=[]:=List.eq_nil_of_length_eq_zero k;subst this;rw[n] at C;exact absurd (Option.some.inj C) G
  exact k
 have:=k1.sub (ng q) (List.mem_map_of_mem j);rcases List.mem_cons.1 this with k | k
 ·have:=congrArg ng k;rw[FH,FH] at this;rw[this];exact H
 obtain⟨u,a,b⟩:=List.mem_map.1 k;have:=congrArg ng b;rw[FH,FH] at this;rw[<-this];exact (hm u).1 (List.mem_cons_of_mem _ a)
theorem iL {S V:List (Re×Re)} (F:S.Pairwise lx) (A:2<=S.length) (hV:V=(Cs [] S).reverse.dropLast++(Cs [] S.reverse).reverse.dropLast):
  (∀x,x∈V↔x∈S/\Ext (fun q=>q∈S) x)/\∃z W,V=z::W/\(∀q∈S,q=z\/lx z q)/\(∀q∈W,lx z q)/\W.Pairwise fun a b=>0<AZ z a b:=by
 obtain⟨m,r,z,y,P⟩:=kW F A
 have o:Ca (Cs [] S) (Cs [] S.reverse)=V++[z]:=by
  have e:(Cs [] S.reverse).reverse=(Cs [] S.reverse).reverse.dropLast++[z]:=by
   have n:=P.t0;cases e:Cs [] S.reverse with
   | nil=>rw[e] at n;cases n
   | cons c t=>
    rw[e] at n;obtain rfl:c=z:=Option.some.inj n;simp
  unfold Ca;rw[e,hV,<-List.append_assoc]
 have H:V.length=m+r:=by have:=P.len;rw[o] at this;simp at this;omega
 have g:∀i a,V[i]? =some a->(Ca (Cs [] S) (Cs [] S.reverse))[i]? =some a/\i<m+r:=fun i a h=>by
  have:=Eu h;exact⟨by rw[o,List.getElem?_append_left this];exact h,by omega⟩
 have l:V[0]? =some z:=by
  have:(Ca (Cs [] S) (Cs [] S.reverse))[0]? =some z:=by rw[P.G7 (Nat.zero_le m),Nat.sub_zero];exact P.sm
  rw[o,List.getElem?_append_left (by have:=P.m0;omega)] at this;exact this
 refine⟨fun x=>⟨fun p=>?_,fun⟨p,he⟩=>?_⟩,?_⟩
 ·obtain⟨i,hi⟩:=List.getElem?_of_mem p;exact⟨P.in (g i x hi).1,P.ext (g i x hi).1⟩
 ·have:=P.all p he;rw[o] at this;rcases List.mem_append.1 this with k | k
  ·exact k
  rw[List.mem_singleton.1 k];exact List.mem_of_getElem? l
 cases V with
 | nil=>cases l
 | cons c W=>
  obtain rfl:c=z:=Option.some.inj l;refine⟨c,W,rfl,P.lo,fun q G=>?_,?_⟩
  ·obtain⟨i,hi⟩:=List.getElem?_of_mem G;obtain⟨g1,g2⟩:=g (i+1) q (by rw[List.getElem?_cons_succ];exact hi);rcases Nat.lt_or_ge m (i+1) with k | k
   ·rw[P.Jt (by omega) (by omega)] at g1;have:=P.it.lt (i:=0) (d:=m+r-(i+1)-1) (G8 P.t0) (by rw[show 0+(m+r-(i+1)-1)+1=m+r-(i+1) by omega];exact G8 g1);exact Lx.1 this
   rw[P.G7 k] at g1;exact P.is.lt (i:=m-(i+1)) (d:=i) g1 (by rw[show m-(i+1)+i+1=m by omega];exact P.sm)
  rw[List.pairwise_iff_getElem];intro i j hi C B;have v:(c::W)[i+1]? =some W[i]:=by rw[List.getElem?_cons_succ];exact List.getElem?_eq_getElem hi
  have u:(c::W)[j+1]? =some W[j]:=by rw[List.getElem?_cons_succ];exact List.getElem?_eq_getElem C
  exact P.Kx (by omega) (by omega) (g _ _ u).2 (g _ _ v).1 (g _ _ u).1
end Go.Abs
namespace Go.Abs
structure Hy (P:Int->Re×Re) (cmp:Int->Int->Int) (BT:Int->Int->Int->Int):Prop where
 eq:∀a b,cmp a b=0↔P a=P b
 lt:∀a b,cmp a b<0↔lx (P a) (P b)
 AZ:∀a b c,0<BT a b c↔0<AZ (P a) (P b) (P c)
section
variable {P:Int->Re×Re} {cmp:Int->Int->Int} {BT:Int->Int->Int->Int}
theorem Hy.gt (B:Hy P cmp BT) {a b:Int} (h:0<cmp a b):lx (P b) (P a):=by
 rcases Ly (P a) (P b) with k | k | k
 ·have:=(B.lt a b).2 k;omega
 ·have:=(B.eq a b).2 k;omega
 exact k
theorem YY (B:Hy P cmp BT) (i:Int):∀st:List Int,(Dc BT i st).map P=Dl (P i) (st.map P)
 |[]|[_]=>rfl
 | b::a::r=>by
  show _=Dl (P i) (P b::P a::r.map P)
  unfold Dc Dl
  by_cases h:0<BT a b i
  ·rw[if_pos h,if_pos ((B.AZ a b i).1 h)];rfl
  rw[if_neg h,if_neg (fun k=>h ((B.AZ a b i).2 k))];exact YY B i (a::r)
theorem VB (B:Hy P cmp BT):∀(l st:List Int),(Ck BT l st).map P=Cs (st.map P) (l.map P)
 | [],_=>rfl
 | i::l,st=>by
  show (Ck BT l (i::Dc BT i st)).map P=Cs (P i::Dl (P i) (st.map P)) (l.map P)
  rw[VB B l,<-YY B];rfl
theorem Wn (B:Hy P cmp BT) {i:Int}:∀{L:List Int},(L.map P).Pairwise lx->((Dy cmp i L).map P).Pairwise lx/\((∃y∈L,P y=P i)->Dy cmp i L=L)/\((∀y∈L,P y≠P i)->∀x,x∈Dy cmp i L↔x=i\/x∈L)
 | [],_=>⟨by simp[Dy],fun⟨y,c,_⟩=>by simp at c,fun _ x=>by simp[Dy]⟩
 | j::r,h=>by
  rw[List.map_cons,List.pairwise_cons] at h;obtain⟨k1,k2,u⟩:=Wn B (i:=i) h.2;unfold Dy
  split
  ·rename_i l
   have k:=(B.lt j i).1 l;refine⟨?_,fun⟨y,c,e⟩=>?_,fun n x=>?_⟩
   ·rw[List.map_cons,List.pairwise_cons];refine⟨fun q o=>?_,k1⟩;obtain⟨x,p,rfl⟩:=List.mem_map.1 o;rcases RI p with e | e
    ·rw[e];exact k
    exact h.1 _ (List.mem_map_of_mem e)
   ·rcases List.mem_cons.1 c with e' | e'
    ·rw[e'] at e;rw[e] at k;exact (Fw k).elim
    rw[k2 ⟨y,e',e⟩]
   rw[List.mem_cons,u (fun y c=>n y (List.mem_cons_of_mem _ c)) x,List.mem_cons]
   constructor
   ·rintro (e | e | e)
    ·exact .inr (.inl e)
    ·exact .inl e
    exact .inr (.inr e)
   rintro (e | e | e)
   ·exact .inr (.inl e)
   ·exact .inl e
   exact .inr (.inr e)
  split
  ·rename_i _ he
   refine⟨by rw[List.map_cons,List.pairwise_cons];exact h,fun _=>rfl,fun n=>absurd ((B.eq j i).1 he) (n j (by simp))⟩
  rename_i v A
  have g:=B.gt (a:=j) (b:=i) (by omega);refine⟨?_,fun⟨y,c,e⟩=>?_,fun _ x=>by simp⟩
  ·rw[List.map_cons,List.pairwise_cons];refine⟨fun q o=>?_,by rw[List.map_cons,List.pairwise_cons];exact h⟩;rcases List.mem_cons.1 (show q∈P j::r.map P from o) with e | e
   ·rw[e];exact g
   exact Fx g (h.1 q e)
  rcases List.mem_cons.1 c with e' | e'
  ·rw[e'] at e;rw[e] at g;exact (Fw g).elim
  have:=h.1 _ (List.mem_map_of_mem e');rw[e] at this;exact (Fw (Fx g this)).elim
theorem Me (B:Hy P cmp BT):∀n:Nat,((CL cmp n).map P).Pairwise lx/\∀x,x∈CL cmp n↔∃k:Nat,x=k/\k<n/\∀j:Nat,j<k->P j≠P k
 | 0=>⟨by simp[CL],fun x=>by simp[CL]⟩
 | n+1=>by
  obtain⟨u,p⟩:=Me B n;obtain⟨k1,k2,G⟩:=Wn B (i:=(n:Int)) u;refine⟨k1,fun x=>?_⟩
  have first:∀m:Nat,m<n->∃k:Nat,k<=m/\P k=P m/\∀j:Nat,j<k->P j≠P k:=by
   intro m
   induction m using Nat.strongRecOn with
   | _ m F=>
    intro hm;rcases Classical.em (∃j:Nat,j<m/\P j=P m) with⟨j,o,e⟩ | h
    ·obtain⟨k,a,b,c⟩:=F j o (by omega);exact⟨k,by omega,b.trans e,c⟩
    exact⟨m,Nat.le_refl _,rfl,fun j o e=>h ⟨j,o,e⟩⟩
  rcases Classical.em (∃j:Nat,j<n/\P j=P n) with⟨j,o,e⟩ | h
  ·obtain⟨k,a,b,c⟩:=first j o
   have hs:Dy cmp n (CL cmp n)=CL cmp n:=k2 ⟨k,(p k).2 ⟨k,rfl,by omega,c⟩,b.trans e⟩;rw[CL,hs,p]
   constructor
   ·rintro⟨k',g,b',l⟩;exact⟨k',g,by omega,l⟩
   rintro⟨k',g,b',l⟩
   refine⟨k',g,?_,l⟩;rcases Nat.lt_or_ge k' n with q | q
   ·exact q
   obtain rfl:k'=n:=by omega
   exact absurd e (l j o)
  have A:∀y∈CL cmp n,P y≠P n:=fun y C e=>by
   obtain⟨k,rfl,v,_⟩:=(p y).1 C;exact h ⟨k,v,e⟩
  rw[CL,G A,p]
  constructor
  ·rintro (e |⟨k',g,b',l⟩)
   ·exact⟨n,e,by omega,fun j o e'=>h ⟨j,o,e'⟩⟩
   exact⟨k',g,by omega,l⟩
  rintro⟨k',g,b',l⟩
  rcases Nat.lt_or_ge k' n with q | q
  ·exact .inr ⟨k',g,q,l⟩
  left;rw[g];congr 1;omega
structure Iz (P:Int->Re×Re) (S R:List Int):Prop where
 mem:∀x,x∈R↔x∈S/\Ext (fun q=>q∈S.map P) (P x)
 low:S=[]\/∃z W,R=z::W/\(∀q∈S,P q=P z\/lx (P z) (P q))/\(∀q∈W,lx (P z) (P q))/\W.Pairwise fun a b=>0<AZ (P z) (P a) (P b)
theorem Lo {S:List Int} (c:(S.map P).Pairwise lx):∀a∈S,∀b∈S,P a=P b->a=b:=by
 induction S with
 | nil=>intro a ha;simp at ha
 | cons s S g=>
  rw[List.map_cons,List.pairwise_cons] at c;intro a ha b hb e;rcases List.mem_cons.1 ha with ha | ha <;> rcases List.mem_cons.1 hb with hb | hb
  ·rw[ha,hb]
  ·rw[ha] at e;have:=c.1 _ (List.mem_map_of_mem hb);rw[e] at this;exact (Fw this).elim
  ·rw[hb] at e;have:=c.1 _ (List.mem_map_of_mem ha);rw[e] at this;exact (Fw this).elim
  exact g c.2 a ha b hb e
theorem Iz.uniq {S R R':List Int} (A:(S.map P).Pairwise lx) (h:Iz P S R) (h':Iz P S R'):R=R':=by
 rcases h.low with e |⟨z,W,hR,C,p,B⟩
 ·subst e
  have:∀{L:List Int},Iz P [] L->L=[]:=fun {L} k=>by
   cases L with
   | nil=>rfl
   | cons x L=>have:=((k.mem x).1 (by simp)).1;simp at this
  rw[this h,this h']
 rcases h'.low with e |⟨z',F,g,u,j,o⟩
 ·have:=((h.mem z).1 (by rw[hR];simp)).1;rw[e] at this;simp at this
 have l:=((h.mem z).1 (by rw[hR];simp)).1;have c:=((h'.mem z').1 (by rw[g];simp)).1
 have e:z=z':=by
  refine Lo A z l z' c ?_;rcases C z' c with k | k
  ·exact k.symm
  rcases u z l with k' | k'
  ·exact k'
  exact (Fw (Fx k k')).elim
 subst e
 have v:∀{V:List Int} (hV:∀q∈V,lx (P z) (P q)) (x:Int),x∈V↔x∈z::V/\x≠z:=fun {V} hV x=>
  ⟨fun n=>⟨List.mem_cons_of_mem _ n,fun e=>by subst e;exact Fw (hV x n)⟩,fun⟨n,e⟩=>(List.mem_cons.1 n).resolve_left e⟩
 rw[hR,g]
 congr 1
 refine Zt (ρ:=fun a b=>0<AZ (P z) (P a) (P b)) (fun a b k k'=>by have:=MC (P z) (P a) (P b);grind) B o fun x=>?_
 rw[v p,v j,<-hR,<-g,h.mem,h'.mem]
theorem iJ (B:Hy P cmp BT) (n:Nat):Iz P (CL cmp n) (Gd cmp BT n):=by
 obtain⟨o,_⟩:=Me B n;unfold Gd
 split
 ·rename_i h
  match G:CL cmp n,h with
  | [],_=>exact⟨fun x=>by simp,.inl rfl⟩
  | [s],_=>
   have he:Ext (fun q=>q∈[s].map P) (P s):=Qk fun q j=> .inl (by simpa using j)
   exact⟨fun x=>⟨fun g=>⟨g,by rw[List.mem_singleton.1 g];exact he⟩,fun g=>g.1⟩,.inr ⟨s,[],rfl,fun q j=> .inl (by rw[List.mem_singleton.1 j]),by simp,by simp⟩⟩
  | _::_::_,h=>simp at h
 rename_i h
 generalize CL cmp n=S at o h
 have A:2<=(S.map P).length:=by rw[List.length_map];omega
 have hm:∀l:List Int,(Ck BT l []).map P=Cs [] (l.map P):=fun l=>VB B l []
 obtain⟨k1,z,W,k2,C,F,p⟩:=iL (V:=((Ck BT S []).reverse.dropLast++(Ck BT S.reverse []).reverse.dropLast).map P) o A (by
  rw[List.map_append,List.map_dropLast,List.map_dropLast,List.map_reverse,List.map_reverse,hm,hm,List.map_reverse])
 have k:∀x∈(Ck BT S []).reverse.dropLast++(Ck BT S.reverse []).reverse.dropLast,x∈S:=fun x g=>by
  rcases List.mem_append.1 g with q | q
  ·exact (RH (List.mem_reverse.1 ((List.dropLast_sublist _).subset q))).resolve_right (by simp)
  exact List.mem_reverse.1 ((RH (List.mem_reverse.1 ((List.dropLast_sublist _).subset q))).resolve_right (by simp))
 generalize (Ck BT S []).reverse.dropLast++(Ck BT S.reverse []).reverse.dropLast=V at*
 refine⟨fun x=>⟨fun g=>⟨k x g,((k1 (P x)).1 (List.mem_map_of_mem g)).2⟩,fun⟨g,he⟩=>?_⟩,.inr ?_⟩
 ·obtain⟨x',a,b⟩:=List.mem_map.1 ((k1 (P x)).2 ⟨List.mem_map_of_mem g,he⟩);rw[<-Lo o x' (k x' a) x g b];exact a
 cases V with
 | nil=>cases k2
 | cons c V=>
  obtain⟨u,v⟩:=List.cons.inj (show P c::V.map P=z::W from k2);subst u;subst v;refine⟨c,V,rfl,fun q j=>C _ (List.mem_map_of_mem j),fun q j=>F _ (List.mem_map_of_mem j),?_⟩;rw[List.pairwise_map] at p;exact p
end
end Go.Abs
namespace Go.Abs
open Go.RowKit
def Iv (px py:Nat->Re) (c j k m:Nat):Prop:=c≠j->c≠k->¬GO (px j) (py j) (px k) (py k) (px c) (py c)/\∀i,i<m->i≠c->¬ins (px j,py j) (px k,py k) (px i,py i) (px c,py c)
def Je (px py:Nat->Re) (n c:Nat):Prop:=∀j k,j<n->k<j->Iv px py c j k k
variable {TT:List (List Rat)->Prop} {en:Bool} {w:List (List Rat)} {xx yx:Re}
theorem KX {p:Nat->Prop} {k:Nat} (h:∀b,b<k->p b) (c:p k):∀b,b<k+1->p b:=fun b hb=>by
 rcases Nat.lt_or_ge b k with a | a
 ·exact h b a
 obtain rfl:b=k:=by omega
 exact c
theorem MA (xp yp xq yq xr yr:Re): -(yq-yp)*(xr-xp)+(xq-xp)*(yr-yp)=AZ (xp,yp) (xq,yq) (xr,yr):=by unfold AZ;grind
theorem ie {xp yp xq yq xr yr:Re} {a b c:Int} (ha:a=An (-(yq-yp)*(xx-xp)+(xq-xp)*(yx-yp))) (hb:b=An (-(yr-yq)*(xx-xq)+(xr-xq)*(yx-yq))) (k:c=An (-(yp-yr)*(xx-xr)+(xp-xr)*(yx-yr))):
  (a≠0/\a=b/\b=c)↔ins (xp,yp) (xq,yq) (xr,yr) (xx,yx):=by
 rw[MA] at ha hb k;unfold ins
 generalize AZ (xp,yp) (xq,yq) (xx,yx)=u at*
 generalize AZ (xq,yq) (xr,yr) (xx,yx)=v at*
 generalize AZ (xr,yr) (xp,yp) (xx,yx)=w at*
 rcases Df u with⟨g,j⟩ |⟨g,j⟩ |⟨g,j⟩ <;> rcases Df v with⟨b1,b2⟩ |⟨b1,b2⟩ |⟨b1,b2⟩ <;> rcases Df w with⟨c1,c2⟩ |⟨c1,c2⟩ |⟨c1,c2⟩ <;> rw[j] at ha <;> rw[b2] at hb <;> rw[c2] at k <;> subst ha hb k <;> first | exact⟨fun _=> .inl ⟨g,b1,c1⟩,fun _=>by decide⟩ | exact⟨fun _=> .inr ⟨g,b1,c1⟩,fun _=>by decide⟩ | exact⟨fun h=>absurd h (by decide),fun h=>by exfalso;rcases h with⟨d1,d2,d3⟩ |⟨d1,d2,d3⟩ <;> grind⟩
theorem oe (F:Fd TT w) {Av Aw Ay BF BX Ba g h:List LR} {As Au Ax BE BU BZ b c:LR} {xp yp xq yq xr yr:Re} {kp kq kr B:Nat} (G:Vm TT w 1950000 kp kp Av As Aw Au xp yp) (H:Vm TT w 1950000 kq kq Ay Ax BF BE xq yq) (I:Vm TT w 1950000 kr kr BX BU Ba BZ xr yr) (u:Vm TT w 1950000 B B g b h c xx yx) (a:en=true↔ins (xp,yp) (xq,yq) (xr,yr) (xx,yx)) (J:4*kp+4*kq+4*kr+2*B+118<=80000):CF 264 [.agg (Af Av As Aw Au),.agg (Af Ay Ax BF BE),.agg (Af BX BU Ba BZ),.agg (Af g b h c)] (.AG [(false,[.bool en]),(false,[.int .i64 0])]):=by
 obtain⟨s1,l⟩:∃z,z=An (-(yq-yp)*(xx-xp)+(xq-xp)*(yx-yp)):=⟨_,rfl⟩
 obtain⟨s2,n⟩:∃z,z=An (-(yr-yq)*(xx-xq)+(xr-xq)*(yx-yq)):=⟨_,rfl⟩
 obtain⟨K,o⟩:∃z,z=An (-(yp-yr)*(xx-xr)+(xp-xr)*(yx-yr)):=⟨_,rfl⟩
 rw[<-ie l n o] at a;refine CJ Tryz.func264 fun E q=>?_
 conv=>cbv
 refine AB q (Mr F G H u l (by omega)) ?_;conv=>cbv
 refine AB q (Mr F H I u n (by omega)) ?_;conv=>cbv
 refine AB q (Mr F I G u o (by omega)) ?_;conv=>cbv
 refine AU ?_;conv=>cbv
 refine AU ?_;conv=>cbv
 refine AU ?_;conv=>cbv
 intro n52 j;conv=>cbv
 cases n52 <;> conv=>cbv
 ·have v:=Co j;exact AD ⟨⟨rfl,congrArg _ (Bool.eq_false_iff.2 fun z=>absurd (a.1 z) (by omega)),trivial⟩,t2,trivial⟩
 have v:=Cp j;intro C k;conv=>cbv
 cases C <;> conv=>cbv
 ·have A:=Ah k;exact AD ⟨⟨rfl,congrArg _ (Bool.eq_false_iff.2 fun z=>absurd (a.1 z) (by omega)),trivial⟩,t2,trivial⟩
 have A:=Aj k;intro n61 p;conv=>cbv
 exact AD ⟨⟨rfl,congrArg _ (by rw[p,Bool.eq_iff_iff,a,beq_iff_eq];omega),trivial⟩,t2,trivial⟩
theorem oa (F:Fd TT w) {Q:List (el Ai)} {px py:Nat->Re} (O:Fl TT w 1950000 1 Q px py) {ci:Int} {g:Nat} (ad:AO ci g) (hc:g<Q.length) (h9:Q.length<=1000) (R:en=true↔Je px py Q.length g):CF 164 [.one (.sl Ai Q),.one (.int .i64 ci)] (.AG [(false,[.bool en]),(false,[.int .i64 0])]):=by
 have ax:=ad.eq;refine CJ Tryz.func164 fun E hE=>?_
 conv=>cbv
 refine .inr ?_;obtain⟨J0,N⟩:=xJ fun vs T k=>∃(c:Nat) (j:Int),vs=[.one (.sl Ai Q),.one (.int .i64 ci),.one (.int .i64 j)]/\(AO j c/\c<=Q.length)/\(∀a,a<c->∀b,b<a->Iv px py g a b b)/\k+c=Q.length
 refine⟨[],[0,1,6],[],J0,⟨Q.length,by rw[N];exact⟨0,0,rfl,⟨Al 0,by omega⟩,fun a h=>absurd h (by omega),by omega⟩⟩,?_⟩;intro vs T aG A;rw[N] at A;obtain⟨c,j,rfl,⟨A,aA⟩,C,aB⟩:=A;conv=>cbv
 have ej:=A.eq;rintro aJ ⟨aw,f13⟩;conv=>cbv
 intro ai U;conv=>cbv
 cases ai <;> conv=>cbv
 ·have af:=AW U;exact AD ⟨⟨rfl,congrArg _ (R.2 (by rw[show Q.length=c by omega];exact fun a b h1 h2=>C a h1 b h2)),trivial⟩,t2,trivial⟩
 have af:=AY U;refine .inr ?_;refine .inr ?_;obtain⟨J1,o⟩:=xJ fun vs T k=>∃(k':Nat) (S:Int),vs=[.one (.sl Ai Q),.one (.int .i64 ci),.one (.int .i64 j),.one (.int .i64 S)]/\(AO S k'/\k'<=c)/\(∀b,b<k'->Iv px py g c b b)/\k+k'=c
 refine⟨[],[0,1,6,7],[],J1,⟨c,by rw[o];exact⟨0,0,rfl,⟨Al 0,by omega⟩,fun b h=>absurd h (by omega),by omega⟩⟩,?_⟩;intro vs T aH A;rw[o] at A;obtain⟨k',S,rfl,⟨ae,aE⟩,n,aC⟩:=A;conv=>cbv
 have ay:=ae.eq;intro n19 V;conv=>cbv
 cases n19 <;> conv=>cbv
 ·have ag:=AW V;intro n16 az;conv=>cbv
  refine AI ?_;refine⟨Q.length-(c+1),?_,?_⟩
  ·omega
  rw[N];exact⟨c+1,_,rfl,⟨⟨by omega⟩,by omega⟩,KX (p:=fun a=>∀b,b<a->Iv px py g a b b) C (fun b h1=>n b (by omega)),by omega⟩
 have ag:=AY V;refine .inr ?_;intro n24 X;conv=>cbv
 cases n24 <;> conv=>cbv
 ·have a2:=Ah X;intro n28 Y;conv=>cbv
  cases n28 <;> conv=>cbv
  ·have a5:=Ah Y;refine Exists.elim (AK (l:=Q) (i:=c) (by omega)) fun al G=>?_
   refine⟨al,fun _=>⟨by omega,by rw[show (j).toNat=c by omega];exact G⟩,?_⟩;try conv=>cbv
   refine Exists.elim (AK (l:=Q) (i:=k') (by omega)) fun an H=>?_
   refine⟨an,fun _=>⟨by omega,by rw[show (S).toNat=k' by omega];exact H⟩,?_⟩;try conv=>cbv
   refine Exists.elim (AK (l:=Q) (i:=g) (by omega)) fun ao I=>?_
   refine⟨ao,fun _=>⟨by omega,by rw[show (ci).toNat=g by omega];exact I⟩,?_⟩;try conv=>cbv
   refine Exists.elim (Dv (GO (px c) (py c) (px k') (py k') (px g) (py g))) fun a7 q=>?_
   refine AB hE (oX F (O _ _ G) (O _ _ H) (O _ _ I) q (by omega)) ?_;conv=>cbv
   refine BG ?_;cases a7 <;> conv=>cbv
   ·have ab:¬GO (px c) (py c) (px k') (py k') (px g) (py g):=fun z=>absurd (q.2 z) (by decide)
    refine .inr ?_;obtain⟨J2,B⟩:=xJ fun vs T k=>∃(m':Nat) (m:Int),vs=[.one (.sl Ai Q),.one (.int .i64 ci),.one (.int .i64 j),.one (.int .i64 S),.one (.int .i64 m)]/\(AO m m'/\m'<=k')/\(∀i,i<m'->i≠g->¬ins (px c,py c) (px k',py k') (px i,py i) (px g,py g))/\k+m'=k'
    refine⟨[],[0,1,6,7,8],[],J2,⟨k',by rw[B];exact⟨0,0,rfl,⟨Al 0,by omega⟩,fun i h=>absurd h (by omega),by omega⟩⟩,?_⟩;intro vs T aI A;rw[B] at A;obtain⟨m',m,rfl,⟨hm,aF⟩,v,aD⟩:=A;conv=>cbv
    have em:=hm.eq;intro n45 Z;conv=>cbv
    cases n45 <;> conv=>cbv
    ·have ah:=AW Z;intro n21 W;conv=>cbv
     refine AI ?_;refine⟨c-(k'+1),?_,?_⟩
     ·omega
     rw[o];exact⟨k'+1,_,rfl,⟨⟨by omega⟩,by omega⟩,KX (p:=fun b=>Iv px py g c b b) n (fun _ _=>⟨ab,fun m h1 h2=>v m (by omega) h2⟩),by omega⟩
    have ah:=AY Z;refine .inr ?_;intro ak a1;conv=>cbv
    cases ak <;> conv=>cbv
    ·have a6:=Ah a1;refine Exists.elim (AK (l:=Q) (i:=c) (by omega)) fun aq J=>?_
     refine⟨aq,fun _=>⟨by omega,by rw[show (j).toNat=c by omega];exact J⟩,?_⟩;try conv=>cbv
     refine Exists.elim (AK (l:=Q) (i:=k') (by omega)) fun ar K=>?_
     refine⟨ar,fun _=>⟨by omega,by rw[show (S).toNat=k' by omega];exact K⟩,?_⟩;try conv=>cbv
     refine Exists.elim (AK (l:=Q) (i:=m') (by omega)) fun au L=>?_
     refine⟨au,fun _=>⟨by omega,by rw[show (m).toNat=m' by omega];exact L⟩,?_⟩;try conv=>cbv
     refine Exists.elim (AK (l:=Q) (i:=g) (by omega)) fun av M=>?_
     refine⟨av,fun _=>⟨by omega,by rw[show (ci).toNat=g by omega];exact M⟩,?_⟩;try conv=>cbv
     refine Exists.elim (Dv (ins (px c,py c) (px k',py k') (px m',py m') (px g,py g))) fun a8 u=>?_
     refine AB hE (oe F (O _ _ J) (O _ _ K) (O _ _ L) (O _ _ M) u (by omega)) ?_;conv=>cbv
     refine BG ?_;refine AU ?_;conv=>cbv
     cases a8 <;> conv=>cbv
     ·intro aj aa;conv=>cbv
      refine AI ?_;refine⟨k'-(m'+1),?_,?_⟩
      ·omega
      rw[B];exact⟨m'+1,_,rfl,⟨⟨by omega⟩,by omega⟩,KX (p:=fun i=>i≠g->¬ins (px c,py c) (px k',py k') (px i,py i) (px g,py g)) v (fun _ h4=>absurd (u.2 h4) (by decide)),by omega⟩
     exact AD ⟨⟨rfl,congrArg _ (Bool.eq_false_iff.2 fun z=>absurd (u.1 rfl) ((R.1 z c k' (by omega) (by omega) (by omega) (by omega)).2 m' (by omega) (by omega))),trivial⟩,t2,trivial⟩
    have a6:=Aj a1;intro aj aa;conv=>cbv
    refine AI ?_;refine⟨k'-(m'+1),?_,?_⟩
    ·omega
    rw[B];exact⟨m'+1,_,rfl,⟨⟨by omega⟩,by omega⟩,KX (p:=fun i=>i≠g->¬ins (px c,py c) (px k',py k') (px i,py i) (px g,py g)) v (fun h3=>absurd a6 (by omega)),by omega⟩
   exact AD ⟨⟨rfl,congrArg _ (Bool.eq_false_iff.2 fun z=>absurd (q.1 rfl) (R.1 z c k' (by omega) (by omega) (by omega) (by omega)).1),trivial⟩,t2,trivial⟩
  have a5:=Aj Y;intro n21 W;conv=>cbv
  refine AI ?_;refine⟨c-(k'+1),?_,?_⟩
  ·omega
  rw[o];exact⟨k'+1,_,rfl,⟨⟨by omega⟩,by omega⟩,KX (p:=fun b=>Iv px py g c b b) n (fun _ h2=>absurd a5 (by omega)),by omega⟩
 have a2:=Aj X;intro n21 W;conv=>cbv
 refine AI ?_;refine⟨c-(k'+1),?_,?_⟩
 ·omega
 rw[o];exact⟨k'+1,_,rfl,⟨⟨by omega⟩,by omega⟩,KX (p:=fun b=>Iv px py g c b b) n (fun h1 _=>absurd a2 (by omega)),by omega⟩
end Go.Abs
