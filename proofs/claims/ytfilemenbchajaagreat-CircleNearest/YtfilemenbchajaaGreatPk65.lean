/- Part 66 of a proof. Conditions: each theorem's own. -/
import Derived.Test.YtfilemenbchajaaGreatPk58
set_option linter.all false
set_option maxHeartbeats 8000000
set_option maxRecDepth 20000
namespace Go.Abs
abbrev G2:Nat:=46300000
abbrev ek:Nat:=46321590
abbrev S0:Nat:=46412490
abbrev V1:Nat:=1067638368
abbrev D0:Nat:=1440000000
abbrev R1:Nat:=1880000000
abbrev S1:Nat:=32430000000
def L6 (w:List (List Rat)) (n:Re) (v:Re):Prop:=Wv w S0 46909868 G2 v\/(v=n/\Wv w S0 V1 G2 v)
theorem L6.root {w:List (List Rat)} {n v:Re} (h:L6 w n v):In w (Re.sqrt v):=h.elim (·.root) (·.2.root)
theorem L6.rb {w:List (List Rat)} {n v:Re} (h:L6 w n v):Bd S0 (co w (Re.sqrt v)):=h.elim (·.rb) (·.2.rb)
theorem L6.vb {w:List (List Rat)} {n v:Re} (h:L6 w n v):Bd G2 (co w v):=h.elim (·.vb) (·.2.vb)
theorem ez {w:List (List Rat)} {n:Re}:∀{u:List (List Rat)},(BE u).Nodup->(∀v∈BE u,L6 w n v)->∃k,k<=u.length*46909868+V1/\Rb w u k
 | [],_,_=>⟨0,Nat.zero_le _,rfl⟩
 | r::u,d,h=>by
  have a:=List.nodup_cons.1 d;have ht:∀v∈BE u,L6 w n v:=fun v b=>h v (List.mem_cons_of_mem _ b)
  rcases h (AN u r) List.mem_cons_self with g |⟨e,g⟩
  ·obtain⟨k,j,i⟩:=ez a.2 ht;obtain⟨y,c,hb⟩:=g.inv;exact⟨k+46909868,by rw[List.length_cons];omega,⟨k,46909868,rfl,i,y,c,hb⟩⟩
  obtain⟨y,c,hb⟩:=g.inv;have f:∀v∈BE u,Wv w S0 46909868 G2 v:=fun v b=>(ht v b).resolve_right (fun q=>a.1 (by rw[e,<-q.1];exact b))
  exact⟨u.length*46909868+V1,by rw[List.length_cons];omega,⟨_,V1,rfl,jR f,y,c,hb⟩⟩
theorem e5 {w:List (List Rat)} {n:Re} (hw:Ab w) (M:Ml w ek):∀{u:List (List Rat)},Ab u->u.length<=4->(∀v∈BE u,L6 w n v)->TB D0 u
 | [],_,_,_=>fun r i=>by simp at i
 | r::u,h,g,d=>fun s b=>by
  rw[List.length_cons] at g;have a:∀v∈BE u,L6 w n v:=fun v hm=>d v (List.mem_cons_of_mem _ hm)
  rcases List.mem_cons.1 b with rfl | b
  ·have f:=jD hw h.1 (fun v hm=>(a v hm).root);obtain⟨k,c,hR⟩:=ez (Hc h.1) a;have:=jY hw M h.1 f hR (CG h) (d _ List.mem_cons_self).vb;rw[Ez h] at this;refine this.mono ?_;have j:=Nat.mul_le_mul_right 46321590 (show u.length+1<=4 by omega);have h3:=Nat.mul_le_mul_right 46909868 (show u.length<=3 by omega);have c:k<=u.length*46909868+1067638368:=c
   show 46300000+k+(u.length+1)*46321590<=1440000000
   omega
  exact e5 hw M h.1 (by omega) a s b
theorem kx {w u v:List (List Rat)} {n:Re} {s:Nat} {x:Re} (hw:Ab w) (M:Ml w ek) (hu:Ab u) (c:Ab v) (d:∀z∈BE u,L6 w n z) (f:∀z∈BE v,L6 w n z) (l1:u.length<=4) (l2:v.length<=4) (g:BK u v) (a:El u s x):El v (s+R1) x:=by
 have i:=jD hw hu (fun z b=>(d z b).root);have j:=jD hw c (fun z b=>(f z b).root);obtain⟨K,k0,k1,k2⟩:=jZ hw M hu i (fun z b=>(d z b).rb);obtain⟨D,d0,d1,d2,d3⟩:=a.bd
 have hb:Bd (s+u.length*(S0+ek+1)) (co w x):=by
  refine⟨D*K,Nat.mul_pos d0 k0,?_,(k2 (B:=0) a.mem).1 d2,?_⟩
  ·rw[Nat.pow_add];exact Nat.mul_le_mul d1 k1
  rw[Nat.pow_add];exact (k2 (D:=0) a.mem).2 d3
 obtain⟨k,h,hR⟩:=ez (Hc c) f;refine⟨g _ a.mem,(jY hw M c j hR (g _ a.mem) hb).mono ?_⟩;have l:=Nat.mul_le_mul_right (46412490+46321590+1) l1;have m:=Nat.mul_le_mul_right 46909868 l2;have a3:=Nat.mul_le_mul_right 46321590 (show v.length+1<=5 by omega);have h:k<=v.length*46909868+1067638368:=h
 show s+u.length*(46412490+46321590+1)+k+(v.length+1)*46321590<=s+1880000000
 omega
section
variable {P:List (List Rat)->Prop} {V:List Re} {w:List (List Rat)} {n:Re}
theorem hF (I:Db P 256) (hV:∀{u},P u->∀v∈Go.Abs.BE u,v∈V) (h3:V.length<=3) (hw:Tf P w) (a:El w G2 n) (A:0<n):Wv (Ax w n) S0 V1 G2 n:=by
 have b:=hw.red I;have m:=hw.Kj I hV h3;have p:w.length<=3:=Nat.le_trans (hw.len I hV) h3;have j:n≠0:=by grind
 have d:Re.sqrt n*Re.sqrt n=n:=Re.E9 (by grind);have q:Re.sqrt n≠0:=fun e=>j (by rw[<-d,e];grind)
 by_cases c:Sq w n
 ·rw[EW c];have hm:=(Ki (by grind)).1 c;have b1:=Ri b m hm d a.bd
  have f:Bd S0 (co w (Re.sqrt n)):=b1.mono (by
   have:=QM (h:=w.length) (h':=3) (R:=Rn) (R':=Rn) p (Nat.le_refl _);have e:GG 3 Rn=112490:=by decide +kernel
   have D:G2=46300000:=rfl
   show _<=46412490
   omega)
  obtain⟨y,C,k⟩:=EF b hm q;have b2:=LM b m hm C k f;exact⟨hm,f,⟨y,by rw[<-k];exact Re.mul_comm _ _,b2.mono (Nat.le_trans (Kr p (Nat.le_refl _) (Nat.le_refl _)) (by decide +kernel))⟩,a.bd⟩
 have o:=PL b a.mem A c;have r:∀{s x},El w s x->El (Ax w n) s x:=fun B=>El.Ax b (by rw[D9 c];exact o) B
 have l:=Im o;rw[Kc a.mem] at l;obtain⟨i,t,g⟩:=EF b a.mem j;have b2:=LM b m a.mem t g a.bd;have z0:El w 0 0:=El.rat b Gb;have b3:=Y4 o z0.mem t z0.bd b2;rw[Kc a.mem,show (0:Re)+i*Re.sqrt n=i*Re.sqrt n by grind] at b3;refine⟨by rw[D9 c];exact l.mem,by rw[D9 c];exact l.bd.mono (by decide),⟨i*Re.sqrt n,?_,?_⟩,(r a).bd⟩
 ·have z:i*Re.sqrt n*Re.sqrt n=i*(Re.sqrt n*Re.sqrt n):=by grind
  have:i*Re.sqrt n*Re.sqrt n=n*i:=by rw[z,d];exact Re.mul_comm _ _
  rw[this,g]
 rw[D9 c];refine b3.mono (Nat.le_trans (Nat.add_le_add_left (Kr p (Nat.le_refl _) (Nat.le_refl _)) _) (by decide +kernel))
theorem et (I:Db P 256) (hV:∀{u},P u->∀v∈Go.Abs.BE u,v∈V) (h3:V.length<=3) (hw:Tf P w) (b:El w G2 n) (i:0<=n):Ml (Ax w n) ek:=by
 have c:=hw.red I;have d:=hw.Kj I hV h3;have he:=He (h:=w.length) (h':=3) (R:=Rn) (R':=Rn) (Nat.le_trans (hw.len I hV) h3) (Nat.le_refl _);have g:EE 3 Rn=10794:=by decide +kernel
 have M:=Ml.of c d
 by_cases a:Sq w n
 ·rw[EW a];exact M.mono (by show _<=46321590;omega)
 have f:=PL c b.mem (by
  have:n≠0:=fun e=>a (by rw[e];exact⟨0,Bp w,by grind⟩)
  grind) a
 rw[D9 a];have j:G2=46300000:=rfl;exact (M.cons f b.bd).mono (by show _<=46321590;omega)
theorem k8 (I:Db P 256) (hV:∀{u},P u->∀v∈Go.Abs.BE u,v∈V) (h3:V.length<=3) (hw:Tf P w) (j:El w G2 n) (m:0<=n) {x y:Re} {s:Nat} (a:El (Ax w n) s x) (b:In (Ax w n) y) (e:x*y=1):El (Ax w n) (47*s+1066000000) y:=by
 have c:=hw.red I;have f:=hw.Kj I hV h3;have i:w.length<=3:=Nat.le_trans (hw.len I hV) h3;have he:=He (h:=w.length) (h':=3) (R:=Rn) (R':=Rn) i (Nat.le_refl _);have l:EE 3 Rn=10794:=by decide +kernel
 have g:∀s,II w.length Rn s<=23*s+151098:=fun s=>Nat.le_trans (Kr i (Nat.le_refl _) (Nat.le_refl _)) (by simp only[II,EE,Rn];omega)
 refine⟨b,?_⟩
 by_cases d:Sq w n
 ·rw[EW d] at a b ⊢;exact (LM c f a.mem b e a.bd).mono (by have:=g s;omega)
 have k:=PL c j.mem (by
  have:n≠0:=fun e=>d (by rw[e];exact⟨0,Bp w,by grind⟩)
  grind) d
 rw[D9 d] at a b ⊢;have:=Ml.inv (P:=fun s=>II w.length Rn s) k (Ml.of c f) j.bd (fun a b e hb=>LM c f a b e hb) a.mem e a.bd;refine this.mono ?_
 show s+EE w.length Rn+II w.length Rn (2*s+2*EE w.length Rn+46300000+1)<=_
 have o:II w.length Rn (2*s+2*EE w.length Rn+46300000+1)<=23*(2*s+2*EE w.length Rn+46300000+1)+151098:=g _;omega
theorem fb (I:Db P 256) (hV:∀{u},P u->∀v∈Go.Abs.BE u,v∈V) (h3:V.length<=3) (hw:Tf P w) (ha:∀{u},Tf P u->BK u w) (a:El w G2 n) (c:0<=n) {r:List Rat} {u:List (List Rat)} (h:P4 P n (r::u)):L6 (Ax w n) n (AN u r):=by
 have b:Ab (Ax w n):=PJ (hw.red I) a.mem c;rcases h.top I with h |⟨i,d,e⟩
 ·have W:=lO I hV h3 hw ha b (fun f=>El.Ax (hw.red I) b f) h;obtain⟨y,e,g⟩:=W.inv;exact .inl ⟨W.root,W.rb.mono (by decide),⟨y,e,g⟩,W.vb.mono (by decide)⟩
 refine .inr ⟨e,?_⟩;rw[e]
 exact hF I hV h3 hw a (by
  have:n≠0:=fun e=>d (by rw[e];exact⟨0,Bp u,by grind⟩)
  grind)
theorem fr (I:Db P 256) (hV:∀{u},P u->∀v∈Go.Abs.BE u,v∈V) (h3:V.length<=3) (hw:Tf P w) (ha:∀{u},Tf P u->BK u w) (c:El w G2 n) (b:0<=n):Db (P4 P n) D0:=by
 have g:Ab (Ax w n):=PJ (hw.red I) c.mem b;have M:=et I hV h3 hw c b;refine⟨fun h=>P4.red I b h,fun {u} h=>?_,fun h=>P4.sub I h⟩;have d:=P4.red I b h
 have f:u.length<=4:=by
  have:=I8 (Hc d) (P4.len I hV h);rw[JT,List.length_cons] at this;omega
 have a:∀v∈Go.Abs.BE u,L6 (Ax w n) n v:=by
  clear f d
  induction u with
  | nil=>intro v a;simp[Go.Abs.BE] at a
  | cons r u i=>
   intro v a;rcases List.mem_cons.1 a with rfl | a
   ·exact fb I hV h3 hw ha c b h
   exact i (P4.sub I h) v a
 exact e5 g M d f a
theorem Tf.T0 (I:Db P 256) (hV:∀{u},P u->∀v∈Go.Abs.BE u,v∈V) (h3:V.length<=3) (J:Db (P4 P n) D0) {u:List (List Rat)} (h:Tf (P4 P n) u):u.length<=4:=by
 have:=h.len J (V:=n::V) (fun a=>P4.len I hV a);rw[List.length_cons] at this;omega
end
theorem kz:∀h,h<=4->Fit h D0 (S1+R1)
 |0,_|1,_|2,_|3,_|4,_=>⟨by decide +kernel,by decide +kernel,by decide +kernel,by decide +kernel⟩
 | _+5,h=>absurd h (by omega)
theorem ky:∀h,h<=4->Dm h D0 (S1+R1)
 |0,_|1,_|2,_|3,_|4,_=>⟨by decide +kernel,by decide +kernel,by decide +kernel,by decide +kernel⟩
 | _+5,h=>absurd h (by omega)
theorem lT:2*(S1+R1)+EE 4 D0<=60000000000000:=by decide +kernel
theorem k7:II 4 D0 S1<=60000000000000:=by decide +kernel
theorem k6 {P:List (List Rat)->Prop} {R0 S:Nat} (I:Db P R0) (f:∀{u},Tf P u->TB D0 u) (a:∀{u},Tf P u->u.length<=4) (c:∀{u w s x},Tf P u->Tf P w->BK u w->El u s x->El w (s+R1) x) (d:D0<=S) (b:S<=S1):Cv (Tf P) D0 R1 S where
 AU:=fun {u} h=>⟨h.red I,f h,by decide,by have:=a h;omega⟩
 ht:=fun {u} h=>by have:=a h;omega
 nil:= .nil
 sub:=fun {r u} h=>h.sub I
 Ax:=fun {t r u} ht h c=>ht.RI I h c
 Be:=c
 fit:=fun {u} h=>(kz _ (a h)).mono (Nat.add_le_add_right b R1)
 mul:=fun {u} h=>Nat.le_trans (Nat.add_le_add (Nat.mul_le_mul_left 2 (Nat.add_le_add_right b R1)) (He (h:=u.length) (h':=4) (R:=D0) (R':=D0) (a h) (Nat.le_refl _))) lT
 RS:=d
 HB:=fun {u} h=>(ky _ (a h)).mono (Nat.add_le_add_right b R1)
section
variable {P:List (List Rat)->Prop} {V:List Re} {w:List (List Rat)} {n:Re}
theorem k5 (I:Db P 256) (hV:∀{u},P u->∀v∈Go.Abs.BE u,v∈V) (h3:V.length<=3) (hw:Tf P w) (ha:∀{u},Tf P u->BK u w) (c:El w G2 n) (b:0<=n) {S:Nat} (g:D0<=S) (i:S<=S1):Cv (Tf (P4 P n)) D0 R1 S:=by
 have J:=fr I hV h3 hw ha c b;have f:Ab (Ax w n):=PJ (hw.red I) c.mem b;have M:=et I hV h3 hw c b;have d:∀{u},Tf (P4 P n) u->∀v∈Go.Abs.BE u,L6 (Ax w n) n v:=fun {u} h=>Tf.all J (fun k=>fb I hV h3 hw ha c b k) h
 exact k6 J (fun {u} h=>e5 f M (h.red J) (h.T0 I hV h3 J) (d h)) (fun h=>h.T0 I hV h3 J) (fun {u v s x} hu a j l=>kx f M (hu.red J) (a.red J) (d hu) (d a) (hu.T0 I hV h3 J) (a.T0 I hV h3 J) j l) g i
end
end Go.Abs
