/- Part 38 of a proof. Conditions: each theorem's own. -/
import Derived.Test.YtmaoeopjnhfplaaGreatPk27
set_option linter.all false
set_option maxHeartbeats 8000000
set_option maxRecDepth 20000
namespace Go.Abs
abbrev S5:Nat:=48300000
abbrev Q5:Nat:=5400000
abbrev JE:Nat:=46909868
abbrev Wu:Nat:=92640000
abbrev R5:Nat:=162000000
abbrev C5:Nat:=448400000
abbrev M5:Nat:=7316000000
def W1 (w:List (List Rat)) (n:Re) (σ κ K ν:Nat) (v:Re):Prop:=Wv w σ κ ν v\/(v=n/\Wv w σ K ν v)
def W2 (w:List (List Rat)) (n1 n2:Re) (σ κ K1 K2 ν:Nat) (v:Re):Prop:=W1 w n1 σ κ K1 ν v\/(v=n2/\Wv w σ K2 ν v)
section
variable {w:List (List Rat)} {n n1 n2:Re} {σ κ K K1 K2 ν E m:Nat}
theorem Vh (b:κ<=K):∀{u:List (List Rat)},(BP u).Nodup->(∀v∈BP u,W1 w n σ κ K ν v)->∃k,k+κ<=u.length*κ+K/\Rb w u k
 | [],_,_=>⟨0,by simpa using b,rfl⟩
 | r::u,f,h=>by
  have a:=List.nodup_cons.1 f;have ht:∀v∈BP u,W1 w n σ κ K ν v:=fun v c=>h v (List.mem_cons_of_mem _ c)
  have e2:(r::u).length*κ=u.length*κ+κ:=by rw[List.length_cons,Nat.succ_mul]
  rcases h (Al u r) List.mem_cons_self with g |⟨e,g⟩
  ·obtain⟨k,l,j⟩:=Vh b a.2 ht;obtain⟨y,d,hb⟩:=g.inv;exact⟨k+κ,by omega,⟨k,κ,rfl,j,y,d,hb⟩⟩
  obtain⟨y,d,hb⟩:=g.inv;have i:∀v∈BP u,Wv w σ κ ν v:=fun v c=>(ht v c).resolve_right (fun q=>a.1 (by rw[e,<-q.1];exact c))
  exact⟨u.length*κ+K,by omega,⟨_,K,rfl,O8 i,y,d,hb⟩⟩
theorem Vi (b:κ<=K1) (c:κ<=K2):∀{u:List (List Rat)},(BP u).Nodup->(∀v∈BP u,W2 w n1 n2 σ κ K1 K2 ν v)->∃k,k+2*κ<=u.length*κ+K1+K2/\Rb w u k
 | [],_,_=>⟨0,by simp;omega,rfl⟩
 | r::u,l,h=>by
  have a:=List.nodup_cons.1 l;have ht:∀v∈BP u,W2 w n1 n2 σ κ K1 K2 ν v:=fun v d=>h v (List.mem_cons_of_mem _ d)
  have e2:(r::u).length*κ=u.length*κ+κ:=by rw[List.length_cons,Nat.succ_mul]
  rcases h (Al u r) List.mem_cons_self with (g |⟨e,g⟩) |⟨e,g⟩
  ·obtain⟨k,j,f⟩:=Vi b c a.2 ht;obtain⟨y,i,hb⟩:=g.inv;exact⟨k+κ,by omega,⟨k,κ,rfl,f,y,i,hb⟩⟩
  ·obtain⟨y,i,hb⟩:=g.inv
   obtain⟨k,j,f⟩:=Vh (n:=n2) (K:=K2) (σ:=σ) (κ:=κ) (ν:=ν) (w:=w) c a.2 (fun v d=>by
    rcases ht v d with (q | q) | q
    ·exact .inl q
    ·exact absurd (show Al u r∈BP u by rw[e,<-q.1];exact d) a.1
    exact .inr q)
   exact⟨k+K1,by omega,⟨k,K1,rfl,f,y,i,hb⟩⟩
  obtain⟨y,i,hb⟩:=g.inv;obtain⟨k,j,f⟩:=Vh (n:=n1) (K:=K1) (σ:=σ) (κ:=κ) (ν:=ν) (w:=w) b a.2 (fun v d=>(ht v d).resolve_right (fun q=>a.1 (by rw[e,<-q.1];exact d)));exact⟨k+K2,by omega,⟨k,K2,rfl,f,y,i,hb⟩⟩
theorem W2.root {v:Re} (h:W2 w n1 n2 σ κ K1 K2 ν v):In w (Re.sqrt v):=by rcases h with (h | h) | h <;> first | exact h.root | exact h.2.root
theorem W2.rb {v:Re} (h:W2 w n1 n2 σ κ K1 K2 ν v):Bd σ (co w (Re.sqrt v)):=by rcases h with (h | h) | h <;> first | exact h.rb | exact h.2.rb
theorem W2.vb {v:Re} (h:W2 w n1 n2 σ κ K1 K2 ν v):Bd ν (co w v):=by rcases h with (h | h) | h <;> first | exact h.vb | exact h.2.vb
theorem WN (a:κ<=K1) (b:κ<=K2) (hw:BF w) (M:Ml w E):∀{u:List (List Rat)},BF u->u.length<=m+3->(∀v∈BP u,W2 w n1 n2 σ κ K1 K2 ν v)->TB (ν+(m*κ+K1+K2)+(m+3)*E) u
 | [],_,_,_=>fun r j=>by simp at j
 | r::u,h,i,f=>fun s d=>by
  rw[List.length_cons] at i;have c:∀v∈BP u,W2 w n1 n2 σ κ K1 K2 ν v:=fun v hm=>f v (List.mem_cons_of_mem _ hm)
  rcases List.mem_cons.1 d with rfl | d
  ·have g:=Hu hw h.1 (fun v hm=>(c v hm).root);obtain⟨k,o,hR⟩:=Vi a b (HE h.1) c;have:=MK hw M h.1 g hR (CO h) (f _ List.mem_cons_self).vb;rw[FQ h] at this;refine this.mono ?_;have l:=Nat.mul_le_mul_right E (show u.length+1<=m+3 by omega);have h3:=Nat.mul_le_mul_right κ (show u.length<=m+2 by omega);rw[Nat.add_mul] at h3;omega
  exact WN a b hw M h.1 (by omega) c s d
theorem lM (c:κ<=K1) (d:κ<=K2) {u v:List (List Rat)} {s:Nat} {x:Re} (hw:BF w) (M:Ml w E) (hu:BF u) (f:BF v) (g:∀z∈BP u,W2 w n1 n2 σ κ K1 K2 ν z) (h:∀z∈BP v,W2 w n1 n2 σ κ K1 K2 ν z) (l1:u.length<=m+2) (l2:v.length<=m+2) (i:Bl u v) (a:El u s x):El v (s+(m+2)*(σ+E+1)+(m*κ+K1+K2)+(m+3)*E) x:=by
 have e1:=Hu hw hu (fun z b=>(g z b).root);have e2:=Hu hw f (fun z b=>(h z b).root);obtain⟨K,k0,k1,k2⟩:=QF hw M hu e1 (fun z b=>(g z b).rb);obtain⟨D,d0,d1,d2,d3⟩:=a.bd
 have hb:Bd (s+u.length*(σ+E+1)) (co w x):=by
  refine⟨D*K,Nat.mul_pos d0 k0,?_,(k2 (B:=0) a.mem).1 d2,?_⟩
  ·rw[Nat.pow_add];exact Nat.mul_le_mul d1 k1
  rw[Nat.pow_add];exact (k2 (D:=0) a.mem).2 d3
 obtain⟨k,o,hR⟩:=Vi c d (HE f) h;refine⟨i _ a.mem,(MK hw M f e2 hR (i _ a.mem) hb).mono ?_⟩;have l:=Nat.mul_le_mul_right (σ+E+1) l1;have j:=Nat.mul_le_mul_right κ l2;have a3:=Nat.mul_le_mul_right E (show v.length+1<=m+3 by omega);rw[Nat.add_mul m 2 κ] at j;omega
theorem Wv.up {w z:List (List Rat)} {v:Re} (hw:BF w) (a:∀{s x},El w s x->El z s x) (h:Wv w σ κ ν v) (g:In w v):Wv z σ κ ν v:=by
 obtain⟨y,e,i⟩:=h.inv;have c:El w σ (Re.sqrt v):=⟨h.root,h.rb⟩;have f:El w ν v:=⟨g,h.vb⟩;have j:Re.sqrt v≠0:=fun q=>absurd (Re.Cj.1 (show Re.ofRat 1=Re.ofRat 0 from by show (1:Re)=0;rw[<-e,q];grind)) (by decide)
 obtain⟨y',b,e'⟩:=Em hw h.root j
 have d:y=y':=by
  have:y=y*(Re.sqrt v*y'):=by rw[e'];grind
  rw[this,show y*(Re.sqrt v*y')=y*Re.sqrt v*y' by grind,e];grind
 have h3:El w κ y:=⟨by rw[d];exact b,i⟩;exact⟨(a c).mem,(a c).bd,⟨y,e,(a h3).bd⟩,(a f).bd⟩
theorem Wv.mono {w:List (List Rat)} {v:Re} {c a b:Nat} (h:Wv w σ κ ν v) (d:σ<=c) (f:κ<=a) (h3:ν<=b):Wv w c a b v:=by
 obtain⟨y,e,g⟩:=h.inv;exact⟨h.root,h.rb.mono d,⟨y,e,g.mono f⟩,h.vb.mono h3⟩
end
section
variable {P:List (List Rat)->Prop} {V:List Re} {w:List (List Rat)} {n n1 n2:Re}
theorem sy (I:CA P 256) (hV:∀{u},P u->∀v∈Go.Abs.BP u,v∈V) (h3:V.length<=3) (hw:Tf P w) (ha:∀{u},Tf P u->Bl u w) {r:List Rat} {u:List (List Rat)} (h:Tf P (r::u)):Wv w 226506 Q5 228046 (Al u r):=by
 have a:=h.red I;have e1:=Tf.Lo I hV h3 h hw (ha h) (Im a);have c:In (r::u) (Al u r):=Fh (CO a);have f:Al u r≠0:=by have:=a.2.2.1;grind
 have d:rt u r≠0:=fun e=>f (by rw[<-DO a,e];grind)
 obtain⟨y,j,b⟩:=Em (hw.red I) e1.mem d;have e2:=HJ (hw.red I) (hw.HC I hV h3) e1.mem j b e1.bd
 have b3:El (r::u) (Rn+0) (Al u r):=by
  have g:El u 0 0:=El.rat a.1 Gz;have hb:Bd Rn (co u (Al u r)):=by rw[FQ a];exact (h.HC I hV h3).head
  have:=J3 a (CO a) g.mem hb g.bd;rw[show Al u r+0*rt u r=Al u r by grind] at this;exact⟨c,this⟩
 have i:=Tf.Lo I hV h3 h hw (ha h) b3;exact⟨e1.mem,e1.bd.mono (by decide),⟨y,by rw[<-b];exact Re.mul_comm _ _,e2.mono (Nat.le_trans (GI (Nat.le_trans (hw.len I hV) h3) (Nat.le_refl _) (Nat.le_refl _)) (by decide +kernel))⟩,i.bd.mono (by decide)⟩
theorem fN (I:CA P 256) (hV:∀{u},P u->∀v∈Go.Abs.BP u,v∈V) (h3:V.length<=3) (hw:Tf P w) (a:El w R4 n1) (h1:0<n1) (b:El w R4 n2) (h2:0<n2):(Sq (Aj w n1) n2->Wv (Aj (Aj w n1) n2) S5 Wu R4 n2)/\(¬Sq (Aj w n1) n2->Wv (Aj (Aj w n1) n2) S5 JE R4 n2):=by
 have d:=hw.red I;have Q:=hw.HC I hV h3;have T:w.length<=3:=Nat.le_trans (hw.len I hV) h3;have k:BF (Aj w n1):=Ec d a.mem (by grind);have c:∀{s x},El w s x->El (Aj w n1) s x:=fun g=>El.Aj d k g
 have a5:BF (Aj (Aj w n1) n2):=Ec k (c b).mem (by grind);have L:∀{s x},El (Aj w n1) s x->El (Aj (Aj w n1) n2) s x:=fun g=>El.Aj k a5 g
 have M:∀{x y:Re} {s t:Nat},El w s x->El w t y->El w (s+t+10794) (x*y):=fun {x y s t} g hy=>(g.mul ⟨d,Q,by decide,by omega⟩ hy).mono (by
  have:=Gw T (Nat.le_refl Rn);have e:EE 3 Rn=10794:=by decide +kernel
  omega)
 have o:∀{x:Re},El w R4 x->x≠0->∃i,El w 44322598 i/\x*i=1:=fun {x} g h0=>by
  obtain⟨i,hi,e⟩:=Em d g.mem h0;exact⟨i,⟨hi,(HJ d Q g.mem hi e g.bd).mono (Nat.le_trans (GI T (Nat.le_refl _) (Nat.le_refl _)) (by decide +kernel))⟩,e⟩
 have C:Re.sqrt n2*Re.sqrt n2=n2:=Re.Ev (by grind);have a2:Re.sqrt n1*Re.sqrt n1=n1:=Re.Ev (by grind);obtain⟨i2,z,F⟩:=o b (by grind);refine⟨fun hb=>?_,fun hb=>?_⟩
 ·by_cases ha:Sq w n2
  ·have W:=PX I hV h3 hw b h2;rw[ED ha] at W;exact (W.up d (fun g=>L (c g)) b.mem).mono (by decide) (by decide) (Nat.le_refl _)
  rw[ED hb];have f:¬Sq w n1:=fun q=>ha (by rw[ED q] at hb;exact hb)
  have G:=H4 d a.mem h1 f;have hm:=(I7 (by grind)).1 hb;rw[C8 f] at hm k ⊢;obtain⟨p,q,H,A,r⟩:=Cq.1 hm;rw[HA a.mem] at r;have D:p*p+q*q*n1+(p*q+p*q)*Re.sqrt n1=n2:=by rw[<-C,r,<-a2];grind
  have a6:p*q+p*q=0:=Classical.byContradiction fun U=>f (by
   obtain⟨j,hj,ej⟩:=Em d (ES (BN d H A) (BN d H A)) U;refine (I7 (by grind)).2 ?_
   have:Re.sqrt n1=(n2-(p*p+q*q*n1))*j:=by
    have N:(p*q+p*q)*Re.sqrt n1=n2-(p*p+q*q*n1):=by rw[<-D];grind
    rw[<-N,show (p*q+p*q)*Re.sqrt n1*j=(p*q+p*q)*j*Re.sqrt n1 by grind,ej];grind
   rw[this];exact BN d (GM b.mem (ES (BN d H H) (BN d (BN d A A) a.mem))) hj)
  have X:p=0:=Classical.byContradiction fun Y=>ha (by
   have Z:q=0:=by
    have N:p*q=0:=by grind
    rcases Re.HN N with e | e
    ·exact absurd e Y
    exact e
   exact⟨p,H,by rw[<-D,Z];grind⟩)
  subst X;have l:Re.sqrt n2=0+q*Re.sqrt n1:=r;have a1:q*n1*(q*n1)=n1*n2:=by rw[<-D];grind
  have b1:=N4 d Q (BN d A a.mem) a1 (M a b).bd
  have g:El w 3964284 (q*n1):=⟨BN d A a.mem,b1.mono (by
   have:=Nh (h:=w.length) (h':=3) (R:=Rn) (R':=Rn) T (Nat.le_refl _);have e:GG 3 Rn=112490:=by decide +kernel
   have r4:R4=1920500:=rfl;omega)⟩
  obtain⟨i1,S,O⟩:=o a (by grind)
  have J:El w 48297676 q:=by
   have:=M g S;rw[show q*n1*i1=q*(n1*i1) by grind,O,show q*1=q by grind] at this;exact this.mono (by decide)
  have B:El w 92631068 (q*i2):=(M J z).mono (by decide);have z0:El w 0 0:=El.rat d Gz
  have hR:El (co w n1::w) 48297676 (Re.sqrt n2):=by
   have b3:=J3 G z0.mem A z0.bd J.bd;rw[HA a.mem,<-l] at b3;exact⟨hm,b3.mono (by decide)⟩
  have hI:El (co w n1::w) 92631068 (0+q*i2*Re.sqrt n1):=by
   have b3:=J3 G z0.mem B.mem z0.bd B.bd;rw[HA a.mem] at b3;refine⟨?_,b3.mono (by decide)⟩;exact Cq.2 ⟨0,q*i2,CZ w,B.mem,by rw[HA a.mem]⟩
  have hv:=c b;rw[C8 f] at hv;refine⟨hm,hR.bd.mono (by decide),⟨0+q*i2*Re.sqrt n1,?_,hI.bd.mono (by decide)⟩,hv.bd⟩;rw[show (0+q*i2*Re.sqrt n1)*Re.sqrt n2=i2*((0+q*Re.sqrt n1)*Re.sqrt n2) by grind,<-l,C,<-F];grind
 have G:=H4 k (c b).mem h2 hb;have e1:=Im G;rw[HA (c b).mem] at e1;have z0:El (Aj w n1) 0 0:=El.rat k Gz;have b3:=J3 G z0.mem (c z).mem z0.bd (c z).bd;rw[HA (c b).mem,show (0:Re)+i2*Re.sqrt n2=i2*Re.sqrt n2 by grind] at b3;refine⟨by rw[C8 hb];exact e1.mem,by rw[C8 hb];exact e1.bd.mono (by decide),⟨i2*Re.sqrt n2,?_,by rw[C8 hb];exact b3.mono (by decide)⟩,(L (c b)).bd⟩;rw[show i2*Re.sqrt n2*Re.sqrt n2=i2*(Re.sqrt n2*Re.sqrt n2) by grind,C,<-F];grind
def P5 (P:List (List Rat)->Prop) (n1 n2:Re) (u:List (List Rat)):Prop:=P4 P n1 u\/P4 P n2 u
theorem P5.red (I:CA P 256) (a:0<=n1) (b:0<=n2) {u:List (List Rat)} (h:P5 P n1 n2 u):BF u:=h.elim (P4.red I a) (P4.red I b)
theorem P5.sub (I:CA P 256) {r:List Rat} {u:List (List Rat)} (h:P5 P n1 n2 (r::u)):P5 P n1 n2 u:=h.imp (P4.sub I) (P4.sub I)
theorem P5.len (I:CA P 256) (hV:∀{u},P u->∀v∈Go.Abs.BP u,v∈V) {u:List (List Rat)} (h:P5 P n1 n2 u):∀v∈Go.Abs.BP u,v∈n1::n2::V:=fun v a=>by
 rcases h with h | h
 ·rcases List.mem_cons.1 (P4.len I hV h v a) with e | e
  ·rw[e];exact List.mem_cons_self
  exact List.mem_cons_of_mem _ (List.mem_cons_of_mem _ e)
 exact List.mem_cons_of_mem _ (P4.len I hV h v a)
theorem Qm (I:CA P 256) (hV:∀{u},P u->∀v∈Go.Abs.BP u,v∈V) (h3:V.length<=3) (hw:Tf P w) (ha:∀{u},Tf P u->Bl u w) (a:El w R4 n1) (p:0<n1) (d:El w R4 n2) (q:0<n2):∃E K2,E<=5804682/\Q5<=K2/\5*E+K2<=102350450/\Ml (Aj (Aj w n1) n2) E/\∀{r u},P5 P n1 n2 (r::u)->W2 (Aj (Aj w n1) n2) n1 n2 S5 Q5 JE K2 R4 (Al u r):=by
 have k:=hw.red I;have y:(0:Re)<=n1:=by grind
 have A:(0:Re)<=n2:=by grind
 have b:BF (Aj w n1):=Ec k a.mem y;have c:∀{s x},El w s x->El (Aj w n1) s x:=fun i=>El.Aj k b i
 have l:BF (Aj (Aj w n1) n2):=Ec b (c d).mem A;have j:∀{s x},El (Aj w n1) s x->El (Aj (Aj w n1) n2) s x:=fun i=>El.Aj b l i
 have o:=Oi I hV h3 hw a y;obtain⟨g1,g2⟩:=fN I hV h3 hw a p d q
 have main:∀{K2:Nat},Wv (Aj (Aj w n1) n2) S5 K2 R4 n2->∀{r u},P5 P n1 n2 (r::u)->W2 (Aj (Aj w n1) n2) n1 n2 S5 Q5 JE K2 R4 (Al u r):=fun {K2} g {r u} h=>by
  have t:Tf P (r::u)->W2 (Aj (Aj w n1) n2) n1 n2 S5 Q5 JE K2 R4 (Al u r):=fun h=>by
   have W:=sy I hV h3 hw ha h;exact .inl (.inl ((W.up k (fun i=>j (c i)) (ha h _ (Fh (CO (h.red I))))).mono (by decide) (Nat.le_refl _) (by decide)))
  rcases h with h | h
  ·rcases h.top I with h |⟨_,_,e⟩
   ·exact t h
   refine .inl (.inr ⟨e,?_⟩);rw[e];exact ((PX I hV h3 hw a p).up b j (c a).mem).mono (by decide) (by decide) (Nat.le_refl _)
  rcases h.top I with h |⟨_,_,e⟩
  ·exact t h
  refine .inr ⟨e,?_⟩;rw[e];exact g
 by_cases f:Sq (Aj w n1) n2
 ·refine⟨E4,Wu,by decide,by decide,by decide,?_,main (g1 f)⟩;rw[ED f];exact o
 refine⟨5804682,JE,by decide,by decide,by decide,?_,main (g2 f)⟩;have z:=H4 b (c d).mem q f;rw[C8 f];exact o.cons z (c d).bd
theorem Zq (I:CA P 256) (hV:∀{u},P u->∀v∈Go.Abs.BP u,v∈V) (h3:V.length<=3) (hw:Tf P w) (ha:∀{u},Tf P u->Bl u w) (c:El w R4 n1) (p:0<n1) (d:El w R4 n2) (q:0<n2):CA (P5 P n1 n2) R5:=by
 obtain⟨E,K2,x,s,y,M,g⟩:=Qm I hV h3 hw ha c p d q;have j:(0:Re)<=n1:=by grind
 have k:(0:Re)<=n2:=by grind
 have o:=hw.red I;have f:BF (Aj w n1):=Ec o c.mem j;have i:BF (Aj (Aj w n1) n2):=Ec f (El.Aj o f d).mem k;refine⟨fun h=>P5.red I j k h,fun {u} h=>?_,fun h=>P5.sub I h⟩;have a:=P5.red I j k h
 have l:u.length<=5:=by
  have:=Ja (HE a) (P5.len I hV h);rw[Jl,List.length_cons,List.length_cons] at this;omega
 have b:∀v∈Go.Abs.BP u,W2 (Aj (Aj w n1) n2) n1 n2 S5 Q5 JE K2 R4 v:=by
  clear l a
  induction u with
  | nil=>intro v g;simp[Go.Abs.BP] at g
  | cons r u t=>
   intro v hm;rcases List.mem_cons.1 hm with rfl | hm
   ·exact g h
   exact t (P5.sub I h) v hm
 refine (WN (m:=2) (by decide:Q5<=JE) s i M a l b).mono ?_
 show 1920500+(2*5400000+46909868+K2)+(2+3)*E<=162000000
 omega
theorem Tf.Z7 (I:CA P 256) (hV:∀{u},P u->∀v∈Go.Abs.BP u,v∈V) (h3:V.length<=3) (J:CA (P5 P n1 n2) R5) {u:List (List Rat)} (h:Tf (P5 P n1 n2) u):u.length<=5:=by
 have:=h.len J (V:=n1::n2::V) (fun a=>P5.len I hV a);rw[List.length_cons,List.length_cons] at this;omega
theorem lf:∀h,h<=5->Fit h R5 (M5+C5)
 |0,_|1,_|2,_|3,_|4,_|5,_=>⟨by decide +kernel,by decide +kernel,by decide +kernel,by decide +kernel⟩
 | _+6,h=>absurd h (by omega)
theorem lV:∀h,h<=5->FW h R5 (M5+C5)
 |0,_|1,_|2,_|3,_|4,_|5,_=>⟨by decide +kernel,by decide +kernel,by decide +kernel,by decide +kernel⟩
 | _+6,h=>absurd h (by omega)
theorem oZ:2*(M5+C5)+EE 5 R5<=60000000000000:=by decide +kernel
theorem mS:II 5 R5 M5<=60000000000000:=by decide +kernel
theorem mA (I:CA P 256) (hV:∀{u},P u->∀v∈Go.Abs.BP u,v∈V) (h3:V.length<=3) (hw:Tf P w) (ha:∀{u},Tf P u->Bl u w) (d:El w R4 n1) (l:0<n1) (f:El w R4 n2) (o:0<n2) {S:Nat} (z:R5<=S) (c:S<=M5):EM (Tf (P5 P n1 n2)) R5 C5 S:=by
 have J:=Zq I hV h3 hw ha d l f o;obtain⟨E,K2,p,q,G,M,B⟩:=Qm I hV h3 hw ha d l f o;have D:(0:Re)<=n1:=by grind
 have F:(0:Re)<=n2:=by grind
 have y:=hw.red I;have i:BF (Aj w n1):=Ec y d.mem D;have j:BF (Aj (Aj w n1) n2):=Ec i (El.Aj y i f).mem F;have b:∀{u},Tf (P5 P n1 n2) u->u.length<=5:=fun h=>h.Z7 I hV h3 J
 have a:∀{u},Tf (P5 P n1 n2) u->∀v∈Go.Abs.BP u,W2 (Aj (Aj w n1) n2) n1 n2 S5 Q5 JE K2 R4 v:=fun {u} h=>Tf.all J (fun A=>B A) h
 exact {
  BJ:=fun {u} h=>⟨h.red J,(WN (m:=2) (by decide:Q5<=JE) q j M (h.red J) (b h) (a h)).mono (by show 1920500+(2*5400000+46909868+K2)+(2+3)*E<=162000000;omega),by decide,by have:=b h;omega⟩
  ht:=fun {u} h=>by have:=b h;omega
  nil:= .nil
  sub:=fun {r u} h=>h.sub J
  Aj:=fun {t r u} ht h p=>ht.Nw J h p
  CV:=fun {u v s x} hu g k C=>(lM (m:=3) (by decide:Q5<=JE) q j M (hu.red J) (g.red J) (a hu) (a g) (b hu) (b g) k C).mono (by show s+(3+2)*(48300000+E+1)+(3*5400000+46909868+K2)+(3+3)*E<=s+448400000;omega)
  fit:=fun {u} h=>(lf _ (b h)).mono (Nat.add_le_add_right c C5)
  mul:=fun {u} h=>Nat.le_trans (Nat.add_le_add (Nat.mul_le_mul_left 2 (Nat.add_le_add_right c C5)) (Gw (h:=u.length) (h':=5) (R:=R5) (R':=R5) (b h) (Nat.le_refl _))) oZ
  RS:=z
  HO:=fun {u} h=>(lV _ (b h)).mono (Nat.add_le_add_right c C5)}
theorem mh (I:CA P 256) (hV:∀{u},P u->∀v∈Go.Abs.BP u,v∈V) (h3:V.length<=3) (hw:Tf P w) (a:El w R4 n1) (o:0<n1) (h:El w R4 n2) (k:0<n2) {x y:Re} {s:Nat} (b:El (Aj (Aj w n1) n2) s x) (c:In (Aj (Aj w n1) n2) y) (e:x*y=1):El (Aj (Aj w n1) n2) (95*s+319700000) y:=by
 have j:=hw.red I;have g:(0:Re)<=n1:=by grind
 have d:BF (Aj w n1):=Ec j a.mem g;have f:El (Aj w n1) R4 n2:=El.Aj j d h;refine⟨c,?_⟩
 by_cases i:Sq (Aj w n1) n2
 ·rw[ED i] at b c ⊢;exact (UU I hV h3 hw a g b c e).bd.mono (by omega)
 have l:=H4 d f.mem k i;rw[C8 i] at b c ⊢;have:=Ml.inv (P:=fun s=>47*s+44850000) l (Oi I hV h3 hw a g) f.bd (fun b c e hb=>(UU I hV h3 hw a g ⟨b,hb⟩ c e).bd) b.mem e b.bd;refine this.mono ?_
 show s+1942090+(47*(2*s+2*1942090+1920500+1)+44850000)<=95*s+319700000
 omega
theorem Tf.imp {P Q:List (List Rat)->Prop} (h:∀{u},P u->Q u) {u:List (List Rat)} (hu:Tf P u):Tf Q u:=by
 induction hu with
 | nil=>exact .nil
 | Aj _ b a c=>exact .Aj c (h b) a
end
end Go.Abs
