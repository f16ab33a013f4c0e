/- Part 42 of a proof. Conditions: each theorem's own. -/
import Derived.Test.YtmaoeopjnhfplaaGreatPk30
set_option linter.all false
set_option maxHeartbeats 8000000
set_option maxRecDepth 20000
namespace Go.Abs
abbrev R9:Nat:=46300000
abbrev E9:Nat:=46321590
abbrev S9:Nat:=46412490
abbrev K9:Nat:=1067638368
abbrev HG:Nat:=1440000000
abbrev C9:Nat:=1880000000
abbrev M9:Nat:=32430000000
def Wm (w:List (List Rat)) (n:Re) (v:Re):Prop:=Wv w S9 46909868 R9 v\/(v=n/\Wv w S9 K9 R9 v)
theorem Wm.root {w:List (List Rat)} {n v:Re} (h:Wm w n v):In w (Re.sqrt v):=h.elim (·.root) (·.2.root)
theorem Wm.rb {w:List (List Rat)} {n v:Re} (h:Wm w n v):Bd S9 (co w (Re.sqrt v)):=h.elim (·.rb) (·.2.rb)
theorem Wm.vb {w:List (List Rat)} {n v:Re} (h:Wm w n v):Bd R9 (co w v):=h.elim (·.vb) (·.2.vb)
theorem Vj {w:List (List Rat)} {n:Re}:∀{u:List (List Rat)},(BP u).Nodup->(∀v∈BP u,Wm w n v)->∃k,k<=u.length*46909868+K9/\Rb w u k
 | [],_,_=>⟨0,Nat.zero_le _,rfl⟩
 | r::u,o,h=>by
  have f:=List.nodup_cons.1 o;have ht:∀v∈BP u,Wm w n v:=fun v l=>h v (List.mem_cons_of_mem _ l)
  rcases h (Al u r) List.mem_cons_self with g |⟨e,g⟩
  ·obtain⟨k,B,A⟩:=Vj f.2 ht;obtain⟨y,m,hb⟩:=g.inv;exact⟨k+46909868,by rw[List.length_cons];omega,⟨k,46909868,rfl,A,y,m,hb⟩⟩
  obtain⟨y,m,hb⟩:=g.inv;have z:∀v∈BP u,Wv w S9 46909868 R9 v:=fun v l=>(ht v l).resolve_right (fun q=>f.1 (by rw[e,<-q.1];exact l))
  exact⟨u.length*46909868+K9,by rw[List.length_cons];omega,⟨_,K9,rfl,O8 z,y,m,hb⟩⟩
theorem WO {w:List (List Rat)} {n:Re} (hw:BF w) (M:Ml w E9):∀{u:List (List Rat)},BF u->u.length<=4->(∀v∈BP u,Wm w n v)->TB HG u
 | [],_,_,_=>fun r A=>by simp at A
 | r::u,h,z,m=>fun s g=>by
  rw[List.length_cons] at z;have f:∀v∈BP u,Wm w n v:=fun v hm=>m v (List.mem_cons_of_mem _ hm)
  rcases List.mem_cons.1 g with rfl | g
  ·have o:=Hu hw h.1 (fun v hm=>(f v hm).root);obtain⟨k,l,hR⟩:=Vj (HE h.1) f;have:=MK hw M h.1 o hR (CO h) (m _ List.mem_cons_self).vb;rw[FQ h] at this;refine this.mono ?_;have B:=Nat.mul_le_mul_right 46321590 (show u.length+1<=4 by omega);have h3:=Nat.mul_le_mul_right 46909868 (show u.length<=3 by omega);have l:k<=u.length*46909868+1067638368:=l
   show 46300000+k+(u.length+1)*46321590<=1440000000
   omega
  exact WO hw M h.1 (by omega) f s g
theorem lN {w u v:List (List Rat)} {n:Re} {s:Nat} {x:Re} (hw:BF w) (M:Ml w E9) (hu:BF u) (h:BF v) (l:∀z∈BP u,Wm w n z) (m:∀z∈BP v,Wm w n z) (l1:u.length<=4) (l2:v.length<=4) (o:Bl u v) (f:El u s x):El v (s+C9) x:=by
 have e1:=Hu hw hu (fun z g=>(l z g).root);have e2:=Hu hw h (fun z g=>(m z g).root);obtain⟨K,k0,k1,k2⟩:=QF hw M hu e1 (fun z g=>(l z g).rb);obtain⟨D,d0,d1,d2,d3⟩:=f.bd
 have hb:Bd (s+u.length*(S9+E9+1)) (co w x):=by
  refine⟨D*K,Nat.mul_pos d0 k0,?_,(k2 (B:=0) f.mem).1 d2,?_⟩
  ·rw[Nat.pow_add];exact Nat.mul_le_mul d1 k1
  rw[Nat.pow_add];exact (k2 (D:=0) f.mem).2 d3
 obtain⟨k,A,hR⟩:=Vj (HE h) m;refine⟨o _ f.mem,(MK hw M h e2 hR (o _ f.mem) hb).mono ?_⟩;have C:=Nat.mul_le_mul_right (46412490+46321590+1) l1;have F:=Nat.mul_le_mul_right 46909868 l2;have a3:=Nat.mul_le_mul_right 46321590 (show v.length+1<=5 by omega);have A:k<=v.length*46909868+1067638368:=A
 show s+u.length*(46412490+46321590+1)+k+(v.length+1)*46321590<=s+1880000000
 omega
section
variable {P:List (List Rat)->Prop} {V:List Re} {w:List (List Rat)} {n:Re}
theorem fO (I:CA P 256) (hV:∀{u},P u->∀v∈Go.Abs.BP u,v∈V) (h3:V.length<=3) (hw:Tf P w) (f:El w R9 n) (K:0<n):Wv (Aj w n) S9 K9 R9 n:=by
 have g:=hw.red I;have B:=hw.HC I hV h3;have F:w.length<=3:=Nat.le_trans (hw.len I hV) h3;have z:n≠0:=by grind
 have l:Re.sqrt n*Re.sqrt n=n:=Re.Ev (by grind);have G:Re.sqrt n≠0:=fun e=>z (by rw[<-l,e];grind)
 by_cases k:Sq w n
 ·rw[ED k];have hm:=(I7 (by grind)).1 k;have b1:=N4 g B hm l f.bd
  have m:Bd S9 (co w (Re.sqrt n)):=b1.mono (by
   have:=Nh (h:=w.length) (h':=3) (R:=Rn) (R':=Rn) F (Nat.le_refl _);have e:GG 3 Rn=112490:=by decide +kernel
   have N:R9=46300000:=rfl
   show _<=46412490
   omega)
  obtain⟨y,M,A⟩:=Em g hm G;have b2:=HJ g B hm M A m;exact⟨hm,m,⟨y,by rw[<-A];exact Re.mul_comm _ _,b2.mono (Nat.le_trans (GI F (Nat.le_refl _) (Nat.le_refl _)) (by decide +kernel))⟩,f.bd⟩
 have C:=H4 g f.mem K k;have H:∀{s x},El w s x->El (Aj w n) s x:=fun L=>El.Aj g (by rw[C8 k];exact C) L
 have e1:=Im C;rw[HA f.mem] at e1;obtain⟨i,J,o⟩:=Em g f.mem z;have b2:=HJ g B f.mem J o f.bd;have z0:El w 0 0:=El.rat g Gz;have b3:=J3 C z0.mem J z0.bd b2;rw[HA f.mem,show (0:Re)+i*Re.sqrt n=i*Re.sqrt n by grind] at b3;refine⟨by rw[C8 k];exact e1.mem,by rw[C8 k];exact e1.bd.mono (by decide),⟨i*Re.sqrt n,?_,?_⟩,(H f).bd⟩
 ·have e2:i*Re.sqrt n*Re.sqrt n=i*(Re.sqrt n*Re.sqrt n):=by grind
  have:i*Re.sqrt n*Re.sqrt n=n*i:=by rw[e2,l];exact Re.mul_comm _ _
  rw[this,o]
 rw[C8 k];refine b3.mono (Nat.le_trans (Nat.add_le_add_left (GI F (Nat.le_refl _) (Nat.le_refl _)) _) (by decide +kernel))
theorem Us (I:CA P 256) (hV:∀{u},P u->∀v∈Go.Abs.BP u,v∈V) (h3:V.length<=3) (hw:Tf P w) (g:El w R9 n) (z:0<=n):Ml (Aj w n) E9:=by
 have k:=hw.red I;have l:=hw.HC I hV h3;have he:=Gw (h:=w.length) (h':=3) (R:=Rn) (R':=Rn) (Nat.le_trans (hw.len I hV) h3) (Nat.le_refl _);have o:EE 3 Rn=10794:=by decide +kernel
 have M:=Ml.of k l
 by_cases f:Sq w n
 ·rw[ED f];exact M.mono (by show _<=46321590;omega)
 have m:=H4 k g.mem (by
  have:n≠0:=fun e=>f (by rw[e];exact⟨0,CZ w,by grind⟩)
  grind) f
 rw[C8 f];have A:R9=46300000:=rfl;exact (M.cons m g.bd).mono (by show _<=46321590;omega)
theorem ml (I:CA P 256) (hV:∀{u},P u->∀v∈Go.Abs.BP u,v∈V) (h3:V.length<=3) (hw:Tf P w) (A:El w R9 n) (F:0<=n) {x y:Re} {s:Nat} (f:El (Aj w n) s x) (g:In (Aj w n) y) (e:x*y=1):El (Aj w n) (47*s+1066000000) y:=by
 have k:=hw.red I;have m:=hw.HC I hV h3;have z:w.length<=3:=Nat.le_trans (hw.len I hV) h3;have he:=Gw (h:=w.length) (h':=3) (R:=Rn) (R':=Rn) z (Nat.le_refl _);have C:EE 3 Rn=10794:=by decide +kernel
 have o:∀s,II w.length Rn s<=23*s+151098:=fun s=>Nat.le_trans (GI z (Nat.le_refl _) (Nat.le_refl _)) (by simp only[II,EE,Rn];omega)
 refine⟨g,?_⟩
 by_cases l:Sq w n
 ·rw[ED l] at f g ⊢;exact (HJ k m f.mem g e f.bd).mono (by have:=o s;omega)
 have B:=H4 k A.mem (by
  have:n≠0:=fun e=>l (by rw[e];exact⟨0,CZ w,by grind⟩)
  grind) l
 rw[C8 l] at f g ⊢;have:=Ml.inv (P:=fun s=>II w.length Rn s) B (Ml.of k m) A.bd (fun f g e hb=>HJ k m f g e hb) f.mem e f.bd;refine this.mono ?_
 show s+EE w.length Rn+II w.length Rn (2*s+2*EE w.length Rn+46300000+1)<=_
 have G:II w.length Rn (2*s+2*EE w.length Rn+46300000+1)<=23*(2*s+2*EE w.length Rn+46300000+1)+151098:=o _;omega
theorem Wg (I:CA P 256) (hV:∀{u},P u->∀v∈Go.Abs.BP u,v∈V) (h3:V.length<=3) (hw:Tf P w) (ha:∀{u},Tf P u->Bl u w) (f:El w R9 n) (k:0<=n) {r:List Rat} {u:List (List Rat)} (h:P4 P n (r::u)):Wm (Aj w n) n (Al u r):=by
 have g:BF (Aj w n):=Ec (hw.red I) f.mem k;rcases h.top I with h |⟨z,l,e⟩
 ·have W:=fP I hV h3 hw ha g (fun m=>El.Aj (hw.red I) g m) h;obtain⟨y,e,o⟩:=W.inv;exact .inl ⟨W.root,W.rb.mono (by decide),⟨y,e,o⟩,W.vb.mono (by decide)⟩
 refine .inr ⟨e,?_⟩;rw[e]
 exact fO I hV h3 hw f (by
  have:n≠0:=fun e=>l (by rw[e];exact⟨0,CZ u,by grind⟩)
  grind)
theorem Zr (I:CA P 256) (hV:∀{u},P u->∀v∈Go.Abs.BP u,v∈V) (h3:V.length<=3) (hw:Tf P w) (ha:∀{u},Tf P u->Bl u w) (k:El w R9 n) (g:0<=n):CA (P4 P n) HG:=by
 have o:BF (Aj w n):=Ec (hw.red I) k.mem g;have M:=Us I hV h3 hw k g;refine⟨fun h=>P4.red I g h,fun {u} h=>?_,fun h=>P4.sub I h⟩;have l:=P4.red I g h
 have m:u.length<=4:=by
  have:=Ja (HE l) (P4.len I hV h);rw[Jl,List.length_cons] at this;omega
 have f:∀v∈Go.Abs.BP u,Wm (Aj w n) n v:=by
  clear m l
  induction u with
  | nil=>intro v f;simp[Go.Abs.BP] at f
  | cons r u z=>
   intro v f;rcases List.mem_cons.1 f with rfl | f
   ·exact Wg I hV h3 hw ha k g h
   exact z (P4.sub I h) v f
 exact WO o M l m f
theorem Tf.OR (I:CA P 256) (hV:∀{u},P u->∀v∈Go.Abs.BP u,v∈V) (h3:V.length<=3) (J:CA (P4 P n) HG) {u:List (List Rat)} (h:Tf (P4 P n) u):u.length<=4:=by
 have:=h.len J (V:=n::V) (fun f=>P4.len I hV f);rw[List.length_cons] at this;omega
end
theorem lg:∀h,h<=4->Fit h HG (M9+C9)
 |0,_|1,_|2,_|3,_|4,_=>⟨by decide +kernel,by decide +kernel,by decide +kernel,by decide +kernel⟩
 | _+5,h=>absurd h (by omega)
theorem lW:∀h,h<=4->FW h HG (M9+C9)
 |0,_|1,_|2,_|3,_|4,_=>⟨by decide +kernel,by decide +kernel,by decide +kernel,by decide +kernel⟩
 | _+5,h=>absurd h (by omega)
theorem oa:2*(M9+C9)+EE 4 HG<=60000000000000:=by decide +kernel
theorem mT:II 4 HG M9<=60000000000000:=by decide +kernel
theorem mB {P:List (List Rat)->Prop} {R0 S:Nat} (I:CA P R0) (m:∀{u},Tf P u->TB HG u) (f:∀{u},Tf P u->u.length<=4) (k:∀{u w s x},Tf P u->Tf P w->Bl u w->El u s x->El w (s+C9) x) (l:HG<=S) (g:S<=M9):EM (Tf P) HG C9 S where
 BJ:=fun {u} h=>⟨h.red I,m h,by decide,by have:=f h;omega⟩
 ht:=fun {u} h=>by have:=f h;omega
 nil:= .nil
 sub:=fun {r u} h=>h.sub I
 Aj:=fun {t r u} ht h k=>ht.Nw I h k
 CV:=k
 fit:=fun {u} h=>(lg _ (f h)).mono (Nat.add_le_add_right g C9)
 mul:=fun {u} h=>Nat.le_trans (Nat.add_le_add (Nat.mul_le_mul_left 2 (Nat.add_le_add_right g C9)) (Gw (h:=u.length) (h':=4) (R:=HG) (R':=HG) (f h) (Nat.le_refl _))) oa
 RS:=l
 HO:=fun {u} h=>(lW _ (f h)).mono (Nat.add_le_add_right g C9)
section
variable {P:List (List Rat)->Prop} {V:List Re} {w:List (List Rat)} {n:Re}
theorem l5 (I:CA P 256) (hV:∀{u},P u->∀v∈Go.Abs.BP u,v∈V) (h3:V.length<=3) (hw:Tf P w) (ha:∀{u},Tf P u->Bl u w) (k:El w R9 n) (g:0<=n) {S:Nat} (o:HG<=S) (z:S<=M9):EM (Tf (P4 P n)) HG C9 S:=by
 have J:=Zr I hV h3 hw ha k g;have m:BF (Aj w n):=Ec (hw.red I) k.mem g;have M:=Us I hV h3 hw k g;have l:∀{u},Tf (P4 P n) u->∀v∈Go.Abs.BP u,Wm (Aj w n) n v:=fun {u} h=>Tf.all J (fun B=>Wg I hV h3 hw ha k g B) h
 exact mB J (fun {u} h=>WO m M (h.red J) (h.OR I hV h3 J) (l h)) (fun h=>h.OR I hV h3 J) (fun {u v s x} hu f A C=>lN m M (hu.red J) (f.red J) (l hu) (l f) (hu.OR I hV h3 J) (f.OR I hV h3 J) A C) o z
end
end Go.Abs
namespace Go.Abs
open Go.RowKit
abbrev F9 (TT:List (List Rat)->Prop) (w:List (List Rat)):Prop:=Fm TT w HG 47000000 40 690 47 23
theorem Pl.f9 {P:List (List Rat)->Prop} {V:List Re} {w:List (List Rat)} (L:Pl P V w) {n:Re} (f:El w R9 n) (g:0<=n):F9 (Tf (P4 P n)) (Aj w n):=by
 have J:=Zr L.I L.hV L.h3 L.hw L.ha f g;have l:BF (Aj w n):=Ec (L.hw.red L.I) f.mem g;have M:=Us L.I L.hV L.h3 L.hw f g;refine⟨fun {S} m o=>l5 L.I L.hV L.h3 L.hw L.ha f g m (Nat.le_trans o (by decide)),L.hw.Nv L.I f.mem,fun {u} hu=>Hu l (hu.red J) (fun v A=>(Tf.all J (fun z=>Wg L.I L.hV L.h3 L.hw L.ha f g z) hu v A).root),by decide,by decide,fun {x y s t} h k=>⟨BN l h.mem k.mem,(M.bd h.mem k.mem h.bd k.bd).mono (by show s+t+46321590<=s+t+47000000;omega)⟩,fun h k e=>(ml L.I L.hV L.h3 L.hw f g h k e).mono (by omega),fun {u} hu=>?_⟩;exact Nat.le_trans (GI (hu.OR L.I L.hV L.h3 J) (Nat.le_refl _) (Nat.le_refl _)) mT
end Go.Abs
namespace Go.Abs
variable {D a al b be c d e ga i j n p q r s t u v x xp y yp:Re}
theorem UT (h:x*i=1) (f:y*j=1):AE (x*y)=i*j:=(Mh (by
 have:x*y*(i*j)=x*i*(y*j):=by grind
 rw[this,h,f];grind)).symm
theorem GX (h:x≠0):x*AE x=1:=F6 h
theorem NR {q r:Rat} (h:r*r=q) (f:0<=r):Re.sqrt (Re.ofRat q)=Re.ofRat r:=by
 have g:(0:Re)<=Re.ofRat q:=by rw[<-h,Re.ofRat_mul];exact Re.Ji _
 exact Re.LQ (Re.Gg _) (by rw[<-Re.Hj];exact Re.Ra.2 f) (by rw[Re.Ev g,<-h,Re.ofRat_mul])
theorem KO {q:Rat} (h:0<q):0<Re.ofRat q:=by rw[<-Re.Hj];exact Re.GP.2 h
theorem UF (m:i≠0) (k:a*a+b*b=D) (o:D≠0) (g:al=a*i) (h:be=b*i) (h3:ga=(a*xp+b*yp)*i):
  al*((al*x+be*y-ga)*AE (al*al+be*be))=a*((a*(x-xp)+b*(y-yp))*AE D)/\be*((al*x+be*y-ga)*AE (al*al+be*be))=b*((a*(x-xp)+b*(y-yp))*AE D):=by
 have f:=GX m;have l:=GX o;have e:al*al+be*be=D*(i*i):=by rw[g,h,<-k];grind
 have e2:AE (D*(i*i))=AE D*(AE i*AE i):=UT l (by
  have:i*i*(AE i*AE i)=i*AE i*(i*AE i):=by grind
  rw[this,f];grind)
 rw[e,e2,g,h,h3]
 constructor
 ·have:a*i*((a*i*x+b*i*y-(a*xp+b*yp)*i)*(AE D*(AE i*AE i)))=a*((a*(x-xp)+b*(y-yp))*AE D)*(i*AE i)*(i*AE i):=by grind
  rw[this,f];grind
 have:b*i*((a*i*x+b*i*y-(a*xp+b*yp)*i)*(AE D*(AE i*AE i)))=b*((a*(x-xp)+b*(y-yp))*AE D)*(i*AE i)*(i*AE i):=by grind
 rw[this,f];grind
theorem UD (o:i≠0) (m:a*a+b*b=D) (z:D≠0) (f:al=a*i) (g:be=b*i) (h3:ga=(a*xp+b*yp)*i):
  (al*x+be*y-ga)*(al*x+be*y-ga)*AE (al*al+be*be)=D*((a*(x-xp)+b*(y-yp))*AE D)*((a*(x-xp)+b*(y-yp))*AE D):=by
 have k:=GX o;have h:=GX z;have e:al*al+be*be=D*(i*i):=by rw[f,g,<-m];grind
 have e2:AE (D*(i*i))=AE D*(AE i*AE i):=UT h (by
  have:i*i*(AE i*AE i)=i*AE i*(i*AE i):=by grind
  rw[this,k];grind)
 rw[e,e2,f,g,h3];have l:(a*i*x+b*i*y-(a*xp+b*yp)*i)*(a*i*x+b*i*y-(a*xp+b*yp)*i)*(AE D*(AE i*AE i))=(a*(x-xp)+b*(y-yp))*(a*(x-xp)+b*(y-yp))*AE D*(i*AE i)*(i*AE i):=by grind
 have r:D*((a*(x-xp)+b*(y-yp))*AE D)*((a*(x-xp)+b*(y-yp))*AE D)=(a*(x-xp)+b*(y-yp))*(a*(x-xp)+b*(y-yp))*AE D*(D*AE D):=by grind
 rw[l,r,k,h];grind
theorem M1 (h:a=1\/a=0/\b=1):¬(a=0/\b=0):=by
 rintro⟨f,g⟩
 rcases h with h |⟨_,h⟩
 ·exact NH (h.symm.trans f)
 exact NH (h.symm.trans g)
theorem Yv (f:a=1\/a=0/\b=1) (g:c=1\/c=0/\d=1) (h:¬(a=c/\b=d)):a*d-b*c≠0:=by
 intro e;rcases f with f |⟨f,h3⟩ <;> rcases g with g |⟨g,k⟩
 ·exact h ⟨by rw[f,g],by rw[f,g] at e;grind⟩
 ·exact NH (by rw[f,g,k] at e;grind)
 ·exact NH (by rw[f,h3,g] at e;grind)
 exact h ⟨by rw[f,g],by rw[h3,k]⟩
theorem oK {f g x' y':Re} (l:a= -v*i) (m:b=u*i) (h3:c=(-v*x+u*y)*i) (g1:p= -g*j) (g2:q=f*j) (h:r=(-g*x'+f*y')*j) (A:a*q-b*p≠0):
  u*g-v*f≠0/\(c*q-b*r)*AE (a*q-b*p)=x+u*(((x'-x)*g-(y'-y)*f)*AE (u*g-v*f))/\(a*r-c*p)*AE (a*q-b*p)=y+v*(((x'-x)*g-(y'-y)*f)*AE (u*g-v*f)):=by
 have e:a*q-b*p=(u*g-v*f)*(i*j):=by rw[l,m,g1,g2];grind
 have k:u*g-v*f≠0:=fun z=>A (by rw[e,z];grind)
 have B:=GX A;have o:=GX k;refine⟨k,?_,?_⟩
 ·have e1:c*q-b*r=(x+u*(((x'-x)*g-(y'-y)*f)*AE (u*g-v*f)))*(a*q-b*p):=by
   have:(x+u*(((x'-x)*g-(y'-y)*f)*AE (u*g-v*f)))*(a*q-b*p)=(x*(u*g-v*f)+u*((x'-x)*g-(y'-y)*f)*((u*g-v*f)*AE (u*g-v*f)))*(i*j):=by rw[e];grind
   rw[this,o,m,h3,g2,h];grind
  rw[e1,show ∀z,z*(a*q-b*p)*AE (a*q-b*p)=z*((a*q-b*p)*AE (a*q-b*p)) by intro z;grind,B];grind
 have e1:a*r-c*p=(y+v*(((x'-x)*g-(y'-y)*f)*AE (u*g-v*f)))*(a*q-b*p):=by
  have:(y+v*(((x'-x)*g-(y'-y)*f)*AE (u*g-v*f)))*(a*q-b*p)=(y*(u*g-v*f)+v*((x'-x)*g-(y'-y)*f)*((u*g-v*f)*AE (u*g-v*f)))*(i*j):=by rw[e];grind
  rw[this,o,l,h3,g1,h];grind
 rw[e1,show ∀z,z*(a*q-b*p)*AE (a*q-b*p)=z*((a*q-b*p)*AE (a*q-b*p)) by intro z;grind,B];grind
theorem pE (f:a*q-b*p≠0):a*((c*q-b*r)*AE (a*q-b*p))+b*((a*r-c*p)*AE (a*q-b*p))=c:=by
 have g:=GX f;have:a*((c*q-b*r)*AE (a*q-b*p))+b*((a*r-c*p)*AE (a*q-b*p))=c*((a*q-b*p)*AE (a*q-b*p)):=by grind
 rw[this,g];grind
theorem pF (f:a*q-b*p≠0):p*((c*q-b*r)*AE (a*q-b*p))+q*((a*r-c*p)*AE (a*q-b*p))=r:=by
 have g:=GX f;have:p*((c*q-b*r)*AE (a*q-b*p))+q*((a*r-c*p)*AE (a*q-b*p))=r*((a*q-b*p)*AE (a*q-b*p)):=by grind
 rw[this,g];grind
theorem oL (f:a*q-b*p≠0):(r*b-q*c)*AE (p*b-q*a)=(c*q-b*r)*AE (a*q-b*p)/\(p*c-r*a)*AE (p*b-q*a)=(a*r-c*p)*AE (a*q-b*p):=by
 have e:p*b-q*a= -(a*q-b*p):=by grind
 rw[e,inv_neg f]
 constructor <;> grind
theorem NO (f:0<d):Bi (x*AE d)=Bi x:=by
 have h:d*AE d=1:=GX (by grind);have e:Bi (x*AE d*d)=Bi (x*AE d)*Bi d:=V8 _ _;rw[EI f,show x*AE d*d=x*(d*AE d) by grind,h,show x*1=x by grind] at e;omega
theorem Qc (f:u*u+v*v=D) (g:D*n=s-D*e*e) (h:r*r=n):(x- -v*e+u*r-x)*(x- -v*e+u*r-x)+(y-u*e+v*r-y)*(y-u*e+v*r-y)=s:=by
 have:(x- -v*e+u*r-x)*(x- -v*e+u*r-x)+(y-u*e+v*r-y)*(y-u*e+v*r-y)=(u*u+v*v)*(e*e)+(u*u+v*v)*(r*r):=by grind
 rw[this,h,f,g];grind
theorem Qf (f:u*u+v*v=D):u*(x- -v*e+u*r-x)+v*(y-u*e+v*r-y)=D*r:=by rw[<-f];grind
theorem Qe (h:u*u+v*v=D) (l:D≠0) (f:a= -v*i) (g:b=u*i) (h3:c=(-v*xp+u*yp)*i):a*(x- -v*((-v*(x-xp)+u*(y-yp))*AE D)+u*r)+b*(y-u*((-v*(x-xp)+u*(y-yp))*AE D)+v*r)=c:=by
 have k:=GX l;rw[f,g,h3];have: -v*i*(x- -v*((-v*(x-xp)+u*(y-yp))*AE D)+u*r)+u*i*(y-u*((-v*(x-xp)+u*(y-yp))*AE D)+v*r)=(-v*x+u*y)*i-(u*u+v*v)*AE D*((-v*(x-xp)+u*(y-yp))*i):=by grind
 rw[this,h,k];grind
theorem OG (h:d≠0):d*(x*AE d)=x:=by
 have:=GX h;have e:d*(x*AE d)=x*(d*AE d):=by grind
 rw[e,this];grind
theorem VN (g:q≠0):s*AE q-(q+s-t)*AE (q+q)*((q+s-t)*AE (q+q))=((1+1+1+1)*(q*s)-(q+s-t)*(q+s-t))*AE ((q+q)*(q+q)):=by
 have h:=GX g
 have k:q+q≠0:=fun e=>g (by
  have f:q+q=(1+1)*q:=by grind
  grind)
 have f:=GX k;rw[UT f f]
 have:(1+1+1+1)*(q*s)*(AE (q+q)*AE (q+q))=s*(AE q)*((q+q)*AE (q+q))*((q+q)*AE (q+q)):=by
  have e:s*AE q*((q+q)*AE (q+q))*((q+q)*AE (q+q))=(1+1+1+1)*s*q*(q*AE q)*(AE (q+q)*AE (q+q)):=by grind
  rw[e,h];grind
 rw[show ∀z:Re,(((1+1+1+1)*(q*s))-z)*(AE (q+q)*AE (q+q))=(1+1+1+1)*(q*s)*(AE (q+q)*AE (q+q))-z*(AE (q+q)*AE (q+q)) by intro z;grind,this,f];grind
theorem Lj {t:Re} (h:u*u+v*v=q) (l:q≠0) (g:s*AE q-p*p=n) (k:r*r=n):(u*p+ -v*r)*(u*p+ -v*r)+(v*p+u*r)*(v*p+u*r)=s:=by
 have f:=GX l;have:(u*p+ -v*r)*(u*p+ -v*r)+(v*p+u*r)*(v*p+u*r)=(u*u+v*v)*(p*p+r*r):=by grind
 rw[this,k,h,<-g,show q*(p*p+(s*AE q-p*p))=s*(q*AE q) by grind,f];grind
theorem Ll (f:q≠0):(q+q)*((q+s-t)*AE (q+q))=q+s-t:=OG (by
 intro e;have g:=GX f;have h:q+q=(1+1)*q:=by grind
 grind)
theorem MN (f:u*u+v*v=q) (m:q≠0) (k:(q+q)*p=q+s-t) (h:s*AE q-p*p=n) (l:r*r=n):(u*p+ -v*r-u)*(u*p+ -v*r-u)+(v*p+u*r-v)*(v*p+u*r-v)=t:=by
 have g:=Lj (t:=t) f m h l;have:(u*p+ -v*r-u)*(u*p+ -v*r-u)+(v*p+u*r-v)*(v*p+u*r-v)=(u*p+ -v*r)*(u*p+ -v*r)+(v*p+u*r)*(v*p+u*r)-((u*u+v*v)+(u*u+v*v))*p+(u*u+v*v):=by grind
 rw[this,g,f,k];grind
theorem MO (f:u*u+v*v=q):u*(v*p+u*r)-v*(u*p+ -v*r)=q*r:=by rw[<-f];grind
theorem Hs (h:q≠0):(q+t-s)*AE (q+q)=1-(q+s-t)*AE (q+q):=by
 have g:q+q≠0:=fun e=>h (by
  have f:=GX h;have g:q+q=(1+1)*q:=by grind
  grind)
 have f:=GX g;have:(q+t-s)*AE (q+q)+(q+s-t)*AE (q+q)=(q+q)*AE (q+q):=by grind
 rw[f] at this;grind
theorem Lk (f:q≠0):t*AE q-(q+t-s)*AE (q+q)*((q+t-s)*AE (q+q))=s*AE q-(q+s-t)*AE (q+q)*((q+s-t)*AE (q+q)):=by
 have g:=GX f;have h:=Ll (s:=s) (t:=t) f;rw[Hs f]
 have e:(1+1)*((q+s-t)*AE (q+q))=1+s*AE q-t*AE q:=by
  have:(1+1)*((q+s-t)*AE (q+q))=(q+q)*((q+s-t)*AE (q+q))*AE q:=by
   have:(q+q)*((q+s-t)*AE (q+q))*AE q=(1+1)*((q+s-t)*AE (q+q))*(q*AE q):=by grind
   rw[this,g];grind
  rw[this,h];have:(q+s-t)*AE q=q*AE q+s*AE q-t*AE q:=by grind
  rw[this,g]
 grind
end Go.Abs
