/- Part 28 of a proof. Conditions: each theorem's own. -/
import Derived.Test.YtmhbikooakmagaaGreatPk26
set_option linter.all false
set_option maxHeartbeats 8000000
set_option maxRecDepth 20000
namespace Go.Abs
abbrev R9:Nat:=46300000
abbrev E9:Nat:=46321590
abbrev S9:Nat:=46412490
abbrev K9:Nat:=1067638368
abbrev GH:Nat:=1440000000
abbrev C9:Nat:=1880000000
abbrev M9:Nat:=32430000000
def Wm (w:List (List Rat)) (n:Re) (v:Re):Prop:=Wv w S9 46909868 R9 v\/(v=n/\Wv w S9 K9 R9 v)
theorem Wm.root {w:List (List Rat)} {n v:Re} (h:Wm w n v):In w (Re.sqrt v):=h.elim (·.root) (·.2.root)
theorem Wm.rb {w:List (List Rat)} {n v:Re} (h:Wm w n v):Bd S9 (co w (Re.sqrt v)):=h.elim (·.rb) (·.2.rb)
theorem Wm.vb {w:List (List Rat)} {n v:Re} (h:Wm w n v):Bd R9 (co w v):=h.elim (·.vb) (·.2.vb)
theorem SZ {w:List (List Rat)} {n:Re}:∀{u:List (List Rat)},(BF u).Nodup->(∀v∈BF u,Wm w n v)->∃k,k<=u.length*46909868+K9/\Rb w u k
 | [],_,_=>⟨0,Nat.zero_le _,rfl⟩
 | r::u,o,h=>by
  have f:=List.nodup_cons.1 o;have ht:∀v∈BF u,Wm w n v:=fun v l=>h v (List.mem_cons_of_mem _ l)
  rcases h (AL u r) List.mem_cons_self with g |⟨e,g⟩
  ·obtain⟨k,B,A⟩:=SZ f.2 ht;obtain⟨y,m,hb⟩:=g.inv;exact⟨k+46909868,by rw[List.length_cons];omega,⟨k,46909868,rfl,A,y,m,hb⟩⟩
  obtain⟨y,m,hb⟩:=g.inv;have z:∀v∈BF u,Wv w S9 46909868 R9 v:=fun v l=>(ht v l).resolve_right (fun q=>f.1 (by rw[e,<-q.1];exact l))
  exact⟨u.length*46909868+K9,by rw[List.length_cons];omega,⟨_,K9,rfl,ZB z,y,m,hb⟩⟩
theorem TE {w:List (List Rat)} {n:Re} (hw:AZ w) (M:Ml w E9):∀{u:List (List Rat)},AZ u->u.length<=4->(∀v∈BF u,Wm w n v)->TB GH u
 | [],_,_,_=>fun r A=>by simp at A
 | r::u,h,z,m=>fun s g=>by
  rw[List.length_cons] at z;have f:∀v∈BF u,Wm w n v:=fun v hm=>m v (List.mem_cons_of_mem _ hm)
  rcases List.mem_cons.1 g with rfl | g
  ·have o:=MR hw h.1 (fun v hm=>(f v hm).root);obtain⟨k,l,hR⟩:=SZ (HU h.1) f;have:=VW hw M h.1 o hR (B8 h) (m _ List.mem_cons_self).vb;rw[Es h] at this;refine this.mono ?_;have B:=Nat.mul_le_mul_right 46321590 (show u.length+1<=4 by omega);have h3:=Nat.mul_le_mul_right 46909868 (show u.length<=3 by omega);have l:k<=u.length*46909868+1067638368:=l
   show 46300000+k+(u.length+1)*46321590<=1440000000
   omega
  exact TE hw M h.1 (by omega) f s g
theorem gT {w u v:List (List Rat)} {n:Re} {s:Nat} {x:Re} (hw:AZ w) (M:Ml w E9) (hu:AZ u) (h:AZ v) (l:∀z∈BF u,Wm w n z) (m:∀z∈BF v,Wm w n z) (l1:u.length<=4) (l2:v.length<=4) (o:Ba u v) (f:El u s x):El v (s+C9) x:=by
 have C:=MR hw hu (fun z g=>(l z g).root);have e2:=MR hw h (fun z g=>(m z g).root);obtain⟨K,k0,k1,k2⟩:=VY hw M hu C (fun z g=>(l z g).rb);obtain⟨D,d0,d1,d2,d3⟩:=f.bd
 have hb:Bd (s+u.length*(S9+E9+1)) (co w x):=by
  refine⟨D*K,Nat.mul_pos d0 k0,?_,(k2 (B:=0) f.mem).1 d2,?_⟩
  ·rw[Nat.pow_add];exact Nat.mul_le_mul d1 k1
  rw[Nat.pow_add];exact (k2 (D:=0) f.mem).2 d3
 obtain⟨k,A,hR⟩:=SZ (HU h) m;refine⟨o _ f.mem,(VW hw M h e2 hR (o _ f.mem) hb).mono ?_⟩;have F:=Nat.mul_le_mul_right (46412490+46321590+1) l1;have G:=Nat.mul_le_mul_right 46909868 l2;have a3:=Nat.mul_le_mul_right 46321590 (show v.length+1<=5 by omega);have A:k<=v.length*46909868+1067638368:=A
 show s+u.length*(46412490+46321590+1)+k+(v.length+1)*46321590<=s+1880000000
 omega
section
variable {P:List (List Rat)->Prop} {V:List Re} {w:List (List Rat)} {n:Re}
theorem a7 (I:CU P 256) (hV:∀{u},P u->∀v∈Go.Abs.BF u,v∈V) (h3:V.length<=3) (hw:Tf P w) (f:El w R9 n) (L:0<n):Wv (BK w n) S9 K9 R9 n:=by
 have g:=hw.red I;have C:=hw.KP I hV h3;have G:w.length<=3:=Nat.le_trans (hw.len I hV) h3;have z:n≠0:=by grind
 have l:Re.sqrt n*Re.sqrt n=n:=Re.HR (by grind);have H:Re.sqrt n≠0:=fun e=>z (by rw[<-l,e];grind)
 by_cases k:Sq w n
 ·rw[D3 k];have hm:=(Lf (by grind)).1 k;have b1:=QT g C hm l f.bd
  have m:Bd S9 (co w (Re.sqrt n)):=b1.mono (by
   have:=Pj (h:=w.length) (h':=3) (R:=Rn) (R':=Rn) G (Nat.le_refl _);have e:GG 3 Rn=112490:=by decide +kernel
   have O:R9=46300000:=rfl
   show _<=46412490
   omega)
  obtain⟨y,N,A⟩:=EC g hm H;have b2:=Ii g C hm N A m;exact⟨hm,m,⟨y,by rw[<-A];exact Re.mul_comm _ _,b2.mono (Nat.le_trans (IX G (Nat.le_refl _) (Nat.le_refl _)) (by decide +kernel))⟩,f.bd⟩
 have F:=NA g f.mem L k;have J:∀{s x},El w s x->El (BK w n) s x:=fun M=>El.BK g (by rw[Dc k];exact F) M
 have B:=JL F;rw[KM f.mem] at B;obtain⟨i,K,o⟩:=EC g f.mem z;have b2:=Ii g C f.mem K o f.bd;have z0:El w 0 0:=El.rat g HF;have b3:=N2 F z0.mem K z0.bd b2;rw[KM f.mem,show (0:Re)+i*Re.sqrt n=i*Re.sqrt n by grind] at b3;refine⟨by rw[Dc k];exact B.mem,by rw[Dc k];exact B.bd.mono (by decide),⟨i*Re.sqrt n,?_,?_⟩,(J f).bd⟩
 ·have e2:i*Re.sqrt n*Re.sqrt n=i*(Re.sqrt n*Re.sqrt n):=by grind
  have:i*Re.sqrt n*Re.sqrt n=n*i:=by rw[e2,l];exact Re.mul_comm _ _
  rw[this,o]
 rw[Dc k];refine b3.mono (Nat.le_trans (Nat.add_le_add_left (IX G (Nat.le_refl _) (Nat.le_refl _)) _) (by decide +kernel))
theorem Ri (I:CU P 256) (hV:∀{u},P u->∀v∈Go.Abs.BF u,v∈V) (h3:V.length<=3) (hw:Tf P w) (g:El w R9 n) (z:0<=n):Ml (BK w n) E9:=by
 have k:=hw.red I;have l:=hw.KP I hV h3;have he:=H0 (h:=w.length) (h':=3) (R:=Rn) (R':=Rn) (Nat.le_trans (hw.len I hV) h3) (Nat.le_refl _);have o:EE 3 Rn=10794:=by decide +kernel
 have M:=Ml.of k l
 by_cases f:Sq w n
 ·rw[D3 f];exact M.mono (by show _<=46321590;omega)
 have m:=NA k g.mem (by
  have:n≠0:=fun e=>f (by rw[e];exact⟨0,CG w,by grind⟩)
  grind) f
 rw[Dc f];have A:R9=46300000:=rfl;exact (M.cons m g.bd).mono (by show _<=46321590;omega)
theorem ik (I:CU P 256) (hV:∀{u},P u->∀v∈Go.Abs.BF u,v∈V) (h3:V.length<=3) (hw:Tf P w) (A:El w R9 n) (F:0<=n) {x y:Re} {s:Nat} (f:El (BK w n) s x) (g:In (BK w n) y) (e:x*y=1):El (BK w n) (47*s+1066000000) y:=by
 have k:=hw.red I;have m:=hw.KP I hV h3;have z:w.length<=3:=Nat.le_trans (hw.len I hV) h3;have he:=H0 (h:=w.length) (h':=3) (R:=Rn) (R':=Rn) z (Nat.le_refl _);have C:EE 3 Rn=10794:=by decide +kernel
 have o:∀s,II w.length Rn s<=23*s+151098:=fun s=>Nat.le_trans (IX z (Nat.le_refl _) (Nat.le_refl _)) (by simp only[II,EE,Rn];omega)
 refine⟨g,?_⟩
 by_cases l:Sq w n
 ·rw[D3 l] at f g ⊢;exact (Ii k m f.mem g e f.bd).mono (by have:=o s;omega)
 have B:=NA k A.mem (by
  have:n≠0:=fun e=>l (by rw[e];exact⟨0,CG w,by grind⟩)
  grind) l
 rw[Dc l] at f g ⊢;have:=Ml.inv (P:=fun s=>II w.length Rn s) B (Ml.of k m) A.bd (fun f g e hb=>Ii k m f g e hb) f.mem e f.bd;refine this.mono ?_
 show s+EE w.length Rn+II w.length Rn (2*s+2*EE w.length Rn+46300000+1)<=_
 have G:II w.length Rn (2*s+2*EE w.length Rn+46300000+1)<=23*(2*s+2*EE w.length Rn+46300000+1)+151098:=o _;omega
theorem TY (I:CU P 256) (hV:∀{u},P u->∀v∈Go.Abs.BF u,v∈V) (h3:V.length<=3) (hw:Tf P w) (ha:∀{u},Tf P u->Ba u w) (f:El w R9 n) (k:0<=n) {r:List Rat} {u:List (List Rat)} (h:P4 P n (r::u)):Wm (BK w n) n (AL u r):=by
 have g:AZ (BK w n):=Jg (hw.red I) f.mem k;rcases h.top I with h |⟨z,l,e⟩
 ·have W:=oe I hV h3 hw ha g (fun m=>El.BK (hw.red I) g m) h;obtain⟨y,e,o⟩:=W.inv;exact .inl ⟨W.root,W.rb.mono (by decide),⟨y,e,o⟩,W.vb.mono (by decide)⟩
 refine .inr ⟨e,?_⟩;rw[e]
 exact a7 I hV h3 hw f (by
  have:n≠0:=fun e=>l (by rw[e];exact⟨0,CG u,by grind⟩)
  grind)
theorem XK (I:CU P 256) (hV:∀{u},P u->∀v∈Go.Abs.BF u,v∈V) (h3:V.length<=3) (hw:Tf P w) (ha:∀{u},Tf P u->Ba u w) (k:El w R9 n) (g:0<=n):CU (P4 P n) GH:=by
 have o:AZ (BK w n):=Jg (hw.red I) k.mem g;have M:=Ri I hV h3 hw k g;refine⟨fun h=>P4.red I g h,fun {u} h=>?_,fun h=>P4.sub I h⟩;have l:=P4.red I g h
 have m:u.length<=4:=by
  have:=JW (HU l) (P4.len I hV h);rw[Jn,List.length_cons] at this;omega
 have f:∀v∈Go.Abs.BF u,Wm (BK w n) n v:=by
  clear m l
  induction u with
  | nil=>intro v f;simp[Go.Abs.BF] at f
  | cons r u z=>
   intro v f;rcases List.mem_cons.1 f with rfl | f
   ·exact TY I hV h3 hw ha k g h
   exact z (P4.sub I h) v f
 exact TE o M l m f
theorem Tf.Ma (I:CU P 256) (hV:∀{u},P u->∀v∈Go.Abs.BF u,v∈V) (h3:V.length<=3) (J:CU (P4 P n) GH) {u:List (List Rat)} (h:Tf (P4 P n) u):u.length<=4:=by
 have:=h.len J (V:=n::V) (fun f=>P4.len I hV f);rw[List.length_cons] at this;omega
end
theorem gi:∀h,h<=4->Fit h GH (M9+C9)
 |0,_|1,_|2,_|3,_|4,_=>⟨by decide +kernel,by decide +kernel,by decide +kernel,by decide +kernel⟩
 | _+5,h=>absurd h (by omega)
theorem gd:∀h,h<=4->Ee h GH (M9+C9)
 |0,_|1,_|2,_|3,_|4,_=>⟨by decide +kernel,by decide +kernel,by decide +kernel,by decide +kernel⟩
 | _+5,h=>absurd h (by omega)
theorem j5:2*(M9+C9)+EE 4 GH<=60000000000000:=by decide +kernel
theorem iK:II 4 GH M9<=60000000000000:=by decide +kernel
theorem gz {P:List (List Rat)->Prop} {R0 S:Nat} (I:CU P R0) (m:∀{u},Tf P u->TB GH u) (f:∀{u},Tf P u->u.length<=4) (k:∀{u w s x},Tf P u->Tf P w->Ba u w->El u s x->El w (s+C9) x) (l:GH<=S) (g:S<=M9):DT (Tf P) GH C9 S where
 BE:=fun {u} h=>⟨h.red I,m h,by decide,by have:=f h;omega⟩
 ht:=fun {u} h=>by have:=f h;omega
 nil:= .nil
 sub:=fun {r u} h=>h.sub I
 BK:=fun {t r u} ht h k=>ht.QF I h k
 CE:=k
 fit:=fun {u} h=>(gi _ (f h)).mono (Nat.add_le_add_right g C9)
 mul:=fun {u} h=>Nat.le_trans (Nat.add_le_add (Nat.mul_le_mul_left 2 (Nat.add_le_add_right g C9)) (H0 (h:=u.length) (h':=4) (R:=GH) (R':=GH) (f h) (Nat.le_refl _))) j5
 RS:=l
 JN:=fun {u} h=>(gd _ (f h)).mono (Nat.add_le_add_right g C9)
section
variable {P:List (List Rat)->Prop} {V:List Re} {w:List (List Rat)} {n:Re}
theorem gy (I:CU P 256) (hV:∀{u},P u->∀v∈Go.Abs.BF u,v∈V) (h3:V.length<=3) (hw:Tf P w) (ha:∀{u},Tf P u->Ba u w) (k:El w R9 n) (g:0<=n) {S:Nat} (o:GH<=S) (z:S<=M9):DT (Tf (P4 P n)) GH C9 S:=by
 have J:=XK I hV h3 hw ha k g;have m:AZ (BK w n):=Jg (hw.red I) k.mem g;have M:=Ri I hV h3 hw k g;have l:∀{u},Tf (P4 P n) u->∀v∈Go.Abs.BF u,Wm (BK w n) n v:=fun {u} h=>Tf.all J (fun B=>TY I hV h3 hw ha k g B) h
 exact gz J (fun {u} h=>TE m M (h.red J) (h.Ma I hV h3 J) (l h)) (fun h=>h.Ma I hV h3 J) (fun {u v s x} hu f A C=>gT m M (hu.red J) (f.red J) (l hu) (l f) (hu.Ma I hV h3 J) (f.Ma I hV h3 J) A C) o z
end
end Go.Abs
namespace Go.Abs
open Go.RowKit
abbrev F9 (TT:List (List Rat)->Prop) (w:List (List Rat)):Prop:=Fm TT w GH 47000000 40 690 47 23
theorem Pl.f9 {P:List (List Rat)->Prop} {V:List Re} {w:List (List Rat)} (L:Pl P V w) {n:Re} (f:El w R9 n) (g:0<=n):F9 (Tf (P4 P n)) (BK w n):=by
 have J:=XK L.I L.hV L.h3 L.hw L.ha f g;have l:AZ (BK w n):=Jg (L.hw.red L.I) f.mem g;have M:=Ri L.I L.hV L.h3 L.hw f g;refine⟨fun {S} m o=>gy L.I L.hV L.h3 L.hw L.ha f g m (Nat.le_trans o (by decide)),L.hw.VF L.I f.mem,fun {u} hu=>MR l (hu.red J) (fun v A=>(Tf.all J (fun z=>TY L.I L.hV L.h3 L.hw L.ha f g z) hu v A).root),by decide,by decide,fun {x y s t} h k=>⟨Aj l h.mem k.mem,(M.bd h.mem k.mem h.bd k.bd).mono (by show s+t+46321590<=s+t+47000000;omega)⟩,fun h k e=>(ik L.I L.hV L.h3 L.hw f g h k e).mono (by omega),fun {u} hu=>?_⟩;exact Nat.le_trans (IX (hu.Ma L.I L.hV L.h3 J) (Nat.le_refl _) (Nat.le_refl _)) iK
end Go.Abs
namespace Go.Abs
variable {D a al b be c d e ga i j n p q r s t u v x xp y yp:Re}
theorem RC (h:x*i=1) (f:y*j=1):AT (x*y)=i*j:=(XN (by
 have:x*y*(i*j)=x*i*(y*j):=by grind
 rw[this,h,f];grind)).symm
theorem E5 (h:x≠0):x*AT x=1:=Hk h
theorem aK {q r:Rat} (h:r*r=q) (f:0<=r):Re.sqrt (Re.ofRat q)=Re.ofRat r:=by
 have g:(0:Re)<=Re.ofRat q:=by rw[<-h,Re.ofRat_mul];exact Re.I3 _
 exact Re.KO (Re.Jl _) (by rw[<-Re.R7];exact Re.R6.2 f) (by rw[Re.HR g,<-h,Re.ofRat_mul])
theorem ZD {q:Rat} (h:0<q):0<Re.ofRat q:=by rw[<-Re.R7];exact Re.G1.2 h
theorem W1 (m:i≠0) (k:a*a+b*b=D) (o:D≠0) (g:al=a*i) (h:be=b*i) (h3:ga=(a*xp+b*yp)*i):
  al*((al*x+be*y-ga)*AT (al*al+be*be))=a*((a*(x-xp)+b*(y-yp))*AT D)/\be*((al*x+be*y-ga)*AT (al*al+be*be))=b*((a*(x-xp)+b*(y-yp))*AT D):=by
 have f:=E5 m;have l:=E5 o;have e:al*al+be*be=D*(i*i):=by rw[g,h,<-k];grind
 have e2:AT (D*(i*i))=AT D*(AT i*AT i):=RC l (by
  have:i*i*(AT i*AT i)=i*AT i*(i*AT i):=by grind
  rw[this,f];grind)
 rw[e,e2,g,h,h3]
 constructor
 ·have:a*i*((a*i*x+b*i*y-(a*xp+b*yp)*i)*(AT D*(AT i*AT i)))=a*((a*(x-xp)+b*(y-yp))*AT D)*(i*AT i)*(i*AT i):=by grind
  rw[this,f];grind
 have:b*i*((a*i*x+b*i*y-(a*xp+b*yp)*i)*(AT D*(AT i*AT i)))=b*((a*(x-xp)+b*(y-yp))*AT D)*(i*AT i)*(i*AT i):=by grind
 rw[this,f];grind
theorem gZ (o:i≠0) (m:a*a+b*b=D) (z:D≠0) (f:al=a*i) (g:be=b*i) (h3:ga=(a*xp+b*yp)*i):
  (al*x+be*y-ga)*(al*x+be*y-ga)*AT (al*al+be*be)=D*((a*(x-xp)+b*(y-yp))*AT D)*((a*(x-xp)+b*(y-yp))*AT D):=by
 have k:=E5 o;have h:=E5 z;have e:al*al+be*be=D*(i*i):=by rw[f,g,<-m];grind
 have e2:AT (D*(i*i))=AT D*(AT i*AT i):=RC h (by
  have:i*i*(AT i*AT i)=i*AT i*(i*AT i):=by grind
  rw[this,k];grind)
 rw[e,e2,f,g,h3];have l:(a*i*x+b*i*y-(a*xp+b*yp)*i)*(a*i*x+b*i*y-(a*xp+b*yp)*i)*(AT D*(AT i*AT i))=(a*(x-xp)+b*(y-yp))*(a*(x-xp)+b*(y-yp))*AT D*(i*AT i)*(i*AT i):=by grind
 have r:D*((a*(x-xp)+b*(y-yp))*AT D)*((a*(x-xp)+b*(y-yp))*AT D)=(a*(x-xp)+b*(y-yp))*(a*(x-xp)+b*(y-yp))*AT D*(D*AT D):=by grind
 rw[l,r,k,h];grind
theorem SC (h:a=1\/a=0/\b=1):¬(a=0/\b=0):=by
 rintro⟨f,g⟩
 rcases h with h |⟨_,h⟩
 ·exact M8 (h.symm.trans f)
 exact M8 (h.symm.trans g)
theorem gO (f:a=1\/a=0/\b=1) (g:c=1\/c=0/\d=1) (h:¬(a=c/\b=d)):a*d-b*c≠0:=by
 intro e;rcases f with f |⟨f,h3⟩ <;> rcases g with g |⟨g,k⟩
 ·exact h ⟨by rw[f,g],by rw[f,g] at e;grind⟩
 ·exact M8 (by rw[f,g,k] at e;grind)
 ·exact M8 (by rw[f,h3,g] at e;grind)
 exact h ⟨by rw[f,g],by rw[h3,k]⟩
theorem ju {f g x' y':Re} (m:a= -v*i) (o:b=u*i) (h3:c=(-v*x+u*y)*i) (g1:p= -g*j) (g2:q=f*j) (k:r=(-g*x'+f*y')*j) (B:a*q-b*p≠0):
  u*g-v*f≠0/\(c*q-b*r)*AT (a*q-b*p)=x+u*(((x'-x)*g-(y'-y)*f)*AT (u*g-v*f))/\(a*r-c*p)*AT (a*q-b*p)=y+v*(((x'-x)*g-(y'-y)*f)*AT (u*g-v*f)):=by
 have e:a*q-b*p=(u*g-v*f)*(i*j):=by rw[m,o,g1,g2];grind
 have l:u*g-v*f≠0:=fun z=>B (by rw[e,z];grind)
 have C:=E5 B;have A:=E5 l;refine⟨l,?_,?_⟩
 ·have h:c*q-b*r=(x+u*(((x'-x)*g-(y'-y)*f)*AT (u*g-v*f)))*(a*q-b*p):=by
   have:(x+u*(((x'-x)*g-(y'-y)*f)*AT (u*g-v*f)))*(a*q-b*p)=(x*(u*g-v*f)+u*((x'-x)*g-(y'-y)*f)*((u*g-v*f)*AT (u*g-v*f)))*(i*j):=by rw[e];grind
   rw[this,A,o,h3,g2,k];grind
  rw[h,show ∀z,z*(a*q-b*p)*AT (a*q-b*p)=z*((a*q-b*p)*AT (a*q-b*p)) by intro z;grind,C];grind
 have h:a*r-c*p=(y+v*(((x'-x)*g-(y'-y)*f)*AT (u*g-v*f)))*(a*q-b*p):=by
  have:(y+v*(((x'-x)*g-(y'-y)*f)*AT (u*g-v*f)))*(a*q-b*p)=(y*(u*g-v*f)+v*((x'-x)*g-(y'-y)*f)*((u*g-v*f)*AT (u*g-v*f)))*(i*j):=by rw[e];grind
  rw[this,A,m,h3,g1,k];grind
 rw[h,show ∀z,z*(a*q-b*p)*AT (a*q-b*p)=z*((a*q-b*p)*AT (a*q-b*p)) by intro z;grind,C];grind
theorem ki (f:a*q-b*p≠0):a*((c*q-b*r)*AT (a*q-b*p))+b*((a*r-c*p)*AT (a*q-b*p))=c:=by
 have g:=E5 f;have:a*((c*q-b*r)*AT (a*q-b*p))+b*((a*r-c*p)*AT (a*q-b*p))=c*((a*q-b*p)*AT (a*q-b*p)):=by grind
 rw[this,g];grind
theorem kj (f:a*q-b*p≠0):p*((c*q-b*r)*AT (a*q-b*p))+q*((a*r-c*p)*AT (a*q-b*p))=r:=by
 have g:=E5 f;have:p*((c*q-b*r)*AT (a*q-b*p))+q*((a*r-c*p)*AT (a*q-b*p))=r*((a*q-b*p)*AT (a*q-b*p)):=by grind
 rw[this,g];grind
theorem Zo (f:0<d):BT (x*AT d)=BT x:=by
 have h:d*AT d=1:=E5 (by grind);have e:BT (x*AT d*d)=BT (x*AT d)*BT d:=Sw _ _;rw[E8 f,show x*AT d*d=x*(d*AT d) by grind,h,show x*1=x by grind] at e;omega
theorem Wn (f:u*u+v*v=D) (g:D*n=s-D*e*e) (h:r*r=n):(x- -v*e+u*r-x)*(x- -v*e+u*r-x)+(y-u*e+v*r-y)*(y-u*e+v*r-y)=s:=by
 have:(x- -v*e+u*r-x)*(x- -v*e+u*r-x)+(y-u*e+v*r-y)*(y-u*e+v*r-y)=(u*u+v*v)*(e*e)+(u*u+v*v)*(r*r):=by grind
 rw[this,h,f,g];grind
theorem Wp (f:u*u+v*v=D):u*(x- -v*e+u*r-x)+v*(y-u*e+v*r-y)=D*r:=by rw[<-f];grind
theorem Wo (h:u*u+v*v=D) (l:D≠0) (f:a= -v*i) (g:b=u*i) (h3:c=(-v*xp+u*yp)*i):a*(x- -v*((-v*(x-xp)+u*(y-yp))*AT D)+u*r)+b*(y-u*((-v*(x-xp)+u*(y-yp))*AT D)+v*r)=c:=by
 have k:=E5 l;rw[f,g,h3];have: -v*i*(x- -v*((-v*(x-xp)+u*(y-yp))*AT D)+u*r)+u*i*(y-u*((-v*(x-xp)+u*(y-yp))*AT D)+v*r)=(-v*x+u*y)*i-(u*u+v*v)*AT D*((-v*(x-xp)+u*(y-yp))*i):=by grind
 rw[this,h,k];grind
theorem Qs (h:d≠0):d*(x*AT d)=x:=by
 have:=E5 h;have e:d*(x*AT d)=x*(d*AT d):=by grind
 rw[e,this];grind
theorem lC (g:q≠0):s*AT q-(q+s-t)*AT (q+q)*((q+s-t)*AT (q+q))=((1+1+1+1)*(q*s)-(q+s-t)*(q+s-t))*AT ((q+q)*(q+q)):=by
 have h:=E5 g
 have k:q+q≠0:=fun e=>g (by
  have f:q+q=(1+1)*q:=by grind
  grind)
 have f:=E5 k;rw[RC f f]
 have:(1+1+1+1)*(q*s)*(AT (q+q)*AT (q+q))=s*(AT q)*((q+q)*AT (q+q))*((q+q)*AT (q+q)):=by
  have e:s*AT q*((q+q)*AT (q+q))*((q+q)*AT (q+q))=(1+1+1+1)*s*q*(q*AT q)*(AT (q+q)*AT (q+q)):=by grind
  rw[e,h];grind
 rw[show ∀z:Re,(((1+1+1+1)*(q*s))-z)*(AT (q+q)*AT (q+q))=(1+1+1+1)*(q*s)*(AT (q+q)*AT (q+q))-z*(AT (q+q)*AT (q+q)) by intro z;grind,this,f];grind
theorem Qb {t:Re} (h:u*u+v*v=q) (l:q≠0) (g:s*AT q-p*p=n) (k:r*r=n):(u*p+ -v*r)*(u*p+ -v*r)+(v*p+u*r)*(v*p+u*r)=s:=by
 have f:=E5 l;have:(u*p+ -v*r)*(u*p+ -v*r)+(v*p+u*r)*(v*p+u*r)=(u*u+v*v)*(p*p+r*r):=by grind
 rw[this,k,h,<-g,show q*(p*p+(s*AT q-p*p))=s*(q*AT q) by grind,f];grind
theorem Qc (f:q≠0):(q+q)*((q+s-t)*AT (q+q))=q+s-t:=Qs (by
 intro e;have g:=E5 f;have h:q+q=(1+1)*q:=by grind
 grind)
theorem Vu (f:u*u+v*v=q) (m:q≠0) (k:(q+q)*p=q+s-t) (h:s*AT q-p*p=n) (l:r*r=n):(u*p+ -v*r-u)*(u*p+ -v*r-u)+(v*p+u*r-v)*(v*p+u*r-v)=t:=by
 have g:=Qb (t:=t) f m h l;have:(u*p+ -v*r-u)*(u*p+ -v*r-u)+(v*p+u*r-v)*(v*p+u*r-v)=(u*p+ -v*r)*(u*p+ -v*r)+(v*p+u*r)*(v*p+u*r)-((u*u+v*v)+(u*u+v*v))*p+(u*u+v*v):=by grind
 rw[this,g,f,k];grind
theorem Vw (f:u*u+v*v=q):u*(v*p+u*r)-v*(u*p+ -v*r)=q*r:=by rw[<-f];grind
theorem Qe (h:q≠0):(q+t-s)*AT (q+q)=1-(q+s-t)*AT (q+q):=by
 have g:q+q≠0:=fun e=>h (by
  have f:=E5 h;have g:q+q=(1+1)*q:=by grind
  grind)
 have f:=E5 g;have:(q+t-s)*AT (q+q)+(q+s-t)*AT (q+q)=(q+q)*AT (q+q):=by grind
 rw[f] at this;grind
theorem Vv (f:q≠0):t*AT q-(q+t-s)*AT (q+q)*((q+t-s)*AT (q+q))=s*AT q-(q+s-t)*AT (q+q)*((q+s-t)*AT (q+q)):=by
 have g:=E5 f;have h:=Qc (s:=s) (t:=t) f;rw[Qe f]
 have e:(1+1)*((q+s-t)*AT (q+q))=1+s*AT q-t*AT q:=by
  have:(1+1)*((q+s-t)*AT (q+q))=(q+q)*((q+s-t)*AT (q+q))*AT q:=by
   have:(q+q)*((q+s-t)*AT (q+q))*AT q=(1+1)*((q+s-t)*AT (q+q))*(q*AT q):=by grind
   rw[this,g];grind
  rw[this,h];have:(q+s-t)*AT q=q*AT q+s*AT q-t*AT q:=by grind
  rw[this,g]
 grind
end Go.Abs
