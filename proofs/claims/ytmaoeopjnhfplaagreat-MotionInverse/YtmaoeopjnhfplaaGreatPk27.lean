/- Part 28 of a proof. Conditions: each theorem's own. -/
import Derived.Test.YtmaoeopjnhfplaaGreatPk26
set_option linter.all false
set_option maxHeartbeats 8000000
set_option maxRecDepth 20000
open Go.Proofs
namespace Go.Abs
section
variable {P:List (List Rat)->Prop} {R0:Nat}
theorem Tf.eY (I:CA P R0) {V:List Re} (hV:∀{u},P u->∀v∈Go.Abs.BP u,v∈V) (h3:V.length<=3) {u:List (List Rat)} (h:Tf P u):(u.length<=1->TB R0 u)/\TB (R0+CC 1 R0 1 R0) u:=by
 induction h with
 | nil=>exact⟨fun _ r g=>absurd g (by simp),fun r g=>absurd g (by simp)⟩
 | @Aj u J i ht D j H=>
  by_cases L:Sq u (Al i J)
  ·rw[ED L];exact H
  have f:=I.red D;have hu:=ht.red I;have o:=CO f;have hb:Bd R0 (co i (Al i J)):=by rw[FQ f];exact (I.tb D).head
  rw[C8 L]
  by_cases U:∀v∈Go.Abs.BP i,v∈Go.Abs.BP u
  ·have K:=TE hu f.1 U o hb;refine⟨fun O r g=>?_,fun r g=>?_⟩
   ·rw[List.length_cons] at O;rcases List.mem_cons.1 g with rfl | g
    ·exact K
    exact H.1 (by omega) r g
   rcases List.mem_cons.1 g with rfl | g
   ·exact K.mono (by omega)
   exact H.2 r g
  obtain⟨v,Y⟩:=Classical.not_forall.1 U;obtain⟨C,T⟩:=Classical.not_imp.1 Y;have B:In u (Re.sqrt v):=j _ (Nf C);have Q:Al i J≠v:=fun e=>L ((I7 (by have:=f.2.2.1;grind)).2 (e ▸ B))
  have A:=HE (H4 hu (j _ o) f.2.2.1 L);rw[Go.Abs.BP,FR (j _ o),List.nodup_cons] at A
  have hle:=Ja (l:=Al i J::v::Go.Abs.BP u) (m:=V) (by
   rw[List.nodup_cons,List.nodup_cons];refine⟨fun hm=>?_,T,A.2⟩;rcases List.mem_cons.1 hm with e | hm
   ·exact Q e
   ·exact A.1 hm) (fun x G=>by
   rcases List.mem_cons.1 G with rfl | G
   ·exact hV D _ (by rw[Go.Abs.BP];exact List.mem_cons_self)
   rcases List.mem_cons.1 G with rfl | G
   ·exact hV (I.sub D) _ C
   exact ht.BP I hV x G)
  rw[List.length_cons,List.length_cons,Jl] at hle;have t:=Ja (HE f) (hV D);rw[Jl,List.length_cons] at t
  have F:u≠[]:=fun e=>by
   subst e;have:=Vp f.1 j;subst this;simp[Go.Abs.BP] at C
  have S:u.length=1:=by
   have:0<u.length:=List.length_pos_iff.2 F;omega
  have X:i.length<=1:=by
   match u,S,hu,j with
   | [s],_,hu,j=>
    match i,f.1,j,t with
    | [],_,_,_=>exact Nat.zero_le _
    | [q],_,_,_=>exact Nat.le_refl 1
    | [q,r],W,j,_=>exact (cq W hu j).elim
    | _::_::_::_,_,_,t=>simp only[List.length_cons] at t;omega
  have N:El i R0 (Al i J):=⟨o,hb⟩;have K:=(N.CV hu (H.1 (by omega)) f.1 (I.tb D).tail j).bd;have Z:=LU (k:=i.length) (k':=1) (R0:=R0) (Jr:=R0) (h:=u.length) (h':=1) (R:=R0) (R':=R0) X (Nat.le_refl _) (by omega) (Nat.le_refl _);refine⟨fun O=>absurd O (by rw[List.length_cons];omega),fun r g=>?_⟩;rcases List.mem_cons.1 g with rfl | g
  ·exact K.mono (by omega)
  exact H.2 r g
theorem Tf.lx (I:CA P R0) {V:List Re} (hV:∀{u},P u->∀v∈Go.Abs.BP u,v∈V) (h3:V.length<=3) {R C S:Nat} (hR:R0+CC 1 R0 1 R0<=R) (i:R<=S) (A:CC 3 R 3 R<=C) (j:∀h,h<=3->Fit h R (S+C)) (B:2*(S+C)+EE 3 R<=60000000000000):Gam (Tf P) R C S:=by
 have hm:∀{u},Tf P u->u.length<=3:=fun {u} h=>Nat.le_trans (h.len I hV) h3
 have f:∀{u},Tf P u->TB R u:=fun {u} h=>(h.eY I hV h3).2.mono hR
 refine⟨fun {u} h=>⟨h.red I,f h,by omega,by have:=hm h;omega⟩,fun {u} h=>by have:=hm h;omega,.nil,fun {r u} h=>h.sub I,fun {t r u} ht h g=>ht.Nw I h g,fun {u w s x} hu hw g o=>?_,fun {u} h=>j _ (hm h),fun {u} h=>?_,i⟩
 ·refine (o.CV (hw.red I) (f hw) (hu.red I) (f hu) g).mono ?_;have:=LU (k:=u.length) (k':=3) (R0:=R) (Jr:=R) (h:=w.length) (h':=3) (R:=R) (R':=R) (hm hu) (Nat.le_refl _) (hm hw) (Nat.le_refl _);omega
 have:=Gw (h:=u.length) (h':=3) (R:=R) (R':=R) (hm h) (Nat.le_refl _);omega
end
end Go.Abs
namespace Go.Abs
abbrev Rn:Nat:=1540
abbrev Cn:Nat:=874000
theorem lk:∀h,h<=3->Fit h Rn (Sm+Cn)
 |0,_|1,_|2,_|3,_=>⟨by decide +kernel,by decide +kernel,by decide +kernel,by decide +kernel⟩
 | _+4,h=>absurd h (by omega)
theorem lZ:∀h,h<=3->FW h Rn (Sm+Cn)
 |0,_|1,_|2,_|3,_=>⟨by decide +kernel,by decide +kernel,by decide +kernel,by decide +kernel⟩
 | _+4,h=>absurd h (by omega)
theorem oh:2*(Sm+Cn)+EE 3 Rn<=60000000000000:=by decide +kernel
theorem Za {P:List (List Rat)->Prop} (I:CA P 256) {V:List Re} (hV:∀{u},P u->∀v∈BP u,v∈V) (h3:V.length<=3) {S:Nat} (f:Rn<=S) (i:S<=Sm):EM (Tf P) Rn Cn S:=
 {Tf.lx I hV h3 (by decide +kernel:256+CC 1 256 1 256<=Rn) f (by decide +kernel:CC 3 Rn 3 Rn<=Cn) (fun h g=>(lk h g).mono (by omega)) (Nat.le_trans (by omega) oh) with HO:=fun {u} hu=>(lZ _ (Nat.le_trans (hu.len I hV) h3)).mono (by omega)}
end Go.Abs
namespace Go.Abs
section
variable {P:List (List Rat)->Prop} {V:List Re}
theorem Tf.HC (I:CA P 256) (hV:∀{u},P u->∀v∈Go.Abs.BP u,v∈V) (h3:V.length<=3) {u:List (List Rat)} (h:Tf P u):TB Rn u:=(h.eY I hV h3).2.mono (by decide +kernel)
abbrev Ce:Nat:=226506
theorem Tf.Lo (I:CA P 256) (hV:∀{u},P u->∀v∈Go.Abs.BP u,v∈V) (h3:V.length<=3) {u w:List (List Rat)} {s:Nat} {x:Re} (hu:Tf P u) (hw:Tf P w) (g:Bl u w) (f:El u s x):El w (s+Ce) x:=by
 by_cases i:w.length<=2
 ·refine (f.CV (hw.red I) (hw.HC I hV h3) (hu.red I) (hu.HC I hV h3) g).mono ?_;have:=LU (k:=u.length) (k':=3) (R0:=Rn) (Jr:=Rn) (h:=w.length) (h':=2) (R:=Rn) (R':=Rn) (Nat.le_trans (hu.len I hV) h3) (Nat.le_refl _) i (Nat.le_refl _);have r:CC 3 Rn 2 Rn=Ce:=by decide +kernel
  omega
 refine⟨g _ f.mem,(TE (hw.red I) (hu.red I) (fun v o=>Classical.byContradiction fun j=>?_) f.mem f.bd).mono (Nat.le_add_right _ _)⟩
 have:=Ja (l:=v::Go.Abs.BP w) (m:=V) (List.nodup_cons.2 ⟨j,HE (hw.red I)⟩) (fun x f=>by
  rcases List.mem_cons.1 f with rfl | f
  ·exact hu.BP I hV _ o
  exact hw.BP I hV x f)
 rw[List.length_cons,Jl] at this;omega
theorem mC (I:CA P 256) (hV:∀{u},P u->∀v∈Go.Abs.BP u,v∈V) (h3:V.length<=3) {C S:Nat} (o:Ce<=C) (h:C<=Cn) (f:Rn<=S) (g:S<=Sm):EM (Tf P) Rn C S:=
 have G:=Za I hV h3 f g
 {G with
  CV:=fun hu hw i j=>(Tf.Lo I hV h3 hu hw i j).mono (by omega)
  fit:=fun hu=>(G.fit hu).mono (by omega)
  mul:=fun hu=>by have:=G.mul hu;omega
  HO:=fun hu=>(G.HO hu).mono (by omega)}
end
end Go.Abs
namespace Go.Abs
theorem El.Aj {u:List (List Rat)} {n x:Re} {s:Nat} (hu:BF u) (h:BF (Aj u n)) (f:El u s x):El (Aj u n) s x:=by
 by_cases i:Sq u n
 ·rw[ED i];exact f
 rw[C8 i] at h ⊢;have g:El u 0 0:=El.rat hu Gz;have:=J3 h f.mem g.mem f.bd g.bd;rw[show x+0*rt u (co u n)=x by grind] at this;exact⟨Fh f.mem,this⟩
def P4 (P:List (List Rat)->Prop) (n:Re) (u:List (List Rat)):Prop:=P u\/∃u0,Tf P u0/\In u0 n/\u<:+Aj u0 n
abbrev R4:Nat:=1920500
abbrev E4:Nat:=1942090
abbrev Rf:Nat:=150420000
section
variable {P:List (List Rat)->Prop} {V:List Re} {w:List (List Rat)} {n:Re}
theorem fP (I:CA P 256) (hV:∀{u},P u->∀v∈Go.Abs.BP u,v∈V) (h3:V.length<=3) (hw:Tf P w) (ha:∀{u},Tf P u->Bl u w) {z:List (List Rat)} (F:BF z) (f:∀{s x},El w s x->El z s x) {r:List Rat} {u:List (List Rat)} (h:Tf P (r::u)):Wv z 2032990 46909868 R4 (Al u r):=by
 have g:=h.red I;have e1:=Tf.Lo I hV h3 h hw (ha h) (Im g);have o:In (r::u) (Al u r):=Fh (CO g);have A:Al u r≠0:=by have:=g.2.2.1;grind
 have t:rt u r≠0:=fun e=>A (by rw[<-DO g,e];grind)
 obtain⟨y,C,i⟩:=Em (hw.red I) e1.mem t;have e2:=HJ (hw.red I) (hw.HC I hV h3) e1.mem C i e1.bd;have j:El w 46909868 y:=⟨C,e2.mono (Nat.le_trans (GI (Nat.le_trans (hw.len I hV) h3) (Nat.le_refl _) (Nat.le_refl _)) (by decide +kernel))⟩
 have b3:El (r::u) (Rn+0) (Al u r):=by
  have B:El u 0 0:=El.rat g.1 Gz;have hb:Bd Rn (co u (Al u r)):=by rw[FQ g];exact (h.HC I hV h3).head
  have:=J3 g (CO g) B.mem hb B.bd;rw[show Al u r+0*rt u r=Al u r by grind] at this;exact⟨o,this⟩
 have D:=Tf.Lo I hV h3 h hw (ha h) b3;exact⟨(f e1).mem,(f e1).bd.mono (by decide),⟨y,by rw[<-i];exact Re.mul_comm _ _,(f j).bd⟩,(f D).bd.mono (by decide)⟩
theorem PX (I:CA P 256) (hV:∀{u},P u->∀v∈Go.Abs.BP u,v∈V) (h3:V.length<=3) (hw:Tf P w) (f:El w R4 n) (K:0<n):Wv (Aj w n) 2032990 46909868 R4 n:=by
 have g:=hw.red I;have C:=hw.HC I hV h3;have F:w.length<=3:=Nat.le_trans (hw.len I hV) h3;have A:n≠0:=by grind
 have o:Re.sqrt n*Re.sqrt n=n:=Re.Ev (by grind);have G:Re.sqrt n≠0:=fun e=>A (by rw[<-o,e];grind)
 by_cases j:Sq w n
 ·rw[ED j];have hm:=(I7 (by grind)).1 j;have b1:=N4 g C hm o f.bd
  have r:Bd 2032990 (co w (Re.sqrt n)):=b1.mono (by
   have:=Nh (h:=w.length) (h':=3) (R:=Rn) (R':=Rn) F (Nat.le_refl _);have e:GG 3 Rn=112490:=by decide +kernel
   have O:R4=1920500:=rfl;omega)
  obtain⟨y,N,B⟩:=Em g hm G;have b2:=HJ g C hm N B r;exact⟨hm,r,⟨y,by rw[<-B];exact Re.mul_comm _ _,b2.mono (Nat.le_trans (GI F (Nat.le_refl _) (Nat.le_refl _)) (by decide +kernel))⟩,f.bd⟩
 have D:=H4 g f.mem K j;have H:∀{s x},El w s x->El (Aj w n) s x:=fun L=>El.Aj g (by rw[C8 j];exact D) L
 have e1:=Im D;rw[HA f.mem] at e1;obtain⟨i,J,t⟩:=Em g f.mem A;have b2:=HJ g C f.mem J t f.bd;have z0:El w 0 0:=El.rat g Gz;have b3:=J3 D z0.mem J z0.bd b2;rw[HA f.mem,show (0:Re)+i*Re.sqrt n=i*Re.sqrt n by grind] at b3;refine⟨by rw[C8 j];exact e1.mem,by rw[C8 j];exact e1.bd.mono (by decide),⟨i*Re.sqrt n,?_,?_⟩,(H f).bd⟩
 ·have e2:i*Re.sqrt n*Re.sqrt n=i*(Re.sqrt n*Re.sqrt n):=by grind
  have:i*Re.sqrt n*Re.sqrt n=n*i:=by rw[e2,o];exact Re.mul_comm _ _
  rw[this,t]
 rw[C8 j];refine b3.mono (Nat.le_trans (Nat.add_le_add_left (GI F (Nat.le_refl _) (Nat.le_refl _)) _) (by decide +kernel))
theorem Oi (I:CA P 256) (hV:∀{u},P u->∀v∈Go.Abs.BP u,v∈V) (h3:V.length<=3) (hw:Tf P w) (g:El w R4 n) (s:0<=n):Ml (Aj w n) E4:=by
 have i:=hw.red I;have j:=hw.HC I hV h3;have he:=Gw (h:=w.length) (h':=3) (R:=Rn) (R':=Rn) (Nat.le_trans (hw.len I hV) h3) (Nat.le_refl _);have r:EE 3 Rn=10794:=by decide +kernel
 have M:=Ml.of i j
 by_cases f:Sq w n
 ·rw[ED f];exact M.mono (by show _<=1942090;omega)
 have o:=H4 i g.mem (by
  have:n≠0:=fun e=>f (by rw[e];exact⟨0,CZ w,by grind⟩)
  grind) f
 rw[C8 f];have t:R4=1920500:=rfl;exact (M.cons o g.bd).mono (by show _<=1942090;omega)
theorem UU (I:CA P 256) (hV:∀{u},P u->∀v∈Go.Abs.BP u,v∈V) (h3:V.length<=3) (hw:Tf P w) (A:El w R4 n) (F:0<=n) {x y:Re} {s:Nat} (f:El (Aj w n) s x) (g:In (Aj w n) y) (e:x*y=1):El (Aj w n) (47*s+44850000) y:=by
 have i:=hw.red I;have r:=hw.HC I hV h3;have t:w.length<=3:=Nat.le_trans (hw.len I hV) h3;have he:=Gw (h:=w.length) (h':=3) (R:=Rn) (R':=Rn) t (Nat.le_refl _);have D:EE 3 Rn=10794:=by decide +kernel
 have o:∀s,II w.length Rn s<=23*s+151098:=fun s=>Nat.le_trans (GI t (Nat.le_refl _) (Nat.le_refl _)) (by simp only[II,EE,Rn];omega)
 refine⟨g,?_⟩
 by_cases j:Sq w n
 ·rw[ED j] at f g ⊢;exact (HJ i r f.mem g e f.bd).mono (by have:=o s;omega)
 have C:=H4 i A.mem (by
  have:n≠0:=fun e=>j (by rw[e];exact⟨0,CZ w,by grind⟩)
  grind) j
 rw[C8 j] at f g ⊢;have:=Ml.inv (P:=fun s=>II w.length Rn s) C (Ml.of i r) A.bd (fun f g e hb=>HJ i r f g e hb) f.mem e f.bd;refine this.mono ?_;have B:=o (2*s+2*EE w.length Rn+R4+1)
 show s+EE w.length Rn+II w.length Rn (2*s+2*EE w.length Rn+1920500+1)<=_
 have B:II w.length Rn (2*s+2*EE w.length Rn+1920500+1)<=23*(2*s+2*EE w.length Rn+1920500+1)+151098:=o _;omega
theorem Tf.I8 (I:CA P 256) {u v:List (List Rat)} (h:u<:+v) (f:Tf P v):Tf P u:=by
 obtain⟨t,rfl⟩:=h
 induction t with
 | nil=>exact f
 | cons r t g=>exact g (f.sub I)
theorem P4.sub (I:CA P 256) {r:List Rat} {u:List (List Rat)} (h:P4 P n (r::u)):P4 P n u:=by
 rcases h with h |⟨i,h,f,g⟩
 ·exact .inl (I.sub h)
 exact .inr ⟨i,h,f,(List.suffix_cons r u).trans g⟩
theorem P4.red (I:CA P 256) (f:0<=n) {u:List (List Rat)} (h:P4 P n u):BF u:=by
 rcases h with h |⟨j,h,g,i⟩
 ·exact I.red h
 exact Vq i (Ec (h.red I) g f)
theorem P4.top (I:CA P 256) {r:List Rat} {u:List (List Rat)} (h:P4 P n (r::u)):Tf P (r::u)\/(In u n/\¬Sq u n/\Al u r=n):=by
 rcases h with h |⟨j,h,i,f⟩
 ·exact .inl (Tf.of I h)
 by_cases g:Sq j n
 ·rw[ED g] at f;exact .inl (h.I8 I f)
 rw[C8 g] at f;rcases List.suffix_cons_iff.1 f with e | f
 ·obtain⟨rfl,rfl⟩:=List.cons.inj e;exact .inr ⟨i,g,FR i⟩
 exact .inl (h.I8 I f)
theorem P4.len (I:CA P 256) (hV:∀{u},P u->∀v∈Go.Abs.BP u,v∈V) {u:List (List Rat)} (h:P4 P n u):∀v∈Go.Abs.BP u,v∈n::V:=by
 induction u with
 | nil=>intro v f;simp[Go.Abs.BP] at f
 | cons r u g=>
  intro v f;rcases List.mem_cons.1 f with rfl | f
  ·rcases h.top I with h |⟨_,_,e⟩
   ·exact List.mem_cons_of_mem _ (h.BP I hV _ List.mem_cons_self)
   rw[e];exact List.mem_cons_self
  exact g (h.sub I) v f
theorem Wf (I:CA P 256) (hV:∀{u},P u->∀v∈Go.Abs.BP u,v∈V) (h3:V.length<=3) (hw:Tf P w) (ha:∀{u},Tf P u->Bl u w) (f:El w R4 n) (i:0<=n) {r:List Rat} {u:List (List Rat)} (h:P4 P n (r::u)):Wv (Aj w n) 2032990 46909868 R4 (Al u r):=by
 have g:BF (Aj w n):=Ec (hw.red I) f.mem i;rcases h.top I with h |⟨s,j,e⟩
 ·exact fP I hV h3 hw ha g (fun o=>El.Aj (hw.red I) g o) h
 rw[e]
 exact PX I hV h3 hw f (by
  have:n≠0:=fun e=>j (by rw[e];exact⟨0,CZ u,by grind⟩)
  grind)
theorem Zp (I:CA P 256) (hV:∀{u},P u->∀v∈Go.Abs.BP u,v∈V) (h3:V.length<=3) (hw:Tf P w) (ha:∀{u},Tf P u->Bl u w) (i:El w R4 n) (g:0<=n):CA (P4 P n) Rf:=by
 have s:BF (Aj w n):=Ec (hw.red I) i.mem g;have M:=Oi I hV h3 hw i g;refine⟨fun h=>P4.red I g h,fun {u} h=>?_,fun h=>P4.sub I h⟩;have j:=P4.red I g h
 have o:u.length<=4:=by
  have:=Ja (HE j) (P4.len I hV h);rw[Jl,List.length_cons] at this;omega
 have f:∀v∈Go.Abs.BP u,Wv (Aj w n) 2032990 46909868 R4 v:=by
  clear o j
  induction u with
  | nil=>intro v f;simp[Go.Abs.BP] at f
  | cons r u t=>
   intro v f;rcases List.mem_cons.1 f with rfl | f
   ·exact Wf I hV h3 hw ha i g h
   exact t (P4.sub I h) v f
 exact (WQ (m:=3) s M j o f).mono (by decide)
theorem Tf.OQ (I:CA P 256) (hV:∀{u},P u->∀v∈Go.Abs.BP u,v∈V) (h3:V.length<=3) (J:CA (P4 P n) Rf) {u:List (List Rat)} (h:Tf (P4 P n) u):u.length<=4:=by
 have:=h.len J (V:=n::V) (fun f=>P4.len I hV f);rw[List.length_cons] at this;omega
theorem Tf.Rd (I:CA P 256) {u:List (List Rat)} (h:Tf P u):Tf (P4 P n) u:=by
 induction h with
 | nil=>exact .nil
 | Aj _ g f i=>exact .Aj i (.inl g) f
theorem Tf.Nv (I:CA P 256) {u:List (List Rat)} (h:Tf P u) (f:In u n):Tf (P4 P n) (Go.Abs.Aj u n):=by
 by_cases g:Sq u n
 ·rw[ED g];exact h.Rd I
 have:=Tf.Aj (h.Rd I (n:=n)) (show P4 P n (co u n::u) from .inr ⟨u,h,f,by rw[C8 g];exact List.suffix_refl _⟩) (Bl.refl u);rwa [FR f] at this
end
end Go.Abs
namespace Go.Abs
abbrev Cf:Nat:=214500000
abbrev Mf:Nat:=156000000000
theorem lh:∀h,h<=4->Fit h Rf (Mf+Cf)
 |0,_|1,_|2,_|3,_|4,_=>⟨by decide +kernel,by decide +kernel,by decide +kernel,by decide +kernel⟩
 | _+5,h=>absurd h (by omega)
theorem lX:∀h,h<=4->FW h Rf (Mf+Cf)
 |0,_|1,_|2,_|3,_|4,_=>⟨by decide +kernel,by decide +kernel,by decide +kernel,by decide +kernel⟩
 | _+5,h=>absurd h (by omega)
theorem oe:2*(Mf+Cf)+EE 4 Rf<=60000000000000:=by decide +kernel
theorem Zm:II 4 Rf Mf<=60000000000000:=by decide +kernel
theorem ZY {P:List (List Rat)->Prop} {R0 S:Nat} (I:CA P R0) (o:∀{u},Tf P u->TB Rf u) (f:∀{u},Tf P u->u.length<=4) (i:∀{u w s x},Tf P u->Tf P w->Bl u w->El u s x->El w (s+Cf) x) (j:Rf<=S) (g:S<=Mf):EM (Tf P) Rf Cf S where
 BJ:=fun {u} h=>⟨h.red I,o h,by decide,by have:=f h;omega⟩
 ht:=fun {u} h=>by have:=f h;omega
 nil:= .nil
 sub:=fun {r u} h=>h.sub I
 Aj:=fun {t r u} ht h i=>ht.Nw I h i
 CV:=i
 fit:=fun {u} h=>(lh _ (f h)).mono (Nat.add_le_add_right g Cf)
 mul:=fun {u} h=>Nat.le_trans (Nat.add_le_add (Nat.mul_le_mul_left 2 (Nat.add_le_add_right g Cf)) (Gw (h:=u.length) (h':=4) (R:=Rf) (R':=Rf) (f h) (Nat.le_refl _))) oe
 RS:=j
 HO:=fun {u} h=>(lX _ (f h)).mono (Nat.add_le_add_right g Cf)
section
variable {P:List (List Rat)->Prop} {V:List Re} {w:List (List Rat)} {n:Re}
theorem lz (I:CA P 256) (hV:∀{u},P u->∀v∈Go.Abs.BP u,v∈V) (h3:V.length<=3) (hw:Tf P w) (ha:∀{u},Tf P u->Bl u w) (i:El w R4 n) (g:0<=n) {S:Nat} (r:Rf<=S) (t:S<=Mf):EM (Tf (P4 P n)) Rf Cf S:=by
 have J:=Zp I hV h3 hw ha i g;have o:BF (Aj w n):=Ec (hw.red I) i.mem g;have M:=Oi I hV h3 hw i g;have j:∀{u},Tf (P4 P n) u->∀v∈Go.Abs.BP u,Wv (Aj w n) 2032990 46909868 R4 v:=fun {u} h=>Tf.all J (fun B=>Wf I hV h3 hw ha i g B) h
 refine ZY J (fun {u} h=>(WQ (m:=3) o M (h.red J) (h.OQ I hV h3 J) (j h)).mono (by decide)) (fun h=>h.OQ I hV h3 J) (fun {u v s x} hu f A C=>(lO (m:=4) o M (hu.red J) (f.red J) (j hu) (j f) (hu.OQ I hV h3 J) (f.OQ I hV h3 J) A C).mono ?_) r t
 show s+4*(2032990+1942090+1)+4*46909868+(4+1)*1942090<=s+214500000
 omega
theorem ly (I:CA P 256) (hV:∀{u},P u->∀v∈Go.Abs.BP u,v∈V) (h3:V.length<=3) {S:Nat} (f:Rf<=S) (g:S<=Mf):EM (Tf P) Rf Cf S:=by
 refine ZY I (fun {u} h=>(h.HC I hV h3).mono (by decide)) (fun h=>Nat.le_trans (h.len I hV) (by omega)) (fun {u v s x} hu j i o=>(Tf.Lo I hV h3 hu j i o).mono ?_) f g
 show s+226506<=s+214500000
 omega
end
end Go.Abs
namespace Go.Abs
open Go.RowKit
abbrev Ve:=Nu×Nu
noncomputable def vm (p:Ve):el BL:=(nm p.1,nm p.2)
noncomputable def HT (ns:List Nu) (W:List UInt8):List Ve:=(List.range (W.length/2)).map fun i=>(EG ns (W.getD (2*i) 0).toNat,EG ns (W.getD (2*i+1) 0).toNat)
theorem pf (ns:List Nu) (W:List UInt8):(HT ns W).length=W.length/2:=by rw[HT,List.length_map,List.length_range]
theorem fG {W:List UInt8} {i:Nat} {x:UInt8} (h:W[i]? =some x):W.getD i 0=x:=by rw[List.getD_eq_getElem?_getD,h];rfl
theorem cH {ns:List Nu} {W:List UInt8} {i:Nat} {x y:UInt8} (g:W[2*i]? =some x) (f:W[2*i+1]? =some y):(HT ns W).take (i+1)=(HT ns W).take i++[(EG ns x.toNat,EG ns y.toNat)]:=by
 have j:=J6 f
 have h:(HT ns W)[i]? =some (EG ns x.toNat,EG ns y.toNat):=by
  rw[HT,List.getElem?_map,List.getElem?_range (by omega)]
  show some (EG ns (W.getD (2*i) 0).toNat,EG ns (W.getD (2*i+1) 0).toNat)=_
  rw[fG g,fG f]
 exact Cb h
theorem Zb (ns:List Nu) (i:Nat):EG ns i∈ns\/EG ns i=JD:=by
 by_cases h:ns=[]
 ·right;subst h;rfl
 exact .inl (UI h i)
theorem cG {ns:List Nu} {W:List UInt8} {p:Ve} (h:p∈HT ns W):(p.1∈ns\/p.1=JD)/\(p.2∈ns\/p.2=JD):=by
 obtain⟨i,_,rfl⟩:=List.mem_map.1 h;exact⟨Zb _ _,Zb _ _⟩
abbrev Fe (TT:List (List Rat)->Prop) (w:List (List Rat)):Prop:=Fm TT w Rn 11500 20 43400000 23 14
abbrev Fd (TT:List (List Rat)->Prop) (w:List (List Rat)):Prop:=Fm TT w Rf 1950000 110 80000 47 23
abbrev Nd (TT:List (List Rat)->Prop) (w:List (List Rat)) (k:Nat) (T:List LR) (A:LR) (x:Re):Prop:=Nm TT w 1950000 k T A x
abbrev Vd (TT:List (List Rat)->Prop) (w:List (List Rat)) (k k':Nat) (T1:List LR) (A1:LR) (T2:List LR) (A2:LR) (x y:Re):Prop:=Vm TT w 1950000 k k' T1 A1 T2 A2 x y
theorem UP (t:Nat):II 3 Rn t<=23*t+14*11500:=by simp only[II,EE,Rn];omega
structure Pl (P:List (List Rat)->Prop) (V:List Re) (w:List (List Rat)):Prop where
 I:CA P 256
 hV:∀{u},P u->∀v∈BP u,v∈V
 h3:V.length<=3
 hw:Tf P w
 ha:∀{u},Tf P u->Bl u w
theorem pP {P:List (List Rat)->Prop} {V:List Re} (I:CA P 256) (hV:∀{u},P u->∀v∈BP u,v∈V) (h3:V.length<=3):∃w,Pl P V w:=by
 obtain⟨w,hw,ha⟩:=Tf.top I (fun {u} h=>Nat.le_trans (h.len I hV) h3);exact⟨w,I,hV,h3,hw,ha⟩
section
variable {P:List (List Rat)->Prop} {V:List Re} {w:List (List Rat)}
theorem Pl.len (L:Pl P V w) {u:List (List Rat)} (h:Tf P u):u.length<=3:=Nat.le_trans (h.len L.I L.hV) L.h3
theorem Pl.mul (L:Pl P V w) {x y:Re} {s t:Nat} (f:El w s x) (g:El w t y):El w (s+t+10794) (x*y):=(f.mul ⟨L.hw.red L.I,L.hw.HC L.I L.hV L.h3,by decide,by have:=L.len L.hw;omega⟩ g).mono (by
 have:=Gw (L.len L.hw) (Nat.le_refl Rn);have e:EE 3 Rn=10794:=by decide +kernel
 omega)
theorem Pl.inv (L:Pl P V w) {x y:Re} {s:Nat} (f:El w s x) (g:In w y) (e:x*y=1):El w (23*s+14*11500) y:=(f.inv ⟨L.hw.red L.I,L.hw.HC L.I L.hV L.h3,by decide,by have:=L.len L.hw;omega⟩ g e).mono (Nat.le_trans (GI (L.len L.hw) (Nat.le_refl _) (Nat.le_refl _)) (UP s))
theorem Pl.fe (L:Pl P V w):Fe (Tf P) w:=by
 refine⟨fun {S} h i=>mC L.I L.hV L.h3 (by decide) (by decide) h (Nat.le_trans i (by decide)),L.hw,L.ha,by decide,by decide,fun f g=>(L.mul f g).mono (by omega),fun f g e=>L.inv f g e,fun {u} hu=>?_⟩;exact Nat.le_trans (GI (L.len hu) (Nat.le_refl _) (Nat.le_refl _)) (Nat.le_trans (UP _) (by decide))
theorem Pl.fd (L:Pl P V w):Fd (Tf P) w:=by
 refine⟨fun {S} h i=>ly L.I L.hV L.h3 h (Nat.le_trans i (by decide)),L.hw,L.ha,by decide,by decide,fun f g=>(L.mul f g).mono (by omega),fun f g e=>(L.inv f g e).mono (by omega),fun {u} hu=>?_⟩;exact Nat.le_trans (GI (Nat.le_trans (L.len hu) (by decide:3<=4)) (Nat.le_refl _) (Nat.le_refl _)) Zm
theorem Pl.UE (L:Pl P V w) {n:Re} (f:El w R4 n) (g:0<=n):Fd (Tf (P4 P n)) (Aj w n):=by
 have J:=Zp L.I L.hV L.h3 L.hw L.ha f g;have j:BF (Aj w n):=Ec (L.hw.red L.I) f.mem g;have M:=Oi L.I L.hV L.h3 L.hw f g;refine⟨fun {S} o r=>lz L.I L.hV L.h3 L.hw L.ha f g o (Nat.le_trans r (by decide)),L.hw.Nv L.I f.mem,fun {u} hu=>Hu j (hu.red J) (fun v B=>(Tf.all J (fun A=>Wf L.I L.hV L.h3 L.hw L.ha f g A) hu v B).root),by decide,by decide,fun {x y s t} h i=>⟨BN j h.mem i.mem,(M.bd h.mem i.mem h.bd i.bd).mono (by show s+t+1942090<=s+t+1950000;omega)⟩,fun h i e=>(UU L.I L.hV L.h3 L.hw f g h i e).mono (by omega),fun {u} hu=>?_⟩;exact Nat.le_trans (GI (hu.OQ L.I L.hV L.h3 J) (Nat.le_refl _) (Nat.le_refl _)) Zm
theorem Pl.lift (L:Pl P V w) {n:Re} (s:In w n) (f:0<=n) {b k b' k':Nat} {T:List LR} {A:LR} {x:Re} (h:Nm (Tf P) w b k T A x) (r:k*b<=k'*b'):Nm (Tf (P4 P n)) (Aj w n) b' k' T A x:=by
 obtain⟨u,g,i,h3,j,o⟩:=h;exact⟨u,g.Rd L.I,i,h3,j,(El.Aj (L.hw.red L.I) (Ec (L.hw.red L.I) s f) o).mono r⟩
end
theorem Jc {V:List Re} {ns:List Nu} (hV:V.length<=3) (h:∀n∈ns,CL V n):∃w,Pl (PN ns) V w:=pP (PN.Kq hV h) (fun f=>PN.BP h f) hV
theorem lr {V:List Re} {ns:List Nu} (hV:V.length<=3) (h:∀n∈ns,CL V n):∃w,Fd (Tf (PN ns)) w:=by
 obtain⟨w,L⟩:=Jc hV h;exact⟨w,L.fd⟩
theorem a8 {V:List Re} {ns:List Nu} {w:List (List Rat)} (L:Pl (PN ns) V w) (h:∀n∈ns,CL V n) {n:Nu} (f:n∈ns\/n=JD) {b k:Nat} (hb:227018<=k*b):Nm (Tf (PN ns)) w b k (tw n.1) (em n.1 n.2) n.2:=by
 rcases f with f | rfl
 ·have hu:=G1 L.h3 h f;have he:=(h n f).el L.h3;exact⟨n.1,hu,rfl,rfl,he.mem,(Tf.Lo L.I L.hV L.h3 hu L.hw (L.ha hu) he).mono (Nat.le_trans (by decide) hb)⟩
 exact⟨[],.nil,rfl,rfl,He 0 [],(El.rat (L.hw.red L.I) (F2 (b:=64) (r:=0) (by decide +kernel) (Nat.le_refl 64))).mono (Nat.le_trans (by decide) hb)⟩
theorem pe {V:List Re} {ns:List Nu} {W:List UInt8} {w:List (List Rat)} (L:Pl (PN ns) V w) (h:∀n∈ns,CL V n) {i:Nat} {x:el BL} {Q:List (el BL)} (j:Q=(HT ns W).map vm) (f:Q[i]? =some x):∃X Y,∀{b k:Nat},227018<=k*b->Vm (Tf (PN ns)) w b k k x.1.1 x.1.2 x.2.1 x.2.2 X Y:=by
 rw[j,List.getElem?_map] at f;cases g:(HT ns W)[i]? with
 | none=>rw[g] at f;simp at f
 | some p=>
  rw[g] at f;have e:vm p=x:=Option.some.inj f;obtain⟨m1,m2⟩:=cG (List.mem_of_getElem? g);rw[<-e];exact⟨_,_,fun hb=>⟨a8 L h m1 hb,a8 L h m2 hb⟩⟩
noncomputable def IG (ns:List Nu) (W:List UInt8):List (el BL):=if W.length<=24 then (HT ns W).map vm else []
theorem G7 {V:List Re} {ns:List Nu} {W:List UInt8} {w:List (List Rat)} (L:Pl (PN ns) V w) (h:∀n∈ns,CL V n) {i:Nat} {x:el BL} {Q:List (el BL)} (f:Q=IG ns W) (g:Q[i]? =some x):∃X Y,∀{b k:Nat},227018<=k*b->Vm (Tf (PN ns)) w b k k x.1.1 x.1.2 x.2.1 x.2.2 X Y:=by
 unfold IG at f
 split at f
 ·exact pe L h f g
 subst f;simp at g
theorem KI {TT:List (List Rat)->Prop} {w:List (List Rat)} (F:Fd TT w) {p q:Rat} (g:Co p) (h:Co q):∃A f,(A=em [] (Re.ofRat p)/\f=em [] (Re.ofRat q))/\Vd TT w 1 1 [] A [] f (Re.ofRat p) (Re.ofRat q):=
 ⟨_,_,⟨rfl,rfl⟩,Gs F (by decide) (F2 g),Gs F (by decide) (F2 h)⟩
theorem H2 {TT:List (List Rat)->Prop} {w:List (List Rat)} (F:Fd TT w) {p:Rat} (f:Co p):∃A,A=em [] (Re.ofRat p)/\Nd TT w 1 [] A (Re.ofRat p):=⟨_,rfl,Gs F (by decide) (F2 f)⟩
theorem iA {L:List (el Bc)} {i:Int} {A:LR} (o:L=[]) (h:A=em [] 0):CF 155 [.one (.sl Bc L),.one (.int .i64 i)] (.agg (As [] A)):=by
 have s:L.length=0:=by rw[o];rfl
 refine Av Tryz.func155 fun E j=>?_
 conv=>cbv
 rintro v ⟨u,f6⟩;conv=>cbv
 intro t f;conv=>cbv
 cases t <;> conv=>cbv
 ·have g:=BR f;exact absurd g (by omega)
 have g:=BS f;refine AB (r:= .agg [.sl (.sl AA) (([]:List LR)),.sl AA A]) j (JL (x:=0) (by decide) (by rw[h];rfl)) ?_;try conv=>cbv
 exact AF ⟨t3,trivial⟩
theorem Pv {L:List (el Bc)} {ns:List Nu} {i:Int} {i':Nat} {n:Nu} {T:List LR} {A:LR} (j:L=ns.map nm) (r:BG i i') (o:n=EG ns i') (g:T=tw n.1) (f:A=em n.1 n.2):CF 155 [.one (.sl Bc L),.one (.int .i64 i)] (.agg (As T A)):=by
 by_cases h:ns=[]
 ·subst h;have e:n=JD:=o;rw[e] at g f;rw[show T=[] from g];exact iA j f
 exact iB j h r o g f
theorem s8 {X:List (el Bh)} {W:List UInt8} {ns:List Nu} (j:ns=(runN (X.take 24)).1) {V:List Re} (A:V.length<=3) (h:∀n∈ns,CL V n) (C:24<W.length):CF 70 [.agg [.sl Bh X,.sl .u8 W]] (.AI [(false,[.sl BL (([]:List (el BL)))]),(false,[.bool false])]):=by
 refine Av Tryz.func70 fun E s=>?_
 conv=>cbv
 obtain⟨u,g⟩:∃z:List (el Bc),z=ns.map nm:=⟨_,rfl⟩
 refine AB (r:= .one (.sl Bc u)) s (XG (by rw[g,j])) ?_;conv=>cbv
 refine AB s (XF g (fun n t=>⟨(h n t).cos,(h n t).Je⟩)) ?_;conv=>cbv
 refine AR ?_;conv=>cbv
 rintro B ⟨v,f16⟩;conv=>cbv
 intro o f;conv=>cbv
 cases o <;> conv=>cbv
 ·have i:=Ct f;exact absurd i (by omega)
 have i:=Cu f;exact AF ⟨⟨rfl,AJ,trivial⟩,t2,trivial⟩
theorem s9 {X:List (el Bh)} {W:List UInt8} {ns:List Nu} (ak:ns=(runN (X.take 24)).1) {V:List Re} (ay:V.length<=3) (a7:∀n∈ns,CL V n) (hW:W.length<=24) {Q:List (el BL)} (hQ:Q=(HT ns W).map vm):CF 70 [.agg [.sl Bh X,.sl .u8 W]] (.AI [(false,[.sl BL Q]),(false,[.bool true])]):=by
 have aB:=pf ns W;refine Av Tryz.func70 fun E Z=>?_
 conv=>cbv
 obtain⟨L9,G⟩:∃z:List (el Bc),z=ns.map nm:=⟨_,rfl⟩
 refine AB (r:= .one (.sl Bc L9)) Z (XG (by rw[G,ak])) ?_;conv=>cbv
 refine AB Z (XF G (fun n hn=>⟨(a7 n hn).cos,(a7 n hn).Je⟩)) ?_;conv=>cbv
 refine AR ?_;conv=>cbv
 rintro aD ⟨ax,f16⟩;conv=>cbv
 intro al a1;conv=>cbv
 cases al <;> conv=>cbv
 ·have a8:=Ct a1;refine .inr ?_;obtain⟨J0,N⟩:=xJ fun vs bl k=>(∃(k':Nat) (j:Int),vs=[.one (.BC 1 0 0),.one (.sl Bc L9),.one .nil,.one (.int .i64 j)]/\bl=[.var 0 [.sl Bh X,.sl .u8 W],.dead 0]/\(BG j (2*k')/\k'=0)/\k=W.length/2-k')\/(∃(o:List (el BL)) (n k':Nat) (j:Int),vs=[.one (.BC 1 0 0),.one (.sl Bc L9),.one (.BI BL 47 0 0 n),.one (.int .i64 j)]/\bl=[.var 0 [.sl Bh X,.sl .u8 W],.arr 0 BL o]/\(BG j (2*k')/\k'<=W.length/2/\n=o.length)/\o=((HT ns W).take k').map vm/\k=W.length/2-k')
  refine⟨[1,4,5,6],[1,47],J0,⟨W.length/2-0,by rw[N];exact .inl ⟨0,0,rfl,rfl,⟨Bv 0,rfl⟩,rfl⟩⟩,?_⟩;intro vs bl aC hj;rw[N] at hj;rcases hj with⟨k',j,rfl,rfl,⟨hj,a2⟩,aj⟩ |⟨o,n,k',j,rfl,rfl,⟨hj,az,hn⟩,hinv,aj⟩
  ·conv=>cbv
   have ej:=hj.eq;intro an af;conv=>cbv
   refine Ah ?_;rintro ao ⟨ab,f23⟩;conv=>cbv
   intro U H;conv=>cbv
   cases U <;> conv=>cbv
   ·have S:=BX H;exact AF ⟨⟨rfl,.inr (.inl ⟨_,congrArg _ (by rw[hQ,List.eq_nil_of_length_eq_zero (show (HT ns W).length=0 by omega)];rfl)⟩),trivial⟩,t2,trivial⟩
   have S:=BY H;refine .inr ?_;obtain⟨f,v⟩:=Ao (l:=W) (i:=(2*k')) (by omega);refine⟨f,fun _=>⟨by omega,by rw[show (j).toNat=(2*k') by omega];exact v⟩,?_⟩;try conv=>cbv
   intro ar I;have ad:=I.eq;have f33:=I.lt;conv=>cbv
   intro au J;conv=>cbv
   have J:=wrap_i64 J;obtain⟨D,t⟩:=H0 (tw (EG ns f.toNat).1);obtain⟨B,h⟩:=EV (em (EG ns f.toNat).1 (EG ns f.toNat).2);refine AB Z (Pv G ⟨by omega⟩ rfl t h) ?_;conv=>cbv
   intro Y ah;conv=>cbv
   refine Ah ?_;obtain⟨g,A⟩:=Ao (l:=W) (i:=(2*k'+1)) (by omega);refine⟨g,fun _=>⟨by omega,by rw[show (Y).toNat=(2*k'+1) by omega];exact A⟩,?_⟩;try conv=>cbv
   intro av K;have ae:=K.eq;have f42:=K.lt;conv=>cbv
   intro aw L;conv=>cbv
   have L:=wrap_i64 L;obtain⟨F,u⟩:=H0 (tw (EG ns g.toNat).1);obtain⟨C,s⟩:=EV (em (EG ns g.toNat).1 (EG ns g.toNat).2);refine AB Z (Pv G ⟨by omega⟩ rfl u s) ?_;conv=>cbv
   refine⟨[((D,B),(F,C))],fun _=>⟨rfl,by decide,rfl,⟨rfl,by first | exact t1 | exact t2 | exact t4 | simp[Bg,Bo,cells],trivial⟩⟩,.inr ?_⟩;try conv=>cbv
   refine .inl ⟨[((D,B),(F,C))],fun _=>⟨rfl,by show (1)*96<=140737488355328;(try simp only[List.length_take,List.length_drop]);omega⟩,?_⟩;intro aa ai;conv=>cbv
   refine BB ?_;intro aq ag;conv=>cbv
   refine Ah ?_;refine⟨W.length/2-(k'+1),?_,?_⟩
   ·omega
   rw[N];exact .inr ⟨_,_,k'+1,_,rfl,rfl,⟨⟨by omega⟩,by omega,ai⟩,by rw[cH v A,List.map_append,t,h,u,s,a2];rfl,rfl⟩
  conv=>cbv
  have ej:=hj.eq;have aA:o.length<=12:=by rw[hinv,List.length_map,List.length_take];omega
  intro an af;conv=>cbv
  refine Ah ?_;rintro ao ⟨ab,f23⟩;conv=>cbv
  intro U H;conv=>cbv
  cases U <;> conv=>cbv
  ·have S:=BX H;exact AF ⟨⟨rfl,.inl ⟨_,rfl,by omega,congrArg _ (by rw[hQ,hn,List.drop_zero,List.take_length,hinv,List.take_of_length_le (by omega)])⟩,trivial⟩,t2,trivial⟩
  have S:=BY H;refine .inr ?_;obtain⟨f,v⟩:=Ao (l:=W) (i:=(2*k')) (by omega);refine⟨f,fun _=>⟨by omega,by rw[show (j).toNat=(2*k') by omega];exact v⟩,?_⟩;try conv=>cbv
  intro ar I;have ad:=I.eq;have f33:=I.lt;conv=>cbv
  intro au J;conv=>cbv
  have J:=wrap_i64 J;obtain⟨D,t⟩:=H0 (tw (EG ns f.toNat).1);obtain⟨B,h⟩:=EV (em (EG ns f.toNat).1 (EG ns f.toNat).2);refine AB Z (Pv G ⟨by omega⟩ rfl t h) ?_;conv=>cbv
  intro Y ah;conv=>cbv
  refine Ah ?_;obtain⟨g,A⟩:=Ao (l:=W) (i:=(2*k'+1)) (by omega);refine⟨g,fun _=>⟨by omega,by rw[show (Y).toNat=(2*k'+1) by omega];exact A⟩,?_⟩;try conv=>cbv
  intro av K;have ae:=K.eq;have f42:=K.lt;conv=>cbv
  intro aw L;conv=>cbv
  have L:=wrap_i64 L;obtain⟨F,u⟩:=H0 (tw (EG ns g.toNat).1);obtain⟨C,s⟩:=EV (em (EG ns g.toNat).1 (EG ns g.toNat).2);refine AB Z (Pv G ⟨by omega⟩ rfl u s) ?_;conv=>cbv
  refine⟨[((D,B),(F,C))],fun _=>⟨rfl,by decide,rfl,⟨rfl,by first | exact t1 | exact t2 | exact t4 | simp[Bg,Bo,cells],trivial⟩⟩,.inr ?_⟩;try conv=>cbv
  refine .inl ⟨[((D,B),(F,C))],fun _=>⟨rfl,by (first | rfl | omega),rfl,by show (o.length+1)*96<=140737488355328;(try simp only[List.length_take,List.length_drop]);omega⟩,?_⟩;intro (T:List (el BL)) aa O;have a5:T=(o:List (el BL))++([((D,B),(F,C))]:List (el BL)):=O.1;have a6:aa=List.length (α:=(el BL)) T:=O.2;conv=>cbv
  refine BB ?_;intro aq ag;conv=>cbv
  refine Ah ?_;refine⟨W.length/2-(k'+1),?_,?_⟩
  ·omega
  rw[N];exact .inr ⟨T,_,k'+1,_,rfl,rfl,⟨⟨by omega⟩,by omega,a6⟩,by rw[a5,hinv,cH v A,List.map_append,t,h,u,s];rfl,rfl⟩
 have a8:=Cu a1;exact absurd a8 (by omega)
theorem tB {X:List (el Bh)} {W:List UInt8} {ns:List Nu} (h:ns=(runN (X.take 24)).1) {V:List Re} (g:V.length<=3) (j:∀n∈ns,CL V n) {Q:List (el BL)} {i:Int} {i':Nat} {c:Bool} (u:BG i i') (t:W.length<=24) (s:Q=(HT ns W).map vm) (hc:c=decide (i'<=Q.length)):CF 20 [.agg [.sl Bh X,.sl .u8 W],.one (.int .i64 i)] (.AI [(false,[.sl BL Q]),(false,[.bool c])]):=by
 have B:=u.eq;refine Av Tryz.func20 fun E r=>?_
 conv=>cbv
 refine AB r (s9 h g j t s) ?_;conv=>cbv
 rintro v ⟨o,f17⟩;conv=>cbv
 intro A f;conv=>cbv
 exact AF ⟨t2,⟨rfl,congrArg _ (by rw[hc,f,Bool.eq_iff_iff,decide_eq_true_eq,decide_eq_true_eq];omega),trivial⟩,trivial⟩
theorem tA {X:List (el Bh)} {W:List UInt8} {ns:List Nu} (g:ns=(runN (X.take 24)).1) {V:List Re} (f:V.length<=3) (h:∀n∈ns,CL V n) {i:Int} (o:24<W.length):CF 20 [.agg [.sl Bh X,.sl .u8 W],.one (.int .i64 i)] (.AI [(false,[.sl BL (([]:List (el BL)))]),(false,[.bool false])]):=by
 refine Av Tryz.func20 fun E j=>?_
 conv=>cbv
 refine AB j (s8 g f h o) ?_;conv=>cbv
 exact AF ⟨t2,t2,trivial⟩
theorem IP {X:List (el Bh)} {W:List UInt8} {ns:List Nu} (g:ns=(runN (X.take 24)).1) {V:List Re} (f:V.length<=3) (h:∀n∈ns,CL V n) {Q:List (el BL)} (j:Q=IG ns W) {i:Int} {i':Nat} (o:BG i i') (r:0<i') {c:Bool} (hc:c=decide (i'<=Q.length)):CF 20 [.agg [.sl Bh X,.sl .u8 W],.one (.int .i64 i)] (.AI [(false,[.sl BL Q]),(false,[.bool c])]):=by
 unfold IG at j
 split at j
 ·exact tB g f h o (by assumption) j hc
 subst j;rw[hc,decide_eq_false (by simp;omega)];exact tA g f h (by omega)
end Go.Abs
namespace Go.Abs
open Go.RowKit
open Classical in
noncomputable def fs (x y:Re):Re:=if x=0 then y else x
open Classical in
noncomputable def un (x:Re):Re:=if x=0 then 0 else 1
section
variable {x y z:Re}
theorem ZX (h:x=0):fs x y=y:=if_pos h
theorem Qo (h:x≠0):fs x y=x:=if_neg h
theorem PT (h:x=0):un x=0:=if_pos h
theorem PU (h:x≠0):un x=1:=if_neg h
theorem NH:(1:Re)≠0:=fun e=>absurd (Re.Cj.1 (show Re.ofRat 1=Re.ofRat 0 from e)) (by decide)
theorem Mh {i:Re} (h:x*i=1):i=AE x:=by
 have f:x≠0:=fun e=>NH (by rw[<-h,e];grind)
 have:=F6 f;have e:i=i*(x*AE x):=by rw[this];grind
 rw[e,show i*(x*AE x)=(x*i)*AE x by grind,h];grind
theorem inv_neg (h:x≠0):AE (-x)= -AE x:=(Mh (by have:=F6 h;grind)).symm
theorem Um (h:¬(x=0/\y=0)):un x=1\/un x=0/\y*AE (fs x y)=1:=by
 by_cases f:x=0
 ·exact .inr ⟨PT f,by rw[ZX f];exact F6 (fun e=>h ⟨f,e⟩)⟩
 exact .inl (PU f)
end
structure Ed (TT:List (List Rat)->Prop) (w:List (List Rat)) (b k l:Nat) (T1:List LR) (A1:LR) (T2:List LR) (A2:LR) (T3:List LR) (A3:LR) (x y z:Re):Prop where
 x:Nm TT w b 1 T1 A1 x
 y:Nm TT w b k T2 A2 y
 z:Nm TT w b l T3 A3 z
section
variable {TT:List (List Rat)->Prop} {w:List (List Rat)} {R b c M q p k k' l l':Nat} {T1 T2:List LR} {A1 A2:LR} {x y:Re}
theorem Nm.shrink (h:Nm TT w b k T1 A1 x) (g:Nm TT w b l T2 A2 y) (e:x=y):Nm TT w b l T1 A1 x:=by
 obtain⟨u,f,o,j,r,_⟩:=h;obtain⟨_,_,_,_,_,i⟩:=g;exact⟨u,f,o,j,r,e ▸ i⟩
theorem En (F:Fm TT w R b c M q p) (f:c<=M) {r:Rat} (g:Co r) (h:Nm TT w b k T1 A1 x) (e:x=Re.ofRat r):Nm TT w b 1 T1 A1 (Re.ofRat r):=e ▸ h.shrink (Gs F f (F2 g F.hb)) e
theorem Vm.shrink {T3 T4:List LR} {A3 A4:LR} {x' y':Re} (h:Vm TT w b k k' T1 A1 T2 A2 x y) (g:Vm TT w b l l' T3 A3 T4 A4 x' y') (e:x=x') (f:y=y'):Vm TT w b l l' T1 A1 T2 A2 x y:=⟨h.x.shrink g.x e,h.y.shrink g.y f⟩
end
section
variable {x y z a d:Re}
theorem eN {x:Re} (h:x≠0):0<x*x:=by
 have f:=Re.Ji x;have g:=RV h h
 grind
theorem Jh (h:¬(x=0/\y=0)):x*x+y*y≠0:=by
 have g:=Re.Ji x;have i:=Re.Ji y
 by_cases f:x=0
 ·have:=eN (fun e=>h ⟨f,e⟩)
  grind
 have:=eN f
 grind
end
section
variable {n m z n' m' z' x y x1 y1 x2 y2:Re}
end
theorem sW:Re.ofRat ((2:Int):Rat)=1+1:=by rw[show ((2:Int):Rat)=1+1 by decide +kernel,Re.ofRat_add];rfl
theorem mJ:Re.ofRat (1/2)*(1+1)=1:=by rw[<-sW,<-Re.ofRat_mul,show (1/2:Rat)*((2:Int):Rat)=1 by decide +kernel];rfl
theorem CM (a:Rat):AE (Re.ofRat a)=Re.ofRat a⁻¹:=by
 by_cases h:a=0
 ·subst h;unfold AE;rw[dif_neg (fun h=>h rfl)];exact congrArg Re.ofRat (show (0:Rat)=0⁻¹ by decide +kernel)
 exact (Mh (by rw[<-Re.ofRat_mul,Rat.mul_inv_cancel a h];rfl)).symm
theorem CG (a b:Rat):Re.ofRat a-Re.ofRat b=Re.ofRat (a-b):=by
 rw[show Re.ofRat a-Re.ofRat b=Re.ofRat a+ -Re.ofRat b by grind,<-Re.ofRat_neg,<-Re.ofRat_add,Rat.sub_eq_add_neg]
end Go.Abs
namespace Go.Abs
open Go.RowKit
variable {M R b c l p q:Nat} {TT:List (List Rat)->Prop} {w:List (List Rat)}
theorem VE {k:Nat} (F:Fm TT w R b c M q p) {T1:List LR} {A1:LR} {x:Re} (ha:Nm TT w b k T1 A1 x) (I:k+c+1<=M) (i:∀u,TT u->T1=tw u->In u x->TT (Aj u x)) (r:0<=x) (C:El w (l*b) (Re.sqrt x)) (N:l+c+1<=M):∃U B,Nm TT w b l U B (Re.sqrt x)/\CF 199 [.agg (As T1 A1)] (.AI [(true,(As U B)),(false,[.int .i64 0])])/\CF 216 [.agg (As T1 A1)] (.AI [(true,(As U B)),(false,[.int .i64 0])]):=by
 obtain⟨u,hu,f,h,D,J,A⟩:=F.own (by omega) ha;have G:=F.g I (by omega);have hw:=i u hu f D;have j:=Sy D r;obtain⟨v,O,s,H,_,_,t⟩:=F.own (by omega) (show Nm TT w b l (tw (Aj u x)) (em (Aj u x) (Re.sqrt x)) (Re.sqrt x) from⟨_,hw,rfl,rfl,j,C⟩);have ev:v=Aj u x:=(NY s).symm;subst ev
 have hb:(l+c)*b<=60000000000000:=by
  have K:=(F.g (Nat.le_refl M) (by omega)).toGam.mul F.top;have L:(l+c)*b<=M*b:=Nat.mul_le_mul_right b (by omega);omega
 have o:=A.mono (Nat.mul_le_mul_right b (Nat.le_succ (k+c)));exact⟨_,_,⟨_,hw,rfl,rfl,j,C⟩,gU G.toGam hu f h o hw r rfl rfl t hb,Sn G hu f h o hw r rfl rfl⟩
structure Rt (CU:List (List Rat)->Prop) (w0:List (List Rat)) (b0 K:Nat) (TT:List (List Rat)->Prop) (w:List (List Rat)) (b l:Nat) (v:Re):Prop where
 get:∀{k:Nat} {T1:List LR} {A1:LR},k<=K->Nm CU w0 b0 k T1 A1 v->∃U B,Nm TT w b l U B (Re.sqrt v)/\CF 199 [.agg [.sl (.sl AA) T1,.sl AA A1]] (.AI [(true,[.sl (.sl AA) U,.sl AA B]),(false,[.int .i64 0])])/\CF 216 [.agg [.sl (.sl AA) T1,.sl AA A1]] (.AI [(true,[.sl (.sl AA) U,.sl AA B]),(false,[.int .i64 0])])
theorem qy {K:Nat} {v:Re} (F:Fm TT w R b c M q p) (o:K+c+1<=M) (f:∀u,TT u->In u v->TT (Aj u v)) (g:0<=v) (i:El w (l*b) (Re.sqrt v)) (h:l+c+1<=M:=by omega):Rt TT w b K TT w b l v:=
 ⟨fun r ha=>VE F ha (by omega) (fun u hu _ j=>f u hu j) g i h⟩
theorem qv {P:List (List Rat)->Prop} {V:List Re} (L:Pl P V w) {n:Re} (g:El w R4 n) (f:0<=n):Rt (Tf P) w 11500 167 (Tf (P4 P n)) (Aj w n) 1950000 2 n:=⟨fun {k T1 A1} t ha=>by
 have j:=L.lift g.mem f (b':=1950000) (k':=1) ha (by omega);obtain⟨u,hu,i,_,o,_⟩:=ha;refine VE (L.UE g f) j (by decide) (fun v _ e _=>?_) f ?_ (by decide)
 ·rw[<-NY (i.symm.trans e)];exact hu.Nv L.I o
 by_cases s:n=0
 ·have h:Re.sqrt n=Re.ofRat 0:=by
   have:=Re.Ev f;rcases Re.HN (this.trans s) with e | e <;> exact e
  rw[h];exact (El.rat (Ec (L.hw.red L.I) g.mem f) (F2 (b:=64) (r:=0) (by decide +kernel) (Nat.le_refl 64))).mono (by decide)
 have W:=PX L.I L.hV L.h3 L.hw g (by grind);exact⟨W.root,W.rb.mono (by decide)⟩⟩
noncomputable def tT:List Nu:=[(Aj [] (Re.ofRat (1/2)),Re.sqrt (Re.ofRat (1/2))),(Aj [] (Re.ofRat 2),Re.sqrt (Re.ofRat 2))]
theorem ck {q:Rat} (h:0<=q):(0:Re)<=Re.ofRat q:=by rw[<-Re.Hj];exact Re.Ra.2 h
end Go.Abs
