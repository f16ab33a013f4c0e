/- Part 27 of a proof. Conditions: each theorem's own. -/
import Derived.Test.YtmaoeopjnhfplaaGreatQk25
set_option linter.all false
set_option maxHeartbeats 8000000
set_option maxRecDepth 20000
open Go.Proofs
namespace Go.Abs
section
variable {P:List (List Rat)->Prop} {R0:Nat}
theorem Tf.aw (I:CY P R0) {V:List Re} (hV:∀{u},P u->∀v∈Go.Abs.BO u,v∈V) (h3:V.length<=3) {u:List (List Rat)} (h:Tf P u):(u.length<=1->TB R0 u)/\TB (R0+CC 1 R0 1 R0) u:=by
 induction h with
 | nil=>exact⟨fun _ r g=>absurd g (by simp),fun r g=>absurd g (by simp)⟩
 | @BT u J i ht D j H=>
  by_cases L:Sq u (AP i J)
  ·rw[Et L];exact H
  have f:=I.red D;have hu:=ht.red I;have o:=B6 f;have hb:Bd R0 (co i (AP i J)):=by rw[FL f];exact (I.tb D).head
  rw[Dk L]
  by_cases U:∀v∈Go.Abs.BO i,v∈Go.Abs.BO u
  ·have K:=QR hu f.1 U o hb;refine⟨fun O r g=>?_,fun r g=>?_⟩
   ·rw[List.length_cons] at O;rcases List.mem_cons.1 g with rfl | g
    ·exact K
    exact H.1 (by omega) r g
   rcases List.mem_cons.1 g with rfl | g
   ·exact K.mono (by omega)
   exact H.2 r g
  obtain⟨v,Y⟩:=Classical.not_forall.1 U;obtain⟨C,T⟩:=Classical.not_imp.1 Y;have B:In u (Re.sqrt v):=j _ (Lp C);have Q:AP i J≠v:=fun e=>L ((Lf (by have:=f.2.2.1;grind)).2 (e ▸ B))
  have A:=HH (M1 hu (j _ o) f.2.2.1 L);rw[Go.Abs.BO,E0 (j _ o),List.nodup_cons] at A
  have hle:=JR (l:=AP i J::v::Go.Abs.BO u) (m:=V) (by
   rw[List.nodup_cons,List.nodup_cons];refine⟨fun hm=>?_,T,A.2⟩;rcases List.mem_cons.1 hm with e | hm
   ·exact Q e
   ·exact A.1 hm) (fun x G=>by
   rcases List.mem_cons.1 G with rfl | G
   ·exact hV D _ (by rw[Go.Abs.BO];exact List.mem_cons_self)
   rcases List.mem_cons.1 G with rfl | G
   ·exact hV (I.sub D) _ C
   exact ht.BO I hV x G)
  rw[List.length_cons,List.length_cons,Je] at hle;have t:=JR (HH f) (hV D);rw[Je,List.length_cons] at t
  have F:u≠[]:=fun e=>by
   subst e;have:=S6 f.1 j;subst this;simp[Go.Abs.BO] at C
  have S:u.length=1:=by
   have:0<u.length:=List.length_pos_iff.2 F;omega
  have X:i.length<=1:=by
   match u,S,hu,j with
   | [s],_,hu,j=>
    match i,f.1,j,t with
    | [],_,_,_=>exact Nat.zero_le _
    | [q],_,_,_=>exact Nat.le_refl 1
    | [q,r],W,j,_=>exact (ZZ W hu j).elim
    | _::_::_::_,_,_,t=>simp only[List.length_cons] at t;omega
  have N:El i R0 (AP i J):=⟨o,hb⟩;have K:=(N.CG hu (H.1 (by omega)) f.1 (I.tb D).tail j).bd;have Z:=Jf (k:=i.length) (k':=1) (R0:=R0) (IJ:=R0) (h:=u.length) (h':=1) (R:=R0) (R':=R0) X (Nat.le_refl _) (by omega) (Nat.le_refl _);refine⟨fun O=>absurd O (by rw[List.length_cons];omega),fun r g=>?_⟩;rcases List.mem_cons.1 g with rfl | g
  ·exact K.mono (by omega)
  exact H.2 r g
theorem Tf.g9 (I:CY P R0) {V:List Re} (hV:∀{u},P u->∀v∈Go.Abs.BO u,v∈V) (h3:V.length<=3) {R C S:Nat} (hR:R0+CC 1 R0 1 R0<=R) (i:R<=S) (A:CC 3 R 3 R<=C) (j:∀h,h<=3->Fit h R (S+C)) (B:2*(S+C)+EE 3 R<=60000000000000):Gam (Tf P) R C S:=by
 have hm:∀{u},Tf P u->u.length<=3:=fun {u} h=>Nat.le_trans (h.len I hV) h3
 have f:∀{u},Tf P u->TB R u:=fun {u} h=>(h.aw I hV h3).2.mono hR
 refine⟨fun {u} h=>⟨h.red I,f h,by omega,by have:=hm h;omega⟩,fun {u} h=>by have:=hm h;omega,.nil,fun {r u} h=>h.sub I,fun {t r u} ht h g=>ht.QF I h g,fun {u w s x} hu hw g o=>?_,fun {u} h=>j _ (hm h),fun {u} h=>?_,i⟩
 ·refine (o.CG (hw.red I) (f hw) (hu.red I) (f hu) g).mono ?_;have:=Jf (k:=u.length) (k':=3) (R0:=R) (IJ:=R) (h:=w.length) (h':=3) (R:=R) (R':=R) (hm hu) (Nat.le_refl _) (hm hw) (Nat.le_refl _);omega
 have:=Hk (h:=u.length) (h':=3) (R:=R) (R':=R) (hm h) (Nat.le_refl _);omega
end
abbrev Rn:Nat:=1540
abbrev Cn:Nat:=874000
theorem gy:∀h,h<=3->Fit h Rn (Sm+Cn)
 |0,_|1,_|2,_|3,_=>⟨by decide +kernel,by decide +kernel,by decide +kernel,by decide +kernel⟩
 | _+4,h=>absurd h (by omega)
theorem gq:∀h,h<=3->FJ h Rn (Sm+Cn)
 |0,_|1,_|2,_|3,_=>⟨by decide +kernel,by decide +kernel,by decide +kernel,by decide +kernel⟩
 | _+4,h=>absurd h (by omega)
theorem j8:2*(Sm+Cn)+EE 3 Rn<=60000000000000:=by decide +kernel
theorem iC {P:List (List Rat)->Prop} (I:CY P 256) {V:List Re} (hV:∀{u},P u->∀v∈BO u,v∈V) (h3:V.length<=3) {S:Nat} (f:Rn<=S) (i:S<=Sm):DW (Tf P) Rn Cn S:=
 {Tf.g9 I hV h3 (by decide +kernel:256+CC 1 256 1 256<=Rn) f (by decide +kernel:CC 3 Rn 3 Rn<=Cn) (fun h g=>(gy h g).mono (by omega)) (Nat.le_trans (by omega) j8) with Hu:=fun {u} hu=>(gq _ (Nat.le_trans (hu.len I hV) h3)).mono (by omega)}
section
variable {P:List (List Rat)->Prop} {V:List Re}
theorem Tf.KQ (I:CY P 256) (hV:∀{u},P u->∀v∈Go.Abs.BO u,v∈V) (h3:V.length<=3) {u:List (List Rat)} (h:Tf P u):TB Rn u:=(h.aw I hV h3).2.mono (by decide +kernel)
abbrev Ce:Nat:=226506
theorem Tf.XA (I:CY P 256) (hV:∀{u},P u->∀v∈Go.Abs.BO u,v∈V) (h3:V.length<=3) {u w:List (List Rat)} {s:Nat} {x:Re} (hu:Tf P u) (hw:Tf P w) (g:Be u w) (f:El u s x):El w (s+Ce) x:=by
 by_cases i:w.length<=2
 ·refine (f.CG (hw.red I) (hw.KQ I hV h3) (hu.red I) (hu.KQ I hV h3) g).mono ?_;have:=Jf (k:=u.length) (k':=3) (R0:=Rn) (IJ:=Rn) (h:=w.length) (h':=2) (R:=Rn) (R':=Rn) (Nat.le_trans (hu.len I hV) h3) (Nat.le_refl _) i (Nat.le_refl _);have r:CC 3 Rn 2 Rn=Ce:=by decide +kernel
  omega
 refine⟨g _ f.mem,(QR (hw.red I) (hu.red I) (fun v o=>Classical.byContradiction fun j=>?_) f.mem f.bd).mono (Nat.le_add_right _ _)⟩
 have:=JR (l:=v::Go.Abs.BO w) (m:=V) (List.nodup_cons.2 ⟨j,HH (hw.red I)⟩) (fun x f=>by
  rcases List.mem_cons.1 f with rfl | f
  ·exact hu.BO I hV _ o
  exact hw.BO I hV x f)
 rw[List.length_cons,Je] at this;omega
end
theorem El.BT {u:List (List Rat)} {n x:Re} {s:Nat} (hu:Al u) (h:Al (BT u n)) (f:El u s x):El (BT u n) s x:=by
 by_cases i:Sq u n
 ·rw[Et i];exact f
 rw[Dk i] at h ⊢;have g:El u 0 0:=El.rat hu G7;have:=Ns h f.mem g.mem f.bd g.bd;rw[show x+0*rt u (co u n)=x by grind] at this;exact⟨Fj f.mem,this⟩
def P4 (P:List (List Rat)->Prop) (n:Re) (u:List (List Rat)):Prop:=P u\/∃u0,Tf P u0/\In u0 n/\u<:+BT u0 n
abbrev R4:Nat:=1920500
abbrev E4:Nat:=1942090
abbrev Rf:Nat:=150420000
section
variable {P:List (List Rat)->Prop} {V:List Re} {w:List (List Rat)} {n:Re}
theorem nv (I:CY P 256) (hV:∀{u},P u->∀v∈Go.Abs.BO u,v∈V) (h3:V.length<=3) (hw:Tf P w) (ha:∀{u},Tf P u->Be u w) {z:List (List Rat)} (G:Al z) (f:∀{s x},El w s x->El z s x) {r:List Rat} {u:List (List Rat)} (h:Tf P (r::u)):Wv z 2032990 46909868 R4 (AP u r):=by
 have g:=h.red I;have i:=Tf.XA I hV h3 h hw (ha h) (JE g);have t:In (r::u) (AP u r):=Fj (B6 g);have B:AP u r≠0:=by have:=g.2.2.1;grind
 have A:rt u r≠0:=fun e=>B (by rw[<-Ct g,e];grind)
 obtain⟨y,D,j⟩:=E1 (hw.red I) i.mem A;have e2:=IS (hw.red I) (hw.KQ I hV h3) i.mem D j i.bd;have o:El w 46909868 y:=⟨D,e2.mono (Nat.le_trans (IG (Nat.le_trans (hw.len I hV) h3) (Nat.le_refl _) (Nat.le_refl _)) (by decide +kernel))⟩
 have b3:El (r::u) (Rn+0) (AP u r):=by
  have C:El u 0 0:=El.rat g.1 G7;have hb:Bd Rn (co u (AP u r)):=by rw[FL g];exact (h.KQ I hV h3).head
  have:=Ns g (B6 g) C.mem hb C.bd;rw[show AP u r+0*rt u r=AP u r by grind] at this;exact⟨t,this⟩
 have F:=Tf.XA I hV h3 h hw (ha h) b3;exact⟨(f i).mem,(f i).bd.mono (by decide),⟨y,by rw[<-j];exact Re.mul_comm _ _,(f o).bd⟩,(f F).bd.mono (by decide)⟩
theorem Tf.Iv (I:CY P 256) {u v:List (List Rat)} (h:u<:+v) (f:Tf P v):Tf P u:=by
 obtain⟨t,rfl⟩:=h
 induction t with
 | nil=>exact f
 | cons r t g=>exact g (f.sub I)
theorem P4.sub (I:CY P 256) {r:List Rat} {u:List (List Rat)} (h:P4 P n (r::u)):P4 P n u:=by
 rcases h with h |⟨i,h,f,g⟩
 ·exact .inl (I.sub h)
 exact .inr ⟨i,h,f,(List.suffix_cons r u).trans g⟩
theorem P4.red (I:CY P 256) (f:0<=n) {u:List (List Rat)} (h:P4 P n u):Al u:=by
 rcases h with h |⟨j,h,g,i⟩
 ·exact I.red h
 exact S7 i (Ja (h.red I) g f)
theorem P4.top (I:CY P 256) {r:List Rat} {u:List (List Rat)} (h:P4 P n (r::u)):Tf P (r::u)\/(In u n/\¬Sq u n/\AP u r=n):=by
 rcases h with h |⟨j,h,i,f⟩
 ·exact .inl (Tf.of I h)
 by_cases g:Sq j n
 ·rw[Et g] at f;exact .inl (h.Iv I f)
 rw[Dk g] at f;rcases List.suffix_cons_iff.1 f with e | f
 ·obtain⟨rfl,rfl⟩:=List.cons.inj e;exact .inr ⟨i,g,E0 i⟩
 exact .inl (h.Iv I f)
theorem P4.len (I:CY P 256) (hV:∀{u},P u->∀v∈Go.Abs.BO u,v∈V) {u:List (List Rat)} (h:P4 P n u):∀v∈Go.Abs.BO u,v∈n::V:=by
 induction u with
 | nil=>intro v f;simp[Go.Abs.BO] at f
 | cons r u g=>
  intro v f;rcases List.mem_cons.1 f with rfl | f
  ·rcases h.top I with h |⟨_,_,e⟩
   ·exact List.mem_cons_of_mem _ (h.BO I hV _ List.mem_cons_self)
   rw[e];exact List.mem_cons_self
  exact g (h.sub I) v f
theorem Tf.SN (I:CY P 256) {u:List (List Rat)} (h:Tf P u):Tf (P4 P n) u:=by
 induction h with
 | nil=>exact .nil
 | BT _ g f i=>exact .BT i (.inl g) f
theorem Tf.Vj (I:CY P 256) {u:List (List Rat)} (h:Tf P u) (f:In u n):Tf (P4 P n) (Go.Abs.BT u n):=by
 by_cases g:Sq u n
 ·rw[Et g];exact h.SN I
 have:=Tf.BT (h.SN I (n:=n)) (show P4 P n (co u n::u) from .inr ⟨u,h,f,by rw[Dk g];exact List.suffix_refl _⟩) (Be.refl u);rwa [E0 f] at this
end
abbrev Cf:Nat:=214500000
abbrev Mf:Nat:=156000000000
section
variable {P:List (List Rat)->Prop} {V:List Re} {w:List (List Rat)} {n:Re}
end
open Go.RowKit
abbrev Ve:=Nu×Nu
noncomputable def vm (p:Ve):el BI:=(nm p.1,nm p.2)
noncomputable def G1 (ns:List Nu) (W:List UInt8):List Ve:=(List.range (W.length/2)).map fun i=>(Cw ns (W.getD (2*i) 0).toNat,Cw ns (W.getD (2*i+1) 0).toNat)
theorem lG (ns:List Nu) (W:List UInt8):(G1 ns W).length=W.length/2:=by rw[G1,List.length_map,List.length_range]
theorem bH {W:List UInt8} {i:Nat} {x:UInt8} (h:W[i]? =some x):W.getD i 0=x:=by rw[List.getD_eq_getElem?_getD,h];rfl
theorem ZJ {ns:List Nu} {W:List UInt8} {i:Nat} {x y:UInt8} (g:W[2*i]? =some x) (f:W[2*i+1]? =some y):(G1 ns W).take (i+1)=(G1 ns W).take i++[(Cw ns x.toNat,Cw ns y.toNat)]:=by
 have j:=IV f
 have h:(G1 ns W)[i]? =some (Cw ns x.toNat,Cw ns y.toNat):=by
  rw[G1,List.getElem?_map,List.getElem?_range (by omega)]
  show some (Cw ns (W.getD (2*i) 0).toNat,Cw ns (W.getD (2*i+1) 0).toNat)=_
  rw[bH g,bH f]
 exact C7 h
theorem XT (ns:List Nu) (i:Nat):Cw ns i∈ns\/Cw ns i=ID:=by
 by_cases h:ns=[]
 ·right;subst h;rfl
 exact .inl (Q7 h i)
theorem lH {ns:List Nu} {W:List UInt8} {p:Ve} (h:p∈G1 ns W):(p.1∈ns\/p.1=ID)/\(p.2∈ns\/p.2=ID):=by
 obtain⟨i,_,rfl⟩:=List.mem_map.1 h;exact⟨XT _ _,XT _ _⟩
abbrev Fe (TT:List (List Rat)->Prop) (w:List (List Rat)):Prop:=Fm TT w Rn 11500 20 43400000 23 14
abbrev Fd (TT:List (List Rat)->Prop) (w:List (List Rat)):Prop:=Fm TT w Rf 1950000 110 80000 47 23
abbrev Nd (TT:List (List Rat)->Prop) (w:List (List Rat)) (k:Nat) (T:List LR) (A:LR) (x:Re):Prop:=Nm TT w 1950000 k T A x
abbrev Vd (TT:List (List Rat)->Prop) (w:List (List Rat)) (k k':Nat) (T1:List LR) (A1:LR) (T2:List LR) (A2:LR) (x y:Re):Prop:=Vm TT w 1950000 k k' T1 A1 T2 A2 x y
theorem iP (t:Nat):II 3 Rn t<=23*t+14*11500:=by simp only[II,EE,Rn];omega
structure Pl (P:List (List Rat)->Prop) (V:List Re) (w:List (List Rat)):Prop where
 I:CY P 256
 hV:∀{u},P u->∀v∈BO u,v∈V
 h3:V.length<=3
 hw:Tf P w
 ha:∀{u},Tf P u->Be u w
theorem kp {P:List (List Rat)->Prop} {V:List Re} (I:CY P 256) (hV:∀{u},P u->∀v∈BO u,v∈V) (h3:V.length<=3):∃w,Pl P V w:=by
 obtain⟨w,hw,ha⟩:=Tf.top I (fun {u} h=>Nat.le_trans (h.len I hV) h3);exact⟨w,I,hV,h3,hw,ha⟩
section
variable {P:List (List Rat)->Prop} {V:List Re} {w:List (List Rat)}
theorem Pl.len (L:Pl P V w) {u:List (List Rat)} (h:Tf P u):u.length<=3:=Nat.le_trans (h.len L.I L.hV) L.h3
theorem Pl.lift (L:Pl P V w) {n:Re} (s:In w n) (f:0<=n) {b k b' k':Nat} {T:List LR} {A:LR} {x:Re} (h:Nm (Tf P) w b k T A x) (r:k*b<=k'*b'):Nm (Tf (P4 P n)) (BT w n) b' k' T A x:=by
 obtain⟨u,g,i,h3,j,o⟩:=h;exact⟨u,g.SN L.I,i,h3,j,(El.BT (L.hw.red L.I) (Ja (L.hw.red L.I) s f) o).mono r⟩
end
theorem SW {V:List Re} {ns:List Nu} (hV:V.length<=3) (h:∀n∈ns,CH V n):∃w,Pl (PN ns) V w:=kp (PN.JH hV h) (fun f=>PN.BO h f) hV
noncomputable def LL (ns:List Nu) (W:List UInt8):List (el BI):=if W.length<=24 then (G1 ns W).map vm else []
theorem dB {L:List (el Bc)} {i:Int} {A:LR} (o:L=[]) (h:A=em [] 0):CF 155 [.one (.sl Bc L),.one (.int .i64 i)] (.agg (AU [] A)):=by
 have s:L.length=0:=by rw[o];rfl
 refine AO Tryz.func155 fun E j=>?_
 conv=>cbv
 rintro v ⟨u,f6⟩;conv=>cbv
 intro t f;conv=>cbv
 cases t <;> conv=>cbv
 ·have g:=BR f;exact absurd g (by omega)
 have g:=BS f;refine AB (r:= .agg [.sl (.sl AA) (([]:List LR)),.sl AA A]) j (Nb (x:=0) (by decide) (by rw[h];rfl)) ?_;try conv=>cbv
 exact AF ⟨t3,trivial⟩
theorem NY {L:List (el Bc)} {ns:List Nu} {i:Int} {i':Nat} {n:Nu} {T:List LR} {A:LR} (j:L=ns.map nm) (r:Ag i i') (o:n=Cw ns i') (g:T=tw n.1) (f:A=em n.1 n.2):CF 155 [.one (.sl Bc L),.one (.int .i64 i)] (.agg (AU T A)):=by
 by_cases h:ns=[]
 ·subst h;have e:n=ID:=o;rw[e] at g f;rw[show T=[] from g];exact dB j f
 exact dC j h r o g f
theorem n3 {X:List (el Bo)} {W:List UInt8} {ns:List Nu} (j:ns=(runN (X.take 24)).1) {V:List Re} (A:V.length<=3) (h:∀n∈ns,CH V n) (C:24<W.length):CF 70 [.agg [.sl Bo X,.sl .u8 W]] (.AG [(false,[.sl BI (([]:List (el BI)))]),(false,[.bool false])]):=by
 refine AO Tryz.func70 fun E s=>?_
 conv=>cbv
 obtain⟨u,g⟩:∃z:List (el Bc),z=ns.map nm:=⟨_,rfl⟩
 refine AB (r:= .one (.sl Bc u)) s (VA (by rw[g,j])) ?_;conv=>cbv
 refine AB s (U9 g (fun n t=>⟨(h n t).cos,(h n t).H5⟩)) ?_;conv=>cbv
 refine AL ?_;conv=>cbv
 rintro B ⟨v,f16⟩;conv=>cbv
 intro o f;conv=>cbv
 cases o <;> conv=>cbv
 ·have i:=Cc f;exact absurd i (by omega)
 have i:=Cd f;exact AF ⟨⟨rfl,AJ,trivial⟩,t2,trivial⟩
theorem oA {X:List (el Bo)} {W:List UInt8} {ns:List Nu} (ak:ns=(runN (X.take 24)).1) {V:List Re} (ay:V.length<=3) (a7:∀n∈ns,CH V n) (hW:W.length<=24) {Q:List (el BI)} (hQ:Q=(G1 ns W).map vm):CF 70 [.agg [.sl Bo X,.sl .u8 W]] (.AG [(false,[.sl BI Q]),(false,[.bool true])]):=by
 have aB:=lG ns W;refine AO Tryz.func70 fun E Z=>?_
 conv=>cbv
 obtain⟨L9,G⟩:∃z:List (el Bc),z=ns.map nm:=⟨_,rfl⟩
 refine AB (r:= .one (.sl Bc L9)) Z (VA (by rw[G,ak])) ?_;conv=>cbv
 refine AB Z (U9 G (fun n hn=>⟨(a7 n hn).cos,(a7 n hn).H5⟩)) ?_;conv=>cbv
 refine AL ?_;conv=>cbv
 rintro aD ⟨ax,f16⟩;conv=>cbv
 intro al a1;conv=>cbv
 cases al <;> conv=>cbv
 ·have a8:=Cc a1;refine .inr ?_;obtain⟨J0,N⟩:=xJ fun vs bl k=>(∃(k':Nat) (j:Int),vs=[.one (.As 1 0 0),.one (.sl Bc L9),.one .nil,.one (.int .i64 j)]/\bl=[.var 0 [.sl Bo X,.sl .u8 W],.dead 0]/\(Ag j (2*k')/\k'=0)/\k=W.length/2-k')\/(∃(o:List (el BI)) (n k':Nat) (j:Int),vs=[.one (.As 1 0 0),.one (.sl Bc L9),.one (.AZ BI 47 0 0 n),.one (.int .i64 j)]/\bl=[.var 0 [.sl Bo X,.sl .u8 W],.arr 0 BI o]/\(Ag j (2*k')/\k'<=W.length/2/\n=o.length)/\o=((G1 ns W).take k').map vm/\k=W.length/2-k')
  refine⟨[],[1,4,5,6],[1,47],J0,⟨W.length/2-0,by rw[N];exact .inl ⟨0,0,rfl,rfl,⟨Bf 0,rfl⟩,rfl⟩⟩,?_⟩;intro vs bl aC hj;rw[N] at hj;rcases hj with⟨k',j,rfl,rfl,⟨hj,a2⟩,aj⟩ |⟨o,n,k',j,rfl,rfl,⟨hj,az,hn⟩,hinv,aj⟩
  ·conv=>cbv
   have ej:=hj.eq;intro an af;conv=>cbv
   refine AQ ?_;rintro ao ⟨ab,f23⟩;conv=>cbv
   intro U H;conv=>cbv
   cases U <;> conv=>cbv
   ·have S:=BK H;exact AF ⟨⟨rfl,.inr (.inl ⟨_,congrArg _ (by rw[hQ,List.eq_nil_of_length_eq_zero (show (G1 ns W).length=0 by omega)];rfl)⟩),trivial⟩,t2,trivial⟩
   have S:=BL H;refine .inr ?_;obtain⟨f,v⟩:=AS (l:=W) (i:=(2*k')) (by omega);refine⟨f,fun _=>⟨by omega,by rw[show (j).toNat=(2*k') by omega];exact v⟩,?_⟩;try conv=>cbv
   intro ar I;have ad:=I.eq;have f33:=I.lt;conv=>cbv
   intro au J;conv=>cbv
   have J:=wrap_i64 J;obtain⟨D,t⟩:=G0 (tw (Cw ns f.toNat).1);obtain⟨B,h⟩:=C5 (em (Cw ns f.toNat).1 (Cw ns f.toNat).2);refine AB Z (NY G ⟨by omega⟩ rfl t h) ?_;conv=>cbv
   intro Y ah;conv=>cbv
   refine AQ ?_;obtain⟨g,A⟩:=AS (l:=W) (i:=(2*k'+1)) (by omega);refine⟨g,fun _=>⟨by omega,by rw[show (Y).toNat=(2*k'+1) by omega];exact A⟩,?_⟩;try conv=>cbv
   intro av K;have ae:=K.eq;have f42:=K.lt;conv=>cbv
   intro aw L;conv=>cbv
   have L:=wrap_i64 L;obtain⟨F,u⟩:=G0 (tw (Cw ns g.toNat).1);obtain⟨C,s⟩:=C5 (em (Cw ns g.toNat).1 (Cw ns g.toNat).2);refine AB Z (NY G ⟨by omega⟩ rfl u s) ?_;conv=>cbv
   refine⟨[((D,B),(F,C))],fun _=>⟨rfl,by decide,rfl,⟨rfl,by first | exact t1 | exact t2 | exact t4 | simp[BX,Bl,cells],trivial⟩⟩,.inr ?_⟩;try conv=>cbv
   refine .inl ⟨[((D,B),(F,C))],fun _=>⟨rfl,by show (1)*96<=140737488355328;(try simp only[List.length_take,List.length_drop]);omega⟩,?_⟩;intro aa ai;conv=>cbv
   refine Bg ?_;intro aq ag;conv=>cbv
   refine AQ ?_;refine⟨W.length/2-(k'+1),?_,?_⟩
   ·omega
   rw[N];exact .inr ⟨_,_,k'+1,_,rfl,rfl,⟨⟨by omega⟩,by omega,ai⟩,by rw[ZJ v A,List.map_append,t,h,u,s,a2];rfl,rfl⟩
  conv=>cbv
  have ej:=hj.eq;have aA:o.length<=12:=by rw[hinv,List.length_map,List.length_take];omega
  intro an af;conv=>cbv
  refine AQ ?_;rintro ao ⟨ab,f23⟩;conv=>cbv
  intro U H;conv=>cbv
  cases U <;> conv=>cbv
  ·have S:=BK H;exact AF ⟨⟨rfl,.inl ⟨_,rfl,by omega,congrArg _ (by rw[hQ,hn,List.drop_zero,List.take_length,hinv,List.take_of_length_le (by omega)])⟩,trivial⟩,t2,trivial⟩
  have S:=BL H;refine .inr ?_;obtain⟨f,v⟩:=AS (l:=W) (i:=(2*k')) (by omega);refine⟨f,fun _=>⟨by omega,by rw[show (j).toNat=(2*k') by omega];exact v⟩,?_⟩;try conv=>cbv
  intro ar I;have ad:=I.eq;have f33:=I.lt;conv=>cbv
  intro au J;conv=>cbv
  have J:=wrap_i64 J;obtain⟨D,t⟩:=G0 (tw (Cw ns f.toNat).1);obtain⟨B,h⟩:=C5 (em (Cw ns f.toNat).1 (Cw ns f.toNat).2);refine AB Z (NY G ⟨by omega⟩ rfl t h) ?_;conv=>cbv
  intro Y ah;conv=>cbv
  refine AQ ?_;obtain⟨g,A⟩:=AS (l:=W) (i:=(2*k'+1)) (by omega);refine⟨g,fun _=>⟨by omega,by rw[show (Y).toNat=(2*k'+1) by omega];exact A⟩,?_⟩;try conv=>cbv
  intro av K;have ae:=K.eq;have f42:=K.lt;conv=>cbv
  intro aw L;conv=>cbv
  have L:=wrap_i64 L;obtain⟨F,u⟩:=G0 (tw (Cw ns g.toNat).1);obtain⟨C,s⟩:=C5 (em (Cw ns g.toNat).1 (Cw ns g.toNat).2);refine AB Z (NY G ⟨by omega⟩ rfl u s) ?_;conv=>cbv
  refine⟨[((D,B),(F,C))],fun _=>⟨rfl,by decide,rfl,⟨rfl,by first | exact t1 | exact t2 | exact t4 | simp[BX,Bl,cells],trivial⟩⟩,.inr ?_⟩;try conv=>cbv
  refine .inl ⟨[((D,B),(F,C))],fun _=>⟨rfl,by (first | rfl | omega),rfl,by show (o.length+1)*96<=140737488355328;(try simp only[List.length_take,List.length_drop]);omega⟩,?_⟩;intro (T:List (el BI)) aa O;have a5:T=(o:List (el BI))++([((D,B),(F,C))]:List (el BI)):=O.1;have a6:aa=List.length (α:=(el BI)) T:=O.2;conv=>cbv
  refine Bg ?_;intro aq ag;conv=>cbv
  refine AQ ?_;refine⟨W.length/2-(k'+1),?_,?_⟩
  ·omega
  rw[N];exact .inr ⟨T,_,k'+1,_,rfl,rfl,⟨⟨by omega⟩,by omega,a6⟩,by rw[a5,hinv,ZJ v A,List.map_append,t,h,u,s];rfl,rfl⟩
 have a8:=Cd a1;exact absurd a8 (by omega)
theorem oD {X:List (el Bo)} {W:List UInt8} {ns:List Nu} (h:ns=(runN (X.take 24)).1) {V:List Re} (g:V.length<=3) (j:∀n∈ns,CH V n) {Q:List (el BI)} {i:Int} {i':Nat} {c:Bool} (u:Ag i i') (t:W.length<=24) (s:Q=(G1 ns W).map vm) (hc:c=decide (i'<=Q.length)):CF 20 [.agg [.sl Bo X,.sl .u8 W],.one (.int .i64 i)] (.AG [(false,[.sl BI Q]),(false,[.bool c])]):=by
 have B:=u.eq;refine AO Tryz.func20 fun E r=>?_
 conv=>cbv
 refine AB r (oA h g j t s) ?_;conv=>cbv
 rintro v ⟨o,f17⟩;conv=>cbv
 intro A f;conv=>cbv
 exact AF ⟨t2,⟨rfl,congrArg _ (by rw[hc,f,Bool.eq_iff_iff,decide_eq_true_eq,decide_eq_true_eq];omega),trivial⟩,trivial⟩
theorem oC {X:List (el Bo)} {W:List UInt8} {ns:List Nu} (g:ns=(runN (X.take 24)).1) {V:List Re} (f:V.length<=3) (h:∀n∈ns,CH V n) {i:Int} (o:24<W.length):CF 20 [.agg [.sl Bo X,.sl .u8 W],.one (.int .i64 i)] (.AG [(false,[.sl BI (([]:List (el BI)))]),(false,[.bool false])]):=by
 refine AO Tryz.func20 fun E j=>?_
 conv=>cbv
 refine AB j (n3 g f h o) ?_;conv=>cbv
 exact AF ⟨t2,t2,trivial⟩
theorem Pd {X:List (el Bo)} {W:List UInt8} {ns:List Nu} (g:ns=(runN (X.take 24)).1) {V:List Re} (f:V.length<=3) (h:∀n∈ns,CH V n) {Q:List (el BI)} (j:Q=LL ns W) {i:Int} {i':Nat} (o:Ag i i') (r:0<i') {c:Bool} (hc:c=decide (i'<=Q.length)):CF 20 [.agg [.sl Bo X,.sl .u8 W],.one (.int .i64 i)] (.AG [(false,[.sl BI Q]),(false,[.bool c])]):=by
 unfold LL at j
 split at j
 ·exact oD g f h o (by assumption) j hc
 subst j;rw[hc,decide_eq_false (by simp;omega)];exact oC g f h (by omega)
open Classical in
noncomputable def fs (x y:Re):Re:=if x=0 then y else x
open Classical in
noncomputable def un (x:Re):Re:=if x=0 then 0 else 1
section
variable {x y z:Re}
theorem XR (h:x=0):fs x y=y:=if_pos h
theorem Q5 (h:x≠0):fs x y=x:=if_neg h
theorem PU (h:x=0):un x=0:=if_pos h
theorem PV (h:x≠0):un x=1:=if_neg h
theorem M0:(1:Re)≠0:=fun e=>absurd (Re.Ds.1 (show Re.ofRat 1=Re.ofRat 0 from e)) (by decide)
theorem RI {i:Re} (h:x*i=1):i=AT x:=by
 have f:x≠0:=fun e=>M0 (by rw[<-h,e];grind)
 have:=Gv f;have e:i=i*(x*AT x):=by rw[this];grind
 rw[e,show i*(x*AT x)=(x*i)*AT x by grind,h];grind
theorem inv_neg (h:x≠0):AT (-x)= -AT x:=(RI (by have:=Gv h;grind)).symm
theorem YB (h:¬(x=0/\y=0)):un x=1\/un x=0/\y*AT (fs x y)=1:=by
 by_cases f:x=0
 ·exact .inr ⟨PU f,by rw[XR f];exact Gv (fun e=>h ⟨f,e⟩)⟩
 exact .inl (PV f)
end
structure DY (TT:List (List Rat)->Prop) (w:List (List Rat)) (b k l:Nat) (T1:List LR) (A1:LR) (T2:List LR) (A2:LR) (T3:List LR) (A3:LR) (x y z:Re):Prop where
 x:Nm TT w b 1 T1 A1 x
 y:Nm TT w b k T2 A2 y
 z:Nm TT w b l T3 A3 z
section
variable {TT:List (List Rat)->Prop} {w:List (List Rat)} {R b c M q p k k' l l':Nat} {T1 T2:List LR} {A1 A2:LR} {x y:Re}
theorem Nm.shrink (h:Nm TT w b k T1 A1 x) (g:Nm TT w b l T2 A2 y) (e:x=y):Nm TT w b l T1 A1 x:=by
 obtain⟨u,f,o,j,r,_⟩:=h;obtain⟨_,_,_,_,_,i⟩:=g;exact⟨u,f,o,j,r,e ▸ i⟩
theorem LC (F:Fm TT w R b c M q p) (f:c<=M) {r:Rat} (g:Cz r) (h:Nm TT w b k T1 A1 x) (e:x=Re.ofRat r):Nm TT w b 1 T1 A1 (Re.ofRat r):=e ▸ h.shrink (HX F f (G8 g F.hb)) e
theorem Vm.shrink {T3 T4:List LR} {A3 A4:LR} {x' y':Re} (h:Vm TT w b k k' T1 A1 T2 A2 x y) (g:Vm TT w b l l' T3 A3 T4 A4 x' y') (e:x=x') (f:y=y'):Vm TT w b l l' T1 A1 T2 A2 x y:=⟨h.x.shrink g.x e,h.y.shrink g.y f⟩
end
section
variable {x y z a d:Re}
theorem aZ {x:Re} (h:x≠0):0<x*x:=by
 have f:=Re.It x;have g:=R3 h h
 grind
theorem KO (h:¬(x=0/\y=0)):x*x+y*y≠0:=by
 have g:=Re.It x;have i:=Re.It y
 by_cases f:x=0
 ·have:=aZ (fun e=>h ⟨f,e⟩)
  grind
 have:=aZ f
 grind
end
section
variable {n m z n' m' z' x y x1 y1 x2 y2:Re}
end
theorem nZ:Re.ofRat ((2:Int):Rat)=1+1:=by rw[show ((2:Int):Rat)=1+1 by decide +kernel,Re.ofRat_add];rfl
theorem RB:Re.ofRat (1/2)*(1+1)=1:=by rw[<-nZ,<-Re.ofRat_mul,show (1/2:Rat)*((2:Int):Rat)=1 by decide +kernel];rfl
theorem ER (a:Rat):AT (Re.ofRat a)=Re.ofRat a⁻¹:=by
 by_cases h:a=0
 ·subst h;unfold AT;rw[dif_neg (fun h=>h rfl)];exact congrArg Re.ofRat (show (0:Rat)=0⁻¹ by decide +kernel)
 exact (RI (by rw[<-Re.ofRat_mul,Rat.mul_inv_cancel a h];rfl)).symm
theorem EU (a b:Rat):Re.ofRat a-Re.ofRat b=Re.ofRat (a-b):=by
 rw[show Re.ofRat a-Re.ofRat b=Re.ofRat a+ -Re.ofRat b by grind,<-Re.ofRat_neg,<-Re.ofRat_add,Rat.sub_eq_add_neg]
theorem kR {TT:List (List Rat)->Prop} {w:List (List Rat)} {R b c M q p k l:Nat} (F:Fm TT w R b c M q p) {T1:List LR} {A1:LR} {x:Re} (ha:Nm TT w b k T1 A1 x) (I:k+c+1<=M) (i:∀u,TT u->T1=tw u->In u x->TT (BT u x)) (r:0<=x) (C:El w (l*b) (Re.sqrt x)) (N:l+c+1<=M):∃U B,Nm TT w b l U B (Re.sqrt x)/\CF 199 [.agg (AU T1 A1)] (.AG [(true,(AU U B)),(false,[.int .i64 0])])/\CF 216 [.agg (AU T1 A1)] (.AG [(true,(AU U B)),(false,[.int .i64 0])]):=by
 obtain⟨u,hu,f,h,D,J,A⟩:=F.own (by omega) ha;have G:=F.g I (by omega);have hw:=i u hu f D;have j:=QG D r;obtain⟨v,O,s,H,_,_,t⟩:=F.own (by omega) (show Nm TT w b l (tw (BT u x)) (em (BT u x) (Re.sqrt x)) (Re.sqrt x) from⟨_,hw,rfl,rfl,j,C⟩);have ev:v=BT u x:=(NN s).symm;subst ev
 have hb:(l+c)*b<=60000000000000:=by
  have K:=(F.g (Nat.le_refl M) (by omega)).toGam.mul F.top;have L:(l+c)*b<=M*b:=Nat.mul_le_mul_right b (by omega);omega
 have o:=A.mono (Nat.mul_le_mul_right b (Nat.le_succ (k+c)));exact⟨_,_,⟨_,hw,rfl,rfl,j,C⟩,cK G.toGam hu f h o hw r rfl rfl t hb,Pz G hu f h o hw r rfl rfl⟩
structure Rt (DE:List (List Rat)->Prop) (w0:List (List Rat)) (b0 K:Nat) (TT:List (List Rat)->Prop) (w:List (List Rat)) (b l:Nat) (v:Re):Prop where
 get:∀{k:Nat} {T1:List LR} {A1:LR},k<=K->Nm DE w0 b0 k T1 A1 v->∃U B,Nm TT w b l U B (Re.sqrt v)/\CF 199 [.agg [.sl (.sl AA) T1,.sl AA A1]] (.AG [(true,[.sl (.sl AA) U,.sl AA B]),(false,[.int .i64 0])])/\CF 216 [.agg [.sl (.sl AA) T1,.sl AA A1]] (.AG [(true,[.sl (.sl AA) U,.sl AA B]),(false,[.int .i64 0])])
noncomputable def oQ:List Nu:=[(BT [] (Re.ofRat (1/2)),Re.sqrt (Re.ofRat (1/2))),(BT [] (Re.ofRat 2),Re.sqrt (Re.ofRat 2))]
structure Up (DE:List (List Rat)->Prop) (w0:List (List Rat)) (b0 K:Nat) (TT:List (List Rat)->Prop) (w:List (List Rat)) (b:Nat):Prop where
 up:∀{k:Nat} {T:List LR} {A:LR} {x:Re},k<=K->Nm DE w0 b0 k T A x->Nm TT w b 1 T A x
theorem aQ (x y:Re):0<=x*x+y*y:=by
 have f:=Re.It x;have g:=Re.It y
 grind
end Go.Abs
