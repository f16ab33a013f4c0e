/- Part 25 of a proof. Conditions: each theorem's own. -/
import Derived.Test.YtclgfoceefhnkaaGreatDoorLn23
set_option linter.all false
set_option maxHeartbeats 80000000
set_option maxRecDepth 20000
open Go.Proofs
namespace Go.Abs
section
def Et:List (List Rat)->Nat->Re->Prop
 | [],_,_=>False
 | r::t,i,v=>(i<2^t.length/\Et t i v)\/(2^t.length<=i/\(v=AM t r\/Et t (i-2^t.length) v))
variable {i:Nat} {r:List Rat} {t u:List (List Rat)} {v x:Re}
theorem Ry:∀{t:List (List Rat)} {i:Nat} {v:Re},Et t i v->v∈BB t
 | r::t,i,v,h=>by
  rw[BB];rcases h with⟨_,h⟩ |⟨_,h | h⟩
  ·exact List.mem_cons_of_mem _ (Ry h)
  ·exact h ▸ List.mem_cons_self
  exact List.mem_cons_of_mem _ (Ry h)
theorem Hp (a:i<2^t.length):Et (r::t) i v↔Et t i v:=
 ⟨fun h=>h.elim (·.2) fun h=>absurd h.1 (by omega),fun h=> .inl ⟨a,h⟩⟩
theorem Ho:Et (r::t) (2^t.length+i) v↔v=AM t r\/Et t i v:=
 ⟨fun h=>h.elim (fun h=>absurd h.1 (by omega)) fun h=>by have:=h.2;rwa [Nat.add_sub_cancel_left] at this,fun h=> .inr ⟨by omega,by rwa [Nat.add_sub_cancel_left]⟩⟩
theorem qd (h:AU u) (j:In u x) (a:∀i,i<2^u.length->cf u x i=0):x=0:=by
 rw[expand h j,G4 (g:=fun _=>(0:Re)) (fun i d=>by rw[a i d,show Re.ofRat 0=(0:Re) from rfl];grind)];exact Tg _
theorem SW:∀{t:List (List Rat)} {v y:Re},AU t->v∈BB t->In t y->(∀i,i<2^t.length->Et t i v->cf t y i=0)->
  ∀i,i<2^t.length->(Et t i v->∃j,j<2^t.length/\¬Et t j v/\cf t (y*Re.sqrt v) i=cf t y j/\∀D,D≠v->Et t i D->Et t j D)/\(¬Et t i v->cf t (y*Re.sqrt v) i=0)
 | r::t,v,y,h,U,V,L,i,S=>by
  obtain⟨p,q,o,B,e⟩:=Cd.1 V;have K:=Gl h;rw[BB,List.nodup_cons] at K;rw[B8] at L S
  by_cases g:v=AM t r
  ·have O:∀{j},¬Et t j v:=fun {j} m=>K.1 (g ▸ Ry m)
   have N:q=0:=qd h.1 B fun j m=>by
    rw[<-IJ h o B e j];exact L _ (by omega) (Ho.2 (.inl g))
   have F:y*Re.sqrt v=0+p*rt t r:=by
    show _=0+p*Re.sqrt (AM t r)
    rw[e,N,g];grind
   by_cases s:i<2^t.length
   ·exact⟨fun d=>absurd ((Hp s).1 d) O,fun _=>by rw[GS h (CN t) o F s,Wd h.1]⟩
   obtain⟨j,rfl⟩:∃j,i=2^t.length+j:=⟨i-2^t.length,by omega⟩
   have m:j<2^t.length:=by omega
   refine⟨fun _=>⟨j,by rw[B8];omega,fun d=>O ((Hp m).1 d),?_,fun D n d=>?_⟩,fun d=>absurd (Ho.2 (.inl g)) d⟩
   ·rw[IJ h (CN t) o F,GS h o B e m]
   rcases Ho.1 d with G | G
   ·exact absurd (G.trans g.symm) n
   exact (Hp m).2 G
  have J:v∈BB t:=(List.mem_cons.1 (by rwa [BB] at U)).resolve_left g;have Q:In t (Re.sqrt v):=Lw J;have F:y*Re.sqrt v=p*Re.sqrt v+q*Re.sqrt v*rt t r:=by rw[e];grind
  have z:=Ag h.1 o Q;have C:=Ag h.1 B Q
  by_cases s:i<2^t.length
  ·obtain⟨k1,k2⟩:=SW h.1 J o (fun j m d=>by rw[<-GS h o B e m];exact L j (by omega) ((Hp m).2 d)) i s;refine⟨fun d=>?_,fun d=>?_⟩
   ·obtain⟨j,m,a,b,c⟩:=k1 ((Hp s).1 d);exact⟨j,by rw[B8];omega,fun d=>a ((Hp m).1 d),by rw[GS h z C F s,b,GS h o B e m],fun D n I=>(Hp m).2 (c D n ((Hp s).1 I))⟩
   rw[GS h z C F s];exact k2 fun H=>d ((Hp s).2 H)
  obtain⟨i,rfl⟩:∃j,i=2^t.length+j:=⟨i-2^t.length,by omega⟩
  obtain⟨k1,k2⟩:=SW h.1 J B (fun j m d=>by rw[<-IJ h o B e j];exact L _ (by omega) (Ho.2 (.inr d))) i (by omega);refine⟨fun d=>?_,fun d=>?_⟩
  ·obtain⟨j,m,a,b,c⟩:=k1 ((Ho.1 d).resolve_left g);refine⟨2^t.length+j,by rw[B8];omega,fun d=>(Ho.1 d).elim g a,by rw[IJ h z C F,b,IJ h o B e],fun D n I=>?_⟩;rcases Ho.1 I with G | G
   ·exact Ho.2 (.inl G)
   exact Ho.2 (.inr (c D n G))
  rw[IJ h z C F];exact k2 fun H=>d (Ho.2 (.inr H))
theorem Rh (ht:AU t):∀{u:List (List Rat)},(∀v∈BB u,v∈BB t)->BT u t
 | [],_=>Kz t
 | r::u,h=>I6 ht (Rh ht fun v a=>h v (by rw[BB];exact List.mem_cons_of_mem _ a)) (Lw (h _ (by rw[BB];exact List.mem_cons_self)))
theorem RO (ht:AU t):∀{u:List (List Rat)} {x:Re},AU u->(∀v∈BB u,v∈BB t)->In u x->∀i,i<2^t.length->(cf t x i=0\/cf t x i∈co u x)/\(cf t x i≠0->∀v,Et t i v->v∈BB u)
 | [],x,_,_,I,i,m=>by
  obtain⟨q,rfl⟩:=Ct.1 I
  have e:cf t (Re.ofRat q) i=if i=0 then q else 0:=by
   rw[cf,Hj q ht,List.getD_eq_getElem?_getD];cases i with
   | zero=>rfl
   | succ i=>
    rw[if_neg (by omega),List.getElem?_cons_succ,List.getElem?_replicate]
    split <;> rfl
  have N:∀{t:List (List Rat)} {v:Re},¬Et t 0 v:=fun {t v}=>by
   induction t with
   | nil=>exact id
   | cons r t S=>exact fun h=>S ((Hp (DI _)).1 h)
  rw[e]
  split
  ·rename_i h;subst h
   exact⟨.inr (by rw[Dg];exact List.mem_cons_self),fun _ v n=>absurd n N⟩
  exact⟨.inl rfl,fun h=>absurd rfl h⟩
 | r::u,x,hu,hV,I,i,m=>by
  obtain⟨p,q,H,C,e⟩:=Cd.1 I;have s:=Gl hu;rw[BB,List.nodup_cons] at s;rw[BB] at hV ⊢;have g:∀v∈BB u,v∈BB t:=fun v n=>hV v (List.mem_cons_of_mem _ n)
  have D:=Rh ht g;have B:=hV _ List.mem_cons_self;have F:=RO ht hu.1 g H;have G:=RO ht hu.1 g C
  have L:∀{y:Re},(∀i,i<2^t.length->(cf t y i=0\/cf t y i∈co u y)/\(cf t y i≠0->∀v,Et t i v->v∈BB u))->∀i,i<2^t.length->Et t i (AM u r)->cf t y i=0:=fun Q i m o=>
   Classical.byContradiction fun d=>s.1 ((Q i m).2 d _ o)
  obtain⟨k1,k2⟩:=SW ht B (D _ C) (L G) i m;have O:In t (rt u r):=Lw B
  have J:cf t x i=cf t p i+cf t (q*Re.sqrt (AM u r)) i:=by
   rw[show x=p+q*Re.sqrt (AM u r) from e];exact WZ ht (D _ H) (Ag ht (D _ C) O) i
  rw[DB hu H C e]
  by_cases o:Et t i (AM u r)
  ·obtain⟨j,K,a,b,c⟩:=k1 o;rw[J,L F i m o,b,show (0:Rat)+cf t q j=cf t q j by grind];refine⟨(G j K).1.imp id fun h=>List.mem_append_right _ h,fun d v n=>?_⟩
   by_cases z:v=AM u r
   ·exact z ▸ List.mem_cons_self
   exact List.mem_cons_of_mem _ ((G j K).2 d v (c v z n))
  rw[J,k2 o,show cf t p i+(0:Rat)=cf t p i by grind];exact⟨(F i m).1.imp id fun h=>List.mem_append_left _ h,fun d v n=>List.mem_cons_of_mem _ ((F i m).2 d v n)⟩
theorem Q7 {k:Nat} (ht:AU t) (hu:AU u) (hV:∀v∈BB u,v∈BB t) (j:In u x) (h:Bd k (co u x)):Bd k (co t x):=by
 obtain⟨D,d1,d2,d3,d4⟩:=h;have d:=Rh ht hV _ j
 have key:∀q∈co t x,q=0\/q∈co u x:=fun q a=>by
  obtain⟨i,g,rfl⟩:=List.mem_iff_getElem.1 a;have m:cf t x i=(co t x)[i]:=by rw[cf,List.getD_eq_getElem?_getD,List.getElem?_eq_getElem g];rfl
  rw[<-m];exact (RO ht hu hV j i (by rw[<-C0 d];exact g)).1
 refine⟨D,d1,d2,fun q a=>?_,fun q a=>?_⟩
 ·rcases key q a with rfl | h
  ·exact⟨0,by grind⟩
  exact d3 q h
 rcases key q a with rfl | h
 ·have:(0:Rat)<=((2^k:Nat):Rat):=Rat.natCast_nonneg
  constructor <;> grind
 exact d4 q h
end
section
section
variable {P:List (List Rat)->Prop} {R0:Nat}
theorem Tf.bK (I:CD P R0) {V:List Re} (hV:∀{u},P u->∀v∈Go.Abs.BB u,v∈V) (h3:V.length<=3) {u:List (List Rat)} (h:Tf P u):(u.length<=1->TB R0 u)/\TB (R0+CC 1 R0 1 R0) u:=by
 induction h with
 | nil=>exact⟨fun _ r d=>absurd d (by simp),fun r d=>absurd d (by simp)⟩
 | @BC u J g ht D j H=>
  by_cases L:Sq u (AM g J)
  ·rw[Df L];exact H
  have a:=I.red D;have hu:=ht.red I;have n:=B9 a;have hb:Bd R0 (co g (AM g J)):=by rw[EP a];exact (I.tb D).head
  rw[DG L]
  by_cases W:∀v∈Go.Abs.BB g,v∈Go.Abs.BB u
  ·have K:=Q7 hu a.1 W n hb;refine⟨fun O r d=>?_,fun r d=>?_⟩
   ·rw[List.length_cons] at O;rcases List.mem_cons.1 d with rfl | d
    ·exact K
    exact H.1 (by omega) r d
   rcases List.mem_cons.1 d with rfl | d
   ·exact K.mono (by omega)
   exact H.2 r d
  obtain⟨v,Z⟩:=Classical.not_forall.1 W;obtain⟨C,U⟩:=Classical.not_imp.1 Z;have B:In u (Re.sqrt v):=j _ (Lw C);have Q:AM g J≠v:=fun e=>L ((KQ (by have:=a.2.2.1;grind)).2 (e ▸ B))
  have z:=Gl (JQ hu (j _ n) a.2.2.1 L);rw[Go.Abs.BB,EC (j _ n),List.nodup_cons] at z
  have hle:=IZ (l:=AM g J::v::Go.Abs.BB u) (m:=V) (by
   rw[List.nodup_cons,List.nodup_cons];refine⟨fun hm=>?_,U,z.2⟩;rcases List.mem_cons.1 hm with e | hm
   ·exact Q e
   ·exact z.1 hm) (fun x G=>by
   rcases List.mem_cons.1 G with rfl | G
   ·exact hV D _ (by rw[Go.Abs.BB];exact List.mem_cons_self)
   rcases List.mem_cons.1 G with rfl | G
   ·exact hV (I.sub D) _ C
   exact ht.BB I hV x G)
  rw[List.length_cons,List.length_cons,Ip] at hle;have o:=IZ (Gl a) (hV D);rw[Ip,List.length_cons] at o
  have F:u≠[]:=fun e=>by
   subst e;have:=TF a.1 j;subst this;simp[Go.Abs.BB] at C
  have S:u.length=1:=by
   have:0<u.length:=List.length_pos_iff.2 F;omega
  have Y:g.length<=1:=by
   match u,S,hu,j with
   | [s],_,hu,j=>
    match g,a.1,j,o with
    | [],_,_,_=>exact Nat.zero_le _
    | [q],_,_,_=>exact Nat.le_refl 1
    | [q,r],X,j,_=>exact (Ze X hu j).elim
    | _::_::_::_,_,_,o=>simp only[List.length_cons] at o;omega
  have N:El g R0 (AM g J):=⟨n,hb⟩;have K:=(N.CL hu (H.1 (by omega)) a.1 (I.tb D).tail j).bd;have h2:=Jb (k:=g.length) (k':=1) (R0:=R0) (H7:=R0) (h:=u.length) (h':=1) (R:=R0) (R':=R0) Y (Nat.le_refl _) (by omega) (Nat.le_refl _);refine⟨fun O=>absurd O (by rw[List.length_cons];omega),fun r d=>?_⟩;rcases List.mem_cons.1 d with rfl | d
  ·exact K.mono (by omega)
  exact H.2 r d
theorem Tf.jf (I:CD P R0) {V:List Re} (hV:∀{u},P u->∀v∈Go.Abs.BB u,v∈V) (h3:V.length<=3) {R C S:Nat} (hR:R0+CC 1 R0 1 R0<=R) (g:R<=S) (n:CC 3 R 3 R<=C) (j:∀h,h<=3->Fit h R (S+C)) (o:2*(S+C)+EE 3 R<=60000000000000):Gam (Tf P) R C S:=by
 have hm:∀{u},Tf P u->u.length<=3:=fun {u} h=>Nat.le_trans (h.len I hV) h3
 have a:∀{u},Tf P u->TB R u:=fun {u} h=>(h.bK I hV h3).2.mono hR
 refine⟨fun {u} h=>⟨h.red I,a h,by omega,by have:=hm h;omega⟩,fun {u} h=>by have:=hm h;omega,.nil,fun {r u} h=>h.sub I,fun {t r u} ht h d=>ht.OI I h d,fun {u w s x} hu hw d m=>?_,fun {u} h=>j _ (hm h),fun {u} h=>?_,g⟩
 ·refine (m.CL (hw.red I) (a hw) (hu.red I) (a hu) d).mono ?_;have:=Jb (k:=u.length) (k':=3) (R0:=R) (H7:=R) (h:=w.length) (h':=3) (R:=R) (R':=R) (hm hu) (Nat.le_refl _) (hm hw) (Nat.le_refl _);omega
 have:=Fv (h:=u.length) (h':=3) (R:=R) (R':=R) (hm h) (Nat.le_refl _);omega
end
end
section
abbrev Rn:Nat:=1540
abbrev Cn:Nat:=874000
theorem jS:∀h,h<=3->Fit h Rn (Sm+Cn)
 |0,_|1,_|2,_|3,_=>⟨by decide +kernel,by decide +kernel,by decide +kernel,by decide +kernel⟩
 | _+4,h=>absurd h (by omega)
theorem jO:∀h,h<=3->EM h Rn (Sm+Cn)
 |0,_|1,_|2,_|3,_=>⟨by decide +kernel,by decide +kernel,by decide +kernel,by decide +kernel⟩
 | _+4,h=>absurd h (by omega)
theorem lU:2*(Sm+Cn)+EE 3 Rn<=60000000000000:=by decide +kernel
theorem Xb {P:List (List Rat)->Prop} (I:CD P 256) {V:List Re} (hV:∀{u},P u->∀v∈BB u,v∈V) (h3:V.length<=3) {S:Nat} (a:Rn<=S) (g:S<=Sm):C3 (Tf P) Rn Cn S:=
 {Tf.jf I hV h3 (by decide +kernel:256+CC 1 256 1 256<=Rn) a (by decide +kernel:CC 3 Rn 3 Rn<=Cn) (fun h d=>(jS h d).mono (by omega)) (Nat.le_trans (by omega) lU) with GV:=fun {u} hu=>(jO _ (Nat.le_trans (hu.len I hV) h3)).mono (by omega)}
end
section
open Go.RowKit
def okQ (x:el AA):Bool:=Ez x.1.1 x.1.2 x.2.1 x.2.2
def YR (x:el AA):Bool:=decide (x.1.2.length<=6)&&decide (x.2.2.length<=6)
def Yx (n:Nat) (l:List (el AA)):Bool:=decide (l.length=n)&&l.all okQ
def Yz:Nat->List (List (el AA))->Bool
 | _,[]=>true
 | i,l::r=>Yx (2^i) l&&Yz (i+1) r
def qm (T:List (List (el AA))) (A:List (el AA)):Bool:=A.all YR&&T.all fun l=>l.all YR
def ShV (q:Rat):Prop:=q.num.natAbs<2^192/\q.den<2^192
structure Frm (u:List (List Rat)):Prop where
 form:∀j s,u.reverse[j]? =some s->s.length=2^j
 tb:TB 1540 u
 ht:u.length<=4
end
section
open Go.RowKit
abbrev Sa:Nat:=8589934592
abbrev Sb:Nat:=34359738368
end
section
open Go.RowKit
variable {c:Bool}
theorem UL (b:Bool) (l:List UInt32):FZ b l=(decide ((AP (AD l)).length=l.length)&&(!b||decide (0<l.length))):=by
 unfold FZ;cases h:l.getLast? with
 | none=>
  have:l=[]:=List.getLast?_eq_none_iff.1 h;subst this;simp[show AD []=0 from rfl,show AP 0=[] from Ec.2 rfl]
 | some w=>
  obtain⟨m,rfl⟩:=List.getLast?_eq_some_iff.1 h;have a:0<(m++[w]).length:=by simp
  rw[decide_eq_true a,Bool.or_true,Bool.and_true,<-Lq]
  show (w !=0)=_
  by_cases hw:w=0
  ·subst hw;have:=QD m;rw[JW,decide_eq_false (by simp;omega)];rfl
  rw[KT hw,decide_eq_true rfl];simpa using hw
def qh (T:List LR) (A:LR):Prop:=(Yz 0 T&&Yx (2^T.length) A)=true/\∃u,T=tw u/\AU u
theorem VN {b:Bool} {l:List UInt32} (h:c=FZ b l):CF 195 [.agg (BX b l)] (.one (.bool c)):=by
 refine AG Tryz.func195 fun E s=>?_
 obtain⟨H,d⟩:=xU (AP (AD l));refine AB s (Jj rfl d) ?_;rintro F ⟨C,f6⟩ G ⟨D,f9⟩;refine CH (fun j=>?_) fun j=>?_
 ·exact AF (by rw[h,UL,<-d,decide_eq_false (by omega)];rfl)
 intro n a;cases n <;> conv=>cbv
 ·have m:=GD a;refine AK ?_;rintro z ⟨o,f18⟩ B g;exact AF (by have hb:b=true:=(by cases b with | false=>cases a | true=>rfl);rw[h,UL,<-d,decide_eq_true (by omega),hb,g,Bool.eq_iff_iff];simp;omega)
 have m:=GF a;refine g2 rfl ?_;exact AF (by have hb:b=false:=(by cases b with | true=>cases a | false=>rfl);rw[h,UL,<-d,decide_eq_true (by omega),hb];rfl)
theorem VH {b1 b2:Bool} {l1 l2:List UInt32} (n:c=Ez b1 l1 b2 l2) (s1:l1.length<=4000000) (s2:l2.length<=4000000):CF 96 [.agg (Bw b1 l1 b2 l2)] (.one (.bool c)):=by
 refine AG Tryz.func96 fun E j=>?_
 obtain⟨F,a⟩:=xB (FZ b1 l1);refine AB j (VN a) ?_;cases F <;> conv=>cbv
 ·exact AF (by rw[n];unfold Ez;rw[<-a];rfl)
 obtain⟨G,d⟩:=xB (FZ b2 l2);refine AB j (VN d) ?_;cases G <;> conv=>cbv
 ·exact AF (by rw[n];unfold Ez;rw[<-d];exact Bool.and_false _)
 obtain⟨x,z⟩:=JY.1 a.symm;obtain⟨y,o⟩:=JY.1 d.symm;obtain⟨H,m⟩:=xI (Cg y);refine AB j (Jh o m) ?_;refine E0 (fun s=>?_) fun s=>?_
 ·exact AF (by rw[n];exact bh o)
 obtain⟨B,C,h⟩:=Ak (((Nat.gcd x.natAbs y.natAbs:Nat):Int));refine AB j (HA z o h (by omega) (by omega)) ?_;obtain⟨D,g⟩:=xB (decide (((Nat.gcd x.natAbs y.natAbs:Nat):Int)=1));refine AB j (Iy h g) ?_;exact AF (by rw[n];exact bg a d z o (by omega) g)
end
section
open Go.RowKit
def Em (T:List LR) (A:LR):Prop:=A=[]\/∃B,CF 71 [.agg [.sl (.sl AA) T,.sl AA A]] (.agg [.sl (.sl AA) T,.sl AA B])/\CF 71 [.agg [.sl (.sl AA) T,.sl AA B]] (.agg [.sl (.sl AA) T,.sl AA A])
variable {A A0 A1 A2 A3 A4 A5 A6 A7 A8 A9 Aa vl:LR} {T0 T1 T2 T3 T4 T5 T6 T7 T8 T9 Ta:List LR} {b1 b2:Bool} {cr:List (el AQ)} {k1 kd Ah sd t:Int} {l1 l2:List UInt32} {r:Rat}
theorem Em.get {T:List LR} (h:Em T A) (a:0<A.length):∃B,CF 71 [.agg (AJ T A)] (.agg (AJ T B))/\CF 71 [.agg (AJ T B)] (.agg (AJ T A)):=
 h.resolve_left fun e=>by rw[e] at a;exact absurd a (by simp)
theorem KK (h:Cp r):El [] Rm (Re.ofRat r):=El.rat (show AU ([]:List (List Rat)) from trivial) ((MO (a:=[r]) (fun z d=>by rw[List.mem_singleton.1 d];exact h)).mono (show 64*1<=Rm by decide))
abbrev Uf:List (List Rat)->Prop:=Tf (PN [])
theorem XY {S:Nat} (a:Rm<=S) (d:S<=Sm):C3 Uf Rm Cm S:=Gv (V:=[]) (ns:=[]) (by decide) (fun n g=>by simp at g) a d
theorem g0:C3 Uf Rm Cm Rm:=XY (Nat.le_refl Rm) (by decide)
theorem Sf (h:Cp r) (a:A=em [] (Re.ofRat r)):Em [] A:=
 .inr ⟨em [] (-(Re.ofRat r)),Qb g0.toGam g0.nil rfl a (KK h) rfl,Qb g0.toGam g0.nil rfl rfl ((KK h).neg (show AU ([]:List (List Rat)) from trivial)) (by rw[a,show- -(Re.ofRat r)=Re.ofRat r by grind])⟩
theorem Rk {B:LR} {s:Rat} (h:Cp r) (a:Cp s) (d:A=em [] (Re.ofRat r)) (g:B=em [] (Re.ofRat s)) {c:Bool} (j:c=true↔Re.ofRat r=Re.ofRat s):CF 35 [.agg (AJ [] A),.agg (AJ [] B)] (.one (.bool c)):=
 VE g0 g0.nil g0.nil rfl rfl d g (KK h) (KK a) (XY (S:=2*(Rm+Cm)+1) (by decide) (by decide)) (Nat.le_refl _) j
theorem NB (T:List LR):Em T []:= .inl rfl
abbrev ES (k1:Int) (T0:List LR) (A0:LR) (T1:List LR) (A1:LR) (T2:List LR) (A2:LR) (T3:List LR) (A3:LR) (T4:List LR) (A4:LR) (T5:List LR) (A5:LR) (T6:List LR) (A6:LR) (T7:List LR) (A7:LR) (T8:List LR) (A8:LR) (T9:List LR) (A9:LR):List AC:=[.int .i64 k1,.sl (.sl AA) T0,.sl AA A0,.sl (.sl AA) T1,.sl AA A1,.sl (.sl AA) T2,.sl AA A2,.sl (.sl AA) T3,.sl AA A3,.sl (.sl AA) T4,.sl AA A4,.sl (.sl AA) T5,.sl AA A5,.sl (.sl AA) T6,.sl AA A6,.sl (.sl AA) T7,.sl AA A7,.sl (.sl AA) T8,.sl AA A8,.sl (.sl AA) T9,.sl AA A9]
theorem iZ (m:Em T3 A3):D4 Tryz.prog 120 [.one (.AR 0 0 7)] (.var 0 (ES k1 T0 A0 T1 A1 T2 A2 T3 A3 T4 A4 T5 A5 T6 A6 T7 A7 T8 A8 T9 A9)) (.AI []) (.var 0 (ES k1 T0 A0 T1 A1 T2 A2 T3 A3 T4 A4 T5 A5 T6 A6 T7 A7 T8 A8 T9 A9)):=by
 refine FI Tryz.func120 (by kernel_rfl) rfl fun E h=>?_
 refine AS ?_;rintro z ⟨s,f6⟩ o g;refine .inr ?_;cases o <;> conv=>cbv
 ·have n:=GX g;refine fun _=>⟨⟨trivial,rfl,by simp⟩,rfl⟩
 have n:=GY g;obtain⟨j,a,d⟩:=m.get (by omega);refine AB h a ?_;refine AB h d ?_;refine fun _=>⟨⟨trivial,rfl,by simp⟩,rfl⟩
theorem ic (m:Em T4 A4):D4 Tryz.prog 120 [.one (.AR 0 0 9)] (.var 0 (ES k1 T0 A0 T1 A1 T2 A2 T3 A3 T4 A4 T5 A5 T6 A6 T7 A7 T8 A8 T9 A9)) (.AI []) (.var 0 (ES k1 T0 A0 T1 A1 T2 A2 T3 A3 T4 A4 T5 A5 T6 A6 T7 A7 T8 A8 T9 A9)):=by
 refine FI Tryz.func120 (by kernel_rfl) rfl fun E h=>?_
 refine AS ?_;rintro z ⟨s,f6⟩ o g;refine .inr ?_;cases o <;> conv=>cbv
 ·have n:=GX g;refine fun _=>⟨⟨trivial,rfl,by simp⟩,rfl⟩
 have n:=GY g;obtain⟨j,a,d⟩:=m.get (by omega);refine AB h a ?_;refine AB h d ?_;refine fun _=>⟨⟨trivial,rfl,by simp⟩,rfl⟩
theorem ie (m:Em T5 A5):D4 Tryz.prog 120 [.one (.AR 0 0 11)] (.var 0 (ES k1 T0 A0 T1 A1 T2 A2 T3 A3 T4 A4 T5 A5 T6 A6 T7 A7 T8 A8 T9 A9)) (.AI []) (.var 0 (ES k1 T0 A0 T1 A1 T2 A2 T3 A3 T4 A4 T5 A5 T6 A6 T7 A7 T8 A8 T9 A9)):=by
 refine FI Tryz.func120 (by kernel_rfl) rfl fun E h=>?_
 refine AS ?_;rintro z ⟨s,f6⟩ o g;refine .inr ?_;cases o <;> conv=>cbv
 ·have n:=GX g;refine fun _=>⟨⟨trivial,rfl,by simp⟩,rfl⟩
 have n:=GY g;obtain⟨j,a,d⟩:=m.get (by omega);refine AB h a ?_;refine AB h d ?_;refine fun _=>⟨⟨trivial,rfl,by simp⟩,rfl⟩
theorem ig (m:Em T6 A6):D4 Tryz.prog 120 [.one (.AR 0 0 13)] (.var 0 (ES k1 T0 A0 T1 A1 T2 A2 T3 A3 T4 A4 T5 A5 T6 A6 T7 A7 T8 A8 T9 A9)) (.AI []) (.var 0 (ES k1 T0 A0 T1 A1 T2 A2 T3 A3 T4 A4 T5 A5 T6 A6 T7 A7 T8 A8 T9 A9)):=by
 refine FI Tryz.func120 (by kernel_rfl) rfl fun E h=>?_
 refine AS ?_;rintro z ⟨s,f6⟩ o g;refine .inr ?_;cases o <;> conv=>cbv
 ·have n:=GX g;refine fun _=>⟨⟨trivial,rfl,by simp⟩,rfl⟩
 have n:=GY g;obtain⟨j,a,d⟩:=m.get (by omega);refine AB h a ?_;refine AB h d ?_;refine fun _=>⟨⟨trivial,rfl,by simp⟩,rfl⟩
theorem ij (m:Em T7 A7):D4 Tryz.prog 120 [.one (.AR 0 0 15)] (.var 0 (ES k1 T0 A0 T1 A1 T2 A2 T3 A3 T4 A4 T5 A5 T6 A6 T7 A7 T8 A8 T9 A9)) (.AI []) (.var 0 (ES k1 T0 A0 T1 A1 T2 A2 T3 A3 T4 A4 T5 A5 T6 A6 T7 A7 T8 A8 T9 A9)):=by
 refine FI Tryz.func120 (by kernel_rfl) rfl fun E h=>?_
 refine AS ?_;rintro z ⟨s,f6⟩ o g;refine .inr ?_;cases o <;> conv=>cbv
 ·have n:=GX g;refine fun _=>⟨⟨trivial,rfl,by simp⟩,rfl⟩
 have n:=GY g;obtain⟨j,a,d⟩:=m.get (by omega);refine AB h a ?_;refine AB h d ?_;refine fun _=>⟨⟨trivial,rfl,by simp⟩,rfl⟩
theorem ik (m:Em T8 A8):D4 Tryz.prog 120 [.one (.AR 0 0 17)] (.var 0 (ES k1 T0 A0 T1 A1 T2 A2 T3 A3 T4 A4 T5 A5 T6 A6 T7 A7 T8 A8 T9 A9)) (.AI []) (.var 0 (ES k1 T0 A0 T1 A1 T2 A2 T3 A3 T4 A4 T5 A5 T6 A6 T7 A7 T8 A8 T9 A9)):=by
 refine FI Tryz.func120 (by kernel_rfl) rfl fun E h=>?_
 refine AS ?_;rintro z ⟨s,f6⟩ o g;refine .inr ?_;cases o <;> conv=>cbv
 ·have n:=GX g;refine fun _=>⟨⟨trivial,rfl,by simp⟩,rfl⟩
 have n:=GY g;obtain⟨j,a,d⟩:=m.get (by omega);refine AB h a ?_;refine AB h d ?_;refine fun _=>⟨⟨trivial,rfl,by simp⟩,rfl⟩
theorem il (m:Em T9 A9):D4 Tryz.prog 120 [.one (.AR 0 0 19)] (.var 0 (ES k1 T0 A0 T1 A1 T2 A2 T3 A3 T4 A4 T5 A5 T6 A6 T7 A7 T8 A8 T9 A9)) (.AI []) (.var 0 (ES k1 T0 A0 T1 A1 T2 A2 T3 A3 T4 A4 T5 A5 T6 A6 T7 A7 T8 A8 T9 A9)):=by
 refine FI Tryz.func120 (by kernel_rfl) rfl fun E h=>?_
 refine AS ?_;rintro z ⟨s,f6⟩ o g;refine .inr ?_;cases o <;> conv=>cbv
 ·have n:=GX g;refine fun _=>⟨⟨trivial,rfl,by simp⟩,rfl⟩
 have n:=GY g;obtain⟨j,a,d⟩:=m.get (by omega);refine AB h a ?_;refine AB h d ?_;refine fun _=>⟨⟨trivial,rfl,by simp⟩,rfl⟩
theorem YN (o:Em T3 A3) (s:Em T4 A4) (z:Em T5 A5) (B:Em T6 A6) (C:Em T7 A7) (D:Em T8 A8) (F:Em T9 A9):CF 61 [.agg (ES k1 T0 A0 T1 A1 T2 A2 T3 A3 T4 A4 T5 A5 T6 A6 T7 A7 T8 A8 T9 A9)] (.agg (ES k1 T0 A0 T1 A1 T2 A2 T3 A3 T4 A4 T5 A5 T6 A6 T7 A7 T8 A8 T9 A9)):=by
 refine AG Tryz.func61 fun E j=>?_
 refine⟨fun _=>⟨rfl,by decide,rfl⟩,?_⟩;try conv=>cbv
 intro G n;obtain rfl:G=7:=n.eq;conv=>cbv
 refine BN [] [1,2,3,22,23,24] [1,2] (fun vs H k=>∃(i m:Int),(i=0/\m=7\/i=1/\m=6\/i=2/\m=5\/i=3/\m=4\/i=4/\m=3\/i=5/\m=2\/i=6/\m=1\/i=7/\m=0)/\vs=[.one (.AR 1 0 0),.one (.AR 2 0 0),.one (.fn 120),.one (.JN [(1,0,7),(1,0,9),(1,0,11),(1,0,13),(1,0,15),(1,0,17),(1,0,19)]),.one (.int .i64 7),.one (.int .i64 i)]/\H=[.var 0 (ES k1 T0 A0 T1 A1 T2 A2 T3 A3 T4 A4 T5 A5 T6 A6 T7 A7 T8 A8 T9 A9),.var 0 [.int .i64 0,.nil,.nil,.nil,.nil,.nil,.nil,.nil,.nil,.nil,.nil,.nil,.nil,.nil,.nil,.nil,.nil,.nil,.nil,.nil,.nil]]/\k=m.toNat) 7 ⟨0,7,.inl ⟨rfl,rfl⟩,rfl,rfl,rfl⟩ ?_;rintro K d vs H J I;rcases I with⟨_,_,⟨rfl,rfl⟩ |⟨rfl,rfl⟩ |⟨rfl,rfl⟩ |⟨rfl,rfl⟩ |⟨rfl,rfl⟩ |⟨rfl,rfl⟩ |⟨rfl,rfl⟩ |⟨rfl,rfl⟩,rfl,rfl,g⟩
 ·conv=>cbv
  refine CU ?_;refine .inr ?_;refine⟨(1,0,7),fun _=>⟨by decide,rfl⟩,?_⟩;try conv=>cbv
  refine FQ 1 rfl (FY j (iZ o)) ⟨⟨⟨rfl,rfl⟩,rfl⟩,trivial⟩ ?_;refine AK ?_;intro a h;refine⟨6,?_,?_⟩
  ·rw[g];decide
  rw[d];exact⟨a,_,.inr (.inl ⟨by omega,rfl⟩),rfl,rfl,rfl⟩
 ·conv=>cbv
  refine CU ?_;refine .inr ?_;refine⟨(1,0,9),fun _=>⟨by decide,rfl⟩,?_⟩;try conv=>cbv
  refine FQ 1 rfl (FY j (ic s)) ⟨⟨⟨rfl,rfl⟩,rfl⟩,trivial⟩ ?_;refine AK ?_;intro a h;refine⟨5,?_,?_⟩
  ·rw[g];decide
  rw[d];exact⟨a,_,.inr (.inr (.inl ⟨by omega,rfl⟩)),rfl,rfl,rfl⟩
 ·conv=>cbv
  refine CU ?_;refine .inr ?_;refine⟨(1,0,11),fun _=>⟨by decide,rfl⟩,?_⟩;try conv=>cbv
  refine FQ 1 rfl (FY j (ie z)) ⟨⟨⟨rfl,rfl⟩,rfl⟩,trivial⟩ ?_;refine AK ?_;intro a h;refine⟨4,?_,?_⟩
  ·rw[g];decide
  rw[d];exact⟨a,_,.inr (.inr (.inr (.inl ⟨by omega,rfl⟩))),rfl,rfl,rfl⟩
 ·conv=>cbv
  refine CU ?_;refine .inr ?_;refine⟨(1,0,13),fun _=>⟨by decide,rfl⟩,?_⟩;try conv=>cbv
  refine FQ 1 rfl (FY j (ig B)) ⟨⟨⟨rfl,rfl⟩,rfl⟩,trivial⟩ ?_;refine AK ?_;intro a h;refine⟨3,?_,?_⟩
  ·rw[g];decide
  rw[d];exact⟨a,_,.inr (.inr (.inr (.inr (.inl ⟨by omega,rfl⟩)))),rfl,rfl,rfl⟩
 ·conv=>cbv
  refine CU ?_;refine .inr ?_;refine⟨(1,0,15),fun _=>⟨by decide,rfl⟩,?_⟩;try conv=>cbv
  refine FQ 1 rfl (FY j (ij C)) ⟨⟨⟨rfl,rfl⟩,rfl⟩,trivial⟩ ?_;refine AK ?_;intro a h;refine⟨2,?_,?_⟩
  ·rw[g];decide
  rw[d];exact⟨a,_,.inr (.inr (.inr (.inr (.inr (.inl ⟨by omega,rfl⟩))))),rfl,rfl,rfl⟩
 ·conv=>cbv
  refine CU ?_;refine .inr ?_;refine⟨(1,0,17),fun _=>⟨by decide,rfl⟩,?_⟩;try conv=>cbv
  refine FQ 1 rfl (FY j (ik D)) ⟨⟨⟨rfl,rfl⟩,rfl⟩,trivial⟩ ?_;refine AK ?_;intro a h;refine⟨1,?_,?_⟩
  ·rw[g];decide
  rw[d];exact⟨a,_,.inr (.inr (.inr (.inr (.inr (.inr (.inl ⟨by omega,rfl⟩)))))),rfl,rfl,rfl⟩
 ·conv=>cbv
  refine CU ?_;refine .inr ?_;refine⟨(1,0,19),fun _=>⟨by decide,rfl⟩,?_⟩;try conv=>cbv
  refine FQ 1 rfl (FY j (il F)) ⟨⟨⟨rfl,rfl⟩,rfl⟩,trivial⟩ ?_;refine AK ?_;intro a h;refine⟨0,?_,?_⟩
  ·rw[g];decide
  rw[d];exact⟨a,_,.inr (.inr (.inr (.inr (.inr (.inr (.inr (⟨by omega,rfl⟩))))))),rfl,rfl,rfl⟩
 conv=>cbv
 refine BH ?_;exact AE ⟨⟨rfl,rfl,rfl,rfl,rfl,rfl,rfl,rfl,rfl,rfl,rfl,rfl,rfl,rfl,rfl,rfl,rfl,rfl,rfl,rfl,rfl,rfl,trivial⟩,trivial⟩
theorem oL {P C:List Int} {V:List Ex} {AY:List Int} {k0:Int} (h:CF 10 [.agg [.int .i64 kd,.sl .i64 P,.sl .i64 C,.sl .ex V,.int .i64 sd],.one (.sl .i64 AY),.one (.int .i64 t)] (.one (.int .i64 k0))) (m:k0≠0) (hR:D4 Tryz.prog 67 [.one (.AR 0 0 0),.one (.int .i64 (-1))] (.var 0 (EH kd P C V sd vl AY Ah cr 0)) (.one (.bool true)) (.var 0 (EH kd P C V sd vl AY Ah cr 0))) (j:D4 Tryz.prog 68 [.one (.AR 0 0 0),.one (.int .i64 t)] (.var 0 (EH kd P C V sd vl AY Ah cr 0)) (.agg (ES k1 T0 A0 T1 A1 T2 A2 T3 A3 T4 A4 T5 A5 T6 A6 T7 A7 T8 A8 T9 A9)) (.var 0 (EH kd P C V sd vl AY Ah cr 0))) (g:CF 61 [.agg (ES k1 T0 A0 T1 A1 T2 A2 T3 A3 T4 A4 T5 A5 T6 A6 T7 A7 T8 A8 T9 A9)] (.agg (ES k1 T0 A0 T1 A1 T2 A2 T3 A3 T4 A4 T5 A5 T6 A6 T7 A7 T8 A8 T9 A9))):CF 21 [.agg [.int .i64 kd,.sl .i64 P,.sl .i64 C,.sl .ex V,.int .i64 sd],.one (.sl AA vl),.one (.sl .i64 AY),.one (.int .i64 Ah),.one (.int .i64 t),.one (.sl AQ cr)] (.AI [(true,(ES k1 T0 A0 T1 A1 T2 A2 T3 A3 T4 A4 T5 A5 T6 A6 T7 A7 T8 A8 T9 A9)),(false,[.int .i64 0])]):=by
 refine AG Tryz.func21 fun E d=>?_
 refine AB d h ?_;refine BO (fun a=>?_) fun a=>?_
 ·exact absurd a m
 refine FQ 22 rfl (FY d (hR)) ⟨⟨⟨rfl,rfl⟩,rfl⟩,rfl,trivial⟩ ?_;try conv=>cbv
 refine BH ?_;refine FQ 22 rfl (FY d (j)) ⟨⟨⟨rfl,rfl⟩,rfl⟩,rfl,trivial⟩ ?_;try conv=>cbv
 refine BH ?_;refine AB d g ?_;exact AE ⟨⟨rfl,rfl,rfl,rfl,rfl,rfl,rfl,rfl,rfl,rfl,rfl,rfl,rfl,rfl,rfl,rfl,rfl,rfl,rfl,rfl,rfl,rfl,trivial⟩,t2,trivial⟩
theorem oI {kd:Int} {P C:List Int} {V:List Ex} {AY:List Int} {i:Int} {r:List Int} (J:r=FU t P 0) (m:P.length<=1000000) (n:r[0]? =some i) (z:i=0\/i=1) {j0:Nat} (S:(j0:Int)=1-i) {p:Int} {p0:Nat} {x y:el AQ} (I:AO p p0) (hb:p0<=1000000) (L:cr[2*p0]? =some x) (N:cr[2*p0+1]? =some y) (G:P[j0]? =some p) {h:List LR} {g:LR} (K:vl[0]? =some ((b1,l1),b2,l2)) (D:CF 235 [.agg (Bw b1 l1 b2 l2)] (.agg (AJ Ta Aa))) (F:CF 214 [.agg (AJ Ta Aa),.agg (AJ Ta Aa)] (.AI [(true,(AJ h g)),(false,[.int .i64 0])])) {rs:Int} (H:CF 70 [.agg (AJ h g)] (.one (.int .i64 rs))) (o:rs≠0):D4 Tryz.prog 68 [.one (.AR 0 0 0),.one (.int .i64 t)] (.var 0 (EH 2 P [] V sd vl AY Ah cr 0)) (.agg [.int .i64 2,BJ,BK,BJ,BK,BJ,BK,BJ,BK,BJ,BK,.sl (.sl AA) x.1,.sl AA x.2,.sl (.sl AA) y.1,.sl AA y.2,.sl (.sl AA) h,.sl AA g,BJ,BK,BJ,BK]) (.var 0 (EH 2 P [] V sd vl AY Ah cr 0)):=by
 refine FI Tryz.func68 (by kernel_rfl) rfl fun E a=>?_
 refine AS ?_;rintro s ⟨j,f15⟩;have Q:s=0:=j;refine FJ (fun d=>?_) fun d=>?_
 ·exact absurd d (by omega)
 refine AB a (ZG m J) ?_;refine D6 n ?_;refine .inr ?_;refine BH ?_;refine CU ?_;intro O B;refine FQ 0 rfl (FY a (oM (i0:=j0) ⟨by omega⟩ I hb L N G)) ⟨⟨⟨rfl,rfl⟩,rfl⟩,rfl,trivial⟩ ?_;try conv=>cbv
 refine FQ 0 rfl (FY a (oP (BD 0) K D)) ⟨⟨⟨rfl,rfl⟩,rfl⟩,rfl,trivial⟩ ?_;try conv=>cbv
 refine FQ 0 rfl (FY a (oO F)) ⟨⟨⟨rfl,rfl⟩,rfl⟩,t2,trivial⟩ ?_;try conv=>cbv
 refine FQ 0 rfl (FY a (oG (e1:=0) (by rw[if_neg o]) H)) ⟨⟨⟨rfl,rfl⟩,rfl⟩,t4,t2,trivial⟩ ?_;try conv=>cbv
 refine fun _=>⟨⟨⟨⟨rfl,rfl,rfl,rfl,rfl,rfl,rfl,rfl,rfl,rfl,rfl,rfl,rfl,rfl,rfl,rfl,rfl,rfl,rfl,rfl,rfl,rfl,trivial⟩,trivial⟩,rfl,by simp⟩,rfl⟩
theorem qc {Tb Tc Td:List LR} {Ab Ac Ad:LR} (d:CF 35 [.agg (AJ Ta Aa),.agg (AJ Tc Ac)] (.one (.bool true))) (g:CF 35 [.agg (AJ Tb Ab),.agg (AJ Td Ad)] (.one (.bool true))):CF 19 [.agg (AH Ta Aa Tb Ab),.agg (AH Tc Ac Td Ad)] (.one (.bool true)):=by
 refine AG Tryz.func19 fun E a=>?_
 refine AB a d ?_;refine AB a g ?_;exact AE ⟨t2,trivial⟩
theorem qI {h j:Rat} {c1 c2:Bool} {m1 m2:List UInt32} (m:BY h b1 l1 c1 m1) (n:BY j b2 l2 c2 m2) (a:A1=em [] (Re.ofRat h)) (d:A2=em [] (Re.ofRat j)):CF 101 [.agg (Bw b1 l1 c1 m1),.agg (Bw b2 l2 c2 m2)] (.agg (AH [] A1 [] A2)):=by
 refine AG Tryz.func101 fun E g=>?_
 refine AB g (Kc m a) ?_;refine AB g (Kc n d) ?_;exact AE ⟨⟨rfl,rfl,rfl,rfl,rfl,trivial⟩,trivial⟩
theorem qY {x y:Int} (m: -9223372036854775808<=x/\x<9223372036854775808) (n: -9223372036854775808<=y/\y<9223372036854775808) (a:A1=em [] (Re.ofRat x)) (d:A2=em [] (Re.ofRat y)):CF 36 [.one (.int .i64 x),.one (.int .i64 y)] (.agg (AH [] A1 [] A2)):=by
 refine AG Tryz.func36 fun E g=>?_
 obtain⟨b1,l1,c1,m1,h⟩:=CA (x:Rat);refine AB g (EN m rfl h) ?_;obtain⟨b2,l2,c2,m2,j⟩:=CA (y:Rat);refine AB g (EN n rfl j) ?_;refine AB g (qI h j a d) ?_;exact AE ⟨⟨rfl,rfl,rfl,rfl,rfl,trivial⟩,trivial⟩
theorem PT:CF 9 [] (.one (.bool true)):=by
 obtain⟨A3,g⟩:=xR (em [] (Re.ofRat ((3:Int):Rat)));have G:Cp ((3:Int):Rat):=by decide +kernel
 obtain⟨A4,j⟩:=xR (em [] (Re.ofRat ((4:Int):Rat)));have H:Cp ((4:Int):Rat):=by decide +kernel
 obtain⟨A0,o⟩:=xR (em [] (Re.ofRat ((0:Int):Rat)));have U:Cp ((0:Int):Rat):=by decide +kernel
 obtain⟨B,a⟩:=xR (em [] (Re.ofRat ((25:Int):Rat)));have m:Cp ((25:Int):Rat):=by decide +kernel
 obtain⟨f1,g1,f2,g2,hf⟩:=CA (5:Rat);have I:Cp (5:Rat):=by decide +kernel
 obtain⟨A5,n⟩:=xR (em [] (Re.ofRat 5));have Q:Re.ofRat ((25:Int):Rat)=Re.ofRat 5*Re.ofRat 5:=by rw[<-Re.ofRat_mul];exact congrArg Re.ofRat (by decide +kernel)
 have L:=Qa (T:=[]) (C:=B) g0.toGam g0.nil g0.nil rfl rfl n n (KK I) (KK I) rfl (by rw[a,Q];rfl);obtain⟨J,s⟩:=xI (Bm (Re.ofRat ((25:Int):Rat)));have N:=Um (c:=J) (T1:=[]) g0.toGam g0.nil rfl a (KK m) s;have F:J≠0:=fun z=>absurd (Re.Ib.1 ((Gh.1 (s.symm.trans z)).trans Re.mD.symm)) (by decide +kernel)
 have O:=Rk (c:=true) m m a a ⟨fun _=>rfl,fun _=>rfl⟩;have c3:=Rk (c:=true) G G g g ⟨fun _=>rfl,fun _=>rfl⟩;have K:=Rk (c:=true) H H j j ⟨fun _=>rfl,fun _=>rfl⟩;have D:=oL (V:=[Ex.mk 1 ((f1,g1),(f2,g2)) ByteArray.empty []]) (sd:=0) (Ah:=2) (P:=[0,1]) (C:=[]) (AY:=[]) (t:=1) (vl:=[((f1,g1),f2,g2)]) (cr:=[((([]:List LR)),A3),((([]:List LR)),A4),((([]:List LR)),A0),((([]:List LR)),A0)]) (QZ (P:=[0,1]) (C:=[]) (AY:=[]) (t:=1) (c:=2) (by decide) rfl (fun h=>absurd h (by decide)) (fun h=>absurd h (by decide)) (by decide)) (by decide) (oN (q:=false) (b:=true) (by decide) (cj (p:=fun _=>false) (fun x S=>by simp at S) rfl) rfl) (oI (kd:=2) (C:=[]) (i:=1) (r:=[1]) (j0:=0) (p:=0) (p0:=0) (x:=([],A3)) (y:=([],A4)) (by decide) (by decide) rfl (.inr rfl) (by decide) (BD 0) (by decide) rfl rfl rfl rfl (Ul hf (aT I) n) L N F) (YN (NB _) (NB _) (Sf G g) (Sf H j) (Sf m a) (NB _) (NB _))
 refine Gs Tryz.func9 fun E d=>?_
 conv=>cbv
 refine BP d (EN (x:=5) (by decide) (by decide +kernel) hf) ?_;conv=>cbv
 refine⟨[((f1,g1),(f2,g2))],fun _=>⟨rfl,by decide,rfl,⟨rfl,by first | exact t1 | exact t2 | exact t4 | simp[BR,BV,cells],trivial⟩⟩,.inr ?_⟩;try conv=>cbv
 refine⟨[(0:Int),(1:Int)],fun _=>⟨rfl,by decide,rfl,⟨rfl,t1,⟨rfl,t1,trivial⟩⟩⟩,.inr ?_⟩;try conv=>cbv
 refine⟨((f1,g1),f2,g2),fun _=>⟨by omega,rfl⟩,?_⟩;try conv=>cbv
 refine⟨[Ex.mk 1 ((f1,g1),(f2,g2)) ByteArray.empty []],fun _=>⟨rfl,by decide,rfl,⟨rfl,⟨rfl,rfl,rfl,rfl,rfl,rfl,.inr ⟨_,rfl⟩,trivial⟩,trivial⟩⟩,.inr ?_⟩;try conv=>cbv
 refine BP d (Gq (by decide) g) ?_;conv=>cbv
 refine BP d (Gq (by decide) j) ?_;conv=>cbv
 refine BP d (Gq (by decide) o) ?_;conv=>cbv
 refine BP d (Gq (by decide) o) ?_;conv=>cbv
 refine⟨[(([]:List LR),A3),(([]:List LR),A4),(([]:List LR),A0),(([]:List LR),A0)],fun _=>⟨rfl,by decide,rfl,⟨rfl,by first | exact t1 | exact t2 | exact t4 | simp[BR,BV,cells],⟨rfl,by first | exact t1 | exact t2 | exact t4 | simp[BR,BV,cells],⟨rfl,by first | exact t1 | exact t2 | exact t4 | simp[BR,BV,cells],⟨rfl,by first | exact t1 | exact t2 | exact t4 | simp[BR,BV,cells],trivial⟩⟩⟩⟩⟩,.inr ?_⟩;try conv=>cbv
 refine cL d D ⟨⟨rfl,rfl,.inr ⟨_,rfl⟩,rfl,rfl,trivial⟩,rfl,.inr ⟨_,rfl⟩,rfl,rfl,rfl,trivial⟩ ?_;try conv=>cbv
 refine Bo ?_;refine⟨[(0:Int),(1:Int),(0:Int),(2:Int)],fun _=>⟨rfl,by decide,rfl,⟨rfl,t1,⟨rfl,t1,⟨rfl,t1,⟨rfl,t1,trivial⟩⟩⟩⟩⟩,.inr ?_⟩;try conv=>cbv
 refine⟨[(1:Int)],fun _=>⟨rfl,by decide,rfl,⟨rfl,t1,trivial⟩⟩,.inr ?_⟩;try conv=>cbv
 refine⟨[(0:Int)],fun _=>⟨rfl,by decide,rfl,⟨rfl,t1,trivial⟩⟩,.inr ?_⟩;try conv=>cbv
 refine GZ ?_;conv=>cbv
 refine GZ ?_;conv=>cbv
 refine BP d (Gq (by decide) a) ?_;conv=>cbv
 refine BP d O ?_;conv=>cbv
 refine BP d (qY (x:=3) (y:=4) (by decide) (by decide) g j) ?_;conv=>cbv
 refine BP d (qc c3 K) ?_;conv=>cbv
 refine cL d (QZ (c:=2) (P:=[0,1,0,2]) (C:=[]) (AY:=[]) (t:=0) (by decide) rfl (fun h=>absurd h (by decide)) (fun h=>absurd h (by decide)) (by decide)) ⟨⟨rfl,rfl,.inr ⟨_,rfl⟩,.inr ⟨_,rfl⟩,rfl,trivial⟩,.inr ⟨_,rfl⟩,rfl,trivial⟩ ?_;try conv=>cbv
 refine GZ ?_;conv=>cbv
 refine cL d (QZ (c:=1) (P:=[0,1,0,2]) (C:=[]) (AY:=[]) (t:=1) (by decide) rfl (fun h=>absurd h (by decide)) (fun h=>absurd h (by decide)) (by decide)) ⟨⟨rfl,rfl,.inr ⟨_,rfl⟩,.inr ⟨_,rfl⟩,rfl,trivial⟩,.inr ⟨_,rfl⟩,rfl,trivial⟩ ?_;try conv=>cbv
 refine GZ ?_;conv=>cbv
 refine⟨[(0:Int)],fun _=>⟨rfl,by decide,rfl,⟨rfl,t1,trivial⟩⟩,.inr ?_⟩;try conv=>cbv
 refine cL d (Uy (c:=true) (P:=[1]) (C:=[0]) (AY:=[0]) (t:=0) (by decide) (fun h=>absurd h (by decide)) (by decide)) ⟨⟨rfl,rfl,rfl,.inr ⟨_,rfl⟩,rfl,trivial⟩,rfl,rfl,trivial⟩ ?_;try conv=>cbv
 refine⟨[(1:Int)],fun _=>⟨rfl,by decide,rfl,⟨rfl,t1,trivial⟩⟩,.inr ?_⟩;try conv=>cbv
 refine cL d (Uy (c:=false) (P:=[1]) (C:=[0]) (AY:=[1]) (t:=0) (by decide) (fun h=>absurd h (by decide)) (by decide)) ⟨⟨rfl,rfl,rfl,.inr ⟨_,rfl⟩,rfl,trivial⟩,rfl,rfl,trivial⟩ ?_;try conv=>cbv
 refine GZ ?_;conv=>cbv
 refine Bo ?_;exact AE ⟨t2,trivial⟩
end
section
open Go.RowKit
variable {Ap Aq Ax Ay:LR} {Tp Tq Tx Ty:List LR} {f:Int}
theorem kf {tg:Nat->List LR} {ag:Nat->LR}:CF 16 [.agg [.int .i64 0,.sl (.sl AA) (tg 0),.sl AA (ag 0),.sl (.sl AA) (tg 1),.sl AA (ag 1),.sl (.sl AA) (tg 2),.sl AA (ag 2),.sl (.sl AA) (tg 3),.sl AA (ag 3),.sl (.sl AA) (tg 4),.sl AA (ag 4),.sl (.sl AA) (tg 5),.sl AA (ag 5),.sl (.sl AA) (tg 6),.sl AA (ag 6),.sl (.sl AA) (tg 7),.sl AA (ag 7),.sl (.sl AA) (tg 8),.sl AA (ag 8),.sl (.sl AA) (tg 9),.sl AA (ag 9)],.agg (AH Tx Ax Ty Ay)] (.AI [(true,(AH [] [] [] [])),(false,[.int .i64 1])]):=by
 refine AG Tryz.func16 fun E a=>?_
 refine .inr ?_;refine BH ?_;refine BH ?_;refine BH ?_;exact AE ⟨⟨rfl,AL,AL,AL,AL,trivial⟩,t2,trivial⟩
theorem kg {tg:Nat->List LR} {ag:Nat->LR} (d:CF 61 [.agg [.int .i64 3,.sl (.sl AA) (tg 0),.sl AA (ag 0),.sl (.sl AA) (tg 1),.sl AA (ag 1),.sl (.sl AA) (tg 2),.sl AA (ag 2),.sl (.sl AA) (tg 3),.sl AA (ag 3),.sl (.sl AA) (tg 4),.sl AA (ag 4),.sl (.sl AA) (tg 5),.sl AA (ag 5),.sl (.sl AA) (tg 6),.sl AA (ag 6),.sl (.sl AA) (tg 7),.sl AA (ag 7),.sl (.sl AA) (tg 8),.sl AA (ag 8),.sl (.sl AA) (tg 9),.sl AA (ag 9)]] (.agg [.int .i64 3,.sl (.sl AA) (tg 0),.sl AA (ag 0),.sl (.sl AA) (tg 1),.sl AA (ag 1),.sl (.sl AA) (tg 2),.sl AA (ag 2),.sl (.sl AA) (tg 3),.sl AA (ag 3),.sl (.sl AA) (tg 4),.sl AA (ag 4),.sl (.sl AA) (tg 5),.sl AA (ag 5),.sl (.sl AA) (tg 6),.sl AA (ag 6),.sl (.sl AA) (tg 7),.sl AA (ag 7),.sl (.sl AA) (tg 8),.sl AA (ag 8),.sl (.sl AA) (tg 9),.sl AA (ag 9)])):CF 16 [.agg [.int .i64 3,.sl (.sl AA) (tg 0),.sl AA (ag 0),.sl (.sl AA) (tg 1),.sl AA (ag 1),.sl (.sl AA) (tg 2),.sl AA (ag 2),.sl (.sl AA) (tg 3),.sl AA (ag 3),.sl (.sl AA) (tg 4),.sl AA (ag 4),.sl (.sl AA) (tg 5),.sl AA (ag 5),.sl (.sl AA) (tg 6),.sl AA (ag 6),.sl (.sl AA) (tg 7),.sl AA (ag 7),.sl (.sl AA) (tg 8),.sl AA (ag 8),.sl (.sl AA) (tg 9),.sl AA (ag 9)],.agg (AH Tx Ax Ty Ay)] (.AI [(true,[.sl (.sl AA) (tg 8),.sl AA (ag 8),.sl (.sl AA) (tg 9),.sl AA (ag 9)]),(false,[.int .i64 0])]):=by
 refine AG Tryz.func16 fun E a=>?_
 refine .inr ?_;refine CU ?_;refine AB a d ?_;exact AE ⟨⟨rfl,rfl,rfl,rfl,rfl,trivial⟩,t2,trivial⟩
theorem ke {tg:Nat->List LR} {ag:Nat->LR} (h:CF 62 [.agg [.sl (.sl AA) (tg 0),.sl AA (ag 0),.sl (.sl AA) (tg 1),.sl AA (ag 1),.sl (.sl AA) (tg 2),.sl AA (ag 2)],.agg (AH Tx Ax Ty Ay)] (.AI [(true,(AH Tp Ap Tq Aq)),(false,[.int .i64 f])])):CF 16 [.agg [.int .i64 1,.sl (.sl AA) (tg 0),.sl AA (ag 0),.sl (.sl AA) (tg 1),.sl AA (ag 1),.sl (.sl AA) (tg 2),.sl AA (ag 2),.sl (.sl AA) (tg 3),.sl AA (ag 3),.sl (.sl AA) (tg 4),.sl AA (ag 4),.sl (.sl AA) (tg 5),.sl AA (ag 5),.sl (.sl AA) (tg 6),.sl AA (ag 6),.sl (.sl AA) (tg 7),.sl AA (ag 7),.sl (.sl AA) (tg 8),.sl AA (ag 8),.sl (.sl AA) (tg 9),.sl AA (ag 9)],.agg (AH Tx Ax Ty Ay)] (.AI [(true,(AH Tp Ap Tq Aq)),(false,[.int .i64 f])]):=by
 refine AG Tryz.func16 fun E a=>?_
 refine .inr ?_;refine BH ?_;refine CU ?_;refine AB a h ?_;exact AE ⟨⟨rfl,rfl,rfl,rfl,rfl,trivial⟩,t2,trivial⟩
theorem X7 {tg:Nat->List LR} {ag:Nat->LR} (h:CF 63 [.agg [.sl (.sl AA) (tg 5),.sl AA (ag 5),.sl (.sl AA) (tg 6),.sl AA (ag 6),.sl (.sl AA) (tg 7),.sl AA (ag 7)],.agg (AH Tx Ax Ty Ay)] (.AI [(true,(AH Tp Ap Tq Aq)),(false,[.int .i64 f])])):CF 16 [.agg [.int .i64 2,.sl (.sl AA) (tg 0),.sl AA (ag 0),.sl (.sl AA) (tg 1),.sl AA (ag 1),.sl (.sl AA) (tg 2),.sl AA (ag 2),.sl (.sl AA) (tg 3),.sl AA (ag 3),.sl (.sl AA) (tg 4),.sl AA (ag 4),.sl (.sl AA) (tg 5),.sl AA (ag 5),.sl (.sl AA) (tg 6),.sl AA (ag 6),.sl (.sl AA) (tg 7),.sl AA (ag 7),.sl (.sl AA) (tg 8),.sl AA (ag 8),.sl (.sl AA) (tg 9),.sl AA (ag 9)],.agg (AH Tx Ax Ty Ay)] (.AI [(true,(AH Tp Ap Tq Aq)),(false,[.int .i64 f])]):=by
 refine AG Tryz.func16 fun E a=>?_
 refine .inr ?_;refine BH ?_;refine BH ?_;refine CU ?_;refine AB a h ?_;exact AE ⟨⟨rfl,rfl,rfl,rfl,rfl,trivial⟩,t2,trivial⟩
theorem qK {tg:Nat->List LR} {ag:Nat->LR}:CF 17 [.agg [.int .i64 0,.sl (.sl AA) (tg 0),.sl AA (ag 0),.sl (.sl AA) (tg 1),.sl AA (ag 1),.sl (.sl AA) (tg 2),.sl AA (ag 2),.sl (.sl AA) (tg 3),.sl AA (ag 3),.sl (.sl AA) (tg 4),.sl AA (ag 4),.sl (.sl AA) (tg 5),.sl AA (ag 5),.sl (.sl AA) (tg 6),.sl AA (ag 6),.sl (.sl AA) (tg 7),.sl AA (ag 7),.sl (.sl AA) (tg 8),.sl AA (ag 8),.sl (.sl AA) (tg 9),.sl AA (ag 9)],.agg (AH Tx Ax Ty Ay)] (.AI [(true,(AH [] [] [] [])),(false,[.int .i64 1])]):=by
 refine AG Tryz.func17 fun E a=>?_
 refine .inr ?_;refine BH ?_;refine BH ?_;refine BH ?_;exact AE ⟨⟨rfl,AL,AL,AL,AL,trivial⟩,t2,trivial⟩
theorem qL {tg:Nat->List LR} {ag:Nat->LR}:CF 17 [.agg [.int .i64 3,.sl (.sl AA) (tg 0),.sl AA (ag 0),.sl (.sl AA) (tg 1),.sl AA (ag 1),.sl (.sl AA) (tg 2),.sl AA (ag 2),.sl (.sl AA) (tg 3),.sl AA (ag 3),.sl (.sl AA) (tg 4),.sl AA (ag 4),.sl (.sl AA) (tg 5),.sl AA (ag 5),.sl (.sl AA) (tg 6),.sl AA (ag 6),.sl (.sl AA) (tg 7),.sl AA (ag 7),.sl (.sl AA) (tg 8),.sl AA (ag 8),.sl (.sl AA) (tg 9),.sl AA (ag 9)],.agg (AH Tx Ax Ty Ay)] (.AI [(true,[.sl (.sl AA) (tg 8),.sl AA (ag 8),.sl (.sl AA) (tg 9),.sl AA (ag 9)]),(false,[.int .i64 0])]):=by
 refine AG Tryz.func17 fun E a=>?_
 refine .inr ?_;refine CU ?_;exact AE ⟨⟨rfl,rfl,rfl,rfl,rfl,trivial⟩,t2,trivial⟩
theorem qJ {tg:Nat->List LR} {ag:Nat->LR} (h:CF 64 [.agg [.sl (.sl AA) (tg 0),.sl AA (ag 0),.sl (.sl AA) (tg 1),.sl AA (ag 1),.sl (.sl AA) (tg 2),.sl AA (ag 2)],.agg (AH Tx Ax Ty Ay)] (.AI [(true,(AH Tp Ap Tq Aq)),(false,[.int .i64 f])])):CF 17 [.agg [.int .i64 1,.sl (.sl AA) (tg 0),.sl AA (ag 0),.sl (.sl AA) (tg 1),.sl AA (ag 1),.sl (.sl AA) (tg 2),.sl AA (ag 2),.sl (.sl AA) (tg 3),.sl AA (ag 3),.sl (.sl AA) (tg 4),.sl AA (ag 4),.sl (.sl AA) (tg 5),.sl AA (ag 5),.sl (.sl AA) (tg 6),.sl AA (ag 6),.sl (.sl AA) (tg 7),.sl AA (ag 7),.sl (.sl AA) (tg 8),.sl AA (ag 8),.sl (.sl AA) (tg 9),.sl AA (ag 9)],.agg (AH Tx Ax Ty Ay)] (.AI [(true,(AH Tp Ap Tq Aq)),(false,[.int .i64 f])]):=by
 refine AG Tryz.func17 fun E a=>?_
 refine .inr ?_;refine BH ?_;refine CU ?_;refine AB a h ?_;exact AE ⟨⟨rfl,rfl,rfl,rfl,rfl,trivial⟩,t2,trivial⟩
theorem cM {tg:Nat->List LR} {ag:Nat->LR} (h:CF 65 [.agg [.sl (.sl AA) (tg 5),.sl AA (ag 5),.sl (.sl AA) (tg 6),.sl AA (ag 6),.sl (.sl AA) (tg 7),.sl AA (ag 7)],.agg (AH Tx Ax Ty Ay)] (.AI [(true,(AH Tp Ap Tq Aq)),(false,[.int .i64 f])])):CF 17 [.agg [.int .i64 2,.sl (.sl AA) (tg 0),.sl AA (ag 0),.sl (.sl AA) (tg 1),.sl AA (ag 1),.sl (.sl AA) (tg 2),.sl AA (ag 2),.sl (.sl AA) (tg 3),.sl AA (ag 3),.sl (.sl AA) (tg 4),.sl AA (ag 4),.sl (.sl AA) (tg 5),.sl AA (ag 5),.sl (.sl AA) (tg 6),.sl AA (ag 6),.sl (.sl AA) (tg 7),.sl AA (ag 7),.sl (.sl AA) (tg 8),.sl AA (ag 8),.sl (.sl AA) (tg 9),.sl AA (ag 9)],.agg (AH Tx Ax Ty Ay)] (.AI [(true,(AH Tp Ap Tq Aq)),(false,[.int .i64 f])]):=by
 refine AG Tryz.func17 fun E a=>?_
 refine .inr ?_;refine BH ?_;refine BH ?_;refine CU ?_;refine AB a h ?_;exact AE ⟨⟨rfl,rfl,rfl,rfl,rfl,trivial⟩,t2,trivial⟩
end
section
section
variable {P:List (List Rat)->Prop} {R0:Nat}
theorem lI {α:Type} {Q:α->Prop} {f:α->Nat} {m:Nat} (hm:∀a,Q a->f a<=m) {a:α} (ha:Q a):∃b,Q b/\∀c,Q c->f c<=f b:=by
 induction h:m-f a using Nat.strongRecOn generalizing a with
 | _ n o=>
  by_cases g:∀c,Q c->f c<=f a
  ·exact⟨a,ha,g⟩
  obtain⟨c,j⟩:=Classical.not_forall.1 g;obtain⟨d,h3⟩:=Classical.not_imp.1 j;have:=hm c d;exact o (m-f c) (by omega) d rfl
theorem Tf.top (I:CD P R0) {m:Nat} (hm:∀{u},Tf P u->u.length<=m):∃w,Tf P w/\∀{u},Tf P u->BT u w:=by
 obtain⟨w,hw,C⟩:=lI (Q:=Tf P) (f:=List.length) (fun u h=>hm h) Tf.nil;have n:=hw.red I
 have key:∀{u},P u->BT u w:=by
  intro u
  induction u with
  | nil=>exact fun _=>Kz w
  | cons r u j=>
   intro a;have d:=j (I.sub a);have z:=I.red a;refine I6 n d ?_
   have g:Sq w (AM u r):=by
    apply Classical.byContradiction;intro B;have:=C _ (Tf.BC hw a d);rw[DG B,List.length_cons] at this;omega
   exact (KQ (by have:=z.2.2.1;grind)).1 g
 refine⟨w,hw,fun {u} h=>?_⟩
 induction h with
 | nil=>exact Kz w
 | @BC u o s ht a d j=>
  by_cases g:Sq u (AM s o)
  ·rw[Df g];exact j
  rw[DG g];refine I6 n j ?_;rw[Ik (d _ (B9 (I.red a)))];exact key a _ (IU s o)
end
theorem El.down {u:List (List Rat)} {s:Nat} {x:Re} (g:In u x):∀{v:List (List Rat)},AU (v++u)->El (v++u) s x->El u s x
 | [],_,h=>h
 | r::v,d,h=>by
  have a:In (v++u) x:=Mk v x g;refine El.down g (v:=v) d.1 ⟨a,?_⟩;obtain⟨D,d0,d1,d2,d3⟩:=h.bd;have e:co (r::(v++u)) x=co (v++u) x++co (v++u) 0:=DB d a (CN _) (by grind);rw[List.cons_append,e] at d2 d3;exact⟨D,d0,d1,(DN.app.1 d2).1,(MX.app.1 d3).1⟩
structure Fm (TT:List (List Rat)->Prop) (w:List (List Rat)) (R b c M q p:Nat):Prop where
 Rw:∀{S},R<=S->S<=M*b->C3 TT R (c*b) S
 top:TT w
 all:∀{u},TT u->BT u w
 hR:R<=c*b
 hb:64<=b
 YZ:∀{x y s t},El w s x->El w t y->El w (s+t+b) (x*y)
 kS:∀{x y s},El w s x->In w y->x*y=1->El w (q*s+p*b) y
 iu:∀{u},TT u->II u.length R (M*b)<=60000000000000
def Nm (TT:List (List Rat)->Prop) (w:List (List Rat)) (b k:Nat) (T:List (List (el AA))) (A:List (el AA)) (x:Re):Prop:=∃u,TT u/\T=tw u/\A=em u x/\In u x/\El w (k*b) x
section
variable {TT:List (List Rat)->Prop} {w:List (List Rat)} {R b c M q p k l:Nat} {T T1 T2:List (List (el AA))} {A A1 A2:List (el AA)} {x y:Re}
theorem Fm.g (F:Fm TT w R b c M q p) (h:k<=M) (a:c<=k):C3 TT R (c*b) (k*b):=F.Rw (Nat.le_trans F.hR (Nat.mul_le_mul_right b a)) (Nat.mul_le_mul_right b h)
theorem Fm.own (F:Fm TT w R b c M q p) (z:c<=M) (h:Nm TT w b k T A x):∃u,TT u/\T=tw u/\A=em u x/\In u x/\El w (k*b) x/\El u ((k+c)*b) x:=by
 obtain⟨u,hu,B,s,n,he⟩:=h;refine⟨u,hu,B,s,n,he,?_⟩;have G:=(F.g z (Nat.le_refl c)).toGam;obtain⟨j,C,h3⟩:=G.Bk hu F.top;have a:=G.CL F.top j h3 he;rw[<-Nat.add_mul] at a;rw[kT] at j a;have d:=(G.BG j).red;unfold Eb at a d
 split at a
 ·exact a
 rename_i o
 rw[if_neg o] at d
 split at a
 ·rename_i m
  obtain⟨v,rfl⟩:=m;exact El.down n (G.BG F.top).red a
 rename_i m
 rw[if_neg m] at d;obtain⟨v,e⟩:=Oy u w;rw[<-e] at a d;exact El.down n d a
theorem Nm.mono (h:Nm TT w b k T A x) (m:k<=l):Nm TT w b l T A x:=by
 obtain⟨u,a,d,h3,g,j⟩:=h;exact⟨u,a,d,h3,g,j.mono (Nat.mul_le_mul_right b m)⟩
theorem Nm.cast (h:Nm TT w b k T A x) (e:x=y):Nm TT w b k T A y:=e ▸ h
theorem Fm.two (F:Fm TT w R b c M q p) (ha:Nm TT w b k T1 A1 x) (hb:Nm TT w b l T2 A2 y) (J:k+c+1<=M) (K:l+c+1<=M):∃u v j,j<=M/\(j=k+c+1\/j=l+c+1)/\TT u/\TT v/\T1=tw u/\T2=tw v/\A1=em u x/\A2=em v y/\In u x/\In v y/\El w (k*b) x/\El w (l*b) y/\El u (j*b) x/\El v (j*b) y/\C3 TT R (c*b) (j*b)/\TT (Bk u v)/\BT u (Bk u v)/\BT v (Bk u v):=by
 obtain⟨u,hu,m,a,L,s,o⟩:=F.own (by omega) ha;obtain⟨v,D,n,d,N,B,z⟩:=F.own (by omega) hb
 have key:∀j,j<=M->(j=k+c+1\/j=l+c+1)->k+c+1<=j->l+c+1<=j->∃u v j,j<=M/\(j=k+c+1\/j=l+c+1)/\TT u/\TT v/\T1=tw u/\T2=tw v/\A1=em u x/\A2=em v y/\In u x/\In v y/\El w (k*b) x/\El w (l*b) y/\El u (j*b) x/\El v (j*b) y/\C3 TT R (c*b) (j*b)/\TT (Bk u v)/\BT u (Bk u v)/\BT v (Bk u v):=by
  intro j C I h3 O;have G:=F.g C (by omega);obtain⟨g1,g2,H⟩:=G.toGam.Bk hu D;exact⟨u,v,j,C,I,hu,D,m,n,a,d,L,N,s,B,o.mono (Nat.mul_le_mul_right b (by omega)),z.mono (Nat.mul_le_mul_right b (by omega)),G,g1,g2,H⟩
 by_cases h:k<=l
 ·exact key (l+c+1) K (.inr rfl) (by omega) (Nat.le_refl _)
 exact key (k+c+1) J (.inl rfl) (Nat.le_refl _) (by omega)
end
end
section
open Go.RowKit
section
variable {TT:List (List Rat)->Prop} {w:List (List Rat)} {R b c M q p k l:Nat} {T1 T2:List LR} {A1 A2:LR} {x y:Re}
theorem Nm.data {A3:LR} (h:Nm TT w b k T1 A1 x) (g:Nm TT w b l T1 A3 y) (e:x=y):A1=A3:=by
 obtain⟨u,_,m,j,_⟩:=h;obtain⟨v,_,d,a,_⟩:=g;rw[j,a,e,KU (m.symm.trans d)]
theorem HS (F:Fm TT w R b c M q p) (ha:Nm TT w b k T1 A1 x) (hb:Nm TT w b l T2 A2 y) (C:k+c+1<=M:=by omega) (D:l+c+1<=M:=by omega):∃T A,Nm TT w b (k+l+1) T A (x+y)/\CF 233 [.agg (AJ T1 A1),.agg (AJ T2 A2)] (.AI [(true,(AJ T A)),(false,[.int .i64 0])])/\CF 59 [.agg (AJ T1 A1),.agg (AJ T2 A2)] (.AI [(true,(AJ T A)),(false,[.int .i64 0])]):=by
 obtain⟨u,v,j,J,_,hu,z,g,h,a,d,H,I,o,s,m,n,G,g1,g2,B⟩:=F.two ha hb C D;refine⟨_,_,⟨Bk u v,g1,rfl,rfl,DR (g2 _ H) (B _ I),(o.add (G.BG F.top).red s).mono ?_⟩,dM G.toGam hu z g h a d m n rfl rfl,Qi G hu z g h a d m n rfl rfl⟩;have:=F.hb;rw[Nat.add_mul,Nat.add_mul];omega
theorem Ia (F:Fm TT w R b c M q p) (ha:Nm TT w b k T1 A1 x) (hb:Nm TT w b l T2 A2 y) (C:k+c+1<=M:=by omega) (D:l+c+1<=M:=by omega):∃T A,Nm TT w b (k+l+1) T A (x-y)/\CF 165 [.agg (AJ T1 A1),.agg (AJ T2 A2)] (.AI [(true,(AJ T A)),(false,[.int .i64 0])])/\CF 88 [.agg (AJ T1 A1),.agg (AJ T2 A2)] (.AI [(true,(AJ T A)),(false,[.int .i64 0])]):=by
 obtain⟨u,v,j,J,_,hu,z,g,h,a,d,H,I,o,s,m,n,G,g1,g2,B⟩:=F.two ha hb C D;refine⟨_,_,⟨Bk u v,g1,rfl,rfl,E5 (g2 _ H) (B _ I),(o.sub (G.BG F.top).red s).mono ?_⟩,dR G.toGam hu z g h a d m n rfl rfl,Ql G hu z g h a d m n rfl rfl⟩;have:=F.hb;rw[Nat.add_mul,Nat.add_mul];omega
theorem Eu (F:Fm TT w R b c M q p) (ha:Nm TT w b k T1 A1 x) (hb:Nm TT w b l T2 A2 y) (C:k+c+1<=M:=by omega) (D:l+c+1<=M:=by omega):∃T A,Nm TT w b (k+l+1) T A (x*y)/\CF 214 [.agg (AJ T1 A1),.agg (AJ T2 A2)] (.AI [(true,(AJ T A)),(false,[.int .i64 0])])/\CF 47 [.agg (AJ T1 A1),.agg (AJ T2 A2)] (.AI [(true,(AJ T A)),(false,[.int .i64 0])]):=by
 obtain⟨u,v,j,J,_,hu,z,g,h,a,d,H,I,o,s,m,n,G,g1,g2,B⟩:=F.two ha hb C D;refine⟨_,_,⟨Bk u v,g1,rfl,rfl,Ag (G.BG g1).red (g2 _ H) (B _ I),(F.YZ o s).mono ?_⟩,Qa G.toGam hu z g h a d m n rfl rfl,Qj G hu z g h a d m n rfl rfl⟩;have:=F.hb;rw[Nat.add_mul,Nat.add_mul];omega
theorem KB (F:Fm TT w R b c M q p) (ha:Nm TT w b k T1 A1 x) (n:k+c+1<=M:=by omega):∃A,Nm TT w b k T1 A (-x)/\CF 71 [.agg (AJ T1 A1)] (.agg (AJ T1 A))/\CF 33 [.agg (AJ T1 A1)] (.agg (AJ T1 A)):=by
 obtain⟨u,hu,d,h,o,m,j⟩:=F.own (by omega) ha;have G:=F.g n (by omega);have a:=j.mono (Nat.mul_le_mul_right b (Nat.le_succ (k+c)));exact⟨_,⟨u,hu,d,rfl,F5 o,m.neg (G.BG F.top).red⟩,Qb G.toGam hu d h a rfl,N6 G hu d h a rfl⟩
theorem GH (F:Fm TT w R b c M q p) (ha:Nm TT w b k T1 A1 x) (m:k+c+1<=M:=by omega):∃s:Int,s=Bm x/\CF 70 [.agg (AJ T1 A1)] (.one (.int .i64 s))/\CF 24 [.agg (AJ T1 A1)] (.one (.int .i64 s)):=by
 obtain⟨u,hu,h,d,o,n,j⟩:=F.own (by omega) ha;have G:=F.g m (by omega);have a:=j.mono (Nat.mul_le_mul_right b (Nat.le_succ (k+c)));exact⟨_,rfl,Um G.toGam hu h d a rfl,Kd G hu h d a rfl⟩
theorem Yq (F:Fm TT w R b c M q p) (ha:Nm TT w b k T1 A1 x) (j:k+c+1<=M):CF 137 [.agg (AJ T1 A1)] (.one (.bool true)):=by
 obtain⟨u,hu,d,a,n,m,h⟩:=F.own (by omega) ha;exact eR (F.g j (by omega)) hu d a (h.mono (Nat.mul_le_mul_right b (Nat.le_succ (k+c))))
theorem Fm.pair (F:Fm TT w R b c M q p) {j:Nat} (h:2*j+2*c+1<=M):C3 TT R (c*b) ((2*j+2*c+1)*b)/\2*(j*b+c*b)+1<=(2*j+2*c+1)*b:=by
 refine⟨F.g h (by omega),?_⟩;have:=F.hb;rw[Nat.add_mul,Nat.add_mul,Nat.mul_assoc,Nat.mul_assoc];omega
theorem Pd (F:Fm TT w R b c M q p) (ha:Nm TT w b k T1 A1 x) (hb:Nm TT w b l T2 A2 y) (J:2*k+4*c+3<=M:=by omega) (K:2*l+4*c+3<=M:=by omega):∃e:Bool,(e=true↔x=y)/\CF 221 [.agg (AJ T1 A1),.agg (AJ T2 A2)] (.one (.bool e))/\CF 35 [.agg (AJ T1 A1),.agg (AJ T2 A2)] (.one (.bool e)):=by
 obtain⟨u,v,j,I,B,hu,o,g,h,a,d,L,N,C,D,m,n,G,g1,g2,H⟩:=F.two ha hb (by omega) (by omega);obtain⟨s,z⟩:=F.pair (j:=j) (by omega);obtain⟨e,he⟩:=EO (x=y);exact⟨e,he,dO G.toGam hu o g h a d m n he,VE G hu o g h a d m n s z he⟩
theorem JI (F:Fm TT w R b c M q p) (ha:Nm TT w b k T1 A1 x) (hb:Nm TT w b l T2 A2 y) {d:Nat} (W:q*l+p<=d) (H:y≠0) (hk:k+c+1<=M:=by omega) (hl:l+c+1<=M:=by omega) (hi:d+c+1<=M:=by omega):∃T A,Nm TT w b (k+d+1) T A (x*BU y)/\CF 224 [.agg (AJ T1 A1),.agg (AJ T2 A2)] (.AI [(true,(AJ T A)),(false,[.int .i64 0])])/\CF 81 [.agg (AJ T1 A1),.agg (AJ T2 A2)] (.AI [(true,(AJ T A)),(false,[.int .i64 0])]):=by
 obtain⟨u,hu,o,j,Y,L,K⟩:=F.own (by omega) ha;obtain⟨v,h,s,m,Z,O,N⟩:=F.own (by omega) hb;have G:=F.g (Nat.le_refl M) (by omega);obtain⟨g1,g2,S⟩:=G.toGam.Bk hu h;have a:=O9 (G.BG h).red Z H
 have B:El w (d*b) (BU y):=(F.kS O (F.all h _ a) (Ga H)).mono (by
  have U:=Nat.mul_le_mul_right b W;rw[Nat.add_mul,Nat.mul_assoc] at U;omega)
 obtain⟨Q,X,I,V,_,_,J⟩:=F.own (by omega) (show Nm TT w b d (tw v) (em v (BU y)) (BU y) from⟨v,h,rfl,rfl,a,B⟩);have ev:Q=v:=(KU I).symm;subst ev;have n:II Q.length R (M*b)<=60000000000000:=F.iu h;have C:=K.mono (Nat.mul_le_mul_right b (show k+c<=M by omega));have D:=N.mono (Nat.mul_le_mul_right b (show l+c<=M by omega));have z:=J.mono (Nat.mul_le_mul_right b (show d+c<=M by omega));refine⟨_,_,⟨Bk u Q,g1,rfl,rfl,Ag (G.BG g1).red (g2 _ Y) (S _ a),(F.YZ L B).mono ?_⟩,dN G.toGam hu h o s j m C D a (Ga H) z n rfl rfl,VD G hu h o s j m C D a (Ga H) z n rfl rfl⟩;rw[Nat.add_mul,Nat.add_mul,Nat.one_mul];omega
end
end
end Go.Abs
