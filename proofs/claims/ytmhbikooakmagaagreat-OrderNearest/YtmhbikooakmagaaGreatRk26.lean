/- Part 27 of a proof. Conditions: each theorem's own. -/
import Derived.Test.YtmhbikooakmagaaGreatRk25
set_option linter.all false
set_option maxHeartbeats 8000000
set_option maxRecDepth 20000
open Go.Proofs
namespace Go.Abs
open Go.RowKit
theorem CJ {f:FuncId} {fn:Func} (a:Tryz.prog.funcs[f]? =some fn) {args:List AV} {r:AV} (h:∀E,env Tryz.prog=E->La E fn r none (Cw fn.ntmps args none)) (b:FD fn=true:=by kernel_rfl) (c:(Ih args&&(r.all CB&&(r.wf&&Nat.ble args.length fn.ntmps)))=true:=by rfl):E8 Tryz.prog false f args r:=dz a b c h
theorem DA {f:FuncId} {fn:Func} (b:Tryz.prog.funcs[f]? =some fn) {a:AL} {args:List AV} {r:AV} (h:∀E,env Tryz.prog=E->QG E fn r a (Cw fn.ntmps args (some a))) (c:FD fn=true:=by kernel_rfl) (d:(IQ args&&(r.all BB&&(a.lone&&(Nat.ble args.length fn.ntmps&&Nat.ble 1 fn.ntmps))))=true:=by rfl):Bv Tryz.prog f args a r:=gE b c d h
theorem BG {ops:List Oper} {tr:Tr} {C:Prop} (h:C) (a:Ro ops tr=true:=by kernel_rfl):(Unit->Ia ops tr=true)/\C:=⟨fun _=>kA a,h⟩
end Go.Abs
namespace Go.Abs
theorem dL {E:Env} {g:FuncId} {args:List AV} {r:AV} {B:Nat->AL->List AV->Prop} {S:AL->AL} {K:Nat->AV->Prop} {c d f j:Prop} (id:Nat) (b:AL) (k:env Tryz.prog=E) (h:Bv Tryz.prog g args (S b) r) (hb:B id b args) (l:K id r):
 c\/d\/f\/(∃(id:Nat) (b:AL) (a:List AV) (r:AV),(Unit->B id b a)/\(Unit->E.D g a (S b) r)/\K id r)\/j:= .inr (.inr (.inr (.inl ⟨id,b,args,r,fun _=>hb,fun _=>F2 k h,l⟩)))
end Go.Abs
namespace Go.Abs
section
variable {α:Type} [Lean.Grind.CommRing α]
def DV:Nat->(Nat->α)->α
 | 0,_=>0
 | n+1,f=>DV n f+f n
theorem Oy {f g:Nat->α}:∀{n:Nat},(∀i,i<n->f i=g i)->DV n f=DV n g
 | 0,_=>rfl
 | n+1,h=>by rw[DV,DV,Oy (n:=n) (fun i hi=>h i (by omega)),h n (by omega)]
theorem Zm (f:Nat->α) (m:Nat):∀n,DV (m+n) f=DV m f+DV n (fun i=>f (m+i))
 | 0=>by rw[DV,Nat.add_zero];grind
 | n+1=>by rw[<-Nat.add_assoc,DV,DV,Zm f m n];grind
theorem Zn (c:α) (f:Nat->α):∀n,c*DV n f=DV n (fun i=>c*f i)
 | 0=>by rw[DV,DV];grind
 | n+1=>by rw[DV,DV,<-Zn c f n];grind
theorem Zo:∀n,DV n (fun _=>(0:α))=0
 | 0=>rfl
 | n+1=>by rw[DV,Zo n];grind
end
noncomputable def cf (u:List (List Rat)) (x:Re) (i:Nat):Rat:=(co u x).getD i 0
section
variable {u w:List (List Rat)} {x y:Re}
theorem fa (h:AT u) (a:In u x) (b:In u y) (i:Nat):cf u (x+y) i=cf u x i+cf u y i:=by
 unfold cf;rw[Le h a b];have l1:=CU a;have l2:=CU b;simp only[List.getD_eq_getElem?_getD,List.getElem?_zipWith]
 by_cases hi:i<2^u.length
 ·rw[List.getElem?_eq_getElem (by omega:i<(co u x).length),List.getElem?_eq_getElem (by omega:i<(co u y).length)];rfl
 rw[List.getElem?_eq_none (by omega:(co u x).length<=i),List.getElem?_eq_none (by omega:(co u y).length<=i)]
 show (0:Rat)=0+0
 grind
theorem fb (h:AT u) (a:In u x) (c:Rat) (i:Nat):cf u (Re.ofRat c*x) i=c*cf u x i:=by
 unfold cf;rw[QU h a];simp only[List.getD_eq_getElem?_getD,List.getElem?_map];cases (co u x)[i]? with
 | none=>show (0:Rat)=c*0;grind
 | some q=>rfl
theorem fc (h:AT u) (i:Nat):cf u 0 i=0:=by
 have:=fb h (Bx u) 0 i;rw[show Re.ofRat 0*0=(0:Re) by grind] at this;rw[this];grind
theorem JB {r:List Rat} {p q:Re} (h:AT (r::u)) (a:In u p) (b:In u q) (e:x=p+q*rt u r) {i:Nat} (hi:i<2^u.length):cf (r::u) x i=cf u p i:=by
 unfold cf;rw[Cz h a b e,List.getD_eq_getElem?_getD,List.getD_eq_getElem?_getD,List.getElem?_append_left (by rw[CU a];exact hi)]
theorem JA {r:List Rat} {p q:Re} (h:AT (r::u)) (a:In u p) (b:In u q) (e:x=p+q*rt u r) (i:Nat):cf (r::u) x (2^u.length+i)=cf u q i:=by
 unfold cf;rw[Cz h a b e,List.getD_eq_getElem?_getD,List.getD_eq_getElem?_getD,List.getElem?_append_right (by rw[CU a];omega),CU a,Nat.add_sub_cancel_left]
noncomputable def bb:List (List Rat)->Nat->Re
 | [],_=>1
 | r::u,i=>if i<2^u.length then bb u i else bb u (i-2^u.length)*rt u r
theorem ez {r:List Rat} {i:Nat} (hi:i<2^u.length):bb (r::u) i=bb u i:=if_pos hi
theorem et {r:List Rat} (i:Nat):bb (r::u) (2^u.length+i)=bb u i*rt u r:=by
 rw[bb,if_neg (by omega),Nat.add_sub_cancel_left]
theorem expand:∀{u:List (List Rat)} {x:Re},AT u->In u x->x=DV (2^u.length) (fun i=>Re.ofRat (cf u x i)*bb u i)
 | [],x,h,c=>by
  obtain⟨q,rfl⟩:=CN.1 c
  show _=DV 1 _
  rw[DV,DV]
  show _=0+Re.ofRat (cf [] (Re.ofRat q) 0)*1
  rw[cf,CQ]
  show _=0+Re.ofRat q*1
  grind
 | r::u,x,h,c=>by
  obtain⟨p,q,a,b,e⟩:=CW.1 c
  rw[Bk,Zm,Oy (g:=fun i=>Re.ofRat (cf u p i)*bb u i) (fun i hi=>by rw[JB h a b e hi,ez hi]),
   Oy (f:=fun i=>Re.ofRat (cf (r::u) x (2^u.length+i))*bb (r::u) (2^u.length+i)) (g:=fun i=>rt u r*(Re.ofRat (cf u q i)*bb u i)) (fun i hi=>by rw[JA h a b e,et];grind),<-Zn,<-expand h.1 a,<-expand h.1 b,e]
  grind
noncomputable def tr (u:List (List Rat)) (x:Re):Rat:=DV (2^u.length) (fun i=>cf u (x*bb u i) i)
end
end Go.Abs
namespace Go.Abs
def EV:List (List Rat)->Nat->Re->Prop
 | [],_,_=>False
 | r::t,i,v=>(i<2^t.length/\EV t i v)\/(2^t.length<=i/\(v=AM t r\/EV t (i-2^t.length) v))
variable {i:Nat} {r:List Rat} {t u:List (List Rat)} {v x:Re}
theorem Qs:∀{t:List (List Rat)} {i:Nat} {v:Re},EV t i v->v∈Aq t
 | r::t,i,v,h=>by
  rw[Aq];rcases h with⟨_,h⟩ |⟨_,h | h⟩
  ·exact List.mem_cons_of_mem _ (Qs h)
  ·exact h ▸ List.mem_cons_self
  exact List.mem_cons_of_mem _ (Qs h)
theorem HE (hi:i<2^t.length):EV (r::t) i v↔EV t i v:=
 ⟨fun h=>h.elim (·.2) fun h=>absurd h.1 (by omega),fun h=> .inl ⟨hi,h⟩⟩
theorem HD:EV (r::t) (2^t.length+i) v↔v=AM t r\/EV t i v:=
 ⟨fun h=>h.elim (fun h=>absurd h.1 (by omega)) fun h=>by have:=h.2;rwa [Nat.add_sub_cancel_left] at this,fun h=> .inr ⟨by omega,by rwa [Nat.add_sub_cancel_left]⟩⟩
theorem ow (h:AT u) (b:In u x) (a:∀i,i<2^u.length->cf u x i=0):x=0:=by
 rw[expand h b,Oy (g:=fun _=>(0:Re)) (fun i hi=>by rw[a i hi,show Re.ofRat 0=(0:Re) from rfl];grind)];exact Zo _
theorem RN:∀{t:List (List Rat)} {v y:Re},AT t->v∈Aq t->In t y->(∀i,i<2^t.length->EV t i v->cf t y i=0)->
  ∀i,i<2^t.length->(EV t i v->∃j,j<2^t.length/\¬EV t j v/\cf t (y*Re.sqrt v) i=cf t y j/\∀z,z≠v->EV t i z->EV t j z)/\(¬EV t i v->cf t (y*Re.sqrt v) i=0)
 | r::t,v,y,h,K,L,H,i,hi=>by
  obtain⟨p,q,l,o,e⟩:=CW.1 L;have G:=Hw h;rw[Aq,List.nodup_cons] at G;rw[Bk] at H hi
  by_cases f:v=AM t r
  ·have J:∀{j},¬EV t j v:=fun {j} g=>G.1 (f ▸ Qs g)
   have I:q=0:=ow h.1 o fun j g=>by
    rw[<-JA h l o e j];exact H _ (by omega) (HD.2 (.inl f))
   have A:y*Re.sqrt v=0+p*rt t r:=by
    show _=0+p*Re.sqrt (AM t r)
    rw[e,I,f];grind
   by_cases m:i<2^t.length
   ·exact⟨fun d=>absurd ((HE m).1 d) J,fun _=>by rw[JB h (Bx t) l A m,fc h.1]⟩
   obtain⟨j,rfl⟩:∃j,i=2^t.length+j:=⟨i-2^t.length,by omega⟩
   have g:j<2^t.length:=by omega
   refine⟨fun _=>⟨j,by rw[Bk];omega,fun d=>J ((HE g).1 d),?_,fun z k d=>?_⟩,fun d=>absurd (HD.2 (.inl f)) d⟩
   ·rw[JA h (Bx t) l A,JB h l o e g]
   rcases HD.1 d with B | B
   ·exact absurd (B.trans f.symm) k
   exact (HE g).2 B
  have F:v∈Aq t:=(List.mem_cons.1 (by rwa [Aq] at K)).resolve_left f;have hs:In t (Re.sqrt v):=JW F;have A:y*Re.sqrt v=p*Re.sqrt v+q*Re.sqrt v*rt t r:=by rw[e];grind
  have n:=Ak h.1 l hs;have s:=Ak h.1 o hs
  by_cases m:i<2^t.length
  ·obtain⟨k1,k2⟩:=RN h.1 F l (fun j g d=>by rw[<-JB h l o e g];exact H j (by omega) ((HE g).2 d)) i m;refine⟨fun d=>?_,fun d=>?_⟩
   ·obtain⟨j,g,a,b,c⟩:=k1 ((HE m).1 d);exact⟨j,by rw[Bk];omega,fun d=>a ((HE g).1 d),by rw[JB h n s A m,b,JB h l o e g],fun z k D=>(HE g).2 (c z k ((HE m).1 D))⟩
   rw[JB h n s A m];exact k2 fun C=>d ((HE m).2 C)
  obtain⟨i,rfl⟩:∃j,i=2^t.length+j:=⟨i-2^t.length,by omega⟩
  obtain⟨k1,k2⟩:=RN h.1 F o (fun j g d=>by rw[<-JA h l o e j];exact H _ (by omega) (HD.2 (.inr d))) i (by omega);refine⟨fun d=>?_,fun d=>?_⟩
  ·obtain⟨j,g,a,b,c⟩:=k1 ((HD.1 d).resolve_left f);refine⟨2^t.length+j,by rw[Bk];omega,fun d=>(HD.1 d).elim f a,by rw[JA h n s A,b,JA h l o e],fun z k D=>?_⟩;rcases HD.1 D with B | B
   ·exact HD.2 (.inl B)
   exact HD.2 (.inr (c z k B))
  rw[JA h n s A];exact k2 fun C=>d (HD.2 (.inr C))
theorem Qe (ht:AT t):∀{u:List (List Rat)},(∀v∈Aq u,v∈Aq t)->BO u t
 | [],_=>KG t
 | r::u,h=>KF ht (Qe ht fun v a=>h v (by rw[Aq];exact List.mem_cons_of_mem _ a)) (JW (h _ (by rw[Aq];exact List.mem_cons_self)))
theorem QT (ht:AT t):∀{u:List (List Rat)} {x:Re},AT u->(∀v∈Aq u,v∈Aq t)->In u x->∀i,i<2^t.length->(cf t x i=0\/cf t x i∈co u x)/\(cf t x i≠0->∀v,EV t i v->v∈Aq u)
 | [],x,_,_,C,i,hi=>by
  obtain⟨q,rfl⟩:=CN.1 C
  have e:cf t (Re.ofRat q) i=if i=0 then q else 0:=by
   rw[cf,Hh q ht,List.getD_eq_getElem?_getD];cases i with
   | zero=>rfl
   | succ i=>
    rw[if_neg (by omega),List.getElem?_cons_succ,List.getElem?_replicate]
    split <;> rfl
  have H:∀{t:List (List Rat)} {v:Re},¬EV t 0 v:=fun {t v}=>by
   induction t with
   | nil=>exact id
   | cons r t K=>exact fun h=>K ((HE (De _)).1 h)
  rw[e]
  split
  ·rename_i h;subst h
   exact⟨.inr (by rw[CQ];exact List.mem_cons_self),fun _ v g=>absurd g H⟩
  exact⟨.inl rfl,fun h=>absurd rfl h⟩
 | r::u,x,hu,hV,C,i,hi=>by
  obtain⟨p,q,B,o,e⟩:=CW.1 C;have l:=Hw hu;rw[Aq,List.nodup_cons] at l;rw[Aq] at hV ⊢;have f:∀v∈Aq u,v∈Aq t:=fun v g=>hV v (List.mem_cons_of_mem _ g)
  have s:=Qe ht f;have n:=hV _ List.mem_cons_self;have z:=QT ht hu.1 f B;have A:=QT ht hu.1 f o
  have G:∀{y:Re},(∀i,i<2^t.length->(cf t y i=0\/cf t y i∈co u y)/\(cf t y i≠0->∀v,EV t i v->v∈Aq u))->∀i,i<2^t.length->EV t i (AM u r)->cf t y i=0:=fun J i hi k=>
   Classical.byContradiction fun d=>l.1 ((J i hi).2 d _ k)
  obtain⟨k1,k2⟩:=RN ht n (s _ o) (G A) i hi;have I:In t (rt u r):=JW n
  have D:cf t x i=cf t p i+cf t (q*Re.sqrt (AM u r)) i:=by
   rw[show x=p+q*Re.sqrt (AM u r) from e];exact fa ht (s _ B) (Ak ht (s _ o) I) i
  rw[Cz hu B o e]
  by_cases k:EV t i (AM u r)
  ·obtain⟨j,F,a,b,c⟩:=k1 k;rw[D,G z i hi k,b,show (0:Rat)+cf t q j=cf t q j by grind];refine⟨(A j F).1.imp id fun h=>List.mem_append_right _ h,fun d v g=>?_⟩
   by_cases m:v=AM u r
   ·exact m ▸ List.mem_cons_self
   exact List.mem_cons_of_mem _ ((A j F).2 d v (c v m g))
  rw[D,k2 k,show cf t p i+(0:Rat)=cf t p i by grind];exact⟨(z i hi).1.imp id fun h=>List.mem_append_left _ h,fun d v g=>List.mem_cons_of_mem _ ((z i hi).2 d v g)⟩
theorem Ul {k:Nat} (ht:AT t) (hu:AT u) (hV:∀v∈Aq u,v∈Aq t) (c:In u x) (h:Bd k (co u x)):Bd k (co t x):=by
 obtain⟨D,d1,d2,d3,d4⟩:=h;have b:=Qe ht hV _ c
 have key:∀q∈co t x,q=0\/q∈co u x:=fun q a=>by
  obtain⟨i,hi,rfl⟩:=List.mem_iff_getElem.1 a;have d:cf t x i=(co t x)[i]:=by rw[cf,List.getD_eq_getElem?_getD,List.getElem?_eq_getElem hi];rfl
  rw[<-d];exact (QT ht hu hV c i (by rw[<-CU b];exact hi)).1
 refine⟨D,d1,d2,fun q a=>?_,fun q a=>?_⟩
 ·rcases key q a with rfl | h
  ·exact⟨0,by grind⟩
  exact d3 q h
 rcases key q a with rfl | h
 ·have:(0:Rat)<=((2^k:Nat):Rat):=Rat.natCast_nonneg
  constructor <;> grind
 exact d4 q h
end Go.Abs
namespace Go.Abs
section
variable {P:List (List Rat)->Prop} {R0:Nat}
theorem Tf.Sh (I:DU P R0) {V:List Re} (hV:∀{u},P u->∀v∈Go.Abs.Aq u,v∈V) (h3:V.length<=3) {u:List (List Rat)} (h:Tf P u):(u.length<=1->TB R0 u)/\TB (R0+CC 1 R0 1 R0) u:=by
 induction h with
 | nil=>exact⟨fun _ r b=>absurd b (by simp),fun r b=>absurd b (by simp)⟩
 | @Ar u r0 c ht p d B=>
  by_cases hs:Sq u (AM c r0)
  ·rw[Ec hs];exact B
  have a:=I.red p;have hu:=ht.red I;have f:=CO a;have hb:Bd R0 (co c (AM c r0)):=by rw[Fs a];exact (I.tb p).head
  rw[Dq hs]
  by_cases K:∀v∈Go.Abs.Aq c,v∈Go.Abs.Aq u
  ·have C:=Ul hu a.1 K f hb;refine⟨fun F r b=>?_,fun r b=>?_⟩
   ·rw[List.length_cons] at F;rcases List.mem_cons.1 b with rfl | b
    ·exact C
    exact B.1 (by omega) r b
   rcases List.mem_cons.1 b with rfl | b
   ·exact C.mono (by omega)
   exact B.2 r b
  obtain⟨v,N⟩:=Classical.not_forall.1 K;obtain⟨o,J⟩:=Classical.not_imp.1 N;have n:In u (Re.sqrt v):=d _ (JW o);have G:AM c r0≠v:=fun e=>hs ((JU (by have:=a.2.2.1;grind)).2 (e ▸ n))
  have j:=Hw (MM hu (d _ f) a.2.2.1 hs);rw[Go.Abs.Aq,Dr (d _ f),List.nodup_cons] at j
  have hle:=IW (l:=AM c r0::v::Go.Abs.Aq u) (m:=V) (by
   rw[List.nodup_cons,List.nodup_cons];refine⟨fun hm=>?_,J,j.2⟩;rcases List.mem_cons.1 hm with e | hm
   ·exact G e
   ·exact j.1 hm) (fun x A=>by
   rcases List.mem_cons.1 A with rfl | A
   ·exact hV p _ (by rw[Go.Abs.Aq];exact List.mem_cons_self)
   rcases List.mem_cons.1 A with rfl | A
   ·exact hV (I.sub p) _ o
   exact ht.Aq I hV x A)
  rw[List.length_cons,List.length_cons,Iu] at hle;have g:=IW (Hw a) (hV p);rw[Iu,List.length_cons] at g
  have z:u≠[]:=fun e=>by
   subst e;have:=SC a.1 d;subst this;simp[Go.Abs.Aq] at o
  have H:u.length=1:=by
   have:0<u.length:=List.length_pos_iff.2 z;omega
  have M:c.length<=1:=by
   match u,H,hu,d with
   | [s],_,hu,d=>
    match c,a.1,d,g with
    | [],_,_,_=>exact Nat.zero_le _
    | [q],_,_,_=>exact Nat.le_refl 1
    | [q,r],L,d,_=>exact (Yu L hu d).elim
    | _::_::_::_,_,_,g=>simp only[List.length_cons] at g;omega
  have D:El c R0 (AM c r0):=⟨f,hb⟩;have C:=(D.Bi hu (B.1 (by omega)) a.1 (I.tb p).tail d).bd;have O:=Jd (k:=c.length) (k':=1) (R0:=R0) (H4:=R0) (h:=u.length) (h':=1) (R:=R0) (R':=R0) M (Nat.le_refl _) (by omega) (Nat.le_refl _);refine⟨fun F=>absurd F (by rw[List.length_cons];omega),fun r b=>?_⟩;rcases List.mem_cons.1 b with rfl | b
  ·exact C.mono (by omega)
  exact B.2 r b
theorem Tf.gp (I:DU P R0) {V:List Re} (hV:∀{u},P u->∀v∈Go.Abs.Aq u,v∈V) (h3:V.length<=3) {R C S:Nat} (hR:R0+CC 1 R0 1 R0<=R) (c:R<=S) (g:CC 3 R 3 R<=C) (d:∀h,h<=3->Fit h R (S+C)) (j:2*(S+C)+EE 3 R<=60000000000000):Gam (Tf P) R C S:=by
 have hm:∀{u},Tf P u->u.length<=3:=fun {u} h=>Nat.le_trans (h.len I hV) h3
 have a:∀{u},Tf P u->TB R u:=fun {u} h=>(h.Sh I hV h3).2.mono hR
 refine⟨fun {u} h=>⟨h.red I,a h,by omega,by have:=hm h;omega⟩,fun {u} h=>by have:=hm h;omega,.nil,fun {r u} h=>h.sub I,fun {t r u} ht h b=>ht.Py I h b,fun {u w s x} hu hw b f=>?_,fun {u} h=>d _ (hm h),fun {u} h=>?_,c⟩
 ·refine (f.Bi (hw.red I) (a hw) (hu.red I) (a hu) b).mono ?_;have:=Jd (k:=u.length) (k':=3) (R0:=R) (H4:=R) (h:=w.length) (h':=3) (R:=R) (R':=R) (hm hu) (Nat.le_refl _) (hm hw) (Nat.le_refl _);omega
 have:=H0 (h:=u.length) (h':=3) (R:=R) (R':=R) (hm h) (Nat.le_refl _);omega
end
end Go.Abs
namespace Go.Abs
abbrev Rn:Nat:=1540
abbrev Cn:Nat:=874000
end Go.Abs
