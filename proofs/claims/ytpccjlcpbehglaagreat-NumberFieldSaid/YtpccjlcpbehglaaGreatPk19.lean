/- Part 20 of a proof. Conditions: each theorem's own. -/
import Derived.Test.YtpccjlcpbehglaaGreatPk18
set_option linter.all false
set_option maxHeartbeats 8000000
namespace Go.Abs
theorem EE_mono2:∀{h h' R R':Nat},h≤h'→R≤R'→EE h R≤EE h' R'
 | 0,h',R,R',_,_=>Nat.zero_le _
 | h+1,0,R,R',hh,_=>absurd hh (by omega)
 | h+1,h'+1,R,R',hh,hR=>by
  have:=EE_mono2 (h:=h) (h':=h') (by omega) hR
  rw[EE,EE];omega
theorem II_mono3:∀{h h' R R' s s':Nat},h≤h'→R≤R'→s≤s'→II h R s≤II h' R' s'
 | 0,0,R,R',s,s',_,_,hs=>by rw[II,II];omega
 | 0,h'+1,R,R',s,s',_,_,hs=>by
  have:=II_ge h' R' (2*s'+2*EE h' R'+R'+1)
  rw[II,II];omega
 | h+1,0,R,R',s,s',hh,_,_=>absurd hh (by omega)
 | h+1,h'+1,R,R',s,s',hh,hR,hs=>by
  have h1:=EE_mono2 (h:=h) (h':=h') (by omega) hR
  have h2:=II_mono3 (h:=h) (h':=h') (s:=2*s+2*EE h R+R+1) (s':=2*s'+2*EE h' R'+R'+1) (by omega) hR (by omega)
  rw[II,II];omega
theorem GG_mono2:∀{h h' R R':Nat},h≤h'→R≤R'→GG h R≤GG h' R'
 | 0,h',R,R',_,_=>by rw[GG];exact Nat.zero_le _
 | h+1,0,R,R',hh,_=>absurd hh (by omega)
 | h+1,h'+1,R,R',hh,hR=>by
  have h1:=EE_mono2 (h:=h) (h':=h') (by omega) hR
  have h2:=GG_mono2 (h:=h) (h':=h') (by omega) hR
  have h3:=II_mono3 (h:=h) (h':=h') (s:=R) (s':=R') (by omega) hR hR
  rw[GG,GG];omega
def CC:Nat→Nat→Nat→Nat→Nat
 | 0,_,_,_=>0
 | k+1,R0,h,R=>2*CC k R0 h R+R0+GG h R+EE h R+1
theorem CC_mono:∀{k k' R0 R0' h h' R R':Nat},k≤k'→R0≤R0'→h≤h'→R≤R'→CC k R0 h R≤CC k' R0' h' R'
 | 0,k',_,_,_,_,_,_,_,_,_,_=>by rw[CC];exact Nat.zero_le _
 | k+1,0,_,_,_,_,_,_,hk,_,_,_=>absurd hk (by omega)
 | k+1,k'+1,R0,R0',h,h',R,R',hk,h0,hh,hR=>by
  have h1:=CC_mono (k:=k) (k':=k') (by omega) h0 hh hR
  have h2:=EE_mono2 hh hR
  have h3:=GG_mono2 hh hR
  rw[CC,CC];omega
theorem dn_rat {D:Nat} {q:Rat} {n:Nat} (h:DN D [q]):DN D (q::List.replicate n 0):=fun z hz=>by
 rcases List.mem_cons.1 hz with rfl | hz
 ·exact h _ List.mem_cons_self
 ·rw[List.eq_of_mem_replicate hz];exact⟨0,by simp⟩
theorem mx_rat {B:Nat} {q:Rat} {n:Nat} (h:MX B [q]):MX B (q::List.replicate n 0):=fun z hz=>by
 rcases List.mem_cons.1 hz with rfl | hz
 ·exact h _ List.mem_cons_self
 ·rw[List.eq_of_mem_replicate hz]
  have:(0:Rat)≤B:=Rat.natCast_nonneg
  constructor <;> grind
theorem bd_emb {w:List (List Rat)} {R:Nat} (hw:Red w) (hT:TB R w):∀{u:List (List Rat)} {R0:Nat},Red u→TB R0 u→Emb u w→∃K:Nat,0<K∧K≤2^CC u.length R0 w.length R∧
  ∀{x:Re} {D B:Nat},In u x→(DN D (co u x)→DN (D*K) (co w x))∧(MX B (co u x)→MX (B*2^CC u.length R0 w.length R) (co w x))
 | [],R0,_,_,_=>⟨1,by decide,by simp[CC],fun {x D B} hx=>by
  obtain⟨q,rfl⟩:=in_nil.1 hx
  rw[co_nil,co_rat q hw,Nat.mul_one]
  refine⟨dn_rat,fun h=>?_⟩
  rw[show B*2^CC ([]:List (List Rat)).length R0 w.length R=B by simp[CC]]
  exact mx_rat h⟩
 | r::u,R0,h,h0,hE=>by
  obtain⟨K,hK,hKl,hb⟩:=bd_emb hw hT h.1 h0.tail hE.tail
  obtain⟨E,hE0,hEl,hm⟩:=dn_mul hw hT
  obtain⟨D0,hD0,hDl,hDr,hMr⟩:=h0.head
  have hr:=rt_sq h
  have hin:=in_rad h
  have hrt:=hE.root
  have b1:=hb (D:=D0) (B:=2^R0) hin
  rw[co_rad h] at b1
  have hv:Bd (R0+CC u.length R0 w.length R) (co w (evR u r)):=by
   refine⟨D0*K,Nat.mul_pos hD0 hK,?_,b1.1 hDr,?_⟩
   ·rw[Nat.pow_add];exact Nat.mul_le_mul hDl hKl
   ·rw[Nat.pow_add];exact b1.2 hMr
  obtain⟨F,hF,hFl,hFd,hFm⟩:=bd_sqrt hw hT hrt hr hv
  refine⟨K*(F*E),Nat.mul_pos hK (Nat.mul_pos hF hE0),?_,fun {x D B} hx=>?_⟩
  ·have h1:=Nat.mul_le_mul hKl (Nat.mul_le_mul hFl hEl)
   simp only[←Nat.pow_add] at h1
   exact Nat.le_trans h1 (pow_le2 (by rw[List.length_cons,CC];omega))
  ·obtain⟨p,q,hp,hq,rfl⟩:=in_cons.1 hx
   rw[co_cons h hp hq rfl,DN.app,MX.app]
   have hpw:=hE.tail _ hp
   have hqw:=hE.tail _ hq
   refine⟨fun hd=>?_,fun hd=>?_⟩
   ·have k1:=(hb (B:=0) hp).1 hd.1
    have k2:=(hb (B:=0) hq).1 hd.2
    have k3:=hm hqw hrt k2 hFd
    exact DN.vadd hw hpw (in_mul hw hqw hrt) (k1.dvd ⟨F*E,by grind⟩) (k3.dvd ⟨1,by grind⟩)
   ·have k1:=(hb (D:=0) hp).2 hd.1
    have k2:=(hb (D:=0) hq).2 hd.2
    have k3:=mx_mul hw hT hqw hrt k2 hFm
    refine (MX.vadd hw hpw (in_mul hw hqw hrt) k1 k3).mono ?_
    have e:B*2^CC u.length R0 w.length R*2^(R0+CC u.length R0 w.length R+GG w.length R)*2^EE w.length R=B*2^(CC u.length R0 w.length R+(R0+CC u.length R0 w.length R+GG w.length R)+EE w.length R):=by
     rw[Nat.mul_assoc,Nat.mul_assoc,←Nat.pow_add,←Nat.pow_add];congr 2;omega
    rw[e,←Nat.mul_add]
    refine Nat.mul_le_mul_left B ?_
    have e2:CC (r::u).length R0 w.length R=CC u.length R0 w.length R+(R0+CC u.length R0 w.length R+GG w.length R)+EE w.length R+1:=by rw[List.length_cons,CC];omega
    have h3:2^CC u.length R0 w.length R≤2^(CC u.length R0 w.length R+(R0+CC u.length R0 w.length R+GG w.length R)+EE w.length R):=pow_le2 (by omega)
    rw[e2,Nat.pow_succ]
    omega
theorem El.emb {w u:List (List Rat)} {R R0 s:Nat} {x:Re} (hw:Red w) (hT:TB R w) (hu:Red u) (h0:TB R0 u) (hE:Emb u w) (hx:El u s x):El w (s+CC u.length R0 w.length R) x:=by
 obtain⟨K,hK,hKl,hb⟩:=bd_emb hw hT hu h0 hE
 obtain⟨D,h1,h2,h3,h4⟩:=hx.bd
 refine⟨hE _ hx.mem,D*K,Nat.mul_pos h1 hK,?_,(hb (B:=0) hx.mem).1 h3,?_⟩
 ·rw[Nat.pow_add];exact Nat.mul_le_mul h2 hKl
 ·rw[Nat.pow_add];exact (hb (D:=0) hx.mem).2 h4
inductive Tf (P:List (List Rat)→Prop):List (List Rat)→Prop
 | nil:Tf P []
 | adj {u:List (List Rat)} {r0:List Rat} {u0:List (List Rat)}:Tf P u→P (r0::u0)→Emb u0 u→Tf P (adj u (evR u0 r0))
structure Ini (P:List (List Rat)→Prop) (R0:Nat):Prop where
 red:∀{u},P u→Red u
 tb:∀{u},P u→TB R0 u
 sub:∀{r u},P (r::u)→P u
section
variable {P:List (List Rat)→Prop} {R0:Nat}
theorem Tf.red (I:Ini P R0) {u:List (List Rat)} (h:Tf P u):Red u:=by
 induction h with
 | nil=>trivial
 | adj _ hp hE ih=>exact red_adj ih (hE _ (in_rad (I.red hp))) (I.red hp).2.2.1
theorem adj_rad {u:List (List Rat)} {r:List Rat} (h:Red (r::u)):adj u (evR u r)=r::u:=by rw[adj_new h.2.2.2,co_rad h]
theorem Tf.of (I:Ini P R0):∀{u:List (List Rat)},P u→Tf P u
 | [],_=> .nil
 | r::u,h=>by
  have:=Tf.adj (Tf.of I (I.sub h)) h (Emb.refl u)
  rwa [adj_rad (I.red h)] at this
theorem Tf.gen (I:Ini P R0) {w:List (List Rat)} (h:Tf P w):∀{r:List Rat} {u:List (List Rat)},w=r::u→Tf P u∧∃r0 u0,P (r0::u0)∧evR u0 r0=evR u r∧Emb u0 u:=by
 induction h with
 | nil=>intro r u e;cases e
 | @adj u1 r0 u0 ht hp hE ih=>
  intro r u e
  by_cases hs:Sq u1 (evR u0 r0)
  ·rw[adj_in hs] at e;exact ih e
  ·rw[adj_new hs] at e
   obtain⟨rfl,rfl⟩:=List.cons.inj e
   exact⟨ht,r0,u0,hp,(ev_co (hE _ (in_rad (I.red hp)))).symm,hE⟩
theorem Tf.sub (I:Ini P R0) {r:List Rat} {u:List (List Rat)} (h:Tf P (r::u)):Tf P u:=(h.gen I rfl).1
theorem Tf.adjT (I:Ini P R0) {t u:List (List Rat)} {r:List Rat} (ht:Tf P t) (h:Tf P (r::u)) (hE:Emb u t):Tf P (Go.Abs.adj t (evR u r)):=by
 obtain⟨_,r0,u0,hp,e,hE0⟩:=h.gen I rfl
 rw[←e];exact .adj ht hp (hE0.trans hE)
def RR (R0:Nat):Nat→Nat
 | 0=>R0
 | h+1=>max (RR R0 h) (R0+CC 2 R0 h (RR R0 h))
theorem RR_mono {R0 h h':Nat} (hh:h≤h'):RR R0 h≤RR R0 h':=by
 induction hh with
 | refl=>exact Nat.le_refl _
 | step _ ih=>exact Nat.le_trans ih (Nat.le_max_left _ _)
theorem TB.mono {R R':Nat} {u:List (List Rat)} (h:TB R u) (hR:R≤R'):TB R' u:=fun r hr=>(h r hr).mono hR
theorem Tf.tb (I:Ini P R0) (hm:∀{u},Tf P u→u.length≤3) {u:List (List Rat)} (h:Tf P u):TB (RR R0 u.length) u:=by
 induction h with
 | nil=>intro r hr;simp at hr
 | @adj u r0 u0 ht hp hE ih=>
  by_cases hs:Sq u (evR u0 r0)
  ·rw[adj_in hs];exact ih
  ·have hl:=hm (Tf.adj ht hp hE)
   have hl0:=hm (Tf.of I hp)
   rw[adj_new hs] at hl ⊢
   rw[List.length_cons] at hl hl0
   intro r hr
   rcases List.mem_cons.1 hr with rfl | hr
   ·have hr0:=I.red hp
    have hE1:El u0 R0 (evR u0 r0):=⟨in_rad hr0,by rw[co_rad hr0];exact (I.tb hp).head⟩
    have:=(hE1.emb (ht.red I) ih hr0.1 (I.tb hp).tail hE).bd
    refine this.mono ?_
    rw[List.length_cons,RR]
    have:=CC_mono (k:=u0.length) (k':=2) (R0:=R0) (R0':=R0) (h:=u.length) (h':=u.length) (R:=RR R0 u.length) (R':=RR R0 u.length) (by omega) (Nat.le_refl _) (Nat.le_refl _) (Nat.le_refl _)
    omega
   ·exact (ih r hr).mono (RR_mono (by rw[List.length_cons];omega))
theorem Tf.gam (I:Ini P R0) (hm:∀{u},Tf P u→u.length≤3) {R C S:Nat} (hR:RR R0 3≤R) (hR2:R≤S) (hC:CC 3 R 3 R≤C) (hF:∀h,h≤3→Fit h R (S+C)) (hM:2*(S+C)+EE 3 R≤60000000000000):Gam (Tf P) R C S:=by
 have hTB:∀{u},Tf P u→TB R u:=fun {u} h=>(h.tb I hm).mono (Nat.le_trans (RR_mono (hm h)) hR)
 refine⟨fun {u} h=>⟨h.red I,hTB h,by omega,by have:=hm h;omega⟩,fun {u} h=>by have:=hm h;omega,.nil,fun {r u} h=>h.sub I,fun {t r u} ht h hE=>ht.adjT I h hE,fun {u w s x} hu hw hE hx=>?_,fun {u} h=>hF _ (hm h),fun {u} h=>?_,hR2⟩
 ·refine (hx.emb (hw.red I) (hTB hw) (hu.red I) (hTB hu) hE).mono ?_
  have:=CC_mono (k:=u.length) (k':=3) (R0:=R) (R0':=R) (h:=w.length) (h':=3) (R:=R) (R':=R) (hm hu) (Nat.le_refl _) (hm hw) (Nat.le_refl _)
  omega
 ·have:=EE_mono2 (h:=u.length) (h':=3) (R:=R) (R':=R) (hm h) (Nat.le_refl _)
  omega
def vals:List (List Rat)→List Re
 | []=>[]
 | r::u=>evR u r::vals u
theorem vals_len:∀u:List (List Rat),(vals u).length=u.length
 | []=>rfl
 | r::u=>by rw[vals,List.length_cons,List.length_cons,vals_len u]
theorem vals_root:∀{u:List (List Rat)} {v:Re},v∈vals u→In u (Re.sqrt v)
 | [],v,h=>by simp[vals] at h
 | r::u,v,h=>by
  rcases List.mem_cons.1 h with rfl | h
  ·exact in_rt u r
  ·exact in_up (vals_root h)
theorem vals_nodup:∀{u:List (List Rat)},Red u→(vals u).Nodup
 | [],_=>List.nodup_nil
 | r::u,h=>by
  rw[vals,List.nodup_cons]
  refine⟨fun hm=>h.2.2.2 ⟨_,vals_root hm,Re.sqrt_sq (by have:=h.2.2.1;grind)⟩,vals_nodup h.1⟩
theorem Tf.vals (I:Ini P R0) {V:List Re} (hV:∀{u},P u→∀v∈vals u,v∈V) {u:List (List Rat)} (h:Tf P u):∀v∈Go.Abs.vals u,v∈V:=by
 induction h with
 | nil=>intro v hv;simp[Go.Abs.vals] at hv
 | @adj u r0 u0 ht hp hE ih=>
  by_cases hs:Sq u (evR u0 r0)
  ·rw[adj_in hs];exact ih
  ·rw[adj_new hs]
   intro v hv
   rcases List.mem_cons.1 hv with rfl | hv
   ·rw[ev_co (hE _ (in_rad (I.red hp)))]
    exact hV hp _ List.mem_cons_self
   ·exact ih v hv
theorem nodup_le {α:Type}:∀{l m:List α},l.Nodup→(∀x∈l,x∈m)→l.length≤m.length
 | [],_,_,_=>Nat.zero_le _
 | x::l,m,h,hm=>by
  rw[List.nodup_cons] at h
  obtain⟨a,b,rfl⟩:=List.append_of_mem (hm x List.mem_cons_self)
  have:=nodup_le (l:=l) (m:=a++b) h.2 (fun y hy=>by
   have h1:=hm y (List.mem_cons_of_mem _ hy)
   rcases List.mem_append.1 h1 with h2 | h2
   ·exact List.mem_append_left _ h2
   ·rcases List.mem_cons.1 h2 with rfl | h2
    ·exact absurd hy h.1
    ·exact List.mem_append_right _ h2)
  rw[List.length_cons,List.length_append,List.length_cons]
  rw[List.length_append] at this
  omega
theorem Tf.len (I:Ini P R0) {V:List Re} (hV:∀{u},P u→∀v∈Go.Abs.vals u,v∈V) {u:List (List Rat)} (h:Tf P u):u.length≤V.length:=by
 rw[←vals_len];exact nodup_le (vals_nodup (h.red I)) (h.vals I hV)
end
end Go.Abs
namespace Go.Abs
def bitB (k i:Nat):Bool:=k/2^i%2==1
def occF (i:Nat):Nat→List Rat→Bool
 | _,[]=>false
 | k,q::l=>(bitB k i&&q !=0)||occF i (k+1) l
def woF (i:Nat):Nat→List Rat→List Rat
 | _,[]=>[]
 | k,q::l=>if bitB k i=true then woF i (k+1) l else q::woF i (k+1) l
variable {w:List (List Rat)} {x:Re}
theorem occF_app (i:Nat):∀(k:Nat) (a b:List Rat),occF i k (a++b)=(occF i k a||occF i (k+a.length) b)
 | k,[],b=>by simp[occF]
 | k,q::a,b=>by
  rw[List.cons_append,occF,occF,occF_app i (k+1) a b,List.length_cons,Bool.or_assoc,show k+1+a.length=k+(a.length+1) by omega]
theorem woF_app (i:Nat):∀(k:Nat) (a b:List Rat),woF i k (a++b)=woF i k a++woF i (k+a.length) b
 | k,[],b=>by simp[woF]
 | k,q::a,b=>by
  rw[List.cons_append,woF,woF,woF_app i (k+1) a b,List.length_cons,show k+1+a.length=k+(a.length+1) by omega]
  split <;> simp
theorem bit_shift (k i c:Nat):bitB (k+2^(i+1)*c) i=bitB k i:=by
 unfold bitB
 rw[Nat.pow_succ,Nat.mul_assoc,Nat.add_mul_div_left _ _ (Nat.two_pow_pos i),Nat.add_mul_mod_self_left]
theorem occF_shift (i c:Nat):∀(k:Nat) (l:List Rat),occF i (k+2^(i+1)*c) l=occF i k l
 | _,[]=>rfl
 | k,q::l=>by
  rw[occF,occF,bit_shift,show k+2^(i+1)*c+1=k+1+2^(i+1)*c by omega,occF_shift i c (k+1) l]
theorem woF_shift (i c:Nat):∀(k:Nat) (l:List Rat),woF i (k+2^(i+1)*c) l=woF i k l
 | _,[]=>rfl
 | k,q::l=>by
  rw[woF,woF,bit_shift,show k+2^(i+1)*c+1=k+1+2^(i+1)*c by omega,woF_shift i c (k+1) l]
theorem bit_lo {k i:Nat} (h:k<2^i):bitB k i=false:=by unfold bitB;rw[Nat.div_eq_of_lt h];rfl
theorem bit_hi {k i:Nat} (h:2^i≤k) (h2:k<2^i+2^i):bitB k i=true:=by
 unfold bitB
 have:k/2^i=1:=by
  rw[Nat.div_eq_iff (Nat.two_pow_pos i)]
  omega
 rw[this];rfl
theorem woF_lo (i:Nat):∀(k:Nat) (l:List Rat),k+l.length≤2^i→woF i k l=l
 | _,[],_=>rfl
 | k,q::l,h=>by
  rw[List.length_cons] at h
  rw[woF,bit_lo (by omega),woF_lo i (k+1) l (by omega)];rfl
theorem woF_hi (i:Nat):∀(k:Nat) (l:List Rat),2^i≤k→k+l.length≤2^i+2^i→woF i k l=[]
 | _,[],_,_=>rfl
 | k,q::l,h,h2=>by
  rw[List.length_cons] at h2
  rw[woF,bit_hi h (by omega),woF_hi i (k+1) l (by omega) (by omega)];rfl
theorem occF_hi (i:Nat):∀(k:Nat) (l:List Rat),2^i≤k→k+l.length≤2^i+2^i→occF i k l=false→∀q∈l,q=0
 | _,[],_,_,_=>by simp
 | k,q::l,h,h2,h3=>by
  rw[List.length_cons] at h2
  rw[occF,bit_hi h (by omega)] at h3
  simp only[Bool.true_and,Bool.or_eq_false_iff,bne_eq_false_iff_eq] at h3
  intro x hx
  rcases List.mem_cons.1 hx with rfl | hx
  ·exact h3.1
  ·exact occF_hi i (k+1) l (by omega) (by omega) h3.2 x hx
theorem woF_mem (i:Nat):∀(k:Nat) (l:List Rat),∀q∈woF i k l,q∈l
 | _,[],q,h=>h
 | k,x::l,q,h=>by
  rw[woF] at h
  split at h
  ·exact List.mem_cons_of_mem _ (woF_mem i (k+1) l q h)
  ·rcases List.mem_cons.1 h with rfl | h
   ·exact List.mem_cons_self
   ·exact List.mem_cons_of_mem _ (woF_mem i (k+1) l q h)
theorem drop_ok {r:List Rat} {u:List (List Rat)}:∀{v:List (List Rat)},Red (v++r::u)→(∀s∈v,occF u.length 0 s=false)→
  Red (v.map (woF u.length 0)++u)∧Emb (v.map (woF u.length 0)++u) (v++r::u)∧(∀x∈vals (v.map (woF u.length 0)++u),x∈vals (v++r::u))∧
  ∀{x:Re},In (v++r::u) x→occF u.length 0 (co (v++r::u) x)=false→In (v.map (woF u.length 0)++u) x∧co (v.map (woF u.length 0)++u) x=woF u.length 0 (co (v++r::u) x)
 | [],h,_=>by
  refine⟨h.1,fun x hx=>in_up hx,fun x hx=>List.mem_cons_of_mem _ hx,fun {x} hx ho=>?_⟩
  obtain⟨p,q,hp,hq,rfl⟩:=in_cons.1 hx
  have e:=co_cons h hp hq rfl
  have lp:=co_len hp
  have lq:=co_len hq
  simp only[List.nil_append,List.map_nil] at*
  rw[e,occF_app,lp,Nat.zero_add,Bool.or_eq_false_iff] at ho
  have hq0:q=0:=(co_all h.1 hq).1 (occF_hi _ _ _ (Nat.le_refl _) (by omega) ho.2)
  subst hq0
  have ex:p+0*rt u r=p:=by grind
  rw[e,woF_app,lp,Nat.zero_add,woF_lo _ _ _ (by omega),woF_hi _ _ _ (Nat.le_refl _) (by omega),List.append_nil,ex]
  exact⟨hp,rfl⟩
 | s::v,h,ho=>by
  have h:Red (s::(v++r::u)):=h
  obtain⟨h1,h2,h3,h4⟩:=drop_ok (v:=v) h.1 (fun t ht=>ho t (List.mem_cons_of_mem _ ht))
  have hs0:=ho s List.mem_cons_self
  have hsv:In (v++r::u) (evR (v++r::u) s):=in_rad h
  show Red (woF u.length 0 s::(v.map (woF u.length 0)++u))∧Emb (woF u.length 0 s::(v.map (woF u.length 0)++u)) (s::(v++r::u))∧(∀x∈vals (woF u.length 0 s::(v.map (woF u.length 0)++u)),x∈vals (s::(v++r::u)))∧
   ∀{x:Re},In (s::(v++r::u)) x→occF u.length 0 (co (s::(v++r::u)) x)=false→In (woF u.length 0 s::(v.map (woF u.length 0)++u)) x∧co (woF u.length 0 s::(v.map (woF u.length 0)++u)) x=woF u.length 0 (co (s::(v++r::u)) x)
  have cs:co (v++r::u) (evR (v++r::u) s)=s:=co_rad h
  obtain⟨k1,k2⟩:=h4 hsv (by rw[cs];exact hs0)
  rw[cs] at k2
  have hev:evR (v.map (woF u.length 0)++u) (woF u.length 0 s)=evR (v++r::u) s:=by rw[←k2,ev_co k1]
  have hred:Red (woF u.length 0 s::(v.map (woF u.length 0)++u)):=by
   refine⟨h1,by rw[←k2];exact co_len k1,by rw[hev];exact h.2.2.1,?_⟩
   rw[hev]
   rintro⟨w,hw,e⟩
   exact h.2.2.2 ⟨w,h2 w hw,e⟩
  have hrt:rt (v.map (woF u.length 0)++u) (woF u.length 0 s)=rt (v++r::u) s:=by rw[rt,rt,hev]
  have hlen:2^(v++r::u).length=2^(u.length+1)*2^v.length:=by rw[←Nat.pow_add];congr 1;simp;omega
  refine⟨hred,emb_cons h (h2.trans fun x hx=>in_up hx) (by rw[hrt];exact in_rt _ _),fun x hx=>?_,fun {x} hx hox=>?_⟩
  ·rcases List.mem_cons.1 hx with rfl | hx
   ·exact List.mem_cons.2 (.inl hev)
   ·exact List.mem_cons_of_mem _ (h3 x hx)
  ·obtain⟨p,q,hp,hq,rfl⟩:=in_cons.1 hx
   have e:=co_cons h hp hq rfl
   have lp:=co_len hp
   rw[e,occF_app,lp,hlen,occF_shift,Bool.or_eq_false_iff] at hox
   obtain⟨p1,p2⟩:=h4 hp hox.1
   obtain⟨q1,q2⟩:=h4 hq hox.2
   rw[←hrt]
   refine⟨in_cons.2 ⟨p,q,p1,q1,rfl⟩,?_⟩
   rw[hrt,e,woF_app,lp,hlen,woF_shift,←p2,←q2,←hrt]
   exact co_cons hred p1 q1 rfl
def trimStep (i:Nat) (s:List (List Rat)×List Rat):List (List Rat)×List Rat:=
 if (occF i 0 s.2||(s.1.drop (i+1)).any (occF i 0))=true then s else (s.1.take i++(s.1.drop (i+1)).map (woF i 0),woF i 0 s.2)
def trimF:Nat→List (List Rat)×List Rat→List (List Rat)×List Rat
 | 0,s=>s
 | i+1,s=>trimF i (trimStep i s)
structure TrimTo (w:List (List Rat)) (x:Re) (w':List (List Rat)):Prop where
 red:Red w'
 mem:In w' x
 emb:Emb w' w
 vals:∀v∈vals w',v∈vals w
 len:w'.length≤w.length
 rads:∀s∈w',∀q∈s,∃t∈w,q∈t
 cos:∀q∈co w' x,q∈co w x
theorem TrimTo.refl (h:Red w) (hx:In w x):TrimTo w x w:=⟨h,hx,Emb.refl w,fun _ h=>h,Nat.le_refl _,fun s hs q hq=>⟨s,hs,hq⟩,fun _ h=>h⟩
theorem TrimTo.trans {w' w'':List (List Rat)} (h:TrimTo w x w') (k:TrimTo w' x w''):TrimTo w x w'':=
 ⟨k.red,k.mem,k.emb.trans h.emb,fun v hv=>h.vals v (k.vals v hv),Nat.le_trans k.len h.len,fun s hs q hq=>by
  obtain⟨t,ht,hq⟩:=k.rads s hs q hq
  exact h.rads t ht q hq,fun q hq=>h.cos q (k.cos q hq)⟩
theorem trim_step {i:Nat} (h:Red w) (hx:In w x) (hi:i<w.length):∃w',trimStep i (w.reverse,co w x)=(w'.reverse,co w' x)∧TrimTo w x w'∧i≤w'.length:=by
 unfold trimStep
 split
 ·exact⟨w,rfl,.refl h hx,by omega⟩
 ·rename_i hc
  obtain⟨v,r,u,rfl,rfl⟩:∃v r u,w=v++r::u∧i=u.length:=by
   refine⟨w.take (w.length-1-i),w[w.length-1-i]'(by omega),w.drop (w.length-1-i+1),?_,by rw[List.length_drop];omega⟩
   rw[←List.drop_eq_getElem_cons,List.take_append_drop]
  have hrev:(v++r::u).reverse=u.reverse++r::v.reverse:=by simp
  have hd:(v++r::u).reverse.drop (u.length+1)=v.reverse:=by
   rw[hrev,show u.reverse++r::v.reverse=(u.reverse++[r])++v.reverse by simp]
   exact List.drop_left' (by simp)
  have ht:(v++r::u).reverse.take u.length=u.reverse:=by
   rw[hrev];exact List.take_left' (by simp)
  simp only[hd,ht,Bool.not_eq_true,Bool.or_eq_false_iff] at hc ⊢
  obtain⟨h1,h2,h3,h4⟩:=drop_ok h (fun s hs=>by
   have:=List.any_eq_false.1 hc.2 s (List.mem_reverse.2 hs)
   simpa using this)
  obtain⟨k1,k2⟩:=h4 hx hc.1
  refine⟨v.map (woF u.length 0)++u,?_,⟨h1,k1,h2,h3,by simp,fun s hs q hq=>?_,fun q hq=>?_⟩,by simp⟩
  ·rw[k2,List.reverse_append,List.map_reverse]
  ·rcases List.mem_append.1 hs with hs | hs
   ·obtain⟨t,ht,rfl⟩:=List.mem_map.1 hs
    exact⟨t,List.mem_append_left _ ht,woF_mem _ _ _ q hq⟩
   ·exact⟨s,List.mem_append_right _ (List.mem_cons_of_mem _ hs),hq⟩
  ·rw[k2] at hq;exact woF_mem _ _ _ q hq
theorem trim_all:∀{i:Nat} {w:List (List Rat)} {x:Re},Red w→In w x→i≤w.length→∃w',trimF i (w.reverse,co w x)=(w'.reverse,co w' x)∧TrimTo w x w'
 | 0,w,x,h,hx,_=>⟨w,rfl,.refl h hx⟩
 | i+1,w,x,h,hx,hi=>by
  obtain⟨w1,e1,t1,l1⟩:=trim_step h hx hi
  obtain⟨w2,e2,t2⟩:=trim_all t1.red t1.mem l1
  exact⟨w2,by rw[trimF,e1,e2],t1.trans t2⟩
end Go.Abs
namespace Go.Abs
open Go.RowKit
variable {a b m n p:Int} {e i:Nat}
theorem U8Is.lt {x:UInt8} (_:U8Is n x):x.toNat<256:=x.toNat_lt
theorem U32Is.lt {x:UInt32} (_:U32Is n x):x.toNat<4294967296:=x.toNat_lt
theorem natIs (k:Nat):NatIs k k:=⟨rfl⟩
theorem NatIs.of {k:Nat} (h:n=k):NatIs n k:=⟨h⟩
theorem eql_t (h:true=(a==b)):a=b:=by simpa using h.symm
theorem eql_f (h:false=(a==b)):a≠b:=by simpa using h.symm
theorem neq_t (h:true=(a !=b)):a≠b:=by simpa using h.symm
theorem neq_f (h:false=(a !=b)):a=b:=by simpa using h.symm
theorem lss_t (h:true=decide (a<b)):a<b:=by simpa using h.symm
theorem lss_f (h:false=decide (a<b)):b≤a:=by simpa using h.symm
theorem leq_t (h:true=decide (a≤b)):a≤b:=by simpa using h.symm
theorem leq_f (h:false=decide (a≤b)):b<a:=by simpa using h.symm
theorem gtr_t (h:true=decide (a>b)):b<a:=by simpa using h.symm
theorem gtr_f (h:false=decide (a>b)):a≤b:=by simpa using h.symm
theorem geq_t (h:true=decide (a ≥ b)):b≤a:=by simpa using h.symm
theorem geq_f (h:false=decide (a ≥ b)):a<b:=by simpa using h.symm
theorem not_t {a:Bool} (h:true= !a):a=false:=by simpa using h.symm
theorem not_f {a:Bool} (h:false= !a):a=true:=by simpa using h.symm
theorem beq_t {a b:Bool} (h:true=(a==b)):a=b:=by simpa using h.symm
theorem beq_f {a b:Bool} (h:false=(a==b)):a≠b:=by simpa using h.symm
theorem bne_t {a b:Bool} (h:true=(a !=b)):a≠b:=by simpa using h.symm
theorem bne_f {a b:Bool} (h:false=(a !=b)):a=b:=by simpa using h.symm
theorem wrap_u32 (h:n=IntKind.u32.wrap m):n=m%4294967296:=h
theorem wrap_u64 (h:n=IntKind.u64.wrap m):n=m%18446744073709551616:=h
theorem wrap_i64 (h:n=IntKind.i64.wrap m):n=(m+9223372036854775808)%18446744073709551616-9223372036854775808:=by
 have e:IntKind.i64.wrap m=if (true&&decide (m%18446744073709551616 ≥ 9223372036854775808))=true then m%18446744073709551616-18446744073709551616 else m%18446744073709551616:=rfl
 rw[h,e]
 split
 ·rename_i hc
  simp only[Bool.true_and,decide_eq_true_eq] at hc
  omega
 ·rename_i hc
  simp only[Bool.true_and,decide_eq_true_eq] at hc
  omega
theorem shr_lit (h:n=a.fdiv (2^e)) (hp:2^e=p):n=a/p:=by
 rw[h,←hp,Int.fdiv_eq_ediv_of_nonneg _ (by have:=Int.pow_pos (n:=2) (m:=e) (by decide);omega)]
theorem shl_u64 (h:n=IntKind.u64.wrap (a*2^e)) (hp:2^e=p):n=(a*p)%18446744073709551616:=by rw[←hp];exact h
theorem get_ex {α:Type} {l:List α} (h:i<l.length):∃x,l[i]? =some x:=⟨l[i],by simp[h]⟩
theorem u32_ex (h:0≤n∧n<4294967296):∃w:UInt32,U32Is n w:=⟨UInt32.ofNat n.toNat,⟨by rw[UInt32.toNat_ofNat'];omega⟩⟩
theorem put_w {w:UInt32} (h:U32Is n w):allC leC [.int .u32 n] (cells .u32 w):=by
 refine⟨?_,trivial⟩
 show AC.int .u32 _=AC.int .u32 n
 rw[h.eq]
theorem getE {α:Type} {l:List α} {x:α} (h:l[i]? =some x):i<l.length:=by
 apply Classical.byContradiction;intro hn;rw[List.getElem?_eq_none (by omega)] at h;exact absurd h (by simp)
theorem take_snoc {α:Type} {l:List α} {x:α} (h:l[i]? =some x):l.take (i+1)=l.take i++[x]:=by
 have hi:=getE h
 rw[List.take_succ_eq_append_getElem hi]
 rw[List.getElem?_eq_getElem hi] at h
 rw[Option.some.inj h]
theorem own_eq {t:T} {l m:List (el t)} {n k:Nat} (h:l=m) (hn:n=k):AC.own t l n=AC.own t m k:=by rw[h,hn]
end Go.Abs
