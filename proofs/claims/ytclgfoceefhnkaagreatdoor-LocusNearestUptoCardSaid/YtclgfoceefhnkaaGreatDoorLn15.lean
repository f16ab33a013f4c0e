/- Part 16 of a proof. Conditions: each theorem's own. -/
import Derived.Test.YtclgfoceefhnkaaGreatDoorLn13
import Derived.Test.YtclgfoceefhnkaaGreatDoorLn14
set_option linter.all false
set_option maxHeartbeats 80000000
set_option maxRecDepth 20000
open Go.Proofs
namespace Go.Abs
section
open Go.RowKit
variable {A B C:LR} {R s t:Nat} {T:List LR} {p x y:Re} {q:Rat} {r:List Rat} {u:List (List Rat)}
theorem Yn {q:Re} (h:BF R (r::u)) (M:T=tw (r::u)) (K:A=em (r::u) x) (N:El (r::u) s x) (J:x=p+q*rt u r) (G:In u p) (I:In u q) (hs:2*s+2*EE u.length R+R+1<=60000000000000) (L:C=em u (p*p-q*q*AM u r)):CF 373 [.one (.sl (.sl AA) T),.one (.sl AA A)] (.one (.sl AA C)):=by
 have H:=WC h.red G I (J ▸ N.bd);have F:El u s p:=⟨G,H.1⟩;have j:El u s q:=⟨I,H.2⟩;have D:=El.Cz h;have hR:=h.hR;refine AG Tryz.func373 fun E z=>?_
 obtain⟨O,d⟩:=xV (tw u);obtain⟨P,k⟩:=xR (BI r);refine AB z (Tk M d k) ?_;obtain⟨Q,f⟩:=xR (em u p);obtain⟨S,g⟩:=xR (em u q);refine AB z (O7 h.red F.mem j.mem J K f g) ?_;obtain⟨U,m⟩:=xR (em u (p*p));refine AB z (M8 h.tail d f f F F (by omega) m) ?_;obtain⟨V,n⟩:=xR (em u (q*q));refine AB z (M8 h.tail d g g j j (by omega) n) ?_;obtain⟨W,o⟩:=xR (em u (q*q*AM u r));refine AB z (M8 h.tail d n (k.trans (Ea h.red)) (j.mul h.tail j) D (by omega) o) ?_;obtain⟨Y,v⟩:=xR (em u (-(q*q*AM u r)));refine AB z (Pb h.tail o ((j.mul h.tail j).mul h.tail D) (by omega) v) ?_;obtain⟨a1,w⟩:=xR (em u (p*p+ -(q*q*AM u r)));refine AB z (OG h.tail m v (F.mul h.tail F) (((j.mul h.tail j).mul h.tail D).neg h.red.1) (by omega) (by omega) w) ?_;exact AF (by rw[L,w];congr 1)
theorem kK {p:Rat} (L:T=[]) (z:A=[rp p]) (K:B=[rp q]) (N:CR p) (v:p≠0) (w:q=1/p):CF 342 [.one (.sl (.sl AA) T),.one (.sl AA A)] (.AI [(false,[.sl AA B]),(false,[.bool true])]):=by
 refine AG Tryz.func342 fun E D=>?_
 rintro O ⟨o,f15⟩;refine CH (fun h=>?_) fun h=>?_
 ·exact absurd (by rw[o,L];rfl) h
 obtain⟨H,I,F,G,d⟩:=CA (((1:Int):Rat));refine AB D (Hb (by omega) rfl d) ?_;have J:A.length=1:=by rw[z];rfl
 refine AW 0 fun P g=>?_
 try conv=>cbv
 have M:=E7 z g;obtain⟨m,n,j,k,f⟩:=CA q;refine AB D (dY d M ⟨by decide +kernel,by decide +kernel⟩ N v w f) ?_;refine⟨[((m,n),(j,k))],fun _=>⟨rfl,by decide,rfl,⟨rfl,by first | exact t1 | exact t2 | exact t4 | simp[BR,BV,cells],trivial⟩⟩,.inl ?_⟩;try conv=>cbv
 refine CU ?_;exact AE ⟨⟨rfl,.inl ⟨_,rfl,by simp,congrArg _ (by rw[K,f.rp];rfl)⟩,trivial⟩,t2,trivial⟩
def Ui (f:FuncId) (R:Nat) (u:List (List Rat)):Prop:=∀{T:List LR} {A B:LR} {s:Nat} {x y:Re},T=tw u->A=em u x->El u s x->In u y->x*y=1->II u.length R s<=60000000000000->B=em u y->
 CF f [.one (.sl (.sl AA) T),.one (.sl AA A)] (.AI [(false,[.sl AA B]),(false,[.bool true])])
def qf (f:FuncId) (u:List (List Rat)):Prop:=∀{T:List LR} {A:LR},T=tw u->A=em u 0->
 ∃l,CF f [.one (.sl (.sl AA) T),.one (.sl AA A)] (.AI [(false,[.sl AA l]),(false,[.bool false])])
theorem kQ {q i:Re} (h:BF R (r::u)) (ih:Ui 342 R u) (Q:T=tw (r::u)) (V:A=em (r::u) x) (hx:El (r::u) s x) (I:x=p+q*rt u r) (K:El u s p) (H:El u s q) (Y:In u i) (L:(p*p-q*q*AM u r)*i=1) (hy:y=p*i+ -(q*i)*rt u r) (hs:II (r::u).length R s<=60000000000000) (hB:B=em (r::u) y):CF 342 [.one (.sl (.sl AA) T),.one (.sl AA A)] (.AI [(false,[.sl AA B]),(false,[.bool true])]):=by
 have aa:II (r::u).length R s=s+EE u.length R+II u.length R (2*s+2*EE u.length R+R+1):=rfl;have W:=El.norm h K.mem H.mem (I ▸ hx);have d:=W.inv h.tail Y L;have a5:=Ek u.length R (2*s+2*EE u.length R+R+1);refine AG Tryz.func342 fun E G=>?_
 rintro ab ⟨a8,f15⟩;refine BO (fun S=>?_) fun S=>?_
 ·exact absurd (List.length_eq_zero_iff.1 (by omega)) (Q ▸ Lt r u)
 obtain⟨ad,f⟩:=xV (tw u);obtain⟨ae,P⟩:=xR (BI r);refine AB G (Tk Q f P) ?_;obtain⟨af,v⟩:=xR (em u (p*p-q*q*AM u r));refine AB G (Yn h Q V hx I K.mem H.mem (by omega) v) ?_;obtain⟨ag,g⟩:=xR (em u i);refine AB G (ih f v W Y L (by omega) g) ?_;refine BH ?_;obtain⟨ah,w⟩:=xR (em u p);obtain⟨ai,z⟩:=xR (em u q);refine AB G (O7 h.red K.mem H.mem I V w z) ?_;obtain⟨n,j⟩:=xR (em u (p*i));obtain⟨a7,k⟩:=xN n.length;refine AB G (mulC h.tail f w g K d (by omega) j k) ?_;obtain⟨aj,D⟩:=xR (em u (q*i));refine AB G (M8 h.tail f z g H d (by omega) D) ?_;obtain⟨o,m⟩:=xR (em u (-(q*i)));refine AB G (Pb h.tail D (H.mul h.tail d) (by omega) m) ?_;have a1:n.length=2^u.length:=by rw[j,Bn (K.mul h.tail d).mem]
 have a2:o.length=2^u.length:=by rw[m,Bn ((H.mul h.tail d).neg h.red.1).mem]
 have a6:=DX h.tail.ht;refine .inl ⟨o,fun _=>⟨rfl,k,rfl,by show (n.length+o.length)*64<=140737488355328;(try simp only[List.length_take,List.length_drop]);omega⟩,?_⟩;intro (J:LR) U F;have N:J=(n:LR)++(o:LR):=F.1;have O:U=List.length (α:=(el AA)) J:=F.2;conv=>cbv
 have M:B=J:=by rw[hB,N,j,m];exact FC h.red (K.mul h.tail d).mem ((H.mul h.tail d).neg h.red.1).mem hy
 exact AE ⟨⟨rfl,.inl ⟨_,rfl,by omega,congrArg _ (by rw[M,O,List.drop_zero,List.take_length])⟩,trivial⟩,t2,trivial⟩
theorem kJ (h:BF R u):Ui 342 R u:=by
 induction u with
 | nil=>
  intro T A B s x y w m j F d D n;obtain⟨p,rfl⟩:=Ct.1 j.mem;obtain⟨q,rfl⟩:=Ct.1 F;rw[EB] at m n;rw[<-Re.ofRat_mul] at d;have e:=Re.Ib.1 d;have g:=j.CT (by have:=Ek 0 R s;have:II ([]:List (List Rat)).length R s=II 0 R s:=rfl;omega);rw[Dg] at g;exact kK w m n (g _ List.mem_cons_self) (by intro G;subst G;grind) (by grind)
 | cons r u o=>
  intro T A B s x y w m j F d D n;obtain⟨p,q,f,g,z⟩:=El.parts h.red j;have K:=Cu h.red;have H:=El.norm h g.mem z.mem (f ▸ j);have v:p*p-q*q*AM u r≠0:=Ym h.red g.mem z.mem (by intro e;rw[<-f] at e;rw[e] at d;have J:(0:Re)<1:=Re.HT.2 (show (0:Rat)<1 by decide);grind);obtain⟨i,I,k⟩:=Dv h.red.1 H.mem v;refine kQ h (o h.tail) w m j f g z I k ?_ D n
  have:y=x*y*((p-q*rt u r)*i):=by
   have:x*y*((p-q*rt u r)*i)=y*((p*p-q*q*AM u r)*i):=by rw[f];clear o;grind
   rw[this,k];clear o;grind
  rw[d] at this
  clear o;grind
theorem KX (h:BF R u) (n:T=tw u) (g:A=em u x) (j:B=em u y) (d:El u s x) (f:El u t y) (o:s<=60000000000000) (ht:t<=60000000000000) (m:C=em u (x+y)):CF 300 [.one (.sl (.sl AA) T),.one (.sl AA A),.one (.sl AA B)] (.one (.sl AA C)):=by
 refine AG Tryz.func300 fun E k=>?_
 refine AB (r:= .one (.bool true)) k (Rs n h.Gk g (d.CT (by omega)) (by rw[d.len,List.length_reverse]) j (f.CT (by omega)) (by rw[f.len,List.length_reverse])) ?_;refine BH ?_;refine AB k (OG h g j d f o ht m) ?_;exact AE ⟨t2,trivial⟩
theorem N0 (h:BF R u) (o:T=tw u) (k:A=em u x) (m:B=em u y) (j:El u s x) (f:El u t y) (v:s<=60000000000000) (ht:t<=60000000000000) (n:C=em u (x-y)):CF 253 [.one (.sl (.sl AA) T),.one (.sl AA A),.one (.sl AA B)] (.one (.sl AA C)):=by
 refine AG Tryz.func253 fun E g=>?_
 refine AB (r:= .one (.bool true)) g (Rs o h.Gk k (j.CT (by omega)) (by rw[j.len,List.length_reverse]) m (f.CT (by omega)) (by rw[f.len,List.length_reverse])) ?_;refine BH ?_;obtain⟨w,d⟩:=xR (em u (-y));refine AB g (Pb h m f ht d) ?_;refine AB (r:= .one (.sl AA C)) g (OG h k d j (f.neg h.red) v ht (by rw[n];congr 1)) ?_;exact AE ⟨t2,trivial⟩
theorem HZ (h:BF R u) (n:T=tw u) (j:A=em u x) (k:B=em u y) (f:El u s x) (g:El u t y) (d:s+t+EE u.length R<=60000000000000) (o:C=em u (x*y)):CF 279 [.one (.sl (.sl AA) T),.one (.sl AA A),.one (.sl AA B)] (.one (.sl AA C)):=by
 refine AG Tryz.func279 fun E m=>?_
 refine AB (r:= .one (.bool true)) m (Rs n h.Gk j (f.CT (by omega)) (by rw[f.len,List.length_reverse]) k (g.CT (by omega)) (by rw[g.len,List.length_reverse])) ?_;refine BH ?_;refine AB m (M8 h n j k f g d o) ?_;exact AE ⟨t2,trivial⟩
theorem Uo (h:BF R u) (k:T=tw u) (f:A=em u x) (d:El u s x) (m:s<=60000000000000) (j:C=em u (-x)):CF 168 [.one (.sl (.sl AA) T),.one (.sl AA A)] (.one (.sl AA C)):=by
 refine AG Tryz.func168 fun E g=>?_
 refine AB (r:= .one (.bool true)) g (H5 k h.Gk f (d.CT (by omega)) (by rw[d.len,List.length_reverse];exact (decide_eq_true rfl).symm)) ?_;refine BH ?_;refine AB g (Pb h f d m j) ?_;exact AE ⟨t2,trivial⟩
theorem Nv (h:BF R u) (k:T=tw u) (g:A=em u x) (d:El u s x) (v:In u y) (f:x*y=1) (o:II u.length R s<=60000000000000) (m:C=em u y):CF 289 [.one (.sl (.sl AA) T),.one (.sl AA A)] (.AI [(false,[.sl AA C]),(false,[.int .i64 0])]):=by
 have n:=Ek u.length R s;refine AG Tryz.func289 fun E j=>?_
 refine AB (r:= .one (.bool true)) j (H5 k h.Gk g (d.CT (by omega)) (by rw[d.len,List.length_reverse];exact (decide_eq_true rfl).symm)) ?_;refine BH ?_;refine AB j (kJ h k g d v f o m) ?_;refine BH ?_;exact AE ⟨t2,t2,trivial⟩
theorem Qc {q:Re} (h:BF R (r::u)) (d:T=tw (r::u)) (n:A=em (r::u) x) (j:El (r::u) s x) (k:x=p+q*rt u r) (f:In u p) (g:In u q) (z:2*s+2*EE u.length R+R+1<=60000000000000) (w:C=em u (p*p-q*q*AM u r)):CF 376 [.one (.sl (.sl AA) T),.one (.sl AA A)] (.one (.sl AA C)):=by
 refine AG Tryz.func376 fun E o=>?_
 refine AB (r:= .one (.bool true)) o (H5 d h.Gk n (j.CT (by omega)) (by rw[j.len,List.length_reverse];exact (decide_eq_true rfl).symm)) ?_;refine BH ?_;rintro D ⟨v,f11⟩;refine BO (fun m=>?_) fun m=>?_
 ·exact absurd (List.length_eq_zero_iff.1 (by omega)) (d ▸ Lt r u)
 refine AB o (Yn h d n j k f g z w) ?_;exact AE ⟨t2,trivial⟩
theorem oR {n:Nat} (h:0<n):(List.replicate n (rp 0)).set 0 (rp q)=rp q::List.replicate (n-1) (rp 0):=by
 cases n with
 | zero=>omega
 | succ n=>rfl
theorem XH (h:AU u):em u (Re.ofRat q)=(em u 0).set 0 (rp q):=by
 rw[em,Hj q h,Rd h,BI,BI,List.map_cons,List.map_replicate,List.map_replicate,oR (DI _)]
theorem XI (h:AU (r::u)):em (r::u) (rt u r)=(em (r::u) 0).set (2^u.length) (rp 1):=by
 have e:rt u r=0+1*rt u r:=by grind
 rw[FC h (CN u) (J3 u) e,FC (x:=0) h (CN u) (CN u) (by grind),List.set_append_right _ _ (by rw[Bn (CN u)];omega),Bn (CN u),Nat.sub_self]
 congr 1
 exact XH (q:=1) h.1
theorem Jc {b1 b2:Bool} {l1 l2:List UInt32} (h:BF R u) (G:T=tw u) (z:BY q b1 l1 b2 l2) (N:CR q) (K:C=em u (Re.ofRat q)):CF 355 [.one (.sl (.sl AA) T),.agg (Bw b1 l1 b2 l2)] (.one (.sl AA C)):=by
 refine AG Tryz.func355 fun E v=>?_
 refine AB v (S6 G h.Gk rfl) ?_;refine BH ?_;have M:=z.small N;refine AB v (Ut (Lv.2 ⟨q,z⟩).symm (by omega) (by omega)) ?_;refine BH ?_;have w:T.length=u.length:=by rw[G,CG]
 have m:=h.ht;refine AK ?_;rintro O ⟨o,f15⟩ P m;obtain⟨f,d⟩:=xR (em u (0));obtain⟨J,j⟩:=xN f.length;refine AB v (QS h (FA m (o.trans (congrArg _ w))) d j) ?_;have I:f.length=2^u.length:=by rw[d,Bn (CN u)]
 have L:=DI u.length;refine AK ?_;intro D H;refine⟨((b1,l1),(b2,l2)),fun _=>⟨by show _<List.length (α:=(el AA)) f;(first | omega | (simp;omega)),by first | exact t1 | exact t2 | exact t4 | simp[BR,BV,cells]⟩,?_⟩;intro (k:LR) (g:k=List.set (α:=(el AA)) f D (((b1,l1),(b2,l2))));have F:k.length=f.length:=by rw[g,List.length_set]
 conv=>cbv
 have n:C=k:=by rw[K,XH h.red,g,d,z.rp];congr 1;omega
 exact AE ⟨⟨rfl,.inl ⟨_,rfl,by omega,congrArg _ (by rw[n,List.drop_zero,List.take_of_length_le (by omega)])⟩,trivial⟩,trivial⟩
theorem di {k:Int} (h:BF R (r::u)) (P:T=tw (r::u)) (hk:AO k u.length) (hC:C=em (r::u) (rt u r)):CF 294 [.one (.sl (.sl AA) T),.one (.int .i64 k)] (.one (.sl AA C)):=by
 have ek:=hk.eq;have M:T.length=u.length+1:=by rw[P,CG];rfl
 have a1:=h.ht;have Q:(r::u).length=u.length+1:=rfl;refine AG Tryz.func294 fun E L=>?_
 refine AB L (S6 P h.Gk rfl) ?_;refine BH ?_;refine Cw (fun G=>?_) fun G=>?_
 ·exact absurd G (by omega)
 intro a6 D;have Y:=D.eq;have f16:=D.le;refine Nh (fun H=>?_) fun H=>?_
 ·exact absurd H (by omega)
 rintro a7 ⟨I,f20⟩ a8 J;obtain⟨f,d⟩:=xR (em (r::u) (0));obtain⟨W,w⟩:=xN f.length;refine AB L (QS h (FA J (I.trans (congrArg _ M))) d w) ?_;intro aa K;obtain⟨o,v,m,n,j⟩:=CA (((1:Int):Rat));refine AB L (Hb (by omega) rfl j) ?_;have U:f.length=2^(r::u).length:=by rw[d,Bn (CN _)]
 have a5:=DI u.length;have a2:=B8 r u;have V:=(FA K ek).eq;refine AK ?_;intro N S;refine⟨((o,v),(m,n)),fun _=>⟨by show _<List.length (α:=(el AA)) f;(first | omega | (simp;omega)),by first | exact t1 | exact t2 | exact t4 | simp[BR,BV,cells]⟩,?_⟩;intro (z:LR) (g:z=List.set (α:=(el AA)) f N (((o,v),(m,n))));have O:z.length=f.length:=by rw[g,List.length_set]
 conv=>cbv
 refine g2 rfl ?_;have F:C=z:=by rw[hC,XI h.red,g,d];congr 1 <;> first | omega | exact j.rp
 exact AE ⟨⟨rfl,.inl ⟨_,rfl,by omega,congrArg _ (by rw[F,List.drop_zero,List.take_of_length_le (by omega)])⟩,trivial⟩,trivial⟩
end
section
open Go.RowKit
variable {a b:Nat} {b1 b2 c c1 c2 d1 d2:Bool} {k1 k2 l l' l1 l2 m1 m2:List UInt32} {r:Rat} {x y:Int}
theorem PY (p q:Rat):(p*q).num=(p.num/((Nat.gcd p.num.natAbs q.den:Nat):Int))*(q.num/((Nat.gcd q.num.natAbs p.den:Nat):Int)):=by
 show (Rat.mul p q).num=_
 unfold Rat.mul
 dsimp only
 rw[Int.divExact_eq_ediv,Int.divExact_eq_ediv]
theorem PX (p q:Rat):((p*q).den:Int)=((p.den:Int)/((Nat.gcd q.num.natAbs p.den:Nat):Int))*((q.den:Int)/((Nat.gcd p.num.natAbs q.den:Nat):Int)):=by
 have:(p*q).den=(p.den/Nat.gcd q.num.natAbs p.den)*(q.den/Nat.gcd p.num.natAbs q.den):=by
  show (Rat.mul p q).den=_
  unfold Rat.mul
  dsimp only
  rw[Nat.divExact_eq_div,Nat.divExact_eq_div]
 rw[this,Int.natCast_mul,Int.natCast_ediv,Int.natCast_ediv]
theorem Vj (p q:Rat) (h:Nat.gcd p.den q.den=1):(p+q).num=p.num*q.den+q.num*p.den/\((p+q).den:Int)=(p.den:Int)*q.den:=by
 have:(p+q)=Rat.add p q:=rfl;rw[this];unfold Rat.add
 dsimp only
 rw[dif_pos h];exact⟨rfl,by rw[Int.natCast_mul]⟩
theorem Vk (p q:Rat) {g h:Nat} {N:Int} (j:g=Nat.gcd p.den q.den) (n:g≠1) (w:x=(p.den:Int)/g) (z:y=(q.den:Int)/g) (o:N=p.num*y+q.num*x) (m:h=Nat.gcd N.natAbs g):
  (p+q).num=N/h/\((p+q).den:Int)=x*((q.den:Int)/h):=by
 have e:(p+q)=Rat.add p q:=rfl;have d:x=((p.den/g:Nat):Int):=by rw[w,Int.natCast_ediv]
 have k:y=((q.den/g:Nat):Int):=by rw[z,Int.natCast_ediv]
 have f:p.num*((q.den/Nat.gcd p.den q.den:Nat):Int)+q.num*((p.den/Nat.gcd p.den q.den:Nat):Int)=N:=by rw[o,d,k,j]
 have v:h∣q.den:=by rw[m];exact Nat.dvd_trans (Nat.gcd_dvd_right _ _) (by rw[j];exact Nat.gcd_dvd_right _ _)
 subst j;rw[e];unfold Rat.add
 dsimp only
 rw[dif_neg n,Rat.maybeNormalize_eq]
 dsimp only
 rw[Int.divExact_eq_ediv,f,<-m];refine⟨rfl,?_⟩;rw[d,Nat.mul_div_assoc _ v,Int.natCast_mul,Int.natCast_ediv (q.den)]
theorem E3 {a:Int} (hb:b≠0):a=a/((Nat.gcd a.natAbs b:Nat):Int)*((Nat.gcd a.natAbs b:Nat):Int)/\(b:Int)=(b:Int)/((Nat.gcd a.natAbs b:Nat):Int)*((Nat.gcd a.natAbs b:Nat):Int):=by
 exact⟨(Int.ediv_mul_cancel (Int.ofNat_dvd_left.2 (Nat.gcd_dvd_left _ _))).symm,(Int.ediv_mul_cancel (Int.natCast_dvd_natCast.2 (Nat.gcd_dvd_right _ _))).symm⟩
theorem Es (hb:b≠0):((Nat.gcd a b:Nat):Int)≠0:=by
 have:=Nat.gcd_pos_of_pos_right a (n:=b) (by omega);omega
theorem GJ {q:Int} {b b':Bool} (f:BA x b l) (d:BA q b' l') (g:y≠0) (h:x=q*y):l'.length<=l.length:=by
 rw[f.Bb,d.Bb];exact EF (by rw[h,Int.natAbs_mul];exact Nat.le_mul_of_pos_right _ (by omega))
theorem Gw {x:Int} {d:Bool} (hb:b≠0) (h:BA (b:Int) c l) (h':BA ((Nat.gcd a b:Nat):Int) d l'):l'.length<=l.length:=by
 rw[h.Bb,h'.Bb,Int.natAbs_natCast,Int.natAbs_natCast];exact EF (Nat.le_of_dvd (by omega) (Nat.gcd_dvd_right _ _))
theorem Iy {b:Bool} (g:BA x b l) (j:c=decide (x=1)):CF 197 [.agg (BX b l)] (.one (.bool c)):=by
 refine AG Tryz.func197 fun E D=>?_
 rintro F ⟨z,f5⟩;refine CH (fun n=>?_) fun n=>?_
 ·exact AF (by rw[j];exact (Y2 g (by omega)).symm)
 refine AW 0 fun w d=>?_
 refine AS ?_;intro o f;have m:=f.eq;have f11:=f.lt;refine CH (fun k=>?_) fun k=>?_
 ·exact AF (by rw[j];cases b with | true=>exact (Sr g rfl).symm | false=>rw[<-Su g rfl (by omega) d];simp only[decide_eq_false_iff_not];omega)
 intro v h;exact AF (by rw[j,h];cases b with | true=>exact (Sr g rfl).symm | false=>rw[<-Su g rfl (by omega) d];simp;omega)
theorem EY {q:Int} {b3:Bool} {l3:List UInt32} (j:BA x b1 l1) (k:BA y b2 l2) (f:y≠0) (d:x=q*y) (h:BA q b3 l3) (s1:l1.length<=17592186043000) (s2:l2.length<=17592186043000):CF 277 [.agg (BX b1 l1),.agg (BX b2 l2)] (.agg (BX b3 l3)):=by
 refine AG Tryz.func277 fun E g=>?_
 refine AB g (eE j k f d h s1 s2) ?_;exact AE ⟨t3,trivial⟩
theorem EN {q:Rat} (k: -9223372036854775808<=x/\x<9223372036854775808) (g:q=(x:Rat)) (h:BY q c1 m1 c2 m2):CF 34 [.one (.int .i64 x)] (.agg (Bw c1 m1 c2 m2)):=by
 refine AG Tryz.func34 fun E j=>?_
 obtain⟨m,o,d⟩:=Ak (x);refine AB j (MD k d) ?_;obtain⟨n,v,f⟩:=Ak (1);refine AB j (MD (by omega) f) ?_;exact AE ⟨⟨rfl,congrArg _ ((d.uniq h.num (by rw[g];rfl)).1.symm),congrArg _ ((d.uniq h.num (by rw[g];rfl)).2.symm),congrArg _ ((f.uniq h.den (by rw[g];rfl)).1.symm),congrArg _ ((f.uniq h.den (by rw[g];rfl)).2.symm),trivial⟩,trivial⟩
theorem Qm {q:Rat} {c:Int} (h:BY q b1 l1 b2 l2) (g:c=D1 q):CF 259 [.agg (Bw b1 l1 b2 l2)] (.one (.int .i64 c)):=by
 refine AG Tryz.func259 fun E f=>?_
 obtain⟨j,d⟩:=xI (Cg q.num);refine AB f (Jh h.num d) ?_;exact AF (by rw[g,d];rfl)
theorem eX {q p:Rat} (h:BY q b1 l1 b2 l2) (f:p= -q) (g:BY p c1 m1 c2 m2):CF 199 [.agg (Bw b1 l1 b2 l2)] (.agg (Bw c1 m1 c2 m2)):=by
 refine AG Tryz.func199 fun E j=>?_
 obtain⟨k,m,d⟩:=Ak (-q.num);refine AB j (MF h.num d) ?_;exact AE ⟨⟨rfl,congrArg _ ((d.uniq g.num (by rw[f];rfl)).1.symm),congrArg _ ((d.uniq g.num (by rw[f];rfl)).2.symm),congrArg _ ((h.den.uniq g.den (by rw[f];rfl)).1.symm),congrArg _ ((h.den.uniq g.den (by rw[f];rfl)).2.symm),trivial⟩,trivial⟩
theorem eV {p q:Rat} {c:Int} (f:BY p b1 l1 b2 l2) (g:BY q c1 m1 c2 m2) (k:CR p) (ht:CR q) (D:c=Gu p q):CF 364 [.agg (Bw b1 l1 b2 l2),.agg (Bw c1 m1 c2 m2)] (.one (.int .i64 c)):=by
 refine AG Tryz.func364 fun E o=>?_
 obtain⟨w,z,j⟩:=Ak (p.num*q.den);refine AB (r:= .agg [.bool w,.sl .u32 z]) o (Dr f.num g.den j (by have:=f.small k;have:=g.small ht;omega) (by have:=f.small k;have:=g.small ht;omega)) ?_;obtain⟨m,n,d⟩:=Ak (q.num*p.den);refine AB (r:= .agg [.bool m,.sl .u32 n]) o (Dr g.num f.den d (by have:=f.small k;have:=g.small ht;omega) (by have:=f.small k;have:=g.small ht;omega)) ?_;obtain⟨v,h⟩:=xI (Bu (p.num*q.den) (q.num*p.den));refine AB (r:= .one (.int .i64 v)) o (eD j d h (by have:=f.small k;have:=g.small ht;have:=f.num.Dh g.den j rfl;omega) (by have:=f.small k;have:=g.small ht;have:=g.num.Dh f.den d rfl;omega)) ?_;exact AF (by rw[D,h,Wk])
theorem VG {p q:Rat} (m:BY p b1 l1 b2 l2) (G:BY q c1 m1 c2 m2) (hs:CR p) (ht:CR q) (J:r=p*q) (H:BY r d1 k1 d2 k2):CF 203 [.agg (Bw b1 l1 b2 l2),.agg (Bw c1 m1 c2 m2)] (.agg (Bw d1 k1 d2 k2)):=by
 have ao:=m.small hs;have aq:=G.small ht;have d:=p.den_nz;have f:=q.den_nz;refine AG Tryz.func203 fun E F=>?_
 rintro ar ⟨al,f10⟩;refine BO (fun ah=>?_) fun ah=>?_
 ·obtain⟨N,W,L,M,g⟩:=CA (r);refine AB (r:= .agg [.bool N,.sl .u32 W,.bool L,.sl .u32 M]) F (EN (x:=0) (by omega) (by rw[J];first | (rw[Rat.num_eq_zero.1 (m.num.Fp.1 (by omega)),Rat.zero_mul];rfl) | (rw[Rat.num_eq_zero.1 (G.num.Fp.1 (by omega)),Rat.mul_zero];rfl)) g) ?_;exact AE ⟨⟨rfl,congrArg _ ((g.uniq H rfl).1.1.symm),congrArg _ ((g.uniq H rfl).1.2.symm),congrArg _ ((g.uniq H rfl).2.1.symm),congrArg _ ((g.uniq H rfl).2.2.symm),trivial⟩,trivial⟩
 intro au a8;have an:=a8.eq;have f16:=a8.le;refine BO (fun ai=>?_) fun ai=>?_
 ·obtain⟨N,W,L,M,g⟩:=CA (r);refine AB (r:= .agg [.bool N,.sl .u32 W,.bool L,.sl .u32 M]) F (EN (x:=0) (by omega) (by rw[J];first | (rw[Rat.num_eq_zero.1 (m.num.Fp.1 (by omega)),Rat.zero_mul];rfl) | (rw[Rat.num_eq_zero.1 (G.num.Fp.1 (by omega)),Rat.mul_zero];rfl)) g) ?_;exact AE ⟨⟨rfl,congrArg _ ((g.uniq H rfl).1.1.symm),congrArg _ ((g.uniq H rfl).1.2.symm),congrArg _ ((g.uniq H rfl).2.1.symm),congrArg _ ((g.uniq H rfl).2.2.symm),trivial⟩,trivial⟩
 obtain⟨af,k⟩:=xB (decide ((p.den:Int)=1));refine AB F (Iy m.den k) ?_;cases af <;> conv=>cbv
 ·obtain⟨aa,ad,h⟩:=Ak (((Nat.gcd p.num.natAbs q.den:Nat):Int));refine AB F (HA m.num G.den h (by omega) (by omega)) ?_;obtain⟨ab,ae,j⟩:=Ak (((Nat.gcd q.num.natAbs p.den:Nat):Int));refine AB F (HA G.num m.den j (by omega) (by omega)) ?_;obtain⟨O,Y,n⟩:=Ak (p.num/((Nat.gcd p.num.natAbs q.den:Nat):Int));refine AB (r:= .agg [.bool O,.sl .u32 Y]) F (EY m.num h (Es f) (E3 f).1 n (by omega) (by have:=Gw (x:=0) f G.den h;omega)) ?_;obtain⟨P,a1,o⟩:=Ak (q.num/((Nat.gcd q.num.natAbs p.den:Nat):Int));refine AB (r:= .agg [.bool P,.sl .u32 a1]) F (EY G.num j (Es d) (E3 d).1 o (by omega) (by have:=Gw (x:=0) d m.den j;omega)) ?_;obtain⟨Q,a2,v⟩:=Ak ((p.num/((Nat.gcd p.num.natAbs q.den:Nat):Int))*(q.num/((Nat.gcd q.num.natAbs p.den:Nat):Int)))
  refine AB (r:= .agg [.bool Q,.sl .u32 a2]) F (Dr n o v (by have:=GJ m.num n (Es f) (E3 f).1;omega) (by have:=GJ G.num o (Es d) (E3 d).1;omega)) ?_;obtain⟨S,a5,w⟩:=Ak ((p.den:Int)/((Nat.gcd q.num.natAbs p.den:Nat):Int));refine AB (r:= .agg [.bool S,.sl .u32 a5]) F (EY m.den j (Es d) (E3 d).2 w (by omega) (by have:=Gw (x:=0) d m.den j;omega)) ?_;obtain⟨U,a6,z⟩:=Ak ((q.den:Int)/((Nat.gcd p.num.natAbs q.den:Nat):Int));refine AB (r:= .agg [.bool U,.sl .u32 a6]) F (EY G.den h (Es f) (E3 f).2 z (by omega) (by have:=Gw (x:=0) f G.den h;omega)) ?_;obtain⟨V,a7,D⟩:=Ak (((p.den:Int)/((Nat.gcd q.num.natAbs p.den:Nat):Int))*((q.den:Int)/((Nat.gcd p.num.natAbs q.den:Nat):Int)));refine AB (r:= .agg [.bool V,.sl .u32 a7]) F (Dr w z D (by have:=GJ m.den w (Es d) (E3 d).2;omega) (by have:=GJ G.den z (Es f) (E3 f).2;omega)) ?_
  exact AE ⟨⟨rfl,congrArg _ ((v.uniq H.num (by rw[J,PY])).1.symm),congrArg _ ((v.uniq H.num (by rw[J,PY])).2.symm),congrArg _ ((D.uniq H.den (by rw[J,PX])).1.symm),congrArg _ ((D.uniq H.den (by rw[J,PX])).2.symm),trivial⟩,trivial⟩
 obtain⟨ag,I⟩:=xB (decide ((q.den:Int)=1));refine AB F (Iy G.den I) ?_;cases ag <;> conv=>cbv
 ·obtain⟨aa,ad,h⟩:=Ak (((Nat.gcd p.num.natAbs q.den:Nat):Int));refine AB F (HA m.num G.den h (by omega) (by omega)) ?_;obtain⟨ab,ae,j⟩:=Ak (((Nat.gcd q.num.natAbs p.den:Nat):Int));refine AB F (HA G.num m.den j (by omega) (by omega)) ?_;obtain⟨O,Y,n⟩:=Ak (p.num/((Nat.gcd p.num.natAbs q.den:Nat):Int));refine AB (r:= .agg [.bool O,.sl .u32 Y]) F (EY m.num h (Es f) (E3 f).1 n (by omega) (by have:=Gw (x:=0) f G.den h;omega)) ?_;obtain⟨P,a1,o⟩:=Ak (q.num/((Nat.gcd q.num.natAbs p.den:Nat):Int));refine AB (r:= .agg [.bool P,.sl .u32 a1]) F (EY G.num j (Es d) (E3 d).1 o (by omega) (by have:=Gw (x:=0) d m.den j;omega)) ?_;obtain⟨Q,a2,v⟩:=Ak ((p.num/((Nat.gcd p.num.natAbs q.den:Nat):Int))*(q.num/((Nat.gcd q.num.natAbs p.den:Nat):Int)))
  refine AB (r:= .agg [.bool Q,.sl .u32 a2]) F (Dr n o v (by have:=GJ m.num n (Es f) (E3 f).1;omega) (by have:=GJ G.num o (Es d) (E3 d).1;omega)) ?_;obtain⟨S,a5,w⟩:=Ak ((p.den:Int)/((Nat.gcd q.num.natAbs p.den:Nat):Int));refine AB (r:= .agg [.bool S,.sl .u32 a5]) F (EY m.den j (Es d) (E3 d).2 w (by omega) (by have:=Gw (x:=0) d m.den j;omega)) ?_;obtain⟨U,a6,z⟩:=Ak ((q.den:Int)/((Nat.gcd p.num.natAbs q.den:Nat):Int));refine AB (r:= .agg [.bool U,.sl .u32 a6]) F (EY G.den h (Es f) (E3 f).2 z (by omega) (by have:=Gw (x:=0) f G.den h;omega)) ?_;obtain⟨V,a7,D⟩:=Ak (((p.den:Int)/((Nat.gcd q.num.natAbs p.den:Nat):Int))*((q.den:Int)/((Nat.gcd p.num.natAbs q.den:Nat):Int)));refine AB (r:= .agg [.bool V,.sl .u32 a7]) F (Dr w z D (by have:=GJ m.den w (Es d) (E3 d).2;omega) (by have:=GJ G.den z (Es f) (E3 f).2;omega)) ?_
  exact AE ⟨⟨rfl,congrArg _ ((v.uniq H.num (by rw[J,PY])).1.symm),congrArg _ ((v.uniq H.num (by rw[J,PY])).2.symm),congrArg _ ((D.uniq H.den (by rw[J,PX])).1.symm),congrArg _ ((D.uniq H.den (by rw[J,PX])).2.symm),trivial⟩,trivial⟩
 obtain⟨aj,ak,K⟩:=Ak (p.num*q.num);refine AB F (Dr m.num G.num K (by omega) (by omega)) ?_;exact AE ⟨⟨rfl,congrArg _ ((K.uniq H.num (by rw[J];exact (mul_ones (of_decide_eq_true k.symm) (of_decide_eq_true I.symm)).1.symm)).1.symm),congrArg _ ((K.uniq H.num (by rw[J];exact (mul_ones (of_decide_eq_true k.symm) (of_decide_eq_true I.symm)).1.symm)).2.symm),congrArg _ ((m.den.uniq H.den (by rw[J,(mul_ones (of_decide_eq_true k.symm) (of_decide_eq_true I.symm)).2];exact of_decide_eq_true k.symm)).1.symm),congrArg _ ((m.den.uniq H.den (by rw[J,(mul_ones (of_decide_eq_true k.symm) (of_decide_eq_true I.symm)).2];exact of_decide_eq_true k.symm)).2.symm),trivial⟩,trivial⟩
theorem eU {p q:Rat} (j:BY p b1 l1 b2 l2) (g:BY q c1 m1 c2 m2) (hs:CR p) (ht:CR q) (N:r=p+q) (z:BY r d1 k1 d2 k2):CF 209 [.agg (Bw b1 l1 b2 l2),.agg (Bw c1 m1 c2 m2)] (.agg (Bw d1 k1 d2 k2)):=by
 have aW:=j.small hs;have aX:=g.small ht;have aV:=p.den_nz;have ab:=q.den_nz;have Q:((Nat.gcd p.den q.den:Nat):Int)≠0:=Es ab;obtain⟨x,ad⟩:=xI ((p.den:Int)/((Nat.gcd p.den q.den:Nat):Int));obtain⟨y,ae⟩:=xI ((q.den:Int)/((Nat.gcd p.den q.den:Nat):Int));have a6:(p.den:Int)=x*((Nat.gcd p.den q.den:Nat):Int):=by rw[ad];exact (Int.ediv_mul_cancel (Int.natCast_dvd_natCast.2 (Nat.gcd_dvd_left _ _))).symm
 have a7:(q.den:Int)=y*((Nat.gcd p.den q.den:Nat):Int):=by rw[ae];exact (Int.ediv_mul_cancel (Int.natCast_dvd_natCast.2 (Nat.gcd_dvd_right _ _))).symm
 refine Gs Tryz.func209 fun E h=>?_
 refine AS ?_;rintro b0 ⟨aT,f14⟩;refine Kx ?_ ?_ <;> intro aY <;> conv=>cbv
 ·have e0:p=0:=Rat.num_eq_zero.1 (j.num.Fp.1 (by omega));have e1:r=q:=by rw[N,e0,Rat.zero_add]
  exact AE ⟨⟨rfl,congrArg _ ((g.num.uniq z.num (by rw[e1])).1.symm),congrArg _ ((g.num.uniq z.num (by rw[e1])).2.symm),congrArg _ ((g.den.uniq z.den (by rw[e1])).1.symm),congrArg _ ((g.den.uniq z.den (by rw[e1])).2.symm),trivial⟩,trivial⟩
 rintro b3 ⟨aU,f20⟩;conv=>cbv
 refine Kx ?_ ?_ <;> intro aZ <;> conv=>cbv
 ·have e0:q=0:=Rat.num_eq_zero.1 (g.num.Fp.1 (by omega));have e1:r=p:=by rw[N,e0,Rat.add_zero]
  exact AE ⟨⟨rfl,congrArg _ ((j.num.uniq z.num (by rw[e1])).1.symm),congrArg _ ((j.num.uniq z.num (by rw[e1])).2.symm),congrArg _ ((j.den.uniq z.den (by rw[e1])).1.symm),congrArg _ ((j.den.uniq z.den (by rw[e1])).2.symm),trivial⟩,trivial⟩
 obtain⟨aP,D⟩:=xB (decide ((p.den:Int)=1));refine BP h (Iy j.den D) ?_;conv=>cbv
 cases aP <;> conv=>cbv
 ·obtain⟨ao,aD,d⟩:=Ak (((Nat.gcd p.den q.den:Nat):Int));refine BP h (HA j.den g.den d (by omega) (by omega)) ?_;conv=>cbv
  have af:=Gw (x:=0) ab g.den d;obtain⟨a8,F⟩:=xB (decide (((Nat.gcd p.den q.den:Nat):Int)=1));refine BP h (Iy d F) ?_;conv=>cbv
  cases a8 <;> conv=>cbv
  ·obtain⟨av,aH,f⟩:=Ak (x);refine BP h (EY j.den d Q a6 f (by omega) (by omega)) ?_;conv=>cbv
   have ag:=GJ j.den f Q a6;obtain⟨aw,aI,m⟩:=Ak (y);refine BP h (EY g.den d Q a7 m (by omega) (by omega)) ?_;conv=>cbv
   have ah:=GJ g.den m Q a7;refine g2 rfl ?_;obtain⟨ax,aJ,n⟩:=Ak (p.num*y);refine BP h (Dr j.num m n (by omega) (by omega)) ?_;conv=>cbv
   have ai:=j.num.Dh m n rfl;obtain⟨ay,aK,o⟩:=Ak (q.num*x);refine BP h (Dr g.num f o (by omega) (by omega)) ?_;conv=>cbv
   have aj:=g.num.Dh f o rfl;obtain⟨az,aL,v⟩:=Ak ((p.num*y+q.num*x));refine BP h (Kb n o v (by omega) (by omega)) ?_;conv=>cbv
   have ak:=n.OE o v rfl (k:=8000000000000) (by omega) (by omega);refine g2 rfl ?_;obtain⟨a1,a5,w⟩:=Ak (((Nat.gcd (p.num*y+q.num*x).natAbs (Nat.gcd p.den q.den):Nat):Int));refine BP (r:= .agg [.bool a1,.sl .u32 a5]) h (HA v d (by rw[Int.natAbs_natCast];exact w) (by omega) (by omega)) ?_;try conv=>cbv
   have S:Nat.gcd p.den q.den≠0:=by omega
   have al:=Gw (x:=0) S d w;have aa:(p.num*y+q.num*x)=(p.num*y+q.num*x)/((Nat.gcd (p.num*y+q.num*x).natAbs (Nat.gcd p.den q.den):Nat):Int)*((Nat.gcd (p.num*y+q.num*x).natAbs (Nat.gcd p.den q.den):Nat):Int):=(E3 S).1;have U:=Es (a:=(p.num*y+q.num*x).natAbs) S;have V:(q.den:Int)=(q.den:Int)/((Nat.gcd (p.num*y+q.num*x).natAbs (Nat.gcd p.den q.den):Nat):Int)*((Nat.gcd (p.num*y+q.num*x).natAbs (Nat.gcd p.den q.den):Nat):Int):=(Int.ediv_mul_cancel (Int.natCast_dvd_natCast.2 (Nat.dvd_trans (Nat.gcd_dvd_right _ _) (Nat.gcd_dvd_right _ _)))).symm;obtain⟨aA,aM,K⟩:=Ak ((p.num*y+q.num*x)/((Nat.gcd (p.num*y+q.num*x).natAbs (Nat.gcd p.den q.den):Nat):Int));refine BP h (EY v w U aa K (by omega) (by omega)) ?_;conv=>cbv
   obtain⟨aB,aN,L⟩:=Ak ((q.den:Int)/((Nat.gcd (p.num*y+q.num*x).natAbs (Nat.gcd p.den q.den):Nat):Int));refine BP h (EY g.den w U V L (by omega) (by omega)) ?_;conv=>cbv
   have an:=GJ g.den L U V;obtain⟨aC,aO,M⟩:=Ak (x*((q.den:Int)/((Nat.gcd (p.num*y+q.num*x).natAbs (Nat.gcd p.den q.den):Nat):Int)));refine BP h (Dr f L M (by omega) (by omega)) ?_;conv=>cbv
   refine g2 rfl ?_;have O:=Vk p q rfl (fun e=>by have:=of_decide_eq_false F.symm;omega) ad ae rfl rfl;exact AE ⟨⟨rfl,congrArg _ ((K.uniq z.num (by rw[N];exact O.1.symm)).1.symm),congrArg _ ((K.uniq z.num (by rw[N];exact O.1.symm)).2.symm),congrArg _ ((M.uniq z.den (by rw[N];exact O.2.symm)).1.symm),congrArg _ ((M.uniq z.den (by rw[N];exact O.2.symm)).2.symm),trivial⟩,trivial⟩
  obtain⟨aq,aE,G⟩:=Ak (p.num*q.den);refine BP h (Dr j.num g.den G (by omega) (by omega)) ?_;conv=>cbv
  obtain⟨ar,aF,H⟩:=Ak (q.num*p.den);refine BP h (Dr g.num j.den H (by omega) (by omega)) ?_;conv=>cbv
  obtain⟨Y,a2,I⟩:=Ak (p.num*q.den+q.num*p.den);refine BP (r:= .agg [.bool Y,.sl .u32 a2]) h (Kb G H I (by have:=j.num.Dh g.den G rfl;omega) (by have:=g.num.Dh j.den H rfl;omega)) ?_;try conv=>cbv
  refine g2 rfl ?_;obtain⟨au,aG,J⟩:=Ak ((p.den:Int)*q.den);refine BP h (Dr j.den g.den J (by omega) (by omega)) ?_;conv=>cbv
  refine g2 rfl ?_;have O:=Vj p q (by have:=of_decide_eq_true F.symm;omega);exact AE ⟨⟨rfl,congrArg _ ((I.uniq z.num (by rw[N];exact O.1.symm)).1.symm),congrArg _ ((I.uniq z.num (by rw[N];exact O.1.symm)).2.symm),congrArg _ ((J.uniq z.den (by rw[N];exact O.2.symm)).1.symm),congrArg _ ((J.uniq z.den (by rw[N];exact O.2.symm)).2.symm),trivial⟩,trivial⟩
 obtain⟨aQ,P⟩:=xB (decide ((q.den:Int)=1));refine BP h (Iy g.den P) ?_;conv=>cbv
 cases aQ <;> conv=>cbv
 ·obtain⟨ao,aD,d⟩:=Ak (((Nat.gcd p.den q.den:Nat):Int));refine BP h (HA j.den g.den d (by omega) (by omega)) ?_;conv=>cbv
  have af:=Gw (x:=0) ab g.den d;obtain⟨a8,F⟩:=xB (decide (((Nat.gcd p.den q.den:Nat):Int)=1));refine BP h (Iy d F) ?_;conv=>cbv
  cases a8 <;> conv=>cbv
  ·obtain⟨av,aH,f⟩:=Ak (x);refine BP h (EY j.den d Q a6 f (by omega) (by omega)) ?_;conv=>cbv
   have ag:=GJ j.den f Q a6;obtain⟨aw,aI,m⟩:=Ak (y);refine BP h (EY g.den d Q a7 m (by omega) (by omega)) ?_;conv=>cbv
   have ah:=GJ g.den m Q a7;refine g2 rfl ?_;obtain⟨ax,aJ,n⟩:=Ak (p.num*y);refine BP h (Dr j.num m n (by omega) (by omega)) ?_;conv=>cbv
   have ai:=j.num.Dh m n rfl;obtain⟨ay,aK,o⟩:=Ak (q.num*x);refine BP h (Dr g.num f o (by omega) (by omega)) ?_;conv=>cbv
   have aj:=g.num.Dh f o rfl;obtain⟨az,aL,v⟩:=Ak ((p.num*y+q.num*x));refine BP h (Kb n o v (by omega) (by omega)) ?_;conv=>cbv
   have ak:=n.OE o v rfl (k:=8000000000000) (by omega) (by omega);refine g2 rfl ?_;obtain⟨a1,a5,w⟩:=Ak (((Nat.gcd (p.num*y+q.num*x).natAbs (Nat.gcd p.den q.den):Nat):Int));refine BP (r:= .agg [.bool a1,.sl .u32 a5]) h (HA v d (by rw[Int.natAbs_natCast];exact w) (by omega) (by omega)) ?_;try conv=>cbv
   have S:Nat.gcd p.den q.den≠0:=by omega
   have al:=Gw (x:=0) S d w;have aa:(p.num*y+q.num*x)=(p.num*y+q.num*x)/((Nat.gcd (p.num*y+q.num*x).natAbs (Nat.gcd p.den q.den):Nat):Int)*((Nat.gcd (p.num*y+q.num*x).natAbs (Nat.gcd p.den q.den):Nat):Int):=(E3 S).1;have U:=Es (a:=(p.num*y+q.num*x).natAbs) S;have V:(q.den:Int)=(q.den:Int)/((Nat.gcd (p.num*y+q.num*x).natAbs (Nat.gcd p.den q.den):Nat):Int)*((Nat.gcd (p.num*y+q.num*x).natAbs (Nat.gcd p.den q.den):Nat):Int):=(Int.ediv_mul_cancel (Int.natCast_dvd_natCast.2 (Nat.dvd_trans (Nat.gcd_dvd_right _ _) (Nat.gcd_dvd_right _ _)))).symm;obtain⟨aA,aM,K⟩:=Ak ((p.num*y+q.num*x)/((Nat.gcd (p.num*y+q.num*x).natAbs (Nat.gcd p.den q.den):Nat):Int));refine BP h (EY v w U aa K (by omega) (by omega)) ?_;conv=>cbv
   obtain⟨aB,aN,L⟩:=Ak ((q.den:Int)/((Nat.gcd (p.num*y+q.num*x).natAbs (Nat.gcd p.den q.den):Nat):Int));refine BP h (EY g.den w U V L (by omega) (by omega)) ?_;conv=>cbv
   have an:=GJ g.den L U V;obtain⟨aC,aO,M⟩:=Ak (x*((q.den:Int)/((Nat.gcd (p.num*y+q.num*x).natAbs (Nat.gcd p.den q.den):Nat):Int)));refine BP h (Dr f L M (by omega) (by omega)) ?_;conv=>cbv
   refine g2 rfl ?_;have O:=Vk p q rfl (fun e=>by have:=of_decide_eq_false F.symm;omega) ad ae rfl rfl;exact AE ⟨⟨rfl,congrArg _ ((K.uniq z.num (by rw[N];exact O.1.symm)).1.symm),congrArg _ ((K.uniq z.num (by rw[N];exact O.1.symm)).2.symm),congrArg _ ((M.uniq z.den (by rw[N];exact O.2.symm)).1.symm),congrArg _ ((M.uniq z.den (by rw[N];exact O.2.symm)).2.symm),trivial⟩,trivial⟩
  obtain⟨aq,aE,G⟩:=Ak (p.num*q.den);refine BP h (Dr j.num g.den G (by omega) (by omega)) ?_;conv=>cbv
  obtain⟨ar,aF,H⟩:=Ak (q.num*p.den);refine BP h (Dr g.num j.den H (by omega) (by omega)) ?_;conv=>cbv
  obtain⟨Y,a2,I⟩:=Ak (p.num*q.den+q.num*p.den);refine BP (r:= .agg [.bool Y,.sl .u32 a2]) h (Kb G H I (by have:=j.num.Dh g.den G rfl;omega) (by have:=g.num.Dh j.den H rfl;omega)) ?_;try conv=>cbv
  refine g2 rfl ?_;obtain⟨au,aG,J⟩:=Ak ((p.den:Int)*q.den);refine BP h (Dr j.den g.den J (by omega) (by omega)) ?_;conv=>cbv
  refine g2 rfl ?_;have O:=Vj p q (by have:=of_decide_eq_true F.symm;omega);exact AE ⟨⟨rfl,congrArg _ ((I.uniq z.num (by rw[N];exact O.1.symm)).1.symm),congrArg _ ((I.uniq z.num (by rw[N];exact O.1.symm)).2.symm),congrArg _ ((J.uniq z.den (by rw[N];exact O.2.symm)).1.symm),congrArg _ ((J.uniq z.den (by rw[N];exact O.2.symm)).2.symm),trivial⟩,trivial⟩
 obtain⟨aR,aS,W⟩:=Ak (p.num+q.num);refine BP h (Kb j.num g.num W (by omega) (by omega)) ?_;conv=>cbv
 refine g2 rfl ?_;exact AE ⟨⟨rfl,congrArg _ ((W.uniq z.num (by rw[N];exact (Iz (of_decide_eq_true D.symm) (of_decide_eq_true P.symm)).1.symm)).1.symm),congrArg _ ((W.uniq z.num (by rw[N];exact (Iz (of_decide_eq_true D.symm) (of_decide_eq_true P.symm)).1.symm)).2.symm),congrArg _ ((j.den.uniq z.den (by rw[N,(Iz (of_decide_eq_true D.symm) (of_decide_eq_true P.symm)).2];exact of_decide_eq_true D.symm)).1.symm),congrArg _ ((j.den.uniq z.den (by rw[N,(Iz (of_decide_eq_true D.symm) (of_decide_eq_true P.symm)).2];exact of_decide_eq_true D.symm)).2.symm),trivial⟩,trivial⟩
theorem kO {p:Rat} (h:p≠0):(1/p).num=(if p.num<0 then -(p.den:Int) else p.den)/\((1/p).den:Int)=if p.num<0 then -p.num else p.num:=by
 have f:p.num≠0:=mt Rat.num_eq_zero.1 h;have e:1/p=Rat.inv p:=by rw[Rat.div_def,Rat.one_mul];rfl
 rw[e];unfold Rat.inv
 split
 ·rename_i d;exact⟨rfl,by show ((p.num.natAbs:Nat):Int)=_;omega⟩
 rename_i d
 rw[dif_pos (by omega)];exact⟨rfl,by show ((p.num.natAbs:Nat):Int)=_;omega⟩
theorem eW {p:Rat} (j:BY p b1 l1 b2 l2) (w:p≠0) (z:r=1/p) (k:BY r d1 k1 d2 k2):CF 263 [.agg (Bw b1 l1 b2 l2)] (.agg (Bw d1 k1 d2 k2)):=by
 obtain⟨f,d⟩:=kO w;rw[<-z] at f d;refine AG Tryz.func263 fun E n=>?_
 cases b1 <;> conv=>cbv
 ·have h:=SB j.num rfl;exact AE ⟨⟨rfl,congrArg _ ((j.den.uniq k.num (by rw[f,if_neg h])).1.symm),congrArg _ ((j.den.uniq k.num (by rw[f,if_neg h])).2.symm),congrArg _ ((j.num.uniq k.den (by rw[d,if_neg h])).1.symm),congrArg _ ((j.num.uniq k.den (by rw[d,if_neg h])).2.symm),trivial⟩,trivial⟩
 obtain⟨D,F,m⟩:=Ak (-(p.den:Int));refine AB n (MF j.den m) ?_;obtain⟨o,v,g⟩:=Ak (-p.num);refine AB n (MF j.num g) ?_;have h:=SC j.num rfl;exact AE ⟨⟨rfl,congrArg _ ((m.uniq k.num (by rw[f,if_pos h])).1.symm),congrArg _ ((m.uniq k.num (by rw[f,if_pos h])).2.symm),congrArg _ ((g.uniq k.den (by rw[d,if_pos h])).1.symm),congrArg _ ((g.uniq k.den (by rw[d,if_pos h])).2.symm),trivial⟩,trivial⟩
theorem ee {p:Rat} (f:BY p b1 l1 b2 l2) (v:CR p):CF 96 [.agg (Bw b1 l1 b2 l2)] (.one (.bool true)):=by
 have w:=f.small v;have o:=p.den_pos;refine AG Tryz.func96 fun E g=>?_
 refine AB g (VO f.num) ?_;refine AB g (VO f.den) ?_;obtain⟨n,h⟩:=xI ((1:Int));refine AB (r:= .one (.int .i64 n)) g (Jh f.den (h.trans (by unfold Cg;rw[if_neg (by omega),if_neg (by omega)]))) ?_;refine E0 (fun j=>?_) fun j=>?_
 ·exact absurd j (by omega)
 obtain⟨k,m,d⟩:=Ak ((1:Int));refine AB (r:= .agg [.bool k,.sl .u32 m]) g (HA f.num f.den (by rw[Int.natAbs_natCast,show Nat.gcd p.num.natAbs p.den=1 from p.reduced];exact d) (by omega) (by omega)) ?_;refine AB g (Iy d rfl) ?_;exact AE ⟨t2,trivial⟩
theorem Ye {d r:Int} (f:r=Cg d) (h:r<0):d<0:=by rcases Fs d with⟨a,e⟩ |⟨a,e⟩ |⟨a,e⟩ <;> omega
theorem Yi {d r:Int} (f:r=Cg d) (h:0<=r):¬d<0:=by rcases Fs d with⟨a,e⟩ |⟨a,e⟩ |⟨a,e⟩ <;> omega
theorem Oi {g:Int} (d:g≠0) (h:g∣x):x=Ch x g*g:=by
 unfold Ch
 split
 ·exact (Int.ediv_mul_cancel h).symm
 have:=Int.ediv_mul_cancel (a:= -x) (b:= -g) (Int.neg_dvd.2 (Int.dvd_neg.2 h));rw[Int.mul_neg] at this
 generalize -x/ -g*g=Q at*
 omega
theorem O3 (n d:Int):(if d<0 then -((Nat.gcd n.natAbs d.natAbs:Nat):Int) else ((Nat.gcd n.natAbs d.natAbs:Nat):Int))∣n/\(if d<0 then -((Nat.gcd n.natAbs d.natAbs:Nat):Int) else ((Nat.gcd n.natAbs d.natAbs:Nat):Int))∣d:=by
 have f:((Nat.gcd n.natAbs d.natAbs:Nat):Int)∣n:=Int.ofNat_dvd_left.2 (Nat.gcd_dvd_left _ _);have g:((Nat.gcd n.natAbs d.natAbs:Nat):Int)∣d:=Int.ofNat_dvd_left.2 (Nat.gcd_dvd_right _ _)
 split
 ·exact⟨Int.neg_dvd.2 f,Int.neg_dvd.2 g⟩
 exact⟨f,g⟩
theorem eO {n d:Int} {q:Rat} (U:BA n b1 l1) (G:BA d b2 l2) (F:d≠0) (S:q=Rat.divInt n d) (H:BY q c1 m1 c2 m2) (s1:l1.length<=17592186042000) (s2:l2.length<=17592186042000):CF 265 [.agg (BX b1 l1),.agg (BX b2 l2)] (.agg (Bw c1 m1 c2 m2)):=by
 refine AG Tryz.func265 fun E I=>?_
 obtain⟨W,Y,m⟩:=Ak (((Nat.gcd n.natAbs d.natAbs:Nat):Int));refine AB I (HA U G m (by omega) (by omega)) ?_;obtain⟨a1,j⟩:=xI (Cg d);refine AB I (Jh G j) ?_;intro V L;refine .inr ?_;cases V <;> conv=>cbv
 ·have o:=Dw L;obtain⟨v,z,f⟩:=Ak (Ch n (if d<0 then -((Nat.gcd n.natAbs d.natAbs:Nat):Int) else ((Nat.gcd n.natAbs d.natAbs:Nat):Int)));have O:BA (if d<0 then -((Nat.gcd n.natAbs d.natAbs:Nat):Int) else ((Nat.gcd n.natAbs d.natAbs:Nat):Int)) W Y:=by rw[if_neg (Yi j o)];exact m
  have h:(if d<0 then -((Nat.gcd n.natAbs d.natAbs:Nat):Int) else ((Nat.gcd n.natAbs d.natAbs:Nat):Int))≠0:=by rw[if_neg (Yi j o)];have:=O1 (n:=n) F;omega
  have N:Ch n (if d<0 then -((Nat.gcd n.natAbs d.natAbs:Nat):Int) else ((Nat.gcd n.natAbs d.natAbs:Nat):Int))=q.num:=by rw[S];exact (PO F).symm
  have M:Ch d (if d<0 then -((Nat.gcd n.natAbs d.natAbs:Nat):Int) else ((Nat.gcd n.natAbs d.natAbs:Nat):Int))=(q.den:Int):=by rw[S];exact (PM F).symm
  have K:n=Ch n (if d<0 then -((Nat.gcd n.natAbs d.natAbs:Nat):Int) else ((Nat.gcd n.natAbs d.natAbs:Nat):Int))*(if d<0 then -((Nat.gcd n.natAbs d.natAbs:Nat):Int) else ((Nat.gcd n.natAbs d.natAbs:Nat):Int)):=Oi h (O3 n d).1;have J:d=Ch d (if d<0 then -((Nat.gcd n.natAbs d.natAbs:Nat):Int) else ((Nat.gcd n.natAbs d.natAbs:Nat):Int))*(if d<0 then -((Nat.gcd n.natAbs d.natAbs:Nat):Int) else ((Nat.gcd n.natAbs d.natAbs:Nat):Int)):=Oi h (O3 n d).2;refine AB (r:= .agg [.bool v,.sl .u32 z]) I (EY U O h (K) f (by omega) (by have:=Mq F G m;omega)) ?_;obtain⟨w,D,g⟩:=Ak (Ch d (if d<0 then -((Nat.gcd n.natAbs d.natAbs:Nat):Int) else ((Nat.gcd n.natAbs d.natAbs:Nat):Int)));refine AB (r:= .agg [.bool w,.sl .u32 D]) I (EY G O h (J) g (by omega) (by have:=Mq F G m;omega)) ?_;exact AE ⟨⟨rfl,congrArg _ ((f.uniq H.num N).1.symm),congrArg _ ((f.uniq H.num N).2.symm),congrArg _ ((g.uniq H.den M).1.symm),congrArg _ ((g.uniq H.den M).2.symm),trivial⟩,trivial⟩
 have o:=Dx L;obtain⟨P,Q,k⟩:=Ak (-((Nat.gcd n.natAbs d.natAbs:Nat):Int));refine AB I (MF m k) ?_;obtain⟨v,z,f⟩:=Ak (Ch n (if d<0 then -((Nat.gcd n.natAbs d.natAbs:Nat):Int) else ((Nat.gcd n.natAbs d.natAbs:Nat):Int)));have O:BA (if d<0 then -((Nat.gcd n.natAbs d.natAbs:Nat):Int) else ((Nat.gcd n.natAbs d.natAbs:Nat):Int)) P Q:=by rw[if_pos (Ye j o)];exact k
 have h:(if d<0 then -((Nat.gcd n.natAbs d.natAbs:Nat):Int) else ((Nat.gcd n.natAbs d.natAbs:Nat):Int))≠0:=by rw[if_pos (Ye j o)];have:=O1 (n:=n) F;omega
 have N:Ch n (if d<0 then -((Nat.gcd n.natAbs d.natAbs:Nat):Int) else ((Nat.gcd n.natAbs d.natAbs:Nat):Int))=q.num:=by rw[S];exact (PO F).symm
 have M:Ch d (if d<0 then -((Nat.gcd n.natAbs d.natAbs:Nat):Int) else ((Nat.gcd n.natAbs d.natAbs:Nat):Int))=(q.den:Int):=by rw[S];exact (PM F).symm
 have K:n=Ch n (if d<0 then -((Nat.gcd n.natAbs d.natAbs:Nat):Int) else ((Nat.gcd n.natAbs d.natAbs:Nat):Int))*(if d<0 then -((Nat.gcd n.natAbs d.natAbs:Nat):Int) else ((Nat.gcd n.natAbs d.natAbs:Nat):Int)):=Oi h (O3 n d).1;have J:d=Ch d (if d<0 then -((Nat.gcd n.natAbs d.natAbs:Nat):Int) else ((Nat.gcd n.natAbs d.natAbs:Nat):Int))*(if d<0 then -((Nat.gcd n.natAbs d.natAbs:Nat):Int) else ((Nat.gcd n.natAbs d.natAbs:Nat):Int)):=Oi h (O3 n d).2;refine AB (r:= .agg [.bool v,.sl .u32 z]) I (EY U O h (K) f (by omega) (by have:=O0 F G k;omega)) ?_;obtain⟨w,D,g⟩:=Ak (Ch d (if d<0 then -((Nat.gcd n.natAbs d.natAbs:Nat):Int) else ((Nat.gcd n.natAbs d.natAbs:Nat):Int)));refine AB (r:= .agg [.bool w,.sl .u32 D]) I (EY G O h (J) g (by omega) (by have:=O0 F G k;omega)) ?_;exact AE ⟨⟨rfl,congrArg _ ((f.uniq H.num N).1.symm),congrArg _ ((f.uniq H.num N).2.symm),congrArg _ ((g.uniq H.den M).1.symm),congrArg _ ((g.uniq H.den M).2.symm),trivial⟩,trivial⟩
theorem Qg {n d:Int} {q:Rat} (m: -9223372036854775808<=n/\n<9223372036854775808) (k: -9223372036854775808<=d/\d<9223372036854775808) (j:d≠0) (z:q=Rat.divInt n d) (D:BY q c1 m1 c2 m2):CF 188 [.one (.int .i64 n),.one (.int .i64 d)] (.agg (Bw c1 m1 c2 m2)):=by
 refine AG Tryz.func188 fun E h=>?_
 refine BO (fun o=>?_) fun o=>?_
 ·exact absurd o j
 obtain⟨F,G,g⟩:=Ak (n);refine AB h (MD m g) ?_;obtain⟨v,w,f⟩:=Ak (d);refine AB h (MD k f) ?_;refine AB (r:= .agg [.bool c1,.sl .u32 m1,.bool c2,.sl .u32 m2]) h (eO g f j z D (by have:=QN m g;omega) (by have:=QN k f;omega)) ?_;exact AE ⟨⟨rfl,rfl,rfl,rfl,rfl,trivial⟩,trivial⟩
end
section
open Go.RowKit
variable {C X Z:LR} {R i zn:Nat} {T:List LR} {b1 b2:Bool} {l1 l2:List UInt32} {q:Rat} {u:List (List Rat)} {xs:List Rat}
theorem Jw {x:el AA} (f:X=BI xs) (d:X[i]? =some x):∃q,BY q x.1.1 x.1.2 x.2.1 x.2.2/\xs[i]? =some q/\x=rp q:=by
 rw[f,BI,List.getElem?_map] at d;cases h:xs[i]? with
 | none=>rw[h] at d;simp at d
 | some q=>
  rw[h] at d;have e:x=rp q:=(Option.some.inj d).symm;exact⟨q,by rw[e];exact Gx q,rfl,e⟩
theorem Zw (h:xs[i]? =some q):BI (xs.take (i+1))=BI (xs.take i)++[rp q]:=by
 rw[DO h,BI,BI,List.map_append];rfl
theorem VP {c:Bool} (F:X=BI xs) (G:c=decide (∀q∈xs,q=0)):CF 204 [.one (.sl AA X)] (.one (.bool c)):=by
 have J:X.length=xs.length:=by rw[F,List.length_map]
 refine AG Tryz.func204 fun E Y=>?_
 refine BN [] [0,3] [] (fun vs I k=>∃(i':Nat) (i:Int),vs=[.one (.sl AA X),.one (.int .i64 i)]/\(AO i i'/\i'<=X.length)/\(∀q∈xs.take i',q=0)/\k=X.length-i') (X.length-0) ⟨0,0,rfl,⟨BD 0,by omega⟩,by simp,rfl⟩ ?_;rintro S m vs I P ⟨i',i,rfl,⟨K,L⟩,hinv,M⟩;have V:=K.eq;refine AS ?_;rintro n6 ⟨U,f6⟩;refine BW (fun O=>?_) fun O=>?_
 ·exact AF (by rw[G,decide_eq_true];intro z d;rw[<-List.take_of_length_le (show xs.length<=i' by omega)] at d;exact hinv z d)
 refine .inr ?_;refine AW i' fun w g=>?_
 try conv=>cbv
 obtain⟨q,H,f,N⟩:=Jw F g;rintro v ⟨j,f16⟩;conv=>cbv
 have D:v=((List.length (α:=UInt32) w.1.2:Nat):Int):=j;refine FJ (fun o=>?_) fun o=>?_
 ·have n:q≠0:=fun e=>by have:=H.num.Fp.2 (Rat.num_eq_zero.2 e);omega
  exact AF (by rw[G,decide_eq_false];exact fun h=>n (h q (List.mem_of_getElem? f)))
 intro Q W;refine⟨X.length-(i'+1),?_,?_⟩
 ·omega
 rw[m];refine⟨i'+1,Q,rfl,⟨⟨by omega⟩,by omega⟩,?_,rfl⟩;intro z d;rw[DO f] at d;rcases List.mem_append.1 d with d | d
 ·exact hinv z d
 rw[List.mem_singleton.1 d];exact Rat.num_eq_zero.1 (H.num.Fp.1 (by omega))
theorem VY {n:Int} (m:X=BI xs) (K:D8 xs) (V:n=(xs.length:Int)):CF 297 [.one (.sl AA X),.one (.int .i64 n)] (.one (.bool true)):=by
 have D:X.length=xs.length:=by rw[m,List.length_map]
 refine AG Tryz.func297 fun E z=>?_
 refine BN [] [0,1,5] [] (fun vs o k=>∃(i':Nat) (i:Int),vs=[.one (.sl AA X),.one (.int .i64 n),.one (.int .i64 i)]/\(AO i i'/\i'<=X.length)/\k=X.length-i') (X.length-0) ⟨0,0,rfl,⟨BD 0,by omega⟩,rfl⟩ ?_;rintro Q g vs o M ⟨i',i,rfl,⟨F,G⟩,H⟩;have U:=F.eq;refine AS ?_;rintro W ⟨S,f8⟩;refine BW (fun L=>?_) fun L=>?_
 ·rintro N ⟨v,f19⟩ O f;exact AF (by rw[f];simp;omega)
 refine .inr ?_;refine AW i' fun P d=>?_
 try conv=>cbv
 obtain⟨q,I,J,h⟩:=IS m K d;refine AB z (ee I h) ?_;refine BH ?_;intro j w;exact Ba g ⟨i'+1,j,rfl,⟨⟨by omega⟩,by omega⟩,rfl⟩
theorem VK (h:BF R u) (v:T=tw u):CF 296 [.one (.sl (.sl AA) T)] (.one (.bool true)):=by
 have D:T.length=u.length:=by rw[v,CG]
 have F:=h.ht;refine AG Tryz.func296 fun E z=>?_
 refine BN [] [0,3] [] (fun vs w k=>∃(i':Nat) (i:Int),vs=[.one (.sl (.sl AA) T),.one (.int .i64 i)]/\(AO i i'/\i'<=T.length)/\k=T.length-i') (T.length-0) ⟨0,0,rfl,⟨BD 0,by omega⟩,rfl⟩ ?_;rintro O m vs w K ⟨i',i,rfl,⟨G,H⟩,I⟩;have Q:=G.eq;refine AS ?_;rintro U ⟨P,f6⟩;refine BW (fun J=>?_) fun J=>?_
 ·exact AE ⟨t2,trivial⟩
 refine .inr ?_;refine AW i' fun N f=>?_
 try conv=>cbv
 obtain⟨y,n,g⟩:=Jv v f;have o:=Lf h.red _ y g;refine AK ?_;intro L j;have d:=(FA (k:=i') j (by omega)).eq;refine AB (r:= .one (.bool true)) z (VY n ((h.tb y (List.mem_reverse.1 (List.mem_of_getElem? g))).CT h.hR) (by rw[o];exact d)) ?_;refine BH ?_;intro M S;exact Ba m ⟨i'+1,M,rfl,⟨⟨by omega⟩,by omega⟩,rfl⟩
theorem MC {A:LR} {s:Nat} {x:Re} (h:BF R u) (n:T=tw u) (v:A=em u x) (o:El u s x) (z:s<=60000000000000:=by omega):CF 230 [.one (.sl (.sl AA) T),.one (.sl AA A)] (.one (.bool true)):=by
 have j:T.length=u.length:=by rw[n,CG]
 have w:=h.ht;refine AG Tryz.func230 fun E m=>?_
 refine AB m (VK h n) ?_;rintro D ⟨f,f10⟩ F g;have d:=(FA (k:=u.length) g (f.trans (congrArg _ j))).eq;refine AB (r:= .one (.bool true)) m (VY v (o.CT z) (by rw[o.len];exact d)) ?_;exact AE ⟨t2,trivial⟩
theorem VA (h:BF R u) (Y:T=tw u) (hq:BY q b1 l1 b2 l2) (V:C=em u (Re.ofRat q)) (N:zn=C.length):CF 205 [.one (.sl (.sl AA) T),.agg (Bw b1 l1 b2 l2)] (.one (.own AA C zn)):=by
 have L:T.length=u.length:=by rw[Y,CG]
 have a1:=h.ht;have S:=DX h.ht;have a7:=DI u.length;refine AG Tryz.func205 fun E W=>?_
 refine⟨[((b1,l1),(b2,l2))],fun _=>⟨rfl,by decide,rfl,⟨rfl,by first | exact t1 | exact t2 | exact t4 | simp[BR,BV,cells],trivial⟩⟩,.inl ?_⟩;try conv=>cbv
 refine BN [] [0,5] [7] (fun vs P k=>∃(o:LR) (mm j:Nat),vs=[.one (.sl (.sl AA) T),.one (.AZ AA 7 0 0 mm)]/\P=[.arr 0 AA o]/\(mm=o.length/\o.length=j+1/\o.length<=2^u.length)/\o=rp q::List.replicate j (rp 0)/\k=2^u.length-o.length) (2^u.length-[rp q].length) ⟨[rp q],1,0,rfl,by rw[hq.rp];rfl,⟨rfl,rfl,by show 1<=_;omega⟩,rfl,rfl⟩ ?_;rintro J0 K vs P a8 ⟨o,mm,j,rfl,rfl,⟨F,a5,a6⟩,hinv,a2⟩;conv=>cbv
 intro n9 U;have e9:=U.eq;refine AK ?_;rintro aa ⟨I,f11⟩ ab J;have Q:=(FA (k:=u.length) J (I.trans (congrArg _ L))).eq;refine BW (fun O=>?_) fun O=>?_
 ·have v:C=o:=by rw[V,em,Hj q h.red,hinv,show j=2^u.length-1 by omega,BI,List.map_cons,List.map_replicate]
  exact AE ⟨⟨rfl,.inr (.inl ⟨_,_,by decide,rfl,rfl,F,rfl,Dm (v) (by rw[N,v])⟩),trivial⟩,trivial⟩
 refine .inr ?_;obtain⟨g,m,d,f,z⟩:=CA (((0:Int):Rat));refine AB W (EN (by omega) rfl z) ?_;refine⟨[((g,m),(d,f))],fun _=>⟨rfl,by decide,rfl,⟨rfl,by first | exact t1 | exact t2 | exact t4 | simp[BR,BV,cells],trivial⟩⟩,.inr ?_⟩;try conv=>cbv
 refine .inl ⟨[((g,m),(d,f))],fun _=>⟨rfl,F,rfl,by show (o.length+1)*64<=140737488355328;(try simp only[List.length_take,List.length_drop]);omega⟩,?_⟩;intro (n:LR) H D;have w:n=(o:LR)++([((g,m),(d,f))]:LR):=D.1;have G:H=List.length (α:=(el AA)) n:=D.2;conv=>cbv
 have M:n.length=o.length+1:=by rw[w];simp
 exact Ba K ⟨n,H,j+1,rfl,rfl,⟨G,by omega,by omega⟩,by rw[w,hinv,List.replicate_succ',List.cons_append,<-z.rp];rfl,rfl⟩
theorem Gp (h:BF R u) (f:T=tw u) (g:BY q b1 l1 b2 l2) (d:C=em u (Re.ofRat q)):CF 205 [.one (.sl (.sl AA) T),.agg (Bw b1 l1 b2 l2)] (.one (.sl AA C)):=DV (VA h f g d rfl)
theorem eS (M:X=BI xs) (hl:xs.length<=1000000) (Q:Z=BI (xs.map (- ·))):CF 98 [.one (.sl (.sl AA) T),.one (.sl AA X)] (.one (.sl AA Z)):=by
 have P:X.length=xs.length:=by rw[M,List.length_map]
 refine AG Tryz.func98 fun E O=>?_
 refine BN [(5,AA,true)] [1,5,6] [5] (fun vs L k=>∃(o:LR) (mm i':Nat) (i:Int),vs=[.one (.sl AA X),.one (.AZ AA 5 0 0 mm),.one (.int .i64 i)]/\L=[.arr 0 AA o]/\(AO i i'/\i'<=X.length/\mm=o.length)/\o=BI ((xs.map (- ·)).take i')/\k=X.length-i') X.length ⟨[],0,0,0,rfl,rfl,⟨BD 0,Nat.zero_le _,rfl⟩,rfl,rfl⟩ ?_;rintro J0 G vs L a2 ⟨o,mm,i',i,rfl,rfl,⟨S,U,w⟩,hinv,V⟩;conv=>cbv
 have ei:=S.eq;have W:o.length<=X.length:=by rw[hinv,BI,List.length_map,List.length_take,List.length_map];omega
 rintro n9 ⟨e9,f9⟩;conv=>cbv
 refine BW (fun J=>?_) fun J=>?_
 ·exact AE ⟨⟨rfl,.inl ⟨_,rfl,by omega,congrArg _ (by rw[Q,w,hinv,List.drop_zero,List.take_length,List.take_of_length_le (by rw[List.length_map];omega)])⟩,trivial⟩,trivial⟩
 refine .inr ?_;refine AW i' fun a5 D=>?_
 try conv=>cbv
 obtain⟨q,Y,H,a1⟩:=Jw M D;have I:(xs.map (- ·))[i']? =some (-q):=by rw[List.getElem?_map,H];rfl
 obtain⟨g,h,d,f,j⟩:=CA (-q);refine AB O (eX Y rfl j) ?_;refine⟨[((g,h),(d,f))],fun _=>⟨rfl,by decide,rfl,⟨rfl,by first | exact t1 | exact t2 | exact t4 | simp[BR,BV,cells],trivial⟩⟩,.inr ?_⟩;try conv=>cbv
 refine .inl ⟨[((g,h),(d,f))],fun _=>⟨rfl,w,rfl,by show (o.length+1)*64<=140737488355328;(try simp only[List.length_take,List.length_drop]);omega⟩,?_⟩;intro (n:LR) F m;have v:n=(o:LR)++([((g,h),(d,f))]:LR):=m.1;have z:F=List.length (α:=(el AA)) n:=m.2;refine AK ?_;intro K N;exact Ba G ⟨n,F,i'+1,K,rfl,rfl,⟨⟨by omega⟩,by omega,z⟩,by rw[v,hinv,Zw I,<-j.rp],rfl⟩
theorem dy {Y:LR} {ys:List Rat} (U:X=BI xs) (V:Y=BI ys) (hs:D8 xs) (ht:D8 ys) (aa:ys.length=xs.length) (hl:xs.length<=1000000) (hZ:Z=BI (List.zipWith (· + ·) xs ys)) (O:zn=Z.length):CF 115 [.one (.sl (.sl AA) T),.one (.sl AA X),.one (.sl AA Y)] (.one (.own AA Z zn)):=by
 have a2:X.length=xs.length:=by rw[U,List.length_map]
 have a5:Y.length=ys.length:=by rw[V,List.length_map]
 refine AG Tryz.func115 fun E hE=>?_
 refine BN [(7,AA,true)] [1,2,7,8] [7] (fun vs S k=>∃(o:LR) (mm i':Nat) (i:Int),vs=[.one (.sl AA X),.one (.sl AA Y),.one (.AZ AA 7 0 0 mm),.one (.int .i64 i)]/\S=[.arr 0 AA o]/\(AO i i'/\i'<=X.length/\mm=o.length)/\o=BI ((List.zipWith (· + ·) xs ys).take i')/\k=X.length-i') X.length ⟨[],0,0,0,rfl,rfl,⟨BD 0,Nat.zero_le _,rfl⟩,rfl,rfl⟩ ?_;rintro J0 I vs S ab ⟨o,mm,i',i,rfl,rfl,⟨hi,a6,z⟩,hinv,a7⟩;conv=>cbv
 have ei:=hi.eq;have a8:o.length<=X.length:=by rw[hinv,BI,List.length_map,List.length_take,List.length_zipWith];omega
 rintro ad ⟨W,f11⟩;conv=>cbv
 refine BW (fun P=>?_) fun P=>?_
 ·have j:Z=o:=by rw[hZ,hinv,List.take_of_length_le (by rw[List.length_zipWith];omega)]
  exact AE ⟨⟨rfl,.inr (.inl ⟨_,_,by decide,rfl,rfl,z,rfl,Dm (j) (by rw[O,j])⟩),trivial⟩,trivial⟩
 refine .inr ?_;refine AW i' fun ae F=>?_
 try conv=>cbv
 refine AW i' fun af G=>?_
 try conv=>cbv
 obtain⟨p,hp,J,M⟩:=IS U hs F;obtain⟨q,hq,K,N⟩:=IS V ht G;have L:(List.zipWith (· + ·) xs ys)[i']? =some (p+q):=by rw[List.getElem?_zipWith,J,K]
 obtain⟨g,h,d,f,m⟩:=CA (p+q);refine AB hE (eU hp hq M N rfl m) ?_;refine⟨[((g,h),(d,f))],fun _=>⟨rfl,by decide,rfl,⟨rfl,by first | exact t1 | exact t2 | exact t4 | simp[BR,BV,cells],trivial⟩⟩,.inr ?_⟩;try conv=>cbv
 refine .inl ⟨[((g,h),(d,f))],fun _=>⟨rfl,z,rfl,by show (o.length+1)*64<=140737488355328;(try simp only[List.length_take,List.length_drop]);omega⟩,?_⟩;intro (v:LR) H n;have w:v=(o:LR)++([((g,h),(d,f))]:LR):=n.1;have D:H=List.length (α:=(el AA)) v:=n.2;refine AK ?_;intro Q a1;exact Ba I ⟨v,H,i'+1,Q,rfl,rfl,⟨⟨by omega⟩,by omega,D⟩,by rw[w,hinv,Zw L,<-m.rp],rfl⟩
end
end Go.Abs
