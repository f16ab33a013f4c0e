/- Part 50 of a proof. Conditions: each theorem's own. -/
import Derived.Test.YtpccjlcpbehglaaGreatPk48
set_option linter.all false
set_option maxHeartbeats 8000000
open Go.Proofs
namespace Go.Abs
abbrev Nu:=List (List Rat)×Re
def ShQ (q:Rat):Prop:=q.num.natAbs<18446744073709551616∧q.den<18446744073709551616
theorem dn_short:∀{a:List Rat},(∀q∈a,ShQ q)→∃D:Nat,0<D∧D≤2^(64*a.length)∧DN D a
 | [],_=>⟨1,by decide,by simp,fun q hq=>by simp at hq⟩
 | q::a,h=>by
  obtain⟨D,h0,h1,h2⟩:=dn_short (a:=a) (fun x hx=>h x (List.mem_cons_of_mem _ hx))
  have hq:=(h q List.mem_cons_self).2
  refine⟨q.den*D,Nat.mul_pos q.den_pos h0,?_,fun x hx=>?_⟩
  ·have:=Nat.mul_le_mul (show q.den≤2^64 by omega) h1
   rw[←Nat.pow_add] at this
   rw[List.length_cons,show 64*(a.length+1)=64+64*a.length by omega];exact this
  ·rcases List.mem_cons.1 hx with rfl | hx
   ·refine⟨x.num*D,?_⟩
    rw[Rat.intCast_mul,←rat_mul_den x,cast_mul]
    have:((D:Int):Rat)=(D:Rat):=rfl
    grind
   ·exact h2.dvd ⟨q.den,by grind⟩ x hx
theorem mx_short {q:Rat} {B:Nat} (h:q.num.natAbs≤B): -(B:Rat)≤q∧q≤B:=by
 have hd:1≤q.den:=q.den_pos
 have h1:B*1≤B*q.den:=Nat.mul_le_mul_left B hd
 have key:q.num≤(B:Int)*q.den∧ -((B:Int)*q.den)≤q.num:=by
  have:((B*q.den:Nat):Int)=(B:Int)*q.den:=Int.natCast_mul _ _
  omega
 have e:=rat_mul_den q
 have hp:(0:Rat)<q.den:=by
  have:((0:Nat):Rat)<(q.den:Rat):=Rat.natCast_lt_natCast.2 q.den_pos
  simpa using this
 have k1:(q.num:Rat)≤(B:Rat)*q.den:=by
  have:=Rat.intCast_le_intCast.2 key.1
  rw[Rat.intCast_mul] at this
  exact this
 have k2: -((B:Rat)*q.den)≤(q.num:Rat):=by
  have:=Rat.intCast_le_intCast.2 key.2
  rw[Rat.intCast_neg,Rat.intCast_mul] at this
  exact this
 rw[←e] at k1 k2
 constructor
 ·apply Classical.byContradiction;intro hc
  have:=Rat.mul_pos (a:= -(B:Rat)-q) (b:=q.den) (by grind) hp
  grind
 ·apply Classical.byContradiction;intro hc
  have:=Rat.mul_pos (a:=q-(B:Rat)) (b:=q.den) (by grind) hp
  grind
theorem bd_short {a:List Rat} (h:∀q∈a,ShQ q):Bd (64*a.length) a:=by
 obtain⟨D,h0,h1,h2⟩:=dn_short h
 refine⟨D,h0,h1,h2,fun q hq=>?_⟩
 have hl:1≤a.length:=List.length_pos_of_mem hq
 exact mx_short (Nat.le_trans (Nat.le_of_lt (h q hq).1) (show 2^64≤2^(64*a.length) from pow_le2 (by omega)))
structure NOk (V:List Re) (n:Nu):Prop where
 red:Red n.1
 mem:In n.1 n.2
 vals:∀v∈vals n.1,v∈V
 rads:∀s∈n.1,∀q∈s,ShQ q
 cos:∀q∈co n.1 n.2,ShQ q
theorem NOk.mono {V V':List Re} {n:Nu} (h:NOk V n) (hV:∀v∈V,v∈V'):NOk V' n:=⟨h.red,h.mem,fun v hv=>hV v (h.vals v hv),h.rads,h.cos⟩
theorem NOk.len {V:List Re} {n:Nu} (h:NOk V n):n.1.length≤V.length:=by rw[←vals_len];exact nodup_le (vals_nodup h.red) h.vals
theorem rad_len:∀{u:List (List Rat)} {r:List Rat},Red u→r∈u→2*r.length≤2^u.length
 | [],_,_,h=>by simp at h
 | s::u,r,h,hr=>by
  rw[pow_len]
  rcases List.mem_cons.1 hr with rfl | hr
  ·rw[h.2.1];omega
  ·have:=rad_len h.1 hr;omega
theorem vals_suffix {u w:List (List Rat)} (h:u<:+w):∀v∈vals u,v∈vals w:=by
 obtain⟨t,rfl⟩:=h
 induction t with
 | nil=>exact fun v hv=>hv
 | cons r t ih=>exact fun v hv=>List.mem_cons_of_mem _ (ih v hv)
def PN (ns:List Nu) (u:List (List Rat)):Prop:=∃n∈ns,u<:+n.1
section
variable {V:List Re} {ns:List Nu}
theorem pow8 {k:Nat} (h:k≤3):2^k≤8:=pow_le2 h
theorem PN.ini (hV:V.length≤3) (h:∀n∈ns,NOk V n):Ini (PN ns) 256:=by
 refine⟨fun {u} ⟨n,hn,hs⟩=>red_suffix hs (h n hn).red,fun {u} ⟨n,hn,hs⟩=>fun r hr=>?_,fun {r u} ⟨n,hn,hs⟩=>⟨n,hn,(List.suffix_cons r u).trans hs⟩⟩
 have hr':=hs.subset hr
 have h1:=rad_len (h n hn).red hr'
 have h2:=pow8 (Nat.le_trans (h n hn).len hV)
 exact (bd_short ((h n hn).rads r hr')).mono (by omega)
theorem PN.vals (h:∀n∈ns,NOk V n) {u:List (List Rat)} (hu:PN ns u):∀v∈vals u,v∈V:=by
 obtain⟨n,hn,hs⟩:=hu
 exact fun v hv=>(h n hn).vals v (vals_suffix hs v hv)
theorem PN.self {n:Nu} (hn:n∈ns):PN ns n.1:=⟨n,hn,List.suffix_refl _⟩
end
theorem NOk.el {V:List Re} {n:Nu} (h:NOk V n) (hV:V.length≤3):El n.1 512 n.2:=by
 refine⟨h.mem,(bd_short h.cos).mono ?_⟩
 have h2:=pow8 (Nat.le_trans h.len hV)
 rw[co_len h.mem];omega
abbrev Rm:Nat:=802678
abbrev Cm:Nat:=455119021
abbrev Sm:Nat:=137438953472
theorem rr_m:RR 256 3≤Rm:=by decide +kernel
theorem cc_m:CC 3 Rm 3 Rm≤Cm:=by decide +kernel
theorem fit_m:∀h,h≤3→Fit h Rm (Sm+Cm)
 | 0,_=>⟨by decide +kernel,by decide +kernel,by decide +kernel,by decide +kernel⟩
 | 1,_=>⟨by decide +kernel,by decide +kernel,by decide +kernel,by decide +kernel⟩
 | 2,_=>⟨by decide +kernel,by decide +kernel,by decide +kernel,by decide +kernel⟩
 | 3,_=>⟨by decide +kernel,by decide +kernel,by decide +kernel,by decide +kernel⟩
 | _+4,h=>absurd h (by omega)
theorem fitY_m:∀h,h≤3→FitY h Rm (Sm+Cm)
 | 0,_=>⟨by decide +kernel,by decide +kernel,by decide +kernel,by decide +kernel⟩
 | 1,_=>⟨by decide +kernel,by decide +kernel,by decide +kernel,by decide +kernel⟩
 | 2,_=>⟨by decide +kernel,by decide +kernel,by decide +kernel,by decide +kernel⟩
 | 3,_=>⟨by decide +kernel,by decide +kernel,by decide +kernel,by decide +kernel⟩
 | _+4,h=>absurd h (by omega)
theorem mul_m:2*(Sm+Cm)+EE 3 Rm≤60000000000000:=by decide +kernel
theorem gam_m {P:List (List Rat)→Prop} (I:Ini P 256) (hm:∀{u},Tf P u→u.length≤3) {S:Nat} (h1:Rm≤S) (h2:S≤Sm):GamY (Tf P) Rm Cm S:=
 {Tf.gam I hm rr_m h1 cc_m (fun h hh=>(fit_m h hh).mono (by omega)) (Nat.le_trans (by omega) mul_m) with fitY:=fun {u} hu=>(fitY_m _ (hm hu)).mono (by omega)}
open Classical in
noncomputable def invR (x:Re):Re:=if h:x≠0 then Classical.choose (Re.inv_ex h) else 0
theorem invR_spec {x:Re} (h:x≠0):x*invR x=1:=by
 unfold invR;rw[dif_pos h];exact Classical.choose_spec (Re.inv_ex h)
theorem in_invR {u:List (List Rat)} {x:Re} (hu:Red u) (hx:In u x) (h0:x≠0):In u (invR x):=by
 obtain⟨y,hy,e⟩:=in_inv hu hx h0
 have e2:=invR_spec h0
 rw[show invR x=y by
  have:invR x=invR x*(x*y):=by rw[e];grind
  rw[this]
  have:invR x*(x*y)=(x*invR x)*y:=by grind
  rw[this,e2];grind]
 exact hy
open Classical in
noncomputable def absR (x:Re):Re:=if x<0 then -x else x
theorem absR_nn (x:Re):0≤absR x:=by unfold absR;split <;> grind
theorem in_absR {u:List (List Rat)} {x:Re} (hx:In u x):In u (absR x):=by unfold absR;split;exact in_neg hx;exact hx
open Classical in
noncomputable def trimN (n:Nu):Nu:=if h:Red n.1∧In n.1 n.2 then (Classical.choose (trim_all h.1 h.2 (Nat.le_refl _)),n.2) else n
theorem trimN_spec {n:Nu} (h1:Red n.1) (h2:In n.1 n.2):trimF n.1.length (n.1.reverse,co n.1 n.2)=((trimN n).1.reverse,co (trimN n).1 (trimN n).2)∧TrimTo n.1 n.2 (trimN n).1∧(trimN n).2=n.2:=by
 unfold trimN
 rw[dif_pos ⟨h1,h2⟩]
 have:=Classical.choose_spec (trim_all h1 h2 (Nat.le_refl _))
 exact⟨this.1,this.2,rfl⟩
def LongN (n:Nu):Prop:=(∃q∈co n.1 n.2,¬ShQ q)∨∃s∈n.1,∃q∈s,¬ShQ q
noncomputable def opN (k:Nat) (a b:Nu) (roots:Nat):Nu×Nat:=by
 classical
 exact if k=1 then ((join2 a.1 b.1,a.2+b.2),roots)
 else if k=2 then ((join2 a.1 b.1,a.2-b.2),roots)
 else if k=3 then ((join2 a.1 b.1,a.2*b.2),roots)
 else if k=4 then (if b.2=0 then a else (join2 a.1 b.1,a.2*invR b.2),roots)
 else if roots<3 then ((adj a.1 (absR a.2),Re.sqrt (absR a.2)),roots+1) else (a,roots)
def zeroN:Nu:=([],0)
noncomputable def getN (l:List Nu) (i:Nat):Nu:=l.getD (i%l.length) zeroN
def wrN (n:Int):Int:=(n+9223372036854775808)%18446744073709551616-9223372036854775808
theorem wrN_in (n:Int): -9223372036854775808≤wrN n∧wrN n<9223372036854775808:=by unfold wrN;omega
def ratN (o:el tOp):Rat:=Rat.divInt (wrN o.2.2.2.1) ((o.2.2.2.2.toNat%8+1:Nat):Int)
noncomputable def rawN (st:List Nu×Nat) (o:el tOp):Nu×Nat:=by
 classical
 exact if st.1=[]∨o.1.toNat%6=0 then (([],Re.ofRat (ratN o)),st.2) else opN (o.1.toNat%6) (getN st.1 o.2.1.toNat) (getN st.1 o.2.2.1.toNat) st.2
noncomputable def keepN (l:List Nu) (x:Nu):Nu:=by
 classical
 exact if l≠[]∧LongN x then l.getLastD zeroN else x
noncomputable def stepN (st:List Nu×Nat) (o:el tOp):List Nu×Nat:=(st.1++[trimN (keepN st.1 (rawN st o).1)],(rawN st o).2)
noncomputable def runN (xs:List (el tOp)):List Nu×Nat:=xs.foldl stepN ([],0)
theorem runN_snoc (xs:List (el tOp)) (o:el tOp):runN (xs++[o])=stepN (runN xs) o:=by rw[runN,List.foldl_append];rfl
def RInv (st:List Nu×Nat):Prop:=st.2≤3∧∃V:List Re,V.length≤st.2∧∀n∈st.1,NOk V n
theorem NOk.trim {V:List Re} {n:Nu} (h:NOk V n):NOk V (trimN n):=by
 obtain⟨_,t,e⟩:=trimN_spec h.red h.mem
 refine⟨t.red,by rw[e];exact t.mem,fun v hv=>h.vals v (t.vals v hv),fun s hs q hq=>?_,fun q hq=>?_⟩
 ·obtain⟨t',ht',hq'⟩:=t.rads s hs q hq
  exact h.rads t' ht' q hq'
 ·rw[e] at hq;exact h.cos q (t.cos q hq)
theorem NOk.of_short {V:List Re} {n:Nu} (h1:Red n.1) (h2:In n.1 n.2) (h3:∀v∈Go.Abs.vals n.1,v∈V) (h:¬LongN n):NOk V n:=
 ⟨h1,h2,h3,fun s hs q hq=>Classical.byContradiction fun hc=>h (.inr ⟨s,hs,q,hq,hc⟩),fun q hq=>Classical.byContradiction fun hc=>h (.inl ⟨q,hq,hc⟩)⟩
theorem getN_mem {l:List Nu} (h:l≠[]) (i:Nat):getN l i∈l:=by
 have:i%l.length<l.length:=Nat.mod_lt _ (List.length_pos_iff.2 h)
 unfold getN
 rw[List.getD_eq_getElem?_getD,List.getElem?_eq_getElem this]
 exact List.getElem_mem this
theorem last_mem {l:List Nu} (h:l≠[]):l.getLastD zeroN∈l:=by
 cases l with
 | nil=>exact absurd rfl h
 | cons a l=>rw[List.getLastD_cons];cases l with
  | nil=>exact List.mem_cons_self
  | cons b l=>rw[List.getLastD_eq_getLast?];exact List.mem_cons_of_mem _ (by
   rw[List.getLast?_eq_some_getLast (by simp)];exact List.getLast_mem _)
section
variable {V:List Re} {ns:List Nu}
theorem fam_of (hV:V.length≤3) (h:∀n∈ns,NOk V n) {S:Nat} (h1:Rm≤S) (h2:S≤Sm):GamY (Tf (PN ns)) Rm Cm S:=
 gam_m (PN.ini hV h) (fun {u} hu=>Nat.le_trans (hu.len (PN.ini hV h) (fun hp=>PN.vals h hp)) hV) h1 h2
theorem fam_mem (hV:V.length≤3) (h:∀n∈ns,NOk V n) {n:Nu} (hn:n∈ns):Tf (PN ns) n.1:=Tf.of (PN.ini hV h) (PN.self hn)
structure ROk (V:List Re) (n:Nu):Prop where
 red:Red n.1
 mem:In n.1 n.2
 vals:∀v∈vals n.1,v∈V
theorem ROk.of_fam (hV:V.length≤3) (h:∀n∈ns,NOk V n) {n:Nu} (ht:Tf (PN ns) n.1) (hm:In n.1 n.2):ROk V n:=
 ⟨ht.red (PN.ini hV h),hm,ht.vals (PN.ini hV h) (fun hp=>PN.vals h hp)⟩
theorem NOk.rok {n:Nu} (h:NOk V n):ROk V n:=⟨h.red,h.mem,h.vals⟩
theorem fam_join (hV:V.length≤3) (h:∀n∈ns,NOk V n) {a b:Nu} (ha:a∈ns) (hb:b∈ns):Tf (PN ns) (join2 a.1 b.1)∧In (join2 a.1 b.1) a.2∧In (join2 a.1 b.1) b.2:=by
 have G:=(fam_of hV h (Nat.le_refl Rm) (by decide)).toGam
 obtain⟨h1,h2,h3⟩:=G.join2 (fam_mem hV h ha) (fam_mem hV h hb)
 exact⟨h1,h2 _ (h a ha).mem,h3 _ (h b hb).mem⟩
theorem vals_adj {u:List (List Rat)} {v:Re} (hv:In u v):∀x∈vals (adj u v),x=v∨x∈vals u:=by
 by_cases hs:Sq u v
 ·rw[adj_in hs];exact fun x hx=> .inr hx
 ·rw[adj_new hs]
  intro x hx
  rcases List.mem_cons.1 hx with rfl | hx
  ·exact .inl (ev_co hv)
  ·exact .inr hx
theorem red_adj0 {u:List (List Rat)} {v:Re} (h:Red u) (hv:In u v) (h0:0≤v):Red (adj u v):=by
 by_cases hz:v=0
 ·subst hz
  rw[adj_in ⟨0,in_zero u,by grind⟩];exact h
 ·exact red_adj h hv (by grind)
theorem raw_ok {st:List Nu×Nat} (h:RInv st) (o:el tOp):(rawN st o).2≤3∧∃V,V.length≤(rawN st o).2∧(∀n∈st.1,NOk V n)∧ROk V (rawN st o).1:=by
 obtain⟨h3,V,hV,hn⟩:=h
 have hV3:=Nat.le_trans hV h3
 unfold rawN
 split
 ·exact⟨h3,V,hV,hn,trivial,⟨[ratN o],rfl,rfl⟩,fun v hv=>by simp[Go.Abs.vals] at hv⟩
 ·rename_i hc
  have hne:st.1≠[]:=fun e=>hc (.inl e)
  have ha:=getN_mem hne o.2.1.toNat
  have hb:=getN_mem hne o.2.2.1.toNat
  generalize getN st.1 o.2.1.toNat=a at*
  generalize getN st.1 o.2.2.1.toNat=b at*
  obtain⟨j1,j2,j3⟩:=fam_join hV3 hn ha hb
  have jr:=j1.red (PN.ini hV3 hn)
  unfold opN
  split
  ·exact⟨h3,V,hV,hn,.of_fam hV3 hn j1 (in_add j2 j3)⟩
  split
  ·exact⟨h3,V,hV,hn,.of_fam hV3 hn j1 (in_sub j2 j3)⟩
  split
  ·exact⟨h3,V,hV,hn,.of_fam hV3 hn j1 (in_mul jr j2 j3)⟩
  split
  ·refine⟨h3,V,hV,hn,?_⟩
   dsimp only
   split
   ·exact (hn a ha).rok
   ·rename_i hb0
    exact .of_fam hV3 hn j1 (in_mul jr j2 (in_invR jr j3 hb0))
  split
  ·rename_i hr
   have hin:=in_absR (hn a ha).mem
   refine⟨by show st.2+1≤3;omega,absR a.2::V,by show _+1≤st.2+1;omega,fun n hm=>(hn n hm).mono fun v hv=>List.mem_cons_of_mem _ hv,red_adj0 (hn a ha).red hin (absR_nn _),adj_root hin (absR_nn _),fun v hv=>?_⟩
   rcases vals_adj hin v hv with rfl | hv
   ·exact List.mem_cons_self
   ·exact List.mem_cons_of_mem _ ((hn a ha).vals v hv)
  ·exact⟨h3,V,hV,hn,(hn a ha).rok⟩
end
theorem shq_int {n:Int} {d:Nat} (hn:n.natAbs<18446744073709551616) (hd:0<d) (hd2:d<18446744073709551616):ShQ (Rat.divInt n d):=by
 have e:(Rat.divInt n d)=mkRat n d:=Rat.divInt_ofNat n d
 rw[e]
 constructor
 ·have:=Rat.num_mkRat n d
  rw[this]
  split
  ·simp
  ·refine Nat.lt_of_le_of_lt ?_ hn
   exact Int.natAbs_ediv_le_natAbs _ _
 ·have:=Rat.den_mkRat n d
  rw[this]
  split
  ·decide
  ·exact Nat.lt_of_le_of_lt (Nat.div_le_self _ _) hd2
theorem keep_ok {V:List Re} {l:List Nu} {x:Nu} (hn:∀n∈l,NOk V n) (hx:ROk V x) (h0:l=[]→¬LongN x):NOk V (keepN l x):=by
 unfold keepN
 split
 ·rename_i h;exact hn _ (last_mem h.1)
 ·rename_i h
  refine .of_short hx.red hx.mem hx.vals fun hl=>?_
  by_cases he:l=[]
  ·exact h0 he hl
  ·exact h ⟨he,hl⟩
theorem rat_short (o:el tOp):¬LongN ([],Re.ofRat (ratN o)):=by
 have hs:ShQ (ratN o):=shq_int (by have:=wrN_in o.2.2.2.1;omega) (by omega) (by omega)
 rintro (⟨q,hq,hn⟩ |⟨s,hs',_⟩)
 ·rw[co_nil] at hq
  rw[List.mem_singleton.1 hq] at hn
  exact hn hs
 ·simp at hs'
theorem step_ok {st:List Nu×Nat} (h:RInv st) (o:el tOp):RInv (stepN st o):=by
 obtain⟨h1,V,h2,h3,h4⟩:=raw_ok h o
 refine⟨h1,V,h2,fun n hn=>?_⟩
 rcases List.mem_append.1 hn with hn | hn
 ·exact h3 n hn
 ·rw[List.mem_singleton.1 hn]
  refine (keep_ok h3 h4 fun he=>?_).trim
  have:(rawN st o).1=([],Re.ofRat (ratN o)):=by unfold rawN;rw[if_pos (.inl he)]
  rw[this];exact rat_short o
theorem run_ok:∀{xs:List (el tOp)} {st:List Nu×Nat},RInv st→RInv (xs.foldl stepN st)
 | [],_,h=>h
 | o::xs,_,h=>run_ok (xs:=xs) (step_ok h o)
theorem runN_ok (xs:List (el tOp)):RInv (runN xs):=run_ok ⟨by decide,[],by simp,by simp⟩
end Go.Abs
namespace Go.Abs
open Go.RowKit
variable {A1 A2 C:LR} {K K2 R S S2:Nat} {T T1 T2:List LR} {TT:List (List Rat)→Prop} {c:Int} {q:Rat} {u v:List (List Rat)} {x y:Re}
theorem Ytwo_ok (G:GamY TT R K S) (hu:TT u) (hv:TT v) (hT1:T1=tw u) (hT2:T2=tw v) (hA1:A1=em u x) (hA2:A2=em v y) (hx:El u S x) (hy:El v S y) {A B:LR} (hT:T=tw (join2 u v)) (hA:A=em (join2 u v) x) (hB:B=em (join2 u v) y):CF 67 [.agg [.sl (.sl tRat) T1,.sl tRat A1],.agg [.sl (.sl tRat) T2,.sl tRat A2]] (.tup [(true,[.sl (.sl tRat) T,.sl tRat A]),(true,[.sl (.sl tRat) T,.sl tRat B]),(false,[.int .i64 0])]):=by
 obtain⟨O,hO⟩:∃z:List (el tNum),z=[(T,A),(T,B)]:=⟨_,rfl⟩
 have hOl:O.length=2:=by rw[hO];rfl
 have h0:O[0]? =some (T,A):=by rw[hO];rfl
 have h1:O[1]? =some (T,B):=by rw[hO];rfl
 refine acall_fn Tryz.func67 (by kernel_rfl) rfl fun E hE=>?_
 conv=>cbv
 refine⟨[(T1,A1),(T2,A2)],fun _=>⟨rfl,by decide,rfl,⟨rfl,by first | exact⟨rfl,trivial⟩ | exact⟨rfl,rfl,trivial⟩ | exact⟨rfl,rfl,rfl,rfl,trivial⟩ | simp[allC,leC,cells],⟨rfl,by first | exact⟨rfl,trivial⟩ | exact⟨rfl,rfl,trivial⟩ | exact⟨rfl,rfl,rfl,rfl,trivial⟩ | simp[allC,leC,cells],trivial⟩⟩⟩,.inr ?_⟩
 try conv=>cbv
 refine cL (r:= .tup [(false,[.sl tNum O]),(false,[.int .i64 0])]) hE (YJoin_ok (ns:=[(u,x),(v,y)]) G (by intro n hn;simp at hn;rcases hn with rfl | rfl;exact hu;exact hv) (by rw[hT1,hT2,hA1,hA2];rfl) (by intro n hn;simp at hn;rcases hn with rfl | rfl;exact hx;exact hy) (by show 2≤1000000;decide) (by rw[hO,hT,hA,hB];rfl)) ⟨rfl,trivial⟩ ?_
 try conv=>cbv
 intro n17 h17;(have h17:=h17.trans (show _=false by decide));subst h17;conv=>cbv
 obtain⟨x22,hx22⟩:=get_ex (l:=O) (i:=0) (by omega)
 refine⟨x22,fun _=>⟨by omega,hx22⟩,?_⟩
 try conv=>cbv
 obtain⟨x25,hx25⟩:=get_ex (l:=O) (i:=1) (by omega)
 refine⟨x25,fun _=>⟨by omega,hx25⟩,?_⟩
 try conv=>cbv
 refine⟨fun _=>rfl,?_⟩
 have e22:=Option.some.inj (hx22.symm.trans h0)
 have e25:=Option.some.inj (hx25.symm.trans h1)
 exact fA ⟨⟨rfl,congrArg _ (by rw[e22]),congrArg _ (by rw[e22]),trivial⟩,⟨rfl,congrArg _ (by rw[e25]),congrArg _ (by rw[e25]),trivial⟩,⟨rfl,rfl,trivial⟩,trivial⟩ rfl (by simp)
theorem YNAdd (G:GamY TT R K S) (hu:TT u) (hv:TT v) (hT1:T1=tw u) (hT2:T2=tw v) (hA1:A1=em u x) (hA2:A2=em v y) (hx:El u S x) (hy:El v S y) (hT:T=tw (join2 u v)) (hC:C=em (join2 u v) (x+y)):CF 41 [.agg [.sl (.sl tRat) T1,.sl tRat A1],.agg [.sl (.sl tRat) T2,.sl tRat A2]] (.tup [(true,[.sl (.sl tRat) T,.sl tRat C]),(false,[.int .i64 0])]):=by
 obtain⟨htj,hej,hfj⟩:=G.toGam.join2 hu hv
 have hxj:=G.emb hu htj hej hx
 have hyj:=G.emb hv htj hfj hy
 have hmul:=G.mul htj
 obtain⟨A,hA⟩:=pre_r (em (join2 u v) x)
 obtain⟨B,hB⟩:=pre_r (em (join2 u v) y)
 refine acall_fn Tryz.func41 (by kernel_rfl) rfl fun E hE=>?_
 conv=>cbv
 refine cA hE (Ytwo_ok G hu hv hT1 hT2 hA1 hA2 hx hy hT hA hB) ?_
 try conv=>cbv
 intro n15 h15;(have h15:=h15.trans (show _=false by decide));subst h15;conv=>cbv
 refine cL hE (Yaddv (G.twr htj) hA hB hxj hyj (by omega) (by omega) hC) ⟨rfl,rfl,rfl,trivial⟩ ?_
 try conv=>cbv
 refine⟨fun _=>rfl,?_⟩
 exact fA ⟨⟨rfl,rfl,rfl,trivial⟩,⟨rfl,rfl,trivial⟩,trivial⟩ rfl (by simp)
theorem YNMul (G:GamY TT R K S) (hu:TT u) (hv:TT v) (hT1:T1=tw u) (hT2:T2=tw v) (hA1:A1=em u x) (hA2:A2=em v y) (hx:El u S x) (hy:El v S y) (hT:T=tw (join2 u v)) (hC:C=em (join2 u v) (x*y)):CF 18 [.agg [.sl (.sl tRat) T1,.sl tRat A1],.agg [.sl (.sl tRat) T2,.sl tRat A2]] (.tup [(true,[.sl (.sl tRat) T,.sl tRat C]),(false,[.int .i64 0])]):=by
 obtain⟨htj,hej,hfj⟩:=G.toGam.join2 hu hv
 have hxj:=G.emb hu htj hej hx
 have hyj:=G.emb hv htj hfj hy
 have hmul:=G.mul htj
 obtain⟨A,hA⟩:=pre_r (em (join2 u v) x)
 obtain⟨B,hB⟩:=pre_r (em (join2 u v) y)
 refine acall_fn Tryz.func18 (by kernel_rfl) rfl fun E hE=>?_
 conv=>cbv
 refine cA hE (Ytwo_ok G hu hv hT1 hT2 hA1 hA2 hx hy hT hA hB) ?_
 try conv=>cbv
 intro n15 h15;(have h15:=h15.trans (show _=false by decide));subst h15;conv=>cbv
 refine cL hE (Ymulv (G.twr htj) hT hA hB hxj hyj (by omega) hC) ⟨rfl,rfl,rfl,trivial⟩ ?_
 try conv=>cbv
 refine⟨fun _=>rfl,?_⟩
 exact fA ⟨⟨rfl,rfl,rfl,trivial⟩,⟨rfl,rfl,trivial⟩,trivial⟩ rfl (by simp)
theorem YNNeg (G:GamY TT R K S) (hu:TT u) (hT1:T1=tw u) (hA1:A1=em u x) (hx:El u S x) (hC:C=em u (-x)):CF 44 [.agg [.sl (.sl tRat) T1,.sl tRat A1]] (.agg [.sl (.sl tRat) T1,.sl tRat C]):=by
 refine acall_fn Tryz.func44 (by kernel_rfl) rfl fun E hE=>?_
 conv=>cbv
 refine cA hE (Ynegv (G.twr hu) hA1 hx hC) ?_
 try conv=>cbv
 refine⟨fun _=>rfl,?_⟩
 exact fA ⟨⟨rfl,rfl,rfl,trivial⟩,trivial⟩ rfl (by simp)
theorem YNSub (G:GamY TT R K S) (hu:TT u) (hv:TT v) (hT1:T1=tw u) (hT2:T2=tw v) (hA1:A1=em u x) (hA2:A2=em v y) (hx:El u S x) (hy:El v S y) (hT:T=tw (join2 u v)) (hC:C=em (join2 u v) (x-y)):CF 42 [.agg [.sl (.sl tRat) T1,.sl tRat A1],.agg [.sl (.sl tRat) T2,.sl tRat A2]] (.tup [(true,[.sl (.sl tRat) T,.sl tRat C]),(false,[.int .i64 0])]):=by
 refine acall_fn Tryz.func42 (by kernel_rfl) rfl fun E hE=>?_
 conv=>cbv
 obtain⟨w8,hw8⟩:=pre_r (em v (-y))
 refine cA hE (YNNeg G hv hT2 hA2 hy hw8) ?_
 try conv=>cbv
 refine cA hE (YNAdd G hu hv hT1 hT2 hA1 hw8 hx (hy.neg (G.twr hv).red) hT hC) ?_
 try conv=>cbv
 refine⟨fun _=>rfl,?_⟩
 exact fA ⟨⟨rfl,rfl,rfl,trivial⟩,⟨rfl,rfl,trivial⟩,trivial⟩ rfl (by simp)
theorem YNSign (G:GamY TT R K S) (hu:TT u) (hT1:T1=tw u) (hA1:A1=em u x) (hx:El u S x) (hc:c=sgR x):CF 21 [.agg [.sl (.sl tRat) T1,.sl tRat A1]] (.one (.int .i64 c)):=by
 refine acall_fn Tryz.func21 (by kernel_rfl) rfl fun E hE=>?_
 conv=>cbv
 refine cA hE (YFastv (G.twr hu) hT1 hA1 hx ((G.fitY hu).mono (Nat.le_add_right _ _)).v0 hc) ?_
 try conv=>cbv
 exact fA ⟨⟨rfl,rfl,trivial⟩,trivial⟩ rfl (by simp)
theorem YNSqrt (G:GamY TT R K S) (hu:TT u) (hT1:T1=tw u) (hA1:A1=em u x) (hx:El u S x) (hw:TT (adj u x)) (h0:0≤x) (hT:T=tw (adj u x)) (hC:C=em (adj u x) (Re.sqrt x)):CF 86 [.agg [.sl (.sl tRat) T1,.sl tRat A1]] (.tup [(true,[.sl (.sl tRat) T,.sl tRat C]),(false,[.int .i64 0])]):=by
 refine acall_fn Tryz.func86 (by kernel_rfl) rfl fun E hE=>?_
 conv=>cbv
 refine cA hE (YAdjoin_v (G.twr hu) (G.twr hw) (G.ht hw) hT1 hA1 hx ((G.fitY hu).mono (Nat.le_add_right _ _)) h0 hT hC) ?_
 try conv=>cbv
 intro n17 h17;(have h17:=h17.trans (show _=false by decide));subst h17;conv=>cbv
 exact fA ⟨⟨rfl,rfl,rfl,trivial⟩,⟨rfl,rfl,trivial⟩,trivial⟩ rfl (by simp)
theorem YNDiv (G:GamY TT R K S) (hu:TT u) (hv:TT v) (hT1:T1=tw u) (hT2:T2=tw v) (hA1:A1=em u x) (hA2:A2=em v y) (hx:El u S x) (hy:El v S y) {i:Re} (hi:In v i) (hyi:y*i=1) (hiE:El v S i) (hII:II v.length R S≤60000000000000) (hT:T=tw (join2 u v)) (hC:C=em (join2 u v) (x*i)):CF 85 [.agg [.sl (.sl tRat) T1,.sl tRat A1],.agg [.sl (.sl tRat) T2,.sl tRat A2]] (.tup [(true,[.sl (.sl tRat) T,.sl tRat C]),(false,[.int .i64 0])]):=by
 refine acall_fn Tryz.func85 (by kernel_rfl) rfl fun E hE=>?_
 conv=>cbv
 obtain⟨w14,hw14⟩:=pre_r (em v i)
 refine cA hE (Yinvv (G.twr hv) hT2 hA2 hy hi hyi hII hw14) ?_
 try conv=>cbv
 intro n17 h17;(have h17:=h17.trans (show _=false by decide));subst h17;conv=>cbv
 refine cA hE (YNMul G hu hv hT1 hT2 hA1 hw14 hx hiE hT hC) ?_
 try conv=>cbv
 exact fA ⟨⟨rfl,rfl,rfl,trivial⟩,⟨rfl,rfl,trivial⟩,trivial⟩ rfl (by simp)
theorem YNDiv0 (G:GamY TT R K S) (hu:TT u) (hv:TT v) (hT1:T1=tw u) (hT2:T2=tw v) (hA1:A1=em u x) (hA2:A2=em v y) (hx:El u S x) (hy:El v S y) (hy0:y=0):CF 85 [.agg [.sl (.sl tRat) T1,.sl tRat A1],.agg [.sl (.sl tRat) T2,.sl tRat A2]] (.tup [(true,[.sl (.sl tRat) (([]:List LR)),.sl tRat (([]:LR))]),(false,[.int .i64 6])]):=by
 refine acall_fn Tryz.func85 (by kernel_rfl) rfl fun E hE=>?_
 conv=>cbv
 refine cL (r:= .tup [(false,[.sl tRat []]),(false,[.int .i64 6])]) hE (Yinv0 (G.twr hv) hT2 (hA2.trans (by rw[hy0]))) ⟨rfl,rfl,trivial⟩ ?_
 try conv=>cbv
 intro n17 h17;(have h17:=h17.trans (show _=true by decide));subst h17;conv=>cbv
 exact fA ⟨⟨rfl,.inr (.inl ⟨_,rfl⟩),.inr (.inl ⟨_,rfl⟩),trivial⟩,⟨rfl,rfl,trivial⟩,trivial⟩ rfl (by simp)
theorem YNCmp (G:GamY TT R K S) (hu:TT u) (hv:TT v) (hT1:T1=tw u) (hT2:T2=tw v) (hA1:A1=em u x) (hA2:A2=em v y) (hx:El u S x) (hy:El v S y) (G2:GamY TT R K2 S2) (hS:2*(S+K)+1≤S2) (hc:c=sgR (x-y)):CF 27 [.agg [.sl (.sl tRat) T1,.sl tRat A1],.agg [.sl (.sl tRat) T2,.sl tRat A2]] (.tup [(false,[.int .i64 c]),(false,[.int .i64 0])]):=by
 obtain⟨htj,hej,hfj⟩:=G.toGam.join2 hu hv
 have hxj:=G.emb hu htj hej hx
 have hyj:=G.emb hv htj hfj hy
 have hmul:=G.mul htj
 refine acall_fn Tryz.func27 (by kernel_rfl) rfl fun E hE=>?_
 conv=>cbv
 obtain⟨wT,hwT⟩:=pre_v (tw (join2 u v))
 obtain⟨wC,hwC⟩:=pre_r (em (join2 u v) (x-y))
 refine cA hE (YNSub G hu hv hT1 hT2 hA1 hA2 hx hy hwT hwC) ?_
 try conv=>cbv
 intro n15 h15;(have h15:=h15.trans (show _=false by decide));subst h15;conv=>cbv
 refine cL hE (YNSign G2 htj hwT hwC ((hxj.sub (G.twr htj).red hyj).mono (by omega)) hc) ⟨⟨rfl,rfl,trivial⟩,trivial⟩ ?_
 try conv=>cbv
 exact fA ⟨⟨rfl,rfl,trivial⟩,⟨rfl,rfl,trivial⟩,trivial⟩ rfl (by simp)
theorem YNEqual (G:GamY TT R K S) (hu:TT u) (hv:TT v) (hT1:T1=tw u) (hT2:T2=tw v) (hA1:A1=em u x) (hA2:A2=em v y) (hx:El u S x) (hy:El v S y) (G2:GamY TT R K2 S2) (hS:2*(S+K)+1≤S2) {c:Bool} (hc:c=true↔x=y):CF 23 [.agg [.sl (.sl tRat) T1,.sl tRat A1],.agg [.sl (.sl tRat) T2,.sl tRat A2]] (.one (.bool c)):=by
 refine acall_fn Tryz.func23 (by kernel_rfl) rfl fun E hE=>?_
 conv=>cbv
 obtain⟨r10,hr10⟩:∃z:Int,z=sgR (x-y):=⟨_,rfl⟩
 refine cA hE (YNCmp G hu hv hT1 hT2 hA1 hA2 hx hy G2 hS hr10) ?_
 try conv=>cbv
 intro n14 h14;(have h14:=h14.trans (show _=true by decide));subst h14;conv=>cbv
 intro n17 h17;conv=>cbv
 exact fA ⟨⟨rfl,congrArg _ (by rw[Bool.eq_iff_iff,hc,h17,beq_iff_eq,hr10,sgR_eq0];constructor <;> intro h <;> grind),trivial⟩,trivial⟩ rfl (by simp)
theorem YNValid_t (G:GamY TT R K S) (hu:TT u) (hT1:T1=tw u) (hA1:A1=em u x) (hx:El u S x):CF 22 [.agg [.sl (.sl tRat) T1,.sl tRat A1]] (.one (.bool true)):=by
 have hTl:T1.length=u.length:=by rw[hT1,tw_len]
 have hht:=G.ht hu
 have hmul:=G.mul hu
 refine acall_fn Tryz.func22 (by kernel_rfl) rfl fun E hE=>?_
 conv=>cbv
 intro n5 h5;have e5:=h5.eq;have f5:=h5.le;conv=>cbv
 intro n6 h6;conv=>cbv
 cases n6 <;> conv=>cbv
 ·have k6:=leq_f h6
  exact absurd k6 (by omega)
 ·have k6:=leq_t h6
  refine cL hE (YFormed_ok (G.twr hu) hT1 hA1 hx (by omega)) ⟨rfl,rfl,trivial⟩ ?_
  try conv=>cbv
  refine cA hE (YReducedv (G.twr hu) hT1 (G.fitY hu).vR (G.fitY hu).qR) ?_
  try conv=>cbv
  exact fA ⟨⟨rfl,rfl,trivial⟩,trivial⟩ rfl (by simp)
theorem YNFromRat {b1 b2:Bool} {l1 l2:List UInt32} (hq:IsR q b1 l1 b2 l2) (hC:C=em [] (Re.ofRat q)):CF 148 [.agg [.bool b1,.sl .u32 l1,.bool b2,.sl .u32 l2]] (.agg [.sl (.sl tRat) (([]:List LR)),.sl tRat C]):=by
 refine acall_fn Tryz.func148 (by kernel_rfl) rfl fun E hE=>?_
 conv=>cbv
 refine⟨[((b1,l1),(b2,l2))],fun _=>⟨rfl,by decide,rfl,⟨rfl,by first | exact⟨rfl,trivial⟩ | exact⟨rfl,rfl,trivial⟩ | exact⟨rfl,rfl,rfl,rfl,trivial⟩ | simp[allC,leC,cells],trivial⟩⟩,.inr ?_⟩
 try conv=>cbv
 exact fA ⟨⟨rfl,.inr (.inl ⟨_,rfl⟩),congrArg _ (by rw[hC,em_nil,←hq.rp]),trivial⟩,trivial⟩ rfl (by simp)
theorem YNFrac {n d:Int} (hn: -9223372036854775808≤n∧n<9223372036854775808) (hd: -9223372036854775808≤d∧d<9223372036854775808) (h0:d≠0) (hq:q=Rat.divInt n d) (hC:C=em [] (Re.ofRat q)):CF 83 [.one (.int .i64 n),.one (.int .i64 d)] (.agg [.sl (.sl tRat) (([]:List LR)),.sl tRat C]):=by
 refine acall_fn Tryz.func83 (by kernel_rfl) rfl fun E hE=>?_
 conv=>cbv
 obtain⟨zb7,zl7,yb7,yl7,hz7⟩:=isR_ex q
 refine cA hE (YFrac_ok hn hd h0 hq hz7) ?_
 try conv=>cbv
 refine cA hE (YNFromRat hz7 hC) ?_
 try conv=>cbv
 exact fA ⟨⟨rfl,rfl,rfl,trivial⟩,trivial⟩ rfl (by simp)
end Go.Abs
