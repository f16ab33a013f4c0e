/- Part 42 of a proof. Conditions: each theorem's own. -/
import Derived.Test.YtfilemenbchajaaGreatPk38
import Derived.Test.YtfilemenbchajaaGreatPk40
set_option linter.all false
set_option maxHeartbeats 8000000
set_option maxRecDepth 20000
open Go.Proofs
namespace Go.Abs
abbrev Nu:=List (List Rat)×Re
def Bz (q:Rat):Prop:=q.num.natAbs<18446744073709551616/\q.den<18446744073709551616
theorem Sa:∀{a:List Rat},(∀q∈a,Bz q)->∃D:Nat,0<D/\D<=2^(64*a.length)/\DN D a
 | [],_=>⟨1,by decide,by simp,fun q f=>by simp at f⟩
 | q::a,h=>by
  obtain⟨D,g,i,j⟩:=Sa (a:=a) (fun x d=>h x (List.mem_cons_of_mem _ d));have f:=(h q List.mem_cons_self).2;refine⟨q.den*D,Nat.mul_pos q.den_pos g,?_,fun x d=>?_⟩
  ·have:=Nat.mul_le_mul (show q.den<=2^64 by omega) i;rw[<-Nat.pow_add] at this;rw[List.length_cons,show 64*(a.length+1)=64+64*a.length by omega];exact this
  rcases List.mem_cons.1 d with rfl | d
  ·refine⟨x.num*D,?_⟩;rw[Rat.intCast_mul,<-JD x,FU];have:((D:Int):Rat)=(D:Rat):=rfl
   grind
  exact j.dvd ⟨q.den,by grind⟩ x d
theorem cD {q:Rat} {B:Nat} (h:q.num.natAbs<=B): -(B:Rat)<=q/\q<=B:=by
 have g:1<=q.den:=q.den_pos;have i:B*1<=B*q.den:=Nat.mul_le_mul_left B g
 have key:q.num<=(B:Int)*q.den/\ -((B:Int)*q.den)<=q.num:=by
  have:((B*q.den:Nat):Int)=(B:Int)*q.den:=Int.natCast_mul _ _;omega
 have e:=JD q
 have d:(0:Rat)<q.den:=by
  have:((0:Nat):Rat)<(q.den:Rat):=Rat.natCast_lt_natCast.2 q.den_pos;simpa using this
 have k1:(q.num:Rat)<=(B:Rat)*q.den:=by
  have:=Rat.intCast_le_intCast.2 key.1;rw[Rat.intCast_mul] at this;exact this
 have k2: -((B:Rat)*q.den)<=(q.num:Rat):=by
  have:=Rat.intCast_le_intCast.2 key.2;rw[Rat.intCast_neg,Rat.intCast_mul] at this;exact this
 rw[<-e] at k1 k2
 constructor
 ·apply Classical.byContradiction;intro f;have:=Rat.mul_pos (a:= -(B:Rat)-q) (b:=q.den) (by grind) d
  grind
 apply Classical.byContradiction;intro f;have:=Rat.mul_pos (a:=q-(B:Rat)) (b:=q.den) (by grind) d
 grind
theorem LN {a:List Rat} (h:∀q∈a,Bz q):Bd (64*a.length) a:=by
 obtain⟨D,f,g,i⟩:=Sa h;refine⟨D,f,g,i,fun q d=>?_⟩;have j:1<=a.length:=List.length_pos_of_mem d;exact cD (Nat.le_trans (Nat.le_of_lt (h q d).1) (show 2^64<=2^(64*a.length) from CX (by omega)))
structure BY (V:List Re) (n:Nu):Prop where
 red:Ab n.1
 mem:In n.1 n.2
 BE:∀v∈BE n.1,v∈V
 Fk:∀s∈n.1,∀q∈s,Bz q
 cos:∀q∈co n.1 n.2,Bz q
theorem BY.mono {V a:List Re} {n:Nu} (h:BY V n) (hV:∀v∈V,v∈a):BY a n:=⟨h.red,h.mem,fun v d=>hV v (h.BE v d),h.Fk,h.cos⟩
theorem BY.len {V:List Re} {n:Nu} (h:BY V n):n.1.length<=V.length:=by rw[<-JT];exact I8 (Hc h.red) h.BE
theorem PE:∀{u:List (List Rat)} {r:List Rat},Ab u->r∈u->2*r.length<=2^u.length
 | [],_,_,h=>by simp at h
 | s::u,r,h,a=>by
  rw[Bc];rcases List.mem_cons.1 a with rfl | a
  ·rw[h.2.1];omega
  have:=PE h.1 a;omega
theorem WV {u w:List (List Rat)} (h:u<:+w):∀v∈BE u,v∈BE w:=by
 obtain⟨t,rfl⟩:=h
 induction t with
 | nil=>exact fun v a=>a
 | cons r t d=>exact fun v a=>List.mem_cons_of_mem _ (d v a)
def PN (ns:List Nu) (u:List (List Rat)):Prop:=∃n∈ns,u<:+n.1
section
variable {V:List Re} {ns:List Nu}
theorem Ug {k:Nat} (h:k<=3):2^k<=8:=CX h
theorem PN.HF (hV:V.length<=3) (h:∀n∈ns,BY V n):Db (PN ns) 256:=by
 refine⟨fun {u} ⟨n,a,f⟩=>Uy f (h n a).red,fun {u} ⟨n,a,f⟩=>fun r g=>?_,fun {r u} ⟨n,a,f⟩=>⟨n,a,(List.suffix_cons r u).trans f⟩⟩;have d:=f.subset g;have i:=PE (h n a).red d;have j:=Ug (Nat.le_trans (h n a).len hV);exact (LN ((h n a).Fk r d)).mono (by omega)
theorem PN.BE (h:∀n∈ns,BY V n) {u:List (List Rat)} (hu:PN ns u):∀v∈BE u,v∈V:=by
 obtain⟨n,a,d⟩:=hu;exact fun v f=>(h n a).BE v (WV d v f)
theorem PN.self {n:Nu} (a:n∈ns):PN ns n.1:=⟨n,a,List.suffix_refl _⟩
end
theorem BY.el {V:List Re} {n:Nu} (h:BY V n) (hV:V.length<=3):El n.1 512 n.2:=by
 refine⟨h.mem,(LN h.cos).mono ?_⟩;have a:=Ug (Nat.le_trans h.len hV);rw[CQ h.mem];omega
abbrev Rm:Nat:=93478
abbrev Cm:Nat:=53200000
abbrev Sm:Nat:=500000000000
theorem eN:RR 256 3<=Rm:=by decide +kernel
theorem ZM:CC 3 Rm 3 Rm<=Cm:=by decide +kernel
theorem Zy:∀h,h<=3->Fit h Rm (Sm+Cm)
 |0,_|1,_|2,_|3,_=>⟨by decide +kernel,by decide +kernel,by decide +kernel,by decide +kernel⟩
 | _+4,h=>absurd h (by omega)
theorem Zw:∀h,h<=3->Dm h Rm (Sm+Cm)
 |0,_|1,_|2,_|3,_=>⟨by decide +kernel,by decide +kernel,by decide +kernel,by decide +kernel⟩
 | _+4,h=>absurd h (by omega)
theorem bx:2*(Sm+Cm)+EE 3 Rm<=60000000000000:=by decide +kernel
theorem Sx {P:List (List Rat)->Prop} (I:Db P 256) (hm:∀{u},Tf P u->u.length<=3) {S:Nat} (a:Rm<=S) (f:S<=Sm):Cv (Tf P) Rm Cm S:=
 {Tf.OG I hm eN a ZM (fun h d=>(Zy h d).mono (by omega)) (Nat.le_trans (by omega) bx) with HB:=fun {u} hu=>(Zw _ (hm hu)).mono (by omega)}
open Classical in
noncomputable def As (x:Re):Re:=if h:x≠0 then Classical.choose (Re.J5 h) else 0
theorem Cy {x:Re} (h:x≠0):x*As x=1:=by
 unfold As;rw[dif_pos h];exact Classical.choose_spec (Re.J5 h)
theorem Ly {u:List (List Rat)} {x:Re} (hu:Ab u) (f:In u x) (a:x≠0):In u (As x):=by
 obtain⟨y,g,e⟩:=EF hu f a;have d:=Cy a
 rw[show As x=y by
  have:As x=As x*(x*y):=by rw[e];grind
  rw[this];have:As x*(x*y)=(x*As x)*y:=by grind
  rw[this,d];grind]
 exact g
open Classical in
noncomputable def DD (x:Re):Re:=if x<0 then -x else x
theorem IX (x:Re):0<=DD x:=by unfold DD;split <;> grind
theorem TC {u:List (List Rat)} {x:Re} (a:In u x):In u (DD x):=by unfold DD;split;exact Fc a;exact a
open Classical in
noncomputable def Ex (n:Nu):Nu:=if h:Ab n.1/\In n.1 n.2 then (Classical.choose (P0 h.1 h.2 (Nat.le_refl _)),n.2) else n
theorem Pz {n:Nu} (a:Ab n.1) (d:In n.1 n.2):Fs n.1.length (n.1.reverse,co n.1 n.2)=((Ex n).1.reverse,co (Ex n).1 (Ex n).2)/\GU n.1 n.2 (Ex n).1/\(Ex n).2=n.2:=by
 unfold Ex;rw[dif_pos ⟨a,d⟩];have:=Classical.choose_spec (P0 a d (Nat.le_refl _));exact⟨this.1,this.2,rfl⟩
def Gv (n:Nu):Prop:=(∃q∈co n.1 n.2,¬Bz q)\/∃s∈n.1,∃q∈s,¬Bz q
noncomputable def DY (k:Nat) (a b:Nu) (roots:Nat):Nu×Nat:=by
 classical
 exact if k=1 then ((BH a.1 b.1,a.2+b.2),roots)
 else if k=2 then ((BH a.1 b.1,a.2-b.2),roots)
 else if k=3 then ((BH a.1 b.1,a.2*b.2),roots)
 else if k=4 then (if b.2=0 then a else (BH a.1 b.1,a.2*As b.2),roots)
 else if roots<3 then ((Ax a.1 (DD a.2),Re.sqrt (DD a.2)),roots+1) else (a,roots)
def FN:Nu:=([],0)
noncomputable def CE (l:List Nu) (i:Nat):Nu:=l.getD (i%l.length) FN
def IK (n:Int):Int:=(n+9223372036854775808)%18446744073709551616-9223372036854775808
theorem P9 (n:Int): -9223372036854775808<=IK n/\IK n<9223372036854775808:=by unfold IK;omega
def FM (o:el Bf):Rat:=Rat.divInt (IK o.2.2.2.1) ((o.2.2.2.2.toNat%8+1:Nat):Int)
noncomputable def Cu (st:List Nu×Nat) (o:el Bf):Nu×Nat:=by
 classical
 exact if st.1=[]\/o.1.toNat%6=0 then (([],Re.ofRat (FM o)),st.2) else DY (o.1.toNat%6) (CE st.1 o.2.1.toNat) (CE st.1 o.2.2.1.toNat) st.2
noncomputable def Er (l:List Nu) (x:Nu):Nu:=by
 classical
 exact if l≠[]/\Gv x then l.getLastD FN else x
noncomputable def Gt (st:List Nu×Nat) (o:el Bf):List Nu×Nat:=(st.1++[Ex (Er st.1 (Cu st o).1)],(Cu st o).2)
noncomputable def runN (xs:List (el Bf)):List Nu×Nat:=xs.foldl Gt ([],0)
theorem VL (xs:List (el Bf)) (o:el Bf):runN (xs++[o])=Gt (runN xs) o:=by rw[runN,List.foldl_append];rfl
def IQ (st:List Nu×Nat):Prop:=st.2<=3/\∃V:List Re,V.length<=st.2/\∀n∈st.1,BY V n
theorem BY.trim {V:List Re} {n:Nu} (h:BY V n):BY V (Ex n):=by
 obtain⟨_,t,e⟩:=Pz h.red h.mem;refine⟨t.red,by rw[e];exact t.mem,fun v i=>h.BE v (t.BE v i),fun s g q a=>?_,fun q a=>?_⟩
 ·obtain⟨j,f,d⟩:=t.Fk s g q a;exact h.Fk j f q d
 rw[e] at a;exact h.cos q (t.cos q a)
theorem BY.cW {V:List Re} {n:Nu} (f:Ab n.1) (g:In n.1 n.2) (h3:∀v∈Go.Abs.BE n.1,v∈V) (h:¬Gv n):BY V n:=
 ⟨f,g,h3,fun s i q d=>Classical.byContradiction fun a=>h (.inr ⟨s,i,q,d,a⟩),fun q d=>Classical.byContradiction fun a=>h (.inl ⟨q,d,a⟩)⟩
theorem OH {l:List Nu} (h:l≠[]) (i:Nat):CE l i∈l:=by
 have:i%l.length<l.length:=Nat.mod_lt _ (List.length_pos_iff.2 h);unfold CE;rw[List.getD_eq_getElem?_getD,List.getElem?_eq_getElem this];exact List.getElem_mem this
theorem a8 {l:List Nu} (h:l≠[]):l.getLastD FN∈l:=by
 cases l with
 | nil=>exact absurd rfl h
 | cons a l=>rw[List.getLastD_cons];cases l with
  | nil=>exact List.mem_cons_self
  | cons b l=>rw[List.getLastD_eq_getLast?];exact List.mem_cons_of_mem _ (by
   rw[List.getLast?_eq_some_getLast (by simp)];exact List.getLast_mem _)
section
variable {V:List Re} {ns:List Nu}
theorem Hw (hV:V.length<=3) (h:∀n∈ns,BY V n) {S:Nat} (a:Rm<=S) (d:S<=Sm):Cv (Tf (PN ns)) Rm Cm S:=
 Sx (PN.HF hV h) (fun {u} hu=>Nat.le_trans (hu.len (PN.HF hV h) (fun f=>PN.BE h f)) hV) a d
theorem EZ (hV:V.length<=3) (h:∀n∈ns,BY V n) {n:Nu} (a:n∈ns):Tf (PN ns) n.1:=Tf.of (PN.HF hV h) (PN.self a)
structure JX (V:List Re) (n:Nu):Prop where
 red:Ab n.1
 mem:In n.1 n.2
 BE:∀v∈BE n.1,v∈V
theorem JX.MO (hV:V.length<=3) (h:∀n∈ns,BY V n) {n:Nu} (ht:Tf (PN ns) n.1) (hm:In n.1 n.2):JX V n:=
 ⟨ht.red (PN.HF hV h),hm,ht.BE (PN.HF hV h) (fun a=>PN.BE h a)⟩
theorem BY.VB {n:Nu} (h:BY V n):JX V n:=⟨h.red,h.mem,h.BE⟩
theorem Zt (hV:V.length<=3) (h:∀n∈ns,BY V n) {a b:Nu} (ha:a∈ns) (hb:b∈ns):Tf (PN ns) (BH a.1 b.1)/\In (BH a.1 b.1) a.2/\In (BH a.1 b.1) b.2:=by
 have G:=(Hw hV h (Nat.le_refl Rm) (by decide)).toGam;obtain⟨d,f,h3⟩:=G.BH (EZ hV h ha) (EZ hV h hb);exact⟨d,f _ (h a ha).mem,h3 _ (h b hb).mem⟩
theorem P7 {u:List (List Rat)} {v:Re} (f:In u v):∀x∈BE (Ax u v),x=v\/x∈BE u:=by
 by_cases d:Sq u v
 ·rw[EW d];exact fun x a=> .inr a
 rw[D9 d];intro x a;rcases List.mem_cons.1 a with rfl | a
 ·exact .inl (Df f)
 exact .inr a
theorem PJ {u:List (List Rat)} {v:Re} (h:Ab u) (a:In u v) (f:0<=v):Ab (Ax u v):=by
 by_cases d:v=0
 ·subst d;rw[EW ⟨0,Bp u,by grind⟩];exact h
 exact PI h a (by grind)
theorem KR {st:List Nu×Nat} (h:IQ st) (o:el Bf):(Cu st o).2<=3/\∃V,V.length<=(Cu st o).2/\(∀n∈st.1,BY V n)/\JX V (Cu st o).1:=by
 obtain⟨h3,V,hV,d⟩:=h;have f:=Nat.le_trans hV h3;unfold Cu
 split
 ·exact⟨h3,V,hV,d,trivial,⟨[FM o],rfl,rfl⟩,fun v i=>by simp[Go.Abs.BE] at i⟩
 rename_i z
 have j:st.1≠[]:=fun e=>z (.inl e)
 have ha:=OH j o.2.1.toNat;have hb:=OH j o.2.2.1.toNat
 generalize CE st.1 o.2.1.toNat=a at*
 generalize CE st.1 o.2.2.1.toNat=b at*
 obtain⟨m,r,s⟩:=Zt f d ha hb;have w:=m.red (PN.HF f d);unfold DY
 split
 ·exact⟨h3,V,hV,d,.MO f d m (Cp r s)⟩
 split
 ·exact⟨h3,V,hV,d,.MO f d m (EG r s)⟩
 split
 ·exact⟨h3,V,hV,d,.MO f d m (Ar w r s)⟩
 split
 ·refine⟨h3,V,hV,d,?_⟩
  dsimp only
  split
  ·exact (d a ha).VB
  rename_i t
  exact .MO f d m (Ar w r (Ly w s t))
 split
 ·rename_i A
  have g:=TC (d a ha).mem;refine⟨by show st.2+1<=3;omega,DD a.2::V,by show _+1<=st.2+1;omega,fun n hm=>(d n hm).mono fun v i=>List.mem_cons_of_mem _ i,PJ (d a ha).red g (IX _),LI g (IX _),fun v i=>?_⟩;rcases P7 g v i with rfl | i
  ·exact List.mem_cons_self
  exact List.mem_cons_of_mem _ ((d a ha).BE v i)
 exact⟨h3,V,hV,d,(d a ha).VB⟩
end
theorem fD {n:Int} {d:Nat} (f:n.natAbs<18446744073709551616) (g:0<d) (a:d<18446744073709551616):Bz (Rat.divInt n d):=by
 have e:(Rat.divInt n d)=mkRat n d:=Rat.divInt_ofNat n d;rw[e]
 constructor
 ·have:=Rat.num_mkRat n d;rw[this]
  split
  ·simp
  refine Nat.lt_of_le_of_lt ?_ f;exact Int.natAbs_ediv_le_natAbs _ _
 have:=Rat.den_mkRat n d;rw[this]
 split
 ·decide
 exact Nat.lt_of_le_of_lt (Nat.div_le_self _ _) a
theorem OU {V:List Re} {l:List Nu} {x:Nu} (g:∀n∈l,BY V n) (a:JX V x) (f:l=[]->¬Gv x):BY V (Er l x):=by
 unfold Er
 split
 ·rename_i h;exact g _ (a8 h.1)
 rename_i h
 refine .cW a.red a.mem a.BE fun d=>?_
 by_cases he:l=[]
 ·exact f he d
 exact h ⟨he,d⟩
theorem PH (o:el Bf):¬Gv ([],Re.ofRat (FM o)):=by
 have g:Bz (FM o):=fD (by have:=P9 o.2.2.2.1;omega) (by omega) (by omega);rintro (⟨q,f,d⟩ |⟨s,a,_⟩)
 ·rw[Co] at f;rw[List.mem_singleton.1 f] at d;exact d g
 simp at a
theorem fz {st:List Nu×Nat} (h:IQ st) (o:el Bf):IQ (Gt st o):=by
 obtain⟨d,V,f,h3,g⟩:=KR h o;refine⟨d,V,f,fun n a=>?_⟩;rcases List.mem_append.1 a with a | a
 ·exact h3 n a
 rw[List.mem_singleton.1 a];refine (OU h3 g fun he=>?_).trim;have:(Cu st o).1=([],Re.ofRat (FM o)):=by unfold Cu;rw[if_pos (.inl he)]
 rw[this];exact PH o
theorem VS:∀{xs:List (el Bf)} {st:List Nu×Nat},IQ st->IQ (xs.foldl Gt st)
 | [],_,h=>h
 | o::xs,_,h=>VS (xs:=xs) (fz h o)
theorem Pc (xs:List (el Bf)):IQ (runN xs):=VS ⟨by decide,[],by simp,by simp⟩
end Go.Abs
namespace Go.Abs
def qn (k:Nat):Re:=Re.ofRat ((k:Nat):Rat)
noncomputable def rtN (k:Nat):Nu:=(Ax [] (qn k),Re.sqrt (qn k))
noncomputable def iL (k:Nat):Nu:=([],qn k)
variable {k:Nat}
theorem PM:Ab []:=trivial
theorem Pm (h:k<18446744073709551616):Bz ((k:Nat):Rat):=by
 refine⟨?_,?_⟩
 ·rw[show ((k:Nat):Rat).num=(k:Int) from rfl,Int.natAbs_natCast];exact h
 rw[show ((k:Nat):Rat).den=1 from rfl];decide
theorem aq (u:List (List Rat)):DO [] u=u:=by
 unfold DO
 split
 ·rename_i h;exact (List.suffix_nil.1 h).symm
 rw[if_pos (List.nil_suffix)]
theorem ak (u v:List (List Rat)):BH u v=DO u v:=by
 show DO (DO [] u) v=_
 rw[aq]
theorem cT {m:Nat} (d:m*m<k) (f:k<(m+1)*(m+1)):¬Sq [] (qn k):=by
 rw[qn,Ps]
 rintro⟨r,_,a⟩
 have a:r*r=((k:Int):Rat):=a;obtain⟨n,h⟩:=TE a;rw[h,<-Rat.intCast_mul] at a;have h3:n*n=(k:Int):=Rat.intCast_inj.1 a
 have g:n.natAbs*n.natAbs=k:=by
  have:=congrArg Int.natAbs h3;rwa [Int.natAbs_mul,Int.natAbs_natCast] at this
 rw[<-g] at d f;have i:=Nat.mul_self_lt_mul_self_iff.1 d;have j:=Nat.mul_self_lt_mul_self_iff.1 f;omega
noncomputable def Zz:Re:=qn 5+qn 2*Re.sqrt (qn 6)
def PA (u:List (List Rat)):Prop:=u<:+Ax [[6]] Zz\/u<:+Ax [] (qn 2)\/u<:+Ax [] (qn 3)
end Go.Abs
namespace Go.Abs
section
variable {P:List (List Rat)->Prop} {R0:Nat}
theorem bV {α:Type} {Q:α->Prop} {f:α->Nat} {m:Nat} (hm:∀a,Q a->f a<=m) {a:α} (ha:Q a):∃b,Q b/\∀c,Q c->f c<=f b:=by
 induction h:m-f a using Nat.strongRecOn generalizing a with
 | _ n j=>
  by_cases g:∀c,Q c->f c<=f a
  ·exact⟨a,ha,g⟩
  obtain⟨c,i⟩:=Classical.not_forall.1 g;obtain⟨d,h3⟩:=Classical.not_imp.1 i;have:=hm c d;exact j (m-f c) (by omega) d rfl
theorem Tf.top (I:Db P R0) {m:Nat} (hm:∀{u},Tf P u->u.length<=m):∃w,Tf P w/\∀{u},Tf P u->BK u w:=by
 obtain⟨w,hw,z⟩:=bV (Q:=Tf P) (f:=List.length) (fun u h=>hm h) Tf.nil;have j:=hw.red I
 have key:∀{u},P u->BK u w:=by
  intro u
  induction u with
  | nil=>exact fun _=>Ip w
  | cons r u i=>
   intro a;have d:=i (I.sub a);have s:=I.red a;refine Io j d ?_
   have g:Sq w (AN u r):=by
    apply Classical.byContradiction;intro t;have:=z _ (Tf.Ax hw a d);rw[D9 t,List.length_cons] at this;omega
   exact (Ki (by have:=s.2.2.1;grind)).1 g
 refine⟨w,hw,fun {u} h=>?_⟩
 induction h with
 | nil=>exact Ip w
 | @Ax u n o ht a d i=>
  by_cases g:Sq u (AN o n)
  ·rw[EW g];exact i
  rw[D9 g];refine Io j i ?_;rw[Kc (d _ (CG (I.red a)))];exact key a _ (H0 o n)
end
theorem El.down {u:List (List Rat)} {s:Nat} {x:Re} (f:In u x):∀{v:List (List Rat)},Ab (v++u)->El (v++u) s x->El u s x
 | [],_,h=>h
 | r::v,d,h=>by
  have a:In (v++u) x:=Li v x f;refine El.down f (v:=v) d.1 ⟨a,?_⟩;obtain⟨D,d0,d1,d2,d3⟩:=h.bd;have e:co (r::(v++u)) x=co (v++u) x++co (v++u) 0:=Cr d a (Bp _) (by grind);rw[List.cons_append,e] at d2 d3;exact⟨D,d0,d1,(DN.app.1 d2).1,(MX.app.1 d3).1⟩
structure Fm (TT:List (List Rat)->Prop) (w:List (List Rat)) (R b c M q p:Nat):Prop where
 OG:∀{S},R<=S->S<=M*b->Cv TT R (c*b) S
 top:TT w
 all:∀{u},TT u->BK u w
 hR:R<=c*b
 hb:64<=b
 Tp:∀{x y s t},El w s x->El w t y->El w (s+t+b) (x*y)
 aj:∀{x y s},El w s x->In w y->x*y=1->El w (q*s+p*b) y
 iu:∀{u},TT u->II u.length R (M*b)<=60000000000000
def Nm (TT:List (List Rat)->Prop) (w:List (List Rat)) (b k:Nat) (T:List (List (el AA))) (A:List (el AA)) (x:Re):Prop:=∃u,TT u/\T=tw u/\A=em u x/\In u x/\El w (k*b) x
section
variable {TT:List (List Rat)->Prop} {w:List (List Rat)} {R b c M q p k l:Nat} {T T1 T2:List (List (el AA))} {A A1 A2:List (el AA)} {x y:Re}
theorem Fm.g (F:Fm TT w R b c M q p) (h:k<=M) (a:c<=k):Cv TT R (c*b) (k*b):=F.OG (Nat.le_trans F.hR (Nat.mul_le_mul_right b a)) (Nat.mul_le_mul_right b h)
theorem Fm.own (F:Fm TT w R b c M q p) (o:c<=M) (h:Nm TT w b k T A x):∃u,TT u/\T=tw u/\A=em u x/\In u x/\El w (k*b) x/\El u ((k+c)*b) x:=by
 obtain⟨u,hu,r,n,j,he⟩:=h;refine⟨u,hu,r,n,j,he,?_⟩;have G:=(F.g o (Nat.le_refl c)).toGam;obtain⟨f,s,h3⟩:=G.BH hu F.top;have a:=G.Be F.top f h3 he;rw[<-Nat.add_mul] at a;rw[ak] at f a;have d:=(G.AU f).red;unfold DO at a d
 split at a
 ·exact a
 rename_i m
 rw[if_neg m] at d
 split at a
 ·rename_i i
  obtain⟨v,rfl⟩:=i;exact El.down j (G.AU F.top).red a
 rename_i i
 rw[if_neg i] at d;obtain⟨v,e⟩:=OE u w;rw[<-e] at a d;exact El.down j d a
theorem Nm.mono (h:Nm TT w b k T A x) (i:k<=l):Nm TT w b l T A x:=by
 obtain⟨u,a,d,h3,f,g⟩:=h;exact⟨u,a,d,h3,f,g.mono (Nat.mul_le_mul_right b i)⟩
theorem Nm.cast (h:Nm TT w b k T A x) (e:x=y):Nm TT w b k T A y:=e ▸ h
theorem Fm.two (F:Fm TT w R b c M q p) (ha:Nm TT w b k T1 A1 x) (hb:Nm TT w b l T2 A2 y) (B:k+c+1<=M) (D:l+c+1<=M):∃u v j,j<=M/\(j=k+c+1\/j=l+c+1)/\TT u/\TT v/\T1=tw u/\T2=tw v/\A1=em u x/\A2=em v y/\In u x/\In v y/\El w (k*b) x/\El w (l*b) y/\El u (j*b) x/\El v (j*b) y/\Cv TT R (c*b) (j*b)/\TT (BH u v)/\BK u (BH u v)/\BK v (BH u v):=by
 obtain⟨u,hu,f,a,H,n,m⟩:=F.own (by omega) ha;obtain⟨v,t,i,d,I,r,o⟩:=F.own (by omega) hb
 have key:∀j,j<=M->(j=k+c+1\/j=l+c+1)->k+c+1<=j->l+c+1<=j->∃u v j,j<=M/\(j=k+c+1\/j=l+c+1)/\TT u/\TT v/\T1=tw u/\T2=tw v/\A1=em u x/\A2=em v y/\In u x/\In v y/\El w (k*b) x/\El w (l*b) y/\El u (j*b) x/\El v (j*b) y/\Cv TT R (c*b) (j*b)/\TT (BH u v)/\BK u (BH u v)/\BK v (BH u v):=by
  intro j s A h3 J;have G:=F.g s (by omega);obtain⟨g1,g2,z⟩:=G.toGam.BH hu t;exact⟨u,v,j,s,A,hu,t,f,i,a,d,H,I,n,r,m.mono (Nat.mul_le_mul_right b (by omega)),o.mono (Nat.mul_le_mul_right b (by omega)),G,g1,g2,z⟩
 by_cases h:k<=l
 ·exact key (l+c+1) D (.inr rfl) (by omega) (Nat.le_refl _)
 exact key (k+c+1) B (.inl rfl) (Nat.le_refl _) (by omega)
end
end Go.Abs
namespace Go.Abs
open Go.RowKit
variable {A1 A2 C:LR} {K K2 R S S2:Nat} {T T1 T2:List LR} {TT:List (List Rat)->Prop} {c:Int} {q:Rat} {u v:List (List Rat)} {x y:Re}
theorem Q9 (G:Cv TT R K S) (hu:TT u) (W:TT v) (t:T1=tw u) (w:T2=tw v) (o:A1=em u x) (s:A2=em v y) (X:El u S x) (Y:El v S y) {A B:LR} (U:T=tw (BH u v)) (J:A=em (BH u v) x) (L:B=em (BH u v) y):CF 167 [.agg [.sl (.sl AA) T1,.sl AA A1],.agg [.sl (.sl AA) T2,.sl AA A2]] (.AE [(true,[.sl (.sl AA) T,.sl AA A]),(true,[.sl (.sl AA) T,.sl AA B]),(false,[.int .i64 0])]):=by
 obtain⟨O,j⟩:∃z:List (el Am),z=[(T,A),(T,B)]:=⟨_,rfl⟩
 have Q:O.length=2:=by rw[j];rfl
 have H:O[0]? =some (T,A):=by rw[j];rfl
 have I:O[1]? =some (T,B):=by rw[j];rfl
 refine AH Tryz.func167 (by kernel_rfl) rfl fun E N=>?_
 conv=>cbv
 refine⟨[(T1,A1),(T2,A2)],fun _=>⟨rfl,by decide,rfl,⟨rfl,by first | exact t1 | exact t2 | exact t4 | simp[Aw,BF,cells],⟨rfl,by first | exact t1 | exact t2 | exact t4 | simp[Aw,BF,cells],trivial⟩⟩⟩,.inr ?_⟩;try conv=>cbv
 refine cL (r:= .AE [(false,[.sl Am O]),(false,[.int .i64 0])]) N (XZ (ns:=[(u,x),(v,y)]) G (by intro n h;simp at h;rcases h with rfl | rfl;exact hu;exact W) (by rw[t,w,o,s];rfl) (by intro n h;simp at h;rcases h with rfl | rfl;exact X;exact Y) (by show 2<=1000000;decide) (by rw[j,U,J,L];rfl)) t1 ?_;try conv=>cbv
 intro Z m;cases m.trans (show _=false by decide);conv=>cbv
 obtain⟨D,a⟩:=AG (l:=O) (i:=0) (by omega);refine⟨D,fun _=>⟨by omega,a⟩,?_⟩;try conv=>cbv
 obtain⟨F,d⟩:=AG (l:=O) (i:=1) (by omega);refine⟨F,fun _=>⟨by omega,d⟩,?_⟩;try conv=>cbv
 refine g2 rfl ?_;have f:=Option.some.inj (a.symm.trans H);have g:=Option.some.inj (d.symm.trans I);exact fA ⟨⟨rfl,congrArg _ (by rw[f]),congrArg _ (by rw[f]),trivial⟩,⟨rfl,congrArg _ (by rw[g]),congrArg _ (by rw[g]),trivial⟩,t2,trivial⟩ rfl (by simp)
theorem NN (G:Cv TT R K S) (hu:TT u) (n:TT v) (h:T1=tw u) (i:T2=tw v) (f:A1=em u x) (g:A2=em v y) (z:El u S x) (D:El v S y) (H:T=tw (BH u v)) (F:C=em (BH u v) (x+y)):CF 80 [.agg [.sl (.sl AA) T1,.sl AA A1],.agg [.sl (.sl AA) T2,.sl AA A2]] (.AE [(true,[.sl (.sl AA) T,.sl AA C]),(false,[.int .i64 0])]):=by
 obtain⟨a,j,m⟩:=G.toGam.BH hu n;have o:=G.Be hu a j z;have r:=G.Be n a m D;have hmul:=G.mul a;obtain⟨A,s⟩:=CY (em (BH u v) x);obtain⟨B,t⟩:=CY (em (BH u v) y);refine AH Tryz.func80 (by kernel_rfl) rfl fun E w=>?_
 conv=>cbv
 refine cL w (Q9 G hu n h i f g z D H s t) ⟨t2,t2,trivial⟩ ?_;try conv=>cbv
 intro I d;cases d.trans (show _=false by decide);conv=>cbv
 refine cL w (Hl (G.AU a) s t o r (by omega) (by omega) F) t3 ?_;try conv=>cbv
 refine g2 rfl ?_;exact fA ⟨t3,t2,trivial⟩ rfl (by simp)
theorem NO (G:Cv TT R K S) (hu:TT u) (n:TT v) (h:T1=tw u) (i:T2=tw v) (f:A1=em u x) (g:A2=em v y) (D:El u S x) (F:El v S y) (z:T=tw (BH u v)) (H:C=em (BH u v) (x*y)):CF 71 [.agg [.sl (.sl AA) T1,.sl AA A1],.agg [.sl (.sl AA) T2,.sl AA A2]] (.AE [(true,[.sl (.sl AA) T,.sl AA C]),(false,[.int .i64 0])]):=by
 obtain⟨a,j,m⟩:=G.toGam.BH hu n;have o:=G.Be hu a j D;have r:=G.Be n a m F;have hmul:=G.mul a;obtain⟨A,s⟩:=CY (em (BH u v) x);obtain⟨B,t⟩:=CY (em (BH u v) y);refine AH Tryz.func71 (by kernel_rfl) rfl fun E w=>?_
 conv=>cbv
 refine cL w (Q9 G hu n h i f g D F z s t) ⟨t2,t2,trivial⟩ ?_;try conv=>cbv
 intro I d;cases d.trans (show _=false by decide);conv=>cbv
 refine cL w (DM (G.AU a) z s t o r (by omega) H) t3 ?_;try conv=>cbv
 refine g2 rfl ?_;exact fA ⟨t3,t2,trivial⟩ rfl (by simp)
theorem NP (G:Cv TT R K S) (hu:TT u) (g:T1=tw u) (a:A1=em u x) (h:El u S x) (d:C=em u (-x)):CF 32 [.agg [.sl (.sl AA) T1,.sl AA A1]] (.agg [.sl (.sl AA) T1,.sl AA C]):=by
 refine AH Tryz.func32 (by kernel_rfl) rfl fun E f=>?_
 conv=>cbv
 refine cL f (IV (G.AU hu) a h d) t2 ?_;try conv=>cbv
 refine g2 rfl ?_;exact fA ⟨t3,trivial⟩ rfl (by simp)
theorem NS (G:Cv TT R K S) (hu:TT u) (i:TT v) (h:T1=tw u) (a:T2=tw v) (f:A1=em u x) (g:A2=em v y) (r:El u S x) (m:El v S y) (o:T=tw (BH u v)) (n:C=em (BH u v) (x-y)):CF 180 [.agg [.sl (.sl AA) T1,.sl AA A1],.agg [.sl (.sl AA) T2,.sl AA A2]] (.AE [(true,[.sl (.sl AA) T,.sl AA C]),(false,[.int .i64 0])]):=by
 refine AH Tryz.func180 (by kernel_rfl) rfl fun E j=>?_
 conv=>cbv
 obtain⟨s,d⟩:=CY (em v (-y));refine cL j (NP G i a g m d) ⟨t2,trivial⟩ ?_;try conv=>cbv
 refine cL j (NN G hu i h a f d r (m.neg (G.AU i).red) o n) ⟨t2,t2,trivial⟩ ?_;try conv=>cbv
 refine g2 rfl ?_;exact fA ⟨t3,t2,trivial⟩ rfl (by simp)
theorem NQ (G:Cv TT R K S) (hu:TT u) (d:T1=tw u) (a:A1=em u x) (h:El u S x) (g:c=BJ x):CF 24 [.agg [.sl (.sl AA) T1,.sl AA A1]] (.one (.int .i64 c)):=by
 refine AH Tryz.func24 (by kernel_rfl) rfl fun E f=>?_
 conv=>cbv
 refine cL f (XY (G.AU hu) d a h ((G.HB hu).mono (Nat.le_add_right _ _)).v0 g) t2 ?_;try conv=>cbv
 exact fA ⟨t2,trivial⟩ rfl (by simp)
theorem NR (G:Cv TT R K S) (hu:TT u) (f:T1=tw u) (d:A1=em u x) (m:El u S x) (hw:TT (Ax u x)) (g:0<=x) (j:T=tw (Ax u x)) (h:C=em (Ax u x) (Re.sqrt x)):CF 79 [.agg [.sl (.sl AA) T1,.sl AA A1]] (.AE [(true,[.sl (.sl AA) T,.sl AA C]),(false,[.int .i64 0])]):=by
 refine AH Tryz.func79 (by kernel_rfl) rfl fun E i=>?_
 conv=>cbv
 refine cL i (NI (G.AU hu) (G.AU hw) (G.ht hw) f d m ((G.HB hu).mono (Nat.le_add_right _ _)) g j h) t2 ?_;try conv=>cbv
 intro n a;cases a.trans (show _=false by decide);conv=>cbv
 exact fA ⟨t3,t2,trivial⟩ rfl (by simp)
theorem Qn (G:Cv TT R K S) (hu:TT u) (s:TT v) (m:T1=tw u) (d:T2=tw v) (g:A1=em u x) (h:A2=em v y) (A:El u S x) (B:El v S y) {i:Re} (z:In v i) (o:y*i=1) (n:El v S i) (j:II v.length R S<=60000000000000) (w:T=tw (BH u v)) (t:C=em (BH u v) (x*i)):CF 103 [.agg [.sl (.sl AA) T1,.sl AA A1],.agg [.sl (.sl AA) T2,.sl AA A2]] (.AE [(true,[.sl (.sl AA) T,.sl AA C]),(false,[.int .i64 0])]):=by
 refine AH Tryz.func103 (by kernel_rfl) rfl fun E r=>?_
 conv=>cbv
 obtain⟨F,a⟩:=CY (em v i);refine cL r (LB (G.AU s) d h B z o j a) t2 ?_;try conv=>cbv
 intro D f;cases f.trans (show _=false by decide);conv=>cbv
 refine cL r (NO G hu s m d g a A n w t) ⟨t2,t2,trivial⟩ ?_;try conv=>cbv
 exact fA ⟨t3,t2,trivial⟩ rfl (by simp)
theorem Xc (G:Cv TT R K S) (hu:TT u) (m:TT v) (j:T1=tw u) (f:T2=tw v) (h:A1=em u x) (d:A2=em v y) (o:El u S x) (s:El v S y) (g:y=0):CF 103 [.agg [.sl (.sl AA) T1,.sl AA A1],.agg [.sl (.sl AA) T2,.sl AA A2]] (.AE [(true,[.sl (.sl AA) (([]:List LR)),.sl AA (([]:LR))]),(false,[.int .i64 6])]):=by
 refine AH Tryz.func103 (by kernel_rfl) rfl fun E i=>?_
 conv=>cbv
 refine cL (r:= .AE [(false,[.sl AA []]),(false,[.int .i64 6])]) i (Q0 (G.AU m) f (d.trans (by rw[g]))) t2 ?_;try conv=>cbv
 intro n a;cases a.trans (show _=true by decide);conv=>cbv
 exact fA ⟨⟨rfl,.inr (.inl ⟨_,rfl⟩),.inr (.inl ⟨_,rfl⟩),trivial⟩,t2,trivial⟩ rfl (by simp)
theorem Xb (G:Cv TT R K S) (hu:TT u) (r:TT v) (j:T1=tw u) (m:T2=tw v) (h:A1=em u x) (i:A2=em v y) (z:El u S x) (A:El v S y) (B:Cv TT R K2 S2) (H:2*(S+K)+1<=S2) (D:c=BJ (x-y)):CF 93 [.agg [.sl (.sl AA) T1,.sl AA A1],.agg [.sl (.sl AA) T2,.sl AA A2]] (.AE [(false,[.int .i64 c]),(false,[.int .i64 0])]):=by
 obtain⟨a,n,o⟩:=G.toGam.BH hu r;have s:=G.Be hu a n z;have t:=G.Be r a o A;have hmul:=G.mul a;refine AH Tryz.func93 (by kernel_rfl) rfl fun E w=>?_
 conv=>cbv
 obtain⟨J,f⟩:=E7 (tw (BH u v));obtain⟨I,d⟩:=CY (em (BH u v) (x-y));refine cL w (NS G hu r j m h i z A f d) ⟨t2,t2,trivial⟩ ?_;try conv=>cbv
 intro F g;cases g.trans (show _=false by decide);conv=>cbv
 refine cL w (NQ B a f d ((s.sub (G.AU a).red t).mono (by omega)) D) ⟨t2,trivial⟩ ?_;try conv=>cbv
 exact fA ⟨t2,t2,trivial⟩ rfl (by simp)
theorem Xd (G:Cv TT R K S) (hu:TT u) (t:TT v) (j:T1=tw u) (m:T2=tw v) (g:A1=em u x) (i:A2=em v y) (w:El u S x) (z:El v S y) (n:Cv TT R K2 S2) (r:2*(S+K)+1<=S2) {c:Bool} (s:c=true↔x=y):CF 22 [.agg [.sl (.sl AA) T1,.sl AA A1],.agg [.sl (.sl AA) T2,.sl AA A2]] (.one (.bool c)):=by
 refine AH Tryz.func22 (by kernel_rfl) rfl fun E o=>?_
 conv=>cbv
 obtain⟨D,a⟩:=xI (BJ (x-y));refine cL o (Xb G hu t j m g i w z n r a) ⟨t2,t2,trivial⟩ ?_;try conv=>cbv
 intro A d;cases d.trans (show _=true by decide);conv=>cbv
 intro B f;conv=>cbv
 exact fA ⟨⟨rfl,congrArg _ (by rw[Bool.eq_iff_iff,s,f,beq_iff_eq,a,Dv];constructor <;> intro h <;> grind),trivial⟩,trivial⟩ rfl (by simp)
theorem Xe (G:Cv TT R K S) (hu:TT u) (a:T1=tw u) (d:A1=em u x) (m:El u S x):CF 211 [.agg [.sl (.sl AA) T1,.sl AA A1]] (.one (.bool true)):=by
 have i:T1.length=u.length:=by rw[a,BU]
 have j:=G.ht hu;have hmul:=G.mul hu;refine AH Tryz.func211 (by kernel_rfl) rfl fun E g=>?_
 conv=>cbv
 rintro r ⟨o,f5⟩;conv=>cbv
 intro n f;conv=>cbv
 cases n <;> conv=>cbv
 ·have h:=I1 f;exact absurd h (by omega)
 have h:=I2 f;refine cL g (Jc (G.AU hu) a d m (by omega)) t2 ?_;try conv=>cbv
 refine cL g (NT (G.AU hu) a (G.HB hu).vR (G.HB hu).qR) t1 ?_;try conv=>cbv
 exact fA ⟨t2,trivial⟩ rfl (by simp)
theorem K8 {b1 b2:Bool} {l1 l2:List UInt32} (d:BM q b1 l1 b2 l2) (a:C=em [] (Re.ofRat q)):CF 169 [.agg [.bool b1,.sl .u32 l1,.bool b2,.sl .u32 l2]] (.agg [.sl (.sl AA) (([]:List LR)),.sl AA C]):=by
 refine AH Tryz.func169 (by kernel_rfl) rfl fun E f=>?_
 conv=>cbv
 refine⟨[((b1,l1),(b2,l2))],fun _=>⟨rfl,by decide,rfl,⟨rfl,by first | exact t1 | exact t2 | exact t4 | simp[Aw,BF,cells],trivial⟩⟩,.inr ?_⟩;try conv=>cbv
 exact fA ⟨⟨rfl,.inr (.inl ⟨_,rfl⟩),congrArg _ (by rw[a,DT,<-d.rp]),trivial⟩,trivial⟩ rfl (by simp)
theorem D6 {x:Int} (g: -9223372036854775808<=x/\x<9223372036854775808) (f:C=em [] (Re.ofRat x)):CF 74 [.one (.int .i64 x)] (.agg [.sl (.sl AA) (([]:List LR)),.sl AA C]):=by
 refine AH Tryz.func74 (by kernel_rfl) rfl fun E d=>?_
 conv=>cbv
 obtain⟨j,m,h,i,a⟩:=Bb (x:Rat);refine cL d (D7 g rfl a) t1 ?_;try conv=>cbv
 refine cL d (K8 a f) ⟨t4,trivial⟩ ?_;try conv=>cbv
 exact fA ⟨t3,trivial⟩ rfl (by simp)
theorem K7 {n d:Int} (j: -9223372036854775808<=n/\n<9223372036854775808) (i: -9223372036854775808<=d/\d<9223372036854775808) (g:d≠0) (m:q=Rat.divInt n d) (h:C=em [] (Re.ofRat q)):CF 110 [.one (.int .i64 n),.one (.int .i64 d)] (.agg [.sl (.sl AA) (([]:List LR)),.sl AA C]):=by
 refine AH Tryz.func110 (by kernel_rfl) rfl fun E f=>?_
 conv=>cbv
 obtain⟨s,t,o,r,a⟩:=Bb q;refine cL f (NK j i g m a) t2 ?_;try conv=>cbv
 refine cL f (K8 a h) ⟨t4,trivial⟩ ?_;try conv=>cbv
 exact fA ⟨t3,trivial⟩ rfl (by simp)
end Go.Abs
namespace Go.Abs
open Go.RowKit
section
variable {TT:List (List Rat)->Prop} {w:List (List Rat)} {R b c M q p k l:Nat} {T1 T2:List LR} {A1 A2:LR} {x y:Re}
theorem Nm.data {A3:LR} (h:Nm TT w b k T1 A1 x) (f:Nm TT w b l T1 A3 y) (e:x=y):A1=A3:=by
 obtain⟨u,_,i,g,_⟩:=h;obtain⟨v,_,d,a,_⟩:=f;rw[g,a,e,Mw (i.symm.trans d)]
theorem GH (F:Fm TT w R b c M q p) (ha:Nm TT w b k T1 A1 x) (hb:Nm TT w b l T2 A2 y) (s:k+c+1<=M) (t:l+c+1<=M):∃T A,Nm TT w b (k+l+1) T A (x+y)/\CF 207 [.agg [.sl (.sl AA) T1,.sl AA A1],.agg [.sl (.sl AA) T2,.sl AA A2]] (.AE [(true,[.sl (.sl AA) T,.sl AA A]),(false,[.int .i64 0])])/\CF 80 [.agg [.sl (.sl AA) T1,.sl AA A1],.agg [.sl (.sl AA) T2,.sl AA A2]] (.AE [(true,[.sl (.sl AA) T,.sl AA A]),(false,[.int .i64 0])]):=by
 obtain⟨u,v,j,D,_,hu,o,f,g,a,d,z,B,m,n,h,i,G,g1,g2,r⟩:=F.two ha hb s t;refine⟨_,_,⟨BH u v,g1,rfl,rfl,Cp (g2 _ z) (r _ B),(m.add (G.AU F.top).red n).mono ?_⟩,W0 G.toGam hu o f g a d h i rfl rfl,NN G hu o f g a d h i rfl rfl⟩;have:=F.hb;rw[Nat.add_mul,Nat.add_mul];omega
theorem KM (F:Fm TT w R b c M q p) (ha:Nm TT w b k T1 A1 x) (hb:Nm TT w b l T2 A2 y) (s:k+c+1<=M) (t:l+c+1<=M):∃T A,Nm TT w b (k+l+1) T A (x-y)/\CF 200 [.agg [.sl (.sl AA) T1,.sl AA A1],.agg [.sl (.sl AA) T2,.sl AA A2]] (.AE [(true,[.sl (.sl AA) T,.sl AA A]),(false,[.int .i64 0])])/\CF 180 [.agg [.sl (.sl AA) T1,.sl AA A1],.agg [.sl (.sl AA) T2,.sl AA A2]] (.AE [(true,[.sl (.sl AA) T,.sl AA A]),(false,[.int .i64 0])]):=by
 obtain⟨u,v,j,D,_,hu,o,f,g,a,d,z,B,m,n,h,i,G,g1,g2,r⟩:=F.two ha hb s t;refine⟨_,_,⟨BH u v,g1,rfl,rfl,EG (g2 _ z) (r _ B),(m.sub (G.AU F.top).red n).mono ?_⟩,W7 G.toGam hu o f g a d h i rfl rfl,NS G hu o f g a d h i rfl rfl⟩;have:=F.hb;rw[Nat.add_mul,Nat.add_mul];omega
theorem EN (F:Fm TT w R b c M q p) (ha:Nm TT w b k T1 A1 x) (hb:Nm TT w b l T2 A2 y) (s:k+c+1<=M) (t:l+c+1<=M):∃T A,Nm TT w b (k+l+1) T A (x*y)/\CF 205 [.agg [.sl (.sl AA) T1,.sl AA A1],.agg [.sl (.sl AA) T2,.sl AA A2]] (.AE [(true,[.sl (.sl AA) T,.sl AA A]),(false,[.int .i64 0])])/\CF 71 [.agg [.sl (.sl AA) T1,.sl AA A1],.agg [.sl (.sl AA) T2,.sl AA A2]] (.AE [(true,[.sl (.sl AA) T,.sl AA A]),(false,[.int .i64 0])]):=by
 obtain⟨u,v,j,D,_,hu,o,f,g,a,d,z,B,m,n,h,i,G,g1,g2,r⟩:=F.two ha hb s t;refine⟨_,_,⟨BH u v,g1,rfl,rfl,Ar (G.AU g1).red (g2 _ z) (r _ B),(F.Tp m n).mono ?_⟩,QS G.toGam hu o f g a d h i rfl rfl,NO G hu o f g a d h i rfl rfl⟩;have:=F.hb;rw[Nat.add_mul,Nat.add_mul];omega
theorem Ec (F:Fm TT w R b c M q p) (ha:Nm TT w b k T1 A1 x) (j:k+c+1<=M):∃A,Nm TT w b k T1 A (-x)/\CF 101 [.agg [.sl (.sl AA) T1,.sl AA A1]] (.agg [.sl (.sl AA) T1,.sl AA A])/\CF 32 [.agg [.sl (.sl AA) T1,.sl AA A1]] (.agg [.sl (.sl AA) T1,.sl AA A]):=by
 obtain⟨u,hu,d,f,m,i,h⟩:=F.own (by omega) ha;have G:=F.g j (by omega);have a:=h.mono (Nat.mul_le_mul_right b (Nat.le_succ (k+c)));exact⟨_,⟨u,hu,d,rfl,Fc m,i.neg (G.AU F.top).red⟩,W4 G.toGam hu d f a rfl,NP G hu d f a rfl⟩
theorem DQ (F:Fm TT w R b c M q p) (ha:Nm TT w b k T1 A1 x) (i:k+c+1<=M):∃s:Int,s=BJ x/\CF 99 [.agg [.sl (.sl AA) T1,.sl AA A1]] (.one (.int .i64 s))/\CF 24 [.agg [.sl (.sl AA) T1,.sl AA A1]] (.one (.int .i64 s)):=by
 obtain⟨u,hu,f,d,m,j,h⟩:=F.own (by omega) ha;have G:=F.g i (by omega);have a:=h.mono (Nat.mul_le_mul_right b (Nat.le_succ (k+c)));exact⟨_,rfl,W5 G.toGam hu f d a rfl,NQ G hu f d a rfl⟩
theorem UJ (F:Fm TT w R b c M q p) (ha:Nm TT w b k T1 A1 x) (h:k+c+1<=M):CF 211 [.agg [.sl (.sl AA) T1,.sl AA A1]] (.one (.bool true)):=by
 obtain⟨u,hu,d,a,j,i,f⟩:=F.own (by omega) ha;exact Xe (F.g h (by omega)) hu d a (f.mono (Nat.mul_le_mul_right b (Nat.le_succ (k+c))))
theorem Fm.pair (F:Fm TT w R b c M q p) {j:Nat} (h:2*j+2*c+1<=M):Cv TT R (c*b) ((2*j+2*c+1)*b)/\2*(j*b+c*b)+1<=(2*j+2*c+1)*b:=by
 refine⟨F.g h (by omega),?_⟩;have:=F.hb;rw[Nat.add_mul,Nat.add_mul,Nat.mul_assoc,Nat.mul_assoc];omega
theorem EM (F:Fm TT w R b c M q p) (ha:Nm TT w b k T1 A1 x) (hb:Nm TT w b l T2 A2 y) (B:2*k+4*c+3<=M) (D:2*l+4*c+3<=M):∃e:Bool,(e=true↔x=y)/\CF 107 [.agg [.sl (.sl AA) T1,.sl AA A1],.agg [.sl (.sl AA) T2,.sl AA A2]] (.one (.bool e))/\CF 22 [.agg [.sl (.sl AA) T1,.sl AA A1],.agg [.sl (.sl AA) T2,.sl AA A2]] (.one (.bool e)):=by
 obtain⟨u,v,j,A,r,hu,m,f,g,a,d,H,I,s,t,h,i,G,g1,g2,z⟩:=F.two ha hb (by omega) (by omega);obtain⟨n,o⟩:=F.pair (j:=j) (by omega);obtain⟨e,he⟩:=CV (x=y);exact⟨e,he,W2 G.toGam hu m f g a d h i he,Xd G hu m f g a d h i n o he⟩
theorem D1 (F:Fm TT w R b c M q p) (ha:Nm TT w b k T1 A1 x) (hb:Nm TT w b l T2 A2 y) {d:Nat} (W:q*l+p<=d) (z:y≠0) (hk:k+c+1<=M) (hl:l+c+1<=M) (hi:d+c+1<=M):∃T A,Nm TT w b (k+d+1) T A (x*As y)/\CF 122 [.agg [.sl (.sl AA) T1,.sl AA A1],.agg [.sl (.sl AA) T2,.sl AA A2]] (.AE [(true,[.sl (.sl AA) T,.sl AA A]),(false,[.int .i64 0])])/\CF 103 [.agg [.sl (.sl AA) T1,.sl AA A1],.agg [.sl (.sl AA) T2,.sl AA A2]] (.AE [(true,[.sl (.sl AA) T,.sl AA A]),(false,[.int .i64 0])]):=by
 obtain⟨u,hu,m,h,Y,I,H⟩:=F.own (by omega) ha;obtain⟨v,f,n,i,Z,L,J⟩:=F.own (by omega) hb;have G:=F.g (Nat.le_refl M) (by omega);obtain⟨g1,g2,O⟩:=G.toGam.BH hu f;have a:=Ly (G.AU f).red Z z
 have r:El w (d*b) (As y):=(F.aj L (F.all f _ a) (Cy z)).mono (by
  have Q:=Nat.mul_le_mul_right b W;rw[Nat.add_mul,Nat.mul_assoc] at Q;omega)
 obtain⟨N,X,B,U,_,_,D⟩:=F.own (by omega) (show Nm TT w b d (tw v) (em v (As y)) (As y) from⟨v,f,rfl,rfl,a,r⟩);have ev:N=v:=(Mw B).symm;subst ev;have j:II N.length R (M*b)<=60000000000000:=F.iu f;have s:=H.mono (Nat.mul_le_mul_right b (show k+c<=M by omega));have t:=J.mono (Nat.mul_le_mul_right b (show l+c<=M by omega));have o:=D.mono (Nat.mul_le_mul_right b (show d+c<=M by omega));refine⟨_,_,⟨BH u N,g1,rfl,rfl,Ar (G.AU g1).red (g2 _ Y) (O _ a),(F.Tp I r).mono ?_⟩,W1 G.toGam hu f m n h i s t a (Cy z) o j rfl rfl,Qn G hu f m n h i s t a (Cy z) o j rfl rfl⟩;rw[Nat.add_mul,Nat.add_mul,Nat.one_mul];omega
end
end Go.Abs
