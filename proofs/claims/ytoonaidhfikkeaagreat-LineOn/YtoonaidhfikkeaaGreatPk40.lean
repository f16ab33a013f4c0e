/- Part 41 of a proof. Conditions: each theorem's own. -/
import Derived.Test.YtoonaidhfikkeaaGreatPk37
import Derived.Test.YtoonaidhfikkeaaGreatPk39
set_option linter.all false
set_option maxHeartbeats 8000000
namespace Go.Abs
abbrev Nu:=List (List Rat)×Re
def Bq (q:Rat):Prop:=q.num.natAbs<18446744073709551616/\q.den<18446744073709551616
theorem QA:∀{a:List Rat},(∀q∈a,Bq q)->∃D:Nat,0<D/\D<=2^(64*a.length)/\DN D a
 | [],_=>⟨1,by decide,by simp,fun q f=>by simp at f⟩
 | q::a,h=>by
  obtain⟨D,g,i,j⟩:=QA (a:=a) (fun x d=>h x (List.mem_cons_of_mem _ d));have f:=(h q List.mem_cons_self).2;refine⟨q.den*D,Nat.mul_pos q.den_pos g,?_,fun x d=>?_⟩
  ·have:=Nat.mul_le_mul (show q.den<=2^64 by omega) i;rw[<-Nat.pow_add] at this;rw[List.length_cons,show 64*(a.length+1)=64+64*a.length by omega];exact this
  rcases List.mem_cons.1 d with rfl | d
  ·refine⟨x.num*D,?_⟩;rw[Rat.intCast_mul,<-Hp x,EN];have:((D:Int):Rat)=(D:Rat):=rfl
   grind
  exact j.dvd ⟨q.den,by grind⟩ x d
theorem Xw {q:Rat} {B:Nat} (h:q.num.natAbs<=B): -(B:Rat)<=q/\q<=B:=by
 have g:1<=q.den:=q.den_pos;have i:B*1<=B*q.den:=Nat.mul_le_mul_left B g
 have key:q.num<=(B:Int)*q.den/\ -((B:Int)*q.den)<=q.num:=by
  have:((B*q.den:Nat):Int)=(B:Int)*q.den:=Int.natCast_mul _ _;omega
 have e:=Hp q
 have d:(0:Rat)<q.den:=by
  have:((0:Nat):Rat)<(q.den:Rat):=Rat.natCast_lt_natCast.2 q.den_pos;simpa using this
 have k1:(q.num:Rat)<=(B:Rat)*q.den:=by
  have:=Rat.intCast_le_intCast.2 key.1;rw[Rat.intCast_mul] at this;exact this
 have k2: -((B:Rat)*q.den)<=(q.num:Rat):=by
  have:=Rat.intCast_le_intCast.2 key.2;rw[Rat.intCast_neg,Rat.intCast_mul] at this;exact this
 rw[<-e] at k1 k2
 constructor
 ·apply Classical.byContradiction;intro f;have:=Rat.mul_pos (a:= -(B:Rat)-q) (b:=q.den) (by grind) d
  grind
 apply Classical.byContradiction;intro f;have:=Rat.mul_pos (a:=q-(B:Rat)) (b:=q.den) (by grind) d
 grind
theorem Fe {a:List Rat} (h:∀q∈a,Bq q):Bd (64*a.length) a:=by
 obtain⟨D,f,g,i⟩:=QA h;refine⟨D,f,g,i,fun q d=>?_⟩;have j:1<=a.length:=List.length_pos_of_mem d;exact Xw (Nat.le_trans (Nat.le_of_lt (h q d).1) (show 2^64<=2^(64*a.length) from Bn (by omega)))
structure BG (V:List Re) (n:Nu):Prop where
 red:AQ n.1
 mem:In n.1 n.2
 BA:∀v∈BA n.1,v∈V
 EH:∀s∈n.1,∀q∈s,Bq q
 cos:∀q∈co n.1 n.2,Bq q
theorem BG.mono {V a:List Re} {n:Nu} (h:BG V n) (d:∀v∈V,v∈a):BG a n:=⟨h.red,h.mem,fun v f=>d v (h.BA v f),h.EH,h.cos⟩
theorem BG.len {V:List Re} {n:Nu} (h:BG V n):n.1.length<=V.length:=by rw[<-JB];exact Iq (K8 h.red) h.BA
theorem Iu:∀{u:List (List Rat)} {r:List Rat},AQ u->r∈u->2*r.length<=2^u.length
 | [],_,_,h=>by simp at h
 | s::u,r,h,a=>by
  rw[BI];rcases List.mem_cons.1 a with rfl | a
  ·rw[h.2.1];omega
  have:=Iu h.1 a;omega
theorem JC {u w:List (List Rat)} (h:u<:+w):∀v∈BA u,v∈BA w:=by
 obtain⟨t,rfl⟩:=h
 induction t with
 | nil=>exact fun v a=>a
 | cons r t d=>exact fun v a=>List.mem_cons_of_mem _ (d v a)
def PN (ns:List Nu) (u:List (List Rat)):Prop:=∃n∈ns,u<:+n.1
section
variable {V:List Re} {ns:List Nu}
theorem Rp {k:Nat} (h:k<=3):2^k<=8:=Bn h
theorem PN.EA (g:V.length<=3) (h:∀n∈ns,BG V n):De (PN ns) 256:=by
 refine⟨fun {u} ⟨n,a,f⟩=>Fs f (h n a).red,fun {u} ⟨n,a,f⟩=>fun r i=>?_,fun {r u} ⟨n,a,f⟩=>⟨n,a,(List.suffix_cons r u).trans f⟩⟩;have d:=f.subset i;have j:=Iu (h n a).red d;have m:=Rp (Nat.le_trans (h n a).len g);exact (Fe ((h n a).EH r d)).mono (by omega)
theorem PN.BA (h:∀n∈ns,BG V n) {u:List (List Rat)} (hu:PN ns u):∀v∈BA u,v∈V:=by
 obtain⟨n,a,d⟩:=hu;exact fun v f=>(h n a).BA v (JC d v f)
theorem PN.self {n:Nu} (a:n∈ns):PN ns n.1:=⟨n,a,List.suffix_refl _⟩
end
theorem BG.el {V:List Re} {n:Nu} (h:BG V n) (a:V.length<=3):El n.1 512 n.2:=by
 refine⟨h.mem,(Fe h.cos).mono ?_⟩;have d:=Rp (Nat.le_trans h.len a);rw[CB h.mem];omega
abbrev Rm:Nat:=93478
abbrev Cm:Nat:=53200000
abbrev Sm:Nat:=500000000000
theorem Yv:RR 256 3<=Rm:=by decide +kernel
theorem WL:CC 3 Rm 3 Rm<=Cm:=by decide +kernel
theorem Wq:∀h,h<=3->Fit h Rm (Sm+Cm)
 |0,_|1,_|2,_|3,_=>⟨by decide +kernel,by decide +kernel,by decide +kernel,by decide +kernel⟩
 | _+4,h=>absurd h (by omega)
theorem Wp:∀h,h<=3->C3 h Rm (Sm+Cm)
 |0,_|1,_|2,_|3,_=>⟨by decide +kernel,by decide +kernel,by decide +kernel,by decide +kernel⟩
 | _+4,h=>absurd h (by omega)
theorem Xr:2*(Sm+Cm)+EE 3 Rm<=60000000000000:=by decide +kernel
theorem J3 {P:List (List Rat)->Prop} (I:De P 256) (hm:∀{u},Tf P u->u.length<=3) {S:Nat} (a:Rm<=S) (f:S<=Sm):CH (Tf P) Rm Cm S:=
 {Tf.Jz I hm Yv a WL (fun h d=>(Wq h d).mono (by omega)) (Nat.le_trans (by omega) Xr) with GB:=fun {u} hu=>(Wp _ (hm hu)).mono (by omega)}
open Classical in
noncomputable def Dk (x:Re):Re:=if h:x≠0 then Classical.choose (Re.Ic h) else 0
theorem HW {x:Re} (h:x≠0):x*Dk x=1:=by
 unfold Dk;rw[dif_pos h];exact Classical.choose_spec (Re.Ic h)
theorem KB {u:List (List Rat)} {x:Re} (hu:AQ u) (f:In u x) (a:x≠0):In u (Dk x):=by
 obtain⟨y,g,e⟩:=DE hu f a;have d:=HW a
 rw[show Dk x=y by
  have:Dk x=Dk x*(x*y):=by rw[e];grind
  rw[this];have:Dk x*(x*y)=(x*Dk x)*y:=by grind
  rw[this,d];grind]
 exact g
open Classical in
noncomputable def CX (x:Re):Re:=if x<0 then -x else x
theorem HD (x:Re):0<=CX x:=by unfold CX;split <;> grind
theorem Qg {u:List (List Rat)} {x:Re} (a:In u x):In u (CX x):=by unfold CX;split;exact Em a;exact a
open Classical in
noncomputable def D7 (n:Nu):Nu:=if h:AQ n.1/\In n.1 n.2 then (Classical.choose (Np h.1 h.2 (Nat.le_refl _)),n.2) else n
theorem No {n:Nu} (a:AQ n.1) (d:In n.1 n.2):E1 n.1.length (n.1.reverse,co n.1 n.2)=((D7 n).1.reverse,co (D7 n).1 (D7 n).2)/\FW n.1 n.2 (D7 n).1/\(D7 n).2=n.2:=by
 unfold D7;rw[dif_pos ⟨a,d⟩];have:=Classical.choose_spec (Np a d (Nat.le_refl _));exact⟨this.1,this.2,rfl⟩
def F0 (n:Nu):Prop:=(∃q∈co n.1 n.2,¬Bq q)\/∃s∈n.1,∃q∈s,¬Bq q
noncomputable def Ct (k:Nat) (a b:Nu) (roots:Nat):Nu×Nat:=by
 classical
 exact if k=1 then ((Aj a.1 b.1,a.2+b.2),roots)
 else if k=2 then ((Aj a.1 b.1,a.2-b.2),roots)
 else if k=3 then ((Aj a.1 b.1,a.2*b.2),roots)
 else if k=4 then (if b.2=0 then a else (Aj a.1 b.1,a.2*Dk b.2),roots)
 else if roots<3 then ((Ag a.1 (CX a.2),Re.sqrt (CX a.2)),roots+1) else (a,roots)
def E8:Nu:=([],0)
noncomputable def Bf (l:List Nu) (i:Nat):Nu:=l.getD (i%l.length) E8
def G1 (n:Int):Int:=(n+9223372036854775808)%18446744073709551616-9223372036854775808
theorem Nx (n:Int): -9223372036854775808<=G1 n/\G1 n<9223372036854775808:=by unfold G1;omega
def EV (o:el Bi):Rat:=Rat.divInt (G1 o.2.2.2.1) ((o.2.2.2.2.toNat%8+1:Nat):Int)
noncomputable def CG (st:List Nu×Nat) (o:el Bi):Nu×Nat:=by
 classical
 exact if st.1=[]\/o.1.toNat%6=0 then (([],Re.ofRat (EV o)),st.2) else Ct (o.1.toNat%6) (Bf st.1 o.2.1.toNat) (Bf st.1 o.2.2.1.toNat) st.2
noncomputable def D1 (l:List Nu) (x:Nu):Nu:=by
 classical
 exact if l≠[]/\F0 x then l.getLastD E8 else x
noncomputable def Fy (st:List Nu×Nat) (o:el Bi):List Nu×Nat:=(st.1++[D7 (D1 st.1 (CG st o).1)],(CG st o).2)
noncomputable def runN (xs:List (el Bi)):List Nu×Nat:=xs.foldl Fy ([],0)
theorem SO (xs:List (el Bi)) (o:el Bi):runN (xs++[o])=Fy (runN xs) o:=by rw[runN,List.foldl_append];rfl
def G6 (st:List Nu×Nat):Prop:=st.2<=3/\∃V:List Re,V.length<=st.2/\∀n∈st.1,BG V n
theorem BG.trim {V:List Re} {n:Nu} (h:BG V n):BG V (D7 n):=by
 obtain⟨_,t,e⟩:=No h.red h.mem;refine⟨t.red,by rw[e];exact t.mem,fun v i=>h.BA v (t.BA v i),fun s g q a=>?_,fun q a=>?_⟩
 ·obtain⟨j,f,d⟩:=t.EH s g q a;exact h.EH j f q d
 rw[e] at a;exact h.cos q (t.cos q a)
theorem BG.YF {V:List Re} {n:Nu} (f:AQ n.1) (g:In n.1 n.2) (i:∀v∈Go.Abs.BA n.1,v∈V) (h:¬F0 n):BG V n:=
 ⟨f,g,i,fun s j q d=>Classical.byContradiction fun a=>h (.inr ⟨s,j,q,d,a⟩),fun q d=>Classical.byContradiction fun a=>h (.inl ⟨q,d,a⟩)⟩
theorem ML {l:List Nu} (h:l≠[]) (i:Nat):Bf l i∈l:=by
 have:i%l.length<l.length:=Nat.mod_lt _ (List.length_pos_iff.2 h);unfold Bf;rw[List.getD_eq_getElem?_getD,List.getElem?_eq_getElem this];exact List.getElem_mem this
theorem XY {l:List Nu} (h:l≠[]):l.getLastD E8∈l:=by
 cases l with
 | nil=>exact absurd rfl h
 | cons a l=>rw[List.getLastD_cons];cases l with
  | nil=>exact List.mem_cons_self
  | cons b l=>rw[List.getLastD_eq_getLast?];exact List.mem_cons_of_mem _ (by
   rw[List.getLast?_eq_some_getLast (by simp)];exact List.getLast_mem _)
section
variable {V:List Re} {ns:List Nu}
theorem Gk (a:V.length<=3) (h:∀n∈ns,BG V n) {S:Nat} (d:Rm<=S) (f:S<=Sm):CH (Tf (PN ns)) Rm Cm S:=
 J3 (PN.EA a h) (fun {u} hu=>Nat.le_trans (hu.len (PN.EA a h) (fun g=>PN.BA h g)) a) d f
theorem Di (a:V.length<=3) (h:∀n∈ns,BG V n) {n:Nu} (d:n∈ns):Tf (PN ns) n.1:=Tf.of (PN.EA a h) (PN.self d)
structure H5 (V:List Re) (n:Nu):Prop where
 red:AQ n.1
 mem:In n.1 n.2
 BA:∀v∈BA n.1,v∈V
theorem H5.KY (a:V.length<=3) (h:∀n∈ns,BG V n) {n:Nu} (ht:Tf (PN ns) n.1) (hm:In n.1 n.2):H5 V n:=
 ⟨ht.red (PN.EA a h),hm,ht.BA (PN.EA a h) (fun d=>PN.BA h d)⟩
theorem BG.SD {n:Nu} (h:BG V n):H5 V n:=⟨h.red,h.mem,h.BA⟩
theorem Wm (d:V.length<=3) (h:∀n∈ns,BG V n) {a b:Nu} (f:a∈ns) (hb:b∈ns):Tf (PN ns) (Aj a.1 b.1)/\In (Aj a.1 b.1) a.2/\In (Aj a.1 b.1) b.2:=by
 have G:=(Gk d h (Nat.le_refl Rm) (by decide)).toGam;obtain⟨g,i,j⟩:=G.Aj (Di d h f) (Di d h hb);exact⟨g,i _ (h a f).mem,j _ (h b hb).mem⟩
theorem K7 {u:List (List Rat)} {v:Re} (f:In u v):∀x∈BA (Ag u v),x=v\/x∈BA u:=by
 by_cases d:Sq u v
 ·rw[DA d];exact fun x a=> .inr a
 rw[DK d];intro x a;rcases List.mem_cons.1 a with rfl | a
 ·exact .inl (DC f)
 exact .inr a
theorem Ki {u:List (List Rat)} {v:Re} (h:AQ u) (a:In u v) (f:0<=v):AQ (Ag u v):=by
 by_cases d:v=0
 ·subst d;rw[DA ⟨0,BP u,by grind⟩];exact h
 exact NI h a (by grind)
theorem Iv {st:List Nu×Nat} (h:G6 st) (o:el Bi):(CG st o).2<=3/\∃V,V.length<=(CG st o).2/\(∀n∈st.1,BG V n)/\H5 V (CG st o).1:=by
 obtain⟨g,V,i,d⟩:=h;have f:=Nat.le_trans i g;unfold CG
 split
 ·exact⟨g,V,i,d,trivial,⟨[EV o],rfl,rfl⟩,fun v m=>by simp[Go.Abs.BA] at m⟩
 rename_i A
 have s:st.1≠[]:=fun e=>A (.inl e)
 have r:=ML s o.2.1.toNat;have hb:=ML s o.2.2.1.toNat
 generalize Bf st.1 o.2.1.toNat=a at*
 generalize Bf st.1 o.2.2.1.toNat=b at*
 obtain⟨t,u,w⟩:=Wm f d r hb;have z:=t.red (PN.EA f d);unfold Ct
 split
 ·exact⟨g,V,i,d,.KY f d t (B6 u w)⟩
 split
 ·exact⟨g,V,i,d,.KY f d t (DQ u w)⟩
 split
 ·exact⟨g,V,i,d,.KY f d t (Aa z u w)⟩
 split
 ·refine⟨g,V,i,d,?_⟩
  dsimp only
  split
  ·exact (d a r).SD
  rename_i x
  exact .KY f d t (Aa z u (KB z w x))
 split
 ·rename_i B
  have j:=Qg (d a r).mem;refine⟨by show st.2+1<=3;omega,CX a.2::V,by show _+1<=st.2+1;omega,fun n hm=>(d n hm).mono fun v m=>List.mem_cons_of_mem _ m,Ki (d a r).red j (HD _),Lm j (HD _),fun v m=>?_⟩;rcases K7 j v m with rfl | m
  ·exact List.mem_cons_self
  exact List.mem_cons_of_mem _ ((d a r).BA v m)
 exact⟨g,V,i,d,(d a r).SD⟩
end
theorem ZE {n:Int} {d:Nat} (f:n.natAbs<18446744073709551616) (g:0<d) (a:d<18446744073709551616):Bq (Rat.divInt n d):=by
 have e:(Rat.divInt n d)=mkRat n d:=Rat.divInt_ofNat n d;rw[e]
 constructor
 ·have:=Rat.num_mkRat n d;rw[this]
  split
  ·simp
  refine Nat.lt_of_le_of_lt ?_ f;exact Int.natAbs_ediv_le_natAbs _ _
 have:=Rat.den_mkRat n d;rw[this]
 split
 ·decide
 exact Nat.lt_of_le_of_lt (Nat.div_le_self _ _) a
theorem Md {V:List Re} {l:List Nu} {x:Nu} (g:∀n∈l,BG V n) (a:H5 V x) (f:l=[]->¬F0 x):BG V (D1 l x):=by
 unfold D1
 split
 ·rename_i h;exact g _ (XY h.1)
 rename_i h
 refine .YF a.red a.mem a.BA fun d=>?_
 by_cases he:l=[]
 ·exact f he d
 exact h ⟨he,d⟩
theorem NG (o:el Bi):¬F0 ([],Re.ofRat (EV o)):=by
 have g:Bq (EV o):=ZE (by have:=Nx o.2.2.2.1;omega) (by omega) (by omega);rintro (⟨q,f,d⟩ |⟨s,a,_⟩)
 ·rw[Bv] at f;rw[List.mem_singleton.1 f] at d;exact d g
 simp at a
theorem Zq {st:List Nu×Nat} (h:G6 st) (o:el Bi):G6 (Fy st o):=by
 obtain⟨f,V,g,d,i⟩:=Iv h o;refine⟨f,V,g,fun n a=>?_⟩;rcases List.mem_append.1 a with a | a
 ·exact d n a
 rw[List.mem_singleton.1 a];refine (Md d i fun he=>?_).trim;have:(CG st o).1=([],Re.ofRat (EV o)):=by unfold CG;rw[if_pos (.inl he)]
 rw[this];exact NG o
theorem SX:∀{xs:List (el Bi)} {st:List Nu×Nat},G6 st->G6 (xs.foldl Fy st)
 | [],_,h=>h
 | o::xs,_,h=>SX (xs:=xs) (Zq h o)
theorem NR (xs:List (el Bi)):G6 (runN xs):=SX ⟨by decide,[],by simp,by simp⟩
end Go.Abs
namespace Go.Abs
def qn (k:Nat):Re:=Re.ofRat ((k:Nat):Rat)
noncomputable def Gv (k:Nat):Nu:=(Ag [] (qn k),Re.sqrt (qn k))
noncomputable def MW (k:Nat):Nu:=([],qn k)
theorem R5:AQ []:=trivial
theorem ET (k:Nat) (u:List (List Rat)):In u (qn k):=En _ u
theorem Ev (k:Nat):0<=qn k:=by
 have:Re.ofRat 0<=Re.ofRat ((k:Nat):Rat):=Re.M1.2 Rat.natCast_nonneg;exact this
theorem Gx {k:Nat} (h:k<18446744073709551616):Bq ((k:Nat):Rat):=by
 refine⟨?_,?_⟩
 ·rw[show ((k:Nat):Rat).num=(k:Int) from rfl,Int.natAbs_natCast];exact h
 rw[show ((k:Nat):Rat).den=1 from rfl];decide
theorem ZF {n:Int} (h:n.natAbs<18446744073709551616):Bq ((n:Int):Rat):=⟨h,by rw[show ((n:Int):Rat).den=1 from rfl];decide⟩
theorem ar {k:Nat} (h:k<18446744073709551616):BG [] (MW k):=
 ⟨trivial,ET k [],fun v f=>by simp[MW,BA] at f,fun s d=>by simp[MW] at d,fun q a=>by
  have a:q∈co [] (qn k):=a;rw[qn,Bv] at a;rw[List.mem_singleton.1 a];exact Gx h⟩
theorem FP {k:Nat} (h:k<18446744073709551616):BG [qn k] (Gv k):=by
 have j:=Ev k;refine⟨Ki R5 (ET k []) j,Lm (ET k []) j,fun v n=>?_,fun s g q d=>?_,fun q d=>?_⟩
 ·rcases K7 (ET k []) v n with rfl | n
  ·exact List.mem_singleton.2 rfl
  simp[BA] at n
 ·have g:s∈Ag [] (qn k):=g
  by_cases a:Sq [] (qn k)
  ·rw[DA a] at g;simp at g
  rw[DK a] at g;rw[List.mem_singleton.1 g,qn,Bv] at d;rw[List.mem_singleton.1 d];exact Gx h
 have d:q∈co (Ag [] (qn k)) (Re.sqrt (qn k)):=d
 by_cases a:Sq [] (qn k)
 ·rw[DA a] at d;obtain⟨r,o⟩:=Bj.1 ((I8 j).1 a);rw[o,Bv] at d;rw[List.mem_singleton.1 d]
  have f:r*r=((k:Int):Rat):=by
   have:=Re.C1 j;rw[o,<-Re.ofRat_mul] at this;exact Re.GM.1 this
  obtain⟨m,hm⟩:=MY f;rw[hm];refine ZF ?_;rw[hm,<-Rat.intCast_mul] at f;have w:m*m=(k:Int):=Rat.intCast_inj.1 f
  have x:m.natAbs*m.natAbs=k:=by
   have:=congrArg Int.natAbs w;rwa [Int.natAbs_mul,Int.natAbs_natCast] at this
  have z:m.natAbs<=m.natAbs*m.natAbs:=by
   rcases Nat.eq_zero_or_pos m.natAbs with e | e
   ·omega
   exact Nat.le_mul_of_pos_left _ e
  omega
 have i:=R4 R5 (ET k []) (by
  have:qn k≠0:=fun e=>a ⟨0,BP [],by rw[e];grind⟩
  grind) a
 rw[DK a,<-Hr (ET k [])] at d;rw[CO i (BP []) (MU []) (show rt [] (co [] (qn k))=0+1*rt [] (co [] (qn k)) by grind)] at d;have t:co [] (0:Re)=[0]:=Bv 0;have u:co [] (1:Re)=[1]:=Bv 1;rw[t,u] at d;rcases List.mem_cons.1 d with rfl | d
 ·exact Gx (k:=0) (by decide)
 rw[List.mem_singleton.1 d];exact Gx (k:=1) (by decide)
theorem aw (u:List (List Rat)):Aj [] u=u:=by
 show Bw (Bw [] []) u=u
 rw[join_self];unfold Bw
 split
 ·rename_i h;exact (List.suffix_nil.1 h).symm
 rw[if_pos (List.nil_suffix)]
theorem ax (u:List (List Rat)):Aj u u=u:=by
 show Bw (Bw [] u) u=u
 have:Bw [] u=u:=by
  unfold Bw
  split
  ·rename_i h;exact (List.suffix_nil.1 h).symm
  rw[if_pos (List.nil_suffix)]
 rw[this,join_self]
theorem XS (u:List (List Rat)):Bw [] u=u:=by
 unfold Bw
 split
 ·rename_i h;exact (List.suffix_nil.1 h).symm
 rw[if_pos (List.nil_suffix)]
theorem XQ (u v:List (List Rat)):Aj u v=Bw u v:=by
 show Bw (Bw [] u) v=_
 rw[XS]
theorem YD {k m:Nat} (d:m*m<k) (f:k<(m+1)*(m+1)):¬Sq [] (qn k):=by
 rw[qn,Nf]
 rintro⟨r,_,a⟩
 have a:r*r=((k:Int):Rat):=a;obtain⟨n,i⟩:=MY a;rw[i,<-Rat.intCast_mul] at a;have g:n*n=(k:Int):=Rat.intCast_inj.1 a
 have h:n.natAbs*n.natAbs=k:=by
  have:=congrArg Int.natAbs g;rwa [Int.natAbs_mul,Int.natAbs_natCast] at this
 rw[<-h] at d f;have j:=Nat.mul_self_lt_mul_self_iff.1 d;have o:=Nat.mul_self_lt_mul_self_iff.1 f;omega
theorem Yw {a b:Re} (d:0<=a) (hb:0<=b):Re.sqrt a*Re.sqrt b=Re.sqrt (a*b):=by
 have g:=Re.C1 d;have h:=Re.C1 hb;have f:=Re.C1 (Re.Im d hb);refine Re.Fx (Re.Im (Re.D6 a) (Re.D6 b)) (Re.D6 _) ?_;rw[f];grind
theorem Rv (a b:Nat):qn (a*b)=qn a*qn b:=by
 rw[qn,EN,Re.ofRat_mul];rfl
theorem Ye (a b:Nat):qn (a+b)=qn a+qn b:=by
 rw[qn,Rat.natCast_add,Re.ofRat_add];rfl
theorem C1 (k:Nat):Re.sqrt (qn (k*k))=qn k:=by
 refine Re.Fx (Re.D6 _) (Ev k) ?_;rw[Re.C1 (Ev _),Rv]
theorem TC (a b:Nat):Re.sqrt (qn (a*b))=Re.sqrt (qn a)*Re.sqrt (qn b):=by
 rw[Yw (Ev a) (Ev b),Rv]
noncomputable def DW:Re:=qn 5+qn 2*Re.sqrt (qn 6)
theorem u6:Ag [] (qn 6)=[[6]]:=by
 rw[DK (YD (k:=6) (m:=2) (by decide) (by decide)),qn,Bv];rfl
theorem NH:AQ [[6]]:=by rw[<-u6];exact (FP (k:=6) (by decide)).red
theorem SM:rt [] [6]=Re.sqrt (qn 6):=by
 have:=Hr (u:=[]) (v:=qn 6) (ET 6 []);rw[qn,Bv] at this;exact this
theorem MT:In [[6]] DW:=Bt.2 ⟨qn 5,qn 2,ET 5 [],ET 2 [],by rw[SM];rfl⟩
theorem Pr:co [[6]] DW=[5,2]:=by
 rw[CO NH (ET 5 []) (ET 2 []) (show DW=qn 5+qn 2*rt [] [6] by rw[SM];rfl),qn,qn,Bv,Bv];rfl
theorem QP:0<=DW:=by
 have a:=Ev 5;have d:=Re.Im (Ev 2) (Re.D6 (qn 6));unfold DW;grind
theorem Q8:BG [qn 6] ([[6]],DW):=by
 have d:=FP (k:=6) (by decide);refine⟨NH,MT,?_,?_,fun q a=>?_⟩
 ·have:=d.BA;rw[Gv,u6] at this;exact this
 ·have:=d.EH;rw[Gv,u6] at this;exact this
 have a:q∈co [[6]] DW:=a;rw[Pr] at a;rcases List.mem_cons.1 a with rfl | a
 ·exact Gx (k:=5) (by decide)
 rw[List.mem_singleton.1 a];exact Gx (k:=2) (by decide)
theorem X2:Re.sqrt DW=Re.sqrt (qn 2)+Re.sqrt (qn 3):=by
 have f:=Re.C1 (Ev 2);have g:=Re.C1 (Ev 3);have h:=Re.D6 (qn 2);have i:=Re.D6 (qn 3);refine Re.Fx (Re.D6 _) (by grind) ?_;rw[Re.C1 QP,DW,show (6:Nat)=2*3 from rfl,TC 2 3];have d:qn 5=qn 2+qn 3:=Ye 2 3;have a:qn 2=2:=rfl
 grind
def PA (u:List (List Rat)):Prop:=u<:+Ag [[6]] DW\/u<:+Ag [] (qn 2)\/u<:+Ag [] (qn 3)
theorem PA.EA:De PA 256:=by
 have m:=Ki NH MT QP;have f:=(FP (k:=2) (by decide)).red;have g:=(FP (k:=3) (by decide)).red
 have t2:TB 256 (Ag [] (qn 2)):=by
  intro r a;refine (Fe ((FP (k:=2) (by decide)).EH r a)).mono ?_;have:=Iu f a;have h:=(FP (k:=2) (by decide)).len;have:2^(Gv 2).1.length<=2^1:=Bn h;have:(2:Nat)^1=2:=rfl;have e:(Gv 2).1=Ag [] (qn 2):=rfl;rw[e] at*;omega
 have t3:TB 256 (Ag [] (qn 3)):=by
  intro r a;refine (Fe ((FP (k:=3) (by decide)).EH r a)).mono ?_;have:=Iu g a;have h:=(FP (k:=3) (by decide)).len;have:2^(Gv 3).1.length<=2^1:=Bn h;have:(2:Nat)^1=2:=rfl;have e:(Gv 3).1=Ag [] (qn 3):=rfl;rw[e] at*;omega
 have i:∀q∈([6]:List Rat),Bq q:=fun q j=>by rw[List.mem_singleton.1 j];exact Gx (k:=6) (by decide)
 have t1:TB 256 (Ag [[6]] DW):=by
  by_cases d:Sq [[6]] DW
  ·rw[DA d];intro r a;rw[List.mem_singleton.1 a];exact (Fe i).mono (by decide)
  rw[DK d];intro r a;rcases List.mem_cons.1 a with rfl | a
  ·exact (Fe Q8.cos).mono (by show 64*(co [[6]] DW).length<=256;rw[Pr];decide)
  rw[List.mem_singleton.1 a];exact (Fe i).mono (by decide)
 refine⟨fun {u} h=>?_,fun {u} h=>?_,fun {r u} h=>?_⟩
 ·rcases h with h | h | h
  ·exact Fs h m
  ·exact Fs h f
  exact Fs h g
 ·rcases h with h | h | h
  ·exact fun r a=>t1 r (h.subset a)
  ·exact fun r a=>t2 r (h.subset a)
  exact fun r a=>t3 r (h.subset a)
 rcases h with h | h | h
 ·exact .inl ((List.suffix_cons r u).trans h)
 ·exact .inr (.inl ((List.suffix_cons r u).trans h))
 exact .inr (.inr ((List.suffix_cons r u).trans h))
theorem PA.BA {u:List (List Rat)} (h:PA u):∀v∈BA u,v∈[DW,qn 6,qn 2,qn 3]:=by
 intro v a;rcases h with h | h | h
 ·rcases K7 MT v (JC h v a) with rfl | a
  ·simp
  have:=Q8.BA v a;rw[List.mem_singleton.1 this];simp
 ·have:=(FP (k:=2) (by decide)).BA v (JC h v a);rw[List.mem_singleton.1 this];simp
 have:=(FP (k:=3) (by decide)).BA v (JC h v a);rw[List.mem_singleton.1 this];simp
theorem Qh {u:List (List Rat)} {x y:Re} {k:Nat} (h:AQ u) (d:k≠0) (f:In u x) (e:x=qn k*y):In u y:=by
 obtain⟨i,a,g⟩:=DE h (ET k u) (fun e=>d (by
  have:Re.ofRat ((k:Nat):Rat)=Re.ofRat ((0:Nat):Rat):=e;exact Rat.natCast_inj.1 (Re.GM.1 this)))
 have:y=x*i:=by grind
 rw[this];exact Aa h f a
theorem Nj {u:List (List Rat)} (h:AQ u) (a:In u (Re.sqrt (qn 2))\/In u (Re.sqrt (qn 3))/\In u (Re.sqrt (qn 6))) (b:In u (Re.sqrt (qn 3))\/In u (Re.sqrt (qn 2))/\In u (Re.sqrt (qn 6))):
  In u (Re.sqrt (qn 2))/\In u (Re.sqrt (qn 3))/\In u (Re.sqrt (qn 6))/\In u (Re.sqrt DW):=by
 have g:=Re.C1 (Ev 2);have i:=Re.C1 (Ev 3);have d:Re.sqrt (qn 6)=Re.sqrt (qn 2)*Re.sqrt (qn 3):=TC 2 3;have k2:In u (Re.sqrt (qn 2)):=a.elim id fun⟨x,y⟩=>Qh h (k:=3) (by decide) (Aa h x y) (by rw[d];grind)
 have f:In u (Re.sqrt (qn 3)):=b.elim id fun⟨x,y⟩=>Qh h (k:=2) (by decide) (Aa h x y) (by rw[d];grind)
 exact⟨k2,f,by rw[d];exact Aa h k2 f,by rw[X2];exact B6 k2 f⟩
theorem X4 {α:Type} {l m:List α} (h:l.Nodup) (g:∀x∈l,x∈m) (hm:m.length<=l.length):∀x∈m,x∈l:=by
 intro x j;apply Classical.byContradiction;intro i;obtain⟨a,b,rfl⟩:=List.append_of_mem j
 have:=Iq (l:=l) (m:=a++b) h (fun y f=>by
  rcases List.mem_append.1 (g y f) with d | d
  ·exact List.mem_append_left _ d
  rcases List.mem_cons.1 d with rfl | d
  ·exact absurd f i
  exact List.mem_append_right _ d)
 rw[List.length_append,List.length_cons] at hm;rw[List.length_append] at this;omega
theorem PA.len {u:List (List Rat)} (h:Tf PA u):u.length<=3:=by
 have d:=h.red PA.EA;have j:=h.BA PA.EA (fun h=>PA.BA h);have i:=K8 d;have A:=Iq i j;rw[JB] at A;apply Classical.byContradiction;intro n;have f:=X4 i j (by rw[JB];show 4<=u.length;omega)
 match u,d,j,f,n with
 | [],_,_,_,n=>simp at n
 | r::u,d,j,f,n=>
  have o:¬In u (Re.sqrt (AI u r)):=fun B=>d.2.2.2 ⟨_,B,Re.C1 (by have:=d.2.2.1;grind)⟩
  have key:∀v∈[DW,qn 6,qn 2,qn 3],v≠AI u r->In u (Re.sqrt v):=fun v x w=>by
   rcases List.mem_cons.1 (f v x) with e | e
   ·exact absurd e w
   exact Nv e
  have z:=j (AI u r) List.mem_cons_self;have ne:∀{a b:Nat},a≠b->qn a≠qn b:=fun {a b} s e=>s (Rat.natCast_inj.1 (Re.GM.1 e))
  by_cases g:AI u r=qn 2
  ·have a:=key (qn 3) (by simp) (by rw[g];exact ne (by decide));have b:=key (qn 6) (by simp) (by rw[g];exact ne (by decide));exact o (by rw[g];exact (Nj d.1 (.inr ⟨a,b⟩) (.inl a)).1)
  have k2:=key (qn 2) (by simp) (Ne.symm g)
  by_cases m:AI u r=qn 3
  ·have b:=key (qn 6) (by simp) (by rw[m];exact ne (by decide));exact o (by rw[m];exact (Nj d.1 (.inl k2) (.inr ⟨k2,b⟩)).2.1)
  have C:=key (qn 3) (by simp) (Ne.symm m);have t:=Nj d.1 (.inl k2) (.inl C);simp only[List.mem_cons,List.not_mem_nil,or_false] at z;rcases z with e | e | e | e
  ·exact o (by rw[e];exact t.2.2.2)
  ·exact o (by rw[e];exact t.2.2.1)
  ·exact g e
  exact m e
theorem PA.Jz {S:Nat} (a:Rm<=S) (d:S<=Sm):CH (Tf PA) Rm Cm S:=J3 PA.EA (fun h=>PA.len h) a d
end Go.Abs
namespace Go.Abs
section
variable {P:List (List Rat)->Prop} {R0:Nat}
theorem Xj {α:Type} {Q:α->Prop} {f:α->Nat} {m:Nat} (hm:∀a,Q a->f a<=m) {a:α} (j:Q a):∃b,Q b/\∀c,Q c->f c<=f b:=by
 induction h:m-f a using Nat.strongRecOn generalizing a with
 | _ n o=>
  by_cases g:∀c,Q c->f c<=f a
  ·exact⟨a,j,g⟩
  obtain⟨c,i⟩:=Classical.not_forall.1 g;obtain⟨d,r⟩:=Classical.not_imp.1 i;have:=hm c d;exact o (m-f c) (by omega) d rfl
theorem Tf.top (I:De P R0) {m:Nat} (hm:∀{u},Tf P u->u.length<=m):∃w,Tf P w/\∀{u},Tf P u->Aq u w:=by
 obtain⟨w,hw,v⟩:=Xj (Q:=Tf P) (f:=List.length) (fun u h=>hm h) Tf.nil;have j:=hw.red I
 have key:∀{u},P u->Aq u w:=by
  intro u
  induction u with
  | nil=>exact fun _=>Jr w
  | cons r u i=>
   intro a;have d:=i (I.sub a);have s:=I.red a;refine IX j d ?_
   have g:Sq w (AI u r):=by
    apply Classical.byContradiction;intro t;have:=v _ (Tf.Ag hw a d);rw[DK t,List.length_cons] at this;omega
   exact (I8 (by have:=s.2.2.1;grind)).1 g
 refine⟨w,hw,fun {u} h=>?_⟩
 induction h with
 | nil=>exact Jr w
 | @Ag u n o ht a d i=>
  by_cases g:Sq u (AI o n)
  ·rw[DA g];exact i
  rw[DK g];refine IX j i ?_;rw[Hr (d _ (Bh (I.red a)))];exact key a _ (FI o n)
end
theorem El.down {u:List (List Rat)} {s:Nat} {x:Re} (f:In u x):∀{v:List (List Rat)},AQ (v++u)->El (v++u) s x->El u s x
 | [],_,h=>h
 | r::v,d,h=>by
  have a:In (v++u) x:=IW v x f;refine El.down f (v:=v) d.1 ⟨a,?_⟩;obtain⟨D,d0,d1,d2,d3⟩:=h.bd;have e:co (r::(v++u)) x=co (v++u) x++co (v++u) 0:=CO d a (BP _) (by grind);rw[List.cons_append,e] at d2 d3;exact⟨D,d0,d1,(DN.app.1 d2).1,(MX.app.1 d3).1⟩
structure Fm (TT:List (List Rat)->Prop) (w:List (List Rat)) (R b c M q p:Nat):Prop where
 Jz:∀{S},R<=S->S<=M*b->CH TT R (c*b) S
 top:TT w
 all:∀{u},TT u->Aq u w
 hR:R<=b
 hb:64<=b
 ee:EE w.length R<=b
 ii:∀{u} t,TT u->II u.length R t<=q*t+p*b
 hM:q*(M*b)+p*b<=60000000000000
def Nm (TT:List (List Rat)->Prop) (w:List (List Rat)) (b k:Nat) (T:List (List (el AA))) (A:List (el AA)) (x:Re):Prop:=∃u,TT u/\T=tw u/\A=em u x/\In u x/\El w (k*b) x
section
variable {TT:List (List Rat)->Prop} {w:List (List Rat)} {R b c M q p k l:Nat} {T T1 T2:List (List (el AA))} {A A1 A2:List (el AA)} {x y:Re}
theorem Fm.g (F:Fm TT w R b c M q p) (h:k<=M) (a:1<=k):CH TT R (c*b) (k*b):=F.Jz (Nat.le_trans F.hR (Nat.le_trans (by omega) (Nat.mul_le_mul_right b a))) (Nat.mul_le_mul_right b h)
theorem Fm.own (F:Fm TT w R b c M q p) (hM:1<=M) (h:Nm TT w b k T A x):∃u,TT u/\T=tw u/\A=em u x/\In u x/\El w (k*b) x/\El u ((k+c)*b) x:=by
 obtain⟨u,hu,r,o,j,he⟩:=h;refine⟨u,hu,r,o,j,he,?_⟩;have G:=(F.g hM (Nat.le_refl 1)).toGam;obtain⟨f,s,n⟩:=G.Aj hu F.top;have a:=G.BF F.top f n he;rw[<-Nat.add_mul] at a;rw[XQ] at f a;have d:=(G.AL f).red;unfold Bw at a d
 split at a
 ·exact a
 rename_i m
 rw[if_neg m] at d
 split at a
 ·rename_i i
  obtain⟨v,rfl⟩:=i;exact El.down j (G.AL F.top).red a
 rename_i i
 rw[if_neg i] at d;obtain⟨v,e⟩:=MJ u w;rw[<-e] at a d;exact El.down j d a
theorem Nm.mono (h:Nm TT w b k T A x) (j:k<=l):Nm TT w b l T A x:=by
 obtain⟨u,a,d,f,g,i⟩:=h;exact⟨u,a,d,f,g,i.mono (Nat.mul_le_mul_right b j)⟩
theorem Nm.cast (h:Nm TT w b k T A x) (e:x=y):Nm TT w b k T A y:=e ▸ h
theorem Fm.two (F:Fm TT w R b c M q p) (B:Nm TT w b k T1 A1 x) (hb:Nm TT w b l T2 A2 y) (C:k+c+1<=M) (D:l+c+1<=M):∃u v j,j<=M/\(j=k+c+1\/j=l+c+1)/\TT u/\TT v/\T1=tw u/\T2=tw v/\A1=em u x/\A2=em v y/\In u x/\In v y/\El w (k*b) x/\El w (l*b) y/\El u (j*b) x/\El v (j*b) y/\CH TT R (c*b) (j*b)/\TT (Aj u v)/\Aq u (Aj u v)/\Aq v (Aj u v):=by
 obtain⟨u,hu,f,a,H,n,m⟩:=F.own (by omega) B;obtain⟨v,t,i,d,I,r,o⟩:=F.own (by omega) hb
 have key:∀j,j<=M->(j=k+c+1\/j=l+c+1)->k+c+1<=j->l+c+1<=j->∃u v j,j<=M/\(j=k+c+1\/j=l+c+1)/\TT u/\TT v/\T1=tw u/\T2=tw v/\A1=em u x/\A2=em v y/\In u x/\In v y/\El w (k*b) x/\El w (l*b) y/\El u (j*b) x/\El v (j*b) y/\CH TT R (c*b) (j*b)/\TT (Aj u v)/\Aq u (Aj u v)/\Aq v (Aj u v):=by
  intro j s A J K;have G:=F.g s (by omega);obtain⟨g1,g2,z⟩:=G.toGam.Aj hu t;exact⟨u,v,j,s,A,hu,t,f,i,a,d,H,I,n,r,m.mono (Nat.mul_le_mul_right b (by omega)),o.mono (Nat.mul_le_mul_right b (by omega)),G,g1,g2,z⟩
 by_cases h:k<=l
 ·exact key (l+c+1) D (.inr rfl) (by omega) (Nat.le_refl _)
 exact key (k+c+1) C (.inl rfl) (Nat.le_refl _) (by omega)
end
end Go.Abs
