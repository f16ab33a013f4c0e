/- Part 41 of a proof. Conditions: each theorem's own. -/
import Derived.Test.YtjpiilcgomggaaaGreatPk37
import Derived.Test.YtjpiilcgomggaaaGreatPk39
set_option linter.all false
set_option maxHeartbeats 8000000
open Go.Proofs
namespace Go.Abs
abbrev Nu:=List (List Rat)×Re
def Bf (q:Rat):Prop:=q.num.natAbs<18446744073709551616/\q.den<18446744073709551616
theorem P1:∀{a:List Rat},(∀q∈a,Bf q)->∃D:Nat,0<D/\D<=2^(64*a.length)/\DN D a
 | [],_=>⟨1,by decide,by simp,fun q b=>by simp at b⟩
 | q::a,h=>by
  obtain⟨D,c,d,f⟩:=P1 (a:=a) (fun x hx=>h x (List.mem_cons_of_mem _ hx));have b:=(h q List.mem_cons_self).2;refine⟨q.den*D,Nat.mul_pos q.den_pos c,?_,fun x hx=>?_⟩
  ·have:=Nat.mul_le_mul (show q.den<=2^64 by omega) d;rw[<-Nat.pow_add] at this;rw[List.length_cons,show 64*(a.length+1)=64+64*a.length by omega];exact this
  rcases List.mem_cons.1 hx with rfl | hx
  ·refine⟨x.num*D,?_⟩;rw[Rat.intCast_mul,<-Ho x,EL];have:((D:Int):Rat)=(D:Rat):=rfl
   grind
  exact f.dvd ⟨q.den,by grind⟩ x hx
theorem Xt {q:Rat} {B:Nat} (h:q.num.natAbs<=B): -(B:Rat)<=q/\q<=B:=by
 have f:1<=q.den:=q.den_pos;have g:B*1<=B*q.den:=Nat.mul_le_mul_left B f
 have key:q.num<=(B:Int)*q.den/\ -((B:Int)*q.den)<=q.num:=by
  have:((B*q.den:Nat):Int)=(B:Int)*q.den:=Int.natCast_mul _ _;omega
 have e:=Ho q
 have c:(0:Rat)<q.den:=by
  have:((0:Nat):Rat)<(q.den:Rat):=Rat.natCast_lt_natCast.2 q.den_pos;simpa using this
 have k1:(q.num:Rat)<=(B:Rat)*q.den:=by
  have:=Rat.intCast_le_intCast.2 key.1;rw[Rat.intCast_mul] at this;exact this
 have k2: -((B:Rat)*q.den)<=(q.num:Rat):=by
  have:=Rat.intCast_le_intCast.2 key.2;rw[Rat.intCast_neg,Rat.intCast_mul] at this;exact this
 rw[<-e] at k1 k2
 constructor
 ·apply Classical.byContradiction;intro d;have:=Rat.mul_pos (a:= -(B:Rat)-q) (b:=q.den) (by grind) c
  grind
 apply Classical.byContradiction;intro d;have:=Rat.mul_pos (a:=q-(B:Rat)) (b:=q.den) (by grind) c
 grind
theorem Ee {a:List Rat} (h:∀q∈a,Bf q):Bd (64*a.length) a:=by
 obtain⟨D,c,d,f⟩:=P1 h;refine⟨D,c,d,f,fun q b=>?_⟩;have g:1<=a.length:=List.length_pos_of_mem b;exact Xt (Nat.le_trans (Nat.le_of_lt (h q b).1) (show 2^64<=2^(64*a.length) from Bh (by omega)))
structure BI (V:List Re) (n:Nu):Prop where
 red:AQ n.1
 mem:In n.1 n.2
 A3:∀v∈A3 n.1,v∈V
 EU:∀s∈n.1,∀q∈s,Bf q
 cos:∀q∈co n.1 n.2,Bf q
theorem BI.mono {V a:List Re} {n:Nu} (h:BI V n) (b:∀v∈V,v∈a):BI a n:=⟨h.red,h.mem,fun v c=>b v (h.A3 v c),h.EU,h.cos⟩
theorem BI.len {V:List Re} {n:Nu} (h:BI V n):n.1.length<=V.length:=by rw[<-JA];exact Im (LB h.red) h.A3
theorem Is:∀{u:List (List Rat)} {r:List Rat},AQ u->r∈u->2*r.length<=2^u.length
 | [],_,_,h=>by simp at h
 | s::u,r,h,a=>by
  rw[BE];rcases List.mem_cons.1 a with rfl | a
  ·rw[h.2.1];omega
  have:=Is h.1 a;omega
theorem JB {u w:List (List Rat)} (h:u<:+w):∀v∈A3 u,v∈A3 w:=by
 obtain⟨t,rfl⟩:=h
 induction t with
 | nil=>exact fun v a=>a
 | cons r t b=>exact fun v a=>List.mem_cons_of_mem _ (b v a)
def PN (ns:List Nu) (u:List (List Rat)):Prop:=∃n∈ns,u<:+n.1
section
variable {V:List Re} {ns:List Nu}
theorem Ro {k:Nat} (h:k<=3):2^k<=8:=Bh h
theorem PN.Dg (d:V.length<=3) (h:∀n∈ns,BI V n):D3 (PN ns) 256:=by
 refine⟨fun {u} ⟨n,a,c⟩=>Fj c (h n a).red,fun {u} ⟨n,a,c⟩=>fun r f=>?_,fun {r u} ⟨n,a,c⟩=>⟨n,a,(List.suffix_cons r u).trans c⟩⟩;have b:=c.subset f;have g:=Is (h n a).red b;have i:=Ro (Nat.le_trans (h n a).len d);exact (Ee ((h n a).EU r b)).mono (by omega)
theorem PN.A3 (h:∀n∈ns,BI V n) {u:List (List Rat)} (hu:PN ns u):∀v∈A3 u,v∈V:=by
 obtain⟨n,a,b⟩:=hu;exact fun v c=>(h n a).A3 v (JB b v c)
theorem PN.self {n:Nu} (a:n∈ns):PN ns n.1:=⟨n,a,List.suffix_refl _⟩
end
theorem BI.el {V:List Re} {n:Nu} (h:BI V n) (a:V.length<=3):El n.1 512 n.2:=by
 refine⟨h.mem,(Ee h.cos).mono ?_⟩;have b:=Ro (Nat.le_trans h.len a);rw[B6 h.mem];omega
abbrev Rm:Nat:=802678
abbrev Cm:Nat:=455119021
abbrev Sm:Nat:=137438953472
theorem Yo:RR 256 3<=Rm:=by decide +kernel
theorem WB:CC 3 Rm 3 Rm<=Cm:=by decide +kernel
theorem Wp:∀h,h<=3->Fit h Rm (Sm+Cm)
 |0,_|1,_|2,_|3,_=>⟨by decide +kernel,by decide +kernel,by decide +kernel,by decide +kernel⟩
 | _+4,h=>absurd h (by omega)
theorem Wn:∀h,h<=3->Cu h Rm (Sm+Cm)
 |0,_|1,_|2,_|3,_=>⟨by decide +kernel,by decide +kernel,by decide +kernel,by decide +kernel⟩
 | _+4,h=>absurd h (by omega)
theorem Xo:2*(Sm+Cm)+EE 3 Rm<=60000000000000:=by decide +kernel
theorem MI {P:List (List Rat)->Prop} (I:D3 P 256) (hm:∀{u},Tf P u->u.length<=3) {S:Nat} (a:Rm<=S) (c:S<=Sm):CP (Tf P) Rm Cm S:=
 {Tf.J5 I hm Yo a WB (fun h b=>(Wp h b).mono (by omega)) (Nat.le_trans (by omega) Xo) with F8:=fun {u} hu=>(Wn _ (hm hu)).mono (by omega)}
open Classical in
noncomputable def D7 (x:Re):Re:=if h:x≠0 then Classical.choose (Re.Ia h) else 0
theorem IZ {x:Re} (h:x≠0):x*D7 x=1:=by
 unfold D7;rw[dif_pos h];exact Classical.choose_spec (Re.Ia h)
theorem KD {u:List (List Rat)} {x:Re} (hu:AQ u) (hx:In u x) (a:x≠0):In u (D7 x):=by
 obtain⟨y,c,e⟩:=DR hu hx a;have b:=IZ a
 rw[show D7 x=y by
  have:D7 x=D7 x*(x*y):=by rw[e];grind
  rw[this];have:D7 x*(x*y)=(x*D7 x)*y:=by grind
  rw[this,b];grind]
 exact c
open Classical in
noncomputable def CR (x:Re):Re:=if x<0 then -x else x
theorem HB (x:Re):0<=CR x:=by unfold CR;split <;> grind
theorem Qc {u:List (List Rat)} {x:Re} (hx:In u x):In u (CR x):=by unfold CR;split;exact FD hx;exact hx
open Classical in
noncomputable def DX (n:Nu):Nu:=if h:AQ n.1/\In n.1 n.2 then (Classical.choose (Nj h.1 h.2 (Nat.le_refl _)),n.2) else n
theorem K7 {n:Nu} (a:AQ n.1) (b:In n.1 n.2):Ex n.1.length (n.1.reverse,co n.1 n.2)=((DX n).1.reverse,co (DX n).1 (DX n).2)/\FP n.1 n.2 (DX n).1/\(DX n).2=n.2:=by
 unfold DX;rw[dif_pos ⟨a,b⟩];have:=Classical.choose_spec (Nj a b (Nat.le_refl _));exact⟨this.1,this.2,rfl⟩
def Fv (n:Nu):Prop:=(∃q∈co n.1 n.2,¬Bf q)\/∃s∈n.1,∃q∈s,¬Bf q
noncomputable def Cq (k:Nat) (a b:Nu) (roots:Nat):Nu×Nat:=by
 classical
 exact if k=1 then ((Al a.1 b.1,a.2+b.2),roots)
 else if k=2 then ((Al a.1 b.1,a.2-b.2),roots)
 else if k=3 then ((Al a.1 b.1,a.2*b.2),roots)
 else if k=4 then (if b.2=0 then a else (Al a.1 b.1,a.2*D7 b.2),roots)
 else if roots<3 then ((Aa a.1 (CR a.2),Re.sqrt (CR a.2)),roots+1) else (a,roots)
def Gz:Nu:=([],0)
noncomputable def Du (l:List Nu) (i:Nat):Nu:=l.getD (i%l.length) Gz
def Gx (n:Int):Int:=(n+9223372036854775808)%18446744073709551616-9223372036854775808
theorem Np (n:Int): -9223372036854775808<=Gx n/\Gx n<9223372036854775808:=by unfold Gx;omega
def EV (o:el Bl):Rat:=Rat.divInt (Gx o.2.2.2.1) ((o.2.2.2.2.toNat%8+1:Nat):Int)
noncomputable def CA (st:List Nu×Nat) (o:el Bl):Nu×Nat:=by
 classical
 exact if st.1=[]\/o.1.toNat%6=0 then (([],Re.ofRat (EV o)),st.2) else Cq (o.1.toNat%6) (Du st.1 o.2.1.toNat) (Du st.1 o.2.2.1.toNat) st.2
noncomputable def Dx (l:List Nu) (x:Nu):Nu:=by
 classical
 exact if l≠[]/\Fv x then l.getLastD Gz else x
noncomputable def Fs (st:List Nu×Nat) (o:el Bl):List Nu×Nat:=(st.1++[DX (Dx st.1 (CA st o).1)],(CA st o).2)
noncomputable def runN (xs:List (el Bl)):List Nu×Nat:=xs.foldl Fs ([],0)
theorem SI (xs:List (el Bl)) (o:el Bl):runN (xs++[o])=Fs (runN xs) o:=by rw[runN,List.foldl_append];rfl
def G3 (st:List Nu×Nat):Prop:=st.2<=3/\∃V:List Re,V.length<=st.2/\∀n∈st.1,BI V n
theorem BI.trim {V:List Re} {n:Nu} (h:BI V n):BI V (DX n):=by
 obtain⟨_,t,e⟩:=K7 h.red h.mem;refine⟨t.red,by rw[e];exact t.mem,fun v f=>h.A3 v (t.A3 v f),fun s d q a=>?_,fun q a=>?_⟩
 ·obtain⟨g,c,b⟩:=t.EU s d q a;exact h.EU g c q b
 rw[e] at a;exact h.cos q (t.cos q a)
theorem BI.YA {V:List Re} {n:Nu} (c:AQ n.1) (d:In n.1 n.2) (f:∀v∈Go.Abs.A3 n.1,v∈V) (h:¬Fv n):BI V n:=
 ⟨c,d,f,fun s g q b=>Classical.byContradiction fun a=>h (.inr ⟨s,g,q,b,a⟩),fun q b=>Classical.byContradiction fun a=>h (.inl ⟨q,b,a⟩)⟩
theorem MJ {l:List Nu} (h:l≠[]) (i:Nat):Du l i∈l:=by
 have:i%l.length<l.length:=Nat.mod_lt _ (List.length_pos_iff.2 h);unfold Du;rw[List.getD_eq_getElem?_getD,List.getElem?_eq_getElem this];exact List.getElem_mem this
theorem Qp {l:List Nu} (h:l≠[]):l.getLastD Gz∈l:=by
 cases l with
 | nil=>exact absurd rfl h
 | cons a l=>rw[List.getLastD_cons];cases l with
  | nil=>exact List.mem_cons_self
  | cons b l=>rw[List.getLastD_eq_getLast?];exact List.mem_cons_of_mem _ (by
   rw[List.getLast?_eq_some_getLast (by simp)];exact List.getLast_mem _)
section
variable {V:List Re} {ns:List Nu}
theorem EP (a:V.length<=3) (h:∀n∈ns,BI V n) {S:Nat} (b:Rm<=S) (c:S<=Sm):CP (Tf (PN ns)) Rm Cm S:=
 MI (PN.Dg a h) (fun {u} hu=>Nat.le_trans (hu.len (PN.Dg a h) (fun d=>PN.A3 h d)) a) b c
theorem C5 (a:V.length<=3) (h:∀n∈ns,BI V n) {n:Nu} (b:n∈ns):Tf (PN ns) n.1:=Tf.of (PN.Dg a h) (PN.self b)
structure H6 (V:List Re) (n:Nu):Prop where
 red:AQ n.1
 mem:In n.1 n.2
 A3:∀v∈A3 n.1,v∈V
theorem H6.KZ (a:V.length<=3) (h:∀n∈ns,BI V n) {n:Nu} (ht:Tf (PN ns) n.1) (hm:In n.1 n.2):H6 V n:=
 ⟨ht.red (PN.Dg a h),hm,ht.A3 (PN.Dg a h) (fun b=>PN.A3 h b)⟩
theorem BI.R8 {n:Nu} (h:BI V n):H6 V n:=⟨h.red,h.mem,h.A3⟩
theorem QH (c:V.length<=3) (h:∀n∈ns,BI V n) {a b:Nu} (d:a∈ns) (f:b∈ns):Tf (PN ns) (Al a.1 b.1)/\In (Al a.1 b.1) a.2/\In (Al a.1 b.1) b.2:=by
 have G:=(EP c h (Nat.le_refl Rm) (by decide)).toGam;obtain⟨g,i,j⟩:=G.Al (C5 c h d) (C5 c h f);exact⟨g,i _ (h a d).mem,j _ (h b f).mem⟩
theorem LA {u:List (List Rat)} {v:Re} (b:In u v):∀x∈A3 (Aa u v),x=v\/x∈A3 u:=by
 by_cases a:Sq u v
 ·rw[CY a];exact fun x hx=> .inr hx
 rw[C4 a];intro x hx;rcases List.mem_cons.1 hx with rfl | hx
 ·exact .inl (DA b)
 exact .inr hx
theorem Iw {u:List (List Rat)} {v:Re} (h:AQ u) (a:In u v) (c:0<=v):AQ (Aa u v):=by
 by_cases b:v=0
 ·subst b;rw[CY ⟨0,BM u,by grind⟩];exact h
 exact NC h a (by grind)
theorem It {st:List Nu×Nat} (h:G3 st) (o:el Bl):(CA st o).2<=3/\∃V,V.length<=(CA st o).2/\(∀n∈st.1,BI V n)/\H6 V (CA st o).1:=by
 obtain⟨f,V,g,c⟩:=h;have d:=Nat.le_trans g f;unfold CA
 split
 ·exact⟨f,V,g,c,trivial,⟨[EV o],rfl,rfl⟩,fun v j=>by simp[Go.Abs.A3] at j⟩
 rename_i x
 have l:st.1≠[]:=fun e=>x (.inl e)
 have k:=MJ l o.2.1.toNat;have w:=MJ l o.2.2.1.toNat
 generalize Du st.1 o.2.1.toNat=a at*
 generalize Du st.1 o.2.2.1.toNat=b at*
 obtain⟨m,p,r⟩:=QH d c k w;have t:=m.red (PN.Dg d c);unfold Cq
 split
 ·exact⟨f,V,g,c,.KZ d c m (B3 p r)⟩
 split
 ·exact⟨f,V,g,c,.KZ d c m (Dv p r)⟩
 split
 ·exact⟨f,V,g,c,.KZ d c m (Ab t p r)⟩
 split
 ·refine⟨f,V,g,c,?_⟩
  dsimp only
  split
  ·exact (c a k).R8
  rename_i s
  exact .KZ d c m (Ab t p (KD t r s))
 split
 ·rename_i z
  have i:=Qc (c a k).mem;refine⟨by show st.2+1<=3;omega,CR a.2::V,by show _+1<=st.2+1;omega,fun n hm=>(c n hm).mono fun v j=>List.mem_cons_of_mem _ j,Iw (c a k).red i (HB _),Lk i (HB _),fun v j=>?_⟩;rcases LA i v j with rfl | j
  ·exact List.mem_cons_self
  exact List.mem_cons_of_mem _ ((c a k).A3 v j)
 exact⟨f,V,g,c,(c a k).R8⟩
end
theorem Y7 {n:Int} {d:Nat} (b:n.natAbs<18446744073709551616) (c:0<d) (a:d<18446744073709551616):Bf (Rat.divInt n d):=by
 have e:(Rat.divInt n d)=mkRat n d:=Rat.divInt_ofNat n d;rw[e]
 constructor
 ·have:=Rat.num_mkRat n d;rw[this]
  split
  ·simp
  refine Nat.lt_of_le_of_lt ?_ b;exact Int.natAbs_ediv_le_natAbs _ _
 have:=Rat.den_mkRat n d;rw[this]
 split
 ·decide
 exact Nat.lt_of_le_of_lt (Nat.div_le_self _ _) a
theorem Ma {V:List Re} {l:List Nu} {x:Nu} (c:∀n∈l,BI V n) (hx:H6 V x) (b:l=[]->¬Fv x):BI V (Dx l x):=by
 unfold Dx
 split
 ·rename_i h;exact c _ (Qp h.1)
 rename_i h
 refine .YA hx.red hx.mem hx.A3 fun a=>?_
 by_cases he:l=[]
 ·exact b he a
 exact h ⟨he,a⟩
theorem NB (o:el Bl):¬Fv ([],Re.ofRat (EV o)):=by
 have d:Bf (EV o):=Y7 (by have:=Np o.2.2.2.1;omega) (by omega) (by omega);rintro (⟨q,c,b⟩ |⟨s,a,_⟩)
 ·rw[Bn] at c;rw[List.mem_singleton.1 c] at b;exact b d
 simp at a
theorem Zk {st:List Nu×Nat} (h:G3 st) (o:el Bl):G3 (Fs st o):=by
 obtain⟨c,V,d,b,f⟩:=It h o;refine⟨c,V,d,fun n a=>?_⟩;rcases List.mem_append.1 a with a | a
 ·exact b n a
 rw[List.mem_singleton.1 a];refine (Ma b f fun he=>?_).trim;have:(CA st o).1=([],Re.ofRat (EV o)):=by unfold CA;rw[if_pos (.inl he)]
 rw[this];exact NB o
theorem SP:∀{xs:List (el Bl)} {st:List Nu×Nat},G3 st->G3 (xs.foldl Fs st)
 | [],_,h=>h
 | o::xs,_,h=>SP (xs:=xs) (Zk h o)
theorem NN (xs:List (el Bl)):G3 (runN xs):=SP ⟨by decide,[],by simp,by simp⟩
end Go.Abs
namespace Go.Abs
open Go.RowKit
variable {A1 A2 C:LR} {K K2 R S S2:Nat} {T T1 T2:List LR} {TT:List (List Rat)->Prop} {c:Int} {q:Rat} {u v:List (List Rat)} {x y:Re}
theorem Oo (G:CP TT R K S) (hu:TT u) (I:TT v) (m:T1=tw u) (o:T2=tw v) (j:A1=em u x) (k:A2=em v y) (hx:El u S x) (J:El v S y) {A B:LR} (hT:T=tw (Al u v)) (hA:A=em (Al u v) x) (D:B=em (Al u v) y):CF 74 [.agg [.sl (.sl AA) T1,.sl AA A1],.agg [.sl (.sl AA) T2,.sl AA A2]] (.AG [(true,[.sl (.sl AA) T,.sl AA A]),(true,[.sl (.sl AA) T,.sl AA B]),(false,[.int .i64 0])]):=by
 obtain⟨O,g⟩:∃z:List (el AZ),z=[(T,A),(T,B)]:=⟨_,rfl⟩
 have H:O.length=2:=by rw[g];rfl
 have t:O[0]? =some (T,A):=by rw[g];rfl
 have w:O[1]? =some (T,B):=by rw[g];rfl
 refine AE Tryz.func74 (by kernel_rfl) rfl fun E F=>?_
 conv=>cbv
 refine⟨[(T1,A1),(T2,A2)],fun _=>⟨rfl,by decide,rfl,⟨rfl,by first | exact t1 | exact t2 | exact t4 | simp[Ae,Ak,cells],⟨rfl,by first | exact t1 | exact t2 | exact t4 | simp[Ae,Ak,cells],trivial⟩⟩⟩,.inr ?_⟩;try conv=>cbv
 refine cL (r:= .AG [(false,[.sl AZ O]),(false,[.int .i64 0])]) F (UZ (ns:=[(u,x),(v,y)]) G (by intro n f;simp at f;rcases f with rfl | rfl;exact hu;exact I) (by rw[m,o,j,k];rfl) (by intro n f;simp at f;rcases f with rfl | rfl;exact hx;exact J) (by show 2<=1000000;decide) (by rw[g,hT,hA,D];rfl)) t1 ?_;try conv=>cbv
 intro L h;cases h.trans (show _=false by decide);conv=>cbv
 obtain⟨p,a⟩:=AF (l:=O) (i:=0) (by omega);refine⟨p,fun _=>⟨by omega,a⟩,?_⟩;try conv=>cbv
 obtain⟨s,b⟩:=AF (l:=O) (i:=1) (by omega);refine⟨s,fun _=>⟨by omega,b⟩,?_⟩;try conv=>cbv
 refine g2 rfl ?_;have c:=Option.some.inj (a.symm.trans t);have d:=Option.some.inj (b.symm.trans w);exact fA ⟨⟨rfl,congrArg _ (by rw[c]),congrArg _ (by rw[c]),trivial⟩,⟨rfl,congrArg _ (by rw[d]),congrArg _ (by rw[d]),trivial⟩,t2,trivial⟩ rfl (by simp)
theorem OO (G:CP TT R K S) (hu:TT u) (j:TT v) (f:T1=tw u) (g:T2=tw v) (c:A1=em u x) (d:A2=em v y) (hx:El u S x) (o:El v S y) (hT:T=tw (Al u v)) (p:C=em (Al u v) (x+y)):CF 45 [.agg [.sl (.sl AA) T1,.sl AA A1],.agg [.sl (.sl AA) T2,.sl AA A2]] (.AG [(true,[.sl (.sl AA) T,.sl AA C]),(false,[.int .i64 0])]):=by
 obtain⟨a,h,i⟩:=G.toGam.Al hu j;have k:=G.BA hu a h hx;have l:=G.BA j a i o;have hmul:=G.mul a;obtain⟨A,hA⟩:=BB (em (Al u v) x);obtain⟨B,m⟩:=BB (em (Al u v) y);refine AE Tryz.func45 (by kernel_rfl) rfl fun E n=>?_
 conv=>cbv
 refine cL n (Oo G hu j f g c d hx o hT hA m) ⟨t2,t2,trivial⟩ ?_;try conv=>cbv
 intro r b;cases b.trans (show _=false by decide);conv=>cbv
 refine cL n (Gc (G.AN a) hA m k l (by omega) (by omega) p) t3 ?_;try conv=>cbv
 refine g2 rfl ?_;exact fA ⟨t3,t2,trivial⟩ rfl (by simp)
theorem JO (G:CP TT R K S) (hu:TT u) (j:TT v) (f:T1=tw u) (g:T2=tw v) (c:A1=em u x) (d:A2=em v y) (hx:El u S x) (o:El v S y) (hT:T=tw (Al u v)) (p:C=em (Al u v) (x*y)):CF 16 [.agg [.sl (.sl AA) T1,.sl AA A1],.agg [.sl (.sl AA) T2,.sl AA A2]] (.AG [(true,[.sl (.sl AA) T,.sl AA C]),(false,[.int .i64 0])]):=by
 obtain⟨a,h,i⟩:=G.toGam.Al hu j;have k:=G.BA hu a h hx;have l:=G.BA j a i o;have hmul:=G.mul a;obtain⟨A,hA⟩:=BB (em (Al u v) x);obtain⟨B,m⟩:=BB (em (Al u v) y);refine AE Tryz.func16 (by kernel_rfl) rfl fun E n=>?_
 conv=>cbv
 refine cL n (Oo G hu j f g c d hx o hT hA m) ⟨t2,t2,trivial⟩ ?_;try conv=>cbv
 intro r b;cases b.trans (show _=false by decide);conv=>cbv
 refine cL n (Cf (G.AN a) hT hA m k l (by omega) p) t3 ?_;try conv=>cbv
 refine g2 rfl ?_;exact fA ⟨t3,t2,trivial⟩ rfl (by simp)
theorem OQ (G:CP TT R K S) (hu:TT u) (d:T1=tw u) (a:A1=em u x) (hx:El u S x) (b:C=em u (-x)):CF 87 [.agg [.sl (.sl AA) T1,.sl AA A1]] (.agg [.sl (.sl AA) T1,.sl AA C]):=by
 refine AE Tryz.func87 (by kernel_rfl) rfl fun E c=>?_
 conv=>cbv
 refine cL c (G9 (G.AN hu) a hx b) t2 ?_;try conv=>cbv
 refine g2 rfl ?_;exact fA ⟨t3,trivial⟩ rfl (by simp)
theorem OS (G:CP TT R K S) (hu:TT u) (g:TT v) (f:T1=tw u) (a:T2=tw v) (c:A1=em u x) (d:A2=em v y) (hx:El u S x) (i:El v S y) (hT:T=tw (Al u v)) (j:C=em (Al u v) (x-y)):CF 85 [.agg [.sl (.sl AA) T1,.sl AA A1],.agg [.sl (.sl AA) T2,.sl AA A2]] (.AG [(true,[.sl (.sl AA) T,.sl AA C]),(false,[.int .i64 0])]):=by
 refine AE Tryz.func85 (by kernel_rfl) rfl fun E h=>?_
 conv=>cbv
 obtain⟨k,b⟩:=BB (em v (-y));refine cL h (OQ G g a d i b) ⟨t2,trivial⟩ ?_;try conv=>cbv
 refine cL h (OO G hu g f a c b hx (i.neg (G.AN g).red) hT j) ⟨t2,t2,trivial⟩ ?_;try conv=>cbv
 refine g2 rfl ?_;exact fA ⟨t3,t2,trivial⟩ rfl (by simp)
theorem JP (G:CP TT R K S) (hu:TT u) (b:T1=tw u) (a:A1=em u x) (hx:El u S x) (f:c=Ao x):CF 18 [.agg [.sl (.sl AA) T1,.sl AA A1]] (.one (.int .i64 c)):=by
 refine AE Tryz.func18 (by kernel_rfl) rfl fun E d=>?_
 conv=>cbv
 refine cL d (UY (G.AN hu) b a hx ((G.F8 hu).mono (Nat.le_add_right _ _)).v0 f) t2 ?_;try conv=>cbv
 exact fA ⟨t2,trivial⟩ rfl (by simp)
theorem OR (G:CP TT R K S) (hu:TT u) (c:T1=tw u) (b:A1=em u x) (hx:El u S x) (hw:TT (Aa u x)) (d:0<=x) (hT:T=tw (Aa u x)) (f:C=em (Aa u x) (Re.sqrt x)):CF 88 [.agg [.sl (.sl AA) T1,.sl AA A1]] (.AG [(true,[.sl (.sl AA) T,.sl AA C]),(false,[.int .i64 0])]):=by
 refine AE Tryz.func88 (by kernel_rfl) rfl fun E g=>?_
 conv=>cbv
 refine cL g (LZ (G.AN hu) (G.AN hw) (G.ht hw) c b hx ((G.F8 hu).mono (Nat.le_add_right _ _)) d hT f) t2 ?_;try conv=>cbv
 intro h a;cases a.trans (show _=false by decide);conv=>cbv
 exact fA ⟨t3,t2,trivial⟩ rfl (by simp)
theorem Ud (G:CP TT R K S) (hu:TT u) (m:TT v) (h:T1=tw u) (b:T2=tw v) (d:A1=em u x) (f:A2=em v y) (hx:El u S x) (p:El v S y) {i:Re} (o:In v i) (k:y*i=1) (j:El v S i) (g:II v.length R S<=60000000000000) (hT:T=tw (Al u v)) (n:C=em (Al u v) (x*i)):CF 86 [.agg [.sl (.sl AA) T1,.sl AA A1],.agg [.sl (.sl AA) T2,.sl AA A2]] (.AG [(true,[.sl (.sl AA) T,.sl AA C]),(false,[.int .i64 0])]):=by
 refine AE Tryz.func86 (by kernel_rfl) rfl fun E l=>?_
 conv=>cbv
 obtain⟨s,a⟩:=BB (em v i);refine cL l (JS (G.AN m) b f p o k g a) t2 ?_;try conv=>cbv
 intro r c;cases c.trans (show _=false by decide);conv=>cbv
 refine cL l (JO G hu m h b d a hx j hT n) ⟨t2,t2,trivial⟩ ?_;try conv=>cbv
 exact fA ⟨t3,t2,trivial⟩ rfl (by simp)
theorem Ue (G:CP TT R K S) (hu:TT u) (i:TT v) (h:T1=tw u) (c:T2=tw v) (f:A1=em u x) (b:A2=em v y) (hx:El u S x) (k:El v S y) (d:y=0):CF 86 [.agg [.sl (.sl AA) T1,.sl AA A1],.agg [.sl (.sl AA) T2,.sl AA A2]] (.AG [(true,[.sl (.sl AA) (([]:List LR)),.sl AA (([]:LR))]),(false,[.int .i64 6])]):=by
 refine AE Tryz.func86 (by kernel_rfl) rfl fun E g=>?_
 conv=>cbv
 refine cL (r:= .AG [(false,[.sl AA []]),(false,[.int .i64 6])]) g (Of (G.AN i) c (b.trans (by rw[d]))) t2 ?_;try conv=>cbv
 intro j a;cases a.trans (show _=true by decide);conv=>cbv
 exact fA ⟨⟨rfl,.inr (.inl ⟨_,rfl⟩),.inr (.inl ⟨_,rfl⟩),trivial⟩,t2,trivial⟩ rfl (by simp)
theorem Uc (G:CP TT R K S) (hu:TT u) (m:TT v) (i:T1=tw u) (j:T2=tw v) (g:A1=em u x) (h:A2=em v y) (hx:El u S x) (r:El v S y) (s:CP TT R K2 S2) (z:2*(S+K)+1<=S2) (t:c=Ao (x-y)):CF 80 [.agg [.sl (.sl AA) T1,.sl AA A1],.agg [.sl (.sl AA) T2,.sl AA A2]] (.AG [(false,[.int .i64 c]),(false,[.int .i64 0])]):=by
 obtain⟨a,k,l⟩:=G.toGam.Al hu m;have n:=G.BA hu a k hx;have o:=G.BA m a l r;have hmul:=G.mul a;refine AE Tryz.func80 (by kernel_rfl) rfl fun E p=>?_
 conv=>cbv
 obtain⟨B,d⟩:=B9 (tw (Al u v));obtain⟨A,b⟩:=BB (em (Al u v) (x-y));refine cL p (OS G hu m i j g h hx r d b) ⟨t2,t2,trivial⟩ ?_;try conv=>cbv
 intro w f;cases f.trans (show _=false by decide);conv=>cbv
 refine cL p (JP s a d b ((n.sub (G.AN a).red o).mono (by omega)) t) ⟨t2,trivial⟩ ?_;try conv=>cbv
 exact fA ⟨t2,t2,trivial⟩ rfl (by simp)
theorem Uf (G:CP TT R K S) (hu:TT u) (o:TT v) (i:T1=tw u) (j:T2=tw v) (f:A1=em u x) (g:A2=em v y) (hx:El u S x) (p:El v S y) (k:CP TT R K2 S2) (m:2*(S+K)+1<=S2) {c:Bool} (n:c=true↔x=y):CF 21 [.agg [.sl (.sl AA) T1,.sl AA A1],.agg [.sl (.sl AA) T2,.sl AA A2]] (.one (.bool c)):=by
 refine AE Tryz.func21 (by kernel_rfl) rfl fun E l=>?_
 conv=>cbv
 obtain⟨t,a⟩:=xI (Ao (x-y));refine cL l (Uc G hu o i j f g hx p k m a) ⟨t2,t2,trivial⟩ ?_;try conv=>cbv
 intro r b;cases b.trans (show _=true by decide);conv=>cbv
 intro s d;conv=>cbv
 exact fA ⟨⟨rfl,congrArg _ (by rw[Bool.eq_iff_iff,n,d,beq_iff_eq,a,I6];constructor <;> intro h <;> grind),trivial⟩,trivial⟩ rfl (by simp)
theorem Uh (G:CP TT R K S) (hu:TT u) (a:T1=tw u) (b:A1=em u x) (hx:El u S x):CF 20 [.agg [.sl (.sl AA) T1,.sl AA A1]] (.one (.bool true)):=by
 have g:T1.length=u.length:=by rw[a,Au]
 have h:=G.ht hu;have hmul:=G.mul hu;refine AE Tryz.func20 (by kernel_rfl) rfl fun E d=>?_
 conv=>cbv
 rintro k ⟨j,f5⟩;conv=>cbv
 intro i c;conv=>cbv
 cases i <;> conv=>cbv
 ·have f:=Hd c;exact absurd f (by omega)
 have f:=He c;refine cL d (IA (G.AN hu) a b hx (by omega)) t2 ?_;try conv=>cbv
 refine cL d (Lb (G.AN hu) a (G.F8 hu).vR (G.F8 hu).qR) t1 ?_;try conv=>cbv
 exact fA ⟨t2,trivial⟩ rfl (by simp)
theorem Ug {b1 b2:Bool} {l1 l2:List UInt32} (b:Aq q b1 l1 b2 l2) (a:C=em [] (Re.ofRat q)):CF 117 [.agg [.bool b1,.sl .u32 l1,.bool b2,.sl .u32 l2]] (.agg [.sl (.sl AA) (([]:List LR)),.sl AA C]):=by
 refine AE Tryz.func117 (by kernel_rfl) rfl fun E c=>?_
 conv=>cbv
 refine⟨[((b1,l1),(b2,l2))],fun _=>⟨rfl,by decide,rfl,⟨rfl,by first | exact t1 | exact t2 | exact t4 | simp[Ae,Ak,cells],trivial⟩⟩,.inr ?_⟩;try conv=>cbv
 exact fA ⟨⟨rfl,.inr (.inl ⟨_,rfl⟩),congrArg _ (by rw[a,Cg,<-b.rp]),trivial⟩,trivial⟩ rfl (by simp)
theorem cP {x:Int} (hx: -9223372036854775808<=x/\x<9223372036854775808) (c:C=em [] (Re.ofRat x)):CF 129 [.one (.int .i64 x)] (.agg [.sl (.sl AA) (([]:List LR)),.sl AA C]):=by
 refine AE Tryz.func129 (by kernel_rfl) rfl fun E b=>?_
 conv=>cbv
 obtain⟨g,h,d,f,a⟩:=A9 (x:Rat);refine cL b (Dp hx rfl a) t1 ?_;try conv=>cbv
 refine cL b (Ug a c) ⟨t4,trivial⟩ ?_;try conv=>cbv
 exact fA ⟨t3,trivial⟩ rfl (by simp)
theorem OP {n d:Int} (h: -9223372036854775808<=n/\n<9223372036854775808) (g: -9223372036854775808<=d/\d<9223372036854775808) (c:d≠0) (i:q=Rat.divInt n d) (f:C=em [] (Re.ofRat q)):CF 83 [.one (.int .i64 n),.one (.int .i64 d)] (.agg [.sl (.sl AA) (([]:List LR)),.sl AA C]):=by
 refine AE Tryz.func83 (by kernel_rfl) rfl fun E b=>?_
 conv=>cbv
 obtain⟨l,m,j,k,a⟩:=A9 q;refine cL b (G6 h g c i a) t2 ?_;try conv=>cbv
 refine cL b (Ug a f) ⟨t4,trivial⟩ ?_;try conv=>cbv
 exact fA ⟨t3,trivial⟩ rfl (by simp)
end Go.Abs
