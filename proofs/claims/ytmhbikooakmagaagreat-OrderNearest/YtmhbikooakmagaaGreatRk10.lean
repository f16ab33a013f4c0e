/- Part 11 of a proof. Conditions: each theorem's own. -/
import Derived.Test.YtmhbikooakmagaaGreatRk09
set_option linter.all false
set_option maxHeartbeats 8000000
set_option maxRecDepth 20000
namespace Go.Abs
structure BH (q:Rat) (b1:Bool) (l1:List UInt32) (b2:Bool) (l2:List UInt32):Prop where
 num:Ad q.num b1 l1
 den:Ad (q.den:Int) b2 l2
variable {b' Ud b1 b2:Bool} {d y z:Int} {k:Nat} {l l' OG l1 l2:List UInt32}
theorem Be (q:Rat):∃b1 l1 b2 l2,BH q b1 l1 b2 l2:=⟨_,_,_,_,⟨rfl,rfl⟩,⟨rfl,rfl⟩⟩
theorem BH.uniq {p q:Rat} {c1 c2:Bool} {m1 m2:List UInt32} (h:BH p b1 l1 b2 l2) (h':BH q c1 m1 c2 m2) (e:p=q):(b1=c1/\l1=m1)/\(b2=c2/\l2=m2):=by
 subst e;exact⟨h.num.uniq h'.num rfl,h.den.uniq h'.den rfl⟩
structure Bu (q:Rat):Prop where
 num:(AP q.num.natAbs).length<=4000000000000
 den:(AP q.den).length<=4000000000000
theorem BH.small {q:Rat} (h:BH q b1 l1 b2 l2) (s:Bu q):l1.length<=4000000000000/\l2.length<=4000000000000:=by
 rw[h.num.BC,h.den.BC];exact⟨s.num,by simpa using s.den⟩
theorem Vj (x:Int):CI x 1=x:=by unfold CI;simp
theorem OO {n:Int} (g:d≠0):(Rat.divInt n d).num=CI n (if d<0 then -((Nat.gcd n.natAbs d.natAbs:Nat):Int) else ((Nat.gcd n.natAbs d.natAbs:Nat):Int)):=by
 rw[Rat.num_divInt];have f:Int.gcd d n=Nat.gcd n.natAbs d.natAbs:=by rw[Int.gcd_comm];rfl
 have c:0<Nat.gcd n.natAbs d.natAbs:=Nat.gcd_pos_of_pos_right _ (by omega);rw[f];unfold CI
 by_cases h:d<0
 ·rw[if_pos h,if_neg (by omega),Int.sign_eq_neg_one_of_neg h,Int.neg_neg,Int.neg_one_mul]
 rw[if_neg h,if_pos (by omega),Int.sign_eq_one_of_pos (by omega),Int.one_mul]
theorem ON {n:Int} (f:d≠0):((Rat.divInt n d).den:Int)=CI d (if d<0 then -((Nat.gcd n.natAbs d.natAbs:Nat):Int) else ((Nat.gcd n.natAbs d.natAbs:Nat):Int)):=by
 rw[Rat.den_divInt,if_neg f];have g:Int.gcd d n=Nat.gcd n.natAbs d.natAbs:=by rw[Int.gcd_comm];rfl
 have c:0<Nat.gcd n.natAbs d.natAbs:=Nat.gcd_pos_of_pos_right _ (by omega);rw[g,Int.natCast_ediv];unfold CI
 by_cases h:d<0
 ·rw[if_pos h,if_neg (by omega),Int.neg_neg,show (d.natAbs:Int)= -d by omega]
 rw[if_neg h,if_pos (by omega),show (d.natAbs:Int)=d by omega]
theorem jP:AP 1=[1]:=by decide +kernel
theorem Rp {x:Int} {b:Bool} (h:Ad x b l) (e:b=true):false=decide (x=1):=by
 have:=h.neg;rw[e] at this;have c:x<0:=by simpa using this.symm
 simp;omega
theorem YK {x:Int} {b:Bool} (h:Ad x b l) (e:¬l.length=1):false=decide (x=1):=by
 have c:x≠1:=by
  intro f;subst f;apply e;rw[h.BC];exact congrArg List.length jP
 simp[c]
theorem Rr {x:Int} {b:Bool} {w:UInt32} (h:Ad x b l) (hb:b=false) (e:l.length=1) (hw:l[0]? =some w):decide (w.toNat=1)=decide (x=1):=by
 have g:l=[w]:=by
  match l,e,hw with
  | [a],_,hw=>simp at hw;rw[hw]
 have c:=h.nat;rw[g] at c;have f:AE [w]=w.toNat:=by simp[AE]
 rw[f] at c;have h3:=h.neg;rw[hb] at h3;have j:¬x<0:=by simpa using h3.symm
 rw[Bool.eq_iff_iff];simp;omega
theorem OQ (n:Nat):n<2^(32*(AP n).length):=by
 have h:=CR (AP n);rwa [Az] at h
theorem jO (a b:Nat):(AP (a*b)).length<=(AP a).length+(AP b).length:=by
 apply Fu;rw[Nat.mul_add,Nat.pow_add];exact Nat.mul_lt_mul_of_lt_of_le (OQ a) (Nat.le_of_lt (OQ b)) (Nat.pow_pos (by decide))
theorem jN {a b:Nat} (ha:(AP a).length<=k) (hb:(AP b).length<=k):(AP (a+b)).length<=k+1:=by
 apply Fu;have c:=Nat.lt_of_lt_of_le (OQ a) (Nat.pow_le_pow_right (n:=2) (by decide) (Nat.mul_le_mul_left 32 ha));have f:=Nat.lt_of_lt_of_le (OQ b) (Nat.pow_le_pow_right (n:=2) (by decide) (Nat.mul_le_mul_left 32 hb));rw[Nat.mul_add,Nat.pow_add];have h3:2^(32*k)*2<=2^(32*k)*2^(32*1):=Nat.mul_le_mul_left _ (by decide);omega
theorem Ad.DJ {x:Int} {b:Bool} (h:Ad x b l) (h':Ad y b' l') (c:Ad z Ud OG) (e:z=x*y):OG.length<=l.length+l'.length:=by
 rw[h.BC,h'.BC,c.BC,e,Int.natAbs_mul];exact jO _ _
theorem Ad.NM {x:Int} {b:Bool} (h:Ad x b l) (h':Ad y b' l') (f:Ad z Ud OG) (e:z=x+y) (g:l.length<=k) (c:l'.length<=k):OG.length<=k+1:=by
 rw[h.BC] at g;rw[h'.BC] at c;rw[f.BC,e];exact Nat.le_trans (D1 (Int.natAbs_add_le x y)) (jN g c)
theorem GX (q:Rat):(q.den:Int)≠0:=by have:=q.den_nz;omega
theorem Px (p q:Rat):p+q=Rat.divInt (p.num*q.den+q.num*p.den) ((p.den:Int)*q.den):=by
 have h:=Rat.divInt_add_divInt p.num q.num (GX p) (GX q);rwa [Rat.num_divInt_den,Rat.num_divInt_den] at h
theorem OS (p q:Rat):p*q=Rat.divInt (p.num*q.num) ((p.den:Int)*q.den):=by
 have h:=Rat.divInt_mul_divInt p.num q.num (d₁:=p.den) (d₂:=q.den);rwa [Rat.num_divInt_den,Rat.num_divInt_den] at h
theorem gJ (p q:Rat):p/q=Rat.divInt (p.num*q.den) ((p.den:Int)*q.num):=by
 have h:=Rat.divInt_mul_divInt p.num q.den (d₁:=p.den) (d₂:=q.num);rw[<-Rat.inv_divInt q.num q.den,Rat.num_divInt_den,Rat.num_divInt_den] at h;rw[Rat.div_def,h]
theorem Vl (x:Int):Rat.divInt x 1=(x:Rat):=Rat.num_divInt_den (x:Rat)
theorem Vo (x:Int):(Rat.divInt x 1).num=x:=by rw[Vl];rfl
theorem Vn (x:Int):(Rat.divInt x 1).den=1:=by rw[Vl];rfl
theorem H9 {p q:Rat} (c:(p.den:Int)=1) (f:(q.den:Int)=1):(p+q).num=p.num+q.num/\(p+q).den=1:=by
 rw[Px,c,f];simp only[Int.mul_one];exact⟨Vo _,Vn _⟩
theorem mul_ones {p q:Rat} (c:(p.den:Int)=1) (f:(q.den:Int)=1):(p*q).num=p.num*q.num/\(p*q).den=1:=by
 rw[OS,c,f];simp only[Int.mul_one];exact⟨Vo _,Vn _⟩
theorem Zz (r:Rat):(r*r).num=r.num*r.num/\(r*r).den=r.den*r.den:=by
 have c:(r.num*r.num).natAbs.Coprime (r.den*r.den):=by
  rw[Int.natAbs_mul];have h:=r.reduced;exact Nat.Coprime.mul_right (Nat.Coprime.mul_left h h) (Nat.Coprime.mul_left h h)
 have f:r.den*r.den≠0:=Nat.mul_ne_zero r.den_nz r.den_nz;have h:=Rat.num_divInt_den (⟨r.num*r.num,r.den*r.den,f,c⟩:Rat);have g:=OS r r
 have h3:(⟨r.num*r.num,r.den*r.den,f,c⟩:Rat)=r*r:=by
  rw[g,<-h];exact congrArg _ (Int.natCast_mul _ _)
 rw[<-h3];exact⟨rfl,rfl⟩
theorem W0 (n:Nat):BM (n*n)=n:=W1 (Nat.le_refl _) (by rw[Nat.add_mul,Nat.mul_add];omega)
theorem Z7 {r q:Rat} (f:0<=r) (h:r*r=q):((BM q.num.toNat:Nat):Int)=r.num/\r.num*r.num=q.num:=by
 have c:=(Zz r).1;rw[h] at c;have j:0<=r.num:=Rat.num_nonneg.2 f;refine⟨?_,c.symm⟩;obtain⟨k,g⟩:=Int.eq_ofNat_of_zero_le j;rw[c,g];rw[show ((k:Int)*k).toNat=k*k by rw[<-Int.natCast_mul];rfl,W0]
theorem Z6 {r q:Rat} (f:0<=r) (h:r*r=q):((BM (q.den:Int).toNat:Nat):Int)=(r.den:Int)/\(r.den:Int)*r.den=(q.den:Int):=by
 have c:=(Zz r).2;rw[h] at c;refine⟨?_,by rw[c];exact (Int.natCast_mul _ _).symm⟩;rw[c,Int.toNat_natCast,W0]
theorem Z5 {q:Rat} (f:((BM q.num.toNat:Nat):Int)*((BM q.num.toNat:Nat):Int)=q.num) (c:((BM (q.den:Int).toNat:Nat):Int)*((BM (q.den:Int).toNat:Nat):Int)=(q.den:Int)):∃r:Rat,0<=r/\r*r=q:=by
 refine⟨Rat.divInt ((BM q.num.toNat:Nat):Int) ((BM (q.den:Int).toNat:Nat):Int),?_,?_⟩
 ·exact Rat.divInt_nonneg (Int.natCast_nonneg _) (Int.natCast_nonneg _)
 rw[Rat.divInt_mul_divInt,f,c,Rat.num_divInt_den]
def Fk (b1:Bool) (l1:List UInt32) (b2:Bool) (l2:List UInt32):Bool:=E7 b1 l1&&(E7 b2 l2&&(!b2&&(decide (l2≠[])&&decide (Nat.gcd (AE l1) (AE l2)=1))))
theorem PE:Fk b1 l1 b2 l2=true↔∃q,BH q b1 l1 b2 l2:=by
 unfold Fk;simp only[Bool.and_eq_true,Bool.not_eq_true',decide_eq_true_eq]
 constructor
 ·rintro⟨o,r,h3,u,f⟩
  obtain⟨x,j⟩:=It.1 o;obtain⟨y,c⟩:=It.1 r;have v:y≠0:=fun e=>u (c.nil.2 e)
  have g:=c.neg;rw[h3] at g;have A:¬y<0:=by simpa using g.symm
  rw[j.nat,c.nat] at f;refine⟨⟨x,y.natAbs,by omega,f⟩,j,?_⟩
  show Ad ((y.natAbs:Nat):Int) b2 l2
  rw[show ((y.natAbs:Nat):Int)=y by omega];exact c
 rintro⟨q,h⟩
 refine⟨It.2 ⟨_,h.num⟩,It.2 ⟨_,h.den⟩,?_,fun e=>q.den_nz (by have:=h.den.nil.1 e;omega),?_⟩
 ·rw[h.den.neg];simp
 rw[h.num.nat,h.den.nat,Int.natAbs_natCast];exact q.reduced
def DR (q:Rat):Int:=CE q.num
def Fq (p q:Rat):Int:=if p<q then -1 else if q<p then 1 else 0
end Go.Abs
namespace Go.Abs
open Go.RowKit
def rp (q:Rat):el AA:=((decide (q.num<0),AP q.num.natAbs),(decide ((q.den:Int)<0),AP q.den))
theorem Ft (q:Rat):BH q (rp q).1.1 (rp q).1.2 (rp q).2.1 (rp q).2.2:=⟨⟨rfl,rfl⟩,⟨rfl,rfl⟩⟩
theorem BH.rp {q:Rat} {b1 b2:Bool} {l1 l2:List UInt32} (h:BH q b1 l1 b2 l2):rp q=((b1,l1),(b2,l2)):=by
 have u:=h.uniq (Ft q) rfl;rw[u.1.1,u.1.2,u.2.1,u.2.2]
abbrev Aa (X:List Rat):List (el AA):=X.map rp
def Dn (X:List Rat):Prop:=∀q∈X,Bu q
structure M6 (ts:List (List Rat)):Prop where
 small:∀x∈ts,Dn x
 Qt:ts.length<=16
 form:∀i x,ts[i]? =some x->x.length=2^i
end Go.Abs
namespace Go.Abs
open Go.RowKit
noncomputable def em (u:List (List Rat)) (x:Re):List (el AA):=Aa (co u x)
def tw (u:List (List Rat)):List (List (el AA)):=u.reverse.map Aa
structure Ae (R:Nat) (u:List (List Rat)):Prop where
 red:AT u
 tb:TB R u
 hR:R<=60000000000000
 ht:u.length<=16
structure El (u:List (List Rat)) (s:Nat) (x:Re):Prop where
 mem:In u x
 bd:Bd s (co u x)
variable {R k n s t:Nat} {p x y:Re}
theorem XF (h:n<=2^(2*k)) (f:k<=60000000000000):(AP n).length<=4000000000000:=by
 obtain⟨m,hm⟩:=xN 3999999999999;have c:n<2^(32*m):=Nat.lt_of_le_of_lt h (Nat.pow_lt_pow_right (by decide) (by omega));have:=Fu c;omega
theorem gH {q:Rat} {D:Nat} {n:Int} (h:q*D=n) (j:0<D):q.den<=D:=by
 have c:=JN q
 have f:((q.num*D:Int):Rat)=((n*q.den:Int):Rat):=by
  rw[Rat.intCast_mul,Rat.intCast_mul,<-h,<-c];have o:((D:Int):Rat)=(D:Rat):=rfl;have r:((q.den:Int):Rat)=(q.den:Rat):=rfl
  grind
 have h3:q.num*D=n*q.den:=Rat.intCast_inj.1 f
 have g:q.den∣q.num.natAbs*D:=by
  refine⟨n.natAbs,?_⟩;have:=congrArg Int.natAbs h3;rw[Int.natAbs_mul,Int.natAbs_mul,Int.natAbs_natCast,Int.natAbs_natCast] at this;rw[this,Nat.mul_comm]
 exact Nat.le_of_dvd j ((Nat.Coprime.symm q.reduced).dvd_of_dvd_mul_left g)
theorem Bd.Bh {a:List Rat} (h:Bd k a) (j:k<=60000000000000):Dn a:=by
 obtain⟨D,u,v,A,h3⟩:=h;intro q o;obtain⟨n,B⟩:=A q o;have g:q.den<=2^k:=Nat.le_trans (gH B u) v;have hb:=h3 q o
 have c:q.num.natAbs<=2^(2*k):=by
  have f:=RO (C:=q.den) hb (q:=(q.den:Rat)) ⟨by have:(0:Rat)<=q.den:=Rat.natCast_nonneg;grind,by grind⟩;rw[JN] at f
  have r:q.num.natAbs<=2^k*q.den:=by
   have F: -((2^k*q.den:Nat):Int)<=q.num:=by
    apply Rat.intCast_le_intCast.1;rw[Rat.intCast_neg];exact f.1
   have G:q.num<=((2^k*q.den:Nat):Int):=Rat.intCast_le_intCast.1 f.2;omega
  have:=Nat.mul_le_mul_left (2^k) g;rw[<-Nat.pow_add] at this;exact Nat.le_trans r (Nat.le_trans this (CP))
 exact⟨XF c j,XF (Nat.le_trans g (CP)) j⟩
theorem El.Bh {u:List (List Rat)} (h:El u s x) (hs:s<=60000000000000):Dn (co u x):=h.bd.Bh hs
theorem El.len {u:List (List Rat)} (h:El u s x):(co u x).length=2^u.length:=CU h.mem
theorem BJ {u:List (List Rat)} (h:In u x):(em u x).length=2^u.length:=by rw[em,List.length_map,CU h]
theorem Bb (u:List (List Rat)):(tw u).length=u.length:=by rw[tw,List.length_map,List.length_reverse]
theorem DD (h:n<=16:=by omega):2^n<=65536:=Nat.le_trans (CP h) (by decide)
theorem Mn (r:List Rat) (u:List (List Rat)):tw (r::u)=tw u++[Aa r]:=by rw[tw,List.reverse_cons,List.map_append];rfl
theorem DT (r:List Rat) (u:List (List Rat)):(tw (r::u)).take ((tw (r::u)).length-1)=tw u:=by
 rw[Mn,List.length_append,Bb];simp[List.take_left' (Bb u)]
theorem E5 (r:List Rat) (u:List (List Rat)):(tw (r::u))[(tw (r::u)).length-1]? =some (Aa r):=by
 rw[Mn,List.length_append,Bb];simp[List.getElem?_append_right (Nat.le_of_eq (Bb u))];rw[Bb,Nat.sub_self];rfl
theorem EG {r:List Rat} {u:List (List Rat)} (h:AT (r::u)):Aa r=em u (AM u r):=by rw[em,Fs h]
theorem CM {u:List (List Rat)} {r:List Rat} {q:Re} (h:AT (r::u)) (f:In u p) (g:In u q) (j:x=p+q*rt u r):(em (r::u) x).take ((em (r::u) x).length/2)=em u p:=by
 have c:In (r::u) x:=CW.2 ⟨p,q,f,g,j⟩;rw[BJ c,Bk,show (2^u.length+2^u.length)/2=2^u.length by omega,em,em,Aa,Aa,<-List.map_take,fy h f g j]
theorem CA {u:List (List Rat)} {r:List Rat} {q:Re} (h:AT (r::u)) (f:In u p) (g:In u q) (j:x=p+q*rt u r):(em (r::u) x).drop ((em (r::u) x).length/2)=em u q:=by
 have c:In (r::u) x:=CW.2 ⟨p,q,f,g,j⟩;rw[BJ c,Bk,show (2^u.length+2^u.length)/2=2^u.length by omega,em,em,Aa,Aa,<-List.map_drop,fx h f g j]
theorem En {u:List (List Rat)} {r:List Rat} {q:Re} (h:AT (r::u)) (c:In u p) (f:In u q) (g:x=p+q*rt u r):em (r::u) x=em u p++em u q:=by
 rw[em,Cz h c f g,Aa,List.map_append];rfl
theorem Vy {u:List (List Rat)} (h:AT u) (c:In u x) (f:In u y):em u (x+y)=Aa (List.zipWith (· + ·) (co u x) (co u y)):=by rw[em,Le h c f]
theorem Vz {u:List (List Rat)} (h:AT u) (c:In u x):em u (-x)=Aa ((co u x).map (- ·)):=by rw[em,Lg h c]
theorem Dx (q:Rat):em [] (Re.ofRat q)=[rp q]:=by rw[em,CQ];rfl
theorem Qc {u:List (List Rat)} (h:AT u):em u 0=Aa (List.replicate (2^u.length) 0):=by rw[em,QV h]
theorem Ae.tail {r:List Rat} {u:List (List Rat)} (h:Ae R (r::u)):Ae R u:=⟨h.red.1,h.tb.tail,h.hR,by have:=h.ht;rw[List.length_cons] at this;omega⟩
theorem Gb {α:Type} {l:List α} {i:Nat} {x:α} (h:l[i]? =some x):i<l.length:=by
 apply Classical.byContradiction;intro c;rw[List.getElem?_eq_none (by omega)] at h;exact absurd h (by simp)
theorem Ik:∀{u:List (List Rat)},AT u->∀(i:Nat) (x:List Rat),u.reverse[i]? =some x->x.length=2^i
 | [],_,i,x,h=>by simp at h
 | r::u,c,i,x,h=>by
  rw[List.reverse_cons] at h
  by_cases hi:i<u.length
  ·rw[List.getElem?_append_left (by rw[List.length_reverse];exact hi)] at h;exact Ik c.1 i x h
  rw[List.getElem?_append_right (by rw[List.length_reverse];omega),List.length_reverse] at h
  have f:i-u.length=0:=by
   have:=Gb h;simp at this;omega
  rw[f] at h;have:r=x:=by simpa using h
  rw[<-this,c.2.1]
  congr 1;omega
theorem Ae.Fj {u:List (List Rat)} (h:Ae R u):M6 u.reverse:=
 ⟨fun x c=>(h.tb x (List.mem_reverse.1 c)).Bh h.hR,by rw[List.length_reverse];exact h.ht,Ik h.red⟩
theorem El.Cv {r:List Rat} {u:List (List Rat)} (h:Ae R (r::u)):El u R (AM u r):=⟨CO h.red,QC h.red h.tb⟩
theorem El.parts {u:List (List Rat)} {r:List Rat} (h:AT (r::u)) (g:El (r::u) s x):∃p q,x=p+q*rt u r/\El u s p/\El u s q:=by
 obtain⟨p,q,c,f,rfl⟩:=CW.1 g.mem;have:=Ui h c f g.bd;exact⟨p,q,rfl,⟨c,this.1⟩,⟨f,this.2⟩⟩
theorem El.mono {u:List (List Rat)} (h:El u s x) (hs:s<=t):El u t x:=⟨h.mem,h.bd.mono hs⟩
theorem El.add {u:List (List Rat)} (h:AT u) (c:El u s x) (f:El u t y):El u (s+t+1) (x+y):=⟨C0 c.mem f.mem,Ug h c.mem f.mem c.bd f.bd⟩
theorem El.sub {u:List (List Rat)} (h:AT u) (c:El u s x) (f:El u t y):El u (s+t+1) (x-y):=⟨Ep c.mem f.mem,fI h c.mem f.mem c.bd f.bd⟩
theorem El.neg {u:List (List Rat)} (h:AT u) (c:El u s x):El u s (-x):=⟨Gf c.mem,Uj h c.mem c.bd⟩
theorem El.mul {u:List (List Rat)} (h:Ae R u) (c:El u s x) (f:El u t y):El u (s+t+EE u.length R) (x*y):=⟨Ak h.red c.mem f.mem,fF h.red h.tb c.mem f.mem c.bd f.bd⟩
theorem El.norm {u:List (List Rat)} {r:List Rat} {q:Re} (h:Ae R (r::u)) (c:In u p) (f:In u q) (g:El (r::u) s (p+q*rt u r)):El u (2*s+2*EE u.length R+R+1) (p*p-q*q*AM u r):=
 ⟨Ep (Ak h.red.1 c c) (Ak h.red.1 (Ak h.red.1 f f) (CO h.red)),Uk h.red h.tb c f g.bd⟩
theorem El.inv {u:List (List Rat)} (h:Ae R u) (c:El u s x) (f:In u y) (e:x*y=1):El u (II u.length R s) y:=⟨f,NU h.red h.tb c.mem f e c.bd⟩
theorem El.sqrt {u:List (List Rat)} {w:Re} (h:Ae R u) (c:El u s x) (hw:In u w) (e:w*w=x):El u (s+GG u.length R) w:=⟨hw,Um h.red h.tb hw e c.bd⟩
theorem El.rat {u:List (List Rat)} {q:Rat} (h:AT u) (c:Bd s [q]):El u s (Re.ofRat q):=⟨EK q u,fG h c⟩
theorem ET:∀(h R s:Nat),2*s<=II h R s
 | 0,_,_=>Nat.le_refl _
 | h+1,R,s=>by
  have:=ET h R (2*s+2*EE h R+R+1);rw[II];omega
theorem Xs {u:List (List Rat)} {r:List Rat} {q:Re} (h:AT (r::u)) (j:In u p) (o:In u q) (f:p+q*rt u r≠0):p*p-q*q*AM u r≠0:=by
 intro v;have D:=Cb h;have g:(p+q*rt u r)*(p-q*rt u r)=0:=by grind
 rcases Re.Cd g with c | c
 ·exact f c
 obtain⟨A,B⟩:=indep h j (Gf o) (Bx u) (Bx u) (show p+ -q*rt u r=0+0*rt u r by grind);exact f (by grind)
theorem LU:Bd 1 [(1/2:Rat)]:=by
 refine⟨2,by decide,by decide,fun q c=>⟨1,?_⟩,fun q c=>?_⟩
 ·rw[List.mem_singleton.1 c];decide +kernel
 rw[List.mem_singleton.1 c];decide +kernel
theorem Hf:Bd 0 [(0:Rat)]:=⟨1,by decide,by decide,fun q c=>⟨0,by rw[List.mem_singleton.1 c];decide +kernel⟩,fun q c=>by rw[List.mem_singleton.1 c];decide +kernel⟩
theorem fD:Bd 0 [(1:Rat)]:=⟨1,by decide,by decide,fun q c=>⟨1,by rw[List.mem_singleton.1 c];decide +kernel⟩,fun q c=>by rw[List.mem_singleton.1 c];decide +kernel⟩
end Go.Abs
namespace Go.Abs
noncomputable def An (x:Re):Int:=by
 classical
 exact if x<0 then -1 else if x=0 then 0 else 1
theorem Df (x:Re):(x<0/\An x= -1)\/(x=0/\An x=0)\/(0<x/\An x=1):=by
 unfold An
 by_cases h:x<0
 ·rw[if_pos h];exact .inl ⟨h,rfl⟩
 rw[if_neg h]
 by_cases c:x=0
 ·rw[if_pos c];exact .inr (.inl ⟨c,rfl⟩)
 rw[if_neg c];exact .inr (.inr ⟨by grind,rfl⟩)
theorem F0 {x:Re} (h:0<x):An x=1:=by rcases Df x with⟨a,b⟩ |⟨a,b⟩ |⟨a,b⟩ <;> grind
theorem JS {x:Re} (h:x<0):An x= -1:=by rcases Df x with⟨a,b⟩ |⟨a,b⟩ |⟨a,b⟩ <;> grind
theorem EZ:An 0=0:=by rcases Df 0 with⟨a,b⟩ |⟨a,b⟩ |⟨a,b⟩ <;> grind
theorem EP {x:Re}:An x=0↔x=0:=by
 rcases Df x with⟨a,b⟩ |⟨a,b⟩ |⟨a,b⟩ <;> rw[b]
 ·constructor
  ·intro h;omega
  intro h;grind
 ·exact⟨fun _=>a,fun _=>rfl⟩
 constructor
 ·intro h;omega
 intro h;grind
theorem Za (x y:Re):An (x*y)=An x*An y:=by
 rcases Df x with⟨a,b⟩ |⟨a,b⟩ |⟨a,b⟩ <;> rcases Df y with⟨c,d⟩ |⟨c,d⟩ |⟨c,d⟩ <;> rw[b,d]
 ·have:=Re.mul_pos (x:= -x) (y:= -y) (by grind) (by grind);exact F0 (by grind)
 ·rw[c,show x*0=0 by grind];exact EZ
 ·have:=Re.mul_pos (x:= -x) (y:=y) (by grind) (by grind);exact JS (by grind)
 ·rw[a,show 0*y=0 by grind];exact EZ
 ·rw[a,show 0*y=0 by grind];exact EZ
 ·rw[a,show 0*y=0 by grind];exact EZ
 ·have:=Re.mul_pos (x:=x) (y:= -y) (by grind) (by grind);exact JS (by grind)
 ·rw[c,show x*0=0 by grind];exact EZ
 exact F0 (Re.mul_pos a c)
theorem ZZ (x y:Re): -9223372036854775808<=An x*An y/\An x*An y<9223372036854775808:=by
 rcases Df x with⟨a,b⟩ |⟨a,b⟩ |⟨a,b⟩ <;> rcases Df y with⟨c,d⟩ |⟨c,d⟩ |⟨c,d⟩ <;> rw[b,d] <;> decide
section
variable {p q s ρ:Re}
theorem Ov (hs:0<s) (h:q=0\/An p=An q):An (p+q*s)=An p:=by
 rcases h with h | h
 ·rw[h,show p+0*s=p by grind]
 rcases Df p with⟨a,b⟩ |⟨a,b⟩ |⟨a,b⟩ <;> rcases Df q with⟨c,d⟩ |⟨c,d⟩ |⟨c,d⟩ <;> rw[b,d] at h <;> try omega
 ·have:=Re.mul_pos (x:= -q) (y:=s) (by grind) hs;rw[b];exact JS (by grind)
 ·rw[b,a,c,show (0:Re)+0*s=0 by grind];exact EZ
 have:=Re.mul_pos (x:=q) (y:=s) c hs;rw[b];exact F0 (by grind)
theorem Zc (hs:0<s) (h:p=0):An (p+q*s)=An q:=by
 rw[h,show 0+q*s=q*s by grind,Za,F0 hs,Int.mul_one]
theorem Zb (hs:0<s) (j:s*s=ρ) (f:p≠0) (g:q≠0) (h:An p≠An q):An (p+q*s)=An p*An (p*p-q*q*ρ):=by
 have e:p*p-q*q*ρ=(p-q*s)*(p+q*s):=by rw[<-j];grind
 rw[e,Za];rcases Df p with⟨a,b⟩ |⟨a,b⟩ |⟨a,b⟩ <;> rcases Df q with⟨c,d⟩ |⟨c,d⟩ |⟨c,d⟩ <;> rw[b,d] at h <;> first | (exact absurd rfl h) | (exact absurd a f) | (exact absurd c g) | skip
 ·have:=Re.mul_pos (x:=q) (y:=s) c hs;rw[b,JS (x:=p-q*s) (by grind)];omega
 have:=Re.mul_pos (x:= -q) (y:=s) (by grind) hs;rw[b,F0 (x:=p-q*s) (by grind)];omega
end
theorem Gv (q:Rat):An (Re.ofRat q)=DR q:=by
 have c:(0:Re)=Re.ofRat 0:=rfl;have f:DR q=CE q.num:=rfl;rw[f];rcases FM q.num with⟨a,b⟩ |⟨a,b⟩ |⟨a,b⟩ <;> rw[b]
 ·exact JS (by rw[c,Re.HO];rw[Rat.lt_iff];simp;exact a)
 ·rw[Rat.num_eq_zero.1 a];exact EZ
 exact F0 (by rw[c,Re.HO];rw[Rat.lt_iff];simp;exact a)
def VV:Nat->Nat->Nat->Nat
 | 0,_,s=>s
 | h+1,R,s=>VV h R (2*s+2*EE h R+R+1)
theorem HY:∀(h R:Nat) {s t:Nat},s<=t->VV h R s<=VV h R t
 | 0,_,_,_,h=>h
 | h+1,R,_,_,hs=>HY h R (by omega)
theorem FU:∀(h R s:Nat),s<=VV h R s
 | 0,_,_=>Nat.le_refl _
 | h+1,R,s=>Nat.le_trans (by omega) (FU h R (2*s+2*EE h R+R+1))
theorem Tc (h R s:Nat):VV h R s<=VV (h+1) R s:=HY h R (by omega)
theorem I1 {i h:Nat} (hi:i<=h) (R s:Nat):VV i R s<=VV h R s:=by
 induction h with
 | zero=>rw[Nat.le_zero.1 hi];exact Nat.le_refl _
 | succ h f=>
  rcases Nat.lt_or_ge i (h+1) with c | c
  ·exact Nat.le_trans (f (by omega)) (Tc h R s)
  rw[show i=h+1 by omega];exact Nat.le_refl _
def pre (u:List (List Rat)) (i:Nat):List (List Rat):=u.drop (u.length-i)
theorem GJ {u:List (List Rat)} {i:Nat} (h:i<=u.length):(pre u i).length=i:=by rw[pre,List.length_drop];omega
theorem FI {u:List (List Rat)} {i:Nat}:(tw u).take i=tw (pre u i):=by
 rw[tw,tw,pre,<-List.map_take,List.reverse_drop]
 by_cases h:i<=u.length
 ·rw[show u.length-(u.length-i)=i by omega]
 rw[show u.length-i=0 by omega,Nat.sub_zero,List.take_of_length_le (by rw[List.length_reverse];omega),List.take_of_length_le (by rw[List.length_reverse];omega)]
theorem Og (u:List (List Rat)):pre u u.length=u:=by rw[pre,Nat.sub_self,List.drop_zero]
theorem Ig {u:List (List Rat)} {i:Nat} (h:i<u.length):∃r,pre u (i+1)=r::pre u i/\(tw u)[i]? =some (Aa r):=by
 refine⟨u[u.length-(i+1)]'(by omega),?_,?_⟩
 ·rw[pre,pre,List.drop_eq_getElem_cons (by omega),show u.length-(i+1)+1=u.length-i by omega]
 rw[tw,List.getElem?_map,List.getElem?_reverse h,show u.length-1-i=u.length-(i+1) by omega,List.getElem?_eq_getElem (by omega)];rfl
theorem Yt:∀{u:List (List Rat)} (n:Nat),AT u->AT (u.drop n)
 |u,0,h|[],_+1,h=>h
 | _::u,n+1,h=>Yt n h.1
theorem Ae.pre {R:Nat} {u:List (List Rat)} (h:Ae R u) (i:Nat):Ae R (pre u i):=
 ⟨Yt _ h.red,fun r c=>h.tb r (List.mem_of_mem_drop c),h.hR,by have:=h.ht;rw[Go.Abs.pre,List.length_drop];omega⟩
def QQ:Nat->Nat->Nat->Nat
 | 0,_,s=>s
 | h+1,R,s=>max (QQ h R (3*s+3*EE h R+R+GG h R+3+II h R R)) (s+II h R (2*(3*s+3*EE h R+R+GG h R+3+II h R R+GG h R)+1)+EE h R)
theorem Iy:∀(h R:Nat) {s t:Nat},s<=t->II h R s<=II h R t
 | 0,_,_,_,h=>by rw[II,II];omega
 | h+1,R,s,t,hs=>by
  have:=Iy h R (s:=2*s+2*EE h R+R+1) (t:=2*t+2*EE h R+R+1) (by omega);rw[II,II];omega
theorem M1:∀(h R:Nat) {s t:Nat},s<=t->QQ h R s<=QQ h R t
 | 0,_,_,_,h=>h
 | h+1,R,s,t,hs=>by
  have c:=M1 h R (s:=3*s+3*EE h R+R+GG h R+3+II h R R) (t:=3*t+3*EE h R+R+GG h R+3+II h R R) (by omega);have f:=Iy h R (s:=2*(3*s+3*EE h R+R+GG h R+3+II h R R+GG h R)+1) (t:=2*(3*t+3*EE h R+R+GG h R+3+II h R R+GG h R)+1) (by omega);rw[QQ,QQ];omega
theorem HW:∀(h R s:Nat),s<=QQ h R s
 | 0,_,_=>Nat.le_refl _
 | h+1,R,s=>by have:=HW h R (3*s+3*EE h R+R+GG h R+3+II h R R);rw[QQ];omega
theorem bZ (h R s:Nat):QQ h R s<=QQ (h+1) R s:=by
 have:=M1 h R (s:=s) (t:=3*s+3*EE h R+R+GG h R+3+II h R R) (by omega);rw[QQ];omega
theorem TS {i h:Nat} (hi:i<=h) (R s:Nat):QQ i R s<=QQ h R s:=by
 induction h with
 | zero=>rw[Nat.le_zero.1 hi];exact Nat.le_refl _
 | succ h f=>
  rcases Nat.lt_or_ge i (h+1) with c | c
  ·exact Nat.le_trans (f (by omega)) (bZ h R s)
  rw[show i=h+1 by omega];exact Nat.le_refl _
structure Fit (h R s:Nat):Prop where
 q:QQ h R s<=60000000000000
 v:VV h R (s+GG h R)<=60000000000000
 qR:QQ h R R<=60000000000000
 vR:VV h R R<=60000000000000
theorem Fit.v0 {h R s:Nat} (f:Fit h R s):VV h R s<=60000000000000:=Nat.le_trans (HY h R (by omega)) f.v
theorem Fit.s {h R s:Nat} (f:Fit h R s):s<=60000000000000:=Nat.le_trans (HW h R s) f.q
theorem Fit.mono {h R s t:Nat} (f:Fit h R s) (ht:t<=s):Fit h R t:=⟨Nat.le_trans (M1 h R ht) f.q,Nat.le_trans (HY h R (by omega)) f.v,f.qR,f.vR⟩
end Go.Abs
namespace Go.Abs
def BO (u w:List (List Rat)):Prop:=∀x,In u x->In w x
theorem BO.refl (u:List (List Rat)):BO u u:=fun _ h=>h
theorem BO.trans {u v w:List (List Rat)} (h:BO u v) (k:BO v w):BO u w:=fun x c=>k x (h x c)
theorem Nw:∀(v:List (List Rat)) {u:List (List Rat)},BO u (v++u)
 | [],u=>BO.refl u
 | _::v,_=>fun x c=>Hn (Nw v x c)
theorem Nx {u w:List (List Rat)} (h:u<:+w):BO u w:=by
 obtain⟨v,rfl⟩:=h;exact Nw v
theorem BO.tail {u w:List (List Rat)} {r:List Rat} (h:BO (r::u) w):BO u w:=fun x c=>h x (Hn c)
theorem BO.root {u w:List (List Rat)} {r:List Rat} (h:BO (r::u) w):In w (rt u r):=h _ (JE u r)
theorem KF {u w:List (List Rat)} {r:List Rat} (hw:AT w) (h:BO u w) (g:In w (rt u r)):BO (r::u) w:=fun x j=>by
 obtain⟨p,q,c,f,rfl⟩:=CW.1 j;exact C0 (h p c) (Ak hw (h q f) g)
theorem KG (w:List (List Rat)):BO [] w:=fun x c=>by
 obtain⟨q,rfl⟩:=CN.1 c;exact EK q w
noncomputable def Ar (u:List (List Rat)) (v:Re):List (List Rat):=by
 classical
 exact if Sq u v then u else co u v::u
theorem Ec {u:List (List Rat)} {v:Re} (h:Sq u v):Ar u v=u:=by unfold Ar;rw[if_pos h]
theorem Dq {u:List (List Rat)} {v:Re} (h:¬Sq u v):Ar u v=co u v::u:=by unfold Ar;rw[if_neg h]
theorem NP (u:List (List Rat)) (v:Re):u<:+Ar u v:=by
 by_cases h:Sq u v
 ·rw[Ec h];exact List.suffix_refl u
 rw[Dq h];exact List.suffix_cons _ _
theorem MM {u:List (List Rat)} {v:Re} (h:AT u) (c:In u v) (f:0<v) (g:¬Sq u v):AT (co u v::u):=
 ⟨h,CU c,by rw[Dr c];exact f,by rw[Dr c];exact g⟩
theorem SB {u:List (List Rat)} {v:Re} (h:AT u) (f:In u v) (c:0<v):AT (Ar u v):=by
 by_cases hs:Sq u v
 ·rw[Ec hs];exact h
 rw[Dq hs];exact MM h f c hs
theorem Ip {u:List (List Rat)} {v:Re} (c:In u v):rt u (co u v)=Re.sqrt v:=by rw[rt,Dr c]
theorem JU {u:List (List Rat)} {v:Re} (c:0<=v):Sq u v↔In u (Re.sqrt v):=by
 constructor
 ·rintro⟨w,hw,e⟩
  have hs:=Re.DS c;have f:=Re.Ev v
  by_cases h:0<=w
  ·rw[<-Re.Hv h f (by rw[e,hs])];exact hw
  rw[<-Re.Hv (x:= -w) (by grind) f (by rw[hs,<-e];grind)];exact Gf hw
 intro h;exact⟨_,h,Re.DS c⟩
theorem LM {u:List (List Rat)} {v:Re} (f:In u v) (c:0<=v):In (Ar u v) (Re.sqrt v):=by
 by_cases hs:Sq u v
 ·rw[Ec hs];exact (JU c).1 hs
 rw[Dq hs,<-Ip f];exact JE u _
noncomputable def ext (t:List (List Rat)):List (List Rat)->List (List Rat)
 | []=>t
 | r::u=>Ar (ext t u) (AM u r)
theorem Ql (t:List (List Rat)):∀u,t<:+ext t u
 | []=>List.suffix_refl t
 | r::u=>List.IsSuffix.trans (Ql t u) (NP _ _)
theorem JR {t:List (List Rat)} (ht:AT t):∀{u:List (List Rat)},AT u->AT (ext t u)/\BO u (ext t u)
 | [],_=>⟨ht,KG _⟩
 | r::u,hu=>by
  obtain⟨h,c⟩:=JR ht hu.1;have f:=c _ (CO hu);have g:=hu.2.2.1;have h3:=SB h f g;exact⟨h3,KF h3 (c.trans (Nx (NP _ _))) (LM f (by grind))⟩
open Classical in
noncomputable def DO (t u:List (List Rat)):List (List Rat):=if u<:+t then t else if t<:+u then u else ext t u
theorem lP {t u:List (List Rat)} (ht:AT t) (hu:AT u):AT (DO t u)/\BO t (DO t u)/\BO u (DO t u):=by
 unfold DO
 split
 ·rename_i h;exact⟨ht,BO.refl t,Nx h⟩
 split
 ·rename_i h;exact⟨hu,Nx h,BO.refl u⟩
 obtain⟨c,f⟩:=JR ht hu;exact⟨c,Nx (Ql t u),f⟩
theorem join_self (t:List (List Rat)):DO t t=t:=by unfold DO;rw[if_pos (List.suffix_refl t)]
theorem V3:∀(v:List (List Rat)) {u:List (List Rat)} {x:Re},AT (v++u)->In u x->em (v++u) x=em u x++List.replicate (2^(v++u).length-2^u.length) (rp 0)
 | [],u,x,h,c=>by simp
 | r::v,u,x,h,c=>by
  have f:=Nw v x c;have B:=V3 v h.1 c;have j:2^u.length<=2^(v++u).length:=CP (by simp);have e:em (r::v++u) x=em (v++u) x++em (v++u) 0:=En h f (Bx _) (by grind);have A:em (v++u) 0=Aa (List.replicate (2^(v++u).length) 0):=Qc h.1;rw[e,B,A,Aa,List.map_replicate,List.append_assoc,List.replicate_append_replicate];have o:2^(r::v++u).length=2^(v++u).length+2^(v++u).length:=Bk r (v++u);have g:∀a b:Nat,b<=a->a-b+a=a+a-b:=fun a b h=>by omega
  rw[o,<-g _ _ j]
theorem V7 {u w:List (List Rat)} {x:Re} (h:u<:+w) (hw:AT w) (c:In u x):em w x=em u x++List.replicate (2^w.length-2^u.length) (rp 0):=by
 obtain⟨v,rfl⟩:=h;exact V3 v hw c
theorem Il {u w:List (List Rat)} (h:u<:+w) (hw:AT w):AT u:=by
 obtain⟨v,rfl⟩:=h
 induction v with
 | nil=>exact hw
 | cons r v c=>exact c hw.1
structure Gam (T:List (List Rat)->Prop) (R C S:Nat):Prop where
 Ag:∀{u},T u->Ae R u
 ht:∀{u},T u->u.length<=8
 nil:T []
 sub:∀{r u},T (r::u)->T u
 Ar:∀{t r u},T t->T (r::u)->BO u t->T (Ar t (AM u r))
 Bi:∀{u w s x},T u->T w->BO u w->El u s x->El w (s+C) x
 fit:∀{u},T u->Fit u.length R (S+C)
 mul:∀{u},T u->2*(S+C)+EE u.length R<=60000000000000
 RS:R<=S
section
variable {T:List (List Rat)->Prop} {R C S:Nat}
theorem Gam.Kt (G:Gam T R C S) {u w:List (List Rat)} (h:u<:+w) (hw:T w):T u:=by
 obtain⟨v,rfl⟩:=h
 induction v with
 | nil=>exact hw
 | cons r v c=>exact c (G.sub hw)
theorem Gam.ext (G:Gam T R C S) {t:List (List Rat)} (ht:T t):∀{u:List (List Rat)},T u->T (ext t u)
 | [],_=>ht
 | r::u,hu=>G.Ar (G.ext ht (G.sub hu)) hu (JR (G.Ag ht).red (G.Ag (G.sub hu)).red).2
theorem Gam.join (G:Gam T R C S) {t u:List (List Rat)} (ht:T t) (hu:T u):T (DO t u):=by
 unfold DO
 split
 ·exact ht
 split
 ·exact hu
 exact G.ext ht hu
end
theorem JD {u:List (List Rat)} {r:List Rat} (h:AT (r::u)):El (r::u) 0 (rt u r):=by
 have c:El u 0 0:=El.rat h.1 Hf;have f:El u 0 1:=El.rat h.1 fD;have:=fC h c.mem f.mem c.bd f.bd;rw[show (0:Re)+1*rt u r=rt u r by grind] at this;exact⟨JE u r,this⟩
end Go.Abs
namespace Go.Abs
theorem H0:∀{h h' R R':Nat},h<=h'->R<=R'->EE h R<=EE h' R'
 | 0,h',R,R',_,_=>Nat.zero_le _
 | h+1,0,R,R',c,_=>absurd c (by omega)
 | h+1,h'+1,R,R',c,hR=>by
  have:=H0 (h:=h) (h':=h') (by omega) hR;rw[EE,EE];omega
theorem Mw:∀{h h' R R' s s':Nat},h<=h'->R<=R'->s<=s'->II h R s<=II h' R' s'
 | 0,0,R,R',s,s',_,_,hs=>by rw[II,II];omega
 | 0,h'+1,R,R',s,s',_,_,hs=>by
  have:=ET h' R' (2*s'+2*EE h' R'+R'+1);rw[II,II];omega
 | h+1,0,R,R',s,s',c,_,_=>absurd c (by omega)
 | h+1,h'+1,R,R',s,s',c,hR,hs=>by
  have f:=H0 (h:=h) (h':=h') (by omega) hR;have g:=Mw (h:=h) (h':=h') (s:=2*s+2*EE h R+R+1) (s':=2*s'+2*EE h' R'+R'+1) (by omega) hR (by omega);rw[II,II];omega
theorem PR:∀{h h' R R':Nat},h<=h'->R<=R'->GG h R<=GG h' R'
 | 0,h',R,R',_,_=>by rw[GG];exact Nat.zero_le _
 | h+1,0,R,R',c,_=>absurd c (by omega)
 | h+1,h'+1,R,R',c,hR=>by
  have f:=H0 (h:=h) (h':=h') (by omega) hR;have g:=PR (h:=h) (h':=h') (by omega) hR;have h3:=Mw (h:=h) (h':=h') (s:=R) (s':=R') (by omega) hR hR;rw[GG,GG];omega
def CC:Nat->Nat->Nat->Nat->Nat
 | 0,_,_,_=>0
 | k+1,R0,h,R=>2*CC k R0 h R+R0+GG h R+EE h R+1
theorem Jd:∀{k k' R0 H4 h h' R R':Nat},k<=k'->R0<=H4->h<=h'->R<=R'->CC k R0 h R<=CC k' H4 h' R'
 | 0,k',_,_,_,_,_,_,_,_,_,_=>by rw[CC];exact Nat.zero_le _
 | k+1,0,_,_,_,_,_,_,f,_,_,_=>absurd f (by omega)
 | k+1,k'+1,R0,H4,h,h',R,R',f,g,c,hR=>by
  have j:=Jd (k:=k) (k':=k') (by omega) g c hR;have o:=H0 c hR;have h3:=PR c hR;rw[CC,CC];omega
theorem gM {D:Nat} {q:Rat} {n:Nat} (h:DN D [q]):DN D (q::List.replicate n 0):=fun z c=>by
 rcases List.mem_cons.1 c with rfl | c
 ·exact h _ List.mem_cons_self
 rw[List.eq_of_mem_replicate c];exact⟨0,by simp⟩
theorem jf {B:Nat} {q:Rat} {n:Nat} (h:MX B [q]):MX B (q::List.replicate n 0):=fun z c=>by
 rcases List.mem_cons.1 c with rfl | c
 ·exact h _ List.mem_cons_self
 rw[List.eq_of_mem_replicate c];have:(0:Rat)<=B:=Rat.natCast_nonneg
 constructor <;> grind
theorem Uh {w:List (List Rat)} {R:Nat} (hw:AT w) (A:TB R w):∀{u:List (List Rat)} {R0:Nat},AT u->TB R0 u->BO u w->∃K:Nat,0<K/\K<=2^CC u.length R0 w.length R/\
  ∀{x:Re} {D B:Nat},In u x->(DN D (co u x)->DN (D*K) (co w x))/\(MX B (co u x)->MX (B*2^CC u.length R0 w.length R) (co w x))
 | [],R0,_,_,_=>⟨1,by decide,by simp[CC],fun {x D B} X=>by
  obtain⟨q,rfl⟩:=CN.1 X;rw[CQ,Hh q hw,Nat.mul_one];refine⟨gM,fun h=>?_⟩;rw[show B*2^CC ([]:List (List Rat)).length R0 w.length R=B by simp[CC]];exact jf h⟩
 | r::u,R0,h,h0,v=>by
  obtain⟨K,hK,g,hb⟩:=Uh hw A h.1 h0.tail v.tail;obtain⟨E,M,N,hm⟩:=KC hw A;obtain⟨Z,I,J,L,V⟩:=h0.head;have hr:=Cb h;have W:=CO h;have c:=v.root;have b1:=hb (D:=Z) (B:=2^R0) W;rw[Fs h] at b1
  have hv:Bd (R0+CC u.length R0 w.length R) (co w (AM u r)):=by
   refine⟨Z*K,Nat.mul_pos I hK,?_,b1.1 L,?_⟩
   ·rw[Nat.pow_add];exact Nat.mul_le_mul J g
   rw[Nat.pow_add];exact b1.2 V
  obtain⟨F,hF,Q,O,U⟩:=Um hw A c hr hv;refine⟨K*(F*E),Nat.mul_pos hK (Nat.mul_pos hF M),?_,fun {x D B} X=>?_⟩
  ·have h1:=Nat.mul_le_mul g (Nat.mul_le_mul Q N);simp only[<-Nat.pow_add] at h1;exact Nat.le_trans h1 (CP (by rw[List.length_cons,CC];omega))
  obtain⟨p,q,G,H,rfl⟩:=CW.1 X;rw[Cz h G H rfl,DN.app,MX.app];have o:=v.tail _ G;have f:=v.tail _ H;refine⟨fun j=>?_,fun j=>?_⟩
  ·have k1:=(hb (B:=0) G).1 j.1;have k2:=(hb (B:=0) H).1 j.2;have Y:=hm f c k2 O;exact DN.Gy hw o (Ak hw f c) (k1.dvd ⟨F*E,by grind⟩) (Y.dvd ⟨1,by grind⟩)
  have k1:=(hb (D:=0) G).2 j.1;have k2:=(hb (D:=0) H).2 j.2;have Y:=Ho hw A f c k2 U;refine (MX.Gy hw o (Ak hw f c) k1 Y).mono ?_
  have e:B*2^CC u.length R0 w.length R*2^(R0+CC u.length R0 w.length R+GG w.length R)*2^EE w.length R=B*2^(CC u.length R0 w.length R+(R0+CC u.length R0 w.length R+GG w.length R)+EE w.length R):=by
   rw[Nat.mul_assoc,Nat.mul_assoc,<-Nat.pow_add,<-Nat.pow_add];congr 2;omega
  rw[e,<-Nat.mul_add];refine Nat.mul_le_mul_left B ?_;have e2:CC (r::u).length R0 w.length R=CC u.length R0 w.length R+(R0+CC u.length R0 w.length R+GG w.length R)+EE w.length R+1:=by rw[List.length_cons,CC];omega
  have h3:2^CC u.length R0 w.length R<=2^(CC u.length R0 w.length R+(R0+CC u.length R0 w.length R+GG w.length R)+EE w.length R):=CP;rw[e2,Nat.pow_succ];omega
theorem El.Bi {w u:List (List Rat)} {R R0 s:Nat} {x:Re} (hw:AT w) (A:TB R w) (hu:AT u) (h:TB R0 u) (g:BO u w) (c:El u s x):El w (s+CC u.length R0 w.length R) x:=by
 obtain⟨K,v,f,hb⟩:=Uh hw A hu h g;obtain⟨D,j,o,h3,r⟩:=c.bd;refine⟨g _ c.mem,D*K,Nat.mul_pos j v,?_,(hb (B:=0) c.mem).1 h3,?_⟩
 ·rw[Nat.pow_add];exact Nat.mul_le_mul o f
 rw[Nat.pow_add];exact (hb (D:=0) c.mem).2 r
inductive Tf (P:List (List Rat)->Prop):List (List Rat)->Prop
 | nil:Tf P []
 | Ar {u:List (List Rat)} {r0:List Rat} {u0:List (List Rat)}:Tf P u->P (r0::u0)->BO u0 u->Tf P (Ar u (AM u0 r0))
structure DU (P:List (List Rat)->Prop) (R0:Nat):Prop where
 red:∀{u},P u->AT u
 tb:∀{u},P u->TB R0 u
 sub:∀{r u},P (r::u)->P u
section
variable {P:List (List Rat)->Prop} {R0:Nat}
theorem Tf.red (I:DU P R0) {u:List (List Rat)} (h:Tf P u):AT u:=by
 induction h with
 | nil=>trivial
 | Ar _ c f g=>exact SB g (f _ (CO (I.red c))) (I.red c).2.2.1
theorem eH {u:List (List Rat)} {r:List Rat} (h:AT (r::u)):Ar u (AM u r)=r::u:=by rw[Dq h.2.2.2,Fs h]
theorem Tf.of (I:DU P R0):∀{u:List (List Rat)},P u->Tf P u
 | [],_=> .nil
 | r::u,h=>by
  have:=Tf.Ar (Tf.of I (I.sub h)) h (BO.refl u);rwa [eH (I.red h)] at this
theorem Tf.gen (I:DU P R0) {w:List (List Rat)} (h:Tf P w):∀{r:List Rat} {u:List (List Rat)},w=r::u->Tf P u/\∃r0 c,P (r0::c)/\AM c r0=AM u r/\BO c u:=by
 induction h with
 | nil=>intro r u e;cases e
 | @Ar o r0 c ht g f j=>
  intro r u e
  by_cases hs:Sq o (AM c r0)
  ·rw[Ec hs] at e;exact j e
  rw[Dq hs] at e;obtain⟨rfl,rfl⟩:=List.cons.inj e;exact⟨ht,r0,c,g,(Dr (f _ (CO (I.red g)))).symm,f⟩
theorem Tf.sub (I:DU P R0) {r:List Rat} {u:List (List Rat)} (h:Tf P (r::u)):Tf P u:=(h.gen I rfl).1
theorem Tf.Py (I:DU P R0) {t u:List (List Rat)} {r:List Rat} (ht:Tf P t) (h:Tf P (r::u)) (f:BO u t):Tf P (Go.Abs.Ar t (AM u r)):=by
 obtain⟨_,r0,j,g,e,c⟩:=h.gen I rfl;rw[<-e];exact .Ar ht g (c.trans f)
theorem SC:∀{u:List (List Rat)},AT u->BO u []->u=[]
 | [],_,_=>rfl
 | r::u,h,c=>by
  have hu:=SC h.1 c.tail;subst hu;exact absurd ⟨_,c.root,Cb h⟩ h.2.2.2
theorem Yu {r q:List Rat} {s:List Rat} (h:AT [q,r]) (hs:AT [s]) (D:BO [q,r] [s]):False:=by
 have v:=h.1;obtain⟨a,b,ha,hb,e⟩:=CW.1 D.tail.root;have G:=Cb v;have A:=Cb hs;have g:AT ([]:List (List Rat)):=trivial
 by_cases u:b=0
 ·exact v.2.2.2 ⟨a,ha,by rw[<-G,e,u];grind⟩
 obtain⟨d,F,I⟩:=Eg g hb u
 by_cases o:a=0
 ·have j:In [r] (rt [] s):=by
   have:rt [] s=d*rt [] r:=by rw[e,o];grind
   rw[this];exact Ak v (Hn F) (JE [] r)
  have B:BO [s] [r]:=KF v (KG _) j;exact h.2.2.2 ⟨_,B _ D.root,Cb h⟩
 obtain⟨c,J,H⟩:=Eg g ha o
 have L:Re.ofRat (1/2)*(1+1)=1:=by
  rw[show (1:Re)=Re.ofRat 1 from rfl,<-Re.ofRat_add,<-Re.ofRat_mul,show (1/2:Rat)*(1+1)=1 by decide +kernel]
 have K:=CO v;have hw:=CO hs
 have key:rt [] s=(AM [] r-a*a-b*b*AM [] s)*(c*d*Re.ofRat (1/2)):=by
  rw[<-G,<-A,e];generalize rt [] s=t at *;generalize Re.ofRat (1/2)=f at *;grind
 have j:In [] (rt [] s):=by
  rw[key];exact Ak g (Ep (Ep K (Ak g ha ha)) (Ak g (Ak g hb hb) hw)) (Ak g (Ak g J F) (EK _ []))
 exact hs.2.2.2 ⟨_,j,A⟩
def RR (R0:Nat):Nat->Nat
 | 0=>R0
 | h+1=>max (RR R0 h) (R0+CC (min h 2) R0 h (RR R0 h))
theorem TU {R0 h h':Nat} (c:h<=h'):RR R0 h<=RR R0 h':=by
 induction c with
 | refl=>exact Nat.le_refl _
 | step _ f=>exact Nat.le_trans f (Nat.le_max_left _ _)
theorem TB.mono {R R':Nat} {u:List (List Rat)} (h:TB R u) (hR:R<=R'):TB R' u:=fun r c=>(h r c).mono hR
theorem Tf.tb (I:DU P R0) (hm:∀{u},Tf P u->u.length<=3) {u:List (List Rat)} (h:Tf P u):TB (RR R0 u.length) u:=by
 induction h with
 | nil=>intro r j;simp at j
 | @Ar u r0 f ht g o B=>
  by_cases hs:Sq u (AM f r0)
  ·rw[Ec hs];exact B
  have D:=hm (Tf.Ar ht g o);have A:=hm (Tf.of I g);rw[Dq hs] at D ⊢;rw[List.length_cons] at D A;intro r j;rcases List.mem_cons.1 j with rfl | j
  ·have c:=I.red g;have v:El f R0 (AM f r0):=⟨CO c,by rw[Fs c];exact (I.tb g).head⟩;have:=(v.Bi (ht.red I) B c.1 (I.tb g).tail o).bd;refine this.mono ?_;rw[List.length_cons,RR]
   have G:f.length<=min u.length 2:=by
    have F:f.length<=2:=by omega
    cases u with
    | nil=>rw[SC c.1 o];exact Nat.zero_le _
    | cons s H=>
     cases H with
     | nil=>
      cases f with
      | nil=>exact Nat.zero_le _
      | cons q J=>
       cases J with
       | nil=>exact Nat.le_refl 1
       | cons r K=>
        have:K=[]:=List.eq_nil_of_length_eq_zero (by simp only[List.length_cons] at F;omega);subst this;exact (Yu c.1 (ht.red I) o).elim
     | cons _ _=>simp only[List.length_cons];omega
   have:=Jd (k:=f.length) (k':=min u.length 2) (R0:=R0) (H4:=R0) (h:=u.length) (h':=u.length) (R:=RR R0 u.length) (R':=RR R0 u.length) G (Nat.le_refl _) (Nat.le_refl _) (Nat.le_refl _);omega
  exact (B r j).mono (TU (by rw[List.length_cons];omega))
theorem Tf.KK (I:DU P R0) (hm:∀{u},Tf P u->u.length<=3) {R C S:Nat} (hR:RR R0 3<=R) (g:R<=S) (v:CC 3 R 3 R<=C) (j:∀h,h<=3->Fit h R (S+C)) (A:2*(S+C)+EE 3 R<=60000000000000):Gam (Tf P) R C S:=by
 have c:∀{u},Tf P u->TB R u:=fun {u} h=>(h.tb I hm).mono (Nat.le_trans (TU (hm h)) hR)
 refine⟨fun {u} h=>⟨h.red I,c h,by omega,by have:=hm h;omega⟩,fun {u} h=>by have:=hm h;omega,.nil,fun {r u} h=>h.sub I,fun {t r u} ht h f=>ht.Py I h f,fun {u w s x} hu hw f o=>?_,fun {u} h=>j _ (hm h),fun {u} h=>?_,g⟩
 ·refine (o.Bi (hw.red I) (c hw) (hu.red I) (c hu) f).mono ?_;have:=Jd (k:=u.length) (k':=3) (R0:=R) (H4:=R) (h:=w.length) (h':=3) (R:=R) (R':=R) (hm hu) (Nat.le_refl _) (hm hw) (Nat.le_refl _);omega
 have:=H0 (h:=u.length) (h':=3) (R:=R) (R':=R) (hm h) (Nat.le_refl _);omega
def Aq:List (List Rat)->List Re
 | []=>[]
 | r::u=>AM u r::Aq u
theorem Iu:∀u:List (List Rat),(Aq u).length=u.length
 | []=>rfl
 | r::u=>by rw[Aq,List.length_cons,List.length_cons,Iu u]
theorem JW:∀{u:List (List Rat)} {v:Re},v∈Aq u->In u (Re.sqrt v)
 | [],v,h=>by simp[Aq] at h
 | r::u,v,h=>by
  rcases List.mem_cons.1 h with rfl | h
  ·exact JE u r
  exact Hn (JW h)
theorem Hw:∀{u:List (List Rat)},AT u->(Aq u).Nodup
 | [],_=>List.nodup_nil
 | r::u,h=>by
  rw[Aq,List.nodup_cons];refine⟨fun hm=>h.2.2.2 ⟨_,JW hm,Re.DS (by have:=h.2.2.1;grind)⟩,Hw h.1⟩
theorem Tf.Aq (I:DU P R0) {V:List Re} (hV:∀{u},P u->∀v∈Aq u,v∈V) {u:List (List Rat)} (h:Tf P u):∀v∈Go.Abs.Aq u,v∈V:=by
 induction h with
 | nil=>intro v c;simp[Go.Abs.Aq] at c
 | @Ar u r0 o ht f j g=>
  by_cases hs:Sq u (AM o r0)
  ·rw[Ec hs];exact g
  rw[Dq hs];intro v c;rcases List.mem_cons.1 c with rfl | c
  ·rw[Dr (j _ (CO (I.red f)))];exact hV f _ List.mem_cons_self
  exact g v c
theorem IW {α:Type}:∀{l m:List α},l.Nodup->(∀x∈l,x∈m)->l.length<=m.length
 | [],_,_,_=>Nat.zero_le _
 | x::l,m,h,hm=>by
  rw[List.nodup_cons] at h;obtain⟨a,b,rfl⟩:=List.append_of_mem (hm x List.mem_cons_self)
  have:=IW (l:=l) (m:=a++b) h.2 (fun y f=>by
   have g:=hm y (List.mem_cons_of_mem _ f);rcases List.mem_append.1 g with c | c
   ·exact List.mem_append_left _ c
   rcases List.mem_cons.1 c with rfl | c
   ·exact absurd f h.1
   exact List.mem_append_right _ c)
  rw[List.length_cons,List.length_append,List.length_cons];rw[List.length_append] at this;omega
theorem Tf.len (I:DU P R0) {V:List Re} (hV:∀{u},P u->∀v∈Go.Abs.Aq u,v∈V) {u:List (List Rat)} (h:Tf P u):u.length<=V.length:=by
 rw[<-Iu];exact IW (Hw (h.red I)) (h.Aq I hV)
end
end Go.Abs
namespace Go.Abs
def FC (k i:Nat):Bool:=k/2^i%2==1
def Bp (i:Nat):Nat->List Rat->Bool
 | _,[]=>false
 | k,q::l=>(FC k i&&q !=0)||Bp i (k+1) l
def BR (i:Nat):Nat->List Rat->List Rat
 | _,[]=>[]
 | k,q::l=>if FC k i=true then BR i (k+1) l else q::BR i (k+1) l
variable {w:List (List Rat)} {x:Re}
theorem Rk (i:Nat):∀(k:Nat) (a b:List Rat),Bp i k (a++b)=(Bp i k a||Bp i (k+a.length) b)
 | k,[],b=>by simp[Bp]
 | k,q::a,b=>by
  rw[List.cons_append,Bp,Bp,Rk i (k+1) a b,List.length_cons,Bool.or_assoc,show k+1+a.length=k+(a.length+1) by omega]
theorem PF (i:Nat):∀(k:Nat) (a b:List Rat),BR i k (a++b)=BR i k a++BR i (k+a.length) b
 | k,[],b=>by simp[BR]
 | k,q::a,b=>by
  rw[List.cons_append,BR,BR,PF i (k+1) a b,List.length_cons,show k+1+a.length=k+(a.length+1) by omega]
  split <;> simp
theorem Us (k i c:Nat):FC (k+2^(i+1)*c) i=FC k i:=by
 unfold FC;rw[Nat.pow_succ,Nat.mul_assoc,Nat.add_mul_div_left _ _ (Nat.two_pow_pos i),Nat.add_mul_mod_self_left]
theorem YA (i c:Nat):∀(k:Nat) (l:List Rat),Bp i (k+2^(i+1)*c) l=Bp i k l
 | _,[]=>rfl
 | k,q::l=>by
  rw[Bp,Bp,Us,show k+2^(i+1)*c+1=k+1+2^(i+1)*c by omega,YA i c (k+1) l]
theorem ak (i c:Nat):∀(k:Nat) (l:List Rat),BR i (k+2^(i+1)*c) l=BR i k l
 | _,[]=>rfl
 | k,q::l=>by
  rw[BR,BR,Us,show k+2^(i+1)*c+1=k+1+2^(i+1)*c by omega,ak i c (k+1) l]
theorem fL {k i:Nat} (h:k<2^i):FC k i=false:=by unfold FC;rw[Nat.div_eq_of_lt h];rfl
theorem Ur {k i:Nat} (h:2^i<=k) (c:k<2^i+2^i):FC k i=true:=by
 unfold FC
 have:k/2^i=1:=by
  rw[Nat.div_eq_iff (Nat.two_pow_pos i)];omega
 rw[this];rfl
theorem aj (i:Nat):∀(k:Nat) (l:List Rat),k+l.length<=2^i->BR i k l=l
 | _,[],_=>rfl
 | k,q::l,h=>by
  rw[List.length_cons] at h;rw[BR,fL (by omega),aj i (k+1) l (by omega)];rfl
theorem ah (i:Nat):∀(k:Nat) (l:List Rat),2^i<=k->k+l.length<=2^i+2^i->BR i k l=[]
 | _,[],_,_=>rfl
 | k,q::l,h,c=>by
  rw[List.length_cons] at c;rw[BR,Ur h (by omega),ah i (k+1) l (by omega) (by omega)];rfl
theorem X9 (i:Nat):∀(k:Nat) (l:List Rat),2^i<=k->k+l.length<=2^i+2^i->Bp i k l=false->∀q∈l,q=0
 | _,[],_,_,_=>by simp
 | k,q::l,h,f,h3=>by
  rw[List.length_cons] at f;rw[Bp,Ur h (by omega)] at h3;simp only[Bool.true_and,Bool.or_eq_false_iff,bne_eq_false_iff_eq] at h3;intro x c;rcases List.mem_cons.1 c with rfl | c
  ·exact h3.1
  exact X9 i (k+1) l (by omega) (by omega) h3.2 x c
theorem PG (i:Nat):∀(k:Nat) (l:List Rat),∀q∈BR i k l,q∈l
 | _,[],q,h=>h
 | k,x::l,q,h=>by
  rw[BR] at h
  split at h
  ·exact List.mem_cons_of_mem _ (PG i (k+1) l q h)
  rcases List.mem_cons.1 h with rfl | h
  ·exact List.mem_cons_self
  exact List.mem_cons_of_mem _ (PG i (k+1) l q h)
theorem Vt {r:List Rat} {u:List (List Rat)}:∀{v:List (List Rat)},AT (v++r::u)->(∀s∈v,Bp u.length 0 s=false)->
  AT (v.map (BR u.length 0)++u)/\BO (v.map (BR u.length 0)++u) (v++r::u)/\(∀x∈Aq (v.map (BR u.length 0)++u),x∈Aq (v++r::u))/\
  ∀{x:Re},In (v++r::u) x->Bp u.length 0 (co (v++r::u) x)=false->In (v.map (BR u.length 0)++u) x/\co (v.map (BR u.length 0)++u) x=BR u.length 0 (co (v++r::u) x)
 | [],h,_=>by
  refine⟨h.1,fun x c=>Hn c,fun x c=>List.mem_cons_of_mem _ c,fun {x} c D=>?_⟩;obtain⟨p,q,A,B,rfl⟩:=CW.1 c;have e:=Cz h A B rfl;have lp:=CU A;have Q:=CU B;simp only[List.nil_append,List.map_nil] at*;rw[e,Rk,lp,Nat.zero_add,Bool.or_eq_false_iff] at D;have G:q=0:=(Lf h.1 B).1 (X9 _ _ _ (Nat.le_refl _) (by omega) D.2);subst G;have ex:p+0*rt u r=p:=by grind
  rw[e,PF,lp,Nat.zero_add,aj _ _ _ (by omega),ah _ _ _ (Nat.le_refl _) (by omega),List.append_nil,ex];exact⟨A,rfl⟩
 | s::v,h,D=>by
  have h:AT (s::(v++r::u)):=h;obtain⟨M,J,h3,F⟩:=Vt (v:=v) h.1 (fun t ht=>D t (List.mem_cons_of_mem _ ht));have H:=D s List.mem_cons_self;have I:In (v++r::u) (AM (v++r::u) s):=CO h
  show AT (BR u.length 0 s::(v.map (BR u.length 0)++u))/\BO (BR u.length 0 s::(v.map (BR u.length 0)++u)) (s::(v++r::u))/\(∀x∈Aq (BR u.length 0 s::(v.map (BR u.length 0)++u)),x∈Aq (s::(v++r::u)))/\
   ∀{x:Re},In (s::(v++r::u)) x->Bp u.length 0 (co (s::(v++r::u)) x)=false->In (BR u.length 0 s::(v.map (BR u.length 0)++u)) x/\co (BR u.length 0 s::(v.map (BR u.length 0)++u)) x=BR u.length 0 (co (s::(v++r::u)) x)
  have cs:co (v++r::u) (AM (v++r::u) s)=s:=Fs h;obtain⟨k1,k2⟩:=F I (by rw[cs];exact H);rw[cs] at k2;have f:AM (v.map (BR u.length 0)++u) (BR u.length 0 s)=AM (v++r::u) s:=by rw[<-k2,Dr k1]
  have j:AT (BR u.length 0 s::(v.map (BR u.length 0)++u)):=by
   refine⟨M,by rw[<-k2];exact CU k1,by rw[f];exact h.2.2.1,?_⟩;rw[f]
   rintro⟨w,hw,e⟩
   exact h.2.2.2 ⟨w,J w hw,e⟩
  have g:rt (v.map (BR u.length 0)++u) (BR u.length 0 s)=rt (v++r::u) s:=by rw[rt,rt,f]
  have hlen:2^(v++r::u).length=2^(u.length+1)*2^v.length:=by rw[<-Nat.pow_add];congr 1;simp;omega
  refine⟨j,KF h (J.trans fun x c=>Hn c) (by rw[g];exact JE _ _),fun x c=>?_,fun {x} c o=>?_⟩
  ·rcases List.mem_cons.1 c with rfl | c
   ·exact List.mem_cons.2 (.inl f)
   exact List.mem_cons_of_mem _ (h3 x c)
  obtain⟨p,q,A,B,rfl⟩:=CW.1 c;have e:=Cz h A B rfl;have lp:=CU A;rw[e,Rk,lp,hlen,YA,Bool.or_eq_false_iff] at o;obtain⟨K,N⟩:=F A o.1;obtain⟨L,O⟩:=F B o.2;rw[<-g];refine⟨CW.2 ⟨p,q,K,L,rfl⟩,?_⟩;rw[g,e,PF,lp,hlen,ak,<-N,<-O,<-g];exact Cz j K L rfl
def Gw (i:Nat) (s:List (List Rat)×List Rat):List (List Rat)×List Rat:=
 if (Bp i 0 s.2||(s.1.drop (i+1)).any (Bp i 0))=true then s else (s.1.take i++(s.1.drop (i+1)).map (BR i 0),BR i 0 s.2)
def EA:Nat->List (List Rat)×List Rat->List (List Rat)×List Rat
 | 0,s=>s
 | i+1,s=>EA i (Gw i s)
structure FT (w:List (List Rat)) (x:Re) (w':List (List Rat)):Prop where
 red:AT w'
 mem:In w' x
 Bi:BO w' w
 Aq:∀v∈Aq w',v∈Aq w
 len:w'.length<=w.length
 E2:∀s∈w',∃t∈w,∀q∈s,q∈t
 cos:∀q∈co w' x,q∈co w x
theorem FT.refl (h:AT w) (c:In w x):FT w x w:=⟨h,c,BO.refl w,fun _ h=>h,Nat.le_refl _,fun s hs=>⟨s,hs,fun _ h=>h⟩,fun _ h=>h⟩
theorem FT.trans {w' c:List (List Rat)} (h:FT w x w') (k:FT w' x c):FT w x c:=
 ⟨k.red,k.mem,k.Bi.trans h.Bi,fun v o=>h.Aq v (k.Aq v o),Nat.le_trans k.len h.len,fun s hs=>by
  obtain⟨t,ht,f⟩:=k.E2 s hs;obtain⟨t2,j,g⟩:=h.E2 t ht;exact⟨t2,j,fun q r=>g q (f q r)⟩,fun q f=>h.cos q (k.cos q f)⟩
theorem Sp {i:Nat} (h:AT w) (j:In w x) (hi:i<w.length):∃w',Gw i (w.reverse,co w x)=(w'.reverse,co w' x)/\FT w x w'/\i<=w'.length:=by
 unfold Gw
 split
 ·exact⟨w,rfl,.refl h j,by omega⟩
 rename_i g
 obtain⟨v,r,u,rfl,rfl⟩:∃v r u,w=v++r::u/\i=u.length:=by
  refine⟨w.take (w.length-1-i),w[w.length-1-i]'(by omega),w.drop (w.length-1-i+1),?_,by rw[List.length_drop];omega⟩;rw[<-List.drop_eq_getElem_cons,List.take_append_drop]
 have c:(v++r::u).reverse=u.reverse++r::v.reverse:=by simp
 have D:(v++r::u).reverse.drop (u.length+1)=v.reverse:=by
  rw[c,show u.reverse++r::v.reverse=(u.reverse++[r])++v.reverse by simp];exact List.drop_left' (by simp)
 have ht:(v++r::u).reverse.take u.length=u.reverse:=by
  rw[c];exact List.take_left' (by simp)
 simp only[D,ht,Bool.not_eq_true,Bool.or_eq_false_iff] at g ⊢
 obtain⟨o,A,h3,B⟩:=Vt h (fun s hs=>by
  have:=List.any_eq_false.1 g.2 s (List.mem_reverse.2 hs);simpa using this)
 obtain⟨k1,k2⟩:=B j g.1;refine⟨v.map (BR u.length 0)++u,?_,⟨o,k1,A,h3,by simp,fun s hs=>?_,fun q f=>?_⟩,by simp⟩
 ·rw[k2,List.reverse_append,List.map_reverse]
 ·rcases List.mem_append.1 hs with hs | hs
  ·obtain⟨t,ht,rfl⟩:=List.mem_map.1 hs;exact⟨t,List.mem_append_left _ ht,fun q f=>PG _ _ _ q f⟩
  exact⟨s,List.mem_append_right _ (List.mem_cons_of_mem _ hs),fun _ h=>h⟩
 rw[k2] at f;exact PG _ _ _ q f
theorem Mm:∀{i:Nat} {w:List (List Rat)} {x:Re},AT w->In w x->i<=w.length->∃w',EA i (w.reverse,co w x)=(w'.reverse,co w' x)/\FT w x w'
 | 0,w,x,h,c,_=>⟨w,rfl,.refl h c⟩
 | i+1,w,x,h,c,hi=>by
  obtain⟨o,f,t1,l1⟩:=Sp h c hi;obtain⟨j,g,t2⟩:=Mm t1.red t1.mem l1;exact⟨j,by rw[EA,f,g],t1.trans t2⟩
end Go.Abs
namespace Go.Abs
open Go.RowKit
variable {a b m n p:Int} {e i:Nat}
theorem Pc.lt {x:UInt8} (_:Pc n x):x.toNat<256:=x.toNat_lt
theorem LC.lt {x:UInt32} (_:LC n x):x.toNat<4294967296:=x.toNat_lt
theorem Al (k:Nat):AO k k:=⟨rfl⟩
theorem AO.of {k:Nat} (h:n=k):AO n k:=⟨h⟩
theorem Aj (h:true=(a==b)):a=b:=by simpa using h.symm
theorem Ah (h:false=(a==b)):a≠b:=by simpa using h.symm
theorem Cp (h:true=(a !=b)):a≠b:=by simpa using h.symm
theorem Co (h:false=(a !=b)):a=b:=by simpa using h.symm
theorem AY (h:true=decide (a<b)):a<b:=by simpa using h.symm
theorem AW (h:false=decide (a<b)):b<=a:=by simpa using h.symm
theorem HI (h:true=decide (a<=b)):a<=b:=by simpa using h.symm
theorem HH (h:false=decide (a<=b)):b<a:=by simpa using h.symm
theorem Br (h:true=decide (a>b)):b<a:=by simpa using h.symm
theorem Bq (h:false=decide (a>b)):a<=b:=by simpa using h.symm
theorem EJ (h:true=decide (a >= b)):b<=a:=by simpa using h.symm
theorem EI (h:false=decide (a >= b)):a<b:=by simpa using h.symm
theorem C4 {a:Bool} (h:true= !a):a=false:=by simpa using h.symm
theorem C3 {a:Bool} (h:false= !a):a=true:=by simpa using h.symm
theorem Uq {a b:Bool} (h:true=(a==b)):a=b:=by simpa using h.symm
theorem Up {a b:Bool} (h:false=(a==b)):a≠b:=by simpa using h.symm
theorem Uu {a b:Bool} (h:true=(a !=b)):a≠b:=by simpa using h.symm
theorem Ut {a b:Bool} (h:false=(a !=b)):a=b:=by simpa using h.symm
theorem wrap_u32 (h:n=IntKind.u32.wrap m):n=m%4294967296:=h
theorem wrap_u64 (h:n=IntKind.u64.wrap m):n=m%18446744073709551616:=h
theorem wrap_i64 (h:n=IntKind.i64.wrap m):n=(m+9223372036854775808)%18446744073709551616-9223372036854775808:=by
 have e:IntKind.i64.wrap m=if (true&&decide (m%18446744073709551616 >= 9223372036854775808))=true then m%18446744073709551616-18446744073709551616 else m%18446744073709551616:=rfl
 rw[h,e]
 split
 ·rename_i c
  simp only[Bool.true_and,decide_eq_true_eq] at c;omega
 rename_i c
 simp only[Bool.true_and,decide_eq_true_eq] at c;omega
theorem D8 (h:n=a.fdiv (2^e)) (c:2^e=p):n=a/p:=by
 rw[h,<-c,Int.fdiv_eq_ediv_of_nonneg _ (by have:=Int.pow_pos (n:=2) (m:=e) (by decide);omega)]
theorem JT (h:n=IntKind.u64.wrap (a*2^e)) (c:2^e=p):n=(a*p)%18446744073709551616:=by rw[<-c];exact h
theorem AK {α:Type} {l:List α} (h:i<l.length):∃x,l[i]? =some x:=⟨l[i],by simp[h]⟩
theorem B7 (h:0<=n/\n<4294967296):∃w:UInt32,LC n w:=⟨UInt32.ofNat n.toNat,⟨by rw[UInt32.toNat_ofNat'];omega⟩⟩
theorem B5 {w:UInt32} (h:LC n w):Ao BA [.int .u32 n] (cells .u32 w):=by
 refine⟨?_,trivial⟩
 show AC.int .u32 _=AC.int .u32 n
 rw[h.eq]
theorem FY {α:Type} {l:List α} {x:α} (h:l[i]? =some x):i<l.length:=by
 apply Classical.byContradiction;intro c;rw[List.getElem?_eq_none (by omega)] at h;exact absurd h (by simp)
theorem Cg {α:Type} {l:List α} {x:α} (h:l[i]? =some x):l.take (i+1)=l.take i++[x]:=by
 have hi:=FY h;rw[List.take_succ_eq_append_getElem hi];rw[List.getElem?_eq_getElem hi] at h;rw[Option.some.inj h]
theorem C5 {t:T} {l m:List (el t)} {n k:Nat} (h:l=m) (c:n=k):AC.own t l n=AC.own t m k:=by rw[h,c]
end Go.Abs
