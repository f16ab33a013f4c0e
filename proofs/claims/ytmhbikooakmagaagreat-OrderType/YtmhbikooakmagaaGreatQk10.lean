/- Part 11 of a proof. Conditions: each theorem's own. -/
import Derived.Test.YtmhbikooakmagaaGreatQk09
set_option linter.all false
set_option maxHeartbeats 8000000
set_option maxRecDepth 20000
namespace Go.Abs
structure Ay (q:Rat) (b1:Bool) (l1:List UInt32) (b2:Bool) (l2:List UInt32):Prop where
 num:AU q.num b1 l1
 den:AU (q.den:Int) b2 l2
variable {b' Qx b1 b2:Bool} {d y z:Int} {k:Nat} {l l' Lb l1 l2:List UInt32}
theorem BP (q:Rat):∃b1 l1 b2 l2,Ay q b1 l1 b2 l2:=⟨_,_,_,_,⟨rfl,rfl⟩,⟨rfl,rfl⟩⟩
theorem Ay.uniq {p q:Rat} {c1 c2:Bool} {m1 m2:List UInt32} (h:Ay p b1 l1 b2 l2) (h':Ay q c1 m1 c2 m2) (e:p=q):(b1=c1/\l1=m1)/\(b2=c2/\l2=m2):=by
 subst e;exact⟨h.num.uniq h'.num rfl,h.den.uniq h'.den rfl⟩
structure BX (q:Rat):Prop where
 num:(AP q.num.natAbs).length<=4000000000000
 den:(AP q.den).length<=4000000000000
theorem Ay.small {q:Rat} (h:Ay q b1 l1 b2 l2) (s:BX q):l1.length<=4000000000000/\l2.length<=4000000000000:=by
 rw[h.num.Au,h.den.Au];exact⟨s.num,by simpa using s.den⟩
theorem Rs (x:Int):Bk x 1=x:=by unfold Bk;simp
theorem Lj {n:Int} (g:d≠0):(Rat.divInt n d).num=Bk n (if d<0 then -((Nat.gcd n.natAbs d.natAbs:Nat):Int) else ((Nat.gcd n.natAbs d.natAbs:Nat):Int)):=by
 rw[Rat.num_divInt];have f:Int.gcd d n=Nat.gcd n.natAbs d.natAbs:=by rw[Int.gcd_comm];rfl
 have c:0<Nat.gcd n.natAbs d.natAbs:=Nat.gcd_pos_of_pos_right _ (by omega);rw[f];unfold Bk
 by_cases h:d<0
 ·rw[if_pos h,if_neg (by omega),Int.sign_eq_neg_one_of_neg h,Int.neg_neg,Int.neg_one_mul]
 rw[if_neg h,if_pos (by omega),Int.sign_eq_one_of_pos (by omega),Int.one_mul]
theorem Li {n:Int} (f:d≠0):((Rat.divInt n d).den:Int)=Bk d (if d<0 then -((Nat.gcd n.natAbs d.natAbs:Nat):Int) else ((Nat.gcd n.natAbs d.natAbs:Nat):Int)):=by
 rw[Rat.den_divInt,if_neg f];have g:Int.gcd d n=Nat.gcd n.natAbs d.natAbs:=by rw[Int.gcd_comm];rfl
 have c:0<Nat.gcd n.natAbs d.natAbs:=Nat.gcd_pos_of_pos_right _ (by omega);rw[g,Int.natCast_ediv];unfold Bk
 by_cases h:d<0
 ·rw[if_pos h,if_neg (by omega),Int.neg_neg,show (d.natAbs:Int)= -d by omega]
 rw[if_neg h,if_pos (by omega),show (d.natAbs:Int)=d by omega]
theorem aj:AP 1=[1]:=by decide +kernel
theorem OX {x:Int} {b:Bool} (h:AU x b l) (e:b=true):false=decide (x=1):=by
 have:=h.neg;rw[e] at this;have c:x<0:=by simpa using this.symm
 simp;omega
theorem Tt {x:Int} {b:Bool} (h:AU x b l) (e:¬l.length=1):false=decide (x=1):=by
 have c:x≠1:=by
  intro f;subst f;apply e;rw[h.Au];exact congrArg List.length aj
 simp[c]
theorem OZ {x:Int} {b:Bool} {w:UInt32} (h:AU x b l) (hb:b=false) (e:l.length=1) (hw:l[0]? =some w):decide (w.toNat=1)=decide (x=1):=by
 have g:l=[w]:=by
  match l,e,hw with
  | [a],_,hw=>simp at hw;rw[hw]
 have c:=h.nat;rw[g] at c;have f:AE [w]=w.toNat:=by simp[AE]
 rw[f] at c;have h3:=h.neg;rw[hb] at h3;have j:¬x<0:=by simpa using h3.symm
 rw[Bool.eq_iff_iff];simp;omega
theorem Ll (n:Nat):n<2^(32*(AP n).length):=by
 have h:=Bx (AP n);rwa [Am] at h
theorem ah (a b:Nat):(AP (a*b)).length<=(AP a).length+(AP b).length:=by
 apply Ex;rw[Nat.mul_add,Nat.pow_add];exact Nat.mul_lt_mul_of_lt_of_le (Ll a) (Nat.le_of_lt (Ll b)) (Nat.pow_pos (by decide))
theorem ag {a b:Nat} (ha:(AP a).length<=k) (hb:(AP b).length<=k):(AP (a+b)).length<=k+1:=by
 apply Ex;have c:=Nat.lt_of_lt_of_le (Ll a) (Nat.pow_le_pow_right (n:=2) (by decide) (Nat.mul_le_mul_left 32 ha));have f:=Nat.lt_of_lt_of_le (Ll b) (Nat.pow_le_pow_right (n:=2) (by decide) (Nat.mul_le_mul_left 32 hb));rw[Nat.mul_add,Nat.pow_add];have h3:2^(32*k)*2<=2^(32*k)*2^(32*1):=Nat.mul_le_mul_left _ (by decide);omega
theorem AU.Cb {x:Int} {b:Bool} (h:AU x b l) (h':AU y b' l') (c:AU z Qx Lb) (e:z=x*y):Lb.length<=l.length+l'.length:=by
 rw[h.Au,h'.Au,c.Au,e,Int.natAbs_mul];exact ah _ _
theorem AU.Ko {x:Int} {b:Bool} (h:AU x b l) (h':AU y b' l') (f:AU z Qx Lb) (e:z=x+y) (g:l.length<=k) (c:l'.length<=k):Lb.length<=k+1:=by
 rw[h.Au] at g;rw[h'.Au] at c;rw[f.Au,e];exact Nat.le_trans (DG (Int.natAbs_add_le x y)) (ag g c)
theorem FN (q:Rat):(q.den:Int)≠0:=by have:=q.den_nz;omega
theorem Mx (p q:Rat):p+q=Rat.divInt (p.num*q.den+q.num*p.den) ((p.den:Int)*q.den):=by
 have h:=Rat.divInt_add_divInt p.num q.num (FN p) (FN q);rwa [Rat.num_divInt_den,Rat.num_divInt_den] at h
theorem Ln (p q:Rat):p*q=Rat.divInt (p.num*q.num) ((p.den:Int)*q.den):=by
 have h:=Rat.divInt_mul_divInt p.num q.num (d₁:=p.den) (d₂:=q.den);rwa [Rat.num_divInt_den,Rat.num_divInt_den] at h
theorem ZT (p q:Rat):p/q=Rat.divInt (p.num*q.den) ((p.den:Int)*q.num):=by
 have h:=Rat.divInt_mul_divInt p.num q.den (d₁:=p.den) (d₂:=q.num);rw[<-Rat.inv_divInt q.num q.den,Rat.num_divInt_den,Rat.num_divInt_den] at h;rw[Rat.div_def,h]
theorem Ru (x:Int):Rat.divInt x 1=(x:Rat):=Rat.num_divInt_den (x:Rat)
theorem Rw (x:Int):(Rat.divInt x 1).num=x:=by rw[Ru];rfl
theorem Rv (x:Int):(Rat.divInt x 1).den=1:=by rw[Ru];rfl
theorem Gq {p q:Rat} (c:(p.den:Int)=1) (f:(q.den:Int)=1):(p+q).num=p.num+q.num/\(p+q).den=1:=by
 rw[Mx,c,f];simp only[Int.mul_one];exact⟨Rw _,Rv _⟩
theorem mul_ones {p q:Rat} (c:(p.den:Int)=1) (f:(q.den:Int)=1):(p*q).num=p.num*q.num/\(p*q).den=1:=by
 rw[Ln,c,f];simp only[Int.mul_one];exact⟨Rw _,Rv _⟩
theorem VW (r:Rat):(r*r).num=r.num*r.num/\(r*r).den=r.den*r.den:=by
 have c:(r.num*r.num).natAbs.Coprime (r.den*r.den):=by
  rw[Int.natAbs_mul];have h:=r.reduced;exact Nat.Coprime.mul_right (Nat.Coprime.mul_left h h) (Nat.Coprime.mul_left h h)
 have f:r.den*r.den≠0:=Nat.mul_ne_zero r.den_nz r.den_nz;have h:=Rat.num_divInt_den (⟨r.num*r.num,r.den*r.den,f,c⟩:Rat);have g:=Ln r r
 have h3:(⟨r.num*r.num,r.den*r.den,f,c⟩:Rat)=r*r:=by
  rw[g,<-h];exact congrArg _ (Int.natCast_mul _ _)
 rw[<-h3];exact⟨rfl,rfl⟩
theorem Su (n:Nat):A0 (n*n)=n:=Sv (Nat.le_refl _) (by rw[Nat.add_mul,Nat.mul_add];omega)
theorem Vh {r q:Rat} (f:0<=r) (h:r*r=q):((A0 q.num.toNat:Nat):Int)=r.num/\r.num*r.num=q.num:=by
 have c:=(VW r).1;rw[h] at c;have j:0<=r.num:=Rat.num_nonneg.2 f;refine⟨?_,c.symm⟩;obtain⟨k,g⟩:=Int.eq_ofNat_of_zero_le j;rw[c,g];rw[show ((k:Int)*k).toNat=k*k by rw[<-Int.natCast_mul];rfl,Su]
theorem Vg {r q:Rat} (f:0<=r) (h:r*r=q):((A0 (q.den:Int).toNat:Nat):Int)=(r.den:Int)/\(r.den:Int)*r.den=(q.den:Int):=by
 have c:=(VW r).2;rw[h] at c;refine⟨?_,by rw[c];exact (Int.natCast_mul _ _).symm⟩;rw[c,Int.toNat_natCast,Su]
theorem Vf {q:Rat} (f:((A0 q.num.toNat:Nat):Int)*((A0 q.num.toNat:Nat):Int)=q.num) (c:((A0 (q.den:Int).toNat:Nat):Int)*((A0 (q.den:Int).toNat:Nat):Int)=(q.den:Int)):∃r:Rat,0<=r/\r*r=q:=by
 refine⟨Rat.divInt ((A0 q.num.toNat:Nat):Int) ((A0 (q.den:Int).toNat:Nat):Int),?_,?_⟩
 ·exact Rat.divInt_nonneg (Int.natCast_nonneg _) (Int.natCast_nonneg _)
 rw[Rat.divInt_mul_divInt,f,c,Rat.num_divInt_den]
def GA (b1:Bool) (l1:List UInt32) (b2:Bool) (l2:List UInt32):Bool:=Fl b1 l1&&(Fl b2 l2&&(!b2&&(decide (l2≠[])&&decide (Nat.gcd (AE l1) (AE l2)=1))))
theorem PQ:GA b1 l1 b2 l2=true↔∃q,Ay q b1 l1 b2 l2:=by
 unfold GA;simp only[Bool.and_eq_true,Bool.not_eq_true',decide_eq_true_eq]
 constructor
 ·rintro⟨o,r,h3,u,f⟩
  obtain⟨x,j⟩:=I5.1 o;obtain⟨y,c⟩:=I5.1 r;have v:y≠0:=fun e=>u (c.nil.2 e)
  have g:=c.neg;rw[h3] at g;have A:¬y<0:=by simpa using g.symm
  rw[j.nat,c.nat] at f;refine⟨⟨x,y.natAbs,by omega,f⟩,j,?_⟩
  show AU ((y.natAbs:Nat):Int) b2 l2
  rw[show ((y.natAbs:Nat):Int)=y by omega];exact c
 rintro⟨q,h⟩
 refine⟨I5.2 ⟨_,h.num⟩,I5.2 ⟨_,h.den⟩,?_,fun e=>q.den_nz (by have:=h.den.nil.1 e;omega),?_⟩
 ·rw[h.den.neg];simp
 rw[h.num.nat,h.den.nat,Int.natAbs_natCast];exact q.reduced
def Cw (q:Rat):Int:=Bn q.num
def E8 (p q:Rat):Int:=if p<q then -1 else if q<p then 1 else 0
end Go.Abs
namespace Go.Abs
open Go.RowKit
def rp (q:Rat):el AA:=((decide (q.num<0),AP q.num.natAbs),(decide ((q.den:Int)<0),AP q.den))
theorem FA (q:Rat):Ay q (rp q).1.1 (rp q).1.2 (rp q).2.1 (rp q).2.2:=⟨⟨rfl,rfl⟩,⟨rfl,rfl⟩⟩
theorem Ay.rp {q:Rat} {b1 b2:Bool} {l1 l2:List UInt32} (h:Ay q b1 l1 b2 l2):rp q=((b1,l1),(b2,l2)):=by
 have u:=h.uniq (FA q) rfl;rw[u.1.1,u.1.2,u.2.1,u.2.2]
abbrev Ad (X:List Rat):List (el AA):=X.map rp
def C4 (X:List Rat):Prop:=∀q∈X,BX q
structure Kb (ts:List (List Rat)):Prop where
 small:∀x∈ts,C4 x
 No:ts.length<=16
 form:∀i x,ts[i]? =some x->x.length=2^i
end Go.Abs
namespace Go.Abs
open Go.RowKit
noncomputable def em (u:List (List Rat)) (x:Re):List (el AA):=Ad (co u x)
def tw (u:List (List Rat)):List (List (el AA)):=u.reverse.map Ad
structure Aa (R:Nat) (u:List (List Rat)):Prop where
 red:AS u
 tb:TB R u
 hR:R<=60000000000000
 ht:u.length<=16
structure El (u:List (List Rat)) (s:Nat) (x:Re):Prop where
 mem:In u x
 bd:Bd s (co u x)
variable {R k n s t:Nat} {p x y:Re}
theorem S8 (h:n<=2^(2*k)) (f:k<=60000000000000):(AP n).length<=4000000000000:=by
 obtain⟨m,hm⟩:=xN 3999999999999;have c:n<2^(32*m):=Nat.lt_of_le_of_lt h (Nat.pow_lt_pow_right (by decide) (by omega));have:=Ex c;omega
theorem ZS {q:Rat} {D:Nat} {n:Int} (h:q*D=n) (j:0<D):q.den<=D:=by
 have c:=Ip q
 have f:((q.num*D:Int):Rat)=((n*q.den:Int):Rat):=by
  rw[Rat.intCast_mul,Rat.intCast_mul,<-h,<-c];have o:((D:Int):Rat)=(D:Rat):=rfl;have r:((q.den:Int):Rat)=(q.den:Rat):=rfl
  grind
 have h3:q.num*D=n*q.den:=Rat.intCast_inj.1 f
 have g:q.den∣q.num.natAbs*D:=by
  refine⟨n.natAbs,?_⟩;have:=congrArg Int.natAbs h3;rw[Int.natAbs_mul,Int.natAbs_mul,Int.natAbs_natCast,Int.natAbs_natCast] at this;rw[this,Nat.mul_comm]
 exact Nat.le_of_dvd j ((Nat.Coprime.symm q.reduced).dvd_of_dvd_mul_left g)
theorem Bd.BT {a:List Rat} (h:Bd k a) (j:k<=60000000000000):C4 a:=by
 obtain⟨D,u,v,A,h3⟩:=h;intro q o;obtain⟨n,B⟩:=A q o;have g:q.den<=2^k:=Nat.le_trans (ZS B u) v;have hb:=h3 q o
 have c:q.num.natAbs<=2^(2*k):=by
  have f:=OF (C:=q.den) hb (q:=(q.den:Rat)) ⟨by have:(0:Rat)<=q.den:=Rat.natCast_nonneg;grind,by grind⟩;rw[Ip] at f
  have r:q.num.natAbs<=2^k*q.den:=by
   have F: -((2^k*q.den:Nat):Int)<=q.num:=by
    apply Rat.intCast_le_intCast.1;rw[Rat.intCast_neg];exact f.1
   have G:q.num<=((2^k*q.den:Nat):Int):=Rat.intCast_le_intCast.1 f.2;omega
  have:=Nat.mul_le_mul_left (2^k) g;rw[<-Nat.pow_add] at this;exact Nat.le_trans r (Nat.le_trans this (CA))
 exact⟨S8 c j,S8 (Nat.le_trans g (CA)) j⟩
theorem El.BT {u:List (List Rat)} (h:El u s x) (c:s<=60000000000000):C4 (co u x):=h.bd.BT c
theorem El.len {u:List (List Rat)} (h:El u s x):(co u x).length=2^u.length:=B6 h.mem
theorem Aw {u:List (List Rat)} (h:In u x):(em u x).length=2^u.length:=by rw[em,List.length_map,B6 h]
theorem BN (u:List (List Rat)):(tw u).length=u.length:=by rw[tw,List.length_map,List.length_reverse]
theorem CT (h:n<=16:=by omega):2^n<=65536:=Nat.le_trans (CA h) (by decide)
theorem KP (r:List Rat) (u:List (List Rat)):tw (r::u)=tw u++[Ad r]:=by rw[tw,List.reverse_cons,List.map_append];rfl
theorem Ci (r:List Rat) (u:List (List Rat)):(tw (r::u)).take ((tw (r::u)).length-1)=tw u:=by
 rw[KP,List.length_append,BN];simp[List.take_left' (BN u)]
theorem EL (r:List Rat) (u:List (List Rat)):(tw (r::u))[(tw (r::u)).length-1]? =some (Ad r):=by
 rw[KP,List.length_append,BN];simp[List.getElem?_append_right (Nat.le_of_eq (BN u))];rw[BN,Nat.sub_self];rfl
theorem DR {r:List Rat} {u:List (List Rat)} (h:AS (r::u)):Ad r=em u (AM u r):=by rw[em,Ev h]
theorem Br {u:List (List Rat)} {r:List Rat} {q:Re} (h:AS (r::u)) (f:In u p) (g:In u q) (j:x=p+q*rt u r):(em (r::u) x).take ((em (r::u) x).length/2)=em u p:=by
 have c:In (r::u) x:=By.2 ⟨p,q,f,g,j⟩;rw[Aw c,BM,show (2^u.length+2^u.length)/2=2^u.length by omega,em,em,Ad,Ad,<-List.map_take,ZP h f g j]
theorem Bc {u:List (List Rat)} {r:List Rat} {q:Re} (h:AS (r::u)) (f:In u p) (g:In u q) (j:x=p+q*rt u r):(em (r::u) x).drop ((em (r::u) x).length/2)=em u q:=by
 have c:In (r::u) x:=By.2 ⟨p,q,f,g,j⟩;rw[Aw c,BM,show (2^u.length+2^u.length)/2=2^u.length by omega,em,em,Ad,Ad,<-List.map_drop,ZO h f g j]
theorem D6 {u:List (List Rat)} {r:List Rat} {q:Re} (h:AS (r::u)) (c:In u p) (f:In u q) (g:x=p+q*rt u r):em (r::u) x=em u p++em u q:=by
 rw[em,CZ h c f g,Ad,List.map_append];rfl
theorem R6 {u:List (List Rat)} (h:AS u) (c:In u x) (f:In u y):em u (x+y)=Ad (List.zipWith (· + ·) (co u x) (co u y)):=by rw[em,JZ h c f]
theorem R7 {u:List (List Rat)} (h:AS u) (c:In u x):em u (-x)=Ad ((co u x).map (- ·)):=by rw[em,Jb h c]
theorem DD (q:Rat):em [] (Re.ofRat q)=[rp q]:=by rw[em,Cp];rfl
theorem NV {u:List (List Rat)} (h:AS u):em u 0=Ad (List.replicate (2^u.length) 0):=by rw[em,NO h]
theorem Aa.tail {r:List Rat} {u:List (List Rat)} (h:Aa R (r::u)):Aa R u:=⟨h.red.1,h.tb.tail,h.hR,by have:=h.ht;rw[List.length_cons] at this;omega⟩
theorem GS {α:Type} {l:List α} {i:Nat} {x:α} (h:l[i]? =some x):i<l.length:=by
 apply Classical.byContradiction;intro c;rw[List.getElem?_eq_none (by omega)] at h;exact absurd h (by simp)
theorem Iq:∀{u:List (List Rat)},AS u->∀(i:Nat) (x:List Rat),u.reverse[i]? =some x->x.length=2^i
 | [],_,i,x,h=>by simp at h
 | r::u,c,i,x,h=>by
  rw[List.reverse_cons] at h
  by_cases g:i<u.length
  ·rw[List.getElem?_append_left (by rw[List.length_reverse];exact g)] at h;exact Iq c.1 i x h
  rw[List.getElem?_append_right (by rw[List.length_reverse];omega),List.length_reverse] at h
  have f:i-u.length=0:=by
   have:=GS h;simp at this;omega
  rw[f] at h;have:r=x:=by simpa using h
  rw[<-this,c.2.1]
  congr 1;omega
theorem Aa.E1 {u:List (List Rat)} (h:Aa R u):Kb u.reverse:=
 ⟨fun x c=>(h.tb x (List.mem_reverse.1 c)).BT h.hR,by rw[List.length_reverse];exact h.ht,Iq h.red⟩
theorem El.CK {r:List Rat} {u:List (List Rat)} (h:Aa R (r::u)):El u R (AM u r):=⟨Bt h.red,M7 h.red h.tb⟩
theorem El.parts {u:List (List Rat)} {r:List Rat} (h:AS (r::u)) (g:El (r::u) s x):∃p q,x=p+q*rt u r/\El u s p/\El u s q:=by
 obtain⟨p,q,c,f,rfl⟩:=By.1 g.mem;have:=Q2 h c f g.bd;exact⟨p,q,rfl,⟨c,this.1⟩,⟨f,this.2⟩⟩
theorem El.mono {u:List (List Rat)} (h:El u s x) (c:s<=t):El u t x:=⟨h.mem,h.bd.mono c⟩
theorem El.add {u:List (List Rat)} (h:AS u) (c:El u s x) (f:El u t y):El u (s+t+1) (x+y):=⟨CQ c.mem f.mem,Q0 h c.mem f.mem c.bd f.bd⟩
theorem El.sub {u:List (List Rat)} (h:AS u) (c:El u s x) (f:El u t y):El u (s+t+1) (x-y):=⟨D9 c.mem f.mem,Yn h c.mem f.mem c.bd f.bd⟩
theorem El.neg {u:List (List Rat)} (h:AS u) (c:El u s x):El u s (-x):=⟨FQ c.mem,Q3 h c.mem c.bd⟩
theorem El.mul {u:List (List Rat)} (h:Aa R u) (c:El u s x) (f:El u t y):El u (s+t+EE u.length R) (x*y):=⟨Ag h.red c.mem f.mem,Yl h.red h.tb c.mem f.mem c.bd f.bd⟩
theorem El.norm {u:List (List Rat)} {r:List Rat} {q:Re} (h:Aa R (r::u)) (c:In u p) (f:In u q) (g:El (r::u) s (p+q*rt u r)):El u (2*s+2*EE u.length R+R+1) (p*p-q*q*AM u r):=
 ⟨D9 (Ag h.red.1 c c) (Ag h.red.1 (Ag h.red.1 f f) (Bt h.red)),Q4 h.red h.tb c f g.bd⟩
theorem El.inv {u:List (List Rat)} (h:Aa R u) (c:El u s x) (f:In u y) (e:x*y=1):El u (II u.length R s) y:=⟨f,Kv h.red h.tb c.mem f e c.bd⟩
theorem El.sqrt {u:List (List Rat)} {w:Re} (h:Aa R u) (c:El u s x) (hw:In u w) (e:w*w=x):El u (s+GG u.length R) w:=⟨hw,Q6 h.red h.tb hw e c.bd⟩
theorem El.rat {u:List (List Rat)} {q:Rat} (h:AS u) (c:Bd s [q]):El u s (Re.ofRat q):=⟨FR q u,Ym h c⟩
theorem Df:∀(h R s:Nat),2*s<=II h R s
 | 0,_,_=>Nat.le_refl _
 | h+1,R,s=>by
  have:=Df h R (2*s+2*EE h R+R+1);rw[II];omega
theorem Ta {u:List (List Rat)} {r:List Rat} {q:Re} (h:AS (r::u)) (j:In u p) (o:In u q) (f:p+q*rt u r≠0):p*p-q*q*AM u r≠0:=by
 intro v;have D:=B4 h;have g:(p+q*rt u r)*(p-q*rt u r)=0:=by grind
 rcases Re.EH g with c | c
 ·exact f c
 obtain⟨A,B⟩:=indep h j (FQ o) (Bl u) (Bl u) (show p+ -q*rt u r=0+0*rt u r by grind);exact f (by grind)
theorem JO:Bd 1 [(1/2:Rat)]:=by
 refine⟨2,by decide,by decide,fun q c=>⟨1,?_⟩,fun q c=>?_⟩
 ·rw[List.mem_singleton.1 c];decide +kernel
 rw[List.mem_singleton.1 c];decide +kernel
theorem GP:Bd 0 [(0:Rat)]:=⟨1,by decide,by decide,fun q c=>⟨0,by rw[List.mem_singleton.1 c];decide +kernel⟩,fun q c=>by rw[List.mem_singleton.1 c];decide +kernel⟩
theorem Yj:Bd 0 [(1:Rat)]:=⟨1,by decide,by decide,fun q c=>⟨1,by rw[List.mem_singleton.1 c];decide +kernel⟩,fun q c=>by rw[List.mem_singleton.1 c];decide +kernel⟩
end Go.Abs
namespace Go.Abs
noncomputable def AZ (x:Re):Int:=by
 classical
 exact if x<0 then -1 else if x=0 then 0 else 1
theorem Cv (x:Re):(x<0/\AZ x= -1)\/(x=0/\AZ x=0)\/(0<x/\AZ x=1):=by
 unfold AZ
 by_cases h:x<0
 ·rw[if_pos h];exact .inl ⟨h,rfl⟩
 rw[if_neg h]
 by_cases c:x=0
 ·rw[if_pos c];exact .inr (.inl ⟨c,rfl⟩)
 rw[if_neg c];exact .inr (.inr ⟨by grind,rfl⟩)
theorem FE {x:Re} (h:0<x):AZ x=1:=by rcases Cv x with⟨a,b⟩ |⟨a,b⟩ |⟨a,b⟩ <;> grind
theorem Ho {x:Re} (h:x<0):AZ x= -1:=by rcases Cv x with⟨a,b⟩ |⟨a,b⟩ |⟨a,b⟩ <;> grind
theorem E0:AZ 0=0:=by rcases Cv 0 with⟨a,b⟩ |⟨a,b⟩ |⟨a,b⟩ <;> grind
theorem Dx {x:Re}:AZ x=0↔x=0:=by
 rcases Cv x with⟨a,b⟩ |⟨a,b⟩ |⟨a,b⟩ <;> rw[b]
 ·constructor
  ·intro h;omega
  intro h;grind
 ·exact⟨fun _=>a,fun _=>rfl⟩
 constructor
 ·intro h;omega
 intro h;grind
theorem HG (x:Re): -1<=AZ x/\AZ x<=1:=by rcases Cv x with⟨a,b⟩ |⟨a,b⟩ |⟨a,b⟩ <;> omega
theorem U8 (x y:Re):AZ (x*y)=AZ x*AZ y:=by
 rcases Cv x with⟨a,b⟩ |⟨a,b⟩ |⟨a,b⟩ <;> rcases Cv y with⟨c,d⟩ |⟨c,d⟩ |⟨c,d⟩ <;> rw[b,d]
 ·have:=Re.mul_pos (x:= -x) (y:= -y) (by grind) (by grind);exact FE (by grind)
 ·rw[c,show x*0=0 by grind];exact E0
 ·have:=Re.mul_pos (x:= -x) (y:=y) (by grind) (by grind);exact Ho (by grind)
 ·rw[a,show 0*y=0 by grind];exact E0
 ·rw[a,show 0*y=0 by grind];exact E0
 ·rw[a,show 0*y=0 by grind];exact E0
 ·have:=Re.mul_pos (x:=x) (y:= -y) (by grind) (by grind);exact Ho (by grind)
 ·rw[c,show x*0=0 by grind];exact E0
 exact FE (Re.mul_pos a c)
theorem U7 (x y:Re): -9223372036854775808<=AZ x*AZ y/\AZ x*AZ y<9223372036854775808:=by
 rcases Cv x with⟨a,b⟩ |⟨a,b⟩ |⟨a,b⟩ <;> rcases Cv y with⟨c,d⟩ |⟨c,d⟩ |⟨c,d⟩ <;> rw[b,d] <;> decide
section
variable {p q s ρ:Re}
theorem MH (f:0<s) (h:q=0\/AZ p=AZ q):AZ (p+q*s)=AZ p:=by
 rcases h with h | h
 ·rw[h,show p+0*s=p by grind]
 rcases Cv p with⟨a,b⟩ |⟨a,b⟩ |⟨a,b⟩ <;> rcases Cv q with⟨c,d⟩ |⟨c,d⟩ |⟨c,d⟩ <;> rw[b,d] at h <;> try omega
 ·have:=Re.mul_pos (x:= -q) (y:=s) (by grind) f;rw[b];exact Ho (by grind)
 ·rw[b,a,c,show (0:Re)+0*s=0 by grind];exact E0
 have:=Re.mul_pos (x:=q) (y:=s) c f;rw[b];exact FE (by grind)
theorem VB (c:0<s) (h:p=0):AZ (p+q*s)=AZ q:=by
 rw[h,show 0+q*s=q*s by grind,U8,FE c,Int.mul_one]
theorem VA (f:0<s) (o:s*s=ρ) (g:p≠0) (j:q≠0) (h:AZ p≠AZ q):AZ (p+q*s)=AZ p*AZ (p*p-q*q*ρ):=by
 have e:p*p-q*q*ρ=(p-q*s)*(p+q*s):=by rw[<-o];grind
 rw[e,U8];rcases Cv p with⟨a,b⟩ |⟨a,b⟩ |⟨a,b⟩ <;> rcases Cv q with⟨c,d⟩ |⟨c,d⟩ |⟨c,d⟩ <;> rw[b,d] at h <;> first | (exact absurd rfl h) | (exact absurd a g) | (exact absurd c j) | skip
 ·have:=Re.mul_pos (x:=q) (y:=s) c f;rw[b,Ho (x:=p-q*s) (by grind)];omega
 have:=Re.mul_pos (x:= -q) (y:=s) (by grind) f;rw[b,FE (x:=p-q*s) (by grind)];omega
end
theorem Fg (q:Rat):AZ (Re.ofRat q)=Cw q:=by
 have c:(0:Re)=Re.ofRat 0:=rfl;have f:Cw q=Bn q.num:=rfl;rw[f];rcases EY q.num with⟨a,b⟩ |⟨a,b⟩ |⟨a,b⟩ <;> rw[b]
 ·exact Ho (by rw[c,Re.G6];rw[Rat.lt_iff];simp;exact a)
 ·rw[Rat.num_eq_zero.1 a];exact E0
 exact FE (by rw[c,Re.G6];rw[Rat.lt_iff];simp;exact a)
def VV:Nat->Nat->Nat->Nat
 | 0,_,s=>s
 | h+1,R,s=>VV h R (2*s+2*EE h R+R+1)
theorem GI:∀(h R:Nat) {s t:Nat},s<=t->VV h R s<=VV h R t
 | 0,_,_,_,h=>h
 | h+1,R,_,_,c=>GI h R (by omega)
theorem Eb:∀(h R s:Nat),s<=VV h R s
 | 0,_,_=>Nat.le_refl _
 | h+1,R,s=>Nat.le_trans (by omega) (Eb h R (2*s+2*EE h R+R+1))
theorem P0 (h R s:Nat):VV h R s<=VV (h+1) R s:=GI h R (by omega)
theorem JF {i h:Nat} (f:i<=h) (R s:Nat):VV i R s<=VV h R s:=by
 induction h with
 | zero=>rw[Nat.le_zero.1 f];exact Nat.le_refl _
 | succ h g=>
  rcases Nat.lt_or_ge i (h+1) with c | c
  ·exact Nat.le_trans (g (by omega)) (P0 h R s)
  rw[show i=h+1 by omega];exact Nat.le_refl _
def pre (u:List (List Rat)) (i:Nat):List (List Rat):=u.drop (u.length-i)
theorem HA {u:List (List Rat)} {i:Nat} (h:i<=u.length):(pre u i).length=i:=by rw[pre,List.length_drop];omega
theorem Gd {u:List (List Rat)} {i:Nat}:(tw u).take i=tw (pre u i):=by
 rw[tw,tw,pre,<-List.map_take,List.reverse_drop]
 by_cases h:i<=u.length
 ·rw[show u.length-(u.length-i)=i by omega]
 rw[show u.length-i=0 by omega,Nat.sub_zero,List.take_of_length_le (by rw[List.length_reverse];omega),List.take_of_length_le (by rw[List.length_reverse];omega)]
theorem UK (u:List (List Rat)):pre u u.length=u:=by rw[pre,Nat.sub_self,List.drop_zero]
theorem Hk {u:List (List Rat)} {i:Nat} (h:i<u.length):∃r,pre u (i+1)=r::pre u i/\(tw u)[i]? =some (Ad r):=by
 refine⟨u[u.length-(i+1)]'(by omega),?_,?_⟩
 ·rw[pre,pre,List.drop_eq_getElem_cons (by omega),show u.length-(i+1)+1=u.length-i by omega]
 rw[tw,List.getElem?_map,List.getElem?_reverse h,show u.length-1-i=u.length-(i+1) by omega,List.getElem?_eq_getElem (by omega)];rfl
theorem UW:∀{u:List (List Rat)} (n:Nat),AS u->AS (u.drop n)
 |u,0,h|[],_+1,h=>h
 | _::u,n+1,h=>UW n h.1
theorem Aa.pre {R:Nat} {u:List (List Rat)} (h:Aa R u) (i:Nat):Aa R (pre u i):=
 ⟨UW _ h.red,fun r c=>h.tb r (List.mem_of_mem_drop c),h.hR,by have:=h.ht;rw[Go.Abs.pre,List.length_drop];omega⟩
def QQ:Nat->Nat->Nat->Nat
 | 0,_,s=>s
 | h+1,R,s=>max (QQ h R (3*s+3*EE h R+R+GG h R+3+II h R R)) (s+II h R (2*(3*s+3*EE h R+R+GG h R+3+II h R R+GG h R)+1)+EE h R)
theorem HO:∀(h R:Nat) {s t:Nat},s<=t->II h R s<=II h R t
 | 0,_,_,_,h=>by rw[II,II];omega
 | h+1,R,s,t,c=>by
  have:=HO h R (s:=2*s+2*EE h R+R+1) (t:=2*t+2*EE h R+R+1) (by omega);rw[II,II];omega
theorem KW:∀(h R:Nat) {s t:Nat},s<=t->QQ h R s<=QQ h R t
 | 0,_,_,_,h=>h
 | h+1,R,s,t,g=>by
  have c:=KW h R (s:=3*s+3*EE h R+R+GG h R+3+II h R R) (t:=3*t+3*EE h R+R+GG h R+3+II h R R) (by omega);have f:=HO h R (s:=2*(3*s+3*EE h R+R+GG h R+3+II h R R+GG h R)+1) (t:=2*(3*t+3*EE h R+R+GG h R+3+II h R R+GG h R)+1) (by omega);rw[QQ,QQ];omega
theorem GD:∀(h R s:Nat),s<=QQ h R s
 | 0,_,_=>Nat.le_refl _
 | h+1,R,s=>by have:=GD h R (3*s+3*EE h R+R+GG h R+3+II h R R);rw[QQ];omega
theorem Wh (h R s:Nat):QQ h R s<=QQ (h+1) R s:=by
 have:=KW h R (s:=s) (t:=3*s+3*EE h R+R+GG h R+3+II h R R) (by omega);rw[QQ];omega
theorem Wg {i h:Nat} (f:i<=h) (R s:Nat):QQ i R s<=QQ h R s:=by
 induction h with
 | zero=>rw[Nat.le_zero.1 f];exact Nat.le_refl _
 | succ h g=>
  rcases Nat.lt_or_ge i (h+1) with c | c
  ·exact Nat.le_trans (g (by omega)) (Wh h R s)
  rw[show i=h+1 by omega];exact Nat.le_refl _
structure Fit (h R s:Nat):Prop where
 q:QQ h R s<=60000000000000
 v:VV h R (s+GG h R)<=60000000000000
 qR:QQ h R R<=60000000000000
 vR:VV h R R<=60000000000000
theorem Fit.v0 {h R s:Nat} (f:Fit h R s):VV h R s<=60000000000000:=Nat.le_trans (GI h R (by omega)) f.v
theorem Fit.s {h R s:Nat} (f:Fit h R s):s<=60000000000000:=Nat.le_trans (GD h R s) f.q
theorem Fit.mono {h R s t:Nat} (f:Fit h R s) (ht:t<=s):Fit h R t:=⟨Nat.le_trans (KW h R ht) f.q,Nat.le_trans (GI h R (by omega)) f.v,f.qR,f.vR⟩
end Go.Abs
namespace Go.Abs
def BA (u w:List (List Rat)):Prop:=∀x,In u x->In w x
theorem BA.refl (u:List (List Rat)):BA u u:=fun _ h=>h
theorem BA.trans {u v w:List (List Rat)} (h:BA u v) (k:BA v w):BA u w:=fun x c=>k x (h x c)
theorem LI:∀(v:List (List Rat)) {u:List (List Rat)},BA u (v++u)
 | [],u=>BA.refl u
 | _::v,_=>fun x c=>GX (LI v x c)
theorem LJ {u w:List (List Rat)} (h:u<:+w):BA u w:=by
 obtain⟨v,rfl⟩:=h;exact LI v
theorem BA.tail {u w:List (List Rat)} {r:List Rat} (h:BA (r::u) w):BA u w:=fun x c=>h x (GX c)
theorem BA.root {u w:List (List Rat)} {r:List Rat} (h:BA (r::u) w):In w (rt u r):=h _ (Hb u r)
theorem IH {u w:List (List Rat)} {r:List Rat} (hw:AS w) (h:BA u w) (g:In w (rt u r)):BA (r::u) w:=fun x j=>by
 obtain⟨p,q,c,f,rfl⟩:=By.1 j;exact CQ (h p c) (Ag hw (h q f) g)
theorem Je (w:List (List Rat)):BA [] w:=fun x c=>by
 obtain⟨q,rfl⟩:=Bv.1 c;exact FR q w
noncomputable def Ax (u:List (List Rat)) (v:Re):List (List Rat):=by
 classical
 exact if Sq u v then u else co u v::u
theorem Ec {u:List (List Rat)} {v:Re} (h:Sq u v):Ax u v=u:=by unfold Ax;rw[if_pos h]
theorem Ed {u:List (List Rat)} {v:Re} (h:¬Sq u v):Ax u v=co u v::u:=by unfold Ax;rw[if_neg h]
theorem Kr (u:List (List Rat)) (v:Re):u<:+Ax u v:=by
 by_cases h:Sq u v
 ·rw[Ec h];exact List.suffix_refl u
 rw[Ed h];exact List.suffix_cons _ _
theorem UY {u:List (List Rat)} {v:Re} (h:AS u) (c:In u v) (f:0<v) (g:¬Sq u v):AS (co u v::u):=
 ⟨h,B6 c,by rw[Dk c];exact f,by rw[Dk c];exact g⟩
theorem Ol {u:List (List Rat)} {v:Re} (h:AS u) (g:In u v) (f:0<v):AS (Ax u v):=by
 by_cases c:Sq u v
 ·rw[Ec c];exact h
 rw[Ed c];exact UY h g f c
theorem ME {u:List (List Rat)} {v:Re} (c:In u v):rt u (co u v)=Re.sqrt v:=by rw[rt,Dk c]
theorem KK {u:List (List Rat)} {v:Re} (c:0<=v):Sq u v↔In u (Re.sqrt v):=by
 constructor
 ·rintro⟨w,hw,e⟩
  have g:=Re.HI c;have f:=Re.Iw v
  by_cases h:0<=w
  ·rw[<-Re.Iv h f (by rw[e,g])];exact hw
  rw[<-Re.Iv (x:= -w) (by grind) f (by rw[g,<-e];grind)];exact FQ hw
 intro h;exact⟨_,h,Re.HI c⟩
theorem Qk {u:List (List Rat)} {v:Re} (g:In u v) (f:0<=v):In (Ax u v) (Re.sqrt v):=by
 by_cases c:Sq u v
 ·rw[Ec c];exact (KK f).1 c
 rw[Ed c,<-ME g];exact Hb u _
noncomputable def ext (t:List (List Rat)):List (List Rat)->List (List Rat)
 | []=>t
 | r::u=>Ax (ext t u) (AM u r)
theorem Nf (t:List (List Rat)):∀u,t<:+ext t u
 | []=>List.suffix_refl t
 | r::u=>List.IsSuffix.trans (Nf t u) (Kr _ _)
theorem Hn {t:List (List Rat)} (ht:AS t):∀{u:List (List Rat)},AS u->AS (ext t u)/\BA u (ext t u)
 | [],_=>⟨ht,Je _⟩
 | r::u,hu=>by
  obtain⟨h,c⟩:=Hn ht hu.1;have f:=c _ (Bt hu);have g:=hu.2.2.1;have h3:=Ol h f g;exact⟨h3,IH h3 (c.trans (LJ (Kr _ _))) (Qk f (by grind))⟩
open Classical in
noncomputable def DS (t u:List (List Rat)):List (List Rat):=if u<:+t then t else if t<:+u then u else ext t u
theorem ca {t u:List (List Rat)} (ht:AS t) (hu:AS u):AS (DS t u)/\BA t (DS t u)/\BA u (DS t u):=by
 unfold DS
 split
 ·rename_i h;exact⟨ht,BA.refl t,LJ h⟩
 split
 ·rename_i h;exact⟨hu,LJ h,BA.refl u⟩
 obtain⟨c,f⟩:=Hn ht hu;exact⟨c,LJ (Nf t u),f⟩
theorem R8:∀(v:List (List Rat)) {u:List (List Rat)} {x:Re},AS (v++u)->In u x->em (v++u) x=em u x++List.replicate (2^(v++u).length-2^u.length) (rp 0)
 | [],u,x,h,c=>by simp
 | r::v,u,x,h,c=>by
  have f:=LI v x c;have B:=R8 v h.1 c;have j:2^u.length<=2^(v++u).length:=CA (by simp);have e:em (r::v++u) x=em (v++u) x++em (v++u) 0:=D6 h f (Bl _) (by grind);have A:em (v++u) 0=Ad (List.replicate (2^(v++u).length) 0):=NV h.1;rw[e,B,A,Ad,List.map_replicate,List.append_assoc,List.replicate_append_replicate];have o:2^(r::v++u).length=2^(v++u).length+2^(v++u).length:=BM r (v++u);have g:∀a b:Nat,b<=a->a-b+a=a+a-b:=fun a b h=>by omega
  rw[o,<-g _ _ j]
theorem SB {u w:List (List Rat)} {x:Re} (h:u<:+w) (hw:AS w) (c:In u x):em w x=em u x++List.replicate (2^w.length-2^u.length) (rp 0):=by
 obtain⟨v,rfl⟩:=h;exact R8 v hw c
theorem UZ {u w:List (List Rat)} (h:u<:+w) (hw:AS w):AS u:=by
 obtain⟨v,rfl⟩:=h
 induction v with
 | nil=>exact hw
 | cons r v c=>exact c hw.1
structure Gam (T:List (List Rat)->Prop) (R C S:Nat):Prop where
 Af:∀{u},T u->Aa R u
 ht:∀{u},T u->u.length<=8
 nil:T []
 sub:∀{r u},T (r::u)->T u
 Ax:∀{t r u},T t->T (r::u)->BA u t->T (Ax t (AM u r))
 BQ:∀{u w s x},T u->T w->BA u w->El u s x->El w (s+C) x
 fit:∀{u},T u->Fit u.length R (S+C)
 mul:∀{u},T u->2*(S+C)+EE u.length R<=60000000000000
 RS:R<=S
section
variable {T:List (List Rat)->Prop} {R C S:Nat}
theorem Gam.Ix (G:Gam T R C S) {u w:List (List Rat)} (h:u<:+w) (hw:T w):T u:=by
 obtain⟨v,rfl⟩:=h
 induction v with
 | nil=>exact hw
 | cons r v c=>exact c (G.sub hw)
theorem Gam.ext (G:Gam T R C S) {t:List (List Rat)} (ht:T t):∀{u:List (List Rat)},T u->T (ext t u)
 | [],_=>ht
 | r::u,hu=>G.Ax (G.ext ht (G.sub hu)) hu (Hn (G.Af ht).red (G.Af (G.sub hu)).red).2
theorem Gam.join (G:Gam T R C S) {t u:List (List Rat)} (ht:T t) (hu:T u):T (DS t u):=by
 unfold DS
 split
 ·exact ht
 split
 ·exact hu
 exact G.ext ht hu
end
theorem IG {u:List (List Rat)} {r:List Rat} (h:AS (r::u)):El (r::u) 0 (rt u r):=by
 have c:El u 0 0:=El.rat h.1 GP;have f:El u 0 1:=El.rat h.1 Yj;have:=Yi h c.mem f.mem c.bd f.bd;rw[show (0:Re)+1*rt u r=rt u r by grind] at this;exact⟨Hb u r,this⟩
end Go.Abs
namespace Go.Abs
theorem HK:∀{h h' R R':Nat},h<=h'->R<=R'->EE h R<=EE h' R'
 | 0,h',R,R',_,_=>Nat.zero_le _
 | h+1,0,R,R',c,_=>absurd c (by omega)
 | h+1,h'+1,R,R',c,hR=>by
  have:=HK (h:=h) (h':=h') (by omega) hR;rw[EE,EE];omega
theorem KT:∀{h h' R R' s s':Nat},h<=h'->R<=R'->s<=s'->II h R s<=II h' R' s'
 | 0,0,R,R',s,s',_,_,f=>by rw[II,II];omega
 | 0,h'+1,R,R',s,s',_,_,f=>by
  have:=Df h' R' (2*s'+2*EE h' R'+R'+1);rw[II,II];omega
 | h+1,0,R,R',s,s',c,_,_=>absurd c (by omega)
 | h+1,h'+1,R,R',s,s',c,hR,f=>by
  have g:=HK (h:=h) (h':=h') (by omega) hR;have j:=KT (h:=h) (h':=h') (s:=2*s+2*EE h R+R+1) (s':=2*s'+2*EE h' R'+R'+1) (by omega) hR (by omega);rw[II,II];omega
theorem Ph:∀{h h' R R':Nat},h<=h'->R<=R'->GG h R<=GG h' R'
 | 0,h',R,R',_,_=>by rw[GG];exact Nat.zero_le _
 | h+1,0,R,R',c,_=>absurd c (by omega)
 | h+1,h'+1,R,R',c,hR=>by
  have f:=HK (h:=h) (h':=h') (by omega) hR;have g:=Ph (h:=h) (h':=h') (by omega) hR;have h3:=KT (h:=h) (h':=h') (s:=R) (s':=R') (by omega) hR hR;rw[GG,GG];omega
def CC:Nat->Nat->Nat->Nat->Nat
 | 0,_,_,_=>0
 | k+1,R0,h,R=>2*CC k R0 h R+R0+GG h R+EE h R+1
theorem I9:∀{k k' R0 HP h h' R R':Nat},k<=k'->R0<=HP->h<=h'->R<=R'->CC k R0 h R<=CC k' HP h' R'
 | 0,k',_,_,_,_,_,_,_,_,_,_=>by rw[CC];exact Nat.zero_le _
 | k+1,0,_,_,_,_,_,_,f,_,_,_=>absurd f (by omega)
 | k+1,k'+1,R0,HP,h,h',R,R',f,g,c,hR=>by
  have j:=I9 (k:=k) (k':=k') (by omega) g c hR;have o:=HK c hR;have h3:=Ph c hR;rw[CC,CC];omega
theorem ZW {D:Nat} {q:Rat} {n:Nat} (h:DN D [q]):DN D (q::List.replicate n 0):=fun z c=>by
 rcases List.mem_cons.1 c with rfl | c
 ·exact h _ List.mem_cons_self
 rw[List.eq_of_mem_replicate c];exact⟨0,by simp⟩
theorem bE {B:Nat} {q:Rat} {n:Nat} (h:MX B [q]):MX B (q::List.replicate n 0):=fun z c=>by
 rcases List.mem_cons.1 c with rfl | c
 ·exact h _ List.mem_cons_self
 rw[List.eq_of_mem_replicate c];have:(0:Rat)<=B:=Rat.natCast_nonneg
 constructor <;> grind
theorem Q1 {w:List (List Rat)} {R:Nat} (hw:AS w) (A:TB R w):∀{u:List (List Rat)} {R0:Nat},AS u->TB R0 u->BA u w->∃K:Nat,0<K/\K<=2^CC u.length R0 w.length R/\
  ∀{x:Re} {D B:Nat},In u x->(DN D (co u x)->DN (D*K) (co w x))/\(MX B (co u x)->MX (B*2^CC u.length R0 w.length R) (co w x))
 | [],R0,_,_,_=>⟨1,by decide,by simp[CC],fun {x D B} X=>by
  obtain⟨q,rfl⟩:=Bv.1 X;rw[Cp,IB q hw,Nat.mul_one];refine⟨ZW,fun h=>?_⟩;rw[show B*2^CC ([]:List (List Rat)).length R0 w.length R=B by simp[CC]];exact bE h⟩
 | r::u,R0,h,h0,v=>by
  obtain⟨K,hK,g,hb⟩:=Q1 hw A h.1 h0.tail v.tail;obtain⟨E,M,N,hm⟩:=IE hw A;obtain⟨Z,I,J,L,V⟩:=h0.head;have hr:=B4 h;have W:=Bt h;have c:=v.root;have b1:=hb (D:=Z) (B:=2^R0) W;rw[Ev h] at b1
  have hv:Bd (R0+CC u.length R0 w.length R) (co w (AM u r)):=by
   refine⟨Z*K,Nat.mul_pos I hK,?_,b1.1 L,?_⟩
   ·rw[Nat.pow_add];exact Nat.mul_le_mul J g
   rw[Nat.pow_add];exact b1.2 V
  obtain⟨F,hF,Q,O,U⟩:=Q6 hw A c hr hv;refine⟨K*(F*E),Nat.mul_pos hK (Nat.mul_pos hF M),?_,fun {x D B} X=>?_⟩
  ·have h1:=Nat.mul_le_mul g (Nat.mul_le_mul Q N);simp only[<-Nat.pow_add] at h1;exact Nat.le_trans h1 (CA (by rw[List.length_cons,CC];omega))
  obtain⟨p,q,G,H,rfl⟩:=By.1 X;rw[CZ h G H rfl,DN.app,MX.app];have o:=v.tail _ G;have f:=v.tail _ H;refine⟨fun j=>?_,fun j=>?_⟩
  ·have k1:=(hb (B:=0) G).1 j.1;have k2:=(hb (B:=0) H).1 j.2;have Y:=hm f c k2 O;exact DN.Fk hw o (Ag hw f c) (k1.dvd ⟨F*E,by grind⟩) (Y.dvd ⟨1,by grind⟩)
  have k1:=(hb (D:=0) G).2 j.1;have k2:=(hb (D:=0) H).2 j.2;have Y:=GZ hw A f c k2 U;refine (MX.Fk hw o (Ag hw f c) k1 Y).mono ?_
  have e:B*2^CC u.length R0 w.length R*2^(R0+CC u.length R0 w.length R+GG w.length R)*2^EE w.length R=B*2^(CC u.length R0 w.length R+(R0+CC u.length R0 w.length R+GG w.length R)+EE w.length R):=by
   rw[Nat.mul_assoc,Nat.mul_assoc,<-Nat.pow_add,<-Nat.pow_add];congr 2;omega
  rw[e,<-Nat.mul_add];refine Nat.mul_le_mul_left B ?_;have e2:CC (r::u).length R0 w.length R=CC u.length R0 w.length R+(R0+CC u.length R0 w.length R+GG w.length R)+EE w.length R+1:=by rw[List.length_cons,CC];omega
  have h3:2^CC u.length R0 w.length R<=2^(CC u.length R0 w.length R+(R0+CC u.length R0 w.length R+GG w.length R)+EE w.length R):=CA;rw[e2,Nat.pow_succ];omega
theorem El.BQ {w u:List (List Rat)} {R R0 s:Nat} {x:Re} (hw:AS w) (A:TB R w) (hu:AS u) (h:TB R0 u) (g:BA u w) (c:El u s x):El w (s+CC u.length R0 w.length R) x:=by
 obtain⟨K,v,f,hb⟩:=Q1 hw A hu h g;obtain⟨D,j,o,h3,r⟩:=c.bd;refine⟨g _ c.mem,D*K,Nat.mul_pos j v,?_,(hb (B:=0) c.mem).1 h3,?_⟩
 ·rw[Nat.pow_add];exact Nat.mul_le_mul o f
 rw[Nat.pow_add];exact (hb (D:=0) c.mem).2 r
inductive Tf (P:List (List Rat)->Prop):List (List Rat)->Prop
 | nil:Tf P []
 | Ax {u:List (List Rat)} {r0:List Rat} {u0:List (List Rat)}:Tf P u->P (r0::u0)->BA u0 u->Tf P (Ax u (AM u0 r0))
structure DO (P:List (List Rat)->Prop) (R0:Nat):Prop where
 red:∀{u},P u->AS u
 tb:∀{u},P u->TB R0 u
 sub:∀{r u},P (r::u)->P u
section
variable {P:List (List Rat)->Prop} {R0:Nat}
theorem Tf.red (I:DO P R0) {u:List (List Rat)} (h:Tf P u):AS u:=by
 induction h with
 | nil=>trivial
 | Ax _ c f g=>exact Ol g (f _ (Bt (I.red c))) (I.red c).2.2.1
theorem YM {u:List (List Rat)} {r:List Rat} (h:AS (r::u)):Ax u (AM u r)=r::u:=by rw[Ed h.2.2.2,Ev h]
theorem Tf.of (I:DO P R0):∀{u:List (List Rat)},P u->Tf P u
 | [],_=> .nil
 | r::u,h=>by
  have:=Tf.Ax (Tf.of I (I.sub h)) h (BA.refl u);rwa [YM (I.red h)] at this
theorem Tf.gen (I:DO P R0) {w:List (List Rat)} (h:Tf P w):∀{r:List Rat} {u:List (List Rat)},w=r::u->Tf P u/\∃f c,P (f::c)/\AM c f=AM u r/\BA c u:=by
 induction h with
 | nil=>intro r u e;cases e
 | @Ax A f c ht j g v=>
  intro r u e
  by_cases o:Sq A (AM c f)
  ·rw[Ec o] at e;exact v e
  rw[Ed o] at e;obtain⟨rfl,rfl⟩:=List.cons.inj e;exact⟨ht,f,c,j,(Dk (g _ (Bt (I.red j)))).symm,g⟩
theorem Tf.sub (I:DO P R0) {r:List Rat} {u:List (List Rat)} (h:Tf P (r::u)):Tf P u:=(h.gen I rfl).1
theorem Tf.Qj (I:DO P R0) {t u:List (List Rat)} {r:List Rat} (ht:Tf P t) (h:Tf P (r::u)) (f:BA u t):Tf P (Go.Abs.Ax t (AM u r)):=by
 obtain⟨_,j,o,g,e,c⟩:=h.gen I rfl;rw[<-e];exact .Ax ht g (c.trans f)
theorem Om:∀{u:List (List Rat)},AS u->BA u []->u=[]
 | [],_,_=>rfl
 | r::u,h,c=>by
  have hu:=Om h.1 c.tail;subst hu;exact absurd ⟨_,c.root,B4 h⟩ h.2.2.2
theorem UX {r q:List Rat} {s:List Rat} (h:AS [q,r]) (D:AS [s]) (F:BA [q,r] [s]):False:=by
 have v:=h.1;obtain⟨a,b,ha,hb,e⟩:=By.1 F.tail.root;have H:=B4 v;have A:=B4 D;have g:AS ([]:List (List Rat)):=trivial
 by_cases u:b=0
 ·exact v.2.2.2 ⟨a,ha,by rw[<-H,e,u];grind⟩
 obtain⟨d,G,J⟩:=D8 g hb u
 by_cases o:a=0
 ·have j:In [r] (rt [] s):=by
   have:rt [] s=d*rt [] r:=by rw[e,o];grind
   rw[this];exact Ag v (GX G) (Hb [] r)
  have B:BA [s] [r]:=IH v (Je _) j;exact h.2.2.2 ⟨_,B _ F.root,B4 h⟩
 obtain⟨c,K,I⟩:=D8 g ha o
 have M:Re.ofRat (1/2)*(1+1)=1:=by
  rw[show (1:Re)=Re.ofRat 1 from rfl,<-Re.ofRat_add,<-Re.ofRat_mul,show (1/2:Rat)*(1+1)=1 by decide +kernel]
 have L:=Bt v;have hw:=Bt D
 have key:rt [] s=(AM [] r-a*a-b*b*AM [] s)*(c*d*Re.ofRat (1/2)):=by
  rw[<-H,<-A,e];generalize rt [] s=t at *;generalize Re.ofRat (1/2)=f at *;grind
 have j:In [] (rt [] s):=by
  rw[key];exact Ag g (D9 (D9 L (Ag g ha ha)) (Ag g (Ag g hb hb) hw)) (Ag g (Ag g K G) (FR _ []))
 exact D.2.2.2 ⟨_,j,A⟩
def RR (R0:Nat):Nat->Nat
 | 0=>R0
 | h+1=>max (RR R0 h) (R0+CC (min h 2) R0 h (RR R0 h))
theorem Pt {R0 h h':Nat} (c:h<=h'):RR R0 h<=RR R0 h':=by
 induction c with
 | refl=>exact Nat.le_refl _
 | step _ f=>exact Nat.le_trans f (Nat.le_max_left _ _)
theorem TB.mono {R R':Nat} {u:List (List Rat)} (h:TB R u) (hR:R<=R'):TB R' u:=fun r c=>(h r c).mono hR
theorem Tf.tb (I:DO P R0) (hm:∀{u},Tf P u->u.length<=3) {u:List (List Rat)} (h:Tf P u):TB (RR R0 u.length) u:=by
 induction h with
 | nil=>intro r j;simp at j
 | @Ax u G f ht g o B=>
  by_cases F:Sq u (AM f G)
  ·rw[Ec F];exact B
  have D:=hm (Tf.Ax ht g o);have A:=hm (Tf.of I g);rw[Ed F] at D ⊢;rw[List.length_cons] at D A;intro r j;rcases List.mem_cons.1 j with rfl | j
  ·have c:=I.red g;have v:El f R0 (AM f G):=⟨Bt c,by rw[Ev c];exact (I.tb g).head⟩;have:=(v.BQ (ht.red I) B c.1 (I.tb g).tail o).bd;refine this.mono ?_;rw[List.length_cons,RR]
   have J:f.length<=min u.length 2:=by
    have H:f.length<=2:=by omega
    cases u with
    | nil=>rw[Om c.1 o];exact Nat.zero_le _
    | cons s K=>
     cases K with
     | nil=>
      cases f with
      | nil=>exact Nat.zero_le _
      | cons q L=>
       cases L with
       | nil=>exact Nat.le_refl 1
       | cons r M=>
        have:M=[]:=List.eq_nil_of_length_eq_zero (by simp only[List.length_cons] at H;omega);subst this;exact (UX c.1 (ht.red I) o).elim
     | cons _ _=>simp only[List.length_cons];omega
   have:=I9 (k:=f.length) (k':=min u.length 2) (R0:=R0) (HP:=R0) (h:=u.length) (h':=u.length) (R:=RR R0 u.length) (R':=RR R0 u.length) J (Nat.le_refl _) (Nat.le_refl _) (Nat.le_refl _);omega
  exact (B r j).mono (Pt (by rw[List.length_cons];omega))
theorem Tf.Nh (I:DO P R0) (hm:∀{u},Tf P u->u.length<=3) {R C S:Nat} (hR:RR R0 3<=R) (g:R<=S) (v:CC 3 R 3 R<=C) (j:∀h,h<=3->Fit h R (S+C)) (A:2*(S+C)+EE 3 R<=60000000000000):Gam (Tf P) R C S:=by
 have c:∀{u},Tf P u->TB R u:=fun {u} h=>(h.tb I hm).mono (Nat.le_trans (Pt (hm h)) hR)
 refine⟨fun {u} h=>⟨h.red I,c h,by omega,by have:=hm h;omega⟩,fun {u} h=>by have:=hm h;omega,.nil,fun {r u} h=>h.sub I,fun {t r u} ht h f=>ht.Qj I h f,fun {u w s x} hu hw f o=>?_,fun {u} h=>j _ (hm h),fun {u} h=>?_,g⟩
 ·refine (o.BQ (hw.red I) (c hw) (hu.red I) (c hu) f).mono ?_;have:=I9 (k:=u.length) (k':=3) (R0:=R) (HP:=R) (h:=w.length) (h':=3) (R:=R) (R':=R) (hm hu) (Nat.le_refl _) (hm hw) (Nat.le_refl _);omega
 have:=HK (h:=u.length) (h':=3) (R:=R) (R':=R) (hm h) (Nat.le_refl _);omega
def Aq:List (List Rat)->List Re
 | []=>[]
 | r::u=>AM u r::Aq u
theorem I6:∀u:List (List Rat),(Aq u).length=u.length
 | []=>rfl
 | r::u=>by rw[Aq,List.length_cons,List.length_cons,I6 u]
theorem I7:∀{u:List (List Rat)} {v:Re},v∈Aq u->In u (Re.sqrt v)
 | [],v,h=>by simp[Aq] at h
 | r::u,v,h=>by
  rcases List.mem_cons.1 h with rfl | h
  ·exact Hb u r
  exact GX (I7 h)
theorem HJ:∀{u:List (List Rat)},AS u->(Aq u).Nodup
 | [],_=>List.nodup_nil
 | r::u,h=>by
  rw[Aq,List.nodup_cons];refine⟨fun hm=>h.2.2.2 ⟨_,I7 hm,Re.HI (by have:=h.2.2.1;grind)⟩,HJ h.1⟩
theorem Tf.Aq (I:DO P R0) {V:List Re} (hV:∀{u},P u->∀v∈Aq u,v∈V) {u:List (List Rat)} (h:Tf P u):∀v∈Go.Abs.Aq u,v∈V:=by
 induction h with
 | nil=>intro v c;simp[Go.Abs.Aq] at c
 | @Ax u r A ht f o j=>
  by_cases g:Sq u (AM A r)
  ·rw[Ec g];exact j
  rw[Ed g];intro v c;rcases List.mem_cons.1 c with rfl | c
  ·rw[Dk (o _ (Bt (I.red f)))];exact hV f _ List.mem_cons_self
  exact j v c
theorem Ig {α:Type}:∀{l m:List α},l.Nodup->(∀x∈l,x∈m)->l.length<=m.length
 | [],_,_,_=>Nat.zero_le _
 | x::l,m,h,hm=>by
  rw[List.nodup_cons] at h;obtain⟨a,b,rfl⟩:=List.append_of_mem (hm x List.mem_cons_self)
  have:=Ig (l:=l) (m:=a++b) h.2 (fun y f=>by
   have g:=hm y (List.mem_cons_of_mem _ f);rcases List.mem_append.1 g with c | c
   ·exact List.mem_append_left _ c
   rcases List.mem_cons.1 c with rfl | c
   ·exact absurd f h.1
   exact List.mem_append_right _ c)
  rw[List.length_cons,List.length_append,List.length_cons];rw[List.length_append] at this;omega
theorem Tf.len (I:DO P R0) {V:List Re} (hV:∀{u},P u->∀v∈Go.Abs.Aq u,v∈V) {u:List (List Rat)} (h:Tf P u):u.length<=V.length:=by
 rw[<-I6];exact Ig (HJ (h.red I)) (h.Aq I hV)
end
end Go.Abs
namespace Go.Abs
def ES (k i:Nat):Bool:=k/2^i%2==1
def Bz (i:Nat):Nat->List Rat->Bool
 | _,[]=>false
 | k,q::l=>(ES k i&&q !=0)||Bz i (k+1) l
def BH (i:Nat):Nat->List Rat->List Rat
 | _,[]=>[]
 | k,q::l=>if ES k i=true then BH i (k+1) l else q::BH i (k+1) l
variable {w:List (List Rat)} {x:Re}
theorem OT (i:Nat):∀(k:Nat) (a b:List Rat),Bz i k (a++b)=(Bz i k a||Bz i (k+a.length) b)
 | k,[],b=>by simp[Bz]
 | k,q::a,b=>by
  rw[List.cons_append,Bz,Bz,OT i (k+1) a b,List.length_cons,Bool.or_assoc,show k+1+a.length=k+(a.length+1) by omega]
theorem MR (i:Nat):∀(k:Nat) (a b:List Rat),BH i k (a++b)=BH i k a++BH i (k+a.length) b
 | k,[],b=>by simp[BH]
 | k,q::a,b=>by
  rw[List.cons_append,BH,BH,MR i (k+1) a b,List.length_cons,show k+1+a.length=k+(a.length+1) by omega]
  split <;> simp
theorem RB (k i c:Nat):ES (k+2^(i+1)*c) i=ES k i:=by
 unfold ES;rw[Nat.pow_succ,Nat.mul_assoc,Nat.add_mul_div_left _ _ (Nat.two_pow_pos i),Nat.add_mul_mod_self_left]
theorem Tl (i c:Nat):∀(k:Nat) (l:List Rat),Bz i (k+2^(i+1)*c) l=Bz i k l
 | _,[]=>rfl
 | k,q::l=>by
  rw[Bz,Bz,RB,show k+2^(i+1)*c+1=k+1+2^(i+1)*c by omega,Tl i c (k+1) l]
theorem WA (i c:Nat):∀(k:Nat) (l:List Rat),BH i (k+2^(i+1)*c) l=BH i k l
 | _,[]=>rfl
 | k,q::l=>by
  rw[BH,BH,RB,show k+2^(i+1)*c+1=k+1+2^(i+1)*c by omega,WA i c (k+1) l]
theorem Yq {k i:Nat} (h:k<2^i):ES k i=false:=by unfold ES;rw[Nat.div_eq_of_lt h];rfl
theorem Q9 {k i:Nat} (h:2^i<=k) (c:k<2^i+2^i):ES k i=true:=by
 unfold ES
 have:k/2^i=1:=by
  rw[Nat.div_eq_iff (Nat.two_pow_pos i)];omega
 rw[this];rfl
theorem V9 (i:Nat):∀(k:Nat) (l:List Rat),k+l.length<=2^i->BH i k l=l
 | _,[],_=>rfl
 | k,q::l,h=>by
  rw[List.length_cons] at h;rw[BH,Yq (by omega),V9 i (k+1) l (by omega)];rfl
theorem V7 (i:Nat):∀(k:Nat) (l:List Rat),2^i<=k->k+l.length<=2^i+2^i->BH i k l=[]
 | _,[],_,_=>rfl
 | k,q::l,h,c=>by
  rw[List.length_cons] at c;rw[BH,Q9 h (by omega),V7 i (k+1) l (by omega) (by omega)];rfl
theorem Tk (i:Nat):∀(k:Nat) (l:List Rat),2^i<=k->k+l.length<=2^i+2^i->Bz i k l=false->∀q∈l,q=0
 | _,[],_,_,_=>by simp
 | k,q::l,h,f,h3=>by
  rw[List.length_cons] at f;rw[Bz,Q9 h (by omega)] at h3;simp only[Bool.true_and,Bool.or_eq_false_iff,bne_eq_false_iff_eq] at h3;intro x c;rcases List.mem_cons.1 c with rfl | c
  ·exact h3.1
  exact Tk i (k+1) l (by omega) (by omega) h3.2 x c
theorem MS (i:Nat):∀(k:Nat) (l:List Rat),∀q∈BH i k l,q∈l
 | _,[],q,h=>h
 | k,x::l,q,h=>by
  rw[BH] at h
  split at h
  ·exact List.mem_cons_of_mem _ (MS i (k+1) l q h)
  rcases List.mem_cons.1 h with rfl | h
  ·exact List.mem_cons_self
  exact List.mem_cons_of_mem _ (MS i (k+1) l q h)
theorem R3 {r:List Rat} {u:List (List Rat)}:∀{v:List (List Rat)},AS (v++r::u)->(∀s∈v,Bz u.length 0 s=false)->
  AS (v.map (BH u.length 0)++u)/\BA (v.map (BH u.length 0)++u) (v++r::u)/\(∀x∈Aq (v.map (BH u.length 0)++u),x∈Aq (v++r::u))/\
  ∀{x:Re},In (v++r::u) x->Bz u.length 0 (co (v++r::u) x)=false->In (v.map (BH u.length 0)++u) x/\co (v.map (BH u.length 0)++u) x=BH u.length 0 (co (v++r::u) x)
 | [],h,_=>by
  refine⟨h.1,fun x c=>GX c,fun x c=>List.mem_cons_of_mem _ c,fun {x} c D=>?_⟩;obtain⟨p,q,A,B,rfl⟩:=By.1 c;have e:=CZ h A B rfl;have F:=B6 A;have U:=B6 B;simp only[List.nil_append,List.map_nil] at*;rw[e,OT,F,Nat.zero_add,Bool.or_eq_false_iff] at D;have H:q=0:=(Ja h.1 B).1 (Tk _ _ _ (Nat.le_refl _) (by omega) D.2);subst H;have ex:p+0*rt u r=p:=by grind
  rw[e,MR,F,Nat.zero_add,V9 _ _ _ (by omega),V7 _ _ _ (Nat.le_refl _) (by omega),List.append_nil,ex];exact⟨A,rfl⟩
 | s::v,h,D=>by
  have h:AS (s::(v++r::u)):=h;obtain⟨N,K,h3,G⟩:=R3 (v:=v) h.1 (fun t ht=>D t (List.mem_cons_of_mem _ ht));have I:=D s List.mem_cons_self;have J:In (v++r::u) (AM (v++r::u) s):=Bt h
  show AS (BH u.length 0 s::(v.map (BH u.length 0)++u))/\BA (BH u.length 0 s::(v.map (BH u.length 0)++u)) (s::(v++r::u))/\(∀x∈Aq (BH u.length 0 s::(v.map (BH u.length 0)++u)),x∈Aq (s::(v++r::u)))/\
   ∀{x:Re},In (s::(v++r::u)) x->Bz u.length 0 (co (s::(v++r::u)) x)=false->In (BH u.length 0 s::(v.map (BH u.length 0)++u)) x/\co (BH u.length 0 s::(v.map (BH u.length 0)++u)) x=BH u.length 0 (co (s::(v++r::u)) x)
  have cs:co (v++r::u) (AM (v++r::u) s)=s:=Ev h;obtain⟨k1,k2⟩:=G J (by rw[cs];exact I);rw[cs] at k2;have f:AM (v.map (BH u.length 0)++u) (BH u.length 0 s)=AM (v++r::u) s:=by rw[<-k2,Dk k1]
  have j:AS (BH u.length 0 s::(v.map (BH u.length 0)++u)):=by
   refine⟨N,by rw[<-k2];exact B6 k1,by rw[f];exact h.2.2.1,?_⟩;rw[f]
   rintro⟨w,hw,e⟩
   exact h.2.2.2 ⟨w,K w hw,e⟩
  have g:rt (v.map (BH u.length 0)++u) (BH u.length 0 s)=rt (v++r::u) s:=by rw[rt,rt,f]
  have hlen:2^(v++r::u).length=2^(u.length+1)*2^v.length:=by rw[<-Nat.pow_add];congr 1;simp;omega
  refine⟨j,IH h (K.trans fun x c=>GX c) (by rw[g];exact Hb _ _),fun x c=>?_,fun {x} c o=>?_⟩
  ·rcases List.mem_cons.1 c with rfl | c
   ·exact List.mem_cons.2 (.inl f)
   exact List.mem_cons_of_mem _ (h3 x c)
  obtain⟨p,q,A,B,rfl⟩:=By.1 c;have e:=CZ h A B rfl;have F:=B6 A;rw[e,OT,F,hlen,Tl,Bool.or_eq_false_iff] at o;obtain⟨L,O⟩:=G A o.1;obtain⟨M,Q⟩:=G B o.2;rw[<-g];refine⟨By.2 ⟨p,q,L,M,rfl⟩,?_⟩;rw[g,e,MR,F,hlen,WA,<-O,<-Q,<-g];exact CZ j L M rfl
def I2 (i:Nat) (s:List (List Rat)×List Rat):List (List Rat)×List Rat:=
 if (Bz i 0 s.2||(s.1.drop (i+1)).any (Bz i 0))=true then s else (s.1.take i++(s.1.drop (i+1)).map (BH i 0),BH i 0 s.2)
def Fi:Nat->List (List Rat)×List Rat->List (List Rat)×List Rat
 | 0,s=>s
 | i+1,s=>Fi i (I2 i s)
structure GH (w:List (List Rat)) (x:Re) (w':List (List Rat)):Prop where
 red:AS w'
 mem:In w' x
 BQ:BA w' w
 Aq:∀v∈Aq w',v∈Aq w
 len:w'.length<=w.length
 F6:∀s∈w',∀q∈s,∃t∈w,q∈t
 cos:∀q∈co w' x,q∈co w x
theorem GH.refl (h:AS w) (g:In w x):GH w x w:=⟨h,g,BA.refl w,fun _ h=>h,Nat.le_refl _,fun s f q c=>⟨s,f,c⟩,fun _ h=>h⟩
theorem GH.trans {w' f:List (List Rat)} (h:GH w x w') (k:GH w' x f):GH w x f:=
 ⟨k.red,k.mem,k.BQ.trans h.BQ,fun v j=>h.Aq v (k.Aq v j),Nat.le_trans k.len h.len,fun s g q c=>by
  obtain⟨t,ht,c⟩:=k.F6 s g q c;exact h.F6 t ht q c,fun q c=>h.cos q (k.cos q c)⟩
theorem Vq {i:Nat} (h:AS w) (o:In w x) (G:i<w.length):∃w',I2 i (w.reverse,co w x)=(w'.reverse,co w' x)/\GH w x w'/\i<=w'.length:=by
 unfold I2
 split
 ·exact⟨w,rfl,.refl h o,by omega⟩
 rename_i j
 obtain⟨v,r,u,rfl,rfl⟩:∃v r u,w=v++r::u/\i=u.length:=by
  refine⟨w.take (w.length-1-i),w[w.length-1-i]'(by omega),w.drop (w.length-1-i+1),?_,by rw[List.length_drop];omega⟩;rw[<-List.drop_eq_getElem_cons,List.take_append_drop]
 have c:(v++r::u).reverse=u.reverse++r::v.reverse:=by simp
 have F:(v++r::u).reverse.drop (u.length+1)=v.reverse:=by
  rw[c,show u.reverse++r::v.reverse=(u.reverse++[r])++v.reverse by simp];exact List.drop_left' (by simp)
 have ht:(v++r::u).reverse.take u.length=u.reverse:=by
  rw[c];exact List.take_left' (by simp)
 simp only[F,ht,Bool.not_eq_true,Bool.or_eq_false_iff] at j ⊢
 obtain⟨A,B,h3,D⟩:=R3 h (fun s f=>by
  have:=List.any_eq_false.1 j.2 s (List.mem_reverse.2 f);simpa using this)
 obtain⟨k1,k2⟩:=D o j.1;refine⟨v.map (BH u.length 0)++u,?_,⟨A,k1,B,h3,by simp,fun s f q g=>?_,fun q g=>?_⟩,by simp⟩
 ·rw[k2,List.reverse_append,List.map_reverse]
 ·rcases List.mem_append.1 f with f | f
  ·obtain⟨t,ht,rfl⟩:=List.mem_map.1 f;exact⟨t,List.mem_append_left _ ht,MS _ _ _ q g⟩
  exact⟨s,List.mem_append_right _ (List.mem_cons_of_mem _ f),g⟩
 rw[k2] at g;exact MS _ _ _ q g
theorem PJ:∀{i:Nat} {w:List (List Rat)} {x:Re},AS w->In w x->i<=w.length->∃w',Fi i (w.reverse,co w x)=(w'.reverse,co w' x)/\GH w x w'
 | 0,w,x,h,c,_=>⟨w,rfl,.refl h c⟩
 | i+1,w,x,h,c,j=>by
  obtain⟨r,f,t1,l1⟩:=Vq h c j;obtain⟨o,g,t2⟩:=PJ t1.red t1.mem l1;exact⟨o,by rw[Fi,f,g],t1.trans t2⟩
end Go.Abs
namespace Go.Abs
open Go.RowKit
variable {a b m n p:Int} {e i:Nat}
theorem Mi.lt {x:UInt8} (_:Mi n x):x.toNat<256:=x.toNat_lt
theorem JE.lt {x:UInt32} (_:JE n x):x.toNat<4294967296:=x.toNat_lt
theorem An (k:Nat):AQ k k:=⟨rfl⟩
theorem AQ.of {k:Nat} (h:n=k):AQ n k:=⟨h⟩
theorem Ae (h:true=(a==b)):a=b:=by simpa using h.symm
theorem Ac (h:false=(a==b)):a≠b:=by simpa using h.symm
theorem Cs (h:true=(a !=b)):a≠b:=by simpa using h.symm
theorem Cr (h:false=(a !=b)):a=b:=by simpa using h.symm
theorem AY (h:true=decide (a<b)):a<b:=by simpa using h.symm
theorem AW (h:false=decide (a<b)):b<=a:=by simpa using h.symm
theorem IW (h:true=decide (a<=b)):a<=b:=by simpa using h.symm
theorem IV (h:false=decide (a<=b)):b<a:=by simpa using h.symm
theorem Bi (h:true=decide (a>b)):b<a:=by simpa using h.symm
theorem Bh (h:false=decide (a>b)):a<=b:=by simpa using h.symm
theorem Dn (h:true=decide (a >= b)):b<=a:=by simpa using h.symm
theorem Dm (h:false=decide (a >= b)):a<b:=by simpa using h.symm
theorem C2 {a:Bool} (h:true= !a):a=false:=by simpa using h.symm
theorem C1 {a:Bool} (h:false= !a):a=true:=by simpa using h.symm
theorem NB {a b:Bool} (h:true=(a==b)):a=b:=by simpa using h.symm
theorem NA {a b:Bool} (h:false=(a==b)):a≠b:=by simpa using h.symm
theorem RD {a b:Bool} (h:true=(a !=b)):a≠b:=by simpa using h.symm
theorem RC {a b:Bool} (h:false=(a !=b)):a=b:=by simpa using h.symm
theorem wrap_u32 (h:n=IntKind.u32.wrap m):n=m%4294967296:=h
theorem wrap_u64 (h:n=IntKind.u64.wrap m):n=m%18446744073709551616:=h
theorem wrap_i64 (h:n=IntKind.i64.wrap m):n=(m+9223372036854775808)%18446744073709551616-9223372036854775808:=by
 have e:IntKind.i64.wrap m=if (true&&decide (m%18446744073709551616 >= 9223372036854775808))=true then m%18446744073709551616-18446744073709551616 else m%18446744073709551616:=rfl
 rw[h,e]
 split
 ·rename_i c
  simp only[Bool.true_and,decide_eq_true_eq] at c;omega
 rename_i c
 simp only[Bool.true_and,decide_eq_true_eq] at c;omega
theorem DM (h:n=a.fdiv (2^e)) (c:2^e=p):n=a/p:=by
 rw[h,<-c,Int.fdiv_eq_ediv_of_nonneg _ (by have:=Int.pow_pos (n:=2) (m:=e) (by decide);omega)]
theorem Hp (h:n=IntKind.u64.wrap (a*2^e)) (c:2^e=p):n=(a*p)%18446744073709551616:=by rw[<-c];exact h
theorem AL {α:Type} {l:List α} (h:i<l.length):∃x,l[i]? =some x:=⟨l[i],by simp[h]⟩
theorem Bb (h:0<=n/\n<4294967296):∃w:UInt32,JE n w:=⟨UInt32.ofNat n.toNat,⟨by rw[UInt32.toNat_ofNat'];omega⟩⟩
theorem Ba {w:UInt32} (h:JE n w):Aj Ar [.int .u32 n] (cells .u32 w):=by
 refine⟨?_,trivial⟩
 show AC.int .u32 _=AC.int .u32 n
 rw[h.eq]
theorem Ew {α:Type} {l:List α} {x:α} (h:l[i]? =some x):i<l.length:=by
 apply Classical.byContradiction;intro c;rw[List.getElem?_eq_none (by omega)] at h;exact absurd h (by simp)
theorem CE {α:Type} {l:List α} {x:α} (h:l[i]? =some x):l.take (i+1)=l.take i++[x]:=by
 have c:=Ew h;rw[List.take_succ_eq_append_getElem c];rw[List.getElem?_eq_getElem c] at h;rw[Option.some.inj h]
theorem CX {t:T} {l m:List (el t)} {n k:Nat} (h:l=m) (c:n=k):AC.own t l n=AC.own t m k:=by rw[h,c]
end Go.Abs
