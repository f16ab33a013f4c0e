/- Part 28 of a proof. Conditions: each theorem's own. -/
import Derived.Test.YtmhbikooakmagaaGreatRk23
set_option linter.all false
set_option maxHeartbeats 8000000
set_option maxRecDepth 20000
namespace Go.Abs
open Go.RowKit
def HQ (x:el AA):Bool:=Fk x.1.1 x.1.2 x.2.1 x.2.2
def DB (x:el AA):Bool:=decide (x.1.2.length<=6)&&decide (x.2.2.length<=6)
def Dk (n:Nat) (l:List (el AA)):Bool:=decide (l.length=n)&&l.all HQ
def EN:Nat->List (List (el AA))->Bool
 | _,[]=>true
 | i,l::r=>Dk (2^i) l&&EN (i+1) r
def FG (T:List (List (el AA))) (A:List (el AA)):Bool:=A.all DB&&T.all fun l=>l.all DB
def Ji (q:Rat):Prop:=q.num.natAbs<2^192/\q.den<2^192
theorem Xd {l:List UInt32} (h:l.length<=6):AE l<2^192:=
 Nat.lt_of_lt_of_le (CR l) (Nat.pow_le_pow_right (by decide) (by omega:32*l.length<=192))
theorem kD {x:el AA} (h:HQ x=true) (a:DB x=true):∃q,x=rp q/\Ji q:=by
 obtain⟨q,b⟩:=PE.1 h;simp only[DB,Bool.and_eq_true,decide_eq_true_eq] at a;refine⟨q,b.rp.symm,?_,?_⟩
 ·have:=Xd a.1;rw[b.num.BC,Az] at this;exact this
 have:=Xd a.2;rw[b.den.BC,Az] at this;simpa using this
theorem YF:∀{l:List (el AA)},l.all HQ=true->l.all DB=true->∃xs:List Rat,l=Aa xs/\∀q∈xs,Ji q
 | [],_,_=>⟨[],rfl,by simp⟩
 | x::l,h,a=>by
  rw[List.all_cons,Bool.and_eq_true] at h a;obtain⟨q,e,d⟩:=kD h.1 a.1;obtain⟨xs,c,f⟩:=YF h.2 a.2
  exact⟨q::xs,by rw[e,c];rfl,fun z b=>by
   rcases List.mem_cons.1 b with rfl | b
   ·exact d
   exact f z b⟩
theorem YH:∀{T:List (List (el AA))} {i:Nat},EN i T=true->(T.all fun l=>l.all DB)=true->∃ts:List (List Rat),T=ts.map Aa/\(∀s∈ts,∀q∈s,Ji q)/\∀j s,ts[j]? =some s->s.length=2^(i+j)
 | [],_,_,_=>⟨[],rfl,by simp,fun j s h=>by simp at h⟩
 | l::T,i,h,b=>by
  rw[EN,Dk,Bool.and_eq_true,Bool.and_eq_true,decide_eq_true_eq] at h;rw[List.all_cons,Bool.and_eq_true] at b;obtain⟨xs,e,f⟩:=YF h.1.2 b.1;obtain⟨ts,c,ht,d⟩:=YH h.2 b.2;refine⟨xs::ts,by rw[e,c];rfl,fun s hs=>?_,fun j s a=>?_⟩
  ·rcases List.mem_cons.1 hs with rfl | hs
   ·exact f
   exact ht s hs
  cases j with
  | zero=>rw[List.getElem?_cons_zero] at a;rw[<-Option.some.inj a];have:=h.1.1;rw[e,List.length_map] at this;exact this
  | succ j=>rw[List.getElem?_cons_succ] at a;rw[d j s a];congr 1;omega
theorem Vr:∀{a:List Rat},(∀q∈a,Ji q)->∃D:Nat,0<D/\D<=2^(192*a.length)/\DN D a
 | [],_=>⟨1,by decide,by simp,fun q c=>by simp at c⟩
 | q::a,h=>by
  obtain⟨D,d,f,g⟩:=Vr (a:=a) (fun x b=>h x (List.mem_cons_of_mem _ b));have c:=(h q List.mem_cons_self).2;refine⟨q.den*D,Nat.mul_pos q.den_pos d,?_,fun x b=>?_⟩
  ·have:=Nat.mul_le_mul (Nat.le_of_lt c) f;rw[<-Nat.pow_add] at this;rw[List.length_cons,show 192*(a.length+1)=192+192*a.length by omega];exact this
  rcases List.mem_cons.1 b with rfl | b
  ·refine⟨x.num*D,?_⟩;rw[Rat.intCast_mul,<-JN x,Fp];have:((D:Int):Rat)=(D:Rat):=rfl
   grind
  exact g.dvd ⟨q.den,by grind⟩ x b
theorem fH {a:List Rat} (h:∀q∈a,Ji q):Bd (192*a.length) a:=by
 obtain⟨D,c,d,f⟩:=Vr h;refine⟨D,c,d,f,fun q b=>?_⟩;have g:1<=a.length:=List.length_pos_of_mem b;exact Xb (Nat.le_trans (Nat.le_of_lt (h q b).1) (CP))
structure Jf (u:List (List Rat)):Prop where
 form:∀j s,u.reverse[j]? =some s->s.length=2^j
 tb:TB 1540 u
 ht:u.length<=4
theorem gn {ts:List (List Rat)} (f:∀s∈ts,∀q∈s,Ji q) (d:∀j s,ts[j]? =some s->s.length=2^(0+j)) (h3:ts.length<=4):Jf ts.reverse where
 form:=fun j s h=>by rw[List.reverse_reverse] at h;have:=d j s h;rw[Nat.zero_add] at this;exact this
 tb:=fun s hs=>by
  have c:=List.mem_reverse.1 hs;obtain⟨j,g,e⟩:=List.mem_iff_getElem.1 c;have i:=d j s (by rw[List.getElem?_eq_getElem g,e]);have k:s.length<=8:=by rw[i];exact CP (a:=0+j) (b:=3)
  exact (fH (f s c)).mono (by omega)
 ht:=by rw[List.length_reverse];exact h3
theorem Jf.step {u:List (List Rat)} (F:Jf u) {i:Nat} (hi:i<u.length) (h:AT (pre u i)):∃r,(tw u)[i]? =some (Aa r)/\Aa r=em (pre u i) (AM (pre u i) r)/\El (pre u i) 1540 (AM (pre u i) r)/\Ae 1540 (pre u i)/\
  (0<AM (pre u i) r->¬Sq (pre u i) (AM (pre u i) r)->AT (pre u (i+1)))/\(AT u->0<AM (pre u i) r/\¬Sq (pre u i) (AM (pre u i) r)):=by
 obtain⟨r,c,g⟩:=Ig hi;have hs:∀k,pre u k<:+u:=fun k=>List.drop_suffix _ _
 have hm:r∈u:=(hs (i+1)).subset (by rw[c];exact List.mem_cons_self)
 have f:r.length=2^(pre u i).length:=by
  rw[GJ (by omega)];have h3:(u.reverse.map Aa)[i]? =some (Aa r):=g;rw[List.getElem?_map] at h3;cases d:u.reverse[i]? with
  | none=>rw[d] at h3;simp at h3
  | some s=>
   rw[d] at h3;have l:Aa s=Aa r:=Option.some.inj h3;have m:s.length=r.length:=by have:=congrArg List.length l;simpa using this
   rw[<-m];exact F.form i s d
 have j:co (pre u i) (AM (pre u i) r)=r:=VT h f;refine⟨r,g,by rw[em,j],⟨⟨r,f,rfl⟩,by rw[j];exact F.tb r hm⟩,⟨h,fun q n=>F.tb q ((hs i).subset n),by decide,?_⟩,fun a b=>by rw[c];exact⟨h,f,a,b⟩,fun a=>?_⟩
 ·rw[GJ (by omega)];have:=F.ht;omega
 have:=Il (hs (i+1)) a;rw[c] at this;exact⟨this.2.2.1,this.2.2.2⟩
end Go.Abs
