/- Part 29 of a proof. Conditions: each theorem's own. -/
import Derived.Test.YtclgfoceefhnkaaGreatDoorLk25
import Derived.Test.YtclgfoceefhnkaaGreatDoorLk27
set_option linter.all false
set_option maxHeartbeats 80000000
set_option maxRecDepth 20000
open Go.Proofs
namespace Go.Abs
open Go.RowKit
def FJ (n:Int):Bool:=(decide (n >= 97)&&decide (n<=122))||(decide (n >= 65)&&decide (n<=90))
def Io (n:Int):Bool:=decide (n >= 48)&&decide (n<=57)
def Hn (n:Int):Bool:=FJ n||(Io n||decide (n=95))
def GO (s:ByteArray):Nat->Nat->Nat
 | 0,i=>i
 | k+1,i=>match s.data[i]? with
  | some b=>if Hn (b.toNat:Nat)=true then GO s k (i+1) else i
  | none=>i
def Gj (s:ByteArray):Nat:=match s.data[0]? with
 | some b=>if FJ (b.toNat:Nat)=true then GO s s.size 0 else 0
 | none=>0
def F7 (s:ByteArray):Bool:= !(s.toList==(⟨#[]⟩:ByteArray).toList)&&(decide ((s.size:Int)<=24)&&(((Gj s:Nat):Int)==(s.size:Int)))
variable {i k:Nat} {n:Int}
theorem g8 {s:ByteArray} (h:s.size=0):Gj s=0:=by
 have:s.data[0]? =none:=Array.getElem?_eq_none (by have:s.data.size=s.size:=rfl;omega);unfold Gj;rw[this]
theorem g9 {s:ByteArray} {b:UInt8} (h:s.data[0]? =some b) (d:n=b.toNat) (a:false=FJ n):Gj s=0:=by
 unfold Gj;rw[h];simp only;rw[<-d,<-a];rfl
theorem hH {s:ByteArray} {b:UInt8} (h:s.data[0]? =some b) (d:n=b.toNat) (a:true=FJ n):Gj s=GO s s.size 0:=by
 unfold Gj;rw[h];simp only;rw[<-d,<-a];rfl
theorem gy {s:ByteArray} (h:¬i<s.size):GO s k i=i:=by
 cases k with
 | zero=>rfl
 | succ k=>rw[GO,Array.getElem?_eq_none (by have:s.data.size=s.size:=rfl;omega)]
theorem gz {s:ByteArray} {b:UInt8} (h:s.data[i]? =some b) (a:n=b.toNat) (hw:Hn n=false):GO s k i=i:=by
 cases k with
 | zero=>rfl
 | succ k=>rw[GO,h];simp only;rw[<-a,hw];rfl
theorem QC {s:ByteArray} {b:UInt8} (f:i+k=s.size) (h:s.data[i]? =some b) (a:n=b.toNat) (hw:Hn n=true):GO s k i=GO s (s.size-(i+1)) (i+1):=by
 have d:=(Array.getElem?_eq_some_iff.1 h).1;have:s.data.size=s.size:=rfl;obtain⟨k,rfl⟩:∃j,k=j+1:=⟨k-1,by omega⟩
 rw[GO,h];simp only;rw[<-a,hw,show s.size-(i+1)=k by omega];rfl
theorem SH {s:ByteArray} {j:Nat} {x y:UInt8} (a:s.data[i]? =some x) (b:s.data[j]? =some y) (e:i=j):x=y:=by subst e;exact Option.some.inj (a.symm.trans b)
theorem iE {s:ByteArray} {x y z:UInt8} {m k:Int} (d:s.data[i]? =some x) (h:s.data[i]? =some y) (j:s.data[i]? =some z) (e1:n=x.toNat) (f:m=y.toNat) (g:k=z.toNat) (a:false=FJ n) (b:false=Io m) (c:k≠95):Hn n=false:=by
 obtain rfl:=SH d h rfl;obtain rfl:=SH d j rfl;obtain rfl:n=m:=e1.trans f.symm;obtain rfl:n=k:=e1.trans g.symm;unfold Hn;rw[<-a,<-b,decide_eq_false c];rfl
theorem UT {c:Bool} (j:c=FJ n):CF 387 [.one (.int .u8 n)] (.one (.bool c)):=by
 refine CA Tryz.func387 (by kernel_rfl) rfl fun E s=>?_
 conv=>cbv
 intro n4 d;conv=>cbv
 cases n4 <;> conv=>cbv
 ·have m:=DI d;intro g a;conv=>cbv
  cases g <;> conv=>cbv
  ·have f:=DI a;exact AD ⟨⟨rfl,congrArg _ (by rw[j];unfold FJ;(try rw[<-d]);(try rw[<-a]);rfl),trivial⟩,trivial⟩
  have f:=DJ a;intro l b;conv=>cbv
  exact AD ⟨⟨rfl,congrArg _ (by rw[j];unfold FJ;(try rw[<-d]);(try rw[<-a]);(try rw[<-b]);rfl),trivial⟩,trivial⟩
 have m:=DJ d;intro r h;conv=>cbv
 cases r <;> conv=>cbv
 ·have o:=F4 h;intro g a;conv=>cbv
  cases g <;> conv=>cbv
  ·have f:=DI a;exact AD ⟨⟨rfl,congrArg _ (by rw[j];unfold FJ;(try rw[<-d]);(try rw[<-h]);(try rw[<-a]);rfl),trivial⟩,trivial⟩
  have f:=DJ a;intro l b;conv=>cbv
  exact AD ⟨⟨rfl,congrArg _ (by rw[j];unfold FJ;(try rw[<-d]);(try rw[<-h]);(try rw[<-a]);(try rw[<-b]);rfl),trivial⟩,trivial⟩
 have o:=F5 h;exact AD ⟨⟨rfl,congrArg _ (by rw[j];unfold FJ;(try rw[<-d]);(try rw[<-h]);rfl),trivial⟩,trivial⟩
theorem ah {c:Bool} (b:c=Io n):CF 388 [.one (.int .u8 n)] (.one (.bool c)):=by
 refine CA Tryz.func388 (by kernel_rfl) rfl fun E g=>?_
 conv=>cbv
 intro n4 a;conv=>cbv
 cases n4 <;> conv=>cbv
 ·have f:=DI a;exact AD ⟨⟨rfl,congrArg _ (by rw[b];unfold Io;(try rw[<-a]);rfl),trivial⟩,trivial⟩
 have f:=DJ a;intro h d;conv=>cbv
 exact AD ⟨⟨rfl,congrArg _ (by rw[b];unfold Io;(try rw[<-a]);(try rw[<-d]);rfl),trivial⟩,trivial⟩
theorem Hy {s:ByteArray} {b:UInt8} (h:s.data[n.toNat]? =some b) (e:n.toNat=i):s.data[i]? =some b:=e ▸ h
theorem iA {s:ByteArray} {c:Int} (hs:s.size<=1048576) (O:c=(Gj s:Nat)):CF 363 [.one (.str s),.one (.int .i64 0)] (.one (.int .i64 c)):=by
 refine CA Tryz.func363 (by kernel_rfl) rfl fun E T=>?_
 conv=>cbv
 intro n7 h7;have e7:n7=(ByteArray.size s:Nat):=h7.eq;conv=>cbv
 intro n8 h8;conv=>cbv
 cases n8 <;> conv=>cbv
 ·have k8:=AN h8;obtain⟨a2,h⟩:=M3 (z:=s) (n:=0) (by show (0:Int).toNat<_;omega);refine⟨a2,fun _=>⟨by omega,h⟩,?_⟩;intro V F;have A:=F.eq;have f12:=F.lt;conv=>cbv
  obtain⟨a8,d⟩:=xB (FJ V);refine AB T (UT d) ?_;conv=>cbv
  intro W G;conv=>cbv
  cases W <;> conv=>cbv
  ·have r:=CN G;refine .inr ?_;obtain⟨J0,b⟩:=xJ fun vs bl k=>∃(i':Nat) (i:Int),vs=[.one (.str s),.one (.int .i64 i)]/\(AR i i'/\i'<=s.size)/\Gj s=GO s (s.size-i') i'/\k=s.size-i'
   refine⟨[],[0,1],[],J0,⟨s.size-0,by rw[b];exact⟨0,0,rfl,⟨Ak 0,Nat.zero_le _⟩,hH h A (r.symm.trans d),rfl⟩⟩,?_⟩;intro vs bl ae hj;rw[b] at hj;obtain⟨i',i,rfl,⟨hi,ab⟩,hinv,ad⟩:=hj;conv=>cbv
   have ei:=hi.eq;intro X S;have aa:X=(ByteArray.size s:Nat):=S.eq;conv=>cbv
   intro Y H;conv=>cbv
   cases Y <;> conv=>cbv
   ·have U:=AY H;exact AD ⟨⟨rfl,congrArg _ (by rw[O,hinv,gy (by omega)];omega),trivial⟩,trivial⟩
   have U:=AZ H;obtain⟨a5,a⟩:=M3 (z:=s) (n:=i) (by omega);refine⟨a5,fun _=>⟨by omega,a⟩,?_⟩;intro N I;have o:=I.eq;have f24:=I.lt;conv=>cbv
   obtain⟨Q,f⟩:=xB (FJ N);refine AB T (UT f) ?_;conv=>cbv
   cases Q <;> conv=>cbv
   ·obtain⟨a6,j⟩:=M3 (z:=s) (n:=i) (by omega);refine⟨a6,fun _=>⟨by omega,j⟩,?_⟩;intro Z J;have C:=J.eq;have f29:=J.lt;conv=>cbv
    obtain⟨R,g⟩:=xB (Io Z);refine AB T (ah g) ?_;conv=>cbv
    cases R <;> conv=>cbv
    ·obtain⟨a7,l⟩:=M3 (z:=s) (n:=i) (by omega);refine⟨a7,fun _=>⟨by omega,l⟩,?_⟩;intro af K;have D:=K.eq;have f35:=K.lt;conv=>cbv
     intro a1 L;conv=>cbv
     cases a1 <;> conv=>cbv
     ·have t:=AN L;exact AD ⟨⟨rfl,congrArg _ (by rw[O,hinv,gz (n:=N) (Hy a (by omega)) o (iE (Hy a rfl) (Hy j rfl) (Hy l rfl) o C D f g t)];omega),trivial⟩,trivial⟩
     have t:=AO L;refine .inr ?_;intro m M;conv=>cbv
     refine AI ?_;refine⟨s.size-(i'+1),?_,?_⟩
     ·omega
     rw[b];exact⟨i'+1,m,rfl,⟨⟨by omega⟩,by omega⟩,hinv.trans (QC (by omega) (Hy l (by omega)) D (by unfold Hn;rw[decide_eq_true t];simp)),rfl⟩
    refine .inr ?_;intro m M;conv=>cbv
    refine AI ?_;refine⟨s.size-(i'+1),?_,?_⟩
    ·omega
    rw[b];exact⟨i'+1,m,rfl,⟨⟨by omega⟩,by omega⟩,hinv.trans (QC (by omega) (Hy j (by omega)) C (by unfold Hn;rw[<-g];simp)),rfl⟩
   refine .inr ?_;intro m M;conv=>cbv
   refine AI ?_;refine⟨s.size-(i'+1),?_,?_⟩
   ·omega
   rw[b];exact⟨i'+1,m,rfl,⟨⟨by omega⟩,by omega⟩,hinv.trans (QC (by omega) (Hy a (by omega)) o (by unfold Hn;rw[<-f];rfl)),rfl⟩
  have r:=CO G;exact AD ⟨⟨rfl,congrArg _ (by rw[O,g9 h A (r.symm.trans d)];rfl),trivial⟩,trivial⟩
 have k8:=AO h8;exact AD ⟨⟨rfl,congrArg _ (by rw[O,g8 (by omega)];rfl),trivial⟩,trivial⟩
theorem Jj {s:ByteArray} {c:Bool} (j:c=F7 s):CF 321 [.one (.str s)] (.one (.bool c)):=by
 refine CA Tryz.func321 (by kernel_rfl) rfl fun E t=>?_
 conv=>cbv
 intro n4 h;conv=>cbv
 cases n4 <;> conv=>cbv
 ·exact AD ⟨⟨rfl,congrArg _ (by rw[j];unfold F7;rw[<-h];rfl),trivial⟩,trivial⟩
 intro l r;have m:l=(ByteArray.size s:Nat):=r.eq;conv=>cbv
 intro C d;conv=>cbv
 cases C <;> conv=>cbv
 ·have z:=F4 d;exact AD ⟨⟨rfl,congrArg _ (by rw[j];unfold F7;rw[<-h,<-m,<-d];rfl),trivial⟩,trivial⟩
 have z:=F5 d;obtain⟨D,a⟩:=xI ((Gj s:Nat));refine cL t (iA (by omega) a) ⟨rfl,rfl,trivial⟩ ?_;conv=>cbv
 intro b f;have o:b=(ByteArray.size s:Nat):=f.eq;conv=>cbv
 intro A g;conv=>cbv
 exact AD ⟨⟨rfl,congrArg _ (by rw[j];unfold F7;rw[<-h,show (s.size:Int)=l from m.symm,<-d,<-a,show l=b by omega,<-g];rfl),trivial⟩,trivial⟩
end Go.Abs
namespace Go.Abs
section
variable {α:Type} [Lean.Grind.CommRing α]
def Ql:Nat->(Nat->α)->α
 | 0,_=>0
 | n+1,f=>Ql n f+f n
end
noncomputable def cf (u:List (List Rat)) (x:Re) (i:Nat):Rat:=(co u x).getD i 0
section
variable {u w:List (List Rat)} {x y:Re}
noncomputable def bb:List (List Rat)->Nat->Re
 | [],_=>1
 | r::u,i=>if i<2^u.length then bb u i else bb u (i-2^u.length)*rt u r
noncomputable def tr (u:List (List Rat)) (x:Re):Rat:=Ql (2^u.length) (fun i=>cf u (x*bb u i) i)
end
end Go.Abs
namespace Go.Abs
def Tn:List (List Rat)->Nat->Re->Prop
 | [],_,_=>False
 | r::t,i,v=>(i<2^t.length/\Tn t i v)\/(2^t.length<=i/\(v=AP t r\/Tn t (i-2^t.length) v))
end Go.Abs
namespace Go.Abs
section
variable {P:List (List Rat)->Prop} {R0:Nat}
end
end Go.Abs
namespace Go.Abs
abbrev Rn:Nat:=1540
abbrev Cn:Nat:=874000
end Go.Abs
namespace Go.Abs
open Go.RowKit
def okQ (x:el AA):Bool:=D6 x.1.1 x.1.2 x.2.1 x.2.2
def UZ (x:el AA):Bool:=decide (x.1.2.length<=6)&&decide (x.2.2.length<=6)
def U5 (n:Nat) (l:List (el AA)):Bool:=decide (l.length=n)&&l.all okQ
def U7:Nat->List (List (el AA))->Bool
 | _,[]=>true
 | i,l::r=>U5 (2^i) l&&U7 (i+1) r
def iV (T:List (List (el AA))) (A:List (el AA)):Bool:=A.all UZ&&T.all fun l=>l.all UZ
def ShV (q:Rat):Prop:=q.num.natAbs<2^192/\q.den<2^192
structure Frm (u:List (List Rat)):Prop where
 form:∀j s,u.reverse[j]? =some s->s.length=2^j
 tb:TB 1540 u
 ht:u.length<=4
end Go.Abs
namespace Go.Abs
open Go.RowKit
abbrev Sa:Nat:=8589934592
abbrev Sb:Nat:=34359738368
end Go.Abs
namespace Go.Abs
open Go.RowKit
variable {c:Bool}
theorem P9 (b:Bool) (l:List UInt32):Ef b l=(decide ((AS (AE l)).length=l.length)&&(!b||decide (0<l.length))):=by
 unfold Ef;cases h:l.getLast? with
 | none=>
  have:l=[]:=List.getLast?_eq_none_iff.1 h;subst this;simp[show AE []=0 from rfl,show AS 0=[] from Dx.2 rfl]
 | some w=>
  obtain⟨m,rfl⟩:=List.getLast?_eq_some_iff.1 h;have a:0<(m++[w]).length:=by simp
  rw[decide_eq_true a,Bool.or_true,Bool.and_true,<-JZ]
  show (w !=0)=_
  by_cases hw:w=0
  ·subst hw;have:=M8 m;rw[Hl,decide_eq_false (by simp;omega)];rfl
  rw[IQ hw,decide_eq_true rfl];simpa using hw
def iN (T:List LR) (A:LR):Prop:=(U7 0 T&&U5 (2^T.length) A)=true/\∃u,T=tw u/\Ag u
theorem RC {b:Bool} {l:List UInt32} (j:c=Ef b l):CF 195 [.agg (BC b l)] (.one (.bool c)):=by
 refine AM Tryz.func195 fun E z=>?_
 conv=>cbv
 obtain⟨I,d⟩:=xU (AS (AE l));refine AB z (Hw rfl d) ?_;conv=>cbv
 rintro G ⟨D,f6⟩;conv=>cbv
 rintro H ⟨F,f9⟩;conv=>cbv
 intro r f;conv=>cbv
 cases r <;> conv=>cbv
 ·have m:=AN f;refine g2 rfl ?_;exact AD ⟨⟨rfl,congrArg _ (by rw[j,P9,<-d,decide_eq_false (by omega)];rfl),trivial⟩,trivial⟩
 have m:=AO f;intro s a;conv=>cbv
 cases s <;> conv=>cbv
 ·have o:=CN a;rintro A ⟨t,f18⟩;conv=>cbv
  intro C g;conv=>cbv
  refine g2 rfl ?_;exact AD ⟨⟨rfl,congrArg _ (by have h:b=true:=(by cases b with | false=>cases a | true=>rfl);rw[j,P9,<-d,decide_eq_true (by omega),h,g,Bool.eq_iff_iff];simp;omega),trivial⟩,trivial⟩
 have o:=CO a;refine g2 rfl ?_;exact AD ⟨⟨rfl,congrArg _ (by have h:b=false:=(by cases b with | true=>cases a | false=>rfl);rw[j,P9,<-d,decide_eq_true (by omega),h];rfl),trivial⟩,trivial⟩
theorem Q5 {b1 b2:Bool} {l1 l2:List UInt32} (l:c=D6 b1 l1 b2 l2) (s1:l1.length<=4000000) (s2:l2.length<=4000000):CF 96 [.agg (BV b1 l1 b2 l2)] (.one (.bool c)):=by
 refine AM Tryz.func96 fun E h=>?_
 conv=>cbv
 obtain⟨C,a⟩:=xB (Ef b1 l1);refine AB h (RC a) ?_;conv=>cbv
 cases C <;> conv=>cbv
 ·exact AD ⟨⟨rfl,congrArg _ (by rw[l];unfold D6;rw[<-a];rfl),trivial⟩,trivial⟩
 obtain⟨D,b⟩:=xB (Ef b2 l2);refine AB h (RC b) ?_;conv=>cbv
 cases D <;> conv=>cbv
 ·exact AD ⟨⟨rfl,congrArg _ (by rw[l];unfold D6;rw[<-b];exact Bool.and_false _),trivial⟩,trivial⟩
 obtain⟨x,s⟩:=Hm.1 a.symm;obtain⟨y,m⟩:=Hm.1 b.symm;obtain⟨F,j⟩:=xI (B7 y);refine AB h (Hu m j) ?_;conv=>cbv
 intro r g;conv=>cbv
 cases r <;> conv=>cbv
 ·have o:=Bf g;exact AD ⟨⟨rfl,congrArg _ (by rw[l];exact XC m),trivial⟩,trivial⟩
 have o:=Bg g;obtain⟨t,z,f⟩:=AW (((Nat.gcd x.natAbs y.natAbs:Nat):Int));refine AB h (Fp s m f (by omega) (by omega)) ?_;conv=>cbv
 obtain⟨A,d⟩:=xB (decide (((Nat.gcd x.natAbs y.natAbs:Nat):Int)=1));refine AB h (HP f d) ?_;conv=>cbv
 exact AD ⟨⟨rfl,congrArg _ (by rw[l];exact XB a b s m (by omega) d),trivial⟩,trivial⟩
end Go.Abs
namespace Go.Abs
open Go.RowKit
def DZ:Nat->Nat->ByteArray->ByteArray
 | 0,_,s=>s
 | k+1,v,s=>if v=0 then s else DZ k (v/10) (ByteArray.mk [UInt8.ofNat (48+v%10)].toArray++s)
variable {B k v:Nat} {c:Bool} {n x y:Int} {p q:Rat}
theorem TR:∀(k k' v:Nat) (s:ByteArray),v<=k->v<=k'->DZ k v s=DZ k' v s
 | 0,0,_,_,_,_=>rfl
 |0,k'+1,v,s,h,_|k+1,0,v,s,_,h=>by rw[DZ,DZ,if_pos (by omega)]
 | k+1,k'+1,v,s,h,h'=>by
  rw[DZ,DZ]
  split
  ·rfl
  exact TR k k' _ _ (by omega) (by omega)
theorem bD {s:ByteArray} (h:v≠0):DZ v v s=DZ (v/10) (v/10) (ByteArray.mk [UInt8.ofNat (48+v%10)].toArray++s):=by
 obtain⟨k,rfl⟩:∃k,v=k+1:=⟨v-1,by omega⟩
 rw[DZ,if_neg h];exact TR _ _ _ _ (by omega) (Nat.le_refl _)
structure Fz (B v:Nat) (s:ByteArray):Prop where
 sz:s.size<=B+1
 lo:v≠0->v*2^s.size<=2^B
theorem WV (b:UInt8) (s:ByteArray):(ByteArray.mk [b].toArray++s).size=s.size+1:=by
 rw[ByteArray.size_append];have:(ByteArray.mk [b].toArray).size=1:=rfl;omega
theorem Fz.lt {s:ByteArray} (h:Fz B v s) (d:v≠0):s.size<=B:=by
 have a:=h.lo d;have b:2^s.size<=v*2^s.size:=Nat.le_mul_of_pos_left _ (by omega);exact (Nat.pow_le_pow_iff_right (by decide:1<2)).1 (Nat.le_trans b a)
theorem Fz.step {s:ByteArray} (h:Fz B v s) (a:v≠0) (b:UInt8):Fz B (v/10) (ByteArray.mk [b].toArray++s):=by
 have f:=h.lt a;refine⟨by rw[WV];omega,fun g=>?_⟩;rw[WV,Nat.pow_succ];have j:=h.lo a;have d:v/10*2<=v:=by omega
 have l:=Nat.mul_le_mul_right (2^s.size) d;have e:v/10*(2^s.size*2)=v/10*2*2^s.size:=by grind
 omega
theorem Fz.init (h:v<=2^B):Fz B v ⟨#[]⟩:=⟨Nat.zero_le _,fun _=>by
 have:(⟨#[]⟩:ByteArray).size=0:=rfl;rw[this];omega⟩
theorem TS:∀(k B v:Nat) (s:ByteArray),v<=k->Fz B v s->(DZ k v s).size<=B+1
 | 0,B,v,s,h,f=>f.sz
 | k+1,B,v,s,h,f=>by
  rw[DZ]
  split
  ·exact f.sz
  rename_i a
  exact TS k B _ _ (by omega) (f.step a _)
def GW (b:Bool) (v:Nat):ByteArray:=if ((DZ v v ⟨#[]⟩).toList==(⟨#[]⟩:ByteArray).toList)=true then⟨#[48]⟩ else if b=true then⟨#[45]⟩++DZ v v ⟨#[]⟩ else DZ v v ⟨#[]⟩
theorem bE {b:Bool} (h:v<=2^B):(GW b v).size<=B+2:=by
 have a:=TS v B v ⟨#[]⟩ (Nat.le_refl _) (Fz.init h);unfold GW
 split
 ·have:(⟨#[48]⟩:ByteArray).size=1:=rfl;omega
 split
 ·rw[ByteArray.size_append];have:(⟨#[45]⟩:ByteArray).size=1:=rfl;omega
 omega
theorem gj (h:n=((48+v%10:Nat):Int)):n=((UInt8.ofNat (48+v%10)).toNat:Nat):=by rw[UInt8.toNat_ofNat'];omega
theorem dn {w:UInt8} (h:n=(w.toNat:Nat)):Aq BG [.int .u8 n] (cells .u8 w):=⟨by rw[h];rfl,trivial⟩
theorem YN {b:Bool} {l:List UInt32} {r:ByteArray} (Z:Af x b l) (hl:l.length<=17592186044416) (hB:AE l<=2^B) (a1:B<=1000000000) (Q:r=GW b (AE l)):CF 362 [.agg (BC b l)] (.one (.str r)):=by
 refine CA Tryz.func362 (by kernel_rfl) rfl fun E X=>?_
 conv=>cbv
 refine AB X (Gr Z) ?_;conv=>cbv
 refine .inr ?_;obtain⟨J0,A⟩:=xJ fun vs W k=>∃(v:Nat) (s:ByteArray) (m:List UInt32),vs=[.one (.Ae 1 0 0),.one (.str s),.one (.sl .u32 m)]/\W=[.var 0 [.bool b,.sl .u32 l]]/\(m=AS v/\m.length<=l.length)/\Fz B v s/\DZ v v s=DZ (AE l) (AE l) ⟨#[]⟩/\k=v
 refine⟨[],[1,3,4],[1],J0,⟨AE l,by rw[A];exact⟨AE l,⟨#[]⟩,l,rfl,rfl,⟨Z.trim.symm,Nat.le_refl _⟩,Fz.init hB,rfl,rfl⟩⟩,?_⟩;intro vs W a5 Y;rw[A] at Y;obtain⟨v,s,m,rfl,rfl,⟨hm,O⟩,N,hinv,a2⟩:=Y;conv=>cbv
 rintro a8 ⟨F,f12⟩;conv=>cbv
 intro T G;conv=>cbv
 cases T <;> conv=>cbv
 ·have R:=Bf G;intro V t;conv=>cbv
  cases V <;> conv=>cbv
  ·cases b <;> conv=>cbv
   ·have a:v=0:=Dx.1 (by rw[<-hm];exact List.length_eq_zero_iff.1 (by omega));have f:s=DZ (AE l) (AE l) ⟨#[]⟩:=by subst a;exact hinv
    exact AD ⟨⟨rfl,congrArg _ (by rw[Q,GW,<-f,if_neg (by rw[<-t];decide)];first | rfl | (rw[if_pos rfl];exact j.symm)),trivial⟩,trivial⟩
   refine⟨fun _=>by rw[show (⟨#[45]⟩:ByteArray).size=1 from rfl];have:=N.sz;omega,?_⟩;intro a7 j;conv=>cbv
   have a:v=0:=Dx.1 (by rw[<-hm];exact List.length_eq_zero_iff.1 (by omega));have f:s=DZ (AE l) (AE l) ⟨#[]⟩:=by subst a;exact hinv
   exact AD ⟨⟨rfl,congrArg _ (by rw[Q,GW,<-f,if_neg (by rw[<-t];decide)];first | rfl | (rw[if_pos rfl];exact j.symm)),trivial⟩,trivial⟩
  have a:v=0:=Dx.1 (by rw[<-hm];exact List.length_eq_zero_iff.1 (by omega));have f:s=DZ (AE l) (AE l) ⟨#[]⟩:=by subst a;exact hinv
  exact AD ⟨⟨rfl,congrArg _ (by rw[Q,GW,<-f,if_pos t.symm]),trivial⟩,trivial⟩
 have R:=Bg G;refine .inr ?_;have L:AE m=v:=by rw[hm,Aw]
 have C:v≠0:=fun e=>by subst e;rw[E5] at hm;rw[hm] at F;simp at F;omega
 obtain⟨M,g⟩:=xU (AS (v/10));obtain⟨d16,K⟩:=xI (((v%10:Nat):Int));refine AB (r:= .AJ [(false,[.sl .u32 M]),(false,[.int .u32 d16])]) X (RG (b:=10) (Ak 10) (by decide) (by decide) (by rw[L];exact g) (by rw[L];exact⟨K⟩) (by omega)) ?_;try conv=>cbv
 intro aa H;conv=>cbv
 have H:=wrap_u32 H;intro U I;conv=>cbv
 have I:=wrap_u8 I;have J:U=((48+v%10:Nat):Int):=by omega
 obtain⟨D,o⟩:∃z:UInt8,z=UInt8.ofNat (48+v%10):=⟨_,rfl⟩
 refine⟨[D],fun _=>⟨rfl,by decide,rfl,⟨rfl,dn (by rw[o];exact gj J),trivial⟩⟩,.inr ?_⟩;try conv=>cbv
 refine⟨[D],fun _=>rfl,?_⟩;intro a6 d;conv=>cbv
 refine⟨fun _=>by rw[d,show (ByteArray.mk [D].toArray).size=1 from rfl];have:=N.lt C;omega,?_⟩;intro S h;conv=>cbv
 refine⟨v/10,?_,?_⟩
 ·omega
 rw[A];exact⟨v/10,S,M,rfl,rfl,⟨g,Nat.le_trans (by rw[g,hm];exact Df (Nat.div_le_self _ _)) O⟩,(by rw[h,d];exact N.step C _),(by rw[h,d,o];exact (bD C).symm.trans hinv),rfl⟩
theorem eV {b1 b2:Bool} {l1 l2:List UInt32} (j:Af x b1 l1) (l:Af y b2 l2) (g:b1=b2) {r:Int} (h:r=BQ (x.natAbs:Nat) (y.natAbs:Nat)):decide (x=y)=(r==0):=by
 have d:=j.neg;have f:=l.neg;rw[g,f] at d;have m:(y<0)↔(x<0):=by simpa using d
 rw[h,Bool.eq_iff_iff,decide_eq_true_iff,beq_iff_eq];rcases H0 (x.natAbs:Nat) (y.natAbs:Nat) with⟨a,b⟩ |⟨a,b⟩ |⟨a,b⟩ <;> rw[b] <;> omega
def Ge:Nat->ByteArray->ByteArray
 | 0,s=>s
 | f+1,s=>Ge f (⟨#[48]⟩++s)
theorem WW (s:ByteArray):((⟨#[48]⟩:ByteArray)++s).size=s.size+1:=by
 rw[ByteArray.size_append];have:(⟨#[48]⟩:ByteArray).size=1:=rfl;omega
def Mj (k:Nat) (s:ByteArray):ByteArray:=if k>0 then (s.extract 0 (s.size-k)++⟨#[46]⟩)++s.extract (s.size-k) s.size else s
def Jd (k:Nat) (q:Rat):ByteArray:=Mj k (Ge (k+1-(GW (decide (q.num<0)) q.num.natAbs).size) (GW (decide (q.num<0)) q.num.natAbs))
def Fx:Nat->Nat->Rat->ByteArray×Bool
 | 0,_,_=>(⟨#[]⟩,false)
 | f+1,k,q=>if (q.den:Int)=1 then (Jd k q,decide (((Jd k q).size:Int)<=40)) else Fx f (k+1) (q*((10:Int):Rat))
structure K7 (b1:Bool) (l1:List UInt32) (b2:Bool) (l2:List UInt32) (R:ByteArray) (c:Bool):Prop where
 no:D6 b1 l1 b2 l2=false->(R,c)=(⟨#[]⟩,false)
 lt:∀q,BE q b1 l1 b2 l2->DO q<0->(R,c)=(⟨#[]⟩,false)
 ge:∀q,BE q b1 l1 b2 l2->¬DO q<0->(R,c)=Fx 41 0 q
theorem Oe {b1 b2:Bool} {l1 l2:List UInt32} (h:BE p b1 l1 b2 l2) (h':BE q b1 l1 b2 l2):p=q:=by
 have a:=h.num.Dz.trans h'.num.Dz.symm;have b:=h.den.Dz.trans h'.den.Dz.symm;exact Rat.ext a (by omega)
theorem Sl (b1:Bool) (l1:List UInt32) (b2:Bool) (l2:List UInt32):∃R c,K7 b1 l1 b2 l2 R c:=by
 by_cases f:∃q,BE q b1 l1 b2 l2
 ·obtain⟨q,b⟩:=f;have g:D6 b1 l1 b2 l2=true:=K4.2 ⟨q,b⟩
  by_cases d:DO q<0
  ·exact⟨_,_,fun _=>rfl,fun _ _ _=>rfl,fun p a h=>absurd (Oe a b ▸ d) h⟩
  exact⟨(Fx 41 0 q).1,(Fx 41 0 q).2,fun h=>(by rw[g] at h;cases h),fun p a h=>absurd (Oe a b ▸ h) d,fun p a _=>by rw[Oe a b]⟩
 exact⟨_,_,fun _=>rfl,fun _ _ _=>rfl,fun p a _=>absurd ⟨p,a⟩ f⟩
theorem Sk (a:k<=40) (h:(q.den:Int)=1):Fx (41-k) k q=(Jd k q,decide (((Jd k q).size:Int)<=40)):=by
 rw[show 41-k=(40-k)+1 by omega,Fx,if_pos h]
theorem aR (a:k<=40) (h:¬(q.den:Int)=1):Fx (41-k) k q=Fx (41-(k+1)) (k+1) (q*((10:Int):Rat)):=by
 rw[show 41-k=(41-(k+1))+1 by omega,Fx,if_neg h]
theorem dZ {s:ByteArray} (h:s.size<=k):Ge (k+1-s.size) s=Ge (k+1-(⟨#[48]⟩++s).size) (⟨#[48]⟩++s):=by
 rw[WW,show k+1-s.size=(k+1-(s.size+1))+1 by omega,Ge]
theorem WZ {a b:Nat} (d:p.num.natAbs<2^(32*a)) (f:p.den<2^(32*b)) (g:a<=4000000000000) (h:b<=4000000000000):Bt p:=
 ⟨Nat.le_trans (Ep d) g,Nat.le_trans (Ep f) h⟩
theorem cm:(p*((10:Int):Rat)).num.natAbs<=p.num.natAbs*10/\(p*((10:Int):Rat)).den<=p.den:=by
 have a:((10:Int):Rat).num=10:=rfl;have b:((10:Int):Rat).den=1:=rfl;rw[Rat.num_mul,Rat.den_mul,a,b,Nat.mul_one];refine⟨?_,Nat.div_le_self _ _⟩;refine Nat.le_trans (Int.natAbs_ediv_le_natAbs _ _) ?_;rw[Int.natAbs_mul];exact Nat.le_refl _
structure Bq (k:Nat) (p:Rat):Prop where
 num:p.num.natAbs<2^(32*(1048580+k))
 den:p.den<2^(32*(1048580+k))
theorem Bq.small (h:Bq k p) (a:k<=41):Bt p:=WZ h.num h.den (by omega) (by omega)
theorem Bq.step (h:Bq k p):Bq (k+1) (p*((10:Int):Rat)):=by
 obtain⟨a,b⟩:=cm (p:=p);refine⟨Nat.lt_of_le_of_lt a ?_,Nat.lt_of_le_of_lt b (Nat.lt_of_lt_of_le h.den (Nat.pow_le_pow_right (by decide) (by omega)))⟩;have d:=h.num;rw[show 32*(1048580+(k+1))=32*(1048580+k)+32 by omega,Nat.pow_add]
 generalize 2^(32*(1048580+k))=P at*
 have:(2:Nat)^32=4294967296:=by decide
 rw[this];omega
theorem Bq.init {b1 b2:Bool} {l1 l2:List UInt32} (h:BE q b1 l1 b2 l2) (s1:l1.length<=1048580) (s2:l2.length<=1048580):Bq 0 q:=by
 have a:=CI l1;have b:=CI l2;rw[h.num.nat] at a;rw[h.den.nat] at b;have c:32*l1.length<=32*(1048580+0):=by omega
 have d:32*l2.length<=32*(1048580+0):=by omega
 constructor
 ·generalize 32*(1048580+0)=K at *;exact Nat.lt_of_lt_of_le a (Nat.pow_le_pow_right (by decide) c)
 generalize 32*(1048580+0)=K at *;exact Nat.lt_of_lt_of_le b (Nat.pow_le_pow_right (by decide) d)
theorem Bq.bits {b1 b2:Bool} {l1 l2:List UInt32} (h:Bq k p) (a:BE p b1 l1 b2 l2) (d:k<=41) (b:B=40000000):AE l1<=2^B:=by
 rw[a.num.nat];exact Nat.le_trans (Nat.le_of_lt h.num) (Nat.pow_le_pow_right (by decide) (by omega))
theorem Yi {b1 b2:Bool} {l1 l2:List UInt32} (f:Af x b1 l1) (g:Af y b2 l2) (h:c=decide (x=y)):CF 361 [.agg (BC b1 l1),.agg (BC b2 l2)] (.one (.bool c)):=by
 refine CA Tryz.func361 (by kernel_rfl) rfl fun E j=>?_
 conv=>cbv
 intro o b;conv=>cbv
 cases o <;> conv=>cbv
 ·have l:=Nv b;exact AD ⟨⟨rfl,congrArg _ (by rw[h];exact decide_eq_false fun e=>absurd (f.uniq g e).1 (beq_eq_false_iff_ne.1 b.symm)),trivial⟩,trivial⟩
 have l:=Nw b;obtain⟨r,a⟩:=xI (BQ (x.natAbs:Nat) (y.natAbs:Nat));refine AB j (Jv f.BD g.BD a) ?_;conv=>cbv
 intro m d;conv=>cbv
 exact AD ⟨⟨rfl,congrArg _ (by rw[h,eV f g (beq_iff_eq.1 b.symm) a,d]),trivial⟩,trivial⟩
theorem W5 {b1 b2:Bool} {l1 l2:List UInt32} (b:BE p b1 l1 b2 l2) {r s:ByteArray} (d:r=GW b1 (AE l1)) (a:Ge (k+1-s.size) s=Ge (k+1-r.size) r) (f:¬s.size<=k):Jd k p=Mj k s:=by
 unfold Jd;rw[<-b.num.neg,<-b.num.nat,<-d,<-a,show k+1-s.size=0 by omega,Ge]
theorem K8 {b1 b2:Bool} {l1 l2:List UInt32} {R:ByteArray} (s1:l1.length<=1048580) (s2:l2.length<=1048580) (hR:K7 b1 l1 b2 l2 R c):CF 320 [.agg (BV b1 l1 b2 l2)] (.AJ [(false,[.str R]),(false,[.bool c])]):=by
 obtain⟨B,hB⟩:=xN 40000000;refine CA Tryz.func320 (by kernel_rfl) rfl fun E K=>?_
 conv=>cbv
 obtain⟨aF,m⟩:=xB (D6 b1 l1 b2 l2);refine AB K (Q5 m (by omega) (by omega)) ?_;conv=>cbv
 intro ao U;conv=>cbv
 cases ao <;> conv=>cbv
 ·have Q:=CN U;obtain⟨q,hq⟩:=K4.1 (m.symm.trans Q);obtain⟨b4,aa⟩:=xI (DO q);refine AB K (NW hq aa) ?_;conv=>cbv
  intro aq V;conv=>cbv
  cases aq <;> conv=>cbv
  ·have aj:=AY V;obtain⟨c1,m1,c2,m2,ht⟩:=Bl ((10:Int):Rat);refine AB K (D3 (by decide) rfl ht) ?_;conv=>cbv
   obtain⟨f,fl,a6⟩:=AW 1;refine AB K (Jr (by decide) a6) ?_;conv=>cbv
   refine .inr ?_;obtain⟨J0,L⟩:=xJ fun vs bl k=>∃(g:Nat) (j:Int) (p:Rat) (x1 x2:Bool) (y1 y2:List UInt32),vs=[.one (.Ae 4 0 0),.one (.Ae 5 0 0),.one (.Ae 6 0 0),.one (.int .i64 j)]/\bl=[.var 0 [.bool c1,.sl .u32 m1,.bool c2,.sl .u32 m2],.var 0 [.bool f,.sl .u32 fl],.var 0 [.bool x1,.sl .u32 y1,.bool x2,.sl .u32 y2]]/\(AR j g/\g<=41)/\BE p x1 y1 x2 y2/\Bq g p/\(R,c)=Fx (41-g) g p/\k=41-g
   refine⟨[],[4,5,6,7],[4,5,6],J0,⟨41-0,by rw[L];exact⟨0,0,q,b1,b2,l1,l2,rfl,rfl,⟨Ak 0,by omega⟩,hq,Bq.init hq (by omega) (by omega),hR.ge q hq (by omega),rfl⟩⟩,?_⟩;intro vs bl aV N;rw[L] at N;obtain⟨g,j,p,x1,x2,y1,y2,rfl,rfl,⟨N,aO⟩,O,C,A,aP⟩:=N;conv=>cbv
   have ej:=N.eq;intro ar W;conv=>cbv
   cases ar <;> conv=>cbv
   ·have ak:=F4 W;have d:=A;rw[show 41-g=0 by omega,Fx] at d;exact AD ⟨⟨rfl,congrArg _ (congrArg Prod.fst d),trivial⟩,⟨rfl,congrArg _ (congrArg Prod.snd d),trivial⟩,trivial⟩
   have ak:=F5 W;refine .inr ?_;obtain⟨ad,h⟩:=xB (decide ((p.den:Int)=1));refine AB K (Yi O.den a6 h) ?_;conv=>cbv
   cases ad <;> conv=>cbv
   ·obtain⟨u1,w1,u2,w2,hz⟩:=Bl (p*((10:Int):Rat));have ae:Bt ((10:Int):Rat):=WZ (a:=1) (b:=1) (by decide) (by decide) (by decide) (by decide);refine AB K (Q0 O ht (C.small (by omega)) ae rfl hz) ?_;conv=>cbv
    intro au aL;conv=>cbv
    refine AI ?_;refine⟨41-(g+1),?_,?_⟩
    ·omega
    rw[L];exact⟨g+1,au,_,u1,u2,w1,w2,rfl,rfl,⟨⟨by omega⟩,by omega⟩,hz,C.step,A.trans (aR (by omega) (of_decide_eq_false h.symm)),rfl⟩
   obtain⟨t,l⟩:∃z:ByteArray,z=GW x1 (AE y1):=⟨_,rfl⟩
   have a5:=C.bits O (by omega) hB;have aS:t.size<=B+2:=l ▸ bE a5;have aU:=(O.small (C.small (by omega))).1;refine AB K (YN O.num (by omega) a5 (by omega) l) ?_;conv=>cbv
   refine .inr ?_;obtain⟨J1,M⟩:=xJ fun vs bl k=>∃(s:ByteArray),vs=[.one (.int .i64 j),.one (.str s)]/\Ge (g+1-s.size) s=Ge (g+1-t.size) t/\s.size<=B+50/\k=g+1-s.size
   refine⟨[],[7,8],[],J1,⟨g+1-t.size,by rw[M];exact⟨t,rfl,rfl,by omega,rfl⟩⟩,?_⟩;intro vs bl aW N;rw[M] at N;obtain⟨s,rfl,r,aT,aQ⟩:=N;conv=>cbv
   intro av af;have aI:av=(ByteArray.size s:Nat):=af.eq;conv=>cbv
   intro aw X;conv=>cbv
   cases aw <;> conv=>cbv
   ·have al:=F4 X;intro ax Y;conv=>cbv
    refine .inr ?_;cases ax <;> conv=>cbv
    ·have an:=Bf Y;intro T I;have H:T=(ByteArray.size s:Nat):=I.eq;conv=>cbv
     intro aC J;conv=>cbv
     have d:=A.trans (Sk (by omega) (of_decide_eq_true h.symm));rw[W5 O l r (by omega)] at d;rw[Mj,if_neg (by omega)] at d;exact AD ⟨⟨rfl,congrArg _ (congrArg Prod.fst d),trivial⟩,⟨rfl,congrArg _ ((congrArg Prod.snd d).trans (by rw[J,H])),trivial⟩,trivial⟩
    have an:=Bg Y;intro ay ag;have aJ:ay=(ByteArray.size s:Nat):=ag.eq;conv=>cbv
    intro az aM;conv=>cbv
    refine AI ?_;intro b0 aD;conv=>cbv
    refine AH ?_;intro aG a1;refine⟨rfl,?_⟩;intro aX o;conv=>cbv
    refine⟨fun _=>by rw[o,show (⟨#[46]⟩:ByteArray).size=1 from rfl,ByteArray.size_extract];omega,?_⟩;intro aY F;conv=>cbv
    intro aA ah;have aK:aA=(ByteArray.size s:Nat):=ah.eq;conv=>cbv
    intro aB aN;conv=>cbv
    refine AI ?_;intro b3 a8;conv=>cbv
    refine AH ?_;rintro aE aH ⟨Z,a2⟩;refine⟨rfl,?_⟩;intro aZ G;conv=>cbv
    refine⟨fun _=>by rw[F,o,G,ByteArray.size_append,show (⟨#[46]⟩:ByteArray).size=1 from rfl,ByteArray.size_extract,ByteArray.size_extract];omega,?_⟩;intro ab a7;conv=>cbv
    refine g2 rfl ?_;intro T I;have H:T=(ByteArray.size ab:Nat):=I.eq;conv=>cbv
    intro aC J;conv=>cbv
    have d:=A.trans (Sk (by omega) (of_decide_eq_true h.symm));rw[W5 O l r (by omega)] at d;have e9:ab=(s.extract 0 (s.size-g)++⟨#[46]⟩)++s.extract (s.size-g) s.size:=by rw[a7,F,o,G,a1,Z,a2,a8,show az.toNat=s.size-g by omega,show aB.toNat=s.size-g by omega]
    rw[Mj,if_pos (by omega),<-e9] at d;exact AD ⟨⟨rfl,congrArg _ (congrArg Prod.fst d),trivial⟩,⟨rfl,congrArg _ ((congrArg Prod.snd d).trans (by rw[J,H])),trivial⟩,trivial⟩
   have al:=F5 X;refine .inr ?_;refine⟨fun _=>by rw[show (⟨#[48]⟩:ByteArray).size=1 from rfl];omega,?_⟩;intro S D;conv=>cbv
   have ai:S.size=s.size+1:=by rw[D];exact WW s
   refine⟨g+1-S.size,?_,?_⟩
   ·omega
   rw[M];exact⟨S,rfl,by rw[D];exact (dZ (by omega)).symm.trans r,by omega,rfl⟩
  have aj:=AZ V;have d:=hR.lt q hq (by omega);exact AD ⟨⟨rfl,congrArg _ (congrArg Prod.fst d),trivial⟩,⟨rfl,congrArg _ (congrArg Prod.snd d),trivial⟩,trivial⟩
 have Q:=CO U;have d:=hR.no (m.symm.trans Q);exact AD ⟨⟨rfl,congrArg _ (congrArg Prod.fst d),trivial⟩,⟨rfl,congrArg _ (congrArg Prod.snd d),trivial⟩,trivial⟩
end Go.Abs
namespace Go.Abs
open Go.RowKit
noncomputable def Il (x:el AA):ByteArray:=Classical.choose (Sl x.1.1 x.1.2 x.2.1 x.2.2)
theorem Sn (x:el AA):∃c,K7 x.1.1 x.1.2 x.2.1 x.2.2 (Il x) c:=Classical.choose_spec (Sl x.1.1 x.1.2 x.2.1 x.2.2)
noncomputable def H4 (x:el AA):Bool:=Classical.choose (Sn x)
theorem Lo (x:el AA):K7 x.1.1 x.1.2 x.2.1 x.2.2 (Il x) (H4 x):=Classical.choose_spec (Sn x)
def DL (s:ByteArray):Bool:=s.toList==(⟨#[]⟩:ByteArray).toList
def Al (v:el AA):Bool:=((!v.1.1&& !v.2.1)&&((v.1.2.length:Int)==0))&&((v.2.2.length:Int)==0)
def sh (o:Int) (z d m nb:Bool) (l:Int):Bool:=
 if o=1 then (d&&(m||nb))&&(l==0) else if o=2 then (z&&nb)&&(l==0) else if o=3 then (z&&m)&&(l==1)
 else if o=4\/o=5\/o=6\/o=7 then (z&&m)&&(l==2) else false
noncomputable def Ku (e:Ex):Bool:=sh e.op (Al e.v) (H4 e.v) (DL e.name) (F7 e.name) (e.args.length:Nat)
mutual
noncomputable def G0:Ex->Bool
 | .mk o v s l=>Ku (.mk o v s l)&&G1 l
noncomputable def G1:List Ex->Bool
 | []=>true
 | x::r=>G0 x&&G1 r
end
mutual
def Em:Ex->Int
 | .mk _ _ _ l=>Ez 0 l+1
def Ez:Int->List Ex->Int
 | n,[]=>n
 | n,x::r=>Ez (if Em x>n then Em x else n) r
end
theorem bI (e:Ex):G0 e=(Ku e&&G1 e.args):=by cases e;rfl
theorem Sr (e:Ex):Em e=Ez 0 e.args+1:=by cases e;rfl
theorem TV {l:List Ex} {i:Nat} {x:Ex} (h:l[i]? =some x):G1 (l.drop i)=(G0 x&&G1 (l.drop (i+1))):=by
 have a:=Dm h;rw[List.drop_eq_getElem_cons a,G1];rw[List.getElem?_eq_getElem a] at h;rw[Option.some.inj h]
theorem aT {l:List Ex} {i:Nat} {x:Ex} {n:Int} (h:l[i]? =some x):Ez n (l.drop i)=Ez (if Em x>n then Em x else n) (l.drop (i+1)):=by
 have a:=Dm h;rw[List.drop_eq_getElem_cons a,Ez];rw[List.getElem?_eq_getElem a] at h;rw[Option.some.inj h]
theorem Sp {N:Int}:∀(l:List Ex) (n:Int),0<=n->n<=N->(∀x∈l,0<=Em x/\Em x<=N)->0<=Ez n l/\Ez n l<=N
 | [],n,a,b,_=>⟨a,b⟩
 | x::r,n,a,b,h=>by
  rw[Ez];have:=h x List.mem_cons_self;exact Sp r _ (by split <;> omega) (by split <;> omega) fun y d=>h y (List.mem_cons_of_mem _ d)
theorem aU {N:Nat} {e:Ex} (h:EW N e):0<=Em e/\Em e<=N:=by
 induction h with
 | mk N y b d f g j a=>
  rw[Sr];have:=Sp (N:=N) y.args 0 (by omega) (by omega) a;omega
theorem EW.lens {N:Nat} {e:Ex} (h:EW N e):e.v.1.2.length<=N/\e.v.2.2.length<=N/\e.args.length<=N:=by
 cases h with
 | mk N y a b f d g=>exact⟨a,b,d⟩
theorem fJ {o:Int} {a b:Bool} {l m:List UInt32} {s:ByteArray} {r:List Ex} {c:Bool} (s1:l.length<=1048580) (s2:m.length<=1048580) (I:c=Ku (.mk o ((a,l),(b,m)) s r)):CF 267 [.agg [.int .i64 o,.bool a,.sl .u32 l,.bool b,.sl .u32 m,.str s,.sl .ex r]] (.one (.bool c)):=by
 have I:c=sh o (Al ((a,l),(b,m))) (H4 ((a,l),(b,m))) (DL s) (F7 s) ((r.length:Nat):Int):=I;refine CA Tryz.func267 (by kernel_rfl) rfl fun E hE=>?_
 conv=>cbv
 intro aD f;conv=>cbv
 cases aD <;> conv=>cbv
 ·have aA:=CN f;refine .inr ?_;intro aa T;conv=>cbv
  cases aa <;> conv=>cbv
  ·have d:=AN T;intro af U;conv=>cbv
   cases af <;> conv=>cbv
   ·have j:=AN U;intro ag V;conv=>cbv
    cases ag <;> conv=>cbv
    ·have t:=AN V;intro ah W;conv=>cbv
     refine .inr ?_;cases ah <;> conv=>cbv
     ·have F:=AN W;intro ai X;conv=>cbv
      refine .inr ?_;cases ai <;> conv=>cbv
      ·have H:=AN X;intro aj Y;conv=>cbv
       refine .inr ?_;cases aj <;> conv=>cbv
       ·have L:=AN Y;intro ak Z;conv=>cbv
        cases ak <;> conv=>cbv
        ·have M:=AN Z;have g:Al ((a,l),(b,m))=false:=by unfold Al;rw[<-f];rfl
         exact AD ⟨⟨rfl,congrArg _ (by rw[I,g];simp[sh,d,j,t,F,H,L,M]),trivial⟩,trivial⟩
        have M:=AO Z;have g:Al ((a,l),(b,m))=false:=by unfold Al;rw[<-f];rfl
        exact AD ⟨⟨rfl,congrArg _ (by rw[I,g];simp[sh,d,j,t,F,H,L,M]),trivial⟩,trivial⟩
       have L:=AO Y;have g:Al ((a,l),(b,m))=false:=by unfold Al;rw[<-f];rfl
       exact AD ⟨⟨rfl,congrArg _ (by rw[I,g];simp[sh,d,j,t,F,H,L]),trivial⟩,trivial⟩
      have H:=AO X;have g:Al ((a,l),(b,m))=false:=by unfold Al;rw[<-f];rfl
      exact AD ⟨⟨rfl,congrArg _ (by rw[I,g];simp[sh,d,j,t,F,H]),trivial⟩,trivial⟩
     have F:=AO W;have g:Al ((a,l),(b,m))=false:=by unfold Al;rw[<-f];rfl
     exact AD ⟨⟨rfl,congrArg _ (by rw[I,g];simp[sh,d,j,t,F]),trivial⟩,trivial⟩
    have t:=AO V;have g:Al ((a,l),(b,m))=false:=by unfold Al;rw[<-f];rfl
    exact AD ⟨⟨rfl,congrArg _ (by rw[I,g];simp[sh,d,j,t]),trivial⟩,trivial⟩
   have j:=AO U;have g:Al ((a,l),(b,m))=false:=by unfold Al;rw[<-f];rfl
   exact AD ⟨⟨rfl,congrArg _ (by rw[I,g];simp[sh,d,j]),trivial⟩,trivial⟩
  have d:=AO T;obtain⟨a7,D⟩:=xB (H4 ((a,l),(b,m)));obtain⟨ar,a2⟩:∃z:ByteArray,z=Il ((a,l),(b,m)):=⟨_,rfl⟩
  refine AB hE (K8 s1 s2 (D ▸ a2 ▸ Lo ((a,l),(b,m)))) ?_;conv=>cbv
  cases a7 <;> conv=>cbv
  ·have g:Al ((a,l),(b,m))=false:=by unfold Al;rw[<-f];rfl
   exact AD ⟨⟨rfl,congrArg _ (by rw[I,g,<-D];simp[sh,d]),trivial⟩,trivial⟩
  intro ab O;conv=>cbv
  cases ab <;> conv=>cbv
  ·obtain⟨a8,K⟩:=xB (F7 s);refine cL hE (Jj K) ⟨rfl,trivial⟩ ?_;conv=>cbv
   cases a8 <;> conv=>cbv
   ·have g:Al ((a,l),(b,m))=false:=by unfold Al;rw[<-f];rfl
    exact AD ⟨⟨rfl,congrArg _ (by rw[I,g,<-D,show DL s=_ from O.symm,<-K];simp[sh,d]),trivial⟩,trivial⟩
   rintro ad ⟨N,f58⟩;conv=>cbv
   intro ae Q;conv=>cbv
   have g:Al ((a,l),(b,m))=false:=by unfold Al;rw[<-f];rfl
   exact AD ⟨⟨rfl,congrArg _ (by rw[I,g,<-D,show DL s=_ from O.symm,<-K,<-N];simp[sh,d,Q]),trivial⟩,trivial⟩
  rintro ad ⟨N,f58⟩;conv=>cbv
  intro ae Q;conv=>cbv
  have g:Al ((a,l),(b,m))=false:=by unfold Al;rw[<-f];rfl
  exact AD ⟨⟨rfl,congrArg _ (by rw[I,g,<-D,show DL s=_ from O.symm,<-N];simp[sh,d,Q]),trivial⟩,trivial⟩
 have aA:=CO f;intro aE h;conv=>cbv
 cases aE <;> conv=>cbv
 ·have aB:=CN h;refine .inr ?_;intro aa T;conv=>cbv
  cases aa <;> conv=>cbv
  ·have d:=AN T;intro af U;conv=>cbv
   cases af <;> conv=>cbv
   ·have j:=AN U;intro ag V;conv=>cbv
    cases ag <;> conv=>cbv
    ·have t:=AN V;intro ah W;conv=>cbv
     refine .inr ?_;cases ah <;> conv=>cbv
     ·have F:=AN W;intro ai X;conv=>cbv
      refine .inr ?_;cases ai <;> conv=>cbv
      ·have H:=AN X;intro aj Y;conv=>cbv
       refine .inr ?_;cases aj <;> conv=>cbv
       ·have L:=AN Y;intro ak Z;conv=>cbv
        cases ak <;> conv=>cbv
        ·have M:=AN Z;have g:Al ((a,l),(b,m))=false:=by unfold Al;rw[<-f,<-h];rfl
         exact AD ⟨⟨rfl,congrArg _ (by rw[I,g];simp[sh,d,j,t,F,H,L,M]),trivial⟩,trivial⟩
        have M:=AO Z;have g:Al ((a,l),(b,m))=false:=by unfold Al;rw[<-f,<-h];rfl
        exact AD ⟨⟨rfl,congrArg _ (by rw[I,g];simp[sh,d,j,t,F,H,L,M]),trivial⟩,trivial⟩
       have L:=AO Y;have g:Al ((a,l),(b,m))=false:=by unfold Al;rw[<-f,<-h];rfl
       exact AD ⟨⟨rfl,congrArg _ (by rw[I,g];simp[sh,d,j,t,F,H,L]),trivial⟩,trivial⟩
      have H:=AO X;have g:Al ((a,l),(b,m))=false:=by unfold Al;rw[<-f,<-h];rfl
      exact AD ⟨⟨rfl,congrArg _ (by rw[I,g];simp[sh,d,j,t,F,H]),trivial⟩,trivial⟩
     have F:=AO W;have g:Al ((a,l),(b,m))=false:=by unfold Al;rw[<-f,<-h];rfl
     exact AD ⟨⟨rfl,congrArg _ (by rw[I,g];simp[sh,d,j,t,F]),trivial⟩,trivial⟩
    have t:=AO V;have g:Al ((a,l),(b,m))=false:=by unfold Al;rw[<-f,<-h];rfl
    exact AD ⟨⟨rfl,congrArg _ (by rw[I,g];simp[sh,d,j,t]),trivial⟩,trivial⟩
   have j:=AO U;have g:Al ((a,l),(b,m))=false:=by unfold Al;rw[<-f,<-h];rfl
   exact AD ⟨⟨rfl,congrArg _ (by rw[I,g];simp[sh,d,j]),trivial⟩,trivial⟩
  have d:=AO T;obtain⟨a7,D⟩:=xB (H4 ((a,l),(b,m)));obtain⟨ar,a2⟩:∃z:ByteArray,z=Il ((a,l),(b,m)):=⟨_,rfl⟩
  refine AB hE (K8 s1 s2 (D ▸ a2 ▸ Lo ((a,l),(b,m)))) ?_;conv=>cbv
  cases a7 <;> conv=>cbv
  ·have g:Al ((a,l),(b,m))=false:=by unfold Al;rw[<-f,<-h];rfl
   exact AD ⟨⟨rfl,congrArg _ (by rw[I,g,<-D];simp[sh,d]),trivial⟩,trivial⟩
  intro ab O;conv=>cbv
  cases ab <;> conv=>cbv
  ·obtain⟨a8,K⟩:=xB (F7 s);refine cL hE (Jj K) ⟨rfl,trivial⟩ ?_;conv=>cbv
   cases a8 <;> conv=>cbv
   ·have g:Al ((a,l),(b,m))=false:=by unfold Al;rw[<-f,<-h];rfl
    exact AD ⟨⟨rfl,congrArg _ (by rw[I,g,<-D,show DL s=_ from O.symm,<-K];simp[sh,d]),trivial⟩,trivial⟩
   rintro ad ⟨N,f58⟩;conv=>cbv
   intro ae Q;conv=>cbv
   have g:Al ((a,l),(b,m))=false:=by unfold Al;rw[<-f,<-h];rfl
   exact AD ⟨⟨rfl,congrArg _ (by rw[I,g,<-D,show DL s=_ from O.symm,<-K,<-N];simp[sh,d,Q]),trivial⟩,trivial⟩
  rintro ad ⟨N,f58⟩;conv=>cbv
  intro ae Q;conv=>cbv
  have g:Al ((a,l),(b,m))=false:=by unfold Al;rw[<-f,<-h];rfl
  exact AD ⟨⟨rfl,congrArg _ (by rw[I,g,<-D,show DL s=_ from O.symm,<-N];simp[sh,d,Q]),trivial⟩,trivial⟩
 have aB:=CO h;rintro aH ⟨G,f23⟩;conv=>cbv
 intro aF A;conv=>cbv
 cases aF <;> conv=>cbv
 ·have aC:=AN A;refine .inr ?_;intro aa T;conv=>cbv
  cases aa <;> conv=>cbv
  ·have d:=AN T;intro af U;conv=>cbv
   cases af <;> conv=>cbv
   ·have j:=AN U;intro ag V;conv=>cbv
    cases ag <;> conv=>cbv
    ·have t:=AN V;intro ah W;conv=>cbv
     refine .inr ?_;cases ah <;> conv=>cbv
     ·have F:=AN W;intro ai X;conv=>cbv
      refine .inr ?_;cases ai <;> conv=>cbv
      ·have H:=AN X;intro aj Y;conv=>cbv
       refine .inr ?_;cases aj <;> conv=>cbv
       ·have L:=AN Y;intro ak Z;conv=>cbv
        cases ak <;> conv=>cbv
        ·have M:=AN Z;have g:Al ((a,l),(b,m))=false:=by unfold Al;rw[<-f,<-h,<-G,<-A];rfl
         exact AD ⟨⟨rfl,congrArg _ (by rw[I,g];simp[sh,d,j,t,F,H,L,M]),trivial⟩,trivial⟩
        have M:=AO Z;have g:Al ((a,l),(b,m))=false:=by unfold Al;rw[<-f,<-h,<-G,<-A];rfl
        exact AD ⟨⟨rfl,congrArg _ (by rw[I,g];simp[sh,d,j,t,F,H,L,M]),trivial⟩,trivial⟩
       have L:=AO Y;have g:Al ((a,l),(b,m))=false:=by unfold Al;rw[<-f,<-h,<-G,<-A];rfl
       exact AD ⟨⟨rfl,congrArg _ (by rw[I,g];simp[sh,d,j,t,F,H,L]),trivial⟩,trivial⟩
      have H:=AO X;have g:Al ((a,l),(b,m))=false:=by unfold Al;rw[<-f,<-h,<-G,<-A];rfl
      exact AD ⟨⟨rfl,congrArg _ (by rw[I,g];simp[sh,d,j,t,F,H]),trivial⟩,trivial⟩
     have F:=AO W;have g:Al ((a,l),(b,m))=false:=by unfold Al;rw[<-f,<-h,<-G,<-A];rfl
     exact AD ⟨⟨rfl,congrArg _ (by rw[I,g];simp[sh,d,j,t,F]),trivial⟩,trivial⟩
    have t:=AO V;have g:Al ((a,l),(b,m))=false:=by unfold Al;rw[<-f,<-h,<-G,<-A];rfl
    exact AD ⟨⟨rfl,congrArg _ (by rw[I,g];simp[sh,d,j,t]),trivial⟩,trivial⟩
   have j:=AO U;have g:Al ((a,l),(b,m))=false:=by unfold Al;rw[<-f,<-h,<-G,<-A];rfl
   exact AD ⟨⟨rfl,congrArg _ (by rw[I,g];simp[sh,d,j]),trivial⟩,trivial⟩
  have d:=AO T;obtain⟨a7,D⟩:=xB (H4 ((a,l),(b,m)));obtain⟨ar,a2⟩:∃z:ByteArray,z=Il ((a,l),(b,m)):=⟨_,rfl⟩
  refine AB hE (K8 s1 s2 (D ▸ a2 ▸ Lo ((a,l),(b,m)))) ?_;conv=>cbv
  cases a7 <;> conv=>cbv
  ·have g:Al ((a,l),(b,m))=false:=by unfold Al;rw[<-f,<-h,<-G,<-A];rfl
   exact AD ⟨⟨rfl,congrArg _ (by rw[I,g,<-D];simp[sh,d]),trivial⟩,trivial⟩
  intro ab O;conv=>cbv
  cases ab <;> conv=>cbv
  ·obtain⟨a8,K⟩:=xB (F7 s);refine cL hE (Jj K) ⟨rfl,trivial⟩ ?_;conv=>cbv
   cases a8 <;> conv=>cbv
   ·have g:Al ((a,l),(b,m))=false:=by unfold Al;rw[<-f,<-h,<-G,<-A];rfl
    exact AD ⟨⟨rfl,congrArg _ (by rw[I,g,<-D,show DL s=_ from O.symm,<-K];simp[sh,d]),trivial⟩,trivial⟩
   rintro ad ⟨N,f58⟩;conv=>cbv
   intro ae Q;conv=>cbv
   have g:Al ((a,l),(b,m))=false:=by unfold Al;rw[<-f,<-h,<-G,<-A];rfl
   exact AD ⟨⟨rfl,congrArg _ (by rw[I,g,<-D,show DL s=_ from O.symm,<-K,<-N];simp[sh,d,Q]),trivial⟩,trivial⟩
  rintro ad ⟨N,f58⟩;conv=>cbv
  intro ae Q;conv=>cbv
  have g:Al ((a,l),(b,m))=false:=by unfold Al;rw[<-f,<-h,<-G,<-A];rfl
  exact AD ⟨⟨rfl,congrArg _ (by rw[I,g,<-D,show DL s=_ from O.symm,<-N];simp[sh,d,Q]),trivial⟩,trivial⟩
 have aC:=AO A;rintro aI ⟨J,f31⟩;conv=>cbv
 intro a6 C;conv=>cbv
 refine .inr ?_;intro aa T;conv=>cbv
 cases aa <;> conv=>cbv
 ·have d:=AN T;intro af U;conv=>cbv
  cases af <;> conv=>cbv
  ·have j:=AN U;intro ag V;conv=>cbv
   cases ag <;> conv=>cbv
   ·have t:=AN V;intro ah W;conv=>cbv
    refine .inr ?_;cases ah <;> conv=>cbv
    ·have F:=AN W;intro ai X;conv=>cbv
     refine .inr ?_;cases ai <;> conv=>cbv
     ·have H:=AN X;intro aj Y;conv=>cbv
      refine .inr ?_;cases aj <;> conv=>cbv
      ·have L:=AN Y;intro ak Z;conv=>cbv
       cases ak <;> conv=>cbv
       ·have M:=AN Z;have g:Al ((a,l),(b,m))=a6:=by unfold Al;rw[<-f,<-h,<-G,<-A,<-J,<-C];rfl
        exact AD ⟨⟨rfl,congrArg _ (by rw[I,g];simp[sh,d,j,t,F,H,L,M]),trivial⟩,trivial⟩
       have M:=AO Z;cases a6 <;> conv=>cbv
       ·have a5:=AN C;have g:Al ((a,l),(b,m))=false:=by unfold Al;rw[<-f,<-h,<-G,<-A,<-J,<-C];rfl
        exact AD ⟨⟨rfl,congrArg _ (by rw[I,g];simp[sh,d,j,t,F,H,L,M]),trivial⟩,trivial⟩
       have a5:=AO C;intro al a1;conv=>cbv
       cases al <;> conv=>cbv
       ·have g:Al ((a,l),(b,m))=true:=by unfold Al;rw[<-f,<-h,<-G,<-A,<-J,<-C];rfl
        exact AD ⟨⟨rfl,congrArg _ (by rw[I,g,show DL s=_ from a1.symm];simp[sh,d,j,t,F,H,L,M]),trivial⟩,trivial⟩
       rintro ao ⟨R,f103⟩;conv=>cbv
       intro aq S;conv=>cbv
       have g:Al ((a,l),(b,m))=true:=by unfold Al;rw[<-f,<-h,<-G,<-A,<-J,<-C];rfl
       exact AD ⟨⟨rfl,congrArg _ (by rw[I,g,show DL s=_ from a1.symm,<-R];simp[sh,d,j,t,F,H,L,M,S]),trivial⟩,trivial⟩
      have L:=AO Y;cases a6 <;> conv=>cbv
      ·have a5:=AN C;have g:Al ((a,l),(b,m))=false:=by unfold Al;rw[<-f,<-h,<-G,<-A,<-J,<-C];rfl
       exact AD ⟨⟨rfl,congrArg _ (by rw[I,g];simp[sh,d,j,t,F,H,L]),trivial⟩,trivial⟩
      have a5:=AO C;intro al a1;conv=>cbv
      cases al <;> conv=>cbv
      ·have g:Al ((a,l),(b,m))=true:=by unfold Al;rw[<-f,<-h,<-G,<-A,<-J,<-C];rfl
       exact AD ⟨⟨rfl,congrArg _ (by rw[I,g,show DL s=_ from a1.symm];simp[sh,d,j,t,F,H,L]),trivial⟩,trivial⟩
      rintro ao ⟨R,f103⟩;conv=>cbv
      intro aq S;conv=>cbv
      have g:Al ((a,l),(b,m))=true:=by unfold Al;rw[<-f,<-h,<-G,<-A,<-J,<-C];rfl
      exact AD ⟨⟨rfl,congrArg _ (by rw[I,g,show DL s=_ from a1.symm,<-R];simp[sh,d,j,t,F,H,L,S]),trivial⟩,trivial⟩
     have H:=AO X;cases a6 <;> conv=>cbv
     ·have a5:=AN C;have g:Al ((a,l),(b,m))=false:=by unfold Al;rw[<-f,<-h,<-G,<-A,<-J,<-C];rfl
      exact AD ⟨⟨rfl,congrArg _ (by rw[I,g];simp[sh,d,j,t,F,H]),trivial⟩,trivial⟩
     have a5:=AO C;intro al a1;conv=>cbv
     cases al <;> conv=>cbv
     ·have g:Al ((a,l),(b,m))=true:=by unfold Al;rw[<-f,<-h,<-G,<-A,<-J,<-C];rfl
      exact AD ⟨⟨rfl,congrArg _ (by rw[I,g,show DL s=_ from a1.symm];simp[sh,d,j,t,F,H]),trivial⟩,trivial⟩
     rintro ao ⟨R,f103⟩;conv=>cbv
     intro aq S;conv=>cbv
     have g:Al ((a,l),(b,m))=true:=by unfold Al;rw[<-f,<-h,<-G,<-A,<-J,<-C];rfl
     exact AD ⟨⟨rfl,congrArg _ (by rw[I,g,show DL s=_ from a1.symm,<-R];simp[sh,d,j,t,F,H,S]),trivial⟩,trivial⟩
    have F:=AO W;cases a6 <;> conv=>cbv
    ·have a5:=AN C;have g:Al ((a,l),(b,m))=false:=by unfold Al;rw[<-f,<-h,<-G,<-A,<-J,<-C];rfl
     exact AD ⟨⟨rfl,congrArg _ (by rw[I,g];simp[sh,d,j,t,F]),trivial⟩,trivial⟩
    have a5:=AO C;intro al a1;conv=>cbv
    cases al <;> conv=>cbv
    ·have g:Al ((a,l),(b,m))=true:=by unfold Al;rw[<-f,<-h,<-G,<-A,<-J,<-C];rfl
     exact AD ⟨⟨rfl,congrArg _ (by rw[I,g,show DL s=_ from a1.symm];simp[sh,d,j,t,F]),trivial⟩,trivial⟩
    rintro ao ⟨R,f103⟩;conv=>cbv
    intro aq S;conv=>cbv
    have g:Al ((a,l),(b,m))=true:=by unfold Al;rw[<-f,<-h,<-G,<-A,<-J,<-C];rfl
    exact AD ⟨⟨rfl,congrArg _ (by rw[I,g,show DL s=_ from a1.symm,<-R];simp[sh,d,j,t,F,S]),trivial⟩,trivial⟩
   have t:=AO V;cases a6 <;> conv=>cbv
   ·have a5:=AN C;have g:Al ((a,l),(b,m))=false:=by unfold Al;rw[<-f,<-h,<-G,<-A,<-J,<-C];rfl
    exact AD ⟨⟨rfl,congrArg _ (by rw[I,g];simp[sh,d,j,t]),trivial⟩,trivial⟩
   have a5:=AO C;intro aG au;conv=>cbv
   cases aG <;> conv=>cbv
   ·have g:Al ((a,l),(b,m))=true:=by unfold Al;rw[<-f,<-h,<-G,<-A,<-J,<-C];rfl
    exact AD ⟨⟨rfl,congrArg _ (by rw[I,g,show DL s=_ from au.symm];simp[sh,d,j,t]),trivial⟩,trivial⟩
   rintro aL ⟨ax,f86⟩;conv=>cbv
   intro aM az;conv=>cbv
   have g:Al ((a,l),(b,m))=true:=by unfold Al;rw[<-f,<-h,<-G,<-A,<-J,<-C];rfl
   exact AD ⟨⟨rfl,congrArg _ (by rw[I,g,show DL s=_ from au.symm,<-ax];simp[sh,d,j,t,az]),trivial⟩,trivial⟩
  have j:=AO U;cases a6 <;> conv=>cbv
  ·have a5:=AN C;have g:Al ((a,l),(b,m))=false:=by unfold Al;rw[<-f,<-h,<-G,<-A,<-J,<-C];rfl
   exact AD ⟨⟨rfl,congrArg _ (by rw[I,g];simp[sh,d,j]),trivial⟩,trivial⟩
  have a5:=AO C;obtain⟨av,an⟩:=xB (F7 s);refine cL hE (Jj an) ⟨rfl,trivial⟩ ?_;conv=>cbv
  cases av <;> conv=>cbv
  ·have g:Al ((a,l),(b,m))=true:=by unfold Al;rw[<-f,<-h,<-G,<-A,<-J,<-C];rfl
   exact AD ⟨⟨rfl,congrArg _ (by rw[I,g,<-an];simp[sh,d,j]),trivial⟩,trivial⟩
  rintro aJ ⟨aw,f72⟩;conv=>cbv
  intro aK ay;conv=>cbv
  have g:Al ((a,l),(b,m))=true:=by unfold Al;rw[<-f,<-h,<-G,<-A,<-J,<-C];rfl
  exact AD ⟨⟨rfl,congrArg _ (by rw[I,g,<-an,<-aw];simp[sh,d,j,ay]),trivial⟩,trivial⟩
 have d:=AO T;obtain⟨a7,D⟩:=xB (H4 ((a,l),(b,m)));obtain⟨ar,a2⟩:∃z:ByteArray,z=Il ((a,l),(b,m)):=⟨_,rfl⟩
 refine AB hE (K8 s1 s2 (D ▸ a2 ▸ Lo ((a,l),(b,m)))) ?_;conv=>cbv
 cases a7 <;> conv=>cbv
 ·have g:Al ((a,l),(b,m))=a6:=by unfold Al;rw[<-f,<-h,<-G,<-A,<-J,<-C];rfl
  exact AD ⟨⟨rfl,congrArg _ (by rw[I,g,<-D];simp[sh,d]),trivial⟩,trivial⟩
 intro ab O;conv=>cbv
 cases ab <;> conv=>cbv
 ·obtain⟨a8,K⟩:=xB (F7 s);refine cL hE (Jj K) ⟨rfl,trivial⟩ ?_;conv=>cbv
  cases a8 <;> conv=>cbv
  ·have g:Al ((a,l),(b,m))=a6:=by unfold Al;rw[<-f,<-h,<-G,<-A,<-J,<-C];rfl
   exact AD ⟨⟨rfl,congrArg _ (by rw[I,g,<-D,show DL s=_ from O.symm,<-K];simp[sh,d]),trivial⟩,trivial⟩
  rintro ad ⟨N,f58⟩;conv=>cbv
  intro ae Q;conv=>cbv
  have g:Al ((a,l),(b,m))=a6:=by unfold Al;rw[<-f,<-h,<-G,<-A,<-J,<-C];rfl
  exact AD ⟨⟨rfl,congrArg _ (by rw[I,g,<-D,show DL s=_ from O.symm,<-K,<-N];simp[sh,d,Q]),trivial⟩,trivial⟩
 rintro ad ⟨N,f58⟩;conv=>cbv
 intro ae Q;conv=>cbv
 have g:Al ((a,l),(b,m))=a6:=by unfold Al;rw[<-f,<-h,<-G,<-A,<-J,<-C];rfl
 exact AD ⟨⟨rfl,congrArg _ (by rw[I,g,<-D,show DL s=_ from O.symm,<-N];simp[sh,d,Q]),trivial⟩,trivial⟩
theorem Xg {o:Int} {a b:Bool} {l m:List UInt32} {s:ByteArray} {r:List Ex} {c:Bool} {N:Nat} (hN:N<=1048576) (hs:EW N (.mk o ((a,l),(b,m)) s r)) (ih:∀z∈r,∀c,c=G0 z->CF 193 [.agg (cells .ex z)] (.one (.bool c))) (D:c=G0 (.mk o ((a,l),(b,m)) s r)):CF 193 [.agg [.int .i64 o,.bool a,.sl .u32 l,.bool b,.sl .u32 m,.str s,.sl .ex r]] (.one (.bool c)):=by
 obtain⟨X,Y,q3⟩:=hs.lens;have X:l.length<=N:=X;have Y:m.length<=N:=Y;have D:c=(Ku (.mk o ((a,l),(b,m)) s r)&&G1 r):=D.trans (bI _);refine CA Tryz.func193 (by kernel_rfl) rfl fun E V=>?_
 conv=>cbv
 obtain⟨b5,h⟩:=xB (Ku (.mk o ((a,l),(b,m)) s r));refine cL V (fJ (by omega) (by omega) h) ⟨⟨rfl,rfl,rfl,rfl,rfl,rfl,rfl,trivial⟩,trivial⟩ ?_;conv=>cbv
 intro n6 U;conv=>cbv
 cases n6 <;> conv=>cbv
 ·have I:=CN U;refine .inr ?_;obtain⟨Z,g⟩:=xJ fun vs T k=>∃(i':Nat) (i:Int),vs=[.one (.Ae 1 0 0),.one (.int .i64 i)]/\T=[.var 0 [.int .i64 o,.bool a,.sl .u32 l,.bool b,.sl .u32 m,.str s,.sl .ex r]]/\(AR i i'/\i'<=r.length)/\c=G1 (r.drop i')/\k=r.length-i'
  refine⟨[],[1,3],[1],Z,⟨r.length-0,by rw[g];exact⟨0,0,rfl,rfl,⟨Ak 0,by omega⟩,by rw[D,<-h,I];rfl,rfl⟩⟩,?_⟩;intro vs T a8 W;rw[g] at W;obtain⟨i',i,rfl,rfl,⟨hi,a6⟩,hinv,a7⟩:=W;conv=>cbv
  have ei:=hi.eq;rintro aa ⟨a2,f10⟩;conv=>cbv
  intro L t;conv=>cbv
  cases L <;> conv=>cbv
  ·have H:=AY t;exact AD ⟨⟨rfl,congrArg _ (by rw[hinv,List.drop_eq_nil_of_le (by omega),G1]),trivial⟩,trivial⟩
  have H:=AZ t;refine .inr ?_;obtain⟨C,d⟩:=AL (l:=r) (i:=i') (by omega);refine⟨C,fun _=>⟨by omega,by rw[show (i).toNat=i' by omega];exact d⟩,?_⟩;try conv=>cbv
  obtain⟨Q,⟨⟨F,J⟩,⟨G,K⟩⟩,S,R⟩:=C;obtain⟨a1,f⟩:=xB (G0 (.mk Q ((F,J),(G,K)) S R));refine cL V (ih _ (List.mem_of_getElem? d) _ f) ⟨⟨rfl,rfl,rfl,rfl,rfl,rfl,rfl,trivial⟩,trivial⟩ ?_;conv=>cbv
  intro O A;conv=>cbv
  cases O <;> conv=>cbv
  ·have j:=CN A;intro M a5;conv=>cbv
   refine AI ?_;refine⟨r.length-(i'+1),?_,?_⟩
   ·omega
   rw[g];exact⟨i'+1,M,rfl,rfl,⟨⟨by omega⟩,by omega⟩,by rw[hinv,TV d,<-f,j];rfl,rfl⟩
  have j:=CO A;exact AD ⟨⟨rfl,congrArg _ (by rw[hinv,TV d,<-f,j];rfl),trivial⟩,trivial⟩
 have I:=CO U;exact AD ⟨⟨rfl,congrArg _ (by rw[D,<-h,I];rfl),trivial⟩,trivial⟩
theorem Xf {N:Nat} {e:Ex} (h:EW N e):N<=1048576->∀c,c=G0 e->CF 193 [.agg (cells .ex e)] (.one (.bool c)):=by
 induction h with
 | mk N y d f g j t G=>
  intro A c C;have D:EW (N+1) y:= .mk N y d f g j t;obtain⟨o,⟨⟨a,l⟩,⟨b,m⟩⟩,s,r⟩:=y;exact Xg A D (fun z F=>G z F (by omega)) C
theorem Xb {o:Int} {a b:Bool} {l m:List UInt32} {s:ByteArray} {r:List Ex} {c:Int} {N:Nat} (hN:N<=1048576) (Y:EW N (.mk o ((a,l),(b,m)) s r)) (Z:∀z∈r,CF 194 [.agg (cells .ex z)] (.one (.int .i64 (Em z)))) (T:c=Em (.mk o ((a,l),(b,m)) s r)):CF 194 [.agg [.int .i64 o,.bool a,.sl .u32 l,.bool b,.sl .u32 m,.str s,.sl .ex r]] (.one (.int .i64 c)):=by
 obtain⟨d1,d2⟩:=aU Y;have U:c=Ez 0 r+1:=T.trans (Sr _);refine CA Tryz.func194 (by kernel_rfl) rfl fun E S=>?_
 conv=>cbv
 refine .inr ?_;obtain⟨O,g⟩:=xJ fun vs K k=>∃(i':Nat) (i n:Int),vs=[.one (.Ae 1 0 0),.one (.int .i64 n),.one (.int .i64 i)]/\K=[.var 0 [.int .i64 o,.bool a,.sl .u32 l,.bool b,.sl .u32 m,.str s,.sl .ex r]]/\(AR i i'/\i'<=r.length)/\Ez 0 r=Ez n (r.drop i')/\k=r.length-i'
 refine⟨[],[1,3,4],[1],O,⟨r.length-0,by rw[g];exact⟨0,0,0,rfl,rfl,⟨Ak 0,by omega⟩,rfl,rfl⟩⟩,?_⟩;intro vs K a1 M;rw[g] at M;obtain⟨i',i,n,rfl,rfl,⟨V,W⟩,hinv,X⟩:=M;conv=>cbv
 have ei:=V.eq;rintro n8 ⟨e8,f8⟩;conv=>cbv
 intro n9 L;conv=>cbv
 cases n9 <;> conv=>cbv
 ·have k9:=AY L;intro a2 R;conv=>cbv
  refine⟨fun _=>by unfold Db;rw[List.drop_eq_nil_of_le (by omega),Ez] at hinv;omega,?_⟩;rw[List.drop_eq_nil_of_le (by omega),Ez] at hinv;exact AD ⟨⟨rfl,congrArg _ (by omega),trivial⟩,trivial⟩
 have k9:=AZ L;refine .inr ?_;obtain⟨h,d⟩:=AL (l:=r) (i:=i') (by omega);refine⟨h,fun _=>⟨by omega,by rw[show (i).toNat=i' by omega];exact d⟩,?_⟩;try conv=>cbv
 obtain⟨H,⟨⟨j,C⟩,⟨t,D⟩⟩,J,I⟩:=h;obtain⟨a5,f⟩:=xI (Em (.mk H ((j,C),(t,D)) J I));refine cL (args:= [.agg [.int .i64 H,.bool j,.sl .u32 C,.bool t,.sl .u32 D,.str J,.sl .ex I]]) (r:= .one (.int .i64 a5)) S (f ▸ Z _ (List.mem_of_getElem? d)) ⟨⟨rfl,rfl,rfl,rfl,rfl,rfl,rfl,trivial⟩,trivial⟩ ?_;conv=>cbv
 intro G A;conv=>cbv
 intro F Q;conv=>cbv
 refine AI ?_;refine⟨r.length-(i'+1),?_,?_⟩
 ·omega
 rw[g];exact⟨i'+1,F,G,rfl,rfl,⟨⟨by omega⟩,by omega⟩,by rw[hinv,aT d,<-f,<-A],rfl⟩
theorem Xa {N:Nat} {e:Ex} (h:EW N e):N<=1048576->CF 194 [.agg (cells .ex e)] (.one (.int .i64 (Em e))):=by
 induction h with
 | mk N y d f g j t F=>
  intro A;have C:EW (N+1) y:= .mk N y d f g j t;obtain⟨o,⟨⟨a,l⟩,⟨b,m⟩⟩,s,r⟩:=y;exact Xb A C (fun z D=>F z D (by omega)) rfl
noncomputable def FC (e:Ex):Int:=if G0 e=true then (if Em e>40 then 3 else 0) else 1
theorem YB {o:Int} {a b:Bool} {l m:List UInt32} {s:ByteArray} {r:List Ex} {c:Int} {N:Nat} (C:N<=1048576) (D:EW N (.mk o ((a,l),(b,m)) s r)) (h:c=FC (.mk o ((a,l),(b,m)) s r)):CF 94 [.agg [.int .i64 o,.bool a,.sl .u32 l,.bool b,.sl .u32 m,.str s,.sl .ex r]] (.one (.int .i64 c)):=by
 refine CA Tryz.func94 (by kernel_rfl) rfl fun E A=>?_
 conv=>cbv
 obtain⟨H,d⟩:=xB (G0 (.mk o ((a,l),(b,m)) s r));refine cL A (Xf D C _ d) ⟨⟨rfl,rfl,rfl,rfl,rfl,rfl,rfl,trivial⟩,trivial⟩ ?_;conv=>cbv
 intro F t;conv=>cbv
 cases F <;> conv=>cbv
 ·have g:=CN t;obtain⟨I,f⟩:=xI (Em (.mk o ((a,l),(b,m)) s r));refine cL (args:= [.agg [.int .i64 o,.bool a,.sl .u32 l,.bool b,.sl .u32 m,.str s,.sl .ex r]]) (r:= .one (.int .i64 I)) A (by rw[f];exact Xa D C) ⟨⟨rfl,rfl,rfl,rfl,rfl,rfl,rfl,trivial⟩,trivial⟩ ?_;try conv=>cbv
  intro G z;conv=>cbv
  cases G <;> conv=>cbv
  ·have j:=Bf z;exact AD ⟨⟨rfl,congrArg _ (by rw[h,FC,<-d,if_pos g,<-f,if_neg (Int.not_lt.2 j)]),trivial⟩,trivial⟩
  have j:=Bg z;exact AD ⟨⟨rfl,congrArg _ (by rw[h,FC,<-d,if_pos g,<-f,if_pos j]),trivial⟩,trivial⟩
 have g:=CO t;exact AD ⟨⟨rfl,congrArg _ (by rw[h,FC,<-d,if_neg (by rw[g];decide)]),trivial⟩,trivial⟩
end Go.Abs
