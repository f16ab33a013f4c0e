/- Part 15 of a proof. Conditions: each theorem's own. -/
import Derived.Test.YtmifleedghiimaaGreatDoorRb10
set_option linter.all false
set_option maxHeartbeats 80000000
set_option maxRecDepth 20000
open Go.Proofs
namespace Go.Abs
open Go.RowKit
section
def IA (n:Int):Bool:=(decide (n >= 97)&&decide (n<=122))||(decide (n >= 65)&&decide (n<=90))
def NC (n:Int):Bool:=decide (n >= 48)&&decide (n<=57)
def Lm (n:Int):Bool:=IA n||(NC n||decide (n=95))
def JM (s:ByteArray):Nat->Nat->Nat
 | 0,i=>i
 | k+1,i=>match s.data[i]? with
  | some b=>if Lm (b.toNat:Nat)=true then JM s k (i+1) else i
  | none=>i
def Ju (s:ByteArray):Nat:=match s.data[0]? with
 | some b=>if IA (b.toNat:Nat)=true then JM s s.size 0 else 0
 | none=>0
def JA (s:ByteArray):Bool:= !(s.toList==(⟨#[]⟩:ByteArray).toList)&&(decide ((s.size:Int)<=24)&&(((Ju s:Nat):Int)==(s.size:Int)))
variable {i k:Nat} {n:Int}
def zI {s:ByteArray} (h:s.size=0):Ju s=0:=by
 have:s.data[0]? =none:=Array.getElem?_eq_none (by have:s.data.size=s.size:=rfl;omega);unfold Ju;rw[this]
def zJ {s:ByteArray} {b:UInt8} (h:s.data[0]? =some b) (d:n=b.toNat) (a:false=IA n):Ju s=0:=by
 unfold Ju;rw[h];simp only;rw[<-d,<-a];rfl
def zK {s:ByteArray} {b:UInt8} (h:s.data[0]? =some b) (d:n=b.toNat) (a:true=IA n):Ju s=JM s s.size 0:=by
 unfold Ju;rw[h];simp only;rw[<-d,<-a];rfl
def yn {s:ByteArray} (h:¬i<s.size):JM s k i=i:=by
 cases k with
 | zero=>rfl
 | succ k=>rw[JM,Array.getElem?_eq_none (by have:s.data.size=s.size:=rfl;omega)]
def yt {s:ByteArray} {b:UInt8} (h:s.data[i]? =some b) (a:n=b.toNat) (hw:Lm n=false):JM s k i=i:=by
 cases k with
 | zero=>rfl
 | succ k=>rw[JM,h];simp only;rw[<-a,hw];rfl
def X7 {s:ByteArray} {b:UInt8} (f:i+k=s.size) (h:s.data[i]? =some b) (a:n=b.toNat) (hw:Lm n=true):JM s k i=JM s (s.size-(i+1)) (i+1):=by
 have d:=(Array.getElem?_eq_some_iff.1 h).1;have:s.data.size=s.size:=rfl;obtain⟨k,rfl⟩:∃j,k=j+1:=⟨k-1,AA⟩
 rw[JM,h];simp only;rw[<-a,hw,(AA:s.size-(i+1)=k)];rfl
def Z3 {s:ByteArray} {j:Nat} {x y:UInt8} (a:s.data[i]? =some x) (b:s.data[j]? =some y) (e:i=j):x=y:=by subst e;exact Option.some.inj (a.symm.trans b)
def zO {s:ByteArray} {x y z:UInt8} {m k:Int} (d:s.data[i]? =some x) (g:s.data[i]? =some y) (h3:s.data[i]? =some z) (e1:n=x.toNat) (e2:m=y.toNat) (f:k=z.toNat) (a:false=IA n) (b:false=NC m) (c:k≠95):Lm n=false:=by
 obtain rfl:=Z3 d g rfl;obtain rfl:=Z3 d h3 rfl;obtain rfl:n=m:=e1.trans e2.symm;obtain rfl:n=k:=e1.trans f.symm;unfold Lm;rw[<-a,<-b,decide_eq_false c];rfl
def dW {c:Bool} (j:c=IA n):CF 308 [.one (.int .u8 n)] (.one (.bool c)):=by
 refine AL Tryz.func308 fun E s=>?_
 intro n4 d;cases n4 <;> conv=>cbv
 ·have m:=NT d;intro g a;conv=>cbv
  cases g <;> conv=>cbv
  ·have f:=NT a;exact AO (by rw[j];unfold IA;(try rw[<-d]);(try rw[<-a]);rfl)
  have f:=NU a;intro l b;conv=>cbv
  exact AO (by rw[j];unfold IA;(try rw[<-d]);(try rw[<-a]);(try rw[<-b]);rfl)
 have m:=NU d;intro r h;conv=>cbv
 cases r <;> conv=>cbv
 ·have o:=PQ h;intro g a;conv=>cbv
  cases g <;> conv=>cbv
  ·have f:=NT a;exact AO (by rw[j];unfold IA;(try rw[<-d]);(try rw[<-h]);(try rw[<-a]);rfl)
  have f:=NU a;intro l b;conv=>cbv
  exact AO (by rw[j];unfold IA;(try rw[<-d]);(try rw[<-h]);(try rw[<-a]);(try rw[<-b]);rfl)
 have o:=PR h;exact AO (by rw[j];unfold IA;(try rw[<-d]);(try rw[<-h]);rfl)
def pR {c:Bool} (b:c=NC n):CF 309 [.one (.int .u8 n)] (.one (.bool c)):=by
 refine AL Tryz.func309 fun E g=>?_
 intro n4 a;cases n4 <;> conv=>cbv
 ·have f:=NT a;exact AO (by rw[b];unfold NC;(try rw[<-a]);rfl)
 have f:=NU a;intro h d;conv=>cbv
 exact AO (by rw[b];unfold NC;(try rw[<-a]);(try rw[<-d]);rfl)
def L5 {s:ByteArray} {b:UInt8} (h:s.data[n.toNat]? =some b) (e:n.toNat=i):s.data[i]? =some b:=e ▸ h
def zL {s:ByteArray} {c:Int} (hs:s.size<=1048576) (M:c=(Ju s:Nat)):CF 277 [.one (.str s),AH 0] (AH c):=by
 refine IN Tryz.func277 fun E Q=>?_
 conv=>cbv
 intro n7 h7;have e7:n7=(ByteArray.size s:Nat):=h7.eq;conv=>cbv
 intro n8 h8;conv=>cbv
 cases n8 <;> conv=>cbv
 ·have k8:=CI h8;obtain⟨Y,h⟩:=TK (z:=s) (n:=0) (by show (0:Int).toNat<_;omega);refine⟨Y,fun _=>⟨AA,h⟩,?_⟩;intro S C;have u:=C.eq;have f12:=C.lt;conv=>cbv
  obtain⟨a5,d⟩:=xB (IA S);refine Be Q (dW d) ?_;conv=>cbv
  intro T D;conv=>cbv
  cases T <;> conv=>cbv
  ·have r:=Hp D;refine .inr ?_;obtain⟨J0,b⟩:=xJ fun vs bl k=>∃(i':Nat) (i:Int),vs=[.one (.str s),AH i]/\(AZ i i'/\i'<=s.size)/\Ju s=JM s (s.size-i') i'/\k=s.size-i'
   refine⟨[],[0,1],[],J0,⟨s.size-0,by rw[b];exact⟨0,0,rfl,⟨BM 0,Nat.zero_le _⟩,zK h u (r.symm.trans d),rfl⟩⟩,?_⟩;intro vs bl aa hj;rw[b] at hj;obtain⟨i',i,rfl,⟨hi,a7⟩,hinv,a8⟩:=hj;conv=>cbv
   have ei:=hi.eq;intro U P;have a6:U=(ByteArray.size s:Nat):=P.eq;conv=>cbv
   intro V F;conv=>cbv
   cases V <;> conv=>cbv
   ·have R:=EY F;exact AN ⟨⟨rfl,congrArg _ (by rw[M,hinv,yn AA];omega),trivial⟩,trivial⟩
   have R:=EZ F;obtain⟨Z,a⟩:=TK (z:=s) (n:=i) AA;refine⟨Z,fun _=>⟨AA,a⟩,?_⟩;intro L G;have o:=G.eq;have f24:=G.lt;conv=>cbv
   obtain⟨N,f⟩:=xB (IA L);refine Be Q (dW f) ?_;conv=>cbv
   cases N <;> conv=>cbv
   ·obtain⟨a1,j⟩:=TK (z:=s) (n:=i) AA;refine⟨a1,fun _=>⟨AA,j⟩,?_⟩;intro W H;have w:=H.eq;have f29:=H.lt;conv=>cbv
    obtain⟨O,g⟩:=xB (NC W);refine Be Q (pR g) ?_;conv=>cbv
    cases O <;> conv=>cbv
    ·obtain⟨a2,l⟩:=TK (z:=s) (n:=i) AA;refine⟨a2,fun _=>⟨AA,l⟩,?_⟩;intro ab I;have A:=I.eq;have f35:=I.lt;conv=>cbv
     intro X J;conv=>cbv
     cases X <;> conv=>cbv
     ·have t:=CI J;exact AN ⟨⟨rfl,congrArg _ (by rw[M,hinv,yt (n:=L) (L5 a AA) o (zO (L5 a rfl) (L5 j rfl) (L5 l rfl) o w A f g t)];omega),trivial⟩,trivial⟩
     have t:=CL J;refine .inr ?_;intro m K;conv=>cbv
     refine D6 ?_;refine⟨s.size-(i'+1),?_,?_⟩
     ·omega
     rw[b];exact⟨i'+1,m,rfl,⟨⟨AA⟩,AA⟩,hinv.trans (X7 AA (L5 l AA) A (by unfold Lm;rw[decide_eq_true t];simp)),rfl⟩
    refine .inr ?_;intro m K;conv=>cbv
    refine D6 ?_;refine⟨s.size-(i'+1),?_,?_⟩
    ·omega
    rw[b];exact⟨i'+1,m,rfl,⟨⟨AA⟩,AA⟩,hinv.trans (X7 AA (L5 j AA) w (by unfold Lm;rw[<-g];simp)),rfl⟩
   refine .inr ?_;intro m K;conv=>cbv
   refine D6 ?_;refine⟨s.size-(i'+1),?_,?_⟩
   ·omega
   rw[b];exact⟨i'+1,m,rfl,⟨⟨AA⟩,AA⟩,hinv.trans (X7 AA (L5 a AA) o (by unfold Lm;rw[<-f];rfl)),rfl⟩
  have r:=Hq D;exact AN ⟨⟨rfl,congrArg _ (by rw[M,zJ h u (r.symm.trans d)];rfl),trivial⟩,trivial⟩
 have k8:=CL h8;exact AN ⟨⟨rfl,congrArg _ (by rw[M,zI AA];rfl),trivial⟩,trivial⟩
def OP {s:ByteArray} {c:Bool} (j:c=JA s):CF 230 [.one (.str s)] (.one (.bool c)):=by
 refine AL Tryz.func230 fun E t=>?_
 intro n4 h;cases n4 <;> conv=>cbv
 ·exact AO (by rw[j];unfold JA;rw[<-h];rfl)
 intro l r;have m:l=(ByteArray.size s:Nat):=r.eq;refine Af ?_;intro z d;cases z <;> conv=>cbv
 ·have u:=PQ d;exact AO (by rw[j];unfold JA;rw[<-h,<-m,<-d];rfl)
 have u:=PR d;obtain⟨A,a⟩:=xI ((Ju s:Nat));refine AB t (zL AA a) ?_;intro b f;have o:b=(ByteArray.size s:Nat):=f.eq;refine Af ?_;intro w g;exact AO (by rw[j];unfold JA;rw[<-h,show (s.size:Int)=l from m.symm,<-d,<-a,(AA:l=b),<-g];rfl)
end
section
def okQ (x:el AJ):Bool:=GV x.1.1 x.1.2 x.2.1 x.2.2
def dh (x:el AJ):Bool:=decide (x.1.2.length<=6)&&decide (x.2.2.length<=6)
def ee (n:Nat) (l:List (el AJ)):Bool:=decide (l.length=n)&&l.all okQ
def eh:Nat->List (List (el AJ))->Bool
 | _,[]=>true
 | i,l::r=>ee (2^i) l&&eh (i+1) r
def zr (T:List (List (el AJ))) (A:List (el AJ)):Bool:=A.all dh&&T.all fun l=>l.all dh
def ShV (q:Rat):Prop:=q.num.natAbs<2^192/\q.den<2^192
structure Frm (u:AG):Prop where
 form:∀j s,u.reverse[j]? =some s->s.length=2^j
 tb:TB 1540 u
 ht:u.length<=4
end
section
abbrev Sa:Nat:=8589934592
abbrev Sb:Nat:=34359738368
end
section
variable {c:Bool}
def X5 (b:Bool) (l:List UInt32):HH b l=(decide ((Ah (AI l)).length=l.length)&&(!b||decide (0<l.length))):=by
 unfold HH;cases h:l.getLast? with
 | none=>
  have:l=[]:=List.getLast?_eq_none_iff.1 h;subst this;simp[show AI []=0 from rfl,show Ah 0=[] from F8.2 rfl]
 | some w=>
  obtain⟨m,rfl⟩:=List.getLast?_eq_some_iff.1 h;have a:0<(m++[w]).length:=AS
  rw[decide_eq_true a,Bool.or_true,Bool.and_true,<-N8]
  show (w !=0)=_
  by_cases hw:w=0
  ·subst hw;have:=TO m;rw[Lj,decide_eq_false (by simp;omega)];rfl
  rw[Mm hw,decide_eq_true rfl];simpa using hw
def zl (T:List LR) (A:LR):Prop:=(eh 0 T&&ee (2^T.length) A)=true/\∃u,T=tw u/\BE u
def Y0 {b:Bool} {l:List UInt32} (g:c=HH b l):CF 113 [.agg (Bu b l)] (.one (.bool c)):=by
 refine AL Tryz.func113 fun E r=>?_
 obtain⟨C,d⟩:=xU (Ah (AI l));refine AB r (L2 rfl d) ?_;rintro z ⟨u,f6⟩ A ⟨w,f9⟩;refine Cw (fun h=>?_) fun h=>?_
 ·exact AO (by rw[g,X5,<-d,decide_eq_false AA];rfl)
 intro m a;cases m <;> conv=>cbv
 ·have j:=Hp a;refine AM ?_;rintro s ⟨o,f18⟩ t f;exact AO (by have hb:b=true:=(by cases b with | false=>cases a | true=>rfl);rw[g,X5,<-d,decide_eq_true AA,hb,f,Bool.eq_iff_iff];simp;omega)
 have j:=Hq a;refine g2 rfl ?_;exact AO (by have hb:b=false:=(by cases b with | true=>cases a | false=>rfl);rw[g,X5,<-d,decide_eq_true AA,hb];rfl)
def Yt {b1 b2:Bool} {l1 l2:List UInt32} (j:c=GV b1 l1 b2 l2) (s1:l1.length<=4000000) (s2:l2.length<=4000000):CF 50 [.agg (CP b1 l1 b2 l2)] (.one (.bool c)):=by
 refine AL Tryz.func50 fun E g=>?_
 obtain⟨u,a⟩:=xB (HH b1 l1);refine AB g (Y0 a) ?_;cases u <;> conv=>cbv
 ·exact AO (by rw[j];unfold GV;rw[<-a];rfl)
 obtain⟨w,b⟩:=xB (HH b2 l2);refine AB g (Y0 b) ?_;cases w <;> conv=>cbv
 ·exact AO (by rw[j];unfold GV;rw[<-b];exact Bool.and_false _)
 obtain⟨x,o⟩:=Lk.1 a.symm;obtain⟨y,l⟩:=Lk.1 b.symm;obtain⟨z,h⟩:=xI (DI y);refine AB g (Ly l h) ?_;refine Fu (fun m=>?_) fun m=>?_
 ·exact AO (by rw[j];exact ju l)
 obtain⟨r,s,f⟩:=BO (((Nat.gcd x.natAbs y.natAbs:Nat):Int));refine AB g (Iu o l f AA AA) ?_;obtain⟨t,d⟩:=xB (decide (((Nat.gcd x.natAbs y.natAbs:Nat):Int)=1));refine AB g (Kq f d) ?_;exact AO (by rw[j];exact jt a b o l AA d)
end
section
def FT:Nat->Nat->ByteArray->ByteArray
 | 0,_,s=>s
 | k+1,v,s=>if v=0 then s else FT k (v/10) (ByteArray.mk [UInt8.ofNat (48+v%10)].toArray++s)
variable {B k v:Nat} {c:Bool} {n x y:Int} {p q:Rat}
def bm:∀(k k' v:Nat) (s:ByteArray),v<=k->v<=k'->FT k v s=FT k' v s
 | 0,0,_,_,_,_=>rfl
 |0,k'+1,v,s,h,_|k+1,0,v,s,_,h=>by rw[FT,FT,if_pos AA]
 | k+1,k'+1,v,s,h,h'=>by
  rw[FT,FT]
  split
  ·rfl
  exact bm k k' _ _ AA AA
def qX {s:ByteArray} (h:v≠0):FT v v s=FT (v/10) (v/10) (ByteArray.mk [UInt8.ofNat (48+v%10)].toArray++s):=by
 obtain⟨k,rfl⟩:∃k,v=k+1:=⟨v-1,AA⟩
 rw[FT,if_neg h];exact bm _ _ _ _ AA (Nat.le_refl _)
structure Fz (B v:Nat) (s:ByteArray):Prop where
 sz:s.size<=B+1
 lo:v≠0->v*2^s.size<=2^B
def ig (b:UInt8) (s:ByteArray):(ByteArray.mk [b].toArray++s).size=s.size+1:=by
 rw[ByteArray.size_append];have:(ByteArray.mk [b].toArray).size=1:=rfl;omega
def Fz.lt {s:ByteArray} (h:Fz B v s) (d:v≠0):s.size<=B:=by
 have a:=h.lo d;have b:2^s.size<=v*2^s.size:=Nat.le_mul_of_pos_left _ AA;exact (Nat.pow_le_pow_iff_right (by decide:1<2)).1 (Nat.le_trans b a)
def Fz.step {s:ByteArray} (h:Fz B v s) (a:v≠0) (b:UInt8):Fz B (v/10) (ByteArray.mk [b].toArray++s):=by
 have f:=h.lt a;refine⟨by rw[ig];omega,fun g=>?_⟩;rw[ig,Nat.pow_succ];have h3:=h.lo a;have d:v/10*2<=v:=AA
 have j:=Nat.mul_le_mul_right (2^s.size) d;have e:v/10*(2^s.size*2)=v/10*2*2^s.size:=by grind
 omega
def Fz.init (h:v<=2^B):Fz B v ⟨#[]⟩:=⟨Nat.zero_le _,fun _=>by
 have:(⟨#[]⟩:ByteArray).size=0:=rfl;rw[this];omega⟩
def bn:∀(k B v:Nat) (s:ByteArray),v<=k->Fz B v s->(FT k v s).size<=B+1
 | 0,B,v,s,h,f=>f.sz
 | k+1,B,v,s,h,f=>by
  rw[FT]
  split
  ·exact f.sz
  rename_i a
  exact bn k B _ _ AA (f.step a _)
def Jc (b:Bool) (v:Nat):ByteArray:=if ((FT v v ⟨#[]⟩).toList==(⟨#[]⟩:ByteArray).toList)=true then⟨#[48]⟩ else if b=true then⟨#[45]⟩++FT v v ⟨#[]⟩ else FT v v ⟨#[]⟩
def qY {b:Bool} (h:v<=2^B):(Jc b v).size<=B+2:=by
 have a:=bn v B v ⟨#[]⟩ (Nat.le_refl _) (Fz.init h);unfold Jc
 split
 ·have:(⟨#[48]⟩:ByteArray).size=1:=rfl;omega
 split
 ·rw[ByteArray.size_append];have:(⟨#[45]⟩:ByteArray).size=1:=rfl;omega
 omega
def yP (h:n=((48+v%10:Nat):Int)):n=((UInt8.ofNat (48+v%10)).toNat:Nat):=by rw[UInt8.toNat_ofNat'];omega
def uh {w:UInt8} (h:n=(w.toNat:Nat)):E2 Gc [.int .u8 n] (cells .u8 w):=⟨by rw[h];rfl,trivial⟩
def mE {b:Bool} {l:List UInt32} {r:ByteArray} (S:BQ x b l) (hl:l.length<=17592186044416) (T:AI l<=2^B) (U:B<=1000000000) (L:r=Jc b (AI l)):CF 276 [.agg (Bu b l)] (.one (.str r)):=by
 refine AL Tryz.func276 fun E R=>?_
 refine AB R (J5 S) ?_;refine BX [] [1,3,4] [1] (fun vs Q k=>∃(v:Nat) (s:ByteArray) (m:List UInt32),vs=[.one (.BU 1 0 0),.one (.str s),.one (.sl .u32 m)]/\Q=[.var 0 [.bool b,.sl .u32 l]]/\(m=Ah v/\m.length<=l.length)/\Fz B v s/\FT v v s=FT (AI l) (AI l) ⟨#[]⟩/\k=v) (AI l) ⟨AI l,⟨#[]⟩,l,rfl,rfl,⟨S.trim.symm,Nat.le_refl _⟩,Fz.init T,rfl,rfl⟩ ?_;rintro J0 J vs Q W ⟨v,s,m,rfl,rfl,⟨hm,K⟩,hf,hinv,V⟩;refine Af ?_;rintro Z ⟨A,f12⟩;refine Fu (fun M=>?_) fun M=>?_
 ·intro P t;cases P <;> conv=>cbv
  ·cases b <;> conv=>cbv
   ·have a:v=0:=F8.1 (by rw[<-hm];exact List.length_eq_zero_iff.1 AA);have f:s=FT (AI l) (AI l) ⟨#[]⟩:=by subst a;exact hinv
    exact AO (by rw[L,Jc,<-f,if_neg (by rw[<-t];decide)];first | rfl | (rw[if_pos rfl];exact j.symm))
   refine⟨fun _=>by rw[show (⟨#[45]⟩:ByteArray).size=1 from rfl];have:=hf.sz;omega,?_⟩;intro Y j;conv=>cbv
   have a:v=0:=F8.1 (by rw[<-hm];exact List.length_eq_zero_iff.1 AA);have f:s=FT (AI l) (AI l) ⟨#[]⟩:=by subst a;exact hinv
   exact AO (by rw[L,Jc,<-f,if_neg (by rw[<-t];decide)];first | rfl | (rw[if_pos rfl];exact j.symm))
  have a:v=0:=F8.1 (by rw[<-hm];exact List.length_eq_zero_iff.1 AA);have f:s=FT (AI l) (AI l) ⟨#[]⟩:=by subst a;exact hinv
  exact AO (by rw[L,Jc,<-f,if_pos t.symm])
 refine .inr ?_;have H:AI m=v:=by rw[hm,Bk]
 have u:v≠0:=fun e=>by subst e;rw[Hm] at hm;rw[hm] at A;simp at A;omega
 obtain⟨I,g⟩:=xU (Ah (v/10));obtain⟨d16,G⟩:=xI (((v%10:Nat):Int));refine AB (r:= .BI [(false,[.sl .u32 I]),(false,[.int .u32 d16])]) R (Y4 (b:=10) (BM 10) AD AD (by rw[H];exact g) (by rw[H];exact⟨G⟩) AA) ?_;intro a1 C;have C:=wrap_u32 C;intro O D;conv=>cbv
 have D:=wrap_u8 D;have F:O=((48+v%10:Nat):Int):=AA
 obtain⟨w,o⟩:∃z:UInt8,z=UInt8.ofNat (48+v%10):=⟨_,rfl⟩
 refine⟨[w],fun _=>⟨rfl,AD,rfl,⟨rfl,uh (by rw[o];exact yP F),trivial⟩⟩,.inr ?_⟩;try conv=>cbv
 refine⟨[w],fun _=>rfl,?_⟩;intro X d;conv=>cbv
 refine⟨fun _=>by rw[d,show (ByteArray.mk [w].toArray).size=1 from rfl];have:=hf.lt u;omega,?_⟩;intro N h;conv=>cbv
 exact Bj J ⟨v/10,N,I,rfl,rfl,⟨g,Nat.le_trans (by rw[g,hm];exact FW (Nat.div_le_self _ _)) K⟩,(by rw[h,d];exact hf.step u _),(by rw[h,d,o];exact (qX u).symm.trans hinv),rfl⟩
def vU {b1 b2:Bool} {l1 l2:List UInt32} (h:BQ x b1 l1) (j:BQ y b2 l2) (hb:b1=b2) {r:Int} (g:r=CO (x.natAbs:Nat) (y.natAbs:Nat)):decide (x=y)=(r==0):=by
 have d:=h.neg;have f:=j.neg;rw[hb,f] at d;have h3:(y<0)↔(x<0):=by simpa using d
 rw[g,Bool.eq_iff_iff,decide_eq_true_iff,beq_iff_eq];rcases L8 (x.natAbs:Nat) (y.natAbs:Nat) with⟨a,b⟩ |⟨a,b⟩ |⟨a,b⟩ <;> rw[b] <;> omega
def Jn:Nat->ByteArray->ByteArray
 | 0,s=>s
 | f+1,s=>Jn f (⟨#[48]⟩++s)
def ij (s:ByteArray):((⟨#[48]⟩:ByteArray)++s).size=s.size+1:=by
 rw[ByteArray.size_append];have:(⟨#[48]⟩:ByteArray).size=1:=rfl;omega
def So (k:Nat) (s:ByteArray):ByteArray:=if k>0 then (s.extract 0 (s.size-k)++⟨#[46]⟩)++s.extract (s.size-k) s.size else s
def OD (k:Nat) (q:Rat):ByteArray:=So k (Jn (k+1-(Jc (decide (q.num<0)) q.num.natAbs).size) (Jc (decide (q.num<0)) q.num.natAbs))
def I1:Nat->Nat->Rat->ByteArray×Bool
 | 0,_,_=>(⟨#[]⟩,false)
 | f+1,k,q=>if (q.den:Int)=1 then (OD k q,decide (((OD k q).size:Int)<=40)) else I1 f (k+1) (q*((10:Int):Rat))
structure QE (b1:Bool) (l1:List UInt32) (b2:Bool) (l2:List UInt32) (R:ByteArray) (c:Bool):Prop where
 no:GV b1 l1 b2 l2=false->(R,c)=(⟨#[]⟩,false)
 lt:∀q,Bn q b1 l1 b2 l2->Ef q<0->(R,c)=(⟨#[]⟩,false)
 ge:∀q,Bn q b1 l1 b2 l2->¬Ef q<0->(R,c)=I1 41 0 q
def V3 {b1 b2:Bool} {l1 l2:List UInt32} (h:Bn p b1 l1 b2 l2) (h':Bn q b1 l1 b2 l2):p=q:=by
 have a:=h.num.Fq.trans h'.num.Fq.symm;have b:=h.den.Fq.trans h'.den.Fq.symm;exact Rat.ext a AA
def aY (b1:Bool) (l1:List UInt32) (b2:Bool) (l2:List UInt32):∃R c,QE b1 l1 b2 l2 R c:=by
 by_cases f:∃q,Bn q b1 l1 b2 l2
 ·obtain⟨q,b⟩:=f;have g:GV b1 l1 b2 l2=true:=OE.2 ⟨q,b⟩
  by_cases d:Ef q<0
  ·exact⟨_,_,fun _=>rfl,fun _ _ _=>rfl,fun p a h=>absurd (V3 a b ▸ d) h⟩
  exact⟨(I1 41 0 q).1,(I1 41 0 q).2,fun h=>(by rw[g] at h;cases h),fun p a h=>absurd (V3 a b ▸ h) d,fun p a _=>by rw[V3 a b]⟩
 exact⟨_,_,fun _=>rfl,fun _ _ _=>rfl,fun p a _=>absurd ⟨p,a⟩ f⟩
def aX (a:k<=40) (h:(q.den:Int)=1):I1 (41-k) k q=(OD k q,decide (((OD k q).size:Int)<=40)):=by
 rw[(AA:41-k=(40-k)+1),I1,if_pos h]
def o7 (a:k<=40) (h:¬(q.den:Int)=1):I1 (41-k) k q=I1 (41-(k+1)) (k+1) (q*((10:Int):Rat)):=by
 rw[(AA:41-k=(41-(k+1))+1),I1,if_neg h]
def uG {s:ByteArray} (h:s.size<=k):Jn (k+1-s.size) s=Jn (k+1-(⟨#[48]⟩++s).size) (⟨#[48]⟩++s):=by
 rw[ij,(AA:k+1-s.size=(k+1-(s.size+1))+1),Jn]
def ix {a b:Nat} (d:p.num.natAbs<2^(32*a)) (f:p.den<2^(32*b)) (ha:a<=4000000000000) (hb:b<=4000000000000):Ch p:=
 ⟨Nat.le_trans (HS d) ha,Nat.le_trans (HS f) hb⟩
def s9:(p*((10:Int):Rat)).num.natAbs<=p.num.natAbs*10/\(p*((10:Int):Rat)).den<=p.den:=by
 have a:((10:Int):Rat).num=10:=rfl;have b:((10:Int):Rat).den=1:=rfl;rw[Rat.num_mul,Rat.den_mul,a,b,Nat.mul_one];refine⟨?_,Nat.div_le_self _ _⟩;refine Nat.le_trans (Int.natAbs_ediv_le_natAbs _ _) ?_;rw[Int.natAbs_mul];exact Nat.le_refl _
structure Bq (k:Nat) (p:Rat):Prop where
 num:p.num.natAbs<2^(32*(1048580+k))
 den:p.den<2^(32*(1048580+k))
def Bq.small (h:Bq k p) (a:k<=41):Ch p:=ix h.num h.den AA AA
def Bq.step (h:Bq k p):Bq (k+1) (p*((10:Int):Rat)):=by
 obtain⟨a,b⟩:=s9 (p:=p);refine⟨Nat.lt_of_le_of_lt a ?_,Nat.lt_of_le_of_lt b (Nat.lt_of_lt_of_le h.den (Nat.pow_le_pow_right AD AA))⟩;have h3:=h.num;rw[(AA:32*(1048580+(k+1))=32*(1048580+k)+32),Nat.pow_add]
 generalize 2^(32*(1048580+k))=P at*
 have:(2:Nat)^32=4294967296:=AD
 rw[this];omega
def Bq.init {b1 b2:Bool} {l1 l2:List UInt32} (h:Bn q b1 l1 b2 l2) (s1:l1.length<=1048580) (s2:l2.length<=1048580):Bq 0 q:=by
 have a:=Dj l1;have b:=Dj l2;rw[h.num.nat] at a;rw[h.den.nat] at b;have e1:32*l1.length<=32*(1048580+0):=AA
 have e2:32*l2.length<=32*(1048580+0):=AA
 constructor
 ·generalize 32*(1048580+0)=K at *;exact Nat.lt_of_lt_of_le a (Nat.pow_le_pow_right AD e1)
 generalize 32*(1048580+0)=K at *;exact Nat.lt_of_lt_of_le b (Nat.pow_le_pow_right AD e2)
def Bq.bits {b1 b2:Bool} {l1 l2:List UInt32} (h:Bq k p) (a:Bn p b1 l1 b2 l2) (d:k<=41) (b:B=40000000):AI l1<=2^B:=by
 rw[a.num.nat];exact Nat.le_trans (Nat.le_of_lt h.num) (Nat.pow_le_pow_right AD AA)
def mU {b1 b2:Bool} {l1 l2:List UInt32} (f:BQ x b1 l1) (g:BQ y b2 l2) (h:c=decide (x=y)):CF 275 [.agg (Bu b1 l1),.agg (Bu b2 l2)] (.one (.bool c)):=by
 refine AL Tryz.func275 fun E j=>?_
 intro o b;cases o <;> conv=>cbv
 ·have l:=Ut b;exact AO (by rw[h];exact decide_eq_false fun e=>absurd (f.uniq g e).1 (beq_eq_false_iff_ne.1 b.symm))
 have l:=Uu b;obtain⟨r,a⟩:=xI (CO (x.natAbs:Nat) (y.natAbs:Nat));refine AB j (Oa f.Bx g.Bx a) ?_;intro m d;exact AO (by rw[h,vU f g (beq_iff_eq.1 b.symm) a,d])
def jk {b1 b2:Bool} {l1 l2:List UInt32} (b:Bn p b1 l1 b2 l2) {r s:ByteArray} (d:r=Jc b1 (AI l1)) (a:Jn (k+1-s.size) s=Jn (k+1-r.size) r) (f:¬s.size<=k):OD k p=So k s:=by
 unfold OD;rw[<-b.num.neg,<-b.num.nat,<-d,<-a,(AA:k+1-s.size=0),Jn]
def QF {b1 b2:Bool} {l1 l2:List UInt32} {R:ByteArray} (s1:l1.length<=1048580) (s2:l2.length<=1048580) (hR:QE b1 l1 b2 l2 R c):CF 229 [.agg (CP b1 l1 b2 l2)] (.BI [(false,[.str R]),(false,[.bool c])]):=by
 obtain⟨B,hB⟩:=xN 40000000;refine IN Tryz.func229 fun E I=>?_
 conv=>cbv
 obtain⟨aq,m⟩:=xB (GV b1 l1 b2 l2);refine Be I (Yt m AA AA) ?_;conv=>cbv
 refine RT ?_ ?_ <;> intro W <;> conv=>cbv
 ·have d:=hR.no (m.symm.trans W);exact AN ⟨⟨rfl,congrArg _ (congrArg Prod.fst d),trivial⟩,⟨rfl,congrArg _ (congrArg Prod.snd d),trivial⟩,trivial⟩
 obtain⟨q,U⟩:=OE.1 (m.symm.trans W);obtain⟨aR,V⟩:=xI (Ef q);refine Be I (QW U V) ?_;conv=>cbv
 refine RQ ?_ ?_ <;> intro aH <;> conv=>cbv
 ·have d:=hR.lt q U AA;exact AN ⟨⟨rfl,congrArg _ (congrArg Prod.fst d),trivial⟩,⟨rfl,congrArg _ (congrArg Prod.snd d),trivial⟩,trivial⟩
 obtain⟨c1,m1,c2,m2,ht⟩:=Ca ((10:Int):Rat);refine Be I (Ff AD rfl ht) ?_;conv=>cbv
 obtain⟨f,fl,Q⟩:=BO 1;refine Be I (OX AD Q) ?_;conv=>cbv
 refine BX [] [4,5,6,7] [4,5,6] (fun vs Z k=>∃(g:Nat) (j:Int) (p:Rat) (x1 x2:Bool) (y1 y2:List UInt32),vs=[.one (.BU 4 0 0),.one (.BU 5 0 0),.one (.BU 6 0 0),AH j]/\Z=[.var 0 [.bool c1,.sl .u32 m1,.bool c2,.sl .u32 m2],.var 0 [.bool f,.sl .u32 fl],.var 0 [.bool x1,.sl .u32 y1,.bool x2,.sl .u32 y2]]/\(AZ j g/\g<=41)/\Bn p x1 y1 x2 y2/\Bq g p/\(R,c)=I1 (41-g) g p/\k=41-g) (41-0) ⟨0,0,q,b1,b2,l1,l2,rfl,rfl,⟨BM 0,AA⟩,U,Bq.init U AA AA,hR.ge q U AA,rfl⟩ ?_;rintro J0 a8 vs Z aK ⟨g,j,p,x1,x2,y1,y2,rfl,rfl,⟨hj,aB⟩,J,w,u,aC⟩;conv=>cbv
 have ej:=hj.eq;refine Ox ?_ ?_ <;> intro aI <;> conv=>cbv
 ·have d:=u;rw[(AA:41-g=0),I1] at d;exact AN ⟨⟨rfl,congrArg _ (congrArg Prod.fst d),trivial⟩,⟨rfl,congrArg _ (congrArg Prod.snd d),trivial⟩,trivial⟩
 refine .inr ?_;obtain⟨a1,h⟩:=xB (decide ((p.den:Int)=1));refine Be I (mU J.den Q h) ?_;conv=>cbv
 cases a1 <;> conv=>cbv
 ·obtain⟨u1,w1,u2,w2,hz⟩:=Ca (p*((10:Int):Rat));have a2:Ch ((10:Int):Rat):=ix (a:=1) (b:=1) AD AD AD AD;refine Be I (QV J ht (w.small AA) a2 rfl hz) ?_;refine Af ?_;intro ae ay;exact D6 (Bj a8 ⟨g+1,ae,_,u1,u2,w1,w2,rfl,rfl,⟨⟨AA⟩,AA⟩,hz,w.step,u.trans (o7 AA (of_decide_eq_false h.symm)),rfl⟩)
 obtain⟨t,l⟩:∃z:ByteArray,z=Jc x1 (AI y1):=⟨_,rfl⟩
 have P:=w.bits J AA hB;have aE:t.size<=B+2:=l ▸ qY P;have aG:=(J.small (w.small AA)).1;refine Be I (mE J.num AA P AA l) ?_;conv=>cbv
 refine BX [] [7,8] [] (fun vs Z k=>∃(s:ByteArray),vs=[AH j,.one (.str s)]/\Jn (g+1-s.size) s=Jn (g+1-t.size) t/\s.size<=B+50/\k=g+1-s.size) (g+1-t.size) ⟨t,rfl,rfl,AA,rfl⟩ ?_;rintro J1 aa vs Z aL ⟨s,rfl,r,aF,aD⟩;conv=>cbv
 intro af a5;have av:af=(ByteArray.size s:Nat):=a5.eq;conv=>cbv
 refine pY ?_ ?_ <;> intro aJ <;> conv=>cbv
 ·refine .inr ?_;refine⟨fun _=>by rw[show (⟨#[48]⟩:ByteArray).size=1 from rfl];omega,?_⟩;intro X A;conv=>cbv
  have ab:X.size=s.size+1:=by rw[A];exact ij s
  exact Bj aa ⟨X,rfl,by rw[A];exact (uG AA).symm.trans r,AA,rfl⟩
 intro ag L;conv=>cbv
 refine .inr ?_;cases ag <;> conv=>cbv
 ·have ad:=Gs L;intro K G;have F:K=(ByteArray.size s:Nat):=G.eq;refine Af ?_;intro al H;have d:=u.trans (aX AA (of_decide_eq_true h.symm));rw[jk J l r AA] at d;rw[So,if_neg AA] at d;exact AN ⟨⟨rfl,congrArg _ (congrArg Prod.fst d),trivial⟩,⟨rfl,congrArg _ ((congrArg Prod.snd d).trans (by rw[H,F])),trivial⟩,trivial⟩
 have ad:=Gt L;intro ah a6;have aw:ah=(ByteArray.size s:Nat):=a6.eq;refine Af ?_;intro ai az;refine D6 ?_;intro aP an;conv=>cbv
 refine GL ?_;intro ar N;refine⟨rfl,?_⟩;intro aM o;conv=>cbv
 refine⟨fun _=>by rw[o,show (⟨#[46]⟩:ByteArray).size=1 from rfl,ByteArray.size_extract];omega,?_⟩;intro aN C;conv=>cbv
 intro aj a7;have ax:aj=(ByteArray.size s:Nat):=a7.eq;refine Af ?_;intro ak aA;refine D6 ?_;intro aQ T;conv=>cbv
 refine GL ?_;rintro ao au ⟨M,O⟩;refine⟨rfl,?_⟩;intro aO D;conv=>cbv
 refine⟨fun _=>by rw[C,o,D,ByteArray.size_append,show (⟨#[46]⟩:ByteArray).size=1 from rfl,ByteArray.size_extract,ByteArray.size_extract];omega,?_⟩;intro Y S;conv=>cbv
 refine g2 rfl ?_;intro K G;have F:K=(ByteArray.size Y:Nat):=G.eq;refine Af ?_;intro al H;have d:=u.trans (aX AA (of_decide_eq_true h.symm));rw[jk J l r AA] at d;have e9:Y=(s.extract 0 (s.size-g)++⟨#[46]⟩)++s.extract (s.size-g) s.size:=by rw[S,C,o,D,N,M,O,T,(AA:ai.toNat=s.size-g),(AA:ak.toNat=s.size-g)]
 rw[So,if_pos AA,<-e9] at d;exact AN ⟨⟨rfl,congrArg _ (congrArg Prod.fst d),trivial⟩,⟨rfl,congrArg _ ((congrArg Prod.snd d).trans (by rw[H,F])),trivial⟩,trivial⟩
end
section
noncomputable def NA (x:el AJ):ByteArray:=Classical.choose (aY x.1.1 x.1.2 x.2.1 x.2.2)
def aZ (x:el AJ):∃c,QE x.1.1 x.1.2 x.2.1 x.2.2 (NA x) c:=Classical.choose_spec (aY x.1.1 x.1.2 x.2.1 x.2.2)
noncomputable def MC (x:el AJ):Bool:=Classical.choose (aZ x)
def RG (x:el AJ):QE x.1.1 x.1.2 x.2.1 x.2.2 (NA x) (MC x):=Classical.choose_spec (aZ x)
def E8 (s:ByteArray):Bool:=s.toList==(⟨#[]⟩:ByteArray).toList
def Ba (v:el AJ):Bool:=((!v.1.1&& !v.2.1)&&((v.1.2.length:Int)==0))&&((v.2.2.length:Int)==0)
def sh (o:Int) (z d m nb:Bool) (l:Int):Bool:=
 if o=1 then (d&&(m||nb))&&(l==0) else if o=2 then (z&&nb)&&(l==0) else if o=3 then (z&&m)&&(l==1)
 else if o=4\/o=5\/o=6\/o=7 then (z&&m)&&(l==2) else false
noncomputable def Py (e:Ex):Bool:=sh e.op (Ba e.v) (MC e.v) (E8 e.name) (JA e.name) (e.args.length:Nat)
mutual
noncomputable def KH:Ex->Bool
 | .mk o v s l=>Py (.mk o v s l)&&KI l
noncomputable def KI:List Ex->Bool
 | []=>true
 | x::r=>KH x&&KI r
end
mutual
def HO:Ex->Int
 | .mk _ _ _ l=>Hg 0 l+1
def Hg:Int->List Ex->Int
 | n,[]=>n
 | n,x::r=>Hg (if HO x>n then HO x else n) r
end
def qb (e:Ex):KH e=(Py e&&KI e.args):=by cases e;rfl
def ae (e:Ex):HO e=Hg 0 e.args+1:=by cases e;rfl
def bw {l:List Ex} {i:Nat} {x:Ex} (h:l[i]? =some x):KI (l.drop i)=(KH x&&KI (l.drop (i+1))):=by
 have a:=EX h;rw[List.drop_eq_getElem_cons a,KI];rw[List.getElem?_eq_getElem a] at h;rw[Option.some.inj h]
def pC {l:List Ex} {i:Nat} {x:Ex} {n:Int} (h:l[i]? =some x):Hg n (l.drop i)=Hg (if HO x>n then HO x else n) (l.drop (i+1)):=by
 have a:=EX h;rw[List.drop_eq_getElem_cons a,Hg];rw[List.getElem?_eq_getElem a] at h;rw[Option.some.inj h]
def aa {N:Int}:∀(l:List Ex) (n:Int),0<=n->n<=N->(∀x∈l,0<=HO x/\HO x<=N)->0<=Hg n l/\Hg n l<=N
 | [],n,a,b,_=>⟨a,b⟩
 | x::r,n,a,b,h=>by
  rw[Hg];have:=h x List.mem_cons_self;exact aa r _ (by split <;> omega) (by split <;> omega) fun y d=>h y (List.mem_cons_of_mem _ d)
def pD {N:Nat} {e:Ex} (h:Gl N e):0<=HO e/\HO e<=N:=by
 induction h with
 | mk N y b d h3 f g a=>
  rw[ae];have:=aa (N:=N) y.args 0 AA AA a;omega
def Gl.lens {N:Nat} {e:Ex} (h:Gl N e):e.v.1.2.length<=N/\e.v.2.2.length<=N/\e.args.length<=N:=by
 cases h with
 | mk N y a b h3 d f=>exact⟨a,b,d⟩
def wm {o:Int} {a b:Bool} {l m:List UInt32} {s:ByteArray} {r:List Ex} {c:Bool} (s1:l.length<=1048580) (s2:m.length<=1048580) (G:c=Py (.mk o ((a,l),(b,m)) s r)):CF 173 [.agg [.int .i64 o,.bool a,.sl .u32 l,.bool b,.sl .u32 m,.str s,.sl .ex r]] (.one (.bool c)):=by
 have G:c=sh o (Ba ((a,l),(b,m))) (MC ((a,l),(b,m))) (E8 s) (JA s) ((r.length:Nat):Int):=G;refine AL Tryz.func173 fun E hE=>?_
 intro aq f;cases aq <;> conv=>cbv
 ·have al:=Hp f;refine .inr ?_;refine BY (fun d=>?_) fun d=>?_
  ·obtain⟨X,A⟩:=xB (MC ((a,l),(b,m)));obtain⟨ae,U⟩:∃z:ByteArray,z=NA ((a,l),(b,m)):=⟨_,rfl⟩
   refine AB hE (QF s1 s2 (A ▸ U ▸ RG ((a,l),(b,m)))) ?_;cases X <;> conv=>cbv
   ·have g:Ba ((a,l),(b,m))=false:=by unfold Ba;rw[<-f];rfl
    exact AO (by rw[G,g,<-A];simp[sh,d])
   intro Z M;conv=>cbv
   cases Z <;> conv=>cbv
   ·obtain⟨Y,I⟩:=xB (JA s);refine AB hE (OP I) ?_;cases Y <;> conv=>cbv
    ·have g:Ba ((a,l),(b,m))=false:=by unfold Ba;rw[<-f];rfl
     exact AO (by rw[G,g,<-A,show E8 s=_ from M.symm,<-I];simp[sh,d])
    refine Af ?_;rintro a1 ⟨L,f58⟩ a2 N;have g:Ba ((a,l),(b,m))=false:=by unfold Ba;rw[<-f];rfl
    exact AO (by rw[G,g,<-A,show E8 s=_ from M.symm,<-I,<-L];simp[sh,d,N])
   refine Af ?_;rintro a1 ⟨L,f58⟩ a2 N;have g:Ba ((a,l),(b,m))=false:=by unfold Ba;rw[<-f];rfl
   exact AO (by rw[G,g,<-A,show E8 s=_ from M.symm,<-L];simp[sh,d,N])
  refine BY (fun j=>?_) fun j=>?_
  ·have g:Ba ((a,l),(b,m))=false:=by unfold Ba;rw[<-f];rfl
   exact AO (by rw[G,g];simp[sh,d,j])
  refine BY (fun t=>?_) fun t=>?_
  ·have g:Ba ((a,l),(b,m))=false:=by unfold Ba;rw[<-f];rfl
   exact AO (by rw[G,g];simp[sh,d,j,t])
  intro a5 Q;refine .inr ?_;cases a5 <;> conv=>cbv
  ·have C:=CI Q;intro a6 R;conv=>cbv
   refine .inr ?_;cases a6 <;> conv=>cbv
   ·have F:=CI R;intro a7 S;conv=>cbv
    refine .inr ?_;cases a7 <;> conv=>cbv
    ·have J:=CI S;refine Cw (fun K=>?_) fun K=>?_
     ·have g:Ba ((a,l),(b,m))=false:=by unfold Ba;rw[<-f];rfl
      exact AO (by rw[G,g];simp[sh,d,j,t,C,F,J,K])
     have g:Ba ((a,l),(b,m))=false:=by unfold Ba;rw[<-f];rfl
     exact AO (by rw[G,g];simp[sh,d,j,t,C,F,J,K])
    have J:=CL S;have g:Ba ((a,l),(b,m))=false:=by unfold Ba;rw[<-f];rfl
    exact AO (by rw[G,g];simp[sh,d,j,t,C,F,J])
   have F:=CL R;have g:Ba ((a,l),(b,m))=false:=by unfold Ba;rw[<-f];rfl
   exact AO (by rw[G,g];simp[sh,d,j,t,C,F])
  have C:=CL Q;have g:Ba ((a,l),(b,m))=false:=by unfold Ba;rw[<-f];rfl
  exact AO (by rw[G,g];simp[sh,d,j,t,C])
 have al:=Hq f;intro ar h;conv=>cbv
 cases ar <;> conv=>cbv
 ·have an:=Hp h;refine .inr ?_;refine BY (fun d=>?_) fun d=>?_
  ·obtain⟨X,A⟩:=xB (MC ((a,l),(b,m)));obtain⟨ae,U⟩:∃z:ByteArray,z=NA ((a,l),(b,m)):=⟨_,rfl⟩
   refine AB hE (QF s1 s2 (A ▸ U ▸ RG ((a,l),(b,m)))) ?_;cases X <;> conv=>cbv
   ·have g:Ba ((a,l),(b,m))=false:=by unfold Ba;rw[<-f,<-h];rfl
    exact AO (by rw[G,g,<-A];simp[sh,d])
   intro Z M;conv=>cbv
   cases Z <;> conv=>cbv
   ·obtain⟨Y,I⟩:=xB (JA s);refine AB hE (OP I) ?_;cases Y <;> conv=>cbv
    ·have g:Ba ((a,l),(b,m))=false:=by unfold Ba;rw[<-f,<-h];rfl
     exact AO (by rw[G,g,<-A,show E8 s=_ from M.symm,<-I];simp[sh,d])
    refine Af ?_;rintro a1 ⟨L,f58⟩ a2 N;have g:Ba ((a,l),(b,m))=false:=by unfold Ba;rw[<-f,<-h];rfl
    exact AO (by rw[G,g,<-A,show E8 s=_ from M.symm,<-I,<-L];simp[sh,d,N])
   refine Af ?_;rintro a1 ⟨L,f58⟩ a2 N;have g:Ba ((a,l),(b,m))=false:=by unfold Ba;rw[<-f,<-h];rfl
   exact AO (by rw[G,g,<-A,show E8 s=_ from M.symm,<-L];simp[sh,d,N])
  refine BY (fun j=>?_) fun j=>?_
  ·have g:Ba ((a,l),(b,m))=false:=by unfold Ba;rw[<-f,<-h];rfl
   exact AO (by rw[G,g];simp[sh,d,j])
  refine BY (fun t=>?_) fun t=>?_
  ·have g:Ba ((a,l),(b,m))=false:=by unfold Ba;rw[<-f,<-h];rfl
   exact AO (by rw[G,g];simp[sh,d,j,t])
  intro a5 Q;refine .inr ?_;cases a5 <;> conv=>cbv
  ·have C:=CI Q;intro a6 R;conv=>cbv
   refine .inr ?_;cases a6 <;> conv=>cbv
   ·have F:=CI R;intro a7 S;conv=>cbv
    refine .inr ?_;cases a7 <;> conv=>cbv
    ·have J:=CI S;refine Cw (fun K=>?_) fun K=>?_
     ·have g:Ba ((a,l),(b,m))=false:=by unfold Ba;rw[<-f,<-h];rfl
      exact AO (by rw[G,g];simp[sh,d,j,t,C,F,J,K])
     have g:Ba ((a,l),(b,m))=false:=by unfold Ba;rw[<-f,<-h];rfl
     exact AO (by rw[G,g];simp[sh,d,j,t,C,F,J,K])
    have J:=CL S;have g:Ba ((a,l),(b,m))=false:=by unfold Ba;rw[<-f,<-h];rfl
    exact AO (by rw[G,g];simp[sh,d,j,t,C,F,J])
   have F:=CL R;have g:Ba ((a,l),(b,m))=false:=by unfold Ba;rw[<-f,<-h];rfl
   exact AO (by rw[G,g];simp[sh,d,j,t,C,F])
  have C:=CL Q;have g:Ba ((a,l),(b,m))=false:=by unfold Ba;rw[<-f,<-h];rfl
  exact AO (by rw[G,g];simp[sh,d,j,t,C])
 have an:=Hq h;refine Af ?_;rintro aw ⟨D,f23⟩ au u;cases au <;> conv=>cbv
 ·have ao:=CI u;refine .inr ?_;refine BY (fun d=>?_) fun d=>?_
  ·obtain⟨X,A⟩:=xB (MC ((a,l),(b,m)));obtain⟨ae,U⟩:∃z:ByteArray,z=NA ((a,l),(b,m)):=⟨_,rfl⟩
   refine AB hE (QF s1 s2 (A ▸ U ▸ RG ((a,l),(b,m)))) ?_;cases X <;> conv=>cbv
   ·have g:Ba ((a,l),(b,m))=false:=by unfold Ba;rw[<-f,<-h,<-D,<-u];rfl
    exact AO (by rw[G,g,<-A];simp[sh,d])
   intro Z M;conv=>cbv
   cases Z <;> conv=>cbv
   ·obtain⟨Y,I⟩:=xB (JA s);refine AB hE (OP I) ?_;cases Y <;> conv=>cbv
    ·have g:Ba ((a,l),(b,m))=false:=by unfold Ba;rw[<-f,<-h,<-D,<-u];rfl
     exact AO (by rw[G,g,<-A,show E8 s=_ from M.symm,<-I];simp[sh,d])
    refine Af ?_;rintro a1 ⟨L,f58⟩ a2 N;have g:Ba ((a,l),(b,m))=false:=by unfold Ba;rw[<-f,<-h,<-D,<-u];rfl
    exact AO (by rw[G,g,<-A,show E8 s=_ from M.symm,<-I,<-L];simp[sh,d,N])
   refine Af ?_;rintro a1 ⟨L,f58⟩ a2 N;have g:Ba ((a,l),(b,m))=false:=by unfold Ba;rw[<-f,<-h,<-D,<-u];rfl
   exact AO (by rw[G,g,<-A,show E8 s=_ from M.symm,<-L];simp[sh,d,N])
  refine BY (fun j=>?_) fun j=>?_
  ·have g:Ba ((a,l),(b,m))=false:=by unfold Ba;rw[<-f,<-h,<-D,<-u];rfl
   exact AO (by rw[G,g];simp[sh,d,j])
  refine BY (fun t=>?_) fun t=>?_
  ·have g:Ba ((a,l),(b,m))=false:=by unfold Ba;rw[<-f,<-h,<-D,<-u];rfl
   exact AO (by rw[G,g];simp[sh,d,j,t])
  intro a5 Q;refine .inr ?_;cases a5 <;> conv=>cbv
  ·have C:=CI Q;intro a6 R;conv=>cbv
   refine .inr ?_;cases a6 <;> conv=>cbv
   ·have F:=CI R;intro a7 S;conv=>cbv
    refine .inr ?_;cases a7 <;> conv=>cbv
    ·have J:=CI S;refine Cw (fun K=>?_) fun K=>?_
     ·have g:Ba ((a,l),(b,m))=false:=by unfold Ba;rw[<-f,<-h,<-D,<-u];rfl
      exact AO (by rw[G,g];simp[sh,d,j,t,C,F,J,K])
     have g:Ba ((a,l),(b,m))=false:=by unfold Ba;rw[<-f,<-h,<-D,<-u];rfl
     exact AO (by rw[G,g];simp[sh,d,j,t,C,F,J,K])
    have J:=CL S;have g:Ba ((a,l),(b,m))=false:=by unfold Ba;rw[<-f,<-h,<-D,<-u];rfl
    exact AO (by rw[G,g];simp[sh,d,j,t,C,F,J])
   have F:=CL R;have g:Ba ((a,l),(b,m))=false:=by unfold Ba;rw[<-f,<-h,<-D,<-u];rfl
   exact AO (by rw[G,g];simp[sh,d,j,t,C,F])
  have C:=CL Q;have g:Ba ((a,l),(b,m))=false:=by unfold Ba;rw[<-f,<-h,<-D,<-u];rfl
  exact AO (by rw[G,g];simp[sh,d,j,t,C])
 have ao:=CL u;refine Af ?_;rintro ax ⟨H,f31⟩ W w;refine .inr ?_;refine BY (fun d=>?_) fun d=>?_
 ·obtain⟨X,A⟩:=xB (MC ((a,l),(b,m)));obtain⟨ae,U⟩:∃z:ByteArray,z=NA ((a,l),(b,m)):=⟨_,rfl⟩
  refine AB hE (QF s1 s2 (A ▸ U ▸ RG ((a,l),(b,m)))) ?_;cases X <;> conv=>cbv
  ·have g:Ba ((a,l),(b,m))=W:=by unfold Ba;rw[<-f,<-h,<-D,<-u,<-H,<-w];rfl
   exact AO (by rw[G,g,<-A];simp[sh,d])
  intro Z M;conv=>cbv
  cases Z <;> conv=>cbv
  ·obtain⟨Y,I⟩:=xB (JA s);refine AB hE (OP I) ?_;cases Y <;> conv=>cbv
   ·have g:Ba ((a,l),(b,m))=W:=by unfold Ba;rw[<-f,<-h,<-D,<-u,<-H,<-w];rfl
    exact AO (by rw[G,g,<-A,show E8 s=_ from M.symm,<-I];simp[sh,d])
   refine Af ?_;rintro a1 ⟨L,f58⟩ a2 N;have g:Ba ((a,l),(b,m))=W:=by unfold Ba;rw[<-f,<-h,<-D,<-u,<-H,<-w];rfl
   exact AO (by rw[G,g,<-A,show E8 s=_ from M.symm,<-I,<-L];simp[sh,d,N])
  refine Af ?_;rintro a1 ⟨L,f58⟩ a2 N;have g:Ba ((a,l),(b,m))=W:=by unfold Ba;rw[<-f,<-h,<-D,<-u,<-H,<-w];rfl
  exact AO (by rw[G,g,<-A,show E8 s=_ from M.symm,<-L];simp[sh,d,N])
 refine BY (fun j=>?_) fun j=>?_
 ·cases W <;> conv=>cbv
  ·have V:=CI w;have g:Ba ((a,l),(b,m))=false:=by unfold Ba;rw[<-f,<-h,<-D,<-u,<-H,<-w];rfl
   exact AO (by rw[G,g];simp[sh,d,j])
  have V:=CL w;obtain⟨ag,aa⟩:=xB (JA s);refine AB hE (OP aa) ?_;cases ag <;> conv=>cbv
  ·have g:Ba ((a,l),(b,m))=true:=by unfold Ba;rw[<-f,<-h,<-D,<-u,<-H,<-w];rfl
   exact AO (by rw[G,g,<-aa];simp[sh,d,j])
  refine Af ?_;rintro ay ⟨ah,f72⟩ az aj;have g:Ba ((a,l),(b,m))=true:=by unfold Ba;rw[<-f,<-h,<-D,<-u,<-H,<-w];rfl
  exact AO (by rw[G,g,<-aa,<-ah];simp[sh,d,j,aj])
 refine BY (fun t=>?_) fun t=>?_
 ·cases W <;> conv=>cbv
  ·have V:=CI w;have g:Ba ((a,l),(b,m))=false:=by unfold Ba;rw[<-f,<-h,<-D,<-u,<-H,<-w];rfl
   exact AO (by rw[G,g];simp[sh,d,j,t])
  have V:=CL w;intro av af;conv=>cbv
  cases av <;> conv=>cbv
  ·have g:Ba ((a,l),(b,m))=true:=by unfold Ba;rw[<-f,<-h,<-D,<-u,<-H,<-w];rfl
   exact AO (by rw[G,g,show E8 s=_ from af.symm];simp[sh,d,j,t])
  refine Af ?_;rintro aA ⟨ai,f86⟩ aB ak;have g:Ba ((a,l),(b,m))=true:=by unfold Ba;rw[<-f,<-h,<-D,<-u,<-H,<-w];rfl
  exact AO (by rw[G,g,show E8 s=_ from af.symm,<-ai];simp[sh,d,j,t,ak])
 intro a5 Q;refine .inr ?_;cases a5 <;> conv=>cbv
 ·have C:=CI Q;intro a6 R;conv=>cbv
  refine .inr ?_;cases a6 <;> conv=>cbv
  ·have F:=CI R;intro a7 S;conv=>cbv
   refine .inr ?_;cases a7 <;> conv=>cbv
   ·have J:=CI S;refine Cw (fun K=>?_) fun K=>?_
    ·have g:Ba ((a,l),(b,m))=W:=by unfold Ba;rw[<-f,<-h,<-D,<-u,<-H,<-w];rfl
     exact AO (by rw[G,g];simp[sh,d,j,t,C,F,J,K])
    cases W <;> conv=>cbv
    ·have V:=CI w;have g:Ba ((a,l),(b,m))=false:=by unfold Ba;rw[<-f,<-h,<-D,<-u,<-H,<-w];rfl
     exact AO (by rw[G,g];simp[sh,d,j,t,C,F,J,K])
    have V:=CL w;intro a8 T;conv=>cbv
    cases a8 <;> conv=>cbv
    ·have g:Ba ((a,l),(b,m))=true:=by unfold Ba;rw[<-f,<-h,<-D,<-u,<-H,<-w];rfl
     exact AO (by rw[G,g,show E8 s=_ from T.symm];simp[sh,d,j,t,C,F,J,K])
    refine Af ?_;rintro ab ⟨O,f103⟩ ad P;have g:Ba ((a,l),(b,m))=true:=by unfold Ba;rw[<-f,<-h,<-D,<-u,<-H,<-w];rfl
    exact AO (by rw[G,g,show E8 s=_ from T.symm,<-O];simp[sh,d,j,t,C,F,J,K,P])
   have J:=CL S;cases W <;> conv=>cbv
   ·have V:=CI w;have g:Ba ((a,l),(b,m))=false:=by unfold Ba;rw[<-f,<-h,<-D,<-u,<-H,<-w];rfl
    exact AO (by rw[G,g];simp[sh,d,j,t,C,F,J])
   have V:=CL w;intro a8 T;conv=>cbv
   cases a8 <;> conv=>cbv
   ·have g:Ba ((a,l),(b,m))=true:=by unfold Ba;rw[<-f,<-h,<-D,<-u,<-H,<-w];rfl
    exact AO (by rw[G,g,show E8 s=_ from T.symm];simp[sh,d,j,t,C,F,J])
   refine Af ?_;rintro ab ⟨O,f103⟩ ad P;have g:Ba ((a,l),(b,m))=true:=by unfold Ba;rw[<-f,<-h,<-D,<-u,<-H,<-w];rfl
   exact AO (by rw[G,g,show E8 s=_ from T.symm,<-O];simp[sh,d,j,t,C,F,J,P])
  have F:=CL R;cases W <;> conv=>cbv
  ·have V:=CI w;have g:Ba ((a,l),(b,m))=false:=by unfold Ba;rw[<-f,<-h,<-D,<-u,<-H,<-w];rfl
   exact AO (by rw[G,g];simp[sh,d,j,t,C,F])
  have V:=CL w;intro a8 T;conv=>cbv
  cases a8 <;> conv=>cbv
  ·have g:Ba ((a,l),(b,m))=true:=by unfold Ba;rw[<-f,<-h,<-D,<-u,<-H,<-w];rfl
   exact AO (by rw[G,g,show E8 s=_ from T.symm];simp[sh,d,j,t,C,F])
  refine Af ?_;rintro ab ⟨O,f103⟩ ad P;have g:Ba ((a,l),(b,m))=true:=by unfold Ba;rw[<-f,<-h,<-D,<-u,<-H,<-w];rfl
  exact AO (by rw[G,g,show E8 s=_ from T.symm,<-O];simp[sh,d,j,t,C,F,P])
 have C:=CL Q;cases W <;> conv=>cbv
 ·have V:=CI w;have g:Ba ((a,l),(b,m))=false:=by unfold Ba;rw[<-f,<-h,<-D,<-u,<-H,<-w];rfl
  exact AO (by rw[G,g];simp[sh,d,j,t,C])
 have V:=CL w;intro a8 T;conv=>cbv
 cases a8 <;> conv=>cbv
 ·have g:Ba ((a,l),(b,m))=true:=by unfold Ba;rw[<-f,<-h,<-D,<-u,<-H,<-w];rfl
  exact AO (by rw[G,g,show E8 s=_ from T.symm];simp[sh,d,j,t,C])
 refine Af ?_;rintro ab ⟨O,f103⟩ ad P;have g:Ba ((a,l),(b,m))=true:=by unfold Ba;rw[<-f,<-h,<-D,<-u,<-H,<-w];rfl
 exact AO (by rw[G,g,show E8 s=_ from T.symm,<-O];simp[sh,d,j,t,C,P])
def kv {o:Int} {a b:Bool} {l m:List UInt32} {s:ByteArray} {r:List Ex} {c:Bool} {N:Nat} (hN:N<=1048576) (W:Gl N (.mk o ((a,l),(b,m)) s r)) (X:∀z∈r,∀c,c=KH z->CF 111 [.agg (cells .ex z)] (.one (.bool c))) (j:c=KH (.mk o ((a,l),(b,m)) s r)):CF 111 [.agg [.int .i64 o,.bool a,.sl .u32 l,.bool b,.sl .u32 m,.str s,.sl .ex r]] (.one (.bool c)):=by
 obtain⟨O,P,q3⟩:=W.lens;have O:l.length<=N:=O;have P:m.length<=N:=P;have j:c=(Py (.mk o ((a,l),(b,m)) s r)&&KI r):=j.trans (qb _);refine AL Tryz.func111 fun E M=>?_
 obtain⟨b5,g⟩:=xB (Py (.mk o ((a,l),(b,m)) s r));refine AB M (wm AA AA g) ?_;refine IH (fun C=>?_) fun C=>?_
 ·exact AO (by rw[j,<-g,C];rfl)
 refine BX [] [1,3] [1] (fun vs L k=>∃(i':Nat) (i:Int),vs=[.one (.BU 1 0 0),AH i]/\L=[.var 0 [.int .i64 o,.bool a,.sl .u32 l,.bool b,.sl .u32 m,.str s,.sl .ex r]]/\(AZ i i'/\i'<=r.length)/\c=KI (r.drop i')/\k=r.length-i') (r.length-0) ⟨0,0,rfl,rfl,⟨BM 0,AA⟩,by rw[j,<-g,C];rfl,rfl⟩ ?_;rintro J0 w vs L Y ⟨i',i,rfl,rfl,⟨T,U⟩,hinv,V⟩;have ei:=T.eq;refine Af ?_;rintro Z ⟨R,f10⟩;refine Bi (fun A=>?_) fun A=>?_
 ·exact AO (by rw[hinv,List.drop_eq_nil_of_le AA,KI])
 refine .inr ?_;refine BA i' fun K f=>?_
 try conv=>cbv
 obtain⟨H,⟨⟨t,D⟩,⟨u,F⟩⟩,J,I⟩:=K;obtain⟨Q,d⟩:=xB (KH (.mk H ((t,D),(u,F)) J I));refine AB M (X _ (List.mem_of_getElem? f) _ d) ?_;refine IH (fun h=>?_) fun h=>?_
 ·exact AO (by rw[hinv,bw f,<-d,h];rfl)
 intro G S;exact Bj w ⟨i'+1,G,rfl,rfl,⟨⟨AA⟩,AA⟩,by rw[hinv,bw f,<-d,h];rfl,rfl⟩
def ku {N:Nat} {e:Ex} (h:Gl N e):N<=1048576->∀c,c=KH e->CF 111 [.agg (cells .ex e)] (.one (.bool c)):=by
 induction h with
 | mk N y d f h3 g j C=>
  intro t c u;have w:Gl (N+1) y:= .mk N y d f h3 g j;obtain⟨o,⟨⟨a,l⟩,⟨b,m⟩⟩,s,r⟩:=y;exact kv t w (fun z A=>C z A AA) u
def kh {o:Int} {a b:Bool} {l m:List UInt32} {s:ByteArray} {r:List Ex} {c:Int} {N:Nat} (hN:N<=1048576) (S:Gl N (.mk o ((a,l),(b,m)) s r)) (T:∀z∈r,CF 112 [.agg (cells .ex z)] (AH (HO z))) (M:c=HO (.mk o ((a,l),(b,m)) s r)):CF 112 [.agg [.int .i64 o,.bool a,.sl .u32 l,.bool b,.sl .u32 m,.str s,.sl .ex r]] (AH c):=by
 obtain⟨d1,d2⟩:=pD S;have O:c=Hg 0 r+1:=M.trans (ae _);refine AL Tryz.func112 fun E L=>?_
 refine BX [] [1,3,4] [1] (fun vs I k=>∃(i':Nat) (i n:Int),vs=[.one (.BU 1 0 0),AH n,AH i]/\I=[.var 0 [.int .i64 o,.bool a,.sl .u32 l,.bool b,.sl .u32 m,.str s,.sl .ex r]]/\(AZ i i'/\i'<=r.length)/\Hg 0 r=Hg n (r.drop i')/\k=r.length-i') (r.length-0) ⟨0,0,0,rfl,rfl,⟨BM 0,AA⟩,rfl,rfl⟩ ?_;rintro Y t vs I V ⟨i',i,n,rfl,rfl,⟨P,Q⟩,hinv,R⟩;have ei:=P.eq;refine Af ?_;rintro n8 ⟨Z,f8⟩;refine Bi (fun U=>?_) fun U=>?_
 ·intro W K;refine⟨fun _=>by unfold Ej;rw[List.drop_eq_nil_of_le AA,Hg] at hinv;omega,?_⟩;rw[List.drop_eq_nil_of_le AA,Hg] at hinv;exact AO AA
 refine .inr ?_;refine BA i' fun H f=>?_
 try conv=>cbv
 obtain⟨D,⟨⟨g,u⟩,⟨h,w⟩⟩,G,F⟩:=H;obtain⟨X,d⟩:=xI (HO (.mk D ((g,u),(h,w)) G F));refine AB L (d ▸ T _ (List.mem_of_getElem? f)) ?_;intro C j A J;exact Bj t ⟨i'+1,A,C,rfl,rfl,⟨⟨AA⟩,AA⟩,by rw[hinv,pC f,<-d,<-j],rfl⟩
def kg {N:Nat} {e:Ex} (h:Gl N e):N<=1048576->CF 112 [.agg (cells .ex e)] (AH (HO e)):=by
 induction h with
 | mk N y d f h3 g j A=>
  intro t;have u:Gl (N+1) y:= .mk N y d f h3 g j;obtain⟨o,⟨⟨a,l⟩,⟨b,m⟩⟩,s,r⟩:=y;exact kh t u (fun z w=>A z w AA) rfl
noncomputable def Hv (e:Ex):Int:=if KH e=true then (if HO e>40 then 3 else 0) else 1
def lg {o:Int} {a b:Bool} {l m:List UInt32} {s:ByteArray} {r:List Ex} {c:Int} {N:Nat} (u:N<=1048576) (w:Gl N (.mk o ((a,l),(b,m)) s r)) (h:c=Hv (.mk o ((a,l),(b,m)) s r)):CF 48 [.agg [.int .i64 o,.bool a,.sl .u32 l,.bool b,.sl .u32 m,.str s,.sl .ex r]] (AH c):=by
 refine AL Tryz.func48 fun E t=>?_
 obtain⟨A,d⟩:=xB (KH (.mk o ((a,l),(b,m)) s r));refine AB t (ku w u _ d) ?_;refine IH (fun g=>?_) fun g=>?_
 ·exact AO (by rw[h,Hv,<-d,if_neg (by rw[g];decide)])
 obtain⟨z,f⟩:=xI (HO (.mk o ((a,l),(b,m)) s r));refine AB (r:= .one (.int .i64 z)) t (by rw[f];exact kg w u) ?_;refine Fu (fun j=>?_) fun j=>?_
 ·exact AO (by rw[h,Hv,<-d,if_pos g,<-f,if_neg (Int.not_lt.2 j)])
 exact AO (by rw[h,Hv,<-d,if_pos g,<-f,if_pos j])
end
end Go.Abs
