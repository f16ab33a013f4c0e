/- Part 14 of a proof. Conditions: each theorem's own. -/
import Derived.Test.YtajccafjojgleaaGreatDoorRa10
set_option linter.all false
set_option maxHeartbeats 80000000
set_option maxRecDepth 20000
open Go.Proofs
namespace Go.Abs
open Go.RowKit
section
def Gw (n:Int):Bool:=(decide (n >= 97)&&decide (n<=122))||(decide (n >= 65)&&decide (n<=90))
def LY (n:Int):Bool:=decide (n >= 48)&&decide (n<=57)
def KC (n:Int):Bool:=Gw n||(LY n||decide (n=95))
def Hs (s:ByteArray):Nat->Nat->Nat
 | 0,i=>i
 | k+1,i=>match s.data[i]? with
  | some b=>if KC (b.toNat:Nat)=true then Hs s k (i+1) else i
  | none=>i
def IT (s:ByteArray):Nat:=match s.data[0]? with
 | some b=>if Gw (b.toNat:Nat)=true then Hs s s.size 0 else 0
 | none=>0
def Hk (s:ByteArray):Bool:= !(s.toList==(⟨#[]⟩:ByteArray).toList)&&(decide ((s.size:Int)<=24)&&(((IT s:Nat):Int)==(s.size:Int)))
variable {i k:Nat} {n:Int}
theorem sS {s:ByteArray} (h:s.size=0):IT s=0:=by
 have:s.data[0]? =none:=Array.getElem?_eq_none (by have:s.data.size=s.size:=rfl;omega);unfold IT;rw[this]
theorem sT {s:ByteArray} {b:UInt8} (h:s.data[0]? =some b) (d:n=b.toNat) (a:false=Gw n):IT s=0:=by
 unfold IT;rw[h];simp only;rw[<-d,<-a];rfl
theorem sU {s:ByteArray} {b:UInt8} (h:s.data[0]? =some b) (d:n=b.toNat) (a:true=Gw n):IT s=Hs s s.size 0:=by
 unfold IT;rw[h];simp only;rw[<-d,<-a];rfl
theorem sJ {s:ByteArray} (h:¬i<s.size):Hs s k i=i:=by
 cases k with
 | zero=>rfl
 | succ k=>rw[Hs,Array.getElem?_eq_none (by have:s.data.size=s.size:=rfl;omega)]
theorem sK {s:ByteArray} {b:UInt8} (h:s.data[i]? =some b) (a:n=b.toNat) (hw:KC n=false):Hs s k i=i:=by
 cases k with
 | zero=>rfl
 | succ k=>rw[Hs,h];simp only;rw[<-a,hw];rfl
theorem Vf {s:ByteArray} {b:UInt8} (f:i+k=s.size) (h:s.data[i]? =some b) (a:n=b.toNat) (hw:KC n=true):Hs s k i=Hs s (s.size-(i+1)) (i+1):=by
 have d:=(Array.getElem?_eq_some_iff.1 h).1;have:s.data.size=s.size:=rfl;obtain⟨k,rfl⟩:∃j,k=j+1:=⟨k-1,AA⟩
 rw[Hs,h];simp only;rw[<-a,hw,(AA:s.size-(i+1)=k)];rfl
theorem Xq {s:ByteArray} {j:Nat} {x y:UInt8} (a:s.data[i]? =some x) (b:s.data[j]? =some y) (e:i=j):x=y:=by subst e;exact Option.some.inj (a.symm.trans b)
theorem sY {s:ByteArray} {x y z:UInt8} {m k:Int} (d:s.data[i]? =some x) (g:s.data[i]? =some y) (h3:s.data[i]? =some z) (e1:n=x.toNat) (e2:m=y.toNat) (f:k=z.toNat) (a:false=Gw n) (b:false=LY m) (c:k≠95):KC n=false:=by
 obtain rfl:=Xq d g rfl;obtain rfl:=Xq d h3 rfl;obtain rfl:n=m:=e1.trans e2.symm;obtain rfl:n=k:=e1.trans f.symm;unfold KC;rw[<-a,<-b,decide_eq_false c];rfl
theorem Zk {c:Bool} (j:c=Gw n):CF 299 [.one (.int .u8 n)] (.one (.bool c)):=by
 refine AM Tryz.func299 fun E s=>?_
 intro n4 d;cases n4 <;> conv=>cbv
 ·have m:=Lq d;intro g a;conv=>cbv
  cases g <;> conv=>cbv
  ·have f:=Lq a;exact AL (by rw[j];unfold Gw;(try rw[<-d]);(try rw[<-a]);rfl)
  have f:=Lr a;intro l b;conv=>cbv
  exact AL (by rw[j];unfold Gw;(try rw[<-d]);(try rw[<-a]);(try rw[<-b]);rfl)
 have m:=Lr d;intro r h;conv=>cbv
 cases r <;> conv=>cbv
 ·have o:=Nn h;intro g a;conv=>cbv
  cases g <;> conv=>cbv
  ·have f:=Lq a;exact AL (by rw[j];unfold Gw;(try rw[<-d]);(try rw[<-h]);(try rw[<-a]);rfl)
  have f:=Lr a;intro l b;conv=>cbv
  exact AL (by rw[j];unfold Gw;(try rw[<-d]);(try rw[<-h]);(try rw[<-a]);(try rw[<-b]);rfl)
 have o:=No h;exact AL (by rw[j];unfold Gw;(try rw[<-d]);(try rw[<-h]);rfl)
theorem kg {c:Bool} (b:c=LY n):CF 300 [.one (.int .u8 n)] (.one (.bool c)):=by
 refine AM Tryz.func300 fun E g=>?_
 intro n4 a;cases n4 <;> conv=>cbv
 ·have f:=Lq a;exact AL (by rw[b];unfold LY;(try rw[<-a]);rfl)
 have f:=Lr a;intro h d;conv=>cbv
 exact AL (by rw[b];unfold LY;(try rw[<-a]);(try rw[<-d]);rfl)
theorem KR {s:ByteArray} {b:UInt8} (h:s.data[n.toNat]? =some b) (e:n.toNat=i):s.data[i]? =some b:=e ▸ h
theorem sV {s:ByteArray} {c:Int} (hs:s.size<=1048576) (M:c=(IT s:Nat)):CF 267 [.one (.str s),AH 0] (AH c):=by
 refine H0 Tryz.func267 fun E Q=>?_
 conv=>cbv
 intro n7 h7;have e7:n7=(ByteArray.size s:Nat):=h7.eq;conv=>cbv
 intro n8 h8;conv=>cbv
 cases n8 <;> conv=>cbv
 ·have k8:=Bu h8;obtain⟨Y,h⟩:=Q9 (z:=s) (n:=0) (by show (0:Int).toNat<_;omega);refine⟨Y,fun _=>⟨AA,h⟩,?_⟩;intro S C;have u:=C.eq;have f12:=C.lt;conv=>cbv
  obtain⟨a5,d⟩:=xB (Gw S);refine BO Q (Zk d) ?_;conv=>cbv
  intro T D;conv=>cbv
  cases T <;> conv=>cbv
  ·have r:=Gg D;refine .inr ?_;obtain⟨J0,b⟩:=xJ fun vs bl k=>∃(i':Nat) (i:Int),vs=[.one (.str s),AH i]/\(AR i i'/\i'<=s.size)/\IT s=Hs s (s.size-i') i'/\k=s.size-i'
   refine⟨[],[0,1],[],J0,⟨s.size-0,by rw[b];exact⟨0,0,rfl,⟨BD 0,Nat.zero_le _⟩,sU h u (r.symm.trans d),rfl⟩⟩,?_⟩;intro vs bl aa hj;rw[b] at hj;obtain⟨i',i,rfl,⟨hi,a7⟩,hinv,a8⟩:=hj;conv=>cbv
   have ei:=hi.eq;intro U P;have a6:U=(ByteArray.size s:Nat):=P.eq;conv=>cbv
   intro V F;conv=>cbv
   cases V <;> conv=>cbv
   ·have R:=EG F;exact AN ⟨⟨rfl,congrArg _ (by rw[M,hinv,sJ AA];omega),trivial⟩,trivial⟩
   have R:=EH F;obtain⟨Z,a⟩:=Q9 (z:=s) (n:=i) AA;refine⟨Z,fun _=>⟨AA,a⟩,?_⟩;intro L G;have o:=G.eq;have f24:=G.lt;conv=>cbv
   obtain⟨N,f⟩:=xB (Gw L);refine BO Q (Zk f) ?_;conv=>cbv
   cases N <;> conv=>cbv
   ·obtain⟨a1,j⟩:=Q9 (z:=s) (n:=i) AA;refine⟨a1,fun _=>⟨AA,j⟩,?_⟩;intro W H;have w:=H.eq;have f29:=H.lt;conv=>cbv
    obtain⟨O,g⟩:=xB (LY W);refine BO Q (kg g) ?_;conv=>cbv
    cases O <;> conv=>cbv
    ·obtain⟨a2,l⟩:=Q9 (z:=s) (n:=i) AA;refine⟨a2,fun _=>⟨AA,l⟩,?_⟩;intro ab I;have A:=I.eq;have f35:=I.lt;conv=>cbv
     intro X J;conv=>cbv
     cases X <;> conv=>cbv
     ·have t:=Bu J;exact AN ⟨⟨rfl,congrArg _ (by rw[M,hinv,sK (n:=L) (KR a AA) o (sY (KR a rfl) (KR j rfl) (KR l rfl) o w A f g t)];omega),trivial⟩,trivial⟩
     have t:=Bv J;refine .inr ?_;intro m K;conv=>cbv
     refine DI ?_;refine⟨s.size-(i'+1),?_,?_⟩
     ·omega
     rw[b];exact⟨i'+1,m,rfl,⟨⟨AA⟩,AA⟩,hinv.trans (Vf AA (KR l AA) A (by unfold KC;rw[decide_eq_true t];simp)),rfl⟩
    refine .inr ?_;intro m K;conv=>cbv
    refine DI ?_;refine⟨s.size-(i'+1),?_,?_⟩
    ·omega
    rw[b];exact⟨i'+1,m,rfl,⟨⟨AA⟩,AA⟩,hinv.trans (Vf AA (KR j AA) w (by unfold KC;rw[<-g];simp)),rfl⟩
   refine .inr ?_;intro m K;conv=>cbv
   refine DI ?_;refine⟨s.size-(i'+1),?_,?_⟩
   ·omega
   rw[b];exact⟨i'+1,m,rfl,⟨⟨AA⟩,AA⟩,hinv.trans (Vf AA (KR a AA) o (by unfold KC;rw[<-f];rfl)),rfl⟩
  have r:=Gh D;exact AN ⟨⟨rfl,congrArg _ (by rw[M,sT h u (r.symm.trans d)];rfl),trivial⟩,trivial⟩
 have k8:=Bv h8;exact AN ⟨⟨rfl,congrArg _ (by rw[M,sS AA];rfl),trivial⟩,trivial⟩
theorem Mt {s:ByteArray} {c:Bool} (j:c=Hk s):CF 213 [.one (.str s)] (.one (.bool c)):=by
 refine AM Tryz.func213 fun E t=>?_
 intro n4 h;cases n4 <;> conv=>cbv
 ·exact AL (by rw[j];unfold Hk;rw[<-h];rfl)
 intro l r;have m:l=(ByteArray.size s:Nat):=r.eq;refine AW ?_;intro z d;cases z <;> conv=>cbv
 ·have u:=Nn d;exact AL (by rw[j];unfold Hk;rw[<-h,<-m,<-d];rfl)
 have u:=No d;obtain⟨A,a⟩:=xI ((IT s:Nat));refine AB t (sV AA a) ?_;intro b f;have o:b=(ByteArray.size s:Nat):=f.eq;refine AW ?_;intro w g;exact AL (by rw[j];unfold Hk;rw[<-h,show (s.size:Int)=l from m.symm,<-d,<-a,(AA:l=b),<-g];rfl)
end
section
def okQ (x:el AG):Bool:=FN x.1.1 x.1.2 x.2.1 x.2.2
def Zu (x:el AG):Bool:=decide (x.1.2.length<=6)&&decide (x.2.2.length<=6)
def aT (n:Nat) (l:List (el AG)):Bool:=decide (l.length=n)&&l.all okQ
def aV:Nat->List (List (el AG))->Bool
 | _,[]=>true
 | i,l::r=>aT (2^i) l&&aV (i+1) r
def tL (T:List (List (el AG))) (A:List (el AG)):Bool:=A.all Zu&&T.all fun l=>l.all Zu
def ShV (q:Rat):Prop:=q.num.natAbs<2^192/\q.den<2^192
structure Frm (u:AD):Prop where
 form:∀j s,u.reverse[j]? =some s->s.length=2^j
 tb:TB 1540 u
 ht:u.length<=4
end
section
abbrev Sa:Nat:=8589934592
abbrev Sb:Nat:=34359738368
end
section
variable {c:Bool}
theorem Va (b:Bool) (l:List UInt32):F7 b l=(decide ((AT (AF l)).length=l.length)&&(!b||decide (0<l.length))):=by
 unfold F7;cases h:l.getLast? with
 | none=>
  have:l=[]:=List.getLast?_eq_none_iff.1 h;subst this;simp[show AF []=0 from rfl,show AT 0=[] from E3.2 rfl]
 | some w=>
  obtain⟨m,rfl⟩:=List.getLast?_eq_some_iff.1 h;have a:0<(m++[w]).length:=Ai
  rw[decide_eq_true a,Bool.or_true,Bool.and_true,<-Ma]
  show (w !=0)=_
  by_cases hw:w=0
  ·subst hw;have:=RD m;rw[J8,decide_eq_false (by simp;omega)];rfl
  rw[LA hw,decide_eq_true rfl];simpa using hw
def tA (T:List LR) (A:LR):Prop:=(aV 0 T&&aT (2^T.length) A)=true/\∃u,T=tw u/\Ag u
theorem Wn {b:Bool} {l:List UInt32} (g:c=F7 b l):CF 99 [.agg (BZ b l)] (.one (.bool c)):=by
 refine AM Tryz.func99 fun E r=>?_
 obtain⟨C,d⟩:=xU (AT (AF l));refine AB r (KN rfl d) ?_;rintro z ⟨u,f6⟩ A ⟨w,f9⟩;refine CN (fun h=>?_) fun h=>?_
 ·exact AL (by rw[g,Va,<-d,decide_eq_false AA];rfl)
 intro m a;cases m <;> conv=>cbv
 ·have j:=Gg a;refine AK ?_;rintro s ⟨o,f18⟩ t f;exact AL (by have hb:b=true:=(by cases b with | false=>cases a | true=>rfl);rw[g,Va,<-d,decide_eq_true AA,hb,f,Bool.eq_iff_iff];simp;omega)
 have j:=Gh a;refine g2 rfl ?_;exact AL (by have hb:b=false:=(by cases b with | true=>cases a | false=>rfl);rw[g,Va,<-d,decide_eq_true AA,hb];rfl)
theorem Wd {b1 b2:Bool} {l1 l2:List UInt32} (j:c=FN b1 l1 b2 l2) (s1:l1.length<=4000000) (s2:l2.length<=4000000):CF 44 [.agg (Br b1 l1 b2 l2)] (.one (.bool c)):=by
 refine AM Tryz.func44 fun E g=>?_
 obtain⟨u,a⟩:=xB (F7 b1 l1);refine AB g (Wn a) ?_;cases u <;> conv=>cbv
 ·exact AL (by rw[j];unfold FN;rw[<-a];rfl)
 obtain⟨w,b⟩:=xB (F7 b2 l2);refine AB g (Wn b) ?_;cases w <;> conv=>cbv
 ·exact AL (by rw[j];unfold FN;rw[<-b];exact Bool.and_false _)
 obtain⟨x,o⟩:=J9.1 a.symm;obtain⟨y,l⟩:=J9.1 b.symm;obtain⟨z,h⟩:=xI (Cd y);refine AB g (KL l h) ?_;refine FC (fun m=>?_) fun m=>?_
 ·exact AL (by rw[j];exact eY l)
 obtain⟨r,s,f⟩:=Av (((Nat.gcd x.natAbs y.natAbs:Nat):Int));refine AB g (HW o l f AA AA) ?_;obtain⟨t,d⟩:=xB (decide (((Nat.gcd x.natAbs y.natAbs:Nat):Int)=1));refine AB g (JK f d) ?_;exact AL (by rw[j];exact eX a b o l AA d)
end
section
def ET:Nat->Nat->ByteArray->ByteArray
 | 0,_,s=>s
 | k+1,v,s=>if v=0 then s else ET k (v/10) (ByteArray.mk [UInt8.ofNat (48+v%10)].toArray++s)
variable {B k v:Nat} {c:Bool} {n x y:Int} {p q:Rat}
theorem Yx:∀(k k' v:Nat) (s:ByteArray),v<=k->v<=k'->ET k v s=ET k' v s
 | 0,0,_,_,_,_=>rfl
 |0,k'+1,v,s,h,_|k+1,0,v,s,_,h=>by rw[ET,ET,if_pos AA]
 | k+1,k'+1,v,s,h,h'=>by
  rw[ET,ET]
  split
  ·rfl
  exact Yx k k' _ _ AA AA
theorem lW {s:ByteArray} (h:v≠0):ET v v s=ET (v/10) (v/10) (ByteArray.mk [UInt8.ofNat (48+v%10)].toArray++s):=by
 obtain⟨k,rfl⟩:∃k,v=k+1:=⟨v-1,AA⟩
 rw[ET,if_neg h];exact Yx _ _ _ _ AA (Nat.le_refl _)
structure Fz (B v:Nat) (s:ByteArray):Prop where
 sz:s.size<=B+1
 lo:v≠0->v*2^s.size<=2^B
theorem dQ (b:UInt8) (s:ByteArray):(ByteArray.mk [b].toArray++s).size=s.size+1:=by
 rw[ByteArray.size_append];have:(ByteArray.mk [b].toArray).size=1:=rfl;omega
theorem Fz.lt {s:ByteArray} (h:Fz B v s) (d:v≠0):s.size<=B:=by
 have a:=h.lo d;have b:2^s.size<=v*2^s.size:=Nat.le_mul_of_pos_left _ AA;exact (Nat.pow_le_pow_iff_right (by decide:1<2)).1 (Nat.le_trans b a)
theorem Fz.step {s:ByteArray} (h:Fz B v s) (a:v≠0) (b:UInt8):Fz B (v/10) (ByteArray.mk [b].toArray++s):=by
 have f:=h.lt a;refine⟨by rw[dQ];omega,fun g=>?_⟩;rw[dQ,Nat.pow_succ];have h3:=h.lo a;have d:v/10*2<=v:=AA
 have j:=Nat.mul_le_mul_right (2^s.size) d;have e:v/10*(2^s.size*2)=v/10*2*2^s.size:=by grind
 omega
theorem Fz.init (h:v<=2^B):Fz B v ⟨#[]⟩:=⟨Nat.zero_le _,fun _=>by
 have:(⟨#[]⟩:ByteArray).size=0:=rfl;rw[this];omega⟩
theorem Yy:∀(k B v:Nat) (s:ByteArray),v<=k->Fz B v s->(ET k v s).size<=B+1
 | 0,B,v,s,h,f=>f.sz
 | k+1,B,v,s,h,f=>by
  rw[ET]
  split
  ·exact f.sz
  rename_i a
  exact Yy k B _ _ AA (f.step a _)
def H7 (b:Bool) (v:Nat):ByteArray:=if ((ET v v ⟨#[]⟩).toList==(⟨#[]⟩:ByteArray).toList)=true then⟨#[48]⟩ else if b=true then⟨#[45]⟩++ET v v ⟨#[]⟩ else ET v v ⟨#[]⟩
theorem lX {b:Bool} (h:v<=2^B):(H7 b v).size<=B+2:=by
 have a:=Yy v B v ⟨#[]⟩ (Nat.le_refl _) (Fz.init h);unfold H7
 split
 ·have:(⟨#[48]⟩:ByteArray).size=1:=rfl;omega
 split
 ·rw[ByteArray.size_append];have:(⟨#[45]⟩:ByteArray).size=1:=rfl;omega
 omega
theorem rl (h:n=((48+v%10:Nat):Int)):n=((UInt8.ofNat (48+v%10)).toNat:Nat):=by rw[UInt8.toNat_ofNat'];omega
theorem pE {w:UInt8} (h:n=(w.toNat:Nat)):EB FV [.int .u8 n] (cells .u8 w):=⟨by rw[h];rfl,trivial⟩
theorem gk {b:Bool} {l:List UInt32} {r:ByteArray} (S:BB x b l) (hl:l.length<=17592186044416) (T:AF l<=2^B) (U:B<=1000000000) (L:r=H7 b (AF l)):CF 266 [.agg (BZ b l)] (.one (.str r)):=by
 refine AM Tryz.func266 fun E R=>?_
 refine AB R (Ia S) ?_;refine BI [] [1,3,4] [1] (fun vs Q k=>∃(v:Nat) (s:ByteArray) (m:List UInt32),vs=[.one (.BE 1 0 0),.one (.str s),.one (.sl .u32 m)]/\Q=[.var 0 [.bool b,.sl .u32 l]]/\(m=AT v/\m.length<=l.length)/\Fz B v s/\ET v v s=ET (AF l) (AF l) ⟨#[]⟩/\k=v) (AF l) ⟨AF l,⟨#[]⟩,l,rfl,rfl,⟨S.trim.symm,Nat.le_refl _⟩,Fz.init T,rfl,rfl⟩ ?_;rintro J0 J vs Q W ⟨v,s,m,rfl,rfl,⟨hm,K⟩,hf,hinv,V⟩;refine AW ?_;rintro Z ⟨A,f12⟩;refine FC (fun M=>?_) fun M=>?_
 ·intro P t;cases P <;> conv=>cbv
  ·cases b <;> conv=>cbv
   ·have a:v=0:=E3.1 (by rw[<-hm];exact List.length_eq_zero_iff.1 AA);have f:s=ET (AF l) (AF l) ⟨#[]⟩:=by subst a;exact hinv
    exact AL (by rw[L,H7,<-f,if_neg (by rw[<-t];decide)];first | rfl | (rw[if_pos rfl];exact j.symm))
   refine⟨fun _=>by rw[show (⟨#[45]⟩:ByteArray).size=1 from rfl];have:=hf.sz;omega,?_⟩;intro Y j;conv=>cbv
   have a:v=0:=E3.1 (by rw[<-hm];exact List.length_eq_zero_iff.1 AA);have f:s=ET (AF l) (AF l) ⟨#[]⟩:=by subst a;exact hinv
   exact AL (by rw[L,H7,<-f,if_neg (by rw[<-t];decide)];first | rfl | (rw[if_pos rfl];exact j.symm))
  have a:v=0:=E3.1 (by rw[<-hm];exact List.length_eq_zero_iff.1 AA);have f:s=ET (AF l) (AF l) ⟨#[]⟩:=by subst a;exact hinv
  exact AL (by rw[L,H7,<-f,if_pos t.symm])
 refine .inr ?_;have H:AF m=v:=by rw[hm,BU]
 have u:v≠0:=fun e=>by subst e;rw[Gb] at hm;rw[hm] at A;simp at A;omega
 obtain⟨I,g⟩:=xU (AT (v/10));obtain⟨d16,G⟩:=xI (((v%10:Nat):Int));refine AB (r:= .Aj [(false,[.sl .u32 I]),(false,[.int .u32 d16])]) R (Ws (b:=10) (BD 10) AE AE (by rw[H];exact g) (by rw[H];exact⟨G⟩) AA) ?_;intro a1 C;have C:=wrap_u32 C;intro O D;conv=>cbv
 have D:=wrap_u8 D;have F:O=((48+v%10:Nat):Int):=AA
 obtain⟨w,o⟩:∃z:UInt8,z=UInt8.ofNat (48+v%10):=⟨_,rfl⟩
 refine⟨[w],fun _=>⟨rfl,AE,rfl,⟨rfl,pE (by rw[o];exact rl F),trivial⟩⟩,.inr ?_⟩;try conv=>cbv
 refine⟨[w],fun _=>rfl,?_⟩;intro X d;conv=>cbv
 refine⟨fun _=>by rw[d,show (ByteArray.mk [w].toArray).size=1 from rfl];have:=hf.lt u;omega,?_⟩;intro N h;conv=>cbv
 exact BT J ⟨v/10,N,I,rfl,rfl,⟨g,Nat.le_trans (by rw[g,hm];exact EV (Nat.div_le_self _ _)) K⟩,(by rw[h,d];exact hf.step u _),(by rw[h,d,o];exact (lW u).symm.trans hinv),rfl⟩
theorem px {b1 b2:Bool} {l1 l2:List UInt32} (h:BB x b1 l1) (j:BB y b2 l2) (hb:b1=b2) {r:Int} (g:r=Bp (x.natAbs:Nat) (y.natAbs:Nat)):decide (x=y)=(r==0):=by
 have d:=h.neg;have f:=j.neg;rw[hb,f] at d;have h3:(y<0)↔(x<0):=by simpa using d
 rw[g,Bool.eq_iff_iff,decide_eq_true_iff,beq_iff_eq];rcases KU (x.natAbs:Nat) (y.natAbs:Nat) with⟨a,b⟩ |⟨a,b⟩ |⟨a,b⟩ <;> rw[b] <;> omega
def IL:Nat->ByteArray->ByteArray
 | 0,s=>s
 | f+1,s=>IL f (⟨#[48]⟩++s)
theorem dR (s:ByteArray):((⟨#[48]⟩:ByteArray)++s).size=s.size+1:=by
 rw[ByteArray.size_append];have:(⟨#[48]⟩:ByteArray).size=1:=rfl;omega
def Qi (k:Nat) (s:ByteArray):ByteArray:=if k>0 then (s.extract 0 (s.size-k)++⟨#[46]⟩)++s.extract (s.size-k) s.size else s
def Me (k:Nat) (q:Rat):ByteArray:=Qi k (IL (k+1-(H7 (decide (q.num<0)) q.num.natAbs).size) (H7 (decide (q.num<0)) q.num.natAbs))
def He:Nat->Nat->Rat->ByteArray×Bool
 | 0,_,_=>(⟨#[]⟩,false)
 | f+1,k,q=>if (q.den:Int)=1 then (Me k q,decide (((Me k q).size:Int)<=40)) else He f (k+1) (q*((10:Int):Rat))
structure OV (b1:Bool) (l1:List UInt32) (b2:Bool) (l2:List UInt32) (R:ByteArray) (c:Bool):Prop where
 no:FN b1 l1 b2 l2=false->(R,c)=(⟨#[]⟩,false)
 lt:∀q,BV q b1 l1 b2 l2->Dm q<0->(R,c)=(⟨#[]⟩,false)
 ge:∀q,BV q b1 l1 b2 l2->¬Dm q<0->(R,c)=He 41 0 q
theorem TR {b1 b2:Bool} {l1 l2:List UInt32} (h:BV p b1 l1 b2 l2) (h':BV q b1 l1 b2 l2):p=q:=by
 have a:=h.num.Ep.trans h'.num.Ep.symm;have b:=h.den.Ep.trans h'.den.Ep.symm;exact Rat.ext a AA
theorem YF (b1:Bool) (l1:List UInt32) (b2:Bool) (l2:List UInt32):∃R c,OV b1 l1 b2 l2 R c:=by
 by_cases f:∃q,BV q b1 l1 b2 l2
 ·obtain⟨q,b⟩:=f;have g:FN b1 l1 b2 l2=true:=Mh.2 ⟨q,b⟩
  by_cases d:Dm q<0
  ·exact⟨_,_,fun _=>rfl,fun _ _ _=>rfl,fun p a h=>absurd (TR a b ▸ d) h⟩
  exact⟨(He 41 0 q).1,(He 41 0 q).2,fun h=>(by rw[g] at h;cases h),fun p a h=>absurd (TR a b ▸ h) d,fun p a _=>by rw[TR a b]⟩
 exact⟨_,_,fun _=>rfl,fun _ _ _=>rfl,fun p a _=>absurd ⟨p,a⟩ f⟩
theorem YE (a:k<=40) (h:(q.den:Int)=1):He (41-k) k q=(Me k q,decide (((Me k q).size:Int)<=40)):=by
 rw[(AA:41-k=(40-k)+1),He,if_pos h]
theorem kM (a:k<=40) (h:¬(q.den:Int)=1):He (41-k) k q=He (41-(k+1)) (k+1) (q*((10:Int):Rat)):=by
 rw[(AA:41-k=(41-(k+1))+1),He,if_neg h]
theorem oe {s:ByteArray} (h:s.size<=k):IL (k+1-s.size) s=IL (k+1-(⟨#[48]⟩++s).size) (⟨#[48]⟩++s):=by
 rw[dR,(AA:k+1-s.size=(k+1-(s.size+1))+1),IL]
theorem dW {a b:Nat} (d:p.num.natAbs<2^(32*a)) (f:p.den<2^(32*b)) (ha:a<=4000000000000) (hb:b<=4000000000000):B8 p:=
 ⟨Nat.le_trans (GF d) ha,Nat.le_trans (GF f) hb⟩
theorem nt:(p*((10:Int):Rat)).num.natAbs<=p.num.natAbs*10/\(p*((10:Int):Rat)).den<=p.den:=by
 have a:((10:Int):Rat).num=10:=rfl;have b:((10:Int):Rat).den=1:=rfl;rw[Rat.num_mul,Rat.den_mul,a,b,Nat.mul_one];refine⟨?_,Nat.div_le_self _ _⟩;refine Nat.le_trans (Int.natAbs_ediv_le_natAbs _ _) ?_;rw[Int.natAbs_mul];exact Nat.le_refl _
structure Bq (k:Nat) (p:Rat):Prop where
 num:p.num.natAbs<2^(32*(1048580+k))
 den:p.den<2^(32*(1048580+k))
theorem Bq.small (h:Bq k p) (a:k<=41):B8 p:=dW h.num h.den AA AA
theorem Bq.step (h:Bq k p):Bq (k+1) (p*((10:Int):Rat)):=by
 obtain⟨a,b⟩:=nt (p:=p);refine⟨Nat.lt_of_le_of_lt a ?_,Nat.lt_of_le_of_lt b (Nat.lt_of_lt_of_le h.den (Nat.pow_le_pow_right AE AA))⟩;have h3:=h.num;rw[(AA:32*(1048580+(k+1))=32*(1048580+k)+32),Nat.pow_add]
 generalize 2^(32*(1048580+k))=P at*
 have:(2:Nat)^32=4294967296:=AE
 rw[this];omega
theorem Bq.init {b1 b2:Bool} {l1 l2:List UInt32} (h:BV q b1 l1 b2 l2) (s1:l1.length<=1048580) (s2:l2.length<=1048580):Bq 0 q:=by
 have a:=C0 l1;have b:=C0 l2;rw[h.num.nat] at a;rw[h.den.nat] at b;have e1:32*l1.length<=32*(1048580+0):=AA
 have e2:32*l2.length<=32*(1048580+0):=AA
 constructor
 ·generalize 32*(1048580+0)=K at *;exact Nat.lt_of_lt_of_le a (Nat.pow_le_pow_right AE e1)
 generalize 32*(1048580+0)=K at *;exact Nat.lt_of_lt_of_le b (Nat.pow_le_pow_right AE e2)
theorem Bq.bits {b1 b2:Bool} {l1 l2:List UInt32} (h:Bq k p) (a:BV p b1 l1 b2 l2) (d:k<=41) (b:B=40000000):AF l1<=2^B:=by
 rw[a.num.nat];exact Nat.le_trans (Nat.le_of_lt h.num) (Nat.pow_le_pow_right AE AA)
theorem iD {b1 b2:Bool} {l1 l2:List UInt32} (f:BB x b1 l1) (g:BB y b2 l2) (h:c=decide (x=y)):CF 265 [.agg (BZ b1 l1),.agg (BZ b2 l2)] (.one (.bool c)):=by
 refine AM Tryz.func265 fun E j=>?_
 intro o b;cases o <;> conv=>cbv
 ·have l:=SM b;exact AL (by rw[h];exact decide_eq_false fun e=>absurd (f.uniq g e).1 (beq_eq_false_iff_ne.1 b.symm))
 have l:=SN b;obtain⟨r,a⟩:=xI (Bp (x.natAbs:Nat) (y.natAbs:Nat));refine AB j (M5 f.Bb g.Bb a) ?_;intro m d;exact AL (by rw[h,px f g (beq_iff_eq.1 b.symm) a,d])
theorem eP {b1 b2:Bool} {l1 l2:List UInt32} (b:BV p b1 l1 b2 l2) {r s:ByteArray} (d:r=H7 b1 (AF l1)) (a:IL (k+1-s.size) s=IL (k+1-r.size) r) (f:¬s.size<=k):Me k p=Qi k s:=by
 unfold Me;rw[<-b.num.neg,<-b.num.nat,<-d,<-a,(AA:k+1-s.size=0),IL]
theorem OW {b1 b2:Bool} {l1 l2:List UInt32} {R:ByteArray} (s1:l1.length<=1048580) (s2:l2.length<=1048580) (hR:OV b1 l1 b2 l2 R c):CF 212 [.agg (Br b1 l1 b2 l2)] (.Aj [(false,[.str R]),(false,[.bool c])]):=by
 obtain⟨B,hB⟩:=xN 40000000;refine H0 Tryz.func212 fun E I=>?_
 conv=>cbv
 obtain⟨aq,m⟩:=xB (FN b1 l1 b2 l2);refine BO I (Wd m AA AA) ?_;conv=>cbv
 refine Pj ?_ ?_ <;> intro W <;> conv=>cbv
 ·have d:=hR.no (m.symm.trans W);exact AN ⟨⟨rfl,congrArg _ (congrArg Prod.fst d),trivial⟩,⟨rfl,congrArg _ (congrArg Prod.snd d),trivial⟩,trivial⟩
 obtain⟨q,U⟩:=Mh.1 (m.symm.trans W);obtain⟨aR,V⟩:=xI (Dm q);refine BO I (On U V) ?_;conv=>cbv
 refine Ph ?_ ?_ <;> intro aH <;> conv=>cbv
 ·have d:=hR.lt q U AA;exact AN ⟨⟨rfl,congrArg _ (congrArg Prod.fst d),trivial⟩,⟨rfl,congrArg _ (congrArg Prod.snd d),trivial⟩,trivial⟩
 obtain⟨c1,m1,c2,m2,ht⟩:=By ((10:Int):Rat);refine BO I (Ec AE rfl ht) ?_;conv=>cbv
 obtain⟨f,fl,Q⟩:=Av 1;refine BO I (M1 AE Q) ?_;conv=>cbv
 refine BI [] [4,5,6,7] [4,5,6] (fun vs Z k=>∃(g:Nat) (j:Int) (p:Rat) (x1 x2:Bool) (y1 y2:List UInt32),vs=[.one (.BE 4 0 0),.one (.BE 5 0 0),.one (.BE 6 0 0),AH j]/\Z=[.var 0 [.bool c1,.sl .u32 m1,.bool c2,.sl .u32 m2],.var 0 [.bool f,.sl .u32 fl],.var 0 [.bool x1,.sl .u32 y1,.bool x2,.sl .u32 y2]]/\(AR j g/\g<=41)/\BV p x1 y1 x2 y2/\Bq g p/\(R,c)=He (41-g) g p/\k=41-g) (41-0) ⟨0,0,q,b1,b2,l1,l2,rfl,rfl,⟨BD 0,AA⟩,U,Bq.init U AA AA,hR.ge q U AA,rfl⟩ ?_;rintro J0 a8 vs Z aK ⟨g,j,p,x1,x2,y1,y2,rfl,rfl,⟨hj,aB⟩,J,w,u,aC⟩;conv=>cbv
 have ej:=hj.eq;refine NS ?_ ?_ <;> intro aI <;> conv=>cbv
 ·have d:=u;rw[(AA:41-g=0),He] at d;exact AN ⟨⟨rfl,congrArg _ (congrArg Prod.fst d),trivial⟩,⟨rfl,congrArg _ (congrArg Prod.snd d),trivial⟩,trivial⟩
 refine .inr ?_;obtain⟨a1,h⟩:=xB (decide ((p.den:Int)=1));refine BO I (iD J.den Q h) ?_;conv=>cbv
 cases a1 <;> conv=>cbv
 ·obtain⟨u1,w1,u2,w2,hz⟩:=By (p*((10:Int):Rat));have a2:B8 ((10:Int):Rat):=dW (a:=1) (b:=1) AE AE AE AE;refine BO I (Om J ht (w.small AA) a2 rfl hz) ?_;refine AW ?_;intro ae ay;exact DI (BT a8 ⟨g+1,ae,_,u1,u2,w1,w2,rfl,rfl,⟨⟨AA⟩,AA⟩,hz,w.step,u.trans (kM AA (of_decide_eq_false h.symm)),rfl⟩)
 obtain⟨t,l⟩:∃z:ByteArray,z=H7 x1 (AF y1):=⟨_,rfl⟩
 have P:=w.bits J AA hB;have aE:t.size<=B+2:=l ▸ lX P;have aG:=(J.small (w.small AA)).1;refine BO I (gk J.num AA P AA l) ?_;conv=>cbv
 refine BI [] [7,8] [] (fun vs Z k=>∃(s:ByteArray),vs=[AH j,.one (.str s)]/\IL (g+1-s.size) s=IL (g+1-t.size) t/\s.size<=B+50/\k=g+1-s.size) (g+1-t.size) ⟨t,rfl,rfl,AA,rfl⟩ ?_;rintro J1 aa vs Z aL ⟨s,rfl,r,aF,aD⟩;conv=>cbv
 intro af a5;have av:af=(ByteArray.size s:Nat):=a5.eq;conv=>cbv
 refine kp ?_ ?_ <;> intro aJ <;> conv=>cbv
 ·refine .inr ?_;refine⟨fun _=>by rw[show (⟨#[48]⟩:ByteArray).size=1 from rfl];omega,?_⟩;intro X A;conv=>cbv
  have ab:X.size=s.size+1:=by rw[A];exact dR s
  exact BT aa ⟨X,rfl,by rw[A];exact (oe AA).symm.trans r,AA,rfl⟩
 intro ag L;conv=>cbv
 refine .inr ?_;cases ag <;> conv=>cbv
 ·have ad:=Fi L;intro K G;have F:K=(ByteArray.size s:Nat):=G.eq;refine AW ?_;intro al H;have d:=u.trans (YE AA (of_decide_eq_true h.symm));rw[eP J l r AA] at d;rw[Qi,if_neg AA] at d;exact AN ⟨⟨rfl,congrArg _ (congrArg Prod.fst d),trivial⟩,⟨rfl,congrArg _ ((congrArg Prod.snd d).trans (by rw[H,F])),trivial⟩,trivial⟩
 have ad:=Fj L;intro ah a6;have aw:ah=(ByteArray.size s:Nat):=a6.eq;refine AW ?_;intro ai az;refine DI ?_;intro aP an;conv=>cbv
 refine FI ?_;intro ar N;refine⟨rfl,?_⟩;intro aM o;conv=>cbv
 refine⟨fun _=>by rw[o,show (⟨#[46]⟩:ByteArray).size=1 from rfl,ByteArray.size_extract];omega,?_⟩;intro aN C;conv=>cbv
 intro aj a7;have ax:aj=(ByteArray.size s:Nat):=a7.eq;refine AW ?_;intro ak aA;refine DI ?_;intro aQ T;conv=>cbv
 refine FI ?_;rintro ao au ⟨M,O⟩;refine⟨rfl,?_⟩;intro aO D;conv=>cbv
 refine⟨fun _=>by rw[C,o,D,ByteArray.size_append,show (⟨#[46]⟩:ByteArray).size=1 from rfl,ByteArray.size_extract,ByteArray.size_extract];omega,?_⟩;intro Y S;conv=>cbv
 refine g2 rfl ?_;intro K G;have F:K=(ByteArray.size Y:Nat):=G.eq;refine AW ?_;intro al H;have d:=u.trans (YE AA (of_decide_eq_true h.symm));rw[eP J l r AA] at d;have e9:Y=(s.extract 0 (s.size-g)++⟨#[46]⟩)++s.extract (s.size-g) s.size:=by rw[S,C,o,D,N,M,O,T,(AA:ai.toNat=s.size-g),(AA:ak.toNat=s.size-g)]
 rw[Qi,if_pos AA,<-e9] at d;exact AN ⟨⟨rfl,congrArg _ (congrArg Prod.fst d),trivial⟩,⟨rfl,congrArg _ ((congrArg Prod.snd d).trans (by rw[H,F])),trivial⟩,trivial⟩
end
section
noncomputable def LW (x:el AG):ByteArray:=Classical.choose (YF x.1.1 x.1.2 x.2.1 x.2.2)
theorem YG (x:el AG):∃c,OV x.1.1 x.1.2 x.2.1 x.2.2 (LW x) c:=Classical.choose_spec (YF x.1.1 x.1.2 x.2.1 x.2.2)
noncomputable def KX (x:el AG):Bool:=Classical.choose (YG x)
theorem PZ (x:el AG):OV x.1.1 x.1.2 x.2.1 x.2.2 (LW x) (KX x):=Classical.choose_spec (YG x)
def EI (s:ByteArray):Bool:=s.toList==(⟨#[]⟩:ByteArray).toList
def BJ (v:el AG):Bool:=((!v.1.1&& !v.2.1)&&((v.1.2.length:Int)==0))&&((v.2.2.length:Int)==0)
def sh (o:Int) (z d m nb:Bool) (l:Int):Bool:=
 if o=1 then (d&&(m||nb))&&(l==0) else if o=2 then (z&&nb)&&(l==0) else if o=3 then (z&&m)&&(l==1)
 else if o=4\/o=5\/o=6\/o=7 then (z&&m)&&(l==2) else false
noncomputable def OJ (e:Ex):Bool:=sh e.op (BJ e.v) (KX e.v) (EI e.name) (Hk e.name) (e.args.length:Nat)
mutual
noncomputable def Im:Ex->Bool
 | .mk o v s l=>OJ (.mk o v s l)&&Io l
noncomputable def Io:List Ex->Bool
 | []=>true
 | x::r=>Im x&&Io r
end
mutual
def GD:Ex->Int
 | .mk _ _ _ l=>GU 0 l+1
def GU:Int->List Ex->Int
 | n,[]=>n
 | n,x::r=>GU (if GD x>n then GD x else n) r
end
theorem lf (e:Ex):Im e=(OJ e&&Io e.args):=by cases e;rfl
theorem YI (e:Ex):GD e=GU 0 e.args+1:=by cases e;rfl
theorem Y0 {l:List Ex} {i:Nat} {x:Ex} (h:l[i]? =some x):Io (l.drop i)=(Im x&&Io (l.drop (i+1))):=by
 have a:=Dg h;rw[List.drop_eq_getElem_cons a,Io];rw[List.getElem?_eq_getElem a] at h;rw[Option.some.inj h]
theorem kO {l:List Ex} {i:Nat} {x:Ex} {n:Int} (h:l[i]? =some x):GU n (l.drop i)=GU (if GD x>n then GD x else n) (l.drop (i+1)):=by
 have a:=Dg h;rw[List.drop_eq_getElem_cons a,GU];rw[List.getElem?_eq_getElem a] at h;rw[Option.some.inj h]
theorem YH {N:Int}:∀(l:List Ex) (n:Int),0<=n->n<=N->(∀x∈l,0<=GD x/\GD x<=N)->0<=GU n l/\GU n l<=N
 | [],n,a,b,_=>⟨a,b⟩
 | x::r,n,a,b,h=>by
  rw[GU];have:=h x List.mem_cons_self;exact YH r _ (by split <;> omega) (by split <;> omega) fun y d=>h y (List.mem_cons_of_mem _ d)
theorem kQ {N:Nat} {e:Ex} (h:Fw N e):0<=GD e/\GD e<=N:=by
 induction h with
 | mk N y b d h3 f g a=>
  rw[YI];have:=YH (N:=N) y.args 0 AA AA a;omega
theorem Fw.lens {N:Nat} {e:Ex} (h:Fw N e):e.v.1.2.length<=N/\e.v.2.2.length<=N/\e.args.length<=N:=by
 cases h with
 | mk N y a b h3 d f=>exact⟨a,b,d⟩
theorem qZ {o:Int} {a b:Bool} {l m:List UInt32} {s:ByteArray} {r:List Ex} {c:Bool} (s1:l.length<=1048580) (s2:m.length<=1048580) (G:c=OJ (.mk o ((a,l),(b,m)) s r)):CF 155 [.agg [.int .i64 o,.bool a,.sl .u32 l,.bool b,.sl .u32 m,.str s,.sl .ex r]] (.one (.bool c)):=by
 have G:c=sh o (BJ ((a,l),(b,m))) (KX ((a,l),(b,m))) (EI s) (Hk s) ((r.length:Nat):Int):=G;refine AM Tryz.func155 fun E hE=>?_
 intro aq f;cases aq <;> conv=>cbv
 ·have al:=Gg f;refine .inr ?_;refine BS (fun d=>?_) fun d=>?_
  ·obtain⟨X,A⟩:=xB (KX ((a,l),(b,m)));obtain⟨ae,U⟩:∃z:ByteArray,z=LW ((a,l),(b,m)):=⟨_,rfl⟩
   refine AB hE (OW s1 s2 (A ▸ U ▸ PZ ((a,l),(b,m)))) ?_;cases X <;> conv=>cbv
   ·have g:BJ ((a,l),(b,m))=false:=by unfold BJ;rw[<-f];rfl
    exact AL (by rw[G,g,<-A];simp[sh,d])
   intro Z M;conv=>cbv
   cases Z <;> conv=>cbv
   ·obtain⟨Y,I⟩:=xB (Hk s);refine AB hE (Mt I) ?_;cases Y <;> conv=>cbv
    ·have g:BJ ((a,l),(b,m))=false:=by unfold BJ;rw[<-f];rfl
     exact AL (by rw[G,g,<-A,show EI s=_ from M.symm,<-I];simp[sh,d])
    refine AW ?_;rintro a1 ⟨L,f58⟩ a2 N;have g:BJ ((a,l),(b,m))=false:=by unfold BJ;rw[<-f];rfl
    exact AL (by rw[G,g,<-A,show EI s=_ from M.symm,<-I,<-L];simp[sh,d,N])
   refine AW ?_;rintro a1 ⟨L,f58⟩ a2 N;have g:BJ ((a,l),(b,m))=false:=by unfold BJ;rw[<-f];rfl
   exact AL (by rw[G,g,<-A,show EI s=_ from M.symm,<-L];simp[sh,d,N])
  refine BS (fun j=>?_) fun j=>?_
  ·have g:BJ ((a,l),(b,m))=false:=by unfold BJ;rw[<-f];rfl
   exact AL (by rw[G,g];simp[sh,d,j])
  refine BS (fun t=>?_) fun t=>?_
  ·have g:BJ ((a,l),(b,m))=false:=by unfold BJ;rw[<-f];rfl
   exact AL (by rw[G,g];simp[sh,d,j,t])
  intro a5 Q;refine .inr ?_;cases a5 <;> conv=>cbv
  ·have C:=Bu Q;intro a6 R;conv=>cbv
   refine .inr ?_;cases a6 <;> conv=>cbv
   ·have F:=Bu R;intro a7 S;conv=>cbv
    refine .inr ?_;cases a7 <;> conv=>cbv
    ·have J:=Bu S;refine CN (fun K=>?_) fun K=>?_
     ·have g:BJ ((a,l),(b,m))=false:=by unfold BJ;rw[<-f];rfl
      exact AL (by rw[G,g];simp[sh,d,j,t,C,F,J,K])
     have g:BJ ((a,l),(b,m))=false:=by unfold BJ;rw[<-f];rfl
     exact AL (by rw[G,g];simp[sh,d,j,t,C,F,J,K])
    have J:=Bv S;have g:BJ ((a,l),(b,m))=false:=by unfold BJ;rw[<-f];rfl
    exact AL (by rw[G,g];simp[sh,d,j,t,C,F,J])
   have F:=Bv R;have g:BJ ((a,l),(b,m))=false:=by unfold BJ;rw[<-f];rfl
   exact AL (by rw[G,g];simp[sh,d,j,t,C,F])
  have C:=Bv Q;have g:BJ ((a,l),(b,m))=false:=by unfold BJ;rw[<-f];rfl
  exact AL (by rw[G,g];simp[sh,d,j,t,C])
 have al:=Gh f;intro ar h;conv=>cbv
 cases ar <;> conv=>cbv
 ·have an:=Gg h;refine .inr ?_;refine BS (fun d=>?_) fun d=>?_
  ·obtain⟨X,A⟩:=xB (KX ((a,l),(b,m)));obtain⟨ae,U⟩:∃z:ByteArray,z=LW ((a,l),(b,m)):=⟨_,rfl⟩
   refine AB hE (OW s1 s2 (A ▸ U ▸ PZ ((a,l),(b,m)))) ?_;cases X <;> conv=>cbv
   ·have g:BJ ((a,l),(b,m))=false:=by unfold BJ;rw[<-f,<-h];rfl
    exact AL (by rw[G,g,<-A];simp[sh,d])
   intro Z M;conv=>cbv
   cases Z <;> conv=>cbv
   ·obtain⟨Y,I⟩:=xB (Hk s);refine AB hE (Mt I) ?_;cases Y <;> conv=>cbv
    ·have g:BJ ((a,l),(b,m))=false:=by unfold BJ;rw[<-f,<-h];rfl
     exact AL (by rw[G,g,<-A,show EI s=_ from M.symm,<-I];simp[sh,d])
    refine AW ?_;rintro a1 ⟨L,f58⟩ a2 N;have g:BJ ((a,l),(b,m))=false:=by unfold BJ;rw[<-f,<-h];rfl
    exact AL (by rw[G,g,<-A,show EI s=_ from M.symm,<-I,<-L];simp[sh,d,N])
   refine AW ?_;rintro a1 ⟨L,f58⟩ a2 N;have g:BJ ((a,l),(b,m))=false:=by unfold BJ;rw[<-f,<-h];rfl
   exact AL (by rw[G,g,<-A,show EI s=_ from M.symm,<-L];simp[sh,d,N])
  refine BS (fun j=>?_) fun j=>?_
  ·have g:BJ ((a,l),(b,m))=false:=by unfold BJ;rw[<-f,<-h];rfl
   exact AL (by rw[G,g];simp[sh,d,j])
  refine BS (fun t=>?_) fun t=>?_
  ·have g:BJ ((a,l),(b,m))=false:=by unfold BJ;rw[<-f,<-h];rfl
   exact AL (by rw[G,g];simp[sh,d,j,t])
  intro a5 Q;refine .inr ?_;cases a5 <;> conv=>cbv
  ·have C:=Bu Q;intro a6 R;conv=>cbv
   refine .inr ?_;cases a6 <;> conv=>cbv
   ·have F:=Bu R;intro a7 S;conv=>cbv
    refine .inr ?_;cases a7 <;> conv=>cbv
    ·have J:=Bu S;refine CN (fun K=>?_) fun K=>?_
     ·have g:BJ ((a,l),(b,m))=false:=by unfold BJ;rw[<-f,<-h];rfl
      exact AL (by rw[G,g];simp[sh,d,j,t,C,F,J,K])
     have g:BJ ((a,l),(b,m))=false:=by unfold BJ;rw[<-f,<-h];rfl
     exact AL (by rw[G,g];simp[sh,d,j,t,C,F,J,K])
    have J:=Bv S;have g:BJ ((a,l),(b,m))=false:=by unfold BJ;rw[<-f,<-h];rfl
    exact AL (by rw[G,g];simp[sh,d,j,t,C,F,J])
   have F:=Bv R;have g:BJ ((a,l),(b,m))=false:=by unfold BJ;rw[<-f,<-h];rfl
   exact AL (by rw[G,g];simp[sh,d,j,t,C,F])
  have C:=Bv Q;have g:BJ ((a,l),(b,m))=false:=by unfold BJ;rw[<-f,<-h];rfl
  exact AL (by rw[G,g];simp[sh,d,j,t,C])
 have an:=Gh h;refine AW ?_;rintro aw ⟨D,f23⟩ au u;cases au <;> conv=>cbv
 ·have ao:=Bu u;refine .inr ?_;refine BS (fun d=>?_) fun d=>?_
  ·obtain⟨X,A⟩:=xB (KX ((a,l),(b,m)));obtain⟨ae,U⟩:∃z:ByteArray,z=LW ((a,l),(b,m)):=⟨_,rfl⟩
   refine AB hE (OW s1 s2 (A ▸ U ▸ PZ ((a,l),(b,m)))) ?_;cases X <;> conv=>cbv
   ·have g:BJ ((a,l),(b,m))=false:=by unfold BJ;rw[<-f,<-h,<-D,<-u];rfl
    exact AL (by rw[G,g,<-A];simp[sh,d])
   intro Z M;conv=>cbv
   cases Z <;> conv=>cbv
   ·obtain⟨Y,I⟩:=xB (Hk s);refine AB hE (Mt I) ?_;cases Y <;> conv=>cbv
    ·have g:BJ ((a,l),(b,m))=false:=by unfold BJ;rw[<-f,<-h,<-D,<-u];rfl
     exact AL (by rw[G,g,<-A,show EI s=_ from M.symm,<-I];simp[sh,d])
    refine AW ?_;rintro a1 ⟨L,f58⟩ a2 N;have g:BJ ((a,l),(b,m))=false:=by unfold BJ;rw[<-f,<-h,<-D,<-u];rfl
    exact AL (by rw[G,g,<-A,show EI s=_ from M.symm,<-I,<-L];simp[sh,d,N])
   refine AW ?_;rintro a1 ⟨L,f58⟩ a2 N;have g:BJ ((a,l),(b,m))=false:=by unfold BJ;rw[<-f,<-h,<-D,<-u];rfl
   exact AL (by rw[G,g,<-A,show EI s=_ from M.symm,<-L];simp[sh,d,N])
  refine BS (fun j=>?_) fun j=>?_
  ·have g:BJ ((a,l),(b,m))=false:=by unfold BJ;rw[<-f,<-h,<-D,<-u];rfl
   exact AL (by rw[G,g];simp[sh,d,j])
  refine BS (fun t=>?_) fun t=>?_
  ·have g:BJ ((a,l),(b,m))=false:=by unfold BJ;rw[<-f,<-h,<-D,<-u];rfl
   exact AL (by rw[G,g];simp[sh,d,j,t])
  intro a5 Q;refine .inr ?_;cases a5 <;> conv=>cbv
  ·have C:=Bu Q;intro a6 R;conv=>cbv
   refine .inr ?_;cases a6 <;> conv=>cbv
   ·have F:=Bu R;intro a7 S;conv=>cbv
    refine .inr ?_;cases a7 <;> conv=>cbv
    ·have J:=Bu S;refine CN (fun K=>?_) fun K=>?_
     ·have g:BJ ((a,l),(b,m))=false:=by unfold BJ;rw[<-f,<-h,<-D,<-u];rfl
      exact AL (by rw[G,g];simp[sh,d,j,t,C,F,J,K])
     have g:BJ ((a,l),(b,m))=false:=by unfold BJ;rw[<-f,<-h,<-D,<-u];rfl
     exact AL (by rw[G,g];simp[sh,d,j,t,C,F,J,K])
    have J:=Bv S;have g:BJ ((a,l),(b,m))=false:=by unfold BJ;rw[<-f,<-h,<-D,<-u];rfl
    exact AL (by rw[G,g];simp[sh,d,j,t,C,F,J])
   have F:=Bv R;have g:BJ ((a,l),(b,m))=false:=by unfold BJ;rw[<-f,<-h,<-D,<-u];rfl
   exact AL (by rw[G,g];simp[sh,d,j,t,C,F])
  have C:=Bv Q;have g:BJ ((a,l),(b,m))=false:=by unfold BJ;rw[<-f,<-h,<-D,<-u];rfl
  exact AL (by rw[G,g];simp[sh,d,j,t,C])
 have ao:=Bv u;refine AW ?_;rintro ax ⟨H,f31⟩ W w;refine .inr ?_;refine BS (fun d=>?_) fun d=>?_
 ·obtain⟨X,A⟩:=xB (KX ((a,l),(b,m)));obtain⟨ae,U⟩:∃z:ByteArray,z=LW ((a,l),(b,m)):=⟨_,rfl⟩
  refine AB hE (OW s1 s2 (A ▸ U ▸ PZ ((a,l),(b,m)))) ?_;cases X <;> conv=>cbv
  ·have g:BJ ((a,l),(b,m))=W:=by unfold BJ;rw[<-f,<-h,<-D,<-u,<-H,<-w];rfl
   exact AL (by rw[G,g,<-A];simp[sh,d])
  intro Z M;conv=>cbv
  cases Z <;> conv=>cbv
  ·obtain⟨Y,I⟩:=xB (Hk s);refine AB hE (Mt I) ?_;cases Y <;> conv=>cbv
   ·have g:BJ ((a,l),(b,m))=W:=by unfold BJ;rw[<-f,<-h,<-D,<-u,<-H,<-w];rfl
    exact AL (by rw[G,g,<-A,show EI s=_ from M.symm,<-I];simp[sh,d])
   refine AW ?_;rintro a1 ⟨L,f58⟩ a2 N;have g:BJ ((a,l),(b,m))=W:=by unfold BJ;rw[<-f,<-h,<-D,<-u,<-H,<-w];rfl
   exact AL (by rw[G,g,<-A,show EI s=_ from M.symm,<-I,<-L];simp[sh,d,N])
  refine AW ?_;rintro a1 ⟨L,f58⟩ a2 N;have g:BJ ((a,l),(b,m))=W:=by unfold BJ;rw[<-f,<-h,<-D,<-u,<-H,<-w];rfl
  exact AL (by rw[G,g,<-A,show EI s=_ from M.symm,<-L];simp[sh,d,N])
 refine BS (fun j=>?_) fun j=>?_
 ·cases W <;> conv=>cbv
  ·have V:=Bu w;have g:BJ ((a,l),(b,m))=false:=by unfold BJ;rw[<-f,<-h,<-D,<-u,<-H,<-w];rfl
   exact AL (by rw[G,g];simp[sh,d,j])
  have V:=Bv w;obtain⟨ag,aa⟩:=xB (Hk s);refine AB hE (Mt aa) ?_;cases ag <;> conv=>cbv
  ·have g:BJ ((a,l),(b,m))=true:=by unfold BJ;rw[<-f,<-h,<-D,<-u,<-H,<-w];rfl
   exact AL (by rw[G,g,<-aa];simp[sh,d,j])
  refine AW ?_;rintro ay ⟨ah,f72⟩ az aj;have g:BJ ((a,l),(b,m))=true:=by unfold BJ;rw[<-f,<-h,<-D,<-u,<-H,<-w];rfl
  exact AL (by rw[G,g,<-aa,<-ah];simp[sh,d,j,aj])
 refine BS (fun t=>?_) fun t=>?_
 ·cases W <;> conv=>cbv
  ·have V:=Bu w;have g:BJ ((a,l),(b,m))=false:=by unfold BJ;rw[<-f,<-h,<-D,<-u,<-H,<-w];rfl
   exact AL (by rw[G,g];simp[sh,d,j,t])
  have V:=Bv w;intro av af;conv=>cbv
  cases av <;> conv=>cbv
  ·have g:BJ ((a,l),(b,m))=true:=by unfold BJ;rw[<-f,<-h,<-D,<-u,<-H,<-w];rfl
   exact AL (by rw[G,g,show EI s=_ from af.symm];simp[sh,d,j,t])
  refine AW ?_;rintro aA ⟨ai,f86⟩ aB ak;have g:BJ ((a,l),(b,m))=true:=by unfold BJ;rw[<-f,<-h,<-D,<-u,<-H,<-w];rfl
  exact AL (by rw[G,g,show EI s=_ from af.symm,<-ai];simp[sh,d,j,t,ak])
 intro a5 Q;refine .inr ?_;cases a5 <;> conv=>cbv
 ·have C:=Bu Q;intro a6 R;conv=>cbv
  refine .inr ?_;cases a6 <;> conv=>cbv
  ·have F:=Bu R;intro a7 S;conv=>cbv
   refine .inr ?_;cases a7 <;> conv=>cbv
   ·have J:=Bu S;refine CN (fun K=>?_) fun K=>?_
    ·have g:BJ ((a,l),(b,m))=W:=by unfold BJ;rw[<-f,<-h,<-D,<-u,<-H,<-w];rfl
     exact AL (by rw[G,g];simp[sh,d,j,t,C,F,J,K])
    cases W <;> conv=>cbv
    ·have V:=Bu w;have g:BJ ((a,l),(b,m))=false:=by unfold BJ;rw[<-f,<-h,<-D,<-u,<-H,<-w];rfl
     exact AL (by rw[G,g];simp[sh,d,j,t,C,F,J,K])
    have V:=Bv w;intro a8 T;conv=>cbv
    cases a8 <;> conv=>cbv
    ·have g:BJ ((a,l),(b,m))=true:=by unfold BJ;rw[<-f,<-h,<-D,<-u,<-H,<-w];rfl
     exact AL (by rw[G,g,show EI s=_ from T.symm];simp[sh,d,j,t,C,F,J,K])
    refine AW ?_;rintro ab ⟨O,f103⟩ ad P;have g:BJ ((a,l),(b,m))=true:=by unfold BJ;rw[<-f,<-h,<-D,<-u,<-H,<-w];rfl
    exact AL (by rw[G,g,show EI s=_ from T.symm,<-O];simp[sh,d,j,t,C,F,J,K,P])
   have J:=Bv S;cases W <;> conv=>cbv
   ·have V:=Bu w;have g:BJ ((a,l),(b,m))=false:=by unfold BJ;rw[<-f,<-h,<-D,<-u,<-H,<-w];rfl
    exact AL (by rw[G,g];simp[sh,d,j,t,C,F,J])
   have V:=Bv w;intro a8 T;conv=>cbv
   cases a8 <;> conv=>cbv
   ·have g:BJ ((a,l),(b,m))=true:=by unfold BJ;rw[<-f,<-h,<-D,<-u,<-H,<-w];rfl
    exact AL (by rw[G,g,show EI s=_ from T.symm];simp[sh,d,j,t,C,F,J])
   refine AW ?_;rintro ab ⟨O,f103⟩ ad P;have g:BJ ((a,l),(b,m))=true:=by unfold BJ;rw[<-f,<-h,<-D,<-u,<-H,<-w];rfl
   exact AL (by rw[G,g,show EI s=_ from T.symm,<-O];simp[sh,d,j,t,C,F,J,P])
  have F:=Bv R;cases W <;> conv=>cbv
  ·have V:=Bu w;have g:BJ ((a,l),(b,m))=false:=by unfold BJ;rw[<-f,<-h,<-D,<-u,<-H,<-w];rfl
   exact AL (by rw[G,g];simp[sh,d,j,t,C,F])
  have V:=Bv w;intro a8 T;conv=>cbv
  cases a8 <;> conv=>cbv
  ·have g:BJ ((a,l),(b,m))=true:=by unfold BJ;rw[<-f,<-h,<-D,<-u,<-H,<-w];rfl
   exact AL (by rw[G,g,show EI s=_ from T.symm];simp[sh,d,j,t,C,F])
  refine AW ?_;rintro ab ⟨O,f103⟩ ad P;have g:BJ ((a,l),(b,m))=true:=by unfold BJ;rw[<-f,<-h,<-D,<-u,<-H,<-w];rfl
  exact AL (by rw[G,g,show EI s=_ from T.symm,<-O];simp[sh,d,j,t,C,F,P])
 have C:=Bv Q;cases W <;> conv=>cbv
 ·have V:=Bu w;have g:BJ ((a,l),(b,m))=false:=by unfold BJ;rw[<-f,<-h,<-D,<-u,<-H,<-w];rfl
  exact AL (by rw[G,g];simp[sh,d,j,t,C])
 have V:=Bv w;intro a8 T;conv=>cbv
 cases a8 <;> conv=>cbv
 ·have g:BJ ((a,l),(b,m))=true:=by unfold BJ;rw[<-f,<-h,<-D,<-u,<-H,<-w];rfl
  exact AL (by rw[G,g,show EI s=_ from T.symm];simp[sh,d,j,t,C])
 refine AW ?_;rintro ab ⟨O,f103⟩ ad P;have g:BJ ((a,l),(b,m))=true:=by unfold BJ;rw[<-f,<-h,<-D,<-u,<-H,<-w];rfl
 exact AL (by rw[G,g,show EI s=_ from T.symm,<-O];simp[sh,d,j,t,C,P])
theorem fj {o:Int} {a b:Bool} {l m:List UInt32} {s:ByteArray} {r:List Ex} {c:Bool} {N:Nat} (hN:N<=1048576) (W:Fw N (.mk o ((a,l),(b,m)) s r)) (X:∀z∈r,∀c,c=Im z->CF 97 [.agg (cells .ex z)] (.one (.bool c))) (j:c=Im (.mk o ((a,l),(b,m)) s r)):CF 97 [.agg [.int .i64 o,.bool a,.sl .u32 l,.bool b,.sl .u32 m,.str s,.sl .ex r]] (.one (.bool c)):=by
 obtain⟨O,P,q3⟩:=W.lens;have O:l.length<=N:=O;have P:m.length<=N:=P;have j:c=(OJ (.mk o ((a,l),(b,m)) s r)&&Io r):=j.trans (lf _);refine AM Tryz.func97 fun E M=>?_
 obtain⟨b5,g⟩:=xB (OJ (.mk o ((a,l),(b,m)) s r));refine AB M (qZ AA AA g) ?_;refine G5 (fun C=>?_) fun C=>?_
 ·exact AL (by rw[j,<-g,C];rfl)
 refine BI [] [1,3] [1] (fun vs L k=>∃(i':Nat) (i:Int),vs=[.one (.BE 1 0 0),AH i]/\L=[.var 0 [.int .i64 o,.bool a,.sl .u32 l,.bool b,.sl .u32 m,.str s,.sl .ex r]]/\(AR i i'/\i'<=r.length)/\c=Io (r.drop i')/\k=r.length-i') (r.length-0) ⟨0,0,rfl,rfl,⟨BD 0,AA⟩,by rw[j,<-g,C];rfl,rfl⟩ ?_;rintro J0 w vs L Y ⟨i',i,rfl,rfl,⟨T,U⟩,hinv,V⟩;have ei:=T.eq;refine AW ?_;rintro Z ⟨R,f10⟩;refine BQ (fun A=>?_) fun A=>?_
 ·exact AL (by rw[hinv,List.drop_eq_nil_of_le AA,Io])
 refine .inr ?_;refine Ae i' fun K f=>?_
 try conv=>cbv
 obtain⟨H,⟨⟨t,D⟩,⟨u,F⟩⟩,J,I⟩:=K;obtain⟨Q,d⟩:=xB (Im (.mk H ((t,D),(u,F)) J I));refine AB M (X _ (List.mem_of_getElem? f) _ d) ?_;refine G5 (fun h=>?_) fun h=>?_
 ·exact AL (by rw[hinv,Y0 f,<-d,h];rfl)
 intro G S;exact BT w ⟨i'+1,G,rfl,rfl,⟨⟨AA⟩,AA⟩,by rw[hinv,Y0 f,<-d,h];rfl,rfl⟩
theorem fi {N:Nat} {e:Ex} (h:Fw N e):N<=1048576->∀c,c=Im e->CF 97 [.agg (cells .ex e)] (.one (.bool c)):=by
 induction h with
 | mk N y d f h3 g j C=>
  intro t c u;have w:Fw (N+1) y:= .mk N y d f h3 g j;obtain⟨o,⟨⟨a,l⟩,⟨b,m⟩⟩,s,r⟩:=y;exact fj t w (fun z A=>C z A AA) u
theorem fe {o:Int} {a b:Bool} {l m:List UInt32} {s:ByteArray} {r:List Ex} {c:Int} {N:Nat} (hN:N<=1048576) (S:Fw N (.mk o ((a,l),(b,m)) s r)) (T:∀z∈r,CF 98 [.agg (cells .ex z)] (AH (GD z))) (M:c=GD (.mk o ((a,l),(b,m)) s r)):CF 98 [.agg [.int .i64 o,.bool a,.sl .u32 l,.bool b,.sl .u32 m,.str s,.sl .ex r]] (AH c):=by
 obtain⟨d1,d2⟩:=kQ S;have O:c=GU 0 r+1:=M.trans (YI _);refine AM Tryz.func98 fun E L=>?_
 refine BI [] [1,3,4] [1] (fun vs I k=>∃(i':Nat) (i n:Int),vs=[.one (.BE 1 0 0),AH n,AH i]/\I=[.var 0 [.int .i64 o,.bool a,.sl .u32 l,.bool b,.sl .u32 m,.str s,.sl .ex r]]/\(AR i i'/\i'<=r.length)/\GU 0 r=GU n (r.drop i')/\k=r.length-i') (r.length-0) ⟨0,0,0,rfl,rfl,⟨BD 0,AA⟩,rfl,rfl⟩ ?_;rintro Y t vs I V ⟨i',i,n,rfl,rfl,⟨P,Q⟩,hinv,R⟩;have ei:=P.eq;refine AW ?_;rintro n8 ⟨Z,f8⟩;refine BQ (fun U=>?_) fun U=>?_
 ·intro W K;refine⟨fun _=>by unfold EF;rw[List.drop_eq_nil_of_le AA,GU] at hinv;omega,?_⟩;rw[List.drop_eq_nil_of_le AA,GU] at hinv;exact AL AA
 refine .inr ?_;refine Ae i' fun H f=>?_
 try conv=>cbv
 obtain⟨D,⟨⟨g,u⟩,⟨h,w⟩⟩,G,F⟩:=H;obtain⟨X,d⟩:=xI (GD (.mk D ((g,u),(h,w)) G F));refine AB L (d ▸ T _ (List.mem_of_getElem? f)) ?_;intro C j A J;exact BT t ⟨i'+1,A,C,rfl,rfl,⟨⟨AA⟩,AA⟩,by rw[hinv,kO f,<-d,<-j],rfl⟩
theorem fc {N:Nat} {e:Ex} (h:Fw N e):N<=1048576->CF 98 [.agg (cells .ex e)] (AH (GD e)):=by
 induction h with
 | mk N y d f h3 g j A=>
  intro t;have u:Fw (N+1) y:= .mk N y d f h3 g j;obtain⟨o,⟨⟨a,l⟩,⟨b,m⟩⟩,s,r⟩:=y;exact fe t u (fun z w=>A z w AA) rfl
noncomputable def Gm (e:Ex):Int:=if Im e=true then (if GD e>40 then 3 else 0) else 1
theorem gU {o:Int} {a b:Bool} {l m:List UInt32} {s:ByteArray} {r:List Ex} {c:Int} {N:Nat} (u:N<=1048576) (w:Fw N (.mk o ((a,l),(b,m)) s r)) (h:c=Gm (.mk o ((a,l),(b,m)) s r)):CF 42 [.agg [.int .i64 o,.bool a,.sl .u32 l,.bool b,.sl .u32 m,.str s,.sl .ex r]] (AH c):=by
 refine AM Tryz.func42 fun E t=>?_
 obtain⟨A,d⟩:=xB (Im (.mk o ((a,l),(b,m)) s r));refine AB t (fi w u _ d) ?_;refine G5 (fun g=>?_) fun g=>?_
 ·exact AL (by rw[h,Gm,<-d,if_neg (by rw[g];decide)])
 obtain⟨z,f⟩:=xI (GD (.mk o ((a,l),(b,m)) s r));refine AB (r:= .one (.int .i64 z)) t (by rw[f];exact fc w u) ?_;refine FC (fun j=>?_) fun j=>?_
 ·exact AL (by rw[h,Gm,<-d,if_pos g,<-f,if_neg (Int.not_lt.2 j)])
 exact AL (by rw[h,Gm,<-d,if_pos g,<-f,if_pos j])
end
end Go.Abs
