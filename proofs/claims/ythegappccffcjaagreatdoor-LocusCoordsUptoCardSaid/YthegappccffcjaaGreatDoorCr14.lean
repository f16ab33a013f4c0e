/- Part 15 of a proof. Conditions: each theorem's own. -/
import Derived.Test.YthegappccffcjaaGreatDoorCr10
set_option linter.all false
set_option maxHeartbeats 80000000
set_option maxRecDepth 20000
open Go.Proofs
namespace Go.Abs
open Go.RowKit
section
def Hh (n:Int):Bool:=(decide (n >= 97)&&decide (n<=122))||(decide (n >= 65)&&decide (n<=90))
def MI (n:Int):Bool:=decide (n >= 48)&&decide (n<=57)
def Kq (n:Int):Bool:=Hh n||(MI n||decide (n=95))
def Ii (s:ByteArray):Nat->Nat->Nat
 | 0,i=>i
 | k+1,i=>match s.data[i]? with
  | some b=>if Kq (b.toNat:Nat)=true then Ii s k (i+1) else i
  | none=>i
def JE (s:ByteArray):Nat:=match s.data[0]? with
 | some b=>if Hh (b.toNat:Nat)=true then Ii s s.size 0 else 0
 | none=>0
def IY (s:ByteArray):Bool:= !(s.toList==(⟨#[]⟩:ByteArray).toList)&&(decide ((s.size:Int)<=24)&&(((JE s:Nat):Int)==(s.size:Int)))
variable {i k:Nat} {n:Int}
theorem uQ {s:ByteArray} (h:s.size=0):JE s=0:=by
 have:s.data[0]? =none:=Array.getElem?_eq_none (by have:s.data.size=s.size:=rfl;omega);unfold JE;rw[this]
theorem uR {s:ByteArray} {b:UInt8} (h:s.data[0]? =some b) (d:n=b.toNat) (a:false=Hh n):JE s=0:=by
 unfold JE;rw[h];simp only;rw[<-d,<-a];rfl
theorem uT {s:ByteArray} {b:UInt8} (h:s.data[0]? =some b) (d:n=b.toNat) (a:true=Hh n):JE s=Ii s s.size 0:=by
 unfold JE;rw[h];simp only;rw[<-d,<-a];rfl
theorem uN {s:ByteArray} (h:¬i<s.size):Ii s k i=i:=by
 cases k with
 | zero=>rfl
 | succ k=>rw[Ii,Array.getElem?_eq_none (by have:s.data.size=s.size:=rfl;omega)]
theorem uO {s:ByteArray} {b:UInt8} (h:s.data[i]? =some b) (a:n=b.toNat) (hw:Kq n=false):Ii s k i=i:=by
 cases k with
 | zero=>rfl
 | succ k=>rw[Ii,h];simp only;rw[<-a,hw];rfl
theorem WO {s:ByteArray} {b:UInt8} (f:i+k=s.size) (h:s.data[i]? =some b) (a:n=b.toNat) (hw:Kq n=true):Ii s k i=Ii s (s.size-(i+1)) (i+1):=by
 have d:=(Array.getElem?_eq_some_iff.1 h).1;have:s.data.size=s.size:=rfl;obtain⟨k,rfl⟩:∃j,k=j+1:=⟨k-1,AA⟩
 rw[Ii,h];simp only;rw[<-a,hw,(AA:s.size-(i+1)=k)];rfl
theorem YH {s:ByteArray} {j:Nat} {x y:UInt8} (a:s.data[i]? =some x) (b:s.data[j]? =some y) (e:i=j):x=y:=by subst e;exact Option.some.inj (a.symm.trans b)
theorem uX {s:ByteArray} {x y z:UInt8} {m k:Int} (d:s.data[i]? =some x) (g:s.data[i]? =some y) (h3:s.data[i]? =some z) (e1:n=x.toNat) (e2:m=y.toNat) (f:k=z.toNat) (a:false=Hh n) (b:false=MI m) (c:k≠95):Kq n=false:=by
 obtain rfl:=YH d g rfl;obtain rfl:=YH d h3 rfl;obtain rfl:n=m:=e1.trans e2.symm;obtain rfl:n=k:=e1.trans f.symm;unfold Kq;rw[<-a,<-b,decide_eq_false c];rfl
theorem aA {c:Bool} (j:c=Hh n):CF 344 [.one (.int .u8 n)] (.one (.bool c)):=by
 refine AN Tryz.func344 fun E s=>?_
 intro n4 d;cases n4 <;> conv=>cbv
 ·have m:=MU d;intro g a;conv=>cbv
  cases g <;> conv=>cbv
  ·have f:=MU a;exact AO (by rw[j];unfold Hh;(try rw[<-d]);(try rw[<-a]);rfl)
  have f:=MV a;intro l b;conv=>cbv
  exact AO (by rw[j];unfold Hh;(try rw[<-d]);(try rw[<-a]);(try rw[<-b]);rfl)
 have m:=MV d;intro r h;conv=>cbv
 cases r <;> conv=>cbv
 ·have o:=OK h;intro g a;conv=>cbv
  cases g <;> conv=>cbv
  ·have f:=MU a;exact AO (by rw[j];unfold Hh;(try rw[<-d]);(try rw[<-h]);(try rw[<-a]);rfl)
  have f:=MV a;intro l b;conv=>cbv
  exact AO (by rw[j];unfold Hh;(try rw[<-d]);(try rw[<-h]);(try rw[<-a]);(try rw[<-b]);rfl)
 have o:=OL h;exact AO (by rw[j];unfold Hh;(try rw[<-d]);(try rw[<-h]);rfl)
theorem lr {c:Bool} (b:c=MI n):CF 345 [.one (.int .u8 n)] (.one (.bool c)):=by
 refine AN Tryz.func345 fun E g=>?_
 intro n4 a;cases n4 <;> conv=>cbv
 ·have f:=MU a;exact AO (by rw[b];unfold MI;(try rw[<-a]);rfl)
 have f:=MV a;intro h d;conv=>cbv
 exact AO (by rw[b];unfold MI;(try rw[<-a]);(try rw[<-d]);rfl)
theorem K8 {s:ByteArray} {b:UInt8} (h:s.data[n.toNat]? =some b) (e:n.toNat=i):s.data[i]? =some b:=e ▸ h
theorem uU {s:ByteArray} {c:Int} (hs:s.size<=1048576) (M:c=(JE s:Nat)):CF 317 [.one (.str s),AD 0] (AD c):=by
 refine Gc Tryz.func317 fun E Q=>?_
 conv=>cbv
 intro n7 h7;have e7:n7=(ByteArray.size s:Nat):=h7.eq;conv=>cbv
 intro n8 h8;conv=>cbv
 cases n8 <;> conv=>cbv
 ·have k8:=Bm h8;obtain⟨Y,h⟩:=Ro (z:=s) (n:=0) (by show (0:Int).toNat<_;omega);refine⟨Y,fun _=>⟨AA,h⟩,?_⟩;intro S C;have u:=C.eq;have f12:=C.lt;conv=>cbv
  obtain⟨a5,d⟩:=xB (Hh S);refine Be Q (aA d) ?_;conv=>cbv
  intro T D;conv=>cbv
  cases T <;> conv=>cbv
  ·have r:=HN D;refine .inr ?_;obtain⟨J0,b⟩:=xJ fun vs bl k=>∃(i':Nat) (i:Int),vs=[.one (.str s),AD i]/\(Ah i i'/\i'<=s.size)/\JE s=Ii s (s.size-i') i'/\k=s.size-i'
   refine⟨[],[0,1],[],J0,⟨s.size-0,by rw[b];exact⟨0,0,rfl,⟨BJ 0,Nat.zero_le _⟩,uT h u (r.symm.trans d),rfl⟩⟩,?_⟩;intro vs bl aa hj;rw[b] at hj;obtain⟨i',i,rfl,⟨hi,a7⟩,hinv,a8⟩:=hj;conv=>cbv
   have ei:=hi.eq;intro U P;have a6:U=(ByteArray.size s:Nat):=P.eq;conv=>cbv
   intro V F;conv=>cbv
   cases V <;> conv=>cbv
   ·have R:=ES F;exact AM ⟨⟨rfl,congrArg _ (by rw[M,hinv,uN AA];omega),trivial⟩,trivial⟩
   have R:=ET F;obtain⟨Z,a⟩:=Ro (z:=s) (n:=i) AA;refine⟨Z,fun _=>⟨AA,a⟩,?_⟩;intro L G;have o:=G.eq;have f24:=G.lt;conv=>cbv
   obtain⟨N,f⟩:=xB (Hh L);refine Be Q (aA f) ?_;conv=>cbv
   cases N <;> conv=>cbv
   ·obtain⟨a1,j⟩:=Ro (z:=s) (n:=i) AA;refine⟨a1,fun _=>⟨AA,j⟩,?_⟩;intro W H;have w:=H.eq;have f29:=H.lt;conv=>cbv
    obtain⟨O,g⟩:=xB (MI W);refine Be Q (lr g) ?_;conv=>cbv
    cases O <;> conv=>cbv
    ·obtain⟨a2,l⟩:=Ro (z:=s) (n:=i) AA;refine⟨a2,fun _=>⟨AA,l⟩,?_⟩;intro ab I;have A:=I.eq;have f35:=I.lt;conv=>cbv
     intro X J;conv=>cbv
     cases X <;> conv=>cbv
     ·have t:=Bm J;exact AM ⟨⟨rfl,congrArg _ (by rw[M,hinv,uO (n:=L) (K8 a AA) o (uX (K8 a rfl) (K8 j rfl) (K8 l rfl) o w A f g t)];omega),trivial⟩,trivial⟩
     have t:=Bp J;refine .inr ?_;intro m K;conv=>cbv
     refine Dx ?_;refine⟨s.size-(i'+1),?_,?_⟩
     ·omega
     rw[b];exact⟨i'+1,m,rfl,⟨⟨AA⟩,AA⟩,hinv.trans (WO AA (K8 l AA) A (by unfold Kq;rw[decide_eq_true t];simp)),rfl⟩
    refine .inr ?_;intro m K;conv=>cbv
    refine Dx ?_;refine⟨s.size-(i'+1),?_,?_⟩
    ·omega
    rw[b];exact⟨i'+1,m,rfl,⟨⟨AA⟩,AA⟩,hinv.trans (WO AA (K8 j AA) w (by unfold Kq;rw[<-g];simp)),rfl⟩
   refine .inr ?_;intro m K;conv=>cbv
   refine Dx ?_;refine⟨s.size-(i'+1),?_,?_⟩
   ·omega
   rw[b];exact⟨i'+1,m,rfl,⟨⟨AA⟩,AA⟩,hinv.trans (WO AA (K8 a AA) o (by unfold Kq;rw[<-f];rfl)),rfl⟩
  have r:=HO D;exact AM ⟨⟨rfl,congrArg _ (by rw[M,uR h u (r.symm.trans d)];rfl),trivial⟩,trivial⟩
 have k8:=Bp h8;exact AM ⟨⟨rfl,congrArg _ (by rw[M,uQ AA];rfl),trivial⟩,trivial⟩
theorem NP {s:ByteArray} {c:Bool} (j:c=IY s):CF 268 [.one (.str s)] (.one (.bool c)):=by
 refine AN Tryz.func268 fun E t=>?_
 intro n4 h;cases n4 <;> conv=>cbv
 ·exact AO (by rw[j];unfold IY;rw[<-h];rfl)
 intro l r;have m:l=(ByteArray.size s:Nat):=r.eq;refine Ak ?_;intro z d;cases z <;> conv=>cbv
 ·have u:=OK d;exact AO (by rw[j];unfold IY;rw[<-h,<-m,<-d];rfl)
 have u:=OL d;obtain⟨A,a⟩:=xI ((JE s:Nat));refine AB t (uU AA a) ?_;intro b f;have o:b=(ByteArray.size s:Nat):=f.eq;refine Ak ?_;intro w g;exact AO (by rw[j];unfold IY;rw[<-h,show (s.size:Int)=l from m.symm,<-d,<-a,(AA:l=b),<-g];rfl)
end
section
def okQ (x:el AL):Bool:=GF x.1.1 x.1.2 x.2.1 x.2.2
def aK (x:el AL):Bool:=decide (x.1.2.length<=6)&&decide (x.2.2.length<=6)
def az (n:Nat) (l:List (el AL)):Bool:=decide (l.length=n)&&l.all okQ
def a8:Nat->List (List (el AL))->Bool
 | _,[]=>true
 | i,l::r=>az (2^i) l&&a8 (i+1) r
def vW (T:List (List (el AL))) (A:List (el AL)):Bool:=A.all aK&&T.all fun l=>l.all aK
def ShV (q:Rat):Prop:=q.num.natAbs<2^192/\q.den<2^192
structure Frm (u:AH):Prop where
 form:∀j s,u.reverse[j]? =some s->s.length=2^j
 tb:TB 1540 u
 ht:u.length<=4
end
section
abbrev Sa:Nat:=8589934592
abbrev Sb:Nat:=34359738368
end
section
variable {c:Bool}
theorem WN (b:Bool) (l:List UInt32):Gp b l=(decide ((BB (AJ l)).length=l.length)&&(!b||decide (0<l.length))):=by
 unfold Gp;cases h:l.getLast? with
 | none=>
  have:l=[]:=List.getLast?_eq_none_iff.1 h;subst this;simp[show AJ []=0 from rfl,show BB 0=[] from Fo.2 rfl]
 | some w=>
  obtain⟨m,rfl⟩:=List.getLast?_eq_some_iff.1 h;have a:0<(m++[w]).length:=AZ
  rw[decide_eq_true a,Bool.or_true,Bool.and_true,<-M7]
  show (w !=0)=_
  by_cases hw:w=0
  ·subst hw;have:=Ru m;rw[Kk,decide_eq_false (by simp;omega)];rfl
  rw[Lo hw,decide_eq_true rfl];simpa using hw
def vQ (T:List LR) (A:LR):Prop:=(a8 0 T&&az (2^T.length) A)=true/\∃u,T=tw u/\BG u
theorem XQ {b:Bool} {l:List UInt32} (g:c=Gp b l):CF 142 [.agg (B8 b l)] (.one (.bool c)):=by
 refine AN Tryz.func142 fun E r=>?_
 obtain⟨C,d⟩:=xU (BB (AJ l));refine AB r (K5 rfl d) ?_;rintro z ⟨u,f6⟩ A ⟨w,f9⟩;refine CU (fun h=>?_) fun h=>?_
 ·exact AO (by rw[g,WN,<-d,decide_eq_false AA];rfl)
 intro m a;cases m <;> conv=>cbv
 ·have j:=HN a;refine AP ?_;rintro s ⟨o,f18⟩ t f;exact AO (by have hb:b=true:=(by cases b with | false=>cases a | true=>rfl);rw[g,WN,<-d,decide_eq_true AA,hb,f,Bool.eq_iff_iff];simp;omega)
 have j:=HO a;refine g2 rfl ?_;exact AO (by have hb:b=false:=(by cases b with | true=>cases a | false=>rfl);rw[g,WN,<-d,decide_eq_true AA,hb];rfl)
theorem XJ {b1 b2:Bool} {l1 l2:List UInt32} (j:c=GF b1 l1 b2 l2) (s1:l1.length<=4000000) (s2:l2.length<=4000000):CF 66 [.agg (CT b1 l1 b2 l2)] (.one (.bool c)):=by
 refine AN Tryz.func66 fun E g=>?_
 obtain⟨u,a⟩:=xB (Gp b1 l1);refine AB g (XQ a) ?_;cases u <;> conv=>cbv
 ·exact AO (by rw[j];unfold GF;rw[<-a];rfl)
 obtain⟨w,b⟩:=xB (Gp b2 l2);refine AB g (XQ b) ?_;cases w <;> conv=>cbv
 ·exact AO (by rw[j];unfold GF;rw[<-b];exact Bool.and_false _)
 obtain⟨x,o⟩:=Kp.1 a.symm;obtain⟨y,l⟩:=Kp.1 b.symm;obtain⟨z,h⟩:=xI (DM y);refine AB g (Kz l h) ?_;refine Fw (fun m=>?_) fun m=>?_
 ·exact AO (by rw[j];exact fS l)
 obtain⟨r,s,f⟩:=BQ (((Nat.gcd x.natAbs y.natAbs:Nat):Int));refine AB g (IF o l f AA AA) ?_;obtain⟨t,d⟩:=xB (decide (((Nat.gcd x.natAbs y.natAbs:Nat):Int)=1));refine AB g (KA f d) ?_;exact AO (by rw[j];exact fR a b o l AA d)
end
section
def FF:Nat->Nat->ByteArray->ByteArray
 | 0,_,s=>s
 | k+1,v,s=>if v=0 then s else FF k (v/10) (ByteArray.mk [UInt8.ofNat (48+v%10)].toArray++s)
variable {B k v:Nat} {c:Bool} {n x y:Int} {p q:Rat}
theorem ZJ:∀(k k' v:Nat) (s:ByteArray),v<=k->v<=k'->FF k v s=FF k' v s
 | 0,0,_,_,_,_=>rfl
 |0,k'+1,v,s,h,_|k+1,0,v,s,_,h=>by rw[FF,FF,if_pos AA]
 | k+1,k'+1,v,s,h,h'=>by
  rw[FF,FF]
  split
  ·rfl
  exact ZJ k k' _ _ AA AA
theorem mW {s:ByteArray} (h:v≠0):FF v v s=FF (v/10) (v/10) (ByteArray.mk [UInt8.ofNat (48+v%10)].toArray++s):=by
 obtain⟨k,rfl⟩:∃k,v=k+1:=⟨v-1,AA⟩
 rw[FF,if_neg h];exact ZJ _ _ _ _ AA (Nat.le_refl _)
structure Fz (B v:Nat) (s:ByteArray):Prop where
 sz:s.size<=B+1
 lo:v≠0->v*2^s.size<=2^B
theorem dw (b:UInt8) (s:ByteArray):(ByteArray.mk [b].toArray++s).size=s.size+1:=by
 rw[ByteArray.size_append];have:(ByteArray.mk [b].toArray).size=1:=rfl;omega
theorem Fz.lt {s:ByteArray} (h:Fz B v s) (d:v≠0):s.size<=B:=by
 have a:=h.lo d;have b:2^s.size<=v*2^s.size:=Nat.le_mul_of_pos_left _ AA;exact (Nat.pow_le_pow_iff_right (by decide:1<2)).1 (Nat.le_trans b a)
theorem Fz.step {s:ByteArray} (h:Fz B v s) (a:v≠0) (b:UInt8):Fz B (v/10) (ByteArray.mk [b].toArray++s):=by
 have f:=h.lt a;refine⟨by rw[dw];omega,fun g=>?_⟩;rw[dw,Nat.pow_succ];have h3:=h.lo a;have d:v/10*2<=v:=AA
 have j:=Nat.mul_le_mul_right (2^s.size) d;have e:v/10*(2^s.size*2)=v/10*2*2^s.size:=by grind
 omega
theorem Fz.init (h:v<=2^B):Fz B v ⟨#[]⟩:=⟨Nat.zero_le _,fun _=>by
 have:(⟨#[]⟩:ByteArray).size=0:=rfl;rw[this];omega⟩
theorem ZK:∀(k B v:Nat) (s:ByteArray),v<=k->Fz B v s->(FF k v s).size<=B+1
 | 0,B,v,s,h,f=>f.sz
 | k+1,B,v,s,h,f=>by
  rw[FF]
  split
  ·exact f.sz
  rename_i a
  exact ZK k B _ _ AA (f.step a _)
def Iw (b:Bool) (v:Nat):ByteArray:=if ((FF v v ⟨#[]⟩).toList==(⟨#[]⟩:ByteArray).toList)=true then⟨#[48]⟩ else if b=true then⟨#[45]⟩++FF v v ⟨#[]⟩ else FF v v ⟨#[]⟩
theorem mX {b:Bool} (h:v<=2^B):(Iw b v).size<=B+2:=by
 have a:=ZK v B v ⟨#[]⟩ (Nat.le_refl _) (Fz.init h);unfold Iw
 split
 ·have:(⟨#[48]⟩:ByteArray).size=1:=rfl;omega
 split
 ·rw[ByteArray.size_append];have:(⟨#[45]⟩:ByteArray).size=1:=rfl;omega
 omega
theorem uD (h:n=((48+v%10:Nat):Int)):n=((UInt8.ofNat (48+v%10)).toNat:Nat):=by rw[UInt8.toNat_ofNat'];omega
theorem qI {w:UInt8} (h:n=(w.toNat:Nat)):Et Ge [.int .u8 n] (cells .u8 w):=⟨by rw[h];rfl,trivial⟩
theorem iS {b:Bool} {l:List UInt32} {r:ByteArray} (S:BR x b l) (hl:l.length<=17592186044416) (T:AJ l<=2^B) (U:B<=1000000000) (L:r=Iw b (AJ l)):CF 316 [.agg (B8 b l)] (.one (.str r)):=by
 refine AN Tryz.func316 fun E R=>?_
 refine AB R (JL S) ?_;refine Bc [] [1,3,4] [1] (fun vs Q k=>∃(v:Nat) (s:ByteArray) (m:List UInt32),vs=[.one (.BX 1 0 0),.one (.str s),.one (.sl .u32 m)]/\Q=[.var 0 [.bool b,.sl .u32 l]]/\(m=BB v/\m.length<=l.length)/\Fz B v s/\FF v v s=FF (AJ l) (AJ l) ⟨#[]⟩/\k=v) (AJ l) ⟨AJ l,⟨#[]⟩,l,rfl,rfl,⟨S.trim.symm,Nat.le_refl _⟩,Fz.init T,rfl,rfl⟩ ?_;rintro J0 J vs Q W ⟨v,s,m,rfl,rfl,⟨hm,K⟩,hf,hinv,V⟩;refine Ak ?_;rintro Z ⟨A,f12⟩;refine Fw (fun M=>?_) fun M=>?_
 ·intro P t;cases P <;> conv=>cbv
  ·cases b <;> conv=>cbv
   ·have a:v=0:=Fo.1 (by rw[<-hm];exact List.length_eq_zero_iff.1 AA);have f:s=FF (AJ l) (AJ l) ⟨#[]⟩:=by subst a;exact hinv
    exact AO (by rw[L,Iw,<-f,if_neg (by rw[<-t];decide)];first | rfl | (rw[if_pos rfl];exact j.symm))
   refine⟨fun _=>by rw[show (⟨#[45]⟩:ByteArray).size=1 from rfl];have:=hf.sz;omega,?_⟩;intro Y j;conv=>cbv
   have a:v=0:=Fo.1 (by rw[<-hm];exact List.length_eq_zero_iff.1 AA);have f:s=FF (AJ l) (AJ l) ⟨#[]⟩:=by subst a;exact hinv
   exact AO (by rw[L,Iw,<-f,if_neg (by rw[<-t];decide)];first | rfl | (rw[if_pos rfl];exact j.symm))
  have a:v=0:=Fo.1 (by rw[<-hm];exact List.length_eq_zero_iff.1 AA);have f:s=FF (AJ l) (AJ l) ⟨#[]⟩:=by subst a;exact hinv
  exact AO (by rw[L,Iw,<-f,if_pos t.symm])
 refine .inr ?_;have H:AJ m=v:=by rw[hm,Bn]
 have u:v≠0:=fun e=>by subst e;rw[HH] at hm;rw[hm] at A;simp at A;omega
 obtain⟨I,g⟩:=xU (BB (v/10));obtain⟨d16,G⟩:=xI (((v%10:Nat):Int));refine AB (r:= .BN [(false,[.sl .u32 I]),(false,[.int .u32 d16])]) R (XU (b:=10) (BJ 10) AF AF (by rw[H];exact g) (by rw[H];exact⟨G⟩) AA) ?_;intro a1 C;have C:=wrap_u32 C;intro O D;conv=>cbv
 have D:=wrap_u8 D;have F:O=((48+v%10:Nat):Int):=AA
 obtain⟨w,o⟩:∃z:UInt8,z=UInt8.ofNat (48+v%10):=⟨_,rfl⟩
 refine⟨[w],fun _=>⟨rfl,AF,rfl,⟨rfl,qI (by rw[o];exact uD F),trivial⟩⟩,.inr ?_⟩;try conv=>cbv
 refine⟨[w],fun _=>rfl,?_⟩;intro X d;conv=>cbv
 refine⟨fun _=>by rw[d,show (ByteArray.mk [w].toArray).size=1 from rfl];have:=hf.lt u;omega,?_⟩;intro N h;conv=>cbv
 exact Bz J ⟨v/10,N,I,rfl,rfl,⟨g,Nat.le_trans (by rw[g,hm];exact FG (Nat.div_le_self _ _)) K⟩,(by rw[h,d];exact hf.step u _),(by rw[h,d,o];exact (mW u).symm.trans hinv),rfl⟩
theorem rI {b1 b2:Bool} {l1 l2:List UInt32} (h:BR x b1 l1) (j:BR y b2 l2) (hb:b1=b2) {r:Int} (g:r=CR (x.natAbs:Nat) (y.natAbs:Nat)):decide (x=y)=(r==0):=by
 have d:=h.neg;have f:=j.neg;rw[hb,f] at d;have h3:(y<0)↔(x<0):=by simpa using d
 rw[g,Bool.eq_iff_iff,decide_eq_true_iff,beq_iff_eq];rcases LC (x.natAbs:Nat) (y.natAbs:Nat) with⟨a,b⟩ |⟨a,b⟩ |⟨a,b⟩ <;> rw[b] <;> omega
def I6:Nat->ByteArray->ByteArray
 | 0,s=>s
 | f+1,s=>I6 f (⟨#[48]⟩++s)
theorem dx (s:ByteArray):((⟨#[48]⟩:ByteArray)++s).size=s.size+1:=by
 rw[ByteArray.size_append];have:(⟨#[48]⟩:ByteArray).size=1:=rfl;omega
def RK (k:Nat) (s:ByteArray):ByteArray:=if k>0 then (s.extract 0 (s.size-k)++⟨#[46]⟩)++s.extract (s.size-k) s.size else s
def NC (k:Nat) (q:Rat):ByteArray:=RK k (I6 (k+1-(Iw (decide (q.num<0)) q.num.natAbs).size) (Iw (decide (q.num<0)) q.num.natAbs))
def IN:Nat->Nat->Rat->ByteArray×Bool
 | 0,_,_=>(⟨#[]⟩,false)
 | f+1,k,q=>if (q.den:Int)=1 then (NC k q,decide (((NC k q).size:Int)<=40)) else IN f (k+1) (q*((10:Int):Rat))
structure O8 (b1:Bool) (l1:List UInt32) (b2:Bool) (l2:List UInt32) (R:ByteArray) (c:Bool):Prop where
 no:GF b1 l1 b2 l2=false->(R,c)=(⟨#[]⟩,false)
 lt:∀q,Bw q b1 l1 b2 l2->E1 q<0->(R,c)=(⟨#[]⟩,false)
 ge:∀q,Bw q b1 l1 b2 l2->¬E1 q<0->(R,c)=IN 41 0 q
theorem UW {b1 b2:Bool} {l1 l2:List UInt32} (h:Bw p b1 l1 b2 l2) (h':Bw q b1 l1 b2 l2):p=q:=by
 have a:=h.num.Fa.trans h'.num.Fa.symm;have b:=h.den.Fa.trans h'.den.Fa.symm;exact Rat.ext a AA
theorem Yk (b1:Bool) (l1:List UInt32) (b2:Bool) (l2:List UInt32):∃R c,O8 b1 l1 b2 l2 R c:=by
 by_cases f:∃q,Bw q b1 l1 b2 l2
 ·obtain⟨q,b⟩:=f;have g:GF b1 l1 b2 l2=true:=NH.2 ⟨q,b⟩
  by_cases d:E1 q<0
  ·exact⟨_,_,fun _=>rfl,fun _ _ _=>rfl,fun p a h=>absurd (UW a b ▸ d) h⟩
  exact⟨(IN 41 0 q).1,(IN 41 0 q).2,fun h=>(by rw[g] at h;cases h),fun p a h=>absurd (UW a b ▸ h) d,fun p a _=>by rw[UW a b]⟩
 exact⟨_,_,fun _=>rfl,fun _ _ _=>rfl,fun p a _=>absurd ⟨p,a⟩ f⟩
theorem Yj (a:k<=40) (h:(q.den:Int)=1):IN (41-k) k q=(NC k q,decide (((NC k q).size:Int)<=40)):=by
 rw[(AA:41-k=(40-k)+1),IN,if_pos h]
theorem lQ (a:k<=40) (h:¬(q.den:Int)=1):IN (41-k) k q=IN (41-(k+1)) (k+1) (q*((10:Int):Rat)):=by
 rw[(AA:41-k=(41-(k+1))+1),IN,if_neg h]
theorem po {s:ByteArray} (h:s.size<=k):I6 (k+1-s.size) s=I6 (k+1-(⟨#[48]⟩++s).size) (⟨#[48]⟩++s):=by
 rw[dx,(AA:k+1-s.size=(k+1-(s.size+1))+1),I6]
theorem eE {a b:Nat} (d:p.num.natAbs<2^(32*a)) (f:p.den<2^(32*b)) (ha:a<=4000000000000) (hb:b<=4000000000000):Cw p:=
 ⟨Nat.le_trans (Gz d) ha,Nat.le_trans (Gz f) hb⟩
theorem o5:(p*((10:Int):Rat)).num.natAbs<=p.num.natAbs*10/\(p*((10:Int):Rat)).den<=p.den:=by
 have a:((10:Int):Rat).num=10:=rfl;have b:((10:Int):Rat).den=1:=rfl;rw[Rat.num_mul,Rat.den_mul,a,b,Nat.mul_one];refine⟨?_,Nat.div_le_self _ _⟩;refine Nat.le_trans (Int.natAbs_ediv_le_natAbs _ _) ?_;rw[Int.natAbs_mul];exact Nat.le_refl _
structure Bq (k:Nat) (p:Rat):Prop where
 num:p.num.natAbs<2^(32*(1048580+k))
 den:p.den<2^(32*(1048580+k))
theorem Bq.small (h:Bq k p) (a:k<=41):Cw p:=eE h.num h.den AA AA
theorem Bq.step (h:Bq k p):Bq (k+1) (p*((10:Int):Rat)):=by
 obtain⟨a,b⟩:=o5 (p:=p);refine⟨Nat.lt_of_le_of_lt a ?_,Nat.lt_of_le_of_lt b (Nat.lt_of_lt_of_le h.den (Nat.pow_le_pow_right AF AA))⟩;have h3:=h.num;rw[(AA:32*(1048580+(k+1))=32*(1048580+k)+32),Nat.pow_add]
 generalize 2^(32*(1048580+k))=P at*
 have:(2:Nat)^32=4294967296:=AF
 rw[this];omega
theorem Bq.init {b1 b2:Bool} {l1 l2:List UInt32} (h:Bw q b1 l1 b2 l2) (s1:l1.length<=1048580) (s2:l2.length<=1048580):Bq 0 q:=by
 have a:=DZ l1;have b:=DZ l2;rw[h.num.nat] at a;rw[h.den.nat] at b;have e1:32*l1.length<=32*(1048580+0):=AA
 have e2:32*l2.length<=32*(1048580+0):=AA
 constructor
 ·generalize 32*(1048580+0)=K at *;exact Nat.lt_of_lt_of_le a (Nat.pow_le_pow_right AF e1)
 generalize 32*(1048580+0)=K at *;exact Nat.lt_of_lt_of_le b (Nat.pow_le_pow_right AF e2)
theorem Bq.bits {b1 b2:Bool} {l1 l2:List UInt32} (h:Bq k p) (a:Bw p b1 l1 b2 l2) (d:k<=41) (b:B=40000000):AJ l1<=2^B:=by
 rw[a.num.nat];exact Nat.le_trans (Nat.le_of_lt h.num) (Nat.pow_le_pow_right AF AA)
theorem iy {b1 b2:Bool} {l1 l2:List UInt32} (f:BR x b1 l1) (g:BR y b2 l2) (h:c=decide (x=y)):CF 315 [.agg (B8 b1 l1),.agg (B8 b2 l2)] (.one (.bool c)):=by
 refine AN Tryz.func315 fun E j=>?_
 intro o b;cases o <;> conv=>cbv
 ·have l:=Sz b;exact AO (by rw[h];exact decide_eq_false fun e=>absurd (f.uniq g e).1 (beq_eq_false_iff_ne.1 b.symm))
 have l:=TA b;obtain⟨r,a⟩:=xI (CR (x.natAbs:Nat) (y.natAbs:Nat));refine AB j (Na f.B9 g.B9 a) ?_;intro m d;exact AO (by rw[h,rI f g (beq_iff_eq.1 b.symm) a,d])
theorem fJ {b1 b2:Bool} {l1 l2:List UInt32} (b:Bw p b1 l1 b2 l2) {r s:ByteArray} (d:r=Iw b1 (AJ l1)) (a:I6 (k+1-s.size) s=I6 (k+1-r.size) r) (f:¬s.size<=k):NC k p=RK k s:=by
 unfold NC;rw[<-b.num.neg,<-b.num.nat,<-d,<-a,(AA:k+1-s.size=0),I6]
theorem O9 {b1 b2:Bool} {l1 l2:List UInt32} {R:ByteArray} (s1:l1.length<=1048580) (s2:l2.length<=1048580) (hR:O8 b1 l1 b2 l2 R c):CF 267 [.agg (CT b1 l1 b2 l2)] (.BN [(false,[.str R]),(false,[.bool c])]):=by
 obtain⟨B,hB⟩:=xN 40000000;refine Gc Tryz.func267 fun E I=>?_
 conv=>cbv
 obtain⟨aq,m⟩:=xB (GF b1 l1 b2 l2);refine Be I (XJ m AA AA) ?_;conv=>cbv
 refine QN ?_ ?_ <;> intro W <;> conv=>cbv
 ·have d:=hR.no (m.symm.trans W);exact AM ⟨⟨rfl,congrArg _ (congrArg Prod.fst d),trivial⟩,⟨rfl,congrArg _ (congrArg Prod.snd d),trivial⟩,trivial⟩
 obtain⟨q,U⟩:=NH.1 (m.symm.trans W);obtain⟨aR,V⟩:=xI (E1 q);refine Be I (SX U V) ?_;conv=>cbv
 refine QM ?_ ?_ <;> intro aH <;> conv=>cbv
 ·have d:=hR.lt q U AA;exact AM ⟨⟨rfl,congrArg _ (congrArg Prod.fst d),trivial⟩,⟨rfl,congrArg _ (congrArg Prod.snd d),trivial⟩,trivial⟩
 obtain⟨c1,m1,c2,m2,ht⟩:=CZ ((10:Int):Rat);refine Be I (FT AF rfl ht) ?_;conv=>cbv
 obtain⟨f,fl,Q⟩:=BQ 1;refine Be I (NX AF Q) ?_;conv=>cbv
 refine Bc [] [4,5,6,7] [4,5,6] (fun vs Z k=>∃(g:Nat) (j:Int) (p:Rat) (x1 x2:Bool) (y1 y2:List UInt32),vs=[.one (.BX 4 0 0),.one (.BX 5 0 0),.one (.BX 6 0 0),AD j]/\Z=[.var 0 [.bool c1,.sl .u32 m1,.bool c2,.sl .u32 m2],.var 0 [.bool f,.sl .u32 fl],.var 0 [.bool x1,.sl .u32 y1,.bool x2,.sl .u32 y2]]/\(Ah j g/\g<=41)/\Bw p x1 y1 x2 y2/\Bq g p/\(R,c)=IN (41-g) g p/\k=41-g) (41-0) ⟨0,0,q,b1,b2,l1,l2,rfl,rfl,⟨BJ 0,AA⟩,U,Bq.init U AA AA,hR.ge q U AA,rfl⟩ ?_;rintro J0 a8 vs Z aK ⟨g,j,p,x1,x2,y1,y2,rfl,rfl,⟨hj,aB⟩,J,w,u,aC⟩;conv=>cbv
 have ej:=hj.eq;refine Nz ?_ ?_ <;> intro aI <;> conv=>cbv
 ·have d:=u;rw[(AA:41-g=0),IN] at d;exact AM ⟨⟨rfl,congrArg _ (congrArg Prod.fst d),trivial⟩,⟨rfl,congrArg _ (congrArg Prod.snd d),trivial⟩,trivial⟩
 refine .inr ?_;obtain⟨a1,h⟩:=xB (decide ((p.den:Int)=1));refine Be I (iy J.den Q h) ?_;conv=>cbv
 cases a1 <;> conv=>cbv
 ·obtain⟨u1,w1,u2,w2,hz⟩:=CZ (p*((10:Int):Rat));have a2:Cw ((10:Int):Rat):=eE (a:=1) (b:=1) AF AF AF AF;refine Be I (XI J ht (w.small AA) a2 rfl hz) ?_;refine Ak ?_;intro ae ay;exact Dx (Bz a8 ⟨g+1,ae,_,u1,u2,w1,w2,rfl,rfl,⟨⟨AA⟩,AA⟩,hz,w.step,u.trans (lQ AA (of_decide_eq_false h.symm)),rfl⟩)
 obtain⟨t,l⟩:∃z:ByteArray,z=Iw x1 (AJ y1):=⟨_,rfl⟩
 have P:=w.bits J AA hB;have aE:t.size<=B+2:=l ▸ mX P;have aG:=(J.small (w.small AA)).1;refine Be I (iS J.num AA P AA l) ?_;conv=>cbv
 refine Bc [] [7,8] [] (fun vs Z k=>∃(s:ByteArray),vs=[AD j,.one (.str s)]/\I6 (g+1-s.size) s=I6 (g+1-t.size) t/\s.size<=B+50/\k=g+1-s.size) (g+1-t.size) ⟨t,rfl,rfl,AA,rfl⟩ ?_;rintro J1 aa vs Z aL ⟨s,rfl,r,aF,aD⟩;conv=>cbv
 intro af a5;have av:af=(ByteArray.size s:Nat):=a5.eq;conv=>cbv
 refine mD ?_ ?_ <;> intro aJ <;> conv=>cbv
 ·refine .inr ?_;refine⟨fun _=>by rw[show (⟨#[48]⟩:ByteArray).size=1 from rfl];omega,?_⟩;intro X A;conv=>cbv
  have ab:X.size=s.size+1:=by rw[A];exact dx s
  exact Bz aa ⟨X,rfl,by rw[A];exact (po AA).symm.trans r,AA,rfl⟩
 intro ag L;conv=>cbv
 refine .inr ?_;cases ag <;> conv=>cbv
 ·have ad:=HC L;intro K G;have F:K=(ByteArray.size s:Nat):=G.eq;refine Ak ?_;intro al H;have d:=u.trans (Yj AA (of_decide_eq_true h.symm));rw[fJ J l r AA] at d;rw[RK,if_neg AA] at d;exact AM ⟨⟨rfl,congrArg _ (congrArg Prod.fst d),trivial⟩,⟨rfl,congrArg _ ((congrArg Prod.snd d).trans (by rw[H,F])),trivial⟩,trivial⟩
 have ad:=HD L;intro ah a6;have aw:ah=(ByteArray.size s:Nat):=a6.eq;refine Ak ?_;intro ai az;refine Dx ?_;intro aP an;conv=>cbv
 refine F7 ?_;intro ar N;refine⟨rfl,?_⟩;intro aM o;conv=>cbv
 refine⟨fun _=>by rw[o,show (⟨#[46]⟩:ByteArray).size=1 from rfl,ByteArray.size_extract];omega,?_⟩;intro aN C;conv=>cbv
 intro aj a7;have ax:aj=(ByteArray.size s:Nat):=a7.eq;refine Ak ?_;intro ak aA;refine Dx ?_;intro aQ T;conv=>cbv
 refine F7 ?_;rintro ao au ⟨M,O⟩;refine⟨rfl,?_⟩;intro aO D;conv=>cbv
 refine⟨fun _=>by rw[C,o,D,ByteArray.size_append,show (⟨#[46]⟩:ByteArray).size=1 from rfl,ByteArray.size_extract,ByteArray.size_extract];omega,?_⟩;intro Y S;conv=>cbv
 refine g2 rfl ?_;intro K G;have F:K=(ByteArray.size Y:Nat):=G.eq;refine Ak ?_;intro al H;have d:=u.trans (Yj AA (of_decide_eq_true h.symm));rw[fJ J l r AA] at d;have e9:Y=(s.extract 0 (s.size-g)++⟨#[46]⟩)++s.extract (s.size-g) s.size:=by rw[S,C,o,D,N,M,O,T,(AA:ai.toNat=s.size-g),(AA:ak.toNat=s.size-g)]
 rw[RK,if_pos AA,<-e9] at d;exact AM ⟨⟨rfl,congrArg _ (congrArg Prod.fst d),trivial⟩,⟨rfl,congrArg _ ((congrArg Prod.snd d).trans (by rw[H,F])),trivial⟩,trivial⟩
end
section
noncomputable def MG (x:el AL):ByteArray:=Classical.choose (Yk x.1.1 x.1.2 x.2.1 x.2.2)
theorem Yl (x:el AL):∃c,O8 x.1.1 x.1.2 x.2.1 x.2.2 (MG x) c:=Classical.choose_spec (Yk x.1.1 x.1.2 x.2.1 x.2.2)
noncomputable def LG (x:el AL):Bool:=Classical.choose (Yl x)
theorem QC (x:el AL):O8 x.1.1 x.1.2 x.2.1 x.2.2 (MG x) (LG x):=Classical.choose_spec (Yl x)
def Ez (s:ByteArray):Bool:=s.toList==(⟨#[]⟩:ByteArray).toList
def Bf (v:el AL):Bool:=((!v.1.1&& !v.2.1)&&((v.1.2.length:Int)==0))&&((v.2.2.length:Int)==0)
def sh (o:Int) (z d m nb:Bool) (l:Int):Bool:=
 if o=1 then (d&&(m||nb))&&(l==0) else if o=2 then (z&&nb)&&(l==0) else if o=3 then (z&&m)&&(l==1)
 else if o=4\/o=5\/o=6\/o=7 then (z&&m)&&(l==2) else false
noncomputable def Oo (e:Ex):Bool:=sh e.op (Bf e.v) (LG e.v) (Ez e.name) (IY e.name) (e.args.length:Nat)
mutual
noncomputable def JZ:Ex->Bool
 | .mk o v s l=>Oo (.mk o v s l)&&Ja l
noncomputable def Ja:List Ex->Bool
 | []=>true
 | x::r=>JZ x&&Ja r
end
mutual
def Gw:Ex->Int
 | .mk _ _ _ l=>HB 0 l+1
def HB:Int->List Ex->Int
 | n,[]=>n
 | n,x::r=>HB (if Gw x>n then Gw x else n) r
end
theorem mf (e:Ex):JZ e=(Oo e&&Ja e.args):=by cases e;rfl
theorem Yn (e:Ex):Gw e=HB 0 e.args+1:=by cases e;rfl
theorem ZM {l:List Ex} {i:Nat} {x:Ex} (h:l[i]? =some x):Ja (l.drop i)=(JZ x&&Ja (l.drop (i+1))):=by
 have a:=Dh h;rw[List.drop_eq_getElem_cons a,Ja];rw[List.getElem?_eq_getElem a] at h;rw[Option.some.inj h]
theorem lS {l:List Ex} {i:Nat} {x:Ex} {n:Int} (h:l[i]? =some x):HB n (l.drop i)=HB (if Gw x>n then Gw x else n) (l.drop (i+1)):=by
 have a:=Dh h;rw[List.drop_eq_getElem_cons a,HB];rw[List.getElem?_eq_getElem a] at h;rw[Option.some.inj h]
theorem Ym {N:Int}:∀(l:List Ex) (n:Int),0<=n->n<=N->(∀x∈l,0<=Gw x/\Gw x<=N)->0<=HB n l/\HB n l<=N
 | [],n,a,b,_=>⟨a,b⟩
 | x::r,n,a,b,h=>by
  rw[HB];have:=h x List.mem_cons_self;exact Ym r _ (by split <;> omega) (by split <;> omega) fun y d=>h y (List.mem_cons_of_mem _ d)
theorem lT {N:Nat} {e:Ex} (h:Gb N e):0<=Gw e/\Gw e<=N:=by
 induction h with
 | mk N y b d h3 f g a=>
  rw[Yn];have:=Ym (N:=N) y.args 0 AA AA a;omega
theorem Gb.lens {N:Nat} {e:Ex} (h:Gb N e):e.v.1.2.length<=N/\e.v.2.2.length<=N/\e.args.length<=N:=by
 cases h with
 | mk N y a b h3 d f=>exact⟨a,b,d⟩
theorem sn {o:Int} {a b:Bool} {l m:List UInt32} {s:ByteArray} {r:List Ex} {c:Bool} (s1:l.length<=1048580) (s2:m.length<=1048580) (G:c=Oo (.mk o ((a,l),(b,m)) s r)):CF 211 [.agg [.int .i64 o,.bool a,.sl .u32 l,.bool b,.sl .u32 m,.str s,.sl .ex r]] (.one (.bool c)):=by
 have G:c=sh o (Bf ((a,l),(b,m))) (LG ((a,l),(b,m))) (Ez s) (IY s) ((r.length:Nat):Int):=G;refine AN Tryz.func211 fun E hE=>?_
 intro aq f;cases aq <;> conv=>cbv
 ·have al:=HN f;refine .inr ?_;refine BV (fun d=>?_) fun d=>?_
  ·obtain⟨X,A⟩:=xB (LG ((a,l),(b,m)));obtain⟨ae,U⟩:∃z:ByteArray,z=MG ((a,l),(b,m)):=⟨_,rfl⟩
   refine AB hE (O9 s1 s2 (A ▸ U ▸ QC ((a,l),(b,m)))) ?_;cases X <;> conv=>cbv
   ·have g:Bf ((a,l),(b,m))=false:=by unfold Bf;rw[<-f];rfl
    exact AO (by rw[G,g,<-A];simp[sh,d])
   intro Z M;conv=>cbv
   cases Z <;> conv=>cbv
   ·obtain⟨Y,I⟩:=xB (IY s);refine AB hE (NP I) ?_;cases Y <;> conv=>cbv
    ·have g:Bf ((a,l),(b,m))=false:=by unfold Bf;rw[<-f];rfl
     exact AO (by rw[G,g,<-A,show Ez s=_ from M.symm,<-I];simp[sh,d])
    refine Ak ?_;rintro a1 ⟨L,f58⟩ a2 N;have g:Bf ((a,l),(b,m))=false:=by unfold Bf;rw[<-f];rfl
    exact AO (by rw[G,g,<-A,show Ez s=_ from M.symm,<-I,<-L];simp[sh,d,N])
   refine Ak ?_;rintro a1 ⟨L,f58⟩ a2 N;have g:Bf ((a,l),(b,m))=false:=by unfold Bf;rw[<-f];rfl
   exact AO (by rw[G,g,<-A,show Ez s=_ from M.symm,<-L];simp[sh,d,N])
  refine BV (fun j=>?_) fun j=>?_
  ·have g:Bf ((a,l),(b,m))=false:=by unfold Bf;rw[<-f];rfl
   exact AO (by rw[G,g];simp[sh,d,j])
  refine BV (fun t=>?_) fun t=>?_
  ·have g:Bf ((a,l),(b,m))=false:=by unfold Bf;rw[<-f];rfl
   exact AO (by rw[G,g];simp[sh,d,j,t])
  intro a5 Q;refine .inr ?_;cases a5 <;> conv=>cbv
  ·have C:=Bm Q;intro a6 R;conv=>cbv
   refine .inr ?_;cases a6 <;> conv=>cbv
   ·have F:=Bm R;intro a7 S;conv=>cbv
    refine .inr ?_;cases a7 <;> conv=>cbv
    ·have J:=Bm S;refine CU (fun K=>?_) fun K=>?_
     ·have g:Bf ((a,l),(b,m))=false:=by unfold Bf;rw[<-f];rfl
      exact AO (by rw[G,g];simp[sh,d,j,t,C,F,J,K])
     have g:Bf ((a,l),(b,m))=false:=by unfold Bf;rw[<-f];rfl
     exact AO (by rw[G,g];simp[sh,d,j,t,C,F,J,K])
    have J:=Bp S;have g:Bf ((a,l),(b,m))=false:=by unfold Bf;rw[<-f];rfl
    exact AO (by rw[G,g];simp[sh,d,j,t,C,F,J])
   have F:=Bp R;have g:Bf ((a,l),(b,m))=false:=by unfold Bf;rw[<-f];rfl
   exact AO (by rw[G,g];simp[sh,d,j,t,C,F])
  have C:=Bp Q;have g:Bf ((a,l),(b,m))=false:=by unfold Bf;rw[<-f];rfl
  exact AO (by rw[G,g];simp[sh,d,j,t,C])
 have al:=HO f;intro ar h;conv=>cbv
 cases ar <;> conv=>cbv
 ·have an:=HN h;refine .inr ?_;refine BV (fun d=>?_) fun d=>?_
  ·obtain⟨X,A⟩:=xB (LG ((a,l),(b,m)));obtain⟨ae,U⟩:∃z:ByteArray,z=MG ((a,l),(b,m)):=⟨_,rfl⟩
   refine AB hE (O9 s1 s2 (A ▸ U ▸ QC ((a,l),(b,m)))) ?_;cases X <;> conv=>cbv
   ·have g:Bf ((a,l),(b,m))=false:=by unfold Bf;rw[<-f,<-h];rfl
    exact AO (by rw[G,g,<-A];simp[sh,d])
   intro Z M;conv=>cbv
   cases Z <;> conv=>cbv
   ·obtain⟨Y,I⟩:=xB (IY s);refine AB hE (NP I) ?_;cases Y <;> conv=>cbv
    ·have g:Bf ((a,l),(b,m))=false:=by unfold Bf;rw[<-f,<-h];rfl
     exact AO (by rw[G,g,<-A,show Ez s=_ from M.symm,<-I];simp[sh,d])
    refine Ak ?_;rintro a1 ⟨L,f58⟩ a2 N;have g:Bf ((a,l),(b,m))=false:=by unfold Bf;rw[<-f,<-h];rfl
    exact AO (by rw[G,g,<-A,show Ez s=_ from M.symm,<-I,<-L];simp[sh,d,N])
   refine Ak ?_;rintro a1 ⟨L,f58⟩ a2 N;have g:Bf ((a,l),(b,m))=false:=by unfold Bf;rw[<-f,<-h];rfl
   exact AO (by rw[G,g,<-A,show Ez s=_ from M.symm,<-L];simp[sh,d,N])
  refine BV (fun j=>?_) fun j=>?_
  ·have g:Bf ((a,l),(b,m))=false:=by unfold Bf;rw[<-f,<-h];rfl
   exact AO (by rw[G,g];simp[sh,d,j])
  refine BV (fun t=>?_) fun t=>?_
  ·have g:Bf ((a,l),(b,m))=false:=by unfold Bf;rw[<-f,<-h];rfl
   exact AO (by rw[G,g];simp[sh,d,j,t])
  intro a5 Q;refine .inr ?_;cases a5 <;> conv=>cbv
  ·have C:=Bm Q;intro a6 R;conv=>cbv
   refine .inr ?_;cases a6 <;> conv=>cbv
   ·have F:=Bm R;intro a7 S;conv=>cbv
    refine .inr ?_;cases a7 <;> conv=>cbv
    ·have J:=Bm S;refine CU (fun K=>?_) fun K=>?_
     ·have g:Bf ((a,l),(b,m))=false:=by unfold Bf;rw[<-f,<-h];rfl
      exact AO (by rw[G,g];simp[sh,d,j,t,C,F,J,K])
     have g:Bf ((a,l),(b,m))=false:=by unfold Bf;rw[<-f,<-h];rfl
     exact AO (by rw[G,g];simp[sh,d,j,t,C,F,J,K])
    have J:=Bp S;have g:Bf ((a,l),(b,m))=false:=by unfold Bf;rw[<-f,<-h];rfl
    exact AO (by rw[G,g];simp[sh,d,j,t,C,F,J])
   have F:=Bp R;have g:Bf ((a,l),(b,m))=false:=by unfold Bf;rw[<-f,<-h];rfl
   exact AO (by rw[G,g];simp[sh,d,j,t,C,F])
  have C:=Bp Q;have g:Bf ((a,l),(b,m))=false:=by unfold Bf;rw[<-f,<-h];rfl
  exact AO (by rw[G,g];simp[sh,d,j,t,C])
 have an:=HO h;refine Ak ?_;rintro aw ⟨D,f23⟩ au u;cases au <;> conv=>cbv
 ·have ao:=Bm u;refine .inr ?_;refine BV (fun d=>?_) fun d=>?_
  ·obtain⟨X,A⟩:=xB (LG ((a,l),(b,m)));obtain⟨ae,U⟩:∃z:ByteArray,z=MG ((a,l),(b,m)):=⟨_,rfl⟩
   refine AB hE (O9 s1 s2 (A ▸ U ▸ QC ((a,l),(b,m)))) ?_;cases X <;> conv=>cbv
   ·have g:Bf ((a,l),(b,m))=false:=by unfold Bf;rw[<-f,<-h,<-D,<-u];rfl
    exact AO (by rw[G,g,<-A];simp[sh,d])
   intro Z M;conv=>cbv
   cases Z <;> conv=>cbv
   ·obtain⟨Y,I⟩:=xB (IY s);refine AB hE (NP I) ?_;cases Y <;> conv=>cbv
    ·have g:Bf ((a,l),(b,m))=false:=by unfold Bf;rw[<-f,<-h,<-D,<-u];rfl
     exact AO (by rw[G,g,<-A,show Ez s=_ from M.symm,<-I];simp[sh,d])
    refine Ak ?_;rintro a1 ⟨L,f58⟩ a2 N;have g:Bf ((a,l),(b,m))=false:=by unfold Bf;rw[<-f,<-h,<-D,<-u];rfl
    exact AO (by rw[G,g,<-A,show Ez s=_ from M.symm,<-I,<-L];simp[sh,d,N])
   refine Ak ?_;rintro a1 ⟨L,f58⟩ a2 N;have g:Bf ((a,l),(b,m))=false:=by unfold Bf;rw[<-f,<-h,<-D,<-u];rfl
   exact AO (by rw[G,g,<-A,show Ez s=_ from M.symm,<-L];simp[sh,d,N])
  refine BV (fun j=>?_) fun j=>?_
  ·have g:Bf ((a,l),(b,m))=false:=by unfold Bf;rw[<-f,<-h,<-D,<-u];rfl
   exact AO (by rw[G,g];simp[sh,d,j])
  refine BV (fun t=>?_) fun t=>?_
  ·have g:Bf ((a,l),(b,m))=false:=by unfold Bf;rw[<-f,<-h,<-D,<-u];rfl
   exact AO (by rw[G,g];simp[sh,d,j,t])
  intro a5 Q;refine .inr ?_;cases a5 <;> conv=>cbv
  ·have C:=Bm Q;intro a6 R;conv=>cbv
   refine .inr ?_;cases a6 <;> conv=>cbv
   ·have F:=Bm R;intro a7 S;conv=>cbv
    refine .inr ?_;cases a7 <;> conv=>cbv
    ·have J:=Bm S;refine CU (fun K=>?_) fun K=>?_
     ·have g:Bf ((a,l),(b,m))=false:=by unfold Bf;rw[<-f,<-h,<-D,<-u];rfl
      exact AO (by rw[G,g];simp[sh,d,j,t,C,F,J,K])
     have g:Bf ((a,l),(b,m))=false:=by unfold Bf;rw[<-f,<-h,<-D,<-u];rfl
     exact AO (by rw[G,g];simp[sh,d,j,t,C,F,J,K])
    have J:=Bp S;have g:Bf ((a,l),(b,m))=false:=by unfold Bf;rw[<-f,<-h,<-D,<-u];rfl
    exact AO (by rw[G,g];simp[sh,d,j,t,C,F,J])
   have F:=Bp R;have g:Bf ((a,l),(b,m))=false:=by unfold Bf;rw[<-f,<-h,<-D,<-u];rfl
   exact AO (by rw[G,g];simp[sh,d,j,t,C,F])
  have C:=Bp Q;have g:Bf ((a,l),(b,m))=false:=by unfold Bf;rw[<-f,<-h,<-D,<-u];rfl
  exact AO (by rw[G,g];simp[sh,d,j,t,C])
 have ao:=Bp u;refine Ak ?_;rintro ax ⟨H,f31⟩ W w;refine .inr ?_;refine BV (fun d=>?_) fun d=>?_
 ·obtain⟨X,A⟩:=xB (LG ((a,l),(b,m)));obtain⟨ae,U⟩:∃z:ByteArray,z=MG ((a,l),(b,m)):=⟨_,rfl⟩
  refine AB hE (O9 s1 s2 (A ▸ U ▸ QC ((a,l),(b,m)))) ?_;cases X <;> conv=>cbv
  ·have g:Bf ((a,l),(b,m))=W:=by unfold Bf;rw[<-f,<-h,<-D,<-u,<-H,<-w];rfl
   exact AO (by rw[G,g,<-A];simp[sh,d])
  intro Z M;conv=>cbv
  cases Z <;> conv=>cbv
  ·obtain⟨Y,I⟩:=xB (IY s);refine AB hE (NP I) ?_;cases Y <;> conv=>cbv
   ·have g:Bf ((a,l),(b,m))=W:=by unfold Bf;rw[<-f,<-h,<-D,<-u,<-H,<-w];rfl
    exact AO (by rw[G,g,<-A,show Ez s=_ from M.symm,<-I];simp[sh,d])
   refine Ak ?_;rintro a1 ⟨L,f58⟩ a2 N;have g:Bf ((a,l),(b,m))=W:=by unfold Bf;rw[<-f,<-h,<-D,<-u,<-H,<-w];rfl
   exact AO (by rw[G,g,<-A,show Ez s=_ from M.symm,<-I,<-L];simp[sh,d,N])
  refine Ak ?_;rintro a1 ⟨L,f58⟩ a2 N;have g:Bf ((a,l),(b,m))=W:=by unfold Bf;rw[<-f,<-h,<-D,<-u,<-H,<-w];rfl
  exact AO (by rw[G,g,<-A,show Ez s=_ from M.symm,<-L];simp[sh,d,N])
 refine BV (fun j=>?_) fun j=>?_
 ·cases W <;> conv=>cbv
  ·have V:=Bm w;have g:Bf ((a,l),(b,m))=false:=by unfold Bf;rw[<-f,<-h,<-D,<-u,<-H,<-w];rfl
   exact AO (by rw[G,g];simp[sh,d,j])
  have V:=Bp w;obtain⟨ag,aa⟩:=xB (IY s);refine AB hE (NP aa) ?_;cases ag <;> conv=>cbv
  ·have g:Bf ((a,l),(b,m))=true:=by unfold Bf;rw[<-f,<-h,<-D,<-u,<-H,<-w];rfl
   exact AO (by rw[G,g,<-aa];simp[sh,d,j])
  refine Ak ?_;rintro ay ⟨ah,f72⟩ az aj;have g:Bf ((a,l),(b,m))=true:=by unfold Bf;rw[<-f,<-h,<-D,<-u,<-H,<-w];rfl
  exact AO (by rw[G,g,<-aa,<-ah];simp[sh,d,j,aj])
 refine BV (fun t=>?_) fun t=>?_
 ·cases W <;> conv=>cbv
  ·have V:=Bm w;have g:Bf ((a,l),(b,m))=false:=by unfold Bf;rw[<-f,<-h,<-D,<-u,<-H,<-w];rfl
   exact AO (by rw[G,g];simp[sh,d,j,t])
  have V:=Bp w;intro av af;conv=>cbv
  cases av <;> conv=>cbv
  ·have g:Bf ((a,l),(b,m))=true:=by unfold Bf;rw[<-f,<-h,<-D,<-u,<-H,<-w];rfl
   exact AO (by rw[G,g,show Ez s=_ from af.symm];simp[sh,d,j,t])
  refine Ak ?_;rintro aA ⟨ai,f86⟩ aB ak;have g:Bf ((a,l),(b,m))=true:=by unfold Bf;rw[<-f,<-h,<-D,<-u,<-H,<-w];rfl
  exact AO (by rw[G,g,show Ez s=_ from af.symm,<-ai];simp[sh,d,j,t,ak])
 intro a5 Q;refine .inr ?_;cases a5 <;> conv=>cbv
 ·have C:=Bm Q;intro a6 R;conv=>cbv
  refine .inr ?_;cases a6 <;> conv=>cbv
  ·have F:=Bm R;intro a7 S;conv=>cbv
   refine .inr ?_;cases a7 <;> conv=>cbv
   ·have J:=Bm S;refine CU (fun K=>?_) fun K=>?_
    ·have g:Bf ((a,l),(b,m))=W:=by unfold Bf;rw[<-f,<-h,<-D,<-u,<-H,<-w];rfl
     exact AO (by rw[G,g];simp[sh,d,j,t,C,F,J,K])
    cases W <;> conv=>cbv
    ·have V:=Bm w;have g:Bf ((a,l),(b,m))=false:=by unfold Bf;rw[<-f,<-h,<-D,<-u,<-H,<-w];rfl
     exact AO (by rw[G,g];simp[sh,d,j,t,C,F,J,K])
    have V:=Bp w;intro a8 T;conv=>cbv
    cases a8 <;> conv=>cbv
    ·have g:Bf ((a,l),(b,m))=true:=by unfold Bf;rw[<-f,<-h,<-D,<-u,<-H,<-w];rfl
     exact AO (by rw[G,g,show Ez s=_ from T.symm];simp[sh,d,j,t,C,F,J,K])
    refine Ak ?_;rintro ab ⟨O,f103⟩ ad P;have g:Bf ((a,l),(b,m))=true:=by unfold Bf;rw[<-f,<-h,<-D,<-u,<-H,<-w];rfl
    exact AO (by rw[G,g,show Ez s=_ from T.symm,<-O];simp[sh,d,j,t,C,F,J,K,P])
   have J:=Bp S;cases W <;> conv=>cbv
   ·have V:=Bm w;have g:Bf ((a,l),(b,m))=false:=by unfold Bf;rw[<-f,<-h,<-D,<-u,<-H,<-w];rfl
    exact AO (by rw[G,g];simp[sh,d,j,t,C,F,J])
   have V:=Bp w;intro a8 T;conv=>cbv
   cases a8 <;> conv=>cbv
   ·have g:Bf ((a,l),(b,m))=true:=by unfold Bf;rw[<-f,<-h,<-D,<-u,<-H,<-w];rfl
    exact AO (by rw[G,g,show Ez s=_ from T.symm];simp[sh,d,j,t,C,F,J])
   refine Ak ?_;rintro ab ⟨O,f103⟩ ad P;have g:Bf ((a,l),(b,m))=true:=by unfold Bf;rw[<-f,<-h,<-D,<-u,<-H,<-w];rfl
   exact AO (by rw[G,g,show Ez s=_ from T.symm,<-O];simp[sh,d,j,t,C,F,J,P])
  have F:=Bp R;cases W <;> conv=>cbv
  ·have V:=Bm w;have g:Bf ((a,l),(b,m))=false:=by unfold Bf;rw[<-f,<-h,<-D,<-u,<-H,<-w];rfl
   exact AO (by rw[G,g];simp[sh,d,j,t,C,F])
  have V:=Bp w;intro a8 T;conv=>cbv
  cases a8 <;> conv=>cbv
  ·have g:Bf ((a,l),(b,m))=true:=by unfold Bf;rw[<-f,<-h,<-D,<-u,<-H,<-w];rfl
   exact AO (by rw[G,g,show Ez s=_ from T.symm];simp[sh,d,j,t,C,F])
  refine Ak ?_;rintro ab ⟨O,f103⟩ ad P;have g:Bf ((a,l),(b,m))=true:=by unfold Bf;rw[<-f,<-h,<-D,<-u,<-H,<-w];rfl
  exact AO (by rw[G,g,show Ez s=_ from T.symm,<-O];simp[sh,d,j,t,C,F,P])
 have C:=Bp Q;cases W <;> conv=>cbv
 ·have V:=Bm w;have g:Bf ((a,l),(b,m))=false:=by unfold Bf;rw[<-f,<-h,<-D,<-u,<-H,<-w];rfl
  exact AO (by rw[G,g];simp[sh,d,j,t,C])
 have V:=Bp w;intro a8 T;conv=>cbv
 cases a8 <;> conv=>cbv
 ·have g:Bf ((a,l),(b,m))=true:=by unfold Bf;rw[<-f,<-h,<-D,<-u,<-H,<-w];rfl
  exact AO (by rw[G,g,show Ez s=_ from T.symm];simp[sh,d,j,t,C])
 refine Ak ?_;rintro ab ⟨O,f103⟩ ad P;have g:Bf ((a,l),(b,m))=true:=by unfold Bf;rw[<-f,<-h,<-D,<-u,<-H,<-w];rfl
 exact AO (by rw[G,g,show Ez s=_ from T.symm,<-O];simp[sh,d,j,t,C,P])
theorem gQ {o:Int} {a b:Bool} {l m:List UInt32} {s:ByteArray} {r:List Ex} {c:Bool} {N:Nat} (hN:N<=1048576) (W:Gb N (.mk o ((a,l),(b,m)) s r)) (X:∀z∈r,∀c,c=JZ z->CF 140 [.agg (cells .ex z)] (.one (.bool c))) (j:c=JZ (.mk o ((a,l),(b,m)) s r)):CF 140 [.agg [.int .i64 o,.bool a,.sl .u32 l,.bool b,.sl .u32 m,.str s,.sl .ex r]] (.one (.bool c)):=by
 obtain⟨O,P,q3⟩:=W.lens;have O:l.length<=N:=O;have P:m.length<=N:=P;have j:c=(Oo (.mk o ((a,l),(b,m)) s r)&&Ja r):=j.trans (mf _);refine AN Tryz.func140 fun E M=>?_
 obtain⟨b5,g⟩:=xB (Oo (.mk o ((a,l),(b,m)) s r));refine AB M (sn AA AA g) ?_;refine HT (fun C=>?_) fun C=>?_
 ·exact AO (by rw[j,<-g,C];rfl)
 refine Bc [] [1,3] [1] (fun vs L k=>∃(i':Nat) (i:Int),vs=[.one (.BX 1 0 0),AD i]/\L=[.var 0 [.int .i64 o,.bool a,.sl .u32 l,.bool b,.sl .u32 m,.str s,.sl .ex r]]/\(Ah i i'/\i'<=r.length)/\c=Ja (r.drop i')/\k=r.length-i') (r.length-0) ⟨0,0,rfl,rfl,⟨BJ 0,AA⟩,by rw[j,<-g,C];rfl,rfl⟩ ?_;rintro J0 w vs L Y ⟨i',i,rfl,rfl,⟨T,U⟩,hinv,V⟩;have ei:=T.eq;refine Ak ?_;rintro Z ⟨R,f10⟩;refine Bt (fun A=>?_) fun A=>?_
 ·exact AO (by rw[hinv,List.drop_eq_nil_of_le AA,Ja])
 refine .inr ?_;refine BH i' fun K f=>?_
 try conv=>cbv
 obtain⟨H,⟨⟨t,D⟩,⟨u,F⟩⟩,J,I⟩:=K;obtain⟨Q,d⟩:=xB (JZ (.mk H ((t,D),(u,F)) J I));refine AB M (X _ (List.mem_of_getElem? f) _ d) ?_;refine HT (fun h=>?_) fun h=>?_
 ·exact AO (by rw[hinv,ZM f,<-d,h];rfl)
 intro G S;exact Bz w ⟨i'+1,G,rfl,rfl,⟨⟨AA⟩,AA⟩,by rw[hinv,ZM f,<-d,h];rfl,rfl⟩
theorem gP {N:Nat} {e:Ex} (h:Gb N e):N<=1048576->∀c,c=JZ e->CF 140 [.agg (cells .ex e)] (.one (.bool c)):=by
 induction h with
 | mk N y d f h3 g j C=>
  intro t c u;have w:Gb (N+1) y:= .mk N y d f h3 g j;obtain⟨o,⟨⟨a,l⟩,⟨b,m⟩⟩,s,r⟩:=y;exact gQ t w (fun z A=>C z A AA) u
theorem gL {o:Int} {a b:Bool} {l m:List UInt32} {s:ByteArray} {r:List Ex} {c:Int} {N:Nat} (hN:N<=1048576) (S:Gb N (.mk o ((a,l),(b,m)) s r)) (T:∀z∈r,CF 141 [.agg (cells .ex z)] (AD (Gw z))) (M:c=Gw (.mk o ((a,l),(b,m)) s r)):CF 141 [.agg [.int .i64 o,.bool a,.sl .u32 l,.bool b,.sl .u32 m,.str s,.sl .ex r]] (AD c):=by
 obtain⟨d1,d2⟩:=lT S;have O:c=HB 0 r+1:=M.trans (Yn _);refine AN Tryz.func141 fun E L=>?_
 refine Bc [] [1,3,4] [1] (fun vs I k=>∃(i':Nat) (i n:Int),vs=[.one (.BX 1 0 0),AD n,AD i]/\I=[.var 0 [.int .i64 o,.bool a,.sl .u32 l,.bool b,.sl .u32 m,.str s,.sl .ex r]]/\(Ah i i'/\i'<=r.length)/\HB 0 r=HB n (r.drop i')/\k=r.length-i') (r.length-0) ⟨0,0,0,rfl,rfl,⟨BJ 0,AA⟩,rfl,rfl⟩ ?_;rintro Y t vs I V ⟨i',i,n,rfl,rfl,⟨P,Q⟩,hinv,R⟩;have ei:=P.eq;refine Ak ?_;rintro n8 ⟨Z,f8⟩;refine Bt (fun U=>?_) fun U=>?_
 ·intro W K;refine⟨fun _=>by unfold Ew;rw[List.drop_eq_nil_of_le AA,HB] at hinv;omega,?_⟩;rw[List.drop_eq_nil_of_le AA,HB] at hinv;exact AO AA
 refine .inr ?_;refine BH i' fun H f=>?_
 try conv=>cbv
 obtain⟨D,⟨⟨g,u⟩,⟨h,w⟩⟩,G,F⟩:=H;obtain⟨X,d⟩:=xI (Gw (.mk D ((g,u),(h,w)) G F));refine AB L (d ▸ T _ (List.mem_of_getElem? f)) ?_;intro C j A J;exact Bz t ⟨i'+1,A,C,rfl,rfl,⟨⟨AA⟩,AA⟩,by rw[hinv,lS f,<-d,<-j],rfl⟩
theorem gK {N:Nat} {e:Ex} (h:Gb N e):N<=1048576->CF 141 [.agg (cells .ex e)] (AD (Gw e)):=by
 induction h with
 | mk N y d f h3 g j A=>
  intro t;have u:Gb (N+1) y:= .mk N y d f h3 g j;obtain⟨o,⟨⟨a,l⟩,⟨b,m⟩⟩,s,r⟩:=y;exact gL t u (fun z w=>A z w AA) rfl
noncomputable def HS (e:Ex):Int:=if JZ e=true then (if Gw e>40 then 3 else 0) else 1
theorem iG {o:Int} {a b:Bool} {l m:List UInt32} {s:ByteArray} {r:List Ex} {c:Int} {N:Nat} (u:N<=1048576) (w:Gb N (.mk o ((a,l),(b,m)) s r)) (h:c=HS (.mk o ((a,l),(b,m)) s r)):CF 64 [.agg [.int .i64 o,.bool a,.sl .u32 l,.bool b,.sl .u32 m,.str s,.sl .ex r]] (AD c):=by
 refine AN Tryz.func64 fun E t=>?_
 obtain⟨A,d⟩:=xB (JZ (.mk o ((a,l),(b,m)) s r));refine AB t (gP w u _ d) ?_;refine HT (fun g=>?_) fun g=>?_
 ·exact AO (by rw[h,HS,<-d,if_neg (by rw[g];decide)])
 obtain⟨z,f⟩:=xI (Gw (.mk o ((a,l),(b,m)) s r));refine AB (r:= .one (.int .i64 z)) t (by rw[f];exact gK w u) ?_;refine Fw (fun j=>?_) fun j=>?_
 ·exact AO (by rw[h,HS,<-d,if_pos g,<-f,if_neg (Int.not_lt.2 j)])
 exact AO (by rw[h,HS,<-d,if_pos g,<-f,if_pos j])
end
end Go.Abs
