/- Part 29 of a proof. Conditions: each theorem's own. -/
import Derived.Test.YtclgfoceefhnkaaGreatDoorLn24
set_option linter.all false
set_option maxHeartbeats 80000000
set_option maxRecDepth 20000
open Go.Proofs
namespace Go.Abs
section
open Go.RowKit
def Gd (n:Int):Bool:=(decide (n >= 97)&&decide (n<=122))||(decide (n >= 65)&&decide (n<=90))
def Ku (n:Int):Bool:=decide (n >= 48)&&decide (n<=57)
def JZ (n:Int):Bool:=Gd n||(Ku n||decide (n=95))
def HY (s:ByteArray):Nat->Nat->Nat
 | 0,i=>i
 | k+1,i=>match s.data[i]? with
  | some b=>if JZ (b.toNat:Nat)=true then HY s k (i+1) else i
  | none=>i
def H4 (s:ByteArray):Nat:=match s.data[0]? with
 | some b=>if Gd (b.toNat:Nat)=true then HY s s.size 0 else 0
 | none=>0
def HQ (s:ByteArray):Bool:= !(s.toList==(⟨#[]⟩:ByteArray).toList)&&(decide ((s.size:Int)<=24)&&(((H4 s:Nat):Int)==(s.size:Int)))
variable {i k:Nat} {n:Int}
theorem py {s:ByteArray} (h:s.size=0):H4 s=0:=by
 have:s.data[0]? =none:=Array.getElem?_eq_none (by have:s.data.size=s.size:=rfl;omega);unfold H4;rw[this]
theorem pz {s:ByteArray} {b:UInt8} (h:s.data[0]? =some b) (d:n=b.toNat) (a:false=Gd n):H4 s=0:=by
 unfold H4;rw[h];simp only;rw[<-d,<-a];rfl
theorem p4 {s:ByteArray} {b:UInt8} (h:s.data[0]? =some b) (d:n=b.toNat) (a:true=Gd n):H4 s=HY s s.size 0:=by
 unfold H4;rw[h];simp only;rw[<-d,<-a];rfl
theorem pv {s:ByteArray} (h:¬i<s.size):HY s k i=i:=by
 cases k with
 | zero=>rfl
 | succ k=>rw[HY,Array.getElem?_eq_none (by have:s.data.size=s.size:=rfl;omega)]
theorem pw {s:ByteArray} {b:UInt8} (h:s.data[i]? =some b) (a:n=b.toNat) (hw:JZ n=false):HY s k i=i:=by
 cases k with
 | zero=>rfl
 | succ k=>rw[HY,h];simp only;rw[<-a,hw];rfl
theorem UM {s:ByteArray} {b:UInt8} (f:i+k=s.size) (h:s.data[i]? =some b) (a:n=b.toNat) (hw:JZ n=true):HY s k i=HY s (s.size-(i+1)) (i+1):=by
 have d:=(Array.getElem?_eq_some_iff.1 h).1;have:s.data.size=s.size:=rfl;obtain⟨k,rfl⟩:∃j,k=j+1:=⟨k-1,by omega⟩
 rw[HY,h];simp only;rw[<-a,hw,show s.size-(i+1)=k by omega];rfl
theorem WN {s:ByteArray} {j:Nat} {x y:UInt8} (a:s.data[i]? =some x) (b:s.data[j]? =some y) (e:i=j):x=y:=by subst e;exact Option.some.inj (a.symm.trans b)
theorem p9 {s:ByteArray} {x y z:UInt8} {m k:Int} (d:s.data[i]? =some x) (h:s.data[i]? =some y) (h3:s.data[i]? =some z) (e1:n=x.toNat) (f:m=y.toNat) (g:k=z.toNat) (a:false=Gd n) (b:false=Ku m) (c:k≠95):JZ n=false:=by
 obtain rfl:=WN d h rfl;obtain rfl:=WN d h3 rfl;obtain rfl:n=m:=e1.trans f.symm;obtain rfl:n=k:=e1.trans g.symm;unfold JZ;rw[<-a,<-b,decide_eq_false c];rfl
theorem YG {c:Bool} (j:c=Gd n):CF 387 [.one (.int .u8 n)] (.one (.bool c)):=by
 refine AG Tryz.func387 fun E s=>?_
 intro n4 d;cases n4 <;> conv=>cbv
 ·have m:=K8 d;intro g a;conv=>cbv
  cases g <;> conv=>cbv
  ·have f:=K8 a;exact AF (by rw[j];unfold Gd;(try rw[<-d]);(try rw[<-a]);rfl)
  have f:=LA a;intro l b;conv=>cbv
  exact AF (by rw[j];unfold Gd;(try rw[<-d]);(try rw[<-a]);(try rw[<-b]);rfl)
 have m:=LA d;intro r h;conv=>cbv
 cases r <;> conv=>cbv
 ·have o:=Mz h;intro g a;conv=>cbv
  cases g <;> conv=>cbv
  ·have f:=K8 a;exact AF (by rw[j];unfold Gd;(try rw[<-d]);(try rw[<-h]);(try rw[<-a]);rfl)
  have f:=LA a;intro l b;conv=>cbv
  exact AF (by rw[j];unfold Gd;(try rw[<-d]);(try rw[<-h]);(try rw[<-a]);(try rw[<-b]);rfl)
 have o:=M0 h;exact AF (by rw[j];unfold Gd;(try rw[<-d]);(try rw[<-h]);rfl)
theorem iv {c:Bool} (b:c=Ku n):CF 388 [.one (.int .u8 n)] (.one (.bool c)):=by
 refine AG Tryz.func388 fun E g=>?_
 intro n4 a;cases n4 <;> conv=>cbv
 ·have f:=K8 a;exact AF (by rw[b];unfold Ku;(try rw[<-a]);rfl)
 have f:=LA a;intro h d;conv=>cbv
 exact AF (by rw[b];unfold Ku;(try rw[<-a]);(try rw[<-d]);rfl)
theorem Jn {s:ByteArray} {b:UInt8} (h:s.data[n.toNat]? =some b) (e:n.toNat=i):s.data[i]? =some b:=e ▸ h
theorem p5 {s:ByteArray} {c:Int} (hs:s.size<=1048576) (M:c=(H4 s:Nat)):CF 363 [.one (.str s),.one (.int .i64 0)] (.one (.int .i64 c)):=by
 refine Gs Tryz.func363 fun E Q=>?_
 conv=>cbv
 intro n7 h7;have e7:n7=(ByteArray.size s:Nat):=h7.eq;conv=>cbv
 intro n8 h8;conv=>cbv
 cases n8 <;> conv=>cbv
 ·have k8:=Bp h8;obtain⟨Y,h⟩:=P8 (z:=s) (n:=0) (by show (0:Int).toNat<_;omega);refine⟨Y,fun _=>⟨by omega,h⟩,?_⟩;intro S C;have u:=C.eq;have f12:=C.lt;conv=>cbv
  obtain⟨a5,d⟩:=xB (Gd S);refine BP Q (YG d) ?_;conv=>cbv
  intro T D;conv=>cbv
  cases T <;> conv=>cbv
  ·have r:=GD D;refine .inr ?_;obtain⟨J0,b⟩:=xJ fun vs bl k=>∃(i':Nat) (i:Int),vs=[.one (.str s),.one (.int .i64 i)]/\(AO i i'/\i'<=s.size)/\H4 s=HY s (s.size-i') i'/\k=s.size-i'
   refine⟨[],[0,1],[],J0,⟨s.size-0,by rw[b];exact⟨0,0,rfl,⟨BD 0,Nat.zero_le _⟩,p4 h u (r.symm.trans d),rfl⟩⟩,?_⟩;intro vs bl aa hj;rw[b] at hj;obtain⟨i',i,rfl,⟨hi,a7⟩,hinv,a8⟩:=hj;conv=>cbv
   have ei:=hi.eq;intro U P;have a6:U=(ByteArray.size s:Nat):=P.eq;conv=>cbv
   intro V F;conv=>cbv
   cases V <;> conv=>cbv
   ·have R:=Dw F;exact AE ⟨⟨rfl,congrArg _ (by rw[M,hinv,pv (by omega)];omega),trivial⟩,trivial⟩
   have R:=Dx F;obtain⟨Z,a⟩:=P8 (z:=s) (n:=i) (by omega);refine⟨Z,fun _=>⟨by omega,a⟩,?_⟩;intro L G;have o:=G.eq;have f24:=G.lt;conv=>cbv
   obtain⟨N,f⟩:=xB (Gd L);refine BP Q (YG f) ?_;conv=>cbv
   cases N <;> conv=>cbv
   ·obtain⟨a1,j⟩:=P8 (z:=s) (n:=i) (by omega);refine⟨a1,fun _=>⟨by omega,j⟩,?_⟩;intro W H;have w:=H.eq;have f29:=H.lt;conv=>cbv
    obtain⟨O,g⟩:=xB (Ku W);refine BP Q (iv g) ?_;conv=>cbv
    cases O <;> conv=>cbv
    ·obtain⟨a2,l⟩:=P8 (z:=s) (n:=i) (by omega);refine⟨a2,fun _=>⟨by omega,l⟩,?_⟩;intro ab I;have A:=I.eq;have f35:=I.lt;conv=>cbv
     intro X J;conv=>cbv
     cases X <;> conv=>cbv
     ·have t:=Bp J;exact AE ⟨⟨rfl,congrArg _ (by rw[M,hinv,pw (n:=L) (Jn a (by omega)) o (p9 (Jn a rfl) (Jn j rfl) (Jn l rfl) o w A f g t)];omega),trivial⟩,trivial⟩
     have t:=Br J;refine .inr ?_;intro m K;conv=>cbv
     refine DH ?_;refine⟨s.size-(i'+1),?_,?_⟩
     ·omega
     rw[b];exact⟨i'+1,m,rfl,⟨⟨by omega⟩,by omega⟩,hinv.trans (UM (by omega) (Jn l (by omega)) A (by unfold JZ;rw[decide_eq_true t];simp)),rfl⟩
    refine .inr ?_;intro m K;conv=>cbv
    refine DH ?_;refine⟨s.size-(i'+1),?_,?_⟩
    ·omega
    rw[b];exact⟨i'+1,m,rfl,⟨⟨by omega⟩,by omega⟩,hinv.trans (UM (by omega) (Jn j (by omega)) w (by unfold JZ;rw[<-g];simp)),rfl⟩
   refine .inr ?_;intro m K;conv=>cbv
   refine DH ?_;refine⟨s.size-(i'+1),?_,?_⟩
   ·omega
   rw[b];exact⟨i'+1,m,rfl,⟨⟨by omega⟩,by omega⟩,hinv.trans (UM (by omega) (Jn a (by omega)) o (by unfold JZ;rw[<-f];rfl)),rfl⟩
  have r:=GF D;exact AE ⟨⟨rfl,congrArg _ (by rw[M,pz h u (r.symm.trans d)];rfl),trivial⟩,trivial⟩
 have k8:=Br h8;exact AE ⟨⟨rfl,congrArg _ (by rw[M,py (by omega)];rfl),trivial⟩,trivial⟩
theorem L4 {s:ByteArray} {c:Bool} (j:c=HQ s):CF 321 [.one (.str s)] (.one (.bool c)):=by
 refine AG Tryz.func321 fun E t=>?_
 intro n4 h;cases n4 <;> conv=>cbv
 ·exact AF (by rw[j];unfold HQ;rw[<-h];rfl)
 intro l r;have m:l=(ByteArray.size s:Nat):=r.eq;refine AS ?_;intro z d;cases z <;> conv=>cbv
 ·have u:=Mz d;exact AF (by rw[j];unfold HQ;rw[<-h,<-m,<-d];rfl)
 have u:=M0 d;obtain⟨A,a⟩:=xI ((H4 s:Nat));refine AB t (p5 (by omega) a) ?_;intro b f;have o:b=(ByteArray.size s:Nat):=f.eq;refine AS ?_;intro w g;exact AF (by rw[j];unfold HQ;rw[<-h,show (s.size:Int)=l from m.symm,<-d,<-a,show l=b by omega,<-g];rfl)
end
section
open Go.RowKit
def ED:Nat->Nat->ByteArray->ByteArray
 | 0,_,s=>s
 | k+1,v,s=>if v=0 then s else ED k (v/10) (ByteArray.mk [UInt8.ofNat (48+v%10)].toArray++s)
variable {B k v:Nat} {c:Bool} {n x y:Int} {p q:Rat}
theorem XU:∀(k k' v:Nat) (s:ByteArray),v<=k->v<=k'->ED k v s=ED k' v s
 | 0,0,_,_,_,_=>rfl
 |0,k'+1,v,s,h,_|k+1,0,v,s,_,h=>by rw[ED,ED,if_pos (by omega)]
 | k+1,k'+1,v,s,h,h'=>by
  rw[ED,ED]
  split
  ·rfl
  exact XU k k' _ _ (by omega) (by omega)
theorem jW {s:ByteArray} (h:v≠0):ED v v s=ED (v/10) (v/10) (ByteArray.mk [UInt8.ofNat (48+v%10)].toArray++s):=by
 obtain⟨k,rfl⟩:∃k,v=k+1:=⟨v-1,by omega⟩
 rw[ED,if_neg h];exact XU _ _ _ _ (by omega) (Nat.le_refl _)
structure Fz (B v:Nat) (s:ByteArray):Prop where
 sz:s.size<=B+1
 lo:v≠0->v*2^s.size<=2^B
theorem aV (b:UInt8) (s:ByteArray):(ByteArray.mk [b].toArray++s).size=s.size+1:=by
 rw[ByteArray.size_append];have:(ByteArray.mk [b].toArray).size=1:=rfl;omega
theorem Fz.lt {s:ByteArray} (h:Fz B v s) (d:v≠0):s.size<=B:=by
 have a:=h.lo d;have b:2^s.size<=v*2^s.size:=Nat.le_mul_of_pos_left _ (by omega);exact (Nat.pow_le_pow_iff_right (by decide:1<2)).1 (Nat.le_trans b a)
theorem Fz.step {s:ByteArray} (h:Fz B v s) (a:v≠0) (b:UInt8):Fz B (v/10) (ByteArray.mk [b].toArray++s):=by
 have f:=h.lt a;refine⟨by rw[aV];omega,fun g=>?_⟩;rw[aV,Nat.pow_succ];have h3:=h.lo a;have d:v/10*2<=v:=by omega
 have j:=Nat.mul_le_mul_right (2^s.size) d;have e:v/10*(2^s.size*2)=v/10*2*2^s.size:=by grind
 omega
theorem Fz.init (h:v<=2^B):Fz B v ⟨#[]⟩:=⟨Nat.zero_le _,fun _=>by
 have:(⟨#[]⟩:ByteArray).size=0:=rfl;rw[this];omega⟩
theorem XV:∀(k B v:Nat) (s:ByteArray),v<=k->Fz B v s->(ED k v s).size<=B+1
 | 0,B,v,s,h,f=>f.sz
 | k+1,B,v,s,h,f=>by
  rw[ED]
  split
  ·exact f.sz
  rename_i a
  exact XV k B _ _ (by omega) (f.step a _)
def Hm (b:Bool) (v:Nat):ByteArray:=if ((ED v v ⟨#[]⟩).toList==(⟨#[]⟩:ByteArray).toList)=true then⟨#[48]⟩ else if b=true then⟨#[45]⟩++ED v v ⟨#[]⟩ else ED v v ⟨#[]⟩
theorem jX {b:Bool} (h:v<=2^B):(Hm b v).size<=B+2:=by
 have a:=XV v B v ⟨#[]⟩ (Nat.le_refl _) (Fz.init h);unfold Hm
 split
 ·have:(⟨#[48]⟩:ByteArray).size=1:=rfl;omega
 split
 ·rw[ByteArray.size_append];have:(⟨#[45]⟩:ByteArray).size=1:=rfl;omega
 omega
theorem pc (h:n=((48+v%10:Nat):Int)):n=((UInt8.ofNat (48+v%10)).toNat:Nat):=by rw[UInt8.toNat_ofNat'];omega
theorem mi {w:UInt8} (h:n=(w.toNat:Nat)):BR BV [.int .u8 n] (cells .u8 w):=⟨by rw[h];rfl,trivial⟩
theorem eJ {b:Bool} {l:List UInt32} {r:ByteArray} (S:BA x b l) (hl:l.length<=17592186044416) (T:AD l<=2^B) (U:B<=1000000000) (L:r=Hm b (AD l)):CF 362 [.agg (BX b l)] (.one (.str r)):=by
 refine AG Tryz.func362 fun E R=>?_
 refine AB R (IA S) ?_;refine BN [] [1,3,4] [1] (fun vs Q k=>∃(v:Nat) (s:ByteArray) (m:List UInt32),vs=[.one (.AR 1 0 0),.one (.str s),.one (.sl .u32 m)]/\Q=[.var 0 [.bool b,.sl .u32 l]]/\(m=AP v/\m.length<=l.length)/\Fz B v s/\ED v v s=ED (AD l) (AD l) ⟨#[]⟩/\k=v) (AD l) ⟨AD l,⟨#[]⟩,l,rfl,rfl,⟨S.trim.symm,Nat.le_refl _⟩,Fz.init T,rfl,rfl⟩ ?_;rintro J0 J vs Q W ⟨v,s,m,rfl,rfl,⟨hm,K⟩,hf,hinv,V⟩;refine AS ?_;rintro Z ⟨A,f12⟩;refine E0 (fun M=>?_) fun M=>?_
 ·intro P t;cases P <;> conv=>cbv
  ·cases b <;> conv=>cbv
   ·have a:v=0:=Ec.1 (by rw[<-hm];exact List.length_eq_zero_iff.1 (by omega));have f:s=ED (AD l) (AD l) ⟨#[]⟩:=by subst a;exact hinv
    exact AF (by rw[L,Hm,<-f,if_neg (by rw[<-t];decide)];first | rfl | (rw[if_pos rfl];exact j.symm))
   refine⟨fun _=>by rw[show (⟨#[45]⟩:ByteArray).size=1 from rfl];have:=hf.sz;omega,?_⟩;intro Y j;conv=>cbv
   have a:v=0:=Ec.1 (by rw[<-hm];exact List.length_eq_zero_iff.1 (by omega));have f:s=ED (AD l) (AD l) ⟨#[]⟩:=by subst a;exact hinv
   exact AF (by rw[L,Hm,<-f,if_neg (by rw[<-t];decide)];first | rfl | (rw[if_pos rfl];exact j.symm))
  have a:v=0:=Ec.1 (by rw[<-hm];exact List.length_eq_zero_iff.1 (by omega));have f:s=ED (AD l) (AD l) ⟨#[]⟩:=by subst a;exact hinv
  exact AF (by rw[L,Hm,<-f,if_pos t.symm])
 refine .inr ?_;have H:AD m=v:=by rw[hm,BS]
 have u:v≠0:=fun e=>by subst e;rw[F8] at hm;rw[hm] at A;simp at A;omega
 obtain⟨I,g⟩:=xU (AP (v/10));obtain⟨d16,G⟩:=xI (((v%10:Nat):Int));refine AB (r:= .AI [(false,[.sl .u32 I]),(false,[.int .u32 d16])]) R (VR (b:=10) (BD 10) (by decide) (by decide) (by rw[H];exact g) (by rw[H];exact⟨G⟩) (by omega)) ?_;intro a1 C;have C:=wrap_u32 C;intro O D;conv=>cbv
 have D:=wrap_u8 D;have F:O=((48+v%10:Nat):Int):=by omega
 obtain⟨w,o⟩:∃z:UInt8,z=UInt8.ofNat (48+v%10):=⟨_,rfl⟩
 refine⟨[w],fun _=>⟨rfl,by decide,rfl,⟨rfl,mi (by rw[o];exact pc F),trivial⟩⟩,.inr ?_⟩;try conv=>cbv
 refine⟨[w],fun _=>rfl,?_⟩;intro X d;conv=>cbv
 refine⟨fun _=>by rw[d,show (ByteArray.mk [w].toArray).size=1 from rfl];have:=hf.lt u;omega,?_⟩;intro N h;conv=>cbv
 exact Ba J ⟨v/10,N,I,rfl,rfl,⟨g,Nat.le_trans (by rw[g,hm];exact EF (Nat.div_le_self _ _)) K⟩,(by rw[h,d];exact hf.step u _),(by rw[h,d,o];exact (jW u).symm.trans hinv),rfl⟩
theorem oD {b1 b2:Bool} {l1 l2:List UInt32} (h:BA x b1 l1) (j:BA y b2 l2) (hb:b1=b2) {r:Int} (g:r=Bu (x.natAbs:Nat) (y.natAbs:Nat)):decide (x=y)=(r==0):=by
 have d:=h.neg;have f:=j.neg;rw[hb,f] at d;have h3:(y<0)↔(x<0):=by simpa using d
 rw[g,Bool.eq_iff_iff,decide_eq_true_iff,beq_iff_eq];rcases Jr (x.natAbs:Nat) (y.natAbs:Nat) with⟨a,b⟩ |⟨a,b⟩ |⟨a,b⟩ <;> rw[b] <;> omega
def Hw:Nat->ByteArray->ByteArray
 | 0,s=>s
 | f+1,s=>Hw f (⟨#[48]⟩++s)
theorem aW (s:ByteArray):((⟨#[48]⟩:ByteArray)++s).size=s.size+1:=by
 rw[ByteArray.size_append];have:(⟨#[48]⟩:ByteArray).size=1:=rfl;omega
def Pm (k:Nat) (s:ByteArray):ByteArray:=if k>0 then (s.extract 0 (s.size-k)++⟨#[46]⟩)++s.extract (s.size-k) s.size else s
def Lu (k:Nat) (q:Rat):ByteArray:=Pm k (Hw (k+1-(Hm (decide (q.num<0)) q.num.natAbs).size) (Hm (decide (q.num<0)) q.num.natAbs))
def HG:Nat->Nat->Rat->ByteArray×Bool
 | 0,_,_=>(⟨#[]⟩,false)
 | f+1,k,q=>if (q.den:Int)=1 then (Lu k q,decide (((Lu k q).size:Int)<=40)) else HG f (k+1) (q*((10:Int):Rat))
structure Nq (b1:Bool) (l1:List UInt32) (b2:Bool) (l2:List UInt32) (R:ByteArray) (c:Bool):Prop where
 no:Ez b1 l1 b2 l2=false->(R,c)=(⟨#[]⟩,false)
 lt:∀q,BY q b1 l1 b2 l2->D1 q<0->(R,c)=(⟨#[]⟩,false)
 ge:∀q,BY q b1 l1 b2 l2->¬D1 q<0->(R,c)=HG 41 0 q
theorem SA {b1 b2:Bool} {l1 l2:List UInt32} (h:BY p b1 l1 b2 l2) (h':BY q b1 l1 b2 l2):p=q:=by
 have a:=h.num.Eg.trans h'.num.Eg.symm;have b:=h.den.Eg.trans h'.den.Eg.symm;exact Rat.ext a (by omega)
theorem Wt (b1:Bool) (l1:List UInt32) (b2:Bool) (l2:List UInt32):∃R c,Nq b1 l1 b2 l2 R c:=by
 by_cases f:∃q,BY q b1 l1 b2 l2
 ·obtain⟨q,b⟩:=f;have g:Ez b1 l1 b2 l2=true:=Lv.2 ⟨q,b⟩
  by_cases d:D1 q<0
  ·exact⟨_,_,fun _=>rfl,fun _ _ _=>rfl,fun p a h=>absurd (SA a b ▸ d) h⟩
  exact⟨(HG 41 0 q).1,(HG 41 0 q).2,fun h=>(by rw[g] at h;cases h),fun p a h=>absurd (SA a b ▸ h) d,fun p a _=>by rw[SA a b]⟩
 exact⟨_,_,fun _=>rfl,fun _ _ _=>rfl,fun p a _=>absurd ⟨p,a⟩ f⟩
theorem Ws (a:k<=40) (h:(q.den:Int)=1):HG (41-k) k q=(Lu k q,decide (((Lu k q).size:Int)<=40)):=by
 rw[show 41-k=(40-k)+1 by omega,HG,if_pos h]
theorem iR (a:k<=40) (h:¬(q.den:Int)=1):HG (41-k) k q=HG (41-(k+1)) (k+1) (q*((10:Int):Rat)):=by
 rw[show 41-k=(41-(k+1))+1 by omega,HG,if_neg h]
theorem mP {s:ByteArray} (h:s.size<=k):Hw (k+1-s.size) s=Hw (k+1-(⟨#[48]⟩++s).size) (⟨#[48]⟩++s):=by
 rw[aW,show k+1-s.size=(k+1-(s.size+1))+1 by omega,Hw]
theorem ae {a b:Nat} (d:p.num.natAbs<2^(32*a)) (f:p.den<2^(32*b)) (ha:a<=4000000000000) (hb:b<=4000000000000):CR p:=
 ⟨Nat.le_trans (Fq d) ha,Nat.le_trans (Fq f) hb⟩
theorem lS:(p*((10:Int):Rat)).num.natAbs<=p.num.natAbs*10/\(p*((10:Int):Rat)).den<=p.den:=by
 have a:((10:Int):Rat).num=10:=rfl;have b:((10:Int):Rat).den=1:=rfl;rw[Rat.num_mul,Rat.den_mul,a,b,Nat.mul_one];refine⟨?_,Nat.div_le_self _ _⟩;refine Nat.le_trans (Int.natAbs_ediv_le_natAbs _ _) ?_;rw[Int.natAbs_mul];exact Nat.le_refl _
structure Bq (k:Nat) (p:Rat):Prop where
 num:p.num.natAbs<2^(32*(1048580+k))
 den:p.den<2^(32*(1048580+k))
theorem Bq.small (h:Bq k p) (a:k<=41):CR p:=ae h.num h.den (by omega) (by omega)
theorem Bq.step (h:Bq k p):Bq (k+1) (p*((10:Int):Rat)):=by
 obtain⟨a,b⟩:=lS (p:=p);refine⟨Nat.lt_of_le_of_lt a ?_,Nat.lt_of_le_of_lt b (Nat.lt_of_lt_of_le h.den (Nat.pow_le_pow_right (by decide) (by omega)))⟩;have h3:=h.num;rw[show 32*(1048580+(k+1))=32*(1048580+k)+32 by omega,Nat.pow_add]
 generalize 2^(32*(1048580+k))=P at*
 have:(2:Nat)^32=4294967296:=by decide
 rw[this];omega
theorem Bq.init {b1 b2:Bool} {l1 l2:List UInt32} (h:BY q b1 l1 b2 l2) (s1:l1.length<=1048580) (s2:l2.length<=1048580):Bq 0 q:=by
 have a:=Cv l1;have b:=Cv l2;rw[h.num.nat] at a;rw[h.den.nat] at b;have e1:32*l1.length<=32*(1048580+0):=by omega
 have d:32*l2.length<=32*(1048580+0):=by omega
 constructor
 ·generalize 32*(1048580+0)=K at *;exact Nat.lt_of_lt_of_le a (Nat.pow_le_pow_right (by decide) e1)
 generalize 32*(1048580+0)=K at *;exact Nat.lt_of_lt_of_le b (Nat.pow_le_pow_right (by decide) d)
theorem Bq.bits {b1 b2:Bool} {l1 l2:List UInt32} (h:Bq k p) (a:BY p b1 l1 b2 l2) (d:k<=41) (b:B=40000000):AD l1<=2^B:=by
 rw[a.num.nat];exact Nat.le_trans (Nat.le_of_lt h.num) (Nat.pow_le_pow_right (by decide) (by omega))
theorem eo {b1 b2:Bool} {l1 l2:List UInt32} (f:BA x b1 l1) (g:BA y b2 l2) (h:c=decide (x=y)):CF 361 [.agg (BX b1 l1),.agg (BX b2 l2)] (.one (.bool c)):=by
 refine AG Tryz.func361 fun E j=>?_
 intro o b;cases o <;> conv=>cbv
 ·have l:=RB b;exact AF (by rw[h];exact decide_eq_false fun e=>absurd (f.uniq g e).1 (beq_eq_false_iff_ne.1 b.symm))
 have l:=RC b;obtain⟨r,a⟩:=xI (Bu (x.natAbs:Nat) (y.natAbs:Nat));refine AB j (MG f.Bb g.Bb a) ?_;intro m d;exact AF (by rw[h,oD f g (beq_iff_eq.1 b.symm) a,d])
theorem bV {b1 b2:Bool} {l1 l2:List UInt32} (b:BY p b1 l1 b2 l2) {r s:ByteArray} (d:r=Hm b1 (AD l1)) (a:Hw (k+1-s.size) s=Hw (k+1-r.size) r) (f:¬s.size<=k):Lu k p=Pm k s:=by
 unfold Lu;rw[<-b.num.neg,<-b.num.nat,<-d,<-a,show k+1-s.size=0 by omega,Hw]
theorem Nr {b1 b2:Bool} {l1 l2:List UInt32} {R:ByteArray} (s1:l1.length<=1048580) (s2:l2.length<=1048580) (hR:Nq b1 l1 b2 l2 R c):CF 320 [.agg (Bw b1 l1 b2 l2)] (.AI [(false,[.str R]),(false,[.bool c])]):=by
 obtain⟨B,hB⟩:=xN 40000000;refine Gs Tryz.func320 fun E I=>?_
 conv=>cbv
 obtain⟨ar,m⟩:=xB (Ez b1 l1 b2 l2);refine BP I (VH m (by omega) (by omega)) ?_;conv=>cbv
 refine Oq ?_ ?_ <;> intro W <;> conv=>cbv
 ·have d:=hR.no (m.symm.trans W);exact AE ⟨⟨rfl,congrArg _ (congrArg Prod.fst d),trivial⟩,⟨rfl,congrArg _ (congrArg Prod.snd d),trivial⟩,trivial⟩
 obtain⟨q,U⟩:=Lv.1 (m.symm.trans W);obtain⟨aS,V⟩:=xI (D1 q);refine BP I (Qm U V) ?_;conv=>cbv
 refine Oo ?_ ?_ <;> intro aI <;> conv=>cbv
 ·have d:=hR.lt q U (by omega);exact AE ⟨⟨rfl,congrArg _ (congrArg Prod.fst d),trivial⟩,⟨rfl,congrArg _ (congrArg Prod.snd d),trivial⟩,trivial⟩
 obtain⟨c1,m1,c2,m2,ht⟩:=CA ((10:Int):Rat);refine BP I (EN (by decide) rfl ht) ?_;conv=>cbv
 obtain⟨f,fl,Q⟩:=Ak 1;refine BP I (MD (by decide) Q) ?_;conv=>cbv
 refine BN [] [4,5,6,7] [4,5,6] (fun vs Z k=>∃(g:Nat) (j:Int) (p:Rat) (x1 x2:Bool) (y1 y2:List UInt32),vs=[.one (.AR 4 0 0),.one (.AR 5 0 0),.one (.AR 6 0 0),.one (.int .i64 j)]/\Z=[.var 0 [.bool c1,.sl .u32 m1,.bool c2,.sl .u32 m2],.var 0 [.bool f,.sl .u32 fl],.var 0 [.bool x1,.sl .u32 y1,.bool x2,.sl .u32 y2]]/\(AO j g/\g<=41)/\BY p x1 y1 x2 y2/\Bq g p/\(R,c)=HG (41-g) g p/\k=41-g) (41-0) ⟨0,0,q,b1,b2,l1,l2,rfl,rfl,⟨BD 0,by omega⟩,U,Bq.init U (by omega) (by omega),hR.ge q U (by omega),rfl⟩ ?_;rintro J0 a8 vs Z aL ⟨g,j,p,x1,x2,y1,y2,rfl,rfl,⟨hj,aC⟩,J,w,u,aD⟩;conv=>cbv
 have ej:=hj.eq;refine Mc ?_ ?_ <;> intro aJ <;> conv=>cbv
 ·have d:=u;rw[show 41-g=0 by omega,HG] at d;exact AE ⟨⟨rfl,congrArg _ (congrArg Prod.fst d),trivial⟩,⟨rfl,congrArg _ (congrArg Prod.snd d),trivial⟩,trivial⟩
 refine .inr ?_;obtain⟨a1,h⟩:=xB (decide ((p.den:Int)=1));refine BP I (eo J.den Q h) ?_;conv=>cbv
 cases a1 <;> conv=>cbv
 ·obtain⟨u1,w1,u2,w2,hz⟩:=CA (p*((10:Int):Rat));have a2:CR ((10:Int):Rat):=ae (a:=1) (b:=1) (by decide) (by decide) (by decide) (by decide);refine BP I (VG J ht (w.small (by omega)) a2 rfl hz) ?_;refine AS ?_;intro af az;exact DH (Ba a8 ⟨g+1,af,_,u1,u2,w1,w2,rfl,rfl,⟨⟨by omega⟩,by omega⟩,hz,w.step,u.trans (iR (by omega) (of_decide_eq_false h.symm)),rfl⟩)
 obtain⟨t,l⟩:∃z:ByteArray,z=Hm x1 (AD y1):=⟨_,rfl⟩
 have P:=w.bits J (by omega) hB;have aF:t.size<=B+2:=l ▸ jX P;have aH:=(J.small (w.small (by omega))).1;refine BP I (eJ J.num (by omega) P (by omega) l) ?_;conv=>cbv
 refine BN [] [7,8] [] (fun vs Z k=>∃(s:ByteArray),vs=[.one (.int .i64 j),.one (.str s)]/\Hw (g+1-s.size) s=Hw (g+1-t.size) t/\s.size<=B+50/\k=g+1-s.size) (g+1-t.size) ⟨t,rfl,rfl,by omega,rfl⟩ ?_;rintro J1 aa vs Z aM ⟨s,rfl,r,aG,aE⟩;conv=>cbv
 intro ag a5;have aw:ag=(ByteArray.size s:Nat):=a5.eq;conv=>cbv
 refine jD ?_ ?_ <;> intro aK <;> conv=>cbv
 ·refine .inr ?_;refine⟨fun _=>by rw[show (⟨#[48]⟩:ByteArray).size=1 from rfl];omega,?_⟩;intro X A;conv=>cbv
  have ab:X.size=s.size+1:=by rw[A];exact aW s
  exact Ba aa ⟨X,rfl,by rw[A];exact (mP (by omega)).symm.trans r,by omega,rfl⟩
 intro ah L;conv=>cbv
 refine .inr ?_;cases ah <;> conv=>cbv
 ·have ad:=GX L;intro K G;have F:K=(ByteArray.size s:Nat):=G.eq;refine AS ?_;intro an H;have d:=u.trans (Ws (by omega) (of_decide_eq_true h.symm));rw[bV J l r (by omega)] at d;rw[Pm,if_neg (by omega)] at d;exact AE ⟨⟨rfl,congrArg _ (congrArg Prod.fst d),trivial⟩,⟨rfl,congrArg _ ((congrArg Prod.snd d).trans (by rw[H,F])),trivial⟩,trivial⟩
 have ad:=GY L;intro ai a6;have ax:ai=(ByteArray.size s:Nat):=a6.eq;refine AS ?_;intro aj aA;refine DH ?_;intro aQ ao;conv=>cbv
 refine Er ?_;intro au N;refine⟨rfl,?_⟩;intro aN o;conv=>cbv
 refine⟨fun _=>by rw[o,show (⟨#[46]⟩:ByteArray).size=1 from rfl,ByteArray.size_extract];omega,?_⟩;intro aO C;conv=>cbv
 intro ak a7;have ay:ak=(ByteArray.size s:Nat):=a7.eq;refine AS ?_;intro al aB;refine DH ?_;intro aR T;conv=>cbv
 refine Er ?_;rintro aq av ⟨M,O⟩;refine⟨rfl,?_⟩;intro aP D;conv=>cbv
 refine⟨fun _=>by rw[C,o,D,ByteArray.size_append,show (⟨#[46]⟩:ByteArray).size=1 from rfl,ByteArray.size_extract,ByteArray.size_extract];omega,?_⟩;intro Y S;conv=>cbv
 refine g2 rfl ?_;intro K G;have F:K=(ByteArray.size Y:Nat):=G.eq;refine AS ?_;intro an H;have d:=u.trans (Ws (by omega) (of_decide_eq_true h.symm));rw[bV J l r (by omega)] at d;have e9:Y=(s.extract 0 (s.size-g)++⟨#[46]⟩)++s.extract (s.size-g) s.size:=by rw[S,C,o,D,N,M,O,T,show aj.toNat=s.size-g by omega,show al.toNat=s.size-g by omega]
 rw[Pm,if_pos (by omega),<-e9] at d;exact AE ⟨⟨rfl,congrArg _ (congrArg Prod.fst d),trivial⟩,⟨rfl,congrArg _ ((congrArg Prod.snd d).trans (by rw[H,F])),trivial⟩,trivial⟩
end
section
open Go.RowKit
noncomputable def Ks (x:el AA):ByteArray:=Classical.choose (Wt x.1.1 x.1.2 x.2.1 x.2.2)
theorem Wu (x:el AA):∃c,Nq x.1.1 x.1.2 x.2.1 x.2.2 (Ks x) c:=Classical.choose_spec (Wt x.1.1 x.1.2 x.2.1 x.2.2)
noncomputable def Jt (x:el AA):Bool:=Classical.choose (Wu x)
theorem Og (x:el AA):Nq x.1.1 x.1.2 x.2.1 x.2.2 (Ks x) (Jt x):=Classical.choose_spec (Wu x)
def Dz (s:ByteArray):Bool:=s.toList==(⟨#[]⟩:ByteArray).toList
def BL (v:el AA):Bool:=((!v.1.1&& !v.2.1)&&((v.1.2.length:Int)==0))&&((v.2.2.length:Int)==0)
def sh (o:Int) (z d m nb:Bool) (l:Int):Bool:=
 if o=1 then (d&&(m||nb))&&(l==0) else if o=2 then (z&&nb)&&(l==0) else if o=3 then (z&&m)&&(l==1)
 else if o=4\/o=5\/o=6\/o=7 then (z&&m)&&(l==2) else false
noncomputable def NW (e:Ex):Bool:=sh e.op (BL e.v) (Jt e.v) (Dz e.name) (HQ e.name) (e.args.length:Nat)
mutual
noncomputable def IN:Ex->Bool
 | .mk o v s l=>NW (.mk o v s l)&&IP l
noncomputable def IP:List Ex->Bool
 | []=>true
 | x::r=>IN x&&IP r
end
mutual
def Fk:Ex->Int
 | .mk _ _ _ l=>F2 0 l+1
def F2:Int->List Ex->Int
 | n,[]=>n
 | n,x::r=>F2 (if Fk x>n then Fk x else n) r
end
theorem jb (e:Ex):IN e=(NW e&&IP e.args):=by cases e;rfl
theorem Wx (e:Ex):Fk e=F2 0 e.args+1:=by cases e;rfl
theorem XX {l:List Ex} {i:Nat} {x:Ex} (h:l[i]? =some x):IP (l.drop i)=(IN x&&IP (l.drop (i+1))):=by
 have a:=C6 h;rw[List.drop_eq_getElem_cons a,IP];rw[List.getElem?_eq_getElem a] at h;rw[Option.some.inj h]
theorem iT {l:List Ex} {i:Nat} {x:Ex} {n:Int} (h:l[i]? =some x):F2 n (l.drop i)=F2 (if Fk x>n then Fk x else n) (l.drop (i+1)):=by
 have a:=C6 h;rw[List.drop_eq_getElem_cons a,F2];rw[List.getElem?_eq_getElem a] at h;rw[Option.some.inj h]
theorem Ww {N:Int}:∀(l:List Ex) (n:Int),0<=n->n<=N->(∀x∈l,0<=Fk x/\Fk x<=N)->0<=F2 n l/\F2 n l<=N
 | [],n,a,b,_=>⟨a,b⟩
 | x::r,n,a,b,h=>by
  rw[F2];have:=h x List.mem_cons_self;exact Ww r _ (by split <;> omega) (by split <;> omega) fun y d=>h y (List.mem_cons_of_mem _ d)
theorem iU {N:Nat} {e:Ex} (h:FO N e):0<=Fk e/\Fk e<=N:=by
 induction h with
 | mk N y b d h3 f g a=>
  rw[Wx];have:=Ww (N:=N) y.args 0 (by omega) (by omega) a;omega
theorem FO.lens {N:Nat} {e:Ex} (h:FO N e):e.v.1.2.length<=N/\e.v.2.2.length<=N/\e.args.length<=N:=by
 cases h with
 | mk N y a b h3 d f=>exact⟨a,b,d⟩
theorem oW {o:Int} {a b:Bool} {l m:List UInt32} {s:ByteArray} {r:List Ex} {c:Bool} (s1:l.length<=1048580) (s2:m.length<=1048580) (G:c=NW (.mk o ((a,l),(b,m)) s r)):CF 267 [.agg [.int .i64 o,.bool a,.sl .u32 l,.bool b,.sl .u32 m,.str s,.sl .ex r]] (.one (.bool c)):=by
 have G:c=sh o (BL ((a,l),(b,m))) (Jt ((a,l),(b,m))) (Dz s) (HQ s) ((r.length:Nat):Int):=G;refine AG Tryz.func267 fun E hE=>?_
 intro aq f;cases aq <;> conv=>cbv
 ·have al:=GD f;refine .inr ?_;refine BO (fun d=>?_) fun d=>?_
  ·obtain⟨X,A⟩:=xB (Jt ((a,l),(b,m)));obtain⟨ae,U⟩:∃z:ByteArray,z=Ks ((a,l),(b,m)):=⟨_,rfl⟩
   refine AB hE (Nr s1 s2 (A ▸ U ▸ Og ((a,l),(b,m)))) ?_;cases X <;> conv=>cbv
   ·have g:BL ((a,l),(b,m))=false:=by unfold BL;rw[<-f];rfl
    exact AF (by rw[G,g,<-A];simp[sh,d])
   intro Z M;conv=>cbv
   cases Z <;> conv=>cbv
   ·obtain⟨Y,I⟩:=xB (HQ s);refine AB hE (L4 I) ?_;cases Y <;> conv=>cbv
    ·have g:BL ((a,l),(b,m))=false:=by unfold BL;rw[<-f];rfl
     exact AF (by rw[G,g,<-A,show Dz s=_ from M.symm,<-I];simp[sh,d])
    refine AS ?_;rintro a1 ⟨L,f58⟩ a2 N;have g:BL ((a,l),(b,m))=false:=by unfold BL;rw[<-f];rfl
    exact AF (by rw[G,g,<-A,show Dz s=_ from M.symm,<-I,<-L];simp[sh,d,N])
   refine AS ?_;rintro a1 ⟨L,f58⟩ a2 N;have g:BL ((a,l),(b,m))=false:=by unfold BL;rw[<-f];rfl
   exact AF (by rw[G,g,<-A,show Dz s=_ from M.symm,<-L];simp[sh,d,N])
  refine BO (fun j=>?_) fun j=>?_
  ·have g:BL ((a,l),(b,m))=false:=by unfold BL;rw[<-f];rfl
   exact AF (by rw[G,g];simp[sh,d,j])
  refine BO (fun t=>?_) fun t=>?_
  ·have g:BL ((a,l),(b,m))=false:=by unfold BL;rw[<-f];rfl
   exact AF (by rw[G,g];simp[sh,d,j,t])
  intro a5 Q;refine .inr ?_;cases a5 <;> conv=>cbv
  ·have C:=Bp Q;intro a6 R;conv=>cbv
   refine .inr ?_;cases a6 <;> conv=>cbv
   ·have F:=Bp R;intro a7 S;conv=>cbv
    refine .inr ?_;cases a7 <;> conv=>cbv
    ·have J:=Bp S;refine CH (fun K=>?_) fun K=>?_
     ·have g:BL ((a,l),(b,m))=false:=by unfold BL;rw[<-f];rfl
      exact AF (by rw[G,g];simp[sh,d,j,t,C,F,J,K])
     have g:BL ((a,l),(b,m))=false:=by unfold BL;rw[<-f];rfl
     exact AF (by rw[G,g];simp[sh,d,j,t,C,F,J,K])
    have J:=Br S;have g:BL ((a,l),(b,m))=false:=by unfold BL;rw[<-f];rfl
    exact AF (by rw[G,g];simp[sh,d,j,t,C,F,J])
   have F:=Br R;have g:BL ((a,l),(b,m))=false:=by unfold BL;rw[<-f];rfl
   exact AF (by rw[G,g];simp[sh,d,j,t,C,F])
  have C:=Br Q;have g:BL ((a,l),(b,m))=false:=by unfold BL;rw[<-f];rfl
  exact AF (by rw[G,g];simp[sh,d,j,t,C])
 have al:=GF f;intro ar h;conv=>cbv
 cases ar <;> conv=>cbv
 ·have an:=GD h;refine .inr ?_;refine BO (fun d=>?_) fun d=>?_
  ·obtain⟨X,A⟩:=xB (Jt ((a,l),(b,m)));obtain⟨ae,U⟩:∃z:ByteArray,z=Ks ((a,l),(b,m)):=⟨_,rfl⟩
   refine AB hE (Nr s1 s2 (A ▸ U ▸ Og ((a,l),(b,m)))) ?_;cases X <;> conv=>cbv
   ·have g:BL ((a,l),(b,m))=false:=by unfold BL;rw[<-f,<-h];rfl
    exact AF (by rw[G,g,<-A];simp[sh,d])
   intro Z M;conv=>cbv
   cases Z <;> conv=>cbv
   ·obtain⟨Y,I⟩:=xB (HQ s);refine AB hE (L4 I) ?_;cases Y <;> conv=>cbv
    ·have g:BL ((a,l),(b,m))=false:=by unfold BL;rw[<-f,<-h];rfl
     exact AF (by rw[G,g,<-A,show Dz s=_ from M.symm,<-I];simp[sh,d])
    refine AS ?_;rintro a1 ⟨L,f58⟩ a2 N;have g:BL ((a,l),(b,m))=false:=by unfold BL;rw[<-f,<-h];rfl
    exact AF (by rw[G,g,<-A,show Dz s=_ from M.symm,<-I,<-L];simp[sh,d,N])
   refine AS ?_;rintro a1 ⟨L,f58⟩ a2 N;have g:BL ((a,l),(b,m))=false:=by unfold BL;rw[<-f,<-h];rfl
   exact AF (by rw[G,g,<-A,show Dz s=_ from M.symm,<-L];simp[sh,d,N])
  refine BO (fun j=>?_) fun j=>?_
  ·have g:BL ((a,l),(b,m))=false:=by unfold BL;rw[<-f,<-h];rfl
   exact AF (by rw[G,g];simp[sh,d,j])
  refine BO (fun t=>?_) fun t=>?_
  ·have g:BL ((a,l),(b,m))=false:=by unfold BL;rw[<-f,<-h];rfl
   exact AF (by rw[G,g];simp[sh,d,j,t])
  intro a5 Q;refine .inr ?_;cases a5 <;> conv=>cbv
  ·have C:=Bp Q;intro a6 R;conv=>cbv
   refine .inr ?_;cases a6 <;> conv=>cbv
   ·have F:=Bp R;intro a7 S;conv=>cbv
    refine .inr ?_;cases a7 <;> conv=>cbv
    ·have J:=Bp S;refine CH (fun K=>?_) fun K=>?_
     ·have g:BL ((a,l),(b,m))=false:=by unfold BL;rw[<-f,<-h];rfl
      exact AF (by rw[G,g];simp[sh,d,j,t,C,F,J,K])
     have g:BL ((a,l),(b,m))=false:=by unfold BL;rw[<-f,<-h];rfl
     exact AF (by rw[G,g];simp[sh,d,j,t,C,F,J,K])
    have J:=Br S;have g:BL ((a,l),(b,m))=false:=by unfold BL;rw[<-f,<-h];rfl
    exact AF (by rw[G,g];simp[sh,d,j,t,C,F,J])
   have F:=Br R;have g:BL ((a,l),(b,m))=false:=by unfold BL;rw[<-f,<-h];rfl
   exact AF (by rw[G,g];simp[sh,d,j,t,C,F])
  have C:=Br Q;have g:BL ((a,l),(b,m))=false:=by unfold BL;rw[<-f,<-h];rfl
  exact AF (by rw[G,g];simp[sh,d,j,t,C])
 have an:=GF h;refine AS ?_;rintro aw ⟨D,f23⟩ au u;cases au <;> conv=>cbv
 ·have ao:=Bp u;refine .inr ?_;refine BO (fun d=>?_) fun d=>?_
  ·obtain⟨X,A⟩:=xB (Jt ((a,l),(b,m)));obtain⟨ae,U⟩:∃z:ByteArray,z=Ks ((a,l),(b,m)):=⟨_,rfl⟩
   refine AB hE (Nr s1 s2 (A ▸ U ▸ Og ((a,l),(b,m)))) ?_;cases X <;> conv=>cbv
   ·have g:BL ((a,l),(b,m))=false:=by unfold BL;rw[<-f,<-h,<-D,<-u];rfl
    exact AF (by rw[G,g,<-A];simp[sh,d])
   intro Z M;conv=>cbv
   cases Z <;> conv=>cbv
   ·obtain⟨Y,I⟩:=xB (HQ s);refine AB hE (L4 I) ?_;cases Y <;> conv=>cbv
    ·have g:BL ((a,l),(b,m))=false:=by unfold BL;rw[<-f,<-h,<-D,<-u];rfl
     exact AF (by rw[G,g,<-A,show Dz s=_ from M.symm,<-I];simp[sh,d])
    refine AS ?_;rintro a1 ⟨L,f58⟩ a2 N;have g:BL ((a,l),(b,m))=false:=by unfold BL;rw[<-f,<-h,<-D,<-u];rfl
    exact AF (by rw[G,g,<-A,show Dz s=_ from M.symm,<-I,<-L];simp[sh,d,N])
   refine AS ?_;rintro a1 ⟨L,f58⟩ a2 N;have g:BL ((a,l),(b,m))=false:=by unfold BL;rw[<-f,<-h,<-D,<-u];rfl
   exact AF (by rw[G,g,<-A,show Dz s=_ from M.symm,<-L];simp[sh,d,N])
  refine BO (fun j=>?_) fun j=>?_
  ·have g:BL ((a,l),(b,m))=false:=by unfold BL;rw[<-f,<-h,<-D,<-u];rfl
   exact AF (by rw[G,g];simp[sh,d,j])
  refine BO (fun t=>?_) fun t=>?_
  ·have g:BL ((a,l),(b,m))=false:=by unfold BL;rw[<-f,<-h,<-D,<-u];rfl
   exact AF (by rw[G,g];simp[sh,d,j,t])
  intro a5 Q;refine .inr ?_;cases a5 <;> conv=>cbv
  ·have C:=Bp Q;intro a6 R;conv=>cbv
   refine .inr ?_;cases a6 <;> conv=>cbv
   ·have F:=Bp R;intro a7 S;conv=>cbv
    refine .inr ?_;cases a7 <;> conv=>cbv
    ·have J:=Bp S;refine CH (fun K=>?_) fun K=>?_
     ·have g:BL ((a,l),(b,m))=false:=by unfold BL;rw[<-f,<-h,<-D,<-u];rfl
      exact AF (by rw[G,g];simp[sh,d,j,t,C,F,J,K])
     have g:BL ((a,l),(b,m))=false:=by unfold BL;rw[<-f,<-h,<-D,<-u];rfl
     exact AF (by rw[G,g];simp[sh,d,j,t,C,F,J,K])
    have J:=Br S;have g:BL ((a,l),(b,m))=false:=by unfold BL;rw[<-f,<-h,<-D,<-u];rfl
    exact AF (by rw[G,g];simp[sh,d,j,t,C,F,J])
   have F:=Br R;have g:BL ((a,l),(b,m))=false:=by unfold BL;rw[<-f,<-h,<-D,<-u];rfl
   exact AF (by rw[G,g];simp[sh,d,j,t,C,F])
  have C:=Br Q;have g:BL ((a,l),(b,m))=false:=by unfold BL;rw[<-f,<-h,<-D,<-u];rfl
  exact AF (by rw[G,g];simp[sh,d,j,t,C])
 have ao:=Br u;refine AS ?_;rintro ax ⟨H,f31⟩ W w;refine .inr ?_;refine BO (fun d=>?_) fun d=>?_
 ·obtain⟨X,A⟩:=xB (Jt ((a,l),(b,m)));obtain⟨ae,U⟩:∃z:ByteArray,z=Ks ((a,l),(b,m)):=⟨_,rfl⟩
  refine AB hE (Nr s1 s2 (A ▸ U ▸ Og ((a,l),(b,m)))) ?_;cases X <;> conv=>cbv
  ·have g:BL ((a,l),(b,m))=W:=by unfold BL;rw[<-f,<-h,<-D,<-u,<-H,<-w];rfl
   exact AF (by rw[G,g,<-A];simp[sh,d])
  intro Z M;conv=>cbv
  cases Z <;> conv=>cbv
  ·obtain⟨Y,I⟩:=xB (HQ s);refine AB hE (L4 I) ?_;cases Y <;> conv=>cbv
   ·have g:BL ((a,l),(b,m))=W:=by unfold BL;rw[<-f,<-h,<-D,<-u,<-H,<-w];rfl
    exact AF (by rw[G,g,<-A,show Dz s=_ from M.symm,<-I];simp[sh,d])
   refine AS ?_;rintro a1 ⟨L,f58⟩ a2 N;have g:BL ((a,l),(b,m))=W:=by unfold BL;rw[<-f,<-h,<-D,<-u,<-H,<-w];rfl
   exact AF (by rw[G,g,<-A,show Dz s=_ from M.symm,<-I,<-L];simp[sh,d,N])
  refine AS ?_;rintro a1 ⟨L,f58⟩ a2 N;have g:BL ((a,l),(b,m))=W:=by unfold BL;rw[<-f,<-h,<-D,<-u,<-H,<-w];rfl
  exact AF (by rw[G,g,<-A,show Dz s=_ from M.symm,<-L];simp[sh,d,N])
 refine BO (fun j=>?_) fun j=>?_
 ·cases W <;> conv=>cbv
  ·have V:=Bp w;have g:BL ((a,l),(b,m))=false:=by unfold BL;rw[<-f,<-h,<-D,<-u,<-H,<-w];rfl
   exact AF (by rw[G,g];simp[sh,d,j])
  have V:=Br w;obtain⟨ag,aa⟩:=xB (HQ s);refine AB hE (L4 aa) ?_;cases ag <;> conv=>cbv
  ·have g:BL ((a,l),(b,m))=true:=by unfold BL;rw[<-f,<-h,<-D,<-u,<-H,<-w];rfl
   exact AF (by rw[G,g,<-aa];simp[sh,d,j])
  refine AS ?_;rintro ay ⟨ah,f72⟩ az aj;have g:BL ((a,l),(b,m))=true:=by unfold BL;rw[<-f,<-h,<-D,<-u,<-H,<-w];rfl
  exact AF (by rw[G,g,<-aa,<-ah];simp[sh,d,j,aj])
 refine BO (fun t=>?_) fun t=>?_
 ·cases W <;> conv=>cbv
  ·have V:=Bp w;have g:BL ((a,l),(b,m))=false:=by unfold BL;rw[<-f,<-h,<-D,<-u,<-H,<-w];rfl
   exact AF (by rw[G,g];simp[sh,d,j,t])
  have V:=Br w;intro av af;conv=>cbv
  cases av <;> conv=>cbv
  ·have g:BL ((a,l),(b,m))=true:=by unfold BL;rw[<-f,<-h,<-D,<-u,<-H,<-w];rfl
   exact AF (by rw[G,g,show Dz s=_ from af.symm];simp[sh,d,j,t])
  refine AS ?_;rintro aA ⟨ai,f86⟩ aB ak;have g:BL ((a,l),(b,m))=true:=by unfold BL;rw[<-f,<-h,<-D,<-u,<-H,<-w];rfl
  exact AF (by rw[G,g,show Dz s=_ from af.symm,<-ai];simp[sh,d,j,t,ak])
 intro a5 Q;refine .inr ?_;cases a5 <;> conv=>cbv
 ·have C:=Bp Q;intro a6 R;conv=>cbv
  refine .inr ?_;cases a6 <;> conv=>cbv
  ·have F:=Bp R;intro a7 S;conv=>cbv
   refine .inr ?_;cases a7 <;> conv=>cbv
   ·have J:=Bp S;refine CH (fun K=>?_) fun K=>?_
    ·have g:BL ((a,l),(b,m))=W:=by unfold BL;rw[<-f,<-h,<-D,<-u,<-H,<-w];rfl
     exact AF (by rw[G,g];simp[sh,d,j,t,C,F,J,K])
    cases W <;> conv=>cbv
    ·have V:=Bp w;have g:BL ((a,l),(b,m))=false:=by unfold BL;rw[<-f,<-h,<-D,<-u,<-H,<-w];rfl
     exact AF (by rw[G,g];simp[sh,d,j,t,C,F,J,K])
    have V:=Br w;intro a8 T;conv=>cbv
    cases a8 <;> conv=>cbv
    ·have g:BL ((a,l),(b,m))=true:=by unfold BL;rw[<-f,<-h,<-D,<-u,<-H,<-w];rfl
     exact AF (by rw[G,g,show Dz s=_ from T.symm];simp[sh,d,j,t,C,F,J,K])
    refine AS ?_;rintro ab ⟨O,f103⟩ ad P;have g:BL ((a,l),(b,m))=true:=by unfold BL;rw[<-f,<-h,<-D,<-u,<-H,<-w];rfl
    exact AF (by rw[G,g,show Dz s=_ from T.symm,<-O];simp[sh,d,j,t,C,F,J,K,P])
   have J:=Br S;cases W <;> conv=>cbv
   ·have V:=Bp w;have g:BL ((a,l),(b,m))=false:=by unfold BL;rw[<-f,<-h,<-D,<-u,<-H,<-w];rfl
    exact AF (by rw[G,g];simp[sh,d,j,t,C,F,J])
   have V:=Br w;intro a8 T;conv=>cbv
   cases a8 <;> conv=>cbv
   ·have g:BL ((a,l),(b,m))=true:=by unfold BL;rw[<-f,<-h,<-D,<-u,<-H,<-w];rfl
    exact AF (by rw[G,g,show Dz s=_ from T.symm];simp[sh,d,j,t,C,F,J])
   refine AS ?_;rintro ab ⟨O,f103⟩ ad P;have g:BL ((a,l),(b,m))=true:=by unfold BL;rw[<-f,<-h,<-D,<-u,<-H,<-w];rfl
   exact AF (by rw[G,g,show Dz s=_ from T.symm,<-O];simp[sh,d,j,t,C,F,J,P])
  have F:=Br R;cases W <;> conv=>cbv
  ·have V:=Bp w;have g:BL ((a,l),(b,m))=false:=by unfold BL;rw[<-f,<-h,<-D,<-u,<-H,<-w];rfl
   exact AF (by rw[G,g];simp[sh,d,j,t,C,F])
  have V:=Br w;intro a8 T;conv=>cbv
  cases a8 <;> conv=>cbv
  ·have g:BL ((a,l),(b,m))=true:=by unfold BL;rw[<-f,<-h,<-D,<-u,<-H,<-w];rfl
   exact AF (by rw[G,g,show Dz s=_ from T.symm];simp[sh,d,j,t,C,F])
  refine AS ?_;rintro ab ⟨O,f103⟩ ad P;have g:BL ((a,l),(b,m))=true:=by unfold BL;rw[<-f,<-h,<-D,<-u,<-H,<-w];rfl
  exact AF (by rw[G,g,show Dz s=_ from T.symm,<-O];simp[sh,d,j,t,C,F,P])
 have C:=Br Q;cases W <;> conv=>cbv
 ·have V:=Bp w;have g:BL ((a,l),(b,m))=false:=by unfold BL;rw[<-f,<-h,<-D,<-u,<-H,<-w];rfl
  exact AF (by rw[G,g];simp[sh,d,j,t,C])
 have V:=Br w;intro a8 T;conv=>cbv
 cases a8 <;> conv=>cbv
 ·have g:BL ((a,l),(b,m))=true:=by unfold BL;rw[<-f,<-h,<-D,<-u,<-H,<-w];rfl
  exact AF (by rw[G,g,show Dz s=_ from T.symm];simp[sh,d,j,t,C])
 refine AS ?_;rintro ab ⟨O,f103⟩ ad P;have g:BL ((a,l),(b,m))=true:=by unfold BL;rw[<-f,<-h,<-D,<-u,<-H,<-w];rfl
 exact AF (by rw[G,g,show Dz s=_ from T.symm,<-O];simp[sh,d,j,t,C,P])
theorem dE {o:Int} {a b:Bool} {l m:List UInt32} {s:ByteArray} {r:List Ex} {c:Bool} {N:Nat} (hN:N<=1048576) (W:FO N (.mk o ((a,l),(b,m)) s r)) (X:∀z∈r,∀c,c=IN z->CF 193 [.agg (cells .ex z)] (.one (.bool c))) (j:c=IN (.mk o ((a,l),(b,m)) s r)):CF 193 [.agg [.int .i64 o,.bool a,.sl .u32 l,.bool b,.sl .u32 m,.str s,.sl .ex r]] (.one (.bool c)):=by
 obtain⟨O,P,q3⟩:=W.lens;have O:l.length<=N:=O;have P:m.length<=N:=P;have j:c=(NW (.mk o ((a,l),(b,m)) s r)&&IP r):=j.trans (jb _);refine AG Tryz.func193 fun E M=>?_
 obtain⟨b5,g⟩:=xB (NW (.mk o ((a,l),(b,m)) s r));refine AB M (oW (by omega) (by omega) g) ?_;refine Gm (fun C=>?_) fun C=>?_
 ·exact AF (by rw[j,<-g,C];rfl)
 refine BN [] [1,3] [1] (fun vs L k=>∃(i':Nat) (i:Int),vs=[.one (.AR 1 0 0),.one (.int .i64 i)]/\L=[.var 0 [.int .i64 o,.bool a,.sl .u32 l,.bool b,.sl .u32 m,.str s,.sl .ex r]]/\(AO i i'/\i'<=r.length)/\c=IP (r.drop i')/\k=r.length-i') (r.length-0) ⟨0,0,rfl,rfl,⟨BD 0,by omega⟩,by rw[j,<-g,C];rfl,rfl⟩ ?_;rintro J0 w vs L Y ⟨i',i,rfl,rfl,⟨T,U⟩,hinv,V⟩;have ei:=T.eq;refine AS ?_;rintro Z ⟨R,f10⟩;refine BW (fun A=>?_) fun A=>?_
 ·exact AF (by rw[hinv,List.drop_eq_nil_of_le (by omega),IP])
 refine .inr ?_;refine AW i' fun K f=>?_
 try conv=>cbv
 obtain⟨H,⟨⟨t,D⟩,⟨u,F⟩⟩,J,I⟩:=K;obtain⟨Q,d⟩:=xB (IN (.mk H ((t,D),(u,F)) J I));refine AB M (X _ (List.mem_of_getElem? f) _ d) ?_;refine Gm (fun h=>?_) fun h=>?_
 ·exact AF (by rw[hinv,XX f,<-d,h];rfl)
 intro G S;exact Ba w ⟨i'+1,G,rfl,rfl,⟨⟨by omega⟩,by omega⟩,by rw[hinv,XX f,<-d,h];rfl,rfl⟩
theorem dD {N:Nat} {e:Ex} (h:FO N e):N<=1048576->∀c,c=IN e->CF 193 [.agg (cells .ex e)] (.one (.bool c)):=by
 induction h with
 | mk N y d f h3 g j C=>
  intro t c u;have w:FO (N+1) y:= .mk N y d f h3 g j;obtain⟨o,⟨⟨a,l⟩,⟨b,m⟩⟩,s,r⟩:=y;exact dE t w (fun z A=>C z A (by omega)) u
theorem cz {o:Int} {a b:Bool} {l m:List UInt32} {s:ByteArray} {r:List Ex} {c:Int} {N:Nat} (hN:N<=1048576) (S:FO N (.mk o ((a,l),(b,m)) s r)) (T:∀z∈r,CF 194 [.agg (cells .ex z)] (.one (.int .i64 (Fk z)))) (M:c=Fk (.mk o ((a,l),(b,m)) s r)):CF 194 [.agg [.int .i64 o,.bool a,.sl .u32 l,.bool b,.sl .u32 m,.str s,.sl .ex r]] (.one (.int .i64 c)):=by
 obtain⟨d1,d2⟩:=iU S;have O:c=F2 0 r+1:=M.trans (Wx _);refine AG Tryz.func194 fun E L=>?_
 refine BN [] [1,3,4] [1] (fun vs I k=>∃(i':Nat) (i n:Int),vs=[.one (.AR 1 0 0),.one (.int .i64 n),.one (.int .i64 i)]/\I=[.var 0 [.int .i64 o,.bool a,.sl .u32 l,.bool b,.sl .u32 m,.str s,.sl .ex r]]/\(AO i i'/\i'<=r.length)/\F2 0 r=F2 n (r.drop i')/\k=r.length-i') (r.length-0) ⟨0,0,0,rfl,rfl,⟨BD 0,by omega⟩,rfl,rfl⟩ ?_;rintro Y t vs I V ⟨i',i,n,rfl,rfl,⟨P,Q⟩,hinv,R⟩;have ei:=P.eq;refine AS ?_;rintro n8 ⟨Z,f8⟩;refine BW (fun U=>?_) fun U=>?_
 ·intro W K;refine⟨fun _=>by unfold Du;rw[List.drop_eq_nil_of_le (by omega),F2] at hinv;omega,?_⟩;rw[List.drop_eq_nil_of_le (by omega),F2] at hinv;exact AF (by omega)
 refine .inr ?_;refine AW i' fun H f=>?_
 try conv=>cbv
 obtain⟨D,⟨⟨g,u⟩,⟨h,w⟩⟩,G,F⟩:=H;obtain⟨X,d⟩:=xI (Fk (.mk D ((g,u),(h,w)) G F));refine AB L (d ▸ T _ (List.mem_of_getElem? f)) ?_;intro C j A J;exact Ba t ⟨i'+1,A,C,rfl,rfl,⟨⟨by omega⟩,by omega⟩,by rw[hinv,iT f,<-d,<-j],rfl⟩
theorem cy {N:Nat} {e:Ex} (h:FO N e):N<=1048576->CF 194 [.agg (cells .ex e)] (.one (.int .i64 (Fk e))):=by
 induction h with
 | mk N y d f h3 g j A=>
  intro t;have u:FO (N+1) y:= .mk N y d f h3 g j;obtain⟨o,⟨⟨a,l⟩,⟨b,m⟩⟩,s,r⟩:=y;exact cz t u (fun z w=>A z w (by omega)) rfl
noncomputable def GM (e:Ex):Int:=if IN e=true then (if Fk e>40 then 3 else 0) else 1
theorem dw {o:Int} {a b:Bool} {l m:List UInt32} {s:ByteArray} {r:List Ex} {c:Int} {N:Nat} (u:N<=1048576) (w:FO N (.mk o ((a,l),(b,m)) s r)) (h:c=GM (.mk o ((a,l),(b,m)) s r)):CF 94 [.agg [.int .i64 o,.bool a,.sl .u32 l,.bool b,.sl .u32 m,.str s,.sl .ex r]] (.one (.int .i64 c)):=by
 refine AG Tryz.func94 fun E t=>?_
 obtain⟨A,d⟩:=xB (IN (.mk o ((a,l),(b,m)) s r));refine AB t (dD w u _ d) ?_;refine Gm (fun g=>?_) fun g=>?_
 ·exact AF (by rw[h,GM,<-d,if_neg (by rw[g];decide)])
 obtain⟨z,f⟩:=xI (Fk (.mk o ((a,l),(b,m)) s r));refine AB (r:= .one (.int .i64 z)) t (by rw[f];exact cy w u) ?_;refine E0 (fun j=>?_) fun j=>?_
 ·exact AF (by rw[h,GM,<-d,if_pos g,<-f,if_neg (Int.not_lt.2 j)])
 exact AF (by rw[h,GM,<-d,if_pos g,<-f,if_pos j])
end
end Go.Abs
