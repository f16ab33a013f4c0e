/- Part 49 of a proof. Conditions: each theorem's own. -/
import Derived.Test.YtjpiilcgomggaaaGreatPk47
set_option linter.all false
set_option maxHeartbeats 8000000
open Go.Proofs
namespace Go.Abs
open Go.RowKit
section
variable {TT:List (List Rat)->Prop} {R C m k j s:Nat} {L:Nat->Nat} {T T1 T2 T3 T4 T5 T6:List (List (el AA))} {A A1 A2 A3 A4 A5 A6:List (el AA)} {a b n:Nu} {p q:Vee}
theorem Nvv.sub (F:Ctx TT R C L m) (f:k<m) (i:Nvv TT (L k) T1 A1 a) (o:Nvv TT (L k) T2 A2 b):∃T A,Nvv TT (L (k+1)) T A (cB a b):=by
 obtain⟨d,g,h⟩:=i.bg F (by omega) o
 have r:=F.bV f
 exact Nvv.ex d ((g.sub ((F.J5 (Nat.le_of_lt f)).toGam.AN d).red h).mono (by omega))
theorem Wvv.sub (F:Ctx TT R C L m) (a:k<m) (d:Wvv TT (L k) T1 A1 T2 A2 p) (f:Wvv TT (L k) T3 A3 T4 A4 q):∃T A i g,Wvv TT (L (k+1)) T A i g (dV p q):=by
 obtain⟨_,_,h⟩:=d.x.sub F a f.x
 obtain⟨_,_,h'⟩:=d.y.sub F a f.y
 exact⟨_,_,_,_,h,h'⟩
theorem QCS (F:Ctx TT R C L m) (h:k<=m) (d:Nvv TT (L k) T1 A1 a) (f:Nvv TT (L k) T2 A2 b) (g:Nvv TT s T A (cB a b)):EF Tryz.prog false 115 [.agg [.sl (.sl AA) T1,.sl AA A1],.agg [.sl (.sl AA) T2,.sl AA A2]] (.AG [(true,[.sl (.sl AA) T,.sl AA A]),(false,[.int .i64 0])]):=Ty (F.J5 h).toGam d.hu f.hu d.hT f.hT d.hA f.hA d.hx f.hx g.hT g.hA
end
theorem QDN {TT:List (List Rat)->Prop} {R C m k s:Nat} {L:Nat->Nat} (F:Ctx TT R C L m) {T1 T2 T3 T4 T5 T6:List (List (el AA))} {A1 A2 A3 A4 A5 A6:List (el AA)} {p q:Vee} (a:k<=m) (d:Wvv TT (L k) T1 A1 T2 A2 p) (f:Wvv TT (L k) T3 A3 T4 A4 q) (g:Wvv TT s T5 A5 T6 A6 (dV p q)):EF Tryz.prog false 49 [.agg [.sl (.sl AA) T1,.sl AA A1,.sl (.sl AA) T2,.sl AA A2],.agg [.sl (.sl AA) T3,.sl AA A3,.sl (.sl AA) T4,.sl AA A4]] (.AG [(true,[.sl (.sl AA) T5,.sl AA A5,.sl (.sl AA) T6,.sl AA A6]),(false,[.int .i64 0])]):=by
 refine AE Tryz.func49 (by kernel_rfl) rfl fun E h=>?_
 conv=>cbv
 refine cL h (bP (QCS F a d.x f.x g.x) (QCS F a d.y f.y g.y)) ⟨⟨rfl,rfl,rfl,rfl,trivial⟩,⟨rfl,rfl,rfl,rfl,trivial⟩,rfl,trivial⟩ ?_
 try conv=>cbv
 exact fA ⟨⟨rfl,rfl,rfl,rfl,rfl,trivial⟩,⟨rfl,rfl,trivial⟩,trivial⟩ rfl (by simp)
end Go.Abs
namespace Go.Abs
open Go.RowKit
variable {A:LR} {T:List LR} {V:List Re} {X:List (el Bl)} {b b1 b2 c:Bool} {l l1 l2:List UInt32} {n:Nu} {ns:List Nu} {q:Rat}
theorem Dd:E2 b l=((AJ (AB l)).length==l.length&&(!b||decide (0<l.length))):=by
 unfold E2;cases h:l.getLast? with
 | none=>
  have:l=[]:=List.getLast?_eq_none_iff.1 h;subst this;cases b <;> decide
 | some w=>
  obtain⟨m,rfl⟩:=List.getLast?_eq_some_iff.1 h;have f:decide (0<(m++[w]).length)=true:=decide_eq_true (by simp);rw[f,Bool.or_true,Bool.and_true]
  by_cases hw:w=0
  ·subst hw;have e:AB (m++[0])=AB m:=by rw[Cn];simp
   have g:=D9 (Bc m);have a:(AJ (AB (m++[0]))).length≠(m++[(0:UInt32)]).length:=by rw[e,List.length_append,List.length_singleton];omega
   rw[beq_eq_false_iff_ne.2 a];rfl
  have d:=Lz (o:=m) (w:=w) fun e=>hw (UInt32.toNat_inj.1 e)
  rw[d,beq_self_eq_true]
  show (w !=0)=true
  simpa using hw
def QAV (b1:Bool) (l1:List UInt32) (b2:Bool) (l2:List UInt32):Bool:=decide (l1.length<=4)&&(decide (l2.length<=4)&&FM b1 l1 b2 l2)
theorem B2 (h:QAV b1 l1 b2 l2=true):∃q,Aq q b1 l1 b2 l2/\q.num.natAbs<2^128/\q.den<2^128:=by
 unfold QAV at h;simp only[Bool.and_eq_true,decide_eq_true_eq] at h;obtain⟨f,g,d⟩:=h;obtain⟨q,a⟩:=Nm.1 d;have k1:=Bc l1;have k2:=Bc l2;rw[a.num.nat] at k1;rw[a.den.nat,Int.natAbs_natCast] at k2;exact⟨q,a,Nat.lt_of_lt_of_le k1 (Bh (by omega)),Nat.lt_of_lt_of_le k2 (Bh (by omega))⟩
theorem QCC (d:q.num.natAbs<2^128) (f:q.den<2^128):BF q:=by
 have k:∀{n:Nat},n<2^128->(AJ n).length<=4:=fun {n} h=>D9 (k:=4) h
 have a:=k d;have b:=k f;exact⟨by omega,by omega⟩
theorem Bs (a:q.num.natAbs<2^128) (d:q.den<2^128):El [] (Lvv 0) (Re.ofRat q):=by
 refine (El.rat (u:=[]) (s:=128) trivial ⟨q.den,q.den_pos,Nat.le_of_lt d,fun x hx=>?_,fun x hx=>?_⟩).mono (show 128<=Lvv 0 by decide)
 ·rw[List.mem_singleton.1 hx];exact⟨q.num,Ho q⟩
 rw[List.mem_singleton.1 hx];exact Xt (Nat.le_of_lt a)
theorem QBd (h:c=E2 b l):CF 170 [.agg [.bool b,.sl .u32 l]] (.one (.bool c)):=by
 rw[Dd] at h;have w:=D9 (Bc l);refine AE Tryz.func170 (by kernel_rfl) rfl fun E v=>?_
 conv=>cbv
 obtain⟨G,a⟩:=xU (AJ (AB l));refine cL v (HA rfl a) t1 ?_;try conv=>cbv
 rintro D ⟨z,f6⟩;conv=>cbv
 rintro F ⟨B,f9⟩;conv=>cbv
 intro r f;conv=>cbv
 cases r <;> conv=>cbv
 ·have o:=Ac f;refine⟨fun _=>YB (by kernel_rfl),?_⟩;exact fA ⟨⟨rfl,congrArg _ (by rw[h,beq_eq_false_iff_ne.2 (by rw[<-a];omega)];rfl),trivial⟩,trivial⟩ rfl (by simp)
 have o:=Ad f;intro t g;conv=>cbv
 cases t <;> conv=>cbv
 ·have d:=Co g;rintro x ⟨u,f18⟩;conv=>cbv
  intro y i;conv=>cbv
  refine⟨fun _=>YB (by kernel_rfl),?_⟩;exact fA ⟨⟨rfl,congrArg _ (by rw[h,show (AJ (AB l)).length=l.length by rw[<-a];omega,beq_self_eq_true,i,d,Bool.not_true,Bool.false_or,Bool.true_and,Bool.eq_iff_iff,decide_eq_true_eq,decide_eq_true_eq];omega),trivial⟩,trivial⟩ rfl (by simp)
 have d:=Cp g;refine⟨fun _=>YB (by kernel_rfl),?_⟩;exact fA ⟨⟨rfl,congrArg _ (by rw[h,show (AJ (AB l)).length=l.length by rw[<-a];omega,beq_self_eq_true,d];rfl),trivial⟩,trivial⟩ rfl (by simp)
theorem QCx (r:c=FM b1 l1 b2 l2) (s1:l1.length<=17592186042000) (s2:l2.length<=17592186042000):CF 113 [.agg [.bool b1,.sl .u32 l1,.bool b2,.sl .u32 l2]] (.one (.bool c)):=by
 refine AE Tryz.func113 (by kernel_rfl) rfl fun E i=>?_
 conv=>cbv
 obtain⟨D,a⟩:=xB (E2 b1 l1);refine cL i (QBd a) ⟨t2,trivial⟩ ?_;try conv=>cbv
 cases D <;> conv=>cbv
 ·exact fA ⟨⟨rfl,congrArg _ (by rw[r];unfold FM;rw[<-a];rfl),trivial⟩,trivial⟩ rfl (by simp)
 obtain⟨F,d⟩:=xB (E2 b2 l2);refine cL i (QBd d) ⟨t2,trivial⟩ ?_;try conv=>cbv
 cases F <;> conv=>cbv
 ·exact fA ⟨⟨rfl,congrArg _ (by rw[r];unfold FM;rw[<-d];exact Bool.and_false _),trivial⟩,trivial⟩ rfl (by simp)
 obtain⟨x,hx⟩:=H3.1 a.symm;obtain⟨y,t⟩:=H3.1 d.symm;obtain⟨G,o⟩:=xI (BO y);refine cL i (G7 t o) ⟨t2,trivial⟩ ?_;try conv=>cbv
 intro v h;conv=>cbv
 cases v <;> conv=>cbv
 ·have u:=BZ h;exact fA ⟨⟨rfl,congrArg _ (by rw[r];exact aB t (by omega)),trivial⟩,trivial⟩ rfl (by simp)
 have u:=Ba h;obtain⟨w,z,g⟩:=AP (((Nat.gcd x.natAbs y.natAbs:Nat):Int));refine cL i (E8 hx t g (by omega) (by omega)) ⟨t2,t2,trivial⟩ ?_;try conv=>cbv
 obtain⟨B,f⟩:=xB (decide (((Nat.gcd x.natAbs y.natAbs:Nat):Int)=1));refine cL i (Gd g f) ⟨t2,trivial⟩ ?_;try conv=>cbv
 exact fA ⟨⟨rfl,congrArg _ (by rw[r];exact aA a d hx t (by omega) f),trivial⟩,trivial⟩ rfl (by simp)
theorem QAX (g:c=QAV b1 l1 b2 l2):CF 46 [.agg [.bool b1,.sl .u32 l1,.bool b2,.sl .u32 l2],.one (.int .i64 4)] (.one (.bool c)):=by
 unfold QAV at g;refine AE Tryz.func46 (by kernel_rfl) rfl fun E v=>?_
 conv=>cbv
 rintro y ⟨x,f8⟩;conv=>cbv
 intro o d;conv=>cbv
 cases o <;> conv=>cbv
 ·have h:=Hd d;exact fA ⟨⟨rfl,congrArg _ (by rw[g,decide_eq_false (by omega)];rfl),trivial⟩,trivial⟩ rfl (by simp)
 have h:=He d;rintro w ⟨u,f15⟩;conv=>cbv
 intro r f;conv=>cbv
 cases r <;> conv=>cbv
 ·have i:=Hd f;exact fA ⟨⟨rfl,congrArg _ (by rw[g,decide_eq_false (p:=l2.length<=4) (by omega),Bool.false_and,Bool.and_false]),trivial⟩,trivial⟩ rfl (by simp)
 have i:=He f;obtain⟨t,a⟩:=xB (FM b1 l1 b2 l2);refine cL v (QCx a (by omega) (by omega)) ⟨t4,trivial⟩ ?_;try conv=>cbv
 exact fA ⟨⟨rfl,congrArg _ (by rw[g,decide_eq_true (by omega),decide_eq_true (by omega),a];rfl),trivial⟩,trivial⟩ rfl (by simp)
theorem QCm {L:List (el AZ)} {i:Int} (a:L=ns.map nm) (f:i=(ns.length:Int)-1) (d:n=Du ns (ns.length-1)) (hT:T=tw n.1) (hA:A=em n.1 n.2):CF 64 [.one (.sl AZ L),.one (.int .i64 i)] (.agg [.sl (.sl AA) T,.sl AA A]):=by
 by_cases h:ns=[]
 ·subst h;have e:n=Gz:=d;rw[e] at hT hA;rw[show T=[] from hT];exact cO a hA
 have:=List.length_pos_iff.2 h;exact UR a h ⟨by omega⟩ d hT hA
theorem D0 {W:List UInt8} (d:ns=(runN (X.take 24)).1) (h:V.length<=3) (t:∀n∈ns,BI V n) (o:n=Du ns (ns.length-1)) (hT:T=tw n.1) (hA:A=em n.1 n.2):CF 47 [.agg [.sl Bl X,.sl .u8 W]] (.agg [.sl (.sl AA) T,.sl AA A]):=by
 refine AE Tryz.func47 (by kernel_rfl) rfl fun E f=>?_
 conv=>cbv
 obtain⟨L6,a⟩:∃z:List (el AZ),z=ns.map nm:=⟨_,rfl⟩
 have i:L6.length=ns.length:=by rw[a,List.length_map]
 refine cL (r:= .one (.sl AZ L6)) f (OK (by rw[a,d])) t1 ?_;try conv=>cbv
 rintro w ⟨v,f9⟩;conv=>cbv
 intro u g;conv=>cbv
 refine g1 (by omega) ?_;refine cL f (QCm a (by omega) o hT hA) t2 ?_;try conv=>cbv
 exact fA ⟨t3,trivial⟩ rfl (by simp)
theorem QEE {W:List UInt8} (U:ns=(runN (X.take 24)).1) (r:V.length<=3) (t:∀n∈ns,BI V n) {c1 c2:Bool} {m1 m2:List UInt32}:CF 11 [.agg [.sl Bl X,.sl .u8 W],.agg [.bool b1,.sl .u32 l1,.bool c1,.sl .u32 m1],.agg [.bool b2,.sl .u32 l2,.bool c2,.sl .u32 m2]] (.one (.bool true)):=by
 have F:=ah r t;obtain⟨Q,hQ⟩:∃z,z=ag ns W:=⟨_,rfl⟩
 obtain⟨c,hc⟩:=xB (decide (2<=Q.length));refine AE Tryz.func11 (by kernel_rfl) rfl fun E f=>?_
 conv=>cbv
 refine cL f (a8 U r t hQ (i':=2) ⟨rfl⟩ (by decide) hc) ⟨t2,rfl,trivial⟩ ?_;try conv=>cbv
 refine cL f aa trivial ?_;try conv=>cbv
 intro aD a7;cases a7.trans (rfl:_=false);conv=>cbv
 intro ad H;conv=>cbv
 cases ad <;> conv=>cbv
 ·have a1:=Co H;have hl:2<=Q.length:=of_decide_eq_true (hc.symm.trans a1);obtain⟨aB,w⟩:=xB (QAV b1 l1 c1 m1);refine cL f (QAX w) ⟨t4,rfl,trivial⟩ ?_;try conv=>cbv
  intro ai I;conv=>cbv
  cases ai <;> conv=>cbv
  ·have a2:=Co I;obtain⟨q1,Y,N,P⟩:=B2 (w.symm.trans a2);obtain⟨aC,x⟩:=xB (QAV b2 l2 c2 m2);refine cL f (QAX x) ⟨t4,rfl,trivial⟩ ?_;try conv=>cbv
   intro aj J;conv=>cbv
   cases aj <;> conv=>cbv
   ·have a5:=Co J;obtain⟨q2,Z,O,R⟩:=B2 (x.symm.trans a5);obtain⟨n,hn⟩:∃z,z=Du ns (ns.length-1):=⟨_,rfl⟩
    have S:=bu r t (hn ▸ bj ns (ns.length-1));obtain⟨T3,M⟩:=B9 (tw n.1);obtain⟨A3,K⟩:=BB (em n.1 n.2);have h3:Nvv (Tf (PN ns)) (Lvv 0) T3 A3 n:=⟨S.2,M,K,S.1⟩;refine cL f (D0 U r t hn M K) ⟨t2,trivial⟩ ?_;try conv=>cbv
    obtain⟨h,a⟩:=AF (l:=Q) (i:=0) (by omega);refine⟨h,fun _=>⟨by omega,a⟩,?_⟩;try conv=>cbv
    obtain⟨v,g⟩:=AF (l:=Q) (i:=1) (by omega);refine⟨v,fun _=>⟨by omega,g⟩,?_⟩;try conv=>cbv
    obtain⟨y,d⟩:=aZ r t hQ a;obtain⟨B,o⟩:=aZ r t hQ g;obtain⟨T5,A5,T6,A6,h5⟩:=d.add F (by decide) o;refine cL f (cD F (by decide) d o h5) ⟨t4,t4,trivial⟩ ?_;try conv=>cbv
    refine⟨fun _=>YB (by kernel_rfl),?_⟩;refine⟨h,fun _=>⟨by omega,a⟩,?_⟩;try conv=>cbv
    refine⟨v,fun _=>⟨by omega,g⟩,?_⟩;try conv=>cbv
    refine cL f (cM F (by decide) d o h5) ⟨t4,t4,trivial⟩ ?_;try conv=>cbv
    refine⟨fun _=>YB (by kernel_rfl),?_⟩;refine⟨h,fun _=>⟨by omega,a⟩,?_⟩;try conv=>cbv
    refine⟨v,fun _=>⟨by omega,g⟩,?_⟩;try conv=>cbv
    obtain⟨av,ak,aw,al,D⟩:=d.sub F (by decide) o;refine cL f (QDN F (by decide) d o D) ⟨t4,t4,trivial⟩ ?_;try conv=>cbv
    refine⟨fun _=>YB (by kernel_rfl),?_⟩;refine⟨h,fun _=>⟨by omega,a⟩,?_⟩;try conv=>cbv
    refine⟨v,fun _=>⟨by omega,g⟩,?_⟩;try conv=>cbv
    obtain⟨_,_,ab⟩:=o.af F (by decide);obtain⟨ax,an,ay,ao,G⟩:=d.add F (by decide) ab;refine cL f (dC F (by decide) d o G) ⟨t4,t4,trivial⟩ ?_;try conv=>cbv
    refine⟨fun _=>YB (by kernel_rfl),?_⟩;refine⟨h,fun _=>⟨by omega,a⟩,?_⟩;try conv=>cbv
    obtain⟨az,aq,aA,ar,u⟩:=d.scale F (by decide) h3;refine cL f (cp F (by decide) d h3 u) ⟨t4,t2,trivial⟩ ?_;try conv=>cbv
    refine⟨fun _=>YB (by kernel_rfl),?_⟩;refine⟨h,fun _=>⟨by omega,a⟩,?_⟩;try conv=>cbv
    refine cL f (c8 F (by decide) d h3 u) ⟨t4,t2,trivial⟩ ?_;try conv=>cbv
    refine⟨fun _=>YB (by kernel_rfl),?_⟩;refine cL f (bm F (by decide) h5 h5 ⟨rfl,rfl⟩) ⟨t4,rfl,t4,rfl,trivial⟩ ?_;try conv=>cbv
    have a6:au (dV y B) (ae y (af B)):=⟨show y.1.2-B.1.2=y.1.2+ -B.1.2 by grind,show y.2.2-B.2.2=y.2.2+ -B.2.2 by grind⟩;refine cL f (bm F (by decide) D G a6) ⟨t4,rfl,t4,rfl,trivial⟩ ?_;try conv=>cbv
    refine cL f (bm F (by decide) u u ⟨rfl,rfl⟩) ⟨t4,rfl,t4,rfl,trivial⟩ ?_;try conv=>cbv
    refine⟨h,fun _=>⟨by omega,a⟩,?_⟩;try conv=>cbv
    obtain⟨A7,h7⟩:=d.left F (by decide);refine cL f (bW F (by decide) d h7) ⟨t4,trivial⟩ ?_;try conv=>cbv
    refine⟨h,fun _=>⟨by omega,a⟩,?_⟩;try conv=>cbv
    refine cL f (cw F (by decide) d h7) ⟨t4,trivial⟩ ?_;try conv=>cbv
    refine cL f (bm F (by decide) h7 h7 ⟨rfl,rfl⟩) ⟨t4,rfl,t4,rfl,trivial⟩ ?_;try conv=>cbv
    obtain⟨A8,h8⟩:=Nvv.rat F (Nat.zero_le _) (Bs N P);obtain⟨A9,h9⟩:=Nvv.rat F (Nat.zero_le _) (Bs O R);have hm:Wvv (Tf (PN ns)) (Lvv 0) [] A8 [] A9 (qV q1 q2):=⟨h8,h9⟩;refine cL f (cn Y Z (QCC N P) (QCC O R) h8.hA h9.hA) ⟨t4,t4,trivial⟩ ?_;try conv=>cbv
    refine cL f (cr Y Z h8.hA h9.hA) ⟨t4,t4,trivial⟩ ?_;try conv=>cbv
    refine cL f (bm F (by decide) hm hm ⟨rfl,rfl⟩) ⟨t4,rfl,t4,rfl,trivial⟩ ?_;try conv=>cbv
    refine⟨fun _=>YB (by kernel_rfl),?_⟩;exact fA ⟨t2,trivial⟩ rfl (by simp)
   have a5:=Cp J;refine cL f aa trivial ?_;try conv=>cbv
   exact fA ⟨t2,trivial⟩ rfl (by simp)
  have a2:=Cp I;refine cL f aa trivial ?_;try conv=>cbv
  exact fA ⟨t2,trivial⟩ rfl (by simp)
 have a1:=Cp H;refine cL f aa trivial ?_;try conv=>cbv
 exact fA ⟨t2,trivial⟩ rfl (by simp)
end Go.Abs
