/- Part 43 of a proof. Conditions: each theorem's own. -/
import Derived.Test.YtoonaidhfikkeaaGreatPk40
set_option linter.all false
set_option maxHeartbeats 8000000
open Go.Proofs
namespace Go.Abs
open Go.RowKit
variable {A A1 A2 C:LR} {L:List (el AY)} {T T1 T2 o:List LR} {c:Bool} {i' k:Nat} {ns:List Nu} {q:Rat} {s xs:List Rat} {ts:List (List Rat)}
theorem M0 {i:Nat} (h:xs[k]? =some q):Bm i k (xs.drop k)=((Dh k i&&q !=0)||Bm i (k+1) (xs.drop (k+1))):=by
 have a:=Fg h;rw[List.drop_eq_getElem_cons a,Bm];rw[List.getElem?_eq_getElem a] at h;rw[Option.some.inj h]
theorem YE {i:Nat} (h:k<xs.length) (hb:Dh k i=false):Bm i k (xs.drop k)=Bm i (k+1) (xs.drop (k+1)):=by
 obtain⟨q,a⟩:=AG h;rw[M0 a,hb];rfl
theorem LB {i:Nat} (h:xs[k]? =some q):Az i 0 (xs.take (k+1))=Az i 0 (xs.take k)++(if Dh k i=true then [] else [q]):=by
 have a:=Fg h;rw[BJ h,K9,Nat.zero_add,List.length_take,Nat.min_eq_left (by omega),Az,Az]
theorem TY (i:Nat):∀(k:Nat) (l:List Rat),(Az i k l).length<=l.length
 | _,[]=>Nat.le_refl _
 | k,x::l=>by
  rw[Az];have:=TY i (k+1) l
  split
  ·rw[List.length_cons];omega
  rw[List.length_cons,List.length_cons];omega
theorem Ly {i:Nat} {b a:Int} (d:b=((k/2^i:Nat):Int)) (f:a=b%2):(Dh k i=true↔a=1)/\(Dh k i=false↔a=0):=by
 unfold Dh
 constructor
 ·rw[beq_iff_eq];omega
 rw[beq_eq_false_iff_ne];omega
theorem KH {n:Nat}:(AJ n).length<=2↔n<18446744073709551616:=by
 constructor
 ·intro h;have a:=Bk (AJ n);rw[Af] at a;exact Nat.lt_of_lt_of_le a (Nat.pow_le_pow_right (by decide) (by omega:32*(AJ n).length<=64))
 intro h;exact EC (k:=2) h
theorem GX {b1 b2:Bool} {l1 l2:List UInt32} (h:Ap q b1 l1 b2 l2):Bq q↔l1.length<=2/\l2.length<=2:=by
 have a:=h.num.An;have b:=h.den.An;rw[a,b,KH,KH];unfold Bq;rw[Int.natAbs_natCast]
theorem ZA (h:C0 q=0):q=0:=by
 unfold C0 BR at h
 split at h
 ·omega
 split at h
 ·exact Rat.num_eq_zero.1 (by assumption)
 omega
theorem TH {p:Rat->Prop} (h:∀x∈xs.take k,p x) (d:xs[k]? =some q) (b:p q):∀x∈xs.take (k+1),p x:=by
 intro x a;rw[BJ d] at a;rcases List.mem_append.1 a with a | a
 ·exact h x a
 rw[List.mem_singleton.1 a];exact b
theorem Oq {i:Int} (N:A=AW xs) (U:AK i i') (h6:i'<=60) (O:c=Bm i' 0 xs):CF 166 [.one (.sl AA A),.one (.int .i64 i)] (.one (.bool c)):=by
 have ei:=U.eq;have S:A.length=xs.length:=by rw[N,List.length_map]
 refine AE Tryz.func166 (by kernel_rfl) rfl fun E T=>?_
 conv=>cbv
 refine .inr ?_;obtain⟨Q,a⟩:=xJ fun P R k=>∃(k':Nat) (j:Int),P=[.one (.sl AA A),.one (.int .i64 i),.one (.int .i64 j)]/\(AK j k'/\k'<=xs.length)/\Bm i' 0 xs=Bm i' k' (xs.drop k')/\k=xs.length-k'
 refine⟨[0,1,5],[],Q,⟨xs.length-0,by rw[a];exact⟨0,0,rfl,⟨Ah 0,by omega⟩,by rw[List.drop_zero],rfl⟩⟩,?_⟩;intro P R Y y;rw[a] at y;obtain⟨k',j,rfl,⟨y,V⟩,hinv,W⟩:=y;conv=>cbv
 have ej:=y.eq;rintro n8 ⟨e8,f8⟩;conv=>cbv
 intro n9 M;conv=>cbv
 cases n9 <;> conv=>cbv
 ·have X:=AR M;exact fA ⟨⟨rfl,congrArg _ (by rw[O,hinv,show k'=xs.length by omega,List.drop_length];rfl),trivial⟩,trivial⟩ rfl (by simp)
 have X:=AS M;refine .inr ?_;intro H D;conv=>cbv
 refine g2 (by omega) ?_;obtain⟨d14,t,z⟩:∃d:Nat,d=k'/2^i'/\H=d:=⟨_,rfl,shr_var (p:=k') (e:=i') D (by omega) (by omega) (by show i'<=64;omega)⟩
 intro Z F;conv=>cbv
 refine g2 (by omega) ?_;have b:=Ly (k:=k') (i:=i') (by rw[z,t]) F;intro I n;conv=>cbv
 cases I <;> conv=>cbv
 ·have v:=Ab n;intro m B;conv=>cbv
  refine g1 (by omega) ?_;refine⟨xs.length-(k'+1),?_,?_⟩
  ·omega
  rw[a];refine⟨k'+1,m,rfl,⟨⟨by omega⟩,by omega⟩,?_,rfl⟩;rw[hinv,YE (by omega) (b.2.2 (by omega))]
 have v:=Ad n;obtain⟨K,h⟩:=AG (l:=A) (i:=k') (by omega);refine⟨K,fun _=>⟨by omega,by rw[show (j).toNat=k' by omega];exact h⟩,?_⟩;try conv=>cbv
 obtain⟨x,u,f,_⟩:=GC N h;obtain⟨a1,g⟩:=xI (C0 x);refine cL T (Oc u g) ⟨t4,trivial⟩ ?_;try conv=>cbv
 intro J r;conv=>cbv
 cases J <;> conv=>cbv
 ·have w:=DR r;intro m B;conv=>cbv
  refine g1 (by omega) ?_;refine⟨xs.length-(k'+1),?_,?_⟩
  ·omega
  rw[a];refine⟨k'+1,m,rfl,⟨⟨by omega⟩,by omega⟩,?_,rfl⟩;have G:x=0:=ZA (by omega);rw[hinv,M0 f,G];simp
 have w:=DS r;exact fA ⟨⟨rfl,congrArg _ (by rw[O,hinv,M0 f,b.1.2 v,bne_iff_ne.2 (fun e=>w (by rw[g,e];rfl))];rfl),trivial⟩,trivial⟩ rfl (by simp)
theorem Oz {i:Int} (V:A=AW xs) (hi:AK i i') (h6:i'<=60) (hl:xs.length<=1000000) (hC:C=AW (Az i' 0 xs)):CF 167 [.one (.sl AA A),.one (.int .i64 i)] (.one (.sl AA C)):=by
 have ei:=hi.eq;have a1:A.length=xs.length:=by rw[V,List.length_map]
 refine AE Tryz.func167 (by kernel_rfl) rfl fun E hE=>?_
 conv=>cbv
 refine .inr ?_;obtain⟨J0,h⟩:=xJ fun Z T k=>(∃(k':Nat) (j:Int),Z=[.one (.sl AA A),.one (.int .i64 i),.one .nil,.one (.int .i64 j)]/\T=[.dead 0]/\(AK j k'/\k'<=xs.length)/\Az i' 0 (xs.take k')=[]/\k=xs.length-k')\/(∃(o:LR) (n k':Nat) (j:Int),Z=[.one (.sl AA A),.one (.int .i64 i),.one (.AM AA 24 0 0 n),.one (.int .i64 j)]/\T=[.arr 0 AA o]/\(AK j k'/\k'<=xs.length/\n=o.length)/\o=AW (Az i' 0 (xs.take k'))/\k=xs.length-k')
 refine⟨[0,1,5,6],[24],J0,⟨xs.length-0,by rw[h];exact .inl ⟨0,0,rfl,rfl,⟨Ah 0,by omega⟩,rfl,rfl⟩⟩,?_⟩;intro Z T a5 N;rw[h] at N;rcases N with⟨k',j,rfl,rfl,⟨N,W⟩,hinv,X⟩ |⟨o,n,k',j,rfl,rfl,⟨N,W,hn⟩,hinv,X⟩
 ·conv=>cbv
  have ej:=N.eq;rintro n9 ⟨e9,f9⟩;conv=>cbv
  intro J m;conv=>cbv
  cases J <;> conv=>cbv
  ·have G:=AR m;exact fA ⟨⟨rfl,.inr (.inl ⟨_,congrArg _ (by rw[hC];rw[show k'=xs.length by omega,List.take_length] at hinv;rw[hinv];rfl)⟩),trivial⟩,trivial⟩ rfl (by simp)
  have G:=AS m;refine .inr ?_;intro K z;conv=>cbv
  refine g2 (by omega) ?_;obtain⟨d15,t,x⟩:∃d:Nat,d=k'/2^i'/\K=d:=⟨_,rfl,shr_var (p:=k') (e:=i') z (by omega) (by omega) (by show i'<=64;omega)⟩
  intro Y B;conv=>cbv
  refine g2 (by omega) ?_;have b:=Ly (k:=k') (i:=i') (by rw[x,t]) B;intro M r;conv=>cbv
  refine .inr ?_;cases M <;> conv=>cbv
  ·have H:=Ab r;intro g y;conv=>cbv
   refine g1 (by omega) ?_;refine⟨xs.length-(k'+1),?_,?_⟩
   ·omega
   rw[h];obtain⟨qq,D⟩:=AG (l:=xs) (i:=k') (by omega);exact .inl ⟨k'+1,g,rfl,rfl,⟨⟨by omega⟩,by omega⟩,by rw[LB D,hinv,if_pos (b.1.2 (by omega))];rfl,rfl⟩
  have H:=Ad r
  obtain⟨v,R,u,F⟩:∃q,Ap q (rp q).1.1 (rp q).1.2 (rp q).2.1 (rp q).2.2/\xs[k']? =some q/\A[k']? =some (rp q):=by
   obtain⟨q,Q⟩:=AG (l:=xs) (i:=k') (by omega);exact⟨q,EB q,Q,by rw[V,List.getElem?_map,Q];rfl⟩
  obtain⟨a,f⟩:=AG (l:=A) (i:=k') (by omega);refine⟨a,fun _=>⟨by omega,by rw[show (j).toNat=k' by omega];exact f⟩,?_⟩;try conv=>cbv
  refine⟨[((a.1.1,a.1.2),(a.2.1,a.2.2))],fun _=>⟨rfl,by decide,rfl,⟨rfl,by first | exact t1 | exact t2 | exact t4 | simp[Ac,Ak,cells],trivial⟩⟩,.inr ?_⟩;try conv=>cbv
  refine .inl ⟨[((a.1.1,a.1.2),(a.2.1,a.2.2))],fun _=>⟨rfl,by show (1)*64<=140737488355328;(try simp only[List.length_take,List.length_drop]);omega⟩,?_⟩;intro S U;conv=>cbv
  intro g y;conv=>cbv
  refine g1 (by omega) ?_;refine⟨xs.length-(k'+1),?_,?_⟩
  ·omega
  rw[h];have ex:a=rp v:=by have:=f.symm.trans F;exact Option.some.inj this
  refine .inr ⟨_,_,k'+1,g,rfl,rfl,⟨⟨by omega⟩,by omega,U⟩,?_,rfl⟩;rw[LB u,if_neg (by rw[b.2.2 (by omega)];decide)];rw[hinv];show _=[rp v];rw[<-ex]
 conv=>cbv
 have ej:=N.eq;have a2:o.length<=xs.length:=by rw[hinv,List.length_map];have:=TY i' 0 (xs.take k');rw[List.length_take] at this;omega
 rintro n9 ⟨e9,f9⟩;conv=>cbv
 intro J m;conv=>cbv
 cases J <;> conv=>cbv
 ·have G:=AR m;exact fA ⟨⟨rfl,.inl ⟨_,rfl,by omega,congrArg _ (by rw[hC,hn,List.drop_zero,List.take_length,hinv,show k'=xs.length by omega,List.take_length])⟩,trivial⟩,trivial⟩ rfl (by simp)
 have G:=AS m;refine .inr ?_;intro K z;conv=>cbv
 refine g2 (by omega) ?_;obtain⟨d15,t,x⟩:∃d:Nat,d=k'/2^i'/\K=d:=⟨_,rfl,shr_var (p:=k') (e:=i') z (by omega) (by omega) (by show i'<=64;omega)⟩
 intro Y B;conv=>cbv
 refine g2 (by omega) ?_;have b:=Ly (k:=k') (i:=i') (by rw[x,t]) B;intro M r;conv=>cbv
 refine .inr ?_;cases M <;> conv=>cbv
 ·have H:=Ab r;intro g y;conv=>cbv
  refine g1 (by omega) ?_;refine⟨xs.length-(k'+1),?_,?_⟩
  ·omega
  rw[h];obtain⟨qq,D⟩:=AG (l:=xs) (i:=k') (by omega);exact .inr ⟨o,n,k'+1,g,rfl,rfl,⟨⟨by omega⟩,by omega,hn⟩,by rw[LB D,if_pos (b.1.2 (by omega)),List.append_nil];exact hinv,rfl⟩
 have H:=Ad r
 obtain⟨v,R,u,F⟩:∃q,Ap q (rp q).1.1 (rp q).1.2 (rp q).2.1 (rp q).2.2/\xs[k']? =some q/\A[k']? =some (rp q):=by
  obtain⟨q,Q⟩:=AG (l:=xs) (i:=k') (by omega);exact⟨q,EB q,Q,by rw[V,List.getElem?_map,Q];rfl⟩
 obtain⟨a,f⟩:=AG (l:=A) (i:=k') (by omega);refine⟨a,fun _=>⟨by omega,by rw[show (j).toNat=k' by omega];exact f⟩,?_⟩;try conv=>cbv
 refine⟨[((a.1.1,a.1.2),(a.2.1,a.2.2))],fun _=>⟨rfl,by decide,rfl,⟨rfl,by first | exact t1 | exact t2 | exact t4 | simp[Ac,Ak,cells],trivial⟩⟩,.inr ?_⟩;try conv=>cbv
 refine .inl ⟨[((a.1.1,a.1.2),(a.2.1,a.2.2))],fun _=>⟨rfl,by (first | rfl | omega),rfl,by show (o.length+1)*64<=140737488355328;(try simp only[List.length_take,List.length_drop]);omega⟩,?_⟩;intro (I:LR) S w;have O:I=(o:LR)++([((a.1.1,a.1.2),(a.2.1,a.2.2))]:LR):=w.1;have P:S=List.length (α:=(el AA)) I:=w.2;conv=>cbv
 intro g y;conv=>cbv
 refine g1 (by omega) ?_;refine⟨xs.length-(k'+1),?_,?_⟩
 ·omega
 rw[h];have ex:a=rp v:=by have:=f.symm.trans F;exact Option.some.inj this
 refine .inr ⟨I,_,k'+1,g,rfl,rfl,⟨⟨by omega⟩,by omega,P⟩,?_,rfl⟩;rw[LB u,if_neg (by rw[b.2.2 (by omega)];decide)];rw[O,hinv];show _=List.map rp _;rw[List.map_append];show _=AW _++[rp v];rw[<-ex]
theorem HA:CF 113 [.agg [.sl (.sl AA) T1,.sl AA A1],.one (.int .i64 0),.agg [.sl (.sl AA) T2,.sl AA A2]] (.agg [.sl (.sl AA) T1,.sl AA A1]):=by
 refine AE Tryz.func113 (by kernel_rfl) rfl fun E b=>?_
 conv=>cbv
 intro d a;cases a.trans (show _=false by decide);conv=>cbv
 exact fA ⟨t3,trivial⟩ rfl (by simp)
theorem VF:CF 113 [.agg [.sl (.sl AA) T1,.sl AA A1],.one (.int .i64 6),.agg [.sl (.sl AA) T2,.sl AA A2]] (.agg [.sl (.sl AA) T2,.sl AA A2]):=by
 refine AE Tryz.func113 (by kernel_rfl) rfl fun E b=>?_
 conv=>cbv
 intro d a;cases a.trans (show _=true by decide);conv=>cbv
 exact fA ⟨t3,trivial⟩ rfl (by simp)
theorem Zx (h:∀x∈ts.take k,∀q∈x,Bq q) (d:ts[k]? =some s) (b:∀q∈s,Bq q):∀x∈ts.take (k+1),∀q∈x,Bq q:=by
 intro x a;rw[BJ d] at a;rcases List.mem_append.1 a with a | a
 ·exact h x a
 rw[List.mem_singleton.1 a];exact b
def JF (ts:List (List Rat)) (xs:List Rat):Prop:=(∃q∈xs,¬Bq q)\/∃s∈ts,∃q∈s,¬Bq q
theorem VE (hT:T=ts.map AW) (hA:A=AW xs) (hc:c=true↔JF ts xs):CF 117 [.agg [.sl (.sl AA) T,.sl AA A]] (.one (.bool c)):=by
 have aN:A.length=xs.length:=by rw[hA,List.length_map]
 have aO:T.length=ts.length:=by rw[hT,List.length_map]
 refine AE Tryz.func117 (by kernel_rfl) rfl fun E hE=>?_
 conv=>cbv
 refine .inr ?_;obtain⟨J0,K⟩:=xJ fun F v k=>∃(k':Nat) (j:Int),F=[.one (.Am 1 0 0),.one (.bool false),.one (.int .i64 j)]/\v=[.var 0 [.sl (.sl AA) T,.sl AA A]]/\(AK j k'/\k'<=xs.length)/\(∀q∈xs.take k',Bq q)/\k=xs.length-k'
 refine⟨[1,2,3],[1],J0,⟨xs.length-0,by rw[K];exact⟨0,0,rfl,rfl,⟨Ah 0,by omega⟩,by simp,rfl⟩⟩,?_⟩;intro F v aW r;rw[K] at r;obtain⟨k',j,rfl,rfl,⟨r,aP⟩,hinv,aQ⟩:=r;conv=>cbv
 have ej:=r.eq;rintro aZ ⟨aD,f10⟩;conv=>cbv
 intro ai W;conv=>cbv
 cases ai <;> conv=>cbv
 ·have aa:=AR W;refine .inr ?_;obtain⟨J1,M⟩:=xJ fun F v k=>∃(m':Nat) (m:Int),F=[.one (.Am 1 0 0),.one (.bool false),.one (.int .i64 m)]/\v=[.var 0 [.sl (.sl AA) T,.sl AA A]]/\(AK m m'/\m'<=ts.length)/\(∀s∈ts.take m',∀q∈s,Bq q)/\k=ts.length-m'
  refine⟨[1,2,4],[1],J1,⟨ts.length-0,by rw[M];exact⟨0,0,rfl,rfl,⟨Ah 0,by omega⟩,by simp,rfl⟩⟩,?_⟩;intro F v aX r;rw[M] at r;obtain⟨m',m,rfl,rfl,⟨hm,aT⟩,w,aR⟩:=r;conv=>cbv
  have em:=hm.eq;rintro b1 ⟨aG,f37⟩;conv=>cbv
  intro ao Z;conv=>cbv
  cases ao <;> conv=>cbv
  ·have ae:=AR Z;exact fA ⟨⟨rfl,congrArg _ (by rw[Bool.eq_false_iff];intro h;rcases hc.1 h with⟨q,hq,hn⟩ |⟨s,hs,q,hq,hn⟩;exact hn (hinv q (by rw[List.take_of_length_le (by omega)];exact hq));exact hn (w s (by rw[List.take_of_length_le (by omega)];exact hs) q hq)),trivial⟩,trivial⟩ rfl (by simp)
  have ae:=AS Z;refine .inr ?_
  obtain⟨s2,x,Q⟩:∃s,T[m']? =some (AW s)/\ts[m']? =some s:=by
   obtain⟨s,hs⟩:=AG (l:=ts) (i:=m') (by omega);exact⟨s,by rw[hT,List.getElem?_map,hs];rfl,hs⟩
  refine .inr ?_;obtain⟨J2,N⟩:=xJ fun F v k=>∃(t:Nat) (p:Int),F=[.one (.Am 1 0 0),.one (.bool false),.one (.int .i64 m),.one (.int .i64 p)]/\v=[.var 0 [.sl (.sl AA) T,.sl AA A]]/\(AK p t/\t<=s2.length)/\(∀q∈s2.take t,Bq q)/\k=s2.length-t
  refine⟨[1,2,4,5],[1],J2,⟨s2.length-0,by rw[N];exact⟨0,0,rfl,rfl,⟨Ah 0,by omega⟩,by simp,rfl⟩⟩,?_⟩;intro F v aY r;rw[N] at r;obtain⟨t,p,rfl,rfl,⟨hp,aU⟩,d,aS⟩:=r;conv=>cbv
  have ep:=hp.eq;obtain⟨S,z⟩:=AG (l:=T) (i:=m') (by omega);refine⟨S,fun _=>⟨by omega,by rw[show (m).toNat=m' by omega];exact z⟩,?_⟩;try conv=>cbv
  have a6:S=AW s2:=Option.some.inj (z.symm.trans x);have aV:S.length=s2.length:=by rw[a6,List.length_map]
  rintro b3 ⟨aH,f47⟩;conv=>cbv
  intro aq a1;conv=>cbv
  cases aq <;> conv=>cbv
  ·have af:=AR a1;intro b2 aL;conv=>cbv
   refine g1 (by omega) ?_;refine⟨ts.length-(m'+1),?_,?_⟩
   ·omega
   rw[M];exact⟨m'+1,_,rfl,rfl,⟨⟨by omega⟩,by omega⟩,Zx w Q (by rw[show t=s2.length by omega,List.take_length] at d;exact d),rfl⟩
  have af:=AS a1;refine .inr ?_;obtain⟨u,B⟩:=AG (l:=T) (i:=m') (by omega);refine⟨u,fun _=>⟨by omega,by rw[show (m).toNat=m' by omega];exact B⟩,?_⟩;try conv=>cbv
  have U:u=AW s2:=Option.some.inj (B.symm.trans x);have aC:u.length=s2.length:=by rw[U,List.length_map]
  obtain⟨b,D⟩:=AG (l:=u) (i:=t) (by omega);refine⟨b,fun _=>⟨by omega,by rw[show (p).toNat=t by omega];exact D⟩,?_⟩;try conv=>cbv
  obtain⟨q3,a8,P,_⟩:=GC U D;have g:Ap q3 b.1.1 b.1.2 b.2.1 b.2.2:=a8;intro ar I;have aI:=I.eq;have f62:=I.le;conv=>cbv
  have az:ar=((List.length b.1.2:Nat):Int):=I.eq;intro au a2;conv=>cbv
  cases au <;> conv=>cbv
  ·have ag:=Bc a2;intro av J;have aJ:=J.eq;have f68:=J.le;conv=>cbv
   have aA:av=((List.length b.2.2:Nat):Int):=J.eq;intro aw a5;conv=>cbv
   cases aw <;> conv=>cbv
   ·have ah:=Bc a5;intro b4 aM;conv=>cbv
    refine g1 (by omega) ?_;refine⟨s2.length-(t+1),?_,?_⟩
    ·omega
    rw[N];exact⟨t+1,_,rfl,rfl,⟨⟨by omega⟩,by omega⟩,TH d P ((GX g).2 ⟨by omega,by omega⟩),rfl⟩
   have ah:=Be a5;exact fA ⟨⟨rfl,congrArg _ (hc.2 (.inr ⟨s2,List.mem_of_getElem? Q,q3,List.mem_of_getElem? P,fun h=>by have:=(GX g).1 h;omega⟩)),trivial⟩,trivial⟩ rfl (by simp)
  have ag:=Be a2;exact fA ⟨⟨rfl,congrArg _ (hc.2 (.inr ⟨s2,List.mem_of_getElem? Q,q3,List.mem_of_getElem? P,fun h=>by have:=(GX g).1 h;omega⟩)),trivial⟩,trivial⟩ rfl (by simp)
 have aa:=AS W;refine .inr ?_;obtain⟨a,n⟩:=AG (l:=A) (i:=k') (by omega);refine⟨a,fun _=>⟨by omega,by rw[show (j).toNat=k' by omega];exact n⟩,?_⟩;try conv=>cbv
 obtain⟨q1,a7,O,_⟩:=GC hA n;have f:Ap q1 a.1.1 a.1.2 a.2.1 a.2.2:=a7;intro aj G;have aE:=G.eq;have f21:=G.le;conv=>cbv
 have ax:aj=((List.length a.1.2:Nat):Int):=G.eq;intro ak X;conv=>cbv
 cases ak <;> conv=>cbv
 ·have ab:=Bc X;obtain⟨R,y⟩:=AG (l:=A) (i:=k') (by omega);refine⟨R,fun _=>⟨by omega,by rw[show (j).toNat=k' by omega];exact y⟩,?_⟩;try conv=>cbv
  have V:=Option.some.inj (y.symm.trans n);have aB:List.length R.2.2=List.length a.2.2:=by rw[V]
  intro al H;have aF:=H.eq;have f31:=H.le;conv=>cbv
  have ay:al=((List.length R.2.2:Nat):Int):=H.eq;intro an Y;conv=>cbv
  cases an <;> conv=>cbv
  ·have ad:=Bc Y;intro b0 aK;conv=>cbv
   refine g1 (by omega) ?_;refine⟨xs.length-(k'+1),?_,?_⟩
   ·omega
   rw[K];exact⟨k'+1,_,rfl,rfl,⟨⟨by omega⟩,by omega⟩,TH hinv O ((GX f).2 ⟨by omega,by omega⟩),rfl⟩
  have ad:=Be Y;exact fA ⟨⟨rfl,congrArg _ (hc.2 (.inl ⟨q1,List.mem_of_getElem? O,fun h=>by have:=(GX f).1 h;omega⟩)),trivial⟩,trivial⟩ rfl (by simp)
 have ab:=Be X;exact fA ⟨⟨rfl,congrArg _ (hc.2 (.inl ⟨q1,List.mem_of_getElem? O,fun h=>by have:=(GX f).1 h;omega⟩)),trivial⟩,trivial⟩ rfl (by simp)
theorem Uh (hT:T=ts.map AW) (hA:A=AW xs) (h1:∀q∈xs,Bq q) (h2:∀s∈ts,∀q∈s,Bq q):CF 160 [.agg [.sl (.sl AA) T,.sl AA A]] (.one (.bool true)):=by
 have aT:A.length=xs.length:=by rw[hA,List.length_map]
 have aU:T.length=ts.length:=by rw[hT,List.length_map]
 refine AE Tryz.func160 (by kernel_rfl) rfl fun E hE=>?_
 conv=>cbv
 refine .inr ?_;obtain⟨J0,K⟩:=xJ fun D u k=>∃(k':Nat) (j:Int),D=[.one (.Am 1 0 0),.one (.bool false),.one (.int .i64 j)]/\u=[.var 0 [.sl (.sl AA) T,.sl AA A]]/\(AK j k'/\k'<=xs.length)/\k=xs.length-k'
 refine⟨[1,2,3],[1],J0,⟨xs.length-0,by rw[K];exact⟨0,0,rfl,rfl,⟨Ah 0,by omega⟩,rfl⟩⟩,?_⟩;intro D u b2 r;rw[K] at r;obtain⟨k',j,rfl,rfl,⟨r,aV⟩,aW⟩:=r;conv=>cbv
 have ej:=r.eq;rintro n9 ⟨e9,f9⟩;conv=>cbv
 intro al U;conv=>cbv
 cases al <;> conv=>cbv
 ·have ae:=AR U;refine .inr ?_;obtain⟨J1,M⟩:=xJ fun D u k=>∃(m':Nat) (m:Int),D=[.one (.Am 1 0 0),.one (.bool false),.one (.int .i64 m)]/\u=[.var 0 [.sl (.sl AA) T,.sl AA A]]/\(AK m m'/\m'<=ts.length)/\k=ts.length-m'
  refine⟨[1,2,4],[1],J1,⟨ts.length-0,by rw[M];exact⟨0,0,rfl,rfl,⟨Ah 0,by omega⟩,rfl⟩⟩,?_⟩;intro D u b3 r;rw[M] at r;obtain⟨m',m,rfl,rfl,⟨hm,aZ⟩,aX⟩:=r;conv=>cbv
  have em:=hm.eq;rintro b6 ⟨aM,f36⟩;conv=>cbv
  intro au X;conv=>cbv
  cases au <;> conv=>cbv
  ·have ah:=AR X;exact fA ⟨t2,trivial⟩ rfl (by simp)
  have ah:=AS X;refine .inr ?_
  obtain⟨s2,w,ad⟩:∃s,T[m']? =some (AW s)/\ts[m']? =some s:=by
   obtain⟨s,hs⟩:=AG (l:=ts) (i:=m') (by omega);exact⟨s,by rw[hT,List.getElem?_map,hs];rfl,hs⟩
  refine .inr ?_;obtain⟨J2,N⟩:=xJ fun D u k=>∃(h:Nat) (p:Int),D=[.one (.Am 1 0 0),.one (.bool false),.one (.int .i64 m),.one (.int .i64 p)]/\u=[.var 0 [.sl (.sl AA) T,.sl AA A]]/\(AK p h/\h<=s2.length)/\k=s2.length-h
  refine⟨[1,2,4,5],[1],J2,⟨s2.length-0,by rw[N];exact⟨0,0,rfl,rfl,⟨Ah 0,by omega⟩,rfl⟩⟩,?_⟩;intro D u b4 r;rw[N] at r;obtain⟨h,p,rfl,rfl,⟨hp,b0⟩,aY⟩:=r;conv=>cbv
  have ep:=hp.eq;obtain⟨P,y⟩:=AG (l:=T) (i:=m') (by omega);refine⟨P,fun _=>⟨by omega,by rw[show (m).toNat=m' by omega];exact y⟩,?_⟩;try conv=>cbv
  have a6:P=AW s2:=Option.some.inj (y.symm.trans w);have b1:P.length=s2.length:=by rw[a6,List.length_map]
  rintro b8 ⟨aN,f46⟩;conv=>cbv
  intro av Y;conv=>cbv
  cases av <;> conv=>cbv
  ·have ai:=AR Y;intro b7 aR;conv=>cbv
   refine g1 (by omega) ?_;refine⟨ts.length-(m'+1),?_,?_⟩
   ·omega
   rw[M];exact⟨m'+1,_,rfl,rfl,⟨⟨by omega⟩,by omega⟩,rfl⟩
  have ai:=AS Y;refine .inr ?_;obtain⟨n,f⟩:=AG (l:=T) (i:=m') (by omega);refine⟨n,fun _=>⟨by omega,by rw[show (m).toNat=m' by omega];exact f⟩,?_⟩;try conv=>cbv
  have F:n=AW s2:=Option.some.inj (f.symm.trans w);have aI:n.length=s2.length:=by rw[F,List.length_map]
  obtain⟨b,g⟩:=AG (l:=n) (i:=h) (by omega);refine⟨b,fun _=>⟨by omega,by rw[show (p).toNat=h by omega];exact g⟩,?_⟩;try conv=>cbv
  obtain⟨q3,ab,a8,_⟩:=GC F g;have a5:Ap q3 b.1.1 b.1.2 b.2.1 b.2.2:=ab;have aH:=(GX a5).1 (h2 s2 (List.mem_of_getElem? ad) q3 (List.mem_of_getElem? a8));intro aw I;have aO:=I.eq;have f60:=I.le;conv=>cbv
  have aC:aw=((List.length b.1.2:Nat):Int):=I.eq;intro ax Z;conv=>cbv
  cases ax <;> conv=>cbv
  ·have aj:=Bc Z;obtain⟨Q,z⟩:=AG (l:=T) (i:=m') (by omega);refine⟨Q,fun _=>⟨by omega,by rw[show (m).toNat=m' by omega];exact z⟩,?_⟩;try conv=>cbv
   have v:=Option.some.inj (z.symm.trans f);have aJ:Q.length=s2.length:=by rw[v,F,List.length_map]
   obtain⟨t,B⟩:=AG (l:=Q) (i:=h) (by omega);refine⟨t,fun _=>⟨by omega,by rw[show (p).toNat=h by omega];exact B⟩,?_⟩;try conv=>cbv
   have S:=Option.some.inj ((show n[h]? =some t by rw[<-v];exact B).symm.trans g);have aF:List.length t.2.2=List.length b.2.2:=by rw[S]
   intro ay J;have aP:=J.eq;have f73:=J.le;conv=>cbv
   have aD:ay=((List.length t.2.2:Nat):Int):=J.eq;intro az a1;conv=>cbv
   cases az <;> conv=>cbv
   ·have ak:=Bc a1;intro b9 aS;conv=>cbv
    refine g1 (by omega) ?_;refine⟨s2.length-(h+1),?_,?_⟩
    ·omega
    rw[N];exact⟨h+1,_,rfl,rfl,⟨⟨by omega⟩,by omega⟩,rfl⟩
   have ak:=Be a1
   exfalso;omega
  have aj:=Be Z
  exfalso;omega
 have ae:=AS U;refine .inr ?_;obtain⟨a,d⟩:=AG (l:=A) (i:=k') (by omega);refine⟨a,fun _=>⟨by omega,by rw[show (j).toNat=k' by omega];exact d⟩,?_⟩;try conv=>cbv
 obtain⟨q1,aa,a7,_⟩:=GC hA d;have a2:Ap q1 a.1.1 a.1.2 a.2.1 a.2.2:=aa;have aG:=(GX a2).1 (h1 q1 (List.mem_of_getElem? a7));intro an G;have aK:=G.eq;have f20:=G.le;conv=>cbv
 have aA:an=((List.length a.1.2:Nat):Int):=G.eq;intro ao V;conv=>cbv
 cases ao <;> conv=>cbv
 ·have af:=Bc V;obtain⟨O,x⟩:=AG (l:=A) (i:=k') (by omega);refine⟨O,fun _=>⟨by omega,by rw[show (j).toNat=k' by omega];exact x⟩,?_⟩;try conv=>cbv
  have R:=Option.some.inj (x.symm.trans d);have aE:List.length O.2.2=List.length a.2.2:=by rw[R]
  intro aq H;have aL:=H.eq;have f30:=H.le;conv=>cbv
  have aB:aq=((List.length O.2.2:Nat):Int):=H.eq;intro ar W;conv=>cbv
  cases ar <;> conv=>cbv
  ·have ag:=Bc W;intro b5 aQ;conv=>cbv
   refine g1 (by omega) ?_;refine⟨xs.length-(k'+1),?_,?_⟩
   ·omega
   rw[K];exact⟨k'+1,_,rfl,rfl,⟨⟨by omega⟩,by omega⟩,rfl⟩
  have ag:=Be W
  exfalso;omega
 have af:=Be V
 exfalso;omega
theorem OS (v:L=ns.map nm) (B:∀n∈ns,(∀q∈co n.1 n.2,Bq q)/\∀s∈n.1,∀q∈s,Bq q):CF 107 [.one (.sl AY L)] (.one (.bool true)):=by
 have F:L.length=ns.length:=by rw[v,List.length_map]
 refine AE Tryz.func107 (by kernel_rfl) rfl fun E D=>?_
 conv=>cbv
 refine .inr ?_;obtain⟨x,b⟩:=xJ fun w z k=>∃(k':Nat) (j:Int),w=[.one (.sl AY L),.one (.int .i64 j)]/\(AK j k'/\k'<=L.length)/\k=L.length-k'
 refine⟨[0,3],[],x,⟨L.length-0,by rw[b];exact⟨0,0,rfl,⟨Ah 0,by omega⟩,rfl⟩⟩,?_⟩;intro w z K f;rw[b] at f;obtain⟨k',j,rfl,⟨f,G⟩,H⟩:=f;conv=>cbv
 have P:=f.eq;rintro R ⟨O,f6⟩;conv=>cbv
 intro N t;conv=>cbv
 cases N <;> conv=>cbv
 ·have J:=AR t;exact fA ⟨t2,trivial⟩ rfl (by simp)
 have J:=AS t;refine .inr ?_;obtain⟨r,a⟩:=AG (l:=L) (i:=k') (by omega);refine⟨r,fun _=>⟨by omega,by rw[show (j).toNat=k' by omega];exact a⟩,?_⟩;try conv=>cbv
 obtain⟨u,y,m,p,h⟩:=C6 v a;have d:=B _ (List.mem_of_getElem? h);refine cL D (Uh (ts:=u.reverse) (xs:=co u y) m p d.1 (fun s I=>d.2 s (List.mem_reverse.1 I))) ⟨t2,trivial⟩ ?_;try conv=>cbv
 intro M g;cases g.trans (rfl:_=false);conv=>cbv
 intro S Q;conv=>cbv
 refine g1 (by omega) ?_;refine⟨L.length-(k'+1),?_,?_⟩
 ·omega
 rw[b];exact⟨k'+1,_,rfl,⟨⟨by omega⟩,by omega⟩,rfl⟩
theorem OU {i:Int} {n:Nu} (D:L=ns.map nm) (m:ns≠[]) (K:AK i i') (M:n=Bf ns i') (J:T=tw n.1) (I:A=em n.1 n.2):CF 55 [.one (.sl AY L),.one (.int .i64 i)] (.agg [.sl (.sl AA) T,.sl AA A]):=by
 have H:=K.eq;have j:L.length=ns.length:=by rw[D,List.length_map]
 have F:0<ns.length:=List.length_pos_iff.2 m;refine AE Tryz.func55 (by kernel_rfl) rfl fun E Q=>?_
 conv=>cbv
 rintro R ⟨P,f6⟩;conv=>cbv
 intro O B;conv=>cbv
 cases O <;> conv=>cbv
 ·have G:=Ab B;intro v b;conv=>cbv
  cases v <;> conv=>cbv
  ·have d:=AR b;rintro N ⟨g,f16⟩;conv=>cbv
   intro f h;conv=>cbv
   refine g2 (by omega) ?_;have z:f=((i'%L.length:Nat):Int):=by rw[h,H,g];exact (Int.natCast_emod _ _).symm
   obtain⟨w,a⟩:=AG (l:=L) (i:=(i'%L.length)) (by exact Nat.mod_lt _ (by omega));refine⟨w,fun _=>⟨by omega,by rw[show (f).toNat=(i'%L.length) by omega];exact a⟩,?_⟩;try conv=>cbv
   obtain⟨u,y,r,t,p⟩:=C6 D a;have x:n=(u,y):=by rw[M];unfold Bf;rw[<-j,List.getD_eq_getElem?_getD,p];rfl
   exact fA ⟨⟨rfl,congrArg _ (by rw[J,x];exact r.symm),congrArg _ (by rw[I,x];exact t.symm),trivial⟩,trivial⟩ rfl (by simp)
  have d:=AS b;exact absurd d (by omega)
 have G:=Ad B;exact absurd G (by omega)
theorem Xl {i:Nat} (b:∀m,o[m]? =(ts[m]?).map fun s=>AW (if i<m/\m<k then Az i 0 s else s)) (a:ts[k]? =some s) (d:i<k) {w:LR} (hw:w=AW (Az i 0 s)):
  ∀m,(o.set k w)[m]? =(ts[m]?).map fun s=>AW (if i<m/\m<k+1 then Az i 0 s else s):=by
 intro m
 by_cases e:k=m
 ·subst e;have f:=Fg a
  have g:k<o.length:=by
   have:=b k;rw[a] at this;exact Fg this
  rw[List.getElem?_set_self g,a,Option.map_some,if_pos ⟨d,by omega⟩,hw]
 rw[List.getElem?_set_ne e,b m];have:(i<m/\m<k+1)↔(i<m/\m<k):=by omega
 simp only[this]
theorem Xk {i:Nat} (d:i<ts.length) (b:∀m,o[m]? =(ts[m]?).map fun s=>AW (if i<m/\m<ts.length then Az i 0 s else s)):o.take i++o.drop (i+1)=(ts.take i++(ts.drop (i+1)).map (Az i 0)).map AW:=by
 have e:o=(ts.take (i+1)++(ts.drop (i+1)).map (Az i 0)).map AW:=by
  apply List.ext_getElem?;intro m;rw[b m,List.getElem?_map,List.getElem?_append,List.length_take,Nat.min_eq_left (by omega)]
  by_cases hm:m<i+1
  ·rw[if_pos hm,List.getElem?_take,if_pos hm];cases ts[m]? with
   | none=>rfl
   | some s=>simp only[Option.map_some];rw[if_neg (by omega)]
  rw[if_neg hm,List.getElem?_map,List.getElem?_drop,show i+1+(m-(i+1))=m by omega]
  by_cases a:m<ts.length
  ·rw[List.getElem?_eq_getElem a];simp only[Option.map_some];rw[if_pos ⟨by omega,a⟩]
  rw[List.getElem?_eq_none (by omega)];rfl
 have hlen:(ts.take (i+1)).length=i+1:=by rw[List.length_take];omega
 rw[e,List.map_append,List.map_append,List.take_append_of_le_length (by rw[List.length_map,hlen];omega),List.drop_left' (by rw[List.length_map,hlen]),<-List.map_take,List.take_take,Nat.min_eq_left (by omega)]
theorem PB {i:Nat} {f:List Rat->Bool} (a:ts[k]? =some s) (b:i<k):((ts.drop (i+1)).take (k+1-(i+1))).any f=(((ts.drop (i+1)).take (k-(i+1))).any f||f s):=by
 rw[show k+1-(i+1)=k-(i+1)+1 by omega,BJ (l:=ts.drop (i+1)) (i:=k-(i+1)) (x:=s) (by rw[List.getElem?_drop,show i+1+(k-(i+1))=k by omega];exact a)];simp
theorem Og {u V:List (List Rat)} {x:Re} (h:AQ u) (hx:In u x) (hl:u.length<=8) (hw:E1 u.length (u.reverse,co u x)=(V.reverse,co V x)) (hT:T=tw u) (hA:A=em u x) (aO:T2=tw V) (hC:C=em V x):CF 118 [.agg [.sl (.sl AA) T,.sl AA A]] (.agg [.sl (.sl AA) T2,.sl AA C]):=by
 have bH:T.length=u.length:=by rw[hT,Ay]
 refine AE Tryz.func118 (by kernel_rfl) rfl fun E hE=>?_
 conv=>cbv
 refine⟨[],fun _=>⟨rfl,by decide,rfl,trivial⟩,.inl ?_⟩;try conv=>cbv
 refine .inl ⟨T,fun _=>⟨rfl,by (first | rfl | omega),rfl,by show (0+T.length)*24<=140737488355328;(try simp only[List.length_take,List.length_drop]);omega⟩,?_⟩;intro (af:List (el (.sl AA))) b3 S;have N:af=([]:List (el (.sl AA)))++(T:List (el (.sl AA))):=S.1;have av:b3=List.length (α:=(el (.sl AA))) af:=S.2;conv=>cbv
 refine g2 rfl ?_;intro bS aI;have bu:=aI.eq;conv=>cbv
 have aT:List.length af=List.length T:=by rw[N];rfl
 intro b4 bA;conv=>cbv
 refine g1 (by omega) ?_;refine .inr ?_
 obtain⟨J0,Y⟩:∃J:List AV->List AH->Nat->Prop,J=fun r g k=>∃(w:List (List Rat)) (O:List LR) (B:LR) (n j:Nat) (i:Int),r=[.one (.Am 2 0 0),.one (.Am 3 0 0),.one (.int .i64 i)]/\g=[.var 0 [.nil,.nil],.var 0 [.AM (.sl AA) 8 0 0 n,.sl AA B],.arr 0 (.sl AA) O]/\
  (AK (i+1) j/\n=O.length/\O=tw w/\B=em w x)/\(AQ w/\In w x/\j<=w.length/\w.length<=8)/\E1 j (w.reverse,co w x)=(V.reverse,co V x)/\k=j:=⟨_,rfl⟩
 refine⟨[2,3,4],[2,3,8],J0,⟨u.length,by rw[Y];exact⟨u,_,_,_,u.length,b4,rfl,rfl,⟨⟨by omega⟩,av,by rw[N,hT];rfl,hA⟩,⟨h,hx,Nat.le_refl _,hl⟩,hw,rfl⟩⟩,?_⟩;intro r g bP a;rw[Y] at a;obtain⟨w,O,B,n,j,i,rfl,rfl,⟨hi,hn,hO,hB⟩,⟨ad,ae,bK,F⟩,d,bL⟩:=a;conv=>cbv
 have ei:=hi.eq;obtain⟨i',bI⟩:=xN (j-1);intro b5 ak;conv=>cbv
 cases b5 <;> conv=>cbv
 ·have b0:=DO ak;exact fA ⟨⟨rfl,.inl ⟨_,rfl,by omega,congrArg _ (by rw[aO,hn,List.drop_zero,List.take_length,hO];have:=d;rw[show j=0 by omega,E1] at this;rw[tw,tw,(Prod.mk.inj this).1])⟩,congrArg _ (by rw[hC,hB];have:=d;rw[show j=0 by omega,E1] at this;rw[em,em,(Prod.mk.inj this).2]),trivial⟩,trivial⟩ rfl (by simp)
 have b0:=DP ak
 obtain⟨K1,a1⟩:∃J:List AV->List AH->Prop,J=fun r g=>∃(t:List (List Rat)) (O2:List LR) (B2:LR) (n2:Nat),r=[.one (.Am 2 0 0),.one (.Am 3 0 0),.one (.int .i64 i)]/\g=[.var 0 [.nil,.nil],.var 0 [.AM (.sl AA) 8 0 0 n2,.sl AA B2],.arr 0 (.sl AA) O2]/\
  (n2=O2.length/\O2=tw t/\B2=em t x)/\(AQ t/\In t x/\i'<=t.length/\t.length<=8)/\E1 i' (t.reverse,co t x)=(V.reverse,co V x):=⟨_,rfl⟩
 refine .inl ⟨[2,3,4],[2,3,8],K1,?_,?_⟩
 ·intro r g a;rw[a1] at a;obtain⟨t,O2,B2,n2,rfl,rfl,⟨aU,aN,aM⟩,⟨aA,aB,ar,az⟩,ay⟩:=a;conv=>cbv
  intro b6 bB;conv=>cbv
  refine g1 (by omega) ?_;refine⟨i',?_,?_⟩
  ·omega
  rw[Y];exact⟨t,O2,B2,n2,i',b6,rfl,rfl,⟨⟨by omega⟩,aU,aN,aM⟩,⟨aA,aB,ar,az⟩,ay,rfl⟩
 try conv=>cbv
 have aR:j=i'+1:=by omega
 subst aR;have D:AK i i':=⟨by omega⟩;obtain⟨ts,f⟩:∃z:List (List Rat),z=w.reverse:=⟨_,rfl⟩
 have a2:O=ts.map AW:=by rw[hO,f];rfl
 have bO:ts.length=w.length:=by rw[f,List.length_reverse]
 have bG:O.length=ts.length:=by rw[a2,List.length_map]
 have aP:(co w x).length<=1000000:=by rw[CB ae];exact Nat.le_trans (Bn F) (by decide)
 obtain⟨aF,K⟩:=xB (Bm i' 0 (co w x));refine cL hE (Oq (xs:=co w x) hB D (by omega) K) t2 ?_;try conv=>cbv
 intro b7 bC;conv=>cbv
 refine g1 (by omega) ?_;refine .inr ?_
 obtain⟨J1,y⟩:∃J:List AV->List AH->Nat->Prop,J=fun r g k=>∃(b:Bool) (k':Nat) (j:Int),r=[.one (.Am 2 0 0),.one (.Am 3 0 0),.one (.int .i64 i),.one (.bool b),.one (.int .i64 j)]/\g=[.var 0 [.nil,.nil],.var 0 [.AM (.sl AA) 8 0 0 n,.sl AA B],.arr 0 (.sl AA) O]/\
  (AK j k'/\i'<k'/\k'<=ts.length)/\b=(Bm i' 0 (co w x)||((ts.drop (i'+1)).take (k'-(i'+1))).any (Bm i' 0))/\k=ts.length-k':=⟨_,rfl⟩
 refine⟨[2,3,4,5,6],[2,3,8],J1,⟨ts.length-(i'+1),by rw[y];exact⟨aF,i'+1,b7,rfl,rfl,⟨⟨by omega⟩,by omega,by omega⟩,by rw[K,Nat.sub_self,List.take_zero];simp,rfl⟩⟩,?_⟩;intro r g bQ a;rw[y] at a;obtain⟨b,k',j,rfl,rfl,⟨a,ao,bJ⟩,hb,bM⟩:=a;conv=>cbv
 have ej:=a.eq;intro bT aJ;have bw:=aJ.eq;conv=>cbv
 intro b8 al;conv=>cbv
 cases b8 <;> conv=>cbv
 ·have b1:=AR al;cases b <;> conv=>cbv
  ·obtain⟨aj,I⟩:=xR (AW (Az i' 0 (co w x)));refine cL hE (Oz (xs:=co w x) hB D (by omega) aP I) t2 ?_;try conv=>cbv
   intro CQ bD;conv=>cbv
   refine g1 (by omega) ?_;refine .inr ?_
   obtain⟨J2,Z⟩:∃J:List AV->List AH->Nat->Prop,J=fun r g k=>∃(o:List LR) (k2:Nat) (j2:Int),r=[.one (.Am 2 0 0),.one (.Am 3 0 0),.one (.int .i64 i),.one (.int .i64 j2)]/\g=[.var 0 [.nil,.nil],.var 0 [.AM (.sl AA) 8 0 0 n,.sl AA aj],.arr 0 (.sl AA) o]/\
    (AK j2 k2/\i'<k2/\k2<=ts.length/\o.length=ts.length)/\(∀m,o[m]? =(ts[m]?).map fun s=>AW (if i'<m/\m<k2 then Az i' 0 s else s))/\k=ts.length-k2:=⟨_,rfl⟩
   refine⟨[2,3,4,7],[2,3,8],J2,⟨ts.length-(i'+1),by rw[Z];exact⟨O,i'+1,CQ,rfl,rfl,⟨⟨by omega⟩,by omega,by omega,by omega⟩,fun m=>by
    have aV:¬(i'<m/\m<i'+1):=by omega
    simp only[aV,if_false];rw[a2,List.getElem?_map],rfl⟩⟩,?_⟩
   intro r g bR a;rw[Z] at a;obtain⟨o,k2,j2,rfl,rfl,⟨aQ,aq,bn,aW⟩,hq,bN⟩:=a;conv=>cbv
   have bz:=aQ.eq;intro bU aL;have bx:=aL.eq;conv=>cbv
   intro b9 an;conv=>cbv
   cases b9 <;> conv=>cbv
   ·have b2:=AR an;refine⟨fun _=>⟨by omega,by omega,by omega⟩,?_⟩;intro br bf;conv=>cbv
    rintro bW W ⟨bo,bh⟩;conv=>cbv
    intro bV bF;conv=>cbv
    refine g1 (by omega) ?_;refine g2 (by omega) ?_;rintro bq bs ⟨bd,bg⟩;conv=>cbv
    rintro H X ⟨bp,bj⟩;conv=>cbv
    refine .inl ⟨((o).drop H).take X,fun _=>⟨by omega,by omega,⟨_,rfl,by omega,rfl⟩,by show (W+(((o).drop H).take X).length)*24<=140737488355328;(try simp only[List.length_take,List.length_drop]);omega⟩,?_⟩;intro (G:List (el (.sl AA))) aD U;have au:G=(List.take W o:List (el (.sl AA)))++(((o).drop H).take X:List (el (.sl AA))):=U.1;have aw:aD=List.length (α:=(el (.sl AA))) G:=U.2;conv=>cbv
    refine g2 rfl ?_;rw[a1];have a6:k'=ts.length:=by omega
    have a5:¬(Bm i' 0 (co w x)||(ts.drop (i'+1)).any (Bm i' 0))=true:=by
     have v:=hb;rw[a6,List.take_of_length_le (by rw[List.length_drop];omega)] at v;rw[<-v];exact Bool.false_ne_true
    obtain⟨w1,e1,ab,aS⟩:=TL ad ae (by omega:i'<w.length);have e2:=e1;unfold Hz at e2;rw[<-f,if_neg a5] at e2;have e3:=Prod.mk.inj e2
    have a7:G=o.take i'++o.drop (i'+1):=by
     rw[au,show W=i' by omega,show H=i'+1 by omega,List.take_of_length_le (l:=o.drop (i'+1)) (by rw[List.length_drop];omega)]
    rw[show k2=ts.length by omega] at hq;refine⟨w1,G,aj,aD,rfl,rfl,⟨aw,?_,?_⟩,⟨ab.red,ab.mem,aS,Nat.le_trans ab.len F⟩,by rw[E1,e1] at d;exact d⟩
    ·rw[a7,Xk (by omega) hq,tw,<-f] at*;rw[e3.1]
    rw[I,em,<-e3.2]
   have b2:=AS an;refine .inr ?_;refine g2 (by omega) ?_;intro aZ bl;conv=>cbv
   obtain⟨ai,R⟩:=AG (l:=o) (i:=aZ) (by omega);refine⟨ai,fun _=>R,?_⟩;try conv=>cbv
   obtain⟨s7,aa⟩:=AG (l:=ts) (i:=k2) (by omega);have aX:o[k2]? =some ai:=by rw[<-R];congr 1;omega
   have aH:ai=AW s7:=by have v:=hq k2;rw[aa,aX,Option.map_some,if_neg (by omega)] at v;exact Option.some.inj v
   have ax:s7.length<=1000000:=by have v:=Iu ad (List.mem_reverse.1 (f ▸ List.mem_of_getElem? aa));have h2:2^w.length<=2^8:=Bn F;omega
   obtain⟨aE,P⟩:=xR (AW (Az i' 0 s7));refine cL hE (Oz aH D (by omega) ax P) t2 ?_;try conv=>cbv
   refine g2 (by omega) ?_;intro aC bm;conv=>cbv
   refine⟨aE,fun _=>⟨by show _<List.length (α:=(el (.sl AA))) o;(first | omega | (simp;omega)),by first | exact t1 | exact t2 | exact t4 | simp[Ac,Ak,cells]⟩,?_⟩;intro (ag:List (el (.sl AA))) (p:ag=List.set (α:=(el (.sl AA))) o aC aE);have bc:ag.length=o.length:=by rw[p,List.length_set]
   conv=>cbv
   refine g2 rfl ?_;intro ba bE;conv=>cbv
   refine g1 (by omega) ?_;refine⟨ts.length-(k2+1),?_,?_⟩
   ·omega
   rw[Z];exact⟨ag,k2+1,ba,rfl,rfl,⟨⟨by omega⟩,by omega,by omega,by rw[p,List.length_set];exact aW⟩,by rw[p,show aC=k2 by omega];exact Xl hq aa aq P,rfl⟩
  rw[a1];have a6:k'=ts.length:=by omega
  have a5:(Bm i' 0 (co w x)||(ts.drop (i'+1)).any (Bm i' 0))=true:=by
   have v:=hb;rw[a6,List.take_of_length_le (by rw[List.length_drop];omega)] at v;exact v.symm
  have e1:Hz i' (w.reverse,co w x)=(w.reverse,co w x):=by
   unfold Hz;rw[<-f,if_pos a5]
  exact⟨w,O,B,n,rfl,rfl,⟨hn,hO,hB⟩,⟨ad,ae,by omega,F⟩,by rw[E1,e1] at d;exact d⟩
 have b1:=AS al;refine .inr ?_;cases b <;> conv=>cbv
 ·refine g2 (by omega) ?_;intro aY bk;conv=>cbv
  obtain⟨bb,Q⟩:=AG (l:=O) (i:=aY) (by omega);refine⟨bb,fun _=>Q,?_⟩;try conv=>cbv
  obtain⟨s4,aG,a8⟩:=Gl (i:=k') a2 (by rw[<-Q];congr 1;omega);obtain⟨bt,M⟩:=xB (Bm i' 0 s4);refine cL hE (Oq aG D (by omega) M) t2 ?_;try conv=>cbv
  intro ah aK;conv=>cbv
  refine g1 (by omega) ?_;refine⟨ts.length-(k'+1),?_,?_⟩
  ·omega
  rw[y];exact⟨_,k'+1,ah,rfl,rfl,⟨⟨by omega⟩,by omega,by omega⟩,by rw[PB a8 ao,<-Bool.or_assoc,<-hb,M];simp,rfl⟩
 intro ah aK;conv=>cbv
 refine g1 (by omega) ?_;refine⟨ts.length-(k'+1),?_,?_⟩
 ·omega
 rw[y];obtain⟨s4,a8⟩:=AG (l:=ts) (i:=k') (by omega);exact⟨_,k'+1,ah,rfl,rfl,⟨⟨by omega⟩,by omega,by omega⟩,by rw[PB a8 ao,<-Bool.or_assoc,<-hb];simp,rfl⟩
end Go.Abs
