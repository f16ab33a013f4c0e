/- Part 24 of a proof. Conditions: each theorem's own. -/
import Derived.Test.YtmaoeopjnhfplaaGreatQk22
set_option linter.all false
set_option maxHeartbeats 8000000
set_option maxRecDepth 20000
open Go.Proofs
namespace Go.Abs
open Go.RowKit
variable {A A1 A2 C:LR} {L:List (el Bc)} {T T1 T2 o:List LR} {c:Bool} {i' k:Nat} {ns:List Nu} {q:Rat} {s xs:List Rat} {ts:List (List Rat)}
theorem SJ {i:Nat} (h:xs[k]? =some q):C1 i k (xs.drop k)=((GP k i&&q !=0)||C1 i (k+1) (xs.drop (k+1))):=by
 have a:=IV h;rw[List.drop_eq_getElem_cons a,C1];rw[List.getElem?_eq_getElem a] at h;rw[Option.some.inj h]
theorem kS {i:Nat} (h:k<xs.length) (hb:GP k i=false):C1 i k (xs.drop k)=C1 i (k+1) (xs.drop (k+1)):=by
 obtain⟨q,a⟩:=AS h;rw[SJ a,hb];rfl
theorem bM {i:Nat} (h:xs[k]? =some q):Bw i 0 (xs.take (k+1))=Bw i 0 (xs.take k)++(if GP k i=true then [] else [q]):=by
 have a:=IV h;rw[C7 h,PW,Nat.zero_add,List.length_take,Nat.min_eq_left (by omega),Bw,Bw]
theorem bJ (i:Nat):∀(k:Nat) (l:List Rat),(Bw i k l).length<=l.length
 | _,[]=>Nat.le_refl _
 | k,x::l=>by
  rw[Bw];have:=bJ i (k+1) l
  split
  ·rw[List.length_cons];omega
  rw[List.length_cons,List.length_cons];omega
theorem WE {i:Nat} {b a:Int} (d:b=((k/2^i:Nat):Int)) (f:a=b%2):(GP k i=true↔a=1)/\(GP k i=false↔a=0):=by
 unfold GP
 constructor
 ·rw[beq_iff_eq];omega
 rw[beq_eq_false_iff_ne];omega
theorem OY {n:Nat}:(AW n).length<=2↔n<18446744073709551616:=by
 constructor
 ·intro h;have a:=Cy (AW n);rw[BW] at a;exact Nat.lt_of_lt_of_le a (Nat.pow_le_pow_right (by decide) (by omega:32*(AW n).length<=64))
 intro h;exact Gw (k:=2) h
theorem Jd {b1 b2:Bool} {l1 l2:List UInt32} (h:Bm q b1 l1 b2 l2):Cz q↔l1.length<=2/\l2.length<=2:=by
 have a:=h.num.Bj;have b:=h.den.Bj;rw[a,b,OY,OY];unfold Cz;rw[Int.natAbs_natCast]
theorem mM (h:FQ q=0):q=0:=by
 unfold FQ Cg at h
 split at h
 ·omega
 split at h
 ·exact Rat.num_eq_zero.1 (by assumption)
 omega
theorem aq {p:Rat->Prop} (h:∀x∈xs.take k,p x) (d:xs[k]? =some q) (b:p q):∀x∈xs.take (k+1),p x:=by
 intro x a;rw[C7 d] at a;rcases List.mem_append.1 a with a | a
 ·exact h x a
 rw[List.mem_singleton.1 a];exact b
theorem VS {i:Int} (N:A=BN xs) (S:Ag i i') (h6:i'<=60) (hc:c=C1 i' 0 xs):CF 271 [.one (.sl AA A),.one (.int .i64 i)] (.one (.bool c)):=by
 have ei:=S.eq;have Q:A.length=xs.length:=by rw[N,List.length_map]
 refine AO Tryz.func271 fun E R=>?_
 conv=>cbv
 refine .inr ?_;obtain⟨O,a⟩:=xJ fun vs P k=>∃(k':Nat) (j:Int),vs=[.one (.sl AA A),.one (.int .i64 i),.one (.int .i64 j)]/\(Ag j k'/\k'<=xs.length)/\C1 i' 0 xs=C1 i' k' (xs.drop k')/\k=xs.length-k'
 refine⟨[],[0,1,5],[],O,⟨xs.length-0,by rw[a];exact⟨0,0,rfl,⟨Bf 0,by omega⟩,by rw[List.drop_zero],rfl⟩⟩,?_⟩;intro vs P Y y;rw[a] at y;obtain⟨k',j,rfl,⟨y,U⟩,hinv,W⟩:=y;conv=>cbv
 have ej:=y.eq;rintro n8 ⟨e8,f8⟩;conv=>cbv
 intro n9 M;conv=>cbv
 cases n9 <;> conv=>cbv
 ·have X:=BK M;exact AF ⟨⟨rfl,congrArg _ (by rw[hc,hinv,show k'=xs.length by omega,List.drop_length];rfl),trivial⟩,trivial⟩
 have X:=BL M;refine .inr ?_;intro H D;conv=>cbv
 refine AM ?_;obtain⟨d14,t,z⟩:∃d:Nat,d=k'/2^i'/\H=d:=⟨_,rfl,shr_var (p:=k') (e:=i') D (by omega) (by omega) (by show i'<=64;omega)⟩
 intro Z F;conv=>cbv
 refine AM ?_;have b:=WE (k:=k') (i:=i') (by rw[z,t]) F;intro I n;conv=>cbv
 cases I <;> conv=>cbv
 ·have v:=BR n;intro m B;conv=>cbv
  refine AQ ?_;refine⟨xs.length-(k'+1),?_,?_⟩
  ·omega
  rw[a];refine⟨k'+1,m,rfl,⟨⟨by omega⟩,by omega⟩,?_,rfl⟩;rw[hinv,kS (by omega) (b.2.2 (by omega))]
 have v:=BS n;obtain⟨K,h⟩:=AS (l:=A) (i:=k') (by omega);refine⟨K,fun _=>⟨by omega,by rw[show (j).toNat=k' by omega];exact h⟩,?_⟩;try conv=>cbv
 obtain⟨x,u,f,_⟩:=Jv N h;obtain⟨a1,g⟩:=xI (FQ x);refine AB R (VF u g) ?_;conv=>cbv
 intro J r;conv=>cbv
 cases J <;> conv=>cbv
 ·have w:=DQ r;intro m B;conv=>cbv
  refine AQ ?_;refine⟨xs.length-(k'+1),?_,?_⟩
  ·omega
  rw[a];refine⟨k'+1,m,rfl,⟨⟨by omega⟩,by omega⟩,?_,rfl⟩;have G:x=0:=mM (by omega);rw[hinv,SJ f,G];simp
 have w:=DR r;exact AF ⟨⟨rfl,congrArg _ (by rw[hc,hinv,SJ f,b.1.2 v,bne_iff_ne.2 (fun e=>w (by rw[g,e];rfl))];rfl),trivial⟩,trivial⟩
theorem Va {i:Int} (S:A=BN xs) (hi:Ag i i') (h6:i'<=60) (hl:xs.length<=1000000) (hC:C=BN (Bw i' 0 xs)):CF 272 [.one (.sl AA A),.one (.int .i64 i)] (.one (.sl AA C)):=by
 have ei:=hi.eq;have Z:A.length=xs.length:=by rw[S,List.length_map]
 refine AO Tryz.func272 fun E hE=>?_
 conv=>cbv
 refine .inr ?_;obtain⟨Y,b⟩:=xJ fun vs R k=>∃(o:LR) (n k':Nat) (j:Int),vs=[.one (.sl AA A),.one (.int .i64 i),.one (.AZ AA 5 0 0 n),.one (.int .i64 j)]/\R=[.arr 0 AA o]/\(Ag j k'/\k'<=xs.length/\n=o.length)/\o=BN (Bw i' 0 (xs.take k'))/\k=xs.length-k'
 refine⟨[(5,AA,true)],[0,1,5,6],[5],Y,⟨xs.length-0,by rw[b];exact⟨[],0,0,0,rfl,rfl,⟨Bf 0,by omega,rfl⟩,rfl,rfl⟩⟩,?_⟩;intro vs R a6 B;rw[b] at B;obtain⟨o,n,k',j,rfl,rfl,⟨B,a1,U⟩,hinv,a2⟩:=B;conv=>cbv
 have ej:=B.eq;have a5:o.length<=xs.length:=by rw[hinv,List.length_map];have:=bJ i' 0 (xs.take k');rw[List.length_take] at this;omega
 rintro n9 ⟨e9,f9⟩;conv=>cbv
 intro N t;conv=>cbv
 cases N <;> conv=>cbv
 ·have K:=BK t;exact AF ⟨⟨rfl,.inl ⟨_,rfl,by omega,congrArg _ (by rw[hC,U,List.drop_zero,List.take_length,hinv,show k'=xs.length by omega,List.take_length])⟩,trivial⟩,trivial⟩
 have K:=BL t;refine .inr ?_;intro O G;conv=>cbv
 refine AM ?_;obtain⟨d15,v,D⟩:∃d:Nat,d=k'/2^i'/\O=d:=⟨_,rfl,shr_var (p:=k') (e:=i') G (by omega) (by omega) (by show i'<=64;omega)⟩
 intro a7 H;conv=>cbv
 refine AM ?_;have f:=WE (k:=k') (i:=i') (by rw[D,v]) H;intro P u;conv=>cbv
 refine .inr ?_;cases P <;> conv=>cbv
 ·have M:=BR u;intro r F;conv=>cbv
  refine AQ ?_;refine⟨xs.length-(k'+1),?_,?_⟩
  ·omega
  rw[b];obtain⟨qq,I⟩:=AS (l:=xs) (i:=k') (by omega);exact⟨o,n,k'+1,r,rfl,rfl,⟨⟨by omega⟩,by omega,U⟩,by rw[bM I,if_pos (f.1.2 (by omega)),List.append_nil];exact hinv,rfl⟩
 have M:=BS u
 obtain⟨z,X,y,J⟩:∃q,Bm q (rp q).1.1 (rp q).1.2 (rp q).2.1 (rp q).2.2/\xs[k']? =some q/\A[k']? =some (rp q):=by
  obtain⟨q,W⟩:=AS (l:=xs) (i:=k') (by omega);exact⟨q,HC q,W,by rw[S,List.getElem?_map,W];rfl⟩
 obtain⟨a,g⟩:=AS (l:=A) (i:=k') (by omega);refine⟨a,fun _=>⟨by omega,by rw[show (j).toNat=k' by omega];exact g⟩,?_⟩;try conv=>cbv
 refine⟨[((a.1.1,a.1.2),(a.2.1,a.2.2))],fun _=>⟨rfl,by decide,rfl,⟨rfl,by first | exact t1 | exact t2 | exact t4 | simp[BX,Bl,cells],trivial⟩⟩,.inr ?_⟩;try conv=>cbv
 refine .inl ⟨[((a.1.1,a.1.2),(a.2.1,a.2.2))],fun _=>⟨rfl,by (first | rfl | omega),rfl,by show (o.length+1)*64<=140737488355328;(try simp only[List.length_take,List.length_drop]);omega⟩,?_⟩;intro (m:LR) Q h;have w:m=(o:LR)++([((a.1.1,a.1.2),(a.2.1,a.2.2))]:LR):=h.1;have x:Q=List.length (α:=(el AA)) m:=h.2;conv=>cbv
 intro r F;conv=>cbv
 refine AQ ?_;refine⟨xs.length-(k'+1),?_,?_⟩
 ·omega
 rw[b];have ex:a=rp z:=by have:=g.symm.trans J;exact Option.some.inj this
 refine⟨m,_,k'+1,r,rfl,rfl,⟨⟨by omega⟩,by omega,x⟩,?_,rfl⟩;rw[bM y,if_neg (by rw[f.2.2 (by omega)];decide)];rw[w,hinv];show _=List.map rp _;rw[List.map_append];show _=BN _++[rp z];rw[<-ex]
theorem KZ:CF 223 [.agg (AU T1 A1),.one (.int .i64 0),.agg (AU T2 A2)] (.agg (AU T1 A1)):=by
 refine AO Tryz.func223 fun E a=>?_
 conv=>cbv
 refine AL ?_;conv=>cbv
 exact AF ⟨t3,trivial⟩
theorem eB:CF 223 [.agg (AU T1 A1),.one (.int .i64 6),.agg (AU T2 A2)] (.agg (AU T2 A2)):=by
 refine AO Tryz.func223 fun E a=>?_
 conv=>cbv
 refine Aw ?_;conv=>cbv
 exact AF ⟨t3,trivial⟩
theorem nP (h:∀x∈ts.take k,∀q∈x,Cz q) (d:ts[k]? =some s) (b:∀q∈s,Cz q):∀x∈ts.take (k+1),∀q∈x,Cz q:=by
 intro x a;rw[C7 d] at a;rcases List.mem_append.1 a with a | a
 ·exact h x a
 rw[List.mem_singleton.1 a];exact b
def NS (ts:List (List Rat)) (xs:List Rat):Prop:=(∃q∈xs,¬Cz q)\/∃s∈ts,∃q∈s,¬Cz q
theorem eA (hT:T=ts.map BN) (hA:A=BN xs) (hc:c=true↔NS ts xs):CF 224 [.agg (AU T A)] (.one (.bool c)):=by
 have aO:A.length=xs.length:=by rw[hA,List.length_map]
 have aP:T.length=ts.length:=by rw[hT,List.length_map]
 refine AO Tryz.func224 fun E hE=>?_
 conv=>cbv
 refine .inr ?_;obtain⟨J0,J⟩:=xJ fun vs v k=>∃(k':Nat) (j:Int),vs=[.one (.As 1 0 0),.one (.bool false),.one (.int .i64 j)]/\v=[.var 0 [.sl (.sl AA) T,.sl AA A]]/\(Ag j k'/\k'<=xs.length)/\(∀q∈xs.take k',Cz q)/\k=xs.length-k'
 refine⟨[],[1,2,3],[1],J0,⟨xs.length-0,by rw[J];exact⟨0,0,rfl,rfl,⟨Bf 0,by omega⟩,by simp,rfl⟩⟩,?_⟩;intro vs v aX r;rw[J] at r;obtain⟨k',j,rfl,rfl,⟨r,aQ⟩,hinv,aR⟩:=r;conv=>cbv
 have ej:=r.eq;rintro b0 ⟨aE,f10⟩;conv=>cbv
 intro ai W;conv=>cbv
 cases ai <;> conv=>cbv
 ·have aa:=BK W;refine .inr ?_;obtain⟨J1,K⟩:=xJ fun vs v k=>∃(m':Nat) (m:Int),vs=[.one (.As 1 0 0),.one (.bool false),.one (.int .i64 m)]/\v=[.var 0 [.sl (.sl AA) T,.sl AA A]]/\(Ag m m'/\m'<=ts.length)/\(∀s∈ts.take m',∀q∈s,Cz q)/\k=ts.length-m'
  refine⟨[],[1,2,4],[1],J1,⟨ts.length-0,by rw[K];exact⟨0,0,rfl,rfl,⟨Bf 0,by omega⟩,by simp,rfl⟩⟩,?_⟩;intro vs v aY r;rw[K] at r;obtain⟨m',m,rfl,rfl,⟨hm,aU⟩,w,aS⟩:=r;conv=>cbv
  have em:=hm.eq;rintro b2 ⟨aH,f37⟩;conv=>cbv
  intro ao Z;conv=>cbv
  cases ao <;> conv=>cbv
  ·have ae:=BK Z;exact AF ⟨⟨rfl,congrArg _ (by rw[Bool.eq_false_iff];intro h;rcases hc.1 h with⟨q,hq,hn⟩ |⟨s,hs,q,hq,hn⟩;exact hn (hinv q (by rw[List.take_of_length_le (by omega)];exact hq));exact hn (w s (by rw[List.take_of_length_le (by omega)];exact hs) q hq)),trivial⟩,trivial⟩
  have ae:=BL Z;refine .inr ?_
  obtain⟨s2,x,P⟩:∃s,T[m']? =some (BN s)/\ts[m']? =some s:=by
   obtain⟨s,hs⟩:=AS (l:=ts) (i:=m') (by omega);exact⟨s,by rw[hT,List.getElem?_map,hs];rfl,hs⟩
  refine .inr ?_;obtain⟨J2,M⟩:=xJ fun vs v k=>∃(t:Nat) (p:Int),vs=[.one (.As 1 0 0),.one (.bool false),.one (.int .i64 m),.one (.int .i64 p)]/\v=[.var 0 [.sl (.sl AA) T,.sl AA A]]/\(Ag p t/\t<=s2.length)/\(∀q∈s2.take t,Cz q)/\k=s2.length-t
  refine⟨[],[1,2,4,5],[1],J2,⟨s2.length-0,by rw[M];exact⟨0,0,rfl,rfl,⟨Bf 0,by omega⟩,by simp,rfl⟩⟩,?_⟩;intro vs v aZ r;rw[M] at r;obtain⟨t,p,rfl,rfl,⟨hp,aV⟩,d,aT⟩:=r;conv=>cbv
  have ep:=hp.eq;obtain⟨R,z⟩:=AS (l:=T) (i:=m') (by omega);refine⟨R,fun _=>⟨by omega,by rw[show (m).toNat=m' by omega];exact z⟩,?_⟩;try conv=>cbv
  have a6:R=BN s2:=Option.some.inj (z.symm.trans x);have aW:R.length=s2.length:=by rw[a6,List.length_map]
  rintro b4 ⟨aI,f47⟩;conv=>cbv
  intro ar a1;conv=>cbv
  cases ar <;> conv=>cbv
  ·have af:=BK a1;intro b3 aM;conv=>cbv
   refine AQ ?_;refine⟨ts.length-(m'+1),?_,?_⟩
   ·omega
   rw[K];exact⟨m'+1,_,rfl,rfl,⟨⟨by omega⟩,by omega⟩,nP w P (by rw[show t=s2.length by omega,List.take_length] at d;exact d),rfl⟩
  have af:=BL a1;refine .inr ?_;obtain⟨u,B⟩:=AS (l:=T) (i:=m') (by omega);refine⟨u,fun _=>⟨by omega,by rw[show (m).toNat=m' by omega];exact B⟩,?_⟩;try conv=>cbv
  have S:u=BN s2:=Option.some.inj (B.symm.trans x);have aD:u.length=s2.length:=by rw[S,List.length_map]
  obtain⟨b,D⟩:=AS (l:=u) (i:=t) (by omega);refine⟨b,fun _=>⟨by omega,by rw[show (p).toNat=t by omega];exact D⟩,?_⟩;try conv=>cbv
  obtain⟨q3,a8,O,_⟩:=Jv S D;have g:Bm q3 b.1.1 b.1.2 b.2.1 b.2.2:=a8;intro au H;have aJ:=H.eq;have f62:=H.le;conv=>cbv
  have aA:au=((List.length b.1.2:Nat):Int):=H.eq;intro av a2;conv=>cbv
  cases av <;> conv=>cbv
  ·have ag:=Cc a2;intro aw I;have aK:=I.eq;have f68:=I.le;conv=>cbv
   have aB:aw=((List.length b.2.2:Nat):Int):=I.eq;intro ax a5;conv=>cbv
   cases ax <;> conv=>cbv
   ·have ah:=Cc a5;intro b5 aN;conv=>cbv
    refine AQ ?_;refine⟨s2.length-(t+1),?_,?_⟩
    ·omega
    rw[M];exact⟨t+1,_,rfl,rfl,⟨⟨by omega⟩,by omega⟩,aq d O ((Jd g).2 ⟨by omega,by omega⟩),rfl⟩
   have ah:=Cd a5;exact AF ⟨⟨rfl,congrArg _ (hc.2 (.inr ⟨s2,List.mem_of_getElem? P,q3,List.mem_of_getElem? O,fun h=>by have:=(Jd g).1 h;omega⟩)),trivial⟩,trivial⟩
  have ag:=Cd a2;exact AF ⟨⟨rfl,congrArg _ (hc.2 (.inr ⟨s2,List.mem_of_getElem? P,q3,List.mem_of_getElem? O,fun h=>by have:=(Jd g).1 h;omega⟩)),trivial⟩,trivial⟩
 have aa:=BL W;refine .inr ?_;obtain⟨a,n⟩:=AS (l:=A) (i:=k') (by omega);refine⟨a,fun _=>⟨by omega,by rw[show (j).toNat=k' by omega];exact n⟩,?_⟩;try conv=>cbv
 obtain⟨q1,a7,N,_⟩:=Jv hA n;have f:Bm q1 a.1.1 a.1.2 a.2.1 a.2.2:=a7;intro aj F;have aF:=F.eq;have f21:=F.le;conv=>cbv
 have ay:aj=((List.length a.1.2:Nat):Int):=F.eq;intro ak X;conv=>cbv
 cases ak <;> conv=>cbv
 ·have ab:=Cc X;obtain⟨Q,y⟩:=AS (l:=A) (i:=k') (by omega);refine⟨Q,fun _=>⟨by omega,by rw[show (j).toNat=k' by omega];exact y⟩,?_⟩;try conv=>cbv
  have U:=Option.some.inj (y.symm.trans n);have aC:List.length Q.2.2=List.length a.2.2:=by rw[U]
  intro al G;have aG:=G.eq;have f31:=G.le;conv=>cbv
  have az:al=((List.length Q.2.2:Nat):Int):=G.eq;intro an Y;conv=>cbv
  cases an <;> conv=>cbv
  ·have ad:=Cc Y;intro b1 aL;conv=>cbv
   refine AQ ?_;refine⟨xs.length-(k'+1),?_,?_⟩
   ·omega
   rw[J];exact⟨k'+1,_,rfl,rfl,⟨⟨by omega⟩,by omega⟩,aq hinv N ((Jd f).2 ⟨by omega,by omega⟩),rfl⟩
  have ad:=Cd Y;exact AF ⟨⟨rfl,congrArg _ (hc.2 (.inl ⟨q1,List.mem_of_getElem? N,fun h=>by have:=(Jd f).1 h;omega⟩)),trivial⟩,trivial⟩
 have ab:=Cd X;exact AF ⟨⟨rfl,congrArg _ (hc.2 (.inl ⟨q1,List.mem_of_getElem? N,fun h=>by have:=(Jd f).1 h;omega⟩)),trivial⟩,trivial⟩
theorem dK (hT:T=ts.map BN) (hA:A=BN xs) (h1:∀q∈xs,Cz q) (h2:∀s∈ts,∀q∈s,Cz q):CF 226 [.agg (AU T A)] (.one (.bool true)):=by
 have aT:A.length=xs.length:=by rw[hA,List.length_map]
 have aU:T.length=ts.length:=by rw[hT,List.length_map]
 refine AO Tryz.func226 fun E hE=>?_
 conv=>cbv
 refine .inr ?_;obtain⟨J0,J⟩:=xJ fun vs u k=>∃(k':Nat) (j:Int),vs=[.one (.As 1 0 0),.one (.bool false),.one (.int .i64 j)]/\u=[.var 0 [.sl (.sl AA) T,.sl AA A]]/\(Ag j k'/\k'<=xs.length)/\k=xs.length-k'
 refine⟨[],[1,2,3],[1],J0,⟨xs.length-0,by rw[J];exact⟨0,0,rfl,rfl,⟨Bf 0,by omega⟩,rfl⟩⟩,?_⟩;intro vs u b2 r;rw[J] at r;obtain⟨k',j,rfl,rfl,⟨r,aV⟩,aW⟩:=r;conv=>cbv
 have ej:=r.eq;rintro n9 ⟨e9,f9⟩;conv=>cbv
 intro al S;conv=>cbv
 cases al <;> conv=>cbv
 ·have ae:=BK S;refine .inr ?_;obtain⟨J1,K⟩:=xJ fun vs u k=>∃(m':Nat) (m:Int),vs=[.one (.As 1 0 0),.one (.bool false),.one (.int .i64 m)]/\u=[.var 0 [.sl (.sl AA) T,.sl AA A]]/\(Ag m m'/\m'<=ts.length)/\k=ts.length-m'
  refine⟨[],[1,2,4],[1],J1,⟨ts.length-0,by rw[K];exact⟨0,0,rfl,rfl,⟨Bf 0,by omega⟩,rfl⟩⟩,?_⟩;intro vs u b3 r;rw[K] at r;obtain⟨m',m,rfl,rfl,⟨hm,aZ⟩,aX⟩:=r;conv=>cbv
  have em:=hm.eq;rintro b6 ⟨aM,f36⟩;conv=>cbv
  intro au X;conv=>cbv
  cases au <;> conv=>cbv
  ·have ah:=BK X;exact AF ⟨t2,trivial⟩
  have ah:=BL X;refine .inr ?_
  obtain⟨s2,w,ad⟩:∃s,T[m']? =some (BN s)/\ts[m']? =some s:=by
   obtain⟨s,hs⟩:=AS (l:=ts) (i:=m') (by omega);exact⟨s,by rw[hT,List.getElem?_map,hs];rfl,hs⟩
  refine .inr ?_;obtain⟨J2,M⟩:=xJ fun vs u k=>∃(h:Nat) (p:Int),vs=[.one (.As 1 0 0),.one (.bool false),.one (.int .i64 m),.one (.int .i64 p)]/\u=[.var 0 [.sl (.sl AA) T,.sl AA A]]/\(Ag p h/\h<=s2.length)/\k=s2.length-h
  refine⟨[],[1,2,4,5],[1],J2,⟨s2.length-0,by rw[M];exact⟨0,0,rfl,rfl,⟨Bf 0,by omega⟩,rfl⟩⟩,?_⟩;intro vs u b4 r;rw[M] at r;obtain⟨h,p,rfl,rfl,⟨hp,b0⟩,aY⟩:=r;conv=>cbv
  have ep:=hp.eq;obtain⟨O,y⟩:=AS (l:=T) (i:=m') (by omega);refine⟨O,fun _=>⟨by omega,by rw[show (m).toNat=m' by omega];exact y⟩,?_⟩;try conv=>cbv
  have a6:O=BN s2:=Option.some.inj (y.symm.trans w);have b1:O.length=s2.length:=by rw[a6,List.length_map]
  rintro b8 ⟨aN,f46⟩;conv=>cbv
  intro av Y;conv=>cbv
  cases av <;> conv=>cbv
  ·have ai:=BK Y;intro b7 aR;conv=>cbv
   refine AQ ?_;refine⟨ts.length-(m'+1),?_,?_⟩
   ·omega
   rw[K];exact⟨m'+1,_,rfl,rfl,⟨⟨by omega⟩,by omega⟩,rfl⟩
  have ai:=BL Y;refine .inr ?_;obtain⟨n,f⟩:=AS (l:=T) (i:=m') (by omega);refine⟨n,fun _=>⟨by omega,by rw[show (m).toNat=m' by omega];exact f⟩,?_⟩;try conv=>cbv
  have D:n=BN s2:=Option.some.inj (f.symm.trans w);have aI:n.length=s2.length:=by rw[D,List.length_map]
  obtain⟨b,g⟩:=AS (l:=n) (i:=h) (by omega);refine⟨b,fun _=>⟨by omega,by rw[show (p).toNat=h by omega];exact g⟩,?_⟩;try conv=>cbv
  obtain⟨q3,ab,a8,_⟩:=Jv D g;have a5:Bm q3 b.1.1 b.1.2 b.2.1 b.2.2:=ab;have aH:=(Jd a5).1 (h2 s2 (List.mem_of_getElem? ad) q3 (List.mem_of_getElem? a8));intro aw H;have aO:=H.eq;have f60:=H.le;conv=>cbv
  have aC:aw=((List.length b.1.2:Nat):Int):=H.eq;intro ax Z;conv=>cbv
  cases ax <;> conv=>cbv
  ·have aj:=Cc Z;obtain⟨P,z⟩:=AS (l:=T) (i:=m') (by omega);refine⟨P,fun _=>⟨by omega,by rw[show (m).toNat=m' by omega];exact z⟩,?_⟩;try conv=>cbv
   have v:=Option.some.inj (z.symm.trans f);have aJ:P.length=s2.length:=by rw[v,D,List.length_map]
   obtain⟨t,B⟩:=AS (l:=P) (i:=h) (by omega);refine⟨t,fun _=>⟨by omega,by rw[show (p).toNat=h by omega];exact B⟩,?_⟩;try conv=>cbv
   have R:=Option.some.inj ((show n[h]? =some t by rw[<-v];exact B).symm.trans g);have aF:List.length t.2.2=List.length b.2.2:=by rw[R]
   intro ay I;have aP:=I.eq;have f73:=I.le;conv=>cbv
   have aD:ay=((List.length t.2.2:Nat):Int):=I.eq;intro az a1;conv=>cbv
   cases az <;> conv=>cbv
   ·have ak:=Cc a1;intro b9 aS;conv=>cbv
    refine AQ ?_;refine⟨s2.length-(h+1),?_,?_⟩
    ·omega
    rw[M];exact⟨h+1,_,rfl,rfl,⟨⟨by omega⟩,by omega⟩,rfl⟩
   have ak:=Cd a1
   exfalso;omega
  have aj:=Cd Z
  exfalso;omega
 have ae:=BL S;refine .inr ?_;obtain⟨a,d⟩:=AS (l:=A) (i:=k') (by omega);refine⟨a,fun _=>⟨by omega,by rw[show (j).toNat=k' by omega];exact d⟩,?_⟩;try conv=>cbv
 obtain⟨q1,aa,a7,_⟩:=Jv hA d;have a2:Bm q1 a.1.1 a.1.2 a.2.1 a.2.2:=aa;have aG:=(Jd a2).1 (h1 q1 (List.mem_of_getElem? a7));intro an F;have aK:=F.eq;have f20:=F.le;conv=>cbv
 have aA:an=((List.length a.1.2:Nat):Int):=F.eq;intro ao U;conv=>cbv
 cases ao <;> conv=>cbv
 ·have af:=Cc U;obtain⟨N,x⟩:=AS (l:=A) (i:=k') (by omega);refine⟨N,fun _=>⟨by omega,by rw[show (j).toNat=k' by omega];exact x⟩,?_⟩;try conv=>cbv
  have Q:=Option.some.inj (x.symm.trans d);have aE:List.length N.2.2=List.length a.2.2:=by rw[Q]
  intro aq G;have aL:=G.eq;have f30:=G.le;conv=>cbv
  have aB:aq=((List.length N.2.2:Nat):Int):=G.eq;intro ar W;conv=>cbv
  cases ar <;> conv=>cbv
  ·have ag:=Cc W;intro b5 aQ;conv=>cbv
   refine AQ ?_;refine⟨xs.length-(k'+1),?_,?_⟩
   ·omega
   rw[J];exact⟨k'+1,_,rfl,rfl,⟨⟨by omega⟩,by omega⟩,rfl⟩
  have ag:=Cd W
  exfalso;omega
 have af:=Cd U
 exfalso;omega
theorem U9 (t:L=ns.map nm) (x:∀n∈ns,(∀q∈co n.1 n.2,Cz q)/\∀s∈n.1,∀q∈s,Cz q):CF 154 [.one (.sl Bc L)] (.one (.bool true)):=by
 have B:L.length=ns.length:=by rw[t,List.length_map]
 refine AO Tryz.func154 fun E z=>?_
 conv=>cbv
 refine .inr ?_;obtain⟨v,b⟩:=xJ fun vs w k=>∃(k':Nat) (j:Int),vs=[.one (.sl Bc L),.one (.int .i64 j)]/\(Ag j k'/\k'<=L.length)/\k=L.length-k'
 refine⟨[],[0,3],[],v,⟨L.length-0,by rw[b];exact⟨0,0,rfl,⟨Bf 0,by omega⟩,rfl⟩⟩,?_⟩;intro vs w I f;rw[b] at f;obtain⟨k',j,rfl,⟨f,D⟩,F⟩:=f;conv=>cbv
 have M:=f.eq;rintro O ⟨K,f6⟩;conv=>cbv
 intro J r;conv=>cbv
 cases J <;> conv=>cbv
 ·have H:=BK r;exact AF ⟨t2,trivial⟩
 have H:=BL r;refine .inr ?_;obtain⟨p,a⟩:=AS (l:=L) (i:=k') (by omega);refine⟨p,fun _=>⟨by omega,by rw[show (j).toNat=k' by omega];exact a⟩,?_⟩;try conv=>cbv
 obtain⟨u,y,h,m,g⟩:=IW t a;have d:=x _ (List.mem_of_getElem? g);refine AB z (dK (ts:=u.reverse) (xs:=co u y) h m d.1 (fun s G=>d.2 s (List.mem_reverse.1 G))) ?_;conv=>cbv
 refine AL ?_;conv=>cbv
 intro P N;conv=>cbv
 refine AQ ?_;refine⟨L.length-(k'+1),?_,?_⟩
 ·omega
 rw[b];exact⟨k'+1,_,rfl,⟨⟨by omega⟩,by omega⟩,rfl⟩
theorem dC {i:Int} {n:Nu} (D:L=ns.map nm) (m:ns≠[]) (K:Ag i i') (M:n=Cw ns i') (J:T=tw n.1) (I:A=em n.1 n.2):CF 155 [.one (.sl Bc L),.one (.int .i64 i)] (.agg (AU T A)):=by
 have H:=K.eq;have j:L.length=ns.length:=by rw[D,List.length_map]
 have F:0<ns.length:=List.length_pos_iff.2 m;refine AO Tryz.func155 fun E Q=>?_
 conv=>cbv
 rintro R ⟨P,f6⟩;conv=>cbv
 intro O B;conv=>cbv
 cases O <;> conv=>cbv
 ·have G:=BR B;intro v b;conv=>cbv
  cases v <;> conv=>cbv
  ·have d:=BK b;rintro N ⟨g,f16⟩;conv=>cbv
   intro f h;conv=>cbv
   refine AM ?_;have z:f=((i'%L.length:Nat):Int):=by rw[h,H,g];exact (Int.natCast_emod _ _).symm
   obtain⟨w,a⟩:=AS (l:=L) (i:=(i'%L.length)) (by exact Nat.mod_lt _ (by omega));refine⟨w,fun _=>⟨by omega,by rw[show (f).toNat=(i'%L.length) by omega];exact a⟩,?_⟩;try conv=>cbv
   obtain⟨u,y,r,t,p⟩:=IW D a;have x:n=(u,y):=by rw[M];unfold Cw;rw[<-j,List.getD_eq_getElem?_getD,p];rfl
   exact AF ⟨⟨rfl,congrArg _ (by rw[J,x];exact r.symm),congrArg _ (by rw[I,x];exact t.symm),trivial⟩,trivial⟩
  have d:=BL b;exact absurd d (by omega)
 have G:=BS B;exact absurd G (by omega)
theorem jw {i:Nat} (b:∀m,o[m]? =(ts[m]?).map fun s=>BN (if i<m/\m<k then Bw i 0 s else s)) (a:ts[k]? =some s) (d:i<k) {w:LR} (hw:w=BN (Bw i 0 s)):
  ∀m,(o.set k w)[m]? =(ts[m]?).map fun s=>BN (if i<m/\m<k+1 then Bw i 0 s else s):=by
 intro m
 by_cases e:k=m
 ·subst e;have f:=IV a
  have g:k<o.length:=by
   have:=b k;rw[a] at this;exact IV this
  rw[List.getElem?_set_self g,a,Option.map_some,if_pos ⟨d,by omega⟩,hw]
 rw[List.getElem?_set_ne e,b m];have:(i<m/\m<k+1)↔(i<m/\m<k):=by omega
 simp only[this]
theorem jv {i:Nat} (d:i<ts.length) (b:∀m,o[m]? =(ts[m]?).map fun s=>BN (if i<m/\m<ts.length then Bw i 0 s else s)):o.take i++o.drop (i+1)=(ts.take i++(ts.drop (i+1)).map (Bw i 0)).map BN:=by
 have e:o=(ts.take (i+1)++(ts.drop (i+1)).map (Bw i 0)).map BN:=by
  apply List.ext_getElem?;intro m;rw[b m,List.getElem?_map,List.getElem?_append,List.length_take,Nat.min_eq_left (by omega)]
  by_cases hm:m<i+1
  ·rw[if_pos hm,List.getElem?_take,if_pos hm];cases ts[m]? with
   | none=>rfl
   | some s=>simp only[Option.map_some];rw[if_neg (by omega)]
  rw[if_neg hm,List.getElem?_map,List.getElem?_drop,show i+1+(m-(i+1))=m by omega]
  by_cases a:m<ts.length
  ·rw[List.getElem?_eq_getElem a];simp only[Option.map_some];rw[if_pos ⟨by omega,a⟩]
  rw[List.getElem?_eq_none (by omega)];rfl
 have hlen:(ts.take (i+1)).length=i+1:=by rw[List.length_take];omega
 rw[e,List.map_append,List.map_append,List.take_append_of_le_length (by rw[List.length_map,hlen];omega),List.drop_left' (by rw[List.length_map,hlen]),<-List.map_take,List.take_take,Nat.min_eq_left (by omega)]
theorem Vp {i:Nat} {f:List Rat->Bool} (a:ts[k]? =some s) (b:i<k):((ts.drop (i+1)).take (k+1-(i+1))).any f=(((ts.drop (i+1)).take (k-(i+1))).any f||f s):=by
 rw[show k+1-(i+1)=k-(i+1)+1 by omega,C7 (l:=ts.drop (i+1)) (i:=k-(i+1)) (x:=s) (by rw[List.getElem?_drop,show i+1+(k-(i+1))=k by omega];exact a)];simp
theorem VJ {u U:List (List Rat)} {x:Re} (h:Al u) (hx:In u x) (hl:u.length<=8) (hw:Hf u.length (u.reverse,co u x)=(U.reverse,co U x)) (hT:T=tw u) (hA:A=em u x) (aP:T2=tw U) (hC:C=em U x):CF 225 [.agg (AU T A)] (.agg (AU T2 C)):=by
 have bI:T.length=u.length:=by rw[hT,CA]
 refine AO Tryz.func225 fun E hE=>?_
 conv=>cbv
 refine⟨[],fun _=>⟨rfl,by decide,rfl,trivial⟩,.inl ?_⟩;try conv=>cbv
 refine .inl ⟨T,fun _=>⟨rfl,by (first | rfl | omega),rfl,by show (0+T.length)*24<=140737488355328;(try simp only[List.length_take,List.length_drop]);omega⟩,?_⟩;intro (af:List (el (.sl AA))) b4 R;have M:af=([]:List (el (.sl AA)))++(T:List (el (.sl AA))):=R.1;have av:b4=List.length (α:=(el (.sl AA))) af:=R.2;conv=>cbv
 refine g2 rfl ?_;intro bT aJ;have bw:=aJ.eq;conv=>cbv
 have aU:List.length af=List.length T:=by rw[M];rfl
 intro b5 bB;conv=>cbv
 refine AQ ?_;refine .inr ?_
 obtain⟨J0,Y⟩:∃J:List AV->List AR->Nat->Prop,J=fun vs g k=>∃(w:List (List Rat)) (O:List LR) (B:LR) (n j:Nat) (i:Int),vs=[.one (.As 2 0 0),.one (.As 3 0 0),.one (.int .i64 i)]/\g=[.var 0 [.nil,.nil],.var 0 [.AZ (.sl AA) 8 0 0 n,.sl AA B],.arr 0 (.sl AA) O]/\
  (Ag (i+1) j/\n=O.length/\O=tw w/\B=em w x)/\(Al w/\In w x/\j<=w.length/\w.length<=8)/\Hf j (w.reverse,co w x)=(U.reverse,co U x)/\k=j:=⟨_,rfl⟩
 refine⟨[],[2,3,4],[2,3,8],J0,⟨u.length,by rw[Y];exact⟨u,_,_,_,u.length,b5,rfl,rfl,⟨⟨by omega⟩,av,by rw[M,hT];rfl,hA⟩,⟨h,hx,Nat.le_refl _,hl⟩,hw,rfl⟩⟩,?_⟩;intro vs g bQ a;rw[Y] at a;obtain⟨w,O,B,n,j,i,rfl,rfl,⟨hi,hn,hO,hB⟩,⟨ad,ae,bL,D⟩,d,bM⟩:=a;conv=>cbv
 have ei:=hi.eq;obtain⟨i',bJ⟩:=xN (j-1);intro b6 ak;conv=>cbv
 cases b6 <;> conv=>cbv
 ·have b1:=F0 ak;exact AF ⟨⟨rfl,.inl ⟨_,rfl,by omega,congrArg _ (by rw[aP,hn,List.drop_zero,List.take_length,hO];have:=d;rw[show j=0 by omega,Hf] at this;rw[tw,tw,(Prod.mk.inj this).1])⟩,congrArg _ (by rw[hC,hB];have:=d;rw[show j=0 by omega,Hf] at this;rw[em,em,(Prod.mk.inj this).2]),trivial⟩,trivial⟩
 have b1:=F1 ak
 obtain⟨K1,a1⟩:∃J:List AV->List AR->Prop,J=fun vs g=>∃(r:List (List Rat)) (O2:List LR) (B2:LR) (n2:Nat),vs=[.one (.As 2 0 0),.one (.As 3 0 0),.one (.int .i64 i)]/\g=[.var 0 [.nil,.nil],.var 0 [.AZ (.sl AA) 8 0 0 n2,.sl AA B2],.arr 0 (.sl AA) O2]/\
  (n2=O2.length/\O2=tw r/\B2=em r x)/\(Al r/\In r x/\i'<=r.length/\r.length<=8)/\Hf i' (r.reverse,co r x)=(U.reverse,co U x):=⟨_,rfl⟩
 refine .inl ⟨[2,3,4],[2,3,8],K1,?_,?_⟩
 ·intro vs g a;rw[a1] at a;obtain⟨r,O2,B2,n2,rfl,rfl,⟨aV,aO,aN⟩,⟨aB,aC,ar,aA⟩,ay⟩:=a;conv=>cbv
  intro b7 bC;conv=>cbv
  refine AQ ?_;refine⟨i',?_,?_⟩
  ·omega
  rw[Y];exact⟨r,O2,B2,n2,i',b7,rfl,rfl,⟨⟨by omega⟩,aV,aO,aN⟩,⟨aB,aC,ar,aA⟩,ay,rfl⟩
 try conv=>cbv
 have aS:j=i'+1:=by omega
 subst aS;have y:Ag i i':=⟨by omega⟩;obtain⟨ts,f⟩:∃z:List (List Rat),z=w.reverse:=⟨_,rfl⟩
 have a2:O=ts.map BN:=by rw[hO,f];rfl
 have bP:ts.length=w.length:=by rw[f,List.length_reverse]
 have bH:O.length=ts.length:=by rw[a2,List.length_map]
 have aQ:(co w x).length<=1000000:=by rw[Cv ae];exact Nat.le_trans (CW D) (by decide)
 obtain⟨aG,I⟩:=xB (C1 i' 0 (co w x));refine AB hE (VS (xs:=co w x) hB y (by omega) I) ?_;conv=>cbv
 intro b8 bD;conv=>cbv
 refine AQ ?_;refine .inr ?_
 obtain⟨J1,v⟩:∃J:List AV->List AR->Nat->Prop,J=fun vs g k=>∃(b:Bool) (k':Nat) (j:Int),vs=[.one (.As 2 0 0),.one (.As 3 0 0),.one (.int .i64 i),.one (.bool b),.one (.int .i64 j)]/\g=[.var 0 [.nil,.nil],.var 0 [.AZ (.sl AA) 8 0 0 n,.sl AA B],.arr 0 (.sl AA) O]/\
  (Ag j k'/\i'<k'/\k'<=ts.length)/\b=(C1 i' 0 (co w x)||((ts.drop (i'+1)).take (k'-(i'+1))).any (C1 i' 0))/\k=ts.length-k':=⟨_,rfl⟩
 refine⟨[],[2,3,4,5,6],[2,3,8],J1,⟨ts.length-(i'+1),by rw[v];exact⟨aG,i'+1,b8,rfl,rfl,⟨⟨by omega⟩,by omega,by omega⟩,by rw[I,Nat.sub_self,List.take_zero];simp,rfl⟩⟩,?_⟩;intro vs g bR a;rw[v] at a;obtain⟨b,k',j,rfl,rfl,⟨a,ao,bK⟩,hb,bN⟩:=a;conv=>cbv
 have ej:=a.eq;intro bU aK;have bx:=aK.eq;conv=>cbv
 intro b9 al;conv=>cbv
 cases b9 <;> conv=>cbv
 ·have b2:=BK al;cases b <;> conv=>cbv
  ·obtain⟨aj,H⟩:=xR (BN (Bw i' 0 (co w x)));refine AB hE (Va (xs:=co w x) hB y (by omega) aQ H) ?_;conv=>cbv
   intro EI bE;conv=>cbv
   refine AQ ?_;refine .inr ?_
   obtain⟨J2,Z⟩:∃J:List AV->List AR->Nat->Prop,J=fun vs g k=>∃(o:List LR) (k2:Nat) (j2:Int),vs=[.one (.As 2 0 0),.one (.As 3 0 0),.one (.int .i64 i),.one (.int .i64 j2)]/\g=[.var 0 [.nil,.nil],.var 0 [.AZ (.sl AA) 8 0 0 n,.sl AA aj],.arr 0 (.sl AA) o]/\
    (Ag j2 k2/\i'<k2/\k2<=ts.length/\o.length=ts.length)/\(∀m,o[m]? =(ts[m]?).map fun s=>BN (if i'<m/\m<k2 then Bw i' 0 s else s))/\k=ts.length-k2:=⟨_,rfl⟩
   refine⟨[],[2,3,4,7],[2,3,8],J2,⟨ts.length-(i'+1),by rw[Z];exact⟨O,i'+1,EI,rfl,rfl,⟨⟨by omega⟩,by omega,by omega,by omega⟩,fun m=>by
    have aW:¬(i'<m/\m<i'+1):=by omega
    simp only[aW,if_false];rw[a2,List.getElem?_map],rfl⟩⟩,?_⟩
   intro vs g bS a;rw[Z] at a;obtain⟨o,k2,j2,rfl,rfl,⟨aR,aq,bo,aX⟩,hq,bO⟩:=a;conv=>cbv
   have bA:=aR.eq;intro bV aM;have bz:=aM.eq;conv=>cbv
   intro ba an;conv=>cbv
   cases ba <;> conv=>cbv
   ·have b3:=BK an;refine⟨fun _=>⟨by omega,by omega,by omega⟩,?_⟩;intro bs bg;conv=>cbv
    rintro bX W ⟨bp,bj⟩;conv=>cbv
    intro bW bG;conv=>cbv
    refine AQ ?_;refine AM ?_;rintro br bt ⟨bf,bh⟩;conv=>cbv
    rintro G X ⟨bq,bk⟩;conv=>cbv
    refine .inl ⟨((o).drop G).take X,fun _=>⟨by omega,by omega,⟨_,rfl,by omega,rfl⟩,by show (W+(((o).drop G).take X).length)*24<=140737488355328;(try simp only[List.length_take,List.length_drop]);omega⟩,?_⟩;intro (F:List (el (.sl AA))) aE S;have au:F=(List.take W o:List (el (.sl AA)))++(((o).drop G).take X:List (el (.sl AA))):=S.1;have aw:aE=List.length (α:=(el (.sl AA))) F:=S.2;conv=>cbv
    refine g2 rfl ?_;rw[a1];have a6:k'=ts.length:=by omega
    have a5:¬(C1 i' 0 (co w x)||(ts.drop (i'+1)).any (C1 i' 0))=true:=by
     have t:=hb;rw[a6,List.take_of_length_le (by rw[List.length_drop];omega)] at t;rw[<-t];exact Bool.false_ne_true
    obtain⟨w1,e1,ab,aT⟩:=az ad ae (by omega:i'<w.length);have e2:=e1;unfold Lk at e2;rw[<-f,if_neg a5] at e2;have e3:=Prod.mk.inj e2
    have a7:F=o.take i'++o.drop (i'+1):=by
     rw[au,show W=i' by omega,show G=i'+1 by omega,List.take_of_length_le (l:=o.drop (i'+1)) (by rw[List.length_drop];omega)]
    rw[show k2=ts.length by omega] at hq;refine⟨w1,F,aj,aE,rfl,rfl,⟨aw,?_,?_⟩,⟨ab.red,ab.mem,aT,Nat.le_trans ab.len D⟩,by rw[Hf,e1] at d;exact d⟩
    ·rw[a7,jv (by omega) hq,tw,<-f] at*;rw[e3.1]
    rw[H,em,<-e3.2]
   have b3:=BL an;refine .inr ?_;refine AM ?_;intro b0 bm;conv=>cbv
   obtain⟨ai,Q⟩:=AS (l:=o) (i:=b0) (by omega);refine⟨ai,fun _=>Q,?_⟩;try conv=>cbv
   obtain⟨s7,aa⟩:=AS (l:=ts) (i:=k2) (by omega);have aY:o[k2]? =some ai:=by rw[<-Q];congr 1;omega
   have aI:ai=BN s7:=by have t:=hq k2;rw[aa,aY,Option.map_some,if_neg (by omega)] at t;exact Option.some.inj t
   have ax:s7.length<=1000000:=by have t:=Sw ad (List.mem_reverse.1 (f ▸ List.mem_of_getElem? aa));have h2:2^w.length<=2^8:=CW D;omega
   obtain⟨aF,N⟩:=xR (BN (Bw i' 0 s7));refine AB hE (Va aI y (by omega) ax N) ?_;conv=>cbv
   refine AM ?_;intro aD bn;conv=>cbv
   refine⟨aF,fun _=>⟨by show _<List.length (α:=(el (.sl AA))) o;(first | omega | (simp;omega)),by first | exact t1 | exact t2 | exact t4 | simp[BX,Bl,cells]⟩,?_⟩;intro (ag:List (el (.sl AA))) (p:ag=List.set (α:=(el (.sl AA))) o aD aF);have bd:ag.length=o.length:=by rw[p,List.length_set]
   conv=>cbv
   refine g2 rfl ?_;intro bb bF;conv=>cbv
   refine AQ ?_;refine⟨ts.length-(k2+1),?_,?_⟩
   ·omega
   rw[Z];exact⟨ag,k2+1,bb,rfl,rfl,⟨⟨by omega⟩,by omega,by omega,by rw[p,List.length_set];exact aX⟩,by rw[p,show aD=k2 by omega];exact jw hq aa aq N,rfl⟩
  rw[a1];have a6:k'=ts.length:=by omega
  have a5:(C1 i' 0 (co w x)||(ts.drop (i'+1)).any (C1 i' 0))=true:=by
   have t:=hb;rw[a6,List.take_of_length_le (by rw[List.length_drop];omega)] at t;exact t.symm
  have e1:Lk i' (w.reverse,co w x)=(w.reverse,co w x):=by
   unfold Lk;rw[<-f,if_pos a5]
  exact⟨w,O,B,n,rfl,rfl,⟨hn,hO,hB⟩,⟨ad,ae,by omega,D⟩,by rw[Hf,e1] at d;exact d⟩
 have b2:=BL al;refine .inr ?_;cases b <;> conv=>cbv
 ·refine AM ?_;intro aZ bl;conv=>cbv
  obtain⟨bc,P⟩:=AS (l:=O) (i:=aZ) (by omega);refine⟨bc,fun _=>P,?_⟩;try conv=>cbv
  obtain⟨s4,aH,a8⟩:=Ju (i:=k') a2 (by rw[<-P];congr 1;omega);obtain⟨bu,K⟩:=xB (C1 i' 0 s4);refine AB hE (VS aH y (by omega) K) ?_;conv=>cbv
  intro ah aL;conv=>cbv
  refine AQ ?_;refine⟨ts.length-(k'+1),?_,?_⟩
  ·omega
  rw[v];exact⟨_,k'+1,ah,rfl,rfl,⟨⟨by omega⟩,by omega,by omega⟩,by rw[Vp a8 ao,<-Bool.or_assoc,<-hb,K];simp,rfl⟩
 intro ah aL;conv=>cbv
 refine AQ ?_;refine⟨ts.length-(k'+1),?_,?_⟩
 ·omega
 rw[v];obtain⟨s4,a8⟩:=AS (l:=ts) (i:=k') (by omega);exact⟨_,k'+1,ah,rfl,rfl,⟨⟨by omega⟩,by omega,by omega⟩,by rw[Vp a8 ao,<-Bool.or_assoc,<-hb];simp,rfl⟩
end Go.Abs
namespace Go.Abs
open Go.RowKit
theorem ZV {o:el Bo} {n d:Int} (a:n=KS o.2.2.2.1) (b:d=((o.2.2.2.2.toNat%8+1:Nat):Int)):HE o=Rat.divInt n d:=by subst a b;rfl
theorem Mz {st:List Nu×Nat} {o:el Bo} (h:st.1=[]\/o.1.toNat%6=0):Di st o=(([],Re.ofRat (HE o)),st.2):=by unfold Di;rw[if_pos h]
theorem JZ {st:List Nu×Nat} {o:el Bo} (a:st.1≠[]) (b:o.1.toNat%6≠0):Di st o=FD (o.1.toNat%6) (Cw st.1 o.2.1.toNat) (Cw st.1 o.2.2.1.toNat) st.2:=by
 unfold Di;rw[if_neg (fun h=>h.elim a b)]
theorem kZ (a b:Nu) (r:Nat):FD 1 a b r=((Bh a.1 b.1,a.2+b.2),r):=by unfold FD;rw[if_pos rfl]
theorem ki (a b:Nu) (r:Nat):FD 2 a b r=((Bh a.1 b.1,a.2-b.2),r):=by unfold FD;rw[if_neg (by decide),if_pos rfl]
theorem kh (a b:Nu) (r:Nat):FD 3 a b r=((Bh a.1 b.1,a.2*b.2),r):=by unfold FD;rw[if_neg (by decide),if_neg (by decide),if_pos rfl]
theorem kg {a b:Nu} (r:Nat) (h:b.2=0):FD 4 a b r=(a,r):=by unfold FD;rw[if_neg (by decide),if_neg (by decide),if_neg (by decide),if_pos rfl,if_pos h]
theorem ke {a b:Nu} (r:Nat) (h:b.2≠0):FD 4 a b r=((Bh a.1 b.1,a.2*AT b.2),r):=by unfold FD;rw[if_neg (by decide),if_neg (by decide),if_neg (by decide),if_pos rfl,if_neg h]
theorem Y2 (a b:Nu) {r:Nat} (h:r<3):FD 5 a b r=((BT a.1 (EO a.2),Re.sqrt (EO a.2)),r+1):=by unfold FD;rw[if_neg (by decide),if_neg (by decide),if_neg (by decide),if_neg (by decide),if_pos h]
theorem Y1 (a b:Nu) {r:Nat} (h:¬r<3):FD 5 a b r=(a,r):=by unfold FD;rw[if_neg (by decide),if_neg (by decide),if_neg (by decide),if_neg (by decide),if_neg h]
theorem get_eq {ns:List Nu} {i j:Nat} {n:Nu} (h:ns[j]? =some n) (a:j=i%ns.length):Cw ns i=n:=by
 unfold Cw;rw[List.getD_eq_getElem?_getD,<-a,h];rfl
theorem iQ:∀h,h<=3->II h Rm Rm<=60000000000000
 |0,_|1,_|2,_|3,_=>by decide +kernel
 | _+4,h=>absurd h (by omega)
theorem iR:∀h,h<=3->II h 256 512<=Rm
 |0,_|1,_|2,_|3,_=>by decide +kernel
 | _+4,h=>absurd h (by omega)
section
variable {V:List Re} {ns:List Nu}
theorem CH.tb {n:Nu} (h:CH V n) (hV:V.length<=3):TB 256 n.1:=(PN.JH (ns:=[n]) hV (fun m hm=>by rw[List.mem_singleton.1 hm];exact h)).tb (PN.self (List.mem_singleton.2 rfl))
theorem CH.inv {n:Nu} (h:CH V n) (hV:V.length<=3) (a:n.2≠0):El n.1 Rm (AT n.2):=by
 have b:=Nat.le_trans h.len hV;have ht:BJ 256 n.1:=⟨h.red,h.tb hV,by decide,by omega⟩;exact ((h.el hV).inv ht (OU h.red h.mem a) (Gv a)).mono (iR _ b)
theorem CH.abs {n:Nu} (h:CH V n):CH V (n.1,EO n.2):=by
 refine⟨h.red,Xl h.mem,h.BO,h.H5,fun q a=>?_⟩;have a:q∈co n.1 (EO n.2):=a;unfold EO at a
 split at a
 ·rw[Ki h.red h.mem] at a;obtain⟨p,b,rfl⟩:=List.mem_map.1 a;have:=h.cos p b;exact⟨by show (-p.num).natAbs<_;rw[Int.natAbs_neg];exact this.1,this.2⟩
 exact h.cos q a
theorem Zn {n:Nu} (h:CH V n) (hV:V.length<=2) (g:0<=n.2) {S:Nat} (i:Rm<=S) (j:S<=Sm:=by first|omega|decide):DW (Tf fun u=>u<:+BT n.1 n.2) Rm Cm S/\Tf (fun u=>u<:+BT n.1 n.2) n.1/\Tf (fun u=>u<:+BT n.1 n.2) (BT n.1 n.2):=by
 have l:=Ja h.red h.mem g;have m:=h.len
 have b:TB 256 (BT n.1 n.2):=by
  by_cases f:Sq n.1 n.2
  ·rw[Et f];exact h.tb (by omega)
  rw[Dk f];intro r a;rcases List.mem_cons.1 a with rfl | a
  ·refine (Nt h.cos).mono ?_;rw[Cv h.mem];have:2^n.1.length<=2^2:=CW;omega
  exact h.tb (by omega) r a
 have I:CY (fun u=>u<:+BT n.1 n.2) 256:=⟨fun {u} hu=>S7 hu l,fun {u} hu=>fun r a=>b r (hu.subset a),fun {r u} hu=>(List.suffix_cons r u).trans hu⟩;refine⟨XS I (fun {u} hu=>?_) i j,Tf.of I (Np _ _),Tf.of I (List.suffix_refl _)⟩
 have:=hu.len I (V:=n.2::V) (fun {u} hu v d=>by
  rcases bF h.mem v (bG hu v d) with rfl | d
  ·exact List.mem_cons_self
  exact List.mem_cons_of_mem _ (h.BO v d))
 rw[List.length_cons] at this;omega
theorem gX (hV:V.length<=3) (d:∀n∈ns,CH V n) {a b:Nu} (ha:a∈ns) (hb:b∈ns) {r:Nat}:∃(T A i h:_) (e:Int),CF 172 [.agg [.sl (.sl AA) (tw a.1),.sl AA (em a.1 a.2)],.agg [.sl (.sl AA) (tw b.1),.sl AA (em b.1 b.2)]] (.AG [(true,(AU T A)),(false,[.int .i64 e])])/\
  CF 223 [.agg [.sl (.sl AA) T,.sl AA A],.one (.int .i64 e),.agg [.sl (.sl AA) (tw a.1),.sl AA (em a.1 a.2)]] (.agg [.sl (.sl AA) i,.sl AA h])/\i=tw (FD 4 a b r).1.1/\h=em (FD 4 a b r).1.1 (FD 4 a b r).1.2/\(FD 4 a b r).2=r:=by
 have G:=Jt hV d (Nat.le_refl Rm);have j:=((d a ha).el hV).mono (by decide:512<=Rm);have l:=((d b hb).el hV).mono (by decide:512<=Rm)
 by_cases f:b.2=0
 ·rw[kg r f];exact⟨_,_,_,_,_,dO G (GR hV d ha) (GR hV d hb) rfl rfl rfl rfl j l f,eB,rfl,rfl,rfl⟩
 rw[ke r f];have g:=Nat.le_trans (d b hb).len hV;exact⟨_,_,_,_,_,VE G (GR hV d ha) (GR hV d hb) rfl rfl rfl rfl j l (OU (d b hb).red (d b hb).mem f) (Gv f) ((d b hb).inv hV f) (iQ _ g) rfl rfl,KZ,rfl,rfl,rfl⟩
end
theorem jE (x:Nu):Gh [] x=x:=by unfold Gh;rw[if_neg (fun h=>h.1 rfl)]
theorem jD {l:List Nu} {x:Nu} (h:l≠[]) (a:I1 x):Gh l x=l.getLastD ID:=by unfold Gh;rw[if_pos ⟨h,a⟩]
theorem jF {l:List Nu} {x:Nu} (a:¬I1 x):Gh l x=x:=by unfold Gh;rw[if_neg (fun h=>a h.2)]
theorem YD {n:Nu}:NS n.1.reverse (co n.1 n.2)↔I1 n:=by
 unfold NS I1;simp only[List.mem_reverse]
theorem jL {l:List Nu} {j:Nat} {n:Nu} (h:l[j]? =some n) (a:j+1=l.length):l.getLastD ID=n:=by
 rw[List.getLastD_eq_getLast?,List.getLast?_eq_getElem?,show l.length-1=j by omega,h];rfl
theorem Z0:∀(xs:List (el Bo)) (st:List Nu×Nat),(xs.foldl Iu st).1.length=st.1.length+xs.length
 | [],_=>rfl
 | o::xs,st=>by
  rw[List.foldl_cons,Z0 xs (Iu st o),List.length_cons];unfold Iu;rw[List.length_append,List.length_singleton];omega
theorem mK {x:Re} (h:BU x<0):x<0:=by rcases Fb x with⟨a,b⟩ |⟨a,b⟩ |⟨a,b⟩ <;> first | exact a | (exfalso;omega)
theorem mJ {x:Re} (h:¬BU x<0):¬x<0:=by rcases Fb x with⟨a,b⟩ |⟨a,b⟩ |⟨a,b⟩ <;> first | (exfalso;omega) | (rw[a];exact fun h=>by grind) | (intro h;grind)
theorem VA {X:List (el Bo)} {L:List (el Bc)} (hL:L=(runN (X.take 24)).1.map nm):CF 153 [.one (.sl Bo X)] (.one (.sl Bc L)):=by
 refine AO Tryz.func153 fun E M=>?_
 conv=>cbv
 refine .inr ?_;obtain⟨J0,aG⟩:=xJ fun vs bl k=>(vs=[.one (.sl Bo X),.one .nil,.one (.int .i64 0),.one (.int .i64 0)]/\bl=[.dead 0]/\k=24)\/(∃(o:List (el Bc)) (n k':Nat) (rr j:Int),vs=[.one (.sl Bo X),.one (.AZ Bc 157 0 0 n),.one (.int .i64 rr),.one (.int .i64 j)]/\bl=[.arr 0 Bc o]/\(Ag j k'/\k'<=X.length/\k'<=24/\0<k'/\n=o.length)/\(o=(runN (X.take k')).1.map nm/\Ag rr (runN (X.take k')).2)/\k=24-k')
 refine⟨[],[0,3,4,5],[157],J0,⟨24,by rw[aG];exact .inl ⟨rfl,rfl,rfl⟩⟩,?_⟩;intro vs bl dp hj;rw[aG] at hj;rcases hj with⟨rfl,rfl,aI⟩ |⟨o,n,k',rr,j,rfl,rfl,⟨hj,dm,cT,bN,hn⟩,⟨ho,g⟩,aI⟩
 ·conv=>cbv
  obtain⟨k',aI⟩:=xN 0;obtain⟨Y,V,hV,f⟩:=TL (X.take k');obtain⟨st,F⟩:∃s,s=runN (X.take k'):=⟨_,rfl⟩
  rw[<-F] at Y hV f;have ad:st.1=[]:=by rw[F,aI];rfl
  have bR:st.2=0:=by rw[F,aI];rfl
  rintro cC ⟨c7,f22⟩;conv=>cbv
  intro bg ah;conv=>cbv
  cases bg <;> conv=>cbv
  ·have bd:=BK ah;exact AF ⟨⟨rfl,.inr (.inl ⟨_,congrArg _ (by rw[hL,show X.take 24=[] by rw[List.take_eq_nil_iff];right;exact List.eq_nil_of_length_eq_zero (by omega)];rfl)⟩),trivial⟩,trivial⟩
  have bd:=BL ah;refine Aw ?_;conv=>cbv
  refine .inr ?_;obtain⟨a,I⟩:=AS (l:=X) (i:=0) (by omega);refine⟨a,fun _=>⟨by omega,I⟩,?_⟩;try conv=>cbv
  intro bj ai;have b2:=ai.eq;have f33:=ai.lt;conv=>cbv
  intro aA S;have ag:=S.eq;have bu:=S.lt;conv=>cbv
  intro ab D;have a5:=D.eq;have b3:=D.lt;conv=>cbv
  intro R v;have K:=v.eq;have aE:=v.lt;conv=>cbv
  have ct:bj=((a.1.toNat:Nat):Int):=b2;have cu:aA=((a.2.1.toNat:Nat):Int):=ag;have cv:ab=((a.2.2.1.toNat:Nat):Int):=a5;have cw:R=((a.2.2.2.2.toNat:Nat):Int):=K;intro bk a6;conv=>cbv
  have a6:=wrap_i64 a6;have aj:bk=KS a.2.2.2.1:=a6;intro cE c9;conv=>cbv
  refine AM ?_;intro cF ak;conv=>cbv
  have ak:=wrap_i64 ak;intro bm ca;conv=>cbv
  refine AQ ?_;obtain⟨aJ,a1⟩:=C5 (em [] (Re.ofRat (HE a)));have cx:=UO a.2.2.2.1;refine AB (r:= .agg [.sl (.sl AA) (([]:List LR)),.sl AA aJ]) M (Pv (q:=HE a) (by omega) (by omega) (by omega) (ZV aj (by show bm=((a.2.2.2.2.toNat%8+1:Nat):Int);omega)) a1) ?_;try conv=>cbv
  refine AL ?_;conv=>cbv
  refine .inr ?_;refine AL ?_;conv=>cbv
  refine .inr ?_;obtain⟨_,b1,cl,aR,bc⟩:=My (st:=st) ⟨Y,V,hV,f⟩ a;have cm:b1.length<=8:=by have:=(My (st:=st) ⟨Y,V,hV,f⟩ a).1;omega
  have w:=RN (l:=[]) (x:=(Di st a).1) (fun n hn=>by simp at hn) bc (fun he=>by rw[Mz (.inl ad)];exact Sz a);obtain⟨kk,aa⟩:∃z:Nu,z=Gh [] (Di st a).1:=⟨_,rfl⟩
  rw[<-aa] at w;have u:=UE w.red w.mem;have bO:kk=([],Re.ofRat (HE a)):=by rw[aa,jE,Mz (.inl ad)]
  have ck:(([]:List LR):List LR)=tw kk.1:=by rw[bO];rfl
  have cj:aJ=em kk.1 kk.2:=by rw[bO];exact a1
  obtain⟨B,H⟩:=G0 (tw (Gn kk).1);obtain⟨y,G⟩:=C5 (em (Gn kk).1 (Gn kk).2);refine AB (r:= .agg [.sl (.sl AA) B,.sl AA y]) M (VJ w.red w.mem (by have:=w.len;omega) (by rw[u.1,u.2.2]) ck cj H (by rw[G,u.2.2])) ?_;try conv=>cbv
  refine⟨[(B,y)],fun _=>⟨rfl,by decide,rfl,⟨rfl,by first | exact t1 | exact t2 | exact t4 | simp[BX,Bl,cells],trivial⟩⟩,.inr ?_⟩;try conv=>cbv
  refine .inl ⟨[(B,y)],fun _=>⟨rfl,by show (1)*48<=140737488355328;(try simp only[List.length_take,List.length_drop]);omega⟩,?_⟩;intro aY bz;conv=>cbv
  intro bh c8;conv=>cbv
  refine AQ ?_;refine⟨24-(k'+1),?_,?_⟩
  ·omega
  rw[aG];have J:X[k']? =some a:=by (first | exact I | (rw[<-I];congr 1 <;> omega))
  refine .inr ⟨_,_,k'+1,0,bh,rfl,rfl,⟨⟨by omega⟩,by have:=IV J;omega,by omega,by omega,bz⟩,?_,rfl⟩;rw[C7 (x:=a) J,Zv,<-F];refine⟨by rw[Iu,ad,List.nil_append,<-aa,H,G];rfl,?_⟩
  show Ag 0 (Di st a).2
  rw[Mz (.inl ad),bR];exact Bf 0
 conv=>cbv
 have ej:=hj.eq;have aD:=g.eq;obtain⟨Y,V,hV,f⟩:=TL (X.take k');obtain⟨st,F⟩:∃s,s=runN (X.take k'):=⟨_,rfl⟩
 rw[<-F] at Y hV f;rw[<-F] at ho g aD;have hlen:st.1.length=k':=by rw[F,runN,Z0,List.length_nil,List.length_take];omega
 have dn:o.length=k':=by rw[ho,List.length_map,hlen]
 have Q:st.1≠[]:=fun e=>by rw[e] at hlen;simp at hlen;omega
 have h:=Nat.le_trans hV Y;rintro cC ⟨c7,f22⟩;conv=>cbv
 intro bg ah;conv=>cbv
 cases bg <;> conv=>cbv
 ·have bd:=BK ah;exact AF ⟨⟨rfl,.inl ⟨_,rfl,by omega,congrArg _ (by have e:X.take 24=X.take k':=(by first | rw[show k'=24 by omega] | rw[List.take_of_length_le (by omega),List.take_of_length_le (by omega)]);rw[hL,hn,List.drop_zero,List.take_length,ho,F,e])⟩,trivial⟩,trivial⟩
 have bd:=BL ah;intro cD bA;conv=>cbv
 cases cD <;> conv=>cbv
 ·have cy:=BK bA;exact AF ⟨⟨rfl,.inl ⟨_,rfl,by omega,congrArg _ (by have e:X.take 24=X.take k':=(by first | rw[show k'=24 by omega] | rw[List.take_of_length_le (by omega),List.take_of_length_le (by omega)]);rw[hL,hn,List.drop_zero,List.take_length,ho,F,e])⟩,trivial⟩,trivial⟩
 have cy:=BL bA;refine .inr ?_;obtain⟨a,I⟩:=AS (l:=X) (i:=k') (by omega);refine⟨a,fun _=>⟨by omega,by rw[show (j).toNat=k' by omega];exact I⟩,?_⟩;try conv=>cbv
 intro bj ai;have b2:=ai.eq;have f33:=ai.lt;conv=>cbv
 intro aA S;have ag:=S.eq;have bu:=S.lt;conv=>cbv
 intro ab D;have a5:=D.eq;have b3:=D.lt;conv=>cbv
 intro R v;have K:=v.eq;have aE:=v.lt;conv=>cbv
 have ct:bj=((a.1.toNat:Nat):Int):=b2;have cu:aA=((a.2.1.toNat:Nat):Int):=ag;have cv:ab=((a.2.2.1.toNat:Nat):Int):=a5;have cw:R=((a.2.2.2.2.toNat:Nat):Int):=K;intro bk a6;conv=>cbv
 have a6:=wrap_i64 a6;have aj:bk=KS a.2.2.2.1:=a6;intro cE c9;conv=>cbv
 refine AM ?_;intro cF ak;conv=>cbv
 have ak:=wrap_i64 ak;intro bm ca;conv=>cbv
 refine AQ ?_;obtain⟨aJ,a1⟩:=C5 (em [] (Re.ofRat (HE a)));have cx:=UO a.2.2.2.1;refine AB (r:= .agg [.sl (.sl AA) (([]:List LR)),.sl AA aJ]) M (Pv (q:=HE a) (by omega) (by omega) (by omega) (ZV aj (by show bm=((a.2.2.2.2.toNat%8+1:Nat):Int);omega)) a1) ?_;try conv=>cbv
 intro dq cb;have dd:=cb.eq;conv=>cbv
 intro cG bB;conv=>cbv
 cases cG <;> conv=>cbv
 ·have c0:=Cc bB;exact absurd c0 (by omega)
 have c0:=Cd bB;intro dr dj;conv=>cbv
 refine AM ?_;intro cH bC;conv=>cbv
 obtain⟨c6,p⟩:=xK fun vs bl=>∃(T7:List LR) (A7:LR) (r7:Int),vs=[.one (.sl Bo X),.one (.AZ Bc 157 0 0 n),.one (.int .i64 r7),.one (.int .i64 j),.one (.As 7 0 0)]/\bl=[.var 0 [.sl (.sl AA) T7,.sl AA A7],.arr 0 Bc o]/\(T7=tw (Di st a).1.1/\A7=em (Di st a).1.1 (Di st a).1.2)/\Ag r7 (Di st a).2
 refine .inl ⟨[0,3,4,5,7],[7,157],c6,?_,?_⟩
 ·intro vs bl hj;rw[p] at hj;obtain⟨T7,A7,r7,rfl,rfl,⟨bJ,bH⟩,bP⟩:=hj;conv=>cbv
  have di:=bP.eq;intro cW bw;have cQ:=bw.eq;conv=>cbv
  intro c4 aQ;conv=>cbv
  cases c4 <;> conv=>cbv
  ·have aX:=Cc aQ;exact absurd aX (by omega)
  have aX:=Cd aQ;obtain⟨bt,a8⟩:=GQ (NS (Di st a).1.1.reverse (co (Di st a).1.1 (Di st a).1.2));refine AB M (eA bJ bH a8) ?_;conv=>cbv
  obtain⟨bs,a7⟩:=xK fun vs bl=>∃(T8:List LR) (A8:LR),vs=[.one (.sl Bo X),.one (.AZ Bc 157 0 0 n),.one (.int .i64 r7),.one (.int .i64 j),.one (.As 7 0 0)]/\bl=[.var 0 [.sl (.sl AA) T8,.sl AA A8],.arr 0 Bc o]/\(T8=tw (Gh st.1 (Di st a).1).1/\A8=em (Gh st.1 (Di st a).1).1 (Gh st.1 (Di st a).1).2)
  refine .inl ⟨[0,3,4,5,7],[7,157],bs,?_,?_⟩
  ·intro vs bl hj;rw[a7] at hj;obtain⟨T8,A8,rfl,rfl,bK,bI⟩:=hj;conv=>cbv
   obtain⟨_,b1,cl,aR,bc⟩:=My (st:=st) ⟨Y,V,hV,f⟩ a;have cm:b1.length<=8:=by have:=(My (st:=st) ⟨Y,V,hV,f⟩ a).1;omega
   have w:=RN (l:=st.1) (x:=(Di st a).1) aR bc (fun he=>by rw[Mz (.inl he)];exact Sz a);obtain⟨kk,aa⟩:∃z:Nu,z=Gh st.1 (Di st a).1:=⟨_,rfl⟩
   rw[<-aa] at w;have u:=UE w.red w.mem;rw[<-aa] at bK bI;obtain⟨B,H⟩:=G0 (tw (Gn kk).1);obtain⟨y,G⟩:=C5 (em (Gn kk).1 (Gn kk).2);refine AB (r:= .agg [.sl (.sl AA) B,.sl AA y]) M (VJ w.red w.mem (by have:=w.len;omega) (by rw[u.1,u.2.2]) bK bI H (by rw[G,u.2.2])) ?_;try conv=>cbv
   refine⟨[(B,y)],fun _=>⟨rfl,by decide,rfl,⟨rfl,by first | exact t1 | exact t2 | exact t4 | simp[BX,Bl,cells],trivial⟩⟩,.inr ?_⟩;try conv=>cbv
   refine .inl ⟨[(B,y)],fun _=>⟨rfl,by (first | rfl | omega),rfl,by show (o.length+1)*48<=140737488355328;(try simp only[List.length_take,List.length_drop]);omega⟩,?_⟩;intro (az:List (el Bc)) aY aB;have b8:az=(o:List (el Bc))++([(B,y)]:List (el Bc)):=aB.1;have ba:aY=List.length (α:=(el Bc)) az:=aB.2;conv=>cbv
   intro bh c8;conv=>cbv
   refine AQ ?_;refine⟨24-(k'+1),?_,?_⟩
   ·omega
   rw[aG];have J:X[k']? =some a:=by (first | exact I | (rw[<-I];congr 1 <;> omega))
   refine .inr ⟨az,_,k'+1,r7,bh,rfl,rfl,⟨⟨by omega⟩,by have:=IV J;omega,by omega,by omega,ba⟩,?_,rfl⟩;rw[C7 (x:=a) J,Zv,<-F];exact⟨by rw[b8,ho,Iu,List.map_append,<-aa,H,G];rfl,bP⟩
  cases bt <;> conv=>cbv
  ·rw[a7];refine⟨_,_,rfl,rfl,?_⟩ <;> rw[jF (fun hl=>Bool.false_ne_true (a8.2 (YD.2 hl)))]
   exact⟨bJ,bH⟩
  intro cX bx;have cR:=bx.eq;conv=>cbv
  intro cY cS;conv=>cbv
  refine AQ ?_;refine AM ?_;intro bU cn;conv=>cbv
  obtain⟨c5,ay⟩:=AS (l:=o) (i:=bU) (by omega);refine⟨c5,fun _=>ay,?_⟩;try conv=>cbv
  rw[a7];obtain⟨u3,y3,bS,bT,cr⟩:=IW ho ay;refine⟨_,_,rfl,rfl,?_⟩ <;> rw[jD Q (YD.1 (a8.1 rfl)),jL cr (by omega)]
  exact⟨bS,bT⟩
 cases cH <;> conv=>cbv
 ·have cz:=DQ bC;rw[p];refine⟨_,_,_,rfl,rfl,?_,?_⟩ <;> rw[Mz (.inr (by omega))]
  ·exact⟨rfl,a1⟩
  exact g
 have cz:=DR bC;intro cI bD;conv=>cbv
 have bD:=wrap_i64 bD;intro cJ cc;have de:=cc.eq;conv=>cbv
 intro cK cd;conv=>cbv
 refine AM ?_;obtain⟨d58,bL,df,cp⟩:∃d:Nat,d=a.2.1.toNat%k'/\cK=d/\d<k':=⟨_,rfl,by rw[cd,show cI=((a.2.1.toNat:Nat):Int) by omega,show cJ=(k':Int) by omega];exact (Int.natCast_emod _ _).symm,Nat.mod_lt _ bN⟩
 refine AM ?_;intro bV cU;conv=>cbv
 obtain⟨aC,aV⟩:=AS (l:=o) (i:=bV) (by omega);refine⟨aC,fun _=>aV,?_⟩;try conv=>cbv
 intro cL bE;conv=>cbv
 have bE:=wrap_i64 bE;intro cM cf;have dg:=cf.eq;conv=>cbv
 intro cN cg;conv=>cbv
 refine AM ?_;obtain⟨d67,bM,dh,cq⟩:∃d:Nat,d=a.2.2.1.toNat%k'/\cN=d/\d<k':=⟨_,rfl,by rw[cg,show cL=((a.2.2.1.toNat:Nat):Int) by omega,show cM=(k':Int) by omega];exact (Int.natCast_emod _ _).symm,Nat.mod_lt _ bN⟩
 refine AM ?_;intro bW cV;conv=>cbv
 obtain⟨br,aW⟩:=AS (l:=o) (i:=bW) (by omega);refine⟨br,fun _=>aW,?_⟩;try conv=>cbv
 refine g2 rfl ?_;obtain⟨u1,y1,m,t,O⟩:=IW ho aV;obtain⟨u2,y2,ae,af,P⟩:=IW ho aW;have N:=List.mem_of_getElem? O;have ar:=List.mem_of_getElem? P;have U:bV=a.2.1.toNat%st.1.length:=by rw[hlen,<-bL];omega
 have W:bW=a.2.2.1.toNat%st.1.length:=by rw[hlen,<-bM];omega
 have aq:=((f _ N).el h).mono (by decide:512<=Rm);have b5:=((f _ ar).el h).mono (by decide:512<=Rm);intro ds dk;conv=>cbv
 refine AM ?_;refine .inr ?_;intro cP bG;conv=>cbv
 refine .inr ?_;cases cP <;> conv=>cbv
 ·have cB:=BR bG;intro c1 aN;conv=>cbv
  refine .inr ?_;cases c1 <;> conv=>cbv
  ·have bX:=BR aN;intro c2 aO;conv=>cbv
   refine .inr ?_;cases c2 <;> conv=>cbv
   ·have bY:=BR aO;intro c3 aP;conv=>cbv
    refine .inr ?_;cases c3 <;> conv=>cbv
    ·have bZ:=BR aP;obtain⟨dt,bQ⟩:=xI (BU y1);refine AB M (Py (Jt h f (Nat.le_refl Rm)) (GR h f N) m t aq bQ) ?_;conv=>cbv
     intro cO bF;conv=>cbv
     refine .inr ?_;cases cO <;> conv=>cbv
     ·have cA:=BK bF;intro bn al;conv=>cbv
      refine .inr ?_;cases bn <;> conv=>cbv
      ·have bf:=BK al;rw[p];have b:=JZ (o:=a) Q (by omega:a.1.toNat%6≠0);rw[get_eq O U,get_eq P W] at b;rw[show a.1.toNat%6=5 by omega,Y1 _ _ (by omega)] at b;refine⟨_,_,_,rfl,rfl,?_,?_⟩ <;> rw[b]
       ·exact⟨m,t⟩
       exact g
      have bf:=BL al;intro bo ch;conv=>cbv
      refine AQ ?_;have an:=(f _ N).abs;have ao:EO y1=y1:=by unfold EO;rw[if_neg (mJ (by omega))]
      obtain⟨hG,b6,b7⟩:=Zn an (by omega) (Kc _) (Nat.le_refl Rm);obtain⟨bq,a2⟩:=G0 (tw (BT u1 (EO y1)));obtain⟨bp,Z⟩:=C5 (em (BT u1 (EO y1)) (Re.sqrt (EO y1)));refine AB (r:= .AG [(true,[.sl (.sl AA) bq,.sl AA bp]),(false,[.int .i64 0])]) M (Pz hG b6 m (by show _=em u1 (EO y1);rw[ao];exact t) ((an.el h).mono (by decide)) b7 (Kc _) a2 Z) ?_;try conv=>cbv
      refine AB M KZ ?_;conv=>cbv
      rw[p];have b:=JZ (o:=a) Q (by omega:a.1.toNat%6≠0);rw[get_eq O U,get_eq P W] at b;rw[show a.1.toNat%6=5 by omega,Y2 _ _ (by omega)] at b;refine⟨_,_,_,rfl,rfl,?_,?_⟩ <;> rw[b]
      ·exact⟨a2,Z⟩
      exact⟨by show bo=((st.2+1:Nat):Int);omega⟩
     have cA:=BL bF;obtain⟨du,aS⟩:=C5 (em u1 (-y1));refine AB M (Px (Jt h f (Nat.le_refl Rm)) (GR h f N) m t aq aS) ?_;conv=>cbv
     intro bn al;conv=>cbv
     refine .inr ?_;cases bn <;> conv=>cbv
     ·have bf:=BK al;rw[p];have b:=JZ (o:=a) Q (by omega:a.1.toNat%6≠0);rw[get_eq O U,get_eq P W] at b;rw[show a.1.toNat%6=5 by omega,Y1 _ _ (by omega)] at b;refine⟨_,_,_,rfl,rfl,?_,?_⟩ <;> rw[b]
      ·exact⟨m,t⟩
      exact g
     have bf:=BL al;intro bo ch;conv=>cbv
     refine AQ ?_;have an:=(f _ N).abs;have ao:EO y1= -y1:=by unfold EO;rw[if_pos (mK (by omega))]
     obtain⟨hG,b6,b7⟩:=Zn an (by omega) (Kc _) (Nat.le_refl Rm);obtain⟨bq,a2⟩:=G0 (tw (BT u1 (EO y1)));obtain⟨bp,Z⟩:=C5 (em (BT u1 (EO y1)) (Re.sqrt (EO y1)));refine AB (r:= .AG [(true,[.sl (.sl AA) bq,.sl AA bp]),(false,[.int .i64 0])]) M (Pz hG b6 m (by show _=em u1 (EO y1);rw[ao];exact aS) ((an.el h).mono (by decide)) b7 (Kc _) a2 Z) ?_;try conv=>cbv
     refine AB M KZ ?_;conv=>cbv
     rw[p];have b:=JZ (o:=a) Q (by omega:a.1.toNat%6≠0);rw[get_eq O U,get_eq P W] at b;rw[show a.1.toNat%6=5 by omega,Y2 _ _ (by omega)] at b;refine⟨_,_,_,rfl,rfl,?_,?_⟩ <;> rw[b]
     ·exact⟨a2,Z⟩
     exact⟨by show bo=((st.2+1:Nat):Int);omega⟩
    have bZ:=BS aP;obtain⟨aL,aK,b0,aZ,aM,b4,b9,aH,aF,bb⟩:=gX h f N ar (r:=st.2);refine .inl ⟨[.agg [.sl (.sl AA) aC.1,.sl AA aC.2],.agg [.sl (.sl AA) br.1,.sl AA br.2]],.AG [(true,[.sl (.sl AA) aL,.sl AA aK]),(false,[.int .i64 aM])],fun _=>⟨t2,t2,trivial⟩,fun _=>HG M (by rw[m,t,ae,af];exact b4),?_⟩;try conv=>cbv
    refine .inl ⟨[.agg [.sl (.sl AA) aL,.sl AA aK],.one (.int .i64 aM),.agg [.sl (.sl AA) aC.1,.sl AA aC.2]],.agg [.sl (.sl AA) b0,.sl AA aZ],fun _=>⟨t2,rfl,t2,trivial⟩,fun _=>HG M (by rw[m,t];exact b9),?_⟩;try conv=>cbv
    rw[p];have b:=JZ (o:=a) Q (by omega:a.1.toNat%6≠0);rw[get_eq O U,get_eq P W] at b;rw[show a.1.toNat%6=4 by omega] at b;refine⟨_,_,_,rfl,rfl,?_,?_⟩ <;> rw[b]
    ·exact⟨aH,aF⟩
    rw[bb];exact g
   have bY:=BS aO;obtain⟨dc,ax⟩:=G0 (tw (Bh u1 u2));obtain⟨da,av⟩:=C5 (em (Bh u1 u2) (y1*y2));refine AB M (Pw (Jt h f (Nat.le_refl Rm)) (GR h f N) (GR h f ar) m ae t af aq b5 ax av) ?_;conv=>cbv
   refine AB M KZ ?_;conv=>cbv
   rw[p];have b:=JZ (o:=a) Q (by omega:a.1.toNat%6≠0);rw[get_eq O U,get_eq P W] at b;rw[show a.1.toNat%6=3 by omega,kh] at b;refine⟨_,_,_,rfl,rfl,?_,?_⟩ <;> rw[b]
   ·exact⟨ax,av⟩
   exact g
  have bX:=BS aN;obtain⟨db,aw⟩:=G0 (tw (Bh u1 u2));obtain⟨cZ,au⟩:=C5 (em (Bh u1 u2) (y1-y2));refine AB M (P0 (Jt h f (Nat.le_refl Rm)) (GR h f N) (GR h f ar) m ae t af aq b5 aw au) ?_;conv=>cbv
  refine AB M KZ ?_;conv=>cbv
  rw[p];have b:=JZ (o:=a) Q (by omega:a.1.toNat%6≠0);rw[get_eq O U,get_eq P W] at b;rw[show a.1.toNat%6=2 by omega,ki] at b;refine⟨_,_,_,rfl,rfl,?_,?_⟩ <;> rw[b]
  ·exact⟨aw,au⟩
  exact g
 have cB:=BS bG;obtain⟨dw,aU⟩:=G0 (tw (Bh u1 u2));obtain⟨dv,aT⟩:=C5 (em (Bh u1 u2) (y1+y2));refine AB M (Pu (Jt h f (Nat.le_refl Rm)) (GR h f N) (GR h f ar) m ae t af aq b5 aU aT) ?_;conv=>cbv
 refine AB M KZ ?_;conv=>cbv
 rw[p];have b:=JZ (o:=a) Q (by omega:a.1.toNat%6≠0);rw[get_eq O U,get_eq P W] at b;rw[show a.1.toNat%6=1 by omega,kZ] at b;refine⟨_,_,_,rfl,rfl,?_,?_⟩ <;> rw[b]
 ·exact⟨aU,aT⟩
 exact g
end Go.Abs
namespace Go.Abs
def qn (k:Nat):Re:=Re.ofRat ((k:Nat):Rat)
noncomputable def rtN (k:Nat):Nu:=(BT [] (qn k),Re.sqrt (qn k))
noncomputable def oJ (k:Nat):Nu:=([],qn k)
theorem jB (u:List (List Rat)):FO [] u=u:=by
 unfold FO
 split
 ·rename_i h;exact (List.suffix_nil.1 h).symm
 rw[if_pos (List.nil_suffix)]
theorem iz (u v:List (List Rat)):Bh u v=FO u v:=by
 show FO (FO [] u) v=_
 rw[jB]
noncomputable def gz:Re:=qn 5+qn 2*Re.sqrt (qn 6)
def PA (u:List (List Rat)):Prop:=u<:+BT [[6]] gz\/u<:+BT [] (qn 2)\/u<:+BT [] (qn 3)
end Go.Abs
namespace Go.Abs
open Go.RowKit
theorem oR (X:List (el Bo)):∃V:List Re,V.length<=3/\∀n∈(runN X).1,CH V n:=by
 obtain⟨h3,V,hV,a⟩:=TL X;exact⟨V,Nat.le_trans hV h3,a⟩
instance (q:Rat):Decidable (Cz q):=inferInstanceAs (Decidable (_/\_))
theorem mR {q:Rat} (h:Cz q):CQ q:=⟨by have:=OY.2 h.1;omega,by have:=OY.2 h.2;omega⟩
end Go.Abs
