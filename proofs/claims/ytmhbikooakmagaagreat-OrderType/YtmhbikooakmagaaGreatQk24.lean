/- Part 25 of a proof. Conditions: each theorem's own. -/
import Derived.Test.YtmhbikooakmagaaGreatQk23
set_option linter.all false
set_option maxHeartbeats 8000000
set_option maxRecDepth 20000
open Go.Proofs
namespace Go.Abs
open Go.RowKit
variable {A A1 A2 C:LR} {L:List (el Ap)} {T T1 T2 o:List LR} {c:Bool} {i' k:Nat} {ns:List Nu} {q:Rat} {s xs:List Rat} {ts:List (List Rat)}
theorem OU {i:Nat} (h:xs[k]? =some q):Bz i k (xs.drop k)=((ES k i&&q !=0)||Bz i (k+1) (xs.drop (k+1))):=by
 have a:=GS h;rw[List.drop_eq_getElem_cons a,Bz];rw[List.getElem?_eq_getElem a] at h;rw[Option.some.inj h]
theorem bZ {i:Nat} (h:k<xs.length) (hb:ES k i=false):Bz i k (xs.drop k)=Bz i (k+1) (xs.drop (k+1)):=by
 obtain⟨q,a⟩:=AL h;rw[OU a,hb];rfl
theorem WB {i:Nat} (h:xs[k]? =some q):BH i 0 (xs.take (k+1))=BH i 0 (xs.take k)++(if ES k i=true then [] else [q]):=by
 have a:=GS h;rw[CE h,MR,Nat.zero_add,List.length_take,Nat.min_eq_left (by omega),BH,BH]
theorem V8 (i:Nat):∀(k:Nat) (l:List Rat),(BH i k l).length<=l.length
 | _,[]=>Nat.le_refl _
 | k,x::l=>by
  rw[BH];have:=V8 i (k+1) l
  split
  ·rw[List.length_cons];omega
  rw[List.length_cons,List.length_cons];omega
theorem RA {i:Nat} {a n15:Int} (b:a=((k/2^i:Nat):Int)) (d:n15=a%2):(ES k i=true↔n15=1)/\(ES k i=false↔n15=0):=by
 unfold ES
 constructor
 ·rw[beq_iff_eq];omega
 rw[beq_eq_false_iff_ne];omega
theorem Lf {n:Nat}:(AP n).length<=2↔n<18446744073709551616:=by
 constructor
 ·intro h;have a:=Bx (AP n);rw[Am] at a;exact Nat.lt_of_lt_of_le a (Nat.pow_le_pow_right (by decide) (by omega:32*(AP n).length<=64))
 intro h;exact Ex (k:=2) h
theorem HH {b1 b2:Bool} {l1 l2:List UInt32} (h:Ay q b1 l1 b2 l2):CG q↔l1.length<=2/\l2.length<=2:=by
 have a:=h.num.Au;have b:=h.den.Au;rw[a,b,Lf,Lf];unfold CG;rw[Int.natAbs_natCast]
theorem dQ (h:Cw q=0):q=0:=by
 unfold Cw Bn at h
 split at h
 ·omega
 split at h
 ·exact Rat.num_eq_zero.1 (by assumption)
 omega
theorem Vl {p:Rat->Prop} (h:∀x∈xs.take k,p x) (d:xs[k]? =some q) (b:p q):∀x∈xs.take (k+1),p x:=by
 intro x a;rw[CE d] at a;rcases List.mem_append.1 a with a | a
 ·exact h x a
 rw[List.mem_singleton.1 a];exact b
theorem QU {i:Int} (K:A=Ad xs) (R:AQ i i') (h6:i'<=60) (M:c=Bz i' 0 xs):CF 128 [.one (.sl AA A),.one (.int .i64 i)] (.one (.bool c)):=by
 have ei:=R.eq;have P:A.length=xs.length:=by rw[K,List.length_map]
 refine AJ Tryz.func128 fun E Q=>?_
 conv=>cbv
 refine .inr ?_;obtain⟨N,a⟩:=xJ fun vs O k=>∃(k':Nat) (j:Int),vs=[.one (.sl AA A),.one (.int .i64 i),.one (.int .i64 j)]/\(AQ j k'/\k'<=xs.length)/\Bz i' 0 xs=Bz i' k' (xs.drop k')/\k=xs.length-k'
 refine⟨[],[0,1,5],[],N,⟨xs.length-0,by rw[a];exact⟨0,0,rfl,⟨An 0,by omega⟩,by rw[List.drop_zero],rfl⟩⟩,?_⟩;intro vs O X y;rw[a] at y;obtain⟨k',j,rfl,⟨y,S⟩,hinv,U⟩:=y;conv=>cbv
 have ej:=y.eq;rintro n8 ⟨e8,f8⟩;conv=>cbv
 intro Y J;conv=>cbv
 cases Y <;> conv=>cbv
 ·have W:=AW J;exact AD ⟨⟨rfl,congrArg _ (by rw[M,hinv,show k'=xs.length by omega,List.drop_length];rfl),trivial⟩,trivial⟩
 have W:=AY J;refine .inr ?_;intro H D;conv=>cbv
 refine AG ?_;obtain⟨d14,t,z⟩:∃d:Nat,d=k'/2^i'/\H=d:=⟨_,rfl,shr_var (p:=k') (e:=i') D (by omega) (by omega) (by show i'<=64;omega)⟩
 intro n15 F;conv=>cbv
 refine AG ?_;have b:=RA (k:=k') (i:=i') (by rw[z,t]) F;intro n16 n;conv=>cbv
 cases n16 <;> conv=>cbv
 ·have v:=Ac n;intro m B;conv=>cbv
  refine AH ?_;refine⟨xs.length-(k'+1),?_,?_⟩
  ·omega
  rw[a];refine⟨k'+1,m,rfl,⟨⟨by omega⟩,by omega⟩,?_,rfl⟩;rw[hinv,bZ (by omega) (b.2.2 (by omega))]
 have v:=Ae n;obtain⟨I,h⟩:=AL (l:=A) (i:=k') (by omega);refine⟨I,fun _=>⟨by omega,by rw[show (j).toNat=k' by omega];exact h⟩,?_⟩;try conv=>cbv
 obtain⟨x,u,f,_⟩:=Ha K h;obtain⟨Z,g⟩:=xI (Cw x);refine AB Q (QF u g) ?_;conv=>cbv
 intro n23 r;conv=>cbv
 cases n23 <;> conv=>cbv
 ·have w:=Cr r;intro m B;conv=>cbv
  refine AH ?_;refine⟨xs.length-(k'+1),?_,?_⟩
  ·omega
  rw[a];refine⟨k'+1,m,rfl,⟨⟨by omega⟩,by omega⟩,?_,rfl⟩;have G:x=0:=dQ (by omega);rw[hinv,OU f,G];simp
 have w:=Cs r;exact AD ⟨⟨rfl,congrArg _ (by rw[M,hinv,OU f,b.1.2 v,bne_iff_ne.2 (fun e=>w (by rw[g,e];rfl))];rfl),trivial⟩,trivial⟩
theorem Qb {i:Int} (P:A=Ad xs) (Y:AQ i i') (h6:i'<=60) (hl:xs.length<=1000000) (X:C=Ad (BH i' 0 xs)):CF 129 [.one (.sl AA A),.one (.int .i64 i)] (.one (.sl AA C)):=by
 have ei:=Y.eq;have W:A.length=xs.length:=by rw[P,List.length_map]
 refine AJ Tryz.func129 fun E hE=>?_
 conv=>cbv
 refine .inr ?_;obtain⟨U,b⟩:=xJ fun vs O k=>∃(o:LR) (n k':Nat) (j:Int),vs=[.one (.sl AA A),.one (.int .i64 i),.one (.AN AA 5 0 0 n),.one (.int .i64 j)]/\O=[.arr 0 AA o]/\(AQ j k'/\k'<=xs.length/\n=o.length)/\o=Ad (BH i' 0 (xs.take k'))/\k=xs.length-k'
 refine⟨[(5,AA,true)],[0,1,5,6],[5],U,⟨xs.length-0,by rw[b];exact⟨[],0,0,0,rfl,rfl,⟨An 0,by omega,rfl⟩,rfl,rfl⟩⟩,?_⟩;intro vs O a5 B;rw[b] at B;obtain⟨o,n,k',j,rfl,rfl,⟨B,Z,Q⟩,hinv,a1⟩:=B;conv=>cbv
 have ej:=B.eq;have a2:o.length<=xs.length:=by rw[hinv,List.length_map];have:=V8 i' 0 (xs.take k');rw[List.length_take] at this;omega
 rintro n9 ⟨e9,f9⟩;conv=>cbv
 intro N t;conv=>cbv
 cases N <;> conv=>cbv
 ·have K:=AW t;exact AD ⟨⟨rfl,.inl ⟨_,rfl,by omega,congrArg _ (by rw[X,Q,List.drop_zero,List.take_length,hinv,show k'=xs.length by omega,List.take_length])⟩,trivial⟩,trivial⟩
 have K:=AY t;refine .inr ?_;intro n15 G;conv=>cbv
 refine AG ?_;obtain⟨d15,v,D⟩:∃d:Nat,d=k'/2^i'/\n15=d:=⟨_,rfl,shr_var (p:=k') (e:=i') G (by omega) (by omega) (by show i'<=64;omega)⟩
 intro n16 H;conv=>cbv
 refine AG ?_;have f:=RA (k:=k') (i:=i') (by rw[D,v]) H;intro n17 u;conv=>cbv
 refine .inr ?_;cases n17 <;> conv=>cbv
 ·have M:=Ac u;intro r F;conv=>cbv
  refine AH ?_;refine⟨xs.length-(k'+1),?_,?_⟩
  ·omega
  rw[b];obtain⟨qq,I⟩:=AL (l:=xs) (i:=k') (by omega);exact⟨o,n,k'+1,r,rfl,rfl,⟨⟨by omega⟩,by omega,Q⟩,by rw[WB I,if_pos (f.1.2 (by omega)),List.append_nil];exact hinv,rfl⟩
 have M:=Ae u
 obtain⟨z,S,y,J⟩:∃q,Ay q (rp q).1.1 (rp q).1.2 (rp q).2.1 (rp q).2.2/\xs[k']? =some q/\A[k']? =some (rp q):=by
  obtain⟨q,R⟩:=AL (l:=xs) (i:=k') (by omega);exact⟨q,FA q,R,by rw[P,List.getElem?_map,R];rfl⟩
 obtain⟨a,g⟩:=AL (l:=A) (i:=k') (by omega);refine⟨a,fun _=>⟨by omega,by rw[show (j).toNat=k' by omega];exact g⟩,?_⟩;try conv=>cbv
 refine⟨[((a.1.1,a.1.2),(a.2.1,a.2.2))],fun _=>⟨rfl,by decide,rfl,⟨rfl,by first | exact t1 | exact t2 | exact t4 | simp[Aj,Ar,cells],trivial⟩⟩,.inr ?_⟩;try conv=>cbv
 refine .inl ⟨[((a.1.1,a.1.2),(a.2.1,a.2.2))],fun _=>⟨rfl,by (first | rfl | omega),rfl,by show (o.length+1)*64<=140737488355328;(try simp only[List.length_take,List.length_drop]);omega⟩,?_⟩;intro (m:LR) n24 h;have w:m=(o:LR)++([((a.1.1,a.1.2),(a.2.1,a.2.2))]:LR):=h.1;have x:n24=List.length (α:=(el AA)) m:=h.2;conv=>cbv
 intro r F;conv=>cbv
 refine AH ?_;refine⟨xs.length-(k'+1),?_,?_⟩
 ·omega
 rw[b];have ex:a=rp z:=by have:=g.symm.trans J;exact Option.some.inj this
 refine⟨m,_,k'+1,r,rfl,rfl,⟨⟨by omega⟩,by omega,x⟩,?_,rfl⟩;rw[WB y,if_neg (by rw[f.2.2 (by omega)];decide)];rw[w,hinv];show _=List.map rp _;rw[List.map_append];show _=Ad _++[rp z];rw[<-ex]
theorem H0:CF 100 [.agg (Ab T1 A1),.one (.int .i64 0),.agg (Ab T2 A2)] (.agg (Ab T1 A1)):=by
 refine AJ Tryz.func100 fun E a=>?_
 conv=>cbv
 refine Ai ?_;conv=>cbv
 exact AD ⟨t3,trivial⟩
theorem Xk:CF 100 [.agg (Ab T1 A1),.one (.int .i64 6),.agg (Ab T2 A2)] (.agg (Ab T2 A2)):=by
 refine AJ Tryz.func100 fun E a=>?_
 conv=>cbv
 refine Bu ?_;conv=>cbv
 exact AD ⟨t3,trivial⟩
theorem eV (h:∀x∈ts.take k,∀q∈x,CG q) (d:ts[k]? =some s) (b:∀q∈s,CG q):∀x∈ts.take (k+1),∀q∈x,CG q:=by
 intro x a;rw[CE d] at a;rcases List.mem_append.1 a with a | a
 ·exact h x a
 rw[List.mem_singleton.1 a];exact b
def KU (ts:List (List Rat)) (xs:List Rat):Prop:=(∃q∈xs,¬CG q)\/∃s∈ts,∃q∈s,¬CG q
theorem Xj (hT:T=ts.map Ad) (hA:A=Ad xs) (hc:c=true↔KU ts xs):CF 107 [.agg (Ab T A)] (.one (.bool c)):=by
 have aI:A.length=xs.length:=by rw[hA,List.length_map]
 have aJ:T.length=ts.length:=by rw[hT,List.length_map]
 refine AJ Tryz.func107 fun E hE=>?_
 conv=>cbv
 refine .inr ?_;obtain⟨J0,J⟩:=xJ fun vs v k=>∃(k':Nat) (j:Int),vs=[.one (.Ak 1 0 0),.one (.bool false),.one (.int .i64 j)]/\v=[.var 0 [.sl (.sl AA) T,.sl AA A]]/\(AQ j k'/\k'<=xs.length)/\(∀q∈xs.take k',CG q)/\k=xs.length-k'
 refine⟨[],[1,2,3],[1],J0,⟨xs.length-0,by rw[J];exact⟨0,0,rfl,rfl,⟨An 0,by omega⟩,by simp,rfl⟩⟩,?_⟩;intro vs v aR r;rw[J] at r;obtain⟨k',j,rfl,rfl,⟨r,aK⟩,hinv,aL⟩:=r;conv=>cbv
 have ej:=r.eq;rintro aU ⟨ay,f10⟩;conv=>cbv
 intro ai W;conv=>cbv
 cases ai <;> conv=>cbv
 ·have aa:=AW W;refine .inr ?_;obtain⟨J1,K⟩:=xJ fun vs v k=>∃(m':Nat) (m:Int),vs=[.one (.Ak 1 0 0),.one (.bool false),.one (.int .i64 m)]/\v=[.var 0 [.sl (.sl AA) T,.sl AA A]]/\(AQ m m'/\m'<=ts.length)/\(∀s∈ts.take m',∀q∈s,CG q)/\k=ts.length-m'
  refine⟨[],[1,2,4],[1],J1,⟨ts.length-0,by rw[K];exact⟨0,0,rfl,rfl,⟨An 0,by omega⟩,by simp,rfl⟩⟩,?_⟩;intro vs v aS r;rw[K] at r;obtain⟨m',m,rfl,rfl,⟨hm,aO⟩,w,aM⟩:=r;conv=>cbv
  have em:=hm.eq;rintro n37 ⟨aB,f37⟩;conv=>cbv
  intro n38 Z;conv=>cbv
  cases n38 <;> conv=>cbv
  ·have ae:=AW Z;exact AD ⟨⟨rfl,congrArg _ (by rw[Bool.eq_false_iff];intro h;rcases hc.1 h with⟨q,hq,hn⟩ |⟨s,hs,q,hq,hn⟩;exact hn (hinv q (by rw[List.take_of_length_le (by omega)];exact hq));exact hn (w s (by rw[List.take_of_length_le (by omega)];exact hs) q hq)),trivial⟩,trivial⟩
  have ae:=AY Z;refine .inr ?_
  obtain⟨s2,x,P⟩:∃s,T[m']? =some (Ad s)/\ts[m']? =some s:=by
   obtain⟨s,hs⟩:=AL (l:=ts) (i:=m') (by omega);exact⟨s,by rw[hT,List.getElem?_map,hs];rfl,hs⟩
  refine .inr ?_;obtain⟨J2,M⟩:=xJ fun vs v k=>∃(t:Nat) (p:Int),vs=[.one (.Ak 1 0 0),.one (.bool false),.one (.int .i64 m),.one (.int .i64 p)]/\v=[.var 0 [.sl (.sl AA) T,.sl AA A]]/\(AQ p t/\t<=s2.length)/\(∀q∈s2.take t,CG q)/\k=s2.length-t
  refine⟨[],[1,2,4,5],[1],J2,⟨s2.length-0,by rw[M];exact⟨0,0,rfl,rfl,⟨An 0,by omega⟩,by simp,rfl⟩⟩,?_⟩;intro vs v aT r;rw[M] at r;obtain⟨t,p,rfl,rfl,⟨hp,aP⟩,d,aN⟩:=r;conv=>cbv
  have ep:=hp.eq;obtain⟨R,z⟩:=AL (l:=T) (i:=m') (by omega);refine⟨R,fun _=>⟨by omega,by rw[show (m).toNat=m' by omega];exact z⟩,?_⟩;try conv=>cbv
  have a6:R=Ad s2:=Option.some.inj (z.symm.trans x);have aQ:R.length=s2.length:=by rw[a6,List.length_map]
  rintro aX ⟨aC,f47⟩;conv=>cbv
  intro aj a1;conv=>cbv
  cases aj <;> conv=>cbv
  ·have af:=AW a1;intro aW aG;conv=>cbv
   refine AH ?_;refine⟨ts.length-(m'+1),?_,?_⟩
   ·omega
   rw[K];exact⟨m'+1,_,rfl,rfl,⟨⟨by omega⟩,by omega⟩,eV w P (by rw[show t=s2.length by omega,List.take_length] at d;exact d),rfl⟩
  have af:=AY a1;refine .inr ?_;obtain⟨u,B⟩:=AL (l:=T) (i:=m') (by omega);refine⟨u,fun _=>⟨by omega,by rw[show (m).toNat=m' by omega];exact B⟩,?_⟩;try conv=>cbv
  have S:u=Ad s2:=Option.some.inj (B.symm.trans x);have ax:u.length=s2.length:=by rw[S,List.length_map]
  obtain⟨b,D⟩:=AL (l:=u) (i:=t) (by omega);refine⟨b,fun _=>⟨by omega,by rw[show (p).toNat=t by omega];exact D⟩,?_⟩;try conv=>cbv
  obtain⟨q3,a8,O,_⟩:=Ha S D;have g:Ay q3 b.1.1 b.1.2 b.2.1 b.2.2:=a8;intro ak H;have aD:=H.eq;have f62:=H.le;conv=>cbv
  have au:ak=((List.length b.1.2:Nat):Int):=H.eq;intro al a2;conv=>cbv
  cases al <;> conv=>cbv
  ·have ag:=Bh a2;intro an I;have aE:=I.eq;have f68:=I.le;conv=>cbv
   have av:an=((List.length b.2.2:Nat):Int):=I.eq;intro ao a5;conv=>cbv
   cases ao <;> conv=>cbv
   ·have ah:=Bh a5;intro aY aH;conv=>cbv
    refine AH ?_;refine⟨s2.length-(t+1),?_,?_⟩
    ·omega
    rw[M];exact⟨t+1,_,rfl,rfl,⟨⟨by omega⟩,by omega⟩,Vl d O ((HH g).2 ⟨by omega,by omega⟩),rfl⟩
   have ah:=Bi a5;exact AD ⟨⟨rfl,congrArg _ (hc.2 (.inr ⟨s2,List.mem_of_getElem? P,q3,List.mem_of_getElem? O,fun h=>by have:=(HH g).1 h;omega⟩)),trivial⟩,trivial⟩
  have ag:=Bi a2;exact AD ⟨⟨rfl,congrArg _ (hc.2 (.inr ⟨s2,List.mem_of_getElem? P,q3,List.mem_of_getElem? O,fun h=>by have:=(HH g).1 h;omega⟩)),trivial⟩,trivial⟩
 have aa:=AY W;refine .inr ?_;obtain⟨a,n⟩:=AL (l:=A) (i:=k') (by omega);refine⟨a,fun _=>⟨by omega,by rw[show (j).toNat=k' by omega];exact n⟩,?_⟩;try conv=>cbv
 obtain⟨q1,a7,N,_⟩:=Ha hA n;have f:Ay q1 a.1.1 a.1.2 a.2.1 a.2.2:=a7;intro n21 F;have az:=F.eq;have f21:=F.le;conv=>cbv
 have aq:n21=((List.length a.1.2:Nat):Int):=F.eq;intro n22 X;conv=>cbv
 cases n22 <;> conv=>cbv
 ·have ab:=Bh X;obtain⟨Q,y⟩:=AL (l:=A) (i:=k') (by omega);refine⟨Q,fun _=>⟨by omega,by rw[show (j).toNat=k' by omega];exact y⟩,?_⟩;try conv=>cbv
  have U:=Option.some.inj (y.symm.trans n);have aw:List.length Q.2.2=List.length a.2.2:=by rw[U]
  intro n31 G;have aA:=G.eq;have f31:=G.le;conv=>cbv
  have ar:n31=((List.length Q.2.2:Nat):Int):=G.eq;intro n32 Y;conv=>cbv
  cases n32 <;> conv=>cbv
  ·have ad:=Bh Y;intro aV aF;conv=>cbv
   refine AH ?_;refine⟨xs.length-(k'+1),?_,?_⟩
   ·omega
   rw[J];exact⟨k'+1,_,rfl,rfl,⟨⟨by omega⟩,by omega⟩,Vl hinv N ((HH f).2 ⟨by omega,by omega⟩),rfl⟩
  have ad:=Bi Y;exact AD ⟨⟨rfl,congrArg _ (hc.2 (.inl ⟨q1,List.mem_of_getElem? N,fun h=>by have:=(HH f).1 h;omega⟩)),trivial⟩,trivial⟩
 have ab:=Bi X;exact AD ⟨⟨rfl,congrArg _ (hc.2 (.inl ⟨q1,List.mem_of_getElem? N,fun h=>by have:=(HH f).1 h;omega⟩)),trivial⟩,trivial⟩
theorem W9 (hT:T=ts.map Ad) (hA:A=Ad xs) (h1:∀q∈xs,CG q) (h2:∀s∈ts,∀q∈s,CG q):CF 32 [.agg (Ab T A)] (.one (.bool true)):=by
 have aO:A.length=xs.length:=by rw[hA,List.length_map]
 have aP:T.length=ts.length:=by rw[hT,List.length_map]
 refine AJ Tryz.func32 fun E hE=>?_
 conv=>cbv
 refine .inr ?_;obtain⟨J0,J⟩:=xJ fun vs u k=>∃(k':Nat) (j:Int),vs=[.one (.Ak 1 0 0),.one (.bool false),.one (.int .i64 j)]/\u=[.var 0 [.sl (.sl AA) T,.sl AA A]]/\(AQ j k'/\k'<=xs.length)/\k=xs.length-k'
 refine⟨[],[1,2,3],[1],J0,⟨xs.length-0,by rw[J];exact⟨0,0,rfl,rfl,⟨An 0,by omega⟩,rfl⟩⟩,?_⟩;intro vs u aX r;rw[J] at r;obtain⟨k',j,rfl,rfl,⟨r,aQ⟩,aR⟩:=r;conv=>cbv
 have ej:=r.eq;rintro n9 ⟨e9,f9⟩;conv=>cbv
 intro al S;conv=>cbv
 cases al <;> conv=>cbv
 ·have ae:=AW S;refine .inr ?_;obtain⟨J1,K⟩:=xJ fun vs u k=>∃(m':Nat) (m:Int),vs=[.one (.Ak 1 0 0),.one (.bool false),.one (.int .i64 m)]/\u=[.var 0 [.sl (.sl AA) T,.sl AA A]]/\(AQ m m'/\m'<=ts.length)/\k=ts.length-m'
  refine⟨[],[1,2,4],[1],J1,⟨ts.length-0,by rw[K];exact⟨0,0,rfl,rfl,⟨An 0,by omega⟩,rfl⟩⟩,?_⟩;intro vs u aY r;rw[K] at r;obtain⟨m',m,rfl,rfl,⟨hm,aU⟩,aS⟩:=r;conv=>cbv
  have em:=hm.eq;rintro n36 ⟨aH,f36⟩;conv=>cbv
  intro n37 X;conv=>cbv
  cases n37 <;> conv=>cbv
  ·have ah:=AW X;exact AD ⟨t2,trivial⟩
  have ah:=AY X;refine .inr ?_
  obtain⟨s2,w,ad⟩:∃s,T[m']? =some (Ad s)/\ts[m']? =some s:=by
   obtain⟨s,hs⟩:=AL (l:=ts) (i:=m') (by omega);exact⟨s,by rw[hT,List.getElem?_map,hs];rfl,hs⟩
  refine .inr ?_;obtain⟨J2,M⟩:=xJ fun vs u k=>∃(h:Nat) (p:Int),vs=[.one (.Ak 1 0 0),.one (.bool false),.one (.int .i64 m),.one (.int .i64 p)]/\u=[.var 0 [.sl (.sl AA) T,.sl AA A]]/\(AQ p h/\h<=s2.length)/\k=s2.length-h
  refine⟨[],[1,2,4,5],[1],J2,⟨s2.length-0,by rw[M];exact⟨0,0,rfl,rfl,⟨An 0,by omega⟩,rfl⟩⟩,?_⟩;intro vs u aZ r;rw[M] at r;obtain⟨h,p,rfl,rfl,⟨hp,aV⟩,aT⟩:=r;conv=>cbv
  have ep:=hp.eq;obtain⟨O,y⟩:=AL (l:=T) (i:=m') (by omega);refine⟨O,fun _=>⟨by omega,by rw[show (m).toNat=m' by omega];exact y⟩,?_⟩;try conv=>cbv
  have a6:O=Ad s2:=Option.some.inj (y.symm.trans w);have aW:O.length=s2.length:=by rw[a6,List.length_map]
  rintro b1 ⟨aI,f46⟩;conv=>cbv
  intro an Y;conv=>cbv
  cases an <;> conv=>cbv
  ·have ai:=AW Y;intro n39 aM;conv=>cbv
   refine AH ?_;refine⟨ts.length-(m'+1),?_,?_⟩
   ·omega
   rw[K];exact⟨m'+1,_,rfl,rfl,⟨⟨by omega⟩,by omega⟩,rfl⟩
  have ai:=AY Y;refine .inr ?_;obtain⟨n,f⟩:=AL (l:=T) (i:=m') (by omega);refine⟨n,fun _=>⟨by omega,by rw[show (m).toNat=m' by omega];exact f⟩,?_⟩;try conv=>cbv
  have D:n=Ad s2:=Option.some.inj (f.symm.trans w);have aD:n.length=s2.length:=by rw[D,List.length_map]
  obtain⟨b,g⟩:=AL (l:=n) (i:=h) (by omega);refine⟨b,fun _=>⟨by omega,by rw[show (p).toNat=h by omega];exact g⟩,?_⟩;try conv=>cbv
  obtain⟨q3,ab,a8,_⟩:=Ha D g;have a5:Ay q3 b.1.1 b.1.2 b.2.1 b.2.2:=ab;have aC:=(HH a5).1 (h2 s2 (List.mem_of_getElem? ad) q3 (List.mem_of_getElem? a8));intro ao H;have aJ:=H.eq;have f60:=H.le;conv=>cbv
  have ax:ao=((List.length b.1.2:Nat):Int):=H.eq;intro aq Z;conv=>cbv
  cases aq <;> conv=>cbv
  ·have aj:=Bh Z;obtain⟨P,z⟩:=AL (l:=T) (i:=m') (by omega);refine⟨P,fun _=>⟨by omega,by rw[show (m).toNat=m' by omega];exact z⟩,?_⟩;try conv=>cbv
   have v:=Option.some.inj (z.symm.trans f);have aE:P.length=s2.length:=by rw[v,D,List.length_map]
   obtain⟨t,B⟩:=AL (l:=P) (i:=h) (by omega);refine⟨t,fun _=>⟨by omega,by rw[show (p).toNat=h by omega];exact B⟩,?_⟩;try conv=>cbv
   have R:=Option.some.inj ((show n[h]? =some t by rw[<-v];exact B).symm.trans g);have aA:List.length t.2.2=List.length b.2.2:=by rw[R]
   intro ar I;have aK:=I.eq;have f73:=I.le;conv=>cbv
   have ay:ar=((List.length t.2.2:Nat):Int):=I.eq;intro au a1;conv=>cbv
   cases au <;> conv=>cbv
   ·have ak:=Bh a1;intro b2 aN;conv=>cbv
    refine AH ?_;refine⟨s2.length-(h+1),?_,?_⟩
    ·omega
    rw[M];exact⟨h+1,_,rfl,rfl,⟨⟨by omega⟩,by omega⟩,rfl⟩
   have ak:=Bi a1
   exfalso;omega
  have aj:=Bi Z
  exfalso;omega
 have ae:=AY S;refine .inr ?_;obtain⟨a,d⟩:=AL (l:=A) (i:=k') (by omega);refine⟨a,fun _=>⟨by omega,by rw[show (j).toNat=k' by omega];exact d⟩,?_⟩;try conv=>cbv
 obtain⟨q1,aa,a7,_⟩:=Ha hA d;have a2:Ay q1 a.1.1 a.1.2 a.2.1 a.2.2:=aa;have aB:=(HH a2).1 (h1 q1 (List.mem_of_getElem? a7));intro n20 F;have aF:=F.eq;have f20:=F.le;conv=>cbv
 have av:n20=((List.length a.1.2:Nat):Int):=F.eq;intro n21 U;conv=>cbv
 cases n21 <;> conv=>cbv
 ·have af:=Bh U;obtain⟨N,x⟩:=AL (l:=A) (i:=k') (by omega);refine⟨N,fun _=>⟨by omega,by rw[show (j).toNat=k' by omega];exact x⟩,?_⟩;try conv=>cbv
  have Q:=Option.some.inj (x.symm.trans d);have az:List.length N.2.2=List.length a.2.2:=by rw[Q]
  intro n30 G;have aG:=G.eq;have f30:=G.le;conv=>cbv
  have aw:n30=((List.length N.2.2:Nat):Int):=G.eq;intro n31 W;conv=>cbv
  cases n31 <;> conv=>cbv
  ·have ag:=Bh W;intro b0 aL;conv=>cbv
   refine AH ?_;refine⟨xs.length-(k'+1),?_,?_⟩
   ·omega
   rw[J];exact⟨k'+1,_,rfl,rfl,⟨⟨by omega⟩,by omega⟩,rfl⟩
  have ag:=Bi W
  exfalso;omega
 have af:=Bi U
 exfalso;omega
theorem P9 (t:L=ns.map nm) (x:∀n∈ns,(∀q∈co n.1 n.2,CG q)/\∀s∈n.1,∀q∈s,CG q):CF 22 [.one (.sl Ap L)] (.one (.bool true)):=by
 have B:L.length=ns.length:=by rw[t,List.length_map]
 refine AJ Tryz.func22 fun E z=>?_
 conv=>cbv
 refine .inr ?_;obtain⟨v,b⟩:=xJ fun vs w k=>∃(k':Nat) (j:Int),vs=[.one (.sl Ap L),.one (.int .i64 j)]/\(AQ j k'/\k'<=L.length)/\k=L.length-k'
 refine⟨[],[0,3],[],v,⟨L.length-0,by rw[b];exact⟨0,0,rfl,⟨An 0,by omega⟩,rfl⟩⟩,?_⟩;intro vs w I f;rw[b] at f;obtain⟨k',j,rfl,⟨f,D⟩,F⟩:=f;conv=>cbv
 have M:=f.eq;rintro O ⟨K,f6⟩;conv=>cbv
 intro J r;conv=>cbv
 cases J <;> conv=>cbv
 ·have H:=AW r;exact AD ⟨t2,trivial⟩
 have H:=AY r;refine .inr ?_;obtain⟨p,a⟩:=AL (l:=L) (i:=k') (by omega);refine⟨p,fun _=>⟨by omega,by rw[show (j).toNat=k' by omega];exact a⟩,?_⟩;try conv=>cbv
 obtain⟨u,y,h,m,g⟩:=GU t a;have d:=x _ (List.mem_of_getElem? g);refine AB z (W9 (ts:=u.reverse) (xs:=co u y) h m d.1 (fun s G=>d.2 s (List.mem_reverse.1 G))) ?_;conv=>cbv
 refine Ai ?_;conv=>cbv
 intro P N;conv=>cbv
 refine AH ?_;refine⟨L.length-(k'+1),?_,?_⟩
 ·omega
 rw[b];exact⟨k'+1,_,rfl,⟨⟨by omega⟩,by omega⟩,rfl⟩
theorem W0 {i:Int} {n:Nu} (z:L=ns.map nm) (j:ns≠[]) (I:AQ i i') (J:n=Bw ns i') (H:T=tw n.1) (G:A=em n.1 n.2):CF 158 [.one (.sl Ap L),.one (.int .i64 i)] (.agg (Ab T A)):=by
 have F:=I.eq;have h:L.length=ns.length:=by rw[z,List.length_map]
 have B:0<ns.length:=List.length_pos_iff.2 j;refine AJ Tryz.func158 fun E N=>?_
 conv=>cbv
 rintro O ⟨M,f6⟩;conv=>cbv
 intro K x;conv=>cbv
 cases K <;> conv=>cbv
 ·have D:=Ac x;intro t b;conv=>cbv
  cases t <;> conv=>cbv
  ·have d:=AW b;rintro n16 ⟨f,f16⟩;conv=>cbv
   intro n17 g;conv=>cbv
   refine AG ?_;have w:n17=((i'%L.length:Nat):Int):=by rw[g,F,f];exact (Int.natCast_emod _ _).symm
   obtain⟨v,a⟩:=AL (l:=L) (i:=(i'%L.length)) (by exact Nat.mod_lt _ (by omega));refine⟨v,fun _=>⟨by omega,by rw[show (n17).toNat=(i'%L.length) by omega];exact a⟩,?_⟩;try conv=>cbv
   obtain⟨u,y,p,r,m⟩:=GU z a;have en:n=(u,y):=by rw[J];unfold Bw;rw[<-h,List.getD_eq_getElem?_getD,m];rfl
   exact AD ⟨⟨rfl,congrArg _ (by rw[H,en];exact p.symm),congrArg _ (by rw[G,en];exact r.symm),trivial⟩,trivial⟩
  have d:=AY b;exact absurd d (by omega)
 have D:=Ae x;exact absurd D (by omega)
theorem ar {i:Nat} (b:∀m,o[m]? =(ts[m]?).map fun s=>Ad (if i<m/\m<k then BH i 0 s else s)) (a:ts[k]? =some s) (d:i<k) {w:LR} (hw:w=Ad (BH i 0 s)):
  ∀m,(o.set k w)[m]? =(ts[m]?).map fun s=>Ad (if i<m/\m<k+1 then BH i 0 s else s):=by
 intro m
 by_cases e:k=m
 ·subst e;have f:=GS a
  have g:k<o.length:=by
   have:=b k;rw[a] at this;exact GS this
  rw[List.getElem?_set_self g,a,Option.map_some,if_pos ⟨d,by omega⟩,hw]
 rw[List.getElem?_set_ne e,b m];have:(i<m/\m<k+1)↔(i<m/\m<k):=by omega
 simp only[this]
theorem aq {i:Nat} (d:i<ts.length) (b:∀m,o[m]? =(ts[m]?).map fun s=>Ad (if i<m/\m<ts.length then BH i 0 s else s)):o.take i++o.drop (i+1)=(ts.take i++(ts.drop (i+1)).map (BH i 0)).map Ad:=by
 have e:o=(ts.take (i+1)++(ts.drop (i+1)).map (BH i 0)).map Ad:=by
  apply List.ext_getElem?;intro m;rw[b m,List.getElem?_map,List.getElem?_append,List.length_take,Nat.min_eq_left (by omega)]
  by_cases hm:m<i+1
  ·rw[if_pos hm,List.getElem?_take,if_pos hm];cases ts[m]? with
   | none=>rfl
   | some s=>simp only[Option.map_some];rw[if_neg (by omega)]
  rw[if_neg hm,List.getElem?_map,List.getElem?_drop,show i+1+(m-(i+1))=m by omega]
  by_cases a:m<ts.length
  ·rw[List.getElem?_eq_getElem a];simp only[Option.map_some];rw[if_pos ⟨by omega,a⟩]
  rw[List.getElem?_eq_none (by omega)];rfl
 have hlen:(ts.take (i+1)).length=i+1:=by rw[List.length_take];omega
 rw[e,List.map_append,List.map_append,List.take_append_of_le_length (by rw[List.length_map,hlen];omega),List.drop_left' (by rw[List.length_map,hlen]),<-List.map_take,List.take_take,Nat.min_eq_left (by omega)]
theorem Qq {i:Nat} {f:List Rat->Bool} (a:ts[k]? =some s) (b:i<k):((ts.drop (i+1)).take (k+1-(i+1))).any f=(((ts.drop (i+1)).take (k-(i+1))).any f||f s):=by
 rw[show k+1-(i+1)=k-(i+1)+1 by omega,CE (l:=ts.drop (i+1)) (i:=k-(i+1)) (x:=s) (by rw[List.getElem?_drop,show i+1+(k-(i+1))=k by omega];exact a)];simp
theorem QK {u U:List (List Rat)} {x:Re} (h:AS u) (hx:In u x) (hl:u.length<=8) (hw:Fi u.length (u.reverse,co u x)=(U.reverse,co U x)) (hT:T=tw u) (hA:A=em u x) (aP:T2=tw U) (hC:C=em U x):CF 25 [.agg (Ab T A)] (.agg (Ab T2 C)):=by
 have bD:T.length=u.length:=by rw[hT,BN]
 refine AJ Tryz.func25 fun E hE=>?_
 conv=>cbv
 refine⟨[],fun _=>⟨rfl,by decide,rfl,trivial⟩,.inl ?_⟩;try conv=>cbv
 refine .inl ⟨T,fun _=>⟨rfl,by (first | rfl | omega),rfl,by show (0+T.length)*24<=140737488355328;(try simp only[List.length_take,List.length_drop]);omega⟩,?_⟩;intro (af:List (el (.sl AA))) b4 R;have M:af=([]:List (el (.sl AA)))++(T:List (el (.sl AA))):=R.1;have aw:b4=List.length (α:=(el (.sl AA))) af:=R.2;conv=>cbv
 refine g2 rfl ?_;intro n17 aJ;have bq:=aJ.eq;conv=>cbv
 have aU:List.length af=List.length T:=by rw[M];rfl
 intro n18 bu;conv=>cbv
 refine AH ?_;refine .inr ?_
 obtain⟨J0,Y⟩:∃J:List AV->List AK->Nat->Prop,J=fun vs g k=>∃(w:List (List Rat)) (O:List LR) (B:LR) (n j:Nat) (i:Int),vs=[.one (.Ak 2 0 0),.one (.Ak 3 0 0),.one (.int .i64 i)]/\g=[.var 0 [.nil,.nil],.var 0 [.AN (.sl AA) 8 0 0 n,.sl AA B],.arr 0 (.sl AA) O]/\
  (AQ (i+1) j/\n=O.length/\O=tw w/\B=em w x)/\(AS w/\In w x/\j<=w.length/\w.length<=8)/\Fi j (w.reverse,co w x)=(U.reverse,co U x)/\k=j:=⟨_,rfl⟩
 refine⟨[],[2,3,4],[2,3,8],J0,⟨u.length,by rw[Y];exact⟨u,_,_,_,u.length,n18,rfl,rfl,⟨⟨by omega⟩,aw,by rw[M,hT];rfl,hA⟩,⟨h,hx,Nat.le_refl _,hl⟩,hw,rfl⟩⟩,?_⟩;intro vs g bL a;rw[Y] at a;obtain⟨w,O,B,n,j,i,rfl,rfl,⟨hi,hn,hO,hB⟩,⟨ad,ae,bG,D⟩,d,bH⟩:=a;conv=>cbv
 have ei:=hi.eq;obtain⟨i',bE⟩:=xN (j-1);intro n20 aj;conv=>cbv
 cases n20 <;> conv=>cbv
 ·have b1:=Dm aj;exact AD ⟨⟨rfl,.inl ⟨_,rfl,by omega,congrArg _ (by rw[aP,hn,List.drop_zero,List.take_length,hO];have:=d;rw[show j=0 by omega,Fi] at this;rw[tw,tw,(Prod.mk.inj this).1])⟩,congrArg _ (by rw[hC,hB];have:=d;rw[show j=0 by omega,Fi] at this;rw[em,em,(Prod.mk.inj this).2]),trivial⟩,trivial⟩
 have b1:=Dn aj
 obtain⟨K1,a1⟩:∃J:List AV->List AK->Prop,J=fun vs g=>∃(r:List (List Rat)) (O2:List LR) (B2:LR) (n2:Nat),vs=[.one (.Ak 2 0 0),.one (.Ak 3 0 0),.one (.int .i64 i)]/\g=[.var 0 [.nil,.nil],.var 0 [.AN (.sl AA) 8 0 0 n2,.sl AA B2],.arr 0 (.sl AA) O2]/\
  (n2=O2.length/\O2=tw r/\B2=em r x)/\(AS r/\In r x/\i'<=r.length/\r.length<=8)/\Fi i' (r.reverse,co r x)=(U.reverse,co U x):=⟨_,rfl⟩
 refine .inl ⟨[2,3,4],[2,3,8],K1,?_,?_⟩
 ·intro vs g a;rw[a1] at a;obtain⟨r,O2,B2,n2,rfl,rfl,⟨aV,aO,aN⟩,⟨aB,aC,au,aA⟩,az⟩:=a;conv=>cbv
  intro n22 bw;conv=>cbv
  refine AH ?_;refine⟨i',?_,?_⟩
  ·omega
  rw[Y];exact⟨r,O2,B2,n2,i',n22,rfl,rfl,⟨⟨by omega⟩,aV,aO,aN⟩,⟨aB,aC,au,aA⟩,az,rfl⟩
 try conv=>cbv
 have aS:j=i'+1:=by omega
 subst aS;have y:AQ i i':=⟨by omega⟩;obtain⟨ts,f⟩:∃z:List (List Rat),z=w.reverse:=⟨_,rfl⟩
 have a2:O=ts.map Ad:=by rw[hO,f];rfl
 have bK:ts.length=w.length:=by rw[f,List.length_reverse]
 have bC:O.length=ts.length:=by rw[a2,List.length_map]
 have aQ:(co w x).length<=1000000:=by rw[B6 ae];exact Nat.le_trans (CA D) (by decide)
 obtain⟨aG,I⟩:=xB (Bz i' 0 (co w x));refine AB hE (QU (xs:=co w x) hB y (by omega) I) ?_;conv=>cbv
 intro n28 bx;conv=>cbv
 refine AH ?_;refine .inr ?_
 obtain⟨J1,v⟩:∃J:List AV->List AK->Nat->Prop,J=fun vs g k=>∃(b:Bool) (k':Nat) (j:Int),vs=[.one (.Ak 2 0 0),.one (.Ak 3 0 0),.one (.int .i64 i),.one (.bool b),.one (.int .i64 j)]/\g=[.var 0 [.nil,.nil],.var 0 [.AN (.sl AA) 8 0 0 n,.sl AA B],.arr 0 (.sl AA) O]/\
  (AQ j k'/\i'<k'/\k'<=ts.length)/\b=(Bz i' 0 (co w x)||((ts.drop (i'+1)).take (k'-(i'+1))).any (Bz i' 0))/\k=ts.length-k':=⟨_,rfl⟩
 refine⟨[],[2,3,4,5,6],[2,3,8],J1,⟨ts.length-(i'+1),by rw[v];exact⟨aG,i'+1,n28,rfl,rfl,⟨⟨by omega⟩,by omega,by omega⟩,by rw[I,Nat.sub_self,List.take_zero];simp,rfl⟩⟩,?_⟩;intro vs g bM a;rw[v] at a;obtain⟨b,k',j,rfl,rfl,⟨a,an,bF⟩,hb,bI⟩:=a;conv=>cbv
 have ej:=a.eq;intro n32 aK;have br:=aK.eq;conv=>cbv
 intro n33 ak;conv=>cbv
 cases n33 <;> conv=>cbv
 ·have b2:=AW ak;cases b <;> conv=>cbv
  ·obtain⟨ai,H⟩:=xR (Ad (BH i' 0 (co w x)));refine AB hE (Qb (xs:=co w x) hB y (by omega) aQ H) ?_;conv=>cbv
   intro CW bz;conv=>cbv
   refine AH ?_;refine .inr ?_
   obtain⟨J2,Z⟩:∃J:List AV->List AK->Nat->Prop,J=fun vs g k=>∃(o:List LR) (k2:Nat) (j2:Int),vs=[.one (.Ak 2 0 0),.one (.Ak 3 0 0),.one (.int .i64 i),.one (.int .i64 j2)]/\g=[.var 0 [.nil,.nil],.var 0 [.AN (.sl AA) 8 0 0 n,.sl AA ai],.arr 0 (.sl AA) o]/\
    (AQ j2 k2/\i'<k2/\k2<=ts.length/\o.length=ts.length)/\(∀m,o[m]? =(ts[m]?).map fun s=>Ad (if i'<m/\m<k2 then BH i' 0 s else s))/\k=ts.length-k2:=⟨_,rfl⟩
   refine⟨[],[2,3,4,7],[2,3,8],J2,⟨ts.length-(i'+1),by rw[Z];exact⟨O,i'+1,CW,rfl,rfl,⟨⟨by omega⟩,by omega,by omega,by omega⟩,fun m=>by
    have aW:¬(i'<m/\m<i'+1):=by omega
    simp only[aW,if_false];rw[a2,List.getElem?_map],rfl⟩⟩,?_⟩
   intro vs g bN a;rw[Z] at a;obtain⟨o,k2,j2,rfl,rfl,⟨aR,ao,bj,aX⟩,hq,bJ⟩:=a;conv=>cbv
   have bt:=aR.eq;intro bO aM;have bs:=aM.eq;conv=>cbv
   intro b5 al;conv=>cbv
   cases b5 <;> conv=>cbv
   ·have b3:=AW al;refine⟨fun _=>⟨by omega,by omega,by omega⟩,?_⟩;intro bn ba;conv=>cbv
    rintro bQ W ⟨bk,bc⟩;conv=>cbv
    intro bP bB;conv=>cbv
    refine AH ?_;refine AG ?_;rintro bm bo ⟨b9,bb⟩;conv=>cbv
    rintro G X ⟨bl,bd⟩;conv=>cbv
    refine .inl ⟨((o).drop G).take X,fun _=>⟨by omega,by omega,⟨_,rfl,by omega,rfl⟩,by show (W+(((o).drop G).take X).length)*24<=140737488355328;(try simp only[List.length_take,List.length_drop]);omega⟩,?_⟩;intro (F:List (el (.sl AA))) aE S;have av:F=(List.take W o:List (el (.sl AA)))++(((o).drop G).take X:List (el (.sl AA))):=S.1;have ax:aE=List.length (α:=(el (.sl AA))) F:=S.2;conv=>cbv
    refine g2 rfl ?_;rw[a1];have a6:k'=ts.length:=by omega
    have a5:¬(Bz i' 0 (co w x)||(ts.drop (i'+1)).any (Bz i' 0))=true:=by
     have t:=hb;rw[a6,List.take_of_length_le (by rw[List.length_drop];omega)] at t;rw[<-t];exact Bool.false_ne_true
    obtain⟨w1,e1,ab,aT⟩:=Vq ad ae (by omega:i'<w.length);have e2:=e1;unfold I2 at e2;rw[<-f,if_neg a5] at e2;have e3:=Prod.mk.inj e2
    have a7:F=o.take i'++o.drop (i'+1):=by
     rw[av,show W=i' by omega,show G=i'+1 by omega,List.take_of_length_le (l:=o.drop (i'+1)) (by rw[List.length_drop];omega)]
    rw[show k2=ts.length by omega] at hq;refine⟨w1,F,ai,aE,rfl,rfl,⟨ax,?_,?_⟩,⟨ab.red,ab.mem,aT,Nat.le_trans ab.len D⟩,by rw[Fi,e1] at d;exact d⟩
    ·rw[a7,aq (by omega) hq,tw,<-f] at*;rw[e3.1]
    rw[H,em,<-e3.2]
   have b3:=AY al;refine .inr ?_;refine AG ?_;intro b0 bg;conv=>cbv
   obtain⟨ah,Q⟩:=AL (l:=o) (i:=b0) (by omega);refine⟨ah,fun _=>Q,?_⟩;try conv=>cbv
   obtain⟨s7,aa⟩:=AL (l:=ts) (i:=k2) (by omega);have aY:o[k2]? =some ah:=by rw[<-Q];congr 1;omega
   have aI:ah=Ad s7:=by have t:=hq k2;rw[aa,aY,Option.map_some,if_neg (by omega)] at t;exact Option.some.inj t
   have ay:s7.length<=1000000:=by have t:=Oh ad (List.mem_reverse.1 (f ▸ List.mem_of_getElem? aa));have h2:2^w.length<=2^8:=CA D;omega
   obtain⟨aF,N⟩:=xR (Ad (BH i' 0 s7));refine AB hE (Qb aI y (by omega) ay N) ?_;conv=>cbv
   refine AG ?_;intro aD bh;conv=>cbv
   refine⟨aF,fun _=>⟨by show _<List.length (α:=(el (.sl AA))) o;(first | omega | (simp;omega)),by first | exact t1 | exact t2 | exact t4 | simp[Aj,Ar,cells]⟩,?_⟩;intro (ag:List (el (.sl AA))) (p:ag=List.set (α:=(el (.sl AA))) o aD aF);have b8:ag.length=o.length:=by rw[p,List.length_set]
   conv=>cbv
   refine g2 rfl ?_;intro b6 bA;conv=>cbv
   refine AH ?_;refine⟨ts.length-(k2+1),?_,?_⟩
   ·omega
   rw[Z];exact⟨ag,k2+1,b6,rfl,rfl,⟨⟨by omega⟩,by omega,by omega,by rw[p,List.length_set];exact aX⟩,by rw[p,show aD=k2 by omega];exact ar hq aa ao N,rfl⟩
  rw[a1];have a6:k'=ts.length:=by omega
  have a5:(Bz i' 0 (co w x)||(ts.drop (i'+1)).any (Bz i' 0))=true:=by
   have t:=hb;rw[a6,List.take_of_length_le (by rw[List.length_drop];omega)] at t;exact t.symm
  have e1:I2 i' (w.reverse,co w x)=(w.reverse,co w x):=by
   unfold I2;rw[<-f,if_pos a5]
  exact⟨w,O,B,n,rfl,rfl,⟨hn,hO,hB⟩,⟨ad,ae,by omega,D⟩,by rw[Fi,e1] at d;exact d⟩
 have b2:=AY ak;refine .inr ?_;cases b <;> conv=>cbv
 ·refine AG ?_;intro aZ bf;conv=>cbv
  obtain⟨b7,P⟩:=AL (l:=O) (i:=aZ) (by omega);refine⟨b7,fun _=>P,?_⟩;try conv=>cbv
  obtain⟨s4,aH,a8⟩:=HZ (i:=k') a2 (by rw[<-P];congr 1;omega);obtain⟨bp,K⟩:=xB (Bz i' 0 s4);refine AB hE (QU aH y (by omega) K) ?_;conv=>cbv
  intro n35 aL;conv=>cbv
  refine AH ?_;refine⟨ts.length-(k'+1),?_,?_⟩
  ·omega
  rw[v];exact⟨_,k'+1,n35,rfl,rfl,⟨⟨by omega⟩,by omega,by omega⟩,by rw[Qq a8 an,<-Bool.or_assoc,<-hb,K];simp,rfl⟩
 intro n35 aL;conv=>cbv
 refine AH ?_;refine⟨ts.length-(k'+1),?_,?_⟩
 ·omega
 rw[v];obtain⟨s4,a8⟩:=AL (l:=ts) (i:=k') (by omega);exact⟨_,k'+1,n35,rfl,rfl,⟨⟨by omega⟩,by omega,by omega⟩,by rw[Qq a8 an,<-Bool.or_assoc,<-hb];simp,rfl⟩
end Go.Abs
namespace Go.Abs
open Go.RowKit
theorem US {o:el Bo} {n d:Int} (a:n=Hs o.2.2.2.1) (b:d=((o.2.2.2.2.toNat%8+1:Nat):Int)):FC o=Rat.divInt n d:=by subst a b;rfl
theorem J8 {st:List Nu×Nat} {o:el Bo} (h:st.1=[]\/o.1.toNat%6=0):CY st o=(([],Re.ofRat (FC o)),st.2):=by unfold CY;rw[if_pos h]
theorem HC {st:List Nu×Nat} {o:el Bo} (a:st.1≠[]) (b:o.1.toNat%6≠0):CY st o=DI (o.1.toNat%6) (Bw st.1 o.2.1.toNat) (Bw st.1 o.2.2.1.toNat) st.2:=by
 unfold CY;rw[if_neg (fun h=>h.elim a b)]
theorem bm (a b:Nu) (r:Nat):DI 1 a b r=((As a.1 b.1,a.2+b.2),r):=by unfold DI;rw[if_pos rfl]
theorem bx (a b:Nu) (r:Nat):DI 2 a b r=((As a.1 b.1,a.2-b.2),r):=by unfold DI;rw[if_neg (by decide),if_pos rfl]
theorem bw (a b:Nu) (r:Nat):DI 3 a b r=((As a.1 b.1,a.2*b.2),r):=by unfold DI;rw[if_neg (by decide),if_neg (by decide),if_pos rfl]
theorem bu {a b:Nu} (r:Nat) (h:b.2=0):DI 4 a b r=(a,r):=by unfold DI;rw[if_neg (by decide),if_neg (by decide),if_neg (by decide),if_pos rfl,if_pos h]
theorem bn {a b:Nu} (r:Nat) (h:b.2≠0):DI 4 a b r=((As a.1 b.1,a.2*FU b.2),r):=by unfold DI;rw[if_neg (by decide),if_neg (by decide),if_neg (by decide),if_pos rfl,if_neg h]
theorem Tv (a b:Nu) {r:Nat} (h:r<3):DI 5 a b r=((Ax a.1 (Co a.2),Re.sqrt (Co a.2)),r+1):=by unfold DI;rw[if_neg (by decide),if_neg (by decide),if_neg (by decide),if_neg (by decide),if_pos h]
theorem Tu (a b:Nu) {r:Nat} (h:¬r<3):DI 5 a b r=(a,r):=by unfold DI;rw[if_neg (by decide),if_neg (by decide),if_neg (by decide),if_neg (by decide),if_neg h]
theorem get_eq {ns:List Nu} {i j:Nat} {n:Nu} (h:ns[j]? =some n) (a:j=i%ns.length):Bw ns i=n:=by
 unfold Bw;rw[List.getD_eq_getElem?_getD,<-a,h];rfl
theorem Z5:∀h,h<=3->II h Rm Rm<=60000000000000
 |0,_|1,_|2,_|3,_=>by decide +kernel
 | _+4,h=>absurd h (by omega)
theorem Z6:∀h,h<=3->II h 256 512<=Rm
 |0,_|1,_|2,_|3,_=>by decide +kernel
 | _+4,h=>absurd h (by omega)
section
variable {V:List Re} {ns:List Nu}
theorem BU.tb {n:Nu} (h:BU V n) (hV:V.length<=3):TB 256 n.1:=(PN.Gw (ns:=[n]) hV (fun m hm=>by rw[List.mem_singleton.1 hm];exact h)).tb (PN.self (List.mem_singleton.2 rfl))
theorem BU.inv {n:Nu} (h:BU V n) (hV:V.length<=3) (a:n.2≠0):El n.1 Rm (FU n.2):=by
 have b:=Nat.le_trans h.len hV;have ht:Aa 256 n.1:=⟨h.red,h.tb hV,by decide,by omega⟩;exact ((h.el hV).inv ht (Nr h.red h.mem a) (Nw a)).mono (Z6 _ b)
theorem BU.abs {n:Nu} (h:BU V n):BU V (n.1,Co n.2):=by
 refine⟨h.red,Se h.mem,h.Aq,h.F6,fun q a=>?_⟩;have a:q∈co n.1 (Co n.2):=a;unfold Co at a
 split at a
 ·rw[Jb h.red h.mem] at a;obtain⟨p,b,rfl⟩:=List.mem_map.1 a;have:=h.cos p b;exact⟨by show (-p.num).natAbs<_;rw[Int.natAbs_neg];exact this.1,this.2⟩
 exact h.cos q a
theorem Uk {n:Nu} (h:BU V n) (hV:V.length<=2) (g:0<=n.2) {S:Nat} (i:Rm<=S) (j:S<=Sm:=by first|omega|decide):Cg (Tf fun u=>u<:+Ax n.1 n.2) Rm Cm S/\Tf (fun u=>u<:+Ax n.1 n.2) n.1/\Tf (fun u=>u<:+Ax n.1 n.2) (Ax n.1 n.2):=by
 have l:=UU h.red h.mem g;have m:=h.len
 have b:TB 256 (Ax n.1 n.2):=by
  by_cases f:Sq n.1 n.2
  ·rw[Ec f];exact h.tb (by omega)
  rw[Ed f];intro r a;rcases List.mem_cons.1 a with rfl | a
  ·refine (Kw h.cos).mono ?_;rw[B6 h.mem];have:2^n.1.length<=2^2:=CA;omega
  exact h.tb (by omega) r a
 have I:DO (fun u=>u<:+Ax n.1 n.2) 256:=⟨fun {u} hu=>UZ hu l,fun {u} hu=>fun r a=>b r (hu.subset a),fun {r u} hu=>(List.suffix_cons r u).trans hu⟩;refine⟨SN I (fun {u} hu=>?_) i j,Tf.of I (Kr _ _),Tf.of I (List.suffix_refl _)⟩
 have:=hu.len I (V:=n.2::V) (fun {u} hu v d=>by
  rcases V4 h.mem v (V5 hu v d) with rfl | d
  ·exact List.mem_cons_self
  exact List.mem_cons_of_mem _ (h.Aq v d))
 rw[List.length_cons] at this;omega
theorem ZU (hV:V.length<=3) (d:∀n∈ns,BU V n) {a b:Nu} (ha:a∈ns) (hb:b∈ns) {r:Nat}:∃(T A i h:_) (e:Int),CF 103 [.agg [.sl (.sl AA) (tw a.1),.sl AA (em a.1 a.2)],.agg [.sl (.sl AA) (tw b.1),.sl AA (em b.1 b.2)]] (.AI [(true,(Ab T A)),(false,[.int .i64 e])])/\
  CF 100 [.agg [.sl (.sl AA) T,.sl AA A],.one (.int .i64 e),.agg [.sl (.sl AA) (tw a.1),.sl AA (em a.1 a.2)]] (.agg [.sl (.sl AA) i,.sl AA h])/\i=tw (DI 4 a b r).1.1/\h=em (DI 4 a b r).1.1 (DI 4 a b r).1.2/\(DI 4 a b r).2=r:=by
 have G:=HY hV d (Nat.le_refl Rm);have j:=((d a ha).el hV).mono (by decide:512<=Rm);have l:=((d b hb).el hV).mono (by decide:512<=Rm)
 by_cases f:b.2=0
 ·rw[bu r f];exact⟨_,_,_,_,_,XD G (EU hV d ha) (EU hV d hb) rfl rfl rfl rfl j l f,Xk,rfl,rfl,rfl⟩
 rw[bn r f];have g:=Nat.le_trans (d b hb).len hV;exact⟨_,_,_,_,_,XC G (EU hV d ha) (EU hV d hb) rfl rfl rfl rfl j l (Nr (d b hb).red (d b hb).mem f) (Nw f) ((d b hb).inv hV f) (Z5 _ g) rfl rfl,H0,rfl,rfl,rfl⟩
end
theorem aT (x:Nu):Ej [] x=x:=by unfold Ej;rw[if_neg (fun h=>h.1 rfl)]
theorem aS {l:List Nu} {x:Nu} (h:l≠[]) (a:Gl x):Ej l x=l.getLastD GB:=by unfold Ej;rw[if_pos ⟨h,a⟩]
theorem aU {l:List Nu} {x:Nu} (a:¬Gl x):Ej l x=x:=by unfold Ej;rw[if_neg (fun h=>a h.2)]
theorem TC {n:Nu}:KU n.1.reverse (co n.1 n.2)↔Gl n:=by
 unfold KU Gl;simp only[List.mem_reverse]
theorem aV {l:List Nu} {j:Nat} {n:Nu} (h:l[j]? =some n) (a:j+1=l.length):l.getLastD GB=n:=by
 rw[List.getLastD_eq_getLast?,List.getLast?_eq_getElem?,show l.length-1=j by omega,h];rfl
theorem Ux:∀(xs:List (el Bo)) (st:List Nu×Nat),(xs.foldl Gi st).1.length=st.1.length+xs.length
 | [],_=>rfl
 | o::xs,st=>by
  rw[List.foldl_cons,Ux xs (Gi st o),List.length_cons];unfold Gi;rw[List.length_append,List.length_singleton];omega
theorem dO {x:Re} (h:AZ x<0):x<0:=by rcases Cv x with⟨a,b⟩ |⟨a,b⟩ |⟨a,b⟩ <;> first | exact a | (exfalso;omega)
theorem dN {x:Re} (h:¬AZ x<0):¬x<0:=by rcases Cv x with⟨a,b⟩ |⟨a,b⟩ |⟨a,b⟩ <;> first | (exfalso;omega) | (rw[a];exact fun h=>by grind) | (intro h;grind)
theorem QA {X:List (el Bo)} {L:List (el Ap)} (hL:L=(runN (X.take 24)).1.map nm):CF 20 [.one (.sl Bo X)] (.one (.sl Ap L)):=by
 refine AJ Tryz.func20 fun E M=>?_
 conv=>cbv
 refine .inr ?_;obtain⟨J0,aG⟩:=xJ fun vs bl k=>(vs=[.one (.sl Bo X),.one .nil,.one (.int .i64 0),.one (.int .i64 0)]/\bl=[.dead 0]/\k=24)\/(∃(o:List (el Ap)) (n k':Nat) (rr j:Int),vs=[.one (.sl Bo X),.one (.AN Ap 157 0 0 n),.one (.int .i64 rr),.one (.int .i64 j)]/\bl=[.arr 0 Ap o]/\(AQ j k'/\k'<=X.length/\k'<=24/\0<k'/\n=o.length)/\(o=(runN (X.take k')).1.map nm/\AQ rr (runN (X.take k')).2)/\k=24-k')
 refine⟨[],[0,3,4,5],[157],J0,⟨24,by rw[aG];exact .inl ⟨rfl,rfl,rfl⟩⟩,?_⟩;intro vs bl dp hj;rw[aG] at hj;rcases hj with⟨rfl,rfl,aI⟩ |⟨o,n,k',rr,j,rfl,rfl,⟨hj,dm,cT,bQ,hn⟩,⟨ho,g⟩,aI⟩
 ·conv=>cbv
  obtain⟨k',aI⟩:=xN 0;obtain⟨Y,V,hV,f⟩:=Oy (X.take k');obtain⟨st,F⟩:∃s,s=runN (X.take k'):=⟨_,rfl⟩
  rw[<-F] at Y hV f;have ad:st.1=[]:=by rw[F,aI];rfl
  have bU:st.2=0:=by rw[F,aI];rfl
  rintro n22 ⟨ca,f22⟩;conv=>cbv
  intro n23 ah;conv=>cbv
  cases n23 <;> conv=>cbv
  ·have bj:=AW ah;exact AD ⟨⟨rfl,.inr (.inl ⟨_,congrArg _ (by rw[hL,show X.take 24=[] by rw[List.take_eq_nil_iff];right;exact List.eq_nil_of_length_eq_zero (by omega)];rfl)⟩),trivial⟩,trivial⟩
  have bj:=AY ah;refine Bu ?_;conv=>cbv
  refine .inr ?_;obtain⟨a,I⟩:=AL (l:=X) (i:=0) (by omega);refine⟨a,fun _=>⟨by omega,I⟩,?_⟩;try conv=>cbv
  intro n33 ai;have b6:=ai.eq;have f33:=ai.lt;conv=>cbv
  intro aA S;have ag:=S.eq;have bz:=S.lt;conv=>cbv
  intro ab D;have a5:=D.eq;have b7:=D.lt;conv=>cbv
  intro R v;have K:=v.eq;have aE:=v.lt;conv=>cbv
  have cw:n33=((a.1.toNat:Nat):Int):=b6;have cx:aA=((a.2.1.toNat:Nat):Int):=ag;have cy:ab=((a.2.2.1.toNat:Nat):Int):=a5;have cz:R=((a.2.2.2.2.toNat:Nat):Int):=K;intro n36 a6;conv=>cbv
  have a6:=wrap_i64 a6;have aj:n36=Hs a.2.2.2.1:=a6;intro n39 cc;conv=>cbv
  refine AG ?_;intro cF ak;conv=>cbv
  have ak:=wrap_i64 ak;intro bn cd;conv=>cbv
  refine AH ?_;obtain⟨aJ,a1⟩:=CB (em [] (Re.ofRat (FC a)));have cA:=PS a.2.2.2.1;refine AB (r:= .agg [.sl (.sl AA) (([]:List LR)),.sl AA aJ]) M (Mm (q:=FC a) (by omega) (by omega) (by omega) (US aj (by show bn=((a.2.2.2.2.toNat%8+1:Nat):Int);omega)) a1) ?_;try conv=>cbv
  refine Ai ?_;conv=>cbv
  refine .inr ?_;refine Ai ?_;conv=>cbv
  refine .inr ?_;obtain⟨_,b5,cp,aR,bh⟩:=J7 (st:=st) ⟨Y,V,hV,f⟩ a;have cq:b5.length<=8:=by have:=(J7 (st:=st) ⟨Y,V,hV,f⟩ a).1;omega
  have w:=N0 (l:=[]) (x:=(CY st a).1) (fun n hn=>by simp at hn) bh (fun he=>by rw[J8 (.inl ad)];exact Ok a);obtain⟨kk,aa⟩:∃z:Nu,z=Ej [] (CY st a).1:=⟨_,rfl⟩
  rw[<-aa] at w;have u:=PI w.red w.mem;have bR:kk=([],Re.ofRat (FC a)):=by rw[aa,aT,J8 (.inl ad)]
  have cn:(([]:List LR):List LR)=tw kk.1:=by rw[bR];rfl
  have cm:aJ=em kk.1 kk.2:=by rw[bR];exact a1
  obtain⟨B,H⟩:=En (tw (Es kk).1);obtain⟨y,G⟩:=CB (em (Es kk).1 (Es kk).2);refine AB (r:= .agg [.sl (.sl AA) B,.sl AA y]) M (QK w.red w.mem (by have:=w.len;omega) (by rw[u.1,u.2.2]) cn cm H (by rw[G,u.2.2])) ?_;try conv=>cbv
  refine⟨[(B,y)],fun _=>⟨rfl,by decide,rfl,⟨rfl,by first | exact t1 | exact t2 | exact t4 | simp[Aj,Ar,cells],trivial⟩⟩,.inr ?_⟩;try conv=>cbv
  refine .inl ⟨[(B,y)],fun _=>⟨rfl,by show (1)*48<=140737488355328;(try simp only[List.length_take,List.length_drop]);omega⟩,?_⟩;intro b2 bC;conv=>cbv
  intro n29 cb;conv=>cbv
  refine AH ?_;refine⟨24-(k'+1),?_,?_⟩
  ·omega
  rw[aG];have J:X[k']? =some a:=by (first | exact I | (rw[<-I];congr 1 <;> omega))
  refine .inr ⟨_,_,k'+1,0,n29,rfl,rfl,⟨⟨by omega⟩,by have:=GS J;omega,by omega,by omega,bC⟩,?_,rfl⟩;rw[CE (x:=a) J,Us,<-F];refine⟨by rw[Gi,ad,List.nil_append,<-aa,H,G];rfl,?_⟩
  show AQ 0 (CY st a).2
  rw[J8 (.inl ad),bU];exact An 0
 conv=>cbv
 have ej:=hj.eq;have aD:=g.eq;obtain⟨Y,V,hV,f⟩:=Oy (X.take k');obtain⟨st,F⟩:∃s,s=runN (X.take k'):=⟨_,rfl⟩
 rw[<-F] at Y hV f;rw[<-F] at ho g aD;have hlen:st.1.length=k':=by rw[F,runN,Ux,List.length_nil,List.length_take];omega
 have dn:o.length=k':=by rw[ho,List.length_map,hlen]
 have Q:st.1≠[]:=fun e=>by rw[e] at hlen;simp at hlen;omega
 have h:=Nat.le_trans hV Y;rintro n22 ⟨ca,f22⟩;conv=>cbv
 intro n23 ah;conv=>cbv
 cases n23 <;> conv=>cbv
 ·have bj:=AW ah;exact AD ⟨⟨rfl,.inl ⟨_,rfl,by omega,congrArg _ (by have e:X.take 24=X.take k':=(by first | rw[show k'=24 by omega] | rw[List.take_of_length_le (by omega),List.take_of_length_le (by omega)]);rw[hL,hn,List.drop_zero,List.take_length,ho,F,e])⟩,trivial⟩,trivial⟩
 have bj:=AY ah;intro n26 bD;conv=>cbv
 cases n26 <;> conv=>cbv
 ·have cB:=AW bD;exact AD ⟨⟨rfl,.inl ⟨_,rfl,by omega,congrArg _ (by have e:X.take 24=X.take k':=(by first | rw[show k'=24 by omega] | rw[List.take_of_length_le (by omega),List.take_of_length_le (by omega)]);rw[hL,hn,List.drop_zero,List.take_length,ho,F,e])⟩,trivial⟩,trivial⟩
 have cB:=AY bD;refine .inr ?_;obtain⟨a,I⟩:=AL (l:=X) (i:=k') (by omega);refine⟨a,fun _=>⟨by omega,by rw[show (j).toNat=k' by omega];exact I⟩,?_⟩;try conv=>cbv
 intro n33 ai;have b6:=ai.eq;have f33:=ai.lt;conv=>cbv
 intro aA S;have ag:=S.eq;have bz:=S.lt;conv=>cbv
 intro ab D;have a5:=D.eq;have b7:=D.lt;conv=>cbv
 intro R v;have K:=v.eq;have aE:=v.lt;conv=>cbv
 have cw:n33=((a.1.toNat:Nat):Int):=b6;have cx:aA=((a.2.1.toNat:Nat):Int):=ag;have cy:ab=((a.2.2.1.toNat:Nat):Int):=a5;have cz:R=((a.2.2.2.2.toNat:Nat):Int):=K;intro n36 a6;conv=>cbv
 have a6:=wrap_i64 a6;have aj:n36=Hs a.2.2.2.1:=a6;intro n39 cc;conv=>cbv
 refine AG ?_;intro cF ak;conv=>cbv
 have ak:=wrap_i64 ak;intro bn cd;conv=>cbv
 refine AH ?_;obtain⟨aJ,a1⟩:=CB (em [] (Re.ofRat (FC a)));have cA:=PS a.2.2.2.1;refine AB (r:= .agg [.sl (.sl AA) (([]:List LR)),.sl AA aJ]) M (Mm (q:=FC a) (by omega) (by omega) (by omega) (US aj (by show bn=((a.2.2.2.2.toNat%8+1:Nat):Int);omega)) a1) ?_;try conv=>cbv
 intro dq cf;have dd:=cf.eq;conv=>cbv
 intro cG bE;conv=>cbv
 cases cG <;> conv=>cbv
 ·have c3:=Bh bE;exact absurd c3 (by omega)
 have c3:=Bi bE;intro dr dj;conv=>cbv
 refine AG ?_;intro cH bF;conv=>cbv
 obtain⟨c9,p⟩:=xK fun vs bl=>∃(T7:List LR) (A7:LR) (r7:Int),vs=[.one (.sl Bo X),.one (.AN Ap 157 0 0 n),.one (.int .i64 r7),.one (.int .i64 j),.one (.Ak 7 0 0)]/\bl=[.var 0 [.sl (.sl AA) T7,.sl AA A7],.arr 0 Ap o]/\(T7=tw (CY st a).1.1/\A7=em (CY st a).1.1 (CY st a).1.2)/\AQ r7 (CY st a).2
 refine .inl ⟨[0,3,4,5,7],[7,157],c9,?_,?_⟩
 ·intro vs bl hj;rw[p] at hj;obtain⟨T7,A7,r7,rfl,rfl,⟨bM,bK⟩,bS⟩:=hj;conv=>cbv
  have di:=bS.eq;intro cW bA;have cQ:=bA.eq;conv=>cbv
  intro c7 aQ;conv=>cbv
  cases c7 <;> conv=>cbv
  ·have b1:=Bh aQ;exact absurd b1 (by omega)
  have b1:=Bi aQ;obtain⟨bu,a8⟩:=D4 (KU (CY st a).1.1.reverse (co (CY st a).1.1 (CY st a).1.2));refine AB M (Xj bM bK a8) ?_;conv=>cbv
  obtain⟨bt,a7⟩:=xK fun vs bl=>∃(T8:List LR) (A8:LR),vs=[.one (.sl Bo X),.one (.AN Ap 157 0 0 n),.one (.int .i64 r7),.one (.int .i64 j),.one (.Ak 7 0 0)]/\bl=[.var 0 [.sl (.sl AA) T8,.sl AA A8],.arr 0 Ap o]/\(T8=tw (Ej st.1 (CY st a).1).1/\A8=em (Ej st.1 (CY st a).1).1 (Ej st.1 (CY st a).1).2)
  refine .inl ⟨[0,3,4,5,7],[7,157],bt,?_,?_⟩
  ·intro vs bl hj;rw[a7] at hj;obtain⟨T8,A8,rfl,rfl,bN,bL⟩:=hj;conv=>cbv
   obtain⟨_,b5,cp,aR,bh⟩:=J7 (st:=st) ⟨Y,V,hV,f⟩ a;have cq:b5.length<=8:=by have:=(J7 (st:=st) ⟨Y,V,hV,f⟩ a).1;omega
   have w:=N0 (l:=st.1) (x:=(CY st a).1) aR bh (fun he=>by rw[J8 (.inl he)];exact Ok a);obtain⟨kk,aa⟩:∃z:Nu,z=Ej st.1 (CY st a).1:=⟨_,rfl⟩
   rw[<-aa] at w;have u:=PI w.red w.mem;rw[<-aa] at bN bL;obtain⟨B,H⟩:=En (tw (Es kk).1);obtain⟨y,G⟩:=CB (em (Es kk).1 (Es kk).2);refine AB (r:= .agg [.sl (.sl AA) B,.sl AA y]) M (QK w.red w.mem (by have:=w.len;omega) (by rw[u.1,u.2.2]) bN bL H (by rw[G,u.2.2])) ?_;try conv=>cbv
   refine⟨[(B,y)],fun _=>⟨rfl,by decide,rfl,⟨rfl,by first | exact t1 | exact t2 | exact t4 | simp[Aj,Ar,cells],trivial⟩⟩,.inr ?_⟩;try conv=>cbv
   refine .inl ⟨[(B,y)],fun _=>⟨rfl,by (first | rfl | omega),rfl,by show (o.length+1)*48<=140737488355328;(try simp only[List.length_take,List.length_drop]);omega⟩,?_⟩;intro (az:List (el Ap)) b2 aB;have bc:az=(o:List (el Ap))++([(B,y)]:List (el Ap)):=aB.1;have bf:b2=List.length (α:=(el Ap)) az:=aB.2;conv=>cbv
   intro n29 cb;conv=>cbv
   refine AH ?_;refine⟨24-(k'+1),?_,?_⟩
   ·omega
   rw[aG];have J:X[k']? =some a:=by (first | exact I | (rw[<-I];congr 1 <;> omega))
   refine .inr ⟨az,_,k'+1,r7,n29,rfl,rfl,⟨⟨by omega⟩,by have:=GS J;omega,by omega,by omega,bf⟩,?_,rfl⟩;rw[CE (x:=a) J,Us,<-F];exact⟨by rw[bc,ho,Gi,List.map_append,<-aa,H,G];rfl,bS⟩
  cases bu <;> conv=>cbv
  ·rw[a7];refine⟨_,_,rfl,rfl,?_⟩ <;> rw[aU (fun hl=>Bool.false_ne_true (a8.2 (TC.2 hl)))]
   exact⟨bM,bK⟩
  intro cX bB;have cR:=bB.eq;conv=>cbv
  intro cY cS;conv=>cbv
  refine AH ?_;refine AG ?_;intro bX cr;conv=>cbv
  obtain⟨c8,ay⟩:=AL (l:=o) (i:=bX) (by omega);refine⟨c8,fun _=>ay,?_⟩;try conv=>cbv
  rw[a7];obtain⟨u3,y3,bV,bW,cv⟩:=GU ho ay;refine⟨_,_,rfl,rfl,?_⟩ <;> rw[aS Q (TC.1 (a8.1 rfl)),aV cv (by omega)]
  exact⟨bV,bW⟩
 cases cH <;> conv=>cbv
 ·have cC:=Cr bF;rw[p];refine⟨_,_,_,rfl,rfl,?_,?_⟩ <;> rw[J8 (.inr (by omega))]
  ·exact⟨rfl,a1⟩
  exact g
 have cC:=Cs bF;intro cI bG;conv=>cbv
 have bG:=wrap_i64 bG;intro cJ cg;have de:=cg.eq;conv=>cbv
 intro cK ch;conv=>cbv
 refine AG ?_;obtain⟨d58,bO,df,ct⟩:∃d:Nat,d=a.2.1.toNat%k'/\cK=d/\d<k':=⟨_,rfl,by rw[ch,show cI=((a.2.1.toNat:Nat):Int) by omega,show cJ=(k':Int) by omega];exact (Int.natCast_emod _ _).symm,Nat.mod_lt _ bQ⟩
 refine AG ?_;intro bY cU;conv=>cbv
 obtain⟨aC,aZ⟩:=AL (l:=o) (i:=bY) (by omega);refine⟨aC,fun _=>aZ,?_⟩;try conv=>cbv
 intro cL bH;conv=>cbv
 have bH:=wrap_i64 bH;intro cM cj;have dg:=cj.eq;conv=>cbv
 intro cN ck;conv=>cbv
 refine AG ?_;obtain⟨d67,bP,dh,cu⟩:∃d:Nat,d=a.2.2.1.toNat%k'/\cN=d/\d<k':=⟨_,rfl,by rw[ck,show cL=((a.2.2.1.toNat:Nat):Int) by omega,show cM=(k':Int) by omega];exact (Int.natCast_emod _ _).symm,Nat.mod_lt _ bQ⟩
 refine AG ?_;intro bZ cV;conv=>cbv
 obtain⟨bs,b0⟩:=AL (l:=o) (i:=bZ) (by omega);refine⟨bs,fun _=>b0,?_⟩;try conv=>cbv
 refine g2 rfl ?_;obtain⟨u1,y1,m,t,O⟩:=GU ho aZ;obtain⟨u2,y2,ae,af,P⟩:=GU ho b0;have N:=List.mem_of_getElem? O;have ar:=List.mem_of_getElem? P;have U:bY=a.2.1.toNat%st.1.length:=by rw[hlen,<-bO];omega
 have W:bZ=a.2.2.1.toNat%st.1.length:=by rw[hlen,<-bP];omega
 have aq:=((f _ N).el h).mono (by decide:512<=Rm);have b9:=((f _ ar).el h).mono (by decide:512<=Rm);intro ds dk;conv=>cbv
 refine AG ?_;refine .inr ?_;intro cP bJ;conv=>cbv
 refine .inr ?_;cases cP <;> conv=>cbv
 ·have cE:=Ac bJ;intro c4 aN;conv=>cbv
  refine .inr ?_;cases c4 <;> conv=>cbv
  ·have c0:=Ac aN;intro c5 aO;conv=>cbv
   refine .inr ?_;cases c5 <;> conv=>cbv
   ·have c1:=Ac aO;intro c6 aP;conv=>cbv
    refine .inr ?_;cases c6 <;> conv=>cbv
    ·have c2:=Ac aP;obtain⟨dt,bT⟩:=xI (AZ y1);refine AB M (Mp (HY h f (Nat.le_refl Rm)) (EU h f N) m t aq bT) ?_;conv=>cbv
     intro cO bI;conv=>cbv
     refine .inr ?_;cases cO <;> conv=>cbv
     ·have cD:=AW bI;intro bo al;conv=>cbv
      refine .inr ?_;cases bo <;> conv=>cbv
      ·have bk:=AW al;rw[p];have b:=HC (o:=a) Q (by omega:a.1.toNat%6≠0);rw[get_eq O U,get_eq P W] at b;rw[show a.1.toNat%6=5 by omega,Tu _ _ (by omega)] at b;refine⟨_,_,_,rfl,rfl,?_,?_⟩ <;> rw[b]
       ·exact⟨m,t⟩
       exact g
      have bk:=AY al;intro bp cl;conv=>cbv
      refine AH ?_;have an:=(f _ N).abs;have ao:Co y1=y1:=by unfold Co;rw[if_neg (dN (by omega))]
      obtain⟨hG,ba,bb⟩:=Uk an (by omega) (H4 _) (Nat.le_refl Rm);obtain⟨br,a2⟩:=En (tw (Ax u1 (Co y1)));obtain⟨bq,Z⟩:=CB (em (Ax u1 (Co y1)) (Re.sqrt (Co y1)));refine AB (r:= .AI [(true,[.sl (.sl AA) br,.sl AA bq]),(false,[.int .i64 0])]) M (QE hG ba m (by show _=em u1 (Co y1);rw[ao];exact t) ((an.el h).mono (by decide)) bb (H4 _) a2 Z) ?_;try conv=>cbv
      refine AB M H0 ?_;conv=>cbv
      rw[p];have b:=HC (o:=a) Q (by omega:a.1.toNat%6≠0);rw[get_eq O U,get_eq P W] at b;rw[show a.1.toNat%6=5 by omega,Tv _ _ (by omega)] at b;refine⟨_,_,_,rfl,rfl,?_,?_⟩ <;> rw[b]
      ·exact⟨a2,Z⟩
      exact⟨by show bp=((st.2+1:Nat):Int);omega⟩
     have cD:=AY bI;obtain⟨du,aW⟩:=CB (em u1 (-y1));refine AB M (Mo (HY h f (Nat.le_refl Rm)) (EU h f N) m t aq aW) ?_;conv=>cbv
     intro bo al;conv=>cbv
     refine .inr ?_;cases bo <;> conv=>cbv
     ·have bk:=AW al;rw[p];have b:=HC (o:=a) Q (by omega:a.1.toNat%6≠0);rw[get_eq O U,get_eq P W] at b;rw[show a.1.toNat%6=5 by omega,Tu _ _ (by omega)] at b;refine⟨_,_,_,rfl,rfl,?_,?_⟩ <;> rw[b]
      ·exact⟨m,t⟩
      exact g
     have bk:=AY al;intro bp cl;conv=>cbv
     refine AH ?_;have an:=(f _ N).abs;have ao:Co y1= -y1:=by unfold Co;rw[if_pos (dO (by omega))]
     obtain⟨hG,ba,bb⟩:=Uk an (by omega) (H4 _) (Nat.le_refl Rm);obtain⟨br,a2⟩:=En (tw (Ax u1 (Co y1)));obtain⟨bq,Z⟩:=CB (em (Ax u1 (Co y1)) (Re.sqrt (Co y1)));refine AB (r:= .AI [(true,[.sl (.sl AA) br,.sl AA bq]),(false,[.int .i64 0])]) M (QE hG ba m (by show _=em u1 (Co y1);rw[ao];exact aW) ((an.el h).mono (by decide)) bb (H4 _) a2 Z) ?_;try conv=>cbv
     refine AB M H0 ?_;conv=>cbv
     rw[p];have b:=HC (o:=a) Q (by omega:a.1.toNat%6≠0);rw[get_eq O U,get_eq P W] at b;rw[show a.1.toNat%6=5 by omega,Tv _ _ (by omega)] at b;refine⟨_,_,_,rfl,rfl,?_,?_⟩ <;> rw[b]
     ·exact⟨a2,Z⟩
     exact⟨by show bp=((st.2+1:Nat):Int);omega⟩
    have c2:=Ae aP;obtain⟨aL,aK,b4,b3,aM,b8,bd,aH,aF,bg⟩:=ZU h f N ar (r:=st.2);refine .inl ⟨[.agg [.sl (.sl AA) aC.1,.sl AA aC.2],.agg [.sl (.sl AA) bs.1,.sl AA bs.2]],.AI [(true,[.sl (.sl AA) aL,.sl AA aK]),(false,[.int .i64 aM])],fun _=>⟨t2,t2,trivial⟩,fun _=>Et M (by rw[m,t,ae,af];exact b8),?_⟩;try conv=>cbv
    refine .inl ⟨[.agg [.sl (.sl AA) aL,.sl AA aK],.one (.int .i64 aM),.agg [.sl (.sl AA) aC.1,.sl AA aC.2]],.agg [.sl (.sl AA) b4,.sl AA b3],fun _=>⟨t2,rfl,t2,trivial⟩,fun _=>Et M (by rw[m,t];exact bd),?_⟩;try conv=>cbv
    rw[p];have b:=HC (o:=a) Q (by omega:a.1.toNat%6≠0);rw[get_eq O U,get_eq P W] at b;rw[show a.1.toNat%6=4 by omega] at b;refine⟨_,_,_,rfl,rfl,?_,?_⟩ <;> rw[b]
    ·exact⟨aH,aF⟩
    rw[bg];exact g
   have c1:=Ae aO;obtain⟨dc,ax⟩:=En (tw (As u1 u2));obtain⟨da,av⟩:=CB (em (As u1 u2) (y1*y2));refine AB M (Mn (HY h f (Nat.le_refl Rm)) (EU h f N) (EU h f ar) m ae t af aq b9 ax av) ?_;conv=>cbv
   refine AB M H0 ?_;conv=>cbv
   rw[p];have b:=HC (o:=a) Q (by omega:a.1.toNat%6≠0);rw[get_eq O U,get_eq P W] at b;rw[show a.1.toNat%6=3 by omega,bw] at b;refine⟨_,_,_,rfl,rfl,?_,?_⟩ <;> rw[b]
   ·exact⟨ax,av⟩
   exact g
  have c0:=Ae aN;obtain⟨db,aw⟩:=En (tw (As u1 u2));obtain⟨cZ,au⟩:=CB (em (As u1 u2) (y1-y2));refine AB M (Mq (HY h f (Nat.le_refl Rm)) (EU h f N) (EU h f ar) m ae t af aq b9 aw au) ?_;conv=>cbv
  refine AB M H0 ?_;conv=>cbv
  rw[p];have b:=HC (o:=a) Q (by omega:a.1.toNat%6≠0);rw[get_eq O U,get_eq P W] at b;rw[show a.1.toNat%6=2 by omega,bx] at b;refine⟨_,_,_,rfl,rfl,?_,?_⟩ <;> rw[b]
  ·exact⟨aw,au⟩
  exact g
 have cE:=Ae bJ;obtain⟨dw,aY⟩:=En (tw (As u1 u2));obtain⟨dv,aX⟩:=CB (em (As u1 u2) (y1+y2));refine AB M (Mk (HY h f (Nat.le_refl Rm)) (EU h f N) (EU h f ar) m ae t af aq b9 aY aX) ?_;conv=>cbv
 refine AB M H0 ?_;conv=>cbv
 rw[p];have b:=HC (o:=a) Q (by omega:a.1.toNat%6≠0);rw[get_eq O U,get_eq P W] at b;rw[show a.1.toNat%6=1 by omega,bm] at b;refine⟨_,_,_,rfl,rfl,?_,?_⟩ <;> rw[b]
 ·exact⟨aY,aX⟩
 exact g
end Go.Abs
namespace Go.Abs
def qn (k:Nat):Re:=Re.ofRat ((k:Nat):Rat)
noncomputable def rtN (k:Nat):Nu:=(Ax [] (qn k),Re.sqrt (qn k))
noncomputable def fv (k:Nat):Nu:=([],qn k)
theorem aQ (u:List (List Rat)):DS [] u=u:=by
 unfold DS
 split
 ·rename_i h;exact (List.suffix_nil.1 h).symm
 rw[if_pos (List.nil_suffix)]
theorem aO (u v:List (List Rat)):As u v=DS u v:=by
 show DS (DS [] u) v=_
 rw[aQ]
noncomputable def Zi:Re:=qn 5+qn 2*Re.sqrt (qn 6)
def PA (u:List (List Rat)):Prop:=u<:+Ax [[6]] Zi\/u<:+Ax [] (qn 2)\/u<:+Ax [] (qn 3)
end Go.Abs
namespace Go.Abs
open Go.RowKit
theorem gE (X:List (el Bo)):∃V:List Re,V.length<=3/\∀n∈(runN X).1,BU V n:=by
 obtain⟨h3,V,hV,a⟩:=Oy X;exact⟨V,Nat.le_trans hV h3,a⟩
instance (q:Rat):Decidable (CG q):=inferInstanceAs (Decidable (_/\_))
theorem VH {q:Rat} (h:CG q):BX q:=⟨by have:=Lf.2 h.1;omega,by have:=Lf.2 h.2;omega⟩
end Go.Abs
