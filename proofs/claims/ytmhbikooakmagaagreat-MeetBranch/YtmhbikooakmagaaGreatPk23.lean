/- Part 24 of a proof. Conditions: each theorem's own. -/
import Derived.Test.YtmhbikooakmagaaGreatPk22
set_option linter.all false
set_option maxHeartbeats 8000000
set_option maxRecDepth 20000
open Go.Proofs
namespace Go.Abs
open Go.RowKit
variable {A A1 A2 C:LR} {L:List (el Bc)} {T T1 T2 o:List LR} {c:Bool} {i' k:Nat} {ns:List Nu} {q:Rat} {s xs:List Rat} {ts:List (List Rat)}
theorem R5 {i:Nat} (h:xs[k]? =some q):Cy i k (xs.drop k)=((GN k i&&q !=0)||Cy i (k+1) (xs.drop (k+1))):=by
 have a:=Il h;rw[List.drop_eq_getElem_cons a,Cy];rw[List.getElem?_eq_getElem a] at h;rw[Option.some.inj h]
theorem ke {i:Nat} (h:k<xs.length) (hb:GN k i=false):Cy i k (xs.drop k)=Cy i (k+1) (xs.drop (k+1)):=by
 obtain⟨q,a⟩:=AP h;rw[R5 a,hb];rfl
theorem ax {i:Nat} (h:xs[k]? =some q):Bx i 0 (xs.take (k+1))=Bx i 0 (xs.take k)++(if GN k i=true then [] else [q]):=by
 have a:=Il h;rw[C4 h,PZ,Nat.zero_add,List.length_take,Nat.min_eq_left (by omega),Bx,Bx]
theorem ar (i:Nat):∀(k:Nat) (l:List Rat),(Bx i k l).length<=l.length
 | _,[]=>Nat.le_refl _
 | k,x::l=>by
  rw[Bx];have:=ar i (k+1) l
  split
  ·rw[List.length_cons];omega
  rw[List.length_cons,List.length_cons];omega
theorem Vj {i:Nat} {b a:Int} (d:b=((k/2^i:Nat):Int)) (f:a=b%2):(GN k i=true↔a=1)/\(GN k i=false↔a=0):=by
 unfold GN
 constructor
 ·rw[beq_iff_eq];omega
 rw[beq_eq_false_iff_ne];omega
theorem Oe {n:Nat}:(AQ n).length<=2↔n<18446744073709551616:=by
 constructor
 ·intro h;have a:=Cu (AQ n);rw[BS] at a;exact Nat.lt_of_lt_of_le a (Nat.pow_le_pow_right (by decide) (by omega:32*(AQ n).length<=64))
 intro h;exact Gx (k:=2) h
theorem Jj {b1 b2:Bool} {l1 l2:List UInt32} (h:Bn q b1 l1 b2 l2):C5 q↔l1.length<=2/\l2.length<=2:=by
 have a:=h.num.Bh;have b:=h.den.Bh;rw[a,b,Oe,Oe];unfold C5;rw[Int.natAbs_natCast]
theorem my (h:Ez q=0):q=0:=by
 unfold Ez CZ at h
 split at h
 ·omega
 split at h
 ·exact Rat.num_eq_zero.1 (by assumption)
 omega
theorem aO {p:Rat->Prop} (h:∀x∈xs.take k,p x) (d:xs[k]? =some q) (b:p q):∀x∈xs.take (k+1),p x:=by
 intro x a;rw[C4 d] at a;rcases List.mem_append.1 a with a | a
 ·exact h x a
 rw[List.mem_singleton.1 a];exact b
theorem Ux {i:Int} (N:A=BD xs) (S:AW i i') (h6:i'<=60) (hc:c=Cy i' 0 xs):CF 128 [.one (.sl AA A),.one (.int .i64 i)] (.one (.bool c)):=by
 have ei:=S.eq;have Q:A.length=xs.length:=by rw[N,List.length_map]
 refine AJ Tryz.func128 fun E R=>?_
 conv=>cbv
 refine .inr ?_;obtain⟨O,a⟩:=xJ fun vs P k=>∃(k':Nat) (j:Int),vs=[.one (.sl AA A),.one (.int .i64 i),.one (.int .i64 j)]/\(AW j k'/\k'<=xs.length)/\Cy i' 0 xs=Cy i' k' (xs.drop k')/\k=xs.length-k'
 refine⟨[],[0,1,5],[],O,⟨xs.length-0,by rw[a];exact⟨0,0,rfl,⟨Bb 0,by omega⟩,by rw[List.drop_zero],rfl⟩⟩,?_⟩;intro vs P Y y;rw[a] at y;obtain⟨k',j,rfl,⟨y,U⟩,hinv,W⟩:=y;conv=>cbv
 have ej:=y.eq;rintro n8 ⟨e8,f8⟩;conv=>cbv
 intro n9 M;conv=>cbv
 cases n9 <;> conv=>cbv
 ·have X:=BB M;exact AD ⟨⟨rfl,congrArg _ (by rw[hc,hinv,show k'=xs.length by omega,List.drop_length];rfl),trivial⟩,trivial⟩
 have X:=BC M;refine .inr ?_;intro H D;conv=>cbv
 refine AI ?_;obtain⟨d14,t,z⟩:∃d:Nat,d=k'/2^i'/\H=d:=⟨_,rfl,shr_var (p:=k') (e:=i') D (by omega) (by omega) (by show i'<=64;omega)⟩
 intro Z F;conv=>cbv
 refine AI ?_;have b:=Vj (k:=k') (i:=i') (by rw[z,t]) F;intro I n;conv=>cbv
 cases I <;> conv=>cbv
 ·have v:=Ao n;intro m B;conv=>cbv
  refine AN ?_;refine⟨xs.length-(k'+1),?_,?_⟩
  ·omega
  rw[a];refine⟨k'+1,m,rfl,⟨⟨by omega⟩,by omega⟩,?_,rfl⟩;rw[hinv,ke (by omega) (b.2.2 (by omega))]
 have v:=BA n;obtain⟨K,h⟩:=AP (l:=A) (i:=k') (by omega);refine⟨K,fun _=>⟨by omega,by rw[show (j).toNat=k' by omega];exact h⟩,?_⟩;try conv=>cbv
 obtain⟨x,u,f,_⟩:=J8 N h;obtain⟨a1,g⟩:=xI (Ez x);refine AB R (Ui u g) ?_;conv=>cbv
 intro J r;conv=>cbv
 cases J <;> conv=>cbv
 ·have w:=C8 r;intro m B;conv=>cbv
  refine AN ?_;refine⟨xs.length-(k'+1),?_,?_⟩
  ·omega
  rw[a];refine⟨k'+1,m,rfl,⟨⟨by omega⟩,by omega⟩,?_,rfl⟩;have G:x=0:=my (by omega);rw[hinv,R5 f,G];simp
 have w:=DA r;exact AD ⟨⟨rfl,congrArg _ (by rw[hc,hinv,R5 f,b.1.2 v,bne_iff_ne.2 (fun e=>w (by rw[g,e];rfl))];rfl),trivial⟩,trivial⟩
theorem U8 {i:Int} (S:A=BD xs) (hi:AW i i') (h6:i'<=60) (hl:xs.length<=1000000) (hC:C=BD (Bx i' 0 xs)):CF 129 [.one (.sl AA A),.one (.int .i64 i)] (.one (.sl AA C)):=by
 have ei:=hi.eq;have Z:A.length=xs.length:=by rw[S,List.length_map]
 refine AJ Tryz.func129 fun E hE=>?_
 conv=>cbv
 refine .inr ?_;obtain⟨Y,b⟩:=xJ fun vs R k=>∃(o:LR) (n k':Nat) (j:Int),vs=[.one (.sl AA A),.one (.int .i64 i),.one (.AS AA 5 0 0 n),.one (.int .i64 j)]/\R=[.arr 0 AA o]/\(AW j k'/\k'<=xs.length/\n=o.length)/\o=BD (Bx i' 0 (xs.take k'))/\k=xs.length-k'
 refine⟨[(5,AA,true)],[0,1,5,6],[5],Y,⟨xs.length-0,by rw[b];exact⟨[],0,0,0,rfl,rfl,⟨Bb 0,by omega,rfl⟩,rfl,rfl⟩⟩,?_⟩;intro vs R a6 B;rw[b] at B;obtain⟨o,n,k',j,rfl,rfl,⟨B,a1,U⟩,hinv,a2⟩:=B;conv=>cbv
 have ej:=B.eq;have a5:o.length<=xs.length:=by rw[hinv,List.length_map];have:=ar i' 0 (xs.take k');rw[List.length_take] at this;omega
 rintro n9 ⟨e9,f9⟩;conv=>cbv
 intro N t;conv=>cbv
 cases N <;> conv=>cbv
 ·have K:=BB t;exact AD ⟨⟨rfl,.inl ⟨_,rfl,by omega,congrArg _ (by rw[hC,U,List.drop_zero,List.take_length,hinv,show k'=xs.length by omega,List.take_length])⟩,trivial⟩,trivial⟩
 have K:=BC t;refine .inr ?_;intro O G;conv=>cbv
 refine AI ?_;obtain⟨d15,v,D⟩:∃d:Nat,d=k'/2^i'/\O=d:=⟨_,rfl,shr_var (p:=k') (e:=i') G (by omega) (by omega) (by show i'<=64;omega)⟩
 intro a7 H;conv=>cbv
 refine AI ?_;have f:=Vj (k:=k') (i:=i') (by rw[D,v]) H;intro P u;conv=>cbv
 refine .inr ?_;cases P <;> conv=>cbv
 ·have M:=Ao u;intro r F;conv=>cbv
  refine AN ?_;refine⟨xs.length-(k'+1),?_,?_⟩
  ·omega
  rw[b];obtain⟨qq,I⟩:=AP (l:=xs) (i:=k') (by omega);exact⟨o,n,k'+1,r,rfl,rfl,⟨⟨by omega⟩,by omega,U⟩,by rw[ax I,if_pos (f.1.2 (by omega)),List.append_nil];exact hinv,rfl⟩
 have M:=BA u
 obtain⟨z,X,y,J⟩:∃q,Bn q (rp q).1.1 (rp q).1.2 (rp q).2.1 (rp q).2.2/\xs[k']? =some q/\A[k']? =some (rp q):=by
  obtain⟨q,W⟩:=AP (l:=xs) (i:=k') (by omega);exact⟨q,HK q,W,by rw[S,List.getElem?_map,W];rfl⟩
 obtain⟨a,g⟩:=AP (l:=A) (i:=k') (by omega);refine⟨a,fun _=>⟨by omega,by rw[show (j).toNat=k' by omega];exact g⟩,?_⟩;try conv=>cbv
 refine⟨[((a.1.1,a.1.2),(a.2.1,a.2.2))],fun _=>⟨rfl,by decide,rfl,⟨rfl,by first | exact t1 | exact t2 | exact t4 | simp[BV,Bm,cells],trivial⟩⟩,.inr ?_⟩;try conv=>cbv
 refine .inl ⟨[((a.1.1,a.1.2),(a.2.1,a.2.2))],fun _=>⟨rfl,by (first | rfl | omega),rfl,by show (o.length+1)*64<=140737488355328;(try simp only[List.length_take,List.length_drop]);omega⟩,?_⟩;intro (m:LR) Q h;have w:m=(o:LR)++([((a.1.1,a.1.2),(a.2.1,a.2.2))]:LR):=h.1;have x:Q=List.length (α:=(el AA)) m:=h.2;conv=>cbv
 intro r F;conv=>cbv
 refine AN ?_;refine⟨xs.length-(k'+1),?_,?_⟩
 ·omega
 rw[b];have ex:a=rp z:=by have:=g.symm.trans J;exact Option.some.inj this
 refine⟨m,_,k'+1,r,rfl,rfl,⟨⟨by omega⟩,by omega,x⟩,?_,rfl⟩;rw[ax y,if_neg (by rw[f.2.2 (by omega)];decide)];rw[w,hinv];show _=List.map rp _;rw[List.map_append];show _=BD _++[rp z];rw[<-ex]
theorem Kd:CF 100 [.agg (AK T1 A1),.one (.int .i64 0),.agg (AK T2 A2)] (.agg (AK T1 A1)):=by
 refine AJ Tryz.func100 fun E a=>?_
 conv=>cbv
 refine AO ?_;conv=>cbv
 exact AD ⟨t3,trivial⟩
theorem du:CF 100 [.agg (AK T1 A1),.one (.int .i64 6),.agg (AK T2 A2)] (.agg (AK T2 A2)):=by
 refine AJ Tryz.func100 fun E a=>?_
 conv=>cbv
 refine BG ?_;conv=>cbv
 exact AD ⟨t3,trivial⟩
theorem oA (h:∀x∈ts.take k,∀q∈x,C5 q) (d:ts[k]? =some s) (b:∀q∈s,C5 q):∀x∈ts.take (k+1),∀q∈x,C5 q:=by
 intro x a;rw[C4 d] at a;rcases List.mem_append.1 a with a | a
 ·exact h x a
 rw[List.mem_singleton.1 a];exact b
def Na (ts:List (List Rat)) (xs:List Rat):Prop:=(∃q∈xs,¬C5 q)\/∃s∈ts,∃q∈s,¬C5 q
theorem dt (hT:T=ts.map BD) (hA:A=BD xs) (hc:c=true↔Na ts xs):CF 107 [.agg (AK T A)] (.one (.bool c)):=by
 have aN:A.length=xs.length:=by rw[hA,List.length_map]
 have aP:T.length=ts.length:=by rw[hT,List.length_map]
 refine AJ Tryz.func107 fun E hE=>?_
 conv=>cbv
 refine .inr ?_;obtain⟨J0,J⟩:=xJ fun vs v k=>∃(k':Nat) (j:Int),vs=[.one (.Ag 1 0 0),.one (.bool false),.one (.int .i64 j)]/\v=[.var 0 [.sl (.sl AA) T,.sl AA A]]/\(AW j k'/\k'<=xs.length)/\(∀q∈xs.take k',C5 q)/\k=xs.length-k'
 refine⟨[],[1,2,3],[1],J0,⟨xs.length-0,by rw[J];exact⟨0,0,rfl,rfl,⟨Bb 0,by omega⟩,by simp,rfl⟩⟩,?_⟩;intro vs v aX r;rw[J] at r;obtain⟨k',j,rfl,rfl,⟨r,aQ⟩,hinv,aR⟩:=r;conv=>cbv
 have ej:=r.eq;rintro b0 ⟨aD,f10⟩;conv=>cbv
 intro ai W;conv=>cbv
 cases ai <;> conv=>cbv
 ·have aa:=BB W;refine .inr ?_;obtain⟨J1,K⟩:=xJ fun vs v k=>∃(m':Nat) (m:Int),vs=[.one (.Ag 1 0 0),.one (.bool false),.one (.int .i64 m)]/\v=[.var 0 [.sl (.sl AA) T,.sl AA A]]/\(AW m m'/\m'<=ts.length)/\(∀s∈ts.take m',∀q∈s,C5 q)/\k=ts.length-m'
  refine⟨[],[1,2,4],[1],J1,⟨ts.length-0,by rw[K];exact⟨0,0,rfl,rfl,⟨Bb 0,by omega⟩,by simp,rfl⟩⟩,?_⟩;intro vs v aY r;rw[K] at r;obtain⟨m',m,rfl,rfl,⟨hm,aU⟩,w,aS⟩:=r;conv=>cbv
  have em:=hm.eq;rintro b2 ⟨aG,f37⟩;conv=>cbv
  intro ao Z;conv=>cbv
  cases ao <;> conv=>cbv
  ·have ae:=BB Z;exact AD ⟨⟨rfl,congrArg _ (by rw[Bool.eq_false_iff];intro h;rcases hc.1 h with⟨q,hq,hn⟩ |⟨s,hs,q,hq,hn⟩;exact hn (hinv q (by rw[List.take_of_length_le (by omega)];exact hq));exact hn (w s (by rw[List.take_of_length_le (by omega)];exact hs) q hq)),trivial⟩,trivial⟩
  have ae:=BC Z;refine .inr ?_
  obtain⟨s2,x,P⟩:∃s,T[m']? =some (BD s)/\ts[m']? =some s:=by
   obtain⟨s,hs⟩:=AP (l:=ts) (i:=m') (by omega);exact⟨s,by rw[hT,List.getElem?_map,hs];rfl,hs⟩
  refine .inr ?_;obtain⟨J2,M⟩:=xJ fun vs v k=>∃(t:Nat) (p:Int),vs=[.one (.Ag 1 0 0),.one (.bool false),.one (.int .i64 m),.one (.int .i64 p)]/\v=[.var 0 [.sl (.sl AA) T,.sl AA A]]/\(AW p t/\t<=s2.length)/\(∀q∈s2.take t,C5 q)/\k=s2.length-t
  refine⟨[],[1,2,4,5],[1],J2,⟨s2.length-0,by rw[M];exact⟨0,0,rfl,rfl,⟨Bb 0,by omega⟩,by simp,rfl⟩⟩,?_⟩;intro vs v aZ r;rw[M] at r;obtain⟨t,p,rfl,rfl,⟨hp,aV⟩,d,aT⟩:=r;conv=>cbv
  have ep:=hp.eq;obtain⟨R,z⟩:=AP (l:=T) (i:=m') (by omega);refine⟨R,fun _=>⟨by omega,by rw[show (m).toNat=m' by omega];exact z⟩,?_⟩;try conv=>cbv
  have a6:R=BD s2:=Option.some.inj (z.symm.trans x);have aW:R.length=s2.length:=by rw[a6,List.length_map]
  rintro b4 ⟨aH,f47⟩;conv=>cbv
  intro aq a1;conv=>cbv
  cases aq <;> conv=>cbv
  ·have af:=BB a1;intro b3 aL;conv=>cbv
   refine AN ?_;refine⟨ts.length-(m'+1),?_,?_⟩
   ·omega
   rw[K];exact⟨m'+1,_,rfl,rfl,⟨⟨by omega⟩,by omega⟩,oA w P (by rw[show t=s2.length by omega,List.take_length] at d;exact d),rfl⟩
  have af:=BC a1;refine .inr ?_;obtain⟨u,B⟩:=AP (l:=T) (i:=m') (by omega);refine⟨u,fun _=>⟨by omega,by rw[show (m).toNat=m' by omega];exact B⟩,?_⟩;try conv=>cbv
  have S:u=BD s2:=Option.some.inj (B.symm.trans x);have aC:u.length=s2.length:=by rw[S,List.length_map]
  obtain⟨b,D⟩:=AP (l:=u) (i:=t) (by omega);refine⟨b,fun _=>⟨by omega,by rw[show (p).toNat=t by omega];exact D⟩,?_⟩;try conv=>cbv
  obtain⟨q3,a8,O,_⟩:=J8 S D;have g:Bn q3 b.1.1 b.1.2 b.2.1 b.2.2:=a8;intro ar H;have aI:=H.eq;have f62:=H.le;conv=>cbv
  have az:ar=((List.length b.1.2:Nat):Int):=H.eq;intro au a2;conv=>cbv
  cases au <;> conv=>cbv
  ·have ag:=Cg a2;intro av I;have aJ:=I.eq;have f68:=I.le;conv=>cbv
   have aA:av=((List.length b.2.2:Nat):Int):=I.eq;intro aw a5;conv=>cbv
   cases aw <;> conv=>cbv
   ·have ah:=Cg a5;intro b5 aM;conv=>cbv
    refine AN ?_;refine⟨s2.length-(t+1),?_,?_⟩
    ·omega
    rw[M];exact⟨t+1,_,rfl,rfl,⟨⟨by omega⟩,by omega⟩,aO d O ((Jj g).2 ⟨by omega,by omega⟩),rfl⟩
   have ah:=Ch a5;exact AD ⟨⟨rfl,congrArg _ (hc.2 (.inr ⟨s2,List.mem_of_getElem? P,q3,List.mem_of_getElem? O,fun h=>by have:=(Jj g).1 h;omega⟩)),trivial⟩,trivial⟩
  have ag:=Ch a2;exact AD ⟨⟨rfl,congrArg _ (hc.2 (.inr ⟨s2,List.mem_of_getElem? P,q3,List.mem_of_getElem? O,fun h=>by have:=(Jj g).1 h;omega⟩)),trivial⟩,trivial⟩
 have aa:=BC W;refine .inr ?_;obtain⟨a,n⟩:=AP (l:=A) (i:=k') (by omega);refine⟨a,fun _=>⟨by omega,by rw[show (j).toNat=k' by omega];exact n⟩,?_⟩;try conv=>cbv
 obtain⟨q1,a7,N,_⟩:=J8 hA n;have f:Bn q1 a.1.1 a.1.2 a.2.1 a.2.2:=a7;intro aj F;have aE:=F.eq;have f21:=F.le;conv=>cbv
 have ax:aj=((List.length a.1.2:Nat):Int):=F.eq;intro ak X;conv=>cbv
 cases ak <;> conv=>cbv
 ·have ab:=Cg X;obtain⟨Q,y⟩:=AP (l:=A) (i:=k') (by omega);refine⟨Q,fun _=>⟨by omega,by rw[show (j).toNat=k' by omega];exact y⟩,?_⟩;try conv=>cbv
  have U:=Option.some.inj (y.symm.trans n);have aB:List.length Q.2.2=List.length a.2.2:=by rw[U]
  intro al G;have aF:=G.eq;have f31:=G.le;conv=>cbv
  have ay:al=((List.length Q.2.2:Nat):Int):=G.eq;intro an Y;conv=>cbv
  cases an <;> conv=>cbv
  ·have ad:=Cg Y;intro b1 aK;conv=>cbv
   refine AN ?_;refine⟨xs.length-(k'+1),?_,?_⟩
   ·omega
   rw[J];exact⟨k'+1,_,rfl,rfl,⟨⟨by omega⟩,by omega⟩,aO hinv N ((Jj f).2 ⟨by omega,by omega⟩),rfl⟩
  have ad:=Ch Y;exact AD ⟨⟨rfl,congrArg _ (hc.2 (.inl ⟨q1,List.mem_of_getElem? N,fun h=>by have:=(Jj f).1 h;omega⟩)),trivial⟩,trivial⟩
 have ab:=Ch X;exact AD ⟨⟨rfl,congrArg _ (hc.2 (.inl ⟨q1,List.mem_of_getElem? N,fun h=>by have:=(Jj f).1 h;omega⟩)),trivial⟩,trivial⟩
theorem dE (hT:T=ts.map BD) (hA:A=BD xs) (h1:∀q∈xs,C5 q) (h2:∀s∈ts,∀q∈s,C5 q):CF 32 [.agg (AK T A)] (.one (.bool true)):=by
 have aT:A.length=xs.length:=by rw[hA,List.length_map]
 have aU:T.length=ts.length:=by rw[hT,List.length_map]
 refine AJ Tryz.func32 fun E hE=>?_
 conv=>cbv
 refine .inr ?_;obtain⟨J0,J⟩:=xJ fun vs u k=>∃(k':Nat) (j:Int),vs=[.one (.Ag 1 0 0),.one (.bool false),.one (.int .i64 j)]/\u=[.var 0 [.sl (.sl AA) T,.sl AA A]]/\(AW j k'/\k'<=xs.length)/\k=xs.length-k'
 refine⟨[],[1,2,3],[1],J0,⟨xs.length-0,by rw[J];exact⟨0,0,rfl,rfl,⟨Bb 0,by omega⟩,rfl⟩⟩,?_⟩;intro vs u b2 r;rw[J] at r;obtain⟨k',j,rfl,rfl,⟨r,aV⟩,aW⟩:=r;conv=>cbv
 have ej:=r.eq;rintro n9 ⟨e9,f9⟩;conv=>cbv
 intro al S;conv=>cbv
 cases al <;> conv=>cbv
 ·have ae:=BB S;refine .inr ?_;obtain⟨J1,K⟩:=xJ fun vs u k=>∃(m':Nat) (m:Int),vs=[.one (.Ag 1 0 0),.one (.bool false),.one (.int .i64 m)]/\u=[.var 0 [.sl (.sl AA) T,.sl AA A]]/\(AW m m'/\m'<=ts.length)/\k=ts.length-m'
  refine⟨[],[1,2,4],[1],J1,⟨ts.length-0,by rw[K];exact⟨0,0,rfl,rfl,⟨Bb 0,by omega⟩,rfl⟩⟩,?_⟩;intro vs u b3 r;rw[K] at r;obtain⟨m',m,rfl,rfl,⟨hm,aZ⟩,aX⟩:=r;conv=>cbv
  have em:=hm.eq;rintro b6 ⟨aM,f36⟩;conv=>cbv
  intro au X;conv=>cbv
  cases au <;> conv=>cbv
  ·have ah:=BB X;exact AD ⟨t2,trivial⟩
  have ah:=BC X;refine .inr ?_
  obtain⟨s2,w,ad⟩:∃s,T[m']? =some (BD s)/\ts[m']? =some s:=by
   obtain⟨s,hs⟩:=AP (l:=ts) (i:=m') (by omega);exact⟨s,by rw[hT,List.getElem?_map,hs];rfl,hs⟩
  refine .inr ?_;obtain⟨J2,M⟩:=xJ fun vs u k=>∃(h:Nat) (p:Int),vs=[.one (.Ag 1 0 0),.one (.bool false),.one (.int .i64 m),.one (.int .i64 p)]/\u=[.var 0 [.sl (.sl AA) T,.sl AA A]]/\(AW p h/\h<=s2.length)/\k=s2.length-h
  refine⟨[],[1,2,4,5],[1],J2,⟨s2.length-0,by rw[M];exact⟨0,0,rfl,rfl,⟨Bb 0,by omega⟩,rfl⟩⟩,?_⟩;intro vs u b4 r;rw[M] at r;obtain⟨h,p,rfl,rfl,⟨hp,b0⟩,aY⟩:=r;conv=>cbv
  have ep:=hp.eq;obtain⟨O,y⟩:=AP (l:=T) (i:=m') (by omega);refine⟨O,fun _=>⟨by omega,by rw[show (m).toNat=m' by omega];exact y⟩,?_⟩;try conv=>cbv
  have a6:O=BD s2:=Option.some.inj (y.symm.trans w);have b1:O.length=s2.length:=by rw[a6,List.length_map]
  rintro b8 ⟨aN,f46⟩;conv=>cbv
  intro av Y;conv=>cbv
  cases av <;> conv=>cbv
  ·have ai:=BB Y;intro b7 aR;conv=>cbv
   refine AN ?_;refine⟨ts.length-(m'+1),?_,?_⟩
   ·omega
   rw[K];exact⟨m'+1,_,rfl,rfl,⟨⟨by omega⟩,by omega⟩,rfl⟩
  have ai:=BC Y;refine .inr ?_;obtain⟨n,f⟩:=AP (l:=T) (i:=m') (by omega);refine⟨n,fun _=>⟨by omega,by rw[show (m).toNat=m' by omega];exact f⟩,?_⟩;try conv=>cbv
  have D:n=BD s2:=Option.some.inj (f.symm.trans w);have aI:n.length=s2.length:=by rw[D,List.length_map]
  obtain⟨b,g⟩:=AP (l:=n) (i:=h) (by omega);refine⟨b,fun _=>⟨by omega,by rw[show (p).toNat=h by omega];exact g⟩,?_⟩;try conv=>cbv
  obtain⟨q3,ab,a8,_⟩:=J8 D g;have a5:Bn q3 b.1.1 b.1.2 b.2.1 b.2.2:=ab;have aH:=(Jj a5).1 (h2 s2 (List.mem_of_getElem? ad) q3 (List.mem_of_getElem? a8));intro aw H;have aO:=H.eq;have f60:=H.le;conv=>cbv
  have aC:aw=((List.length b.1.2:Nat):Int):=H.eq;intro ax Z;conv=>cbv
  cases ax <;> conv=>cbv
  ·have aj:=Cg Z;obtain⟨P,z⟩:=AP (l:=T) (i:=m') (by omega);refine⟨P,fun _=>⟨by omega,by rw[show (m).toNat=m' by omega];exact z⟩,?_⟩;try conv=>cbv
   have v:=Option.some.inj (z.symm.trans f);have aJ:P.length=s2.length:=by rw[v,D,List.length_map]
   obtain⟨t,B⟩:=AP (l:=P) (i:=h) (by omega);refine⟨t,fun _=>⟨by omega,by rw[show (p).toNat=h by omega];exact B⟩,?_⟩;try conv=>cbv
   have R:=Option.some.inj ((show n[h]? =some t by rw[<-v];exact B).symm.trans g);have aF:List.length t.2.2=List.length b.2.2:=by rw[R]
   intro ay I;have aP:=I.eq;have f73:=I.le;conv=>cbv
   have aD:ay=((List.length t.2.2:Nat):Int):=I.eq;intro az a1;conv=>cbv
   cases az <;> conv=>cbv
   ·have ak:=Cg a1;intro b9 aS;conv=>cbv
    refine AN ?_;refine⟨s2.length-(h+1),?_,?_⟩
    ·omega
    rw[M];exact⟨h+1,_,rfl,rfl,⟨⟨by omega⟩,by omega⟩,rfl⟩
   have ak:=Ch a1
   exfalso;omega
  have aj:=Ch Z
  exfalso;omega
 have ae:=BC S;refine .inr ?_;obtain⟨a,d⟩:=AP (l:=A) (i:=k') (by omega);refine⟨a,fun _=>⟨by omega,by rw[show (j).toNat=k' by omega];exact d⟩,?_⟩;try conv=>cbv
 obtain⟨q1,aa,a7,_⟩:=J8 hA d;have a2:Bn q1 a.1.1 a.1.2 a.2.1 a.2.2:=aa;have aG:=(Jj a2).1 (h1 q1 (List.mem_of_getElem? a7));intro an F;have aK:=F.eq;have f20:=F.le;conv=>cbv
 have aA:an=((List.length a.1.2:Nat):Int):=F.eq;intro ao U;conv=>cbv
 cases ao <;> conv=>cbv
 ·have af:=Cg U;obtain⟨N,x⟩:=AP (l:=A) (i:=k') (by omega);refine⟨N,fun _=>⟨by omega,by rw[show (j).toNat=k' by omega];exact x⟩,?_⟩;try conv=>cbv
  have Q:=Option.some.inj (x.symm.trans d);have aE:List.length N.2.2=List.length a.2.2:=by rw[Q]
  intro aq G;have aL:=G.eq;have f30:=G.le;conv=>cbv
  have aB:aq=((List.length N.2.2:Nat):Int):=G.eq;intro ar W;conv=>cbv
  cases ar <;> conv=>cbv
  ·have ag:=Cg W;intro b5 aQ;conv=>cbv
   refine AN ?_;refine⟨xs.length-(k'+1),?_,?_⟩
   ·omega
   rw[J];exact⟨k'+1,_,rfl,rfl,⟨⟨by omega⟩,by omega⟩,rfl⟩
  have ag:=Ch W
  exfalso;omega
 have af:=Ch U
 exfalso;omega
theorem Ua (t:L=ns.map nm) (x:∀n∈ns,(∀q∈co n.1 n.2,C5 q)/\∀s∈n.1,∀q∈s,C5 q):CF 22 [.one (.sl Bc L)] (.one (.bool true)):=by
 have B:L.length=ns.length:=by rw[t,List.length_map]
 refine AJ Tryz.func22 fun E z=>?_
 conv=>cbv
 refine .inr ?_;obtain⟨v,b⟩:=xJ fun vs w k=>∃(k':Nat) (j:Int),vs=[.one (.sl Bc L),.one (.int .i64 j)]/\(AW j k'/\k'<=L.length)/\k=L.length-k'
 refine⟨[],[0,3],[],v,⟨L.length-0,by rw[b];exact⟨0,0,rfl,⟨Bb 0,by omega⟩,rfl⟩⟩,?_⟩;intro vs w I f;rw[b] at f;obtain⟨k',j,rfl,⟨f,D⟩,F⟩:=f;conv=>cbv
 have M:=f.eq;rintro O ⟨K,f6⟩;conv=>cbv
 intro J r;conv=>cbv
 cases J <;> conv=>cbv
 ·have H:=BB r;exact AD ⟨t2,trivial⟩
 have H:=BC r;refine .inr ?_;obtain⟨p,a⟩:=AP (l:=L) (i:=k') (by omega);refine⟨p,fun _=>⟨by omega,by rw[show (j).toNat=k' by omega];exact a⟩,?_⟩;try conv=>cbv
 obtain⟨u,y,h,m,g⟩:=Im t a;have d:=x _ (List.mem_of_getElem? g);refine AB z (dE (ts:=u.reverse) (xs:=co u y) h m d.1 (fun s G=>d.2 s (List.mem_reverse.1 G))) ?_;conv=>cbv
 refine AO ?_;conv=>cbv
 intro P N;conv=>cbv
 refine AN ?_;refine⟨L.length-(k'+1),?_,?_⟩
 ·omega
 rw[b];exact⟨k'+1,_,rfl,⟨⟨by omega⟩,by omega⟩,rfl⟩
theorem cq {i:Int} {n:Nu} (D:L=ns.map nm) (m:ns≠[]) (K:AW i i') (M:n=Cs ns i') (J:T=tw n.1) (I:A=em n.1 n.2):CF 158 [.one (.sl Bc L),.one (.int .i64 i)] (.agg (AK T A)):=by
 have H:=K.eq;have j:L.length=ns.length:=by rw[D,List.length_map]
 have F:0<ns.length:=List.length_pos_iff.2 m;refine AJ Tryz.func158 fun E Q=>?_
 conv=>cbv
 rintro R ⟨P,f6⟩;conv=>cbv
 intro O B;conv=>cbv
 cases O <;> conv=>cbv
 ·have G:=Ao B;intro v b;conv=>cbv
  cases v <;> conv=>cbv
  ·have d:=BB b;rintro N ⟨g,f16⟩;conv=>cbv
   intro f h;conv=>cbv
   refine AI ?_;have z:f=((i'%L.length:Nat):Int):=by rw[h,H,g];exact (Int.natCast_emod _ _).symm
   obtain⟨w,a⟩:=AP (l:=L) (i:=(i'%L.length)) (by exact Nat.mod_lt _ (by omega));refine⟨w,fun _=>⟨by omega,by rw[show (f).toNat=(i'%L.length) by omega];exact a⟩,?_⟩;try conv=>cbv
   obtain⟨u,y,r,t,p⟩:=Im D a;have x:n=(u,y):=by rw[M];unfold Cs;rw[<-j,List.getD_eq_getElem?_getD,p];rfl
   exact AD ⟨⟨rfl,congrArg _ (by rw[J,x];exact r.symm),congrArg _ (by rw[I,x];exact t.symm),trivial⟩,trivial⟩
  have d:=BC b;exact absurd d (by omega)
 have G:=BA B;exact absurd G (by omega)
theorem jw {i:Nat} (b:∀m,o[m]? =(ts[m]?).map fun s=>BD (if i<m/\m<k then Bx i 0 s else s)) (a:ts[k]? =some s) (d:i<k) {w:LR} (hw:w=BD (Bx i 0 s)):
  ∀m,(o.set k w)[m]? =(ts[m]?).map fun s=>BD (if i<m/\m<k+1 then Bx i 0 s else s):=by
 intro m
 by_cases e:k=m
 ·subst e;have f:=Il a
  have g:k<o.length:=by
   have:=b k;rw[a] at this;exact Il this
  rw[List.getElem?_set_self g,a,Option.map_some,if_pos ⟨d,by omega⟩,hw]
 rw[List.getElem?_set_ne e,b m];have:(i<m/\m<k+1)↔(i<m/\m<k):=by omega
 simp only[this]
theorem jv {i:Nat} (d:i<ts.length) (b:∀m,o[m]? =(ts[m]?).map fun s=>BD (if i<m/\m<ts.length then Bx i 0 s else s)):o.take i++o.drop (i+1)=(ts.take i++(ts.drop (i+1)).map (Bx i 0)).map BD:=by
 have e:o=(ts.take (i+1)++(ts.drop (i+1)).map (Bx i 0)).map BD:=by
  apply List.ext_getElem?;intro m;rw[b m,List.getElem?_map,List.getElem?_append,List.length_take,Nat.min_eq_left (by omega)]
  by_cases hm:m<i+1
  ·rw[if_pos hm,List.getElem?_take,if_pos hm];cases ts[m]? with
   | none=>rfl
   | some s=>simp only[Option.map_some];rw[if_neg (by omega)]
  rw[if_neg hm,List.getElem?_map,List.getElem?_drop,show i+1+(m-(i+1))=m by omega]
  by_cases a:m<ts.length
  ·rw[List.getElem?_eq_getElem a];simp only[Option.map_some];rw[if_pos ⟨by omega,a⟩]
  rw[List.getElem?_eq_none (by omega)];rfl
 have hlen:(ts.take (i+1)).length=i+1:=by rw[List.length_take];omega
 rw[e,List.map_append,List.map_append,List.take_append_of_le_length (by rw[List.length_map,hlen];omega),List.drop_left' (by rw[List.length_map,hlen]),<-List.map_take,List.take_take,Nat.min_eq_left (by omega)]
theorem VK {i:Nat} {f:List Rat->Bool} (a:ts[k]? =some s) (b:i<k):((ts.drop (i+1)).take (k+1-(i+1))).any f=(((ts.drop (i+1)).take (k-(i+1))).any f||f s):=by
 rw[show k+1-(i+1)=k-(i+1)+1 by omega,C4 (l:=ts.drop (i+1)) (i:=k-(i+1)) (x:=s) (by rw[List.getElem?_drop,show i+1+(k-(i+1))=k by omega];exact a)];simp
theorem Un {u U:List (List Rat)} {x:Re} (h:AZ u) (hx:In u x) (hl:u.length<=8) (hw:Hv u.length (u.reverse,co u x)=(U.reverse,co U x)) (hT:T=tw u) (hA:A=em u x) (aO:T2=tw U) (hC:C=em U x):CF 25 [.agg (AK T A)] (.agg (AK T2 C)):=by
 have bI:T.length=u.length:=by rw[hT,CB]
 refine AJ Tryz.func25 fun E hE=>?_
 conv=>cbv
 refine⟨[],fun _=>⟨rfl,by decide,rfl,trivial⟩,.inl ?_⟩;try conv=>cbv
 refine .inl ⟨T,fun _=>⟨rfl,by (first | rfl | omega),rfl,by show (0+T.length)*24<=140737488355328;(try simp only[List.length_take,List.length_drop]);omega⟩,?_⟩;intro (af:List (el (.sl AA))) b4 R;have M:af=([]:List (el (.sl AA)))++(T:List (el (.sl AA))):=R.1;have av:b4=List.length (α:=(el (.sl AA))) af:=R.2;conv=>cbv
 refine g2 rfl ?_;intro bT aI;have bw:=aI.eq;conv=>cbv
 have aT:List.length af=List.length T:=by rw[M];rfl
 intro b5 bB;conv=>cbv
 refine AN ?_;refine .inr ?_
 obtain⟨J0,Y⟩:∃J:List AV->List AM->Nat->Prop,J=fun vs g k=>∃(w:List (List Rat)) (O:List LR) (B:LR) (n j:Nat) (i:Int),vs=[.one (.Ag 2 0 0),.one (.Ag 3 0 0),.one (.int .i64 i)]/\g=[.var 0 [.nil,.nil],.var 0 [.AS (.sl AA) 8 0 0 n,.sl AA B],.arr 0 (.sl AA) O]/\
  (AW (i+1) j/\n=O.length/\O=tw w/\B=em w x)/\(AZ w/\In w x/\j<=w.length/\w.length<=8)/\Hv j (w.reverse,co w x)=(U.reverse,co U x)/\k=j:=⟨_,rfl⟩
 refine⟨[],[2,3,4],[2,3,8],J0,⟨u.length,by rw[Y];exact⟨u,_,_,_,u.length,b5,rfl,rfl,⟨⟨by omega⟩,av,by rw[M,hT];rfl,hA⟩,⟨h,hx,Nat.le_refl _,hl⟩,hw,rfl⟩⟩,?_⟩;intro vs g bQ a;rw[Y] at a;obtain⟨w,O,B,n,j,i,rfl,rfl,⟨hi,hn,hO,hB⟩,⟨ad,ae,bL,D⟩,d,bM⟩:=a;conv=>cbv
 have ei:=hi.eq;obtain⟨i',bJ⟩:=xN (j-1);intro b6 ak;conv=>cbv
 cases b6 <;> conv=>cbv
 ·have b1:=Fs ak;exact AD ⟨⟨rfl,.inl ⟨_,rfl,by omega,congrArg _ (by rw[aO,hn,List.drop_zero,List.take_length,hO];have:=d;rw[show j=0 by omega,Hv] at this;rw[tw,tw,(Prod.mk.inj this).1])⟩,congrArg _ (by rw[hC,hB];have:=d;rw[show j=0 by omega,Hv] at this;rw[em,em,(Prod.mk.inj this).2]),trivial⟩,trivial⟩
 have b1:=Ft ak
 obtain⟨K1,a1⟩:∃J:List AV->List AM->Prop,J=fun vs g=>∃(r:List (List Rat)) (O2:List LR) (B2:LR) (n2:Nat),vs=[.one (.Ag 2 0 0),.one (.Ag 3 0 0),.one (.int .i64 i)]/\g=[.var 0 [.nil,.nil],.var 0 [.AS (.sl AA) 8 0 0 n2,.sl AA B2],.arr 0 (.sl AA) O2]/\
  (n2=O2.length/\O2=tw r/\B2=em r x)/\(AZ r/\In r x/\i'<=r.length/\r.length<=8)/\Hv i' (r.reverse,co r x)=(U.reverse,co U x):=⟨_,rfl⟩
 refine .inl ⟨[2,3,4],[2,3,8],K1,?_,?_⟩
 ·intro vs g a;rw[a1] at a;obtain⟨r,O2,B2,n2,rfl,rfl,⟨aV,aN,aM⟩,⟨aA,aB,ar,az⟩,ay⟩:=a;conv=>cbv
  intro b7 bC;conv=>cbv
  refine AN ?_;refine⟨i',?_,?_⟩
  ·omega
  rw[Y];exact⟨r,O2,B2,n2,i',b7,rfl,rfl,⟨⟨by omega⟩,aV,aN,aM⟩,⟨aA,aB,ar,az⟩,ay,rfl⟩
 try conv=>cbv
 have aR:j=i'+1:=by omega
 subst aR;have y:AW i i':=⟨by omega⟩;obtain⟨ts,f⟩:∃z:List (List Rat),z=w.reverse:=⟨_,rfl⟩
 have a2:O=ts.map BD:=by rw[hO,f];rfl
 have bP:ts.length=w.length:=by rw[f,List.length_reverse]
 have bH:O.length=ts.length:=by rw[a2,List.length_map]
 have aP:(co w x).length<=1000000:=by rw[Cr ae];exact Nat.le_trans (CQ D) (by decide)
 obtain⟨aF,I⟩:=xB (Cy i' 0 (co w x));refine AB hE (Ux (xs:=co w x) hB y (by omega) I) ?_;conv=>cbv
 intro b8 bD;conv=>cbv
 refine AN ?_;refine .inr ?_
 obtain⟨J1,v⟩:∃J:List AV->List AM->Nat->Prop,J=fun vs g k=>∃(b:Bool) (k':Nat) (j:Int),vs=[.one (.Ag 2 0 0),.one (.Ag 3 0 0),.one (.int .i64 i),.one (.bool b),.one (.int .i64 j)]/\g=[.var 0 [.nil,.nil],.var 0 [.AS (.sl AA) 8 0 0 n,.sl AA B],.arr 0 (.sl AA) O]/\
  (AW j k'/\i'<k'/\k'<=ts.length)/\b=(Cy i' 0 (co w x)||((ts.drop (i'+1)).take (k'-(i'+1))).any (Cy i' 0))/\k=ts.length-k':=⟨_,rfl⟩
 refine⟨[],[2,3,4,5,6],[2,3,8],J1,⟨ts.length-(i'+1),by rw[v];exact⟨aF,i'+1,b8,rfl,rfl,⟨⟨by omega⟩,by omega,by omega⟩,by rw[I,Nat.sub_self,List.take_zero];simp,rfl⟩⟩,?_⟩;intro vs g bR a;rw[v] at a;obtain⟨b,k',j,rfl,rfl,⟨a,ao,bK⟩,hb,bN⟩:=a;conv=>cbv
 have ej:=a.eq;intro bU aJ;have bx:=aJ.eq;conv=>cbv
 intro b9 al;conv=>cbv
 cases b9 <;> conv=>cbv
 ·have b2:=BB al;cases b <;> conv=>cbv
  ·obtain⟨aj,H⟩:=xR (BD (Bx i' 0 (co w x)));refine AB hE (U8 (xs:=co w x) hB y (by omega) aP H) ?_;conv=>cbv
   intro Dk bE;conv=>cbv
   refine AN ?_;refine .inr ?_
   obtain⟨J2,Z⟩:∃J:List AV->List AM->Nat->Prop,J=fun vs g k=>∃(o:List LR) (k2:Nat) (j2:Int),vs=[.one (.Ag 2 0 0),.one (.Ag 3 0 0),.one (.int .i64 i),.one (.int .i64 j2)]/\g=[.var 0 [.nil,.nil],.var 0 [.AS (.sl AA) 8 0 0 n,.sl AA aj],.arr 0 (.sl AA) o]/\
    (AW j2 k2/\i'<k2/\k2<=ts.length/\o.length=ts.length)/\(∀m,o[m]? =(ts[m]?).map fun s=>BD (if i'<m/\m<k2 then Bx i' 0 s else s))/\k=ts.length-k2:=⟨_,rfl⟩
   refine⟨[],[2,3,4,7],[2,3,8],J2,⟨ts.length-(i'+1),by rw[Z];exact⟨O,i'+1,Dk,rfl,rfl,⟨⟨by omega⟩,by omega,by omega,by omega⟩,fun m=>by
    have aW:¬(i'<m/\m<i'+1):=by omega
    simp only[aW,if_false];rw[a2,List.getElem?_map],rfl⟩⟩,?_⟩
   intro vs g bS a;rw[Z] at a;obtain⟨o,k2,j2,rfl,rfl,⟨aQ,aq,bo,aX⟩,hq,bO⟩:=a;conv=>cbv
   have bA:=aQ.eq;intro bV aL;have bz:=aL.eq;conv=>cbv
   intro ba an;conv=>cbv
   cases ba <;> conv=>cbv
   ·have b3:=BB an;refine⟨fun _=>⟨by omega,by omega,by omega⟩,?_⟩;intro bs bg;conv=>cbv
    rintro bX W ⟨bp,bj⟩;conv=>cbv
    intro bW bG;conv=>cbv
    refine AN ?_;refine AI ?_;rintro br bt ⟨bf,bh⟩;conv=>cbv
    rintro G X ⟨bq,bk⟩;conv=>cbv
    refine .inl ⟨((o).drop G).take X,fun _=>⟨by omega,by omega,⟨_,rfl,by omega,rfl⟩,by show (W+(((o).drop G).take X).length)*24<=140737488355328;(try simp only[List.length_take,List.length_drop]);omega⟩,?_⟩;intro (F:List (el (.sl AA))) aD S;have au:F=(List.take W o:List (el (.sl AA)))++(((o).drop G).take X:List (el (.sl AA))):=S.1;have aw:aD=List.length (α:=(el (.sl AA))) F:=S.2;conv=>cbv
    refine g2 rfl ?_;rw[a1];have a6:k'=ts.length:=by omega
    have a5:¬(Cy i' 0 (co w x)||(ts.drop (i'+1)).any (Cy i' 0))=true:=by
     have t:=hb;rw[a6,List.take_of_length_le (by rw[List.length_drop];omega)] at t;rw[<-t];exact Bool.false_ne_true
    obtain⟨w1,e1,ab,aS⟩:=aU ad ae (by omega:i'<w.length);have e2:=e1;unfold Lk at e2;rw[<-f,if_neg a5] at e2;have e3:=Prod.mk.inj e2
    have a7:F=o.take i'++o.drop (i'+1):=by
     rw[au,show W=i' by omega,show G=i'+1 by omega,List.take_of_length_le (l:=o.drop (i'+1)) (by rw[List.length_drop];omega)]
    rw[show k2=ts.length by omega] at hq;refine⟨w1,F,aj,aD,rfl,rfl,⟨aw,?_,?_⟩,⟨ab.red,ab.mem,aS,Nat.le_trans ab.len D⟩,by rw[Hv,e1] at d;exact d⟩
    ·rw[a7,jv (by omega) hq,tw,<-f] at*;rw[e3.1]
    rw[H,em,<-e3.2]
   have b3:=BC an;refine .inr ?_;refine AI ?_;intro b0 bm;conv=>cbv
   obtain⟨ai,Q⟩:=AP (l:=o) (i:=b0) (by omega);refine⟨ai,fun _=>Q,?_⟩;try conv=>cbv
   obtain⟨s7,aa⟩:=AP (l:=ts) (i:=k2) (by omega);have aY:o[k2]? =some ai:=by rw[<-Q];congr 1;omega
   have aH:ai=BD s7:=by have t:=hq k2;rw[aa,aY,Option.map_some,if_neg (by omega)] at t;exact Option.some.inj t
   have ax:s7.length<=1000000:=by have t:=SV ad (List.mem_reverse.1 (f ▸ List.mem_of_getElem? aa));have h2:2^w.length<=2^8:=CQ D;omega
   obtain⟨aE,N⟩:=xR (BD (Bx i' 0 s7));refine AB hE (U8 aH y (by omega) ax N) ?_;conv=>cbv
   refine AI ?_;intro aC bn;conv=>cbv
   refine⟨aE,fun _=>⟨by show _<List.length (α:=(el (.sl AA))) o;(first | omega | (simp;omega)),by first | exact t1 | exact t2 | exact t4 | simp[BV,Bm,cells]⟩,?_⟩;intro (ag:List (el (.sl AA))) (p:ag=List.set (α:=(el (.sl AA))) o aC aE);have bd:ag.length=o.length:=by rw[p,List.length_set]
   conv=>cbv
   refine g2 rfl ?_;intro bb bF;conv=>cbv
   refine AN ?_;refine⟨ts.length-(k2+1),?_,?_⟩
   ·omega
   rw[Z];exact⟨ag,k2+1,bb,rfl,rfl,⟨⟨by omega⟩,by omega,by omega,by rw[p,List.length_set];exact aX⟩,by rw[p,show aC=k2 by omega];exact jw hq aa aq N,rfl⟩
  rw[a1];have a6:k'=ts.length:=by omega
  have a5:(Cy i' 0 (co w x)||(ts.drop (i'+1)).any (Cy i' 0))=true:=by
   have t:=hb;rw[a6,List.take_of_length_le (by rw[List.length_drop];omega)] at t;exact t.symm
  have e1:Lk i' (w.reverse,co w x)=(w.reverse,co w x):=by
   unfold Lk;rw[<-f,if_pos a5]
  exact⟨w,O,B,n,rfl,rfl,⟨hn,hO,hB⟩,⟨ad,ae,by omega,D⟩,by rw[Hv,e1] at d;exact d⟩
 have b2:=BC al;refine .inr ?_;cases b <;> conv=>cbv
 ·refine AI ?_;intro aZ bl;conv=>cbv
  obtain⟨bc,P⟩:=AP (l:=O) (i:=aZ) (by omega);refine⟨bc,fun _=>P,?_⟩;try conv=>cbv
  obtain⟨s4,aG,a8⟩:=J7 (i:=k') a2 (by rw[<-P];congr 1;omega);obtain⟨bu,K⟩:=xB (Cy i' 0 s4);refine AB hE (Ux aG y (by omega) K) ?_;conv=>cbv
  intro ah aK;conv=>cbv
  refine AN ?_;refine⟨ts.length-(k'+1),?_,?_⟩
  ·omega
  rw[v];exact⟨_,k'+1,ah,rfl,rfl,⟨⟨by omega⟩,by omega,by omega⟩,by rw[VK a8 ao,<-Bool.or_assoc,<-hb,K];simp,rfl⟩
 intro ah aK;conv=>cbv
 refine AN ?_;refine⟨ts.length-(k'+1),?_,?_⟩
 ·omega
 rw[v];obtain⟨s4,a8⟩:=AP (l:=ts) (i:=k') (by omega);exact⟨_,k'+1,ah,rfl,rfl,⟨⟨by omega⟩,by omega,by omega⟩,by rw[VK a8 ao,<-Bool.or_assoc,<-hb];simp,rfl⟩
end Go.Abs
namespace Go.Abs
open Go.RowKit
theorem Y9 {o:el B9} {n d:Int} (a:n=KS o.2.2.2.1) (b:d=((o.2.2.2.2.toNat%8+1:Nat):Int)):HP o=Rat.divInt n d:=by subst a b;rfl
theorem M6 {st:List Nu×Nat} {o:el B9} (h:st.1=[]\/o.1.toNat%6=0):DY st o=(([],Re.ofRat (HP o)),st.2):=by unfold DY;rw[if_pos h]
theorem Jf {st:List Nu×Nat} {o:el B9} (a:st.1≠[]) (b:o.1.toNat%6≠0):DY st o=EO (o.1.toNat%6) (Cs st.1 o.2.1.toNat) (Cs st.1 o.2.2.1.toNat) st.2:=by
 unfold DY;rw[if_neg (fun h=>h.elim a b)]
theorem ku (a b:Nu) (r:Nat):EO 1 a b r=((Bf a.1 b.1,a.2+b.2),r):=by unfold EO;rw[if_pos rfl]
theorem lA (a b:Nu) (r:Nat):EO 2 a b r=((Bf a.1 b.1,a.2-b.2),r):=by unfold EO;rw[if_neg (by decide),if_pos rfl]
theorem kz (a b:Nu) (r:Nat):EO 3 a b r=((Bf a.1 b.1,a.2*b.2),r):=by unfold EO;rw[if_neg (by decide),if_neg (by decide),if_pos rfl]
theorem ky {a b:Nu} (r:Nat) (h:b.2=0):EO 4 a b r=(a,r):=by unfold EO;rw[if_neg (by decide),if_neg (by decide),if_neg (by decide),if_pos rfl,if_pos h]
theorem kv {a b:Nu} (r:Nat) (h:b.2≠0):EO 4 a b r=((Bf a.1 b.1,a.2*AT b.2),r):=by unfold EO;rw[if_neg (by decide),if_neg (by decide),if_neg (by decide),if_pos rfl,if_neg h]
theorem Ye (a b:Nu) {r:Nat} (h:r<3):EO 5 a b r=((BK a.1 (Ds a.2),Re.sqrt (Ds a.2)),r+1):=by unfold EO;rw[if_neg (by decide),if_neg (by decide),if_neg (by decide),if_neg (by decide),if_pos h]
theorem YZ (a b:Nu) {r:Nat} (h:¬r<3):EO 5 a b r=(a,r):=by unfold EO;rw[if_neg (by decide),if_neg (by decide),if_neg (by decide),if_neg (by decide),if_neg h]
theorem get_eq {ns:List Nu} {i j:Nat} {n:Nu} (h:ns[j]? =some n) (a:j=i%ns.length):Cs ns i=n:=by
 unfold Cs;rw[List.getD_eq_getElem?_getD,<-a,h];rfl
theorem iM:∀h,h<=3->II h Rm Rm<=60000000000000
 |0,_|1,_|2,_|3,_=>by decide +kernel
 | _+4,h=>absurd h (by omega)
theorem iN:∀h,h<=3->II h 256 512<=Rm
 |0,_|1,_|2,_|3,_=>by decide +kernel
 | _+4,h=>absurd h (by omega)
section
variable {V:List Re} {ns:List Nu}
theorem CK.tb {n:Nu} (h:CK V n) (hV:V.length<=3):TB 256 n.1:=(PN.JP (ns:=[n]) hV (fun m hm=>by rw[List.mem_singleton.1 hm];exact h)).tb (PN.self (List.mem_singleton.2 rfl))
theorem CK.inv {n:Nu} (h:CK V n) (hV:V.length<=3) (a:n.2≠0):El n.1 Rm (AT n.2):=by
 have b:=Nat.le_trans h.len hV;have ht:At 256 n.1:=⟨h.red,h.tb hV,by decide,by omega⟩;exact ((h.el hV).inv ht (Oa h.red h.mem a) (Hk a)).mono (iN _ b)
theorem CK.abs {n:Nu} (h:CK V n):CK V (n.1,Ds n.2):=by
 refine⟨h.red,XI h.mem,h.BF,h.IN,fun q a=>?_⟩;have a:q∈co n.1 (Ds n.2):=a;unfold Ds at a
 split at a
 ·rw[Ko h.red h.mem] at a;obtain⟨p,b,rfl⟩:=List.mem_map.1 a;have:=h.cos p b;exact⟨by show (-p.num).natAbs<_;rw[Int.natAbs_neg];exact this.1,this.2⟩
 exact h.cos q a
theorem ZS {n:Nu} (h:CK V n) (hV:V.length<=2) (g:0<=n.2) {S:Nat} (i:Rm<=S) (j:S<=Sm:=by first|omega|decide):DT (Tf fun u=>u<:+BK n.1 n.2) Rm Cm S/\Tf (fun u=>u<:+BK n.1 n.2) n.1/\Tf (fun u=>u<:+BK n.1 n.2) (BK n.1 n.2):=by
 have l:=Jg h.red h.mem g;have m:=h.len
 have b:TB 256 (BK n.1 n.2):=by
  by_cases f:Sq n.1 n.2
  ·rw[D3 f];exact h.tb (by omega)
  rw[Dc f];intro r a;rcases List.mem_cons.1 a with rfl | a
  ·refine (N3 h.cos).mono ?_;rw[Cr h.mem];have:2^n.1.length<=2^2:=CQ;omega
  exact h.tb (by omega) r a
 have I:CU (fun u=>u<:+BK n.1 n.2) 256:=⟨fun {u} hu=>Sd hu l,fun {u} hu=>fun r a=>b r (hu.subset a),fun {r u} hu=>(List.suffix_cons r u).trans hu⟩;refine⟨W5 I (fun {u} hu=>?_) i j,Tf.of I (Ny _ _),Tf.of I (List.suffix_refl _)⟩
 have:=hu.len I (V:=n.2::V) (fun {u} hu v d=>by
  rcases af h.mem v (aj hu v d) with rfl | d
  ·exact List.mem_cons_self
  exact List.mem_cons_of_mem _ (h.BF v d))
 rw[List.length_cons] at this;omega
theorem gQ (hV:V.length<=3) (d:∀n∈ns,CK V n) {a b:Nu} (ha:a∈ns) (hb:b∈ns) {r:Nat}:∃(T A i h:_) (e:Int),CF 103 [.agg [.sl (.sl AA) (tw a.1),.sl AA (em a.1 a.2)],.agg [.sl (.sl AA) (tw b.1),.sl AA (em b.1 b.2)]] (.AF [(true,(AK T A)),(false,[.int .i64 e])])/\
  CF 100 [.agg [.sl (.sl AA) T,.sl AA A],.one (.int .i64 e),.agg [.sl (.sl AA) (tw a.1),.sl AA (em a.1 a.2)]] (.agg [.sl (.sl AA) i,.sl AA h])/\i=tw (EO 4 a b r).1.1/\h=em (EO 4 a b r).1.1 (EO 4 a b r).1.2/\(EO 4 a b r).2=r:=by
 have G:=J6 hV d (Nat.le_refl Rm);have j:=((d a ha).el hV).mono (by decide:512<=Rm);have l:=((d b hb).el hV).mono (by decide:512<=Rm)
 by_cases f:b.2=0
 ·rw[ky r f];exact⟨_,_,_,_,_,dH G (GP hV d ha) (GP hV d hb) rfl rfl rfl rfl j l f,du,rfl,rfl,rfl⟩
 rw[kv r f];have g:=Nat.le_trans (d b hb).len hV;exact⟨_,_,_,_,_,Ug G (GP hV d ha) (GP hV d hb) rfl rfl rfl rfl j l (Oa (d b hb).red (d b hb).mem f) (Hk f) ((d b hb).inv hV f) (iM _ g) rfl rfl,Kd,rfl,rfl,rfl⟩
end
theorem jB (x:Nu):Gd [] x=x:=by unfold Gd;rw[if_neg (fun h=>h.1 rfl)]
theorem jA {l:List Nu} {x:Nu} (h:l≠[]) (a:I8 x):Gd l x=l.getLastD IU:=by unfold Gd;rw[if_pos ⟨h,a⟩]
theorem jC {l:List Nu} {x:Nu} (a:¬I8 x):Gd l x=x:=by unfold Gd;rw[if_neg (fun h=>a h.2)]
theorem Xs {n:Nu}:Na n.1.reverse (co n.1 n.2)↔I8 n:=by
 unfold Na I8;simp only[List.mem_reverse]
theorem jF {l:List Nu} {j:Nat} {n:Nu} (h:l[j]? =some n) (a:j+1=l.length):l.getLastD IU=n:=by
 rw[List.getLastD_eq_getLast?,List.getLast?_eq_getElem?,show l.length-1=j by omega,h];rfl
theorem Zf:∀(xs:List (el B9)) (st:List Nu×Nat),(xs.foldl I4 st).1.length=st.1.length+xs.length
 | [],_=>rfl
 | o::xs,st=>by
  rw[List.foldl_cons,Zf xs (I4 st o),List.length_cons];unfold I4;rw[List.length_append,List.length_singleton];omega
theorem mv {x:Re} (h:BT x<0):x<0:=by rcases E7 x with⟨a,b⟩ |⟨a,b⟩ |⟨a,b⟩ <;> first | exact a | (exfalso;omega)
theorem mu {x:Re} (h:¬BT x<0):¬x<0:=by rcases E7 x with⟨a,b⟩ |⟨a,b⟩ |⟨a,b⟩ <;> first | (exfalso;omega) | (rw[a];exact fun h=>by grind) | (intro h;grind)
theorem Ub {X:List (el B9)} {L:List (el Bc)} (hL:L=(runN (X.take 24)).1.map nm):CF 20 [.one (.sl B9 X)] (.one (.sl Bc L)):=by
 refine AJ Tryz.func20 fun E M=>?_
 conv=>cbv
 refine .inr ?_;obtain⟨J0,aG⟩:=xJ fun vs bl k=>(vs=[.one (.sl B9 X),.one .nil,.one (.int .i64 0),.one (.int .i64 0)]/\bl=[.dead 0]/\k=24)\/(∃(o:List (el Bc)) (n k':Nat) (rr j:Int),vs=[.one (.sl B9 X),.one (.AS Bc 157 0 0 n),.one (.int .i64 rr),.one (.int .i64 j)]/\bl=[.arr 0 Bc o]/\(AW j k'/\k'<=X.length/\k'<=24/\0<k'/\n=o.length)/\(o=(runN (X.take k')).1.map nm/\AW rr (runN (X.take k')).2)/\k=24-k')
 refine⟨[],[0,3,4,5],[157],J0,⟨24,by rw[aG];exact .inl ⟨rfl,rfl,rfl⟩⟩,?_⟩;intro vs bl dp hj;rw[aG] at hj;rcases hj with⟨rfl,rfl,aI⟩ |⟨o,n,k',rr,j,rfl,rfl,⟨hj,dm,cT,bN,hn⟩,⟨ho,g⟩,aI⟩
 ·conv=>cbv
  obtain⟨k',aI⟩:=xN 0;obtain⟨Y,V,hV,f⟩:=Sp (X.take k');obtain⟨st,F⟩:∃s,s=runN (X.take k'):=⟨_,rfl⟩
  rw[<-F] at Y hV f;have ad:st.1=[]:=by rw[F,aI];rfl
  have bR:st.2=0:=by rw[F,aI];rfl
  rintro cC ⟨c7,f22⟩;conv=>cbv
  intro bg ah;conv=>cbv
  cases bg <;> conv=>cbv
  ·have bd:=BB ah;exact AD ⟨⟨rfl,.inr (.inl ⟨_,congrArg _ (by rw[hL,show X.take 24=[] by rw[List.take_eq_nil_iff];right;exact List.eq_nil_of_length_eq_zero (by omega)];rfl)⟩),trivial⟩,trivial⟩
  have bd:=BC ah;refine BG ?_;conv=>cbv
  refine .inr ?_;obtain⟨a,I⟩:=AP (l:=X) (i:=0) (by omega);refine⟨a,fun _=>⟨by omega,I⟩,?_⟩;try conv=>cbv
  intro bj ai;have b2:=ai.eq;have f33:=ai.lt;conv=>cbv
  intro aA S;have ag:=S.eq;have bu:=S.lt;conv=>cbv
  intro ab D;have a5:=D.eq;have b3:=D.lt;conv=>cbv
  intro R v;have K:=v.eq;have aE:=v.lt;conv=>cbv
  have ct:bj=((a.1.toNat:Nat):Int):=b2;have cu:aA=((a.2.1.toNat:Nat):Int):=ag;have cv:ab=((a.2.2.1.toNat:Nat):Int):=a5;have cw:R=((a.2.2.2.2.toNat:Nat):Int):=K;intro bk a6;conv=>cbv
  have a6:=wrap_i64 a6;have aj:bk=KS a.2.2.2.1:=a6;intro cE c9;conv=>cbv
  refine AI ?_;intro cF ak;conv=>cbv
  have ak:=wrap_i64 ak;intro bm ca;conv=>cbv
  refine AN ?_;obtain⟨aJ,a1⟩:=C3 (em [] (Re.ofRat (HP a)));have cx:=TX a.2.2.2.1;refine AB (r:= .agg [.sl (.sl AA) (([]:List LR)),.sl AA aJ]) M (Uh (q:=HP a) (by omega) (by omega) (by omega) (Y9 aj (by show bm=((a.2.2.2.2.toNat%8+1:Nat):Int);omega)) a1) ?_;try conv=>cbv
  refine AO ?_;conv=>cbv
  refine .inr ?_;refine AO ?_;conv=>cbv
  refine .inr ?_;obtain⟨_,b1,cl,aR,bc⟩:=M5 (st:=st) ⟨Y,V,hV,f⟩ a;have cm:b1.length<=8:=by have:=(M5 (st:=st) ⟨Y,V,hV,f⟩ a).1;omega
  have w:=RG (l:=[]) (x:=(DY st a).1) (fun n hn=>by simp at hn) bc (fun he=>by rw[M6 (.inl ad)];exact SY a);obtain⟨kk,aa⟩:∃z:Nu,z=Gd [] (DY st a).1:=⟨_,rfl⟩
  rw[<-aa] at w;have u:=TL w.red w.mem;have bO:kk=([],Re.ofRat (HP a)):=by rw[aa,jB,M6 (.inl ad)]
  have ck:(([]:List LR):List LR)=tw kk.1:=by rw[bO];rfl
  have cj:aJ=em kk.1 kk.2:=by rw[bO];exact a1
  obtain⟨B,H⟩:=G4 (tw (Gm kk).1);obtain⟨y,G⟩:=C3 (em (Gm kk).1 (Gm kk).2);refine AB (r:= .agg [.sl (.sl AA) B,.sl AA y]) M (Un w.red w.mem (by have:=w.len;omega) (by rw[u.1,u.2.2]) ck cj H (by rw[G,u.2.2])) ?_;try conv=>cbv
  refine⟨[(B,y)],fun _=>⟨rfl,by decide,rfl,⟨rfl,by first | exact t1 | exact t2 | exact t4 | simp[BV,Bm,cells],trivial⟩⟩,.inr ?_⟩;try conv=>cbv
  refine .inl ⟨[(B,y)],fun _=>⟨rfl,by show (1)*48<=140737488355328;(try simp only[List.length_take,List.length_drop]);omega⟩,?_⟩;intro aY bz;conv=>cbv
  intro bh c8;conv=>cbv
  refine AN ?_;refine⟨24-(k'+1),?_,?_⟩
  ·omega
  rw[aG];have J:X[k']? =some a:=by (first | exact I | (rw[<-I];congr 1 <;> omega))
  refine .inr ⟨_,_,k'+1,0,bh,rfl,rfl,⟨⟨by omega⟩,by have:=Il J;omega,by omega,by omega,bz⟩,?_,rfl⟩;rw[C4 (x:=a) J,Za,<-F];refine⟨by rw[I4,ad,List.nil_append,<-aa,H,G];rfl,?_⟩
  show AW 0 (DY st a).2
  rw[M6 (.inl ad),bR];exact Bb 0
 conv=>cbv
 have ej:=hj.eq;have aD:=g.eq;obtain⟨Y,V,hV,f⟩:=Sp (X.take k');obtain⟨st,F⟩:∃s,s=runN (X.take k'):=⟨_,rfl⟩
 rw[<-F] at Y hV f;rw[<-F] at ho g aD;have hlen:st.1.length=k':=by rw[F,runN,Zf,List.length_nil,List.length_take];omega
 have dn:o.length=k':=by rw[ho,List.length_map,hlen]
 have Q:st.1≠[]:=fun e=>by rw[e] at hlen;simp at hlen;omega
 have h:=Nat.le_trans hV Y;rintro cC ⟨c7,f22⟩;conv=>cbv
 intro bg ah;conv=>cbv
 cases bg <;> conv=>cbv
 ·have bd:=BB ah;exact AD ⟨⟨rfl,.inl ⟨_,rfl,by omega,congrArg _ (by have e:X.take 24=X.take k':=(by first | rw[show k'=24 by omega] | rw[List.take_of_length_le (by omega),List.take_of_length_le (by omega)]);rw[hL,hn,List.drop_zero,List.take_length,ho,F,e])⟩,trivial⟩,trivial⟩
 have bd:=BC ah;intro cD bA;conv=>cbv
 cases cD <;> conv=>cbv
 ·have cy:=BB bA;exact AD ⟨⟨rfl,.inl ⟨_,rfl,by omega,congrArg _ (by have e:X.take 24=X.take k':=(by first | rw[show k'=24 by omega] | rw[List.take_of_length_le (by omega),List.take_of_length_le (by omega)]);rw[hL,hn,List.drop_zero,List.take_length,ho,F,e])⟩,trivial⟩,trivial⟩
 have cy:=BC bA;refine .inr ?_;obtain⟨a,I⟩:=AP (l:=X) (i:=k') (by omega);refine⟨a,fun _=>⟨by omega,by rw[show (j).toNat=k' by omega];exact I⟩,?_⟩;try conv=>cbv
 intro bj ai;have b2:=ai.eq;have f33:=ai.lt;conv=>cbv
 intro aA S;have ag:=S.eq;have bu:=S.lt;conv=>cbv
 intro ab D;have a5:=D.eq;have b3:=D.lt;conv=>cbv
 intro R v;have K:=v.eq;have aE:=v.lt;conv=>cbv
 have ct:bj=((a.1.toNat:Nat):Int):=b2;have cu:aA=((a.2.1.toNat:Nat):Int):=ag;have cv:ab=((a.2.2.1.toNat:Nat):Int):=a5;have cw:R=((a.2.2.2.2.toNat:Nat):Int):=K;intro bk a6;conv=>cbv
 have a6:=wrap_i64 a6;have aj:bk=KS a.2.2.2.1:=a6;intro cE c9;conv=>cbv
 refine AI ?_;intro cF ak;conv=>cbv
 have ak:=wrap_i64 ak;intro bm ca;conv=>cbv
 refine AN ?_;obtain⟨aJ,a1⟩:=C3 (em [] (Re.ofRat (HP a)));have cx:=TX a.2.2.2.1;refine AB (r:= .agg [.sl (.sl AA) (([]:List LR)),.sl AA aJ]) M (Uh (q:=HP a) (by omega) (by omega) (by omega) (Y9 aj (by show bm=((a.2.2.2.2.toNat%8+1:Nat):Int);omega)) a1) ?_;try conv=>cbv
 intro dq cb;have dd:=cb.eq;conv=>cbv
 intro cG bB;conv=>cbv
 cases cG <;> conv=>cbv
 ·have c0:=Cg bB;exact absurd c0 (by omega)
 have c0:=Ch bB;intro dr dj;conv=>cbv
 refine AI ?_;intro cH bC;conv=>cbv
 obtain⟨c6,p⟩:=xK fun vs bl=>∃(T7:List LR) (A7:LR) (r7:Int),vs=[.one (.sl B9 X),.one (.AS Bc 157 0 0 n),.one (.int .i64 r7),.one (.int .i64 j),.one (.Ag 7 0 0)]/\bl=[.var 0 [.sl (.sl AA) T7,.sl AA A7],.arr 0 Bc o]/\(T7=tw (DY st a).1.1/\A7=em (DY st a).1.1 (DY st a).1.2)/\AW r7 (DY st a).2
 refine .inl ⟨[0,3,4,5,7],[7,157],c6,?_,?_⟩
 ·intro vs bl hj;rw[p] at hj;obtain⟨T7,A7,r7,rfl,rfl,⟨bJ,bH⟩,bP⟩:=hj;conv=>cbv
  have di:=bP.eq;intro cW bw;have cQ:=bw.eq;conv=>cbv
  intro c4 aQ;conv=>cbv
  cases c4 <;> conv=>cbv
  ·have aX:=Cg aQ;exact absurd aX (by omega)
  have aX:=Ch aQ;obtain⟨bt,a8⟩:=Er (Na (DY st a).1.1.reverse (co (DY st a).1.1 (DY st a).1.2));refine AB M (dt bJ bH a8) ?_;conv=>cbv
  obtain⟨bs,a7⟩:=xK fun vs bl=>∃(T8:List LR) (A8:LR),vs=[.one (.sl B9 X),.one (.AS Bc 157 0 0 n),.one (.int .i64 r7),.one (.int .i64 j),.one (.Ag 7 0 0)]/\bl=[.var 0 [.sl (.sl AA) T8,.sl AA A8],.arr 0 Bc o]/\(T8=tw (Gd st.1 (DY st a).1).1/\A8=em (Gd st.1 (DY st a).1).1 (Gd st.1 (DY st a).1).2)
  refine .inl ⟨[0,3,4,5,7],[7,157],bs,?_,?_⟩
  ·intro vs bl hj;rw[a7] at hj;obtain⟨T8,A8,rfl,rfl,bK,bI⟩:=hj;conv=>cbv
   obtain⟨_,b1,cl,aR,bc⟩:=M5 (st:=st) ⟨Y,V,hV,f⟩ a;have cm:b1.length<=8:=by have:=(M5 (st:=st) ⟨Y,V,hV,f⟩ a).1;omega
   have w:=RG (l:=st.1) (x:=(DY st a).1) aR bc (fun he=>by rw[M6 (.inl he)];exact SY a);obtain⟨kk,aa⟩:∃z:Nu,z=Gd st.1 (DY st a).1:=⟨_,rfl⟩
   rw[<-aa] at w;have u:=TL w.red w.mem;rw[<-aa] at bK bI;obtain⟨B,H⟩:=G4 (tw (Gm kk).1);obtain⟨y,G⟩:=C3 (em (Gm kk).1 (Gm kk).2);refine AB (r:= .agg [.sl (.sl AA) B,.sl AA y]) M (Un w.red w.mem (by have:=w.len;omega) (by rw[u.1,u.2.2]) bK bI H (by rw[G,u.2.2])) ?_;try conv=>cbv
   refine⟨[(B,y)],fun _=>⟨rfl,by decide,rfl,⟨rfl,by first | exact t1 | exact t2 | exact t4 | simp[BV,Bm,cells],trivial⟩⟩,.inr ?_⟩;try conv=>cbv
   refine .inl ⟨[(B,y)],fun _=>⟨rfl,by (first | rfl | omega),rfl,by show (o.length+1)*48<=140737488355328;(try simp only[List.length_take,List.length_drop]);omega⟩,?_⟩;intro (az:List (el Bc)) aY aB;have b8:az=(o:List (el Bc))++([(B,y)]:List (el Bc)):=aB.1;have ba:aY=List.length (α:=(el Bc)) az:=aB.2;conv=>cbv
   intro bh c8;conv=>cbv
   refine AN ?_;refine⟨24-(k'+1),?_,?_⟩
   ·omega
   rw[aG];have J:X[k']? =some a:=by (first | exact I | (rw[<-I];congr 1 <;> omega))
   refine .inr ⟨az,_,k'+1,r7,bh,rfl,rfl,⟨⟨by omega⟩,by have:=Il J;omega,by omega,by omega,ba⟩,?_,rfl⟩;rw[C4 (x:=a) J,Za,<-F];exact⟨by rw[b8,ho,I4,List.map_append,<-aa,H,G];rfl,bP⟩
  cases bt <;> conv=>cbv
  ·rw[a7];refine⟨_,_,rfl,rfl,?_⟩ <;> rw[jC (fun hl=>Bool.false_ne_true (a8.2 (Xs.2 hl)))]
   exact⟨bJ,bH⟩
  intro cX bx;have cR:=bx.eq;conv=>cbv
  intro cY cS;conv=>cbv
  refine AN ?_;refine AI ?_;intro bU cn;conv=>cbv
  obtain⟨c5,ay⟩:=AP (l:=o) (i:=bU) (by omega);refine⟨c5,fun _=>ay,?_⟩;try conv=>cbv
  rw[a7];obtain⟨u3,y3,bS,bT,cr⟩:=Im ho ay;refine⟨_,_,rfl,rfl,?_⟩ <;> rw[jA Q (Xs.1 (a8.1 rfl)),jF cr (by omega)]
  exact⟨bS,bT⟩
 cases cH <;> conv=>cbv
 ·have cz:=C8 bC;rw[p];refine⟨_,_,_,rfl,rfl,?_,?_⟩ <;> rw[M6 (.inr (by omega))]
  ·exact⟨rfl,a1⟩
  exact g
 have cz:=DA bC;intro cI bD;conv=>cbv
 have bD:=wrap_i64 bD;intro cJ cc;have de:=cc.eq;conv=>cbv
 intro cK cd;conv=>cbv
 refine AI ?_;obtain⟨d58,bL,df,cp⟩:∃d:Nat,d=a.2.1.toNat%k'/\cK=d/\d<k':=⟨_,rfl,by rw[cd,show cI=((a.2.1.toNat:Nat):Int) by omega,show cJ=(k':Int) by omega];exact (Int.natCast_emod _ _).symm,Nat.mod_lt _ bN⟩
 refine AI ?_;intro bV cU;conv=>cbv
 obtain⟨aC,aV⟩:=AP (l:=o) (i:=bV) (by omega);refine⟨aC,fun _=>aV,?_⟩;try conv=>cbv
 intro cL bE;conv=>cbv
 have bE:=wrap_i64 bE;intro cM cf;have dg:=cf.eq;conv=>cbv
 intro cN cg;conv=>cbv
 refine AI ?_;obtain⟨d67,bM,dh,cq⟩:∃d:Nat,d=a.2.2.1.toNat%k'/\cN=d/\d<k':=⟨_,rfl,by rw[cg,show cL=((a.2.2.1.toNat:Nat):Int) by omega,show cM=(k':Int) by omega];exact (Int.natCast_emod _ _).symm,Nat.mod_lt _ bN⟩
 refine AI ?_;intro bW cV;conv=>cbv
 obtain⟨br,aW⟩:=AP (l:=o) (i:=bW) (by omega);refine⟨br,fun _=>aW,?_⟩;try conv=>cbv
 refine g2 rfl ?_;obtain⟨u1,y1,m,t,O⟩:=Im ho aV;obtain⟨u2,y2,ae,af,P⟩:=Im ho aW;have N:=List.mem_of_getElem? O;have ar:=List.mem_of_getElem? P;have U:bV=a.2.1.toNat%st.1.length:=by rw[hlen,<-bL];omega
 have W:bW=a.2.2.1.toNat%st.1.length:=by rw[hlen,<-bM];omega
 have aq:=((f _ N).el h).mono (by decide:512<=Rm);have b5:=((f _ ar).el h).mono (by decide:512<=Rm);intro ds dk;conv=>cbv
 refine AI ?_;refine .inr ?_;intro cP bG;conv=>cbv
 refine .inr ?_;cases cP <;> conv=>cbv
 ·have cB:=Ao bG;intro c1 aN;conv=>cbv
  refine .inr ?_;cases c1 <;> conv=>cbv
  ·have bX:=Ao aN;intro c2 aO;conv=>cbv
   refine .inr ?_;cases c2 <;> conv=>cbv
   ·have bY:=Ao aO;intro c3 aP;conv=>cbv
    refine .inr ?_;cases c3 <;> conv=>cbv
    ·have bZ:=Ao aP;obtain⟨du,bQ⟩:=xI (BT y1);refine AB M (Pz (J6 h f (Nat.le_refl Rm)) (GP h f N) m t aq bQ) ?_;conv=>cbv
     intro cO bF;conv=>cbv
     refine .inr ?_;cases cO <;> conv=>cbv
     ·have cA:=BB bF;intro bn al;conv=>cbv
      refine .inr ?_;cases bn <;> conv=>cbv
      ·have bf:=BB al;rw[p];have b:=Jf (o:=a) Q (by omega:a.1.toNat%6≠0);rw[get_eq O U,get_eq P W] at b;rw[show a.1.toNat%6=5 by omega,YZ _ _ (by omega)] at b;refine⟨_,_,_,rfl,rfl,?_,?_⟩ <;> rw[b]
       ·exact⟨m,t⟩
       exact g
      have bf:=BC al;intro bo ch;conv=>cbv
      refine AN ?_;have an:=(f _ N).abs;have ao:Ds y1=y1:=by unfold Ds;rw[if_neg (mu (by omega))]
      obtain⟨hG,b6,b7⟩:=ZS an (by omega) (Kg _) (Nat.le_refl Rm);obtain⟨bq,a2⟩:=G4 (tw (BK u1 (Ds y1)));obtain⟨bp,Z⟩:=C3 (em (BK u1 (Ds y1)) (Re.sqrt (Ds y1)));refine AB (r:= .AF [(true,[.sl (.sl AA) bq,.sl AA bp]),(false,[.int .i64 0])]) M (P0 hG b6 m (by show _=em u1 (Ds y1);rw[ao];exact t) ((an.el h).mono (by decide)) b7 (Kg _) a2 Z) ?_;try conv=>cbv
      refine AB M Kd ?_;conv=>cbv
      rw[p];have b:=Jf (o:=a) Q (by omega:a.1.toNat%6≠0);rw[get_eq O U,get_eq P W] at b;rw[show a.1.toNat%6=5 by omega,Ye _ _ (by omega)] at b;refine⟨_,_,_,rfl,rfl,?_,?_⟩ <;> rw[b]
      ·exact⟨a2,Z⟩
      exact⟨by show bo=((st.2+1:Nat):Int);omega⟩
     have cA:=BC bF;obtain⟨dv,aS⟩:=C3 (em u1 (-y1));refine AB M (Py (J6 h f (Nat.le_refl Rm)) (GP h f N) m t aq aS) ?_;conv=>cbv
     intro bn al;conv=>cbv
     refine .inr ?_;cases bn <;> conv=>cbv
     ·have bf:=BB al;rw[p];have b:=Jf (o:=a) Q (by omega:a.1.toNat%6≠0);rw[get_eq O U,get_eq P W] at b;rw[show a.1.toNat%6=5 by omega,YZ _ _ (by omega)] at b;refine⟨_,_,_,rfl,rfl,?_,?_⟩ <;> rw[b]
      ·exact⟨m,t⟩
      exact g
     have bf:=BC al;intro bo ch;conv=>cbv
     refine AN ?_;have an:=(f _ N).abs;have ao:Ds y1= -y1:=by unfold Ds;rw[if_pos (mv (by omega))]
     obtain⟨hG,b6,b7⟩:=ZS an (by omega) (Kg _) (Nat.le_refl Rm);obtain⟨bq,a2⟩:=G4 (tw (BK u1 (Ds y1)));obtain⟨bp,Z⟩:=C3 (em (BK u1 (Ds y1)) (Re.sqrt (Ds y1)));refine AB (r:= .AF [(true,[.sl (.sl AA) bq,.sl AA bp]),(false,[.int .i64 0])]) M (P0 hG b6 m (by show _=em u1 (Ds y1);rw[ao];exact aS) ((an.el h).mono (by decide)) b7 (Kg _) a2 Z) ?_;try conv=>cbv
     refine AB M Kd ?_;conv=>cbv
     rw[p];have b:=Jf (o:=a) Q (by omega:a.1.toNat%6≠0);rw[get_eq O U,get_eq P W] at b;rw[show a.1.toNat%6=5 by omega,Ye _ _ (by omega)] at b;refine⟨_,_,_,rfl,rfl,?_,?_⟩ <;> rw[b]
     ·exact⟨a2,Z⟩
     exact⟨by show bo=((st.2+1:Nat):Int);omega⟩
    have bZ:=BA aP;obtain⟨aL,aK,b0,aZ,aM,b4,b9,aH,aF,bb⟩:=gQ h f N ar (r:=st.2);refine .inl ⟨[.agg [.sl (.sl AA) aC.1,.sl AA aC.2],.agg [.sl (.sl AA) br.1,.sl AA br.2]],.AF [(true,[.sl (.sl AA) aL,.sl AA aK]),(false,[.int .i64 aM])],fun _=>⟨t2,t2,trivial⟩,fun _=>HT M (by rw[m,t,ae,af];exact b4),?_⟩;try conv=>cbv
    refine .inl ⟨[.agg [.sl (.sl AA) aL,.sl AA aK],.one (.int .i64 aM),.agg [.sl (.sl AA) aC.1,.sl AA aC.2]],.agg [.sl (.sl AA) b0,.sl AA aZ],fun _=>⟨t2,rfl,t2,trivial⟩,fun _=>HT M (by rw[m,t];exact b9),?_⟩;try conv=>cbv
    rw[p];have b:=Jf (o:=a) Q (by omega:a.1.toNat%6≠0);rw[get_eq O U,get_eq P W] at b;rw[show a.1.toNat%6=4 by omega] at b;refine⟨_,_,_,rfl,rfl,?_,?_⟩ <;> rw[b]
    ·exact⟨aH,aF⟩
    rw[bb];exact g
   have bY:=BA aO;obtain⟨dc,ax⟩:=G4 (tw (Bf u1 u2));obtain⟨da,av⟩:=C3 (em (Bf u1 u2) (y1*y2));refine AB M (Px (J6 h f (Nat.le_refl Rm)) (GP h f N) (GP h f ar) m ae t af aq b5 ax av) ?_;conv=>cbv
   refine AB M Kd ?_;conv=>cbv
   rw[p];have b:=Jf (o:=a) Q (by omega:a.1.toNat%6≠0);rw[get_eq O U,get_eq P W] at b;rw[show a.1.toNat%6=3 by omega,kz] at b;refine⟨_,_,_,rfl,rfl,?_,?_⟩ <;> rw[b]
   ·exact⟨ax,av⟩
   exact g
  have bX:=BA aN;obtain⟨db,aw⟩:=G4 (tw (Bf u1 u2));obtain⟨cZ,au⟩:=C3 (em (Bf u1 u2) (y1-y2));refine AB M (P6 (J6 h f (Nat.le_refl Rm)) (GP h f N) (GP h f ar) m ae t af aq b5 aw au) ?_;conv=>cbv
  refine AB M Kd ?_;conv=>cbv
  rw[p];have b:=Jf (o:=a) Q (by omega:a.1.toNat%6≠0);rw[get_eq O U,get_eq P W] at b;rw[show a.1.toNat%6=2 by omega,lA] at b;refine⟨_,_,_,rfl,rfl,?_,?_⟩ <;> rw[b]
  ·exact⟨aw,au⟩
  exact g
 have cB:=BA bG;obtain⟨dx,aU⟩:=G4 (tw (Bf u1 u2));obtain⟨dw,aT⟩:=C3 (em (Bf u1 u2) (y1+y2));refine AB M (Pv (J6 h f (Nat.le_refl Rm)) (GP h f N) (GP h f ar) m ae t af aq b5 aU aT) ?_;conv=>cbv
 refine AB M Kd ?_;conv=>cbv
 rw[p];have b:=Jf (o:=a) Q (by omega:a.1.toNat%6≠0);rw[get_eq O U,get_eq P W] at b;rw[show a.1.toNat%6=1 by omega,ku] at b;refine⟨_,_,_,rfl,rfl,?_,?_⟩ <;> rw[b]
 ·exact⟨aU,aT⟩
 exact g
end Go.Abs
namespace Go.Abs
def qn (k:Nat):Re:=Re.ofRat ((k:Nat):Rat)
noncomputable def rtN (k:Nat):Nu:=(BK [] (qn k),Re.sqrt (qn k))
noncomputable def o9 (k:Nat):Nu:=([],qn k)
theorem iy (u:List (List Rat)):Ev [] u=u:=by
 unfold Ev
 split
 ·rename_i h;exact (List.suffix_nil.1 h).symm
 rw[if_pos (List.nil_suffix)]
theorem iw (u v:List (List Rat)):Bf u v=Ev u v:=by
 show Ev (Ev [] u) v=_
 rw[iy]
noncomputable def gm:Re:=qn 5+qn 2*Re.sqrt (qn 6)
def PA (u:List (List Rat)):Prop:=u<:+BK [[6]] gm\/u<:+BK [] (qn 2)\/u<:+BK [] (qn 3)
end Go.Abs
namespace Go.Abs
open Go.RowKit
theorem pG (X:List (el B9)):∃V:List Re,V.length<=3/\∀n∈(runN X).1,CK V n:=by
 obtain⟨h3,V,hV,a⟩:=Sp X;exact⟨V,Nat.le_trans hV h3,a⟩
instance (q:Rat):Decidable (C5 q):=inferInstanceAs (Decidable (_/\_))
theorem nC {q:Rat} (h:C5 q):CL q:=⟨by have:=Oe.2 h.1;omega,by have:=Oe.2 h.2;omega⟩
end Go.Abs
