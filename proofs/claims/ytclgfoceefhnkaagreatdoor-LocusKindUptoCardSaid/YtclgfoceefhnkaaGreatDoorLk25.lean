/- Part 26 of a proof. Conditions: each theorem's own. -/
import Derived.Test.YtclgfoceefhnkaaGreatDoorLk24
set_option linter.all false
set_option maxHeartbeats 80000000
set_option maxRecDepth 20000
open Go.Proofs
namespace Go.Abs
open Go.RowKit
variable {A A1 A2 C:LR} {L:List (el An)} {T T1 T2 o:List LR} {c:Bool} {i' k:Nat} {ns:List Nu} {q:Rat} {s xs:List Rat} {ts:List (List Rat)}
theorem O8 {i:Nat} (h:xs[k]? =some q):CW i k (xs.drop k)=((Ek k i&&q !=0)||CW i (k+1) (xs.drop (k+1))):=by
 have a:=Dm h;rw[List.drop_eq_getElem_cons a,CW];rw[List.getElem?_eq_getElem a] at h;rw[Option.some.inj h]
theorem dK {i:Nat} (h:k<xs.length) (a:Ek k i=false):CW i k (xs.drop k)=CW i (k+1) (xs.drop (k+1)):=by
 obtain⟨q,b⟩:=AL h;rw[O8 b,a];rfl
theorem XL {i:Nat} (h:xs[k]? =some q):BS i 0 (xs.take (k+1))=BS i 0 (xs.take k)++(if Ek k i=true then [] else [q]):=by
 have a:=Dm h;rw[Ck h,ND,Nat.zero_add,List.length_take,Nat.min_eq_left (by omega),BS,BS]
theorem XI (i:Nat):∀(k:Nat) (l:List Rat),(BS i k l).length<=l.length
 | _,[]=>Nat.le_refl _
 | k,x::l=>by
  rw[BS];have:=XI i (k+1) l
  split
  ·rw[List.length_cons];omega
  rw[List.length_cons,List.length_cons];omega
theorem SB {i:Nat} {b a:Int} (d:b=((k/2^i:Nat):Int)) (f:a=b%2):(Ek k i=true↔a=1)/\(Ek k i=false↔a=0):=by
 unfold Ek
 constructor
 ·rw[beq_iff_eq];omega
 rw[beq_eq_false_iff_ne];omega
theorem MM {n:Nat}:(AS n).length<=2↔n<18446744073709551616:=by
 constructor
 ·intro h;have a:=CI (AS n);rw[Aw] at a;exact Nat.lt_of_lt_of_le a (Nat.pow_le_pow_right (by decide) (by omega:32*(AS n).length<=64))
 intro h;exact Ep (k:=2) h
theorem Hj {b1 b2:Bool} {l1 l2:List UInt32} (h:BE q b1 l1 b2 l2):CY q↔l1.length<=2/\l2.length<=2:=by
 have a:=h.num.BD;have b:=h.den.BD;rw[a,b,MM,MM];unfold CY;rw[Int.natAbs_natCast]
theorem fG (h:DO q=0):q=0:=by
 unfold DO B7 at h
 split at h
 ·omega
 split at h
 ·exact Rat.num_eq_zero.1 (by assumption)
 omega
theorem Wx {p:Rat->Prop} (h:∀x∈xs.take k,p x) (d:xs[k]? =some q) (b:p q):∀x∈xs.take (k+1),p x:=by
 intro x a;rw[Ck d] at a;rcases List.mem_append.1 a with a | a
 ·exact h x a
 rw[List.mem_singleton.1 a];exact b
theorem RM {i:Int} (N:A=Aj xs) (U:AR i i') (h6:i'<=60) (O:c=CW i' 0 xs):CF 190 [.one (.sl AA A),.one (.int .i64 i)] (.one (.bool c)):=by
 have ei:=U.eq;have R:A.length=xs.length:=by rw[N,List.length_map]
 refine AM Tryz.func190 fun E S=>?_
 conv=>cbv
 refine .inr ?_;obtain⟨P,a⟩:=xJ fun vs Q k=>∃(k':Nat) (j:Int),vs=[.one (.sl AA A),.one (.int .i64 i),.one (.int .i64 j)]/\(AR j k'/\k'<=xs.length)/\CW i' 0 xs=CW i' k' (xs.drop k')/\k=xs.length-k'
 refine⟨[],[0,1,5],[],P,⟨xs.length-0,by rw[a];exact⟨0,0,rfl,⟨Ak 0,by omega⟩,by rw[List.drop_zero],rfl⟩⟩,?_⟩;intro vs Q Z y;rw[a] at y;obtain⟨k',j,rfl,⟨y,W⟩,hinv,X⟩:=y;conv=>cbv
 have ej:=y.eq;rintro n8 ⟨e8,f8⟩;conv=>cbv
 intro n9 M;conv=>cbv
 cases n9 <;> conv=>cbv
 ·have Y:=AY M;exact AD ⟨⟨rfl,congrArg _ (by rw[O,hinv,show k'=xs.length by omega,List.drop_length];rfl),trivial⟩,trivial⟩
 have Y:=AZ M;refine .inr ?_;intro H D;conv=>cbv
 refine AH ?_;obtain⟨d14,t,z⟩:∃d:Nat,d=k'/2^i'/\H=d:=⟨_,rfl,shr_var (p:=k') (e:=i') D (by omega) (by omega) (by show i'<=64;omega)⟩
 intro a1 F;conv=>cbv
 refine AH ?_;have b:=SB (k:=k') (i:=i') (by rw[z,t]) F;intro I n;conv=>cbv
 cases I <;> conv=>cbv
 ·have v:=AN n;intro m B;conv=>cbv
  refine AI ?_;refine⟨xs.length-(k'+1),?_,?_⟩
  ·omega
  rw[a];refine⟨k'+1,m,rfl,⟨⟨by omega⟩,by omega⟩,?_,rfl⟩;rw[hinv,dK (by omega) (b.2.2 (by omega))]
 have v:=AO n;obtain⟨K,h⟩:=AL (l:=A) (i:=k') (by omega);refine⟨K,fun _=>⟨by omega,by rw[show (j).toNat=k' by omega];exact h⟩,?_⟩;try conv=>cbv
 obtain⟨x,u,f,_⟩:=H6 N h;obtain⟨a2,g⟩:=xI (DO x);refine AB S (NW u g) ?_;conv=>cbv
 intro J r;conv=>cbv
 cases J <;> conv=>cbv
 ·have w:=BY r;intro m B;conv=>cbv
  refine AI ?_;refine⟨xs.length-(k'+1),?_,?_⟩
  ·omega
  rw[a];refine⟨k'+1,m,rfl,⟨⟨by omega⟩,by omega⟩,?_,rfl⟩;have G:x=0:=fG (by omega);rw[hinv,O8 f,G];simp
 have w:=BZ r;exact AD ⟨⟨rfl,congrArg _ (by rw[O,hinv,O8 f,b.1.2 v,bne_iff_ne.2 (fun e=>w (by rw[g,e];rfl))];rfl),trivial⟩,trivial⟩
theorem RV {i:Int} (R:A=Aj xs) (hi:AR i i') (h6:i'<=60) (hl:xs.length<=1000000) (Z:C=Aj (BS i' 0 xs)):CF 191 [.one (.sl AA A),.one (.int .i64 i)] (.one (.sl AA C)):=by
 have ei:=hi.eq;have Y:A.length=xs.length:=by rw[R,List.length_map]
 refine AM Tryz.func191 fun E hE=>?_
 conv=>cbv
 refine .inr ?_;obtain⟨X,b⟩:=xJ fun vs Q k=>∃(o:LR) (n k':Nat) (j:Int),vs=[.one (.sl AA A),.one (.int .i64 i),.one (.AQ AA 5 0 0 n),.one (.int .i64 j)]/\Q=[.arr 0 AA o]/\(AR j k'/\k'<=xs.length/\n=o.length)/\o=Aj (BS i' 0 (xs.take k'))/\k=xs.length-k'
 refine⟨[(5,AA,true)],[0,1,5,6],[5],X,⟨xs.length-0,by rw[b];exact⟨[],0,0,0,rfl,rfl,⟨Ak 0,by omega,rfl⟩,rfl,rfl⟩⟩,?_⟩;intro vs Q a6 B;rw[b] at B;obtain⟨o,n,k',j,rfl,rfl,⟨B,a1,S⟩,hinv,a2⟩:=B;conv=>cbv
 have ej:=B.eq;have a5:o.length<=xs.length:=by rw[hinv,List.length_map];have:=XI i' 0 (xs.take k');rw[List.length_take] at this;omega
 rintro n9 ⟨e9,f9⟩;conv=>cbv
 intro M t;conv=>cbv
 cases M <;> conv=>cbv
 ·have K:=AY t;exact AD ⟨⟨rfl,.inl ⟨_,rfl,by omega,congrArg _ (by rw[Z,S,List.drop_zero,List.take_length,hinv,show k'=xs.length by omega,List.take_length])⟩,trivial⟩,trivial⟩
 have K:=AZ t;refine .inr ?_;intro N G;conv=>cbv
 refine AH ?_;obtain⟨d15,v,D⟩:∃d:Nat,d=k'/2^i'/\N=d:=⟨_,rfl,shr_var (p:=k') (e:=i') G (by omega) (by omega) (by show i'<=64;omega)⟩
 intro a7 H;conv=>cbv
 refine AH ?_;have f:=SB (k:=k') (i:=i') (by rw[D,v]) H;intro O u;conv=>cbv
 refine .inr ?_;cases O <;> conv=>cbv
 ·have B0:=AN u;intro r F;conv=>cbv
  refine AI ?_;refine⟨xs.length-(k'+1),?_,?_⟩
  ·omega
  rw[b];obtain⟨qq,I⟩:=AL (l:=xs) (i:=k') (by omega);exact⟨o,n,k'+1,r,rfl,rfl,⟨⟨by omega⟩,by omega,S⟩,by rw[XL I,if_pos (f.1.2 (by omega)),List.append_nil];exact hinv,rfl⟩
 have B0:=AO u
 obtain⟨z,W,y,J⟩:∃q,BE q (rp q).1.1 (rp q).1.2 (rp q).2.1 (rp q).2.2/\xs[k']? =some q/\A[k']? =some (rp q):=by
  obtain⟨q,U⟩:=AL (l:=xs) (i:=k') (by omega);exact⟨q,Fa q,U,by rw[R,List.getElem?_map,U];rfl⟩
 obtain⟨a,g⟩:=AL (l:=A) (i:=k') (by omega);refine⟨a,fun _=>⟨by omega,by rw[show (j).toNat=k' by omega];exact g⟩,?_⟩;try conv=>cbv
 refine⟨[((a.1.1,a.1.2),(a.2.1,a.2.2))],fun _=>⟨rfl,by decide,rfl,⟨rfl,by first | exact t1 | exact t2 | exact t4 | simp[Aq,BG,cells],trivial⟩⟩,.inr ?_⟩;try conv=>cbv
 refine .inl ⟨[((a.1.1,a.1.2),(a.2.1,a.2.2))],fun _=>⟨rfl,by (first | rfl | omega),rfl,by show (o.length+1)*64<=140737488355328;(try simp only[List.length_take,List.length_drop]);omega⟩,?_⟩;intro (m:LR) P h;have w:m=(o:LR)++([((a.1.1,a.1.2),(a.2.1,a.2.2))]:LR):=h.1;have x:P=List.length (α:=(el AA)) m:=h.2;conv=>cbv
 intro r F;conv=>cbv
 refine AI ?_;refine⟨xs.length-(k'+1),?_,?_⟩
 ·omega
 rw[b];have ex:a=rp z:=by have:=g.symm.trans J;exact Option.some.inj this
 refine⟨m,_,k'+1,r,rfl,rfl,⟨⟨by omega⟩,by omega,x⟩,?_,rfl⟩;rw[XL y,if_neg (by rw[f.2.2 (by omega)];decide)];rw[w,hinv];show _=List.map rp _;rw[List.map_append];show _=Aj _++[rp z];rw[<-ex]
theorem IZ:CF 87 [.agg (Ay T1 A1),.one (.int .i64 0),.agg (Ay T2 A2)] (.agg (Ay T1 A1)):=by
 refine AM Tryz.func87 fun E a=>?_
 conv=>cbv
 refine BK ?_;conv=>cbv
 exact AD ⟨t3,trivial⟩
theorem Y1:CF 87 [.agg (Ay T1 A1),.one (.int .i64 6),.agg (Ay T2 A2)] (.agg (Ay T2 A2)):=by
 refine AM Tryz.func87 fun E a=>?_
 conv=>cbv
 refine Cc ?_;conv=>cbv
 exact AD ⟨t3,trivial⟩
theorem gS (h:∀x∈ts.take k,∀q∈x,CY q) (d:ts[k]? =some s) (b:∀q∈s,CY q):∀x∈ts.take (k+1),∀q∈x,CY q:=by
 intro x a;rw[Ck d] at a;rcases List.mem_append.1 a with a | a
 ·exact h x a
 rw[List.mem_singleton.1 a];exact b
def LB (ts:List (List Rat)) (xs:List Rat):Prop:=(∃q∈xs,¬CY q)\/∃s∈ts,∃q∈s,¬CY q
theorem Y0 (hT:T=ts.map Aj) (hA:A=Aj xs) (hc:c=true↔LB ts xs):CF 90 [.agg (Ay T A)] (.one (.bool c)):=by
 have aN:A.length=xs.length:=by rw[hA,List.length_map]
 have aO:T.length=ts.length:=by rw[hT,List.length_map]
 refine AM Tryz.func90 fun E hE=>?_
 conv=>cbv
 refine .inr ?_;obtain⟨J0,J⟩:=xJ fun vs v k=>∃(k':Nat) (j:Int),vs=[.one (.Ae 1 0 0),.one (.bool false),.one (.int .i64 j)]/\v=[.var 0 [.sl (.sl AA) T,.sl AA A]]/\(AR j k'/\k'<=xs.length)/\(∀q∈xs.take k',CY q)/\k=xs.length-k'
 refine⟨[],[1,2,3],[1],J0,⟨xs.length-0,by rw[J];exact⟨0,0,rfl,rfl,⟨Ak 0,by omega⟩,by simp,rfl⟩⟩,?_⟩;intro vs v aW r;rw[J] at r;obtain⟨k',j,rfl,rfl,⟨r,aP⟩,hinv,aQ⟩:=r;conv=>cbv
 have ej:=r.eq;rintro aZ ⟨aD,f10⟩;conv=>cbv
 intro ai W;conv=>cbv
 cases ai <;> conv=>cbv
 ·have aa:=AY W;refine .inr ?_;obtain⟨J1,K⟩:=xJ fun vs v k=>∃(m':Nat) (m:Int),vs=[.one (.Ae 1 0 0),.one (.bool false),.one (.int .i64 m)]/\v=[.var 0 [.sl (.sl AA) T,.sl AA A]]/\(AR m m'/\m'<=ts.length)/\(∀s∈ts.take m',∀q∈s,CY q)/\k=ts.length-m'
  refine⟨[],[1,2,4],[1],J1,⟨ts.length-0,by rw[K];exact⟨0,0,rfl,rfl,⟨Ak 0,by omega⟩,by simp,rfl⟩⟩,?_⟩;intro vs v aX r;rw[K] at r;obtain⟨m',m,rfl,rfl,⟨hm,aT⟩,w,aR⟩:=r;conv=>cbv
  have em:=hm.eq;rintro b1 ⟨aG,f37⟩;conv=>cbv
  intro ao Z;conv=>cbv
  cases ao <;> conv=>cbv
  ·have ae:=AY Z;exact AD ⟨⟨rfl,congrArg _ (by rw[Bool.eq_false_iff];intro h;rcases hc.1 h with⟨q,hq,hn⟩ |⟨s,hs,q,hq,hn⟩;exact hn (hinv q (by rw[List.take_of_length_le (by omega)];exact hq));exact hn (w s (by rw[List.take_of_length_le (by omega)];exact hs) q hq)),trivial⟩,trivial⟩
  have ae:=AZ Z;refine .inr ?_
  obtain⟨s2,x,P⟩:∃s,T[m']? =some (Aj s)/\ts[m']? =some s:=by
   obtain⟨s,hs⟩:=AL (l:=ts) (i:=m') (by omega);exact⟨s,by rw[hT,List.getElem?_map,hs];rfl,hs⟩
  refine .inr ?_;obtain⟨J2,M⟩:=xJ fun vs v k=>∃(t:Nat) (p:Int),vs=[.one (.Ae 1 0 0),.one (.bool false),.one (.int .i64 m),.one (.int .i64 p)]/\v=[.var 0 [.sl (.sl AA) T,.sl AA A]]/\(AR p t/\t<=s2.length)/\(∀q∈s2.take t,CY q)/\k=s2.length-t
  refine⟨[],[1,2,4,5],[1],J2,⟨s2.length-0,by rw[M];exact⟨0,0,rfl,rfl,⟨Ak 0,by omega⟩,by simp,rfl⟩⟩,?_⟩;intro vs v aY r;rw[M] at r;obtain⟨t,p,rfl,rfl,⟨hp,aU⟩,d,aS⟩:=r;conv=>cbv
  have ep:=hp.eq;obtain⟨R,z⟩:=AL (l:=T) (i:=m') (by omega);refine⟨R,fun _=>⟨by omega,by rw[show (m).toNat=m' by omega];exact z⟩,?_⟩;try conv=>cbv
  have a6:R=Aj s2:=Option.some.inj (z.symm.trans x);have aV:R.length=s2.length:=by rw[a6,List.length_map]
  rintro b3 ⟨aH,f47⟩;conv=>cbv
  intro aq a1;conv=>cbv
  cases aq <;> conv=>cbv
  ·have af:=AY a1;intro b2 aL;conv=>cbv
   refine AI ?_;refine⟨ts.length-(m'+1),?_,?_⟩
   ·omega
   rw[K];exact⟨m'+1,_,rfl,rfl,⟨⟨by omega⟩,by omega⟩,gS w P (by rw[show t=s2.length by omega,List.take_length] at d;exact d),rfl⟩
  have af:=AZ a1;refine .inr ?_;obtain⟨u,B⟩:=AL (l:=T) (i:=m') (by omega);refine⟨u,fun _=>⟨by omega,by rw[show (m).toNat=m' by omega];exact B⟩,?_⟩;try conv=>cbv
  have S:u=Aj s2:=Option.some.inj (B.symm.trans x);have aC:u.length=s2.length:=by rw[S,List.length_map]
  obtain⟨b,D⟩:=AL (l:=u) (i:=t) (by omega);refine⟨b,fun _=>⟨by omega,by rw[show (p).toNat=t by omega];exact D⟩,?_⟩;try conv=>cbv
  obtain⟨q3,a8,O,_⟩:=H6 S D;have g:BE q3 b.1.1 b.1.2 b.2.1 b.2.2:=a8;intro ar H;have aI:=H.eq;have f62:=H.le;conv=>cbv
  have az:ar=((List.length b.1.2:Nat):Int):=H.eq;intro au a2;conv=>cbv
  cases au <;> conv=>cbv
  ·have ag:=Bf a2;intro av I;have aJ:=I.eq;have f68:=I.le;conv=>cbv
   have aA:av=((List.length b.2.2:Nat):Int):=I.eq;intro aw a5;conv=>cbv
   cases aw <;> conv=>cbv
   ·have ah:=Bf a5;intro b4 aM;conv=>cbv
    refine AI ?_;refine⟨s2.length-(t+1),?_,?_⟩
    ·omega
    rw[M];exact⟨t+1,_,rfl,rfl,⟨⟨by omega⟩,by omega⟩,Wx d O ((Hj g).2 ⟨by omega,by omega⟩),rfl⟩
   have ah:=Bg a5;exact AD ⟨⟨rfl,congrArg _ (hc.2 (.inr ⟨s2,List.mem_of_getElem? P,q3,List.mem_of_getElem? O,fun h=>by have:=(Hj g).1 h;omega⟩)),trivial⟩,trivial⟩
  have ag:=Bg a2;exact AD ⟨⟨rfl,congrArg _ (hc.2 (.inr ⟨s2,List.mem_of_getElem? P,q3,List.mem_of_getElem? O,fun h=>by have:=(Hj g).1 h;omega⟩)),trivial⟩,trivial⟩
 have aa:=AZ W;refine .inr ?_;obtain⟨a,n⟩:=AL (l:=A) (i:=k') (by omega);refine⟨a,fun _=>⟨by omega,by rw[show (j).toNat=k' by omega];exact n⟩,?_⟩;try conv=>cbv
 obtain⟨q1,a7,N,_⟩:=H6 hA n;have f:BE q1 a.1.1 a.1.2 a.2.1 a.2.2:=a7;intro aj F;have aE:=F.eq;have f21:=F.le;conv=>cbv
 have ax:aj=((List.length a.1.2:Nat):Int):=F.eq;intro ak X;conv=>cbv
 cases ak <;> conv=>cbv
 ·have ab:=Bf X;obtain⟨Q,y⟩:=AL (l:=A) (i:=k') (by omega);refine⟨Q,fun _=>⟨by omega,by rw[show (j).toNat=k' by omega];exact y⟩,?_⟩;try conv=>cbv
  have U:=Option.some.inj (y.symm.trans n);have aB:List.length Q.2.2=List.length a.2.2:=by rw[U]
  intro al G;have aF:=G.eq;have f31:=G.le;conv=>cbv
  have ay:al=((List.length Q.2.2:Nat):Int):=G.eq;intro an Y;conv=>cbv
  cases an <;> conv=>cbv
  ·have ad:=Bf Y;intro b0 aK;conv=>cbv
   refine AI ?_;refine⟨xs.length-(k'+1),?_,?_⟩
   ·omega
   rw[J];exact⟨k'+1,_,rfl,rfl,⟨⟨by omega⟩,by omega⟩,Wx hinv N ((Hj f).2 ⟨by omega,by omega⟩),rfl⟩
  have ad:=Bg Y;exact AD ⟨⟨rfl,congrArg _ (hc.2 (.inl ⟨q1,List.mem_of_getElem? N,fun h=>by have:=(Hj f).1 h;omega⟩)),trivial⟩,trivial⟩
 have ab:=Bg X;exact AD ⟨⟨rfl,congrArg _ (hc.2 (.inl ⟨q1,List.mem_of_getElem? N,fun h=>by have:=(Hj f).1 h;omega⟩)),trivial⟩,trivial⟩
theorem YQ (hT:T=ts.map Aj) (hA:A=Aj xs) (h1:∀q∈xs,CY q) (h2:∀s∈ts,∀q∈s,CY q):CF 97 [.agg (Ay T A)] (.one (.bool true)):=by
 have aT:A.length=xs.length:=by rw[hA,List.length_map]
 have aU:T.length=ts.length:=by rw[hT,List.length_map]
 refine AM Tryz.func97 fun E hE=>?_
 conv=>cbv
 refine .inr ?_;obtain⟨J0,J⟩:=xJ fun vs u k=>∃(k':Nat) (j:Int),vs=[.one (.Ae 1 0 0),.one (.bool false),.one (.int .i64 j)]/\u=[.var 0 [.sl (.sl AA) T,.sl AA A]]/\(AR j k'/\k'<=xs.length)/\k=xs.length-k'
 refine⟨[],[1,2,3],[1],J0,⟨xs.length-0,by rw[J];exact⟨0,0,rfl,rfl,⟨Ak 0,by omega⟩,rfl⟩⟩,?_⟩;intro vs u b2 r;rw[J] at r;obtain⟨k',j,rfl,rfl,⟨r,aV⟩,aW⟩:=r;conv=>cbv
 have ej:=r.eq;rintro n9 ⟨e9,f9⟩;conv=>cbv
 intro al S;conv=>cbv
 cases al <;> conv=>cbv
 ·have ae:=AY S;refine .inr ?_;obtain⟨J1,K⟩:=xJ fun vs u k=>∃(m':Nat) (m:Int),vs=[.one (.Ae 1 0 0),.one (.bool false),.one (.int .i64 m)]/\u=[.var 0 [.sl (.sl AA) T,.sl AA A]]/\(AR m m'/\m'<=ts.length)/\k=ts.length-m'
  refine⟨[],[1,2,4],[1],J1,⟨ts.length-0,by rw[K];exact⟨0,0,rfl,rfl,⟨Ak 0,by omega⟩,rfl⟩⟩,?_⟩;intro vs u b3 r;rw[K] at r;obtain⟨m',m,rfl,rfl,⟨hm,aZ⟩,aX⟩:=r;conv=>cbv
  have em:=hm.eq;rintro b6 ⟨aM,f36⟩;conv=>cbv
  intro au X;conv=>cbv
  cases au <;> conv=>cbv
  ·have ah:=AY X;exact AD ⟨t2,trivial⟩
  have ah:=AZ X;refine .inr ?_
  obtain⟨s2,w,ad⟩:∃s,T[m']? =some (Aj s)/\ts[m']? =some s:=by
   obtain⟨s,hs⟩:=AL (l:=ts) (i:=m') (by omega);exact⟨s,by rw[hT,List.getElem?_map,hs];rfl,hs⟩
  refine .inr ?_;obtain⟨J2,M⟩:=xJ fun vs u k=>∃(h:Nat) (p:Int),vs=[.one (.Ae 1 0 0),.one (.bool false),.one (.int .i64 m),.one (.int .i64 p)]/\u=[.var 0 [.sl (.sl AA) T,.sl AA A]]/\(AR p h/\h<=s2.length)/\k=s2.length-h
  refine⟨[],[1,2,4,5],[1],J2,⟨s2.length-0,by rw[M];exact⟨0,0,rfl,rfl,⟨Ak 0,by omega⟩,rfl⟩⟩,?_⟩;intro vs u b4 r;rw[M] at r;obtain⟨h,p,rfl,rfl,⟨hp,b0⟩,aY⟩:=r;conv=>cbv
  have ep:=hp.eq;obtain⟨O,y⟩:=AL (l:=T) (i:=m') (by omega);refine⟨O,fun _=>⟨by omega,by rw[show (m).toNat=m' by omega];exact y⟩,?_⟩;try conv=>cbv
  have a6:O=Aj s2:=Option.some.inj (y.symm.trans w);have b1:O.length=s2.length:=by rw[a6,List.length_map]
  rintro b8 ⟨aN,f46⟩;conv=>cbv
  intro av Y;conv=>cbv
  cases av <;> conv=>cbv
  ·have ai:=AY Y;intro b7 aR;conv=>cbv
   refine AI ?_;refine⟨ts.length-(m'+1),?_,?_⟩
   ·omega
   rw[K];exact⟨m'+1,_,rfl,rfl,⟨⟨by omega⟩,by omega⟩,rfl⟩
  have ai:=AZ Y;refine .inr ?_;obtain⟨n,f⟩:=AL (l:=T) (i:=m') (by omega);refine⟨n,fun _=>⟨by omega,by rw[show (m).toNat=m' by omega];exact f⟩,?_⟩;try conv=>cbv
  have D:n=Aj s2:=Option.some.inj (f.symm.trans w);have aI:n.length=s2.length:=by rw[D,List.length_map]
  obtain⟨b,g⟩:=AL (l:=n) (i:=h) (by omega);refine⟨b,fun _=>⟨by omega,by rw[show (p).toNat=h by omega];exact g⟩,?_⟩;try conv=>cbv
  obtain⟨q3,ab,a8,_⟩:=H6 D g;have a5:BE q3 b.1.1 b.1.2 b.2.1 b.2.2:=ab;have aH:=(Hj a5).1 (h2 s2 (List.mem_of_getElem? ad) q3 (List.mem_of_getElem? a8));intro aw H;have aO:=H.eq;have f60:=H.le;conv=>cbv
  have aC:aw=((List.length b.1.2:Nat):Int):=H.eq;intro ax Z;conv=>cbv
  cases ax <;> conv=>cbv
  ·have aj:=Bf Z;obtain⟨P,z⟩:=AL (l:=T) (i:=m') (by omega);refine⟨P,fun _=>⟨by omega,by rw[show (m).toNat=m' by omega];exact z⟩,?_⟩;try conv=>cbv
   have v:=Option.some.inj (z.symm.trans f);have aJ:P.length=s2.length:=by rw[v,D,List.length_map]
   obtain⟨t,B⟩:=AL (l:=P) (i:=h) (by omega);refine⟨t,fun _=>⟨by omega,by rw[show (p).toNat=h by omega];exact B⟩,?_⟩;try conv=>cbv
   have R:=Option.some.inj ((show n[h]? =some t by rw[<-v];exact B).symm.trans g);have aF:List.length t.2.2=List.length b.2.2:=by rw[R]
   intro ay I;have aP:=I.eq;have f73:=I.le;conv=>cbv
   have aD:ay=((List.length t.2.2:Nat):Int):=I.eq;intro az a1;conv=>cbv
   cases az <;> conv=>cbv
   ·have ak:=Bf a1;intro b9 aS;conv=>cbv
    refine AI ?_;refine⟨s2.length-(h+1),?_,?_⟩
    ·omega
    rw[M];exact⟨h+1,_,rfl,rfl,⟨⟨by omega⟩,by omega⟩,rfl⟩
   have ak:=Bg a1
   exfalso;omega
  have aj:=Bg Z
  exfalso;omega
 have ae:=AZ S;refine .inr ?_;obtain⟨a,d⟩:=AL (l:=A) (i:=k') (by omega);refine⟨a,fun _=>⟨by omega,by rw[show (j).toNat=k' by omega];exact d⟩,?_⟩;try conv=>cbv
 obtain⟨q1,aa,a7,_⟩:=H6 hA d;have a2:BE q1 a.1.1 a.1.2 a.2.1 a.2.2:=aa;have aG:=(Hj a2).1 (h1 q1 (List.mem_of_getElem? a7));intro an F;have aK:=F.eq;have f20:=F.le;conv=>cbv
 have aA:an=((List.length a.1.2:Nat):Int):=F.eq;intro ao U;conv=>cbv
 cases ao <;> conv=>cbv
 ·have af:=Bf U;obtain⟨N,x⟩:=AL (l:=A) (i:=k') (by omega);refine⟨N,fun _=>⟨by omega,by rw[show (j).toNat=k' by omega];exact x⟩,?_⟩;try conv=>cbv
  have Q:=Option.some.inj (x.symm.trans d);have aE:List.length N.2.2=List.length a.2.2:=by rw[Q]
  intro aq G;have aL:=G.eq;have f30:=G.le;conv=>cbv
  have aB:aq=((List.length N.2.2:Nat):Int):=G.eq;intro ar W;conv=>cbv
  cases ar <;> conv=>cbv
  ·have ag:=Bf W;intro b5 aQ;conv=>cbv
   refine AI ?_;refine⟨xs.length-(k'+1),?_,?_⟩
   ·omega
   rw[J];exact⟨k'+1,_,rfl,rfl,⟨⟨by omega⟩,by omega⟩,rfl⟩
  have ag:=Bg W
  exfalso;omega
 have af:=Bg U
 exfalso;omega
theorem YE (t:L=ns.map nm) (x:∀n∈ns,(∀q∈co n.1 n.2,CY q)/\∀s∈n.1,∀q∈s,CY q):CF 31 [.one (.sl An L)] (.one (.bool true)):=by
 have B:L.length=ns.length:=by rw[t,List.length_map]
 refine AM Tryz.func31 fun E z=>?_
 conv=>cbv
 refine .inr ?_;obtain⟨v,b⟩:=xJ fun vs w k=>∃(k':Nat) (j:Int),vs=[.one (.sl An L),.one (.int .i64 j)]/\(AR j k'/\k'<=L.length)/\k=L.length-k'
 refine⟨[],[0,3],[],v,⟨L.length-0,by rw[b];exact⟨0,0,rfl,⟨Ak 0,by omega⟩,rfl⟩⟩,?_⟩;intro vs w I f;rw[b] at f;obtain⟨k',j,rfl,⟨f,D⟩,F⟩:=f;conv=>cbv
 have M:=f.eq;rintro O ⟨K,f6⟩;conv=>cbv
 intro J r;conv=>cbv
 cases J <;> conv=>cbv
 ·have H:=AY r;exact AD ⟨t2,trivial⟩
 have H:=AZ r;refine .inr ?_;obtain⟨p,a⟩:=AL (l:=L) (i:=k') (by omega);refine⟨p,fun _=>⟨by omega,by rw[show (j).toNat=k' by omega];exact a⟩,?_⟩;try conv=>cbv
 obtain⟨u,y,h,m,g⟩:=G3 t a;have d:=x _ (List.mem_of_getElem? g);refine AB z (YQ (ts:=u.reverse) (xs:=co u y) h m d.1 (fun s G=>d.2 s (List.mem_reverse.1 G))) ?_;conv=>cbv
 refine BK ?_;conv=>cbv
 intro P N;conv=>cbv
 refine AI ?_;refine⟨L.length-(k'+1),?_,?_⟩
 ·omega
 rw[b];exact⟨k'+1,_,rfl,⟨⟨by omega⟩,by omega⟩,rfl⟩
theorem YF {i:Int} {n:Nu} (D:L=ns.map nm) (m:ns≠[]) (K:AR i i') (M:n=Da ns i') (J:T=tw n.1) (I:A=em n.1 n.2):CF 32 [.one (.sl An L),.one (.int .i64 i)] (.agg (Ay T A)):=by
 have H:=K.eq;have j:L.length=ns.length:=by rw[D,List.length_map]
 have F:0<ns.length:=List.length_pos_iff.2 m;refine AM Tryz.func32 fun E Q=>?_
 conv=>cbv
 rintro R ⟨P,f6⟩;conv=>cbv
 intro O B;conv=>cbv
 cases O <;> conv=>cbv
 ·have G:=AN B;intro v b;conv=>cbv
  cases v <;> conv=>cbv
  ·have d:=AY b;rintro N ⟨g,f16⟩;conv=>cbv
   intro f h;conv=>cbv
   refine AH ?_;have z:f=((i'%L.length:Nat):Int):=by rw[h,H,g];exact (Int.natCast_emod _ _).symm
   obtain⟨w,a⟩:=AL (l:=L) (i:=(i'%L.length)) (by exact Nat.mod_lt _ (by omega));refine⟨w,fun _=>⟨by omega,by rw[show (f).toNat=(i'%L.length) by omega];exact a⟩,?_⟩;try conv=>cbv
   obtain⟨u,y,r,t,p⟩:=G3 D a;have x:n=(u,y):=by rw[M];unfold Da;rw[<-j,List.getD_eq_getElem?_getD,p];rfl
   exact AD ⟨⟨rfl,congrArg _ (by rw[J,x];exact r.symm),congrArg _ (by rw[I,x];exact t.symm),trivial⟩,trivial⟩
  have d:=AZ b;exact absurd d (by omega)
 have G:=AO B;exact absurd G (by omega)
theorem cb {i:Nat} (b:∀m,o[m]? =(ts[m]?).map fun s=>Aj (if i<m/\m<k then BS i 0 s else s)) (a:ts[k]? =some s) (d:i<k) {w:LR} (hw:w=Aj (BS i 0 s)):
  ∀m,(o.set k w)[m]? =(ts[m]?).map fun s=>Aj (if i<m/\m<k+1 then BS i 0 s else s):=by
 intro m
 by_cases e:k=m
 ·subst e;have f:=Dm a
  have g:k<o.length:=by
   have:=b k;rw[a] at this;exact Dm this
  rw[List.getElem?_set_self g,a,Option.map_some,if_pos ⟨d,by omega⟩,hw]
 rw[List.getElem?_set_ne e,b m];have:(i<m/\m<k+1)↔(i<m/\m<k):=by omega
 simp only[this]
theorem ca {i:Nat} (d:i<ts.length) (b:∀m,o[m]? =(ts[m]?).map fun s=>Aj (if i<m/\m<ts.length then BS i 0 s else s)):o.take i++o.drop (i+1)=(ts.take i++(ts.drop (i+1)).map (BS i 0)).map Aj:=by
 have e:o=(ts.take (i+1)++(ts.drop (i+1)).map (BS i 0)).map Aj:=by
  apply List.ext_getElem?;intro m;rw[b m,List.getElem?_map,List.getElem?_append,List.length_take,Nat.min_eq_left (by omega)]
  by_cases hm:m<i+1
  ·rw[if_pos hm,List.getElem?_take,if_pos hm];cases ts[m]? with
   | none=>rfl
   | some s=>simp only[Option.map_some];rw[if_neg (by omega)]
  rw[if_neg hm,List.getElem?_map,List.getElem?_drop,show i+1+(m-(i+1))=m by omega]
  by_cases a:m<ts.length
  ·rw[List.getElem?_eq_getElem a];simp only[Option.map_some];rw[if_pos ⟨by omega,a⟩]
  rw[List.getElem?_eq_none (by omega)];rfl
 have hlen:(ts.take (i+1)).length=i+1:=by rw[List.length_take];omega
 rw[e,List.map_append,List.map_append,List.take_append_of_le_length (by rw[List.length_map,hlen];omega),List.drop_left' (by rw[List.length_map,hlen]),<-List.map_take,List.take_take,Nat.min_eq_left (by omega)]
theorem Rp {i:Nat} {f:List Rat->Bool} (a:ts[k]? =some s) (b:i<k):((ts.drop (i+1)).take (k+1-(i+1))).any f=(((ts.drop (i+1)).take (k-(i+1))).any f||f s):=by
 rw[show k+1-(i+1)=k-(i+1)+1 by omega,Ck (l:=ts.drop (i+1)) (i:=k-(i+1)) (x:=s) (by rw[List.getElem?_drop,show i+1+(k-(i+1))=k by omega];exact a)];simp
theorem RA {u U:List (List Rat)} {x:Re} (h:Ag u) (hx:In u x) (hl:u.length<=8) (hw:GL u.length (u.reverse,co u x)=(U.reverse,co U x)) (hT:T=tw u) (hA:A=em u x) (aO:T2=tw U) (hC:C=em U x):CF 91 [.agg (Ay T A)] (.agg (Ay T2 C)):=by
 have bH:T.length=u.length:=by rw[hT,Bh]
 refine AM Tryz.func91 fun E hE=>?_
 conv=>cbv
 refine⟨[],fun _=>⟨rfl,by decide,rfl,trivial⟩,.inl ?_⟩;try conv=>cbv
 refine .inl ⟨T,fun _=>⟨rfl,by (first | rfl | omega),rfl,by show (0+T.length)*24<=140737488355328;(try simp only[List.length_take,List.length_drop]);omega⟩,?_⟩;intro (af:List (el (.sl AA))) b3 R;have M:af=([]:List (el (.sl AA)))++(T:List (el (.sl AA))):=R.1;have av:b3=List.length (α:=(el (.sl AA))) af:=R.2;conv=>cbv
 refine g2 rfl ?_;intro bS aI;have bu:=aI.eq;conv=>cbv
 have aT:List.length af=List.length T:=by rw[M];rfl
 intro b4 bA;conv=>cbv
 refine AI ?_;refine .inr ?_
 obtain⟨J0,Y⟩:∃J:List AV->List AG->Nat->Prop,J=fun vs g k=>∃(w:List (List Rat)) (O:List LR) (B:LR) (n j:Nat) (i:Int),vs=[.one (.Ae 2 0 0),.one (.Ae 3 0 0),.one (.int .i64 i)]/\g=[.var 0 [.nil,.nil],.var 0 [.AQ (.sl AA) 8 0 0 n,.sl AA B],.arr 0 (.sl AA) O]/\
  (AR (i+1) j/\n=O.length/\O=tw w/\B=em w x)/\(Ag w/\In w x/\j<=w.length/\w.length<=8)/\GL j (w.reverse,co w x)=(U.reverse,co U x)/\k=j:=⟨_,rfl⟩
 refine⟨[],[2,3,4],[2,3,8],J0,⟨u.length,by rw[Y];exact⟨u,_,_,_,u.length,b4,rfl,rfl,⟨⟨by omega⟩,av,by rw[M,hT];rfl,hA⟩,⟨h,hx,Nat.le_refl _,hl⟩,hw,rfl⟩⟩,?_⟩;intro vs g bP a;rw[Y] at a;obtain⟨w,O,B,n,j,i,rfl,rfl,⟨hi,hn,hO,hB⟩,⟨ad,ae,bK,D⟩,d,bL⟩:=a;conv=>cbv
 have ei:=hi.eq;obtain⟨i',bI⟩:=xN (j-1);intro b5 ak;conv=>cbv
 cases b5 <;> conv=>cbv
 ·have b0:=DI ak;exact AD ⟨⟨rfl,.inl ⟨_,rfl,by omega,congrArg _ (by rw[aO,hn,List.drop_zero,List.take_length,hO];have:=d;rw[show j=0 by omega,GL] at this;rw[tw,tw,(Prod.mk.inj this).1])⟩,congrArg _ (by rw[hC,hB];have:=d;rw[show j=0 by omega,GL] at this;rw[em,em,(Prod.mk.inj this).2]),trivial⟩,trivial⟩
 have b0:=DJ ak
 obtain⟨K1,a1⟩:∃J:List AV->List AG->Prop,J=fun vs g=>∃(r:List (List Rat)) (O2:List LR) (B2:LR) (n2:Nat),vs=[.one (.Ae 2 0 0),.one (.Ae 3 0 0),.one (.int .i64 i)]/\g=[.var 0 [.nil,.nil],.var 0 [.AQ (.sl AA) 8 0 0 n2,.sl AA B2],.arr 0 (.sl AA) O2]/\
  (n2=O2.length/\O2=tw r/\B2=em r x)/\(Ag r/\In r x/\i'<=r.length/\r.length<=8)/\GL i' (r.reverse,co r x)=(U.reverse,co U x):=⟨_,rfl⟩
 refine .inl ⟨[2,3,4],[2,3,8],K1,?_,?_⟩
 ·intro vs g a;rw[a1] at a;obtain⟨r,O2,B2,n2,rfl,rfl,⟨aU,aN,aM⟩,⟨aA,aB,ar,az⟩,ay⟩:=a;conv=>cbv
  intro b6 bB;conv=>cbv
  refine AI ?_;refine⟨i',?_,?_⟩
  ·omega
  rw[Y];exact⟨r,O2,B2,n2,i',b6,rfl,rfl,⟨⟨by omega⟩,aU,aN,aM⟩,⟨aA,aB,ar,az⟩,ay,rfl⟩
 try conv=>cbv
 have aR:j=i'+1:=by omega
 subst aR;have y:AR i i':=⟨by omega⟩;obtain⟨ts,f⟩:∃z:List (List Rat),z=w.reverse:=⟨_,rfl⟩
 have a2:O=ts.map Aj:=by rw[hO,f];rfl
 have bO:ts.length=w.length:=by rw[f,List.length_reverse]
 have bG:O.length=ts.length:=by rw[a2,List.length_map]
 have aP:(co w x).length<=1000000:=by rw[Cz ae];exact Nat.le_trans (Cg D) (by decide)
 obtain⟨aF,I⟩:=xB (CW i' 0 (co w x));refine AB hE (RM (xs:=co w x) hB y (by omega) I) ?_;conv=>cbv
 intro b7 bC;conv=>cbv
 refine AI ?_;refine .inr ?_
 obtain⟨J1,v⟩:∃J:List AV->List AG->Nat->Prop,J=fun vs g k=>∃(b:Bool) (k':Nat) (j:Int),vs=[.one (.Ae 2 0 0),.one (.Ae 3 0 0),.one (.int .i64 i),.one (.bool b),.one (.int .i64 j)]/\g=[.var 0 [.nil,.nil],.var 0 [.AQ (.sl AA) 8 0 0 n,.sl AA B],.arr 0 (.sl AA) O]/\
  (AR j k'/\i'<k'/\k'<=ts.length)/\b=(CW i' 0 (co w x)||((ts.drop (i'+1)).take (k'-(i'+1))).any (CW i' 0))/\k=ts.length-k':=⟨_,rfl⟩
 refine⟨[],[2,3,4,5,6],[2,3,8],J1,⟨ts.length-(i'+1),by rw[v];exact⟨aF,i'+1,b7,rfl,rfl,⟨⟨by omega⟩,by omega,by omega⟩,by rw[I,Nat.sub_self,List.take_zero];simp,rfl⟩⟩,?_⟩;intro vs g bQ a;rw[v] at a;obtain⟨b,k',j,rfl,rfl,⟨a,ao,bJ⟩,hb,bM⟩:=a;conv=>cbv
 have ej:=a.eq;intro bT aJ;have bw:=aJ.eq;conv=>cbv
 intro b8 al;conv=>cbv
 cases b8 <;> conv=>cbv
 ·have b1:=AY al;cases b <;> conv=>cbv
  ·obtain⟨aj,H⟩:=xR (Aj (BS i' 0 (co w x)));refine AB hE (RV (xs:=co w x) hB y (by omega) aP H) ?_;conv=>cbv
   intro C3 bD;conv=>cbv
   refine AI ?_;refine .inr ?_
   obtain⟨J2,Z⟩:∃J:List AV->List AG->Nat->Prop,J=fun vs g k=>∃(o:List LR) (k2:Nat) (j2:Int),vs=[.one (.Ae 2 0 0),.one (.Ae 3 0 0),.one (.int .i64 i),.one (.int .i64 j2)]/\g=[.var 0 [.nil,.nil],.var 0 [.AQ (.sl AA) 8 0 0 n,.sl AA aj],.arr 0 (.sl AA) o]/\
    (AR j2 k2/\i'<k2/\k2<=ts.length/\o.length=ts.length)/\(∀m,o[m]? =(ts[m]?).map fun s=>Aj (if i'<m/\m<k2 then BS i' 0 s else s))/\k=ts.length-k2:=⟨_,rfl⟩
   refine⟨[],[2,3,4,7],[2,3,8],J2,⟨ts.length-(i'+1),by rw[Z];exact⟨O,i'+1,C3,rfl,rfl,⟨⟨by omega⟩,by omega,by omega,by omega⟩,fun m=>by
    have aV:¬(i'<m/\m<i'+1):=by omega
    simp only[aV,if_false];rw[a2,List.getElem?_map],rfl⟩⟩,?_⟩
   intro vs g bR a;rw[Z] at a;obtain⟨o,k2,j2,rfl,rfl,⟨aQ,aq,bn,aW⟩,hq,bN⟩:=a;conv=>cbv
   have bz:=aQ.eq;intro bU aL;have bx:=aL.eq;conv=>cbv
   intro b9 an;conv=>cbv
   cases b9 <;> conv=>cbv
   ·have b2:=AY an;refine⟨fun _=>⟨by omega,by omega,by omega⟩,?_⟩;intro br bf;conv=>cbv
    rintro bW W ⟨bo,bh⟩;conv=>cbv
    intro bV bF;conv=>cbv
    refine AI ?_;refine AH ?_;rintro bq bs ⟨bd,bg⟩;conv=>cbv
    rintro G X ⟨bp,bj⟩;conv=>cbv
    refine .inl ⟨((o).drop G).take X,fun _=>⟨by omega,by omega,⟨_,rfl,by omega,rfl⟩,by show (W+(((o).drop G).take X).length)*24<=140737488355328;(try simp only[List.length_take,List.length_drop]);omega⟩,?_⟩;intro (F:List (el (.sl AA))) aD S;have au:F=(List.take W o:List (el (.sl AA)))++(((o).drop G).take X:List (el (.sl AA))):=S.1;have aw:aD=List.length (α:=(el (.sl AA))) F:=S.2;conv=>cbv
    refine g2 rfl ?_;rw[a1];have a6:k'=ts.length:=by omega
    have a5:¬(CW i' 0 (co w x)||(ts.drop (i'+1)).any (CW i' 0))=true:=by
     have t:=hb;rw[a6,List.take_of_length_le (by rw[List.length_drop];omega)] at t;rw[<-t];exact Bool.false_ne_true
    obtain⟨w1,e1,ab,aS⟩:=W1 ad ae (by omega:i'<w.length);have e2:=e1;unfold Ja at e2;rw[<-f,if_neg a5] at e2;have e3:=Prod.mk.inj e2
    have a7:F=o.take i'++o.drop (i'+1):=by
     rw[au,show W=i' by omega,show G=i'+1 by omega,List.take_of_length_le (l:=o.drop (i'+1)) (by rw[List.length_drop];omega)]
    rw[show k2=ts.length by omega] at hq;refine⟨w1,F,aj,aD,rfl,rfl,⟨aw,?_,?_⟩,⟨ab.red,ab.mem,aS,Nat.le_trans ab.len D⟩,by rw[GL,e1] at d;exact d⟩
    ·rw[a7,ca (by omega) hq,tw,<-f] at*;rw[e3.1]
    rw[H,em,<-e3.2]
   have b2:=AZ an;refine .inr ?_;refine AH ?_;intro aZ bl;conv=>cbv
   obtain⟨ai,Q⟩:=AL (l:=o) (i:=aZ) (by omega);refine⟨ai,fun _=>Q,?_⟩;try conv=>cbv
   obtain⟨s7,aa⟩:=AL (l:=ts) (i:=k2) (by omega);have aX:o[k2]? =some ai:=by rw[<-Q];congr 1;omega
   have aH:ai=Aj s7:=by have t:=hq k2;rw[aa,aX,Option.map_some,if_neg (by omega)] at t;exact Option.some.inj t
   have ax:s7.length<=1000000:=by have t:=PM ad (List.mem_reverse.1 (f ▸ List.mem_of_getElem? aa));have h2:2^w.length<=2^8:=Cg D;omega
   obtain⟨aE,N⟩:=xR (Aj (BS i' 0 s7));refine AB hE (RV aH y (by omega) ax N) ?_;conv=>cbv
   refine AH ?_;intro aC bm;conv=>cbv
   refine⟨aE,fun _=>⟨by show _<List.length (α:=(el (.sl AA))) o;(first | omega | (simp;omega)),by first | exact t1 | exact t2 | exact t4 | simp[Aq,BG,cells]⟩,?_⟩;intro (ag:List (el (.sl AA))) (p:ag=List.set (α:=(el (.sl AA))) o aC aE);have bc:ag.length=o.length:=by rw[p,List.length_set]
   conv=>cbv
   refine g2 rfl ?_;intro ba bE;conv=>cbv
   refine AI ?_;refine⟨ts.length-(k2+1),?_,?_⟩
   ·omega
   rw[Z];exact⟨ag,k2+1,ba,rfl,rfl,⟨⟨by omega⟩,by omega,by omega,by rw[p,List.length_set];exact aW⟩,by rw[p,show aC=k2 by omega];exact cb hq aa aq N,rfl⟩
  rw[a1];have a6:k'=ts.length:=by omega
  have a5:(CW i' 0 (co w x)||(ts.drop (i'+1)).any (CW i' 0))=true:=by
   have t:=hb;rw[a6,List.take_of_length_le (by rw[List.length_drop];omega)] at t;exact t.symm
  have e1:Ja i' (w.reverse,co w x)=(w.reverse,co w x):=by
   unfold Ja;rw[<-f,if_pos a5]
  exact⟨w,O,B,n,rfl,rfl,⟨hn,hO,hB⟩,⟨ad,ae,by omega,D⟩,by rw[GL,e1] at d;exact d⟩
 have b1:=AZ al;refine .inr ?_;cases b <;> conv=>cbv
 ·refine AH ?_;intro aY bk;conv=>cbv
  obtain⟨bb,P⟩:=AL (l:=O) (i:=aY) (by omega);refine⟨bb,fun _=>P,?_⟩;try conv=>cbv
  obtain⟨s4,aG,a8⟩:=H5 (i:=k') a2 (by rw[<-P];congr 1;omega);obtain⟨bt,K⟩:=xB (CW i' 0 s4);refine AB hE (RM aG y (by omega) K) ?_;conv=>cbv
  intro ah aK;conv=>cbv
  refine AI ?_;refine⟨ts.length-(k'+1),?_,?_⟩
  ·omega
  rw[v];exact⟨_,k'+1,ah,rfl,rfl,⟨⟨by omega⟩,by omega,by omega⟩,by rw[Rp a8 ao,<-Bool.or_assoc,<-hb,K];simp,rfl⟩
 intro ah aK;conv=>cbv
 refine AI ?_;refine⟨ts.length-(k'+1),?_,?_⟩
 ·omega
 rw[v];obtain⟨s4,a8⟩:=AL (l:=ts) (i:=k') (by omega);exact⟨_,k'+1,ah,rfl,rfl,⟨⟨by omega⟩,by omega,by omega⟩,by rw[Rp a8 ao,<-Bool.or_assoc,<-hb];simp,rfl⟩
end Go.Abs
namespace Go.Abs
open Go.RowKit
theorem Ve {o:el CT} {n d:Int} (a:n=IT o.2.2.2.1) (b:d=((o.2.2.2.2.toNat%8+1:Nat):Int)):Fg o=Rat.divInt n d:=by subst a b;rfl
theorem Kg {st:List Nu×Nat} {o:el CT} (h:st.1=[]\/o.1.toNat%6=0):C5 st o=(([],Re.ofRat (Fg o)),st.2):=by unfold C5;rw[if_pos h]
theorem Hh {st:List Nu×Nat} {o:el CT} (a:st.1≠[]) (b:o.1.toNat%6≠0):C5 st o=Dq (o.1.toNat%6) (Da st.1 o.2.1.toNat) (Da st.1 o.2.2.1.toNat) st.2:=by
 unfold C5;rw[if_neg (fun h=>h.elim a b)]
theorem dR (a b:Nu) (r:Nat):Dq 1 a b r=((Bm a.1 b.1,a.2+b.2),r):=by unfold Dq;rw[if_pos rfl]
theorem dV (a b:Nu) (r:Nat):Dq 2 a b r=((Bm a.1 b.1,a.2-b.2),r):=by unfold Dq;rw[if_neg (by decide),if_pos rfl]
theorem dU (a b:Nu) (r:Nat):Dq 3 a b r=((Bm a.1 b.1,a.2*b.2),r):=by unfold Dq;rw[if_neg (by decide),if_neg (by decide),if_pos rfl]
theorem dT {a b:Nu} (r:Nat) (h:b.2=0):Dq 4 a b r=(a,r):=by unfold Dq;rw[if_neg (by decide),if_neg (by decide),if_neg (by decide),if_pos rfl,if_pos h]
theorem dS {a b:Nu} (r:Nat) (h:b.2≠0):Dq 4 a b r=((Bm a.1 b.1,a.2*F3 b.2),r):=by unfold Dq;rw[if_neg (by decide),if_neg (by decide),if_neg (by decide),if_pos rfl,if_neg h]
theorem VA (a b:Nu) {r:Nat} (h:r<3):Dq 5 a b r=((BM a.1 (Cy a.2),Re.sqrt (Cy a.2)),r+1):=by unfold Dq;rw[if_neg (by decide),if_neg (by decide),if_neg (by decide),if_neg (by decide),if_pos h]
theorem U9 (a b:Nu) {r:Nat} (h:¬r<3):Dq 5 a b r=(a,r):=by unfold Dq;rw[if_neg (by decide),if_neg (by decide),if_neg (by decide),if_neg (by decide),if_neg h]
theorem get_eq {ns:List Nu} {i j:Nat} {n:Nu} (h:ns[j]? =some n) (a:j=i%ns.length):Da ns i=n:=by
 unfold Da;rw[List.getD_eq_getElem?_getD,<-a,h];rfl
theorem bW:∀h,h<=3->II h Rm Rm<=60000000000000
 |0,_|1,_|2,_|3,_=>by decide +kernel
 | _+4,h=>absurd h (by omega)
theorem bX:∀h,h<=3->II h 256 512<=Rm
 |0,_|1,_|2,_|3,_=>by decide +kernel
 | _+4,h=>absurd h (by omega)
section
variable {V:List Re} {ns:List Nu}
theorem CL.tb {n:Nu} (h:CL V n) (a:V.length<=3):TB 256 n.1:=(PN.H8 (ns:=[n]) a (fun m hm=>by rw[List.mem_singleton.1 hm];exact h)).tb (PN.self (List.mem_singleton.2 rfl))
theorem CL.inv {n:Nu} (h:CL V n) (a:V.length<=3) (b:n.2≠0):El n.1 Rm (F3 n.2):=by
 have d:=Nat.le_trans h.len a;have ht:Ah 256 n.1:=⟨h.red,h.tb a,by decide,by omega⟩;exact ((h.el a).inv ht (OZ h.red h.mem b) (Od b)).mono (bX _ d)
theorem CL.abs {n:Nu} (h:CL V n):CL V (n.1,Cy n.2):=by
 refine⟨h.red,Tw h.mem,h.Bu,h.HG,fun q a=>?_⟩;have a:q∈co n.1 (Cy n.2):=a;unfold Cy at a
 split at a
 ·rw[KF h.red h.mem] at a;obtain⟨p,b,rfl⟩:=List.mem_map.1 a;have:=h.cos p b;exact⟨by show (-p.num).natAbs<_;rw[Int.natAbs_neg];exact this.1,this.2⟩
 exact h.cos q a
theorem Vs {n:Nu} (h:CL V n) (m:V.length<=2) (g:0<=n.2) {S:Nat} (i:Rm<=S) (j:S<=Sm:=by first|omega|decide):Du (Tf fun u=>u<:+BM n.1 n.2) Rm Cm S/\Tf (fun u=>u<:+BM n.1 n.2) n.1/\Tf (fun u=>u<:+BM n.1 n.2) (BM n.1 n.2):=by
 have l:=Vf h.red h.mem g;have p:=h.len
 have b:TB 256 (BM n.1 n.2):=by
  by_cases f:Sq n.1 n.2
  ·rw[FR f];exact h.tb (by omega)
  rw[Fu f];intro r a;rcases List.mem_cons.1 a with rfl | a
  ·refine (Lc h.cos).mono ?_;rw[Cz h.mem];have:2^n.1.length<=2^2:=Cg;omega
  exact h.tb (by omega) r a
 have I:FM (fun u=>u<:+BM n.1 n.2) 256:=⟨fun {u} hu=>Vi hu l,fun {u} hu=>fun r a=>b r (hu.subset a),fun {r u} hu=>(List.suffix_cons r u).trans hu⟩;refine⟨TX I (fun {u} hu=>?_) i j,Tf.of I (LW _ _),Tf.of I (List.suffix_refl _)⟩
 have:=hu.len I (V:=n.2::V) (fun {u} hu v d=>by
  rcases XD h.mem v (XF hu v d) with rfl | d
  ·exact List.mem_cons_self
  exact List.mem_cons_of_mem _ (h.Bu v d))
 rw[List.length_cons] at this;omega
theorem ak (f:V.length<=3) (d:∀n∈ns,CL V n) {a b:Nu} (i:a∈ns) (g:b∈ns) {r:Nat}:∃(T A m l:_) (e:Int),CF 81 [.agg [.sl (.sl AA) (tw a.1),.sl AA (em a.1 a.2)],.agg [.sl (.sl AA) (tw b.1),.sl AA (em b.1 b.2)]] (.AJ [(true,(Ay T A)),(false,[.int .i64 e])])/\
  CF 87 [.agg [.sl (.sl AA) T,.sl AA A],.one (.int .i64 e),.agg [.sl (.sl AA) (tw a.1),.sl AA (em a.1 a.2)]] (.agg [.sl (.sl AA) m,.sl AA l])/\m=tw (Dq 4 a b r).1.1/\l=em (Dq 4 a b r).1.1 (Dq 4 a b r).1.2/\(Dq 4 a b r).2=r:=by
 have G:=FY f d (Nat.le_refl Rm);have p:=((d a i).el f).mono (by decide:512<=Rm);have t:=((d b g).el f).mono (by decide:512<=Rm)
 by_cases h:b.2=0
 ·rw[dT r h];exact⟨_,_,_,_,_,YU G (EB f d i) (EB f d g) rfl rfl rfl rfl p t h,Y1,rfl,rfl,rfl⟩
 rw[dS r h];have j:=Nat.le_trans (d b g).len f;exact⟨_,_,_,_,_,YT G (EB f d i) (EB f d g) rfl rfl rfl rfl p t (OZ (d b g).red (d b g).mem h) (Od h) ((d b g).inv f h) (bW _ j) rfl rfl,IZ,rfl,rfl,rfl⟩
end
theorem cG (x:Nu):E3 [] x=x:=by unfold E3;rw[if_neg (fun h=>h.1 rfl)]
theorem cF {l:List Nu} {x:Nu} (h:l≠[]) (a:HK x):E3 l x=l.getLastD K5:=by unfold E3;rw[if_pos ⟨h,a⟩]
theorem cH {l:List Nu} {x:Nu} (a:¬HK x):E3 l x=x:=by unfold E3;rw[if_neg (fun h=>a h.2)]
theorem UY {n:Nu}:LB n.1.reverse (co n.1 n.2)↔HK n:=by
 unfold LB HK;simp only[List.mem_reverse]
theorem cJ {l:List Nu} {j:Nat} {n:Nu} (h:l[j]? =some n) (a:j+1=l.length):l.getLastD K5=n:=by
 rw[List.getLastD_eq_getLast?,List.getLast?_eq_getElem?,show l.length-1=j by omega,h];rfl
theorem V7:∀(xs:List (el CT)) (st:List Nu×Nat),(xs.foldl HI st).1.length=st.1.length+xs.length
 | [],_=>rfl
 | o::xs,st=>by
  rw[List.foldl_cons,V7 xs (HI st o),List.length_cons];unfold HI;rw[List.length_append,List.length_singleton];omega
theorem WK {x:Re} (h:BJ x<0):x<0:=by rcases Ec x with⟨a,b⟩ |⟨a,b⟩ |⟨a,b⟩ <;> first | exact a | (exfalso;omega)
theorem WJ {x:Re} (h:¬BJ x<0):¬x<0:=by rcases Ec x with⟨a,b⟩ |⟨a,b⟩ |⟨a,b⟩ <;> first | (exfalso;omega) | (rw[a];exact fun h=>by grind) | (intro h;grind)
theorem YH {X:List (el CT)} {L:List (el An)} (hL:L=(runN (X.take 24)).1.map nm):CF 28 [.one (.sl CT X)] (.one (.sl An L)):=by
 refine AM Tryz.func28 fun E M=>?_
 conv=>cbv
 refine .inr ?_;obtain⟨J0,aH⟩:=xJ fun vs bl k=>(vs=[.one (.sl CT X),.one .nil,.one (.int .i64 0),.one (.int .i64 0)]/\bl=[.dead 0]/\k=24)\/(∃(o:List (el An)) (n k':Nat) (rr j:Int),vs=[.one (.sl CT X),.one (.AQ An 157 0 0 n),.one (.int .i64 rr),.one (.int .i64 j)]/\bl=[.arr 0 An o]/\(AR j k'/\k'<=X.length/\k'<=24/\0<k'/\n=o.length)/\(o=(runN (X.take k')).1.map nm/\AR rr (runN (X.take k')).2)/\k=24-k')
 refine⟨[],[0,3,4,5],[157],J0,⟨24,by rw[aH];exact .inl ⟨rfl,rfl,rfl⟩⟩,?_⟩;intro vs bl du hj;rw[aH] at hj;rcases hj with⟨rfl,rfl,aJ⟩ |⟨o,n,k',rr,j,rfl,rfl,⟨hj,ds,cY,bO,hn⟩,⟨ho,g⟩,aJ⟩
 ·conv=>cbv
  obtain⟨k',aJ⟩:=xN 0;obtain⟨Y,V,hV,f⟩:=Pe (X.take k');obtain⟨st,F⟩:∃s,s=runN (X.take k'):=⟨_,rfl⟩
  rw[<-F] at Y hV f;have ad:st.1=[]:=by rw[F,aJ];rfl
  have bS:st.2=0:=by rw[F,aJ];rfl
  rintro cD ⟨c8,f22⟩;conv=>cbv
  intro bh ah;conv=>cbv
  cases bh <;> conv=>cbv
  ·have bf:=AY ah;exact AD ⟨⟨rfl,.inr (.inl ⟨_,congrArg _ (by rw[hL,show X.take 24=[] by rw[List.take_eq_nil_iff];right;exact List.eq_nil_of_length_eq_zero (by omega)];rfl)⟩),trivial⟩,trivial⟩
  have bf:=AZ ah;refine Cc ?_;conv=>cbv
  refine .inr ?_;obtain⟨a,I⟩:=AL (l:=X) (i:=0) (by omega);refine⟨a,fun _=>⟨by omega,I⟩,?_⟩;try conv=>cbv
  intro bk ai;have b3:=ai.eq;have f33:=ai.lt;conv=>cbv
  intro aB S;have ag:=S.eq;have bw:=S.lt;conv=>cbv
  intro ab D;have a5:=D.eq;have b4:=D.lt;conv=>cbv
  intro R v;have K:=v.eq;have aF:=v.lt;conv=>cbv
  have cu:bk=((a.1.toNat:Nat):Int):=b3;have cv:aB=((a.2.1.toNat:Nat):Int):=ag;have cw:ab=((a.2.2.1.toNat:Nat):Int):=a5;have cx:R=((a.2.2.2.2.toNat:Nat):Int):=K;intro bm a6;conv=>cbv
  have a6:=wrap_i64 a6;have aj:bm=IT a.2.2.2.1:=a6;intro cI ca;conv=>cbv
  refine AH ?_;intro cK al;conv=>cbv
  have al:=wrap_i64 al;intro bn cb;conv=>cbv
  refine AI ?_;obtain⟨aK,a1⟩:=DS (em [] (Re.ofRat (Fg a)));have cy:=QE a.2.2.2.1;refine AB (r:= .agg [.sl (.sl AA) (([]:List LR)),.sl AA aK]) M (Qw (q:=Fg a) (by omega) (by omega) (by omega) (Ve aj (by show bn=((a.2.2.2.2.toNat%8+1:Nat):Int);omega)) a1) ?_;try conv=>cbv
  refine BK ?_;conv=>cbv
  refine .inr ?_;refine BK ?_;conv=>cbv
  refine .inr ?_;obtain⟨_,b2,cm,aS,bd⟩:=Kf (st:=st) ⟨Y,V,hV,f⟩ a;have cn:b2.length<=8:=by have:=(Kf (st:=st) ⟨Y,V,hV,f⟩ a).1;omega
  have w:=Oi (l:=[]) (x:=(C5 st a).1) (fun n hn=>by simp at hn) bd (fun he=>by rw[Kg (.inl ad)];exact PR a);obtain⟨kk,aa⟩:∃z:Nu,z=E3 [] (C5 st a).1:=⟨_,rfl⟩
  rw[<-aa] at w;have u:=P4 w.red w.mem;have bP:kk=([],Re.ofRat (Fg a)):=by rw[aa,cG,Kg (.inl ad)]
  have cl:(([]:List LR):List LR)=tw kk.1:=by rw[bP];rfl
  have ck:aK=em kk.1 kk.2:=by rw[bP];exact a1
  obtain⟨B,H⟩:=HF (tw (FB kk).1);obtain⟨y,G⟩:=DS (em (FB kk).1 (FB kk).2);refine AB (r:= .agg [.sl (.sl AA) B,.sl AA y]) M (RA w.red w.mem (by have:=w.len;omega) (by rw[u.1,u.2.2]) cl ck H (by rw[G,u.2.2])) ?_;try conv=>cbv
  refine⟨[(B,y)],fun _=>⟨rfl,by decide,rfl,⟨rfl,by first | exact t1 | exact t2 | exact t4 | simp[Aq,BG,cells],trivial⟩⟩,.inr ?_⟩;try conv=>cbv
  refine .inl ⟨[(B,y)],fun _=>⟨rfl,by show (1)*48<=140737488355328;(try simp only[List.length_take,List.length_drop]);omega⟩,?_⟩;intro aZ bA;conv=>cbv
  intro bj c9;conv=>cbv
  refine AI ?_;refine⟨24-(k'+1),?_,?_⟩
  ·omega
  rw[aH];have J:X[k']? =some a:=by (first | exact I | (rw[<-I];congr 1 <;> omega))
  refine .inr ⟨_,_,k'+1,0,bj,rfl,rfl,⟨⟨by omega⟩,by have:=Dm J;omega,by omega,by omega,bA⟩,?_,rfl⟩;rw[Ck (x:=a) J,V3,<-F];refine⟨by rw[HI,ad,List.nil_append,<-aa,H,G];rfl,?_⟩
  show AR 0 (C5 st a).2
  rw[Kg (.inl ad),bS];exact Ak 0
 conv=>cbv
 have ej:=hj.eq;have aE:=g.eq;obtain⟨Y,V,hV,f⟩:=Pe (X.take k');obtain⟨st,F⟩:∃s,s=runN (X.take k'):=⟨_,rfl⟩
 rw[<-F] at Y hV f;rw[<-F] at ho g aE;have hlen:st.1.length=k':=by rw[F,runN,V7,List.length_nil,List.length_take];omega
 have dt:o.length=k':=by rw[ho,List.length_map,hlen]
 have Q:st.1≠[]:=fun e=>by rw[e] at hlen;simp at hlen;omega
 have h:=Nat.le_trans hV Y;rintro cD ⟨c8,f22⟩;conv=>cbv
 intro bh ah;conv=>cbv
 cases bh <;> conv=>cbv
 ·have bf:=AY ah;exact AD ⟨⟨rfl,.inl ⟨_,rfl,by omega,congrArg _ (by have e:X.take 24=X.take k':=(by first | rw[show k'=24 by omega] | rw[List.take_of_length_le (by omega),List.take_of_length_le (by omega)]);rw[hL,hn,List.drop_zero,List.take_length,ho,F,e])⟩,trivial⟩,trivial⟩
 have bf:=AZ ah;intro cE bB;conv=>cbv
 cases cE <;> conv=>cbv
 ·have cz:=AY bB;exact AD ⟨⟨rfl,.inl ⟨_,rfl,by omega,congrArg _ (by have e:X.take 24=X.take k':=(by first | rw[show k'=24 by omega] | rw[List.take_of_length_le (by omega),List.take_of_length_le (by omega)]);rw[hL,hn,List.drop_zero,List.take_length,ho,F,e])⟩,trivial⟩,trivial⟩
 have cz:=AZ bB;refine .inr ?_;obtain⟨a,I⟩:=AL (l:=X) (i:=k') (by omega);refine⟨a,fun _=>⟨by omega,by rw[show (j).toNat=k' by omega];exact I⟩,?_⟩;try conv=>cbv
 intro bk ai;have b3:=ai.eq;have f33:=ai.lt;conv=>cbv
 intro aB S;have ag:=S.eq;have bw:=S.lt;conv=>cbv
 intro ab D;have a5:=D.eq;have b4:=D.lt;conv=>cbv
 intro R v;have K:=v.eq;have aF:=v.lt;conv=>cbv
 have cu:bk=((a.1.toNat:Nat):Int):=b3;have cv:aB=((a.2.1.toNat:Nat):Int):=ag;have cw:ab=((a.2.2.1.toNat:Nat):Int):=a5;have cx:R=((a.2.2.2.2.toNat:Nat):Int):=K;intro bm a6;conv=>cbv
 have a6:=wrap_i64 a6;have aj:bm=IT a.2.2.2.1:=a6;intro cI ca;conv=>cbv
 refine AH ?_;intro cK al;conv=>cbv
 have al:=wrap_i64 al;intro bn cb;conv=>cbv
 refine AI ?_;obtain⟨aK,a1⟩:=DS (em [] (Re.ofRat (Fg a)));have cy:=QE a.2.2.2.1;refine AB (r:= .agg [.sl (.sl AA) (([]:List LR)),.sl AA aK]) M (Qw (q:=Fg a) (by omega) (by omega) (by omega) (Ve aj (by show bn=((a.2.2.2.2.toNat%8+1:Nat):Int);omega)) a1) ?_;try conv=>cbv
 intro dv cc;have di:=cc.eq;conv=>cbv
 intro cL bC;conv=>cbv
 cases cL <;> conv=>cbv
 ·have c1:=Bf bC;exact absurd c1 (by omega)
 have c1:=Bg bC;intro dw dq;conv=>cbv
 refine AH ?_;intro cM bD;conv=>cbv
 obtain⟨c7,p⟩:=xK fun vs bl=>∃(T7:List LR) (A7:LR) (r7:Int),vs=[.one (.sl CT X),.one (.AQ An 157 0 0 n),.one (.int .i64 r7),.one (.int .i64 j),.one (.Ae 7 0 0)]/\bl=[.var 0 [.sl (.sl AA) T7,.sl AA A7],.arr 0 An o]/\(T7=tw (C5 st a).1.1/\A7=em (C5 st a).1.1 (C5 st a).1.2)/\AR r7 (C5 st a).2
 refine .inl ⟨[0,3,4,5,7],[7,157],c7,?_,?_⟩
 ·intro vs bl hj;rw[p] at hj;obtain⟨T7,A7,r7,rfl,rfl,⟨bK,bI⟩,bQ⟩:=hj;conv=>cbv
  have dp:=bQ.eq;intro db bx;have cV:=bx.eq;conv=>cbv
  intro c5 aR;conv=>cbv
  cases c5 <;> conv=>cbv
  ·have aY:=Bf aR;exact absurd aY (by omega)
  have aY:=Bg aR;obtain⟨bu,a8⟩:=EM (LB (C5 st a).1.1.reverse (co (C5 st a).1.1 (C5 st a).1.2));refine AB M (Y0 bK bI a8) ?_;conv=>cbv
  obtain⟨bt,a7⟩:=xK fun vs bl=>∃(T8:List LR) (A8:LR),vs=[.one (.sl CT X),.one (.AQ An 157 0 0 n),.one (.int .i64 r7),.one (.int .i64 j),.one (.Ae 7 0 0)]/\bl=[.var 0 [.sl (.sl AA) T8,.sl AA A8],.arr 0 An o]/\(T8=tw (E3 st.1 (C5 st a).1).1/\A8=em (E3 st.1 (C5 st a).1).1 (E3 st.1 (C5 st a).1).2)
  refine .inl ⟨[0,3,4,5,7],[7,157],bt,?_,?_⟩
  ·intro vs bl hj;rw[a7] at hj;obtain⟨T8,A8,rfl,rfl,bL,bJ⟩:=hj;conv=>cbv
   obtain⟨_,b2,cm,aS,bd⟩:=Kf (st:=st) ⟨Y,V,hV,f⟩ a;have cn:b2.length<=8:=by have:=(Kf (st:=st) ⟨Y,V,hV,f⟩ a).1;omega
   have w:=Oi (l:=st.1) (x:=(C5 st a).1) aS bd (fun he=>by rw[Kg (.inl he)];exact PR a);obtain⟨kk,aa⟩:∃z:Nu,z=E3 st.1 (C5 st a).1:=⟨_,rfl⟩
   rw[<-aa] at w;have u:=P4 w.red w.mem;rw[<-aa] at bL bJ;obtain⟨B,H⟩:=HF (tw (FB kk).1);obtain⟨y,G⟩:=DS (em (FB kk).1 (FB kk).2);refine AB (r:= .agg [.sl (.sl AA) B,.sl AA y]) M (RA w.red w.mem (by have:=w.len;omega) (by rw[u.1,u.2.2]) bL bJ H (by rw[G,u.2.2])) ?_;try conv=>cbv
   refine⟨[(B,y)],fun _=>⟨rfl,by decide,rfl,⟨rfl,by first | exact t1 | exact t2 | exact t4 | simp[Aq,BG,cells],trivial⟩⟩,.inr ?_⟩;try conv=>cbv
   refine .inl ⟨[(B,y)],fun _=>⟨rfl,by (first | rfl | omega),rfl,by show (o.length+1)*48<=140737488355328;(try simp only[List.length_take,List.length_drop]);omega⟩,?_⟩;intro (aA:List (el An)) aZ aC;have b9:aA=(o:List (el An))++([(B,y)]:List (el An)):=aC.1;have bb:aZ=List.length (α:=(el An)) aA:=aC.2;conv=>cbv
   intro bj c9;conv=>cbv
   refine AI ?_;refine⟨24-(k'+1),?_,?_⟩
   ·omega
   rw[aH];have J:X[k']? =some a:=by (first | exact I | (rw[<-I];congr 1 <;> omega))
   refine .inr ⟨aA,_,k'+1,r7,bj,rfl,rfl,⟨⟨by omega⟩,by have:=Dm J;omega,by omega,by omega,bb⟩,?_,rfl⟩;rw[Ck (x:=a) J,V3,<-F];exact⟨by rw[b9,ho,HI,List.map_append,<-aa,H,G];rfl,bQ⟩
  cases bu <;> conv=>cbv
  ·rw[a7];refine⟨_,_,rfl,rfl,?_⟩ <;> rw[cH (fun hl=>Bool.false_ne_true (a8.2 (UY.2 hl)))]
   exact⟨bK,bI⟩
  intro dc bz;have cW:=bz.eq;conv=>cbv
  intro dd cX;conv=>cbv
  refine AI ?_;refine AH ?_;intro bV cp;conv=>cbv
  obtain⟨c6,az⟩:=AL (l:=o) (i:=bV) (by omega);refine⟨c6,fun _=>az,?_⟩;try conv=>cbv
  rw[a7];obtain⟨u3,y3,bT,bU,ct⟩:=G3 ho az;refine⟨_,_,rfl,rfl,?_⟩ <;> rw[cF Q (UY.1 (a8.1 rfl)),cJ ct (by omega)]
  exact⟨bT,bU⟩
 cases cM <;> conv=>cbv
 ·have cA:=BY bD;rw[p];refine⟨_,_,_,rfl,rfl,?_,?_⟩ <;> rw[Kg (.inr (by omega))]
  ·exact⟨rfl,a1⟩
  exact g
 have cA:=BZ bD;intro cN bE;conv=>cbv
 have bE:=wrap_i64 bE;intro cO cd;have dj:=cd.eq;conv=>cbv
 intro cP cf;conv=>cbv
 refine AH ?_;obtain⟨d58,bM,dk,cq⟩:∃d:Nat,d=a.2.1.toNat%k'/\cP=d/\d<k':=⟨_,rfl,by rw[cf,show cN=((a.2.1.toNat:Nat):Int) by omega,show cO=(k':Int) by omega];exact (Int.natCast_emod _ _).symm,Nat.mod_lt _ bO⟩
 refine AH ?_;intro bW cZ;conv=>cbv
 obtain⟨aD,aW⟩:=AL (l:=o) (i:=bW) (by omega);refine⟨aD,fun _=>aW,?_⟩;try conv=>cbv
 intro cQ bF;conv=>cbv
 have bF:=wrap_i64 bF;intro cR cg;have dm:=cg.eq;conv=>cbv
 intro cS ch;conv=>cbv
 refine AH ?_;obtain⟨d67,bN,dn,cr⟩:∃d:Nat,d=a.2.2.1.toNat%k'/\cS=d/\d<k':=⟨_,rfl,by rw[ch,show cQ=((a.2.2.1.toNat:Nat):Int) by omega,show cR=(k':Int) by omega];exact (Int.natCast_emod _ _).symm,Nat.mod_lt _ bO⟩
 refine AH ?_;intro bX da;conv=>cbv
 obtain⟨bs,aX⟩:=AL (l:=o) (i:=bX) (by omega);refine⟨bs,fun _=>aX,?_⟩;try conv=>cbv
 refine g2 rfl ?_;obtain⟨u1,y1,m,t,O⟩:=G3 ho aW;obtain⟨u2,y2,ae,af,P⟩:=G3 ho aX;have N:=List.mem_of_getElem? O;have au:=List.mem_of_getElem? P;have U:bW=a.2.1.toNat%st.1.length:=by rw[hlen,<-bM];omega
 have W:bX=a.2.2.1.toNat%st.1.length:=by rw[hlen,<-bN];omega
 have ar:=((f _ N).el h).mono (by decide:512<=Rm);have b6:=((f _ au).el h).mono (by decide:512<=Rm);intro dx dr;conv=>cbv
 refine AH ?_;refine .inr ?_;intro cU bH;conv=>cbv
 refine .inr ?_;cases cU <;> conv=>cbv
 ·have cC:=AN bH;intro c2 aO;conv=>cbv
  refine .inr ?_;cases c2 <;> conv=>cbv
  ·have bY:=AN aO;intro c3 aP;conv=>cbv
   refine .inr ?_;cases c3 <;> conv=>cbv
   ·have bZ:=AN aP;intro c4 aQ;conv=>cbv
    refine .inr ?_;cases c4 <;> conv=>cbv
    ·have c0:=AN aQ;obtain⟨dy,bR⟩:=xI (BJ y1);refine AB M (Jt (FY h f (Nat.le_refl Rm)) (EB h f N) m t ar bR) ?_;conv=>cbv
     intro cT bG;conv=>cbv
     refine .inr ?_;cases cT <;> conv=>cbv
     ·have cB:=AY bG;intro bo an;conv=>cbv
      refine .inr ?_;cases bo <;> conv=>cbv
      ·have bg:=AY an;rw[p];have b:=Hh (o:=a) Q (by omega:a.1.toNat%6≠0);rw[get_eq O U,get_eq P W] at b;rw[show a.1.toNat%6=5 by omega,U9 _ _ (by omega)] at b;refine⟨_,_,_,rfl,rfl,?_,?_⟩ <;> rw[b]
       ·exact⟨m,t⟩
       exact g
      have bg:=AZ an;intro bp cj;conv=>cbv
      refine AI ?_;have ao:=(f _ N).abs;have aq:Cy y1=y1:=by unfold Cy;rw[if_neg (WJ (by omega))]
      obtain⟨hG,b7,b8⟩:=Vs ao (by omega) (Ib _) (Nat.le_refl Rm);obtain⟨br,a2⟩:=HF (tw (BM u1 (Cy y1)));obtain⟨bq,Z⟩:=DS (em (BM u1 (Cy y1)) (Re.sqrt (Cy y1)));refine AB (r:= .AJ [(true,[.sl (.sl AA) br,.sl AA bq]),(false,[.int .i64 0])]) M (Qy hG b7 m (by show _=em u1 (Cy y1);rw[aq];exact t) ((ao.el h).mono (by decide)) b8 (Ib _) a2 Z) ?_;try conv=>cbv
      refine AB M IZ ?_;conv=>cbv
      rw[p];have b:=Hh (o:=a) Q (by omega:a.1.toNat%6≠0);rw[get_eq O U,get_eq P W] at b;rw[show a.1.toNat%6=5 by omega,VA _ _ (by omega)] at b;refine⟨_,_,_,rfl,rfl,?_,?_⟩ <;> rw[b]
      ·exact⟨a2,Z⟩
      exact⟨by show bp=((st.2+1:Nat):Int);omega⟩
     have cB:=AZ bG;obtain⟨dz,aT⟩:=DS (em u1 (-y1));refine AB M (NV (FY h f (Nat.le_refl Rm)) (EB h f N) m t ar aT) ?_;conv=>cbv
     intro bo an;conv=>cbv
     refine .inr ?_;cases bo <;> conv=>cbv
     ·have bg:=AY an;rw[p];have b:=Hh (o:=a) Q (by omega:a.1.toNat%6≠0);rw[get_eq O U,get_eq P W] at b;rw[show a.1.toNat%6=5 by omega,U9 _ _ (by omega)] at b;refine⟨_,_,_,rfl,rfl,?_,?_⟩ <;> rw[b]
      ·exact⟨m,t⟩
      exact g
     have bg:=AZ an;intro bp cj;conv=>cbv
     refine AI ?_;have ao:=(f _ N).abs;have aq:Cy y1= -y1:=by unfold Cy;rw[if_pos (WK (by omega))]
     obtain⟨hG,b7,b8⟩:=Vs ao (by omega) (Ib _) (Nat.le_refl Rm);obtain⟨br,a2⟩:=HF (tw (BM u1 (Cy y1)));obtain⟨bq,Z⟩:=DS (em (BM u1 (Cy y1)) (Re.sqrt (Cy y1)));refine AB (r:= .AJ [(true,[.sl (.sl AA) br,.sl AA bq]),(false,[.int .i64 0])]) M (Qy hG b7 m (by show _=em u1 (Cy y1);rw[aq];exact aT) ((ao.el h).mono (by decide)) b8 (Ib _) a2 Z) ?_;try conv=>cbv
     refine AB M IZ ?_;conv=>cbv
     rw[p];have b:=Hh (o:=a) Q (by omega:a.1.toNat%6≠0);rw[get_eq O U,get_eq P W] at b;rw[show a.1.toNat%6=5 by omega,VA _ _ (by omega)] at b;refine⟨_,_,_,rfl,rfl,?_,?_⟩ <;> rw[b]
     ·exact⟨a2,Z⟩
     exact⟨by show bp=((st.2+1:Nat):Int);omega⟩
    have c0:=AO aQ;obtain⟨aM,aL,b1,b0,aN,b5,ba,aI,aG,bc⟩:=ak h f N au (r:=st.2);refine .inl ⟨[.agg [.sl (.sl AA) aD.1,.sl AA aD.2],.agg [.sl (.sl AA) bs.1,.sl AA bs.2]],.AJ [(true,[.sl (.sl AA) aM,.sl AA aL]),(false,[.int .i64 aN])],fun _=>⟨t2,t2,trivial⟩,fun _=>ES M (by rw[m,t,ae,af];exact b5),?_⟩;try conv=>cbv
    refine .inl ⟨[.agg [.sl (.sl AA) aM,.sl AA aL],.one (.int .i64 aN),.agg [.sl (.sl AA) aD.1,.sl AA aD.2]],.agg [.sl (.sl AA) b1,.sl AA b0],fun _=>⟨t2,rfl,t2,trivial⟩,fun _=>ES M (by rw[m,t];exact ba),?_⟩;try conv=>cbv
    rw[p];have b:=Hh (o:=a) Q (by omega:a.1.toNat%6≠0);rw[get_eq O U,get_eq P W] at b;rw[show a.1.toNat%6=4 by omega] at b;refine⟨_,_,_,rfl,rfl,?_,?_⟩ <;> rw[b]
    ·exact⟨aI,aG⟩
    rw[bc];exact g
   have bZ:=AO aP;obtain⟨dh,ay⟩:=HF (tw (Bm u1 u2));obtain⟨df,aw⟩:=DS (em (Bm u1 u2) (y1*y2));refine AB M (Qx (FY h f (Nat.le_refl Rm)) (EB h f N) (EB h f au) m ae t af ar b6 ay aw) ?_;conv=>cbv
   refine AB M IZ ?_;conv=>cbv
   rw[p];have b:=Hh (o:=a) Q (by omega:a.1.toNat%6≠0);rw[get_eq O U,get_eq P W] at b;rw[show a.1.toNat%6=3 by omega,dU] at b;refine⟨_,_,_,rfl,rfl,?_,?_⟩ <;> rw[b]
   ·exact⟨ay,aw⟩
   exact g
  have bY:=AO aO;obtain⟨dg,ax⟩:=HF (tw (Bm u1 u2));obtain⟨de,av⟩:=DS (em (Bm u1 u2) (y1-y2));refine AB M (Qz (FY h f (Nat.le_refl Rm)) (EB h f N) (EB h f au) m ae t af ar b6 ax av) ?_;conv=>cbv
  refine AB M IZ ?_;conv=>cbv
  rw[p];have b:=Hh (o:=a) Q (by omega:a.1.toNat%6≠0);rw[get_eq O U,get_eq P W] at b;rw[show a.1.toNat%6=2 by omega,dV] at b;refine⟨_,_,_,rfl,rfl,?_,?_⟩ <;> rw[b]
  ·exact⟨ax,av⟩
  exact g
 have cC:=AO bH;obtain⟨dB,aV⟩:=HF (tw (Bm u1 u2));obtain⟨dA,aU⟩:=DS (em (Bm u1 u2) (y1+y2));refine AB M (Qv (FY h f (Nat.le_refl Rm)) (EB h f N) (EB h f au) m ae t af ar b6 aV aU) ?_;conv=>cbv
 refine AB M IZ ?_;conv=>cbv
 rw[p];have b:=Hh (o:=a) Q (by omega:a.1.toNat%6≠0);rw[get_eq O U,get_eq P W] at b;rw[show a.1.toNat%6=1 by omega,dR] at b;refine⟨_,_,_,rfl,rfl,?_,?_⟩ <;> rw[b]
 ·exact⟨aV,aU⟩
 exact g
end Go.Abs
namespace Go.Abs
def qn (k:Nat):Re:=Re.ofRat ((k:Nat):Rat)
noncomputable def rtN (k:Nat):Nu:=(BM [] (qn k),Re.sqrt (qn k))
noncomputable def iR (k:Nat):Nu:=([],qn k)
noncomputable def bB:Re:=qn 5+qn 2*Re.sqrt (qn 6)
def PA (u:List (List Rat)):Prop:=u<:+BM [[6]] bB\/u<:+BM [] (qn 2)\/u<:+BM [] (qn 3)
end Go.Abs
namespace Go.Abs
open Go.RowKit
theorem ia (X:List (el CT)):∃V:List Re,V.length<=3/\∀n∈(runN X).1,CL V n:=by
 obtain⟨a,V,b,d⟩:=Pe X;exact⟨V,Nat.le_trans b a,d⟩
instance (q:Rat):Decidable (CY q):=inferInstanceAs (Decidable (_/\_))
theorem fN {q:Rat} (h:CY q):Bt q:=⟨by have:=MM.2 h.1;omega,by have:=MM.2 h.2;omega⟩
end Go.Abs
