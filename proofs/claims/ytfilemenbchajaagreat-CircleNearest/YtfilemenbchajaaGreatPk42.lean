/- Part 43 of a proof. Conditions: each theorem's own. -/
import Derived.Test.YtfilemenbchajaaGreatPk41
set_option linter.all false
set_option maxHeartbeats 8000000
set_option maxRecDepth 20000
open Go.Proofs
namespace Go.Abs
open Go.RowKit
variable {A A1 A2 C:LR} {L:List (el Am)} {T T1 T2 o:List LR} {c:Bool} {i' k:Nat} {ns:List Nu} {q:Rat} {s xs:List Rat} {ts:List (List Rat)}
theorem Ox {i:Nat} (h:xs[k]? =some q):CN i k (xs.drop k)=((EY k i&&q !=0)||CN i (k+1) (xs.drop (k+1))):=by
 have a:=Gd h;rw[List.drop_eq_getElem_cons a,CN];rw[List.getElem?_eq_getElem a] at h;rw[Option.some.inj h]
theorem cV {i:Nat} (h:k<xs.length) (hb:EY k i=false):CN i k (xs.drop k)=CN i (k+1) (xs.drop (k+1)):=by
 obtain⟨q,a⟩:=AG h;rw[Ox a,hb];rfl
theorem M1 {i:Nat} (h:xs[k]? =some q):BV i 0 (xs.take (k+1))=BV i 0 (xs.take k)++(if EY k i=true then [] else [q]):=by
 have a:=Gd h;rw[Bi h,My,Nat.zero_add,List.length_take,Nat.min_eq_left (by omega),BV,BV]
theorem WZ (i:Nat):∀(k:Nat) (l:List Rat),(BV i k l).length<=l.length
 | _,[]=>Nat.le_refl _
 | k,x::l=>by
  rw[BV];have:=WZ i (k+1) l
  split
  ·rw[List.length_cons];omega
  rw[List.length_cons,List.length_cons];omega
theorem No {i:Nat} {b a:Int} (d:b=((k/2^i:Nat):Int)) (f:a=b%2):(EY k i=true↔a=1)/\(EY k i=false↔a=0):=by
 unfold EY
 constructor
 ·rw[beq_iff_eq];omega
 rw[beq_eq_false_iff_ne];omega
theorem L5 {n:Nat}:(AR n).length<=2↔n<18446744073709551616:=by
 constructor
 ·intro h;have a:=CL (AR n);rw[BB] at a;exact Nat.lt_of_lt_of_le a (Nat.pow_le_pow_right (by decide) (by omega:32*(AR n).length<=64))
 intro h;exact E2 (k:=2) h
theorem HZ {b1 b2:Bool} {l1 l2:List UInt32} (h:BM q b1 l1 b2 l2):Bz q↔l1.length<=2/\l2.length<=2:=by
 have a:=h.num.BI;have b:=h.den.BI;rw[a,b,L5,L5];unfold Bz;rw[Int.natAbs_natCast]
theorem eo (h:Dk q=0):q=0:=by
 unfold Dk Bu at h
 split at h
 ·omega
 split at h
 ·exact Rat.num_eq_zero.1 (by assumption)
 omega
theorem WE {p:Rat->Prop} (h:∀x∈xs.take k,p x) (d:xs[k]? =some q) (b:p q):∀x∈xs.take (k+1),p x:=by
 intro x a;rw[Bi d] at a;rcases List.mem_append.1 a with a | a
 ·exact h x a
 rw[List.mem_singleton.1 a];exact b
theorem Q3 {i:Int} (N:A=Ao xs) (T:AS i i') (h6:i'<=60) (O:c=CN i' 0 xs):CF 248 [.one (.sl AA A),.one (.int .i64 i)] (.one (.bool c)):=by
 have ei:=T.eq;have R:A.length=xs.length:=by rw[N,List.length_map]
 refine AH Tryz.func248 (by kernel_rfl) rfl fun E S=>?_
 conv=>cbv
 refine .inr ?_;obtain⟨P,a⟩:=xJ fun vs Q k=>∃(k':Nat) (j:Int),vs=[.one (.sl AA A),.one (.int .i64 i),.one (.int .i64 j)]/\(AS j k'/\k'<=xs.length)/\CN i' 0 xs=CN i' k' (xs.drop k')/\k=xs.length-k'
 refine⟨[0,1,5],[],P,⟨xs.length-0,by rw[a];exact⟨0,0,rfl,⟨BC 0,by omega⟩,by rw[List.drop_zero],rfl⟩⟩,?_⟩;intro vs Q X y;rw[a] at y;obtain⟨k',j,rfl,⟨y,U⟩,hinv,V⟩:=y;conv=>cbv
 have ej:=y.eq;rintro n8 ⟨e8,f8⟩;conv=>cbv
 intro Z M;conv=>cbv
 cases Z <;> conv=>cbv
 ·have W:=Ad M;exact fA ⟨⟨rfl,congrArg _ (by rw[O,hinv,show k'=xs.length by omega,List.drop_length];rfl),trivial⟩,trivial⟩ rfl (by simp)
 have W:=Ae M;refine .inr ?_;intro H D;conv=>cbv
 refine g2 (by omega) ?_;obtain⟨d14,t,z⟩:∃d:Nat,d=k'/2^i'/\H=d:=⟨_,rfl,shr_var (p:=k') (e:=i') D (by omega) (by omega) (by show i'<=64;omega)⟩
 intro Y F;conv=>cbv
 refine g2 (by omega) ?_;have b:=No (k:=k') (i:=i') (by rw[z,t]) F;intro I n;conv=>cbv
 cases I <;> conv=>cbv
 ·have v:=Au n;intro m B;conv=>cbv
  refine g1 (by omega) ?_;refine⟨xs.length-(k'+1),?_,?_⟩
  ·omega
  rw[a];refine⟨k'+1,m,rfl,⟨⟨by omega⟩,by omega⟩,?_,rfl⟩;rw[hinv,cV (by omega) (b.2.2 (by omega))]
 have v:=Av n;obtain⟨K,h⟩:=AG (l:=A) (i:=k') (by omega);refine⟨K,fun _=>⟨by omega,by rw[show (j).toNat=k' by omega];exact h⟩,?_⟩;try conv=>cbv
 obtain⟨x,u,f,_⟩:=HC N h;obtain⟨a1,g⟩:=xI (Dk x);refine cL S (Qq u g) ⟨t4,trivial⟩ ?_;try conv=>cbv
 intro J r;conv=>cbv
 cases J <;> conv=>cbv
 ·have w:=Dg r;intro m B;conv=>cbv
  refine g1 (by omega) ?_;refine⟨xs.length-(k'+1),?_,?_⟩
  ·omega
  rw[a];refine⟨k'+1,m,rfl,⟨⟨by omega⟩,by omega⟩,?_,rfl⟩;have G:x=0:=eo (by omega);rw[hinv,Ox f,G];simp
 have w:=Dh r;exact fA ⟨⟨rfl,congrArg _ (by rw[O,hinv,Ox f,b.1.2 v,bne_iff_ne.2 (fun e=>w (by rw[g,e];rfl))];rfl),trivial⟩,trivial⟩ rfl (by simp)
theorem RA {i:Int} (V:A=Ao xs) (hi:AS i i') (h6:i'<=60) (hl:xs.length<=1000000) (Z:C=Ao (BV i' 0 xs)):CF 249 [.one (.sl AA A),.one (.int .i64 i)] (.one (.sl AA C)):=by
 have ei:=hi.eq;have a1:A.length=xs.length:=by rw[V,List.length_map]
 refine AH Tryz.func249 (by kernel_rfl) rfl fun E hE=>?_
 conv=>cbv
 refine .inr ?_;obtain⟨J0,h⟩:=xJ fun vs T k=>(∃(k':Nat) (j:Int),vs=[.one (.sl AA A),.one (.int .i64 i),.one .nil,.one (.int .i64 j)]/\T=[.dead 0]/\(AS j k'/\k'<=xs.length)/\BV i' 0 (xs.take k')=[]/\k=xs.length-k')\/(∃(o:LR) (n k':Nat) (j:Int),vs=[.one (.sl AA A),.one (.int .i64 i),.one (.AT AA 24 0 0 n),.one (.int .i64 j)]/\T=[.arr 0 AA o]/\(AS j k'/\k'<=xs.length/\n=o.length)/\o=Ao (BV i' 0 (xs.take k'))/\k=xs.length-k')
 refine⟨[0,1,5,6],[24],J0,⟨xs.length-0,by rw[h];exact .inl ⟨0,0,rfl,rfl,⟨BC 0,by omega⟩,rfl,rfl⟩⟩,?_⟩;intro vs T a5 N;rw[h] at N;rcases N with⟨k',j,rfl,rfl,⟨N,W⟩,hinv,X⟩ |⟨o,n,k',j,rfl,rfl,⟨N,W,hn⟩,hinv,X⟩
 ·conv=>cbv
  have ej:=N.eq;rintro n9 ⟨e9,f9⟩;conv=>cbv
  intro J m;conv=>cbv
  cases J <;> conv=>cbv
  ·have G:=Ad m;exact fA ⟨⟨rfl,.inr (.inl ⟨_,congrArg _ (by rw[Z];rw[show k'=xs.length by omega,List.take_length] at hinv;rw[hinv];rfl)⟩),trivial⟩,trivial⟩ rfl (by simp)
  have G:=Ae m;refine .inr ?_;intro K z;conv=>cbv
  refine g2 (by omega) ?_;obtain⟨d15,t,x⟩:∃d:Nat,d=k'/2^i'/\K=d:=⟨_,rfl,shr_var (p:=k') (e:=i') z (by omega) (by omega) (by show i'<=64;omega)⟩
  intro Y B;conv=>cbv
  refine g2 (by omega) ?_;have b:=No (k:=k') (i:=i') (by rw[x,t]) B;intro M r;conv=>cbv
  refine .inr ?_;cases M <;> conv=>cbv
  ·have H:=Au r;intro g y;conv=>cbv
   refine g1 (by omega) ?_;refine⟨xs.length-(k'+1),?_,?_⟩
   ·omega
   rw[h];obtain⟨qq,D⟩:=AG (l:=xs) (i:=k') (by omega);exact .inl ⟨k'+1,g,rfl,rfl,⟨⟨by omega⟩,by omega⟩,by rw[M1 D,hinv,if_pos (b.1.2 (by omega))];rfl,rfl⟩
  have H:=Av r
  obtain⟨v,R,u,F⟩:∃q,BM q (rp q).1.1 (rp q).1.2 (rp q).2.1 (rp q).2.2/\xs[k']? =some q/\A[k']? =some (rp q):=by
   obtain⟨q,Q⟩:=AG (l:=xs) (i:=k') (by omega);exact⟨q,E1 q,Q,by rw[V,List.getElem?_map,Q];rfl⟩
  obtain⟨a,f⟩:=AG (l:=A) (i:=k') (by omega);refine⟨a,fun _=>⟨by omega,by rw[show (j).toNat=k' by omega];exact f⟩,?_⟩;try conv=>cbv
  refine⟨[((a.1.1,a.1.2),(a.2.1,a.2.2))],fun _=>⟨rfl,by decide,rfl,⟨rfl,by first | exact t1 | exact t2 | exact t4 | simp[Aw,BF,cells],trivial⟩⟩,.inr ?_⟩;try conv=>cbv
  refine .inl ⟨[((a.1.1,a.1.2),(a.2.1,a.2.2))],fun _=>⟨rfl,by show (1)*64<=140737488355328;(try simp only[List.length_take,List.length_drop]);omega⟩,?_⟩;intro S U;conv=>cbv
  intro g y;conv=>cbv
  refine g1 (by omega) ?_;refine⟨xs.length-(k'+1),?_,?_⟩
  ·omega
  rw[h];have ex:a=rp v:=by have:=f.symm.trans F;exact Option.some.inj this
  refine .inr ⟨_,_,k'+1,g,rfl,rfl,⟨⟨by omega⟩,by omega,U⟩,?_,rfl⟩;rw[M1 u,if_neg (by rw[b.2.2 (by omega)];decide)];rw[hinv];show _=[rp v];rw[<-ex]
 conv=>cbv
 have ej:=N.eq;have a2:o.length<=xs.length:=by rw[hinv,List.length_map];have:=WZ i' 0 (xs.take k');rw[List.length_take] at this;omega
 rintro n9 ⟨e9,f9⟩;conv=>cbv
 intro J m;conv=>cbv
 cases J <;> conv=>cbv
 ·have G:=Ad m;exact fA ⟨⟨rfl,.inl ⟨_,rfl,by omega,congrArg _ (by rw[Z,hn,List.drop_zero,List.take_length,hinv,show k'=xs.length by omega,List.take_length])⟩,trivial⟩,trivial⟩ rfl (by simp)
 have G:=Ae m;refine .inr ?_;intro K z;conv=>cbv
 refine g2 (by omega) ?_;obtain⟨d15,t,x⟩:∃d:Nat,d=k'/2^i'/\K=d:=⟨_,rfl,shr_var (p:=k') (e:=i') z (by omega) (by omega) (by show i'<=64;omega)⟩
 intro Y B;conv=>cbv
 refine g2 (by omega) ?_;have b:=No (k:=k') (i:=i') (by rw[x,t]) B;intro M r;conv=>cbv
 refine .inr ?_;cases M <;> conv=>cbv
 ·have H:=Au r;intro g y;conv=>cbv
  refine g1 (by omega) ?_;refine⟨xs.length-(k'+1),?_,?_⟩
  ·omega
  rw[h];obtain⟨qq,D⟩:=AG (l:=xs) (i:=k') (by omega);exact .inr ⟨o,n,k'+1,g,rfl,rfl,⟨⟨by omega⟩,by omega,hn⟩,by rw[M1 D,if_pos (b.1.2 (by omega)),List.append_nil];exact hinv,rfl⟩
 have H:=Av r
 obtain⟨v,R,u,F⟩:∃q,BM q (rp q).1.1 (rp q).1.2 (rp q).2.1 (rp q).2.2/\xs[k']? =some q/\A[k']? =some (rp q):=by
  obtain⟨q,Q⟩:=AG (l:=xs) (i:=k') (by omega);exact⟨q,E1 q,Q,by rw[V,List.getElem?_map,Q];rfl⟩
 obtain⟨a,f⟩:=AG (l:=A) (i:=k') (by omega);refine⟨a,fun _=>⟨by omega,by rw[show (j).toNat=k' by omega];exact f⟩,?_⟩;try conv=>cbv
 refine⟨[((a.1.1,a.1.2),(a.2.1,a.2.2))],fun _=>⟨rfl,by decide,rfl,⟨rfl,by first | exact t1 | exact t2 | exact t4 | simp[Aw,BF,cells],trivial⟩⟩,.inr ?_⟩;try conv=>cbv
 refine .inl ⟨[((a.1.1,a.1.2),(a.2.1,a.2.2))],fun _=>⟨rfl,by (first | rfl | omega),rfl,by show (o.length+1)*64<=140737488355328;(try simp only[List.length_take,List.length_drop]);omega⟩,?_⟩;intro (I:LR) S w;have O:I=(o:LR)++([((a.1.1,a.1.2),(a.2.1,a.2.2))]:LR):=w.1;have P:S=List.length (α:=(el AA)) I:=w.2;conv=>cbv
 intro g y;conv=>cbv
 refine g1 (by omega) ?_;refine⟨xs.length-(k'+1),?_,?_⟩
 ·omega
 rw[h];have ex:a=rp v:=by have:=f.symm.trans F;exact Option.some.inj this
 refine .inr ⟨I,_,k'+1,g,rfl,rfl,⟨⟨by omega⟩,by omega,P⟩,?_,rfl⟩;rw[M1 u,if_neg (by rw[b.2.2 (by omega)];decide)];rw[O,hinv];show _=List.map rp _;rw[List.map_append];show _=Ao _++[rp v];rw[<-ex]
theorem IU:CF 189 [.agg [.sl (.sl AA) T1,.sl AA A1],.one (.int .i64 0),.agg [.sl (.sl AA) T2,.sl AA A2]] (.agg [.sl (.sl AA) T1,.sl AA A1]):=by
 refine AH Tryz.func189 (by kernel_rfl) rfl fun E b=>?_
 conv=>cbv
 intro d a;cases a.trans (show _=false by decide);conv=>cbv
 exact fA ⟨t3,trivial⟩ rfl (by simp)
theorem YA:CF 189 [.agg [.sl (.sl AA) T1,.sl AA A1],.one (.int .i64 6),.agg [.sl (.sl AA) T2,.sl AA A2]] (.agg [.sl (.sl AA) T2,.sl AA A2]):=by
 refine AH Tryz.func189 (by kernel_rfl) rfl fun E b=>?_
 conv=>cbv
 intro d a;cases a.trans (show _=true by decide);conv=>cbv
 exact fA ⟨t3,trivial⟩ rfl (by simp)
theorem gG (h:∀x∈ts.take k,∀q∈x,Bz q) (d:ts[k]? =some s) (b:∀q∈s,Bz q):∀x∈ts.take (k+1),∀q∈x,Bz q:=by
 intro x a;rw[Bi d] at a;rcases List.mem_append.1 a with a | a
 ·exact h x a
 rw[List.mem_singleton.1 a];exact b
def Ku (ts:List (List Rat)) (xs:List Rat):Prop:=(∃q∈xs,¬Bz q)\/∃s∈ts,∃q∈s,¬Bz q
theorem X9 (hT:T=ts.map Ao) (hA:A=Ao xs) (hc:c=true↔Ku ts xs):CF 190 [.agg [.sl (.sl AA) T,.sl AA A]] (.one (.bool c)):=by
 have aM:A.length=xs.length:=by rw[hA,List.length_map]
 have aN:T.length=ts.length:=by rw[hT,List.length_map]
 refine AH Tryz.func190 (by kernel_rfl) rfl fun E hE=>?_
 conv=>cbv
 refine .inr ?_;obtain⟨J0,J⟩:=xJ fun vs v k=>∃(k':Nat) (j:Int),vs=[.one (.AD 1 0 0),.one (.bool false),.one (.int .i64 j)]/\v=[.var 0 [.sl (.sl AA) T,.sl AA A]]/\(AS j k'/\k'<=xs.length)/\(∀q∈xs.take k',Bz q)/\k=xs.length-k'
 refine⟨[1,2,3],[1],J0,⟨xs.length-0,by rw[J];exact⟨0,0,rfl,rfl,⟨BC 0,by omega⟩,by simp,rfl⟩⟩,?_⟩;intro vs v aV r;rw[J] at r;obtain⟨k',j,rfl,rfl,⟨r,aO⟩,hinv,aP⟩:=r;conv=>cbv
 have ej:=r.eq;rintro aY ⟨aC,f10⟩;conv=>cbv
 intro ah V;conv=>cbv
 cases ah <;> conv=>cbv
 ·have a8:=Ad V;refine .inr ?_;obtain⟨J1,K⟩:=xJ fun vs v k=>∃(m':Nat) (m:Int),vs=[.one (.AD 1 0 0),.one (.bool false),.one (.int .i64 m)]/\v=[.var 0 [.sl (.sl AA) T,.sl AA A]]/\(AS m m'/\m'<=ts.length)/\(∀s∈ts.take m',∀q∈s,Bz q)/\k=ts.length-m'
  refine⟨[1,2,4],[1],J1,⟨ts.length-0,by rw[K];exact⟨0,0,rfl,rfl,⟨BC 0,by omega⟩,by simp,rfl⟩⟩,?_⟩;intro vs v aW r;rw[K] at r;obtain⟨m',m,rfl,rfl,⟨hm,aS⟩,w,aQ⟩:=r;conv=>cbv
  have em:=hm.eq;rintro b0 ⟨aF,f37⟩;conv=>cbv
  intro an Y;conv=>cbv
  cases an <;> conv=>cbv
  ·have ad:=Ad Y;exact fA ⟨⟨rfl,congrArg _ (by rw[Bool.eq_false_iff];intro h;rcases hc.1 h with⟨q,hq,hn⟩ |⟨s,hs,q,hq,hn⟩;exact hn (hinv q (by rw[List.take_of_length_le (by omega)];exact hq));exact hn (w s (by rw[List.take_of_length_le (by omega)];exact hs) q hq)),trivial⟩,trivial⟩ rfl (by simp)
  have ad:=Ae Y;refine .inr ?_
  obtain⟨s2,x,P⟩:∃s,T[m']? =some (Ao s)/\ts[m']? =some s:=by
   obtain⟨s,hs⟩:=AG (l:=ts) (i:=m') (by omega);exact⟨s,by rw[hT,List.getElem?_map,hs];rfl,hs⟩
  refine .inr ?_;obtain⟨J2,M⟩:=xJ fun vs v k=>∃(t:Nat) (p:Int),vs=[.one (.AD 1 0 0),.one (.bool false),.one (.int .i64 m),.one (.int .i64 p)]/\v=[.var 0 [.sl (.sl AA) T,.sl AA A]]/\(AS p t/\t<=s2.length)/\(∀q∈s2.take t,Bz q)/\k=s2.length-t
  refine⟨[1,2,4,5],[1],J2,⟨s2.length-0,by rw[M];exact⟨0,0,rfl,rfl,⟨BC 0,by omega⟩,by simp,rfl⟩⟩,?_⟩;intro vs v aX r;rw[M] at r;obtain⟨t,p,rfl,rfl,⟨hp,aT⟩,d,aR⟩:=r;conv=>cbv
  have ep:=hp.eq;obtain⟨R,z⟩:=AG (l:=T) (i:=m') (by omega);refine⟨R,fun _=>⟨by omega,by rw[show (m).toNat=m' by omega];exact z⟩,?_⟩;try conv=>cbv
  have a5:R=Ao s2:=Option.some.inj (z.symm.trans x);have aU:R.length=s2.length:=by rw[a5,List.length_map]
  rintro b2 ⟨aG,f47⟩;conv=>cbv
  intro ao Z;conv=>cbv
  cases ao <;> conv=>cbv
  ·have ae:=Ad Z;intro b1 aK;conv=>cbv
   refine g1 (by omega) ?_;refine⟨ts.length-(m'+1),?_,?_⟩
   ·omega
   rw[K];exact⟨m'+1,_,rfl,rfl,⟨⟨by omega⟩,by omega⟩,gG w P (by rw[show t=s2.length by omega,List.take_length] at d;exact d),rfl⟩
  have ae:=Ae Z;refine .inr ?_;obtain⟨u,B⟩:=AG (l:=T) (i:=m') (by omega);refine⟨u,fun _=>⟨by omega,by rw[show (m).toNat=m' by omega];exact B⟩,?_⟩;try conv=>cbv
  have S:u=Ao s2:=Option.some.inj (B.symm.trans x);have aB:u.length=s2.length:=by rw[S,List.length_map]
  obtain⟨b,D⟩:=AG (l:=u) (i:=t) (by omega);refine⟨b,fun _=>⟨by omega,by rw[show (p).toNat=t by omega];exact D⟩,?_⟩;try conv=>cbv
  obtain⟨q3,a7,O,_⟩:=HC S D;have g:BM q3 b.1.1 b.1.2 b.2.1 b.2.2:=a7;intro aq H;have aH:=H.eq;have f62:=H.le;conv=>cbv
  have ay:aq=((List.length b.1.2:Nat):Int):=H.eq;intro ar a1;conv=>cbv
  cases ar <;> conv=>cbv
  ·have af:=CA a1;intro au I;have aI:=I.eq;have f68:=I.le;conv=>cbv
   have az:au=((List.length b.2.2:Nat):Int):=I.eq;intro av a2;conv=>cbv
   cases av <;> conv=>cbv
   ·have ag:=CA a2;intro b3 aL;conv=>cbv
    refine g1 (by omega) ?_;refine⟨s2.length-(t+1),?_,?_⟩
    ·omega
    rw[M];exact⟨t+1,_,rfl,rfl,⟨⟨by omega⟩,by omega⟩,WE d O ((HZ g).2 ⟨by omega,by omega⟩),rfl⟩
   have ag:=CB a2;exact fA ⟨⟨rfl,congrArg _ (hc.2 (.inr ⟨s2,List.mem_of_getElem? P,q3,List.mem_of_getElem? O,fun h=>by have:=(HZ g).1 h;omega⟩)),trivial⟩,trivial⟩ rfl (by simp)
  have af:=CB a1;exact fA ⟨⟨rfl,congrArg _ (hc.2 (.inr ⟨s2,List.mem_of_getElem? P,q3,List.mem_of_getElem? O,fun h=>by have:=(HZ g).1 h;omega⟩)),trivial⟩,trivial⟩ rfl (by simp)
 have a8:=Ae V;refine .inr ?_;obtain⟨a,n⟩:=AG (l:=A) (i:=k') (by omega);refine⟨a,fun _=>⟨by omega,by rw[show (j).toNat=k' by omega];exact n⟩,?_⟩;try conv=>cbv
 obtain⟨q1,a6,N,_⟩:=HC hA n;have f:BM q1 a.1.1 a.1.2 a.2.1 a.2.2:=a6;intro ai F;have aD:=F.eq;have f21:=F.le;conv=>cbv
 have aw:ai=((List.length a.1.2:Nat):Int):=F.eq;intro aj W;conv=>cbv
 cases aj <;> conv=>cbv
 ·have aa:=CA W;obtain⟨Q,y⟩:=AG (l:=A) (i:=k') (by omega);refine⟨Q,fun _=>⟨by omega,by rw[show (j).toNat=k' by omega];exact y⟩,?_⟩;try conv=>cbv
  have U:=Option.some.inj (y.symm.trans n);have aA:List.length Q.2.2=List.length a.2.2:=by rw[U]
  intro ak G;have aE:=G.eq;have f31:=G.le;conv=>cbv
  have ax:ak=((List.length Q.2.2:Nat):Int):=G.eq;intro al X;conv=>cbv
  cases al <;> conv=>cbv
  ·have ab:=CA X;intro aZ aJ;conv=>cbv
   refine g1 (by omega) ?_;refine⟨xs.length-(k'+1),?_,?_⟩
   ·omega
   rw[J];exact⟨k'+1,_,rfl,rfl,⟨⟨by omega⟩,by omega⟩,WE hinv N ((HZ f).2 ⟨by omega,by omega⟩),rfl⟩
  have ab:=CB X;exact fA ⟨⟨rfl,congrArg _ (hc.2 (.inl ⟨q1,List.mem_of_getElem? N,fun h=>by have:=(HZ f).1 h;omega⟩)),trivial⟩,trivial⟩ rfl (by simp)
 have aa:=CB W;exact fA ⟨⟨rfl,congrArg _ (hc.2 (.inl ⟨q1,List.mem_of_getElem? N,fun h=>by have:=(HZ f).1 h;omega⟩)),trivial⟩,trivial⟩ rfl (by simp)
theorem NM (hT:T=ts.map Ao) (hA:A=Ao xs) (h1:∀q∈xs,Bz q) (h2:∀s∈ts,∀q∈s,Bz q):CF 33 [.agg [.sl (.sl AA) T,.sl AA A]] (.one (.bool true)):=by
 have aS:A.length=xs.length:=by rw[hA,List.length_map]
 have aT:T.length=ts.length:=by rw[hT,List.length_map]
 refine AH Tryz.func33 (by kernel_rfl) rfl fun E hE=>?_
 conv=>cbv
 refine .inr ?_;obtain⟨J0,J⟩:=xJ fun vs u k=>∃(k':Nat) (j:Int),vs=[.one (.AD 1 0 0),.one (.bool false),.one (.int .i64 j)]/\u=[.var 0 [.sl (.sl AA) T,.sl AA A]]/\(AS j k'/\k'<=xs.length)/\k=xs.length-k'
 refine⟨[1,2,3],[1],J0,⟨xs.length-0,by rw[J];exact⟨0,0,rfl,rfl,⟨BC 0,by omega⟩,rfl⟩⟩,?_⟩;intro vs u b1 r;rw[J] at r;obtain⟨k',j,rfl,rfl,⟨r,aU⟩,aV⟩:=r;conv=>cbv
 have ej:=r.eq;rintro n9 ⟨e9,f9⟩;conv=>cbv
 intro ak S;conv=>cbv
 cases ak <;> conv=>cbv
 ·have ad:=Ad S;refine .inr ?_;obtain⟨J1,K⟩:=xJ fun vs u k=>∃(m':Nat) (m:Int),vs=[.one (.AD 1 0 0),.one (.bool false),.one (.int .i64 m)]/\u=[.var 0 [.sl (.sl AA) T,.sl AA A]]/\(AS m m'/\m'<=ts.length)/\k=ts.length-m'
  refine⟨[1,2,4],[1],J1,⟨ts.length-0,by rw[K];exact⟨0,0,rfl,rfl,⟨BC 0,by omega⟩,rfl⟩⟩,?_⟩;intro vs u b2 r;rw[K] at r;obtain⟨m',m,rfl,rfl,⟨hm,aY⟩,aW⟩:=r;conv=>cbv
  have em:=hm.eq;rintro b5 ⟨aL,f36⟩;conv=>cbv
  intro ar W;conv=>cbv
  cases ar <;> conv=>cbv
  ·have ag:=Ad W;exact fA ⟨t2,trivial⟩ rfl (by simp)
  have ag:=Ae W;refine .inr ?_
  obtain⟨s2,w,ab⟩:∃s,T[m']? =some (Ao s)/\ts[m']? =some s:=by
   obtain⟨s,hs⟩:=AG (l:=ts) (i:=m') (by omega);exact⟨s,by rw[hT,List.getElem?_map,hs];rfl,hs⟩
  refine .inr ?_;obtain⟨J2,M⟩:=xJ fun vs u k=>∃(h:Nat) (p:Int),vs=[.one (.AD 1 0 0),.one (.bool false),.one (.int .i64 m),.one (.int .i64 p)]/\u=[.var 0 [.sl (.sl AA) T,.sl AA A]]/\(AS p h/\h<=s2.length)/\k=s2.length-h
  refine⟨[1,2,4,5],[1],J2,⟨s2.length-0,by rw[M];exact⟨0,0,rfl,rfl,⟨BC 0,by omega⟩,rfl⟩⟩,?_⟩;intro vs u b3 r;rw[M] at r;obtain⟨h,p,rfl,rfl,⟨hp,aZ⟩,aX⟩:=r;conv=>cbv
  have ep:=hp.eq;obtain⟨O,y⟩:=AG (l:=T) (i:=m') (by omega);refine⟨O,fun _=>⟨by omega,by rw[show (m).toNat=m' by omega];exact y⟩,?_⟩;try conv=>cbv
  have a5:O=Ao s2:=Option.some.inj (y.symm.trans w);have b0:O.length=s2.length:=by rw[a5,List.length_map]
  rintro b7 ⟨aM,f46⟩;conv=>cbv
  intro au X;conv=>cbv
  cases au <;> conv=>cbv
  ·have ah:=Ad X;intro b6 aQ;conv=>cbv
   refine g1 (by omega) ?_;refine⟨ts.length-(m'+1),?_,?_⟩
   ·omega
   rw[K];exact⟨m'+1,_,rfl,rfl,⟨⟨by omega⟩,by omega⟩,rfl⟩
  have ah:=Ae X;refine .inr ?_;obtain⟨n,f⟩:=AG (l:=T) (i:=m') (by omega);refine⟨n,fun _=>⟨by omega,by rw[show (m).toNat=m' by omega];exact f⟩,?_⟩;try conv=>cbv
  have D:n=Ao s2:=Option.some.inj (f.symm.trans w);have aH:n.length=s2.length:=by rw[D,List.length_map]
  obtain⟨b,g⟩:=AG (l:=n) (i:=h) (by omega);refine⟨b,fun _=>⟨by omega,by rw[show (p).toNat=h by omega];exact g⟩,?_⟩;try conv=>cbv
  obtain⟨q3,aa,a7,_⟩:=HC D g;have a2:BM q3 b.1.1 b.1.2 b.2.1 b.2.2:=aa;have aG:=(HZ a2).1 (h2 s2 (List.mem_of_getElem? ab) q3 (List.mem_of_getElem? a7));intro av H;have aN:=H.eq;have f60:=H.le;conv=>cbv
  have aB:av=((List.length b.1.2:Nat):Int):=H.eq;intro aw Y;conv=>cbv
  cases aw <;> conv=>cbv
  ·have ai:=CA Y;obtain⟨P,z⟩:=AG (l:=T) (i:=m') (by omega);refine⟨P,fun _=>⟨by omega,by rw[show (m).toNat=m' by omega];exact z⟩,?_⟩;try conv=>cbv
   have v:=Option.some.inj (z.symm.trans f);have aI:P.length=s2.length:=by rw[v,D,List.length_map]
   obtain⟨t,B⟩:=AG (l:=P) (i:=h) (by omega);refine⟨t,fun _=>⟨by omega,by rw[show (p).toNat=h by omega];exact B⟩,?_⟩;try conv=>cbv
   have R:=Option.some.inj ((show n[h]? =some t by rw[<-v];exact B).symm.trans g);have aE:List.length t.2.2=List.length b.2.2:=by rw[R]
   intro ax I;have aO:=I.eq;have f73:=I.le;conv=>cbv
   have aC:ax=((List.length t.2.2:Nat):Int):=I.eq;intro ay Z;conv=>cbv
   cases ay <;> conv=>cbv
   ·have aj:=CA Z;intro b8 aR;conv=>cbv
    refine g1 (by omega) ?_;refine⟨s2.length-(h+1),?_,?_⟩
    ·omega
    rw[M];exact⟨h+1,_,rfl,rfl,⟨⟨by omega⟩,by omega⟩,rfl⟩
   have aj:=CB Z
   exfalso;omega
  have ai:=CB Y
  exfalso;omega
 have ad:=Ae S;refine .inr ?_;obtain⟨a,d⟩:=AG (l:=A) (i:=k') (by omega);refine⟨a,fun _=>⟨by omega,by rw[show (j).toNat=k' by omega];exact d⟩,?_⟩;try conv=>cbv
 obtain⟨q1,a8,a6,_⟩:=HC hA d;have a1:BM q1 a.1.1 a.1.2 a.2.1 a.2.2:=a8;have aF:=(HZ a1).1 (h1 q1 (List.mem_of_getElem? a6));intro al F;have aJ:=F.eq;have f20:=F.le;conv=>cbv
 have az:al=((List.length a.1.2:Nat):Int):=F.eq;intro an U;conv=>cbv
 cases an <;> conv=>cbv
 ·have ae:=CA U;obtain⟨N,x⟩:=AG (l:=A) (i:=k') (by omega);refine⟨N,fun _=>⟨by omega,by rw[show (j).toNat=k' by omega];exact x⟩,?_⟩;try conv=>cbv
  have Q:=Option.some.inj (x.symm.trans d);have aD:List.length N.2.2=List.length a.2.2:=by rw[Q]
  intro ao G;have aK:=G.eq;have f30:=G.le;conv=>cbv
  have aA:ao=((List.length N.2.2:Nat):Int):=G.eq;intro aq V;conv=>cbv
  cases aq <;> conv=>cbv
  ·have af:=CA V;intro b4 aP;conv=>cbv
   refine g1 (by omega) ?_;refine⟨xs.length-(k'+1),?_,?_⟩
   ·omega
   rw[J];exact⟨k'+1,_,rfl,rfl,⟨⟨by omega⟩,by omega⟩,rfl⟩
  have af:=CB V
  exfalso;omega
 have ae:=CB U
 exfalso;omega
theorem Qh (v:L=ns.map nm) (z:∀n∈ns,(∀q∈co n.1 n.2,Bz q)/\∀s∈n.1,∀q∈s,Bz q):CF 171 [.one (.sl Am L)] (.one (.bool true)):=by
 have D:L.length=ns.length:=by rw[v,List.length_map]
 refine AH Tryz.func171 (by kernel_rfl) rfl fun E B=>?_
 conv=>cbv
 refine .inr ?_;obtain⟨w,b⟩:=xJ fun vs x k=>∃(k':Nat) (j:Int),vs=[.one (.sl Am L),.one (.int .i64 j)]/\(AS j k'/\k'<=L.length)/\k=L.length-k'
 refine⟨[0,3],[],w,⟨L.length-0,by rw[b];exact⟨0,0,rfl,⟨BC 0,by omega⟩,rfl⟩⟩,?_⟩;intro vs x J f;rw[b] at f;obtain⟨k',j,rfl,⟨f,F⟩,G⟩:=f;conv=>cbv
 have O:=f.eq;rintro Q ⟨N,f6⟩;conv=>cbv
 intro M t;conv=>cbv
 cases M <;> conv=>cbv
 ·have I:=Ad t;exact fA ⟨t2,trivial⟩ rfl (by simp)
 have I:=Ae t;refine .inr ?_;obtain⟨r,a⟩:=AG (l:=L) (i:=k') (by omega);refine⟨r,fun _=>⟨by omega,by rw[show (j).toNat=k' by omega];exact a⟩,?_⟩;try conv=>cbv
 obtain⟨u,y,m,p,h⟩:=Dq v a;have d:=z _ (List.mem_of_getElem? h);refine cL B (NM (ts:=u.reverse) (xs:=co u y) m p d.1 (fun s H=>d.2 s (List.mem_reverse.1 H))) ⟨t2,trivial⟩ ?_;try conv=>cbv
 intro K g;cases g.trans (rfl:_=false);conv=>cbv
 intro R P;conv=>cbv
 refine g1 (by omega) ?_;refine⟨L.length-(k'+1),?_,?_⟩
 ·omega
 rw[b];exact⟨k'+1,_,rfl,⟨⟨by omega⟩,by omega⟩,rfl⟩
theorem Qj {i:Int} {n:Nu} (D:L=ns.map nm) (m:ns≠[]) (K:AS i i') (M:n=CE ns i') (J:T=tw n.1) (I:A=em n.1 n.2):CF 105 [.one (.sl Am L),.one (.int .i64 i)] (.agg [.sl (.sl AA) T,.sl AA A]):=by
 have H:=K.eq;have j:L.length=ns.length:=by rw[D,List.length_map]
 have F:0<ns.length:=List.length_pos_iff.2 m;refine AH Tryz.func105 (by kernel_rfl) rfl fun E Q=>?_
 conv=>cbv
 rintro R ⟨P,f6⟩;conv=>cbv
 intro O B;conv=>cbv
 cases O <;> conv=>cbv
 ·have G:=Au B;intro v b;conv=>cbv
  cases v <;> conv=>cbv
  ·have d:=Ad b;rintro N ⟨g,f16⟩;conv=>cbv
   intro f h;conv=>cbv
   refine g2 (by omega) ?_;have z:f=((i'%L.length:Nat):Int):=by rw[h,H,g];exact (Int.natCast_emod _ _).symm
   obtain⟨w,a⟩:=AG (l:=L) (i:=(i'%L.length)) (by exact Nat.mod_lt _ (by omega));refine⟨w,fun _=>⟨by omega,by rw[show (f).toNat=(i'%L.length) by omega];exact a⟩,?_⟩;try conv=>cbv
   obtain⟨u,y,r,t,p⟩:=Dq D a;have x:n=(u,y):=by rw[M];unfold CE;rw[<-j,List.getD_eq_getElem?_getD,p];rfl
   exact fA ⟨⟨rfl,congrArg _ (by rw[J,x];exact r.symm),congrArg _ (by rw[I,x];exact t.symm),trivial⟩,trivial⟩ rfl (by simp)
  have d:=Ae b;exact absurd d (by omega)
 have G:=Av B;exact absurd G (by omega)
theorem bg {i:Nat} (b:∀m,o[m]? =(ts[m]?).map fun s=>Ao (if i<m/\m<k then BV i 0 s else s)) (a:ts[k]? =some s) (d:i<k) {w:LR} (hw:w=Ao (BV i 0 s)):
  ∀m,(o.set k w)[m]? =(ts[m]?).map fun s=>Ao (if i<m/\m<k+1 then BV i 0 s else s):=by
 intro m
 by_cases e:k=m
 ·subst e;have f:=Gd a
  have g:k<o.length:=by
   have:=b k;rw[a] at this;exact Gd this
  rw[List.getElem?_set_self g,a,Option.map_some,if_pos ⟨d,by omega⟩,hw]
 rw[List.getElem?_set_ne e,b m];have:(i<m/\m<k+1)↔(i<m/\m<k):=by omega
 simp only[this]
theorem bf {i:Nat} (d:i<ts.length) (b:∀m,o[m]? =(ts[m]?).map fun s=>Ao (if i<m/\m<ts.length then BV i 0 s else s)):o.take i++o.drop (i+1)=(ts.take i++(ts.drop (i+1)).map (BV i 0)).map Ao:=by
 have e:o=(ts.take (i+1)++(ts.drop (i+1)).map (BV i 0)).map Ao:=by
  apply List.ext_getElem?;intro m;rw[b m,List.getElem?_map,List.getElem?_append,List.length_take,Nat.min_eq_left (by omega)]
  by_cases hm:m<i+1
  ·rw[if_pos hm,List.getElem?_take,if_pos hm];cases ts[m]? with
   | none=>rfl
   | some s=>simp only[Option.map_some];rw[if_neg (by omega)]
  rw[if_neg hm,List.getElem?_map,List.getElem?_drop,show i+1+(m-(i+1))=m by omega]
  by_cases a:m<ts.length
  ·rw[List.getElem?_eq_getElem a];simp only[Option.map_some];rw[if_pos ⟨by omega,a⟩]
  rw[List.getElem?_eq_none (by omega)];rfl
 have hlen:(ts.take (i+1)).length=i+1:=by rw[List.length_take];omega
 rw[e,List.map_append,List.map_append,List.take_append_of_le_length (by rw[List.length_map,hlen];omega),List.drop_left' (by rw[List.length_map,hlen]),<-List.map_take,List.take_take,Nat.min_eq_left (by omega)]
theorem RN {i:Nat} {f:List Rat->Bool} (a:ts[k]? =some s) (b:i<k):((ts.drop (i+1)).take (k+1-(i+1))).any f=(((ts.drop (i+1)).take (k-(i+1))).any f||f s):=by
 rw[show k+1-(i+1)=k-(i+1)+1 by omega,Bi (l:=ts.drop (i+1)) (i:=k-(i+1)) (x:=s) (by rw[List.getElem?_drop,show i+1+(k-(i+1))=k by omega];exact a)];simp
theorem Qu {u U:List (List Rat)} {x:Re} (h:Ab u) (hx:In u x) (hl:u.length<=8) (hw:Fs u.length (u.reverse,co u x)=(U.reverse,co U x)) (hT:T=tw u) (hA:A=em u x) (aN:T2=tw U) (hC:C=em U x):CF 191 [.agg [.sl (.sl AA) T,.sl AA A]] (.agg [.sl (.sl AA) T2,.sl AA C]):=by
 have bI:T.length=u.length:=by rw[hT,BU]
 refine AH Tryz.func191 (by kernel_rfl) rfl fun E hE=>?_
 conv=>cbv
 refine⟨[],fun _=>⟨rfl,by decide,rfl,trivial⟩,.inl ?_⟩;try conv=>cbv
 refine .inl ⟨T,fun _=>⟨rfl,by (first | rfl | omega),rfl,by show (0+T.length)*24<=140737488355328;(try simp only[List.length_take,List.length_drop]);omega⟩,?_⟩;intro (ae:List (el (.sl AA))) b2 R;have M:ae=([]:List (el (.sl AA)))++(T:List (el (.sl AA))):=R.1;have au:b2=List.length (α:=(el (.sl AA))) ae:=R.2;conv=>cbv
 refine g2 rfl ?_;intro bT aH;have bw:=aH.eq;conv=>cbv
 have aS:List.length ae=List.length T:=by rw[M];rfl
 intro b3 bB;conv=>cbv
 refine g1 (by omega) ?_;refine .inr ?_
 obtain⟨J0,X⟩:∃J:List AV->List AM->Nat->Prop,J=fun vs g k=>∃(w:List (List Rat)) (O:List LR) (B:LR) (n j:Nat) (i:Int),vs=[.one (.AD 2 0 0),.one (.AD 3 0 0),.one (.int .i64 i)]/\g=[.var 0 [.nil,.nil],.var 0 [.AT (.sl AA) 8 0 0 n,.sl AA B],.arr 0 (.sl AA) O]/\
  (AS (i+1) j/\n=O.length/\O=tw w/\B=em w x)/\(Ab w/\In w x/\j<=w.length/\w.length<=8)/\Fs j (w.reverse,co w x)=(U.reverse,co U x)/\k=j:=⟨_,rfl⟩
 refine⟨[2,3,4],[2,3,8],J0,⟨u.length,by rw[X];exact⟨u,_,_,_,u.length,b3,rfl,rfl,⟨⟨by omega⟩,au,by rw[M,hT];rfl,hA⟩,⟨h,hx,Nat.le_refl _,hl⟩,hw,rfl⟩⟩,?_⟩;intro vs g bQ a;rw[X] at a;obtain⟨w,O,B,n,j,i,rfl,rfl,⟨hi,hn,hO,hB⟩,⟨ab,ad,bL,D⟩,d,bM⟩:=a;conv=>cbv
 have ei:=hi.eq;obtain⟨i',bJ⟩:=xN (j-1);intro b4 aj;conv=>cbv
 cases b4 <;> conv=>cbv
 ·have aZ:=EC aj;exact fA ⟨⟨rfl,.inl ⟨_,rfl,by omega,congrArg _ (by rw[aN,hn,List.drop_zero,List.take_length,hO];have:=d;rw[show j=0 by omega,Fs] at this;rw[tw,tw,(Prod.mk.inj this).1])⟩,congrArg _ (by rw[hC,hB];have:=d;rw[show j=0 by omega,Fs] at this;rw[em,em,(Prod.mk.inj this).2]),trivial⟩,trivial⟩ rfl (by simp)
 have aZ:=ED aj
 obtain⟨K1,Z⟩:∃J:List AV->List AM->Prop,J=fun vs g=>∃(r:List (List Rat)) (O2:List LR) (B2:LR) (n2:Nat),vs=[.one (.AD 2 0 0),.one (.AD 3 0 0),.one (.int .i64 i)]/\g=[.var 0 [.nil,.nil],.var 0 [.AT (.sl AA) 8 0 0 n2,.sl AA B2],.arr 0 (.sl AA) O2]/\
  (n2=O2.length/\O2=tw r/\B2=em r x)/\(Ab r/\In r x/\i'<=r.length/\r.length<=8)/\Fs i' (r.reverse,co r x)=(U.reverse,co U x):=⟨_,rfl⟩
 refine .inl ⟨[2,3,4],[2,3,8],K1,?_,?_⟩
 ·intro vs g a;rw[Z] at a;obtain⟨r,O2,B2,n2,rfl,rfl,⟨aT,aM,aL⟩,⟨az,aA,aq,ay⟩,ax⟩:=a;conv=>cbv
  intro b5 bC;conv=>cbv
  refine g1 (by omega) ?_;refine⟨i',?_,?_⟩
  ·omega
  rw[X];exact⟨r,O2,B2,n2,i',b5,rfl,rfl,⟨⟨by omega⟩,aT,aM,aL⟩,⟨az,aA,aq,ay⟩,ax,rfl⟩
 try conv=>cbv
 have aQ:j=i'+1:=by omega
 subst aQ;have y:AS i i':=⟨by omega⟩;obtain⟨ts,f⟩:∃z:List (List Rat),z=w.reverse:=⟨_,rfl⟩
 have a1:O=ts.map Ao:=by rw[hO,f];rfl
 have bP:ts.length=w.length:=by rw[f,List.length_reverse]
 have bH:O.length=ts.length:=by rw[a1,List.length_map]
 have aO:(co w x).length<=1000000:=by rw[CQ ad];exact Nat.le_trans (CX D) (by decide)
 obtain⟨aE,I⟩:=xB (CN i' 0 (co w x));refine cL hE (Q3 (xs:=co w x) hB y (by omega) I) t2 ?_;try conv=>cbv
 intro b6 bD;conv=>cbv
 refine g1 (by omega) ?_;refine .inr ?_
 obtain⟨J1,v⟩:∃J:List AV->List AM->Nat->Prop,J=fun vs g k=>∃(b:Bool) (k':Nat) (j:Int),vs=[.one (.AD 2 0 0),.one (.AD 3 0 0),.one (.int .i64 i),.one (.bool b),.one (.int .i64 j)]/\g=[.var 0 [.nil,.nil],.var 0 [.AT (.sl AA) 8 0 0 n,.sl AA B],.arr 0 (.sl AA) O]/\
  (AS j k'/\i'<k'/\k'<=ts.length)/\b=(CN i' 0 (co w x)||((ts.drop (i'+1)).take (k'-(i'+1))).any (CN i' 0))/\k=ts.length-k':=⟨_,rfl⟩
 refine⟨[2,3,4,5,6],[2,3,8],J1,⟨ts.length-(i'+1),by rw[v];exact⟨aE,i'+1,b6,rfl,rfl,⟨⟨by omega⟩,by omega,by omega⟩,by rw[I,Nat.sub_self,List.take_zero];simp,rfl⟩⟩,?_⟩;intro vs g bR a;rw[v] at a;obtain⟨b,k',j,rfl,rfl,⟨a,an,bK⟩,hb,bN⟩:=a;conv=>cbv
 have ej:=a.eq;intro bU aI;have bx:=aI.eq;conv=>cbv
 intro b7 ak;conv=>cbv
 cases b7 <;> conv=>cbv
 ·have b0:=Ad ak;cases b <;> conv=>cbv
  ·obtain⟨ai,H⟩:=xR (Ao (BV i' 0 (co w x)));refine cL hE (RA (xs:=co w x) hB y (by omega) aO H) t2 ?_;try conv=>cbv
   intro Cg bE;conv=>cbv
   refine g1 (by omega) ?_;refine .inr ?_
   obtain⟨J2,Y⟩:∃J:List AV->List AM->Nat->Prop,J=fun vs g k=>∃(o:List LR) (k2:Nat) (j2:Int),vs=[.one (.AD 2 0 0),.one (.AD 3 0 0),.one (.int .i64 i),.one (.int .i64 j2)]/\g=[.var 0 [.nil,.nil],.var 0 [.AT (.sl AA) 8 0 0 n,.sl AA ai],.arr 0 (.sl AA) o]/\
    (AS j2 k2/\i'<k2/\k2<=ts.length/\o.length=ts.length)/\(∀m,o[m]? =(ts[m]?).map fun s=>Ao (if i'<m/\m<k2 then BV i' 0 s else s))/\k=ts.length-k2:=⟨_,rfl⟩
   refine⟨[2,3,4,7],[2,3,8],J2,⟨ts.length-(i'+1),by rw[Y];exact⟨O,i'+1,Cg,rfl,rfl,⟨⟨by omega⟩,by omega,by omega,by omega⟩,fun m=>by
    have aU:¬(i'<m/\m<i'+1):=by omega
    simp only[aU,if_false];rw[a1,List.getElem?_map],rfl⟩⟩,?_⟩
   intro vs g bS a;rw[Y] at a;obtain⟨o,k2,j2,rfl,rfl,⟨aP,ao,bo,aV⟩,hq,bO⟩:=a;conv=>cbv
   have bA:=aP.eq;intro bV aK;have bz:=aK.eq;conv=>cbv
   intro b8 al;conv=>cbv
   cases b8 <;> conv=>cbv
   ·have b1:=Ad al;refine⟨fun _=>⟨by omega,by omega,by omega⟩,?_⟩;intro bs bd;conv=>cbv
    rintro bX V ⟨bp,bj⟩;conv=>cbv
    intro bW bG;conv=>cbv
    refine g1 (by omega) ?_;refine g2 (by omega) ?_;rintro br bt ⟨bc,bh⟩;conv=>cbv
    rintro G W ⟨bq,bk⟩;conv=>cbv
    refine .inl ⟨((o).drop G).take W,fun _=>⟨by omega,by omega,⟨_,rfl,by omega,rfl⟩,by show (V+(((o).drop G).take W).length)*24<=140737488355328;(try simp only[List.length_take,List.length_drop]);omega⟩,?_⟩;intro (F:List (el (.sl AA))) aC S;have ar:F=(List.take V o:List (el (.sl AA)))++(((o).drop G).take W:List (el (.sl AA))):=S.1;have av:aC=List.length (α:=(el (.sl AA))) F:=S.2;conv=>cbv
    refine g2 rfl ?_;rw[Z];have a5:k'=ts.length:=by omega
    have a2:¬(CN i' 0 (co w x)||(ts.drop (i'+1)).any (CN i' 0))=true:=by
     have t:=hb;rw[a5,List.take_of_length_le (by rw[List.length_drop];omega)] at t;rw[<-t];exact Bool.false_ne_true
    obtain⟨w1,e1,aa,aR⟩:=WK ab ad (by omega:i'<w.length);have e2:=e1;unfold JN at e2;rw[<-f,if_neg a2] at e2;have e3:=Prod.mk.inj e2
    have a6:F=o.take i'++o.drop (i'+1):=by
     rw[ar,show V=i' by omega,show G=i'+1 by omega,List.take_of_length_le (l:=o.drop (i'+1)) (by rw[List.length_drop];omega)]
    rw[show k2=ts.length by omega] at hq;refine⟨w1,F,ai,aC,rfl,rfl,⟨av,?_,?_⟩,⟨aa.red,aa.mem,aR,Nat.le_trans aa.len D⟩,by rw[Fs,e1] at d;exact d⟩
    ·rw[a6,bf (by omega) hq,tw,<-f] at*;rw[e3.1]
    rw[H,em,<-e3.2]
   have b1:=Ae al;refine .inr ?_;refine g2 (by omega) ?_;intro aY bm;conv=>cbv
   obtain⟨ah,Q⟩:=AG (l:=o) (i:=aY) (by omega);refine⟨ah,fun _=>Q,?_⟩;try conv=>cbv
   obtain⟨s7,a8⟩:=AG (l:=ts) (i:=k2) (by omega);have aW:o[k2]? =some ah:=by rw[<-Q];congr 1;omega
   have aG:ah=Ao s7:=by have t:=hq k2;rw[a8,aW,Option.map_some,if_neg (by omega)] at t;exact Option.some.inj t
   have aw:s7.length<=1000000:=by have t:=PE ab (List.mem_reverse.1 (f ▸ List.mem_of_getElem? a8));have h2:2^w.length<=2^8:=CX D;omega
   obtain⟨aD,N⟩:=xR (Ao (BV i' 0 s7));refine cL hE (RA aG y (by omega) aw N) t2 ?_;try conv=>cbv
   refine g2 (by omega) ?_;intro aB bn;conv=>cbv
   refine⟨aD,fun _=>⟨by show _<List.length (α:=(el (.sl AA))) o;(first | omega | (simp;omega)),by first | exact t1 | exact t2 | exact t4 | simp[Aw,BF,cells]⟩,?_⟩;intro (af:List (el (.sl AA))) (p:af=List.set (α:=(el (.sl AA))) o aB aD);have bb:af.length=o.length:=by rw[p,List.length_set]
   conv=>cbv
   refine g2 rfl ?_;intro b9 bF;conv=>cbv
   refine g1 (by omega) ?_;refine⟨ts.length-(k2+1),?_,?_⟩
   ·omega
   rw[Y];exact⟨af,k2+1,b9,rfl,rfl,⟨⟨by omega⟩,by omega,by omega,by rw[p,List.length_set];exact aV⟩,by rw[p,show aB=k2 by omega];exact bg hq a8 ao N,rfl⟩
  rw[Z];have a5:k'=ts.length:=by omega
  have a2:(CN i' 0 (co w x)||(ts.drop (i'+1)).any (CN i' 0))=true:=by
   have t:=hb;rw[a5,List.take_of_length_le (by rw[List.length_drop];omega)] at t;exact t.symm
  have e1:JN i' (w.reverse,co w x)=(w.reverse,co w x):=by
   unfold JN;rw[<-f,if_pos a2]
  exact⟨w,O,B,n,rfl,rfl,⟨hn,hO,hB⟩,⟨ab,ad,by omega,D⟩,by rw[Fs,e1] at d;exact d⟩
 have b0:=Ae ak;refine .inr ?_;cases b <;> conv=>cbv
 ·refine g2 (by omega) ?_;intro aX bl;conv=>cbv
  obtain⟨ba,P⟩:=AG (l:=O) (i:=aX) (by omega);refine⟨ba,fun _=>P,?_⟩;try conv=>cbv
  obtain⟨s4,aF,a7⟩:=Hy (i:=k') a1 (by rw[<-P];congr 1;omega);obtain⟨bu,K⟩:=xB (CN i' 0 s4);refine cL hE (Q3 aF y (by omega) K) t2 ?_;try conv=>cbv
  intro ag aJ;conv=>cbv
  refine g1 (by omega) ?_;refine⟨ts.length-(k'+1),?_,?_⟩
  ·omega
  rw[v];exact⟨_,k'+1,ag,rfl,rfl,⟨⟨by omega⟩,by omega,by omega⟩,by rw[RN a7 an,<-Bool.or_assoc,<-hb,K];simp,rfl⟩
 intro ag aJ;conv=>cbv
 refine g1 (by omega) ?_;refine⟨ts.length-(k'+1),?_,?_⟩
 ·omega
 rw[v];obtain⟨s4,a7⟩:=AG (l:=ts) (i:=k') (by omega);exact⟨_,k'+1,ag,rfl,rfl,⟨⟨by omega⟩,by omega,by omega⟩,by rw[RN a7 an,<-Bool.or_assoc,<-hb];simp,rfl⟩
end Go.Abs
