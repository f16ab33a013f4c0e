/- Part 22 of a proof. Conditions: each theorem's own. -/
import Derived.Test.YtclgfoceefhnkaaGreatDoorLn20
set_option linter.all false
set_option maxHeartbeats 80000000
set_option maxRecDepth 20000
open Go.Proofs
namespace Go.Abs
section
open Go.RowKit
variable {A A1 A2 C:LR} {L:List (el AQ)} {T T1 T2 o:List LR} {c:Bool} {i' k:Nat} {ns:List Nu} {q:Rat} {s xs:List Rat} {ts:List (List Rat)}
theorem Sk {i:Nat} (h:xs[k]? =some q):C7 i k (xs.drop k)=((Fj k i&&q !=0)||C7 i (k+1) (xs.drop (k+1))):=by
 have a:=C6 h;rw[List.drop_eq_getElem_cons a,C7];rw[List.getElem?_eq_getElem a] at h;rw[Option.some.inj h]
theorem mC {i:Nat} (h:k<xs.length) (hb:Fj k i=false):C7 i k (xs.drop k)=C7 i (k+1) (xs.drop (k+1)):=by
 obtain⟨q,a⟩:=CM h;rw[Sk a,hb];rfl
theorem cC {i:Nat} (h:xs[k]? =some q):Bx i 0 (xs.take (k+1))=Bx i 0 (xs.take k)++(if Fj k i=true then [] else [q]):=by
 have a:=C6 h;rw[DO h,QL,Nat.zero_add,List.length_take,Nat.min_eq_left (by omega),Bx,Bx]
theorem bw (i:Nat):∀(k:Nat) (l:List Rat),(Bx i k l).length<=l.length
 | _,[]=>Nat.le_refl _
 | k,x::l=>by
  rw[Bx];have:=bw i (k+1) l
  split
  ·rw[List.length_cons];omega
  rw[List.length_cons,List.length_cons];omega
theorem WJ {i:Nat} {b a:Int} (d:b=((k/2^i:Nat):Int)) (f:a=b%2):(Fj k i=true↔a=1)/\(Fj k i=false↔a=0):=by
 unfold Fj
 constructor
 ·rw[beq_iff_eq];omega
 rw[beq_eq_false_iff_ne];omega
theorem PK {n:Nat}:(AP n).length<=2↔n<18446744073709551616:=by
 constructor
 ·intro h;have a:=Cv (AP n);rw[BS] at a;exact Nat.lt_of_lt_of_le a (Nat.pow_le_pow_right (by decide) (by omega:32*(AP n).length<=64))
 intro h;exact Fq (k:=2) h
theorem Il {b1 b2:Bool} {l1 l2:List UInt32} (h:BY q b1 l1 b2 l2):Cp q↔l1.length<=2/\l2.length<=2:=by
 have a:=h.num.Bb;have b:=h.den.Bb;rw[a,b,PK,PK];unfold Cp;rw[Int.natAbs_natCast]
theorem oT (h:D1 q=0):q=0:=by
 unfold D1 Cg at h
 split at h
 ·omega
 split at h
 ·exact Rat.num_eq_zero.1 (by assumption)
 omega
theorem bH {p:Rat->Prop} (h:∀x∈xs.take k,p x) (d:xs[k]? =some q) (b:p q):∀x∈xs.take (k+1),p x:=by
 intro x a;rw[DO d] at a;rcases List.mem_append.1 a with a | a
 ·exact h x a
 rw[List.mem_singleton.1 a];exact b
theorem VX {i:Int} (D:A=BI xs) (J:AO i i') (Z:i'<=60) (F:c=C7 i' 0 xs):CF 190 [.one (.sl AA A),.one (.int .i64 i)] (.one (.bool c)):=by
 have X:=J.eq;have H:A.length=xs.length:=by rw[D,List.length_map]
 refine AG Tryz.func190 fun E I=>?_
 refine BN [] [0,1,5] [] (fun vs G k=>∃(k':Nat) (j:Int),vs=[.one (.sl AA A),.one (.int .i64 i),.one (.int .i64 j)]/\(AO j k'/\k'<=xs.length)/\C7 i' 0 xs=C7 i' k' (xs.drop k')/\k=xs.length-k') (xs.length-0) ⟨0,0,rfl,⟨BD 0,by omega⟩,by rw[List.drop_zero],rfl⟩ ?_;rintro U h vs G P ⟨k',j,rfl,⟨K,M⟩,hinv,N⟩;have Y:=K.eq;refine AS ?_;rintro n8 ⟨W,f8⟩;refine BW (fun O=>?_) fun O=>?_
 ·exact AF (by rw[F,hinv,show k'=xs.length by omega,List.drop_length];rfl)
 refine .inr ?_;refine AK ?_;intro B x;obtain⟨d14,l,v⟩:∃d:Nat,d=k'/2^i'/\B=d:=⟨_,rfl,shr_var (p:=k') (e:=i') x (by omega) (by omega) (by show i'<=64;omega)⟩
 refine AK ?_;intro Q y;have a:=WJ (k:=k') (i:=i') (by rw[v,l]) y;refine CH (fun r=>?_) fun r=>?_
 ·intro g w;refine⟨xs.length-(k'+1),?_,?_⟩
  ·omega
  rw[h];refine⟨k'+1,g,rfl,⟨⟨by omega⟩,by omega⟩,?_,rfl⟩;rw[hinv,mC (by omega) (a.2.2 (by omega))]
 refine AW k' fun S n=>?_
 try conv=>cbv
 obtain⟨u,m,b,_⟩:=Jw D n;obtain⟨R,f⟩:=xI (D1 u);refine AB I (Qm m f) ?_;refine Fa (fun t=>?_) fun t=>?_
 ·exact AF (by rw[F,hinv,Sk b,a.1.2 r,bne_iff_ne.2 (fun e=>t (by rw[f,e];rfl))];rfl)
 intro g w;refine⟨xs.length-(k'+1),?_,?_⟩
 ·omega
 rw[h];refine⟨k'+1,g,rfl,⟨⟨by omega⟩,by omega⟩,?_,rfl⟩;have z:u=0:=oT (by omega);rw[hinv,Sk b,z];simp
theorem Vg {i:Int} (P:A=BI xs) (X:AO i i') (h6:i'<=60) (hl:xs.length<=1000000) (W:C=BI (Bx i' 0 xs)):CF 191 [.one (.sl AA A),.one (.int .i64 i)] (.one (.sl AA C)):=by
 have ei:=X.eq;have U:A.length=xs.length:=by rw[P,List.length_map]
 refine AG Tryz.func191 fun E hE=>?_
 refine BN [(5,AA,true)] [0,1,5,6] [5] (fun vs O k=>∃(o:LR) (n k':Nat) (j:Int),vs=[.one (.sl AA A),.one (.int .i64 i),.one (.AZ AA 5 0 0 n),.one (.int .i64 j)]/\O=[.arr 0 AA o]/\(AO j k'/\k'<=xs.length/\n=o.length)/\o=BI (Bx i' 0 (xs.take k'))/\k=xs.length-k') (xs.length-0) ⟨[],0,0,0,rfl,rfl,⟨BD 0,by omega,rfl⟩,rfl,rfl⟩ ?_;rintro J0 r vs O a5 ⟨o,n,k',j,rfl,rfl,⟨Y,Z,Q⟩,hinv,a1⟩;conv=>cbv
 have ej:=Y.eq;have a2:o.length<=xs.length:=by rw[hinv,List.length_map];have:=bw i' 0 (xs.take k');rw[List.length_take] at this;omega
 rintro n9 ⟨e9,f9⟩;conv=>cbv
 refine BW (fun I=>?_) fun I=>?_
 ·exact AE ⟨⟨rfl,.inl ⟨_,rfl,by omega,congrArg _ (by rw[W,Q,List.drop_zero,List.take_length,hinv,show k'=xs.length by omega,List.take_length])⟩,trivial⟩,trivial⟩
 refine .inr ?_;refine AK ?_;intro K D;obtain⟨d15,t,z⟩:∃d:Nat,d=k'/2^i'/\K=d:=⟨_,rfl,shr_var (p:=k') (e:=i') D (by omega) (by omega) (by show i'<=64;omega)⟩
 refine AK ?_;intro a6 F;have b:=WJ (k:=k') (i:=i') (by rw[z,t]) F;intro M m;conv=>cbv
 refine .inr ?_;cases M <;> conv=>cbv
 ·have J:=Bp m;refine AK ?_;intro h B;refine⟨xs.length-(k'+1),?_,?_⟩
  ·omega
  rw[r];obtain⟨qq,G⟩:=CM (l:=xs) (i:=k') (by omega);exact⟨o,n,k'+1,h,rfl,rfl,⟨⟨by omega⟩,by omega,Q⟩,by rw[cC G,if_pos (b.1.2 (by omega)),List.append_nil];exact hinv,rfl⟩
 have J:=Br m
 obtain⟨y,S,w,H⟩:∃q,BY q (rp q).1.1 (rp q).1.2 (rp q).2.1 (rp q).2.2/\xs[k']? =some q/\A[k']? =some (rp q):=by
  obtain⟨q,R⟩:=CM (l:=xs) (i:=k') (by omega);exact⟨q,Gx q,R,by rw[P,List.getElem?_map,R];rfl⟩
 refine AW k' fun a x=>?_
 try conv=>cbv
 refine⟨[((a.1.1,a.1.2),(a.2.1,a.2.2))],fun _=>⟨rfl,by decide,rfl,⟨rfl,by first | exact t1 | exact t2 | exact t4 | simp[BR,BV,cells],trivial⟩⟩,.inr ?_⟩;try conv=>cbv
 refine .inl ⟨[((a.1.1,a.1.2),(a.2.1,a.2.2))],fun _=>⟨rfl,by (first | rfl | omega),rfl,by show (o.length+1)*64<=140737488355328;(try simp only[List.length_take,List.length_drop]);omega⟩,?_⟩;intro (g:LR) N f;have u:g=(o:LR)++([((a.1.1,a.1.2),(a.2.1,a.2.2))]:LR):=f.1;have v:N=List.length (α:=(el AA)) g:=f.2;refine AK ?_;intro h B;refine⟨xs.length-(k'+1),?_,?_⟩
 ·omega
 rw[r];have ex:a=rp y:=by have:=x.symm.trans H;exact Option.some.inj this
 refine⟨g,_,k'+1,h,rfl,rfl,⟨⟨by omega⟩,by omega,v⟩,?_,rfl⟩;rw[cC w,if_neg (by rw[b.2.2 (by omega)];decide)];rw[u,hinv];show _=List.map rp _;rw[List.map_append];show _=BI _++[rp y];rw[<-ex]
theorem Ke:CF 87 [.agg (AJ T1 A1),.one (.int .i64 0),.agg (AJ T2 A2)] (.agg (AJ T1 A1)):=by
 refine AG Tryz.func87 fun E a=>?_
 refine BH ?_;exact AE ⟨t3,trivial⟩
theorem fQ:CF 87 [.agg (AJ T1 A1),.one (.int .i64 6),.agg (AJ T2 A2)] (.agg (AJ T2 A2)):=by
 refine AG Tryz.func87 fun E a=>?_
 refine CU ?_;exact AE ⟨t3,trivial⟩
theorem pN (h:∀x∈ts.take k,∀q∈x,Cp q) (d:ts[k]? =some s) (b:∀q∈s,Cp q):∀x∈ts.take (k+1),∀q∈x,Cp q:=by
 intro x a;rw[DO d] at a;rcases List.mem_append.1 a with a | a
 ·exact h x a
 rw[List.mem_singleton.1 a];exact b
def Nw (ts:List (List Rat)) (xs:List Rat):Prop:=(∃q∈xs,¬Cp q)\/∃s∈ts,∃q∈s,¬Cp q
theorem fP (hT:T=ts.map BI) (hA:A=BI xs) (I:c=true↔Nw ts xs):CF 90 [.agg (AJ T A)] (.one (.bool c)):=by
 have aC:A.length=xs.length:=by rw[hA,List.length_map]
 have aD:T.length=ts.length:=by rw[hT,List.length_map]
 refine AG Tryz.func90 fun E hE=>?_
 refine BN [] [1,2,3] [1] (fun vs n k=>∃(k':Nat) (j:Int),vs=[.one (.AR 1 0 0),.one (.bool false),.one (.int .i64 j)]/\n=[.var 0 [.sl (.sl AA) T,.sl AA A]]/\(AO j k'/\k'<=xs.length)/\(∀q∈xs.take k',Cp q)/\k=xs.length-k') (xs.length-0) ⟨0,0,rfl,rfl,⟨BD 0,by omega⟩,by simp,rfl⟩ ?_;rintro J0 U vs n aL ⟨k',j,rfl,rfl,⟨hj,aE⟩,hinv,aF⟩;have ej:=hj.eq;refine AS ?_;rintro aO ⟨aq,f10⟩;refine Cw (fun a5=>?_) fun a5=>?_
 ·refine .inr ?_;refine AW k' fun a u=>?_
  try conv=>cbv
  obtain⟨q1,a1,B,_⟩:=Jw hA u;have f:BY q1 a.1.1 a.1.2 a.2.1 a.2.2:=a1;intro ae w;have ar:=w.eq;have f21:=w.le;conv=>cbv
  have ai:ae=((List.length a.1.2:Nat):Int):=w.eq;refine FJ (fun a6=>?_) fun a6=>?_
  ·exact AF (I.2 (.inl ⟨q1,List.mem_of_getElem? B,fun h=>by have:=(Il f).1 h;omega⟩))
  refine AW k' fun O J=>?_
  try conv=>cbv
  have H:=Option.some.inj (J.symm.trans u);have an:List.length O.2.2=List.length a.2.2:=by rw[H]
  intro af x;have au:=x.eq;have f31:=x.le;conv=>cbv
  have aj:af=((List.length O.2.2:Nat):Int):=x.eq;refine FJ (fun a7=>?_) fun a7=>?_
  ·exact AF (I.2 (.inl ⟨q1,List.mem_of_getElem? B,fun h=>by have:=(Il f).1 h;omega⟩))
  intro aP az;exact Ba U ⟨k'+1,_,rfl,rfl,⟨⟨by omega⟩,by omega⟩,bH hinv B ((Il f).2 ⟨by omega,by omega⟩),rfl⟩
 refine BN [] [1,2,4] [1] (fun vs n k=>∃(m':Nat) (m:Int),vs=[.one (.AR 1 0 0),.one (.bool false),.one (.int .i64 m)]/\n=[.var 0 [.sl (.sl AA) T,.sl AA A]]/\(AO m m'/\m'<=ts.length)/\(∀s∈ts.take m',∀q∈s,Cp q)/\k=ts.length-m') (ts.length-0) ⟨0,0,rfl,rfl,⟨BD 0,by omega⟩,by simp,rfl⟩ ?_;rintro J1 W vs n aM ⟨m',m,rfl,rfl,⟨hm,aI⟩,r,aG⟩;have em:=hm.eq;refine AS ?_;rintro aQ ⟨av,f37⟩;refine BW (fun a8=>?_) fun a8=>?_
 ·exact AF (by rw[Bool.eq_false_iff];intro h;rcases I.1 h with⟨q,Z,Y⟩ |⟨s,R,q,Z,Y⟩;exact Y (hinv q (by rw[List.take_of_length_le (by omega)];exact Z));exact Y (r s (by rw[List.take_of_length_le (by omega)];exact R) q Z))
 refine .inr ?_
 obtain⟨s2,t,F⟩:∃s,T[m']? =some (BI s)/\ts[m']? =some s:=by
  obtain⟨s,R⟩:=CM (l:=ts) (i:=m') (by omega);exact⟨s,by rw[hT,List.getElem?_map,R];rfl,R⟩
 refine BN [] [1,2,4,5] [1] (fun vs n k=>∃(v:Nat) (p:Int),vs=[.one (.AR 1 0 0),.one (.bool false),.one (.int .i64 m),.one (.int .i64 p)]/\n=[.var 0 [.sl (.sl AA) T,.sl AA A]]/\(AO p v/\v<=s2.length)/\(∀q∈s2.take v,Cp q)/\k=s2.length-v) (s2.length-0) ⟨0,0,rfl,rfl,⟨BD 0,by omega⟩,by simp,rfl⟩ ?_;rintro J2 X vs n aN ⟨v,p,rfl,rfl,⟨hp,aJ⟩,d,aH⟩;conv=>cbv
 have ep:=hp.eq;refine AW m' fun P K=>?_
 try conv=>cbv
 have S:P=BI s2:=Option.some.inj (K.symm.trans t);have aK:P.length=s2.length:=by rw[S,List.length_map]
 rintro aS ⟨aw,f47⟩;conv=>cbv
 refine BW (fun aa=>?_) fun aa=>?_
 ·intro aR aA;exact Ba W ⟨m'+1,_,rfl,rfl,⟨⟨by omega⟩,by omega⟩,pN r F (by rw[show v=s2.length by omega,List.take_length] at d;exact d),rfl⟩
 refine .inr ?_;refine AW m' fun Q M=>?_
 try conv=>cbv
 have G:Q=BI s2:=Option.some.inj (M.symm.trans t);have ao:Q.length=s2.length:=by rw[G,List.length_map]
 refine AW v fun b N=>?_
 try conv=>cbv
 obtain⟨q3,a2,D,_⟩:=Jw G N;have g:BY q3 b.1.1 b.1.2 b.2.1 b.2.2:=a2;intro ag y;have ax:=y.eq;have f62:=y.le;conv=>cbv
 have ak:ag=((List.length b.1.2:Nat):Int):=y.eq;refine FJ (fun ab=>?_) fun ab=>?_
 ·exact AF (I.2 (.inr ⟨s2,List.mem_of_getElem? F,q3,List.mem_of_getElem? D,fun h=>by have:=(Il g).1 h;omega⟩))
 intro ah z;have ay:=z.eq;have f68:=z.le;have al:ah=((List.length b.2.2:Nat):Int):=z.eq;refine FJ (fun ad=>?_) fun ad=>?_
 ·exact AF (I.2 (.inr ⟨s2,List.mem_of_getElem? F,q3,List.mem_of_getElem? D,fun h=>by have:=(Il g).1 h;omega⟩))
 intro aT aB;exact Ba X ⟨v+1,_,rfl,rfl,⟨⟨by omega⟩,by omega⟩,bH d D ((Il g).2 ⟨by omega,by omega⟩),rfl⟩
theorem eN (hT:T=ts.map BI) (hA:A=BI xs) (h1:∀q∈xs,Cp q) (h2:∀s∈ts,∀q∈s,Cp q):CF 97 [.agg (AJ T A)] (.one (.bool true)):=by
 have aE:A.length=xs.length:=by rw[hA,List.length_map]
 have aF:T.length=ts.length:=by rw[hT,List.length_map]
 refine AG Tryz.func97 fun E hE=>?_
 refine BN [] [1,2,3] [1] (fun vs d k=>∃(k':Nat) (j:Int),vs=[.one (.AR 1 0 0),.one (.bool false),.one (.int .i64 j)]/\d=[.var 0 [.sl (.sl AA) T,.sl AA A]]/\(AO j k'/\k'<=xs.length)/\k=xs.length-k') (xs.length-0) ⟨0,0,rfl,rfl,⟨BD 0,by omega⟩,rfl⟩ ?_;rintro J0 Q vs d aN ⟨k',j,rfl,rfl,⟨hj,aG⟩,aH⟩;have ej:=hj.eq;refine AS ?_;rintro n9 ⟨e9,f9⟩;refine Cw (fun a1=>?_) fun a1=>?_
 ·refine .inr ?_;refine AW k' fun a h=>?_
  try conv=>cbv
  obtain⟨q1,X,U,_⟩:=Jw hA h;have G:BY q1 a.1.1 a.1.2 a.2.1 a.2.2:=X;have ao:=(Il G).1 (h1 q1 (List.mem_of_getElem? U));intro ab v;have av:=v.eq;have f20:=v.le;conv=>cbv
  have ah:ab=((List.length a.1.2:Nat):Int):=v.eq;refine FJ (fun a2=>?_) fun a2=>?_
  ·exfalso;omega
  refine AW k' fun N I=>?_
  try conv=>cbv
  have D:=Option.some.inj (I.symm.trans h);have al:List.length N.2.2=List.length a.2.2:=by rw[D]
  intro ad w;have aw:=w.eq;have f30:=w.le;conv=>cbv
  have ai:ad=((List.length N.2.2:Nat):Int):=w.eq;refine FJ (fun a5=>?_) fun a5=>?_
  ·exfalso;omega
  intro aQ aB;exact Ba Q ⟨k'+1,_,rfl,rfl,⟨⟨by omega⟩,by omega⟩,rfl⟩
 refine BN [] [1,2,4] [1] (fun vs d k=>∃(m':Nat) (m:Int),vs=[.one (.AR 1 0 0),.one (.bool false),.one (.int .i64 m)]/\d=[.var 0 [.sl (.sl AA) T,.sl AA A]]/\(AO m m'/\m'<=ts.length)/\k=ts.length-m') (ts.length-0) ⟨0,0,rfl,rfl,⟨BD 0,by omega⟩,rfl⟩ ?_;rintro J1 R vs d aO ⟨m',m,rfl,rfl,⟨hm,aK⟩,aI⟩;have em:=hm.eq;refine AS ?_;rintro aR ⟨ax,f36⟩;refine BW (fun a6=>?_) fun a6=>?_
 ·exact AE ⟨t2,trivial⟩
 refine .inr ?_
 obtain⟨s2,g,Z⟩:∃s,T[m']? =some (BI s)/\ts[m']? =some s:=by
  obtain⟨s,hs⟩:=CM (l:=ts) (i:=m') (by omega);exact⟨s,by rw[hT,List.getElem?_map,hs];rfl,hs⟩
 refine BN [] [1,2,4,5] [1] (fun vs d k=>∃(t:Nat) (p:Int),vs=[.one (.AR 1 0 0),.one (.bool false),.one (.int .i64 m),.one (.int .i64 p)]/\d=[.var 0 [.sl (.sl AA) T,.sl AA A]]/\(AO p t/\t<=s2.length)/\k=s2.length-t) (s2.length-0) ⟨0,0,rfl,rfl,⟨BD 0,by omega⟩,rfl⟩ ?_;rintro J2 S vs d aP ⟨t,p,rfl,rfl,⟨hp,aL⟩,aJ⟩;conv=>cbv
 have ep:=hp.eq;refine AW m' fun O J=>?_
 try conv=>cbv
 have P:O=BI s2:=Option.some.inj (J.symm.trans g);have aM:O.length=s2.length:=by rw[P,List.length_map]
 rintro aT ⟨ay,f46⟩;conv=>cbv
 refine BW (fun a7=>?_) fun a7=>?_
 ·intro aS aC;exact Ba R ⟨m'+1,_,rfl,rfl,⟨⟨by omega⟩,by omega⟩,rfl⟩
 refine .inr ?_;refine AW m' fun z n=>?_
 try conv=>cbv
 have u:z=BI s2:=Option.some.inj (n.symm.trans g);have ar:z.length=s2.length:=by rw[u,List.length_map]
 refine AW t fun b r=>?_
 try conv=>cbv
 obtain⟨q3,Y,W,_⟩:=Jw u r;have H:BY q3 b.1.1 b.1.2 b.2.1 b.2.2:=Y;have aq:=(Il H).1 (h2 s2 (List.mem_of_getElem? Z) q3 (List.mem_of_getElem? W));intro ae x;have az:=x.eq;have f60:=x.le;conv=>cbv
 have aj:ae=((List.length b.1.2:Nat):Int):=x.eq;refine FJ (fun a8=>?_) fun a8=>?_
 ·exfalso;omega
 refine AW m' fun ag K=>?_
 try conv=>cbv
 have f:=Option.some.inj (K.symm.trans n);have au:ag.length=s2.length:=by rw[f,u,List.length_map]
 refine AW t fun B M=>?_
 try conv=>cbv
 have F:=Option.some.inj ((show z[t]? =some B by rw[<-f];exact M).symm.trans r);have an:List.length B.2.2=List.length b.2.2:=by rw[F]
 intro af y;have aA:=y.eq;have f73:=y.le;conv=>cbv
 have ak:af=((List.length B.2.2:Nat):Int):=y.eq;refine FJ (fun aa=>?_) fun aa=>?_
 ·exfalso;omega
 intro aU aD;exact Ba S ⟨t+1,_,rfl,rfl,⟨⟨by omega⟩,by omega⟩,rfl⟩
theorem dz (i:L=ns.map nm) (m:∀n∈ns,(∀q∈co n.1 n.2,Cp q)/\∀s∈n.1,∀q∈s,Cp q):CF 31 [.one (.sl AQ L)] (.one (.bool true)):=by
 have r:L.length=ns.length:=by rw[i,List.length_map]
 refine AG Tryz.func31 fun E p=>?_
 refine BN [] [0,3] [] (fun vs l k=>∃(k':Nat) (j:Int),vs=[.one (.sl AQ L),.one (.int .i64 j)]/\(AO j k'/\k'<=L.length)/\k=L.length-k') (L.length-0) ⟨0,0,rfl,⟨BD 0,by omega⟩,rfl⟩ ?_;rintro F d vs l B ⟨k',j,rfl,⟨t,v⟩,w⟩;have H:=t.eq;refine AS ?_;rintro J ⟨G,f6⟩;refine BW (fun z=>?_) fun z=>?_
 ·exact AE ⟨t2,trivial⟩
 refine .inr ?_;refine AW k' fun D b=>?_
 try conv=>cbv
 obtain⟨u,y,g,h,f⟩:=IQ i b;have a:=m _ (List.mem_of_getElem? f);refine AB p (eN (ts:=u.reverse) (xs:=co u y) g h a.1 (fun s x=>a.2 s (List.mem_reverse.1 x))) ?_;refine BH ?_;intro K I;exact Ba d ⟨k'+1,_,rfl,⟨⟨by omega⟩,by omega⟩,rfl⟩
theorem eA {i:Int} {n:Nu} (w:L=ns.map nm) (h:ns≠[]) (G:AO i i') (H:n=Dt ns i') (F:T=tw n.1) (D:A=em n.1 n.2):CF 32 [.one (.sl AQ L),.one (.int .i64 i)] (.agg (AJ T A)):=by
 have B:=G.eq;have g:L.length=ns.length:=by rw[w,List.length_map]
 have x:0<ns.length:=List.length_pos_iff.2 h;refine AG Tryz.func32 fun E M=>?_
 rintro N ⟨K,f6⟩;refine BO (fun z=>?_) fun z=>?_
 ·exact absurd z (by omega)
 refine Cw (fun b=>?_) fun b=>?_
 ·exact absurd b (by omega)
 rintro I ⟨d,f16⟩ r f;have v:r=((i'%L.length:Nat):Int):=by rw[f,B,d];exact (Int.natCast_emod _ _).symm
 obtain⟨J,a⟩:=CM (l:=L) (i:=(i'%L.length)) (by exact Nat.mod_lt _ (by omega));refine D6 a ?_;obtain⟨u,y,m,p,j⟩:=IQ w a;have t:n=(u,y):=by rw[H];unfold Dt;rw[<-g,List.getD_eq_getElem?_getD,j];rfl
 exact Di (by rw[F,t];exact m.symm) (by rw[D,t];exact p.symm)
theorem lK {i:Nat} (b:∀m,o[m]? =(ts[m]?).map fun s=>BI (if i<m/\m<k then Bx i 0 s else s)) (a:ts[k]? =some s) (d:i<k) {w:LR} (hw:w=BI (Bx i 0 s)):
  ∀m,(o.set k w)[m]? =(ts[m]?).map fun s=>BI (if i<m/\m<k+1 then Bx i 0 s else s):=by
 intro m
 by_cases e:k=m
 ·subst e;have f:=C6 a
  have g:k<o.length:=by
   have:=b k;rw[a] at this;exact C6 this
  rw[List.getElem?_set_self g,a,Option.map_some,if_pos ⟨d,by omega⟩,hw]
 rw[List.getElem?_set_ne e,b m];have:(i<m/\m<k+1)↔(i<m/\m<k):=by omega
 simp only[this]
theorem lJ {i:Nat} (d:i<ts.length) (b:∀m,o[m]? =(ts[m]?).map fun s=>BI (if i<m/\m<ts.length then Bx i 0 s else s)):o.take i++o.drop (i+1)=(ts.take i++(ts.drop (i+1)).map (Bx i 0)).map BI:=by
 have e:o=(ts.take (i+1)++(ts.drop (i+1)).map (Bx i 0)).map BI:=by
  apply List.ext_getElem?;intro m;rw[b m,List.getElem?_map,List.getElem?_append,List.length_take,Nat.min_eq_left (by omega)]
  by_cases hm:m<i+1
  ·rw[if_pos hm,List.getElem?_take,if_pos hm];cases ts[m]? with
   | none=>rfl
   | some s=>simp only[Option.map_some];rw[if_neg (by omega)]
  rw[if_neg hm,List.getElem?_map,List.getElem?_drop,show i+1+(m-(i+1))=m by omega]
  by_cases a:m<ts.length
  ·rw[List.getElem?_eq_getElem a];simp only[Option.map_some];rw[if_pos ⟨by omega,a⟩]
  rw[List.getElem?_eq_none (by omega)];rfl
 have hlen:(ts.take (i+1)).length=i+1:=by rw[List.length_take];omega
 rw[e,List.map_append,List.map_append,List.take_append_of_le_length (by rw[List.length_map,hlen];omega),List.drop_left' (by rw[List.length_map,hlen]),<-List.map_take,List.take_take,Nat.min_eq_left (by omega)]
theorem Vt {i:Nat} {f:List Rat->Bool} (a:ts[k]? =some s) (b:i<k):((ts.drop (i+1)).take (k+1-(i+1))).any f=(((ts.drop (i+1)).take (k-(i+1))).any f||f s):=by
 rw[show k+1-(i+1)=k-(i+1)+1 by omega,DO (l:=ts.drop (i+1)) (i:=k-(i+1)) (x:=s) (by rw[List.getElem?_drop,show i+1+(k-(i+1))=k by omega];exact a)];simp
theorem VL {u R:List (List Rat)} {x:Re} (h:AU u) (hx:In u x) (hl:u.length<=8) (hw:HW u.length (u.reverse,co u x)=(R.reverse,co R x)) (hT:T=tw u) (hA:A=em u x) (aK:T2=tw R) (hC:C=em R x):CF 91 [.agg (AJ T A)] (.agg (AJ T2 C)):=by
 have bw:T.length=u.length:=by rw[hT,CG]
 refine AG Tryz.func91 fun E hE=>?_
 refine⟨[],fun _=>⟨rfl,by decide,rfl,trivial⟩,.inl ?_⟩;try conv=>cbv
 refine .inl ⟨T,fun _=>⟨rfl,by (first | rfl | omega),rfl,by show (0+T.length)*24<=140737488355328;(try simp only[List.length_take,List.length_drop]);omega⟩,?_⟩;intro (ab:List (el (.sl AA))) aW P;have I:ab=([]:List (el (.sl AA)))++(T:List (el (.sl AA))):=P.1;have an:aW=List.length (α:=(el (.sl AA))) ab:=P.2;conv=>cbv
 refine g2 rfl ?_;intro bL aD;have bk:=aD.eq;conv=>cbv
 have aP:List.length ab=List.length T:=by rw[I];rfl
 refine AK ?_;intro aX bo;refine BN [] [2,3,4] [2,3,8] (fun vs f k=>∃(w:List (List Rat)) (O:List LR) (B:LR) (n j:Nat) (i:Int),vs=[.one (.AR 2 0 0),.one (.AR 3 0 0),.one (.int .i64 i)]/\f=[.var 0 [.nil,.nil],.var 0 [.AZ (.sl AA) 8 0 0 n,.sl AA B],.arr 0 (.sl AA) O]/\(AO (i+1) j/\n=O.length/\O=tw w/\B=em w x)/\(AU w/\In w x/\j<=w.length/\w.length<=8)/\HW j (w.reverse,co w x)=(R.reverse,co R x)/\k=j) u.length ⟨u,_,_,_,u.length,aX,rfl,rfl,⟨⟨by omega⟩,an,by rw[I,hT];rfl,hA⟩,⟨h,hx,Nat.le_refl _,hl⟩,hw,rfl⟩ ?_;rintro J0 aI vs f bI ⟨w,O,B,n,j,i,rfl,rfl,⟨hi,hn,hO,hB⟩,⟨a8,aa,bA,v⟩,a,bB⟩;conv=>cbv
 have ei:=hi.eq;obtain⟨i',bx⟩:=xN (j-1);refine Kr ?_ ?_ <;> intro bF <;> conv=>cbv
 ·exact AE ⟨⟨rfl,.inl ⟨_,rfl,by omega,congrArg _ (by rw[aK,hn,List.drop_zero,List.take_length,hO];have:=a;rw[show j=0 by omega,HW] at this;rw[tw,tw,(Prod.mk.inj this).1])⟩,congrArg _ (by rw[hC,hB];have:=a;rw[show j=0 by omega,HW] at this;rw[em,em,(Prod.mk.inj this).2]),trivial⟩,trivial⟩
 obtain⟨K1,X⟩:∃J:List AV->List Af->Prop,J=fun vs f=>∃(p:List (List Rat)) (O2:List LR) (B2:LR) (n2:Nat),vs=[.one (.AR 2 0 0),.one (.AR 3 0 0),.one (.int .i64 i)]/\f=[.var 0 [.nil,.nil],.var 0 [.AZ (.sl AA) 8 0 0 n2,.sl AA B2],.arr 0 (.sl AA) O2]/\
  (n2=O2.length/\O2=tw p/\B2=em p x)/\(AU p/\In p x/\i'<=p.length/\p.length<=8)/\HW i' (p.reverse,co p x)=(R.reverse,co R x):=⟨_,rfl⟩
 refine .inl ⟨[2,3,4],[2,3,8],K1,?_,?_⟩
 ·intro vs f hj;rw[X] at hj;obtain⟨p,O2,B2,n2,rfl,rfl,⟨aQ,aJ,aH⟩,⟨av,aw,ak,au⟩,ar⟩:=hj;refine AK ?_;intro aY bp;exact Ba aI ⟨p,O2,B2,n2,i',aY,rfl,rfl,⟨⟨by omega⟩,aQ,aJ,aH⟩,⟨av,aw,ak,au⟩,ar,rfl⟩
 try conv=>cbv
 have aN:j=i'+1:=by omega
 subst aN;have t:AO i i':=⟨by omega⟩;obtain⟨ts,d⟩:∃z:List (List Rat),z=w.reverse:=⟨_,rfl⟩
 have Y:O=ts.map BI:=by rw[hO,d];rfl
 have bE:ts.length=w.length:=by rw[d,List.length_reverse]
 have bu:O.length=ts.length:=by rw[Y,List.length_map]
 have aL:(co w x).length<=1000000:=by rw[C0 aa];exact Nat.le_trans (Cb v) (by decide)
 obtain⟨aA,G⟩:=xB (C7 i' 0 (co w x));refine AB hE (VX (xs:=co w x) hB t (by omega) G) ?_;intro aZ bq;refine BN [] [2,3,4,5,6] [2,3,8] (fun vs f k=>∃(b:Bool) (k':Nat) (j:Int),vs=[.one (.AR 2 0 0),.one (.AR 3 0 0),.one (.int .i64 i),.one (.bool b),.one (.int .i64 j)]/\f=[.var 0 [.nil,.nil],.var 0 [.AZ (.sl AA) 8 0 0 n,.sl AA B],.arr 0 (.sl AA) O]/\(AO j k'/\i'<k'/\k'<=ts.length)/\b=(C7 i' 0 (co w x)||((ts.drop (i'+1)).take (k'-(i'+1))).any (C7 i' 0))/\k=ts.length-k') (ts.length-(i'+1)) ⟨aA,i'+1,aZ,rfl,rfl,⟨⟨by omega⟩,by omega,by omega⟩,by rw[G,Nat.sub_self,List.take_zero];simp,rfl⟩ ?_;rintro J1 ah vs f bJ ⟨b,k',j,rfl,rfl,⟨hj,ai,bz⟩,hb,bC⟩;conv=>cbv
 have ej:=hj.eq;intro bM aE;have bl:=aE.eq;conv=>cbv
 refine Oo ?_ ?_ <;> intro bG <;> conv=>cbv
 ·refine .inr ?_;cases b <;> conv=>cbv
  ·refine AK ?_;intro aU b8;obtain⟨b1,M⟩:=CM (l:=O) (i:=aU) (by omega);refine⟨b1,fun _=>M,?_⟩;try conv=>cbv
   obtain⟨s4,aB,a5⟩:=Jv (i:=k') Y (by rw[<-M];congr 1;omega);obtain⟨bj,H⟩:=xB (C7 i' 0 s4);refine AB hE (VX aB t (by omega) H) ?_;intro ae aF;exact Ba ah ⟨_,k'+1,ae,rfl,rfl,⟨⟨by omega⟩,by omega,by omega⟩,by rw[Vt a5 ai,<-Bool.or_assoc,<-hb,H];simp,rfl⟩
  refine AK ?_;intro ae aF;refine⟨ts.length-(k'+1),?_,?_⟩
  ·omega
  rw[ah];obtain⟨s4,a5⟩:=CM (l:=ts) (i:=k') (by omega);exact⟨_,k'+1,ae,rfl,rfl,⟨⟨by omega⟩,by omega,by omega⟩,by rw[Vt a5 ai,<-Bool.or_assoc,<-hb];simp,rfl⟩
 cases b <;> conv=>cbv
 ·obtain⟨ag,F⟩:=xR (BI (Bx i' 0 (co w x)));refine AB hE (Vg (xs:=co w x) hB t (by omega) aL F) ?_;intro Dj br;refine .inr ?_;obtain⟨J2,W⟩:=xJ fun vs f k=>∃(o:List LR) (k2:Nat) (j2:Int),vs=[.one (.AR 2 0 0),.one (.AR 3 0 0),.one (.int .i64 i),.one (.int .i64 j2)]/\f=[.var 0 [.nil,.nil],.var 0 [.AZ (.sl AA) 8 0 0 n,.sl AA ag],.arr 0 (.sl AA) o]/\(AO j2 k2/\i'<k2/\k2<=ts.length/\o.length=ts.length)/\(∀m,o[m]? =(ts[m]?).map fun s=>BI (if i'<m/\m<k2 then Bx i' 0 s else s))/\k=ts.length-k2
  refine⟨[],[2,3,4,7],[2,3,8],J2,⟨ts.length-(i'+1),by rw[W];exact⟨O,i'+1,Dj,rfl,rfl,⟨⟨by omega⟩,by omega,by omega,by omega⟩,fun m=>by
   have aR:¬(i'<m/\m<i'+1):=by omega
   simp only[aR,if_false];rw[Y,List.getElem?_map],rfl⟩⟩,?_⟩
  intro vs f bK hj;rw[W] at hj;obtain⟨o,k2,j2,rfl,rfl,⟨aM,aj,bb,aS⟩,hq,bD⟩:=hj;conv=>cbv
  have bn:=aM.eq;intro bN aG;have bm:=aG.eq;conv=>cbv
  refine Oo ?_ ?_ <;> intro bH <;> conv=>cbv
  ·refine .inr ?_;refine AK ?_;intro aV b9;obtain⟨af,N⟩:=CM (l:=o) (i:=aV) (by omega);refine⟨af,fun _=>N,?_⟩;try conv=>cbv
   obtain⟨s7,a6⟩:=CM (l:=ts) (i:=k2) (by omega);have aT:o[k2]? =some af:=by rw[<-N];congr 1;omega
   have aC:af=BI s7:=by have r:=hq k2;rw[a6,aT,Option.map_some,if_neg (by omega)] at r;exact Option.some.inj r
   have aq:s7.length<=1000000:=by have r:=S5 a8 (List.mem_reverse.1 (d ▸ List.mem_of_getElem? a6));have h2:2^w.length<=2^8:=Cb v;omega
   obtain⟨az,K⟩:=xR (BI (Bx i' 0 s7));refine AB hE (Vg aC t (by omega) aq K) ?_;intro ax ba;refine⟨az,fun _=>⟨by show _<List.length (α:=(el (.sl AA))) o;(first | omega | (simp;omega)),by first | exact t1 | exact t2 | exact t4 | simp[BR,BV,cells]⟩,?_⟩;intro (ad:List (el (.sl AA))) (g:ad=List.set (α:=(el (.sl AA))) o ax az);have b2:ad.length=o.length:=by rw[g,List.length_set]
   refine AK ?_;intro b0 bs;exact Ba W ⟨ad,k2+1,b0,rfl,rfl,⟨⟨by omega⟩,by omega,by omega,by rw[g,List.length_set];exact aS⟩,by rw[g,show ax=k2 by omega];exact lK hq a6 aj K,rfl⟩
  refine⟨fun _=>⟨by omega,by omega,by omega⟩,?_⟩;refine AK ?_;rintro bg b4 bQ S ⟨bc,b6⟩ bP bt bf bh ⟨b3,b5⟩ D U ⟨bd,b7⟩;refine .inl ⟨((o).drop D).take U,fun _=>⟨by omega,by omega,⟨_,rfl,by omega,rfl⟩,by show (S+(((o).drop D).take U).length)*24<=140737488355328;(try simp only[List.length_take,List.length_drop]);omega⟩,?_⟩;intro (y:List (el (.sl AA))) ay Q;have al:y=(List.take S o:List (el (.sl AA)))++(((o).drop D).take U:List (el (.sl AA))):=Q.1;have ao:ay=List.length (α:=(el (.sl AA))) y:=Q.2;conv=>cbv
  refine g2 rfl ?_;rw[X];have a1:k'=ts.length:=by omega
  have Z:¬(C7 i' 0 (co w x)||(ts.drop (i'+1)).any (C7 i' 0))=true:=by
   have r:=hb;rw[a1,List.take_of_length_le (by rw[List.length_drop];omega)] at r;rw[<-r];exact Bool.false_ne_true
  obtain⟨w1,e1,a7,aO⟩:=bO a8 aa (by omega:i'<w.length);have e2:=e1;unfold Lr at e2;rw[<-d,if_neg Z] at e2;have e3:=Prod.mk.inj e2
  have a2:y=o.take i'++o.drop (i'+1):=by
   rw[al,show S=i' by omega,show D=i'+1 by omega,List.take_of_length_le (l:=o.drop (i'+1)) (by rw[List.length_drop];omega)]
  rw[show k2=ts.length by omega] at hq;refine⟨w1,y,ag,ay,rfl,rfl,⟨ao,?_,?_⟩,⟨a7.red,a7.mem,aO,Nat.le_trans a7.len v⟩,by rw[HW,e1] at a;exact a⟩
  ·rw[a2,lJ (by omega) hq,tw,<-d] at*;rw[e3.1]
  rw[F,em,<-e3.2]
 rw[X];have a1:k'=ts.length:=by omega
 have Z:(C7 i' 0 (co w x)||(ts.drop (i'+1)).any (C7 i' 0))=true:=by
  have r:=hb;rw[a1,List.take_of_length_le (by rw[List.length_drop];omega)] at r;exact r.symm
 have e1:Lr i' (w.reverse,co w x)=(w.reverse,co w x):=by
  unfold Lr;rw[<-d,if_pos Z]
 exact⟨w,O,B,n,rfl,rfl,⟨hn,hO,hB⟩,⟨a8,aa,by omega,v⟩,by rw[HW,e1] at a;exact a⟩
end
section
open Go.RowKit
theorem Zb {o:el DC} {n d:Int} (a:n=KW o.2.2.2.1) (b:d=((o.2.2.2.2.toNat%8+1:Nat):Int)):G0 o=Rat.divInt n d:=by subst a b;rfl
theorem NN {st:List Nu×Nat} {o:el DC} (h:st.1=[]\/o.1.toNat%6=0):Db st o=(([],Re.ofRat (G0 o)),st.2):=by unfold Db;rw[if_pos h]
theorem JP {st:List Nu×Nat} {o:el DC} (a:st.1≠[]) (b:o.1.toNat%6≠0):Db st o=EU (o.1.toNat%6) (Dt st.1 o.2.1.toNat) (Dt st.1 o.2.2.1.toNat) st.2:=by
 unfold Db;rw[if_neg (fun h=>h.elim a b)]
theorem mI (a b:Nu) (r:Nat):EU 1 a b r=((Bk a.1 b.1,a.2+b.2),r):=by unfold EU;rw[if_pos rfl]
theorem mM (a b:Nu) (r:Nat):EU 2 a b r=((Bk a.1 b.1,a.2-b.2),r):=by unfold EU;rw[if_neg (by decide),if_pos rfl]
theorem mL (a b:Nu) (r:Nat):EU 3 a b r=((Bk a.1 b.1,a.2*b.2),r):=by unfold EU;rw[if_neg (by decide),if_neg (by decide),if_pos rfl]
theorem mK {a b:Nu} (r:Nat) (h:b.2=0):EU 4 a b r=(a,r):=by unfold EU;rw[if_neg (by decide),if_neg (by decide),if_neg (by decide),if_pos rfl,if_pos h]
theorem mJ {a b:Nu} (r:Nat) (h:b.2≠0):EU 4 a b r=((Bk a.1 b.1,a.2*BU b.2),r):=by unfold EU;rw[if_neg (by decide),if_neg (by decide),if_neg (by decide),if_pos rfl,if_neg h]
theorem Y4 (a b:Nu) {r:Nat} (h:r<3):EU 5 a b r=((BC a.1 (DF a.2),Re.sqrt (DF a.2)),r+1):=by unfold EU;rw[if_neg (by decide),if_neg (by decide),if_neg (by decide),if_neg (by decide),if_pos h]
theorem Y3 (a b:Nu) {r:Nat} (h:¬r<3):EU 5 a b r=(a,r):=by unfold EU;rw[if_neg (by decide),if_neg (by decide),if_neg (by decide),if_neg (by decide),if_neg h]
theorem get_eq {ns:List Nu} {i j:Nat} {n:Nu} (h:ns[j]? =some n) (a:j=i%ns.length):Dt ns i=n:=by
 unfold Dt;rw[List.getD_eq_getElem?_getD,<-a,h];rfl
theorem j5:∀h,h<=3->II h Rm Rm<=60000000000000
 |0,_|1,_|2,_|3,_=>by decide +kernel
 | _+4,h=>absurd h (by omega)
theorem j6:∀h,h<=3->II h 256 512<=Rm
 |0,_|1,_|2,_|3,_=>by decide +kernel
 | _+4,h=>absurd h (by omega)
section
variable {V:List Re} {ns:List Nu}
theorem Cc.tb {n:Nu} (h:Cc V n) (hV:V.length<=3):TB 256 n.1:=(PN.I9 (ns:=[n]) hV (fun m hm=>by rw[List.mem_singleton.1 hm];exact h)).tb (PN.self (List.mem_singleton.2 rfl))
theorem Cc.inv {n:Nu} (h:Cc V n) (hV:V.length<=3) (a:n.2≠0):El n.1 Rm (BU n.2):=by
 have b:=Nat.le_trans h.len hV;have ht:BF 256 n.1:=⟨h.red,h.tb hV,by decide,by omega⟩;exact ((h.el hV).inv ht (O9 h.red h.mem a) (Ga a)).mono (j6 _ b)
theorem Cc.abs {n:Nu} (h:Cc V n):Cc V (n.1,DF n.2):=by
 refine⟨h.red,Xp h.mem,h.BB,h.Ih,fun q a=>?_⟩;have a:q∈co n.1 (DF n.2):=a;unfold DF at a
 split at a
 ·rw[Kp h.red h.mem] at a;obtain⟨p,b,rfl⟩:=List.mem_map.1 a;have:=h.cos p b;exact⟨by show (-p.num).natAbs<_;rw[Int.natAbs_neg];exact this.1,this.2⟩
 exact h.cos q a
theorem Zp {n:Nu} (h:Cc V n) (hV:V.length<=2) (g:0<=n.2) {S:Nat} (i:Rm<=S) (j:S<=Sm:=by first|omega|decide):C3 (Tf fun u=>u<:+BC n.1 n.2) Rm Cm S/\Tf (fun u=>u<:+BC n.1 n.2) n.1/\Tf (fun u=>u<:+BC n.1 n.2) (BC n.1 n.2):=by
 have l:=Gf h.red h.mem g;have m:=h.len
 have b:TB 256 (BC n.1 n.2):=by
  by_cases f:Sq n.1 n.2
  ·rw[Df f];exact h.tb (by omega)
  rw[DG f];intro r a;rcases List.mem_cons.1 a with rfl | a
  ·refine (MO h.cos).mono ?_;rw[C0 h.mem];have:2^n.1.length<=2^2:=Cb;omega
  exact h.tb (by omega) r a
 have I:CD (fun u=>u<:+BC n.1 n.2) 256:=⟨fun {u} hu=>TG hu l,fun {u} hu=>fun r a=>b r (hu.subset a),fun {r u} hu=>(List.suffix_cons r u).trans hu⟩;refine⟨Xa I (fun {u} hu=>?_) i j,Tf.of I (OJ _ _),Tf.of I (List.suffix_refl _)⟩
 have:=hu.len I (V:=n.2::V) (fun {u} hu v d=>by
  rcases bj h.mem v (bm hu v d) with rfl | d
  ·exact List.mem_cons_self
  exact List.mem_cons_of_mem _ (h.BB v d))
 rw[List.length_cons] at this;omega
theorem ix (hV:V.length<=3) (d:∀n∈ns,Cc V n) {a b:Nu} (ha:a∈ns) (hb:b∈ns) {r:Nat}:∃(T A i h:_) (e:Int),CF 81 [.agg [.sl (.sl AA) (tw a.1),.sl AA (em a.1 a.2)],.agg [.sl (.sl AA) (tw b.1),.sl AA (em b.1 b.2)]] (.AI [(true,(AJ T A)),(false,[.int .i64 e])])/\
  CF 87 [.agg [.sl (.sl AA) T,.sl AA A],.one (.int .i64 e),.agg [.sl (.sl AA) (tw a.1),.sl AA (em a.1 a.2)]] (.agg [.sl (.sl AA) i,.sl AA h])/\i=tw (EU 4 a b r).1.1/\h=em (EU 4 a b r).1.1 (EU 4 a b r).1.2/\(EU 4 a b r).2=r:=by
 have G:=Gv hV d (Nat.le_refl Rm);have j:=((d a ha).el hV).mono (by decide:512<=Rm);have l:=((d b hb).el hV).mono (by decide:512<=Rm)
 by_cases f:b.2=0
 ·rw[mK r f];exact⟨_,_,_,_,_,eQ G (Ep hV d ha) (Ep hV d hb) rfl rfl rfl rfl j l f,fQ,rfl,rfl,rfl⟩
 rw[mJ r f];have g:=Nat.le_trans (d b hb).len hV;exact⟨_,_,_,_,_,VD G (Ep hV d ha) (Ep hV d hb) rfl rfl rfl rfl j l (O9 (d b hb).red (d b hb).mem f) (Ga f) ((d b hb).inv hV f) (j5 _ g) rfl rfl,Ke,rfl,rfl,rfl⟩
end
theorem kX (x:Nu):F6 [] x=x:=by unfold F6;rw[if_neg (fun h=>h.1 rfl)]
theorem kW {l:List Nu} {x:Nu} (h:l≠[]) (a:Iv x):F6 l x=l.getLastD Lz:=by unfold F6;rw[if_pos ⟨h,a⟩]
theorem kY {l:List Nu} {x:Nu} (a:¬Iv x):F6 l x=x:=by unfold F6;rw[if_neg (fun h=>a h.2)]
theorem YO {n:Nu}:Nw n.1.reverse (co n.1 n.2)↔Iv n:=by
 unfold Nw Iv;simp only[List.mem_reverse]
theorem kl {l:List Nu} {j:Nat} {n:Nu} (h:l[j]? =some n) (a:j+1=l.length):l.getLastD Lz=n:=by
 rw[List.getLastD_eq_getLast?,List.getLast?_eq_getElem?,show l.length-1=j by omega,h];rfl
theorem Z1:∀(xs:List (el DC)) (st:List Nu×Nat),(xs.foldl Im st).1.length=st.1.length+xs.length
 | [],_=>rfl
 | o::xs,st=>by
  rw[List.foldl_cons,Z1 xs (Im st o),List.length_cons];unfold Im;rw[List.length_append,List.length_singleton];omega
theorem aK {x:Re} (h:Bm x<0):x<0:=by rcases Ew x with⟨a,b⟩ |⟨a,b⟩ |⟨a,b⟩ <;> first | exact a | (exfalso;omega)
theorem aJ {x:Re} (h:¬Bm x<0):¬x<0:=by rcases Ew x with⟨a,b⟩ |⟨a,b⟩ |⟨a,b⟩ <;> first | (exfalso;omega) | (rw[a];exact fun h=>by grind) | (intro h;grind)
theorem eC {X:List (el DC)} {L:List (el AQ)} (hL:L=(runN (X.take 24)).1.map nm):CF 28 [.one (.sl DC X)] (.one (.sl AQ L)):=by
 refine AG Tryz.func28 fun E K=>?_
 refine .inr ?_;obtain⟨J0,aF⟩:=xJ fun vs bl k=>(vs=[.one (.sl DC X),.one .nil,.one (.int .i64 0),.one (.int .i64 0)]/\bl=[.dead 0]/\k=24)\/(∃(o:List (el AQ)) (n k':Nat) (rr j:Int),vs=[.one (.sl DC X),.one (.AZ AQ 157 0 0 n),.one (.int .i64 rr),.one (.int .i64 j)]/\bl=[.arr 0 AQ o]/\(AO j k'/\k'<=X.length/\k'<=24/\0<k'/\n=o.length)/\(o=(runN (X.take k')).1.map nm/\AO rr (runN (X.take k')).2)/\k=24-k')
 refine⟨[],[0,3,4,5],[157],J0,⟨24,by rw[aF];exact .inl ⟨rfl,rfl,rfl⟩⟩,?_⟩;intro vs bl dh hj;rw[aF] at hj;rcases hj with⟨rfl,rfl,aH⟩ |⟨o,n,k',rr,j,rfl,rfl,⟨hj,df,cN,bK,hn⟩,⟨ho,g⟩,aH⟩
 ·conv=>cbv
  obtain⟨k',aH⟩:=xN 0;obtain⟨W,V,hV,f⟩:=TR (X.take k');obtain⟨st,F⟩:∃s,s=runN (X.take k'):=⟨_,rfl⟩
  rw[<-F] at W hV f;have ad:st.1=[]:=by rw[F,aH];rfl
  have bO:st.2=0:=by rw[F,aH];rfl
  rintro cy ⟨c3,f22⟩;conv=>cbv
  refine BW (fun bd=>?_) fun bd=>?_
  ·exact AE ⟨⟨rfl,.inr (.inl ⟨_,congrArg _ (by rw[hL,show X.take 24=[] by rw[List.take_eq_nil_iff];right;exact List.eq_nil_of_length_eq_zero (by omega)];rfl)⟩),trivial⟩,trivial⟩
  refine CU ?_;refine .inr ?_;refine AW 0 fun a a2=>?_
  refine AS ?_;intro bh ah az R ab D Q v;have b2:=ah.eq;have f33:=ah.lt;have ag:=R.eq;have bt:=R.lt;have a5:=D.eq;have b3:=D.lt;have J:=v.eq;have aD:=v.lt;have cn:bh=((a.1.toNat:Nat):Int):=b2;have cp:az=((a.2.1.toNat:Nat):Int):=ag;have cq:ab=((a.2.2.1.toNat:Nat):Int):=a5;have cr:Q=((a.2.2.2.2.toNat:Nat):Int):=J;intro bj a6;conv=>cbv
  have a6:=wrap_i64 a6;have ai:bj=KW a.2.2.2.1:=a6;refine AK ?_;intro cz c5 cA aj;have aj:=wrap_i64 aj;refine AK ?_;intro bk c6;obtain⟨aI,Z⟩:=C8 (em [] (Re.ofRat (G0 a)));have ct:=UO a.2.2.2.1;refine AB (r:= .agg [.sl (.sl AA) (([]:List LR)),.sl AA aI]) K (N5 (q:=G0 a) (by omega) (by omega) (by omega) (Zb ai (by show bk=((a.2.2.2.2.toNat%8+1:Nat):Int);omega)) Z) ?_;refine BH ?_;refine .inr ?_;refine BH ?_;refine .inr ?_;obtain⟨_,b1,cg,aR,bc⟩:=NM (st:=st) ⟨W,V,hV,f⟩ a;have ch:b1.length<=8:=by have:=(NM (st:=st) ⟨W,V,hV,f⟩ a).1;omega
  have w:=SE (l:=[]) (x:=(Db st a).1) (fun n hn=>by simp at hn) bc (fun he=>by rw[NN (.inl ad)];exact S8 a);obtain⟨kk,aa⟩:∃z:Nu,z=F6 [] (Db st a).1:=⟨_,rfl⟩
  rw[<-aa] at w;have u:=UJ w.red w.mem;have bL:kk=([],Re.ofRat (G0 a)):=by rw[aa,kX,NN (.inl ad)]
  have cf:(([]:List LR):List LR)=tw kk.1:=by rw[bL];rfl
  have cd:aI=em kk.1 kk.2:=by rw[bL];exact Z
  obtain⟨B,H⟩:=Hx (tw (GL kk).1);obtain⟨y,G⟩:=C8 (em (GL kk).1 (GL kk).2);refine AB (r:= .agg [.sl (.sl AA) B,.sl AA y]) K (VL w.red w.mem (by have:=w.len;omega) (by rw[u.1,u.2.2]) cf cd H (by rw[G,u.2.2])) ?_;refine⟨[(B,y)],fun _=>⟨rfl,by decide,rfl,⟨rfl,by first | exact t1 | exact t2 | exact t4 | simp[BR,BV,cells],trivial⟩⟩,.inr ?_⟩;try conv=>cbv
  refine .inl ⟨[(B,y)],fun _=>⟨rfl,by show (1)*48<=140737488355328;(try simp only[List.length_take,List.length_drop]);omega⟩,?_⟩;refine AK ?_;intro aY bx bg c4;refine⟨24-(k'+1),?_,?_⟩
  ·omega
  rw[aF];have I:X[k']? =some a:=by (first | exact a2 | (rw[<-a2];congr 1 <;> omega))
  refine .inr ⟨_,_,k'+1,0,bg,rfl,rfl,⟨⟨by omega⟩,by have:=C6 I;omega,by omega,by omega,bx⟩,?_,rfl⟩;rw[DO (x:=a) I,Zy,<-F];refine⟨by rw[Im,ad,List.nil_append,<-aa,H,G];rfl,?_⟩
  show AO 0 (Db st a).2
  rw[NN (.inl ad),bO];exact BD 0
 conv=>cbv
 have ej:=hj.eq;have aC:=g.eq;obtain⟨W,V,hV,f⟩:=TR (X.take k');obtain⟨st,F⟩:∃s,s=runN (X.take k'):=⟨_,rfl⟩
 rw[<-F] at W hV f;rw[<-F] at ho g aC;have hlen:st.1.length=k':=by rw[F,runN,Z1,List.length_nil,List.length_take];omega
 have dg:o.length=k':=by rw[ho,List.length_map,hlen]
 have P:st.1≠[]:=fun e=>by rw[e] at hlen;simp at hlen;omega
 have h:=Nat.le_trans hV W;rintro cy ⟨c3,f22⟩;conv=>cbv
 refine BW (fun bd=>?_) fun bd=>?_
 ·exact AE ⟨⟨rfl,.inl ⟨_,rfl,by omega,congrArg _ (by have e:X.take 24=X.take k':=(by first | rw[show k'=24 by omega] | rw[List.take_of_length_le (by omega),List.take_of_length_le (by omega)]);rw[hL,hn,List.drop_zero,List.take_length,ho,F,e])⟩,trivial⟩,trivial⟩
 refine BW (fun cu=>?_) fun cu=>?_
 ·exact AE ⟨⟨rfl,.inl ⟨_,rfl,by omega,congrArg _ (by have e:X.take 24=X.take k':=(by first | rw[show k'=24 by omega] | rw[List.take_of_length_le (by omega),List.take_of_length_le (by omega)]);rw[hL,hn,List.drop_zero,List.take_length,ho,F,e])⟩,trivial⟩,trivial⟩
 refine .inr ?_;refine AW k' fun a a2=>?_
 refine AS ?_;intro bh ah az R ab D Q v;have b2:=ah.eq;have f33:=ah.lt;have ag:=R.eq;have bt:=R.lt;have a5:=D.eq;have b3:=D.lt;have J:=v.eq;have aD:=v.lt;have cn:bh=((a.1.toNat:Nat):Int):=b2;have cp:az=((a.2.1.toNat:Nat):Int):=ag;have cq:ab=((a.2.2.1.toNat:Nat):Int):=a5;have cr:Q=((a.2.2.2.2.toNat:Nat):Int):=J;intro bj a6;conv=>cbv
 have a6:=wrap_i64 a6;have ai:bj=KW a.2.2.2.1:=a6;refine AK ?_;intro cz c5 cA aj;have aj:=wrap_i64 aj;refine AK ?_;intro bk c6;obtain⟨aI,Z⟩:=C8 (em [] (Re.ofRat (G0 a)));have ct:=UO a.2.2.2.1;refine AB (r:= .agg [.sl (.sl AA) (([]:List LR)),.sl AA aI]) K (N5 (q:=G0 a) (by omega) (by omega) (by omega) (Zb ai (by show bk=((a.2.2.2.2.toNat%8+1:Nat):Int);omega)) Z) ?_;intro di c7;have cX:=c7.eq;conv=>cbv
 refine E0 (fun bX=>?_) fun bX=>?_
 ·exact absurd bX (by omega)
 intro dj dd cB bz;obtain⟨c2,p⟩:=xK fun vs bl=>∃(T7:List LR) (A7:LR) (r7:Int),vs=[.one (.sl DC X),.one (.AZ AQ 157 0 0 n),.one (.int .i64 r7),.one (.int .i64 j),.one (.AR 7 0 0)]/\bl=[.var 0 [.sl (.sl AA) T7,.sl AA A7],.arr 0 AQ o]/\(T7=tw (Db st a).1.1/\A7=em (Db st a).1.1 (Db st a).1.2)/\AO r7 (Db st a).2
 refine .inl ⟨[0,3,4,5,7],[7,157],c2,?_,?_⟩
 ·intro vs bl hj;rw[p] at hj;obtain⟨T7,A7,r7,rfl,rfl,⟨bG,bE⟩,bM⟩:=hj;conv=>cbv
  have dc:=bM.eq;intro cQ bu;have cK:=bu.eq;conv=>cbv
  refine E0 (fun aX=>?_) fun aX=>?_
  ·exact absurd aX (by omega)
  obtain⟨bs,a8⟩:=EO (Nw (Db st a).1.1.reverse (co (Db st a).1.1 (Db st a).1.2));refine AB K (fP bG bE a8) ?_;obtain⟨br,a7⟩:=xK fun vs bl=>∃(T8:List LR) (A8:LR),vs=[.one (.sl DC X),.one (.AZ AQ 157 0 0 n),.one (.int .i64 r7),.one (.int .i64 j),.one (.AR 7 0 0)]/\bl=[.var 0 [.sl (.sl AA) T8,.sl AA A8],.arr 0 AQ o]/\(T8=tw (F6 st.1 (Db st a).1).1/\A8=em (F6 st.1 (Db st a).1).1 (F6 st.1 (Db st a).1).2)
  refine .inl ⟨[0,3,4,5,7],[7,157],br,?_,?_⟩
  ·intro vs bl hj;rw[a7] at hj;obtain⟨T8,A8,rfl,rfl,bH,bF⟩:=hj;conv=>cbv
   obtain⟨_,b1,cg,aR,bc⟩:=NM (st:=st) ⟨W,V,hV,f⟩ a;have ch:b1.length<=8:=by have:=(NM (st:=st) ⟨W,V,hV,f⟩ a).1;omega
   have w:=SE (l:=st.1) (x:=(Db st a).1) aR bc (fun he=>by rw[NN (.inl he)];exact S8 a);obtain⟨kk,aa⟩:∃z:Nu,z=F6 st.1 (Db st a).1:=⟨_,rfl⟩
   rw[<-aa] at w;have u:=UJ w.red w.mem;rw[<-aa] at bH bF;obtain⟨B,H⟩:=Hx (tw (GL kk).1);obtain⟨y,G⟩:=C8 (em (GL kk).1 (GL kk).2);refine AB (r:= .agg [.sl (.sl AA) B,.sl AA y]) K (VL w.red w.mem (by have:=w.len;omega) (by rw[u.1,u.2.2]) bH bF H (by rw[G,u.2.2])) ?_;refine⟨[(B,y)],fun _=>⟨rfl,by decide,rfl,⟨rfl,by first | exact t1 | exact t2 | exact t4 | simp[BR,BV,cells],trivial⟩⟩,.inr ?_⟩;try conv=>cbv
   refine .inl ⟨[(B,y)],fun _=>⟨rfl,by (first | rfl | omega),rfl,by show (o.length+1)*48<=140737488355328;(try simp only[List.length_take,List.length_drop]);omega⟩,?_⟩;intro (ay:List (el AQ)) aY aA;have b8:ay=(o:List (el AQ))++([(B,y)]:List (el AQ)):=aA.1;have ba:aY=List.length (α:=(el AQ)) ay:=aA.2;refine AK ?_;intro bg c4;refine⟨24-(k'+1),?_,?_⟩
   ·omega
   rw[aF];have I:X[k']? =some a:=by (first | exact a2 | (rw[<-a2];congr 1 <;> omega))
   refine .inr ⟨ay,_,k'+1,r7,bg,rfl,rfl,⟨⟨by omega⟩,by have:=C6 I;omega,by omega,by omega,ba⟩,?_,rfl⟩;rw[DO (x:=a) I,Zy,<-F];exact⟨by rw[b8,ho,Im,List.map_append,<-aa,H,G];rfl,bM⟩
  cases bs <;> conv=>cbv
  ·rw[a7];refine⟨_,_,rfl,rfl,?_⟩ <;> rw[kY (fun hl=>Bool.false_ne_true (a8.2 (YO.2 hl)))]
   exact⟨bG,bE⟩
  intro cR bw;have cL:=bw.eq;refine AK ?_;intro cS cM bR cj;obtain⟨c1,ax⟩:=CM (l:=o) (i:=bR) (by omega);refine⟨c1,fun _=>ax,?_⟩;try conv=>cbv
  rw[a7];obtain⟨u3,y3,bP,bQ,cm⟩:=IQ ho ax;refine⟨_,_,rfl,rfl,?_⟩ <;> rw[kW P (YO.1 (a8.1 rfl)),kl cm (by omega)]
  exact⟨bP,bQ⟩
 cases cB <;> conv=>cbv
 ·have cv:=Ht bz;rw[p];refine⟨_,_,_,rfl,rfl,?_,?_⟩ <;> rw[NN (.inr (by omega))]
  ·exact⟨rfl,Z⟩
  exact g
 have cv:=Hu bz;intro cC bA;conv=>cbv
 have bA:=wrap_i64 bA;intro cD c8;have cY:=c8.eq;refine AK ?_;intro cE c9;obtain⟨d58,bI,cZ,ck⟩:∃d:Nat,d=a.2.1.toNat%k'/\cE=d/\d<k':=⟨_,rfl,by rw[c9,show cC=((a.2.1.toNat:Nat):Int) by omega,show cD=(k':Int) by omega];exact (Int.natCast_emod _ _).symm,Nat.mod_lt _ bK⟩
 refine AK ?_;intro bS cO;obtain⟨aB,aV⟩:=CM (l:=o) (i:=bS) (by omega);refine⟨aB,fun _=>aV,?_⟩;refine AS ?_;intro cF bB;have bB:=wrap_i64 bB;intro cG ca;have da:=ca.eq;refine AK ?_;intro cH cb;obtain⟨d67,bJ,db,cl⟩:∃d:Nat,d=a.2.2.1.toNat%k'/\cH=d/\d<k':=⟨_,rfl,by rw[cb,show cF=((a.2.2.1.toNat:Nat):Int) by omega,show cG=(k':Int) by omega];exact (Int.natCast_emod _ _).symm,Nat.mod_lt _ bK⟩
 refine AK ?_;intro bT cP;obtain⟨bq,aW⟩:=CM (l:=o) (i:=bT) (by omega);refine⟨bq,fun _=>aW,?_⟩;try conv=>cbv
 refine g2 rfl ?_;obtain⟨u1,y1,m,t,N⟩:=IQ ho aV;obtain⟨u2,y2,ae,af,O⟩:=IQ ho aW;have M:=List.mem_of_getElem? N;have aq:=List.mem_of_getElem? O;have S:bS=a.2.1.toNat%st.1.length:=by rw[hlen,<-bI];omega
 have U:bT=a.2.2.1.toNat%st.1.length:=by rw[hlen,<-bJ];omega
 have ao:=((f _ M).el h).mono (by decide:512<=Rm);have b5:=((f _ aq).el h).mono (by decide:512<=Rm);refine AK ?_;intro dk de;refine .inr ?_;intro cJ bD;conv=>cbv
 refine .inr ?_;cases cJ <;> conv=>cbv
 ·have cx:=Bp bD;intro bY aO;conv=>cbv
  refine .inr ?_;cases bY <;> conv=>cbv
  ·have bU:=Bp aO;intro bZ aP;conv=>cbv
   refine .inr ?_;cases bZ <;> conv=>cbv
   ·have bV:=Bp aP;intro c0 aQ;conv=>cbv
    refine .inr ?_;cases c0 <;> conv=>cbv
    ·have bW:=Bp aQ;obtain⟨dm,bN⟩:=xI (Bm y1);refine AB K (Kd (Gv h f (Nat.le_refl Rm)) (Ep h f M) m t ao bN) ?_;intro cI bC;refine .inr ?_;cases cI <;> conv=>cbv
     ·have cw:=Dw bC;intro bm ak;conv=>cbv
      refine .inr ?_;cases bm <;> conv=>cbv
      ·have bf:=Dw ak;rw[p];have b:=JP (o:=a) P (by omega:a.1.toNat%6≠0);rw[get_eq N S,get_eq O U] at b;rw[show a.1.toNat%6=5 by omega,Y3 _ _ (by omega)] at b;refine⟨_,_,_,rfl,rfl,?_,?_⟩ <;> rw[b]
       ·exact⟨m,t⟩
       exact g
      have bf:=Dx ak;refine AK ?_;intro bn cc;have al:=(f _ M).abs;have an:DF y1=y1:=by unfold DF;rw[if_neg (aJ (by omega))]
      obtain⟨hG,b6,b7⟩:=Zp al (by omega) (Kg _) (Nat.le_refl Rm);obtain⟨bp,a1⟩:=Hx (tw (BC u1 (DF y1)));obtain⟨bo,Y⟩:=C8 (em (BC u1 (DF y1)) (Re.sqrt (DF y1)));refine AB (r:= .AI [(true,[.sl (.sl AA) bp,.sl AA bo]),(false,[.int .i64 0])]) K (Qk hG b6 m (by show _=em u1 (DF y1);rw[an];exact t) ((al.el h).mono (by decide)) b7 (Kg _) a1 Y) ?_;refine AB K Ke ?_;rw[p];have b:=JP (o:=a) P (by omega:a.1.toNat%6≠0);rw[get_eq N S,get_eq O U] at b;rw[show a.1.toNat%6=5 by omega,Y4 _ _ (by omega)] at b;refine⟨_,_,_,rfl,rfl,?_,?_⟩ <;> rw[b]
      ·exact⟨a1,Y⟩
      exact⟨by show bn=((st.2+1:Nat):Int);omega⟩
     have cw:=Dx bC;obtain⟨dn,aS⟩:=C8 (em u1 (-y1));refine AB K (N6 (Gv h f (Nat.le_refl Rm)) (Ep h f M) m t ao aS) ?_;intro bm ak;refine .inr ?_;cases bm <;> conv=>cbv
     ·have bf:=Dw ak;rw[p];have b:=JP (o:=a) P (by omega:a.1.toNat%6≠0);rw[get_eq N S,get_eq O U] at b;rw[show a.1.toNat%6=5 by omega,Y3 _ _ (by omega)] at b;refine⟨_,_,_,rfl,rfl,?_,?_⟩ <;> rw[b]
      ·exact⟨m,t⟩
      exact g
     have bf:=Dx ak;refine AK ?_;intro bn cc;have al:=(f _ M).abs;have an:DF y1= -y1:=by unfold DF;rw[if_pos (aK (by omega))]
     obtain⟨hG,b6,b7⟩:=Zp al (by omega) (Kg _) (Nat.le_refl Rm);obtain⟨bp,a1⟩:=Hx (tw (BC u1 (DF y1)));obtain⟨bo,Y⟩:=C8 (em (BC u1 (DF y1)) (Re.sqrt (DF y1)));refine AB (r:= .AI [(true,[.sl (.sl AA) bp,.sl AA bo]),(false,[.int .i64 0])]) K (Qk hG b6 m (by show _=em u1 (DF y1);rw[an];exact aS) ((al.el h).mono (by decide)) b7 (Kg _) a1 Y) ?_;refine AB K Ke ?_;rw[p];have b:=JP (o:=a) P (by omega:a.1.toNat%6≠0);rw[get_eq N S,get_eq O U] at b;rw[show a.1.toNat%6=5 by omega,Y4 _ _ (by omega)] at b;refine⟨_,_,_,rfl,rfl,?_,?_⟩ <;> rw[b]
     ·exact⟨a1,Y⟩
     exact⟨by show bn=((st.2+1:Nat):Int);omega⟩
    have bW:=Br aQ;obtain⟨aM,aL,b0,aZ,aN,b4,b9,aG,aE,bb⟩:=ix h f M aq (r:=st.2);refine .inl ⟨[.agg [.sl (.sl AA) aB.1,.sl AA aB.2],.agg [.sl (.sl AA) bq.1,.sl AA bq.2]],.AI [(true,[.sl (.sl AA) aM,.sl AA aL]),(false,[.int .i64 aN])],fun _=>⟨t2,t2,trivial⟩,fun _=>FG K (by rw[m,t,ae,af];exact b4),?_⟩;try conv=>cbv
    refine .inl ⟨[.agg [.sl (.sl AA) aM,.sl AA aL],.one (.int .i64 aN),.agg [.sl (.sl AA) aB.1,.sl AA aB.2]],.agg [.sl (.sl AA) b0,.sl AA aZ],fun _=>⟨t2,rfl,t2,trivial⟩,fun _=>FG K (by rw[m,t];exact b9),?_⟩;try conv=>cbv
    rw[p];have b:=JP (o:=a) P (by omega:a.1.toNat%6≠0);rw[get_eq N S,get_eq O U] at b;rw[show a.1.toNat%6=4 by omega] at b;refine⟨_,_,_,rfl,rfl,?_,?_⟩ <;> rw[b]
    ·exact⟨aG,aE⟩
    rw[bb];exact g
   have bV:=Br aP;obtain⟨cW,aw⟩:=Hx (tw (Bk u1 u2));obtain⟨cU,au⟩:=C8 (em (Bk u1 u2) (y1*y2));refine AB K (Qj (Gv h f (Nat.le_refl Rm)) (Ep h f M) (Ep h f aq) m ae t af ao b5 aw au) ?_;refine AB K Ke ?_;rw[p];have b:=JP (o:=a) P (by omega:a.1.toNat%6≠0);rw[get_eq N S,get_eq O U] at b;rw[show a.1.toNat%6=3 by omega,mL] at b;refine⟨_,_,_,rfl,rfl,?_,?_⟩ <;> rw[b]
   ·exact⟨aw,au⟩
   exact g
  have bU:=Br aO;obtain⟨cV,av⟩:=Hx (tw (Bk u1 u2));obtain⟨cT,ar⟩:=C8 (em (Bk u1 u2) (y1-y2));refine AB K (Ql (Gv h f (Nat.le_refl Rm)) (Ep h f M) (Ep h f aq) m ae t af ao b5 av ar) ?_;refine AB K Ke ?_;rw[p];have b:=JP (o:=a) P (by omega:a.1.toNat%6≠0);rw[get_eq N S,get_eq O U] at b;rw[show a.1.toNat%6=2 by omega,mM] at b;refine⟨_,_,_,rfl,rfl,?_,?_⟩ <;> rw[b]
  ·exact⟨av,ar⟩
  exact g
 have cx:=Br bD;obtain⟨dq,aU⟩:=Hx (tw (Bk u1 u2));obtain⟨dp,aT⟩:=C8 (em (Bk u1 u2) (y1+y2));refine AB K (Qi (Gv h f (Nat.le_refl Rm)) (Ep h f M) (Ep h f aq) m ae t af ao b5 aU aT) ?_;refine AB K Ke ?_;rw[p];have b:=JP (o:=a) P (by omega:a.1.toNat%6≠0);rw[get_eq N S,get_eq O U] at b;rw[show a.1.toNat%6=1 by omega,mI] at b;refine⟨_,_,_,rfl,rfl,?_,?_⟩ <;> rw[b]
 ·exact⟨aU,aT⟩
 exact g
end
section
def qn (k:Nat):Re:=Re.ofRat ((k:Nat):Rat)
noncomputable def rtN (k:Nat):Nu:=(BC [] (qn k),Re.sqrt (qn k))
noncomputable def qi (k:Nat):Nu:=([],qn k)
theorem kV (u:List (List Rat)):Eb [] u=u:=by
 unfold Eb
 split
 ·rename_i h;exact (List.suffix_nil.1 h).symm
 rw[if_pos (List.nil_suffix)]
theorem kT (u v:List (List Rat)):Bk u v=Eb u v:=by
 show Eb (Eb [] u) v=_
 rw[kV]
noncomputable def jT:Re:=qn 5+qn 2*Re.sqrt (qn 6)
def PA (u:List (List Rat)):Prop:=u<:+BC [[6]] jT\/u<:+BC [] (qn 2)\/u<:+BC [] (qn 3)
end
section
open Go.RowKit
theorem qw (X:List (el DC)):∃V:List Re,V.length<=3/\∀n∈(runN X).1,Cc V n:=by
 obtain⟨h3,V,hV,a⟩:=TR X;exact⟨V,Nat.le_trans hV h3,a⟩
instance (q:Rat):Decidable (Cp q):=inferInstanceAs (Decidable (_/\_))
theorem aT {q:Rat} (h:Cp q):CR q:=⟨by have:=PK.2 h.1;omega,by have:=PK.2 h.2;omega⟩
end
section
open Go.RowKit
def orM (g:Nat->Nat):List Nat->Nat
 | []=>0
 | k::r=>Nat.lor (Nat.lor (Nat.pow 2 k) (g k)) (orM g r)
def Fx (acc:List Nat) (n k:Nat):Nat:=match Nat.ble (k+1) n with | true=>acc.getD (n-1-k) 0 | false=>0
def MQ:List Oper->List Nat->Nat->List Nat
 | [],acc,_=>acc
 | o::r,acc,n=>MQ r (orM (Fx acc n) (E1 o)::acc) (n+1)
def Sn (ops:List Oper) (tr:Tr):Bool:=V7 ops&&((fun acc=>(List.range ops.length).all fun j=>(List.range j).all fun i=>
 Nat.testBit (Fx acc ops.length j) i||
  (match ops[i]?,ops[j]?,tr[i]?,tr[j]? with
   | some oi,some oj,some ti,some tj=>MK ops oi oj ti tj
   | _,_,_,_=>false)) (MQ ops [] 0))
theorem Y8 {g:Nat->Nat} {i:Nat}:∀{l:List Nat},(orM g l).testBit i=true↔∃k∈l,i=k\/(g k).testBit i=true
 | []=>by simp[orM]
 | k::r=>by
  have d:=Y8 (g:=g) (i:=i) (l:=r)
  show ((2^k ||| g k) ||| orM g r).testBit i=true↔_
  rw[Nat.testBit_or,Nat.testBit_or,Nat.testBit_two_pow,Bool.or_eq_true,Bool.or_eq_true,d];simp only[List.mem_cons,decide_eq_true_eq]
  constructor
  ·rintro ((h | h) |⟨m,b,a⟩)
   ·exact⟨k,.inl rfl,.inl h.symm⟩
   ·exact⟨k,.inl rfl,.inr h⟩
   exact⟨m,.inr b,a⟩
  rintro⟨m,rfl | b,a⟩
  ·exact .inl (a.imp Eq.symm id)
  exact .inr ⟨m,b,a⟩
theorem gN {x:Nat} {acc:List Nat} {n k:Nat} (h:k≠n):Fx (x::acc) (n+1) k=Fx acc n k:=by
 unfold Fx
 by_cases d:k<n
 ·rw[Nat.ble_eq_true_of_le (by omega:k+1<=n+1),Nat.ble_eq_true_of_le (by omega:k+1<=n)]
  show (x::acc).getD (n+1-1-k) 0=acc.getD (n-1-k) 0
  rw[show n+1-1-k=(n-1-k)+1 by omega];rfl
 have a:Nat.ble (k+1) (n+1)=false:=by rw[<-Bool.not_eq_true,Nat.ble_eq];omega
 have b:Nat.ble (k+1) n=false:=by rw[<-Bool.not_eq_true,Nat.ble_eq];omega
 rw[a,b]
theorem WG:∀(ops:List Oper) {acc:List (List Nat)} {m:List Nat},(∀j i,(Fx m acc.length j).testBit i=true↔i∈acc.getD j [])->∀j i,(Fx (MQ ops m acc.length) (acc.length+ops.length) j).testBit i=true↔i∈(GQ ops acc).getD j []
 | [],_,_,h=>h
 | o::r,acc,m,h=>by
  rw[GQ,MQ]
  have:=WG r (acc:=acc++[(E1 o).flatMap fun j=>j::acc.getD j []]) (m:=orM (Fx m acc.length) (E1 o)::m) (fun j i=>by
   rw[List.length_append,List.length_singleton]
   by_cases e:j=acc.length
   ·subst e
    have e1:Fx (orM (Fx m acc.length) (E1 o)::m) (acc.length+1) acc.length=orM (Fx m acc.length) (E1 o):=by
     unfold Fx;rw[Nat.ble_eq_true_of_le (Nat.le_refl _)]
     show (_::m).getD (acc.length+1-1-acc.length) 0=_
     rw[show acc.length+1-1-acc.length=0 by omega];rfl
    rw[e1,Y8];have b:(acc++[(E1 o).flatMap fun j=>j::acc.getD j []]).getD acc.length []=(E1 o).flatMap fun j=>j::acc.getD j []:=by simp
    rw[b,List.mem_flatMap]
    constructor
    ·rintro⟨k,a,h'⟩;exact⟨k,a,List.mem_cons.2 (h'.imp id (h k i).1)⟩
    rintro⟨k,a,h'⟩;exact⟨k,a,(List.mem_cons.1 h').imp id (h k i).2⟩
   rw[gN e,h]
   by_cases d:j<acc.length
   ·simp only[List.getD_eq_getElem?_getD,List.getElem?_append_left d]
   simp only[List.getD_eq_getElem?_getD];rw[List.getElem?_eq_none (by omega),List.getElem?_eq_none (by simp;omega)])
  rw[List.length_append,List.length_singleton] at this;rw[List.length_cons,show acc.length+(r.length+1)=acc.length+1+r.length by omega];exact this
theorem mG {ops:List Oper} {tr:Tr} (h:Sn ops tr=true):JJ ops tr=true:=by
 unfold Sn at h;unfold JJ;rw[Bool.and_eq_true] at h ⊢;refine⟨h.1,?_⟩;have a:=WG ops (acc:=[]) (m:=[]) (fun j i=>by unfold Fx;split <;> simp);rw[List.length_nil,Nat.zero_add] at a
 have e:∀j i,((GQ ops []).getD j []).contains i=Nat.testBit (Fx (MQ ops [] 0) ops.length j) i:=fun j i=>by
  rw[Bool.eq_iff_iff,List.contains_iff_mem];exact (a j i).symm
 have b:=h.2;unfold Yy;simp only[e];exact b
end
end Go.Abs
