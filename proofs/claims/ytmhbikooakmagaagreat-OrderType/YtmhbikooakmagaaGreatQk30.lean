/- Part 31 of a proof. Conditions: each theorem's own. -/
import Derived.Test.YtmhbikooakmagaaGreatQk28
import Derived.Test.YtmhbikooakmagaaGreatQk29
set_option linter.all false
set_option maxHeartbeats 8000000
set_option maxRecDepth 20000
open Go.Proofs
namespace Go.Abs
open Go.RowKit
def KV (TT:List (List Rat)->Prop) (w:List (List Rat)) (b k:Nat) (Q:List (el BL)) (px py:Nat->Re):Prop:=∀i x,Q[i]? =some x->Vm TT w b k k x.1.1 x.1.2 x.2.1 x.2.2 (px i) (py i)
noncomputable def E7 (px py:Nat->Re) (i j:Int):Int:=DC (px i.toNat) (py i.toNat) (px j.toNat) (py j.toNat)
noncomputable def FB (px py:Nat->Re) (i j k:Int):Int:=AZ (-(py j.toNat-py i.toNat)*(px k.toNat-px i.toNat)+(px j.toNat-px i.toNat)*(py k.toNat-py i.toNat))
variable {Q:List (el BL)} {TT:List (List Rat)->Prop} {a b x:Int} {c i j k n:Nat} {w:List (List Rat)}
theorem RM {Bm:Int->Int->Int->Int} {N o:List Int} (f:N[i]? =some x) (h:Dq Bm x (o.take c).reverse=Dq Bm x o.reverse) (g:Dq Bm x (o.take c).reverse=(o.take c).reverse):
  DB Bm (N.drop (i+1)) (o.take c++[x]).reverse=DB Bm (N.drop i) o.reverse:=by
 have d:i<N.length:=GY f
 have e:N.drop i=x::N.drop (i+1):=by
  rw[List.drop_eq_getElem_cons d];congr 1;exact Option.some.inj ((List.getElem?_eq_getElem d).symm.trans f)
 rw[e,DB,<-h,g,List.reverse_append];rfl
def KY (l L:List Int) (i:Nat):Prop:=∀k,k<l.length->L[k]? =if k<i\/l.length<=k+i then l.reverse[k]? else l[k]?
theorem rev_at {l:List Int} (h:k<l.length):l.reverse[k]? =l[l.length-1-k]? :=by
 rw[List.getElem?_reverse h]
theorem cu {l L:List Int} {y:Int} (s:L.length=l.length) (h:KY l L i) (p:i<j) (t:j+i+1=l.length) (q:L[j]? =some x) (r:L[i]? =some y):KY l ((L.set i x).set j y) (i+1):=by
 intro k g;have d:=h j (by omega);have f:=h i (by omega);rw[if_neg (by omega),q] at d;rw[if_neg (by omega),r] at f
 by_cases m:k=j
 ·subst m;rw[List.getElem?_set_self (by rw[List.length_set];omega),if_pos (by omega),rev_at g,show l.length-1-k=i by omega,f]
 rw[List.getElem?_set_ne (by omega)]
 by_cases o:k=i
 ·subst o;rw[List.getElem?_set_self (by omega),if_pos (by omega),rev_at g,show l.length-1-k=j by omega,d]
 rw[List.getElem?_set_ne (by omega),h k g]
 by_cases h3:k<i\/l.length<=k+i
 ·rw[if_pos h3,if_pos (by omega)]
 rw[if_neg h3,if_neg (by omega)]
theorem Yh {f:FuncId} {fn:Func} (p:Tryz.prog.funcs[f]? =some fn) (d:ET fn=true) {m:AC} {l b1:AK} {args:List AV} {r:AV} (g:(HB args&&(r.all BS&&(Nat.ble (args.length+1) fn.ntmps&&(DT m&&(l.lone&&b1.lone)))))=true)
  (h:∀E,env Tryz.prog=E->JV E fn r (some b1) (CL fn.ntmps (.one m::args) (some l))):FF Tryz.prog f m l args r b1:=by
 have h:=h _ rfl;unfold JV at h;unfold ET at d;simp only[Bool.and_eq_true] at d g
 split at h
 ·rename_i c o
  rw[o] at d;exact Qz (TI:=GF) (n:=fn.ntmps) (c:=c) (rs:=fn.results.toList) ⟨⟨fn,p,by simpa using d.1,o,rfl,rfl⟩,d.2,PE,Hd⟩ g.1 g.2.1 g.2.2.2 (Nat.le_of_ble_eq_true g.2.2.1) h
 exact h.elim
theorem cH {Bm:Int->Int->Int->Int} {i:Int} {L:List Int} (f:j+2=c) (g:k+1=c) (h:L[j]? =some a) (d:L[k]? =some b) (h3:0<Bm a b i):Dq Bm i (L.take c).reverse=(L.take c).reverse:=by
 obtain rfl:k=j+1:=by omega
 subst f;exact cG h d h3
theorem cJ {Bm:Int->Int->Int->Int} {i:Int} {L:List Int} {d:Nat} (g:j+2=c) (m:k+1=c) (l:d+1=c) (h:L[j]? =some a) (f:L[k]? =some b) (h3:¬0<Bm a b i):Dq Bm i (L.take d).reverse=Dq Bm i (L.take c).reverse:=by
 obtain rfl:k=j+1:=by omega
 obtain rfl:d=j+1:=by omega
 subst g;exact (cI h f h3).symm
theorem cr {l L:List Int} (f:L.length=l.length) (h:KY l L i) (g:l.length<=i+i+1):L=l.reverse:=by
 apply List.ext_getElem?;intro k;rcases Nat.lt_or_ge k l.length with d | d
 ·rw[h k d]
  split
  ·rfl
  rw[rev_at d,show l.length-1-k=k by omega]
 rw[List.getElem?_eq_none (by omega),List.getElem?_eq_none (by simpa using d)]
theorem ct {l l1:List Int} (hn:n=l.length) (N:l1=l.reverse) (D:l.length<=1000000):FF Tryz.prog 163 (.AN .i64 0 0 0 n) (.arr 0 .i64 l) [] (.AI []) (.arr 0 .i64 l1):=by
 refine Yh Tryz.func163 (by kernel_rfl) rfl fun E hE=>?_
 conv=>cbv
 intro n5 R;have e5:=R.eq;conv=>cbv
 intro Z h6;conv=>cbv
 refine AH ?_;refine .inr ?_;obtain⟨M,p⟩:=xJ fun vs G k=>∃(L:List Int) (i':Nat) (i j:Int),vs=[.one (.AN .i64 0 0 0 n),.one (.int .i64 i),.one (.int .i64 j)]/\G=[.arr 0 .i64 L]/\(AQ i i'/\j=(n:Int)-1-i'/\L.length=l.length/\i'<=n)/\KY l L i'/\k=n-i'
 refine⟨[],[0,2,3],[0],M,⟨n-0,by rw[p];exact⟨l,0,0,Z,rfl,rfl,⟨An 0,by omega,rfl,by omega⟩,fun k hk=>by rw[if_neg (by omega)],rfl⟩⟩,?_⟩;intro vs G W F;rw[p] at F;obtain⟨L,i',i,j,rfl,rfl,⟨S,F,q,T⟩,h,U⟩:=F;conv=>cbv
 have ei:=S.eq;intro n9 D;conv=>cbv
 cases n9 <;> conv=>cbv
 ·have V:=AW D;refine⟨fun _=>⟨trivial,rfl,by simp⟩,fun _=>by rw[N];exact congrArg (fun z=>some (AK.arr 0 .i64 z)) (cr q h (by omega))⟩
 have V:=AY D;refine .inr ?_;refine AG ?_;intro y H;conv=>cbv
 obtain⟨s,m⟩:=AL (l:=L) (i:=y) (by omega);refine⟨s,fun _=>m,?_⟩;try conv=>cbv
 refine AG ?_;intro A I;conv=>cbv
 obtain⟨t,o⟩:=AL (l:=L) (i:=A) (by omega);refine⟨t,fun _=>o,?_⟩;try conv=>cbv
 refine AG ?_;intro B J;conv=>cbv
 refine⟨s,fun _=>⟨by show _<List.length (α:=(el .i64)) L;(first | omega | (simp;omega)),by first | exact t1 | exact t2 | exact t4 | simp[Aj,Ar,cells]⟩,?_⟩;intro (d:List (el .i64)) (f:d=List.set (α:=(el .i64)) L B s);have u:d.length=L.length:=by rw[f,List.length_set]
 conv=>cbv
 refine AG ?_;intro r K;conv=>cbv
 refine⟨t,fun _=>⟨by show _<List.length (α:=(el .i64)) d;(first | omega | (simp;omega)),by first | exact t1 | exact t2 | exact t4 | simp[Aj,Ar,cells]⟩,?_⟩;intro (C:List (el .i64)) (g:C=List.set (α:=(el .i64)) d r t);have v:C.length=d.length:=by rw[g,List.length_set]
 conv=>cbv
 refine BC ?_;intro X O;conv=>cbv
 refine AH ?_;intro Y P;conv=>cbv
 refine AH ?_;refine⟨n-(i'+1),?_,?_⟩
 ·omega
 rw[p];exact⟨_,i'+1,_,_,rfl,rfl,⟨⟨by omega⟩,by omega,by rw[v,u,q],by omega⟩,by rw[g,f,show B=i' by omega];exact cu (i:=i') (j:=r) q h (by omega) (by omega) (by rw[show r=y by omega];exact m) (by rw[show i'=A by omega];exact o),rfl⟩
theorem dG {a:List Int}:CF 47 [.one (.sl .i64 a),.one (.sl .i64 a)] (.one (.bool true)):=by
 refine Ds Tryz.func47 fun E M=>?_
 conv=>cbv
 rintro N ⟨J,f7⟩;conv=>cbv
 rintro O ⟨K,f9⟩;conv=>cbv
 intro s h;conv=>cbv
 cases s <;> conv=>cbv
 ·have p:=Cr h;refine .inr ?_;obtain⟨z,g⟩:=xJ fun vs A k=>∃(i':Nat) (i:Int),vs=[.one (.sl .i64 a),.one (.sl .i64 a),.one (.int .i64 i)]/\(AQ i i'/\i'<=a.length)/\k=a.length-i'
  refine⟨[],[0,1,5],[],z,⟨a.length-0,by rw[g];exact⟨0,0,rfl,⟨An 0,by omega⟩,rfl⟩⟩,?_⟩;intro vs A H y;rw[g] at y;obtain⟨i',i,rfl,⟨D,F⟩,G⟩:=y;conv=>cbv
  have L:=D.eq;rintro I ⟨B,f13⟩;conv=>cbv
  intro t m;conv=>cbv
  cases t <;> conv=>cbv
  ·have r:=AW m;exact AD ⟨t2,trivial⟩
  have r:=AY m;refine .inr ?_;obtain⟨u,d⟩:=AL (l:=a) (i:=i') (by omega);refine⟨u,fun _=>⟨by omega,by rw[show (i).toNat=i' by omega];exact d⟩,?_⟩;try conv=>cbv
  obtain⟨v,f⟩:=AL (l:=a) (i:=i') (by omega);refine⟨v,fun _=>⟨by omega,by rw[show (i).toNat=i' by omega];exact f⟩,?_⟩;try conv=>cbv
  intro n25 o;conv=>cbv
  refine BC ?_;cases n25 <;> conv=>cbv
  ·have q:=Cr o;intro n16 C;conv=>cbv
   refine AH ?_;refine⟨a.length-(i'+1),?_,?_⟩
   ·omega
   rw[g];exact⟨i'+1,_,rfl,⟨⟨by omega⟩,by omega⟩,rfl⟩
  have q:=Cs o;exact absurd (Option.some.inj (d.symm.trans f)) q
 have p:=Cs h;exact absurd (by omega) p
theorem bY (F:Fd TT w) {G H:Nat->Re} (hQ:KV TT w 1950000 1 Q G H) {L:List Int} (hL:L=DA (E7 G H) Q.length) (hn:n=L.length) (h9:Q.length<=1000):CF 161 [.one (.sl BL Q)] (.AI [(false,[.own .i64 L n]),(false,[.int .i64 0])]):=by
 refine Ds Tryz.func161 fun E hE=>?_
 conv=>cbv
 rintro V ⟨ag,f12⟩;conv=>cbv
 refine .inr ?_;obtain⟨J0,p⟩:=xJ fun vs I k=>∃(o:List Int) (m i':Nat) (i:Int),vs=[.one (.sl BL Q),.one (.AN .i64 4 0 0 m),.one (.sl BL Q),.one (.int .i64 V),.one (.int .i64 i)]/\I=[.arr 0 .i64 o]/\(AQ i i'/\i'<=Q.length/\m=o.length)/\o=DA (E7 G H) i'/\k=Q.length-i'
 refine⟨[(4,.i64,true)],[0,4,11,12,13],[4],J0,⟨Q.length-0,by rw[p];exact⟨[],0,0,0,rfl,rfl,⟨An 0,by omega,rfl⟩,rfl,rfl⟩⟩,?_⟩;intro vs I aq R;rw[p] at R;obtain⟨o,m,i',i,rfl,rfl,⟨hi,ak,hm⟩,hinv,al⟩:=R;conv=>cbv
 have Z:=hi.eq;have ao:o.length<=i':=by rw[hinv];exact O7
 intro a8 J;conv=>cbv
 cases a8 <;> conv=>cbv
 ·have a5:=AW J;exact AD ⟨⟨rfl,.inr (.inl ⟨_,_,by decide,rfl,rfl,by omega,rfl,CX (by rw[hL,show Q.length=i' by omega,<-hinv]) (by rw[hn,hL,show Q.length=i' by omega,<-hinv] <;> omega)⟩),trivial⟩,t2,trivial⟩
 have a5:=AY J;refine .inr ?_;obtain⟨t,v⟩:=AL (l:=Q) (i:=i') (by omega);refine⟨t,fun _=>⟨by omega,by rw[show (i).toNat=i' by omega];exact v⟩,?_⟩;try conv=>cbv
 refine .inr ?_;obtain⟨J1,A⟩:=xJ fun vs I k=>∃(k':Nat) (U:Int),vs=[.one (.sl BL Q),.one (.AN .i64 4 0 0 m),.one (.int .i64 i),.one (.Ak 6 0 0),.one (.int .i64 U),.one (.bool false),.one (.sl BL Q),.one (.int .i64 V),.one (.int .i64 i)]/\I=[.arr 0 .i64 o,.var 0 [.sl (.sl AA) t.1.1,.sl AA t.1.2,.sl (.sl AA) t.2.1,.sl AA t.2.2]]/\(AQ U k'/\k'<=o.length)/\(∀m x,m<k'->o[m]? =some x->E7 G H x i<0)/\k=o.length-k'
 refine⟨[],[0,4,5,6,7,8,11,12,13],[4,6],J1,⟨o.length-0,by rw[A];exact⟨0,0,rfl,rfl,⟨An 0,by omega⟩,fun m x h=>absurd h (by omega),rfl⟩⟩,?_⟩;intro vs I ar R;rw[A] at R;obtain⟨k',U,rfl,rfl,⟨a2,S⟩,f,an⟩:=R;conv=>cbv
 have ai:=a2.eq;intro n20 a1;have ah:=a1.eq;conv=>cbv
 intro n21 K;conv=>cbv
 cases n21 <;> conv=>cbv
 ·have a6:=AW K;refine Bu ?_;conv=>cbv
  refine .inr ?_;refine⟨[i],fun _=>⟨rfl,by decide,rfl,⟨rfl,t1,trivial⟩⟩,.inl ?_⟩;try conv=>cbv
  obtain⟨X,s⟩:∃z:List Int,z=o.take k'++i::o.drop k':=⟨_,rfl⟩
  refine .inr (.inr (.inr (.inr (.inr ⟨[.one (.int .i64 U),.one (.sl .i64 [i])],X,fun _=>⟨⟨rfl,hm⟩,rfl,⟨rfl,⟨_,rfl,by simp <;> omega,by simp⟩,trivial⟩⟩,fun _=>Vx hE (by rw[s];exact Sg (m:=k') (by omega) (by omega) (by omega)),?_⟩))));intro C q;conv=>cbv
  intro W P;conv=>cbv
  refine AH ?_;refine⟨Q.length-(i'+1),?_,?_⟩
  ·omega
  rw[p];exact⟨X,C,i'+1,_,rfl,rfl,⟨⟨by omega⟩,by omega,q⟩,by rw[s,DA,<-hinv,<-Z];exact (Nt f S (fun x D=>absurd (GY D) (by omega))).symm,rfl⟩
 have a6:=AY K;refine .inr ?_;refine AG ?_;intro u ae;conv=>cbv
 obtain⟨g,d⟩:=AL (l:=o) (i:=u) (by omega);refine⟨g,fun _=>d,?_⟩;try conv=>cbv
 have af:=OB (cmp:=E7 G H) (n:=i') (x:=g) (by rw[<-hinv];exact List.mem_of_getElem? d);obtain⟨ad,y⟩:=AL (l:=Q) (i:=(g).toNat) (by omega);refine⟨ad,fun _=>⟨by omega,y⟩,?_⟩;try conv=>cbv
 obtain⟨ab,T⟩:∃z,z=E7 G H g i:=⟨_,rfl⟩
 refine AB (r:= .AI [(false,[.int .i64 ab]),(false,[.int .i64 0])]) hE (Jv F (hQ _ _ y) (hQ _ _ v) (T.trans (by rw[E7,show i.toNat=i' by omega])) (by omega)) ?_;conv=>cbv
 refine BC ?_;refine Ai ?_;conv=>cbv
 intro n38 M;conv=>cbv
 cases n38 <;> conv=>cbv
 ·have a7:=Dm M;intro av aj;conv=>cbv
  refine AH ?_;refine⟨o.length-(k'+1),?_,?_⟩
  ·omega
  rw[A];refine⟨k'+1,_,rfl,rfl,⟨⟨by omega⟩,by omega⟩,fun m x h8 D=>?_,rfl⟩;rcases Nat.lt_or_ge m k' with h7 | h7
  ·exact f m x h7 D
  have Y:=Option.some.inj (D.symm.trans (show o[m]? =some g by rw[show m=u by omega];exact d));rw[Y];omega
 have a7:=Dn M;intro au N;conv=>cbv
 intro aa O;conv=>cbv
 refine .inr ?_;cases aa <;> conv=>cbv
 ·have B:=C1 O;intro W P;conv=>cbv
  refine AH ?_;refine⟨Q.length-(i'+1),?_,?_⟩
  ·omega
  rw[p];exact⟨o,m,i'+1,_,rfl,rfl,⟨⟨by omega⟩,by omega,hm⟩,by rw[DA,<-hinv,<-Z];exact (Sh f (by rw[show k'=u by omega];exact d) (by have q9:=N.symm.trans B;simp at q9;omega)).symm,rfl⟩
 have B:=C2 O;refine⟨[i],fun _=>⟨rfl,by decide,rfl,⟨rfl,t1,trivial⟩⟩,.inl ?_⟩;try conv=>cbv
 obtain⟨X,s⟩:∃z:List Int,z=o.take k'++i::o.drop k':=⟨_,rfl⟩
 refine .inr (.inr (.inr (.inr (.inr ⟨[.one (.int .i64 U),.one (.sl .i64 [i])],X,fun _=>⟨⟨rfl,hm⟩,rfl,⟨rfl,⟨_,rfl,by simp <;> omega,by simp⟩,trivial⟩⟩,fun _=>Vx hE (by rw[s];exact Sg (m:=k') (by omega) (by omega) (by omega)),?_⟩))));intro C q;conv=>cbv
 intro W P;conv=>cbv
 refine AH ?_;refine⟨Q.length-(i'+1),?_,?_⟩
 ·omega
 rw[p];exact⟨X,C,i'+1,_,rfl,rfl,⟨⟨by omega⟩,by omega,q⟩,by rw[s,DA,<-hinv,<-Z];exact (Nt f S (fun x D=>by have Y:=Option.some.inj (D.symm.trans (show o[k']? =some g by rw[show k'=u by omega];exact d));rw[Y];have q9:=N.symm.trans B;simp at q9;omega)).symm,rfl⟩
theorem Tj (F:Fd TT w) {O P:Nat->Re} (hQ:KV TT w 1950000 1 Q O P) {N L:List Int} (hN:∀x∈N,0<=x/\x<Q.length) (hL:L=(DB (FB O P) N []).reverse) (hn:n=L.length) (h9:N.length<=1000) (h8:Q.length<=1000):CF 162 [.one (.sl BL Q),.one (.sl .i64 N)] (.AI [(false,[.own .i64 L n]),(false,[.int .i64 0])]):=by
 refine Ds Tryz.func162 fun E hE=>?_
 conv=>cbv
 rintro X ⟨aw,f12⟩;conv=>cbv
 refine .inr ?_;obtain⟨J0,B⟩:=xJ fun vs R k=>∃(o:List Int) (m i':Nat) (i:Int),vs=[.one (.sl BL Q),.one (.AN .i64 6 0 0 m),.one (.sl .i64 N),.one (.int .i64 X),.one (.int .i64 i)]/\R=[.arr 0 .i64 o]/\(AQ i i'/\i'<=N.length/\m=o.length)/\DB (FB O P) (N.drop i') o.reverse=DB (FB O P) N []/\((∀x∈o,0<=x/\x<Q.length)/\o.length<=i')/\k=N.length-i'
 refine⟨[(6,.i64,true)],[0,6,11,12,13],[6],J0,⟨N.length-0,by rw[B];exact⟨[],0,0,0,rfl,rfl,⟨An 0,by omega,rfl⟩,rfl,⟨by simp,by simp⟩,rfl⟩⟩,?_⟩;intro vs R aJ V;rw[B] at V;obtain⟨o,m,i',i,rfl,rfl,⟨hi,aF,hm⟩,hinv,⟨p,aI⟩,aG⟩:=V;conv=>cbv
 have ei:=hi.eq;intro ab S;conv=>cbv
 cases ab <;> conv=>cbv
 ·have a7:=AW S;exact AD ⟨⟨rfl,.inr (.inl ⟨_,_,by decide,rfl,rfl,by omega,rfl,CX (by rw[hL,<-hinv,List.drop_of_length_le (by omega),DB,List.reverse_reverse]) (by rw[hn,hL,<-hinv,List.drop_of_length_le (by omega),DB,List.reverse_reverse] <;> omega)⟩),trivial⟩,t2,trivial⟩
 have a7:=AY S;refine .inr ?_;obtain⟨d,g⟩:=AL (l:=N) (i:=i') (by omega);refine⟨d,fun _=>⟨by omega,by rw[show (i).toNat=i' by omega];exact g⟩,?_⟩;try conv=>cbv
 refine .inr ?_;obtain⟨J1,J⟩:=xJ fun vs R k=>∃(A:Nat),vs=[.one (.sl BL Q),.one (.AN .i64 6 0 0 A),.one (.int .i64 d),.one (.sl .i64 N),.one (.int .i64 X),.one (.int .i64 i)]/\R=[.arr 0 .i64 o]/\A<=o.length/\Dq (FB O P) d (o.take A).reverse=Dq (FB O P) d o.reverse/\k=A
 refine⟨[],[0,6,8,11,12,13],[6],J1,⟨m,by rw[J];exact⟨m,rfl,rfl,by omega,by rw[hm,List.take_length],rfl⟩⟩,?_⟩;intro vs R aK V;rw[J] at V;obtain⟨A,rfl,rfl,aE,u,aH⟩:=V;conv=>cbv
 intro n18 Z;have ax:=Z.eq;conv=>cbv
 intro n19 T;conv=>cbv
 cases n19 <;> conv=>cbv
 ·have a8:=Dm T;refine⟨[d],fun _=>⟨rfl,by decide,rfl,⟨rfl,t1,trivial⟩⟩,.inl ?_⟩;try conv=>cbv
  refine .inr (.inr ⟨[d],fun _=>⟨by omega,by omega,⟨_,rfl,by simp <;> omega,by simp⟩,by show (A+1)*8<=140737488355328;(try simp only[List.length_take,List.length_drop]);omega⟩,?_⟩);intro (v:List (el .i64)) y h;have f:v=(List.take A o:List (el .i64))++([d]:List (el .i64)):=h.1;have t:y=List.length (α:=(el .i64)) v:=h.2;conv=>cbv
  intro ae a6;conv=>cbv
  refine AH ?_;refine⟨N.length-(i'+1),?_,?_⟩
  ·omega
  rw[B];refine⟨_,y,i'+1,_,rfl,rfl,⟨⟨by omega⟩,by omega,t⟩,?_,⟨fun x s=>?_,?_⟩,rfl⟩
  ·rw[<-hinv,f];exact RM g u (cK (by rw[List.length_reverse,List.length_take];omega))
  ·rw[f] at s;rcases List.mem_append.1 s with s | s
   ·exact p x (List.mem_of_mem_take s)
   rw[List.mem_singleton.1 s];exact hN d (List.mem_of_getElem? g)
  rw[f,List.length_append,List.length_take,List.length_singleton];omega
 have a8:=Dn T;refine .inr ?_;intro n24 a1;have ay:=a1.eq;conv=>cbv
 intro n25 aB;conv=>cbv
 refine AH ?_;refine AG ?_;intro K al;conv=>cbv
 obtain⟨C,q⟩:=AL (l:=o) (i:=K) (by omega);refine⟨C,fun _=>q,?_⟩;try conv=>cbv
 have ao:=p C (List.mem_of_getElem? q);obtain⟨ag,G⟩:=AL (l:=Q) (i:=(C).toNat) (by omega);refine⟨ag,fun _=>⟨by omega,G⟩,?_⟩;try conv=>cbv
 intro n33 a2;have az:=a2.eq;conv=>cbv
 intro n34 aC;conv=>cbv
 refine AH ?_;refine AG ?_;intro M an;conv=>cbv
 obtain⟨D,r⟩:=AL (l:=o) (i:=M) (by omega);refine⟨D,fun _=>r,?_⟩;try conv=>cbv
 have aq:=p D (List.mem_of_getElem? r);obtain⟨ah,H⟩:=AL (l:=Q) (i:=(D).toNat) (by omega);refine⟨ah,fun _=>⟨by omega,H⟩,?_⟩;try conv=>cbv
 have ar:=hN d (List.mem_of_getElem? g);obtain⟨ai,I⟩:=AL (l:=Q) (i:=(d).toNat) (by omega);refine⟨ai,fun _=>⟨by omega,I⟩,?_⟩;try conv=>cbv
 obtain⟨aM,W⟩:∃z,z=FB O P C D d:=⟨_,rfl⟩
 refine AB hE (Hh F (hQ _ _ G) (hQ _ _ H) (hQ _ _ I) W (by omega)) ?_;conv=>cbv
 refine BC ?_;refine Ai ?_;conv=>cbv
 intro ad U;conv=>cbv
 cases ad <;> conv=>cbv
 ·have aa:=Bh U;intro CW a5;have aA:=a5.eq;conv=>cbv
  intro aL aD;conv=>cbv
  refine AH ?_;refine AG ?_;intro av aj;conv=>cbv
  rintro af Y ⟨au,ak⟩;conv=>cbv
  refine⟨A-1,?_,?_⟩
  ·omega
  rw[J];obtain rfl:af=0:=by omega
  refine⟨Y,rfl,rfl,by omega,?_,by omega⟩;rw[<-u];exact cJ (j:=K) (k:=M) (by omega) (by omega) (by omega) q r (by omega)
 have aa:=Bi U;refine⟨[d],fun _=>⟨rfl,by decide,rfl,⟨rfl,t1,trivial⟩⟩,.inl ?_⟩;try conv=>cbv
 refine .inr (.inr ⟨[d],fun _=>⟨by omega,by omega,⟨_,rfl,by simp <;> omega,by simp⟩,by show (A+1)*8<=140737488355328;(try simp only[List.length_take,List.length_drop]);omega⟩,?_⟩);intro (v:List (el .i64)) y h;have f:v=(List.take A o:List (el .i64))++([d]:List (el .i64)):=h.1;have t:y=List.length (α:=(el .i64)) v:=h.2;conv=>cbv
 intro ae a6;conv=>cbv
 refine AH ?_;refine⟨N.length-(i'+1),?_,?_⟩
 ·omega
 rw[B];refine⟨_,y,i'+1,_,rfl,rfl,⟨⟨by omega⟩,by omega,t⟩,?_,⟨fun x s=>?_,?_⟩,rfl⟩
 ·rw[<-hinv,f];exact RM g u (cH (j:=K) (k:=M) (by omega) (by omega) q r (by omega))
 ·rw[f] at s;rcases List.mem_append.1 s with s | s
  ·exact p x (List.mem_of_mem_take s)
  rw[List.mem_singleton.1 s];exact hN d (List.mem_of_getElem? g)
 rw[f,List.length_append,List.length_take,List.length_singleton];omega
theorem Zy {cmp:Int->Int->Int} {Bm:Int->Int->Int->Int} (h:(DA cmp n).length<=1):Jj cmp Bm n=DA cmp n:=if_pos h
theorem Zz {cmp:Int->Int->Int} {Bm:Int->Int->Int->Int} (h:¬(DA cmp n).length<=1) {A B:List Int} (d:A=(DB Bm (DA cmp n) []).reverse) (f:B=(DB Bm (DA cmp n).reverse []).reverse) {a b:Nat} (ha:a=A.length-1) (hb:b=B.length-1):Jj cmp Bm n=A.take a++B.take b:=by
 rw[Jj,if_neg h,<-d,<-f,ha,hb,List.dropLast_eq_take,List.dropLast_eq_take]
theorem RO {Bm:Int->Int->Int->Int} {N A:List Int} (f:N≠[]) (d:A=(DB Bm N []).reverse):0<A.length/\A.length<=N.length:=by
 rw[d,List.length_reverse];exact⟨List.length_pos_iff.2 (Y9 f),RJ (Bm:=Bm) (l:=N) (st:=[])⟩
theorem bV (F:Fd TT w) {o p:Nat->Re} (P:KV TT w 1950000 1 Q o p) {L:List Int} (Z:L=Jj (E7 o p) (FB o p) Q.length) (M:Q.length<=50):CF 50 [.one (.sl BL Q)] (.AI [(false,[.sl .i64 L]),(false,[.int .i64 0])]):=by
 refine Ds Tryz.func50 fun E G=>?_
 conv=>cbv
 intro n9 M;have e9:=M.eq;have f9:=M.le;conv=>cbv
 intro V q;conv=>cbv
 cases V <;> conv=>cbv
 ·have C:=Bh q;obtain⟨S,h⟩:∃z:List Int,z=DA (E7 o p) Q.length:=⟨_,rfl⟩
  obtain⟨nS,d⟩:∃z,z=S.length:=⟨_,rfl⟩
  have ak:S.length<=Q.length:=by rw[h];exact O7
  have u:∀x∈S,0<=x/\x<Q.length:=fun x H=>OB (cmp:=E7 o p) (by rw[<-h];exact H)
  refine AB G (bY F P h d (by omega)) ?_;conv=>cbv
  refine Ai ?_;conv=>cbv
  intro n20 I;have ad:=I.eq;conv=>cbv
  intro n21 r;conv=>cbv
  cases n21 <;> conv=>cbv
  ·have U:=IV r;obtain⟨A,N⟩:∃z:List Int,z=(DB (FB o p) S []).reverse:=⟨_,rfl⟩
   obtain⟨nA,R⟩:∃z,z=A.length:=⟨_,rfl⟩
   have s:S≠[]:=fun e=>by rw[e] at d;simp at d;omega
   have ai:=RO s N;refine .inr (.inl ⟨[.one (.sl BL Q),.one (.sl .i64 ((S).take nS))],.AI [(false,[.own .i64 A nA]),(false,[.int .i64 0])],fun _=>⟨rfl,⟨_,rfl,by simp <;> omega,by simp⟩,trivial⟩,fun _=>Et G (JK rfl (by rw[d,List.take_length];exact Tj F P u N R (by omega) (by omega))),?_⟩);try conv=>cbv
   refine Ai ?_;conv=>cbv
   obtain⟨S2,f⟩:∃z:List Int,z=S.reverse:=⟨_,rfl⟩
   have t:S2.length=S.length:=by rw[f,List.length_reverse]
   refine .inr (.inr (.inl ⟨[],.AI [],.arr 0 .i64 S2,fun _=>⟨by first | decide | simp[BR,BY],trivial⟩,fun _=>⟨C3 G (ct d f (by omega)),rfl,rfl⟩,?_⟩));try conv=>cbv
   obtain⟨B,O⟩:∃z:List Int,z=(DB (FB o p) S2 []).reverse:=⟨_,rfl⟩
   obtain⟨nB,T⟩:∃z,z=B.length:=⟨_,rfl⟩
   have aj:=RO (by rw[f];simpa using s) O;refine .inr (.inl ⟨[.one (.sl BL Q),.one (.sl .i64 ((S2).take nS))],.AI [(false,[.own .i64 B nB]),(false,[.int .i64 0])],fun _=>⟨rfl,⟨_,rfl,by simp <;> omega,by simp⟩,trivial⟩,fun _=>Et G (JK rfl (by rw[d,<-t,List.take_length];exact Tj F P (fun x H=>u x (by rw[f] at H;simpa using H)) O T (by omega) (by omega))),?_⟩);try conv=>cbv
   refine Ai ?_;conv=>cbv
   intro al J;have ae:=J.eq;conv=>cbv
   intro an ag;conv=>cbv
   refine AH ?_;refine AG ?_;intro aa a1;conv=>cbv
   rintro X m ⟨a7,a5⟩;conv=>cbv
   intro ao K;have af:=K.eq;conv=>cbv
   intro CW ah;conv=>cbv
   refine AH ?_;refine AG ?_;intro ab a2;conv=>cbv
   rintro Y g ⟨a8,a6⟩;conv=>cbv
   obtain rfl:X=0:=by omega
   obtain rfl:Y=0:=by omega
   refine .inr (.inr ⟨(B).take g,fun _=>⟨by omega,by omega,⟨_,rfl,by simp <;> omega,by simp⟩,by show (m+((B).take g).length)*8<=140737488355328;(try simp only[List.length_take,List.length_drop]);omega⟩,?_⟩);intro (D:List (el .i64)) W l;have v:D=(List.take m A:List (el .i64))++((B).take g:List (el .i64)):=l.1;have y:W=List.length (α:=(el .i64)) D:=l.2;conv=>cbv
   refine BC ?_;exact AD ⟨⟨rfl,.inl ⟨_,rfl,by omega,congrArg _ (by rw[y,List.drop_zero,List.take_length,v,Z];exact Zz (a:=m) (b:=g) (by rw[<-h];omega) (by rw[<-h];exact N) (by rw[<-h,<-f];exact O) (by omega) (by omega))⟩,trivial⟩,t2,trivial⟩
  have U:=IW r;exact AD ⟨⟨rfl,.inl ⟨_,rfl,by omega,congrArg _ (by rw[Z,Zy (by rw[<-h];omega),h,List.drop_zero,d,<-h,List.take_length])⟩,trivial⟩,t2,trivial⟩
 have C:=Bi q;exact absurd C (by omega)
end Go.Abs
