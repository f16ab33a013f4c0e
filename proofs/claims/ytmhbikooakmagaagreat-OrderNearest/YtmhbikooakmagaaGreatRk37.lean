/- Part 38 of a proof. Conditions: each theorem's own. -/
import Derived.Test.YtmhbikooakmagaaGreatRk35
import Derived.Test.YtmhbikooakmagaaGreatRk36
set_option linter.all false
set_option maxHeartbeats 8000000
set_option maxRecDepth 20000
open Go.Proofs
namespace Go.Abs
open Go.RowKit
def Fl (TT:List (List Rat)->Prop) (w:List (List Rat)) (b k:Nat) (Q:List (el Ai)) (px py:Nat->Re):Prop:=∀i x,Q[i]? =some x->Vm TT w b k k x.1.1 x.1.2 x.2.1 x.2.2 (px i) (py i)
noncomputable def DH (px py:Nat->Re) (i j:Int):Int:=GB (px i.toNat) (py i.toNat) (px j.toNat) (py j.toNat)
noncomputable def Da (px py:Nat->Re) (i j k:Int):Int:=An (-(py j.toNat-py i.toNat)*(px k.toNat-px i.toNat)+(px j.toNat-px i.toNat)*(py k.toNat-py i.toNat))
variable {Q:List (el Ai)} {TT:List (List Rat)->Prop} {a b x:Int} {c i j k n:Nat} {w:List (List Rat)}
theorem VD {BT:Int->Int->Int->Int} {N o:List Int} (d:N[i]? =some x) (h:Dc BT x (o.take c).reverse=Dc BT x o.reverse) (f:Dc BT x (o.take c).reverse=(o.take c).reverse):
  Ck BT (N.drop (i+1)) (o.take c++[x]).reverse=Ck BT (N.drop i) o.reverse:=by
 have hi:i<N.length:=HJ d
 have e:N.drop i=x::N.drop (i+1):=by
  rw[List.drop_eq_getElem_cons hi];congr 1;exact Option.some.inj ((List.getElem?_eq_getElem hi).symm.trans d)
 rw[e,Ck,<-h,f,List.reverse_append];rfl
def M3 (l L:List Int) (i:Nat):Prop:=∀k,k<l.length->L[k]? =if k<i\/l.length<=k+i then l.reverse[k]? else l[k]?
theorem rev_at {l:List Int} (h:k<l.length):l.reverse[k]? =l[l.length-1-k]? :=by
 rw[List.getElem?_reverse h]
theorem lh {l L:List Int} {y:Int} (s:L.length=l.length) (h:M3 l L i) (p:i<j) (t:j+i+1=l.length) (q:L[j]? =some x) (r:L[i]? =some y):M3 l ((L.set i x).set j y) (i+1):=by
 intro k g;have d:=h j (by omega);have f:=h i (by omega);rw[if_neg (by omega),q] at d;rw[if_neg (by omega),r] at f
 by_cases m:k=j
 ·subst m;rw[List.getElem?_set_self (by rw[List.length_set];omega),if_pos (by omega),rev_at g,show l.length-1-k=i by omega,f]
 rw[List.getElem?_set_ne (by omega)]
 by_cases o:k=i
 ·subst o;rw[List.getElem?_set_self (by omega),if_pos (by omega),rev_at g,show l.length-1-k=j by omega,d]
 rw[List.getElem?_set_ne (by omega),h k g]
 by_cases h3:k<i\/l.length<=k+i
 ·rw[if_pos h3,if_pos (by omega)]
 rw[if_neg h3,if_neg (by omega)]
theorem fB {f:FuncId} {fn:Func} (p:Tryz.prog.funcs[f]? =some fn) (d:FD fn=true) {m:AC} {l b1:AL} {args:List AV} {r:AV} (g:(Ih args&&(r.all Bg&&(Nat.ble (args.length+1) fn.ntmps&&(EM m&&(l.lone&&b1.lone)))))=true)
  (h:∀E,env Tryz.prog=E->La E fn r (some b1) (Cw fn.ntmps (.one m::args) (some l))):GN Tryz.prog f m l args r b1:=by
 have h:=h _ rfl;unfold La at h;unfold FD at d;simp only[Bool.and_eq_true] at d g
 split at h
 ·rename_i c o
  rw[o] at d;exact Uf (TI:=HX) (n:=fn.ntmps) (c:=c) (rs:=fn.results.toList) ⟨⟨fn,p,by simpa using d.1,o,rfl,rfl⟩,d.2,Sj,JG⟩ g.1 g.2.1 g.2.2.2 (Nat.le_of_ble_eq_true g.2.2.1) h
 exact h.elim
theorem kY {BT:Int->Int->Int->Int} {i:Int} {L:List Int} (f:j+2=c) (g:k+1=c) (h:L[j]? =some a) (d:L[k]? =some b) (h3:0<BT a b i):Dc BT i (L.take c).reverse=(L.take c).reverse:=by
 obtain rfl:k=j+1:=by omega
 subst f;exact kX h d h3
theorem ke {BT:Int->Int->Int->Int} {i:Int} {L:List Int} {d:Nat} (g:j+2=c) (m:k+1=c) (l:d+1=c) (h:L[j]? =some a) (f:L[k]? =some b) (h3:¬0<BT a b i):Dc BT i (L.take d).reverse=Dc BT i (L.take c).reverse:=by
 obtain rfl:k=j+1:=by omega
 obtain rfl:d=j+1:=by omega
 subst g;exact (kZ h f h3).symm
theorem lf {l L:List Int} (f:L.length=l.length) (h:M3 l L i) (hi:l.length<=i+i+1):L=l.reverse:=by
 apply List.ext_getElem?;intro k;rcases Nat.lt_or_ge k l.length with d | d
 ·rw[h k d]
  split
  ·rfl
  rw[rev_at d,show l.length-1-k=k by omega]
 rw[List.getElem?_eq_none (by omega),List.getElem?_eq_none (by simpa using d)]
theorem lg {l l1:List Int} (hn:n=l.length) (N:l1=l.reverse) (D:l.length<=1000000):GN Tryz.prog 163 (.AN .i64 0 0 0 n) (.arr 0 .i64 l) [] (.AG []) (.arr 0 .i64 l1):=by
 refine fB Tryz.func163 (by kernel_rfl) rfl fun E hE=>?_
 conv=>cbv
 intro n5 R;have e5:=R.eq;conv=>cbv
 intro Y h6;conv=>cbv
 refine AI ?_;refine .inr ?_;obtain⟨M,p⟩:=xJ fun vs G k=>∃(L:List Int) (i':Nat) (i j:Int),vs=[.one (.AN .i64 0 0 0 n),.one (.int .i64 i),.one (.int .i64 j)]/\G=[.arr 0 .i64 L]/\(AO i i'/\j=(n:Int)-1-i'/\L.length=l.length/\i'<=n)/\M3 l L i'/\k=n-i'
 refine⟨[],[0,2,3],[0],M,⟨n-0,by rw[p];exact⟨l,0,0,Y,rfl,rfl,⟨Al 0,by omega,rfl,by omega⟩,fun k hk=>by rw[if_neg (by omega)],rfl⟩⟩,?_⟩;intro vs G V F;rw[p] at F;obtain⟨L,i',i,j,rfl,rfl,⟨hi,F,q,S⟩,h,T⟩:=F;conv=>cbv
 have ei:=hi.eq;intro Z D;conv=>cbv
 cases Z <;> conv=>cbv
 ·have U:=AW D;refine⟨fun _=>⟨trivial,rfl,by simp⟩,fun _=>by rw[N];exact congrArg (fun z=>some (AL.arr 0 .i64 z)) (lf q h (by omega))⟩
 have U:=AY D;refine .inr ?_;refine AH ?_;intro y H;conv=>cbv
 obtain⟨s,m⟩:=AK (l:=L) (i:=y) (by omega);refine⟨s,fun _=>m,?_⟩;try conv=>cbv
 refine AH ?_;intro A I;conv=>cbv
 obtain⟨t,o⟩:=AK (l:=L) (i:=A) (by omega);refine⟨t,fun _=>o,?_⟩;try conv=>cbv
 refine AH ?_;intro B J;conv=>cbv
 refine⟨s,fun _=>⟨by show _<List.length (α:=(el .i64)) L;(first | omega | (simp;omega)),by first | exact t1 | exact t2 | exact t4 | simp[Ao,BA,cells]⟩,?_⟩;intro (d:List (el .i64)) (f:d=List.set (α:=(el .i64)) L B s);have u:d.length=L.length:=by rw[f,List.length_set]
 conv=>cbv
 refine AH ?_;intro r K;conv=>cbv
 refine⟨t,fun _=>⟨by show _<List.length (α:=(el .i64)) d;(first | omega | (simp;omega)),by first | exact t1 | exact t2 | exact t4 | simp[Ao,BA,cells]⟩,?_⟩;intro (C:List (el .i64)) (g:C=List.set (α:=(el .i64)) d r t);have v:C.length=d.length:=by rw[g,List.length_set]
 conv=>cbv
 refine BG ?_;intro W O;conv=>cbv
 refine AI ?_;intro X P;conv=>cbv
 refine AI ?_;refine⟨n-(i'+1),?_,?_⟩
 ·omega
 rw[p];exact⟨_,i'+1,_,_,rfl,rfl,⟨⟨by omega⟩,by omega,by rw[v,u,q],by omega⟩,by rw[g,f,show B=i' by omega];exact lh (i:=i') (j:=r) q h (by omega) (by omega) (by rw[show r=y by omega];exact m) (by rw[show i'=A by omega];exact o),rfl⟩
theorem ZT {a:List Int}:CF 47 [.one (.sl .i64 a),.one (.sl .i64 a)] (.one (.bool true)):=by
 refine CJ Tryz.func47 fun E L=>?_
 conv=>cbv
 rintro M ⟨I,f7⟩;conv=>cbv
 rintro N ⟨J,f9⟩;conv=>cbv
 intro s h;conv=>cbv
 cases s <;> conv=>cbv
 ·have p:=Co h;refine .inr ?_;obtain⟨z,g⟩:=xJ fun vs A k=>∃(i':Nat) (i:Int),vs=[.one (.sl .i64 a),.one (.sl .i64 a),.one (.int .i64 i)]/\(AO i i'/\i'<=a.length)/\k=a.length-i'
  refine⟨[],[0,1,5],[],z,⟨a.length-0,by rw[g];exact⟨0,0,rfl,⟨Al 0,by omega⟩,rfl⟩⟩,?_⟩;intro vs A G y;rw[g] at y;obtain⟨i',i,rfl,⟨hi,D⟩,F⟩:=y;conv=>cbv
  have K:=hi.eq;rintro H ⟨B,f13⟩;conv=>cbv
  intro t m;conv=>cbv
  cases t <;> conv=>cbv
  ·have r:=AW m;exact AD ⟨t2,trivial⟩
  have r:=AY m;refine .inr ?_;obtain⟨u,d⟩:=AK (l:=a) (i:=i') (by omega);refine⟨u,fun _=>⟨by omega,by rw[show (i).toNat=i' by omega];exact d⟩,?_⟩;try conv=>cbv
  obtain⟨v,f⟩:=AK (l:=a) (i:=i') (by omega);refine⟨v,fun _=>⟨by omega,by rw[show (i).toNat=i' by omega];exact f⟩,?_⟩;try conv=>cbv
  intro n25 o;conv=>cbv
  refine BG ?_;cases n25 <;> conv=>cbv
  ·have q:=Co o;intro n16 C;conv=>cbv
   refine AI ?_;refine⟨a.length-(i'+1),?_,?_⟩
   ·omega
   rw[g];exact⟨i'+1,_,rfl,⟨⟨by omega⟩,by omega⟩,rfl⟩
  have q:=Cp o;exact absurd (Option.some.inj (d.symm.trans f)) q
 have p:=Cp h;exact absurd (by omega) p
theorem j6 (F:Fd TT w) {px py:Nat->Re} (hQ:Fl TT w 1950000 1 Q px py) {L:List Int} (hL:L=CL (DH px py) Q.length) (hn:n=L.length) (h9:Q.length<=1000):CF 161 [.one (.sl Ai Q)] (.AG [(false,[.own .i64 L n]),(false,[.int .i64 0])]):=by
 refine CJ Tryz.func161 fun E Y=>?_
 conv=>cbv
 rintro S ⟨ad,f12⟩;conv=>cbv
 refine .inr ?_;obtain⟨J0,p⟩:=xJ fun vs D k=>∃(o:List Int) (m i':Nat) (i:Int),vs=[.one (.sl Ai Q),.one (.AN .i64 4 0 0 m),.one (.sl Ai Q),.one (.int .i64 S),.one (.int .i64 i)]/\D=[.arr 0 .i64 o]/\(AO i i'/\i'<=Q.length/\m=o.length)/\o=CL (DH px py) i'/\k=Q.length-i'
 refine⟨[(4,.i64,true)],[0,4,11,12,13],[4],J0,⟨Q.length-0,by rw[p];exact⟨[],0,0,0,rfl,rfl,⟨Al 0,by omega,rfl⟩,rfl,rfl⟩⟩,?_⟩;intro vs D al N;rw[p] at N;obtain⟨o,m,i',i,rfl,rfl,⟨hi,ah,hm⟩,hinv,ai⟩:=N;conv=>cbv
 have W:=hi.eq;have ak:o.length<=i':=by rw[hinv];exact SY
 intro a6 G;conv=>cbv
 cases a6 <;> conv=>cbv
 ·have a1:=AW G;exact AD ⟨⟨rfl,.inr (.inl ⟨_,_,by decide,rfl,rfl,by omega,rfl,C5 (by rw[hL,show Q.length=i' by omega,<-hinv]) (by rw[hn,hL,show Q.length=i' by omega,<-hinv] <;> omega)⟩),trivial⟩,t2,trivial⟩
 have a1:=AY G;refine .inr ?_;obtain⟨t,v⟩:=AK (l:=Q) (i:=i') (by omega);refine⟨t,fun _=>⟨by omega,by rw[show (i).toNat=i' by omega];exact v⟩,?_⟩;try conv=>cbv
 refine .inr ?_;obtain⟨J1,A⟩:=xJ fun vs D k=>∃(k':Nat) (R:Int),vs=[.one (.sl Ai Q),.one (.AN .i64 4 0 0 m),.one (.int .i64 i),.one (.Ab 6 0 0),.one (.int .i64 R),.one (.bool false),.one (.sl Ai Q),.one (.int .i64 S),.one (.int .i64 i)]/\D=[.arr 0 .i64 o,.var 0 [.sl (.sl AA) t.1.1,.sl AA t.1.2,.sl (.sl AA) t.2.1,.sl AA t.2.2]]/\(AO R k'/\k'<=o.length)/\(∀m x,m<k'->o[m]? =some x->DH px py x i<0)/\k=o.length-k'
 refine⟨[],[0,4,5,6,7,8,11,12,13],[4,6],J1,⟨o.length-0,by rw[A];exact⟨0,0,rfl,rfl,⟨Al 0,by omega⟩,fun m x h=>absurd h (by omega),rfl⟩⟩,?_⟩;intro vs D an N;rw[A] at N;obtain⟨k',R,rfl,rfl,⟨Z,O⟩,f,aj⟩:=N;conv=>cbv
 have af:=Z.eq;intro n20 X;have ae:=X.eq;conv=>cbv
 intro n21 H;conv=>cbv
 cases n21 <;> conv=>cbv
 ·have a2:=AW H;refine Bc ?_;conv=>cbv
  refine .inr ?_;refine⟨[i],fun _=>⟨rfl,by decide,rfl,⟨rfl,t1,trivial⟩⟩,.inl ?_⟩;try conv=>cbv
  obtain⟨U,s⟩:∃z:List Int,z=o.take k'++i::o.drop k':=⟨_,rfl⟩
  refine .inr (.inr (.inr (.inr (.inr ⟨[.one (.int .i64 R),.one (.sl .i64 [i])],U,fun _=>⟨⟨rfl,hm⟩,rfl,⟨rfl,⟨_,rfl,by simp <;> omega,by simp⟩,trivial⟩⟩,fun _=>Sv Y (by rw[s];exact Wk (m:=k') (by omega) (by omega) (by omega)),?_⟩))));intro n49 q;conv=>cbv
  intro T M;conv=>cbv
  refine AI ?_;refine⟨Q.length-(i'+1),?_,?_⟩
  ·omega
  rw[p];exact⟨U,n49,i'+1,_,rfl,rfl,⟨⟨by omega⟩,by omega,q⟩,by rw[s,CL,<-hinv,<-W];exact (Qz f O (fun x C=>absurd (HJ C) (by omega))).symm,rfl⟩
 have a2:=AY H;refine .inr ?_;refine AH ?_;intro u aa;conv=>cbv
 obtain⟨g,d⟩:=AK (l:=o) (i:=u) (by omega);refine⟨g,fun _=>d,?_⟩;try conv=>cbv
 have ab:=RJ (cmp:=DH px py) (n:=i') (x:=g) (by rw[<-hinv];exact List.mem_of_getElem? d);obtain⟨a8,y⟩:=AK (l:=Q) (i:=(g).toNat) (by omega);refine⟨a8,fun _=>⟨by omega,y⟩,?_⟩;try conv=>cbv
 obtain⟨a7,P⟩:∃z,z=DH px py g i:=⟨_,rfl⟩
 refine AB (r:= .AG [(false,[.int .i64 a7]),(false,[.int .i64 0])]) Y (jy F (hQ _ _ y) (hQ _ _ v) (P.trans (by rw[DH,show i.toNat=i' by omega])) (by omega)) ?_;conv=>cbv
 refine BG ?_;refine AU ?_;conv=>cbv
 intro n38 I;conv=>cbv
 cases n38 <;> conv=>cbv
 ·have a5:=EI I;intro n42 ag;conv=>cbv
  refine AI ?_;refine⟨o.length-(k'+1),?_,?_⟩
  ·omega
  rw[A];refine⟨k'+1,_,rfl,rfl,⟨⟨by omega⟩,by omega⟩,fun m x h8 C=>?_,rfl⟩;rcases Nat.lt_or_ge m k' with h7 | h7
  ·exact f m x h7 C
  have V:=Option.some.inj (C.symm.trans (show o[m]? =some g by rw[show m=u by omega];exact d));rw[V];omega
 have a5:=EJ I;intro n40 J;conv=>cbv
 intro n44 K;conv=>cbv
 refine .inr ?_;cases n44 <;> conv=>cbv
 ·have B:=C3 K;intro T M;conv=>cbv
  refine AI ?_;refine⟨Q.length-(i'+1),?_,?_⟩
  ·omega
  rw[p];exact⟨o,m,i'+1,_,rfl,rfl,⟨⟨by omega⟩,by omega,hm⟩,by rw[CL,<-hinv,<-W];exact (Wl f (by rw[show k'=u by omega];exact d) (by have q9:=J.symm.trans B;simp at q9;omega)).symm,rfl⟩
 have B:=C4 K;refine⟨[i],fun _=>⟨rfl,by decide,rfl,⟨rfl,t1,trivial⟩⟩,.inl ?_⟩;try conv=>cbv
 obtain⟨U,s⟩:∃z:List Int,z=o.take k'++i::o.drop k':=⟨_,rfl⟩
 refine .inr (.inr (.inr (.inr (.inr ⟨[.one (.int .i64 R),.one (.sl .i64 [i])],U,fun _=>⟨⟨rfl,hm⟩,rfl,⟨rfl,⟨_,rfl,by simp <;> omega,by simp⟩,trivial⟩⟩,fun _=>Sv Y (by rw[s];exact Wk (m:=k') (by omega) (by omega) (by omega)),?_⟩))));intro n49 q;conv=>cbv
 intro T M;conv=>cbv
 refine AI ?_;refine⟨Q.length-(i'+1),?_,?_⟩
 ·omega
 rw[p];exact⟨U,n49,i'+1,_,rfl,rfl,⟨⟨by omega⟩,by omega,q⟩,by rw[s,CL,<-hinv,<-W];exact (Qz f O (fun x C=>by have V:=Option.some.inj (C.symm.trans (show o[k']? =some g by rw[show k'=u by omega];exact d));rw[V];have q9:=J.symm.trans B;simp at q9;omega)).symm,rfl⟩
theorem X5 (F:Fd TT w) {px py:Nat->Re} (hQ:Fl TT w 1950000 1 Q px py) {N L:List Int} (hN:∀x∈N,0<=x/\x<Q.length) (hL:L=(Ck (Da px py) N []).reverse) (hn:n=L.length) (h9:N.length<=1000) (h8:Q.length<=1000):CF 162 [.one (.sl Ai Q),.one (.sl .i64 N)] (.AG [(false,[.own .i64 L n]),(false,[.int .i64 0])]):=by
 refine CJ Tryz.func162 fun E hE=>?_
 conv=>cbv
 rintro U ⟨aq,f12⟩;conv=>cbv
 refine .inr ?_;obtain⟨J0,A⟩:=xJ fun vs M k=>∃(o:List Int) (m i':Nat) (i:Int),vs=[.one (.sl Ai Q),.one (.AN .i64 6 0 0 m),.one (.sl .i64 N),.one (.int .i64 U),.one (.int .i64 i)]/\M=[.arr 0 .i64 o]/\(AO i i'/\i'<=N.length/\m=o.length)/\Ck (Da px py) (N.drop i') o.reverse=Ck (Da px py) N []/\((∀x∈o,0<=x/\x<Q.length)/\o.length<=i')/\k=N.length-i'
 refine⟨[(6,.i64,true)],[0,6,11,12,13],[6],J0,⟨N.length-0,by rw[A];exact⟨[],0,0,0,rfl,rfl,⟨Al 0,by omega,rfl⟩,rfl,⟨by simp,by simp⟩,rfl⟩⟩,?_⟩;intro vs M aF S;rw[A] at S;obtain⟨o,m,i',i,rfl,rfl,⟨hi,aB,hm⟩,hinv,⟨p,aE⟩,aC⟩:=S;conv=>cbv
 have ei:=hi.eq;intro a7 O;conv=>cbv
 cases a7 <;> conv=>cbv
 ·have a2:=AW O;exact AD ⟨⟨rfl,.inr (.inl ⟨_,_,by decide,rfl,rfl,by omega,rfl,C5 (by rw[hL,<-hinv,List.drop_of_length_le (by omega),Ck,List.reverse_reverse]) (by rw[hn,hL,<-hinv,List.drop_of_length_le (by omega),Ck,List.reverse_reverse] <;> omega)⟩),trivial⟩,t2,trivial⟩
 have a2:=AY O;refine .inr ?_;obtain⟨d,g⟩:=AK (l:=N) (i:=i') (by omega);refine⟨d,fun _=>⟨by omega,by rw[show (i).toNat=i' by omega];exact g⟩,?_⟩;try conv=>cbv
 refine .inr ?_;obtain⟨J1,I⟩:=xJ fun vs M k=>∃(y:Nat),vs=[.one (.sl Ai Q),.one (.AN .i64 6 0 0 y),.one (.int .i64 d),.one (.sl .i64 N),.one (.int .i64 U),.one (.int .i64 i)]/\M=[.arr 0 .i64 o]/\y<=o.length/\Dc (Da px py) d (o.take y).reverse=Dc (Da px py) d o.reverse/\k=y
 refine⟨[],[0,6,8,11,12,13],[6],J1,⟨m,by rw[I];exact⟨m,rfl,rfl,by omega,by rw[hm,List.take_length],rfl⟩⟩,?_⟩;intro vs M aG S;rw[I] at S;obtain⟨y,rfl,rfl,aA,u,aD⟩:=S;conv=>cbv
 intro n18 W;have ar:=W.eq;conv=>cbv
 intro n19 P;conv=>cbv
 cases n19 <;> conv=>cbv
 ·have a5:=EI P;refine⟨[d],fun _=>⟨rfl,by decide,rfl,⟨rfl,t1,trivial⟩⟩,.inl ?_⟩;try conv=>cbv
  refine .inr (.inr ⟨[d],fun _=>⟨by omega,by omega,⟨_,rfl,by simp <;> omega,by simp⟩,by show (y+1)*8<=140737488355328;(try simp only[List.length_take,List.length_drop]);omega⟩,?_⟩);intro (v:List (el .i64)) n59 h;have f:v=(List.take y o:List (el .i64))++([d]:List (el .i64)):=h.1;have t:n59=List.length (α:=(el .i64)) v:=h.2;conv=>cbv
  intro n60 a1;conv=>cbv
  refine AI ?_;refine⟨N.length-(i'+1),?_,?_⟩
  ·omega
  rw[A];refine⟨_,n59,i'+1,_,rfl,rfl,⟨⟨by omega⟩,by omega,t⟩,?_,⟨fun x s=>?_,?_⟩,rfl⟩
  ·rw[<-hinv,f];exact VD g u (kf (by rw[List.length_reverse,List.length_take];omega))
  ·rw[f] at s;rcases List.mem_append.1 s with s | s
   ·exact p x (List.mem_of_mem_take s)
   rw[List.mem_singleton.1 s];exact hN d (List.mem_of_getElem? g)
  rw[f,List.length_append,List.length_take,List.length_singleton];omega
 have a5:=EJ P;refine .inr ?_;intro n24 X;have au:=X.eq;conv=>cbv
 intro n25 ax;conv=>cbv
 refine AI ?_;refine AH ?_;intro J ah;conv=>cbv
 obtain⟨B,q⟩:=AK (l:=o) (i:=J) (by omega);refine⟨B,fun _=>q,?_⟩;try conv=>cbv
 have aj:=p B (List.mem_of_getElem? q);obtain⟨ab,D⟩:=AK (l:=Q) (i:=(B).toNat) (by omega);refine⟨ab,fun _=>⟨by omega,D⟩,?_⟩;try conv=>cbv
 intro n33 Y;have av:=Y.eq;conv=>cbv
 intro n34 ay;conv=>cbv
 refine AI ?_;refine AH ?_;intro K ai;conv=>cbv
 obtain⟨C,r⟩:=AK (l:=o) (i:=K) (by omega);refine⟨C,fun _=>r,?_⟩;try conv=>cbv
 have ak:=p C (List.mem_of_getElem? r);obtain⟨ad,G⟩:=AK (l:=Q) (i:=(C).toNat) (by omega);refine⟨ad,fun _=>⟨by omega,G⟩,?_⟩;try conv=>cbv
 have al:=hN d (List.mem_of_getElem? g);obtain⟨ae,H⟩:=AK (l:=Q) (i:=(d).toNat) (by omega);refine⟨ae,fun _=>⟨by omega,H⟩,?_⟩;try conv=>cbv
 obtain⟨aI,T⟩:∃z,z=Da px py B C d:=⟨_,rfl⟩
 refine AB hE (Ri F (hQ _ _ D) (hQ _ _ G) (hQ _ _ H) T (by omega)) ?_;conv=>cbv
 refine BG ?_;refine AU ?_;conv=>cbv
 intro a8 R;conv=>cbv
 cases a8 <;> conv=>cbv
 ·have a6:=Bq R;intro C1 Z;have aw:=Z.eq;conv=>cbv
  intro aH az;conv=>cbv
  refine AI ?_;refine AH ?_;intro ao af;conv=>cbv
  rintro aa V ⟨an,ag⟩;conv=>cbv
  refine⟨y-1,?_,?_⟩
  ·omega
  rw[I];obtain rfl:aa=0:=by omega
  refine⟨V,rfl,rfl,by omega,?_,by omega⟩;rw[<-u];exact ke (j:=J) (k:=K) (by omega) (by omega) (by omega) q r (by omega)
 have a6:=Br R;refine⟨[d],fun _=>⟨rfl,by decide,rfl,⟨rfl,t1,trivial⟩⟩,.inl ?_⟩;try conv=>cbv
 refine .inr (.inr ⟨[d],fun _=>⟨by omega,by omega,⟨_,rfl,by simp <;> omega,by simp⟩,by show (y+1)*8<=140737488355328;(try simp only[List.length_take,List.length_drop]);omega⟩,?_⟩);intro (v:List (el .i64)) n59 h;have f:v=(List.take y o:List (el .i64))++([d]:List (el .i64)):=h.1;have t:n59=List.length (α:=(el .i64)) v:=h.2;conv=>cbv
 intro n60 a1;conv=>cbv
 refine AI ?_;refine⟨N.length-(i'+1),?_,?_⟩
 ·omega
 rw[A];refine⟨_,n59,i'+1,_,rfl,rfl,⟨⟨by omega⟩,by omega,t⟩,?_,⟨fun x s=>?_,?_⟩,rfl⟩
 ·rw[<-hinv,f];exact VD g u (kY (j:=J) (k:=K) (by omega) (by omega) q r (by omega))
 ·rw[f] at s;rcases List.mem_append.1 s with s | s
  ·exact p x (List.mem_of_mem_take s)
  rw[List.mem_singleton.1 s];exact hN d (List.mem_of_getElem? g)
 rw[f,List.length_append,List.length_take,List.length_singleton];omega
theorem iH {cmp:Int->Int->Int} {BT:Int->Int->Int->Int} (h:(CL cmp n).length<=1):Gd cmp BT n=CL cmp n:=if_pos h
theorem iI {cmp:Int->Int->Int} {BT:Int->Int->Int->Int} (h:¬(CL cmp n).length<=1) {A B:List Int} (d:A=(Ck BT (CL cmp n) []).reverse) (f:B=(Ck BT (CL cmp n).reverse []).reverse) {a b:Nat} (ha:a=A.length-1) (hb:b=B.length-1):Gd cmp BT n=A.take a++B.take b:=by
 rw[Gd,if_neg h,<-d,<-f,ha,hb,List.dropLast_eq_take,List.dropLast_eq_take]
theorem VI {BT:Int->Int->Int->Int} {N A:List Int} (f:N≠[]) (d:A=(Ck BT N []).reverse):0<A.length/\A.length<=N.length:=by
 rw[d,List.length_reverse];exact⟨List.length_pos_iff.2 (fe f),VA (BT:=BT) (l:=N) (st:=[])⟩
theorem X6 (F:Fd TT w) {px py:Nat->Re} (N:Fl TT w 1950000 1 Q px py) {L:List Int} (X:L=Gd (DH px py) (Da px py) Q.length) (J:Q.length<=50):CF 50 [.one (.sl Ai Q)] (.AG [(false,[.sl .i64 L]),(false,[.int .i64 0])]):=by
 refine CJ Tryz.func50 fun E C=>?_
 conv=>cbv
 intro n9 J;have e9:=J.eq;have f9:=J.le;conv=>cbv
 intro T o;conv=>cbv
 cases T <;> conv=>cbv
 ·have v:=Bq o;obtain⟨S,h⟩:∃z:List Int,z=CL (DH px py) Q.length:=⟨_,rfl⟩
  obtain⟨nS,d⟩:∃z,z=S.length:=⟨_,rfl⟩
  have ai:S.length<=Q.length:=by rw[h];exact SY
  have s:∀x∈S,0<=x/\x<Q.length:=fun x D=>RJ (cmp:=DH px py) (by rw[<-h];exact D)
  refine AB C (j6 F N h d (by omega)) ?_;conv=>cbv
  refine AU ?_;conv=>cbv
  intro n20 G;have aa:=G.eq;conv=>cbv
  intro n21 p;conv=>cbv
  cases n21 <;> conv=>cbv
  ·have R:=HH p;obtain⟨A,K⟩:∃z:List Int,z=(Ck (Da px py) S []).reverse:=⟨_,rfl⟩
   obtain⟨nA,O⟩:∃z,z=A.length:=⟨_,rfl⟩
   have q:S≠[]:=fun e=>by rw[e] at d;simp at d;omega
   have ag:=VI q K;refine .inr (.inl ⟨[.one (.sl Ai Q),.one (.sl .i64 ((S).take nS))],.AG [(false,[.own .i64 A nA]),(false,[.int .i64 0])],fun _=>⟨rfl,⟨_,rfl,by simp <;> omega,by simp⟩,trivial⟩,fun _=>E6 C (I7 rfl (by rw[d,List.take_length];exact X5 F N s K O (by omega) (by omega))),?_⟩);try conv=>cbv
   refine AU ?_;conv=>cbv
   obtain⟨S2,f⟩:∃z:List Int,z=S.reverse:=⟨_,rfl⟩
   have r:S2.length=S.length:=by rw[f,List.length_reverse]
   refine .inr (.inr (.inl ⟨[],.AG [],.arr 0 .i64 S2,fun _=>⟨by first | decide | simp[Bt,B3],trivial⟩,fun _=>⟨Dm C (lg d f (by omega)),rfl,rfl⟩,?_⟩));try conv=>cbv
   obtain⟨B,M⟩:∃z:List Int,z=(Ck (Da px py) S2 []).reverse:=⟨_,rfl⟩
   obtain⟨nB,P⟩:∃z,z=B.length:=⟨_,rfl⟩
   have ah:=VI (by rw[f];simpa using q) M;refine .inr (.inl ⟨[.one (.sl Ai Q),.one (.sl .i64 ((S2).take nS))],.AG [(false,[.own .i64 B nB]),(false,[.int .i64 0])],fun _=>⟨rfl,⟨_,rfl,by simp <;> omega,by simp⟩,trivial⟩,fun _=>E6 C (I7 rfl (by rw[d,<-r,List.take_length];exact X5 F N (fun x D=>s x (by rw[f] at D;simpa using D)) M P (by omega) (by omega))),?_⟩);try conv=>cbv
   refine AU ?_;conv=>cbv
   intro aj H;have ab:=H.eq;conv=>cbv
   intro ak ae;conv=>cbv
   refine AI ?_;refine AH ?_;intro a7 Y;conv=>cbv
   rintro V m ⟨a5,a1⟩;conv=>cbv
   intro n52 I;have ad:=I.eq;conv=>cbv
   intro C1 af;conv=>cbv
   refine AI ?_;refine AH ?_;intro a8 Z;conv=>cbv
   rintro W g ⟨a6,a2⟩;conv=>cbv
   obtain rfl:V=0:=by omega
   obtain rfl:W=0:=by omega
   refine .inr (.inr ⟨(B).take g,fun _=>⟨by omega,by omega,⟨_,rfl,by simp <;> omega,by simp⟩,by show (m+((B).take g).length)*8<=140737488355328;(try simp only[List.length_take,List.length_drop]);omega⟩,?_⟩);intro (y:List (el .i64)) U l;have t:y=(List.take m A:List (el .i64))++((B).take g:List (el .i64)):=l.1;have u:U=List.length (α:=(el .i64)) y:=l.2;conv=>cbv
   refine BG ?_;exact AD ⟨⟨rfl,.inl ⟨_,rfl,by omega,congrArg _ (by rw[u,List.drop_zero,List.take_length,t,X];exact iI (a:=m) (b:=g) (by rw[<-h];omega) (by rw[<-h];exact K) (by rw[<-h,<-f];exact M) (by omega) (by omega))⟩,trivial⟩,t2,trivial⟩
  have R:=HI p;exact AD ⟨⟨rfl,.inl ⟨_,rfl,by omega,congrArg _ (by rw[X,iH (by rw[<-h];omega),h,List.drop_zero,d,<-h,List.take_length])⟩,trivial⟩,t2,trivial⟩
 have v:=Br o;exact absurd v (by omega)
end Go.Abs
