/- Part 33 of a proof. Conditions: each theorem's own. -/
import Derived.Test.YtmhbikooakmagaaGreatQk31
set_option linter.all false
set_option maxHeartbeats 8000000
set_option maxRecDepth 20000
open Go.Proofs
namespace Go.Abs
open Go.RowKit
section
variable (o3:Int->Int->Int->Int) (n:Nat)
def B1 (i j k:Nat):List Int:=(List.range' k (n-k)).map fun k:Nat=>o3 i j k
def B0 (i j:Nat):List Int:=(List.range' j (n-j)).flatMap fun j=>B1 o3 n i j (j+1)
def A6 (i:Nat):List Int:=(List.range' i (n-i)).flatMap fun i=>B0 o3 n i (i+1)
end
section
variable {o3:Int->Int->Int->Int} {n:Nat}
theorem S0 {i j k:Nat} (h:k<n):B1 o3 n i j k=o3 i j k::B1 o3 n i j (k+1):=by
 unfold B1;rw[show n-k=(n-(k+1))+1 by omega,List.range'_succ];rfl
theorem P5 {i j:Nat} (h:j<n):B0 o3 n i j=B1 o3 n i j (j+1)++B0 o3 n i (j+1):=by
 unfold B0;rw[show n-j=(n-(j+1))+1 by omega,List.range'_succ];rfl
theorem P2 {i:Nat} (h:i<n):A6 o3 n i=B0 o3 n i (i+1)++A6 o3 n (i+1):=by
 unfold A6;rw[show n-i=(n-(i+1))+1 by omega,List.range'_succ];rfl
theorem R1 {i j k:Nat} (h:n<=k):B1 o3 n i j k=[]:=by unfold B1;rw[show n-k=0 by omega];rfl
theorem P3 {i j:Nat} (h:n<=j):B0 o3 n i j=[]:=by unfold B0;rw[show n-j=0 by omega];rfl
theorem P1 {i:Nat} (h:n<=i):A6 o3 n i=[]:=by unfold A6;rw[show n-i=0 by omega];rfl
theorem G2 {f:Nat->List Int} {c:Nat} (h:∀j,(f j).length<=c):∀(l:List Nat),(l.flatMap f).length<=l.length*c
 | []=>by simp
 | a::l=>by
  have b:=h a;have d:=G2 h l;rw[List.flatMap_cons,List.length_append,List.length_cons,Nat.add_mul];omega
theorem D0 (b:n<=50):(A6 o3 n 0).length<=125000:=by
 have h3:∀i j k,(B1 o3 n i j k).length<=50:=fun i j k=>by unfold B1;rw[List.length_map,List.length_range'];omega
 have a:∀i j,(B0 o3 n i j).length<=2500:=fun i j=>Nat.le_trans (G2 (fun j=>h3 i j (j+1)) _) (by rw[List.length_range'];omega)
 exact Nat.le_trans (G2 (fun i=>a i (i+1)) _) (by rw[List.length_range'];omega)
end
noncomputable def N1 (d:Nat->Re):Nat->Nat
 | 0=>0
 | n+1=>open Classical in if d n<d (N1 d n) then n else N1 d n
noncomputable def dsO (px py:Nat->Re) (x y:Re) (i:Nat):Re:=(px i-x)*(px i-x)+(py i-y)*(py i-y)
theorem S1 {TT:List (List Rat)->Prop} {w:List (List Rat)} (F:Fd TT w) {Q:List (el BL)} {f g:Nat->Re} (S:KV TT w 1950000 1 Q f g) {L:List Int} (P:L=A6 (FB f g) Q.length 0) (R:Q.length<=50):CF 45 [.one (.sl BL Q)] (.AI [(false,[.sl .i64 L]),(false,[.int .i64 0])]):=by
 refine Ds Tryz.func45 fun E hE=>?_
 conv=>cbv
 rintro av ⟨a5,f11⟩;conv=>cbv
 intro X C;conv=>cbv
 cases X <;> conv=>cbv
 ·have N:=Bh C;rintro A ⟨a6,f14⟩;conv=>cbv
  refine .inr ?_;obtain⟨J0,v⟩:=xJ fun vs p k=>∃(o:List Int) (m i':Nat) (i:Int),vs=[.one (.sl BL Q),.one (.AN .i64 4 0 0 m),.one (.sl BL Q),.one (.int .i64 A),.one (.int .i64 i)]/\p=[.arr 0 .i64 o]/\(AQ i i'/\i'<=Q.length/\m=o.length)/\o++A6 (FB f g) Q.length i'=L/\k+i'=Q.length+1
  refine⟨[(4,.i64,true)],[0,4,13,14,15],[4],J0,⟨Q.length+1-0,by rw[v];exact⟨[],0,0,0,rfl,rfl,⟨An 0,by omega,rfl⟩,by rw[P];rfl,by omega⟩⟩,?_⟩;intro vs p aq h;rw[v] at h;obtain⟨o,m,i',i,rfl,rfl,⟨hi,ah,hm⟩,b,ak⟩:=h;conv=>cbv
  have ei:=hi.eq;have K:o.length<=125000:=by have:=D0 (o3:=FB f g) R;rw[<-P,<-b] at this;simp only[List.length_append] at this;omega
  intro n16 D;conv=>cbv
  cases n16 <;> conv=>cbv
  ·have U:=AW D;exact AD ⟨⟨rfl,.inl ⟨_,rfl,by omega,congrArg _ (by rw[hm,List.drop_zero,List.take_length,<-b,P1 (show Q.length<=i' by omega),List.append_nil])⟩,trivial⟩,t2,trivial⟩
  have U:=AY D;refine .inr ?_;intro n19 aa;conv=>cbv
  refine AH ?_;refine .inr ?_;obtain⟨J1,x⟩:=xJ fun vs p k=>∃(o:List Int) (m a:Nat) (j:Int),vs=[.one (.sl BL Q),.one (.AN .i64 4 0 0 m),.one (.int .i64 i),.one (.int .i64 j),.one (.sl BL Q),.one (.int .i64 A),.one (.int .i64 i)]/\p=[.arr 0 .i64 o]/\(AQ j a/\i'<a/\a<=Q.length/\m=o.length)/\o++(B0 (FB f g) Q.length i' a++A6 (FB f g) Q.length (i'+1))=L/\k+a=Q.length+1
  refine⟨[],[0,4,5,6,13,14,15],[4],J1,⟨Q.length+1-(i'+1),by rw[x];exact⟨o,m,i'+1,_,rfl,rfl,⟨⟨by omega⟩,by omega,by omega,hm⟩,by rw[<-b,P2 (show i'<Q.length by omega)],by omega⟩⟩,?_⟩;intro vs p ar h;rw[x] at h;obtain⟨o,m,a,j,rfl,rfl,⟨h,ag,aj,hm⟩,c,al⟩:=h;conv=>cbv
  have ej:=h.eq;have K:o.length<=125000:=by have:=D0 (o3:=FB f g) R;rw[<-P,<-c] at this;simp only[List.length_append] at this;omega
  rintro n22 ⟨a7,f22⟩;conv=>cbv
  intro n23 G;conv=>cbv
  cases n23 <;> conv=>cbv
  ·have V:=AW G;intro aw af;conv=>cbv
   refine AH ?_;refine⟨Q.length+1-(i'+1),?_,?_⟩
   ·omega
   rw[v];exact⟨_,_,i'+1,_,rfl,rfl,⟨⟨by omega⟩,by omega,hm⟩,by rw[<-c,P3 (show Q.length<=a by omega),List.nil_append],by omega⟩
  have V:=AY G;refine .inr ?_;intro n27 ad;conv=>cbv
  refine AH ?_;refine .inr ?_;obtain⟨J2,y⟩:=xJ fun vs p k=>∃(o:List Int) (m z':Nat) (z:Int),vs=[.one (.sl BL Q),.one (.AN .i64 4 0 0 m),.one (.int .i64 i),.one (.int .i64 j),.one (.int .i64 z),.one (.sl BL Q),.one (.int .i64 A),.one (.int .i64 i)]/\p=[.arr 0 .i64 o]/\(AQ z z'/\a<z'/\z'<=Q.length/\m=o.length)/\o++(B1 (FB f g) Q.length i' a z'++(B0 (FB f g) Q.length i' (a+1)++A6 (FB f g) Q.length (i'+1)))=L/\k+z'=Q.length+1
  refine⟨[],[0,4,5,6,7,13,14,15],[4],J2,⟨Q.length+1-(a+1),by rw[y];exact⟨o,m,a+1,_,rfl,rfl,⟨⟨by omega⟩,by omega,by omega,hm⟩,by rw[<-c,P5 (show a<Q.length by omega),List.append_assoc],by omega⟩⟩,?_⟩;intro vs p au h;rw[y] at h;obtain⟨o,m,z',z,rfl,rfl,⟨hz,ai,ao,hm⟩,d,an⟩:=h;conv=>cbv
  have ez:=hz.eq;have K:o.length<=125000:=by have:=D0 (o3:=FB f g) R;rw[<-P,<-d] at this;simp only[List.length_append] at this;omega
  rintro n30 ⟨a8,f30⟩;conv=>cbv
  intro n31 H;conv=>cbv
  cases n31 <;> conv=>cbv
  ·have W:=AW H;intro n25 ab;conv=>cbv
   refine AH ?_;refine⟨Q.length+1-(a+1),?_,?_⟩
   ·omega
   rw[x];exact⟨_,_,a+1,_,rfl,rfl,⟨⟨by omega⟩,by omega,by omega,hm⟩,by rw[<-d,R1 (show Q.length<=z' by omega),List.nil_append],by omega⟩
  have W:=AY H;refine .inr ?_;refine Exists.elim (AL (l:=Q) (i:=i') (by omega)) fun Z r=>?_
  refine⟨Z,fun _=>⟨by omega,by rw[show (i).toNat=i' by omega];exact r⟩,?_⟩;try conv=>cbv
  refine Exists.elim (AL (l:=Q) (i:=a) (by omega)) fun a1 s=>?_
  refine⟨a1,fun _=>⟨by omega,by rw[show (j).toNat=a by omega];exact s⟩,?_⟩;try conv=>cbv
  refine Exists.elim (AL (l:=Q) (i:=z') (by omega)) fun a2 t=>?_
  refine⟨a2,fun _=>⟨by omega,by rw[show (z).toNat=z' by omega];exact t⟩,?_⟩;try conv=>cbv
  refine Exists.elim (show ∃q,q=FB f g (i':Nat) (a:Nat) (z':Nat) from⟨_,rfl⟩) fun B M=>?_
  have T:=M;refine AB hE (Hh F (S _ _ r) (S _ _ s) (S _ _ t) M (by omega)) ?_;conv=>cbv
  refine BC ?_;refine Ai ?_;conv=>cbv
  refine⟨[B],fun _=>⟨rfl,by decide,rfl,⟨rfl,t1,trivial⟩⟩,.inl ?_⟩;try conv=>cbv
  refine .inl ⟨[B],fun _=>⟨rfl,by (first | rfl | omega),⟨_,rfl,by simp <;> omega,by simp⟩,by show (o.length+1)*8<=140737488355328;(try simp only[List.length_take,List.length_drop]);omega⟩,?_⟩;intro (O:List (el .i64)) Y u;have I:O=(o:List (el .i64))++([B]:List (el .i64)):=u.1;have J:Y=List.length (α:=(el .i64)) O:=u.2;conv=>cbv
  intro n33 ae;conv=>cbv
  refine AH ?_;refine⟨Q.length+1-(z'+1),?_,?_⟩
  ·omega
  rw[y];exact⟨_,_,z'+1,_,rfl,rfl,⟨⟨by omega⟩,by omega,by omega,J⟩,by rw[I,<-d,S0 (show z'<Q.length by omega),<-T];simp only[List.append_assoc,List.cons_append,List.nil_append],by omega⟩
 have N:=Bi C;exact absurd N (by omega)
theorem U0 {TT:List (List Rat)->Prop} {w:List (List Rat)} (F:Fd TT w) {Q:List (el BL)} {f g:Nat->Re} (O:KV TT w 1950000 1 Q f g) {L:List Int} (M:L=A6 (FB f g) Q.length 0) (N:Q.length<=50):CF 46 [.one (.sl BL Q)] (.AI [(false,[.sl .i64 L]),(false,[.int .i64 0])]):=by
 refine Ds Tryz.func46 fun E hE=>?_
 conv=>cbv
 refine .inr ?_;obtain⟨Z,v⟩:=xJ fun vs p k=>∃(o:List Int) (m i':Nat) (i:Int),vs=[.one (.sl BL Q),.one (.AN .i64 4 0 0 m),.one (.int .i64 i)]/\p=[.arr 0 .i64 o]/\(AQ i i'/\i'<=Q.length/\m=o.length)/\o++A6 (FB f g) Q.length i'=L/\k+i'=Q.length+1
 refine⟨[(4,.i64,true)],[0,4,5],[4],Z,⟨Q.length+1-0,by rw[v];exact⟨[],0,0,0,rfl,rfl,⟨An 0,by omega,rfl⟩,by rw[M];rfl,by omega⟩⟩,?_⟩;intro vs p al h;rw[v] at h;obtain⟨o,m,i',i,rfl,rfl,⟨hi,ae,hm⟩,b,ah⟩:=h;conv=>cbv
 have ei:=hi.eq;have I:o.length<=125000:=by have:=D0 (o3:=FB f g) N;rw[<-M,<-b] at this;simp only[List.length_append] at this;omega
 rintro aq ⟨a1,f12⟩;conv=>cbv
 intro U B;conv=>cbv
 cases U <;> conv=>cbv
 ·have R:=AW B;exact AD ⟨⟨rfl,.inl ⟨_,rfl,by omega,congrArg _ (by rw[hm,List.drop_zero,List.take_length,<-b,P1 (show Q.length<=i' by omega),List.append_nil])⟩,trivial⟩,t2,trivial⟩
 have R:=AY B;refine .inr ?_;intro n17 a7;conv=>cbv
 refine AH ?_;refine .inr ?_;obtain⟨J1,x⟩:=xJ fun vs p k=>∃(o:List Int) (m a:Nat) (j:Int),vs=[.one (.sl BL Q),.one (.AN .i64 4 0 0 m),.one (.int .i64 i),.one (.int .i64 j)]/\p=[.arr 0 .i64 o]/\(AQ j a/\i'<a/\a<=Q.length/\m=o.length)/\o++(B0 (FB f g) Q.length i' a++A6 (FB f g) Q.length (i'+1))=L/\k+a=Q.length+1
 refine⟨[],[0,4,5,6],[4],J1,⟨Q.length+1-(i'+1),by rw[x];exact⟨o,m,i'+1,_,rfl,rfl,⟨⟨by omega⟩,by omega,by omega,hm⟩,by rw[<-b,P2 (show i'<Q.length by omega)],by omega⟩⟩,?_⟩;intro vs p an h;rw[x] at h;obtain⟨o,m,a,j,rfl,rfl,⟨h,ad,ag,hm⟩,c,ai⟩:=h;conv=>cbv
 have ej:=h.eq;have I:o.length<=125000:=by have:=D0 (o3:=FB f g) N;rw[<-M,<-c] at this;simp only[List.length_append] at this;omega
 rintro n20 ⟨a2,f20⟩;conv=>cbv
 intro n21 C;conv=>cbv
 cases n21 <;> conv=>cbv
 ·have S:=AW C;intro n15 a6;conv=>cbv
  refine AH ?_;refine⟨Q.length+1-(i'+1),?_,?_⟩
  ·omega
  rw[v];exact⟨_,_,i'+1,_,rfl,rfl,⟨⟨by omega⟩,by omega,hm⟩,by rw[<-c,P3 (show Q.length<=a by omega),List.nil_append],by omega⟩
 have S:=AY C;refine .inr ?_;intro n25 aa;conv=>cbv
 refine AH ?_;refine .inr ?_;obtain⟨J2,y⟩:=xJ fun vs p k=>∃(o:List Int) (m z':Nat) (z:Int),vs=[.one (.sl BL Q),.one (.AN .i64 4 0 0 m),.one (.int .i64 i),.one (.int .i64 j),.one (.int .i64 z)]/\p=[.arr 0 .i64 o]/\(AQ z z'/\a<z'/\z'<=Q.length/\m=o.length)/\o++(B1 (FB f g) Q.length i' a z'++(B0 (FB f g) Q.length i' (a+1)++A6 (FB f g) Q.length (i'+1)))=L/\k+z'=Q.length+1
 refine⟨[],[0,4,5,6,7],[4],J2,⟨Q.length+1-(a+1),by rw[y];exact⟨o,m,a+1,_,rfl,rfl,⟨⟨by omega⟩,by omega,by omega,hm⟩,by rw[<-c,P5 (show a<Q.length by omega),List.append_assoc],by omega⟩⟩,?_⟩;intro vs p ao h;rw[y] at h;obtain⟨o,m,z',z,rfl,rfl,⟨hz,af,ak,hm⟩,d,aj⟩:=h;conv=>cbv
 have ez:=hz.eq;have I:o.length<=125000:=by have:=D0 (o3:=FB f g) N;rw[<-M,<-d] at this;simp only[List.length_append] at this;omega
 rintro n28 ⟨a5,f28⟩;conv=>cbv
 intro n29 D;conv=>cbv
 cases n29 <;> conv=>cbv
 ·have T:=AW D;intro n23 a8;conv=>cbv
  refine AH ?_;refine⟨Q.length+1-(a+1),?_,?_⟩
  ·omega
  rw[x];exact⟨_,_,a+1,_,rfl,rfl,⟨⟨by omega⟩,by omega,by omega,hm⟩,by rw[<-d,R1 (show Q.length<=z' by omega),List.nil_append],by omega⟩
 have T:=AY D;refine .inr ?_;refine Exists.elim (AL (l:=Q) (i:=i') (by omega)) fun W r=>?_
 refine⟨W,fun _=>⟨by omega,by rw[show (i).toNat=i' by omega];exact r⟩,?_⟩;try conv=>cbv
 refine Exists.elim (AL (l:=Q) (i:=a) (by omega)) fun X s=>?_
 refine⟨X,fun _=>⟨by omega,by rw[show (j).toNat=a by omega];exact s⟩,?_⟩;try conv=>cbv
 refine Exists.elim (AL (l:=Q) (i:=z') (by omega)) fun Y t=>?_
 refine⟨Y,fun _=>⟨by omega,by rw[show (z).toNat=z' by omega];exact t⟩,?_⟩;try conv=>cbv
 refine Exists.elim (show ∃q,q=FB f g (i':Nat) (a:Nat) (z':Nat) from⟨_,rfl⟩) fun A J=>?_
 have P:=J;refine AB hE (fW F (O _ _ r) (O _ _ s) (O _ _ t) J (by omega)) ?_;conv=>cbv
 refine BC ?_;refine Ai ?_;conv=>cbv
 refine⟨[A],fun _=>⟨rfl,by decide,rfl,⟨rfl,t1,trivial⟩⟩,.inl ?_⟩;try conv=>cbv
 refine .inl ⟨[A],fun _=>⟨rfl,by (first | rfl | omega),⟨_,rfl,by simp <;> omega,by simp⟩,by show (o.length+1)*8<=140737488355328;(try simp only[List.length_take,List.length_drop]);omega⟩,?_⟩;intro (K:List (el .i64)) V u;have G:K=(o:List (el .i64))++([A]:List (el .i64)):=u.1;have H:V=List.length (α:=(el .i64)) K:=u.2;conv=>cbv
 intro n31 ab;conv=>cbv
 refine AH ?_;refine⟨Q.length+1-(z'+1),?_,?_⟩
 ·omega
 rw[y];exact⟨_,_,z'+1,_,rfl,rfl,⟨⟨by omega⟩,by omega,by omega,H⟩,by rw[G,<-d,S0 (show z'<Q.length by omega),<-P];simp only[List.append_assoc,List.cons_append,List.nil_append],by omega⟩
theorem T0 {V:List Re} {ns:List Nu} {W:List UInt8} {w:List (List Rat)} (L:Pl (PN ns) V w) (h:∀n∈ns,BU V n) {Q:List (el BL)} (f:Q=Hl ns W):∃j k:Nat->Re,KV (Tf (PN ns)) w 1950000 1 Q j k:=by
 have a:∀i:Nat,∃p:Re×Re,∀x:el BL,Q[i]? =some x->Vm (Tf (PN ns)) w 1950000 1 1 x.1.1 x.1.2 x.2.1 x.2.2 p.1 p.2:=fun i=>by
  by_cases c:i<Q.length
  ·obtain⟨x,e⟩:=AL c;obtain⟨X,Y,d⟩:=Ge L h f e;exact⟨(X,Y),fun y g=>by obtain rfl:=Option.some.inj (e.symm.trans g);exact d (by decide)⟩
  exact⟨(0,0),fun x b=>absurd (GY b) c⟩
 exact⟨fun i=>(Classical.choose (a i)).1,fun i=>(Classical.choose (a i)).2,fun i x b=>Classical.choose_spec (a i) x b⟩
theorem T6 {X:List (el Bo)} {W:List UInt8} {ns:List Nu} (b:ns=(runN (X.take 24)).1) {V:List Re} (a:V.length<=3) (d:∀n∈ns,BU V n) {Q:List (el BL)} (f:Q=Hl ns W) {c:Bool} (g:c=decide (W.length<=24)):CF 44 [.agg [.sl Bo X,.sl .u8 W]] (.AI [(false,[.sl BL Q]),(false,[.bool c])]):=by
 unfold Hl at f
 split at f
 ·rename_i h
  rw[g,decide_eq_true h];exact fY b a d h f
 rename_i h
 subst f;rw[g,decide_eq_false h];exact fX b a d (by omega)
theorem U1 {X:List (el Bo)} {W:List UInt8} {ns:List Nu} (i:ns=(runN (X.take 24)).1) {V:List Re} (h:V.length<=3) (b:∀n∈ns,BU V n):CF 9 [.agg [.sl (.pr .u8 (.pr .u8 (.pr .u8 (.pr .i8 .u8)))) X,.sl .u8 W]] (.one (.bool true)):=by
 obtain⟨w,L⟩:=L3 h b;have F:=L.fd;obtain⟨Q,m⟩:∃z,z=Hl ns W:=⟨_,rfl⟩
 obtain⟨q,r,l⟩:=T0 L b m;obtain⟨c,p⟩:=xB (decide (W.length<=24));obtain⟨LL,g⟩:∃z:List Int,z=A6 (FB q r) Q.length 0:=⟨_,rfl⟩
 refine Ds Tryz.func9 fun E a=>?_
 conv=>cbv
 refine AB a (T6 i h b m p) ?_;conv=>cbv
 refine AB a Ia ?_;conv=>cbv
 refine Ai ?_;conv=>cbv
 intro n18 d;conv=>cbv
 cases n18 <;> conv=>cbv
 ·have j:=C1 d;rintro n22 ⟨o,f22⟩;conv=>cbv
  intro n23 f;conv=>cbv
  cases n23 <;> conv=>cbv
  ·have k:=Bh f;refine AB a (S1 F l g (by omega)) ?_;conv=>cbv
   refine AB a (U0 F l g (by omega)) ?_;conv=>cbv
   refine Bu ?_;conv=>cbv
   refine Bu ?_;conv=>cbv
   refine AB a dG ?_;conv=>cbv
   exact AD ⟨t2,trivial⟩
  have k:=Bi f;refine AB a Ia ?_;conv=>cbv
  exact AD ⟨t2,trivial⟩
 have j:=C2 d;refine AB a Ia ?_;conv=>cbv
 exact AD ⟨t2,trivial⟩
end Go.Abs
