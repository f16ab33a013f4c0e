/- Part 40 of a proof. Conditions: each theorem's own. -/
import Derived.Test.YtmhbikooakmagaaGreatRk38
set_option linter.all false
set_option maxHeartbeats 8000000
set_option maxRecDepth 20000
open Go.Proofs
namespace Go.Abs
open Go.RowKit
section
variable (o3:Int->Int->Int->Int) (n:Nat)
def tyC (i j k:Nat):List Int:=(List.range' k (n-k)).map fun k:Nat=>o3 i j k
def tyB (i j:Nat):List Int:=(List.range' j (n-j)).flatMap fun j=>tyC o3 n i j (j+1)
def tyA (i:Nat):List Int:=(List.range' i (n-i)).flatMap fun i=>tyB o3 n i (i+1)
end
section
variable {o3:Int->Int->Int->Int} {n:Nat}
end
noncomputable def EY (d:Nat->Re):Nat->Nat
 | 0=>0
 | n+1=>open Classical in if d n<d (EY d n) then n else EY d n
theorem Xi {d:Nat->Re}:∀{n:Nat},0<n->EY d n<n
 | n+1,_=>by
  unfold EY
  split
  ·omega
  rcases Nat.eq_zero_or_pos n with h | h
  ·subst h;exact Nat.one_pos
  have:=Xi (d:=d) h;omega
theorem Xk {d:Nat->Re} {n:Nat} {s:Int} (hs:s=An (d n-d (EY d n))) (h:s<0):EY d (n+1)=n:=by
 rw[EY,if_pos];rcases Df (d n-d (EY d n)) with⟨a,b⟩ |⟨_,b⟩ |⟨_,b⟩
 ·grind
 ·omega
 omega
theorem Xh {d:Nat->Re} {n:Nat} {s:Int} (hs:s=An (d n-d (EY d n))) (h:¬s<0):EY d (n+1)=EY d n:=by
 rw[EY,if_neg];intro z;exact h (by rw[hs,JS (by grind)];decide)
theorem Xg {d:Nat->Re}:EY d 1=0:=by
 rw[EY];split <;> rfl
noncomputable def KE (px py:Nat->Re) (x y:Re) (i:Nat):Re:=(px i-x)*(px i-x)+(py i-y)*(py i-y)
theorem j5 {T1 T2:List LR} {A1 A2:LR}:CF 48 [.one (.nil),.agg (Af T1 A1 T2 A2)] (.AG [(false,[.int .i64 0]),(false,[.int .i64 1])]):=by
 refine CJ Tryz.func48 fun E a=>?_
 conv=>cbv
 refine .inr ?_;refine Bc ?_;conv=>cbv
 exact AD ⟨t2,t2,trivial⟩
theorem j4 {TT:List (List Rat)->Prop} {w:List (List Rat)} (F:Fd TT w) {Q:List (el Ai)} {px py:Nat->Re} (S:Fl TT w 1950000 1 Q px py) {T1 T2:List LR} {A1 A2:LR} {xa ya:Re} (ha:Vm TT w 1950000 1 1 T1 A1 T2 A2 xa ya) {bi:Int} (hb:bi=(EY (KE px py xa ya) Q.length:Nat)) (h0:0<Q.length) (h9:Q.length<=50):CF 48 [.one (.sl Ai Q),.agg (Af T1 A1 T2 A2)] (.AG [(false,[.int .i64 bi]),(false,[.int .i64 0])]):=by
 refine CJ Tryz.func48 fun E N=>?_
 conv=>cbv
 refine .inr ?_;rintro n16 ⟨W,f16⟩;conv=>cbv
 intro n17 r;conv=>cbv
 cases n17 <;> conv=>cbv
 ·have z:=Ah r;rintro n20 ⟨X,f20⟩;conv=>cbv
  intro n21 t;conv=>cbv
  cases n21 <;> conv=>cbv
  ·have B:=Bq t;rintro n24 ⟨Y,f24⟩;conv=>cbv
   refine .inr ?_;obtain⟨V,c⟩:=xJ fun vs K k=>(vs=[.one (.Ab 3 0 0),.one (.int .i64 0),.one (.Ab 7 0 0),.one (.sl Ai Q),.one (.int .i64 n24),.one (.int .i64 0)]/\K=[.var 0 [.sl (.sl AA) T1,.sl AA A1,.sl (.sl AA) T2,.sl AA A2],.var 0 [.nil,.nil]]/\k=Q.length)\/∃(i':Nat) (i:Int) (b':Nat) (bb:Int) (T:List LR) (A:LR),vs=[.one (.Ab 3 0 0),.one (.int .i64 bb),.one (.Ab 7 0 0),.one (.sl Ai Q),.one (.int .i64 n24),.one (.int .i64 i)]/\K=[.var 0 [.sl (.sl AA) T1,.sl AA A1,.sl (.sl AA) T2,.sl AA A2],.var 0 [.sl (.sl AA) T,.sl AA A]]/\(AO i i'/\i'<=Q.length)/\(AO bb b'/\b'=EY (KE px py xa ya) i')/\(0<i'/\Nm TT w 1950000 15 T A ((KE px py xa ya) b'))/\k=Q.length-i'
   refine⟨[],[3,6,7,23,24,25],[3,7],V,⟨Q.length,by rw[c];exact .inl ⟨rfl,rfl,rfl⟩⟩,?_⟩;intro vs K a2 U;rw[c] at U;rcases U with⟨rfl,rfl,O⟩ |⟨i',i,b',bb,T,A,rfl,rfl,⟨hi,a1⟩,⟨y,f⟩,⟨Z,hle⟩,O⟩
   ·conv=>cbv
    intro n26 b;conv=>cbv
    cases n26 <;> conv=>cbv
    ·have p:=AW b
     exfalso;omega
    have p:=AY b;refine .inr ?_;obtain⟨q,a⟩:=AK (l:=Q) (i:=0) (by omega);refine⟨q,fun _=>⟨by omega,a⟩,?_⟩;try conv=>cbv
    obtain⟨I,G,J,H,m,j,P,g,o⟩:=L6 F (S _ _ a) ha (by omega);refine AB N o ?_;conv=>cbv
    refine AU ?_;conv=>cbv
    refine Bc ?_;conv=>cbv
    intro d x;conv=>cbv
    refine AI ?_;refine⟨Q.length-1,?_,?_⟩
    ·omega
    rw[c];exact .inr ⟨1,d,0,0,m,j,rfl,rfl,⟨⟨by omega⟩,by omega⟩,⟨Al 0,Xg.symm⟩,⟨by omega,g⟩,rfl⟩
   conv=>cbv
   have ei:=hi.eq;have M:=y.eq;intro n26 b;conv=>cbv
   cases n26 <;> conv=>cbv
   ·have p:=AW b;exact AD ⟨⟨rfl,congrArg _ (by rw[hb,show Q.length=i' by omega,<-f];exact M.symm),trivial⟩,t2,trivial⟩
   have p:=AY b;refine .inr ?_;obtain⟨q,a⟩:=AK (l:=Q) (i:=i') (by omega);refine⟨q,fun _=>⟨by omega,by rw[show (i).toNat=i' by omega];exact a⟩,?_⟩;try conv=>cbv
   obtain⟨I,G,J,H,m,j,P,g,o⟩:=L6 F (S _ _ a) ha (by omega);refine AB N o ?_;conv=>cbv
   refine AU ?_;conv=>cbv
   intro n41 u;conv=>cbv
   cases n41 <;> conv=>cbv
   ·have C:=Ah u;obtain⟨D,h,L,_⟩:=L4 F g hle (by omega) (by omega);refine AB N L ?_;conv=>cbv
    refine AU ?_;conv=>cbv
    intro C1 v;conv=>cbv
    refine .inr ?_;cases C1 <;> conv=>cbv
    ·have R:=AW v;intro d x;conv=>cbv
     refine AI ?_;refine⟨Q.length-(i'+1),?_,?_⟩
     ·omega
     rw[c];exact .inr ⟨i'+1,d,b',bb,T,A,rfl,rfl,⟨⟨by omega⟩,by omega⟩,⟨y,f.trans (Xh (s:=D) (by rw[<-f];exact h) (by omega)).symm⟩,⟨by omega,hle⟩,rfl⟩
    have R:=AY v;refine BG ?_;intro d x;conv=>cbv
    refine AI ?_;refine⟨Q.length-(i'+1),?_,?_⟩
    ·omega
    rw[c];exact .inr ⟨i'+1,d,i',i,m,j,rfl,rfl,⟨⟨by omega⟩,by omega⟩,⟨hi,(Xk (s:=D) (by rw[<-f];exact h) (by omega)).symm⟩,⟨by omega,g⟩,rfl⟩
   have C:=Aj u;exact absurd C (by omega)
  have B:=Br t;exact absurd B (by omega)
 have z:=Aj r;exact absurd z (by omega)
theorem ax {TT:List (List Rat)->Prop} {w:List (List Rat)} (F:Fd TT w) {Av Aw Ay BF:List LR} {As Au Ax BE:LR} {xp yp xq yq:Re} {kp kq:Nat} (v:Vm TT w 1950000 kp kp Av As Aw Au xp yp) (z:Vm TT w 1950000 kq kq Ay Ax BF BE xq yq) (A:2*kp+2*kq+114<=80000):∃u r,Nm TT w 1950000 (4*kp+4*kq+7) u r (((xp-xq)*(xp-xq))+((yp-yq)*(yp-yq)))/\Bv Tryz.prog 160 [.one (.Ab 0 0 0),.agg (Af Av As Aw Au),.agg (Af Ay Ax BF BE)] (.var 0 [.int .i64 0]) (.agg (AR u r)):=by
 obtain⟨BX,BU,a,f⟩:=F9 F v.x z.x;obtain⟨Ba,BZ,b,g⟩:=F9 F v.y z.y;obtain⟨s,p,k,h⟩:=Jw F a a;obtain⟨t,q,l,i⟩:=Jw F b b;obtain⟨d,c,m,j⟩:=Uz F k l;refine⟨d,c,m.mono (by omega),?_⟩;refine DA Tryz.func160 fun E o=>?_
 conv=>cbv
 refine Am 0 0 o f ?_;try conv=>cbv
 refine Am 0 0 o g ?_;try conv=>cbv
 refine BG ?_;refine Am 0 0 o h ?_;try conv=>cbv
 refine Am 0 0 o i ?_;try conv=>cbv
 refine Am 0 0 o j ?_;try conv=>cbv
 refine BG ?_;refine fun _=>⟨⟨⟨t3,trivial⟩,rfl,by simp⟩,rfl⟩
theorem oh {TT:List (List Rat)->Prop} {w:List (List Rat)} (F:Fd TT w) {Q:List (el Ai)} {px py:Nat->Re} (J:Fl TT w 1950000 1 Q px py) {T1 T2:List LR} {A1 A2:LR} {xa ya:Re} (ha:Vm TT w 1950000 1 1 T1 A1 T2 A2 xa ya) {bi:Int} (hb:bi=(EY (KE px py xa ya) Q.length:Nat)) (h0:0<Q.length) (h9:Q.length<=50):CF 49 [.one (.sl Ai Q),.agg (Af T1 A1 T2 A2)] (.AG [(false,[.int .i64 bi]),(false,[.int .i64 0])]):=by
 refine CJ Tryz.func49 fun E o=>?_
 conv=>cbv
 refine .inr ?_;obtain⟨O,b⟩:=xJ fun vs I k=>∃(i':Nat) (i:Int) (b':Nat) (bb:Int),vs=[.one (.sl Ai Q),.one (.Ab 3 0 0),.one (.int .i64 bb),.one (.int .i64 i)]/\I=[.var 0 [.sl (.sl AA) T1,.sl AA A1,.sl (.sl AA) T2,.sl AA A2]]/\(AO i i'/\i'<=Q.length)/\(AO bb b'/\b'=EY (KE px py xa ya) i')/\0<i'/\k=Q.length-i'
 refine⟨[],[0,3,6,7],[3],O,⟨Q.length-1,by rw[b];exact⟨1,1,0,0,rfl,rfl,⟨Al 1,by omega⟩,⟨Al 0,Xg.symm⟩,by omega,rfl⟩⟩,?_⟩;intro vs I X K;rw[b] at K;obtain⟨i',i,b',bb,rfl,rfl,⟨hi,V⟩,⟨j,a⟩,A,W⟩:=K;conv=>cbv
 have Z:=hi.eq;have u:=j.eq;have U:b'<i':=by rw[a];exact Xi A
 rintro Y ⟨T,f12⟩;conv=>cbv
 intro D g;conv=>cbv
 cases D <;> conv=>cbv
 ·have B:=AW g;exact AD ⟨⟨rfl,congrArg _ (by rw[hb,show Q.length=i' by omega,<-a];exact u.symm),trivial⟩,t2,trivial⟩
 have B:=AY g;refine .inr ?_;obtain⟨G,d⟩:=AK (l:=Q) (i:=i') (by omega);refine⟨G,fun _=>⟨by omega,by rw[show (i).toNat=i' by omega];exact d⟩,?_⟩;try conv=>cbv
 obtain⟨P,L,x,p⟩:=ax F (J _ _ d) ha (by omega);refine Am 17 1 o p ?_;try conv=>cbv
 obtain⟨H,f⟩:=AK (l:=Q) (i:=b') (by omega);refine⟨H,fun _=>⟨by omega,by rw[show (bb).toNat=b' by omega];exact f⟩,?_⟩;try conv=>cbv
 obtain⟨R,M,y,q⟩:=ax F (J _ _ f) ha (by omega);refine Am 17 1 o q ?_;try conv=>cbv
 obtain⟨S,N,z,r⟩:=F9 F x y;refine Am 17 1 o r ?_;try conv=>cbv
 refine BG ?_;refine AU ?_;conv=>cbv
 obtain⟨m,c,_,t⟩:=Gn F z;refine AB o t ?_;conv=>cbv
 intro n45 h;conv=>cbv
 refine .inr ?_;cases n45 <;> conv=>cbv
 ·have C:=AW h;intro n15 v;conv=>cbv
  refine AI ?_;refine⟨Q.length-(i'+1),?_,?_⟩
  ·omega
  rw[b];exact⟨i'+1,n15,b',bb,rfl,rfl,⟨⟨by omega⟩,by omega⟩,⟨j,a.trans (Xh (s:=m) (by rw[<-a];exact c) (by omega)).symm⟩,by omega,rfl⟩
 have C:=AY h;intro n15 v;conv=>cbv
 refine AI ?_;refine⟨Q.length-(i'+1),?_,?_⟩
 ·omega
 rw[b];exact⟨i'+1,n15,i',i,rfl,rfl,⟨⟨by omega⟩,by omega⟩,⟨hi,(Xk (s:=m) (by rw[<-a];exact c) (by omega)).symm⟩,by omega,rfl⟩
theorem Yk {V:List Re} {ns:List Nu} {W:List UInt8} {w:List (List Rat)} (L:Pl (PN ns) V w) (h:∀n∈ns,BP V n) {Q:List (el Ai)} (d:Q=GK ns W):∃px py:Nat->Re,Fl (Tf (PN ns)) w 1950000 1 Q px py:=by
 have a:∀i:Nat,∃p:Re×Re,∀x:el Ai,Q[i]? =some x->Vm (Tf (PN ns)) w 1950000 1 1 x.1.1 x.1.2 x.2.1 x.2.2 p.1 p.2:=fun i=>by
  by_cases hi:i<Q.length
  ·obtain⟨x,e⟩:=AK hi;obtain⟨X,Y,c⟩:=Yi L h d e;exact⟨(X,Y),fun y f=>by obtain rfl:=Option.some.inj (e.symm.trans f);exact c (by decide)⟩
  exact⟨(0,0),fun x b=>absurd (HJ b) hi⟩
 exact⟨fun i=>(Classical.choose (a i)).1,fun i=>(Classical.choose (a i)).2,fun i x b=>Classical.choose_spec (a i) x b⟩
theorem Yj {TT:List (List Rat)->Prop} {w:List (List Rat)} {b k:Nat} {Q a:List (el Ai)} {px py:Nat->Re} (h:Fl TT w b k Q px py) (e:a=Q.drop 1):Fl TT w b k a (fun i=>px (i+1)) (fun i=>py (i+1)):=fun i x c=>h (i+1) x (by rw[e,List.getElem?_drop,Nat.add_comm 1 i] at c;exact c)
theorem oo {X:List (el Bn)} {W:List UInt8} {ns:List Nu} (b:ns=(runN (X.take 24)).1) {V:List Re} (a:V.length<=3) (d:∀n∈ns,BP V n) {Q:List (el Ai)} (f:Q=GK ns W) {c:Bool} (g:c=decide (W.length<=24)):CF 44 [.agg [.sl Bn X,.sl .u8 W]] (.AG [(false,[.sl Ai Q]),(false,[.bool c])]):=by
 unfold GK at f
 split at f
 ·rename_i h
  rw[g,decide_eq_true h];exact az b a d h f
 rename_i h
 subst f;rw[g,decide_eq_false h];exact ay b a d (by omega)
theorem o5 {X:List (el Bn)} {W:List UInt8} {ns:List Nu} (D:ns=(runN (X.take 24)).1) {V:List Re} (q:V.length<=3) (a:∀n∈ns,BP V n):CF 10 [.agg [.sl (.pr .u8 (.pr .u8 (.pr .u8 (.pr .i8 .u8)))) X,.sl .u8 W]] (.one (.bool true)):=by
 obtain⟨w,L⟩:=ME q a;have F:=L.fd;obtain⟨Q,C⟩:∃z,z=GK ns W:=⟨_,rfl⟩
 obtain⟨c,P⟩:=xB (decide (1<=Q.length));obtain⟨px,py,J⟩:=Yk L a C;refine CJ Tryz.func10 fun E g=>?_
 conv=>cbv
 refine AB g (a7 D q a C (i':=1) ⟨rfl⟩ (by decide) P) ?_;conv=>cbv
 refine AB g KY ?_;conv=>cbv
 refine AU ?_;conv=>cbv
 intro n20 m;conv=>cbv
 cases n20 <;> conv=>cbv
 ·have x:=C3 m;have hl:1<=Q.length:=of_decide_eq_true (P.symm.trans x);obtain⟨x0,d⟩:=AK (l:=Q) (i:=0) (by omega);obtain⟨T,U,G⟩:=Yi L a C d;have v:=G (b:=1950000) (k:=1) (by decide);obtain⟨bi,s⟩:=xI ((EY (KE (fun i=>px (i+1)) (fun i=>py (i+1)) T U) (Q.length-1):Nat));rintro n24 ⟨a1,f24⟩;conv=>cbv
  intro n25 o;conv=>cbv
  cases n25 <;> conv=>cbv
  ·have H:=Bq o;refine⟨x0,fun _=>⟨by omega,d⟩,?_⟩;try conv=>cbv
   refine AB g j5 ?_;conv=>cbv
   refine AU ?_;conv=>cbv
   rintro n38 ⟨a2,f38⟩;conv=>cbv
   intro n39 p;conv=>cbv
   cases n39 <;> conv=>cbv
   ·have I:=Ah p;intro a5 R;conv=>cbv
    refine AH ?_;rintro B Y ⟨K,N⟩;conv=>cbv
    intro y t;conv=>cbv
    refine⟨x0,fun _=>⟨by omega,d⟩,?_⟩;try conv=>cbv
    have h:y=Q.drop 1:=by rw[t,show B=1 by omega,List.take_of_length_le (by omega)]
    have f42:y.length=Q.length-1:=by rw[h,List.length_drop]
    refine AB (r:= .AG [(false,[.int .i64 bi]),(false,[.int .i64 0])]) g (j4 F (Yj J h) v (by rw[f42];exact s) (by omega) (by omega)) ?_;try conv=>cbv
    refine BG ?_;intro a6 S;conv=>cbv
    refine AH ?_;rintro a51 Z ⟨M,O⟩;conv=>cbv
    intro A u;conv=>cbv
    refine⟨x0,fun _=>⟨by omega,d⟩,?_⟩;try conv=>cbv
    have j:A=Q.drop 1:=by rw[u,show a51=1 by omega,List.take_of_length_le (by omega)]
    have f51:A.length=Q.length-1:=by rw[j,List.length_drop]
    refine AB (r:= .AG [(false,[.int .i64 bi]),(false,[.int .i64 0])]) g (oh F (Yj J j) v (by rw[f51];exact s) (by omega) (by omega)) ?_;try conv=>cbv
    refine BG ?_;refine Bc ?_;conv=>cbv
    refine Bc ?_;conv=>cbv
    intro a8 f;(have f:=f.trans (show _=true by simp));subst f;conv=>cbv
    exact AD ⟨t2,trivial⟩
   have I:=Aj p;exact AD ⟨t2,trivial⟩
  have H:=Br o;refine AB g KY ?_;conv=>cbv
  exact AD ⟨t2,trivial⟩
 have x:=C4 m;refine AB g KY ?_;conv=>cbv
 exact AD ⟨t2,trivial⟩
end Go.Abs
