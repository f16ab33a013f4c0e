/- Part 25 of a proof. Conditions: each theorem's own. -/
import Derived.Test.YtmhbikooakmagaaGreatRk23
set_option linter.all false
set_option maxHeartbeats 8000000
set_option maxRecDepth 20000
open Go.Proofs
namespace Go.Abs
open Go.RowKit
variable {A1 A2 C:LR} {K K2 R S S2:Nat} {T T1 T2:List LR} {TT:List (List Rat)->Prop} {c:Int} {q:Rat} {u v:List (List Rat)} {x y:Re}
theorem UI (G:Cj TT R K S) (hu:TT u) (Q:TT v) (p:T1=tw u) (t:T2=tw v) (j:A1=em u x) (m:A2=em v y) (U:El u S x) (V:El v S y) {A B:LR} (P:T=tw (A0 u v)) (I:A=em (A0 u v) x) (J:B=em (A0 u v) y):CF 216 [.agg (AR T1 A1),.agg (AR T2 A2)] (.AG [(true,(AR T A)),(true,(AR T B)),(false,[.int .i64 0])]):=by
 obtain⟨O,h⟩:∃z:List (el At),z=[(T,A),(T,B)]:=⟨_,rfl⟩
 have N:O.length=2:=by rw[h];rfl
 have F:O[0]? =some (T,A):=by rw[h];rfl
 have H:O[1]? =some (T,B):=by rw[h];rfl
 refine AJ Tryz.func216 fun E M=>?_
 conv=>cbv
 refine⟨[(T1,A1),(T2,A2)],fun _=>⟨rfl,by decide,rfl,⟨rfl,by first | exact t1 | exact t2 | exact t4 | simp[Ao,BA,cells],⟨rfl,by first | exact t1 | exact t2 | exact t4 | simp[Ao,BA,cells],trivial⟩⟩⟩,.inr ?_⟩;try conv=>cbv
 refine AB (r:= .AG [(false,[.sl At O]),(false,[.int .i64 0])]) M (Pe (ns:=[(u,x),(v,y)]) G (by intro n g;simp at g;rcases g with rfl | rfl;exact hu;exact Q) (by rw[p,t,j,m];rfl) (by intro n g;simp at g;rcases g with rfl | rfl;exact U;exact V) (by show 2<=1000000;decide) (by rw[h,P,I,J];rfl)) ?_;try conv=>cbv
 refine AU ?_;conv=>cbv
 obtain⟨w,a⟩:=AK (l:=O) (i:=0) (by omega);refine⟨w,fun _=>⟨by omega,a⟩,?_⟩;try conv=>cbv
 obtain⟨D,b⟩:=AK (l:=O) (i:=1) (by omega);refine⟨D,fun _=>⟨by omega,b⟩,?_⟩;try conv=>cbv
 refine g2 rfl ?_;have d:=Option.some.inj (a.symm.trans F);have f:=Option.some.inj (b.symm.trans H);exact AD ⟨⟨rfl,congrArg _ (by rw[d]),congrArg _ (by rw[d]),trivial⟩,⟨rfl,congrArg _ (by rw[f]),congrArg _ (by rw[f]),trivial⟩,t2,trivial⟩
theorem Pf (G:Cj TT R K S) (hu:TT u) (j:TT v) (f:T1=tw u) (g:T2=tw v) (b:A1=em u x) (d:A2=em v y) (t:El u S x) (w:El v S y) (D:T=tw (A0 u v)) (z:C=em (A0 u v) (x+y)):CF 99 [.agg (AR T1 A1),.agg (AR T2 A2)] (.AG [(true,(AR T C)),(false,[.int .i64 0])]):=by
 obtain⟨a,h,i⟩:=G.toGam.A0 hu j;have l:=G.Bi hu a h t;have m:=G.Bi j a i w;have hmul:=G.mul a;obtain⟨A,n⟩:=Bo (em (A0 u v) x);obtain⟨B,p⟩:=Bo (em (A0 u v) y);refine AJ Tryz.func99 fun E r=>?_
 conv=>cbv
 refine AB r (UI G hu j f g b d t w D n p) ?_;conv=>cbv
 refine AU ?_;conv=>cbv
 refine AB r (I4 (G.Ag a) n p l m (by omega) (by omega) z) ?_;conv=>cbv
 refine g2 rfl ?_;exact AD ⟨t3,t2,trivial⟩
theorem Ph (G:Cj TT R K S) (hu:TT u) (j:TT v) (f:T1=tw u) (g:T2=tw v) (b:A1=em u x) (d:A2=em v y) (w:El u S x) (z:El v S y) (t:T=tw (A0 u v)) (D:C=em (A0 u v) (x*y)):CF 102 [.agg (AR T1 A1),.agg (AR T2 A2)] (.AG [(true,(AR T C)),(false,[.int .i64 0])]):=by
 obtain⟨a,h,i⟩:=G.toGam.A0 hu j;have l:=G.Bi hu a h w;have m:=G.Bi j a i z;have hmul:=G.mul a;obtain⟨A,n⟩:=Bo (em (A0 u v) x);obtain⟨B,p⟩:=Bo (em (A0 u v) y);refine AJ Tryz.func102 fun E r=>?_
 conv=>cbv
 refine AB r (UI G hu j f g b d w z t n p) ?_;conv=>cbv
 refine AU ?_;conv=>cbv
 refine AB r (Dp (G.Ag a) t n p l m (by omega) D) ?_;conv=>cbv
 refine g2 rfl ?_;exact AD ⟨t3,t2,trivial⟩
theorem Pj (G:Cj TT R K S) (hu:TT u) (f:T1=tw u) (a:A1=em u x) (g:El u S x) (b:C=em u (-x)):CF 105 [.agg (AR T1 A1)] (.agg (AR T1 C)):=by
 refine AJ Tryz.func105 fun E d=>?_
 conv=>cbv
 refine AB d (Jp (G.Ag hu) a g b) ?_;conv=>cbv
 refine g2 rfl ?_;exact AD ⟨t3,trivial⟩
theorem Pn (G:Cj TT R K S) (hu:TT u) (h:TT v) (g:T1=tw u) (a:T2=tw v) (d:A1=em u x) (f:A2=em v y) (n:El u S x) (j:El v S y) (m:T=tw (A0 u v)) (l:C=em (A0 u v) (x-y)):CF 101 [.agg (AR T1 A1),.agg (AR T2 A2)] (.AG [(true,(AR T C)),(false,[.int .i64 0])]):=by
 refine AJ Tryz.func101 fun E i=>?_
 conv=>cbv
 obtain⟨p,b⟩:=Bo (em v (-y));refine AB i (Pj G h a f j b) ?_;conv=>cbv
 refine AB i (Pf G hu h g a d b n (j.neg (G.Ag h).red) m l) ?_;conv=>cbv
 refine g2 rfl ?_;exact AD ⟨t3,t2,trivial⟩
theorem Pk (G:Cj TT R K S) (hu:TT u) (b:T1=tw u) (a:A1=em u x) (g:El u S x) (f:c=An x):CF 104 [.agg (AR T1 A1)] (.one (.int .i64 c)):=by
 refine AJ Tryz.func104 fun E d=>?_
 conv=>cbv
 refine AB d (cO (G.Ag hu) b a g ((G.IH hu).mono (Nat.le_add_right _ _)).v0 f) ?_;conv=>cbv
 exact AD ⟨t2,trivial⟩
theorem Pm (G:Cj TT R K S) (hu:TT u) (b:T1=tw u) (a:A1=em u x) (i:El u S x) (hw:TT (Ar u x)) (d:0<=x) (h:T=tw (Ar u x)) (f:C=em (Ar u x) (Re.sqrt x)):CF 106 [.agg (AR T1 A1)] (.AG [(true,(AR T C)),(false,[.int .i64 0])]):=by
 refine AJ Tryz.func106 fun E g=>?_
 conv=>cbv
 refine AB g (Tg (G.Ag hu) (G.Ag hw) (G.ht hw) b a i ((G.IH hu).mono (Nat.le_add_right _ _)) d h f) ?_;conv=>cbv
 refine AU ?_;conv=>cbv
 exact AD ⟨t3,t2,trivial⟩
theorem Tm (G:Cj TT R K S) (hu:TT u) (n:TT v) (h:T1=tw u) (b:T2=tw v) (d:A1=em u x) (f:A2=em v y) (t:El u S x) (w:El v S y) {i:Re} (hi:In v i) (l:y*i=1) (j:El v S i) (g:II v.length R S<=60000000000000) (r:T=tw (A0 u v)) (p:C=em (A0 u v) (x*i)):CF 103 [.agg (AR T1 A1),.agg (AR T2 A2)] (.AG [(true,(AR T C)),(false,[.int .i64 0])]):=by
 refine AJ Tryz.func103 fun E m=>?_
 conv=>cbv
 obtain⟨z,a⟩:=Bo (em v i);refine AB m (NI (G.Ag n) b f w hi l g a) ?_;conv=>cbv
 refine AU ?_;conv=>cbv
 refine AB m (Ph G hu n h b d a t j r p) ?_;conv=>cbv
 exact AD ⟨t3,t2,trivial⟩
theorem cT (G:Cj TT R K S) (hu:TT u) (i:TT v) (h:T1=tw u) (b:T2=tw v) (f:A1=em u x) (a:A2=em v y) (j:El u S x) (l:El v S y) (d:y=0):CF 103 [.agg (AR T1 A1),.agg (AR T2 A2)] (.AG [(true,(AR [] [])),(false,[.int .i64 6])]):=by
 refine AJ Tryz.func103 fun E g=>?_
 conv=>cbv
 refine AB (r:= .AG [(false,[.sl AA []]),(false,[.int .i64 6])]) g (Tz (G.Ag i) b (a.trans (by rw[d]))) ?_;conv=>cbv
 refine Bc ?_;conv=>cbv
 exact AD ⟨⟨rfl,Bj,Bj,trivial⟩,t2,trivial⟩
theorem Tl (G:Cj TT R K S) (hu:TT u) (m:TT v) (h:T1=tw u) (i:T2=tw v) (f:A1=em u x) (g:A2=em v y) (t:El u S x) (w:El v S y) (z:Cj TT R K2 S2) (D:2*(S+K)+1<=S2) (B:c=An (x-y)):CF 132 [.agg (AR T1 A1),.agg (AR T2 A2)] (.AG [(false,[.int .i64 c]),(false,[.int .i64 0])]):=by
 obtain⟨a,j,l⟩:=G.toGam.A0 hu m;have n:=G.Bi hu a j t;have p:=G.Bi m a l w;have hmul:=G.mul a;refine AJ Tryz.func132 fun E r=>?_
 conv=>cbv
 obtain⟨H,d⟩:=DE (tw (A0 u v));obtain⟨F,b⟩:=Bo (em (A0 u v) (x-y));refine AB r (Pn G hu m h i f g t w d b) ?_;conv=>cbv
 refine AU ?_;conv=>cbv
 refine AB r (Pk z a d b ((n.sub (G.Ag a).red p).mono (by omega)) B) ?_;conv=>cbv
 exact AD ⟨t2,t2,trivial⟩
theorem Pg (G:Cj TT R K S) (hu:TT u) (p:TT v) (g:T1=tw u) (i:T2=tw v) (d:A1=em u x) (f:A2=em v y) (r:El u S x) (t:El v S y) (j:Cj TT R K2 S2) (m:2*(S+K)+1<=S2) {c:Bool} (n:c=true↔x=y):CF 27 [.agg (AR T1 A1),.agg (AR T2 A2)] (.one (.bool c)):=by
 refine AJ Tryz.func27 fun E l=>?_
 conv=>cbv
 obtain⟨w,a⟩:=xI (An (x-y));refine AB l (Tl G hu p g i d f r t j m a) ?_;conv=>cbv
 refine Bc ?_;conv=>cbv
 intro n17 b;conv=>cbv
 exact AD ⟨⟨rfl,congrArg _ (by rw[Bool.eq_iff_iff,n,b,beq_iff_eq,a,EP];constructor <;> intro h <;> grind),trivial⟩,trivial⟩
theorem To (G:Cj TT R K S) (hu:TT u) (a:T1=tw u) (b:A1=em u x) (j:El u S x):CF 26 [.agg (AR T1 A1)] (.one (.bool true)):=by
 have h:T1.length=u.length:=by rw[a,Bb]
 have i:=G.ht hu;have hmul:=G.mul hu;refine AJ Tryz.func26 fun E f=>?_
 conv=>cbv
 rintro n ⟨m,f5⟩;conv=>cbv
 intro l d;conv=>cbv
 cases l <;> conv=>cbv
 ·have g:=HH d;exact absurd g (by omega)
 have g:=HI d;refine AB f (Jn (G.Ag hu) a b j) ?_;conv=>cbv
 refine AB f (Po (G.Ag hu) a (G.IH hu).vR (G.IH hu).qR) ?_;conv=>cbv
 exact AD ⟨t2,trivial⟩
theorem NB {b1 b2:Bool} {l1 l2:List UInt32} (b:BH q b1 l1 b2 l2) (a:C=em [] (Re.ofRat q)):CF 215 [.agg (BS b1 l1 b2 l2)] (.agg (AR [] C)):=by
 refine AJ Tryz.func215 fun E d=>?_
 conv=>cbv
 refine⟨[((b1,l1),(b2,l2))],fun _=>⟨rfl,by decide,rfl,⟨rfl,by first | exact t1 | exact t2 | exact t4 | simp[Ao,BA,cells],trivial⟩⟩,.inr ?_⟩;try conv=>cbv
 exact AD ⟨⟨rfl,Bj,congrArg _ (by rw[a,Dx,<-b.rp]),trivial⟩,trivial⟩
theorem HZ {x:Int} (f: -9223372036854775808<=x/\x<9223372036854775808) (d:C=em [] (Re.ofRat x)):CF 168 [.one (.int .i64 x)] (.agg (AR [] C)):=by
 refine AJ Tryz.func168 fun E b=>?_
 conv=>cbv
 obtain⟨i,j,g,h,a⟩:=Be (x:Rat);refine AB b (Ej f rfl a) ?_;conv=>cbv
 refine AB b (NB a d) ?_;conv=>cbv
 exact AD ⟨t3,trivial⟩
theorem Tn {n d:Int} (i: -9223372036854775808<=n/\n<9223372036854775808) (h: -9223372036854775808<=d/\d<9223372036854775808) (f:d≠0) (j:q=Rat.divInt n d) (g:C=em [] (Re.ofRat q)):CF 98 [.one (.int .i64 n),.one (.int .i64 d)] (.agg (AR [] C)):=by
 refine AJ Tryz.func98 fun E b=>?_
 conv=>cbv
 obtain⟨p,r,l,m,a⟩:=Be q;refine AB b (I2 i h f j a) ?_;conv=>cbv
 refine AB b (NB a g) ?_;conv=>cbv
 exact AD ⟨t3,trivial⟩
end Go.Abs
namespace Go.Abs
open Go.RowKit
variable {A A1 A2 C:LR} {L:List (el At)} {T T1 T2 o:List LR} {c:Bool} {i' k:Nat} {ns:List Nu} {q:Rat} {s xs:List Rat} {ts:List (List Rat)}
theorem L8 {i:Nat} (h:xs[k]? =some q):Bp i k (xs.drop k)=((FC k i&&q !=0)||Bp i (k+1) (xs.drop (k+1))):=by
 have a:=Gb h;rw[List.drop_eq_getElem_cons a,Bp];rw[List.getElem?_eq_getElem a] at h;rw[Option.some.inj h]
theorem YB {i:Nat} (h:k<xs.length) (hb:FC k i=false):Bp i k (xs.drop k)=Bp i (k+1) (xs.drop (k+1)):=by
 obtain⟨q,a⟩:=AK h;rw[L8 a,hb];rfl
theorem PH {i:Nat} (h:xs[k]? =some q):BR i 0 (xs.take (k+1))=BR i 0 (xs.take k)++(if FC k i=true then [] else [q]):=by
 have a:=Gb h;rw[Cg h,PF,Nat.zero_add,List.length_take,Nat.min_eq_left (by omega),BR,BR]
theorem Sz (i:Nat):∀(k:Nat) (l:List Rat),(BR i k l).length<=l.length
 | _,[]=>Nat.le_refl _
 | k,x::l=>by
  rw[BR];have:=Sz i (k+1) l
  split
  ·rw[List.length_cons];omega
  rw[List.length_cons,List.length_cons];omega
theorem NV {i:Nat} {a n15:Int} (b:a=((k/2^i:Nat):Int)) (d:n15=a%2):(FC k i=true↔n15=1)/\(FC k i=false↔n15=0):=by
 unfold FC
 constructor
 ·rw[beq_iff_eq];omega
 rw[beq_eq_false_iff_ne];omega
theorem OK {n:Nat}:(AP n).length<=2↔n<18446744073709551616:=by
 constructor
 ·intro h;have a:=CR (AP n);rw[Az] at a;exact Nat.lt_of_lt_of_le a (Nat.pow_le_pow_right (by decide) (by omega:32*(AP n).length<=64))
 intro h;exact Fu (k:=2) h
theorem Ir {b1 b2:Bool} {l1 l2:List UInt32} (h:BH q b1 l1 b2 l2):B9 q↔l1.length<=2/\l2.length<=2:=by
 have a:=h.num.BC;have b:=h.den.BC;rw[a,b,OK,OK];unfold B9;rw[Int.natAbs_natCast]
theorem Zd (h:DR q=0):q=0:=by
 unfold DR CE at h
 split at h
 ·omega
 split at h
 ·exact Rat.num_eq_zero.1 (by assumption)
 omega
theorem aC {p:Rat->Prop} (h:∀x∈xs.take k,p x) (d:xs[k]? =some q) (b:p q):∀x∈xs.take (k+1),p x:=by
 intro x a;rw[Cg d] at a;rcases List.mem_append.1 a with a | a
 ·exact h x a
 rw[List.mem_singleton.1 a];exact b
theorem UB {i:Int} (Q:A=Aa xs) (hi:AO i i') (h6:i'<=60) (U:c=Bp i' 0 xs):CF 128 [.one (.sl AA A),.one (.int .i64 i)] (.one (.bool c)):=by
 have ei:=hi.eq;have X:A.length=xs.length:=by rw[Q,List.length_map]
 refine AJ Tryz.func128 fun E Y=>?_
 conv=>cbv
 refine .inr ?_;obtain⟨V,a⟩:=xJ fun vs W k=>∃(k':Nat) (j:Int),vs=[.one (.sl AA A),.one (.int .i64 i),.one (.int .i64 j)]/\(AO j k'/\k'<=xs.length)/\Bp i' 0 xs=Bp i' k' (xs.drop k')/\k=xs.length-k'
 refine⟨[],[0,1,5],[],V,⟨xs.length-0,by rw[a];exact⟨0,0,rfl,⟨Al 0,by omega⟩,by rw[List.drop_zero],rfl⟩⟩,?_⟩;intro vs W a2 F;rw[a] at F;obtain⟨k',j,rfl,⟨F,Z⟩,hinv,a1⟩:=F;conv=>cbv
 have ej:=F.eq;rintro n8 ⟨e8,f8⟩;conv=>cbv
 intro n9 P;conv=>cbv
 cases n9 <;> conv=>cbv
 ·have k9:=AW P;exact AD ⟨⟨rfl,congrArg _ (by rw[U,hinv,show k'=xs.length by omega,List.drop_length];rfl),trivial⟩,trivial⟩
 have k9:=AY P;refine .inr ?_;intro N I;conv=>cbv
 refine AH ?_;obtain⟨d14,t,G⟩:∃d:Nat,d=k'/2^i'/\N=d:=⟨_,rfl,shr_var (p:=k') (e:=i') I (by omega) (by omega) (by show i'<=64;omega)⟩
 intro n15 J;conv=>cbv
 refine AH ?_;have b:=NV (k:=k') (i:=i') (by rw[G,t]) J;intro n16 n;conv=>cbv
 cases n16 <;> conv=>cbv
 ·have z:=Ah n;intro m H;conv=>cbv
  refine AI ?_;refine⟨xs.length-(k'+1),?_,?_⟩
  ·omega
  rw[a];refine⟨k'+1,m,rfl,⟨⟨by omega⟩,by omega⟩,?_,rfl⟩;rw[hinv,YB (by omega) (b.2.2 (by omega))]
 have z:=Aj n;obtain⟨O,h⟩:=AK (l:=A) (i:=k') (by omega);refine⟨O,fun _=>⟨by omega,by rw[show (j).toNat=k' by omega];exact h⟩,?_⟩;try conv=>cbv
 obtain⟨D,w,f,_⟩:=IK Q h;obtain⟨a5,g⟩:=xI (DR D);refine AB Y (Tp w g) ?_;conv=>cbv
 intro n23 r;conv=>cbv
 cases n23 <;> conv=>cbv
 ·have B:=Co r;intro m H;conv=>cbv
  refine AI ?_;refine⟨xs.length-(k'+1),?_,?_⟩
  ·omega
  rw[a];refine⟨k'+1,m,rfl,⟨⟨by omega⟩,by omega⟩,?_,rfl⟩;have M:D=0:=Zd (by omega);rw[hinv,L8 f,M];simp
 have B:=Cp r;exact AD ⟨⟨rfl,congrArg _ (by rw[U,hinv,L8 f,b.1.2 z,bne_iff_ne.2 (fun e=>B (by rw[g,e];rfl))];rfl),trivial⟩,trivial⟩
theorem UJ {i:Int} (X:A=Aa xs) (hi:AO i i') (h6:i'<=60) (hl:xs.length<=1000000) (hC:C=Aa (BR i' 0 xs)):CF 129 [.one (.sl AA A),.one (.int .i64 i)] (.one (.sl AA C)):=by
 have ei:=hi.eq;have a2:A.length=xs.length:=by rw[X,List.length_map]
 refine AJ Tryz.func129 fun E hE=>?_
 conv=>cbv
 refine .inr ?_;obtain⟨J0,b⟩:=xJ fun vs W k=>∃(o:LR) (n k':Nat) (j:Int),vs=[.one (.sl AA A),.one (.int .i64 i),.one (.AN AA 5 0 0 n),.one (.int .i64 j)]/\W=[.arr 0 AA o]/\(AO j k'/\k'<=xs.length/\n=o.length)/\o=Aa (BR i' 0 (xs.take k'))/\k=xs.length-k'
 refine⟨[(5,AA,true)],[0,1,5,6],[5],J0,⟨xs.length-0,by rw[b];exact⟨[],0,0,0,rfl,rfl,⟨Al 0,by omega,rfl⟩,rfl,rfl⟩⟩,?_⟩;intro vs W a8 H;rw[b] at H;obtain⟨o,n,k',j,rfl,rfl,⟨H,a5,Y⟩,hinv,a6⟩:=H;conv=>cbv
 have ej:=H.eq;have a7:o.length<=xs.length:=by rw[hinv,List.length_map];have:=Sz i' 0 (xs.take k');rw[List.length_take] at this;omega
 rintro n9 ⟨e9,f9⟩;conv=>cbv
 intro V t;conv=>cbv
 cases V <;> conv=>cbv
 ·have Q:=AW t;exact AD ⟨⟨rfl,.inl ⟨_,rfl,by omega,congrArg _ (by rw[hC,Y,List.drop_zero,List.take_length,hinv,show k'=xs.length by omega,List.take_length])⟩,trivial⟩,trivial⟩
 have Q:=AY t;refine .inr ?_;intro n15 M;conv=>cbv
 refine AH ?_;obtain⟨d15,z,I⟩:∃d:Nat,d=k'/2^i'/\n15=d:=⟨_,rfl,shr_var (p:=k') (e:=i') M (by omega) (by omega) (by show i'<=64;omega)⟩
 intro n16 N;conv=>cbv
 refine AH ?_;have f:=NV (k:=k') (i:=i') (by rw[I,z]) N;intro n17 w;conv=>cbv
 refine .inr ?_;cases n17 <;> conv=>cbv
 ·have U:=Ah w;intro r J;conv=>cbv
  refine AI ?_;refine⟨xs.length-(k'+1),?_,?_⟩
  ·omega
  rw[b];obtain⟨qq,O⟩:=AK (l:=xs) (i:=k') (by omega);exact⟨o,n,k'+1,r,rfl,rfl,⟨⟨by omega⟩,by omega,Y⟩,by rw[PH O,if_pos (f.1.2 (by omega)),List.append_nil];exact hinv,rfl⟩
 have U:=Aj w
 obtain⟨G,a1,F,P⟩:∃q,BH q (rp q).1.1 (rp q).1.2 (rp q).2.1 (rp q).2.2/\xs[k']? =some q/\A[k']? =some (rp q):=by
  obtain⟨q,Z⟩:=AK (l:=xs) (i:=k') (by omega);exact⟨q,Ft q,Z,by rw[X,List.getElem?_map,Z];rfl⟩
 obtain⟨a,g⟩:=AK (l:=A) (i:=k') (by omega);refine⟨a,fun _=>⟨by omega,by rw[show (j).toNat=k' by omega];exact g⟩,?_⟩;try conv=>cbv
 refine⟨[((a.1.1,a.1.2),(a.2.1,a.2.2))],fun _=>⟨rfl,by decide,rfl,⟨rfl,by first | exact t1 | exact t2 | exact t4 | simp[Ao,BA,cells],trivial⟩⟩,.inr ?_⟩;try conv=>cbv
 refine .inl ⟨[((a.1.1,a.1.2),(a.2.1,a.2.2))],fun _=>⟨rfl,by (first | rfl | omega),rfl,by show (o.length+1)*64<=140737488355328;(try simp only[List.length_take,List.length_drop]);omega⟩,?_⟩;intro (m:LR) n24 h;have B:m=(o:LR)++([((a.1.1,a.1.2),(a.2.1,a.2.2))]:LR):=h.1;have D:n24=List.length (α:=(el AA)) m:=h.2;conv=>cbv
 intro r J;conv=>cbv
 refine AI ?_;refine⟨xs.length-(k'+1),?_,?_⟩
 ·omega
 rw[b];have ex:a=rp G:=by have:=g.symm.trans P;exact Option.some.inj this
 refine⟨m,_,k'+1,r,rfl,rfl,⟨⟨by omega⟩,by omega,D⟩,?_,rfl⟩;rw[PH F,if_neg (by rw[f.2.2 (by omega)];decide)];rw[B,hinv];show _=List.map rp _;rw[List.map_append];show _=Aa _++[rp G];rw[<-ex]
theorem Jo:CF 100 [.agg (AR T1 A1),.one (.int .i64 0),.agg (AR T2 A2)] (.agg (AR T1 A1)):=by
 refine AJ Tryz.func100 fun E a=>?_
 conv=>cbv
 refine AU ?_;conv=>cbv
 exact AD ⟨t3,trivial⟩
theorem dT:CF 100 [.agg (AR T1 A1),.one (.int .i64 6),.agg (AR T2 A2)] (.agg (AR T2 A2)):=by
 refine AJ Tryz.func100 fun E a=>?_
 conv=>cbv
 refine Bc ?_;conv=>cbv
 exact AD ⟨t3,trivial⟩
theorem nn (h:∀x∈ts.take k,∀q∈x,B9 q) (d:ts[k]? =some s) (b:∀q∈s,B9 q):∀x∈ts.take (k+1),∀q∈x,B9 q:=by
 intro x a;rw[Cg d] at a;rcases List.mem_append.1 a with a | a
 ·exact h x a
 rw[List.mem_singleton.1 a];exact b
def My (ts:List (List Rat)) (xs:List Rat):Prop:=(∃q∈xs,¬B9 q)\/∃s∈ts,∃q∈s,¬B9 q
theorem dS (hT:T=ts.map Aa) (hA:A=Aa xs) (hc:c=true↔My ts xs):CF 107 [.agg (AR T A)] (.one (.bool c)):=by
 have aM:A.length=xs.length:=by rw[hA,List.length_map]
 have aN:T.length=ts.length:=by rw[hT,List.length_map]
 refine AJ Tryz.func107 fun E hE=>?_
 conv=>cbv
 refine .inr ?_;obtain⟨J0,P⟩:=xJ fun vs z k=>∃(k':Nat) (j:Int),vs=[.one (.Ab 1 0 0),.one (.bool false),.one (.int .i64 j)]/\z=[.var 0 [.sl (.sl AA) T,.sl AA A]]/\(AO j k'/\k'<=xs.length)/\(∀q∈xs.take k',B9 q)/\k=xs.length-k'
 refine⟨[],[1,2,3],[1],J0,⟨xs.length-0,by rw[P];exact⟨0,0,rfl,rfl,⟨Al 0,by omega⟩,by simp,rfl⟩⟩,?_⟩;intro vs z aV r;rw[P] at r;obtain⟨k',j,rfl,rfl,⟨r,aO⟩,hinv,aP⟩:=r;conv=>cbv
 have ej:=r.eq;rintro aY ⟨aB,f10⟩;conv=>cbv
 intro aq a5;conv=>cbv
 cases aq <;> conv=>cbv
 ·have ah:=AW a5;refine .inr ?_;obtain⟨J1,Q⟩:=xJ fun vs z k=>∃(m':Nat) (m:Int),vs=[.one (.Ab 1 0 0),.one (.bool false),.one (.int .i64 m)]/\z=[.var 0 [.sl (.sl AA) T,.sl AA A]]/\(AO m m'/\m'<=ts.length)/\(∀s∈ts.take m',∀q∈s,B9 q)/\k=ts.length-m'
  refine⟨[],[1,2,4],[1],J1,⟨ts.length-0,by rw[Q];exact⟨0,0,rfl,rfl,⟨Al 0,by omega⟩,by simp,rfl⟩⟩,?_⟩;intro vs z aW r;rw[Q] at r;obtain⟨m',m,rfl,rfl,⟨hm,aS⟩,B,aQ⟩:=r;conv=>cbv
  have em:=hm.eq;rintro n37 ⟨aF,f37⟩;conv=>cbv
  intro n38 a8;conv=>cbv
  cases n38 <;> conv=>cbv
  ·have ak:=AW a8;exact AD ⟨⟨rfl,congrArg _ (by rw[Bool.eq_false_iff];intro h;rcases hc.1 h with⟨q,hq,hn⟩ |⟨s,hs,q,hq,hn⟩;exact hn (hinv q (by rw[List.take_of_length_le (by omega)];exact hq));exact hn (B s (by rw[List.take_of_length_le (by omega)];exact hs) q hq)),trivial⟩,trivial⟩
  have ak:=AY a8;refine .inr ?_
  obtain⟨s2,D,X⟩:∃s,T[m']? =some (Aa s)/\ts[m']? =some s:=by
   obtain⟨s,hs⟩:=AK (l:=ts) (i:=m') (by omega);exact⟨s,by rw[hT,List.getElem?_map,hs];rfl,hs⟩
  refine .inr ?_;obtain⟨J2,U⟩:=xJ fun vs z k=>∃(t:Nat) (p:Int),vs=[.one (.Ab 1 0 0),.one (.bool false),.one (.int .i64 m),.one (.int .i64 p)]/\z=[.var 0 [.sl (.sl AA) T,.sl AA A]]/\(AO p t/\t<=s2.length)/\(∀q∈s2.take t,B9 q)/\k=s2.length-t
  refine⟨[],[1,2,4,5],[1],J2,⟨s2.length-0,by rw[U];exact⟨0,0,rfl,rfl,⟨Al 0,by omega⟩,by simp,rfl⟩⟩,?_⟩;intro vs z aX r;rw[U] at r;obtain⟨t,p,rfl,rfl,⟨hp,aT⟩,d,aR⟩:=r;conv=>cbv
  have ep:=hp.eq;obtain⟨Z,G⟩:=AK (l:=T) (i:=m') (by omega);refine⟨Z,fun _=>⟨by omega,by rw[show (m).toNat=m' by omega];exact G⟩,?_⟩;try conv=>cbv
  have ae:Z=Aa s2:=Option.some.inj (G.symm.trans D);have aU:Z.length=s2.length:=by rw[ae,List.length_map]
  rintro b0 ⟨aG,f47⟩;conv=>cbv
  intro ar aa;conv=>cbv
  cases ar <;> conv=>cbv
  ·have al:=AW aa;intro n40 aK;conv=>cbv
   refine AI ?_;refine⟨ts.length-(m'+1),?_,?_⟩
   ·omega
   rw[Q];exact⟨m'+1,_,rfl,rfl,⟨⟨by omega⟩,by omega⟩,nn B X (by rw[show t=s2.length by omega,List.take_length] at d;exact d),rfl⟩
  have al:=AY aa;refine .inr ?_;obtain⟨w,H⟩:=AK (l:=T) (i:=m') (by omega);refine⟨w,fun _=>⟨by omega,by rw[show (m).toNat=m' by omega];exact H⟩,?_⟩;try conv=>cbv
  have a1:w=Aa s2:=Option.some.inj (H.symm.trans D);have aA:w.length=s2.length:=by rw[a1,List.length_map]
  obtain⟨b,I⟩:=AK (l:=w) (i:=t) (by omega);refine⟨b,fun _=>⟨by omega,by rw[show (p).toNat=t by omega];exact I⟩,?_⟩;try conv=>cbv
  obtain⟨q3,ag,W,_⟩:=IK a1 I;have g:BH q3 b.1.1 b.1.2 b.2.1 b.2.2:=ag;intro n62 N;have aH:=N.eq;have f62:=N.le;conv=>cbv
  have ax:n62=((List.length b.1.2:Nat):Int):=N.eq;intro au ab;conv=>cbv
  cases au <;> conv=>cbv
  ·have an:=Bq ab;intro n68 O;have aI:=O.eq;have f68:=O.le;conv=>cbv
   have ay:n68=((List.length b.2.2:Nat):Int):=O.eq;intro n69 ad;conv=>cbv
   cases n69 <;> conv=>cbv
   ·have ao:=Bq ad;intro b1 aL;conv=>cbv
    refine AI ?_;refine⟨s2.length-(t+1),?_,?_⟩
    ·omega
    rw[U];exact⟨t+1,_,rfl,rfl,⟨⟨by omega⟩,by omega⟩,aC d W ((Ir g).2 ⟨by omega,by omega⟩),rfl⟩
   have ao:=Br ad;exact AD ⟨⟨rfl,congrArg _ (hc.2 (.inr ⟨s2,List.mem_of_getElem? X,q3,List.mem_of_getElem? W,fun h=>by have:=(Ir g).1 h;omega⟩)),trivial⟩,trivial⟩
  have an:=Br ab;exact AD ⟨⟨rfl,congrArg _ (hc.2 (.inr ⟨s2,List.mem_of_getElem? X,q3,List.mem_of_getElem? W,fun h=>by have:=(Ir g).1 h;omega⟩)),trivial⟩,trivial⟩
 have ah:=AY a5;refine .inr ?_;obtain⟨a,n⟩:=AK (l:=A) (i:=k') (by omega);refine⟨a,fun _=>⟨by omega,by rw[show (j).toNat=k' by omega];exact n⟩,?_⟩;try conv=>cbv
 obtain⟨q1,af,V,_⟩:=IK hA n;have f:BH q1 a.1.1 a.1.2 a.2.1 a.2.2:=af;intro n21 J;have aD:=J.eq;have f21:=J.le;conv=>cbv
 have av:n21=((List.length a.1.2:Nat):Int):=J.eq;intro n22 a6;conv=>cbv
 cases n22 <;> conv=>cbv
 ·have ai:=Bq a6;obtain⟨Y,F⟩:=AK (l:=A) (i:=k') (by omega);refine⟨Y,fun _=>⟨by omega,by rw[show (j).toNat=k' by omega];exact F⟩,?_⟩;try conv=>cbv
  have a2:=Option.some.inj (F.symm.trans n);have az:List.length Y.2.2=List.length a.2.2:=by rw[a2]
  intro n31 M;have aE:=M.eq;have f31:=M.le;conv=>cbv
  have aw:n31=((List.length Y.2.2:Nat):Int):=M.eq;intro n32 a7;conv=>cbv
  cases n32 <;> conv=>cbv
  ·have aj:=Bq a7;intro aZ aJ;conv=>cbv
   refine AI ?_;refine⟨xs.length-(k'+1),?_,?_⟩
   ·omega
   rw[P];exact⟨k'+1,_,rfl,rfl,⟨⟨by omega⟩,by omega⟩,aC hinv V ((Ir f).2 ⟨by omega,by omega⟩),rfl⟩
  have aj:=Br a7;exact AD ⟨⟨rfl,congrArg _ (hc.2 (.inl ⟨q1,List.mem_of_getElem? V,fun h=>by have:=(Ir f).1 h;omega⟩)),trivial⟩,trivial⟩
 have ai:=Br a6;exact AD ⟨⟨rfl,congrArg _ (hc.2 (.inl ⟨q1,List.mem_of_getElem? V,fun h=>by have:=(Ir f).1 h;omega⟩)),trivial⟩,trivial⟩
theorem cR (hT:T=ts.map Aa) (hA:A=Aa xs) (h1:∀q∈xs,B9 q) (h2:∀s∈ts,∀q∈s,B9 q):CF 32 [.agg (AR T A)] (.one (.bool true)):=by
 have aS:A.length=xs.length:=by rw[hA,List.length_map]
 have aT:T.length=ts.length:=by rw[hT,List.length_map]
 refine AJ Tryz.func32 fun E hE=>?_
 conv=>cbv
 refine .inr ?_;obtain⟨J0,P⟩:=xJ fun vs w k=>∃(k':Nat) (j:Int),vs=[.one (.Ab 1 0 0),.one (.bool false),.one (.int .i64 j)]/\w=[.var 0 [.sl (.sl AA) T,.sl AA A]]/\(AO j k'/\k'<=xs.length)/\k=xs.length-k'
 refine⟨[],[1,2,3],[1],J0,⟨xs.length-0,by rw[P];exact⟨0,0,rfl,rfl,⟨Al 0,by omega⟩,rfl⟩⟩,?_⟩;intro vs w b1 r;rw[P] at r;obtain⟨k',j,rfl,rfl,⟨r,aU⟩,aV⟩:=r;conv=>cbv
 have ej:=r.eq;rintro n9 ⟨e9,f9⟩;conv=>cbv
 intro av a1;conv=>cbv
 cases av <;> conv=>cbv
 ·have ak:=AW a1;refine .inr ?_;obtain⟨J1,Q⟩:=xJ fun vs w k=>∃(m':Nat) (m:Int),vs=[.one (.Ab 1 0 0),.one (.bool false),.one (.int .i64 m)]/\w=[.var 0 [.sl (.sl AA) T,.sl AA A]]/\(AO m m'/\m'<=ts.length)/\k=ts.length-m'
  refine⟨[],[1,2,4],[1],J1,⟨ts.length-0,by rw[Q];exact⟨0,0,rfl,rfl,⟨Al 0,by omega⟩,rfl⟩⟩,?_⟩;intro vs w b2 r;rw[Q] at r;obtain⟨m',m,rfl,rfl,⟨hm,aY⟩,aW⟩:=r;conv=>cbv
  have em:=hm.eq;rintro n36 ⟨aL,f36⟩;conv=>cbv
  intro n37 a6;conv=>cbv
  cases n37 <;> conv=>cbv
  ·have ao:=AW a6;exact AD ⟨t2,trivial⟩
  have ao:=AY a6;refine .inr ?_
  obtain⟨s2,B,aj⟩:∃s,T[m']? =some (Aa s)/\ts[m']? =some s:=by
   obtain⟨s,hs⟩:=AK (l:=ts) (i:=m') (by omega);exact⟨s,by rw[hT,List.getElem?_map,hs];rfl,hs⟩
  refine .inr ?_;obtain⟨J2,U⟩:=xJ fun vs w k=>∃(h:Nat) (p:Int),vs=[.one (.Ab 1 0 0),.one (.bool false),.one (.int .i64 m),.one (.int .i64 p)]/\w=[.var 0 [.sl (.sl AA) T,.sl AA A]]/\(AO p h/\h<=s2.length)/\k=s2.length-h
  refine⟨[],[1,2,4,5],[1],J2,⟨s2.length-0,by rw[U];exact⟨0,0,rfl,rfl,⟨Al 0,by omega⟩,rfl⟩⟩,?_⟩;intro vs w b3 r;rw[U] at r;obtain⟨h,p,rfl,rfl,⟨hp,aZ⟩,aX⟩:=r;conv=>cbv
  have ep:=hp.eq;obtain⟨W,F⟩:=AK (l:=T) (i:=m') (by omega);refine⟨W,fun _=>⟨by omega,by rw[show (m).toNat=m' by omega];exact F⟩,?_⟩;try conv=>cbv
  have ae:W=Aa s2:=Option.some.inj (F.symm.trans B);have b0:W.length=s2.length:=by rw[ae,List.length_map]
  rintro n46 ⟨aM,f46⟩;conv=>cbv
  intro aw a7;conv=>cbv
  cases aw <;> conv=>cbv
  ·have aq:=AW a7;intro n39 aQ;conv=>cbv
   refine AI ?_;refine⟨ts.length-(m'+1),?_,?_⟩
   ·omega
   rw[Q];exact⟨m'+1,_,rfl,rfl,⟨⟨by omega⟩,by omega⟩,rfl⟩
  have aq:=AY a7;refine .inr ?_;obtain⟨n,f⟩:=AK (l:=T) (i:=m') (by omega);refine⟨n,fun _=>⟨by omega,by rw[show (m).toNat=m' by omega];exact f⟩,?_⟩;try conv=>cbv
  have I:n=Aa s2:=Option.some.inj (f.symm.trans B);have aH:n.length=s2.length:=by rw[I,List.length_map]
  obtain⟨b,g⟩:=AK (l:=n) (i:=h) (by omega);refine⟨b,fun _=>⟨by omega,by rw[show (p).toNat=h by omega];exact g⟩,?_⟩;try conv=>cbv
  obtain⟨q3,ai,ag,_⟩:=IK I g;have ad:BH q3 b.1.1 b.1.2 b.2.1 b.2.2:=ai;have aG:=(Ir ad).1 (h2 s2 (List.mem_of_getElem? aj) q3 (List.mem_of_getElem? ag));intro n60 N;have aN:=N.eq;have f60:=N.le;conv=>cbv
  have aB:n60=((List.length b.1.2:Nat):Int):=N.eq;intro n61 a8;conv=>cbv
  cases n61 <;> conv=>cbv
  ·have ar:=Bq a8;obtain⟨X,G⟩:=AK (l:=T) (i:=m') (by omega);refine⟨X,fun _=>⟨by omega,by rw[show (m).toNat=m' by omega];exact G⟩,?_⟩;try conv=>cbv
   have z:=Option.some.inj (G.symm.trans f);have aI:X.length=s2.length:=by rw[z,I,List.length_map]
   obtain⟨t,H⟩:=AK (l:=X) (i:=h) (by omega);refine⟨t,fun _=>⟨by omega,by rw[show (p).toNat=h by omega];exact H⟩,?_⟩;try conv=>cbv
   have Z:=Option.some.inj ((show n[h]? =some t by rw[<-z];exact H).symm.trans g);have aE:List.length t.2.2=List.length b.2.2:=by rw[Z]
   intro ax O;have aO:=O.eq;have f73:=O.le;conv=>cbv
   have aC:ax=((List.length t.2.2:Nat):Int):=O.eq;intro ay aa;conv=>cbv
   cases ay <;> conv=>cbv
   ·have au:=Bq aa;intro n49 aR;conv=>cbv
    refine AI ?_;refine⟨s2.length-(h+1),?_,?_⟩
    ·omega
    rw[U];exact⟨h+1,_,rfl,rfl,⟨⟨by omega⟩,by omega⟩,rfl⟩
   have au:=Br aa
   exfalso;omega
  have ar:=Br a8
  exfalso;omega
 have ak:=AY a1;refine .inr ?_;obtain⟨a,d⟩:=AK (l:=A) (i:=k') (by omega);refine⟨a,fun _=>⟨by omega,by rw[show (j).toNat=k' by omega];exact d⟩,?_⟩;try conv=>cbv
 obtain⟨q1,ah,af,_⟩:=IK hA d;have ab:BH q1 a.1.1 a.1.2 a.2.1 a.2.2:=ah;have aF:=(Ir ab).1 (h1 q1 (List.mem_of_getElem? af));intro n20 J;have aJ:=J.eq;have f20:=J.le;conv=>cbv
 have az:n20=((List.length a.1.2:Nat):Int):=J.eq;intro n21 a2;conv=>cbv
 cases n21 <;> conv=>cbv
 ·have al:=Bq a2;obtain⟨V,D⟩:=AK (l:=A) (i:=k') (by omega);refine⟨V,fun _=>⟨by omega,by rw[show (j).toNat=k' by omega];exact D⟩,?_⟩;try conv=>cbv
  have Y:=Option.some.inj (D.symm.trans d);have aD:List.length V.2.2=List.length a.2.2:=by rw[Y]
  intro n30 M;have aK:=M.eq;have f30:=M.le;conv=>cbv
  have aA:n30=((List.length V.2.2:Nat):Int):=M.eq;intro n31 a5;conv=>cbv
  cases n31 <;> conv=>cbv
  ·have an:=Bq a5;intro b4 aP;conv=>cbv
   refine AI ?_;refine⟨xs.length-(k'+1),?_,?_⟩
   ·omega
   rw[P];exact⟨k'+1,_,rfl,rfl,⟨⟨by omega⟩,by omega⟩,rfl⟩
  have an:=Br a5
  exfalso;omega
 have al:=Br a2
 exfalso;omega
theorem M7 (t:L=ns.map nm) (B:∀n∈ns,(∀q∈co n.1 n.2,B9 q)/\∀s∈n.1,∀q∈s,B9 q):CF 22 [.one (.sl At L)] (.one (.bool true)):=by
 have F:L.length=ns.length:=by rw[t,List.length_map]
 refine AJ Tryz.func22 fun E D=>?_
 conv=>cbv
 refine .inr ?_;obtain⟨w,b⟩:=xJ fun vs z k=>∃(k':Nat) (j:Int),vs=[.one (.sl At L),.one (.int .i64 j)]/\(AO j k'/\k'<=L.length)/\k=L.length-k'
 refine⟨[],[0,3],[],w,⟨L.length-0,by rw[b];exact⟨0,0,rfl,⟨Al 0,by omega⟩,rfl⟩⟩,?_⟩;intro vs z J f;rw[b] at f;obtain⟨k',j,rfl,⟨f,G⟩,H⟩:=f;conv=>cbv
 have O:=f.eq;rintro Q ⟨N,f6⟩;conv=>cbv
 intro M r;conv=>cbv
 cases M <;> conv=>cbv
 ·have I:=AW r;exact AD ⟨t2,trivial⟩
 have I:=AY r;refine .inr ?_;obtain⟨p,a⟩:=AK (l:=L) (i:=k') (by omega);refine⟨p,fun _=>⟨by omega,by rw[show (j).toNat=k' by omega];exact a⟩,?_⟩;try conv=>cbv
 obtain⟨u,y,h,m,g⟩:=Hj t a;have d:=B _ (List.mem_of_getElem? g);refine AB D (cR (ts:=u.reverse) (xs:=co u y) h m d.1 (fun s hs=>d.2 s (List.mem_reverse.1 hs))) ?_;conv=>cbv
 refine AU ?_;conv=>cbv
 intro U P;conv=>cbv
 refine AI ?_;refine⟨L.length-(k'+1),?_,?_⟩
 ·omega
 rw[b];exact⟨k'+1,_,rfl,⟨⟨by omega⟩,by omega⟩,rfl⟩
theorem cH {i:Int} {n:Nu} (F:L=ns.map nm) (j:ns≠[]) (hi:AO i i') (N:n=CV ns i') (M:T=tw n.1) (J:A=em n.1 n.2):CF 158 [.one (.sl At L),.one (.int .i64 i)] (.agg (AR T A)):=by
 have I:=hi.eq;have h:L.length=ns.length:=by rw[F,List.length_map]
 have G:0<ns.length:=List.length_pos_iff.2 j;refine AJ Tryz.func158 fun E Q=>?_
 conv=>cbv
 rintro U ⟨P,f6⟩;conv=>cbv
 intro O D;conv=>cbv
 cases O <;> conv=>cbv
 ·have H:=Ah D;intro t b;conv=>cbv
  cases t <;> conv=>cbv
  ·have d:=AW b;rintro n16 ⟨f,f16⟩;conv=>cbv
   intro n17 g;conv=>cbv
   refine AH ?_;have B:n17=((i'%L.length:Nat):Int):=by rw[g,I,f];exact (Int.natCast_emod _ _).symm
   obtain⟨w,a⟩:=AK (l:=L) (i:=(i'%L.length)) (by exact Nat.mod_lt _ (by omega));refine⟨w,fun _=>⟨by omega,by rw[show (n17).toNat=(i'%L.length) by omega];exact a⟩,?_⟩;try conv=>cbv
   obtain⟨u,y,p,r,m⟩:=Hj F a;have z:n=(u,y):=by rw[N];unfold CV;rw[<-h,List.getD_eq_getElem?_getD,m];rfl
   exact AD ⟨⟨rfl,congrArg _ (by rw[M,z];exact p.symm),congrArg _ (by rw[J,z];exact r.symm),trivial⟩,trivial⟩
  have d:=AY b;exact absurd d (by omega)
 have H:=Aj D;exact absurd H (by omega)
theorem XV {i:Nat} (a:∀m,o[m]? =(ts[m]?).map fun s=>Aa (if i<m/\m<k then BR i 0 s else s)) (hs:ts[k]? =some s) (b:i<k) {w:LR} (hw:w=Aa (BR i 0 s)):
  ∀m,(o.set k w)[m]? =(ts[m]?).map fun s=>Aa (if i<m/\m<k+1 then BR i 0 s else s):=by
 intro m
 by_cases e:k=m
 ·subst e;have d:=Gb hs
  have f:k<o.length:=by
   have:=a k;rw[hs] at this;exact Gb this
  rw[List.getElem?_set_self f,hs,Option.map_some,if_pos ⟨b,by omega⟩,hw]
 rw[List.getElem?_set_ne e,a m];have:(i<m/\m<k+1)↔(i<m/\m<k):=by omega
 simp only[this]
theorem XU {i:Nat} (hi:i<ts.length) (b:∀m,o[m]? =(ts[m]?).map fun s=>Aa (if i<m/\m<ts.length then BR i 0 s else s)):o.take i++o.drop (i+1)=(ts.take i++(ts.drop (i+1)).map (BR i 0)).map Aa:=by
 have e:o=(ts.take (i+1)++(ts.drop (i+1)).map (BR i 0)).map Aa:=by
  apply List.ext_getElem?;intro m;rw[b m,List.getElem?_map,List.getElem?_append,List.length_take,Nat.min_eq_left (by omega)]
  by_cases hm:m<i+1
  ·rw[if_pos hm,List.getElem?_take,if_pos hm];cases ts[m]? with
   | none=>rfl
   | some s=>simp only[Option.map_some];rw[if_neg (by omega)]
  rw[if_neg hm,List.getElem?_map,List.getElem?_drop,show i+1+(m-(i+1))=m by omega]
  by_cases a:m<ts.length
  ·rw[List.getElem?_eq_getElem a];simp only[Option.map_some];rw[if_pos ⟨by omega,a⟩]
  rw[List.getElem?_eq_none (by omega)];rfl
 have hlen:(ts.take (i+1)).length=i+1:=by rw[List.length_take];omega
 rw[e,List.map_append,List.map_append,List.take_append_of_le_length (by rw[List.length_map,hlen];omega),List.drop_left' (by rw[List.length_map,hlen]),<-List.map_take,List.take_take,Nat.min_eq_left (by omega)]
theorem UW {i:Nat} {f:List Rat->Bool} (hs:ts[k]? =some s) (a:i<k):((ts.drop (i+1)).take (k+1-(i+1))).any f=(((ts.drop (i+1)).take (k-(i+1))).any f||f s):=by
 rw[show k+1-(i+1)=k-(i+1)+1 by omega,Cg (l:=ts.drop (i+1)) (i:=k-(i+1)) (x:=s) (by rw[List.getElem?_drop,show i+1+(k-(i+1))=k by omega];exact hs)];simp
theorem ND {u wF:List (List Rat)} {x:Re} (h:AT u) (hx:In u x) (hl:u.length<=8) (hw:EA u.length (u.reverse,co u x)=(wF.reverse,co wF x)) (hT:T=tw u) (hA:A=em u x) (aQ:T2=tw wF) (hC:C=em wF x):CF 25 [.agg (AR T A)] (.agg (AR T2 C)):=by
 have bD:T.length=u.length:=by rw[hT,Bb]
 refine AJ Tryz.func25 fun E hE=>?_
 conv=>cbv
 refine⟨[],fun _=>⟨rfl,by decide,rfl,trivial⟩,.inl ?_⟩;try conv=>cbv
 refine .inl ⟨T,fun _=>⟨rfl,by (first | rfl | omega),rfl,by show (0+T.length)*24<=140737488355328;(try simp only[List.length_take,List.length_drop]);omega⟩,?_⟩;intro (ai:List (el (.sl AA))) b5 X;have Q:ai=([]:List (el (.sl AA)))++(T:List (el (.sl AA))):=X.1;have ax:b5=List.length (α:=(el (.sl AA))) ai:=X.2;conv=>cbv
 refine g2 rfl ?_;intro n17 aK;have bq:=aK.eq;conv=>cbv
 have aV:List.length ai=List.length T:=by rw[Q];rfl
 intro n18 bu;conv=>cbv
 refine AI ?_;refine .inr ?_
 obtain⟨J0,a2⟩:∃J:List AV->List AL->Nat->Prop,J=fun vs g k=>∃(w:List (List Rat)) (O:List LR) (B:LR) (n j:Nat) (i:Int),vs=[.one (.Ab 2 0 0),.one (.Ab 3 0 0),.one (.int .i64 i)]/\g=[.var 0 [.nil,.nil],.var 0 [.AN (.sl AA) 8 0 0 n,.sl AA B],.arr 0 (.sl AA) O]/\
  (AO (i+1) j/\n=O.length/\O=tw w/\B=em w x)/\(AT w/\In w x/\j<=w.length/\w.length<=8)/\EA j (w.reverse,co w x)=(wF.reverse,co wF x)/\k=j:=⟨_,rfl⟩
 refine⟨[],[2,3,4],[2,3,8],J0,⟨u.length,by rw[a2];exact⟨u,_,_,_,u.length,n18,rfl,rfl,⟨⟨by omega⟩,ax,by rw[Q,hT];rfl,hA⟩,⟨h,hx,Nat.le_refl _,hl⟩,hw,rfl⟩⟩,?_⟩;intro vs g bL a;rw[a2] at a;obtain⟨w,O,B,n,j,i,rfl,rfl,⟨hi,hn,hO,hB⟩,⟨ag,ah,bG,G⟩,d,bH⟩:=a;conv=>cbv
 have ei:=hi.eq;obtain⟨i',bE⟩:=xN (j-1);intro n20 an;conv=>cbv
 cases n20 <;> conv=>cbv
 ·have b2:=EI an;exact AD ⟨⟨rfl,.inl ⟨_,rfl,by omega,congrArg _ (by rw[aQ,hn,List.drop_zero,List.take_length,hO];have:=d;rw[show j=0 by omega,EA] at this;rw[tw,tw,(Prod.mk.inj this).1])⟩,congrArg _ (by rw[hC,hB];have:=d;rw[show j=0 by omega,EA] at this;rw[em,em,(Prod.mk.inj this).2]),trivial⟩,trivial⟩
 have b2:=EJ an
 obtain⟨K1,a6⟩:∃J:List AV->List AL->Prop,J=fun vs g=>∃(r:List (List Rat)) (O2:List LR) (B2:LR) (n2:Nat),vs=[.one (.Ab 2 0 0),.one (.Ab 3 0 0),.one (.int .i64 i)]/\g=[.var 0 [.nil,.nil],.var 0 [.AN (.sl AA) 8 0 0 n2,.sl AA B2],.arr 0 (.sl AA) O2]/\
  (n2=O2.length/\O2=tw r/\B2=em r x)/\(AT r/\In r x/\i'<=r.length/\r.length<=8)/\EA i' (r.reverse,co r x)=(wF.reverse,co wF x):=⟨_,rfl⟩
 refine .inl ⟨[2,3,4],[2,3,8],K1,?_,?_⟩
 ·intro vs g a;rw[a6] at a;obtain⟨r,O2,B2,n2,rfl,rfl,⟨aW,aP,aO⟩,⟨aC,aD,av,aB⟩,aA⟩:=a;conv=>cbv
  intro n22 bw;conv=>cbv
  refine AI ?_;refine⟨i',?_,?_⟩
  ·omega
  rw[a2];exact⟨r,O2,B2,n2,i',n22,rfl,rfl,⟨⟨by omega⟩,aW,aP,aO⟩,⟨aC,aD,av,aB⟩,aA,rfl⟩
 try conv=>cbv
 have aT:j=i'+1:=by omega
 subst aT;have F:AO i i':=⟨by omega⟩;obtain⟨ts,f⟩:∃z:List (List Rat),z=w.reverse:=⟨_,rfl⟩
 have a7:O=ts.map Aa:=by rw[hO,f];rfl
 have bK:ts.length=w.length:=by rw[f,List.length_reverse]
 have bC:O.length=ts.length:=by rw[a7,List.length_map]
 have aR:(co w x).length<=1000000:=by rw[CU ah];exact Nat.le_trans (CP G) (by decide)
 obtain⟨aH,N⟩:=xB (Bp i' 0 (co w x));refine AB hE (UB (xs:=co w x) hB F (by omega) N) ?_;conv=>cbv
 intro n28 bx;conv=>cbv
 refine AI ?_;refine .inr ?_
 obtain⟨J1,D⟩:∃J:List AV->List AL->Nat->Prop,J=fun vs g k=>∃(b:Bool) (k':Nat) (j:Int),vs=[.one (.Ab 2 0 0),.one (.Ab 3 0 0),.one (.int .i64 i),.one (.bool b),.one (.int .i64 j)]/\g=[.var 0 [.nil,.nil],.var 0 [.AN (.sl AA) 8 0 0 n,.sl AA B],.arr 0 (.sl AA) O]/\
  (AO j k'/\i'<k'/\k'<=ts.length)/\b=(Bp i' 0 (co w x)||((ts.drop (i'+1)).take (k'-(i'+1))).any (Bp i' 0))/\k=ts.length-k':=⟨_,rfl⟩
 refine⟨[],[2,3,4,5,6],[2,3,8],J1,⟨ts.length-(i'+1),by rw[D];exact⟨aH,i'+1,n28,rfl,rfl,⟨⟨by omega⟩,by omega,by omega⟩,by rw[N,Nat.sub_self,List.take_zero];simp,rfl⟩⟩,?_⟩;intro vs g bM a;rw[D] at a;obtain⟨b,k',j,rfl,rfl,⟨a,ar,bF⟩,hb,bI⟩:=a;conv=>cbv
 have ej:=a.eq;intro n32 aL;have br:=aL.eq;conv=>cbv
 intro n33 ao;conv=>cbv
 cases n33 <;> conv=>cbv
 ·have b3:=AW ao;cases b <;> conv=>cbv
  ·obtain⟨al,M⟩:=xR (Aa (BR i' 0 (co w x)));refine AB hE (UJ (xs:=co w x) hB F (by omega) aR M) ?_;conv=>cbv
   intro C1 bz;conv=>cbv
   refine AI ?_;refine .inr ?_
   obtain⟨J2,a5⟩:∃J:List AV->List AL->Nat->Prop,J=fun vs g k=>∃(o:List LR) (k2:Nat) (j2:Int),vs=[.one (.Ab 2 0 0),.one (.Ab 3 0 0),.one (.int .i64 i),.one (.int .i64 j2)]/\g=[.var 0 [.nil,.nil],.var 0 [.AN (.sl AA) 8 0 0 n,.sl AA al],.arr 0 (.sl AA) o]/\
    (AO j2 k2/\i'<k2/\k2<=ts.length/\o.length=ts.length)/\(∀m,o[m]? =(ts[m]?).map fun s=>Aa (if i'<m/\m<k2 then BR i' 0 s else s))/\k=ts.length-k2:=⟨_,rfl⟩
   refine⟨[],[2,3,4,7],[2,3,8],J2,⟨ts.length-(i'+1),by rw[a5];exact⟨O,i'+1,C1,rfl,rfl,⟨⟨by omega⟩,by omega,by omega,by omega⟩,fun m=>by
    have aX:¬(i'<m/\m<i'+1):=by omega
    simp only[aX,if_false];rw[a7,List.getElem?_map],rfl⟩⟩,?_⟩
   intro vs g bN a;rw[a5] at a;obtain⟨o,k2,j2,rfl,rfl,⟨aS,au,bj,aY⟩,hq,bJ⟩:=a;conv=>cbv
   have bt:=aS.eq;intro bO aN;have bs:=aN.eq;conv=>cbv
   intro b6 aq;conv=>cbv
   cases b6 <;> conv=>cbv
   ·have b4:=AW aq;refine⟨fun _=>⟨by omega,by omega,by omega⟩,?_⟩;intro bn ba;conv=>cbv
    rintro bQ Z ⟨bk,bc⟩;conv=>cbv
    intro bP bB;conv=>cbv
    refine AI ?_;refine AH ?_;rintro bm bo ⟨b9,bb⟩;conv=>cbv
    rintro I a1 ⟨bl,bd⟩;conv=>cbv
    refine .inl ⟨((o).drop I).take a1,fun _=>⟨by omega,by omega,⟨_,rfl,by omega,rfl⟩,by show (Z+(((o).drop I).take a1).length)*24<=140737488355328;(try simp only[List.length_take,List.length_drop]);omega⟩,?_⟩;intro (H:List (el (.sl AA))) aF Y;have aw:H=(List.take Z o:List (el (.sl AA)))++(((o).drop I).take a1:List (el (.sl AA))):=Y.1;have ay:aF=List.length (α:=(el (.sl AA))) H:=Y.2;conv=>cbv
    refine g2 rfl ?_;rw[a6];have aa:k'=ts.length:=by omega
    have a8:¬(Bp i' 0 (co w x)||(ts.drop (i'+1)).any (Bp i' 0))=true:=by
     have t:=hb;rw[aa,List.take_of_length_le (by rw[List.length_drop];omega)] at t;rw[<-t];exact Bool.false_ne_true
    obtain⟨w1,e1,af,aU⟩:=Sp ag ah (by omega:i'<w.length);have e2:=e1;unfold Gw at e2;rw[<-f,if_neg a8] at e2;have e3:=Prod.mk.inj e2
    have ab:H=o.take i'++o.drop (i'+1):=by
     rw[aw,show Z=i' by omega,show I=i'+1 by omega,List.take_of_length_le (l:=o.drop (i'+1)) (by rw[List.length_drop];omega)]
    rw[show k2=ts.length by omega] at hq;refine⟨w1,H,al,aF,rfl,rfl,⟨ay,?_,?_⟩,⟨af.red,af.mem,aU,Nat.le_trans af.len G⟩,by rw[EA,e1] at d;exact d⟩
    ·rw[ab,XU (by omega) hq,tw,<-f] at*;rw[e3.1]
    rw[M,em,<-e3.2]
   have b4:=AY aq;refine .inr ?_;refine AH ?_;intro b1 bg;conv=>cbv
   obtain⟨ak,W⟩:=AK (l:=o) (i:=b1) (by omega);refine⟨ak,fun _=>W,?_⟩;try conv=>cbv
   obtain⟨s7,ae⟩:=AK (l:=ts) (i:=k2) (by omega);have aZ:o[k2]? =some ak:=by rw[<-W];congr 1;omega
   have aJ:ak=Aa s7:=by have t:=hq k2;rw[ae,aZ,Option.map_some,if_neg (by omega)] at t;exact Option.some.inj t
   have az:s7.length<=1000000:=by have t:=Kk ag (List.mem_reverse.1 (f ▸ List.mem_of_getElem? ae));have h2:2^w.length<=2^8:=CP G;omega
   obtain⟨aG,U⟩:=xR (Aa (BR i' 0 s7));refine AB hE (UJ aJ F (by omega) az U) ?_;conv=>cbv
   refine AH ?_;intro aE bh;conv=>cbv
   refine⟨aG,fun _=>⟨by show _<List.length (α:=(el (.sl AA))) o;(first | omega | (simp;omega)),by first | exact t1 | exact t2 | exact t4 | simp[Ao,BA,cells]⟩,?_⟩;intro (aj:List (el (.sl AA))) (p:aj=List.set (α:=(el (.sl AA))) o aE aG);have b8:aj.length=o.length:=by rw[p,List.length_set]
   conv=>cbv
   refine g2 rfl ?_;intro n60 bA;conv=>cbv
   refine AI ?_;refine⟨ts.length-(k2+1),?_,?_⟩
   ·omega
   rw[a5];exact⟨aj,k2+1,n60,rfl,rfl,⟨⟨by omega⟩,by omega,by omega,by rw[p,List.length_set];exact aY⟩,by rw[p,show aE=k2 by omega];exact XV hq ae au U,rfl⟩
  rw[a6];have aa:k'=ts.length:=by omega
  have a8:(Bp i' 0 (co w x)||(ts.drop (i'+1)).any (Bp i' 0))=true:=by
   have t:=hb;rw[aa,List.take_of_length_le (by rw[List.length_drop];omega)] at t;exact t.symm
  have e1:Gw i' (w.reverse,co w x)=(w.reverse,co w x):=by
   unfold Gw;rw[<-f,if_pos a8]
  exact⟨w,O,B,n,rfl,rfl,⟨hn,hO,hB⟩,⟨ag,ah,by omega,G⟩,by rw[EA,e1] at d;exact d⟩
 have b3:=AY ao;refine .inr ?_;cases b <;> conv=>cbv
 ·refine AH ?_;intro b0 bf;conv=>cbv
  obtain⟨b7,V⟩:=AK (l:=O) (i:=b0) (by omega);refine⟨b7,fun _=>V,?_⟩;try conv=>cbv
  obtain⟨s4,aI,ad⟩:=Hk (i:=k') a7 (by rw[<-V];congr 1;omega);obtain⟨bp,P⟩:=xB (Bp i' 0 s4);refine AB hE (UB aI F (by omega) P) ?_;conv=>cbv
  intro n35 aM;conv=>cbv
  refine AI ?_;refine⟨ts.length-(k'+1),?_,?_⟩
  ·omega
  rw[D];exact⟨_,k'+1,n35,rfl,rfl,⟨⟨by omega⟩,by omega,by omega⟩,by rw[UW ad ar,<-Bool.or_assoc,<-hb,P];simp,rfl⟩
 intro n35 aM;conv=>cbv
 refine AI ?_;refine⟨ts.length-(k'+1),?_,?_⟩
 ·omega
 rw[D];obtain⟨s4,ad⟩:=AK (l:=ts) (i:=k') (by omega);exact⟨_,k'+1,n35,rfl,rfl,⟨⟨by omega⟩,by omega,by omega⟩,by rw[UW ad ar,<-Bool.or_assoc,<-hb];simp,rfl⟩
end Go.Abs
