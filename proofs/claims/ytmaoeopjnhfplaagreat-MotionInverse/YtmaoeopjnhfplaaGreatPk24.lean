/- Part 25 of a proof. Conditions: each theorem's own. -/
import Derived.Test.YtmaoeopjnhfplaaGreatPk23
set_option linter.all false
set_option maxHeartbeats 8000000
set_option maxRecDepth 20000
open Go.Proofs
namespace Go.Abs
open Go.RowKit
variable {A1 A2 C:LR} {K K2 R S S2:Nat} {T T1 T2:List LR} {TT:List (List Rat)->Prop} {c:Int} {q:Rat} {u v:List (List Rat)} {x y:Re}
theorem Xn (G:EM TT R K S) (hu:TT u) (Q:TT v) (p:T1=tw u) (t:T2=tw v) (j:A1=em u x) (m:A2=em v y) (U:El u S x) (V:El v S y) {A B:LR} (P:T=tw (Bz u v)) (I:A=em (Bz u v) x) (J:B=em (Bz u v) y):CF 245 [.agg (As T1 A1),.agg (As T2 A2)] (.AI [(true,(As T A)),(true,(As T B)),(false,[.int .i64 0])]):=by
 obtain⟨O,h⟩:∃z:List (el Bc),z=[(T,A),(T,B)]:=⟨_,rfl⟩
 have N:O.length=2:=by rw[h];rfl
 have F:O[0]? =some (T,A):=by rw[h];rfl
 have H:O[1]? =some (T,B):=by rw[h];rfl
 refine Av Tryz.func245 fun E M=>?_
 conv=>cbv
 refine⟨[(T1,A1),(T2,A2)],fun _=>⟨rfl,by decide,rfl,⟨rfl,by first | exact t1 | exact t2 | exact t4 | simp[Bg,Bo,cells],⟨rfl,by first | exact t1 | exact t2 | exact t4 | simp[Bg,Bo,cells],trivial⟩⟩⟩,.inr ?_⟩;try conv=>cbv
 refine AB (r:= .AI [(false,[.sl Bc O]),(false,[.int .i64 0])]) M (iI (ns:=[(u,x),(v,y)]) G (by intro n g;simp at g;rcases g with rfl | rfl;exact hu;exact Q) (by rw[p,t,j,m];rfl) (by intro n g;simp at g;rcases g with rfl | rfl;exact U;exact V) (by show 2<=1000000;decide) (by rw[h,P,I,J];rfl)) ?_;try conv=>cbv
 refine AR ?_;conv=>cbv
 obtain⟨w,a⟩:=Ao (l:=O) (i:=0) (by omega);refine⟨w,fun _=>⟨by omega,a⟩,?_⟩;try conv=>cbv
 obtain⟨D,b⟩:=Ao (l:=O) (i:=1) (by omega);refine⟨D,fun _=>⟨by omega,b⟩,?_⟩;try conv=>cbv
 refine g2 rfl ?_;have d:=Option.some.inj (a.symm.trans F);have f:=Option.some.inj (b.symm.trans H);exact AF ⟨⟨rfl,congrArg _ (by rw[d]),congrArg _ (by rw[d]),trivial⟩,⟨rfl,congrArg _ (by rw[f]),congrArg _ (by rw[f]),trivial⟩,t2,trivial⟩
theorem Si (G:EM TT R K S) (hu:TT u) (j:TT v) (f:T1=tw u) (g:T2=tw v) (b:A1=em u x) (d:A2=em v y) (t:El u S x) (w:El v S y) (D:T=tw (Bz u v)) (z:C=em (Bz u v) (x+y)):CF 173 [.agg (As T1 A1),.agg (As T2 A2)] (.AI [(true,(As T C)),(false,[.int .i64 0])]):=by
 obtain⟨a,h,i⟩:=G.toGam.Bz hu j;have l:=G.CV hu a h t;have m:=G.CV j a i w;have hmul:=G.mul a;obtain⟨A,n⟩:=EV (em (Bz u v) x);obtain⟨B,p⟩:=EV (em (Bz u v) y);refine Av Tryz.func173 fun E r=>?_
 conv=>cbv
 refine AB r (Xn G hu j f g b d t w D n p) ?_;conv=>cbv
 refine AR ?_;conv=>cbv
 refine AB r (LZ (G.BJ a) n p l m (by omega) (by omega) z) ?_;conv=>cbv
 refine g2 rfl ?_;exact AF ⟨t3,t2,trivial⟩
theorem Sj (G:EM TT R K S) (hu:TT u) (j:TT v) (f:T1=tw u) (g:T2=tw v) (b:A1=em u x) (d:A2=em v y) (w:El u S x) (z:El v S y) (t:T=tw (Bz u v)) (D:C=em (Bz u v) (x*y)):CF 176 [.agg (As T1 A1),.agg (As T2 A2)] (.AI [(true,(As T C)),(false,[.int .i64 0])]):=by
 obtain⟨a,h,i⟩:=G.toGam.Bz hu j;have l:=G.CV hu a h w;have m:=G.CV j a i z;have hmul:=G.mul a;obtain⟨A,n⟩:=EV (em (Bz u v) x);obtain⟨B,p⟩:=EV (em (Bz u v) y);refine Av Tryz.func176 fun E r=>?_
 conv=>cbv
 refine AB r (Xn G hu j f g b d w z t n p) ?_;conv=>cbv
 refine AR ?_;conv=>cbv
 refine AB r (FY (G.BJ a) t n p l m (by omega) D) ?_;conv=>cbv
 refine g2 rfl ?_;exact AF ⟨t3,t2,trivial⟩
theorem Sk (G:EM TT R K S) (hu:TT u) (f:T1=tw u) (a:A1=em u x) (g:El u S x) (b:C=em u (-x)):CF 30 [.agg (As T1 A1)] (.agg (As T1 C)):=by
 refine Av Tryz.func30 fun E d=>?_
 conv=>cbv
 refine AB d (MG (G.BJ hu) a g b) ?_;conv=>cbv
 refine g2 rfl ?_;exact AF ⟨t3,trivial⟩
theorem So (G:EM TT R K S) (hu:TT u) (h:TT v) (g:T1=tw u) (a:T2=tw v) (d:A1=em u x) (f:A2=em v y) (n:El u S x) (j:El v S y) (m:T=tw (Bz u v)) (l:C=em (Bz u v) (x-y)):CF 178 [.agg (As T1 A1),.agg (As T2 A2)] (.AI [(true,(As T C)),(false,[.int .i64 0])]):=by
 refine Av Tryz.func178 fun E i=>?_
 conv=>cbv
 obtain⟨p,b⟩:=EV (em v (-y));refine AB i (Sk G h a f j b) ?_;conv=>cbv
 refine AB i (Si G hu h g a d b n (j.neg (G.BJ h).red) m l) ?_;conv=>cbv
 refine g2 rfl ?_;exact AF ⟨t3,t2,trivial⟩
theorem Sl (G:EM TT R K S) (hu:TT u) (b:T1=tw u) (a:A1=em u x) (f:El u S x) (hc:c=Bi x):CF 156 [.agg (As T1 A1)] (.one (.int .i64 c)):=by
 refine Av Tryz.func156 fun E d=>?_
 conv=>cbv
 refine AB d (iH (G.BJ hu) b a f ((G.HO hu).mono (Nat.le_add_right _ _)).v0 hc) ?_;conv=>cbv
 exact AF ⟨t2,trivial⟩
theorem Sn (G:EM TT R K S) (hu:TT u) (b:T1=tw u) (a:A1=em u x) (i:El u S x) (hw:TT (Aj u x)) (d:0<=x) (h:T=tw (Aj u x)) (f:C=em (Aj u x) (Re.sqrt x)):CF 216 [.agg (As T1 A1)] (.AI [(true,(As T C)),(false,[.int .i64 0])]):=by
 refine Av Tryz.func216 fun E g=>?_
 conv=>cbv
 refine AB g (Sf (G.BJ hu) (G.BJ hw) (G.ht hw) b a i ((G.HO hu).mono (Nat.le_add_right _ _)) d h f) ?_;conv=>cbv
 refine AR ?_;conv=>cbv
 exact AF ⟨t3,t2,trivial⟩
theorem XK (G:EM TT R K S) (hu:TT u) (n:TT v) (h:T1=tw u) (b:T2=tw v) (d:A1=em u x) (f:A2=em v y) (w:El u S x) (z:El v S y) {i:Re} (t:In v i) (l:y*i=1) (j:El v S i) (g:II v.length R S<=60000000000000) (r:T=tw (Bz u v)) (p:C=em (Bz u v) (x*i)):CF 172 [.agg (As T1 A1),.agg (As T2 A2)] (.AI [(true,(As T C)),(false,[.int .i64 0])]):=by
 refine Av Tryz.func172 fun E m=>?_
 conv=>cbv
 obtain⟨B,a⟩:=EV (em v i);refine AB m (P6 (G.BJ n) b f z t l g a) ?_;conv=>cbv
 refine AR ?_;conv=>cbv
 refine AB m (Sj G hu n h b d a w j r p) ?_;conv=>cbv
 exact AF ⟨t3,t2,trivial⟩
theorem iM (G:EM TT R K S) (hu:TT u) (i:TT v) (h:T1=tw u) (b:T2=tw v) (f:A1=em u x) (a:A2=em v y) (j:El u S x) (l:El v S y) (d:y=0):CF 172 [.agg (As T1 A1),.agg (As T2 A2)] (.AI [(true,(As [] [])),(false,[.int .i64 6])]):=by
 refine Av Tryz.func172 fun E g=>?_
 conv=>cbv
 refine AB (r:= .AI [(false,[.sl AA []]),(false,[.int .i64 6])]) g (XY (G.BJ i) b (a.trans (by rw[d]))) ?_;conv=>cbv
 refine BM ?_;conv=>cbv
 exact AF ⟨⟨rfl,AJ,AJ,trivial⟩,t2,trivial⟩
theorem iL (G:EM TT R K S) (hu:TT u) (m:TT v) (h:T1=tw u) (i:T2=tw v) (f:A1=em u x) (g:A2=em v y) (t:El u S x) (w:El v S y) (z:EM TT R K2 S2) (B:2*(S+K)+1<=S2) (hc:c=Bi (x-y)):CF 94 [.agg (As T1 A1),.agg (As T2 A2)] (.AI [(false,[.int .i64 c]),(false,[.int .i64 0])]):=by
 obtain⟨a,j,l⟩:=G.toGam.Bz hu m;have n:=G.CV hu a j t;have p:=G.CV m a l w;have hmul:=G.mul a;refine Av Tryz.func94 fun E r=>?_
 conv=>cbv
 obtain⟨F,d⟩:=H0 (tw (Bz u v));obtain⟨D,b⟩:=EV (em (Bz u v) (x-y));refine AB r (So G hu m h i f g t w d b) ?_;conv=>cbv
 refine AR ?_;conv=>cbv
 refine AB r (Sl z a d b ((n.sub (G.BJ a).red p).mono (by omega)) hc) ?_;conv=>cbv
 exact AF ⟨t2,t2,trivial⟩
theorem iN (G:EM TT R K S) (hu:TT u) (n:TT v) (g:T1=tw u) (i:T2=tw v) (d:A1=em u x) (f:A2=em v y) (p:El u S x) (r:El v S y) (j:EM TT R K2 S2) (m:2*(S+K)+1<=S2) {c:Bool} (hc:c=true↔x=y):CF 31 [.agg (As T1 A1),.agg (As T2 A2)] (.one (.bool c)):=by
 refine Av Tryz.func31 fun E l=>?_
 conv=>cbv
 obtain⟨w,a⟩:=xI (Bi (x-y));refine AB l (iL G hu n g i d f p r j m a) ?_;conv=>cbv
 refine BM ?_;conv=>cbv
 intro t b;conv=>cbv
 exact AF ⟨⟨rfl,congrArg _ (by rw[Bool.eq_iff_iff,hc,b,beq_iff_eq,a,FV];constructor <;> intro h <;> grind),trivial⟩,trivial⟩
theorem iO (G:EM TT R K S) (hu:TT u) (a:T1=tw u) (b:A1=em u x) (j:El u S x):CF 152 [.agg (As T1 A1)] (.one (.bool true)):=by
 have h:T1.length=u.length:=by rw[a,CI]
 have i:=G.ht hu;have hmul:=G.mul hu;refine Av Tryz.func152 fun E f=>?_
 conv=>cbv
 rintro n ⟨m,f5⟩;conv=>cbv
 intro l d;conv=>cbv
 cases l <;> conv=>cbv
 ·have g:=Mp d;exact absurd g (by omega)
 have g:=Mq d;refine AB f (Np (G.BJ hu) a b j) ?_;conv=>cbv
 refine AB f (Sp (G.BJ hu) a (G.HO hu).vR (G.HO hu).qR) ?_;conv=>cbv
 exact AF ⟨t2,trivial⟩
theorem Py {b1 b2:Bool} {l1 l2:List UInt32} (b:B6 q b1 l1 b2 l2) (a:C=em [] (Re.ofRat q)):CF 146 [.agg (CX b1 l1 b2 l2)] (.agg (As [] C)):=by
 refine Av Tryz.func146 fun E d=>?_
 conv=>cbv
 refine⟨[((b1,l1),(b2,l2))],fun _=>⟨rfl,by decide,rfl,⟨rfl,by first | exact t1 | exact t2 | exact t4 | simp[Bg,Bo,cells],trivial⟩⟩,.inr ?_⟩;try conv=>cbv
 exact AF ⟨⟨rfl,AJ,congrArg _ (by rw[a,Fc,<-b.rp]),trivial⟩,trivial⟩
theorem JL {x:Int} (f: -9223372036854775808<=x/\x<9223372036854775808) (d:C=em [] (Re.ofRat x)):CF 60 [.one (.int .i64 x)] (.agg (As [] C)):=by
 refine Av Tryz.func60 fun E b=>?_
 conv=>cbv
 obtain⟨i,j,g,h,a⟩:=Ca (x:Rat);refine AB b (Gi f rfl a) ?_;conv=>cbv
 refine AB b (Py a d) ?_;conv=>cbv
 exact AF ⟨t3,trivial⟩
theorem XL {n d:Int} (i: -9223372036854775808<=n/\n<9223372036854775808) (h: -9223372036854775808<=d/\d<9223372036854775808) (f:d≠0) (j:q=Rat.divInt n d) (g:C=em [] (Re.ofRat q)):CF 125 [.one (.int .i64 n),.one (.int .i64 d)] (.agg (As [] C)):=by
 refine Av Tryz.func125 fun E b=>?_
 conv=>cbv
 obtain⟨p,r,l,m,a⟩:=Ca q;refine AB b (Sg i h f j a) ?_;conv=>cbv
 refine AB b (Py a g) ?_;conv=>cbv
 exact AF ⟨t3,trivial⟩
end Go.Abs
namespace Go.Abs
open Go.RowKit
variable {A A1 A2 C:LR} {L:List (el Bc)} {T T1 T2 o:List LR} {c:Bool} {i' k:Nat} {ns:List Nu} {q:Rat} {s xs:List Rat} {ts:List (List Rat)}
theorem VG {i:Nat} (h:xs[k]? =some q):EL i k (xs.drop k)=((HM k i&&q !=0)||EL i (k+1) (xs.drop (k+1))):=by
 have a:=J6 h;rw[List.drop_eq_getElem_cons a,EL];rw[List.getElem?_eq_getElem a] at h;rw[Option.some.inj h]
theorem pB {i:Nat} (h:k<xs.length) (hb:HM k i=false):EL i k (xs.drop k)=EL i (k+1) (xs.drop (k+1)):=by
 obtain⟨q,a⟩:=Ao h;rw[VG a,hb];rfl
theorem SQ {i:Nat} (h:xs[k]? =some q):CJ i 0 (xs.take (k+1))=CJ i 0 (xs.take k)++(if HM k i=true then [] else [q]):=by
 have a:=J6 h;rw[Cb h,SO,Nat.zero_add,List.length_take,Nat.min_eq_left (by omega),CJ,CJ]
theorem fI (i:Nat):∀(k:Nat) (l:List Rat),(CJ i k l).length<=l.length
 | _,[]=>Nat.le_refl _
 | k,x::l=>by
  rw[CJ];have:=fI i (k+1) l
  split
  ·rw[List.length_cons];omega
  rw[List.length_cons,List.length_cons];omega
theorem TJ {i:Nat} {b a:Int} (d:b=((k/2^i:Nat):Int)) (f:a=b%2):(HM k i=true↔a=1)/\(HM k i=false↔a=0):=by
 unfold HM
 constructor
 ·rw[beq_iff_eq];omega
 rw[beq_eq_false_iff_ne];omega
theorem Q4 {n:Nat}:(BH n).length<=2↔n<18446744073709551616:=by
 constructor
 ·intro h;have a:=EH (BH n);rw[Br] at a;exact Nat.lt_of_lt_of_le a (Nat.pow_le_pow_right (by decide) (by omega:32*(BH n).length<=64))
 intro h;exact Hy (k:=2) h
theorem LP {b1 b2:Bool} {l1 l2:List UInt32} (h:B6 q b1 l1 b2 l2):Co q↔l1.length<=2/\l2.length<=2:=by
 have a:=h.num.B4;have b:=h.den.B4;rw[a,b,Q4,Q4];unfold Co;rw[Int.natAbs_natCast]
theorem rH (h:GB q=0):q=0:=by
 unfold GB DB at h
 split at h
 ·omega
 split at h
 ·exact Rat.num_eq_zero.1 (by assumption)
 omega
theorem eV {p:Rat->Prop} (h:∀x∈xs.take k,p x) (d:xs[k]? =some q) (b:p q):∀x∈xs.take (k+1),p x:=by
 intro x a;rw[Cb d] at a;rcases List.mem_append.1 a with a | a
 ·exact h x a
 rw[List.mem_singleton.1 a];exact b
theorem Xf {i:Int} (U:A=Be xs) (Z:BG i i') (h6:i'<=60) (hc:c=EL i' 0 xs):CF 271 [.one (.sl AA A),.one (.int .i64 i)] (.one (.bool c)):=by
 have ei:=Z.eq;have X:A.length=xs.length:=by rw[U,List.length_map]
 refine Av Tryz.func271 fun E Y=>?_
 conv=>cbv
 refine .inr ?_;obtain⟨V,a⟩:=xJ fun vs W k=>∃(k':Nat) (j:Int),vs=[.one (.sl AA A),.one (.int .i64 i),.one (.int .i64 j)]/\(BG j k'/\k'<=xs.length)/\EL i' 0 xs=EL i' k' (xs.drop k')/\k=xs.length-k'
 refine⟨[0,1,5],[],V,⟨xs.length-0,by rw[a];exact⟨0,0,rfl,⟨Bv 0,by omega⟩,by rw[List.drop_zero],rfl⟩⟩,?_⟩;intro vs W a5 D;rw[a] at D;obtain⟨k',j,rfl,⟨D,a1⟩,hinv,a2⟩:=D;conv=>cbv
 have ej:=D.eq;rintro n8 ⟨e8,f8⟩;conv=>cbv
 intro n9 Q;conv=>cbv
 cases n9 <;> conv=>cbv
 ·have k9:=BX Q;exact AF ⟨⟨rfl,congrArg _ (by rw[hc,hinv,show k'=xs.length by omega,List.drop_length];rfl),trivial⟩,trivial⟩
 have k9:=BY Q;refine .inr ?_;intro M H;conv=>cbv
 refine AY ?_;obtain⟨d14,t,F⟩:∃d:Nat,d=k'/2^i'/\M=d:=⟨_,rfl,shr_var (p:=k') (e:=i') H (by omega) (by omega) (by show i'<=64;omega)⟩
 intro a6 I;conv=>cbv
 refine AY ?_;have b:=TJ (k:=k') (i:=i') (by rw[F,t]) I;intro N n;conv=>cbv
 cases N <;> conv=>cbv
 ·have x:=BR n;intro m G;conv=>cbv
  refine Ah ?_;refine⟨xs.length-(k'+1),?_,?_⟩
  ·omega
  rw[a];refine⟨k'+1,m,rfl,⟨⟨by omega⟩,by omega⟩,?_,rfl⟩;rw[hinv,pB (by omega) (b.2.2 (by omega))]
 have x:=BS n;obtain⟨P,h⟩:=Ao (l:=A) (i:=k') (by omega);refine⟨P,fun _=>⟨by omega,by rw[show (j).toNat=k' by omega];exact h⟩,?_⟩;try conv=>cbv
 obtain⟨B,w,f,_⟩:=Ko U h;obtain⟨a7,g⟩:=xI (GB B);refine AB Y (XO w g) ?_;conv=>cbv
 intro O r;conv=>cbv
 cases O <;> conv=>cbv
 ·have z:=Es r;intro m G;conv=>cbv
  refine Ah ?_;refine⟨xs.length-(k'+1),?_,?_⟩
  ·omega
  rw[a];refine⟨k'+1,m,rfl,⟨⟨by omega⟩,by omega⟩,?_,rfl⟩;have J:B=0:=rH (by omega);rw[hinv,VG f,J];simp
 have z:=Et r;exact AF ⟨⟨rfl,congrArg _ (by rw[hc,hinv,VG f,b.1.2 x,bne_iff_ne.2 (fun e=>z (by rw[g,e];rfl))];rfl),trivial⟩,trivial⟩
theorem Xo {i:Int} (hA:A=Be xs) (hi:BG i i') (h6:i'<=60) (hl:xs.length<=1000000) (hC:C=Be (CJ i' 0 xs)):CF 272 [.one (.sl AA A),.one (.int .i64 i)] (.one (.sl AA C)):=by
 have ei:=hi.eq;have a7:A.length=xs.length:=by rw[hA,List.length_map]
 refine Av Tryz.func272 fun E hE=>?_
 conv=>cbv
 refine .inr ?_;obtain⟨J0,h⟩:=xJ fun vs bl k=>(∃(k':Nat) (j:Int),vs=[.one (.sl AA A),.one (.int .i64 i),.one .nil,.one (.int .i64 j)]/\bl=[.dead 0]/\(BG j k'/\k'<=xs.length)/\CJ i' 0 (xs.take k')=[]/\k=xs.length-k')\/(∃(o:LR) (n k':Nat) (j:Int),vs=[.one (.sl AA A),.one (.int .i64 i),.one (.BI AA 24 0 0 n),.one (.int .i64 j)]/\bl=[.arr 0 AA o]/\(BG j k'/\k'<=xs.length/\n=o.length)/\o=Be (CJ i' 0 (xs.take k'))/\k=xs.length-k')
 refine⟨[0,1,5,6],[24],J0,⟨xs.length-0,by rw[h];exact .inl ⟨0,0,rfl,rfl,⟨Bv 0,by omega⟩,rfl,rfl⟩⟩,?_⟩;intro vs bl aa U;rw[h] at U;rcases U with⟨k',j,rfl,rfl,⟨U,a2⟩,hinv,a5⟩ |⟨o,n,k',j,rfl,rfl,⟨U,a2,hn⟩,hinv,a5⟩
 ·conv=>cbv
  have ej:=U.eq;rintro n9 ⟨e9,f9⟩;conv=>cbv
  intro O m;conv=>cbv
  cases O <;> conv=>cbv
  ·have J:=BX m;exact AF ⟨⟨rfl,.inr (.inl ⟨_,congrArg _ (by rw[hC];rw[show k'=xs.length by omega,List.take_length] at hinv;rw[hinv];rfl)⟩),trivial⟩,trivial⟩
  have J:=BY m;refine .inr ?_;intro P F;conv=>cbv
  refine AY ?_;obtain⟨d15,t,B⟩:∃d:Nat,d=k'/2^i'/\P=d:=⟨_,rfl,shr_var (p:=k') (e:=i') F (by omega) (by omega) (by show i'<=64;omega)⟩
  intro a6 G;conv=>cbv
  refine AY ?_;have b:=TJ (k:=k') (i:=i') (by rw[B,t]) G;intro Q r;conv=>cbv
  refine .inr ?_;cases Q <;> conv=>cbv
  ·have M:=BR r;intro g D;conv=>cbv
   refine Ah ?_;refine⟨xs.length-(k'+1),?_,?_⟩
   ·omega
   rw[h];obtain⟨qq,H⟩:=Ao (l:=xs) (i:=k') (by omega);exact .inl ⟨k'+1,g,rfl,rfl,⟨⟨by omega⟩,by omega⟩,by rw[SQ H,hinv,if_pos (b.1.2 (by omega))];rfl,rfl⟩
  have M:=BS r
  obtain⟨x,Y,w,I⟩:∃q,B6 q (rp q).1.1 (rp q).1.2 (rp q).2.1 (rp q).2.2/\xs[k']? =some q/\A[k']? =some (rp q):=by
   obtain⟨q,X⟩:=Ao (l:=xs) (i:=k') (by omega);exact⟨q,Hx q,X,by rw[hA,List.getElem?_map,X];rfl⟩
  obtain⟨a,f⟩:=Ao (l:=A) (i:=k') (by omega);refine⟨a,fun _=>⟨by omega,by rw[show (j).toNat=k' by omega];exact f⟩,?_⟩;try conv=>cbv
  refine⟨[((a.1.1,a.1.2),(a.2.1,a.2.2))],fun _=>⟨rfl,by decide,rfl,⟨rfl,by first | exact t1 | exact t2 | exact t4 | simp[Bg,Bo,cells],trivial⟩⟩,.inr ?_⟩;try conv=>cbv
  refine .inl ⟨[((a.1.1,a.1.2),(a.2.1,a.2.2))],fun _=>⟨rfl,by show (1)*64<=140737488355328;(try simp only[List.length_take,List.length_drop]);omega⟩,?_⟩;intro Z a1;conv=>cbv
  intro g D;conv=>cbv
  refine Ah ?_;refine⟨xs.length-(k'+1),?_,?_⟩
  ·omega
  rw[h];have ex:a=rp x:=by have:=f.symm.trans I;exact Option.some.inj this
  refine .inr ⟨_,_,k'+1,g,rfl,rfl,⟨⟨by omega⟩,by omega,a1⟩,?_,rfl⟩;rw[SQ w,if_neg (by rw[b.2.2 (by omega)];decide)];rw[hinv];show _=[rp x];rw[<-ex]
 conv=>cbv
 have ej:=U.eq;have a8:o.length<=xs.length:=by rw[hinv,List.length_map];have:=fI i' 0 (xs.take k');rw[List.length_take] at this;omega
 rintro n9 ⟨e9,f9⟩;conv=>cbv
 intro O m;conv=>cbv
 cases O <;> conv=>cbv
 ·have J:=BX m;exact AF ⟨⟨rfl,.inl ⟨_,rfl,by omega,congrArg _ (by rw[hC,hn,List.drop_zero,List.take_length,hinv,show k'=xs.length by omega,List.take_length])⟩,trivial⟩,trivial⟩
 have J:=BY m;refine .inr ?_;intro P F;conv=>cbv
 refine AY ?_;obtain⟨d15,t,B⟩:∃d:Nat,d=k'/2^i'/\P=d:=⟨_,rfl,shr_var (p:=k') (e:=i') F (by omega) (by omega) (by show i'<=64;omega)⟩
 intro a6 G;conv=>cbv
 refine AY ?_;have b:=TJ (k:=k') (i:=i') (by rw[B,t]) G;intro Q r;conv=>cbv
 refine .inr ?_;cases Q <;> conv=>cbv
 ·have M:=BR r;intro g D;conv=>cbv
  refine Ah ?_;refine⟨xs.length-(k'+1),?_,?_⟩
  ·omega
  rw[h];obtain⟨qq,H⟩:=Ao (l:=xs) (i:=k') (by omega);exact .inr ⟨o,n,k'+1,g,rfl,rfl,⟨⟨by omega⟩,by omega,hn⟩,by rw[SQ H,if_pos (b.1.2 (by omega)),List.append_nil];exact hinv,rfl⟩
 have M:=BS r
 obtain⟨x,Y,w,I⟩:∃q,B6 q (rp q).1.1 (rp q).1.2 (rp q).2.1 (rp q).2.2/\xs[k']? =some q/\A[k']? =some (rp q):=by
  obtain⟨q,X⟩:=Ao (l:=xs) (i:=k') (by omega);exact⟨q,Hx q,X,by rw[hA,List.getElem?_map,X];rfl⟩
 obtain⟨a,f⟩:=Ao (l:=A) (i:=k') (by omega);refine⟨a,fun _=>⟨by omega,by rw[show (j).toNat=k' by omega];exact f⟩,?_⟩;try conv=>cbv
 refine⟨[((a.1.1,a.1.2),(a.2.1,a.2.2))],fun _=>⟨rfl,by decide,rfl,⟨rfl,by first | exact t1 | exact t2 | exact t4 | simp[Bg,Bo,cells],trivial⟩⟩,.inr ?_⟩;try conv=>cbv
 refine .inl ⟨[((a.1.1,a.1.2),(a.2.1,a.2.2))],fun _=>⟨rfl,by (first | rfl | omega),rfl,by show (o.length+1)*64<=140737488355328;(try simp only[List.length_take,List.length_drop]);omega⟩,?_⟩;intro (N:LR) Z z;have V:N=(o:LR)++([((a.1.1,a.1.2),(a.2.1,a.2.2))]:LR):=z.1;have W:Z=List.length (α:=(el AA)) N:=z.2;conv=>cbv
 intro g D;conv=>cbv
 refine Ah ?_;refine⟨xs.length-(k'+1),?_,?_⟩
 ·omega
 rw[h];have ex:a=rp x:=by have:=f.symm.trans I;exact Option.some.inj this
 refine .inr ⟨N,_,k'+1,g,rfl,rfl,⟨⟨by omega⟩,by omega,W⟩,?_,rfl⟩;rw[SQ w,if_neg (by rw[b.2.2 (by omega)];decide)];rw[V,hinv];show _=List.map rp _;rw[List.map_append];show _=Be _++[rp x];rw[<-ex]
theorem MF:CF 223 [.agg (As T1 A1),.one (.int .i64 0),.agg (As T2 A2)] (.agg (As T1 A1)):=by
 refine Av Tryz.func223 fun E a=>?_
 conv=>cbv
 refine AR ?_;conv=>cbv
 exact AF ⟨t3,trivial⟩
theorem jG:CF 223 [.agg (As T1 A1),.one (.int .i64 6),.agg (As T2 A2)] (.agg (As T2 A2)):=by
 refine Av Tryz.func223 fun E a=>?_
 conv=>cbv
 refine BM ?_;conv=>cbv
 exact AF ⟨t3,trivial⟩
theorem sM (h:∀x∈ts.take k,∀q∈x,Co q) (d:ts[k]? =some s) (b:∀q∈s,Co q):∀x∈ts.take (k+1),∀q∈x,Co q:=by
 intro x a;rw[Cb d] at a;rcases List.mem_append.1 a with a | a
 ·exact h x a
 rw[List.mem_singleton.1 a];exact b
def Pm (ts:List (List Rat)) (xs:List Rat):Prop:=(∃q∈xs,¬Co q)\/∃s∈ts,∃q∈s,¬Co q
theorem jF (hT:T=ts.map Be) (hA:A=Be xs) (hc:c=true↔Pm ts xs):CF 224 [.agg (As T A)] (.one (.bool c)):=by
 have aS:A.length=xs.length:=by rw[hA,List.length_map]
 have aT:T.length=ts.length:=by rw[hT,List.length_map]
 refine Av Tryz.func224 fun E hE=>?_
 conv=>cbv
 refine .inr ?_;obtain⟨J0,O⟩:=xJ fun vs x k=>∃(k':Nat) (j:Int),vs=[.one (.BC 1 0 0),.one (.bool false),.one (.int .i64 j)]/\x=[.var 0 [.sl (.sl AA) T,.sl AA A]]/\(BG j k'/\k'<=xs.length)/\(∀q∈xs.take k',Co q)/\k=xs.length-k'
 refine⟨[1,2,3],[1],J0,⟨xs.length-0,by rw[O];exact⟨0,0,rfl,rfl,⟨Bv 0,by omega⟩,by simp,rfl⟩⟩,?_⟩;intro vs x b1 r;rw[O] at r;obtain⟨k',j,rfl,rfl,⟨r,aU⟩,hinv,aV⟩:=r;conv=>cbv
 have ej:=r.eq;rintro b4 ⟨aI,f10⟩;conv=>cbv
 intro ao a2;conv=>cbv
 cases ao <;> conv=>cbv
 ·have ag:=BX a2;refine .inr ?_;obtain⟨J1,P⟩:=xJ fun vs x k=>∃(m':Nat) (m:Int),vs=[.one (.BC 1 0 0),.one (.bool false),.one (.int .i64 m)]/\x=[.var 0 [.sl (.sl AA) T,.sl AA A]]/\(BG m m'/\m'<=ts.length)/\(∀s∈ts.take m',∀q∈s,Co q)/\k=ts.length-m'
  refine⟨[1,2,4],[1],J1,⟨ts.length-0,by rw[P];exact⟨0,0,rfl,rfl,⟨Bv 0,by omega⟩,by simp,rfl⟩⟩,?_⟩;intro vs x b2 r;rw[P] at r;obtain⟨m',m,rfl,rfl,⟨hm,aY⟩,z,aW⟩:=r;conv=>cbv
  have em:=hm.eq;rintro b6 ⟨aL,f37⟩;conv=>cbv
  intro aw a7;conv=>cbv
  cases aw <;> conv=>cbv
  ·have aj:=BX a7;exact AF ⟨⟨rfl,congrArg _ (by rw[Bool.eq_false_iff];intro h;rcases hc.1 h with⟨q,hq,hn⟩ |⟨s,hs,q,hq,hn⟩;exact hn (hinv q (by rw[List.take_of_length_le (by omega)];exact hq));exact hn (z s (by rw[List.take_of_length_le (by omega)];exact hs) q hq)),trivial⟩,trivial⟩
  have aj:=BY a7;refine .inr ?_
  obtain⟨s2,B,W⟩:∃s,T[m']? =some (Be s)/\ts[m']? =some s:=by
   obtain⟨s,hs⟩:=Ao (l:=ts) (i:=m') (by omega);exact⟨s,by rw[hT,List.getElem?_map,hs];rfl,hs⟩
  refine .inr ?_;obtain⟨J2,Q⟩:=xJ fun vs x k=>∃(t:Nat) (p:Int),vs=[.one (.BC 1 0 0),.one (.bool false),.one (.int .i64 m),.one (.int .i64 p)]/\x=[.var 0 [.sl (.sl AA) T,.sl AA A]]/\(BG p t/\t<=s2.length)/\(∀q∈s2.take t,Co q)/\k=s2.length-t
  refine⟨[1,2,4,5],[1],J2,⟨s2.length-0,by rw[Q];exact⟨0,0,rfl,rfl,⟨Bv 0,by omega⟩,by simp,rfl⟩⟩,?_⟩;intro vs x b3 r;rw[Q] at r;obtain⟨t,p,rfl,rfl,⟨hp,aZ⟩,d,aX⟩:=r;conv=>cbv
  have ep:=hp.eq;obtain⟨Y,F⟩:=Ao (l:=T) (i:=m') (by omega);refine⟨Y,fun _=>⟨by omega,by rw[show (m).toNat=m' by omega];exact F⟩,?_⟩;try conv=>cbv
  have ad:Y=Be s2:=Option.some.inj (F.symm.trans B);have b0:Y.length=s2.length:=by rw[ad,List.length_map]
  rintro b8 ⟨aM,f47⟩;conv=>cbv
  intro ax a8;conv=>cbv
  cases ax <;> conv=>cbv
  ·have ak:=BX a8;intro b7 aQ;conv=>cbv
   refine Ah ?_;refine⟨ts.length-(m'+1),?_,?_⟩
   ·omega
   rw[P];exact⟨m'+1,_,rfl,rfl,⟨⟨by omega⟩,by omega⟩,sM z W (by rw[show t=s2.length by omega,List.take_length] at d;exact d),rfl⟩
  have ak:=BY a8;refine .inr ?_;obtain⟨w,G⟩:=Ao (l:=T) (i:=m') (by omega);refine⟨w,fun _=>⟨by omega,by rw[show (m).toNat=m' by omega];exact G⟩,?_⟩;try conv=>cbv
  have Z:w=Be s2:=Option.some.inj (G.symm.trans B);have aH:w.length=s2.length:=by rw[Z,List.length_map]
  obtain⟨b,H⟩:=Ao (l:=w) (i:=t) (by omega);refine⟨b,fun _=>⟨by omega,by rw[show (p).toNat=t by omega];exact H⟩,?_⟩;try conv=>cbv
  obtain⟨q3,af,V,_⟩:=Ko Z H;have g:B6 q3 b.1.1 b.1.2 b.2.1 b.2.2:=af;intro ay M;have aN:=M.eq;have f62:=M.le;conv=>cbv
  have aE:ay=((List.length b.1.2:Nat):Int):=M.eq;intro az aa;conv=>cbv
  cases az <;> conv=>cbv
  ·have al:=Ct aa;intro aA N;have aO:=N.eq;have f68:=N.le;conv=>cbv
   have aF:aA=((List.length b.2.2:Nat):Int):=N.eq;intro aB ab;conv=>cbv
   cases aB <;> conv=>cbv
   ·have an:=Ct ab;intro b9 aR;conv=>cbv
    refine Ah ?_;refine⟨s2.length-(t+1),?_,?_⟩
    ·omega
    rw[Q];exact⟨t+1,_,rfl,rfl,⟨⟨by omega⟩,by omega⟩,eV d V ((LP g).2 ⟨by omega,by omega⟩),rfl⟩
   have an:=Cu ab;exact AF ⟨⟨rfl,congrArg _ (hc.2 (.inr ⟨s2,List.mem_of_getElem? W,q3,List.mem_of_getElem? V,fun h=>by have:=(LP g).1 h;omega⟩)),trivial⟩,trivial⟩
  have al:=Cu aa;exact AF ⟨⟨rfl,congrArg _ (hc.2 (.inr ⟨s2,List.mem_of_getElem? W,q3,List.mem_of_getElem? V,fun h=>by have:=(LP g).1 h;omega⟩)),trivial⟩,trivial⟩
 have ag:=BY a2;refine .inr ?_;obtain⟨a,n⟩:=Ao (l:=A) (i:=k') (by omega);refine⟨a,fun _=>⟨by omega,by rw[show (j).toNat=k' by omega];exact n⟩,?_⟩;try conv=>cbv
 obtain⟨q1,ae,U,_⟩:=Ko hA n;have f:B6 q1 a.1.1 a.1.2 a.2.1 a.2.2:=ae;intro aq I;have aJ:=I.eq;have f21:=I.le;conv=>cbv
 have aC:aq=((List.length a.1.2:Nat):Int):=I.eq;intro ar a5;conv=>cbv
 cases ar <;> conv=>cbv
 ·have ah:=Ct a5;obtain⟨X,D⟩:=Ao (l:=A) (i:=k') (by omega);refine⟨X,fun _=>⟨by omega,by rw[show (j).toNat=k' by omega];exact D⟩,?_⟩;try conv=>cbv
  have a1:=Option.some.inj (D.symm.trans n);have aG:List.length X.2.2=List.length a.2.2:=by rw[a1]
  intro au J;have aK:=J.eq;have f31:=J.le;conv=>cbv
  have aD:au=((List.length X.2.2:Nat):Int):=J.eq;intro av a6;conv=>cbv
  cases av <;> conv=>cbv
  ·have ai:=Ct a6;intro b5 aP;conv=>cbv
   refine Ah ?_;refine⟨xs.length-(k'+1),?_,?_⟩
   ·omega
   rw[O];exact⟨k'+1,_,rfl,rfl,⟨⟨by omega⟩,by omega⟩,eV hinv U ((LP f).2 ⟨by omega,by omega⟩),rfl⟩
  have ai:=Cu a6;exact AF ⟨⟨rfl,congrArg _ (hc.2 (.inl ⟨q1,List.mem_of_getElem? U,fun h=>by have:=(LP f).1 h;omega⟩)),trivial⟩,trivial⟩
 have ah:=Cu a5;exact AF ⟨⟨rfl,congrArg _ (hc.2 (.inl ⟨q1,List.mem_of_getElem? U,fun h=>by have:=(LP f).1 h;omega⟩)),trivial⟩,trivial⟩
theorem iJ (hT:T=ts.map Be) (hA:A=Be xs) (h1:∀q∈xs,Co q) (h2:∀s∈ts,∀q∈s,Co q):CF 226 [.agg (As T A)] (.one (.bool true)):=by
 have aY:A.length=xs.length:=by rw[hA,List.length_map]
 have aZ:T.length=ts.length:=by rw[hT,List.length_map]
 refine Av Tryz.func226 fun E hE=>?_
 conv=>cbv
 refine .inr ?_;obtain⟨J0,O⟩:=xJ fun vs w k=>∃(k':Nat) (j:Int),vs=[.one (.BC 1 0 0),.one (.bool false),.one (.int .i64 j)]/\w=[.var 0 [.sl (.sl AA) T,.sl AA A]]/\(BG j k'/\k'<=xs.length)/\k=xs.length-k'
 refine⟨[1,2,3],[1],J0,⟨xs.length-0,by rw[O];exact⟨0,0,rfl,rfl,⟨Bv 0,by omega⟩,rfl⟩⟩,?_⟩;intro vs w b7 r;rw[O] at r;obtain⟨k',j,rfl,rfl,⟨r,b0⟩,b1⟩:=r;conv=>cbv
 have ej:=r.eq;rintro n9 ⟨e9,f9⟩;conv=>cbv
 intro au Z;conv=>cbv
 cases au <;> conv=>cbv
 ·have aj:=BX Z;refine .inr ?_;obtain⟨J1,P⟩:=xJ fun vs w k=>∃(m':Nat) (m:Int),vs=[.one (.BC 1 0 0),.one (.bool false),.one (.int .i64 m)]/\w=[.var 0 [.sl (.sl AA) T,.sl AA A]]/\(BG m m'/\m'<=ts.length)/\k=ts.length-m'
  refine⟨[1,2,4],[1],J1,⟨ts.length-0,by rw[P];exact⟨0,0,rfl,rfl,⟨Bv 0,by omega⟩,rfl⟩⟩,?_⟩;intro vs w b8 r;rw[P] at r;obtain⟨m',m,rfl,rfl,⟨hm,b4⟩,b2⟩:=r;conv=>cbv
  have em:=hm.eq;rintro bb ⟨aR,f36⟩;conv=>cbv
  intro az a5;conv=>cbv
  cases az <;> conv=>cbv
  ·have an:=BX a5;exact AF ⟨t2,trivial⟩
  have an:=BY a5;refine .inr ?_
  obtain⟨s2,z,ai⟩:∃s,T[m']? =some (Be s)/\ts[m']? =some s:=by
   obtain⟨s,hs⟩:=Ao (l:=ts) (i:=m') (by omega);exact⟨s,by rw[hT,List.getElem?_map,hs];rfl,hs⟩
  refine .inr ?_;obtain⟨J2,Q⟩:=xJ fun vs w k=>∃(h:Nat) (p:Int),vs=[.one (.BC 1 0 0),.one (.bool false),.one (.int .i64 m),.one (.int .i64 p)]/\w=[.var 0 [.sl (.sl AA) T,.sl AA A]]/\(BG p h/\h<=s2.length)/\k=s2.length-h
  refine⟨[1,2,4,5],[1],J2,⟨s2.length-0,by rw[Q];exact⟨0,0,rfl,rfl,⟨Bv 0,by omega⟩,rfl⟩⟩,?_⟩;intro vs w b9 r;rw[Q] at r;obtain⟨h,p,rfl,rfl,⟨hp,b5⟩,b3⟩:=r;conv=>cbv
  have ep:=hp.eq;obtain⟨V,D⟩:=Ao (l:=T) (i:=m') (by omega);refine⟨V,fun _=>⟨by omega,by rw[show (m).toNat=m' by omega];exact D⟩,?_⟩;try conv=>cbv
  have ad:V=Be s2:=Option.some.inj (D.symm.trans z);have b6:V.length=s2.length:=by rw[ad,List.length_map]
  rintro bd ⟨aS,f46⟩;conv=>cbv
  intro aA a6;conv=>cbv
  cases aA <;> conv=>cbv
  ·have ao:=BX a6;intro bc aW;conv=>cbv
   refine Ah ?_;refine⟨ts.length-(m'+1),?_,?_⟩
   ·omega
   rw[P];exact⟨m'+1,_,rfl,rfl,⟨⟨by omega⟩,by omega⟩,rfl⟩
  have ao:=BY a6;refine .inr ?_;obtain⟨n,f⟩:=Ao (l:=T) (i:=m') (by omega);refine⟨n,fun _=>⟨by omega,by rw[show (m).toNat=m' by omega];exact f⟩,?_⟩;try conv=>cbv
  have H:n=Be s2:=Option.some.inj (f.symm.trans z);have aN:n.length=s2.length:=by rw[H,List.length_map]
  obtain⟨b,g⟩:=Ao (l:=n) (i:=h) (by omega);refine⟨b,fun _=>⟨by omega,by rw[show (p).toNat=h by omega];exact g⟩,?_⟩;try conv=>cbv
  obtain⟨q3,ah,af,_⟩:=Ko H g;have ab:B6 q3 b.1.1 b.1.2 b.2.1 b.2.2:=ah;have aM:=(LP ab).1 (h2 s2 (List.mem_of_getElem? ai) q3 (List.mem_of_getElem? af));intro aB M;have aT:=M.eq;have f60:=M.le;conv=>cbv
  have aH:aB=((List.length b.1.2:Nat):Int):=M.eq;intro aC a7;conv=>cbv
  cases aC <;> conv=>cbv
  ·have aq:=Ct a7;obtain⟨W,F⟩:=Ao (l:=T) (i:=m') (by omega);refine⟨W,fun _=>⟨by omega,by rw[show (m).toNat=m' by omega];exact F⟩,?_⟩;try conv=>cbv
   have x:=Option.some.inj (F.symm.trans f);have aO:W.length=s2.length:=by rw[x,H,List.length_map]
   obtain⟨t,G⟩:=Ao (l:=W) (i:=h) (by omega);refine⟨t,fun _=>⟨by omega,by rw[show (p).toNat=h by omega];exact G⟩,?_⟩;try conv=>cbv
   have Y:=Option.some.inj ((show n[h]? =some t by rw[<-x];exact G).symm.trans g);have aK:List.length t.2.2=List.length b.2.2:=by rw[Y]
   intro aD N;have aU:=N.eq;have f73:=N.le;conv=>cbv
   have aI:aD=((List.length t.2.2:Nat):Int):=N.eq;intro aE a8;conv=>cbv
   cases aE <;> conv=>cbv
   ·have ar:=Ct a8;intro bf aX;conv=>cbv
    refine Ah ?_;refine⟨s2.length-(h+1),?_,?_⟩
    ·omega
    rw[Q];exact⟨h+1,_,rfl,rfl,⟨⟨by omega⟩,by omega⟩,rfl⟩
   have ar:=Cu a8
   exfalso;omega
  have aq:=Cu a7
  exfalso;omega
 have aj:=BY Z;refine .inr ?_;obtain⟨a,d⟩:=Ao (l:=A) (i:=k') (by omega);refine⟨a,fun _=>⟨by omega,by rw[show (j).toNat=k' by omega];exact d⟩,?_⟩;try conv=>cbv
 obtain⟨q1,ag,ae,_⟩:=Ko hA d;have aa:B6 q1 a.1.1 a.1.2 a.2.1 a.2.2:=ag;have aL:=(LP aa).1 (h1 q1 (List.mem_of_getElem? ae));intro av I;have aP:=I.eq;have f20:=I.le;conv=>cbv
 have aF:av=((List.length a.1.2:Nat):Int):=I.eq;intro aw a1;conv=>cbv
 cases aw <;> conv=>cbv
 ·have ak:=Ct a1;obtain⟨U,B⟩:=Ao (l:=A) (i:=k') (by omega);refine⟨U,fun _=>⟨by omega,by rw[show (j).toNat=k' by omega];exact B⟩,?_⟩;try conv=>cbv
  have X:=Option.some.inj (B.symm.trans d);have aJ:List.length U.2.2=List.length a.2.2:=by rw[X]
  intro ax J;have aQ:=J.eq;have f30:=J.le;conv=>cbv
  have aG:ax=((List.length U.2.2:Nat):Int):=J.eq;intro ay a2;conv=>cbv
  cases ay <;> conv=>cbv
  ·have al:=Ct a2;intro ba aV;conv=>cbv
   refine Ah ?_;refine⟨xs.length-(k'+1),?_,?_⟩
   ·omega
   rw[O];exact⟨k'+1,_,rfl,rfl,⟨⟨by omega⟩,by omega⟩,rfl⟩
  have al:=Cu a2
  exfalso;omega
 have ak:=Cu a1
 exfalso;omega
theorem XF (t:L=ns.map nm) (z:∀n∈ns,(∀q∈co n.1 n.2,Co q)/\∀s∈n.1,∀q∈s,Co q):CF 154 [.one (.sl Bc L)] (.one (.bool true)):=by
 have D:L.length=ns.length:=by rw[t,List.length_map]
 refine Av Tryz.func154 fun E B=>?_
 conv=>cbv
 refine .inr ?_;obtain⟨w,b⟩:=xJ fun vs x k=>∃(k':Nat) (j:Int),vs=[.one (.sl Bc L),.one (.int .i64 j)]/\(BG j k'/\k'<=L.length)/\k=L.length-k'
 refine⟨[0,3],[],w,⟨L.length-0,by rw[b];exact⟨0,0,rfl,⟨Bv 0,by omega⟩,rfl⟩⟩,?_⟩;intro vs x J f;rw[b] at f;obtain⟨k',j,rfl,⟨f,F⟩,G⟩:=f;conv=>cbv
 have O:=f.eq;rintro Q ⟨N,f6⟩;conv=>cbv
 intro M r;conv=>cbv
 cases M <;> conv=>cbv
 ·have I:=BX r;exact AF ⟨t2,trivial⟩
 have I:=BY r;refine .inr ?_;obtain⟨p,a⟩:=Ao (l:=L) (i:=k') (by omega);refine⟨p,fun _=>⟨by omega,by rw[show (j).toNat=k' by omega];exact a⟩,?_⟩;try conv=>cbv
 obtain⟨u,y,h,m,g⟩:=GK t a;have d:=z _ (List.mem_of_getElem? g);refine AB B (iJ (ts:=u.reverse) (xs:=co u y) h m d.1 (fun s H=>d.2 s (List.mem_reverse.1 H))) ?_;conv=>cbv
 refine AR ?_;conv=>cbv
 intro U P;conv=>cbv
 refine Ah ?_;refine⟨L.length-(k'+1),?_,?_⟩
 ·omega
 rw[b];exact⟨k'+1,_,rfl,⟨⟨by omega⟩,by omega⟩,rfl⟩
theorem iB {i:Int} {n:Nu} (F:L=ns.map nm) (m:ns≠[]) (N:BG i i') (O:n=EG ns i') (M:T=tw n.1) (J:A=em n.1 n.2):CF 155 [.one (.sl Bc L),.one (.int .i64 i)] (.agg (As T A)):=by
 have I:=N.eq;have j:L.length=ns.length:=by rw[F,List.length_map]
 have G:0<ns.length:=List.length_pos_iff.2 m;refine Av Tryz.func155 fun E V=>?_
 conv=>cbv
 rintro W ⟨U,f6⟩;conv=>cbv
 intro Q D;conv=>cbv
 cases Q <;> conv=>cbv
 ·have H:=BR D;intro w b;conv=>cbv
  cases w <;> conv=>cbv
  ·have d:=BX b;rintro P ⟨g,f16⟩;conv=>cbv
   intro f h;conv=>cbv
   refine AY ?_;have B:f=((i'%L.length:Nat):Int):=by rw[h,I,g];exact (Int.natCast_emod _ _).symm
   obtain⟨x,a⟩:=Ao (l:=L) (i:=(i'%L.length)) (by exact Nat.mod_lt _ (by omega));refine⟨x,fun _=>⟨by omega,by rw[show (f).toNat=(i'%L.length) by omega];exact a⟩,?_⟩;try conv=>cbv
   obtain⟨u,y,r,t,p⟩:=GK F a;have z:n=(u,y):=by rw[O];unfold EG;rw[<-j,List.getD_eq_getElem?_getD,p];rfl
   exact AF ⟨⟨rfl,congrArg _ (by rw[M,z];exact r.symm),congrArg _ (by rw[J,z];exact t.symm),trivial⟩,trivial⟩
  have d:=BY b;exact absurd d (by omega)
 have H:=BS D;exact absurd H (by omega)
theorem oV {i:Nat} (b:∀m,o[m]? =(ts[m]?).map fun s=>Be (if i<m/\m<k then CJ i 0 s else s)) (a:ts[k]? =some s) (d:i<k) {w:LR} (hw:w=Be (CJ i 0 s)):
  ∀m,(o.set k w)[m]? =(ts[m]?).map fun s=>Be (if i<m/\m<k+1 then CJ i 0 s else s):=by
 intro m
 by_cases e:k=m
 ·subst e;have f:=J6 a
  have g:k<o.length:=by
   have:=b k;rw[a] at this;exact J6 this
  rw[List.getElem?_set_self g,a,Option.map_some,if_pos ⟨d,by omega⟩,hw]
 rw[List.getElem?_set_ne e,b m];have:(i<m/\m<k+1)↔(i<m/\m<k):=by omega
 simp only[this]
theorem oU {i:Nat} (d:i<ts.length) (b:∀m,o[m]? =(ts[m]?).map fun s=>Be (if i<m/\m<ts.length then CJ i 0 s else s)):o.take i++o.drop (i+1)=(ts.take i++(ts.drop (i+1)).map (CJ i 0)).map Be:=by
 have e:o=(ts.take (i+1)++(ts.drop (i+1)).map (CJ i 0)).map Be:=by
  apply List.ext_getElem?;intro m;rw[b m,List.getElem?_map,List.getElem?_append,List.length_take,Nat.min_eq_left (by omega)]
  by_cases hm:m<i+1
  ·rw[if_pos hm,List.getElem?_take,if_pos hm];cases ts[m]? with
   | none=>rfl
   | some s=>simp only[Option.map_some];rw[if_neg (by omega)]
  rw[if_neg hm,List.getElem?_map,List.getElem?_drop,show i+1+(m-(i+1))=m by omega]
  by_cases a:m<ts.length
  ·rw[List.getElem?_eq_getElem a];simp only[Option.map_some];rw[if_pos ⟨by omega,a⟩]
  rw[List.getElem?_eq_none (by omega)];rfl
 have hlen:(ts.take (i+1)).length=i+1:=by rw[List.length_take];omega
 rw[e,List.map_append,List.map_append,List.take_append_of_le_length (by rw[List.length_map,hlen];omega),List.drop_left' (by rw[List.length_map,hlen]),<-List.map_take,List.take_take,Nat.min_eq_left (by omega)]
theorem Xz {i:Nat} {f:List Rat->Bool} (a:ts[k]? =some s) (b:i<k):((ts.drop (i+1)).take (k+1-(i+1))).any f=(((ts.drop (i+1)).take (k-(i+1))).any f||f s):=by
 rw[show k+1-(i+1)=k-(i+1)+1 by omega,Cb (l:=ts.drop (i+1)) (i:=k-(i+1)) (x:=s) (by rw[List.getElem?_drop,show i+1+(k-(i+1))=k by omega];exact a)];simp
theorem XS {u Z:List (List Rat)} {x:Re} (h:BF u) (hx:In u x) (hl:u.length<=8) (hw:I9 u.length (u.reverse,co u x)=(Z.reverse,co Z x)) (hT:T=tw u) (hA:A=em u x) (aS:T2=tw Z) (hC:C=em Z x):CF 225 [.agg (As T A)] (.agg (As T2 C)):=by
 have bL:T.length=u.length:=by rw[hT,CI]
 refine Av Tryz.func225 fun E hE=>?_
 conv=>cbv
 refine⟨[],fun _=>⟨rfl,by decide,rfl,trivial⟩,.inl ?_⟩;try conv=>cbv
 refine .inl ⟨T,fun _=>⟨rfl,by (first | rfl | omega),rfl,by show (0+T.length)*24<=140737488355328;(try simp only[List.length_take,List.length_drop]);omega⟩,?_⟩;intro (aj:List (el (.sl AA))) b7 X;have Q:aj=([]:List (el (.sl AA)))++(T:List (el (.sl AA))):=X.1;have az:b7=List.length (α:=(el (.sl AA))) aj:=X.2;conv=>cbv
 refine g2 rfl ?_;intro bW aM;have bA:=aM.eq;conv=>cbv
 have aX:List.length aj=List.length T:=by rw[Q];rfl
 intro b8 bE;conv=>cbv
 refine Ah ?_;refine .inr ?_
 obtain⟨J0,a5⟩:∃J:List AV->List BA->Nat->Prop,J=fun vs g k=>∃(w:List (List Rat)) (O:List LR) (B:LR) (n j:Nat) (i:Int),vs=[.one (.BC 2 0 0),.one (.BC 3 0 0),.one (.int .i64 i)]/\g=[.var 0 [.nil,.nil],.var 0 [.BI (.sl AA) 8 0 0 n,.sl AA B],.arr 0 (.sl AA) O]/\
  (BG (i+1) j/\n=O.length/\O=tw w/\B=em w x)/\(BF w/\In w x/\j<=w.length/\w.length<=8)/\I9 j (w.reverse,co w x)=(Z.reverse,co Z x)/\k=j:=⟨_,rfl⟩
 refine⟨[2,3,4],[2,3,8],J0,⟨u.length,by rw[a5];exact⟨u,_,_,_,u.length,b8,rfl,rfl,⟨⟨by omega⟩,az,by rw[Q,hT];rfl,hA⟩,⟨h,hx,Nat.le_refl _,hl⟩,hw,rfl⟩⟩,?_⟩;intro vs g bT a;rw[a5] at a;obtain⟨w,O,B,n,j,i,rfl,rfl,⟨hi,hn,hO,hB⟩,⟨ah,ai,bO,G⟩,d,bP⟩:=a;conv=>cbv
 have ei:=hi.eq;obtain⟨i',bM⟩:=xN (j-1);intro b9 aq;conv=>cbv
 cases b9 <;> conv=>cbv
 ·have b4:=Gm aq;exact AF ⟨⟨rfl,.inl ⟨_,rfl,by omega,congrArg _ (by rw[aS,hn,List.drop_zero,List.take_length,hO];have:=d;rw[show j=0 by omega,I9] at this;rw[tw,tw,(Prod.mk.inj this).1])⟩,congrArg _ (by rw[hC,hB];have:=d;rw[show j=0 by omega,I9] at this;rw[em,em,(Prod.mk.inj this).2]),trivial⟩,trivial⟩
 have b4:=Gn aq
 obtain⟨K1,a7⟩:∃J:List AV->List BA->Prop,J=fun vs g=>∃(r:List (List Rat)) (O2:List LR) (B2:LR) (n2:Nat),vs=[.one (.BC 2 0 0),.one (.BC 3 0 0),.one (.int .i64 i)]/\g=[.var 0 [.nil,.nil],.var 0 [.BI (.sl AA) 8 0 0 n2,.sl AA B2],.arr 0 (.sl AA) O2]/\
  (n2=O2.length/\O2=tw r/\B2=em r x)/\(BF r/\In r x/\i'<=r.length/\r.length<=8)/\I9 i' (r.reverse,co r x)=(Z.reverse,co Z x):=⟨_,rfl⟩
 refine .inl ⟨[2,3,4],[2,3,8],K1,?_,?_⟩
 ·intro vs g a;rw[a7] at a;obtain⟨r,O2,B2,n2,rfl,rfl,⟨aY,aR,aQ⟩,⟨aE,aF,ax,aD⟩,aC⟩:=a;conv=>cbv
  intro ba bF;conv=>cbv
  refine Ah ?_;refine⟨i',?_,?_⟩
  ·omega
  rw[a5];exact⟨r,O2,B2,n2,i',ba,rfl,rfl,⟨⟨by omega⟩,aY,aR,aQ⟩,⟨aE,aF,ax,aD⟩,aC,rfl⟩
 try conv=>cbv
 have aV:j=i'+1:=by omega
 subst aV;have F:BG i i':=⟨by omega⟩;obtain⟨ts,f⟩:∃z:List (List Rat),z=w.reverse:=⟨_,rfl⟩
 have a8:O=ts.map Be:=by rw[hO,f];rfl
 have bS:ts.length=w.length:=by rw[f,List.length_reverse]
 have bK:O.length=ts.length:=by rw[a8,List.length_map]
 have aT:(co w x).length<=1000000:=by rw[EF ai];exact Nat.le_trans (C0 G) (by decide)
 obtain⟨aJ,N⟩:=xB (EL i' 0 (co w x));refine AB hE (Xf (xs:=co w x) hB F (by omega) N) ?_;conv=>cbv
 intro bb bG;conv=>cbv
 refine Ah ?_;refine .inr ?_
 obtain⟨J1,D⟩:∃J:List AV->List BA->Nat->Prop,J=fun vs g k=>∃(b:Bool) (k':Nat) (j:Int),vs=[.one (.BC 2 0 0),.one (.BC 3 0 0),.one (.int .i64 i),.one (.bool b),.one (.int .i64 j)]/\g=[.var 0 [.nil,.nil],.var 0 [.BI (.sl AA) 8 0 0 n,.sl AA B],.arr 0 (.sl AA) O]/\
  (BG j k'/\i'<k'/\k'<=ts.length)/\b=(EL i' 0 (co w x)||((ts.drop (i'+1)).take (k'-(i'+1))).any (EL i' 0))/\k=ts.length-k':=⟨_,rfl⟩
 refine⟨[2,3,4,5,6],[2,3,8],J1,⟨ts.length-(i'+1),by rw[D];exact⟨aJ,i'+1,bb,rfl,rfl,⟨⟨by omega⟩,by omega,by omega⟩,by rw[N,Nat.sub_self,List.take_zero];simp,rfl⟩⟩,?_⟩;intro vs g bU a;rw[D] at a;obtain⟨b,k',j,rfl,rfl,⟨a,av,bN⟩,hb,bQ⟩:=a;conv=>cbv
 have ej:=a.eq;intro bX aN;have bB:=aN.eq;conv=>cbv
 intro bc ar;conv=>cbv
 cases bc <;> conv=>cbv
 ·have b5:=BX ar;cases b <;> conv=>cbv
  ·obtain⟨ao,M⟩:=xR (Be (CJ i' 0 (co w x)));refine AB hE (Xo (xs:=co w x) hB F (by omega) aT M) ?_;conv=>cbv
   intro E6 bH;conv=>cbv
   refine Ah ?_;refine .inr ?_
   obtain⟨J2,a6⟩:∃J:List AV->List BA->Nat->Prop,J=fun vs g k=>∃(o:List LR) (k2:Nat) (j2:Int),vs=[.one (.BC 2 0 0),.one (.BC 3 0 0),.one (.int .i64 i),.one (.int .i64 j2)]/\g=[.var 0 [.nil,.nil],.var 0 [.BI (.sl AA) 8 0 0 n,.sl AA ao],.arr 0 (.sl AA) o]/\
    (BG j2 k2/\i'<k2/\k2<=ts.length/\o.length=ts.length)/\(∀m,o[m]? =(ts[m]?).map fun s=>Be (if i'<m/\m<k2 then CJ i' 0 s else s))/\k=ts.length-k2:=⟨_,rfl⟩
   refine⟨[2,3,4,7],[2,3,8],J2,⟨ts.length-(i'+1),by rw[a6];exact⟨O,i'+1,E6,rfl,rfl,⟨⟨by omega⟩,by omega,by omega,by omega⟩,fun m=>by
    have aZ:¬(i'<m/\m<i'+1):=by omega
    simp only[aZ,if_false];rw[a8,List.getElem?_map],rfl⟩⟩,?_⟩
   intro vs g bV a;rw[a6] at a;obtain⟨o,k2,j2,rfl,rfl,⟨aU,aw,br,b0⟩,hq,bR⟩:=a;conv=>cbv
   have bD:=aU.eq;intro bY aP;have bC:=aP.eq;conv=>cbv
   intro bd au;conv=>cbv
   cases bd <;> conv=>cbv
   ·have b6:=BX au;refine⟨fun _=>⟨by omega,by omega,by omega⟩,?_⟩;intro bw bk;conv=>cbv
    rintro c0 a1 ⟨bs,bm⟩;conv=>cbv
    intro bZ bJ;conv=>cbv
    refine Ah ?_;refine AY ?_;rintro bu bx ⟨bj,bl⟩;conv=>cbv
    rintro I a2 ⟨bt,bn⟩;conv=>cbv
    refine .inl ⟨((o).drop I).take a2,fun _=>⟨by omega,by omega,⟨_,rfl,by omega,rfl⟩,by show (a1+(((o).drop I).take a2).length)*24<=140737488355328;(try simp only[List.length_take,List.length_drop]);omega⟩,?_⟩;intro (H:List (el (.sl AA))) aH Y;have ay:H=(List.take a1 o:List (el (.sl AA)))++(((o).drop I).take a2:List (el (.sl AA))):=Y.1;have aA:aH=List.length (α:=(el (.sl AA))) H:=Y.2;conv=>cbv
    refine g2 rfl ?_;rw[a7];have ab:k'=ts.length:=by omega
    have aa:¬(EL i' 0 (co w x)||(ts.drop (i'+1)).any (EL i' 0))=true:=by
     have t:=hb;rw[ab,List.take_of_length_le (by rw[List.length_drop];omega)] at t;rw[<-t];exact Bool.false_ne_true
    obtain⟨w1,e1,ag,aW⟩:=eo ah ai (by omega:i'<w.length);have e2:=e1;unfold NW at e2;rw[<-f,if_neg aa] at e2;have e3:=Prod.mk.inj e2
    have ad:H=o.take i'++o.drop (i'+1):=by
     rw[ay,show a1=i' by omega,show I=i'+1 by omega,List.take_of_length_le (l:=o.drop (i'+1)) (by rw[List.length_drop];omega)]
    rw[show k2=ts.length by omega] at hq;refine⟨w1,H,ao,aH,rfl,rfl,⟨aA,?_,?_⟩,⟨ag.red,ag.mem,aW,Nat.le_trans ag.len G⟩,by rw[I9,e1] at d;exact d⟩
    ·rw[ad,oU (by omega) hq,tw,<-f] at*;rw[e3.1]
    rw[M,em,<-e3.2]
   have b6:=BY au;refine .inr ?_;refine AY ?_;intro b3 bp;conv=>cbv
   obtain⟨an,W⟩:=Ao (l:=o) (i:=b3) (by omega);refine⟨an,fun _=>W,?_⟩;try conv=>cbv
   obtain⟨s7,af⟩:=Ao (l:=ts) (i:=k2) (by omega);have b1:o[k2]? =some an:=by rw[<-W];congr 1;omega
   have aL:an=Be s7:=by have t:=hq k2;rw[af,b1,Option.map_some,if_neg (by omega)] at t;exact Option.some.inj t
   have aB:s7.length<=1000000:=by have t:=Vb ah (List.mem_reverse.1 (f ▸ List.mem_of_getElem? af));have h2:2^w.length<=2^8:=C0 G;omega
   obtain⟨aI,U⟩:=xR (Be (CJ i' 0 s7));refine AB hE (Xo aL F (by omega) aB U) ?_;conv=>cbv
   refine AY ?_;intro aG bq;conv=>cbv
   refine⟨aI,fun _=>⟨by show _<List.length (α:=(el (.sl AA))) o;(first | omega | (simp;omega)),by first | exact t1 | exact t2 | exact t4 | simp[Bg,Bo,cells]⟩,?_⟩;intro (ak:List (el (.sl AA))) (p:ak=List.set (α:=(el (.sl AA))) o aG aI);have bh:ak.length=o.length:=by rw[p,List.length_set]
   conv=>cbv
   refine g2 rfl ?_;intro bf bI;conv=>cbv
   refine Ah ?_;refine⟨ts.length-(k2+1),?_,?_⟩
   ·omega
   rw[a6];exact⟨ak,k2+1,bf,rfl,rfl,⟨⟨by omega⟩,by omega,by omega,by rw[p,List.length_set];exact b0⟩,by rw[p,show aG=k2 by omega];exact oV hq af aw U,rfl⟩
  rw[a7];have ab:k'=ts.length:=by omega
  have aa:(EL i' 0 (co w x)||(ts.drop (i'+1)).any (EL i' 0))=true:=by
   have t:=hb;rw[ab,List.take_of_length_le (by rw[List.length_drop];omega)] at t;exact t.symm
  have e1:NW i' (w.reverse,co w x)=(w.reverse,co w x):=by
   unfold NW;rw[<-f,if_pos aa]
  exact⟨w,O,B,n,rfl,rfl,⟨hn,hO,hB⟩,⟨ah,ai,by omega,G⟩,by rw[I9,e1] at d;exact d⟩
 have b5:=BY ar;refine .inr ?_;cases b <;> conv=>cbv
 ·refine AY ?_;intro b2 bo;conv=>cbv
  obtain⟨bg,V⟩:=Ao (l:=O) (i:=b2) (by omega);refine⟨bg,fun _=>V,?_⟩;try conv=>cbv
  obtain⟨s4,aK,ae⟩:=Lq (i:=k') a8 (by rw[<-V];congr 1;omega);obtain⟨bz,P⟩:=xB (EL i' 0 s4);refine AB hE (Xf aK F (by omega) P) ?_;conv=>cbv
  intro al aO;conv=>cbv
  refine Ah ?_;refine⟨ts.length-(k'+1),?_,?_⟩
  ·omega
  rw[D];exact⟨_,k'+1,al,rfl,rfl,⟨⟨by omega⟩,by omega,by omega⟩,by rw[Xz ae av,<-Bool.or_assoc,<-hb,P];simp,rfl⟩
 intro al aO;conv=>cbv
 refine Ah ?_;refine⟨ts.length-(k'+1),?_,?_⟩
 ·omega
 rw[D];obtain⟨s4,ae⟩:=Ao (l:=ts) (i:=k') (by omega);exact⟨_,k'+1,al,rfl,rfl,⟨⟨by omega⟩,by omega,by omega⟩,by rw[Xz ae av,<-Bool.or_assoc,<-hb];simp,rfl⟩
end Go.Abs
