/- Part 43 of a proof. Conditions: each theorem's own. -/
import Derived.Test.YtmaoeopjnhfplaaGreatPk41
set_option linter.all false
set_option maxHeartbeats 8000000
set_option maxRecDepth 20000
open Go.Proofs
namespace Go.Abs
open Go.RowKit
variable {A1 A2 A3 A4 A5 A6:LR} {M R b c d j k k' l l' p q:Nat} {T1 T2 T3 T4 T5 T6:List LR} {TT:List (List Rat)->Prop} {e:Bool} {w:List (List Rat)} {x x' x1 x2 y y' y1 y2 z z':Re}
theorem MU:Bk Tryz.prog 187 [.one (.BC 0 0 0),.agg (As T1 A1),.one (.int .i64 0)] (.var 0 [.int .i64 0]) (.agg (As T1 A1)):=by
 refine Bx Tryz.func187 fun E a=>?_
 conv=>cbv
 refine BM ?_;conv=>cbv
 refine .inr ?_;refine AR ?_;conv=>cbv
 refine fun _=>⟨⟨⟨t3,trivial⟩,rfl,by simp⟩,rfl⟩
theorem QT:Bk Tryz.prog 256 [.one (.BC 0 0 0),.agg (AD T1 A1 T2 A2),.one (.int .i64 0)] (.var 0 [.int .i64 0]) (.agg (AD T1 A1 T2 A2)):=by
 refine Bx Tryz.func256 fun E a=>?_
 conv=>cbv
 refine BM ?_;conv=>cbv
 refine .inr ?_;refine AR ?_;conv=>cbv
 refine fun _=>⟨⟨⟨⟨rfl,rfl,rfl,rfl,rfl,trivial⟩,trivial⟩,rfl,by simp⟩,rfl⟩
theorem lH:Bk Tryz.prog 299 [.one (.BC 0 0 0),.agg (AD T1 A1 T2 A2)] (.var 0 [.int .i64 0]) (.AI [(true,(AD T1 A1 T2 A2)),(false,[.int .i64 0])]):=by
 refine Bx Tryz.func299 fun E a=>?_
 conv=>cbv
 refine AR ?_;conv=>cbv
 refine fun _=>⟨⟨⟨⟨rfl,rfl,rfl,rfl,rfl,trivial⟩,t2,trivial⟩,rfl,by simp⟩,rfl⟩
theorem QL:Bk Tryz.prog 260 [.one (.BC 0 0 0),.agg (As T1 A1),.one (.int .i64 0)] (.var 0 [.int .i64 0]) (.agg (As T1 A1)):=by
 refine Bx Tryz.func260 fun E a=>?_
 conv=>cbv
 refine BM ?_;conv=>cbv
 refine .inr ?_;refine AR ?_;conv=>cbv
 refine fun _=>⟨⟨⟨t3,trivial⟩,rfl,by simp⟩,rfl⟩
theorem TN (F:Fm TT w R b c M q p) (ha:Nm TT w b k T1 A1 x) (hb:Nm TT w b l T2 A2 y) (h:k+c+1<=M:=by omega) (i:l+c+1<=M:=by omega):∃T A,Nm TT w b (k+l+1) T A (x+y)/\Bk Tryz.prog 210 [.one (.BC 0 0 0),.agg (As T1 A1),.agg (As T2 A2)] (.var 0 [.int .i64 0]) (.agg (As T A)):=by
 obtain⟨T5,A5,g,_,f⟩:=EU F ha hb;refine⟨T5,A5,g,?_⟩;refine Bx Tryz.func210 fun E a=>?_
 conv=>cbv
 refine AB a f ?_;conv=>cbv
 refine AW 0 0 a QL ?_;try conv=>cbv
 refine fun _=>⟨⟨⟨t3,trivial⟩,rfl,by simp⟩,rfl⟩
theorem kR (F:Fm TT w R b c M q p) (ha:Nm TT w b k T1 A1 x) (hb:Nm TT w b l T2 A2 y) (h:k+c+1<=M:=by omega) (i:l+c+1<=M:=by omega):∃T A,Nm TT w b (k+l+1) T A (x-y)/\Bk Tryz.prog 213 [.one (.BC 0 0 0),.agg (As T1 A1),.agg (As T2 A2)] (.var 0 [.int .i64 0]) (.agg (As T A)):=by
 obtain⟨T5,A5,g,_,f⟩:=DM F ha hb;refine⟨T5,A5,g,?_⟩;refine Bx Tryz.func213 fun E a=>?_
 conv=>cbv
 refine AB a f ?_;conv=>cbv
 refine AW 0 0 a QL ?_;try conv=>cbv
 refine fun _=>⟨⟨⟨t3,trivial⟩,rfl,by simp⟩,rfl⟩
theorem Li (F:Fm TT w R b c M q p) (ha:Nm TT w b k T1 A1 x) (hb:Nm TT w b l T2 A2 y) (h:k+c+1<=M:=by omega) (i:l+c+1<=M:=by omega):∃T A,Nm TT w b (k+l+1) T A (x*y)/\Bk Tryz.prog 211 [.one (.BC 0 0 0),.agg (As T1 A1),.agg (As T2 A2)] (.var 0 [.int .i64 0]) (.agg (As T A)):=by
 obtain⟨T5,A5,g,_,f⟩:=CN F ha hb;refine⟨T5,A5,g,?_⟩;refine Bx Tryz.func211 fun E a=>?_
 conv=>cbv
 refine AB a f ?_;conv=>cbv
 refine AW 0 0 a QL ?_;try conv=>cbv
 refine fun _=>⟨⟨⟨t3,trivial⟩,rfl,by simp⟩,rfl⟩
theorem Lh (F:Fm TT w R b c M q p) (ha:Nm TT w b k T1 A1 x) (hb:Nm TT w b l T2 A2 y) (i:q*l+p<=d) (g:y≠0) (o:k+c+1<=M:=by omega) (r:l+c+1<=M:=by omega) (n:d+c+1<=M:=by omega):∃T A,Nm TT w b (k+d+1) T A (x*AE y)/\Bk Tryz.prog 209 [.one (.BC 0 0 0),.agg (As T1 A1),.agg (As T2 A2)] (.var 0 [.int .i64 0]) (.agg (As T A)):=by
 obtain⟨T5,A5,h,_,f⟩:=DE F ha hb i g;refine⟨T5,A5,h,?_⟩;refine Bx Tryz.func209 fun E a=>?_
 conv=>cbv
 refine AB a f ?_;conv=>cbv
 refine AW 0 0 a QL ?_;try conv=>cbv
 refine fun _=>⟨⟨⟨t3,trivial⟩,rfl,by simp⟩,rfl⟩
theorem kQ:Bk Tryz.prog 304 [.one (.BC 0 0 0),.agg (As T1 A1)] (.var 0 [.int .i64 0]) (.AI [(true,(As T1 A1)),(false,[.int .i64 0])]):=by
 refine Bx Tryz.func304 fun E a=>?_
 conv=>cbv
 refine AR ?_;conv=>cbv
 refine fun _=>⟨⟨⟨t3,t2,trivial⟩,rfl,by simp⟩,rfl⟩
theorem kP (F:Fm TT w R b c M q p) (a:Nm TT w b l T1 A1 x2) (v:Nm TT w b l' T2 A2 y2) (O:Nm TT w b j T3 A3 z) (u:q*l+p<=d) (N:q*l'+p<=d) (W:d+c+1<=M) (S:l+c+1<=M) (U:l'+c+1<=M) (h3:j+c+1<=M) (f:x2≠0):∃T A D C h g,Ed TT w b (l'+d+1) (j+d+1) T A D C h g (un x2) (y2*AE (fs x2 y2)) (z*AE (fs x2 y2))/\Bk Tryz.prog 252 [.one (.BC 0 0 0),.agg (As T1 A1),.agg (As T2 A2),.agg (As T3 A3)] (.var 0 [.int .i64 0]) (.AI [(true,(AS T A D C h g)),(false,[.int .i64 0])]):=by
 obtain⟨Q,n,_,t⟩:=Ci F a;obtain⟨T6,A6,J,G⟩:=Lh F a a u f;obtain⟨T7,A7,K,H⟩:=Lh F v a u f;obtain⟨T8,A8,L,I⟩:=Lh F O a u f;rw[Qo f,PU f];refine⟨T6,A6,T7,A7,T8,A8,⟨(En F (by omega) (r:=1) (by decide +kernel) J (F6 f)),K.mono (by omega),L.mono (by omega)⟩,?_⟩;refine Bx Tryz.func252 fun E s=>?_
 conv=>cbv
 refine AB s t ?_;conv=>cbv
 intro B i;conv=>cbv
 refine .inr ?_;cases B <;> conv=>cbv
 ·have o:=BR i;refine AW 0 0 s G ?_;try conv=>cbv
  refine AW 0 0 s H ?_;try conv=>cbv
  refine AW 0 0 s I ?_;try conv=>cbv
  refine BB ?_;refine AR ?_;conv=>cbv
  refine fun _=>⟨⟨⟨⟨rfl,rfl,rfl,rfl,rfl,rfl,rfl,trivial⟩,t2,trivial⟩,rfl,by simp⟩,rfl⟩
 have o:=BS i;exact absurd (FV.1 (n.symm.trans o)) f
theorem kO (F:Fm TT w R b c M q p) (o:Nm TT w b l T1 A1 x2) (a:Nm TT w b l' T2 A2 y2) (O:Nm TT w b j T3 A3 z) (W:q*l+p<=d) (f:q*l'+p<=d) (X:d+c+1<=M) (S:l+c+1<=M) (U:l'+c+1<=M) (h3:j+c+1<=M) (u:x2=0) (B:y2≠0):∃T A G D h g,Ed TT w b (l'+d+1) (j+d+1) T A G D h g (un x2) (y2*AE (fs x2 y2)) (z*AE (fs x2 y2))/\Bk Tryz.prog 252 [.one (.BC 0 0 0),.agg (As T1 A1),.agg (As T2 A2),.agg (As T3 A3)] (.var 0 [.int .i64 0]) (.AI [(true,(AS T A G D h g)),(false,[.int .i64 0])]):=by
 obtain⟨Q,n,_,v⟩:=Ci F o;obtain⟨T6,A6,K,H⟩:=Lh F o a f B;obtain⟨T7,A7,L,I⟩:=Lh F a a f B;obtain⟨T8,A8,N,J⟩:=Lh F O a f B;rw[ZX u,PT u];refine⟨T6,A6,T7,A7,T8,A8,⟨(En F (by omega) (r:=0) (by decide +kernel) K (show _=(0:Re) by rw[u];grind)),L.mono (by omega),N.mono (by omega)⟩,?_⟩;refine Bx Tryz.func252 fun E t=>?_
 conv=>cbv
 refine AB t v ?_;conv=>cbv
 intro C i;conv=>cbv
 refine .inr ?_;cases C <;> conv=>cbv
 ·have s:=BR i;exact absurd (n.trans (by rw[u];exact GA)) s
 have s:=BS i;refine AW 0 0 t H ?_;try conv=>cbv
 refine AW 0 0 t I ?_;try conv=>cbv
 refine AW 0 0 t J ?_;try conv=>cbv
 refine BB ?_;refine AR ?_;conv=>cbv
 refine fun _=>⟨⟨⟨⟨rfl,rfl,rfl,rfl,rfl,rfl,rfl,trivial⟩,t2,trivial⟩,rfl,by simp⟩,rfl⟩
theorem kN (F:Fm TT w R b c M q p) (h:Nm TT w b l T1 A1 x2) (i:Nm TT w b l' T2 A2 y2) (B:Nm TT w b j T3 A3 z) (u:q*l+p<=d) (g:q*l'+p<=d) (v:d+c+1<=M) (s:l+c+1<=M) (t:l'+c+1<=M) (h3:j+c+1<=M) (C:¬(x2=0/\y2=0)):∃T A r o f a,Ed TT w b (l'+d+1) (j+d+1) T A r o f a (un x2) (y2*AE (fs x2 y2)) (z*AE (fs x2 y2))/\Bk Tryz.prog 252 [.one (.BC 0 0 0),.agg (As T1 A1),.agg (As T2 A2),.agg (As T3 A3)] (.var 0 [.int .i64 0]) (.AI [(true,(AS T A r o f a)),(false,[.int .i64 0])]):=by
 by_cases n:x2=0
 ·exact kO F h i B u g v s t h3 n fun e=>C ⟨n,e⟩
 exact kP F h i B u g v s t h3 n
theorem Zz:CF 188 [.agg (AS T1 A1 T2 A2 T3 A3)] (.agg (AD T1 A1 T2 A2)):=by
 refine AZ Tryz.func188 fun E a=>?_
 conv=>cbv
 exact AF ⟨⟨rfl,rfl,rfl,rfl,rfl,trivial⟩,trivial⟩
theorem px (F:Fm TT w R b c M q p) (H:Vm TT w b k k' T1 A1 T2 A2 x1 y1) (I:Vm TT w b l l' T3 A3 T4 A4 x2 y2) (Y:l+c+1<=M) (B:l'+c+1<=M) (G:¬(x2=0/\y2=0)) (W:q*l+p<=d) (v:q*l'+p<=d) (X:d+c+1<=M) (Z:k+k'+l+l'+c+4<=M:=by omega):∃T A D C g f,Ed TT w b (l+d+1) (k+k'+l+l'+d+4) T A D C g f (un (-y2)) (x2*AE (fs (-y2) x2)) ((-y2*x1+x2*y1)*AE (fs (-y2) x2))/\CF 182 [.agg (AD T1 A1 T2 A2),.agg (AD T3 A3 T4 A4)] (.AI [(true,(AS T A D C g f)),(false,[.int .i64 0])]):=by
 obtain⟨A5,i,J⟩:=L7 F I;obtain⟨T6,A6,Q,K⟩:=Li F i.x H.x;obtain⟨T7,A7,S,L⟩:=Li F i.y H.y;obtain⟨T8,A8,U,N⟩:=TN F Q S;obtain⟨T9,A9,s,n,t,o,u,O⟩:=kN F i.x i.y U v W X (by omega) (by omega) (by omega) (fun h=>G ⟨by grind,by grind⟩);refine⟨T9,A9,s,n,t,o,⟨u.x,u.y.mono (by omega),u.z.mono (by omega)⟩,?_⟩;refine AZ Tryz.func182 fun E a=>?_
 conv=>cbv
 refine AB (r:= .one (.bool false)) a (IQ F I Y B (e:=false) ⟨fun h=>(by cases h),fun h=>absurd h G⟩) ?_;conv=>cbv
 refine AB a J ?_;conv=>cbv
 refine AW 12 1 a K ?_;try conv=>cbv
 refine AW 12 1 a L ?_;try conv=>cbv
 refine AW 12 1 a N ?_;try conv=>cbv
 refine AW 12 1 a O ?_;try conv=>cbv
 refine BB ?_;exact AF ⟨⟨rfl,rfl,rfl,rfl,rfl,rfl,rfl,trivial⟩,t2,trivial⟩
theorem VZ (F:Fm TT w R b c M q p) (v:Vm TT w b k k' T1 A1 T2 A2 x1 y1) (G:Vm TT w b l l' T3 A3 T4 A4 x2 y2) (N:2*k+4*c+3<=M) (t:2*k'+4*c+3<=M) (O:2*l+4*c+3<=M) (u:2*l'+4*c+3<=M) (D:¬(x1=x2/\y1=y2)) (K:q*(l+k+1)+p<=d:=by omega) (s:q*(l'+k'+1)+p<=d:=by omega) (L:d+c+1<=M:=by omega) (Q:2*k+2*k'+l+l'+c+6<=M:=by omega):∃T A C B f a,Ed TT w b (l+k+d+2) (2*k+2*k'+l+l'+d+6) T A C B f a (un (-(y2+ -y1))) ((x2+ -x1)*AE (fs (-(y2+ -y1)) (x2+ -x1))) ((-(y2+ -y1)*x1+(x2+ -x1)*y1)*AE (fs (-(y2+ -y1)) (x2+ -x1)))/\CF 99 [.agg (AD T1 A1 T2 A2),.agg (AD T3 A3 T4 A4)] (.AI [(true,(AS T A C B f a)),(false,[.int .i64 0])]):=by
 obtain⟨T5,A5,T6,A6,J,H⟩:=FN F G v;obtain⟨T8,A8,T9,A9,i,g,n,I⟩:=px F v J (by omega) (by omega) (fun h=>D ⟨by grind,by grind⟩) K s L;refine⟨T8,A8,T9,A9,i,g,⟨n.x,n.y.mono (by omega),n.z.mono (by omega)⟩,?_⟩;refine AZ Tryz.func99 fun E o=>?_
 conv=>cbv
 refine AB (r:= .one (.bool false)) o (CR F v G N t O u (e:=false) ⟨fun h=>(by cases h),fun h=>absurd h D⟩) ?_;conv=>cbv
 refine AB o H ?_;conv=>cbv
 refine AR ?_;conv=>cbv
 refine AB o I ?_;conv=>cbv
 exact AF ⟨⟨rfl,rfl,rfl,rfl,rfl,rfl,rfl,trivial⟩,t2,trivial⟩
theorem Va (F:Fm TT w R b c M q p) (o:Vm TT w b k k' T1 A1 T2 A2 x1 y1) (r:Vm TT w b l l' T3 A3 T4 A4 x2 y2) (i:2*k+4*c+3<=M) (a:2*k'+4*c+3<=M) (n:2*l+4*c+3<=M) (f:2*l'+4*c+3<=M) (g:x1=x2/\y1=y2):CF 99 [.agg (AD T1 A1 T2 A2),.agg (AD T3 A3 T4 A4)] (.AI [(true,(AS [] [] [] [] [] [])),(false,[.int .i64 11])]):=by
 refine AZ Tryz.func99 fun E h=>?_
 conv=>cbv
 refine AB h (CR F o r i a n f (e:=true) ⟨fun _=>g,fun _=>rfl⟩) ?_;conv=>cbv
 exact AF ⟨⟨rfl,AJ,AJ,AJ,AJ,AJ,AJ,trivial⟩,t2,trivial⟩
theorem Ub (F:Fm TT w R b c M q p) (n:Ed TT w b k k' T1 A1 T2 A2 T3 A3 x y z) (hm:Ed TT w b l l' T4 A4 T5 A5 T6 A6 x' y' z') (u:2*k+4*c+3<=M) (t:2*l+4*c+3<=M) (h3:4*c+5<=M) (he:e=true↔x=x'/\y=y'):CF 184 [.agg (AS T1 A1 T2 A2 T3 A3),.agg (AS T4 A4 T5 A5 T6 A6)] (.one (.bool e)):=by
 obtain⟨s,f,o,_⟩:=EK F n.x hm.x;obtain⟨r,a,g,_⟩:=EK F n.y hm.y;refine AZ Tryz.func184 fun E i=>?_
 conv=>cbv
 refine AB i o ?_;conv=>cbv
 cases s <;> conv=>cbv
 ·exact AF ⟨⟨rfl,congrArg _ (by cases e with | false=>rfl | true=>exact absurd (f.2 (he.1 rfl).1) (by simp)),trivial⟩,trivial⟩
 refine AB i g ?_;conv=>cbv
 exact AF ⟨⟨rfl,congrArg _ (by rw[Bool.eq_iff_iff,a,he];exact⟨fun h=>h.2,fun h=>⟨f.1 rfl,h⟩⟩),trivial⟩,trivial⟩
theorem Ua (F:Fm TT w R b c M q p) (o:Ed TT w b k k' T1 A1 T2 A2 T3 A3 x y z) (hm:Ed TT w b l l' T4 A4 T5 A5 T6 A6 x' y' z') (t:2*k+4*c+3<=M) (i:2*l+4*c+3<=M) (u:2*k'+4*c+3<=M) (v:2*l'+4*c+3<=M) (h3:4*c+5<=M) (he:e=true↔(x=x'/\y=y')/\z=z'):CF 183 [.agg (AS T1 A1 T2 A2 T3 A3),.agg (AS T4 A4 T5 A5 T6 A6)] (.one (.bool e)):=by
 obtain⟨s,a⟩:=Ep (x=x'/\y=y');obtain⟨r,f,g,_⟩:=EK F o.z hm.z;refine AZ Tryz.func183 fun E n=>?_
 conv=>cbv
 refine AB n (Ub F o hm t i h3 a) ?_;conv=>cbv
 cases s <;> conv=>cbv
 ·exact AF ⟨⟨rfl,congrArg _ (by cases e with | false=>rfl | true=>exact absurd (a.2 (he.1 rfl).1) (by simp)),trivial⟩,trivial⟩
 refine AB n g ?_;conv=>cbv
 exact AF ⟨⟨rfl,congrArg _ (by rw[Bool.eq_iff_iff,f,he];exact⟨fun h=>h.2,fun h=>⟨a.1 rfl,h⟩⟩),trivial⟩,trivial⟩
theorem VX (F:Fm TT w R b c M q p) (n:Ed TT w b k k' T1 A1 T2 A2 T3 A3 x y z) (hm:Ed TT w b l l' T4 A4 T5 A5 T6 A6 x' y' z') (u:2*k+4*c+3<=M) (t:2*l+4*c+3<=M) (h3:4*c+5<=M) (he:e=true↔x=x'/\y=y'):CF 201 [.agg (AS T1 A1 T2 A2 T3 A3),.agg (AS T4 A4 T5 A5 T6 A6)] (.one (.bool e)):=by
 obtain⟨s,f,_,o⟩:=EK F n.x hm.x;obtain⟨r,a,_,g⟩:=EK F n.y hm.y;refine AZ Tryz.func201 fun E i=>?_
 conv=>cbv
 refine AB i o ?_;conv=>cbv
 cases s <;> conv=>cbv
 ·exact AF ⟨⟨rfl,congrArg _ (by cases e with | false=>rfl | true=>exact absurd (f.2 (he.1 rfl).1) (by simp)),trivial⟩,trivial⟩
 refine AB i g ?_;conv=>cbv
 exact AF ⟨⟨rfl,congrArg _ (by rw[Bool.eq_iff_iff,a,he];exact⟨fun h=>h.2,fun h=>⟨f.1 rfl,h⟩⟩),trivial⟩,trivial⟩
theorem VT (F:Fm TT w R b c M q p) (o:Ed TT w b k k' T1 A1 T2 A2 T3 A3 x y z) (hm:Ed TT w b l l' T4 A4 T5 A5 T6 A6 x' y' z') (t:2*k+4*c+3<=M) (i:2*l+4*c+3<=M) (u:2*k'+4*c+3<=M) (v:2*l'+4*c+3<=M) (h3:4*c+5<=M) (he:e=true↔(x=x'/\y=y')/\z=z'):CF 200 [.agg (AS T1 A1 T2 A2 T3 A3),.agg (AS T4 A4 T5 A5 T6 A6)] (.one (.bool e)):=by
 obtain⟨s,a⟩:=Ep (x=x'/\y=y');obtain⟨r,f,_,g⟩:=EK F o.z hm.z;refine AZ Tryz.func200 fun E n=>?_
 conv=>cbv
 refine AB n (VX F o hm t i h3 a) ?_;conv=>cbv
 cases s <;> conv=>cbv
 ·exact AF ⟨⟨rfl,congrArg _ (by cases e with | false=>rfl | true=>exact absurd (a.2 (he.1 rfl).1) (by simp)),trivial⟩,trivial⟩
 refine AB n g ?_;conv=>cbv
 exact AF ⟨⟨rfl,congrArg _ (by rw[Bool.eq_iff_iff,f,he];exact⟨fun h=>h.2,fun h=>⟨a.1 rfl,h⟩⟩),trivial⟩,trivial⟩
end Go.Abs
namespace Go.Abs
open Go.RowKit
noncomputable def Fg (α β γ x y:Re):Re:=(α*x+β*y-γ)*AE (α*α+β*β)
variable {A1 A2 A3 A4 A5:LR} {M R b c d k l m m' p q:Nat} {T1 T2 T3 T4 T5:List LR} {TT:List (List Rat)->Prop} {w:List (List Rat)} {x y α β γ:Re}
theorem lG (F:Fm TT w R b c M q p) (f:Ed TT w b k l T1 A1 T2 A2 T3 A3 α β γ) (ha:Vm TT w b m m' T4 A4 T5 A5 x y) (r:¬(α=0/\β=0)) (B:q*(2*k+5)+p<=d) (G:d+c+1<=M) (C:k+l+m+m'+c+8<=M:=by omega) (D:2*k+c+8<=M:=by omega):∃T A,Nm TT w b (k+l+m+m'+d+6) T A (Fg α β γ x y)/\Bk Tryz.prog 298 [.one (.BC 0 0 0),.agg (AS T1 A1 T2 A2 T3 A3),.agg (AD T4 A4 T5 A5)] (.var 0 [.int .i64 0]) (.agg (As T A)):=by
 have g:Vm TT w b 1 k T1 A1 T2 A2 α β:=⟨f.x,f.y⟩;obtain⟨T6,A6,s,h⟩:=GD F g ha;obtain⟨T7,A7,t,i,_⟩:=DM F s f.z;obtain⟨T8,A8,u,n⟩:=GF F g;obtain⟨T9,A9,v,o,_⟩:=DE F t (u.mono (by omega:2*1+2*k+3<=2*k+5)) B (Jh r);refine⟨T9,A9,v.mono (by omega),?_⟩;refine Bx Tryz.func298 fun E a=>?_
 conv=>cbv
 refine AB a Zz ?_;conv=>cbv
 refine AB a h ?_;conv=>cbv
 refine AW 0 0 a MU ?_;try conv=>cbv
 refine AB a i ?_;conv=>cbv
 refine AW 0 0 a MU ?_;try conv=>cbv
 refine BB ?_;refine AB a n ?_;conv=>cbv
 refine AW 0 0 a MU ?_;try conv=>cbv
 refine AB a o ?_;conv=>cbv
 refine AW 0 0 a MU ?_;try conv=>cbv
 refine BB ?_;refine fun _=>⟨⟨⟨t3,trivial⟩,rfl,by simp⟩,rfl⟩
theorem nE (F:Fm TT w R b c M q p) (s:Ed TT w b k l T1 A1 T2 A2 T3 A3 α β γ) (ha:Vm TT w b m m' T4 A4 T5 A5 x y) (J:¬(α=0/\β=0)) (Q:q*(2*k+5)+p<=d) (S:d+c+1<=M) {t:Int} (ht: -9223372036854775808<=t/\t<9223372036854775808) (B:Co (t:Rat)) (h3:2*k+l+m+m'+d+c+12<=M):∃T A v u,Vm TT w b (k+l+2*m+m'+d+11) (2*k+l+m+2*m'+d+10) T A v u (x-α*(Fg α β γ x y*Re.ofRat (t:Rat))) (y-β*(Fg α β γ x y*Re.ofRat (t:Rat)))/\CF 255 [.agg (AS T1 A1 T2 A2 T3 A3),.agg (AD T4 A4 T5 A5),.one (.int .i64 t)] (.AI [(true,(AD T A v u)),(false,[.int .i64 0])]):=by
 obtain⟨A6,f⟩:=EV (em [] (Re.ofRat (t:Rat)));have K:Nm TT w b 1 [] A6 (Re.ofRat (t:Rat)):=f ▸ Gs F (by omega) (F2 B F.hb);have U:Vm TT w b 1 k T1 A1 T2 A2 α β:=⟨s.x,s.y⟩;obtain⟨T7,A7,L,G⟩:=lG F s ha J Q S;obtain⟨T8,A8,N,H,_⟩:=CN F L K;obtain⟨T9,A9,D,C,O,I⟩:=Ho F U N;obtain⟨i,g,n,h,r,o⟩:=Dm F ha O;refine⟨i,g,n,h,r.mono (by omega) (by omega),?_⟩;refine AZ Tryz.func255 fun E a=>?_
 conv=>cbv
 refine AW 11 1 a G ?_;try conv=>cbv
 refine AB a (MB ht (NP B) f) ?_;conv=>cbv
 refine AB a H ?_;conv=>cbv
 refine AW 11 1 a MU ?_;try conv=>cbv
 refine AB a Zz ?_;conv=>cbv
 refine AB a I ?_;conv=>cbv
 refine AW 11 1 a QT ?_;try conv=>cbv
 refine AB a o ?_;conv=>cbv
 refine AW 11 1 a QT ?_;try conv=>cbv
 refine AW 11 1 a lH ?_;try conv=>cbv
 refine BB ?_;exact AF ⟨⟨rfl,rfl,rfl,rfl,rfl,trivial⟩,t2,trivial⟩
theorem Q1 (F:Fm TT w R b c M q p) (s:Ed TT w b k l T1 A1 T2 A2 T3 A3 α β γ) (ha:Vm TT w b m m' T4 A4 T5 A5 x y) (h:¬(α=0/\β=0)) (o:q*(2*k+5)+p<=d) (r:d+c+1<=M:=by omega) (h3:2*k+l+m+m'+d+c+12<=M:=by omega):∃T A f a,Vm TT w b (k+l+2*m+m'+d+11) (2*k+l+m+2*m'+d+10) T A f a (x-α*(Fg α β γ x y*Re.ofRat (((1:Int):Rat)))) (y-β*(Fg α β γ x y*Re.ofRat (((1:Int):Rat))))/\CF 196 [.agg (AS T1 A1 T2 A2 T3 A3),.agg (AD T4 A4 T5 A5)] (.AI [(true,(AD T A f a)),(false,[.int .i64 0])]):=by
 obtain⟨T7,A7,T8,A8,i,g⟩:=nE F s ha h o r (t:=1) (by decide) (by decide +kernel) h3;refine⟨T7,A7,T8,A8,i,?_⟩;refine AZ Tryz.func196 fun E n=>?_
 conv=>cbv
 refine AB n g ?_;conv=>cbv
 exact AF ⟨⟨rfl,rfl,rfl,rfl,rfl,trivial⟩,t2,trivial⟩
theorem cK (F:Fm TT w R b c M q p) (f:Ed TT w b k l T1 A1 T2 A2 T3 A3 α β γ) (ha:Vm TT w b m m' T4 A4 T5 A5 x y) (u:k+l+m+m'+c+8<=M:=by omega):∃T A,Nm TT w b (k+l+m+m'+5) T A (α*x+β*y-γ)/\Bk Tryz.prog 194 [.one (.BC 0 0 0),.agg (AS T1 A1 T2 A2 T3 A3),.agg (AD T4 A4 T5 A5)] (.var 0 [.int .i64 0]) (.agg (As T A)):=by
 obtain⟨T6,A6,o,g⟩:=Li F f.x ha.x;obtain⟨T7,A7,r,h⟩:=Li F f.y ha.y;obtain⟨T8,A8,s,i⟩:=TN F o r;obtain⟨T9,A9,t,n⟩:=kR F s f.z;refine⟨T9,A9,t.mono (by omega),?_⟩;refine Bx Tryz.func194 fun E a=>?_
 conv=>cbv
 refine AW 0 0 a g ?_;try conv=>cbv
 refine AW 0 0 a h ?_;try conv=>cbv
 refine AW 0 0 a i ?_;try conv=>cbv
 refine AW 0 0 a n ?_;try conv=>cbv
 refine BB ?_;refine fun _=>⟨⟨⟨t3,trivial⟩,rfl,by simp⟩,rfl⟩
theorem VY (F:Fm TT w R b c M q p) (f:Ed TT w b k l T1 A1 T2 A2 T3 A3 α β γ) (ha:Vm TT w b m m' T4 A4 T5 A5 x y) (G:¬(α=0/\β=0)) (K:q*(2*k+5)+p<=d) (N:d+c+1<=M:=by omega) (L:2*(k+l+m+m')+c+14<=M:=by omega):∃T A,Nm TT w b (2*(k+l+m+m')+d+12) T A ((α*x+β*y-γ)*(α*x+β*y-γ)*AE (α*α+β*β))/\CF 258 [.agg (AS T1 A1 T2 A2 T3 A3),.agg (AD T4 A4 T5 A5)] (.AI [(true,(As T A)),(false,[.int .i64 0])]):=by
 obtain⟨T7,A7,s,B⟩:=cK F f ha;obtain⟨T6,A6,H,v⟩:=Li F s s;obtain⟨T8,A8,I,C⟩:=Li F f.x f.x;obtain⟨T9,A9,J,D⟩:=Li F f.y f.y;obtain⟨u,t,o,i⟩:=TN F I J;obtain⟨h,g,r,n⟩:=Lh F H (o.mono (by omega:_<=2*k+5)) K (Jh G);refine⟨h,g,r.mono (by omega),?_⟩;refine AZ Tryz.func258 fun E a=>?_
 conv=>cbv
 refine AW 9 1 a B ?_;try conv=>cbv
 refine AW 9 1 a v ?_;try conv=>cbv
 refine AW 9 1 a C ?_;try conv=>cbv
 refine AW 9 1 a D ?_;try conv=>cbv
 refine AW 9 1 a i ?_;try conv=>cbv
 refine AW 9 1 a n ?_;try conv=>cbv
 refine AW 9 1 a kQ ?_;try conv=>cbv
 refine BB ?_;exact AF ⟨t3,t2,trivial⟩
theorem Ud (F:Fm TT w R b c M q p) (D:Ed TT w b k l T1 A1 T2 A2 T3 A3 α β γ) (ha:Vm TT w b m m' T4 A4 T5 A5 x y) (t:¬(α=0/\β=0)) (B:q*(2*k+5)+p<=d) (C:d+c+1<=M:=by omega) (h3:2*k+l+m+m'+d+c+12<=M:=by omega) (G:2*(k+l+3*m+m'+d+12)+c+2<=M:=by omega) (H:2*(2*k+l+m+3*m'+d+11)+c+2<=M:=by omega):∃T A,Nm TT w b (6*k+4*l+8*m+8*m'+4*d+49) T A ((x-(x-α*(Fg α β γ x y*Re.ofRat (((1:Int):Rat)))))*(x-(x-α*(Fg α β γ x y*Re.ofRat (((1:Int):Rat)))))+(y-(y-β*(Fg α β γ x y*Re.ofRat (((1:Int):Rat)))))*(y-(y-β*(Fg α β γ x y*Re.ofRat (((1:Int):Rat))))))/\CF 197 [.agg (AS T1 A1 T2 A2 T3 A3),.agg (AD T4 A4 T5 A5)] (.AI [(true,(As T A)),(false,[.int .i64 0])]):=by
 obtain⟨T7,A7,T8,A8,u,r⟩:=Q1 F D ha t B C h3;obtain⟨T9,A9,o,n,v,s⟩:=Dm F ha u;obtain⟨g,f,i,h⟩:=GF F v;refine⟨g,f,i.mono (by omega),?_⟩;refine AZ Tryz.func197 fun E a=>?_
 conv=>cbv
 refine AB a r ?_;conv=>cbv
 refine AW 10 1 a QT ?_;try conv=>cbv
 refine AB a s ?_;conv=>cbv
 refine AW 10 1 a QT ?_;try conv=>cbv
 refine AB a h ?_;conv=>cbv
 refine AW 10 1 a MU ?_;try conv=>cbv
 refine AR ?_;conv=>cbv
 exact AF ⟨t3,t2,trivial⟩
theorem VW (F:Fm TT w R b c M q p) (r:Ed TT w b k l T1 A1 T2 A2 T3 A3 α β γ) (ha:Vm TT w b m m' T4 A4 T5 A5 x y) (t:k+l+m+m'+c+8<=M) {e:Bool} (he:e=true↔α*x+β*y=γ):CF 111 [.agg (AS T1 A1 T2 A2 T3 A3),.agg (AD T4 A4 T5 A5)] (.one (.bool e)):=by
 obtain⟨T7,A7,o,i⟩:=cK F r ha;obtain⟨u,f,_,n⟩:=Ci F o;refine AZ Tryz.func111 fun E g=>?_
 conv=>cbv
 refine AW 8 1 g i ?_;try conv=>cbv
 refine BM ?_;conv=>cbv
 refine AB g n ?_;conv=>cbv
 intro s a;conv=>cbv
 exact AF ⟨⟨rfl,congrArg _ (by rw[Bool.eq_iff_iff,he,a,beq_iff_eq,f,FV];constructor <;> intro h <;> grind),trivial⟩,trivial⟩
end Go.Abs
namespace Go.Abs
section
variable {P:List (List Rat)->Prop} {V:List Re}
theorem kH {k n:Nat} {q:Rat} (h:Bd k [q]):Bd k (q::List.replicate n 0):=by
 obtain⟨D,a,f,g,h3⟩:=h;exact⟨D,a,f,Ts g,U3 h3⟩
theorem Tf.WR (I:CA P 256) (t:∀{r u},P (r::u)->u=[]) {u:List (List Rat)} (h:Tf P u):TB 256 u:=by
 induction h with
 | nil=>exact fun r v=>absurd v (by simp)
 | @Aj u o B ht f A n=>
  obtain rfl:=t f
  by_cases i:Sq u (Al [] o)
  ·rw[ED i];exact n
  rw[C8 i];intro s a;rcases List.mem_cons.1 a with rfl | a
  ·obtain⟨q,g⟩:=Dl.1 (CO (I.red f));have hb:Bd 256 (co [] (Al [] o)):=by rw[FQ (I.red f)];exact (I.tb f).head
   rw[g,Ew] at hb;rw[g,JO q (ht.red I)];exact kH hb
  exact n s a
abbrev Cl:Nat:=40000
theorem Tf.ZN (I:CA P 256) (g:∀{r u},P (r::u)->u=[]) (hV:∀{u},P u->∀v∈Go.Abs.BP u,v∈V) (h3:V.length<=3) {u w:List (List Rat)} {s:Nat} {x:Re} (hu:Tf P u) (hw:Tf P w) (f:Bl u w) (a:El u s x):El w (s+Cl) x:=by
 by_cases i:w.length<=2
 ·refine (a.CV (hw.red I) (hw.WR I g) (hu.red I) (hu.WR I g) f).mono ?_;have:=LU (k:=u.length) (k':=3) (R0:=256) (Jr:=256) (h:=w.length) (h':=2) (R:=256) (R':=256) (Nat.le_trans (hu.len I hV) h3) (Nat.le_refl _) i (Nat.le_refl _);have t:CC 3 256 2 256<=Cl:=by decide +kernel
  omega
 refine⟨f _ a.mem,(TE (hw.red I) (hu.red I) (fun v o=>Classical.byContradiction fun n=>?_) a.mem a.bd).mono (Nat.le_add_right _ _)⟩
 have:=Ja (l:=v::Go.Abs.BP w) (m:=V) (List.nodup_cons.2 ⟨n,HE (hw.red I)⟩) (fun x a=>by
  rcases List.mem_cons.1 a with rfl | a
  ·exact hu.BP I hV _ o
  exact hw.BP I hV x a)
 rw[List.length_cons,Jl] at this;omega
theorem mD (I:CA P 256) (i:∀{r u},P (r::u)->u=[]) (hV:∀{u},P u->∀v∈Go.Abs.BP u,v∈V) (h3:V.length<=3) {C S:Nat} (o:Cl<=C) (g:C<=Cn) (a:Rn<=S) (f:S<=Sm):EM (Tf P) Rn C S:=
 have G:=Za I hV h3 a f
 {G with
  CV:=fun hu hw h n=>(Tf.ZN I i hV h3 hu hw h n).mono (by omega)
  fit:=fun hu=>(G.fit hu).mono (by omega)
  mul:=fun hu=>by have:=G.mul hu;omega
  HO:=fun hu=>(G.HO hu).mono (by omega)}
end
end Go.Abs
namespace Go.Abs
open Go.RowKit
abbrev Fl (TT:List (List Rat)->Prop) (w:List (List Rat)):Prop:=Fm TT w Rn 2100 20 43400000 23 14
variable {P:List (List Rat)->Prop} {V:List Re} {b k:Nat} {ns:List Nu} {w:List (List Rat)}
theorem Pl.fl (L:Pl P V w) (g:∀{r u},P (r::u)->u=[]):Fl (Tf P) w:=by
 have h:Bb 256 w:=⟨L.hw.red L.I,L.hw.WR L.I g,by decide,by have:=L.len L.hw;omega⟩
 refine⟨fun {S} i n=>mD L.I g L.hV L.h3 (by decide) (by decide) i (Nat.le_trans n (by decide)),L.hw,L.ha,by decide,by decide,fun {x y s t} a f=>(a.mul h f).mono (by
  have:=Gw (L.len L.hw) (Nat.le_refl 256);have e:EE 3 256<=2100:=by decide +kernel
  omega),fun {x y s} a f e=>(a.inv h f e).mono (Nat.le_trans (GI (L.len L.hw) (Nat.le_refl _) (Nat.le_refl _)) (by simp only[II,EE];omega)),fun {u} hu=>?_⟩
 exact Nat.le_trans (GI (L.len hu) (Nat.le_refl _) (Nat.le_refl _)) (Nat.le_trans (UP _) (by decide))
noncomputable def FU (ns:List Nu):List Nu:=ns.filter (fun n=>decide (n.1.length<=1))
theorem aJ (h:∀n∈ns,CL V n):∀n∈FU ns,CL V n:=fun n a=>h n (List.mem_filter.1 a).1
theorem HR {r:List Rat} {u:List (List Rat)} (h:PN (FU ns) (r::u)):u=[]:=by
 obtain⟨n,f,g⟩:=h;have i:=of_decide_eq_true (List.mem_filter.1 f).2;have a:=g.length_le;rw[List.length_cons] at a;exact List.length_eq_zero_iff.1 (by omega)
theorem a7 (L:Pl (PN (FU ns)) V w) (h:∀n∈ns,CL V n) {n:Nu} (a:n∈ns\/n=JD) (f:(tw n.1).length<=1) (hb:40512<=k*b):Nm (Tf (PN (FU ns))) w b k (tw n.1) (em n.1 n.2) n.2:=by
 rcases a with a | rfl
 ·have hm:n∈FU ns:=List.mem_filter.2 ⟨a,decide_eq_true (by rw[tw,List.length_map,List.length_reverse] at f;exact f)⟩;have hu:=G1 L.h3 (aJ h) hm;have he:=(h n a).el L.h3;exact⟨n.1,hu,rfl,rfl,he.mem,(Tf.ZN L.I HR L.hV L.h3 hu L.hw (L.ha hu) he).mono (Nat.le_trans (by decide) hb)⟩
 exact⟨[],.nil,rfl,rfl,He 0 [],(El.rat (L.hw.red L.I) (F2 (b:=64) (r:=0) (by decide +kernel) (Nat.le_refl 64))).mono (Nat.le_trans (by decide) hb)⟩
theorem VP {W:List UInt8} (L:Pl (PN (FU ns)) V w) (h:∀n∈ns,CL V n) {i:Nat} {x:el BL} {Q:List (el BL)} (f:Q=IG ns W) (a:Q[i]? =some x) (o:x.1.1.length<=1) (r:x.2.1.length<=1):∃X Y,∀{b k:Nat},40512<=k*b->Vm (Tf (PN (FU ns))) w b k k x.1.1 x.1.2 x.2.1 x.2.2 X Y:=by
 unfold IG at f
 split at f
 ·rw[f,List.getElem?_map] at a;cases g:(HT ns W)[i]? with
  | none=>rw[g] at a;simp at a
  | some p=>
   rw[g] at a;have e:vm p=x:=Option.some.inj a;obtain⟨m1,m2⟩:=cG (List.mem_of_getElem? g);rw[<-e] at o r ⊢;exact⟨_,_,fun hb=>⟨a7 L h m1 o hb,a7 L h m2 r hb⟩⟩
 subst f;simp at a
theorem U8 {w0:List (List Rat)} (L:Pl P V w0) {K:Nat} {T:List LR} {A:LR} {n:Re} (D:Nm (Tf P) w0 b k T A n) (g:k<=K) (s:K*b<=46300000) (t:0<n):∃TT w,F9 TT w/\(∀{b' k':Nat} {r:List LR} {o:LR} {x:Re},k'*b'<=47000000->Nm (Tf P) w0 b' k' r o x->Nm TT w 47000000 1 r o x)/\Rt (Tf P) w0 b K TT w 47000000 1 n:=by
 have i:k*b<=46300000:=Nat.le_trans (Nat.mul_le_mul_right b g) s;obtain⟨_,_,_,_,_,he⟩:=D;have f:El w0 R9 n:=he.mono i;have a:(0:Re)<=n:=by grind
 refine⟨_,_,L.f9 f a,fun g h=>L.lift f.mem a h (by omega),⟨fun {k T1 A1} g ha=>?_⟩⟩;have B:k*b<=46300000:=Nat.le_trans (Nat.mul_le_mul_right b g) s;have C:=L.lift f.mem a (b':=47000000) (k':=1) ha (by omega);obtain⟨u,hu,v,_,F,_⟩:=ha;refine VE (L.f9 f a) C (by decide) (fun G _ e _=>?_) a ?_ (by decide)
 ·rw[<-NY (v.symm.trans e)];exact hu.Nv L.I F
 have W:=fO L.I L.hV L.h3 L.hw f t;exact⟨W.root,W.rb.mono (by decide)⟩
theorem Un (hV:V.length<=3) (h:∀n∈ns,CL V n):∃w,Pl (PN (FU ns)) V w:=Jc hV (aJ h)
end Go.Abs
