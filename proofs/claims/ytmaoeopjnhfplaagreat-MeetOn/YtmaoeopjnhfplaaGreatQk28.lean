/- Part 29 of a proof. Conditions: each theorem's own. -/
import Derived.Test.YtmaoeopjnhfplaaGreatQk27
set_option linter.all false
set_option maxHeartbeats 8000000
set_option maxRecDepth 20000
open Go.Proofs
namespace Go.Abs
open Go.RowKit
variable {A1 A2 A3 A4 A5 A6:LR} {M R b c d j k k' l l' p q:Nat} {T1 T2 T3 T4 T5 T6:List LR} {TT:List (List Rat)->Prop} {e:Bool} {w:List (List Rat)} {x x' x1 x2 y y' y1 y2 z z':Re}
theorem Kk:Bp Tryz.prog 187 [.one (.As 0 0 0),.agg (AU T1 A1),.one (.int .i64 0)] (.var 0 [.int .i64 0]) (.agg (AU T1 A1)):=by
 refine CE Tryz.func187 fun E a=>?_
 conv=>cbv
 refine Aw ?_;conv=>cbv
 refine .inr ?_;refine AL ?_;conv=>cbv
 refine fun _=>⟨⟨⟨t3,trivial⟩,rfl,by simp⟩,rfl⟩
theorem N6:Bp Tryz.prog 256 [.one (.As 0 0 0),.agg (AH T1 A1 T2 A2),.one (.int .i64 0)] (.var 0 [.int .i64 0]) (.agg (AH T1 A1 T2 A2)):=by
 refine CE Tryz.func256 fun E a=>?_
 conv=>cbv
 refine Aw ?_;conv=>cbv
 refine .inr ?_;refine AL ?_;conv=>cbv
 refine fun _=>⟨⟨⟨⟨rfl,rfl,rfl,rfl,rfl,trivial⟩,trivial⟩,rfl,by simp⟩,rfl⟩
theorem gV:Bp Tryz.prog 299 [.one (.As 0 0 0),.agg (AH T1 A1 T2 A2)] (.var 0 [.int .i64 0]) (.AG [(true,(AH T1 A1 T2 A2)),(false,[.int .i64 0])]):=by
 refine CE Tryz.func299 fun E a=>?_
 conv=>cbv
 refine AL ?_;conv=>cbv
 refine fun _=>⟨⟨⟨⟨rfl,rfl,rfl,rfl,rfl,trivial⟩,t2,trivial⟩,rfl,by simp⟩,rfl⟩
theorem Nx:Bp Tryz.prog 260 [.one (.As 0 0 0),.agg (AU T1 A1),.one (.int .i64 0)] (.var 0 [.int .i64 0]) (.agg (AU T1 A1)):=by
 refine CE Tryz.func260 fun E a=>?_
 conv=>cbv
 refine Aw ?_;conv=>cbv
 refine .inr ?_;refine AL ?_;conv=>cbv
 refine fun _=>⟨⟨⟨t3,trivial⟩,rfl,by simp⟩,rfl⟩
theorem Nw (F:Fm TT w R b c M q p) (ha:Nm TT w b k T1 A1 x) (hb:Nm TT w b l T2 A2 y) (h:k+c+1<=M:=by omega) (i:l+c+1<=M:=by omega):∃T A,Nm TT w b (k+l+1) T A (x+y)/\Bp Tryz.prog 210 [.one (.As 0 0 0),.agg (AU T1 A1),.agg (AU T2 A2)] (.var 0 [.int .i64 0]) (.agg (AU T A)):=by
 obtain⟨T5,A5,g,_,f⟩:=FZ F ha hb;refine⟨T5,A5,g,?_⟩;refine CE Tryz.func210 fun E a=>?_
 conv=>cbv
 refine AB a f ?_;conv=>cbv
 refine Ai 0 0 a Nx ?_;try conv=>cbv
 refine fun _=>⟨⟨⟨t3,trivial⟩,rfl,by simp⟩,rfl⟩
theorem QZ (F:Fm TT w R b c M q p) (ha:Nm TT w b k T1 A1 x) (hb:Nm TT w b l T2 A2 y) (h:k+c+1<=M:=by omega) (i:l+c+1<=M:=by omega):∃T A,Nm TT w b (k+l+1) T A (x-y)/\Bp Tryz.prog 213 [.one (.As 0 0 0),.agg (AU T1 A1),.agg (AU T2 A2)] (.var 0 [.int .i64 0]) (.agg (AU T A)):=by
 obtain⟨T5,A5,g,_,f⟩:=Dr F ha hb;refine⟨T5,A5,g,?_⟩;refine CE Tryz.func213 fun E a=>?_
 conv=>cbv
 refine AB a f ?_;conv=>cbv
 refine Ai 0 0 a Nx ?_;try conv=>cbv
 refine fun _=>⟨⟨⟨t3,trivial⟩,rfl,by simp⟩,rfl⟩
theorem G9 (F:Fm TT w R b c M q p) (ha:Nm TT w b k T1 A1 x) (hb:Nm TT w b l T2 A2 y) (h:k+c+1<=M:=by omega) (i:l+c+1<=M:=by omega):∃T A,Nm TT w b (k+l+1) T A (x*y)/\Bp Tryz.prog 211 [.one (.As 0 0 0),.agg (AU T1 A1),.agg (AU T2 A2)] (.var 0 [.int .i64 0]) (.agg (AU T A)):=by
 obtain⟨T5,A5,g,_,f⟩:=DA F ha hb;refine⟨T5,A5,g,?_⟩;refine CE Tryz.func211 fun E a=>?_
 conv=>cbv
 refine AB a f ?_;conv=>cbv
 refine Ai 0 0 a Nx ?_;try conv=>cbv
 refine fun _=>⟨⟨⟨t3,trivial⟩,rfl,by simp⟩,rfl⟩
theorem JA (F:Fm TT w R b c M q p) (ha:Nm TT w b k T1 A1 x) (hb:Nm TT w b l T2 A2 y) (i:q*l+p<=d) (g:y≠0) (o:k+c+1<=M:=by omega) (r:l+c+1<=M:=by omega) (n:d+c+1<=M:=by omega):∃T A,Nm TT w b (k+d+1) T A (x*AT y)/\Bp Tryz.prog 209 [.one (.As 0 0 0),.agg (AU T1 A1),.agg (AU T2 A2)] (.var 0 [.int .i64 0]) (.agg (AU T A)):=by
 obtain⟨T5,A5,h,_,f⟩:=Fa F ha hb i g;refine⟨T5,A5,h,?_⟩;refine CE Tryz.func209 fun E a=>?_
 conv=>cbv
 refine AB a f ?_;conv=>cbv
 refine Ai 0 0 a Nx ?_;try conv=>cbv
 refine fun _=>⟨⟨⟨t3,trivial⟩,rfl,by simp⟩,rfl⟩
theorem gA:Bp Tryz.prog 212 [.one (.As 0 0 0),.agg (AU T1 A1),.agg (AU T2 A2)] (.var 0 [.int .i64 0]) (.AG [(true,(AH T1 A1 T2 A2)),(false,[.int .i64 0])]):=by
 refine CE Tryz.func212 fun E a=>?_
 conv=>cbv
 refine AL ?_;conv=>cbv
 refine fun _=>⟨⟨⟨⟨rfl,rfl,rfl,rfl,rfl,trivial⟩,t2,trivial⟩,rfl,by simp⟩,rfl⟩
theorem fz:Bp Tryz.prog 304 [.one (.As 0 0 0),.agg (AU T1 A1)] (.var 0 [.int .i64 0]) (.AG [(true,(AU T1 A1)),(false,[.int .i64 0])]):=by
 refine CE Tryz.func304 fun E a=>?_
 conv=>cbv
 refine AL ?_;conv=>cbv
 refine fun _=>⟨⟨⟨t3,t2,trivial⟩,rfl,by simp⟩,rfl⟩
theorem fw (F:Fm TT w R b c M q p) (a:Nm TT w b l T1 A1 x2) (B:Nm TT w b l' T2 A2 y2) (Q:Nm TT w b j T3 A3 z) (v:q*l+p<=d) (O:q*l'+p<=d) (X:d+c+1<=M) (U:l+c+1<=M) (W:l'+c+1<=M) (h3:j+c+1<=M) (f:x2≠0):∃T A G D h g,DY TT w b (l'+d+1) (j+d+1) T A G D h g (un x2) (y2*AT (fs x2 y2)) (z*AT (fs x2 y2))/\Bp Tryz.prog 252 [.one (.As 0 0 0),.agg (AU T1 A1),.agg (AU T2 A2),.agg (AU T3 A3)] (.var 0 [.int .i64 0]) (.AG [(true,(AN T A G D h g)),(false,[.int .i64 0])]):=by
 obtain⟨S,n,_,u⟩:=Dh F a;obtain⟨T6,A6,K,H⟩:=JA F a a v f;obtain⟨T7,A7,L,I⟩:=JA F B a v f;obtain⟨T8,A8,N,J⟩:=JA F Q a v f;rw[Q5 f,PV f];refine⟨T6,A6,T7,A7,T8,A8,⟨(LC F (by omega) (r:=1) (by decide +kernel) K (Gv f)),L.mono (by omega),N.mono (by omega)⟩,?_⟩;refine CE Tryz.func252 fun E s=>?_
 conv=>cbv
 refine AB s u ?_;conv=>cbv
 intro C i;conv=>cbv
 refine .inr ?_;cases C <;> conv=>cbv
 ·have o:=BR i;refine Ai 0 0 s H ?_;try conv=>cbv
  refine Ai 0 0 s I ?_;try conv=>cbv
  refine Ai 0 0 s J ?_;try conv=>cbv
  refine Bg ?_;refine AL ?_;conv=>cbv
  refine fun _=>⟨⟨⟨⟨rfl,rfl,rfl,rfl,rfl,rfl,rfl,trivial⟩,t2,trivial⟩,rfl,by simp⟩,rfl⟩
 have o:=BS i;exact absurd (GX.1 (n.symm.trans o)) f
theorem fv (F:Fm TT w R b c M q p) (o:Nm TT w b l T1 A1 x2) (a:Nm TT w b l' T2 A2 y2) (Q:Nm TT w b j T3 A3 z) (X:q*l+p<=d) (f:q*l'+p<=d) (Y:d+c+1<=M) (U:l+c+1<=M) (W:l'+c+1<=M) (h3:j+c+1<=M) (v:x2=0) (C:y2≠0):∃T A H G h g,DY TT w b (l'+d+1) (j+d+1) T A H G h g (un x2) (y2*AT (fs x2 y2)) (z*AT (fs x2 y2))/\Bp Tryz.prog 252 [.one (.As 0 0 0),.agg (AU T1 A1),.agg (AU T2 A2),.agg (AU T3 A3)] (.var 0 [.int .i64 0]) (.AG [(true,(AN T A H G h g)),(false,[.int .i64 0])]):=by
 obtain⟨S,n,_,B⟩:=Dh F o;obtain⟨T6,A6,L,I⟩:=JA F o a f C;obtain⟨T7,A7,N,J⟩:=JA F a a f C;obtain⟨T8,A8,O,K⟩:=JA F Q a f C;rw[XR v,PU v];refine⟨T6,A6,T7,A7,T8,A8,⟨(LC F (by omega) (r:=0) (by decide +kernel) L (show _=(0:Re) by rw[v];grind)),N.mono (by omega),O.mono (by omega)⟩,?_⟩;refine CE Tryz.func252 fun E u=>?_
 conv=>cbv
 refine AB u B ?_;conv=>cbv
 intro D i;conv=>cbv
 refine .inr ?_;cases D <;> conv=>cbv
 ·have s:=BR i;exact absurd (n.trans (by rw[v];exact F3)) s
 have s:=BS i;refine Ai 0 0 u I ?_;try conv=>cbv
 refine Ai 0 0 u J ?_;try conv=>cbv
 refine Ai 0 0 u K ?_;try conv=>cbv
 refine Bg ?_;refine AL ?_;conv=>cbv
 refine fun _=>⟨⟨⟨⟨rfl,rfl,rfl,rfl,rfl,rfl,rfl,trivial⟩,t2,trivial⟩,rfl,by simp⟩,rfl⟩
theorem fu (F:Fm TT w R b c M q p) (h:Nm TT w b l T1 A1 x2) (i:Nm TT w b l' T2 A2 y2) (C:Nm TT w b j T3 A3 z) (v:q*l+p<=d) (g:q*l'+p<=d) (B:d+c+1<=M) (s:l+c+1<=M) (u:l'+c+1<=M) (h3:j+c+1<=M) (D:¬(x2=0/\y2=0)):∃T A r o f a,DY TT w b (l'+d+1) (j+d+1) T A r o f a (un x2) (y2*AT (fs x2 y2)) (z*AT (fs x2 y2))/\Bp Tryz.prog 252 [.one (.As 0 0 0),.agg (AU T1 A1),.agg (AU T2 A2),.agg (AU T3 A3)] (.var 0 [.int .i64 0]) (.AG [(true,(AN T A r o f a)),(false,[.int .i64 0])]):=by
 by_cases n:x2=0
 ·exact fv F h i C v g B s u h3 n fun e=>D ⟨n,e⟩
 exact fw F h i C v g B s u h3 n
theorem Xw:CF 188 [.agg (AN T1 A1 T2 A2 T3 A3)] (.agg (AH T1 A1 T2 A2)):=by
 refine Ah Tryz.func188 fun E a=>?_
 conv=>cbv
 exact AF ⟨⟨rfl,rfl,rfl,rfl,rfl,trivial⟩,trivial⟩
theorem lJ (F:Fm TT w R b c M q p) (I:Vm TT w b k k' T1 A1 T2 A2 x1 y1) (J:Vm TT w b l l' T3 A3 T4 A4 x2 y2) (Z:l+c+1<=M) (C:l'+c+1<=M) (H:¬(x2=0/\y2=0)) (X:q*l+p<=d) (B:q*l'+p<=d) (Y:d+c+1<=M) (h1:k+k'+l+l'+c+4<=M:=by omega):∃T A G D g f,DY TT w b (l+d+1) (k+k'+l+l'+d+4) T A G D g f (un (-y2)) (x2*AT (fs (-y2) x2)) ((-y2*x1+x2*y1)*AT (fs (-y2) x2))/\CF 182 [.agg (AH T1 A1 T2 A2),.agg (AH T3 A3 T4 A4)] (.AG [(true,(AN T A G D g f)),(false,[.int .i64 0])]):=by
 obtain⟨A5,i,K⟩:=bX F J;obtain⟨T6,A6,S,L⟩:=G9 F i.x I.x;obtain⟨T7,A7,U,N⟩:=G9 F i.y I.y;obtain⟨T8,A8,W,O⟩:=Nw F S U;obtain⟨T9,A9,s,n,u,o,v,Q⟩:=fu F i.x i.y W B X Y (by omega) (by omega) (by omega) (fun h=>H ⟨by grind,by grind⟩);refine⟨T9,A9,s,n,u,o,⟨v.x,v.y.mono (by omega),v.z.mono (by omega)⟩,?_⟩;refine Ah Tryz.func182 fun E a=>?_
 conv=>cbv
 refine AB (r:= .one (.bool false)) a (Ue F J Z C (e:=false) ⟨fun h=>(by cases h),fun h=>absurd h H⟩) ?_;conv=>cbv
 refine AB a K ?_;conv=>cbv
 refine Ai 12 1 a L ?_;try conv=>cbv
 refine Ai 12 1 a N ?_;try conv=>cbv
 refine Ai 12 1 a O ?_;try conv=>cbv
 refine Ai 12 1 a Q ?_;try conv=>cbv
 refine Bg ?_;exact AF ⟨⟨rfl,rfl,rfl,rfl,rfl,rfl,rfl,trivial⟩,t2,trivial⟩
theorem ZR (F:Fm TT w R b c M q p) (B:Vm TT w b k k' T1 A1 T2 A2 x1 y1) (H:Vm TT w b l l' T3 A3 T4 A4 x2 y2) (O:2*k+4*c+3<=M) (u:2*k'+4*c+3<=M) (Q:2*l+4*c+3<=M) (v:2*l'+4*c+3<=M) (G:¬(x1=x2/\y1=y2)) (L:q*(l+k+1)+p<=d:=by omega) (s:q*(l'+k'+1)+p<=d:=by omega) (N:d+c+1<=M:=by omega) (S:2*k+2*k'+l+l'+c+6<=M:=by omega):∃T A D C f a,DY TT w b (l+k+d+2) (2*k+2*k'+l+l'+d+6) T A D C f a (un (-(y2+ -y1))) ((x2+ -x1)*AT (fs (-(y2+ -y1)) (x2+ -x1))) ((-(y2+ -y1)*x1+(x2+ -x1)*y1)*AT (fs (-(y2+ -y1)) (x2+ -x1)))/\CF 99 [.agg (AH T1 A1 T2 A2),.agg (AH T3 A3 T4 A4)] (.AG [(true,(AN T A D C f a)),(false,[.int .i64 0])]):=by
 obtain⟨T5,A5,T6,A6,K,I⟩:=Hj F H B;obtain⟨T8,A8,T9,A9,i,g,n,J⟩:=lJ F B K (by omega) (by omega) (fun h=>G ⟨by grind,by grind⟩) L s N;refine⟨T8,A8,T9,A9,i,g,⟨n.x,n.y.mono (by omega),n.z.mono (by omega)⟩,?_⟩;refine Ah Tryz.func99 fun E o=>?_
 conv=>cbv
 refine AB (r:= .one (.bool false)) o (DU F B H O u Q v (e:=false) ⟨fun h=>(by cases h),fun h=>absurd h G⟩) ?_;conv=>cbv
 refine AB o I ?_;conv=>cbv
 refine AL ?_;conv=>cbv
 refine AB o J ?_;conv=>cbv
 exact AF ⟨⟨rfl,rfl,rfl,rfl,rfl,rfl,rfl,trivial⟩,t2,trivial⟩
theorem ZS (F:Fm TT w R b c M q p) (o:Vm TT w b k k' T1 A1 T2 A2 x1 y1) (r:Vm TT w b l l' T3 A3 T4 A4 x2 y2) (i:2*k+4*c+3<=M) (a:2*k'+4*c+3<=M) (n:2*l+4*c+3<=M) (f:2*l'+4*c+3<=M) (g:x1=x2/\y1=y2):CF 99 [.agg (AH T1 A1 T2 A2),.agg (AH T3 A3 T4 A4)] (.AG [(true,(AN [] [] [] [] [] [])),(false,[.int .i64 11])]):=by
 refine Ah Tryz.func99 fun E h=>?_
 conv=>cbv
 refine AB h (DU F o r i a n f (e:=true) ⟨fun _=>g,fun _=>rfl⟩) ?_;conv=>cbv
 exact AF ⟨⟨rfl,AJ,AJ,AJ,AJ,AJ,AJ,trivial⟩,t2,trivial⟩
theorem RQ (F:Fm TT w R b c M q p) (n:DY TT w b k k' T1 A1 T2 A2 T3 A3 x y z) (hm:DY TT w b l l' T4 A4 T5 A5 T6 A6 x' y' z') (v:2*k+4*c+3<=M) (u:2*l+4*c+3<=M) (h3:4*c+5<=M) (he:e=true↔x=x'/\y=y'):CF 184 [.agg (AN T1 A1 T2 A2 T3 A3),.agg (AN T4 A4 T5 A5 T6 A6)] (.one (.bool e)):=by
 obtain⟨s,f,o,_⟩:=Fp F n.x hm.x;obtain⟨r,a,g,_⟩:=Fp F n.y hm.y;refine Ah Tryz.func184 fun E i=>?_
 conv=>cbv
 refine AB i o ?_;conv=>cbv
 cases s <;> conv=>cbv
 ·exact AF ⟨⟨rfl,congrArg _ (by cases e with | false=>rfl | true=>exact absurd (f.2 (he.1 rfl).1) (by simp)),trivial⟩,trivial⟩
 refine AB i g ?_;conv=>cbv
 exact AF ⟨⟨rfl,congrArg _ (by rw[Bool.eq_iff_iff,a,he];exact⟨fun h=>h.2,fun h=>⟨f.1 rfl,h⟩⟩),trivial⟩,trivial⟩
theorem RO (F:Fm TT w R b c M q p) (o:DY TT w b k k' T1 A1 T2 A2 T3 A3 x y z) (hm:DY TT w b l l' T4 A4 T5 A5 T6 A6 x' y' z') (u:2*k+4*c+3<=M) (i:2*l+4*c+3<=M) (v:2*k'+4*c+3<=M) (A:2*l'+4*c+3<=M) (h3:4*c+5<=M) (he:e=true↔(x=x'/\y=y')/\z=z'):CF 183 [.agg (AN T1 A1 T2 A2 T3 A3),.agg (AN T4 A4 T5 A5 T6 A6)] (.one (.bool e)):=by
 obtain⟨s,a⟩:=GQ (x=x'/\y=y');obtain⟨r,f,g,_⟩:=Fp F o.z hm.z;refine Ah Tryz.func183 fun E n=>?_
 conv=>cbv
 refine AB n (RQ F o hm u i h3 a) ?_;conv=>cbv
 cases s <;> conv=>cbv
 ·exact AF ⟨⟨rfl,congrArg _ (by cases e with | false=>rfl | true=>exact absurd (a.2 (he.1 rfl).1) (by simp)),trivial⟩,trivial⟩
 refine AB n g ?_;conv=>cbv
 exact AF ⟨⟨rfl,congrArg _ (by rw[Bool.eq_iff_iff,f,he];exact⟨fun h=>h.2,fun h=>⟨a.1 rfl,h⟩⟩),trivial⟩,trivial⟩
theorem Ss (F:Fm TT w R b c M q p) (n:DY TT w b k k' T1 A1 T2 A2 T3 A3 x y z) (hm:DY TT w b l l' T4 A4 T5 A5 T6 A6 x' y' z') (v:2*k+4*c+3<=M) (u:2*l+4*c+3<=M) (h3:4*c+5<=M) (he:e=true↔x=x'/\y=y'):CF 201 [.agg (AN T1 A1 T2 A2 T3 A3),.agg (AN T4 A4 T5 A5 T6 A6)] (.one (.bool e)):=by
 obtain⟨s,f,_,o⟩:=Fp F n.x hm.x;obtain⟨r,a,_,g⟩:=Fp F n.y hm.y;refine Ah Tryz.func201 fun E i=>?_
 conv=>cbv
 refine AB i o ?_;conv=>cbv
 cases s <;> conv=>cbv
 ·exact AF ⟨⟨rfl,congrArg _ (by cases e with | false=>rfl | true=>exact absurd (f.2 (he.1 rfl).1) (by simp)),trivial⟩,trivial⟩
 refine AB i g ?_;conv=>cbv
 exact AF ⟨⟨rfl,congrArg _ (by rw[Bool.eq_iff_iff,a,he];exact⟨fun h=>h.2,fun h=>⟨f.1 rfl,h⟩⟩),trivial⟩,trivial⟩
theorem Sf (F:Fm TT w R b c M q p) (o:DY TT w b k k' T1 A1 T2 A2 T3 A3 x y z) (hm:DY TT w b l l' T4 A4 T5 A5 T6 A6 x' y' z') (u:2*k+4*c+3<=M) (i:2*l+4*c+3<=M) (v:2*k'+4*c+3<=M) (A:2*l'+4*c+3<=M) (h3:4*c+5<=M) (he:e=true↔(x=x'/\y=y')/\z=z'):CF 200 [.agg (AN T1 A1 T2 A2 T3 A3),.agg (AN T4 A4 T5 A5 T6 A6)] (.one (.bool e)):=by
 obtain⟨s,a⟩:=GQ (x=x'/\y=y');obtain⟨r,f,_,g⟩:=Fp F o.z hm.z;refine Ah Tryz.func200 fun E n=>?_
 conv=>cbv
 refine AB n (Ss F o hm u i h3 a) ?_;conv=>cbv
 cases s <;> conv=>cbv
 ·exact AF ⟨⟨rfl,congrArg _ (by cases e with | false=>rfl | true=>exact absurd (a.2 (he.1 rfl).1) (by simp)),trivial⟩,trivial⟩
 refine AB n g ?_;conv=>cbv
 exact AF ⟨⟨rfl,congrArg _ (by rw[Bool.eq_iff_iff,f,he];exact⟨fun h=>h.2,fun h=>⟨a.1 rfl,h⟩⟩),trivial⟩,trivial⟩
end Go.Abs
namespace Go.Abs
open Go.RowKit
noncomputable def EH (α β γ x y:Re):Re:=(α*x+β*y-γ)*AT (α*α+β*β)
variable {A1 A2 A3 A4 A5:LR} {M R b c d k l m m' p q:Nat} {T1 T2 T3 T4 T5:List LR} {TT:List (List Rat)->Prop} {t:Int} {w:List (List Rat)} {x y α β γ:Re}
theorem gU (F:Fm TT w R b c M q p) (f:DY TT w b k l T1 A1 T2 A2 T3 A3 α β γ) (ha:Vm TT w b m m' T4 A4 T5 A5 x y) (r:¬(α=0/\β=0)) (C:q*(2*k+5)+p<=d) (H:d+c+1<=M) (D:k+l+m+m'+c+8<=M:=by omega) (G:2*k+c+8<=M:=by omega):∃T A,Nm TT w b (k+l+m+m'+d+6) T A (EH α β γ x y)/\Bp Tryz.prog 298 [.one (.As 0 0 0),.agg (AN T1 A1 T2 A2 T3 A3),.agg (AH T4 A4 T5 A5)] (.var 0 [.int .i64 0]) (.agg (AU T A)):=by
 have g:Vm TT w b 1 k T1 A1 T2 A2 α β:=⟨f.x,f.y⟩;obtain⟨T6,A6,s,h⟩:=NO F g ha;obtain⟨T7,A7,u,i,_⟩:=Dr F s f.z;obtain⟨T8,A8,v,n⟩:=IB F g;obtain⟨T9,A9,B,o,_⟩:=Fa F u (v.mono (by omega:2*1+2*k+3<=2*k+5)) C (KO r);refine⟨T9,A9,B.mono (by omega),?_⟩;refine CE Tryz.func298 fun E a=>?_
 conv=>cbv
 refine AB a Xw ?_;conv=>cbv
 refine AB a h ?_;conv=>cbv
 refine Ai 0 0 a Kk ?_;try conv=>cbv
 refine AB a i ?_;conv=>cbv
 refine Ai 0 0 a Kk ?_;try conv=>cbv
 refine Bg ?_;refine AB a n ?_;conv=>cbv
 refine Ai 0 0 a Kk ?_;try conv=>cbv
 refine AB a o ?_;conv=>cbv
 refine Ai 0 0 a Kk ?_;try conv=>cbv
 refine Bg ?_;refine fun _=>⟨⟨⟨t3,trivial⟩,rfl,by simp⟩,rfl⟩
theorem jK (F:Fm TT w R b c M q p) (s:DY TT w b k l T1 A1 T2 A2 T3 A3 α β γ) (ha:Vm TT w b m m' T4 A4 T5 A5 x y) (J:¬(α=0/\β=0)) (Q:q*(2*k+5)+p<=d) (S:d+c+1<=M) (ht: -9223372036854775808<=t/\t<9223372036854775808) (B:Cz (t:Rat)) (h3:2*k+l+m+m'+d+c+12<=M):∃T A v u,Vm TT w b (k+l+2*m+m'+d+11) (2*k+l+m+2*m'+d+10) T A v u (x-α*(EH α β γ x y*Re.ofRat (t:Rat))) (y-β*(EH α β γ x y*Re.ofRat (t:Rat)))/\CF 255 [.agg (AN T1 A1 T2 A2 T3 A3),.agg (AH T4 A4 T5 A5),.one (.int .i64 t)] (.AG [(true,(AH T A v u)),(false,[.int .i64 0])]):=by
 obtain⟨A6,f⟩:=C5 (em [] (Re.ofRat (t:Rat)));have K:Nm TT w b 1 [] A6 (Re.ofRat (t:Rat)):=f ▸ HX F (by omega) (G8 B F.hb);have U:Vm TT w b 1 k T1 A1 T2 A2 α β:=⟨s.x,s.y⟩;obtain⟨T7,A7,L,G⟩:=gU F s ha J Q S;obtain⟨T8,A8,N,H,_⟩:=DA F L K;obtain⟨T9,A9,D,C,O,I⟩:=IA F U N;obtain⟨i,g,n,h,r,o⟩:=Ix F ha O;refine⟨i,g,n,h,r.mono (by omega) (by omega),?_⟩;refine Ah Tryz.func255 fun E a=>?_
 conv=>cbv
 refine Ai 11 1 a G ?_;try conv=>cbv
 refine AB a (cG ht (mR B) f) ?_;conv=>cbv
 refine AB a H ?_;conv=>cbv
 refine Ai 11 1 a Kk ?_;try conv=>cbv
 refine AB a Xw ?_;conv=>cbv
 refine AB a I ?_;conv=>cbv
 refine Ai 11 1 a N6 ?_;try conv=>cbv
 refine AB a o ?_;conv=>cbv
 refine Ai 11 1 a N6 ?_;try conv=>cbv
 refine Ai 11 1 a gV ?_;try conv=>cbv
 refine Bg ?_;exact AF ⟨⟨rfl,rfl,rfl,rfl,rfl,trivial⟩,t2,trivial⟩
theorem RP (F:Fm TT w R b c M q p) (s:DY TT w b k l T1 A1 T2 A2 T3 A3 α β γ) (ha:Vm TT w b m m' T4 A4 T5 A5 x y) (h:¬(α=0/\β=0)) (o:q*(2*k+5)+p<=d) (r:d+c+1<=M:=by omega) (h3:2*k+l+m+m'+d+c+12<=M:=by omega):∃T A f a,Vm TT w b (k+l+2*m+m'+d+11) (2*k+l+m+2*m'+d+10) T A f a (x-α*(EH α β γ x y*Re.ofRat (((1:Int):Rat)))) (y-β*(EH α β γ x y*Re.ofRat (((1:Int):Rat))))/\CF 196 [.agg (AN T1 A1 T2 A2 T3 A3),.agg (AH T4 A4 T5 A5)] (.AG [(true,(AH T A f a)),(false,[.int .i64 0])]):=by
 obtain⟨T7,A7,T8,A8,i,g⟩:=jK F s ha h o r (t:=1) (by decide) (by decide +kernel) h3;refine⟨T7,A7,T8,A8,i,?_⟩;refine Ah Tryz.func196 fun E n=>?_
 conv=>cbv
 refine AB n g ?_;conv=>cbv
 exact AF ⟨⟨rfl,rfl,rfl,rfl,rfl,trivial⟩,t2,trivial⟩
theorem Si (F:Fm TT w R b c M q p) (f:DY TT w b k l T1 A1 T2 A2 T3 A3 α β γ) (ha:Vm TT w b m m' T4 A4 T5 A5 x y) (v:k+l+m+m'+c+8<=M:=by omega):∃T A,Nm TT w b (k+l+m+m'+5) T A (α*x+β*y-γ)/\Bp Tryz.prog 194 [.one (.As 0 0 0),.agg (AN T1 A1 T2 A2 T3 A3),.agg (AH T4 A4 T5 A5)] (.var 0 [.int .i64 0]) (.agg (AU T A)):=by
 obtain⟨T6,A6,o,g⟩:=G9 F f.x ha.x;obtain⟨T7,A7,r,h⟩:=G9 F f.y ha.y;obtain⟨T8,A8,s,i⟩:=Nw F o r;obtain⟨T9,A9,u,n⟩:=QZ F s f.z;refine⟨T9,A9,u.mono (by omega),?_⟩;refine CE Tryz.func194 fun E a=>?_
 conv=>cbv
 refine Ai 0 0 a g ?_;try conv=>cbv
 refine Ai 0 0 a h ?_;try conv=>cbv
 refine Ai 0 0 a i ?_;try conv=>cbv
 refine Ai 0 0 a n ?_;try conv=>cbv
 refine Bg ?_;refine fun _=>⟨⟨⟨t3,trivial⟩,rfl,by simp⟩,rfl⟩
theorem lX (F:Fm TT w R b c M q p) (f:DY TT w b k l T1 A1 T2 A2 T3 A3 α β γ) (ha:Vm TT w b m m' T4 A4 T5 A5 x y) (h0:¬(α=0/\β=0)) (hd:q*(2*k+5)+p<=d) (hi:d+c+1<=M) (ht: -9223372036854775808<=t/\t<9223372036854775808) (hs:Cz (t:Rat)) (h3:2*k+l+m+m'+d+c+12<=M):∃T A Q O,Vm TT w b (k+l+2*m+m'+d+11) (2*k+l+m+2*m'+d+10) T A Q O (x-EH α β γ x y*Re.ofRat (t:Rat)*α) (y-EH α β γ x y*Re.ofRat (t:Rat)*β)/\CF 126 [.agg (AN T1 A1 T2 A2 T3 A3),.agg (AH T4 A4 T5 A5),.one (.int .i64 t)] (.AG [(true,(AH T A Q O)),(false,[.int .i64 0])]):=by
 obtain⟨A6,h⟩:=C5 (em [] (Re.ofRat (t:Rat)));have h6:Nm TT w b 1 [] A6 (Re.ofRat (t:Rat)):=h ▸ HX F (by omega) (G8 hs F.hb);obtain⟨T7,A7,h7,c7⟩:=Si F f ha;obtain⟨T8,A8,h8,c8⟩:=G9 F f.x f.x;obtain⟨T9,A9,h9,c9⟩:=G9 F f.y f.y;obtain⟨Z,S,H,s⟩:=Nw F h8 h9;obtain⟨a1,U,I,u⟩:=JA F h7 (H.mono (by omega:_<=2*k+5)) hd (KO h0);obtain⟨a2,W,g,v⟩:=G9 F I h6;obtain⟨a5,X,J,B⟩:=G9 F g f.x;obtain⟨o,i,K,C⟩:=QZ F ha.x J;obtain⟨a6,Y,L,D⟩:=G9 F g f.y;obtain⟨r,n,N,G⟩:=QZ F ha.y L;refine⟨o,i,r,n,⟨K.mono (by omega),N.mono (by omega)⟩,?_⟩;refine Ah Tryz.func126 fun E a=>?_
 conv=>cbv
 refine Ai 11 1 a c7 ?_;try conv=>cbv
 refine Ai 11 1 a c8 ?_;try conv=>cbv
 refine Ai 11 1 a c9 ?_;try conv=>cbv
 refine Ai 11 1 a s ?_;try conv=>cbv
 refine Ai 11 1 a u ?_;try conv=>cbv
 refine Bg ?_;refine AB a (Nb ht h) ?_;conv=>cbv
 refine Ai 11 1 a v ?_;try conv=>cbv
 refine Bg ?_;refine Ai 11 1 a B ?_;try conv=>cbv
 refine Ai 11 1 a C ?_;try conv=>cbv
 refine Ai 11 1 a D ?_;try conv=>cbv
 refine Ai 11 1 a G ?_;try conv=>cbv
 refine Ai 11 1 a gA ?_;try conv=>cbv
 refine Bg ?_;exact AF ⟨⟨rfl,rfl,rfl,rfl,rfl,trivial⟩,t2,trivial⟩
theorem lL (F:Fm TT w R b c M q p) (s:DY TT w b k l T1 A1 T2 A2 T3 A3 α β γ) (ha:Vm TT w b m m' T4 A4 T5 A5 x y) (h:¬(α=0/\β=0)) (o:q*(2*k+5)+p<=d) (r:d+c+1<=M) (h3:2*k+l+m+m'+d+c+12<=M):∃T A f a,Vm TT w b (k+l+2*m+m'+d+11) (2*k+l+m+2*m'+d+10) T A f a (x-EH α β γ x y*Re.ofRat (((1:Int):Rat))*α) (y-EH α β γ x y*Re.ofRat (((1:Int):Rat))*β)/\CF 54 [.agg (AN T1 A1 T2 A2 T3 A3),.agg (AH T4 A4 T5 A5)] (.AG [(true,(AH T A f a)),(false,[.int .i64 0])]):=by
 obtain⟨T7,A7,T8,A8,i,g⟩:=lX F s ha h o r (t:=1) (by decide) (by decide +kernel) h3;refine⟨T7,A7,T8,A8,i,?_⟩;refine Ah Tryz.func54 fun E n=>?_
 conv=>cbv
 refine AB n g ?_;conv=>cbv
 exact AF ⟨⟨rfl,rfl,rfl,rfl,rfl,trivial⟩,t2,trivial⟩
theorem ZQ (F:Fm TT w R b c M q p) (f:DY TT w b k l T1 A1 T2 A2 T3 A3 α β γ) (ha:Vm TT w b m m' T4 A4 T5 A5 x y) (H:¬(α=0/\β=0)) (L:q*(2*k+5)+p<=d) (O:d+c+1<=M:=by omega) (N:2*(k+l+m+m')+c+14<=M:=by omega):∃T A,Nm TT w b (2*(k+l+m+m')+d+12) T A ((α*x+β*y-γ)*(α*x+β*y-γ)*AT (α*α+β*β))/\CF 258 [.agg (AN T1 A1 T2 A2 T3 A3),.agg (AH T4 A4 T5 A5)] (.AG [(true,(AU T A)),(false,[.int .i64 0])]):=by
 obtain⟨T7,A7,s,C⟩:=Si F f ha;obtain⟨T6,A6,I,B⟩:=G9 F s s;obtain⟨T8,A8,J,D⟩:=G9 F f.x f.x;obtain⟨T9,A9,K,G⟩:=G9 F f.y f.y;obtain⟨v,u,o,i⟩:=Nw F J K;obtain⟨h,g,r,n⟩:=JA F I (o.mono (by omega:_<=2*k+5)) L (KO H);refine⟨h,g,r.mono (by omega),?_⟩;refine Ah Tryz.func258 fun E a=>?_
 conv=>cbv
 refine Ai 9 1 a C ?_;try conv=>cbv
 refine Ai 9 1 a B ?_;try conv=>cbv
 refine Ai 9 1 a D ?_;try conv=>cbv
 refine Ai 9 1 a G ?_;try conv=>cbv
 refine Ai 9 1 a i ?_;try conv=>cbv
 refine Ai 9 1 a n ?_;try conv=>cbv
 refine Ai 9 1 a fz ?_;try conv=>cbv
 refine Bg ?_;exact AF ⟨t3,t2,trivial⟩
theorem Xx (F:Fm TT w R b c M q p) (G:DY TT w b k l T1 A1 T2 A2 T3 A3 α β γ) (ha:Vm TT w b m m' T4 A4 T5 A5 x y) (u:¬(α=0/\β=0)) (C:q*(2*k+5)+p<=d) (D:d+c+1<=M:=by omega) (h3:2*k+l+m+m'+d+c+12<=M:=by omega) (H:2*(k+l+3*m+m'+d+12)+c+2<=M:=by omega) (I:2*(2*k+l+m+3*m'+d+11)+c+2<=M:=by omega):∃T A,Nm TT w b (6*k+4*l+8*m+8*m'+4*d+49) T A ((x-(x-α*(EH α β γ x y*Re.ofRat (((1:Int):Rat)))))*(x-(x-α*(EH α β γ x y*Re.ofRat (((1:Int):Rat)))))+(y-(y-β*(EH α β γ x y*Re.ofRat (((1:Int):Rat)))))*(y-(y-β*(EH α β γ x y*Re.ofRat (((1:Int):Rat))))))/\CF 197 [.agg (AN T1 A1 T2 A2 T3 A3),.agg (AH T4 A4 T5 A5)] (.AG [(true,(AU T A)),(false,[.int .i64 0])]):=by
 obtain⟨T7,A7,T8,A8,v,r⟩:=RP F G ha u C D h3;obtain⟨T9,A9,o,n,B,s⟩:=Ix F ha v;obtain⟨g,f,i,h⟩:=IB F B;refine⟨g,f,i.mono (by omega),?_⟩;refine Ah Tryz.func197 fun E a=>?_
 conv=>cbv
 refine AB a r ?_;conv=>cbv
 refine Ai 10 1 a N6 ?_;try conv=>cbv
 refine AB a s ?_;conv=>cbv
 refine Ai 10 1 a N6 ?_;try conv=>cbv
 refine AB a h ?_;conv=>cbv
 refine Ai 10 1 a Kk ?_;try conv=>cbv
 refine AL ?_;conv=>cbv
 exact AF ⟨t3,t2,trivial⟩
theorem ZP (F:Fm TT w R b c M q p) (r:DY TT w b k l T1 A1 T2 A2 T3 A3 α β γ) (ha:Vm TT w b m m' T4 A4 T5 A5 x y) (u:k+l+m+m'+c+8<=M) {e:Bool} (he:e=true↔α*x+β*y=γ):CF 111 [.agg (AN T1 A1 T2 A2 T3 A3),.agg (AH T4 A4 T5 A5)] (.one (.bool e)):=by
 obtain⟨T7,A7,o,i⟩:=Si F r ha;obtain⟨v,f,_,n⟩:=Dh F o;refine Ah Tryz.func111 fun E g=>?_
 conv=>cbv
 refine Ai 8 1 g i ?_;try conv=>cbv
 refine Aw ?_;conv=>cbv
 refine AB g n ?_;conv=>cbv
 intro s a;conv=>cbv
 exact AF ⟨⟨rfl,congrArg _ (by rw[Bool.eq_iff_iff,he,a,beq_iff_eq,f,GX];constructor <;> intro h <;> grind),trivial⟩,trivial⟩
end Go.Abs
namespace Go.Abs
section
variable {P:List (List Rat)->Prop} {V:List Re}
theorem fg {k n:Nat} {q:Rat} (h:Bd k [q]):Bd k (q::List.replicate n 0):=by
 obtain⟨D,a,f,g,h3⟩:=h;exact⟨D,a,f,Qu g,R7 h3⟩
theorem Tf.Tw (I:CY P 256) (v:∀{r u},P (r::u)->u=[]) {u:List (List Rat)} (h:Tf P u):TB 256 u:=by
 induction h with
 | nil=>exact fun r A=>absurd A (by simp)
 | @BT u o C ht f B n=>
  obtain rfl:=v f
  by_cases i:Sq u (AP [] o)
  ·rw[Et i];exact n
  rw[Dk i];intro s a;rcases List.mem_cons.1 a with rfl | a
  ·obtain⟨q,g⟩:=Cs.1 (B6 (I.red f));have hb:Bd 256 (co [] (AP [] o)):=by rw[FL (I.red f)];exact (I.tb f).head
   rw[g,Dl] at hb;rw[g,Hs q (ht.red I)];exact fg hb
  exact n s a
abbrev Cl:Nat:=40000
theorem Tf.XC (I:CY P 256) (g:∀{r u},P (r::u)->u=[]) (hV:∀{u},P u->∀v∈Go.Abs.BO u,v∈V) (h3:V.length<=3) {u w:List (List Rat)} {s:Nat} {x:Re} (hu:Tf P u) (hw:Tf P w) (f:Be u w) (a:El u s x):El w (s+Cl) x:=by
 by_cases i:w.length<=2
 ·refine (a.CG (hw.red I) (hw.Tw I g) (hu.red I) (hu.Tw I g) f).mono ?_;have:=Jf (k:=u.length) (k':=3) (R0:=256) (IJ:=256) (h:=w.length) (h':=2) (R:=256) (R':=256) (Nat.le_trans (hu.len I hV) h3) (Nat.le_refl _) i (Nat.le_refl _);have A:CC 3 256 2 256<=Cl:=by decide +kernel
  omega
 refine⟨f _ a.mem,(QR (hw.red I) (hu.red I) (fun v o=>Classical.byContradiction fun n=>?_) a.mem a.bd).mono (Nat.le_add_right _ _)⟩
 have:=JR (l:=v::Go.Abs.BO w) (m:=V) (List.nodup_cons.2 ⟨n,HH (hw.red I)⟩) (fun x a=>by
  rcases List.mem_cons.1 a with rfl | a
  ·exact hu.BO I hV _ o
  exact hw.BO I hV x a)
 rw[List.length_cons,Je] at this;omega
theorem iB (I:CY P 256) (i:∀{r u},P (r::u)->u=[]) (hV:∀{u},P u->∀v∈Go.Abs.BO u,v∈V) (h3:V.length<=3) {C S:Nat} (o:Cl<=C) (g:C<=Cn) (a:Rn<=S) (f:S<=Sm):DW (Tf P) Rn C S:=
 have G:=iC I hV h3 a f
 {G with
  CG:=fun hu hw h n=>(Tf.XC I i hV h3 hu hw h n).mono (by omega)
  fit:=fun hu=>(G.fit hu).mono (by omega)
  mul:=fun hu=>by have:=G.mul hu;omega
  Hu:=fun hu=>(G.Hu hu).mono (by omega)}
end
end Go.Abs
namespace Go.Abs
open Go.RowKit
abbrev Fl (TT:List (List Rat)->Prop) (w:List (List Rat)):Prop:=Fm TT w Rn 2100 20 43400000 23 14
variable {P:List (List Rat)->Prop} {V:List Re} {b k:Nat} {ns:List Nu} {w:List (List Rat)}
theorem Pl.fl (L:Pl P V w) (g:∀{r u},P (r::u)->u=[]):Fl (Tf P) w:=by
 have h:BJ 256 w:=⟨L.hw.red L.I,L.hw.Tw L.I g,by decide,by have:=L.len L.hw;omega⟩
 refine⟨fun {S} i n=>iB L.I g L.hV L.h3 (by decide) (by decide) i (Nat.le_trans n (by decide)),L.hw,L.ha,by decide,by decide,fun {x y s t} a f=>(a.mul h f).mono (by
  have:=Hk (L.len L.hw) (Nat.le_refl 256);have e:EE 3 256<=2100:=by decide +kernel
  omega),fun {x y s} a f e=>(a.inv h f e).mono (Nat.le_trans (IG (L.len L.hw) (Nat.le_refl _) (Nat.le_refl _)) (by simp only[II,EE];omega)),fun {u} hu=>?_⟩
 exact Nat.le_trans (IG (L.len hu) (Nat.le_refl _) (Nat.le_refl _)) (Nat.le_trans (iP _) (by decide))
noncomputable def Fo (ns:List Nu):List Nu:=ns.filter (fun n=>decide (n.1.length<=1))
theorem YF (h:∀n∈ns,CH V n):∀n∈Fo ns,CH V n:=fun n a=>h n (List.mem_filter.1 a).1
theorem Ev {r:List Rat} {u:List (List Rat)} (h:PN (Fo ns) (r::u)):u=[]:=by
 obtain⟨n,f,g⟩:=h;have i:=of_decide_eq_true (List.mem_filter.1 f).2;have a:=g.length_le;rw[List.length_cons] at a;exact List.length_eq_zero_iff.1 (by omega)
theorem Yf (L:Pl (PN (Fo ns)) V w) (h:∀n∈ns,CH V n) {n:Nu} (a:n∈ns\/n=ID) (f:(tw n.1).length<=1) (hb:40512<=k*b):Nm (Tf (PN (Fo ns))) w b k (tw n.1) (em n.1 n.2) n.2:=by
 rcases a with a | rfl
 ·have hm:n∈Fo ns:=List.mem_filter.2 ⟨a,decide_eq_true (by rw[tw,List.length_map,List.length_reverse] at f;exact f)⟩;have hu:=GR L.h3 (YF h) hm;have he:=(h n a).el L.h3;exact⟨n.1,hu,rfl,rfl,he.mem,(Tf.XC L.I Ev L.hV L.h3 hu L.hw (L.ha hu) he).mono (Nat.le_trans (by decide) hb)⟩
 exact⟨[],.nil,rfl,rfl,HS 0 [],(El.rat (L.hw.red L.I) (G8 (b:=64) (r:=0) (by decide +kernel) (Nat.le_refl 64))).mono (Nat.le_trans (by decide) hb)⟩
theorem ZI {W:List UInt8} (L:Pl (PN (Fo ns)) V w) (h:∀n∈ns,CH V n) {i:Nat} {x:el BI} {Q:List (el BI)} (f:Q=LL ns W) (a:Q[i]? =some x) (o:x.1.1.length<=1) (r:x.2.1.length<=1):∃X Y,∀{b k:Nat},40512<=k*b->Vm (Tf (PN (Fo ns))) w b k k x.1.1 x.1.2 x.2.1 x.2.2 X Y:=by
 unfold LL at f
 split at f
 ·rw[f,List.getElem?_map] at a;cases g:(G1 ns W)[i]? with
  | none=>rw[g] at a;simp at a
  | some p=>
   rw[g] at a;have e:vm p=x:=Option.some.inj a;obtain⟨m1,m2⟩:=lH (List.mem_of_getElem? g);rw[<-e] at o r ⊢;exact⟨_,_,fun hb=>⟨Yf L h m1 o hb,Yf L h m2 r hb⟩⟩
 subst f;simp at a
theorem Ye {w0:List (List Rat)} (L:Pl P V w0) {K:Nat} {T:List LR} {A:LR} {n:Re} (F:Nm (Tf P) w0 b k T A n) (g:k<=K) (s:K*b<=46300000) (v:0<n):∃TT w,F9 TT w/\(∀{b' k':Nat} {r:List LR} {o:LR} {x:Re},k'*b'<=47000000->Nm (Tf P) w0 b' k' r o x->Nm TT w 47000000 1 r o x)/\Rt (Tf P) w0 b K TT w 47000000 1 n:=by
 have i:k*b<=46300000:=Nat.le_trans (Nat.mul_le_mul_right b g) s;obtain⟨_,_,_,_,_,he⟩:=F;have f:El w0 R9 n:=he.mono i;have a:(0:Re)<=n:=by grind
 refine⟨_,_,L.f9 f a,fun g h=>L.lift f.mem a h (by omega),⟨fun {k T1 A1} g ha=>?_⟩⟩;have C:k*b<=46300000:=Nat.le_trans (Nat.mul_le_mul_right b g) s;have D:=L.lift f.mem a (b':=47000000) (k':=1) ha (by omega);obtain⟨u,hu,B,_,G,_⟩:=ha;refine kR (L.f9 f a) D (by decide) (fun H _ e _=>?_) a ?_ (by decide)
 ·rw[<-NN (B.symm.trans e)];exact hu.Vj L.I G
 have W:=bQ L.I L.hV L.h3 L.hw f v;exact⟨W.root,W.rb.mono (by decide)⟩
theorem YE (hV:V.length<=3) (h:∀n∈ns,CH V n):∃w,Pl (PN (Fo ns)) V w:=SW hV (YF h)
end Go.Abs
