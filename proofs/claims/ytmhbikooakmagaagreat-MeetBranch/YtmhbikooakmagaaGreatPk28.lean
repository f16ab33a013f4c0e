/- Part 29 of a proof. Conditions: each theorem's own. -/
import Derived.Test.YtmhbikooakmagaaGreatPk27
set_option linter.all false
set_option maxHeartbeats 8000000
set_option maxRecDepth 20000
open Go.Proofs
namespace Go.Abs
open Go.RowKit
variable {A1 A2 A3 A4 A5 A6:LR} {M R b c d j k k' l l' p q:Nat} {T1 T2 T3 T4 T5 T6:List LR} {TT:List (List Rat)->Prop} {e:Bool} {w:List (List Rat)} {x x' x1 x2 y y' y1 y2 z z':Re}
theorem J4:BU Tryz.prog 280 [.one (.Ag 0 0 0),.agg (AK T1 A1),.one (.int .i64 0)] (.var 0 [.int .i64 0]) (.agg (AK T1 A1)):=by
 refine CX Tryz.func280 fun E a=>?_
 conv=>cbv
 refine BG ?_;conv=>cbv
 refine .inr ?_;refine AO ?_;conv=>cbv
 refine fun _=>⟨⟨⟨t3,trivial⟩,rfl,by simp⟩,rfl⟩
theorem OD:BU Tryz.prog 283 [.one (.Ag 0 0 0),.agg (AG T1 A1 T2 A2),.one (.int .i64 0)] (.var 0 [.int .i64 0]) (.agg (AG T1 A1 T2 A2)):=by
 refine CX Tryz.func283 fun E a=>?_
 conv=>cbv
 refine BG ?_;conv=>cbv
 refine .inr ?_;refine AO ?_;conv=>cbv
 refine fun _=>⟨⟨⟨⟨rfl,rfl,rfl,rfl,rfl,trivial⟩,trivial⟩,rfl,by simp⟩,rfl⟩
theorem gN:BU Tryz.prog 339 [.one (.Ag 0 0 0),.agg (AG T1 A1 T2 A2)] (.var 0 [.int .i64 0]) (.AF [(true,(AG T1 A1 T2 A2)),(false,[.int .i64 0])]):=by
 refine CX Tryz.func339 fun E a=>?_
 conv=>cbv
 refine AO ?_;conv=>cbv
 refine fun _=>⟨⟨⟨⟨rfl,rfl,rfl,rfl,rfl,trivial⟩,t2,trivial⟩,rfl,by simp⟩,rfl⟩
theorem N6:BU Tryz.prog 262 [.one (.Ag 0 0 0),.agg (AK T1 A1),.one (.int .i64 0)] (.var 0 [.int .i64 0]) (.agg (AK T1 A1)):=by
 refine CX Tryz.func262 fun E a=>?_
 conv=>cbv
 refine BG ?_;conv=>cbv
 refine .inr ?_;refine AO ?_;conv=>cbv
 refine fun _=>⟨⟨⟨t3,trivial⟩,rfl,by simp⟩,rfl⟩
theorem N5 (F:Fm TT w R b c M q p) (ha:Nm TT w b k T1 A1 x) (hb:Nm TT w b l T2 A2 y) (h:k+c+1<=M:=by omega) (i:l+c+1<=M:=by omega):∃T A,Nm TT w b (k+l+1) T A (x+y)/\BU Tryz.prog 155 [.one (.Ag 0 0 0),.agg (AK T1 A1),.agg (AK T2 A2)] (.var 0 [.int .i64 0]) (.agg (AK T A)):=by
 obtain⟨T5,A5,g,_,f⟩:=G0 F ha hb;refine⟨T5,A5,g,?_⟩;refine CX Tryz.func155 fun E a=>?_
 conv=>cbv
 refine AB a f ?_;conv=>cbv
 refine Ah 0 0 a N6 ?_;try conv=>cbv
 refine fun _=>⟨⟨⟨t3,trivial⟩,rfl,by simp⟩,rfl⟩
theorem QZ (F:Fm TT w R b c M q p) (ha:Nm TT w b k T1 A1 x) (hb:Nm TT w b l T2 A2 y) (h:k+c+1<=M:=by omega) (i:l+c+1<=M:=by omega):∃T A,Nm TT w b (k+l+1) T A (x-y)/\BU Tryz.prog 157 [.one (.Ag 0 0 0),.agg (AK T1 A1),.agg (AK T2 A2)] (.var 0 [.int .i64 0]) (.agg (AK T A)):=by
 obtain⟨T5,A5,g,_,f⟩:=F6 F ha hb;refine⟨T5,A5,g,?_⟩;refine CX Tryz.func157 fun E a=>?_
 conv=>cbv
 refine AB a f ?_;conv=>cbv
 refine Ah 0 0 a N6 ?_;try conv=>cbv
 refine fun _=>⟨⟨⟨t3,trivial⟩,rfl,by simp⟩,rfl⟩
theorem HG (F:Fm TT w R b c M q p) (ha:Nm TT w b k T1 A1 x) (hb:Nm TT w b l T2 A2 y) (h:k+c+1<=M:=by omega) (i:l+c+1<=M:=by omega):∃T A,Nm TT w b (k+l+1) T A (x*y)/\BU Tryz.prog 156 [.one (.Ag 0 0 0),.agg (AK T1 A1),.agg (AK T2 A2)] (.var 0 [.int .i64 0]) (.agg (AK T A)):=by
 obtain⟨T5,A5,g,_,f⟩:=D5 F ha hb;refine⟨T5,A5,g,?_⟩;refine CX Tryz.func156 fun E a=>?_
 conv=>cbv
 refine AB a f ?_;conv=>cbv
 refine Ah 0 0 a N6 ?_;try conv=>cbv
 refine fun _=>⟨⟨⟨t3,trivial⟩,rfl,by simp⟩,rfl⟩
theorem JI (F:Fm TT w R b c M q p) (ha:Nm TT w b k T1 A1 x) (hb:Nm TT w b l T2 A2 y) (i:q*l+p<=d) (g:y≠0) (o:k+c+1<=M:=by omega) (r:l+c+1<=M:=by omega) (n:d+c+1<=M:=by omega):∃T A,Nm TT w b (k+d+1) T A (x*AT y)/\BU Tryz.prog 278 [.one (.Ag 0 0 0),.agg (AK T1 A1),.agg (AK T2 A2)] (.var 0 [.int .i64 0]) (.agg (AK T A)):=by
 obtain⟨T5,A5,h,_,f⟩:=Hp F ha hb i g;refine⟨T5,A5,h,?_⟩;refine CX Tryz.func278 fun E a=>?_
 conv=>cbv
 refine AB a f ?_;conv=>cbv
 refine Ah 0 0 a N6 ?_;try conv=>cbv
 refine fun _=>⟨⟨⟨t3,trivial⟩,rfl,by simp⟩,rfl⟩
theorem fm:BU Tryz.prog 279 [.one (.Ag 0 0 0),.agg (AK T1 A1),.agg (AK T2 A2)] (.var 0 [.int .i64 0]) (.AF [(true,(AG T1 A1 T2 A2)),(false,[.int .i64 0])]):=by
 refine CX Tryz.func279 fun E a=>?_
 conv=>cbv
 refine AO ?_;conv=>cbv
 refine fun _=>⟨⟨⟨⟨rfl,rfl,rfl,rfl,rfl,trivial⟩,t2,trivial⟩,rfl,by simp⟩,rfl⟩
theorem fk:BU Tryz.prog 341 [.one (.Ag 0 0 0),.agg (AK T1 A1)] (.var 0 [.int .i64 0]) (.AF [(true,(AK T1 A1)),(false,[.int .i64 0])]):=by
 refine CX Tryz.func341 fun E a=>?_
 conv=>cbv
 refine AO ?_;conv=>cbv
 refine fun _=>⟨⟨⟨t3,t2,trivial⟩,rfl,by simp⟩,rfl⟩
theorem fh (F:Fm TT w R b c M q p) (a:Nm TT w b l T1 A1 x2) (B:Nm TT w b l' T2 A2 y2) (Q:Nm TT w b j T3 A3 z) (v:q*l+p<=d) (O:q*l'+p<=d) (X:d+c+1<=M) (U:l+c+1<=M) (W:l'+c+1<=M) (h3:j+c+1<=M) (f:x2≠0):∃T A G D h g,Da TT w b (l'+d+1) (j+d+1) T A G D h g (un x2) (y2*AT (fs x2 y2)) (z*AT (fs x2 y2))/\BU Tryz.prog 272 [.one (.Ag 0 0 0),.agg (AK T1 A1),.agg (AK T2 A2),.agg (AK T3 A3)] (.var 0 [.int .i64 0]) (.AF [(true,(AY T A G D h g)),(false,[.int .i64 0])]):=by
 obtain⟨S,n,_,u⟩:=Fb F a;obtain⟨T6,A6,K,H⟩:=JI F a a v f;obtain⟨T7,A7,L,I⟩:=JI F B a v f;obtain⟨T8,A8,N,J⟩:=JI F Q a v f;rw[W4 f,TP f];refine⟨T6,A6,T7,A7,T8,A8,⟨(O0 F (by omega) (r:=1) (by decide +kernel) K (Hk f)),L.mono (by omega),N.mono (by omega)⟩,?_⟩;refine CX Tryz.func272 fun E s=>?_
 conv=>cbv
 refine AB s u ?_;conv=>cbv
 intro C i;conv=>cbv
 refine .inr ?_;cases C <;> conv=>cbv
 ·have o:=Ao i;refine Ah 0 0 s H ?_;try conv=>cbv
  refine Ah 0 0 s I ?_;try conv=>cbv
  refine Ah 0 0 s J ?_;try conv=>cbv
  refine Br ?_;refine AO ?_;conv=>cbv
  refine fun _=>⟨⟨⟨⟨rfl,rfl,rfl,rfl,rfl,rfl,rfl,trivial⟩,t2,trivial⟩,rfl,by simp⟩,rfl⟩
 have o:=BA i;exact absurd (Gj.1 (n.symm.trans o)) f
theorem fg (F:Fm TT w R b c M q p) (o:Nm TT w b l T1 A1 x2) (a:Nm TT w b l' T2 A2 y2) (Q:Nm TT w b j T3 A3 z) (X:q*l+p<=d) (f:q*l'+p<=d) (Y:d+c+1<=M) (U:l+c+1<=M) (W:l'+c+1<=M) (h3:j+c+1<=M) (v:x2=0) (C:y2≠0):∃T A H G h g,Da TT w b (l'+d+1) (j+d+1) T A H G h g (un x2) (y2*AT (fs x2 y2)) (z*AT (fs x2 y2))/\BU Tryz.prog 272 [.one (.Ag 0 0 0),.agg (AK T1 A1),.agg (AK T2 A2),.agg (AK T3 A3)] (.var 0 [.int .i64 0]) (.AF [(true,(AY T A H G h g)),(false,[.int .i64 0])]):=by
 obtain⟨S,n,_,B⟩:=Fb F o;obtain⟨T6,A6,L,I⟩:=JI F o a f C;obtain⟨T7,A7,N,J⟩:=JI F a a f C;obtain⟨T8,A8,O,K⟩:=JI F Q a f C;rw[W2 v,TO v];refine⟨T6,A6,T7,A7,T8,A8,⟨(O0 F (by omega) (r:=0) (by decide +kernel) L (show _=(0:Re) by rw[v];grind)),N.mono (by omega),O.mono (by omega)⟩,?_⟩;refine CX Tryz.func272 fun E u=>?_
 conv=>cbv
 refine AB u B ?_;conv=>cbv
 intro D i;conv=>cbv
 refine .inr ?_;cases D <;> conv=>cbv
 ·have s:=Ao i;exact absurd (n.trans (by rw[v];exact Gk)) s
 have s:=BA i;refine Ah 0 0 u I ?_;try conv=>cbv
 refine Ah 0 0 u J ?_;try conv=>cbv
 refine Ah 0 0 u K ?_;try conv=>cbv
 refine Br ?_;refine AO ?_;conv=>cbv
 refine fun _=>⟨⟨⟨⟨rfl,rfl,rfl,rfl,rfl,rfl,rfl,trivial⟩,t2,trivial⟩,rfl,by simp⟩,rfl⟩
theorem ff (F:Fm TT w R b c M q p) (h:Nm TT w b l T1 A1 x2) (i:Nm TT w b l' T2 A2 y2) (C:Nm TT w b j T3 A3 z) (v:q*l+p<=d) (g:q*l'+p<=d) (B:d+c+1<=M) (s:l+c+1<=M) (u:l'+c+1<=M) (h3:j+c+1<=M) (D:¬(x2=0/\y2=0)):∃T A r o f a,Da TT w b (l'+d+1) (j+d+1) T A r o f a (un x2) (y2*AT (fs x2 y2)) (z*AT (fs x2 y2))/\BU Tryz.prog 272 [.one (.Ag 0 0 0),.agg (AK T1 A1),.agg (AK T2 A2),.agg (AK T3 A3)] (.var 0 [.int .i64 0]) (.AF [(true,(AY T A r o f a)),(false,[.int .i64 0])]):=by
 by_cases n:x2=0
 ·exact fg F h i C v g B s u h3 n fun e=>D ⟨n,e⟩
 exact fh F h i C v g B s u h3 n
theorem RI:CF 281 [.agg (AY T1 A1 T2 A2 T3 A3)] (.agg (AG T1 A1 T2 A2)):=by
 refine BH Tryz.func281 fun E a=>?_
 conv=>cbv
 exact AD ⟨⟨rfl,rfl,rfl,rfl,rfl,trivial⟩,trivial⟩
theorem lU (F:Fm TT w R b c M q p) (I:Vm TT w b k k' T1 A1 T2 A2 x1 y1) (J:Vm TT w b l l' T3 A3 T4 A4 x2 y2) (Z:l+c+1<=M) (C:l'+c+1<=M) (H:¬(x2=0/\y2=0)) (X:q*l+p<=d) (B:q*l'+p<=d) (Y:d+c+1<=M) (h1:k+k'+l+l'+c+4<=M:=by omega):∃T A G D g f,Da TT w b (l+d+1) (k+k'+l+l'+d+4) T A G D g f (un (-y2)) (x2*AT (fs (-y2) x2)) ((-y2*x1+x2*y1)*AT (fs (-y2) x2))/\CF 183 [.agg (AG T1 A1 T2 A2),.agg (AG T3 A3 T4 A4)] (.AF [(true,(AY T A G D g f)),(false,[.int .i64 0])]):=by
 obtain⟨A5,i,K⟩:=Ts F J;obtain⟨T6,A6,S,L⟩:=HG F i.x I.x;obtain⟨T7,A7,U,N⟩:=HG F i.y I.y;obtain⟨T8,A8,W,O⟩:=N5 F S U;obtain⟨T9,A9,s,n,u,o,v,Q⟩:=ff F i.x i.y W B X Y (by omega) (by omega) (by omega) (fun h=>H ⟨by grind,by grind⟩);refine⟨T9,A9,s,n,u,o,⟨v.x,v.y.mono (by omega),v.z.mono (by omega)⟩,?_⟩;refine BH Tryz.func183 fun E a=>?_
 conv=>cbv
 refine AB (r:= .one (.bool false)) a (bJ F J Z C (e:=false) ⟨fun h=>(by cases h),fun h=>absurd h H⟩) ?_;conv=>cbv
 refine AB a K ?_;conv=>cbv
 refine Ah 12 1 a L ?_;try conv=>cbv
 refine Ah 12 1 a N ?_;try conv=>cbv
 refine Ah 12 1 a O ?_;try conv=>cbv
 refine Ah 12 1 a Q ?_;try conv=>cbv
 refine Br ?_;exact AD ⟨⟨rfl,rfl,rfl,rfl,rfl,rfl,rfl,trivial⟩,t2,trivial⟩
theorem mF (F:Fm TT w R b c M q p) (B:Vm TT w b k k' T1 A1 T2 A2 x1 y1) (H:Vm TT w b l l' T3 A3 T4 A4 x2 y2) (O:2*k+4*c+3<=M) (u:2*k'+4*c+3<=M) (Q:2*l+4*c+3<=M) (v:2*l'+4*c+3<=M) (G:¬(x1=x2/\y1=y2)) (L:q*(l+k+1)+p<=d:=by omega) (s:q*(l'+k'+1)+p<=d:=by omega) (N:d+c+1<=M:=by omega) (S:2*k+2*k'+l+l'+c+6<=M:=by omega):∃T A D C f a,Da TT w b (l+k+d+2) (2*k+2*k'+l+l'+d+6) T A D C f a (un (-(y2+ -y1))) ((x2+ -x1)*AT (fs (-(y2+ -y1)) (x2+ -x1))) ((-(y2+ -y1)*x1+(x2+ -x1)*y1)*AT (fs (-(y2+ -y1)) (x2+ -x1)))/\CF 60 [.agg (AG T1 A1 T2 A2),.agg (AG T3 A3 T4 A4)] (.AF [(true,(AY T A D C f a)),(false,[.int .i64 0])]):=by
 obtain⟨T5,A5,T6,A6,K,I⟩:=Lu F H B;obtain⟨T8,A8,T9,A9,i,g,n,J⟩:=lU F B K (by omega) (by omega) (fun h=>G ⟨by grind,by grind⟩) L s N;refine⟨T8,A8,T9,A9,i,g,⟨n.x,n.y.mono (by omega),n.z.mono (by omega)⟩,?_⟩;refine BH Tryz.func60 fun E o=>?_
 conv=>cbv
 refine AB (r:= .one (.bool false)) o (GW F B H O u Q v (e:=false) ⟨fun h=>(by cases h),fun h=>absurd h G⟩) ?_;conv=>cbv
 refine AB o I ?_;conv=>cbv
 refine AO ?_;conv=>cbv
 refine AB o J ?_;conv=>cbv
 exact AD ⟨⟨rfl,rfl,rfl,rfl,rfl,rfl,rfl,trivial⟩,t2,trivial⟩
theorem mG (F:Fm TT w R b c M q p) (o:Vm TT w b k k' T1 A1 T2 A2 x1 y1) (r:Vm TT w b l l' T3 A3 T4 A4 x2 y2) (i:2*k+4*c+3<=M) (a:2*k'+4*c+3<=M) (n:2*l+4*c+3<=M) (f:2*l'+4*c+3<=M) (g:x1=x2/\y1=y2):CF 60 [.agg (AG T1 A1 T2 A2),.agg (AG T3 A3 T4 A4)] (.AF [(true,(AY [] [] [] [] [] [])),(false,[.int .i64 11])]):=by
 refine BH Tryz.func60 fun E h=>?_
 conv=>cbv
 refine AB h (GW F o r i a n f (e:=true) ⟨fun _=>g,fun _=>rfl⟩) ?_;conv=>cbv
 exact AD ⟨⟨rfl,AU,AU,AU,AU,AU,AU,trivial⟩,t2,trivial⟩
theorem RJ (F:Fm TT w R b c M q p) (n:Da TT w b k k' T1 A1 T2 A2 T3 A3 x y z) (hm:Da TT w b l l' T4 A4 T5 A5 T6 A6 x' y' z') (v:2*k+4*c+3<=M) (u:2*l+4*c+3<=M) (h3:4*c+5<=M) (he:e=true↔x=x'/\y=y'):CF 194 [.agg (AY T1 A1 T2 A2 T3 A3),.agg (AY T4 A4 T5 A5 T6 A6)] (.one (.bool e)):=by
 obtain⟨s,f,o,_⟩:=F5 F n.x hm.x;obtain⟨r,a,g,_⟩:=F5 F n.y hm.y;refine BH Tryz.func194 fun E i=>?_
 conv=>cbv
 refine AB i o ?_;conv=>cbv
 cases s <;> conv=>cbv
 ·exact AD ⟨⟨rfl,congrArg _ (by cases e with | false=>rfl | true=>exact absurd (f.2 (he.1 rfl).1) (by simp)),trivial⟩,trivial⟩
 refine AB i g ?_;conv=>cbv
 exact AD ⟨⟨rfl,congrArg _ (by rw[Bool.eq_iff_iff,a,he];exact⟨fun h=>h.2,fun h=>⟨f.1 rfl,h⟩⟩),trivial⟩,trivial⟩
theorem RH (F:Fm TT w R b c M q p) (o:Da TT w b k k' T1 A1 T2 A2 T3 A3 x y z) (hm:Da TT w b l l' T4 A4 T5 A5 T6 A6 x' y' z') (u:2*k+4*c+3<=M) (i:2*l+4*c+3<=M) (v:2*k'+4*c+3<=M) (A:2*l'+4*c+3<=M) (h3:4*c+5<=M) (he:e=true↔(x=x'/\y=y')/\z=z'):CF 193 [.agg (AY T1 A1 T2 A2 T3 A3),.agg (AY T4 A4 T5 A5 T6 A6)] (.one (.bool e)):=by
 obtain⟨s,a⟩:=Er (x=x'/\y=y');obtain⟨r,f,g,_⟩:=F5 F o.z hm.z;refine BH Tryz.func193 fun E n=>?_
 conv=>cbv
 refine AB n (RJ F o hm u i h3 a) ?_;conv=>cbv
 cases s <;> conv=>cbv
 ·exact AD ⟨⟨rfl,congrArg _ (by cases e with | false=>rfl | true=>exact absurd (a.2 (he.1 rfl).1) (by simp)),trivial⟩,trivial⟩
 refine AB n g ?_;conv=>cbv
 exact AD ⟨⟨rfl,congrArg _ (by rw[Bool.eq_iff_iff,f,he];exact⟨fun h=>h.2,fun h=>⟨a.1 rfl,h⟩⟩),trivial⟩,trivial⟩
theorem SU (F:Fm TT w R b c M q p) (n:Da TT w b k k' T1 A1 T2 A2 T3 A3 x y z) (hm:Da TT w b l l' T4 A4 T5 A5 T6 A6 x' y' z') (v:2*k+4*c+3<=M) (u:2*l+4*c+3<=M) (h3:4*c+5<=M) (he:e=true↔x=x'/\y=y'):CF 207 [.agg (AY T1 A1 T2 A2 T3 A3),.agg (AY T4 A4 T5 A5 T6 A6)] (.one (.bool e)):=by
 obtain⟨s,f,_,o⟩:=F5 F n.x hm.x;obtain⟨r,a,_,g⟩:=F5 F n.y hm.y;refine BH Tryz.func207 fun E i=>?_
 conv=>cbv
 refine AB i o ?_;conv=>cbv
 cases s <;> conv=>cbv
 ·exact AD ⟨⟨rfl,congrArg _ (by cases e with | false=>rfl | true=>exact absurd (f.2 (he.1 rfl).1) (by simp)),trivial⟩,trivial⟩
 refine AB i g ?_;conv=>cbv
 exact AD ⟨⟨rfl,congrArg _ (by rw[Bool.eq_iff_iff,a,he];exact⟨fun h=>h.2,fun h=>⟨f.1 rfl,h⟩⟩),trivial⟩,trivial⟩
theorem SP (F:Fm TT w R b c M q p) (o:Da TT w b k k' T1 A1 T2 A2 T3 A3 x y z) (hm:Da TT w b l l' T4 A4 T5 A5 T6 A6 x' y' z') (u:2*k+4*c+3<=M) (i:2*l+4*c+3<=M) (v:2*k'+4*c+3<=M) (A:2*l'+4*c+3<=M) (h3:4*c+5<=M) (he:e=true↔(x=x'/\y=y')/\z=z'):CF 206 [.agg (AY T1 A1 T2 A2 T3 A3),.agg (AY T4 A4 T5 A5 T6 A6)] (.one (.bool e)):=by
 obtain⟨s,a⟩:=Er (x=x'/\y=y');obtain⟨r,f,_,g⟩:=F5 F o.z hm.z;refine BH Tryz.func206 fun E n=>?_
 conv=>cbv
 refine AB n (SU F o hm u i h3 a) ?_;conv=>cbv
 cases s <;> conv=>cbv
 ·exact AD ⟨⟨rfl,congrArg _ (by cases e with | false=>rfl | true=>exact absurd (a.2 (he.1 rfl).1) (by simp)),trivial⟩,trivial⟩
 refine AB n g ?_;conv=>cbv
 exact AD ⟨⟨rfl,congrArg _ (by rw[Bool.eq_iff_iff,f,he];exact⟨fun h=>h.2,fun h=>⟨a.1 rfl,h⟩⟩),trivial⟩,trivial⟩
end Go.Abs
namespace Go.Abs
open Go.RowKit
noncomputable def EK (α β γ x y:Re):Re:=(α*x+β*y-γ)*AT (α*α+β*β)
variable {A1 A2 A3 A4 A5:LR} {M R b c d k l m m' p q:Nat} {T1 T2 T3 T4 T5:List LR} {TT:List (List Rat)->Prop} {e:Bool} {t:Int} {w:List (List Rat)} {x y α β γ:Re}
theorem gM (F:Fm TT w R b c M q p) (f:Da TT w b k l T1 A1 T2 A2 T3 A3 α β γ) (ha:Vm TT w b m m' T4 A4 T5 A5 x y) (r:¬(α=0/\β=0)) (C:q*(2*k+5)+p<=d) (H:d+c+1<=M) (D:k+l+m+m'+c+8<=M:=by omega) (G:2*k+c+8<=M:=by omega):∃T A,Nm TT w b (k+l+m+m'+d+6) T A (EK α β γ x y)/\BU Tryz.prog 338 [.one (.Ag 0 0 0),.agg (AY T1 A1 T2 A2 T3 A3),.agg (AG T4 A4 T5 A5)] (.var 0 [.int .i64 0]) (.agg (AK T A)):=by
 have g:Vm TT w b 1 k T1 A1 T2 A2 α β:=⟨f.x,f.y⟩;obtain⟨T6,A6,s,h⟩:=NX F g ha;obtain⟨T7,A7,u,i,_⟩:=F6 F s f.z;obtain⟨T8,A8,v,n⟩:=KR F g;obtain⟨T9,A9,B,o,_⟩:=Hp F u (v.mono (by omega:2*1+2*k+3<=2*k+5)) C (NQ r);refine⟨T9,A9,B.mono (by omega),?_⟩;refine CX Tryz.func338 fun E a=>?_
 conv=>cbv
 refine AB a RI ?_;conv=>cbv
 refine AB a h ?_;conv=>cbv
 refine Ah 0 0 a J4 ?_;try conv=>cbv
 refine AB a i ?_;conv=>cbv
 refine Ah 0 0 a J4 ?_;try conv=>cbv
 refine Br ?_;refine AB a n ?_;conv=>cbv
 refine Ah 0 0 a J4 ?_;try conv=>cbv
 refine AB a o ?_;conv=>cbv
 refine Ah 0 0 a J4 ?_;try conv=>cbv
 refine Br ?_;refine fun _=>⟨⟨⟨t3,trivial⟩,rfl,by simp⟩,rfl⟩
theorem jE (F:Fm TT w R b c M q p) (s:Da TT w b k l T1 A1 T2 A2 T3 A3 α β γ) (ha:Vm TT w b m m' T4 A4 T5 A5 x y) (J:¬(α=0/\β=0)) (Q:q*(2*k+5)+p<=d) (S:d+c+1<=M) (ht: -9223372036854775808<=t/\t<9223372036854775808) (B:C5 (t:Rat)) (h3:2*k+l+m+m'+d+c+12<=M):∃T A v u,Vm TT w b (k+l+2*m+m'+d+11) (2*k+l+m+2*m'+d+10) T A v u (x-α*(EK α β γ x y*Re.ofRat (t:Rat))) (y-β*(EK α β γ x y*Re.ofRat (t:Rat)))/\CF 282 [.agg (AY T1 A1 T2 A2 T3 A3),.agg (AG T4 A4 T5 A5),.one (.int .i64 t)] (.AF [(true,(AG T A v u)),(false,[.int .i64 0])]):=by
 obtain⟨A6,f⟩:=C3 (em [] (Re.ofRat (t:Rat)));have K:Nm TT w b 1 [] A6 (Re.ofRat (t:Rat)):=f ▸ KE F (by omega) (JG B F.hb);have U:Vm TT w b 1 k T1 A1 T2 A2 α β:=⟨s.x,s.y⟩;obtain⟨T7,A7,L,G⟩:=gM F s ha J Q S;obtain⟨T8,A8,N,H,_⟩:=D5 F L K;obtain⟨T9,A9,D,C,O,I⟩:=Ln F U N;obtain⟨i,g,n,h,r,o⟩:=Jm F ha O;refine⟨i,g,n,h,r.mono (by omega) (by omega),?_⟩;refine BH Tryz.func282 fun E a=>?_
 conv=>cbv
 refine Ah 11 1 a G ?_;try conv=>cbv
 refine AB a (bh ht (nC B) f) ?_;conv=>cbv
 refine AB a H ?_;conv=>cbv
 refine Ah 11 1 a J4 ?_;try conv=>cbv
 refine AB a RI ?_;conv=>cbv
 refine AB a I ?_;conv=>cbv
 refine Ah 11 1 a OD ?_;try conv=>cbv
 refine AB a o ?_;conv=>cbv
 refine Ah 11 1 a OD ?_;try conv=>cbv
 refine Ah 11 1 a gN ?_;try conv=>cbv
 refine Br ?_;exact AD ⟨⟨rfl,rfl,rfl,rfl,rfl,trivial⟩,t2,trivial⟩
theorem XU (F:Fm TT w R b c M q p) (s:Da TT w b k l T1 A1 T2 A2 T3 A3 α β γ) (ha:Vm TT w b m m' T4 A4 T5 A5 x y) (h:¬(α=0/\β=0)) (o:q*(2*k+5)+p<=d) (r:d+c+1<=M:=by omega) (h3:2*k+l+m+m'+d+c+12<=M:=by omega):∃T A f a,Vm TT w b (k+l+2*m+m'+d+11) (2*k+l+m+2*m'+d+10) T A f a (x-α*(EK α β γ x y*Re.ofRat (((1:Int):Rat)))) (y-β*(EK α β γ x y*Re.ofRat (((1:Int):Rat))))/\CF 195 [.agg (AY T1 A1 T2 A2 T3 A3),.agg (AG T4 A4 T5 A5)] (.AF [(true,(AG T A f a)),(false,[.int .i64 0])]):=by
 obtain⟨T7,A7,T8,A8,i,g⟩:=jE F s ha h o r (t:=1) (by decide) (by decide +kernel) h3;refine⟨T7,A7,T8,A8,i,?_⟩;refine BH Tryz.func195 fun E n=>?_
 conv=>cbv
 refine AB n g ?_;conv=>cbv
 exact AD ⟨⟨rfl,rfl,rfl,rfl,rfl,trivial⟩,t2,trivial⟩
theorem SQ (F:Fm TT w R b c M q p) (f:Da TT w b k l T1 A1 T2 A2 T3 A3 α β γ) (ha:Vm TT w b m m' T4 A4 T5 A5 x y) (v:k+l+m+m'+c+8<=M:=by omega):∃T A,Nm TT w b (k+l+m+m'+5) T A (α*x+β*y-γ)/\BU Tryz.prog 204 [.one (.Ag 0 0 0),.agg (AY T1 A1 T2 A2 T3 A3),.agg (AG T4 A4 T5 A5)] (.var 0 [.int .i64 0]) (.agg (AK T A)):=by
 obtain⟨T6,A6,o,g⟩:=HG F f.x ha.x;obtain⟨T7,A7,r,h⟩:=HG F f.y ha.y;obtain⟨T8,A8,s,i⟩:=N5 F o r;obtain⟨T9,A9,u,n⟩:=QZ F s f.z;refine⟨T9,A9,u.mono (by omega),?_⟩;refine CX Tryz.func204 fun E a=>?_
 conv=>cbv
 refine Ah 0 0 a g ?_;try conv=>cbv
 refine Ah 0 0 a h ?_;try conv=>cbv
 refine Ah 0 0 a i ?_;try conv=>cbv
 refine Ah 0 0 a n ?_;try conv=>cbv
 refine Br ?_;refine fun _=>⟨⟨⟨t3,trivial⟩,rfl,by simp⟩,rfl⟩
theorem mH (F:Fm TT w R b c M q p) (f:Da TT w b k l T1 A1 T2 A2 T3 A3 α β γ) (ha:Vm TT w b m m' T4 A4 T5 A5 x y) (h0:¬(α=0/\β=0)) (hd:q*(2*k+5)+p<=d) (hi:d+c+1<=M) (ht: -9223372036854775808<=t/\t<9223372036854775808) (hs:C5 (t:Rat)) (h3:2*k+l+m+m'+d+c+12<=M):∃T A Q O,Vm TT w b (k+l+2*m+m'+d+11) (2*k+l+m+2*m'+d+10) T A Q O (x-EK α β γ x y*Re.ofRat (t:Rat)*α) (y-EK α β γ x y*Re.ofRat (t:Rat)*β)/\CF 190 [.agg (AY T1 A1 T2 A2 T3 A3),.agg (AG T4 A4 T5 A5),.one (.int .i64 t)] (.AF [(true,(AG T A Q O)),(false,[.int .i64 0])]):=by
 obtain⟨A6,h⟩:=C3 (em [] (Re.ofRat (t:Rat)));have h6:Nm TT w b 1 [] A6 (Re.ofRat (t:Rat)):=h ▸ KE F (by omega) (JG hs F.hb);obtain⟨T7,A7,h7,c7⟩:=SQ F f ha;obtain⟨T8,A8,h8,c8⟩:=HG F f.x f.x;obtain⟨T9,A9,h9,c9⟩:=HG F f.y f.y;obtain⟨Z,S,H,s⟩:=N5 F h8 h9;obtain⟨a1,U,I,u⟩:=JI F h7 (H.mono (by omega:_<=2*k+5)) hd (NQ h0);obtain⟨a2,W,g,v⟩:=HG F I h6;obtain⟨a5,X,J,B⟩:=HG F g f.x;obtain⟨o,i,K,C⟩:=QZ F ha.x J;obtain⟨a6,Y,L,D⟩:=HG F g f.y;obtain⟨r,n,N,G⟩:=QZ F ha.y L;refine⟨o,i,r,n,⟨K.mono (by omega),N.mono (by omega)⟩,?_⟩;refine BH Tryz.func190 fun E a=>?_
 conv=>cbv
 refine Ah 11 1 a c7 ?_;try conv=>cbv
 refine Ah 11 1 a c8 ?_;try conv=>cbv
 refine Ah 11 1 a c9 ?_;try conv=>cbv
 refine Ah 11 1 a s ?_;try conv=>cbv
 refine Ah 11 1 a u ?_;try conv=>cbv
 refine Br ?_;refine AB a (Pw ht h) ?_;conv=>cbv
 refine Ah 11 1 a v ?_;try conv=>cbv
 refine Br ?_;refine Ah 11 1 a B ?_;try conv=>cbv
 refine Ah 11 1 a C ?_;try conv=>cbv
 refine Ah 11 1 a D ?_;try conv=>cbv
 refine Ah 11 1 a G ?_;try conv=>cbv
 refine Ah 11 1 a fm ?_;try conv=>cbv
 refine Br ?_;exact AD ⟨⟨rfl,rfl,rfl,rfl,rfl,trivial⟩,t2,trivial⟩
theorem lZ (F:Fm TT w R b c M q p) (s:Da TT w b k l T1 A1 T2 A2 T3 A3 α β γ) (ha:Vm TT w b m m' T4 A4 T5 A5 x y) (h:¬(α=0/\β=0)) (o:q*(2*k+5)+p<=d) (r:d+c+1<=M) (h3:2*k+l+m+m'+d+c+12<=M):∃T A f a,Vm TT w b (k+l+2*m+m'+d+11) (2*k+l+m+2*m'+d+10) T A f a (x-EK α β γ x y*Re.ofRat (((1:Int):Rat))*α) (y-EK α β γ x y*Re.ofRat (((1:Int):Rat))*β)/\CF 77 [.agg (AY T1 A1 T2 A2 T3 A3),.agg (AG T4 A4 T5 A5)] (.AF [(true,(AG T A f a)),(false,[.int .i64 0])]):=by
 obtain⟨T7,A7,T8,A8,i,g⟩:=mH F s ha h o r (t:=1) (by decide) (by decide +kernel) h3;refine⟨T7,A7,T8,A8,i,?_⟩;refine BH Tryz.func77 fun E n=>?_
 conv=>cbv
 refine AB n g ?_;conv=>cbv
 exact AD ⟨⟨rfl,rfl,rfl,rfl,rfl,trivial⟩,t2,trivial⟩
theorem mE (F:Fm TT w R b c M q p) (f:Da TT w b k l T1 A1 T2 A2 T3 A3 α β γ) (ha:Vm TT w b m m' T4 A4 T5 A5 x y) (H:¬(α=0/\β=0)) (L:q*(2*k+5)+p<=d) (O:d+c+1<=M:=by omega) (N:2*(k+l+m+m')+c+14<=M:=by omega):∃T A,Nm TT w b (2*(k+l+m+m')+d+12) T A ((α*x+β*y-γ)*(α*x+β*y-γ)*AT (α*α+β*β))/\CF 287 [.agg (AY T1 A1 T2 A2 T3 A3),.agg (AG T4 A4 T5 A5)] (.AF [(true,(AK T A)),(false,[.int .i64 0])]):=by
 obtain⟨T7,A7,s,C⟩:=SQ F f ha;obtain⟨T6,A6,I,B⟩:=HG F s s;obtain⟨T8,A8,J,D⟩:=HG F f.x f.x;obtain⟨T9,A9,K,G⟩:=HG F f.y f.y;obtain⟨v,u,o,i⟩:=N5 F J K;obtain⟨h,g,r,n⟩:=JI F I (o.mono (by omega:_<=2*k+5)) L (NQ H);refine⟨h,g,r.mono (by omega),?_⟩;refine BH Tryz.func287 fun E a=>?_
 conv=>cbv
 refine Ah 9 1 a C ?_;try conv=>cbv
 refine Ah 9 1 a B ?_;try conv=>cbv
 refine Ah 9 1 a D ?_;try conv=>cbv
 refine Ah 9 1 a G ?_;try conv=>cbv
 refine Ah 9 1 a i ?_;try conv=>cbv
 refine Ah 9 1 a n ?_;try conv=>cbv
 refine Ah 9 1 a fk ?_;try conv=>cbv
 refine Br ?_;exact AD ⟨t3,t2,trivial⟩
theorem jD (F:Fm TT w R b c M q p) (G:Da TT w b k l T1 A1 T2 A2 T3 A3 α β γ) (ha:Vm TT w b m m' T4 A4 T5 A5 x y) (u:¬(α=0/\β=0)) (C:q*(2*k+5)+p<=d) (D:d+c+1<=M:=by omega) (h3:2*k+l+m+m'+d+c+12<=M:=by omega) (H:2*(k+l+3*m+m'+d+12)+c+2<=M:=by omega) (I:2*(2*k+l+m+3*m'+d+11)+c+2<=M:=by omega):∃T A,Nm TT w b (6*k+4*l+8*m+8*m'+4*d+49) T A ((x-(x-α*(EK α β γ x y*Re.ofRat (((1:Int):Rat)))))*(x-(x-α*(EK α β γ x y*Re.ofRat (((1:Int):Rat)))))+(y-(y-β*(EK α β γ x y*Re.ofRat (((1:Int):Rat)))))*(y-(y-β*(EK α β γ x y*Re.ofRat (((1:Int):Rat))))))/\CF 197 [.agg (AY T1 A1 T2 A2 T3 A3),.agg (AG T4 A4 T5 A5)] (.AF [(true,(AK T A)),(false,[.int .i64 0])]):=by
 obtain⟨T7,A7,T8,A8,v,r⟩:=XU F G ha u C D h3;obtain⟨T9,A9,o,n,B,s⟩:=Jm F ha v;obtain⟨g,f,i,h⟩:=KR F B;refine⟨g,f,i.mono (by omega),?_⟩;refine BH Tryz.func197 fun E a=>?_
 conv=>cbv
 refine AB a r ?_;conv=>cbv
 refine Ah 10 1 a OD ?_;try conv=>cbv
 refine AB a s ?_;conv=>cbv
 refine Ah 10 1 a OD ?_;try conv=>cbv
 refine AB a h ?_;conv=>cbv
 refine Ah 10 1 a J4 ?_;try conv=>cbv
 refine AO ?_;conv=>cbv
 exact AD ⟨t3,t2,trivial⟩
theorem lOn (F:Fm TT w R b c M q p) (g:Da TT w b k l T1 A1 T2 A2 T3 A3 α β γ) (ha:Vm TT w b m m' T4 A4 T5 A5 x y) (u:2*(k+m+m'+4)+4*c+3<=M) (v:2*l+4*c+3<=M) (he:e=true↔α*x+β*y=γ):CF 191 [.agg (AY T1 A1 T2 A2 T3 A3),.agg (AG T4 A4 T5 A5)] (.one (.bool e)):=by
 have s:Vm TT w b 1 k T1 A1 T2 A2 α β:=⟨g.x,g.y⟩;obtain⟨T6,A6,r,h⟩:=NX F s ha;obtain⟨n,f,i,_⟩:=F5 F r g.z;have o:e=n:=by rw[Bool.eq_iff_iff,he,f]
 refine BH Tryz.func191 fun E a=>?_
 conv=>cbv
 refine AB a RI ?_;conv=>cbv
 refine AB a h ?_;conv=>cbv
 refine Ah 10 1 a J4 ?_;try conv=>cbv
 refine Br ?_;refine BG ?_;conv=>cbv
 refine AB a i ?_;conv=>cbv
 exact AD ⟨⟨rfl,congrArg _ (o),trivial⟩,trivial⟩
theorem rOn (F:Fm TT w R b c M q p) (r:Da TT w b k l T1 A1 T2 A2 T3 A3 α β γ) (ha:Vm TT w b m m' T4 A4 T5 A5 x y) (u:k+l+m+m'+c+8<=M) (he:e=true↔α*x+β*y=γ):CF 91 [.agg (AY T1 A1 T2 A2 T3 A3),.agg (AG T4 A4 T5 A5)] (.one (.bool e)):=by
 obtain⟨T7,A7,o,i⟩:=SQ F r ha;obtain⟨v,f,_,n⟩:=Fb F o;refine BH Tryz.func91 fun E g=>?_
 conv=>cbv
 refine Ah 8 1 g i ?_;try conv=>cbv
 refine BG ?_;conv=>cbv
 refine AB g n ?_;conv=>cbv
 intro s a;conv=>cbv
 exact AD ⟨⟨rfl,congrArg _ (by rw[Bool.eq_iff_iff,he,a,beq_iff_eq,f,Gj];constructor <;> intro h <;> grind),trivial⟩,trivial⟩
end Go.Abs
namespace Go.Abs
section
variable {P:List (List Rat)->Prop} {V:List Re}
theorem fW {k n:Nat} {q:Rat} (h:Bd k [q]):Bd k (q::List.replicate n 0):=by
 obtain⟨D,a,f,g,h3⟩:=h;exact⟨D,a,f,Qt g,Rp h3⟩
theorem Tf.TF (I:CU P 256) (v:∀{r u},P (r::u)->u=[]) {u:List (List Rat)} (h:Tf P u):TB 256 u:=by
 induction h with
 | nil=>exact fun r A=>absurd A (by simp)
 | @BK u o C ht f B n=>
  obtain rfl:=v f
  by_cases i:Sq u (AL [] o)
  ·rw[D3 i];exact n
  rw[Dc i];intro s a;rcases List.mem_cons.1 a with rfl | a
  ·obtain⟨q,g⟩:=Cp.1 (B8 (I.red f));have hb:Bd 256 (co [] (AL [] o)):=by rw[Es (I.red f)];exact (I.tb f).head
   rw[g,De] at hb;rw[g,IA q (ht.red I)];exact fW hb
  exact n s a
abbrev Cl:Nat:=40000
theorem Tf.Wl (I:CU P 256) (g:∀{r u},P (r::u)->u=[]) (hV:∀{u},P u->∀v∈Go.Abs.BF u,v∈V) (h3:V.length<=3) {u w:List (List Rat)} {s:Nat} {x:Re} (hu:Tf P u) (hw:Tf P w) (f:Ba u w) (a:El u s x):El w (s+Cl) x:=by
 by_cases i:w.length<=2
 ·refine (a.CE (hw.red I) (hw.TF I g) (hu.red I) (hu.TF I g) f).mono ?_;have:=Jp (k:=u.length) (k':=3) (R0:=256) (IZ:=256) (h:=w.length) (h':=2) (R:=256) (R':=256) (Nat.le_trans (hu.len I hV) h3) (Nat.le_refl _) i (Nat.le_refl _);have A:CC 3 256 2 256<=Cl:=by decide +kernel
  omega
 refine⟨f _ a.mem,(QR (hw.red I) (hu.red I) (fun v o=>Classical.byContradiction fun n=>?_) a.mem a.bd).mono (Nat.le_add_right _ _)⟩
 have:=JW (l:=v::Go.Abs.BF w) (m:=V) (List.nodup_cons.2 ⟨n,HU (hw.red I)⟩) (fun x a=>by
  rcases List.mem_cons.1 a with rfl | a
  ·exact hu.BF I hV _ o
  exact hw.BF I hV x a)
 rw[List.length_cons,Jn] at this;omega
theorem g7 (I:CU P 256) (i:∀{r u},P (r::u)->u=[]) (hV:∀{u},P u->∀v∈Go.Abs.BF u,v∈V) (h3:V.length<=3) {C S:Nat} (o:Cl<=C) (g:C<=Cn) (a:Rn<=S) (f:S<=Sm):DT (Tf P) Rn C S:=
 have G:=g8 I hV h3 a f
 {G with
  CE:=fun hu hw h n=>(Tf.Wl I i hV h3 hu hw h n).mono (by omega)
  fit:=fun hu=>(G.fit hu).mono (by omega)
  mul:=fun hu=>by have:=G.mul hu;omega
  JN:=fun hu=>(G.JN hu).mono (by omega)}
end
end Go.Abs
namespace Go.Abs
open Go.RowKit
abbrev Fl (TT:List (List Rat)->Prop) (w:List (List Rat)):Prop:=Fm TT w Rn 2100 20 43400000 23 14
variable {P:List (List Rat)->Prop} {V:List Re} {b k:Nat} {ns:List Nu} {w:List (List Rat)}
theorem Pl.fl (L:Pl P V w) (g:∀{r u},P (r::u)->u=[]):Fl (Tf P) w:=by
 have h:At 256 w:=⟨L.hw.red L.I,L.hw.TF L.I g,by decide,by have:=L.len L.hw;omega⟩
 refine⟨fun {S} i n=>g7 L.I g L.hV L.h3 (by decide) (by decide) i (Nat.le_trans n (by decide)),L.hw,L.ha,by decide,by decide,fun {x y s t} a f=>(a.mul h f).mono (by
  have:=H0 (L.len L.hw) (Nat.le_refl 256);have e:EE 3 256<=2100:=by decide +kernel
  omega),fun {x y s} a f e=>(a.inv h f e).mono (Nat.le_trans (IX (L.len L.hw) (Nat.le_refl _) (Nat.le_refl _)) (by simp only[II,EE];omega)),fun {u} hu=>?_⟩
 exact Nat.le_trans (IX (L.len hu) (Nat.le_refl _) (Nat.le_refl _)) (Nat.le_trans (iL _) (by decide))
noncomputable def Gz (ns:List Nu):List Nu:=ns.filter (fun n=>decide (n.1.length<=1))
theorem Xt (h:∀n∈ns,CK V n):∀n∈Gz ns,CK V n:=fun n a=>h n (List.mem_filter.1 a).1
theorem IJ {r:List Rat} {u:List (List Rat)} (h:PN (Gz ns) (r::u)):u=[]:=by
 obtain⟨n,f,g⟩:=h;have i:=of_decide_eq_true (List.mem_filter.1 f).2;have a:=g.length_le;rw[List.length_cons] at a;exact List.length_eq_zero_iff.1 (by omega)
theorem YG (L:Pl (PN (Gz ns)) V w) (h:∀n∈ns,CK V n) {n:Nu} (a:n∈ns\/n=IU) (f:(tw n.1).length<=1) (hb:40512<=k*b):Nm (Tf (PN (Gz ns))) w b k (tw n.1) (em n.1 n.2) n.2:=by
 rcases a with a | rfl
 ·have hm:n∈Gz ns:=List.mem_filter.2 ⟨a,decide_eq_true (by rw[tw,List.length_map,List.length_reverse] at f;exact f)⟩;have hu:=GP L.h3 (Xt h) hm;have he:=(h n a).el L.h3;exact⟨n.1,hu,rfl,rfl,he.mem,(Tf.Wl L.I IJ L.hV L.h3 hu L.hw (L.ha hu) he).mono (Nat.le_trans (by decide) hb)⟩
 exact⟨[],.nil,rfl,rfl,Hj 0 [],(El.rat (L.hw.red L.I) (JG (b:=64) (r:=0) (by decide +kernel) (Nat.le_refl 64))).mono (Nat.le_trans (by decide) hb)⟩
theorem lP {W:List UInt8} (L:Pl (PN (Gz ns)) V w) (h:∀n∈ns,CK V n) {i:Nat} {x:el Be} {Q:List (el Be)} (f:Q=Mw ns W) (a:Q[i]? =some x) (o:x.1.1.length<=1) (r:x.2.1.length<=1):∃X Y,∀{b k:Nat},40512<=k*b->Vm (Tf (PN (Gz ns))) w b k k x.1.1 x.1.2 x.2.1 x.2.2 X Y:=by
 unfold Mw at f
 split at f
 ·rw[f,List.getElem?_map] at a;cases g:(G5 ns W)[i]? with
  | none=>rw[g] at a;simp at a
  | some p=>
   rw[g] at a;have e:vm p=x:=Option.some.inj a;obtain⟨m1,m2⟩:=lR (List.mem_of_getElem? g);rw[<-e] at o r ⊢;exact⟨_,_,fun hb=>⟨YG L h m1 o hb,YG L h m2 r hb⟩⟩
 subst f;simp at a
theorem kO {w0:List (List Rat)} (L:Pl P V w0) {K:Nat} {T:List LR} {A:LR} {n:Re} (F:Nm (Tf P) w0 b k T A n) (g:k<=K) (s:K*b<=46300000) (v:0<n):∃TT w,F9 TT w/\(∀{b' k':Nat} {r:List LR} {o:LR} {x:Re},k'*b'<=47000000->Nm (Tf P) w0 b' k' r o x->Nm TT w 47000000 1 r o x)/\Rt (Tf P) w0 b K TT w 47000000 1 n:=by
 have i:k*b<=46300000:=Nat.le_trans (Nat.mul_le_mul_right b g) s;obtain⟨_,_,_,_,_,he⟩:=F;have f:El w0 R9 n:=he.mono i;have a:(0:Re)<=n:=by grind
 refine⟨_,_,L.f9 f a,fun g h=>L.lift f.mem a h (by omega),⟨fun {k T1 A1} g ha=>?_⟩⟩;have C:k*b<=46300000:=Nat.le_trans (Nat.mul_le_mul_right b g) s;have D:=L.lift f.mem a (b':=47000000) (k':=1) ha (by omega);obtain⟨u,hu,B,_,G,_⟩:=ha;refine kZ (L.f9 f a) D (by decide) (fun H _ e _=>?_) a ?_ (by decide)
 ·rw[<-NV (B.symm.trans e)];exact hu.VF L.I G
 have W:=a7 L.I L.hV L.h3 L.hw f v;exact⟨W.root,W.rb.mono (by decide)⟩
theorem jb (hV:V.length<=3) (h:∀n∈ns,CK V n):∃w,Pl (PN (Gz ns)) V w:=Ym hV (Xt h)
end Go.Abs
