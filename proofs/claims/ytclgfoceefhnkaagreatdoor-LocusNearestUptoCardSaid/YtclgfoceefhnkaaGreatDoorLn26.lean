/- Part 27 of a proof. Conditions: each theorem's own. -/
import Derived.Test.YtclgfoceefhnkaaGreatDoorLn25
set_option linter.all false
set_option maxHeartbeats 80000000
set_option maxRecDepth 20000
open Go.Proofs
namespace Go.Abs
section
open Go.RowKit
variable {A1 A2 A3 A4:LR} {M R b c d j k k' l l' p q:Nat} {T1 T2 T3 T4:List LR} {TT:List (List Rat)->Prop} {w:List (List Rat)} {x x1 x2 y y1 y2 z:Re}
theorem Mg:Bv Tryz.prog 213 [.one (.AR 0 0 0),.agg (AJ T1 A1),.one (.int .i64 0)] (.var 0 [.int .i64 0]) (.agg (AJ T1 A1)):=by
 refine CK Tryz.func213 fun E a=>?_
 conv=>cbv
 refine CU ?_;refine .inr ?_;refine BH ?_;refine fun _=>⟨⟨⟨t3,trivial⟩,rfl,by simp⟩,rfl⟩
theorem Wy:Bv Tryz.prog 217 [.one (.AR 0 0 0),.agg (AH T1 A1 T2 A2),.one (.int .i64 0)] (.var 0 [.int .i64 0]) (.agg (AH T1 A1 T2 A2)):=by
 refine CK Tryz.func217 fun E a=>?_
 conv=>cbv
 refine CU ?_;refine .inr ?_;refine BH ?_;refine fun _=>⟨⟨⟨⟨rfl,rfl,rfl,rfl,rfl,trivial⟩,trivial⟩,rfl,by simp⟩,rfl⟩
theorem iW:Bv Tryz.prog 216 [.one (.AR 0 0 0),.agg (AH T1 A1 T2 A2)] (.var 0 [.int .i64 0]) (.AI [(true,(AH T1 A1 T2 A2)),(false,[.int .i64 0])]):=by
 refine CK Tryz.func216 fun E a=>?_
 conv=>cbv
 refine BH ?_;refine fun _=>⟨⟨⟨⟨rfl,rfl,rfl,rfl,rfl,trivial⟩,t2,trivial⟩,rfl,by simp⟩,rfl⟩
theorem MT:Bv Tryz.prog 206 [.one (.AR 0 0 0),.agg (AJ T1 A1),.one (.int .i64 0)] (.var 0 [.int .i64 0]) (.agg (AJ T1 A1)):=by
 refine CK Tryz.func206 fun E a=>?_
 conv=>cbv
 refine CU ?_;refine .inr ?_;refine BH ?_;refine fun _=>⟨⟨⟨t3,trivial⟩,rfl,by simp⟩,rfl⟩
theorem Hh (F:Fm TT w R b c M q p) (ha:Nm TT w b k T1 A1 x) (hb:Nm TT w b l T2 A2 y) (h:k+c+1<=M:=by omega) (i:l+c+1<=M:=by omega):∃T A,Nm TT w b (k+l+1) T A (x+y)/\Bv Tryz.prog 109 [.one (.AR 0 0 0),.agg (AJ T1 A1),.agg (AJ T2 A2)] (.var 0 [.int .i64 0]) (.agg (AJ T A)):=by
 obtain⟨T5,A5,g,_,f⟩:=HS F ha hb;refine⟨T5,A5,g,?_⟩;refine CK Tryz.func109 fun E a=>?_
 conv=>cbv
 refine AB a f ?_;refine BZ 0 0 a MT ?_;refine fun _=>⟨⟨⟨t3,trivial⟩,rfl,by simp⟩,rfl⟩
theorem GR (F:Fm TT w R b c M q p) (ha:Nm TT w b k T1 A1 x) (hb:Nm TT w b l T2 A2 y) (h:k+c+1<=M:=by omega) (i:l+c+1<=M:=by omega):∃T A,Nm TT w b (k+l+1) T A (x-y)/\Bv Tryz.prog 106 [.one (.AR 0 0 0),.agg (AJ T1 A1),.agg (AJ T2 A2)] (.var 0 [.int .i64 0]) (.agg (AJ T A)):=by
 obtain⟨T5,A5,g,_,f⟩:=Ia F ha hb;refine⟨T5,A5,g,?_⟩;refine CK Tryz.func106 fun E a=>?_
 conv=>cbv
 refine AB a f ?_;refine BZ 0 0 a MT ?_;refine fun _=>⟨⟨⟨t3,trivial⟩,rfl,by simp⟩,rfl⟩
theorem DY (F:Fm TT w R b c M q p) (ha:Nm TT w b k T1 A1 x) (hb:Nm TT w b l T2 A2 y) (h:k+c+1<=M:=by omega) (i:l+c+1<=M:=by omega):∃T A,Nm TT w b (k+l+1) T A (x*y)/\Bv Tryz.prog 110 [.one (.AR 0 0 0),.agg (AJ T1 A1),.agg (AJ T2 A2)] (.var 0 [.int .i64 0]) (.agg (AJ T A)):=by
 obtain⟨T5,A5,g,_,f⟩:=Eu F ha hb;refine⟨T5,A5,g,?_⟩;refine CK Tryz.func110 fun E a=>?_
 conv=>cbv
 refine AB a f ?_;refine BZ 0 0 a MT ?_;refine fun _=>⟨⟨⟨t3,trivial⟩,rfl,by simp⟩,rfl⟩
theorem IH (F:Fm TT w R b c M q p) (ha:Nm TT w b k T1 A1 x) (hb:Nm TT w b l T2 A2 y) (i:q*l+p<=d) (g:y≠0) (r:k+c+1<=M:=by omega) (s:l+c+1<=M:=by omega) (o:d+c+1<=M:=by omega):∃T A,Nm TT w b (k+d+1) T A (x*BU y)/\Bv Tryz.prog 107 [.one (.AR 0 0 0),.agg (AJ T1 A1),.agg (AJ T2 A2)] (.var 0 [.int .i64 0]) (.agg (AJ T A)):=by
 obtain⟨T5,A5,h,_,f⟩:=JI F ha hb i g;refine⟨T5,A5,h,?_⟩;refine CK Tryz.func107 fun E a=>?_
 conv=>cbv
 refine AB a f ?_;refine BZ 0 0 a MT ?_;refine fun _=>⟨⟨⟨t3,trivial⟩,rfl,by simp⟩,rfl⟩
theorem OU:Bv Tryz.prog 111 [.one (.AR 0 0 0),.agg (AJ T1 A1),.agg (AJ T2 A2)] (.var 0 [.int .i64 0]) (.AI [(true,(AH T1 A1 T2 A2)),(false,[.int .i64 0])]):=by
 refine CK Tryz.func111 fun E a=>?_
 conv=>cbv
 refine BH ?_;refine fun _=>⟨⟨⟨⟨rfl,rfl,rfl,rfl,rfl,trivial⟩,t2,trivial⟩,rfl,by simp⟩,rfl⟩
theorem gn (F:Fm TT w R b c M q p) (a:Nm TT w b l T1 A1 x2) (C:Nm TT w b l' T2 A2 y2) (S:Nm TT w b j T3 A3 z) (B:q*l+p<=d) (Q:q*l'+p<=d) (Y:d+c+1<=M) (W:l+c+1<=M) (X:l'+c+1<=M) (h3:j+c+1<=M) (f:x2≠0):∃T A H G h g,Ff TT w b (l'+d+1) (j+d+1) T A H G h g (un x2) (y2*BU (fs x2 y2)) (z*BU (fs x2 y2))/\Bv Tryz.prog 208 [.one (.AR 0 0 0),.agg (AJ T1 A1),.agg (AJ T2 A2),.agg (AJ T3 A3)] (.var 0 [.int .i64 0]) (.AI [(true,(CQ T A H G h g)),(false,[.int .i64 0])]):=by
 obtain⟨U,o,_,v⟩:=GH F a;obtain⟨T6,A6,L,I⟩:=IH F a a B f;obtain⟨T7,A7,N,J⟩:=IH F C a B f;obtain⟨T8,A8,O,K⟩:=IH F S a B f;rw[Oz f,QH f];refine⟨T6,A6,T7,A7,T8,A8,⟨(Yh F (by omega) (r:=1) (by decide +kernel) L (Ga f)),N.mono (by omega),O.mono (by omega)⟩,?_⟩;refine CK Tryz.func208 fun E u=>?_
 conv=>cbv
 refine AB u v ?_;intro D i;refine .inr ?_;cases D <;> conv=>cbv
 ·have s:=Bp i;refine BZ 0 0 u I ?_;refine BZ 0 0 u J ?_;refine BZ 0 0 u K ?_;refine BH ?_;refine fun _=>⟨⟨⟨⟨rfl,rfl,rfl,rfl,rfl,rfl,rfl,trivial⟩,t2,trivial⟩,rfl,by simp⟩,rfl⟩
 have s:=Br i;exact absurd (Gh.1 (o.symm.trans s)) f
theorem gm (F:Fm TT w R b c M q p) (s:Nm TT w b l T1 A1 x2) (a:Nm TT w b l' T2 A2 y2) (S:Nm TT w b j T3 A3 z) (Y:q*l+p<=d) (f:q*l'+p<=d) (Z:d+c+1<=M) (W:l+c+1<=M) (X:l'+c+1<=M) (h3:j+c+1<=M) (B:x2=0) (D:y2≠0):∃T A I H h g,Ff TT w b (l'+d+1) (j+d+1) T A I H h g (un x2) (y2*BU (fs x2 y2)) (z*BU (fs x2 y2))/\Bv Tryz.prog 208 [.one (.AR 0 0 0),.agg (AJ T1 A1),.agg (AJ T2 A2),.agg (AJ T3 A3)] (.var 0 [.int .i64 0]) (.AI [(true,(CQ T A I H h g)),(false,[.int .i64 0])]):=by
 obtain⟨U,o,_,C⟩:=GH F s;obtain⟨T6,A6,N,J⟩:=IH F s a f D;obtain⟨T7,A7,O,K⟩:=IH F a a f D;obtain⟨T8,A8,Q,L⟩:=IH F S a f D;rw[Mp B,QG B];refine⟨T6,A6,T7,A7,T8,A8,⟨(Yh F (by omega) (r:=0) (by decide +kernel) N (show _=(0:Re) by rw[B];grind)),O.mono (by omega),Q.mono (by omega)⟩,?_⟩;refine CK Tryz.func208 fun E v=>?_
 conv=>cbv
 refine AB v C ?_;intro G i;refine .inr ?_;cases G <;> conv=>cbv
 ·have u:=Bp i;exact absurd (o.trans (by rw[B];exact GK)) u
 have u:=Br i;refine BZ 0 0 v J ?_;refine BZ 0 0 v K ?_;refine BZ 0 0 v L ?_;refine BH ?_;refine fun _=>⟨⟨⟨⟨rfl,rfl,rfl,rfl,rfl,rfl,rfl,trivial⟩,t2,trivial⟩,rfl,by simp⟩,rfl⟩
theorem WR (F:Fm TT w R b c M q p) (h:Nm TT w b l T1 A1 x2) (i:Nm TT w b l' T2 A2 y2) (D:Nm TT w b j T3 A3 z) (B:q*l+p<=d) (g:q*l'+p<=d) (C:d+c+1<=M) (u:l+c+1<=M) (v:l'+c+1<=M) (h3:j+c+1<=M) (G:¬(x2=0/\y2=0)):∃T A s r f a,Ff TT w b (l'+d+1) (j+d+1) T A s r f a (un x2) (y2*BU (fs x2 y2)) (z*BU (fs x2 y2))/\Bv Tryz.prog 208 [.one (.AR 0 0 0),.agg (AJ T1 A1),.agg (AJ T2 A2),.agg (AJ T3 A3)] (.var 0 [.int .i64 0]) (.AI [(true,(CQ T A s r f a)),(false,[.int .i64 0])]):=by
 by_cases o:x2=0
 ·exact gm F h i D B g C u v h3 o fun e=>G ⟨o,e⟩
 exact gn F h i D B g C u v h3 o
theorem X8:CF 220 [.agg (CQ T1 A1 T2 A2 T3 A3)] (.agg (AH T1 A1 T2 A2)):=by
 refine AG Tryz.func220 fun E a=>?_
 exact AE ⟨⟨rfl,rfl,rfl,rfl,rfl,trivial⟩,trivial⟩
theorem NK (F:Fm TT w R b c M q p) (J:Vm TT w b k k' T1 A1 T2 A2 x1 y1) (K:Vm TT w b l l' T3 A3 T4 A4 x2 y2) (hl:l+c+1<=M) (D:l'+c+1<=M) (I:¬(x2=0/\y2=0)) (Y:q*l+p<=d) (C:q*l'+p<=d) (Z:d+c+1<=M) (h1:k+k'+l+l'+c+4<=M:=by omega):∃T A H G g f,Ff TT w b (l+d+1) (k+k'+l+l'+d+4) T A H G g f (un (-y2)) (x2*BU (fs (-y2) x2)) ((-y2*x1+x2*y1)*BU (fs (-y2) x2))/\CF 112 [.agg (AH T1 A1 T2 A2),.agg (AH T3 A3 T4 A4)] (.AI [(true,(CQ T A H G g f)),(false,[.int .i64 0])]):=by
 obtain⟨A5,i,L⟩:=Nn F K;obtain⟨T6,A6,U,N⟩:=DY F i.x J.x;obtain⟨T7,A7,W,O⟩:=DY F i.y J.y;obtain⟨T8,A8,X,Q⟩:=Hh F U W;obtain⟨T9,A9,u,o,v,s,B,S⟩:=WR F i.x i.y X C Y Z (by omega) (by omega) (by omega) (fun h=>I ⟨by grind,by grind⟩);refine⟨T9,A9,u,o,v,s,⟨B.x,B.y.mono (by omega),B.z.mono (by omega)⟩,?_⟩;refine Gs Tryz.func112 fun E a=>?_
 conv=>cbv
 refine BP (r:= .one (.bool false)) a (QR F K hl D (e:=false) ⟨fun h=>(by cases h),fun h=>absurd h I⟩) ?_;conv=>cbv
 refine BP a L ?_;conv=>cbv
 refine ER 12 1 a N ?_;try conv=>cbv
 refine ER 12 1 a O ?_;try conv=>cbv
 refine ER 12 1 a Q ?_;try conv=>cbv
 refine ER 12 1 a S ?_;try conv=>cbv
 refine Bo ?_;exact AE ⟨⟨rfl,rfl,rfl,rfl,rfl,rfl,rfl,trivial⟩,t2,trivial⟩
theorem mo (F:Fm TT w R b c M q p) (o:Vm TT w b k k' T1 A1 T2 A2 x1 y1) (i:Vm TT w b l l' T3 A3 T4 A4 x2 y2) (h:l+c+1<=M) (a:l'+c+1<=M) (f:x2=0/\y2=0):CF 112 [.agg (AH T1 A1 T2 A2),.agg (AH T3 A3 T4 A4)] (.AI [(true,(CQ [] [] [] [] [] [])),(false,[.int .i64 6])]):=by
 refine AG Tryz.func112 fun E g=>?_
 refine AB g (QR F i h a (e:=true) ⟨fun _=>f,fun _=>rfl⟩) ?_;exact AE ⟨⟨rfl,AL,AL,AL,AL,AL,AL,trivial⟩,t2,trivial⟩
theorem ZW (F:Fm TT w R b c M q p) (C:Vm TT w b k k' T1 A1 T2 A2 x1 y1) (I:Vm TT w b l l' T3 A3 T4 A4 x2 y2) (Q:2*k+4*c+3<=M) (v:2*k'+4*c+3<=M) (S:2*l+4*c+3<=M) (B:2*l'+4*c+3<=M) (H:¬(x1=x2/\y1=y2)) (N:q*(l+k+1)+p<=d:=by omega) (u:q*(l'+k'+1)+p<=d:=by omega) (O:d+c+1<=M:=by omega) (U:2*k+2*k'+l+l'+c+6<=M:=by omega):∃T A G D f a,Ff TT w b (l+k+d+2) (2*k+2*k'+l+l'+d+6) T A G D f a (un (-(y2+ -y1))) ((x2+ -x1)*BU (fs (-(y2+ -y1)) (x2+ -x1))) ((-(y2+ -y1)*x1+(x2+ -x1)*y1)*BU (fs (-(y2+ -y1)) (x2+ -x1)))/\CF 56 [.agg (AH T1 A1 T2 A2),.agg (AH T3 A3 T4 A4)] (.AI [(true,(CQ T A G D f a)),(false,[.int .i64 0])]):=by
 obtain⟨T5,A5,T6,A6,L,J⟩:=Ja F I C;obtain⟨T8,A8,T9,A9,i,g,o,K⟩:=NK F C L (by omega) (by omega) (fun h=>H ⟨by grind,by grind⟩) N u O;refine⟨T8,A8,T9,A9,i,g,⟨o.x,o.y.mono (by omega),o.z.mono (by omega)⟩,?_⟩;refine AG Tryz.func56 fun E s=>?_
 refine AB (r:= .one (.bool false)) s (FK F C I Q v S B (e:=false) ⟨fun h=>(by cases h),fun h=>absurd h H⟩) ?_;refine AB s J ?_;refine BH ?_;refine AB s K ?_;exact AE ⟨⟨rfl,rfl,rfl,rfl,rfl,rfl,rfl,trivial⟩,t2,trivial⟩
theorem ZX (F:Fm TT w R b c M q p) (r:Vm TT w b k k' T1 A1 T2 A2 x1 y1) (s:Vm TT w b l l' T3 A3 T4 A4 x2 y2) (i:2*k+4*c+3<=M) (a:2*k'+4*c+3<=M) (o:2*l+4*c+3<=M) (f:2*l'+4*c+3<=M) (g:x1=x2/\y1=y2):CF 56 [.agg (AH T1 A1 T2 A2),.agg (AH T3 A3 T4 A4)] (.AI [(true,(CQ [] [] [] [] [] [])),(false,[.int .i64 11])]):=by
 refine AG Tryz.func56 fun E h=>?_
 refine AB h (FK F r s i a o f (e:=true) ⟨fun _=>g,fun _=>rfl⟩) ?_;exact AE ⟨⟨rfl,AL,AL,AL,AL,AL,AL,trivial⟩,t2,trivial⟩
end
section
open Go.RowKit
noncomputable def HJ (α β γ x y:Re):Re:=(α*x+β*y-γ)*BU (α*α+β*β)
variable {A1 A2 A3 A4 A5:LR} {M R b c d k l m m' p q:Nat} {T1 T2 T3 T4 T5:List LR} {TT:List (List Rat)->Prop} {t:Int} {w:List (List Rat)} {x y α β γ:Re}
theorem bQ {t:Re} (h:¬(x=0/\y=0)):¬(x+ -y*t=0/\y+x*t=0):=by
 rintro⟨a,f⟩
 have g:=NZ h;have ht:=Re.Ft t;have h3:=Re.Ft x;have i:=Re.Ft y;have e:(x+ -y*t)*(x+ -y*t)+(y+x*t)*(y+x*t)=(x*x+y*y)*(1+t*t):=by grind
 have e1:(1:Re)+t*t≠0:=fun e=>by
  have:(0:Re)<1:=by show Re.ofRat 0<Re.ofRat 1;exact Re.HT.2 (by decide)
  grind
 exact J8 g e1 (by rw[<-e,a,f];grind)
theorem iV (F:Fm TT w R b c M q p) (f:Ff TT w b k l T1 A1 T2 A2 T3 A3 α β γ) (ha:Vm TT w b m m' T4 A4 T5 A5 x y) (s:¬(α=0/\β=0)) (D:q*(2*k+5)+p<=d) (I:d+c+1<=M) (G:k+l+m+m'+c+8<=M:=by omega) (H:2*k+c+8<=M:=by omega):∃T A,Nm TT w b (k+l+m+m'+d+6) T A (HJ α β γ x y)/\Bv Tryz.prog 215 [.one (.AR 0 0 0),.agg (CQ T1 A1 T2 A2 T3 A3),.agg (AH T4 A4 T5 A5)] (.var 0 [.int .i64 0]) (.agg (AJ T A)):=by
 have g:Vm TT w b 1 k T1 A1 T2 A2 α β:=⟨f.x,f.y⟩;obtain⟨T6,A6,u,h⟩:=ba F g ha;obtain⟨T7,A7,v,i,_⟩:=Ia F u f.z;obtain⟨T8,A8,B,o⟩:=ph F g;obtain⟨T9,A9,C,r,_⟩:=JI F v (B.mono (by omega:2*1+2*k+3<=2*k+5)) D (NZ s);refine⟨T9,A9,C.mono (by omega),?_⟩;refine CK Tryz.func215 fun E a=>?_
 conv=>cbv
 refine AB a X8 ?_;refine AB a h ?_;refine BZ 0 0 a Mg ?_;refine AB a i ?_;refine BZ 0 0 a Mg ?_;refine AB a o ?_;refine BZ 0 0 a Mg ?_;refine AB a r ?_;refine BZ 0 0 a Mg ?_;refine fun _=>⟨⟨⟨t3,trivial⟩,rfl,by simp⟩,rfl⟩
theorem kh (F:Fm TT w R b c M q p) (u:Ff TT w b k l T1 A1 T2 A2 T3 A3 α β γ) (ha:Vm TT w b m m' T4 A4 T5 A5 x y) (K:¬(α=0/\β=0)) (S:q*(2*k+5)+p<=d) (U:d+c+1<=M) (ht: -9223372036854775808<=t/\t<9223372036854775808) (C:Cp (t:Rat)) (h3:2*k+l+m+m'+d+c+12<=M):∃T A B v,Vm TT w b (k+l+2*m+m'+d+11) (2*k+l+m+2*m'+d+10) T A B v (x-α*(HJ α β γ x y*Re.ofRat (t:Rat))) (y-β*(HJ α β γ x y*Re.ofRat (t:Rat)))/\CF 121 [.agg (CQ T1 A1 T2 A2 T3 A3),.agg (AH T4 A4 T5 A5),.one (.int .i64 t)] (.AI [(true,(AH T A B v)),(false,[.int .i64 0])]):=by
 obtain⟨A6,f⟩:=C8 (em [] (Re.ofRat (t:Rat)));have L:Nm TT w b 1 [] A6 (Re.ofRat (t:Rat)):=f ▸ GC F (by omega) (FP C F.hb);have W:Vm TT w b 1 k T1 A1 T2 A2 α β:=⟨u.x,u.y⟩;obtain⟨T7,A7,N,H⟩:=iV F u ha K S U;obtain⟨T8,A8,O,I,_⟩:=Eu F N L;obtain⟨T9,A9,G,D,Q,J⟩:=pg F W O;obtain⟨i,g,o,h,s,r⟩:=pj F ha Q;refine⟨i,g,o,h,s.mono (by omega) (by omega),?_⟩;refine Gs Tryz.func121 fun E a=>?_
 conv=>cbv
 refine ER 11 1 a H ?_;try conv=>cbv
 refine BP a (dP ht (aT C) f) ?_;conv=>cbv
 refine BP a I ?_;conv=>cbv
 refine ER 11 1 a Mg ?_;try conv=>cbv
 refine BP a X8 ?_;conv=>cbv
 refine BP a J ?_;conv=>cbv
 refine ER 11 1 a Wy ?_;try conv=>cbv
 refine BP a r ?_;conv=>cbv
 refine ER 11 1 a Wy ?_;try conv=>cbv
 refine ER 11 1 a iW ?_;try conv=>cbv
 refine Bo ?_;exact AE ⟨⟨rfl,rfl,rfl,rfl,rfl,trivial⟩,t2,trivial⟩
theorem kZ (F:Fm TT w R b c M q p) (u:Ff TT w b k l T1 A1 T2 A2 T3 A3 α β γ) (ha:Vm TT w b m m' T4 A4 T5 A5 x y) (h:¬(α=0/\β=0)) (r:q*(2*k+5)+p<=d) (s:d+c+1<=M:=by omega) (h3:2*k+l+m+m'+d+c+12<=M:=by omega):∃T A f a,Vm TT w b (k+l+2*m+m'+d+11) (2*k+l+m+2*m'+d+10) T A f a (x-α*(HJ α β γ x y*Re.ofRat (((1:Int):Rat)))) (y-β*(HJ α β γ x y*Re.ofRat (((1:Int):Rat))))/\CF 62 [.agg (CQ T1 A1 T2 A2 T3 A3),.agg (AH T4 A4 T5 A5)] (.AI [(true,(AH T A f a)),(false,[.int .i64 0])]):=by
 obtain⟨T7,A7,T8,A8,i,g⟩:=kh F u ha h r s (t:=1) (by decide) (by decide +kernel) h3;refine⟨T7,A7,T8,A8,i,?_⟩;refine AG Tryz.func62 fun E o=>?_
 refine AB o g ?_;exact AE ⟨⟨rfl,rfl,rfl,rfl,rfl,trivial⟩,t2,trivial⟩
theorem mv (F:Fm TT w R b c M q p) (f:Ff TT w b k l T1 A1 T2 A2 T3 A3 α β γ) (ha:Vm TT w b m m' T4 A4 T5 A5 x y) (B:k+l+m+m'+c+8<=M:=by omega):∃T A,Nm TT w b (k+l+m+m'+5) T A (α*x+β*y-γ)/\Bv Tryz.prog 169 [.one (.AR 0 0 0),.agg (CQ T1 A1 T2 A2 T3 A3),.agg (AH T4 A4 T5 A5)] (.var 0 [.int .i64 0]) (.agg (AJ T A)):=by
 obtain⟨T6,A6,r,g⟩:=DY F f.x ha.x;obtain⟨T7,A7,s,h⟩:=DY F f.y ha.y;obtain⟨T8,A8,u,i⟩:=Hh F r s;obtain⟨T9,A9,v,o⟩:=GR F u f.z;refine⟨T9,A9,v.mono (by omega),?_⟩;refine CK Tryz.func169 fun E a=>?_
 conv=>cbv
 refine BZ 0 0 a g ?_;refine BZ 0 0 a h ?_;refine BZ 0 0 a i ?_;refine BZ 0 0 a o ?_;refine fun _=>⟨⟨⟨t3,trivial⟩,rfl,by simp⟩,rfl⟩
theorem ZY (F:Fm TT w R b c M q p) (f:Ff TT w b k l T1 A1 T2 A2 T3 A3 α β γ) (ha:Vm TT w b m m' T4 A4 T5 A5 x y) (h0:¬(α=0/\β=0)) (hd:q*(2*k+5)+p<=d) (hi:d+c+1<=M) (ht: -9223372036854775808<=t/\t<9223372036854775808) (hs:Cp (t:Rat)) (h3:2*k+l+m+m'+d+c+12<=M):∃T A S Q,Vm TT w b (k+l+2*m+m'+d+11) (2*k+l+m+2*m'+d+10) T A S Q (x-HJ α β γ x y*Re.ofRat (t:Rat)*α) (y-HJ α β γ x y*Re.ofRat (t:Rat)*β)/\CF 114 [.agg (CQ T1 A1 T2 A2 T3 A3),.agg (AH T4 A4 T5 A5),.one (.int .i64 t)] (.AI [(true,(AH T A S Q)),(false,[.int .i64 0])]):=by
 obtain⟨A6,h⟩:=C8 (em [] (Re.ofRat (t:Rat)));have h6:Nm TT w b 1 [] A6 (Re.ofRat (t:Rat)):=h ▸ GC F (by omega) (FP hs F.hb);obtain⟨T7,A7,h7,c7⟩:=mv F f ha;obtain⟨T8,A8,h8,c8⟩:=DY F f.x f.x;obtain⟨T9,A9,h9,c9⟩:=DY F f.y f.y;obtain⟨a1,U,I,u⟩:=Hh F h8 h9;obtain⟨a2,W,J,v⟩:=IH F h7 (I.mono (by omega:_<=2*k+5)) hd (NZ h0);obtain⟨a5,X,g,B⟩:=DY F J h6;obtain⟨a6,Y,K,C⟩:=DY F g f.x;obtain⟨r,i,L,D⟩:=GR F ha.x K;obtain⟨a7,Z,N,G⟩:=DY F g f.y;obtain⟨s,o,O,H⟩:=GR F ha.y N;refine⟨r,i,s,o,⟨L.mono (by omega),O.mono (by omega)⟩,?_⟩;refine Gs Tryz.func114 fun E a=>?_
 conv=>cbv
 refine ER 11 1 a c7 ?_;try conv=>cbv
 refine ER 11 1 a c8 ?_;try conv=>cbv
 refine ER 11 1 a c9 ?_;try conv=>cbv
 refine ER 11 1 a u ?_;try conv=>cbv
 refine ER 11 1 a v ?_;try conv=>cbv
 refine Bo ?_;refine BP a (Gq ht h) ?_;conv=>cbv
 refine ER 11 1 a B ?_;try conv=>cbv
 refine Bo ?_;refine ER 11 1 a C ?_;try conv=>cbv
 refine ER 11 1 a D ?_;try conv=>cbv
 refine ER 11 1 a G ?_;try conv=>cbv
 refine ER 11 1 a H ?_;try conv=>cbv
 refine ER 11 1 a OU ?_;try conv=>cbv
 refine Bo ?_;exact AE ⟨⟨rfl,rfl,rfl,rfl,rfl,trivial⟩,t2,trivial⟩
theorem mw (F:Fm TT w R b c M q p) (u:Ff TT w b k l T1 A1 T2 A2 T3 A3 α β γ) (ha:Vm TT w b m m' T4 A4 T5 A5 x y) (h:¬(α=0/\β=0)) (r:q*(2*k+5)+p<=d) (s:d+c+1<=M) (h3:2*k+l+m+m'+d+c+12<=M):∃T A f a,Vm TT w b (k+l+2*m+m'+d+11) (2*k+l+m+2*m'+d+10) T A f a (x-HJ α β γ x y*Re.ofRat (((1:Int):Rat))*α) (y-HJ α β γ x y*Re.ofRat (((1:Int):Rat))*β)/\CF 64 [.agg (CQ T1 A1 T2 A2 T3 A3),.agg (AH T4 A4 T5 A5)] (.AI [(true,(AH T A f a)),(false,[.int .i64 0])]):=by
 obtain⟨T7,A7,T8,A8,i,g⟩:=ZY F u ha h r s (t:=1) (by decide) (by decide +kernel) h3;refine⟨T7,A7,T8,A8,i,?_⟩;refine AG Tryz.func64 fun E o=>?_
 refine AB o g ?_;exact AE ⟨⟨rfl,rfl,rfl,rfl,rfl,trivial⟩,t2,trivial⟩
end
section
open Go.RowKit
variable {w:List (List Rat)}
theorem Yp {TT:List (List Rat)->Prop} {R b c M q p k l:Nat} (F:Fm TT w R b c M q p) {T1:List LR} {A1:LR} {x:Re} (ha:Nm TT w b k T1 A1 x) (J:k+c+1<=M) (h:∀u,TT u->T1=tw u->In u x->TT (BC u x)) (r:0<=x) (D:El w (l*b) (Re.sqrt x)) (O:l+c+1<=M):∃U B,Nm TT w b l U B (Re.sqrt x)/\CF 126 [.agg (AJ T1 A1)] (.AI [(true,(AJ U B)),(false,[.int .i64 0])])/\CF 89 [.agg (AJ T1 A1)] (.AI [(true,(AJ U B)),(false,[.int .i64 0])]):=by
 obtain⟨u,hu,a,f,H,K,C⟩:=F.own (by omega) ha;have G:=F.g J (by omega);have hw:=h u hu a H;have i:=Qv H r;obtain⟨v,Q,s,I,_,_,A⟩:=F.own (by omega) (show Nm TT w b l (tw (BC u x)) (em (BC u x) (Re.sqrt x)) (Re.sqrt x) from⟨_,hw,rfl,rfl,i,D⟩);have ev:v=BC u x:=(KU s).symm;subst ev
 have hb:(l+c)*b<=60000000000000:=by
  have L:=(F.g (Nat.le_refl M) (by omega)).toGam.mul F.top;have N:(l+c)*b<=M*b:=Nat.mul_le_mul_right b (by omega);omega
 have o:=C.mono (Nat.mul_le_mul_right b (Nat.le_succ (k+c)));exact⟨_,_,⟨_,hw,rfl,rfl,i,D⟩,dQ G.toGam hu a f o hw r rfl rfl A hb,Qk G hu a f o hw r rfl rfl⟩
structure Rt (DE:List (List Rat)->Prop) (w0:List (List Rat)) (b0 K:Nat) (TT:List (List Rat)->Prop) (w:List (List Rat)) (b l:Nat) (v:Re):Prop where
 get:∀{k:Nat} {T1:List LR} {A1:LR},k<=K->Nm DE w0 b0 k T1 A1 v->∃U B,Nm TT w b l U B (Re.sqrt v)/\CF 126 [.agg [.sl (.sl AA) T1,.sl AA A1]] (.AI [(true,[.sl (.sl AA) U,.sl AA B]),(false,[.int .i64 0])])/\CF 89 [.agg [.sl (.sl AA) T1,.sl AA A1]] (.AI [(true,[.sl (.sl AA) U,.sl AA B]),(false,[.int .i64 0])])
theorem nx {P:List (List Rat)->Prop} {V:List Re} (L:Pl P V w) {n:Re} (f:El w R4 n) (a:0<=n):Rt (Tf P) w 11500 167 (Tf (P4 P n)) (BC w n) 1950000 2 n:=⟨fun {k T1 A1} v ha=>by
 have i:=L.lift f.mem a (b':=1950000) (k':=1) ha (by omega);obtain⟨u,hu,h,_,o,_⟩:=ha;refine Yp (L.Rp f a) i (by decide) (fun A _ e _=>?_) a ?_ (by decide)
 ·rw[<-KU (h.symm.trans e)];exact hu.OH L.I o
 by_cases s:n=0
 ·have g:Re.sqrt n=Re.ofRat 0:=by
   have:=Re.G5 a;rcases Re.F3 (this.trans s) with e | e <;> exact e
  rw[g];exact (El.rat (Gf (L.hw.red L.I) f.mem a) (FP (b:=64) (r:=0) (by decide +kernel) (Nat.le_refl 64))).mono (by decide)
 have W:=cG L.I L.hV L.h3 L.hw f (by grind);exact⟨W.root,W.rb.mono (by decide)⟩⟩
noncomputable def qu:List Nu:=[(BC [] (Re.ofRat (1/2)),Re.sqrt (Re.ofRat (1/2))),(BC [] (Re.ofRat 2),Re.sqrt (Re.ofRat 2))]
end
section
open Go.RowKit
structure Up (DE:List (List Rat)->Prop) (w0:List (List Rat)) (b0 K:Nat) (TT:List (List Rat)->Prop) (w:List (List Rat)) (b:Nat):Prop where
 up:∀{k:Nat} {T:List LR} {A:LR} {x:Re},k<=K->Nm DE w0 b0 k T A x->Nm TT w b 1 T A x
variable {k:Nat} {n:Re} {w0:List (List Rat)}
theorem Up.v {DE TT:List (List Rat)->Prop} {w:List (List Rat)} {b0 K b k':Nat} {T1 T2:List LR} {A1 A2:LR} {x y:Re} (U:Up DE w0 b0 K TT w b) (f:k<=K) (a:k'<=K) (h:Vm DE w0 b0 k k' T1 A1 T2 A2 x y):Vm TT w b 1 1 T1 A1 T2 A2 x y:=⟨U.up f h.x,U.up a h.y⟩
theorem jc {P:List (List Rat)->Prop} {V:List Re} (L:Pl P V w0) {T:List LR} {A:LR} (i:Nm (Tf P) w0 11500 k T A n) (g:k<=167) (a:0<=n):∃TT w,Fd TT w/\Up (Tf P) w0 11500 167 TT w 1950000/\Rt (Tf P) w0 11500 167 TT w 1950000 2 n/\(n≠0->∃T A,Nm TT w 1950000 73 T A (Re.sqrt n*BU n)):=by
 have hu:=i;obtain⟨_,_,_,_,_,he⟩:=i
 have f:El w0 R4 n:=he.mono (by have v:R4=1920500:=rfl
                                omega)
 have U:Up (Tf P) w0 11500 167 (Tf (P4 P n)) (BC w0 n) 1950000:=⟨fun g h=>L.lift f.mem a h (by omega)⟩;have o:=nx L f a;refine⟨_,_,L.Rp f a,U,o,fun u=>?_⟩;obtain⟨_,_,r,_⟩:=o.get g hu;obtain⟨T,A,s,_⟩:=JI (L.Rp f a) r (U.up g hu) (d:=70) (by decide) u;exact⟨T,A,s⟩
theorem oy (g:0<=n) (f:n≠0):Re.sqrt n≠0/\Re.sqrt n*(Re.sqrt n*BU n)=1/\n*(Re.sqrt n*BU n*(Re.sqrt n*BU n))=1:=by
 have h:=Re.G5 g;have a:=Ga f;refine⟨fun e=>f (by rw[<-h,e];grind),?_,?_⟩
 ·have:Re.sqrt n*(Re.sqrt n*BU n)=Re.sqrt n*Re.sqrt n*BU n:=by grind
  rw[this,h,a]
 have:n*(Re.sqrt n*BU n*(Re.sqrt n*BU n))=n*BU n*(Re.sqrt n*Re.sqrt n*BU n):=by grind
 rw[this,h,a];grind
theorem Na (x y:Re):0<=x*x+y*y:=by
 have a:=Re.Ft x;have f:=Re.Ft y
 grind
theorem PB {x y i:Re} (h:y*i=1):x*BU y=x*i:=by rw[<-R8 h]
end
section
abbrev R9:Nat:=46300000
abbrev E9:Nat:=46321590
abbrev S9:Nat:=46412490
abbrev K9:Nat:=1067638368
abbrev Fh:Nat:=1440000000
abbrev C9:Nat:=1880000000
abbrev M9:Nat:=32430000000
def Wm (w:List (List Rat)) (n:Re) (v:Re):Prop:=Wv w S9 46909868 R9 v\/(v=n/\Wv w S9 K9 R9 v)
theorem Wm.root {w:List (List Rat)} {n v:Re} (h:Wm w n v):In w (Re.sqrt v):=h.elim (·.root) (·.2.root)
theorem Wm.rb {w:List (List Rat)} {n v:Re} (h:Wm w n v):Bd S9 (co w (Re.sqrt v)):=h.elim (·.rb) (·.2.rb)
theorem Wm.vb {w:List (List Rat)} {n v:Re} (h:Wm w n v):Bd R9 (co w v):=h.elim (·.vb) (·.2.vb)
theorem TA {w:List (List Rat)} {n:Re}:∀{u:List (List Rat)},(BB u).Nodup->(∀v∈BB u,Wm w n v)->∃k,k<=u.length*46909868+K9/\Rb w u k
 | [],_,_=>⟨0,Nat.zero_le _,rfl⟩
 | r::u,o,h=>by
  have a:=List.nodup_cons.1 o;have ht:∀v∈BB u,Wm w n v:=fun v f=>h v (List.mem_cons_of_mem _ f)
  rcases h (AM u r) List.mem_cons_self with g |⟨e,g⟩
  ·obtain⟨k,B,A⟩:=TA a.2 ht;obtain⟨y,i,hb⟩:=g.inv;exact⟨k+46909868,by rw[List.length_cons];omega,⟨k,46909868,rfl,A,y,i,hb⟩⟩
  obtain⟨y,i,hb⟩:=g.inv;have s:∀v∈BB u,Wv w S9 46909868 R9 v:=fun v f=>(ht v f).resolve_right (fun q=>a.1 (by rw[e,<-q.1];exact f))
  exact⟨u.length*46909868+K9,by rw[List.length_cons];omega,⟨_,K9,rfl,Pq s,y,i,hb⟩⟩
theorem UD {w:List (List Rat)} {n:Re} (hw:AU w) (M:Ml w E9):∀{u:List (List Rat)},AU u->u.length<=4->(∀v∈BB u,Wm w n v)->TB Fh u
 | [],_,_,_=>fun r B=>by simp at B
 | r::u,h,A,i=>fun s f=>by
  rw[List.length_cons] at A;have a:∀v∈BB u,Wm w n v:=fun v hm=>i v (List.mem_cons_of_mem _ hm)
  rcases List.mem_cons.1 f with rfl | f
  ·have o:=IM hw h.1 (fun v hm=>(a v hm).root);obtain⟨k,g,hR⟩:=TA (Gl h.1) a;have:=OP hw M h.1 o hR (B9 h) (i _ List.mem_cons_self).vb;rw[EP h] at this;refine this.mono ?_;have C:=Nat.mul_le_mul_right 46321590 (show u.length+1<=4 by omega);have h3:=Nat.mul_le_mul_right 46909868 (show u.length<=3 by omega);have g:k<=u.length*46909868+1067638368:=g
   show 46300000+k+(u.length+1)*46321590<=1440000000
   omega
  exact UD hw M h.1 (by omega) a s f
theorem jE {w u v:List (List Rat)} {n:Re} {s:Nat} {x:Re} (hw:AU w) (M:Ml w E9) (hu:AU u) (g:AU v) (h:∀z∈BB u,Wm w n z) (i:∀z∈BB v,Wm w n z) (l1:u.length<=4) (l2:v.length<=4) (o:BT u v) (a:El u s x):El v (s+C9) x:=by
 have e1:=IM hw hu (fun z f=>(h z f).root);have A:=IM hw g (fun z f=>(i z f).root);obtain⟨K,k0,k1,k2⟩:=Q6 hw M hu e1 (fun z f=>(h z f).rb);obtain⟨D,d0,d1,d2,d3⟩:=a.bd
 have hb:Bd (s+u.length*(S9+E9+1)) (co w x):=by
  refine⟨D*K,Nat.mul_pos d0 k0,?_,(k2 (B:=0) a.mem).1 d2,?_⟩
  ·rw[Nat.pow_add];exact Nat.mul_le_mul d1 k1
  rw[Nat.pow_add];exact (k2 (D:=0) a.mem).2 d3
 obtain⟨k,r,hR⟩:=TA (Gl g) i;refine⟨o _ a.mem,(OP hw M g A hR (o _ a.mem) hb).mono ?_⟩;have C:=Nat.mul_le_mul_right (46412490+46321590+1) l1;have F:=Nat.mul_le_mul_right 46909868 l2;have a3:=Nat.mul_le_mul_right 46321590 (show v.length+1<=5 by omega);have r:k<=v.length*46909868+1067638368:=r
 show s+u.length*(46412490+46321590+1)+k+(v.length+1)*46321590<=s+1880000000
 omega
section
variable {P:List (List Rat)->Prop} {V:List Re} {w:List (List Rat)} {n:Re}
theorem cH (I:CD P 256) (hV:∀{u},P u->∀v∈Go.Abs.BB u,v∈V) (h3:V.length<=3) (hw:Tf P w) (a:El w R9 n) (N:0<n):Wv (BC w n) S9 K9 R9 n:=by
 have f:=hw.red I;have D:=hw.Gj I hV h3;have G:w.length<=3:=Nat.le_trans (hw.len I hV) h3;have B:n≠0:=by grind
 have o:Re.sqrt n*Re.sqrt n=n:=Re.G5 (by grind);have H:Re.sqrt n≠0:=fun e=>B (by rw[<-o,e];grind)
 by_cases g:Sq w n
 ·rw[Df g];have hm:=(KQ (by grind)).1 g;have b1:=OQ f D hm o a.bd
  have r:Bd S9 (co w (Re.sqrt n)):=b1.mono (by
   have:=Nt (h:=w.length) (h':=3) (R:=Rn) (R':=Rn) G (Nat.le_refl _);have e:GG 3 Rn=112490:=by decide +kernel
   have S:R9=46300000:=rfl
   show _<=46412490
   omega)
  obtain⟨y,Q,C⟩:=Dv f hm H;have b2:=GP f D hm Q C r;exact⟨hm,r,⟨y,by rw[<-C];exact Re.mul_comm _ _,b2.mono (Nat.le_trans (FL G (Nat.le_refl _) (Nat.le_refl _)) (by decide +kernel))⟩,a.bd⟩
 have F:=JQ f a.mem N g;have J:∀{s x},El w s x->El (BC w n) s x:=fun O=>El.BC f (by rw[DG g];exact F) O
 have e1:=IL F;rw[Ik a.mem] at e1;obtain⟨i,K,A⟩:=Dv f a.mem B;have b2:=GP f D a.mem K A a.bd;have z0:El w 0 0:=El.rat f GO;have b3:=MN F z0.mem K z0.bd b2;rw[Ik a.mem,show (0:Re)+i*Re.sqrt n=i*Re.sqrt n by grind] at b3;refine⟨by rw[DG g];exact e1.mem,by rw[DG g];exact e1.bd.mono (by decide),⟨i*Re.sqrt n,?_,?_⟩,(J a).bd⟩
 ·have L:i*Re.sqrt n*Re.sqrt n=i*(Re.sqrt n*Re.sqrt n):=by grind
  have:i*Re.sqrt n*Re.sqrt n=n*i:=by rw[L,o];exact Re.mul_comm _ _
  rw[this,A]
 rw[DG g];refine b3.mono (Nat.le_trans (Nat.add_le_add_left (FL G (Nat.le_refl _) (Nat.le_refl _)) _) (by decide +kernel))
theorem SU (I:CD P 256) (hV:∀{u},P u->∀v∈Go.Abs.BB u,v∈V) (h3:V.length<=3) (hw:Tf P w) (f:El w R9 n) (s:0<=n):Ml (BC w n) E9:=by
 have g:=hw.red I;have i:=hw.Gj I hV h3;have he:=Fv (h:=w.length) (h':=3) (R:=Rn) (R':=Rn) (Nat.le_trans (hw.len I hV) h3) (Nat.le_refl _);have r:EE 3 Rn=10794:=by decide +kernel
 have M:=Ml.of g i
 by_cases a:Sq w n
 ·rw[Df a];exact M.mono (by show _<=46321590;omega)
 have o:=JQ g f.mem (by
  have:n≠0:=fun e=>a (by rw[e];exact⟨0,CN w,by grind⟩)
  grind) a
 rw[DG a];have A:R9=46300000:=rfl;exact (M.cons o f.bd).mono (by show _<=46321590;omega)
theorem kN (I:CD P 256) (hV:∀{u},P u->∀v∈Go.Abs.BB u,v∈V) (h3:V.length<=3) (hw:Tf P w) (B:El w R9 n) (F:0<=n) {x y:Re} {s:Nat} (a:El (BC w n) s x) (f:In (BC w n) y) (e:x*y=1):El (BC w n) (47*s+1066000000) y:=by
 have g:=hw.red I;have o:=hw.Gj I hV h3;have A:w.length<=3:=Nat.le_trans (hw.len I hV) h3;have he:=Fv (h:=w.length) (h':=3) (R:=Rn) (R':=Rn) A (Nat.le_refl _);have D:EE 3 Rn=10794:=by decide +kernel
 have r:∀s,II w.length Rn s<=23*s+151098:=fun s=>Nat.le_trans (FL A (Nat.le_refl _) (Nat.le_refl _)) (by simp only[II,EE,Rn];omega)
 refine⟨f,?_⟩
 by_cases i:Sq w n
 ·rw[Df i] at a f ⊢;exact (GP g o a.mem f e a.bd).mono (by have:=r s;omega)
 have C:=JQ g B.mem (by
  have:n≠0:=fun e=>i (by rw[e];exact⟨0,CN w,by grind⟩)
  grind) i
 rw[DG i] at a f ⊢;have:=Ml.inv (P:=fun s=>II w.length Rn s) C (Ml.of g o) B.bd (fun a f e hb=>GP g o a f e hb) a.mem e a.bd;refine this.mono ?_
 show s+EE w.length Rn+II w.length Rn (2*s+2*EE w.length Rn+46300000+1)<=_
 have G:II w.length Rn (2*s+2*EE w.length Rn+46300000+1)<=23*(2*s+2*EE w.length Rn+46300000+1)+151098:=r _;omega
theorem UR (I:CD P 256) (hV:∀{u},P u->∀v∈Go.Abs.BB u,v∈V) (h3:V.length<=3) (hw:Tf P w) (ha:∀{u},Tf P u->BT u w) (a:El w R9 n) (g:0<=n) {r:List Rat} {u:List (List Rat)} (h:P4 P n (r::u)):Wm (BC w n) n (AM u r):=by
 have f:AU (BC w n):=Gf (hw.red I) a.mem g;rcases h.top I with h |⟨A,i,e⟩
 ·have W:=cI I hV h3 hw ha f (fun o=>El.BC (hw.red I) f o) h;obtain⟨y,e,s⟩:=W.inv;exact .inl ⟨W.root,W.rb.mono (by decide),⟨y,e,s⟩,W.vb.mono (by decide)⟩
 refine .inr ⟨e,?_⟩;rw[e]
 exact cH I hV h3 hw a (by
  have:n≠0:=fun e=>i (by rw[e];exact⟨0,CN u,by grind⟩)
  grind)
theorem Xs (I:CD P 256) (hV:∀{u},P u->∀v∈Go.Abs.BB u,v∈V) (h3:V.length<=3) (hw:Tf P w) (ha:∀{u},Tf P u->BT u w) (g:El w R9 n) (f:0<=n):CD (P4 P n) Fh:=by
 have s:AU (BC w n):=Gf (hw.red I) g.mem f;have M:=SU I hV h3 hw g f;refine⟨fun h=>P4.red I f h,fun {u} h=>?_,fun h=>P4.sub I h⟩;have i:=P4.red I f h
 have o:u.length<=4:=by
  have:=IZ (Gl i) (P4.len I hV h);rw[Ip,List.length_cons] at this;omega
 have a:∀v∈Go.Abs.BB u,Wm (BC w n) n v:=by
  clear o i
  induction u with
  | nil=>intro v a;simp[Go.Abs.BB] at a
  | cons r u A=>
   intro v a;rcases List.mem_cons.1 a with rfl | a
   ·exact UR I hV h3 hw ha g f h
   exact A (P4.sub I h) v a
 exact UD s M i o a
theorem Tf.My (I:CD P 256) (hV:∀{u},P u->∀v∈Go.Abs.BB u,v∈V) (h3:V.length<=3) (J:CD (P4 P n) Fh) {u:List (List Rat)} (h:Tf (P4 P n) u):u.length<=4:=by
 have:=h.len J (V:=n::V) (fun a=>P4.len I hV a);rw[List.length_cons] at this;omega
end
theorem jP:∀h,h<=4->Fit h Fh (M9+C9)
 |0,_|1,_|2,_|3,_|4,_=>⟨by decide +kernel,by decide +kernel,by decide +kernel,by decide +kernel⟩
 | _+5,h=>absurd h (by omega)
theorem jL:∀h,h<=4->EM h Fh (M9+C9)
 |0,_|1,_|2,_|3,_|4,_=>⟨by decide +kernel,by decide +kernel,by decide +kernel,by decide +kernel⟩
 | _+5,h=>absurd h (by omega)
theorem lO:2*(M9+C9)+EE 4 Fh<=60000000000000:=by decide +kernel
theorem j4:II 4 Fh M9<=60000000000000:=by decide +kernel
theorem jk {P:List (List Rat)->Prop} {R0 S:Nat} (I:CD P R0) (o:∀{u},Tf P u->TB Fh u) (a:∀{u},Tf P u->u.length<=4) (g:∀{u w s x},Tf P u->Tf P w->BT u w->El u s x->El w (s+C9) x) (i:Fh<=S) (f:S<=M9):C3 (Tf P) Fh C9 S where
 BG:=fun {u} h=>⟨h.red I,o h,by decide,by have:=a h;omega⟩
 ht:=fun {u} h=>by have:=a h;omega
 nil:= .nil
 sub:=fun {r u} h=>h.sub I
 BC:=fun {t r u} ht h g=>ht.OI I h g
 CL:=g
 fit:=fun {u} h=>(jP _ (a h)).mono (Nat.add_le_add_right f C9)
 mul:=fun {u} h=>Nat.le_trans (Nat.add_le_add (Nat.mul_le_mul_left 2 (Nat.add_le_add_right f C9)) (Fv (h:=u.length) (h':=4) (R:=Fh) (R':=Fh) (a h) (Nat.le_refl _))) lO
 RS:=i
 GV:=fun {u} h=>(jL _ (a h)).mono (Nat.add_le_add_right f C9)
section
variable {P:List (List Rat)->Prop} {V:List Re} {w:List (List Rat)} {n:Re}
theorem jj (I:CD P 256) (hV:∀{u},P u->∀v∈Go.Abs.BB u,v∈V) (h3:V.length<=3) (hw:Tf P w) (ha:∀{u},Tf P u->BT u w) (g:El w R9 n) (f:0<=n) {S:Nat} (r:Fh<=S) (A:S<=M9):C3 (Tf (P4 P n)) Fh C9 S:=by
 have J:=Xs I hV h3 hw ha g f;have o:AU (BC w n):=Gf (hw.red I) g.mem f;have M:=SU I hV h3 hw g f;have i:∀{u},Tf (P4 P n) u->∀v∈Go.Abs.BB u,Wm (BC w n) n v:=fun {u} h=>Tf.all J (fun C=>UR I hV h3 hw ha g f C) h
 exact jk J (fun {u} h=>UD o M (h.red J) (h.My I hV h3 J) (i h)) (fun h=>h.My I hV h3 J) (fun {u v s x} hu a B D=>jE o M (hu.red J) (a.red J) (i hu) (i a) (hu.My I hV h3 J) (a.My I hV h3 J) B D) r A
end
end
section
open Go.RowKit
abbrev F9 (TT:List (List Rat)->Prop) (w:List (List Rat)):Prop:=Fm TT w Fh 47000000 40 690 47 23
variable {P:List (List Rat)->Prop} {V:List Re} {n:Re}
theorem Pl.f9 {w:List (List Rat)} (L:Pl P V w) (a:El w R9 n) (f:0<=n):F9 (Tf (P4 P n)) (BC w n):=by
 have J:=Xs L.I L.hV L.h3 L.hw L.ha a f;have i:AU (BC w n):=Gf (L.hw.red L.I) a.mem f;have M:=SU L.I L.hV L.h3 L.hw a f;refine⟨fun {S} o r=>jj L.I L.hV L.h3 L.hw L.ha a f o (Nat.le_trans r (by decide)),L.hw.OH L.I a.mem,fun {u} hu=>IM i (hu.red J) (fun v B=>(Tf.all J (fun A=>UR L.I L.hV L.h3 L.hw L.ha a f A) hu v B).root),by decide,by decide,fun {x y s t} g h=>⟨Ag i g.mem h.mem,(M.bd g.mem h.mem g.bd h.bd).mono (by show s+t+46321590<=s+t+47000000;omega)⟩,fun g h e=>(kN L.I L.hV L.h3 L.hw a f g h e).mono (by omega),fun {u} hu=>?_⟩;exact Nat.le_trans (FL (hu.My L.I L.hV L.h3 J) (Nat.le_refl _) (Nat.le_refl _)) j4
theorem ll {w0:List (List Rat)} (L:Pl P V w0) {k:Nat} {T:List LR} {A:LR} (s:Nm (Tf P) w0 11500 k T A n) (g:k<=4026) (i:0<n):∃TT w,F9 TT w/\Up (Tf P) w0 1950000 24 TT w 47000000/\Rt (Tf P) w0 11500 4026 TT w 47000000 1 n:=by
 obtain⟨_,_,_,_,_,he⟩:=s;have f:El w0 R9 n:=he.mono (by show k*11500<=46300000;omega);have a:(0:Re)<=n:=by grind
 refine⟨_,_,L.f9 f a,⟨fun g h=>L.lift f.mem a h (by omega)⟩,⟨fun {k T1 A1} g ha=>?_⟩⟩;have r:=L.lift f.mem a (b':=47000000) (k':=1) ha (by omega);obtain⟨u,hu,o,_,v,_⟩:=ha;refine Yp (L.f9 f a) r (by decide) (fun B _ e _=>?_) a ?_ (by decide)
 ·rw[<-KU (o.symm.trans e)];exact hu.OH L.I v
 have W:=cH L.I L.hV L.h3 L.hw f i;exact⟨W.root,W.rb.mono (by decide)⟩
end
section
section
variable {P:List (List Rat)->Prop} {V:List Re}
theorem gY {k n:Nat} {q:Rat} (h:Bd k [q]):Bd k (q::List.replicate n 0):=by
 obtain⟨D,a,f,g,h3⟩:=h;exact⟨D,a,f,Ra g,SY h3⟩
theorem Tf.UF (I:CD P 256) (A:∀{r u},P (r::u)->u=[]) {u:List (List Rat)} (h:Tf P u):TB 256 u:=by
 induction h with
 | nil=>exact fun r B=>absurd B (by simp)
 | @BC u v D ht f C o=>
  obtain rfl:=A f
  by_cases i:Sq u (AM [] v)
  ·rw[Df i];exact o
  rw[DG i];intro s a;rcases List.mem_cons.1 a with rfl | a
  ·obtain⟨q,g⟩:=Ct.1 (B9 (I.red f));have hb:Bd 256 (co [] (AM [] v)):=by rw[EP (I.red f)];exact (I.tb f).head
   rw[g,Dg] at hb;rw[g,Hj q (ht.red I)];exact gY hb
  exact o s a
abbrev Cl:Nat:=40000
theorem Tf.XL (I:CD P 256) (g:∀{r u},P (r::u)->u=[]) (hV:∀{u},P u->∀v∈Go.Abs.BB u,v∈V) (h3:V.length<=3) {u w:List (List Rat)} {s:Nat} {x:Re} (hu:Tf P u) (hw:Tf P w) (f:BT u w) (a:El u s x):El w (s+Cl) x:=by
 by_cases i:w.length<=2
 ·refine (a.CL (hw.red I) (hw.UF I g) (hu.red I) (hu.UF I g) f).mono ?_;have:=Jb (k:=u.length) (k':=3) (R0:=256) (H7:=256) (h:=w.length) (h':=2) (R:=256) (R':=256) (Nat.le_trans (hu.len I hV) h3) (Nat.le_refl _) i (Nat.le_refl _);have B:CC 3 256 2 256<=Cl:=by decide +kernel
  omega
 refine⟨f _ a.mem,(Q7 (hw.red I) (hu.red I) (fun v A=>Classical.byContradiction fun o=>?_) a.mem a.bd).mono (Nat.le_add_right _ _)⟩
 have:=IZ (l:=v::Go.Abs.BB w) (m:=V) (List.nodup_cons.2 ⟨o,Gl (hw.red I)⟩) (fun x a=>by
  rcases List.mem_cons.1 a with rfl | a
  ·exact hu.BB I hV _ A
  exact hw.BB I hV x a)
 rw[List.length_cons,Ip] at this;omega
theorem jm (I:CD P 256) (i:∀{r u},P (r::u)->u=[]) (hV:∀{u},P u->∀v∈Go.Abs.BB u,v∈V) (h3:V.length<=3) {C S:Nat} (s:Cl<=C) (g:C<=Cn) (a:Rn<=S) (f:S<=Sm):C3 (Tf P) Rn C S:=
 have G:=Xb I hV h3 a f
 {G with
  CL:=fun hu hw h o=>(Tf.XL I i hV h3 hu hw h o).mono (by omega)
  fit:=fun hu=>(G.fit hu).mono (by omega)
  mul:=fun hu=>by have:=G.mul hu;omega
  GV:=fun hu=>(G.GV hu).mono (by omega)}
end
end
section
open Go.RowKit
abbrev Fl (TT:List (List Rat)->Prop) (w:List (List Rat)):Prop:=Fm TT w Rn 2100 20 43400000 23 14
variable {V:List Re} {ns:List Nu} {w:List (List Rat)}
theorem Pl.fl {P:List (List Rat)->Prop} (L:Pl P V w) (g:∀{r u},P (r::u)->u=[]):Fl (Tf P) w:=by
 have h:BF 256 w:=⟨L.hw.red L.I,L.hw.UF L.I g,by decide,by have:=L.len L.hw;omega⟩
 refine⟨fun {S} i o=>jm L.I g L.hV L.h3 (by decide) (by decide) i (Nat.le_trans o (by decide)),L.hw,L.ha,by decide,by decide,fun {x y s t} a f=>(a.mul h f).mono (by
  have:=Fv (L.len L.hw) (Nat.le_refl 256);have e:EE 3 256<=2100:=by decide +kernel
  omega),fun {x y s} a f e=>(a.inv h f e).mono (Nat.le_trans (FL (L.len L.hw) (Nat.le_refl _) (Nat.le_refl _)) (by simp only[II,EE];omega)),fun {u} hu=>?_⟩
 exact Nat.le_trans (FL (L.len hu) (Nat.le_refl _) (Nat.le_refl _)) (Nat.le_trans (R5 _) (by decide))
noncomputable def JE (ns:List Nu):List Nu:=ns.filter (fun n=>decide (n.1.length<=1))
theorem YP (h:∀n∈ns,Cc V n):∀n∈JE ns,Cc V n:=fun n a=>h n (List.mem_filter.1 a).1
theorem SN {r:List Rat} {u:List (List Rat)} (h:PN (JE ns) (r::u)):u=[]:=by
 obtain⟨n,f,g⟩:=h;have i:=of_decide_eq_true (List.mem_filter.1 f).2;have a:=g.length_le;rw[List.length_cons] at a;exact List.length_eq_zero_iff.1 (by omega)
theorem lr (L:Pl (PN (JE ns)) V w) (h:∀n∈ns,Cc V n) {n:Nu} (a:n∈ns\/n=Lz) (f:(tw n.1).length<=1) {b k:Nat} (hb:40512<=k*b):Nm (Tf (PN (JE ns))) w b k (tw n.1) (em n.1 n.2) n.2:=by
 rcases a with a | rfl
 ·have hm:n∈JE ns:=List.mem_filter.2 ⟨a,decide_eq_true (by rw[tw,List.length_map,List.length_reverse] at f;exact f)⟩;have hu:=Ep L.h3 (YP h) hm;have he:=(h n a).el L.h3;exact⟨n.1,hu,rfl,rfl,he.mem,(Tf.XL L.I SN L.hV L.h3 hu L.hw (L.ha hu) he).mono (Nat.le_trans (by decide) hb)⟩
 exact⟨[],.nil,rfl,rfl,HN 0 [],(El.rat (L.hw.red L.I) (FP (b:=64) (r:=0) (by decide +kernel) (Nat.le_refl 64))).mono (Nat.le_trans (by decide) hb)⟩
theorem lG (hV:V.length<=3) (h:∀n∈ns,Cc V n):∃w,Pl (PN (JE ns)) V w:=mR hV (YP h)
end
section
open Go.RowKit
noncomputable def iX (xp yp xq yq t:Re):Re:=xp+(xq-xp)*Re.ofRat (1/2)+ -((yq-yp)*Re.ofRat (1/2))*(Re.ofRat ((1:Int):Rat)*BU t)
noncomputable def iY (xp yp xq yq t:Re):Re:=yp+(yq-yp)*Re.ofRat (1/2)+(xq-xp)*Re.ofRat (1/2)*(Re.ofRat ((1:Int):Rat)*BU t)
noncomputable def wX (xp yp xq yq xr yr:Re):Re:=((yr-yp)*((xq-xp)*(xq-xp)+(yq-yp)*(yq-yp))-(yq-yp)*((xr-xp)*(xr-xp)+(yr-yp)*(yr-yp)))*BU ((xq-xp)*(yr-yp)-(yq-yp)*(xr-xp)+((xq-xp)*(yr-yp)-(yq-yp)*(xr-xp)))
noncomputable def wY (xp yp xq yq xr yr:Re):Re:=((xq-xp)*((xr-xp)*(xr-xp)+(yr-yp)*(yr-yp))-(xr-xp)*((xq-xp)*(xq-xp)+(yq-yp)*(yq-yp)))*BU ((xq-xp)*(yr-yp)-(yq-yp)*(xr-xp)+((xq-xp)*(yr-yp)-(yq-yp)*(xr-xp)))
variable {Bc Be:LR} {Bh Bi:List LR} {TT:List (List Rat)->Prop} {ka kb:Nat} {va vb xa ya:Re} {w:List (List Rat)}
theorem WV:Bv Tryz.prog 127 [.one (.AR 0 0 0),.one (.int .i64 0)] (.var 0 [.int .i64 0]) (.one (.bool true)):=by
 refine CK Tryz.func127 fun E a=>?_
 conv=>cbv
 refine CU ?_;refine .inr ?_;refine CU ?_;refine fun _=>⟨⟨⟨t2,trivial⟩,rfl,by simp⟩,rfl⟩
theorem Kn {g:FuncId} {T1:List LR} {A1:LR} {T2:List LR} {A2:LR} {T3:List LR} {A3:LR} (f:CF g [.agg (AJ T1 A1),.agg (AJ T2 A2)] (.AI [(true,(AJ T3 A3)),(false,[.int .i64 0])])):Bv Tryz.prog 223 [.one (.AR 0 0 0),.one (.fn g),.agg (AJ T1 A1),.agg (AJ T2 A2)] (.var 0 [.int .i64 0]) (.agg (AJ T3 A3)):=by
 refine CK Tryz.func223 fun E a=>?_
 conv=>cbv
 refine BH ?_;refine AB a f ?_;refine BZ 0 0 a WV ?_;refine fun _=>⟨⟨⟨t3,trivial⟩,rfl,by simp⟩,rfl⟩
theorem gu (F:Fd TT w) (ha:Nm TT w 1950000 ka Bh Bc va) (hb:Nm TT w 1950000 kb Bi Be vb) (r:ka+kb+111<=80000):∃h g,Nm TT w 1950000 (ka+kb+1) h g (va+vb)/\Bv Tryz.prog 225 [.one (.AR 0 0 0),.agg (AJ Bh Bc),.agg (AJ Bi Be)] (.var 0 [.int .i64 0]) (.agg (AJ h g)):=by
 obtain⟨Bj,Bf,f,a,i⟩:=HS F ha hb;refine⟨Bj,Bf,f.mono (by omega),?_⟩;refine CK Tryz.func225 fun E o=>?_
 conv=>cbv
 refine BZ 0 0 o (Kn a) ?_;refine fun _=>⟨⟨⟨t3,trivial⟩,rfl,by simp⟩,rfl⟩
theorem WW (F:Fd TT w) (ha:Nm TT w 1950000 ka Bh Bc va) (hb:Nm TT w 1950000 kb Bi Be vb) (r:ka+kb+111<=80000):∃h g,Nm TT w 1950000 (ka+kb+1) h g (va-vb)/\Bv Tryz.prog 222 [.one (.AR 0 0 0),.agg (AJ Bh Bc),.agg (AJ Bi Be)] (.var 0 [.int .i64 0]) (.agg (AJ h g)):=by
 obtain⟨Bj,Bf,f,a,i⟩:=Ia F ha hb;refine⟨Bj,Bf,f.mono (by omega),?_⟩;refine CK Tryz.func222 fun E o=>?_
 conv=>cbv
 refine BZ 0 0 o (Kn a) ?_;refine fun _=>⟨⟨⟨t3,trivial⟩,rfl,by simp⟩,rfl⟩
theorem WU (F:Fd TT w) (ha:Nm TT w 1950000 ka Bh Bc va) (hb:Nm TT w 1950000 kb Bi Be vb) (r:ka+kb+111<=80000):∃h g,Nm TT w 1950000 (ka+kb+1) h g (va*vb)/\Bv Tryz.prog 226 [.one (.AR 0 0 0),.agg (AJ Bh Bc),.agg (AJ Bi Be)] (.var 0 [.int .i64 0]) (.agg (AJ h g)):=by
 obtain⟨Bj,Bf,f,a,i⟩:=Eu F ha hb;refine⟨Bj,Bf,f.mono (by omega),?_⟩;refine CK Tryz.func226 fun E o=>?_
 conv=>cbv
 refine BZ 0 0 o (Kn a) ?_;refine fun _=>⟨⟨⟨t3,trivial⟩,rfl,by simp⟩,rfl⟩
theorem gx (F:Fd TT w) (ha:Nm TT w 1950000 ka Bh Bc va) (hb:Nm TT w 1950000 kb Bi Be vb) (o:vb≠0) (s:ka+47*kb+134<=80000):∃h g,Nm TT w 1950000 (ka+47*kb+24) h g (va*BU vb)/\Bv Tryz.prog 124 [.one (.AR 0 0 0),.agg (AJ Bh Bc),.agg (AJ Bi Be)] (.var 0 [.int .i64 0]) (.agg (AJ h g)):=by
 obtain⟨Bj,Bf,f,a,i⟩:=JI F ha hb (d:=47*kb+23) (by omega) o;refine⟨Bj,Bf,f.mono (by omega),?_⟩;refine CK Tryz.func124 fun E r=>?_
 conv=>cbv
 refine BZ 0 0 r (Kn a) ?_;refine fun _=>⟨⟨⟨t3,trivial⟩,rfl,by simp⟩,rfl⟩
theorem gz (F:Fd TT w) {Bj B6:List LR} {Bf B5:LR} {xb yb:Re} (ha:Vm TT w 1950000 ka ka Bh Bc Bi Be xa ya) (hb:Vm TT w 1950000 kb kb Bj Bf B6 B5 xb yb) (C:ka+kb+111<=80000):∃A v h g,Vm TT w 1950000 (ka+kb+1) (ka+kb+1) A v h g (xa-xb) (ya-yb)/\Bv Tryz.prog 123 [.one (.AR 0 0 0),.agg (AH Bh Bc Bi Be),.agg (AH Bj Bf B6 B5)] (.var 0 [.int .i64 0]) (.agg (AH A v h g)):=by
 obtain⟨De,Dc,r,i⟩:=WW F ha.x hb.x (by omega);obtain⟨f,a,s,o⟩:=WW F ha.y hb.y (by omega);have u:Vm _ w 1950000 (ka+kb+1) (ka+kb+1) De Dc f a _ _:=⟨r.mono (by omega),s.mono (by omega)⟩;refine⟨De,Dc,f,a,u.mono (by omega) (by omega),?_⟩;refine CK Tryz.func123 fun E B=>?_
 conv=>cbv
 refine BZ 0 0 B i ?_;refine BZ 0 0 B o ?_;refine fun _=>⟨⟨⟨⟨rfl,rfl,rfl,rfl,rfl,trivial⟩,trivial⟩,rfl,by simp⟩,rfl⟩
theorem hH (F:Fd TT w) (ha:Vm TT w 1950000 ka ka Bh Bc Bi Be xa ya) (B:4*ka+113<=80000):∃A v,Nm TT w 1950000 (4*ka+3) A v ((xa*xa)+(ya*ya))/\Bv Tryz.prog 125 [.one (.AR 0 0 0),.agg (AH Bh Bc Bi Be)] (.var 0 [.int .i64 0]) (.agg (AJ A v)):=by
 obtain⟨B6,B5,o,g⟩:=WU F ha.x ha.x (by omega);obtain⟨De,Dc,r,h⟩:=WU F ha.y ha.y (by omega);obtain⟨f,a,s,i⟩:=gu F o r (by omega);refine⟨f,a,s.mono (by omega),?_⟩;refine CK Tryz.func125 fun E u=>?_
 conv=>cbv
 refine BZ 0 0 u g ?_;refine BZ 0 0 u h ?_;refine BZ 0 0 u i ?_;refine fun _=>⟨⟨⟨t3,trivial⟩,rfl,by simp⟩,rfl⟩
end
section
open Go.RowKit
variable {A1 A2 Bc Be:LR} {T1 T2 Bh Bi:List LR} {TT:List (List Rat)->Prop} {ka kb:Nat} {w:List (List Rat)} {xa ya:Re}
theorem Zl:Bv Tryz.prog 295 [.one (.AR 0 0 0),.one (.int .i64 0)] (.var 0 [.int .i64 0]) (.AI []):=by
 refine CK Tryz.func295 fun E a=>?_
 conv=>cbv
 refine CU ?_;refine .inr ?_;refine fun _=>⟨⟨trivial,rfl,by simp⟩,rfl⟩
theorem NP:Bv Tryz.prog 229 [.one (.AR 0 0 0),.agg (AJ T1 A1),.one (.int .i64 0)] (.var 0 [.int .i64 0]) (.agg (AJ T1 A1)):=by
 refine CK Tryz.func229 fun E a=>?_
 conv=>cbv
 refine BZ 0 0 a Zl ?_;refine BH ?_;refine fun _=>⟨⟨⟨t3,trivial⟩,rfl,by simp⟩,rfl⟩
theorem Lh:Bv Tryz.prog 228 [.one (.AR 0 0 0),.agg (AH T1 A1 T2 A2),.one (.int .i64 0)] (.var 0 [.int .i64 0]) (.agg (AH T1 A1 T2 A2)):=by
 refine CK Tryz.func228 fun E a=>?_
 conv=>cbv
 refine BZ 0 0 a Zl ?_;refine BH ?_;refine fun _=>⟨⟨⟨⟨rfl,rfl,rfl,rfl,rfl,trivial⟩,trivial⟩,rfl,by simp⟩,rfl⟩
theorem nh (F:Fd TT w) {va vb:Re} (ha:Nm TT w 1950000 ka Bh Bc va) (hb:Nm TT w 1950000 kb Bi Be vb) (r:vb≠0) (s:ka+47*kb+134<=80000):∃h g,Nm TT w 1950000 (ka+47*kb+24) h g (va*BU vb)/\Bv Tryz.prog 135 [.one (.AR 0 0 0),.agg (AJ Bh Bc),.agg (AJ Bi Be)] (.var 0 [.int .i64 0]) (.agg (AJ h g)):=by
 obtain⟨Bj,Bf,f,i,a⟩:=JI F ha hb (d:=47*kb+23) (by omega) r;refine⟨Bj,Bf,f.mono (by omega),?_⟩;refine CK Tryz.func135 fun E o=>?_
 conv=>cbv
 refine AB o a ?_;refine BZ 0 0 o NP ?_;refine fun _=>⟨⟨⟨t3,trivial⟩,rfl,by simp⟩,rfl⟩
theorem ni (F:Fd TT w) {Bj B6:List LR} {Bf B5:LR} {xb yb:Re} (ha:Vm TT w 1950000 ka ka Bh Bc Bi Be xa ya) (hb:Vm TT w 1950000 kb kb Bj Bf B6 B5 xb yb) (u:ka+kb+111<=80000):∃r o f a,Vm TT w 1950000 (ka+kb+1) (ka+kb+1) r o f a (xa-xb) (ya-yb)/\Bv Tryz.prog 130 [.one (.AR 0 0 0),.agg (AH Bh Bc Bi Be),.agg (AH Bj Bf B6 B5)] (.var 0 [.int .i64 0]) (.agg (AH r o f a)):=by
 obtain⟨CJ,CI,De,Dc,h,g⟩:=Ja F ha hb;have i:=h.cast (x':=xa-xb) (y':=ya-yb) (by grind) (by grind);refine⟨CJ,CI,De,Dc,i.mono (by omega) (by omega),?_⟩;refine CK Tryz.func130 fun E s=>?_
 conv=>cbv
 refine AB s g ?_;refine BZ 0 0 s Lh ?_;refine fun _=>⟨⟨⟨⟨rfl,rfl,rfl,rfl,rfl,trivial⟩,trivial⟩,rfl,by simp⟩,rfl⟩
theorem nn (F:Fd TT w) (ha:Vm TT w 1950000 ka ka Bh Bc Bi Be xa ya) (o:2*ka+112<=80000):∃h g,Nm TT w 1950000 (4*ka+3) h g (xa*xa+ya*ya)/\Bv Tryz.prog 136 [.one (.AR 0 0 0),.agg (AH Bh Bc Bi Be)] (.var 0 [.int .i64 0]) (.agg (AJ h g)):=by
 obtain⟨Bj,Bf,f,a⟩:=QP F ha;refine⟨Bj,Bf,f.mono (by omega),?_⟩;refine CK Tryz.func136 fun E i=>?_
 conv=>cbv
 refine AB i a ?_;refine BZ 0 0 i NP ?_;refine fun _=>⟨⟨⟨t3,trivial⟩,rfl,by simp⟩,rfl⟩
theorem ng {T3:List LR} {A3:LR}:Bv Tryz.prog 210 [.one (.AR 0 0 0),.agg (AH T1 A1 T2 A2),.agg (AJ T3 A3)] (.var 0 [.int .i64 0]) (.AI [(true,(CQ T1 A1 T2 A2 T3 A3)),(false,[.int .i64 0])]):=by
 refine CK Tryz.func210 fun E a=>?_
 conv=>cbv
 refine BH ?_;refine fun _=>⟨⟨⟨⟨rfl,rfl,rfl,rfl,rfl,rfl,rfl,trivial⟩,t2,trivial⟩,rfl,by simp⟩,rfl⟩
theorem nj:Bv Tryz.prog 131 [.one (.AR 0 0 0),.agg (AH T1 A1 T2 A2)] (.var 0 [.int .i64 0]) (.AI [(true,(AH T1 A1 T2 A2)),(false,[.int .i64 0])]):=by
 refine CK Tryz.func131 fun E a=>?_
 conv=>cbv
 refine BH ?_;refine fun _=>⟨⟨⟨⟨rfl,rfl,rfl,rfl,rfl,trivial⟩,t2,trivial⟩,rfl,by simp⟩,rfl⟩
end
end Go.Abs
