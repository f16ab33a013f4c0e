/- Part 13 of a proof. Conditions: each theorem's own. -/
import Derived.Test.YthegappccffcjaaGreatDoorCr11
set_option linter.all false
set_option maxHeartbeats 80000000
set_option maxRecDepth 20000
open Go.Proofs
namespace Go.Abs
open Go.RowKit
section
variable {A1 A2 A3 A4:LR} {M R b c d j k k' l l' p q:Nat} {T1 T2 T3 T4:List LR} {TT:AH->Prop} {w:AH} {x x1 x2 y y1 y2 z:Re}
theorem GK:CY Tryz.prog 196 [BT,.agg (AK T1 A1),AD 0] (.var 0 [.int .i64 0]) (.agg (AK T1 A1)):=by
 refine C5 Tryz.func196 fun E a=>?_
 conv=>cbv
 refine Bx ?_;refine .inr ?_;refine AY ?_;refine AQ
theorem Hb:CY Tryz.prog 165 [BT,.agg (AI T1 A1 T2 A2),AD 0] (.var 0 [.int .i64 0]) (.agg (AI T1 A1 T2 A2)):=by
 refine C5 Tryz.func165 fun E a=>?_
 conv=>cbv
 refine Bx ?_;refine .inr ?_;refine AY ?_;refine AQ
theorem lX:CY Tryz.prog 227 [BT,.agg (AI T1 A1 T2 A2)] (.var 0 [.int .i64 0]) (AS (AI T1 A1 T2 A2) 0):=by
 refine C5 Tryz.func227 fun E a=>?_
 conv=>cbv
 refine AY ?_;refine AQ
theorem Nq:CY Tryz.prog 179 [BT,.agg (AK T1 A1),AD 0] (.var 0 [.int .i64 0]) (.agg (AK T1 A1)):=by
 refine C5 Tryz.func179 fun E a=>?_
 conv=>cbv
 refine Bx ?_;refine .inr ?_;refine AY ?_;refine AQ
theorem IK (F:Fm TT w R b c M q p) (ha:Nm TT w b k T1 A1 x) (hb:Nm TT w b l T2 A2 y) (h:k+c+1<=M:=by omega) (i:l+c+1<=M:=by omega):∃T A,Nm TT w b (k+l+1) T A (x+y)/\CY Tryz.prog 105 [BT,.agg (AK T1 A1),.agg (AK T2 A2)] (.var 0 [.int .i64 0]) (.agg (AK T A)):=by
 obtain⟨T5,A5,g,_,f⟩:=Hi F ha hb;refine⟨T5,A5,g,?_⟩;refine C5 Tryz.func105 fun E a=>?_
 conv=>cbv
 refine AB a f ?_;refine Bh 0 0 a Nq ?_;refine AQ
theorem HZ (F:Fm TT w R b c M q p) (ha:Nm TT w b k T1 A1 x) (hb:Nm TT w b l T2 A2 y) (h:k+c+1<=M:=by omega) (i:l+c+1<=M:=by omega):∃T A,Nm TT w b (k+l+1) T A (x-y)/\CY Tryz.prog 102 [BT,.agg (AK T1 A1),.agg (AK T2 A2)] (.var 0 [.int .i64 0]) (.agg (AK T A)):=by
 obtain⟨T5,A5,g,_,f⟩:=Jl F ha hb;refine⟨T5,A5,g,?_⟩;refine C5 Tryz.func102 fun E a=>?_
 conv=>cbv
 refine AB a f ?_;refine Bh 0 0 a Nq ?_;refine AQ
theorem EF (F:Fm TT w R b c M q p) (ha:Nm TT w b k T1 A1 x) (hb:Nm TT w b l T2 A2 y) (h:k+c+1<=M:=by omega) (i:l+c+1<=M:=by omega):∃T A,Nm TT w b (k+l+1) T A (x*y)/\CY Tryz.prog 106 [BT,.agg (AK T1 A1),.agg (AK T2 A2)] (.var 0 [.int .i64 0]) (.agg (AK T A)):=by
 obtain⟨T5,A5,g,_,f⟩:=Ef F ha hb;refine⟨T5,A5,g,?_⟩;refine C5 Tryz.func106 fun E a=>?_
 conv=>cbv
 refine AB a f ?_;refine Bh 0 0 a Nq ?_;refine AQ
theorem Ir (F:Fm TT w R b c M q p) (ha:Nm TT w b k T1 A1 x) (hb:Nm TT w b l T2 A2 y) (i:q*l+p<=d) (g:y≠0) (r:k+c+1<=M:=by omega) (s:l+c+1<=M:=by omega) (o:d+c+1<=M:=by omega):∃T A,Nm TT w b (k+d+1) T A (x*BU y)/\CY Tryz.prog 103 [BT,.agg (AK T1 A1),.agg (AK T2 A2)] (.var 0 [.int .i64 0]) (.agg (AK T A)):=by
 obtain⟨T5,A5,h,_,f⟩:=G0 F ha hb i g;refine⟨T5,A5,h,?_⟩;refine C5 Tryz.func103 fun E a=>?_
 conv=>cbv
 refine AB a f ?_;refine Bh 0 0 a Nq ?_;refine AQ
theorem Ps:CY Tryz.prog 107 [BT,.agg (AK T1 A1),.agg (AK T2 A2)] (.var 0 [.int .i64 0]) (AS (AI T1 A1 T2 A2) 0):=by
 refine C5 Tryz.func107 fun E a=>?_
 conv=>cbv
 refine AY ?_;refine AQ
theorem kl:CY Tryz.prog 133 [BT,.agg (AK T1 A1)] (.var 0 [.int .i64 0]) (AS (AK T1 A1) 0):=by
 refine C5 Tryz.func133 fun E a=>?_
 conv=>cbv
 refine AY ?_;refine AQ
theorem kj (F:Fm TT w R b c M q p) (a:Nm TT w b l T1 A1 x2) (C:Nm TT w b l' T2 A2 y2) (S:Nm TT w b j T3 A3 z) (B:q*l+p<=d) (Q:q*l'+p<=d) (Y:d+c+1<=M) (W:l+c+1<=M) (X:l'+c+1<=M) (h3:j+c+1<=M) (f:x2≠0):∃T A H G h g,E8 TT w b (l'+d+1) (j+d+1) T A H G h g (un x2) (y2*BU (fs x2 y2)) (z*BU (fs x2 y2))/\CY Tryz.prog 181 [BT,.agg (AK T1 A1),.agg (AK T2 A2),.agg (AK T3 A3)] (.var 0 [.int .i64 0]) (AS (Bu T A H G h g) 0):=by
 obtain⟨U,o,_,v⟩:=EN F a;obtain⟨T6,A6,L,I⟩:=Ir F a a B f;obtain⟨T7,A7,N,J⟩:=Ir F C a B f;obtain⟨T8,A8,O,K⟩:=Ir F S a B f;rw[MT f,NG f];refine⟨T6,A6,T7,A7,T8,A8,⟨(RA F AA (r:=1) (by decide +kernel) L (Fj f)),N.mono AA,O.mono AA⟩,?_⟩;refine C5 Tryz.func181 fun E u=>?_
 conv=>cbv
 refine AB u v ?_;intro D i;refine .inr ?_;cases D <;> conv=>cbv
 ·have s:=Bm i;refine Bh 0 0 u I ?_;refine Bh 0 0 u J ?_;refine Bh 0 0 u K ?_;refine AY ?_;refine AQ
 have s:=Bp i;exact absurd (Fu.1 (o.symm.trans s)) f
theorem kh (F:Fm TT w R b c M q p) (s:Nm TT w b l T1 A1 x2) (a:Nm TT w b l' T2 A2 y2) (S:Nm TT w b j T3 A3 z) (Y:q*l+p<=d) (f:q*l'+p<=d) (Z:d+c+1<=M) (W:l+c+1<=M) (X:l'+c+1<=M) (h3:j+c+1<=M) (B:x2=0) (D:y2≠0):∃T A I H h g,E8 TT w b (l'+d+1) (j+d+1) T A I H h g (un x2) (y2*BU (fs x2 y2)) (z*BU (fs x2 y2))/\CY Tryz.prog 181 [BT,.agg (AK T1 A1),.agg (AK T2 A2),.agg (AK T3 A3)] (.var 0 [.int .i64 0]) (AS (Bu T A I H h g) 0):=by
 obtain⟨U,o,_,C⟩:=EN F s;obtain⟨T6,A6,N,J⟩:=Ir F s a f D;obtain⟨T7,A7,O,K⟩:=Ir F a a f D;obtain⟨T8,A8,Q,L⟩:=Ir F S a f D;rw[MS B,ND B];refine⟨T6,A6,T7,A7,T8,A8,⟨(RA F AA (r:=0) (by decide +kernel) N (show _=(0:Re) by rw[B];grind)),O.mono AA,Q.mono AA⟩,?_⟩;refine C5 Tryz.func181 fun E v=>?_
 conv=>cbv
 refine AB v C ?_;intro G i;refine .inr ?_;cases G <;> conv=>cbv
 ·have u:=Bm i;exact absurd (o.trans (by rw[B];exact Gk)) u
 have u:=Bp i;refine Bh 0 0 v J ?_;refine Bh 0 0 v K ?_;refine Bh 0 0 v L ?_;refine AY ?_;refine AQ
theorem YI (F:Fm TT w R b c M q p) (h:Nm TT w b l T1 A1 x2) (i:Nm TT w b l' T2 A2 y2) (D:Nm TT w b j T3 A3 z) (B:q*l+p<=d) (g:q*l'+p<=d) (C:d+c+1<=M) (u:l+c+1<=M) (v:l'+c+1<=M) (h3:j+c+1<=M) (G:¬(x2=0/\y2=0)):∃T A s r f a,E8 TT w b (l'+d+1) (j+d+1) T A s r f a (un x2) (y2*BU (fs x2 y2)) (z*BU (fs x2 y2))/\CY Tryz.prog 181 [BT,.agg (AK T1 A1),.agg (AK T2 A2),.agg (AK T3 A3)] (.var 0 [.int .i64 0]) (AS (Bu T A s r f a) 0):=by
 by_cases o:x2=0
 ·exact kh F h i D B g C u v h3 o fun e=>G ⟨o,e⟩
 exact kj F h i D B g C u v h3 o
theorem Zz:CF 228 [.agg (Bu T1 A1 T2 A2 T3 A3)] (.agg (AI T1 A1 T2 A2)):=by
 refine AN Tryz.func228 fun E a=>?_
 exact AM AQ
theorem Oa (F:Fm TT w R b c M q p) (J:Vm TT w b k k' T1 A1 T2 A2 x1 y1) (K:Vm TT w b l l' T3 A3 T4 A4 x2 y2) (hl:l+c+1<=M) (D:l'+c+1<=M) (I:¬(x2=0/\y2=0)) (Y:q*l+p<=d) (C:q*l'+p<=d) (Z:d+c+1<=M) (h1:k+k'+l+l'+c+4<=M:=by omega):∃T A H G g f,E8 TT w b (l+d+1) (k+k'+l+l'+d+4) T A H G g f (un (-y2)) (x2*BU (fs (-y2) x2)) ((-y2*x1+x2*y1)*BU (fs (-y2) x2))/\CF 108 [.agg (AI T1 A1 T2 A2),.agg (AI T3 A3 T4 A4)] (AS (Bu T A H G g f) 0):=by
 obtain⟨A5,i,L⟩:=O4 F K;obtain⟨T6,A6,U,N⟩:=EF F i.x J.x;obtain⟨T7,A7,W,O⟩:=EF F i.y J.y;obtain⟨T8,A8,X,Q⟩:=IK F U W;obtain⟨T9,A9,u,o,v,s,B,S⟩:=YI F i.x i.y X C Y Z AA AA AA (fun h=>I ⟨by grind,by grind⟩);refine⟨T9,A9,u,o,v,s,⟨B.x,B.y.mono AA,B.z.mono AA⟩,?_⟩;refine Gc Tryz.func108 fun E a=>?_
 conv=>cbv
 refine Be (r:= .one (.bool false)) a (SC F K hl D (e:=false) ⟨fun h=>(by cases h),fun h=>absurd h I⟩) ?_;conv=>cbv
 refine Be a L ?_;conv=>cbv
 refine C1 12 1 a N ?_;try conv=>cbv
 refine C1 12 1 a O ?_;try conv=>cbv
 refine C1 12 1 a Q ?_;try conv=>cbv
 refine C1 12 1 a S ?_;try conv=>cbv
 refine Bl ?_;exact AM AQ
theorem qK (F:Fm TT w R b c M q p) (o:Vm TT w b k k' T1 A1 T2 A2 x1 y1) (i:Vm TT w b l l' T3 A3 T4 A4 x2 y2) (h:l+c+1<=M) (a:l'+c+1<=M) (f:x2=0/\y2=0):CF 108 [.agg (AI T1 A1 T2 A2),.agg (AI T3 A3 T4 A4)] (AS (Bu [] [] [] [] [] []) 6):=by
 refine AN Tryz.func108 fun E g=>?_
 refine AB g (SC F i h a (e:=true) ⟨fun _=>f,fun _=>rfl⟩) ?_;exact AM AQ
theorem VS (F:Fm TT w R b c M q p) (C:Vm TT w b k k' T1 A1 T2 A2 x1 y1) (I:Vm TT w b l l' T3 A3 T4 A4 x2 y2) (Q:2*k+4*c+3<=M) (v:2*k'+4*c+3<=M) (S:2*l+4*c+3<=M) (B:2*l'+4*c+3<=M) (H:¬(x1=x2/\y1=y2)) (N:q*(l+k+1)+p<=d:=by omega) (u:q*(l'+k'+1)+p<=d:=by omega) (O:d+c+1<=M:=by omega) (U:2*k+2*k'+l+l'+c+6<=M:=by omega):∃T A G D f a,E8 TT w b (l+k+d+2) (2*k+2*k'+l+l'+d+6) T A G D f a (un (-(y2+ -y1))) ((x2+ -x1)*BU (fs (-(y2+ -y1)) (x2+ -x1))) ((-(y2+ -y1)*x1+(x2+ -x1)*y1)*BU (fs (-(y2+ -y1)) (x2+ -x1)))/\CF 41 [.agg (AI T1 A1 T2 A2),.agg (AI T3 A3 T4 A4)] (AS (Bu T A G D f a) 0):=by
 obtain⟨T5,A5,T6,A6,L,J⟩:=Ls F I C;obtain⟨T8,A8,T9,A9,i,g,o,K⟩:=Oa F C L AA AA (fun h=>H ⟨by grind,by grind⟩) N u O;refine⟨T8,A8,T9,A9,i,g,⟨o.x,o.y.mono AA,o.z.mono AA⟩,?_⟩;refine AN Tryz.func41 fun E s=>?_
 refine AB (r:= .one (.bool false)) s (IB F C I Q v S B (e:=false) ⟨fun h=>(by cases h),fun h=>absurd h H⟩) ?_;refine AB s J ?_;refine AY ?_;refine AB s K ?_;exact AM AQ
theorem VT (F:Fm TT w R b c M q p) (r:Vm TT w b k k' T1 A1 T2 A2 x1 y1) (s:Vm TT w b l l' T3 A3 T4 A4 x2 y2) (i:2*k+4*c+3<=M) (a:2*k'+4*c+3<=M) (o:2*l+4*c+3<=M) (f:2*l'+4*c+3<=M) (g:x1=x2/\y1=y2):CF 41 [.agg (AI T1 A1 T2 A2),.agg (AI T3 A3 T4 A4)] (AS (Bu [] [] [] [] [] []) 11):=by
 refine AN Tryz.func41 fun E h=>?_
 refine AB h (IB F r s i a o f (e:=true) ⟨fun _=>g,fun _=>rfl⟩) ?_;exact AM AQ
end
section
noncomputable def Fi (α β γ x y:Re):Re:=(α*x+β*y-γ)*BU (α*α+β*β)
variable {A1 A2 A3 A4 A5:LR} {M R b c d k l m m' p q:Nat} {T1 T2 T3 T4 T5:List LR} {TT:AH->Prop} {t:Int} {w:AH} {x y α β γ:Re}
theorem Rw {t:Re} (h:¬(x=0/\y=0)):¬(x+ -y*t=0/\y+x*t=0):=by
 rintro⟨a,f⟩
 have g:=Ic h;have ht:=Re.Hm t;have h3:=Re.Hm x;have i:=Re.Hm y;have e:(x+ -y*t)*(x+ -y*t)+(y+x*t)*(y+x*t)=(x*x+y*y)*(1+t*t):=by grind
 have e1:(1:Re)+t*t≠0:=fun e=>by
  have:(0:Re)<1:=by show Re.ofRat 0<Re.ofRat 1;exact Re.Ia.2 AF
  grind
 exact I3 g e1 (by rw[<-e,a,f];grind)
theorem lU (F:Fm TT w R b c M q p) (f:E8 TT w b k l T1 A1 T2 A2 T3 A3 α β γ) (ha:Vm TT w b m m' T4 A4 T5 A5 x y) (s:¬(α=0/\β=0)) (D:q*(2*k+5)+p<=d) (I:d+c+1<=M) (G:k+l+m+m'+c+8<=M:=by omega) (H:2*k+c+8<=M:=by omega):∃T A,Nm TT w b (k+l+m+m'+d+6) T A (Fi α β γ x y)/\CY Tryz.prog 226 [BT,.agg (Bu T1 A1 T2 A2 T3 A3),.agg (AI T4 A4 T5 A5)] (.var 0 [.int .i64 0]) (.agg (AK T A)):=by
 have g:Vm TT w b 1 k T1 A1 T2 A2 α β:=⟨f.x,f.y⟩;obtain⟨T6,A6,u,h⟩:=Ry F g ha;obtain⟨T7,A7,v,i,_⟩:=Jl F u f.z;obtain⟨T8,A8,B,o⟩:=Kn F g;obtain⟨T9,A9,C,r,_⟩:=G0 F v (B.mono (by omega:2*1+2*k+3<=2*k+5)) D (Ic s);refine⟨T9,A9,C.mono AA,?_⟩;refine C5 Tryz.func226 fun E a=>?_
 conv=>cbv
 refine AB a Zz ?_;refine AB a h ?_;refine Bh 0 0 a GK ?_;refine AB a i ?_;refine Bh 0 0 a GK ?_;refine AB a o ?_;refine Bh 0 0 a GK ?_;refine AB a r ?_;refine Bh 0 0 a GK ?_;refine AQ
theorem Z2 (F:Fm TT w R b c M q p) (u:E8 TT w b k l T1 A1 T2 A2 T3 A3 α β γ) (ha:Vm TT w b m m' T4 A4 T5 A5 x y) (K:¬(α=0/\β=0)) (S:q*(2*k+5)+p<=d) (U:d+c+1<=M) (ht: -9223372036854775808<=t/\t<9223372036854775808) (C:C7 (t:Rat)) (h3:2*k+l+m+m'+d+c+12<=M):∃T A B v,Vm TT w b (k+l+2*m+m'+d+11) (2*k+l+m+2*m'+d+10) T A B v (x-α*(Fi α β γ x y*Re.ofRat (t:Rat))) (y-β*(Fi α β γ x y*Re.ofRat (t:Rat)))/\CF 167 [.agg (Bu T1 A1 T2 A2 T3 A3),.agg (AI T4 A4 T5 A5),AD t] (AS (AI T A B v) 0):=by
 obtain⟨A6,f⟩:=Di (em [] (Re.ofRat (t:Rat)));have L:Nm TT w b 1 [] A6 (Re.ofRat (t:Rat)):=f ▸ GU F AA (Fg C F.hb);have W:Vm TT w b 1 k T1 A1 T2 A2 α β:=⟨u.x,u.y⟩;obtain⟨T7,A7,N,H⟩:=lU F u ha K S U;obtain⟨T8,A8,O,I,_⟩:=Ef F N L;obtain⟨T9,A9,G,D,Q,J⟩:=Oy F W O;obtain⟨i,g,o,h,s,r⟩:=Gn F ha Q;refine⟨i,g,o,h,s.mono AA AA,?_⟩;refine Gc Tryz.func167 fun E a=>?_
 conv=>cbv
 refine C1 11 1 a H ?_;try conv=>cbv
 refine Be a (Kv ht (Hk C) f) ?_;conv=>cbv
 refine Be a I ?_;conv=>cbv
 refine C1 11 1 a GK ?_;try conv=>cbv
 refine Be a Zz ?_;conv=>cbv
 refine Be a J ?_;conv=>cbv
 refine C1 11 1 a Hb ?_;try conv=>cbv
 refine Be a r ?_;conv=>cbv
 refine C1 11 1 a Hb ?_;try conv=>cbv
 refine C1 11 1 a lX ?_;try conv=>cbv
 refine Bl ?_;exact AM AQ
theorem oH (F:Fm TT w R b c M q p) (u:E8 TT w b k l T1 A1 T2 A2 T3 A3 α β γ) (ha:Vm TT w b m m' T4 A4 T5 A5 x y) (h:¬(α=0/\β=0)) (r:q*(2*k+5)+p<=d) (s:d+c+1<=M:=by omega) (h3:2*k+l+m+m'+d+c+12<=M:=by omega):∃T A f a,Vm TT w b (k+l+2*m+m'+d+11) (2*k+l+m+2*m'+d+10) T A f a (x-α*(Fi α β γ x y*Re.ofRat (((1:Int):Rat)))) (y-β*(Fi α β γ x y*Re.ofRat (((1:Int):Rat))))/\CF 195 [.agg (Bu T1 A1 T2 A2 T3 A3),.agg (AI T4 A4 T5 A5)] (AS (AI T A f a) 0):=by
 obtain⟨T7,A7,T8,A8,i,g⟩:=Z2 F u ha h r s (t:=1) AF (by decide +kernel) h3;refine⟨T7,A7,T8,A8,i,?_⟩;refine AN Tryz.func195 fun E o=>?_
 refine AB o g ?_;exact AM AQ
theorem bj (F:Fm TT w R b c M q p) (f:E8 TT w b k l T1 A1 T2 A2 T3 A3 α β γ) (ha:Vm TT w b m m' T4 A4 T5 A5 x y) (B:k+l+m+m'+c+8<=M:=by omega):∃T A,Nm TT w b (k+l+m+m'+5) T A (α*x+β*y-γ)/\CY Tryz.prog 132 [BT,.agg (Bu T1 A1 T2 A2 T3 A3),.agg (AI T4 A4 T5 A5)] (.var 0 [.int .i64 0]) (.agg (AK T A)):=by
 obtain⟨T6,A6,r,g⟩:=EF F f.x ha.x;obtain⟨T7,A7,s,h⟩:=EF F f.y ha.y;obtain⟨T8,A8,u,i⟩:=IK F r s;obtain⟨T9,A9,v,o⟩:=HZ F u f.z;refine⟨T9,A9,v.mono AA,?_⟩;refine C5 Tryz.func132 fun E a=>?_
 conv=>cbv
 refine Bh 0 0 a g ?_;refine Bh 0 0 a h ?_;refine Bh 0 0 a i ?_;refine Bh 0 0 a o ?_;refine AQ
theorem qZ (F:Fm TT w R b c M q p) (f:E8 TT w b k l T1 A1 T2 A2 T3 A3 α β γ) (ha:Vm TT w b m m' T4 A4 T5 A5 x y) (h0:¬(α=0/\β=0)) (hd:q*(2*k+5)+p<=d) (hi:d+c+1<=M) (ht: -9223372036854775808<=t/\t<9223372036854775808) (hs:C7 (t:Rat)) (h3:2*k+l+m+m'+d+c+12<=M):∃T A S Q,Vm TT w b (k+l+2*m+m'+d+11) (2*k+l+m+2*m'+d+10) T A S Q (x-Fi α β γ x y*Re.ofRat (t:Rat)*α) (y-Fi α β γ x y*Re.ofRat (t:Rat)*β)/\CF 113 [.agg (Bu T1 A1 T2 A2 T3 A3),.agg (AI T4 A4 T5 A5),AD t] (AS (AI T A S Q) 0):=by
 obtain⟨A6,h⟩:=Di (em [] (Re.ofRat (t:Rat)));have h6:Nm TT w b 1 [] A6 (Re.ofRat (t:Rat)):=h ▸ GU F AA (Fg hs F.hb);obtain⟨T7,A7,h7,c7⟩:=bj F f ha;obtain⟨T8,A8,h8,c8⟩:=EF F f.x f.x;obtain⟨T9,A9,h9,c9⟩:=EF F f.y f.y;obtain⟨a1,U,I,u⟩:=IK F h8 h9;obtain⟨a2,W,J,v⟩:=Ir F h7 (I.mono (by omega:_<=2*k+5)) hd (Ic h0);obtain⟨a5,X,g,B⟩:=EF F J h6;obtain⟨a6,Y,K,C⟩:=EF F g f.x;obtain⟨r,i,L,D⟩:=HZ F ha.x K;obtain⟨a7,Z,N,G⟩:=EF F g f.y;obtain⟨s,o,O,H⟩:=HZ F ha.y N;refine⟨r,i,s,o,⟨L.mono AA,O.mono AA⟩,?_⟩;refine Gc Tryz.func113 fun E a=>?_
 conv=>cbv
 refine C1 11 1 a c7 ?_;try conv=>cbv
 refine C1 11 1 a c8 ?_;try conv=>cbv
 refine C1 11 1 a c9 ?_;try conv=>cbv
 refine C1 11 1 a u ?_;try conv=>cbv
 refine C1 11 1 a v ?_;try conv=>cbv
 refine Bl ?_;refine Be a (Gt ht h) ?_;conv=>cbv
 refine C1 11 1 a B ?_;try conv=>cbv
 refine Bl ?_;refine C1 11 1 a C ?_;try conv=>cbv
 refine C1 11 1 a D ?_;try conv=>cbv
 refine C1 11 1 a G ?_;try conv=>cbv
 refine C1 11 1 a H ?_;try conv=>cbv
 refine C1 11 1 a Ps ?_;try conv=>cbv
 refine Bl ?_;exact AM AQ
theorem qY (F:Fm TT w R b c M q p) (f:E8 TT w b k l T1 A1 T2 A2 T3 A3 α β γ) (ha:Vm TT w b m m' T4 A4 T5 A5 x y) (I:¬(α=0/\β=0)) (N:q*(2*k+5)+p<=d) (Q:d+c+1<=M:=by omega) (O:2*(k+l+m+m')+c+14<=M:=by omega):∃T A,Nm TT w b (2*(k+l+m+m')+d+12) T A ((α*x+β*y-γ)*(α*x+β*y-γ)*BU (α*α+β*β))/\CF 54 [.agg (Bu T1 A1 T2 A2 T3 A3),.agg (AI T4 A4 T5 A5)] (AS (AK T A) 0):=by
 obtain⟨T7,A7,u,D⟩:=bj F f ha;obtain⟨T6,A6,J,C⟩:=EF F u u;obtain⟨T8,A8,K,G⟩:=EF F f.x f.x;obtain⟨T9,A9,L,H⟩:=EF F f.y f.y;obtain⟨B,v,r,i⟩:=IK F K L;obtain⟨h,g,s,o⟩:=Ir F J (r.mono (by omega:_<=2*k+5)) N (Ic I);refine⟨h,g,s.mono AA,?_⟩;refine Gc Tryz.func54 fun E a=>?_
 conv=>cbv
 refine C1 9 1 a D ?_;try conv=>cbv
 refine C1 9 1 a C ?_;try conv=>cbv
 refine C1 9 1 a G ?_;try conv=>cbv
 refine C1 9 1 a H ?_;try conv=>cbv
 refine C1 9 1 a i ?_;try conv=>cbv
 refine C1 9 1 a o ?_;try conv=>cbv
 refine C1 9 1 a kl ?_;try conv=>cbv
 refine Bl ?_;exact AM ⟨t3,t2,trivial⟩
theorem oP (F:Fm TT w R b c M q p) (H:E8 TT w b k l T1 A1 T2 A2 T3 A3 α β γ) (ha:Vm TT w b m m' T4 A4 T5 A5 x y) (v:¬(α=0/\β=0)) (D:q*(2*k+5)+p<=d) (G:d+c+1<=M:=by omega) (h3:2*k+l+m+m'+d+c+12<=M:=by omega) (I:2*(k+l+3*m+m'+d+12)+c+2<=M:=by omega) (J:2*(2*k+l+m+3*m'+d+11)+c+2<=M:=by omega):∃T A,Nm TT w b (6*k+4*l+8*m+8*m'+4*d+49) T A ((x-(x-α*(Fi α β γ x y*Re.ofRat (((1:Int):Rat)))))*(x-(x-α*(Fi α β γ x y*Re.ofRat (((1:Int):Rat)))))+(y-(y-β*(Fi α β γ x y*Re.ofRat (((1:Int):Rat)))))*(y-(y-β*(Fi α β γ x y*Re.ofRat (((1:Int):Rat))))))/\CF 126 [.agg (Bu T1 A1 T2 A2 T3 A3),.agg (AI T4 A4 T5 A5)] (AS (AK T A) 0):=by
 obtain⟨T7,A7,T8,A8,B,s⟩:=oH F H ha v D G h3;obtain⟨T9,A9,r,o,C,u⟩:=Gn F ha B;obtain⟨g,f,i,h⟩:=Kn F C;refine⟨g,f,i.mono AA,?_⟩;refine AN Tryz.func126 fun E a=>?_
 refine AB a s ?_;refine Bh 10 1 a Hb ?_;refine AB a u ?_;refine Bh 10 1 a Hb ?_;refine AB a h ?_;refine Bh 10 1 a GK ?_;refine AY ?_;exact AM ⟨t3,t2,trivial⟩
end
section
variable {w:AH}
theorem al {TT:AH->Prop} {R b c M q p k l:Nat} (F:Fm TT w R b c M q p) {T1:List LR} {A1:LR} {x:Re} (ha:Nm TT w b k T1 A1 x) (J:k+c+1<=M) (h:∀u,TT u->T1=tw u->In u x->TT (BW u x)) (r:0<=x) (D:El w (l*b) (Re.sqrt x)) (O:l+c+1<=M):∃U B,Nm TT w b l U B (Re.sqrt x)/\CF 121 [.agg (AK T1 A1)] (AS (AK U B) 0)/\CF 59 [.agg (AK T1 A1)] (AS (AK U B) 0):=by
 obtain⟨u,hu,a,f,H,K,C⟩:=F.own AA ha;have G:=F.g J AA;have hw:=h u hu a H;have i:=Sh H r;obtain⟨v,Q,s,I,_,_,A⟩:=F.own AA (show Nm TT w b l (tw (BW u x)) (em (BW u x) (Re.sqrt x)) (Re.sqrt x) from⟨_,hw,rfl,rfl,i,D⟩);have ev:v=BW u x:=(Lp s).symm;subst ev
 have hb:(l+c)*b<=60000000000000:=by
  have L:=(F.g (Nat.le_refl M) AA).toGam.mul F.top;have N:(l+c)*b<=M*b:=Nat.mul_le_mul_right b AA;omega
 have o:=C.mono (Nat.mul_le_mul_right b (Nat.le_succ (k+c)));exact⟨_,_,⟨_,hw,rfl,rfl,i,D⟩,gZ G.toGam hu a f o hw r rfl rfl A hb,SV G hu a f o hw r rfl rfl⟩
structure Rt (EA:AH->Prop) (w0:AH) (b0 K:Nat) (TT:AH->Prop) (w:AH) (b l:Nat) (v:Re):Prop where
 get:∀{k:Nat} {T1:List LR} {A1:LR},k<=K->Nm EA w0 b0 k T1 A1 v->∃U B,Nm TT w b l U B (Re.sqrt v)/\CF 121 [.agg [BA T1,AU A1]] (AS [BA U,AU B] 0)/\CF 59 [.agg [BA T1,AU A1]] (AS [BA U,AU B] 0)
theorem rC {P:AH->Prop} {V:List Re} (L:Pl P V w) {n:Re} (f:El w R4 n) (a:0<=n):Rt (Tf P) w 11500 167 (Tf (P4 P n)) (BW w n) 1950000 2 n:=⟨fun {k T1 A1} v ha=>by
 have i:=L.lift f.mem a (b':=1950000) (k':=1) ha AA;obtain⟨u,hu,h,_,o,_⟩:=ha;refine al (L.UF f a) i AF (fun u' _ e _=>?_) a ?_ AF
 ·rw[<-Lp (h.symm.trans e)];exact hu.Pd L.I o
 by_cases s:n=0
 ·have g:Re.sqrt n=Re.ofRat 0:=by
   have:=Re.Hn a;rcases Re.Gx (this.trans s) with e | e <;> exact e
  rw[g];exact (El.rat (HQ (L.hw.red L.I) f.mem a) (Fg (b:=64) (r:=0) (by decide +kernel) (Nat.le_refl 64))).mono AF
 have W:=fh L.I L.hV L.h3 L.hw f (by grind);exact⟨W.root,W.rb.mono AF⟩⟩
noncomputable def vc:List Nu:=[(BW [] (Re.ofRat (1/2)),Re.sqrt (Re.ofRat (1/2))),(BW [] (Re.ofRat 2),Re.sqrt (Re.ofRat 2))]
end
section
structure Up (EA:AH->Prop) (w0:AH) (b0 K:Nat) (TT:AH->Prop) (w:AH) (b:Nat):Prop where
 up:∀{k:Nat} {T:List LR} {A:LR} {x:Re},k<=K->Nm EA w0 b0 k T A x->Nm TT w b 1 T A x
variable {k:Nat} {n:Re} {w0:AH}
theorem Up.v {EA TT:AH->Prop} {w:AH} {b0 K b k':Nat} {T1 T2:List LR} {A1 A2:LR} {x y:Re} (U:Up EA w0 b0 K TT w b) (f:k<=K) (a:k'<=K) (h:Vm EA w0 b0 k k' T1 A1 T2 A2 x y):Vm TT w b 1 1 T1 A1 T2 A2 x y:=⟨U.up f h.x,U.up a h.y⟩
theorem mg {P:AH->Prop} {V:List Re} (L:Pl P V w0) {T:List LR} {A:LR} (i:Nm (Tf P) w0 11500 k T A n) (g:k<=167) (a:0<=n):∃TT w,Fd TT w/\Up (Tf P) w0 11500 167 TT w 1950000/\Rt (Tf P) w0 11500 167 TT w 1950000 2 n/\(n≠0->∃T A,Nm TT w 1950000 73 T A (Re.sqrt n*BU n)):=by
 have hu:=i;obtain⟨_,_,_,_,_,he⟩:=i
 have f:El w0 R4 n:=he.mono (by have v:R4=1920500:=rfl
                                omega)
 have U:Up (Tf P) w0 11500 167 (Tf (P4 P n)) (BW w0 n) 1950000:=⟨fun g h=>L.lift f.mem a h AA⟩;have o:=rC L f a;refine⟨_,_,L.UF f a,U,o,fun u=>?_⟩;obtain⟨_,_,r,_⟩:=o.get g hu;obtain⟨T,A,s,_⟩:=G0 (L.UF f a) r (U.up g hu) (d:=70) AF u;exact⟨T,A,s⟩
theorem tK (g:0<=n) (f:n≠0):Re.sqrt n≠0/\Re.sqrt n*(Re.sqrt n*BU n)=1/\n*(Re.sqrt n*BU n*(Re.sqrt n*BU n))=1:=by
 have h:=Re.Hn g;have a:=Fj f;refine⟨fun e=>f (by rw[<-h,e];grind),?_,?_⟩
 ·have:Re.sqrt n*(Re.sqrt n*BU n)=Re.sqrt n*Re.sqrt n*BU n:=by grind
  rw[this,h,a]
 have:n*(Re.sqrt n*BU n*(Re.sqrt n*BU n))=n*BU n*(Re.sqrt n*Re.sqrt n*BU n):=by grind
 rw[this,h,a];grind
theorem Rl (x y:Re):0<=x*x+y*y:=by
 have a:=Re.Hm x;have f:=Re.Hm y
 grind
theorem KM {x y i:Re} (h:y*i=1):x*BU y=x*i:=by rw[<-Qf h]
end
section
abbrev R9:Nat:=46300000
abbrev E9:Nat:=46321590
abbrev S9:Nat:=46412490
abbrev K9:Nat:=1067638368
abbrev Gr:Nat:=1440000000
abbrev C9:Nat:=1880000000
abbrev M9:Nat:=32430000000
def Wm (w:AH) (n:Re) (v:Re):Prop:=Wv w S9 46909868 R9 v\/(v=n/\Wv w S9 K9 R9 v)
theorem Wm.root {w:AH} {n v:Re} (h:Wm w n v):In w (Re.sqrt v):=h.elim (·.root) (·.2.root)
theorem Wm.rb {w:AH} {n v:Re} (h:Wm w n v):Bd S9 (co w (Re.sqrt v)):=h.elim (·.rb) (·.2.rb)
theorem Wm.vb {w:AH} {n v:Re} (h:Wm w n v):Bd R9 (co w v):=h.elim (·.vb) (·.2.vb)
theorem Va {w:AH} {n:Re}:∀{u:AH},(BS u).Nodup->(∀v∈BS u,Wm w n v)->∃k,k<=u.length*46909868+K9/\Rb w u k
 | [],_,_=>⟨0,Nat.zero_le _,rfl⟩
 | r::u,o,h=>by
  have a:=List.nodup_cons.1 o;have ht:∀v∈BS u,Wm w n v:=fun v f=>h v (List.mem_cons_of_mem _ f)
  rcases h (AW u r) List.mem_cons_self with g |⟨e,g⟩
  ·obtain⟨k,B,A⟩:=Va a.2 ht;obtain⟨y,i,hb⟩:=g.inv;exact⟨k+46909868,by rw[List.length_cons];omega,⟨k,46909868,rfl,A,y,i,hb⟩⟩
  obtain⟨y,i,hb⟩:=g.inv;have s:∀v∈BS u,Wv w S9 46909868 R9 v:=fun v f=>(ht v f).resolve_right (fun q=>a.1 (by rw[e,<-q.1];exact f))
  exact⟨u.length*46909868+K9,by rw[List.length_cons];omega,⟨_,K9,rfl,RQ s,y,i,hb⟩⟩
theorem WC {w:AH} {n:Re} (hw:BG w) (M:Ml w E9):∀{u:AH},BG u->u.length<=4->(∀v∈BS u,Wm w n v)->TB Gr u
 | [],_,_,_=>fun r B=>by simp at B
 | r::u,h,A,i=>fun s f=>by
  rw[List.length_cons] at A;have a:∀v∈BS u,Wm w n v:=fun v hm=>i v (List.mem_cons_of_mem _ hm)
  rcases List.mem_cons.1 f with rfl | f
  ·have o:=JY hw h.1 (fun v hm=>(a v hm).root);obtain⟨k,g,hR⟩:=Va (Hs h.1) a;have:=Pm hw M h.1 o hR (Ch h) (i _ List.mem_cons_self).vb;rw[FU h] at this;refine this.mono ?_;have C:=Nat.mul_le_mul_right 46321590 (AA:u.length+1<=4);have h3:=Nat.mul_le_mul_right 46909868 (AA:u.length<=3);have g:k<=u.length*46909868+1067638368:=g
   show 46300000+k+(u.length+1)*46321590<=1440000000
   omega
  exact WC hw M h.1 AA a s f
theorem mE {w u v:AH} {n:Re} {s:Nat} {x:Re} (hw:BG w) (M:Ml w E9) (hu:BG u) (g:BG v) (h:∀z∈BS u,Wm w n z) (i:∀z∈BS v,Wm w n z) (l1:u.length<=4) (l2:v.length<=4) (o:Br u v) (a:El u s x):El v (s+C9) x:=by
 have e1:=JY hw hu (fun z f=>(h z f).root);have e2:=JY hw g (fun z f=>(i z f).root);obtain⟨K,k0,k1,k2⟩:=Su hw M hu e1 (fun z f=>(h z f).rb);obtain⟨D,d0,d1,d2,d3⟩:=a.bd
 have hb:Bd (s+u.length*(S9+E9+1)) (co w x):=by
  refine⟨D*K,Nat.mul_pos d0 k0,?_,(k2 (B:=0) a.mem).1 d2,?_⟩
  ·rw[Nat.pow_add];exact Nat.mul_le_mul d1 k1
  rw[Nat.pow_add];exact (k2 (D:=0) a.mem).2 d3
 obtain⟨k,r,hR⟩:=Va (Hs g) i;refine⟨o _ a.mem,(Pm hw M g e2 hR (o _ a.mem) hb).mono ?_⟩;have A:=Nat.mul_le_mul_right (46412490+46321590+1) l1;have C:=Nat.mul_le_mul_right 46909868 l2;have a3:=Nat.mul_le_mul_right 46321590 (AA:v.length+1<=5);have r:k<=v.length*46909868+1067638368:=r
 show s+u.length*(46412490+46321590+1)+k+(v.length+1)*46321590<=s+1880000000
 omega
section
variable {P:AH->Prop} {V:List Re} {w:AH} {n:Re}
theorem fi (I:Ci P 256) (hV:∀{u},P u->∀v∈Go.Abs.BS u,v∈V) (h3:V.length<=3) (hw:Tf P w) (a:El w R9 n) (L:0<n):Wv (BW w n) S9 K9 R9 n:=by
 have f:=hw.red I;have D:=hw.Ho I hV h3;have G:w.length<=3:=Nat.le_trans (hw.len I hV) h3;have B:n≠0:=by grind
 have o:Re.sqrt n*Re.sqrt n=n:=Re.Hn (by grind);have H:Re.sqrt n≠0:=fun e=>B (by rw[<-o,e];grind)
 by_cases g:Sq w n
 ·rw[Ec g];have hm:=(Lm (by grind)).1 g;have b1:=Pn f D hm o a.bd
  have r:Bd S9 (co w (Re.sqrt n)):=b1.mono (by
   have:=PC (h:=w.length) (h':=3) (R:=Rn) (R':=Rn) G vw;have e:GG 3 Rn=112490:=by decide +kernel
   have Q:R9=46300000:=rfl
   show _<=46412490
   omega)
  obtain⟨y,O,C⟩:=Ey f hm H;have b2:=HX f D hm O C r;exact⟨hm,r,⟨y,by rw[<-C];exact Re.mul_comm _ _,b2.mono (Nat.le_trans (GZ G vw vw) (by decide +kernel))⟩,a.bd⟩
 have F:=Kc f a.mem L g;have J:∀{s x},El w s x->El (BW w n) s x:=fun N=>El.BW f (by rw[Dv g];exact F) N
 have e1:=JX F;rw[Jt a.mem] at e1;obtain⟨i,K,A⟩:=Ey f a.mem B;have b2:=HX f D a.mem K A a.bd;have z0:El w 0 0:=El.rat f HW;have b3:=Nj F z0.mem K z0.bd b2;rw[Jt a.mem,show (0:Re)+i*Re.sqrt n=i*Re.sqrt n by grind] at b3;refine⟨by rw[Dv g];exact e1.mem,by rw[Dv g];exact e1.bd.mono AF,⟨i*Re.sqrt n,?_,?_⟩,(J a).bd⟩
 ·have e2:i*Re.sqrt n*Re.sqrt n=i*(Re.sqrt n*Re.sqrt n):=by grind
  have:i*Re.sqrt n*Re.sqrt n=n*i:=by rw[e2,o];exact Re.mul_comm _ _
  rw[this,A]
 rw[Dv g];refine b3.mono (Nat.le_trans (Nat.add_le_add_left (GZ G vw vw) _) (by decide +kernel))
theorem Un (I:Ci P 256) (hV:∀{u},P u->∀v∈Go.Abs.BS u,v∈V) (h3:V.length<=3) (hw:Tf P w) (f:El w R9 n) (s:0<=n):Ml (BW w n) E9:=by
 have g:=hw.red I;have i:=hw.Ho I hV h3;have he:=G5 (h:=w.length) (h':=3) (R:=Rn) (R':=Rn) (Nat.le_trans (hw.len I hV) h3) vw;have r:EE 3 Rn=10794:=by decide +kernel
 have M:=Ml.of g i
 by_cases a:Sq w n
 ·rw[Ec a];exact M.mono (by show _<=46321590;omega)
 have o:=Kc g f.mem (by
  have:n≠0:=fun e=>a (by rw[e];exact⟨0,Cs w,by grind⟩)
  grind) a
 rw[Dv a];have A:R9=46300000:=rfl;exact (M.cons o f.bd).mono (by show _<=46321590;omega)
theorem nj (I:Ci P 256) (hV:∀{u},P u->∀v∈Go.Abs.BS u,v∈V) (h3:V.length<=3) (hw:Tf P w) (B:El w R9 n) (F:0<=n) {x y:Re} {s:Nat} (a:El (BW w n) s x) (f:In (BW w n) y) (e:x*y=1):El (BW w n) (47*s+1066000000) y:=by
 have g:=hw.red I;have o:=hw.Ho I hV h3;have A:w.length<=3:=Nat.le_trans (hw.len I hV) h3;have he:=G5 (h:=w.length) (h':=3) (R:=Rn) (R':=Rn) A vw;have D:EE 3 Rn=10794:=by decide +kernel
 have r:∀s,II w.length Rn s<=23*s+151098:=fun s=>Nat.le_trans (GZ A vw vw) (by simp only[II,EE,Rn];omega)
 refine⟨f,?_⟩
 by_cases i:Sq w n
 ·rw[Ec i] at a f ⊢;exact (HX g o a.mem f e a.bd).mono (by have:=r s;omega)
 have C:=Kc g B.mem (by
  have:n≠0:=fun e=>i (by rw[e];exact⟨0,Cs w,by grind⟩)
  grind) i
 rw[Dv i] at a f ⊢;have:=Ml.inv (P:=fun s=>II w.length Rn s) C (Ml.of g o) B.bd (fun a f e hb=>HX g o a f e hb) a.mem e a.bd;refine this.mono ?_
 show s+EE w.length Rn+II w.length Rn (2*s+2*EE w.length Rn+46300000+1)<=_
 have G:II w.length Rn (2*s+2*EE w.length Rn+46300000+1)<=23*(2*s+2*EE w.length Rn+46300000+1)+151098:=r _;omega
theorem WV (I:Ci P 256) (hV:∀{u},P u->∀v∈Go.Abs.BS u,v∈V) (h3:V.length<=3) (hw:Tf P w) (ha:∀{u},Tf P u->Br u w) (a:El w R9 n) (g:0<=n) {r:List Rat} {u:AH} (h:P4 P n (r::u)):Wm (BW w n) n (AW u r):=by
 have f:BG (BW w n):=HQ (hw.red I) a.mem g;rcases h.top I with h |⟨A,i,e⟩
 ·have W:=fj I hV h3 hw ha f (fun o=>El.BW (hw.red I) f o) h;obtain⟨y,e,s⟩:=W.inv;exact .inl ⟨W.root,W.rb.mono AF,⟨y,e,s⟩,W.vb.mono AF⟩
 refine .inr ⟨e,?_⟩;rw[e]
 exact fi I hV h3 hw a (by
  have:n≠0:=fun e=>i (by rw[e];exact⟨0,Cs u,by grind⟩)
  grind)
theorem Zj (I:Ci P 256) (hV:∀{u},P u->∀v∈Go.Abs.BS u,v∈V) (h3:V.length<=3) (hw:Tf P w) (ha:∀{u},Tf P u->Br u w) (g:El w R9 n) (f:0<=n):Ci (P4 P n) Gr:=by
 have s:BG (BW w n):=HQ (hw.red I) g.mem f;have M:=Un I hV h3 hw g f;refine⟨fun h=>P4.red I f h,fun {u} h=>?_,fun h=>P4.sub I h⟩;have i:=P4.red I f h
 have o:u.length<=4:=by
  have:=Jk (Hs i) (P4.len I hV h);rw[Jy,List.length_cons] at this;omega
 have a:∀v∈Go.Abs.BS u,Wm (BW w n) n v:=by
  clear o i
  induction u with
  | nil=>intro v a;simp[Go.Abs.BS] at a
  | cons r u A=>
   intro v a;rcases List.mem_cons.1 a with rfl | a
   ·exact WV I hV h3 hw ha g f h
   exact A (P4.sub I h) v a
 exact WC s M i o a
theorem Tf.OJ (I:Ci P 256) (hV:∀{u},P u->∀v∈Go.Abs.BS u,v∈V) (h3:V.length<=3) (J:Ci (P4 P n) Gr) {u:AH} (h:Tf (P4 P n) u):u.length<=4:=by
 have:=h.len J (V:=n::V) (fun a=>P4.len I hV a);rw[List.length_cons] at this;omega
end
theorem mP:∀h,h<=4->Fit h Gr (M9+C9)
 |0,_|1,_|2,_|3,_|4,_=>⟨by decide +kernel,by decide +kernel,by decide +kernel,by decide +kernel⟩
 | _+5,h=>absurd h AA
theorem mL:∀h,h<=4->FQ h Gr (M9+C9)
 |0,_|1,_|2,_|3,_|4,_=>⟨by decide +kernel,by decide +kernel,by decide +kernel,by decide +kernel⟩
 | _+5,h=>absurd h AA
theorem ox:2*(M9+C9)+EE 4 Gr<=60000000000000:=by decide +kernel
theorem nO:II 4 Gr M9<=60000000000000:=by decide +kernel
theorem mu {P:AH->Prop} {R0 S:Nat} (I:Ci P R0) (o:∀{u},Tf P u->TB Gr u) (a:∀{u},Tf P u->u.length<=4) (g:∀{u w s x},Tf P u->Tf P w->Br u w->El u s x->El w (s+C9) x) (i:Gr<=S) (f:S<=M9):Dp (Tf P) Gr C9 S where
 Bb:=fun {u} h=>⟨h.red I,o h,AF,by have:=a h;omega⟩
 ht:=fun {u} h=>by have:=a h;omega
 nil:= .nil
 sub:=fun {r u} h=>h.sub I
 BW:=fun {t r u} ht h g=>ht.Pe I h g
 Cp:=g
 fit:=fun {u} h=>(mP _ (a h)).mono (Nat.add_le_add_right f C9)
 mul:=fun {u} h=>Nat.le_trans (Nat.add_le_add (Nat.mul_le_mul_left 2 (Nat.add_le_add_right f C9)) (G5 (h:=u.length) (h':=4) (R:=Gr) (R':=Gr) (a h) vw)) ox
 RS:=i
 IT:=fun {u} h=>(mL _ (a h)).mono (Nat.add_le_add_right f C9)
section
variable {P:AH->Prop} {V:List Re} {w:AH} {n:Re}
theorem mr (I:Ci P 256) (hV:∀{u},P u->∀v∈Go.Abs.BS u,v∈V) (h3:V.length<=3) (hw:Tf P w) (ha:∀{u},Tf P u->Br u w) (g:El w R9 n) (f:0<=n) {S:Nat} (r:Gr<=S) (A:S<=M9):Dp (Tf (P4 P n)) Gr C9 S:=by
 have J:=Zj I hV h3 hw ha g f;have o:BG (BW w n):=HQ (hw.red I) g.mem f;have M:=Un I hV h3 hw g f;have i:∀{u},Tf (P4 P n) u->∀v∈Go.Abs.BS u,Wm (BW w n) n v:=fun {u} h=>Tf.all J (fun C=>WV I hV h3 hw ha g f C) h
 exact mu J (fun {u} h=>WC o M (h.red J) (h.OJ I hV h3 J) (i h)) (fun h=>h.OJ I hV h3 J) (fun {u v s x} hu a B D=>mE o M (hu.red J) (a.red J) (i hu) (i a) (hu.OJ I hV h3 J) (a.OJ I hV h3 J) B D) r A
end
end
section
abbrev F9 (TT:AH->Prop) (w:AH):Prop:=Fm TT w Gr 47000000 40 690 47 23
theorem Pl.f9 {P:AH->Prop} {V:List Re} {w:AH} (L:Pl P V w) {n:Re} (a:El w R9 n) (f:0<=n):F9 (Tf (P4 P n)) (BW w n):=by
 have J:=Zj L.I L.hV L.h3 L.hw L.ha a f;have i:BG (BW w n):=HQ (L.hw.red L.I) a.mem f;have M:=Un L.I L.hV L.h3 L.hw a f;refine⟨fun {S} o r=>mr L.I L.hV L.h3 L.hw L.ha a f o (Nat.le_trans r AF),L.hw.Pd L.I a.mem,fun {u} hu=>JY i (hu.red J) (fun v B=>(Tf.all J (fun A=>WV L.I L.hV L.h3 L.hw L.ha a f A) hu v B).root),AF,AF,fun {x y s t} g h=>⟨BO i g.mem h.mem,(M.bd g.mem h.mem g.bd h.bd).mono (by show s+t+46321590<=s+t+47000000;omega)⟩,fun g h e=>(nj L.I L.hV L.h3 L.hw a f g h e).mono AA,fun {u} hu=>?_⟩;exact Nat.le_trans (GZ (hu.OJ L.I L.hV L.h3 J) vw vw) nO
end
section
section
variable {P:AH->Prop} {V:List Re}
theorem kT {k n:Nat} {q:Rat} (h:Bd k [q]):Bd k (q::List.replicate n 0):=by
 obtain⟨D,a,f,g,h3⟩:=h;exact⟨D,a,f,TX g,Us h3⟩
theorem Tf.WE (I:Ci P 256) (v:∀{r u},P (r::u)->u=[]) {u:AH} (h:Tf P u):TB 256 u:=by
 induction h with
 | nil=>exact fun r A=>absurd A AZ
 | @BW u r0 C ht f B o=>
  obtain rfl:=v f
  by_cases i:Sq u (AW [] r0)
  ·rw[Ec i];exact o
  rw[Dv i];intro s a;rcases List.mem_cons.1 a with rfl | a
  ·obtain⟨q,g⟩:=DV.1 (Ch (I.red f));have hb:Bd 256 (co [] (AW [] r0)):=by rw[FU (I.red f)];exact (I.tb f).head
   rw[g,Ed] at hb;rw[g,It q (ht.red I)];exact kT hb
  exact o s a
abbrev Cl:Nat:=40000
theorem Tf.ZA (I:Ci P 256) (g:∀{r u},P (r::u)->u=[]) (hV:∀{u},P u->∀v∈Go.Abs.BS u,v∈V) (h3:V.length<=3) {u w:AH} {s:Nat} {x:Re} (hu:Tf P u) (hw:Tf P w) (f:Br u w) (a:El u s x):El w (s+Cl) x:=by
 by_cases i:w.length<=2
 ·refine (a.Cp (hw.red I) (hw.WE I g) (hu.red I) (hu.WE I g) f).mono ?_;have:=Kr (k:=u.length) (k':=3) (R0:=256) (JI:=256) (h:=w.length) (h':=2) (R:=256) (R':=256) (Nat.le_trans (hu.len I hV) h3) vw i vw;have B:CC 3 256 2 256<=Cl:=by decide +kernel
  omega
 refine⟨f _ a.mem,(Sv (hw.red I) (hu.red I) (fun v A=>Classical.byContradiction fun o=>?_) a.mem a.bd).mono (Nat.le_add_right _ _)⟩
 have:=Jk (l:=v::Go.Abs.BS w) (m:=V) (List.nodup_cons.2 ⟨o,Hs (hw.red I)⟩) (fun x a=>by
  rcases List.mem_cons.1 a with rfl | a
  ·exact hu.BS I hV _ A
  exact hw.BS I hV x a)
 rw[List.length_cons,Jy] at this;omega
theorem my (I:Ci P 256) (i:∀{r u},P (r::u)->u=[]) (hV:∀{u},P u->∀v∈Go.Abs.BS u,v∈V) (h3:V.length<=3) {C S:Nat} (s:Cl<=C) (g:C<=Cn) (a:Rn<=S) (f:S<=Sm):Dp (Tf P) Rn C S:=
 have G:=ZQ I hV h3 a f
 {G with
  Cp:=fun hu hw h o=>(Tf.ZA I i hV h3 hu hw h o).mono AA
  fit:=fun hu=>(G.fit hu).mono AA
  mul:=fun hu=>by have:=G.mul hu;omega
  IT:=fun hu=>(G.IT hu).mono AA}
end
end
section
abbrev Fl (TT:AH->Prop) (w:AH):Prop:=Fm TT w Rn 2100 20 43400000 23 14
variable {V:List Re} {ns:List Nu} {w:AH}
theorem Pl.fl {P:AH->Prop} (L:Pl P V w) (g:∀{r u},P (r::u)->u=[]):Fl (Tf P) w:=by
 have h:BZ 256 w:=⟨L.hw.red L.I,L.hw.WE L.I g,AF,by have:=L.len L.hw;omega⟩
 refine⟨fun {S} i o=>my L.I g L.hV L.h3 AF AF i (Nat.le_trans o AF),L.hw,L.ha,AF,AF,fun {x y s t} a f=>(a.mul h f).mono (by
  have:=G5 (L.len L.hw) (Nat.le_refl 256);have e:EE 3 256<=2100:=by decide +kernel
  omega),fun {x y s} a f e=>(a.inv h f e).mono (Nat.le_trans (GZ (L.len L.hw) vw vw) (by simp only[II,EE];omega)),fun {u} hu=>?_⟩
 exact Nat.le_trans (GZ (L.len hu) vw vw) (Nat.le_trans (UR _) AF)
noncomputable def Ji (ns:List Nu):List Nu:=ns.filter (fun n=>decide (n.1.length<=1))
theorem aI (h:∀n∈ns,DG V n):∀n∈Ji ns,DG V n:=fun n a=>h n (List.mem_filter.1 a).1
theorem Ui {r:List Rat} {u:AH} (h:PN (Ji ns) (r::u)):u=[]:=by
 obtain⟨n,f,g⟩:=h;have i:=of_decide_eq_true (List.mem_filter.1 f).2;have a:=g.length_le;rw[List.length_cons] at a;exact List.length_eq_zero_iff.1 AA
theorem pM (L:Pl (PN (Ji ns)) V w) (h:∀n∈ns,DG V n) {n:Nu} (a:n∈ns\/n=NM) (f:(tw n.1).length<=1) {b k:Nat} (hb:40512<=k*b):Nm (Tf (PN (Ji ns))) w b k (tw n.1) (em n.1 n.2) n.2:=by
 rcases a with a | rfl
 ·have hm:n∈Ji ns:=List.mem_filter.2 ⟨a,decide_eq_true (by rw[tw,List.length_map,List.length_reverse] at f;exact f)⟩;have hu:=F6 L.h3 (aI h) hm;have he:=(h n a).el L.h3;exact⟨n.1,hu,rfl,rfl,he.mem,(Tf.ZA L.I Ui L.hV L.h3 hu L.hw (L.ha hu) he).mono (Nat.le_trans AF hb)⟩
 exact⟨[],.nil,rfl,rfl,IV 0 [],(El.rat (L.hw.red L.I) (Fg (b:=64) (r:=0) (by decide +kernel) (Nat.le_refl 64))).mono (Nat.le_trans AF hb)⟩
theorem oh (hV:V.length<=3) (h:∀n∈ns,DG V n):∃w,Pl (PN (Ji ns)) V w:=pw hV (aI h)
end
section
noncomputable def iX (xp yp xq yq t:Re):Re:=xp+(xq-xp)*Re.ofRat (1/2)+ -((yq-yp)*Re.ofRat (1/2))*(Re.ofRat ((1:Int):Rat)*BU t)
noncomputable def iY (xp yp xq yq t:Re):Re:=yp+(yq-yp)*Re.ofRat (1/2)+(xq-xp)*Re.ofRat (1/2)*(Re.ofRat ((1:Int):Rat)*BU t)
noncomputable def wX (xp yp xq yq xr yr:Re):Re:=((yr-yp)*((xq-xp)*(xq-xp)+(yq-yp)*(yq-yp))-(yq-yp)*((xr-xp)*(xr-xp)+(yr-yp)*(yr-yp)))*BU ((xq-xp)*(yr-yp)-(yq-yp)*(xr-xp)+((xq-xp)*(yr-yp)-(yq-yp)*(xr-xp)))
noncomputable def wY (xp yp xq yq xr yr:Re):Re:=((xq-xp)*((xr-xp)*(xr-xp)+(yr-yp)*(yr-yp))-(xr-xp)*((xq-xp)*(xq-xp)+(yq-yp)*(yq-yp)))*BU ((xq-xp)*(yr-yp)-(yq-yp)*(xr-xp)+((xq-xp)*(yr-yp)-(yq-yp)*(xr-xp)))
variable {CJ CK CP Cb Cz:LR} {CL CM CQ Cc C0:List LR} {TT:AH->Prop} {ka kb kp kq kt:Nat} {va vb vt xa xb xp xq ya yb yp yq:Re} {w:AH}
theorem kx:CY Tryz.prog 330 [BT,AD 0] (.var 0 [.int .i64 0]) (.one (.bool true)):=by
 refine C5 Tryz.func330 fun E a=>?_
 conv=>cbv
 refine Bx ?_;refine .inr ?_;refine Bx ?_;refine AQ
theorem Py {g:FuncId} {T1:List LR} {A1:LR} {T2:List LR} {A2:LR} {T3:List LR} {A3:LR} (f:CF g [.agg (AK T1 A1),.agg (AK T2 A2)] (AS (AK T3 A3) 0)):CY Tryz.prog 293 [BT,.one (.fn g),.agg (AK T1 A1),.agg (AK T2 A2)] (.var 0 [.int .i64 0]) (.agg (AK T3 A3)):=by
 refine C5 Tryz.func293 fun E a=>?_
 conv=>cbv
 refine AY ?_;refine AB a f ?_;refine Bh 0 0 a kx ?_;refine AQ
theorem TG (F:Fd TT w) (ha:Nm TT w 1950000 ka CL CJ va) (hb:Nm TT w 1950000 kb CM CK vb) (r:ka+kb+111<=80000):∃h g,Nm TT w 1950000 (ka+kb+1) h g (va+vb)/\CY Tryz.prog 294 [BT,.agg (AK CL CJ),.agg (AK CM CK)] (.var 0 [.int .i64 0]) (.agg (AK h g)):=by
 obtain⟨CQ,CP,f,a,i⟩:=Hi F ha hb;refine⟨CQ,CP,f.mono AA,?_⟩;refine C5 Tryz.func294 fun E o=>?_
 conv=>cbv
 refine Bh 0 0 o (Py a) ?_;refine AQ
theorem YO (F:Fd TT w) (ha:Nm TT w 1950000 ka CL CJ va) (hb:Nm TT w 1950000 kb CM CK vb) (r:ka+kb+111<=80000):∃h g,Nm TT w 1950000 (ka+kb+1) h g (va-vb)/\CY Tryz.prog 292 [BT,.agg (AK CL CJ),.agg (AK CM CK)] (.var 0 [.int .i64 0]) (.agg (AK h g)):=by
 obtain⟨CQ,CP,f,a,i⟩:=Jl F ha hb;refine⟨CQ,CP,f.mono AA,?_⟩;refine C5 Tryz.func292 fun E o=>?_
 conv=>cbv
 refine Bh 0 0 o (Py a) ?_;refine AQ
theorem Px (F:Fd TT w) (ha:Nm TT w 1950000 ka CL CJ va) (hb:Nm TT w 1950000 kb CM CK vb) (r:ka+kb+111<=80000):∃h g,Nm TT w 1950000 (ka+kb+1) h g (va*vb)/\CY Tryz.prog 291 [BT,.agg (AK CL CJ),.agg (AK CM CK)] (.var 0 [.int .i64 0]) (.agg (AK h g)):=by
 obtain⟨CQ,CP,f,a,i⟩:=Ef F ha hb;refine⟨CQ,CP,f.mono AA,?_⟩;refine C5 Tryz.func291 fun E o=>?_
 conv=>cbv
 refine Bh 0 0 o (Py a) ?_;refine AQ
theorem ku (F:Fd TT w) (ha:Nm TT w 1950000 ka CL CJ va) (hb:Nm TT w 1950000 kb CM CK vb) (o:vb≠0) (s:ka+47*kb+134<=80000):∃h g,Nm TT w 1950000 (ka+47*kb+24) h g (va*BU vb)/\CY Tryz.prog 233 [BT,.agg (AK CL CJ),.agg (AK CM CK)] (.var 0 [.int .i64 0]) (.agg (AK h g)):=by
 obtain⟨CQ,CP,f,a,i⟩:=G0 F ha hb (d:=47*kb+23) AA o;refine⟨CQ,CP,f.mono AA,?_⟩;refine C5 Tryz.func233 fun E r=>?_
 conv=>cbv
 refine Bh 0 0 r (Py a) ?_;refine AQ
theorem YL (F:Fd TT w) (ha:Vm TT w 1950000 ka ka CL CJ CM CK xa ya) (hb:Vm TT w 1950000 kb kb CQ CP Cc Cb xb yb) (C:ka+kb+111<=80000):∃A v h g,Vm TT w 1950000 (ka+kb+1) (ka+kb+1) A v h g (xa-xb) (ya-yb)/\CY Tryz.prog 231 [BT,.agg (AI CL CJ CM CK),.agg (AI CQ CP Cc Cb)] (.var 0 [.int .i64 0]) (.agg (AI A v h g)):=by
 obtain⟨FR,FP,r,i⟩:=YO F ha.x hb.x AA;obtain⟨f,a,s,o⟩:=YO F ha.y hb.y AA;have u:Vm _ w 1950000 (ka+kb+1) (ka+kb+1) FR FP f a _ _:=⟨r.mono AA,s.mono AA⟩;refine⟨FR,FP,f,a,u.mono AA AA,?_⟩;refine C5 Tryz.func231 fun E B=>?_
 conv=>cbv
 refine Bh 0 0 B i ?_;refine Bh 0 0 B o ?_;refine AQ
theorem YM (F:Fd TT w) (ha:Vm TT w 1950000 ka ka CL CJ CM CK xa ya) (hb:Vm TT w 1950000 kb kb CQ CP Cc Cb xb yb) (C:ka+kb+111<=80000):∃A v h g,Vm TT w 1950000 (ka+kb+1) (ka+kb+1) A v h g (xa+xb) (ya+yb)/\CY Tryz.prog 234 [BT,.agg (AI CL CJ CM CK),.agg (AI CQ CP Cc Cb)] (.var 0 [.int .i64 0]) (.agg (AI A v h g)):=by
 obtain⟨FR,FP,r,i⟩:=TG F ha.x hb.x AA;obtain⟨f,a,s,o⟩:=TG F ha.y hb.y AA;have u:Vm _ w 1950000 (ka+kb+1) (ka+kb+1) FR FP f a _ _:=⟨r.mono AA,s.mono AA⟩;refine⟨FR,FP,f,a,u.mono AA AA,?_⟩;refine C5 Tryz.func234 fun E B=>?_
 conv=>cbv
 refine Bh 0 0 B i ?_;refine Bh 0 0 B o ?_;refine AQ
theorem YN (F:Fd TT w) {A:Re} {g:Nat} (ha:Vm TT w 1950000 ka ka CL CJ CM CK xa ya) (G:Nm TT w 1950000 g CQ CP A) (H:ka+g+111<=80000):∃C B i h,Vm TT w 1950000 (ka+g+1) (ka+g+1) C B i h (xa*A) (ya*A)/\CY Tryz.prog 230 [BT,.agg (AI CL CJ CM CK),.agg (AK CQ CP)] (.var 0 [.int .i64 0]) (.agg (AI C B i h)):=by
 obtain⟨C0,Cz,s,o⟩:=Px F ha.x G AA;obtain⟨f,a,u,r⟩:=Px F ha.y G AA;have v:Vm _ w 1950000 (ka+g+1) (ka+g+1) C0 Cz f a _ _:=⟨s.mono AA,u.mono AA⟩;refine⟨C0,Cz,f,a,v.mono AA AA,?_⟩;refine C5 Tryz.func230 fun E D=>?_
 conv=>cbv
 refine Bh 0 0 D o ?_;refine Bh 0 0 D r ?_;refine AQ
theorem ky (F:Fd TT w) (ha:Vm TT w 1950000 ka ka CL CJ CM CK xa ya) (B:4*ka+113<=80000):∃A v,Nm TT w 1950000 (4*ka+3) A v ((xa*xa)+(ya*ya))/\CY Tryz.prog 235 [BT,.agg (AI CL CJ CM CK)] (.var 0 [.int .i64 0]) (.agg (AK A v)):=by
 obtain⟨Cc,Cb,o,g⟩:=Px F ha.x ha.x AA;obtain⟨FR,FP,r,h⟩:=Px F ha.y ha.y AA;obtain⟨f,a,s,i⟩:=TG F o r AA;refine⟨f,a,s.mono AA,?_⟩;refine C5 Tryz.func235 fun E u=>?_
 conv=>cbv
 refine Bh 0 0 u g ?_;refine Bh 0 0 u h ?_;refine Bh 0 0 u i ?_;refine AQ
theorem kc (F:Fd TT w):∃u,Nm TT w 1950000 (1) ([]:List LR) u (Re.ofRat (1/2))/\CF 232 [] (.agg (AK [] u)):=by
 obtain⟨i,r,o,s,a⟩:=CZ (1/2:Rat);have g:(1/2:Rat)=Rat.divInt 1 2:=by decide +kernel
 obtain⟨CJ,f,h⟩:=RO F (p:=(1/2:Rat)) (by decide +kernel);refine⟨CJ,h.mono AA,?_⟩;refine AN Tryz.func232 fun E v=>?_
 refine AB v (SG AF AF AF g a) ?_;refine AB v (Kw a (Hk (by decide +kernel:C7 (1/2:Rat))) f) ?_;exact AM ⟨t3,trivial⟩
theorem ke (F:Fd TT w) {FR:List LR} {FP:LR} {vi:Re} {ki:Nat} (hp:Vm TT w 1950000 kp kp CL CJ CM CK xp yp) (hq:Vm TT w 1950000 kq kq CQ CP Cc Cb xq yq) (ht:Nm TT w 1950000 kt C0 Cz vt) (hi:Nm TT w 1950000 ki FR FP vi) (h0:¬(xp=xq/\yp=yq)) (ah:vt≠0) (ak:vt*vi=1) (hM:4*ki+16*kp+8*kq+47*kt+443<=80000):∃U0 B0 K C U1 B1,Vm TT w 1950000 (ki+3*kp+2*kq+9) (ki+3*kp+2*kq+9) U0 B0 K C (iX xp yp xq yq vt) (iY xp yp xq yq vt)/\Nm TT w 1950000 (4*ki+16*kp+8*kq+43) U1 B1 (((xp-(iX xp yp xq yq vt))*(xp-(iX xp yp xq yq vt)))+((yp-(iY xp yp xq yq vt))*(yp-(iY xp yp xq yq vt))))/\CF 170 [.agg (AI CL CJ CM CK),.agg (AI CQ CP Cc Cb),.agg (AK C0 Cz)] (AS (Bu U0 B0 K C U1 B1) 0):=by
 obtain⟨aj,i,L,aK⟩:=EN F ht;have o:aj≠0:=fun z=>ah (Fu.1 (i.symm.trans z))
 obtain⟨al,a1,N⟩:=kc F;obtain⟨aB,an,aC,ao,a2,O⟩:=YL F hq hp AA;obtain⟨D,s,G,aq,f,Q⟩:=YN F a2 a1 AA;obtain⟨ar,h,a5⟩:=RO F (p:=((1:Int):Rat)) (by decide +kernel);obtain⟨aD,au,a6,S⟩:=ku F a5 ht ah AA;have a7:=a6.shrink hi (by rw[Qf ak,show Re.ofRat ((1:Int):Rat)=1 from rfl];grind);obtain⟨u,a8,T,aL⟩:=Gh F f.y;have aa:Vm _ w 1950000 (kp+kq+3) (kp+kq+3) G u D s _ _:=⟨a8.mono AA,f.x.mono AA⟩;obtain⟨aE,av,aF,aw,ab,U⟩:=YN F aa a7 AA;obtain⟨aG,ax,aH,ay,ad,W⟩:=YM F hp f AA;obtain⟨H,v,I,A,ae,X⟩:=YM F ad ab AA;have g:=ae.cast (x':=iX xp yp xq yq vt) (y':=iY xp yp xq yq vt) (rfl) (rfl);obtain⟨aI,az,aJ,aA,af,Y⟩:=YL F hp g AA
 obtain⟨J,B,ag,Z⟩:=ky F af AA;refine⟨H,v,I,A,J,B,g.mono AA AA,ag.mono AA,?_⟩;refine AN Tryz.func170 fun E a=>?_
 refine .inr ?_;refine AB (r:= .one (.bool false)) a (Hr F hp hq AA AA AA AA (e:=false) ⟨fun z=>(by cases z),fun z=>absurd z h0⟩) ?_;refine AB a L ?_;refine BV (fun ai=>?_) fun ai=>?_
 ·exact absurd ai o
 refine Bh 24 1 a O ?_;refine AB a N ?_;refine Bh 24 1 a Q ?_;refine AB a T ?_;refine AB a (Kv AF (Hk (by decide +kernel:C7 ((1:Int):Rat))) h) ?_;refine Bh 24 1 a S ?_;refine Bh 24 1 a U ?_;refine Bh 24 1 a W ?_;refine Bh 24 1 a X ?_;refine Bh 24 1 a Y ?_;refine Bh 24 1 a Z ?_;refine AY ?_;exact AM AQ
theorem kf (F:Fd TT w) (g:Vm TT w 1950000 kp kp CL CJ CM CK xp yp) (h:Vm TT w 1950000 kq kq CQ CP Cc Cb xq yq) (ht:Nm TT w 1950000 kt C0 Cz vt) (a:xp=xq/\yp=yq) (i:2*kp+2*kq+443<=80000):CF 170 [.agg (AI CL CJ CM CK),.agg (AI CQ CP Cc Cb),.agg (AK C0 Cz)] (AS (Bu [] [] [] [] [] []) 11):=by
 refine AN Tryz.func170 fun E f=>?_
 refine .inr ?_;refine AB f (Hr F g h AA AA AA AA (e:=true) ⟨fun _=>a,fun _=>rfl⟩) ?_;exact AM AQ
theorem kg (F:Fd TT w) (u:Vm TT w 1950000 kp kp CL CJ CM CK xp yp) (v:Vm TT w 1950000 kq kq CQ CP Cc Cb xq yq) (ht:Nm TT w 1950000 kt C0 Cz vt) (s:¬(xp=xq/\yp=yq)) (h:vt=0) (A:2*kp+2*kq+kt+443<=80000):CF 170 [.agg (AI CL CJ CM CK),.agg (AI CQ CP Cc Cb),.agg (AK C0 Cz)] (AS (Bu [] [] [] [] [] []) 6):=by
 obtain⟨g,a,f,i⟩:=EN F ht;obtain rfl:g=0:=a.trans (by rw[h];exact Gk);refine AN Tryz.func170 fun E o=>?_
 refine .inr ?_;refine AB (r:= .one (.bool false)) o (Hr F u v AA AA AA AA (e:=false) ⟨fun z=>(by cases z),fun z=>absurd z s⟩) ?_;refine AB o f ?_;refine Bx ?_;exact AM AQ
end
section
variable {A1 A2:LR} {T1 T2:List LR}
theorem cG:CY Tryz.prog 299 [BT,AD 0] (.var 0 [.int .i64 0]) (.BN []):=by
 refine C5 Tryz.func299 fun E a=>?_
 conv=>cbv
 refine Bx ?_;refine .inr ?_;refine AQ
theorem cH:CY Tryz.prog 245 [BT,.agg (AK T1 A1),AD 0] (.var 0 [.int .i64 0]) (.agg (AK T1 A1)):=by
 refine C5 Tryz.func245 fun E a=>?_
 conv=>cbv
 refine Bh 0 0 a cG ?_;refine AY ?_;refine AQ
theorem Vj:CY Tryz.prog 244 [BT,.agg (AI T1 A1 T2 A2),AD 0] (.var 0 [.int .i64 0]) (.agg (AI T1 A1 T2 A2)):=by
 refine C5 Tryz.func244 fun E a=>?_
 conv=>cbv
 refine Bh 0 0 a cG ?_;refine AY ?_;refine AQ
theorem q7 {T3:List LR} {A3:LR}:CY Tryz.prog 189 [BT,.agg (AI T1 A1 T2 A2),.agg (AK T3 A3)] (.var 0 [.int .i64 0]) (AS (Bu T1 A1 T2 A2 T3 A3) 0):=by
 refine C5 Tryz.func189 fun E a=>?_
 conv=>cbv
 refine AY ?_;refine AQ
end
section
variable {A1 A2 A3 A4 A5 CJ CK CP Cb Cz:LR} {M R b c d j k k' ka kb kp kq kt l l' p q:Nat} {T1 T2 T3 T4 T5 CL CM CQ Cc C0:List LR} {TT:AH->Prop} {t vt x1 x2 xa xb xp xq y1 y2 ya yb yp yq:Re} {w:AH}
theorem bh (F:Fl TT w) {p:Rat} (a:C7 p):∃A,A=em [] (Re.ofRat p)/\Nm TT w 2100 1 [] A (Re.ofRat p):=⟨_,rfl,GU F AF (Fg a)⟩
theorem qQ {m m':Nat} (F:Fm TT w R b c M q p) {α β γ x y:Re} (u:E8 TT w b k l T1 A1 T2 A2 T3 A3 α β γ) (ha:Vm TT w b m m' T4 A4 T5 A5 x y) (h:¬(α=0/\β=0)) (r:q*(2*k+5)+p<=d) (s:d+c+1<=M) (h3:2*k+l+m+m'+d+c+12<=M):∃T A f a,Vm TT w b (k+l+2*m+m'+d+11) (2*k+l+m+2*m'+d+10) T A f a (x-Fi α β γ x y*Re.ofRat (((2:Int):Rat))*α) (y-Fi α β γ x y*Re.ofRat (((2:Int):Rat))*β)/\CF 42 [.agg (Bu T1 A1 T2 A2 T3 A3),.agg (AI T4 A4 T5 A5)] (AS (AI T A f a) 0):=by
 obtain⟨T7,A7,T8,A8,i,g⟩:=qZ F u ha h r s (t:=2) AF (by decide +kernel) h3;refine⟨T7,A7,T8,A8,i,?_⟩;refine AN Tryz.func42 fun E o=>?_
 refine AB o g ?_;exact AM AQ
theorem qL (F:Fm TT w R b c M q p) (g:Vm TT w b k k' T1 A1 T2 A2 x1 y1) (i:Vm TT w b l l' T3 A3 T4 A4 x2 y2) (hk:2*k+4*c+3<=M) (a7:2*k'+4*c+3<=M) (hl:2*l+4*c+3<=M) (a8:2*l'+4*c+3<=M) (h0:¬(x1=x2/\y1=y2)) (hd:q*(l+k+3)+p<=d) (a6:q*(l'+k'+3)+p<=d) (hi:d+c+1<=M) (h1:2*k+2*k'+2*l+2*l'+c+12<=M):∃T A T' A' s o,E8 TT w b (l'+k'+d+4) (2*k+2*k'+2*l+2*l'+d+8) T A T' A' s o (un (Re.ofRat ((2:Int):Rat)*(x2-x1))) (Re.ofRat ((2:Int):Rat)*(y2-y1)*BU (fs (Re.ofRat ((2:Int):Rat)*(x2-x1)) (Re.ofRat ((2:Int):Rat)*(y2-y1)))) ((x2*x2+y2*y2-(x1*x1+y1*y1))*BU (fs (Re.ofRat ((2:Int):Rat)*(x2-x1)) (Re.ofRat ((2:Int):Rat)*(y2-y1))))/\CF 116 [.agg (AI T1 A1 T2 A2),.agg (AI T3 A3 T4 A4)] (AS (Bu T A T' A' s o) 0):=by
 obtain⟨A5,u⟩:=Di (em [] (Re.ofRat ((2:Int):Rat)));have h5:Nm TT w b 1 [] A5 (Re.ofRat ((2:Int):Rat)):=u ▸ GU F AA (Fg (by decide +kernel) F.hb);have v:Re.ofRat ((2:Int):Rat)≠0:=fun e=>absurd (Re.Jm.1 (show Re.ofRat ((2:Int):Rat)=Re.ofRat 0 from e)) AF
 obtain⟨T6,A6,h6,c6⟩:=EF F i.x i.x;obtain⟨T7,A7,h7,c7⟩:=EF F i.y i.y;obtain⟨T8,A8,h8,c8⟩:=IK F h6 h7;obtain⟨T9,A9,h9,c9⟩:=EF F g.x g.x;obtain⟨ai,aa,W,J⟩:=EF F g.y g.y;obtain⟨aj,ab,X,K⟩:=IK F h9 W;obtain⟨ak,ad,Y,L⟩:=HZ F h8 X;obtain⟨al,ae,Z,N⟩:=HZ F i.x g.x;obtain⟨an,af,a1,O⟩:=EF F h5 Z;obtain⟨ao,ag,a2,Q⟩:=HZ F i.y g.y;obtain⟨aq,ah,a5,S⟩:=EF F h5 a2;obtain⟨G,B,H,C,I,D,f,U⟩:=YI F (a1.mono (by omega:_<=l+k+3)) (a5.mono (by omega:_<=l'+k'+3)) Y hd a6 hi AA AA AA (fun h=>h0 ⟨Classical.byContradiction fun h2=>I3 v (fun e=>h2 (by grind)) h.1,Classical.byContradiction fun h2=>I3 v (fun e=>h2 (by grind)) h.2⟩)
 refine⟨G,B,H,C,I,D,⟨f.x,f.y.mono AA,f.z.mono AA⟩,?_⟩;refine Gc Tryz.func116 fun E a=>?_
 conv=>cbv
 refine Be (r:= .one (.bool false)) a (IB F g i hk a7 hl a8 (e:=false) ⟨fun h=>(by cases h),fun h=>absurd h h0⟩) ?_;conv=>cbv
 refine Be a (Gt AF u) ?_;conv=>cbv
 refine C1 14 1 a c6 ?_;try conv=>cbv
 refine C1 14 1 a c7 ?_;try conv=>cbv
 refine C1 14 1 a c8 ?_;try conv=>cbv
 refine C1 14 1 a c9 ?_;try conv=>cbv
 refine C1 14 1 a J ?_;try conv=>cbv
 refine C1 14 1 a K ?_;try conv=>cbv
 refine C1 14 1 a L ?_;try conv=>cbv
 refine Bl ?_;refine C1 14 1 a N ?_;try conv=>cbv
 refine C1 14 1 a O ?_;try conv=>cbv
 refine C1 14 1 a Q ?_;try conv=>cbv
 refine C1 14 1 a S ?_;try conv=>cbv
 refine C1 14 1 a U ?_;try conv=>cbv
 refine Bl ?_;exact AM AQ
theorem qM (F:Fm TT w R b c M q p) (r:Vm TT w b k k' T1 A1 T2 A2 x1 y1) (s:Vm TT w b l l' T3 A3 T4 A4 x2 y2) (i:2*k+4*c+3<=M) (a:2*k'+4*c+3<=M) (o:2*l+4*c+3<=M) (f:2*l'+4*c+3<=M) (g:x1=x2/\y1=y2):CF 116 [.agg (AI T1 A1 T2 A2),.agg (AI T3 A3 T4 A4)] (AS (Bu [] [] [] [] [] []) 11):=by
 refine AN Tryz.func116 fun E h=>?_
 refine AB h (IB F r s i a o f (e:=true) ⟨fun _=>g,fun _=>rfl⟩) ?_;exact AM AQ
theorem qa (F:Fm TT w R b c M q p) (Z:Vm TT w b k k' T1 A1 T2 A2 x1 y1) (o:Vm TT w b l l' T3 A3 T4 A4 x2 y2) (ht:Nm TT w b j T5 A5 t) (J:¬(x2=0/\y2=0)) (K:q*(l+l'+j+2)+p<=d) (Y:d+c+1<=M) (h1:k+k'+2*l+2*l'+2*j+c+8<=M):∃T A I H i g,E8 TT w b (l+l'+j+d+3) (k+k'+2*l+2*l'+2*j+d+8) T A I H i g (un (-(y2+t*x2))) ((x2-t*y2)*BU (fs (-(y2+t*x2)) (x2-t*y2))) ((-(y2+t*x2)*x1+(x2-t*y2)*y1)*BU (fs (-(y2+t*x2)) (x2-t*y2)))/\CF 191 [.agg (AI T1 A1 T2 A2),.agg (AI T3 A3 T4 A4),.agg (AK T5 A5)] (AS (Bu T A I H i g) 0):=by
 obtain⟨T6,A6,S,L⟩:=EF F ht o.y;obtain⟨T7,A7,U,N⟩:=HZ F o.x S;obtain⟨T8,A8,W,O⟩:=EF F ht o.x;obtain⟨T9,A9,X,Q⟩:=IK F o.y W;have hu:Vm TT w b (l+l'+j+2) (l+l'+j+2) T7 A7 T9 A9 (x2-t*y2) (y2+t*x2):=⟨U.mono AA,X.mono AA⟩;obtain⟨B,s,C,u,D,v,a,G⟩:=Oa F Z hu AA AA (fun h=>Rw (t:=t) J ⟨by grind,by grind⟩) K K Y;refine⟨B,s,C,u,D,v,⟨a.x,a.y.mono AA,a.z.mono AA⟩,?_⟩;refine Gc Tryz.func191 fun E f=>?_
 conv=>cbv
 refine Be (r:= .one (.bool false)) f (SC F o AA AA (e:=false) ⟨fun h=>(by cases h),fun h=>absurd h J⟩) ?_;conv=>cbv
 refine C1 15 1 f L ?_;try conv=>cbv
 refine C1 15 1 f N ?_;try conv=>cbv
 refine C1 15 1 f O ?_;try conv=>cbv
 refine C1 15 1 f Q ?_;try conv=>cbv
 refine C1 15 1 f Ps ?_;try conv=>cbv
 refine Bl ?_;refine He ?_;conv=>cbv
 refine Be f G ?_;conv=>cbv
 exact AM AQ
theorem qb (F:Fm TT w R b c M q p) (o:Vm TT w b k k' T1 A1 T2 A2 x1 y1) (i:Vm TT w b l l' T3 A3 T4 A4 x2 y2) (ht:Nm TT w b j T5 A5 t) (h:l+c+1<=M) (a:l'+c+1<=M) (f:x2=0/\y2=0):CF 191 [.agg (AI T1 A1 T2 A2),.agg (AI T3 A3 T4 A4),.agg (AK T5 A5)] (AS (Bu [] [] [] [] [] []) 6):=by
 refine AN Tryz.func191 fun E g=>?_
 refine AB g (SC F i h a (e:=true) ⟨fun _=>f,fun _=>rfl⟩) ?_;exact AM AQ
theorem qw (F:Fl TT w) {va vb:Re} (ha:Nm TT w 2100 ka CL CJ va) (hb:Nm TT w 2100 kb CM CK vb) (r:vb≠0) (s:ka+23*kb+35<=43400000):∃h g,Nm TT w 2100 (ka+23*kb+15) h g (va*BU vb)/\CY Tryz.prog 188 [BT,.agg (AK CL CJ),.agg (AK CM CK)] (.var 0 [.int .i64 0]) (.agg (AK h g)):=by
 obtain⟨CQ,CP,f,i,a⟩:=G0 F ha hb (d:=23*kb+14) AA r;refine⟨CQ,CP,f.mono AA,?_⟩;refine C5 Tryz.func188 fun E o=>?_
 conv=>cbv
 refine AB o a ?_;refine Bh 0 0 o cH ?_;refine AQ
theorem cE (F:Fl TT w) (ha:Vm TT w 2100 ka ka CL CJ CM CK xa ya) (hb:Vm TT w 2100 kb kb CQ CP Cc Cb xb yb) (s:ka+kb+21<=43400000):∃o i f a,Vm TT w 2100 (ka+kb+1) (ka+kb+1) o i f a (xa+xb) (ya+yb)/\CY Tryz.prog 187 [BT,.agg (AI CL CJ CM CK),.agg (AI CQ CP Cc Cb)] (.var 0 [.int .i64 0]) (.agg (AI o i f a)):=by
 obtain⟨C0,Cz,FR,FP,h,g⟩:=SB F ha hb;refine⟨C0,Cz,FR,FP,h.mono AA AA,?_⟩;refine C5 Tryz.func187 fun E r=>?_
 conv=>cbv
 refine AB r g ?_;refine Bh 0 0 r Vj ?_;refine AQ
theorem cD (F:Fl TT w) (ha:Vm TT w 2100 ka ka CL CJ CM CK xa ya) (hb:Vm TT w 2100 kb kb CQ CP Cc Cb xb yb) (u:ka+kb+21<=43400000):∃r o f a,Vm TT w 2100 (ka+kb+1) (ka+kb+1) r o f a (xa-xb) (ya-yb)/\CY Tryz.prog 186 [BT,.agg (AI CL CJ CM CK),.agg (AI CQ CP Cc Cb)] (.var 0 [.int .i64 0]) (.agg (AI r o f a)):=by
 obtain⟨C0,Cz,FR,FP,h,g⟩:=Ls F ha hb;have i:=h.cast (x':=xa-xb) (y':=ya-yb) (by grind) (by grind);refine⟨C0,Cz,FR,FP,i.mono AA AA,?_⟩;refine C5 Tryz.func186 fun E s=>?_
 conv=>cbv
 refine AB s g ?_;refine Bh 0 0 s Vj ?_;refine AQ
theorem cF (F:Fl TT w) {o:Re} {i:Nat} (ha:Vm TT w 2100 ka ka CL CJ CM CK xa ya) (v:Nm TT w 2100 i CQ CP o) (A:ka+i+21<=43400000):∃s r f a,Vm TT w 2100 (ka+i+1) (ka+i+1) s r f a (xa*o) (ya*o)/\CY Tryz.prog 185 [BT,.agg (AI CL CJ CM CK),.agg (AK CQ CP)] (.var 0 [.int .i64 0]) (.agg (AI s r f a)):=by
 obtain⟨Cc,Cb,C0,Cz,h,g⟩:=Wa F ha v;refine⟨Cc,Cb,C0,Cz,h.mono AA AA,?_⟩;refine C5 Tryz.func185 fun E u=>?_
 conv=>cbv
 refine AB u g ?_;refine Bh 0 0 u Vj ?_;refine AQ
theorem qy (F:Fl TT w) (ha:Vm TT w 2100 ka ka CL CJ CM CK xa ya) (o:2*ka+22<=43400000):∃h g,Nm TT w 2100 (4*ka+3) h g (xa*xa+ya*ya)/\CY Tryz.prog 246 [BT,.agg (AI CL CJ CM CK)] (.var 0 [.int .i64 0]) (.agg (AK h g)):=by
 obtain⟨CQ,CP,f,a⟩:=Wb F ha;refine⟨CQ,CP,f.mono AA,?_⟩;refine C5 Tryz.func246 fun E i=>?_
 conv=>cbv
 refine AB i a ?_;refine Bh 0 0 i cH ?_;refine AQ
theorem qx (F:Fl TT w) (ha:Vm TT w 2100 ka ka CL CJ CM CK xa ya) (hb:Vm TT w 2100 kb kb CQ CP Cc Cb xb yb) (B:2*ka+2*kb+24<=43400000):∃v s,Nm TT w 2100 (4*ka+4*kb+7) v s ((xa-xb)*(xa-xb)+(ya-yb)*(ya-yb))/\CY Tryz.prog 190 [BT,.agg (AI CL CJ CM CK),.agg (AI CQ CP Cc Cb)] (.var 0 [.int .i64 0]) (.agg (AK v s)):=by
 obtain⟨FR,FP,u,r,i,g⟩:=cD F ha hb AA;obtain⟨f,a,o,h⟩:=qy F i AA;refine⟨f,a,o.mono AA,?_⟩;refine C5 Tryz.func190 fun E A=>?_
 conv=>cbv
 refine Bh 0 0 A g ?_;refine Bh 0 0 A h ?_;refine AQ
theorem qN (F:Fl TT w) {FR:List LR} {FP:LR} {vi:Re} {ki:Nat} (hp:Vm TT w 2100 kp kp CL CJ CM CK xp yp) (hq:Vm TT w 2100 kq kq CQ CP Cc Cb xq yq) (ht:Nm TT w 2100 kt C0 Cz vt) (hi:Nm TT w 2100 ki FR FP vi) (h0:¬(xp=xq/\yp=yq)) (aa:vt≠0) (aj:vt*vi=1) (hM:2*ki+8*kp+4*kq+23*kt+83<=43400000):∃U0 B0 I C U1 B1,Vm TT w 2100 (ki+3*kp+2*kq+9) (ki+3*kp+2*kq+9) U0 B0 I C (iX xp yp xq yq vt) (iY xp yp xq yq vt)/\Nm TT w 2100 (4*ki+16*kp+8*kq+43) U1 B1 (((iX xp yp xq yq vt)-xp)*((iX xp yp xq yq vt)-xp)+((iY xp yp xq yq vt)-yp)*((iY xp yp xq yq vt)-yp))/\CF 115 [.agg (AI CL CJ CM CK),.agg (AI CQ CP Cc Cb),.agg (AK C0 Cz)] (AS (Bu U0 B0 I C U1 B1) 0):=by
 obtain⟨ad,s,aJ,U⟩:=EN F ht;have u:ad≠0:=fun z=>aa (Fu.1 (s.symm.trans z))
 obtain⟨aA,ak,aB,al,W,J⟩:=cD F hq hp AA;obtain⟨ae,ag,af,ah,ai⟩:=CZ (1/2:Rat);have o:(1/2:Rat)=Rat.divInt 1 2:=by decide +kernel
 obtain⟨an,h,X⟩:=bh F (p:=(1/2:Rat)) (by decide +kernel);obtain⟨aC,ao,aD,aq,f,K⟩:=cF F W X AA;obtain⟨aE,ar,aF,au,Y,L⟩:=cE F hp f AA;obtain⟨av,Z,N⟩:=O4 F f;obtain⟨aw,i,a1⟩:=bh F (p:=((1:Int):Rat)) (by decide +kernel);obtain⟨aG,ax,a2,O⟩:=qw F a1 ht aa AA;have a5:=a2.shrink hi (by rw[Qf aj,show Re.ofRat ((1:Int):Rat)=1 from rfl];grind);obtain⟨aH,ay,aI,az,a6,Q⟩:=cF F Z a5 AA;obtain⟨D,v,G,A,a7,S⟩:=cE F Y a6 AA;have g:=a7.cast (x':=iX xp yp xq yq vt) (y':=iY xp yp xq yq vt) (rfl) (rfl);obtain⟨H,B,a8,T⟩:=qx F g hp AA;refine⟨D,v,G,A,H,B,g.mono AA AA,a8.mono AA,?_⟩;refine AN Tryz.func115 fun E a=>?_
 refine AB (r:= .one (.bool false)) a (IB F hp hq AA AA AA AA (e:=false) ⟨fun z=>(by cases z),fun z=>absurd z h0⟩) ?_;refine AB a U ?_;refine BV (fun ab=>?_) fun ab=>?_
 ·exact absurd ab u
 refine Bh 20 1 a J ?_;refine AB a (PR AF AF AF o h) ?_;refine Bh 20 1 a K ?_;refine Bh 20 1 a L ?_;refine AB a N ?_;refine AB a (Gt AF i) ?_;refine Bh 20 1 a O ?_;refine Bh 20 1 a Q ?_;refine Bh 20 1 a S ?_;refine Bh 20 1 a T ?_;refine Bh 20 1 a q7 ?_;exact AM AQ
theorem qO (F:Fl TT w) (g:Vm TT w 2100 kp kp CL CJ CM CK xp yp) (h:Vm TT w 2100 kq kq CQ CP Cc Cb xq yq) (ht:Nm TT w 2100 kt C0 Cz vt) (a:xp=xq/\yp=yq) (i:2*kp+2*kq+83<=43400000):CF 115 [.agg (AI CL CJ CM CK),.agg (AI CQ CP Cc Cb),.agg (AK C0 Cz)] (AS (Bu [] [] [] [] [] []) 11):=by
 refine AN Tryz.func115 fun E f=>?_
 refine AB f (IB F g h AA AA AA AA (e:=true) ⟨fun _=>a,fun _=>rfl⟩) ?_;exact AM AQ
theorem qP (F:Fl TT w) (u:Vm TT w 2100 kp kp CL CJ CM CK xp yp) (v:Vm TT w 2100 kq kq CQ CP Cc Cb xq yq) (ht:Nm TT w 2100 kt C0 Cz vt) (s:¬(xp=xq/\yp=yq)) (h:vt=0) (A:2*kp+2*kq+kt+83<=43400000):CF 115 [.agg (AI CL CJ CM CK),.agg (AI CQ CP Cc Cb),.agg (AK C0 Cz)] (AS (Bu [] [] [] [] [] []) 6):=by
 obtain⟨g,a,i,f⟩:=EN F ht;obtain rfl:g=0:=a.trans (by rw[h];exact Gk);refine AN Tryz.func115 fun E o=>?_
 refine AB (r:= .one (.bool false)) o (IB F u v AA AA AA AA (e:=false) ⟨fun z=>(by cases z),fun z=>absurd z s⟩) ?_;refine AB o f ?_;refine Bx ?_;exact AM AQ
end
end Go.Abs
