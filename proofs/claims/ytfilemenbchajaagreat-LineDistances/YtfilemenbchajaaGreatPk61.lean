/- Part 62 of a proof. Conditions: each theorem's own. -/
import Derived.Test.YtfilemenbchajaaGreatPk57
import Derived.Test.YtfilemenbchajaaGreatPk58
set_option linter.all false
set_option maxHeartbeats 8000000
set_option maxRecDepth 20000
open Go.Proofs
namespace Go.Abs
open Go.RowKit
noncomputable def oC (xp yp xq yq δ:Re):Re:=(xp+ -(yq-yp)*δ)*(yq-yp)+(yp+(xq-xp)*δ)* -(xq-xp)
variable {A1 A2 AK AJ AO AZ Ah Aj:LR} {T1 T2 AL AI AQ Aa Ai Ak:List LR} {TT Gy:List (List Rat)->Prop} {ki kp kq kt:Nat} {sd:Int} {v vi vt xp xq yp yq:Re} {w w0:List (List Rat)}
theorem jq {δ:Re} (a:¬(xp=xq/\yp=yq)):un (yq-yp)=un (-(yq-yp))/\ -(xq-xp)*As (fs (yq-yp) (-(xq-xp)))=(xq-xp)*As (fs (-(yq-yp)) (xq-xp))/\oC xp yp xq yq δ*As (fs (yq-yp) (-(xq-xp)))=(-(yq-yp)*(xp-δ*(yq-yp))+(xq-xp)*(yp+δ*(xq-xp)))*As (fs (-(yq-yp)) (xq-xp)):=
 lK (fun z=>a ⟨by grind,by grind⟩) (by grind) (by grind) (by unfold oC;grind)
theorem iw {x:Re} {r:Int} (h:0<=x) (e:r=BJ x):¬r<0:=by rcases EP x with⟨a,b⟩ |⟨a,b⟩ |⟨a,b⟩ <;> first | omega | (exfalso;grind)
theorem jb (h:CF 79 [.agg [.sl (.sl AA) T1,.sl AA A1]] (.AE [(true,[.sl (.sl AA) T2,.sl AA A2]),(false,[.int .i64 0])])):BW Tryz.prog 131 [.one (.AD 0 0 0),.agg [.sl (.sl AA) T1,.sl AA A1]] (.var 0 [.int .i64 0]) (.agg [.sl (.sl AA) T2,.sl AA A2]):=by
 refine Bn Tryz.func131 (by kernel_rfl) rfl fun E a=>?_
 conv=>cbv
 refine cL a h ⟨t2,trivial⟩ ?_;try conv=>cbv
 refine dL 0 (.var 0 [.int .i64 0]) a jC ⟨rfl,⟨⟨⟨rfl,rfl⟩,rfl⟩,t2,rfl,trivial⟩⟩ ?_;try conv=>cbv
 refine fun _=>⟨⟨⟨t3,trivial⟩,rfl,by simp⟩,rfl⟩
theorem jy {R0 b0 c0 M0 q0 p0 k0 K0 kr:Nat} {xa ya:Re} (g:Fm Gy w0 R0 b0 c0 M0 q0 p0) (b:Vm Gy w0 b0 k0 k0 T1 A1 T2 A2 xa ya) (n:xa*xa+ya*ya=v) (m:Rt Gy w0 b0 K0 TT w 1950000 kr v) (l:2*k0+c0+2<=M0) (p:4*k0+3<=K0):∃d c,Nm TT w 1950000 (kr) d c (Re.sqrt v)/\CF 123 [.agg [.sl (.sl AA) T1,.sl AA A1,.sl (.sl AA) T2,.sl AA A2]] (.AE [(true,[.sl (.sl AA) d,.sl AA c]),(false,[.int .i64 0])]):=by
 obtain⟨T5,A5,j,h⟩:=WS g b (by omega) (by omega);obtain⟨T6,A6,k,i,_⟩:=m.get (show _<=K0 by omega) (j.cast n);refine⟨T6,A6,k.mono (by omega),?_⟩;refine BP Tryz.func123 (by kernel_rfl) rfl fun E f=>?_
 conv=>cbv
 refine cL f h ⟨t4,trivial⟩ ?_;try conv=>cbv
 intro o a;cases a.trans (show _=false by decide);conv=>cbv
 refine cL f i ⟨t2,trivial⟩ ?_;try conv=>cbv
 exact fA ⟨t3,t2,trivial⟩ rfl (by simp)
theorem jO (F:Fd TT w) (hp:Vm TT w 1950000 kp kp AL AK AI AJ xp yp) (hq:Vm TT w 1950000 kq kq AQ AO Aa AZ xq yq) (ht:Nm TT w 1950000 kt Ai Ah vt) (hi:Nm TT w 1950000 ki Ak Aj vi) (F0:Fe Gy w0) (R:Vm Gy w0 11500 20 20 AL AK AI AJ xp yp) (S:Vm Gy w0 11500 20 20 AQ AO Aa AZ xq yq) (U:Up Gy w0 11500 167 TT w 1950000) (hr:Rt Gy w0 11500 167 TT w 1950000 2 v) (hv:(xq-xp)*(xq-xp)+(yq-yp)*(yq-yp)=v) (h0:¬(xp=xq/\yp=yq)) (T:0<=vt) (hn:Re.sqrt v≠0) (K:Re.sqrt v*vi=1) (hM:2*ki+2*kp+2*kq+2*kt+443<=80000):∃U0 B0 U1 B1 U2 B2,Nm TT w 1950000 (1) U0 B0 (un (yq-yp))/\Nm TT w 1950000 (72) U1 B1 ((-(xq-xp))*As (fs (yq-yp) (-(xq-xp))))/\Nm TT w 1950000 (2*ki+2*kp+2*kt+84) U2 B2 (oC xp yp xq yq (vt*vi)*As (fs (yq-yp) (-(xq-xp))))/\CF 42 [.agg [.sl (.sl AA) AL,.sl AA AK,.sl (.sl AA) AI,.sl AA AJ],.agg [.sl (.sl AA) AQ,.sl AA AO,.sl (.sl AA) Aa,.sl AA AZ],.agg [.sl (.sl AA) Ai,.sl AA Ah],.one (.int .i64 1)] (.AE [(true,[.sl (.sl AA) U0,.sl AA B0,.sl (.sl AA) U1,.sl AA B1,.sl (.sl AA) U2,.sl AA B2]),(false,[.int .i64 0])]):=by
 obtain⟨ah,k,l,ae⟩:=DQ F ht (by omega);have P:=iw T k;obtain⟨Tw,Aw,Tv,Av,L,cw⟩:=JR F0 S R (by omega) (by omega) (by omega) (by omega);have hw:=U.v (by decide) (by decide) L;obtain⟨Tn,An,Q,cn⟩:=jy F0 L hv hr (by decide) (by decide);obtain⟨BA,Ay,u,m,af⟩:=D1 F ht Q (d:=117) (by omega) hn (by omega) (by omega) (by omega);obtain⟨a6,W,A,ad,ag⟩:=EN F ht hi (by omega) (by omega);have B:=u.shrink A (il K);have C:=B.cast (y:=vt*vi) (il K);obtain⟨X,D,n⟩:=P5 F hw (by omega) (by omega);obtain⟨a7,Y,a8,Z,G,o⟩:=iy F D C (by omega) (by omega) (by omega);obtain⟨aa,a1,ab,a2,H,p⟩:=WR F hp G (by omega) (by omega) (by omega) (by omega);obtain⟨a5,I,q⟩:=az F hw (by omega) (by omega);obtain⟨h,c,i,f,j,g,b,s⟩:=Zg F H I (d:=70) (by omega) (by omega) (by omega) (by omega) (fun z=>h0 ⟨by grind,by grind⟩)
 have J:=b.z.cast (y:=oC xp yp xq yq (vt*vi)*As (fs (yq-yp) (-(xq-xp)))) (rfl);refine⟨h,c,i,f,j,g,b.x.mono (by omega),b.y.mono (by omega),J.mono (by omega),?_⟩;refine BP Tryz.func42 (by kernel_rfl) rfl fun E a=>?_
 conv=>cbv
 refine .inr ?_;intro ai N;cases N.trans (show _=false by decide);conv=>cbv
 refine cL a l ⟨t2,trivial⟩ ?_;try conv=>cbv
 intro V t;conv=>cbv
 cases V <;> conv=>cbv
 ·have M:=Ad t;refine cL (r:= .one (.bool false)) a (IH F hp hq (by omega) (by omega) (by omega) (by omega) (e:=false) ⟨fun z=>(by cases z),fun z=>absurd z h0⟩) ⟨t4,t4,trivial⟩ ?_;try conv=>cbv
  refine cL a cw ⟨t4,t4,trivial⟩ ?_;try conv=>cbv
  refine dL 32 (.var 1 [.int .i64 0]) a iZ ⟨rfl,⟨⟨⟨rfl,rfl⟩,rfl⟩,t4,rfl,trivial⟩⟩ ?_;try conv=>cbv
  refine cL a cn ⟨t4,trivial⟩ ?_;try conv=>cbv
  refine dL 32 (.var 1 [.int .i64 0]) a HA ⟨rfl,⟨⟨⟨rfl,rfl⟩,rfl⟩,t2,rfl,trivial⟩⟩ ?_;try conv=>cbv
  refine cL a m ⟨t2,t2,trivial⟩ ?_;try conv=>cbv
  refine dL 32 (.var 1 [.int .i64 0]) a HA ⟨rfl,⟨⟨⟨rfl,rfl⟩,rfl⟩,t2,rfl,trivial⟩⟩ ?_;try conv=>cbv
  refine⟨fun _=>Aq (by kernel_rfl),?_⟩;intro Cg O;cases O.trans (show _=false by decide);conv=>cbv
  refine .inr ?_;refine cL a n ⟨t4,trivial⟩ ?_;try conv=>cbv
  refine cL a o ⟨t4,t2,trivial⟩ ?_;try conv=>cbv
  refine dL 32 (.var 1 [.int .i64 0]) a iZ ⟨rfl,⟨⟨⟨rfl,rfl⟩,rfl⟩,t4,rfl,trivial⟩⟩ ?_;try conv=>cbv
  refine cL a p ⟨t4,t4,trivial⟩ ?_;try conv=>cbv
  refine dL 32 (.var 1 [.int .i64 0]) a iZ ⟨rfl,⟨⟨⟨rfl,rfl⟩,rfl⟩,t4,rfl,trivial⟩⟩ ?_;try conv=>cbv
  refine cL a q ⟨t4,trivial⟩ ?_;try conv=>cbv
  refine dL 32 (.var 1 [.int .i64 0]) a s ⟨rfl,⟨⟨⟨rfl,rfl⟩,rfl⟩,t4,t4,trivial⟩⟩ ?_;try conv=>cbv
  refine⟨fun _=>Aq (by kernel_rfl),?_⟩;exact fA ⟨⟨rfl,rfl,rfl,rfl,rfl,rfl,rfl,trivial⟩,t2,trivial⟩ rfl (by simp)
 have M:=Ae t;exact absurd M P
theorem jN (F:Fd TT w) (hp:Vm TT w 1950000 kp kp AL AK AI AJ xp yp) (hq:Vm TT w 1950000 kq kq AQ AO Aa AZ xq yq) (ht:Nm TT w 1950000 kt Ai Ah vt) (hi:Nm TT w 1950000 ki Ak Aj vi) (F0:Fe Gy w0) (V:Vm Gy w0 11500 20 20 AL AK AI AJ xp yp) (W:Vm Gy w0 11500 20 20 AQ AO Aa AZ xq yq) (U:Up Gy w0 11500 167 TT w 1950000) (hr:Rt Gy w0 11500 167 TT w 1950000 2 v) (hv:(xq-xp)*(xq-xp)+(yq-yp)*(yq-yp)=v) (h0:¬(xp=xq/\yp=yq)) (X:0<=vt) (hn:Re.sqrt v≠0) (M:Re.sqrt v*vi=1) (hM:2*ki+2*kp+2*kq+2*kt+443<=80000):∃U0 B0 U1 B1 U2 B2,Nm TT w 1950000 (1) U0 B0 (un (yq-yp))/\Nm TT w 1950000 (72) U1 B1 ((-(xq-xp))*As (fs (yq-yp) (-(xq-xp))))/\Nm TT w 1950000 (2*ki+2*kp+2*kt+84) U2 B2 (oC xp yp xq yq (-(vt*vi))*As (fs (yq-yp) (-(xq-xp))))/\CF 42 [.agg [.sl (.sl AA) AL,.sl AA AK,.sl (.sl AA) AI,.sl AA AJ],.agg [.sl (.sl AA) AQ,.sl AA AO,.sl (.sl AA) Aa,.sl AA AZ],.agg [.sl (.sl AA) Ai,.sl AA Ah],.one (.int .i64 (-1))] (.AE [(true,[.sl (.sl AA) U0,.sl AA B0,.sl (.sl AA) U1,.sl AA B1,.sl (.sl AA) U2,.sl AA B2]),(false,[.int .i64 0])]):=by
 obtain⟨an,k,l,ai⟩:=DQ F ht (by omega);have S:=iw X k;obtain⟨Tw,Aw,Tv,Av,N,cw⟩:=JR F0 W V (by omega) (by omega) (by omega) (by omega);have hw:=U.v (by decide) (by decide) N;obtain⟨Tn,An,T,cn⟩:=jy F0 N hv hr (by decide) (by decide);obtain⟨BA,Ay,A,m,aj⟩:=D1 F ht T (d:=117) (by omega) hn (by omega) (by omega) (by omega);obtain⟨ab,Z,B,ah,ak⟩:=EN F ht hi (by omega) (by omega);have C:=A.shrink B (il M);have D:=C.cast (y:=vt*vi) (il M);obtain⟨a1,G,n,al⟩:=Ec F D (by omega);obtain⟨a2,H,o⟩:=P5 F hw (by omega) (by omega);obtain⟨ad,a5,ae,a6,I,p⟩:=iy F H G (by omega) (by omega) (by omega);obtain⟨af,a7,ag,a8,J,q⟩:=WR F hp I (by omega) (by omega) (by omega) (by omega);obtain⟨aa,K,s⟩:=az F hw (by omega) (by omega);obtain⟨h,c,i,f,j,g,b,t⟩:=Zg F J K (d:=70) (by omega) (by omega) (by omega) (by omega) (fun z=>h0 ⟨by grind,by grind⟩)
 have L:=b.z.cast (y:=oC xp yp xq yq (-(vt*vi))*As (fs (yq-yp) (-(xq-xp)))) (rfl);refine⟨h,c,i,f,j,g,b.x.mono (by omega),b.y.mono (by omega),L.mono (by omega),?_⟩;refine BP Tryz.func42 (by kernel_rfl) rfl fun E a=>?_
 conv=>cbv
 refine .inr ?_;intro ao P;cases P.trans (show _=true by decide);conv=>cbv
 intro aq Q;cases Q.trans (show _=false by decide);conv=>cbv
 refine cL a l ⟨t2,trivial⟩ ?_;try conv=>cbv
 intro Y u;conv=>cbv
 cases Y <;> conv=>cbv
 ·have O:=Ad u;refine cL (r:= .one (.bool false)) a (IH F hp hq (by omega) (by omega) (by omega) (by omega) (e:=false) ⟨fun z=>(by cases z),fun z=>absurd z h0⟩) ⟨t4,t4,trivial⟩ ?_;try conv=>cbv
  refine cL a cw ⟨t4,t4,trivial⟩ ?_;try conv=>cbv
  refine dL 32 (.var 1 [.int .i64 0]) a iZ ⟨rfl,⟨⟨⟨rfl,rfl⟩,rfl⟩,t4,rfl,trivial⟩⟩ ?_;try conv=>cbv
  refine cL a cn ⟨t4,trivial⟩ ?_;try conv=>cbv
  refine dL 32 (.var 1 [.int .i64 0]) a HA ⟨rfl,⟨⟨⟨rfl,rfl⟩,rfl⟩,t2,rfl,trivial⟩⟩ ?_;try conv=>cbv
  refine cL a m ⟨t2,t2,trivial⟩ ?_;try conv=>cbv
  refine dL 32 (.var 1 [.int .i64 0]) a HA ⟨rfl,⟨⟨⟨rfl,rfl⟩,rfl⟩,t2,rfl,trivial⟩⟩ ?_;try conv=>cbv
  refine⟨fun _=>Aq (by kernel_rfl),?_⟩;intro Cg R;cases R.trans (show _=true by decide);conv=>cbv
  refine .inr ?_;refine cL a n ⟨t2,trivial⟩ ?_;try conv=>cbv
  refine cL a o ⟨t4,trivial⟩ ?_;try conv=>cbv
  refine cL a p ⟨t4,t2,trivial⟩ ?_;try conv=>cbv
  refine dL 32 (.var 1 [.int .i64 0]) a iZ ⟨rfl,⟨⟨⟨rfl,rfl⟩,rfl⟩,t4,rfl,trivial⟩⟩ ?_;try conv=>cbv
  refine cL a q ⟨t4,t4,trivial⟩ ?_;try conv=>cbv
  refine dL 32 (.var 1 [.int .i64 0]) a iZ ⟨rfl,⟨⟨⟨rfl,rfl⟩,rfl⟩,t4,rfl,trivial⟩⟩ ?_;try conv=>cbv
  refine cL a s ⟨t4,trivial⟩ ?_;try conv=>cbv
  refine dL 32 (.var 1 [.int .i64 0]) a t ⟨rfl,⟨⟨⟨rfl,rfl⟩,rfl⟩,t4,t4,trivial⟩⟩ ?_;try conv=>cbv
  refine⟨fun _=>Aq (by kernel_rfl),?_⟩;exact fA ⟨⟨rfl,rfl,rfl,rfl,rfl,rfl,rfl,trivial⟩,t2,trivial⟩ rfl (by simp)
 have O:=Ae u;exact absurd O S
theorem kZ:Re.ofRat ((-1:Int):Rat)= -1:=by rw[show ((-1:Int):Rat)= -1 by decide +kernel,Re.ofRat_neg];rfl
theorem kj (F:Fd TT w) (hp:Vm TT w 1950000 kp kp AL AK AI AJ xp yp) (hq:Vm TT w 1950000 kq kq AQ AO Aa AZ xq yq) (ht:Nm TT w 1950000 kt Ai Ah vt) (hi:Nm TT w 1950000 ki Ak Aj vi) (u:Fe Gy w0) (ah:Vm Gy w0 11500 20 20 AL AK AI AJ xp yp) (ai:Vm Gy w0 11500 20 20 AQ AO Aa AZ xq yq) (U:Up Gy w0 11500 167 TT w 1950000) (hr:Rt Gy w0 11500 167 TT w 1950000 2 v) (hv:(xq-xp)*(xq-xp)+(yq-yp)*(yq-yp)=v) (h0:¬(xp=xq/\yp=yq)) (ar:0<=vt) (hn:Re.sqrt v≠0) (aj:Re.sqrt v*vi=1) (hM:2*ki+2*kp+2*kq+2*kt+443<=80000):∃U0 B0 U1 B1 U2 B2,Nm TT w 1950000 (1) U0 B0 (un (yq-yp))/\Nm TT w 1950000 (72) U1 B1 (-(xq-xp)*As (fs (yq-yp) (-(xq-xp))))/\Nm TT w 1950000 (2*ki+2*kp+2*kt+88) U2 B2 (oC xp yp xq yq (vt*vi)*As (fs (yq-yp) (-(xq-xp))))/\CF 43 [.agg [.sl (.sl AA) AL,.sl AA AK,.sl (.sl AA) AI,.sl AA AJ],.agg [.sl (.sl AA) AQ,.sl AA AO,.sl (.sl AA) Aa,.sl AA AZ],.agg [.sl (.sl AA) Ai,.sl AA Ah],.one (.int .i64 1)] (.AE [(true,[.sl (.sl AA) U0,.sl AA B0,.sl (.sl AA) U1,.sl AA B1,.sl (.sl AA) U2,.sl AA B2]),(false,[.int .i64 0])]):=by
 obtain⟨aP,o,aM,R⟩:=DQ F ht (by omega);have ao:=iw ar o;obtain⟨BA,Ay,b,D⟩:=iz u ai.x ah.x (by omega) (by omega);obtain⟨A,q,c,G⟩:=iz u ai.y ah.y (by omega) (by omega);obtain⟨aE,av,T,H⟩:=ie u b b (by omega) (by omega);obtain⟨aF,aw,V,I⟩:=ie u c c (by omega) (by omega);obtain⟨aG,ax,W,J⟩:=jB u T V (by omega) (by omega);obtain⟨Tn,An,aq,_,cn⟩:=hr.get (by omega) (W.cast hv);obtain⟨aH,ay,X,K⟩:=ik F ht aq (d:=117) (by omega) hn (by omega) (by omega) (by omega);obtain⟨aI,az,Y,aN,aO⟩:=EN F ht hi (by omega) (by omega);have Z:=X.shrink Y (il aj);have a1:=Z.cast (y:=vt*vi) (il aj);obtain⟨aA,n,a2⟩:=DK F (p:=((1:Int):Rat)) (by decide +kernel);obtain⟨aJ,aB,a5,L⟩:=ie F a1 a2 (by omega) (by omega)
 have g:=a5.cast (y:=vt*vi) (by rw[show Re.ofRat ((1:Int):Rat)=1 from rfl];grind);obtain⟨aK,aC,a6,M⟩:=ie F g (U.up (by omega) c) (by omega) (by omega);obtain⟨B,s,a7,N⟩:=iz F hp.x a6 (by omega) (by omega);obtain⟨aL,aD,a8,O⟩:=ie F g (U.up (by omega) b) (by omega) (by omega);obtain⟨C,t,aa,P⟩:=jB F hp.y a8 (by omega) (by omega);have ab:Vm _ w 1950000 (ki+kp+kt+6) (ki+kp+kt+6) B s C t _ _:=⟨a7.mono (by omega),aa.mono (by omega)⟩;have ad:Vm _ w 1950000 1 1 BA Ay A q _ _:=⟨(U.up (by omega) b).mono (by omega),(U.up (by omega) c).mono (by omega)⟩;obtain⟨k,h,l,i,m,j,f,Q⟩:=js F ab ad (by omega) (by omega) (fun z=>h0 ⟨by grind,by grind⟩) (d:=70) (by omega) (by omega) (by omega) (by omega);obtain⟨e1,e2,e3⟩:=jq (δ:=vt*vi) h0;have ae:=f.x.cast (y:=un (yq-yp)) (e1.symm)
 have af:=f.y.cast (y:= -(xq-xp)*As (fs (yq-yp) (-(xq-xp)))) (e2.symm);have ag:=f.z.cast (y:=oC xp yp xq yq (vt*vi)*As (fs (yq-yp) (-(xq-xp)))) (e3.symm);refine⟨k,h,l,i,m,j,ae.mono (by omega),af.mono (by omega),ag.mono (by omega),?_⟩;refine BP Tryz.func43 (by kernel_rfl) rfl fun E a=>?_
 conv=>cbv
 intro aQ al;cases al.trans (show _=false by decide);conv=>cbv
 refine cL a R ⟨t2,trivial⟩ ?_;try conv=>cbv
 intro au S;conv=>cbv
 cases au <;> conv=>cbv
 ·have ak:=Ad S;refine cL (r:= .one (.bool false)) a (EU F hp hq (by omega) (by omega) (by omega) (by omega) (e:=false) ⟨fun z=>(by cases z),fun z=>absurd z h0⟩) ⟨t4,t4,trivial⟩ ?_;try conv=>cbv
  refine dL 31 (.var 1 [.int .i64 0]) a D ⟨rfl,⟨⟨⟨rfl,rfl⟩,rfl⟩,t2,t2,trivial⟩⟩ ?_;try conv=>cbv
  refine dL 31 (.var 1 [.int .i64 0]) a G ⟨rfl,⟨⟨⟨rfl,rfl⟩,rfl⟩,t2,t2,trivial⟩⟩ ?_;try conv=>cbv
  refine⟨fun _=>Aq (by kernel_rfl),?_⟩;refine dL 31 (.var 1 [.int .i64 0]) a H ⟨rfl,⟨⟨⟨rfl,rfl⟩,rfl⟩,t2,t2,trivial⟩⟩ ?_;try conv=>cbv
  refine dL 31 (.var 1 [.int .i64 0]) a I ⟨rfl,⟨⟨⟨rfl,rfl⟩,rfl⟩,t2,t2,trivial⟩⟩ ?_;try conv=>cbv
  refine dL 31 (.var 1 [.int .i64 0]) a J ⟨rfl,⟨⟨⟨rfl,rfl⟩,rfl⟩,t2,t2,trivial⟩⟩ ?_;try conv=>cbv
  refine dL 31 (.var 1 [.int .i64 0]) a (jb cn) ⟨rfl,⟨⟨⟨rfl,rfl⟩,rfl⟩,t2,trivial⟩⟩ ?_;try conv=>cbv
  refine dL 31 (.var 1 [.int .i64 0]) a K ⟨rfl,⟨⟨⟨rfl,rfl⟩,rfl⟩,t2,t2,trivial⟩⟩ ?_;try conv=>cbv
  refine⟨fun _=>Aq (by kernel_rfl),?_⟩;refine cL a (D6 (by decide) n) t1 ?_;try conv=>cbv
  refine dL 31 (.var 1 [.int .i64 0]) a L ⟨rfl,⟨⟨⟨rfl,rfl⟩,rfl⟩,t2,t2,trivial⟩⟩ ?_;try conv=>cbv
  refine⟨fun _=>Aq (by kernel_rfl),?_⟩;refine dL 31 (.var 1 [.int .i64 0]) a M ⟨rfl,⟨⟨⟨rfl,rfl⟩,rfl⟩,t2,t2,trivial⟩⟩ ?_;try conv=>cbv
  refine dL 31 (.var 1 [.int .i64 0]) a N ⟨rfl,⟨⟨⟨rfl,rfl⟩,rfl⟩,t2,t2,trivial⟩⟩ ?_;try conv=>cbv
  refine dL 31 (.var 1 [.int .i64 0]) a O ⟨rfl,⟨⟨⟨rfl,rfl⟩,rfl⟩,t2,t2,trivial⟩⟩ ?_;try conv=>cbv
  refine dL 31 (.var 1 [.int .i64 0]) a P ⟨rfl,⟨⟨⟨rfl,rfl⟩,rfl⟩,t2,t2,trivial⟩⟩ ?_;try conv=>cbv
  refine dL 31 (.var 1 [.int .i64 0]) a ja ⟨rfl,⟨⟨⟨rfl,rfl⟩,rfl⟩,t2,t2,trivial⟩⟩ ?_;try conv=>cbv
  refine⟨fun _=>Aq (by kernel_rfl),?_⟩;intro aR an;cases an.trans (show _=false by decide);conv=>cbv
  refine cL a Q ⟨t4,t4,trivial⟩ ?_;try conv=>cbv
  exact fA ⟨⟨rfl,rfl,rfl,rfl,rfl,rfl,rfl,trivial⟩,t2,trivial⟩ rfl (by simp)
 have ak:=Ae S;exact absurd ak ao
theorem kh (F:Fd TT w) (hp:Vm TT w 1950000 kp kp AL AK AI AJ xp yp) (hq:Vm TT w 1950000 kq kq AQ AO Aa AZ xq yq) (ht:Nm TT w 1950000 kt Ai Ah vt) (hi:Nm TT w 1950000 ki Ak Aj vi) (u:Fe Gy w0) (ah:Vm Gy w0 11500 20 20 AL AK AI AJ xp yp) (ai:Vm Gy w0 11500 20 20 AQ AO Aa AZ xq yq) (U:Up Gy w0 11500 167 TT w 1950000) (hr:Rt Gy w0 11500 167 TT w 1950000 2 v) (hv:(xq-xp)*(xq-xp)+(yq-yp)*(yq-yp)=v) (h0:¬(xp=xq/\yp=yq)) (au:0<=vt) (hn:Re.sqrt v≠0) (aj:Re.sqrt v*vi=1) (hM:2*ki+2*kp+2*kq+2*kt+443<=80000):∃U0 B0 U1 B1 U2 B2,Nm TT w 1950000 (1) U0 B0 (un (yq-yp))/\Nm TT w 1950000 (72) U1 B1 (-(xq-xp)*As (fs (yq-yp) (-(xq-xp))))/\Nm TT w 1950000 (2*ki+2*kp+2*kt+88) U2 B2 (oC xp yp xq yq (-(vt*vi))*As (fs (yq-yp) (-(xq-xp))))/\CF 43 [.agg [.sl (.sl AA) AL,.sl AA AK,.sl (.sl AA) AI,.sl AA AJ],.agg [.sl (.sl AA) AQ,.sl AA AO,.sl (.sl AA) Aa,.sl AA AZ],.agg [.sl (.sl AA) Ai,.sl AA Ah],.one (.int .i64 (-1))] (.AE [(true,[.sl (.sl AA) U0,.sl AA B0,.sl (.sl AA) U1,.sl AA B1,.sl (.sl AA) U2,.sl AA B2]),(false,[.int .i64 0])]):=by
 obtain⟨aQ,o,aN,R⟩:=DQ F ht (by omega);have aq:=iw au o;obtain⟨BA,Ay,b,D⟩:=iz u ai.x ah.x (by omega) (by omega);obtain⟨A,q,c,G⟩:=iz u ai.y ah.y (by omega) (by omega);obtain⟨aF,aw,T,H⟩:=ie u b b (by omega) (by omega);obtain⟨aG,ax,V,I⟩:=ie u c c (by omega) (by omega);obtain⟨aH,ay,W,J⟩:=jB u T V (by omega) (by omega);obtain⟨Tn,An,ar,_,cn⟩:=hr.get (by omega) (W.cast hv);obtain⟨aI,az,X,K⟩:=ik F ht ar (d:=117) (by omega) hn (by omega) (by omega) (by omega);obtain⟨aJ,aA,Y,aO,aP⟩:=EN F ht hi (by omega) (by omega);have Z:=X.shrink Y (il aj);have a1:=Z.cast (y:=vt*vi) (il aj);obtain⟨aB,n,a2⟩:=DK F (p:=((-1:Int):Rat)) (by decide +kernel);obtain⟨aK,aC,a5,L⟩:=ie F a1 a2 (by omega) (by omega)
 have g:=a5.cast (y:= -(vt*vi)) (by rw[show Re.ofRat ((-1:Int):Rat)= -1 from kZ];grind);obtain⟨aL,aD,a6,M⟩:=ie F g (U.up (by omega) c) (by omega) (by omega);obtain⟨B,s,a7,N⟩:=iz F hp.x a6 (by omega) (by omega);obtain⟨aM,aE,a8,O⟩:=ie F g (U.up (by omega) b) (by omega) (by omega);obtain⟨C,t,aa,P⟩:=jB F hp.y a8 (by omega) (by omega);have ab:Vm _ w 1950000 (ki+kp+kt+6) (ki+kp+kt+6) B s C t _ _:=⟨a7.mono (by omega),aa.mono (by omega)⟩;have ad:Vm _ w 1950000 1 1 BA Ay A q _ _:=⟨(U.up (by omega) b).mono (by omega),(U.up (by omega) c).mono (by omega)⟩;obtain⟨k,h,l,i,m,j,f,Q⟩:=js F ab ad (by omega) (by omega) (fun z=>h0 ⟨by grind,by grind⟩) (d:=70) (by omega) (by omega) (by omega) (by omega);obtain⟨e1,e2,e3⟩:=jq (δ:= -(vt*vi)) h0
 have ae:=f.x.cast (y:=un (yq-yp)) (e1.symm);have af:=f.y.cast (y:= -(xq-xp)*As (fs (yq-yp) (-(xq-xp)))) (e2.symm);have ag:=f.z.cast (y:=oC xp yp xq yq (-(vt*vi))*As (fs (yq-yp) (-(xq-xp)))) (e3.symm);refine⟨k,h,l,i,m,j,ae.mono (by omega),af.mono (by omega),ag.mono (by omega),?_⟩;refine BP Tryz.func43 (by kernel_rfl) rfl fun E a=>?_
 conv=>cbv
 intro aR al;cases al.trans (show _=true by decide);conv=>cbv
 intro aS an;cases an.trans (show _=false by decide);conv=>cbv
 refine cL a R ⟨t2,trivial⟩ ?_;try conv=>cbv
 intro av S;conv=>cbv
 cases av <;> conv=>cbv
 ·have ak:=Ad S;refine cL (r:= .one (.bool false)) a (EU F hp hq (by omega) (by omega) (by omega) (by omega) (e:=false) ⟨fun z=>(by cases z),fun z=>absurd z h0⟩) ⟨t4,t4,trivial⟩ ?_;try conv=>cbv
  refine dL 31 (.var 1 [.int .i64 0]) a D ⟨rfl,⟨⟨⟨rfl,rfl⟩,rfl⟩,t2,t2,trivial⟩⟩ ?_;try conv=>cbv
  refine dL 31 (.var 1 [.int .i64 0]) a G ⟨rfl,⟨⟨⟨rfl,rfl⟩,rfl⟩,t2,t2,trivial⟩⟩ ?_;try conv=>cbv
  refine⟨fun _=>Aq (by kernel_rfl),?_⟩;refine dL 31 (.var 1 [.int .i64 0]) a H ⟨rfl,⟨⟨⟨rfl,rfl⟩,rfl⟩,t2,t2,trivial⟩⟩ ?_;try conv=>cbv
  refine dL 31 (.var 1 [.int .i64 0]) a I ⟨rfl,⟨⟨⟨rfl,rfl⟩,rfl⟩,t2,t2,trivial⟩⟩ ?_;try conv=>cbv
  refine dL 31 (.var 1 [.int .i64 0]) a J ⟨rfl,⟨⟨⟨rfl,rfl⟩,rfl⟩,t2,t2,trivial⟩⟩ ?_;try conv=>cbv
  refine dL 31 (.var 1 [.int .i64 0]) a (jb cn) ⟨rfl,⟨⟨⟨rfl,rfl⟩,rfl⟩,t2,trivial⟩⟩ ?_;try conv=>cbv
  refine dL 31 (.var 1 [.int .i64 0]) a K ⟨rfl,⟨⟨⟨rfl,rfl⟩,rfl⟩,t2,t2,trivial⟩⟩ ?_;try conv=>cbv
  refine⟨fun _=>Aq (by kernel_rfl),?_⟩;refine cL a (D6 (by decide) n) t1 ?_;try conv=>cbv
  refine dL 31 (.var 1 [.int .i64 0]) a L ⟨rfl,⟨⟨⟨rfl,rfl⟩,rfl⟩,t2,t2,trivial⟩⟩ ?_;try conv=>cbv
  refine⟨fun _=>Aq (by kernel_rfl),?_⟩;refine dL 31 (.var 1 [.int .i64 0]) a M ⟨rfl,⟨⟨⟨rfl,rfl⟩,rfl⟩,t2,t2,trivial⟩⟩ ?_;try conv=>cbv
  refine dL 31 (.var 1 [.int .i64 0]) a N ⟨rfl,⟨⟨⟨rfl,rfl⟩,rfl⟩,t2,t2,trivial⟩⟩ ?_;try conv=>cbv
  refine dL 31 (.var 1 [.int .i64 0]) a O ⟨rfl,⟨⟨⟨rfl,rfl⟩,rfl⟩,t2,t2,trivial⟩⟩ ?_;try conv=>cbv
  refine dL 31 (.var 1 [.int .i64 0]) a P ⟨rfl,⟨⟨⟨rfl,rfl⟩,rfl⟩,t2,t2,trivial⟩⟩ ?_;try conv=>cbv
  refine dL 31 (.var 1 [.int .i64 0]) a ja ⟨rfl,⟨⟨⟨rfl,rfl⟩,rfl⟩,t2,t2,trivial⟩⟩ ?_;try conv=>cbv
  refine⟨fun _=>Aq (by kernel_rfl),?_⟩;intro aT ao;cases ao.trans (show _=false by decide);conv=>cbv
  refine cL a Q ⟨t4,t4,trivial⟩ ?_;try conv=>cbv
  exact fA ⟨⟨rfl,rfl,rfl,rfl,rfl,rfl,rfl,trivial⟩,t2,trivial⟩ rfl (by simp)
 have ak:=Ae S;exact absurd ak aq
theorem kR (F:Fd TT w) (k:Vm TT w 1950000 kp kp AL AK AI AJ xp yp) (l:Vm TT w 1950000 kq kq AQ AO Aa AZ xq yq) (ht:Nm TT w 1950000 kt Ai Ah vt) (f:sd≠1) (g:sd≠ -1):CF 42 [.agg [.sl (.sl AA) AL,.sl AA AK,.sl (.sl AA) AI,.sl AA AJ],.agg [.sl (.sl AA) AQ,.sl AA AO,.sl (.sl AA) Aa,.sl AA AZ],.agg [.sl (.sl AA) Ai,.sl AA Ah],.one (.int .i64 sd)] (.AE [(true,[.sl (.sl AA) (([]:List LR)),.sl AA (([]:LR)),.sl (.sl AA) (([]:List LR)),.sl AA (([]:LR)),.sl (.sl AA) (([]:List LR)),.sl AA (([]:LR))]),(false,[.int .i64 1])]):=by
 refine BP Tryz.func42 (by kernel_rfl) rfl fun E j=>?_
 conv=>cbv
 refine .inr ?_;intro h a;conv=>cbv
 cases h <;> conv=>cbv
 ·have c:=Dg a;exact absurd c f
 have c:=Dh a;intro i b;conv=>cbv
 cases i <;> conv=>cbv
 ·have d:=Dg b;exact absurd d g
 have d:=Dh b;exact fA ⟨⟨rfl,.inr (.inl ⟨_,rfl⟩),.inr (.inl ⟨_,rfl⟩),.inr (.inl ⟨_,rfl⟩),.inr (.inl ⟨_,rfl⟩),.inr (.inl ⟨_,rfl⟩),.inr (.inl ⟨_,rfl⟩),trivial⟩,t2,trivial⟩ rfl (by simp)
theorem kT (F:Fd TT w) (m:Vm TT w 1950000 kp kp AL AK AI AJ xp yp) (n:Vm TT w 1950000 kq kq AQ AO Aa AZ xq yq) (ht:Nm TT w 1950000 kt Ai Ah vt) (g:vt<0) (l:kt+111<=80000):CF 42 [.agg [.sl (.sl AA) AL,.sl AA AK,.sl (.sl AA) AI,.sl AA AJ],.agg [.sl (.sl AA) AQ,.sl AA AO,.sl (.sl AA) Aa,.sl AA AZ],.agg [.sl (.sl AA) Ai,.sl AA Ah],.one (.int .i64 1)] (.AE [(true,[.sl (.sl AA) (([]:List LR)),.sl AA (([]:LR)),.sl (.sl AA) (([]:List LR)),.sl AA (([]:LR)),.sl (.sl AA) (([]:List LR)),.sl AA (([]:LR))]),(false,[.int .i64 7])]):=by
 obtain⟨c,a,b,h⟩:=DQ F ht (by omega);obtain rfl:c= -1:=a.trans (JH g);refine BP Tryz.func42 (by kernel_rfl) rfl fun E i=>?_
 conv=>cbv
 refine .inr ?_;intro j d;cases d.trans (show _=false by decide);conv=>cbv
 refine cL i b ⟨t2,trivial⟩ ?_;try conv=>cbv
 intro k f;cases f.trans (show _=true by decide);conv=>cbv
 exact fA ⟨⟨rfl,.inr (.inl ⟨_,rfl⟩),.inr (.inl ⟨_,rfl⟩),.inr (.inl ⟨_,rfl⟩),.inr (.inl ⟨_,rfl⟩),.inr (.inl ⟨_,rfl⟩),.inr (.inl ⟨_,rfl⟩),trivial⟩,t2,trivial⟩ rfl (by simp)
theorem kQ (F:Fd TT w) (n:Vm TT w 1950000 kp kp AL AK AI AJ xp yp) (o:Vm TT w 1950000 kq kq AQ AO Aa AZ xq yq) (ht:Nm TT w 1950000 kt Ai Ah vt) (h:0<=vt) (m:xp=xq/\yp=yq) (q:2*kp+2*kq+kt+443<=80000):CF 42 [.agg [.sl (.sl AA) AL,.sl AA AK,.sl (.sl AA) AI,.sl AA AJ],.agg [.sl (.sl AA) AQ,.sl AA AO,.sl (.sl AA) Aa,.sl AA AZ],.agg [.sl (.sl AA) Ai,.sl AA Ah],.one (.int .i64 1)] (.AE [(true,[.sl (.sl AA) (([]:List LR)),.sl AA (([]:LR)),.sl (.sl AA) (([]:List LR)),.sl AA (([]:LR)),.sl (.sl AA) (([]:List LR)),.sl AA (([]:LR))]),(false,[.int .i64 11])]):=by
 obtain⟨l,a,b,j⟩:=DQ F ht (by omega);have g:=iw h a;refine BP Tryz.func42 (by kernel_rfl) rfl fun E k=>?_
 conv=>cbv
 refine .inr ?_;intro p f;cases f.trans (show _=false by decide);conv=>cbv
 refine cL k b ⟨t2,trivial⟩ ?_;try conv=>cbv
 intro i c;conv=>cbv
 cases i <;> conv=>cbv
 ·have d:=Ad c;refine cL k (IH F n o (by omega) (by omega) (by omega) (by omega) (e:=true) ⟨fun _=>m,fun _=>rfl⟩) ⟨t4,t4,trivial⟩ ?_;try conv=>cbv
  exact fA ⟨⟨rfl,.inr (.inl ⟨_,rfl⟩),.inr (.inl ⟨_,rfl⟩),.inr (.inl ⟨_,rfl⟩),.inr (.inl ⟨_,rfl⟩),.inr (.inl ⟨_,rfl⟩),.inr (.inl ⟨_,rfl⟩),trivial⟩,t2,trivial⟩ rfl (by simp)
 have d:=Ae c;exact absurd d g
theorem kS (F:Fd TT w) (o:Vm TT w 1950000 kp kp AL AK AI AJ xp yp) (p:Vm TT w 1950000 kq kq AQ AO Aa AZ xq yq) (ht:Nm TT w 1950000 kt Ai Ah vt) (h:vt<0) (n:kt+111<=80000):CF 42 [.agg [.sl (.sl AA) AL,.sl AA AK,.sl (.sl AA) AI,.sl AA AJ],.agg [.sl (.sl AA) AQ,.sl AA AO,.sl (.sl AA) Aa,.sl AA AZ],.agg [.sl (.sl AA) Ai,.sl AA Ah],.one (.int .i64 (-1))] (.AE [(true,[.sl (.sl AA) (([]:List LR)),.sl AA (([]:LR)),.sl (.sl AA) (([]:List LR)),.sl AA (([]:LR)),.sl (.sl AA) (([]:List LR)),.sl AA (([]:LR))]),(false,[.int .i64 7])]):=by
 obtain⟨c,a,b,i⟩:=DQ F ht (by omega);obtain rfl:c= -1:=a.trans (JH h);refine BP Tryz.func42 (by kernel_rfl) rfl fun E j=>?_
 conv=>cbv
 refine .inr ?_;intro k d;cases d.trans (show _=true by decide);conv=>cbv
 intro l f;cases f.trans (show _=false by decide);conv=>cbv
 refine cL j b ⟨t2,trivial⟩ ?_;try conv=>cbv
 intro m g;cases g.trans (show _=true by decide);conv=>cbv
 exact fA ⟨⟨rfl,.inr (.inl ⟨_,rfl⟩),.inr (.inl ⟨_,rfl⟩),.inr (.inl ⟨_,rfl⟩),.inr (.inl ⟨_,rfl⟩),.inr (.inl ⟨_,rfl⟩),.inr (.inl ⟨_,rfl⟩),trivial⟩,t2,trivial⟩ rfl (by simp)
theorem kP (F:Fd TT w) (o:Vm TT w 1950000 kp kp AL AK AI AJ xp yp) (p:Vm TT w 1950000 kq kq AQ AO Aa AZ xq yq) (ht:Nm TT w 1950000 kt Ai Ah vt) (i:0<=vt) (n:xp=xq/\yp=yq) (s:2*kp+2*kq+kt+443<=80000):CF 42 [.agg [.sl (.sl AA) AL,.sl AA AK,.sl (.sl AA) AI,.sl AA AJ],.agg [.sl (.sl AA) AQ,.sl AA AO,.sl (.sl AA) Aa,.sl AA AZ],.agg [.sl (.sl AA) Ai,.sl AA Ah],.one (.int .i64 (-1))] (.AE [(true,[.sl (.sl AA) (([]:List LR)),.sl AA (([]:LR)),.sl (.sl AA) (([]:List LR)),.sl AA (([]:LR)),.sl (.sl AA) (([]:List LR)),.sl AA (([]:LR))]),(false,[.int .i64 11])]):=by
 obtain⟨m,a,b,k⟩:=DQ F ht (by omega);have h:=iw i a;refine BP Tryz.func42 (by kernel_rfl) rfl fun E l=>?_
 conv=>cbv
 refine .inr ?_;intro q f;cases f.trans (show _=true by decide);conv=>cbv
 intro r g;cases g.trans (show _=false by decide);conv=>cbv
 refine cL l b ⟨t2,trivial⟩ ?_;try conv=>cbv
 intro j c;conv=>cbv
 cases j <;> conv=>cbv
 ·have d:=Ad c;refine cL l (IH F o p (by omega) (by omega) (by omega) (by omega) (e:=true) ⟨fun _=>n,fun _=>rfl⟩) ⟨t4,t4,trivial⟩ ?_;try conv=>cbv
  exact fA ⟨⟨rfl,.inr (.inl ⟨_,rfl⟩),.inr (.inl ⟨_,rfl⟩),.inr (.inl ⟨_,rfl⟩),.inr (.inl ⟨_,rfl⟩),.inr (.inl ⟨_,rfl⟩),.inr (.inl ⟨_,rfl⟩),trivial⟩,t2,trivial⟩ rfl (by simp)
 have d:=Ae c;exact absurd d h
theorem lA (F:Fd TT w) (k:Vm TT w 1950000 kp kp AL AK AI AJ xp yp) (l:Vm TT w 1950000 kq kq AQ AO Aa AZ xq yq) (ht:Nm TT w 1950000 kt Ai Ah vt) (f:sd≠1) (g:sd≠ -1):CF 43 [.agg [.sl (.sl AA) AL,.sl AA AK,.sl (.sl AA) AI,.sl AA AJ],.agg [.sl (.sl AA) AQ,.sl AA AO,.sl (.sl AA) Aa,.sl AA AZ],.agg [.sl (.sl AA) Ai,.sl AA Ah],.one (.int .i64 sd)] (.AE [(true,[.sl (.sl AA) (([]:List LR)),.sl AA (([]:LR)),.sl (.sl AA) (([]:List LR)),.sl AA (([]:LR)),.sl (.sl AA) (([]:List LR)),.sl AA (([]:LR))]),(false,[.int .i64 1])]):=by
 refine BP Tryz.func43 (by kernel_rfl) rfl fun E j=>?_
 conv=>cbv
 intro h a;conv=>cbv
 cases h <;> conv=>cbv
 ·have c:=Dg a;exact absurd c f
 have c:=Dh a;intro i b;conv=>cbv
 cases i <;> conv=>cbv
 ·have d:=Dg b;exact absurd d g
 have d:=Dh b;exact fA ⟨⟨rfl,.inr (.inl ⟨_,rfl⟩),.inr (.inl ⟨_,rfl⟩),.inr (.inl ⟨_,rfl⟩),.inr (.inl ⟨_,rfl⟩),.inr (.inl ⟨_,rfl⟩),.inr (.inl ⟨_,rfl⟩),trivial⟩,t2,trivial⟩ rfl (by simp)
theorem lC (F:Fd TT w) (m:Vm TT w 1950000 kp kp AL AK AI AJ xp yp) (n:Vm TT w 1950000 kq kq AQ AO Aa AZ xq yq) (ht:Nm TT w 1950000 kt Ai Ah vt) (g:vt<0) (l:kt+111<=80000):CF 43 [.agg [.sl (.sl AA) AL,.sl AA AK,.sl (.sl AA) AI,.sl AA AJ],.agg [.sl (.sl AA) AQ,.sl AA AO,.sl (.sl AA) Aa,.sl AA AZ],.agg [.sl (.sl AA) Ai,.sl AA Ah],.one (.int .i64 1)] (.AE [(true,[.sl (.sl AA) (([]:List LR)),.sl AA (([]:LR)),.sl (.sl AA) (([]:List LR)),.sl AA (([]:LR)),.sl (.sl AA) (([]:List LR)),.sl AA (([]:LR))]),(false,[.int .i64 7])]):=by
 obtain⟨c,a,h,b⟩:=DQ F ht (by omega);obtain rfl:c= -1:=a.trans (JH g);refine BP Tryz.func43 (by kernel_rfl) rfl fun E i=>?_
 conv=>cbv
 intro j d;cases d.trans (show _=false by decide);conv=>cbv
 refine cL i b ⟨t2,trivial⟩ ?_;try conv=>cbv
 intro k f;cases f.trans (show _=true by decide);conv=>cbv
 exact fA ⟨⟨rfl,.inr (.inl ⟨_,rfl⟩),.inr (.inl ⟨_,rfl⟩),.inr (.inl ⟨_,rfl⟩),.inr (.inl ⟨_,rfl⟩),.inr (.inl ⟨_,rfl⟩),.inr (.inl ⟨_,rfl⟩),trivial⟩,t2,trivial⟩ rfl (by simp)
theorem km (F:Fd TT w) (n:Vm TT w 1950000 kp kp AL AK AI AJ xp yp) (o:Vm TT w 1950000 kq kq AQ AO Aa AZ xq yq) (ht:Nm TT w 1950000 kt Ai Ah vt) (h:0<=vt) (m:xp=xq/\yp=yq) (q:2*kp+2*kq+kt+443<=80000):CF 43 [.agg [.sl (.sl AA) AL,.sl AA AK,.sl (.sl AA) AI,.sl AA AJ],.agg [.sl (.sl AA) AQ,.sl AA AO,.sl (.sl AA) Aa,.sl AA AZ],.agg [.sl (.sl AA) Ai,.sl AA Ah],.one (.int .i64 1)] (.AE [(true,[.sl (.sl AA) (([]:List LR)),.sl AA (([]:LR)),.sl (.sl AA) (([]:List LR)),.sl AA (([]:LR)),.sl (.sl AA) (([]:List LR)),.sl AA (([]:LR))]),(false,[.int .i64 11])]):=by
 obtain⟨l,a,j,b⟩:=DQ F ht (by omega);have g:=iw h a;refine BP Tryz.func43 (by kernel_rfl) rfl fun E k=>?_
 conv=>cbv
 intro p f;cases f.trans (show _=false by decide);conv=>cbv
 refine cL k b ⟨t2,trivial⟩ ?_;try conv=>cbv
 intro i c;conv=>cbv
 cases i <;> conv=>cbv
 ·have d:=Ad c;refine cL k (EU F n o (by omega) (by omega) (by omega) (by omega) (e:=true) ⟨fun _=>m,fun _=>rfl⟩) ⟨t4,t4,trivial⟩ ?_;try conv=>cbv
  exact fA ⟨⟨rfl,.inr (.inl ⟨_,rfl⟩),.inr (.inl ⟨_,rfl⟩),.inr (.inl ⟨_,rfl⟩),.inr (.inl ⟨_,rfl⟩),.inr (.inl ⟨_,rfl⟩),.inr (.inl ⟨_,rfl⟩),trivial⟩,t2,trivial⟩ rfl (by simp)
 have d:=Ae c;exact absurd d g
theorem lB (F:Fd TT w) (o:Vm TT w 1950000 kp kp AL AK AI AJ xp yp) (p:Vm TT w 1950000 kq kq AQ AO Aa AZ xq yq) (ht:Nm TT w 1950000 kt Ai Ah vt) (h:vt<0) (n:kt+111<=80000):CF 43 [.agg [.sl (.sl AA) AL,.sl AA AK,.sl (.sl AA) AI,.sl AA AJ],.agg [.sl (.sl AA) AQ,.sl AA AO,.sl (.sl AA) Aa,.sl AA AZ],.agg [.sl (.sl AA) Ai,.sl AA Ah],.one (.int .i64 (-1))] (.AE [(true,[.sl (.sl AA) (([]:List LR)),.sl AA (([]:LR)),.sl (.sl AA) (([]:List LR)),.sl AA (([]:LR)),.sl (.sl AA) (([]:List LR)),.sl AA (([]:LR))]),(false,[.int .i64 7])]):=by
 obtain⟨c,a,i,b⟩:=DQ F ht (by omega);obtain rfl:c= -1:=a.trans (JH h);refine BP Tryz.func43 (by kernel_rfl) rfl fun E j=>?_
 conv=>cbv
 intro k d;cases d.trans (show _=true by decide);conv=>cbv
 intro l f;cases f.trans (show _=false by decide);conv=>cbv
 refine cL j b ⟨t2,trivial⟩ ?_;try conv=>cbv
 intro m g;cases g.trans (show _=true by decide);conv=>cbv
 exact fA ⟨⟨rfl,.inr (.inl ⟨_,rfl⟩),.inr (.inl ⟨_,rfl⟩),.inr (.inl ⟨_,rfl⟩),.inr (.inl ⟨_,rfl⟩),.inr (.inl ⟨_,rfl⟩),.inr (.inl ⟨_,rfl⟩),trivial⟩,t2,trivial⟩ rfl (by simp)
theorem kl (F:Fd TT w) (o:Vm TT w 1950000 kp kp AL AK AI AJ xp yp) (p:Vm TT w 1950000 kq kq AQ AO Aa AZ xq yq) (ht:Nm TT w 1950000 kt Ai Ah vt) (i:0<=vt) (n:xp=xq/\yp=yq) (s:2*kp+2*kq+kt+443<=80000):CF 43 [.agg [.sl (.sl AA) AL,.sl AA AK,.sl (.sl AA) AI,.sl AA AJ],.agg [.sl (.sl AA) AQ,.sl AA AO,.sl (.sl AA) Aa,.sl AA AZ],.agg [.sl (.sl AA) Ai,.sl AA Ah],.one (.int .i64 (-1))] (.AE [(true,[.sl (.sl AA) (([]:List LR)),.sl AA (([]:LR)),.sl (.sl AA) (([]:List LR)),.sl AA (([]:LR)),.sl (.sl AA) (([]:List LR)),.sl AA (([]:LR))]),(false,[.int .i64 11])]):=by
 obtain⟨m,a,k,b⟩:=DQ F ht (by omega);have h:=iw i a;refine BP Tryz.func43 (by kernel_rfl) rfl fun E l=>?_
 conv=>cbv
 intro q f;cases f.trans (show _=true by decide);conv=>cbv
 intro r g;cases g.trans (show _=false by decide);conv=>cbv
 refine cL l b ⟨t2,trivial⟩ ?_;try conv=>cbv
 intro j c;conv=>cbv
 cases j <;> conv=>cbv
 ·have d:=Ad c;refine cL l (EU F o p (by omega) (by omega) (by omega) (by omega) (e:=true) ⟨fun _=>n,fun _=>rfl⟩) ⟨t4,t4,trivial⟩ ?_;try conv=>cbv
  exact fA ⟨⟨rfl,.inr (.inl ⟨_,rfl⟩),.inr (.inl ⟨_,rfl⟩),.inr (.inl ⟨_,rfl⟩),.inr (.inl ⟨_,rfl⟩),.inr (.inl ⟨_,rfl⟩),.inr (.inl ⟨_,rfl⟩),trivial⟩,t2,trivial⟩ rfl (by simp)
 have d:=Ae c;exact absurd d h
theorem jj (F:Fd TT w) {va vb vc vx vy i:Re} {kb kc g h:Nat} (ha:Nm TT w 1950000 1 AL AK va) (hb:Nm TT w 1950000 kb AI AJ vb) (f:Nm TT w 1950000 kc AQ AO vc) (l:Nm TT w 1950000 1 Aa AZ vx) (m:Nm TT w 1950000 g Ai Ah vy) (n:Nm TT w 1950000 h Ak Aj i) (c:va=1\/va=0/\vb=1) (j:va=vx) (k:vb=vy) (h3:vc=i) (q:2*kb+2*kc+2*g+2*h+443<=80000):CF 44 [.agg [.sl (.sl AA) AL,.sl AA AK,.sl (.sl AA) AI,.sl AA AJ,.sl (.sl AA) AQ,.sl AA AO],.one (.int .i64 0),.agg [.sl (.sl AA) Aa,.sl AA AZ,.sl (.sl AA) Ai,.sl AA Ah,.sl (.sl AA) Ak,.sl AA Aj],.one (.int .i64 0)] (.one (.bool true)):=by
 refine BP Tryz.func44 (by kernel_rfl) rfl fun E d=>?_
 conv=>cbv
 intro o a;cases a.trans (show _=true by decide);conv=>cbv
 intro p b;cases b.trans (show _=false by decide);conv=>cbv
 refine cL d (lF F ⟨ha,hb,f⟩ (by omega) (by omega) (by decide) c) ⟨⟨rfl,rfl,rfl,rfl,rfl,rfl,trivial⟩,trivial⟩ ?_;try conv=>cbv
 refine cL d (rEq F ⟨ha,hb,f⟩ ⟨l,m,n⟩ (by omega) (by omega) (by omega) (by omega) (by decide) (e:=true) ⟨fun _=>⟨⟨j,k⟩,h3⟩,fun _=>rfl⟩) ⟨⟨rfl,rfl,rfl,rfl,rfl,rfl,trivial⟩,⟨rfl,rfl,rfl,rfl,rfl,rfl,trivial⟩,trivial⟩ ?_;try conv=>cbv
 exact fA ⟨t2,trivial⟩ rfl (by simp)
theorem jE {T3 T4 T5 T6:List LR} {A3 A4 A5 A6:LR} {e:Int} (he:e≠0):CF 44 [.agg [.sl (.sl AA) T1,.sl AA A1,.sl (.sl AA) T2,.sl AA A2,.sl (.sl AA) T3,.sl AA A3],.one (.int .i64 e),.agg [.sl (.sl AA) T4,.sl AA A4,.sl (.sl AA) T5,.sl AA A5,.sl (.sl AA) T6,.sl AA A6],.one (.int .i64 e)] (.one (.bool true)):=by
 refine BP Tryz.func44 (by kernel_rfl) rfl fun E g=>?_
 conv=>cbv
 intro f a;(have a:=a.trans (show _=true by simp));subst a;conv=>cbv
 intro d b;conv=>cbv
 cases d <;> conv=>cbv
 ·have c:=Dg b;exact absurd c he
 have c:=Dh b;exact fA ⟨t2,trivial⟩ rfl (by simp)
end Go.Abs
