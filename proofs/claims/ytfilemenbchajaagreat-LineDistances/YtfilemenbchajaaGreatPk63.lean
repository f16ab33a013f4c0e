/- Part 64 of a proof. Conditions: each theorem's own. -/
import Derived.Test.YtfilemenbchajaaGreatPk60
import Derived.Test.YtfilemenbchajaaGreatPk61
set_option linter.all false
set_option maxHeartbeats 8000000
set_option maxRecDepth 20000
open Go.Proofs
namespace Go.Abs
open Go.RowKit
variable {AK AJ AO AZ Ah Aj:LR} {AL AI AQ Aa Ai Ak:List LR} {TT:List (List Rat)->Prop} {X Y va vb vc ve x xp y yp δ:Re} {kb kc ke kp:Nat} {w:List (List Rat)}
theorem jo {b k:Nat} {T1 T2:List LR} {A1 A2:LR} (a:Nm TT w b k T1 A1 x) (c:Nm TT w b k T2 A2 y):∃T A,Nm TT w b k T A (fs x y):=by
 by_cases h:x=0
 ·rw[It h];exact⟨_,_,c⟩
 rw[Hx h];exact⟨_,_,a⟩
theorem ij (h:¬(x=0/\y=0)):un x*un x+y*As (fs x y)*(y*As (fs x y))=(x*x+y*y)*(As (fs x y)*As (fs x y))/\un x*un x+y*As (fs x y)*(y*As (fs x y))≠0:=by
 have e:un x*un x+y*As (fs x y)*(y*As (fs x y))=(x*x+y*y)*(As (fs x y)*As (fs x y)):=by rw[gW h];grind
 refine⟨e,?_⟩;rw[e];have b:=Cy (Z5 h);have a:As (fs x y)≠0:=fun z=>Uv (by rw[<-b,z];grind)
 exact KG (Kh h) (KG a a)
theorem jl {z:Re} (h:¬(x=0/\y=0)):(un x*X+y*As (fs x y)*Y-z*As (fs x y))*As (un x*un x+y*As (fs x y)*(y*As (fs x y)))=(x*X+y*Y-z)*fs x y*As (x*x+y*y):=by
 have a:=Cy (Z5 h);have c:=Cy (Kh h);rw[(ij h).1]
 have b:As ((x*x+y*y)*(As (fs x y)*As (fs x y)))=As (x*x+y*y)*(fs x y*fs x y):=(H3 (by
  have:(x*x+y*y)*(As (fs x y)*As (fs x y))*(As (x*x+y*y)*(fs x y*fs x y))=((x*x+y*y)*As (x*x+y*y))*(fs x y*As (fs x y))*(fs x y*As (fs x y)):=by grind
  rw[this,c,a];grind)).symm
 rw[b,gW h];have:(x*As (fs x y)*X+y*As (fs x y)*Y-z*As (fs x y))*(As (x*x+y*y)*(fs x y*fs x y))=(x*X+y*Y-z)*fs x y*As (x*x+y*y)*(fs x y*As (fs x y)):=by grind
 rw[this,a];grind
theorem j6 {a b x1 y1 x2 y2 h:Re} (g:h*(1+1)=1) (c:¬(x1-a=0/\y1-b=0)) {e:Re} (he:e=((x1-a)*x2+(y1-b)*y2-((a+x1)*h*(x1-a)+(b+y1)*h*(y1-b)))*fs (x1-a) (y1-b)*As ((x1-a)*(x1-a)+(y1-b)*(y1-b))):
  (x2-un (x1-a)*e-a)*(x2-un (x1-a)*e-a)+(y2-(y1-b)*As (fs (x1-a) (y1-b))*e-b)*(y2-(y1-b)*As (fs (x1-a) (y1-b))*e-b)=(x2-un (x1-a)*e-x1)*(x2-un (x1-a)*e-x1)+(y2-(y1-b)*As (fs (x1-a) (y1-b))*e-y1)*(y2-(y1-b)*As (fs (x1-a) (y1-b))*e-y1):=by
 have i:=Cy (Z5 c);have j:=Cy (Kh c);have hu:=gW c
 have d:((x1-a)*un (x1-a)+(y1-b)*((y1-b)*As (fs (x1-a) (y1-b))))*e=(x1-a)*x2+(y1-b)*y2-((a+x1)*h*(x1-a)+(b+y1)*h*(y1-b)):=by
  rw[hu,he];have:((x1-a)*((x1-a)*As (fs (x1-a) (y1-b)))+(y1-b)*((y1-b)*As (fs (x1-a) (y1-b))))*(((x1-a)*x2+(y1-b)*y2-((a+x1)*h*(x1-a)+(b+y1)*h*(y1-b)))*fs (x1-a) (y1-b)*As ((x1-a)*(x1-a)+(y1-b)*(y1-b)))=((x1-a)*x2+(y1-b)*y2-((a+x1)*h*(x1-a)+(b+y1)*h*(y1-b)))*(fs (x1-a) (y1-b)*As (fs (x1-a) (y1-b)))*(((x1-a)*(x1-a)+(y1-b)*(y1-b))*As ((x1-a)*(x1-a)+(y1-b)*(y1-b))):=by grind
  rw[this,i,j];grind
 generalize (y1-b)*As (fs (x1-a) (y1-b))=B at*
 generalize un (x1-a)=A at*
 have f:((x1-a)*A+(y1-b)*B)*e*(1+1)=((x1-a)*x2+(y1-b)*y2)*(1+1)-(h*(1+1))*((a+x1)*(x1-a)+(b+y1)*(y1-b)):=by rw[d];grind
 rw[g] at f
 grind
theorem ir {xq yq:Re} (h:¬(yq-yp=0/\ -(xq-xp)=0)) (a:(yq-yp)*X+ -(xq-xp)*Y=xp*(yq-yp)+yp* -(xq-xp)):(un (yq-yp)*X+ -(xq-xp)*As (fs (yq-yp) (-(xq-xp)))*Y-oC xp yp xq yq δ*As (fs (yq-yp) (-(xq-xp))))*As (un (yq-yp)*un (yq-yp)+ -(xq-xp)*As (fs (yq-yp) (-(xq-xp)))*(-(xq-xp)*As (fs (yq-yp) (-(xq-xp)))))=δ*fs (yq-yp) (-(xq-xp)):=by
 rw[jl h,a];have b:=Cy (Kh h);have:xp*(yq-yp)+yp* -(xq-xp)-oC xp yp xq yq δ=δ*((yq-yp)*(yq-yp)+ -(xq-xp)* -(xq-xp)):=by unfold oC;grind
 rw[this];have:δ*((yq-yp)*(yq-yp)+ -(xq-xp)* -(xq-xp))*fs (yq-yp) (-(xq-xp))*As ((yq-yp)*(yq-yp)+ -(xq-xp)* -(xq-xp))=δ*fs (yq-yp) (-(xq-xp))*(((yq-yp)*(yq-yp)+ -(xq-xp)* -(xq-xp))*As ((yq-yp)*(yq-yp)+ -(xq-xp)* -(xq-xp))):=by grind
 rw[this,b];grind
theorem iv {t i n:Re} (h:¬(y=0/\ -x=0)) (a:δ*δ=t*i*(t*i)) (d:n=x*x+y*y) (c:n*(i*i)=1):un y*(δ*fs y (-x))*(un y*(δ*fs y (-x)))+ -x*As (fs y (-x))*(δ*fs y (-x))*(-x*As (fs y (-x))*(δ*fs y (-x)))=t*t:=by
 have b:=Cy (Z5 h);rw[gW h];have:y*As (fs y (-x))*(δ*fs y (-x))*(y*As (fs y (-x))*(δ*fs y (-x)))+ -x*As (fs y (-x))*(δ*fs y (-x))*(-x*As (fs y (-x))*(δ*fs y (-x)))=(x*x+y*y)*(δ*δ)*(fs y (-x)*As (fs y (-x)))*(fs y (-x)*As (fs y (-x))):=by grind
 rw[this,b,a,<-d];have:n*(t*i*(t*i))*1*1=t*t*(n*(i*i)):=by grind
 rw[this,c];grind
theorem kA (F:Fd TT w) (ha:Nm TT w 1950000 1 AL AK va) (hb:Nm TT w 1950000 kb AI AJ vb) (C:Nm TT w 1950000 kc AQ AO vc) (G:Vm TT w 1950000 kp kp Aa AZ Ai Ah xp yp) (he:Nm TT w 1950000 ke Ak Aj ve) (D:va*va+vb*vb≠0) (q:(va*xp+vb*yp-vc)*As (va*va+vb*vb)=ve) (H:188*kb+kc+2*kp+463<=80000):∃z t,Nm TT w 1950000 (ke) z t (ve)/\BW Tryz.prog 219 [.one (.AD 0 0 0),.agg [.sl (.sl AA) AL,.sl AA AK,.sl (.sl AA) AI,.sl AA AJ,.sl (.sl AA) AQ,.sl AA AO],.agg [.sl (.sl AA) Aa,.sl AA AZ,.sl (.sl AA) Ai,.sl AA Ah]] (.var 0 [.int .i64 0]) (.agg [.sl (.sl AA) z,.sl AA t]):=by
 have b:Vm _ w 1950000 (kb+1) (kb+1) AL AK AI AJ _ _:=⟨ha.mono (by omega),hb.mono (by omega)⟩;obtain⟨BA,Ay,k,g⟩:=IG F b G (by omega) (by omega);obtain⟨u,r,l,h,A⟩:=KM F k C (by omega) (by omega);obtain⟨v,s,m,i⟩:=WS F b (by omega) (by omega);obtain⟨f,c,n,j,B⟩:=D1 F l m (d:=188*kb+352) (by omega) D (by omega) (by omega) (by omega);have o:=n.shrink he (q);have p:=o.cast (y:=ve) (q);refine⟨f,c,p.mono (by omega),?_⟩;refine Bn Tryz.func219 (by kernel_rfl) rfl fun E a=>?_
 conv=>cbv
 refine cL a jI ⟨⟨rfl,rfl,rfl,rfl,rfl,rfl,trivial⟩,trivial⟩ ?_;try conv=>cbv
 refine cL a g ⟨t4,t4,trivial⟩ ?_;try conv=>cbv
 refine dL 0 (.var 0 [.int .i64 0]) a HA ⟨rfl,⟨⟨⟨rfl,rfl⟩,rfl⟩,t2,rfl,trivial⟩⟩ ?_;try conv=>cbv
 refine cL a h ⟨t2,t2,trivial⟩ ?_;try conv=>cbv
 refine dL 0 (.var 0 [.int .i64 0]) a HA ⟨rfl,⟨⟨⟨rfl,rfl⟩,rfl⟩,t2,rfl,trivial⟩⟩ ?_;try conv=>cbv
 refine⟨fun _=>Aq (by kernel_rfl),?_⟩;refine cL a i ⟨t4,trivial⟩ ?_;try conv=>cbv
 refine dL 0 (.var 0 [.int .i64 0]) a HA ⟨rfl,⟨⟨⟨rfl,rfl⟩,rfl⟩,t2,rfl,trivial⟩⟩ ?_;try conv=>cbv
 refine cL a j ⟨t2,t2,trivial⟩ ?_;try conv=>cbv
 refine dL 0 (.var 0 [.int .i64 0]) a HA ⟨rfl,⟨⟨⟨rfl,rfl⟩,rfl⟩,t2,rfl,trivial⟩⟩ ?_;try conv=>cbv
 refine⟨fun _=>Aq (by kernel_rfl),?_⟩;refine fun _=>⟨⟨⟨t3,trivial⟩,rfl,by simp⟩,rfl⟩
theorem kV (F:Fd TT w) (ha:Nm TT w 1950000 1 AL AK va) (hb:Nm TT w 1950000 kb AI AJ vb) (O:Nm TT w 1950000 kc AQ AO vc) (N:Vm TT w 1950000 kp kp Aa AZ Ai Ah xp yp) (he:Nm TT w 1950000 ke Ak Aj ve) (P:va*va+vb*vb≠0) (v:(va*xp+vb*yp-vc)*As (va*va+vb*vb)=ve) (Q:188*kb+kc+ke+2*kp+463<=80000):∃L G i f,Vm TT w 1950000 (kb+ke+kp+5) (kb+ke+kp+5) L G i f (xp-va*ve) (yp-vb*ve)/\CF 165 [.agg [.sl (.sl AA) AL,.sl AA AK,.sl (.sl AA) AI,.sl AA AJ,.sl (.sl AA) AQ,.sl AA AO],.agg [.sl (.sl AA) Aa,.sl AA AZ,.sl (.sl AA) Ai,.sl AA Ah],.one (.int .i64 1)] (.AE [(true,[.sl (.sl AA) L,.sl AA G,.sl (.sl AA) i,.sl AA f]),(false,[.int .i64 0])]):=by
 have n:Vm _ w 1950000 (kb+1) (kb+1) AL AK AI AJ _ _:=⟨ha.mono (by omega),hb.mono (by omega)⟩;obtain⟨H,z,o,j⟩:=kA F ha hb O N he P v (by omega);obtain⟨A,b,q⟩:=DK F (p:=((1:Int):Rat)) (by decide +kernel);obtain⟨I,B,r,k,M⟩:=EN F o q (by omega) (by omega);obtain⟨J,C,K,D,s,l⟩:=iy F n r (by omega) (by omega) (by omega);obtain⟨g,c,h,d,t,m⟩:=JR F N s (by omega) (by omega) (by omega) (by omega);have u:=t.cast (x':=xp-va*ve) (y':=yp-vb*ve) (by rw[show Re.ofRat ((1:Int):Rat)=1 from rfl];grind) (by rw[show Re.ofRat ((1:Int):Rat)=1 from rfl];grind);refine⟨g,c,h,d,u.mono (by omega) (by omega),?_⟩;refine BP Tryz.func165 (by kernel_rfl) rfl fun E a=>?_
 conv=>cbv
 refine dL 11 (.var 1 [.int .i64 0]) a j ⟨rfl,⟨⟨⟨rfl,rfl⟩,rfl⟩,⟨rfl,rfl,rfl,rfl,rfl,rfl,trivial⟩,t4,trivial⟩⟩ ?_;try conv=>cbv
 refine cL a (Hi (by decide) (Ha (by decide +kernel:Bz ((1:Int):Rat))) b) t1 ?_;try conv=>cbv
 refine cL a k ⟨t2,t2,trivial⟩ ?_;try conv=>cbv
 refine dL 11 (.var 1 [.int .i64 0]) a HA ⟨rfl,⟨⟨⟨rfl,rfl⟩,rfl⟩,t2,rfl,trivial⟩⟩ ?_;try conv=>cbv
 refine cL a jI ⟨⟨rfl,rfl,rfl,rfl,rfl,rfl,trivial⟩,trivial⟩ ?_;try conv=>cbv
 refine cL a l ⟨t4,t2,trivial⟩ ?_;try conv=>cbv
 refine dL 11 (.var 1 [.int .i64 0]) a iZ ⟨rfl,⟨⟨⟨rfl,rfl⟩,rfl⟩,t4,rfl,trivial⟩⟩ ?_;try conv=>cbv
 refine cL a m ⟨t4,t4,trivial⟩ ?_;try conv=>cbv
 refine dL 11 (.var 1 [.int .i64 0]) a iZ ⟨rfl,⟨⟨⟨rfl,rfl⟩,rfl⟩,t4,rfl,trivial⟩⟩ ?_;try conv=>cbv
 refine dL 11 (.var 1 [.int .i64 0]) a je ⟨rfl,⟨⟨⟨rfl,rfl⟩,rfl⟩,t4,trivial⟩⟩ ?_;try conv=>cbv
 refine⟨fun _=>Aq (by kernel_rfl),?_⟩;exact fA ⟨⟨rfl,rfl,rfl,rfl,rfl,trivial⟩,t2,trivial⟩ rfl (by simp)
theorem ji (F:Fd TT w) (ha:Nm TT w 1950000 1 AL AK va) (hb:Nm TT w 1950000 kb AI AJ vb) (l:Nm TT w 1950000 kc AQ AO vc) (n:Vm TT w 1950000 kp kp Aa AZ Ai Ah xp yp) (he:Nm TT w 1950000 ke Ak Aj ve) (m:va*va+vb*vb≠0) (h:(va*xp+vb*yp-vc)*As (va*va+vb*vb)=ve) (o:188*kb+kc+ke+2*kp+463<=80000):∃j i d b,Vm TT w 1950000 (kb+ke+kp+5) (kb+ke+kp+5) j i d b (xp-va*ve) (yp-vb*ve)/\CF 68 [.agg [.sl (.sl AA) AL,.sl AA AK,.sl (.sl AA) AI,.sl AA AJ,.sl (.sl AA) AQ,.sl AA AO],.agg [.sl (.sl AA) Aa,.sl AA AZ,.sl (.sl AA) Ai,.sl AA Ah]] (.AE [(true,[.sl (.sl AA) j,.sl AA i,.sl (.sl AA) d,.sl AA b]),(false,[.int .i64 0])]):=by
 obtain⟨BA,Ay,c,a,g,f⟩:=kV F ha hb l n he m h (by omega);refine⟨BA,Ay,c,a,g.mono (by omega) (by omega),?_⟩;refine BP Tryz.func68 (by kernel_rfl) rfl fun E k=>?_
 conv=>cbv
 refine cL k f ⟨⟨rfl,rfl,rfl,rfl,rfl,rfl,trivial⟩,t4,rfl,trivial⟩ ?_;try conv=>cbv
 exact fA ⟨⟨rfl,rfl,rfl,rfl,rfl,trivial⟩,t2,trivial⟩ rfl (by simp)
theorem iq (F:Fd TT w) (ha:Nm TT w 1950000 1 AL AK va) (hb:Nm TT w 1950000 kb AI AJ vb) (z:Nm TT w 1950000 kc AQ AO vc) (v:Vm TT w 1950000 kp kp Aa AZ Ai Ah xp yp) (he:Nm TT w 1950000 ke Ak Aj ve) (A:va*va+vb*vb≠0) (m:(va*xp+vb*yp-vc)*As (va*va+vb*vb)=ve) (C:188*kb+kc+2*ke+4*kp+463<=80000):∃u q,Nm TT w 1950000 (4*kb+4*ke+8*kp+27) u q (va*ve*(va*ve)+vb*ve*(vb*ve))/\CF 70 [.agg [.sl (.sl AA) AL,.sl AA AK,.sl (.sl AA) AI,.sl AA AJ,.sl (.sl AA) AQ,.sl AA AO],.agg [.sl (.sl AA) Aa,.sl AA AZ,.sl (.sl AA) Ai,.sl AA Ah]] (.AE [(true,[.sl (.sl AA) u,.sl AA q]),(false,[.int .i64 0])]):=by
 obtain⟨BA,Ay,r,n,h,d⟩:=ji F ha hb z v he A m (by omega);obtain⟨s,o,t,p,i,f⟩:=JR F v h (by omega) (by omega) (by omega) (by omega);obtain⟨c,b,j,g⟩:=WS F i (by omega) (by omega);have k:=j.cast (y:=va*ve*(va*ve)+vb*ve*(vb*ve)) (by grind);refine⟨c,b,k.mono (by omega),?_⟩;refine BP Tryz.func70 (by kernel_rfl) rfl fun E a=>?_
 conv=>cbv
 refine cL a d ⟨⟨rfl,rfl,rfl,rfl,rfl,rfl,trivial⟩,t4,trivial⟩ ?_;try conv=>cbv
 refine dL 10 (.var 1 [.int .i64 0]) a iZ ⟨rfl,⟨⟨⟨rfl,rfl⟩,rfl⟩,t4,rfl,trivial⟩⟩ ?_;try conv=>cbv
 refine cL a f ⟨t4,t4,trivial⟩ ?_;try conv=>cbv
 refine dL 10 (.var 1 [.int .i64 0]) a iZ ⟨rfl,⟨⟨⟨rfl,rfl⟩,rfl⟩,t4,rfl,trivial⟩⟩ ?_;try conv=>cbv
 refine cL a g ⟨t4,trivial⟩ ?_;try conv=>cbv
 refine dL 10 (.var 1 [.int .i64 0]) a HA ⟨rfl,⟨⟨⟨rfl,rfl⟩,rfl⟩,t2,rfl,trivial⟩⟩ ?_;try conv=>cbv
 intro B l;cases l.trans (show _=false by decide);conv=>cbv
 exact fA ⟨t3,t2,trivial⟩ rfl (by simp)
theorem lQ {X:List (el Bf)} {W:List UInt8} {ns:List Nu} (hns:ns=(runN (X.take 24)).1) {V:List Re} (hV3:V.length<=3) (hok:∀n∈ns,BY V n) {sd:Bool}:CF 13 [.agg [.sl (.pr .u8 (.pr .u8 (.pr .u8 (.pr .i8 .u8)))) X,.sl .u8 W],.one (.bool sd)] (.one (.bool true)):=by
 obtain⟨w,L⟩:=GL hV3 hok;have F:=L.fd;obtain⟨Q,hQ⟩:∃z,z=FL ns W:=⟨_,rfl⟩
 obtain⟨c,hc⟩:=xB (decide (3<=Q.length));obtain⟨Tt,At,t,htt,ct⟩:=j5 (W:=W) hns hV3 hok L;have ht:=htt (b:=1950000) (k:=1) (by decide);refine BP Tryz.func13 (by kernel_rfl) rfl fun E hE=>?_
 conv=>cbv
 refine cL hE (Hd hns hV3 hok hQ (i':=3) ⟨rfl⟩ (by decide) hc) ⟨t2,rfl,trivial⟩ ?_;try conv=>cbv
 refine cL hE jF trivial ?_;try conv=>cbv
 intro n35 h35;cases h35.trans (rfl:_=false);conv=>cbv
 intro n38 h38;conv=>cbv
 cases n38 <;> conv=>cbv
 ·have k38:=CJ h38;have hl:3<=Q.length:=of_decide_eq_true (hc.symm.trans k38);obtain⟨x0,hx0⟩:=AG (l:=Q) (i:=0) (by omega);obtain⟨X0,Y0,hq0⟩:=C9 L hok hQ hx0;have hp0:=hq0 (b:=1950000) (k:=1) (by decide);obtain⟨x1,hx1⟩:=AG (l:=Q) (i:=1) (by omega);obtain⟨X1,Y1,hq1⟩:=C9 L hok hQ hx1;have hp1:=hq1 (b:=1950000) (k:=1) (by decide);obtain⟨x2,hx2⟩:=AG (l:=Q) (i:=2) (by omega);obtain⟨X2,Y2,hq2⟩:=C9 L hok hQ hx2;have hp2:=hq2 (b:=1950000) (k:=1) (by decide);obtain⟨e01,he01⟩:=CV (X0=X1/\Y0=Y1);refine⟨x0,fun _=>⟨by omega,hx0⟩,?_⟩;try conv=>cbv
  refine⟨x1,fun _=>⟨by omega,hx1⟩,?_⟩;try conv=>cbv
  refine cL hE (EU F hp0 hp1 (by omega) (by omega) (by omega) (by omega) he01) ⟨t4,t4,trivial⟩ ?_;try conv=>cbv
  refine⟨fun _=>Aq (by kernel_rfl),?_⟩;cases e01 <;> conv=>cbv
  ·have n01:¬(X0=X1/\Y0=Y1):=fun z=>absurd (he01.2 z) (by decide)
   have hd:¬(X1-X0=0/\Y1-Y0=0):=fun z=>n01 ⟨by grind,by grind⟩
   obtain⟨Tb1,Ab1,Tb2,Ab2,Tb3,Ab3,hb,cb⟩:=kL F hp0 hp1 (by decide) (by decide) (by decide) (by decide) n01 (d:=164) (by decide) (by decide) (by decide) (by decide);obtain⟨AL,AK,AI,AJ,h501,c501⟩:=JR F hp1 hp0 (by omega) (by omega) (by omega) (by omega);obtain⟨AQ,AO,h503,c503⟩:=WS F h501 (by omega) (by omega);obtain⟨Aa,AZ,Ai,Ah,h504,c504⟩:=jz F hp0 hp1 (by decide) (by decide);obtain⟨Ak,Aj,h506⟩:=jo h501.x h501.y;have hnz0:=Kh hd;obtain⟨CD,Bq,h507,c507⟩:=IG F h501 hp2 (by omega) (by omega);obtain⟨BA,Ay,h508,c508⟩:=IG F h504 h501 (by omega) (by omega);obtain⟨T509,A509,h509,c509,e509⟩:=KM F h507 h508 (by omega) (by omega);obtain⟨T510,A510,h510,c510,e510⟩:=EN F h509 h506 (by omega) (by omega);obtain⟨T511,A511,h511,c511,e511⟩:=D1 F h510 h503 (d:=728) (by omega) hnz0 (by omega) (by omega) (by omega);obtain⟨T513,A513,T514,A514,h513,c512⟩:=ji F hb.x hb.y hb.z hp2 h511 (ij hd).2 (jl hd) (by omega)
   obtain⟨T515,A515,T516,A516,h515,c515⟩:=Wk F h513 hp0 (by omega) (by omega) (by omega) (by omega);have h517:=h515.cast (x':=(X2-(un (X1-X0))*(((((X1-X0)*X2+(Y1-Y0)*Y2)-(((X0+X1)*Re.ofRat (1/2))*(X1-X0)+((Y0+Y1)*Re.ofRat (1/2))*(Y1-Y0)))*(fs (X1-X0) (Y1-Y0)))*As ((X1-X0)*(X1-X0)+(Y1-Y0)*(Y1-Y0))))-X0) (y':=(Y2-((Y1-Y0)*As (fs (X1-X0) (Y1-Y0)))*(((((X1-X0)*X2+(Y1-Y0)*Y2)-(((X0+X1)*Re.ofRat (1/2))*(X1-X0)+((Y0+Y1)*Re.ofRat (1/2))*(Y1-Y0)))*(fs (X1-X0) (Y1-Y0)))*As ((X1-X0)*(X1-X0)+(Y1-Y0)*(Y1-Y0))))-Y0) (by grind) (by grind);obtain⟨T518,A518,T519,A519,h518,c518⟩:=Wk F h513 hp1 (by omega) (by omega) (by omega) (by omega);have h520:=h518.cast (x':=(X2-(un (X1-X0))*(((((X1-X0)*X2+(Y1-Y0)*Y2)-(((X0+X1)*Re.ofRat (1/2))*(X1-X0)+((Y0+Y1)*Re.ofRat (1/2))*(Y1-Y0)))*(fs (X1-X0) (Y1-Y0)))*As ((X1-X0)*(X1-X0)+(Y1-Y0)*(Y1-Y0))))-X1) (y':=(Y2-((Y1-Y0)*As (fs (X1-X0) (Y1-Y0)))*(((((X1-X0)*X2+(Y1-Y0)*Y2)-(((X0+X1)*Re.ofRat (1/2))*(X1-X0)+((Y0+Y1)*Re.ofRat (1/2))*(Y1-Y0)))*(fs (X1-X0) (Y1-Y0)))*As ((X1-X0)*(X1-X0)+(Y1-Y0)*(Y1-Y0))))-Y1) (by grind) (by grind)
   obtain⟨T521,A521,h521,c521⟩:=Wj F h517 (by omega) (by omega);obtain⟨T522,A522,h522,c522⟩:=Wj F h520 (by omega) (by omega);obtain⟨b523,hb523,c523,e523⟩:=EM F h521 h522 (by omega) (by omega);obtain rfl:b523=true:=hb523.2 (j6 HE hd rfl);obtain⟨r524,hr524,c524,e524⟩:=DQ F ht (by omega);have hp0e:=hq0 (b:=11500) (k:=20) (by decide);have hp1e:=hq1 (b:=11500) (k:=20) (by decide);have htte:=htt (b:=11500) (k:=20) (by decide);obtain⟨_,_,_,_,hwe,_⟩:=JR L.fe hp1e hp0e (by decide) (by decide) (by decide) (by decide);obtain⟨_,_,hsq,_⟩:=WS L.fe hwe (by decide) (by decide);obtain⟨n,hn⟩:∃z,z=(X1-X0)*(X1-X0)+(Y1-Y0)*(Y1-Y0):=⟨_,rfl⟩
   rw[<-hn] at hsq;have h0n:0<=n:=by rw[hn];exact jS _ _
   have hnz:n≠0:=by rw[hn];exact hnz0
   obtain⟨hs0,hs1,hs2⟩:=jT h0n hnz;obtain⟨TT,w4,F4,U,hr,hi⟩:=jM L hsq (by decide) h0n;obtain⟨Ti,Ai,hi⟩:=hi hnz;have F:=F4;have hp0:=U.v (by decide) (by decide) hp0e;have hp1:=U.v (by decide) (by decide) hp1e;have ht:=U.up (by decide) htte;have hd2:¬(Y1-Y0=0/\ -(X1-X0)=0):=fun z=>hd ⟨by grind,z.1⟩
   obtain⟨_,_,_,_,hw4,_⟩:=JR F hp1 hp0 (by decide) (by decide) (by decide) (by decide);obtain⟨_,hnx,_⟩:=Ec F hw4.x (by decide);obtain⟨Tf,Af,hff⟩:=jo hw4.y hnx;refine⟨x0,fun _=>⟨by omega,hx0⟩,?_⟩;try conv=>cbv
   refine⟨x1,fun _=>⟨by omega,hx1⟩,?_⟩;try conv=>cbv
   refine cL hE cb ⟨t4,t4,trivial⟩ ?_;try conv=>cbv
   refine⟨fun _=>Aq (by kernel_rfl),?_⟩;refine⟨x2,fun _=>⟨by omega,hx2⟩,?_⟩;try conv=>cbv
   refine cL hE c512 ⟨⟨rfl,rfl,rfl,rfl,rfl,rfl,trivial⟩,t4,trivial⟩ ?_;try conv=>cbv
   refine⟨fun _=>Aq (by kernel_rfl),?_⟩;intro n69 h69;cases h69.trans (show _=false by decide);conv=>cbv
   intro n72 h72;cases h72.trans (show _=false by decide);conv=>cbv
   refine⟨x0,fun _=>⟨by omega,hx0⟩,?_⟩;try conv=>cbv
   refine cL hE c515 ⟨t4,t4,trivial⟩ ?_;try conv=>cbv
   refine⟨fun _=>Aq (by kernel_rfl),?_⟩;refine⟨x1,fun _=>⟨by omega,hx1⟩,?_⟩;try conv=>cbv
   refine cL hE c518 ⟨t4,t4,trivial⟩ ?_;try conv=>cbv
   refine⟨fun _=>Aq (by kernel_rfl),?_⟩;refine cL hE c521 ⟨t4,trivial⟩ ?_;try conv=>cbv
   refine cL hE c522 ⟨t4,trivial⟩ ?_;try conv=>cbv
   intro n101 h101;cases h101.trans (show _=false by decide);conv=>cbv
   intro n104 h104;cases h104.trans (show _=false by decide);conv=>cbv
   refine cL hE e523 ⟨t2,t2,trivial⟩ ?_;try conv=>cbv
   intro n110 h110;cases h110.trans (rfl:_=false);conv=>cbv
   refine cL hE ct ⟨t2,trivial⟩ ?_;try conv=>cbv
   refine .inr ?_;cases sd <;> conv=>cbv
   ·refine cL hE e524 ⟨t2,trivial⟩ ?_;try conv=>cbv
    intro n117 h117;conv=>cbv
    refine .inr ?_;cases n117 <;> conv=>cbv
    ·have k117:=Ad h117;have htn:0<=t:=by rcases EP t with⟨a,b⟩ |⟨a,b⟩ |⟨a,b⟩ <;> first | omega | grind
     obtain⟨T1525,A1525,h1525,c1525,e1525⟩:=EN F ht hi (by omega) (by omega);obtain⟨T1526,A1526,h1526,c1526,e1526⟩:=EN F ht ht (by omega) (by omega);obtain⟨T1528,A1528,T1529,A1529,T1530,A1530,h1528,h1529,h1530,c1527⟩:=jO F hp0 hp1 ht hi L.fe hp0e hp1e U hr hn.symm n01 htn hs0 hs1 (by omega);obtain⟨T1531,A1531,h1531,c1531,e1531⟩:=EN F h1525 hff (by omega) (by omega);obtain⟨T1533,A1533,h1533,c1532⟩:=iq F h1528 h1529 h1530 hp0 h1531 (ij hd2).2 (ir hd2 (by grind)) (by omega);obtain⟨b1534,hb1534,c1534,e1534⟩:=EM F h1533 h1526 (by omega) (by omega);obtain rfl:b1534=true:=hb1534.2 (iv hd2 (by grind) hn hs2);obtain⟨T1536,A1536,h1536,c1535⟩:=iq F h1528 h1529 h1530 hp1 h1531 (ij hd2).2 (ir hd2 (by grind)) (by omega);obtain⟨b1537,hb1537,c1537,e1537⟩:=EM F h1536 h1526 (by omega) (by omega);obtain rfl:b1537=true:=hb1537.2 (iv hd2 (by grind) hn hs2);refine⟨x0,fun _=>⟨by omega,hx0⟩,?_⟩
     try conv=>cbv
     refine⟨x1,fun _=>⟨by omega,hx1⟩,?_⟩;try conv=>cbv
     refine cL hE c1527 ⟨t4,t4,t2,rfl,trivial⟩ ?_;try conv=>cbv
     refine⟨fun _=>Aq (by kernel_rfl),?_⟩;refine⟨x0,fun _=>⟨by omega,hx0⟩,?_⟩;try conv=>cbv
     refine cL hE c1532 ⟨⟨rfl,rfl,rfl,rfl,rfl,rfl,trivial⟩,t4,trivial⟩ ?_;try conv=>cbv
     refine⟨fun _=>Aq (by kernel_rfl),?_⟩;refine⟨x1,fun _=>⟨by omega,hx1⟩,?_⟩;try conv=>cbv
     refine cL hE c1535 ⟨⟨rfl,rfl,rfl,rfl,rfl,rfl,trivial⟩,t4,trivial⟩ ?_;try conv=>cbv
     refine⟨fun _=>Aq (by kernel_rfl),?_⟩;refine cL hE e1526 ⟨t2,t2,trivial⟩ ?_;try conv=>cbv
     intro n155 h155;cases h155.trans (show _=true by decide);conv=>cbv
     intro n158 h158;cases h158.trans (show _=true by decide);conv=>cbv
     intro n162 h162;cases h162.trans (show _=true by decide);conv=>cbv
     intro n166 h166;cases h166.trans (show _=true by decide);conv=>cbv
     refine cL hE e1534 ⟨t2,t2,trivial⟩ ?_;try conv=>cbv
     refine cL hE e1537 ⟨t2,t2,trivial⟩ ?_;try conv=>cbv
     exact fA ⟨t2,trivial⟩ rfl (by simp)
    have k117:=Ae h117;have htn:0<= -t:=by rcases EP t with⟨a,b⟩ |⟨a,b⟩ |⟨a,b⟩ <;> first | omega | grind
    obtain⟨A525,h525,c525,e525⟩:=Ec F ht (by omega);obtain⟨T526,A526,h526,c526,e526⟩:=EN F h525 hi (by omega) (by omega);obtain⟨T527,A527,h527,c527,e527⟩:=EN F h525 h525 (by omega) (by omega);obtain⟨T529,A529,T530,A530,T531,A531,h529,h530,h531,c528⟩:=jO F hp0 hp1 h525 hi L.fe hp0e hp1e U hr hn.symm n01 htn hs0 hs1 (by omega);obtain⟨T532,A532,h532,c532,e532⟩:=EN F h526 hff (by omega) (by omega);obtain⟨T534,A534,h534,c533⟩:=iq F h529 h530 h531 hp0 h532 (ij hd2).2 (ir hd2 (by grind)) (by omega);obtain⟨b535,hb535,c535,e535⟩:=EM F h534 h527 (by omega) (by omega);obtain rfl:b535=true:=hb535.2 (iv hd2 (by grind) hn hs2);obtain⟨T537,A537,h537,c536⟩:=iq F h529 h530 h531 hp1 h532 (ij hd2).2 (ir hd2 (by grind)) (by omega);obtain⟨b538,hb538,c538,e538⟩:=EM F h537 h527 (by omega) (by omega);obtain rfl:b538=true:=hb538.2 (iv hd2 (by grind) hn hs2);refine cL hE e525 ⟨t2,trivial⟩ ?_
    try conv=>cbv
    refine⟨x0,fun _=>⟨by omega,hx0⟩,?_⟩;try conv=>cbv
    refine⟨x1,fun _=>⟨by omega,hx1⟩,?_⟩;try conv=>cbv
    refine cL hE c528 ⟨t4,t4,t2,rfl,trivial⟩ ?_;try conv=>cbv
    refine⟨fun _=>Aq (by kernel_rfl),?_⟩;refine⟨x0,fun _=>⟨by omega,hx0⟩,?_⟩;try conv=>cbv
    refine cL hE c533 ⟨⟨rfl,rfl,rfl,rfl,rfl,rfl,trivial⟩,t4,trivial⟩ ?_;try conv=>cbv
    refine⟨fun _=>Aq (by kernel_rfl),?_⟩;refine⟨x1,fun _=>⟨by omega,hx1⟩,?_⟩;try conv=>cbv
    refine cL hE c536 ⟨⟨rfl,rfl,rfl,rfl,rfl,rfl,trivial⟩,t4,trivial⟩ ?_;try conv=>cbv
    refine⟨fun _=>Aq (by kernel_rfl),?_⟩;refine cL hE e527 ⟨t2,t2,trivial⟩ ?_;try conv=>cbv
    intro n155 h155;cases h155.trans (show _=true by decide);conv=>cbv
    intro n158 h158;cases h158.trans (show _=true by decide);conv=>cbv
    intro n162 h162;cases h162.trans (show _=true by decide);conv=>cbv
    intro n166 h166;cases h166.trans (show _=true by decide);conv=>cbv
    refine cL hE e535 ⟨t2,t2,trivial⟩ ?_;try conv=>cbv
    refine cL hE e538 ⟨t2,t2,trivial⟩ ?_;try conv=>cbv
    exact fA ⟨t2,trivial⟩ rfl (by simp)
   refine cL hE e524 ⟨t2,trivial⟩ ?_;try conv=>cbv
   intro n117 h117;conv=>cbv
   refine .inr ?_;cases n117 <;> conv=>cbv
   ·have k117:=Ad h117;have htn:0<=t:=by rcases EP t with⟨a,b⟩ |⟨a,b⟩ |⟨a,b⟩ <;> first | omega | grind
    obtain⟨T1525,A1525,h1525,c1525,e1525⟩:=EN F ht hi (by omega) (by omega);obtain⟨T1526,A1526,h1526,c1526,e1526⟩:=EN F ht ht (by omega) (by omega);obtain⟨T1539,A1539,T1540,A1540,T1541,A1541,h1539,h1540,h1541,c1538⟩:=jN F hp0 hp1 ht hi L.fe hp0e hp1e U hr hn.symm n01 htn hs0 hs1 (by omega);obtain⟨A1542,h1542,c1542,e1542⟩:=Ec F h1525 (by omega);obtain⟨T1543,A1543,h1543,c1543,e1543⟩:=EN F h1542 hff (by omega) (by omega);obtain⟨T1545,A1545,h1545,c1544⟩:=iq F h1539 h1540 h1541 hp0 h1543 (ij hd2).2 (ir hd2 (by grind)) (by omega);obtain⟨b1546,hb1546,c1546,e1546⟩:=EM F h1545 h1526 (by omega) (by omega);obtain rfl:b1546=true:=hb1546.2 (iv hd2 (by grind) hn hs2);obtain⟨T1548,A1548,h1548,c1547⟩:=iq F h1539 h1540 h1541 hp1 h1543 (ij hd2).2 (ir hd2 (by grind)) (by omega);obtain⟨b1549,hb1549,c1549,e1549⟩:=EM F h1548 h1526 (by omega) (by omega);obtain rfl:b1549=true:=hb1549.2 (iv hd2 (by grind) hn hs2)
    refine⟨x0,fun _=>⟨by omega,hx0⟩,?_⟩;try conv=>cbv
    refine⟨x1,fun _=>⟨by omega,hx1⟩,?_⟩;try conv=>cbv
    refine cL hE c1538 ⟨t4,t4,t2,rfl,trivial⟩ ?_;try conv=>cbv
    refine⟨fun _=>Aq (by kernel_rfl),?_⟩;refine⟨x0,fun _=>⟨by omega,hx0⟩,?_⟩;try conv=>cbv
    refine cL hE c1544 ⟨⟨rfl,rfl,rfl,rfl,rfl,rfl,trivial⟩,t4,trivial⟩ ?_;try conv=>cbv
    refine⟨fun _=>Aq (by kernel_rfl),?_⟩;refine⟨x1,fun _=>⟨by omega,hx1⟩,?_⟩;try conv=>cbv
    refine cL hE c1547 ⟨⟨rfl,rfl,rfl,rfl,rfl,rfl,trivial⟩,t4,trivial⟩ ?_;try conv=>cbv
    refine⟨fun _=>Aq (by kernel_rfl),?_⟩;refine cL hE e1526 ⟨t2,t2,trivial⟩ ?_;try conv=>cbv
    intro n155 h155;cases h155.trans (show _=true by decide);conv=>cbv
    intro n158 h158;cases h158.trans (show _=true by decide);conv=>cbv
    intro n162 h162;cases h162.trans (show _=true by decide);conv=>cbv
    intro n166 h166;cases h166.trans (show _=true by decide);conv=>cbv
    refine cL hE e1546 ⟨t2,t2,trivial⟩ ?_;try conv=>cbv
    refine cL hE e1549 ⟨t2,t2,trivial⟩ ?_;try conv=>cbv
    exact fA ⟨t2,trivial⟩ rfl (by simp)
   have k117:=Ae h117;have htn:0<= -t:=by rcases EP t with⟨a,b⟩ |⟨a,b⟩ |⟨a,b⟩ <;> first | omega | grind
   obtain⟨A525,h525,c525,e525⟩:=Ec F ht (by omega);obtain⟨T526,A526,h526,c526,e526⟩:=EN F h525 hi (by omega) (by omega);obtain⟨T527,A527,h527,c527,e527⟩:=EN F h525 h525 (by omega) (by omega);obtain⟨T540,A540,T541,A541,T542,A542,h540,h541,h542,c539⟩:=jN F hp0 hp1 h525 hi L.fe hp0e hp1e U hr hn.symm n01 htn hs0 hs1 (by omega);obtain⟨A543,h543,c543,e543⟩:=Ec F h526 (by omega);obtain⟨T544,A544,h544,c544,e544⟩:=EN F h543 hff (by omega) (by omega);obtain⟨T546,A546,h546,c545⟩:=iq F h540 h541 h542 hp0 h544 (ij hd2).2 (ir hd2 (by grind)) (by omega);obtain⟨b547,hb547,c547,e547⟩:=EM F h546 h527 (by omega) (by omega);obtain rfl:b547=true:=hb547.2 (iv hd2 (by grind) hn hs2);obtain⟨T549,A549,h549,c548⟩:=iq F h540 h541 h542 hp1 h544 (ij hd2).2 (ir hd2 (by grind)) (by omega);obtain⟨b550,hb550,c550,e550⟩:=EM F h549 h527 (by omega) (by omega);obtain rfl:b550=true:=hb550.2 (iv hd2 (by grind) hn hs2)
   refine cL hE e525 ⟨t2,trivial⟩ ?_;try conv=>cbv
   refine⟨x0,fun _=>⟨by omega,hx0⟩,?_⟩;try conv=>cbv
   refine⟨x1,fun _=>⟨by omega,hx1⟩,?_⟩;try conv=>cbv
   refine cL hE c539 ⟨t4,t4,t2,rfl,trivial⟩ ?_;try conv=>cbv
   refine⟨fun _=>Aq (by kernel_rfl),?_⟩;refine⟨x0,fun _=>⟨by omega,hx0⟩,?_⟩;try conv=>cbv
   refine cL hE c545 ⟨⟨rfl,rfl,rfl,rfl,rfl,rfl,trivial⟩,t4,trivial⟩ ?_;try conv=>cbv
   refine⟨fun _=>Aq (by kernel_rfl),?_⟩;refine⟨x1,fun _=>⟨by omega,hx1⟩,?_⟩;try conv=>cbv
   refine cL hE c548 ⟨⟨rfl,rfl,rfl,rfl,rfl,rfl,trivial⟩,t4,trivial⟩ ?_;try conv=>cbv
   refine⟨fun _=>Aq (by kernel_rfl),?_⟩;refine cL hE e527 ⟨t2,t2,trivial⟩ ?_;try conv=>cbv
   intro n155 h155;cases h155.trans (show _=true by decide);conv=>cbv
   intro n158 h158;cases h158.trans (show _=true by decide);conv=>cbv
   intro n162 h162;cases h162.trans (show _=true by decide);conv=>cbv
   intro n166 h166;cases h166.trans (show _=true by decide);conv=>cbv
   refine cL hE e547 ⟨t2,t2,trivial⟩ ?_;try conv=>cbv
   refine cL hE e550 ⟨t2,t2,trivial⟩ ?_;try conv=>cbv
   exact fA ⟨t2,trivial⟩ rfl (by simp)
  refine cL hE jF trivial ?_;try conv=>cbv
  exact fA ⟨t2,trivial⟩ rfl (by simp)
 have k38:=CK h38;refine⟨fun _=>Aq (by kernel_rfl),?_⟩;refine cL hE jF trivial ?_;try conv=>cbv
 exact fA ⟨t2,trivial⟩ rfl (by simp)
end Go.Abs
