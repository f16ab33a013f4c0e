/- Part 55 of a proof. Conditions: each theorem's own. -/
import Derived.Test.YtfilemenbchajaaGreatPk49
import Derived.Test.YtfilemenbchajaaGreatPk53
set_option linter.all false
set_option maxHeartbeats 8000000
set_option maxRecDepth 20000
open Go.Proofs
namespace Go.Abs
open Go.RowKit
noncomputable def rX (xa ya xb yb s t:Re):Re:=xa+(xb-xa)*(((xb-xa)*(xb-xa)+(yb-ya)*(yb-ya)+(s-t))*As ((xb-xa)*(xb-xa)+(yb-ya)*(yb-ya)+((xb-xa)*(xb-xa)+(yb-ya)*(yb-ya))))
noncomputable def rY (xa ya xb yb s t:Re):Re:=ya+(yb-ya)*(((xb-xa)*(xb-xa)+(yb-ya)*(yb-ya)+(s-t))*As ((xb-xa)*(xb-xa)+(yb-ya)*(yb-ya)+((xb-xa)*(xb-xa)+(yb-ya)*(yb-ya))))
noncomputable def rC (xa ya xb yb s t:Re):Re:=rX xa ya xb yb s t*(xb-xa)+rY xa ya xb yb s t*(yb-ya)
variable {AK AJ AO AZ Ah Aj:LR} {AL AI AQ Aa Ai Ak:List LR} {TT:List (List Rat)->Prop} {V:List Re} {X:List (el Bf)} {ka kb kc ks kt:Nat} {ns:List Nu} {s t va vb vc vs vt vx vy xa xb ya yb:Re} {w:List (List Rat)}
theorem Uo (a:¬(xa=xb/\ya=yb)):rC xa ya xb yb s t=(xb*xb+yb*yb-(xa*xa+ya*ya)+(s-t))*Re.ofRat (1/2):=by
 have b:=Cy (HV (Kh (x:=xb-xa) (y:=yb-ya) (fun z=>a ⟨by grind,by grind⟩)));have:=di (cx:=xa) (cy:=ya) (dx:=xb) (dy:=yb) (r:=s) (s:=t) HE b;unfold rC rX rY;rw[<-this];grind
theorem Ry (F:Fd TT w) (ha:Vm TT w 1950000 ka ka AL AK AI AJ xa ya) (hs:Nm TT w 1950000 ks AQ AO vs) (hb:Vm TT w 1950000 kb kb Aa AZ Ai Ah xb yb) (ht:Nm TT w 1950000 kt Ak Aj vt) (h0:¬(xa=xb/\ya=yb)) (hM:766*ka+764*kb+2*ks+2*kt+1598<=80000):∃U0 B0 U1 B1 U2 B2,Nm TT w 1950000 (1) U0 B0 (un (xb-xa))/\Nm TT w 1950000 (48*ka+48*kb+72) U1 B1 ((yb-ya)*As (fs (xb-xa) (yb-ya)))/\Nm TT w 1950000 (813*ka+811*kb+2*ks+2*kt+1558) U2 B2 (rC xa ya xb yb vs vt*As (fs (xb-xa) (yb-ya)))/\CF 64 [.agg [.sl (.sl AA) AL,.sl AA AK,.sl (.sl AA) AI,.sl AA AJ,.sl (.sl AA) AQ,.sl AA AO],.agg [.sl (.sl AA) Aa,.sl AA AZ,.sl (.sl AA) Ai,.sl AA Ah,.sl (.sl AA) Ak,.sl AA Aj]] (.AE [(true,[.sl (.sl AA) U0,.sl AA B0,.sl (.sl AA) U1,.sl AA B1,.sl (.sl AA) U2,.sl AA B2]),(false,[.int .i64 0])]):=by
 obtain⟨BA,Ay,f,c,g,P⟩:=Hq F hb ha (by omega);obtain⟨b,a,h,Q⟩:=Hr F g (by omega);obtain⟨q,k,a1,R⟩:=Hs F hs ht (by omega);obtain⟨u,l,a2,S⟩:=Ia F h a1 (by omega);obtain⟨v,m,a5,T⟩:=Ia F h h (by omega);obtain⟨A,n,a6,U⟩:=Jq F a2 a5 (HV (Kh (fun z=>h0 ⟨by grind,by grind⟩))) (by omega);obtain⟨B,o,C,p,a7,V⟩:=LW F g a6 (by omega);obtain⟨N,L,O,M,a8,W⟩:=Jr F ha a7 (by omega);have aa:=a8.cast (x':=rX xa ya xb yb vs vt) (y':=rY xa ya xb yb vs vt) (rfl) (rfl);obtain⟨ah,ab,Y⟩:=P5 F g (by omega) (by omega);obtain⟨I,D,J,G,K,H,i,Z⟩:=ay F aa ab (by omega) (by omega) (fun z=>h0 ⟨by grind,by grind⟩) (d:=47*ka+47*kb+70) (by omega) (by omega) (by omega) (by omega);have ad:=i.x.cast (y:=un (xb-xa)) (rfl)
 have ae:=i.y.cast (y:=(yb-ya)*As (fs (xb-xa) (yb-ya))) (by rw[show- -(yb-ya)=yb-ya by grind]);have af:=i.z.cast (y:=rC xa ya xb yb vs vt*As (fs (xb-xa) (yb-ya))) (by rw[show- -(yb-ya)=yb-ya by grind];rfl);refine⟨I,D,J,G,K,H,ad.mono (by omega),ae.mono (by omega),af.mono (by omega),?_⟩;refine BP Tryz.func64 (by kernel_rfl) rfl fun E j=>?_
 conv=>cbv
 refine cL (r:= .one (.bool false)) j (IH F ha hb (by omega) (by omega) (by omega) (by omega) (e:=false) ⟨fun z=>(by cases z),fun z=>absurd z h0⟩) ⟨t4,t4,trivial⟩ ?_;try conv=>cbv
 refine .inr (.inr (.inr (.inl ⟨18,.var 1 [.int .i64 0],[.one (.AD 0 0 0),.agg [.sl (.sl AA) Aa,.sl AA AZ,.sl (.sl AA) Ai,.sl AA Ah],.agg [.sl (.sl AA) AL,.sl AA AK,.sl (.sl AA) AI,.sl AA AJ]],.agg [.sl (.sl AA) BA,.sl AA Ay,.sl (.sl AA) f,.sl AA c],fun _=>⟨rfl,⟨⟨⟨rfl,rfl⟩,rfl⟩,t4,t4,trivial⟩⟩,fun _=>AP j (P),?_⟩)));try conv=>cbv
 refine .inr (.inr (.inr (.inl ⟨18,.var 1 [.int .i64 0],[.one (.AD 0 0 0),.agg [.sl (.sl AA) BA,.sl AA Ay,.sl (.sl AA) f,.sl AA c]],.agg [.sl (.sl AA) b,.sl AA a],fun _=>⟨rfl,⟨⟨⟨rfl,rfl⟩,rfl⟩,t4,trivial⟩⟩,fun _=>AP j (Q),?_⟩)));try conv=>cbv
 refine .inr (.inr (.inr (.inl ⟨18,.var 1 [.int .i64 0],[.one (.AD 0 0 0),.agg [.sl (.sl AA) AQ,.sl AA AO],.agg [.sl (.sl AA) Ak,.sl AA Aj]],.agg [.sl (.sl AA) q,.sl AA k],fun _=>⟨rfl,⟨⟨⟨rfl,rfl⟩,rfl⟩,t2,t2,trivial⟩⟩,fun _=>AP j (R),?_⟩)));try conv=>cbv
 refine .inr (.inr (.inr (.inl ⟨18,.var 1 [.int .i64 0],[.one (.AD 0 0 0),.agg [.sl (.sl AA) b,.sl AA a],.agg [.sl (.sl AA) q,.sl AA k]],.agg [.sl (.sl AA) u,.sl AA l],fun _=>⟨rfl,⟨⟨⟨rfl,rfl⟩,rfl⟩,t2,t2,trivial⟩⟩,fun _=>AP j (S),?_⟩)));try conv=>cbv
 refine .inr (.inr (.inr (.inl ⟨18,.var 1 [.int .i64 0],[.one (.AD 0 0 0),.agg [.sl (.sl AA) b,.sl AA a],.agg [.sl (.sl AA) b,.sl AA a]],.agg [.sl (.sl AA) v,.sl AA m],fun _=>⟨rfl,⟨⟨⟨rfl,rfl⟩,rfl⟩,t2,t2,trivial⟩⟩,fun _=>AP j (T),?_⟩)));try conv=>cbv
 refine .inr (.inr (.inr (.inl ⟨18,.var 1 [.int .i64 0],[.one (.AD 0 0 0),.agg [.sl (.sl AA) u,.sl AA l],.agg [.sl (.sl AA) v,.sl AA m]],.agg [.sl (.sl AA) A,.sl AA n],fun _=>⟨rfl,⟨⟨⟨rfl,rfl⟩,rfl⟩,t2,t2,trivial⟩⟩,fun _=>AP j (U),?_⟩)));try conv=>cbv
 refine⟨fun _=>Aq (by kernel_rfl),?_⟩;refine .inr (.inr (.inr (.inl ⟨18,.var 1 [.int .i64 0],[.one (.AD 0 0 0),.agg [.sl (.sl AA) BA,.sl AA Ay,.sl (.sl AA) f,.sl AA c],.agg [.sl (.sl AA) A,.sl AA n]],.agg [.sl (.sl AA) B,.sl AA o,.sl (.sl AA) C,.sl AA p],fun _=>⟨rfl,⟨⟨⟨rfl,rfl⟩,rfl⟩,t4,t2,trivial⟩⟩,fun _=>AP j (V),?_⟩)));try conv=>cbv
 refine .inr (.inr (.inr (.inl ⟨18,.var 1 [.int .i64 0],[.one (.AD 0 0 0),.agg [.sl (.sl AA) AL,.sl AA AK,.sl (.sl AA) AI,.sl AA AJ],.agg [.sl (.sl AA) B,.sl AA o,.sl (.sl AA) C,.sl AA p]],.agg [.sl (.sl AA) N,.sl AA L,.sl (.sl AA) O,.sl AA M],fun _=>⟨rfl,⟨⟨⟨rfl,rfl⟩,rfl⟩,t4,t4,trivial⟩⟩,fun _=>AP j (W),?_⟩)));try conv=>cbv
 refine⟨fun _=>Aq (by kernel_rfl),?_⟩;intro ai ag;cases ag.trans (show _=false by decide);conv=>cbv
 refine cL j Y ⟨t4,trivial⟩ ?_;try conv=>cbv
 refine cL j Z ⟨t4,t4,trivial⟩ ?_;try conv=>cbv
 refine⟨fun _=>Aq (by kernel_rfl),?_⟩;exact fA ⟨⟨rfl,rfl,rfl,rfl,rfl,rfl,rfl,trivial⟩,t2,trivial⟩ rfl (by simp)
theorem ZI (F:Fd TT w) (ha:Vm TT w 1950000 ka ka AL AK AI AJ xa ya) (d:Nm TT w 1950000 ks AQ AO vs) (hb:Vm TT w 1950000 kb kb Aa AZ Ai Ah xb yb) (ht:Nm TT w 1950000 kt Ak Aj vt) (a:xa=xb/\ya=yb) (c:2*ka+2*kb+443<=80000):CF 64 [.agg [.sl (.sl AA) AL,.sl AA AK,.sl (.sl AA) AI,.sl AA AJ,.sl (.sl AA) AQ,.sl AA AO],.agg [.sl (.sl AA) Aa,.sl AA AZ,.sl (.sl AA) Ai,.sl AA Ah,.sl (.sl AA) Ak,.sl AA Aj]] (.AE [(true,[.sl (.sl AA) (([]:List LR)),.sl AA (([]:LR)),.sl (.sl AA) (([]:List LR)),.sl AA (([]:LR)),.sl (.sl AA) (([]:List LR)),.sl AA (([]:LR))]),(false,[.int .i64 11])]):=by
 refine BP Tryz.func64 (by kernel_rfl) rfl fun E b=>?_
 conv=>cbv
 refine cL b (IH F ha hb (by omega) (by omega) (by omega) (by omega) (e:=true) ⟨fun _=>a,fun _=>rfl⟩) ⟨t4,t4,trivial⟩ ?_;try conv=>cbv
 exact fA ⟨⟨rfl,.inr (.inl ⟨_,rfl⟩),.inr (.inl ⟨_,rfl⟩),.inr (.inl ⟨_,rfl⟩),.inr (.inl ⟨_,rfl⟩),.inr (.inl ⟨_,rfl⟩),.inr (.inl ⟨_,rfl⟩),trivial⟩,t2,trivial⟩ rfl (by simp)
theorem eI (F:Fd TT w) (ha:Nm TT w 1950000 ka AL AK va) (hb:Nm TT w 1950000 kb AI AJ vb) (K:Nm TT w 1950000 kc AQ AO vc) (c:va≠0) (M:48*ka+kb+kc+134<=80000):∃G B H C I D,Nm TT w 1950000 (48*ka+48*kb+kc+24) G B (un va)/\Nm TT w 1950000 (48*ka+48*kb+kc+24) H C (vb*As (fs va vb))/\Nm TT w 1950000 (48*ka+48*kb+kc+24) I D (vc*As (fs va vb))/\BW Tryz.prog 163 [.one (.AD 0 0 0),.agg [.sl (.sl AA) AL,.sl AA AK],.agg [.sl (.sl AA) AI,.sl AA AJ],.agg [.sl (.sl AA) AQ,.sl AA AO]] (.var 0 [.int .i64 0]) (.AE [(true,[.sl (.sl AA) G,.sl AA B,.sl (.sl AA) H,.sl AA C,.sl (.sl AA) I,.sl AA D]),(false,[.int .i64 0])]):=by
 obtain⟨u,d,J,j⟩:=DQ F ha (by omega);have f:u≠0:=fun z=>c (Dv.1 (d.symm.trans z))
 obtain⟨Ak,Aj,l,g⟩:=Fo F ha ha c (by omega);obtain⟨BA,Ay,m,h⟩:=Fo F hb ha c (by omega);obtain⟨b,a,n,i⟩:=Fo F K ha c (by omega);have o:=l.cast (y:=un va) (by rw[Ko c,Cy c]);have p:=m.cast (y:=vb*As (fs va vb)) (by rw[Hx c]);have q:=n.cast (y:=vc*As (fs va vb)) (by rw[Hx c]);refine⟨Ak,Aj,BA,Ay,b,a,o.mono (by omega),p.mono (by omega),q.mono (by omega),?_⟩;refine Bn Tryz.func163 (by kernel_rfl) rfl fun E v=>?_
 conv=>cbv
 refine cL v j ⟨t2,trivial⟩ ?_;try conv=>cbv
 intro A k;conv=>cbv
 refine .inr ?_;cases A <;> conv=>cbv
 ·have r:=Au k;refine .inr (.inr (.inr (.inl ⟨0,.var 0 [.int .i64 0],[.one (.AD 0 0 0),.agg [.sl (.sl AA) AL,.sl AA AK],.agg [.sl (.sl AA) AL,.sl AA AK]],.agg [.sl (.sl AA) Ak,.sl AA Aj],fun _=>⟨rfl,⟨⟨⟨rfl,rfl⟩,rfl⟩,t2,t2,trivial⟩⟩,fun _=>AP v (g),?_⟩)));try conv=>cbv
  refine .inr (.inr (.inr (.inl ⟨0,.var 0 [.int .i64 0],[.one (.AD 0 0 0),.agg [.sl (.sl AA) AI,.sl AA AJ],.agg [.sl (.sl AA) AL,.sl AA AK]],.agg [.sl (.sl AA) BA,.sl AA Ay],fun _=>⟨rfl,⟨⟨⟨rfl,rfl⟩,rfl⟩,t2,t2,trivial⟩⟩,fun _=>AP v (h),?_⟩)));try conv=>cbv
  refine .inr (.inr (.inr (.inl ⟨0,.var 0 [.int .i64 0],[.one (.AD 0 0 0),.agg [.sl (.sl AA) AQ,.sl AA AO],.agg [.sl (.sl AA) AL,.sl AA AK]],.agg [.sl (.sl AA) b,.sl AA a],fun _=>⟨rfl,⟨⟨⟨rfl,rfl⟩,rfl⟩,t2,t2,trivial⟩⟩,fun _=>AP v (i),?_⟩)));try conv=>cbv
  refine⟨fun _=>Aq (by kernel_rfl),?_⟩;intro L x;cases x.trans (show _=false by decide);conv=>cbv
  refine fun _=>⟨⟨⟨⟨rfl,rfl,rfl,rfl,rfl,rfl,rfl,trivial⟩,t2,trivial⟩,rfl,by simp⟩,rfl⟩
 have r:=Av k;exact absurd r f
theorem eH (F:Fd TT w) (ha:Nm TT w 1950000 ka AL AK va) (hb:Nm TT w 1950000 kb AI AJ vb) (H:Nm TT w 1950000 kc AQ AO vc) (o:va=0) (v:vb≠0) (K:ka+48*kb+kc+134<=80000):∃B x C z D A,Nm TT w 1950000 (48*ka+48*kb+kc+24) B x (un va)/\Nm TT w 1950000 (48*ka+48*kb+kc+24) C z (vb*As (fs va vb))/\Nm TT w 1950000 (48*ka+48*kb+kc+24) D A (vc*As (fs va vb))/\BW Tryz.prog 163 [.one (.AD 0 0 0),.agg [.sl (.sl AA) AL,.sl AA AK],.agg [.sl (.sl AA) AI,.sl AA AJ],.agg [.sl (.sl AA) AQ,.sl AA AO]] (.var 0 [.int .i64 0]) (.AE [(true,[.sl (.sl AA) B,.sl AA x,.sl (.sl AA) C,.sl AA z,.sl (.sl AA) D,.sl AA A]),(false,[.int .i64 0])]):=by
 obtain⟨p,c,G,h⟩:=DQ F ha (by omega);obtain rfl:p=0:=c.trans (by rw[o];exact Dw);obtain⟨Ak,Aj,i,d⟩:=Fo F ha hb v (by omega);obtain⟨BA,Ay,j,f⟩:=Fo F hb hb v (by omega);obtain⟨b,a,k,g⟩:=Fo F H hb v (by omega);have l:=i.cast (y:=un va) (by rw[Kn o,o];grind);have m:=j.cast (y:=vb*As (fs va vb)) (by rw[It o]);have n:=k.cast (y:=vc*As (fs va vb)) (by rw[It o]);refine⟨Ak,Aj,BA,Ay,b,a,l.mono (by omega),m.mono (by omega),n.mono (by omega),?_⟩;refine Bn Tryz.func163 (by kernel_rfl) rfl fun E q=>?_
 conv=>cbv
 refine cL q h ⟨t2,trivial⟩ ?_;try conv=>cbv
 intro I r;cases r.trans (show _=true by decide);conv=>cbv
 refine .inr ?_;refine .inr (.inr (.inr (.inl ⟨0,.var 0 [.int .i64 0],[.one (.AD 0 0 0),.agg [.sl (.sl AA) AL,.sl AA AK],.agg [.sl (.sl AA) AI,.sl AA AJ]],.agg [.sl (.sl AA) Ak,.sl AA Aj],fun _=>⟨rfl,⟨⟨⟨rfl,rfl⟩,rfl⟩,t2,t2,trivial⟩⟩,fun _=>AP q (d),?_⟩)));try conv=>cbv
 refine .inr (.inr (.inr (.inl ⟨0,.var 0 [.int .i64 0],[.one (.AD 0 0 0),.agg [.sl (.sl AA) AI,.sl AA AJ],.agg [.sl (.sl AA) AI,.sl AA AJ]],.agg [.sl (.sl AA) BA,.sl AA Ay],fun _=>⟨rfl,⟨⟨⟨rfl,rfl⟩,rfl⟩,t2,t2,trivial⟩⟩,fun _=>AP q (f),?_⟩)));try conv=>cbv
 refine .inr (.inr (.inr (.inl ⟨0,.var 0 [.int .i64 0],[.one (.AD 0 0 0),.agg [.sl (.sl AA) AQ,.sl AA AO],.agg [.sl (.sl AA) AI,.sl AA AJ]],.agg [.sl (.sl AA) b,.sl AA a],fun _=>⟨rfl,⟨⟨⟨rfl,rfl⟩,rfl⟩,t2,t2,trivial⟩⟩,fun _=>AP q (g),?_⟩)));try conv=>cbv
 refine⟨fun _=>Aq (by kernel_rfl),?_⟩;intro J u;cases u.trans (show _=false by decide);conv=>cbv
 refine fun _=>⟨⟨⟨⟨rfl,rfl,rfl,rfl,rfl,rfl,rfl,trivial⟩,t2,trivial⟩,rfl,by simp⟩,rfl⟩
theorem eF (F:Fd TT w) {T1 T2 T3:List LR} {A1 A2 A3:LR} (ha:Nm TT w 1950000 ka T1 A1 va) (hb:Nm TT w 1950000 kb T2 A2 vb) (i:Nm TT w 1950000 kc T3 A3 vc) (j:¬(va=0/\vb=0)) (k:48*ka+48*kb+kc+134<=80000):∃f b g c h d,Nm TT w 1950000 (48*ka+48*kb+kc+24) f b (un va)/\Nm TT w 1950000 (48*ka+48*kb+kc+24) g c (vb*As (fs va vb))/\Nm TT w 1950000 (48*ka+48*kb+kc+24) h d (vc*As (fs va vb))/\BW Tryz.prog 163 [.one (.AD 0 0 0),.agg [.sl (.sl AA) T1,.sl AA A1],.agg [.sl (.sl AA) T2,.sl AA A2],.agg [.sl (.sl AA) T3,.sl AA A3]] (.var 0 [.int .i64 0]) (.AE [(true,[.sl (.sl AA) f,.sl AA b,.sl (.sl AA) g,.sl AA c,.sl (.sl AA) h,.sl AA d]),(false,[.int .i64 0])]):=by
 by_cases a:va=0
 ·exact eH F ha hb i a (fun e=>j ⟨a,e⟩) (by omega)
 exact eI F ha hb i a (by omega)
theorem gU (z:(xb-xa)*Re.ofRat ((2:Int):Rat)=0/\(yb-ya)*Re.ofRat ((2:Int):Rat)=0):xa=xb/\ya=yb:=by
 rw[JQ] at z;have h:=HE
 have:∀u:Re,u*(1+1)=0->u=0:=fun u hu=>by
  have:u=u*(1+1)*Re.ofRat (1/2):=by have:u*(1+1)*Re.ofRat (1/2)=u*(Re.ofRat (1/2)*(1+1)):=by grind
                                    rw[this,h];grind
  rw[this,hu];grind
 have a:=this _ z.1;have b:=this _ z.2;exact⟨by grind,by grind⟩
theorem dh (a:¬(xa=xb/\ya=yb)):un (xb-xa)=un ((xb-xa)*Re.ofRat ((2:Int):Rat))/\(yb-ya)*As (fs (xb-xa) (yb-ya))=(yb-ya)*Re.ofRat ((2:Int):Rat)*As (fs ((xb-xa)*Re.ofRat ((2:Int):Rat)) ((yb-ya)*Re.ofRat ((2:Int):Rat)))/\rC xa ya xb yb s t*As (fs (xb-xa) (yb-ya))=(xb*xb+yb*yb-(xa*xa+ya*ya)+(s-t))*As (fs ((xb-xa)*Re.ofRat ((2:Int):Rat)) ((yb-ya)*Re.ofRat ((2:Int):Rat))):=
 eU (s:=Re.ofRat ((2:Int):Rat)) (fun e=>absurd (Re.Du.1 (show Re.ofRat ((2:Int):Rat)=Re.ofRat 0 from e)) (by decide)) (fun z=>a ⟨by grind,by grind⟩) (by grind) (by grind) (by
  rw[Uo a,JQ];have h:=HE;have:(1+1)*((xb*xb+yb*yb-(xa*xa+ya*ya)+(s-t))*Re.ofRat (1/2))=(xb*xb+yb*yb-(xa*xa+ya*ya)+(s-t))*(Re.ofRat (1/2)*(1+1)):=by grind
  rw[this,h];grind)
theorem da (F:Fd TT w) (ha:Vm TT w 1950000 ka ka AL AK AI AJ xa ya) (hs:Nm TT w 1950000 ks AQ AO vs) (hb:Vm TT w 1950000 kb kb Aa AZ Ai Ah xb yb) (ht:Nm TT w 1950000 kt Ak Aj vt) (h0:¬(xa=xb/\ya=yb)) (hM:100*ka+100*kb+ks+kt+443<=80000):∃U0 B0 U1 B1 U2 B2,Nm TT w 1950000 (100*ka+100*kb+ks+kt+321) U0 B0 (un (xb-xa))/\Nm TT w 1950000 (100*ka+100*kb+ks+kt+321) U1 B1 ((yb-ya)*As (fs (xb-xa) (yb-ya)))/\Nm TT w 1950000 (100*ka+100*kb+ks+kt+321) U2 B2 (rC xa ya xb yb vs vt*As (fs (xb-xa) (yb-ya)))/\CF 65 [.agg [.sl (.sl AA) AL,.sl AA AK,.sl (.sl AA) AI,.sl AA AJ,.sl (.sl AA) AQ,.sl AA AO],.agg [.sl (.sl AA) Aa,.sl AA AZ,.sl (.sl AA) Ai,.sl AA Ah,.sl (.sl AA) Ak,.sl AA Aj]] (.AE [(true,[.sl (.sl AA) U0,.sl AA B0,.sl (.sl AA) U1,.sl AA B1,.sl (.sl AA) U2,.sl AA B2]),(false,[.int .i64 0])]):=by
 obtain⟨BA,Ay,n,b,T,L⟩:=Ew F hb ha (by omega);obtain⟨K,J,U⟩:=DK F (p:=((2:Int):Rat)) (by decide +kernel);obtain⟨o,c,q,d,I,M⟩:=KY F T U (by omega);obtain⟨u,f,V,N⟩:=IC F hb (by omega);obtain⟨v,g,W,O⟩:=IC F ha (by omega);obtain⟨A,h,Y,P⟩:=KZ F V W (by omega);obtain⟨B,i,Z,Q⟩:=KZ F hs ht (by omega);obtain⟨C,j,a1,R⟩:=U9 F Y Z (by omega);obtain⟨D,k,G,l,H,m,a2,a5,a6,S⟩:=eF F I.x I.y a1 (fun z=>h0 (gU z)) (by omega);obtain⟨e1,e2,e3⟩:=dh (s:=vs) (t:=vt) h0;have a7:=a2.cast (y:=un (xb-xa)) (e1.symm);have a8:=a5.cast (y:=(yb-ya)*As (fs (xb-xa) (yb-ya))) (e2.symm);have aa:=a6.cast (y:=rC xa ya xb yb vs vt*As (fs (xb-xa) (yb-ya))) (e3.symm);refine⟨D,k,G,l,H,m,a7.mono (by omega),a8.mono (by omega),aa.mono (by omega),?_⟩
 refine BP Tryz.func65 (by kernel_rfl) rfl fun E a=>?_
 conv=>cbv
 refine cL (r:= .one (.bool false)) a (EU F ha hb (by omega) (by omega) (by omega) (by omega) (e:=false) ⟨fun z=>(by cases z),fun z=>absurd z h0⟩) ⟨t4,t4,trivial⟩ ?_;try conv=>cbv
 refine .inr (.inr (.inr (.inl ⟨16,.var 1 [.int .i64 0],[.one (.AD 0 0 0),.agg [.sl (.sl AA) Aa,.sl AA AZ,.sl (.sl AA) Ai,.sl AA Ah],.agg [.sl (.sl AA) AL,.sl AA AK,.sl (.sl AA) AI,.sl AA AJ]],.agg [.sl (.sl AA) BA,.sl AA Ay,.sl (.sl AA) n,.sl AA b],fun _=>⟨rfl,⟨⟨⟨rfl,rfl⟩,rfl⟩,t4,t4,trivial⟩⟩,fun _=>AP a (L),?_⟩)));try conv=>cbv
 refine cL a (D6 (by decide) J) t1 ?_;try conv=>cbv
 refine .inr (.inr (.inr (.inl ⟨16,.var 1 [.int .i64 0],[.one (.AD 0 0 0),.agg [.sl (.sl AA) BA,.sl AA Ay,.sl (.sl AA) n,.sl AA b],.agg [.sl (.sl AA) (([]:List LR)),.sl AA K]],.agg [.sl (.sl AA) o,.sl AA c,.sl (.sl AA) q,.sl AA d],fun _=>⟨rfl,⟨⟨⟨rfl,rfl⟩,rfl⟩,t4,t2,trivial⟩⟩,fun _=>AP a (M),?_⟩)));try conv=>cbv
 refine .inr (.inr (.inr (.inl ⟨16,.var 1 [.int .i64 0],[.one (.AD 0 0 0),.agg [.sl (.sl AA) Aa,.sl AA AZ,.sl (.sl AA) Ai,.sl AA Ah]],.agg [.sl (.sl AA) u,.sl AA f],fun _=>⟨rfl,⟨⟨⟨rfl,rfl⟩,rfl⟩,t4,trivial⟩⟩,fun _=>AP a (N),?_⟩)));try conv=>cbv
 refine .inr (.inr (.inr (.inl ⟨16,.var 1 [.int .i64 0],[.one (.AD 0 0 0),.agg [.sl (.sl AA) AL,.sl AA AK,.sl (.sl AA) AI,.sl AA AJ]],.agg [.sl (.sl AA) v,.sl AA g],fun _=>⟨rfl,⟨⟨⟨rfl,rfl⟩,rfl⟩,t4,trivial⟩⟩,fun _=>AP a (O),?_⟩)));try conv=>cbv
 refine .inr (.inr (.inr (.inl ⟨16,.var 1 [.int .i64 0],[.one (.AD 0 0 0),.agg [.sl (.sl AA) u,.sl AA f],.agg [.sl (.sl AA) v,.sl AA g]],.agg [.sl (.sl AA) A,.sl AA h],fun _=>⟨rfl,⟨⟨⟨rfl,rfl⟩,rfl⟩,t2,t2,trivial⟩⟩,fun _=>AP a (P),?_⟩)));try conv=>cbv
 refine .inr (.inr (.inr (.inl ⟨16,.var 1 [.int .i64 0],[.one (.AD 0 0 0),.agg [.sl (.sl AA) AQ,.sl AA AO],.agg [.sl (.sl AA) Ak,.sl AA Aj]],.agg [.sl (.sl AA) B,.sl AA i],fun _=>⟨rfl,⟨⟨⟨rfl,rfl⟩,rfl⟩,t2,t2,trivial⟩⟩,fun _=>AP a (Q),?_⟩)));try conv=>cbv
 refine .inr (.inr (.inr (.inl ⟨16,.var 1 [.int .i64 0],[.one (.AD 0 0 0),.agg [.sl (.sl AA) A,.sl AA h],.agg [.sl (.sl AA) B,.sl AA i]],.agg [.sl (.sl AA) C,.sl AA j],fun _=>⟨rfl,⟨⟨⟨rfl,rfl⟩,rfl⟩,t2,t2,trivial⟩⟩,fun _=>AP a (R),?_⟩)));try conv=>cbv
 refine⟨fun _=>Aq (by kernel_rfl),?_⟩;refine .inr (.inr (.inr (.inl ⟨16,.var 1 [.int .i64 0],[.one (.AD 0 0 0),.agg [.sl (.sl AA) o,.sl AA c],.agg [.sl (.sl AA) q,.sl AA d],.agg [.sl (.sl AA) C,.sl AA j]],.AE [(true,[.sl (.sl AA) D,.sl AA k,.sl (.sl AA) G,.sl AA l,.sl (.sl AA) H,.sl AA m]),(false,[.int .i64 0])],fun _=>⟨rfl,⟨⟨⟨rfl,rfl⟩,rfl⟩,t2,t2,t2,trivial⟩⟩,fun _=>AP a (S),?_⟩)));try conv=>cbv
 exact fA ⟨⟨rfl,rfl,rfl,rfl,rfl,rfl,rfl,trivial⟩,t2,trivial⟩ rfl (by simp)
theorem db (F:Fd TT w) (ha:Vm TT w 1950000 ka ka AL AK AI AJ xa ya) (d:Nm TT w 1950000 ks AQ AO vs) (hb:Vm TT w 1950000 kb kb Aa AZ Ai Ah xb yb) (ht:Nm TT w 1950000 kt Ak Aj vt) (a:xa=xb/\ya=yb) (c:2*ka+2*kb+443<=80000):CF 65 [.agg [.sl (.sl AA) AL,.sl AA AK,.sl (.sl AA) AI,.sl AA AJ,.sl (.sl AA) AQ,.sl AA AO],.agg [.sl (.sl AA) Aa,.sl AA AZ,.sl (.sl AA) Ai,.sl AA Ah,.sl (.sl AA) Ak,.sl AA Aj]] (.AE [(true,[.sl (.sl AA) (([]:List LR)),.sl AA (([]:LR)),.sl (.sl AA) (([]:List LR)),.sl AA (([]:LR)),.sl (.sl AA) (([]:List LR)),.sl AA (([]:LR))]),(false,[.int .i64 11])]):=by
 refine BP Tryz.func65 (by kernel_rfl) rfl fun E b=>?_
 conv=>cbv
 refine cL b (EU F ha hb (by omega) (by omega) (by omega) (by omega) (e:=true) ⟨fun _=>a,fun _=>rfl⟩) ⟨t4,t4,trivial⟩ ?_;try conv=>cbv
 exact fA ⟨⟨rfl,.inr (.inl ⟨_,rfl⟩),.inr (.inl ⟨_,rfl⟩),.inr (.inl ⟨_,rfl⟩),.inr (.inl ⟨_,rfl⟩),.inr (.inl ⟨_,rfl⟩),.inr (.inl ⟨_,rfl⟩),trivial⟩,t2,trivial⟩ rfl (by simp)
theorem dc (F:Fd TT w) {r:Re} {o p q:Nat} (ha:Nm TT w 1950000 ka AL AK va) (hb:Nm TT w 1950000 kb AI AJ vb) (x:Nm TT w 1950000 kc AQ AO vc) (y:Nm TT w 1950000 o Aa AZ vx) (z:Nm TT w 1950000 p Ai Ah vy) (A:Nm TT w 1950000 q Ak Aj r) (u:va=vx) (v:vb=vy) (h3:vc=r) (B:2*ka+2*kb+2*kc+2*o+2*p+2*q+443<=80000):CF 66 [.agg [.sl (.sl AA) AL,.sl AA AK,.sl (.sl AA) AI,.sl AA AJ,.sl (.sl AA) AQ,.sl AA AO],.agg [.sl (.sl AA) Aa,.sl AA AZ,.sl (.sl AA) Ai,.sl AA Ah,.sl (.sl AA) Ak,.sl AA Aj]] (.one (.bool true)):=by
 obtain⟨d,a,l,h⟩:=EM F ha y (by omega) (by omega);obtain rfl:d=true:=a.2 u;obtain⟨f,b,m,i⟩:=EM F hb z (by omega) (by omega);obtain rfl:f=true:=b.2 v;obtain⟨g,c,n,j⟩:=EM F x A (by omega) (by omega);obtain rfl:g=true:=c.2 h3;refine BP Tryz.func66 (by kernel_rfl) rfl fun E k=>?_
 conv=>cbv
 refine cL k h ⟨t2,t2,trivial⟩ ?_;try conv=>cbv
 refine cL k i ⟨t2,t2,trivial⟩ ?_;try conv=>cbv
 refine cL k j ⟨t2,t2,trivial⟩ ?_;try conv=>cbv
 exact fA ⟨t2,trivial⟩ rfl (by simp)
theorem dg (F:Fd TT w) (ha:Vm TT w 1950000 ka ka AL AK AI AJ xa ya) (u:Nm TT w 1950000 ks AQ AO vs) (hb:Vm TT w 1950000 kb kb Aa AZ Ai Ah xb yb) (ht:Nm TT w 1950000 kt Ak Aj vt) (L:766*ka+764*kb+2*ks+2*kt+1598<=80000):∃m b n f o i p j q k r l e,((e=0/\¬(xa=xb/\ya=yb)/\(Nm TT w 1950000 (1) m b (un (xb-xa))/\Nm TT w 1950000 (48*ka+48*kb+72) n f ((yb-ya)*As (fs (xb-xa) (yb-ya)))/\Nm TT w 1950000 (813*ka+811*kb+2*ks+2*kt+1558) o i (rC xa ya xb yb vs vt*As (fs (xb-xa) (yb-ya))))/\Nm TT w 1950000 (100*ka+100*kb+ks+kt+321) p j (un (xb-xa))/\Nm TT w 1950000 (100*ka+100*kb+ks+kt+321) q k ((yb-ya)*As (fs (xb-xa) (yb-ya)))/\Nm TT w 1950000 (100*ka+100*kb+ks+kt+321) r l (rC xa ya xb yb vs vt*As (fs (xb-xa) (yb-ya))))\/(e=11/\xa=xb/\ya=yb))/\CF 64 [.agg [.sl (.sl AA) AL,.sl AA AK,.sl (.sl AA) AI,.sl AA AJ,.sl (.sl AA) AQ,.sl AA AO],.agg [.sl (.sl AA) Aa,.sl AA AZ,.sl (.sl AA) Ai,.sl AA Ah,.sl (.sl AA) Ak,.sl AA Aj]] (.AE [(true,[.sl (.sl AA) m,.sl AA b,.sl (.sl AA) n,.sl AA f,.sl (.sl AA) o,.sl AA i]),(false,[.int .i64 e])])/\CF 65 [.agg [.sl (.sl AA) AL,.sl AA AK,.sl (.sl AA) AI,.sl AA AJ,.sl (.sl AA) AQ,.sl AA AO],.agg [.sl (.sl AA) Aa,.sl AA AZ,.sl (.sl AA) Ai,.sl AA Ah,.sl (.sl AA) Ak,.sl AA Aj]] (.AE [(true,[.sl (.sl AA) p,.sl AA j,.sl (.sl AA) q,.sl AA k,.sl (.sl AA) r,.sl AA l]),(false,[.int .i64 e])]):=by
 by_cases a:xa=xb/\ya=yb
 ·exact⟨[],[],[],[],[],[],[],[],[],[],[],[],11,.inr ⟨rfl,a⟩,ZI F ha u hb ht a (by omega),db F ha u hb ht a (by omega)⟩
 obtain⟨U,B,I,G,y,v,h,h',C,c⟩:=Ry F ha u hb ht a (by omega);obtain⟨V,D,J,H,z,x,g,K,A,d⟩:=da F ha u hb ht a (by omega);exact⟨U,B,I,G,y,v,V,D,J,H,z,x,0,.inl ⟨rfl,a,⟨h,h',C⟩,g,K,A⟩,c,d⟩
theorem iF {W:List UInt8} (O:ns=(runN (X.take 24)).1) (q:V.length<=3) (a:∀n∈ns,BY V n):CF 12 [.agg [.sl (.pr .u8 (.pr .u8 (.pr .u8 (.pr .i8 .u8)))) X,.sl .u8 W]] (.one (.bool true)):=by
 obtain⟨w,L⟩:=GL q a;have F:=L.fd;obtain⟨Q,p⟩:∃z,z=FL ns W:=⟨_,rfl⟩
 obtain⟨c,hc⟩:=xB (decide (4<=Q.length));refine BP Tryz.func12 (by kernel_rfl) rfl fun E d=>?_
 conv=>cbv
 refine cL d (Hd O q a p (i':=4) ⟨rfl⟩ (by decide) hc) ⟨t2,rfl,trivial⟩ ?_;try conv=>cbv
 refine cL d FF trivial ?_;try conv=>cbv
 intro aH K;cases K.trans (rfl:_=false);conv=>cbv
 intro aa g;conv=>cbv
 cases aa <;> conv=>cbv
 ·have H:=CJ g;have hl:4<=Q.length:=of_decide_eq_true (hc.symm.trans H);obtain⟨x0,B⟩:=AG (l:=Q) (i:=0) (by omega);obtain⟨X0,Y0,U⟩:=C9 L a p B;have P:=U (b:=1950000) (k:=1) (by decide);obtain⟨x1,C⟩:=AG (l:=Q) (i:=1) (by omega);obtain⟨X1,Y1,Y⟩:=C9 L a p C;have R:=Y (b:=1950000) (k:=1) (by decide);obtain⟨x2,D⟩:=AG (l:=Q) (i:=2) (by omega);obtain⟨X2,Y2,Z⟩:=C9 L a p D;have S:=Z (b:=1950000) (k:=1) (by decide);obtain⟨x3,G⟩:=AG (l:=Q) (i:=3) (by omega);obtain⟨X3,Y3,a1⟩:=C9 L a p G;have T:=a1 (b:=1950000) (k:=1) (by decide);obtain⟨aB,al,aC,an,aD,ao,ec,M,cc⟩:=IA F (i:=0) (k:=2) B D (by decide) (by decide) P S (by omega);obtain⟨aE,aq,aF,ar,aG,au,ed,N,cd⟩:=IA F (i:=1) (k:=3) C G (by decide) (by decide) R T (by omega);refine cL d cc t3 ?_;try conv=>cbv
  refine cL d cd t3 ?_;try conv=>cbv
  intro ab j;conv=>cbv
  cases ab <;> conv=>cbv
  ·have I:=CJ j;obtain⟨_,nc,a6,a2⟩:=M.resolve_right (fun h=>absurd (h.1.symm.trans I) (by decide));intro ad m;conv=>cbv
   cases ad <;> conv=>cbv
   ·have J:=CJ m;obtain⟨_,nd,a7,a5⟩:=N.resolve_right (fun h=>absurd (h.1.symm.trans J) (by decide));obtain⟨av,af,aw,ag,ax,ah,ay,ai,az,aj,aA,ak,e,hd,ca,cb⟩:=dg F a6 a2 a7 a5 (by omega);refine cL d ca ⟨⟨rfl,rfl,rfl,rfl,rfl,rfl,trivial⟩,⟨rfl,rfl,rfl,rfl,rfl,rfl,trivial⟩,trivial⟩ ?_;try conv=>cbv
    refine cL d cb ⟨⟨rfl,rfl,rfl,rfl,rfl,rfl,trivial⟩,⟨rfl,rfl,rfl,rfl,rfl,rfl,trivial⟩,trivial⟩ ?_;try conv=>cbv
    intro aI f;(have f:=f.trans (show _=true by simp));subst f;conv=>cbv
    intro ae o;conv=>cbv
    cases ae <;> conv=>cbv
    ·have a8:=Dg o;obtain⟨_,n0,⟨r,u,v⟩,x,y,A⟩:=hd.resolve_right (fun h=>by omega);refine cL d (dc F r u v x y A rfl rfl rfl (by omega)) ⟨⟨rfl,rfl,rfl,rfl,rfl,rfl,trivial⟩,⟨rfl,rfl,rfl,rfl,rfl,rfl,trivial⟩,trivial⟩ ?_;try conv=>cbv
     exact fA ⟨t2,trivial⟩ rfl (by simp)
    have a8:=Dh o;exact fA ⟨t2,trivial⟩ rfl (by simp)
   have J:=CK m;exact fA ⟨t2,trivial⟩ rfl (by simp)
  have I:=CK j;exact fA ⟨t2,trivial⟩ rfl (by simp)
 have H:=CK g;refine cL d FF trivial ?_;try conv=>cbv
 exact fA ⟨t2,trivial⟩ rfl (by simp)
theorem Zc {c d x1 y1 x2 y2:Re} (i:¬(c=x1/\d=y1)) {f:Re} (es:s=(c-x2)*(c-x2)+(d-y2)*(d-y2)) (m:t=(x1-x2)*(x1-x2)+(y1-y2)*(y1-y2)) (ex:vx=x2-c) (g:vy=y2-d) (l:f=((x1-c)*vx+(y1-d)*vy)*As ((x1-c)*(x1-c)+(y1-d)*(y1-d))):
  ∀x y:Re,(x=x2/\y=y2)\/(x=c+((x1-c)*f*Re.ofRat ((2:Int):Rat)-vx)/\y=d+((y1-d)*f*Re.ofRat ((2:Int):Rat)-vy))->
  un (x1-c)*x+(y1-d)*As (fs (x1-c) (y1-d))*y=rC c d x1 y1 s t*As (fs (x1-c) (y1-d))/\(x-c)*(x-c)+(y-d)*(y-d)-s=0:=by
 have k:¬(x1-c=0/\y1-d=0):=fun z=>i ⟨by grind,by grind⟩
 have j:=Ze (dx:=x1-c) (dy:=y1-d) (vx:=vx) (vy:=vy) (Cy (Kh k));rw[<-l] at j
 have n:rC c d x1 y1 s t=(x1-c)*x2+(y1-d)*y2:=by
  rw[Uo i,es,m];have h:=HE;have:(x1*x1+y1*y1-(c*c+d*d)+((c-x2)*(c-x2)+(d-y2)*(d-y2)-((x1-x2)*(x1-x2)+(y1-y2)*(y1-y2))))*Re.ofRat (1/2)=((x1-c)*x2+(y1-d)*y2)*(Re.ofRat (1/2)*(1+1)):=by grind
  rw[this,h];grind
 have key:∀x y:Re,(x1-c)*x+(y1-d)*y=(x1-c)*x2+(y1-d)*y2->un (x1-c)*x+(y1-d)*As (fs (x1-c) (y1-d))*y=rC c d x1 y1 s t*As (fs (x1-c) (y1-d)):=fun x y e=>by
  rw[gW k,n,<-e];grind
 rw[JQ];intro x y h;rcases h with⟨rfl,rfl⟩ |⟨rfl,rfl⟩
 ·exact⟨key _ _ rfl,by rw[es];grind⟩
 obtain⟨c1,c2⟩:=j
 generalize (x1-c)*f=a at*
 generalize (y1-d)*f=b at*
 refine⟨key _ _ ?_,?_⟩
 ·have:(x1-c)*(c+(a*(1+1)-vx))+(y1-d)*(d+(b*(1+1)-vy))=(x1-c)*c+(y1-d)*d+((x1-c)*(a*(1+1)-vx)+(y1-d)*(b*(1+1)-vy)):=by grind
  rw[this,c1,ex,g];grind
 have:(c+(a*(1+1)-vx)-c)*(c+(a*(1+1)-vx)-c)+(d+(b*(1+1)-vy)-d)*(d+(b*(1+1)-vy)-d)=(a*(1+1)-vx)*(a*(1+1)-vx)+(b*(1+1)-vy)*(b*(1+1)-vy):=by grind
 rw[this,c2,es,ex,g];grind
theorem iD {W:List UInt8} (hns:ns=(runN (X.take 24)).1) (hV3:V.length<=3) (hok:∀n∈ns,BY V n):CF 14 [.agg [.sl (.pr .u8 (.pr .u8 (.pr .u8 (.pr .i8 .u8)))) X,.sl .u8 W]] (.one (.bool true)):=by
 obtain⟨w,L⟩:=GL hV3 hok;have F:=L.fd;obtain⟨Q,hQ⟩:∃z,z=FL ns W:=⟨_,rfl⟩
 obtain⟨c,hc⟩:=xB (decide (3<=Q.length));refine BP Tryz.func14 (by kernel_rfl) rfl fun E hE=>?_
 conv=>cbv
 refine cL hE (Hd hns hV3 hok hQ (i':=3) ⟨rfl⟩ (by decide) hc) ⟨t2,rfl,trivial⟩ ?_;try conv=>cbv
 refine cL hE FF trivial ?_;try conv=>cbv
 intro n27 h27;cases h27.trans (rfl:_=false);conv=>cbv
 intro n30 h30;conv=>cbv
 cases n30 <;> conv=>cbv
 ·have k30:=CJ h30;have hl:3<=Q.length:=of_decide_eq_true (hc.symm.trans k30);obtain⟨x0,hx0⟩:=AG (l:=Q) (i:=0) (by omega);obtain⟨X0,Y0,hq0⟩:=C9 L hok hQ hx0;have hp0:=hq0 (b:=1950000) (k:=1) (by decide);obtain⟨x1,hx1⟩:=AG (l:=Q) (i:=1) (by omega);obtain⟨X1,Y1,hq1⟩:=C9 L hok hQ hx1;have hp1:=hq1 (b:=1950000) (k:=1) (by decide);obtain⟨x2,hx2⟩:=AG (l:=Q) (i:=2) (by omega);obtain⟨X2,Y2,hq2⟩:=C9 L hok hQ hx2;have hp2:=hq2 (b:=1950000) (k:=1) (by decide);obtain⟨Tc1,Ac1,Tc2,Ac2,Tc3,Ac3,ec,hdc,cc⟩:=IA F (i:=0) (k:=2) hx0 hx2 (by decide) (by decide) hp0 hp2 (by omega);obtain⟨Td1,Ad1,Td2,Ad2,Td3,Ad3,ed,hdd,cd⟩:=IA F (i:=1) (k:=2) hx1 hx2 (by decide) (by decide) hp1 hp2 (by omega);obtain⟨e01,he01⟩:=CV (X0=X1/\Y0=Y1);refine cL hE cc t3 ?_;try conv=>cbv
  refine cL hE cd t3 ?_;try conv=>cbv
  intro n44 h44;conv=>cbv
  cases n44 <;> conv=>cbv
  ·have k44:=CJ h44;obtain⟨_,nc,hvc,hsc⟩:=hdc.resolve_right (fun h=>absurd (h.1.symm.trans k44) (by decide));intro n47 h47;conv=>cbv
   cases n47 <;> conv=>cbv
   ·have k47:=CJ h47;obtain⟨_,nd,hvd,hsd⟩:=hdd.resolve_right (fun h=>absurd (h.1.symm.trans k47) (by decide));refine⟨x0,fun _=>⟨by omega,hx0⟩,?_⟩;try conv=>cbv
    refine⟨x1,fun _=>⟨by omega,hx1⟩,?_⟩;try conv=>cbv
    refine cL hE (EU F hp0 hp1 (by omega) (by omega) (by omega) (by omega) he01) ⟨t4,t4,trivial⟩ ?_;try conv=>cbv
    refine⟨fun _=>Aq (by kernel_rfl),?_⟩;cases e01 <;> conv=>cbv
    ·have n01:¬(X0=X1/\Y0=Y1):=fun z=>absurd (he01.2 z) (by decide)
     obtain⟨AI,AJ,AQ,AO,Aa,AZ,h502,h503,h504,c501⟩:=Ry F hvc hsc hvd hsd n01 (by omega);obtain⟨Ak,Aj,CD,Bq,h506,c505⟩:=Ew F hp1 hp0 (by omega);obtain⟨T509,A509,T510,A510,h509,c508⟩:=Ew F hp2 hp0 (by omega);obtain⟨T512,A512,h512,c511⟩:=IC F h506 (by omega);have hdd:(X1-X0)*(X1-X0)+(Y1-Y0)*(Y1-Y0)≠0:=Kh (fun z=>n01 ⟨by grind,by grind⟩);obtain⟨T514,A514,h514,c513⟩:=PU F h506 h509 (by omega);obtain⟨T516,A516,h516,c515⟩:=Fo F h514 h512 hdd (by omega);obtain⟨T518,A518,T519,A519,h518,c517⟩:=KY F h506 h516 (by omega);obtain⟨A520,hA520,h520⟩:=DK F (p:=((2:Int):Rat)) (by decide +kernel);obtain⟨T522,A522,T523,A523,h522,c521⟩:=KY F h518 h520 (by omega);obtain⟨T525,A525,T526,A526,h525,c524⟩:=Ew F h522 h509 (by omega);obtain⟨T528,A528,T529,A529,h528,c527⟩:=Mj F hp0 h525 (by omega)
     have hP:∀z∈([((x2.1.1,x2.1.2),(x2.2.1,x2.2.2)),((T528,A528),(T529,A529))]:List (el CP)),∃X Y,Vm (Tf (PN ns)) w 1950000 756 756 z.1.1 z.1.2 z.2.1 z.2.2 X Y/\(un (X1-X0))*X+((Y1-Y0)*As (fs (X1-X0) (Y1-Y0)))*Y=rC X0 Y0 X1 Y1 ((X0-X2)*(X0-X2)+(Y0-Y2)*(Y0-Y2)) ((X1-X2)*(X1-X2)+(Y1-Y2)*(Y1-Y2))*As (fs (X1-X0) (Y1-Y0))/\(X-X0)*(X-X0)+(Y-Y0)*(Y-Y0)-((X0-X2)*(X0-X2)+(Y0-Y2)*(Y0-Y2))=0:=by
      have hf:=Zc n01 (s:=(X0-X2)*(X0-X2)+(Y0-Y2)*(Y0-Y2)) (t:=(X1-X2)*(X1-X2)+(Y1-Y2)*(Y1-Y2)) rfl rfl rfl rfl rfl;intro z hz;rcases List.mem_cons.1 hz with rfl | hz
      ·exact⟨X2,Y2,hp2.mono (by omega) (by omega),hf X2 Y2 (.inl ⟨rfl,rfl⟩)⟩
      rw[List.mem_singleton.1 hz];exact⟨_,_,h528.mono (by omega) (by omega),hf _ _ (.inr ⟨rfl,rfl⟩)⟩
     refine cL hE c501 ⟨⟨rfl,rfl,rfl,rfl,rfl,rfl,trivial⟩,⟨rfl,rfl,rfl,rfl,rfl,rfl,trivial⟩,trivial⟩ ?_;try conv=>cbv
     intro n65 h65;cases h65.trans (show _=false by decide);conv=>cbv
     refine⟨x1,fun _=>⟨by omega,hx1⟩,?_⟩;try conv=>cbv
     refine⟨x0,fun _=>⟨by omega,hx0⟩,?_⟩;try conv=>cbv
     refine .inr (.inr (.inr (.inl ⟨67,.var 1 [.int .i64 0],[.one (.AD 0 0 0),.agg [.sl (.sl AA) x1.1.1,.sl AA x1.1.2,.sl (.sl AA) x1.2.1,.sl AA x1.2.2],.agg [.sl (.sl AA) x0.1.1,.sl AA x0.1.2,.sl (.sl AA) x0.2.1,.sl AA x0.2.2]],.agg [.sl (.sl AA) Ak,.sl AA Aj,.sl (.sl AA) CD,.sl AA Bq],fun _=>⟨rfl,⟨⟨⟨rfl,rfl⟩,rfl⟩,t4,t4,trivial⟩⟩,fun _=>AP hE (c505),?_⟩)));try conv=>cbv
     refine⟨x2,fun _=>⟨by omega,hx2⟩,?_⟩;try conv=>cbv
     refine⟨x0,fun _=>⟨by omega,hx0⟩,?_⟩;try conv=>cbv
     refine .inr (.inr (.inr (.inl ⟨67,.var 1 [.int .i64 0],[.one (.AD 0 0 0),.agg [.sl (.sl AA) x2.1.1,.sl AA x2.1.2,.sl (.sl AA) x2.2.1,.sl AA x2.2.2],.agg [.sl (.sl AA) x0.1.1,.sl AA x0.1.2,.sl (.sl AA) x0.2.1,.sl AA x0.2.2]],.agg [.sl (.sl AA) T509,.sl AA A509,.sl (.sl AA) T510,.sl AA A510],fun _=>⟨rfl,⟨⟨⟨rfl,rfl⟩,rfl⟩,t4,t4,trivial⟩⟩,fun _=>AP hE (c508),?_⟩)));try conv=>cbv
     refine⟨fun _=>Aq (by kernel_rfl),?_⟩;refine .inr (.inr (.inr (.inl ⟨67,.var 1 [.int .i64 0],[.one (.AD 0 0 0),.agg [.sl (.sl AA) Ak,.sl AA Aj,.sl (.sl AA) CD,.sl AA Bq],.agg [.sl (.sl AA) T509,.sl AA A509,.sl (.sl AA) T510,.sl AA A510]],.agg [.sl (.sl AA) T514,.sl AA A514],fun _=>⟨rfl,⟨⟨⟨rfl,rfl⟩,rfl⟩,t4,t4,trivial⟩⟩,fun _=>AP hE (c513),?_⟩)));try conv=>cbv
     refine .inr (.inr (.inr (.inl ⟨67,.var 1 [.int .i64 0],[.one (.AD 0 0 0),.agg [.sl (.sl AA) Ak,.sl AA Aj,.sl (.sl AA) CD,.sl AA Bq]],.agg [.sl (.sl AA) T512,.sl AA A512],fun _=>⟨rfl,⟨⟨⟨rfl,rfl⟩,rfl⟩,t4,trivial⟩⟩,fun _=>AP hE (c511),?_⟩)));try conv=>cbv
     refine .inr (.inr (.inr (.inl ⟨67,.var 1 [.int .i64 0],[.one (.AD 0 0 0),.agg [.sl (.sl AA) T514,.sl AA A514],.agg [.sl (.sl AA) T512,.sl AA A512]],.agg [.sl (.sl AA) T516,.sl AA A516],fun _=>⟨rfl,⟨⟨⟨rfl,rfl⟩,rfl⟩,t2,t2,trivial⟩⟩,fun _=>AP hE (c515),?_⟩)));try conv=>cbv
     refine .inr (.inr (.inr (.inl ⟨67,.var 1 [.int .i64 0],[.one (.AD 0 0 0),.agg [.sl (.sl AA) Ak,.sl AA Aj,.sl (.sl AA) CD,.sl AA Bq],.agg [.sl (.sl AA) T516,.sl AA A516]],.agg [.sl (.sl AA) T518,.sl AA A518,.sl (.sl AA) T519,.sl AA A519],fun _=>⟨rfl,⟨⟨⟨rfl,rfl⟩,rfl⟩,t4,t2,trivial⟩⟩,fun _=>AP hE (c517),?_⟩)));try conv=>cbv
     refine⟨fun _=>Aq (by kernel_rfl),?_⟩;refine⟨x0,fun _=>⟨by omega,hx0⟩,?_⟩;try conv=>cbv
     refine cL hE (D6 (by decide) hA520) t1 ?_;try conv=>cbv
     refine .inr (.inr (.inr (.inl ⟨67,.var 1 [.int .i64 0],[.one (.AD 0 0 0),.agg [.sl (.sl AA) T518,.sl AA A518,.sl (.sl AA) T519,.sl AA A519],.agg [.sl (.sl AA) (([]:List LR)),.sl AA A520]],.agg [.sl (.sl AA) T522,.sl AA A522,.sl (.sl AA) T523,.sl AA A523],fun _=>⟨rfl,⟨⟨⟨rfl,rfl⟩,rfl⟩,t4,t2,trivial⟩⟩,fun _=>AP hE (c521),?_⟩)));try conv=>cbv
     refine .inr (.inr (.inr (.inl ⟨67,.var 1 [.int .i64 0],[.one (.AD 0 0 0),.agg [.sl (.sl AA) T522,.sl AA A522,.sl (.sl AA) T523,.sl AA A523],.agg [.sl (.sl AA) T509,.sl AA A509,.sl (.sl AA) T510,.sl AA A510]],.agg [.sl (.sl AA) T525,.sl AA A525,.sl (.sl AA) T526,.sl AA A526],fun _=>⟨rfl,⟨⟨⟨rfl,rfl⟩,rfl⟩,t4,t4,trivial⟩⟩,fun _=>AP hE (c524),?_⟩)));try conv=>cbv
     refine .inr (.inr (.inr (.inl ⟨67,.var 1 [.int .i64 0],[.one (.AD 0 0 0),.agg [.sl (.sl AA) x0.1.1,.sl AA x0.1.2,.sl (.sl AA) x0.2.1,.sl AA x0.2.2],.agg [.sl (.sl AA) T525,.sl AA A525,.sl (.sl AA) T526,.sl AA A526]],.agg [.sl (.sl AA) T528,.sl AA A528,.sl (.sl AA) T529,.sl AA A529],fun _=>⟨rfl,⟨⟨⟨rfl,rfl⟩,rfl⟩,t4,t4,trivial⟩⟩,fun _=>AP hE (c527),?_⟩)));try conv=>cbv
     refine⟨fun _=>Aq (by kernel_rfl),?_⟩;refine⟨x2,fun _=>⟨by omega,hx2⟩,?_⟩;try conv=>cbv
     refine⟨[((x2.1.1,x2.1.2),(x2.2.1,x2.2.2)),((T528,A528),(T529,A529))],fun _=>⟨rfl,by decide,rfl,⟨rfl,by first | exact t1 | exact t2 | exact t4 | simp[Aw,BF,cells],⟨rfl,by first | exact t1 | exact t2 | exact t4 | simp[Aw,BF,cells],trivial⟩⟩⟩,.inr ?_⟩;try conv=>cbv
     rintro n113 ⟨e113,f113⟩;conv=>cbv
     have g113:n113=2:=e113;refine⟨fun _=>Aq (by kernel_rfl),?_⟩;refine .inr ?_;obtain⟨J0,hJ0⟩:=xJ fun vs bl k=>∃(k':Nat) (i:Int),vs=[.one (.AD 5 0 0),.one (.AD 9 0 0),.one (.AD 67 0 0),.one (.sl CP [((x2.1.1,x2.1.2),(x2.2.1,x2.2.2)),((T528,A528),(T529,A529))]),.one (.int .i64 n113),.one (.int .i64 i)]/\bl=[.var 0 [.sl (.sl AA) Tc1,.sl AA Ac1,.sl (.sl AA) Tc2,.sl AA Ac2,.sl (.sl AA) Tc3,.sl AA Ac3],.var 0 [.sl (.sl AA) AI,.sl AA AJ,.sl (.sl AA) AQ,.sl AA AO,.sl (.sl AA) Aa,.sl AA AZ],.var 0 [.int .i64 0]]/\(AS i k'/\k'<=2)/\k=2-k'
     refine⟨[5,9,11,112,113,114],[5,9,67],J0,⟨2-0,by rw[hJ0];exact⟨0,0,rfl,rfl,⟨BC 0,Nat.zero_le _⟩,rfl⟩⟩,?_⟩;intro vs bl kk0 hj;rw[hJ0] at hj;obtain⟨k',i,rfl,rfl,⟨hi,hiL⟩,hk0⟩:=hj;conv=>cbv
     have ei:=hi.eq;intro n115 h115;conv=>cbv
     cases n115 <;> conv=>cbv
     ·have k115:=Ad h115;exact fA ⟨t2,trivial⟩ rfl (by simp)
     have k115:=Ae h115;refine .inr ?_;obtain⟨x116,hx116⟩:=AG (l:=[((x2.1.1,x2.1.2),(x2.2.1,x2.2.2)),((T528,A528),(T529,A529))]) (i:=k') (by show k'<2;omega);refine⟨x116,fun _=>⟨by omega,by rw[show (i).toNat=k' by omega];exact hx116⟩,?_⟩;try conv=>cbv
     obtain⟨X,Y,hq,hq1,hq2⟩:=hP _ (List.mem_of_getElem? hx116);obtain⟨T531,A531,h531,c530⟩:=Gq F h502 hq.x (by omega);obtain⟨T533,A533,h533,c532⟩:=Gq F h503 hq.y (by omega);obtain⟨T535,A535,h535,c534⟩:=U9 F h531 h533 (by omega);obtain⟨b536,hb536,c536,e536⟩:=EM F h535 h504 (by omega) (by omega);obtain rfl:b536=true:=hb536.2 hq1;have hcs:=Ns F hvc hsc hq (sn:=0) (Dv.2 hq2).symm (by omega);refine .inr (.inr (.inr (.inl ⟨67,.var 0 [.int .i64 0],[.one (.AD 0 0 0),.agg [.sl (.sl AA) AI,.sl AA AJ],.agg [.sl (.sl AA) x116.1.1,.sl AA x116.1.2]],.agg [.sl (.sl AA) T531,.sl AA A531],fun _=>⟨rfl,⟨⟨⟨rfl,rfl⟩,rfl⟩,t2,t2,trivial⟩⟩,fun _=>AP hE (c530),?_⟩)));try conv=>cbv
     refine .inr (.inr (.inr (.inl ⟨67,.var 0 [.int .i64 0],[.one (.AD 0 0 0),.agg [.sl (.sl AA) AQ,.sl AA AO],.agg [.sl (.sl AA) x116.2.1,.sl AA x116.2.2]],.agg [.sl (.sl AA) T533,.sl AA A533],fun _=>⟨rfl,⟨⟨⟨rfl,rfl⟩,rfl⟩,t2,t2,trivial⟩⟩,fun _=>AP hE (c532),?_⟩)));try conv=>cbv
     refine .inr (.inr (.inr (.inl ⟨67,.var 0 [.int .i64 0],[.one (.AD 0 0 0),.agg [.sl (.sl AA) T531,.sl AA A531],.agg [.sl (.sl AA) T533,.sl AA A533]],.agg [.sl (.sl AA) T535,.sl AA A535],fun _=>⟨rfl,⟨⟨⟨rfl,rfl⟩,rfl⟩,t2,t2,trivial⟩⟩,fun _=>AP hE (c534),?_⟩)));try conv=>cbv
     refine⟨fun _=>Aq (by kernel_rfl),?_⟩;intro n136 h136;cases h136.trans (show _=false by decide);conv=>cbv
     refine cL hE e536 ⟨t2,t2,trivial⟩ ?_;try conv=>cbv
     intro n142 h142;cases h142.trans (rfl:_=false);conv=>cbv
     refine cL hE hcs ⟨⟨rfl,rfl,rfl,rfl,rfl,rfl,trivial⟩,t4,trivial⟩ ?_;try conv=>cbv
     intro n151 h151;cases h151.trans (show _=false by decide);conv=>cbv
     intro n154 h154;cases h154.trans (show _=false by decide);conv=>cbv
     intro n156 h156;conv=>cbv
     refine g1 (by omega) ?_;have g113:n113=2:=e113;refine⟨2-(k'+1),?_,?_⟩
     ·omega
     rw[hJ0];exact⟨k'+1,_,rfl,rfl,⟨⟨by omega⟩,by omega⟩,rfl⟩
    exact fA ⟨t2,trivial⟩ rfl (by simp)
   have k47:=CK h47;refine⟨fun _=>Aq (by kernel_rfl),?_⟩;exact fA ⟨t2,trivial⟩ rfl (by simp)
  have k44:=CK h44;refine⟨fun _=>Aq (by kernel_rfl),?_⟩;exact fA ⟨t2,trivial⟩ rfl (by simp)
 have k30:=CK h30;refine cL hE FF trivial ?_;try conv=>cbv
 exact fA ⟨t2,trivial⟩ rfl (by simp)
end Go.Abs
