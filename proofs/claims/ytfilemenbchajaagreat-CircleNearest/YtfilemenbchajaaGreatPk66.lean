/- Part 67 of a proof. Conditions: each theorem's own. -/
import Derived.Test.YtfilemenbchajaaGreatPk65
import Derived.Test.YtfilemenbchajaaGreatPk64
set_option linter.all false
set_option maxHeartbeats 8000000
set_option maxRecDepth 20000
open Go.Proofs



namespace Go.Abs
open Go.RowKit
abbrev N1 (TT:List (List Rat)->Prop) (w:List (List Rat)):Prop:=Fm TT w D0 47000000 40 690 47 23
variable {P:List (List Rat)->Prop} {V:List Re} {n:Re}
theorem Pl.f9 {w:List (List Rat)} (L:Pl P V w) (a:El w G2 n) (b:0<=n):N1 (Tf (P4 P n)) (Ax w n):=by
 have J:=fr L.I L.hV L.h3 L.hw L.ha a b;have f:Ab (Ax w n):=PJ (L.hw.red L.I) a.mem b;have M:=et L.I L.hV L.h3 L.hw a b;refine⟨fun {S} g h=>k5 L.I L.hV L.h3 L.hw L.ha a b g (Nat.le_trans h (by decide)),L.hw.jX L.I a.mem,fun {u} hu=>jD f (hu.red J) (fun v j=>(Tf.all J (fun i=>fb L.I L.hV L.h3 L.hw L.ha a b i) hu v j).root),by decide,by decide,fun {x y s t} c d=>⟨Ar f c.mem d.mem,(M.bd c.mem d.mem c.bd d.bd).mono (by show s+t+46321590<=s+t+47000000;omega)⟩,fun c d e=>(k8 L.I L.hV L.h3 L.hw a b c d e).mono (by omega),fun {u} hu=>?_⟩;exact Nat.le_trans (Kr (hu.T0 L.I L.hV L.h3 J) (Nat.le_refl _) (Nat.le_refl _)) k7
theorem lX {w0:List (List Rat)} (L:Pl P V w0) {k:Nat} {T:List LR} {A:LR} (i:Nm (Tf P) w0 11500 k T A n) (c:k<=4026) (d:0<n):∃TT w,N1 TT w/\Up (Tf P) w0 1950000 24 TT w 47000000/\Rt (Tf P) w0 11500 4026 TT w 47000000 1 n:=by
 obtain⟨_,_,_,_,_,he⟩:=i;have b:El w0 G2 n:=he.mono (by show k*11500<=46300000;omega);have a:(0:Re)<=n:=by grind
 refine⟨_,_,L.f9 b a,⟨fun c h=>L.lift b.mem a h (by omega)⟩,⟨fun {k T1 A1} c ha=>?_⟩⟩;have g:=L.lift b.mem a (b':=47000000) (k':=1) ha (by omega);obtain⟨u,hu,f,_,j,_⟩:=ha;refine cU (L.f9 b a) g (by decide) (fun l _ e _=>?_) a ?_ (by decide)
 ·rw[<-Mw (f.symm.trans e)];exact hu.jX L.I j
 have W:=hF L.I L.hV L.h3 L.hw b d;exact⟨W.root,W.rb.mono (by decide)⟩
end Go.Abs
namespace Go.Abs
open Go.RowKit
variable {A1 A2 AK AJ AO AZ Ah Av:LR} {T1 T2 AL AI AQ Aa Ai Tv:List LR} {TT Gy:List (List Rat)->Prop} {d s t v va vb vn vs x xa xb xo y ya yb yo:Re} {ka kb kn ko ks:Nat} {w w0:List (List Rat)}
theorem kd (h:0<s) (f:0<d):0<s*As d:=by
 have a:d*As d=1:=Cy (by grind)
 have g:0<As d:=by
  rcases EP (As d) with⟨b,_⟩ |⟨b,_⟩ |⟨b,_⟩
  ·have c:=Re.mul_pos f (show 0< -As d by grind);rw[show d* -As d= -(d*As d) by grind,a] at c
   grind
  ·rw[b] at a;grind
  exact b
 exact Re.mul_pos h g
theorem gr {b b' k l:Nat} (h:Nm TT w b k T1 A1 x) (c:Nm TT w b' l T2 A2 x):Nm TT w b' l T1 A1 x:=by
 obtain⟨u,a,g,f,i,_⟩:=h;obtain⟨_,_,_,_,_,d⟩:=c;exact⟨u,a,g,f,i,d⟩
theorem lW {n:Re} (h:t*t=n) (e:(x*x+y*y)*n=s):x*t*(x*t)+y*t*(y*t)=s:=by rw[<-e,<-h];grind
theorem lU (h:d≠0):d*(s*As d)=s:=by
 have a:d*As d=1:=Cy h;have:d*(s*As d)=s*(d*As d):=by grind
 rw[this,a];grind
theorem lV (h:0<x*x+y*y) (ht:0<t):0<x*t*x+y*t*y:=by
 have:=Re.mul_pos h ht;rw[show x*t*x+y*t*y=(x*x+y*y)*t by grind];exact this
theorem j3 (F:Fd TT w) (c:Vm TT w 1950000 ko ko AL AK AI AJ xo yo) (f:Nm TT w 1950000 ks AQ AO vs) (ha:Vm TT w 1950000 ka ka Aa AZ Ai Ah xa ya) (a:xo=xa/\yo=ya) (d:2*ka+2*ko+443<=80000):CF 18 [.agg [.sl (.sl AA) AL,.sl AA AK,.sl (.sl AA) AI,.sl AA AJ,.sl (.sl AA) AQ,.sl AA AO],.agg [.sl (.sl AA) Aa,.sl AA AZ,.sl (.sl AA) Ai,.sl AA Ah]] (.AE [(true,[.sl (.sl AA) (([]:List LR)),.sl AA (([]:LR)),.sl (.sl AA) (([]:List LR)),.sl AA (([]:LR))]),(false,[.int .i64 11])]):=by
 refine BP Tryz.func18 (by kernel_rfl) rfl fun E b=>?_
 conv=>cbv
 refine cL b (IH F c ha (by omega) (by omega) (by omega) (by omega) (e:=true) ⟨fun _=>a,fun _=>rfl⟩) ⟨t4,t4,trivial⟩ ?_;try conv=>cbv
 exact fA ⟨⟨rfl,.inr (.inl ⟨_,rfl⟩),.inr (.inl ⟨_,rfl⟩),.inr (.inl ⟨_,rfl⟩),.inr (.inl ⟨_,rfl⟩),trivial⟩,t2,trivial⟩ rfl (by simp)
theorem lj (F:Fd TT w) (c:Vm TT w 1950000 ko ko AL AK AI AJ xo yo) (f:Nm TT w 1950000 ks AQ AO vs) (ha:Vm TT w 1950000 ka ka Aa AZ Ai Ah xa ya) (a:xo=xa/\yo=ya) (d:2*ka+2*ko+443<=80000):CF 19 [.agg [.sl (.sl AA) AL,.sl AA AK,.sl (.sl AA) AI,.sl AA AJ,.sl (.sl AA) AQ,.sl AA AO],.agg [.sl (.sl AA) Aa,.sl AA AZ,.sl (.sl AA) Ai,.sl AA Ah]] (.AE [(true,[.sl (.sl AA) (([]:List LR)),.sl AA (([]:LR)),.sl (.sl AA) (([]:List LR)),.sl AA (([]:LR))]),(false,[.int .i64 11])]):=by
 refine BP Tryz.func19 (by kernel_rfl) rfl fun E b=>?_
 conv=>cbv
 refine cL b (EU F c ha (by omega) (by omega) (by omega) (by omega) (e:=true) ⟨fun _=>a,fun _=>rfl⟩) ⟨t4,t4,trivial⟩ ?_;try conv=>cbv
 exact fA ⟨⟨rfl,.inr (.inl ⟨_,rfl⟩),.inr (.inl ⟨_,rfl⟩),.inr (.inl ⟨_,rfl⟩),.inr (.inl ⟨_,rfl⟩),trivial⟩,t2,trivial⟩ rfl (by simp)
theorem ll (h:CF 79 [.agg [.sl (.sl AA) T1,.sl AA A1]] (.AE [(true,[.sl (.sl AA) T2,.sl AA A2]),(false,[.int .i64 0])])):BW Tryz.prog 91 [.one (.AD 0 0 0),.agg [.sl (.sl AA) T1,.sl AA A1]] (.var 0 [.int .i64 0]) (.agg [.sl (.sl AA) T2,.sl AA A2]):=by
 refine Bn Tryz.func91 (by kernel_rfl) rfl fun E a=>?_
 conv=>cbv
 refine cL a h ⟨t2,trivial⟩ ?_;try conv=>cbv
 refine .inr (.inr (.inr (.inl ⟨0,.var 0 [.int .i64 0],[.one (.AD 0 0 0),.agg [.sl (.sl AA) T2,.sl AA A2],.one (.int .i64 0)],.agg [.sl (.sl AA) T2,.sl AA A2],fun _=>⟨rfl,⟨⟨⟨rfl,rfl⟩,rfl⟩,t2,rfl,trivial⟩⟩,fun _=>AP a (IB),?_⟩)));try conv=>cbv
 refine fun _=>⟨⟨⟨t3,trivial⟩,rfl,by simp⟩,rfl⟩
theorem fc (F:N1 TT w) (ha:Nm TT w 47000000 ka AL AK va) (hb:Nm TT w 47000000 kb AI AJ vb) (h:ka+kb+41<=690):∃d c,Nm TT w 47000000 (ka+kb+1) d c (va+vb)/\BW Tryz.prog 162 [.one (.AD 0 0 0),.agg [.sl (.sl AA) AL,.sl AA AK],.agg [.sl (.sl AA) AI,.sl AA AJ]] (.var 0 [.int .i64 0]) (.agg [.sl (.sl AA) d,.sl AA c]):=by
 obtain⟨AQ,AO,b,a,f⟩:=GH F ha hb (by omega) (by omega);refine⟨AQ,AO,b.mono (by omega),?_⟩;refine Bn Tryz.func162 (by kernel_rfl) rfl fun E g=>?_
 conv=>cbv
 refine .inr (.inr (.inr (.inl ⟨0,.var 0 [.int .i64 0],[.one (.AD 0 0 0),.one (.fn 207),.agg [.sl (.sl AA) AL,.sl AA AK],.agg [.sl (.sl AA) AI,.sl AA AJ]],.agg [.sl (.sl AA) AQ,.sl AA AO],fun _=>⟨rfl,⟨⟨⟨rfl,rfl⟩,rfl⟩,rfl,t2,t2,trivial⟩⟩,fun _=>AP g (LX a),?_⟩)));try conv=>cbv
 refine fun _=>⟨⟨⟨t3,trivial⟩,rfl,by simp⟩,rfl⟩
theorem fm (F:N1 TT w) (ha:Nm TT w 47000000 ka AL AK va) (hb:Nm TT w 47000000 kb AI AJ vb) (h:ka+kb+41<=690):∃d c,Nm TT w 47000000 (ka+kb+1) d c (va*vb)/\BW Tryz.prog 173 [.one (.AD 0 0 0),.agg [.sl (.sl AA) AL,.sl AA AK],.agg [.sl (.sl AA) AI,.sl AA AJ]] (.var 0 [.int .i64 0]) (.agg [.sl (.sl AA) d,.sl AA c]):=by
 obtain⟨AQ,AO,b,a,f⟩:=EN F ha hb (by omega) (by omega);refine⟨AQ,AO,b.mono (by omega),?_⟩;refine Bn Tryz.func173 (by kernel_rfl) rfl fun E g=>?_
 conv=>cbv
 refine .inr (.inr (.inr (.inl ⟨0,.var 0 [.int .i64 0],[.one (.AD 0 0 0),.one (.fn 205),.agg [.sl (.sl AA) AL,.sl AA AK],.agg [.sl (.sl AA) AI,.sl AA AJ]],.agg [.sl (.sl AA) AQ,.sl AA AO],fun _=>⟨rfl,⟨⟨⟨rfl,rfl⟩,rfl⟩,rfl,t2,t2,trivial⟩⟩,fun _=>AP g (LX a),?_⟩)));try conv=>cbv
 refine fun _=>⟨⟨⟨t3,trivial⟩,rfl,by simp⟩,rfl⟩
theorem im (F:N1 TT w) (ha:Vm TT w 47000000 ka ka AL AK AI AJ xa ya) (hb:Vm TT w 47000000 kb kb AQ AO Aa AZ xb yb) (l:ka+kb+41<=690):∃j i b a,Vm TT w 47000000 (ka+kb+1) (ka+kb+1) j i b a (xa+xb) (ya+yb)/\BW Tryz.prog 88 [.one (.AD 0 0 0),.agg [.sl (.sl AA) AL,.sl AA AK,.sl (.sl AA) AI,.sl AA AJ],.agg [.sl (.sl AA) AQ,.sl AA AO,.sl (.sl AA) Aa,.sl AA AZ]] (.var 0 [.int .i64 0]) (.agg [.sl (.sl AA) j,.sl AA i,.sl (.sl AA) b,.sl AA a]):=by
 obtain⟨Ak,Aj,f,c⟩:=fc F ha.x hb.x (by omega);obtain⟨BA,Ay,g,d⟩:=fc F ha.y hb.y (by omega);have h:Vm _ w 47000000 (ka+kb+1) (ka+kb+1) Ak Aj BA Ay _ _:=⟨f.mono (by omega),g.mono (by omega)⟩;refine⟨Ak,Aj,BA,Ay,h.mono (by omega) (by omega),?_⟩;refine Bn Tryz.func88 (by kernel_rfl) rfl fun E k=>?_
 conv=>cbv
 refine .inr (.inr (.inr (.inl ⟨0,.var 0 [.int .i64 0],[.one (.AD 0 0 0),.agg [.sl (.sl AA) AL,.sl AA AK],.agg [.sl (.sl AA) AQ,.sl AA AO]],.agg [.sl (.sl AA) Ak,.sl AA Aj],fun _=>⟨rfl,⟨⟨⟨rfl,rfl⟩,rfl⟩,t2,t2,trivial⟩⟩,fun _=>AP k (c),?_⟩)));try conv=>cbv
 refine .inr (.inr (.inr (.inl ⟨0,.var 0 [.int .i64 0],[.one (.AD 0 0 0),.agg [.sl (.sl AA) AI,.sl AA AJ],.agg [.sl (.sl AA) Aa,.sl AA AZ]],.agg [.sl (.sl AA) BA,.sl AA Ay],fun _=>⟨rfl,⟨⟨⟨rfl,rfl⟩,rfl⟩,t2,t2,trivial⟩⟩,fun _=>AP k (d),?_⟩)));try conv=>cbv
 refine⟨fun _=>Aq (by kernel_rfl),?_⟩;refine fun _=>⟨⟨⟨⟨rfl,rfl,rfl,rfl,rfl,trivial⟩,trivial⟩,rfl,by simp⟩,rfl⟩
theorem jr (F:N1 TT w) (ha:Vm TT w 47000000 ka ka AL AK AI AJ xa ya) (l:Nm TT w 47000000 kn AQ AO vn) (m:ka+kn+41<=690):∃j i b a,Vm TT w 47000000 (ka+kn+1) (ka+kn+1) j i b a (xa*vn) (ya*vn)/\BW Tryz.prog 89 [.one (.AD 0 0 0),.agg [.sl (.sl AA) AL,.sl AA AK,.sl (.sl AA) AI,.sl AA AJ],.agg [.sl (.sl AA) AQ,.sl AA AO]] (.var 0 [.int .i64 0]) (.agg [.sl (.sl AA) j,.sl AA i,.sl (.sl AA) b,.sl AA a]):=by
 obtain⟨Ai,Ah,f,c⟩:=fm F ha.x l (by omega);obtain⟨CD,Bq,g,d⟩:=fm F ha.y l (by omega);have h:Vm _ w 47000000 (ka+kn+1) (ka+kn+1) Ai Ah CD Bq _ _:=⟨f.mono (by omega),g.mono (by omega)⟩;refine⟨Ai,Ah,CD,Bq,h.mono (by omega) (by omega),?_⟩;refine Bn Tryz.func89 (by kernel_rfl) rfl fun E k=>?_
 conv=>cbv
 refine .inr (.inr (.inr (.inl ⟨0,.var 0 [.int .i64 0],[.one (.AD 0 0 0),.agg [.sl (.sl AA) AL,.sl AA AK],.agg [.sl (.sl AA) AQ,.sl AA AO]],.agg [.sl (.sl AA) Ai,.sl AA Ah],fun _=>⟨rfl,⟨⟨⟨rfl,rfl⟩,rfl⟩,t2,t2,trivial⟩⟩,fun _=>AP k (c),?_⟩)));try conv=>cbv
 refine .inr (.inr (.inr (.inl ⟨0,.var 0 [.int .i64 0],[.one (.AD 0 0 0),.agg [.sl (.sl AA) AI,.sl AA AJ],.agg [.sl (.sl AA) AQ,.sl AA AO]],.agg [.sl (.sl AA) CD,.sl AA Bq],fun _=>⟨rfl,⟨⟨⟨rfl,rfl⟩,rfl⟩,t2,t2,trivial⟩⟩,fun _=>AP k (d),?_⟩)));try conv=>cbv
 refine⟨fun _=>Aq (by kernel_rfl),?_⟩;refine fun _=>⟨⟨⟨⟨rfl,rfl,rfl,rfl,rfl,trivial⟩,trivial⟩,rfl,by simp⟩,rfl⟩
theorem la (F:N1 TT w) (ha:Vm TT w 47000000 ka ka AL AK AI AJ xa ya) (hb:Vm TT w 47000000 kb kb AQ AO Aa AZ xb yb) (i:ka+kb+41<=690):∃g f b a,Vm TT w 47000000 (ka+kb+1) (ka+kb+1) g f b a (xa+xb) (ya+yb)/\BW Tryz.prog 73 [.one (.AD 0 0 0),.agg [.sl (.sl AA) AL,.sl AA AK,.sl (.sl AA) AI,.sl AA AJ],.agg [.sl (.sl AA) AQ,.sl AA AO,.sl (.sl AA) Aa,.sl AA AZ]] (.var 0 [.int .i64 0]) (.agg [.sl (.sl AA) g,.sl AA f,.sl (.sl AA) b,.sl AA a]):=by
 obtain⟨Ai,Ah,Ak,Aj,d,c⟩:=M6 F ha hb (by omega) (by omega) (by omega) (by omega);refine⟨Ai,Ah,Ak,Aj,d.mono (by omega) (by omega),?_⟩;refine Bn Tryz.func73 (by kernel_rfl) rfl fun E h=>?_
 conv=>cbv
 refine cL h c ⟨t4,t4,trivial⟩ ?_;try conv=>cbv
 refine .inr (.inr (.inr (.inl ⟨0,.var 0 [.int .i64 0],[.one (.AD 0 0 0),.agg [.sl (.sl AA) Ai,.sl AA Ah,.sl (.sl AA) Ak,.sl AA Aj],.one (.int .i64 0)],.agg [.sl (.sl AA) Ai,.sl AA Ah,.sl (.sl AA) Ak,.sl AA Aj],fun _=>⟨rfl,⟨⟨⟨rfl,rfl⟩,rfl⟩,t4,rfl,trivial⟩⟩,fun _=>AP h (PW),?_⟩)));try conv=>cbv
 refine fun _=>⟨⟨⟨⟨rfl,rfl,rfl,rfl,rfl,trivial⟩,trivial⟩,rfl,by simp⟩,rfl⟩
theorem gw (F:N1 TT w) (ha:Vm TT w 47000000 ka ka AL AK AI AJ xa ya) (hb:Vm TT w 47000000 kb kb AQ AO Aa AZ xb yb) (j:ka+kb+41<=690):∃h g b a,Vm TT w 47000000 (ka+kb+1) (ka+kb+1) h g b a (xa-xb) (ya-yb)/\BW Tryz.prog 20 [.one (.AD 0 0 0),.agg [.sl (.sl AA) AL,.sl AA AK,.sl (.sl AA) AI,.sl AA AJ],.agg [.sl (.sl AA) AQ,.sl AA AO,.sl (.sl AA) Aa,.sl AA AZ]] (.var 0 [.int .i64 0]) (.agg [.sl (.sl AA) h,.sl AA g,.sl (.sl AA) b,.sl AA a]):=by
 obtain⟨Ai,Ah,Ak,Aj,d,c⟩:=Wk F ha hb (by omega) (by omega) (by omega) (by omega);have f:=d.cast (x':=xa-xb) (y':=ya-yb) (by grind) (by grind);refine⟨Ai,Ah,Ak,Aj,f.mono (by omega) (by omega),?_⟩;refine Bn Tryz.func20 (by kernel_rfl) rfl fun E i=>?_
 conv=>cbv
 refine cL i c ⟨t4,t4,trivial⟩ ?_;try conv=>cbv
 refine .inr (.inr (.inr (.inl ⟨0,.var 0 [.int .i64 0],[.one (.AD 0 0 0),.agg [.sl (.sl AA) Ai,.sl AA Ah,.sl (.sl AA) Ak,.sl AA Aj],.one (.int .i64 0)],.agg [.sl (.sl AA) Ai,.sl AA Ah,.sl (.sl AA) Ak,.sl AA Aj],fun _=>⟨rfl,⟨⟨⟨rfl,rfl⟩,rfl⟩,t4,rfl,trivial⟩⟩,fun _=>AP i (PW),?_⟩)));try conv=>cbv
 refine fun _=>⟨⟨⟨⟨rfl,rfl,rfl,rfl,rfl,trivial⟩,trivial⟩,rfl,by simp⟩,rfl⟩
theorem lf (F:N1 TT w) (ha:Vm TT w 47000000 ka ka AL AK AI AJ xa ya) (i:Nm TT w 47000000 kn AQ AO vn) (j:ka+kn+41<=690):∃g f b a,Vm TT w 47000000 (ka+kn+1) (ka+kn+1) g f b a (xa*vn) (ya*vn)/\BW Tryz.prog 72 [.one (.AD 0 0 0),.agg [.sl (.sl AA) AL,.sl AA AK,.sl (.sl AA) AI,.sl AA AJ],.agg [.sl (.sl AA) AQ,.sl AA AO]] (.var 0 [.int .i64 0]) (.agg [.sl (.sl AA) g,.sl AA f,.sl (.sl AA) b,.sl AA a]):=by
 obtain⟨Aa,AZ,Ai,Ah,d,c⟩:=M7 F ha i (by omega) (by omega) (by omega);refine⟨Aa,AZ,Ai,Ah,d.mono (by omega) (by omega),?_⟩;refine Bn Tryz.func72 (by kernel_rfl) rfl fun E h=>?_
 conv=>cbv
 refine cL h c ⟨t4,t2,trivial⟩ ?_;try conv=>cbv
 refine .inr (.inr (.inr (.inl ⟨0,.var 0 [.int .i64 0],[.one (.AD 0 0 0),.agg [.sl (.sl AA) Aa,.sl AA AZ,.sl (.sl AA) Ai,.sl AA Ah],.one (.int .i64 0)],.agg [.sl (.sl AA) Aa,.sl AA AZ,.sl (.sl AA) Ai,.sl AA Ah],fun _=>⟨rfl,⟨⟨⟨rfl,rfl⟩,rfl⟩,t4,rfl,trivial⟩⟩,fun _=>AP h (PW),?_⟩)));try conv=>cbv
 refine fun _=>⟨⟨⟨⟨rfl,rfl,rfl,rfl,rfl,trivial⟩,trivial⟩,rfl,by simp⟩,rfl⟩
theorem lZ (F:N1 TT w) (ha:Vm TT w 47000000 ka ka AL AK AI AJ xa ya) (hb:Vm TT w 47000000 kb kb AQ AO Aa AZ xb yb) (g:ka+kb+42<=690):∃d c,Nm TT w 47000000 (2*ka+2*kb+3) d c (xa*xb+ya*yb)/\BW Tryz.prog 26 [.one (.AD 0 0 0),.agg [.sl (.sl AA) AL,.sl AA AK,.sl (.sl AA) AI,.sl AA AJ],.agg [.sl (.sl AA) AQ,.sl AA AO,.sl (.sl AA) Aa,.sl AA AZ]] (.var 0 [.int .i64 0]) (.agg [.sl (.sl AA) d,.sl AA c]):=by
 obtain⟨Ai,Ah,b,a⟩:=IM F ha hb (by omega) (by omega);refine⟨Ai,Ah,b.mono (by omega),?_⟩;refine Bn Tryz.func26 (by kernel_rfl) rfl fun E f=>?_
 conv=>cbv
 refine cL f a ⟨t4,t4,trivial⟩ ?_;try conv=>cbv
 refine .inr (.inr (.inr (.inl ⟨0,.var 0 [.int .i64 0],[.one (.AD 0 0 0),.agg [.sl (.sl AA) Ai,.sl AA Ah],.one (.int .i64 0)],.agg [.sl (.sl AA) Ai,.sl AA Ah],fun _=>⟨rfl,⟨⟨⟨rfl,rfl⟩,rfl⟩,t2,rfl,trivial⟩⟩,fun _=>AP f (IB),?_⟩)));try conv=>cbv
 refine fun _=>⟨⟨⟨t3,trivial⟩,rfl,by simp⟩,rfl⟩
theorem lY (F:N1 TT w) (ha:Vm TT w 47000000 ka ka AL AK AI AJ xa ya) (hb:Vm TT w 47000000 kb kb AQ AO Aa AZ xb yb) (h:ka+kb+42<=690):∃f d,Nm TT w 47000000 (2*ka+2*kb+3) f d (xa*yb-ya*xb)/\BW Tryz.prog 25 [.one (.AD 0 0 0),.agg [.sl (.sl AA) AL,.sl AA AK,.sl (.sl AA) AI,.sl AA AJ],.agg [.sl (.sl AA) AQ,.sl AA AO,.sl (.sl AA) Aa,.sl AA AZ]] (.var 0 [.int .i64 0]) (.agg [.sl (.sl AA) f,.sl AA d]):=by
 obtain⟨Ai,Ah,b,a⟩:=QC F ha hb (by omega) (by omega);have c:=b.cast (y:=xa*yb-ya*xb) (by grind);refine⟨Ai,Ah,c.mono (by omega),?_⟩;refine Bn Tryz.func25 (by kernel_rfl) rfl fun E g=>?_
 conv=>cbv
 refine cL g a ⟨t4,t4,trivial⟩ ?_;try conv=>cbv
 refine .inr (.inr (.inr (.inl ⟨0,.var 0 [.int .i64 0],[.one (.AD 0 0 0),.agg [.sl (.sl AA) Ai,.sl AA Ah],.one (.int .i64 0)],.agg [.sl (.sl AA) Ai,.sl AA Ah],fun _=>⟨rfl,⟨⟨⟨rfl,rfl⟩,rfl⟩,t2,rfl,trivial⟩⟩,fun _=>AP g (IB),?_⟩)));try conv=>cbv
 refine fun _=>⟨⟨⟨t3,trivial⟩,rfl,by simp⟩,rfl⟩
theorem lg (F:N1 TT w) (ha:Vm TT w 47000000 ka ka AL AK AI AJ xa ya) (g:2*ka+42<=690):∃d c,Nm TT w 47000000 (4*ka+3) d c (xa*xa+ya*ya)/\BW Tryz.prog 23 [.one (.AD 0 0 0),.agg [.sl (.sl AA) AL,.sl AA AK,.sl (.sl AA) AI,.sl AA AJ]] (.var 0 [.int .i64 0]) (.agg [.sl (.sl AA) d,.sl AA c]):=by
 obtain⟨AQ,AO,b,a⟩:=Wj F ha (by omega) (by omega);refine⟨AQ,AO,b.mono (by omega),?_⟩;refine Bn Tryz.func23 (by kernel_rfl) rfl fun E f=>?_
 conv=>cbv
 refine cL f a ⟨t4,trivial⟩ ?_;try conv=>cbv
 refine .inr (.inr (.inr (.inl ⟨0,.var 0 [.int .i64 0],[.one (.AD 0 0 0),.agg [.sl (.sl AA) AQ,.sl AA AO],.one (.int .i64 0)],.agg [.sl (.sl AA) AQ,.sl AA AO],fun _=>⟨rfl,⟨⟨⟨rfl,rfl⟩,rfl⟩,t2,rfl,trivial⟩⟩,fun _=>AP f (IB),?_⟩)));try conv=>cbv
 refine fun _=>⟨⟨⟨t3,trivial⟩,rfl,by simp⟩,rfl⟩
theorem j1 (F:N1 TT w) (X:Vm TT w 47000000 ko ko AL AK AI AJ xo yo) (hs:Nm TT w 47000000 ks AQ AO vs) (ha:Vm TT w 47000000 ka ka Aa AZ Ai Ah xa ya) (I:Fd Gy w0) (O:Vm Gy w0 1950000 1 1 AL AK AI AJ xo yo) (S:Nm Gy w0 1950000 15 AQ AO vs) (L:Vm Gy w0 1950000 1 1 Aa AZ Ai Ah xa ya) (T:Nm Gy w0 11500 4026 Tv Av v) (hv:vs*As ((xa-xo)*(xa-xo)+(ya-yo)*(ya-yo))=v) (U:Up Gy w0 1950000 24 TT w 47000000) (hr:Rt Gy w0 11500 4026 TT w 47000000 1 v) (Z:¬(xo=xa/\yo=ya)) (hn:(xa-xo)*(xa-xo)+(ya-yo)*(ya-yo)≠0) (hM:2*ka+2*ko+163<=690):∃W V A p,Vm TT w 47000000 (ko+4) (ko+4) W V A p (xo+((xa-xo)*(Re.sqrt v))) (yo+((ya-yo)*(Re.sqrt v)))/\CF 18 [.agg [.sl (.sl AA) AL,.sl AA AK,.sl (.sl AA) AI,.sl AA AJ,.sl (.sl AA) AQ,.sl AA AO],.agg [.sl (.sl AA) Aa,.sl AA AZ,.sl (.sl AA) Ai,.sl AA Ah]] (.AE [(true,[.sl (.sl AA) W,.sl AA V,.sl (.sl AA) A,.sl AA p]),(false,[.int .i64 0])]):=by
 obtain⟨k,i,l,j,H,cw⟩:=Hq I L O (by omega);have hw:=U.v (by decide) (by decide) H;obtain⟨g,c,Q,cq⟩:=Hr I H (by omega);obtain⟨q,m,M,Y⟩:=Jq I S Q hn (by omega);have N:=gr (M.cast hv) T;obtain⟨u,o,R,cr,er⟩:=hr.get (by decide) N;obtain⟨CD,Bq,BA,Ay,D,B⟩:=jr F hw R (by omega);obtain⟨d,a,f,b,G,C⟩:=im F X D (by omega);refine⟨d,a,f,b,G.mono (by omega) (by omega),?_⟩;refine BP Tryz.func18 (by kernel_rfl) rfl fun E h=>?_
 conv=>cbv
 refine cL (r:= .one (.bool false)) h (IH F X ha (by omega) (by omega) (by omega) (by omega) (e:=false) ⟨fun z=>(by cases z),fun z=>absurd z Z⟩) ⟨t4,t4,trivial⟩ ?_;try conv=>cbv
 refine .inr (.inr (.inr (.inl ⟨18,.var 1 [.int .i64 0],[.one (.AD 0 0 0),.agg [.sl (.sl AA) Aa,.sl AA AZ,.sl (.sl AA) Ai,.sl AA Ah],.agg [.sl (.sl AA) AL,.sl AA AK,.sl (.sl AA) AI,.sl AA AJ]],.agg [.sl (.sl AA) k,.sl AA i,.sl (.sl AA) l,.sl AA j],fun _=>⟨rfl,⟨⟨⟨rfl,rfl⟩,rfl⟩,t4,t4,trivial⟩⟩,fun _=>AP h (cw),?_⟩)));try conv=>cbv
 refine .inr (.inr (.inr (.inl ⟨18,.var 1 [.int .i64 0],[.one (.AD 0 0 0),.agg [.sl (.sl AA) k,.sl AA i,.sl (.sl AA) l,.sl AA j]],.agg [.sl (.sl AA) g,.sl AA c],fun _=>⟨rfl,⟨⟨⟨rfl,rfl⟩,rfl⟩,t4,trivial⟩⟩,fun _=>AP h (cq),?_⟩)));try conv=>cbv
 refine .inr (.inr (.inr (.inl ⟨18,.var 1 [.int .i64 0],[.one (.AD 0 0 0),.agg [.sl (.sl AA) AQ,.sl AA AO],.agg [.sl (.sl AA) g,.sl AA c]],.agg [.sl (.sl AA) q,.sl AA m],fun _=>⟨rfl,⟨⟨⟨rfl,rfl⟩,rfl⟩,t2,t2,trivial⟩⟩,fun _=>AP h (Y),?_⟩)));try conv=>cbv
 refine⟨fun _=>Aq (by kernel_rfl),?_⟩;intro a1 J;cases J.trans (show _=false by decide);conv=>cbv
 refine cL h cr ⟨t2,trivial⟩ ?_;try conv=>cbv
 refine .inr (.inr (.inr (.inl ⟨18,.var 1 [.int .i64 0],[.one (.AD 0 0 0),.one (.int .i64 0)],.one (.bool true),fun _=>⟨rfl,⟨⟨⟨rfl,rfl⟩,rfl⟩,rfl,trivial⟩⟩,fun _=>AP h (R5),?_⟩)));try conv=>cbv
 refine .inr (.inr (.inr (.inl ⟨18,.var 1 [.int .i64 0],[.one (.AD 0 0 0),.agg [.sl (.sl AA) k,.sl AA i,.sl (.sl AA) l,.sl AA j],.agg [.sl (.sl AA) u,.sl AA o]],.agg [.sl (.sl AA) CD,.sl AA Bq,.sl (.sl AA) BA,.sl AA Ay],fun _=>⟨rfl,⟨⟨⟨rfl,rfl⟩,rfl⟩,t4,t2,trivial⟩⟩,fun _=>AP h (B),?_⟩)));try conv=>cbv
 refine .inr (.inr (.inr (.inl ⟨18,.var 1 [.int .i64 0],[.one (.AD 0 0 0),.agg [.sl (.sl AA) AL,.sl AA AK,.sl (.sl AA) AI,.sl AA AJ],.agg [.sl (.sl AA) CD,.sl AA Bq,.sl (.sl AA) BA,.sl AA Ay]],.agg [.sl (.sl AA) d,.sl AA a,.sl (.sl AA) f,.sl AA b],fun _=>⟨rfl,⟨⟨⟨rfl,rfl⟩,rfl⟩,t4,t4,trivial⟩⟩,fun _=>AP h (C),?_⟩)));try conv=>cbv
 refine⟨fun _=>Aq (by kernel_rfl),?_⟩;intro a2 K;cases K.trans (show _=false by decide);conv=>cbv
 exact fA ⟨⟨rfl,rfl,rfl,rfl,rfl,trivial⟩,t2,trivial⟩ rfl (by simp)
theorem lk:BW Tryz.prog 90 [.one (.AD 0 0 0),.agg [.sl (.sl AA) T1,.sl AA A1,.sl (.sl AA) T2,.sl AA A2]] (.var 0 [.int .i64 0]) (.AE [(true,[.sl (.sl AA) T1,.sl AA A1,.sl (.sl AA) T2,.sl AA A2]),(false,[.int .i64 0])]):=by
 refine Bn Tryz.func90 (by kernel_rfl) rfl fun E c=>?_
 conv=>cbv
 intro b a;cases a.trans (show _=false by decide);conv=>cbv
 refine fun _=>⟨⟨⟨⟨rfl,rfl,rfl,rfl,rfl,trivial⟩,t2,trivial⟩,rfl,by simp⟩,rfl⟩
theorem lh (F:N1 TT w) (V:Vm TT w 47000000 ko ko AL AK AI AJ xo yo) (hs:Nm TT w 47000000 ks AQ AO vs) (ha:Vm TT w 47000000 ka ka Aa AZ Ai Ah xa ya) (I:Fd Gy w0) (M:Vm Gy w0 1950000 1 1 AL AK AI AJ xo yo) (Q:Nm Gy w0 1950000 15 AQ AO vs) (J:Vm Gy w0 1950000 1 1 Aa AZ Ai Ah xa ya) (R:Nm Gy w0 11500 4026 Tv Av v) (hv:vs*As ((xa-xo)*(xa-xo)+(ya-yo)*(ya-yo))=v) (U:Up Gy w0 1950000 24 TT w 47000000) (hr:Rt Gy w0 11500 4026 TT w 47000000 1 v) (Y:¬(xo=xa/\yo=ya)) (Z:(xa-xo)*(xa-xo)+(ya-yo)*(ya-yo)≠0) (hM:2*ka+2*ko+163<=690):∃T S A u,Vm TT w 47000000 (ko+4) (ko+4) T S A u (xo+((xa-xo)*(Re.sqrt v))) (yo+((ya-yo)*(Re.sqrt v)))/\CF 19 [.agg [.sl (.sl AA) AL,.sl AA AK,.sl (.sl AA) AI,.sl AA AJ,.sl (.sl AA) AQ,.sl AA AO],.agg [.sl (.sl AA) Aa,.sl AA AZ,.sl (.sl AA) Ai,.sl AA Ah]] (.AE [(true,[.sl (.sl AA) T,.sl AA S,.sl (.sl AA) A,.sl AA u]),(false,[.int .i64 0])]):=by
 obtain⟨p,m,q,o,H,cw⟩:=Ew I J M (by omega);have hw:=U.v (by decide) (by decide) H;obtain⟨j,g,N,cq⟩:=IC I H (by omega);obtain⟨i,f,K,W⟩:=Fo I Q N Z (by omega);have L:=gr (K.cast hv) R;obtain⟨k,h,O,cr,X⟩:=hr.get (by decide) L;obtain⟨CD,Bq,BA,Ay,D,B⟩:=lf F hw O (by omega);obtain⟨c,a,d,b,G,C⟩:=la F V D (by omega);refine⟨c,a,d,b,G.mono (by omega) (by omega),?_⟩;refine BP Tryz.func19 (by kernel_rfl) rfl fun E l=>?_
 conv=>cbv
 refine cL (r:= .one (.bool false)) l (EU F V ha (by omega) (by omega) (by omega) (by omega) (e:=false) ⟨fun z=>(by cases z),fun z=>absurd z Y⟩) ⟨t4,t4,trivial⟩ ?_;try conv=>cbv
 refine .inr (.inr (.inr (.inl ⟨14,.var 1 [.int .i64 0],[.one (.AD 0 0 0),.agg [.sl (.sl AA) Aa,.sl AA AZ,.sl (.sl AA) Ai,.sl AA Ah],.agg [.sl (.sl AA) AL,.sl AA AK,.sl (.sl AA) AI,.sl AA AJ]],.agg [.sl (.sl AA) p,.sl AA m,.sl (.sl AA) q,.sl AA o],fun _=>⟨rfl,⟨⟨⟨rfl,rfl⟩,rfl⟩,t4,t4,trivial⟩⟩,fun _=>AP l (cw),?_⟩)));try conv=>cbv
 refine .inr (.inr (.inr (.inl ⟨14,.var 1 [.int .i64 0],[.one (.AD 0 0 0),.agg [.sl (.sl AA) p,.sl AA m,.sl (.sl AA) q,.sl AA o]],.agg [.sl (.sl AA) j,.sl AA g],fun _=>⟨rfl,⟨⟨⟨rfl,rfl⟩,rfl⟩,t4,trivial⟩⟩,fun _=>AP l (cq),?_⟩)));try conv=>cbv
 refine .inr (.inr (.inr (.inl ⟨14,.var 1 [.int .i64 0],[.one (.AD 0 0 0),.agg [.sl (.sl AA) AQ,.sl AA AO],.agg [.sl (.sl AA) j,.sl AA g]],.agg [.sl (.sl AA) i,.sl AA f],fun _=>⟨rfl,⟨⟨⟨rfl,rfl⟩,rfl⟩,t2,t2,trivial⟩⟩,fun _=>AP l (W),?_⟩)));try conv=>cbv
 refine .inr (.inr (.inr (.inl ⟨14,.var 1 [.int .i64 0],[.one (.AD 0 0 0),.agg [.sl (.sl AA) i,.sl AA f]],.agg [.sl (.sl AA) k,.sl AA h],fun _=>⟨rfl,⟨⟨⟨rfl,rfl⟩,rfl⟩,t2,trivial⟩⟩,fun _=>AP l (ll X),?_⟩)));try conv=>cbv
 refine .inr (.inr (.inr (.inl ⟨14,.var 1 [.int .i64 0],[.one (.AD 0 0 0),.agg [.sl (.sl AA) p,.sl AA m,.sl (.sl AA) q,.sl AA o],.agg [.sl (.sl AA) k,.sl AA h]],.agg [.sl (.sl AA) CD,.sl AA Bq,.sl (.sl AA) BA,.sl AA Ay],fun _=>⟨rfl,⟨⟨⟨rfl,rfl⟩,rfl⟩,t4,t2,trivial⟩⟩,fun _=>AP l (B),?_⟩)));try conv=>cbv
 refine .inr (.inr (.inr (.inl ⟨14,.var 1 [.int .i64 0],[.one (.AD 0 0 0),.agg [.sl (.sl AA) AL,.sl AA AK,.sl (.sl AA) AI,.sl AA AJ],.agg [.sl (.sl AA) CD,.sl AA Bq,.sl (.sl AA) BA,.sl AA Ay]],.agg [.sl (.sl AA) c,.sl AA a,.sl (.sl AA) d,.sl AA b],fun _=>⟨rfl,⟨⟨⟨rfl,rfl⟩,rfl⟩,t4,t4,trivial⟩⟩,fun _=>AP l (C),?_⟩)));try conv=>cbv
 refine .inr (.inr (.inr (.inl ⟨14,.var 1 [.int .i64 0],[.one (.AD 0 0 0),.agg [.sl (.sl AA) c,.sl AA a,.sl (.sl AA) d,.sl AA b]],.AE [(true,[.sl (.sl AA) c,.sl AA a,.sl (.sl AA) d,.sl AA b]),(false,[.int .i64 0])],fun _=>⟨rfl,⟨⟨⟨rfl,rfl⟩,rfl⟩,t4,trivial⟩⟩,fun _=>AP l (lk),?_⟩)));try conv=>cbv
 refine⟨fun _=>Aq (by kernel_rfl),?_⟩;exact fA ⟨⟨rfl,rfl,rfl,rfl,rfl,trivial⟩,t2,trivial⟩ rfl (by simp)
theorem ln {X:List (el Bf)} {W:List UInt8} {ns:List Nu} (b3:ns=(runN (X.take 24)).1) {V:List Re} (aE:V.length<=3) (G:∀n∈ns,BY V n):CF 3 [.agg [.sl (.pr .u8 (.pr .u8 (.pr .u8 (.pr .i8 .u8)))) X,.sl .u8 W]] (.one (.bool true)):=by
 obtain⟨w,L⟩:=GL aE G;have F:=L.fd;obtain⟨Q,hQ⟩:∃z,z=FL ns W:=⟨_,rfl⟩
 obtain⟨c,hc⟩:=xB (decide (3<=Q.length));refine BP Tryz.func3 (by kernel_rfl) rfl fun E g=>?_
 conv=>cbv
 refine cL g (Hd b3 aE G hQ (i':=3) ⟨rfl⟩ (by decide) hc) ⟨t2,rfl,trivial⟩ ?_;try conv=>cbv
 refine cL g FF trivial ?_;try conv=>cbv
 intro bo aX;cases aX.trans (rfl:_=false);conv=>cbv
 intro b7 ax;conv=>cbv
 cases b7 <;> conv=>cbv
 ·have aO:=CJ ax;have hl:3<=Q.length:=of_decide_eq_true (hc.symm.trans aO);obtain⟨K,R⟩:=AG (l:=Q) (i:=0) (by omega);obtain⟨a,f,aJ⟩:=C9 L G hQ R;have aH:=aJ (b:=1950000) (k:=1) (by decide);obtain⟨x1,aN⟩:=AG (l:=Q) (i:=1) (by omega);obtain⟨M,N,aK⟩:=C9 L G hQ aN;have b4:=aK (b:=1950000) (k:=1) (by decide);obtain⟨x2,o⟩:=AG (l:=Q) (i:=2) (by omega);obtain⟨A,B,aL⟩:=C9 L G hQ o;have H:=aL (b:=1950000) (k:=1) (by decide);obtain⟨bk,bg,bl,bh,bm,bj,ea,b1,ca⟩:=IA F (i:=0) (k:=1) R aN (by decide) (by decide) aH b4 (by omega);refine cL g ca t3 ?_;try conv=>cbv
  intro b8 ay;conv=>cbv
  cases b8 <;> conv=>cbv
  ·have aP:=CJ ay;obtain⟨_,na,J,I⟩:=b1.resolve_right (fun h=>absurd (h.1.symm.trans aP) (by decide))
   by_cases C:a=A/\f=B
   ·refine⟨x2,fun _=>⟨by omega,o⟩,?_⟩;try conv=>cbv
    refine cL g (j3 F J I H C (by omega)) ⟨⟨rfl,rfl,rfl,rfl,rfl,rfl,trivial⟩,t4,trivial⟩ ?_;try conv=>cbv
    refine⟨fun _=>Aq (by kernel_rfl),?_⟩;refine⟨x2,fun _=>⟨by omega,o⟩,?_⟩;try conv=>cbv
    refine cL g (lj F J I H C (by omega)) ⟨⟨rfl,rfl,rfl,rfl,rfl,rfl,trivial⟩,t4,trivial⟩ ?_;try conv=>cbv
    refine⟨fun _=>Aq (by kernel_rfl),?_⟩;intro C1 Y;cases Y.trans (show _=false by decide);conv=>cbv
    intro b9 Z;cases Z.trans (show _=true by decide);conv=>cbv
    intro bp aY;cases aY.trans (show _=true by decide);conv=>cbv
    intro bq aZ;cases aZ.trans (show _=true by decide);conv=>cbv
    exact fA ⟨t2,trivial⟩ rfl (by simp)
   have g0:=aJ (b:=11500) (k:=20) (by decide);have g1:=aK (b:=11500) (k:=20) (by decide);have g2:=aL (b:=11500) (k:=20) (by decide);have F0:=L.fe;obtain⟨_,_,_,_,aS,_⟩:=JR F0 g0 g1 (by decide) (by decide) (by decide) (by decide);obtain⟨_,_,aU,_⟩:=WS F0 aS (by decide) (by decide);obtain⟨_,_,_,_,aT,_⟩:=JR F0 g2 g0 (by decide) (by decide) (by decide) (by decide);obtain⟨_,_,aV,_⟩:=WS F0 aT (by decide) (by decide);have O:(A-a)*(A-a)+(B-f)*(B-f)≠0:=Kh (fun z=>C ⟨by grind,by grind⟩);have bn:(a-M)*(a-M)+(f-N)*(f-N)≠0:=Kh (fun z=>na ⟨by grind,by grind⟩);have aF:0<(A-a)*(A-a)+(B-f)*(B-f):=by have:=jS (A-a) (B-f);grind
   have b5:0<(a-M)*(a-M)+(f-N)*(f-N):=by have:=jS (a-M) (f-N);grind
   obtain⟨_,_,gv,_⟩:=D1 F0 aU aV (d:=3855) (by decide) O (by decide) (by decide) (by decide);obtain⟨n,hn⟩:∃z,z=((a-M)*(a-M)+(f-N)*(f-N))*As ((A-a)*(A-a)+(B-f)*(B-f)):=⟨_,rfl⟩
   have gv:=(gv.cast hn.symm).mono (l:=4026) (by decide);have aW:0<n:=by rw[hn];exact kd b5 aF
   have aM:Re.sqrt n*Re.sqrt n=n:=Re.E9 (by grind);have b6:0<Re.sqrt n:=by have h1:=Re.GN n;have h2:Re.sqrt n≠0:=(fun z=>by rw[z] at aM;grind);grind
   have b2:((A-a)*(A-a)+(B-f)*(B-f))*n=(a-M)*(a-M)+(f-N)*(f-N):=by rw[hn];exact lU O
   obtain⟨TT,w4,F4,U,hr⟩:=lX L gv (by decide) aW;have F1:=F;have F:=F4;have aG:=U.v (by decide) (by decide) J;have a7:=U.up (by decide) I;have a1:=U.v (by decide) (by decide) H;have aI:=U.v (by decide) (by decide) aH;obtain⟨AI,AJ,AQ,AO,S,ah⟩:=j1 F aG a7 a1 F1 J I H gv hn.symm U hr C O (by omega);obtain⟨Ai,Ah,Ak,Aj,az,ai⟩:=lh F aG a7 a1 F1 J I H gv hn.symm U hr C O (by omega);obtain⟨BA,Ay,m,j,aA,aj⟩:=gw F S aI (by omega);have D:=aA.cast (x':=(A-a)*Re.sqrt n) (y':=(B-f)*Re.sqrt n) (by grind) (by grind);obtain⟨r,p,u,q,T,ak⟩:=gw F a1 aI (by omega);obtain⟨ad,a8,aB,al⟩:=lg F D (by omega);obtain⟨ag,a2,ba,aq⟩:=EM F aB a7 (by omega) (by omega);obtain rfl:ag=true:=a2.2 (lW aM b2);obtain⟨ae,aa,aC,an⟩:=lY F D T (by omega)
   obtain⟨aQ,a5,bb,ar⟩:=DQ F aC (by omega);obtain rfl:aQ=0:=a5.trans ((congrArg BJ (by grind)).trans Dw);obtain⟨af,ab,aD,ao⟩:=lZ F D T (by omega);obtain⟨aR,a6,bc,au⟩:=DQ F aD (by omega);obtain rfl:aR=1:=a6.trans (Fq (lV aF b6));refine⟨x2,fun _=>⟨by omega,o⟩,?_⟩;try conv=>cbv
   refine cL g ah ⟨⟨rfl,rfl,rfl,rfl,rfl,rfl,trivial⟩,t4,trivial⟩ ?_;try conv=>cbv
   refine⟨fun _=>Aq (by kernel_rfl),?_⟩;refine⟨x2,fun _=>⟨by omega,o⟩,?_⟩;try conv=>cbv
   refine cL g ai ⟨⟨rfl,rfl,rfl,rfl,rfl,rfl,trivial⟩,t4,trivial⟩ ?_;try conv=>cbv
   refine⟨fun _=>Aq (by kernel_rfl),?_⟩;intro C1 Y;cases Y.trans (show _=false by decide);conv=>cbv
   intro b9 Z;cases Z.trans (show _=false by decide);conv=>cbv
   refine⟨K,fun _=>⟨by omega,R⟩,?_⟩;try conv=>cbv
   refine .inr (.inr (.inr (.inl ⟨64,.var 1 [.int .i64 0],[.one (.AD 0 0 0),.agg [.sl (.sl AA) AI,.sl AA AJ,.sl (.sl AA) AQ,.sl AA AO],.agg [.sl (.sl AA) K.1.1,.sl AA K.1.2,.sl (.sl AA) K.2.1,.sl AA K.2.2]],.agg [.sl (.sl AA) BA,.sl AA Ay,.sl (.sl AA) m,.sl AA j],fun _=>⟨rfl,⟨⟨⟨rfl,rfl⟩,rfl⟩,t4,t4,trivial⟩⟩,fun _=>AP g (aj),?_⟩)));try conv=>cbv
   refine⟨x2,fun _=>⟨by omega,o⟩,?_⟩;try conv=>cbv
   refine⟨K,fun _=>⟨by omega,R⟩,?_⟩;try conv=>cbv
   refine .inr (.inr (.inr (.inl ⟨64,.var 1 [.int .i64 0],[.one (.AD 0 0 0),.agg [.sl (.sl AA) x2.1.1,.sl AA x2.1.2,.sl (.sl AA) x2.2.1,.sl AA x2.2.2],.agg [.sl (.sl AA) K.1.1,.sl AA K.1.2,.sl (.sl AA) K.2.1,.sl AA K.2.2]],.agg [.sl (.sl AA) r,.sl AA p,.sl (.sl AA) u,.sl AA q],fun _=>⟨rfl,⟨⟨⟨rfl,rfl⟩,rfl⟩,t4,t4,trivial⟩⟩,fun _=>AP g (ak),?_⟩)));try conv=>cbv
   refine⟨fun _=>Aq (by kernel_rfl),?_⟩;refine cL g (EU F S az (by omega) (by omega) (by omega) (by omega) (e:=true) ⟨fun _=>⟨rfl,rfl⟩,fun _=>rfl⟩) ⟨t4,t4,trivial⟩ ?_;try conv=>cbv
   refine .inr (.inr (.inr (.inl ⟨64,.var 1 [.int .i64 0],[.one (.AD 0 0 0),.agg [.sl (.sl AA) BA,.sl AA Ay,.sl (.sl AA) m,.sl AA j]],.agg [.sl (.sl AA) ad,.sl AA a8],fun _=>⟨rfl,⟨⟨⟨rfl,rfl⟩,rfl⟩,t4,trivial⟩⟩,fun _=>AP g (al),?_⟩)));try conv=>cbv
   refine cL g aq ⟨t2,t2,trivial⟩ ?_;try conv=>cbv
   refine .inr (.inr (.inr (.inl ⟨64,.var 1 [.int .i64 0],[.one (.AD 0 0 0),.agg [.sl (.sl AA) BA,.sl AA Ay,.sl (.sl AA) m,.sl AA j],.agg [.sl (.sl AA) r,.sl AA p,.sl (.sl AA) u,.sl AA q]],.agg [.sl (.sl AA) ae,.sl AA aa],fun _=>⟨rfl,⟨⟨⟨rfl,rfl⟩,rfl⟩,t4,t4,trivial⟩⟩,fun _=>AP g (an),?_⟩)));try conv=>cbv
   refine cL g ar ⟨t2,trivial⟩ ?_;try conv=>cbv
   intro br b0;cases b0.trans (show _=true by decide);conv=>cbv
   refine .inr (.inr (.inr (.inl ⟨64,.var 1 [.int .i64 0],[.one (.AD 0 0 0),.agg [.sl (.sl AA) BA,.sl AA Ay,.sl (.sl AA) m,.sl AA j],.agg [.sl (.sl AA) r,.sl AA p,.sl (.sl AA) u,.sl AA q]],.agg [.sl (.sl AA) af,.sl AA ab],fun _=>⟨rfl,⟨⟨⟨rfl,rfl⟩,rfl⟩,t4,t4,trivial⟩⟩,fun _=>AP g (ao),?_⟩)));try conv=>cbv
   refine cL g au ⟨t2,trivial⟩ ?_;try conv=>cbv
   intro bd av;cases av.trans (show _=true by decide);conv=>cbv
   intro bf aw;cases aw.trans (show _=true by decide);conv=>cbv
   refine⟨fun _=>Aq (by kernel_rfl),?_⟩;exact fA ⟨t2,trivial⟩ rfl (by simp)
  have aP:=CK ay;exact fA ⟨t2,trivial⟩ rfl (by simp)
 have aO:=CK ax;refine cL g FF trivial ?_;try conv=>cbv
 exact fA ⟨t2,trivial⟩ rfl (by simp)
end Go.Abs
