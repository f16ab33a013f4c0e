/- Part 48 of a proof. Conditions: each theorem's own. -/
import Derived.Test.YtfilemenbchajaaGreatPk45
import Derived.Test.YtfilemenbchajaaGreatPk46
set_option linter.all false
set_option maxHeartbeats 8000000
set_option maxRecDepth 20000
open Go.Proofs
namespace Go.Abs
open Go.RowKit
noncomputable def iX (xp yp xq yq t:Re):Re:=xp+(xq-xp)*Re.ofRat (1/2)+ -((yq-yp)*Re.ofRat (1/2))*(Re.ofRat ((1:Int):Rat)*As t)
noncomputable def iY (xp yp xq yq t:Re):Re:=yp+(yq-yp)*Re.ofRat (1/2)+(xq-xp)*Re.ofRat (1/2)*(Re.ofRat ((1:Int):Rat)*As t)
noncomputable def wX (xp yp xq yq xr yr:Re):Re:=((yr-yp)*((xq-xp)*(xq-xp)+(yq-yp)*(yq-yp))-(yq-yp)*((xr-xp)*(xr-xp)+(yr-yp)*(yr-yp)))*As ((xq-xp)*(yr-yp)-(yq-yp)*(xr-xp)+((xq-xp)*(yr-yp)-(yq-yp)*(xr-xp)))
noncomputable def wY (xp yp xq yq xr yr:Re):Re:=((xq-xp)*((xr-xp)*(xr-xp)+(yr-yp)*(yr-yp))-(xr-xp)*((xq-xp)*(xq-xp)+(yq-yp)*(yq-yp)))*As ((xq-xp)*(yr-yp)-(yq-yp)*(xr-xp)+((xq-xp)*(yr-yp)-(yq-yp)*(xr-xp)))
variable {AK AJ AO AZ Ah Aj:LR} {AL AI AQ Aa Ai Ak:List LR} {TT:List (List Rat)->Prop} {ka kb ko kp kq kr ks kt:Nat} {va vb vs vt xa xb xo xp xq ya yb yo yp yq:Re} {w:List (List Rat)}
theorem HV {x:Re} (h:x≠0):x+x≠0:=fun e=>h (by
 have a:(x+x)*Re.ofRat (1/2)=x*(Re.ofRat (1/2)*(1+1)):=by grind
 rw[HE,e] at a
 grind)
theorem R5:BW Tryz.prog 87 [.one (.AD 0 0 0),.one (.int .i64 0)] (.var 0 [.int .i64 0]) (.one (.bool true)):=by
 refine Bn Tryz.func87 (by kernel_rfl) rfl fun E d=>?_
 conv=>cbv
 intro f b;cases b.trans (show _=true by decide);conv=>cbv
 refine .inr ?_;intro c a;cases a.trans (show _=true by decide);conv=>cbv
 refine fun _=>⟨⟨⟨t2,trivial⟩,rfl,by simp⟩,rfl⟩
theorem LX {g:FuncId} {T1:List LR} {A1:LR} {T2:List LR} {A2:LR} {T3:List LR} {A3:LR} (c:CF g [.agg [.sl (.sl AA) T1,.sl AA A1],.agg [.sl (.sl AA) T2,.sl AA A2]] (.AE [(true,[.sl (.sl AA) T3,.sl AA A3]),(false,[.int .i64 0])])):BW Tryz.prog 176 [.one (.AD 0 0 0),.one (.fn g),.agg [.sl (.sl AA) T1,.sl AA A1],.agg [.sl (.sl AA) T2,.sl AA A2]] (.var 0 [.int .i64 0]) (.agg [.sl (.sl AA) T3,.sl AA A3]):=by
 refine Bn Tryz.func176 (by kernel_rfl) rfl fun E b=>?_
 conv=>cbv
 intro d a;cases a.trans (show _=false by decide);conv=>cbv
 refine cL b c ⟨t2,t2,trivial⟩ ?_;try conv=>cbv
 refine .inr (.inr (.inr (.inl ⟨0,.var 0 [.int .i64 0],[.one (.AD 0 0 0),.one (.int .i64 0)],.one (.bool true),fun _=>⟨rfl,⟨⟨⟨rfl,rfl⟩,rfl⟩,rfl,trivial⟩⟩,fun _=>AP b (R5),?_⟩)));try conv=>cbv
 refine fun _=>⟨⟨⟨t3,trivial⟩,rfl,by simp⟩,rfl⟩
theorem Ia (F:Fd TT w) (ha:Nm TT w 1950000 ka AL AK va) (hb:Nm TT w 1950000 kb AI AJ vb) (h:ka+kb+111<=80000):∃d c,Nm TT w 1950000 (ka+kb+1) d c (va+vb)/\BW Tryz.prog 162 [.one (.AD 0 0 0),.agg [.sl (.sl AA) AL,.sl AA AK],.agg [.sl (.sl AA) AI,.sl AA AJ]] (.var 0 [.int .i64 0]) (.agg [.sl (.sl AA) d,.sl AA c]):=by
 obtain⟨AQ,AO,b,a,f⟩:=GH F ha hb (by omega) (by omega);refine⟨AQ,AO,b.mono (by omega),?_⟩;refine Bn Tryz.func162 (by kernel_rfl) rfl fun E g=>?_
 conv=>cbv
 refine .inr (.inr (.inr (.inl ⟨0,.var 0 [.int .i64 0],[.one (.AD 0 0 0),.one (.fn 207),.agg [.sl (.sl AA) AL,.sl AA AK],.agg [.sl (.sl AA) AI,.sl AA AJ]],.agg [.sl (.sl AA) AQ,.sl AA AO],fun _=>⟨rfl,⟨⟨⟨rfl,rfl⟩,rfl⟩,rfl,t2,t2,trivial⟩⟩,fun _=>AP g (LX a),?_⟩)));try conv=>cbv
 refine fun _=>⟨⟨⟨t3,trivial⟩,rfl,by simp⟩,rfl⟩
theorem Hs (F:Fd TT w) (ha:Nm TT w 1950000 ka AL AK va) (hb:Nm TT w 1950000 kb AI AJ vb) (h:ka+kb+111<=80000):∃d c,Nm TT w 1950000 (ka+kb+1) d c (va-vb)/\BW Tryz.prog 108 [.one (.AD 0 0 0),.agg [.sl (.sl AA) AL,.sl AA AK],.agg [.sl (.sl AA) AI,.sl AA AJ]] (.var 0 [.int .i64 0]) (.agg [.sl (.sl AA) d,.sl AA c]):=by
 obtain⟨AQ,AO,b,a,f⟩:=KM F ha hb (by omega) (by omega);refine⟨AQ,AO,b.mono (by omega),?_⟩;refine Bn Tryz.func108 (by kernel_rfl) rfl fun E g=>?_
 conv=>cbv
 refine .inr (.inr (.inr (.inl ⟨0,.var 0 [.int .i64 0],[.one (.AD 0 0 0),.one (.fn 200),.agg [.sl (.sl AA) AL,.sl AA AK],.agg [.sl (.sl AA) AI,.sl AA AJ]],.agg [.sl (.sl AA) AQ,.sl AA AO],fun _=>⟨rfl,⟨⟨⟨rfl,rfl⟩,rfl⟩,rfl,t2,t2,trivial⟩⟩,fun _=>AP g (LX a),?_⟩)));try conv=>cbv
 refine fun _=>⟨⟨⟨t3,trivial⟩,rfl,by simp⟩,rfl⟩
theorem F8 (F:Fd TT w) (ha:Nm TT w 1950000 ka AL AK va) (hb:Nm TT w 1950000 kb AI AJ vb) (h:ka+kb+111<=80000):∃d c,Nm TT w 1950000 (ka+kb+1) d c (va*vb)/\BW Tryz.prog 173 [.one (.AD 0 0 0),.agg [.sl (.sl AA) AL,.sl AA AK],.agg [.sl (.sl AA) AI,.sl AA AJ]] (.var 0 [.int .i64 0]) (.agg [.sl (.sl AA) d,.sl AA c]):=by
 obtain⟨AQ,AO,b,a,f⟩:=EN F ha hb (by omega) (by omega);refine⟨AQ,AO,b.mono (by omega),?_⟩;refine Bn Tryz.func173 (by kernel_rfl) rfl fun E g=>?_
 conv=>cbv
 refine .inr (.inr (.inr (.inl ⟨0,.var 0 [.int .i64 0],[.one (.AD 0 0 0),.one (.fn 205),.agg [.sl (.sl AA) AL,.sl AA AK],.agg [.sl (.sl AA) AI,.sl AA AJ]],.agg [.sl (.sl AA) AQ,.sl AA AO],fun _=>⟨rfl,⟨⟨⟨rfl,rfl⟩,rfl⟩,rfl,t2,t2,trivial⟩⟩,fun _=>AP g (LX a),?_⟩)));try conv=>cbv
 refine fun _=>⟨⟨⟨t3,trivial⟩,rfl,by simp⟩,rfl⟩
theorem Jq (F:Fd TT w) (ha:Nm TT w 1950000 ka AL AK va) (hb:Nm TT w 1950000 kb AI AJ vb) (h:vb≠0) (j:ka+47*kb+134<=80000):∃f c,Nm TT w 1950000 (ka+47*kb+24) f c (va*As vb)/\BW Tryz.prog 84 [.one (.AD 0 0 0),.agg [.sl (.sl AA) AL,.sl AA AK],.agg [.sl (.sl AA) AI,.sl AA AJ]] (.var 0 [.int .i64 0]) (.agg [.sl (.sl AA) f,.sl AA c]):=by
 obtain⟨AQ,AO,b,a,g⟩:=D1 F ha hb (d:=47*kb+23) (by omega) h (by omega) (by omega) (by omega);refine⟨AQ,AO,b.mono (by omega),?_⟩;refine Bn Tryz.func84 (by kernel_rfl) rfl fun E i=>?_
 conv=>cbv
 refine .inr (.inr (.inr (.inl ⟨0,.var 0 [.int .i64 0],[.one (.AD 0 0 0),.one (.fn 122),.agg [.sl (.sl AA) AL,.sl AA AK],.agg [.sl (.sl AA) AI,.sl AA AJ]],.agg [.sl (.sl AA) AQ,.sl AA AO],fun _=>⟨rfl,⟨⟨⟨rfl,rfl⟩,rfl⟩,rfl,t2,t2,trivial⟩⟩,fun _=>AP i (LX a),?_⟩)));try conv=>cbv
 refine fun _=>⟨⟨⟨t3,trivial⟩,rfl,by simp⟩,rfl⟩
theorem Hq (F:Fd TT w) (ha:Vm TT w 1950000 ka ka AL AK AI AJ xa ya) (hb:Vm TT w 1950000 kb kb AQ AO Aa AZ xb yb) (l:ka+kb+111<=80000):∃j i b a,Vm TT w 1950000 (ka+kb+1) (ka+kb+1) j i b a (xa-xb) (ya-yb)/\BW Tryz.prog 83 [.one (.AD 0 0 0),.agg [.sl (.sl AA) AL,.sl AA AK,.sl (.sl AA) AI,.sl AA AJ],.agg [.sl (.sl AA) AQ,.sl AA AO,.sl (.sl AA) Aa,.sl AA AZ]] (.var 0 [.int .i64 0]) (.agg [.sl (.sl AA) j,.sl AA i,.sl (.sl AA) b,.sl AA a]):=by
 obtain⟨Ak,Aj,f,c⟩:=Hs F ha.x hb.x (by omega);obtain⟨BA,Ay,g,d⟩:=Hs F ha.y hb.y (by omega);have h:Vm _ w 1950000 (ka+kb+1) (ka+kb+1) Ak Aj BA Ay _ _:=⟨f.mono (by omega),g.mono (by omega)⟩;refine⟨Ak,Aj,BA,Ay,h.mono (by omega) (by omega),?_⟩;refine Bn Tryz.func83 (by kernel_rfl) rfl fun E k=>?_
 conv=>cbv
 refine .inr (.inr (.inr (.inl ⟨0,.var 0 [.int .i64 0],[.one (.AD 0 0 0),.agg [.sl (.sl AA) AL,.sl AA AK],.agg [.sl (.sl AA) AQ,.sl AA AO]],.agg [.sl (.sl AA) Ak,.sl AA Aj],fun _=>⟨rfl,⟨⟨⟨rfl,rfl⟩,rfl⟩,t2,t2,trivial⟩⟩,fun _=>AP k (c),?_⟩)));try conv=>cbv
 refine .inr (.inr (.inr (.inl ⟨0,.var 0 [.int .i64 0],[.one (.AD 0 0 0),.agg [.sl (.sl AA) AI,.sl AA AJ],.agg [.sl (.sl AA) Aa,.sl AA AZ]],.agg [.sl (.sl AA) BA,.sl AA Ay],fun _=>⟨rfl,⟨⟨⟨rfl,rfl⟩,rfl⟩,t2,t2,trivial⟩⟩,fun _=>AP k (d),?_⟩)));try conv=>cbv
 refine⟨fun _=>Aq (by kernel_rfl),?_⟩;refine fun _=>⟨⟨⟨⟨rfl,rfl,rfl,rfl,rfl,trivial⟩,trivial⟩,rfl,by simp⟩,rfl⟩
theorem Jr (F:Fd TT w) (ha:Vm TT w 1950000 ka ka AL AK AI AJ xa ya) (hb:Vm TT w 1950000 kb kb AQ AO Aa AZ xb yb) (l:ka+kb+111<=80000):∃j i b a,Vm TT w 1950000 (ka+kb+1) (ka+kb+1) j i b a (xa+xb) (ya+yb)/\BW Tryz.prog 88 [.one (.AD 0 0 0),.agg [.sl (.sl AA) AL,.sl AA AK,.sl (.sl AA) AI,.sl AA AJ],.agg [.sl (.sl AA) AQ,.sl AA AO,.sl (.sl AA) Aa,.sl AA AZ]] (.var 0 [.int .i64 0]) (.agg [.sl (.sl AA) j,.sl AA i,.sl (.sl AA) b,.sl AA a]):=by
 obtain⟨Ak,Aj,f,c⟩:=Ia F ha.x hb.x (by omega);obtain⟨BA,Ay,g,d⟩:=Ia F ha.y hb.y (by omega);have h:Vm _ w 1950000 (ka+kb+1) (ka+kb+1) Ak Aj BA Ay _ _:=⟨f.mono (by omega),g.mono (by omega)⟩;refine⟨Ak,Aj,BA,Ay,h.mono (by omega) (by omega),?_⟩;refine Bn Tryz.func88 (by kernel_rfl) rfl fun E k=>?_
 conv=>cbv
 refine .inr (.inr (.inr (.inl ⟨0,.var 0 [.int .i64 0],[.one (.AD 0 0 0),.agg [.sl (.sl AA) AL,.sl AA AK],.agg [.sl (.sl AA) AQ,.sl AA AO]],.agg [.sl (.sl AA) Ak,.sl AA Aj],fun _=>⟨rfl,⟨⟨⟨rfl,rfl⟩,rfl⟩,t2,t2,trivial⟩⟩,fun _=>AP k (c),?_⟩)));try conv=>cbv
 refine .inr (.inr (.inr (.inl ⟨0,.var 0 [.int .i64 0],[.one (.AD 0 0 0),.agg [.sl (.sl AA) AI,.sl AA AJ],.agg [.sl (.sl AA) Aa,.sl AA AZ]],.agg [.sl (.sl AA) BA,.sl AA Ay],fun _=>⟨rfl,⟨⟨⟨rfl,rfl⟩,rfl⟩,t2,t2,trivial⟩⟩,fun _=>AP k (d),?_⟩)));try conv=>cbv
 refine⟨fun _=>Aq (by kernel_rfl),?_⟩;refine fun _=>⟨⟨⟨⟨rfl,rfl,rfl,rfl,rfl,trivial⟩,trivial⟩,rfl,by simp⟩,rfl⟩
theorem LW (F:Fd TT w) {j:Re} {a:Nat} (ha:Vm TT w 1950000 ka ka AL AK AI AJ xa ya) (n:Nm TT w 1950000 a AQ AO j) (o:ka+a+111<=80000):∃l k c b,Vm TT w 1950000 (ka+a+1) (ka+a+1) l k c b (xa*j) (ya*j)/\BW Tryz.prog 89 [.one (.AD 0 0 0),.agg [.sl (.sl AA) AL,.sl AA AK,.sl (.sl AA) AI,.sl AA AJ],.agg [.sl (.sl AA) AQ,.sl AA AO]] (.var 0 [.int .i64 0]) (.agg [.sl (.sl AA) l,.sl AA k,.sl (.sl AA) c,.sl AA b]):=by
 obtain⟨Ai,Ah,g,d⟩:=F8 F ha.x n (by omega);obtain⟨CD,Bq,h,f⟩:=F8 F ha.y n (by omega);have i:Vm _ w 1950000 (ka+a+1) (ka+a+1) Ai Ah CD Bq _ _:=⟨g.mono (by omega),h.mono (by omega)⟩;refine⟨Ai,Ah,CD,Bq,i.mono (by omega) (by omega),?_⟩;refine Bn Tryz.func89 (by kernel_rfl) rfl fun E m=>?_
 conv=>cbv
 refine .inr (.inr (.inr (.inl ⟨0,.var 0 [.int .i64 0],[.one (.AD 0 0 0),.agg [.sl (.sl AA) AL,.sl AA AK],.agg [.sl (.sl AA) AQ,.sl AA AO]],.agg [.sl (.sl AA) Ai,.sl AA Ah],fun _=>⟨rfl,⟨⟨⟨rfl,rfl⟩,rfl⟩,t2,t2,trivial⟩⟩,fun _=>AP m (d),?_⟩)));try conv=>cbv
 refine .inr (.inr (.inr (.inl ⟨0,.var 0 [.int .i64 0],[.one (.AD 0 0 0),.agg [.sl (.sl AA) AI,.sl AA AJ],.agg [.sl (.sl AA) AQ,.sl AA AO]],.agg [.sl (.sl AA) CD,.sl AA Bq],fun _=>⟨rfl,⟨⟨⟨rfl,rfl⟩,rfl⟩,t2,t2,trivial⟩⟩,fun _=>AP m (f),?_⟩)));try conv=>cbv
 refine⟨fun _=>Aq (by kernel_rfl),?_⟩;refine fun _=>⟨⟨⟨⟨rfl,rfl,rfl,rfl,rfl,trivial⟩,trivial⟩,rfl,by simp⟩,rfl⟩
theorem Hr (F:Fd TT w) (ha:Vm TT w 1950000 ka ka AL AK AI AJ xa ya) (k:4*ka+113<=80000):∃j i,Nm TT w 1950000 (4*ka+3) j i ((xa*xa)+(ya*ya))/\BW Tryz.prog 85 [.one (.AD 0 0 0),.agg [.sl (.sl AA) AL,.sl AA AK,.sl (.sl AA) AI,.sl AA AJ]] (.var 0 [.int .i64 0]) (.agg [.sl (.sl AA) j,.sl AA i]):=by
 obtain⟨Aa,AZ,d,a⟩:=F8 F ha.x ha.x (by omega);obtain⟨Ak,Aj,f,b⟩:=F8 F ha.y ha.y (by omega);obtain⟨BA,Ay,g,c⟩:=Ia F d f (by omega);refine⟨BA,Ay,g.mono (by omega),?_⟩;refine Bn Tryz.func85 (by kernel_rfl) rfl fun E h=>?_
 conv=>cbv
 refine .inr (.inr (.inr (.inl ⟨0,.var 0 [.int .i64 0],[.one (.AD 0 0 0),.agg [.sl (.sl AA) AL,.sl AA AK],.agg [.sl (.sl AA) AL,.sl AA AK]],.agg [.sl (.sl AA) Aa,.sl AA AZ],fun _=>⟨rfl,⟨⟨⟨rfl,rfl⟩,rfl⟩,t2,t2,trivial⟩⟩,fun _=>AP h (a),?_⟩)));try conv=>cbv
 refine .inr (.inr (.inr (.inl ⟨0,.var 0 [.int .i64 0],[.one (.AD 0 0 0),.agg [.sl (.sl AA) AI,.sl AA AJ],.agg [.sl (.sl AA) AI,.sl AA AJ]],.agg [.sl (.sl AA) Ak,.sl AA Aj],fun _=>⟨rfl,⟨⟨⟨rfl,rfl⟩,rfl⟩,t2,t2,trivial⟩⟩,fun _=>AP h (b),?_⟩)));try conv=>cbv
 refine .inr (.inr (.inr (.inl ⟨0,.var 0 [.int .i64 0],[.one (.AD 0 0 0),.agg [.sl (.sl AA) Aa,.sl AA AZ],.agg [.sl (.sl AA) Ak,.sl AA Aj]],.agg [.sl (.sl AA) BA,.sl AA Ay],fun _=>⟨rfl,⟨⟨⟨rfl,rfl⟩,rfl⟩,t2,t2,trivial⟩⟩,fun _=>AP h (c),?_⟩)));try conv=>cbv
 refine⟨fun _=>Aq (by kernel_rfl),?_⟩;refine fun _=>⟨⟨⟨t3,trivial⟩,rfl,by simp⟩,rfl⟩
theorem ZL (F:Fd TT w) (ha:Vm TT w 1950000 ka ka AL AK AI AJ xa ya) (hb:Vm TT w 1950000 kb kb AQ AO Aa AZ xb yb) (m:2*ka+2*kb+113<=80000):∃l k,Nm TT w 1950000 (2*ka+2*kb+3) l k ((xa*yb)-(ya*xb))/\BW Tryz.prog 172 [.one (.AD 0 0 0),.agg [.sl (.sl AA) AL,.sl AA AK,.sl (.sl AA) AI,.sl AA AJ],.agg [.sl (.sl AA) AQ,.sl AA AO,.sl (.sl AA) Aa,.sl AA AZ]] (.var 0 [.int .i64 0]) (.agg [.sl (.sl AA) l,.sl AA k]):=by
 obtain⟨Ak,Aj,g,c⟩:=F8 F ha.x hb.y (by omega);obtain⟨BA,Ay,h,d⟩:=F8 F ha.y hb.x (by omega);obtain⟨b,a,i,f⟩:=Hs F g h (by omega);refine⟨b,a,i.mono (by omega),?_⟩;refine Bn Tryz.func172 (by kernel_rfl) rfl fun E j=>?_
 conv=>cbv
 refine .inr (.inr (.inr (.inl ⟨0,.var 0 [.int .i64 0],[.one (.AD 0 0 0),.agg [.sl (.sl AA) AL,.sl AA AK],.agg [.sl (.sl AA) Aa,.sl AA AZ]],.agg [.sl (.sl AA) Ak,.sl AA Aj],fun _=>⟨rfl,⟨⟨⟨rfl,rfl⟩,rfl⟩,t2,t2,trivial⟩⟩,fun _=>AP j (c),?_⟩)));try conv=>cbv
 refine .inr (.inr (.inr (.inl ⟨0,.var 0 [.int .i64 0],[.one (.AD 0 0 0),.agg [.sl (.sl AA) AI,.sl AA AJ],.agg [.sl (.sl AA) AQ,.sl AA AO]],.agg [.sl (.sl AA) BA,.sl AA Ay],fun _=>⟨rfl,⟨⟨⟨rfl,rfl⟩,rfl⟩,t2,t2,trivial⟩⟩,fun _=>AP j (d),?_⟩)));try conv=>cbv
 refine .inr (.inr (.inr (.inl ⟨0,.var 0 [.int .i64 0],[.one (.AD 0 0 0),.agg [.sl (.sl AA) Ak,.sl AA Aj],.agg [.sl (.sl AA) BA,.sl AA Ay]],.agg [.sl (.sl AA) b,.sl AA a],fun _=>⟨rfl,⟨⟨⟨rfl,rfl⟩,rfl⟩,t2,t2,trivial⟩⟩,fun _=>AP j (f),?_⟩)));try conv=>cbv
 refine⟨fun _=>Aq (by kernel_rfl),?_⟩;refine fun _=>⟨⟨⟨t3,trivial⟩,rfl,by simp⟩,rfl⟩
theorem ZE (F:Fd TT w):∃j,Nm TT w 1950000 (1) ([]:List LR) j (Re.ofRat (1/2))/\CF 100 [] (.agg [.sl (.sl AA) (([]:List LR)),.sl AA j]):=by
 obtain⟨f,h,g,i,a⟩:=Bb (1/2:Rat);have c:(1/2:Rat)=Rat.divInt 1 2:=by decide +kernel
 obtain⟨AK,b,d⟩:=DK F (p:=(1/2:Rat)) (by decide +kernel);refine⟨AK,d.mono (by omega),?_⟩;refine BP Tryz.func100 (by kernel_rfl) rfl fun E k=>?_
 conv=>cbv
 refine cL k (QK (by decide) (by decide) (by decide) c a) t2 ?_;try conv=>cbv
 refine cL k (QR a (Ha (by decide +kernel:Bz (1/2:Rat))) b) ⟨t4,trivial⟩ ?_;try conv=>cbv
 exact fA ⟨t3,trivial⟩ rfl (by simp)
theorem ZJ (F:Fd TT w) {xr yr:Re} (hp:Vm TT w 1950000 kp kp AL AK AI AJ xp yp) (hq:Vm TT w 1950000 kq kq AQ AO Aa AZ xq yq) (hr:Vm TT w 1950000 kr kr Ai Ah Ak Aj xr yr) (hd:(xq-xp)*(yr-yp)-(yq-yp)*(xr-xp)≠0) (hM:1544*kp+772*kq+772*kr+3105<=80000):∃U0 B0 a5 a2 U1 B1,Vm TT w 1950000 (387*kp+193*kq+193*kr+749) (387*kp+193*kq+193*kr+749) U0 B0 a5 a2 (xp+(wX xp yp xq yq xr yr)) (yp+(wY xp yp xq yq xr yr))/\Nm TT w 1950000 (1544*kp+772*kq+772*kr+2995) U1 B1 (((wX xp yp xq yq xr yr)*(wX xp yp xq yq xr yr))+((wY xp yp xq yq xr yr)*(wY xp yp xq yq xr yr)))/\CF 77 [.agg [.sl (.sl AA) AL,.sl AA AK,.sl (.sl AA) AI,.sl AA AJ],.agg [.sl (.sl AA) AQ,.sl AA AO,.sl (.sl AA) Aa,.sl AA AZ],.agg [.sl (.sl AA) Ai,.sl AA Ah,.sl (.sl AA) Ak,.sl AA Aj]] (.AE [(true,[.sl (.sl AA) U0,.sl AA B0,.sl (.sl AA) a5,.sl AA a2,.sl (.sl AA) U1,.sl AA B1]),(false,[.int .i64 0])]):=by
 obtain⟨BA,Ay,h,b,m,a6⟩:=Hq F hq hp (by omega);obtain⟨i,c,j,d,n,a7⟩:=Hq F hr hp (by omega);obtain⟨s,o,A,a8⟩:=ZL F m n (by omega);obtain⟨aG,Z,aa,aK⟩:=DQ F A (by omega);have a1:aG≠0:=fun z=>hd (Dv.1 (Z.symm.trans z))
 obtain⟨t,p,V,ab⟩:=Ia F A A (by omega);obtain⟨u,q,W,ad⟩:=Hr F m (by omega);obtain⟨v,r,X,ae⟩:=Hr F n (by omega);obtain⟨M,B,au,af⟩:=F8 F n.y W (by omega);obtain⟨N,C,av,ag⟩:=F8 F m.y X (by omega);obtain⟨O,D,aw,ah⟩:=Hs F au av (by omega);obtain⟨k,f,ax,ai⟩:=Jq F aw V (HV hd) (by omega);obtain⟨P,G,ay,aj⟩:=F8 F m.x X (by omega);obtain⟨Q,H,az,ak⟩:=F8 F n.x W (by omega);obtain⟨R,I,aA,al⟩:=Hs F ay az (by omega);obtain⟨l,g,aB,an⟩:=Jq F aA V (HV hd) (by omega);have aC:Vm _ w 1950000 (386*kp+193*kq+193*kr+748) (386*kp+193*kq+193*kr+748) k f l g _ _:=⟨ax.mono (by omega),aB.mono (by omega)⟩;have Y:=aC.cast (x':=wX xp yp xq yq xr yr) (y':=wY xp yp xq yq xr yr) (rfl) (rfl)
 obtain⟨S,J,T,K,aD,ao⟩:=Jr F hp Y (by omega);obtain⟨U,L,aE,aq⟩:=Hr F Y (by omega);refine⟨S,J,T,K,U,L,aD.mono (by omega) (by omega),aE.mono (by omega),?_⟩;refine BP Tryz.func77 (by kernel_rfl) rfl fun E a=>?_
 conv=>cbv
 refine .inr (.inr (.inr (.inl ⟨17,.var 1 [.int .i64 0],[.one (.AD 0 0 0),.agg [.sl (.sl AA) AQ,.sl AA AO,.sl (.sl AA) Aa,.sl AA AZ],.agg [.sl (.sl AA) AL,.sl AA AK,.sl (.sl AA) AI,.sl AA AJ]],.agg [.sl (.sl AA) BA,.sl AA Ay,.sl (.sl AA) h,.sl AA b],fun _=>⟨rfl,⟨⟨⟨rfl,rfl⟩,rfl⟩,t4,t4,trivial⟩⟩,fun _=>AP a (a6),?_⟩)));try conv=>cbv
 refine .inr (.inr (.inr (.inl ⟨17,.var 1 [.int .i64 0],[.one (.AD 0 0 0),.agg [.sl (.sl AA) Ai,.sl AA Ah,.sl (.sl AA) Ak,.sl AA Aj],.agg [.sl (.sl AA) AL,.sl AA AK,.sl (.sl AA) AI,.sl AA AJ]],.agg [.sl (.sl AA) i,.sl AA c,.sl (.sl AA) j,.sl AA d],fun _=>⟨rfl,⟨⟨⟨rfl,rfl⟩,rfl⟩,t4,t4,trivial⟩⟩,fun _=>AP a (a7),?_⟩)));try conv=>cbv
 refine⟨fun _=>Aq (by kernel_rfl),?_⟩;refine .inr (.inr (.inr (.inl ⟨17,.var 1 [.int .i64 0],[.one (.AD 0 0 0),.agg [.sl (.sl AA) BA,.sl AA Ay,.sl (.sl AA) h,.sl AA b],.agg [.sl (.sl AA) i,.sl AA c,.sl (.sl AA) j,.sl AA d]],.agg [.sl (.sl AA) s,.sl AA o],fun _=>⟨rfl,⟨⟨⟨rfl,rfl⟩,rfl⟩,t4,t4,trivial⟩⟩,fun _=>AP a (a8),?_⟩)));try conv=>cbv
 intro aL aH;cases aH.trans (show _=false by decide);conv=>cbv
 refine cL a aa ⟨t2,trivial⟩ ?_;try conv=>cbv
 intro aJ ar;conv=>cbv
 cases aJ <;> conv=>cbv
 ·have aF:=Au ar;refine .inr (.inr (.inr (.inl ⟨17,.var 1 [.int .i64 0],[.one (.AD 0 0 0),.agg [.sl (.sl AA) s,.sl AA o],.agg [.sl (.sl AA) s,.sl AA o]],.agg [.sl (.sl AA) t,.sl AA p],fun _=>⟨rfl,⟨⟨⟨rfl,rfl⟩,rfl⟩,t2,t2,trivial⟩⟩,fun _=>AP a (ab),?_⟩)));try conv=>cbv
  refine .inr (.inr (.inr (.inl ⟨17,.var 1 [.int .i64 0],[.one (.AD 0 0 0),.agg [.sl (.sl AA) BA,.sl AA Ay,.sl (.sl AA) h,.sl AA b]],.agg [.sl (.sl AA) u,.sl AA q],fun _=>⟨rfl,⟨⟨⟨rfl,rfl⟩,rfl⟩,t4,trivial⟩⟩,fun _=>AP a (ad),?_⟩)));try conv=>cbv
  refine .inr (.inr (.inr (.inl ⟨17,.var 1 [.int .i64 0],[.one (.AD 0 0 0),.agg [.sl (.sl AA) i,.sl AA c,.sl (.sl AA) j,.sl AA d]],.agg [.sl (.sl AA) v,.sl AA r],fun _=>⟨rfl,⟨⟨⟨rfl,rfl⟩,rfl⟩,t4,trivial⟩⟩,fun _=>AP a (ae),?_⟩)));try conv=>cbv
  refine⟨fun _=>Aq (by kernel_rfl),?_⟩;refine .inr (.inr (.inr (.inl ⟨17,.var 1 [.int .i64 0],[.one (.AD 0 0 0),.agg [.sl (.sl AA) j,.sl AA d],.agg [.sl (.sl AA) u,.sl AA q]],.agg [.sl (.sl AA) M,.sl AA B],fun _=>⟨rfl,⟨⟨⟨rfl,rfl⟩,rfl⟩,t2,t2,trivial⟩⟩,fun _=>AP a (af),?_⟩)));try conv=>cbv
  refine .inr (.inr (.inr (.inl ⟨17,.var 1 [.int .i64 0],[.one (.AD 0 0 0),.agg [.sl (.sl AA) h,.sl AA b],.agg [.sl (.sl AA) v,.sl AA r]],.agg [.sl (.sl AA) N,.sl AA C],fun _=>⟨rfl,⟨⟨⟨rfl,rfl⟩,rfl⟩,t2,t2,trivial⟩⟩,fun _=>AP a (ag),?_⟩)));try conv=>cbv
  refine .inr (.inr (.inr (.inl ⟨17,.var 1 [.int .i64 0],[.one (.AD 0 0 0),.agg [.sl (.sl AA) M,.sl AA B],.agg [.sl (.sl AA) N,.sl AA C]],.agg [.sl (.sl AA) O,.sl AA D],fun _=>⟨rfl,⟨⟨⟨rfl,rfl⟩,rfl⟩,t2,t2,trivial⟩⟩,fun _=>AP a (ah),?_⟩)));try conv=>cbv
  refine .inr (.inr (.inr (.inl ⟨17,.var 1 [.int .i64 0],[.one (.AD 0 0 0),.agg [.sl (.sl AA) O,.sl AA D],.agg [.sl (.sl AA) t,.sl AA p]],.agg [.sl (.sl AA) k,.sl AA f],fun _=>⟨rfl,⟨⟨⟨rfl,rfl⟩,rfl⟩,t2,t2,trivial⟩⟩,fun _=>AP a (ai),?_⟩)));try conv=>cbv
  refine .inr (.inr (.inr (.inl ⟨17,.var 1 [.int .i64 0],[.one (.AD 0 0 0),.agg [.sl (.sl AA) BA,.sl AA Ay],.agg [.sl (.sl AA) v,.sl AA r]],.agg [.sl (.sl AA) P,.sl AA G],fun _=>⟨rfl,⟨⟨⟨rfl,rfl⟩,rfl⟩,t2,t2,trivial⟩⟩,fun _=>AP a (aj),?_⟩)));try conv=>cbv
  refine .inr (.inr (.inr (.inl ⟨17,.var 1 [.int .i64 0],[.one (.AD 0 0 0),.agg [.sl (.sl AA) i,.sl AA c],.agg [.sl (.sl AA) u,.sl AA q]],.agg [.sl (.sl AA) Q,.sl AA H],fun _=>⟨rfl,⟨⟨⟨rfl,rfl⟩,rfl⟩,t2,t2,trivial⟩⟩,fun _=>AP a (ak),?_⟩)));try conv=>cbv
  refine .inr (.inr (.inr (.inl ⟨17,.var 1 [.int .i64 0],[.one (.AD 0 0 0),.agg [.sl (.sl AA) P,.sl AA G],.agg [.sl (.sl AA) Q,.sl AA H]],.agg [.sl (.sl AA) R,.sl AA I],fun _=>⟨rfl,⟨⟨⟨rfl,rfl⟩,rfl⟩,t2,t2,trivial⟩⟩,fun _=>AP a (al),?_⟩)));try conv=>cbv
  refine .inr (.inr (.inr (.inl ⟨17,.var 1 [.int .i64 0],[.one (.AD 0 0 0),.agg [.sl (.sl AA) R,.sl AA I],.agg [.sl (.sl AA) t,.sl AA p]],.agg [.sl (.sl AA) l,.sl AA g],fun _=>⟨rfl,⟨⟨⟨rfl,rfl⟩,rfl⟩,t2,t2,trivial⟩⟩,fun _=>AP a (an),?_⟩)));try conv=>cbv
  refine⟨fun _=>Aq (by kernel_rfl),?_⟩;refine .inr (.inr (.inr (.inl ⟨17,.var 1 [.int .i64 0],[.one (.AD 0 0 0),.agg [.sl (.sl AA) AL,.sl AA AK,.sl (.sl AA) AI,.sl AA AJ],.agg [.sl (.sl AA) k,.sl AA f,.sl (.sl AA) l,.sl AA g]],.agg [.sl (.sl AA) S,.sl AA J,.sl (.sl AA) T,.sl AA K],fun _=>⟨rfl,⟨⟨⟨rfl,rfl⟩,rfl⟩,t4,t4,trivial⟩⟩,fun _=>AP a (ao),?_⟩)));try conv=>cbv
  refine .inr (.inr (.inr (.inl ⟨17,.var 1 [.int .i64 0],[.one (.AD 0 0 0),.agg [.sl (.sl AA) k,.sl AA f,.sl (.sl AA) l,.sl AA g]],.agg [.sl (.sl AA) U,.sl AA L],fun _=>⟨rfl,⟨⟨⟨rfl,rfl⟩,rfl⟩,t4,trivial⟩⟩,fun _=>AP a (aq),?_⟩)));try conv=>cbv
  refine⟨fun _=>Aq (by kernel_rfl),?_⟩;intro aM aI;cases aI.trans (show _=false by decide);conv=>cbv
  exact fA ⟨⟨rfl,rfl,rfl,rfl,rfl,rfl,rfl,trivial⟩,t2,trivial⟩ rfl (by simp)
 have aF:=Av ar;exact absurd aF a1
theorem Rx (F:Fd TT w) (p:Vm TT w 1950000 ko ko AL AK AI AJ xo yo) (q:Nm TT w 1950000 ks AQ AO vs) (ha:Vm TT w 1950000 ka ka Aa AZ Ai Ah xa ya) (s:4*ka+4*ko+ks+118<=80000):∃o n,Nm TT w 1950000 (4*ka+4*ko+ks+8) o n ((((xa-xo)*(xa-xo))+((ya-yo)*(ya-yo)))-vs)/\CF 36 [.agg [.sl (.sl AA) AL,.sl AA AK,.sl (.sl AA) AI,.sl AA AJ,.sl (.sl AA) AQ,.sl AA AO],.agg [.sl (.sl AA) Aa,.sl AA AZ,.sl (.sl AA) Ai,.sl AA Ah]] (.AE [(true,[.sl (.sl AA) o,.sl AA n]),(false,[.int .i64 0])]):=by
 obtain⟨CD,Bq,BA,Ay,i,f⟩:=Hq F ha p (by omega);obtain⟨c,a,j,g⟩:=Hr F i (by omega);obtain⟨d,b,k,h⟩:=Hs F j q (by omega);refine⟨d,b,k.mono (by omega),?_⟩;refine BP Tryz.func36 (by kernel_rfl) rfl fun E m=>?_
 conv=>cbv
 refine .inr (.inr (.inr (.inl ⟨9,.var 1 [.int .i64 0],[.one (.AD 0 0 0),.agg [.sl (.sl AA) Aa,.sl AA AZ,.sl (.sl AA) Ai,.sl AA Ah],.agg [.sl (.sl AA) AL,.sl AA AK,.sl (.sl AA) AI,.sl AA AJ]],.agg [.sl (.sl AA) CD,.sl AA Bq,.sl (.sl AA) BA,.sl AA Ay],fun _=>⟨rfl,⟨⟨⟨rfl,rfl⟩,rfl⟩,t4,t4,trivial⟩⟩,fun _=>AP m (f),?_⟩)));try conv=>cbv
 refine .inr (.inr (.inr (.inl ⟨9,.var 1 [.int .i64 0],[.one (.AD 0 0 0),.agg [.sl (.sl AA) CD,.sl AA Bq,.sl (.sl AA) BA,.sl AA Ay]],.agg [.sl (.sl AA) c,.sl AA a],fun _=>⟨rfl,⟨⟨⟨rfl,rfl⟩,rfl⟩,t4,trivial⟩⟩,fun _=>AP m (g),?_⟩)));try conv=>cbv
 refine .inr (.inr (.inr (.inl ⟨9,.var 1 [.int .i64 0],[.one (.AD 0 0 0),.agg [.sl (.sl AA) c,.sl AA a],.agg [.sl (.sl AA) AQ,.sl AA AO]],.agg [.sl (.sl AA) d,.sl AA b],fun _=>⟨rfl,⟨⟨⟨rfl,rfl⟩,rfl⟩,t2,t2,trivial⟩⟩,fun _=>AP m (h),?_⟩)));try conv=>cbv
 refine⟨fun _=>Aq (by kernel_rfl),?_⟩;intro r l;cases l.trans (show _=false by decide);conv=>cbv
 exact fA ⟨t3,t2,trivial⟩ rfl (by simp)
theorem Ns (F:Fd TT w) {sn:Int} (k:Vm TT w 1950000 ko ko AL AK AI AJ xo yo) (l:Nm TT w 1950000 ks AQ AO vs) (ha:Vm TT w 1950000 ka ka Aa AZ Ai Ah xa ya) (h:sn=BJ ((xa-xo)*(xa-xo)+(ya-yo)*(ya-yo)-vs)) (n:4*ka+4*ko+ks+119<=80000):CF 38 [.agg [.sl (.sl AA) AL,.sl AA AK,.sl (.sl AA) AI,.sl AA AJ,.sl (.sl AA) AQ,.sl AA AO],.agg [.sl (.sl AA) Aa,.sl AA AZ,.sl (.sl AA) Ai,.sl AA Ah]] (.AE [(false,[.int .i64 sn]),(false,[.int .i64 0])]):=by
 obtain⟨CD,Bq,d,b⟩:=Rx F k l ha (by omega);obtain⟨f,a,c,i⟩:=DQ F d (by omega);obtain rfl:sn=f:=h.trans a.symm;refine BP Tryz.func38 (by kernel_rfl) rfl fun E j=>?_
 conv=>cbv
 refine cL j b ⟨⟨rfl,rfl,rfl,rfl,rfl,rfl,trivial⟩,t4,trivial⟩ ?_;try conv=>cbv
 intro m g;cases g.trans (show _=false by decide);conv=>cbv
 refine cL j c ⟨t2,trivial⟩ ?_;try conv=>cbv
 exact fA ⟨t2,t2,trivial⟩ rfl (by simp)
theorem Nr (F:Fd TT w) {vi:Re} {ki:Nat} (hp:Vm TT w 1950000 kp kp AL AK AI AJ xp yp) (hq:Vm TT w 1950000 kq kq AQ AO Aa AZ xq yq) (ht:Nm TT w 1950000 kt Ai Ah vt) (hi:Nm TT w 1950000 ki Ak Aj vi) (h0:¬(xp=xq/\yp=yq)) (ar:vt≠0) (ax:vt*vi=1) (hM:4*ki+16*kp+8*kq+47*kt+443<=80000):∃U0 B0 V U U1 B1,Vm TT w 1950000 (ki+3*kp+2*kq+9) (ki+3*kp+2*kq+9) U0 B0 V U (iX xp yp xq yq vt) (iY xp yp xq yq vt)/\Nm TT w 1950000 (4*ki+16*kp+8*kq+43) U1 B1 (((xp-(iX xp yp xq yq vt))*(xp-(iX xp yp xq yq vt)))+((yp-(iY xp yp xq yq vt))*(yp-(iY xp yp xq yq vt))))/\CF 28 [.agg [.sl (.sl AA) AL,.sl AA AK,.sl (.sl AA) AI,.sl AA AJ],.agg [.sl (.sl AA) AQ,.sl AA AO,.sl (.sl AA) Aa,.sl AA AZ],.agg [.sl (.sl AA) Ai,.sl AA Ah]] (.AE [(true,[.sl (.sl AA) U0,.sl AA B0,.sl (.sl AA) V,.sl AA U,.sl (.sl AA) U1,.sl AA B1]),(false,[.int .i64 0])]):=by
 obtain⟨av,Q,W,az⟩:=DQ F ht (by omega);have R:av≠0:=fun z=>ar (Dv.1 (Q.symm.trans z))
 obtain⟨S,ad,X⟩:=ZE F;obtain⟨C,k,D,l,ae,Y⟩:=Hq F hq hp (by omega);obtain⟨b,a,c,m,j,Z⟩:=LW F ae ad (by omega);obtain⟨T,P,af⟩:=DK F (p:=((1:Int):Rat)) (by decide +kernel);obtain⟨G,n,ag,a1⟩:=Jq F af ht ar (by omega);have ah:=ag.shrink hi (by rw[H3 ax,show Re.ofRat ((1:Int):Rat)=1 from rfl];grind);obtain⟨o,ai,a2,aA⟩:=Ec F j.y (by omega);have aj:Vm _ w 1950000 (kp+kq+3) (kp+kq+3) c o b a _ _:=⟨ai.mono (by omega),j.x.mono (by omega)⟩;obtain⟨H,q,I,s,ak,a5⟩:=LW F aj ah (by omega);obtain⟨J,t,K,u,al,a6⟩:=Jr F hp j (by omega);obtain⟨h,f,i,g,an,a7⟩:=Jr F al ak (by omega);have O:=an.cast (x':=iX xp yp xq yq vt) (y':=iY xp yp xq yq vt) (rfl) (rfl);obtain⟨L,v,M,A,ao,a8⟩:=Hq F hp O (by omega)
 obtain⟨N,B,aq,aa⟩:=Hr F ao (by omega);refine⟨h,f,i,g,N,B,O.mono (by omega) (by omega),aq.mono (by omega),?_⟩;refine BP Tryz.func28 (by kernel_rfl) rfl fun E d=>?_
 conv=>cbv
 refine .inr ?_;refine cL (r:= .one (.bool false)) d (IH F hp hq (by omega) (by omega) (by omega) (by omega) (e:=false) ⟨fun z=>(by cases z),fun z=>absurd z h0⟩) ⟨t4,t4,trivial⟩ ?_;try conv=>cbv
 refine cL d W ⟨t2,trivial⟩ ?_;try conv=>cbv
 intro ay ab;conv=>cbv
 cases ay <;> conv=>cbv
 ·have au:=Au ab;refine .inr (.inr (.inr (.inl ⟨24,.var 1 [.int .i64 0],[.one (.AD 0 0 0),.agg [.sl (.sl AA) AQ,.sl AA AO,.sl (.sl AA) Aa,.sl AA AZ],.agg [.sl (.sl AA) AL,.sl AA AK,.sl (.sl AA) AI,.sl AA AJ]],.agg [.sl (.sl AA) C,.sl AA k,.sl (.sl AA) D,.sl AA l],fun _=>⟨rfl,⟨⟨⟨rfl,rfl⟩,rfl⟩,t4,t4,trivial⟩⟩,fun _=>AP d (Y),?_⟩)));try conv=>cbv
  refine cL d X trivial ?_;try conv=>cbv
  refine .inr (.inr (.inr (.inl ⟨24,.var 1 [.int .i64 0],[.one (.AD 0 0 0),.agg [.sl (.sl AA) C,.sl AA k,.sl (.sl AA) D,.sl AA l],.agg [.sl (.sl AA) (([]:List LR)),.sl AA S]],.agg [.sl (.sl AA) b,.sl AA a,.sl (.sl AA) c,.sl AA m],fun _=>⟨rfl,⟨⟨⟨rfl,rfl⟩,rfl⟩,t4,t2,trivial⟩⟩,fun _=>AP d (Z),?_⟩)));try conv=>cbv
  refine cL d a2 ⟨t2,trivial⟩ ?_;try conv=>cbv
  refine cL d (Hi (by decide) (Ha (by decide +kernel:Bz ((1:Int):Rat))) P) t1 ?_;try conv=>cbv
  refine .inr (.inr (.inr (.inl ⟨24,.var 1 [.int .i64 0],[.one (.AD 0 0 0),.agg [.sl (.sl AA) (([]:List LR)),.sl AA T],.agg [.sl (.sl AA) Ai,.sl AA Ah]],.agg [.sl (.sl AA) G,.sl AA n],fun _=>⟨rfl,⟨⟨⟨rfl,rfl⟩,rfl⟩,t2,t2,trivial⟩⟩,fun _=>AP d (a1),?_⟩)));try conv=>cbv
  refine .inr (.inr (.inr (.inl ⟨24,.var 1 [.int .i64 0],[.one (.AD 0 0 0),.agg [.sl (.sl AA) c,.sl AA o,.sl (.sl AA) b,.sl AA a],.agg [.sl (.sl AA) G,.sl AA n]],.agg [.sl (.sl AA) H,.sl AA q,.sl (.sl AA) I,.sl AA s],fun _=>⟨rfl,⟨⟨⟨rfl,rfl⟩,rfl⟩,t4,t2,trivial⟩⟩,fun _=>AP d (a5),?_⟩)));try conv=>cbv
  refine⟨fun _=>Aq (by kernel_rfl),?_⟩;refine .inr (.inr (.inr (.inl ⟨24,.var 1 [.int .i64 0],[.one (.AD 0 0 0),.agg [.sl (.sl AA) AL,.sl AA AK,.sl (.sl AA) AI,.sl AA AJ],.agg [.sl (.sl AA) b,.sl AA a,.sl (.sl AA) c,.sl AA m]],.agg [.sl (.sl AA) J,.sl AA t,.sl (.sl AA) K,.sl AA u],fun _=>⟨rfl,⟨⟨⟨rfl,rfl⟩,rfl⟩,t4,t4,trivial⟩⟩,fun _=>AP d (a6),?_⟩)));try conv=>cbv
  refine .inr (.inr (.inr (.inl ⟨24,.var 1 [.int .i64 0],[.one (.AD 0 0 0),.agg [.sl (.sl AA) J,.sl AA t,.sl (.sl AA) K,.sl AA u],.agg [.sl (.sl AA) H,.sl AA q,.sl (.sl AA) I,.sl AA s]],.agg [.sl (.sl AA) h,.sl AA f,.sl (.sl AA) i,.sl AA g],fun _=>⟨rfl,⟨⟨⟨rfl,rfl⟩,rfl⟩,t4,t4,trivial⟩⟩,fun _=>AP d (a7),?_⟩)));try conv=>cbv
  refine⟨fun _=>Aq (by kernel_rfl),?_⟩;refine .inr (.inr (.inr (.inl ⟨24,.var 1 [.int .i64 0],[.one (.AD 0 0 0),.agg [.sl (.sl AA) AL,.sl AA AK,.sl (.sl AA) AI,.sl AA AJ],.agg [.sl (.sl AA) h,.sl AA f,.sl (.sl AA) i,.sl AA g]],.agg [.sl (.sl AA) L,.sl AA v,.sl (.sl AA) M,.sl AA A],fun _=>⟨rfl,⟨⟨⟨rfl,rfl⟩,rfl⟩,t4,t4,trivial⟩⟩,fun _=>AP d (a8),?_⟩)));try conv=>cbv
  refine .inr (.inr (.inr (.inl ⟨24,.var 1 [.int .i64 0],[.one (.AD 0 0 0),.agg [.sl (.sl AA) L,.sl AA v,.sl (.sl AA) M,.sl AA A]],.agg [.sl (.sl AA) N,.sl AA B],fun _=>⟨rfl,⟨⟨⟨rfl,rfl⟩,rfl⟩,t4,trivial⟩⟩,fun _=>AP d (aa),?_⟩)));try conv=>cbv
  refine⟨fun _=>Aq (by kernel_rfl),?_⟩;intro aB aw;cases aw.trans (show _=false by decide);conv=>cbv
  exact fA ⟨⟨rfl,rfl,rfl,rfl,rfl,rfl,rfl,trivial⟩,t2,trivial⟩ rfl (by simp)
 have au:=Av ab;exact absurd au R
theorem ZF (F:Fd TT w) (c:Vm TT w 1950000 kp kp AL AK AI AJ xp yp) (d:Vm TT w 1950000 kq kq AQ AO Aa AZ xq yq) (ht:Nm TT w 1950000 kt Ai Ah vt) (a:xp=xq/\yp=yq) (f:2*kp+2*kq+443<=80000):CF 28 [.agg [.sl (.sl AA) AL,.sl AA AK,.sl (.sl AA) AI,.sl AA AJ],.agg [.sl (.sl AA) AQ,.sl AA AO,.sl (.sl AA) Aa,.sl AA AZ],.agg [.sl (.sl AA) Ai,.sl AA Ah]] (.AE [(true,[.sl (.sl AA) (([]:List LR)),.sl AA (([]:LR)),.sl (.sl AA) (([]:List LR)),.sl AA (([]:LR)),.sl (.sl AA) (([]:List LR)),.sl AA (([]:LR))]),(false,[.int .i64 11])]):=by
 refine BP Tryz.func28 (by kernel_rfl) rfl fun E b=>?_
 conv=>cbv
 refine .inr ?_;refine cL b (IH F c d (by omega) (by omega) (by omega) (by omega) (e:=true) ⟨fun _=>a,fun _=>rfl⟩) ⟨t4,t4,trivial⟩ ?_;try conv=>cbv
 exact fA ⟨⟨rfl,.inr (.inl ⟨_,rfl⟩),.inr (.inl ⟨_,rfl⟩),.inr (.inl ⟨_,rfl⟩),.inr (.inl ⟨_,rfl⟩),.inr (.inl ⟨_,rfl⟩),.inr (.inl ⟨_,rfl⟩),trivial⟩,t2,trivial⟩ rfl (by simp)
theorem ZG (F:Fd TT w) (j:Vm TT w 1950000 kp kp AL AK AI AJ xp yp) (k:Vm TT w 1950000 kq kq AQ AO Aa AZ xq yq) (ht:Nm TT w 1950000 kt Ai Ah vt) (i:¬(xp=xq/\yp=yq)) (f:vt=0) (m:2*kp+2*kq+kt+443<=80000):CF 28 [.agg [.sl (.sl AA) AL,.sl AA AK,.sl (.sl AA) AI,.sl AA AJ],.agg [.sl (.sl AA) AQ,.sl AA AO,.sl (.sl AA) Aa,.sl AA AZ],.agg [.sl (.sl AA) Ai,.sl AA Ah]] (.AE [(true,[.sl (.sl AA) (([]:List LR)),.sl AA (([]:LR)),.sl (.sl AA) (([]:List LR)),.sl AA (([]:LR)),.sl (.sl AA) (([]:List LR)),.sl AA (([]:LR))]),(false,[.int .i64 6])]):=by
 obtain⟨c,a,b,g⟩:=DQ F ht (by omega);obtain rfl:c=0:=a.trans (by rw[f];exact Dw);refine BP Tryz.func28 (by kernel_rfl) rfl fun E h=>?_
 conv=>cbv
 refine .inr ?_;refine cL (r:= .one (.bool false)) h (IH F j k (by omega) (by omega) (by omega) (by omega) (e:=false) ⟨fun z=>(by cases z),fun z=>absurd z i⟩) ⟨t4,t4,trivial⟩ ?_;try conv=>cbv
 refine cL h b ⟨t2,trivial⟩ ?_;try conv=>cbv
 intro l d;cases d.trans (show _=true by decide);conv=>cbv
 exact fA ⟨⟨rfl,.inr (.inl ⟨_,rfl⟩),.inr (.inl ⟨_,rfl⟩),.inr (.inl ⟨_,rfl⟩),.inr (.inl ⟨_,rfl⟩),.inr (.inl ⟨_,rfl⟩),.inr (.inl ⟨_,rfl⟩),trivial⟩,t2,trivial⟩ rfl (by simp)
theorem ZH (F:Fd TT w) {v:Re} (O:Vm TT w 1950000 ko ko AL AK AI AJ xo yo) (V:Nm TT w 1950000 ks AQ AO vs) (ha:Vm TT w 1950000 ka ka Aa AZ Ai Ah xa ya) (S:¬(xo=xa/\yo=ya)) (T:(xa-xo)*(xa-xo)+(ya-yo)*(ya-yo)≠0) (W:vs*As ((xa-xo)*(xa-xo)+(ya-yo)*(ya-yo))=v) (U:Rt TT w 1950000 70000 TT w 1950000 kr v) (Z:188*ka+188*ko+kr+ks+10353<=80000):∃Q P t p,Vm TT w 1950000 (ka+2*ko+kr+3) (ka+2*ko+kr+3) Q P t p (xo+((xa-xo)*(Re.sqrt v))) (yo+((ya-yo)*(Re.sqrt v)))/\CF 18 [.agg [.sl (.sl AA) AL,.sl AA AK,.sl (.sl AA) AI,.sl AA AJ,.sl (.sl AA) AQ,.sl AA AO],.agg [.sl (.sl AA) Aa,.sl AA AZ,.sl (.sl AA) Ai,.sl AA Ah]] (.AE [(true,[.sl (.sl AA) Q,.sl AA P,.sl (.sl AA) t,.sl AA p]),(false,[.int .i64 0])]):=by
 obtain⟨CD,Bq,BA,Ay,l,u⟩:=Hq F ha O (by omega);obtain⟨g,a,G,x⟩:=Hr F l (by omega);obtain⟨q,n,H,A⟩:=Jq F V G T (by omega);have I:=H.cast (y:=v) (W);obtain⟨s,o,J,B,R⟩:=U.get (by omega) I;obtain⟨h,b,i,c,K,C⟩:=LW F l J (by omega);obtain⟨j,d,k,f,L,D⟩:=Jr F O K (by omega);refine⟨j,d,k,f,L.mono (by omega) (by omega),?_⟩;refine BP Tryz.func18 (by kernel_rfl) rfl fun E m=>?_
 conv=>cbv
 refine cL (r:= .one (.bool false)) m (IH F O ha (by omega) (by omega) (by omega) (by omega) (e:=false) ⟨fun z=>(by cases z),fun z=>absurd z S⟩) ⟨t4,t4,trivial⟩ ?_;try conv=>cbv
 refine .inr (.inr (.inr (.inl ⟨18,.var 1 [.int .i64 0],[.one (.AD 0 0 0),.agg [.sl (.sl AA) Aa,.sl AA AZ,.sl (.sl AA) Ai,.sl AA Ah],.agg [.sl (.sl AA) AL,.sl AA AK,.sl (.sl AA) AI,.sl AA AJ]],.agg [.sl (.sl AA) CD,.sl AA Bq,.sl (.sl AA) BA,.sl AA Ay],fun _=>⟨rfl,⟨⟨⟨rfl,rfl⟩,rfl⟩,t4,t4,trivial⟩⟩,fun _=>AP m (u),?_⟩)));try conv=>cbv
 refine .inr (.inr (.inr (.inl ⟨18,.var 1 [.int .i64 0],[.one (.AD 0 0 0),.agg [.sl (.sl AA) CD,.sl AA Bq,.sl (.sl AA) BA,.sl AA Ay]],.agg [.sl (.sl AA) g,.sl AA a],fun _=>⟨rfl,⟨⟨⟨rfl,rfl⟩,rfl⟩,t4,trivial⟩⟩,fun _=>AP m (x),?_⟩)));try conv=>cbv
 refine .inr (.inr (.inr (.inl ⟨18,.var 1 [.int .i64 0],[.one (.AD 0 0 0),.agg [.sl (.sl AA) AQ,.sl AA AO],.agg [.sl (.sl AA) g,.sl AA a]],.agg [.sl (.sl AA) q,.sl AA n],fun _=>⟨rfl,⟨⟨⟨rfl,rfl⟩,rfl⟩,t2,t2,trivial⟩⟩,fun _=>AP m (A),?_⟩)));try conv=>cbv
 refine⟨fun _=>Aq (by kernel_rfl),?_⟩;intro X M;cases M.trans (show _=false by decide);conv=>cbv
 refine cL m B ⟨t2,trivial⟩ ?_;try conv=>cbv
 refine .inr (.inr (.inr (.inl ⟨18,.var 1 [.int .i64 0],[.one (.AD 0 0 0),.one (.int .i64 0)],.one (.bool true),fun _=>⟨rfl,⟨⟨⟨rfl,rfl⟩,rfl⟩,rfl,trivial⟩⟩,fun _=>AP m (R5),?_⟩)));try conv=>cbv
 refine .inr (.inr (.inr (.inl ⟨18,.var 1 [.int .i64 0],[.one (.AD 0 0 0),.agg [.sl (.sl AA) CD,.sl AA Bq,.sl (.sl AA) BA,.sl AA Ay],.agg [.sl (.sl AA) s,.sl AA o]],.agg [.sl (.sl AA) h,.sl AA b,.sl (.sl AA) i,.sl AA c],fun _=>⟨rfl,⟨⟨⟨rfl,rfl⟩,rfl⟩,t4,t2,trivial⟩⟩,fun _=>AP m (C),?_⟩)));try conv=>cbv
 refine .inr (.inr (.inr (.inl ⟨18,.var 1 [.int .i64 0],[.one (.AD 0 0 0),.agg [.sl (.sl AA) AL,.sl AA AK,.sl (.sl AA) AI,.sl AA AJ],.agg [.sl (.sl AA) h,.sl AA b,.sl (.sl AA) i,.sl AA c]],.agg [.sl (.sl AA) j,.sl AA d,.sl (.sl AA) k,.sl AA f],fun _=>⟨rfl,⟨⟨⟨rfl,rfl⟩,rfl⟩,t4,t4,trivial⟩⟩,fun _=>AP m (D),?_⟩)));try conv=>cbv
 refine⟨fun _=>Aq (by kernel_rfl),?_⟩;intro Y N;cases N.trans (show _=false by decide);conv=>cbv
 exact fA ⟨⟨rfl,rfl,rfl,rfl,rfl,trivial⟩,t2,trivial⟩ rfl (by simp)
end Go.Abs
