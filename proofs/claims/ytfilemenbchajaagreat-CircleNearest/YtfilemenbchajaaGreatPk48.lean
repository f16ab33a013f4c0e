/- Part 49 of a proof. Conditions: each theorem's own. -/
import Derived.Test.YtfilemenbchajaaGreatPk47
set_option linter.all false
set_option maxHeartbeats 8000000
set_option maxRecDepth 20000
open Go.Proofs
namespace Go.Abs
open Go.RowKit
variable {A1 A2 AK AJ AO AZ Ah Aj:LR} {Q:List (el CP)} {T1 T2 AL AI AQ Aa Ai Ak:List LR} {TT:List (List Rat)->Prop} {V:List Re} {e:Bool} {i k:Int} {ka kb ko kp kq kr ks kt:Nat} {ns:List Nu} {va vb vs vt xa xb xo xp xq xr ya yb yo yp yq yr:Re} {w:List (List Rat)}
theorem VA:BW Tryz.prog 179 [.one (.AD 0 0 0),.one (.int .i64 0)] (.var 0 [.int .i64 0]) (.AE []):=by
 refine Bn Tryz.func179 (by kernel_rfl) rfl fun E b=>?_
 conv=>cbv
 intro c a;cases a.trans (show _=true by decide);conv=>cbv
 refine .inr ?_;refine fun _=>⟨⟨trivial,rfl,by simp⟩,rfl⟩
theorem IB:BW Tryz.prog 94 [.one (.AD 0 0 0),.agg [.sl (.sl AA) T1,.sl AA A1],.one (.int .i64 0)] (.var 0 [.int .i64 0]) (.agg [.sl (.sl AA) T1,.sl AA A1]):=by
 refine Bn Tryz.func94 (by kernel_rfl) rfl fun E b=>?_
 conv=>cbv
 refine .inr (.inr (.inr (.inl ⟨0,.var 0 [.int .i64 0],[.one (.AD 0 0 0),.one (.int .i64 0)],.AE [],fun _=>⟨rfl,⟨⟨⟨rfl,rfl⟩,rfl⟩,rfl,trivial⟩⟩,fun _=>AP b (VA),?_⟩)));try conv=>cbv
 intro c a;cases a.trans (show _=false by decide);conv=>cbv
 refine fun _=>⟨⟨⟨t3,trivial⟩,rfl,by simp⟩,rfl⟩
theorem PW:BW Tryz.prog 92 [.one (.AD 0 0 0),.agg [.sl (.sl AA) T1,.sl AA A1,.sl (.sl AA) T2,.sl AA A2],.one (.int .i64 0)] (.var 0 [.int .i64 0]) (.agg [.sl (.sl AA) T1,.sl AA A1,.sl (.sl AA) T2,.sl AA A2]):=by
 refine Bn Tryz.func92 (by kernel_rfl) rfl fun E b=>?_
 conv=>cbv
 refine .inr (.inr (.inr (.inl ⟨0,.var 0 [.int .i64 0],[.one (.AD 0 0 0),.one (.int .i64 0)],.AE [],fun _=>⟨rfl,⟨⟨⟨rfl,rfl⟩,rfl⟩,rfl,trivial⟩⟩,fun _=>AP b (VA),?_⟩)));try conv=>cbv
 intro c a;cases a.trans (show _=false by decide);conv=>cbv
 refine fun _=>⟨⟨⟨⟨rfl,rfl,rfl,rfl,rfl,trivial⟩,trivial⟩,rfl,by simp⟩,rfl⟩
theorem U9 (F:Fd TT w) (ha:Nm TT w 1950000 ka AL AK va) (hb:Nm TT w 1950000 kb AI AJ vb) (h:ka+kb+111<=80000):∃d c,Nm TT w 1950000 (ka+kb+1) d c (va+vb)/\BW Tryz.prog 75 [.one (.AD 0 0 0),.agg [.sl (.sl AA) AL,.sl AA AK],.agg [.sl (.sl AA) AI,.sl AA AJ]] (.var 0 [.int .i64 0]) (.agg [.sl (.sl AA) d,.sl AA c]):=by
 obtain⟨AQ,AO,b,f,a⟩:=GH F ha hb (by omega) (by omega);refine⟨AQ,AO,b.mono (by omega),?_⟩;refine Bn Tryz.func75 (by kernel_rfl) rfl fun E g=>?_
 conv=>cbv
 refine cL g a ⟨t2,t2,trivial⟩ ?_;try conv=>cbv
 refine .inr (.inr (.inr (.inl ⟨0,.var 0 [.int .i64 0],[.one (.AD 0 0 0),.agg [.sl (.sl AA) AQ,.sl AA AO],.one (.int .i64 0)],.agg [.sl (.sl AA) AQ,.sl AA AO],fun _=>⟨rfl,⟨⟨⟨rfl,rfl⟩,rfl⟩,t2,rfl,trivial⟩⟩,fun _=>AP g (IB),?_⟩)));try conv=>cbv
 refine fun _=>⟨⟨⟨t3,trivial⟩,rfl,by simp⟩,rfl⟩
theorem KZ (F:Fd TT w) (ha:Nm TT w 1950000 ka AL AK va) (hb:Nm TT w 1950000 kb AI AJ vb) (h:ka+kb+111<=80000):∃d c,Nm TT w 1950000 (ka+kb+1) d c (va-vb)/\BW Tryz.prog 97 [.one (.AD 0 0 0),.agg [.sl (.sl AA) AL,.sl AA AK],.agg [.sl (.sl AA) AI,.sl AA AJ]] (.var 0 [.int .i64 0]) (.agg [.sl (.sl AA) d,.sl AA c]):=by
 obtain⟨AQ,AO,b,f,a⟩:=KM F ha hb (by omega) (by omega);refine⟨AQ,AO,b.mono (by omega),?_⟩;refine Bn Tryz.func97 (by kernel_rfl) rfl fun E g=>?_
 conv=>cbv
 refine cL g a ⟨t2,t2,trivial⟩ ?_;try conv=>cbv
 refine .inr (.inr (.inr (.inl ⟨0,.var 0 [.int .i64 0],[.one (.AD 0 0 0),.agg [.sl (.sl AA) AQ,.sl AA AO],.one (.int .i64 0)],.agg [.sl (.sl AA) AQ,.sl AA AO],fun _=>⟨rfl,⟨⟨⟨rfl,rfl⟩,rfl⟩,t2,rfl,trivial⟩⟩,fun _=>AP g (IB),?_⟩)));try conv=>cbv
 refine fun _=>⟨⟨⟨t3,trivial⟩,rfl,by simp⟩,rfl⟩
theorem Gq (F:Fd TT w) (ha:Nm TT w 1950000 ka AL AK va) (hb:Nm TT w 1950000 kb AI AJ vb) (h:ka+kb+111<=80000):∃d c,Nm TT w 1950000 (ka+kb+1) d c (va*vb)/\BW Tryz.prog 40 [.one (.AD 0 0 0),.agg [.sl (.sl AA) AL,.sl AA AK],.agg [.sl (.sl AA) AI,.sl AA AJ]] (.var 0 [.int .i64 0]) (.agg [.sl (.sl AA) d,.sl AA c]):=by
 obtain⟨AQ,AO,b,f,a⟩:=EN F ha hb (by omega) (by omega);refine⟨AQ,AO,b.mono (by omega),?_⟩;refine Bn Tryz.func40 (by kernel_rfl) rfl fun E g=>?_
 conv=>cbv
 refine cL g a ⟨t2,t2,trivial⟩ ?_;try conv=>cbv
 refine .inr (.inr (.inr (.inl ⟨0,.var 0 [.int .i64 0],[.one (.AD 0 0 0),.agg [.sl (.sl AA) AQ,.sl AA AO],.one (.int .i64 0)],.agg [.sl (.sl AA) AQ,.sl AA AO],fun _=>⟨rfl,⟨⟨⟨rfl,rfl⟩,rfl⟩,t2,rfl,trivial⟩⟩,fun _=>AP g (IB),?_⟩)));try conv=>cbv
 refine fun _=>⟨⟨⟨t3,trivial⟩,rfl,by simp⟩,rfl⟩
theorem Fo (F:Fd TT w) (ha:Nm TT w 1950000 ka AL AK va) (hb:Nm TT w 1950000 kb AI AJ vb) (j:vb≠0) (l:ka+47*kb+134<=80000):∃f c,Nm TT w 1950000 (ka+47*kb+24) f c (va*As vb)/\BW Tryz.prog 29 [.one (.AD 0 0 0),.agg [.sl (.sl AA) AL,.sl AA AK],.agg [.sl (.sl AA) AI,.sl AA AJ]] (.var 0 [.int .i64 0]) (.agg [.sl (.sl AA) f,.sl AA c]):=by
 obtain⟨AQ,AO,b,g,a⟩:=D1 F ha hb (d:=47*kb+23) (by omega) j (by omega) (by omega) (by omega);refine⟨AQ,AO,b.mono (by omega),?_⟩;refine Bn Tryz.func29 (by kernel_rfl) rfl fun E h=>?_
 conv=>cbv
 refine cL h a ⟨t2,t2,trivial⟩ ?_;try conv=>cbv
 refine .inr (.inr (.inr (.inl ⟨0,.var 0 [.int .i64 0],[.one (.AD 0 0 0),.agg [.sl (.sl AA) AQ,.sl AA AO],.one (.int .i64 0)],.agg [.sl (.sl AA) AQ,.sl AA AO],fun _=>⟨rfl,⟨⟨⟨rfl,rfl⟩,rfl⟩,t2,rfl,trivial⟩⟩,fun _=>AP h (IB),?_⟩)));try conv=>cbv
 refine fun _=>⟨⟨⟨t3,trivial⟩,rfl,by simp⟩,rfl⟩
theorem Mj (F:Fd TT w) (ha:Vm TT w 1950000 ka ka AL AK AI AJ xa ya) (hb:Vm TT w 1950000 kb kb AQ AO Aa AZ xb yb) (j:ka+kb+111<=80000):∃g f b a,Vm TT w 1950000 (ka+kb+1) (ka+kb+1) g f b a (xa+xb) (ya+yb)/\BW Tryz.prog 73 [.one (.AD 0 0 0),.agg [.sl (.sl AA) AL,.sl AA AK,.sl (.sl AA) AI,.sl AA AJ],.agg [.sl (.sl AA) AQ,.sl AA AO,.sl (.sl AA) Aa,.sl AA AZ]] (.var 0 [.int .i64 0]) (.agg [.sl (.sl AA) g,.sl AA f,.sl (.sl AA) b,.sl AA a]):=by
 obtain⟨Ai,Ah,Ak,Aj,d,c⟩:=M6 F ha hb (by omega) (by omega) (by omega) (by omega);refine⟨Ai,Ah,Ak,Aj,d.mono (by omega) (by omega),?_⟩;refine Bn Tryz.func73 (by kernel_rfl) rfl fun E h=>?_
 conv=>cbv
 refine cL h c ⟨t4,t4,trivial⟩ ?_;try conv=>cbv
 refine .inr (.inr (.inr (.inl ⟨0,.var 0 [.int .i64 0],[.one (.AD 0 0 0),.agg [.sl (.sl AA) Ai,.sl AA Ah,.sl (.sl AA) Ak,.sl AA Aj],.one (.int .i64 0)],.agg [.sl (.sl AA) Ai,.sl AA Ah,.sl (.sl AA) Ak,.sl AA Aj],fun _=>⟨rfl,⟨⟨⟨rfl,rfl⟩,rfl⟩,t4,rfl,trivial⟩⟩,fun _=>AP h (PW),?_⟩)));try conv=>cbv
 refine fun _=>⟨⟨⟨⟨rfl,rfl,rfl,rfl,rfl,trivial⟩,trivial⟩,rfl,by simp⟩,rfl⟩
theorem Ew (F:Fd TT w) (ha:Vm TT w 1950000 ka ka AL AK AI AJ xa ya) (hb:Vm TT w 1950000 kb kb AQ AO Aa AZ xb yb) (l:ka+kb+111<=80000):∃h g b a,Vm TT w 1950000 (ka+kb+1) (ka+kb+1) h g b a (xa-xb) (ya-yb)/\BW Tryz.prog 20 [.one (.AD 0 0 0),.agg [.sl (.sl AA) AL,.sl AA AK,.sl (.sl AA) AI,.sl AA AJ],.agg [.sl (.sl AA) AQ,.sl AA AO,.sl (.sl AA) Aa,.sl AA AZ]] (.var 0 [.int .i64 0]) (.agg [.sl (.sl AA) h,.sl AA g,.sl (.sl AA) b,.sl AA a]):=by
 obtain⟨Ai,Ah,Ak,Aj,d,c⟩:=Wk F ha hb (by omega) (by omega) (by omega) (by omega);have f:=d.cast (x':=xa-xb) (y':=ya-yb) (by grind) (by grind);refine⟨Ai,Ah,Ak,Aj,f.mono (by omega) (by omega),?_⟩;refine Bn Tryz.func20 (by kernel_rfl) rfl fun E j=>?_
 conv=>cbv
 refine cL j c ⟨t4,t4,trivial⟩ ?_;try conv=>cbv
 refine .inr (.inr (.inr (.inl ⟨0,.var 0 [.int .i64 0],[.one (.AD 0 0 0),.agg [.sl (.sl AA) Ai,.sl AA Ah,.sl (.sl AA) Ak,.sl AA Aj],.one (.int .i64 0)],.agg [.sl (.sl AA) Ai,.sl AA Ah,.sl (.sl AA) Ak,.sl AA Aj],fun _=>⟨rfl,⟨⟨⟨rfl,rfl⟩,rfl⟩,t4,rfl,trivial⟩⟩,fun _=>AP j (PW),?_⟩)));try conv=>cbv
 refine fun _=>⟨⟨⟨⟨rfl,rfl,rfl,rfl,rfl,trivial⟩,trivial⟩,rfl,by simp⟩,rfl⟩
theorem KY (F:Fd TT w) {g:Re} {f:Nat} (ha:Vm TT w 1950000 ka ka AL AK AI AJ xa ya) (m:Nm TT w 1950000 f AQ AO g) (n:ka+f+111<=80000):∃j h b a,Vm TT w 1950000 (ka+f+1) (ka+f+1) j h b a (xa*g) (ya*g)/\BW Tryz.prog 72 [.one (.AD 0 0 0),.agg [.sl (.sl AA) AL,.sl AA AK,.sl (.sl AA) AI,.sl AA AJ],.agg [.sl (.sl AA) AQ,.sl AA AO]] (.var 0 [.int .i64 0]) (.agg [.sl (.sl AA) j,.sl AA h,.sl (.sl AA) b,.sl AA a]):=by
 obtain⟨Aa,AZ,Ai,Ah,d,c⟩:=M7 F ha m (by omega) (by omega) (by omega);refine⟨Aa,AZ,Ai,Ah,d.mono (by omega) (by omega),?_⟩;refine Bn Tryz.func72 (by kernel_rfl) rfl fun E l=>?_
 conv=>cbv
 refine cL l c ⟨t4,t2,trivial⟩ ?_;try conv=>cbv
 refine .inr (.inr (.inr (.inl ⟨0,.var 0 [.int .i64 0],[.one (.AD 0 0 0),.agg [.sl (.sl AA) Aa,.sl AA AZ,.sl (.sl AA) Ai,.sl AA Ah],.one (.int .i64 0)],.agg [.sl (.sl AA) Aa,.sl AA AZ,.sl (.sl AA) Ai,.sl AA Ah],fun _=>⟨rfl,⟨⟨⟨rfl,rfl⟩,rfl⟩,t4,rfl,trivial⟩⟩,fun _=>AP l (PW),?_⟩)));try conv=>cbv
 refine fun _=>⟨⟨⟨⟨rfl,rfl,rfl,rfl,rfl,trivial⟩,trivial⟩,rfl,by simp⟩,rfl⟩
theorem PU (F:Fd TT w) (ha:Vm TT w 1950000 ka ka AL AK AI AJ xa ya) (hb:Vm TT w 1950000 kb kb AQ AO Aa AZ xb yb) (g:ka+kb+112<=80000):∃d c,Nm TT w 1950000 (2*ka+2*kb+3) d c (xa*xb+ya*yb)/\BW Tryz.prog 26 [.one (.AD 0 0 0),.agg [.sl (.sl AA) AL,.sl AA AK,.sl (.sl AA) AI,.sl AA AJ],.agg [.sl (.sl AA) AQ,.sl AA AO,.sl (.sl AA) Aa,.sl AA AZ]] (.var 0 [.int .i64 0]) (.agg [.sl (.sl AA) d,.sl AA c]):=by
 obtain⟨Ai,Ah,b,a⟩:=IM F ha hb (by omega) (by omega);refine⟨Ai,Ah,b.mono (by omega),?_⟩;refine Bn Tryz.func26 (by kernel_rfl) rfl fun E f=>?_
 conv=>cbv
 refine cL f a ⟨t4,t4,trivial⟩ ?_;try conv=>cbv
 refine .inr (.inr (.inr (.inl ⟨0,.var 0 [.int .i64 0],[.one (.AD 0 0 0),.agg [.sl (.sl AA) Ai,.sl AA Ah],.one (.int .i64 0)],.agg [.sl (.sl AA) Ai,.sl AA Ah],fun _=>⟨rfl,⟨⟨⟨rfl,rfl⟩,rfl⟩,t2,rfl,trivial⟩⟩,fun _=>AP f (IB),?_⟩)));try conv=>cbv
 refine fun _=>⟨⟨⟨t3,trivial⟩,rfl,by simp⟩,rfl⟩
theorem Mi (F:Fd TT w) (ha:Vm TT w 1950000 ka ka AL AK AI AJ xa ya) (hb:Vm TT w 1950000 kb kb AQ AO Aa AZ xb yb) (h:ka+kb+112<=80000):∃f d,Nm TT w 1950000 (2*ka+2*kb+3) f d (xa*yb-ya*xb)/\BW Tryz.prog 25 [.one (.AD 0 0 0),.agg [.sl (.sl AA) AL,.sl AA AK,.sl (.sl AA) AI,.sl AA AJ],.agg [.sl (.sl AA) AQ,.sl AA AO,.sl (.sl AA) Aa,.sl AA AZ]] (.var 0 [.int .i64 0]) (.agg [.sl (.sl AA) f,.sl AA d]):=by
 obtain⟨Ai,Ah,b,a⟩:=QC F ha hb (by omega) (by omega);have c:=b.cast (y:=xa*yb-ya*xb) (by grind);refine⟨Ai,Ah,c.mono (by omega),?_⟩;refine Bn Tryz.func25 (by kernel_rfl) rfl fun E g=>?_
 conv=>cbv
 refine cL g a ⟨t4,t4,trivial⟩ ?_;try conv=>cbv
 refine .inr (.inr (.inr (.inl ⟨0,.var 0 [.int .i64 0],[.one (.AD 0 0 0),.agg [.sl (.sl AA) Ai,.sl AA Ah],.one (.int .i64 0)],.agg [.sl (.sl AA) Ai,.sl AA Ah],fun _=>⟨rfl,⟨⟨⟨rfl,rfl⟩,rfl⟩,t2,rfl,trivial⟩⟩,fun _=>AP g (IB),?_⟩)));try conv=>cbv
 refine fun _=>⟨⟨⟨t3,trivial⟩,rfl,by simp⟩,rfl⟩
theorem IC (F:Fd TT w) (ha:Vm TT w 1950000 ka ka AL AK AI AJ xa ya) (g:2*ka+112<=80000):∃d c,Nm TT w 1950000 (4*ka+3) d c (xa*xa+ya*ya)/\BW Tryz.prog 23 [.one (.AD 0 0 0),.agg [.sl (.sl AA) AL,.sl AA AK,.sl (.sl AA) AI,.sl AA AJ]] (.var 0 [.int .i64 0]) (.agg [.sl (.sl AA) d,.sl AA c]):=by
 obtain⟨AQ,AO,b,a⟩:=Wj F ha (by omega) (by omega);refine⟨AQ,AO,b.mono (by omega),?_⟩;refine Bn Tryz.func23 (by kernel_rfl) rfl fun E f=>?_
 conv=>cbv
 refine cL f a ⟨t4,trivial⟩ ?_;try conv=>cbv
 refine .inr (.inr (.inr (.inl ⟨0,.var 0 [.int .i64 0],[.one (.AD 0 0 0),.agg [.sl (.sl AA) AQ,.sl AA AO],.one (.int .i64 0)],.agg [.sl (.sl AA) AQ,.sl AA AO],fun _=>⟨rfl,⟨⟨⟨rfl,rfl⟩,rfl⟩,t2,rfl,trivial⟩⟩,fun _=>AP f (IB),?_⟩)));try conv=>cbv
 refine fun _=>⟨⟨⟨t3,trivial⟩,rfl,by simp⟩,rfl⟩
theorem PV (F:Fd TT w) (ha:Vm TT w 1950000 ka ka AL AK AI AJ xa ya) (hb:Vm TT w 1950000 kb kb AQ AO Aa AZ xb yb) (m:2*ka+2*kb+114<=80000):∃j h,Nm TT w 1950000 (4*ka+4*kb+7) j h ((xa-xb)*(xa-xb)+(ya-yb)*(ya-yb))/\BW Tryz.prog 109 [.one (.AD 0 0 0),.agg [.sl (.sl AA) AL,.sl AA AK,.sl (.sl AA) AI,.sl AA AJ],.agg [.sl (.sl AA) AQ,.sl AA AO,.sl (.sl AA) Aa,.sl AA AZ]] (.var 0 [.int .i64 0]) (.agg [.sl (.sl AA) j,.sl AA h]):=by
 obtain⟨Ak,Aj,CD,Bq,f,c⟩:=Ew F ha hb (by omega);obtain⟨b,a,g,d⟩:=IC F f (by omega);refine⟨b,a,g.mono (by omega),?_⟩;refine Bn Tryz.func109 (by kernel_rfl) rfl fun E l=>?_
 conv=>cbv
 refine .inr (.inr (.inr (.inl ⟨0,.var 0 [.int .i64 0],[.one (.AD 0 0 0),.agg [.sl (.sl AA) AL,.sl AA AK,.sl (.sl AA) AI,.sl AA AJ],.agg [.sl (.sl AA) AQ,.sl AA AO,.sl (.sl AA) Aa,.sl AA AZ]],.agg [.sl (.sl AA) Ak,.sl AA Aj,.sl (.sl AA) CD,.sl AA Bq],fun _=>⟨rfl,⟨⟨⟨rfl,rfl⟩,rfl⟩,t4,t4,trivial⟩⟩,fun _=>AP l (c),?_⟩)));try conv=>cbv
 refine .inr (.inr (.inr (.inl ⟨0,.var 0 [.int .i64 0],[.one (.AD 0 0 0),.agg [.sl (.sl AA) Ak,.sl AA Aj,.sl (.sl AA) CD,.sl AA Bq]],.agg [.sl (.sl AA) b,.sl AA a],fun _=>⟨rfl,⟨⟨⟨rfl,rfl⟩,rfl⟩,t4,trivial⟩⟩,fun _=>AP l (d),?_⟩)));try conv=>cbv
 refine fun _=>⟨⟨⟨t3,trivial⟩,rfl,by simp⟩,rfl⟩
theorem PT {T3:List LR} {A3:LR}:BW Tryz.prog 98 [.one (.AD 0 0 0),.agg [.sl (.sl AA) T1,.sl AA A1,.sl (.sl AA) T2,.sl AA A2],.agg [.sl (.sl AA) T3,.sl AA A3]] (.var 0 [.int .i64 0]) (.AE [(true,[.sl (.sl AA) T1,.sl AA A1,.sl (.sl AA) T2,.sl AA A2,.sl (.sl AA) T3,.sl AA A3]),(false,[.int .i64 0])]):=by
 refine Bn Tryz.func98 (by kernel_rfl) rfl fun E c=>?_
 conv=>cbv
 intro b a;cases a.trans (show _=false by decide);conv=>cbv
 refine fun _=>⟨⟨⟨⟨rfl,rfl,rfl,rfl,rfl,rfl,rfl,trivial⟩,t2,trivial⟩,rfl,by simp⟩,rfl⟩
theorem dLx (F:Fd TT w) (g:Vm TT w 1950000 ko ko AL AK AI AJ xo yo) (ha:Vm TT w 1950000 ka ka AQ AO Aa AZ xa ya) (h:¬(xo=xa/\yo=ya)) (j:2*ka+2*ko+443<=80000):∃f d,Nm TT w 1950000 (4*ka+4*ko+7) f d ((xo-xa)*(xo-xa)+(yo-ya)*(yo-ya))/\CF 81 [.agg [.sl (.sl AA) AL,.sl AA AK,.sl (.sl AA) AI,.sl AA AJ],.agg [.sl (.sl AA) AQ,.sl AA AO,.sl (.sl AA) Aa,.sl AA AZ]] (.AE [(true,[.sl (.sl AA) AL,.sl AA AK,.sl (.sl AA) AI,.sl AA AJ,.sl (.sl AA) f,.sl AA d]),(false,[.int .i64 0])]):=by
 obtain⟨Ak,Aj,b,a⟩:=PV F g ha (by omega);refine⟨Ak,Aj,b.mono (by omega),?_⟩;refine BP Tryz.func81 (by kernel_rfl) rfl fun E c=>?_
 conv=>cbv
 refine cL (r:= .one (.bool false)) c (EU F g ha (by omega) (by omega) (by omega) (by omega) (e:=false) ⟨fun z=>(by cases z),fun z=>absurd z h⟩) ⟨t4,t4,trivial⟩ ?_;try conv=>cbv
 refine .inr (.inr (.inr (.inl ⟨12,.var 1 [.int .i64 0],[.one (.AD 0 0 0),.agg [.sl (.sl AA) AL,.sl AA AK,.sl (.sl AA) AI,.sl AA AJ],.agg [.sl (.sl AA) AQ,.sl AA AO,.sl (.sl AA) Aa,.sl AA AZ]],.agg [.sl (.sl AA) Ak,.sl AA Aj],fun _=>⟨rfl,⟨⟨⟨rfl,rfl⟩,rfl⟩,t4,t4,trivial⟩⟩,fun _=>AP c (a),?_⟩)));try conv=>cbv
 refine .inr (.inr (.inr (.inl ⟨12,.var 1 [.int .i64 0],[.one (.AD 0 0 0),.agg [.sl (.sl AA) AL,.sl AA AK,.sl (.sl AA) AI,.sl AA AJ],.agg [.sl (.sl AA) Ak,.sl AA Aj]],.AE [(true,[.sl (.sl AA) AL,.sl AA AK,.sl (.sl AA) AI,.sl AA AJ,.sl (.sl AA) Ak,.sl AA Aj]),(false,[.int .i64 0])],fun _=>⟨rfl,⟨⟨⟨rfl,rfl⟩,rfl⟩,t4,t2,trivial⟩⟩,fun _=>AP c (PT),?_⟩)));try conv=>cbv
 refine⟨fun _=>Aq (by kernel_rfl),?_⟩;exact fA ⟨⟨rfl,rfl,rfl,rfl,rfl,rfl,rfl,trivial⟩,t2,trivial⟩ rfl (by simp)
theorem dM (F:Fd TT w) (c:Vm TT w 1950000 ko ko AL AK AI AJ xo yo) (ha:Vm TT w 1950000 ka ka AQ AO Aa AZ xa ya) (a:xo=xa/\yo=ya) (d:2*ka+2*ko+443<=80000):CF 81 [.agg [.sl (.sl AA) AL,.sl AA AK,.sl (.sl AA) AI,.sl AA AJ],.agg [.sl (.sl AA) AQ,.sl AA AO,.sl (.sl AA) Aa,.sl AA AZ]] (.AE [(true,[.sl (.sl AA) (([]:List LR)),.sl AA (([]:LR)),.sl (.sl AA) (([]:List LR)),.sl AA (([]:LR)),.sl (.sl AA) (([]:List LR)),.sl AA (([]:LR))]),(false,[.int .i64 11])]):=by
 refine BP Tryz.func81 (by kernel_rfl) rfl fun E b=>?_
 conv=>cbv
 refine cL b (EU F c ha (by omega) (by omega) (by omega) (by omega) (e:=true) ⟨fun _=>a,fun _=>rfl⟩) ⟨t4,t4,trivial⟩ ?_;try conv=>cbv
 exact fA ⟨⟨rfl,.inr (.inl ⟨_,rfl⟩),.inr (.inl ⟨_,rfl⟩),.inr (.inl ⟨_,rfl⟩),.inr (.inl ⟨_,rfl⟩),.inr (.inl ⟨_,rfl⟩),.inr (.inl ⟨_,rfl⟩),trivial⟩,t2,trivial⟩ rfl (by simp)
theorem dd (F:Fd TT w) (hp:Vm TT w 1950000 kp kp AL AK AI AJ xp yp) (hq:Vm TT w 1950000 kq kq AQ AO Aa AZ xq yq) (hr:Vm TT w 1950000 kr kr Ai Ah Ak Aj xr yr) (hd:(xq-xp)*(yr-yp)-(yq-yp)*(xr-xp)≠0) (hM:396*kp+198*kq+198*kr+1044<=80000):∃U0 B0 ab aa U1 B1,Vm TT w 1950000 (199*kp+99*kq+99*kr+467) (199*kp+99*kq+99*kr+467) U0 B0 ab aa (xp+(wX xp yp xq yq xr yr)) (yp+(wY xp yp xq yq xr yr))/\Nm TT w 1950000 (792*kp+396*kq+396*kr+1867) U1 B1 ((wX xp yp xq yq xr yr)*(wX xp yp xq yq xr yr)+(wY xp yp xq yq xr yr)*(wY xp yp xq yq xr yr))/\CF 27 [.agg [.sl (.sl AA) AL,.sl AA AK,.sl (.sl AA) AI,.sl AA AJ],.agg [.sl (.sl AA) AQ,.sl AA AO,.sl (.sl AA) Aa,.sl AA AZ],.agg [.sl (.sl AA) Ai,.sl AA Ah,.sl (.sl AA) Ak,.sl AA Aj]] (.AE [(true,[.sl (.sl AA) U0,.sl AA B0,.sl (.sl AA) ab,.sl AA aa,.sl (.sl AA) U1,.sl AA B1]),(false,[.int .i64 0])]):=by
 obtain⟨BA,Ay,m,b,v,ad⟩:=Ew F hq hp (by omega);obtain⟨n,c,o,d,A,ae⟩:=Ew F hr hp (by omega);obtain⟨S,K,az,af⟩:=Mi F v A (by omega);obtain⟨a8,a5,aA⟩:=DK F (p:=((2:Int):Rat)) (by decide +kernel);obtain⟨G,B,aB,ag⟩:=Gq F az aA (by omega);have J:=aB.cast (y:=((xq-xp)*(yr-yp)-(yq-yp)*(xr-xp))+((xq-xp)*(yr-yp)-(yq-yp)*(xr-xp))) (by rw[JQ];grind);obtain⟨aO,a6,aR,ax⟩:=DQ F J (by omega);have a7:aO≠0:=fun z=>(HV hd) (Dv.1 (a6.symm.trans z))
 obtain⟨H,C,Z,ah⟩:=IC F v (by omega);obtain⟨I,D,a1,ai⟩:=IC F A (by omega);obtain⟨T,L,aC,aj⟩:=Gq F A.y Z (by omega);obtain⟨U,M,aD,ak⟩:=Gq F v.y a1 (by omega);obtain⟨V,N,aE,al⟩:=KZ F aC aD (by omega);obtain⟨q,f,aF,an⟩:=Fo F aE J (HV hd) (by omega);obtain⟨W,O,aG,ao⟩:=Gq F v.x a1 (by omega);obtain⟨X,P,aH,aq⟩:=Gq F A.x Z (by omega);obtain⟨Y,R,aI,ar⟩:=KZ F aG aH (by omega);obtain⟨r,g,aJ,au⟩:=Fo F aI J (HV hd) (by omega);have aK:Vm _ w 1950000 (198*kp+99*kq+99*kr+466) (198*kp+99*kq+99*kr+466) q f r g _ _:=⟨aF.mono (by omega),aJ.mono (by omega)⟩;have a2:=aK.cast (x':=wX xp yp xq yq xr yr) (y':=wY xp yp xq yq xr yr) (rfl) (rfl);obtain⟨s,h,t,j,aL,av⟩:=Mj F hp a2 (by omega)
 obtain⟨u,l,aM,aw⟩:=IC F a2 (by omega);refine⟨s,h,t,j,u,l,aL.mono (by omega) (by omega),aM.mono (by omega),?_⟩;refine BP Tryz.func27 (by kernel_rfl) rfl fun E a=>?_
 conv=>cbv
 refine .inr (.inr (.inr (.inl ⟨16,.var 1 [.int .i64 0],[.one (.AD 0 0 0),.agg [.sl (.sl AA) AQ,.sl AA AO,.sl (.sl AA) Aa,.sl AA AZ],.agg [.sl (.sl AA) AL,.sl AA AK,.sl (.sl AA) AI,.sl AA AJ]],.agg [.sl (.sl AA) BA,.sl AA Ay,.sl (.sl AA) m,.sl AA b],fun _=>⟨rfl,⟨⟨⟨rfl,rfl⟩,rfl⟩,t4,t4,trivial⟩⟩,fun _=>AP a (ad),?_⟩)));try conv=>cbv
 refine .inr (.inr (.inr (.inl ⟨16,.var 1 [.int .i64 0],[.one (.AD 0 0 0),.agg [.sl (.sl AA) Ai,.sl AA Ah,.sl (.sl AA) Ak,.sl AA Aj],.agg [.sl (.sl AA) AL,.sl AA AK,.sl (.sl AA) AI,.sl AA AJ]],.agg [.sl (.sl AA) n,.sl AA c,.sl (.sl AA) o,.sl AA d],fun _=>⟨rfl,⟨⟨⟨rfl,rfl⟩,rfl⟩,t4,t4,trivial⟩⟩,fun _=>AP a (ae),?_⟩)));try conv=>cbv
 refine⟨fun _=>Aq (by kernel_rfl),?_⟩;refine .inr (.inr (.inr (.inl ⟨16,.var 1 [.int .i64 0],[.one (.AD 0 0 0),.agg [.sl (.sl AA) BA,.sl AA Ay,.sl (.sl AA) m,.sl AA b],.agg [.sl (.sl AA) n,.sl AA c,.sl (.sl AA) o,.sl AA d]],.agg [.sl (.sl AA) S,.sl AA K],fun _=>⟨rfl,⟨⟨⟨rfl,rfl⟩,rfl⟩,t4,t4,trivial⟩⟩,fun _=>AP a (af),?_⟩)));try conv=>cbv
 refine cL a (D6 (by decide) a5) t1 ?_;try conv=>cbv
 refine .inr (.inr (.inr (.inl ⟨16,.var 1 [.int .i64 0],[.one (.AD 0 0 0),.agg [.sl (.sl AA) S,.sl AA K],.agg [.sl (.sl AA) (([]:List LR)),.sl AA a8]],.agg [.sl (.sl AA) G,.sl AA B],fun _=>⟨rfl,⟨⟨⟨rfl,rfl⟩,rfl⟩,t2,t2,trivial⟩⟩,fun _=>AP a (ag),?_⟩)));try conv=>cbv
 intro aS aP;cases aP.trans (show _=true by decide);conv=>cbv
 refine cL a ax ⟨t2,trivial⟩ ?_;try conv=>cbv
 intro aQ ay;conv=>cbv
 cases aQ <;> conv=>cbv
 ·have aN:=Au ay;refine .inr (.inr (.inr (.inl ⟨16,.var 1 [.int .i64 0],[.one (.AD 0 0 0),.agg [.sl (.sl AA) BA,.sl AA Ay,.sl (.sl AA) m,.sl AA b]],.agg [.sl (.sl AA) H,.sl AA C],fun _=>⟨rfl,⟨⟨⟨rfl,rfl⟩,rfl⟩,t4,trivial⟩⟩,fun _=>AP a (ah),?_⟩)));try conv=>cbv
  refine .inr (.inr (.inr (.inl ⟨16,.var 1 [.int .i64 0],[.one (.AD 0 0 0),.agg [.sl (.sl AA) n,.sl AA c,.sl (.sl AA) o,.sl AA d]],.agg [.sl (.sl AA) I,.sl AA D],fun _=>⟨rfl,⟨⟨⟨rfl,rfl⟩,rfl⟩,t4,trivial⟩⟩,fun _=>AP a (ai),?_⟩)));try conv=>cbv
  refine⟨fun _=>Aq (by kernel_rfl),?_⟩;refine .inr (.inr (.inr (.inl ⟨16,.var 1 [.int .i64 0],[.one (.AD 0 0 0),.agg [.sl (.sl AA) o,.sl AA d],.agg [.sl (.sl AA) H,.sl AA C]],.agg [.sl (.sl AA) T,.sl AA L],fun _=>⟨rfl,⟨⟨⟨rfl,rfl⟩,rfl⟩,t2,t2,trivial⟩⟩,fun _=>AP a (aj),?_⟩)));try conv=>cbv
  refine .inr (.inr (.inr (.inl ⟨16,.var 1 [.int .i64 0],[.one (.AD 0 0 0),.agg [.sl (.sl AA) m,.sl AA b],.agg [.sl (.sl AA) I,.sl AA D]],.agg [.sl (.sl AA) U,.sl AA M],fun _=>⟨rfl,⟨⟨⟨rfl,rfl⟩,rfl⟩,t2,t2,trivial⟩⟩,fun _=>AP a (ak),?_⟩)));try conv=>cbv
  refine .inr (.inr (.inr (.inl ⟨16,.var 1 [.int .i64 0],[.one (.AD 0 0 0),.agg [.sl (.sl AA) T,.sl AA L],.agg [.sl (.sl AA) U,.sl AA M]],.agg [.sl (.sl AA) V,.sl AA N],fun _=>⟨rfl,⟨⟨⟨rfl,rfl⟩,rfl⟩,t2,t2,trivial⟩⟩,fun _=>AP a (al),?_⟩)));try conv=>cbv
  refine .inr (.inr (.inr (.inl ⟨16,.var 1 [.int .i64 0],[.one (.AD 0 0 0),.agg [.sl (.sl AA) V,.sl AA N],.agg [.sl (.sl AA) G,.sl AA B]],.agg [.sl (.sl AA) q,.sl AA f],fun _=>⟨rfl,⟨⟨⟨rfl,rfl⟩,rfl⟩,t2,t2,trivial⟩⟩,fun _=>AP a (an),?_⟩)));try conv=>cbv
  refine .inr (.inr (.inr (.inl ⟨16,.var 1 [.int .i64 0],[.one (.AD 0 0 0),.agg [.sl (.sl AA) BA,.sl AA Ay],.agg [.sl (.sl AA) I,.sl AA D]],.agg [.sl (.sl AA) W,.sl AA O],fun _=>⟨rfl,⟨⟨⟨rfl,rfl⟩,rfl⟩,t2,t2,trivial⟩⟩,fun _=>AP a (ao),?_⟩)));try conv=>cbv
  refine .inr (.inr (.inr (.inl ⟨16,.var 1 [.int .i64 0],[.one (.AD 0 0 0),.agg [.sl (.sl AA) n,.sl AA c],.agg [.sl (.sl AA) H,.sl AA C]],.agg [.sl (.sl AA) X,.sl AA P],fun _=>⟨rfl,⟨⟨⟨rfl,rfl⟩,rfl⟩,t2,t2,trivial⟩⟩,fun _=>AP a (aq),?_⟩)));try conv=>cbv
  refine .inr (.inr (.inr (.inl ⟨16,.var 1 [.int .i64 0],[.one (.AD 0 0 0),.agg [.sl (.sl AA) W,.sl AA O],.agg [.sl (.sl AA) X,.sl AA P]],.agg [.sl (.sl AA) Y,.sl AA R],fun _=>⟨rfl,⟨⟨⟨rfl,rfl⟩,rfl⟩,t2,t2,trivial⟩⟩,fun _=>AP a (ar),?_⟩)));try conv=>cbv
  refine .inr (.inr (.inr (.inl ⟨16,.var 1 [.int .i64 0],[.one (.AD 0 0 0),.agg [.sl (.sl AA) Y,.sl AA R],.agg [.sl (.sl AA) G,.sl AA B]],.agg [.sl (.sl AA) r,.sl AA g],fun _=>⟨rfl,⟨⟨⟨rfl,rfl⟩,rfl⟩,t2,t2,trivial⟩⟩,fun _=>AP a (au),?_⟩)));try conv=>cbv
  refine⟨fun _=>Aq (by kernel_rfl),?_⟩;refine .inr (.inr (.inr (.inl ⟨16,.var 1 [.int .i64 0],[.one (.AD 0 0 0),.agg [.sl (.sl AA) AL,.sl AA AK,.sl (.sl AA) AI,.sl AA AJ],.agg [.sl (.sl AA) q,.sl AA f,.sl (.sl AA) r,.sl AA g]],.agg [.sl (.sl AA) s,.sl AA h,.sl (.sl AA) t,.sl AA j],fun _=>⟨rfl,⟨⟨⟨rfl,rfl⟩,rfl⟩,t4,t4,trivial⟩⟩,fun _=>AP a (av),?_⟩)));try conv=>cbv
  refine .inr (.inr (.inr (.inl ⟨16,.var 1 [.int .i64 0],[.one (.AD 0 0 0),.agg [.sl (.sl AA) q,.sl AA f,.sl (.sl AA) r,.sl AA g]],.agg [.sl (.sl AA) u,.sl AA l],fun _=>⟨rfl,⟨⟨⟨rfl,rfl⟩,rfl⟩,t4,trivial⟩⟩,fun _=>AP a (aw),?_⟩)));try conv=>cbv
  refine .inr (.inr (.inr (.inl ⟨16,.var 1 [.int .i64 0],[.one (.AD 0 0 0),.agg [.sl (.sl AA) s,.sl AA h,.sl (.sl AA) t,.sl AA j],.agg [.sl (.sl AA) u,.sl AA l]],.AE [(true,[.sl (.sl AA) s,.sl AA h,.sl (.sl AA) t,.sl AA j,.sl (.sl AA) u,.sl AA l]),(false,[.int .i64 0])],fun _=>⟨rfl,⟨⟨⟨rfl,rfl⟩,rfl⟩,t4,t2,trivial⟩⟩,fun _=>AP a (PT),?_⟩)));try conv=>cbv
  refine⟨fun _=>Aq (by kernel_rfl),?_⟩;exact fA ⟨⟨rfl,rfl,rfl,rfl,rfl,rfl,rfl,trivial⟩,t2,trivial⟩ rfl (by simp)
 have aN:=Av ay;exact absurd aN a7
theorem df (F:Fd TT w) (J:Vm TT w 1950000 kp kp AL AK AI AJ xp yp) (L:Vm TT w 1950000 kq kq AQ AO Aa AZ xq yq) (M:Vm TT w 1950000 kr kr Ai Ah Ak Aj xr yr) (K:(xq-xp)*(yr-yp)-(yq-yp)*(xr-xp)=0) (P:4*kp+2*kq+2*kr+120<=80000):CF 27 [.agg [.sl (.sl AA) AL,.sl AA AK,.sl (.sl AA) AI,.sl AA AJ],.agg [.sl (.sl AA) AQ,.sl AA AO,.sl (.sl AA) Aa,.sl AA AZ],.agg [.sl (.sl AA) Ai,.sl AA Ah,.sl (.sl AA) Ak,.sl AA Aj]] (.AE [(true,[.sl (.sl AA) (([]:List LR)),.sl AA (([]:LR)),.sl (.sl AA) (([]:List LR)),.sl AA (([]:LR)),.sl (.sl AA) (([]:List LR)),.sl AA (([]:LR))]),(false,[.int .i64 10])]):=by
 obtain⟨BA,Ay,f,a,y,s⟩:=Ew F L J (by omega);obtain⟨g,b,h,c,z,t⟩:=Ew F M J (by omega);obtain⟨j,d,A,u⟩:=Mi F y z (by omega);obtain⟨o,l,B⟩:=DK F (p:=((2:Int):Rat)) (by decide +kernel);obtain⟨r,q,C,v⟩:=Gq F A B (by omega);obtain⟨D,m,I,x⟩:=DQ F C (by omega);obtain rfl:D=0:=m.trans (by rw[K];exact (congrArg BJ (by grind)).trans Dw);refine BP Tryz.func27 (by kernel_rfl) rfl fun E n=>?_
 conv=>cbv
 refine .inr (.inr (.inr (.inl ⟨16,.var 1 [.int .i64 0],[.one (.AD 0 0 0),.agg [.sl (.sl AA) AQ,.sl AA AO,.sl (.sl AA) Aa,.sl AA AZ],.agg [.sl (.sl AA) AL,.sl AA AK,.sl (.sl AA) AI,.sl AA AJ]],.agg [.sl (.sl AA) BA,.sl AA Ay,.sl (.sl AA) f,.sl AA a],fun _=>⟨rfl,⟨⟨⟨rfl,rfl⟩,rfl⟩,t4,t4,trivial⟩⟩,fun _=>AP n (s),?_⟩)));try conv=>cbv
 refine .inr (.inr (.inr (.inl ⟨16,.var 1 [.int .i64 0],[.one (.AD 0 0 0),.agg [.sl (.sl AA) Ai,.sl AA Ah,.sl (.sl AA) Ak,.sl AA Aj],.agg [.sl (.sl AA) AL,.sl AA AK,.sl (.sl AA) AI,.sl AA AJ]],.agg [.sl (.sl AA) g,.sl AA b,.sl (.sl AA) h,.sl AA c],fun _=>⟨rfl,⟨⟨⟨rfl,rfl⟩,rfl⟩,t4,t4,trivial⟩⟩,fun _=>AP n (t),?_⟩)));try conv=>cbv
 refine⟨fun _=>Aq (by kernel_rfl),?_⟩;refine .inr (.inr (.inr (.inl ⟨16,.var 1 [.int .i64 0],[.one (.AD 0 0 0),.agg [.sl (.sl AA) BA,.sl AA Ay,.sl (.sl AA) f,.sl AA a],.agg [.sl (.sl AA) g,.sl AA b,.sl (.sl AA) h,.sl AA c]],.agg [.sl (.sl AA) j,.sl AA d],fun _=>⟨rfl,⟨⟨⟨rfl,rfl⟩,rfl⟩,t4,t4,trivial⟩⟩,fun _=>AP n (u),?_⟩)));try conv=>cbv
 refine cL n (D6 (by decide) l) t1 ?_;try conv=>cbv
 refine .inr (.inr (.inr (.inl ⟨16,.var 1 [.int .i64 0],[.one (.AD 0 0 0),.agg [.sl (.sl AA) j,.sl AA d],.agg [.sl (.sl AA) (([]:List LR)),.sl AA o]],.agg [.sl (.sl AA) r,.sl AA q],fun _=>⟨rfl,⟨⟨⟨rfl,rfl⟩,rfl⟩,t2,t2,trivial⟩⟩,fun _=>AP n (v),?_⟩)));try conv=>cbv
 intro N G;cases G.trans (show _=true by decide);conv=>cbv
 refine cL n x ⟨t2,trivial⟩ ?_;try conv=>cbv
 intro O H;cases H.trans (show _=true by decide);conv=>cbv
 exact fA ⟨⟨rfl,.inr (.inl ⟨_,rfl⟩),.inr (.inl ⟨_,rfl⟩),.inr (.inl ⟨_,rfl⟩),.inr (.inl ⟨_,rfl⟩),.inr (.inl ⟨_,rfl⟩),.inr (.inl ⟨_,rfl⟩),trivial⟩,t2,trivial⟩ rfl (by simp)
theorem dZ (F:Fd TT w) (n:Vm TT w 1950000 ko ko AL AK AI AJ xo yo) (o:Nm TT w 1950000 ks AQ AO vs) (ha:Vm TT w 1950000 ka ka Aa AZ Ai Ah xa ya) (q:4*ka+4*ko+ks+118<=80000):∃l j,Nm TT w 1950000 (4*ka+4*ko+ks+8) l j (((xo-xa)*(xo-xa)+(yo-ya)*(yo-ya))-vs)/\CF 37 [.agg [.sl (.sl AA) AL,.sl AA AK,.sl (.sl AA) AI,.sl AA AJ,.sl (.sl AA) AQ,.sl AA AO],.agg [.sl (.sl AA) Aa,.sl AA AZ,.sl (.sl AA) Ai,.sl AA Ah]] (.AE [(true,[.sl (.sl AA) l,.sl AA j]),(false,[.int .i64 0])]):=by
 obtain⟨CD,Bq,f,c⟩:=PV F n ha (by omega);obtain⟨b,a,g,d⟩:=KZ F f o (by omega);refine⟨b,a,g.mono (by omega),?_⟩;refine BP Tryz.func37 (by kernel_rfl) rfl fun E m=>?_
 conv=>cbv
 refine .inr (.inr (.inr (.inl ⟨9,.var 1 [.int .i64 0],[.one (.AD 0 0 0),.agg [.sl (.sl AA) AL,.sl AA AK,.sl (.sl AA) AI,.sl AA AJ],.agg [.sl (.sl AA) Aa,.sl AA AZ,.sl (.sl AA) Ai,.sl AA Ah]],.agg [.sl (.sl AA) CD,.sl AA Bq],fun _=>⟨rfl,⟨⟨⟨rfl,rfl⟩,rfl⟩,t4,t4,trivial⟩⟩,fun _=>AP m (c),?_⟩)));try conv=>cbv
 refine .inr (.inr (.inr (.inl ⟨9,.var 1 [.int .i64 0],[.one (.AD 0 0 0),.agg [.sl (.sl AA) CD,.sl AA Bq],.agg [.sl (.sl AA) AQ,.sl AA AO]],.agg [.sl (.sl AA) b,.sl AA a],fun _=>⟨rfl,⟨⟨⟨rfl,rfl⟩,rfl⟩,t2,t2,trivial⟩⟩,fun _=>AP m (d),?_⟩)));try conv=>cbv
 refine⟨fun _=>Aq (by kernel_rfl),?_⟩;intro p h;cases h.trans (show _=false by decide);conv=>cbv
 exact fA ⟨t3,t2,trivial⟩ rfl (by simp)
theorem dO (F:Fd TT w) {vi:Re} {ki:Nat} (hp:Vm TT w 1950000 kp kp AL AK AI AJ xp yp) (hq:Vm TT w 1950000 kq kq AQ AO Aa AZ xq yq) (ht:Nm TT w 1950000 kt Ai Ah vt) (hi:Nm TT w 1950000 ki Ak Aj vi) (h0:¬(xp=xq/\yp=yq)) (ak:vt≠0) (aw:vt*vi=1) (hM:2*ki+8*kp+4*kq+47*kt+443<=80000):∃U0 B0 U T U1 B1,Vm TT w 1950000 (ki+3*kp+2*kq+9) (ki+3*kp+2*kq+9) U0 B0 U T (iX xp yp xq yq vt) (iY xp yp xq yq vt)/\Nm TT w 1950000 (4*ki+16*kp+8*kq+43) U1 B1 (((iX xp yp xq yq vt)-xp)*((iX xp yp xq yq vt)-xp)+((iY xp yp xq yq vt)-yp)*((iY xp yp xq yq vt)-yp))/\CF 39 [.agg [.sl (.sl AA) AL,.sl AA AK,.sl (.sl AA) AI,.sl AA AJ],.agg [.sl (.sl AA) AQ,.sl AA AO,.sl (.sl AA) Aa,.sl AA AZ],.agg [.sl (.sl AA) Ai,.sl AA Ah]] (.AE [(true,[.sl (.sl AA) U0,.sl AA B0,.sl (.sl AA) U,.sl AA T,.sl (.sl AA) U1,.sl AA B1]),(false,[.int .i64 0])]):=by
 obtain⟨an,N,ay,a6⟩:=DQ F ht (by omega);have O:an≠0:=fun z=>ak (Dv.1 (N.symm.trans z))
 obtain⟨y,n,A,o,a8,V⟩:=Ew F hq hp (by omega);obtain⟨ao,ar,aq,au,av⟩:=Bb (1/2:Rat);have M:(1/2:Rat)=Rat.divInt 1 2:=by decide +kernel
 obtain⟨P,K,aa⟩:=DK F (p:=(1/2:Rat)) (by decide +kernel);obtain⟨l,j,m,q,I,W⟩:=KY F a8 aa (by omega);obtain⟨B,s,C,t,ab,X⟩:=Mj F hp I (by omega);obtain⟨R,ad,Y⟩:=Kp F I (by omega) (by omega);obtain⟨S,L,ae⟩:=DK F (p:=((1:Int):Rat)) (by decide +kernel);obtain⟨D,u,af,Z⟩:=Fo F ae ht ak (by omega);have ag:=af.shrink hi (by rw[H3 aw,show Re.ofRat ((1:Int):Rat)=1 from rfl];grind);obtain⟨G,v,H,x,ah,a1⟩:=KY F ad ag (by omega);obtain⟨c,a,d,b,ai,a2⟩:=Mj F ab ah (by omega);have J:=ai.cast (x':=iX xp yp xq yq vt) (y':=iY xp yp xq yq vt) (rfl) (rfl);obtain⟨g,f,aj,a5⟩:=PV F J hp (by omega);refine⟨c,a,d,b,g,f,J.mono (by omega) (by omega),aj.mono (by omega),?_⟩;refine BP Tryz.func39 (by kernel_rfl) rfl fun E h=>?_
 conv=>cbv
 refine cL (r:= .one (.bool false)) h (EU F hp hq (by omega) (by omega) (by omega) (by omega) (e:=false) ⟨fun z=>(by cases z),fun z=>absurd z h0⟩) ⟨t4,t4,trivial⟩ ?_;try conv=>cbv
 refine cL h a6 ⟨t2,trivial⟩ ?_;try conv=>cbv
 intro ax a7;conv=>cbv
 cases ax <;> conv=>cbv
 ·have al:=Au a7;refine .inr (.inr (.inr (.inl ⟨20,.var 1 [.int .i64 0],[.one (.AD 0 0 0),.agg [.sl (.sl AA) AQ,.sl AA AO,.sl (.sl AA) Aa,.sl AA AZ],.agg [.sl (.sl AA) AL,.sl AA AK,.sl (.sl AA) AI,.sl AA AJ]],.agg [.sl (.sl AA) y,.sl AA n,.sl (.sl AA) A,.sl AA o],fun _=>⟨rfl,⟨⟨⟨rfl,rfl⟩,rfl⟩,t4,t4,trivial⟩⟩,fun _=>AP h (V),?_⟩)));try conv=>cbv
  refine cL h (K7 (by decide) (by decide) (by decide) M K) t2 ?_;try conv=>cbv
  refine .inr (.inr (.inr (.inl ⟨20,.var 1 [.int .i64 0],[.one (.AD 0 0 0),.agg [.sl (.sl AA) y,.sl AA n,.sl (.sl AA) A,.sl AA o],.agg [.sl (.sl AA) (([]:List LR)),.sl AA P]],.agg [.sl (.sl AA) l,.sl AA j,.sl (.sl AA) m,.sl AA q],fun _=>⟨rfl,⟨⟨⟨rfl,rfl⟩,rfl⟩,t4,t2,trivial⟩⟩,fun _=>AP h (W),?_⟩)));try conv=>cbv
  refine .inr (.inr (.inr (.inl ⟨20,.var 1 [.int .i64 0],[.one (.AD 0 0 0),.agg [.sl (.sl AA) AL,.sl AA AK,.sl (.sl AA) AI,.sl AA AJ],.agg [.sl (.sl AA) l,.sl AA j,.sl (.sl AA) m,.sl AA q]],.agg [.sl (.sl AA) B,.sl AA s,.sl (.sl AA) C,.sl AA t],fun _=>⟨rfl,⟨⟨⟨rfl,rfl⟩,rfl⟩,t4,t4,trivial⟩⟩,fun _=>AP h (X),?_⟩)));try conv=>cbv
  refine cL h Y ⟨t4,trivial⟩ ?_;try conv=>cbv
  refine cL h (D6 (by decide) L) t1 ?_;try conv=>cbv
  refine .inr (.inr (.inr (.inl ⟨20,.var 1 [.int .i64 0],[.one (.AD 0 0 0),.agg [.sl (.sl AA) (([]:List LR)),.sl AA S],.agg [.sl (.sl AA) Ai,.sl AA Ah]],.agg [.sl (.sl AA) D,.sl AA u],fun _=>⟨rfl,⟨⟨⟨rfl,rfl⟩,rfl⟩,t2,t2,trivial⟩⟩,fun _=>AP h (Z),?_⟩)));try conv=>cbv
  refine .inr (.inr (.inr (.inl ⟨20,.var 1 [.int .i64 0],[.one (.AD 0 0 0),.agg [.sl (.sl AA) m,.sl AA R,.sl (.sl AA) l,.sl AA j],.agg [.sl (.sl AA) D,.sl AA u]],.agg [.sl (.sl AA) G,.sl AA v,.sl (.sl AA) H,.sl AA x],fun _=>⟨rfl,⟨⟨⟨rfl,rfl⟩,rfl⟩,t4,t2,trivial⟩⟩,fun _=>AP h (a1),?_⟩)));try conv=>cbv
  refine .inr (.inr (.inr (.inl ⟨20,.var 1 [.int .i64 0],[.one (.AD 0 0 0),.agg [.sl (.sl AA) B,.sl AA s,.sl (.sl AA) C,.sl AA t],.agg [.sl (.sl AA) G,.sl AA v,.sl (.sl AA) H,.sl AA x]],.agg [.sl (.sl AA) c,.sl AA a,.sl (.sl AA) d,.sl AA b],fun _=>⟨rfl,⟨⟨⟨rfl,rfl⟩,rfl⟩,t4,t4,trivial⟩⟩,fun _=>AP h (a2),?_⟩)));try conv=>cbv
  refine⟨fun _=>Aq (by kernel_rfl),?_⟩;refine .inr (.inr (.inr (.inl ⟨20,.var 1 [.int .i64 0],[.one (.AD 0 0 0),.agg [.sl (.sl AA) c,.sl AA a,.sl (.sl AA) d,.sl AA b],.agg [.sl (.sl AA) AL,.sl AA AK,.sl (.sl AA) AI,.sl AA AJ]],.agg [.sl (.sl AA) g,.sl AA f],fun _=>⟨rfl,⟨⟨⟨rfl,rfl⟩,rfl⟩,t4,t4,trivial⟩⟩,fun _=>AP h (a5),?_⟩)));try conv=>cbv
  refine .inr (.inr (.inr (.inl ⟨20,.var 1 [.int .i64 0],[.one (.AD 0 0 0),.agg [.sl (.sl AA) c,.sl AA a,.sl (.sl AA) d,.sl AA b],.agg [.sl (.sl AA) g,.sl AA f]],.AE [(true,[.sl (.sl AA) c,.sl AA a,.sl (.sl AA) d,.sl AA b,.sl (.sl AA) g,.sl AA f]),(false,[.int .i64 0])],fun _=>⟨rfl,⟨⟨⟨rfl,rfl⟩,rfl⟩,t4,t2,trivial⟩⟩,fun _=>AP h (PT),?_⟩)));try conv=>cbv
  refine⟨fun _=>Aq (by kernel_rfl),?_⟩;exact fA ⟨⟨rfl,rfl,rfl,rfl,rfl,rfl,rfl,trivial⟩,t2,trivial⟩ rfl (by simp)
 have al:=Av a7;exact absurd al O
theorem dP (F:Fd TT w) (c:Vm TT w 1950000 kp kp AL AK AI AJ xp yp) (d:Vm TT w 1950000 kq kq AQ AO Aa AZ xq yq) (ht:Nm TT w 1950000 kt Ai Ah vt) (a:xp=xq/\yp=yq) (f:2*kp+2*kq+443<=80000):CF 39 [.agg [.sl (.sl AA) AL,.sl AA AK,.sl (.sl AA) AI,.sl AA AJ],.agg [.sl (.sl AA) AQ,.sl AA AO,.sl (.sl AA) Aa,.sl AA AZ],.agg [.sl (.sl AA) Ai,.sl AA Ah]] (.AE [(true,[.sl (.sl AA) (([]:List LR)),.sl AA (([]:LR)),.sl (.sl AA) (([]:List LR)),.sl AA (([]:LR)),.sl (.sl AA) (([]:List LR)),.sl AA (([]:LR))]),(false,[.int .i64 11])]):=by
 refine BP Tryz.func39 (by kernel_rfl) rfl fun E b=>?_
 conv=>cbv
 refine cL b (EU F c d (by omega) (by omega) (by omega) (by omega) (e:=true) ⟨fun _=>a,fun _=>rfl⟩) ⟨t4,t4,trivial⟩ ?_;try conv=>cbv
 exact fA ⟨⟨rfl,.inr (.inl ⟨_,rfl⟩),.inr (.inl ⟨_,rfl⟩),.inr (.inl ⟨_,rfl⟩),.inr (.inl ⟨_,rfl⟩),.inr (.inl ⟨_,rfl⟩),.inr (.inl ⟨_,rfl⟩),trivial⟩,t2,trivial⟩ rfl (by simp)
theorem dQ (F:Fd TT w) (l:Vm TT w 1950000 kp kp AL AK AI AJ xp yp) (m:Vm TT w 1950000 kq kq AQ AO Aa AZ xq yq) (ht:Nm TT w 1950000 kt Ai Ah vt) (j:¬(xp=xq/\yp=yq)) (f:vt=0) (o:2*kp+2*kq+kt+443<=80000):CF 39 [.agg [.sl (.sl AA) AL,.sl AA AK,.sl (.sl AA) AI,.sl AA AJ],.agg [.sl (.sl AA) AQ,.sl AA AO,.sl (.sl AA) Aa,.sl AA AZ],.agg [.sl (.sl AA) Ai,.sl AA Ah]] (.AE [(true,[.sl (.sl AA) (([]:List LR)),.sl AA (([]:LR)),.sl (.sl AA) (([]:List LR)),.sl AA (([]:LR)),.sl (.sl AA) (([]:List LR)),.sl AA (([]:LR))]),(false,[.int .i64 6])]):=by
 obtain⟨c,a,g,b⟩:=DQ F ht (by omega);obtain rfl:c=0:=a.trans (by rw[f];exact Dw);refine BP Tryz.func39 (by kernel_rfl) rfl fun E h=>?_
 conv=>cbv
 refine cL (r:= .one (.bool false)) h (EU F l m (by omega) (by omega) (by omega) (by omega) (e:=false) ⟨fun z=>(by cases z),fun z=>absurd z j⟩) ⟨t4,t4,trivial⟩ ?_;try conv=>cbv
 refine cL h b ⟨t2,trivial⟩ ?_;try conv=>cbv
 intro n d;cases d.trans (show _=true by decide);conv=>cbv
 exact fA ⟨⟨rfl,.inr (.inl ⟨_,rfl⟩),.inr (.inl ⟨_,rfl⟩),.inr (.inl ⟨_,rfl⟩),.inr (.inl ⟨_,rfl⟩),.inr (.inl ⟨_,rfl⟩),.inr (.inl ⟨_,rfl⟩),trivial⟩,t2,trivial⟩ rfl (by simp)
theorem dY (F:Fd TT w) {p a:el CP} (l:Q[i.toNat]? =some p) (n:Q[k.toNat]? =some a) (m:0<=i) (o:0<=k) (q:Vm TT w 1950000 kp kp p.1.1 p.1.2 p.2.1 p.2.2 xp yp) (ha:Vm TT w 1950000 ka ka a.1.1 a.1.2 a.2.1 a.2.2 xa ya) (h:¬(xp=xa/\yp=ya)) (s:2*ka+2*kp+443<=80000):∃g f,Nm TT w 1950000 (4*ka+4*kp+7) g f ((xp-xa)*(xp-xa)+(yp-ya)*(yp-ya))/\CF 17 [.one (.sl CP Q),.one (.int .i64 i),.one (.int .i64 k)] (.AE [(true,[.sl (.sl AA) p.1.1,.sl AA p.1.2,.sl (.sl AA) p.2.1,.sl AA p.2.2,.sl (.sl AA) g,.sl AA f]),(false,[.bool true])]):=by
 obtain⟨AI,AJ,c,b⟩:=dLx F q ha h (by omega);refine⟨AI,AJ,c.mono (by omega),?_⟩;refine BP Tryz.func17 (by kernel_rfl) rfl fun E j=>?_
 conv=>cbv
 refine⟨p,fun _=>⟨by omega,l⟩,?_⟩;try conv=>cbv
 refine⟨a,fun _=>⟨by omega,n⟩,?_⟩;try conv=>cbv
 refine cL j b ⟨t4,t4,trivial⟩ ?_;try conv=>cbv
 refine⟨fun _=>Aq (by kernel_rfl),?_⟩;intro r d;cases d.trans (show _=true by decide);conv=>cbv
 exact fA ⟨⟨rfl,rfl,rfl,rfl,rfl,rfl,rfl,trivial⟩,t2,trivial⟩ rfl (by simp)
theorem dX (F:Fd TT w) {p a:el CP} (f:Q[i.toNat]? =some p) (h:Q[k.toNat]? =some a) (g:0<=i) (j:0<=k) (l:Vm TT w 1950000 kp kp p.1.1 p.1.2 p.2.1 p.2.2 xp yp) (ha:Vm TT w 1950000 ka ka a.1.1 a.1.2 a.2.1 a.2.2 xa ya) (c:xp=xa/\yp=ya) (n:2*ka+2*kp+443<=80000):CF 17 [.one (.sl CP Q),.one (.int .i64 i),.one (.int .i64 k)] (.AE [(true,[.sl (.sl AA) (([]:List LR)),.sl AA (([]:LR)),.sl (.sl AA) (([]:List LR)),.sl AA (([]:LR)),.sl (.sl AA) (([]:List LR)),.sl AA (([]:LR))]),(false,[.bool false])]):=by
 refine BP Tryz.func17 (by kernel_rfl) rfl fun E d=>?_
 conv=>cbv
 refine⟨p,fun _=>⟨by omega,f⟩,?_⟩;try conv=>cbv
 refine⟨a,fun _=>⟨by omega,h⟩,?_⟩;try conv=>cbv
 refine cL d (dM F l ha c (by omega)) ⟨t4,t4,trivial⟩ ?_;try conv=>cbv
 refine⟨fun _=>Aq (by kernel_rfl),?_⟩;intro m b;cases b.trans (show _=false by decide);conv=>cbv
 exact fA ⟨⟨rfl,rfl,rfl,rfl,rfl,rfl,rfl,trivial⟩,t2,trivial⟩ rfl (by simp)
theorem IA (F:Fd TT w) {p a:el CP} (j:Q[i.toNat]? =some p) (l:Q[k.toNat]? =some a) (b:0<=i) (d:0<=k) (g:Vm TT w 1950000 kp kp p.1.1 p.1.2 p.2.1 p.2.2 xp yp) (ha:Vm TT w 1950000 ka ka a.1.1 a.1.2 a.2.1 a.2.2 xa ya) (m:2*ka+2*kp+443<=80000):∃T1 A1 T2 A2 T3 A3 e,((e=true/\¬(xp=xa/\yp=ya)/\Vm TT w 1950000 kp kp T1 A1 T2 A2 xp yp/\Nm TT w 1950000 (4*ka+4*kp+7) T3 A3 ((xp-xa)*(xp-xa)+(yp-ya)*(yp-ya)))\/(e=false/\xp=xa/\yp=ya))/\CF 17 [.one (.sl CP Q),.one (.int .i64 i),.one (.int .i64 k)] (.AE [(true,[.sl (.sl AA) T1,.sl AA A1,.sl (.sl AA) T2,.sl AA A2,.sl (.sl AA) T3,.sl AA A3]),(false,[.bool e])]):=by
 by_cases f:xp=xa/\yp=ya
 ·exact⟨[],[],[],[],[],[],false,.inr ⟨rfl,f⟩,dX F j l b d g ha f (by omega)⟩
 obtain⟨U,B,h,c⟩:=dY F j l b d g ha f (by omega);exact⟨_,_,_,_,U,B,true,.inl ⟨rfl,f,g,h⟩,c⟩
theorem de (F:Fd TT w) (f:Vm TT w 1950000 kp kp AL AK AI AJ xp yp) (g:Vm TT w 1950000 kq kq AQ AO Aa AZ xq yq) (j:Vm TT w 1950000 kr kr Ai Ah Ak Aj xr yr) (n:396*kp+198*kq+198*kr+1044<=80000):∃T1 A1 T2 A2 T3 A3 e,((e=0/\(xq-xp)*(yr-yp)-(yq-yp)*(xr-xp)≠0/\Vm TT w 1950000 (199*kp+99*kq+99*kr+467) (199*kp+99*kq+99*kr+467) T1 A1 T2 A2 (xp+(wX xp yp xq yq xr yr)) (yp+(wY xp yp xq yq xr yr))/\Nm TT w 1950000 (792*kp+396*kq+396*kr+1867) T3 A3 ((wX xp yp xq yq xr yr)*(wX xp yp xq yq xr yr)+(wY xp yp xq yq xr yr)*(wY xp yp xq yq xr yr)))\/(e=10/\(xq-xp)*(yr-yp)-(yq-yp)*(xr-xp)=0))/\CF 27 [.agg [.sl (.sl AA) AL,.sl AA AK,.sl (.sl AA) AI,.sl AA AJ],.agg [.sl (.sl AA) AQ,.sl AA AO,.sl (.sl AA) Aa,.sl AA AZ],.agg [.sl (.sl AA) Ai,.sl AA Ah,.sl (.sl AA) Ak,.sl AA Aj]] (.AE [(true,[.sl (.sl AA) T1,.sl AA A1,.sl (.sl AA) T2,.sl AA A2,.sl (.sl AA) T3,.sl AA A3]),(false,[.int .i64 e])]):=by
 by_cases a:(xq-xp)*(yr-yp)-(yq-yp)*(xr-xp)=0
 ·exact⟨[],[],[],[],[],[],10,.inr ⟨rfl,a⟩,df F f g j a (by omega)⟩
 obtain⟨U,B,m,l,d,b,h,h',c⟩:=dd F f g j a (by omega);exact⟨U,B,m,l,d,b,0,.inl ⟨rfl,a,h,h'⟩,c⟩
theorem aT (F:Fd TT w) (f:Vm TT w 1950000 kp kp AL AK AI AJ xp yp) (j:Vm TT w 1950000 kq kq AQ AO Aa AZ xq yq) (ht:Nm TT w 1950000 kt Ai Ah vt) (R:16*kp+8*kq+235*kt+543<=80000):∃t m u n v o x q y r z s e,((e=0/\(¬(xp=xq/\yp=yq)/\vt≠0)/\(Vm TT w 1950000 (3*kp+2*kq+47*kt+34) (3*kp+2*kq+47*kt+34) t m u n (iX xp yp xq yq vt) (iY xp yp xq yq vt)/\Nm TT w 1950000 (16*kp+8*kq+188*kt+143) v o (((xp-(iX xp yp xq yq vt))*(xp-(iX xp yp xq yq vt)))+((yp-(iY xp yp xq yq vt))*(yp-(iY xp yp xq yq vt)))))/\Vm TT w 1950000 (3*kp+2*kq+47*kt+34) (3*kp+2*kq+47*kt+34) x q y r (iX xp yp xq yq vt) (iY xp yp xq yq vt)/\Nm TT w 1950000 (16*kp+8*kq+188*kt+143) z s (((iX xp yp xq yq vt)-xp)*((iX xp yp xq yq vt)-xp)+((iY xp yp xq yq vt)-yp)*((iY xp yp xq yq vt)-yp)))\/e=11\/e=6)/\CF 28 [.agg [.sl (.sl AA) AL,.sl AA AK,.sl (.sl AA) AI,.sl AA AJ],.agg [.sl (.sl AA) AQ,.sl AA AO,.sl (.sl AA) Aa,.sl AA AZ],.agg [.sl (.sl AA) Ai,.sl AA Ah]] (.AE [(true,[.sl (.sl AA) t,.sl AA m,.sl (.sl AA) u,.sl AA n,.sl (.sl AA) v,.sl AA o]),(false,[.int .i64 e])])/\CF 39 [.agg [.sl (.sl AA) AL,.sl AA AK,.sl (.sl AA) AI,.sl AA AJ],.agg [.sl (.sl AA) AQ,.sl AA AO,.sl (.sl AA) Aa,.sl AA AZ],.agg [.sl (.sl AA) Ai,.sl AA Ah]] (.AE [(true,[.sl (.sl AA) x,.sl AA q,.sl (.sl AA) y,.sl AA r,.sl (.sl AA) z,.sl AA s]),(false,[.int .i64 e])]):=by
 by_cases b:xp=xq/\yp=yq
 ·exact⟨[],[],[],[],[],[],[],[],[],[],[],[],11,.inr (.inl rfl),ZF F f j ht b (by omega),dP F f j ht b (by omega)⟩
 by_cases a:vt=0
 ·exact⟨[],[],[],[],[],[],[],[],[],[],[],[],6,.inr (.inr rfl),ZG F f j ht b a (by omega),dQ F f j ht b a (by omega)⟩
 obtain⟨A1,_,P⟩:=DK F (p:=((1:Int):Rat)) (by decide +kernel);obtain⟨_,_,J,_⟩:=D1 F P ht (d:=47*kt+23) (by omega) a (by omega) (by omega) (by omega);have A:vt*(Re.ofRat ((1:Int):Rat)*As vt)=1:=by have:=Cy a;rw[show Re.ofRat ((1:Int):Rat)=1 from rfl];grind
 obtain⟨U,B,M,K,H,C,h,h',c⟩:=Nr F f j ht (J.mono (l:=47*kt+25) (by omega)) b a A (by omega);obtain⟨V,D,N,L,I,G,g,O,d⟩:=dO F f j ht (J.mono (l:=47*kt+25) (by omega)) b a A (by omega);exact⟨U,B,M,K,H,C,V,D,N,L,I,G,0,.inl ⟨rfl,⟨b,a⟩,⟨h.mono (by omega) (by omega),h'.mono (by omega)⟩,g.mono (by omega) (by omega),O.mono (by omega)⟩,c,d⟩
theorem Rw (F:Fd TT w) (l:Vm TT w 1950000 ko ko AL AK AI AJ xo yo) (m:Nm TT w 1950000 ks AQ AO vs) (ha:Vm TT w 1950000 ka ka Aa AZ Ai Ah xa ya) (ht:Nm TT w 1950000 kt Ak Aj vt) (he:e=true↔(xo=xa/\yo=ya)/\vs=vt) (n:2*ka+2*ko+2*ks+2*kt+443<=80000):CF 35 [.agg [.sl (.sl AA) AL,.sl AA AK,.sl (.sl AA) AI,.sl AA AJ,.sl (.sl AA) AQ,.sl AA AO],.agg [.sl (.sl AA) Aa,.sl AA AZ,.sl (.sl AA) Ai,.sl AA Ah,.sl (.sl AA) Ak,.sl AA Aj]] (.one (.bool e)):=by
 obtain⟨j,b⟩:=CV (xo=xa/\yo=ya);obtain⟨d,a,c,f⟩:=EM F m ht (by omega) (by omega);refine BP Tryz.func35 (by kernel_rfl) rfl fun E g=>?_
 conv=>cbv
 refine cL g (IH F l ha (by omega) (by omega) (by omega) (by omega) b) ⟨t4,t4,trivial⟩ ?_;try conv=>cbv
 cases j <;> conv=>cbv
 ·exact fA ⟨⟨rfl,congrArg _ (by cases e with | false=>rfl | true=>exact absurd (b.2 (he.1 rfl).1) (by simp)),trivial⟩,trivial⟩ rfl (by simp)
 refine cL g c ⟨t2,t2,trivial⟩ ?_;try conv=>cbv
 exact fA ⟨⟨rfl,congrArg _ (by rw[Bool.eq_iff_iff,a,he];exact⟨fun h=>h.2,fun h=>⟨b.1 rfl,h⟩⟩),trivial⟩,trivial⟩ rfl (by simp)
theorem KT (F:Fd TT w) (l:Vm TT w 1950000 ko ko AL AK AI AJ xo yo) (m:Nm TT w 1950000 ks AQ AO vs) (ha:Vm TT w 1950000 ka ka Aa AZ Ai Ah xa ya) (ht:Nm TT w 1950000 kt Ak Aj vt) (he:e=true↔(xo=xa/\yo=ya)/\vs=vt) (n:2*ka+2*ko+2*ks+2*kt+443<=80000):CF 30 [.agg [.sl (.sl AA) AL,.sl AA AK,.sl (.sl AA) AI,.sl AA AJ,.sl (.sl AA) AQ,.sl AA AO],.agg [.sl (.sl AA) Aa,.sl AA AZ,.sl (.sl AA) Ai,.sl AA Ah,.sl (.sl AA) Ak,.sl AA Aj]] (.one (.bool e)):=by
 obtain⟨j,b⟩:=CV (xo=xa/\yo=ya);obtain⟨d,a,f,c⟩:=EM F m ht (by omega) (by omega);refine BP Tryz.func30 (by kernel_rfl) rfl fun E g=>?_
 conv=>cbv
 refine cL g (EU F l ha (by omega) (by omega) (by omega) (by omega) b) ⟨t4,t4,trivial⟩ ?_;try conv=>cbv
 cases j <;> conv=>cbv
 ·exact fA ⟨⟨rfl,congrArg _ (by cases e with | false=>rfl | true=>exact absurd (b.2 (he.1 rfl).1) (by simp)),trivial⟩,trivial⟩ rfl (by simp)
 refine cL g c ⟨t2,t2,trivial⟩ ?_;try conv=>cbv
 exact fA ⟨⟨rfl,congrArg _ (by rw[Bool.eq_iff_iff,a,he];exact⟨fun h=>h.2,fun h=>⟨b.1 rfl,h⟩⟩),trivial⟩,trivial⟩ rfl (by simp)
theorem bG (a:∀n∈ns,BY V n) {n:Nu} (h:n∈ns\/n=FN):CF 33 [.agg [.sl (.sl AA) (tw n.1),.sl AA (em n.1 n.2)]] (.one (.bool true)):=by
 rcases h with h | rfl
 ·exact NM (ts:=n.1.reverse) (xs:=co n.1 n.2) rfl rfl (a n h).cos (fun s c=>(a n h).Fk s (List.mem_reverse.1 c))
 refine NM (ts:=[]) (xs:=co [] 0) rfl rfl (fun q b=>?_) (fun s c=>by simp at c);have b:q∈co [] (Re.ofRat 0):=b;rw[Co,List.mem_singleton] at b;rw[b];exact Pm (k:=0) (by decide)
theorem Wi {X:List (el Bf)} {W:List UInt8} (d:ns=(runN (X.take 24)).1) (c:V.length<=3) (a:∀n∈ns,BY V n) (L:Pl (PN ns) V w):∃T A x,(∀{b k:Nat},227018<=k*b->Nm (Tf (PN ns)) w b k T A x)/\CF 31 [.agg [.sl Bf X,.sl .u8 W]] (.agg [.sl (.sl AA) T,.sl AA A])/\CF 33 [.agg [.sl (.sl AA) T,.sl AA A]] (.one (.bool true)):=
 ⟨_,_,_,fun hb=>KJ L a (Lt ns (ns.length-1)) hb,g0 d c a rfl rfl rfl,bG a (Lt ns (ns.length-1))⟩
end Go.Abs
