/- Part 31 of a proof. Conditions: each theorem's own. -/
import Derived.Test.YtmhbikooakmagaaGreatPk28
import Derived.Test.YtmhbikooakmagaaGreatPk29
set_option linter.all false
set_option maxHeartbeats 8000000
set_option maxRecDepth 20000
open Go.Proofs
namespace Go.Abs
open Go.RowKit
variable {A1 A2 A3 A4 BL BN BP BW Bi B6 Fw Gn Fx:LR} {T1 T2 T3 T4 BM BO BQ BX Bk B7 F1 Gq F2:List LR} {TT:List (List Rat)->Prop} {ka kb kc kd kf kn ko kq kr ks kt:Nat} {p:Rat} {sn:Int} {va vb vc vn vp vq vr vs vt xa xb xd xf xo ya yb yd yf yo:Re} {w:List (List Rat)}
theorem lT (F:Fl TT w) (a:C5 p):∃A,A=em [] (Re.ofRat p)/\Nm TT w 2100 1 [] A (Re.ofRat p):=⟨_,rfl,KE F (by decide) (JG a)⟩
theorem Gi (F:Fl TT w) {q:Rat} (b:C5 p) (c:C5 q):∃A a,(A=em [] (Re.ofRat p)/\a=em [] (Re.ofRat q))/\Vm TT w 2100 1 1 [] A [] a (Re.ofRat p) (Re.ofRat q):=
 ⟨_,_,⟨rfl,rfl⟩,KE F (by decide) (JG b),KE F (by decide) (JG c)⟩
theorem PM (F:Fl TT w) (ha:Nm TT w 2100 ka BM BL va) (hb:Nm TT w 2100 kb BO BN vb) (l:ka+kb+21<=43400000:=by omega):∃d c,Nm TT w 2100 (ka+kb+1) d c (va+vb)/\BU Tryz.prog 71 [.one (.Ag 0 0 0),.agg (AK BM BL),.agg (AK BO BN)] (.var 0 [.int .i64 0]) (.agg (AK d c)):=by
 obtain⟨BQ,BP,b,h,a⟩:=G0 F ha hb;refine⟨BQ,BP,b.mono (by omega),?_⟩;refine CX Tryz.func71 fun E j=>?_
 conv=>cbv
 refine AB j a ?_;conv=>cbv
 refine Ah 0 0 j IQ ?_;try conv=>cbv
 refine fun _=>⟨⟨⟨t3,trivial⟩,rfl,by simp⟩,rfl⟩
theorem I2 (F:Fl TT w) (ha:Nm TT w 2100 ka BM BL va) (hb:Nm TT w 2100 kb BO BN vb) (l:ka+kb+21<=43400000:=by omega):∃d c,Nm TT w 2100 (ka+kb+1) d c (va-vb)/\BU Tryz.prog 65 [.one (.Ag 0 0 0),.agg (AK BM BL),.agg (AK BO BN)] (.var 0 [.int .i64 0]) (.agg (AK d c)):=by
 obtain⟨BQ,BP,b,h,a⟩:=F6 F ha hb;refine⟨BQ,BP,b.mono (by omega),?_⟩;refine CX Tryz.func65 fun E j=>?_
 conv=>cbv
 refine AB j a ?_;conv=>cbv
 refine Ah 0 0 j IQ ?_;try conv=>cbv
 refine fun _=>⟨⟨⟨t3,trivial⟩,rfl,by simp⟩,rfl⟩
theorem G6 (F:Fl TT w) (ha:Nm TT w 2100 ka BM BL va) (hb:Nm TT w 2100 kb BO BN vb) (l:ka+kb+21<=43400000:=by omega):∃d c,Nm TT w 2100 (ka+kb+1) d c (va*vb)/\BU Tryz.prog 66 [.one (.Ag 0 0 0),.agg (AK BM BL),.agg (AK BO BN)] (.var 0 [.int .i64 0]) (.agg (AK d c)):=by
 obtain⟨BQ,BP,b,h,a⟩:=D5 F ha hb;refine⟨BQ,BP,b.mono (by omega),?_⟩;refine CX Tryz.func66 fun E j=>?_
 conv=>cbv
 refine AB j a ?_;conv=>cbv
 refine Ah 0 0 j IQ ?_;try conv=>cbv
 refine fun _=>⟨⟨⟨t3,trivial⟩,rfl,by simp⟩,rfl⟩
theorem NG (F:Fl TT w) (ha:Nm TT w 2100 ka BM BL va) (hb:Nm TT w 2100 kb BO BN vb) (m:vb≠0) (o:ka+23*kb+35<=43400000):∃h c,Nm TT w 2100 (ka+23*kb+15) h c (va*AT vb)/\BU Tryz.prog 67 [.one (.Ag 0 0 0),.agg (AK BM BL),.agg (AK BO BN)] (.var 0 [.int .i64 0]) (.agg (AK h c)):=by
 obtain⟨BQ,BP,b,j,a⟩:=Hp F ha hb (d:=23*kb+14) (by omega) m;refine⟨BQ,BP,b.mono (by omega),?_⟩;refine CX Tryz.func67 fun E l=>?_
 conv=>cbv
 refine AB l a ?_;conv=>cbv
 refine Ah 0 0 l IQ ?_;try conv=>cbv
 refine fun _=>⟨⟨⟨t3,trivial⟩,rfl,by simp⟩,rfl⟩
theorem ZO (F:Fl TT w) (ha:Vm TT w 2100 ka ka BM BL BO BN xa ya) (hb:Vm TT w 2100 kb kb BQ BP BX BW xb yb) (o:ka+kb+21<=43400000:=by omega):∃l j b a,Vm TT w 2100 (ka+kb+1) (ka+kb+1) l j b a (xa-xb) (ya-yb)/\BU Tryz.prog 69 [.one (.Ag 0 0 0),.agg (AG BM BL BO BN),.agg (AG BQ BP BX BW)] (.var 0 [.int .i64 0]) (.agg (AG l j b a)):=by
 obtain⟨Bk,Bi,B7,B6,d,c⟩:=Lu F ha hb;have h:=d.cast (x':=xa-xb) (y':=ya-yb) (by grind) (by grind);refine⟨Bk,Bi,B7,B6,h.mono (by omega) (by omega),?_⟩;refine CX Tryz.func69 fun E m=>?_
 conv=>cbv
 refine AB m c ?_;conv=>cbv
 refine Ah 0 0 m LW ?_;try conv=>cbv
 refine fun _=>⟨⟨⟨⟨rfl,rfl,rfl,rfl,rfl,trivial⟩,trivial⟩,rfl,by simp⟩,rfl⟩
theorem Sj (F:Fl TT w) (ha:Vm TT w 2100 ka ka BM BL BO BN xa ya) (j:2*ka+22<=43400000:=by omega):∃d c,Nm TT w 2100 (4*ka+3) d c (xa*xa+ya*ya)/\BU Tryz.prog 70 [.one (.Ag 0 0 0),.agg (AG BM BL BO BN)] (.var 0 [.int .i64 0]) (.agg (AK d c)):=by
 obtain⟨BQ,BP,b,a⟩:=bI F ha;refine⟨BQ,BP,b.mono (by omega),?_⟩;refine CX Tryz.func70 fun E h=>?_
 conv=>cbv
 refine AB h a ?_;conv=>cbv
 refine Ah 0 0 h IQ ?_;try conv=>cbv
 refine fun _=>⟨⟨⟨t3,trivial⟩,rfl,by simp⟩,rfl⟩
theorem Si (F:Fl TT w) (ha:Vm TT w 2100 ka ka BM BL BO BN xa ya) (hb:Vm TT w 2100 kb kb BQ BP BX BW xb yb) (m:2*ka+2*kb+24<=43400000:=by omega):∃j h,Nm TT w 2100 (4*ka+4*kb+7) j h ((xa-xb)*(xa-xb)+(ya-yb)*(ya-yb))/\BU Tryz.prog 78 [.one (.Ag 0 0 0),.agg (AG BM BL BO BN),.agg (AG BQ BP BX BW)] (.var 0 [.int .i64 0]) (.agg (AK j h)):=by
 obtain⟨B7,B6,F1,Fw,c,a⟩:=ZO F ha hb;obtain⟨F2,Fx,d,b⟩:=Sj F c;refine⟨F2,Fx,d.mono (by omega),?_⟩;refine CX Tryz.func78 fun E l=>?_
 conv=>cbv
 refine Ah 0 0 l a ?_;try conv=>cbv
 refine Ah 0 0 l b ?_;try conv=>cbv
 refine fun _=>⟨⟨⟨t3,trivial⟩,rfl,by simp⟩,rfl⟩
theorem SO (F:Fl TT w) (j:Vm TT w 2100 ko ko BM BL BO BN xo yo) (ha:Vm TT w 2100 ka ka BQ BP BX BW xa ya) (l:¬(xo=xa/\yo=ya)) (m:2*ka+2*ko+83<=43400000:=by omega):∃h d,Nm TT w 2100 (4*ka+4*ko+7) h d ((xo-xa)*(xo-xa)+(yo-ya)*(yo-ya))/\CF 56 [.agg (AG BM BL BO BN),.agg (AG BQ BP BX BW)] (.AF [(true,(AY BM BL BO BN h d)),(false,[.int .i64 0])]):=by
 obtain⟨B7,B6,b,a⟩:=Si F j ha;refine⟨B7,B6,b.mono (by omega),?_⟩;refine BH Tryz.func56 fun E c=>?_
 conv=>cbv
 refine AB (r:= .one (.bool false)) c (GW F j ha (by omega) (by omega) (by omega) (by omega) (e:=false) ⟨fun z=>(by cases z),fun z=>absurd z l⟩) ?_;conv=>cbv
 refine Ah 12 1 c a ?_;try conv=>cbv
 refine Ah 12 1 c mX ?_;try conv=>cbv
 refine Br ?_;exact AD ⟨⟨rfl,rfl,rfl,rfl,rfl,rfl,rfl,trivial⟩,t2,trivial⟩
theorem lV (F:Fl TT w) (c:Vm TT w 2100 ko ko BM BL BO BN xo yo) (ha:Vm TT w 2100 ka ka BQ BP BX BW xa ya) (a:xo=xa/\yo=ya) (d:2*ka+2*ko+83<=43400000:=by omega):CF 56 [.agg (AG BM BL BO BN),.agg (AG BQ BP BX BW)] (.AF [(true,(AY [] [] [] [] [] [])),(false,[.int .i64 11])]):=by
 refine BH Tryz.func56 fun E b=>?_
 conv=>cbv
 refine AB b (GW F c ha (by omega) (by omega) (by omega) (by omega) (e:=true) ⟨fun _=>a,fun _=>rfl⟩) ?_;conv=>cbv
 exact AD ⟨⟨rfl,AU,AU,AU,AU,AU,AU,trivial⟩,t2,trivial⟩
theorem Fa:BU Tryz.prog 86 [.one (.Ag 0 0 0),.agg (AK T1 A1),.one (.int .i64 0)] (.var 0 [.int .i64 0]) (.agg (AK T1 A1)):=by
 refine CX Tryz.func86 fun E a=>?_
 conv=>cbv
 refine AO ?_;conv=>cbv
 refine fun _=>⟨⟨⟨t3,trivial⟩,rfl,by simp⟩,rfl⟩
theorem HO:BU Tryz.prog 88 [.one (.Ag 0 0 0),.agg (AG T1 A1 T2 A2),.one (.int .i64 0)] (.var 0 [.int .i64 0]) (.agg (AG T1 A1 T2 A2)):=by
 refine CX Tryz.func88 fun E a=>?_
 conv=>cbv
 refine AO ?_;conv=>cbv
 refine fun _=>⟨⟨⟨⟨rfl,rfl,rfl,rfl,rfl,trivial⟩,trivial⟩,rfl,by simp⟩,rfl⟩
theorem X6:BU Tryz.prog 273 [.one (.Ag 0 0 0),.agg (AG T1 A1 T2 A2)] (.var 0 [.int .i64 0]) (.AF [(true,(AG T1 A1 T2 A2)),(false,[.int .i64 0])]):=by
 refine CX Tryz.func273 fun E a=>?_
 conv=>cbv
 refine AO ?_;conv=>cbv
 refine fun _=>⟨⟨⟨⟨rfl,rfl,rfl,rfl,rfl,trivial⟩,t2,trivial⟩,rfl,by simp⟩,rfl⟩
theorem j4:CF 274 [.agg (AY T1 A1 T2 A2 T3 A3)] (.agg (AG T1 A1 T2 A2)):=by
 refine BH Tryz.func274 fun E a=>?_
 conv=>cbv
 exact AD ⟨⟨rfl,rfl,rfl,rfl,rfl,trivial⟩,trivial⟩
theorem jl (F:Fl TT w) (ha:Nm TT w 2100 1 BM BL va) (hb:Nm TT w 2100 kb BO BN vb) (hc:Nm TT w 2100 kc BQ BP vc) (c:Nm TT w 2100 1 BX BW vp) (d:Nm TT w 2100 kq Bk Bi vq) (h:Nm TT w 2100 kr B7 B6 vr) (a:¬(va=vp/\vb=vq)) (j:2*kb+2*kc+2*kq+2*kr+83<=43400000:=by omega):CF 81 [.agg (AY BM BL BO BN BQ BP),.agg (AY BX BW Bk Bi B7 B6)] (.one (.int .i64 0)):=by
 refine BH Tryz.func81 fun E b=>?_
 conv=>cbv
 refine .inr ?_;refine AB (r:= .one (.bool false)) b (RH F ⟨ha,hb,hc⟩ ⟨c,d,h⟩ (by omega) (by omega) (by omega) (by omega) (by omega) (e:=false) ⟨fun z=>(by cases z),fun z=>absurd z (fun z=>a z.1)⟩) ?_;conv=>cbv
 refine AB (r:= .one (.bool false)) b (RJ F ⟨ha,hb,hc⟩ ⟨c,d,h⟩ (by omega) (by omega) (by omega) (e:=false) ⟨fun z=>(by cases z),fun z=>absurd z a⟩) ?_;conv=>cbv
 exact AD ⟨t2,trivial⟩
theorem jm (F:Fl TT w) (ha:Nm TT w 2100 1 BM BL va) (hb:Nm TT w 2100 kb BO BN vb) (hc:Nm TT w 2100 kc BQ BP vc) (b:Nm TT w 2100 1 BX BW vp) (c:Nm TT w 2100 kq Bk Bi vq) (d:Nm TT w 2100 kr B7 B6 vr) (h:¬((va=vp/\vb=vq)/\vc=vr)) (j:(va=vp/\vb=vq)) (l:2*kb+2*kc+2*kq+2*kr+83<=43400000:=by omega):CF 81 [.agg (AY BM BL BO BN BQ BP),.agg (AY BX BW Bk Bi B7 B6)] (.one (.int .i64 10)):=by
 refine BH Tryz.func81 fun E a=>?_
 conv=>cbv
 refine .inr ?_;refine AB (r:= .one (.bool false)) a (RH F ⟨ha,hb,hc⟩ ⟨b,c,d⟩ (by omega) (by omega) (by omega) (by omega) (by omega) (e:=false) ⟨fun z=>(by cases z),fun z=>absurd z h⟩) ?_;conv=>cbv
 refine AB a (RJ F ⟨ha,hb,hc⟩ ⟨b,c,d⟩ (by omega) (by omega) (by omega) (e:=true) ⟨fun _=>j,fun _=>rfl⟩) ?_;conv=>cbv
 exact AD ⟨t2,trivial⟩
theorem jn (F:Fl TT w) (ha:Nm TT w 2100 1 BM BL va) (hb:Nm TT w 2100 kb BO BN vb) (hc:Nm TT w 2100 kc BQ BP vc) (c:Nm TT w 2100 1 BX BW vp) (d:Nm TT w 2100 kq Bk Bi vq) (h:Nm TT w 2100 kr B7 B6 vr) (a:((va=vp/\vb=vq)/\vc=vr)) (j:2*kb+2*kc+2*kq+2*kr+83<=43400000:=by omega):CF 81 [.agg (AY BM BL BO BN BQ BP),.agg (AY BX BW Bk Bi B7 B6)] (.one (.int .i64 11)):=by
 refine BH Tryz.func81 fun E b=>?_
 conv=>cbv
 refine .inr ?_;refine AB b (RH F ⟨ha,hb,hc⟩ ⟨c,d,h⟩ (by omega) (by omega) (by omega) (by omega) (by omega) (e:=true) ⟨fun _=>a,fun _=>rfl⟩) ?_;conv=>cbv
 exact AD ⟨t2,trivial⟩
theorem SR (F:Fl TT w) (ha:Nm TT w 2100 1 BM BL va) (hb:Nm TT w 2100 kb BO BN vb) (hc:Nm TT w 2100 kc BQ BP vc) (c:Nm TT w 2100 1 BX BW vp) (d:Nm TT w 2100 kq Bk Bi vq) (h:Nm TT w 2100 kr B7 B6 vr) (a:¬(va=vp/\vb=vq)) (j:2*kb+2*kc+2*kq+2*kr+83<=43400000:=by omega):CF 93 [.agg (AY BM BL BO BN BQ BP),.agg (AY BX BW Bk Bi B7 B6)] (.one (.int .i64 0)):=by
 refine BH Tryz.func93 fun E b=>?_
 conv=>cbv
 refine AB (r:= .one (.bool false)) b (SP F ⟨ha,hb,hc⟩ ⟨c,d,h⟩ (by omega) (by omega) (by omega) (by omega) (by omega) (e:=false) ⟨fun z=>(by cases z),fun z=>absurd z (fun z=>a z.1)⟩) ?_;conv=>cbv
 refine AB (r:= .one (.bool false)) b (SU F ⟨ha,hb,hc⟩ ⟨c,d,h⟩ (by omega) (by omega) (by omega) (e:=false) ⟨fun z=>(by cases z),fun z=>absurd z a⟩) ?_;conv=>cbv
 exact AD ⟨t2,trivial⟩
theorem Y3 (F:Fl TT w) (ha:Nm TT w 2100 1 BM BL va) (hb:Nm TT w 2100 kb BO BN vb) (hc:Nm TT w 2100 kc BQ BP vc) (b:Nm TT w 2100 1 BX BW vp) (c:Nm TT w 2100 kq Bk Bi vq) (d:Nm TT w 2100 kr B7 B6 vr) (h:¬((va=vp/\vb=vq)/\vc=vr)) (j:(va=vp/\vb=vq)) (l:2*kb+2*kc+2*kq+2*kr+83<=43400000:=by omega):CF 93 [.agg (AY BM BL BO BN BQ BP),.agg (AY BX BW Bk Bi B7 B6)] (.one (.int .i64 10)):=by
 refine BH Tryz.func93 fun E a=>?_
 conv=>cbv
 refine AB (r:= .one (.bool false)) a (SP F ⟨ha,hb,hc⟩ ⟨b,c,d⟩ (by omega) (by omega) (by omega) (by omega) (by omega) (e:=false) ⟨fun z=>(by cases z),fun z=>absurd z h⟩) ?_;conv=>cbv
 refine AB a (SU F ⟨ha,hb,hc⟩ ⟨b,c,d⟩ (by omega) (by omega) (by omega) (e:=true) ⟨fun _=>j,fun _=>rfl⟩) ?_;conv=>cbv
 exact AD ⟨t2,trivial⟩
theorem Y4 (F:Fl TT w) (ha:Nm TT w 2100 1 BM BL va) (hb:Nm TT w 2100 kb BO BN vb) (hc:Nm TT w 2100 kc BQ BP vc) (c:Nm TT w 2100 1 BX BW vp) (d:Nm TT w 2100 kq Bk Bi vq) (h:Nm TT w 2100 kr B7 B6 vr) (a:((va=vp/\vb=vq)/\vc=vr)) (j:2*kb+2*kc+2*kq+2*kr+83<=43400000:=by omega):CF 93 [.agg (AY BM BL BO BN BQ BP),.agg (AY BX BW Bk Bi B7 B6)] (.one (.int .i64 11)):=by
 refine BH Tryz.func93 fun E b=>?_
 conv=>cbv
 refine AB b (SP F ⟨ha,hb,hc⟩ ⟨c,d,h⟩ (by omega) (by omega) (by omega) (by omega) (by omega) (e:=true) ⟨fun _=>a,fun _=>rfl⟩) ?_;conv=>cbv
 exact AD ⟨t2,trivial⟩
theorem js:CF 184 [.one (.int .i64 1)] (.one (.bool true)):=by
 refine BH Tryz.func184 fun E a=>?_
 conv=>cbv
 refine BG ?_;conv=>cbv
 exact AD ⟨t2,trivial⟩
theorem jq:CF 184 [.one (.int .i64 (-1))] (.one (.bool true)):=by
 refine BH Tryz.func184 fun E a=>?_
 conv=>cbv
 refine AO ?_;conv=>cbv
 refine BG ?_;conv=>cbv
 exact AD ⟨t2,trivial⟩
theorem mD:CF 208 [.one (.int .i64 1)] (.one (.bool true)):=by
 refine BH Tryz.func208 fun E a=>?_
 conv=>cbv
 refine BG ?_;conv=>cbv
 exact AD ⟨t2,trivial⟩
theorem mC:CF 208 [.one (.int .i64 (-1))] (.one (.bool true)):=by
 refine BH Tryz.func208 fun E a=>?_
 conv=>cbv
 refine AO ?_;conv=>cbv
 refine BG ?_;conv=>cbv
 exact AD ⟨t2,trivial⟩
theorem Y6 {br:Int} (b:br≠1) (c:br≠ -1):CF 208 [.one (.int .i64 br)] (.one (.bool false)):=by
 refine BH Tryz.func208 fun E j=>?_
 conv=>cbv
 intro n4 a;conv=>cbv
 cases n4 <;> conv=>cbv
 ·have h:=Ao a;intro l d;conv=>cbv
  exact AD ⟨⟨rfl,congrArg _ ((d.trans (by simp[b,c])).symm),trivial⟩,trivial⟩
 have h:=BA a;exact False.elim (by omega)
theorem Mk (F:Fl TT w) (ha:Nm TT w 2100 1 BM BL va) (hb:Nm TT w 2100 kb BO BN vb) (hc:Nm TT w 2100 kc BQ BP vc) (o:Vm TT w 2100 kd kd BX BW Bk Bi xd yd) (u:va*xd+vb*yd=0) (q:¬(xd=0/\yd=0)) (A:2*kb+2*kd+26<=43400000:=by omega):CF 186 [.agg (AY BM BL BO BN BQ BP),.agg (AG BX BW Bk Bi)] (.one (.bool true)):=by
 have d:Vm _ w 2100 (kb+1) (kb+1) BM BL BO BN _ _:=⟨ha.mono (by omega),hb.mono (by omega)⟩;obtain⟨F1,Fw,h,b⟩:=NX F d o;obtain⟨j,a,c,m⟩:=Fb F h;obtain rfl:j=0:=a.trans ((congrArg BT u).trans Gk);refine BH Tryz.func186 fun E l=>?_
 conv=>cbv
 refine AB l j4 ?_;conv=>cbv
 refine AB l b ?_;conv=>cbv
 refine Br ?_;refine BG ?_;conv=>cbv
 refine AB l c ?_;conv=>cbv
 refine BG ?_;conv=>cbv
 refine AB (r:= .one (.bool false)) l (oT F o (by omega) (by omega) (e:=false) ⟨fun z=>(by cases z),fun z=>absurd z q⟩) ?_;conv=>cbv
 refine BG ?_;conv=>cbv
 exact AD ⟨t2,trivial⟩
theorem M4 {s:Int} (h:CF 104 [.agg (AK T1 A1)] (.one (.int .i64 s))):BU Tryz.prog 213 [.one (.Ag 0 0 0),.agg (AK T1 A1)] (.var 0 [.int .i64 0]) (.one (.int .i64 s)):=by
 refine CX Tryz.func213 fun E a=>?_
 conv=>cbv
 refine AO ?_;conv=>cbv
 refine AB a h ?_;conv=>cbv
 refine fun _=>⟨⟨⟨t2,trivial⟩,rfl,by simp⟩,rfl⟩
theorem SN (F:Fl TT w) (ha:Nm TT w 2100 1 BM BL va) (hb:Nm TT w 2100 kb BO BN vb) (hc:Nm TT w 2100 kc BQ BP vc) (u:Vm TT w 2100 kd kd BX BW Bk Bi xd yd) (G:va*xd+vb*yd=0) (D:¬(xd=0/\yd=0)) (H:kb+2*kd+25<=43400000:=by omega):CF 209 [.agg (AY BM BL BO BN BQ BP),.agg (AG BX BW Bk Bi)] (.one (.bool true)):=by
 obtain⟨F1,Fw,j,b⟩:=G6 F ha u.x;obtain⟨F2,Fx,l,c⟩:=G6 F hb u.y;obtain⟨B,A,m,d⟩:=PM F j l;obtain⟨q,a,C,h⟩:=Fb F m;obtain rfl:q=0:=a.trans ((congrArg BT G).trans Gk);refine BH Tryz.func209 fun E o=>?_
 conv=>cbv
 refine Ah 8 1 o b ?_;try conv=>cbv
 refine Ah 8 1 o c ?_;try conv=>cbv
 refine Ah 8 1 o d ?_;try conv=>cbv
 refine Br ?_;refine AB (r:= .one (.bool false)) o (bJ F u (by omega) (by omega) (e:=false) ⟨fun z=>(by cases z),fun z=>absurd z D⟩) ?_;conv=>cbv
 refine BG ?_;conv=>cbv
 refine Ah 8 1 o (M4 h) ?_;try conv=>cbv
 refine BG ?_;conv=>cbv
 exact AD ⟨t2,trivial⟩
theorem jo (F:Fl TT w) {D G:List LR} {z A:LR} (ha:Nm TT w 2100 1 BM BL va) (hb:Nm TT w 2100 kb BO BN vb) (hc:Nm TT w 2100 kc BQ BP vc) (hd:Vm TT w 2100 kd kd BX BW Bk Bi xd yd) (ho:Vm TT w 2100 ko ko B7 B6 F1 Fw xo yo) (hs:Nm TT w 2100 ks Gq Gn vs) (hf:Vm TT w 2100 kf kf F2 Fx D z xf yf) (hn:Nm TT w 2100 kn G A vn) (h0:¬(va=0/\vb=0)) (q:xo-va*(EK va vb vc xo yo*Re.ofRat ((1:Int):Rat))=xf) (u:yo-vb*(EK va vb vc xo yo*Re.ofRat ((1:Int):Rat))=yf) (Z:xd*xd+yd*yd≠0) (Y:(vs-((xo-xf)*(xo-xf)+(yo-yf)*(yo-yf)))*AT (xd*xd+yd*yd)=vn) (hM:190*kb+4*kc+92*kd+16*ko+ks+587<=43400000):∃U0 B0 I C U1 B1,Vm TT w 2100 (kf) (kf) U0 B0 I C (xf) (yf)/\Nm TT w 2100 (kn) U1 B1 (vn)/\CF 82 [.agg (AY BM BL BO BN BQ BP),.agg (AG BX BW Bk Bi),.agg (AY B7 B6 F1 Fw Gq Gn)] (.AF [(true,(Ct U0 B0 I C BX BW Bk Bi U1 B1)),(false,[.int .i64 0])]):=by
 obtain⟨l,h,m,j,o,J⟩:=XU F ⟨ha,hb,hc⟩ ho h0 (Nat.le_refl _);have a:Vm _ w 2100 kf kf l h m j _ _:=⟨o.x.shrink hf.x (q),o.y.shrink hf.y (u)⟩;have a:=a.cast (x':=xf) (y':=yf) (q) (u);obtain⟨a6,a1,b,L⟩:=jD F ⟨ha,hb,hc⟩ ho h0 (Nat.le_refl _);have b:=b.cast (y:=(xo-xf)*(xo-xf)+(yo-yf)*(yo-yf)) (by rw[q,u]);obtain⟨a7,a2,R,M,aa⟩:=F6 F hs b;obtain⟨a8,a5,S,N⟩:=KR F hd;obtain⟨H,B,T,O,ab⟩:=Hp F R S (d:=92*kd+83) (by omega) Z;have U:=T.shrink hn (Y);have W:=U.cast (y:=vn) (Y);refine⟨l,h,m,j,H,B,a.mono (by omega) (by omega),W.mono (by omega),?_⟩;refine BH Tryz.func82 fun E c=>?_
 conv=>cbv
 refine AB c J ?_;conv=>cbv
 refine Ah 13 1 c HO ?_;try conv=>cbv
 refine AB c L ?_;conv=>cbv
 refine Ah 13 1 c Fa ?_;try conv=>cbv
 refine AB c M ?_;conv=>cbv
 refine Ah 13 1 c Fa ?_;try conv=>cbv
 refine Br ?_;refine AB c N ?_;conv=>cbv
 refine Ah 13 1 c Fa ?_;try conv=>cbv
 refine AB c O ?_;conv=>cbv
 refine Ah 13 1 c Fa ?_;try conv=>cbv
 refine Br ?_;refine Br ?_;exact AD ⟨⟨rfl,rfl,rfl,rfl,rfl,rfl,rfl,rfl,rfl,rfl,rfl,trivial⟩,t2,trivial⟩
theorem X0 (F:Fl TT w) (ho:Vm TT w 2100 ko ko BM BL BO BN xo yo) (hs:Nm TT w 2100 ks BQ BP vs) (ha:Vm TT w 2100 ka ka BX BW Bk Bi xa ya) (ht:Nm TT w 2100 kt B7 B6 vt) (hf:Vm TT w 2100 kf kf F1 Fw Gq Gn xf yf) (hn:Nm TT w 2100 kn F2 Fx vn) (hq:(xa-xo)*(xa-xo)+(ya-yo)*(ya-yo)≠0) (ai:xo+(xa-xo)*(((xa-xo)*(xa-xo)+(ya-yo)*(ya-yo)+vs-vt)*AT ((xa-xo)*(xa-xo)+(ya-yo)*(ya-yo)+((xa-xo)*(xa-xo)+(ya-yo)*(ya-yo))))=xf) (aj:yo+(ya-yo)*(((xa-xo)*(xa-xo)+(ya-yo)*(ya-yo)+vs-vt)*AT ((xa-xo)*(xa-xo)+(ya-yo)*(ya-yo)+((xa-xo)*(xa-xo)+(ya-yo)*(ya-yo))))=yf) (ak:vs*AT ((xa-xo)*(xa-xo)+(ya-yo)*(ya-yo))-((xa-xo)*(xa-xo)+(ya-yo)*(ya-yo)+vs-vt)*AT ((xa-xo)*(xa-xo)+(ya-yo)*(ya-yo)+((xa-xo)*(xa-xo)+(ya-yo)*(ya-yo)))*(((xa-xo)*(xa-xo)+(ya-yo)*(ya-yo)+vs-vt)*AT ((xa-xo)*(xa-xo)+(ya-yo)*(ya-yo)+((xa-xo)*(xa-xo)+(ya-yo)*(ya-yo))))=vn) (hM:376*ka+376*ko+2*ks+2*kt+760<=43400000:=by omega):∃U0 B0 H u U1 B1 I z U2 B2,Vm TT w 2100 (kf) (kf) U0 B0 H u (xf) (yf)/\Vm TT w 2100 (ka+ko+1) (ka+ko+1) U1 B1 I z (-(ya-yo)) (xa-xo)/\Nm TT w 2100 (kn) U2 B2 (vn)/\CF 84 [.agg (AY BM BL BO BN BQ BP),.agg (AY BX BW Bk Bi B7 B6)] (.AF [(true,(Ct U0 B0 H u U1 B1 I z U2 B2)),(false,[.int .i64 0])]):=by
 obtain⟨A,j,B,an,c,J⟩:=Jm F ha ho;obtain⟨aA,ao,b,L⟩:=KR F c;obtain⟨aB,aq,a1,M,aJ⟩:=G0 F b hs;obtain⟨aC,ar,a2,N,aK⟩:=F6 F a1 ht;obtain⟨aD,au,a5,O,aL⟩:=G0 F b b;obtain⟨aE,av,h,R,aM⟩:=Hp F a2 a5 (d:=184*ka+184*ko+359) (by omega) (Sa hq);obtain⟨aF,aw,aG,ax,a6,S⟩:=Ln F c h;obtain⟨C,l,D,m,a7,T⟩:=NW F ho a6;have a8:=a7.shrink hf (ai) (aj);have aa:=a8.cast (x':=xf) (y':=yf) (ai) (aj);obtain⟨aH,ay,ab,U,aN⟩:=Hp F hs b (d:=92*ka+92*ko+175) (by omega) hq
 obtain⟨aI,az,ad,W,aO⟩:=D5 F h h;obtain⟨G,o,ae,Y,aP⟩:=F6 F ab ad;have af:=ae.shrink hn (ak);have ag:=af.cast (y:=vn) (ak);obtain⟨q,ah,Z⟩:=oS F c;refine⟨C,l,D,m,B,q,A,j,G,o,aa.mono (by omega) (by omega),ah.mono (by omega) (by omega),ag.mono (by omega),?_⟩;refine BH Tryz.func84 fun E a=>?_
 conv=>cbv
 refine AB a J ?_;conv=>cbv
 refine Ah 13 1 a HO ?_;try conv=>cbv
 refine AB a L ?_;conv=>cbv
 refine Ah 13 1 a Fa ?_;try conv=>cbv
 refine AB a M ?_;conv=>cbv
 refine Ah 13 1 a Fa ?_;try conv=>cbv
 refine AB a N ?_;conv=>cbv
 refine Ah 13 1 a Fa ?_;try conv=>cbv
 refine Br ?_;refine AB a O ?_;conv=>cbv
 refine Ah 13 1 a Fa ?_;try conv=>cbv
 refine AB a R ?_;conv=>cbv
 refine Ah 13 1 a Fa ?_;try conv=>cbv
 refine Br ?_;refine AB a S ?_;conv=>cbv
 refine Ah 13 1 a HO ?_;try conv=>cbv
 refine AB a T ?_;conv=>cbv
 refine Ah 13 1 a HO ?_;try conv=>cbv
 refine Br ?_;refine AB a U ?_;conv=>cbv
 refine Ah 13 1 a Fa ?_;try conv=>cbv
 refine AB a W ?_;conv=>cbv
 refine Ah 13 1 a Fa ?_;try conv=>cbv
 refine AB a Y ?_;conv=>cbv
 refine Ah 13 1 a Fa ?_;try conv=>cbv
 refine Br ?_;refine AB a Z ?_;conv=>cbv
 refine Br ?_;exact AD ⟨⟨rfl,rfl,rfl,rfl,rfl,rfl,rfl,rfl,rfl,rfl,rfl,trivial⟩,t2,trivial⟩
theorem Mn (F:Fl TT w) (j:Nm TT w 2100 kn BM BL vn) (l:BT vn=1) (m:kn+21<=43400000:=by omega):CF 85 [.agg (Ct T1 A1 T2 A2 T3 A3 T4 A4 BM BL)] (.one (.int .i64 0)):=by
 obtain⟨c,a,b,d⟩:=Fb F j;obtain rfl:c=1:=a.trans (l);refine BH Tryz.func85 fun E h=>?_
 conv=>cbv
 refine AB h b ?_;conv=>cbv
 refine .inr ?_;refine AO ?_;conv=>cbv
 refine AO ?_;conv=>cbv
 exact AD ⟨t2,trivial⟩
theorem Mo (F:Fl TT w) (j:Nm TT w 2100 kn BM BL vn) (l:BT vn=0) (m:kn+21<=43400000:=by omega):CF 85 [.agg (Ct T1 A1 T2 A2 T3 A3 T4 A4 BM BL)] (.one (.int .i64 12)):=by
 obtain⟨c,a,b,d⟩:=Fb F j;obtain rfl:c=0:=a.trans (l);refine BH Tryz.func85 fun E h=>?_
 conv=>cbv
 refine AB h b ?_;conv=>cbv
 refine .inr ?_;refine AO ?_;conv=>cbv
 refine BG ?_;conv=>cbv
 exact AD ⟨t2,trivial⟩
theorem Mp (F:Fl TT w) (j:Nm TT w 2100 kn BM BL vn) (l:BT vn= -1) (m:kn+21<=43400000:=by omega):CF 85 [.agg (Ct T1 A1 T2 A2 T3 A3 T4 A4 BM BL)] (.one (.int .i64 7)):=by
 obtain⟨c,a,b,d⟩:=Fb F j;obtain rfl:c= -1:=a.trans (l);refine BH Tryz.func85 fun E h=>?_
 conv=>cbv
 refine AB h b ?_;conv=>cbv
 refine .inr ?_;refine BG ?_;conv=>cbv
 exact AD ⟨t2,trivial⟩
theorem LC (F:Fl TT w) (c:Vm TT w 2100 ko ko BM BL BO BN xo yo) (h:Nm TT w 2100 ks BQ BP vs) (ha:Vm TT w 2100 ka ka BX BW Bk Bi xa ya) (ht:Nm TT w 2100 kt B7 B6 vt) (a:¬(xo=xa/\yo=ya)) (d:2*ka+2*ko+83<=43400000:=by omega):CF 83 [.agg (AY BM BL BO BN BQ BP),.agg (AY BX BW Bk Bi B7 B6)] (.one (.int .i64 0)):=by
 refine BH Tryz.func83 fun E b=>?_
 conv=>cbv
 refine .inr ?_;refine AB (r:= .one (.bool false)) b (TU F c ha (by omega) (by omega) (by omega) (by omega) (e:=false) ⟨fun z=>(by cases z),fun z=>absurd z a⟩) ?_;conv=>cbv
 refine BG ?_;conv=>cbv
 exact AD ⟨t2,trivial⟩
theorem Rc (F:Fl TT w) (m:Vm TT w 2100 ko ko BM BL BO BN xo yo) (o:Nm TT w 2100 ks BQ BP vs) (ha:Vm TT w 2100 ka ka BX BW Bk Bi xa ya) (ht:Nm TT w 2100 kt B7 B6 vt) (j:xo=xa/\yo=ya) (l:vs=vt) (q:2*ka+2*ko+2*ks+2*kt+83<=43400000:=by omega):CF 83 [.agg (AY BM BL BO BN BQ BP),.agg (AY BX BW Bk Bi B7 B6)] (.one (.int .i64 11)):=by
 obtain⟨b,a,c,d⟩:=F5 F o ht;obtain rfl:b=true:=a.2 l;refine BH Tryz.func83 fun E h=>?_
 conv=>cbv
 refine .inr ?_;refine AB h (TU F m ha (by omega) (by omega) (by omega) (by omega) (e:=true) ⟨fun _=>j,fun _=>rfl⟩) ?_;conv=>cbv
 refine AO ?_;conv=>cbv
 refine AB h c ?_;conv=>cbv
 exact AD ⟨t2,trivial⟩
theorem Rd (F:Fl TT w) (m:Vm TT w 2100 ko ko BM BL BO BN xo yo) (o:Nm TT w 2100 ks BQ BP vs) (ha:Vm TT w 2100 ka ka BX BW Bk Bi xa ya) (ht:Nm TT w 2100 kt B7 B6 vt) (j:xo=xa/\yo=ya) (l:¬(vs=vt)) (q:2*ka+2*ko+2*ks+2*kt+83<=43400000:=by omega):CF 83 [.agg (AY BM BL BO BN BQ BP),.agg (AY BX BW Bk Bi B7 B6)] (.one (.int .i64 10)):=by
 obtain⟨b,a,c,d⟩:=F5 F o ht;obtain rfl:b=false:=Bool.eq_false_iff.2 fun z=>l (a.1 z)
 refine BH Tryz.func83 fun E h=>?_
 conv=>cbv
 refine .inr ?_;refine AB h (TU F m ha (by omega) (by omega) (by omega) (by omega) (e:=true) ⟨fun _=>j,fun _=>rfl⟩) ?_;conv=>cbv
 refine AO ?_;conv=>cbv
 refine AB h c ?_;conv=>cbv
 exact AD ⟨t2,trivial⟩
theorem ZC (F:Fl TT w) (l:Vm TT w 2100 ko ko BM BL BO BN xo yo) (m:Nm TT w 2100 ks BQ BP vs) (ha:Vm TT w 2100 ka ka BX BW Bk Bi xa ya) (ht:Nm TT w 2100 kt B7 B6 vt) (h:((xo=xa/\yo=ya)/\vs=vt)) (o:2*ka+2*ko+2*ks+2*kt+83<=43400000:=by omega):CF 57 [.agg (AY BM BL BO BN BQ BP),.agg (AY BX BW Bk Bi B7 B6)] (.one (.bool true)):=by
 obtain⟨b,a,d,c⟩:=F5 F m ht;obtain rfl:b=true:=a.2 h.2;refine BH Tryz.func57 fun E j=>?_
 conv=>cbv
 refine AB j (GW F l ha (by omega) (by omega) (by omega) (by omega) (e:=true) ⟨fun _=>h.1,fun _=>rfl⟩) ?_;conv=>cbv
 refine AB j c ?_;conv=>cbv
 exact AD ⟨t2,trivial⟩
theorem M7 (F:Fl TT w) (o:Vm TT w 2100 ko ko BM BL BO BN xo yo) (q:Nm TT w 2100 ks BQ BP vs) (ha:Vm TT w 2100 ka ka BX BW Bk Bi xa ya) (ht:Nm TT w 2100 kt B7 B6 vt) (m:¬((xo=xa/\yo=ya)/\vs=vt)) (A:2*ka+2*ko+2*ks+2*kt+83<=43400000:=by omega):CF 57 [.agg (AY BM BL BO BN BQ BP),.agg (AY BX BW Bk Bi B7 B6)] (.one (.bool false)):=by
 obtain⟨j,d⟩:=Er (xo=xa/\yo=ya);obtain⟨b,a,h,c⟩:=F5 F q ht;have u:b=true->j=true->False:=fun z y=>m ⟨d.1 y,a.1 z⟩
 refine BH Tryz.func57 fun E l=>?_
 conv=>cbv
 refine AB l (GW F o ha (by omega) (by omega) (by omega) (by omega) d) ?_;conv=>cbv
 cases j <;> conv=>cbv
 ·exact AD ⟨t2,trivial⟩
 refine AB l c ?_;conv=>cbv
 exact AD ⟨⟨rfl,congrArg _ ((Bool.eq_false_iff.2 fun z=>u z rfl).symm),trivial⟩,trivial⟩
theorem lY (F:Fl TT w) (ha:Nm TT w 2100 1 BM BL va) (hb:Nm TT w 2100 kb BO BN vb) (hc:Nm TT w 2100 kc BQ BP vc) (z:Vm TT w 2100 ko ko BX BW Bk Bi xo yo) (A:Nm TT w 2100 ks B7 B6 vs) (u:¬(va=0/\vb=0)) (o:sn=BT (vs-(va*xo+vb*yo-vc)*(va*xo+vb*yo-vc)*AT (va*va+vb*vb))) (B:48*kb+2*kc+4*ko+ks+163<=43400000:=by omega):CF 211 [.agg (AY BM BL BO BN BQ BP),.agg (AY BX BW Bk Bi B7 B6)] (.one (.int .i64 sn)):=by
 obtain⟨F1,Fw,h,b⟩:=mE F ⟨ha,hb,hc⟩ z u (Nat.le_refl _);obtain⟨F2,Fx,j,c⟩:=I2 F A h;obtain⟨l,a,q,d⟩:=Fb F j;obtain rfl:sn=l:=(o.symm).symm.trans a.symm;refine BH Tryz.func211 fun E m=>?_
 conv=>cbv
 refine AB m b ?_;conv=>cbv
 refine Ah 9 1 m c ?_;try conv=>cbv
 refine Ah 9 1 m (M4 d) ?_;try conv=>cbv
 exact AD ⟨t2,trivial⟩
theorem ly (F:Fl TT w) (ho:Vm TT w 2100 ko ko BM BL BO BN xo yo) (hs:Nm TT w 2100 ks BQ BP vs) (ha:Vm TT w 2100 ka ka BX BW Bk Bi xa ya) (ht:Nm TT w 2100 kt B7 B6 vt) (L:sn=BT (Re.ofRat ((4:Int):Rat)*(((xo-xa)*(xo-xa)+(yo-ya)*(yo-ya))*vs)-((xo-xa)*(xo-xa)+(yo-ya)*(yo-ya)+vs-vt)*((xo-xa)*(xo-xa)+(yo-ya)*(yo-ya)+vs-vt))) (hM:12*ka+12*ko+3*ks+2*kt+51<=43400000):CF 212 [.agg (AY BM BL BO BN BQ BP),.agg (AY BX BW Bk Bi B7 B6)] (.one (.int .i64 sn)):=by
 obtain⟨Gq,Gn,b,j⟩:=Si F ho ha;obtain⟨W,M,B,l⟩:=PM F b hs;obtain⟨Y,N,c,m⟩:=I2 F B ht;obtain⟨Z,O,C,o⟩:=G6 F b hs;obtain⟨R,d,D⟩:=lT F (p:=((4:Int):Rat)) (by decide +kernel);obtain⟨a1,S,G,q⟩:=G6 F D C;obtain⟨a2,T,H,u⟩:=G6 F c c;obtain⟨a5,U,I,z⟩:=I2 F G H;obtain⟨J,h,a6,A⟩:=Fb F I;obtain rfl:sn=J:=(L.symm).symm.trans h.symm;refine BH Tryz.func212 fun E a=>?_
 conv=>cbv
 refine Ah 10 1 a j ?_;try conv=>cbv
 refine Ah 10 1 a l ?_;try conv=>cbv
 refine Ah 10 1 a m ?_;try conv=>cbv
 refine Br ?_;refine Ah 10 1 a o ?_;try conv=>cbv
 refine AB a (Pw (by decide) d) ?_;conv=>cbv
 refine Ah 10 1 a q ?_;try conv=>cbv
 refine Ah 10 1 a u ?_;try conv=>cbv
 refine Ah 10 1 a z ?_;try conv=>cbv
 refine Ah 10 1 a (M4 A) ?_;try conv=>cbv
 refine Br ?_;exact AD ⟨t2,trivial⟩
theorem Y2:CF 210 [.one (.int .i64 1)] (.one (.int .i64 0)):=by
 refine BH Tryz.func210 fun E a=>?_
 conv=>cbv
 refine AO ?_;conv=>cbv
 refine AO ?_;conv=>cbv
 exact AD ⟨t2,trivial⟩
theorem PB:CF 210 [.one (.int .i64 0)] (.one (.int .i64 12)):=by
 refine BH Tryz.func210 fun E a=>?_
 conv=>cbv
 refine AO ?_;conv=>cbv
 refine BG ?_;conv=>cbv
 exact AD ⟨t2,trivial⟩
theorem PC:CF 210 [.one (.int .i64 (-1))] (.one (.int .i64 7)):=by
 refine BH Tryz.func210 fun E a=>?_
 conv=>cbv
 refine BG ?_;conv=>cbv
 exact AD ⟨t2,trivial⟩
end Go.Abs
namespace Go.Abs
open Go.RowKit
abbrev Bt (T1:List LR) (A1:LR) (T2:List LR) (A2:LR) (T3:List LR) (A3:LR) (T4:List LR) (A4:LR) (T5:List LR) (A5:LR):AV:= .agg [.int .i64 1,.sl (.sl AA) T1,.sl AA A1,.sl (.sl AA) T2,.sl AA A2,.sl (.sl AA) T3,.sl AA A3,.sl (.sl AA) T4,.sl AA A4,.sl (.sl AA) T5,.sl AA A5,.sl (.sl AA) [],.sl AA [],.sl (.sl AA) [],.sl AA [],.sl (.sl AA) [],.sl AA [],.sl (.sl AA) [],.sl AA [],.sl (.sl AA) [],.sl AA []]
abbrev Bj (T1:List LR) (A1:LR) (T2:List LR) (A2:LR) (T3:List LR) (A3:LR):AV:= .agg [.int .i64 2,.sl (.sl AA) [],.sl AA [],.sl (.sl AA) [],.sl AA [],.sl (.sl AA) [],.sl AA [],.sl (.sl AA) [],.sl AA [],.sl (.sl AA) [],.sl AA [],.sl (.sl AA) T1,.sl AA A1,.sl (.sl AA) T2,.sl AA A2,.sl (.sl AA) T3,.sl AA A3,.sl (.sl AA) [],.sl AA [],.sl (.sl AA) [],.sl AA []]
abbrev Dg (k:Int) (T0:List LR) (A0:LR) (T1:List LR) (A1:LR) (T2:List LR) (A2:LR) (T3:List LR) (A3:LR) (T4:List LR) (A4:LR) (T5:List LR) (A5:LR) (T6:List LR) (A6:LR) (T7:List LR) (A7:LR) (T8:List LR) (A8:LR) (T9:List LR) (A9:LR):List AC:= .int .i64 k::[.sl (.sl AA) T0,.sl AA A0,.sl (.sl AA) T1,.sl AA A1,.sl (.sl AA) T2,.sl AA A2,.sl (.sl AA) T3,.sl AA A3,.sl (.sl AA) T4,.sl AA A4,.sl (.sl AA) T5,.sl AA A5,.sl (.sl AA) T6,.sl AA A6,.sl (.sl AA) T7,.sl AA A7,.sl (.sl AA) T8,.sl AA A8,.sl (.sl AA) T9,.sl AA A9]
abbrev lcP (T1:List LR) (A1:LR) (T2:List LR) (A2:LR):AV:= .agg [.int .i64 3,.sl (.sl AA) [],.sl AA [],.sl (.sl AA) [],.sl AA [],.sl (.sl AA) [],.sl AA [],.sl (.sl AA) [],.sl AA [],.sl (.sl AA) [],.sl AA [],.sl (.sl AA) [],.sl AA [],.sl (.sl AA) [],.sl AA [],.sl (.sl AA) [],.sl AA [],.sl (.sl AA) T1,.sl AA A1,.sl (.sl AA) T2,.sl AA A2]
variable {A0 A1 A2 A3 A4 A5 BL BN BP BW Bi B6 A6 A7 A8 A9 Aa Ab Ac Ad Ae Af Ax Ay:LR} {K ka kb kc kd km ko kr ks kx:Nat} {T0 T1 T2 T3 T4 T5 BM BO BQ BX Bk B7 T6 T7 T8 T9 Ta Tb Tc Td Te Gr Tx Ty:List LR} {TT Fj:List (List Rat)->Prop} {br e k s sn:Int} {sg v va vb vc vs xa xb xd xm xo xx ya yb yd ym yo yx:Re} {w w0:List (List Rat)}
theorem jk (F:F9 TT w) (hm:Vm TT w 47000000 km km BM BL BO BN xm ym) (C:Vm TT w 47000000 kd kd BQ BP BX BW xd yd) (o:Nm Fj w0 2100 kr T1 A1 v) (m:kr<=K) (D:Rt Fj w0 2100 K TT w 47000000 1 v) (A:CF 85 [.agg (Ct BM BL BO BN BQ BP BX BW T1 A1)] (.one (.int .i64 0))) (H:kd+km+43<=690:=by omega):∃z u c b,Vm TT w 47000000 (kd+km+3) (kd+km+3) z u c b (xm+(xd*(Re.sqrt v))) (ym+(yd*(Re.sqrt v)))/\CF 185 [.agg (Ct BM BL BO BN BQ BP BX BW T1 A1),.one (.int .i64 1)] (.AF [(true,(AG z u c b)),(false,[.int .i64 0])]):=by
 obtain⟨Tr,G,q,B,_⟩:=D.get m o;obtain⟨Bk,Bi,B7,B6,j,d⟩:=Ln F C q;obtain⟨F1,Fw,Gq,Gn,l,h⟩:=NW F hm j;refine⟨F1,Fw,Gq,Gn,l.mono (by omega) (by omega),?_⟩;refine BH Tryz.func185 fun E a=>?_
 conv=>cbv
 refine AB a A ?_;conv=>cbv
 refine AO ?_;conv=>cbv
 refine AB a B ?_;conv=>cbv
 refine Ah 16 1 a Fa ?_;try conv=>cbv
 refine AO ?_;conv=>cbv
 refine .inr ?_;refine AB a d ?_;conv=>cbv
 refine Ah 16 1 a HO ?_;try conv=>cbv
 refine AB a h ?_;conv=>cbv
 refine Ah 16 1 a HO ?_;try conv=>cbv
 refine Ah 16 1 a X6 ?_;try conv=>cbv
 refine Br ?_;exact AD ⟨⟨rfl,rfl,rfl,rfl,rfl,trivial⟩,t2,trivial⟩
theorem jj (F:F9 TT w) (hm:Vm TT w 47000000 km km BM BL BO BN xm ym) (H:Vm TT w 47000000 kd kd BQ BP BX BW xd yd) (u:Nm Fj w0 2100 kr T1 A1 v) (q:kr<=K) (I:Rt Fj w0 2100 K TT w 47000000 1 v) (D:CF 85 [.agg (Ct BM BL BO BN BQ BP BX BW T1 A1)] (.one (.int .i64 0))) (L:kd+km+43<=690:=by omega):∃B A c b,Vm TT w 47000000 (kd+km+3) (kd+km+3) B A c b (xm+(xd*(-(Re.sqrt v)))) (ym+(yd*(-(Re.sqrt v))))/\CF 185 [.agg (Ct BM BL BO BN BQ BP BX BW T1 A1),.one (.int .i64 (-1))] (.AF [(true,(AG B A c b)),(false,[.int .i64 0])]):=by
 obtain⟨Tr,J,z,G,_⟩:=I.get q u;obtain⟨Bi,l,d,C⟩:=Iu F z;obtain⟨B7,B6,F1,Fw,m,h⟩:=Ln F H l;obtain⟨Gq,Gn,F2,Fx,o,j⟩:=NW F hm m;refine⟨Gq,Gn,F2,Fx,o.mono (by omega) (by omega),?_⟩;refine BH Tryz.func185 fun E a=>?_
 conv=>cbv
 refine AB a D ?_;conv=>cbv
 refine AO ?_;conv=>cbv
 refine AB a G ?_;conv=>cbv
 refine Ah 16 1 a Fa ?_;try conv=>cbv
 refine BG ?_;conv=>cbv
 refine .inr ?_;refine AB a d ?_;conv=>cbv
 refine AB a h ?_;conv=>cbv
 refine Ah 16 1 a HO ?_;try conv=>cbv
 refine AB a j ?_;conv=>cbv
 refine Ah 16 1 a HO ?_;try conv=>cbv
 refine Ah 16 1 a X6 ?_;try conv=>cbv
 refine Br ?_;exact AD ⟨⟨rfl,rfl,rfl,rfl,rfl,trivial⟩,t2,trivial⟩
def F0 (n:Re) (br:Int) (sg:Re):Prop:=br=1/\sg=Re.sqrt n\/br= -1/\sg= -Re.sqrt n
theorem Zq (n:Re) (h:br=1\/br= -1):∃sg,F0 n br sg:=h.elim (fun e=>⟨_,.inl ⟨e,rfl⟩⟩) fun e=>⟨_,.inr ⟨e,rfl⟩⟩
theorem F0.neg {n:Re} (h:F0 n br sg):F0 n (-br) (-sg):=by
 rcases h with⟨rfl,rfl⟩ |⟨rfl,rfl⟩
 ·exact .inr ⟨rfl,rfl⟩
 exact .inl ⟨rfl,by grind⟩
theorem F0.one {n:Re} (h:F0 n br sg):br=1\/br= -1:=h.imp (·.1) (·.1)
theorem F0.sq {n:Re} (h:F0 n br sg) (b:0<n):sg*sg=n:=by
 have a:=Re.HR (show 0<=n by grind);rcases h with⟨_,rfl⟩ |⟨_,rfl⟩
 ·exact a
 rw[show ∀z:Re,-z* -z=z*z by intro z;grind];exact a
theorem F0.ET {n D:Re} (h:F0 n br sg) (m:0<n) (c:0<D):br=BT (D*sg):=by
 have j:=Re.HR (show 0<=n by grind)
 have d:0<Re.sqrt n:=by
  have l:=Re.Jl n;have:Re.sqrt n≠0:=fun z=>by rw[z] at j;grind
  grind
 have:=Re.mul_pos c d;rcases h with⟨rfl,rfl⟩ |⟨rfl,rfl⟩
 ·exact (E8 this).symm
 rw[show ∀a b:Re,a* -b= -(a*b) by intro a b;grind];exact (Ld (by grind)).symm
theorem LH (h:br=1\/br= -1):CF 184 [.one (.int .i64 br)] (.one (.bool true)):=by
 rcases h with rfl | rfl
 ·exact js
 exact jq
theorem Hr (h:br=1\/br= -1):CF 208 [.one (.int .i64 br)] (.one (.bool true)):=by
 rcases h with rfl | rfl
 ·exact mD
 exact mC
theorem Rg (F:F9 TT w) (hb:F0 v br sg) (hm:Vm TT w 47000000 km km BM BL BO BN xm ym) (o:Vm TT w 47000000 kd kd BQ BP BX BW xd yd) (d:Nm Fj w0 2100 kr T1 A1 v) (c:kr<=K) (q:Rt Fj w0 2100 K TT w 47000000 1 v) (l:CF 85 [.agg (Ct BM BL BO BN BQ BP BX BW T1 A1)] (.one (.int .i64 0))) (m:kd+km+43<=690):∃j h b a,Vm TT w 47000000 (kd+km+3) (kd+km+3) j h b a (xm+xd*sg) (ym+yd*sg)/\CF 185 [.agg (Ct BM BL BO BN BQ BP BX BW T1 A1),.one (.int .i64 br)] (.AF [(true,(AG j h b a)),(false,[.int .i64 0])]):=by
 rcases hb with⟨rfl,rfl⟩ |⟨rfl,rfl⟩
 ·exact jk F hm o d c q l m
 exact jj F hm o d c q l m
theorem LD (he:e≠0) (d:CF 85 [.agg (Ct T1 A1 T2 A2 T3 A3 T4 A4 T5 A5)] (.one (.int .i64 e))):CF 185 [.agg (Ct T1 A1 T2 A2 T3 A3 T4 A4 T5 A5),.one (.int .i64 br)] (.AF [(true,(AG [] [] [] [])),(false,[.int .i64 e])]):=by
 refine BH Tryz.func185 fun E h=>?_
 conv=>cbv
 refine AB h d ?_;conv=>cbv
 intro c a;conv=>cbv
 cases c <;> conv=>cbv
 ·have b:=C8 a;exact False.elim (by omega)
 have b:=DA a;exact AD ⟨⟨rfl,AU,AU,AU,AU,trivial⟩,t2,trivial⟩
theorem mLC (cs:CF 184 [.one (.int .i64 br)] (.one (.bool true))) (ca:CF 186 [.agg (AY T6 A6 T7 A7 T8 A8),.agg (AG T3 A3 T4 A4)] (.one (.bool true))) (c:CF 82 [.agg (AY T6 A6 T7 A7 T8 A8),.agg (AG T3 A3 T4 A4),.agg (AY Ta Aa Tb Ab Tc Ac)] (.AF [(true,(Ct T1 A1 T2 A2 T3 A3 T4 A4 T5 A5)),(false,[.int .i64 0])])) (b:CF 185 [.agg (Ct T1 A1 T2 A2 T3 A3 T4 A4 T5 A5),.one (.int .i64 br)] (.AF [(true,(AG Tx Ax Ty Ay)),(false,[.int .i64 0])])):CF 62 [.agg (AY T6 A6 T7 A7 T8 A8),.agg (AG T3 A3 T4 A4),.agg (AY Ta Aa Tb Ab Tc Ac),.one (.int .i64 br)] (.AF [(true,(AG Tx Ax Ty Ay)),(false,[.int .i64 0])]):=by
 refine BH Tryz.func62 fun E a=>?_
 conv=>cbv
 refine AB a cs ?_;conv=>cbv
 refine AO ?_;conv=>cbv
 refine AB a ca ?_;conv=>cbv
 refine AO ?_;conv=>cbv
 refine AB a c ?_;conv=>cbv
 refine AO ?_;conv=>cbv
 refine AB a b ?_;conv=>cbv
 exact AD ⟨⟨rfl,rfl,rfl,rfl,rfl,trivial⟩,t2,trivial⟩
theorem X1 (cs:CF 184 [.one (.int .i64 br)] (.one (.bool true))) (ca:CF 186 [.agg (AY T6 A6 T7 A7 T8 A8),.agg (AG T3 A3 T4 A4)] (.one (.bool true))) (c:CF 82 [.agg (AY T6 A6 T7 A7 T8 A8),.agg (AG T3 A3 T4 A4),.agg (AY Ta Aa Tb Ab Tc Ac)] (.AF [(true,(Ct T1 A1 T2 A2 T3 A3 T4 A4 T5 A5)),(false,[.int .i64 0])])) (b:CF 185 [.agg (Ct T1 A1 T2 A2 T3 A3 T4 A4 T5 A5),.one (.int .i64 br)] (.AF [(true,[BI,BJ,BI,BJ]),(false,[.int .i64 e])])):CF 62 [.agg (AY T6 A6 T7 A7 T8 A8),.agg (AG T3 A3 T4 A4),.agg (AY Ta Aa Tb Ab Tc Ac),.one (.int .i64 br)] (.AF [(true,(AG [] [] [] [])),(false,[.int .i64 e])]):=by
 refine BH Tryz.func62 fun E a=>?_
 conv=>cbv
 refine AB a cs ?_;conv=>cbv
 refine AO ?_;conv=>cbv
 refine AB a ca ?_;conv=>cbv
 refine AO ?_;conv=>cbv
 refine AB a c ?_;conv=>cbv
 refine AO ?_;conv=>cbv
 refine AB a b ?_;conv=>cbv
 exact AD ⟨⟨rfl,rfl,rfl,rfl,rfl,trivial⟩,t2,trivial⟩
theorem Oo (he:e≠0) (cs:CF 184 [.one (.int .i64 br)] (.one (.bool true))) (h:CF 83 [.agg (AY T6 A6 T7 A7 T8 A8),.agg (AY Ta Aa Tb Ab Tc Ac)] (.one (.int .i64 e))):CF 61 [.agg (AY T6 A6 T7 A7 T8 A8),.agg (AY Ta Aa Tb Ab Tc Ac),.one (.int .i64 br)] (.AF [(true,(AG [] [] [] [])),(false,[.int .i64 e])]):=by
 refine BH Tryz.func61 fun E d=>?_
 conv=>cbv
 refine AB d cs ?_;conv=>cbv
 refine AO ?_;conv=>cbv
 refine AB d h ?_;conv=>cbv
 intro c a;conv=>cbv
 cases c <;> conv=>cbv
 ·have b:=C8 a;exact False.elim (by omega)
 have b:=DA a;exact AD ⟨⟨rfl,AU,AU,AU,AU,trivial⟩,t2,trivial⟩
theorem Xz (cs:CF 184 [.one (.int .i64 br)] (.one (.bool true))) (b:CF 83 [.agg (AY T6 A6 T7 A7 T8 A8),.agg (AY Ta Aa Tb Ab Tc Ac)] (.one (.int .i64 0))) (d:CF 84 [.agg (AY T6 A6 T7 A7 T8 A8),.agg (AY Ta Aa Tb Ab Tc Ac)] (.AF [(true,(Ct T1 A1 T2 A2 T3 A3 T4 A4 T5 A5)),(false,[.int .i64 0])])) (c:CF 185 [.agg (Ct T1 A1 T2 A2 T3 A3 T4 A4 T5 A5),.one (.int .i64 br)] (.AF [(true,(AG Tx Ax Ty Ay)),(false,[.int .i64 0])])):CF 61 [.agg (AY T6 A6 T7 A7 T8 A8),.agg (AY Ta Aa Tb Ab Tc Ac),.one (.int .i64 br)] (.AF [(true,(AG Tx Ax Ty Ay)),(false,[.int .i64 0])]):=by
 refine BH Tryz.func61 fun E a=>?_
 conv=>cbv
 refine AB a cs ?_;conv=>cbv
 refine AO ?_;conv=>cbv
 refine AB a b ?_;conv=>cbv
 refine AO ?_;conv=>cbv
 refine AB a d ?_;conv=>cbv
 refine AO ?_;conv=>cbv
 refine AB a c ?_;conv=>cbv
 exact AD ⟨⟨rfl,rfl,rfl,rfl,rfl,trivial⟩,t2,trivial⟩
theorem Oq (cs:CF 184 [.one (.int .i64 br)] (.one (.bool true))) (b:CF 83 [.agg (AY T6 A6 T7 A7 T8 A8),.agg (AY Ta Aa Tb Ab Tc Ac)] (.one (.int .i64 0))) (d:CF 84 [.agg (AY T6 A6 T7 A7 T8 A8),.agg (AY Ta Aa Tb Ab Tc Ac)] (.AF [(true,(Ct T1 A1 T2 A2 T3 A3 T4 A4 T5 A5)),(false,[.int .i64 0])])) (c:CF 185 [.agg (Ct T1 A1 T2 A2 T3 A3 T4 A4 T5 A5),.one (.int .i64 br)] (.AF [(true,[BI,BJ,BI,BJ]),(false,[.int .i64 e])])):CF 61 [.agg (AY T6 A6 T7 A7 T8 A8),.agg (AY Ta Aa Tb Ab Tc Ac),.one (.int .i64 br)] (.AF [(true,(AG [] [] [] [])),(false,[.int .i64 e])]):=by
 refine BH Tryz.func61 fun E a=>?_
 conv=>cbv
 refine AB a cs ?_;conv=>cbv
 refine AO ?_;conv=>cbv
 refine AB a b ?_;conv=>cbv
 refine AO ?_;conv=>cbv
 refine AB a d ?_;conv=>cbv
 refine AO ?_;conv=>cbv
 refine AB a c ?_;conv=>cbv
 exact AD ⟨⟨rfl,rfl,rfl,rfl,rfl,trivial⟩,t2,trivial⟩
theorem lf (cs:CF 208 [.one (.int .i64 br)] (.one (.bool false))):CF 94 [.agg (AY T6 A6 T7 A7 T8 A8),.agg (AG T3 A3 T4 A4),.agg (AY Ta Aa Tb Ab Tc Ac),.one (.int .i64 br)] (.one (.int .i64 1)):=by
 refine BH Tryz.func94 fun E a=>?_
 conv=>cbv
 refine AB a cs ?_;conv=>cbv
 refine BG ?_;conv=>cbv
 exact AD ⟨t2,trivial⟩
theorem M3 (cs:CF 208 [.one (.int .i64 br)] (.one (.bool true))) (ca:CF 209 [.agg (AY T6 A6 T7 A7 T8 A8),.agg (AG T3 A3 T4 A4)] (.one (.bool true))) (cx:CF 211 [.agg (AY T6 A6 T7 A7 T8 A8),.agg (AY Ta Aa Tb Ab Tc Ac)] (.one (.int .i64 k))) (b:CF 210 [.one (.int .i64 k)] (.one (.int .i64 e))):CF 94 [.agg (AY T6 A6 T7 A7 T8 A8),.agg (AG T3 A3 T4 A4),.agg (AY Ta Aa Tb Ab Tc Ac),.one (.int .i64 br)] (.one (.int .i64 e)):=by
 refine BH Tryz.func94 fun E a=>?_
 conv=>cbv
 refine AB a cs ?_;conv=>cbv
 refine AO ?_;conv=>cbv
 refine AB a ca ?_;conv=>cbv
 refine AO ?_;conv=>cbv
 refine AB a cx ?_;conv=>cbv
 refine AB a b ?_;conv=>cbv
 exact AD ⟨t2,trivial⟩
theorem lW (cs:CF 208 [.one (.int .i64 br)] (.one (.bool false))):CF 95 [.agg (AY T6 A6 T7 A7 T8 A8),.agg (AY Ta Aa Tb Ab Tc Ac),.one (.int .i64 br)] (.one (.int .i64 1)):=by
 refine BH Tryz.func95 fun E a=>?_
 conv=>cbv
 refine AB a cs ?_;conv=>cbv
 refine BG ?_;conv=>cbv
 exact AD ⟨t2,trivial⟩
theorem Y0 (cs:CF 208 [.one (.int .i64 br)] (.one (.bool true))) (ce:CF 57 [.agg (AY T6 A6 T7 A7 T8 A8),.agg (AY Ta Aa Tb Ab Tc Ac)] (.one (.bool true))):CF 95 [.agg (AY T6 A6 T7 A7 T8 A8),.agg (AY Ta Aa Tb Ab Tc Ac),.one (.int .i64 br)] (.one (.int .i64 11)):=by
 refine BH Tryz.func95 fun E a=>?_
 conv=>cbv
 refine AB a cs ?_;conv=>cbv
 refine AO ?_;conv=>cbv
 refine AB a ce ?_;conv=>cbv
 exact AD ⟨t2,trivial⟩
theorem Y1 (cs:CF 208 [.one (.int .i64 br)] (.one (.bool true))) (ce:CF 57 [.agg (AY T6 A6 T7 A7 T8 A8),.agg (AY Ta Aa Tb Ab Tc Ac)] (.one (.bool false))) (co:CF 38 [.agg (AG T6 A6 T7 A7),.agg (AG Ta Aa Tb Ab)] (.one (.bool true))):CF 95 [.agg (AY T6 A6 T7 A7 T8 A8),.agg (AY Ta Aa Tb Ab Tc Ac),.one (.int .i64 br)] (.one (.int .i64 10)):=by
 refine BH Tryz.func95 fun E a=>?_
 conv=>cbv
 refine AB a cs ?_;conv=>cbv
 refine AO ?_;conv=>cbv
 refine AB a ce ?_;conv=>cbv
 refine AB a co ?_;conv=>cbv
 exact AD ⟨t2,trivial⟩
theorem My (cs:CF 208 [.one (.int .i64 br)] (.one (.bool true))) (ce:CF 57 [.agg (AY T6 A6 T7 A7 T8 A8),.agg (AY Ta Aa Tb Ab Tc Ac)] (.one (.bool false))) (co:CF 38 [.agg (AG T6 A6 T7 A7),.agg (AG Ta Aa Tb Ab)] (.one (.bool false))) (cx:CF 212 [.agg (AY T6 A6 T7 A7 T8 A8),.agg (AY Ta Aa Tb Ab Tc Ac)] (.one (.int .i64 k))) (b:CF 210 [.one (.int .i64 k)] (.one (.int .i64 e))):CF 95 [.agg (AY T6 A6 T7 A7 T8 A8),.agg (AY Ta Aa Tb Ab Tc Ac),.one (.int .i64 br)] (.one (.int .i64 e)):=by
 refine BH Tryz.func95 fun E a=>?_
 conv=>cbv
 refine AB a cs ?_;conv=>cbv
 refine AO ?_;conv=>cbv
 refine AB a ce ?_;conv=>cbv
 refine AB a co ?_;conv=>cbv
 refine AB a cx ?_;conv=>cbv
 refine AB a b ?_;conv=>cbv
 exact AD ⟨t2,trivial⟩
theorem KL (c:CF 93 [.agg (AY T1 A1 T2 A2 T3 A3),.agg (AY T6 A6 T7 A7 T8 A8)] (.one (.int .i64 e))):CF 18 [(Bt T1 A1 T2 A2 T3 A3 T4 A4 T5 A5),(Bt T6 A6 T7 A7 T8 A8 T9 A9 T0 A0),.one (.int .i64 0)] (.one (.int .i64 e)):=by
 refine BH Tryz.func18 fun E a=>?_
 conv=>cbv
 refine BG ?_;conv=>cbv
 refine BG ?_;conv=>cbv
 refine AO ?_;conv=>cbv
 refine AB a c ?_;conv=>cbv
 exact AD ⟨t2,trivial⟩
theorem lX (hb:br≠0):CF 18 [(Bt T1 A1 T2 A2 T3 A3 T4 A4 T5 A5),(Bt T6 A6 T7 A7 T8 A8 T9 A9 T0 A0),.one (.int .i64 br)] (.one (.int .i64 1)):=by
 refine BH Tryz.func18 fun E d=>?_
 conv=>cbv
 refine BG ?_;conv=>cbv
 refine BG ?_;conv=>cbv
 intro c a;conv=>cbv
 cases c <;> conv=>cbv
 ·have b:=C8 a;exact False.elim (by omega)
 have b:=DA a;exact AD ⟨t2,trivial⟩
theorem M1 (c:CF 94 [.agg (AY T1 A1 T2 A2 T3 A3),.agg (AG T4 A4 T5 A5),.agg (AY Ta Aa Tb Ab Tc Ac),.one (.int .i64 br)] (.one (.int .i64 e))):CF 18 [(Bt T1 A1 T2 A2 T3 A3 T4 A4 T5 A5),(Bj Ta Aa Tb Ab Tc Ac),.one (.int .i64 br)] (.one (.int .i64 e)):=by
 refine BH Tryz.func18 fun E a=>?_
 conv=>cbv
 refine BG ?_;conv=>cbv
 refine AO ?_;conv=>cbv
 refine BG ?_;conv=>cbv
 refine BG ?_;conv=>cbv
 refine AB a c ?_;conv=>cbv
 exact AD ⟨t2,trivial⟩
theorem M0 (c:CF 94 [.agg (AY T1 A1 T2 A2 T3 A3),.agg (AG T4 A4 T5 A5),.agg (AY Ta Aa Tb Ab Tc Ac),.one (.int .i64 br)] (.one (.int .i64 e))):CF 18 [(Bj Ta Aa Tb Ab Tc Ac),(Bt T1 A1 T2 A2 T3 A3 T4 A4 T5 A5),.one (.int .i64 br)] (.one (.int .i64 e)):=by
 refine BH Tryz.func18 fun E a=>?_
 conv=>cbv
 refine AO ?_;conv=>cbv
 refine AO ?_;conv=>cbv
 refine BG ?_;conv=>cbv
 refine BG ?_;conv=>cbv
 refine AB a c ?_;conv=>cbv
 exact AD ⟨t2,trivial⟩
theorem Mz (c:CF 95 [.agg (AY Ta Aa Tb Ab Tc Ac),.agg (AY Td Ad Te Ae Gr Af),.one (.int .i64 br)] (.one (.int .i64 e))):CF 18 [(Bj Ta Aa Tb Ab Tc Ac),(Bj Td Ad Te Ae Gr Af),.one (.int .i64 br)] (.one (.int .i64 e)):=by
 refine BH Tryz.func18 fun E a=>?_
 conv=>cbv
 refine AO ?_;conv=>cbv
 refine AO ?_;conv=>cbv
 refine BG ?_;conv=>cbv
 refine AO ?_;conv=>cbv
 refine BG ?_;conv=>cbv
 refine BG ?_;conv=>cbv
 refine AB a c ?_;conv=>cbv
 exact AD ⟨t2,trivial⟩
theorem ou (F:F9 TT w) (ha:Nm TT w 47000000 ka BM BL va) (hb:Nm TT w 47000000 kb BO BN vb) (l:ka+kb+41<=690:=by omega):∃d c,Nm TT w 47000000 (ka+kb+1) d c (va-vb)/\BU Tryz.prog 65 [.one (.Ag 0 0 0),.agg (AK BM BL),.agg (AK BO BN)] (.var 0 [.int .i64 0]) (.agg (AK d c)):=by
 obtain⟨BQ,BP,b,h,a⟩:=F6 F ha hb;refine⟨BQ,BP,b.mono (by omega),?_⟩;refine CX Tryz.func65 fun E j=>?_
 conv=>cbv
 refine AB j a ?_;conv=>cbv
 refine Ah 0 0 j IQ ?_;try conv=>cbv
 refine fun _=>⟨⟨⟨t3,trivial⟩,rfl,by simp⟩,rfl⟩
theorem Pe (F:F9 TT w) (ha:Vm TT w 47000000 ka ka BM BL BO BN xa ya) (hb:Vm TT w 47000000 kb kb BQ BP BX BW xb yb) (o:ka+kb+41<=690:=by omega):∃l j b a,Vm TT w 47000000 (ka+kb+1) (ka+kb+1) l j b a (xa-xb) (ya-yb)/\BU Tryz.prog 69 [.one (.Ag 0 0 0),.agg (AG BM BL BO BN),.agg (AG BQ BP BX BW)] (.var 0 [.int .i64 0]) (.agg (AG l j b a)):=by
 obtain⟨Bk,Bi,B7,B6,d,c⟩:=Lu F ha hb;have h:=d.cast (x':=xa-xb) (y':=ya-yb) (by grind) (by grind);refine⟨Bk,Bi,B7,B6,h.mono (by omega) (by omega),?_⟩;refine CX Tryz.func69 fun E m=>?_
 conv=>cbv
 refine AB m c ?_;conv=>cbv
 refine Ah 0 0 m LW ?_;try conv=>cbv
 refine fun _=>⟨⟨⟨⟨rfl,rfl,rfl,rfl,rfl,trivial⟩,trivial⟩,rfl,by simp⟩,rfl⟩
theorem ot (F:F9 TT w) (ha:Vm TT w 47000000 ka ka BM BL BO BN xa ya) (j:2*ka+42<=690:=by omega):∃d c,Nm TT w 47000000 (4*ka+3) d c (xa*xa+ya*ya)/\BU Tryz.prog 70 [.one (.Ag 0 0 0),.agg (AG BM BL BO BN)] (.var 0 [.int .i64 0]) (.agg (AK d c)):=by
 obtain⟨BQ,BP,b,a⟩:=bI F ha;refine⟨BQ,BP,b.mono (by omega),?_⟩;refine CX Tryz.func70 fun E h=>?_
 conv=>cbv
 refine AB h a ?_;conv=>cbv
 refine Ah 0 0 h IQ ?_;try conv=>cbv
 refine fun _=>⟨⟨⟨t3,trivial⟩,rfl,by simp⟩,rfl⟩
theorem oh (F:F9 TT w) (ha:Vm TT w 47000000 ka ka BM BL BO BN xa ya) (hb:Vm TT w 47000000 kb kb BQ BP BX BW xb yb) (j:ka+kb+42<=690:=by omega):∃d c,Nm TT w 47000000 (2*ka+2*kb+3) d c (xa*xb+ya*yb)/\BU Tryz.prog 214 [.one (.Ag 0 0 0),.agg (AG BM BL BO BN),.agg (AG BQ BP BX BW)] (.var 0 [.int .i64 0]) (.agg (AK d c)):=by
 obtain⟨Bk,Bi,b,a⟩:=To F ha hb;refine⟨Bk,Bi,b.mono (by omega),?_⟩;refine CX Tryz.func214 fun E h=>?_
 conv=>cbv
 refine AB h a ?_;conv=>cbv
 refine Ah 0 0 h IQ ?_;try conv=>cbv
 refine fun _=>⟨⟨⟨t3,trivial⟩,rfl,by simp⟩,rfl⟩
theorem og (F:F9 TT w) (ha:Vm TT w 47000000 ka ka BM BL BO BN xa ya) (hb:Vm TT w 47000000 kb kb BQ BP BX BW xb yb) (l:ka+kb+42<=690:=by omega):∃h d,Nm TT w 47000000 (2*ka+2*kb+3) h d (xa*yb-ya*xb)/\BU Tryz.prog 178 [.one (.Ag 0 0 0),.agg (AG BM BL BO BN),.agg (AG BQ BP BX BW)] (.var 0 [.int .i64 0]) (.agg (AK h d)):=by
 obtain⟨Bk,Bi,b,a⟩:=oy F ha hb;have c:=b.cast (y:=xa*yb-ya*xb) (by grind);refine⟨Bk,Bi,c.mono (by omega),?_⟩;refine CX Tryz.func178 fun E j=>?_
 conv=>cbv
 refine AB j a ?_;conv=>cbv
 refine Ah 0 0 j IQ ?_;try conv=>cbv
 refine fun _=>⟨⟨⟨t3,trivial⟩,rfl,by simp⟩,rfl⟩
theorem om (F:F9 TT w) (ha:Vm TT w 47000000 ka ka BM BL BO BN xa ya) (hb:Vm TT w 47000000 kb kb BQ BP BX BW xb yb) (m:2*ka+2*kb+44<=690:=by omega):∃j h,Nm TT w 47000000 (4*ka+4*kb+7) j h ((xa-xb)*(xa-xb)+(ya-yb)*(ya-yb))/\BU Tryz.prog 78 [.one (.Ag 0 0 0),.agg (AG BM BL BO BN),.agg (AG BQ BP BX BW)] (.var 0 [.int .i64 0]) (.agg (AK j h)):=by
 obtain⟨B7,B6,F1,Fw,c,a⟩:=Pe F ha hb;obtain⟨F2,Fx,d,b⟩:=ot F c;refine⟨F2,Fx,d.mono (by omega),?_⟩;refine CX Tryz.func78 fun E l=>?_
 conv=>cbv
 refine Ah 0 0 l a ?_;try conv=>cbv
 refine Ah 0 0 l b ?_;try conv=>cbv
 refine fun _=>⟨⟨⟨t3,trivial⟩,rfl,by simp⟩,rfl⟩
theorem oo (F:F9 TT w) (m:Vm TT w 47000000 ko ko BM BL BO BN xo yo) (o:Nm TT w 47000000 ks BQ BP vs) (ha:Vm TT w 47000000 ka ka BX BW Bk Bi xa ya) (q:4*ka+4*ko+ks+48<=690:=by omega):∃j h,Nm TT w 47000000 (4*ka+4*ko+ks+8) j h (((xo-xa)*(xo-xa)+(yo-ya)*(yo-ya))-vs)/\CF 205 [.agg (AY BM BL BO BN BQ BP),.agg (AG BX BW Bk Bi)] (.AF [(true,(AK j h)),(false,[.int .i64 0])]):=by
 obtain⟨F1,Fw,c,a⟩:=om F m ha;obtain⟨F2,Fx,d,b⟩:=ou F c o;refine⟨F2,Fx,d.mono (by omega),?_⟩;refine BH Tryz.func205 fun E l=>?_
 conv=>cbv
 refine Ah 9 1 l a ?_;try conv=>cbv
 refine Ah 9 1 l b ?_;try conv=>cbv
 refine Br ?_;refine AO ?_;conv=>cbv
 exact AD ⟨t3,t2,trivial⟩
theorem oq (F:F9 TT w) (o:Vm TT w 47000000 ko ko BM BL BO BN xo yo) (q:Nm TT w 47000000 ks BQ BP vs) (ha:Vm TT w 47000000 ka ka BX BW Bk Bi xa ya) (j:sn=BT ((xo-xa)*(xo-xa)+(yo-ya)*(yo-ya)-vs)) (u:4*ka+4*ko+ks+49<=690:=by omega):CF 92 [.agg (AY BM BL BO BN BQ BP),.agg (AG BX BW Bk Bi)] (.AF [(false,[.int .i64 sn]),(false,[.int .i64 0])]):=by
 obtain⟨F1,Fw,d,b⟩:=oo F o q ha;obtain⟨h,a,l,c⟩:=Fb F d;obtain rfl:sn=h:=(j.symm).symm.trans a.symm;refine BH Tryz.func92 fun E m=>?_
 conv=>cbv
 refine AB m b ?_;conv=>cbv
 refine AO ?_;conv=>cbv
 refine AB m c ?_;conv=>cbv
 exact AD ⟨t2,t2,trivial⟩
theorem KD (F:F9 TT w) {e:Bool} (ha:Nm TT w 47000000 1 BM BL va) (hb:Nm TT w 47000000 kb BO BN vb) (hc:Nm TT w 47000000 kc BQ BP vc) (b:Vm TT w 47000000 kx kx BX BW Bk Bi xx yx) (he:e=true↔va*xx+vb*yx=vc) (c:2*kb+2*kc+4*kx+171<=690):CF 80 [(Bt BM BL BO BN BQ BP T1 A1 T2 A2),.agg (AG BX BW Bk Bi)] (.one (.bool e)):=by
 refine BH Tryz.func80 fun E a=>?_
 conv=>cbv
 refine .inr ?_;refine BG ?_;conv=>cbv
 refine AB a (lOn F ⟨ha,hb,hc⟩ b (by omega) (by omega) he) ?_;conv=>cbv
 exact AD ⟨t2,trivial⟩
theorem PD (F:F9 TT w) {e:Bool} (ha:Nm TT w 47000000 1 BM BL va) (hb:Nm TT w 47000000 kb BO BN vb) (hc:Nm TT w 47000000 kc BQ BP vc) (b:Vm TT w 47000000 kx kx BX BW Bk Bi xx yx) (he:e=true↔va*xx+vb*yx=vc) (c:kb+kc+2*kx+48<=690:=by omega):CF 17 [(Bt BM BL BO BN BQ BP T1 A1 T2 A2),.agg (AG BX BW Bk Bi)] (.one (.bool e)):=by
 refine BH Tryz.func17 fun E a=>?_
 conv=>cbv
 refine .inr ?_;refine BG ?_;conv=>cbv
 refine AB a (rOn F ⟨ha,hb,hc⟩ b (by omega) he) ?_;conv=>cbv
 exact AD ⟨t2,trivial⟩
theorem Is (F:F9 TT w) {e:Bool} (q:Vm TT w 47000000 ko ko BM BL BO BN xo yo) (u:Nm TT w 47000000 ks BQ BP vs) (z:Vm TT w 47000000 kx kx BX BW Bk Bi xx yx) (he:e=true↔(xx-xo)*(xx-xo)+(yx-yo)*(yx-yo)=vs) (A:8*ko+2*ks+8*kx+177<=690):CF 80 [(Bj BM BL BO BN BQ BP),.agg (AG BX BW Bk Bi)] (.one (.bool e)):=by
 obtain⟨B7,B6,F1,Fw,j,c⟩:=Jm F z q;obtain⟨Gq,Gn,l,d⟩:=KR F j;obtain⟨b,a,h,o⟩:=F5 F l u;obtain rfl:e=b:=Bool.eq_iff_iff.2 (he.trans a.symm);refine BH Tryz.func80 fun E m=>?_
 conv=>cbv
 refine .inr ?_;refine AO ?_;conv=>cbv
 refine AO ?_;conv=>cbv
 refine BG ?_;conv=>cbv
 refine AB m c ?_;conv=>cbv
 refine Ah 24 1 m HO ?_;try conv=>cbv
 refine AB m d ?_;conv=>cbv
 refine Ah 24 1 m Fa ?_;try conv=>cbv
 refine BG ?_;conv=>cbv
 refine AB m h ?_;conv=>cbv
 exact AD ⟨t2,trivial⟩
theorem LS (F:F9 TT w) {e:Bool} (d:Vm TT w 47000000 ko ko BM BL BO BN xo yo) (j:Nm TT w 47000000 ks BQ BP vs) (l:Vm TT w 47000000 kx kx BX BW Bk Bi xx yx) (he:e=true↔(xx-xo)*(xx-xo)+(yx-yo)*(yx-yo)=vs) (o:4*ko+ks+4*kx+49<=690:=by omega):CF 17 [(Bj BM BL BO BN BQ BP),.agg (AG BX BW Bk Bi)] (.one (.bool e)):=by
 obtain⟨sn,a⟩:∃z,z=BT ((xo-xx)*(xo-xx)+(yo-yx)*(yo-yx)-vs):=⟨_,rfl⟩
 refine BH Tryz.func17 fun E c=>?_
 conv=>cbv
 refine .inr ?_;refine AO ?_;conv=>cbv
 refine BG ?_;conv=>cbv
 refine AB c (oq F d j l a) ?_;conv=>cbv
 refine BG ?_;conv=>cbv
 intro m b;conv=>cbv
 exact AD ⟨⟨rfl,congrArg _ (by rw[Bool.eq_iff_iff,he,b,beq_iff_eq,a,Gj];constructor <;> intro h <;> grind),trivial⟩,trivial⟩
theorem bA (F:F9 TT w) (I:Vm TT w 47000000 ko ko BM BL BO BN xo yo) (ha:Vm TT w 47000000 ka ka BQ BP BX BW xa ya) (J:Vm TT w 47000000 kx kx Bk Bi B7 B6 xx yx) (u:sn=BT ((xa-xo)*(yx-yo)-(ya-yo)*(xx-xo))) (L:2*ka+4*ko+2*kx+48<=690):CF 96 [.agg (AG BM BL BO BN),.agg (AG BQ BP BX BW),.agg (AG Bk Bi B7 B6)] (.one (.int .i64 sn)):=by
 obtain⟨Gq,Gn,F2,Fx,j,b⟩:=Pe F ha I;obtain⟨C,z,D,A,l,c⟩:=Pe F J I;obtain⟨G,B,m,d⟩:=og F j l;obtain⟨o,a,H,h⟩:=Fb F m;obtain rfl:sn=o:=(u.symm).symm.trans a.symm;refine BH Tryz.func96 fun E q=>?_
 conv=>cbv
 refine Ah 9 1 q b ?_;try conv=>cbv
 refine Ah 9 1 q c ?_;try conv=>cbv
 refine Ah 9 1 q d ?_;try conv=>cbv
 refine Ah 9 1 q (M4 h) ?_;try conv=>cbv
 refine Br ?_;exact AD ⟨t2,trivial⟩
theorem a8 (F:F9 TT w) (A:Vm TT w 47000000 kd kd BM BL BO BN xd yd) (B:Vm TT w 47000000 ko ko BQ BP BX BW xo yo) (C:Vm TT w 47000000 kx kx Bk Bi B7 B6 xx yx) (o:sn=BT (xd*(xx-xo)+yd*(yx-yo))) (D:2*kd+2*ko+2*kx+46<=690):CF 97 [.agg (AG BM BL BO BN),.agg (AG BQ BP BX BW),.agg (AG Bk Bi B7 B6)] (.one (.int .i64 sn)):=by
 obtain⟨Gq,Gn,F2,Fx,h,b⟩:=Pe F C B;obtain⟨u,q,j,c⟩:=oh F A h;obtain⟨l,a,z,d⟩:=Fb F j;obtain rfl:sn=l:=(o.symm).symm.trans a.symm;refine BH Tryz.func97 fun E m=>?_
 conv=>cbv
 refine Ah 9 1 m b ?_;try conv=>cbv
 refine Ah 9 1 m c ?_;try conv=>cbv
 refine Ah 9 1 m (M4 d) ?_;try conv=>cbv
 refine Br ?_;exact AD ⟨t2,trivial⟩
theorem mB:CF 19 [(Bt T1 A1 T2 A2 T3 A3 T4 A4 T5 A5),(Bt T6 A6 T7 A7 T8 A8 T9 A9 T0 A0),.agg (AG Tx Ax Ty Ay)] (.one (.int .i64 0)):=by
 refine BH Tryz.func19 fun E a=>?_
 conv=>cbv
 refine BG ?_;conv=>cbv
 refine BG ?_;conv=>cbv
 exact AD ⟨t2,trivial⟩
theorem mA (c:CF 97 [.agg (AG T4 A4 T5 A5),.agg (AG Ta Aa Tb Ab),.agg (AG Tx Ax Ty Ay)] (.one (.int .i64 s))):CF 19 [(Bt T1 A1 T2 A2 T3 A3 T4 A4 T5 A5),(Bj Ta Aa Tb Ab Tc Ac),.agg (AG Tx Ax Ty Ay)] (.one (.int .i64 s)):=by
 refine BH Tryz.func19 fun E a=>?_
 conv=>cbv
 refine BG ?_;conv=>cbv
 refine AO ?_;conv=>cbv
 refine AO ?_;conv=>cbv
 refine BG ?_;conv=>cbv
 refine AB a c ?_;conv=>cbv
 exact AD ⟨t2,trivial⟩
theorem l5 (c:CF 97 [.agg (AG T4 A4 T5 A5),.agg (AG Ta Aa Tb Ab),.agg (AG Tx Ax Ty Ay)] (.one (.int .i64 s))):CF 19 [(Bj Ta Aa Tb Ab Tc Ac),(Bt T1 A1 T2 A2 T3 A3 T4 A4 T5 A5),.agg (AG Tx Ax Ty Ay)] (.one (.int .i64 s)):=by
 refine BH Tryz.func19 fun E a=>?_
 conv=>cbv
 refine AO ?_;conv=>cbv
 refine BG ?_;conv=>cbv
 refine AO ?_;conv=>cbv
 refine AO ?_;conv=>cbv
 refine AB a c ?_;conv=>cbv
 exact AD ⟨t2,trivial⟩
theorem lz (c:CF 96 [.agg (AG Ta Aa Tb Ab),.agg (AG Td Ad Te Ae),.agg (AG Tx Ax Ty Ay)] (.one (.int .i64 s))):CF 19 [(Bj Ta Aa Tb Ab Tc Ac),(Bj Td Ad Te Ae Gr Af),.agg (AG Tx Ax Ty Ay)] (.one (.int .i64 s)):=by
 refine BH Tryz.func19 fun E a=>?_
 conv=>cbv
 refine AO ?_;conv=>cbv
 refine BG ?_;conv=>cbv
 refine BG ?_;conv=>cbv
 refine AB a c ?_;conv=>cbv
 exact AD ⟨t2,trivial⟩
end Go.Abs
namespace Go.Abs
open Go.RowKit
structure DI (TT:List (List Rat)->Prop) (w:List (List Rat)) (T1:List LR) (A1:LR) (T2:List LR) (A2:LR) (T3:List LR) (A3:LR) (T4:List LR) (A4:LR) (T5:List LR) (A5:LR) (al be ga xd yd xp yp i:Re):Prop where
 l:Da TT w 2100 999 1083 T1 A1 T2 A2 T3 A3 al be ga
 d:Vm TT w 2100 41 41 T4 A4 T5 A5 xd yd
 p:∃T A T' A',Vm TT w 2100 20 20 T A T' A' xp yp
 nz:¬(xd=0/\yd=0)
 one:al=1\/al=0/\be=1
 ha:al= -yd*i
 hb:be=xd*i
 hc:ga=(-yd*xp+xd*yp)*i
structure DC (TT:List (List Rat)->Prop) (w:List (List Rat)) (T1:List LR) (A1:LR) (T2:List LR) (A2:LR) (T3:List LR) (A3:LR) (xo yo s:Re):Prop where
 o:Vm TT w 2100 20 20 T1 A1 T2 A2 xo yo
 s:Nm TT w 2100 167 T3 A3 s
def GX (Fj:List (List Rat)->Prop) (w0:List (List Rat)) (TT:List (List Rat)->Prop) (w:List (List Rat)):Prop:=∀{k:Nat} {T:List LR} {A:LR} {x:Re},k<=22380->Nm Fj w0 2100 k T A x->Nm TT w 47000000 1 T A x
variable {A1 A2 A3 A4 A5 Aa Ab Ac Ad Ae Af:LR} {P TT Fj:List (List Rat)->Prop} {T1 T2 T3 T4 T5 Ta Tb Tc Td Te DU:List LR} {V:List Re} {al be ga i s t x x1 x2 xa xd xo xp y y1 y2 ya yd yo yp:Re} {k:Nat} {w w0:List (List Rat)}
theorem GX.v {k':Nat} (U:GX Fj w0 TT w) (b:k<=22380) (a:k'<=22380) (h:Vm Fj w0 2100 k k' T1 A1 T2 A2 x y):Vm TT w 47000000 1 1 T1 A1 T2 A2 x y:=⟨U b h.x,U a h.y⟩
theorem NH (L:Pl P V w0) {T:List LR} {A:LR} {n:Re} (c:Nm (Tf P) w0 2100 k T A n) (a:k<=22047) (b:0<n):∃TT w,F9 TT w/\GX (Tf P) w0 TT w/\Rt (Tf P) w0 2100 22047 TT w 47000000 1 n:=by
 obtain⟨TT,w,F,U,R⟩:=kO L c a (by decide) b;exact⟨TT,w,F,fun a h=>U (by omega) h,R⟩
theorem O1 (L:Pl P V w0) (b:∀{r u},P (r::u)->u=[]):∃TT w,F9 TT w/\GX (Tf P) w0 TT w:=by
 have a:Nm (Tf P) w0 2100 1 [] (em [] (Re.ofRat 1)) (Re.ofRat 1):=KE (L.fl b) (by decide) (JG (by decide +kernel));obtain⟨TT,w,F,U,_⟩:=NH L a (by decide) (show (0:Re)<1 by grind);exact⟨TT,w,F,U⟩
theorem DI.ni (h:DI TT w0 T1 A1 T2 A2 T3 A3 T4 A4 T5 A5 al be ga xd yd xp yp i):i≠0:=fun e=>SC h.one ⟨by rw[h.ha,e];grind,by rw[h.hb,e];grind⟩
theorem DI.up (U:GX Fj w0 TT w) (h:DI Fj w0 T1 A1 T2 A2 T3 A3 T4 A4 T5 A5 al be ga xd yd xp yp i):Da TT w 47000000 1 1 T1 A1 T2 A2 T3 A3 al be ga:=⟨U (by decide) h.l.x,U (by decide) h.l.y,U (by decide) h.l.z⟩
theorem Jk (h:¬(x=0/\y=0)):0<x*x+y*y:=by
 have a:=NQ h;have b:=na x y
 grind
noncomputable abbrev EA (xd yd xo yo xp yp:Re):Re:=(-yd*(xo-xp)+xd*(yo-yp))*AT (xd*xd+yd*yd)
noncomputable abbrev Cw (xd yd xo yo xp yp s:Re):Re:=(s-(xd*xd+yd*yd)*((-yd*(xo-xp)+xd*(yo-yp))*AT (xd*xd+yd*yd))*((-yd*(xo-xp)+xd*(yo-yp))*AT (xd*xd+yd*yd)))*AT (xd*xd+yd*yd)
theorem K7 (L:Pl P V w0) (U:∀{r u},P (r::u)->u=[]) (h:DI (Tf P) w0 T1 A1 T2 A2 T3 A3 T4 A4 T5 A5 al be ga xd yd xp yp i) (o:DC (Tf P) w0 Ta Aa Tb Ab Tc Ac xo yo s):∃C q B m D A,Vm (Tf P) w0 2100 4086 4086 C q B m (xo- -yd*(EA xd yd xo yo xp yp)) (yo-xd*(EA xd yd xo yo xp yp))/\Nm (Tf P) w0 2100 13000 D A (Cw xd yd xo yo xp yp s)/\CF 82 [.agg (AY T1 A1 T2 A2 T3 A3),.agg (AG T4 A4 T5 A5),.agg (AY Ta Aa Tb Ab Tc Ac)] (.AF [(true,(Ct C q B m T4 A4 T5 A5 D A)),(false,[.int .i64 0])])/\CF 211 [.agg (AY T1 A1 T2 A2 T3 A3),.agg (AY Ta Aa Tb Ab Tc Ac)] (.one (.int .i64 (BT (Cw xd yd xo yo xp yp s)))):=by
 have F:=L.fl U;have T:=Jk h.nz;have j:xd*xd+yd*yd≠0:=by grind
 have b:=SC h.one;have a: -yd* -yd+xd*xd=xd*xd+yd*yd:=by grind
 obtain⟨f1,f2⟩:=W1 (x:=xo) (y:=yo) h.ni a j h.ha h.hb h.hc;have f3:=gZ (x:=xo) (y:=yo) h.ni a j h.ha h.hb h.hc;obtain⟨_,_,_,_,Z⟩:=h.p;obtain⟨_,_,_,_,k1,_⟩:=Jm F o.o Z;obtain⟨_,k0,_⟩:=Iu F h.d.y;obtain⟨_,_,k2,_⟩:=D5 F k0 k1.x;obtain⟨_,_,k3,_⟩:=D5 F h.d.x k1.y;obtain⟨_,_,k4,_⟩:=G0 F k2 k3;obtain⟨_,_,O,_⟩:=KR F h.d;obtain⟨_,_,G,_⟩:=Hp F k4 O (d:=3855) (by decide) j;obtain⟨_,_,k7,_⟩:=D5 F k0 G;obtain⟨_,_,k8,_⟩:=D5 F h.d.x G;obtain⟨_,_,k9,_⟩:=F6 F o.o.x k7;obtain⟨_,_,H,_⟩:=F6 F o.o.y k8;have W:Vm (Tf P) w0 2100 4086 4086 _ _ _ _ _ _:=⟨k9.mono (by decide),H.mono (by decide)⟩
 obtain⟨_,_,I,_⟩:=D5 F O G;obtain⟨_,_,J,_⟩:=D5 F I G;obtain⟨_,_,M,_⟩:=F6 F o.s J;obtain⟨_,_,N,_⟩:=Hp F M O (d:=3855) (by decide) j;have Y:=N.mono (l:=13000) (by decide);have R:∀z:Re,z*Re.ofRat ((1:Int):Rat)=z:=fun z=>by rw[show Re.ofRat ((1:Int):Rat)=1 from rfl];grind
 obtain⟨C,q,B,m,D,A,gf,S,c⟩:=jo F h.l.x h.l.y h.l.z h.d o.o o.s W Y b (by rw[R];unfold EK;rw[f1]) (by rw[R];unfold EK;rw[f2]) j (by
  congr 2
  generalize ((-yd*(xo-xp)+xd*(yo-yp))*AT (xd*xd+yd*yd))=e
  grind) (by decide)
 exact⟨C,q,B,m,D,A,gf,S,c,lY F h.l.x h.l.y h.l.z o.o o.s b (by unfold Cw;rw[f3,Zo T])⟩
theorem jK (L:Pl P V w0) (q:∀{r u},P (r::u)->u=[]) (h:DI (Tf P) w0 T1 A1 T2 A2 T3 A3 T4 A4 T5 A5 al be ga xd yd xp yp i) (o:DC (Tf P) w0 Ta Aa Tb Ab Tc Ac xo yo s) (a:0<(Cw xd yd xo yo xp yp s)):∃TT w,F9 TT w/\GX (Tf P) w0 TT w/\∀{br:Int} {sg:Re},F0 (Cw xd yd xo yo xp yp s) br sg->∃Tx Ax Ty Ay,Vm TT w 47000000 5 5 Tx Ax Ty Ay (xo- -yd*(EA xd yd xo yo xp yp)+xd*sg) (yo-xd*(EA xd yd xo yo xp yp)+yd*sg)/\CF 62 [.agg (AY T1 A1 T2 A2 T3 A3),.agg (AG T4 A4 T5 A5),.agg (AY Ta Aa Tb Ab Tc Ac),.one (.int .i64 br)] (.AF [(true,(AG Tx Ax Ty Ay)),(false,[.int .i64 0])])/\CF 17 [Bt T1 A1 T2 A2 T3 A3 T4 A4 T5 A5,.agg (AG Tx Ax Ty Ay)] (.one (.bool true))/\CF 17 [Bj Ta Aa Tb Ab Tc Ac,.agg (AG Tx Ax Ty Ay)] (.one (.bool true))/\CF 97 [.agg (AG T4 A4 T5 A5),.agg (AG Ta Aa Tb Ab),.agg (AG Tx Ax Ty Ay)] (.one (.int .i64 br)):=by
 have F:=L.fl q;obtain⟨J,G,I,D,M,H,C,m,c,_⟩:=K7 L q h o;have B:=Jk h.nz;have A:xd*xd+yd*yd≠0:=by grind
 have j:al*xd+be*yd=0:=by rw[h.ha,h.hb];grind
 obtain⟨TT,w,F9,U,Rt⟩:=NH L m (by decide) a;refine⟨TT,w,F9,U,fun {br sg} hb=>?_⟩;obtain⟨Tx,Ax,Ty,Ay,b,cx⟩:=Rg F9 hb (U.v (by decide) (by decide) C) (U.v (by decide) (by decide) h.d) m (by decide) Rt (Mn F m (E8 a)) (by decide);have ul:=h.up U;exact⟨Tx,Ax,Ty,Ay,b,mLC (LH hb.one) (Mk F h.l.x h.l.y h.l.z h.d j h.nz) c cx,PD F9 ul.x ul.y ul.z b (e:=true) ⟨fun _=>Wo rfl A h.ha h.hb h.hc,fun _=>rfl⟩,LS F9 (U.v (by decide) (by decide) o.o) (U (by decide) o.s) b (e:=true) ⟨fun _=>Wn rfl (Qs A) (hb.sq a),fun _=>rfl⟩,a8 F9 (U.v (by decide) (by decide) h.d) (U.v (by decide) (by decide) o.o) b (by rw[Wp rfl];exact hb.ET a B) (by decide)⟩
theorem RK (L:Pl P V w0) (A:∀{r u},P (r::u)->u=[]) (h:DI (Tf P) w0 T1 A1 T2 A2 T3 A3 T4 A4 T5 A5 al be ga xd yd xp yp i) (o:DC (Tf P) w0 Ta Aa Tb Ab Tc Ac xo yo s) (C:¬0<(Cw xd yd xo yo xp yp s)):∃e,e≠0/\(e=12/\(Cw xd yd xo yo xp yp s)=0\/e=7/\(Cw xd yd xo yo xp yp s)<0)/\∀br:Int,br=1\/br= -1->CF 62 [.agg (AY T1 A1 T2 A2 T3 A3),.agg (AG T4 A4 T5 A5),.agg (AY Ta Aa Tb Ab Tc Ac),.one (.int .i64 br)] (.AF [(true,(AG [] [] [] [])),(false,[.int .i64 e])])/\CF 94 [.agg (AY T1 A1 T2 A2 T3 A3),.agg (AG T4 A4 T5 A5),.agg (AY Ta Aa Tb Ab Tc Ac),.one (.int .i64 br)] (.one (.int .i64 e)):=by
 have F:=L.fl A;obtain⟨J,G,I,D,M,H,N,B,c,b⟩:=K7 L A h o;have a:al*xd+be*yd=0:=by rw[h.ha,h.hb];grind
 have m:=Mk F h.l.x h.l.y h.l.z h.d a h.nz;have q:=SN F h.l.x h.l.y h.l.z h.d a h.nz;rcases E7 (Cw xd yd xo yo xp yp s) with⟨j,e⟩ |⟨j,e⟩ |⟨e,_⟩
 ·rw[e] at b;refine⟨7,by decide,.inr ⟨rfl,j⟩,fun br hb=>?_⟩;exact⟨X1 (LH hb) m c (LD (by decide) (Mp F B e)),M3 (Hr hb) q b PC⟩
 ·rw[e] at b;refine⟨12,by decide,.inl ⟨rfl,j⟩,fun br hb=>?_⟩;exact⟨X1 (LH hb) m c (LD (by decide) (Mo F B e)),M3 (Hr hb) q b PB⟩
 exact absurd e C
theorem XW (L:Pl P V w0) (j:∀{r u},P (r::u)->u=[]) (h:DI (Tf P) w0 T1 A1 T2 A2 T3 A3 T4 A4 T5 A5 al be ga xd yd xp yp i) (o:DC (Tf P) w0 Ta Aa Tb Ab Tc Ac xo yo s) (q:0<(Cw xd yd xo yo xp yp s)) (br:Int) (hb:br=1\/br= -1):CF 94 [.agg (AY T1 A1 T2 A2 T3 A3),.agg (AG T4 A4 T5 A5),.agg (AY Ta Aa Tb Ab Tc Ac),.one (.int .i64 br)] (.one (.int .i64 0)):=by
 have F:=L.fl j;obtain⟨G,B,D,A,H,C,I,J,c,b⟩:=K7 L j h o;have a:al*xd+be*yd=0:=by rw[h.ha,h.hb];grind
 have m:=SN F h.l.x h.l.y h.l.z h.d a h.nz;rw[E8 q] at b;exact M3 (Hr hb) m b Y2
noncomputable abbrev Cv (xo yo xa ya s t:Re):Re:=(((xa-xo)*(xa-xo)+(ya-yo)*(ya-yo))+s-t)*AT (((xa-xo)*(xa-xo)+(ya-yo)*(ya-yo))+((xa-xo)*(xa-xo)+(ya-yo)*(ya-yo)))
noncomputable abbrev C6 (xo yo xa ya s t:Re):Re:=s*AT ((xa-xo)*(xa-xo)+(ya-yo)*(ya-yo))-(Cv xo yo xa ya s t)*(Cv xo yo xa ya s t)
theorem Ki (L:Pl P V w0) (T:∀{r u},P (r::u)->u=[]) (o:DC (Tf P) w0 Ta Aa Tb Ab Tc Ac xo yo s) (a:DC (Tf P) w0 Td Ad Te Ae DU Af xa ya t) (S:¬(xo=xa/\yo=ya)):∃B h A b D m G q C j,Vm (Tf P) w0 2100 8300 8300 B h A b (xo+(xa-xo)*(Cv xo yo xa ya s t)) (yo+(ya-yo)*(Cv xo yo xa ya s t))/\Vm (Tf P) w0 2100 41 41 D m G q (-(ya-yo)) (xa-xo)/\Nm (Tf P) w0 2100 20500 C j (C6 xo yo xa ya s t)/\CF 84 [.agg (AY Ta Aa Tb Ab Tc Ac),.agg (AY Td Ad Te Ae DU Af)] (.AF [(true,(Ct B h A b D m G q C j)),(false,[.int .i64 0])])/\CF 212 [.agg (AY Ta Aa Tb Ab Tc Ac),.agg (AY Td Ad Te Ae DU Af)] (.one (.int .i64 (BT (C6 xo yo xa ya s t)))):=by
 have F:=L.fl T;have hq:0<((xa-xo)*(xa-xo)+(ya-yo)*(ya-yo)):=Jk (fun z=>S ⟨by have:=z.1;grind,by have:=z.2;grind⟩);have H:((xa-xo)*(xa-xo)+(ya-yo)*(ya-yo))≠0:=by grind
 have I:((xa-xo)*(xa-xo)+(ya-yo)*(ya-yo))+((xa-xo)*(xa-xo)+(ya-yo)*(ya-yo))≠0:=Sa H;obtain⟨_,_,_,_,k1,_⟩:=Jm F a.o o.o;obtain⟨_,_,k2,_⟩:=KR F k1;obtain⟨_,_,U,_⟩:=G0 F k2 o.s;obtain⟨_,_,W,_⟩:=F6 F U a.s;obtain⟨_,_,Y,_⟩:=G0 F k2 k2;obtain⟨_,_,N,_⟩:=Hp F W Y (d:=7719) (by decide) I;obtain⟨_,_,_,_,Z,_⟩:=Ln F k1 N;obtain⟨_,_,_,_,k8,_⟩:=NW F o.o Z;obtain⟨_,_,k9,_⟩:=Hp F o.s k2 (d:=3855) (by decide) H;obtain⟨_,_,J,_⟩:=D5 F N N;obtain⟨_,_,M,_⟩:=F6 F k9 J;obtain⟨B,h,A,b,D,m,G,q,C,j,gf,O,R,c⟩:=X0 F o.o o.s a.o a.s (k8.mono (l:=8300) (l':=8300) (by decide) (by decide)) (M.mono (l:=20500) (by decide)) H rfl rfl rfl
 refine⟨B,h,A,b,D,m,G,q,C,j,gf,O.mono (by decide) (by decide),R,c,ly F o.o o.s a.o a.s ?_ (by decide)⟩;unfold C6 Cv;rw[lC H,Zo (Re.mul_pos (show 0<((xa-xo)*(xa-xo)+(ya-yo)*(ya-yo))+((xa-xo)*(xa-xo)+(ya-yo)*(ya-yo)) by grind) (show 0<((xa-xo)*(xa-xo)+(ya-yo)*(ya-yo))+((xa-xo)*(xa-xo)+(ya-yo)*(ya-yo)) by grind)),show Re.ofRat ((4:Int):Rat)=1+1+1+1 by simp only[show (1:Re)=Re.ofRat 1 from rfl,<-Re.ofRat_add];exact congrArg Re.ofRat (by decide +kernel),show (xo-xa)*(xo-xa)+(yo-ya)*(yo-ya)=((xa-xo)*(xa-xo)+(ya-yo)*(ya-yo)) by grind]
theorem fv (L:Pl P V w0) (I:∀{r u},P (r::u)->u=[]) (o:DC (Tf P) w0 Ta Aa Tb Ab Tc Ac xo yo s) (a:DC (Tf P) w0 Td Ad Te Ae DU Af xa ya t) (D:¬(xo=xa/\yo=ya)) (d:0<(C6 xo yo xa ya s t)):∃TT w,F9 TT w/\GX (Tf P) w0 TT w/\∀{br:Int} {sg:Re},F0 (C6 xo yo xa ya s t) br sg->∃Tx Ax Ty Ay B q A m,Vm TT w 47000000 5 5 Tx Ax Ty Ay ((xo+(xa-xo)*(Cv xo yo xa ya s t))+ -(ya-yo)*sg) ((yo+(ya-yo)*(Cv xo yo xa ya s t))+(xa-xo)*sg)/\CF 61 [.agg (AY Ta Aa Tb Ab Tc Ac),.agg (AY Td Ad Te Ae DU Af),.one (.int .i64 br)] (.AF [(true,(AG Tx Ax Ty Ay)),(false,[.int .i64 0])])/\CF 61 [.agg (AY Td Ad Te Ae DU Af),.agg (AY Ta Aa Tb Ab Tc Ac),.one (.int .i64 (-br))] (.AF [(true,(AG B q A m)),(false,[.int .i64 0])])/\CF 38 [.agg (AG Tx Ax Ty Ay),.agg (AG B q A m)] (.one (.bool true))/\CF 17 [Bj Ta Aa Tb Ab Tc Ac,.agg (AG Tx Ax Ty Ay)] (.one (.bool true))/\CF 17 [Bj Td Ad Te Ae DU Af,.agg (AG Tx Ax Ty Ay)] (.one (.bool true))/\CF 96 [.agg (AG Ta Aa Tb Ab),.agg (AG Td Ad Te Ae),.agg (AG Tx Ax Ty Ay)] (.one (.int .i64 br)):=by
 have F:=L.fl I;have hq:0<((xa-xo)*(xa-xo)+(ya-yo)*(ya-yo)):=Jk (fun z=>D ⟨by have:=z.1;grind,by have:=z.2;grind⟩);have b:((xa-xo)*(xa-xo)+(ya-yo)*(ya-yo))≠0:=by grind
 obtain⟨Tm,Am,Tk,Ak,Tp,Ap,Tq,Aq,Tn,An,gf,gl,C,c,_⟩:=Ki L I o a D;have e2:(xo-xa)*(xo-xa)+(yo-ya)*(yo-ya)=((xa-xo)*(xa-xo)+(ya-yo)*(ya-yo)):=by grind
 obtain⟨T,M,S,J,Y,O,Z,R,W,N,G,H,h,c'⟩:=X0 F a.o a.s o.o o.s gf C (by rw[e2];exact b) (by rw[e2,Qe b];grind) (by rw[e2,Qe b];grind) (by rw[e2];exact Vv b);obtain⟨TT,w,F9,U,Rt⟩:=NH L C (by decide) d;refine⟨TT,w,F9,U,fun {br sg} hb=>?_⟩;obtain⟨Tx,Ax,Ty,Ay,j,cx⟩:=Rg F9 hb (U.v (by decide) (by decide) gf) (U.v (by decide) (by decide) gl) C (by decide) Rt (Mn F C (E8 d)) (by decide);obtain⟨B,q,A,m,hy,cy⟩:=Rg F9 hb.neg (U.v (by decide) (by decide) G) (U.v (by decide) (by decide) (H.mono (l:=41) (l':=41) (by decide) (by decide))) h (by decide) Rt (Mn F h (E8 d)) (by decide);refine⟨Tx,Ax,Ty,Ay,B,q,A,m,j,Xz (LH hb.one) (LC F o.o o.s a.o a.s D) c cx,Xz (LH hb.neg.one) (LC F a.o a.s o.o o.s (fun z=>D ⟨z.1.symm,z.2.symm⟩)) c' cy,GW F9 j hy (by decide) (by decide) (by decide) (by decide) (e:=true) ⟨fun _=>⟨by grind,by grind⟩,fun _=>rfl⟩,LS F9 (U.v (by decide) (by decide) o.o) (U (by decide) o.s) j (e:=true) ⟨fun _=>?_,fun _=>rfl⟩,LS F9 (U.v (by decide) (by decide) a.o) (U (by decide) a.s) j (e:=true) ⟨fun _=>?_,fun _=>rfl⟩,bA F9 (U.v (by decide) (by decide) o.o) (U.v (by decide) (by decide) a.o) j ?_ (by decide)⟩
 ·exact (show _=_ by grind).trans (Qb (t:=t) (u:=xa-xo) (v:=ya-yo) (p:=(Cv xo yo xa ya s t)) (r:=sg) rfl b rfl (hb.sq d))
 ·exact (show _=_ by grind).trans (Vu (u:=xa-xo) (v:=ya-yo) (p:=(Cv xo yo xa ya s t)) (r:=sg) rfl b (Qc b) rfl (hb.sq d))
 rw[show (xa-xo)*(((yo+(ya-yo)*(Cv xo yo xa ya s t))+(xa-xo)*sg)-yo)-(ya-yo)*(((xo+(xa-xo)*(Cv xo yo xa ya s t))+ -(ya-yo)*sg)-xo)=((xa-xo)*(xa-xo)+(ya-yo)*(ya-yo))*sg from (show _=_ by grind).trans (Vw (u:=xa-xo) (v:=ya-yo) (p:=(Cv xo yo xa ya s t)) (r:=sg) rfl)];exact hb.ET d hq
theorem oN:un x=x*AT (fs x y):=by
 by_cases h:x=0
 ·rw[TO h,h];grind
 rw[TP h,W4 h];exact (Hk h).symm
theorem Mi (F:Fl TT w) (h:Vm TT w 2100 20 20 T1 A1 T2 A2 x1 y1) (j:Vm TT w 2100 20 20 T3 A3 T4 A4 x2 y2) (b:¬(x1=x2/\y1=y2)):∃T5 A5 T6 A6 T7 A7 al be ga i,Da TT w 2100 999 1083 T5 A5 T6 A6 T7 A7 al be ga/\(al=1\/al=0/\be=1)/\al= -(y2+ -y1)*i/\be=(x2+ -x1)*i/\ga=(-(y2+ -y1)*x1+(x2+ -x1)*y1)*i/\CF 60 [.agg (AG T1 A1 T2 A2),.agg (AG T3 A3 T4 A4)] (.AF [(true,(AY T5 A5 T6 A6 T7 A7)),(false,[.int .i64 0])]):=by
 obtain⟨T5,A5,T6,A6,T7,A7,a,c⟩:=mF F h j (by decide) (by decide) (by decide) (by decide) b (d:=957);exact⟨T5,A5,T6,A6,T7,A7,_,_,_,AT (fs (-(y2+ -y1)) (x2+ -x1)),⟨a.x,a.y.mono (by decide),a.z.mono (by decide)⟩,jV (fun z=>b ⟨by have:=z.2;grind,by have:=z.1;grind⟩),oN,rfl,rfl,c⟩
theorem jT (F:Fl TT w) (a:Vm TT w 2100 20 20 T1 A1 T2 A2 x1 y1) (d:Vm TT w 2100 20 20 T3 A3 T4 A4 x2 y2) (b:¬(x1=x2/\y1=y2)):∃T5 A5 T6 A6 T7 A7 T8 A8 T9 A9 al be ga xd yd i,DI TT w T5 A5 T6 A6 T7 A7 T8 A8 T9 A9 al be ga xd yd x1 y1 i/\CF 60 [.agg (AG T1 A1 T2 A2),.agg (AG T3 A3 T4 A4)] (.AF [(true,(AY T5 A5 T6 A6 T7 A7)),(false,[.int .i64 0])])/\CF 40 [.agg (AG T3 A3 T4 A4),.agg (AG T1 A1 T2 A2)] (.AF [(true,(AG T8 A8 T9 A9)),(false,[.int .i64 0])]):=by
 obtain⟨T5,A5,T6,A6,T7,A7,al,be,ga,i,m,j,ha,hb,hc,c⟩:=Mi F a d b;obtain⟨T8,A8,T9,A9,l,h⟩:=Lu F d a;exact⟨T5,A5,T6,A6,T7,A7,T8,A8,T9,A9,al,be,ga,_,_,i,⟨m,l.mono (by decide) (by decide),⟨_,_,_,_,a⟩,fun z=>b ⟨by have:=z.1;grind,by have:=z.2;grind⟩,j,ha,hb,hc⟩,c,h⟩
theorem jU (F:Fl TT w) (a:Vm TT w 2100 20 20 T1 A1 T2 A2 x1 y1) (d:Vm TT w 2100 20 20 T3 A3 T4 A4 x2 y2) (b:¬(x1=x2/\y1=y2)):∃T5 A5 T6 A6 T7 A7 T8 A8 T9 A9 Ta Aa Tb Ab al be ga xd yd i,DI TT w T5 A5 T6 A6 T7 A7 T8 A8 T9 A9 al be ga xd yd x1 y1 i/\CF 60 [.agg (AG T1 A1 T2 A2),.agg (AG T3 A3 T4 A4)] (.AF [(true,(AY T5 A5 T6 A6 T7 A7)),(false,[.int .i64 0])])/\CF 40 [.agg (AG T3 A3 T4 A4),.agg (AG T1 A1 T2 A2)] (.AF [(true,(AG Ta Aa Tb Ab)),(false,[.int .i64 0])])/\CF 144 [.agg (AG Ta Aa Tb Ab)] (.agg (AG T8 A8 T9 A9)):=by
 obtain⟨T5,A5,T6,A6,T7,A7,al,be,ga,i,o,l,ha,hb,hc,c⟩:=Mi F a d b;obtain⟨Ta,Aa,Tb,Ab,m,h⟩:=Lu F d a;obtain⟨A8,A9,q,j⟩:=Tt F m;exact⟨T5,A5,T6,A6,T7,A7,Ta,A8,Tb,A9,Ta,Aa,Tb,Ab,al,be,ga,_,_,-i,⟨o,q.mono (by decide) (by decide),⟨_,_,_,_,a⟩,fun z=>b ⟨by have:=z.1;grind,by have:=z.2;grind⟩,l,by rw[ha];grind,by rw[hb];grind,by rw[hc];grind⟩,c,h,j⟩
end Go.Abs
namespace Go.Abs
open Go.RowKit
def Pp (x:el Be):Prop:=List.length (α:=LR) x.1.1<=1/\List.length (α:=LR) x.2.1<=1
variable {A5 A6 A7 A8 A9 Aa Ab EV DZ EW EX EY EZ Ea Eb Ec Ed FB D6 FC FD FE FF FG FH FI FJ:LR} {Q:List (el Be)} {T5 T6 T7 T8 T9 Ta Tb Ef Db Eg Eh Ei Ej Ek Em En Eo FL D8 FM FN FO FP FQ FR FT FU:List LR} {X:List (el B9)} {ba bb bk ca cb e2:Bool} {br fa fb k1 k2 pa pb pc pd:Int}
theorem Y5 {b:Bool} (hb:b=true↔∀x∈Q,Pp x):CF 63 [.one (.sl Be Q)] (.one (.bool b)):=by
 refine BH Tryz.func63 fun E Z=>?_
 conv=>cbv
 refine .inr ?_;obtain⟨J,o⟩:=xJ fun vs H k=>∃(k':Nat) (j:Int),vs=[.one (.sl Be Q),.one (.int .i64 j)]/\H=[]/\(AW j k'/\k'<=Q.length)/\(∀x∈Q.take k',Pp x)/\k=Q.length-k'
 refine⟨[],[0,3],[],J,⟨Q.length-0,by rw[o];exact⟨0,0,rfl,rfl,⟨⟨rfl⟩,Nat.zero_le _⟩,(fun x d=>by simp at d),rfl⟩⟩,?_⟩;intro vs H S B;rw[o] at B;obtain⟨k',j,rfl,rfl,⟨B,N⟩,hinv,O⟩:=B;conv=>cbv
 have W:=B.eq;rintro n6 ⟨U,f6⟩;conv=>cbv
 intro T I;conv=>cbv
 cases T <;> conv=>cbv
 ·have R:=BB I;exact AD ⟨⟨rfl,congrArg _ ((hb.2 (fun x d=>hinv x (by rw[List.take_of_length_le (by omega)];exact d)))),trivial⟩,trivial⟩
 have R:=BC I;refine .inr ?_;obtain⟨a,c⟩:=AP (l:=Q) (i:=k') (by omega);refine⟨a,fun _=>⟨by omega,by rw[show (j).toNat=k' by omega];exact c⟩,?_⟩;try conv=>cbv
 rintro q ⟨h,f16⟩;conv=>cbv
 intro F z;conv=>cbv
 cases F <;> conv=>cbv
 ·have C:=Cg z;refine⟨a,fun _=>⟨by omega,by rw[show (j).toNat=k' by omega];exact c⟩,?_⟩;try conv=>cbv
  rintro u ⟨m,f25⟩;conv=>cbv
  intro G A;conv=>cbv
  cases G <;> conv=>cbv
  ·have D:=Cg A;intro n9 Y;conv=>cbv
   refine AN ?_;refine⟨Q.length-(k'+1),?_,?_⟩
   ·omega
   rw[o]
   exact⟨k'+1,_,rfl,rfl,⟨⟨by omega⟩,by omega⟩,(fun x d=>by
    rw[C4 c] at d;rcases List.mem_append.1 d with d | d
    ·exact hinv x d
    rw[List.mem_singleton.1 d];have d1:q=(List.length (α:=LR) a.1.1:Nat):=h;have d2:u=(List.length (α:=LR) a.2.1:Nat):=m;exact⟨by omega,by omega⟩),rfl⟩
  have D:=Ch A;exact AD ⟨⟨rfl,congrArg _ (by cases b with | false=>rfl | true=>(obtain⟨L,M⟩:=hb.1 rfl a (List.mem_of_getElem? c);exfalso;(try have d1:q=(List.length (α:=LR) a.1.1:Nat):=h);(try have d2:u=(List.length (α:=LR) a.2.1:Nat):=m);omega)),trivial⟩,trivial⟩
 have C:=Ch z;exact AD ⟨⟨rfl,congrArg _ (by cases b with | false=>rfl | true=>(obtain⟨L,M⟩:=hb.1 rfl a (List.mem_of_getElem? c);exfalso;(try have d1:q=(List.length (α:=LR) a.1.1:Nat):=h);(try have d2:u=(List.length (α:=LR) a.2.1:Nat):=m);omega)),trivial⟩,trivial⟩
theorem lg {xi c:el Be} (J:0<=fa/\fa<256) (L:0<=fb/\fb<256) (R:2<=Q.length) (z:Q[(fa%(Q.length:Int)).toNat]? =some xi) (A:Q[(fb%(Q.length:Int)).toNat]? =some c) {T1:List LR} {A1:LR} (c1:CF 56 [.agg (AG xi.1.1 xi.1.2 xi.2.1 xi.2.2),.agg (AG c.1.1 c.1.2 c.2.1 c.2.2)] (.AF [(true,(AY xi.1.1 xi.1.2 xi.2.1 xi.2.2 T1 A1)),(false,[.int .i64 0])])):CF 64 [.agg [.bool true,.int .u8 fa,.int .u8 fb,.bool bk],.one (.sl Be Q)] (.AF [(true,[.int .i64 2,BI,BJ,BI,BJ,BI,BJ,BI,BJ,BI,BJ,.sl (.sl AA) xi.1.1,.sl AA xi.1.2,.sl (.sl AA) xi.2.1,.sl AA xi.2.2,.sl (.sl AA) T1,.sl AA A1,BI,BJ,BI,BJ]),(false,[.bool true])]):=by
 refine BH Tryz.func64 fun E I=>?_
 conv=>cbv
 rintro M ⟨F,f15⟩;conv=>cbv
 intro B d;conv=>cbv
 cases B <;> conv=>cbv
 ·have l:=Ao d;intro C a;conv=>cbv
  have a:=wrap_i64 a;have a:C=fa:=by omega
  rintro N ⟨q,f23⟩;conv=>cbv
  intro m h;conv=>cbv
  refine AI ?_;have G:0<=m:=by rw[h];exact Int.emod_nonneg _ (by omega)
  refine⟨xi,fun _=>⟨by omega,by rw[show m=fa%(Q.length:Int) by rw[h,a,q]];exact z⟩,?_⟩;try conv=>cbv
  intro D b;conv=>cbv
  have b:=wrap_i64 b;have b:D=fb:=by omega
  rintro O ⟨u,f32⟩;conv=>cbv
  intro o j;conv=>cbv
  refine AI ?_;have H:0<=o:=by rw[j];exact Int.emod_nonneg _ (by omega)
  refine⟨c,fun _=>⟨by omega,by rw[show o=fb%(Q.length:Int) by rw[j,b,u]];exact A⟩,?_⟩;try conv=>cbv
  refine Br ?_;refine AB I c1 ?_;conv=>cbv
  refine BG ?_;conv=>cbv
  exact AD ⟨⟨rfl,rfl,AU,AU,AU,AU,AU,AU,AU,AU,AU,AU,rfl,rfl,rfl,rfl,rfl,rfl,AU,AU,AU,AU,trivial⟩,t2,trivial⟩
 have l:=BA d;exact absurd l (by omega)
theorem lh {xi c:el Be} (J:0<=fa/\fa<256) (L:0<=fb/\fb<256) (R:2<=Q.length) (z:Q[(fa%(Q.length:Int)).toNat]? =some xi) (A:Q[(fb%(Q.length:Int)).toNat]? =some c) (c1:CF 56 [.agg (AG xi.1.1 xi.1.2 xi.2.1 xi.2.2),.agg (AG c.1.1 c.1.2 c.2.1 c.2.2)] (.AF [(true,[BI,BJ,BI,BJ,BI,BJ]),(false,[.int .i64 11])])):CF 64 [.agg [.bool true,.int .u8 fa,.int .u8 fb,.bool bk],.one (.sl Be Q)] (.AF [(true,[.int .i64 2,BI,BJ,BI,BJ,BI,BJ,BI,BJ,BI,BJ,BI,BJ,BI,BJ,BI,BJ,BI,BJ,BI,BJ]),(false,[.bool false])]):=by
 refine BH Tryz.func64 fun E I=>?_
 conv=>cbv
 rintro M ⟨F,f15⟩;conv=>cbv
 intro B d;conv=>cbv
 cases B <;> conv=>cbv
 ·have l:=Ao d;intro C a;conv=>cbv
  have a:=wrap_i64 a;have a:C=fa:=by omega
  rintro N ⟨q,f23⟩;conv=>cbv
  intro m h;conv=>cbv
  refine AI ?_;have G:0<=m:=by rw[h];exact Int.emod_nonneg _ (by omega)
  refine⟨xi,fun _=>⟨by omega,by rw[show m=fa%(Q.length:Int) by rw[h,a,q]];exact z⟩,?_⟩;try conv=>cbv
  intro D b;conv=>cbv
  have b:=wrap_i64 b;have b:D=fb:=by omega
  rintro O ⟨u,f32⟩;conv=>cbv
  intro o j;conv=>cbv
  refine AI ?_;have H:0<=o:=by rw[j];exact Int.emod_nonneg _ (by omega)
  refine⟨c,fun _=>⟨by omega,by rw[show o=fb%(Q.length:Int) by rw[j,b,u]];exact A⟩,?_⟩;try conv=>cbv
  refine Br ?_;refine AB I c1 ?_;conv=>cbv
  refine AO ?_;conv=>cbv
  exact AD ⟨⟨rfl,rfl,AU,AU,AU,AU,AU,AU,AU,AU,AU,AU,rfl,rfl,rfl,rfl,rfl,rfl,AU,AU,AU,AU,trivial⟩,t2,trivial⟩
 have l:=BA d;exact absurd l (by omega)
theorem lj {xi a:el Be} (J:0<=fa/\fa<256) (L:0<=fb/\fb<256) (R:2<=Q.length) (z:Q[(fa%(Q.length:Int)).toNat]? =some xi) (A:Q[(fb%(Q.length:Int)).toNat]? =some a) (c1:CF 60 [.agg (AG xi.1.1 xi.1.2 xi.2.1 xi.2.2),.agg (AG a.1.1 a.1.2 a.2.1 a.2.2)] (.AF [(true,(AY T5 A5 T6 A6 T7 A7)),(false,[.int .i64 0])])) (c2:CF 40 [.agg (AG a.1.1 a.1.2 a.2.1 a.2.2),.agg (AG xi.1.1 xi.1.2 xi.2.1 xi.2.2)] (.AF [(true,(AG T8 A8 T9 A9)),(false,[.int .i64 0])])):CF 64 [.agg [.bool false,.int .u8 fa,.int .u8 fb,.bool false],.one (.sl Be Q)] (.AF [(true,[.int .i64 1,.sl (.sl AA) T5,.sl AA A5,.sl (.sl AA) T6,.sl AA A6,.sl (.sl AA) T7,.sl AA A7,.sl (.sl AA) T8,.sl AA A8,.sl (.sl AA) T9,.sl AA A9,BI,BJ,BI,BJ,BI,BJ,BI,BJ,BI,BJ]),(false,[.bool true])]):=by
 refine BH Tryz.func64 fun E F=>?_
 conv=>cbv
 rintro M ⟨G,f15⟩;conv=>cbv
 intro B d;conv=>cbv
 cases B <;> conv=>cbv
 ·have l:=Ao d;intro C b;conv=>cbv
  have b:=wrap_i64 b;have b:C=fa:=by omega
  rintro N ⟨q,f23⟩;conv=>cbv
  intro m h;conv=>cbv
  refine AI ?_;have H:0<=m:=by rw[h];exact Int.emod_nonneg _ (by omega)
  refine⟨xi,fun _=>⟨by omega,by rw[show m=fa%(Q.length:Int) by rw[h,b,q]];exact z⟩,?_⟩;try conv=>cbv
  intro D c;conv=>cbv
  have c:=wrap_i64 c;have c:D=fb:=by omega
  rintro O ⟨u,f32⟩;conv=>cbv
  intro o j;conv=>cbv
  refine AI ?_;have I:0<=o:=by rw[j];exact Int.emod_nonneg _ (by omega)
  refine⟨a,fun _=>⟨by omega,by rw[show o=fb%(Q.length:Int) by rw[j,c,u]];exact A⟩,?_⟩;try conv=>cbv
  refine Br ?_;refine AB F c1 ?_;conv=>cbv
  refine AB F c2 ?_;conv=>cbv
  refine .inr ?_;refine BG ?_;conv=>cbv
  exact AD ⟨⟨rfl,rfl,rfl,rfl,rfl,rfl,rfl,rfl,rfl,rfl,rfl,rfl,AU,AU,AU,AU,AU,AU,AU,AU,AU,AU,trivial⟩,t2,trivial⟩
 have l:=BA d;exact absurd l (by omega)
theorem ll {xi a:el Be} (J:0<=fa/\fa<256) (L:0<=fb/\fb<256) (R:2<=Q.length) (z:Q[(fa%(Q.length:Int)).toNat]? =some xi) (A:Q[(fb%(Q.length:Int)).toNat]? =some a) (c1:CF 60 [.agg (AG xi.1.1 xi.1.2 xi.2.1 xi.2.2),.agg (AG a.1.1 a.1.2 a.2.1 a.2.2)] (.AF [(true,[BI,BJ,BI,BJ,BI,BJ]),(false,[.int .i64 11])])) (c2:CF 40 [.agg (AG a.1.1 a.1.2 a.2.1 a.2.2),.agg (AG xi.1.1 xi.1.2 xi.2.1 xi.2.2)] (.AF [(true,(AG T8 A8 T9 A9)),(false,[.int .i64 0])])):CF 64 [.agg [.bool false,.int .u8 fa,.int .u8 fb,.bool false],.one (.sl Be Q)] (.AF [(true,[.int .i64 1,BI,BJ,BI,BJ,BI,BJ,.sl (.sl AA) T8,.sl AA A8,.sl (.sl AA) T9,.sl AA A9,BI,BJ,BI,BJ,BI,BJ,BI,BJ,BI,BJ]),(false,[.bool false])]):=by
 refine BH Tryz.func64 fun E F=>?_
 conv=>cbv
 rintro M ⟨G,f15⟩;conv=>cbv
 intro B d;conv=>cbv
 cases B <;> conv=>cbv
 ·have l:=Ao d;intro C b;conv=>cbv
  have b:=wrap_i64 b;have b:C=fa:=by omega
  rintro N ⟨q,f23⟩;conv=>cbv
  intro m h;conv=>cbv
  refine AI ?_;have H:0<=m:=by rw[h];exact Int.emod_nonneg _ (by omega)
  refine⟨xi,fun _=>⟨by omega,by rw[show m=fa%(Q.length:Int) by rw[h,b,q]];exact z⟩,?_⟩;try conv=>cbv
  intro D c;conv=>cbv
  have c:=wrap_i64 c;have c:D=fb:=by omega
  rintro O ⟨u,f32⟩;conv=>cbv
  intro o j;conv=>cbv
  refine AI ?_;have I:0<=o:=by rw[j];exact Int.emod_nonneg _ (by omega)
  refine⟨a,fun _=>⟨by omega,by rw[show o=fb%(Q.length:Int) by rw[j,c,u]];exact A⟩,?_⟩;try conv=>cbv
  refine Br ?_;refine AB F c1 ?_;conv=>cbv
  refine AB F c2 ?_;conv=>cbv
  refine .inr ?_;refine AO ?_;conv=>cbv
  exact AD ⟨⟨rfl,rfl,rfl,rfl,rfl,rfl,rfl,rfl,rfl,rfl,rfl,rfl,AU,AU,AU,AU,AU,AU,AU,AU,AU,AU,trivial⟩,t2,trivial⟩
 have l:=BA d;exact absurd l (by omega)
theorem lk {xi a:el Be} (L:0<=fa/\fa<256) (M:0<=fb/\fb<256) (S:2<=Q.length) (A:Q[(fa%(Q.length:Int)).toNat]? =some xi) (B:Q[(fb%(Q.length:Int)).toNat]? =some a) (c1:CF 60 [.agg (AG xi.1.1 xi.1.2 xi.2.1 xi.2.2),.agg (AG a.1.1 a.1.2 a.2.1 a.2.2)] (.AF [(true,(AY T5 A5 T6 A6 T7 A7)),(false,[.int .i64 0])])) (c2:CF 40 [.agg (AG a.1.1 a.1.2 a.2.1 a.2.2),.agg (AG xi.1.1 xi.1.2 xi.2.1 xi.2.2)] (.AF [(true,(AG Ta Aa Tb Ab)),(false,[.int .i64 0])])) (G:CF 144 [.agg (AG Ta Aa Tb Ab)] (.agg (AG T8 A8 T9 A9))):CF 64 [.agg [.bool false,.int .u8 fa,.int .u8 fb,.bool true],.one (.sl Be Q)] (.AF [(true,[.int .i64 1,.sl (.sl AA) T5,.sl AA A5,.sl (.sl AA) T6,.sl AA A6,.sl (.sl AA) T7,.sl AA A7,.sl (.sl AA) T8,.sl AA A8,.sl (.sl AA) T9,.sl AA A9,BI,BJ,BI,BJ,BI,BJ,BI,BJ,BI,BJ]),(false,[.bool true])]):=by
 refine BH Tryz.func64 fun E z=>?_
 conv=>cbv
 rintro N ⟨H,f15⟩;conv=>cbv
 intro C d;conv=>cbv
 cases C <;> conv=>cbv
 ·have l:=Ao d;intro D b;conv=>cbv
  have b:=wrap_i64 b;have b:D=fa:=by omega
  rintro O ⟨q,f23⟩;conv=>cbv
  intro m h;conv=>cbv
  refine AI ?_;have I:0<=m:=by rw[h];exact Int.emod_nonneg _ (by omega)
  refine⟨xi,fun _=>⟨by omega,by rw[show m=fa%(Q.length:Int) by rw[h,b,q]];exact A⟩,?_⟩;try conv=>cbv
  intro F c;conv=>cbv
  have c:=wrap_i64 c;have c:F=fb:=by omega
  rintro R ⟨u,f32⟩;conv=>cbv
  intro o j;conv=>cbv
  refine AI ?_;have J:0<=o:=by rw[j];exact Int.emod_nonneg _ (by omega)
  refine⟨a,fun _=>⟨by omega,by rw[show o=fb%(Q.length:Int) by rw[j,c,u]];exact B⟩,?_⟩;try conv=>cbv
  refine Br ?_;refine AB z c1 ?_;conv=>cbv
  refine AB z c2 ?_;conv=>cbv
  refine .inr ?_;refine AB z G ?_;conv=>cbv
  refine BG ?_;conv=>cbv
  exact AD ⟨⟨rfl,rfl,rfl,rfl,rfl,rfl,rfl,rfl,rfl,rfl,rfl,rfl,AU,AU,AU,AU,AU,AU,AU,AU,AU,AU,trivial⟩,t2,trivial⟩
 have l:=BA d;exact absurd l (by omega)
theorem ln {xi a:el Be} (L:0<=fa/\fa<256) (M:0<=fb/\fb<256) (S:2<=Q.length) (A:Q[(fa%(Q.length:Int)).toNat]? =some xi) (B:Q[(fb%(Q.length:Int)).toNat]? =some a) (c1:CF 60 [.agg (AG xi.1.1 xi.1.2 xi.2.1 xi.2.2),.agg (AG a.1.1 a.1.2 a.2.1 a.2.2)] (.AF [(true,[BI,BJ,BI,BJ,BI,BJ]),(false,[.int .i64 11])])) (c2:CF 40 [.agg (AG a.1.1 a.1.2 a.2.1 a.2.2),.agg (AG xi.1.1 xi.1.2 xi.2.1 xi.2.2)] (.AF [(true,(AG Ta Aa Tb Ab)),(false,[.int .i64 0])])) (G:CF 144 [.agg (AG Ta Aa Tb Ab)] (.agg (AG T8 A8 T9 A9))):CF 64 [.agg [.bool false,.int .u8 fa,.int .u8 fb,.bool true],.one (.sl Be Q)] (.AF [(true,[.int .i64 1,BI,BJ,BI,BJ,BI,BJ,.sl (.sl AA) T8,.sl AA A8,.sl (.sl AA) T9,.sl AA A9,BI,BJ,BI,BJ,BI,BJ,BI,BJ,BI,BJ]),(false,[.bool false])]):=by
 refine BH Tryz.func64 fun E z=>?_
 conv=>cbv
 rintro N ⟨H,f15⟩;conv=>cbv
 intro C d;conv=>cbv
 cases C <;> conv=>cbv
 ·have l:=Ao d;intro D b;conv=>cbv
  have b:=wrap_i64 b;have b:D=fa:=by omega
  rintro O ⟨q,f23⟩;conv=>cbv
  intro m h;conv=>cbv
  refine AI ?_;have I:0<=m:=by rw[h];exact Int.emod_nonneg _ (by omega)
  refine⟨xi,fun _=>⟨by omega,by rw[show m=fa%(Q.length:Int) by rw[h,b,q]];exact A⟩,?_⟩;try conv=>cbv
  intro F c;conv=>cbv
  have c:=wrap_i64 c;have c:F=fb:=by omega
  rintro R ⟨u,f32⟩;conv=>cbv
  intro o j;conv=>cbv
  refine AI ?_;have J:0<=o:=by rw[j];exact Int.emod_nonneg _ (by omega)
  refine⟨a,fun _=>⟨by omega,by rw[show o=fb%(Q.length:Int) by rw[j,c,u]];exact B⟩,?_⟩;try conv=>cbv
  refine Br ?_;refine AB z c1 ?_;conv=>cbv
  refine AB z c2 ?_;conv=>cbv
  refine .inr ?_;refine AB z G ?_;conv=>cbv
  refine AO ?_;conv=>cbv
  exact AD ⟨⟨rfl,rfl,rfl,rfl,rfl,rfl,rfl,rfl,rfl,rfl,rfl,rfl,AU,AU,AU,AU,AU,AU,AU,AU,AU,AU,trivial⟩,t2,trivial⟩
 have l:=BA d;exact absurd l (by omega)
theorem jZ {W:List UInt8} (a:CF 34 [.agg [.sl B9 X,.sl .u8 W],.one (.int .i64 2)] (.AF [(false,[.sl Be Q]),(false,[.bool false])])):CF 14 [.agg [.sl (.pr .u8 (.pr .u8 (.pr .u8 (.pr .i8 .u8)))) X,.sl .u8 W],.agg [.bool ca,.int .u8 pa,.int .u8 pb,.bool ba,.bool cb,.int .u8 pc,.int .u8 pd,.bool bb,.int .i64 br]] (.AF [(false,[.sl Be ((([]:List (el Be))))]),(true,[.int .i64 0,BI,BJ,BI,BJ,BI,BJ,BI,BJ,BI,BJ,BI,BJ,BI,BJ,BI,BJ,BI,BJ,BI,BJ]),(true,[.int .i64 0,BI,BJ,BI,BJ,BI,BJ,BI,BJ,BI,BJ,BI,BJ,BI,BJ,BI,BJ,BI,BJ,BI,BJ]),(false,[.bool false])]):=by
 refine BH Tryz.func14 fun E b=>?_
 conv=>cbv
 refine AB b a ?_;conv=>cbv
 refine BG ?_;conv=>cbv
 exact AD ⟨⟨rfl,AU,trivial⟩,⟨rfl,rfl,AU,AU,AU,AU,AU,AU,AU,AU,AU,AU,AU,AU,AU,AU,AU,AU,AU,AU,AU,AU,trivial⟩,⟨rfl,rfl,AU,AU,AU,AU,AU,AU,AU,AU,AU,AU,AU,AU,AU,AU,AU,AU,AU,AU,AU,AU,trivial⟩,t2,trivial⟩
theorem ja {W:List UInt8} (b:CF 34 [.agg [.sl B9 X,.sl .u8 W],.one (.int .i64 2)] (.AF [(false,[.sl Be Q]),(false,[.bool true])])) (cL:CF 63 [.one (.sl Be Q)] (.one (.bool false))):CF 14 [.agg [.sl (.pr .u8 (.pr .u8 (.pr .u8 (.pr .i8 .u8)))) X,.sl .u8 W],.agg [.bool ca,.int .u8 pa,.int .u8 pb,.bool ba,.bool cb,.int .u8 pc,.int .u8 pd,.bool bb,.int .i64 br]] (.AF [(false,[.sl Be ((([]:List (el Be))))]),(true,[.int .i64 0,BI,BJ,BI,BJ,BI,BJ,BI,BJ,BI,BJ,BI,BJ,BI,BJ,BI,BJ,BI,BJ,BI,BJ]),(true,[.int .i64 0,BI,BJ,BI,BJ,BI,BJ,BI,BJ,BI,BJ,BI,BJ,BI,BJ,BI,BJ,BI,BJ,BI,BJ]),(false,[.bool false])]):=by
 refine BH Tryz.func14 fun E a=>?_
 conv=>cbv
 refine AB a b ?_;conv=>cbv
 refine AO ?_;conv=>cbv
 refine AB a cL ?_;conv=>cbv
 refine BG ?_;conv=>cbv
 exact AD ⟨⟨rfl,AU,trivial⟩,⟨rfl,rfl,AU,AU,AU,AU,AU,AU,AU,AU,AU,AU,AU,AU,AU,AU,AU,AU,AU,AU,AU,AU,trivial⟩,⟨rfl,rfl,AU,AU,AU,AU,AU,AU,AU,AU,AU,AU,AU,AU,AU,AU,AU,AU,AU,AU,AU,AU,trivial⟩,t2,trivial⟩
theorem RX {W:List UInt8} (b:CF 34 [.agg [.sl B9 X,.sl .u8 W],.one (.int .i64 2)] (.AF [(false,[.sl Be Q]),(false,[.bool true])])) (cL:CF 63 [.one (.sl Be Q)] (.one (.bool true))) (c1:CF 64 [.agg [.bool ca,.int .u8 pa,.int .u8 pb,.bool ba],.one (.sl Be Q)] (.AF [(true,(Dg k1 Ef EV Db DZ Eg EW Eh EX Ei EY Ej EZ Ek Ea Em Eb En Ec Eo Ed)),(false,[.bool false])])) (c2:CF 64 [.agg [.bool cb,.int .u8 pc,.int .u8 pd,.bool bb],.one (.sl Be Q)] (.AF [(true,(Dg k2 FL FB D8 D6 FM FC FN FD FO FE FP FF FQ FG FR FH FT FI FU FJ)),(false,[.bool e2])])):CF 14 [.agg [.sl (.pr .u8 (.pr .u8 (.pr .u8 (.pr .i8 .u8)))) X,.sl .u8 W],.agg [.bool ca,.int .u8 pa,.int .u8 pb,.bool ba,.bool cb,.int .u8 pc,.int .u8 pd,.bool bb,.int .i64 br]] (.AF [(false,[.sl Be Q]),(true,(Dg k1 Ef EV Db DZ Eg EW Eh EX Ei EY Ej EZ Ek Ea Em Eb En Ec Eo Ed)),(true,(Dg k2 FL FB D8 D6 FM FC FN FD FO FE FP FF FQ FG FR FH FT FI FU FJ)),(false,[.bool false])]):=by
 refine BH Tryz.func14 fun E a=>?_
 conv=>cbv
 refine AB a b ?_;conv=>cbv
 refine AO ?_;conv=>cbv
 refine AB a cL ?_;conv=>cbv
 refine AO ?_;conv=>cbv
 refine AB a c1 ?_;conv=>cbv
 refine AB a c2 ?_;conv=>cbv
 refine Br ?_;exact AD ⟨t2,⟨rfl,rfl,rfl,rfl,rfl,rfl,rfl,rfl,rfl,rfl,rfl,rfl,rfl,rfl,rfl,rfl,rfl,rfl,rfl,rfl,rfl,rfl,trivial⟩,⟨rfl,rfl,rfl,rfl,rfl,rfl,rfl,rfl,rfl,rfl,rfl,rfl,rfl,rfl,rfl,rfl,rfl,rfl,rfl,rfl,rfl,rfl,trivial⟩,t2,trivial⟩
theorem RY {W:List UInt8} (b:CF 34 [.agg [.sl B9 X,.sl .u8 W],.one (.int .i64 2)] (.AF [(false,[.sl Be Q]),(false,[.bool true])])) (cL:CF 63 [.one (.sl Be Q)] (.one (.bool true))) (c1:CF 64 [.agg [.bool ca,.int .u8 pa,.int .u8 pb,.bool ba],.one (.sl Be Q)] (.AF [(true,(Dg k1 Ef EV Db DZ Eg EW Eh EX Ei EY Ej EZ Ek Ea Em Eb En Ec Eo Ed)),(false,[.bool true])])) (c2:CF 64 [.agg [.bool cb,.int .u8 pc,.int .u8 pd,.bool bb],.one (.sl Be Q)] (.AF [(true,(Dg k2 FL FB D8 D6 FM FC FN FD FO FE FP FF FQ FG FR FH FT FI FU FJ)),(false,[.bool e2])])):CF 14 [.agg [.sl (.pr .u8 (.pr .u8 (.pr .u8 (.pr .i8 .u8)))) X,.sl .u8 W],.agg [.bool ca,.int .u8 pa,.int .u8 pb,.bool ba,.bool cb,.int .u8 pc,.int .u8 pd,.bool bb,.int .i64 br]] (.AF [(false,[.sl Be Q]),(true,(Dg k1 Ef EV Db DZ Eg EW Eh EX Ei EY Ej EZ Ek Ea Em Eb En Ec Eo Ed)),(true,(Dg k2 FL FB D8 D6 FM FC FN FD FO FE FP FF FQ FG FR FH FT FI FU FJ)),(false,[.bool e2])]):=by
 refine BH Tryz.func14 fun E a=>?_
 conv=>cbv
 refine AB a b ?_;conv=>cbv
 refine AO ?_;conv=>cbv
 refine AB a cL ?_;conv=>cbv
 refine AO ?_;conv=>cbv
 refine AB a c1 ?_;conv=>cbv
 refine AB a c2 ?_;conv=>cbv
 refine Br ?_;exact AD ⟨t2,⟨rfl,rfl,rfl,rfl,rfl,rfl,rfl,rfl,rfl,rfl,rfl,rfl,rfl,rfl,rfl,rfl,rfl,rfl,rfl,rfl,rfl,rfl,trivial⟩,⟨rfl,rfl,rfl,rfl,rfl,rfl,rfl,rfl,rfl,rfl,rfl,rfl,rfl,rfl,rfl,rfl,rfl,rfl,rfl,rfl,rfl,rfl,trivial⟩,t2,trivial⟩
theorem RZ:CF 13 [] (.one (.bool true)):=by
 obtain⟨w0,L⟩:=Ym (V:=[]) (ns:=[]) (by decide) (fun n hn=>by simp at hn);have hL:∀{r:List Rat} {u:List (List Rat)},PN ([]:List Nu) (r::u)->u=[]:=fun {r u} ⟨n,hn,_⟩=>by simp at hn
 have F:=L.fl hL;have z0:Re.ofRat ((0:Int):Rat)=0:=Re.R7;have z1:Re.ofRat ((1:Int):Rat)=1:=rfl;have zm:Re.ofRat ((-1:Int):Rat)= -1:=by rw[show ((-1:Int):Rat)= -(1:Rat) by decide +kernel,Re.ofRat_neg];rfl
 obtain⟨A501a,A501b,⟨hA501a,hA501b⟩,h501⟩:=Gi F (p:=((0:Int):Rat)) (q:=((0:Int):Rat)) (by decide +kernel) (by decide +kernel);obtain⟨A502a,A502b,⟨hA502a,hA502b⟩,h502⟩:=Gi F (p:=((6:Int):Rat)) (q:=((0:Int):Rat)) (by decide +kernel) (by decide +kernel);obtain⟨A503a,A503b,⟨hA503a,hA503b⟩,h503⟩:=Gi F (p:=((5:Int):Rat)) (q:=((0:Int):Rat)) (by decide +kernel) (by decide +kernel);obtain⟨Bk,Bi,h505,c504⟩:=SO F h501 h503 (fun h=>absurd (Re.F7.1 h.1) (by decide +kernel));have h506:=O0 F (by decide) (r:=25) (by decide +kernel) h505 (by (try simp only[Cw,EA,C6,Cv,<-Re.ofRat_add,<-Re.ofRat_mul,<-Re.ofRat_neg,HS,HJ]);exact congrArg Re.ofRat (by decide +kernel));obtain⟨A507a,A507b,⟨hA507a,hA507b⟩,h507⟩:=Gi F (p:=((6:Int):Rat)) (q:=((5:Int):Rat)) (by decide +kernel) (by decide +kernel);obtain⟨F2,Fx,h509,c508⟩:=SO F h502 h507 (fun h=>absurd (Re.F7.1 h.2) (by decide +kernel))
 have h510:=O0 F (by decide) (r:=25) (by decide +kernel) h509 (by (try simp only[Cw,EA,C6,Cv,<-Re.ofRat_add,<-Re.ofRat_mul,<-Re.ofRat_neg,HS,HJ]);exact congrArg Re.ofRat (by decide +kernel));have o1:DC (Tf (PN [])) w0 ([]:List LR) A501a ([]:List LR) A501b Bk Bi _ _ _:=⟨h501.mono (by decide) (by decide),h506.mono (by decide)⟩;have o2:DC (Tf (PN [])) w0 ([]:List LR) A502a ([]:List LR) A502b F2 Fx _ _ _:=⟨h502.mono (by decide) (by decide),h510.mono (by decide)⟩;obtain⟨A511a,A511b,⟨hA511a,hA511b⟩,h511⟩:=Gi F (p:=((-1:Int):Rat)) (q:=((0:Int):Rat)) (by decide +kernel) (by decide +kernel);obtain⟨A512a,A512b,⟨hA512a,hA512b⟩,h512⟩:=Gi F (p:=((0:Int):Rat)) (q:=((3:Int):Rat)) (by decide +kernel) (by decide +kernel);obtain⟨A513a,A513b,⟨hA513a,hA513b⟩,h513⟩:=Gi F (p:=((1:Int):Rat)) (q:=((3:Int):Rat)) (by decide +kernel) (by decide +kernel);obtain⟨T1a,A1a,T2a,A2a,T3a,A3a,ala,bea,gaa,ia,la,ona,haa,hba,hca,ca⟩:=Mi F (h512.mono (by decide) (by decide)) (h513.mono (by decide) (by decide)) (fun h=>absurd (Re.F7.1 h.1) (by decide +kernel))
 have La:DI (Tf (PN [])) w0 T1a A1a T2a A2a T3a A3a ([]:List LR) A511a ([]:List LR) A511b ala bea gaa (Re.ofRat ((-1:Int):Rat)) (Re.ofRat ((0:Int):Rat)) (Re.ofRat ((0:Int):Rat)) (Re.ofRat ((3:Int):Rat)) (-ia):=⟨la,h511.mono (by decide) (by decide),⟨_,_,_,_,h512.mono (by decide) (by decide)⟩,(fun h=>absurd (Re.F7.1 h.1) (by decide +kernel)),ona,by rw[haa];simp only[z0];grind,by rw[hba];simp only[z0,z1,zm];grind,by rw[hca];simp only[z0,z1,zm];grind⟩;obtain⟨A514a,A514b,⟨hA514a,hA514b⟩,h514⟩:=Gi F (p:=((0:Int):Rat)) (q:=((5:Int):Rat)) (by decide +kernel) (by decide +kernel);obtain⟨A515a,A515b,⟨hA515a,hA515b⟩,h515⟩:=Gi F (p:=((1:Int):Rat)) (q:=((5:Int):Rat)) (by decide +kernel) (by decide +kernel);obtain⟨T1b,A1b,T2b,A2b,T3b,A3b,alb,beb,gab,ib,lb,onb,hab,hbb,hcb,cb⟩:=Mi F (h514.mono (by decide) (by decide)) (h515.mono (by decide) (by decide)) (fun h=>absurd (Re.F7.1 h.1) (by decide +kernel))
 have Lb:DI (Tf (PN [])) w0 T1b A1b T2b A2b T3b A3b ([]:List LR) A511a ([]:List LR) A511b alb beb gab (Re.ofRat ((-1:Int):Rat)) (Re.ofRat ((0:Int):Rat)) (Re.ofRat ((0:Int):Rat)) (Re.ofRat ((5:Int):Rat)) (-ib):=⟨lb,h511.mono (by decide) (by decide),⟨_,_,_,_,h514.mono (by decide) (by decide)⟩,(fun h=>absurd (Re.F7.1 h.1) (by decide +kernel)),onb,by rw[hab];simp only[z0];grind,by rw[hbb];simp only[z0,z1,zm];grind,by rw[hcb];simp only[z0,z1,zm];grind⟩;obtain⟨A516a,A516b,⟨hA516a,hA516b⟩,h516⟩:=Gi F (p:=((0:Int):Rat)) (q:=((6:Int):Rat)) (by decide +kernel) (by decide +kernel);obtain⟨A517a,A517b,⟨hA517a,hA517b⟩,h517⟩:=Gi F (p:=((1:Int):Rat)) (q:=((6:Int):Rat)) (by decide +kernel) (by decide +kernel);obtain⟨T1c,A1c,T2c,A2c,T3c,A3c,alc,bec,gac,ic,lc,onc,hac,hbc,hcc,cc⟩:=Mi F (h516.mono (by decide) (by decide)) (h517.mono (by decide) (by decide)) (fun h=>absurd (Re.F7.1 h.1) (by decide +kernel))
 have Lc:DI (Tf (PN [])) w0 T1c A1c T2c A2c T3c A3c ([]:List LR) A511a ([]:List LR) A511b alc bec gac (Re.ofRat ((-1:Int):Rat)) (Re.ofRat ((0:Int):Rat)) (Re.ofRat ((0:Int):Rat)) (Re.ofRat ((6:Int):Rat)) (-ic):=⟨lc,h511.mono (by decide) (by decide),⟨_,_,_,_,h516.mono (by decide) (by decide)⟩,(fun h=>absurd (Re.F7.1 h.1) (by decide +kernel)),onc,by rw[hac];simp only[z0];grind,by rw[hbc];simp only[z0,z1,zm];grind,by rw[hcc];simp only[z0,z1,zm];grind⟩;have n16:(Cw (Re.ofRat ((-1:Int):Rat)) (Re.ofRat ((0:Int):Rat)) (Re.ofRat ((0:Int):Rat)) (Re.ofRat ((0:Int):Rat)) (Re.ofRat ((0:Int):Rat)) (Re.ofRat ((3:Int):Rat)) (Re.ofRat (25)))=Re.ofRat 16:=by (try simp only[Cw,EA,C6,Cv,<-Re.ofRat_add,<-Re.ofRat_mul,<-Re.ofRat_neg,HS,HJ]);exact congrArg Re.ofRat (by decide +kernel)
 have s16:Re.sqrt (Re.ofRat 16)=Re.ofRat 4:=aK (by decide +kernel) (by decide +kernel);obtain⟨TTz,wz,Fz,Uz,hkz⟩:=jK L hL La o1 (by rw[n16];exact ZD (by decide +kernel));obtain⟨Txz,Axz,Tyz,Ayz,hxz,cz,_⟩:=hkz (.inl ⟨rfl,rfl⟩);obtain⟨A518a,A518b,⟨hA518a,hA518b⟩,h518⟩:=Gi F (p:=((-4:Int):Rat)) (q:=((3:Int):Rat)) (by decide +kernel) (by decide +kernel);have n0:(Cw (Re.ofRat ((-1:Int):Rat)) (Re.ofRat ((0:Int):Rat)) (Re.ofRat ((0:Int):Rat)) (Re.ofRat ((0:Int):Rat)) (Re.ofRat ((0:Int):Rat)) (Re.ofRat ((5:Int):Rat)) (Re.ofRat (25)))=Re.ofRat (0):=by (try simp only[Cw,EA,C6,Cv,<-Re.ofRat_add,<-Re.ofRat_mul,<-Re.ofRat_neg,HS,HJ]);exact congrArg Re.ofRat (by decide +kernel)
 obtain⟨eb,_,heb,ceb⟩:=RK L hL Lb o1 (by rw[n0];exact fun h=>absurd (Re.G1.1 (show Re.ofRat 0<_ from h)) (by decide +kernel))
 obtain rfl:eb=12:=by
  rcases heb with h | h
  ·exact h.1
  exact absurd (Re.G1.1 (show _<Re.ofRat 0 from n0 ▸ h.2)) (by decide +kernel)
 have nm:(Cw (Re.ofRat ((-1:Int):Rat)) (Re.ofRat ((0:Int):Rat)) (Re.ofRat ((0:Int):Rat)) (Re.ofRat ((0:Int):Rat)) (Re.ofRat ((0:Int):Rat)) (Re.ofRat ((6:Int):Rat)) (Re.ofRat (25)))=Re.ofRat (-11):=by (try simp only[Cw,EA,C6,Cv,<-Re.ofRat_add,<-Re.ofRat_mul,<-Re.ofRat_neg,HS,HJ]);exact congrArg Re.ofRat (by decide +kernel)
 obtain⟨ec,_,hec,cec⟩:=RK L hL Lc o1 (by rw[nm];exact fun h=>absurd (Re.G1.1 (show Re.ofRat 0<_ from h)) (by decide +kernel))
 obtain rfl:ec=7:=by
  rcases hec with h | h
  ·exact absurd (Re.F7.1 (show _=Re.ofRat 0 from nm ▸ h.2)) (by decide +kernel)
  exact h.1
 have n4:(C6 (Re.ofRat ((0:Int):Rat)) (Re.ofRat ((0:Int):Rat)) (Re.ofRat ((6:Int):Rat)) (Re.ofRat ((0:Int):Rat)) (Re.ofRat (25)) (Re.ofRat (25)))=Re.ofRat (4/9):=by (try simp only[Cw,EA,C6,Cv,<-Re.ofRat_add,<-Re.ofRat_mul,<-Re.ofRat_neg,HS,HJ]);exact congrArg Re.ofRat (by decide +kernel)
 have s4:Re.sqrt (Re.ofRat (4/9))=Re.ofRat (2/3):=aK (by decide +kernel) (by decide +kernel);obtain⟨TTc,wc,Fc,Uc,hkc⟩:=fv L hL o1 o2 (fun h=>absurd (Re.F7.1 h.1) (by decide +kernel)) (by rw[n4];exact ZD (by decide +kernel));obtain⟨Txx,Axx,Tyx,Ayx,_,_,_,_,hxx,cx,_⟩:=hkc (.inl ⟨rfl,rfl⟩);obtain⟨A519a,A519b,⟨hA519a,hA519b⟩,h519⟩:=Gi F (p:=((3:Int):Rat)) (q:=((4:Int):Rat)) (by decide +kernel) (by decide +kernel);obtain⟨Txy,Axy,Tyy,Ayy,_,_,_,_,hxy,cy,_⟩:=hkc (.inr ⟨rfl,rfl⟩);obtain⟨A520a,A520b,⟨hA520a,hA520b⟩,h520⟩:=Gi F (p:=((3:Int):Rat)) (q:=((-4:Int):Rat)) (by decide +kernel) (by decide +kernel);refine BH Tryz.func13 fun E hE=>?_
 conv=>cbv
 refine AB hE (GD (x:=0) (y:=0) (by decide) (by decide) hA501a hA501b) ?_;conv=>cbv
 refine AB hE (GD (x:=5) (y:=0) (by decide) (by decide) hA503a hA503b) ?_;conv=>cbv
 refine AB hE c504 ?_;conv=>cbv
 refine AB hE (GD (x:=6) (y:=0) (by decide) (by decide) hA502a hA502b) ?_;conv=>cbv
 refine AB hE (GD (x:=6) (y:=5) (by decide) (by decide) hA507a hA507b) ?_;conv=>cbv
 refine AB hE c508 ?_;conv=>cbv
 refine AB hE (GD (x:=0) (y:=3) (by decide) (by decide) hA512a hA512b) ?_;conv=>cbv
 refine AB hE (GD (x:=1) (y:=3) (by decide) (by decide) hA513a hA513b) ?_;conv=>cbv
 refine AB hE ca ?_;conv=>cbv
 refine AB hE (GD (x:=0) (y:=5) (by decide) (by decide) hA514a hA514b) ?_;conv=>cbv
 refine AB hE (GD (x:=1) (y:=5) (by decide) (by decide) hA515a hA515b) ?_;conv=>cbv
 refine AB hE cb ?_;conv=>cbv
 refine AB hE (GD (x:=0) (y:=6) (by decide) (by decide) hA516a hA516b) ?_;conv=>cbv
 refine AB hE (GD (x:=1) (y:=6) (by decide) (by decide) hA517a hA517b) ?_;conv=>cbv
 refine AB hE cc ?_;conv=>cbv
 refine AO ?_;conv=>cbv
 refine AO ?_;conv=>cbv
 refine AO ?_;conv=>cbv
 refine AO ?_;conv=>cbv
 refine AO ?_;conv=>cbv
 refine AB hE cx ?_;conv=>cbv
 refine AB hE cy ?_;conv=>cbv
 refine AB hE (GD (x:= -1) (y:=0) (by decide) (by decide) hA511a hA511b) ?_;conv=>cbv
 refine AB hE cz ?_;conv=>cbv
 refine Br ?_;refine AB hE (GD (x:= -1) (y:=0) (by decide) (by decide) hA511a hA511b) ?_;conv=>cbv
 refine AB hE ((ceb 1 (.inl rfl)).1) ?_;conv=>cbv
 refine Br ?_;refine AB hE (GD (x:= -1) (y:=0) (by decide) (by decide) hA511a hA511b) ?_;conv=>cbv
 refine AB hE ((cec 1 (.inl rfl)).1) ?_;conv=>cbv
 refine Br ?_;refine BG ?_;conv=>cbv
 refine BG ?_;conv=>cbv
 refine BG ?_;conv=>cbv
 refine AB hE (GD (x:=3) (y:=4) (by decide) (by decide) hA519a hA519b) ?_;conv=>cbv
 refine AB hE (GW Fc hxx (Uc.v (by decide) (by decide) h519) (by decide) (by decide) (by decide) (by decide) (e:=true) ⟨fun _=>⟨by rw[n4,s4];(try simp only[Cw,EA,C6,Cv,<-Re.ofRat_add,<-Re.ofRat_mul,<-Re.ofRat_neg,HS,HJ]);exact congrArg Re.ofRat (by decide +kernel),by rw[n4,s4];(try simp only[Cw,EA,C6,Cv,<-Re.ofRat_add,<-Re.ofRat_mul,<-Re.ofRat_neg,HS,HJ]);exact congrArg Re.ofRat (by decide +kernel)⟩,fun _=>rfl⟩) ?_;try conv=>cbv
 refine AB hE (GD (x:=3) (y:= -4) (by decide) (by decide) hA520a hA520b) ?_;conv=>cbv
 refine AB hE (GW Fc hxy (Uc.v (by decide) (by decide) h520) (by decide) (by decide) (by decide) (by decide) (e:=true) ⟨fun _=>⟨by rw[n4,s4];(try simp only[Cw,EA,C6,Cv,<-Re.ofRat_add,<-Re.ofRat_mul,<-Re.ofRat_neg,HS,HJ]);exact congrArg Re.ofRat (by decide +kernel),by rw[n4,s4];(try simp only[Cw,EA,C6,Cv,<-Re.ofRat_add,<-Re.ofRat_mul,<-Re.ofRat_neg,HS,HJ]);exact congrArg Re.ofRat (by decide +kernel)⟩,fun _=>rfl⟩) ?_;try conv=>cbv
 refine AB hE (GD (x:= -4) (y:=3) (by decide) (by decide) hA518a hA518b) ?_;conv=>cbv
 refine AB hE (GW Fz hxz (Uz.v (by decide) (by decide) h518) (by decide) (by decide) (by decide) (by decide) (e:=true) ⟨fun _=>⟨by rw[n16,s16];(try simp only[Cw,EA,C6,Cv,<-Re.ofRat_add,<-Re.ofRat_mul,<-Re.ofRat_neg,HS,HJ]);exact congrArg Re.ofRat (by decide +kernel),by rw[n16,s16];(try simp only[Cw,EA,C6,Cv,<-Re.ofRat_add,<-Re.ofRat_mul,<-Re.ofRat_neg,HS,HJ]);exact congrArg Re.ofRat (by decide +kernel)⟩,fun _=>rfl⟩) ?_;try conv=>cbv
 refine BG ?_;conv=>cbv
 refine BG ?_;conv=>cbv
 refine Br ?_;exact AD ⟨t2,trivial⟩
end Go.Abs
namespace Go.Abs
open Go.RowKit
def Po (TT:List (List Rat)->Prop) (w:List (List Rat)) (ci:Bool) (v:AV):Prop:=(ci=true/\∃Ta Aa Tb Ab Tc Ac xo yo s,v=Bj Ta Aa Tb Ab Tc Ac/\DC TT w Ta Aa Tb Ab Tc Ac xo yo s)\/(ci=false/\∃T1 A1 T2 A2 T3 A3 T4 A4 T5 A5 al be ga xd yd xp yp i,v=Bt T1 A1 T2 A2 T3 A3 T4 A4 T5 A5/\DI TT w T1 A1 T2 A2 T3 A3 T4 A4 T5 A5 al be ga xd yd xp yp i)
theorem RW {TT:List (List Rat)->Prop} {w:List (List Rat)} (F:Fl TT w) {Q:List (el Be)} {fa fb:Int} {ci bk:Bool} {xi q:el Be} (a:0<=fa/\fa<256) (b:0<=fb/\fb<256) (m:2<=Q.length) (c:Q[(fa%(Q.length:Int)).toNat]? =some xi) (d:Q[(fb%(Q.length:Int)).toNat]? =some q) {z B A C:Re} (j:Vm TT w 2100 20 20 xi.1.1 xi.1.2 xi.2.1 xi.2.2 z B) (l:Vm TT w 2100 20 20 q.1.1 q.1.2 q.2.1 q.2.2 A C):(∃k Ef EV Db DZ Eg EW Eh EX Ei EY Ej EZ Ek Ea Em Eb En Ec Eo Ed,CF 64 [.agg [.bool ci,.int .u8 fa,.int .u8 fb,.bool bk],.one (.sl Be Q)] (.AF [(true,(Dg k Ef EV Db DZ Eg EW Eh EX Ei EY Ej EZ Ek Ea Em Eb En Ec Eo Ed)),(false,[.bool false])]))\/(∃v,Po TT w ci v/\CF 64 [.agg [.bool ci,.int .u8 fa,.int .u8 fb,.bool bk],.one (.sl Be Q)] (.AF [(true,v.cs),(false,[.bool true])])):=by
 by_cases o:z=A/\B=C
 ·left
  cases ci
  ·have c1:=mG F j l (by decide) (by decide) (by decide) (by decide) o;obtain⟨_,_,_,_,D,c2⟩:=Lu F l j;cases bk
   ·exact⟨_,_,_,_,_,_,_,_,_,_,_,_,_,_,_,_,_,_,_,_,_,ll a b m c d c1 c2⟩
   obtain⟨_,_,_,u⟩:=Tt F D;exact⟨_,_,_,_,_,_,_,_,_,_,_,_,_,_,_,_,_,_,_,_,_,ln a b m c d c1 c2 u⟩
  exact⟨_,_,_,_,_,_,_,_,_,_,_,_,_,_,_,_,_,_,_,_,_,lh a b m c d (lV F j l o)⟩
 right
 cases ci
 ·cases bk
  ·obtain⟨T5,A5,T6,A6,T7,A7,T8,A8,T9,A9,al,be,ga,xd,yd,i,h,c1,c2⟩:=jT F j l o;exact⟨_,.inr ⟨rfl,_,_,_,_,_,_,_,_,_,_,_,_,_,_,_,_,_,_,rfl,h⟩,lj a b m c d c1 c2⟩
  obtain⟨T5,A5,T6,A6,T7,A7,T8,A8,T9,A9,Ta,Aa,Tb,Ab,al,be,ga,xd,yd,i,h,c1,c2,u⟩:=jU F j l o;exact⟨_,.inr ⟨rfl,_,_,_,_,_,_,_,_,_,_,_,_,_,_,_,_,_,_,rfl,h⟩,lk a b m c d c1 c2 u⟩
 obtain⟨_,_,G,c1⟩:=SO F j l o;exact⟨_,.inl ⟨rfl,_,_,_,_,_,_,_,_,_,rfl,⟨j,G.mono (by decide)⟩⟩,lg a b m c d c1⟩
theorem jY {X:List (el B9)} {W:List UInt8} {ns:List Nu} (A:ns=(runN (X.take 24)).1) {V:List Re} (q:V.length<=3) (m:∀n∈ns,CK V n) {pa pb pc pd br:Int} {ca ba cb bb:Bool} (ha:0<=pa/\pa<256) (hb:0<=pb/\pb<256) (hc:0<=pc/\pc<256) (C:0<=pd/\pd<256):(∃Q k1 k2 Ef EV Db DZ Eg EW Eh EX Ei EY Ej EZ Ek Ea Em Eb En Ec Eo Ed FL FB D8 D6 FM FC FN FD FO FE FP FF FQ FG FR FH FT FI FU FJ,CF 14 [.agg [.sl B9 X,.sl .u8 W],.agg [.bool ca,.int .u8 pa,.int .u8 pb,.bool ba,.bool cb,.int .u8 pc,.int .u8 pd,.bool bb,.int .i64 br]] (.AF [(false,[.sl Be Q]),(true,(Dg k1 Ef EV Db DZ Eg EW Eh EX Ei EY Ej EZ Ek Ea Em Eb En Ec Eo Ed)),(true,(Dg k2 FL FB D8 D6 FM FC FN FD FO FE FP FF FQ FG FR FH FT FI FU FJ)),(false,[.bool false])]))\/(∃w,Pl (PN (Gz ns)) V w/\∃Q v1 v2,Po (Tf (PN (Gz ns))) w ca v1/\Po (Tf (PN (Gz ns))) w cb v2/\(2<=Q.length/\∀i:Nat,i<Q.length->∃x X Y,Q[i]? =some x/\Vm (Tf (PN (Gz ns))) w 2100 20 20 x.1.1 x.1.2 x.2.1 x.2.2 X Y)/\CF 14 [.agg [.sl B9 X,.sl .u8 W],.agg [.bool ca,.int .u8 pa,.int .u8 pb,.bool ba,.bool cb,.int .u8 pc,.int .u8 pd,.bool bb,.int .i64 br]] (.AF [(false,[.sl Be Q]),(true,v1.cs),(true,v2.cs),(false,[.bool true])])):=by
 obtain⟨Q,B⟩:∃z,z=Mw ns W:=⟨_,rfl⟩
 rcases Nat.lt_or_ge Q.length 2 with u | u
 ·exact .inl ⟨_,_,_,_,_,_,_,_,_,_,_,_,_,_,_,_,_,_,_,_,_,_,_,_,_,_,_,_,_,_,_,_,_,_,_,_,_,_,_,_,_,_,_,jZ (bH A q m B (i:=2) (i':=2) ⟨rfl⟩ (by decide) (c:=false) (decide_eq_false (by omega)).symm)⟩
 have o:=bH A q m B (i:=2) (i':=2) ⟨rfl⟩ (by decide) (c:=true) (decide_eq_true u).symm;rcases Classical.em (¬∀x∈Q,Pp x) with a | a
 ·exact .inl ⟨_,_,_,_,_,_,_,_,_,_,_,_,_,_,_,_,_,_,_,_,_,_,_,_,_,_,_,_,_,_,_,_,_,_,_,_,_,_,_,_,_,_,_,ja o (Y5 (b:=false) ⟨fun z=>(by cases z),fun z=>absurd z a⟩)⟩
 have a:=Classical.not_not.1 a;have cL:=Y5 (b:=true) ⟨fun _=>a,fun _=>rfl⟩;obtain⟨w,L⟩:=jb q m
 have d:∀i:Nat,i<Q.length->∃x X Y,Q[i]? =some x/\Vm (Tf (PN (Gz ns))) w 2100 20 20 x.1.1 x.1.2 x.2.1 x.2.2 X Y:=fun i R=>by
  obtain⟨x,D⟩:=AP (l:=Q) (i:=i) R;obtain⟨I,J⟩:=a x (List.mem_of_getElem? D);obtain⟨X,Y,h⟩:=lP L m B D I J;exact⟨x,X,Y,D,h (by decide)⟩
 have j:∀p:Int,0<=p->(p%(Q.length:Int)).toNat<Q.length:=fun p hp=>by
  have I:=Int.emod_lt_of_pos p (show (0:Int)<Q.length by omega);have J:=Int.emod_nonneg p (show (Q.length:Int)≠0 by omega);omega
 obtain⟨xa,S,Ya,N,va⟩:=d _ (j pa ha.1);obtain⟨xb,T,Yb,O,vb⟩:=d _ (j pb hb.1);obtain⟨xc,U,Yc,G,vc⟩:=d _ (j pc hc.1);obtain⟨xd,Z,Yd,H,M⟩:=d _ (j pd C.1);have F:=L.fl IJ;rcases RW F (ci:=ca) (bk:=ba) ha hb u N O va vb with⟨k1,Ef,EV,Db,DZ,Eg,EW,Eh,EX,Ei,EY,Ej,EZ,Ek,Ea,Em,Eb,En,Ec,Eo,Ed,c1⟩ |⟨v1,d1,c1⟩
 ·rcases RW F (ci:=cb) (bk:=bb) hc C u G H vc M with⟨k2,FL,FB,D8,D6,FM,FC,FN,FD,FO,FE,FP,FF,FQ,FG,FR,FH,FT,FI,FU,FJ,c2⟩ |⟨v2,d2,c2⟩
  ·exact .inl ⟨_,_,_,_,_,_,_,_,_,_,_,_,_,_,_,_,_,_,_,_,_,_,_,_,_,_,_,_,_,_,_,_,_,_,_,_,_,_,_,_,_,_,_,RX o cL c1 c2⟩
  rcases d2 with⟨_,_,_,_,_,_,_,_,_,_,rfl,_⟩ |⟨_,_,_,_,_,_,_,_,_,_,_,_,_,_,_,_,_,_,_,rfl,_⟩
  ·exact .inl ⟨_,_,_,_,_,_,_,_,_,_,_,_,_,_,_,_,_,_,_,_,_,_,_,_,_,_,_,_,_,_,_,_,_,_,_,_,_,_,_,_,_,_,_,RX o cL c1 c2⟩
  exact .inl ⟨_,_,_,_,_,_,_,_,_,_,_,_,_,_,_,_,_,_,_,_,_,_,_,_,_,_,_,_,_,_,_,_,_,_,_,_,_,_,_,_,_,_,_,RX o cL c1 c2⟩
 rcases RW F (ci:=cb) (bk:=bb) hc C u G H vc M with⟨k2,FL,FB,D8,D6,FM,FC,FN,FD,FO,FE,FP,FF,FQ,FG,FR,FH,FT,FI,FU,FJ,c2⟩ |⟨v2,d2,c2⟩
 ·rcases d1 with⟨_,_,_,_,_,_,_,_,_,_,rfl,_⟩ |⟨_,_,_,_,_,_,_,_,_,_,_,_,_,_,_,_,_,_,_,rfl,_⟩
  ·exact .inl ⟨_,_,_,_,_,_,_,_,_,_,_,_,_,_,_,_,_,_,_,_,_,_,_,_,_,_,_,_,_,_,_,_,_,_,_,_,_,_,_,_,_,_,_,RY o cL c1 c2⟩
  exact .inl ⟨_,_,_,_,_,_,_,_,_,_,_,_,_,_,_,_,_,_,_,_,_,_,_,_,_,_,_,_,_,_,_,_,_,_,_,_,_,_,_,_,_,_,_,RY o cL c1 c2⟩
 refine .inr ⟨w,L,Q,v1,v2,d1,d2,⟨u,d⟩,?_⟩;rcases d1 with⟨_,_,_,_,_,_,_,_,_,_,rfl,_⟩ |⟨_,_,_,_,_,_,_,_,_,_,_,_,_,_,_,_,_,_,_,rfl,_⟩ <;> rcases d2 with⟨_,_,_,_,_,_,_,_,_,_,rfl,_⟩ |⟨_,_,_,_,_,_,_,_,_,_,_,_,_,_,_,_,_,_,_,rfl,_⟩ <;> exact RY o cL c1 c2
end Go.Abs
namespace Go.Abs
open Go.RowKit
variable {Aa Ab Ac Ad Ae Af:LR} {P:List (List Rat)->Prop} {Ta Tb Tc Td Te DU:List LR} {V:List Re} {s t xa xo ya yo:Re} {w0:List (List Rat)}
theorem fu (L:Pl P V w0) (A:∀{r u},P (r::u)->u=[]) (o:DC (Tf P) w0 Ta Aa Tb Ab Tc Ac xo yo s) (a:DC (Tf P) w0 Td Ad Te Ae DU Af xa ya t) (J:¬(¬(xo=xa/\yo=ya)/\0<(C6 xo yo xa ya s t))):∃e,e≠0/\∀br:Int,br=1\/br= -1->CF 61 [.agg (AY Ta Aa Tb Ab Tc Ac),.agg (AY Td Ad Te Ae DU Af),.one (.int .i64 br)] (.AF [(true,(AG [] [] [] [])),(false,[.int .i64 e])])/\CF 95 [.agg (AY Ta Aa Tb Ab Tc Ac),.agg (AY Td Ad Te Ae DU Af),.one (.int .i64 br)] (.one (.int .i64 e))/\CF 61 [.agg (AY Td Ad Te Ae DU Af),.agg (AY Ta Aa Tb Ab Tc Ac),.one (.int .i64 br)] (.AF [(true,(AG [] [] [] [])),(false,[.int .i64 e])]):=by
 have F:=L.fl A;have d:∀br:Int,br=1\/br= -1->CF 184 [.one (.int .i64 br)] (.one (.bool true))/\CF 208 [.one (.int .i64 br)] (.one (.bool true)):=fun br hb=>⟨LH hb,Hr hb⟩
 by_cases b:xo=xa/\yo=ya
 ·have h:xa=xo/\ya=yo:=⟨b.1.symm,b.2.symm⟩
  by_cases l:s=t
  ·exact⟨11,by decide,fun br hb=>⟨Oo (by decide) (d br hb).1 (Rc F o.o o.s a.o a.s b l),Y0 (d br hb).2 (ZC F o.o o.s a.o a.s ⟨b,l⟩),Oo (by decide) (d br hb).1 (Rc F a.o a.s o.o o.s h l.symm)⟩⟩
  exact⟨10,by decide,fun br hb=>⟨Oo (by decide) (d br hb).1 (Rd F o.o o.s a.o a.s b l),Y1 (d br hb).2 (M7 F o.o o.s a.o a.s (fun z=>l z.2)) (GW F o.o a.o (by decide) (by decide) (by decide) (by decide) (e:=true) ⟨fun _=>b,fun _=>rfl⟩),Oo (by decide) (d br hb).1 (Rd F a.o a.s o.o o.s h (fun z=>l z.symm))⟩⟩
 have h:¬(xa=xo/\ya=yo):=fun z=>b ⟨z.1.symm,z.2.symm⟩
 have M:((xa-xo)*(xa-xo)+(ya-yo)*(ya-yo))≠0:=NQ (fun y=>b ⟨by have:=y.1;grind,by have:=y.2;grind⟩);obtain⟨W,O,U,N,Z,S,Tq,T,Y,R,gf,gl,D,c,q⟩:=Ki L A o a b;obtain⟨_,_,_,_,_,_,_,_,_,_,_,_,j,B,_⟩:=Ki L A a o h;unfold C6 Cv at j;rw[show (xo-xa)*(xo-xa)+(yo-ya)*(yo-ya)=((xa-xo)*(xa-xo)+(ya-yo)*(ya-yo)) by grind,Vv M] at j;have C:=LC F o.o o.s a.o a.s b;have m:=LC F a.o a.s o.o o.s h;have G:=M7 F o.o o.s a.o a.s (fun z=>b z.1);have H:=GW F o.o a.o (by decide) (by decide) (by decide) (by decide) (e:=false) ⟨fun z=>(by cases z),fun z=>absurd z b⟩;rcases E7 (C6 xo yo xa ya s t) with⟨I,e⟩ |⟨I,e⟩ |⟨e,_⟩
 ·rw[e] at q;exact⟨7,by decide,fun br hb=>⟨Oq (d br hb).1 C c (LD (by decide) (Mp F D e)),My (d br hb).2 G H q PC,Oq (d br hb).1 m B (LD (by decide) (Mp F j e))⟩⟩
 ·rw[e] at q;exact⟨12,by decide,fun br hb=>⟨Oq (d br hb).1 C c (LD (by decide) (Mo F D e)),My (d br hb).2 G H q PB,Oq (d br hb).1 m B (LD (by decide) (Mo F j e))⟩⟩
 exact absurd ⟨b,e⟩ J
theorem Vt (L:Pl P V w0) (h:∀{r u},P (r::u)->u=[]) (o:DC (Tf P) w0 Ta Aa Tb Ab Tc Ac xo yo s) (a:DC (Tf P) w0 Td Ad Te Ae DU Af xa ya t) (b:¬(xo=xa/\yo=ya)) (j:0<(C6 xo yo xa ya s t)) (br:Int) (hb:br=1\/br= -1):CF 95 [.agg (AY Ta Aa Tb Ab Tc Ac),.agg (AY Td Ad Te Ae DU Af),.one (.int .i64 br)] (.one (.int .i64 0)):=by
 have F:=L.fl h;obtain⟨H,A,G,q,J,C,M,D,I,B,gf,N,O,c,d⟩:=Ki L h o a b;have l:=M7 F o.o o.s a.o a.s (fun z=>b z.1);have m:=GW F o.o a.o (by decide) (by decide) (by decide) (by decide) (e:=false) ⟨fun z=>(by cases z),fun z=>absurd z b⟩;rw[E8 j] at d;exact My (Hr hb) l m d Y2
end Go.Abs
namespace Go.Abs
open Go.RowKit
abbrev Gl:T:= .pr .i64 (.pr (.pr Bc Be) (.pr Be (.pr (.pr Be Bc) Be)))
abbrev Ex (T1:List LR) (A1:LR) (T2:List LR) (A2:LR) (T3:List LR) (A3:LR) (T4:List LR) (A4:LR) (T5:List LR) (A5:LR):el Gl:=(1,(((T1,A1),((T2,A2),(T3,A3))),(((T4,A4),(T5,A5)),((((([]:List LR),([]:LR)),(([]:List LR),([]:LR))),(([]:List LR),([]:LR))),((([]:List LR),([]:LR)),(([]:List LR),([]:LR)))))))
abbrev Ew (T1:List LR) (A1:LR) (T2:List LR) (A2:LR) (T3:List LR) (A3:LR):el Gl:=(2,(((([]:List LR),([]:LR)),((([]:List LR),([]:LR)),(([]:List LR),([]:LR)))),(((([]:List LR),([]:LR)),(([]:List LR),([]:LR))),((((T1,A1),(T2,A2)),(T3,A3)),((([]:List LR),([]:LR)),(([]:List LR),([]:LR)))))))
abbrev HN (T1:List LR) (A1:LR) (T2:List LR) (A2:LR) (T3:List LR) (A3:LR) (T4:List LR) (A4:LR) (T5:List LR) (A5:LR):List AC:=[.int .i64 1,.sl (.sl AA) T1,.sl AA A1,.sl (.sl AA) T2,.sl AA A2,.sl (.sl AA) T3,.sl AA A3,.sl (.sl AA) T4,.sl AA A4,.sl (.sl AA) T5,.sl AA A5,BI,BJ,BI,BJ,BI,BJ,BI,BJ,BI,BJ]
abbrev HM (T1:List LR) (A1:LR) (T2:List LR) (A2:LR) (T3:List LR) (A3:LR):List AC:=[.int .i64 2,BI,BJ,BI,BJ,BI,BJ,BI,BJ,BI,BJ,.sl (.sl AA) T1,.sl AA A1,.sl (.sl AA) T2,.sl AA A2,.sl (.sl AA) T3,.sl AA A3,BI,BJ,BI,BJ]
variable {A1 A2 A3 A4 A5 Aa Ab Ac:LR} {T1 T2 T3 T4 T5 Ta Tb Tc:List LR}
theorem Mm {T6 T7 T8 T9 T0:List LR} {A6 A7 A8 A9 A0:LR}:CF 79 [(Bt T1 A1 T2 A2 T3 A3 T4 A4 T5 A5),(Bt T6 A6 T7 A7 T8 A8 T9 A9 T0 A0)] (.one (.bool true)):=by
 refine BH Tryz.func79 fun E u=>?_
 conv=>cbv
 refine⟨[(Ex T1 A1 T2 A2 T3 A3 T4 A4 T5 A5),(Ex T6 A6 T7 A7 T8 A8 T9 A9 T0 A0)],fun _=>⟨rfl,by decide,rfl,⟨rfl,⟨rfl,rfl,rfl,rfl,rfl,rfl,rfl,rfl,rfl,rfl,rfl,rfl,rfl,rfl,rfl,rfl,rfl,rfl,rfl,rfl,rfl,trivial⟩,⟨rfl,⟨rfl,rfl,rfl,rfl,rfl,rfl,rfl,rfl,rfl,rfl,rfl,rfl,rfl,rfl,rfl,rfl,rfl,rfl,rfl,rfl,rfl,trivial⟩,trivial⟩⟩⟩,.inr ?_⟩;try conv=>cbv
 rintro l ⟨j,f10⟩;conv=>cbv
 obtain rfl:l=2:=j;refine .inr ?_;obtain⟨o,a⟩:=xJ fun vs h k=>(vs=[.one (.sl Gl [(Ex T1 A1 T2 A2 T3 A3 T4 A4 T5 A5),(Ex T6 A6 T7 A7 T8 A8 T9 A9 T0 A0)]),.one (.int .i64 2),.one (.int .i64 0),.one (.Ag 2 0 0),.one (.Ag 3 0 0)]/\h=[.var 0 (HN T1 A1 T2 A2 T3 A3 T4 A4 T5 A5),.var 0 (HN T6 A6 T7 A7 T8 A8 T9 A9 T0 A0)]/\k=2)\/(vs=[.one (.sl Gl [(Ex T1 A1 T2 A2 T3 A3 T4 A4 T5 A5),(Ex T6 A6 T7 A7 T8 A8 T9 A9 T0 A0)]),.one (.int .i64 2),.one (.int .i64 1),.one (.Ag 2 0 0),.one (.Ag 3 0 0)]/\h=[.var 0 (HN T1 A1 T2 A2 T3 A3 T4 A4 T5 A5),.var 0 (HN T6 A6 T7 A7 T8 A8 T9 A9 T0 A0)]/\k=1)\/(vs=[.one (.sl Gl [(Ex T1 A1 T2 A2 T3 A3 T4 A4 T5 A5),(Ex T6 A6 T7 A7 T8 A8 T9 A9 T0 A0)]),.one (.int .i64 2),.one (.int .i64 2),.one (.Ag 2 0 0),.one (.Ag 3 0 0)]/\h=[.var 0 (HN T1 A1 T2 A2 T3 A3 T4 A4 T5 A5),.var 0 (HN T6 A6 T7 A7 T8 A8 T9 A9 T0 A0)]/\k=0)
 refine⟨[],[9,10,11,2,3],[2,3],o,⟨2,by rw[a];exact .inl ⟨rfl,rfl,rfl⟩⟩,?_⟩;intro vs h q m;rw[a] at m;rcases m with⟨rfl,rfl,d⟩ |⟨rfl,rfl,d⟩ |⟨rfl,rfl,d⟩
 ·conv=>cbv
  refine BG ?_;conv=>cbv
  refine .inr ?_;refine⟨(Ex T1 A1 T2 A2 T3 A3 T4 A4 T5 A5),fun _=>⟨by omega,rfl⟩,?_⟩;try conv=>cbv
  refine AO ?_;conv=>cbv
  refine BG ?_;conv=>cbv
  refine AO ?_;conv=>cbv
  intro c b;conv=>cbv
  refine AN ?_;obtain rfl:c=1:=b;refine⟨1,?_,?_⟩
  ·omega
  rw[a];exact .inr (.inl ⟨rfl,rfl,rfl⟩)
 ·conv=>cbv
  refine BG ?_;conv=>cbv
  refine .inr ?_;refine⟨(Ex T6 A6 T7 A7 T8 A8 T9 A9 T0 A0),fun _=>⟨by omega,rfl⟩,?_⟩;try conv=>cbv
  refine AO ?_;conv=>cbv
  refine BG ?_;conv=>cbv
  refine AO ?_;conv=>cbv
  intro c b;conv=>cbv
  refine AN ?_;obtain rfl:c=2:=b;refine⟨0,?_,?_⟩
  ·omega
  rw[a];exact .inr (.inr ⟨rfl,rfl,rfl⟩)
 conv=>cbv
 refine AO ?_;conv=>cbv
 exact AD ⟨t2,trivial⟩
theorem LG (ca:CF 186 [.agg (AY T1 A1 T2 A2 T3 A3),.agg (AG T4 A4 T5 A5)] (.one (.bool true))):CF 79 [(Bt T1 A1 T2 A2 T3 A3 T4 A4 T5 A5),(Bj Ta Aa Tb Ab Tc Ac)] (.one (.bool true)):=by
 refine BH Tryz.func79 fun E q=>?_
 conv=>cbv
 refine⟨[(Ex T1 A1 T2 A2 T3 A3 T4 A4 T5 A5),(Ew Ta Aa Tb Ab Tc Ac)],fun _=>⟨rfl,by decide,rfl,⟨rfl,⟨rfl,rfl,rfl,rfl,rfl,rfl,rfl,rfl,rfl,rfl,rfl,rfl,rfl,rfl,rfl,rfl,rfl,rfl,rfl,rfl,rfl,trivial⟩,⟨rfl,⟨rfl,rfl,rfl,rfl,rfl,rfl,rfl,rfl,rfl,rfl,rfl,rfl,rfl,rfl,rfl,rfl,rfl,rfl,rfl,rfl,rfl,trivial⟩,trivial⟩⟩⟩,.inr ?_⟩;try conv=>cbv
 rintro l ⟨j,f10⟩;conv=>cbv
 obtain rfl:l=2:=j;refine .inr ?_;obtain⟨o,a⟩:=xJ fun vs h k=>(vs=[.one (.sl Gl [(Ex T1 A1 T2 A2 T3 A3 T4 A4 T5 A5),(Ew Ta Aa Tb Ab Tc Ac)]),.one (.int .i64 2),.one (.int .i64 0),.one (.Ag 2 0 0),.one (.Ag 3 0 0)]/\h=[.var 0 (HN T1 A1 T2 A2 T3 A3 T4 A4 T5 A5),.var 0 (HM Ta Aa Tb Ab Tc Ac)]/\k=2)\/(vs=[.one (.sl Gl [(Ex T1 A1 T2 A2 T3 A3 T4 A4 T5 A5),(Ew Ta Aa Tb Ab Tc Ac)]),.one (.int .i64 2),.one (.int .i64 1),.one (.Ag 2 0 0),.one (.Ag 3 0 0)]/\h=[.var 0 (HN T1 A1 T2 A2 T3 A3 T4 A4 T5 A5),.var 0 (HM Ta Aa Tb Ab Tc Ac)]/\k=1)\/(vs=[.one (.sl Gl [(Ex T1 A1 T2 A2 T3 A3 T4 A4 T5 A5),(Ew Ta Aa Tb Ab Tc Ac)]),.one (.int .i64 2),.one (.int .i64 2),.one (.Ag 2 0 0),.one (.Ag 3 0 0)]/\h=[.var 0 (HN T1 A1 T2 A2 T3 A3 T4 A4 T5 A5),.var 0 (HM Ta Aa Tb Ab Tc Ac)]/\k=0)
 refine⟨[],[9,10,11,2,3],[2,3],o,⟨2,by rw[a];exact .inl ⟨rfl,rfl,rfl⟩⟩,?_⟩;intro vs h u m;rw[a] at m;rcases m with⟨rfl,rfl,d⟩ |⟨rfl,rfl,d⟩ |⟨rfl,rfl,d⟩
 ·conv=>cbv
  refine BG ?_;conv=>cbv
  refine .inr ?_;refine⟨(Ex T1 A1 T2 A2 T3 A3 T4 A4 T5 A5),fun _=>⟨by omega,rfl⟩,?_⟩;try conv=>cbv
  refine AO ?_;conv=>cbv
  refine BG ?_;conv=>cbv
  refine BG ?_;conv=>cbv
  refine AB q ca ?_;conv=>cbv
  refine AO ?_;conv=>cbv
  intro c b;conv=>cbv
  refine AN ?_;obtain rfl:c=1:=b;refine⟨1,?_,?_⟩
  ·omega
  rw[a];exact .inr (.inl ⟨rfl,rfl,rfl⟩)
 ·conv=>cbv
  refine BG ?_;conv=>cbv
  refine .inr ?_;refine⟨(Ew Ta Aa Tb Ab Tc Ac),fun _=>⟨by omega,rfl⟩,?_⟩;try conv=>cbv
  refine BG ?_;conv=>cbv
  refine AO ?_;conv=>cbv
  refine AO ?_;conv=>cbv
  intro c b;conv=>cbv
  refine AN ?_;obtain rfl:c=2:=b;refine⟨0,?_,?_⟩
  ·omega
  rw[a];exact .inr (.inr ⟨rfl,rfl,rfl⟩)
 conv=>cbv
 refine AO ?_;conv=>cbv
 exact AD ⟨t2,trivial⟩
theorem LF (ca:CF 186 [.agg (AY T1 A1 T2 A2 T3 A3),.agg (AG T4 A4 T5 A5)] (.one (.bool true))):CF 79 [(Bj Ta Aa Tb Ab Tc Ac),(Bt T1 A1 T2 A2 T3 A3 T4 A4 T5 A5)] (.one (.bool true)):=by
 refine BH Tryz.func79 fun E q=>?_
 conv=>cbv
 refine⟨[(Ew Ta Aa Tb Ab Tc Ac),(Ex T1 A1 T2 A2 T3 A3 T4 A4 T5 A5)],fun _=>⟨rfl,by decide,rfl,⟨rfl,⟨rfl,rfl,rfl,rfl,rfl,rfl,rfl,rfl,rfl,rfl,rfl,rfl,rfl,rfl,rfl,rfl,rfl,rfl,rfl,rfl,rfl,trivial⟩,⟨rfl,⟨rfl,rfl,rfl,rfl,rfl,rfl,rfl,rfl,rfl,rfl,rfl,rfl,rfl,rfl,rfl,rfl,rfl,rfl,rfl,rfl,rfl,trivial⟩,trivial⟩⟩⟩,.inr ?_⟩;try conv=>cbv
 rintro l ⟨j,f10⟩;conv=>cbv
 obtain rfl:l=2:=j;refine .inr ?_;obtain⟨o,a⟩:=xJ fun vs h k=>(vs=[.one (.sl Gl [(Ew Ta Aa Tb Ab Tc Ac),(Ex T1 A1 T2 A2 T3 A3 T4 A4 T5 A5)]),.one (.int .i64 2),.one (.int .i64 0),.one (.Ag 2 0 0),.one (.Ag 3 0 0)]/\h=[.var 0 (HM Ta Aa Tb Ab Tc Ac),.var 0 (HN T1 A1 T2 A2 T3 A3 T4 A4 T5 A5)]/\k=2)\/(vs=[.one (.sl Gl [(Ew Ta Aa Tb Ab Tc Ac),(Ex T1 A1 T2 A2 T3 A3 T4 A4 T5 A5)]),.one (.int .i64 2),.one (.int .i64 1),.one (.Ag 2 0 0),.one (.Ag 3 0 0)]/\h=[.var 0 (HM Ta Aa Tb Ab Tc Ac),.var 0 (HN T1 A1 T2 A2 T3 A3 T4 A4 T5 A5)]/\k=1)\/(vs=[.one (.sl Gl [(Ew Ta Aa Tb Ab Tc Ac),(Ex T1 A1 T2 A2 T3 A3 T4 A4 T5 A5)]),.one (.int .i64 2),.one (.int .i64 2),.one (.Ag 2 0 0),.one (.Ag 3 0 0)]/\h=[.var 0 (HM Ta Aa Tb Ab Tc Ac),.var 0 (HN T1 A1 T2 A2 T3 A3 T4 A4 T5 A5)]/\k=0)
 refine⟨[],[9,10,11,2,3],[2,3],o,⟨2,by rw[a];exact .inl ⟨rfl,rfl,rfl⟩⟩,?_⟩;intro vs h u m;rw[a] at m;rcases m with⟨rfl,rfl,d⟩ |⟨rfl,rfl,d⟩ |⟨rfl,rfl,d⟩
 ·conv=>cbv
  refine BG ?_;conv=>cbv
  refine .inr ?_;refine⟨(Ew Ta Aa Tb Ab Tc Ac),fun _=>⟨by omega,rfl⟩,?_⟩;try conv=>cbv
  refine BG ?_;conv=>cbv
  refine AO ?_;conv=>cbv
  refine AO ?_;conv=>cbv
  intro c b;conv=>cbv
  refine AN ?_;obtain rfl:c=1:=b;refine⟨1,?_,?_⟩
  ·omega
  rw[a];exact .inr (.inl ⟨rfl,rfl,rfl⟩)
 ·conv=>cbv
  refine BG ?_;conv=>cbv
  refine .inr ?_;refine⟨(Ex T1 A1 T2 A2 T3 A3 T4 A4 T5 A5),fun _=>⟨by omega,rfl⟩,?_⟩;try conv=>cbv
  refine AO ?_;conv=>cbv
  refine BG ?_;conv=>cbv
  refine BG ?_;conv=>cbv
  refine AB q ca ?_;conv=>cbv
  refine AO ?_;conv=>cbv
  intro c b;conv=>cbv
  refine AN ?_;obtain rfl:c=2:=b;refine⟨0,?_,?_⟩
  ·omega
  rw[a];exact .inr (.inr ⟨rfl,rfl,rfl⟩)
 conv=>cbv
 refine AO ?_;conv=>cbv
 exact AD ⟨t2,trivial⟩
theorem KC {Td Te Gr:List LR} {Ad Ae Af:LR}:CF 79 [(Bj Ta Aa Tb Ab Tc Ac),(Bj Td Ad Te Ae Gr Af)] (.one (.bool true)):=by
 refine BH Tryz.func79 fun E u=>?_
 conv=>cbv
 refine⟨[(Ew Ta Aa Tb Ab Tc Ac),(Ew Td Ad Te Ae Gr Af)],fun _=>⟨rfl,by decide,rfl,⟨rfl,⟨rfl,rfl,rfl,rfl,rfl,rfl,rfl,rfl,rfl,rfl,rfl,rfl,rfl,rfl,rfl,rfl,rfl,rfl,rfl,rfl,rfl,trivial⟩,⟨rfl,⟨rfl,rfl,rfl,rfl,rfl,rfl,rfl,rfl,rfl,rfl,rfl,rfl,rfl,rfl,rfl,rfl,rfl,rfl,rfl,rfl,rfl,trivial⟩,trivial⟩⟩⟩,.inr ?_⟩;try conv=>cbv
 rintro l ⟨j,f10⟩;conv=>cbv
 obtain rfl:l=2:=j;refine .inr ?_;obtain⟨o,a⟩:=xJ fun vs h k=>(vs=[.one (.sl Gl [(Ew Ta Aa Tb Ab Tc Ac),(Ew Td Ad Te Ae Gr Af)]),.one (.int .i64 2),.one (.int .i64 0),.one (.Ag 2 0 0),.one (.Ag 3 0 0)]/\h=[.var 0 (HM Ta Aa Tb Ab Tc Ac),.var 0 (HM Td Ad Te Ae Gr Af)]/\k=2)\/(vs=[.one (.sl Gl [(Ew Ta Aa Tb Ab Tc Ac),(Ew Td Ad Te Ae Gr Af)]),.one (.int .i64 2),.one (.int .i64 1),.one (.Ag 2 0 0),.one (.Ag 3 0 0)]/\h=[.var 0 (HM Ta Aa Tb Ab Tc Ac),.var 0 (HM Td Ad Te Ae Gr Af)]/\k=1)\/(vs=[.one (.sl Gl [(Ew Ta Aa Tb Ab Tc Ac),(Ew Td Ad Te Ae Gr Af)]),.one (.int .i64 2),.one (.int .i64 2),.one (.Ag 2 0 0),.one (.Ag 3 0 0)]/\h=[.var 0 (HM Ta Aa Tb Ab Tc Ac),.var 0 (HM Td Ad Te Ae Gr Af)]/\k=0)
 refine⟨[],[9,10,11,2,3],[2,3],o,⟨2,by rw[a];exact .inl ⟨rfl,rfl,rfl⟩⟩,?_⟩;intro vs h q m;rw[a] at m;rcases m with⟨rfl,rfl,d⟩ |⟨rfl,rfl,d⟩ |⟨rfl,rfl,d⟩
 ·conv=>cbv
  refine BG ?_;conv=>cbv
  refine .inr ?_;refine⟨(Ew Ta Aa Tb Ab Tc Ac),fun _=>⟨by omega,rfl⟩,?_⟩;try conv=>cbv
  refine BG ?_;conv=>cbv
  refine AO ?_;conv=>cbv
  refine AO ?_;conv=>cbv
  intro c b;conv=>cbv
  refine AN ?_;obtain rfl:c=1:=b;refine⟨1,?_,?_⟩
  ·omega
  rw[a];exact .inr (.inl ⟨rfl,rfl,rfl⟩)
 ·conv=>cbv
  refine BG ?_;conv=>cbv
  refine .inr ?_;refine⟨(Ew Td Ad Te Ae Gr Af),fun _=>⟨by omega,rfl⟩,?_⟩;try conv=>cbv
  refine BG ?_;conv=>cbv
  refine AO ?_;conv=>cbv
  refine AO ?_;conv=>cbv
  intro c b;conv=>cbv
  refine AN ?_;obtain rfl:c=2:=b;refine⟨0,?_,?_⟩
  ·omega
  rw[a];exact .inr (.inr ⟨rfl,rfl,rfl⟩)
 conv=>cbv
 refine AO ?_;conv=>cbv
 exact AD ⟨t2,trivial⟩
end Go.Abs
namespace Go.Abs
open Go.RowKit
variable {A1 A2 A3 A4 A5 BL BN BP BW Aa Ab HV HW Ac Ad Ae EH EV DZ EW EX EY EZ Ea Eb Ec Ed FB D6 FC FD FE FF FG FH FI FJ Dv Dw FK KV KW G9 HA Hz Ax Ay:LR} {T1 T2 T3 T4 T5 BM BO BQ BX Ta Tb HZ Ha Tc Td Te EI Ef Db Eg Eh Ei Ej Ek Em En Eo FL D8 FM FN FO FP FQ FR FT FU Dy Dz FV KZ Ka HB HC H7 Tx Ty:List LR} {TT:List (List Rat)->Prop} {br e k1 k2 r:Int} {ka kb kn:Nat} {vn xa xb ya yb:Re} {w:List (List Rat)}
theorem bB (F:F9 TT w) (ha:Vm TT w 47000000 ka ka BM BL BO BN xa ya) (hb:Vm TT w 47000000 kb kb BQ BP BX BW xb yb) (m:ka+kb+41<=690):∃j h b a,Vm TT w 47000000 (ka+kb+1) (ka+kb+1) j h b a (xa+xb) (ya+yb)/\BU Tryz.prog 72 [.one (.Ag 0 0 0),.agg (AG BM BL BO BN),.agg (AG BQ BP BX BW)] (.var 0 [.int .i64 0]) (.agg (AG j h b a)):=by
 obtain⟨Bk,Bi,B7,B6,d,c⟩:=Tj F ha hb;refine⟨Bk,Bi,B7,B6,d.mono (by omega) (by omega),?_⟩;refine CX Tryz.func72 fun E l=>?_
 conv=>cbv
 refine AB l c ?_;conv=>cbv
 refine Ah 0 0 l LW ?_;try conv=>cbv
 refine fun _=>⟨⟨⟨⟨rfl,rfl,rfl,rfl,rfl,trivial⟩,trivial⟩,rfl,by simp⟩,rfl⟩
theorem bC (F:F9 TT w) (ha:Vm TT w 47000000 ka ka BM BL BO BN xa ya) (m:Nm TT w 47000000 kn BQ BP vn) (o:ka+kn+41<=690):∃j h b a,Vm TT w 47000000 (ka+kn+1) (ka+kn+1) j h b a (xa*vn) (ya*vn)/\BU Tryz.prog 73 [.one (.Ag 0 0 0),.agg (AG BM BL BO BN),.agg (AK BQ BP)] (.var 0 [.int .i64 0]) (.agg (AG j h b a)):=by
 obtain⟨BX,BW,Bk,Bi,d,c⟩:=bG F ha m;refine⟨BX,BW,Bk,Bi,d.mono (by omega) (by omega),?_⟩;refine CX Tryz.func73 fun E l=>?_
 conv=>cbv
 refine AB l c ?_;conv=>cbv
 refine Ah 0 0 l LW ?_;try conv=>cbv
 refine fun _=>⟨⟨⟨⟨rfl,rfl,rfl,rfl,rfl,trivial⟩,trivial⟩,rfl,by simp⟩,rfl⟩
theorem TZ (h:CF 106 [.agg (AK T1 A1)] (.AF [(true,(AK T2 A2)),(false,[.int .i64 0])])):BU Tryz.prog 76 [.one (.Ag 0 0 0),.agg (AK T1 A1)] (.var 0 [.int .i64 0]) (.agg (AK T2 A2)):=by
 refine CX Tryz.func76 fun E a=>?_
 conv=>cbv
 refine AB a h ?_;conv=>cbv
 refine Ah 0 0 a IQ ?_;try conv=>cbv
 refine fun _=>⟨⟨⟨t3,trivial⟩,rfl,by simp⟩,rfl⟩
theorem mJ:CF 75 [.agg (AK T1 A1),.one (.int .i64 1)] (.agg (AK T1 A1)):=by
 refine BH Tryz.func75 fun E a=>?_
 conv=>cbv
 refine AO ?_;conv=>cbv
 exact AD ⟨t3,trivial⟩
theorem mI (h:CF 105 [.agg (AK T1 A1)] (.agg (AK T2 A2))):CF 75 [.agg (AK T1 A1),.one (.int .i64 (-1))] (.agg (AK T2 A2)):=by
 refine BH Tryz.func75 fun E a=>?_
 conv=>cbv
 refine BG ?_;conv=>cbv
 refine AB a h ?_;conv=>cbv
 exact AD ⟨t3,trivial⟩
theorem mY (F:Fl TT w) (ha:Vm TT w 2100 ka ka BM BL BO BN xa ya) (hb:Vm TT w 2100 kb kb BQ BP BX BW xb yb) (m:ka+kb+21<=43400000):∃j h b a,Vm TT w 2100 (ka+kb+1) (ka+kb+1) j h b a (xa+xb) (ya+yb)/\BU Tryz.prog 72 [.one (.Ag 0 0 0),.agg (AG BM BL BO BN),.agg (AG BQ BP BX BW)] (.var 0 [.int .i64 0]) (.agg (AG j h b a)):=by
 obtain⟨Bk,Bi,B7,B6,d,c⟩:=Tj F ha hb;refine⟨Bk,Bi,B7,B6,d.mono (by omega) (by omega),?_⟩;refine CX Tryz.func72 fun E l=>?_
 conv=>cbv
 refine AB l c ?_;conv=>cbv
 refine Ah 0 0 l LW ?_;try conv=>cbv
 refine fun _=>⟨⟨⟨⟨rfl,rfl,rfl,rfl,rfl,trivial⟩,trivial⟩,rfl,by simp⟩,rfl⟩
theorem mZ (F:Fl TT w) (ha:Vm TT w 2100 ka ka BM BL BO BN xa ya) (m:Nm TT w 2100 kn BQ BP vn) (o:ka+kn+21<=43400000):∃j h b a,Vm TT w 2100 (ka+kn+1) (ka+kn+1) j h b a (xa*vn) (ya*vn)/\BU Tryz.prog 73 [.one (.Ag 0 0 0),.agg (AG BM BL BO BN),.agg (AK BQ BP)] (.var 0 [.int .i64 0]) (.agg (AG j h b a)):=by
 obtain⟨BX,BW,Bk,Bi,d,c⟩:=bG F ha m;refine⟨BX,BW,Bk,Bi,d.mono (by omega) (by omega),?_⟩;refine CX Tryz.func73 fun E l=>?_
 conv=>cbv
 refine AB l c ?_;conv=>cbv
 refine Ah 0 0 l LW ?_;try conv=>cbv
 refine fun _=>⟨⟨⟨⟨rfl,rfl,rfl,rfl,rfl,trivial⟩,trivial⟩,rfl,by simp⟩,rfl⟩
theorem lx (F:Fl TT w) {Bk B7 F1 Gq:List LR} {Bi B6 Fw Gn:LR} {va vb vc vp vq vr xx yx:Re} {kc kq kr kx:Nat} (ha:Nm TT w 2100 1 BM BL va) (hb:Nm TT w 2100 kb BO BN vb) (hc:Nm TT w 2100 kc BQ BP vc) (hp:Nm TT w 2100 1 BX BW vp) (hq:Nm TT w 2100 kq Bk Bi vq) (hr:Nm TT w 2100 kr B7 B6 vr) (hx:Vm TT w 2100 kx kx F1 Fw Gq Gn xx yx) (hd:va*vq-vb*vp≠0) (a5:(vc*vq-vb*vr)*AT (va*vq-vb*vp)=xx) (a6:(va*vr-vc*vp)*AT (va*vq-vb*vp)=yx) (cE:CF 18 [(Bt BM BL BO BN BQ BP T1 A1 T2 A2),(Bt BX BW Bk Bi B7 B6 T3 A3 T4 A4),.one (.int .i64 0)] (.one (.int .i64 0))) (hM:24*kb+kc+24*kq+kr+155<=43400000):∃U0 B0 m l,Vm TT w 2100 (kx) (kx) U0 B0 m l (xx) (yx)/\CF 15 [(Bt BM BL BO BN BQ BP T1 A1 T2 A2),(Bt BX BW Bk Bi B7 B6 T3 A3 T4 A4),.one (.int .i64 0)] (.AF [(true,(AG U0 B0 m l)),(false,[.int .i64 0])]):=by
 obtain⟨ai,a7,J,o⟩:=G6 F ha hq;obtain⟨aj,a8,L,q⟩:=G6 F hb hp;obtain⟨ak,aa,M,u⟩:=I2 F J L;have j:=M.cast (y:=va*vq-vb*vp) (by grind);obtain⟨an,ab,N,z⟩:=G6 F hc hq;obtain⟨ao,ad,O,A⟩:=G6 F hb hr;obtain⟨aq,ae,R,B⟩:=I2 F N O;obtain⟨d,b,S,C⟩:=NG F R j hd (by omega);obtain⟨ar,af,T,D⟩:=G6 F ha hr;obtain⟨au,ag,U,G⟩:=G6 F hc hp;obtain⟨av,ah,W,H⟩:=I2 F T U;obtain⟨h,c,Y,I⟩:=NG F W j hd (by omega);have Z:Vm _ w 2100 (24*kb+kc+24*kq+kr+135) (24*kb+kc+24*kq+kr+135) d b h c _ _:=⟨S.mono (by omega),Y.mono (by omega)⟩;have a1:=Z.shrink hx (by rw[<-a5]) (by rw[<-a6]);have a2:=a1.cast (x':=xx) (y':=yx) (by rw[<-a5]) (by rw[<-a6])
 refine⟨d,b,h,c,a2.mono (by omega) (by omega),?_⟩;refine BH Tryz.func15 fun E a=>?_
 conv=>cbv
 refine AB a cE ?_;conv=>cbv
 refine AO ?_;conv=>cbv
 refine BG ?_;conv=>cbv
 refine BG ?_;conv=>cbv
 refine Br ?_;refine Ah 35 1 a o ?_;try conv=>cbv
 refine Ah 35 1 a q ?_;try conv=>cbv
 refine Ah 35 1 a u ?_;try conv=>cbv
 refine Br ?_;refine Ah 35 1 a z ?_;try conv=>cbv
 refine Ah 35 1 a A ?_;try conv=>cbv
 refine Ah 35 1 a B ?_;try conv=>cbv
 refine Ah 35 1 a C ?_;try conv=>cbv
 refine Ah 35 1 a D ?_;try conv=>cbv
 refine Ah 35 1 a G ?_;try conv=>cbv
 refine Ah 35 1 a H ?_;try conv=>cbv
 refine Ah 35 1 a I ?_;try conv=>cbv
 refine Br ?_;refine Ah 35 1 a PL ?_;try conv=>cbv
 exact AD ⟨⟨rfl,rfl,rfl,rfl,rfl,trivial⟩,t2,trivial⟩
theorem Je (he:e≠0) (d:CF 18 [.agg (Dg k1 Ef EV Db DZ Eg EW Eh EX Ei EY Ej EZ Ek Ea Em Eb En Ec Eo Ed),.agg (Dg k2 FL FB D8 D6 FM FC FN FD FO FE FP FF FQ FG FR FH FT FI FU FJ),.one (.int .i64 br)] (.one (.int .i64 e))):CF 15 [.agg (Dg k1 Ef EV Db DZ Eg EW Eh EX Ei EY Ej EZ Ek Ea Em Eb En Ec Eo Ed),.agg (Dg k2 FL FB D8 D6 FM FC FN FD FO FE FP FF FQ FG FR FH FT FI FU FJ),.one (.int .i64 br)] (.AF [(true,(AG [] [] [] [])),(false,[.int .i64 e])]):=by
 refine BH Tryz.func15 fun E h=>?_
 conv=>cbv
 refine AB h d ?_;conv=>cbv
 intro c a;conv=>cbv
 cases c <;> conv=>cbv
 ·have b:=C8 a;exact False.elim (by omega)
 have b:=DA a;exact AD ⟨⟨rfl,AU,AU,AU,AU,trivial⟩,t2,trivial⟩
theorem lv (j:CF 18 [(Bt T1 A1 T2 A2 T3 A3 T4 A4 T5 A5),(Bj Ta Aa Tb Ab Tc Ac),.one (.int .i64 br)] (.one (.int .i64 0))) (l:CF 77 [.agg (AY T1 A1 T2 A2 T3 A3),.agg (AG Ta Aa Tb Ab)] (.AF [(true,(AG Dz Dw Dy Dv)),(false,[.int .i64 0])])) (b:BU Tryz.prog 78 [.one (.Ag 0 0 0),.agg (AG Dz Dw Dy Dv),.agg (AG Ta Aa Tb Ab)] (.var 0 [.int .i64 0]) (.agg (AK EI EH))) (c:BU Tryz.prog 65 [.one (.Ag 0 0 0),.agg (AK Tc Ac),.agg (AK EI EH)] (.var 0 [.int .i64 0]) (.agg (AK Db DZ))) (d:BU Tryz.prog 70 [.one (.Ag 0 0 0),.agg (AG T4 A4 T5 A5)] (.var 0 [.int .i64 0]) (.agg (AK D8 D6))) (h:BU Tryz.prog 67 [.one (.Ag 0 0 0),.agg (AK Db DZ),.agg (AK D8 D6)] (.var 0 [.int .i64 0]) (.agg (AK FV FK))) (o:BU Tryz.prog 76 [.one (.Ag 0 0 0),.agg (AK FV FK)] (.var 0 [.int .i64 0]) (.agg (AK KZ KV))) (u:CF 75 [.agg (AK KZ KV),.one (.int .i64 br)] (.agg (AK Ka KW))) (q:BU Tryz.prog 73 [.one (.Ag 0 0 0),.agg (AG T4 A4 T5 A5),.agg (AK Ka KW)] (.var 0 [.int .i64 0]) (.agg (AG HB G9 HC HA))) (m:BU Tryz.prog 72 [.one (.Ag 0 0 0),.agg (AG Dz Dw Dy Dv),.agg (AG HB G9 HC HA)] (.var 0 [.int .i64 0]) (.agg (AG Tx Ax Ty Ay))):CF 15 [(Bt T1 A1 T2 A2 T3 A3 T4 A4 T5 A5),(Bj Ta Aa Tb Ab Tc Ac),.one (.int .i64 br)] (.AF [(true,(AG Tx Ax Ty Ay)),(false,[.int .i64 0])]):=by
 refine BH Tryz.func15 fun E a=>?_
 conv=>cbv
 refine AB a j ?_;conv=>cbv
 refine AO ?_;conv=>cbv
 refine BG ?_;conv=>cbv
 refine AO ?_;conv=>cbv
 refine AO ?_;conv=>cbv
 refine Br ?_;refine AO ?_;conv=>cbv
 refine .inr ?_;refine AB a l ?_;conv=>cbv
 refine AO ?_;conv=>cbv
 refine Ah 35 1 a b ?_;try conv=>cbv
 refine Ah 35 1 a c ?_;try conv=>cbv
 refine Br ?_;refine Ah 35 1 a d ?_;try conv=>cbv
 refine Ah 35 1 a h ?_;try conv=>cbv
 refine Ah 35 1 a o ?_;try conv=>cbv
 refine AB a u ?_;conv=>cbv
 refine Ah 35 1 a q ?_;try conv=>cbv
 refine Ah 35 1 a m ?_;try conv=>cbv
 refine Ah 35 1 a PL ?_;try conv=>cbv
 refine Br ?_;exact AD ⟨⟨rfl,rfl,rfl,rfl,rfl,trivial⟩,t2,trivial⟩
theorem lu (j:CF 18 [(Bj Ta Aa Tb Ab Tc Ac),(Bt T1 A1 T2 A2 T3 A3 T4 A4 T5 A5),.one (.int .i64 br)] (.one (.int .i64 0))) (l:CF 77 [.agg (AY T1 A1 T2 A2 T3 A3),.agg (AG Ta Aa Tb Ab)] (.AF [(true,(AG Dz Dw Dy Dv)),(false,[.int .i64 0])])) (b:BU Tryz.prog 78 [.one (.Ag 0 0 0),.agg (AG Dz Dw Dy Dv),.agg (AG Ta Aa Tb Ab)] (.var 0 [.int .i64 0]) (.agg (AK EI EH))) (c:BU Tryz.prog 65 [.one (.Ag 0 0 0),.agg (AK Tc Ac),.agg (AK EI EH)] (.var 0 [.int .i64 0]) (.agg (AK Db DZ))) (d:BU Tryz.prog 70 [.one (.Ag 0 0 0),.agg (AG T4 A4 T5 A5)] (.var 0 [.int .i64 0]) (.agg (AK D8 D6))) (h:BU Tryz.prog 67 [.one (.Ag 0 0 0),.agg (AK Db DZ),.agg (AK D8 D6)] (.var 0 [.int .i64 0]) (.agg (AK FV FK))) (o:BU Tryz.prog 76 [.one (.Ag 0 0 0),.agg (AK FV FK)] (.var 0 [.int .i64 0]) (.agg (AK KZ KV))) (u:CF 75 [.agg (AK KZ KV),.one (.int .i64 br)] (.agg (AK Ka KW))) (q:BU Tryz.prog 73 [.one (.Ag 0 0 0),.agg (AG T4 A4 T5 A5),.agg (AK Ka KW)] (.var 0 [.int .i64 0]) (.agg (AG HB G9 HC HA))) (m:BU Tryz.prog 72 [.one (.Ag 0 0 0),.agg (AG Dz Dw Dy Dv),.agg (AG HB G9 HC HA)] (.var 0 [.int .i64 0]) (.agg (AG Tx Ax Ty Ay))):CF 15 [(Bj Ta Aa Tb Ab Tc Ac),(Bt T1 A1 T2 A2 T3 A3 T4 A4 T5 A5),.one (.int .i64 br)] (.AF [(true,(AG Tx Ax Ty Ay)),(false,[.int .i64 0])]):=by
 refine BH Tryz.func15 fun E a=>?_
 conv=>cbv
 refine AB a j ?_;conv=>cbv
 refine AO ?_;conv=>cbv
 refine AO ?_;conv=>cbv
 refine BG ?_;conv=>cbv
 refine AO ?_;conv=>cbv
 refine Br ?_;refine BG ?_;conv=>cbv
 refine .inr ?_;refine Br ?_;refine AB a l ?_;conv=>cbv
 refine AO ?_;conv=>cbv
 refine Ah 35 1 a b ?_;try conv=>cbv
 refine Ah 35 1 a c ?_;try conv=>cbv
 refine Br ?_;refine Ah 35 1 a d ?_;try conv=>cbv
 refine Ah 35 1 a h ?_;try conv=>cbv
 refine Ah 35 1 a o ?_;try conv=>cbv
 refine AB a u ?_;conv=>cbv
 refine Ah 35 1 a q ?_;try conv=>cbv
 refine Ah 35 1 a m ?_;try conv=>cbv
 refine Ah 35 1 a PL ?_;try conv=>cbv
 refine Br ?_;exact AD ⟨⟨rfl,rfl,rfl,rfl,rfl,trivial⟩,t2,trivial⟩
theorem lr {j l c G H F J I C D:List LR} {d h b u z q B A m o:LR} (cE:CF 18 [(Bj Ta Aa Tb Ab Tc Ac),(Bj Td Ad Te Ae EI EH),.one (.int .i64 br)] (.one (.int .i64 0))) (c1:BU Tryz.prog 69 [.one (.Ag 0 0 0),.agg (AG Td Ad Te Ae),.agg (AG Ta Aa Tb Ab)] (.var 0 [.int .i64 0]) (.agg (AG j d l h))) (c2:BU Tryz.prog 70 [.one (.Ag 0 0 0),.agg (AG j d l h)] (.var 0 [.int .i64 0]) (.agg (AK c b))) (R:BU Tryz.prog 71 [.one (.Ag 0 0 0),.agg (AK c b),.agg (AK Tc Ac)] (.var 0 [.int .i64 0]) (.agg (AK G u))) (S:BU Tryz.prog 65 [.one (.Ag 0 0 0),.agg (AK G u),.agg (AK EI EH)] (.var 0 [.int .i64 0]) (.agg (AK H z))) (T:BU Tryz.prog 71 [.one (.Ag 0 0 0),.agg (AK c b),.agg (AK c b)] (.var 0 [.int .i64 0]) (.agg (AK F q))) (U:BU Tryz.prog 67 [.one (.Ag 0 0 0),.agg (AK H z),.agg (AK F q)] (.var 0 [.int .i64 0]) (.agg (AK H7 Hz))) (W:BU Tryz.prog 66 [.one (.Ag 0 0 0),.agg (AK H7 Hz),.agg (AK H7 Hz)] (.var 0 [.int .i64 0]) (.agg (AK J B))) (Y:BU Tryz.prog 66 [.one (.Ag 0 0 0),.agg (AK c b),.agg (AK J B)] (.var 0 [.int .i64 0]) (.agg (AK I A))) (Z:BU Tryz.prog 65 [.one (.Ag 0 0 0),.agg (AK Tc Ac),.agg (AK I A)] (.var 0 [.int .i64 0]) (.agg (AK Db DZ))) (L:BU Tryz.prog 73 [.one (.Ag 0 0 0),.agg (AG j d l h),.agg (AK H7 Hz)] (.var 0 [.int .i64 0]) (.agg (AG HZ HV Ha HW))) (M:BU Tryz.prog 72 [.one (.Ag 0 0 0),.agg (AG Ta Aa Tb Ab),.agg (AG HZ HV Ha HW)] (.var 0 [.int .i64 0]) (.agg (AG Dz Dw Dy Dv))) (N:CF 74 [.agg (AG j d l h)] (.agg (AG C m D o))) (O:BU Tryz.prog 67 [.one (.Ag 0 0 0),.agg (AK Db DZ),.agg (AK c b)] (.var 0 [.int .i64 0]) (.agg (AK FV FK))) (cR:BU Tryz.prog 76 [.one (.Ag 0 0 0),.agg (AK FV FK)] (.var 0 [.int .i64 0]) (.agg (AK KZ KV))) (cT:CF 75 [.agg (AK KZ KV),.one (.int .i64 br)] (.agg (AK Ka KW))) (cS:BU Tryz.prog 73 [.one (.Ag 0 0 0),.agg (AG C m D o),.agg (AK Ka KW)] (.var 0 [.int .i64 0]) (.agg (AG HB G9 HC HA))) (cP:BU Tryz.prog 72 [.one (.Ag 0 0 0),.agg (AG Dz Dw Dy Dv),.agg (AG HB G9 HC HA)] (.var 0 [.int .i64 0]) (.agg (AG Tx Ax Ty Ay))):CF 15 [(Bj Ta Aa Tb Ab Tc Ac),(Bj Td Ad Te Ae EI EH),.one (.int .i64 br)] (.AF [(true,(AG Tx Ax Ty Ay)),(false,[.int .i64 0])]):=by
 refine BH Tryz.func15 fun E a=>?_
 conv=>cbv
 refine AB a cE ?_;conv=>cbv
 refine AO ?_;conv=>cbv
 refine AO ?_;conv=>cbv
 refine BG ?_;conv=>cbv
 refine BG ?_;conv=>cbv
 refine Br ?_;refine Ah 35 1 a c1 ?_;try conv=>cbv
 refine Ah 35 1 a c2 ?_;try conv=>cbv
 refine Ah 35 1 a R ?_;try conv=>cbv
 refine Ah 35 1 a S ?_;try conv=>cbv
 refine Ah 35 1 a T ?_;try conv=>cbv
 refine Ah 35 1 a U ?_;try conv=>cbv
 refine Br ?_;refine Ah 35 1 a W ?_;try conv=>cbv
 refine Ah 35 1 a Y ?_;try conv=>cbv
 refine Ah 35 1 a Z ?_;try conv=>cbv
 refine Br ?_;refine Ah 35 1 a L ?_;try conv=>cbv
 refine Ah 35 1 a M ?_;try conv=>cbv
 refine Br ?_;refine AB a N ?_;conv=>cbv
 refine Ah 35 1 a O ?_;try conv=>cbv
 refine Ah 35 1 a cR ?_;try conv=>cbv
 refine AB a cT ?_;conv=>cbv
 refine Ah 35 1 a cS ?_;try conv=>cbv
 refine Ah 35 1 a cP ?_;try conv=>cbv
 refine Ah 35 1 a PL ?_;try conv=>cbv
 refine Br ?_;exact AD ⟨⟨rfl,rfl,rfl,rfl,rfl,trivial⟩,t2,trivial⟩
theorem LB (cf:CF 79 [.agg (Dg k1 Ef EV Db DZ Eg EW Eh EX Ei EY Ej EZ Ek Ea Em Eb En Ec Eo Ed),.agg (Dg k2 FL FB D8 D6 FM FC FN FD FO FE FP FF FQ FG FR FH FT FI FU FJ)] (.one (.bool true))) (c1:CF 80 [.agg (Dg k1 Ef EV Db DZ Eg EW Eh EX Ei EY Ej EZ Ek Ea Em Eb En Ec Eo Ed),.agg (AG Tx Ax Ty Ay)] (.one (.bool false))):CF 16 [.agg (Dg k1 Ef EV Db DZ Eg EW Eh EX Ei EY Ej EZ Ek Ea Em Eb En Ec Eo Ed),.agg (Dg k2 FL FB D8 D6 FM FC FN FD FO FE FP FF FQ FG FR FH FT FI FU FJ),.agg (AG Tx Ax Ty Ay)] (.AF [(false,[.int .i64 0]),(false,[.int .i64 13])]):=by
 refine BH Tryz.func16 fun E a=>?_
 conv=>cbv
 refine .inr ?_;refine AB a cf ?_;conv=>cbv
 refine AO ?_;conv=>cbv
 refine AB a c1 ?_;conv=>cbv
 refine BG ?_;conv=>cbv
 exact AD ⟨t2,t2,trivial⟩
theorem On (cf:CF 79 [.agg (Dg k1 Ef EV Db DZ Eg EW Eh EX Ei EY Ej EZ Ek Ea Em Eb En Ec Eo Ed),.agg (Dg k2 FL FB D8 D6 FM FC FN FD FO FE FP FF FQ FG FR FH FT FI FU FJ)] (.one (.bool true))) (c1:CF 80 [.agg (Dg k1 Ef EV Db DZ Eg EW Eh EX Ei EY Ej EZ Ek Ea Em Eb En Ec Eo Ed),.agg (AG Tx Ax Ty Ay)] (.one (.bool true))) (c2:CF 80 [.agg (Dg k2 FL FB D8 D6 FM FC FN FD FO FE FP FF FQ FG FR FH FT FI FU FJ),.agg (AG Tx Ax Ty Ay)] (.one (.bool false))):CF 16 [.agg (Dg k1 Ef EV Db DZ Eg EW Eh EX Ei EY Ej EZ Ek Ea Em Eb En Ec Eo Ed),.agg (Dg k2 FL FB D8 D6 FM FC FN FD FO FE FP FF FQ FG FR FH FT FI FU FJ),.agg (AG Tx Ax Ty Ay)] (.AF [(false,[.int .i64 0]),(false,[.int .i64 13])]):=by
 refine BH Tryz.func16 fun E a=>?_
 conv=>cbv
 refine .inr ?_;refine AB a cf ?_;conv=>cbv
 refine AO ?_;conv=>cbv
 refine AB a c1 ?_;conv=>cbv
 refine AO ?_;conv=>cbv
 refine AB a c2 ?_;conv=>cbv
 refine BG ?_;conv=>cbv
 exact AD ⟨t2,t2,trivial⟩
theorem Ra {T6 T7 T8 T9 T0:List LR} {A6 A7 A8 A9 A0:LR} (cf:CF 79 [(Bt T1 A1 T2 A2 T3 A3 T4 A4 T5 A5),(Bt T6 A6 T7 A7 T8 A8 T9 A9 T0 A0)] (.one (.bool true))) (c1:CF 80 [(Bt T1 A1 T2 A2 T3 A3 T4 A4 T5 A5),.agg (AG Tx Ax Ty Ay)] (.one (.bool true))) (c2:CF 80 [(Bt T6 A6 T7 A7 T8 A8 T9 A9 T0 A0),.agg (AG Tx Ax Ty Ay)] (.one (.bool true))) (b:CF 81 [.agg (AY T1 A1 T2 A2 T3 A3),.agg (AY T6 A6 T7 A7 T8 A8)] (.one (.int .i64 e))):CF 16 [(Bt T1 A1 T2 A2 T3 A3 T4 A4 T5 A5),(Bt T6 A6 T7 A7 T8 A8 T9 A9 T0 A0),.agg (AG Tx Ax Ty Ay)] (.AF [(false,[.int .i64 0]),(false,[.int .i64 e])]):=by
 refine BH Tryz.func16 fun E a=>?_
 conv=>cbv
 refine .inr ?_;refine AB a cf ?_;conv=>cbv
 refine AO ?_;conv=>cbv
 refine AB a c1 ?_;conv=>cbv
 refine AO ?_;conv=>cbv
 refine AB a c2 ?_;conv=>cbv
 refine AO ?_;conv=>cbv
 refine BG ?_;conv=>cbv
 refine BG ?_;conv=>cbv
 refine AB a b ?_;conv=>cbv
 exact AD ⟨t2,t2,trivial⟩
theorem Xy (he:e≠0) (cf:CF 79 [(Bt T1 A1 T2 A2 T3 A3 T4 A4 T5 A5),(Bj Ta Aa Tb Ab Tc Ac)] (.one (.bool true))) (c1:CF 80 [(Bt T1 A1 T2 A2 T3 A3 T4 A4 T5 A5),.agg (AG Tx Ax Ty Ay)] (.one (.bool true))) (c2:CF 80 [(Bj Ta Aa Tb Ab Tc Ac),.agg (AG Tx Ax Ty Ay)] (.one (.bool true))) (h:CF 82 [.agg (AY T1 A1 T2 A2 T3 A3),.agg (AG T4 A4 T5 A5),.agg (AY Ta Aa Tb Ab Tc Ac)] (.AF [(true,(Ct Dz Dw Dy Dv T4 A4 T5 A5 FV FK)),(false,[.int .i64 0])])) (j:CF 85 [.agg (Ct Dz Dw Dy Dv T4 A4 T5 A5 FV FK)] (.one (.int .i64 e))):CF 16 [(Bt T1 A1 T2 A2 T3 A3 T4 A4 T5 A5),(Bj Ta Aa Tb Ab Tc Ac),.agg (AG Tx Ax Ty Ay)] (.AF [(false,[.int .i64 0]),(false,[.int .i64 e])]):=by
 refine BH Tryz.func16 fun E b=>?_
 conv=>cbv
 refine .inr ?_;refine AB b cf ?_;conv=>cbv
 refine AO ?_;conv=>cbv
 refine AB b c1 ?_;conv=>cbv
 refine AO ?_;conv=>cbv
 refine AB b c2 ?_;conv=>cbv
 refine AO ?_;conv=>cbv
 refine BG ?_;conv=>cbv
 refine AO ?_;conv=>cbv
 refine .inr ?_;refine BG ?_;conv=>cbv
 refine .inr ?_;refine AB b h ?_;conv=>cbv
 refine BG ?_;conv=>cbv
 refine .inr ?_;refine AB b j ?_;conv=>cbv
 intro d a;conv=>cbv
 cases d <;> conv=>cbv
 ·have c:=C8 a;exact False.elim (by omega)
 have c:=DA a;exact AD ⟨t2,t2,trivial⟩
theorem ji (cf:CF 79 [(Bt T1 A1 T2 A2 T3 A3 T4 A4 T5 A5),(Bj Ta Aa Tb Ab Tc Ac)] (.one (.bool true))) (c1:CF 80 [(Bt T1 A1 T2 A2 T3 A3 T4 A4 T5 A5),.agg (AG Tx Ax Ty Ay)] (.one (.bool true))) (c2:CF 80 [(Bj Ta Aa Tb Ab Tc Ac),.agg (AG Tx Ax Ty Ay)] (.one (.bool true))) (b:CF 82 [.agg (AY T1 A1 T2 A2 T3 A3),.agg (AG T4 A4 T5 A5),.agg (AY Ta Aa Tb Ab Tc Ac)] (.AF [(true,(Ct Dz Dw Dy Dv T4 A4 T5 A5 FV FK)),(false,[.int .i64 0])])) (c:CF 85 [.agg (Ct Dz Dw Dy Dv T4 A4 T5 A5 FV FK)] (.one (.int .i64 0))) (d:CF 89 [.agg (AG Tx Ax Ty Ay),.agg (AG Dz Dw Dy Dv)] (.AF [(true,(AG HB G9 HC HA)),(false,[.int .i64 0])])) (h:CF 87 [.agg (AG HB G9 HC HA),.agg (AG T4 A4 T5 A5)] (.AF [(true,(AK H7 Hz)),(false,[.int .i64 0])])) (j:CF 90 [.agg (AK H7 Hz)] (.one (.int .i64 r))):CF 16 [(Bt T1 A1 T2 A2 T3 A3 T4 A4 T5 A5),(Bj Ta Aa Tb Ab Tc Ac),.agg (AG Tx Ax Ty Ay)] (.AF [(false,[.int .i64 r]),(false,[.int .i64 0])]):=by
 refine BH Tryz.func16 fun E a=>?_
 conv=>cbv
 refine .inr ?_;refine AB a cf ?_;conv=>cbv
 refine AO ?_;conv=>cbv
 refine AB a c1 ?_;conv=>cbv
 refine AO ?_;conv=>cbv
 refine AB a c2 ?_;conv=>cbv
 refine AO ?_;conv=>cbv
 refine BG ?_;conv=>cbv
 refine AO ?_;conv=>cbv
 refine .inr ?_;refine BG ?_;conv=>cbv
 refine .inr ?_;refine AB a b ?_;conv=>cbv
 refine BG ?_;conv=>cbv
 refine .inr ?_;refine AB a c ?_;conv=>cbv
 refine AO ?_;conv=>cbv
 refine AB a d ?_;conv=>cbv
 refine Ah 93 1 a HO ?_;try conv=>cbv
 refine AB a h ?_;conv=>cbv
 refine Ah 93 1 a Fa ?_;try conv=>cbv
 refine Br ?_;refine AO ?_;conv=>cbv
 refine AB a j ?_;conv=>cbv
 exact AD ⟨t2,t2,trivial⟩
theorem Xx (he:e≠0) (cf:CF 79 [(Bj Ta Aa Tb Ab Tc Ac),(Bt T1 A1 T2 A2 T3 A3 T4 A4 T5 A5)] (.one (.bool true))) (c1:CF 80 [(Bj Ta Aa Tb Ab Tc Ac),.agg (AG Tx Ax Ty Ay)] (.one (.bool true))) (c2:CF 80 [(Bt T1 A1 T2 A2 T3 A3 T4 A4 T5 A5),.agg (AG Tx Ax Ty Ay)] (.one (.bool true))) (h:CF 82 [.agg (AY T1 A1 T2 A2 T3 A3),.agg (AG T4 A4 T5 A5),.agg (AY Ta Aa Tb Ab Tc Ac)] (.AF [(true,(Ct Dz Dw Dy Dv T4 A4 T5 A5 FV FK)),(false,[.int .i64 0])])) (j:CF 85 [.agg (Ct Dz Dw Dy Dv T4 A4 T5 A5 FV FK)] (.one (.int .i64 e))):CF 16 [(Bj Ta Aa Tb Ab Tc Ac),(Bt T1 A1 T2 A2 T3 A3 T4 A4 T5 A5),.agg (AG Tx Ax Ty Ay)] (.AF [(false,[.int .i64 0]),(false,[.int .i64 e])]):=by
 refine BH Tryz.func16 fun E b=>?_
 conv=>cbv
 refine .inr ?_;refine AB b cf ?_;conv=>cbv
 refine AO ?_;conv=>cbv
 refine AB b c1 ?_;conv=>cbv
 refine AO ?_;conv=>cbv
 refine AB b c2 ?_;conv=>cbv
 refine AO ?_;conv=>cbv
 refine AO ?_;conv=>cbv
 refine .inr ?_;refine AO ?_;conv=>cbv
 refine .inr ?_;refine BG ?_;conv=>cbv
 refine .inr ?_;refine AB b h ?_;conv=>cbv
 refine BG ?_;conv=>cbv
 refine .inr ?_;refine AB b j ?_;conv=>cbv
 intro d a;conv=>cbv
 cases d <;> conv=>cbv
 ·have c:=C8 a;exact False.elim (by omega)
 have c:=DA a;exact AD ⟨t2,t2,trivial⟩
theorem jh (cf:CF 79 [(Bj Ta Aa Tb Ab Tc Ac),(Bt T1 A1 T2 A2 T3 A3 T4 A4 T5 A5)] (.one (.bool true))) (c1:CF 80 [(Bj Ta Aa Tb Ab Tc Ac),.agg (AG Tx Ax Ty Ay)] (.one (.bool true))) (c2:CF 80 [(Bt T1 A1 T2 A2 T3 A3 T4 A4 T5 A5),.agg (AG Tx Ax Ty Ay)] (.one (.bool true))) (b:CF 82 [.agg (AY T1 A1 T2 A2 T3 A3),.agg (AG T4 A4 T5 A5),.agg (AY Ta Aa Tb Ab Tc Ac)] (.AF [(true,(Ct Dz Dw Dy Dv T4 A4 T5 A5 FV FK)),(false,[.int .i64 0])])) (c:CF 85 [.agg (Ct Dz Dw Dy Dv T4 A4 T5 A5 FV FK)] (.one (.int .i64 0))) (d:CF 89 [.agg (AG Tx Ax Ty Ay),.agg (AG Dz Dw Dy Dv)] (.AF [(true,(AG HB G9 HC HA)),(false,[.int .i64 0])])) (h:CF 87 [.agg (AG HB G9 HC HA),.agg (AG T4 A4 T5 A5)] (.AF [(true,(AK H7 Hz)),(false,[.int .i64 0])])) (j:CF 90 [.agg (AK H7 Hz)] (.one (.int .i64 r))):CF 16 [(Bj Ta Aa Tb Ab Tc Ac),(Bt T1 A1 T2 A2 T3 A3 T4 A4 T5 A5),.agg (AG Tx Ax Ty Ay)] (.AF [(false,[.int .i64 r]),(false,[.int .i64 0])]):=by
 refine BH Tryz.func16 fun E a=>?_
 conv=>cbv
 refine .inr ?_;refine AB a cf ?_;conv=>cbv
 refine AO ?_;conv=>cbv
 refine AB a c1 ?_;conv=>cbv
 refine AO ?_;conv=>cbv
 refine AB a c2 ?_;conv=>cbv
 refine AO ?_;conv=>cbv
 refine AO ?_;conv=>cbv
 refine .inr ?_;refine AO ?_;conv=>cbv
 refine .inr ?_;refine BG ?_;conv=>cbv
 refine .inr ?_;refine AB a b ?_;conv=>cbv
 refine BG ?_;conv=>cbv
 refine .inr ?_;refine AB a c ?_;conv=>cbv
 refine AO ?_;conv=>cbv
 refine AB a d ?_;conv=>cbv
 refine Ah 93 1 a HO ?_;try conv=>cbv
 refine AB a h ?_;conv=>cbv
 refine Ah 93 1 a Fa ?_;try conv=>cbv
 refine Br ?_;refine AO ?_;conv=>cbv
 refine AB a j ?_;conv=>cbv
 exact AD ⟨t2,t2,trivial⟩
theorem Xv (he:e≠0) (cf:CF 79 [(Bj Ta Aa Tb Ab Tc Ac),(Bj Td Ad Te Ae EI EH)] (.one (.bool true))) (c1:CF 80 [(Bj Ta Aa Tb Ab Tc Ac),.agg (AG Tx Ax Ty Ay)] (.one (.bool true))) (c2:CF 80 [(Bj Td Ad Te Ae EI EH),.agg (AG Tx Ax Ty Ay)] (.one (.bool true))) (u:CF 83 [.agg (AY Ta Aa Tb Ab Tc Ac),.agg (AY Td Ad Te Ae EI EH)] (.one (.int .i64 e))):CF 16 [(Bj Ta Aa Tb Ab Tc Ac),(Bj Td Ad Te Ae EI EH),.agg (AG Tx Ax Ty Ay)] (.AF [(false,[.int .i64 0]),(false,[.int .i64 e])]):=by
 refine BH Tryz.func16 fun E d=>?_
 conv=>cbv
 refine .inr ?_;refine AB d cf ?_;conv=>cbv
 refine AO ?_;conv=>cbv
 refine AB d c1 ?_;conv=>cbv
 refine AO ?_;conv=>cbv
 refine AB d c2 ?_;conv=>cbv
 refine AO ?_;conv=>cbv
 refine AO ?_;conv=>cbv
 refine .inr ?_;refine AO ?_;conv=>cbv
 refine .inr ?_;refine AO ?_;conv=>cbv
 refine .inr ?_;refine AB d u ?_;conv=>cbv
 intro m a;conv=>cbv
 refine .inr ?_;cases m <;> conv=>cbv
 ·have h:=Ao a;intro o b;conv=>cbv
  refine .inr ?_;cases o <;> conv=>cbv
  ·have j:=Ao b;intro q c;conv=>cbv
   cases q <;> conv=>cbv
   ·have l:=C8 c;exact False.elim (by omega)
   have l:=DA c;exact AD ⟨t2,t2,trivial⟩
  have j:=BA b;exact False.elim (by omega)
 have h:=BA a;exact False.elim (by omega)
theorem Xw (he:e≠0) (cf:CF 79 [(Bj Ta Aa Tb Ab Tc Ac),(Bj Td Ad Te Ae EI EH)] (.one (.bool true))) (c1:CF 80 [(Bj Ta Aa Tb Ab Tc Ac),.agg (AG Tx Ax Ty Ay)] (.one (.bool true))) (c2:CF 80 [(Bj Td Ad Te Ae EI EH),.agg (AG Tx Ax Ty Ay)] (.one (.bool true))) (h:CF 83 [.agg (AY Ta Aa Tb Ab Tc Ac),.agg (AY Td Ad Te Ae EI EH)] (.one (.int .i64 0))) (j:CF 84 [.agg (AY Ta Aa Tb Ab Tc Ac),.agg (AY Td Ad Te Ae EI EH)] (.AF [(true,(Ct Dz Dw Dy Dv HZ HV Ha HW FV FK)),(false,[.int .i64 0])])) (l:CF 85 [.agg (Ct Dz Dw Dy Dv HZ HV Ha HW FV FK)] (.one (.int .i64 e))):CF 16 [(Bj Ta Aa Tb Ab Tc Ac),(Bj Td Ad Te Ae EI EH),.agg (AG Tx Ax Ty Ay)] (.AF [(false,[.int .i64 0]),(false,[.int .i64 e])]):=by
 refine BH Tryz.func16 fun E a=>?_
 conv=>cbv
 refine .inr ?_;refine AB a cf ?_;conv=>cbv
 refine AO ?_;conv=>cbv
 refine AB a c1 ?_;conv=>cbv
 refine AO ?_;conv=>cbv
 refine AB a c2 ?_;conv=>cbv
 refine AO ?_;conv=>cbv
 refine AO ?_;conv=>cbv
 refine .inr ?_;refine AO ?_;conv=>cbv
 refine .inr ?_;refine AO ?_;conv=>cbv
 refine .inr ?_;refine AB a h ?_;conv=>cbv
 refine BG ?_;conv=>cbv
 refine .inr ?_;refine AB a j ?_;conv=>cbv
 refine BG ?_;conv=>cbv
 refine .inr ?_;refine AB a l ?_;conv=>cbv
 intro d b;conv=>cbv
 cases d <;> conv=>cbv
 ·have c:=C8 b;exact False.elim (by omega)
 have c:=DA b;exact AD ⟨t2,t2,trivial⟩
theorem jg (cf:CF 79 [(Bj Ta Aa Tb Ab Tc Ac),(Bj Td Ad Te Ae EI EH)] (.one (.bool true))) (c1:CF 80 [(Bj Ta Aa Tb Ab Tc Ac),.agg (AG Tx Ax Ty Ay)] (.one (.bool true))) (c2:CF 80 [(Bj Td Ad Te Ae EI EH),.agg (AG Tx Ax Ty Ay)] (.one (.bool true))) (b:CF 83 [.agg (AY Ta Aa Tb Ab Tc Ac),.agg (AY Td Ad Te Ae EI EH)] (.one (.int .i64 0))) (c:CF 84 [.agg (AY Ta Aa Tb Ab Tc Ac),.agg (AY Td Ad Te Ae EI EH)] (.AF [(true,(Ct Dz Dw Dy Dv HZ HV Ha HW FV FK)),(false,[.int .i64 0])])) (d:CF 85 [.agg (Ct Dz Dw Dy Dv HZ HV Ha HW FV FK)] (.one (.int .i64 0))) (h:CF 89 [.agg (AG Tx Ax Ty Ay),.agg (AG Dz Dw Dy Dv)] (.AF [(true,(AG HB G9 HC HA)),(false,[.int .i64 0])])) (j:CF 87 [.agg (AG HB G9 HC HA),.agg (AG HZ HV Ha HW)] (.AF [(true,(AK H7 Hz)),(false,[.int .i64 0])])) (l:CF 90 [.agg (AK H7 Hz)] (.one (.int .i64 r))):CF 16 [(Bj Ta Aa Tb Ab Tc Ac),(Bj Td Ad Te Ae EI EH),.agg (AG Tx Ax Ty Ay)] (.AF [(false,[.int .i64 r]),(false,[.int .i64 0])]):=by
 refine BH Tryz.func16 fun E a=>?_
 conv=>cbv
 refine .inr ?_;refine AB a cf ?_;conv=>cbv
 refine AO ?_;conv=>cbv
 refine AB a c1 ?_;conv=>cbv
 refine AO ?_;conv=>cbv
 refine AB a c2 ?_;conv=>cbv
 refine AO ?_;conv=>cbv
 refine AO ?_;conv=>cbv
 refine .inr ?_;refine AO ?_;conv=>cbv
 refine .inr ?_;refine AO ?_;conv=>cbv
 refine .inr ?_;refine AB a b ?_;conv=>cbv
 refine BG ?_;conv=>cbv
 refine .inr ?_;refine AB a c ?_;conv=>cbv
 refine BG ?_;conv=>cbv
 refine .inr ?_;refine AB a d ?_;conv=>cbv
 refine AO ?_;conv=>cbv
 refine AB a h ?_;conv=>cbv
 refine Ah 93 1 a HO ?_;try conv=>cbv
 refine AB a j ?_;conv=>cbv
 refine Ah 93 1 a Fa ?_;try conv=>cbv
 refine Br ?_;refine AO ?_;conv=>cbv
 refine AB a l ?_;conv=>cbv
 exact AD ⟨t2,t2,trivial⟩
end Go.Abs
namespace Go.Abs
open Go.RowKit
variable {A0 A1 A2 A3 A4 A5 A6 A7 A8 A9 Aa Ab Ac Ad Ae Af Ax Ay:LR} {P TT:List (List Rat)->Prop} {T0 T1 T2 T3 T4 T5 T6 T7 T8 T9 Ta Tb Tc Td Te DU Tx Ty:List LR} {V:List Re} {al GJ be GL ga Hh i i' s t x xa xd Lq xo xp Lr y ya yd Ls yo yp Lt:Re} {r:Int} {w w0:List (List Rat)}
theorem aV (F:F9 TT w) {T:List LR} {A:LR} {n sg:Re} {br:Int} (hb:F0 n br sg) (h:Nm TT w 47000000 1 T A (Re.sqrt n)):∃b a,Nm TT w 47000000 1 b a sg/\CF 75 [.agg (AK T A),.one (.int .i64 br)] (.agg (AK b a)):=by
 rcases hb with⟨rfl,rfl⟩ |⟨rfl,rfl⟩
 ·exact⟨_,_,h,mJ⟩
 obtain⟨a,h',_,c⟩:=Iu F h;exact⟨_,_,h',mI c⟩
theorem jJ (L:Pl P V w0) (j:∀{r u},P (r::u)->u=[]) (h:DI (Tf P) w0 T1 A1 T2 A2 T3 A3 T4 A4 T5 A5 al be ga xd yd xp yp i) (o:DC (Tf P) w0 Ta Aa Tb Ab Tc Ac xo yo s) (N:0<(Cw xd yd xo yo xp yp s)):∃TT w,F9 TT w/\GX (Tf P) w0 TT w/\∀{br:Int} {sg:Re},F0 (Cw xd yd xo yo xp yp s) br sg->∃Tx Ax Ty Ay,Vm TT w 47000000 5 5 Tx Ax Ty Ay (xo- -yd*(EA xd yd xo yo xp yp)+xd*sg) (yo-xd*(EA xd yd xo yo xp yp)+yd*sg)/\CF 15 [Bt T1 A1 T2 A2 T3 A3 T4 A4 T5 A5,Bj Ta Aa Tb Ab Tc Ac,.one (.int .i64 br)] (.AF [(true,(AG Tx Ax Ty Ay)),(false,[.int .i64 0])])/\CF 15 [Bj Ta Aa Tb Ab Tc Ac,Bt T1 A1 T2 A2 T3 A3 T4 A4 T5 A5,.one (.int .i64 br)] (.AF [(true,(AG Tx Ax Ty Ay)),(false,[.int .i64 0])]):=by
 have F:=L.fl j;obtain⟨Tm,Am,Tk,Ak,Tn,An,S,_,_,_⟩:=K7 L j h o;have hD:=Jk h.nz;have O:xd*xd+yd*yd≠0:=by grind
 have m:=SC h.one;have c: -yd* -yd+xd*xd=xd*xd+yd*yd:=by grind
 obtain⟨f1,f2⟩:=W1 (x:=xo) (y:=yo) h.ni c O h.ha h.hb h.hc;have M:∀z:Re,z*Re.ofRat ((1:Int):Rat)=z:=fun z=>by rw[show Re.ofRat ((1:Int):Rat)=1 from rfl];grind
 have g1:xo-EK al be ga xo yo*Re.ofRat ((1:Int):Rat)*al=xo- -yd*(EA xd yd xo yo xp yp):=by rw[M];unfold EK;rw[show ∀a b:Re,a*b=b*a by intro a b;grind,f1]
 have g2:yo-EK al be ga xo yo*Re.ofRat ((1:Int):Rat)*be=yo-xd*(EA xd yd xo yo xp yp):=by rw[M];unfold EK;rw[show ∀a b:Re,a*b=b*a by intro a b;grind,f2]
 obtain⟨_,_,_,_,g,D⟩:=lZ F h.l o.o m (d:=46083) (by decide) (by decide) (by decide);have g:=(g.shrink S g1 g2).cast g1 g2;obtain⟨_,_,T,q⟩:=Si F g o.o;obtain⟨_,_,W,A⟩:=I2 F o.s T;obtain⟨_,_,Y,B⟩:=Sj F h.d;obtain⟨_,_,Z,C⟩:=NG F W Y O (by decide)
 have R:=Z.cast (y:=(Cw xd yd xo yo xp yp s)) (by
  unfold Cw EA
  congr 1
  generalize ((-yd*(xo-xp)+xd*(yo-yp))*AT (xd*xd+yd*yd))=e
  grind)
 obtain⟨TT,w,F9,U,Rt⟩:=NH L R (by decide) N;refine⟨TT,w,F9,U,fun {br sg} hb=>?_⟩;obtain⟨_,_,kr,_,J⟩:=Rt.get (by decide) R;obtain⟨_,_,ks,I⟩:=aV F9 hb kr;obtain⟨_,_,_,_,kS,H⟩:=bC F9 (U.v (by decide) (by decide) h.d) ks (by decide);obtain⟨_,_,_,_,kP,G⟩:=bB F9 (U.v (by decide) (by decide) g) kS (by decide);have ce:=XW L j h o N br hb.one;exact⟨_,_,_,_,kP.mono (by decide) (by decide),lv (M1 ce) D q A B C (TZ J) I H G,lu (M0 ce) D q A B C (TZ J) I H G⟩
theorem Vq (F:F9 TT w) {B A C D:List LR} {o l u z:LR} {m k p q:Re} (N:Vm TT w 47000000 5 5 Tx Ax Ty Ay x y) (hm:Vm TT w 47000000 1 1 B o A l m k) (J:Vm TT w 47000000 1 1 C u D z p q) (L:r=BT (p*(x-m)+q*(y-k))):∃d a h b j c,CF 89 [.agg (AG Tx Ax Ty Ay),.agg (AG B o A l)] (.AF [(true,(AG d a h b)),(false,[.int .i64 0])])/\CF 87 [.agg (AG d a h b),.agg (AG C u D z)] (.AF [(true,(AK j c)),(false,[.int .i64 0])])/\CF 90 [.agg (AK j c)] (.one (.int .i64 r)):=by
 obtain⟨d,a,h,b,H,c1⟩:=Jm F N hm;obtain⟨j,c,I,c2⟩:=NX F H J;obtain⟨s,M,G,_⟩:=Fb F I;obtain rfl:r=s:=by rw[L,M];congr 1;grind
 exact⟨d,a,h,b,j,c,c1,c2,G⟩
theorem XV (L:Pl P V w0) (C:∀{r u},P (r::u)->u=[]) (h:DI (Tf P) w0 T1 A1 T2 A2 T3 A3 T4 A4 T5 A5 al be ga xd yd xp yp i) (o:DC (Tf P) w0 Ta Aa Tb Ab Tc Ac xo yo s) (T:0<(Cw xd yd xo yo xp yp s)) (F9:F9 TT w) (U:GX (Tf P) w0 TT w) (b:Vm TT w 47000000 5 5 Tx Ax Ty Ay x y) (N:al*x+be*y=ga) (O:(x-xo)*(x-xo)+(y-yo)*(y-yo)=s) (W:r=BT (xd*(x-xo)+yd*(y-yo))):CF 16 [Bt T1 A1 T2 A2 T3 A3 T4 A4 T5 A5,Bj Ta Aa Tb Ab Tc Ac,.agg (AG Tx Ax Ty Ay)] (.AF [(false,[.int .i64 r]),(false,[.int .i64 0])])/\CF 16 [Bj Ta Aa Tb Ab Tc Ac,Bt T1 A1 T2 A2 T3 A3 T4 A4 T5 A5,.agg (AG Tx Ax Ty Ay)] (.AF [(false,[.int .i64 r]),(false,[.int .i64 0])]):=by
 have F:=L.fl C;obtain⟨M,I,J,H,Z,Y,S,R,c,_⟩:=K7 L C h o;have a:al*xd+be*yd=0:=by rw[h.ha,h.hb];grind
 have j:=Mk F h.l.x h.l.y h.l.z h.d a h.nz;have ul:=h.up U;have D:=KD (T1:=T4) (A1:=A4) (T2:=T5) (A2:=A5) F9 ul.x ul.y ul.z b (e:=true) ⟨fun _=>N,fun _=>rfl⟩ (by decide);have G:=Is F9 (U.v (by decide) (by decide) o.o) (U (by decide) o.s) b (e:=true) ⟨fun _=>O,fun _=>rfl⟩ (by decide)
 obtain⟨_,_,_,_,_,_,m,q,A⟩:=Vq F9 b (U.v (by decide) (by decide) S) (U.v (by decide) (by decide) h.d) (r:=r) (by
  rw[W];congr 1
  generalize (EA xd yd xo yo xp yp)=e
  grind)
 have B:=Mn (T1:=M) (A1:=I) (T2:=J) (A2:=H) (T3:=T4) (A3:=A4) (T4:=T5) (A4:=A5) F R (E8 T);exact⟨ji (LG j) D G c B m q A,jh (LF j) G D c B m q A⟩
theorem jI (L:Pl P V w0) (I:∀{r u},P (r::u)->u=[]) (h:DI (Tf P) w0 T1 A1 T2 A2 T3 A3 T4 A4 T5 A5 al be ga xd yd xp yp i) (o:DC (Tf P) w0 Ta Aa Tb Ab Tc Ac xo yo s) (S:¬0<(Cw xd yd xo yo xp yp s)) (F9:F9 TT w) (U:GX (Tf P) w0 TT w) (M:Vm TT w 47000000 5 5 Tx Ax Ty Ay x y) (O:al*x+be*y=ga) (R:(x-xo)*(x-xo)+(y-yo)*(y-yo)=s):∃e,e≠0/\CF 16 [Bt T1 A1 T2 A2 T3 A3 T4 A4 T5 A5,Bj Ta Aa Tb Ab Tc Ac,.agg (AG Tx Ax Ty Ay)] (.AF [(false,[.int .i64 0]),(false,[.int .i64 e])])/\CF 16 [Bj Ta Aa Tb Ab Tc Ac,Bt T1 A1 T2 A2 T3 A3 T4 A4 T5 A5,.agg (AG Tx Ax Ty Ay)] (.AF [(false,[.int .i64 0]),(false,[.int .i64 e])])/\∀br:Int,br=1\/br= -1->CF 94 [.agg (AY T1 A1 T2 A2 T3 A3),.agg (AG T4 A4 T5 A5),.agg (AY Ta Aa Tb Ab Tc Ac),.one (.int .i64 br)] (.one (.int .i64 e)):=by
 have F:=L.fl I;obtain⟨G,C,D,B,W,T,Y,J,c,m⟩:=K7 L I h o;have b:al*xd+be*yd=0:=by rw[h.ha,h.hb];grind
 have j:=Mk F h.l.x h.l.y h.l.z h.d b h.nz;have H:=SN F h.l.x h.l.y h.l.z h.d b h.nz;have ul:=h.up U;have q:=KD (T1:=T4) (A1:=A4) (T2:=T5) (A2:=A5) F9 ul.x ul.y ul.z M (e:=true) ⟨fun _=>O,fun _=>rfl⟩ (by decide);have A:=Is F9 (U.v (by decide) (by decide) o.o) (U (by decide) o.s) M (e:=true) ⟨fun _=>R,fun _=>rfl⟩ (by decide);rcases E7 (Cw xd yd xo yo xp yp s) with⟨N,e⟩ |⟨N,e⟩ |⟨e,_⟩
 ·rw[e] at m;have a:=Mp (T1:=G) (A1:=C) (T2:=D) (A2:=B) (T3:=T4) (A3:=A4) (T4:=T5) (A4:=A5) F J e;exact⟨7,by decide,Xy (by decide) (LG j) q A c a,Xx (by decide) (LF j) A q c a,fun br hb=>M3 (Hr hb) H m PC⟩
 ·rw[e] at m;have a:=Mo (T1:=G) (A1:=C) (T2:=D) (A2:=B) (T3:=T4) (A3:=A4) (T4:=T5) (A4:=A5) F J e;exact⟨12,by decide,Xy (by decide) (LG j) q A c a,Xx (by decide) (LF j) A q c a,fun br hb=>M3 (Hr hb) H m PB⟩
 exact absurd e S
theorem ft (L:Pl P V w0) (I:∀{r u},P (r::u)->u=[]) (o:DC (Tf P) w0 Ta Aa Tb Ab Tc Ac xo yo s) (a:DC (Tf P) w0 Td Ad Te Ae DU Af xa ya t) (H:¬(xo=xa/\yo=ya)) (J:0<(C6 xo yo xa ya s t)):∃TT w,F9 TT w/\GX (Tf P) w0 TT w/\∀{br:Int} {sg:Re},F0 (C6 xo yo xa ya s t) br sg->∃Tx Ax Ty Ay,Vm TT w 47000000 5 5 Tx Ax Ty Ay ((xo+(xa-xo)*(Cv xo yo xa ya s t))+ -(ya-yo)*sg) ((yo+(ya-yo)*(Cv xo yo xa ya s t))+(xa-xo)*sg)/\CF 15 [Bj Ta Aa Tb Ab Tc Ac,Bj Td Ad Te Ae DU Af,.one (.int .i64 br)] (.AF [(true,(AG Tx Ax Ty Ay)),(false,[.int .i64 0])]):=by
 have F:=L.fl I;have hq:0<((xa-xo)*(xa-xo)+(ya-yo)*(ya-yo)):=Jk (fun z=>H ⟨by have:=z.1;grind,by have:=z.2;grind⟩);have l:((xa-xo)*(xa-xo)+(ya-yo)*(ya-yo))≠0:=by grind
 have m:((xa-xo)*(xa-xo)+(ya-yo)*(ya-yo))+((xa-xo)*(xa-xo)+(ya-yo)*(ya-yo))≠0:=Sa l;obtain⟨_,_,_,_,k1,c1⟩:=ZO F a.o o.o;obtain⟨_,_,k2,c2⟩:=Sj F k1;obtain⟨_,_,k3,N⟩:=PM F k2 o.s;obtain⟨_,_,k4,O⟩:=I2 F k3 a.s;obtain⟨_,_,k5,R⟩:=PM F k2 k2;obtain⟨_,_,G,S⟩:=NG F k4 k5 m (by decide);obtain⟨_,_,k7,T⟩:=G6 F G G;obtain⟨_,_,k8,W⟩:=G6 F k2 k7;obtain⟨_,_,k9,Y⟩:=I2 F o.s k8;obtain⟨_,_,_,_,A,b⟩:=mZ F k1 G (by decide);obtain⟨_,_,_,_,B,c⟩:=mY F o.o A (by decide);obtain⟨_,C,d⟩:=Ts F k1;obtain⟨_,_,D,h⟩:=NG F k9 k2 l (by decide)
 have M:=D.cast (y:=(C6 xo yo xa ya s t)) (by
  unfold C6 Cv
  generalize (((xa-xo)*(xa-xo)+(ya-yo)*(ya-yo))+s-t)*AT (((xa-xo)*(xa-xo)+(ya-yo)*(ya-yo))+((xa-xo)*(xa-xo)+(ya-yo)*(ya-yo)))=p
  have h1:=E5 l
  generalize AT ((xa-xo)*(xa-xo)+(ya-yo)*(ya-yo))=j at*
  generalize ((xa-xo)*(xa-xo)+(ya-yo)*(ya-yo))=q at*
  have:q*(p*p)*j=p*p*(q*j):=by grind
  rw[show (s-q*(p*p))*j=s*j-q*(p*p)*j by grind,this,h1];grind)
 obtain⟨TT,w,F9,U,Rt⟩:=NH L M (by decide) J;refine⟨TT,w,F9,U,fun {br sg} hb=>?_⟩;obtain⟨_,_,kr,_,cr⟩:=Rt.get (by decide) M;obtain⟨_,_,ks,cT⟩:=aV F9 hb kr;obtain⟨_,_,_,_,kS,cS⟩:=bC F9 (U.v (by decide) (by decide) C) ks (by decide);obtain⟨_,_,_,_,kP,Z⟩:=bB F9 (U.v (by decide) (by decide) B) kS (by decide);have ce:=Vt L I o a H J br hb.one;exact⟨_,_,_,_,kP.mono (by decide) (by decide),lr (Mz ce) c1 c2 N O R S T W Y b c d h (TZ cr) cT cS Z⟩
theorem Vs (L:Pl P V w0) (h:∀{r u},P (r::u)->u=[]) (o:DC (Tf P) w0 Ta Aa Tb Ab Tc Ac xo yo s) (a:DC (Tf P) w0 Td Ad Te Ae DU Af xa ya t) (d:¬(xo=xa/\yo=ya)) (B:0<(C6 xo yo xa ya s t)) (F9:F9 TT w) (U:GX (Tf P) w0 TT w) (b:Vm TT w 47000000 5 5 Tx Ax Ty Ay x y) (A:(x-xo)*(x-xo)+(y-yo)*(y-yo)=s) (h3:(x-xa)*(x-xa)+(y-ya)*(y-ya)=t) (C:r=BT ((xa-xo)*(y-yo)-(ya-yo)*(x-xo))):CF 16 [Bj Ta Aa Tb Ab Tc Ac,Bj Td Ad Te Ae DU Af,.agg (AG Tx Ax Ty Ay)] (.AF [(false,[.int .i64 r]),(false,[.int .i64 0])]):=by
 have F:=L.fl h;obtain⟨R,I,O,H,T,M,W,N,S,J,gf,q,z,c,_⟩:=Ki L h o a d;have D:=Is F9 (U.v (by decide) (by decide) o.o) (U (by decide) o.s) b (e:=true) ⟨fun _=>A,fun _=>rfl⟩ (by decide);have G:=Is F9 (U.v (by decide) (by decide) a.o) (U (by decide) a.s) b (e:=true) ⟨fun _=>h3,fun _=>rfl⟩ (by decide)
 obtain⟨_,_,_,_,_,_,j,l,m⟩:=Vq F9 b (U.v (by decide) (by decide) gf) (U.v (by decide) (by decide) q) (r:=r) (by
  rw[C];congr 1
  generalize (Cv xo yo xa ya s t)=e
  grind)
 exact jg KC D G (LC F o.o o.s a.o a.s d) c (Mn F z (E8 B)) j l m
theorem fq (L:Pl P V w0) (A:∀{r u},P (r::u)->u=[]) (o:DC (Tf P) w0 Ta Aa Tb Ab Tc Ac xo yo s) (a:DC (Tf P) w0 Td Ad Te Ae DU Af xa ya t) (I:¬(¬(xo=xa/\yo=ya)/\0<(C6 xo yo xa ya s t))) (F9:F9 TT w) (U:GX (Tf P) w0 TT w) (B:Vm TT w 47000000 5 5 Tx Ax Ty Ay x y) (H:(x-xo)*(x-xo)+(y-yo)*(y-yo)=s) (h3:(x-xa)*(x-xa)+(y-ya)*(y-ya)=t):∃e,e≠0/\CF 16 [Bj Ta Aa Tb Ab Tc Ac,Bj Td Ad Te Ae DU Af,.agg (AG Tx Ax Ty Ay)] (.AF [(false,[.int .i64 0]),(false,[.int .i64 e])])/\∀br:Int,br=1\/br= -1->CF 95 [.agg (AY Ta Aa Tb Ab Tc Ac),.agg (AY Td Ad Te Ae DU Af),.one (.int .i64 br)] (.one (.int .i64 e)):=by
 have F:=L.fl A;have j:=Is F9 (U.v (by decide) (by decide) o.o) (U (by decide) o.s) B (e:=true) ⟨fun _=>H,fun _=>rfl⟩ (by decide);have l:=Is F9 (U.v (by decide) (by decide) a.o) (U (by decide) a.s) B (e:=true) ⟨fun _=>h3,fun _=>rfl⟩ (by decide)
 by_cases b:xo=xa/\yo=ya
 ·by_cases h:s=t
  ·exact⟨11,by decide,Xv (by decide) KC j l (Rc F o.o o.s a.o a.s b h),fun br hb=>Y0 (Hr hb) (ZC F o.o o.s a.o a.s ⟨b,h⟩)⟩
  exact⟨10,by decide,Xv (by decide) KC j l (Rd F o.o o.s a.o a.s b h),fun br hb=>Y1 (Hr hb) (M7 F o.o o.s a.o a.s (fun z=>h z.2)) (GW F o.o a.o (by decide) (by decide) (by decide) (by decide) (e:=true) ⟨fun _=>b,fun _=>rfl⟩)⟩
 obtain⟨T,M,S,J,Y,O,Z,R,W,N,gf,gl,q,c,d⟩:=Ki L A o a b;have m:=LC F o.o o.s a.o a.s b;have C:=M7 F o.o o.s a.o a.s (fun z=>b z.1);have D:=GW F o.o a.o (by decide) (by decide) (by decide) (by decide) (e:=false) ⟨fun z=>(by cases z),fun z=>absurd z b⟩;rcases E7 (C6 xo yo xa ya s t) with⟨G,e⟩ |⟨G,e⟩ |⟨e,_⟩
 ·rw[e] at d;exact⟨7,by decide,Xw (by decide) KC j l m c (Mp F q e),fun br hb=>My (Hr hb) C D d PC⟩
 ·rw[e] at d;exact⟨12,by decide,Xw (by decide) KC j l m c (Mo F q e),fun br hb=>My (Hr hb) C D d PB⟩
 exact absurd ⟨b,e⟩ I
theorem jW (L:Pl P V w0) (m:∀{r u},P (r::u)->u=[]) (h:DI (Tf P) w0 T1 A1 T2 A2 T3 A3 T4 A4 T5 A5 al be ga xd yd xp yp i) (g:DI (Tf P) w0 T6 A6 T7 A7 T8 A8 T9 A9 T0 A0 GJ GL Hh Lq Ls Lr Lt i') (c:¬(al=GJ/\be=GL)):∃Tx Ax Ty Ay x y,Vm (Tf P) w0 2100 4100 4100 Tx Ax Ty Ay x y/\al*x+be*y=ga/\GJ*x+GL*y=Hh/\CF 15 [Bt T1 A1 T2 A2 T3 A3 T4 A4 T5 A5,Bt T6 A6 T7 A7 T8 A8 T9 A9 T0 A0,.one (.int .i64 0)] (.AF [(true,(AG Tx Ax Ty Ay)),(false,[.int .i64 0])]):=by
 have F:=L.fl m;have a:=gO h.one g.one c;obtain⟨hc,b,e2⟩:=ju h.ha h.hb h.hc g.ha g.hb g.hc a;obtain⟨_,_,_,_,j⟩:=h.p;obtain⟨_,_,_,_,o⟩:=g.p;obtain⟨_,_,_,_,k1,_⟩:=Jm F o j;obtain⟨_,_,k2,_⟩:=D5 F k1.x g.d.y;obtain⟨_,_,A,_⟩:=D5 F k1.y g.d.x;obtain⟨_,_,B,_⟩:=F6 F k2 A;obtain⟨_,_,C,_⟩:=D5 F h.d.x g.d.y;obtain⟨_,_,D,_⟩:=D5 F h.d.y g.d.x;obtain⟨_,_,G,_⟩:=F6 F C D;obtain⟨_,_,H,_⟩:=Hp F B G (d:=3855) (by decide) hc;obtain⟨_,_,_,_,I,_⟩:=Ln F h.d H;obtain⟨_,_,_,_,kx,_⟩:=NW F j I;have ce:=KL (T4:=T4) (A4:=A4) (T5:=T5) (A5:=A5) (T9:=T9) (A9:=A9) (T0:=T0) (A0:=A0) (SR F h.l.x h.l.y h.l.z g.l.x g.l.y g.l.z c)
 obtain⟨Tx,Ax,Ty,Ay,q,cx⟩:=lx F h.l.x h.l.y h.l.z g.l.x g.l.y g.l.z (kx.mono (l:=4100) (l':=4100) (by decide) (by decide)) a b e2 ce (by decide);refine⟨Tx,Ax,Ty,Ay,_,_,q,?_,?_,cx⟩
 ·rw[<-b,<-e2];exact ki a
 rw[<-b,<-e2];exact kj a
theorem Xq (L:Pl P V w0) (o:∀{r u},P (r::u)->u=[]) (h:DI (Tf P) w0 T1 A1 T2 A2 T3 A3 T4 A4 T5 A5 al be ga xd yd xp yp i) (g:DI (Tf P) w0 T6 A6 T7 A7 T8 A8 T9 A9 T0 A0 GJ GL Hh Lq Ls Lr Lt i') (F9:F9 TT w) (U:GX (Tf P) w0 TT w) (m:Vm TT w 47000000 5 5 Tx Ax Ty Ay x y) (b:al*x+be*y=ga) (a:GJ*x+GL*y=Hh):∃e,(e=0↔¬(al=GJ/\be=GL))/\CF 16 [Bt T1 A1 T2 A2 T3 A3 T4 A4 T5 A5,Bt T6 A6 T7 A7 T8 A8 T9 A9 T0 A0,.agg (AG Tx Ax Ty Ay)] (.AF [(false,[.int .i64 0]),(false,[.int .i64 e])])/\CF 18 [Bt T1 A1 T2 A2 T3 A3 T4 A4 T5 A5,Bt T6 A6 T7 A7 T8 A8 T9 A9 T0 A0,.one (.int .i64 0)] (.one (.int .i64 e)):=by
 have F:=L.fl o;have ul:=h.up U;have j:=g.up U;have c:=KD (T1:=T4) (A1:=A4) (T2:=T5) (A2:=A5) F9 ul.x ul.y ul.z m (e:=true) ⟨fun _=>b,fun _=>rfl⟩ (by decide);have d:=KD (T1:=T9) (A1:=A9) (T2:=T0) (A2:=A0) F9 j.x j.y j.z m (e:=true) ⟨fun _=>a,fun _=>rfl⟩ (by decide)
 by_cases a:al=GJ/\be=GL
 ·by_cases b:ga=Hh
  ·exact⟨11,⟨fun z=>absurd z (by decide),fun z=>absurd a z⟩,Ra Mm c d (jn F h.l.x h.l.y h.l.z g.l.x g.l.y g.l.z ⟨a,b⟩),KL (Y4 F h.l.x h.l.y h.l.z g.l.x g.l.y g.l.z ⟨a,b⟩)⟩
  exact⟨10,⟨fun z=>absurd z (by decide),fun z=>absurd a z⟩,Ra Mm c d (jm F h.l.x h.l.y h.l.z g.l.x g.l.y g.l.z (fun z=>b z.2) a),KL (Y3 F h.l.x h.l.y h.l.z g.l.x g.l.y g.l.z (fun z=>b z.2) a)⟩
 exact⟨0,⟨fun _=>a,fun _=>rfl⟩,Ra Mm c d (jl F h.l.x h.l.y h.l.z g.l.x g.l.y g.l.z a),KL (SR F h.l.x h.l.y h.l.z g.l.x g.l.y g.l.z a)⟩
end Go.Abs
namespace Go.Abs
open Go.RowKit
abbrev Ir (k:Int) (t:Nat->List LR) (a:Nat->LR):List AC:=[.int .i64 k,.sl (.sl AA) (t 0),.sl AA (a 0),.sl (.sl AA) (t 1),.sl AA (a 1),.sl (.sl AA) (t 2),.sl AA (a 2),.sl (.sl AA) (t 3),.sl AA (a 3),.sl (.sl AA) (t 4),.sl AA (a 4),.sl (.sl AA) (t 5),.sl AA (a 5),.sl (.sl AA) (t 6),.sl AA (a 6),.sl (.sl AA) (t 7),.sl AA (a 7),.sl (.sl AA) (t 8),.sl AA (a 8),.sl (.sl AA) (t 9),.sl AA (a 9)]
abbrev DF (k:Int) (t:Nat->List LR) (a:Nat->LR):AV:= .agg (Ir k t a)
variable {Q:List (el Be)} {X:List (el B9)} {b1 b2 ba bb ca cb:Bool} {br f g k1 k2 n pa pb pc pd pe:Int}
theorem jf {W:List UInt8} {xi:el Be} {tg th:Nat->List LR} {ag ah:Nat->LR} (a:CF 13 [] (.one (.bool true))) (c:CF 14 [.agg [.sl B9 X,.sl .u8 W],.agg [.bool ca,.int .u8 pa,.int .u8 pb,.bool ba,.bool cb,.int .u8 pc,.int .u8 pd,.bool bb,.int .i64 br]] (.AF [(false,[.sl Be Q]),(true,(Ir k1 tg ag)),(true,(Ir k2 th ah)),(false,[.bool false])])):CF 3 [.agg [.sl (.pr .u8 (.pr .u8 (.pr .u8 (.pr .i8 .u8)))) X,.sl .u8 W],.agg [.bool ca,.int .u8 pa,.int .u8 pb,.bool ba,.bool cb,.int .u8 pc,.int .u8 pd,.bool bb,.int .i64 br],.one (.int .u8 pe)] (.one (.bool true)):=by
 refine BH Tryz.func3 fun E b=>?_
 conv=>cbv
 refine AB b a ?_;conv=>cbv
 refine AO ?_;conv=>cbv
 refine AB b c ?_;conv=>cbv
 refine BG ?_;conv=>cbv
 exact AD ⟨t2,trivial⟩
theorem jd {W:List UInt8} {xi:el Be} {tg th:Nat->List LR} {ag ah:Nat->LR} {e:Int} (he:e≠0) (hp:0<=pe/\pe<256) (hl:2<=Q.length) (ad:Q[(pe%(Q.length:Int)).toNat]? =some xi) (aa:b1=false->n=0/\f=13) (ab:b1=true->b2=false->n=0/\f=13) (hG:b1=true->b2=true->g≠0->n=0/\f=g) (hK:b1=true->b2=true->g=0->f=0) (c5:b1=true->CF 17 [(DF k2 th ah),.agg (AG xi.1.1 xi.1.2 xi.2.1 xi.2.2)] (.one (.bool b2))) (S:b1=true->b2=true->ca=true\/cb=true->CF 18 [(DF k1 tg ag),(DF k2 th ah),.one (.int .i64 1)] (.one (.int .i64 g))) (a7:b1=true->b2=true->ca=false->cb=false->CF 18 [(DF k1 tg ag),(DF k2 th ah),.one (.int .i64 0)] (.one (.int .i64 g))) (cS:b1=true->b2=true->g=0->CF 19 [(DF k1 tg ag),(DF k2 th ah),.agg (AG xi.1.1 xi.1.2 xi.2.1 xi.2.2)] (.one (.int .i64 n))) (a6:CF 13 [] (.one (.bool true))) (cl:CF 14 [.agg [.sl B9 X,.sl .u8 W],.agg [.bool ca,.int .u8 pa,.int .u8 pb,.bool ba,.bool cb,.int .u8 pc,.int .u8 pd,.bool bb,.int .i64 br]] (.AF [(false,[.sl Be Q]),(true,(Ir k1 tg ag)),(true,(Ir k2 th ah)),(false,[.bool true])])) (c1:CF 15 [(DF k1 tg ag),(DF k2 th ah),.one (.int .i64 br)] (.AF [(true,[BI,BJ,BI,BJ]),(false,[.int .i64 e])])) (c3:CF 16 [(DF k1 tg ag),(DF k2 th ah),.agg (AG xi.1.1 xi.1.2 xi.2.1 xi.2.2)] (.AF [(false,[.int .i64 n]),(false,[.int .i64 f])])) (c4:CF 17 [(DF k1 tg ag),.agg (AG xi.1.1 xi.1.2 xi.2.1 xi.2.2)] (.one (.bool b1))):CF 3 [.agg [.sl (.pr .u8 (.pr .u8 (.pr .u8 (.pr .i8 .u8)))) X,.sl .u8 W],.agg [.bool ca,.int .u8 pa,.int .u8 pb,.bool ba,.bool cb,.int .u8 pc,.int .u8 pd,.bool bb,.int .i64 br],.one (.int .u8 pe)] (.one (.bool true)):=by
 refine BH Tryz.func3 fun E D=>?_
 conv=>cbv
 refine AB D a6 ?_;conv=>cbv
 refine AO ?_;conv=>cbv
 refine AB D cl ?_;conv=>cbv
 refine AO ?_;conv=>cbv
 refine AB D c1 ?_;conv=>cbv
 intro af T;conv=>cbv
 refine .inr ?_;cases af <;> conv=>cbv
 ·have ae:=Ao T;intro ai H;conv=>cbv
  have H:=wrap_i64 H;have H:ai=pe:=by omega
  rintro ar ⟨a8,f61⟩;conv=>cbv
  intro a5 U;conv=>cbv
  refine AI ?_;have aq:0<=a5:=by rw[U];exact Int.emod_nonneg _ (by omega)
  refine⟨xi,fun _=>⟨by omega,by rw[show a5=pe%(Q.length:Int) by rw[U,H,a8]];exact ad⟩,?_⟩;try conv=>cbv
  refine AB D c3 ?_;conv=>cbv
  refine AB D c4 ?_;conv=>cbv
  intro aj Y;conv=>cbv
  cases aj <;> conv=>cbv
  ·have c:=DW Y;refine AB D (c5 c) ?_;conv=>cbv
   intro ak Z;conv=>cbv
   cases ak <;> conv=>cbv
   ·have d:=DW Z;intro an a1;conv=>cbv
    cases an <;> conv=>cbv
    ·have I:=DW a1;refine .inr ?_;refine AB (r:= .one (.int .i64 g)) D (S c d (by first | exact .inl I | exact .inr J)) ?_;conv=>cbv
     intro u h;conv=>cbv
     cases u <;> conv=>cbv
     ·have a:=C8 h;have C:=hK c d a;intro B l;conv=>cbv
      cases B <;> conv=>cbv
      ·have o:=Ao l;exact absurd C o
      have o:=BA l;refine AB D (cS c d a) ?_;conv=>cbv
      intro M b;(have b:=b.trans (show _=true by simp));subst b;conv=>cbv
      exact AD ⟨t2,trivial⟩
     have a:=DA h;obtain⟨L,C⟩:=hG c d a;intro z j;conv=>cbv
     cases z <;> conv=>cbv
     ·have m:=Ao j;exact absurd L m
     have m:=BA j;intro A q;conv=>cbv
     exact AD ⟨⟨rfl,congrArg _ (by cases A;exact absurd C (Ao q);rfl),trivial⟩,trivial⟩
    have I:=DX a1;intro ao a2;conv=>cbv
    refine .inr ?_;cases ao <;> conv=>cbv
    ·have J:=DW a2;refine AB (r:= .one (.int .i64 g)) D (S c d (by first | exact .inl I | exact .inr J)) ?_;conv=>cbv
     intro u h;conv=>cbv
     cases u <;> conv=>cbv
     ·have a:=C8 h;have C:=hK c d a;intro B l;conv=>cbv
      cases B <;> conv=>cbv
      ·have o:=Ao l;exact absurd C o
      have o:=BA l;refine AB D (cS c d a) ?_;conv=>cbv
      intro M b;(have b:=b.trans (show _=true by simp));subst b;conv=>cbv
      exact AD ⟨t2,trivial⟩
     have a:=DA h;obtain⟨L,C⟩:=hG c d a;intro z j;conv=>cbv
     cases z <;> conv=>cbv
     ·have m:=Ao j;exact absurd L m
     have m:=BA j;intro A q;conv=>cbv
     exact AD ⟨⟨rfl,congrArg _ (by cases A;exact absurd C (Ao q);rfl),trivial⟩,trivial⟩
    have J:=DX a2;refine AB D (a7 c d I J) ?_;conv=>cbv
    intro u h;conv=>cbv
    cases u <;> conv=>cbv
    ·have a:=C8 h;have C:=hK c d a;intro B l;conv=>cbv
     cases B <;> conv=>cbv
     ·have o:=Ao l;exact absurd C o
     have o:=BA l;refine AB D (cS c d a) ?_;conv=>cbv
     intro M b;(have b:=b.trans (show _=true by simp));subst b;conv=>cbv
     exact AD ⟨t2,trivial⟩
    have a:=DA h;obtain⟨L,C⟩:=hG c d a;intro z j;conv=>cbv
    cases z <;> conv=>cbv
    ·have m:=Ao j;exact absurd L m
    have m:=BA j;intro A q;conv=>cbv
    exact AD ⟨⟨rfl,congrArg _ (by cases A;exact absurd C (Ao q);rfl),trivial⟩,trivial⟩
   have d:=DX Z;obtain⟨L,C⟩:=ab c d;intro O F;conv=>cbv
   cases O <;> conv=>cbv
   ·have G:=Ao F;exact absurd L G
   have G:=BA F;intro R N;conv=>cbv
   exact AD ⟨⟨rfl,congrArg _ (by cases R;exact absurd C (Ao N);rfl),trivial⟩,trivial⟩
  have c:=DX Y;obtain⟨L,C⟩:=aa c;intro O F;conv=>cbv
  cases O <;> conv=>cbv
  ·have G:=Ao F;exact absurd L G
  have G:=BA F;intro R N;conv=>cbv
  exact AD ⟨⟨rfl,congrArg _ (by cases R;exact absurd C (Ao N);rfl),trivial⟩,trivial⟩
 have ae:=BA T;exact False.elim (by omega)
theorem je {W:List UInt8} {xi:el Be} {tg th:Nat->List LR} {ag ah:Nat->LR} {Tx Ty:List LR} {Ax Ay:LR} (hp:0<=pe/\pe<256) (hl:2<=Q.length) (ad:Q[(pe%(Q.length:Int)).toNat]? =some xi) (aa:b1=false->n=0/\f=13) (ab:b1=true->b2=false->n=0/\f=13) (hG:b1=true->b2=true->g≠0->n=0/\f=g) (hK:b1=true->b2=true->g=0->f=0) (c5:b1=true->CF 17 [(DF k2 th ah),.agg (AG xi.1.1 xi.1.2 xi.2.1 xi.2.2)] (.one (.bool b2))) (T:b1=true->b2=true->ca=true\/cb=true->CF 18 [(DF k1 tg ag),(DF k2 th ah),.one (.int .i64 1)] (.one (.int .i64 g))) (a7:b1=true->b2=true->ca=false->cb=false->CF 18 [(DF k1 tg ag),(DF k2 th ah),.one (.int .i64 0)] (.one (.int .i64 g))) (cS:b1=true->b2=true->g=0->CF 19 [(DF k1 tg ag),(DF k2 th ah),.agg (AG xi.1.1 xi.1.2 xi.2.1 xi.2.2)] (.one (.int .i64 n))) (a6:CF 13 [] (.one (.bool true))) (cl:CF 14 [.agg [.sl B9 X,.sl .u8 W],.agg [.bool ca,.int .u8 pa,.int .u8 pb,.bool ba,.bool cb,.int .u8 pc,.int .u8 pd,.bool bb,.int .i64 br]] (.AF [(false,[.sl Be Q]),(true,(Ir k1 tg ag)),(true,(Ir k2 th ah)),(false,[.bool true])])) (c1:CF 15 [(DF k1 tg ag),(DF k2 th ah),.one (.int .i64 br)] (.AF [(true,(AG Tx Ax Ty Ay)),(false,[.int .i64 0])])) (c2:CF 16 [(DF k1 tg ag),(DF k2 th ah),.agg (AG Tx Ax Ty Ay)] (.AF [(false,[.int .i64 br]),(false,[.int .i64 0])])) (c3:CF 16 [(DF k1 tg ag),(DF k2 th ah),.agg (AG xi.1.1 xi.1.2 xi.2.1 xi.2.2)] (.AF [(false,[.int .i64 n]),(false,[.int .i64 f])])) (c4:CF 17 [(DF k1 tg ag),.agg (AG xi.1.1 xi.1.2 xi.2.1 xi.2.2)] (.one (.bool b1))):CF 3 [.agg [.sl (.pr .u8 (.pr .u8 (.pr .u8 (.pr .i8 .u8)))) X,.sl .u8 W],.agg [.bool ca,.int .u8 pa,.int .u8 pb,.bool ba,.bool cb,.int .u8 pc,.int .u8 pd,.bool bb,.int .i64 br],.one (.int .u8 pe)] (.one (.bool true)):=by
 refine BH Tryz.func3 fun E D=>?_
 conv=>cbv
 refine AB D a6 ?_;conv=>cbv
 refine AO ?_;conv=>cbv
 refine AB D cl ?_;conv=>cbv
 refine AO ?_;conv=>cbv
 refine AB D c1 ?_;conv=>cbv
 refine BG ?_;conv=>cbv
 refine .inr ?_;refine AB D c2 ?_;conv=>cbv
 refine AO ?_;conv=>cbv
 intro ao N;(have N:=N.trans (show _=false by simp));subst N;conv=>cbv
 intro ae H;conv=>cbv
 have H:=wrap_i64 H;have H:ae=pe:=by omega
 rintro aq ⟨a8,f61⟩;conv=>cbv
 intro a5 U;conv=>cbv
 refine AI ?_;have an:0<=a5:=by rw[U];exact Int.emod_nonneg _ (by omega)
 refine⟨xi,fun _=>⟨by omega,by rw[show a5=pe%(Q.length:Int) by rw[U,H,a8]];exact ad⟩,?_⟩;try conv=>cbv
 refine AB D c3 ?_;conv=>cbv
 refine AB D c4 ?_;conv=>cbv
 intro af Y;conv=>cbv
 cases af <;> conv=>cbv
 ·have c:=DW Y;refine AB D (c5 c) ?_;conv=>cbv
  intro ai Z;conv=>cbv
  cases ai <;> conv=>cbv
  ·have d:=DW Z;intro aj a1;conv=>cbv
   cases aj <;> conv=>cbv
   ·have I:=DW a1;refine .inr ?_;refine AB (r:= .one (.int .i64 g)) D (T c d (by first | exact .inl I | exact .inr J)) ?_;conv=>cbv
    intro u h;conv=>cbv
    cases u <;> conv=>cbv
    ·have a:=C8 h;have C:=hK c d a;intro B l;conv=>cbv
     cases B <;> conv=>cbv
     ·have o:=Ao l;exact absurd C o
     have o:=BA l;refine AB D (cS c d a) ?_;conv=>cbv
     intro M b;(have b:=b.trans (show _=true by simp));subst b;conv=>cbv
     exact AD ⟨t2,trivial⟩
    have a:=DA h;obtain⟨L,C⟩:=hG c d a;intro z j;conv=>cbv
    cases z <;> conv=>cbv
    ·have m:=Ao j;exact absurd L m
    have m:=BA j;intro A q;conv=>cbv
    exact AD ⟨⟨rfl,congrArg _ (by cases A;exact absurd C (Ao q);rfl),trivial⟩,trivial⟩
   have I:=DX a1;intro ak a2;conv=>cbv
   refine .inr ?_;cases ak <;> conv=>cbv
   ·have J:=DW a2;refine AB (r:= .one (.int .i64 g)) D (T c d (by first | exact .inl I | exact .inr J)) ?_;conv=>cbv
    intro u h;conv=>cbv
    cases u <;> conv=>cbv
    ·have a:=C8 h;have C:=hK c d a;intro B l;conv=>cbv
     cases B <;> conv=>cbv
     ·have o:=Ao l;exact absurd C o
     have o:=BA l;refine AB D (cS c d a) ?_;conv=>cbv
     intro M b;(have b:=b.trans (show _=true by simp));subst b;conv=>cbv
     exact AD ⟨t2,trivial⟩
    have a:=DA h;obtain⟨L,C⟩:=hG c d a;intro z j;conv=>cbv
    cases z <;> conv=>cbv
    ·have m:=Ao j;exact absurd L m
    have m:=BA j;intro A q;conv=>cbv
    exact AD ⟨⟨rfl,congrArg _ (by cases A;exact absurd C (Ao q);rfl),trivial⟩,trivial⟩
   have J:=DX a2;refine AB D (a7 c d I J) ?_;conv=>cbv
   intro u h;conv=>cbv
   cases u <;> conv=>cbv
   ·have a:=C8 h;have C:=hK c d a;intro B l;conv=>cbv
    cases B <;> conv=>cbv
    ·have o:=Ao l;exact absurd C o
    have o:=BA l;refine AB D (cS c d a) ?_;conv=>cbv
    intro M b;(have b:=b.trans (show _=true by simp));subst b;conv=>cbv
    exact AD ⟨t2,trivial⟩
   have a:=DA h;obtain⟨L,C⟩:=hG c d a;intro z j;conv=>cbv
   cases z <;> conv=>cbv
   ·have m:=Ao j;exact absurd L m
   have m:=BA j;intro A q;conv=>cbv
   exact AD ⟨⟨rfl,congrArg _ (by cases A;exact absurd C (Ao q);rfl),trivial⟩,trivial⟩
  have d:=DX Z;obtain⟨L,C⟩:=ab c d;intro R F;conv=>cbv
  cases R <;> conv=>cbv
  ·have G:=Ao F;exact absurd L G
  have G:=BA F;intro S O;conv=>cbv
  exact AD ⟨⟨rfl,congrArg _ (by cases S;exact absurd C (Ao O);rfl),trivial⟩,trivial⟩
 have c:=DX Y;obtain⟨L,C⟩:=aa c;intro R F;conv=>cbv
 cases R <;> conv=>cbv
 ·have G:=Ao F;exact absurd L G
 have G:=BA F;intro S O;conv=>cbv
 exact AD ⟨⟨rfl,congrArg _ (by cases S;exact absurd C (Ao O);rfl),trivial⟩,trivial⟩
end Go.Abs
namespace Go.Abs
open Go.RowKit
def Lv (a b:AV) (br:Int):Prop:=(∃e,e≠0/\CF 15 [a,b,.one (.int .i64 br)] (.AF [(true,[BI,BJ,BI,BJ]),(false,[.int .i64 e])]))\/∃Tx Ax Ty Ay,CF 15 [a,b,.one (.int .i64 br)] (.AF [(true,[.sl (.sl AA) Tx,.sl AA Ax,.sl (.sl AA) Ty,.sl AA Ay]),(false,[.int .i64 0])])/\CF 16 [a,b,.agg [.sl (.sl AA) Tx,.sl AA Ax,.sl (.sl AA) Ty,.sl AA Ay]] (.AF [(false,[.int .i64 br]),(false,[.int .i64 0])])
def Jo (a b y:AV) (k:Int):Prop:=(CF 16 [a,b,y] (.AF [(false,[.int .i64 0]),(false,[.int .i64 13])])/\CF 17 [a,y] (.one (.bool false)))\/(CF 16 [a,b,y] (.AF [(false,[.int .i64 0]),(false,[.int .i64 13])])/\CF 17 [a,y] (.one (.bool true))/\CF 17 [b,y] (.one (.bool false)))\/(∃g,g≠0/\CF 16 [a,b,y] (.AF [(false,[.int .i64 0]),(false,[.int .i64 g])])/\CF 17 [a,y] (.one (.bool true))/\CF 17 [b,y] (.one (.bool true))/\CF 18 [a,b,.one (.int .i64 k)] (.one (.int .i64 g)))\/∃n,CF 16 [a,b,y] (.AF [(false,[.int .i64 n]),(false,[.int .i64 0])])/\CF 17 [a,y] (.one (.bool true))/\CF 17 [b,y] (.one (.bool true))/\CF 18 [a,b,.one (.int .i64 k)] (.one (.int .i64 0))/\CF 19 [a,b,y] (.one (.int .i64 n))
variable {A0 A1 A2 A3 A4 A5 A6 A7 A8 A9 Aa Ab Ac Ad Ae Af Ax Ay:LR} {P:List (List Rat)->Prop} {T0 T1 T2 T3 T4 T5 T6 T7 T8 T9 Ta Tb Tc Td Te DU Tx Ty:List LR} {V:List Re} {X:List (el B9)} {al GJ be GL ga Hh i i' s t x xa xd Lq xo xp Lr y ya yd Ls yo yp Lt:Re} {ba bb ca cb:Bool} {k pa pb pc pd pe:Int} {w0:List (List Rat)}
theorem Jo.all {a b y:AV} (h:Jo a b y k):∃b1 b2:Bool,∃n f g:Int,CF 16 [a,b,y] (.AF [(false,[.int .i64 n]),(false,[.int .i64 f])])/\CF 17 [a,y] (.one (.bool b1))/\(b1=true->CF 17 [b,y] (.one (.bool b2)))/\(b1=false->n=0/\f=13)/\(b1=true->b2=false->n=0/\f=13)/\(b1=true->b2=true->g≠0->n=0/\f=g)/\(b1=true->b2=true->g=0->f=0)/\(b1=true->b2=true->CF 18 [a,b,.one (.int .i64 k)] (.one (.int .i64 g)))/\(b1=true->b2=true->g=0->CF 19 [a,b,y] (.one (.int .i64 n))):=by
 rcases h with⟨c,d⟩ |⟨c,d,j⟩ |⟨g,m,c,d,j,l⟩ |⟨n,c,d,j,l,o⟩
 ·exact⟨false,false,0,13,0,c,d,nofun,fun _=>⟨rfl,rfl⟩,nofun,nofun,nofun,nofun,nofun⟩
 ·exact⟨true,false,0,13,0,c,d,fun _=>j,nofun,fun _ _=>⟨rfl,rfl⟩,fun _=>nofun,fun _=>nofun,fun _=>nofun,fun _=>nofun⟩
 ·exact⟨true,true,0,g,g,c,d,fun _=>j,nofun,fun _=>nofun,fun _ _ _=>⟨rfl,rfl⟩,fun _ _ z=>absurd z m,fun _ _=>l,fun _ _ z=>absurd z m⟩
 exact⟨true,true,n,0,0,c,d,fun _=>j,nofun,fun _=>nofun,fun _ _ z=>absurd rfl z,fun _ _ _=>rfl,fun _ _=>l,fun _ _ _=>o⟩
theorem Om {W:List UInt8} {Q:List (el Be)} {br:Int} {xi:el Be} {tg th:Nat->List LR} {ag ah:Nat->LR} {k1 k2:Int} (A:0<=pe/\pe<256) (u:2<=Q.length) (a:Q[(pe%(Q.length:Int)).toNat]? =some xi) (b:ca=false->cb=false->k=0) (c:ca=true\/cb=true->k=1) (o:CF 14 [.agg [.sl B9 X,.sl .u8 W],.agg [.bool ca,.int .u8 pa,.int .u8 pb,.bool ba,.bool cb,.int .u8 pc,.int .u8 pd,.bool bb,.int .i64 br]] (.AF [(false,[.sl Be Q]),(true,Ir k1 tg ag),(true,Ir k2 th ah),(false,[.bool true])])) (I:Lv (DF k1 tg ag) (DF k2 th ah) br) (J:Jo (DF k1 tg ag) (DF k2 th ah) (.agg (AG xi.1.1 xi.1.2 xi.2.1 xi.2.2)) k):CF 3 [.agg [.sl B9 X,.sl .u8 W],.agg [.bool ca,.int .u8 pa,.int .u8 pb,.bool ba,.bool cb,.int .u8 pc,.int .u8 pd,.bool bb,.int .i64 br],.one (.int .u8 pe)] (.one (.bool true)):=by
 obtain⟨b1,b2,n,f,g,j,l,m,B,C,D,F,G,H⟩:=J.all;have g1:=fun d h (z:ca=true\/cb=true)=>c z ▸ G d h
 have q:=fun d h (z:ca=false) (z':cb=false)=>b z z' ▸ G d h
 rcases I with⟨e,he,c1⟩ |⟨Tx,Ax,Ty,Ay,c1,c2⟩
 ·exact jd he A u a B C D F m g1 q H RZ o c1 j l
 exact je A u a B C D F m g1 q H RZ o c1 c2 j l
theorem jX (L:Pl P V w0) (c:∀{r u},P (r::u)->u=[]) (h:DI (Tf P) w0 T1 A1 T2 A2 T3 A3 T4 A4 T5 A5 al be ga xd yd xp yp i) (g:DI (Tf P) w0 T6 A6 T7 A7 T8 A8 T9 A9 T0 A0 GJ GL Hh Lq Ls Lr Lt i'):∃e,(e=0↔¬(al=GJ/\be=GL))/\CF 18 [Bt T1 A1 T2 A2 T3 A3 T4 A4 T5 A5,Bt T6 A6 T7 A7 T8 A8 T9 A9 T0 A0,.one (.int .i64 0)] (.one (.int .i64 e)):=by
 have F:=L.fl c
 by_cases a:al=GJ/\be=GL
 ·by_cases b:ga=Hh
  ·exact⟨11,⟨fun z=>absurd z (by decide),fun z=>absurd a z⟩,KL (Y4 F h.l.x h.l.y h.l.z g.l.x g.l.y g.l.z ⟨a,b⟩)⟩
  exact⟨10,⟨fun z=>absurd z (by decide),fun z=>absurd a z⟩,KL (Y3 F h.l.x h.l.y h.l.z g.l.x g.l.y g.l.z (fun z=>b z.2) a)⟩
 exact⟨0,⟨fun _=>a,fun _=>rfl⟩,KL (SR F h.l.x h.l.y h.l.z g.l.x g.l.y g.l.z a)⟩
theorem llF (L:Pl P V w0) (b:∀{r u},P (r::u)->u=[]) (h:DI (Tf P) w0 T1 A1 T2 A2 T3 A3 T4 A4 T5 A5 al be ga xd yd xp yp i) (g:DI (Tf P) w0 T6 A6 T7 A7 T8 A8 T9 A9 T0 A0 GJ GL Hh Lq Ls Lr Lt i') (br:Int):Lv (Bt T1 A1 T2 A2 T3 A3 T4 A4 T5 A5) (Bt T6 A6 T7 A7 T8 A8 T9 A9 T0 A0) br:=by
 by_cases a:br=0
 ·subst a
  by_cases c:al=GJ/\be=GL
  ·obtain⟨e,he,ce⟩:=jX L b h g;have he:e≠0:=fun z=>he.1 z c
   exact .inl ⟨e,he,Je he ce⟩
  obtain⟨Tx,Ax,Ty,Ay,x,y,m,d,j,cx⟩:=jW L b h g c;obtain⟨TT,w,F9,U⟩:=O1 L b;obtain⟨e,he,cb,_⟩:=Xq L b h g F9 U ((U.v (by decide) (by decide) m).mono (l:=5) (l':=5) (by decide) (by decide)) d j;obtain rfl:e=0:=he.2 c;exact .inr ⟨Tx,Ax,Ty,Ay,cx,cb⟩
 exact .inl ⟨1,by decide,Je (by decide) (lX a)⟩
theorem llS (L:Pl P V w0) (m:∀{r u},P (r::u)->u=[]) (h:DI (Tf P) w0 T1 A1 T2 A2 T3 A3 T4 A4 T5 A5 al be ga xd yd xp yp i) (g:DI (Tf P) w0 T6 A6 T7 A7 T8 A8 T9 A9 T0 A0 GJ GL Hh Lq Ls Lr Lt i') (A:Vm (Tf P) w0 2100 20 20 Tx Ax Ty Ay x y):Jo (Bt T1 A1 T2 A2 T3 A3 T4 A4 T5 A5) (Bt T6 A6 T7 A7 T8 A8 T9 A9 T0 A0) (.agg (AG Tx Ax Ty Ay)) 0:=by
 have F:=L.fl m;obtain⟨TT,w,F9,U⟩:=O1 L m;have d:=(U.v (by decide) (by decide) A).mono (l:=5) (l':=5) (by decide) (by decide);have ul:=h.up U;have c:=g.up U;obtain⟨b1,a⟩:=Er (al*x+be*y=ga);obtain⟨b2,b⟩:=Er (GJ*x+GL*y=Hh);have m1:=KD (T1:=T4) (A1:=A4) (T2:=T5) (A2:=A5) F9 ul.x ul.y ul.z d a (by decide);have j:=PD (T1:=T4) (A1:=A4) (T2:=T5) (A2:=A5) F9 ul.x ul.y ul.z d a;have m2:=KD (T1:=T9) (A1:=A9) (T2:=T0) (A2:=A0) F9 c.x c.y c.z d b (by decide);have o:=PD (T1:=T9) (A1:=A9) (T2:=T0) (A2:=A0) F9 c.x c.y c.z d b;cases b1
 ·exact .inl ⟨LB Mm m1,j⟩
 cases b2
 ·exact .inr (.inl ⟨On Mm m1 m2,j,o⟩)
 obtain⟨e,he,cb,ce⟩:=Xq L m h g F9 U d (a.1 rfl) (b.1 rfl)
 by_cases q:e=0
 ·subst q;exact .inr (.inr (.inr ⟨0,cb,j,o,ce,mB⟩))
 exact .inr (.inr (.inl ⟨e,q,cb,j,o,ce⟩))
theorem XX (L:Pl P V w0) (c:∀{r u},P (r::u)->u=[]) (h:DI (Tf P) w0 T1 A1 T2 A2 T3 A3 T4 A4 T5 A5 al be ga xd yd xp yp i) (o:DC (Tf P) w0 Ta Aa Tb Ab Tc Ac xo yo s) (br:Int):Lv (Bt T1 A1 T2 A2 T3 A3 T4 A4 T5 A5) (Bj Ta Aa Tb Ab Tc Ac) br/\Lv (Bj Ta Aa Tb Ab Tc Ac) (Bt T1 A1 T2 A2 T3 A3 T4 A4 T5 A5) br:=by
 by_cases a:br=1\/br= -1
 ·by_cases b:0<(Cw xd yd xo yo xp yp s)
  ·have l:=Jk h.nz;have j:xd*xd+yd*yd≠0:=by grind
   obtain⟨sg,hb⟩:=Zq _ a;obtain⟨TT,w,F9,U,d⟩:=jJ L c h o b;obtain⟨Tx,Ax,Ty,Ay,m,c1,c2⟩:=d hb;obtain⟨b1,b2⟩:=XV L c h o b F9 U m (Wo rfl j h.ha h.hb h.hc) (Wn rfl (Qs j) (hb.sq b)) (r:=br) (by rw[Wp rfl];exact hb.ET b l);exact⟨.inr ⟨Tx,Ax,Ty,Ay,c1,b1⟩,.inr ⟨Tx,Ax,Ty,Ay,c2,b2⟩⟩
  obtain⟨e,he,_,d⟩:=RK L c h o b;have ce:=(d br a).2;exact⟨.inl ⟨e,he,Je he (M1 ce)⟩,.inl ⟨e,he,Je he (M0 ce)⟩⟩
 have ce:=lf (T6:=T1) (A6:=A1) (T7:=T2) (A7:=A2) (T8:=T3) (A8:=A3) (T3:=T4) (A3:=A4) (T4:=T5) (A4:=A5) (Ta:=Ta) (Aa:=Aa) (Tb:=Tb) (Ab:=Ab) (Tc:=Tc) (Ac:=Ac) (Y6 (br:=br) (fun z=>a (.inl z)) (fun z=>a (.inr z)));exact⟨.inl ⟨1,by decide,Je (by decide) (M1 ce)⟩,.inl ⟨1,by decide,Je (by decide) (M0 ce)⟩⟩
theorem XY (L:Pl P V w0) (A:∀{r u},P (r::u)->u=[]) (h:DI (Tf P) w0 T1 A1 T2 A2 T3 A3 T4 A4 T5 A5 al be ga xd yd xp yp i) (o:DC (Tf P) w0 Ta Aa Tb Ab Tc Ac xo yo s) (I:Vm (Tf P) w0 2100 20 20 Tx Ax Ty Ay x y):Jo (Bt T1 A1 T2 A2 T3 A3 T4 A4 T5 A5) (Bj Ta Aa Tb Ab Tc Ac) (.agg (AG Tx Ax Ty Ay)) 1/\Jo (Bj Ta Aa Tb Ab Tc Ac) (Bt T1 A1 T2 A2 T3 A3 T4 A4 T5 A5) (.agg (AG Tx Ax Ty Ay)) 1:=by
 have F:=L.fl A;obtain⟨TT,w,F9,U⟩:=O1 L A;have m:=(U.v (by decide) (by decide) I).mono (l:=5) (l':=5) (by decide) (by decide);have C:al*xd+be*yd=0:=by rw[h.ha,h.hb];grind
 have q:=Mk F h.l.x h.l.y h.l.z h.d C h.nz;have ul:=h.up U;have G:=U.v (by decide) (by decide) o.o;have us:=U (by decide) o.s;obtain⟨b1,a⟩:=Er (al*x+be*y=ga);obtain⟨b2,b⟩:=Er ((x-xo)*(x-xo)+(y-yo)*(y-yo)=s);have m1:=KD (T1:=T4) (A1:=A4) (T2:=T5) (A2:=A5) F9 ul.x ul.y ul.z m a (by decide);have c:=PD (T1:=T4) (A1:=A4) (T2:=T5) (A2:=A5) F9 ul.x ul.y ul.z m a;have m2:=Is F9 G us m b (by decide);have j:=LS F9 G us m b;cases b1 <;> cases b2
 ·exact⟨.inl ⟨LB (LG q) m1,c⟩,.inl ⟨LB (LF q) m2,j⟩⟩
 ·exact⟨.inl ⟨LB (LG q) m1,c⟩,.inr (.inl ⟨On (LF q) m2 m1,j,c⟩)⟩
 ·exact⟨.inr (.inl ⟨On (LG q) m1 m2,c,j⟩),.inl ⟨LB (LF q) m2,j⟩⟩
 by_cases D:0<(Cw xd yd xo yo xp yp s)
 ·obtain⟨n,B⟩:∃n,n=BT (xd*(x-xo)+yd*(y-yo)):=⟨_,rfl⟩
  obtain⟨c1,c2⟩:=XV L A h o D F9 U m (a.1 rfl) (b.1 rfl) B;have ce:=XW L A h o D 1 (.inl rfl);have cs:=a8 F9 (U.v (by decide) (by decide) h.d) G m B (by decide);exact⟨.inr (.inr (.inr ⟨n,c1,c,j,M1 ce,mA cs⟩)),.inr (.inr (.inr ⟨n,c2,j,c,M0 ce,l5 cs⟩))⟩
 obtain⟨e,he,c1,c2,H⟩:=jI L A h o D F9 U m (a.1 rfl) (b.1 rfl);have ce:=H 1 (.inl rfl);exact⟨.inr (.inr (.inl ⟨e,he,c1,c,j,M1 ce⟩)),.inr (.inr (.inl ⟨e,he,c2,j,c,M0 ce⟩))⟩
theorem ccF (L:Pl P V w0) (h:∀{r u},P (r::u)->u=[]) (o:DC (Tf P) w0 Ta Aa Tb Ab Tc Ac xo yo s) (a:DC (Tf P) w0 Td Ad Te Ae DU Af xa ya t) (br:Int):Lv (Bj Ta Aa Tb Ab Tc Ac) (Bj Td Ad Te Ae DU Af) br:=by
 by_cases b:br=1\/br= -1
 ·by_cases c:¬(xo=xa/\yo=ya)/\0<(C6 xo yo xa ya s t)
  ·obtain⟨d,c⟩:=c;have m:0<((xa-xo)*(xa-xo)+(ya-yo)*(ya-yo)):=Jk (fun z=>d ⟨by have:=z.1;grind,by have:=z.2;grind⟩);have l:((xa-xo)*(xa-xo)+(ya-yo)*(ya-yo))≠0:=by grind
   obtain⟨sg,hb⟩:=Zq _ b;obtain⟨TT,w,F9,U,j⟩:=ft L h o a d c;obtain⟨Tx,Ax,Ty,Ay,q,c1⟩:=j hb;refine .inr ⟨Tx,Ax,Ty,Ay,c1,Vs L h o a d c F9 U q ?_ ?_ (r:=br) ?_⟩
   ·exact (show _=_ by unfold Cv;grind).trans (Qb (t:=t) (u:=xa-xo) (v:=ya-yo) (p:=(((xa-xo)*(xa-xo)+(ya-yo)*(ya-yo))+s-t)*AT (((xa-xo)*(xa-xo)+(ya-yo)*(ya-yo))+((xa-xo)*(xa-xo)+(ya-yo)*(ya-yo)))) (r:=sg) rfl l rfl (hb.sq c))
   ·exact (show _=_ by unfold Cv;grind).trans (Vu (u:=xa-xo) (v:=ya-yo) (p:=(((xa-xo)*(xa-xo)+(ya-yo)*(ya-yo))+s-t)*AT (((xa-xo)*(xa-xo)+(ya-yo)*(ya-yo))+((xa-xo)*(xa-xo)+(ya-yo)*(ya-yo)))) (r:=sg) rfl l (Qc l) rfl (hb.sq c))
   rw[show (xa-xo)*((((yo+(ya-yo)*(Cv xo yo xa ya s t))+(xa-xo)*sg))-yo)-(ya-yo)*((((xo+(xa-xo)*(Cv xo yo xa ya s t))+ -(ya-yo)*sg))-xo)=((xa-xo)*(xa-xo)+(ya-yo)*(ya-yo))*sg from (show _=_ by unfold Cv;grind).trans (Vw (u:=xa-xo) (v:=ya-yo) (p:=(((xa-xo)*(xa-xo)+(ya-yo)*(ya-yo))+s-t)*AT (((xa-xo)*(xa-xo)+(ya-yo)*(ya-yo))+((xa-xo)*(xa-xo)+(ya-yo)*(ya-yo)))) (r:=sg) rfl)];exact hb.ET c m
  obtain⟨e,he,j⟩:=fu L h o a c;exact .inl ⟨e,he,Je he (Mz (j br b).2.1)⟩
 exact .inl ⟨1,by decide,Je (by decide) (Mz (lW (Y6 (fun z=>b (.inl z)) (fun z=>b (.inr z)))))⟩
theorem ccS (L:Pl P V w0) (h:∀{r u},P (r::u)->u=[]) (o:DC (Tf P) w0 Ta Aa Tb Ab Tc Ac xo yo s) (a:DC (Tf P) w0 Td Ad Te Ae DU Af xa ya t) (D:Vm (Tf P) w0 2100 20 20 Tx Ax Ty Ay x y):Jo (Bj Ta Aa Tb Ab Tc Ac) (Bj Td Ad Te Ae DU Af) (.agg (AG Tx Ax Ty Ay)) 1:=by
 have F:=L.fl h;obtain⟨TT,w,F9,U⟩:=O1 L h;have d:=(U.v (by decide) (by decide) D).mono (l:=5) (l':=5) (by decide) (by decide);have B:=U.v (by decide) (by decide) o.o;have A:=U.v (by decide) (by decide) a.o;obtain⟨b1,b⟩:=Er ((x-xo)*(x-xo)+(y-yo)*(y-yo)=s);obtain⟨b2,c⟩:=Er ((x-xa)*(x-xa)+(y-ya)*(y-ya)=t);have m1:=Is F9 B (U (by decide) o.s) d b (by decide);have q:=LS F9 B (U (by decide) o.s) d b;have m2:=Is F9 A (U (by decide) a.s) d c (by decide);have z:=LS F9 A (U (by decide) a.s) d c;cases b1
 ·exact .inl ⟨LB KC m1,q⟩
 cases b2
 ·exact .inr (.inl ⟨On KC m1 m2,q,z⟩)
 by_cases j:¬(xo=xa/\yo=ya)/\0<(C6 xo yo xa ya s t)
 ·obtain⟨n,m⟩:∃n,n=BT ((xa-xo)*(y-yo)-(ya-yo)*(x-xo)):=⟨_,rfl⟩
  exact .inr (.inr (.inr ⟨n,Vs L h o a j.1 j.2 F9 U d (b.1 rfl) (c.1 rfl) m,q,z,Mz (Vt L h o a j.1 j.2 1 (.inl rfl)),lz (bA F9 B A d m (by decide))⟩))
 obtain⟨e,he,c1,C⟩:=fq L h o a j F9 U d (b.1 rfl) (c.1 rfl);exact .inr (.inr (.inl ⟨e,he,c1,q,z,Mz (C 1 (.inl rfl))⟩))
theorem o8 {W:List UInt8} {ns:List Nu} (ab:ns=(runN (X.take 24)).1) (aa:V.length<=3) (ad:∀n∈ns,CK V n) {br:Int} (ha:0<=pa/\pa<256) (hb:0<=pb/\pb<256) (hc:0<=pc/\pc<256) (hd:0<=pd/\pd<256) (hp:0<=pe/\pe<256):CF 3 [.agg [.sl B9 X,.sl .u8 W],.agg [.bool ca,.int .u8 pa,.int .u8 pb,.bool ba,.bool cb,.int .u8 pc,.int .u8 pd,.bool bb,.int .i64 br],.one (.int .u8 pe)] (.one (.bool true)):=by
 rcases jY (W:=W) (br:=br) (ca:=ca) (ba:=ba) (cb:=cb) (bb:=bb) ab aa ad ha hb hc hd with⟨Q,k1,k2,Ef,EV,Db,DZ,Eg,EW,Eh,EX,Ei,EY,Ej,EZ,Ek,Ea,Em,Eb,En,Ec,Eo,Ed,FL,FB,D8,D6,FM,FC,FN,FD,FO,FE,FP,FF,FQ,FG,FR,FH,FT,FI,FU,FJ,c⟩ |⟨w,L,Q,v1,v2,g1,g2,hQ,c⟩
 ·exact jf (xi:=(([],[]),[],[])) (tg:=([Ef,Db,Eg,Eh,Ei,Ej,Ek,Em,En,Eo].getD · [])) (ag:=([EV,DZ,EW,EX,EY,EZ,Ea,Eb,Ec,Ed].getD · [])) (th:=([FL,D8,FM,FN,FO,FP,FQ,FR,FT,FU].getD · [])) (ah:=([FB,D6,FC,FD,FE,FF,FG,FH,FI,FJ].getD · [])) RZ c
 obtain⟨xi,Xi,Yi,ei,vi⟩:=hQ.2 (pe%(Q.length:Int)).toNat (by
  have h1:=Int.emod_lt_of_pos pe (show (0:Int)<Q.length by have:=hQ.1;omega);have h2:=Int.emod_nonneg pe (show (Q.length:Int)≠0 by have:=hQ.1;omega);omega)
 cases ca <;> cases cb
 ·obtain⟨_,F,a,G,b,H,d,I,h,J,j,a1,a5,a7,ae,ao,ak,av,ia,rfl,d1⟩:=g1.resolve_left (fun z=>Bool.noConfusion z.1);obtain⟨_,HZ,HV,Ha,HW,R,q,S,u,T,A,a2,a6,a8,af,aq,an,aw,ib,rfl,d2⟩:=g2.resolve_left (fun z=>Bool.noConfusion z.1);exact Om (k1:=1) (k2:=1) (k:=0) (tg:=([F,G,H,I,J].getD · [])) (ag:=([a,b,d,h,j].getD · [])) (th:=([HZ,Ha,R,S,T].getD · [])) (ah:=([HV,HW,q,u,A].getD · [])) hp hQ.1 ei (by decide) (by decide) c (llF L IJ d1 d2 br) (llS L IJ d1 d2 vi)
 ·obtain⟨_,F,a,G,b,H,d,I,h,J,j,a1,a5,a7,ae,ao,ak,av,ia,rfl,d1⟩:=g1.resolve_left (fun z=>Bool.noConfusion z.1);obtain⟨_,U,B,Y,C,Z,D,aj,au,sb,rfl,d2⟩:=g2.resolve_right (fun z=>Bool.noConfusion z.1);exact Om (k1:=1) (k2:=2) (k:=1) (tg:=([F,G,H,I,J].getD · [])) (ag:=([a,b,d,h,j].getD · [])) (th:=([[],[],[],[],[],U,Y,Z].getD · [])) (ah:=([[],[],[],[],[],B,C,D].getD · [])) hp hQ.1 ei (by decide) (by decide) c ((XX L IJ d1 d2 br).1) ((XY L IJ d1 d2 vi).1)
 ·obtain⟨_,M,l,N,m,O,o,ai,ar,sa,rfl,d1⟩:=g1.resolve_right (fun z=>Bool.noConfusion z.1);obtain⟨_,HZ,HV,Ha,HW,R,q,S,u,T,A,a2,a6,a8,af,aq,an,aw,ib,rfl,d2⟩:=g2.resolve_left (fun z=>Bool.noConfusion z.1);exact Om (k1:=2) (k2:=1) (k:=1) (tg:=([[],[],[],[],[],M,N,O].getD · [])) (ag:=([[],[],[],[],[],l,m,o].getD · [])) (th:=([HZ,Ha,R,S,T].getD · [])) (ah:=([HV,HW,q,u,A].getD · [])) hp hQ.1 ei (by decide) (by decide) c ((XX L IJ d2 d1 br).2) ((XY L IJ d2 d1 vi).2)
 obtain⟨_,M,l,N,m,O,o,ai,ar,sa,rfl,d1⟩:=g1.resolve_right (fun z=>Bool.noConfusion z.1);obtain⟨_,U,B,Y,C,Z,D,aj,au,sb,rfl,d2⟩:=g2.resolve_right (fun z=>Bool.noConfusion z.1);exact Om (k1:=2) (k2:=2) (k:=1) (tg:=([[],[],[],[],[],M,N,O].getD · [])) (ag:=([[],[],[],[],[],l,m,o].getD · [])) (th:=([[],[],[],[],[],U,Y,Z].getD · [])) (ah:=([[],[],[],[],[],B,C,D].getD · [])) hp hQ.1 ei (by decide) (by decide) c (ccF L IJ d1 d2 br) (ccS L IJ d1 d2 vi)
end Go.Abs
