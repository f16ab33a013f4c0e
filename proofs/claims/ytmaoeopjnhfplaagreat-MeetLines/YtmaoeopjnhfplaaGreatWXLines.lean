/- Part 45 of a proof. Conditions: each theorem's own. -/
import Derived.Test.YtmaoeopjnhfplaaGreatPk42
import Derived.Test.YtmaoeopjnhfplaaGreatPk43
set_option linter.all false
set_option maxHeartbeats 8000000
set_option maxRecDepth 20000
open Go.Proofs
namespace Go.Abs
open Go.RowKit
variable {A1 A2 A3 A4 AK AN AO AT At BD BT BV Bj:LR} {T1 T2 T3 T4 AL AM AP AU Aw BE Ba BW Bm:List LR} {TT:List (List Rat)->Prop} {ka kb kc kd kf kn ko kq kr ks kt:Nat} {p:Rat} {sn:Int} {va vb vc vn vp vq vr vs vt xa xb xd xf xo ya yb yd yf yo:Re} {w:List (List Rat)}
theorem Oq (F:Fl TT w) (a:Co p):∃A,A=em [] (Re.ofRat p)/\Nm TT w 2100 1 [] A (Re.ofRat p):=⟨_,rfl,Gs F (by decide) (F2 a)⟩
theorem Cw (F:Fl TT w) {q:Rat} (b:Co p) (c:Co q):∃A a,(A=em [] (Re.ofRat p)/\a=em [] (Re.ofRat q))/\Vm TT w 2100 1 1 [] A [] a (Re.ofRat p) (Re.ofRat q):=
 ⟨_,_,⟨rfl,rfl⟩,Gs F (by decide) (F2 b),Gs F (by decide) (F2 c)⟩
theorem KS (F:Fl TT w) (ha:Nm TT w 2100 ka AL AK va) (hb:Nm TT w 2100 kb AM AN vb) (h:ka+kb+21<=43400000:=by omega):∃d c,Nm TT w 2100 (ka+kb+1) d c (va+vb)/\Bk Tryz.prog 135 [.one (.BC 0 0 0),.agg (As AL AK),.agg (As AM AN)] (.var 0 [.int .i64 0]) (.agg (As d c)):=by
 obtain⟨AP,AO,b,f,a⟩:=EU F ha hb;refine⟨AP,AO,b.mono (by omega),?_⟩;refine Bx Tryz.func135 fun E g=>?_
 conv=>cbv
 refine AB g a ?_;conv=>cbv
 refine AW 0 0 g FM ?_;try conv=>cbv
 refine fun _=>⟨⟨⟨t3,trivial⟩,rfl,by simp⟩,rfl⟩
theorem I5 (F:Fl TT w) (ha:Nm TT w 2100 ka AL AK va) (hb:Nm TT w 2100 kb AM AN vb) (h:ka+kb+21<=43400000:=by omega):∃d c,Nm TT w 2100 (ka+kb+1) d c (va-vb)/\Bk Tryz.prog 130 [.one (.BC 0 0 0),.agg (As AL AK),.agg (As AM AN)] (.var 0 [.int .i64 0]) (.agg (As d c)):=by
 obtain⟨AP,AO,b,f,a⟩:=DM F ha hb;refine⟨AP,AO,b.mono (by omega),?_⟩;refine Bx Tryz.func130 fun E g=>?_
 conv=>cbv
 refine AB g a ?_;conv=>cbv
 refine AW 0 0 g FM ?_;try conv=>cbv
 refine fun _=>⟨⟨⟨t3,trivial⟩,rfl,by simp⟩,rfl⟩
theorem GQ (F:Fl TT w) (ha:Nm TT w 2100 ka AL AK va) (hb:Nm TT w 2100 kb AM AN vb) (h:ka+kb+21<=43400000:=by omega):∃d c,Nm TT w 2100 (ka+kb+1) d c (va*vb)/\Bk Tryz.prog 131 [.one (.BC 0 0 0),.agg (As AL AK),.agg (As AM AN)] (.var 0 [.int .i64 0]) (.agg (As d c)):=by
 obtain⟨AP,AO,b,f,a⟩:=CN F ha hb;refine⟨AP,AO,b.mono (by omega),?_⟩;refine Bx Tryz.func131 fun E g=>?_
 conv=>cbv
 refine AB g a ?_;conv=>cbv
 refine AW 0 0 g FM ?_;try conv=>cbv
 refine fun _=>⟨⟨⟨t3,trivial⟩,rfl,by simp⟩,rfl⟩
theorem PE (F:Fl TT w) (ha:Vm TT w 2100 ka ka AL AK AM AN xa ya) (hb:Vm TT w 2100 kb kb AP AO AU AT xb yb) (l:ka+kb+21<=43400000:=by omega):∃h g b a,Vm TT w 2100 (ka+kb+1) (ka+kb+1) h g b a (xa-xb) (ya-yb)/\Bk Tryz.prog 129 [.one (.BC 0 0 0),.agg (AD AL AK AM AN),.agg (AD AP AO AU AT)] (.var 0 [.int .i64 0]) (.agg (AD h g b a)):=by
 obtain⟨Aw,At,BE,BD,d,c⟩:=FN F ha hb;have f:=d.cast (x':=xa-xb) (y':=ya-yb) (by grind) (by grind);refine⟨Aw,At,BE,BD,f.mono (by omega) (by omega),?_⟩;refine Bx Tryz.func129 fun E j=>?_
 conv=>cbv
 refine AB j c ?_;conv=>cbv
 refine AW 0 0 j NK ?_;try conv=>cbv
 refine fun _=>⟨⟨⟨⟨rfl,rfl,rfl,rfl,rfl,trivial⟩,trivial⟩,rfl,by simp⟩,rfl⟩
theorem PF (F:Fl TT w) (ha:Vm TT w 2100 ka ka AL AK AM AN xa ya) (g:2*ka+22<=43400000:=by omega):∃d c,Nm TT w 2100 (4*ka+3) d c (xa*xa+ya*ya)/\Bk Tryz.prog 134 [.one (.BC 0 0 0),.agg (AD AL AK AM AN)] (.var 0 [.int .i64 0]) (.agg (As d c)):=by
 obtain⟨AP,AO,b,a⟩:=H9 F ha;refine⟨AP,AO,b.mono (by omega),?_⟩;refine Bx Tryz.func134 fun E f=>?_
 conv=>cbv
 refine AB f a ?_;conv=>cbv
 refine AW 0 0 f FM ?_;try conv=>cbv
 refine fun _=>⟨⟨⟨t3,trivial⟩,rfl,by simp⟩,rfl⟩
theorem LO (F:Fl TT w) (ha:Vm TT w 2100 ka ka AL AK AM AN xa ya) (hb:Vm TT w 2100 kb kb AP AO AU AT xb yb) (j:2*ka+2*kb+24<=43400000:=by omega):∃g f,Nm TT w 2100 (4*ka+4*kb+7) g f ((xa-xb)*(xa-xb)+(ya-yb)*(ya-yb))/\Bk Tryz.prog 140 [.one (.BC 0 0 0),.agg (AD AL AK AM AN),.agg (AD AP AO AU AT)] (.var 0 [.int .i64 0]) (.agg (As g f)):=by
 obtain⟨BE,BD,Ba,BT,c,a⟩:=PE F ha hb;obtain⟨Bm,Bj,d,b⟩:=PF F c;refine⟨Bm,Bj,d.mono (by omega),?_⟩;refine Bx Tryz.func140 fun E h=>?_
 conv=>cbv
 refine AW 0 0 h a ?_;try conv=>cbv
 refine AW 0 0 h b ?_;try conv=>cbv
 refine fun _=>⟨⟨⟨t3,trivial⟩,rfl,by simp⟩,rfl⟩
theorem I3 (F:Fl TT w) (g:Vm TT w 2100 ko ko AL AK AM AN xo yo) (ha:Vm TT w 2100 ka ka AP AO AU AT xa ya) (h:¬(xo=xa/\yo=ya)) (j:2*ka+2*ko+83<=43400000:=by omega):∃f d,Nm TT w 2100 (4*ka+4*ko+7) f d ((xo-xa)*(xo-xa)+(yo-ya)*(yo-ya))/\CF 98 [.agg (AD AL AK AM AN),.agg (AD AP AO AU AT)] (.AI [(true,(AS AL AK AM AN f d)),(false,[.int .i64 0])]):=by
 obtain⟨BE,BD,b,a⟩:=LO F g ha;refine⟨BE,BD,b.mono (by omega),?_⟩;refine AZ Tryz.func98 fun E c=>?_
 conv=>cbv
 refine AB (r:= .one (.bool false)) c (CR F g ha (by omega) (by omega) (by omega) (by omega) (e:=false) ⟨fun z=>(by cases z),fun z=>absurd z h⟩) ?_;conv=>cbv
 refine AW 12 1 c a ?_;try conv=>cbv
 refine AW 12 1 c Vv ?_;try conv=>cbv
 refine BB ?_;exact AF ⟨⟨rfl,rfl,rfl,rfl,rfl,rfl,rfl,trivial⟩,t2,trivial⟩
theorem Ou (F:Fl TT w) (c:Vm TT w 2100 ko ko AL AK AM AN xo yo) (ha:Vm TT w 2100 ka ka AP AO AU AT xa ya) (a:xo=xa/\yo=ya) (d:2*ka+2*ko+83<=43400000:=by omega):CF 98 [.agg (AD AL AK AM AN),.agg (AD AP AO AU AT)] (.AI [(true,(AS [] [] [] [] [] [])),(false,[.int .i64 11])]):=by
 refine AZ Tryz.func98 fun E b=>?_
 conv=>cbv
 refine AB b (CR F c ha (by omega) (by omega) (by omega) (by omega) (e:=true) ⟨fun _=>a,fun _=>rfl⟩) ?_;conv=>cbv
 exact AF ⟨⟨rfl,AJ,AJ,AJ,AJ,AJ,AJ,trivial⟩,t2,trivial⟩
theorem Cc:Bk Tryz.prog 101 [.one (.BC 0 0 0),.agg (As T1 A1),.one (.int .i64 0)] (.var 0 [.int .i64 0]) (.agg (As T1 A1)):=by
 refine Bx Tryz.func101 fun E a=>?_
 conv=>cbv
 refine AR ?_;conv=>cbv
 refine fun _=>⟨⟨⟨t3,trivial⟩,rfl,by simp⟩,rfl⟩
theorem E0:Bk Tryz.prog 110 [.one (.BC 0 0 0),.agg (AD T1 A1 T2 A2),.one (.int .i64 0)] (.var 0 [.int .i64 0]) (.agg (AD T1 A1 T2 A2)):=by
 refine Bx Tryz.func110 fun E a=>?_
 conv=>cbv
 refine AR ?_;conv=>cbv
 refine fun _=>⟨⟨⟨⟨rfl,rfl,rfl,rfl,rfl,trivial⟩,trivial⟩,rfl,by simp⟩,rfl⟩
theorem KD:Bk Tryz.prog 103 [.one (.BC 0 0 0),.agg (AD T1 A1 T2 A2)] (.var 0 [.int .i64 0]) (.AI [(true,(AD T1 A1 T2 A2)),(false,[.int .i64 0])]):=by
 refine Bx Tryz.func103 fun E a=>?_
 conv=>cbv
 refine AR ?_;conv=>cbv
 refine fun _=>⟨⟨⟨⟨rfl,rfl,rfl,rfl,rfl,trivial⟩,t2,trivial⟩,rfl,by simp⟩,rfl⟩
theorem K6:CF 102 [.agg (AS T1 A1 T2 A2 T3 A3)] (.agg (AD T1 A1 T2 A2)):=by
 refine AZ Tryz.func102 fun E a=>?_
 conv=>cbv
 exact AF ⟨⟨rfl,rfl,rfl,rfl,rfl,trivial⟩,trivial⟩
theorem oB (F:Fl TT w) (ha:Nm TT w 2100 1 AL AK va) (hb:Nm TT w 2100 kb AM AN vb) (hc:Nm TT w 2100 kc AP AO vc) (c:Nm TT w 2100 1 AU AT vp) (d:Nm TT w 2100 kq Aw At vq) (f:Nm TT w 2100 kr BE BD vr) (a:¬(va=vp/\vb=vq)) (g:2*kb+2*kc+2*kq+2*kr+83<=43400000:=by omega):CF 100 [.agg (AS AL AK AM AN AP AO),.agg (AS AU AT Aw At BE BD)] (.one (.int .i64 0)):=by
 refine AZ Tryz.func100 fun E b=>?_
 conv=>cbv
 refine .inr ?_;refine AB (r:= .one (.bool false)) b (Ua F ⟨ha,hb,hc⟩ ⟨c,d,f⟩ (by omega) (by omega) (by omega) (by omega) (by omega) (e:=false) ⟨fun z=>(by cases z),fun z=>absurd z (fun z=>a z.1)⟩) ?_;conv=>cbv
 refine AB (r:= .one (.bool false)) b (Ub F ⟨ha,hb,hc⟩ ⟨c,d,f⟩ (by omega) (by omega) (by omega) (e:=false) ⟨fun z=>(by cases z),fun z=>absurd z a⟩) ?_;conv=>cbv
 exact AF ⟨t2,trivial⟩
theorem oC (F:Fl TT w) (ha:Nm TT w 2100 1 AL AK va) (hb:Nm TT w 2100 kb AM AN vb) (hc:Nm TT w 2100 kc AP AO vc) (b:Nm TT w 2100 1 AU AT vp) (c:Nm TT w 2100 kq Aw At vq) (d:Nm TT w 2100 kr BE BD vr) (f:¬((va=vp/\vb=vq)/\vc=vr)) (g:(va=vp/\vb=vq)) (h:2*kb+2*kc+2*kq+2*kr+83<=43400000:=by omega):CF 100 [.agg (AS AL AK AM AN AP AO),.agg (AS AU AT Aw At BE BD)] (.one (.int .i64 10)):=by
 refine AZ Tryz.func100 fun E a=>?_
 conv=>cbv
 refine .inr ?_;refine AB (r:= .one (.bool false)) a (Ua F ⟨ha,hb,hc⟩ ⟨b,c,d⟩ (by omega) (by omega) (by omega) (by omega) (by omega) (e:=false) ⟨fun z=>(by cases z),fun z=>absurd z f⟩) ?_;conv=>cbv
 refine AB a (Ub F ⟨ha,hb,hc⟩ ⟨b,c,d⟩ (by omega) (by omega) (by omega) (e:=true) ⟨fun _=>g,fun _=>rfl⟩) ?_;conv=>cbv
 exact AF ⟨t2,trivial⟩
theorem oD (F:Fl TT w) (ha:Nm TT w 2100 1 AL AK va) (hb:Nm TT w 2100 kb AM AN vb) (hc:Nm TT w 2100 kc AP AO vc) (c:Nm TT w 2100 1 AU AT vp) (d:Nm TT w 2100 kq Aw At vq) (f:Nm TT w 2100 kr BE BD vr) (a:((va=vp/\vb=vq)/\vc=vr)) (g:2*kb+2*kc+2*kq+2*kr+83<=43400000:=by omega):CF 100 [.agg (AS AL AK AM AN AP AO),.agg (AS AU AT Aw At BE BD)] (.one (.int .i64 11)):=by
 refine AZ Tryz.func100 fun E b=>?_
 conv=>cbv
 refine .inr ?_;refine AB b (Ua F ⟨ha,hb,hc⟩ ⟨c,d,f⟩ (by omega) (by omega) (by omega) (by omega) (by omega) (e:=true) ⟨fun _=>a,fun _=>rfl⟩) ?_;conv=>cbv
 exact AF ⟨t2,trivial⟩
theorem qL (F:Fl TT w) (ha:Nm TT w 2100 1 AL AK va) (hb:Nm TT w 2100 kb AM AN vb) (hc:Nm TT w 2100 kc AP AO vc) (c:Nm TT w 2100 1 AU AT vp) (d:Nm TT w 2100 kq Aw At vq) (f:Nm TT w 2100 kr BE BD vr) (a:¬(va=vp/\vb=vq)) (g:2*kb+2*kc+2*kq+2*kr+83<=43400000:=by omega):CF 121 [.agg (AS AL AK AM AN AP AO),.agg (AS AU AT Aw At BE BD)] (.one (.int .i64 0)):=by
 refine AZ Tryz.func121 fun E b=>?_
 conv=>cbv
 refine AB (r:= .one (.bool false)) b (VT F ⟨ha,hb,hc⟩ ⟨c,d,f⟩ (by omega) (by omega) (by omega) (by omega) (by omega) (e:=false) ⟨fun z=>(by cases z),fun z=>absurd z (fun z=>a z.1)⟩) ?_;conv=>cbv
 refine AB (r:= .one (.bool false)) b (VX F ⟨ha,hb,hc⟩ ⟨c,d,f⟩ (by omega) (by omega) (by omega) (e:=false) ⟨fun z=>(by cases z),fun z=>absurd z a⟩) ?_;conv=>cbv
 exact AF ⟨t2,trivial⟩
theorem qM (F:Fl TT w) (ha:Nm TT w 2100 1 AL AK va) (hb:Nm TT w 2100 kb AM AN vb) (hc:Nm TT w 2100 kc AP AO vc) (b:Nm TT w 2100 1 AU AT vp) (c:Nm TT w 2100 kq Aw At vq) (d:Nm TT w 2100 kr BE BD vr) (f:¬((va=vp/\vb=vq)/\vc=vr)) (g:(va=vp/\vb=vq)) (h:2*kb+2*kc+2*kq+2*kr+83<=43400000:=by omega):CF 121 [.agg (AS AL AK AM AN AP AO),.agg (AS AU AT Aw At BE BD)] (.one (.int .i64 10)):=by
 refine AZ Tryz.func121 fun E a=>?_
 conv=>cbv
 refine AB (r:= .one (.bool false)) a (VT F ⟨ha,hb,hc⟩ ⟨b,c,d⟩ (by omega) (by omega) (by omega) (by omega) (by omega) (e:=false) ⟨fun z=>(by cases z),fun z=>absurd z f⟩) ?_;conv=>cbv
 refine AB a (VX F ⟨ha,hb,hc⟩ ⟨b,c,d⟩ (by omega) (by omega) (by omega) (e:=true) ⟨fun _=>g,fun _=>rfl⟩) ?_;conv=>cbv
 exact AF ⟨t2,trivial⟩
theorem qN (F:Fl TT w) (ha:Nm TT w 2100 1 AL AK va) (hb:Nm TT w 2100 kb AM AN vb) (hc:Nm TT w 2100 kc AP AO vc) (c:Nm TT w 2100 1 AU AT vp) (d:Nm TT w 2100 kq Aw At vq) (f:Nm TT w 2100 kr BE BD vr) (a:((va=vp/\vb=vq)/\vc=vr)) (g:2*kb+2*kc+2*kq+2*kr+83<=43400000:=by omega):CF 121 [.agg (AS AL AK AM AN AP AO),.agg (AS AU AT Aw At BE BD)] (.one (.int .i64 11)):=by
 refine AZ Tryz.func121 fun E b=>?_
 conv=>cbv
 refine AB b (VT F ⟨ha,hb,hc⟩ ⟨c,d,f⟩ (by omega) (by omega) (by omega) (by omega) (by omega) (e:=true) ⟨fun _=>a,fun _=>rfl⟩) ?_;conv=>cbv
 exact AF ⟨t2,trivial⟩
theorem aT (F:Fl TT w) (ha:Nm TT w 2100 1 AL AK va) (hb:Nm TT w 2100 kb AM AN vb) (hc:Nm TT w 2100 kc AP AO vc) (d:Nm TT w 2100 1 AU AT vp) (f:Nm TT w 2100 kq Aw At vq) (g:Nm TT w 2100 kr BE BD vr) (a:¬((va=vp/\vb=vq)/\vc=vr)) (b:(va=vp/\vb=vq)) (h:2*kb+2*kc+2*kq+2*kr+83<=43400000:=by omega):CF 41 [.agg (AS AL AK AM AN AP AO),.agg (AS AU AT Aw At BE BD)] (.AI [(true,(AD [] [] [] [])),(false,[.int .i64 10])]):=by
 refine AZ Tryz.func41 fun E c=>?_
 conv=>cbv
 refine AB c (oC F ha hb hc d f g a b) ?_;conv=>cbv
 refine BM ?_;conv=>cbv
 exact AF ⟨⟨rfl,AJ,AJ,AJ,AJ,trivial⟩,t2,trivial⟩
theorem aU (F:Fl TT w) (ha:Nm TT w 2100 1 AL AK va) (hb:Nm TT w 2100 kb AM AN vb) (hc:Nm TT w 2100 kc AP AO vc) (c:Nm TT w 2100 1 AU AT vp) (d:Nm TT w 2100 kq Aw At vq) (f:Nm TT w 2100 kr BE BD vr) (a:((va=vp/\vb=vq)/\vc=vr)) (g:2*kb+2*kc+2*kq+2*kr+83<=43400000:=by omega):CF 41 [.agg (AS AL AK AM AN AP AO),.agg (AS AU AT Aw At BE BD)] (.AI [(true,(AD [] [] [] [])),(false,[.int .i64 11])]):=by
 refine AZ Tryz.func41 fun E b=>?_
 conv=>cbv
 refine AB b (oD F ha hb hc c d f a) ?_;conv=>cbv
 refine BM ?_;conv=>cbv
 exact AF ⟨⟨rfl,AJ,AJ,AJ,AJ,trivial⟩,t2,trivial⟩
theorem aS (F:Fl TT w) {xx yx:Re} {kx:Nat} (ha:Nm TT w 2100 1 AL AK va) (hb:Nm TT w 2100 kb AM AN vb) (hc:Nm TT w 2100 kc AP AO vc) (T:Nm TT w 2100 1 AU AT vp) (U:Nm TT w 2100 kq Aw At vq) (W:Nm TT w 2100 kr BE BD vr) (hx:Vm TT w 2100 kx kx Ba BT BW BV xx yx) (h2:¬(va=vp/\vb=vq)) (hd:va*vq-vb*vp≠0) (R:(vc*vq-vb*vr)*AE (va*vq-vb*vp)=xx) (S:(va*vr-vc*vp)*AE (va*vq-vb*vp)=yx) (hM:46*kb+2*kc+46*kq+2*kr+196<=43400000:=by omega):∃U0 B0 l j,Vm TT w 2100 (kx) (kx) U0 B0 l j (xx) (yx)/\CF 41 [.agg (AS AL AK AM AN AP AO),.agg (AS AU AT Aw At BE BD)] (.AI [(true,(AD U0 B0 l j)),(false,[.int .i64 0])]):=by
 have u:Vm _ w 2100 (kb+1) (kb+1) AL AK AM AN _ _:=⟨ha.mono (by omega),hb.mono (by omega)⟩;have z:Vm _ w 2100 (kq+1) (kq+1) AU AT Aw At _ _:=⟨T.mono (by omega),U.mono (by omega)⟩;obtain⟨a2,Y,A,m⟩:=Na F u z;have B:Vm _ w 2100 (kb+kc) (kb+kc) AP AO AM AN _ _:=⟨hc.mono (by omega),hb.mono (by omega)⟩;have C:Vm _ w 2100 (kq+kr) (kq+kr) BE BD Aw At _ _:=⟨W.mono (by omega),U.mono (by omega)⟩;obtain⟨a5,Z,D,n⟩:=Na F B C;have G:Vm _ w 2100 (kc+1) (kc+1) AL AK AP AO _ _:=⟨ha.mono (by omega),hc.mono (by omega)⟩;have H:Vm _ w 2100 (kr+1) (kr+1) AU AT BE BD _ _:=⟨T.mono (by omega),W.mono (by omega)⟩;obtain⟨a6,a1,I,o⟩:=Na F G H;have h:=A.cast (y:=va*vq-vb*vp) (by grind);obtain⟨f,b,J,q,a7⟩:=DE F D h (d:=46*kb+46*kq+175) (by omega) hd
 obtain⟨g,c,L,r,a8⟩:=DE F I h (d:=46*kb+46*kq+175) (by omega) hd;have M:Vm _ w 2100 (48*kb+2*kc+48*kq+2*kr+183) (48*kb+2*kc+48*kq+2*kr+183) f b g c _ _:=⟨J.mono (by omega),L.mono (by omega)⟩;have N:=M.shrink hx (by rw[<-R];grind) (by rw[<-S];grind);have O:=N.cast (x':=xx) (y':=yx) (by rw[<-R];grind) (by rw[<-S];grind);refine⟨f,b,g,c,O.mono (by omega) (by omega),?_⟩;refine AZ Tryz.func41 fun E a=>?_
 conv=>cbv
 refine AB a (oB F ha hb hc T U W h2) ?_;conv=>cbv
 refine AR ?_;conv=>cbv
 refine AB a K6 ?_;conv=>cbv
 refine AB a K6 ?_;conv=>cbv
 refine AB a m ?_;conv=>cbv
 refine AW 19 1 a Cc ?_;try conv=>cbv
 refine BB ?_;refine AB a n ?_;conv=>cbv
 refine AW 19 1 a Cc ?_;try conv=>cbv
 refine AB a o ?_;conv=>cbv
 refine AW 19 1 a Cc ?_;try conv=>cbv
 refine AB a q ?_;conv=>cbv
 refine AW 19 1 a Cc ?_;try conv=>cbv
 refine AB a r ?_;conv=>cbv
 refine AW 19 1 a Cc ?_;try conv=>cbv
 refine AW 19 1 a KD ?_;try conv=>cbv
 refine BB ?_;exact AF ⟨⟨rfl,rfl,rfl,rfl,rfl,trivial⟩,t2,trivial⟩
theorem GO:CF 118 [.one (.int .i64 1)] (.one (.bool true)):=by
 refine AZ Tryz.func118 fun E a=>?_
 conv=>cbv
 refine BM ?_;conv=>cbv
 exact AF ⟨t2,trivial⟩
theorem Gr:CF 118 [.one (.int .i64 (-1))] (.one (.bool true)):=by
 refine AZ Tryz.func118 fun E a=>?_
 conv=>cbv
 refine AR ?_;conv=>cbv
 refine BM ?_;conv=>cbv
 exact AF ⟨t2,trivial⟩
theorem IK:CF 202 [.one (.int .i64 1)] (.one (.bool true)):=by
 refine AZ Tryz.func202 fun E a=>?_
 conv=>cbv
 refine BM ?_;conv=>cbv
 exact AF ⟨t2,trivial⟩
theorem IJ:CF 202 [.one (.int .i64 (-1))] (.one (.bool true)):=by
 refine AZ Tryz.func202 fun E a=>?_
 conv=>cbv
 refine AR ?_;conv=>cbv
 refine BM ?_;conv=>cbv
 exact AF ⟨t2,trivial⟩
theorem KA (F:Fl TT w) (ha:Nm TT w 2100 1 AL AK va) (hb:Nm TT w 2100 kb AM AN vb) (hc:Nm TT w 2100 kc AP AO vc) (l:Vm TT w 2100 kd kd AU AT Aw At xd yd) (n:va*xd+vb*yd=0) (m:¬(xd=0/\yd=0)) (o:2*kb+2*kd+26<=43400000:=by omega):CF 119 [.agg (AS AL AK AM AN AP AO),.agg (AD AU AT Aw At)] (.one (.bool true)):=by
 have d:Vm _ w 2100 (kb+1) (kb+1) AL AK AM AN _ _:=⟨ha.mono (by omega),hb.mono (by omega)⟩;obtain⟨Ba,BT,f,b⟩:=GD F d l;obtain⟨g,a,c,j⟩:=Ci F f;obtain rfl:g=0:=a.trans ((congrArg Bi n).trans GA);refine AZ Tryz.func119 fun E h=>?_
 conv=>cbv
 refine AB h K6 ?_;conv=>cbv
 refine AB h b ?_;conv=>cbv
 refine BB ?_;refine BM ?_;conv=>cbv
 refine AB h c ?_;conv=>cbv
 refine BM ?_;conv=>cbv
 refine AB (r:= .one (.bool false)) h (SN F l (by omega) (by omega) (e:=false) ⟨fun z=>(by cases z),fun z=>absurd z m⟩) ?_;conv=>cbv
 refine BM ?_;conv=>cbv
 exact AF ⟨t2,trivial⟩
theorem Gd {s:Int} (h:CF 156 [.agg (As T1 A1)] (.one (.int .i64 s))):Bk Tryz.prog 127 [.one (.BC 0 0 0),.agg (As T1 A1)] (.var 0 [.int .i64 0]) (.one (.int .i64 s)):=by
 refine Bx Tryz.func127 fun E a=>?_
 conv=>cbv
 refine AR ?_;conv=>cbv
 refine AB a h ?_;conv=>cbv
 refine fun _=>⟨⟨⟨t2,trivial⟩,rfl,by simp⟩,rfl⟩
theorem ND (F:Fl TT w) (ha:Nm TT w 2100 1 AL AK va) (hb:Nm TT w 2100 kb AM AN vb) (hc:Nm TT w 2100 kc AP AO vc) (n:Vm TT w 2100 kd kd AU AT Aw At xd yd) (u:va*xd+vb*yd=0) (q:¬(xd=0/\yd=0)) (A:kb+2*kd+25<=43400000:=by omega):CF 203 [.agg (AS AL AK AM AN AP AO),.agg (AD AU AT Aw At)] (.one (.bool true)):=by
 obtain⟨Ba,BT,g,b⟩:=GQ F ha n.x;obtain⟨Bm,Bj,h,c⟩:=GQ F hb n.y;obtain⟨Bu,Bp,j,d⟩:=KS F g h;obtain⟨m,a,o,f⟩:=Ci F j;obtain rfl:m=0:=a.trans ((congrArg Bi u).trans GA);refine AZ Tryz.func203 fun E l=>?_
 conv=>cbv
 refine AW 8 1 l b ?_;try conv=>cbv
 refine AW 8 1 l c ?_;try conv=>cbv
 refine AW 8 1 l d ?_;try conv=>cbv
 refine BB ?_;refine AB (r:= .one (.bool false)) l (IQ F n (by omega) (by omega) (e:=false) ⟨fun z=>(by cases z),fun z=>absurd z q⟩) ?_;conv=>cbv
 refine BM ?_;conv=>cbv
 refine AW 8 1 l (Gd f) ?_;try conv=>cbv
 refine BM ?_;conv=>cbv
 exact AF ⟨t2,trivial⟩
theorem Oe (F:Fl TT w) {Bw Bu:List LR} {Bq Bp:LR} (ha:Nm TT w 2100 1 AL AK va) (hb:Nm TT w 2100 kb AM AN vb) (hc:Nm TT w 2100 kc AP AO vc) (hd:Vm TT w 2100 kd kd AU AT Aw At xd yd) (ho:Vm TT w 2100 ko ko BE BD Ba BT xo yo) (hs:Nm TT w 2100 ks BW BV vs) (hf:Vm TT w 2100 kf kf Bm Bj Bw Bq xf yf) (hn:Nm TT w 2100 kn Bu Bp vn) (h0:¬(va=0/\vb=0)) (m:xo-va*(Fg va vb vc xo yo*Re.ofRat ((1:Int):Rat))=xf) (n:yo-vb*(Fg va vb vc xo yo*Re.ofRat ((1:Int):Rat))=yf) (N:xd*xd+yd*yd≠0) (M:(vs-((xo-xf)*(xo-xf)+(yo-yf)*(yo-yf)))*AE (xd*xd+yd*yd)=vn) (hM:190*kb+4*kc+92*kd+16*ko+ks+587<=43400000):∃U0 T u q U1 U,Vm TT w 2100 (kf) (kf) U0 T u q (xf) (yf)/\Nm TT w 2100 (kn) U1 U (vn)/\CF 114 [.agg (AS AL AK AM AN AP AO),.agg (AD AU AT Aw At),.agg (AS BE BD Ba BT BW BV)] (.AI [(true,(B9 U0 T u q AU AT Aw At U1 U)),(false,[.int .i64 0])]):=by
 obtain⟨h,f,j,g,l,z⟩:=Q1 F ⟨ha,hb,hc⟩ ho h0 (Nat.le_refl _);have a:Vm _ w 2100 kf kf h f j g _ _:=⟨l.x.shrink hf.x (m),l.y.shrink hf.y (n)⟩;have a:=a.cast (x':=xf) (y':=yf) (m) (n);obtain⟨W,O,b,A⟩:=Ud F ⟨ha,hb,hc⟩ ho h0 (Nat.le_refl _);have b:=b.cast (y:=(xo-xf)*(xo-xf)+(yo-yf)*(yo-yf)) (by rw[m,n]);obtain⟨Y,R,G,B,a1⟩:=DM F hs b;obtain⟨Z,S,H,C⟩:=GF F hd;obtain⟨r,o,I,D,a2⟩:=DE F G H (d:=92*kd+83) (by omega) N;have J:=I.shrink hn (M);have L:=J.cast (y:=vn) (M);refine⟨h,f,j,g,r,o,a.mono (by omega) (by omega),L.mono (by omega),?_⟩;refine AZ Tryz.func114 fun E c=>?_
 conv=>cbv
 refine AB c z ?_;conv=>cbv
 refine AW 13 1 c E0 ?_;try conv=>cbv
 refine AB c A ?_;conv=>cbv
 refine AW 13 1 c Cc ?_;try conv=>cbv
 refine AB c B ?_;conv=>cbv
 refine AW 13 1 c Cc ?_;try conv=>cbv
 refine BB ?_;refine AB c C ?_;conv=>cbv
 refine AW 13 1 c Cc ?_;try conv=>cbv
 refine AB c D ?_;conv=>cbv
 refine AW 13 1 c Cc ?_;try conv=>cbv
 refine BB ?_;refine BB ?_;exact AF ⟨⟨rfl,rfl,rfl,rfl,rfl,rfl,rfl,rfl,rfl,rfl,rfl,trivial⟩,t2,trivial⟩
theorem Ix (F:Fl TT w) (ho:Vm TT w 2100 ko ko AL AK AM AN xo yo) (hs:Nm TT w 2100 ks AP AO vs) (ha:Vm TT w 2100 ka ka AU AT Aw At xa ya) (ht:Nm TT w 2100 kt BE BD vt) (hf:Vm TT w 2100 kf kf Ba BT BW BV xf yf) (hn:Nm TT w 2100 kn Bm Bj vn) (hq:(xa-xo)*(xa-xo)+(ya-yo)*(ya-yo)≠0) (aa:xo+(xa-xo)*(((xa-xo)*(xa-xo)+(ya-yo)*(ya-yo)+vs-vt)*AE ((xa-xo)*(xa-xo)+(ya-yo)*(ya-yo)+((xa-xo)*(xa-xo)+(ya-yo)*(ya-yo))))=xf) (ab:yo+(ya-yo)*(((xa-xo)*(xa-xo)+(ya-yo)*(ya-yo)+vs-vt)*AE ((xa-xo)*(xa-xo)+(ya-yo)*(ya-yo)+((xa-xo)*(xa-xo)+(ya-yo)*(ya-yo))))=yf) (ad:vs*AE ((xa-xo)*(xa-xo)+(ya-yo)*(ya-yo))-((xa-xo)*(xa-xo)+(ya-yo)*(ya-yo)+vs-vt)*AE ((xa-xo)*(xa-xo)+(ya-yo)*(ya-yo)+((xa-xo)*(xa-xo)+(ya-yo)*(ya-yo)))*(((xa-xo)*(xa-xo)+(ya-yo)*(ya-yo)+vs-vt)*AE ((xa-xo)*(xa-xo)+(ya-yo)*(ya-yo)+((xa-xo)*(xa-xo)+(ya-yo)*(ya-yo))))=vn) (hM:376*ka+376*ko+2*ks+2*kt+760<=43400000:=by omega):∃U0 B0 u m U1 B1 z n U2 B2,Vm TT w 2100 (kf) (kf) U0 B0 u m (xf) (yf)/\Vm TT w 2100 (ka+ko+1) (ka+ko+1) U1 B1 z n (-(ya-yo)) (xa-xo)/\Nm TT w 2100 (kn) U2 B2 (vn)/\CF 116 [.agg (AS AL AK AM AN AP AO),.agg (AS AU AT Aw At BE BD)] (.AI [(true,(B9 U0 B0 u m U1 B1 z n U2 B2)),(false,[.int .i64 0])]):=by
 obtain⟨Bw,Bq,Bu,Bp,c,A⟩:=Dm F ha ho;obtain⟨aq,ae,b,B⟩:=GF F c;obtain⟨ar,af,R,C,aB⟩:=EU F b hs;obtain⟨au,ag,S,D,aC⟩:=DM F R ht;obtain⟨av,ah,T,G,aD⟩:=EU F b b;obtain⟨aw,ai,f,H,aE⟩:=DE F S T (d:=184*ka+184*ko+359) (by omega) (NI hq);obtain⟨ax,aj,ay,ak,U,I⟩:=Ho F c f;obtain⟨o,g,q,h,W,J⟩:=Fw F ho U;have Y:=W.shrink hf (aa) (ab);have Z:=Y.cast (x':=xf) (y':=yf) (aa) (ab);obtain⟨az,an,a1,L,aF⟩:=DE F hs b (d:=92*ka+92*ko+175) (by omega) hq
 obtain⟨aA,ao,a2,M,aG⟩:=CN F f f;obtain⟨r,j,a5,N,aH⟩:=DM F a1 a2;have a6:=a5.shrink hn (ad);have a7:=a6.cast (y:=vn) (ad);obtain⟨l,a8,O⟩:=Nb F c;refine⟨o,g,q,h,Bu,l,Bw,Bq,r,j,Z.mono (by omega) (by omega),a8.mono (by omega) (by omega),a7.mono (by omega),?_⟩;refine AZ Tryz.func116 fun E a=>?_
 conv=>cbv
 refine AB a A ?_;conv=>cbv
 refine AW 13 1 a E0 ?_;try conv=>cbv
 refine AB a B ?_;conv=>cbv
 refine AW 13 1 a Cc ?_;try conv=>cbv
 refine AB a C ?_;conv=>cbv
 refine AW 13 1 a Cc ?_;try conv=>cbv
 refine AB a D ?_;conv=>cbv
 refine AW 13 1 a Cc ?_;try conv=>cbv
 refine BB ?_;refine AB a G ?_;conv=>cbv
 refine AW 13 1 a Cc ?_;try conv=>cbv
 refine AB a H ?_;conv=>cbv
 refine AW 13 1 a Cc ?_;try conv=>cbv
 refine BB ?_;refine AB a I ?_;conv=>cbv
 refine AW 13 1 a E0 ?_;try conv=>cbv
 refine AB a J ?_;conv=>cbv
 refine AW 13 1 a E0 ?_;try conv=>cbv
 refine BB ?_;refine AB a L ?_;conv=>cbv
 refine AW 13 1 a Cc ?_;try conv=>cbv
 refine AB a M ?_;conv=>cbv
 refine AW 13 1 a Cc ?_;try conv=>cbv
 refine AB a N ?_;conv=>cbv
 refine AW 13 1 a Cc ?_;try conv=>cbv
 refine BB ?_;refine AB a O ?_;conv=>cbv
 refine BB ?_;exact AF ⟨⟨rfl,rfl,rfl,rfl,rfl,rfl,rfl,rfl,rfl,rfl,rfl,trivial⟩,t2,trivial⟩
theorem Ga (F:Fl TT w) (g:Nm TT w 2100 kn AL AK vn) (h:Bi vn=1) (j:kn+21<=43400000:=by omega):CF 117 [.agg (B9 T1 A1 T2 A2 T3 A3 T4 A4 AL AK)] (.one (.int .i64 0)):=by
 obtain⟨c,a,b,d⟩:=Ci F g;obtain rfl:c=1:=a.trans (h);refine AZ Tryz.func117 fun E f=>?_
 conv=>cbv
 refine AB f b ?_;conv=>cbv
 refine .inr ?_;refine AR ?_;conv=>cbv
 refine AR ?_;conv=>cbv
 exact AF ⟨t2,trivial⟩
theorem JW (F:Fl TT w) (g:Nm TT w 2100 kn AL AK vn) (h:Bi vn=0) (j:kn+21<=43400000:=by omega):CF 117 [.agg (B9 T1 A1 T2 A2 T3 A3 T4 A4 AL AK)] (.one (.int .i64 12)):=by
 obtain⟨c,a,b,d⟩:=Ci F g;obtain rfl:c=0:=a.trans (h);refine AZ Tryz.func117 fun E f=>?_
 conv=>cbv
 refine AB f b ?_;conv=>cbv
 refine .inr ?_;refine AR ?_;conv=>cbv
 refine BM ?_;conv=>cbv
 exact AF ⟨t2,trivial⟩
theorem JX (F:Fl TT w) (g:Nm TT w 2100 kn AL AK vn) (h:Bi vn= -1) (j:kn+21<=43400000:=by omega):CF 117 [.agg (B9 T1 A1 T2 A2 T3 A3 T4 A4 AL AK)] (.one (.int .i64 7)):=by
 obtain⟨c,a,b,d⟩:=Ci F g;obtain rfl:c= -1:=a.trans (h);refine AZ Tryz.func117 fun E f=>?_
 conv=>cbv
 refine AB f b ?_;conv=>cbv
 refine .inr ?_;refine BM ?_;conv=>cbv
 exact AF ⟨t2,trivial⟩
theorem G4 (F:Fl TT w) (c:Vm TT w 2100 ko ko AL AK AM AN xo yo) (f:Nm TT w 2100 ks AP AO vs) (ha:Vm TT w 2100 ka ka AU AT Aw At xa ya) (ht:Nm TT w 2100 kt BE BD vt) (a:¬(xo=xa/\yo=ya)) (d:2*ka+2*ko+83<=43400000:=by omega):CF 115 [.agg (AS AL AK AM AN AP AO),.agg (AS AU AT Aw At BE BD)] (.one (.int .i64 0)):=by
 refine AZ Tryz.func115 fun E b=>?_
 conv=>cbv
 refine .inr ?_;refine AB (r:= .one (.bool false)) b (PW F c ha (by omega) (by omega) (by omega) (by omega) (e:=false) ⟨fun z=>(by cases z),fun z=>absurd z a⟩) ?_;conv=>cbv
 refine BM ?_;conv=>cbv
 exact AF ⟨t2,trivial⟩
theorem Ox (F:Fl TT w) (ha:Nm TT w 2100 1 AL AK va) (hb:Nm TT w 2100 kb AM AN vb) (hc:Nm TT w 2100 kc AP AO vc) (o:Vm TT w 2100 ko ko AU AT Aw At xo yo) (q:Nm TT w 2100 ks BE BD vs) (n:¬(va=0/\vb=0)) (l:sn=Bi (vs-(va*xo+vb*yo-vc)*(va*xo+vb*yo-vc)*AE (va*va+vb*vb))) (r:48*kb+2*kc+4*ko+ks+163<=43400000:=by omega):CF 205 [.agg (AS AL AK AM AN AP AO),.agg (AS AU AT Aw At BE BD)] (.one (.int .i64 sn)):=by
 obtain⟨Ba,BT,f,b⟩:=VY F ⟨ha,hb,hc⟩ o n (Nat.le_refl _);obtain⟨Bm,Bj,g,c⟩:=I5 F q f;obtain⟨h,a,m,d⟩:=Ci F g;obtain rfl:sn=h:=(l.symm).symm.trans a.symm;refine AZ Tryz.func205 fun E j=>?_
 conv=>cbv
 refine AB j b ?_;conv=>cbv
 refine AW 9 1 j c ?_;try conv=>cbv
 refine AW 9 1 j (Gd d) ?_;try conv=>cbv
 exact AF ⟨t2,trivial⟩
theorem O5 (F:Fl TT w) (Z:Vm TT w 2100 ko ko AL AK AM AN xo yo) (Y:Nm TT w 2100 ks AP AO vs) (ha:Vm TT w 2100 ka ka AU AT Aw At xa ya) (ht:Nm TT w 2100 kt BE BD vt) (G:sn=Bi (Re.ofRat ((4:Int):Rat)*(((xo-xa)*(xo-xa)+(yo-ya)*(yo-ya))*vs)-((xo-xa)*(xo-xa)+(yo-ya)*(yo-ya)+vs-vt)*((xo-xa)*(xo-xa)+(yo-ya)*(yo-ya)+vs-vt))) (hM:12*ka+12*ko+3*ks+2*kt+51<=43400000):CF 207 [.agg (AS AL AK AM AN AP AO),.agg (AS AU AT Aw At BE BD)] (.one (.int .i64 sn)):=by
 obtain⟨BW,BV,b,g⟩:=LO F Z ha;obtain⟨Bw,Bq,r,h⟩:=KS F b Y;obtain⟨O,H,c,j⟩:=I5 F r ht;obtain⟨R,I,u,l⟩:=GQ F b Y;obtain⟨J,d,z⟩:=Oq F (p:=((4:Int):Rat)) (by decide +kernel);obtain⟨S,L,A,m⟩:=GQ F z u;obtain⟨T,M,B,n⟩:=GQ F c c;obtain⟨U,N,C,o⟩:=I5 F A B;obtain⟨D,f,W,q⟩:=Ci F C;obtain rfl:sn=D:=(G.symm).symm.trans f.symm;refine AZ Tryz.func207 fun E a=>?_
 conv=>cbv
 refine AW 10 1 a g ?_;try conv=>cbv
 refine AW 10 1 a h ?_;try conv=>cbv
 refine AW 10 1 a j ?_;try conv=>cbv
 refine BB ?_;refine AW 10 1 a l ?_;try conv=>cbv
 refine AB a (JL (by decide) d) ?_;conv=>cbv
 refine AW 10 1 a m ?_;try conv=>cbv
 refine AW 10 1 a n ?_;try conv=>cbv
 refine AW 10 1 a o ?_;try conv=>cbv
 refine AW 10 1 a (Gd q) ?_;try conv=>cbv
 refine BB ?_;exact AF ⟨t2,trivial⟩
theorem KL:CF 204 [.one (.int .i64 0)] (.one (.int .i64 12)):=by
 refine AZ Tryz.func204 fun E a=>?_
 conv=>cbv
 refine AR ?_;conv=>cbv
 refine BM ?_;conv=>cbv
 exact AF ⟨t2,trivial⟩
theorem KM:CF 204 [.one (.int .i64 (-1))] (.one (.int .i64 7)):=by
 refine AZ Tryz.func204 fun E a=>?_
 conv=>cbv
 refine BM ?_;conv=>cbv
 exact AF ⟨t2,trivial⟩
end Go.Abs
namespace Go.Abs
open Go.RowKit
abbrev Eg (T1:List LR) (A1:LR) (T2:List LR) (A2:LR) (T3:List LR) (A3:LR) (T4:List LR) (A4:LR) (T5:List LR) (A5:LR):AV:= .agg [.int .i64 1,.sl (.sl AA) T1,.sl AA A1,.sl (.sl AA) T2,.sl AA A2,.sl (.sl AA) T3,.sl AA A3,.sl (.sl AA) T4,.sl AA A4,.sl (.sl AA) T5,.sl AA A5,.sl (.sl AA) [],.sl AA [],.sl (.sl AA) [],.sl AA [],.sl (.sl AA) [],.sl AA [],.sl (.sl AA) [],.sl AA [],.sl (.sl AA) [],.sl AA []]
abbrev DJ (T1:List LR) (A1:LR) (T2:List LR) (A2:LR) (T3:List LR) (A3:LR):AV:= .agg [.int .i64 2,.sl (.sl AA) [],.sl AA [],.sl (.sl AA) [],.sl AA [],.sl (.sl AA) [],.sl AA [],.sl (.sl AA) [],.sl AA [],.sl (.sl AA) [],.sl AA [],.sl (.sl AA) T1,.sl AA A1,.sl (.sl AA) T2,.sl AA A2,.sl (.sl AA) T3,.sl AA A3,.sl (.sl AA) [],.sl AA [],.sl (.sl AA) [],.sl AA []]
abbrev Z3 (T1:List LR) (A1:LR) (T2:List LR) (A2:LR):AV:= .agg [.int .i64 3,.sl (.sl AA) [],.sl AA [],.sl (.sl AA) [],.sl AA [],.sl (.sl AA) [],.sl AA [],.sl (.sl AA) [],.sl AA [],.sl (.sl AA) [],.sl AA [],.sl (.sl AA) [],.sl AA [],.sl (.sl AA) [],.sl AA [],.sl (.sl AA) [],.sl AA [],.sl (.sl AA) T1,.sl AA A1,.sl (.sl AA) T2,.sl AA A2]
variable {A0 A1 A2 A3 A4 A5 AK AN AO AT At BD A6 A7 A8 A9 Aa Ab Ac Ax Ay:LR} {K ka kb kd km ko kr ks kx:Nat} {T0 T1 T2 T3 T4 T5 AL AM AP AU Aw BE T6 T7 T8 T9 Ta Tb Tc Tx Ty:List LR} {TT CU:List (List Rat)->Prop} {br e sn:Int} {v va vb vs xa xb xd xm xo xx ya yb yd ym yo yx:Re} {w w0:List (List Rat)}
theorem Iy (F:F9 TT w) (hm:Vm TT w 47000000 km km AL AK AM AN xm ym) (u:Vm TT w 47000000 kd kd AP AO AU AT xd yd) (l:Nm CU w0 2100 kr T1 A1 v) (j:kr<=K) (z:Rt CU w0 2100 K TT w 47000000 1 v) (q:CF 117 [.agg (B9 AL AK AM AN AP AO AU AT T1 A1)] (.one (.int .i64 0))) (B:kd+km+43<=690:=by omega):∃o n c b,Vm TT w 47000000 (kd+km+3) (kd+km+3) o n c b (xm+(xd*(Re.sqrt v))) (ym+(yd*(Re.sqrt v)))/\CF 120 [.agg (B9 AL AK AM AN AP AO AU AT T1 A1),.one (.int .i64 1)] (.AI [(true,(AD o n c b)),(false,[.int .i64 0])]):=by
 obtain⟨Tr,A,m,r,_⟩:=z.get j l;obtain⟨Aw,At,BE,BD,g,d⟩:=Ho F u m;obtain⟨Ba,BT,BW,BV,h,f⟩:=Fw F hm g;refine⟨Ba,BT,BW,BV,h.mono (by omega) (by omega),?_⟩;refine AZ Tryz.func120 fun E a=>?_
 conv=>cbv
 refine AB a q ?_;conv=>cbv
 refine AR ?_;conv=>cbv
 refine AB a r ?_;conv=>cbv
 refine AW 16 1 a Cc ?_;try conv=>cbv
 refine AR ?_;conv=>cbv
 refine .inr ?_;refine AB a d ?_;conv=>cbv
 refine AW 16 1 a E0 ?_;try conv=>cbv
 refine AB a f ?_;conv=>cbv
 refine AW 16 1 a E0 ?_;try conv=>cbv
 refine AW 16 1 a KD ?_;try conv=>cbv
 refine BB ?_;exact AF ⟨⟨rfl,rfl,rfl,rfl,rfl,trivial⟩,t2,trivial⟩
theorem KB (F:F9 TT w) (hm:Vm TT w 47000000 km km AL AK AM AN xm ym) (B:Vm TT w 47000000 kd kd AP AO AU AT xd yd) (n:Nm CU w0 2100 kr T1 A1 v) (m:kr<=K) (C:Rt CU w0 2100 K TT w 47000000 1 v) (z:CF 117 [.agg (B9 AL AK AM AN AP AO AU AT T1 A1)] (.one (.int .i64 0))) (G:kd+km+43<=690:=by omega):∃r q c b,Vm TT w 47000000 (kd+km+3) (kd+km+3) r q c b (xm+(xd*(-(Re.sqrt v)))) (ym+(yd*(-(Re.sqrt v))))/\CF 120 [.agg (B9 AL AK AM AN AP AO AU AT T1 A1),.one (.int .i64 (-1))] (.AI [(true,(AD r q c b)),(false,[.int .i64 0])]):=by
 obtain⟨Tr,D,o,A,_⟩:=C.get m n;obtain⟨At,h,d,u⟩:=FK F o;obtain⟨BE,BD,Ba,BT,j,f⟩:=Ho F B h;obtain⟨BW,BV,Bm,Bj,l,g⟩:=Fw F hm j;refine⟨BW,BV,Bm,Bj,l.mono (by omega) (by omega),?_⟩;refine AZ Tryz.func120 fun E a=>?_
 conv=>cbv
 refine AB a z ?_;conv=>cbv
 refine AR ?_;conv=>cbv
 refine AB a A ?_;conv=>cbv
 refine AW 16 1 a Cc ?_;try conv=>cbv
 refine BM ?_;conv=>cbv
 refine .inr ?_;refine AB a d ?_;conv=>cbv
 refine AB a f ?_;conv=>cbv
 refine AW 16 1 a E0 ?_;try conv=>cbv
 refine AB a g ?_;conv=>cbv
 refine AW 16 1 a E0 ?_;try conv=>cbv
 refine AW 16 1 a KD ?_;try conv=>cbv
 refine BB ?_;exact AF ⟨⟨rfl,rfl,rfl,rfl,rfl,trivial⟩,t2,trivial⟩
theorem GZ (he:e≠0) (d:CF 117 [.agg (B9 T1 A1 T2 A2 T3 A3 T4 A4 T5 A5)] (.one (.int .i64 e))):CF 120 [.agg (B9 T1 A1 T2 A2 T3 A3 T4 A4 T5 A5),.one (.int .i64 br)] (.AI [(true,(AD [] [] [] [])),(false,[.int .i64 e])]):=by
 refine AZ Tryz.func120 fun E f=>?_
 conv=>cbv
 refine AB f d ?_;conv=>cbv
 intro c a;conv=>cbv
 cases c <;> conv=>cbv
 ·have b:=Es a;exact False.elim (by omega)
 have b:=Et a;exact AF ⟨⟨rfl,AJ,AJ,AJ,AJ,trivial⟩,t2,trivial⟩
theorem Od (cs:CF 118 [.one (.int .i64 1)] (.one (.bool true))) (ca:CF 119 [.agg (AS T6 A6 T7 A7 T8 A8),.agg (AD T3 A3 T4 A4)] (.one (.bool true))) (c:CF 114 [.agg (AS T6 A6 T7 A7 T8 A8),.agg (AD T3 A3 T4 A4),.agg (AS Ta Aa Tb Ab Tc Ac)] (.AI [(true,(B9 T1 A1 T2 A2 T3 A3 T4 A4 T5 A5)),(false,[.int .i64 0])])) (b:CF 120 [.agg (B9 T1 A1 T2 A2 T3 A3 T4 A4 T5 A5),.one (.int .i64 1)] (.AI [(true,(AD Tx Ax Ty Ay)),(false,[.int .i64 0])])):CF 50 [.agg (AS T6 A6 T7 A7 T8 A8),.agg (AD T3 A3 T4 A4),.agg (AS Ta Aa Tb Ab Tc Ac),.one (.int .i64 1)] (.AI [(true,(AD Tx Ax Ty Ay)),(false,[.int .i64 0])]):=by
 refine AZ Tryz.func50 fun E a=>?_
 conv=>cbv
 refine AB a cs ?_;conv=>cbv
 refine AR ?_;conv=>cbv
 refine AB a ca ?_;conv=>cbv
 refine AR ?_;conv=>cbv
 refine AB a c ?_;conv=>cbv
 refine AR ?_;conv=>cbv
 refine AB a b ?_;conv=>cbv
 exact AF ⟨⟨rfl,rfl,rfl,rfl,rfl,trivial⟩,t2,trivial⟩
theorem K5 (cs:CF 118 [.one (.int .i64 1)] (.one (.bool true))) (ca:CF 119 [.agg (AS T6 A6 T7 A7 T8 A8),.agg (AD T3 A3 T4 A4)] (.one (.bool true))) (c:CF 114 [.agg (AS T6 A6 T7 A7 T8 A8),.agg (AD T3 A3 T4 A4),.agg (AS Ta Aa Tb Ab Tc Ac)] (.AI [(true,(B9 T1 A1 T2 A2 T3 A3 T4 A4 T5 A5)),(false,[.int .i64 0])])) (b:CF 120 [.agg (B9 T1 A1 T2 A2 T3 A3 T4 A4 T5 A5),.one (.int .i64 1)] (.AI [(true,[AG,AH,AG,AH]),(false,[.int .i64 e])])):CF 50 [.agg (AS T6 A6 T7 A7 T8 A8),.agg (AD T3 A3 T4 A4),.agg (AS Ta Aa Tb Ab Tc Ac),.one (.int .i64 1)] (.AI [(true,(AD [] [] [] [])),(false,[.int .i64 e])]):=by
 refine AZ Tryz.func50 fun E a=>?_
 conv=>cbv
 refine AB a cs ?_;conv=>cbv
 refine AR ?_;conv=>cbv
 refine AB a ca ?_;conv=>cbv
 refine AR ?_;conv=>cbv
 refine AB a c ?_;conv=>cbv
 refine AR ?_;conv=>cbv
 refine AB a b ?_;conv=>cbv
 exact AF ⟨⟨rfl,rfl,rfl,rfl,rfl,trivial⟩,t2,trivial⟩
theorem K4 (cs:CF 118 [.one (.int .i64 (-1))] (.one (.bool true))) (ca:CF 119 [.agg (AS T6 A6 T7 A7 T8 A8),.agg (AD T3 A3 T4 A4)] (.one (.bool true))) (c:CF 114 [.agg (AS T6 A6 T7 A7 T8 A8),.agg (AD T3 A3 T4 A4),.agg (AS Ta Aa Tb Ab Tc Ac)] (.AI [(true,(B9 T1 A1 T2 A2 T3 A3 T4 A4 T5 A5)),(false,[.int .i64 0])])) (b:CF 120 [.agg (B9 T1 A1 T2 A2 T3 A3 T4 A4 T5 A5),.one (.int .i64 (-1))] (.AI [(true,[AG,AH,AG,AH]),(false,[.int .i64 e])])):CF 50 [.agg (AS T6 A6 T7 A7 T8 A8),.agg (AD T3 A3 T4 A4),.agg (AS Ta Aa Tb Ab Tc Ac),.one (.int .i64 (-1))] (.AI [(true,(AD [] [] [] [])),(false,[.int .i64 e])]):=by
 refine AZ Tryz.func50 fun E a=>?_
 conv=>cbv
 refine AB a cs ?_;conv=>cbv
 refine AR ?_;conv=>cbv
 refine AB a ca ?_;conv=>cbv
 refine AR ?_;conv=>cbv
 refine AB a c ?_;conv=>cbv
 refine AR ?_;conv=>cbv
 refine AB a b ?_;conv=>cbv
 exact AF ⟨⟨rfl,rfl,rfl,rfl,rfl,trivial⟩,t2,trivial⟩
theorem Hh (cs:CF 118 [.one (.int .i64 br)] (.one (.bool true))) (b:CF 115 [.agg (AS T6 A6 T7 A7 T8 A8),.agg (AS Ta Aa Tb Ab Tc Ac)] (.one (.int .i64 0))) (d:CF 116 [.agg (AS T6 A6 T7 A7 T8 A8),.agg (AS Ta Aa Tb Ab Tc Ac)] (.AI [(true,(B9 T1 A1 T2 A2 T3 A3 T4 A4 T5 A5)),(false,[.int .i64 0])])) (c:CF 120 [.agg (B9 T1 A1 T2 A2 T3 A3 T4 A4 T5 A5),.one (.int .i64 br)] (.AI [(true,(AD Tx Ax Ty Ay)),(false,[.int .i64 0])])):CF 51 [.agg (AS T6 A6 T7 A7 T8 A8),.agg (AS Ta Aa Tb Ab Tc Ac),.one (.int .i64 br)] (.AI [(true,(AD Tx Ax Ty Ay)),(false,[.int .i64 0])]):=by
 refine AZ Tryz.func51 fun E a=>?_
 conv=>cbv
 refine AB a cs ?_;conv=>cbv
 refine AR ?_;conv=>cbv
 refine AB a b ?_;conv=>cbv
 refine AR ?_;conv=>cbv
 refine AB a d ?_;conv=>cbv
 refine AR ?_;conv=>cbv
 refine AB a c ?_;conv=>cbv
 exact AF ⟨⟨rfl,rfl,rfl,rfl,rfl,trivial⟩,t2,trivial⟩
theorem G8 {k:Int} (cs:CF 202 [.one (.int .i64 br)] (.one (.bool true))) (ca:CF 203 [.agg (AS T6 A6 T7 A7 T8 A8),.agg (AD T3 A3 T4 A4)] (.one (.bool true))) (cx:CF 205 [.agg (AS T6 A6 T7 A7 T8 A8),.agg (AS Ta Aa Tb Ab Tc Ac)] (.one (.int .i64 k))) (b:CF 204 [.one (.int .i64 k)] (.one (.int .i64 e))):CF 122 [.agg (AS T6 A6 T7 A7 T8 A8),.agg (AD T3 A3 T4 A4),.agg (AS Ta Aa Tb Ab Tc Ac),.one (.int .i64 br)] (.one (.int .i64 e)):=by
 refine AZ Tryz.func122 fun E a=>?_
 conv=>cbv
 refine AB a cs ?_;conv=>cbv
 refine AR ?_;conv=>cbv
 refine AB a ca ?_;conv=>cbv
 refine AR ?_;conv=>cbv
 refine AB a cx ?_;conv=>cbv
 refine AB a b ?_;conv=>cbv
 exact AF ⟨t2,trivial⟩
theorem VU (c:CF 121 [.agg (AS T1 A1 T2 A2 T3 A3),.agg (AS T6 A6 T7 A7 T8 A8)] (.one (.int .i64 e))):CF 52 [(Eg T1 A1 T2 A2 T3 A3 T4 A4 T5 A5),(Eg T6 A6 T7 A7 T8 A8 T9 A9 T0 A0),.one (.int .i64 0)] (.one (.int .i64 e)):=by
 refine AZ Tryz.func52 fun E a=>?_
 conv=>cbv
 refine BM ?_;conv=>cbv
 refine BM ?_;conv=>cbv
 refine AR ?_;conv=>cbv
 refine AB a c ?_;conv=>cbv
 exact AF ⟨t2,trivial⟩
theorem Pe (F:F9 TT w) (ha:Nm TT w 47000000 ka AL AK va) (hb:Nm TT w 47000000 kb AM AN vb) (h:ka+kb+41<=690:=by omega):∃d c,Nm TT w 47000000 (ka+kb+1) d c (va-vb)/\Bk Tryz.prog 130 [.one (.BC 0 0 0),.agg (As AL AK),.agg (As AM AN)] (.var 0 [.int .i64 0]) (.agg (As d c)):=by
 obtain⟨AP,AO,b,f,a⟩:=DM F ha hb;refine⟨AP,AO,b.mono (by omega),?_⟩;refine Bx Tryz.func130 fun E g=>?_
 conv=>cbv
 refine AB g a ?_;conv=>cbv
 refine AW 0 0 g FM ?_;try conv=>cbv
 refine fun _=>⟨⟨⟨t3,trivial⟩,rfl,by simp⟩,rfl⟩
theorem Hp (F:F9 TT w) (ha:Vm TT w 47000000 ka ka AL AK AM AN xa ya) (hb:Vm TT w 47000000 kb kb AP AO AU AT xb yb) (l:ka+kb+41<=690:=by omega):∃h g b a,Vm TT w 47000000 (ka+kb+1) (ka+kb+1) h g b a (xa-xb) (ya-yb)/\Bk Tryz.prog 129 [.one (.BC 0 0 0),.agg (AD AL AK AM AN),.agg (AD AP AO AU AT)] (.var 0 [.int .i64 0]) (.agg (AD h g b a)):=by
 obtain⟨Aw,At,BE,BD,d,c⟩:=FN F ha hb;have f:=d.cast (x':=xa-xb) (y':=ya-yb) (by grind) (by grind);refine⟨Aw,At,BE,BD,f.mono (by omega) (by omega),?_⟩;refine Bx Tryz.func129 fun E j=>?_
 conv=>cbv
 refine AB j c ?_;conv=>cbv
 refine AW 0 0 j NK ?_;try conv=>cbv
 refine fun _=>⟨⟨⟨⟨rfl,rfl,rfl,rfl,rfl,trivial⟩,trivial⟩,rfl,by simp⟩,rfl⟩
theorem Pd (F:F9 TT w) (ha:Vm TT w 47000000 ka ka AL AK AM AN xa ya) (g:2*ka+42<=690:=by omega):∃d c,Nm TT w 47000000 (4*ka+3) d c (xa*xa+ya*ya)/\Bk Tryz.prog 134 [.one (.BC 0 0 0),.agg (AD AL AK AM AN)] (.var 0 [.int .i64 0]) (.agg (As d c)):=by
 obtain⟨AP,AO,b,a⟩:=H9 F ha;refine⟨AP,AO,b.mono (by omega),?_⟩;refine Bx Tryz.func134 fun E f=>?_
 conv=>cbv
 refine AB f a ?_;conv=>cbv
 refine AW 0 0 f FM ?_;try conv=>cbv
 refine fun _=>⟨⟨⟨t3,trivial⟩,rfl,by simp⟩,rfl⟩
theorem PZ (F:F9 TT w) (ha:Vm TT w 47000000 ka ka AL AK AM AN xa ya) (hb:Vm TT w 47000000 kb kb AP AO AU AT xb yb) (g:ka+kb+42<=690:=by omega):∃d c,Nm TT w 47000000 (2*ka+2*kb+3) d c (xa*xb+ya*yb)/\Bk Tryz.prog 217 [.one (.BC 0 0 0),.agg (AD AL AK AM AN),.agg (AD AP AO AU AT)] (.var 0 [.int .i64 0]) (.agg (As d c)):=by
 obtain⟨Aw,At,b,a⟩:=KY F ha hb;refine⟨Aw,At,b.mono (by omega),?_⟩;refine Bx Tryz.func217 fun E f=>?_
 conv=>cbv
 refine AB f a ?_;conv=>cbv
 refine AW 0 0 f FM ?_;try conv=>cbv
 refine fun _=>⟨⟨⟨t3,trivial⟩,rfl,by simp⟩,rfl⟩
theorem PY (F:F9 TT w) (ha:Vm TT w 47000000 ka ka AL AK AM AN xa ya) (hb:Vm TT w 47000000 kb kb AP AO AU AT xb yb) (h:ka+kb+42<=690:=by omega):∃f d,Nm TT w 47000000 (2*ka+2*kb+3) f d (xa*yb-ya*xb)/\Bk Tryz.prog 128 [.one (.BC 0 0 0),.agg (AD AL AK AM AN),.agg (AD AP AO AU AT)] (.var 0 [.int .i64 0]) (.agg (As f d)):=by
 obtain⟨Aw,At,b,a⟩:=KX F ha hb;have c:=b.cast (y:=xa*yb-ya*xb) (by grind);refine⟨Aw,At,c.mono (by omega),?_⟩;refine Bx Tryz.func128 fun E g=>?_
 conv=>cbv
 refine AB g a ?_;conv=>cbv
 refine AW 0 0 g FM ?_;try conv=>cbv
 refine fun _=>⟨⟨⟨t3,trivial⟩,rfl,by simp⟩,rfl⟩
theorem Pa (F:F9 TT w) (ha:Vm TT w 47000000 ka ka AL AK AM AN xa ya) (hb:Vm TT w 47000000 kb kb AP AO AU AT xb yb) (j:2*ka+2*kb+44<=690:=by omega):∃g f,Nm TT w 47000000 (4*ka+4*kb+7) g f ((xa-xb)*(xa-xb)+(ya-yb)*(ya-yb))/\Bk Tryz.prog 140 [.one (.BC 0 0 0),.agg (AD AL AK AM AN),.agg (AD AP AO AU AT)] (.var 0 [.int .i64 0]) (.agg (As g f)):=by
 obtain⟨BE,BD,Ba,BT,c,a⟩:=Hp F ha hb;obtain⟨Bm,Bj,d,b⟩:=Pd F c;refine⟨Bm,Bj,d.mono (by omega),?_⟩;refine Bx Tryz.func140 fun E h=>?_
 conv=>cbv
 refine AW 0 0 h a ?_;try conv=>cbv
 refine AW 0 0 h b ?_;try conv=>cbv
 refine fun _=>⟨⟨⟨t3,trivial⟩,rfl,by simp⟩,rfl⟩
theorem Pb (F:F9 TT w) (j:Vm TT w 47000000 ko ko AL AK AM AN xo yo) (l:Nm TT w 47000000 ks AP AO vs) (ha:Vm TT w 47000000 ka ka AU AT Aw At xa ya) (m:4*ka+4*ko+ks+48<=690:=by omega):∃g f,Nm TT w 47000000 (4*ka+4*ko+ks+8) g f (((xo-xa)*(xo-xa)+(yo-ya)*(yo-ya))-vs)/\CF 195 [.agg (AS AL AK AM AN AP AO),.agg (AD AU AT Aw At)] (.AI [(true,(As g f)),(false,[.int .i64 0])]):=by
 obtain⟨Ba,BT,c,a⟩:=Pa F j ha;obtain⟨Bm,Bj,d,b⟩:=Pe F c l;refine⟨Bm,Bj,d.mono (by omega),?_⟩;refine AZ Tryz.func195 fun E h=>?_
 conv=>cbv
 refine AW 9 1 h a ?_;try conv=>cbv
 refine AW 9 1 h b ?_;try conv=>cbv
 refine BB ?_;refine AR ?_;conv=>cbv
 exact AF ⟨t3,t2,trivial⟩
theorem Pc (F:F9 TT w) (l:Vm TT w 47000000 ko ko AL AK AM AN xo yo) (m:Nm TT w 47000000 ks AP AO vs) (ha:Vm TT w 47000000 ka ka AU AT Aw At xa ya) (g:sn=Bi ((xo-xa)*(xo-xa)+(yo-ya)*(yo-ya)-vs)) (n:4*ka+4*ko+ks+49<=690:=by omega):CF 112 [.agg (AS AL AK AM AN AP AO),.agg (AD AU AT Aw At)] (.AI [(false,[.int .i64 sn]),(false,[.int .i64 0])]):=by
 obtain⟨Ba,BT,d,b⟩:=Pb F l m ha;obtain⟨f,a,h,c⟩:=Ci F d;obtain rfl:sn=f:=(g.symm).symm.trans a.symm;refine AZ Tryz.func112 fun E j=>?_
 conv=>cbv
 refine AB j b ?_;conv=>cbv
 refine AR ?_;conv=>cbv
 refine AB j c ?_;conv=>cbv
 exact AF ⟨t2,t2,trivial⟩
theorem LJ (F:F9 TT w) {vc:Re} {kc:Nat} {e:Bool} (ha:Nm TT w 47000000 1 AL AK va) (hb:Nm TT w 47000000 kb AM AN vb) (hc:Nm TT w 47000000 kc AP AO vc) (b:Vm TT w 47000000 kx kx AU AT Aw At xx yx) (he:e=true↔va*xx+vb*yx=vc) (c:kb+kc+2*kx+48<=690:=by omega):CF 46 [(Eg AL AK AM AN AP AO T1 A1 T2 A2),.agg (AD AU AT Aw At)] (.one (.bool e)):=by
 refine AZ Tryz.func46 fun E a=>?_
 conv=>cbv
 refine .inr ?_;refine BM ?_;conv=>cbv
 refine AB a (VW F ⟨ha,hb,hc⟩ b (by omega) he) ?_;conv=>cbv
 exact AF ⟨t2,trivial⟩
theorem Gc (F:F9 TT w) {e:Bool} (d:Vm TT w 47000000 ko ko AL AK AM AN xo yo) (f:Nm TT w 47000000 ks AP AO vs) (g:Vm TT w 47000000 kx kx AU AT Aw At xx yx) (he:e=true↔(xx-xo)*(xx-xo)+(yx-yo)*(yx-yo)=vs) (l:4*ko+ks+4*kx+49<=690:=by omega):CF 46 [(DJ AL AK AM AN AP AO),.agg (AD AU AT Aw At)] (.one (.bool e)):=by
 obtain⟨sn,a⟩:∃z,z=Bi ((xo-xx)*(xo-xx)+(yo-yx)*(yo-yx)-vs):=⟨_,rfl⟩
 refine AZ Tryz.func46 fun E c=>?_
 conv=>cbv
 refine .inr ?_;refine AR ?_;conv=>cbv
 refine BM ?_;conv=>cbv
 refine AB c (Pc F d f g a) ?_;conv=>cbv
 refine BM ?_;conv=>cbv
 intro j b;conv=>cbv
 exact AF ⟨⟨rfl,congrArg _ (by rw[Bool.eq_iff_iff,he,b,beq_iff_eq,a,FV];constructor <;> intro h <;> grind),trivial⟩,trivial⟩
theorem LS (F:F9 TT w) (A:Vm TT w 47000000 ko ko AL AK AM AN xo yo) (ha:Vm TT w 47000000 ka ka AP AO AU AT xa ya) (B:Vm TT w 47000000 kx kx Aw At BE BD xx yx) (n:sn=Bi ((xa-xo)*(yx-yo)-(ya-yo)*(xx-xo))) (C:2*ka+4*ko+2*kx+48<=690):CF 55 [.agg (AD AL AK AM AN),.agg (AD AP AO AU AT),.agg (AD Aw At BE BD)] (.one (.int .i64 sn)):=by
 obtain⟨BW,BV,Bm,Bj,g,b⟩:=Hp F ha A;obtain⟨Bu,Bp,r,o,h,c⟩:=Hp F B A;obtain⟨u,q,j,d⟩:=PY F g h;obtain⟨l,a,z,f⟩:=Ci F j;obtain rfl:sn=l:=(n.symm).symm.trans a.symm;refine AZ Tryz.func55 fun E m=>?_
 conv=>cbv
 refine AW 9 1 m b ?_;try conv=>cbv
 refine AW 9 1 m c ?_;try conv=>cbv
 refine AW 9 1 m d ?_;try conv=>cbv
 refine AW 9 1 m (Gd f) ?_;try conv=>cbv
 refine BB ?_;exact AF ⟨t2,trivial⟩
theorem Ng (F:F9 TT w) (n:Vm TT w 47000000 kd kd AL AK AM AN xd yd) (o:Vm TT w 47000000 ko ko AP AO AU AT xo yo) (q:Vm TT w 47000000 kx kx Aw At BE BD xx yx) (l:sn=Bi (xd*(xx-xo)+yd*(yx-yo))) (r:2*kd+2*ko+2*kx+46<=690):CF 141 [.agg (AD AL AK AM AN),.agg (AD AP AO AU AT),.agg (AD Aw At BE BD)] (.one (.int .i64 sn)):=by
 obtain⟨BW,BV,Bm,Bj,f,b⟩:=Hp F q o;obtain⟨Bu,Bp,g,c⟩:=PZ F n f;obtain⟨h,a,m,d⟩:=Ci F g;obtain rfl:sn=h:=(l.symm).symm.trans a.symm;refine AZ Tryz.func141 fun E j=>?_
 conv=>cbv
 refine AW 9 1 j b ?_;try conv=>cbv
 refine AW 9 1 j c ?_;try conv=>cbv
 refine AW 9 1 j (Gd d) ?_;try conv=>cbv
 refine BB ?_;exact AF ⟨t2,trivial⟩
theorem qX:CF 57 [(Eg T1 A1 T2 A2 T3 A3 T4 A4 T5 A5),(Eg T6 A6 T7 A7 T8 A8 T9 A9 T0 A0),.agg (AD Tx Ax Ty Ay)] (.one (.int .i64 0)):=by
 refine AZ Tryz.func57 fun E a=>?_
 conv=>cbv
 refine BM ?_;conv=>cbv
 refine BM ?_;conv=>cbv
 exact AF ⟨t2,trivial⟩
theorem qV {s:Int} (cv:CF 65 [.agg (AD Tx Ax Ty Ay)] (.one (.bool true))) (c1:CF 46 [.agg [.int .i64 1,.sl (.sl AA) T1,.sl AA A1,.sl (.sl AA) T2,.sl AA A2,.sl (.sl AA) T3,.sl AA A3,.sl (.sl AA) T4,.sl AA A4,.sl (.sl AA) T5,.sl AA A5,AG,AH,AG,AH,AG,AH,AG,AH,AG,AH],.agg (AD Tx Ax Ty Ay)] (.one (.bool true))) (c2:CF 46 [.agg [.int .i64 1,.sl (.sl AA) T6,.sl AA A6,.sl (.sl AA) T7,.sl AA A7,.sl (.sl AA) T8,.sl AA A8,.sl (.sl AA) T9,.sl AA A9,.sl (.sl AA) T0,.sl AA A0,AG,AH,AG,AH,AG,AH,AG,AH,AG,AH],.agg (AD Tx Ax Ty Ay)] (.one (.bool true))) (c:CF 57 [.agg [.int .i64 1,.sl (.sl AA) T1,.sl AA A1,.sl (.sl AA) T2,.sl AA A2,.sl (.sl AA) T3,.sl AA A3,.sl (.sl AA) T4,.sl AA A4,.sl (.sl AA) T5,.sl AA A5,AG,AH,AG,AH,AG,AH,AG,AH,AG,AH],.agg [.int .i64 1,.sl (.sl AA) T6,.sl AA A6,.sl (.sl AA) T7,.sl AA A7,.sl (.sl AA) T8,.sl AA A8,.sl (.sl AA) T9,.sl AA A9,.sl (.sl AA) T0,.sl AA A0,AG,AH,AG,AH,AG,AH,AG,AH,AG,AH],.agg (AD Tx Ax Ty Ay)] (.one (.int .i64 s))):CF 106 [(Eg T1 A1 T2 A2 T3 A3 T4 A4 T5 A5),(Eg T6 A6 T7 A7 T8 A8 T9 A9 T0 A0),.one (.int .i64 s),.agg (AD Tx Ax Ty Ay)] (.one (.bool true)):=by
 refine AZ Tryz.func106 fun E b=>?_
 conv=>cbv
 refine AB b cv ?_;conv=>cbv
 refine AB b c1 ?_;conv=>cbv
 refine AB b c2 ?_;conv=>cbv
 refine AB b c ?_;conv=>cbv
 intro d a;(have a:=a.trans (show _=true by simp));subst a;conv=>cbv
 exact AF ⟨t2,trivial⟩
theorem nD (c1:CF 52 [.agg [.int .i64 1,.sl (.sl AA) T1,.sl AA A1,.sl (.sl AA) T2,.sl AA A2,.sl (.sl AA) T3,.sl AA A3,.sl (.sl AA) T4,.sl AA A4,.sl (.sl AA) T5,.sl AA A5,AG,AH,AG,AH,AG,AH,AG,AH,AG,AH],.agg [.int .i64 1,.sl (.sl AA) T6,.sl AA A6,.sl (.sl AA) T7,.sl AA A7,.sl (.sl AA) T8,.sl AA A8,.sl (.sl AA) T9,.sl AA A9,.sl (.sl AA) T0,.sl AA A0,AG,AH,AG,AH,AG,AH,AG,AH,AG,AH],.one (.int .i64 br)] (.one (.int .i64 0))) (c2:CF 106 [.agg [.int .i64 1,.sl (.sl AA) T1,.sl AA A1,.sl (.sl AA) T2,.sl AA A2,.sl (.sl AA) T3,.sl AA A3,.sl (.sl AA) T4,.sl AA A4,.sl (.sl AA) T5,.sl AA A5,AG,AH,AG,AH,AG,AH,AG,AH,AG,AH],.agg [.int .i64 1,.sl (.sl AA) T6,.sl AA A6,.sl (.sl AA) T7,.sl AA A7,.sl (.sl AA) T8,.sl AA A8,.sl (.sl AA) T9,.sl AA A9,.sl (.sl AA) T0,.sl AA A0,AG,AH,AG,AH,AG,AH,AG,AH,AG,AH],.one (.int .i64 br),.agg (AD Tx Ax Ty Ay)] (.one (.bool true))):CF 42 [(Eg T1 A1 T2 A2 T3 A3 T4 A4 T5 A5),(Eg T6 A6 T7 A7 T8 A8 T9 A9 T0 A0),.one (.int .i64 br),.agg (AD Tx Ax Ty Ay),.one (.int .i64 0)] (.one (.bool true)):=by
 refine AZ Tryz.func42 fun E a=>?_
 conv=>cbv
 refine AB a c1 ?_;conv=>cbv
 refine AR ?_;conv=>cbv
 refine BM ?_;conv=>cbv
 refine AB a c2 ?_;conv=>cbv
 exact AF ⟨t2,trivial⟩
theorem Z1 (he:e≠0) (c1:CF 52 [.agg [.int .i64 1,.sl (.sl AA) T1,.sl AA A1,.sl (.sl AA) T2,.sl AA A2,.sl (.sl AA) T3,.sl AA A3,.sl (.sl AA) T4,.sl AA A4,.sl (.sl AA) T5,.sl AA A5,AG,AH,AG,AH,AG,AH,AG,AH,AG,AH],.agg [.int .i64 1,.sl (.sl AA) T6,.sl AA A6,.sl (.sl AA) T7,.sl AA A7,.sl (.sl AA) T8,.sl AA A8,.sl (.sl AA) T9,.sl AA A9,.sl (.sl AA) T0,.sl AA A0,AG,AH,AG,AH,AG,AH,AG,AH,AG,AH],.one (.int .i64 br)] (.one (.int .i64 e))) (c2:CF 105 [.agg [AG,AH,AG,AH]] (.one (.bool true))):CF 42 [(Eg T1 A1 T2 A2 T3 A3 T4 A4 T5 A5),(Eg T6 A6 T7 A7 T8 A8 T9 A9 T0 A0),.one (.int .i64 br),.agg (AD [] [] [] []),.one (.int .i64 e)] (.one (.bool true)):=by
 refine AZ Tryz.func42 fun E f=>?_
 conv=>cbv
 refine AB f c1 ?_;conv=>cbv
 intro d b;conv=>cbv
 cases d <;> conv=>cbv
 ·have c:=Es b;exact False.elim (by omega)
 have c:=Et b;intro g a;(have a:=a.trans (show _=true by simp));subst a;conv=>cbv
 refine AB f c2 ?_;conv=>cbv
 exact AF ⟨t2,trivial⟩
theorem Is:CF 105 [.agg (AD [] [] [] [])] (.one (.bool true)):=by
 refine AZ Tryz.func105 fun E j=>?_
 conv=>cbv
 rintro l ⟨h,f6⟩;conv=>cbv
 rintro d ⟨a,f10⟩;conv=>cbv
 intro f b;conv=>cbv
 refine Ah ?_;intro g c;conv=>cbv
 exact AF ⟨⟨rfl,congrArg _ (by simp_all),trivial⟩,trivial⟩
end Go.Abs
namespace Go.Abs
open Go.RowKit
structure Ch (TT:List (List Rat)->Prop) (w:List (List Rat)) (T1:List LR) (A1:LR) (T2:List LR) (A2:LR) (T3:List LR) (A3:LR) (T4:List LR) (A4:LR) (T5:List LR) (A5:LR) (al be ga xd yd xp yp i:Re):Prop where
 l:Ed TT w 2100 999 1083 T1 A1 T2 A2 T3 A3 al be ga
 d:Vm TT w 2100 41 41 T4 A4 T5 A5 xd yd
 p:∃T A T' A',Vm TT w 2100 20 20 T A T' A' xp yp
 nz:¬(xd=0/\yd=0)
 one:al=1\/al=0/\be=1
 ha:al= -yd*i
 hb:be=xd*i
 hc:ga=(-yd*xp+xd*yp)*i
structure Cs (TT:List (List Rat)->Prop) (w:List (List Rat)) (T1:List LR) (A1:LR) (T2:List LR) (A2:LR) (T3:List LR) (A3:LR) (xo yo s:Re):Prop where
 o:Vm TT w 2100 20 20 T1 A1 T2 A2 xo yo
 s:Nm TT w 2100 167 T3 A3 s
def FC (CU:List (List Rat)->Prop) (w0:List (List Rat)) (TT:List (List Rat)->Prop) (w:List (List Rat)):Prop:=∀{k:Nat} {T:List LR} {A:LR} {x:Re},k<=22380->Nm CU w0 2100 k T A x->Nm TT w 47000000 1 T A x
variable {A1 A2 A3 A4 A5 Aa Ab Ac Ad Ae Af:LR} {P TT CU:List (List Rat)->Prop} {T1 T2 T3 T4 T5 Ta Tb Tc Td Te C7:List LR} {V:List Re} {al be ga i s t x x1 x2 xa xd xo xp y y1 y2 ya yd yo yp:Re} {k:Nat} {w w0:List (List Rat)}
theorem FC.v {k':Nat} (U:FC CU w0 TT w) (b:k<=22380) (a:k'<=22380) (h:Vm CU w0 2100 k k' T1 A1 T2 A2 x y):Vm TT w 47000000 1 1 T1 A1 T2 A2 x y:=⟨U b h.x,U a h.y⟩
theorem H5 (L:Pl P V w0) {T:List LR} {A:LR} {n:Re} (c:Nm (Tf P) w0 2100 k T A n) (a:k<=22047) (b:0<n):∃TT w,F9 TT w/\FC (Tf P) w0 TT w/\Rt (Tf P) w0 2100 22047 TT w 47000000 1 n:=by
 obtain⟨TT,w,F,U,R⟩:=U8 L c a (by decide) b;exact⟨TT,w,F,fun a h=>U (by omega) h,R⟩
theorem o6 (L:Pl P V w0) (b:∀{r u},P (r::u)->u=[]):∃TT w,F9 TT w/\FC (Tf P) w0 TT w:=by
 have a:Nm (Tf P) w0 2100 1 [] (em [] (Re.ofRat 1)) (Re.ofRat 1):=Gs (L.fl b) (by decide) (F2 (by decide +kernel));obtain⟨TT,w,F,U,_⟩:=H5 L a (by decide) (show (0:Re)<1 by grind);exact⟨TT,w,F,U⟩
theorem Ch.ni (h:Ch TT w0 T1 A1 T2 A2 T3 A3 T4 A4 T5 A5 al be ga xd yd xp yp i):i≠0:=fun e=>M1 h.one ⟨by rw[h.ha,e];grind,by rw[h.hb,e];grind⟩
theorem Ch.up (U:FC CU w0 TT w) (h:Ch CU w0 T1 A1 T2 A2 T3 A3 T4 A4 T5 A5 al be ga xd yd xp yp i):Ed TT w 47000000 1 1 T1 A1 T2 A2 T3 A3 al be ga:=⟨U (by decide) h.l.x,U (by decide) h.l.y,U (by decide) h.l.z⟩
theorem nT (L:Pl P V w0) (H:∀{r u},P (r::u)->u=[]) (h:Ch (Tf P) w0 T1 A1 T2 A2 T3 A3 T4 A4 T5 A5 al be ga xd yd xp yp i) {T6 T7 T8 T9 T0:List LR} {A6 A7 A8 A9 A0:LR} {b c j B D C G i':Re} (g:Ch (Tf P) w0 T6 A6 T7 A7 T8 A8 T9 A9 T0 A0 b c j B D C G i'):∃Tx Ax Ty Ay Tz Az Tu Au e,CF 41 [.agg (AS T1 A1 T2 A2 T3 A3),.agg (AS T6 A6 T7 A7 T8 A8)] (.AI [(true,(AD Tx Ax Ty Ay)),(false,[.int .i64 e])])/\CF 41 [.agg (AS T6 A6 T7 A7 T8 A8),.agg (AS T1 A1 T2 A2 T3 A3)] (.AI [(true,(AD Tz Az Tu Au)),(false,[.int .i64 e])])/\CF 42 [Eg T1 A1 T2 A2 T3 A3 T4 A4 T5 A5,Eg T6 A6 T7 A7 T8 A8 T9 A9 T0 A0,.one (.int .i64 0),.agg (AD Tx Ax Ty Ay),.one (.int .i64 e)] (.one (.bool true))/\(e≠0\/e=0/\CF 26 [.agg (AD Tx Ax Ty Ay),.agg (AD Tz Az Tu Au)] (.one (.bool true))):=by
 have F:=L.fl H
 by_cases a:al=b/\be=c
 ·by_cases f:ga=j
  ·exact⟨_,_,_,_,_,_,_,_,11,aU F h.l.x h.l.y h.l.z g.l.x g.l.y g.l.z ⟨a,f⟩,aU F g.l.x g.l.y g.l.z h.l.x h.l.y h.l.z ⟨⟨a.1.symm,a.2.symm⟩,f.symm⟩,Z1 (by decide) (VU (qN F h.l.x h.l.y h.l.z g.l.x g.l.y g.l.z ⟨a,f⟩)) Is,.inl (by decide)⟩
  exact⟨_,_,_,_,_,_,_,_,10,aT F h.l.x h.l.y h.l.z g.l.x g.l.y g.l.z (fun z=>f z.2) a,aT F g.l.x g.l.y g.l.z h.l.x h.l.y h.l.z (fun z=>f z.2.symm) ⟨a.1.symm,a.2.symm⟩,Z1 (by decide) (VU (qM F h.l.x h.l.y h.l.z g.l.x g.l.y g.l.z (fun z=>f z.2) a)) Is,.inl (by decide)⟩
 have m:¬(b=al/\c=be):=fun z=>a ⟨z.1.symm,z.2.symm⟩
 have n:=Yv h.one g.one a;have q:=Yv g.one h.one m;obtain⟨hc,e1,e2⟩:=oK h.ha h.hb h.hc g.ha g.hb g.hc n;obtain⟨_,_,_,_,I⟩:=h.p;obtain⟨_,_,_,_,M⟩:=g.p;obtain⟨_,_,_,_,k1,_⟩:=Dm F M I;obtain⟨_,_,k2,_⟩:=CN F k1.x g.d.y;obtain⟨_,_,R,_⟩:=CN F k1.y g.d.x;obtain⟨_,_,S,_⟩:=DM F k2 R;obtain⟨_,_,T,_⟩:=CN F h.d.x g.d.y;obtain⟨_,_,W,_⟩:=CN F h.d.y g.d.x;obtain⟨_,_,Y,_⟩:=DM F T W;obtain⟨_,_,Z,_⟩:=DE F S Y (d:=3855) (by decide) hc;obtain⟨_,_,_,_,k9,_⟩:=Ho F h.d Z;obtain⟨_,_,_,_,kx,_⟩:=Fw F I k9;obtain⟨s1,s2⟩:=oL n;obtain⟨Tx,Ax,Ty,Ay,N,cx⟩:=aS F h.l.x h.l.y h.l.z g.l.x g.l.y g.l.z (kx.mono (l:=4100) (l':=4100) (by decide) (by decide)) a n e1 e2
 obtain⟨Tz,Az,Tu,Au,O,J⟩:=aS F g.l.x g.l.y g.l.z h.l.x h.l.y h.l.z (kx.mono (l:=4100) (l':=4100) (by decide) (by decide)) m q (s1.trans e1) (s2.trans e2);obtain⟨TT,w,F9,U⟩:=o6 L H;have o:=U.v (by decide) (by decide) N;have uz:=U.v (by decide) (by decide) O;have ul:=h.up U;have A:=g.up U;refine⟨Tx,Ax,Ty,Ay,Tz,Az,Tu,Au,0,cx,J,nD (VU (qL F h.l.x h.l.y h.l.z g.l.x g.l.y g.l.z a)) (qV (s:=0) (Jn F9 o) (LJ F9 ul.x ul.y ul.z o (e:=true) ⟨fun _=>?_,fun _=>rfl⟩) (LJ F9 A.x A.y A.z o (e:=true) ⟨fun _=>?_,fun _=>rfl⟩) qX),.inr ⟨rfl,CR F9 o uz (by decide) (by decide) (by decide) (by decide) (e:=true) ⟨fun _=>⟨rfl,rfl⟩,fun _=>rfl⟩⟩⟩
 ·rw[<-e1,<-e2];exact pE n
 rw[<-e1,<-e2];exact pF n
theorem GS (h:¬(x=0/\y=0)):0<x*x+y*y:=by
 have a:=Jh h;have b:=SH x y
 grind
theorem JU (L:Pl P V w0) (O:∀{r u},P (r::u)->u=[]) (h:Ch (Tf P) w0 T1 A1 T2 A2 T3 A3 T4 A4 T5 A5 al be ga xd yd xp yp i) (o:Cs (Tf P) w0 Ta Aa Tb Ab Tc Ac xo yo s):∃q j n g A m,Vm (Tf P) w0 2100 4086 4086 q j n g (xo- -yd*((-yd*(xo-xp)+xd*(yo-yp))*AE (xd*xd+yd*yd))) (yo-xd*((-yd*(xo-xp)+xd*(yo-yp))*AE (xd*xd+yd*yd)))/\Nm (Tf P) w0 2100 13000 A m ((s-(xd*xd+yd*yd)*((-yd*(xo-xp)+xd*(yo-yp))*AE (xd*xd+yd*yd))*((-yd*(xo-xp)+xd*(yo-yp))*AE (xd*xd+yd*yd)))*AE (xd*xd+yd*yd))/\CF 114 [.agg (AS T1 A1 T2 A2 T3 A3),.agg (AD T4 A4 T5 A5),.agg (AS Ta Aa Tb Ab Tc Ac)] (.AI [(true,(B9 q j n g T4 A4 T5 A5 A m)),(false,[.int .i64 0])])/\CF 205 [.agg (AS T1 A1 T2 A2 T3 A3),.agg (AS Ta Aa Tb Ab Tc Ac)] (.one (.int .i64 (Bi ((s-(xd*xd+yd*yd)*((-yd*(xo-xp)+xd*(yo-yp))*AE (xd*xd+yd*yd))*((-yd*(xo-xp)+xd*(yo-yp))*AE (xd*xd+yd*yd)))*AE (xd*xd+yd*yd))))):=by
 have F:=L.fl O;have N:=GS h.nz;have f:xd*xd+yd*yd≠0:=by grind
 have b:=M1 h.one;have a: -yd* -yd+xd*xd=xd*xd+yd*yd:=by grind
 obtain⟨f1,f2⟩:=UF (x:=xo) (y:=yo) h.ni a f h.ha h.hb h.hc;have f3:=UD (x:=xo) (y:=yo) h.ni a f h.ha h.hb h.hc;obtain⟨_,_,_,_,T⟩:=h.p;obtain⟨_,_,_,_,k1,_⟩:=Dm F o.o T;obtain⟨_,k0,_⟩:=FK F h.d.y;obtain⟨_,_,k2,_⟩:=CN F k0 k1.x;obtain⟨_,_,U,_⟩:=CN F h.d.x k1.y;obtain⟨_,_,W,_⟩:=EU F k2 U;obtain⟨_,_,J,_⟩:=GF F h.d;obtain⟨_,_,B,_⟩:=DE F W J (d:=3855) (by decide) f;obtain⟨_,_,Y,_⟩:=CN F k0 B;obtain⟨_,_,Z,_⟩:=CN F h.d.x B;obtain⟨_,_,k9,_⟩:=DM F o.o.x Y;obtain⟨_,_,C,_⟩:=DM F o.o.y Z;have R:Vm (Tf P) w0 2100 4086 4086 _ _ _ _ _ _:=⟨k9.mono (by decide),C.mono (by decide)⟩
 obtain⟨_,_,D,_⟩:=CN F J B;obtain⟨_,_,G,_⟩:=CN F D B;obtain⟨_,_,H,_⟩:=DM F o.s G;obtain⟨_,_,I,_⟩:=DE F H J (d:=3855) (by decide) f;have S:=I.mono (l:=13000) (by decide);have e1:∀z:Re,z*Re.ofRat ((1:Int):Rat)=z:=fun z=>by rw[show Re.ofRat ((1:Int):Rat)=1 from rfl];grind
 obtain⟨q,j,n,g,A,m,gf,M,c⟩:=Oe F h.l.x h.l.y h.l.z h.d o.o o.s R S b (by rw[e1];unfold Fg;rw[f1]) (by rw[e1];unfold Fg;rw[f2]) f (by
  congr 2
  generalize ((-yd*(xo-xp)+xd*(yo-yp))*AE (xd*xd+yd*yd))=e
  grind) (by decide)
 exact⟨q,j,n,g,A,m,gf,M,c,Ox F h.l.x h.l.y h.l.z o.o o.s b (by rw[f3,NO N])⟩
theorem Mo (L:Pl P V w0) (j:∀{r u},P (r::u)->u=[]) (h:Ch (Tf P) w0 T1 A1 T2 A2 T3 A3 T4 A4 T5 A5 al be ga xd yd xp yp i) (o:Cs (Tf P) w0 Ta Aa Tb Ab Tc Ac xo yo s) (m:0<((s-(xd*xd+yd*yd)*((-yd*(xo-xp)+xd*(yo-yp))*AE (xd*xd+yd*yd))*((-yd*(xo-xp)+xd*(yo-yp))*AE (xd*xd+yd*yd)))*AE (xd*xd+yd*yd))):∃TT w Tx Ax Ty Ay,F9 TT w/\FC (Tf P) w0 TT w/\Vm TT w 47000000 5 5 Tx Ax Ty Ay (xo- -yd*((-yd*(xo-xp)+xd*(yo-yp))*AE (xd*xd+yd*yd))+xd*(Re.sqrt ((s-(xd*xd+yd*yd)*((-yd*(xo-xp)+xd*(yo-yp))*AE (xd*xd+yd*yd))*((-yd*(xo-xp)+xd*(yo-yp))*AE (xd*xd+yd*yd)))*AE (xd*xd+yd*yd)))) (yo-xd*((-yd*(xo-xp)+xd*(yo-yp))*AE (xd*xd+yd*yd))+yd*(Re.sqrt ((s-(xd*xd+yd*yd)*((-yd*(xo-xp)+xd*(yo-yp))*AE (xd*xd+yd*yd))*((-yd*(xo-xp)+xd*(yo-yp))*AE (xd*xd+yd*yd)))*AE (xd*xd+yd*yd))))/\CF 50 [.agg (AS T1 A1 T2 A2 T3 A3),.agg (AD T4 A4 T5 A5),.agg (AS Ta Aa Tb Ab Tc Ac),.one (.int .i64 (1))] (.AI [(true,(AD Tx Ax Ty Ay)),(false,[.int .i64 0])])/\CF 46 [Eg T1 A1 T2 A2 T3 A3 T4 A4 T5 A5,.agg (AD Tx Ax Ty Ay)] (.one (.bool true))/\CF 46 [DJ Ta Aa Tb Ab Tc Ac,.agg (AD Tx Ax Ty Ay)] (.one (.bool true))/\CF 141 [.agg (AD T4 A4 T5 A5),.agg (AD Ta Aa Tb Ab),.agg (AD Tx Ax Ty Ay)] (.one (.int .i64 (1))):=by
 have F:=L.fl j;obtain⟨J,G,I,D,M,H,B,g,c,_⟩:=JU L j h o;have A:=GS h.nz;have q:xd*xd+yd*yd≠0:=by grind
 have b:al*xd+be*yd=0:=by rw[h.ha,h.hb];grind
 obtain⟨TT,w,F9,U,Rt⟩:=H5 L g (by decide) m;have n:=Re.Ev (show 0<=((s-(xd*xd+yd*yd)*((-yd*(xo-xp)+xd*(yo-yp))*AE (xd*xd+yd*yd))*((-yd*(xo-xp)+xd*(yo-yp))*AE (xd*xd+yd*yd)))*AE (xd*xd+yd*yd)) by grind);have C:=Re.Gg ((s-(xd*xd+yd*yd)*((-yd*(xo-xp)+xd*(yo-yp))*AE (xd*xd+yd*yd))*((-yd*(xo-xp)+xd*(yo-yp))*AE (xd*xd+yd*yd)))*AE (xd*xd+yd*yd))
 have f:0<Re.sqrt ((s-(xd*xd+yd*yd)*((-yd*(xo-xp)+xd*(yo-yp))*AE (xd*xd+yd*yd))*((-yd*(xo-xp)+xd*(yo-yp))*AE (xd*xd+yd*yd)))*AE (xd*xd+yd*yd)):=by
  have:Re.sqrt ((s-(xd*xd+yd*yd)*((-yd*(xo-xp)+xd*(yo-yp))*AE (xd*xd+yd*yd))*((-yd*(xo-xp)+xd*(yo-yp))*AE (xd*xd+yd*yd)))*AE (xd*xd+yd*yd))≠0:=fun z=>by rw[z] at n;grind
  grind
 obtain⟨Tx,Ax,Ty,Ay,a,cx⟩:=Iy F9 (U.v (by decide) (by decide) B) (U.v (by decide) (by decide) h.d) g (by decide) Rt (Ga F g (EI m));have ul:=h.up U;refine⟨TT,w,Tx,Ax,Ty,Ay,F9,U,a,Od GO (KA F h.l.x h.l.y h.l.z h.d b h.nz) c cx,LJ F9 ul.x ul.y ul.z a (e:=true) ⟨fun _=>Qe rfl q h.ha h.hb h.hc,fun _=>rfl⟩,Gc F9 (U.v (by decide) (by decide) o.o) (U (by decide) o.s) a (e:=true) ⟨fun _=>Qc rfl (OG q) ?_,fun _=>rfl⟩,Ng F9 (U.v (by decide) (by decide) h.d) (U.v (by decide) (by decide) o.o) a ?_ (by decide)⟩
 ·exact n
 rw[Qf rfl];exact (EI (Re.mul_pos A f)).symm
theorem J8 (L:Pl P V w0) (n:∀{r u},P (r::u)->u=[]) (h:Ch (Tf P) w0 T1 A1 T2 A2 T3 A3 T4 A4 T5 A5 al be ga xd yd xp yp i) (o:Cs (Tf P) w0 Ta Aa Tb Ab Tc Ac xo yo s) (q:¬0<((s-(xd*xd+yd*yd)*((-yd*(xo-xp)+xd*(yo-yp))*AE (xd*xd+yd*yd))*((-yd*(xo-xp)+xd*(yo-yp))*AE (xd*xd+yd*yd)))*AE (xd*xd+yd*yd))):∃e,e≠0/\(e=12/\((s-(xd*xd+yd*yd)*((-yd*(xo-xp)+xd*(yo-yp))*AE (xd*xd+yd*yd))*((-yd*(xo-xp)+xd*(yo-yp))*AE (xd*xd+yd*yd)))*AE (xd*xd+yd*yd))=0\/e=7/\((s-(xd*xd+yd*yd)*((-yd*(xo-xp)+xd*(yo-yp))*AE (xd*xd+yd*yd))*((-yd*(xo-xp)+xd*(yo-yp))*AE (xd*xd+yd*yd)))*AE (xd*xd+yd*yd))<0)/\∀br:Int,br=1\/br= -1->CF 50 [.agg (AS T1 A1 T2 A2 T3 A3),.agg (AD T4 A4 T5 A5),.agg (AS Ta Aa Tb Ab Tc Ac),.one (.int .i64 br)] (.AI [(true,(AD [] [] [] [])),(false,[.int .i64 e])])/\CF 122 [.agg (AS T1 A1 T2 A2 T3 A3),.agg (AD T4 A4 T5 A5),.agg (AS Ta Aa Tb Ab Tc Ac),.one (.int .i64 br)] (.one (.int .i64 e)):=by
 have F:=L.fl n;obtain⟨G,B,D,A,H,C,I,j,c,a⟩:=JU L n h o;have b:al*xd+be*yd=0:=by rw[h.ha,h.hb];grind
 have f:=KA F h.l.x h.l.y h.l.z h.d b h.nz;have g:=ND F h.l.x h.l.y h.l.z h.d b h.nz;rcases GR ((s-(xd*xd+yd*yd)*((-yd*(xo-xp)+xd*(yo-yp))*AE (xd*xd+yd*yd))*((-yd*(xo-xp)+xd*(yo-yp))*AE (xd*xd+yd*yd)))*AE (xd*xd+yd*yd)) with⟨m,e⟩ |⟨m,e⟩ |⟨e,_⟩
 ·rw[e] at a;refine⟨7,by decide,.inr ⟨rfl,m⟩,fun br hb=>?_⟩;rcases hb with rfl | rfl
  ·exact⟨K5 GO f c (GZ (by decide) (JX F j e)),G8 IK g a KM⟩
  exact⟨K4 Gr f c (GZ (by decide) (JX F j e)),G8 IJ g a KM⟩
 ·rw[e] at a;refine⟨12,by decide,.inl ⟨rfl,m⟩,fun br hb=>?_⟩;rcases hb with rfl | rfl
  ·exact⟨K5 GO f c (GZ (by decide) (JW F j e)),G8 IK g a KL⟩
  exact⟨K4 Gr f c (GZ (by decide) (JW F j e)),G8 IJ g a KL⟩
 exact absurd e q
theorem Ii (L:Pl P V w0) (O:∀{r u},P (r::u)->u=[]) (o:Cs (Tf P) w0 Ta Aa Tb Ab Tc Ac xo yo s) (a:Cs (Tf P) w0 Td Ad Te Ae C7 Af xa ya t) (N:¬(xo=xa/\yo=ya)):∃n f m b A h B j q g,Vm (Tf P) w0 2100 8300 8300 n f m b (xo+(xa-xo)*((((xa-xo)*(xa-xo)+(ya-yo)*(ya-yo))+s-t)*AE (((xa-xo)*(xa-xo)+(ya-yo)*(ya-yo))+((xa-xo)*(xa-xo)+(ya-yo)*(ya-yo))))) (yo+(ya-yo)*((((xa-xo)*(xa-xo)+(ya-yo)*(ya-yo))+s-t)*AE (((xa-xo)*(xa-xo)+(ya-yo)*(ya-yo))+((xa-xo)*(xa-xo)+(ya-yo)*(ya-yo)))))/\Vm (Tf P) w0 2100 41 41 A h B j (-(ya-yo)) (xa-xo)/\Nm (Tf P) w0 2100 20500 q g (s*AE ((xa-xo)*(xa-xo)+(ya-yo)*(ya-yo))-((((xa-xo)*(xa-xo)+(ya-yo)*(ya-yo))+s-t)*AE (((xa-xo)*(xa-xo)+(ya-yo)*(ya-yo))+((xa-xo)*(xa-xo)+(ya-yo)*(ya-yo))))*((((xa-xo)*(xa-xo)+(ya-yo)*(ya-yo))+s-t)*AE (((xa-xo)*(xa-xo)+(ya-yo)*(ya-yo))+((xa-xo)*(xa-xo)+(ya-yo)*(ya-yo)))))/\CF 116 [.agg (AS Ta Aa Tb Ab Tc Ac),.agg (AS Td Ad Te Ae C7 Af)] (.AI [(true,(B9 n f m b A h B j q g)),(false,[.int .i64 0])])/\CF 207 [.agg (AS Ta Aa Tb Ab Tc Ac),.agg (AS Td Ad Te Ae C7 Af)] (.one (.int .i64 (Bi (s*AE ((xa-xo)*(xa-xo)+(ya-yo)*(ya-yo))-((((xa-xo)*(xa-xo)+(ya-yo)*(ya-yo))+s-t)*AE (((xa-xo)*(xa-xo)+(ya-yo)*(ya-yo))+((xa-xo)*(xa-xo)+(ya-yo)*(ya-yo))))*((((xa-xo)*(xa-xo)+(ya-yo)*(ya-yo))+s-t)*AE (((xa-xo)*(xa-xo)+(ya-yo)*(ya-yo))+((xa-xo)*(xa-xo)+(ya-yo)*(ya-yo)))))))):=by
 have F:=L.fl O;have Z:0<((xa-xo)*(xa-xo)+(ya-yo)*(ya-yo)):=GS (fun z=>N ⟨by have:=z.1;grind,by have:=z.2;grind⟩);have C:((xa-xo)*(xa-xo)+(ya-yo)*(ya-yo))≠0:=by grind
 have D:((xa-xo)*(xa-xo)+(ya-yo)*(ya-yo))+((xa-xo)*(xa-xo)+(ya-yo)*(ya-yo))≠0:=NI C;obtain⟨_,_,_,_,k1,_⟩:=Dm F a.o o.o;obtain⟨_,_,k2,_⟩:=GF F k1;obtain⟨_,_,R,_⟩:=EU F k2 o.s;obtain⟨_,_,S,_⟩:=DM F R a.s;obtain⟨_,_,T,_⟩:=EU F k2 k2;obtain⟨_,_,I,_⟩:=DE F S T (d:=7719) (by decide) D;obtain⟨_,_,_,_,U,_⟩:=Ho F k1 I;obtain⟨_,_,_,_,W,_⟩:=Fw F o.o U;obtain⟨_,_,Y,_⟩:=DE F o.s k2 (d:=3855) (by decide) C;obtain⟨_,_,G,_⟩:=CN F I I;obtain⟨_,_,H,_⟩:=DM F Y G;obtain⟨n,f,m,b,A,h,B,j,q,g,gf,J,M,c⟩:=Ix F o.o o.s a.o a.s (W.mono (l:=8300) (l':=8300) (by decide) (by decide)) (H.mono (l:=20500) (by decide)) C rfl rfl rfl
 refine⟨n,f,m,b,A,h,B,j,q,g,gf,J.mono (by decide) (by decide),M,c,O5 F o.o o.s a.o a.s ?_ (by decide)⟩;rw[VN C,NO (Re.mul_pos (show 0<((xa-xo)*(xa-xo)+(ya-yo)*(ya-yo))+((xa-xo)*(xa-xo)+(ya-yo)*(ya-yo)) by grind) (show 0<((xa-xo)*(xa-xo)+(ya-yo)*(ya-yo))+((xa-xo)*(xa-xo)+(ya-yo)*(ya-yo)) by grind)),show Re.ofRat ((4:Int):Rat)=1+1+1+1 by simp only[show (1:Re)=Re.ofRat 1 from rfl,<-Re.ofRat_add];exact congrArg Re.ofRat (by decide +kernel),show (xo-xa)*(xo-xa)+(yo-ya)*(yo-ya)=((xa-xo)*(xa-xo)+(ya-yo)*(ya-yo)) by grind]
theorem MM (L:Pl P V w0) (B:∀{r u},P (r::u)->u=[]) (o:Cs (Tf P) w0 Ta Aa Tb Ab Tc Ac xo yo s) (a:Cs (Tf P) w0 Td Ad Te Ae C7 Af xa ya t) (h:¬(xo=xa/\yo=ya)) (n:0<(s*AE ((xa-xo)*(xa-xo)+(ya-yo)*(ya-yo))-((((xa-xo)*(xa-xo)+(ya-yo)*(ya-yo))+s-t)*AE (((xa-xo)*(xa-xo)+(ya-yo)*(ya-yo))+((xa-xo)*(xa-xo)+(ya-yo)*(ya-yo))))*((((xa-xo)*(xa-xo)+(ya-yo)*(ya-yo))+s-t)*AE (((xa-xo)*(xa-xo)+(ya-yo)*(ya-yo))+((xa-xo)*(xa-xo)+(ya-yo)*(ya-yo)))))):∃TT w Tx Ax Ty Ay Tz Az Tu Au,F9 TT w/\FC (Tf P) w0 TT w/\Vm TT w 47000000 5 5 Tx Ax Ty Ay ((xo+(xa-xo)*((((xa-xo)*(xa-xo)+(ya-yo)*(ya-yo))+s-t)*AE (((xa-xo)*(xa-xo)+(ya-yo)*(ya-yo))+((xa-xo)*(xa-xo)+(ya-yo)*(ya-yo)))))+ -(ya-yo)*(Re.sqrt (s*AE ((xa-xo)*(xa-xo)+(ya-yo)*(ya-yo))-((((xa-xo)*(xa-xo)+(ya-yo)*(ya-yo))+s-t)*AE (((xa-xo)*(xa-xo)+(ya-yo)*(ya-yo))+((xa-xo)*(xa-xo)+(ya-yo)*(ya-yo))))*((((xa-xo)*(xa-xo)+(ya-yo)*(ya-yo))+s-t)*AE (((xa-xo)*(xa-xo)+(ya-yo)*(ya-yo))+((xa-xo)*(xa-xo)+(ya-yo)*(ya-yo))))))) ((yo+(ya-yo)*((((xa-xo)*(xa-xo)+(ya-yo)*(ya-yo))+s-t)*AE (((xa-xo)*(xa-xo)+(ya-yo)*(ya-yo))+((xa-xo)*(xa-xo)+(ya-yo)*(ya-yo)))))+(xa-xo)*(Re.sqrt (s*AE ((xa-xo)*(xa-xo)+(ya-yo)*(ya-yo))-((((xa-xo)*(xa-xo)+(ya-yo)*(ya-yo))+s-t)*AE (((xa-xo)*(xa-xo)+(ya-yo)*(ya-yo))+((xa-xo)*(xa-xo)+(ya-yo)*(ya-yo))))*((((xa-xo)*(xa-xo)+(ya-yo)*(ya-yo))+s-t)*AE (((xa-xo)*(xa-xo)+(ya-yo)*(ya-yo))+((xa-xo)*(xa-xo)+(ya-yo)*(ya-yo)))))))/\CF 51 [.agg (AS Ta Aa Tb Ab Tc Ac),.agg (AS Td Ad Te Ae C7 Af),.one (.int .i64 (1))] (.AI [(true,(AD Tx Ax Ty Ay)),(false,[.int .i64 0])])/\CF 51 [.agg (AS Td Ad Te Ae C7 Af),.agg (AS Ta Aa Tb Ab Tc Ac),.one (.int .i64 (-1))] (.AI [(true,(AD Tz Az Tu Au)),(false,[.int .i64 0])])/\CF 26 [.agg (AD Tx Ax Ty Ay),.agg (AD Tz Az Tu Au)] (.one (.bool true))/\CF 46 [DJ Ta Aa Tb Ab Tc Ac,.agg (AD Tx Ax Ty Ay)] (.one (.bool true))/\CF 46 [DJ Td Ad Te Ae C7 Af,.agg (AD Tx Ax Ty Ay)] (.one (.bool true))/\CF 55 [.agg (AD Ta Aa Tb Ab),.agg (AD Td Ad Te Ae),.agg (AD Tx Ax Ty Ay)] (.one (.int .i64 (1))):=by
 have F:=L.fl B;have Y:0<((xa-xo)*(xa-xo)+(ya-yo)*(ya-yo)):=GS (fun z=>h ⟨by have:=z.1;grind,by have:=z.2;grind⟩);have b:((xa-xo)*(xa-xo)+(ya-yo)*(ya-yo))≠0:=by grind
 obtain⟨Tm,Am,Tk,Ak,Tp,Ap,Tq,Aq,Tn,An,gf,W,g,c,_⟩:=Ii L B o a h;have e2:(xo-xa)*(xo-xa)+(yo-ya)*(yo-ya)=((xa-xo)*(xa-xo)+(ya-yo)*(ya-yo)):=by grind
 obtain⟨M,D,J,C,O,H,R,I,N,G,j,m,d,S⟩:=Ix F a.o a.s o.o o.s gf g (by rw[e2];exact b) (by rw[e2,Hs b];grind) (by rw[e2,Hs b];grind) (by rw[e2];exact Lk b);obtain⟨TT,w,F9,U,Rt⟩:=H5 L g (by decide) n;have q:=Re.Ev (show 0<=(s*AE ((xa-xo)*(xa-xo)+(ya-yo)*(ya-yo))-((((xa-xo)*(xa-xo)+(ya-yo)*(ya-yo))+s-t)*AE (((xa-xo)*(xa-xo)+(ya-yo)*(ya-yo))+((xa-xo)*(xa-xo)+(ya-yo)*(ya-yo))))*((((xa-xo)*(xa-xo)+(ya-yo)*(ya-yo))+s-t)*AE (((xa-xo)*(xa-xo)+(ya-yo)*(ya-yo))+((xa-xo)*(xa-xo)+(ya-yo)*(ya-yo))))) by grind);have Z:=Re.Gg (s*AE ((xa-xo)*(xa-xo)+(ya-yo)*(ya-yo))-((((xa-xo)*(xa-xo)+(ya-yo)*(ya-yo))+s-t)*AE (((xa-xo)*(xa-xo)+(ya-yo)*(ya-yo))+((xa-xo)*(xa-xo)+(ya-yo)*(ya-yo))))*((((xa-xo)*(xa-xo)+(ya-yo)*(ya-yo))+s-t)*AE (((xa-xo)*(xa-xo)+(ya-yo)*(ya-yo))+((xa-xo)*(xa-xo)+(ya-yo)*(ya-yo)))))
 have A:0<Re.sqrt (s*AE ((xa-xo)*(xa-xo)+(ya-yo)*(ya-yo))-((((xa-xo)*(xa-xo)+(ya-yo)*(ya-yo))+s-t)*AE (((xa-xo)*(xa-xo)+(ya-yo)*(ya-yo))+((xa-xo)*(xa-xo)+(ya-yo)*(ya-yo))))*((((xa-xo)*(xa-xo)+(ya-yo)*(ya-yo))+s-t)*AE (((xa-xo)*(xa-xo)+(ya-yo)*(ya-yo))+((xa-xo)*(xa-xo)+(ya-yo)*(ya-yo))))):=by
  have:Re.sqrt (s*AE ((xa-xo)*(xa-xo)+(ya-yo)*(ya-yo))-((((xa-xo)*(xa-xo)+(ya-yo)*(ya-yo))+s-t)*AE (((xa-xo)*(xa-xo)+(ya-yo)*(ya-yo))+((xa-xo)*(xa-xo)+(ya-yo)*(ya-yo))))*((((xa-xo)*(xa-xo)+(ya-yo)*(ya-yo))+s-t)*AE (((xa-xo)*(xa-xo)+(ya-yo)*(ya-yo))+((xa-xo)*(xa-xo)+(ya-yo)*(ya-yo)))))≠0:=fun z=>by rw[z] at q;grind
  grind
 obtain⟨Tx,Ax,Ty,Ay,f,cx⟩:=Iy F9 (U.v (by decide) (by decide) gf) (U.v (by decide) (by decide) W) g (by decide) Rt (Ga F g (EI n));obtain⟨Tz,Az,Tu,Au,hy,T⟩:=KB F9 (U.v (by decide) (by decide) j) (U.v (by decide) (by decide) (m.mono (l:=41) (l':=41) (by decide) (by decide))) d (by decide) Rt (Ga F d (EI n));refine⟨TT,w,Tx,Ax,Ty,Ay,Tz,Az,Tu,Au,F9,U,f,Hh GO (G4 F o.o o.s a.o a.s h) c cx,Hh Gr (G4 F a.o a.s o.o o.s (fun z=>h ⟨z.1.symm,z.2.symm⟩)) S T,CR F9 f hy (by decide) (by decide) (by decide) (by decide) (e:=true) ⟨fun _=>⟨by grind,by grind⟩,fun _=>rfl⟩,Gc F9 (U.v (by decide) (by decide) o.o) (U (by decide) o.s) f (e:=true) ⟨fun _=>?_,fun _=>rfl⟩,Gc F9 (U.v (by decide) (by decide) a.o) (U (by decide) a.s) f (e:=true) ⟨fun _=>?_,fun _=>rfl⟩,LS F9 (U.v (by decide) (by decide) o.o) (U.v (by decide) (by decide) a.o) f ?_ (by decide)⟩
 ·exact (show _=_ by grind).trans (Lj (t:=t) (u:=xa-xo) (v:=ya-yo) (p:=((((xa-xo)*(xa-xo)+(ya-yo)*(ya-yo))+s-t)*AE (((xa-xo)*(xa-xo)+(ya-yo)*(ya-yo))+((xa-xo)*(xa-xo)+(ya-yo)*(ya-yo))))) (r:=(Re.sqrt (s*AE ((xa-xo)*(xa-xo)+(ya-yo)*(ya-yo))-((((xa-xo)*(xa-xo)+(ya-yo)*(ya-yo))+s-t)*AE (((xa-xo)*(xa-xo)+(ya-yo)*(ya-yo))+((xa-xo)*(xa-xo)+(ya-yo)*(ya-yo))))*((((xa-xo)*(xa-xo)+(ya-yo)*(ya-yo))+s-t)*AE (((xa-xo)*(xa-xo)+(ya-yo)*(ya-yo))+((xa-xo)*(xa-xo)+(ya-yo)*(ya-yo))))))) rfl b rfl (by exact q))
 ·exact (show _=_ by grind).trans (MN (u:=xa-xo) (v:=ya-yo) (p:=((((xa-xo)*(xa-xo)+(ya-yo)*(ya-yo))+s-t)*AE (((xa-xo)*(xa-xo)+(ya-yo)*(ya-yo))+((xa-xo)*(xa-xo)+(ya-yo)*(ya-yo))))) (r:=(Re.sqrt (s*AE ((xa-xo)*(xa-xo)+(ya-yo)*(ya-yo))-((((xa-xo)*(xa-xo)+(ya-yo)*(ya-yo))+s-t)*AE (((xa-xo)*(xa-xo)+(ya-yo)*(ya-yo))+((xa-xo)*(xa-xo)+(ya-yo)*(ya-yo))))*((((xa-xo)*(xa-xo)+(ya-yo)*(ya-yo))+s-t)*AE (((xa-xo)*(xa-xo)+(ya-yo)*(ya-yo))+((xa-xo)*(xa-xo)+(ya-yo)*(ya-yo))))))) rfl b (Ll b) rfl (by exact q))
 rw[show (xa-xo)*(((yo+(ya-yo)*((((xa-xo)*(xa-xo)+(ya-yo)*(ya-yo))+s-t)*AE (((xa-xo)*(xa-xo)+(ya-yo)*(ya-yo))+((xa-xo)*(xa-xo)+(ya-yo)*(ya-yo)))))+(xa-xo)*(Re.sqrt (s*AE ((xa-xo)*(xa-xo)+(ya-yo)*(ya-yo))-((((xa-xo)*(xa-xo)+(ya-yo)*(ya-yo))+s-t)*AE (((xa-xo)*(xa-xo)+(ya-yo)*(ya-yo))+((xa-xo)*(xa-xo)+(ya-yo)*(ya-yo))))*((((xa-xo)*(xa-xo)+(ya-yo)*(ya-yo))+s-t)*AE (((xa-xo)*(xa-xo)+(ya-yo)*(ya-yo))+((xa-xo)*(xa-xo)+(ya-yo)*(ya-yo)))))))-yo)-(ya-yo)*(((xo+(xa-xo)*((((xa-xo)*(xa-xo)+(ya-yo)*(ya-yo))+s-t)*AE (((xa-xo)*(xa-xo)+(ya-yo)*(ya-yo))+((xa-xo)*(xa-xo)+(ya-yo)*(ya-yo)))))+ -(ya-yo)*(Re.sqrt (s*AE ((xa-xo)*(xa-xo)+(ya-yo)*(ya-yo))-((((xa-xo)*(xa-xo)+(ya-yo)*(ya-yo))+s-t)*AE (((xa-xo)*(xa-xo)+(ya-yo)*(ya-yo))+((xa-xo)*(xa-xo)+(ya-yo)*(ya-yo))))*((((xa-xo)*(xa-xo)+(ya-yo)*(ya-yo))+s-t)*AE (((xa-xo)*(xa-xo)+(ya-yo)*(ya-yo))+((xa-xo)*(xa-xo)+(ya-yo)*(ya-yo)))))))-xo)=((xa-xo)*(xa-xo)+(ya-yo)*(ya-yo))*(Re.sqrt (s*AE ((xa-xo)*(xa-xo)+(ya-yo)*(ya-yo))-((((xa-xo)*(xa-xo)+(ya-yo)*(ya-yo))+s-t)*AE (((xa-xo)*(xa-xo)+(ya-yo)*(ya-yo))+((xa-xo)*(xa-xo)+(ya-yo)*(ya-yo))))*((((xa-xo)*(xa-xo)+(ya-yo)*(ya-yo))+s-t)*AE (((xa-xo)*(xa-xo)+(ya-yo)*(ya-yo))+((xa-xo)*(xa-xo)+(ya-yo)*(ya-yo)))))) from (show _=_ by grind).trans (MO (u:=xa-xo) (v:=ya-yo) (p:=((((xa-xo)*(xa-xo)+(ya-yo)*(ya-yo))+s-t)*AE (((xa-xo)*(xa-xo)+(ya-yo)*(ya-yo))+((xa-xo)*(xa-xo)+(ya-yo)*(ya-yo))))) (r:=(Re.sqrt (s*AE ((xa-xo)*(xa-xo)+(ya-yo)*(ya-yo))-((((xa-xo)*(xa-xo)+(ya-yo)*(ya-yo))+s-t)*AE (((xa-xo)*(xa-xo)+(ya-yo)*(ya-yo))+((xa-xo)*(xa-xo)+(ya-yo)*(ya-yo))))*((((xa-xo)*(xa-xo)+(ya-yo)*(ya-yo))+s-t)*AE (((xa-xo)*(xa-xo)+(ya-yo)*(ya-yo))+((xa-xo)*(xa-xo)+(ya-yo)*(ya-yo))))))) rfl)];exact (EI (Re.mul_pos Y A)).symm
theorem ML (L:Pl P V w0) (C:∀{r u},P (r::u)->u=[]) (o:Cs (Tf P) w0 Ta Aa Tb Ab Tc Ac xo yo s) (a:Cs (Tf P) w0 Td Ad Te Ae C7 Af xa ya t) (j:¬(xo=xa/\yo=ya)) (q:0<(s*AE ((xa-xo)*(xa-xo)+(ya-yo)*(ya-yo))-((((xa-xo)*(xa-xo)+(ya-yo)*(ya-yo))+s-t)*AE (((xa-xo)*(xa-xo)+(ya-yo)*(ya-yo))+((xa-xo)*(xa-xo)+(ya-yo)*(ya-yo))))*((((xa-xo)*(xa-xo)+(ya-yo)*(ya-yo))+s-t)*AE (((xa-xo)*(xa-xo)+(ya-yo)*(ya-yo))+((xa-xo)*(xa-xo)+(ya-yo)*(ya-yo)))))):∃TT w Tx Ax Ty Ay Tz Az Tu Au,F9 TT w/\FC (Tf P) w0 TT w/\Vm TT w 47000000 5 5 Tx Ax Ty Ay ((xo+(xa-xo)*((((xa-xo)*(xa-xo)+(ya-yo)*(ya-yo))+s-t)*AE (((xa-xo)*(xa-xo)+(ya-yo)*(ya-yo))+((xa-xo)*(xa-xo)+(ya-yo)*(ya-yo)))))+ -(ya-yo)*(-Re.sqrt (s*AE ((xa-xo)*(xa-xo)+(ya-yo)*(ya-yo))-((((xa-xo)*(xa-xo)+(ya-yo)*(ya-yo))+s-t)*AE (((xa-xo)*(xa-xo)+(ya-yo)*(ya-yo))+((xa-xo)*(xa-xo)+(ya-yo)*(ya-yo))))*((((xa-xo)*(xa-xo)+(ya-yo)*(ya-yo))+s-t)*AE (((xa-xo)*(xa-xo)+(ya-yo)*(ya-yo))+((xa-xo)*(xa-xo)+(ya-yo)*(ya-yo))))))) ((yo+(ya-yo)*((((xa-xo)*(xa-xo)+(ya-yo)*(ya-yo))+s-t)*AE (((xa-xo)*(xa-xo)+(ya-yo)*(ya-yo))+((xa-xo)*(xa-xo)+(ya-yo)*(ya-yo)))))+(xa-xo)*(-Re.sqrt (s*AE ((xa-xo)*(xa-xo)+(ya-yo)*(ya-yo))-((((xa-xo)*(xa-xo)+(ya-yo)*(ya-yo))+s-t)*AE (((xa-xo)*(xa-xo)+(ya-yo)*(ya-yo))+((xa-xo)*(xa-xo)+(ya-yo)*(ya-yo))))*((((xa-xo)*(xa-xo)+(ya-yo)*(ya-yo))+s-t)*AE (((xa-xo)*(xa-xo)+(ya-yo)*(ya-yo))+((xa-xo)*(xa-xo)+(ya-yo)*(ya-yo)))))))/\CF 51 [.agg (AS Ta Aa Tb Ab Tc Ac),.agg (AS Td Ad Te Ae C7 Af),.one (.int .i64 (-1))] (.AI [(true,(AD Tx Ax Ty Ay)),(false,[.int .i64 0])])/\CF 51 [.agg (AS Td Ad Te Ae C7 Af),.agg (AS Ta Aa Tb Ab Tc Ac),.one (.int .i64 (1))] (.AI [(true,(AD Tz Az Tu Au)),(false,[.int .i64 0])])/\CF 26 [.agg (AD Tx Ax Ty Ay),.agg (AD Tz Az Tu Au)] (.one (.bool true))/\CF 46 [DJ Ta Aa Tb Ab Tc Ac,.agg (AD Tx Ax Ty Ay)] (.one (.bool true))/\CF 46 [DJ Td Ad Te Ae C7 Af,.agg (AD Tx Ax Ty Ay)] (.one (.bool true))/\CF 55 [.agg (AD Ta Aa Tb Ab),.agg (AD Td Ad Te Ae),.agg (AD Tx Ax Ty Ay)] (.one (.int .i64 (-1))):=by
 have F:=L.fl C;have Z:0<((xa-xo)*(xa-xo)+(ya-yo)*(ya-yo)):=GS (fun z=>j ⟨by have:=z.1;grind,by have:=z.2;grind⟩);have d:((xa-xo)*(xa-xo)+(ya-yo)*(ya-yo))≠0:=by grind
 obtain⟨Tm,Am,Tk,Ak,Tp,Ap,Tq,Aq,Tn,An,gf,Y,h,c,_⟩:=Ii L C o a j;have e2:(xo-xa)*(xo-xa)+(yo-ya)*(yo-ya)=((xa-xo)*(xa-xo)+(ya-yo)*(ya-yo)):=by grind
 obtain⟨N,G,M,D,R,I,S,J,O,H,m,n,f,T⟩:=Ix F a.o a.s o.o o.s gf h (by rw[e2];exact d) (by rw[e2,Hs d];grind) (by rw[e2,Hs d];grind) (by rw[e2];exact Lk d);obtain⟨TT,w,F9,U,Rt⟩:=H5 L h (by decide) q;have A:=Re.Ev (show 0<=(s*AE ((xa-xo)*(xa-xo)+(ya-yo)*(ya-yo))-((((xa-xo)*(xa-xo)+(ya-yo)*(ya-yo))+s-t)*AE (((xa-xo)*(xa-xo)+(ya-yo)*(ya-yo))+((xa-xo)*(xa-xo)+(ya-yo)*(ya-yo))))*((((xa-xo)*(xa-xo)+(ya-yo)*(ya-yo))+s-t)*AE (((xa-xo)*(xa-xo)+(ya-yo)*(ya-yo))+((xa-xo)*(xa-xo)+(ya-yo)*(ya-yo))))) by grind);have a1:=Re.Gg (s*AE ((xa-xo)*(xa-xo)+(ya-yo)*(ya-yo))-((((xa-xo)*(xa-xo)+(ya-yo)*(ya-yo))+s-t)*AE (((xa-xo)*(xa-xo)+(ya-yo)*(ya-yo))+((xa-xo)*(xa-xo)+(ya-yo)*(ya-yo))))*((((xa-xo)*(xa-xo)+(ya-yo)*(ya-yo))+s-t)*AE (((xa-xo)*(xa-xo)+(ya-yo)*(ya-yo))+((xa-xo)*(xa-xo)+(ya-yo)*(ya-yo)))))
 have B:0<Re.sqrt (s*AE ((xa-xo)*(xa-xo)+(ya-yo)*(ya-yo))-((((xa-xo)*(xa-xo)+(ya-yo)*(ya-yo))+s-t)*AE (((xa-xo)*(xa-xo)+(ya-yo)*(ya-yo))+((xa-xo)*(xa-xo)+(ya-yo)*(ya-yo))))*((((xa-xo)*(xa-xo)+(ya-yo)*(ya-yo))+s-t)*AE (((xa-xo)*(xa-xo)+(ya-yo)*(ya-yo))+((xa-xo)*(xa-xo)+(ya-yo)*(ya-yo))))):=by
  have:Re.sqrt (s*AE ((xa-xo)*(xa-xo)+(ya-yo)*(ya-yo))-((((xa-xo)*(xa-xo)+(ya-yo)*(ya-yo))+s-t)*AE (((xa-xo)*(xa-xo)+(ya-yo)*(ya-yo))+((xa-xo)*(xa-xo)+(ya-yo)*(ya-yo))))*((((xa-xo)*(xa-xo)+(ya-yo)*(ya-yo))+s-t)*AE (((xa-xo)*(xa-xo)+(ya-yo)*(ya-yo))+((xa-xo)*(xa-xo)+(ya-yo)*(ya-yo)))))≠0:=fun z=>by rw[z] at A;grind
  grind
 obtain⟨Tx,Ax,Ty,Ay,g,cx⟩:=KB F9 (U.v (by decide) (by decide) gf) (U.v (by decide) (by decide) Y) h (by decide) Rt (Ga F h (EI q));obtain⟨Tz,Az,Tu,Au,hy,W⟩:=Iy F9 (U.v (by decide) (by decide) m) (U.v (by decide) (by decide) (n.mono (l:=41) (l':=41) (by decide) (by decide))) f (by decide) Rt (Ga F f (EI q));refine⟨TT,w,Tx,Ax,Ty,Ay,Tz,Az,Tu,Au,F9,U,g,Hh Gr (G4 F o.o o.s a.o a.s j) c cx,Hh GO (G4 F a.o a.s o.o o.s (fun z=>j ⟨z.1.symm,z.2.symm⟩)) T W,CR F9 g hy (by decide) (by decide) (by decide) (by decide) (e:=true) ⟨fun _=>⟨by grind,by grind⟩,fun _=>rfl⟩,Gc F9 (U.v (by decide) (by decide) o.o) (U (by decide) o.s) g (e:=true) ⟨fun _=>?_,fun _=>rfl⟩,Gc F9 (U.v (by decide) (by decide) a.o) (U (by decide) a.s) g (e:=true) ⟨fun _=>?_,fun _=>rfl⟩,LS F9 (U.v (by decide) (by decide) o.o) (U.v (by decide) (by decide) a.o) g ?_ (by decide)⟩
 ·exact (show _=_ by grind).trans (Lj (t:=t) (u:=xa-xo) (v:=ya-yo) (p:=((((xa-xo)*(xa-xo)+(ya-yo)*(ya-yo))+s-t)*AE (((xa-xo)*(xa-xo)+(ya-yo)*(ya-yo))+((xa-xo)*(xa-xo)+(ya-yo)*(ya-yo))))) (r:=(-Re.sqrt (s*AE ((xa-xo)*(xa-xo)+(ya-yo)*(ya-yo))-((((xa-xo)*(xa-xo)+(ya-yo)*(ya-yo))+s-t)*AE (((xa-xo)*(xa-xo)+(ya-yo)*(ya-yo))+((xa-xo)*(xa-xo)+(ya-yo)*(ya-yo))))*((((xa-xo)*(xa-xo)+(ya-yo)*(ya-yo))+s-t)*AE (((xa-xo)*(xa-xo)+(ya-yo)*(ya-yo))+((xa-xo)*(xa-xo)+(ya-yo)*(ya-yo))))))) rfl d rfl (by rw[show ∀z:Re,-z* -z=z*z by intro z;grind];exact A))
 ·exact (show _=_ by grind).trans (MN (u:=xa-xo) (v:=ya-yo) (p:=((((xa-xo)*(xa-xo)+(ya-yo)*(ya-yo))+s-t)*AE (((xa-xo)*(xa-xo)+(ya-yo)*(ya-yo))+((xa-xo)*(xa-xo)+(ya-yo)*(ya-yo))))) (r:=(-Re.sqrt (s*AE ((xa-xo)*(xa-xo)+(ya-yo)*(ya-yo))-((((xa-xo)*(xa-xo)+(ya-yo)*(ya-yo))+s-t)*AE (((xa-xo)*(xa-xo)+(ya-yo)*(ya-yo))+((xa-xo)*(xa-xo)+(ya-yo)*(ya-yo))))*((((xa-xo)*(xa-xo)+(ya-yo)*(ya-yo))+s-t)*AE (((xa-xo)*(xa-xo)+(ya-yo)*(ya-yo))+((xa-xo)*(xa-xo)+(ya-yo)*(ya-yo))))))) rfl d (Ll d) rfl (by rw[show ∀z:Re,-z* -z=z*z by intro z;grind];exact A))
 rw[show (xa-xo)*(((yo+(ya-yo)*((((xa-xo)*(xa-xo)+(ya-yo)*(ya-yo))+s-t)*AE (((xa-xo)*(xa-xo)+(ya-yo)*(ya-yo))+((xa-xo)*(xa-xo)+(ya-yo)*(ya-yo)))))+(xa-xo)*(-Re.sqrt (s*AE ((xa-xo)*(xa-xo)+(ya-yo)*(ya-yo))-((((xa-xo)*(xa-xo)+(ya-yo)*(ya-yo))+s-t)*AE (((xa-xo)*(xa-xo)+(ya-yo)*(ya-yo))+((xa-xo)*(xa-xo)+(ya-yo)*(ya-yo))))*((((xa-xo)*(xa-xo)+(ya-yo)*(ya-yo))+s-t)*AE (((xa-xo)*(xa-xo)+(ya-yo)*(ya-yo))+((xa-xo)*(xa-xo)+(ya-yo)*(ya-yo)))))))-yo)-(ya-yo)*(((xo+(xa-xo)*((((xa-xo)*(xa-xo)+(ya-yo)*(ya-yo))+s-t)*AE (((xa-xo)*(xa-xo)+(ya-yo)*(ya-yo))+((xa-xo)*(xa-xo)+(ya-yo)*(ya-yo)))))+ -(ya-yo)*(-Re.sqrt (s*AE ((xa-xo)*(xa-xo)+(ya-yo)*(ya-yo))-((((xa-xo)*(xa-xo)+(ya-yo)*(ya-yo))+s-t)*AE (((xa-xo)*(xa-xo)+(ya-yo)*(ya-yo))+((xa-xo)*(xa-xo)+(ya-yo)*(ya-yo))))*((((xa-xo)*(xa-xo)+(ya-yo)*(ya-yo))+s-t)*AE (((xa-xo)*(xa-xo)+(ya-yo)*(ya-yo))+((xa-xo)*(xa-xo)+(ya-yo)*(ya-yo)))))))-xo)=((xa-xo)*(xa-xo)+(ya-yo)*(ya-yo))*(-Re.sqrt (s*AE ((xa-xo)*(xa-xo)+(ya-yo)*(ya-yo))-((((xa-xo)*(xa-xo)+(ya-yo)*(ya-yo))+s-t)*AE (((xa-xo)*(xa-xo)+(ya-yo)*(ya-yo))+((xa-xo)*(xa-xo)+(ya-yo)*(ya-yo))))*((((xa-xo)*(xa-xo)+(ya-yo)*(ya-yo))+s-t)*AE (((xa-xo)*(xa-xo)+(ya-yo)*(ya-yo))+((xa-xo)*(xa-xo)+(ya-yo)*(ya-yo)))))) from (show _=_ by grind).trans (MO (u:=xa-xo) (v:=ya-yo) (p:=((((xa-xo)*(xa-xo)+(ya-yo)*(ya-yo))+s-t)*AE (((xa-xo)*(xa-xo)+(ya-yo)*(ya-yo))+((xa-xo)*(xa-xo)+(ya-yo)*(ya-yo))))) (r:=(-Re.sqrt (s*AE ((xa-xo)*(xa-xo)+(ya-yo)*(ya-yo))-((((xa-xo)*(xa-xo)+(ya-yo)*(ya-yo))+s-t)*AE (((xa-xo)*(xa-xo)+(ya-yo)*(ya-yo))+((xa-xo)*(xa-xo)+(ya-yo)*(ya-yo))))*((((xa-xo)*(xa-xo)+(ya-yo)*(ya-yo))+s-t)*AE (((xa-xo)*(xa-xo)+(ya-yo)*(ya-yo))+((xa-xo)*(xa-xo)+(ya-yo)*(ya-yo))))))) rfl)];exact (KU (by have:=Re.mul_pos Z B;rw[show ∀a b:Re,a* -b= -(a*b) by intro a b;grind];grind)).symm
theorem PV:un x=x*AE (fs x y):=by
 by_cases h:x=0
 ·rw[PT h,h];grind
 rw[PU h,Qo h];exact (F6 h).symm
theorem Gq (F:Fl TT w) (f:Vm TT w 2100 20 20 T1 A1 T2 A2 x1 y1) (g:Vm TT w 2100 20 20 T3 A3 T4 A4 x2 y2) (b:¬(x1=x2/\y1=y2)):∃T5 A5 T6 A6 T7 A7 al be ga i,Ed TT w 2100 999 1083 T5 A5 T6 A6 T7 A7 al be ga/\(al=1\/al=0/\be=1)/\al= -(y2+ -y1)*i/\be=(x2+ -x1)*i/\ga=(-(y2+ -y1)*x1+(x2+ -x1)*y1)*i/\CF 99 [.agg (AD T1 A1 T2 A2),.agg (AD T3 A3 T4 A4)] (.AI [(true,(AS T5 A5 T6 A6 T7 A7)),(false,[.int .i64 0])]):=by
 obtain⟨T5,A5,T6,A6,T7,A7,a,c⟩:=VZ F f g (by decide) (by decide) (by decide) (by decide) b (d:=957);exact⟨T5,A5,T6,A6,T7,A7,_,_,_,AE (fs (-(y2+ -y1)) (x2+ -x1)),⟨a.x,a.y.mono (by decide),a.z.mono (by decide)⟩,Um (fun z=>b ⟨by have:=z.2;grind,by have:=z.1;grind⟩),PV,rfl,rfl,c⟩
theorem OW (F:Fl TT w) (a:Vm TT w 2100 20 20 T1 A1 T2 A2 x1 y1) (d:Vm TT w 2100 20 20 T3 A3 T4 A4 x2 y2) (b:¬(x1=x2/\y1=y2)):∃T5 A5 T6 A6 T7 A7 T8 A8 T9 A9 al be ga xd yd i,Ch TT w T5 A5 T6 A6 T7 A7 T8 A8 T9 A9 al be ga xd yd x1 y1 i/\CF 99 [.agg (AD T1 A1 T2 A2),.agg (AD T3 A3 T4 A4)] (.AI [(true,(AS T5 A5 T6 A6 T7 A7)),(false,[.int .i64 0])])/\CF 27 [.agg (AD T3 A3 T4 A4),.agg (AD T1 A1 T2 A2)] (.AI [(true,(AD T8 A8 T9 A9)),(false,[.int .i64 0])]):=by
 obtain⟨T5,A5,T6,A6,T7,A7,al,be,ga,i,j,g,ha,hb,hc,c⟩:=Gq F a d b;obtain⟨T8,A8,T9,A9,h,f⟩:=FN F d a;exact⟨T5,A5,T6,A6,T7,A7,T8,A8,T9,A9,al,be,ga,_,_,i,⟨j,h.mono (by decide) (by decide),⟨_,_,_,_,a⟩,fun z=>b ⟨by have:=z.1;grind,by have:=z.2;grind⟩,g,ha,hb,hc⟩,c,f⟩
theorem OX (F:Fl TT w) (a:Vm TT w 2100 20 20 T1 A1 T2 A2 x1 y1) (d:Vm TT w 2100 20 20 T3 A3 T4 A4 x2 y2) (b:¬(x1=x2/\y1=y2)):∃T5 A5 T6 A6 T7 A7 T8 A8 T9 A9 Ta Aa Tb Ab al be ga xd yd i,Ch TT w T5 A5 T6 A6 T7 A7 T8 A8 T9 A9 al be ga xd yd x1 y1 i/\CF 99 [.agg (AD T1 A1 T2 A2),.agg (AD T3 A3 T4 A4)] (.AI [(true,(AS T5 A5 T6 A6 T7 A7)),(false,[.int .i64 0])])/\CF 27 [.agg (AD T3 A3 T4 A4),.agg (AD T1 A1 T2 A2)] (.AI [(true,(AD Ta Aa Tb Ab)),(false,[.int .i64 0])])/\CF 91 [.agg (AD Ta Aa Tb Ab)] (.agg (AD T8 A8 T9 A9)):=by
 obtain⟨T5,A5,T6,A6,T7,A7,al,be,ga,i,l,h,ha,hb,hc,c⟩:=Gq F a d b;obtain⟨Ta,Aa,Tb,Ab,j,f⟩:=FN F d a;obtain⟨A8,A9,m,g⟩:=Jm F j;exact⟨T5,A5,T6,A6,T7,A7,Ta,A8,Tb,A9,Ta,Aa,Tb,Ab,al,be,ga,_,_,-i,⟨l,m.mono (by decide) (by decide),⟨_,_,_,_,a⟩,fun z=>b ⟨by have:=z.1;grind,by have:=z.2;grind⟩,h,by rw[ha];grind,by rw[hb];grind,by rw[hc];grind⟩,c,f,g⟩
end Go.Abs
namespace Go.Abs
open Go.RowKit
def IY (x:el BL):Prop:=List.length (α:=LR) x.1.1<=1/\List.length (α:=LR) x.2.1<=1
variable {A5 A6 A7 A8 A9 Aa Ab DP DQ DR DS DT DU DV DW DX DY Dn Dp Dq Dr Ds Dt Du Dv Dw Dx:LR} {Q:List (el BL)} {T5 T6 T7 T8 T9 Ta Tb DZ Da Db Dc De Df Dg Dh Di Dj Dy Dz D5 D6 D7 D8 D9 EA EB EC:List LR} {X:List (el Bh)} {ba bb bk ca cb e2:Bool} {br fa fb k1 k2 pa pb pc pd:Int}
theorem LI {b:Bool} (hb:b=true↔∀x∈Q,IY x):CF 43 [.one (.sl BL Q)] (.one (.bool b)):=by
 refine AZ Tryz.func43 fun E T=>?_
 conv=>cbv
 refine .inr ?_;obtain⟨F,h⟩:=xJ fun vs C k=>∃(k':Nat) (j:Int),vs=[.one (.sl BL Q),.one (.int .i64 j)]/\C=[]/\(BG j k'/\k'<=Q.length)/\(∀x∈Q.take k',IY x)/\k=Q.length-k'
 refine⟨[0,3],[],F,⟨Q.length-0,by rw[h];exact⟨0,0,rfl,rfl,⟨⟨rfl⟩,Nat.zero_le _⟩,(fun x d=>by simp at d),rfl⟩⟩,?_⟩;intro vs C M r;rw[h] at r;obtain⟨k',j,rfl,rfl,⟨r,I⟩,hinv,J⟩:=r;conv=>cbv
 have R:=r.eq;rintro U ⟨O,f6⟩;conv=>cbv
 intro N D;conv=>cbv
 cases N <;> conv=>cbv
 ·have L:=BX D;exact AF ⟨⟨rfl,congrArg _ ((hb.2 (fun x d=>hinv x (by rw[List.take_of_length_le (by omega)];exact d)))),trivial⟩,trivial⟩
 have L:=BY D;refine .inr ?_;obtain⟨a,c⟩:=Ao (l:=Q) (i:=k') (by omega);refine⟨a,fun _=>⟨by omega,by rw[show (j).toNat=k' by omega];exact c⟩,?_⟩;try conv=>cbv
 rintro m ⟨f,f16⟩;conv=>cbv
 intro A o;conv=>cbv
 cases A <;> conv=>cbv
 ·have u:=Ct o;refine⟨a,fun _=>⟨by omega,by rw[show (j).toNat=k' by omega];exact c⟩,?_⟩;try conv=>cbv
  rintro n ⟨g,f25⟩;conv=>cbv
  intro B q;conv=>cbv
  cases B <;> conv=>cbv
  ·have z:=Ct q;intro W S;conv=>cbv
   refine Ah ?_;refine⟨Q.length-(k'+1),?_,?_⟩
   ·omega
   rw[h]
   exact⟨k'+1,_,rfl,rfl,⟨⟨by omega⟩,by omega⟩,(fun x d=>by
    rw[Cb c] at d;rcases List.mem_append.1 d with d | d
    ·exact hinv x d
    rw[List.mem_singleton.1 d];have d1:m=(List.length (α:=LR) a.1.1:Nat):=f;have d2:n=(List.length (α:=LR) a.2.1:Nat):=g;exact⟨by omega,by omega⟩),rfl⟩
  have z:=Cu q;exact AF ⟨⟨rfl,congrArg _ (by cases b with | false=>rfl | true=>(obtain⟨G,H⟩:=hb.1 rfl a (List.mem_of_getElem? c);exfalso;(try have d1:m=(List.length (α:=LR) a.1.1:Nat):=f);(try have d2:n=(List.length (α:=LR) a.2.1:Nat):=g);omega)),trivial⟩,trivial⟩
 have u:=Cu o;exact AF ⟨⟨rfl,congrArg _ (by cases b with | false=>rfl | true=>(obtain⟨G,H⟩:=hb.1 rfl a (List.mem_of_getElem? c);exfalso;(try have d1:m=(List.length (α:=LR) a.1.1:Nat):=f);(try have d2:n=(List.length (α:=LR) a.2.1:Nat):=g);omega)),trivial⟩,trivial⟩
theorem Oy {xi c:el BL} (F:0<=fa/\fa<256) (G:0<=fb/\fb<256) (L:2<=Q.length) (o:Q[(fa%(Q.length:Int)).toNat]? =some xi) (q:Q[(fb%(Q.length:Int)).toNat]? =some c) {T1:List LR} {A1:LR} (c1:CF 98 [.agg (AD xi.1.1 xi.1.2 xi.2.1 xi.2.2),.agg (AD c.1.1 c.1.2 c.2.1 c.2.2)] (.AI [(true,(AS xi.1.1 xi.1.2 xi.2.1 xi.2.2 T1 A1)),(false,[.int .i64 0])])):CF 44 [.agg [.bool true,.int .u8 fa,.int .u8 fb,.bool bk],.one (.sl BL Q)] (.AI [(true,[.int .i64 2,AG,AH,AG,AH,AG,AH,AG,AH,AG,AH,.sl (.sl AA) xi.1.1,.sl AA xi.1.2,.sl (.sl AA) xi.2.1,.sl AA xi.2.2,.sl (.sl AA) T1,.sl AA A1,AG,AH,AG,AH]),(false,[.bool true])]):=by
 refine AZ Tryz.func44 fun E D=>?_
 conv=>cbv
 rintro H ⟨A,f15⟩;conv=>cbv
 intro r d;conv=>cbv
 cases r <;> conv=>cbv
 ·have h:=BR d;intro u a;conv=>cbv
  have a:=wrap_i64 a;have a:u=fa:=by omega
  rintro I ⟨m,f23⟩;conv=>cbv
  intro j f;conv=>cbv
  refine AY ?_;have B:0<=j:=by rw[f];exact Int.emod_nonneg _ (by omega)
  refine⟨xi,fun _=>⟨by omega,by rw[show j=fa%(Q.length:Int) by rw[f,a,m]];exact o⟩,?_⟩;try conv=>cbv
  intro z b;conv=>cbv
  have b:=wrap_i64 b;have b:z=fb:=by omega
  rintro J ⟨n,f32⟩;conv=>cbv
  intro l g;conv=>cbv
  refine AY ?_;have C:0<=l:=by rw[g];exact Int.emod_nonneg _ (by omega)
  refine⟨c,fun _=>⟨by omega,by rw[show l=fb%(Q.length:Int) by rw[g,b,n]];exact q⟩,?_⟩;try conv=>cbv
  refine BB ?_;refine AB D c1 ?_;conv=>cbv
  refine BM ?_;conv=>cbv
  exact AF ⟨⟨rfl,rfl,AJ,AJ,AJ,AJ,AJ,AJ,AJ,AJ,AJ,AJ,rfl,rfl,rfl,rfl,rfl,rfl,AJ,AJ,AJ,AJ,trivial⟩,t2,trivial⟩
 have h:=BS d;exact absurd h (by omega)
theorem Oz {xi c:el BL} (F:0<=fa/\fa<256) (G:0<=fb/\fb<256) (L:2<=Q.length) (o:Q[(fa%(Q.length:Int)).toNat]? =some xi) (q:Q[(fb%(Q.length:Int)).toNat]? =some c) (c1:CF 98 [.agg (AD xi.1.1 xi.1.2 xi.2.1 xi.2.2),.agg (AD c.1.1 c.1.2 c.2.1 c.2.2)] (.AI [(true,[AG,AH,AG,AH,AG,AH]),(false,[.int .i64 11])])):CF 44 [.agg [.bool true,.int .u8 fa,.int .u8 fb,.bool bk],.one (.sl BL Q)] (.AI [(true,[.int .i64 2,AG,AH,AG,AH,AG,AH,AG,AH,AG,AH,AG,AH,AG,AH,AG,AH,AG,AH,AG,AH]),(false,[.bool false])]):=by
 refine AZ Tryz.func44 fun E D=>?_
 conv=>cbv
 rintro H ⟨A,f15⟩;conv=>cbv
 intro r d;conv=>cbv
 cases r <;> conv=>cbv
 ·have h:=BR d;intro u a;conv=>cbv
  have a:=wrap_i64 a;have a:u=fa:=by omega
  rintro I ⟨m,f23⟩;conv=>cbv
  intro j f;conv=>cbv
  refine AY ?_;have B:0<=j:=by rw[f];exact Int.emod_nonneg _ (by omega)
  refine⟨xi,fun _=>⟨by omega,by rw[show j=fa%(Q.length:Int) by rw[f,a,m]];exact o⟩,?_⟩;try conv=>cbv
  intro z b;conv=>cbv
  have b:=wrap_i64 b;have b:z=fb:=by omega
  rintro J ⟨n,f32⟩;conv=>cbv
  intro l g;conv=>cbv
  refine AY ?_;have C:0<=l:=by rw[g];exact Int.emod_nonneg _ (by omega)
  refine⟨c,fun _=>⟨by omega,by rw[show l=fb%(Q.length:Int) by rw[g,b,n]];exact q⟩,?_⟩;try conv=>cbv
  refine BB ?_;refine AB D c1 ?_;conv=>cbv
  refine AR ?_;conv=>cbv
  exact AF ⟨⟨rfl,rfl,AJ,AJ,AJ,AJ,AJ,AJ,AJ,AJ,AJ,AJ,rfl,rfl,rfl,rfl,rfl,rfl,AJ,AJ,AJ,AJ,trivial⟩,t2,trivial⟩
 have h:=BS d;exact absurd h (by omega)
theorem O0 {xi a:el BL} (F:0<=fa/\fa<256) (G:0<=fb/\fb<256) (L:2<=Q.length) (o:Q[(fa%(Q.length:Int)).toNat]? =some xi) (q:Q[(fb%(Q.length:Int)).toNat]? =some a) (c1:CF 99 [.agg (AD xi.1.1 xi.1.2 xi.2.1 xi.2.2),.agg (AD a.1.1 a.1.2 a.2.1 a.2.2)] (.AI [(true,(AS T5 A5 T6 A6 T7 A7)),(false,[.int .i64 0])])) (c2:CF 27 [.agg (AD a.1.1 a.1.2 a.2.1 a.2.2),.agg (AD xi.1.1 xi.1.2 xi.2.1 xi.2.2)] (.AI [(true,(AD T8 A8 T9 A9)),(false,[.int .i64 0])])):CF 44 [.agg [.bool false,.int .u8 fa,.int .u8 fb,.bool false],.one (.sl BL Q)] (.AI [(true,[.int .i64 1,.sl (.sl AA) T5,.sl AA A5,.sl (.sl AA) T6,.sl AA A6,.sl (.sl AA) T7,.sl AA A7,.sl (.sl AA) T8,.sl AA A8,.sl (.sl AA) T9,.sl AA A9,AG,AH,AG,AH,AG,AH,AG,AH,AG,AH]),(false,[.bool true])]):=by
 refine AZ Tryz.func44 fun E A=>?_
 conv=>cbv
 rintro H ⟨B,f15⟩;conv=>cbv
 intro r d;conv=>cbv
 cases r <;> conv=>cbv
 ·have h:=BR d;intro u b;conv=>cbv
  have b:=wrap_i64 b;have b:u=fa:=by omega
  rintro I ⟨m,f23⟩;conv=>cbv
  intro j f;conv=>cbv
  refine AY ?_;have C:0<=j:=by rw[f];exact Int.emod_nonneg _ (by omega)
  refine⟨xi,fun _=>⟨by omega,by rw[show j=fa%(Q.length:Int) by rw[f,b,m]];exact o⟩,?_⟩;try conv=>cbv
  intro z c;conv=>cbv
  have c:=wrap_i64 c;have c:z=fb:=by omega
  rintro J ⟨n,f32⟩;conv=>cbv
  intro l g;conv=>cbv
  refine AY ?_;have D:0<=l:=by rw[g];exact Int.emod_nonneg _ (by omega)
  refine⟨a,fun _=>⟨by omega,by rw[show l=fb%(Q.length:Int) by rw[g,c,n]];exact q⟩,?_⟩;try conv=>cbv
  refine BB ?_;refine AB A c1 ?_;conv=>cbv
  refine AB A c2 ?_;conv=>cbv
  refine .inr ?_;refine BM ?_;conv=>cbv
  exact AF ⟨⟨rfl,rfl,rfl,rfl,rfl,rfl,rfl,rfl,rfl,rfl,rfl,rfl,AJ,AJ,AJ,AJ,AJ,AJ,AJ,AJ,AJ,AJ,trivial⟩,t2,trivial⟩
 have h:=BS d;exact absurd h (by omega)
theorem O3 {xi a:el BL} (F:0<=fa/\fa<256) (G:0<=fb/\fb<256) (L:2<=Q.length) (o:Q[(fa%(Q.length:Int)).toNat]? =some xi) (q:Q[(fb%(Q.length:Int)).toNat]? =some a) (c1:CF 99 [.agg (AD xi.1.1 xi.1.2 xi.2.1 xi.2.2),.agg (AD a.1.1 a.1.2 a.2.1 a.2.2)] (.AI [(true,[AG,AH,AG,AH,AG,AH]),(false,[.int .i64 11])])) (c2:CF 27 [.agg (AD a.1.1 a.1.2 a.2.1 a.2.2),.agg (AD xi.1.1 xi.1.2 xi.2.1 xi.2.2)] (.AI [(true,(AD T8 A8 T9 A9)),(false,[.int .i64 0])])):CF 44 [.agg [.bool false,.int .u8 fa,.int .u8 fb,.bool false],.one (.sl BL Q)] (.AI [(true,[.int .i64 1,AG,AH,AG,AH,AG,AH,.sl (.sl AA) T8,.sl AA A8,.sl (.sl AA) T9,.sl AA A9,AG,AH,AG,AH,AG,AH,AG,AH,AG,AH]),(false,[.bool false])]):=by
 refine AZ Tryz.func44 fun E A=>?_
 conv=>cbv
 rintro H ⟨B,f15⟩;conv=>cbv
 intro r d;conv=>cbv
 cases r <;> conv=>cbv
 ·have h:=BR d;intro u b;conv=>cbv
  have b:=wrap_i64 b;have b:u=fa:=by omega
  rintro I ⟨m,f23⟩;conv=>cbv
  intro j f;conv=>cbv
  refine AY ?_;have C:0<=j:=by rw[f];exact Int.emod_nonneg _ (by omega)
  refine⟨xi,fun _=>⟨by omega,by rw[show j=fa%(Q.length:Int) by rw[f,b,m]];exact o⟩,?_⟩;try conv=>cbv
  intro z c;conv=>cbv
  have c:=wrap_i64 c;have c:z=fb:=by omega
  rintro J ⟨n,f32⟩;conv=>cbv
  intro l g;conv=>cbv
  refine AY ?_;have D:0<=l:=by rw[g];exact Int.emod_nonneg _ (by omega)
  refine⟨a,fun _=>⟨by omega,by rw[show l=fb%(Q.length:Int) by rw[g,c,n]];exact q⟩,?_⟩;try conv=>cbv
  refine BB ?_;refine AB A c1 ?_;conv=>cbv
  refine AB A c2 ?_;conv=>cbv
  refine .inr ?_;refine AR ?_;conv=>cbv
  exact AF ⟨⟨rfl,rfl,rfl,rfl,rfl,rfl,rfl,rfl,rfl,rfl,rfl,rfl,AJ,AJ,AJ,AJ,AJ,AJ,AJ,AJ,AJ,AJ,trivial⟩,t2,trivial⟩
 have h:=BS d;exact absurd h (by omega)
theorem O1 {xi a:el BL} (G:0<=fa/\fa<256) (H:0<=fb/\fb<256) (M:2<=Q.length) (q:Q[(fa%(Q.length:Int)).toNat]? =some xi) (r:Q[(fb%(Q.length:Int)).toNat]? =some a) (c1:CF 99 [.agg (AD xi.1.1 xi.1.2 xi.2.1 xi.2.2),.agg (AD a.1.1 a.1.2 a.2.1 a.2.2)] (.AI [(true,(AS T5 A5 T6 A6 T7 A7)),(false,[.int .i64 0])])) (c2:CF 27 [.agg (AD a.1.1 a.1.2 a.2.1 a.2.2),.agg (AD xi.1.1 xi.1.2 xi.2.1 xi.2.2)] (.AI [(true,(AD Ta Aa Tb Ab)),(false,[.int .i64 0])])) (B:CF 91 [.agg (AD Ta Aa Tb Ab)] (.agg (AD T8 A8 T9 A9))):CF 44 [.agg [.bool false,.int .u8 fa,.int .u8 fb,.bool true],.one (.sl BL Q)] (.AI [(true,[.int .i64 1,.sl (.sl AA) T5,.sl AA A5,.sl (.sl AA) T6,.sl AA A6,.sl (.sl AA) T7,.sl AA A7,.sl (.sl AA) T8,.sl AA A8,.sl (.sl AA) T9,.sl AA A9,AG,AH,AG,AH,AG,AH,AG,AH,AG,AH]),(false,[.bool true])]):=by
 refine AZ Tryz.func44 fun E o=>?_
 conv=>cbv
 rintro I ⟨C,f15⟩;conv=>cbv
 intro u d;conv=>cbv
 cases u <;> conv=>cbv
 ·have h:=BR d;intro z b;conv=>cbv
  have b:=wrap_i64 b;have b:z=fa:=by omega
  rintro J ⟨m,f23⟩;conv=>cbv
  intro j f;conv=>cbv
  refine AY ?_;have D:0<=j:=by rw[f];exact Int.emod_nonneg _ (by omega)
  refine⟨xi,fun _=>⟨by omega,by rw[show j=fa%(Q.length:Int) by rw[f,b,m]];exact q⟩,?_⟩;try conv=>cbv
  intro A c;conv=>cbv
  have c:=wrap_i64 c;have c:A=fb:=by omega
  rintro L ⟨n,f32⟩;conv=>cbv
  intro l g;conv=>cbv
  refine AY ?_;have F:0<=l:=by rw[g];exact Int.emod_nonneg _ (by omega)
  refine⟨a,fun _=>⟨by omega,by rw[show l=fb%(Q.length:Int) by rw[g,c,n]];exact r⟩,?_⟩;try conv=>cbv
  refine BB ?_;refine AB o c1 ?_;conv=>cbv
  refine AB o c2 ?_;conv=>cbv
  refine .inr ?_;refine AB o B ?_;conv=>cbv
  refine BM ?_;conv=>cbv
  exact AF ⟨⟨rfl,rfl,rfl,rfl,rfl,rfl,rfl,rfl,rfl,rfl,rfl,rfl,AJ,AJ,AJ,AJ,AJ,AJ,AJ,AJ,AJ,AJ,trivial⟩,t2,trivial⟩
 have h:=BS d;exact absurd h (by omega)
theorem O4 {xi a:el BL} (G:0<=fa/\fa<256) (H:0<=fb/\fb<256) (M:2<=Q.length) (q:Q[(fa%(Q.length:Int)).toNat]? =some xi) (r:Q[(fb%(Q.length:Int)).toNat]? =some a) (c1:CF 99 [.agg (AD xi.1.1 xi.1.2 xi.2.1 xi.2.2),.agg (AD a.1.1 a.1.2 a.2.1 a.2.2)] (.AI [(true,[AG,AH,AG,AH,AG,AH]),(false,[.int .i64 11])])) (c2:CF 27 [.agg (AD a.1.1 a.1.2 a.2.1 a.2.2),.agg (AD xi.1.1 xi.1.2 xi.2.1 xi.2.2)] (.AI [(true,(AD Ta Aa Tb Ab)),(false,[.int .i64 0])])) (B:CF 91 [.agg (AD Ta Aa Tb Ab)] (.agg (AD T8 A8 T9 A9))):CF 44 [.agg [.bool false,.int .u8 fa,.int .u8 fb,.bool true],.one (.sl BL Q)] (.AI [(true,[.int .i64 1,AG,AH,AG,AH,AG,AH,.sl (.sl AA) T8,.sl AA A8,.sl (.sl AA) T9,.sl AA A9,AG,AH,AG,AH,AG,AH,AG,AH,AG,AH]),(false,[.bool false])]):=by
 refine AZ Tryz.func44 fun E o=>?_
 conv=>cbv
 rintro I ⟨C,f15⟩;conv=>cbv
 intro u d;conv=>cbv
 cases u <;> conv=>cbv
 ·have h:=BR d;intro z b;conv=>cbv
  have b:=wrap_i64 b;have b:z=fa:=by omega
  rintro J ⟨m,f23⟩;conv=>cbv
  intro j f;conv=>cbv
  refine AY ?_;have D:0<=j:=by rw[f];exact Int.emod_nonneg _ (by omega)
  refine⟨xi,fun _=>⟨by omega,by rw[show j=fa%(Q.length:Int) by rw[f,b,m]];exact q⟩,?_⟩;try conv=>cbv
  intro A c;conv=>cbv
  have c:=wrap_i64 c;have c:A=fb:=by omega
  rintro L ⟨n,f32⟩;conv=>cbv
  intro l g;conv=>cbv
  refine AY ?_;have F:0<=l:=by rw[g];exact Int.emod_nonneg _ (by omega)
  refine⟨a,fun _=>⟨by omega,by rw[show l=fb%(Q.length:Int) by rw[g,c,n]];exact r⟩,?_⟩;try conv=>cbv
  refine BB ?_;refine AB o c1 ?_;conv=>cbv
  refine AB o c2 ?_;conv=>cbv
  refine .inr ?_;refine AB o B ?_;conv=>cbv
  refine AR ?_;conv=>cbv
  exact AF ⟨⟨rfl,rfl,rfl,rfl,rfl,rfl,rfl,rfl,rfl,rfl,rfl,rfl,AJ,AJ,AJ,AJ,AJ,AJ,AJ,AJ,AJ,AJ,trivial⟩,t2,trivial⟩
 have h:=BS d;exact absurd h (by omega)
theorem Oa {W:List UInt8} (a:CF 20 [.agg [.sl Bh X,.sl .u8 W],.one (.int .i64 2)] (.AI [(false,[.sl BL Q]),(false,[.bool false])])):CF 40 [.agg [.sl (.pr .u8 (.pr .u8 (.pr .u8 (.pr .i8 .u8)))) X,.sl .u8 W],.agg [.bool ca,.int .u8 pa,.int .u8 pb,.bool ba,.bool cb,.int .u8 pc,.int .u8 pd,.bool bb,.int .i64 br]] (.AI [(false,[.sl BL ((([]:List (el BL))))]),(true,[.int .i64 0,AG,AH,AG,AH,AG,AH,AG,AH,AG,AH,AG,AH,AG,AH,AG,AH,AG,AH,AG,AH]),(true,[.int .i64 0,AG,AH,AG,AH,AG,AH,AG,AH,AG,AH,AG,AH,AG,AH,AG,AH,AG,AH,AG,AH]),(false,[.bool false])]):=by
 refine AZ Tryz.func40 fun E b=>?_
 conv=>cbv
 refine AB b a ?_;conv=>cbv
 refine BM ?_;conv=>cbv
 exact AF ⟨⟨rfl,AJ,trivial⟩,⟨rfl,rfl,AJ,AJ,AJ,AJ,AJ,AJ,AJ,AJ,AJ,AJ,AJ,AJ,AJ,AJ,AJ,AJ,AJ,AJ,AJ,AJ,trivial⟩,⟨rfl,rfl,AJ,AJ,AJ,AJ,AJ,AJ,AJ,AJ,AJ,AJ,AJ,AJ,AJ,AJ,AJ,AJ,AJ,AJ,AJ,AJ,trivial⟩,t2,trivial⟩
theorem Ob {W:List UInt8} (b:CF 20 [.agg [.sl Bh X,.sl .u8 W],.one (.int .i64 2)] (.AI [(false,[.sl BL Q]),(false,[.bool true])])) (cL:CF 43 [.one (.sl BL Q)] (.one (.bool false))):CF 40 [.agg [.sl (.pr .u8 (.pr .u8 (.pr .u8 (.pr .i8 .u8)))) X,.sl .u8 W],.agg [.bool ca,.int .u8 pa,.int .u8 pb,.bool ba,.bool cb,.int .u8 pc,.int .u8 pd,.bool bb,.int .i64 br]] (.AI [(false,[.sl BL ((([]:List (el BL))))]),(true,[.int .i64 0,AG,AH,AG,AH,AG,AH,AG,AH,AG,AH,AG,AH,AG,AH,AG,AH,AG,AH,AG,AH]),(true,[.int .i64 0,AG,AH,AG,AH,AG,AH,AG,AH,AG,AH,AG,AH,AG,AH,AG,AH,AG,AH,AG,AH]),(false,[.bool false])]):=by
 refine AZ Tryz.func40 fun E a=>?_
 conv=>cbv
 refine AB a b ?_;conv=>cbv
 refine AR ?_;conv=>cbv
 refine AB a cL ?_;conv=>cbv
 refine BM ?_;conv=>cbv
 exact AF ⟨⟨rfl,AJ,trivial⟩,⟨rfl,rfl,AJ,AJ,AJ,AJ,AJ,AJ,AJ,AJ,AJ,AJ,AJ,AJ,AJ,AJ,AJ,AJ,AJ,AJ,AJ,AJ,trivial⟩,⟨rfl,rfl,AJ,AJ,AJ,AJ,AJ,AJ,AJ,AJ,AJ,AJ,AJ,AJ,AJ,AJ,AJ,AJ,AJ,AJ,AJ,AJ,trivial⟩,t2,trivial⟩
theorem Iv {W:List UInt8} (b:CF 20 [.agg [.sl Bh X,.sl .u8 W],.one (.int .i64 2)] (.AI [(false,[.sl BL Q]),(false,[.bool true])])) (cL:CF 43 [.one (.sl BL Q)] (.one (.bool true))) (c1:CF 44 [.agg [.bool ca,.int .u8 pa,.int .u8 pb,.bool ba],.one (.sl BL Q)] (.AI [(true,[.int .i64 k1,.sl (.sl AA) DZ,.sl AA DP,.sl (.sl AA) Da,.sl AA DQ,.sl (.sl AA) Db,.sl AA DR,.sl (.sl AA) Dc,.sl AA DS,.sl (.sl AA) De,.sl AA DT,.sl (.sl AA) Df,.sl AA DU,.sl (.sl AA) Dg,.sl AA DV,.sl (.sl AA) Dh,.sl AA DW,.sl (.sl AA) Di,.sl AA DX,.sl (.sl AA) Dj,.sl AA DY]),(false,[.bool false])])) (c2:CF 44 [.agg [.bool cb,.int .u8 pc,.int .u8 pd,.bool bb],.one (.sl BL Q)] (.AI [(true,[.int .i64 k2,.sl (.sl AA) Dy,.sl AA Dn,.sl (.sl AA) Dz,.sl AA Dp,.sl (.sl AA) D5,.sl AA Dq,.sl (.sl AA) D6,.sl AA Dr,.sl (.sl AA) D7,.sl AA Ds,.sl (.sl AA) D8,.sl AA Dt,.sl (.sl AA) D9,.sl AA Du,.sl (.sl AA) EA,.sl AA Dv,.sl (.sl AA) EB,.sl AA Dw,.sl (.sl AA) EC,.sl AA Dx]),(false,[.bool e2])])):CF 40 [.agg [.sl (.pr .u8 (.pr .u8 (.pr .u8 (.pr .i8 .u8)))) X,.sl .u8 W],.agg [.bool ca,.int .u8 pa,.int .u8 pb,.bool ba,.bool cb,.int .u8 pc,.int .u8 pd,.bool bb,.int .i64 br]] (.AI [(false,[.sl BL Q]),(true,[.int .i64 k1,.sl (.sl AA) DZ,.sl AA DP,.sl (.sl AA) Da,.sl AA DQ,.sl (.sl AA) Db,.sl AA DR,.sl (.sl AA) Dc,.sl AA DS,.sl (.sl AA) De,.sl AA DT,.sl (.sl AA) Df,.sl AA DU,.sl (.sl AA) Dg,.sl AA DV,.sl (.sl AA) Dh,.sl AA DW,.sl (.sl AA) Di,.sl AA DX,.sl (.sl AA) Dj,.sl AA DY]),(true,[.int .i64 k2,.sl (.sl AA) Dy,.sl AA Dn,.sl (.sl AA) Dz,.sl AA Dp,.sl (.sl AA) D5,.sl AA Dq,.sl (.sl AA) D6,.sl AA Dr,.sl (.sl AA) D7,.sl AA Ds,.sl (.sl AA) D8,.sl AA Dt,.sl (.sl AA) D9,.sl AA Du,.sl (.sl AA) EA,.sl AA Dv,.sl (.sl AA) EB,.sl AA Dw,.sl (.sl AA) EC,.sl AA Dx]),(false,[.bool false])]):=by
 refine AZ Tryz.func40 fun E a=>?_
 conv=>cbv
 refine AB a b ?_;conv=>cbv
 refine AR ?_;conv=>cbv
 refine AB a cL ?_;conv=>cbv
 refine AR ?_;conv=>cbv
 refine AB a c1 ?_;conv=>cbv
 refine AB a c2 ?_;conv=>cbv
 refine BB ?_;exact AF ⟨t2,⟨rfl,rfl,rfl,rfl,rfl,rfl,rfl,rfl,rfl,rfl,rfl,rfl,rfl,rfl,rfl,rfl,rfl,rfl,rfl,rfl,rfl,rfl,trivial⟩,⟨rfl,rfl,rfl,rfl,rfl,rfl,rfl,rfl,rfl,rfl,rfl,rfl,rfl,rfl,rfl,rfl,rfl,rfl,rfl,rfl,rfl,rfl,trivial⟩,t2,trivial⟩
theorem Iw {W:List UInt8} (b:CF 20 [.agg [.sl Bh X,.sl .u8 W],.one (.int .i64 2)] (.AI [(false,[.sl BL Q]),(false,[.bool true])])) (cL:CF 43 [.one (.sl BL Q)] (.one (.bool true))) (c1:CF 44 [.agg [.bool ca,.int .u8 pa,.int .u8 pb,.bool ba],.one (.sl BL Q)] (.AI [(true,[.int .i64 k1,.sl (.sl AA) DZ,.sl AA DP,.sl (.sl AA) Da,.sl AA DQ,.sl (.sl AA) Db,.sl AA DR,.sl (.sl AA) Dc,.sl AA DS,.sl (.sl AA) De,.sl AA DT,.sl (.sl AA) Df,.sl AA DU,.sl (.sl AA) Dg,.sl AA DV,.sl (.sl AA) Dh,.sl AA DW,.sl (.sl AA) Di,.sl AA DX,.sl (.sl AA) Dj,.sl AA DY]),(false,[.bool true])])) (c2:CF 44 [.agg [.bool cb,.int .u8 pc,.int .u8 pd,.bool bb],.one (.sl BL Q)] (.AI [(true,[.int .i64 k2,.sl (.sl AA) Dy,.sl AA Dn,.sl (.sl AA) Dz,.sl AA Dp,.sl (.sl AA) D5,.sl AA Dq,.sl (.sl AA) D6,.sl AA Dr,.sl (.sl AA) D7,.sl AA Ds,.sl (.sl AA) D8,.sl AA Dt,.sl (.sl AA) D9,.sl AA Du,.sl (.sl AA) EA,.sl AA Dv,.sl (.sl AA) EB,.sl AA Dw,.sl (.sl AA) EC,.sl AA Dx]),(false,[.bool e2])])):CF 40 [.agg [.sl (.pr .u8 (.pr .u8 (.pr .u8 (.pr .i8 .u8)))) X,.sl .u8 W],.agg [.bool ca,.int .u8 pa,.int .u8 pb,.bool ba,.bool cb,.int .u8 pc,.int .u8 pd,.bool bb,.int .i64 br]] (.AI [(false,[.sl BL Q]),(true,[.int .i64 k1,.sl (.sl AA) DZ,.sl AA DP,.sl (.sl AA) Da,.sl AA DQ,.sl (.sl AA) Db,.sl AA DR,.sl (.sl AA) Dc,.sl AA DS,.sl (.sl AA) De,.sl AA DT,.sl (.sl AA) Df,.sl AA DU,.sl (.sl AA) Dg,.sl AA DV,.sl (.sl AA) Dh,.sl AA DW,.sl (.sl AA) Di,.sl AA DX,.sl (.sl AA) Dj,.sl AA DY]),(true,[.int .i64 k2,.sl (.sl AA) Dy,.sl AA Dn,.sl (.sl AA) Dz,.sl AA Dp,.sl (.sl AA) D5,.sl AA Dq,.sl (.sl AA) D6,.sl AA Dr,.sl (.sl AA) D7,.sl AA Ds,.sl (.sl AA) D8,.sl AA Dt,.sl (.sl AA) D9,.sl AA Du,.sl (.sl AA) EA,.sl AA Dv,.sl (.sl AA) EB,.sl AA Dw,.sl (.sl AA) EC,.sl AA Dx]),(false,[.bool e2])]):=by
 refine AZ Tryz.func40 fun E a=>?_
 conv=>cbv
 refine AB a b ?_;conv=>cbv
 refine AR ?_;conv=>cbv
 refine AB a cL ?_;conv=>cbv
 refine AR ?_;conv=>cbv
 refine AB a c1 ?_;conv=>cbv
 refine AB a c2 ?_;conv=>cbv
 refine BB ?_;exact AF ⟨t2,⟨rfl,rfl,rfl,rfl,rfl,rfl,rfl,rfl,rfl,rfl,rfl,rfl,rfl,rfl,rfl,rfl,rfl,rfl,rfl,rfl,rfl,rfl,trivial⟩,⟨rfl,rfl,rfl,rfl,rfl,rfl,rfl,rfl,rfl,rfl,rfl,rfl,rfl,rfl,rfl,rfl,rfl,rfl,rfl,rfl,rfl,rfl,trivial⟩,t2,trivial⟩
theorem GY:CF 39 [] (.one (.bool true)):=by
 obtain⟨w0,L⟩:=Jc (V:=[]) (ns:=[]) (by decide) (fun n hn=>by simp at hn);have hL:∀{r:List Rat} {u:List (List Rat)},PN ([]:List Nu) (r::u)->u=[]:=fun {r u} ⟨n,hn,_⟩=>by simp at hn
 have F:=L.fl hL;have z0:Re.ofRat ((0:Int):Rat)=0:=Re.Hj;have z1:Re.ofRat ((1:Int):Rat)=1:=rfl;have zm:Re.ofRat ((-1:Int):Rat)= -1:=by rw[show ((-1:Int):Rat)= -(1:Rat) by decide +kernel,Re.ofRat_neg];rfl
 obtain⟨ad,ae,⟨j,l⟩,a6⟩:=Cw F (p:=((0:Int):Rat)) (q:=((0:Int):Rat)) (by decide +kernel) (by decide +kernel);obtain⟨af,ag,⟨m,o⟩,a7⟩:=Cw F (p:=((6:Int):Rat)) (q:=((0:Int):Rat)) (by decide +kernel) (by decide +kernel);obtain⟨aL,aM,⟨z,A⟩,ak⟩:=Cw F (p:=((5:Int):Rat)) (q:=((0:Int):Rat)) (by decide +kernel) (by decide +kernel);obtain⟨Aw,At,an,ai⟩:=I3 F a6 ak (fun h=>absurd (Re.Cj.1 h.1) (by decide +kernel));have ao:=En F (by decide) (r:=25) (by decide +kernel) an (by (try simp only[<-Re.ofRat_add,<-Re.ofRat_mul,<-Re.ofRat_neg,CG,CM]);exact congrArg Re.ofRat (by decide +kernel));obtain⟨aN,aO,⟨B,C⟩,aq⟩:=Cw F (p:=((6:Int):Rat)) (q:=((5:Int):Rat)) (by decide +kernel) (by decide +kernel);obtain⟨Bm,Bj,ar,aj⟩:=I3 F a7 aq (fun h=>absurd (Re.Cj.1 h.2) (by decide +kernel))
 have au:=En F (by decide) (r:=25) (by decide +kernel) ar (by (try simp only[<-Re.ofRat_add,<-Re.ofRat_mul,<-Re.ofRat_neg,CG,CM]);exact congrArg Re.ofRat (by decide +kernel));have o1:Cs (Tf (PN [])) w0 ([]:List LR) ad ([]:List LR) ae Aw At _ _ _:=⟨a6.mono (by decide) (by decide),ao.mono (by decide)⟩;have o2:Cs (Tf (PN [])) w0 ([]:List LR) af ([]:List LR) ag Bm Bj _ _ _:=⟨a7.mono (by decide) (by decide),au.mono (by decide)⟩;obtain⟨d,f,⟨b,c⟩,g⟩:=Cw F (p:=((-1:Int):Rat)) (q:=((0:Int):Rat)) (by decide +kernel) (by decide +kernel);obtain⟨aP,aQ,⟨D,G⟩,a8⟩:=Cw F (p:=((0:Int):Rat)) (q:=((3:Int):Rat)) (by decide +kernel) (by decide +kernel);obtain⟨aR,aS,⟨H,I⟩,av⟩:=Cw F (p:=((1:Int):Rat)) (q:=((3:Int):Rat)) (by decide +kernel) (by decide +kernel);obtain⟨b7,aC,bc,aF,bg,aI,bl,bo,bu,ia,la,bN,bz,bC,bF,ca⟩:=Gq F (a8.mono (by decide) (by decide)) (av.mono (by decide) (by decide)) (fun h=>absurd (Re.Cj.1 h.1) (by decide +kernel))
 have La:Ch (Tf (PN [])) w0 b7 aC bc aF bg aI ([]:List LR) d ([]:List LR) f bl bo bu (Re.ofRat ((-1:Int):Rat)) (Re.ofRat ((0:Int):Rat)) (Re.ofRat ((0:Int):Rat)) (Re.ofRat ((3:Int):Rat)) (-ia):=⟨la,g.mono (by decide) (by decide),⟨_,_,_,_,a8.mono (by decide) (by decide)⟩,(fun h=>absurd (Re.Cj.1 h.1) (by decide +kernel)),bN,by rw[bz];simp only[z0];grind,by rw[bC];simp only[z0,z1,zm];grind,by rw[bF];simp only[z0,z1,zm];grind⟩;obtain⟨aT,aU,⟨J,M⟩,aa⟩:=Cw F (p:=((0:Int):Rat)) (q:=((5:Int):Rat)) (by decide +kernel) (by decide +kernel);obtain⟨aV,aW,⟨N,O⟩,aw⟩:=Cw F (p:=((1:Int):Rat)) (q:=((5:Int):Rat)) (by decide +kernel) (by decide +kernel);obtain⟨b8,aD,bd,aG,bh,aJ,bm,bp,bw,ib,lb,bO,bA,bD,bG,cb⟩:=Gq F (aa.mono (by decide) (by decide)) (aw.mono (by decide) (by decide)) (fun h=>absurd (Re.Cj.1 h.1) (by decide +kernel))
 have Lb:Ch (Tf (PN [])) w0 b8 aD bd aG bh aJ ([]:List LR) d ([]:List LR) f bm bp bw (Re.ofRat ((-1:Int):Rat)) (Re.ofRat ((0:Int):Rat)) (Re.ofRat ((0:Int):Rat)) (Re.ofRat ((5:Int):Rat)) (-ib):=⟨lb,g.mono (by decide) (by decide),⟨_,_,_,_,aa.mono (by decide) (by decide)⟩,(fun h=>absurd (Re.Cj.1 h.1) (by decide +kernel)),bO,by rw[bA];simp only[z0];grind,by rw[bD];simp only[z0,z1,zm];grind,by rw[bG];simp only[z0,z1,zm];grind⟩;obtain⟨aX,aY,⟨R,S⟩,ab⟩:=Cw F (p:=((0:Int):Rat)) (q:=((6:Int):Rat)) (by decide +kernel) (by decide +kernel);obtain⟨aZ,b0,⟨T,U⟩,ax⟩:=Cw F (p:=((1:Int):Rat)) (q:=((6:Int):Rat)) (by decide +kernel) (by decide +kernel);obtain⟨b9,aE,bf,aH,bj,aK,bn,bq,bx,ic,lc,bP,bB,bE,bH,cc⟩:=Gq F (ab.mono (by decide) (by decide)) (ax.mono (by decide) (by decide)) (fun h=>absurd (Re.Cj.1 h.1) (by decide +kernel))
 have Lc:Ch (Tf (PN [])) w0 b9 aE bf aH bj aK ([]:List LR) d ([]:List LR) f bn bq bx (Re.ofRat ((-1:Int):Rat)) (Re.ofRat ((0:Int):Rat)) (Re.ofRat ((0:Int):Rat)) (Re.ofRat ((6:Int):Rat)) (-ic):=⟨lc,g.mono (by decide) (by decide),⟨_,_,_,_,ab.mono (by decide) (by decide)⟩,(fun h=>absurd (Re.Cj.1 h.1) (by decide +kernel)),bP,by rw[bB];simp only[z0];grind,by rw[bE];simp only[z0,z1,zm];grind,by rw[bH];simp only[z0,z1,zm];grind⟩;have ah:(((Re.ofRat (25))-((Re.ofRat ((-1:Int):Rat))*(Re.ofRat ((-1:Int):Rat))+(Re.ofRat ((0:Int):Rat))*(Re.ofRat ((0:Int):Rat)))*((-(Re.ofRat ((0:Int):Rat))*((Re.ofRat ((0:Int):Rat))-(Re.ofRat ((0:Int):Rat)))+(Re.ofRat ((-1:Int):Rat))*((Re.ofRat ((0:Int):Rat))-(Re.ofRat ((3:Int):Rat))))*AE ((Re.ofRat ((-1:Int):Rat))*(Re.ofRat ((-1:Int):Rat))+(Re.ofRat ((0:Int):Rat))*(Re.ofRat ((0:Int):Rat))))*((-(Re.ofRat ((0:Int):Rat))*((Re.ofRat ((0:Int):Rat))-(Re.ofRat ((0:Int):Rat)))+(Re.ofRat ((-1:Int):Rat))*((Re.ofRat ((0:Int):Rat))-(Re.ofRat ((3:Int):Rat))))*AE ((Re.ofRat ((-1:Int):Rat))*(Re.ofRat ((-1:Int):Rat))+(Re.ofRat ((0:Int):Rat))*(Re.ofRat ((0:Int):Rat)))))*AE ((Re.ofRat ((-1:Int):Rat))*(Re.ofRat ((-1:Int):Rat))+(Re.ofRat ((0:Int):Rat))*(Re.ofRat ((0:Int):Rat))))=Re.ofRat 16:=by (try simp only[<-Re.ofRat_add,<-Re.ofRat_mul,<-Re.ofRat_neg,CG,CM]);exact congrArg Re.ofRat (by decide +kernel)
 have aB:Re.sqrt (Re.ofRat 16)=Re.ofRat 4:=NR (by decide +kernel) (by decide +kernel);obtain⟨bY,wz,c1,bS,c4,bV,Fz,Uz,bM,cz,_⟩:=Mo L hL La o1 (by rw[ah];exact KO (by decide +kernel));obtain⟨b1,b2,⟨W,Y⟩,ay⟩:=Cw F (p:=((-4:Int):Rat)) (q:=((3:Int):Rat)) (by decide +kernel) (by decide +kernel);have n0:(((Re.ofRat (25))-((Re.ofRat ((-1:Int):Rat))*(Re.ofRat ((-1:Int):Rat))+(Re.ofRat ((0:Int):Rat))*(Re.ofRat ((0:Int):Rat)))*((-(Re.ofRat ((0:Int):Rat))*((Re.ofRat ((0:Int):Rat))-(Re.ofRat ((0:Int):Rat)))+(Re.ofRat ((-1:Int):Rat))*((Re.ofRat ((0:Int):Rat))-(Re.ofRat ((5:Int):Rat))))*AE ((Re.ofRat ((-1:Int):Rat))*(Re.ofRat ((-1:Int):Rat))+(Re.ofRat ((0:Int):Rat))*(Re.ofRat ((0:Int):Rat))))*((-(Re.ofRat ((0:Int):Rat))*((Re.ofRat ((0:Int):Rat))-(Re.ofRat ((0:Int):Rat)))+(Re.ofRat ((-1:Int):Rat))*((Re.ofRat ((0:Int):Rat))-(Re.ofRat ((5:Int):Rat))))*AE ((Re.ofRat ((-1:Int):Rat))*(Re.ofRat ((-1:Int):Rat))+(Re.ofRat ((0:Int):Rat))*(Re.ofRat ((0:Int):Rat)))))*AE ((Re.ofRat ((-1:Int):Rat))*(Re.ofRat ((-1:Int):Rat))+(Re.ofRat ((0:Int):Rat))*(Re.ofRat ((0:Int):Rat))))=Re.ofRat (0):=by (try simp only[<-Re.ofRat_add,<-Re.ofRat_mul,<-Re.ofRat_neg,CG,CM]);exact congrArg Re.ofRat (by decide +kernel)
 obtain⟨eb,_,bI,bs⟩:=J8 L hL Lb o1 (by rw[n0];exact fun h=>absurd (Re.GP.1 (show Re.ofRat 0<_ from h)) (by decide +kernel))
 obtain rfl:eb=12:=by
  rcases bI with h | h
  ·exact h.1
  exact absurd (Re.GP.1 (show _<Re.ofRat 0 from n0 ▸ h.2)) (by decide +kernel)
 have nm:(((Re.ofRat (25))-((Re.ofRat ((-1:Int):Rat))*(Re.ofRat ((-1:Int):Rat))+(Re.ofRat ((0:Int):Rat))*(Re.ofRat ((0:Int):Rat)))*((-(Re.ofRat ((0:Int):Rat))*((Re.ofRat ((0:Int):Rat))-(Re.ofRat ((0:Int):Rat)))+(Re.ofRat ((-1:Int):Rat))*((Re.ofRat ((0:Int):Rat))-(Re.ofRat ((6:Int):Rat))))*AE ((Re.ofRat ((-1:Int):Rat))*(Re.ofRat ((-1:Int):Rat))+(Re.ofRat ((0:Int):Rat))*(Re.ofRat ((0:Int):Rat))))*((-(Re.ofRat ((0:Int):Rat))*((Re.ofRat ((0:Int):Rat))-(Re.ofRat ((0:Int):Rat)))+(Re.ofRat ((-1:Int):Rat))*((Re.ofRat ((0:Int):Rat))-(Re.ofRat ((6:Int):Rat))))*AE ((Re.ofRat ((-1:Int):Rat))*(Re.ofRat ((-1:Int):Rat))+(Re.ofRat ((0:Int):Rat))*(Re.ofRat ((0:Int):Rat)))))*AE ((Re.ofRat ((-1:Int):Rat))*(Re.ofRat ((-1:Int):Rat))+(Re.ofRat ((0:Int):Rat))*(Re.ofRat ((0:Int):Rat))))=Re.ofRat (-11):=by (try simp only[<-Re.ofRat_add,<-Re.ofRat_mul,<-Re.ofRat_neg,CG,CM]);exact congrArg Re.ofRat (by decide +kernel)
 obtain⟨ec,_,bJ,bt⟩:=J8 L hL Lc o1 (by rw[nm];exact fun h=>absurd (Re.GP.1 (show Re.ofRat 0<_ from h)) (by decide +kernel))
 obtain rfl:ec=7:=by
  rcases bJ with h | h
  ·exact absurd (Re.Cj.1 (show _=Re.ofRat 0 from nm ▸ h.2)) (by decide +kernel)
  exact h.1
 have n4:((Re.ofRat (25))*AE (((Re.ofRat ((6:Int):Rat))-(Re.ofRat ((0:Int):Rat)))*((Re.ofRat ((6:Int):Rat))-(Re.ofRat ((0:Int):Rat)))+((Re.ofRat ((0:Int):Rat))-(Re.ofRat ((0:Int):Rat)))*((Re.ofRat ((0:Int):Rat))-(Re.ofRat ((0:Int):Rat))))-(((((Re.ofRat ((6:Int):Rat))-(Re.ofRat ((0:Int):Rat)))*((Re.ofRat ((6:Int):Rat))-(Re.ofRat ((0:Int):Rat)))+((Re.ofRat ((0:Int):Rat))-(Re.ofRat ((0:Int):Rat)))*((Re.ofRat ((0:Int):Rat))-(Re.ofRat ((0:Int):Rat))))+(Re.ofRat (25))-(Re.ofRat (25)))*AE ((((Re.ofRat ((6:Int):Rat))-(Re.ofRat ((0:Int):Rat)))*((Re.ofRat ((6:Int):Rat))-(Re.ofRat ((0:Int):Rat)))+((Re.ofRat ((0:Int):Rat))-(Re.ofRat ((0:Int):Rat)))*((Re.ofRat ((0:Int):Rat))-(Re.ofRat ((0:Int):Rat))))+(((Re.ofRat ((6:Int):Rat))-(Re.ofRat ((0:Int):Rat)))*((Re.ofRat ((6:Int):Rat))-(Re.ofRat ((0:Int):Rat)))+((Re.ofRat ((0:Int):Rat))-(Re.ofRat ((0:Int):Rat)))*((Re.ofRat ((0:Int):Rat))-(Re.ofRat ((0:Int):Rat))))))*(((((Re.ofRat ((6:Int):Rat))-(Re.ofRat ((0:Int):Rat)))*((Re.ofRat ((6:Int):Rat))-(Re.ofRat ((0:Int):Rat)))+((Re.ofRat ((0:Int):Rat))-(Re.ofRat ((0:Int):Rat)))*((Re.ofRat ((0:Int):Rat))-(Re.ofRat ((0:Int):Rat))))+(Re.ofRat (25))-(Re.ofRat (25)))*AE ((((Re.ofRat ((6:Int):Rat))-(Re.ofRat ((0:Int):Rat)))*((Re.ofRat ((6:Int):Rat))-(Re.ofRat ((0:Int):Rat)))+((Re.ofRat ((0:Int):Rat))-(Re.ofRat ((0:Int):Rat)))*((Re.ofRat ((0:Int):Rat))-(Re.ofRat ((0:Int):Rat))))+(((Re.ofRat ((6:Int):Rat))-(Re.ofRat ((0:Int):Rat)))*((Re.ofRat ((6:Int):Rat))-(Re.ofRat ((0:Int):Rat)))+((Re.ofRat ((0:Int):Rat))-(Re.ofRat ((0:Int):Rat)))*((Re.ofRat ((0:Int):Rat))-(Re.ofRat ((0:Int):Rat)))))))=Re.ofRat (4/9):=by (try simp only[<-Re.ofRat_add,<-Re.ofRat_mul,<-Re.ofRat_neg,CG,CM]);exact congrArg Re.ofRat (by decide +kernel)
 have s4:Re.sqrt (Re.ofRat (4/9))=Re.ofRat (2/3):=NR (by decide +kernel) (by decide +kernel);obtain⟨bW,wx,bZ,bQ,c2,bT,_,_,_,_,Fx,Ux,bK,cx,_⟩:=MM L hL o1 o2 (fun h=>absurd (Re.Cj.1 h.1) (by decide +kernel)) (by rw[n4];exact KO (by decide +kernel));obtain⟨b3,b4,⟨Z,a1⟩,az⟩:=Cw F (p:=((3:Int):Rat)) (q:=((4:Int):Rat)) (by decide +kernel) (by decide +kernel);obtain⟨bX,wy,c0,bR,c3,bU,_,_,_,_,Fy,Uy,bL,cy,_⟩:=ML L hL o1 o2 (fun h=>absurd (Re.Cj.1 h.1) (by decide +kernel)) (by rw[n4];exact KO (by decide +kernel));obtain⟨b5,b6,⟨a2,a5⟩,aA⟩:=Cw F (p:=((3:Int):Rat)) (q:=((-4:Int):Rat)) (by decide +kernel) (by decide +kernel);refine AZ Tryz.func39 fun E a=>?_
 conv=>cbv
 refine AB a (CK (x:=0) (y:=0) (by decide) (by decide) j l) ?_;conv=>cbv
 refine AB a (CK (x:=5) (y:=0) (by decide) (by decide) z A) ?_;conv=>cbv
 refine AB a ai ?_;conv=>cbv
 refine AB a (CK (x:=6) (y:=0) (by decide) (by decide) m o) ?_;conv=>cbv
 refine AB a (CK (x:=6) (y:=5) (by decide) (by decide) B C) ?_;conv=>cbv
 refine AB a aj ?_;conv=>cbv
 refine AB a (CK (x:=0) (y:=3) (by decide) (by decide) D G) ?_;conv=>cbv
 refine AB a (CK (x:=1) (y:=3) (by decide) (by decide) H I) ?_;conv=>cbv
 refine AB a ca ?_;conv=>cbv
 refine AB a (CK (x:=0) (y:=5) (by decide) (by decide) J M) ?_;conv=>cbv
 refine AB a (CK (x:=1) (y:=5) (by decide) (by decide) N O) ?_;conv=>cbv
 refine AB a cb ?_;conv=>cbv
 refine AB a (CK (x:=0) (y:=6) (by decide) (by decide) R S) ?_;conv=>cbv
 refine AB a (CK (x:=1) (y:=6) (by decide) (by decide) T U) ?_;conv=>cbv
 refine AB a cc ?_;conv=>cbv
 refine AR ?_;conv=>cbv
 refine AR ?_;conv=>cbv
 refine AR ?_;conv=>cbv
 refine AR ?_;conv=>cbv
 refine AR ?_;conv=>cbv
 refine AB a cx ?_;conv=>cbv
 refine AB a cy ?_;conv=>cbv
 refine AB a (CK (x:= -1) (y:=0) (by decide) (by decide) b c) ?_;conv=>cbv
 refine AB a cz ?_;conv=>cbv
 refine BB ?_;refine AB a (CK (x:= -1) (y:=0) (by decide) (by decide) b c) ?_;conv=>cbv
 refine AB a ((bs 1 (.inl rfl)).1) ?_;conv=>cbv
 refine BB ?_;refine AB a (CK (x:= -1) (y:=0) (by decide) (by decide) b c) ?_;conv=>cbv
 refine AB a ((bt 1 (.inl rfl)).1) ?_;conv=>cbv
 refine BB ?_;refine BM ?_;conv=>cbv
 refine BM ?_;conv=>cbv
 refine BM ?_;conv=>cbv
 refine AB a (CK (x:=3) (y:=4) (by decide) (by decide) Z a1) ?_;conv=>cbv
 refine AB a (CR Fx bK (Ux.v (by decide) (by decide) az) (by decide) (by decide) (by decide) (by decide) (e:=true) ⟨fun _=>⟨by rw[n4,s4];(try simp only[<-Re.ofRat_add,<-Re.ofRat_mul,<-Re.ofRat_neg,CG,CM]);exact congrArg Re.ofRat (by decide +kernel),by rw[n4,s4];(try simp only[<-Re.ofRat_add,<-Re.ofRat_mul,<-Re.ofRat_neg,CG,CM]);exact congrArg Re.ofRat (by decide +kernel)⟩,fun _=>rfl⟩) ?_;try conv=>cbv
 refine AB a (CK (x:=3) (y:= -4) (by decide) (by decide) a2 a5) ?_;conv=>cbv
 refine AB a (CR Fy bL (Uy.v (by decide) (by decide) aA) (by decide) (by decide) (by decide) (by decide) (e:=true) ⟨fun _=>⟨by rw[n4,s4];(try simp only[<-Re.ofRat_add,<-Re.ofRat_mul,<-Re.ofRat_neg,CG,CM]);exact congrArg Re.ofRat (by decide +kernel),by rw[n4,s4];(try simp only[<-Re.ofRat_add,<-Re.ofRat_mul,<-Re.ofRat_neg,CG,CM]);exact congrArg Re.ofRat (by decide +kernel)⟩,fun _=>rfl⟩) ?_;try conv=>cbv
 refine AB a (CK (x:= -4) (y:=3) (by decide) (by decide) W Y) ?_;conv=>cbv
 refine AB a (CR Fz bM (Uz.v (by decide) (by decide) ay) (by decide) (by decide) (by decide) (by decide) (e:=true) ⟨fun _=>⟨by rw[ah,aB];(try simp only[<-Re.ofRat_add,<-Re.ofRat_mul,<-Re.ofRat_neg,CG,CM]);exact congrArg Re.ofRat (by decide +kernel),by rw[ah,aB];(try simp only[<-Re.ofRat_add,<-Re.ofRat_mul,<-Re.ofRat_neg,CG,CM]);exact congrArg Re.ofRat (by decide +kernel)⟩,fun _=>rfl⟩) ?_;try conv=>cbv
 refine BM ?_;conv=>cbv
 refine BM ?_;conv=>cbv
 refine BB ?_;exact AF ⟨t2,trivial⟩
end Go.Abs
namespace Go.Abs
open Go.RowKit
def IX (TT:List (List Rat)->Prop) (w:List (List Rat)) (ci:Bool) (v:AV):Prop:=(ci=true/\∃Ta Aa Tb Ab Tc Ac xo yo s,v=DJ Ta Aa Tb Ab Tc Ac/\Cs TT w Ta Aa Tb Ab Tc Ac xo yo s)\/(ci=false/\∃T1 A1 T2 A2 T3 A3 T4 A4 T5 A5 al be ga xd yd xp yp i,v=Eg T1 A1 T2 A2 T3 A3 T4 A4 T5 A5/\Ch TT w T1 A1 T2 A2 T3 A3 T4 A4 T5 A5 al be ga xd yd xp yp i)
variable {A0 A1 A2 A3 A4 A5 A6 A7 A8 A9 Au Ax Ay Az:LR} {Q:List (el BL)} {T0 T1 T2 T3 T4 T5 T6 T7 T8 T9 Tu Tx Ty Tz:List LR} {V:List Re} {X:List (el Bh)} {ba bb ca cb:Bool} {br pa pb pc pd:Int} {ns:List Nu}
theorem Iu {TT:List (List Rat)->Prop} {w:List (List Rat)} (F:Fl TT w) {fa fb:Int} {ci bk:Bool} {xi m:el BL} (a:0<=fa/\fa<256) (b:0<=fb/\fb<256) (j:2<=Q.length) (c:Q[(fa%(Q.length:Int)).toNat]? =some xi) (d:Q[(fb%(Q.length:Int)).toNat]? =some m) {o r q u:Re} (f:Vm TT w 2100 20 20 xi.1.1 xi.1.2 xi.2.1 xi.2.2 o r) (g:Vm TT w 2100 20 20 m.1.1 m.1.2 m.2.1 m.2.2 q u):(∃k DZ DP Da DQ Db DR Dc DS De DT Df DU Dg DV Dh DW Di DX Dj DY,CF 44 [.agg [.bool ci,.int .u8 fa,.int .u8 fb,.bool bk],.one (.sl BL Q)] (.AI [(true,[.int .i64 k,.sl (.sl AA) DZ,.sl AA DP,.sl (.sl AA) Da,.sl AA DQ,.sl (.sl AA) Db,.sl AA DR,.sl (.sl AA) Dc,.sl AA DS,.sl (.sl AA) De,.sl AA DT,.sl (.sl AA) Df,.sl AA DU,.sl (.sl AA) Dg,.sl AA DV,.sl (.sl AA) Dh,.sl AA DW,.sl (.sl AA) Di,.sl AA DX,.sl (.sl AA) Dj,.sl AA DY]),(false,[.bool false])]))\/(∃v,IX TT w ci v/\CF 44 [.agg [.bool ci,.int .u8 fa,.int .u8 fb,.bool bk],.one (.sl BL Q)] (.AI [(true,v.cs),(false,[.bool true])])):=by
 by_cases l:o=q/\r=u
 ·left
  cases ci
  ·have c1:=Va F f g (by decide) (by decide) (by decide) (by decide) l;obtain⟨_,_,_,_,z,c2⟩:=FN F g f;cases bk
   ·exact⟨_,_,_,_,_,_,_,_,_,_,_,_,_,_,_,_,_,_,_,_,_,O3 a b j c d c1 c2⟩
   obtain⟨_,_,_,n⟩:=Jm F z;exact⟨_,_,_,_,_,_,_,_,_,_,_,_,_,_,_,_,_,_,_,_,_,O4 a b j c d c1 c2 n⟩
  exact⟨_,_,_,_,_,_,_,_,_,_,_,_,_,_,_,_,_,_,_,_,_,Oz a b j c d (Ou F f g l)⟩
 right
 cases ci
 ·cases bk
  ·obtain⟨T5,A5,T6,A6,T7,A7,T8,A8,T9,A9,al,be,ga,xd,yd,i,h,c1,c2⟩:=OW F f g l;exact⟨_,.inr ⟨rfl,_,_,_,_,_,_,_,_,_,_,_,_,_,_,_,_,_,_,rfl,h⟩,O0 a b j c d c1 c2⟩
  obtain⟨T5,A5,T6,A6,T7,A7,T8,A8,T9,A9,Ta,Aa,Tb,Ab,al,be,ga,xd,yd,i,h,c1,c2,n⟩:=OX F f g l;exact⟨_,.inr ⟨rfl,_,_,_,_,_,_,_,_,_,_,_,_,_,_,_,_,_,_,rfl,h⟩,O1 a b j c d c1 c2 n⟩
 obtain⟨_,_,A,c1⟩:=I3 F f g l;exact⟨_,.inl ⟨rfl,_,_,_,_,_,_,_,_,_,rfl,⟨f,A.mono (by decide)⟩⟩,Oy a b j c d c1⟩
theorem OZ {W:List UInt8} (q:ns=(runN (X.take 24)).1) (m:V.length<=3) (g:∀n∈ns,CL V n) (ha:0<=pa/\pa<256) (hb:0<=pb/\pb<256) (hc:0<=pc/\pc<256) (u:0<=pd/\pd<256):(∃Q k1 k2 DZ DP Da DQ Db DR Dc DS De DT Df DU Dg DV Dh DW Di DX Dj DY Dy Dn Dz Dp D5 Dq D6 Dr D7 Ds D8 Dt D9 Du EA Dv EB Dw EC Dx,CF 40 [.agg [.sl Bh X,.sl .u8 W],.agg [.bool ca,.int .u8 pa,.int .u8 pb,.bool ba,.bool cb,.int .u8 pc,.int .u8 pd,.bool bb,.int .i64 br]] (.AI [(false,[.sl BL Q]),(true,[.int .i64 k1,.sl (.sl AA) DZ,.sl AA DP,.sl (.sl AA) Da,.sl AA DQ,.sl (.sl AA) Db,.sl AA DR,.sl (.sl AA) Dc,.sl AA DS,.sl (.sl AA) De,.sl AA DT,.sl (.sl AA) Df,.sl AA DU,.sl (.sl AA) Dg,.sl AA DV,.sl (.sl AA) Dh,.sl AA DW,.sl (.sl AA) Di,.sl AA DX,.sl (.sl AA) Dj,.sl AA DY]),(true,[.int .i64 k2,.sl (.sl AA) Dy,.sl AA Dn,.sl (.sl AA) Dz,.sl AA Dp,.sl (.sl AA) D5,.sl AA Dq,.sl (.sl AA) D6,.sl AA Dr,.sl (.sl AA) D7,.sl AA Ds,.sl (.sl AA) D8,.sl AA Dt,.sl (.sl AA) D9,.sl AA Du,.sl (.sl AA) EA,.sl AA Dv,.sl (.sl AA) EB,.sl AA Dw,.sl (.sl AA) EC,.sl AA Dx]),(false,[.bool false])]))\/(∃w,Pl (PN (FU ns)) V w/\∃Q v1 v2,IX (Tf (PN (FU ns))) w ca v1/\IX (Tf (PN (FU ns))) w cb v2/\(2<=Q.length/\∀i:Nat,i<Q.length->∃x X Y,Q[i]? =some x/\Vm (Tf (PN (FU ns))) w 2100 20 20 x.1.1 x.1.2 x.2.1 x.2.2 X Y)/\CF 40 [.agg [.sl Bh X,.sl .u8 W],.agg [.bool ca,.int .u8 pa,.int .u8 pb,.bool ba,.bool cb,.int .u8 pc,.int .u8 pd,.bool bb,.int .i64 br]] (.AI [(false,[.sl BL Q]),(true,v1.cs),(true,v2.cs),(false,[.bool true])])):=by
 obtain⟨Q,r⟩:∃z,z=IG ns W:=⟨_,rfl⟩
 rcases Nat.lt_or_ge Q.length 2 with o | o
 ·exact .inl ⟨_,_,_,_,_,_,_,_,_,_,_,_,_,_,_,_,_,_,_,_,_,_,_,_,_,_,_,_,_,_,_,_,_,_,_,_,_,_,_,_,_,_,_,Oa (IP q m g r (i:=2) (i':=2) ⟨rfl⟩ (by decide) (c:=false) (decide_eq_false (by omega)).symm)⟩
 have j:=IP q m g r (i:=2) (i':=2) ⟨rfl⟩ (by decide) (c:=true) (decide_eq_true o).symm;rcases Classical.em (¬∀x∈Q,IY x) with a | a
 ·exact .inl ⟨_,_,_,_,_,_,_,_,_,_,_,_,_,_,_,_,_,_,_,_,_,_,_,_,_,_,_,_,_,_,_,_,_,_,_,_,_,_,_,_,_,_,_,Ob j (LI (b:=false) ⟨fun z=>(by cases z),fun z=>absurd z a⟩)⟩
 have a:=Classical.not_not.1 a;have cL:=LI (b:=true) ⟨fun _=>a,fun _=>rfl⟩;obtain⟨w,L⟩:=Un m g
 have d:∀i:Nat,i<Q.length->∃x X Y,Q[i]? =some x/\Vm (Tf (PN (FU ns))) w 2100 20 20 x.1.1 x.1.2 x.2.1 x.2.2 X Y:=fun i M=>by
  obtain⟨x,A⟩:=Ao (l:=Q) (i:=i) M;obtain⟨D,G⟩:=a x (List.mem_of_getElem? A);obtain⟨X,Y,h⟩:=VP L g r A D G;exact⟨x,X,Y,A,h (by decide)⟩
 have f:∀p:Int,0<=p->(p%(Q.length:Int)).toNat<Q.length:=fun p hp=>by
  have D:=Int.emod_lt_of_pos p (show (0:Int)<Q.length by omega);have G:=Int.emod_nonneg p (show (Q.length:Int)≠0 by omega);omega
 obtain⟨xa,N,T,I,va⟩:=d _ (f pa ha.1);obtain⟨xb,O,Yb,J,vb⟩:=d _ (f pb hb.1);obtain⟨xc,R,U,B,vc⟩:=d _ (f pc hc.1);obtain⟨xd,S,Z,C,H⟩:=d _ (f pd u.1);have F:=L.fl HR;rcases Iu F (ci:=ca) (bk:=ba) ha hb o I J va vb with⟨k1,DZ,DP,Da,DQ,Db,DR,Dc,DS,De,DT,Df,DU,Dg,DV,Dh,DW,Di,DX,Dj,DY,c1⟩ |⟨v1,d1,c1⟩
 ·rcases Iu F (ci:=cb) (bk:=bb) hc u o B C vc H with⟨k2,Dy,Dn,Dz,Dp,D5,Dq,D6,Dr,D7,Ds,D8,Dt,D9,Du,EA,Dv,EB,Dw,EC,Dx,c2⟩ |⟨v2,d2,c2⟩
  ·exact .inl ⟨_,_,_,_,_,_,_,_,_,_,_,_,_,_,_,_,_,_,_,_,_,_,_,_,_,_,_,_,_,_,_,_,_,_,_,_,_,_,_,_,_,_,_,Iv j cL c1 c2⟩
  rcases d2 with⟨_,_,_,_,_,_,_,_,_,_,rfl,_⟩ |⟨_,_,_,_,_,_,_,_,_,_,_,_,_,_,_,_,_,_,_,rfl,_⟩
  ·exact .inl ⟨_,_,_,_,_,_,_,_,_,_,_,_,_,_,_,_,_,_,_,_,_,_,_,_,_,_,_,_,_,_,_,_,_,_,_,_,_,_,_,_,_,_,_,Iv j cL c1 c2⟩
  exact .inl ⟨_,_,_,_,_,_,_,_,_,_,_,_,_,_,_,_,_,_,_,_,_,_,_,_,_,_,_,_,_,_,_,_,_,_,_,_,_,_,_,_,_,_,_,Iv j cL c1 c2⟩
 rcases Iu F (ci:=cb) (bk:=bb) hc u o B C vc H with⟨k2,Dy,Dn,Dz,Dp,D5,Dq,D6,Dr,D7,Ds,D8,Dt,D9,Du,EA,Dv,EB,Dw,EC,Dx,c2⟩ |⟨v2,d2,c2⟩
 ·rcases d1 with⟨_,_,_,_,_,_,_,_,_,_,rfl,_⟩ |⟨_,_,_,_,_,_,_,_,_,_,_,_,_,_,_,_,_,_,_,rfl,_⟩
  ·exact .inl ⟨_,_,_,_,_,_,_,_,_,_,_,_,_,_,_,_,_,_,_,_,_,_,_,_,_,_,_,_,_,_,_,_,_,_,_,_,_,_,_,_,_,_,_,Iw j cL c1 c2⟩
  exact .inl ⟨_,_,_,_,_,_,_,_,_,_,_,_,_,_,_,_,_,_,_,_,_,_,_,_,_,_,_,_,_,_,_,_,_,_,_,_,_,_,_,_,_,_,_,Iw j cL c1 c2⟩
 refine .inr ⟨w,L,Q,v1,v2,d1,d2,⟨o,d⟩,?_⟩;rcases d1 with⟨_,_,_,_,_,_,_,_,_,_,rfl,_⟩ |⟨_,_,_,_,_,_,_,_,_,_,_,_,_,_,_,_,_,_,_,rfl,_⟩ <;> rcases d2 with⟨_,_,_,_,_,_,_,_,_,_,rfl,_⟩ |⟨_,_,_,_,_,_,_,_,_,_,_,_,_,_,_,_,_,_,_,rfl,_⟩ <;> exact Iw j cL c1 c2
theorem nf {W:List UInt8} {DZ Da Db Dc De Df Dg Dh Di Dj Dy Dz D5 D6 D7 D8 D9 EA EB EC:List LR} {DP DQ DR DS DT DU DV DW DX DY Dn Dp Dq Dr Ds Dt Du Dv Dw Dx:LR} {k1 k2:Int} (a:CF 39 [] (.one (.bool true))) (c:CF 40 [.agg [.sl Bh X,.sl .u8 W],.agg [.bool false,.int .u8 pa,.int .u8 pb,.bool ba,.bool false,.int .u8 pc,.int .u8 pd,.bool bb,.int .i64 br]] (.AI [(false,[.sl BL Q]),(true,[.int .i64 k1,.sl (.sl AA) DZ,.sl AA DP,.sl (.sl AA) Da,.sl AA DQ,.sl (.sl AA) Db,.sl AA DR,.sl (.sl AA) Dc,.sl AA DS,.sl (.sl AA) De,.sl AA DT,.sl (.sl AA) Df,.sl AA DU,.sl (.sl AA) Dg,.sl AA DV,.sl (.sl AA) Dh,.sl AA DW,.sl (.sl AA) Di,.sl AA DX,.sl (.sl AA) Dj,.sl AA DY]),(true,[.int .i64 k2,.sl (.sl AA) Dy,.sl AA Dn,.sl (.sl AA) Dz,.sl AA Dp,.sl (.sl AA) D5,.sl AA Dq,.sl (.sl AA) D6,.sl AA Dr,.sl (.sl AA) D7,.sl AA Ds,.sl (.sl AA) D8,.sl AA Dt,.sl (.sl AA) D9,.sl AA Du,.sl (.sl AA) EA,.sl AA Dv,.sl (.sl AA) EB,.sl AA Dw,.sl (.sl AA) EC,.sl AA Dx]),(false,[.bool false])])):CF 8 [.agg [.sl (.pr .u8 (.pr .u8 (.pr .u8 (.pr .i8 .u8)))) X,.sl .u8 W],.agg [.bool ca,.int .u8 pa,.int .u8 pb,.bool ba,.bool cb,.int .u8 pc,.int .u8 pd,.bool bb,.int .i64 br]] (.one (.bool true)):=by
 refine AZ Tryz.func8 fun E b=>?_
 conv=>cbv
 refine AB b a ?_;conv=>cbv
 refine AR ?_;conv=>cbv
 refine AB b c ?_;conv=>cbv
 refine BM ?_;conv=>cbv
 exact AF ⟨t2,trivial⟩
theorem nc {W:List UInt8} (b:CF 39 [] (.one (.bool true))) (f:CF 40 [.agg [.sl Bh X,.sl .u8 W],.agg [.bool false,.int .u8 pa,.int .u8 pb,.bool ba,.bool false,.int .u8 pc,.int .u8 pd,.bool bb,.int .i64 br]] (.AI [(false,[.sl BL Q]),(true,[.int .i64 1,.sl (.sl AA) T1,.sl AA A1,.sl (.sl AA) T2,.sl AA A2,.sl (.sl AA) T3,.sl AA A3,.sl (.sl AA) T4,.sl AA A4,.sl (.sl AA) T5,.sl AA A5,AG,AH,AG,AH,AG,AH,AG,AH,AG,AH]),(true,[.int .i64 1,.sl (.sl AA) T6,.sl AA A6,.sl (.sl AA) T7,.sl AA A7,.sl (.sl AA) T8,.sl AA A8,.sl (.sl AA) T9,.sl AA A9,.sl (.sl AA) T0,.sl AA A0,AG,AH,AG,AH,AG,AH,AG,AH,AG,AH]),(false,[.bool true])])) (c1:CF 41 [.agg (AS T1 A1 T2 A2 T3 A3),.agg (AS T6 A6 T7 A7 T8 A8)] (.AI [(true,(AD Tx Ax Ty Ay)),(false,[.int .i64 0])])) (c2:CF 41 [.agg (AS T6 A6 T7 A7 T8 A8),.agg (AS T1 A1 T2 A2 T3 A3)] (.AI [(true,(AD Tz Az Tu Au)),(false,[.int .i64 0])])) (c:CF 42 [.agg [.int .i64 1,.sl (.sl AA) T1,.sl AA A1,.sl (.sl AA) T2,.sl AA A2,.sl (.sl AA) T3,.sl AA A3,.sl (.sl AA) T4,.sl AA A4,.sl (.sl AA) T5,.sl AA A5,AG,AH,AG,AH,AG,AH,AG,AH,AG,AH],.agg [.int .i64 1,.sl (.sl AA) T6,.sl AA A6,.sl (.sl AA) T7,.sl AA A7,.sl (.sl AA) T8,.sl AA A8,.sl (.sl AA) T9,.sl AA A9,.sl (.sl AA) T0,.sl AA A0,AG,AH,AG,AH,AG,AH,AG,AH,AG,AH],.one (.int .i64 0),.agg (AD Tx Ax Ty Ay),.one (.int .i64 0)] (.one (.bool true))) (d:CF 26 [.agg (AD Tx Ax Ty Ay),.agg (AD Tz Az Tu Au)] (.one (.bool true))):CF 8 [.agg [.sl (.pr .u8 (.pr .u8 (.pr .u8 (.pr .i8 .u8)))) X,.sl .u8 W],.agg [.bool ca,.int .u8 pa,.int .u8 pb,.bool ba,.bool cb,.int .u8 pc,.int .u8 pd,.bool bb,.int .i64 br]] (.one (.bool true)):=by
 refine AZ Tryz.func8 fun E a=>?_
 conv=>cbv
 refine AB a b ?_;conv=>cbv
 refine AR ?_;conv=>cbv
 refine AB a f ?_;conv=>cbv
 refine AR ?_;conv=>cbv
 refine AB a c1 ?_;conv=>cbv
 refine AB a c2 ?_;conv=>cbv
 refine AB a c ?_;conv=>cbv
 refine BM ?_;conv=>cbv
 refine AR ?_;conv=>cbv
 refine AB a d ?_;conv=>cbv
 exact AF ⟨t2,trivial⟩
theorem nd {W:List UInt8} {e:Int} (he:e≠0) (d:CF 39 [] (.one (.bool true))) (j:CF 40 [.agg [.sl Bh X,.sl .u8 W],.agg [.bool false,.int .u8 pa,.int .u8 pb,.bool ba,.bool false,.int .u8 pc,.int .u8 pd,.bool bb,.int .i64 br]] (.AI [(false,[.sl BL Q]),(true,[.int .i64 1,.sl (.sl AA) T1,.sl AA A1,.sl (.sl AA) T2,.sl AA A2,.sl (.sl AA) T3,.sl AA A3,.sl (.sl AA) T4,.sl AA A4,.sl (.sl AA) T5,.sl AA A5,AG,AH,AG,AH,AG,AH,AG,AH,AG,AH]),(true,[.int .i64 1,.sl (.sl AA) T6,.sl AA A6,.sl (.sl AA) T7,.sl AA A7,.sl (.sl AA) T8,.sl AA A8,.sl (.sl AA) T9,.sl AA A9,.sl (.sl AA) T0,.sl AA A0,AG,AH,AG,AH,AG,AH,AG,AH,AG,AH]),(false,[.bool true])])) (c1:CF 41 [.agg (AS T1 A1 T2 A2 T3 A3),.agg (AS T6 A6 T7 A7 T8 A8)] (.AI [(true,(AD Tx Ax Ty Ay)),(false,[.int .i64 e])])) (c2:CF 41 [.agg (AS T6 A6 T7 A7 T8 A8),.agg (AS T1 A1 T2 A2 T3 A3)] (.AI [(true,(AD Tz Az Tu Au)),(false,[.int .i64 e])])) (h:CF 42 [.agg [.int .i64 1,.sl (.sl AA) T1,.sl AA A1,.sl (.sl AA) T2,.sl AA A2,.sl (.sl AA) T3,.sl AA A3,.sl (.sl AA) T4,.sl AA A4,.sl (.sl AA) T5,.sl AA A5,AG,AH,AG,AH,AG,AH,AG,AH,AG,AH],.agg [.int .i64 1,.sl (.sl AA) T6,.sl AA A6,.sl (.sl AA) T7,.sl AA A7,.sl (.sl AA) T8,.sl AA A8,.sl (.sl AA) T9,.sl AA A9,.sl (.sl AA) T0,.sl AA A0,AG,AH,AG,AH,AG,AH,AG,AH,AG,AH],.one (.int .i64 0),.agg (AD Tx Ax Ty Ay),.one (.int .i64 e)] (.one (.bool true))):CF 8 [.agg [.sl (.pr .u8 (.pr .u8 (.pr .u8 (.pr .i8 .u8)))) X,.sl .u8 W],.agg [.bool ca,.int .u8 pa,.int .u8 pb,.bool ba,.bool cb,.int .u8 pc,.int .u8 pd,.bool bb,.int .i64 br]] (.one (.bool true)):=by
 refine AZ Tryz.func8 fun E c=>?_
 conv=>cbv
 refine AB c d ?_;conv=>cbv
 refine AR ?_;conv=>cbv
 refine AB c j ?_;conv=>cbv
 refine AR ?_;conv=>cbv
 refine AB c c1 ?_;conv=>cbv
 refine AB c c2 ?_;conv=>cbv
 refine AB c h ?_;conv=>cbv
 intro E6 a;(have a:=a.trans (show _=true by simp));subst a;conv=>cbv
 intro g b;conv=>cbv
 cases g <;> conv=>cbv
 ·have f:=Es b;exact False.elim (by omega)
 have f:=Et b;exact AF ⟨t2,trivial⟩
theorem tM {W:List UInt8} (b:ns=(runN (X.take 24)).1) (a:V.length<=3) (d:∀n∈ns,CL V n) (ha:0<=pa/\pa<256) (hb:0<=pb/\pb<256) (hc:0<=pc/\pc<256) (hd:0<=pd/\pd<256):CF 8 [.agg [.sl Bh X,.sl .u8 W],.agg [.bool ca,.int .u8 pa,.int .u8 pb,.bool ba,.bool cb,.int .u8 pc,.int .u8 pd,.bool bb,.int .i64 br]] (.one (.bool true)):=by
 rcases OZ (W:=W) (br:=br) (ca:=false) (ba:=ba) (cb:=false) (bb:=bb) b a d ha hb hc hd with⟨Q,k1,k2,DZ,DP,Da,DQ,Db,DR,Dc,DS,De,DT,Df,DU,Dg,DV,Dh,DW,Di,DX,Dj,DY,Dy,Dn,Dz,Dp,D5,Dq,D6,Dr,D7,Ds,D8,Dt,D9,Du,EA,Dv,EB,Dw,EC,Dx,c⟩ |⟨w,L,Q,v1,v2,g1,g2,hQ,c⟩
 ·exact nf GY c
 obtain⟨_,C,g,D,j,F,l,G,m,H,o,R,T,Z,a2,a8,a6,ab,ia,rfl,d1⟩:=g1.resolve_left (fun z=>Bool.noConfusion z.1);obtain⟨_,I,q,J,r,M,u,N,A,O,B,S,U,a1,a5,aa,a7,ad,ib,rfl,d2⟩:=g2.resolve_left (fun z=>Bool.noConfusion z.1);obtain⟨_,_,_,_,_,_,_,_,e,c1,c2,f,h⟩:=nT L HR d1 d2;rcases h with h |⟨rfl,Y⟩
 ·exact nd h GY c c1 c2 f
 exact nc GY c c1 c2 f Y
end Go.Abs
namespace Go.Abs
open Go.RowKit
end Go.Abs
