/- Part 31 of a proof. Conditions: each theorem's own. -/
import Derived.Test.YtmaoeopjnhfplaaGreatQk28
import Derived.Test.YtmaoeopjnhfplaaGreatQk29
set_option linter.all false
set_option maxHeartbeats 8000000
set_option maxRecDepth 20000
open Go.Proofs
namespace Go.Abs
open Go.RowKit
theorem lOn {TT:List (List Rat)->Prop} {w:List (List Rat)} {R b c M q p k l m m':Nat} (F:Fm TT w R b c M q p) {T1 T2 T3 T4 T5:List (List (el AA))} {A1 A2 A3 A4 A5:List (el AA)} {α β γ x y:Re} (f:DY TT w b k l T1 A1 T2 A2 T3 A3 α β γ) (ha:Vm TT w b m m' T4 A4 T5 A5 x y) (u:2*(k+m+m'+4)+4*c+3<=M) (A:2*l+4*c+3<=M) {e:Bool} (he:e=true↔α*x+β*y=γ):F6 Tryz.prog false 107 [.agg [.sl (.sl AA) T1,.sl AA A1,.sl (.sl AA) T2,.sl AA A2,.sl (.sl AA) T3,.sl AA A3],.agg [.sl (.sl AA) T4,.sl AA A4,.sl (.sl AA) T5,.sl AA A5]] (.one (.bool e)):=by
 have r:Vm TT w b 1 k T1 A1 T2 A2 α β:=⟨f.x,f.y⟩
 obtain⟨T6,A6,o,g⟩:=NO F r ha
 obtain⟨j,d,h,_⟩:=Fp F o f.z
 have ee:e=j:=by rw[Bool.eq_iff_iff,he,d]
 refine Ah Tryz.func107 fun E a=>?_
 conv=>cbv
 refine AB a Xw ?_
 try conv=>cbv
 refine AB a g ?_
 try conv=>cbv
 refine Ai 10 1 a Kk ?_
 try conv=>cbv
 refine Bg ?_
 refine Aw ?_;conv=>cbv
 refine AB a h ?_
 try conv=>cbv
 exact AF ⟨⟨rfl,congrArg _ (ee),trivial⟩,trivial⟩
end Go.Abs
namespace Go.Abs
open Go.RowKit
variable {A1 A2 A3 A4 Aj At BB BF BP Ba DV Ew C2:LR} {T1 T2 T3 T4 Ao Av BC BG BQ Bb Db Ey C3:List LR} {TT:List (List Rat)->Prop} {ka kb kc kd kf kn ko ks kt:Nat} {p:Rat} {sn:Int} {va vb vc vn vs vt xa xb xd xf xo ya yb yd yf yo:Re} {w:List (List Rat)}
theorem Sb (F:Fl TT w) (a:Cz p):∃A,A=em [] (Re.ofRat p)/\Nm TT w 2100 1 [] A (Re.ofRat p):=⟨_,rfl,HX F (by decide) (G8 a)⟩
theorem DS (F:Fl TT w) {q:Rat} (b:Cz p) (c:Cz q):∃A a,(A=em [] (Re.ofRat p)/\a=em [] (Re.ofRat q))/\Vm TT w 2100 1 1 [] A [] a (Re.ofRat p) (Re.ofRat q):=
 ⟨_,_,⟨rfl,rfl⟩,HX F (by decide) (G8 b),HX F (by decide) (G8 c)⟩
theorem M7 (F:Fl TT w) (ha:Nm TT w 2100 ka Ao Aj va) (hb:Nm TT w 2100 kb Av At vb) (h:ka+kb+21<=43400000:=by omega):∃d c,Nm TT w 2100 (ka+kb+1) d c (va+vb)/\Bp Tryz.prog 135 [.one (.As 0 0 0),.agg (AU Ao Aj),.agg (AU Av At)] (.var 0 [.int .i64 0]) (.agg (AU d c)):=by
 obtain⟨BC,BB,b,f,a⟩:=FZ F ha hb;refine⟨BC,BB,b.mono (by omega),?_⟩;refine CE Tryz.func135 fun E g=>?_
 conv=>cbv
 refine AB g a ?_;conv=>cbv
 refine Ai 0 0 g GF ?_;try conv=>cbv
 refine fun _=>⟨⟨⟨t3,trivial⟩,rfl,by simp⟩,rfl⟩
theorem KK (F:Fl TT w) (ha:Nm TT w 2100 ka Ao Aj va) (hb:Nm TT w 2100 kb Av At vb) (h:ka+kb+21<=43400000:=by omega):∃d c,Nm TT w 2100 (ka+kb+1) d c (va-vb)/\Bp Tryz.prog 130 [.one (.As 0 0 0),.agg (AU Ao Aj),.agg (AU Av At)] (.var 0 [.int .i64 0]) (.agg (AU d c)):=by
 obtain⟨BC,BB,b,f,a⟩:=Dr F ha hb;refine⟨BC,BB,b.mono (by omega),?_⟩;refine CE Tryz.func130 fun E g=>?_
 conv=>cbv
 refine AB g a ?_;conv=>cbv
 refine Ai 0 0 g GF ?_;try conv=>cbv
 refine fun _=>⟨⟨⟨t3,trivial⟩,rfl,by simp⟩,rfl⟩
theorem Hc (F:Fl TT w) (ha:Nm TT w 2100 ka Ao Aj va) (hb:Nm TT w 2100 kb Av At vb) (h:ka+kb+21<=43400000:=by omega):∃d c,Nm TT w 2100 (ka+kb+1) d c (va*vb)/\Bp Tryz.prog 131 [.one (.As 0 0 0),.agg (AU Ao Aj),.agg (AU Av At)] (.var 0 [.int .i64 0]) (.agg (AU d c)):=by
 obtain⟨BC,BB,b,f,a⟩:=DA F ha hb;refine⟨BC,BB,b.mono (by omega),?_⟩;refine CE Tryz.func131 fun E g=>?_
 conv=>cbv
 refine AB g a ?_;conv=>cbv
 refine Ai 0 0 g GF ?_;try conv=>cbv
 refine fun _=>⟨⟨⟨t3,trivial⟩,rfl,by simp⟩,rfl⟩
theorem TE (F:Fl TT w) (ha:Vm TT w 2100 ka ka Ao Aj Av At xa ya) (hb:Vm TT w 2100 kb kb BC BB BG BF xb yb) (l:ka+kb+21<=43400000:=by omega):∃h g b a,Vm TT w 2100 (ka+kb+1) (ka+kb+1) h g b a (xa-xb) (ya-yb)/\Bp Tryz.prog 129 [.one (.As 0 0 0),.agg (AH Ao Aj Av At),.agg (AH BC BB BG BF)] (.var 0 [.int .i64 0]) (.agg (AH h g b a)):=by
 obtain⟨BQ,BP,Bb,Ba,d,c⟩:=Hj F ha hb;have f:=d.cast (x':=xa-xb) (y':=ya-yb) (by grind) (by grind);refine⟨BQ,BP,Bb,Ba,f.mono (by omega) (by omega),?_⟩;refine CE Tryz.func129 fun E j=>?_
 conv=>cbv
 refine AB j c ?_;conv=>cbv
 refine Ai 0 0 j PF ?_;try conv=>cbv
 refine fun _=>⟨⟨⟨⟨rfl,rfl,rfl,rfl,rfl,trivial⟩,trivial⟩,rfl,by simp⟩,rfl⟩
theorem TF (F:Fl TT w) (ha:Vm TT w 2100 ka ka Ao Aj Av At xa ya) (g:2*ka+22<=43400000:=by omega):∃d c,Nm TT w 2100 (4*ka+3) d c (xa*xa+ya*ya)/\Bp Tryz.prog 134 [.one (.As 0 0 0),.agg (AH Ao Aj Av At)] (.var 0 [.int .i64 0]) (.agg (AU d c)):=by
 obtain⟨BC,BB,b,a⟩:=Pe F ha;refine⟨BC,BB,b.mono (by omega),?_⟩;refine CE Tryz.func134 fun E f=>?_
 conv=>cbv
 refine AB f a ?_;conv=>cbv
 refine Ai 0 0 f GF ?_;try conv=>cbv
 refine fun _=>⟨⟨⟨t3,trivial⟩,rfl,by simp⟩,rfl⟩
theorem M8 (F:Fl TT w) (ha:Vm TT w 2100 ka ka Ao Aj Av At xa ya) (hb:Vm TT w 2100 kb kb BC BB BG BF xb yb) (j:2*ka+2*kb+24<=43400000:=by omega):∃g f,Nm TT w 2100 (4*ka+4*kb+7) g f ((xa-xb)*(xa-xb)+(ya-yb)*(ya-yb))/\Bp Tryz.prog 140 [.one (.As 0 0 0),.agg (AH Ao Aj Av At),.agg (AH BC BB BG BF)] (.var 0 [.int .i64 0]) (.agg (AU g f)):=by
 obtain⟨Bb,Ba,Db,DV,c,a⟩:=TE F ha hb;obtain⟨C3,C2,d,b⟩:=TF F c;refine⟨C3,C2,d.mono (by omega),?_⟩;refine CE Tryz.func140 fun E h=>?_
 conv=>cbv
 refine Ai 0 0 h a ?_;try conv=>cbv
 refine Ai 0 0 h b ?_;try conv=>cbv
 refine fun _=>⟨⟨⟨t3,trivial⟩,rfl,by simp⟩,rfl⟩
theorem KI (F:Fl TT w) (g:Vm TT w 2100 ko ko Ao Aj Av At xo yo) (ha:Vm TT w 2100 ka ka BC BB BG BF xa ya) (h:¬(xo=xa/\yo=ya)) (j:2*ka+2*ko+83<=43400000:=by omega):∃f d,Nm TT w 2100 (4*ka+4*ko+7) f d ((xo-xa)*(xo-xa)+(yo-ya)*(yo-ya))/\CF 98 [.agg (AH Ao Aj Av At),.agg (AH BC BB BG BF)] (.AG [(true,(AN Ao Aj Av At f d)),(false,[.int .i64 0])]):=by
 obtain⟨Bb,Ba,b,a⟩:=M8 F g ha;refine⟨Bb,Ba,b.mono (by omega),?_⟩;refine Ah Tryz.func98 fun E c=>?_
 conv=>cbv
 refine AB (r:= .one (.bool false)) c (DU F g ha (by omega) (by omega) (by omega) (by omega) (e:=false) ⟨fun z=>(by cases z),fun z=>absurd z h⟩) ?_;conv=>cbv
 refine Ai 12 1 c a ?_;try conv=>cbv
 refine Ai 12 1 c Zi ?_;try conv=>cbv
 refine Bg ?_;exact AF ⟨⟨rfl,rfl,rfl,rfl,rfl,rfl,rfl,trivial⟩,t2,trivial⟩
theorem Sc (F:Fl TT w) (c:Vm TT w 2100 ko ko Ao Aj Av At xo yo) (ha:Vm TT w 2100 ka ka BC BB BG BF xa ya) (a:xo=xa/\yo=ya) (d:2*ka+2*ko+83<=43400000:=by omega):CF 98 [.agg (AH Ao Aj Av At),.agg (AH BC BB BG BF)] (.AG [(true,(AN [] [] [] [] [] [])),(false,[.int .i64 11])]):=by
 refine Ah Tryz.func98 fun E b=>?_
 conv=>cbv
 refine AB b (DU F c ha (by omega) (by omega) (by omega) (by omega) (e:=true) ⟨fun _=>a,fun _=>rfl⟩) ?_;conv=>cbv
 exact AF ⟨⟨rfl,AJ,AJ,AJ,AJ,AJ,AJ,trivial⟩,t2,trivial⟩
theorem C0:Bp Tryz.prog 101 [.one (.As 0 0 0),.agg (AU T1 A1),.one (.int .i64 0)] (.var 0 [.int .i64 0]) (.agg (AU T1 A1)):=by
 refine CE Tryz.func101 fun E a=>?_
 conv=>cbv
 refine AL ?_;conv=>cbv
 refine fun _=>⟨⟨⟨t3,trivial⟩,rfl,by simp⟩,rfl⟩
theorem F2:Bp Tryz.prog 110 [.one (.As 0 0 0),.agg (AH T1 A1 T2 A2),.one (.int .i64 0)] (.var 0 [.int .i64 0]) (.agg (AH T1 A1 T2 A2)):=by
 refine CE Tryz.func110 fun E a=>?_
 conv=>cbv
 refine AL ?_;conv=>cbv
 refine fun _=>⟨⟨⟨⟨rfl,rfl,rfl,rfl,rfl,trivial⟩,trivial⟩,rfl,by simp⟩,rfl⟩
theorem LA:Bp Tryz.prog 103 [.one (.As 0 0 0),.agg (AH T1 A1 T2 A2)] (.var 0 [.int .i64 0]) (.AG [(true,(AH T1 A1 T2 A2)),(false,[.int .i64 0])]):=by
 refine CE Tryz.func103 fun E a=>?_
 conv=>cbv
 refine AL ?_;conv=>cbv
 refine fun _=>⟨⟨⟨⟨rfl,rfl,rfl,rfl,rfl,trivial⟩,t2,trivial⟩,rfl,by simp⟩,rfl⟩
theorem Mk:CF 102 [.agg (AN T1 A1 T2 A2 T3 A3)] (.agg (AH T1 A1 T2 A2)):=by
 refine Ah Tryz.func102 fun E a=>?_
 conv=>cbv
 exact AF ⟨⟨rfl,rfl,rfl,rfl,rfl,trivial⟩,trivial⟩
theorem Rv:CF 118 [.one (.int .i64 1)] (.one (.bool true)):=by
 refine Ah Tryz.func118 fun E a=>?_
 conv=>cbv
 refine Aw ?_;conv=>cbv
 exact AF ⟨t2,trivial⟩
theorem Ru:CF 118 [.one (.int .i64 (-1))] (.one (.bool true)):=by
 refine Ah Tryz.func118 fun E a=>?_
 conv=>cbv
 refine AL ?_;conv=>cbv
 refine Aw ?_;conv=>cbv
 exact AF ⟨t2,trivial⟩
theorem Sv:CF 202 [.one (.int .i64 1)] (.one (.bool true)):=by
 refine Ah Tryz.func202 fun E a=>?_
 conv=>cbv
 refine Aw ?_;conv=>cbv
 exact AF ⟨t2,trivial⟩
theorem Su:CF 202 [.one (.int .i64 (-1))] (.one (.bool true)):=by
 refine Ah Tryz.func202 fun E a=>?_
 conv=>cbv
 refine AL ?_;conv=>cbv
 refine Aw ?_;conv=>cbv
 exact AF ⟨t2,trivial⟩
theorem Ia (F:Fl TT w) (ha:Nm TT w 2100 1 Ao Aj va) (hb:Nm TT w 2100 kb Av At vb) (hc:Nm TT w 2100 kc BC BB vc) (l:Vm TT w 2100 kd kd BG BF BQ BP xd yd) (o:va*xd+vb*yd=0) (m:¬(xd=0/\yd=0)) (q:2*kb+2*kd+26<=43400000:=by omega):CF 119 [.agg (AN Ao Aj Av At BC BB),.agg (AH BG BF BQ BP)] (.one (.bool true)):=by
 have d:Vm _ w 2100 (kb+1) (kb+1) Ao Aj Av At _ _:=⟨ha.mono (by omega),hb.mono (by omega)⟩;obtain⟨Db,DV,f,b⟩:=NO F d l;obtain⟨g,a,c,j⟩:=Dh F f;obtain rfl:g=0:=a.trans ((congrArg BU o).trans F3);refine Ah Tryz.func119 fun E h=>?_
 conv=>cbv
 refine AB h Mk ?_;conv=>cbv
 refine AB h b ?_;conv=>cbv
 refine Bg ?_;refine Aw ?_;conv=>cbv
 refine AB h c ?_;conv=>cbv
 refine Aw ?_;conv=>cbv
 refine AB (r:= .one (.bool false)) h (bD F l (by omega) (by omega) (e:=false) ⟨fun z=>(by cases z),fun z=>absurd z m⟩) ?_;conv=>cbv
 refine Aw ?_;conv=>cbv
 exact AF ⟨t2,trivial⟩
theorem Ha {s:Int} (h:CF 156 [.agg (AU T1 A1)] (.one (.int .i64 s))):Bp Tryz.prog 127 [.one (.As 0 0 0),.agg (AU T1 A1)] (.var 0 [.int .i64 0]) (.one (.int .i64 s)):=by
 refine CE Tryz.func127 fun E a=>?_
 conv=>cbv
 refine AL ?_;conv=>cbv
 refine AB a h ?_;conv=>cbv
 refine fun _=>⟨⟨⟨t2,trivial⟩,rfl,by simp⟩,rfl⟩
theorem O3 (F:Fl TT w) (ha:Nm TT w 2100 1 Ao Aj va) (hb:Nm TT w 2100 kb Av At vb) (hc:Nm TT w 2100 kc BC BB vc) (o:Vm TT w 2100 kd kd BG BF BQ BP xd yd) (C:va*xd+vb*yd=0) (B:¬(xd=0/\yd=0)) (D:kb+2*kd+25<=43400000:=by omega):CF 203 [.agg (AN Ao Aj Av At BC BB),.agg (AH BG BF BQ BP)] (.one (.bool true)):=by
 obtain⟨Db,DV,g,b⟩:=Hc F ha o.x;obtain⟨C3,C2,h,c⟩:=Hc F hb o.y;obtain⟨u,q,j,d⟩:=M7 F g h;obtain⟨m,a,A,f⟩:=Dh F j;obtain rfl:m=0:=a.trans ((congrArg BU C).trans F3);refine Ah Tryz.func203 fun E l=>?_
 conv=>cbv
 refine Ai 8 1 l b ?_;try conv=>cbv
 refine Ai 8 1 l c ?_;try conv=>cbv
 refine Ai 8 1 l d ?_;try conv=>cbv
 refine Bg ?_;refine AB (r:= .one (.bool false)) l (Ue F o (by omega) (by omega) (e:=false) ⟨fun z=>(by cases z),fun z=>absurd z B⟩) ?_;conv=>cbv
 refine Aw ?_;conv=>cbv
 refine Ai 8 1 l (Ha f) ?_;try conv=>cbv
 refine Aw ?_;conv=>cbv
 exact AF ⟨t2,trivial⟩
theorem Rs (F:Fl TT w) {A B:List LR} {q r:LR} (ha:Nm TT w 2100 1 Ao Aj va) (hb:Nm TT w 2100 kb Av At vb) (hc:Nm TT w 2100 kc BC BB vc) (hd:Vm TT w 2100 kd kd BG BF BQ BP xd yd) (ho:Vm TT w 2100 ko ko Bb Ba Db DV xo yo) (hs:Nm TT w 2100 ks Ey Ew vs) (hf:Vm TT w 2100 kf kf C3 C2 A q xf yf) (hn:Nm TT w 2100 kn B r vn) (h0:¬(va=0/\vb=0)) (m:xo-va*(EH va vb vc xo yo*Re.ofRat ((1:Int):Rat))=xf) (o:yo-vb*(EH va vb vc xo yo*Re.ofRat ((1:Int):Rat))=yf) (U:xd*xd+yd*yd≠0) (T:(vs-((xo-xf)*(xo-xf)+(yo-yf)*(yo-yf)))*AT (xd*xd+yd*yd)=vn) (hM:190*kb+4*kc+92*kd+16*ko+ks+587<=43400000):∃U0 B0 D z U1 B1,Vm TT w 2100 (kf) (kf) U0 B0 D z (xf) (yf)/\Nm TT w 2100 (kn) U1 B1 (vn)/\CF 114 [.agg (AN Ao Aj Av At BC BB),.agg (AH BG BF BQ BP),.agg (AN Bb Ba Db DV Ey Ew)] (.AG [(true,(CN U0 B0 D z BG BF BQ BP U1 B1)),(false,[.int .i64 0])]):=by
 obtain⟨h,f,j,g,l,G⟩:=RP F ⟨ha,hb,hc⟩ ho h0 (Nat.le_refl _);have a:Vm _ w 2100 kf kf h f j g _ _:=⟨l.x.shrink hf.x (m),l.y.shrink hf.y (o)⟩;have a:=a.cast (x':=xf) (y':=yf) (m) (o);obtain⟨a1,W,b,H⟩:=Xx F ⟨ha,hb,hc⟩ ho h0 (Nat.le_refl _);have b:=b.cast (y:=(xo-xf)*(xo-xf)+(yo-yf)*(yo-yf)) (by rw[m,o]);obtain⟨a2,Y,M,I,a6⟩:=Dr F hs b;obtain⟨a5,Z,N,J⟩:=IB F hd;obtain⟨C,u,O,L,a7⟩:=Fa F M N (d:=92*kd+83) (by omega) U;have R:=O.shrink hn (T);have S:=R.cast (y:=vn) (T);refine⟨h,f,j,g,C,u,a.mono (by omega) (by omega),S.mono (by omega),?_⟩;refine Ah Tryz.func114 fun E c=>?_
 conv=>cbv
 refine AB c G ?_;conv=>cbv
 refine Ai 13 1 c F2 ?_;try conv=>cbv
 refine AB c H ?_;conv=>cbv
 refine Ai 13 1 c C0 ?_;try conv=>cbv
 refine AB c I ?_;conv=>cbv
 refine Ai 13 1 c C0 ?_;try conv=>cbv
 refine Bg ?_;refine AB c J ?_;conv=>cbv
 refine Ai 13 1 c C0 ?_;try conv=>cbv
 refine AB c L ?_;conv=>cbv
 refine Ai 13 1 c C0 ?_;try conv=>cbv
 refine Bg ?_;refine Bg ?_;exact AF ⟨⟨rfl,rfl,rfl,rfl,rfl,rfl,rfl,rfl,rfl,rfl,rfl,trivial⟩,t2,trivial⟩
theorem Mg (F:Fl TT w) (ho:Vm TT w 2100 ko ko Ao Aj Av At xo yo) (hs:Nm TT w 2100 ks BC BB vs) (ha:Vm TT w 2100 ka ka BG BF BQ BP xa ya) (ht:Nm TT w 2100 kt Bb Ba vt) (hf:Vm TT w 2100 kf kf Db DV Ey Ew xf yf) (hn:Nm TT w 2100 kn C3 C2 vn) (hq:(xa-xo)*(xa-xo)+(ya-yo)*(ya-yo)≠0) (af:xo+(xa-xo)*(((xa-xo)*(xa-xo)+(ya-yo)*(ya-yo)+vs-vt)*AT ((xa-xo)*(xa-xo)+(ya-yo)*(ya-yo)+((xa-xo)*(xa-xo)+(ya-yo)*(ya-yo))))=xf) (ag:yo+(ya-yo)*(((xa-xo)*(xa-xo)+(ya-yo)*(ya-yo)+vs-vt)*AT ((xa-xo)*(xa-xo)+(ya-yo)*(ya-yo)+((xa-xo)*(xa-xo)+(ya-yo)*(ya-yo))))=yf) (ah:vs*AT ((xa-xo)*(xa-xo)+(ya-yo)*(ya-yo))-((xa-xo)*(xa-xo)+(ya-yo)*(ya-yo)+vs-vt)*AT ((xa-xo)*(xa-xo)+(ya-yo)*(ya-yo)+((xa-xo)*(xa-xo)+(ya-yo)*(ya-yo)))*(((xa-xo)*(xa-xo)+(ya-yo)*(ya-yo)+vs-vt)*AT ((xa-xo)*(xa-xo)+(ya-yo)*(ya-yo)+((xa-xo)*(xa-xo)+(ya-yo)*(ya-yo))))=vn) (hM:376*ka+376*ko+2*ks+2*kt+760<=43400000:=by omega):∃U0 B0 C o U1 B1 D q U2 B2,Vm TT w 2100 (kf) (kf) U0 B0 C o (xf) (yf)/\Vm TT w 2100 (ka+ko+1) (ka+ko+1) U1 B1 D q (-(ya-yo)) (xa-xo)/\Nm TT w 2100 (kn) U2 B2 (vn)/\CF 116 [.agg (AN Ao Aj Av At BC BB),.agg (AN BG BF BQ BP Bb Ba)] (.AG [(true,(CN U0 B0 C o U1 B1 D q U2 B2)),(false,[.int .i64 0])]):=by
 obtain⟨r,g,u,ai,c,G⟩:=Ix F ha ho;obtain⟨ax,aj,b,H⟩:=IB F c;obtain⟨ay,ak,W,I,aG⟩:=FZ F b hs;obtain⟨az,an,Y,J,aH⟩:=Dr F W ht;obtain⟨aA,ao,Z,L,aI⟩:=FZ F b b;obtain⟨aB,aq,f,M,aJ⟩:=Fa F Y Z (d:=184*ka+184*ko+359) (by omega) (O6 hq);obtain⟨aC,ar,aD,au,a1,N⟩:=IA F c f;obtain⟨z,h,A,j,a2,O⟩:=Iw F ho a1;have a5:=a2.shrink hf (af) (ag);have a6:=a5.cast (x':=xf) (y':=yf) (af) (ag);obtain⟨aE,av,a7,R,aK⟩:=Fa F hs b (d:=92*ka+92*ko+175) (by omega) hq
 obtain⟨aF,aw,a8,S,aL⟩:=DA F f f;obtain⟨B,l,aa,T,aM⟩:=Dr F a7 a8;have ab:=aa.shrink hn (ah);have ad:=ab.cast (y:=vn) (ah);obtain⟨m,ae,U⟩:=UL F c;refine⟨z,h,A,j,u,m,r,g,B,l,a6.mono (by omega) (by omega),ae.mono (by omega) (by omega),ad.mono (by omega),?_⟩;refine Ah Tryz.func116 fun E a=>?_
 conv=>cbv
 refine AB a G ?_;conv=>cbv
 refine Ai 13 1 a F2 ?_;try conv=>cbv
 refine AB a H ?_;conv=>cbv
 refine Ai 13 1 a C0 ?_;try conv=>cbv
 refine AB a I ?_;conv=>cbv
 refine Ai 13 1 a C0 ?_;try conv=>cbv
 refine AB a J ?_;conv=>cbv
 refine Ai 13 1 a C0 ?_;try conv=>cbv
 refine Bg ?_;refine AB a L ?_;conv=>cbv
 refine Ai 13 1 a C0 ?_;try conv=>cbv
 refine AB a M ?_;conv=>cbv
 refine Ai 13 1 a C0 ?_;try conv=>cbv
 refine Bg ?_;refine AB a N ?_;conv=>cbv
 refine Ai 13 1 a F2 ?_;try conv=>cbv
 refine AB a O ?_;conv=>cbv
 refine Ai 13 1 a F2 ?_;try conv=>cbv
 refine Bg ?_;refine AB a R ?_;conv=>cbv
 refine Ai 13 1 a C0 ?_;try conv=>cbv
 refine AB a S ?_;conv=>cbv
 refine Ai 13 1 a C0 ?_;try conv=>cbv
 refine AB a T ?_;conv=>cbv
 refine Ai 13 1 a C0 ?_;try conv=>cbv
 refine Bg ?_;refine AB a U ?_;conv=>cbv
 refine Bg ?_;exact AF ⟨⟨rfl,rfl,rfl,rfl,rfl,rfl,rfl,rfl,rfl,rfl,rfl,trivial⟩,t2,trivial⟩
theorem J9 (F:Fl TT w) (g:Nm TT w 2100 kn Ao Aj vn) (h:BU vn=1) (j:kn+21<=43400000:=by omega):CF 117 [.agg (CN T1 A1 T2 A2 T3 A3 T4 A4 Ao Aj)] (.one (.int .i64 0)):=by
 obtain⟨c,a,b,d⟩:=Dh F g;obtain rfl:c=1:=a.trans (h);refine Ah Tryz.func117 fun E f=>?_
 conv=>cbv
 refine AB f b ?_;conv=>cbv
 refine .inr ?_;refine AL ?_;conv=>cbv
 refine AL ?_;conv=>cbv
 exact AF ⟨t2,trivial⟩
theorem KA (F:Fl TT w) (g:Nm TT w 2100 kn Ao Aj vn) (h:BU vn=0) (j:kn+21<=43400000:=by omega):CF 117 [.agg (CN T1 A1 T2 A2 T3 A3 T4 A4 Ao Aj)] (.one (.int .i64 12)):=by
 obtain⟨c,a,b,d⟩:=Dh F g;obtain rfl:c=0:=a.trans (h);refine Ah Tryz.func117 fun E f=>?_
 conv=>cbv
 refine AB f b ?_;conv=>cbv
 refine .inr ?_;refine AL ?_;conv=>cbv
 refine Aw ?_;conv=>cbv
 exact AF ⟨t2,trivial⟩
theorem KB (F:Fl TT w) (g:Nm TT w 2100 kn Ao Aj vn) (h:BU vn= -1) (j:kn+21<=43400000:=by omega):CF 117 [.agg (CN T1 A1 T2 A2 T3 A3 T4 A4 Ao Aj)] (.one (.int .i64 7)):=by
 obtain⟨c,a,b,d⟩:=Dh F g;obtain rfl:c= -1:=a.trans (h);refine Ah Tryz.func117 fun E f=>?_
 conv=>cbv
 refine AB f b ?_;conv=>cbv
 refine .inr ?_;refine Aw ?_;conv=>cbv
 exact AF ⟨t2,trivial⟩
theorem Ie (F:Fl TT w) (c:Vm TT w 2100 ko ko Ao Aj Av At xo yo) (f:Nm TT w 2100 ks BC BB vs) (ha:Vm TT w 2100 ka ka BG BF BQ BP xa ya) (ht:Nm TT w 2100 kt Bb Ba vt) (a:¬(xo=xa/\yo=ya)) (d:2*ka+2*ko+83<=43400000:=by omega):CF 115 [.agg (AN Ao Aj Av At BC BB),.agg (AN BG BF BQ BP Bb Ba)] (.one (.int .i64 0)):=by
 refine Ah Tryz.func115 fun E b=>?_
 conv=>cbv
 refine .inr ?_;refine AB (r:= .one (.bool false)) b (Ln F c ha (by omega) (by omega) (by omega) (by omega) (e:=false) ⟨fun z=>(by cases z),fun z=>absurd z a⟩) ?_;conv=>cbv
 refine Aw ?_;conv=>cbv
 exact AF ⟨t2,trivial⟩
theorem Sh (F:Fl TT w) (ha:Nm TT w 2100 1 Ao Aj va) (hb:Nm TT w 2100 kb Av At vb) (hc:Nm TT w 2100 kc BC BB vc) (q:Vm TT w 2100 ko ko BG BF BQ BP xo yo) (r:Nm TT w 2100 ks Bb Ba vs) (o:¬(va=0/\vb=0)) (l:sn=BU (vs-(va*xo+vb*yo-vc)*(va*xo+vb*yo-vc)*AT (va*va+vb*vb))) (u:48*kb+2*kc+4*ko+ks+163<=43400000:=by omega):CF 205 [.agg (AN Ao Aj Av At BC BB),.agg (AN BG BF BQ BP Bb Ba)] (.one (.int .i64 sn)):=by
 obtain⟨Db,DV,f,b⟩:=ZQ F ⟨ha,hb,hc⟩ q o (Nat.le_refl _);obtain⟨C3,C2,g,c⟩:=KK F r f;obtain⟨h,a,m,d⟩:=Dh F g;obtain rfl:sn=h:=(l.symm).symm.trans a.symm;refine Ah Tryz.func205 fun E j=>?_
 conv=>cbv
 refine AB j b ?_;conv=>cbv
 refine Ai 9 1 j c ?_;try conv=>cbv
 refine Ai 9 1 j (Ha d) ?_;try conv=>cbv
 exact AF ⟨t2,trivial⟩
theorem Sr (F:Fl TT w) (ho:Vm TT w 2100 ko ko Ao Aj Av At xo yo) (hs:Nm TT w 2100 ks BC BB vs) (ha:Vm TT w 2100 ka ka BG BF BQ BP xa ya) (ht:Nm TT w 2100 kt Bb Ba vt) (H:sn=BU (Re.ofRat ((4:Int):Rat)*(((xo-xa)*(xo-xa)+(yo-ya)*(yo-ya))*vs)-((xo-xa)*(xo-xa)+(yo-ya)*(yo-ya)+vs-vt)*((xo-xa)*(xo-xa)+(yo-ya)*(yo-ya)+vs-vt))) (hM:12*ka+12*ko+3*ks+2*kt+51<=43400000):CF 207 [.agg (AN Ao Aj Av At BC BB),.agg (AN BG BF BQ BP Bb Ba)] (.one (.int .i64 sn)):=by
 obtain⟨Ey,Ew,b,g⟩:=M8 F ho ha;obtain⟨S,I,u,h⟩:=M7 F b hs;obtain⟨T,J,c,j⟩:=KK F u ht;obtain⟨U,L,z,l⟩:=Hc F b hs;obtain⟨M,d,A⟩:=Sb F (p:=((4:Int):Rat)) (by decide +kernel);obtain⟨W,N,B,m⟩:=Hc F A z;obtain⟨Y,O,C,o⟩:=Hc F c c;obtain⟨Z,R,D,q⟩:=KK F B C;obtain⟨G,f,a1,r⟩:=Dh F D;obtain rfl:sn=G:=(H.symm).symm.trans f.symm;refine Ah Tryz.func207 fun E a=>?_
 conv=>cbv
 refine Ai 10 1 a g ?_;try conv=>cbv
 refine Ai 10 1 a h ?_;try conv=>cbv
 refine Ai 10 1 a j ?_;try conv=>cbv
 refine Bg ?_;refine Ai 10 1 a l ?_;try conv=>cbv
 refine AB a (Nb (by decide) d) ?_;conv=>cbv
 refine Ai 10 1 a m ?_;try conv=>cbv
 refine Ai 10 1 a o ?_;try conv=>cbv
 refine Ai 10 1 a q ?_;try conv=>cbv
 refine Ai 10 1 a (Ha r) ?_;try conv=>cbv
 refine Bg ?_;exact AF ⟨t2,trivial⟩
theorem Mu:CF 204 [.one (.int .i64 0)] (.one (.int .i64 12)):=by
 refine Ah Tryz.func204 fun E a=>?_
 conv=>cbv
 refine AL ?_;conv=>cbv
 refine Aw ?_;conv=>cbv
 exact AF ⟨t2,trivial⟩
theorem Mv:CF 204 [.one (.int .i64 (-1))] (.one (.int .i64 7)):=by
 refine Ah Tryz.func204 fun E a=>?_
 conv=>cbv
 refine Aw ?_;conv=>cbv
 exact AF ⟨t2,trivial⟩
end Go.Abs
namespace Go.Abs
open Go.RowKit
abbrev CJ (T1:List LR) (A1:LR) (T2:List LR) (A2:LR) (T3:List LR) (A3:LR) (T4:List LR) (A4:LR) (T5:List LR) (A5:LR):AV:= .agg [.int .i64 1,.sl (.sl AA) T1,.sl AA A1,.sl (.sl AA) T2,.sl AA A2,.sl (.sl AA) T3,.sl AA A3,.sl (.sl AA) T4,.sl AA A4,.sl (.sl AA) T5,.sl AA A5,.sl (.sl AA) [],.sl AA [],.sl (.sl AA) [],.sl AA [],.sl (.sl AA) [],.sl AA [],.sl (.sl AA) [],.sl AA [],.sl (.sl AA) [],.sl AA []]
abbrev B4 (T1:List LR) (A1:LR) (T2:List LR) (A2:LR) (T3:List LR) (A3:LR):AV:= .agg [.int .i64 2,.sl (.sl AA) [],.sl AA [],.sl (.sl AA) [],.sl AA [],.sl (.sl AA) [],.sl AA [],.sl (.sl AA) [],.sl AA [],.sl (.sl AA) [],.sl AA [],.sl (.sl AA) T1,.sl AA A1,.sl (.sl AA) T2,.sl AA A2,.sl (.sl AA) T3,.sl AA A3,.sl (.sl AA) [],.sl AA [],.sl (.sl AA) [],.sl AA []]
abbrev oZ (T1:List LR) (A1:LR) (T2:List LR) (A2:LR):AV:= .agg [.int .i64 3,.sl (.sl AA) [],.sl AA [],.sl (.sl AA) [],.sl AA [],.sl (.sl AA) [],.sl AA [],.sl (.sl AA) [],.sl AA [],.sl (.sl AA) [],.sl AA [],.sl (.sl AA) [],.sl AA [],.sl (.sl AA) [],.sl AA [],.sl (.sl AA) [],.sl AA [],.sl (.sl AA) T1,.sl AA A1,.sl (.sl AA) T2,.sl AA A2]
variable {A1 A2 A3 A4 A5 Aj At BB BF BP Ba A6 A7 A8 Aa Ab Ac Ax Ay:LR} {K ka kb kc kd km ko kr ks kx:Nat} {T1 T2 T3 T4 T5 Ao Av BC BG BQ Bb T6 T7 T8 Ta Tb Tc Tx Ty:List LR} {TT DE:List (List Rat)->Prop} {br sn:Int} {e:Bool} {n sg v va vb vc vs xa xb xd xm xo xx ya yb yd ym yo yx:Re} {w w0:List (List Rat)}
theorem Rq (F:F9 TT w) (hm:Vm TT w 47000000 km km Ao Aj Av At xm ym) (z:Vm TT w 47000000 kd kd BC BB BG BF xd yd) (l:Nm DE w0 2100 kr T1 A1 v) (j:kr<=K) (A:Rt DE w0 2100 K TT w 47000000 1 v) (r:CF 117 [.agg (CN Ao Aj Av At BC BB BG BF T1 A1)] (.one (.int .i64 0))) (C:kd+km+43<=690):∃q o c b,Vm TT w 47000000 (kd+km+3) (kd+km+3) q o c b (xm+(xd*(Re.sqrt v))) (ym+(yd*(Re.sqrt v)))/\CF 120 [.agg (CN Ao Aj Av At BC BB BG BF T1 A1),.one (.int .i64 1)] (.AG [(true,(AH q o c b)),(false,[.int .i64 0])]):=by
 obtain⟨Tr,B,m,u,_⟩:=A.get j l;obtain⟨BQ,BP,Bb,Ba,g,d⟩:=IA F z m;obtain⟨Db,DV,Ey,Ew,h,f⟩:=Iw F hm g;refine⟨Db,DV,Ey,Ew,h.mono (by omega) (by omega),?_⟩;refine Ah Tryz.func120 fun E a=>?_
 conv=>cbv
 refine AB a r ?_;conv=>cbv
 refine AL ?_;conv=>cbv
 refine AB a u ?_;conv=>cbv
 refine Ai 16 1 a C0 ?_;try conv=>cbv
 refine AL ?_;conv=>cbv
 refine .inr ?_;refine AB a d ?_;conv=>cbv
 refine Ai 16 1 a F2 ?_;try conv=>cbv
 refine AB a f ?_;conv=>cbv
 refine Ai 16 1 a F2 ?_;try conv=>cbv
 refine Ai 16 1 a LA ?_;try conv=>cbv
 refine Bg ?_;exact AF ⟨⟨rfl,rfl,rfl,rfl,rfl,trivial⟩,t2,trivial⟩
theorem Rp (F:F9 TT w) (hm:Vm TT w 47000000 km km Ao Aj Av At xm ym) (C:Vm TT w 47000000 kd kd BC BB BG BF xd yd) (o:Nm DE w0 2100 kr T1 A1 v) (m:kr<=K) (D:Rt DE w0 2100 K TT w 47000000 1 v) (A:CF 117 [.agg (CN Ao Aj Av At BC BB BG BF T1 A1)] (.one (.int .i64 0))) (H:kd+km+43<=690):∃u r c b,Vm TT w 47000000 (kd+km+3) (kd+km+3) u r c b (xm+(xd*(-(Re.sqrt v)))) (ym+(yd*(-(Re.sqrt v))))/\CF 120 [.agg (CN Ao Aj Av At BC BB BG BF T1 A1),.one (.int .i64 (-1))] (.AG [(true,(AH u r c b)),(false,[.int .i64 0])]):=by
 obtain⟨Tr,G,q,B,_⟩:=D.get m o;obtain⟨BP,h,d,z⟩:=H3 F q;obtain⟨Bb,Ba,Db,DV,j,f⟩:=IA F C h;obtain⟨Ey,Ew,C3,C2,l,g⟩:=Iw F hm j;refine⟨Ey,Ew,C3,C2,l.mono (by omega) (by omega),?_⟩;refine Ah Tryz.func120 fun E a=>?_
 conv=>cbv
 refine AB a A ?_;conv=>cbv
 refine AL ?_;conv=>cbv
 refine AB a B ?_;conv=>cbv
 refine Ai 16 1 a C0 ?_;try conv=>cbv
 refine Aw ?_;conv=>cbv
 refine .inr ?_;refine AB a d ?_;conv=>cbv
 refine AB a f ?_;conv=>cbv
 refine Ai 16 1 a F2 ?_;try conv=>cbv
 refine AB a g ?_;conv=>cbv
 refine Ai 16 1 a F2 ?_;try conv=>cbv
 refine Ai 16 1 a LA ?_;try conv=>cbv
 refine Bg ?_;exact AF ⟨⟨rfl,rfl,rfl,rfl,rfl,trivial⟩,t2,trivial⟩
def Dj (n:Re) (br:Int) (sg:Re):Prop:=br=1/\sg=Re.sqrt n\/br= -1/\sg= -Re.sqrt n
theorem Dj.neg (h:Dj n br sg):Dj n (-br) (-sg):=by
 rcases h with⟨rfl,rfl⟩ |⟨rfl,rfl⟩
 ·exact .inr ⟨rfl,rfl⟩
 exact .inl ⟨rfl,by grind⟩
theorem Dj.one (h:Dj n br sg):br=1\/br= -1:=h.imp (·.1) (·.1)
theorem Dj.sq (h:Dj n br sg) (b:0<n):sg*sg=n:=by
 have a:=Re.GZ (show 0<=n by grind);rcases h with⟨_,rfl⟩ |⟨_,rfl⟩
 ·exact a
 rw[show ∀z:Re,-z* -z=z*z by intro z;grind];exact a
theorem Dj.E5 {D:Re} (h:Dj n br sg) (j:0<n) (c:0<D):br=BU (D*sg):=by
 have f:=Re.GZ (show 0<=n by grind)
 have d:0<Re.sqrt n:=by
  have g:=Re.H8 n;have:Re.sqrt n≠0:=fun z=>by rw[z] at f;grind
  grind
 have:=Re.mul_pos c d;rcases h with⟨rfl,rfl⟩ |⟨rfl,rfl⟩
 ·exact (FH this).symm
 rw[show ∀a b:Re,a* -b= -(a*b) by intro a b;grind];exact (KM (by grind)).symm
theorem Gz (h:br=1\/br= -1):CF 118 [.one (.int .i64 br)] (.one (.bool true)):=by
 rcases h with rfl | rfl
 ·exact Rv
 exact Ru
theorem Io (h:br=1\/br= -1):CF 202 [.one (.int .i64 br)] (.one (.bool true)):=by
 rcases h with rfl | rfl
 ·exact Sv
 exact Su
theorem J8 (F:F9 TT w) (hb:Dj v br sg) (hm:Vm TT w 47000000 km km Ao Aj Av At xm ym) (l:Vm TT w 47000000 kd kd BC BB BG BF xd yd) (d:Nm DE w0 2100 kr T1 A1 v) (c:kr<=K) (m:Rt DE w0 2100 K TT w 47000000 1 v) (h:CF 117 [.agg (CN Ao Aj Av At BC BB BG BF T1 A1)] (.one (.int .i64 0))) (j:kd+km+43<=690:=by omega):∃g f b a,Vm TT w 47000000 (kd+km+3) (kd+km+3) g f b a (xm+xd*sg) (ym+yd*sg)/\CF 120 [.agg (CN Ao Aj Av At BC BB BG BF T1 A1),.one (.int .i64 br)] (.AG [(true,(AH g f b a)),(false,[.int .i64 0])]):=by
 rcases hb with⟨rfl,rfl⟩ |⟨rfl,rfl⟩
 ·exact Rq F hm l d c m h j
 exact Rp F hm l d c m h j
theorem Gy {e:Int} (he:e≠0) (d:CF 117 [.agg (CN T1 A1 T2 A2 T3 A3 T4 A4 T5 A5)] (.one (.int .i64 e))):CF 120 [.agg (CN T1 A1 T2 A2 T3 A3 T4 A4 T5 A5),.one (.int .i64 br)] (.AG [(true,(AH [] [] [] [])),(false,[.int .i64 e])]):=by
 refine Ah Tryz.func120 fun E f=>?_
 conv=>cbv
 refine AB f d ?_;conv=>cbv
 intro c a;conv=>cbv
 cases c <;> conv=>cbv
 ·have b:=DQ a;exact False.elim (by omega)
 have b:=DR a;exact AF ⟨⟨rfl,AJ,AJ,AJ,AJ,trivial⟩,t2,trivial⟩
theorem Rr (cs:CF 118 [.one (.int .i64 br)] (.one (.bool true))) (ca:CF 119 [.agg (AN T6 A6 T7 A7 T8 A8),.agg (AH T3 A3 T4 A4)] (.one (.bool true))) (c:CF 114 [.agg (AN T6 A6 T7 A7 T8 A8),.agg (AH T3 A3 T4 A4),.agg (AN Ta Aa Tb Ab Tc Ac)] (.AG [(true,(CN T1 A1 T2 A2 T3 A3 T4 A4 T5 A5)),(false,[.int .i64 0])])) (b:CF 120 [.agg (CN T1 A1 T2 A2 T3 A3 T4 A4 T5 A5),.one (.int .i64 br)] (.AG [(true,(AH Tx Ax Ty Ay)),(false,[.int .i64 0])])):CF 50 [.agg (AN T6 A6 T7 A7 T8 A8),.agg (AH T3 A3 T4 A4),.agg (AN Ta Aa Tb Ab Tc Ac),.one (.int .i64 br)] (.AG [(true,(AH Tx Ax Ty Ay)),(false,[.int .i64 0])]):=by
 refine Ah Tryz.func50 fun E a=>?_
 conv=>cbv
 refine AB a cs ?_;conv=>cbv
 refine AL ?_;conv=>cbv
 refine AB a ca ?_;conv=>cbv
 refine AL ?_;conv=>cbv
 refine AB a c ?_;conv=>cbv
 refine AL ?_;conv=>cbv
 refine AB a b ?_;conv=>cbv
 exact AF ⟨⟨rfl,rfl,rfl,rfl,rfl,trivial⟩,t2,trivial⟩
theorem Mj {e:Int} (cs:CF 118 [.one (.int .i64 br)] (.one (.bool true))) (ca:CF 119 [.agg (AN T6 A6 T7 A7 T8 A8),.agg (AH T3 A3 T4 A4)] (.one (.bool true))) (c:CF 114 [.agg (AN T6 A6 T7 A7 T8 A8),.agg (AH T3 A3 T4 A4),.agg (AN Ta Aa Tb Ab Tc Ac)] (.AG [(true,(CN T1 A1 T2 A2 T3 A3 T4 A4 T5 A5)),(false,[.int .i64 0])])) (b:CF 120 [.agg (CN T1 A1 T2 A2 T3 A3 T4 A4 T5 A5),.one (.int .i64 br)] (.AG [(true,[AD,AE,AD,AE]),(false,[.int .i64 e])])):CF 50 [.agg (AN T6 A6 T7 A7 T8 A8),.agg (AH T3 A3 T4 A4),.agg (AN Ta Aa Tb Ab Tc Ac),.one (.int .i64 br)] (.AG [(true,(AH [] [] [] [])),(false,[.int .i64 e])]):=by
 refine Ah Tryz.func50 fun E a=>?_
 conv=>cbv
 refine AB a cs ?_;conv=>cbv
 refine AL ?_;conv=>cbv
 refine AB a ca ?_;conv=>cbv
 refine AL ?_;conv=>cbv
 refine AB a c ?_;conv=>cbv
 refine AL ?_;conv=>cbv
 refine AB a b ?_;conv=>cbv
 exact AF ⟨⟨rfl,rfl,rfl,rfl,rfl,trivial⟩,t2,trivial⟩
theorem Me (cs:CF 118 [.one (.int .i64 br)] (.one (.bool true))) (b:CF 115 [.agg (AN T6 A6 T7 A7 T8 A8),.agg (AN Ta Aa Tb Ab Tc Ac)] (.one (.int .i64 0))) (d:CF 116 [.agg (AN T6 A6 T7 A7 T8 A8),.agg (AN Ta Aa Tb Ab Tc Ac)] (.AG [(true,(CN T1 A1 T2 A2 T3 A3 T4 A4 T5 A5)),(false,[.int .i64 0])])) (c:CF 120 [.agg (CN T1 A1 T2 A2 T3 A3 T4 A4 T5 A5),.one (.int .i64 br)] (.AG [(true,(AH Tx Ax Ty Ay)),(false,[.int .i64 0])])):CF 51 [.agg (AN T6 A6 T7 A7 T8 A8),.agg (AN Ta Aa Tb Ab Tc Ac),.one (.int .i64 br)] (.AG [(true,(AH Tx Ax Ty Ay)),(false,[.int .i64 0])]):=by
 refine Ah Tryz.func51 fun E a=>?_
 conv=>cbv
 refine AB a cs ?_;conv=>cbv
 refine AL ?_;conv=>cbv
 refine AB a b ?_;conv=>cbv
 refine AL ?_;conv=>cbv
 refine AB a d ?_;conv=>cbv
 refine AL ?_;conv=>cbv
 refine AB a c ?_;conv=>cbv
 exact AF ⟨⟨rfl,rfl,rfl,rfl,rfl,trivial⟩,t2,trivial⟩
theorem LQ {k e:Int} (cs:CF 202 [.one (.int .i64 br)] (.one (.bool true))) (ca:CF 203 [.agg (AN T6 A6 T7 A7 T8 A8),.agg (AH T3 A3 T4 A4)] (.one (.bool true))) (cx:CF 205 [.agg (AN T6 A6 T7 A7 T8 A8),.agg (AN Ta Aa Tb Ab Tc Ac)] (.one (.int .i64 k))) (b:CF 204 [.one (.int .i64 k)] (.one (.int .i64 e))):CF 122 [.agg (AN T6 A6 T7 A7 T8 A8),.agg (AH T3 A3 T4 A4),.agg (AN Ta Aa Tb Ab Tc Ac),.one (.int .i64 br)] (.one (.int .i64 e)):=by
 refine Ah Tryz.func122 fun E a=>?_
 conv=>cbv
 refine AB a cs ?_;conv=>cbv
 refine AL ?_;conv=>cbv
 refine AB a ca ?_;conv=>cbv
 refine AL ?_;conv=>cbv
 refine AB a cx ?_;conv=>cbv
 refine AB a b ?_;conv=>cbv
 exact AF ⟨t2,trivial⟩
theorem UY (F:F9 TT w) (ha:Nm TT w 47000000 ka Ao Aj va) (hb:Nm TT w 47000000 kb Av At vb) (h:ka+kb+41<=690:=by omega):∃d c,Nm TT w 47000000 (ka+kb+1) d c (va-vb)/\Bp Tryz.prog 130 [.one (.As 0 0 0),.agg (AU Ao Aj),.agg (AU Av At)] (.var 0 [.int .i64 0]) (.agg (AU d c)):=by
 obtain⟨BC,BB,b,f,a⟩:=Dr F ha hb;refine⟨BC,BB,b.mono (by omega),?_⟩;refine CE Tryz.func130 fun E g=>?_
 conv=>cbv
 refine AB g a ?_;conv=>cbv
 refine Ai 0 0 g GF ?_;try conv=>cbv
 refine fun _=>⟨⟨⟨t3,trivial⟩,rfl,by simp⟩,rfl⟩
theorem Iz (F:F9 TT w) (ha:Vm TT w 47000000 ka ka Ao Aj Av At xa ya) (hb:Vm TT w 47000000 kb kb BC BB BG BF xb yb) (l:ka+kb+41<=690:=by omega):∃h g b a,Vm TT w 47000000 (ka+kb+1) (ka+kb+1) h g b a (xa-xb) (ya-yb)/\Bp Tryz.prog 129 [.one (.As 0 0 0),.agg (AH Ao Aj Av At),.agg (AH BC BB BG BF)] (.var 0 [.int .i64 0]) (.agg (AH h g b a)):=by
 obtain⟨BQ,BP,Bb,Ba,d,c⟩:=Hj F ha hb;have f:=d.cast (x':=xa-xb) (y':=ya-yb) (by grind) (by grind);refine⟨BQ,BP,Bb,Ba,f.mono (by omega) (by omega),?_⟩;refine CE Tryz.func129 fun E j=>?_
 conv=>cbv
 refine AB j c ?_;conv=>cbv
 refine Ai 0 0 j PF ?_;try conv=>cbv
 refine fun _=>⟨⟨⟨⟨rfl,rfl,rfl,rfl,rfl,trivial⟩,trivial⟩,rfl,by simp⟩,rfl⟩
theorem UX (F:F9 TT w) (ha:Vm TT w 47000000 ka ka Ao Aj Av At xa ya) (g:2*ka+42<=690:=by omega):∃d c,Nm TT w 47000000 (4*ka+3) d c (xa*xa+ya*ya)/\Bp Tryz.prog 134 [.one (.As 0 0 0),.agg (AH Ao Aj Av At)] (.var 0 [.int .i64 0]) (.agg (AU d c)):=by
 obtain⟨BC,BB,b,a⟩:=Pe F ha;refine⟨BC,BB,b.mono (by omega),?_⟩;refine CE Tryz.func134 fun E f=>?_
 conv=>cbv
 refine AB f a ?_;conv=>cbv
 refine Ai 0 0 f GF ?_;try conv=>cbv
 refine fun _=>⟨⟨⟨t3,trivial⟩,rfl,by simp⟩,rfl⟩
theorem US (F:F9 TT w) (ha:Vm TT w 47000000 ka ka Ao Aj Av At xa ya) (hb:Vm TT w 47000000 kb kb BC BB BG BF xb yb) (g:ka+kb+42<=690:=by omega):∃d c,Nm TT w 47000000 (2*ka+2*kb+3) d c (xa*xb+ya*yb)/\Bp Tryz.prog 217 [.one (.As 0 0 0),.agg (AH Ao Aj Av At),.agg (AH BC BB BG BF)] (.var 0 [.int .i64 0]) (.agg (AU d c)):=by
 obtain⟨BQ,BP,b,a⟩:=Pc F ha hb;refine⟨BQ,BP,b.mono (by omega),?_⟩;refine CE Tryz.func217 fun E f=>?_
 conv=>cbv
 refine AB f a ?_;conv=>cbv
 refine Ai 0 0 f GF ?_;try conv=>cbv
 refine fun _=>⟨⟨⟨t3,trivial⟩,rfl,by simp⟩,rfl⟩
theorem UR (F:F9 TT w) (ha:Vm TT w 47000000 ka ka Ao Aj Av At xa ya) (hb:Vm TT w 47000000 kb kb BC BB BG BF xb yb) (h:ka+kb+42<=690:=by omega):∃f d,Nm TT w 47000000 (2*ka+2*kb+3) f d (xa*yb-ya*xb)/\Bp Tryz.prog 128 [.one (.As 0 0 0),.agg (AH Ao Aj Av At),.agg (AH BC BB BG BF)] (.var 0 [.int .i64 0]) (.agg (AU f d)):=by
 obtain⟨BQ,BP,b,a⟩:=bW F ha hb;have c:=b.cast (y:=xa*yb-ya*xb) (by grind);refine⟨BQ,BP,c.mono (by omega),?_⟩;refine CE Tryz.func128 fun E g=>?_
 conv=>cbv
 refine AB g a ?_;conv=>cbv
 refine Ai 0 0 g GF ?_;try conv=>cbv
 refine fun _=>⟨⟨⟨t3,trivial⟩,rfl,by simp⟩,rfl⟩
theorem UT (F:F9 TT w) (ha:Vm TT w 47000000 ka ka Ao Aj Av At xa ya) (hb:Vm TT w 47000000 kb kb BC BB BG BF xb yb) (j:2*ka+2*kb+44<=690:=by omega):∃g f,Nm TT w 47000000 (4*ka+4*kb+7) g f ((xa-xb)*(xa-xb)+(ya-yb)*(ya-yb))/\Bp Tryz.prog 140 [.one (.As 0 0 0),.agg (AH Ao Aj Av At),.agg (AH BC BB BG BF)] (.var 0 [.int .i64 0]) (.agg (AU g f)):=by
 obtain⟨Bb,Ba,Db,DV,c,a⟩:=Iz F ha hb;obtain⟨C3,C2,d,b⟩:=UX F c;refine⟨C3,C2,d.mono (by omega),?_⟩;refine CE Tryz.func140 fun E h=>?_
 conv=>cbv
 refine Ai 0 0 h a ?_;try conv=>cbv
 refine Ai 0 0 h b ?_;try conv=>cbv
 refine fun _=>⟨⟨⟨t3,trivial⟩,rfl,by simp⟩,rfl⟩
theorem UU (F:F9 TT w) (j:Vm TT w 47000000 ko ko Ao Aj Av At xo yo) (l:Nm TT w 47000000 ks BC BB vs) (ha:Vm TT w 47000000 ka ka BG BF BQ BP xa ya) (m:4*ka+4*ko+ks+48<=690:=by omega):∃g f,Nm TT w 47000000 (4*ka+4*ko+ks+8) g f (((xo-xa)*(xo-xa)+(yo-ya)*(yo-ya))-vs)/\CF 195 [.agg (AN Ao Aj Av At BC BB),.agg (AH BG BF BQ BP)] (.AG [(true,(AU g f)),(false,[.int .i64 0])]):=by
 obtain⟨Db,DV,c,a⟩:=UT F j ha;obtain⟨C3,C2,d,b⟩:=UY F c l;refine⟨C3,C2,d.mono (by omega),?_⟩;refine Ah Tryz.func195 fun E h=>?_
 conv=>cbv
 refine Ai 9 1 h a ?_;try conv=>cbv
 refine Ai 9 1 h b ?_;try conv=>cbv
 refine Bg ?_;refine AL ?_;conv=>cbv
 exact AF ⟨t3,t2,trivial⟩
theorem UW (F:F9 TT w) (l:Vm TT w 47000000 ko ko Ao Aj Av At xo yo) (m:Nm TT w 47000000 ks BC BB vs) (ha:Vm TT w 47000000 ka ka BG BF BQ BP xa ya) (g:sn=BU ((xo-xa)*(xo-xa)+(yo-ya)*(yo-ya)-vs)) (o:4*ka+4*ko+ks+49<=690:=by omega):CF 112 [.agg (AN Ao Aj Av At BC BB),.agg (AH BG BF BQ BP)] (.AG [(false,[.int .i64 sn]),(false,[.int .i64 0])]):=by
 obtain⟨Db,DV,d,b⟩:=UU F l m ha;obtain⟨f,a,h,c⟩:=Dh F d;obtain rfl:sn=f:=(g.symm).symm.trans a.symm;refine Ah Tryz.func112 fun E j=>?_
 conv=>cbv
 refine AB j b ?_;conv=>cbv
 refine AL ?_;conv=>cbv
 refine AB j c ?_;conv=>cbv
 exact AF ⟨t2,t2,trivial⟩
theorem oz (F:F9 TT w) (ha:Nm TT w 47000000 1 Ao Aj va) (hb:Nm TT w 47000000 kb Av At vb) (hc:Nm TT w 47000000 kc BC BB vc) (b:Vm TT w 47000000 kx kx BG BF BQ BP xx yx) (he:e=true↔va*xx+vb*yx=vc) (c:2*kb+2*kc+4*kx+171<=690):CF 45 [(CJ Ao Aj Av At BC BB T1 A1 T2 A2),.agg (AH BG BF BQ BP)] (.one (.bool e)):=by
 refine Ah Tryz.func45 fun E a=>?_
 conv=>cbv
 refine .inr ?_;refine Aw ?_;conv=>cbv
 refine AB a (lOn F ⟨ha,hb,hc⟩ b (by omega) (by omega) he) ?_;conv=>cbv
 exact AF ⟨t2,trivial⟩
theorem Mx (F:F9 TT w) (ha:Nm TT w 47000000 1 Ao Aj va) (hb:Nm TT w 47000000 kb Av At vb) (hc:Nm TT w 47000000 kc BC BB vc) (b:Vm TT w 47000000 kx kx BG BF BQ BP xx yx) (he:e=true↔va*xx+vb*yx=vc) (c:kb+kc+2*kx+48<=690:=by omega):CF 46 [(CJ Ao Aj Av At BC BB T1 A1 T2 A2),.agg (AH BG BF BQ BP)] (.one (.bool e)):=by
 refine Ah Tryz.func46 fun E a=>?_
 conv=>cbv
 refine .inr ?_;refine Aw ?_;conv=>cbv
 refine AB a (ZP F ⟨ha,hb,hc⟩ b (by omega) he) ?_;conv=>cbv
 exact AF ⟨t2,trivial⟩
theorem oy (F:F9 TT w) (m:Vm TT w 47000000 ko ko Ao Aj Av At xo yo) (o:Nm TT w 47000000 ks BC BB vs) (q:Vm TT w 47000000 kx kx BG BF BQ BP xx yx) (he:e=true↔(xx-xo)*(xx-xo)+(yx-yo)*(yx-yo)=vs) (r:8*ko+2*ks+8*kx+177<=690):CF 45 [(B4 Ao Aj Av At BC BB),.agg (AH BG BF BQ BP)] (.one (.bool e)):=by
 obtain⟨Bb,Ba,Db,DV,g,c⟩:=Ix F q m;obtain⟨Ey,Ew,h,d⟩:=IB F g;obtain⟨b,a,f,l⟩:=Fp F h o;obtain rfl:e=b:=Bool.eq_iff_iff.2 (he.trans a.symm);refine Ah Tryz.func45 fun E j=>?_
 conv=>cbv
 refine .inr ?_;refine AL ?_;conv=>cbv
 refine AL ?_;conv=>cbv
 refine Aw ?_;conv=>cbv
 refine AB j c ?_;conv=>cbv
 refine Ai 24 1 j F2 ?_;try conv=>cbv
 refine AB j d ?_;conv=>cbv
 refine Ai 24 1 j C0 ?_;try conv=>cbv
 refine Aw ?_;conv=>cbv
 refine AB j f ?_;conv=>cbv
 exact AF ⟨t2,trivial⟩
theorem KJ (F:F9 TT w) (d:Vm TT w 47000000 ko ko Ao Aj Av At xo yo) (f:Nm TT w 47000000 ks BC BB vs) (g:Vm TT w 47000000 kx kx BG BF BQ BP xx yx) (he:e=true↔(xx-xo)*(xx-xo)+(yx-yo)*(yx-yo)=vs) (l:4*ko+ks+4*kx+49<=690:=by omega):CF 46 [(B4 Ao Aj Av At BC BB),.agg (AH BG BF BQ BP)] (.one (.bool e)):=by
 obtain⟨sn,a⟩:∃z,z=BU ((xo-xx)*(xo-xx)+(yo-yx)*(yo-yx)-vs):=⟨_,rfl⟩
 refine Ah Tryz.func46 fun E c=>?_
 conv=>cbv
 refine .inr ?_;refine AL ?_;conv=>cbv
 refine Aw ?_;conv=>cbv
 refine AB c (UW F d f g a) ?_;conv=>cbv
 refine Aw ?_;conv=>cbv
 intro j b;conv=>cbv
 exact AF ⟨⟨rfl,congrArg _ (by rw[Bool.eq_iff_iff,he,b,beq_iff_eq,a,GX];constructor <;> intro h <;> grind),trivial⟩,trivial⟩
theorem o0 (F:F9 TT w) {xp yp:Re} {kp:Nat} (b:Vm TT w 47000000 kp kp Ao Aj Av At xp yp) (c:Vm TT w 47000000 kx kx BC BB BG BF xx yx) (he:e=true↔xp=xx/\yp=yx) (d:2*kp+2*kx+163<=690):CF 45 [(oZ Ao Aj Av At),.agg (AH BC BB BG BF)] (.one (.bool e)):=by
 refine Ah Tryz.func45 fun E a=>?_
 conv=>cbv
 refine .inr ?_;refine AL ?_;conv=>cbv
 refine Aw ?_;conv=>cbv
 refine AB a (Ln F b c (by omega) (by omega) (by omega) (by omega) he) ?_;conv=>cbv
 exact AF ⟨t2,trivial⟩
theorem Pb (F:F9 TT w) (D:Vm TT w 47000000 ko ko Ao Aj Av At xo yo) (ha:Vm TT w 47000000 ka ka BC BB BG BF xa ya) (G:Vm TT w 47000000 kx kx BQ BP Bb Ba xx yx) (o:sn=BU ((xa-xo)*(yx-yo)-(ya-yo)*(xx-xo))) (H:2*ka+4*ko+2*kx+48<=690):CF 55 [.agg (AH Ao Aj Av At),.agg (AH BC BB BG BF),.agg (AH BQ BP Bb Ba)] (.one (.int .i64 sn)):=by
 obtain⟨Ey,Ew,C3,C2,g,b⟩:=Iz F ha D;obtain⟨z,q,A,r,h,c⟩:=Iz F G D;obtain⟨B,u,j,d⟩:=UR F g h;obtain⟨l,a,C,f⟩:=Dh F j;obtain rfl:sn=l:=(o.symm).symm.trans a.symm;refine Ah Tryz.func55 fun E m=>?_
 conv=>cbv
 refine Ai 9 1 m b ?_;try conv=>cbv
 refine Ai 9 1 m c ?_;try conv=>cbv
 refine Ai 9 1 m d ?_;try conv=>cbv
 refine Ai 9 1 m (Ha f) ?_;try conv=>cbv
 refine Bg ?_;exact AF ⟨t2,trivial⟩
theorem UQ (F:F9 TT w) (r:Vm TT w 47000000 kd kd Ao Aj Av At xd yd) (u:Vm TT w 47000000 ko ko BC BB BG BF xo yo) (z:Vm TT w 47000000 kx kx BQ BP Bb Ba xx yx) (l:sn=BU (xd*(xx-xo)+yd*(yx-yo))) (A:2*kd+2*ko+2*kx+46<=690:=by omega):CF 141 [.agg (AH Ao Aj Av At),.agg (AH BC BB BG BF),.agg (AH BQ BP Bb Ba)] (.one (.int .i64 sn)):=by
 obtain⟨Ey,Ew,C3,C2,f,b⟩:=Iz F z u;obtain⟨o,m,g,c⟩:=US F r f;obtain⟨h,a,q,d⟩:=Dh F g;obtain rfl:sn=h:=(l.symm).symm.trans a.symm;refine Ah Tryz.func141 fun E j=>?_
 conv=>cbv
 refine Ai 9 1 j b ?_;try conv=>cbv
 refine Ai 9 1 j c ?_;try conv=>cbv
 refine Ai 9 1 j (Ha d) ?_;try conv=>cbv
 refine Bg ?_;exact AF ⟨t2,trivial⟩
end Go.Abs
namespace Go.Abs
open Go.RowKit
structure DD (TT:List (List Rat)->Prop) (w:List (List Rat)) (T1:List LR) (A1:LR) (T2:List LR) (A2:LR) (T3:List LR) (A3:LR) (T4:List LR) (A4:LR) (T5:List LR) (A5:LR) (al be ga xd yd xp yp i:Re):Prop where
 l:DY TT w 2100 999 1083 T1 A1 T2 A2 T3 A3 al be ga
 d:Vm TT w 2100 41 41 T4 A4 T5 A5 xd yd
 p:∃T A T' A',Vm TT w 2100 20 20 T A T' A' xp yp
 nz:¬(xd=0/\yd=0)
 one:al=1\/al=0/\be=1
 ha:al= -yd*i
 hb:be=xd*i
 hc:ga=(-yd*xp+xd*yp)*i
structure DL (TT:List (List Rat)->Prop) (w:List (List Rat)) (T1:List LR) (A1:LR) (T2:List LR) (A2:LR) (T3:List LR) (A3:LR) (xo yo s:Re):Prop where
 o:Vm TT w 2100 20 20 T1 A1 T2 A2 xo yo
 s:Nm TT w 2100 167 T3 A3 s
def GM (DE:List (List Rat)->Prop) (w0:List (List Rat)) (TT:List (List Rat)->Prop) (w:List (List Rat)):Prop:=∀{k:Nat} {T:List LR} {A:LR} {x:Re},k<=22380->Nm DE w0 2100 k T A x->Nm TT w 47000000 1 T A x
variable {A1 A2 A3 A4 A5 Aa Ab Ac Ad Ae Af:LR} {P TT DE:List (List Rat)->Prop} {T1 T2 T3 T4 T5 Ta Tb Tc Td Te Df:List LR} {V:List Re} {al be ga i s t x x1 x2 xa xd xo xp y y1 y2 ya yd yo yp:Re} {k:Nat} {w w0:List (List Rat)}
theorem GM.v {k':Nat} (U:GM DE w0 TT w) (b:k<=22380) (a:k'<=22380) (h:Vm DE w0 2100 k k' T1 A1 T2 A2 x y):Vm TT w 47000000 1 1 T1 A1 T2 A2 x y:=⟨U b h.x,U a h.y⟩
theorem LX (L:Pl P V w0) {T:List LR} {A:LR} {n:Re} (c:Nm (Tf P) w0 2100 k T A n) (a:k<=22047) (b:0<n):∃TT w,F9 TT w/\GM (Tf P) w0 TT w/\Rt (Tf P) w0 2100 22047 TT w 47000000 1 n:=by
 obtain⟨TT,w,F,U,R⟩:=Ye L c a (by decide) b;exact⟨TT,w,F,fun a h=>U (by omega) h,R⟩
theorem kM (L:Pl P V w0) (b:∀{r u},P (r::u)->u=[]):∃TT w,F9 TT w/\GM (Tf P) w0 TT w:=by
 have a:Nm (Tf P) w0 2100 1 [] (em [] (Re.ofRat 1)) (Re.ofRat 1):=HX (L.fl b) (by decide) (G8 (by decide +kernel));obtain⟨TT,w,F,U,_⟩:=LX L a (by decide) (show (0:Re)<1 by grind);exact⟨TT,w,F,U⟩
theorem DD.ni (h:DD TT w0 T1 A1 T2 A2 T3 A3 T4 A4 T5 A5 al be ga xd yd xp yp i):i≠0:=fun e=>Mp h.one ⟨by rw[h.ha,e];grind,by rw[h.hb,e];grind⟩
theorem DD.up (U:GM DE w0 TT w) (h:DD DE w0 T1 A1 T2 A2 T3 A3 T4 A4 T5 A5 al be ga xd yd xp yp i):DY TT w 47000000 1 1 T1 A1 T2 A2 T3 A3 al be ga:=⟨U (by decide) h.l.x,U (by decide) h.l.y,U (by decide) h.l.z⟩
theorem H7 (h:¬(x=0/\y=0)):0<x*x+y*y:=by
 have a:=KO h;have b:=aQ x y
 grind
noncomputable abbrev Cu (xd yd xo yo xp yp:Re):Re:=(-yd*(xo-xp)+xd*(yo-yp))*AT (xd*xd+yd*yd)
noncomputable abbrev B7 (xd yd xo yo xp yp s:Re):Re:=(s-(xd*xd+yd*yd)*((-yd*(xo-xp)+xd*(yo-yp))*AT (xd*xd+yd*yd))*((-yd*(xo-xp)+xd*(yo-yp))*AT (xd*xd+yd*yd)))*AT (xd*xd+yd*yd)
theorem J3 (L:Pl P V w0) (M:∀{r u},P (r::u)->u=[]) (h:DD (Tf P) w0 T1 A1 T2 A2 T3 A3 T4 A4 T5 A5 al be ga xd yd xp yp i) (o:DL (Tf P) w0 Ta Aa Tb Ab Tc Ac xo yo s):∃Tm Am Tk Ak j g,Vm (Tf P) w0 2100 4086 4086 Tm Am Tk Ak (xo- -yd*(Cu xd yd xo yo xp yp)) (yo-xd*(Cu xd yd xo yo xp yp))/\Nm (Tf P) w0 2100 13000 j g (B7 xd yd xo yo xp yp s)/\CF 114 [.agg (AN T1 A1 T2 A2 T3 A3),.agg (AH T4 A4 T5 A5),.agg (AN Ta Aa Tb Ab Tc Ac)] (.AG [(true,(CN Tm Am Tk Ak T4 A4 T5 A5 j g)),(false,[.int .i64 0])])/\CF 205 [.agg (AN T1 A1 T2 A2 T3 A3),.agg (AN Ta Aa Tb Ab Tc Ac)] (.one (.int .i64 (BU (B7 xd yd xo yo xp yp s)))):=by
 have F:=L.fl M;have J:=H7 h.nz;have f:xd*xd+yd*yd≠0:=by grind
 have b:=Mp h.one;have a: -yd* -yd+xd*xd=xd*xd+yd*yd:=by grind
 obtain⟨f1,f2⟩:=Q3 (x:=xo) (y:=yo) h.ni a f h.ha h.hb h.hc;have f3:=XI (x:=xo) (y:=yo) h.ni a f h.ha h.hb h.hc;obtain⟨_,_,_,_,R⟩:=h.p;obtain⟨_,_,_,_,k1,_⟩:=Ix F o.o R;obtain⟨_,k0,_⟩:=H3 F h.d.y;obtain⟨_,_,k2,_⟩:=DA F k0 k1.x;obtain⟨_,_,S,_⟩:=DA F h.d.x k1.y;obtain⟨_,_,T,_⟩:=FZ F k2 S;obtain⟨_,_,G,_⟩:=IB F h.d;obtain⟨_,_,m,_⟩:=Fa F T G (d:=3855) (by decide) f;obtain⟨_,_,U,_⟩:=DA F k0 m;obtain⟨_,_,W,_⟩:=DA F h.d.x m;obtain⟨_,_,Y,_⟩:=Dr F o.o.x U;obtain⟨_,_,q,_⟩:=Dr F o.o.y W;have N:Vm (Tf P) w0 2100 4086 4086 _ _ _ _ _ _:=⟨Y.mono (by decide),q.mono (by decide)⟩
 obtain⟨_,_,A,_⟩:=DA F G m;obtain⟨_,_,B,_⟩:=DA F A m;obtain⟨_,_,C,_⟩:=Dr F o.s B;obtain⟨_,_,D,_⟩:=Fa F C G (d:=3855) (by decide) f;have O:=D.mono (l:=13000) (by decide);have H:∀z:Re,z*Re.ofRat ((1:Int):Rat)=z:=fun z=>by rw[show Re.ofRat ((1:Int):Rat)=1 from rfl];grind
 obtain⟨Tm,Am,Tk,Ak,j,g,gf,I,c⟩:=Rs F h.l.x h.l.y h.l.z h.d o.o o.s N O b (by rw[H];unfold EH;rw[f1]) (by rw[H];unfold EH;rw[f2]) f (by
  congr 2
  generalize ((-yd*(xo-xp)+xd*(yo-yp))*AT (xd*xd+yd*yd))=e
  grind) (by decide)
 exact⟨Tm,Am,Tk,Ak,j,g,gf,I,c,Sh F h.l.x h.l.y h.l.z o.o o.s b (by unfold B7;rw[f3,PI J])⟩
theorem J4 (L:Pl P V w0) (j:∀{r u},P (r::u)->u=[]) (h:DD (Tf P) w0 T1 A1 T2 A2 T3 A3 T4 A4 T5 A5 al be ga xd yd xp yp i) (o:DL (Tf P) w0 Ta Aa Tb Ab Tc Ac xo yo s) (a:0<(B7 xd yd xo yo xp yp s)):∃TT w,F9 TT w/\GM (Tf P) w0 TT w/\∀{br:Int} {sg:Re},Dj (B7 xd yd xo yo xp yp s) br sg->∃Tx Ax Ty Ay,Vm TT w 47000000 5 5 Tx Ax Ty Ay (xo- -yd*(Cu xd yd xo yo xp yp)+xd*sg) (yo-xd*(Cu xd yd xo yo xp yp)+yd*sg)/\CF 50 [.agg (AN T1 A1 T2 A2 T3 A3),.agg (AH T4 A4 T5 A5),.agg (AN Ta Aa Tb Ab Tc Ac),.one (.int .i64 br)] (.AG [(true,(AH Tx Ax Ty Ay)),(false,[.int .i64 0])])/\CF 46 [CJ T1 A1 T2 A2 T3 A3 T4 A4 T5 A5,.agg (AH Tx Ax Ty Ay)] (.one (.bool true))/\CF 46 [B4 Ta Aa Tb Ab Tc Ac,.agg (AH Tx Ax Ty Ay)] (.one (.bool true))/\CF 141 [.agg (AH T4 A4 T5 A5),.agg (AH Ta Aa Tb Ab),.agg (AH Tx Ax Ty Ay)] (.one (.int .i64 br)):=by
 have F:=L.fl j;obtain⟨Tm,Am,Tk,Ak,C,B,A,g,c,_⟩:=J3 L j h o;have q:=H7 h.nz;have m:xd*xd+yd*yd≠0:=by grind
 have f:al*xd+be*yd=0:=by rw[h.ha,h.hb];grind
 obtain⟨TT,w,F9,U,Rt⟩:=LX L g (by decide) a;refine⟨TT,w,F9,U,fun {br sg} hb=>?_⟩;obtain⟨Tx,Ax,Ty,Ay,b,cx⟩:=J8 F9 hb (U.v (by decide) (by decide) A) (U.v (by decide) (by decide) h.d) g (by decide) Rt (J9 F g (FH a));have ul:=h.up U;exact⟨Tx,Ax,Ty,Ay,b,Rr (Gz hb.one) (Ia F h.l.x h.l.y h.l.z h.d f h.nz) c cx,Mx F9 ul.x ul.y ul.z b (e:=true) ⟨fun _=>XE rfl m h.ha h.hb h.hc,fun _=>rfl⟩,KJ F9 (U.v (by decide) (by decide) o.o) (U (by decide) o.s) b (e:=true) ⟨fun _=>XD rfl (Qt m) (hb.sq a),fun _=>rfl⟩,UQ F9 (U.v (by decide) (by decide) h.d) (U.v (by decide) (by decide) o.o) b (by rw[XF rfl];exact hb.E5 a q)⟩
theorem IZ (L:Pl P V w0) (m:∀{r u},P (r::u)->u=[]) (h:DD (Tf P) w0 T1 A1 T2 A2 T3 A3 T4 A4 T5 A5 al be ga xd yd xp yp i) (o:DL (Tf P) w0 Ta Aa Tb Ab Tc Ac xo yo s) (A:¬0<(B7 xd yd xo yo xp yp s)):∃e,e≠0/\(e=12/\(B7 xd yd xo yo xp yp s)=0\/e=7/\(B7 xd yd xo yo xp yp s)<0)/\∀br:Int,br=1\/br= -1->CF 50 [.agg (AN T1 A1 T2 A2 T3 A3),.agg (AH T4 A4 T5 A5),.agg (AN Ta Aa Tb Ab Tc Ac),.one (.int .i64 br)] (.AG [(true,(AH [] [] [] [])),(false,[.int .i64 e])])/\CF 122 [.agg (AN T1 A1 T2 A2 T3 A3),.agg (AH T4 A4 T5 A5),.agg (AN Ta Aa Tb Ab Tc Ac),.one (.int .i64 br)] (.one (.int .i64 e)):=by
 have F:=L.fl m;obtain⟨Tm,Am,Tk,Ak,C,B,D,q,c,b⟩:=J3 L m h o;have a:al*xd+be*yd=0:=by rw[h.ha,h.hb];grind
 have g:=Ia F h.l.x h.l.y h.l.z h.d a h.nz;have j:=O3 F h.l.x h.l.y h.l.z h.d a h.nz;rcases Fb (B7 xd yd xo yo xp yp s) with⟨f,e⟩ |⟨f,e⟩ |⟨e,_⟩
 ·rw[e] at b;refine⟨7,by decide,.inr ⟨rfl,f⟩,fun br hb=>?_⟩;exact⟨Mj (Gz hb) g c (Gy (by decide) (KB F q e)),LQ (Io hb) j b Mv⟩
 ·rw[e] at b;refine⟨12,by decide,.inl ⟨rfl,f⟩,fun br hb=>?_⟩;exact⟨Mj (Gz hb) g c (Gy (by decide) (KA F q e)),LQ (Io hb) j b Mu⟩
 exact absurd e A
noncomputable abbrev CB (xo yo xa ya s t:Re):Re:=(((xa-xo)*(xa-xo)+(ya-yo)*(ya-yo))+s-t)*AT (((xa-xo)*(xa-xo)+(ya-yo)*(ya-yo))+((xa-xo)*(xa-xo)+(ya-yo)*(ya-yo)))
noncomputable abbrev CO (xo yo xa ya s t:Re):Re:=s*AT ((xa-xo)*(xa-xo)+(ya-yo)*(ya-yo))-(CB xo yo xa ya s t)*(CB xo yo xa ya s t)
theorem JB (L:Pl P V w0) (D:∀{r u},P (r::u)->u=[]) (o:DL (Tf P) w0 Ta Aa Tb Ab Tc Ac xo yo s) (a:DL (Tf P) w0 Td Ad Te Ae Df Af xa ya t) (C:¬(xo=xa/\yo=ya)):∃Tm Am Tk Ak Tp Ap Tq Aq f b,Vm (Tf P) w0 2100 8300 8300 Tm Am Tk Ak (xo+(xa-xo)*(CB xo yo xa ya s t)) (yo+(ya-yo)*(CB xo yo xa ya s t))/\Vm (Tf P) w0 2100 41 41 Tp Ap Tq Aq (-(ya-yo)) (xa-xo)/\Nm (Tf P) w0 2100 20500 f b (CO xo yo xa ya s t)/\CF 116 [.agg (AN Ta Aa Tb Ab Tc Ac),.agg (AN Td Ad Te Ae Df Af)] (.AG [(true,(CN Tm Am Tk Ak Tp Ap Tq Aq f b)),(false,[.int .i64 0])])/\CF 207 [.agg (AN Ta Aa Tb Ab Tc Ac),.agg (AN Td Ad Te Ae Df Af)] (.one (.int .i64 (BU (CO xo yo xa ya s t)))):=by
 have F:=L.fl D;have O:0<((xa-xo)*(xa-xo)+(ya-yo)*(ya-yo)):=H7 (fun z=>C ⟨by have:=z.1;grind,by have:=z.2;grind⟩);have g:((xa-xo)*(xa-xo)+(ya-yo)*(ya-yo))≠0:=by grind
 have h:((xa-xo)*(xa-xo)+(ya-yo)*(ya-yo))+((xa-xo)*(xa-xo)+(ya-yo)*(ya-yo))≠0:=O6 g;obtain⟨_,_,_,_,k1,_⟩:=Ix F a.o o.o;obtain⟨_,_,k2,_⟩:=IB F k1;obtain⟨_,_,G,_⟩:=FZ F k2 o.s;obtain⟨_,_,H,_⟩:=Dr F G a.s;obtain⟨_,_,I,_⟩:=FZ F k2 k2;obtain⟨_,_,q,_⟩:=Fa F H I (d:=7719) (by decide) h;obtain⟨_,_,_,_,J,_⟩:=IA F k1 q;obtain⟨_,_,_,_,M,_⟩:=Iw F o.o J;obtain⟨_,_,N,_⟩:=Fa F o.s k2 (d:=3855) (by decide) g;obtain⟨_,_,j,_⟩:=DA F q q;obtain⟨_,_,m,_⟩:=Dr F N j;obtain⟨Tm,Am,Tk,Ak,Tp,Ap,Tq,Aq,f,b,gf,A,B,c⟩:=Mg F o.o o.s a.o a.s (M.mono (l:=8300) (l':=8300) (by decide) (by decide)) (m.mono (l:=20500) (by decide)) g rfl rfl rfl
 refine⟨Tm,Am,Tk,Ak,Tp,Ap,Tq,Aq,f,b,gf,A.mono (by decide) (by decide),B,c,Sr F o.o o.s a.o a.s ?_ (by decide)⟩;unfold CO CB;rw[Y7 g,PI (Re.mul_pos (show 0<((xa-xo)*(xa-xo)+(ya-yo)*(ya-yo))+((xa-xo)*(xa-xo)+(ya-yo)*(ya-yo)) by grind) (show 0<((xa-xo)*(xa-xo)+(ya-yo)*(ya-yo))+((xa-xo)*(xa-xo)+(ya-yo)*(ya-yo)) by grind)),show Re.ofRat ((4:Int):Rat)=1+1+1+1 by simp only[show (1:Re)=Re.ofRat 1 from rfl,<-Re.ofRat_add];exact congrArg Re.ofRat (by decide +kernel),show (xo-xa)*(xo-xa)+(yo-ya)*(yo-ya)=((xa-xo)*(xa-xo)+(ya-yo)*(ya-yo)) by grind]
theorem MG (L:Pl P V w0) (A:∀{r u},P (r::u)->u=[]) (o:DL (Tf P) w0 Ta Aa Tb Ab Tc Ac xo yo s) (a:DL (Tf P) w0 Td Ad Te Ae Df Af xa ya t) (j:¬(xo=xa/\yo=ya)) (d:0<(CO xo yo xa ya s t)):∃TT w,F9 TT w/\GM (Tf P) w0 TT w/\∀{br:Int} {sg:Re},Dj (CO xo yo xa ya s t) br sg->∃Tx Ax Ty Ay Tz Az Tu Au,Vm TT w 47000000 5 5 Tx Ax Ty Ay ((xo+(xa-xo)*(CB xo yo xa ya s t))+ -(ya-yo)*sg) ((yo+(ya-yo)*(CB xo yo xa ya s t))+(xa-xo)*sg)/\CF 51 [.agg (AN Ta Aa Tb Ab Tc Ac),.agg (AN Td Ad Te Ae Df Af),.one (.int .i64 br)] (.AG [(true,(AH Tx Ax Ty Ay)),(false,[.int .i64 0])])/\CF 51 [.agg (AN Td Ad Te Ae Df Af),.agg (AN Ta Aa Tb Ab Tc Ac),.one (.int .i64 (-br))] (.AG [(true,(AH Tz Az Tu Au)),(false,[.int .i64 0])])/\CF 26 [.agg (AH Tx Ax Ty Ay),.agg (AH Tz Az Tu Au)] (.one (.bool true))/\CF 46 [B4 Ta Aa Tb Ab Tc Ac,.agg (AH Tx Ax Ty Ay)] (.one (.bool true))/\CF 46 [B4 Td Ad Te Ae Df Af,.agg (AH Tx Ax Ty Ay)] (.one (.bool true))/\CF 55 [.agg (AH Ta Aa Tb Ab),.agg (AH Td Ad Te Ae),.agg (AH Tx Ax Ty Ay)] (.one (.int .i64 br)):=by
 have F:=L.fl A;have W:0<((xa-xo)*(xa-xo)+(ya-yo)*(ya-yo)):=H7 (fun z=>j ⟨by have:=z.1;grind,by have:=z.2;grind⟩);have b:((xa-xo)*(xa-xo)+(ya-yo)*(ya-yo))≠0:=by grind
 obtain⟨Tm,Am,Tk,Ak,Tp,Ap,Tq,Aq,Tn,Z,gf,T,h,c,_⟩:=JB L A o a j;have e2:(xo-xa)*(xo-xa)+(yo-ya)*(yo-ya)=((xa-xo)*(xa-xo)+(ya-yo)*(ya-yo)):=by grind
 obtain⟨J,C,I,B,N,G,O,H,M,D,m,q,f,R⟩:=Mg F a.o a.s o.o o.s gf h (by rw[e2];exact b) (by rw[e2,MH b];grind) (by rw[e2,MH b];grind) (by rw[e2];exact N2 b);obtain⟨TT,w,F9,U,Rt⟩:=LX L h (by decide) d;refine⟨TT,w,F9,U,fun {br sg} hb=>?_⟩;obtain⟨Tx,Ax,Ty,Ay,g,cx⟩:=J8 F9 hb (U.v (by decide) (by decide) gf) (U.v (by decide) (by decide) T) h (by decide) Rt (J9 F h (FH d));obtain⟨Tz,Az,Tu,Au,Y,S⟩:=J8 F9 hb.neg (U.v (by decide) (by decide) m) (U.v (by decide) (by decide) (q.mono (l:=41) (l':=41) (by decide) (by decide))) f (by decide) Rt (J9 F f (FH d));refine⟨Tx,Ax,Ty,Ay,Tz,Az,Tu,Au,g,Me (Gz hb.one) (Ie F o.o o.s a.o a.s j) c cx,Me (Gz hb.neg.one) (Ie F a.o a.s o.o o.s (fun z=>j ⟨z.1.symm,z.2.symm⟩)) R S,DU F9 g Y (by decide) (by decide) (by decide) (by decide) (e:=true) ⟨fun _=>⟨by grind,by grind⟩,fun _=>rfl⟩,KJ F9 (U.v (by decide) (by decide) o.o) (U (by decide) o.s) g (e:=true) ⟨fun _=>?_,fun _=>rfl⟩,KJ F9 (U.v (by decide) (by decide) a.o) (U (by decide) a.s) g (e:=true) ⟨fun _=>?_,fun _=>rfl⟩,Pb F9 (U.v (by decide) (by decide) o.o) (U.v (by decide) (by decide) a.o) g ?_ (by decide)⟩
 ·exact (show _=_ by grind).trans (Qc (t:=t) (u:=xa-xo) (v:=ya-yo) (p:=(CB xo yo xa ya s t)) (r:=sg) rfl b rfl (hb.sq d))
 ·exact (show _=_ by grind).trans (WM (u:=xa-xo) (v:=ya-yo) (p:=(CB xo yo xa ya s t)) (r:=sg) rfl b (Qe b) rfl (hb.sq d))
 rw[show (xa-xo)*(((yo+(ya-yo)*(CB xo yo xa ya s t))+(xa-xo)*sg)-yo)-(ya-yo)*(((xo+(xa-xo)*(CB xo yo xa ya s t))+ -(ya-yo)*sg)-xo)=((xa-xo)*(xa-xo)+(ya-yo)*(ya-yo))*sg from (show _=_ by grind).trans (WN (u:=xa-xo) (v:=ya-yo) (p:=(CB xo yo xa ya s t)) (r:=sg) rfl)];exact hb.E5 d W
theorem UH:un x=x*AT (fs x y):=by
 by_cases h:x=0
 ·rw[PU h,h];grind
 rw[PV h,Q5 h];exact (Gv h).symm
theorem HU (F:Fl TT w) (f:Vm TT w 2100 20 20 T1 A1 T2 A2 x1 y1) (g:Vm TT w 2100 20 20 T3 A3 T4 A4 x2 y2) (b:¬(x1=x2/\y1=y2)):∃T5 A5 T6 A6 T7 A7 al be ga i,DY TT w 2100 999 1083 T5 A5 T6 A6 T7 A7 al be ga/\(al=1\/al=0/\be=1)/\al= -(y2+ -y1)*i/\be=(x2+ -x1)*i/\ga=(-(y2+ -y1)*x1+(x2+ -x1)*y1)*i/\CF 99 [.agg (AH T1 A1 T2 A2),.agg (AH T3 A3 T4 A4)] (.AG [(true,(AN T5 A5 T6 A6 T7 A7)),(false,[.int .i64 0])]):=by
 obtain⟨T5,A5,T6,A6,T7,A7,a,c⟩:=ZR F f g (by decide) (by decide) (by decide) (by decide) b (d:=957);exact⟨T5,A5,T6,A6,T7,A7,_,_,_,AT (fs (-(y2+ -y1)) (x2+ -x1)),⟨a.x,a.y.mono (by decide),a.z.mono (by decide)⟩,YB (fun z=>b ⟨by have:=z.2;grind,by have:=z.1;grind⟩),UH,rfl,rfl,c⟩
theorem Ri (F:Fl TT w) (a:Vm TT w 2100 20 20 T1 A1 T2 A2 x1 y1) (d:Vm TT w 2100 20 20 T3 A3 T4 A4 x2 y2) (b:¬(x1=x2/\y1=y2)):∃T5 A5 T6 A6 T7 A7 T8 A8 T9 A9 al be ga xd yd i,DD TT w T5 A5 T6 A6 T7 A7 T8 A8 T9 A9 al be ga xd yd x1 y1 i/\CF 99 [.agg (AH T1 A1 T2 A2),.agg (AH T3 A3 T4 A4)] (.AG [(true,(AN T5 A5 T6 A6 T7 A7)),(false,[.int .i64 0])])/\CF 27 [.agg (AH T3 A3 T4 A4),.agg (AH T1 A1 T2 A2)] (.AG [(true,(AH T8 A8 T9 A9)),(false,[.int .i64 0])]):=by
 obtain⟨T5,A5,T6,A6,T7,A7,al,be,ga,i,j,g,ha,hb,hc,c⟩:=HU F a d b;obtain⟨T8,A8,T9,A9,h,f⟩:=Hj F d a;exact⟨T5,A5,T6,A6,T7,A7,T8,A8,T9,A9,al,be,ga,_,_,i,⟨j,h.mono (by decide) (by decide),⟨_,_,_,_,a⟩,fun z=>b ⟨by have:=z.1;grind,by have:=z.2;grind⟩,g,ha,hb,hc⟩,c,f⟩
theorem Rj (F:Fl TT w) (a:Vm TT w 2100 20 20 T1 A1 T2 A2 x1 y1) (d:Vm TT w 2100 20 20 T3 A3 T4 A4 x2 y2) (b:¬(x1=x2/\y1=y2)):∃T5 A5 T6 A6 T7 A7 T8 A8 T9 A9 Ta Aa Tb Ab al be ga xd yd i,DD TT w T5 A5 T6 A6 T7 A7 T8 A8 T9 A9 al be ga xd yd x1 y1 i/\CF 99 [.agg (AH T1 A1 T2 A2),.agg (AH T3 A3 T4 A4)] (.AG [(true,(AN T5 A5 T6 A6 T7 A7)),(false,[.int .i64 0])])/\CF 27 [.agg (AH T3 A3 T4 A4),.agg (AH T1 A1 T2 A2)] (.AG [(true,(AH Ta Aa Tb Ab)),(false,[.int .i64 0])])/\CF 91 [.agg (AH Ta Aa Tb Ab)] (.agg (AH T8 A8 T9 A9)):=by
 obtain⟨T5,A5,T6,A6,T7,A7,al,be,ga,i,l,h,ha,hb,hc,c⟩:=HU F a d b;obtain⟨Ta,Aa,Tb,Ab,j,f⟩:=Hj F d a;obtain⟨A8,A9,m,g⟩:=NP F j;exact⟨T5,A5,T6,A6,T7,A7,Ta,A8,Tb,A9,Ta,Aa,Tb,Ab,al,be,ga,_,_,-i,⟨l,m.mono (by decide) (by decide),⟨_,_,_,_,a⟩,fun z=>b ⟨by have:=z.1;grind,by have:=z.2;grind⟩,h,by rw[ha];grind,by rw[hb];grind,by rw[hc];grind⟩,c,f,g⟩
end Go.Abs
namespace Go.Abs
open Go.RowKit
def Jk (x:el BI):Prop:=List.length (α:=LR) x.1.1<=1/\List.length (α:=LR) x.2.1<=1
variable {A5 A6 A7 A8 A9 Aa Ab:LR} {Q:List (el BI)} {T5 T6 T7 T8 T9 Ta Tb:List LR} {bk:Bool} {fa fb:Int}
theorem Mw {b:Bool} (hb:b=true↔∀x∈Q,Jk x):CF 43 [.one (.sl BI Q)] (.one (.bool b)):=by
 refine Ah Tryz.func43 fun E U=>?_
 conv=>cbv
 refine .inr ?_;obtain⟨G,h⟩:=xJ fun vs D k=>∃(k':Nat) (j:Int),vs=[.one (.sl BI Q),.one (.int .i64 j)]/\D=[]/\(Ag j k'/\k'<=Q.length)/\(∀x∈Q.take k',Jk x)/\k=Q.length-k'
 refine⟨[],[0,3],[],G,⟨Q.length-0,by rw[h];exact⟨0,0,rfl,rfl,⟨⟨rfl⟩,Nat.zero_le _⟩,(fun x d=>by simp at d),rfl⟩⟩,?_⟩;intro vs D N u;rw[h] at u;obtain⟨k',j,rfl,rfl,⟨u,J⟩,hinv,L⟩:=u;conv=>cbv
 have S:=u.eq;rintro W ⟨R,f6⟩;conv=>cbv
 intro O F;conv=>cbv
 cases O <;> conv=>cbv
 ·have M:=BK F;exact AF ⟨⟨rfl,congrArg _ ((hb.2 (fun x d=>hinv x (by rw[List.take_of_length_le (by omega)];exact d)))),trivial⟩,trivial⟩
 have M:=BL F;refine .inr ?_;obtain⟨a,c⟩:=AS (l:=Q) (i:=k') (by omega);refine⟨a,fun _=>⟨by omega,by rw[show (j).toNat=k' by omega];exact c⟩,?_⟩;try conv=>cbv
 rintro m ⟨f,f16⟩;conv=>cbv
 intro B q;conv=>cbv
 cases B <;> conv=>cbv
 ·have z:=Cc q;refine⟨a,fun _=>⟨by omega,by rw[show (j).toNat=k' by omega];exact c⟩,?_⟩;try conv=>cbv
  rintro o ⟨g,f25⟩;conv=>cbv
  intro C r;conv=>cbv
  cases C <;> conv=>cbv
  ·have A:=Cc r;intro Y T;conv=>cbv
   refine AQ ?_;refine⟨Q.length-(k'+1),?_,?_⟩
   ·omega
   rw[h]
   exact⟨k'+1,_,rfl,rfl,⟨⟨by omega⟩,by omega⟩,(fun x d=>by
    rw[C7 c] at d;rcases List.mem_append.1 d with d | d
    ·exact hinv x d
    rw[List.mem_singleton.1 d];have d1:m=(List.length (α:=LR) a.1.1:Nat):=f;have d2:o=(List.length (α:=LR) a.2.1:Nat):=g;exact⟨by omega,by omega⟩),rfl⟩
  have A:=Cd r;exact AF ⟨⟨rfl,congrArg _ (by cases b with | false=>rfl | true=>(obtain⟨H,I⟩:=hb.1 rfl a (List.mem_of_getElem? c);exfalso;(try have d1:m=(List.length (α:=LR) a.1.1:Nat):=f);(try have d2:o=(List.length (α:=LR) a.2.1:Nat):=g);omega)),trivial⟩,trivial⟩
 have z:=Cd q;exact AF ⟨⟨rfl,congrArg _ (by cases b with | false=>rfl | true=>(obtain⟨H,I⟩:=hb.1 rfl a (List.mem_of_getElem? c);exfalso;(try have d1:m=(List.length (α:=LR) a.1.1:Nat):=f);(try have d2:o=(List.length (α:=LR) a.2.1:Nat):=g);omega)),trivial⟩,trivial⟩
theorem Sj {xi c:el BI} (G:0<=fa/\fa<256) (H:0<=fb/\fb<256) (M:2<=Q.length) (q:Q[(fa%(Q.length:Int)).toNat]? =some xi) (r:Q[(fb%(Q.length:Int)).toNat]? =some c) {T1:List LR} {A1:LR} (c1:CF 98 [.agg (AH xi.1.1 xi.1.2 xi.2.1 xi.2.2),.agg (AH c.1.1 c.1.2 c.2.1 c.2.2)] (.AG [(true,(AN xi.1.1 xi.1.2 xi.2.1 xi.2.2 T1 A1)),(false,[.int .i64 0])])):CF 44 [.agg [.bool true,.int .u8 fa,.int .u8 fb,.bool bk],.one (.sl BI Q)] (.AG [(true,[.int .i64 2,AD,AE,AD,AE,AD,AE,AD,AE,AD,AE,.sl (.sl AA) xi.1.1,.sl AA xi.1.2,.sl (.sl AA) xi.2.1,.sl AA xi.2.2,.sl (.sl AA) T1,.sl AA A1,AD,AE,AD,AE]),(false,[.bool true])]):=by
 refine Ah Tryz.func44 fun E F=>?_
 conv=>cbv
 rintro I ⟨B,f15⟩;conv=>cbv
 intro u d;conv=>cbv
 cases u <;> conv=>cbv
 ·have h:=BR d;intro z a;conv=>cbv
  have a:=wrap_i64 a;have a:z=fa:=by omega
  rintro J ⟨m,f23⟩;conv=>cbv
  intro j f;conv=>cbv
  refine AM ?_;have C:0<=j:=by rw[f];exact Int.emod_nonneg _ (by omega)
  refine⟨xi,fun _=>⟨by omega,by rw[show j=fa%(Q.length:Int) by rw[f,a,m]];exact q⟩,?_⟩;try conv=>cbv
  intro A b;conv=>cbv
  have b:=wrap_i64 b;have b:A=fb:=by omega
  rintro L ⟨o,f32⟩;conv=>cbv
  intro l g;conv=>cbv
  refine AM ?_;have D:0<=l:=by rw[g];exact Int.emod_nonneg _ (by omega)
  refine⟨c,fun _=>⟨by omega,by rw[show l=fb%(Q.length:Int) by rw[g,b,o]];exact r⟩,?_⟩;try conv=>cbv
  refine Bg ?_;refine AB F c1 ?_;conv=>cbv
  refine Aw ?_;conv=>cbv
  exact AF ⟨⟨rfl,rfl,AJ,AJ,AJ,AJ,AJ,AJ,AJ,AJ,AJ,AJ,rfl,rfl,rfl,rfl,rfl,rfl,AJ,AJ,AJ,AJ,trivial⟩,t2,trivial⟩
 have h:=BS d;exact absurd h (by omega)
theorem Sk {xi c:el BI} (G:0<=fa/\fa<256) (H:0<=fb/\fb<256) (M:2<=Q.length) (q:Q[(fa%(Q.length:Int)).toNat]? =some xi) (r:Q[(fb%(Q.length:Int)).toNat]? =some c) (c1:CF 98 [.agg (AH xi.1.1 xi.1.2 xi.2.1 xi.2.2),.agg (AH c.1.1 c.1.2 c.2.1 c.2.2)] (.AG [(true,[AD,AE,AD,AE,AD,AE]),(false,[.int .i64 11])])):CF 44 [.agg [.bool true,.int .u8 fa,.int .u8 fb,.bool bk],.one (.sl BI Q)] (.AG [(true,[.int .i64 2,AD,AE,AD,AE,AD,AE,AD,AE,AD,AE,AD,AE,AD,AE,AD,AE,AD,AE,AD,AE]),(false,[.bool false])]):=by
 refine Ah Tryz.func44 fun E F=>?_
 conv=>cbv
 rintro I ⟨B,f15⟩;conv=>cbv
 intro u d;conv=>cbv
 cases u <;> conv=>cbv
 ·have h:=BR d;intro z a;conv=>cbv
  have a:=wrap_i64 a;have a:z=fa:=by omega
  rintro J ⟨m,f23⟩;conv=>cbv
  intro j f;conv=>cbv
  refine AM ?_;have C:0<=j:=by rw[f];exact Int.emod_nonneg _ (by omega)
  refine⟨xi,fun _=>⟨by omega,by rw[show j=fa%(Q.length:Int) by rw[f,a,m]];exact q⟩,?_⟩;try conv=>cbv
  intro A b;conv=>cbv
  have b:=wrap_i64 b;have b:A=fb:=by omega
  rintro L ⟨o,f32⟩;conv=>cbv
  intro l g;conv=>cbv
  refine AM ?_;have D:0<=l:=by rw[g];exact Int.emod_nonneg _ (by omega)
  refine⟨c,fun _=>⟨by omega,by rw[show l=fb%(Q.length:Int) by rw[g,b,o]];exact r⟩,?_⟩;try conv=>cbv
  refine Bg ?_;refine AB F c1 ?_;conv=>cbv
  refine AL ?_;conv=>cbv
  exact AF ⟨⟨rfl,rfl,AJ,AJ,AJ,AJ,AJ,AJ,AJ,AJ,AJ,AJ,rfl,rfl,rfl,rfl,rfl,rfl,AJ,AJ,AJ,AJ,trivial⟩,t2,trivial⟩
 have h:=BS d;exact absurd h (by omega)
theorem Sl {xi a:el BI} (G:0<=fa/\fa<256) (H:0<=fb/\fb<256) (M:2<=Q.length) (q:Q[(fa%(Q.length:Int)).toNat]? =some xi) (r:Q[(fb%(Q.length:Int)).toNat]? =some a) (c1:CF 99 [.agg (AH xi.1.1 xi.1.2 xi.2.1 xi.2.2),.agg (AH a.1.1 a.1.2 a.2.1 a.2.2)] (.AG [(true,(AN T5 A5 T6 A6 T7 A7)),(false,[.int .i64 0])])) (c2:CF 27 [.agg (AH a.1.1 a.1.2 a.2.1 a.2.2),.agg (AH xi.1.1 xi.1.2 xi.2.1 xi.2.2)] (.AG [(true,(AH T8 A8 T9 A9)),(false,[.int .i64 0])])):CF 44 [.agg [.bool false,.int .u8 fa,.int .u8 fb,.bool false],.one (.sl BI Q)] (.AG [(true,[.int .i64 1,.sl (.sl AA) T5,.sl AA A5,.sl (.sl AA) T6,.sl AA A6,.sl (.sl AA) T7,.sl AA A7,.sl (.sl AA) T8,.sl AA A8,.sl (.sl AA) T9,.sl AA A9,AD,AE,AD,AE,AD,AE,AD,AE,AD,AE]),(false,[.bool true])]):=by
 refine Ah Tryz.func44 fun E B=>?_
 conv=>cbv
 rintro I ⟨C,f15⟩;conv=>cbv
 intro u d;conv=>cbv
 cases u <;> conv=>cbv
 ·have h:=BR d;intro z b;conv=>cbv
  have b:=wrap_i64 b;have b:z=fa:=by omega
  rintro J ⟨m,f23⟩;conv=>cbv
  intro j f;conv=>cbv
  refine AM ?_;have D:0<=j:=by rw[f];exact Int.emod_nonneg _ (by omega)
  refine⟨xi,fun _=>⟨by omega,by rw[show j=fa%(Q.length:Int) by rw[f,b,m]];exact q⟩,?_⟩;try conv=>cbv
  intro A c;conv=>cbv
  have c:=wrap_i64 c;have c:A=fb:=by omega
  rintro L ⟨o,f32⟩;conv=>cbv
  intro l g;conv=>cbv
  refine AM ?_;have F:0<=l:=by rw[g];exact Int.emod_nonneg _ (by omega)
  refine⟨a,fun _=>⟨by omega,by rw[show l=fb%(Q.length:Int) by rw[g,c,o]];exact r⟩,?_⟩;try conv=>cbv
  refine Bg ?_;refine AB B c1 ?_;conv=>cbv
  refine AB B c2 ?_;conv=>cbv
  refine .inr ?_;refine Aw ?_;conv=>cbv
  exact AF ⟨⟨rfl,rfl,rfl,rfl,rfl,rfl,rfl,rfl,rfl,rfl,rfl,rfl,AJ,AJ,AJ,AJ,AJ,AJ,AJ,AJ,AJ,AJ,trivial⟩,t2,trivial⟩
 have h:=BS d;exact absurd h (by omega)
theorem So {xi a:el BI} (G:0<=fa/\fa<256) (H:0<=fb/\fb<256) (M:2<=Q.length) (q:Q[(fa%(Q.length:Int)).toNat]? =some xi) (r:Q[(fb%(Q.length:Int)).toNat]? =some a) (c1:CF 99 [.agg (AH xi.1.1 xi.1.2 xi.2.1 xi.2.2),.agg (AH a.1.1 a.1.2 a.2.1 a.2.2)] (.AG [(true,[AD,AE,AD,AE,AD,AE]),(false,[.int .i64 11])])) (c2:CF 27 [.agg (AH a.1.1 a.1.2 a.2.1 a.2.2),.agg (AH xi.1.1 xi.1.2 xi.2.1 xi.2.2)] (.AG [(true,(AH T8 A8 T9 A9)),(false,[.int .i64 0])])):CF 44 [.agg [.bool false,.int .u8 fa,.int .u8 fb,.bool false],.one (.sl BI Q)] (.AG [(true,[.int .i64 1,AD,AE,AD,AE,AD,AE,.sl (.sl AA) T8,.sl AA A8,.sl (.sl AA) T9,.sl AA A9,AD,AE,AD,AE,AD,AE,AD,AE,AD,AE]),(false,[.bool false])]):=by
 refine Ah Tryz.func44 fun E B=>?_
 conv=>cbv
 rintro I ⟨C,f15⟩;conv=>cbv
 intro u d;conv=>cbv
 cases u <;> conv=>cbv
 ·have h:=BR d;intro z b;conv=>cbv
  have b:=wrap_i64 b;have b:z=fa:=by omega
  rintro J ⟨m,f23⟩;conv=>cbv
  intro j f;conv=>cbv
  refine AM ?_;have D:0<=j:=by rw[f];exact Int.emod_nonneg _ (by omega)
  refine⟨xi,fun _=>⟨by omega,by rw[show j=fa%(Q.length:Int) by rw[f,b,m]];exact q⟩,?_⟩;try conv=>cbv
  intro A c;conv=>cbv
  have c:=wrap_i64 c;have c:A=fb:=by omega
  rintro L ⟨o,f32⟩;conv=>cbv
  intro l g;conv=>cbv
  refine AM ?_;have F:0<=l:=by rw[g];exact Int.emod_nonneg _ (by omega)
  refine⟨a,fun _=>⟨by omega,by rw[show l=fb%(Q.length:Int) by rw[g,c,o]];exact r⟩,?_⟩;try conv=>cbv
  refine Bg ?_;refine AB B c1 ?_;conv=>cbv
  refine AB B c2 ?_;conv=>cbv
  refine .inr ?_;refine AL ?_;conv=>cbv
  exact AF ⟨⟨rfl,rfl,rfl,rfl,rfl,rfl,rfl,rfl,rfl,rfl,rfl,rfl,AJ,AJ,AJ,AJ,AJ,AJ,AJ,AJ,AJ,AJ,trivial⟩,t2,trivial⟩
 have h:=BS d;exact absurd h (by omega)
theorem Sn {xi a:el BI} (H:0<=fa/\fa<256) (I:0<=fb/\fb<256) (N:2<=Q.length) (r:Q[(fa%(Q.length:Int)).toNat]? =some xi) (u:Q[(fb%(Q.length:Int)).toNat]? =some a) (c1:CF 99 [.agg (AH xi.1.1 xi.1.2 xi.2.1 xi.2.2),.agg (AH a.1.1 a.1.2 a.2.1 a.2.2)] (.AG [(true,(AN T5 A5 T6 A6 T7 A7)),(false,[.int .i64 0])])) (c2:CF 27 [.agg (AH a.1.1 a.1.2 a.2.1 a.2.2),.agg (AH xi.1.1 xi.1.2 xi.2.1 xi.2.2)] (.AG [(true,(AH Ta Aa Tb Ab)),(false,[.int .i64 0])])) (C:CF 91 [.agg (AH Ta Aa Tb Ab)] (.agg (AH T8 A8 T9 A9))):CF 44 [.agg [.bool false,.int .u8 fa,.int .u8 fb,.bool true],.one (.sl BI Q)] (.AG [(true,[.int .i64 1,.sl (.sl AA) T5,.sl AA A5,.sl (.sl AA) T6,.sl AA A6,.sl (.sl AA) T7,.sl AA A7,.sl (.sl AA) T8,.sl AA A8,.sl (.sl AA) T9,.sl AA A9,AD,AE,AD,AE,AD,AE,AD,AE,AD,AE]),(false,[.bool true])]):=by
 refine Ah Tryz.func44 fun E q=>?_
 conv=>cbv
 rintro J ⟨D,f15⟩;conv=>cbv
 intro z d;conv=>cbv
 cases z <;> conv=>cbv
 ·have h:=BR d;intro A b;conv=>cbv
  have b:=wrap_i64 b;have b:A=fa:=by omega
  rintro L ⟨m,f23⟩;conv=>cbv
  intro j f;conv=>cbv
  refine AM ?_;have F:0<=j:=by rw[f];exact Int.emod_nonneg _ (by omega)
  refine⟨xi,fun _=>⟨by omega,by rw[show j=fa%(Q.length:Int) by rw[f,b,m]];exact r⟩,?_⟩;try conv=>cbv
  intro B c;conv=>cbv
  have c:=wrap_i64 c;have c:B=fb:=by omega
  rintro M ⟨o,f32⟩;conv=>cbv
  intro l g;conv=>cbv
  refine AM ?_;have G:0<=l:=by rw[g];exact Int.emod_nonneg _ (by omega)
  refine⟨a,fun _=>⟨by omega,by rw[show l=fb%(Q.length:Int) by rw[g,c,o]];exact u⟩,?_⟩;try conv=>cbv
  refine Bg ?_;refine AB q c1 ?_;conv=>cbv
  refine AB q c2 ?_;conv=>cbv
  refine .inr ?_;refine AB q C ?_;conv=>cbv
  refine Aw ?_;conv=>cbv
  exact AF ⟨⟨rfl,rfl,rfl,rfl,rfl,rfl,rfl,rfl,rfl,rfl,rfl,rfl,AJ,AJ,AJ,AJ,AJ,AJ,AJ,AJ,AJ,AJ,trivial⟩,t2,trivial⟩
 have h:=BS d;exact absurd h (by omega)
theorem Sp {xi a:el BI} (H:0<=fa/\fa<256) (I:0<=fb/\fb<256) (N:2<=Q.length) (r:Q[(fa%(Q.length:Int)).toNat]? =some xi) (u:Q[(fb%(Q.length:Int)).toNat]? =some a) (c1:CF 99 [.agg (AH xi.1.1 xi.1.2 xi.2.1 xi.2.2),.agg (AH a.1.1 a.1.2 a.2.1 a.2.2)] (.AG [(true,[AD,AE,AD,AE,AD,AE]),(false,[.int .i64 11])])) (c2:CF 27 [.agg (AH a.1.1 a.1.2 a.2.1 a.2.2),.agg (AH xi.1.1 xi.1.2 xi.2.1 xi.2.2)] (.AG [(true,(AH Ta Aa Tb Ab)),(false,[.int .i64 0])])) (C:CF 91 [.agg (AH Ta Aa Tb Ab)] (.agg (AH T8 A8 T9 A9))):CF 44 [.agg [.bool false,.int .u8 fa,.int .u8 fb,.bool true],.one (.sl BI Q)] (.AG [(true,[.int .i64 1,AD,AE,AD,AE,AD,AE,.sl (.sl AA) T8,.sl AA A8,.sl (.sl AA) T9,.sl AA A9,AD,AE,AD,AE,AD,AE,AD,AE,AD,AE]),(false,[.bool false])]):=by
 refine Ah Tryz.func44 fun E q=>?_
 conv=>cbv
 rintro J ⟨D,f15⟩;conv=>cbv
 intro z d;conv=>cbv
 cases z <;> conv=>cbv
 ·have h:=BR d;intro A b;conv=>cbv
  have b:=wrap_i64 b;have b:A=fa:=by omega
  rintro L ⟨m,f23⟩;conv=>cbv
  intro j f;conv=>cbv
  refine AM ?_;have F:0<=j:=by rw[f];exact Int.emod_nonneg _ (by omega)
  refine⟨xi,fun _=>⟨by omega,by rw[show j=fa%(Q.length:Int) by rw[f,b,m]];exact r⟩,?_⟩;try conv=>cbv
  intro B c;conv=>cbv
  have c:=wrap_i64 c;have c:B=fb:=by omega
  rintro M ⟨o,f32⟩;conv=>cbv
  intro l g;conv=>cbv
  refine AM ?_;have G:0<=l:=by rw[g];exact Int.emod_nonneg _ (by omega)
  refine⟨a,fun _=>⟨by omega,by rw[show l=fb%(Q.length:Int) by rw[g,c,o]];exact u⟩,?_⟩;try conv=>cbv
  refine Bg ?_;refine AB q c1 ?_;conv=>cbv
  refine AB q c2 ?_;conv=>cbv
  refine .inr ?_;refine AB q C ?_;conv=>cbv
  refine AL ?_;conv=>cbv
  exact AF ⟨⟨rfl,rfl,rfl,rfl,rfl,rfl,rfl,rfl,rfl,rfl,rfl,rfl,AJ,AJ,AJ,AJ,AJ,AJ,AJ,AJ,AJ,AJ,trivial⟩,t2,trivial⟩
 have h:=BS d;exact absurd h (by omega)
theorem ES:CF 39 [] (.one (.bool true)):=by
 obtain⟨w0,L⟩:=SW (V:=[]) (ns:=[]) (by decide) (fun n hn=>by simp at hn);have hL:∀{r:List Rat} {u:List (List Rat)},PN ([]:List Nu) (r::u)->u=[]:=fun {r u} ⟨n,hn,_⟩=>by simp at hn
 have F:=L.fl hL;have z0:Re.ofRat ((0:Int):Rat)=0:=Re.Ot;have z1:Re.ofRat ((1:Int):Rat)=1:=rfl;have zm:Re.ofRat ((-1:Int):Rat)= -1:=by rw[show ((-1:Int):Rat)= -(1:Rat) by decide +kernel,Re.ofRat_neg];rfl
 obtain⟨ad,ae,⟨j,l⟩,a6⟩:=DS F (p:=((0:Int):Rat)) (q:=((0:Int):Rat)) (by decide +kernel) (by decide +kernel);obtain⟨af,ag,⟨m,o⟩,a7⟩:=DS F (p:=((6:Int):Rat)) (q:=((0:Int):Rat)) (by decide +kernel) (by decide +kernel);obtain⟨aM,aN,⟨z,A⟩,ak⟩:=DS F (p:=((5:Int):Rat)) (q:=((0:Int):Rat)) (by decide +kernel) (by decide +kernel);obtain⟨BQ,BP,an,ai⟩:=KI F a6 ak (fun h=>absurd (Re.Ds.1 h.1) (by decide +kernel));have ao:=LC F (by decide) (r:=25) (by decide +kernel) an (by (try simp only[B7,Cu,CO,CB,<-Re.ofRat_add,<-Re.ofRat_mul,<-Re.ofRat_neg,EU,ER]);exact congrArg Re.ofRat (by decide +kernel));obtain⟨aO,aP,⟨B,C⟩,aq⟩:=DS F (p:=((6:Int):Rat)) (q:=((5:Int):Rat)) (by decide +kernel) (by decide +kernel);obtain⟨C3,C2,ar,aj⟩:=KI F a7 aq (fun h=>absurd (Re.Ds.1 h.2) (by decide +kernel))
 have au:=LC F (by decide) (r:=25) (by decide +kernel) ar (by (try simp only[B7,Cu,CO,CB,<-Re.ofRat_add,<-Re.ofRat_mul,<-Re.ofRat_neg,EU,ER]);exact congrArg Re.ofRat (by decide +kernel));have o1:DL (Tf (PN [])) w0 ([]:List LR) ad ([]:List LR) ae BQ BP _ _ _:=⟨a6.mono (by decide) (by decide),ao.mono (by decide)⟩;have o2:DL (Tf (PN [])) w0 ([]:List LR) af ([]:List LR) ag C3 C2 _ _ _:=⟨a7.mono (by decide) (by decide),au.mono (by decide)⟩;obtain⟨d,f,⟨b,c⟩,g⟩:=DS F (p:=((-1:Int):Rat)) (q:=((0:Int):Rat)) (by decide +kernel) (by decide +kernel);obtain⟨aQ,aR,⟨D,G⟩,a8⟩:=DS F (p:=((0:Int):Rat)) (q:=((3:Int):Rat)) (by decide +kernel) (by decide +kernel);obtain⟨aS,aT,⟨H,I⟩,av⟩:=DS F (p:=((1:Int):Rat)) (q:=((3:Int):Rat)) (by decide +kernel) (by decide +kernel);obtain⟨b8,aD,bc,aG,bg,aJ,bl,bo,bu,ia,la,bO,bz,bC,bF,ca⟩:=HU F (a8.mono (by decide) (by decide)) (av.mono (by decide) (by decide)) (fun h=>absurd (Re.Ds.1 h.1) (by decide +kernel))
 have La:DD (Tf (PN [])) w0 b8 aD bc aG bg aJ ([]:List LR) d ([]:List LR) f bl bo bu (Re.ofRat ((-1:Int):Rat)) (Re.ofRat ((0:Int):Rat)) (Re.ofRat ((0:Int):Rat)) (Re.ofRat ((3:Int):Rat)) (-ia):=⟨la,g.mono (by decide) (by decide),⟨_,_,_,_,a8.mono (by decide) (by decide)⟩,(fun h=>absurd (Re.Ds.1 h.1) (by decide +kernel)),bO,by rw[bz];simp only[z0];grind,by rw[bC];simp only[z0,z1,zm];grind,by rw[bF];simp only[z0,z1,zm];grind⟩;obtain⟨aU,aV,⟨J,M⟩,aa⟩:=DS F (p:=((0:Int):Rat)) (q:=((5:Int):Rat)) (by decide +kernel) (by decide +kernel);obtain⟨aW,aX,⟨N,O⟩,aw⟩:=DS F (p:=((1:Int):Rat)) (q:=((5:Int):Rat)) (by decide +kernel) (by decide +kernel);obtain⟨b9,aE,bd,aH,bh,aK,bm,bp,bw,ib,lb,bP,bA,bD,bG,cb⟩:=HU F (aa.mono (by decide) (by decide)) (aw.mono (by decide) (by decide)) (fun h=>absurd (Re.Ds.1 h.1) (by decide +kernel))
 have Lb:DD (Tf (PN [])) w0 b9 aE bd aH bh aK ([]:List LR) d ([]:List LR) f bm bp bw (Re.ofRat ((-1:Int):Rat)) (Re.ofRat ((0:Int):Rat)) (Re.ofRat ((0:Int):Rat)) (Re.ofRat ((5:Int):Rat)) (-ib):=⟨lb,g.mono (by decide) (by decide),⟨_,_,_,_,aa.mono (by decide) (by decide)⟩,(fun h=>absurd (Re.Ds.1 h.1) (by decide +kernel)),bP,by rw[bA];simp only[z0];grind,by rw[bD];simp only[z0,z1,zm];grind,by rw[bG];simp only[z0,z1,zm];grind⟩;obtain⟨aY,aZ,⟨R,S⟩,ab⟩:=DS F (p:=((0:Int):Rat)) (q:=((6:Int):Rat)) (by decide +kernel) (by decide +kernel);obtain⟨b0,b1,⟨T,U⟩,ax⟩:=DS F (p:=((1:Int):Rat)) (q:=((6:Int):Rat)) (by decide +kernel) (by decide +kernel);obtain⟨bb,aF,bf,aI,bj,aL,bn,bq,bx,ic,lc,bQ,bB,bE,bH,cc⟩:=HU F (ab.mono (by decide) (by decide)) (ax.mono (by decide) (by decide)) (fun h=>absurd (Re.Ds.1 h.1) (by decide +kernel))
 have Lc:DD (Tf (PN [])) w0 bb aF bf aI bj aL ([]:List LR) d ([]:List LR) f bn bq bx (Re.ofRat ((-1:Int):Rat)) (Re.ofRat ((0:Int):Rat)) (Re.ofRat ((0:Int):Rat)) (Re.ofRat ((6:Int):Rat)) (-ic):=⟨lc,g.mono (by decide) (by decide),⟨_,_,_,_,ab.mono (by decide) (by decide)⟩,(fun h=>absurd (Re.Ds.1 h.1) (by decide +kernel)),bQ,by rw[bB];simp only[z0];grind,by rw[bE];simp only[z0,z1,zm];grind,by rw[bH];simp only[z0,z1,zm];grind⟩;have ah:(B7 (Re.ofRat ((-1:Int):Rat)) (Re.ofRat ((0:Int):Rat)) (Re.ofRat ((0:Int):Rat)) (Re.ofRat ((0:Int):Rat)) (Re.ofRat ((0:Int):Rat)) (Re.ofRat ((3:Int):Rat)) (Re.ofRat (25)))=Re.ofRat 16:=by (try simp only[B7,Cu,CO,CB,<-Re.ofRat_add,<-Re.ofRat_mul,<-Re.ofRat_neg,EU,ER]);exact congrArg Re.ofRat (by decide +kernel)
 have aC:Re.sqrt (Re.ofRat 16)=Re.ofRat 4:=PM (by decide +kernel) (by decide +kernel);obtain⟨bY,wz,Fz,Uz,bK⟩:=J4 L hL La o1 (by rw[ah];exact O5 (by decide +kernel));obtain⟨c1,bT,c4,bW,bN,cz,_⟩:=bK (.inl ⟨rfl,rfl⟩);obtain⟨b2,b3,⟨W,Y⟩,ay⟩:=DS F (p:=((-4:Int):Rat)) (q:=((3:Int):Rat)) (by decide +kernel) (by decide +kernel);have n0:(B7 (Re.ofRat ((-1:Int):Rat)) (Re.ofRat ((0:Int):Rat)) (Re.ofRat ((0:Int):Rat)) (Re.ofRat ((0:Int):Rat)) (Re.ofRat ((0:Int):Rat)) (Re.ofRat ((5:Int):Rat)) (Re.ofRat (25)))=Re.ofRat (0):=by (try simp only[B7,Cu,CO,CB,<-Re.ofRat_add,<-Re.ofRat_mul,<-Re.ofRat_neg,EU,ER]);exact congrArg Re.ofRat (by decide +kernel)
 obtain⟨eb,_,bI,bs⟩:=IZ L hL Lb o1 (by rw[n0];exact fun h=>absurd (Re.GC.1 (show Re.ofRat 0<_ from h)) (by decide +kernel))
 obtain rfl:eb=12:=by
  rcases bI with h | h
  ·exact h.1
  exact absurd (Re.GC.1 (show _<Re.ofRat 0 from n0 ▸ h.2)) (by decide +kernel)
 have nm:(B7 (Re.ofRat ((-1:Int):Rat)) (Re.ofRat ((0:Int):Rat)) (Re.ofRat ((0:Int):Rat)) (Re.ofRat ((0:Int):Rat)) (Re.ofRat ((0:Int):Rat)) (Re.ofRat ((6:Int):Rat)) (Re.ofRat (25)))=Re.ofRat (-11):=by (try simp only[B7,Cu,CO,CB,<-Re.ofRat_add,<-Re.ofRat_mul,<-Re.ofRat_neg,EU,ER]);exact congrArg Re.ofRat (by decide +kernel)
 obtain⟨ec,_,bJ,bt⟩:=IZ L hL Lc o1 (by rw[nm];exact fun h=>absurd (Re.GC.1 (show Re.ofRat 0<_ from h)) (by decide +kernel))
 obtain rfl:ec=7:=by
  rcases bJ with h | h
  ·exact absurd (Re.Ds.1 (show _=Re.ofRat 0 from nm ▸ h.2)) (by decide +kernel)
  exact h.1
 have n4:(CO (Re.ofRat ((0:Int):Rat)) (Re.ofRat ((0:Int):Rat)) (Re.ofRat ((6:Int):Rat)) (Re.ofRat ((0:Int):Rat)) (Re.ofRat (25)) (Re.ofRat (25)))=Re.ofRat (4/9):=by (try simp only[B7,Cu,CO,CB,<-Re.ofRat_add,<-Re.ofRat_mul,<-Re.ofRat_neg,EU,ER]);exact congrArg Re.ofRat (by decide +kernel)
 have s4:Re.sqrt (Re.ofRat (4/9))=Re.ofRat (2/3):=PM (by decide +kernel) (by decide +kernel);obtain⟨bX,wc,Fc,Uc,aB⟩:=MG L hL o1 o2 (fun h=>absurd (Re.Ds.1 h.1) (by decide +kernel)) (by rw[n4];exact O5 (by decide +kernel));obtain⟨bZ,bR,c2,bU,_,_,_,_,bL,cx,_⟩:=aB (.inl ⟨rfl,rfl⟩);obtain⟨b4,b5,⟨Z,a1⟩,az⟩:=DS F (p:=((3:Int):Rat)) (q:=((4:Int):Rat)) (by decide +kernel) (by decide +kernel);obtain⟨c0,bS,c3,bV,_,_,_,_,bM,cy,_⟩:=aB (.inr ⟨rfl,rfl⟩);obtain⟨b6,b7,⟨a2,a5⟩,aA⟩:=DS F (p:=((3:Int):Rat)) (q:=((-4:Int):Rat)) (by decide +kernel) (by decide +kernel);refine Ah Tryz.func39 fun E a=>?_
 conv=>cbv
 refine AB a (DC (x:=0) (y:=0) (by decide) (by decide) j l) ?_;conv=>cbv
 refine AB a (DC (x:=5) (y:=0) (by decide) (by decide) z A) ?_;conv=>cbv
 refine AB a ai ?_;conv=>cbv
 refine AB a (DC (x:=6) (y:=0) (by decide) (by decide) m o) ?_;conv=>cbv
 refine AB a (DC (x:=6) (y:=5) (by decide) (by decide) B C) ?_;conv=>cbv
 refine AB a aj ?_;conv=>cbv
 refine AB a (DC (x:=0) (y:=3) (by decide) (by decide) D G) ?_;conv=>cbv
 refine AB a (DC (x:=1) (y:=3) (by decide) (by decide) H I) ?_;conv=>cbv
 refine AB a ca ?_;conv=>cbv
 refine AB a (DC (x:=0) (y:=5) (by decide) (by decide) J M) ?_;conv=>cbv
 refine AB a (DC (x:=1) (y:=5) (by decide) (by decide) N O) ?_;conv=>cbv
 refine AB a cb ?_;conv=>cbv
 refine AB a (DC (x:=0) (y:=6) (by decide) (by decide) R S) ?_;conv=>cbv
 refine AB a (DC (x:=1) (y:=6) (by decide) (by decide) T U) ?_;conv=>cbv
 refine AB a cc ?_;conv=>cbv
 refine AL ?_;conv=>cbv
 refine AL ?_;conv=>cbv
 refine AL ?_;conv=>cbv
 refine AL ?_;conv=>cbv
 refine AL ?_;conv=>cbv
 refine AB a cx ?_;conv=>cbv
 refine AB a cy ?_;conv=>cbv
 refine AB a (DC (x:= -1) (y:=0) (by decide) (by decide) b c) ?_;conv=>cbv
 refine AB a cz ?_;conv=>cbv
 refine Bg ?_;refine AB a (DC (x:= -1) (y:=0) (by decide) (by decide) b c) ?_;conv=>cbv
 refine AB a ((bs 1 (.inl rfl)).1) ?_;conv=>cbv
 refine Bg ?_;refine AB a (DC (x:= -1) (y:=0) (by decide) (by decide) b c) ?_;conv=>cbv
 refine AB a ((bt 1 (.inl rfl)).1) ?_;conv=>cbv
 refine Bg ?_;refine Aw ?_;conv=>cbv
 refine Aw ?_;conv=>cbv
 refine Aw ?_;conv=>cbv
 refine AB a (DC (x:=3) (y:=4) (by decide) (by decide) Z a1) ?_;conv=>cbv
 refine AB a (DU Fc bL (Uc.v (by decide) (by decide) az) (by decide) (by decide) (by decide) (by decide) (e:=true) ⟨fun _=>⟨by rw[n4,s4];(try simp only[B7,Cu,CO,CB,<-Re.ofRat_add,<-Re.ofRat_mul,<-Re.ofRat_neg,EU,ER]);exact congrArg Re.ofRat (by decide +kernel),by rw[n4,s4];(try simp only[B7,Cu,CO,CB,<-Re.ofRat_add,<-Re.ofRat_mul,<-Re.ofRat_neg,EU,ER]);exact congrArg Re.ofRat (by decide +kernel)⟩,fun _=>rfl⟩) ?_;try conv=>cbv
 refine AB a (DC (x:=3) (y:= -4) (by decide) (by decide) a2 a5) ?_;conv=>cbv
 refine AB a (DU Fc bM (Uc.v (by decide) (by decide) aA) (by decide) (by decide) (by decide) (by decide) (e:=true) ⟨fun _=>⟨by rw[n4,s4];(try simp only[B7,Cu,CO,CB,<-Re.ofRat_add,<-Re.ofRat_mul,<-Re.ofRat_neg,EU,ER]);exact congrArg Re.ofRat (by decide +kernel),by rw[n4,s4];(try simp only[B7,Cu,CO,CB,<-Re.ofRat_add,<-Re.ofRat_mul,<-Re.ofRat_neg,EU,ER]);exact congrArg Re.ofRat (by decide +kernel)⟩,fun _=>rfl⟩) ?_;try conv=>cbv
 refine AB a (DC (x:= -4) (y:=3) (by decide) (by decide) W Y) ?_;conv=>cbv
 refine AB a (DU Fz bN (Uz.v (by decide) (by decide) ay) (by decide) (by decide) (by decide) (by decide) (e:=true) ⟨fun _=>⟨by rw[ah,aC];(try simp only[B7,Cu,CO,CB,<-Re.ofRat_add,<-Re.ofRat_mul,<-Re.ofRat_neg,EU,ER]);exact congrArg Re.ofRat (by decide +kernel),by rw[ah,aC];(try simp only[B7,Cu,CO,CB,<-Re.ofRat_add,<-Re.ofRat_mul,<-Re.ofRat_neg,EU,ER]);exact congrArg Re.ofRat (by decide +kernel)⟩,fun _=>rfl⟩) ?_;try conv=>cbv
 refine Aw ?_;conv=>cbv
 refine Aw ?_;conv=>cbv
 refine Bg ?_;exact AF ⟨t2,trivial⟩
end Go.Abs
namespace Go.Abs
open Go.RowKit
def Jj (TT:List (List Rat)->Prop) (w:List (List Rat)) (ci:Bool) (v:AV):Prop:=(ci=true/\∃Ta Aa Tb Ab Tc Ac xo yo s,v=B4 Ta Aa Tb Ab Tc Ac/\DL TT w Ta Aa Tb Ab Tc Ac xo yo s)\/(ci=false/\∃T1 A1 T2 A2 T3 A3 T4 A4 T5 A5 al be ga xd yd xp yp i,v=CJ T1 A1 T2 A2 T3 A3 T4 A4 T5 A5/\DD TT w T1 A1 T2 A2 T3 A3 T4 A4 T5 A5 al be ga xd yd xp yp i)
theorem J5 {TT:List (List Rat)->Prop} {w:List (List Rat)} (F:Fl TT w) {Q:List (el BI)} {fa fb:Int} {ci bk:Bool} {xi m:el BI} (a:0<=fa/\fa<256) (b:0<=fb/\fb<256) (j:2<=Q.length) (c:Q[(fa%(Q.length:Int)).toNat]? =some xi) (d:Q[(fb%(Q.length:Int)).toNat]? =some m) {q u r z:Re} (f:Vm TT w 2100 20 20 xi.1.1 xi.1.2 xi.2.1 xi.2.2 q u) (g:Vm TT w 2100 20 20 m.1.1 m.1.2 m.2.1 m.2.2 r z):(∃k D6 Du D7 Dv D8 Dw D9 Dx EA Dy EB Dz EC D1 ED D3 EF D4 EG D5,CF 44 [.agg [.bool ci,.int .u8 fa,.int .u8 fb,.bool bk],.one (.sl BI Q)] (.AG [(true,[.int .i64 k,.sl (.sl AA) D6,.sl AA Du,.sl (.sl AA) D7,.sl AA Dv,.sl (.sl AA) D8,.sl AA Dw,.sl (.sl AA) D9,.sl AA Dx,.sl (.sl AA) EA,.sl AA Dy,.sl (.sl AA) EB,.sl AA Dz,.sl (.sl AA) EC,.sl AA D1,.sl (.sl AA) ED,.sl AA D3,.sl (.sl AA) EF,.sl AA D4,.sl (.sl AA) EG,.sl AA D5]),(false,[.bool false])]))\/(∃v,Jj TT w ci v/\CF 44 [.agg [.bool ci,.int .u8 fa,.int .u8 fb,.bool bk],.one (.sl BI Q)] (.AG [(true,v.cs),(false,[.bool true])])):=by
 by_cases l:q=r/\u=z
 ·left
  cases ci
  ·have c1:=ZS F f g (by decide) (by decide) (by decide) (by decide) l;obtain⟨_,_,_,_,A,c2⟩:=Hj F g f;cases bk
   ·exact⟨_,_,_,_,_,_,_,_,_,_,_,_,_,_,_,_,_,_,_,_,_,So a b j c d c1 c2⟩
   obtain⟨_,_,_,o⟩:=NP F A;exact⟨_,_,_,_,_,_,_,_,_,_,_,_,_,_,_,_,_,_,_,_,_,Sp a b j c d c1 c2 o⟩
  exact⟨_,_,_,_,_,_,_,_,_,_,_,_,_,_,_,_,_,_,_,_,_,Sk a b j c d (Sc F f g l)⟩
 right
 cases ci
 ·cases bk
  ·obtain⟨T5,A5,T6,A6,T7,A7,T8,A8,T9,A9,al,be,ga,xd,yd,i,h,c1,c2⟩:=Ri F f g l;exact⟨_,.inr ⟨rfl,_,_,_,_,_,_,_,_,_,_,_,_,_,_,_,_,_,_,rfl,h⟩,Sl a b j c d c1 c2⟩
  obtain⟨T5,A5,T6,A6,T7,A7,T8,A8,T9,A9,Ta,Aa,Tb,Ab,al,be,ga,xd,yd,i,h,c1,c2,o⟩:=Rj F f g l;exact⟨_,.inr ⟨rfl,_,_,_,_,_,_,_,_,_,_,_,_,_,_,_,_,_,_,rfl,h⟩,Sn a b j c d c1 c2 o⟩
 obtain⟨_,_,B,c1⟩:=KI F f g l;exact⟨_,.inl ⟨rfl,_,_,_,_,_,_,_,_,_,rfl,⟨f,B.mono (by decide)⟩⟩,Sj a b j c d c1⟩
end Go.Abs
namespace Go.Abs
open Go.RowKit
end Go.Abs
namespace Go.Abs
open Go.RowKit
abbrev E6:T:= .pr .i64 (.pr (.pr Bc BI) (.pr BI (.pr (.pr BI Bc) BI)))
end Go.Abs
namespace Go.Abs
open Go.RowKit
end Go.Abs
namespace Go.Abs
open Go.RowKit
variable {A1 A2 A3 A4 A5 Aa Ab Ac Du Dv Dw Dx Dy Dz D1 D3 D4 D5 EV EW EX EY EZ Ea Eb Ec Ed Ee Ax Ay:LR} {Q:List (el BI)} {T1 T2 T3 T4 T5 Ta Tb Tc D6 D7 D8 D9 EA EB EC ED EF EG Eg Eh Ei Ej Ek Em En Eo Ep Er Tx Ty:List LR} {X:List (el Bo)} {ba:Bool} {k1 k2 kd pa pb:Int}
theorem om (o:kd<1\/3<kd):CF 45 [.agg [.int .i64 kd,.sl (.sl AA) D6,.sl AA Du,.sl (.sl AA) D7,.sl AA Dv,.sl (.sl AA) D8,.sl AA Dw,.sl (.sl AA) D9,.sl AA Dx,.sl (.sl AA) EA,.sl AA Dy,.sl (.sl AA) EB,.sl AA Dz,.sl (.sl AA) EC,.sl AA D1,.sl (.sl AA) ED,.sl AA D3,.sl (.sl AA) EF,.sl AA D4,.sl (.sl AA) EG,.sl AA D5],.agg (AH Tx Ax Ty Ay)] (.one (.bool false)):=by
 refine Ah Tryz.func45 fun E m=>?_
 conv=>cbv
 refine .inr ?_;intro h a;conv=>cbv
 cases h <;> conv=>cbv
 ·have d:=BR a;intro j b;conv=>cbv
  cases j <;> conv=>cbv
  ·have f:=BR b;intro l c;conv=>cbv
   cases l <;> conv=>cbv
   ·have g:=BR c;exact AF ⟨t2,trivial⟩
   have g:=BS c;exact False.elim (by omega)
  have f:=BS b;exact False.elim (by omega)
 have d:=BS a;exact False.elim (by omega)
theorem oc {br:Int} (cf:CF 113 [.agg [.int .i64 k1,.sl (.sl AA) D6,.sl AA Du,.sl (.sl AA) D7,.sl AA Dv,.sl (.sl AA) D8,.sl AA Dw,.sl (.sl AA) D9,.sl AA Dx,.sl (.sl AA) EA,.sl AA Dy,.sl (.sl AA) EB,.sl AA Dz,.sl (.sl AA) EC,.sl AA D1,.sl (.sl AA) ED,.sl AA D3,.sl (.sl AA) EF,.sl AA D4,.sl (.sl AA) EG,.sl AA D5],.agg [.int .i64 k2,.sl (.sl AA) Eg,.sl AA EV,.sl (.sl AA) Eh,.sl AA EW,.sl (.sl AA) Ei,.sl AA EX,.sl (.sl AA) Ej,.sl AA EY,.sl (.sl AA) Ek,.sl AA EZ,.sl (.sl AA) Em,.sl AA Ea,.sl (.sl AA) En,.sl AA Eb,.sl (.sl AA) Eo,.sl AA Ec,.sl (.sl AA) Ep,.sl AA Ed,.sl (.sl AA) Er,.sl AA Ee]] (.one (.bool false))):CF 47 [.agg [.int .i64 k1,.sl (.sl AA) D6,.sl AA Du,.sl (.sl AA) D7,.sl AA Dv,.sl (.sl AA) D8,.sl AA Dw,.sl (.sl AA) D9,.sl AA Dx,.sl (.sl AA) EA,.sl AA Dy,.sl (.sl AA) EB,.sl AA Dz,.sl (.sl AA) EC,.sl AA D1,.sl (.sl AA) ED,.sl AA D3,.sl (.sl AA) EF,.sl AA D4,.sl (.sl AA) EG,.sl AA D5],.agg [.int .i64 k2,.sl (.sl AA) Eg,.sl AA EV,.sl (.sl AA) Eh,.sl AA EW,.sl (.sl AA) Ei,.sl AA EX,.sl (.sl AA) Ej,.sl AA EY,.sl (.sl AA) Ek,.sl AA EZ,.sl (.sl AA) Em,.sl AA Ea,.sl (.sl AA) En,.sl AA Eb,.sl (.sl AA) Eo,.sl AA Ec,.sl (.sl AA) Ep,.sl AA Ed,.sl (.sl AA) Er,.sl AA Ee],.one (.int .i64 br)] (.AG [(true,(AH [] [] [] [])),(false,[.int .i64 1])]):=by
 refine Ah Tryz.func47 fun E d=>?_
 conv=>cbv
 intro c a;conv=>cbv
 cases c <;> conv=>cbv
 ·have b:=BR a;refine .inr ?_;refine AB d cf ?_;conv=>cbv
  refine Aw ?_;conv=>cbv
  exact AF ⟨⟨rfl,AJ,AJ,AJ,AJ,trivial⟩,t2,trivial⟩
 have b:=BS a;intro g f;conv=>cbv
 refine .inr ?_;refine AB d cf ?_;conv=>cbv
 refine Aw ?_;conv=>cbv
 exact AF ⟨⟨rfl,AJ,AJ,AJ,AJ,trivial⟩,t2,trivial⟩
theorem og (cf:CF 113 [.agg [.int .i64 k1,.sl (.sl AA) D6,.sl AA Du,.sl (.sl AA) D7,.sl AA Dv,.sl (.sl AA) D8,.sl AA Dw,.sl (.sl AA) D9,.sl AA Dx,.sl (.sl AA) EA,.sl AA Dy,.sl (.sl AA) EB,.sl AA Dz,.sl (.sl AA) EC,.sl AA D1,.sl (.sl AA) ED,.sl AA D3,.sl (.sl AA) EF,.sl AA D4,.sl (.sl AA) EG,.sl AA D5],.agg [.int .i64 k2,.sl (.sl AA) Eg,.sl AA EV,.sl (.sl AA) Eh,.sl AA EW,.sl (.sl AA) Ei,.sl AA EX,.sl (.sl AA) Ej,.sl AA EY,.sl (.sl AA) Ek,.sl AA EZ,.sl (.sl AA) Em,.sl AA Ea,.sl (.sl AA) En,.sl AA Eb,.sl (.sl AA) Eo,.sl AA Ec,.sl (.sl AA) Ep,.sl AA Ed,.sl (.sl AA) Er,.sl AA Ee]] (.one (.bool false))):CF 48 [.agg [.int .i64 k1,.sl (.sl AA) D6,.sl AA Du,.sl (.sl AA) D7,.sl AA Dv,.sl (.sl AA) D8,.sl AA Dw,.sl (.sl AA) D9,.sl AA Dx,.sl (.sl AA) EA,.sl AA Dy,.sl (.sl AA) EB,.sl AA Dz,.sl (.sl AA) EC,.sl AA D1,.sl (.sl AA) ED,.sl AA D3,.sl (.sl AA) EF,.sl AA D4,.sl (.sl AA) EG,.sl AA D5],.agg [.int .i64 k2,.sl (.sl AA) Eg,.sl AA EV,.sl (.sl AA) Eh,.sl AA EW,.sl (.sl AA) Ei,.sl AA EX,.sl (.sl AA) Ej,.sl AA EY,.sl (.sl AA) Ek,.sl AA EZ,.sl (.sl AA) Em,.sl AA Ea,.sl (.sl AA) En,.sl AA Eb,.sl (.sl AA) Eo,.sl AA Ec,.sl (.sl AA) Ep,.sl AA Ed,.sl (.sl AA) Er,.sl AA Ee],.agg (AH Tx Ax Ty Ay)] (.AG [(false,[.int .i64 0]),(false,[.int .i64 1])]):=by
 refine Ah Tryz.func48 fun E a=>?_
 conv=>cbv
 refine .inr ?_;refine AB a cf ?_;conv=>cbv
 refine Aw ?_;conv=>cbv
 exact AF ⟨t2,t2,trivial⟩
theorem oq {W:List UInt8} {ca:Bool} (a:CF 39 [] (.one (.bool true))) (c:CF 20 [.agg [.sl Bo X,.sl .u8 W],.one (.int .i64 2)] (.AG [(false,[.sl BI Q]),(false,[.bool false])])):CF 9 [.agg [.sl (.pr .u8 (.pr .u8 (.pr .u8 (.pr .i8 .u8)))) X,.sl .u8 W],.agg [.bool ca,.int .u8 pa,.int .u8 pb,.bool ba],.one (.int .i64 kd)] (.one (.bool true)):=by
 refine Ah Tryz.func9 fun E b=>?_
 conv=>cbv
 refine AB b a ?_;conv=>cbv
 refine AL ?_;conv=>cbv
 refine AB b c ?_;conv=>cbv
 refine Aw ?_;conv=>cbv
 exact AF ⟨t2,trivial⟩
theorem ot {W:List UInt8} {ca:Bool} (a:CF 39 [] (.one (.bool true))) (c:CF 20 [.agg [.sl Bo X,.sl .u8 W],.one (.int .i64 2)] (.AG [(false,[.sl BI Q]),(false,[.bool true])])) (cq:CF 43 [.one (.sl BI Q)] (.one (.bool false))):CF 9 [.agg [.sl (.pr .u8 (.pr .u8 (.pr .u8 (.pr .i8 .u8)))) X,.sl .u8 W],.agg [.bool ca,.int .u8 pa,.int .u8 pb,.bool ba],.one (.int .i64 kd)] (.one (.bool true)):=by
 refine Ah Tryz.func9 fun E b=>?_
 conv=>cbv
 refine AB b a ?_;conv=>cbv
 refine AL ?_;conv=>cbv
 refine AB b c ?_;conv=>cbv
 refine AL ?_;conv=>cbv
 refine AB b cq ?_;conv=>cbv
 refine Aw ?_;conv=>cbv
 exact AF ⟨t2,trivial⟩
theorem oo {W:List UInt8} {ca:Bool} (b:CF 39 [] (.one (.bool true))) (c:CF 20 [.agg [.sl Bo X,.sl .u8 W],.one (.int .i64 2)] (.AG [(false,[.sl BI Q]),(false,[.bool true])])) (cq:CF 43 [.one (.sl BI Q)] (.one (.bool true))) (c1:CF 44 [.agg [.bool ca,.int .u8 pa,.int .u8 pb,.bool ba],.one (.sl BI Q)] (.AG [(true,[.int .i64 k1,.sl (.sl AA) D6,.sl AA Du,.sl (.sl AA) D7,.sl AA Dv,.sl (.sl AA) D8,.sl AA Dw,.sl (.sl AA) D9,.sl AA Dx,.sl (.sl AA) EA,.sl AA Dy,.sl (.sl AA) EB,.sl AA Dz,.sl (.sl AA) EC,.sl AA D1,.sl (.sl AA) ED,.sl AA D3,.sl (.sl AA) EF,.sl AA D4,.sl (.sl AA) EG,.sl AA D5]),(false,[.bool false])])):CF 9 [.agg [.sl (.pr .u8 (.pr .u8 (.pr .u8 (.pr .i8 .u8)))) X,.sl .u8 W],.agg [.bool ca,.int .u8 pa,.int .u8 pb,.bool ba],.one (.int .i64 kd)] (.one (.bool true)):=by
 refine Ah Tryz.func9 fun E a=>?_
 conv=>cbv
 refine AB a b ?_;conv=>cbv
 refine AL ?_;conv=>cbv
 refine AB a c ?_;conv=>cbv
 refine AL ?_;conv=>cbv
 refine AB a cq ?_;conv=>cbv
 refine AL ?_;conv=>cbv
 refine AB a c1 ?_;conv=>cbv
 refine Aw ?_;conv=>cbv
 exact AF ⟨t2,trivial⟩
def oa (Q:List (el BI)) (a:AV) (x0:el BI):Prop:=∀x∈Q,∃b e:Bool,CF 45 [a,.agg [.sl (.sl AA) x.1.1,.sl AA x.1.2,.sl (.sl AA) x.2.1,.sl AA x.2.2]] (.one (.bool b))/\CF 46 [a,.agg [.sl (.sl AA) x.1.1,.sl AA x.1.2,.sl (.sl AA) x.2.1,.sl AA x.2.2]] (.one (.bool b))/\CF 45 [.agg [.int .i64 3,AD,AE,AD,AE,AD,AE,AD,AE,AD,AE,AD,AE,AD,AE,AD,AE,.sl (.sl AA) x0.1.1,.sl AA x0.1.2,.sl (.sl AA) x0.2.1,.sl AA x0.2.2],.agg [.sl (.sl AA) x.1.1,.sl AA x.1.2,.sl (.sl AA) x.2.1,.sl AA x.2.2]] (.one (.bool e))/\CF 26 [.agg [.sl (.sl AA) x.1.1,.sl AA x.1.2,.sl (.sl AA) x.2.1,.sl AA x.2.2],.agg [.sl (.sl AA) x0.1.1,.sl AA x0.1.2,.sl (.sl AA) x0.2.1,.sl AA x0.2.2]] (.one (.bool e))
theorem od {W:List UInt8} {ca:Bool} {c:el BI} (J:Q[0]? =some c) (B:oa Q (.agg [.int .i64 k1,.sl (.sl AA) D6,.sl AA Du,.sl (.sl AA) D7,.sl AA Dv,.sl (.sl AA) D8,.sl AA Dw,.sl (.sl AA) D9,.sl AA Dx,.sl (.sl AA) EA,.sl AA Dy,.sl (.sl AA) EB,.sl AA Dz,.sl (.sl AA) EC,.sl AA D1,.sl (.sl AA) ED,.sl AA D3,.sl (.sl AA) EF,.sl AA D4,.sl (.sl AA) EG,.sl AA D5]) c) (hk:1<=kd/\kd<=3) (A:CF 39 [] (.one (.bool true))) (N:CF 20 [.agg [.sl Bo X,.sl .u8 W],.one (.int .i64 2)] (.AG [(false,[.sl BI Q]),(false,[.bool true])])) (cq:CF 43 [.one (.sl BI Q)] (.one (.bool true))) (c1:CF 44 [.agg [.bool ca,.int .u8 pa,.int .u8 pb,.bool ba],.one (.sl BI Q)] (.AG [(true,[.int .i64 k1,.sl (.sl AA) D6,.sl AA Du,.sl (.sl AA) D7,.sl AA Dv,.sl (.sl AA) D8,.sl AA Dw,.sl (.sl AA) D9,.sl AA Dx,.sl (.sl AA) EA,.sl AA Dy,.sl (.sl AA) EB,.sl AA Dz,.sl (.sl AA) EC,.sl AA D1,.sl (.sl AA) ED,.sl AA D3,.sl (.sl AA) EF,.sl AA D4,.sl (.sl AA) EG,.sl AA D5]),(false,[.bool true])])):CF 9 [.agg [.sl (.pr .u8 (.pr .u8 (.pr .u8 (.pr .i8 .u8)))) X,.sl .u8 W],.agg [.bool ca,.int .u8 pa,.int .u8 pb,.bool ba],.one (.int .i64 kd)] (.one (.bool true)):=by
 refine Ah Tryz.func9 fun E a=>?_
 conv=>cbv
 refine AB a A ?_;conv=>cbv
 refine AL ?_;conv=>cbv
 refine AB a N ?_;conv=>cbv
 refine AL ?_;conv=>cbv
 refine AB a cq ?_;conv=>cbv
 refine AL ?_;conv=>cbv
 refine AB a c1 ?_;conv=>cbv
 refine AL ?_;conv=>cbv
 refine⟨c,fun _=>⟨by omega,J⟩,?_⟩;try conv=>cbv
 rintro D ⟨O,f48⟩;conv=>cbv
 refine .inr ?_;obtain⟨L,g⟩:=xJ fun vs I k=>∃(k':Nat) (j:Int),vs=[.one (.int .i64 kd),.one (.sl BI Q),.one (.As 9 0 0),.one (.As 11 0 0),.one (.sl BI Q),.one (.int .i64 D),.one (.int .i64 j)]/\I=[.var 0 [.int .i64 k1,.sl (.sl AA) D6,.sl AA Du,.sl (.sl AA) D7,.sl AA Dv,.sl (.sl AA) D8,.sl AA Dw,.sl (.sl AA) D9,.sl AA Dx,.sl (.sl AA) EA,.sl AA Dy,.sl (.sl AA) EB,.sl AA Dz,.sl (.sl AA) EC,.sl AA D1,.sl (.sl AA) ED,.sl AA D3,.sl (.sl AA) EF,.sl AA D4,.sl (.sl AA) EG,.sl AA D5],.var 0 [.int .i64 3,.nil,.nil,.nil,.nil,.nil,.nil,.nil,.nil,.nil,.nil,.nil,.nil,.nil,.nil,.nil,.nil,.sl (.sl AA) c.1.1,.sl AA c.1.2,.sl (.sl AA) c.2.1,.sl AA c.2.2]]/\(Ag j k'/\k'<=Q.length)/\k=Q.length-k'
 refine⟨[],[2,7,9,11,47,48,49],[9,11],L,⟨Q.length-0,by rw[g];exact⟨0,0,rfl,rfl,⟨⟨rfl⟩,Nat.zero_le _⟩,rfl⟩⟩,?_⟩;intro vs I Y z;rw[g] at z;obtain⟨k',j,rfl,rfl,⟨z,T⟩,U⟩:=z;conv=>cbv
 have ej:=z.eq;intro F h;conv=>cbv
 cases F <;> conv=>cbv
 ·have C:=BK h;intro G m;conv=>cbv
  cases G <;> conv=>cbv
  ·have q:=F0 m;exact absurd q (by omega)
  have q:=F1 m;intro H o;conv=>cbv
  cases H <;> conv=>cbv
  ·have r:=Kz o;exact absurd r (by omega)
  have r:=K4 o;exact AF ⟨t2,trivial⟩
 have C:=BL h;refine .inr ?_;obtain⟨u,b⟩:=AS (l:=Q) (i:=k') (by omega);refine⟨u,fun _=>⟨by omega,by rw[show (j).toNat=k' by omega];exact b⟩,?_⟩;try conv=>cbv
 obtain⟨M,R,o1,o2,o3,o4⟩:=B u (List.mem_of_getElem? b);refine AB a o1 ?_;conv=>cbv
 refine AB a o2 ?_;conv=>cbv
 intro Z d;(have d:=d.trans (show _=false by simp));subst d;conv=>cbv
 refine cL a o3 ⟨⟨rfl,.inr ⟨_,rfl⟩,.inr ⟨_,rfl⟩,.inr ⟨_,rfl⟩,.inr ⟨_,rfl⟩,.inr ⟨_,rfl⟩,.inr ⟨_,rfl⟩,.inr ⟨_,rfl⟩,.inr ⟨_,rfl⟩,.inr ⟨_,rfl⟩,.inr ⟨_,rfl⟩,.inr ⟨_,rfl⟩,.inr ⟨_,rfl⟩,.inr ⟨_,rfl⟩,.inr ⟨_,rfl⟩,.inr ⟨_,rfl⟩,.inr ⟨_,rfl⟩,rfl,rfl,rfl,rfl,trivial⟩,t4,trivial⟩ ?_;try conv=>cbv
 refine⟨c,fun _=>⟨by omega,J⟩,?_⟩;try conv=>cbv
 refine AB a o4 ?_;conv=>cbv
 intro a1 f;(have f:=f.trans (show _=false by simp));subst f;conv=>cbv
 refine Bg ?_;intro a2 S;conv=>cbv
 refine AQ ?_;refine⟨Q.length-(k'+1),?_,?_⟩
 ·omega
 rw[g];exact⟨k'+1,_,rfl,rfl,⟨⟨by omega⟩,by omega⟩,rfl⟩
theorem oe {W:List UInt8} {ca:Bool} {a:el BI} (h:Q[0]? =some a) (A:oa Q (.agg [.int .i64 k1,.sl (.sl AA) D6,.sl AA Du,.sl (.sl AA) D7,.sl AA Dv,.sl (.sl AA) D8,.sl AA Dw,.sl (.sl AA) D9,.sl AA Dx,.sl (.sl AA) EA,.sl AA Dy,.sl (.sl AA) EB,.sl AA Dz,.sl (.sl AA) EC,.sl AA D1,.sl (.sl AA) ED,.sl AA D3,.sl (.sl AA) EF,.sl AA D4,.sl (.sl AA) EG,.sl AA D5]) a) (hk:kd<1\/3<kd) (z:CF 39 [] (.one (.bool true))) (S:CF 20 [.agg [.sl Bo X,.sl .u8 W],.one (.int .i64 2)] (.AG [(false,[.sl BI Q]),(false,[.bool true])])) (cq:CF 43 [.one (.sl BI Q)] (.one (.bool true))) (c1:CF 44 [.agg [.bool ca,.int .u8 pa,.int .u8 pb,.bool ba],.one (.sl BI Q)] (.AG [(true,[.int .i64 k1,.sl (.sl AA) D6,.sl AA Du,.sl (.sl AA) D7,.sl AA Dv,.sl (.sl AA) D8,.sl AA Dw,.sl (.sl AA) D9,.sl AA Dx,.sl (.sl AA) EA,.sl AA Dy,.sl (.sl AA) EB,.sl AA Dz,.sl (.sl AA) EC,.sl AA D1,.sl (.sl AA) ED,.sl AA D3,.sl (.sl AA) EF,.sl AA D4,.sl (.sl AA) EG,.sl AA D5]),(false,[.bool true])])) (c2:CF 47 [.agg [.int .i64 kd,.sl (.sl AA) D6,.sl AA Du,.sl (.sl AA) D7,.sl AA Dv,.sl (.sl AA) D8,.sl AA Dw,.sl (.sl AA) D9,.sl AA Dx,.sl (.sl AA) EA,.sl AA Dy,.sl (.sl AA) EB,.sl AA Dz,.sl (.sl AA) EC,.sl AA D1,.sl (.sl AA) ED,.sl AA D3,.sl (.sl AA) EF,.sl AA D4,.sl (.sl AA) EG,.sl AA D5],.agg [.int .i64 k1,.sl (.sl AA) D6,.sl AA Du,.sl (.sl AA) D7,.sl AA Dv,.sl (.sl AA) D8,.sl AA Dw,.sl (.sl AA) D9,.sl AA Dx,.sl (.sl AA) EA,.sl AA Dy,.sl (.sl AA) EB,.sl AA Dz,.sl (.sl AA) EC,.sl AA D1,.sl (.sl AA) ED,.sl AA D3,.sl (.sl AA) EF,.sl AA D4,.sl (.sl AA) EG,.sl AA D5],.one (.int .i64 1)] (.AG [(true,[AD,AE,AD,AE]),(false,[.int .i64 1])])) (L:CF 47 [.agg [.int .i64 k1,.sl (.sl AA) D6,.sl AA Du,.sl (.sl AA) D7,.sl AA Dv,.sl (.sl AA) D8,.sl AA Dw,.sl (.sl AA) D9,.sl AA Dx,.sl (.sl AA) EA,.sl AA Dy,.sl (.sl AA) EB,.sl AA Dz,.sl (.sl AA) EC,.sl AA D1,.sl (.sl AA) ED,.sl AA D3,.sl (.sl AA) EF,.sl AA D4,.sl (.sl AA) EG,.sl AA D5],.agg [.int .i64 3,AD,AE,AD,AE,AD,AE,AD,AE,AD,AE,AD,AE,AD,AE,AD,AE,.sl (.sl AA) a.1.1,.sl AA a.1.2,.sl (.sl AA) a.2.1,.sl AA a.2.2],.one (.int .i64 1)] (.AG [(true,[AD,AE,AD,AE]),(false,[.int .i64 1])])) (M:CF 48 [.agg [.int .i64 k1,.sl (.sl AA) D6,.sl AA Du,.sl (.sl AA) D7,.sl AA Dv,.sl (.sl AA) D8,.sl AA Dw,.sl (.sl AA) D9,.sl AA Dx,.sl (.sl AA) EA,.sl AA Dy,.sl (.sl AA) EB,.sl AA Dz,.sl (.sl AA) EC,.sl AA D1,.sl (.sl AA) ED,.sl AA D3,.sl (.sl AA) EF,.sl AA D4,.sl (.sl AA) EG,.sl AA D5],.agg [.int .i64 kd,.sl (.sl AA) D6,.sl AA Du,.sl (.sl AA) D7,.sl AA Dv,.sl (.sl AA) D8,.sl AA Dw,.sl (.sl AA) D9,.sl AA Dx,.sl (.sl AA) EA,.sl AA Dy,.sl (.sl AA) EB,.sl AA Dz,.sl (.sl AA) EC,.sl AA D1,.sl (.sl AA) ED,.sl AA D3,.sl (.sl AA) EF,.sl AA D4,.sl (.sl AA) EG,.sl AA D5],.agg (AH a.1.1 a.1.2 a.2.1 a.2.2)] (.AG [(false,[.int .i64 0]),(false,[.int .i64 1])])) (N:CF 45 [.agg [.int .i64 kd,.sl (.sl AA) D6,.sl AA Du,.sl (.sl AA) D7,.sl AA Dv,.sl (.sl AA) D8,.sl AA Dw,.sl (.sl AA) D9,.sl AA Dx,.sl (.sl AA) EA,.sl AA Dy,.sl (.sl AA) EB,.sl AA Dz,.sl (.sl AA) EC,.sl AA D1,.sl (.sl AA) ED,.sl AA D3,.sl (.sl AA) EF,.sl AA D4,.sl (.sl AA) EG,.sl AA D5],.agg (AH a.1.1 a.1.2 a.2.1 a.2.2)] (.one (.bool false))):CF 9 [.agg [.sl (.pr .u8 (.pr .u8 (.pr .u8 (.pr .i8 .u8)))) X,.sl .u8 W],.agg [.bool ca,.int .u8 pa,.int .u8 pb,.bool ba],.one (.int .i64 kd)] (.one (.bool true)):=by
 refine Ah Tryz.func9 fun E b=>?_
 conv=>cbv
 refine AB b z ?_;conv=>cbv
 refine AL ?_;conv=>cbv
 refine AB b S ?_;conv=>cbv
 refine AL ?_;conv=>cbv
 refine AB b cq ?_;conv=>cbv
 refine AL ?_;conv=>cbv
 refine AB b c1 ?_;conv=>cbv
 refine AL ?_;conv=>cbv
 refine⟨a,fun _=>⟨by omega,h⟩,?_⟩;try conv=>cbv
 rintro F ⟨T,f48⟩;conv=>cbv
 refine .inr ?_;obtain⟨O,g⟩:=xJ fun vs J k=>∃(k':Nat) (j:Int),vs=[.one (.int .i64 kd),.one (.sl BI Q),.one (.As 9 0 0),.one (.As 11 0 0),.one (.sl BI Q),.one (.int .i64 F),.one (.int .i64 j)]/\J=[.var 0 [.int .i64 k1,.sl (.sl AA) D6,.sl AA Du,.sl (.sl AA) D7,.sl AA Dv,.sl (.sl AA) D8,.sl AA Dw,.sl (.sl AA) D9,.sl AA Dx,.sl (.sl AA) EA,.sl AA Dy,.sl (.sl AA) EB,.sl AA Dz,.sl (.sl AA) EC,.sl AA D1,.sl (.sl AA) ED,.sl AA D3,.sl (.sl AA) EF,.sl AA D4,.sl (.sl AA) EG,.sl AA D5],.var 0 [.int .i64 3,.nil,.nil,.nil,.nil,.nil,.nil,.nil,.nil,.nil,.nil,.nil,.nil,.nil,.nil,.nil,.nil,.sl (.sl AA) a.1.1,.sl AA a.1.2,.sl (.sl AA) a.2.1,.sl AA a.2.2]]/\(Ag j k'/\k'<=Q.length)/\k=Q.length-k'
 refine⟨[],[2,7,9,11,47,48,49],[9,11],O,⟨Q.length-0,by rw[g];exact⟨0,0,rfl,rfl,⟨⟨rfl⟩,Nat.zero_le _⟩,rfl⟩⟩,?_⟩;intro vs J a2 u;rw[g] at u;obtain⟨k',j,rfl,rfl,⟨u,Z⟩,a1⟩:=u;conv=>cbv
 have ej:=u.eq;intro G m;conv=>cbv
 cases G <;> conv=>cbv
 ·have B:=BK m;intro H o;conv=>cbv
  cases H <;> conv=>cbv
  ·have C:=F0 o;refine AB b c2 ?_;conv=>cbv
   refine cL b L ⟨⟨rfl,rfl,rfl,rfl,rfl,rfl,rfl,rfl,rfl,rfl,rfl,rfl,rfl,rfl,rfl,rfl,rfl,rfl,rfl,rfl,rfl,trivial⟩,⟨rfl,.inr ⟨_,rfl⟩,.inr ⟨_,rfl⟩,.inr ⟨_,rfl⟩,.inr ⟨_,rfl⟩,.inr ⟨_,rfl⟩,.inr ⟨_,rfl⟩,.inr ⟨_,rfl⟩,.inr ⟨_,rfl⟩,.inr ⟨_,rfl⟩,.inr ⟨_,rfl⟩,.inr ⟨_,rfl⟩,.inr ⟨_,rfl⟩,.inr ⟨_,rfl⟩,.inr ⟨_,rfl⟩,.inr ⟨_,rfl⟩,.inr ⟨_,rfl⟩,rfl,rfl,rfl,rfl,trivial⟩,rfl,trivial⟩ ?_;try conv=>cbv
   refine⟨a,fun _=>⟨by omega,h⟩,?_⟩;try conv=>cbv
   refine AB b M ?_;conv=>cbv
   refine Bg ?_;refine⟨a,fun _=>⟨by omega,h⟩,?_⟩;try conv=>cbv
   refine AB b N ?_;conv=>cbv
   refine Aw ?_;conv=>cbv
   refine Aw ?_;conv=>cbv
   refine Aw ?_;conv=>cbv
   refine Aw ?_;conv=>cbv
   refine Bg ?_;exact AF ⟨t2,trivial⟩
  have C:=F1 o;intro I q;conv=>cbv
  cases I <;> conv=>cbv
  ·have D:=Kz q;refine AB b c2 ?_;conv=>cbv
   refine cL b L ⟨⟨rfl,rfl,rfl,rfl,rfl,rfl,rfl,rfl,rfl,rfl,rfl,rfl,rfl,rfl,rfl,rfl,rfl,rfl,rfl,rfl,rfl,trivial⟩,⟨rfl,.inr ⟨_,rfl⟩,.inr ⟨_,rfl⟩,.inr ⟨_,rfl⟩,.inr ⟨_,rfl⟩,.inr ⟨_,rfl⟩,.inr ⟨_,rfl⟩,.inr ⟨_,rfl⟩,.inr ⟨_,rfl⟩,.inr ⟨_,rfl⟩,.inr ⟨_,rfl⟩,.inr ⟨_,rfl⟩,.inr ⟨_,rfl⟩,.inr ⟨_,rfl⟩,.inr ⟨_,rfl⟩,.inr ⟨_,rfl⟩,.inr ⟨_,rfl⟩,rfl,rfl,rfl,rfl,trivial⟩,rfl,trivial⟩ ?_;try conv=>cbv
   refine⟨a,fun _=>⟨by omega,h⟩,?_⟩;try conv=>cbv
   refine AB b M ?_;conv=>cbv
   refine Bg ?_;refine⟨a,fun _=>⟨by omega,h⟩,?_⟩;try conv=>cbv
   refine AB b N ?_;conv=>cbv
   refine Aw ?_;conv=>cbv
   refine Aw ?_;conv=>cbv
   refine Aw ?_;conv=>cbv
   refine Aw ?_;conv=>cbv
   refine Bg ?_;exact AF ⟨t2,trivial⟩
  have D:=K4 q;exact False.elim (by omega)
 have B:=BL m;refine .inr ?_;obtain⟨r,c⟩:=AS (l:=Q) (i:=k') (by omega);refine⟨r,fun _=>⟨by omega,by rw[show (j).toNat=k' by omega];exact c⟩,?_⟩;try conv=>cbv
 obtain⟨R,U,o1,o2,o3,o4⟩:=A r (List.mem_of_getElem? c);refine AB b o1 ?_;conv=>cbv
 refine AB b o2 ?_;conv=>cbv
 intro a5 d;(have d:=d.trans (show _=false by simp));subst d;conv=>cbv
 refine cL b o3 ⟨⟨rfl,.inr ⟨_,rfl⟩,.inr ⟨_,rfl⟩,.inr ⟨_,rfl⟩,.inr ⟨_,rfl⟩,.inr ⟨_,rfl⟩,.inr ⟨_,rfl⟩,.inr ⟨_,rfl⟩,.inr ⟨_,rfl⟩,.inr ⟨_,rfl⟩,.inr ⟨_,rfl⟩,.inr ⟨_,rfl⟩,.inr ⟨_,rfl⟩,.inr ⟨_,rfl⟩,.inr ⟨_,rfl⟩,.inr ⟨_,rfl⟩,.inr ⟨_,rfl⟩,rfl,rfl,rfl,rfl,trivial⟩,t4,trivial⟩ ?_;try conv=>cbv
 refine⟨a,fun _=>⟨by omega,h⟩,?_⟩;try conv=>cbv
 refine AB b o4 ?_;conv=>cbv
 intro a6 f;(have f:=f.trans (show _=false by simp));subst f;conv=>cbv
 refine Bg ?_;intro a7 Y;conv=>cbv
 refine AQ ?_;refine⟨Q.length-(k'+1),?_,?_⟩
 ·omega
 rw[g];exact⟨k'+1,_,rfl,rfl,⟨⟨by omega⟩,by omega⟩,rfl⟩
theorem oh (A:kd<1\/3<kd):CF 113 [.agg [.int .i64 kd,.sl (.sl AA) D6,.sl AA Du,.sl (.sl AA) D7,.sl AA Dv,.sl (.sl AA) D8,.sl AA Dw,.sl (.sl AA) D9,.sl AA Dx,.sl (.sl AA) EA,.sl AA Dy,.sl (.sl AA) EB,.sl AA Dz,.sl (.sl AA) EC,.sl AA D1,.sl (.sl AA) ED,.sl AA D3,.sl (.sl AA) EF,.sl AA D4,.sl (.sl AA) EG,.sl AA D5],.agg [.int .i64 k2,.sl (.sl AA) Eg,.sl AA EV,.sl (.sl AA) Eh,.sl AA EW,.sl (.sl AA) Ei,.sl AA EX,.sl (.sl AA) Ej,.sl AA EY,.sl (.sl AA) Ek,.sl AA EZ,.sl (.sl AA) Em,.sl AA Ea,.sl (.sl AA) En,.sl AA Eb,.sl (.sl AA) Eo,.sl AA Ec,.sl (.sl AA) Ep,.sl AA Ed,.sl (.sl AA) Er,.sl AA Ee]] (.one (.bool false)):=by
 refine Ah Tryz.func113 fun E z=>?_
 conv=>cbv
 refine⟨[(kd,(((D6,Du),((D7,Dv),(D8,Dw))),(((D9,Dx),(EA,Dy)),((((EB,Dz),(EC,D1)),(ED,D3)),((EF,D4),(EG,D5)))))),(k2,(((Eg,EV),((Eh,EW),(Ei,EX))),(((Ej,EY),(Ek,EZ)),((((Em,Ea),(En,Eb)),(Eo,Ec)),((Ep,Ed),(Er,Ee))))))],fun _=>⟨rfl,by decide,rfl,⟨rfl,⟨rfl,rfl,rfl,rfl,rfl,rfl,rfl,rfl,rfl,rfl,rfl,rfl,rfl,rfl,rfl,rfl,rfl,rfl,rfl,rfl,rfl,trivial⟩,⟨rfl,⟨rfl,rfl,rfl,rfl,rfl,rfl,rfl,rfl,rfl,rfl,rfl,rfl,rfl,rfl,rfl,rfl,rfl,rfl,rfl,rfl,rfl,trivial⟩,trivial⟩⟩⟩,.inr ?_⟩;try conv=>cbv
 rintro h ⟨d,f10⟩;conv=>cbv
 obtain rfl:h=2:=d;refine .inr ?_;obtain⟨q,c⟩:=xJ fun vs m k=>(vs=[.one (.sl E6 [(kd,(((D6,Du),((D7,Dv),(D8,Dw))),(((D9,Dx),(EA,Dy)),((((EB,Dz),(EC,D1)),(ED,D3)),((EF,D4),(EG,D5)))))),(k2,(((Eg,EV),((Eh,EW),(Ei,EX))),(((Ej,EY),(Ek,EZ)),((((Em,Ea),(En,Eb)),(Eo,Ec)),((Ep,Ed),(Er,Ee))))))]),.one (.int .i64 2),.one (.int .i64 0),.one (.As 2 0 0),.one (.As 3 0 0)]/\m=[.var 0 [.int .i64 kd,.sl (.sl AA) D6,.sl AA Du,.sl (.sl AA) D7,.sl AA Dv,.sl (.sl AA) D8,.sl AA Dw,.sl (.sl AA) D9,.sl AA Dx,.sl (.sl AA) EA,.sl AA Dy,.sl (.sl AA) EB,.sl AA Dz,.sl (.sl AA) EC,.sl AA D1,.sl (.sl AA) ED,.sl AA D3,.sl (.sl AA) EF,.sl AA D4,.sl (.sl AA) EG,.sl AA D5],.var 0 [.int .i64 k2,.sl (.sl AA) Eg,.sl AA EV,.sl (.sl AA) Eh,.sl AA EW,.sl (.sl AA) Ei,.sl AA EX,.sl (.sl AA) Ej,.sl AA EY,.sl (.sl AA) Ek,.sl AA EZ,.sl (.sl AA) Em,.sl AA Ea,.sl (.sl AA) En,.sl AA Eb,.sl (.sl AA) Eo,.sl AA Ec,.sl (.sl AA) Ep,.sl AA Ed,.sl (.sl AA) Er,.sl AA Ee]]/\k=2)
 refine⟨[],[9,10,11,2,3],[2,3],q,⟨2,by rw[c];exact⟨rfl,rfl,rfl⟩⟩,?_⟩;intro vs m u o;rw[c] at o;rcases o with⟨rfl,rfl,r⟩
 ·conv=>cbv
  refine Aw ?_;conv=>cbv
  refine .inr ?_;refine⟨(kd,(((D6,Du),((D7,Dv),(D8,Dw))),(((D9,Dx),(EA,Dy)),((((EB,Dz),(EC,D1)),(ED,D3)),((EF,D4),(EG,D5)))))),fun _=>⟨by omega,rfl⟩,?_⟩;try conv=>cbv
  intro j a;conv=>cbv
  cases j <;> conv=>cbv
  ·have f:=DQ a;exact False.elim (by omega)
  have f:=DR a;intro l b;conv=>cbv
  cases l <;> conv=>cbv
  ·have g:=DQ b;exact False.elim (by omega)
  have g:=DR b;exact AF ⟨t2,trivial⟩
theorem ow (G:kd<1\/3<kd) (ca:CF 119 [.agg (AN T1 A1 T2 A2 T3 A3),.agg (AH T4 A4 T5 A5)] (.one (.bool true))):CF 113 [(CJ T1 A1 T2 A2 T3 A3 T4 A4 T5 A5),.agg [.int .i64 kd,.sl (.sl AA) Eg,.sl AA EV,.sl (.sl AA) Eh,.sl AA EW,.sl (.sl AA) Ei,.sl AA EX,.sl (.sl AA) Ej,.sl AA EY,.sl (.sl AA) Ek,.sl AA EZ,.sl (.sl AA) Em,.sl AA Ea,.sl (.sl AA) En,.sl AA Eb,.sl (.sl AA) Eo,.sl AA Ec,.sl (.sl AA) Ep,.sl AA Ed,.sl (.sl AA) Er,.sl AA Ee]] (.one (.bool false)):=by
 refine Ah Tryz.func113 fun E D=>?_
 conv=>cbv
 refine⟨[(1,(((T1,A1),((T2,A2),(T3,A3))),(((T4,A4),(T5,A5)),((((([]:List LR),([]:LR)),(([]:List LR),([]:LR))),(([]:List LR),([]:LR))),((([]:List LR),([]:LR)),(([]:List LR),([]:LR))))))),(kd,(((Eg,EV),((Eh,EW),(Ei,EX))),(((Ej,EY),(Ek,EZ)),((((Em,Ea),(En,Eb)),(Eo,Ec)),((Ep,Ed),(Er,Ee))))))],fun _=>⟨rfl,by decide,rfl,⟨rfl,⟨rfl,rfl,rfl,rfl,rfl,rfl,rfl,rfl,rfl,rfl,rfl,rfl,rfl,rfl,rfl,rfl,rfl,rfl,rfl,rfl,rfl,trivial⟩,⟨rfl,⟨rfl,rfl,rfl,rfl,rfl,rfl,rfl,rfl,rfl,rfl,rfl,rfl,rfl,rfl,rfl,rfl,rfl,rfl,rfl,rfl,rfl,trivial⟩,trivial⟩⟩⟩,.inr ?_⟩;try conv=>cbv
 rintro q ⟨g,f10⟩;conv=>cbv
 obtain rfl:q=2:=g;refine .inr ?_;obtain⟨C,a⟩:=xJ fun vs f k=>(vs=[.one (.sl E6 [(1,(((T1,A1),((T2,A2),(T3,A3))),(((T4,A4),(T5,A5)),((((([]:List LR),([]:LR)),(([]:List LR),([]:LR))),(([]:List LR),([]:LR))),((([]:List LR),([]:LR)),(([]:List LR),([]:LR))))))),(kd,(((Eg,EV),((Eh,EW),(Ei,EX))),(((Ej,EY),(Ek,EZ)),((((Em,Ea),(En,Eb)),(Eo,Ec)),((Ep,Ed),(Er,Ee))))))]),.one (.int .i64 2),.one (.int .i64 0),.one (.As 2 0 0),.one (.As 3 0 0)]/\f=[.var 0 [.int .i64 1,.sl (.sl AA) T1,.sl AA A1,.sl (.sl AA) T2,.sl AA A2,.sl (.sl AA) T3,.sl AA A3,.sl (.sl AA) T4,.sl AA A4,.sl (.sl AA) T5,.sl AA A5,AD,AE,AD,AE,AD,AE,AD,AE,AD,AE],.var 0 [.int .i64 kd,.sl (.sl AA) Eg,.sl AA EV,.sl (.sl AA) Eh,.sl AA EW,.sl (.sl AA) Ei,.sl AA EX,.sl (.sl AA) Ej,.sl AA EY,.sl (.sl AA) Ek,.sl AA EZ,.sl (.sl AA) Em,.sl AA Ea,.sl (.sl AA) En,.sl AA Eb,.sl (.sl AA) Eo,.sl AA Ec,.sl (.sl AA) Ep,.sl AA Ed,.sl (.sl AA) Er,.sl AA Ee]]/\k=2)\/(vs=[.one (.sl E6 [(1,(((T1,A1),((T2,A2),(T3,A3))),(((T4,A4),(T5,A5)),((((([]:List LR),([]:LR)),(([]:List LR),([]:LR))),(([]:List LR),([]:LR))),((([]:List LR),([]:LR)),(([]:List LR),([]:LR))))))),(kd,(((Eg,EV),((Eh,EW),(Ei,EX))),(((Ej,EY),(Ek,EZ)),((((Em,Ea),(En,Eb)),(Eo,Ec)),((Ep,Ed),(Er,Ee))))))]),.one (.int .i64 2),.one (.int .i64 1),.one (.As 2 0 0),.one (.As 3 0 0)]/\f=[.var 0 [.int .i64 1,.sl (.sl AA) T1,.sl AA A1,.sl (.sl AA) T2,.sl AA A2,.sl (.sl AA) T3,.sl AA A3,.sl (.sl AA) T4,.sl AA A4,.sl (.sl AA) T5,.sl AA A5,AD,AE,AD,AE,AD,AE,AD,AE,AD,AE],.var 0 [.int .i64 kd,.sl (.sl AA) Eg,.sl AA EV,.sl (.sl AA) Eh,.sl AA EW,.sl (.sl AA) Ei,.sl AA EX,.sl (.sl AA) Ej,.sl AA EY,.sl (.sl AA) Ek,.sl AA EZ,.sl (.sl AA) Em,.sl AA Ea,.sl (.sl AA) En,.sl AA Eb,.sl (.sl AA) Eo,.sl AA Ec,.sl (.sl AA) Ep,.sl AA Ed,.sl (.sl AA) Er,.sl AA Ee]]/\k=1)
 refine⟨[],[9,10,11,2,3],[2,3],C,⟨2,by rw[a];exact .inl ⟨rfl,rfl,rfl⟩⟩,?_⟩;intro vs f F B;rw[a] at B;rcases B with⟨rfl,rfl,j⟩ |⟨rfl,rfl,j⟩
 ·conv=>cbv
  refine Aw ?_;conv=>cbv
  refine .inr ?_;refine⟨(1,(((T1,A1),((T2,A2),(T3,A3))),(((T4,A4),(T5,A5)),((((([]:List LR),([]:LR)),(([]:List LR),([]:LR))),(([]:List LR),([]:LR))),((([]:List LR),([]:LR)),(([]:List LR),([]:LR))))))),fun _=>⟨by omega,rfl⟩,?_⟩;try conv=>cbv
  refine AL ?_;conv=>cbv
  refine Aw ?_;conv=>cbv
  intro z d;conv=>cbv
  cases z <;> conv=>cbv
  ·have o:=DQ d;exact False.elim (by omega)
  have o:=DR d;refine AB D ca ?_;conv=>cbv
  refine AL ?_;conv=>cbv
  intro A h;conv=>cbv
  refine AQ ?_;obtain rfl:A=1:=h;refine⟨1,?_,?_⟩
  ·omega
  rw[a];exact .inr ⟨rfl,rfl,rfl⟩
 conv=>cbv
 refine Aw ?_;conv=>cbv
 refine .inr ?_;refine⟨(kd,(((Eg,EV),((Eh,EW),(Ei,EX))),(((Ej,EY),(Ek,EZ)),((((Em,Ea),(En,Eb)),(Eo,Ec)),((Ep,Ed),(Er,Ee)))))),fun _=>⟨by omega,rfl⟩,?_⟩;try conv=>cbv
 intro r b;conv=>cbv
 cases r <;> conv=>cbv
 ·have l:=DQ b;exact False.elim (by omega)
 have l:=DR b;intro u c;conv=>cbv
 cases u <;> conv=>cbv
 ·have m:=DQ c;exact False.elim (by omega)
 have m:=DR c;exact AF ⟨t2,trivial⟩
theorem ou (C:kd<1\/3<kd):CF 113 [(B4 Ta Aa Tb Ab Tc Ac),.agg [.int .i64 kd,.sl (.sl AA) Eg,.sl AA EV,.sl (.sl AA) Eh,.sl AA EW,.sl (.sl AA) Ei,.sl AA EX,.sl (.sl AA) Ej,.sl AA EY,.sl (.sl AA) Ek,.sl AA EZ,.sl (.sl AA) Em,.sl AA Ea,.sl (.sl AA) En,.sl AA Eb,.sl (.sl AA) Eo,.sl AA Ec,.sl (.sl AA) Ep,.sl AA Ed,.sl (.sl AA) Er,.sl AA Ee]] (.one (.bool false)):=by
 refine Ah Tryz.func113 fun E B=>?_
 conv=>cbv
 refine⟨[(2,(((([]:List LR),([]:LR)),((([]:List LR),([]:LR)),(([]:List LR),([]:LR)))),(((([]:List LR),([]:LR)),(([]:List LR),([]:LR))),((((Ta,Aa),(Tb,Ab)),(Tc,Ac)),((([]:List LR),([]:LR)),(([]:List LR),([]:LR))))))),(kd,(((Eg,EV),((Eh,EW),(Ei,EX))),(((Ej,EY),(Ek,EZ)),((((Em,Ea),(En,Eb)),(Eo,Ec)),((Ep,Ed),(Er,Ee))))))],fun _=>⟨rfl,by decide,rfl,⟨rfl,⟨rfl,rfl,rfl,rfl,rfl,rfl,rfl,rfl,rfl,rfl,rfl,rfl,rfl,rfl,rfl,rfl,rfl,rfl,rfl,rfl,rfl,trivial⟩,⟨rfl,⟨rfl,rfl,rfl,rfl,rfl,rfl,rfl,rfl,rfl,rfl,rfl,rfl,rfl,rfl,rfl,rfl,rfl,rfl,rfl,rfl,rfl,trivial⟩,trivial⟩⟩⟩,.inr ?_⟩;try conv=>cbv
 rintro m ⟨f,f10⟩;conv=>cbv
 obtain rfl:m=2:=f;refine .inr ?_;obtain⟨z,a⟩:=xJ fun vs d k=>(vs=[.one (.sl E6 [(2,(((([]:List LR),([]:LR)),((([]:List LR),([]:LR)),(([]:List LR),([]:LR)))),(((([]:List LR),([]:LR)),(([]:List LR),([]:LR))),((((Ta,Aa),(Tb,Ab)),(Tc,Ac)),((([]:List LR),([]:LR)),(([]:List LR),([]:LR))))))),(kd,(((Eg,EV),((Eh,EW),(Ei,EX))),(((Ej,EY),(Ek,EZ)),((((Em,Ea),(En,Eb)),(Eo,Ec)),((Ep,Ed),(Er,Ee))))))]),.one (.int .i64 2),.one (.int .i64 0),.one (.As 2 0 0),.one (.As 3 0 0)]/\d=[.var 0 [.int .i64 2,AD,AE,AD,AE,AD,AE,AD,AE,AD,AE,.sl (.sl AA) Ta,.sl AA Aa,.sl (.sl AA) Tb,.sl AA Ab,.sl (.sl AA) Tc,.sl AA Ac,AD,AE,AD,AE],.var 0 [.int .i64 kd,.sl (.sl AA) Eg,.sl AA EV,.sl (.sl AA) Eh,.sl AA EW,.sl (.sl AA) Ei,.sl AA EX,.sl (.sl AA) Ej,.sl AA EY,.sl (.sl AA) Ek,.sl AA EZ,.sl (.sl AA) Em,.sl AA Ea,.sl (.sl AA) En,.sl AA Eb,.sl (.sl AA) Eo,.sl AA Ec,.sl (.sl AA) Ep,.sl AA Ed,.sl (.sl AA) Er,.sl AA Ee]]/\k=2)\/(vs=[.one (.sl E6 [(2,(((([]:List LR),([]:LR)),((([]:List LR),([]:LR)),(([]:List LR),([]:LR)))),(((([]:List LR),([]:LR)),(([]:List LR),([]:LR))),((((Ta,Aa),(Tb,Ab)),(Tc,Ac)),((([]:List LR),([]:LR)),(([]:List LR),([]:LR))))))),(kd,(((Eg,EV),((Eh,EW),(Ei,EX))),(((Ej,EY),(Ek,EZ)),((((Em,Ea),(En,Eb)),(Eo,Ec)),((Ep,Ed),(Er,Ee))))))]),.one (.int .i64 2),.one (.int .i64 1),.one (.As 2 0 0),.one (.As 3 0 0)]/\d=[.var 0 [.int .i64 2,AD,AE,AD,AE,AD,AE,AD,AE,AD,AE,.sl (.sl AA) Ta,.sl AA Aa,.sl (.sl AA) Tb,.sl AA Ab,.sl (.sl AA) Tc,.sl AA Ac,AD,AE,AD,AE],.var 0 [.int .i64 kd,.sl (.sl AA) Eg,.sl AA EV,.sl (.sl AA) Eh,.sl AA EW,.sl (.sl AA) Ei,.sl AA EX,.sl (.sl AA) Ej,.sl AA EY,.sl (.sl AA) Ek,.sl AA EZ,.sl (.sl AA) Em,.sl AA Ea,.sl (.sl AA) En,.sl AA Eb,.sl (.sl AA) Eo,.sl AA Ec,.sl (.sl AA) Ep,.sl AA Ed,.sl (.sl AA) Er,.sl AA Ee]]/\k=1)
 refine⟨[],[9,10,11,2,3],[2,3],z,⟨2,by rw[a];exact .inl ⟨rfl,rfl,rfl⟩⟩,?_⟩;intro vs d A u;rw[a] at u;rcases u with⟨rfl,rfl,h⟩ |⟨rfl,rfl,h⟩
 ·conv=>cbv
  refine Aw ?_;conv=>cbv
  refine .inr ?_;refine⟨(2,(((([]:List LR),([]:LR)),((([]:List LR),([]:LR)),(([]:List LR),([]:LR)))),(((([]:List LR),([]:LR)),(([]:List LR),([]:LR))),((((Ta,Aa),(Tb,Ab)),(Tc,Ac)),((([]:List LR),([]:LR)),(([]:List LR),([]:LR))))))),fun _=>⟨by omega,rfl⟩,?_⟩;try conv=>cbv
  refine Aw ?_;conv=>cbv
  refine AL ?_;conv=>cbv
  refine AL ?_;conv=>cbv
  intro r g;conv=>cbv
  refine AQ ?_;obtain rfl:r=1:=g;refine⟨1,?_,?_⟩
  ·omega
  rw[a];exact .inr ⟨rfl,rfl,rfl⟩
 conv=>cbv
 refine Aw ?_;conv=>cbv
 refine .inr ?_;refine⟨(kd,(((Eg,EV),((Eh,EW),(Ei,EX))),(((Ej,EY),(Ek,EZ)),((((Em,Ea),(En,Eb)),(Eo,Ec)),((Ep,Ed),(Er,Ee)))))),fun _=>⟨by omega,rfl⟩,?_⟩;try conv=>cbv
 intro o b;conv=>cbv
 cases o <;> conv=>cbv
 ·have j:=DQ b;exact False.elim (by omega)
 have j:=DR b;intro q c;conv=>cbv
 cases q <;> conv=>cbv
 ·have l:=DQ c;exact False.elim (by omega)
 have l:=DR c;exact AF ⟨t2,trivial⟩
theorem ox (ca:CF 119 [.agg (AN T1 A1 T2 A2 T3 A3),.agg (AH T4 A4 T5 A5)] (.one (.bool true))):CF 113 [(CJ T1 A1 T2 A2 T3 A3 T4 A4 T5 A5),(oZ Tx Ax Ty Ay)] (.one (.bool false)):=by
 refine Ah Tryz.func113 fun E m=>?_
 conv=>cbv
 refine⟨[(1,(((T1,A1),((T2,A2),(T3,A3))),(((T4,A4),(T5,A5)),((((([]:List LR),([]:LR)),(([]:List LR),([]:LR))),(([]:List LR),([]:LR))),((([]:List LR),([]:LR)),(([]:List LR),([]:LR))))))),(3,(((([]:List LR),([]:LR)),((([]:List LR),([]:LR)),(([]:List LR),([]:LR)))),(((([]:List LR),([]:LR)),(([]:List LR),([]:LR))),((((([]:List LR),([]:LR)),(([]:List LR),([]:LR))),(([]:List LR),([]:LR))),((Tx,Ax),(Ty,Ay))))))],fun _=>⟨rfl,by decide,rfl,⟨rfl,⟨rfl,rfl,rfl,rfl,rfl,rfl,rfl,rfl,rfl,rfl,rfl,rfl,rfl,rfl,rfl,rfl,rfl,rfl,rfl,rfl,rfl,trivial⟩,⟨rfl,⟨rfl,rfl,rfl,rfl,rfl,rfl,rfl,rfl,rfl,rfl,rfl,rfl,rfl,rfl,rfl,rfl,rfl,rfl,rfl,rfl,rfl,trivial⟩,trivial⟩⟩⟩,.inr ?_⟩;try conv=>cbv
 rintro g ⟨c,f10⟩;conv=>cbv
 obtain rfl:g=2:=c;refine .inr ?_;obtain⟨l,a⟩:=xJ fun vs b k=>(vs=[.one (.sl E6 [(1,(((T1,A1),((T2,A2),(T3,A3))),(((T4,A4),(T5,A5)),((((([]:List LR),([]:LR)),(([]:List LR),([]:LR))),(([]:List LR),([]:LR))),((([]:List LR),([]:LR)),(([]:List LR),([]:LR))))))),(3,(((([]:List LR),([]:LR)),((([]:List LR),([]:LR)),(([]:List LR),([]:LR)))),(((([]:List LR),([]:LR)),(([]:List LR),([]:LR))),((((([]:List LR),([]:LR)),(([]:List LR),([]:LR))),(([]:List LR),([]:LR))),((Tx,Ax),(Ty,Ay))))))]),.one (.int .i64 2),.one (.int .i64 0),.one (.As 2 0 0),.one (.As 3 0 0)]/\b=[.var 0 [.int .i64 1,.sl (.sl AA) T1,.sl AA A1,.sl (.sl AA) T2,.sl AA A2,.sl (.sl AA) T3,.sl AA A3,.sl (.sl AA) T4,.sl AA A4,.sl (.sl AA) T5,.sl AA A5,AD,AE,AD,AE,AD,AE,AD,AE,AD,AE],.var 0 [.int .i64 3,AD,AE,AD,AE,AD,AE,AD,AE,AD,AE,AD,AE,AD,AE,AD,AE,.sl (.sl AA) Tx,.sl AA Ax,.sl (.sl AA) Ty,.sl AA Ay]]/\k=2)\/(vs=[.one (.sl E6 [(1,(((T1,A1),((T2,A2),(T3,A3))),(((T4,A4),(T5,A5)),((((([]:List LR),([]:LR)),(([]:List LR),([]:LR))),(([]:List LR),([]:LR))),((([]:List LR),([]:LR)),(([]:List LR),([]:LR))))))),(3,(((([]:List LR),([]:LR)),((([]:List LR),([]:LR)),(([]:List LR),([]:LR)))),(((([]:List LR),([]:LR)),(([]:List LR),([]:LR))),((((([]:List LR),([]:LR)),(([]:List LR),([]:LR))),(([]:List LR),([]:LR))),((Tx,Ax),(Ty,Ay))))))]),.one (.int .i64 2),.one (.int .i64 1),.one (.As 2 0 0),.one (.As 3 0 0)]/\b=[.var 0 [.int .i64 1,.sl (.sl AA) T1,.sl AA A1,.sl (.sl AA) T2,.sl AA A2,.sl (.sl AA) T3,.sl AA A3,.sl (.sl AA) T4,.sl AA A4,.sl (.sl AA) T5,.sl AA A5,AD,AE,AD,AE,AD,AE,AD,AE,AD,AE],.var 0 [.int .i64 3,AD,AE,AD,AE,AD,AE,AD,AE,AD,AE,AD,AE,AD,AE,AD,AE,.sl (.sl AA) Tx,.sl AA Ax,.sl (.sl AA) Ty,.sl AA Ay]]/\k=1)
 refine⟨[],[9,10,11,2,3],[2,3],l,⟨2,by rw[a];exact .inl ⟨rfl,rfl,rfl⟩⟩,?_⟩;intro vs b o j;rw[a] at j;rcases j with⟨rfl,rfl,f⟩ |⟨rfl,rfl,f⟩
 ·conv=>cbv
  refine Aw ?_;conv=>cbv
  refine .inr ?_;refine⟨(1,(((T1,A1),((T2,A2),(T3,A3))),(((T4,A4),(T5,A5)),((((([]:List LR),([]:LR)),(([]:List LR),([]:LR))),(([]:List LR),([]:LR))),((([]:List LR),([]:LR)),(([]:List LR),([]:LR))))))),fun _=>⟨by omega,rfl⟩,?_⟩;try conv=>cbv
  refine AL ?_;conv=>cbv
  refine Aw ?_;conv=>cbv
  refine Aw ?_;conv=>cbv
  refine AB m ca ?_;conv=>cbv
  refine AL ?_;conv=>cbv
  intro h d;conv=>cbv
  refine AQ ?_;obtain rfl:h=1:=d;refine⟨1,?_,?_⟩
  ·omega
  rw[a];exact .inr ⟨rfl,rfl,rfl⟩
 conv=>cbv
 refine Aw ?_;conv=>cbv
 refine .inr ?_;refine⟨(3,(((([]:List LR),([]:LR)),((([]:List LR),([]:LR)),(([]:List LR),([]:LR)))),(((([]:List LR),([]:LR)),(([]:List LR),([]:LR))),((((([]:List LR),([]:LR)),(([]:List LR),([]:LR))),(([]:List LR),([]:LR))),((Tx,Ax),(Ty,Ay)))))),fun _=>⟨by omega,rfl⟩,?_⟩;try conv=>cbv
 refine Aw ?_;conv=>cbv
 refine Aw ?_;conv=>cbv
 exact AF ⟨t2,trivial⟩
theorem ov:CF 113 [(B4 Ta Aa Tb Ab Tc Ac),(oZ Tx Ax Ty Ay)] (.one (.bool false)):=by
 refine Ah Tryz.func113 fun E o=>?_
 conv=>cbv
 refine⟨[(2,(((([]:List LR),([]:LR)),((([]:List LR),([]:LR)),(([]:List LR),([]:LR)))),(((([]:List LR),([]:LR)),(([]:List LR),([]:LR))),((((Ta,Aa),(Tb,Ab)),(Tc,Ac)),((([]:List LR),([]:LR)),(([]:List LR),([]:LR))))))),(3,(((([]:List LR),([]:LR)),((([]:List LR),([]:LR)),(([]:List LR),([]:LR)))),(((([]:List LR),([]:LR)),(([]:List LR),([]:LR))),((((([]:List LR),([]:LR)),(([]:List LR),([]:LR))),(([]:List LR),([]:LR))),((Tx,Ax),(Ty,Ay))))))],fun _=>⟨rfl,by decide,rfl,⟨rfl,⟨rfl,rfl,rfl,rfl,rfl,rfl,rfl,rfl,rfl,rfl,rfl,rfl,rfl,rfl,rfl,rfl,rfl,rfl,rfl,rfl,rfl,trivial⟩,⟨rfl,⟨rfl,rfl,rfl,rfl,rfl,rfl,rfl,rfl,rfl,rfl,rfl,rfl,rfl,rfl,rfl,rfl,rfl,rfl,rfl,rfl,rfl,trivial⟩,trivial⟩⟩⟩,.inr ?_⟩;try conv=>cbv
 rintro g ⟨c,f10⟩;conv=>cbv
 obtain rfl:g=2:=c;refine .inr ?_;obtain⟨l,a⟩:=xJ fun vs b k=>(vs=[.one (.sl E6 [(2,(((([]:List LR),([]:LR)),((([]:List LR),([]:LR)),(([]:List LR),([]:LR)))),(((([]:List LR),([]:LR)),(([]:List LR),([]:LR))),((((Ta,Aa),(Tb,Ab)),(Tc,Ac)),((([]:List LR),([]:LR)),(([]:List LR),([]:LR))))))),(3,(((([]:List LR),([]:LR)),((([]:List LR),([]:LR)),(([]:List LR),([]:LR)))),(((([]:List LR),([]:LR)),(([]:List LR),([]:LR))),((((([]:List LR),([]:LR)),(([]:List LR),([]:LR))),(([]:List LR),([]:LR))),((Tx,Ax),(Ty,Ay))))))]),.one (.int .i64 2),.one (.int .i64 0),.one (.As 2 0 0),.one (.As 3 0 0)]/\b=[.var 0 [.int .i64 2,AD,AE,AD,AE,AD,AE,AD,AE,AD,AE,.sl (.sl AA) Ta,.sl AA Aa,.sl (.sl AA) Tb,.sl AA Ab,.sl (.sl AA) Tc,.sl AA Ac,AD,AE,AD,AE],.var 0 [.int .i64 3,AD,AE,AD,AE,AD,AE,AD,AE,AD,AE,AD,AE,AD,AE,AD,AE,.sl (.sl AA) Tx,.sl AA Ax,.sl (.sl AA) Ty,.sl AA Ay]]/\k=2)\/(vs=[.one (.sl E6 [(2,(((([]:List LR),([]:LR)),((([]:List LR),([]:LR)),(([]:List LR),([]:LR)))),(((([]:List LR),([]:LR)),(([]:List LR),([]:LR))),((((Ta,Aa),(Tb,Ab)),(Tc,Ac)),((([]:List LR),([]:LR)),(([]:List LR),([]:LR))))))),(3,(((([]:List LR),([]:LR)),((([]:List LR),([]:LR)),(([]:List LR),([]:LR)))),(((([]:List LR),([]:LR)),(([]:List LR),([]:LR))),((((([]:List LR),([]:LR)),(([]:List LR),([]:LR))),(([]:List LR),([]:LR))),((Tx,Ax),(Ty,Ay))))))]),.one (.int .i64 2),.one (.int .i64 1),.one (.As 2 0 0),.one (.As 3 0 0)]/\b=[.var 0 [.int .i64 2,AD,AE,AD,AE,AD,AE,AD,AE,AD,AE,.sl (.sl AA) Ta,.sl AA Aa,.sl (.sl AA) Tb,.sl AA Ab,.sl (.sl AA) Tc,.sl AA Ac,AD,AE,AD,AE],.var 0 [.int .i64 3,AD,AE,AD,AE,AD,AE,AD,AE,AD,AE,AD,AE,AD,AE,AD,AE,.sl (.sl AA) Tx,.sl AA Ax,.sl (.sl AA) Ty,.sl AA Ay]]/\k=1)
 refine⟨[],[9,10,11,2,3],[2,3],l,⟨2,by rw[a];exact .inl ⟨rfl,rfl,rfl⟩⟩,?_⟩;intro vs b m j;rw[a] at j;rcases j with⟨rfl,rfl,f⟩ |⟨rfl,rfl,f⟩
 ·conv=>cbv
  refine Aw ?_;conv=>cbv
  refine .inr ?_;refine⟨(2,(((([]:List LR),([]:LR)),((([]:List LR),([]:LR)),(([]:List LR),([]:LR)))),(((([]:List LR),([]:LR)),(([]:List LR),([]:LR))),((((Ta,Aa),(Tb,Ab)),(Tc,Ac)),((([]:List LR),([]:LR)),(([]:List LR),([]:LR))))))),fun _=>⟨by omega,rfl⟩,?_⟩;try conv=>cbv
  refine Aw ?_;conv=>cbv
  refine AL ?_;conv=>cbv
  refine AL ?_;conv=>cbv
  intro h d;conv=>cbv
  refine AQ ?_;obtain rfl:h=1:=d;refine⟨1,?_,?_⟩
  ·omega
  rw[a];exact .inr ⟨rfl,rfl,rfl⟩
 conv=>cbv
 refine Aw ?_;conv=>cbv
 refine .inr ?_;refine⟨(3,(((([]:List LR),([]:LR)),((([]:List LR),([]:LR)),(([]:List LR),([]:LR)))),(((([]:List LR),([]:LR)),(([]:List LR),([]:LR))),((((([]:List LR),([]:LR)),(([]:List LR),([]:LR))),(([]:List LR),([]:LR))),((Tx,Ax),(Ty,Ay)))))),fun _=>⟨by omega,rfl⟩,?_⟩;try conv=>cbv
 refine Aw ?_;conv=>cbv
 refine Aw ?_;conv=>cbv
 exact AF ⟨t2,trivial⟩
theorem o5 {W:List UInt8} {ns:List Nu} (D:ns=(runN (X.take 24)).1) {V:List Re} (A:V.length<=3) (q:∀n∈ns,CH V n) {ca:Bool} (ha:0<=pa/\pa<256) (hb:0<=pb/\pb<256):CF 9 [.agg [.sl Bo X,.sl .u8 W],.agg [.bool ca,.int .u8 pa,.int .u8 pb,.bool ba],.one (.int .i64 kd)] (.one (.bool true)):=by
 obtain⟨Q,I⟩:∃z,z=LL ns W:=⟨_,rfl⟩
 rcases Nat.lt_or_ge Q.length 2 with M | M
 ·exact oq ES (Pd D A q I (i:=2) (i':=2) ⟨rfl⟩ (by decide) (c:=false) (decide_eq_false (by omega)).symm)
 have B:=Pd D A q I (i:=2) (i':=2) ⟨rfl⟩ (by decide) (c:=true) (decide_eq_true M).symm;rcases Classical.em (¬∀x∈Q,Jk x) with a | a
 ·exact ot ES B (Mw (b:=false) ⟨fun z=>(by cases z),fun z=>absurd z a⟩)
 have a:=Classical.not_not.1 a;have cL:=Mw (b:=true) ⟨fun _=>a,fun _=>rfl⟩;obtain⟨w,L⟩:=YE A q
 have f:∀i:Nat,i<Q.length->∃x X Y,Q[i]? =some x/\Vm (Tf (PN (Fo ns))) w 2100 20 20 x.1.1 x.1.2 x.2.1 x.2.2 X Y:=fun i H=>by
  obtain⟨x,r⟩:=AS (l:=Q) (i:=i) H;obtain⟨T,Z⟩:=a x (List.mem_of_getElem? r);obtain⟨X,Y,h⟩:=ZI L q I r T Z;exact⟨x,X,Y,r,h (by decide)⟩
 have C:∀p:Int,0<=p->(p%(Q.length:Int)).toNat<Q.length:=fun p hp=>by
  have T:=Int.emod_lt_of_pos p (show (0:Int)<Q.length by omega);have Z:=Int.emod_nonneg p (show (Q.length:Int)≠0 by omega);omega
 obtain⟨xa,Xa,Ya,ea,va⟩:=f _ (C pa ha.1);obtain⟨xb,Xb,Yb,eb,vb⟩:=f _ (C pb hb.1);obtain⟨m,X0,Y0,G,v0⟩:=f 0 (by omega);have F:=L.fl Ev;obtain⟨TT,w',F9,U⟩:=kM L Ev;have u0:=U.v (by decide) (by decide) v0
 have hP:∀x∈Q,∃(X Y:Re) (e:Bool),Vm TT w' 47000000 1 1 x.1.1 x.1.2 x.2.1 x.2.2 X Y/\CF 45 [.agg [.int .i64 3,AD,AE,AD,AE,AD,AE,AD,AE,AD,AE,AD,AE,AD,AE,AD,AE,.sl (.sl AA) m.1.1,.sl AA m.1.2,.sl (.sl AA) m.2.1,.sl AA m.2.2],.agg [.sl (.sl AA) x.1.1,.sl AA x.1.2,.sl (.sl AA) x.2.1,.sl AA x.2.2]] (.one (.bool e))/\CF 26 [.agg [.sl (.sl AA) x.1.1,.sl AA x.1.2,.sl (.sl AA) x.2.1,.sl AA x.2.2],.agg [.sl (.sl AA) m.1.1,.sl AA m.1.2,.sl (.sl AA) m.2.1,.sl AA m.2.2]] (.one (.bool e)):=fun x r=>by
  obtain⟨i,H⟩:=List.getElem?_of_mem r;obtain⟨x',X,Y,N,hv⟩:=f i (List.getElem?_eq_some_iff.1 H).1;obtain rfl:x=x':=Option.some.inj (H.symm.trans N);have u:=U.v (by decide) (by decide) hv;obtain⟨e,he⟩:=GQ (X=X0/\Y=Y0);exact⟨X,Y,e,u,o0 F9 u0 u (e:=e) ⟨fun z=>⟨(he.1 z).1.symm,(he.1 z).2.symm⟩,fun z=>he.2 ⟨z.1.symm,z.2.symm⟩⟩ (by decide),DU F9 u u0 (by decide) (by decide) (by decide) (by decide) (e:=e) he⟩
 rcases J5 F (ci:=ca) (bk:=ba) ha hb M ea eb va vb with⟨k1,D6,Du,D7,Dv,D8,Dw,D9,Dx,EA,Dy,EB,Dz,EC,D1,ED,D3,EF,D4,EG,D5,c1⟩ |⟨v1,d1,c1⟩
 ·exact oo ES B cL c1
 rcases d1 with⟨rfl,Ta,Aa,Tb,Ab,Tc,Ac,xo,yo,s,rfl,d⟩ |⟨rfl,T1,A1,T2,A2,T3,A3,T4,A4,T5,A5,al,be,ga,xd,yd,xp,yp,i,rfl,d⟩
 ·have uo:=U.v (by decide) (by decide) d.o;have us:=U (by decide) d.s
  have j:oa Q (B4 Ta Aa Tb Ab Tc Ac) m:=fun x r=>by
   obtain⟨X,Y,e,u,O,R⟩:=hP x r;obtain⟨b,hb⟩:=GQ ((X-xo)*(X-xo)+(Y-yo)*(Y-yo)=s);exact⟨b,e,oy F9 uo us u hb (by decide),KJ F9 uo us u hb,O,R⟩
  by_cases g:1<=kd/\kd<=3
  ·exact od G j g ES B cL c1
  have g:kd<1\/3<kd:=by omega
  exact oe G j g ES B cL c1 (oc (oh g)) (oc ov) (og (ou g)) (om g)
 have ul:=d.up U;have J:al*xd+be*yd=0:=by rw[d.ha,d.hb];grind
 have S:=Ia F d.l.x d.l.y d.l.z d.d J d.nz
 have j:oa Q (CJ T1 A1 T2 A2 T3 A3 T4 A4 T5 A5) m:=fun x r=>by
  obtain⟨X,Y,e,u,O,R⟩:=hP x r;obtain⟨b,hb⟩:=GQ (al*X+be*Y=ga);exact⟨b,e,oz F9 ul.x ul.y ul.z u hb (by decide),Mx F9 ul.x ul.y ul.z u hb,O,R⟩
 by_cases g:1<=kd/\kd<=3
 ·exact od G j g ES B cL c1
 have g:kd<1\/3<kd:=by omega
 exact oe G j g ES B cL c1 (oc (oh g)) (oc (ox S)) (og (ow g S)) (om g)
end Go.Abs
