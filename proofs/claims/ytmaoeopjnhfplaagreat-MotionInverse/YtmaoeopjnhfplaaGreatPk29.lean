/- Part 30 of a proof. Conditions: each theorem's own. -/
import Derived.Test.YtmaoeopjnhfplaaGreatPk28
set_option linter.all false
set_option maxHeartbeats 8000000
set_option maxRecDepth 20000
open Go.Proofs
namespace Go.Abs
open Go.RowKit
variable {A1 A2 A3 A4 AK AN AO AT At BD BT BV:LR} {T1 T2 T3 T4 AL AM AP AU Aw BE Ba BW:List LR} {TT:List (List Rat)->Prop} {ka kb ki ks kt ku kv:Nat} {mr:Bool} {vi xa xb xs xt xu xv ya yb ys yt yu yv:Re} {w:List (List Rat)}
theorem IH (F:Fd TT w) (ha:Vm TT w 1950000 ka ka AL AK AM AN xa ya) (n:ka+111<=80000:=by omega):∃k i d a,Vm TT w 1950000 (ka) (ka) k i d a (xa) (-ya)/\CF 67 [.agg (AD AL AK AM AN)] (.agg (AD k i d a)):=by
 obtain⟨AO,g,l,f⟩:=FK F ha.y;have h:Vm _ w 1950000 ka ka AL AK AM AO _ _:=⟨ha.x.mono (by omega),g.mono (by omega)⟩;refine⟨AL,AK,AM,AO,h.mono (by omega) (by omega),?_⟩;refine AZ Tryz.func67 fun E m=>?_
 conv=>cbv
 refine AB m f ?_;conv=>cbv
 refine BB ?_;exact AF ⟨⟨rfl,rfl,rfl,rfl,rfl,trivial⟩,trivial⟩
theorem HV (F:Fd TT w) (ha:Vm TT w 1950000 ka ka AL AK AM AN xa ya) (hb:Vm TT w 1950000 kb kb AP AO AU AT xb yb) (z:ka+kb+112<=80000:=by omega):∃y v g f,Vm TT w 1950000 (2*ka+2*kb+3) (2*ka+2*kb+3) y v g f (xa*xb-ya*yb) (xa*yb+ya*xb)/\CF 69 [.agg (AD AL AK AM AN),.agg (AD AP AO AU AT)] (.agg (AD y v g f)):=by
 obtain⟨BE,BD,Ba,BT,m,h⟩:=IH F hb;obtain⟨BW,BV,n,i⟩:=KY F ha m;obtain⟨Bw,Bq,Bu,Bp,o,k⟩:=IH F ha;obtain⟨d,a,p,l⟩:=KX F o hb;have s:Vm _ w 1950000 (2*ka+2*kb+3) (2*ka+2*kb+3) BW BV d a _ _:=⟨n.mono (by omega),p.mono (by omega)⟩;have t:=s.cast (x':=xa*xb-ya*yb) (y':=xa*yb+ya*xb) (by grind) (by grind);refine⟨BW,BV,d,a,t.mono (by omega) (by omega),?_⟩;refine AZ Tryz.func69 fun E u=>?_
 conv=>cbv
 refine AB u h ?_;conv=>cbv
 refine AB u i ?_;conv=>cbv
 refine BB ?_;refine AB u k ?_;conv=>cbv
 refine AB u l ?_;conv=>cbv
 refine BB ?_;exact AF ⟨⟨rfl,rfl,rfl,rfl,rfl,trivial⟩,trivial⟩
theorem Ot (F:Fd TT w) (ha:Vm TT w 1950000 ka ka AL AK AM AN xa ya) (hb:Vm TT w 1950000 kb kb AP AO AU AT xb yb) (l:ka+kb+111<=80000:=by omega):∃i h d a,Vm TT w 1950000 (ka+kb+1) (ka+kb+1) i h d a (xa+xb) (ya+yb)/\CF 68 [.agg (AD AL AK AM AN),.agg (AD AP AO AU AT)] (.agg (AD i h d a)):=by
 obtain⟨Aw,At,BE,BD,g,f⟩:=Wj F ha hb;refine⟨Aw,At,BE,BD,g.mono (by omega) (by omega),?_⟩;refine AZ Tryz.func68 fun E k=>?_
 conv=>cbv
 refine AB k f ?_;conv=>cbv
 exact AF ⟨⟨rfl,rfl,rfl,rfl,rfl,trivial⟩,trivial⟩
theorem G9 (F:Fd TT w) (ha:Vm TT w 1950000 ka ka AL AK AM AN xa ya) (hb:Vm TT w 1950000 kb kb AP AO AU AT xb yb) (o:ka+kb+111<=80000:=by omega):∃m l d a,Vm TT w 1950000 (ka+kb+1) (ka+kb+1) m l d a (xa-xb) (ya-yb)/\CF 85 [.agg (AD AL AK AM AN),.agg (AD AP AO AU AT)] (.agg (AD m l d a)):=by
 obtain⟨At,BD,h,f⟩:=Jm F hb;obtain⟨BW,BV,Bm,Bj,i,g⟩:=Ot F ha h;have k:=i.cast (x':=xa-xb) (y':=ya-yb) (by grind) (by grind);refine⟨BW,BV,Bm,Bj,k.mono (by omega) (by omega),?_⟩;refine AZ Tryz.func85 fun E n=>?_
 conv=>cbv
 refine AB n f ?_;conv=>cbv
 refine AB n g ?_;conv=>cbv
 refine BB ?_;exact AF ⟨⟨rfl,rfl,rfl,rfl,rfl,trivial⟩,trivial⟩
theorem L2 (F:Fd TT w) {vn:Re} {kn:Nat} (ha:Vm TT w 1950000 ka ka AL AK AM AN xa ya) (B:Nm TT w 1950000 kn AP AO vn) (A:Nm TT w 1950000 ki AU AT vi) (C:vn≠0) (s:vn*vi=1) (D:ka+ki+47*kn+134<=80000:=by omega):∃v u g f,Vm TT w 1950000 (ka+ki+1) (ka+ki+1) v u g f (xa*vi) (ya*vi)/\CF 88 [.agg (AD AL AK AM AN),.agg (As AP AO)] (.agg (AD v u g f)):=by
 obtain⟨At,a,k⟩:=H2 F (p:=((1:Int):Rat)) (by decide +kernel);obtain⟨BE,BD,l,z,i⟩:=DE F k B (d:=47*kn+23) (by omega) C;have m:=l.shrink A (by rw[Mh s,show Re.ofRat ((1:Int):Rat)=1 from rfl];grind);have n:=m.cast (y:=vi) (by rw[Mh s,show Re.ofRat ((1:Int):Rat)=1 from rfl];grind);obtain⟨Bm,Bj,Bw,Bq,o,h⟩:=fT F ha n;refine⟨Bm,Bj,Bw,Bq,o.mono (by omega) (by omega),?_⟩;refine AZ Tryz.func88 fun E t=>?_
 conv=>cbv
 refine AB t (JL (by decide) a) ?_;conv=>cbv
 refine AB t i ?_;conv=>cbv
 refine BB ?_;refine AB t h ?_;conv=>cbv
 exact AF ⟨⟨rfl,rfl,rfl,rfl,rfl,trivial⟩,trivial⟩
theorem KN (F:Fd TT w) (ha:Vm TT w 1950000 ka ka AL AK AM AN xa ya) (i:2*ka+112<=80000:=by omega):∃g f,Nm TT w 1950000 (4*ka+3) g f (xa*xa+ya*ya)/\CF 86 [.agg (AD AL AK AM AN)] (.agg (As g f)):=by
 obtain⟨AP,AO,d,a⟩:=H9 F ha;refine⟨AP,AO,d.mono (by omega),?_⟩;refine AZ Tryz.func86 fun E h=>?_
 conv=>cbv
 refine AB h a ?_;conv=>cbv
 exact AF ⟨t3,trivial⟩
theorem FB:CF 66 [.agg (BQ T1 A1 T2 A2 T3 A3 T4 A4 mr)] (.AI [(true,(AD T1 A1 T2 A2)),(true,(AD T3 A3 T4 A4))]):=by
 refine AZ Tryz.func66 fun E a=>?_
 conv=>cbv
 refine BB ?_;exact AF ⟨⟨rfl,rfl,rfl,rfl,rfl,trivial⟩,⟨rfl,rfl,rfl,rfl,rfl,trivial⟩,trivial⟩
theorem H3:CF 89 [.agg (AD T1 A1 T2 A2),.agg (AD T3 A3 T4 A4),.one (.bool mr)] (.agg (BQ T1 A1 T2 A2 T3 A3 T4 A4 mr)):=by
 refine AZ Tryz.func89 fun E a=>?_
 conv=>cbv
 exact AF ⟨⟨rfl,rfl,rfl,rfl,rfl,rfl,rfl,rfl,rfl,rfl,trivial⟩,trivial⟩
theorem qU (F:Fd TT w) {e:Bool} (hu:Vm TT w 1950000 ku ku AL AK AM AN xu yu) (ht:Vm TT w 1950000 kt kt AP AO AU AT xt yt) (he:e=true↔xu*xu+yu*yu=Re.ofRat ((1:Int):Rat)) (n:kt+8*ku+449<=80000:=by omega):CF 87 [.agg (BQ AL AK AM AN AP AO AU AT mr)] (.one (.bool e)):=by
 obtain⟨BE,BD,k,h⟩:=KN F hu;obtain⟨BT,a,l⟩:=H2 F (p:=((1:Int):Rat)) (by decide +kernel);obtain⟨g,d,m,i⟩:=EK F k l;obtain rfl:e=g:=Bool.eq_iff_iff.2 (he.trans d.symm);refine AZ Tryz.func87 fun E f=>?_
 conv=>cbv
 refine AB f FB ?_;conv=>cbv
 refine AB f (Jn F hu) ?_;conv=>cbv
 refine AB f (Jn F ht) ?_;conv=>cbv
 refine AB f h ?_;conv=>cbv
 refine AB f (JL (by decide) a) ?_;conv=>cbv
 refine AB f i ?_;conv=>cbv
 exact AF ⟨t2,trivial⟩
theorem LK (F:Fd TT w) (m:Vm TT w 1950000 kv kv AL AK AM AN xv yv):∃k h,Vm TT w 1950000 (1) (1) ([]:List LR) k ([]:List LR) h (Re.ofRat ((1:Int):Rat)) (Re.ofRat ((0:Int):Rat))/\CF 71 [.agg (AD AL AK AM AN)] (.agg (BQ [] k [] h AL AK AM AN false)):=by
 obtain⟨f,g,⟨a,d⟩,i⟩:=KI F (p:=((1:Int):Rat)) (q:=((0:Int):Rat)) (by decide +kernel) (by decide +kernel);refine⟨f,g,i.mono (by omega) (by omega),?_⟩;refine AZ Tryz.func71 fun E l=>?_
 conv=>cbv
 refine AB l (CK (x:=1) (y:=0) (by decide) (by decide) a d) ?_;conv=>cbv
 refine AB l H3 ?_;conv=>cbv
 refine BB ?_;exact AF ⟨⟨rfl,rfl,rfl,rfl,rfl,rfl,rfl,rfl,rfl,rfl,trivial⟩,trivial⟩
theorem Rs (F:Fd TT w):∃n i o k,Vm TT w 1950000 (1) (1) ([]:List LR) n ([]:List LR) i (Re.ofRat ((1:Int):Rat)) (Re.ofRat ((0:Int):Rat))/\Vm TT w 1950000 (1) (1) ([]:List LR) o ([]:List LR) k (Re.ofRat ((0:Int):Rat)) (Re.ofRat ((0:Int):Rat))/\CF 37 [] (.agg (BQ [] n [] i [] o [] k false)):=by
 obtain⟨g,h,⟨a,d⟩,f⟩:=KI F (p:=((0:Int):Rat)) (q:=((0:Int):Rat)) (by decide +kernel) (by decide +kernel);obtain⟨AO,AT,m,l⟩:=LK F f;refine⟨AO,AT,g,h,m.mono (by omega) (by omega),f.mono (by omega) (by omega),?_⟩;refine AZ Tryz.func37 fun E s=>?_
 conv=>cbv
 refine AB s (CK (x:=0) (y:=0) (by decide) (by decide) a d) ?_;conv=>cbv
 refine AB s l ?_;conv=>cbv
 exact AF ⟨⟨rfl,rfl,rfl,rfl,rfl,rfl,rfl,rfl,rfl,rfl,trivial⟩,trivial⟩
theorem KJ (F:Fd TT w) (hu:Vm TT w 1950000 ku ku AL AK AM AN xu yu) (ht:Vm TT w 1950000 kt kt AP AO AU AT xt yt) (ha:Vm TT w 1950000 ka ka Aw At BE BD xa ya) (p:2*ka+kt+2*ku+114<=80000:=by omega):∃o n g d,Vm TT w 1950000 (2*ka+kt+2*ku+4) (2*ka+kt+2*ku+4) o n g d ((xu*xa-yu*ya)+xt) ((xu*ya+yu*xa)+yt)/\CF 19 [.agg (BQ AL AK AM AN AP AO AU AT false),.agg (AD Aw At BE BD)] (.agg (AD o n g d)):=by
 obtain⟨BW,BV,Bm,Bj,k,h⟩:=HV F hu ha;obtain⟨Bu,Bp,f,a,l,i⟩:=Ot F k ht;refine⟨Bu,Bp,f,a,l.mono (by omega) (by omega),?_⟩;refine AZ Tryz.func19 fun E m=>?_
 conv=>cbv
 refine AB m FB ?_;conv=>cbv
 refine .inr ?_;refine AB m h ?_;conv=>cbv
 refine AB m i ?_;conv=>cbv
 refine BB ?_;exact AF ⟨⟨rfl,rfl,rfl,rfl,rfl,trivial⟩,trivial⟩
theorem KK (F:Fd TT w) (hu:Vm TT w 1950000 ku ku AL AK AM AN xu yu) (ht:Vm TT w 1950000 kt kt AP AO AU AT xt yt) (ha:Vm TT w 1950000 ka ka Aw At BE BD xa ya) (z:2*ka+kt+2*ku+114<=80000:=by omega):∃y u i f,Vm TT w 1950000 (2*ka+kt+2*ku+4) (2*ka+kt+2*ku+4) y u i f ((xu*xa-yu*(-ya))+xt) ((xu*(-ya)+yu*xa)+yt)/\CF 19 [.agg (BQ AL AK AM AN AP AO AU AT true),.agg (AD Aw At BE BD)] (.agg (AD y u i f)):=by
 obtain⟨BW,BV,Bm,Bj,n,k⟩:=IH F ha;obtain⟨Bu,Bp,v,t,o,l⟩:=HV F hu n;obtain⟨g,a,h,d,p,m⟩:=Ot F o ht;refine⟨g,a,h,d,p.mono (by omega) (by omega),?_⟩;refine AZ Tryz.func19 fun E s=>?_
 conv=>cbv
 refine AB s FB ?_;conv=>cbv
 refine .inr ?_;refine AB s k ?_;conv=>cbv
 refine AB s l ?_;conv=>cbv
 refine AB s m ?_;conv=>cbv
 refine BB ?_;exact AF ⟨⟨rfl,rfl,rfl,rfl,rfl,trivial⟩,trivial⟩
theorem qP (F:Fd TT w) (hu:Vm TT w 1950000 ku ku AL AK AM AN xu yu) (ht:Vm TT w 1950000 kt kt AP AO AU AT xt yt) (k:Vm TT w 1950000 kv kv Aw At BE BD xv yv) (i:Vm TT w 1950000 ks ks Ba BT BW BV xs ys) (f:xu=xv) (g:yu=yv) (h3:xt=xs) (h:yt=ys) (m:2*ks+2*kt+2*ku+2*kv+443<=80000:=by omega):CF 38 [.agg (BQ AL AK AM AN AP AO AU AT mr),.agg (BQ Aw At BE BD Ba BT BW BV mr)] (.one (.bool true)):=by
 refine AZ Tryz.func38 fun E d=>?_
 conv=>cbv
 refine AB d FB ?_;conv=>cbv
 refine AB d FB ?_;conv=>cbv
 intro l a;(have a:=a.trans (show _=true by simp));subst a;conv=>cbv
 refine AB d (CR F hu k (by omega) (by omega) (by omega) (by omega) (e:=true) ⟨fun _=>⟨f,g⟩,fun _=>rfl⟩) ?_;conv=>cbv
 refine AB d (CR F ht i (by omega) (by omega) (by omega) (by omega) (e:=true) ⟨fun _=>⟨h3,h⟩,fun _=>rfl⟩) ?_;conv=>cbv
 exact AF ⟨t2,trivial⟩
theorem qS (F:Fd TT w) (ha:Vm TT w 1950000 ka ka AL AK AM AN xa ya) (hb:Vm TT w 1950000 kb kb AP AO AU AT xb yb) (R:Nm TT w 1950000 ki Aw At vi) (Q: -(yb-ya)≠0) (J: -(yb-ya)*vi=1) (S:48*ka+48*kb+ki+182<=80000:=by omega):∃N L p l O M,Vm TT w 1950000 (ka+kb+ki+2) (ka+kb+ki+2) N L p l ((-(yb-ya))*vi) ((xb-xa)*vi)/\Nm TT w 1950000 (4*ka+2*kb+2*ki+7) O M (((-(yb-ya))*vi)*xa+((xb-xa)*vi)*ya)/\CF 75 [.agg (AD AL AK AM AN),.agg (AD AP AO AU AT)] (.agg (AS N L p l O M)):=by
 obtain⟨Ba,BT,BW,BV,B,s⟩:=G9 F hb ha;have C:=B.cast (x':=xb-xa) (y':=yb-ya) (rfl) (rfl);obtain⟨Bq,a,t⟩:=L7 F C;obtain⟨I,f,P,y⟩:=Ci F a.x;have g:I≠0:=fun z=>Q (FV.1 (f.symm.trans z))
 obtain⟨m,h,n,i,d,u⟩:=L2 F a a.x R Q J;obtain⟨o,k,D,v⟩:=KY F d ha;refine⟨m,h,n,i,o,k,d.mono (by omega) (by omega),D.mono (by omega),?_⟩;refine AZ Tryz.func75 fun E G=>?_
 conv=>cbv
 refine AB G s ?_;conv=>cbv
 refine AB G t ?_;conv=>cbv
 refine AB G y ?_;conv=>cbv
 intro K A;conv=>cbv
 refine .inr ?_;cases K <;> conv=>cbv
 ·have H:=BR A;refine AB G u ?_;conv=>cbv
  refine AB G v ?_;conv=>cbv
  exact AF ⟨⟨rfl,rfl,rfl,rfl,rfl,rfl,rfl,trivial⟩,trivial⟩
 have H:=BS A;exact absurd H g
theorem qQ (F:Fd TT w) (ha:Vm TT w 1950000 ka ka AL AK AM AN xa ya) (hb:Vm TT w 1950000 kb kb AP AO AU AT xb yb) (M:Nm TT w 1950000 ki Aw At vi) (N: -(yb-ya)=0) (O:xb-xa≠0) (G:(xb-xa)*vi=1) (P:48*ka+48*kb+ki+182<=80000:=by omega):∃J H o k K I,Vm TT w 1950000 (ka+kb+ki+2) (ka+kb+ki+2) J H o k ((-(yb-ya))*vi) ((xb-xa)*vi)/\Nm TT w 1950000 (4*ka+2*kb+2*ki+7) K I (((-(yb-ya))*vi)*xa+((xb-xa)*vi)*ya)/\CF 75 [.agg (AD AL AK AM AN),.agg (AD AP AO AU AT)] (.agg (AS J H o k K I)):=by
 obtain⟨Ba,BT,BW,BV,z,p⟩:=G9 F hb ha;have A:=z.cast (x':=xb-xa) (y':=yb-ya) (rfl) (rfl);obtain⟨Bq,a,s⟩:=L7 F A;obtain⟨D,f,L,v⟩:=Ci F a.x;obtain rfl:D=0:=f.trans (by rw[N];exact GA);obtain⟨l,g,m,h,d,t⟩:=L2 F a a.y M O G;obtain⟨n,i,B,u⟩:=KY F d ha;refine⟨l,g,m,h,n,i,d.mono (by omega) (by omega),B.mono (by omega),?_⟩;refine AZ Tryz.func75 fun E C=>?_
 conv=>cbv
 refine AB C p ?_;conv=>cbv
 refine AB C s ?_;conv=>cbv
 refine AB C v ?_;conv=>cbv
 refine BM ?_;conv=>cbv
 refine .inr ?_;refine AB C t ?_;conv=>cbv
 refine AB C u ?_;conv=>cbv
 exact AF ⟨⟨rfl,rfl,rfl,rfl,rfl,rfl,rfl,trivial⟩,trivial⟩
theorem qT (F:Fd TT w) {va vb vc:Re} {kc:Nat} (ha:Nm TT w 1950000 ka AL AK va) (hb:Nm TT w 1950000 kb AM AN vb) (hc:Nm TT w 1950000 kc AP AO vc) (hi:Nm TT w 1950000 ki AU AT vi) (hn:va*va+vb*vb≠0) (U:(va*va+vb*vb)*vi=1) (hM:192*ka+192*kb+3*kc+5*ki+278<=80000:=by omega):∃U0 B0 v n U1 B1 z o,Vm TT w 1950000 (4*ka+4*kb+ki+4) (4*ka+4*kb+ki+4) U0 B0 v n (((-vb)*(-vb)-va*va)*vi) (((-vb)*va+va*(-vb))*vi)/\Vm TT w 1950000 (11*ka+11*kb+3*kc+5*ki+18) (11*ka+11*kb+3*kc+5*ki+18) U1 B1 z o (((va*vi)*vc)-((((-vb)*(-vb)-va*va)*vi)*(((va*vi)*vc))-(((-vb)*va+va*(-vb))*vi)*(-((vb*vi)*vc)))) (((vb*vi)*vc)-((((-vb)*(-vb)-va*va)*vi)*(-((vb*vi)*vc))+(((-vb)*va+va*(-vb))*vi)*(((va*vi)*vc))))/\CF 74 [.agg (AS AL AK AM AN AP AO)] (.agg (BQ U0 B0 v n U1 B1 z o true)):=by
 have a:Vm _ w 1950000 (ka+kb) (ka+kb) AL AK AM AN _ _:=⟨ha.mono (by omega),hb.mono (by omega)⟩;obtain⟨Ba,BT,M,A⟩:=KN F a;obtain⟨Bm,Bj,Bw,Bq,N,B⟩:=L2 F a M hi hn U;obtain⟨Bu,Bp,a7,V,g,C⟩:=fT F N hc;obtain⟨W,d,D⟩:=L7 F a;obtain⟨a8,X,O,G⟩:=KN F d;have P:=O.cast (y:=va*va+vb*vb) (by grind);obtain⟨aa,Y,ab,Z,Q,H⟩:=HV F d d;obtain⟨p,i,s,k,h,I⟩:=L2 F Q P hi hn U;obtain⟨ad,a1,ae,a2,R,J⟩:=IH F g;obtain⟨af,a5,ag,a6,S,K⟩:=HV F h R;obtain⟨t,l,u,m,T,L⟩:=G9 F g S;refine⟨p,i,s,k,t,l,u,m,h.mono (by omega) (by omega),T.mono (by omega) (by omega),?_⟩
 refine AZ Tryz.func74 fun E f=>?_
 conv=>cbv
 refine AB f A ?_;conv=>cbv
 refine AB f B ?_;conv=>cbv
 refine AB f C ?_;conv=>cbv
 refine BB ?_;refine AB f D ?_;conv=>cbv
 refine AB f H ?_;conv=>cbv
 refine AB f G ?_;conv=>cbv
 refine AB f I ?_;conv=>cbv
 refine BB ?_;refine AB f J ?_;conv=>cbv
 refine AB f K ?_;conv=>cbv
 refine AB f L ?_;conv=>cbv
 refine AB f H3 ?_;conv=>cbv
 refine BB ?_;exact AF ⟨⟨rfl,rfl,rfl,rfl,rfl,rfl,rfl,rfl,rfl,rfl,trivial⟩,trivial⟩
theorem Mu (F:Fd TT w) (hu:Vm TT w 1950000 ku ku AL AK AM AN xu yu) (ht:Vm TT w 1950000 kt kt AP AO AU AT xt yt) (k:Vm TT w 1950000 kv kv Aw At BE BD xv yv) (i:Vm TT w 1950000 ks ks Ba BT BW BV xs ys) (a:xu*xu+yu*yu=Re.ofRat ((1:Int):Rat)) (f:xu=xv) (g:yu=yv) (h3:xt=xs) (h:yt=ys) (l:2*ks+2*kt+8*ku+2*kv+449<=80000:=by omega):CF 24 [.agg (BQ AL AK AM AN AP AO AU AT mr),.one (.int .i64 0),.agg (BQ Aw At BE BD Ba BT BW BV mr)] (.one (.bool true)):=by
 refine AZ Tryz.func24 fun E d=>?_
 conv=>cbv
 refine BM ?_;conv=>cbv
 refine AB d (qU F hu ht (e:=true) ⟨fun _=>a,fun _=>rfl⟩) ?_;conv=>cbv
 refine AB d (qP F hu ht k i f g h3 h) ?_;conv=>cbv
 exact AF ⟨t2,trivial⟩
end Go.Abs
namespace Go.Abs
open Go.RowKit
variable {TT:List (List Rat)->Prop} {a b c j two x:Re} {q r:Rat}
theorem WL (h:r*r=q) (a:0<=r):Re.sqrt (Re.ofRat q)=Re.ofRat r:=by
 have d:(0:Re)<=Re.ofRat q:=by rw[<-h,Re.ofRat_mul];exact Re.Ji _
 exact Re.LQ (Re.Gg _) (ck a) (by rw[Re.Ev d,<-h,Re.ofRat_mul])
theorem jn (h:r*r=q):∀u,TT u->In u (Re.ofRat q)->TT (Aj u (Re.ofRat q)):=fun u hu _=>by
 rw[ED ⟨_,He r u,by rw[<-Re.ofRat_mul,h]⟩];exact hu
theorem Ey:CF 16 [] (.one (.bool true)):=by
 obtain⟨w,F⟩:=lr (V:=[]) (ns:=[]) (by decide) (fun n hn=>by simp at hn);have bg:El w (1*1950000) (Re.sqrt (Re.ofRat 25)):=by rw[WL (r:=5) (by decide +kernel) (by decide +kernel)];exact (H2 F (p:=5) (by decide +kernel)).choose_spec.2.choose_spec.2.2.2.2
 have bf:=qy F (K:=70000) (l:=1) (by decide) (jn (r:=5) (q:=25) (by decide +kernel)) (ck (by decide +kernel)) bg;obtain⟨AK,z,m⟩:=H2 F (p:=((1:Int):Rat)) (by decide +kernel);obtain⟨AN,bc,aF⟩:=H2 F (p:=((5:Int):Rat)) (by decide +kernel);obtain⟨AP,AO,aG,bm,bo⟩:=DE F m aF (d:=70) (by omega) (by (try simp only[<-Re.ofRat_add,<-Re.ofRat_mul,<-Re.ofRat_neg,CG,CM]);exact fun h=>absurd (Re.Cj.1 (h.trans Re.Hj.symm)) (by decide +kernel));have aH:=En F (by decide) (r:=1/5) (by decide +kernel) aG (by (try simp only[<-Re.ofRat_add,<-Re.ofRat_mul,<-Re.ofRat_neg,CG,CM]);exact congrArg Re.ofRat (by decide +kernel));obtain⟨aY,aZ,⟨A,B⟩,L⟩:=KI F (p:=((0:Int):Rat)) (q:=((5:Int):Rat)) (by decide +kernel) (by decide +kernel);obtain⟨b0,b1,⟨f,g⟩,t⟩:=KI F (p:=((0:Int):Rat)) (q:=((0:Int):Rat)) (by decide +kernel) (by decide +kernel)
 obtain⟨BW,BV,Bm,Bj,Bw,Bq,Bu,Bp,M,N,az⟩:=oE F t L aH F L (v:=Re.ofRat 25) (kr:=1) (fun h=>absurd (Re.Cj.1 h.2) (by decide +kernel)) (by (try simp only[<-Re.ofRat_add,<-Re.ofRat_mul,<-Re.ofRat_neg,CG,CM]);exact congrArg Re.ofRat (by decide +kernel)) bf (by decide) (by decide) (by rw[WL (r:=5) (by decide +kernel) (by decide +kernel)];exact fun h=>absurd (Re.Cj.1 (h.trans Re.Hj.symm)) (by decide +kernel)) (by rw[WL (r:=5) (by decide +kernel) (by decide +kernel),<-Re.ofRat_mul];exact congrArg Re.ofRat (by decide +kernel));have aI:Vm _ w 1950000 1 1 BW BV Bm Bj _ _:=⟨En F (by decide) (r:=0) (by decide +kernel) M.x (by (try simp only[<-Re.ofRat_add,<-Re.ofRat_mul,<-Re.ofRat_neg,CG,CM]);exact congrArg Re.ofRat (by decide +kernel)),En F (by decide) (r:=1) (by decide +kernel) M.y (by (try simp only[<-Re.ofRat_add,<-Re.ofRat_mul,<-Re.ofRat_neg,CG,CM]);exact congrArg Re.ofRat (by decide +kernel))⟩
 have aJ:Vm _ w 1950000 1 1 Bw Bq Bu Bp _ _:=⟨En F (by decide) (r:=0) (by decide +kernel) N.x (by (try simp only[<-Re.ofRat_add,<-Re.ofRat_mul,<-Re.ofRat_neg,CG,CM]);exact congrArg Re.ofRat (by decide +kernel)),En F (by decide) (r:=0) (by decide +kernel) N.y (by (try simp only[<-Re.ofRat_add,<-Re.ofRat_mul,<-Re.ofRat_neg,CG,CM]);exact congrArg Re.ofRat (by decide +kernel))⟩;obtain⟨b2,b3,⟨C,D⟩,aK⟩:=KI F (p:=((1:Int):Rat)) (q:=((0:Int):Rat)) (by decide +kernel) (by decide +kernel);obtain⟨ah,Y,ai,Z,O,aA⟩:=Mt F aI aJ aK;have aL:Vm _ w 1950000 1 1 ah Y ai Z _ _:=⟨En F (by decide) (r:=0) (by decide +kernel) O.x (by (try simp only[<-Re.ofRat_add,<-Re.ofRat_mul,<-Re.ofRat_neg,CG,CM]);exact congrArg Re.ofRat (by decide +kernel)),En F (by decide) (r:=1) (by decide +kernel) O.y (by (try simp only[<-Re.ofRat_add,<-Re.ofRat_mul,<-Re.ofRat_neg,CG,CM]);exact congrArg Re.ofRat (by decide +kernel))⟩
 obtain⟨bh,X,aM⟩:=H2 F (p:=((0:Int):Rat)) (by decide +kernel);obtain⟨aj,a1,ak,a2,al,a5,an,a6,P,Q,aB⟩:=ny F m aM m m (by (try simp only[<-Re.ofRat_add,<-Re.ofRat_mul,<-Re.ofRat_neg,CG,CM]);exact fun h=>absurd (Re.Cj.1 (h.trans Re.Hj.symm)) (by decide +kernel)) (by simp only[<-Re.ofRat_add,<-Re.ofRat_mul];exact congrArg Re.ofRat (by decide +kernel));have aN:Vm _ w 1950000 1 1 aj a1 ak a2 _ _:=⟨En F (by decide) (r:= -1) (by decide +kernel) P.x (by (try simp only[<-Re.ofRat_add,<-Re.ofRat_mul,<-Re.ofRat_neg,CG,CM]);exact congrArg Re.ofRat (by decide +kernel)),En F (by decide) (r:=0) (by decide +kernel) P.y (by (try simp only[<-Re.ofRat_add,<-Re.ofRat_mul,<-Re.ofRat_neg,CG,CM]);exact congrArg Re.ofRat (by decide +kernel))⟩;have aO:Vm _ w 1950000 1 1 al a5 an a6 _ _:=⟨En F (by decide) (r:=2) (by decide +kernel) Q.x (by (try simp only[<-Re.ofRat_add,<-Re.ofRat_mul,<-Re.ofRat_neg,CG,CM]);exact congrArg Re.ofRat (by decide +kernel)),En F (by decide) (r:=0) (by decide +kernel) Q.y (by (try simp only[<-Re.ofRat_add,<-Re.ofRat_mul,<-Re.ofRat_neg,CG,CM]);exact congrArg Re.ofRat (by decide +kernel))⟩
 obtain⟨ao,a7,aq,a8,R,aC⟩:=Oc F aN aO t;have aP:Vm _ w 1950000 1 1 ao a7 aq a8 _ _:=⟨En F (by decide) (r:=2) (by decide +kernel) R.x (by (try simp only[<-Re.ofRat_add,<-Re.ofRat_mul,<-Re.ofRat_neg,CG,CM]);exact congrArg Re.ofRat (by decide +kernel)),En F (by decide) (r:=0) (by decide +kernel) R.y (by (try simp only[<-Re.ofRat_add,<-Re.ofRat_mul,<-Re.ofRat_neg,CG,CM]);exact congrArg Re.ofRat (by decide +kernel))⟩;obtain⟨bj,bd,aQ⟩:=H2 F (p:=((4:Int):Rat)) (by decide +kernel);obtain⟨bl,bk,aR,bn,bp⟩:=DE F m aQ (d:=70) (by omega) (by (try simp only[<-Re.ofRat_add,<-Re.ofRat_mul,<-Re.ofRat_neg,CG,CM]);exact fun h=>absurd (Re.Cj.1 (h.trans Re.Hj.symm)) (by decide +kernel));have aS:=En F (by decide) (r:=1/4) (by decide +kernel) aR (by (try simp only[<-Re.ofRat_add,<-Re.ofRat_mul,<-Re.ofRat_neg,CG,CM]);exact congrArg Re.ofRat (by decide +kernel))
 obtain⟨b4,b5,⟨o,s⟩,S⟩:=KI F (p:=((2:Int):Rat)) (q:=((0:Int):Rat)) (by decide +kernel) (by decide +kernel);obtain⟨b6,b7,⟨G,H⟩,aT⟩:=KI F (p:=((1:Int):Rat)) (q:=((1:Int):Rat)) (by decide +kernel) (by decide +kernel);obtain⟨b8,b9,⟨I,J⟩,aU⟩:=KI F (p:=((1:Int):Rat)) (q:=((3:Int):Rat)) (by decide +kernel) (by decide +kernel);obtain⟨ar,aa,au,ab,av,ad,aw,ae,T,U,aD⟩:=nx F t S aT aU aS (by (try simp only[<-Re.ofRat_add,<-Re.ofRat_mul,<-Re.ofRat_neg,CG,CM]);exact fun h=>absurd (Re.Cj.1 (h.trans Re.Hj.symm)) (by decide +kernel)) (by (try simp only[<-Re.ofRat_add,<-Re.ofRat_mul,CG]);exact congrArg Re.ofRat (by decide +kernel)) (by simp only[<-Re.ofRat_add,<-Re.ofRat_mul,CG];exact congrArg Re.ofRat (by decide +kernel));have aV:Vm _ w 1950000 1 1 ar aa au ab _ _:=⟨En F (by decide) (r:=0) (by decide +kernel) T.x (by (try simp only[<-Re.ofRat_add,<-Re.ofRat_mul,<-Re.ofRat_neg,CG,CM]);exact congrArg Re.ofRat (by decide +kernel)),En F (by decide) (r:=1) (by decide +kernel) T.y (by (try simp only[<-Re.ofRat_add,<-Re.ofRat_mul,<-Re.ofRat_neg,CG,CM]);exact congrArg Re.ofRat (by decide +kernel))⟩
 have aW:Vm _ w 1950000 1 1 av ad aw ae _ _:=⟨En F (by decide) (r:=1) (by decide +kernel) U.x (by (try simp only[<-Re.ofRat_add,<-Re.ofRat_mul,<-Re.ofRat_neg,CG,CM]);exact congrArg Re.ofRat (by decide +kernel)),En F (by decide) (r:=1) (by decide +kernel) U.y (by (try simp only[<-Re.ofRat_add,<-Re.ofRat_mul,<-Re.ofRat_neg,CG,CM]);exact congrArg Re.ofRat (by decide +kernel))⟩;obtain⟨ba,bb,⟨i,k⟩,u⟩:=KI F (p:=((0:Int):Rat)) (q:=((1:Int):Rat)) (by decide +kernel) (by decide +kernel);obtain⟨ax,af,ay,ag,W,aE⟩:=Mt F aV aW u;have aX:Vm _ w 1950000 1 1 ax af ay ag _ _:=⟨En F (by decide) (r:=0) (by decide +kernel) W.x (by (try simp only[<-Re.ofRat_add,<-Re.ofRat_mul,<-Re.ofRat_neg,CG,CM]);exact congrArg Re.ofRat (by decide +kernel)),En F (by decide) (r:=1) (by decide +kernel) W.y (by (try simp only[<-Re.ofRat_add,<-Re.ofRat_mul,<-Re.ofRat_neg,CG,CM]);exact congrArg Re.ofRat (by decide +kernel))⟩
 refine AZ Tryz.func16 fun E a=>?_
 conv=>cbv
 refine AB a (CK (x:=0) (y:=0) (by decide) (by decide) f g) ?_;conv=>cbv
 refine AB a (CK (x:=0) (y:=5) (by decide) (by decide) A B) ?_;conv=>cbv
 refine AB a az ?_;conv=>cbv
 refine AB a (CK (x:=1) (y:=0) (by decide) (by decide) C D) ?_;conv=>cbv
 refine AB a aA ?_;conv=>cbv
 refine BB ?_;refine AB a (JL (by decide) z) ?_;conv=>cbv
 refine AB a (JL (by decide) X) ?_;conv=>cbv
 refine AB a (JL (by decide) z) ?_;conv=>cbv
 refine AB a aB ?_;conv=>cbv
 refine AB a (CK (x:=0) (y:=0) (by decide) (by decide) f g) ?_;conv=>cbv
 refine AB a aC ?_;conv=>cbv
 refine BB ?_;refine AB a (CK (x:=0) (y:=0) (by decide) (by decide) f g) ?_;conv=>cbv
 refine AB a (CK (x:=2) (y:=0) (by decide) (by decide) o s) ?_;conv=>cbv
 refine AB a (CK (x:=1) (y:=1) (by decide) (by decide) G H) ?_;conv=>cbv
 refine AB a (CK (x:=1) (y:=3) (by decide) (by decide) I J) ?_;conv=>cbv
 refine AB a aD ?_;conv=>cbv
 refine AB a (CK (x:=0) (y:=1) (by decide) (by decide) i k) ?_;conv=>cbv
 refine AB a aE ?_;conv=>cbv
 refine BB ?_;refine BM ?_;conv=>cbv
 refine BM ?_;conv=>cbv
 refine BM ?_;conv=>cbv
 refine BM ?_;conv=>cbv
 refine BM ?_;conv=>cbv
 refine BM ?_;conv=>cbv
 refine AB a (CK (x:=0) (y:=1) (by decide) (by decide) i k) ?_;conv=>cbv
 refine AB a (CR F aL u (by omega) (by omega) (by omega) (by omega) (e:=true) ⟨fun _=>⟨congrArg Re.ofRat (by decide +kernel),congrArg Re.ofRat (by decide +kernel)⟩,fun _=>rfl⟩) ?_;conv=>cbv
 refine AB a (CK (x:=2) (y:=0) (by decide) (by decide) o s) ?_;conv=>cbv
 refine AB a (CR F aP S (by omega) (by omega) (by omega) (by omega) (e:=true) ⟨fun _=>⟨congrArg Re.ofRat (by decide +kernel),congrArg Re.ofRat (by decide +kernel)⟩,fun _=>rfl⟩) ?_;conv=>cbv
 refine AB a (CK (x:=0) (y:=1) (by decide) (by decide) i k) ?_;conv=>cbv
 refine AB a (CR F aX u (by omega) (by omega) (by omega) (by omega) (e:=true) ⟨fun _=>⟨congrArg Re.ofRat (by decide +kernel),congrArg Re.ofRat (by decide +kernel)⟩,fun _=>rfl⟩) ?_;conv=>cbv
 refine BB ?_;exact AF ⟨t2,trivial⟩
theorem qO {w:List (List Rat)} (F:Fd TT w) {g Ia Ib Ic:List LR} {IS IT IU IV:LR} {xa ya xb yb:Re} (ha:Vm TT w 1950000 1 1 g IS Ia IT xa ya) (hb:Vm TT w 1950000 1 1 Ib IU Ic IV xb yb) (h:¬(xa=xb/\ya=yb)):∃Tf Af f i T1 A1 T2 A2 T3 A3,f*i=1/\Nm TT w 1950000 3 Tf Af f/\Vm TT w 1950000 170 170 T1 A1 T2 A2 (-(yb-ya)*i) ((xb-xa)*i)/\Nm TT w 1950000 345 T3 A3 (-(yb-ya)*i*xa+(xb-xa)*i*ya)/\CF 75 [.agg (AD g IS Ia IT),.agg (AD Ib IU Ic IV)] (.agg (AS T1 A1 T2 A2 T3 A3)):=by
 obtain⟨A0,_,t⟩:=H2 F (p:=((1:Int):Rat)) (by decide +kernel);have e1:∀x:Re,x≠0->x*(Re.ofRat ((1:Int):Rat)*AE x)=1:=fun x a=>by have:=F6 a;rw[show Re.ofRat ((1:Int):Rat)=1 from rfl];grind
 by_cases a: -(yb-ya)=0
 ·have m:xb-xa≠0:=fun e=>h ⟨by grind,by grind⟩
  obtain⟨Tf,Af,_,_,l,_⟩:=Dm F hb ha;obtain⟨_,_,s,_⟩:=DE F t l.x (d:=164) (by omega) m;obtain⟨T1,A1,T2,A2,T3,A3,n,o,c⟩:=qQ F ha hb s a m (e1 _ m);exact⟨Tf,Af,_,_,T1,A1,T2,A2,T3,A3,e1 _ m,l.x.mono (by omega),n.mono (by omega) (by omega),o.mono (by omega),c⟩
 obtain⟨_,_,_,_,l,_⟩:=Dm F hb ha;obtain⟨Af,k,_⟩:=FK F l.y;obtain⟨_,_,s,_⟩:=DE F t k (d:=164) (by omega) a;obtain⟨T1,A1,T2,A2,T3,A3,n,o,c⟩:=qS F ha hb s a (e1 _ a);exact⟨_,Af,_,_,T1,A1,T2,A2,T3,A3,e1 _ a,k.mono (by omega),n.mono (by omega) (by omega),o.mono (by omega),c⟩
theorem oN {y f i q:Re} (a:f*i=1) (d:(x*x+y*y)*q=1):(x*i*(x*i)+y*i*(y*i))*(f*f*q)=1:=by
 have:(x*i*(x*i)+y*i*(y*i))*(f*f*q)=(x*x+y*y)*q*(f*i)*(f*i):=by grind
 rw[this,d,a];grind
theorem oO (h:x*j=1):x≠0:=fun e=>NH (by rw[<-h,e];grind)
theorem oS (h:(a*a+b*b)*j=1) (d:two=1+1):two*j*(a*c)=a*j*c-((-b* -b-a*a)*j*(a*j*c)-(-b*a+a* -b)*j* -(b*j*c)):=by
 have:(-b* -b-a*a)*j*(a*j*c)-(-b*a+a* -b)*j* -(b*j*c)= -((a*a+b*b)*j)*(a*j*c):=by grind
 rw[this,h,d];grind
theorem oT (h:(a*a+b*b)*j=1) (d:two=1+1):two*j*(b*c)=b*j*c-((-b* -b-a*a)*j* -(b*j*c)+(-b*a+a* -b)*j*(a*j*c)):=by
 have:(-b* -b-a*a)*j* -(b*j*c)+(-b*a+a* -b)*j*(a*j*c)= -((a*a+b*b)*j)*(b*j*c):=by grind
 rw[this,h,d];grind
end Go.Abs
