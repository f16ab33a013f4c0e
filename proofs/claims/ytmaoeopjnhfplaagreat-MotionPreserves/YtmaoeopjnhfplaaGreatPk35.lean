/- Part 36 of a proof. Conditions: each theorem's own. -/
import Derived.Test.YtmaoeopjnhfplaaGreatPk34
set_option linter.all false
set_option maxHeartbeats 8000000
set_option maxRecDepth 20000
open Go.Proofs
namespace Go.Abs
open Go.RowKit
variable {A5 AK AN AO AT At BD A6 A7 A8:LR} {Q:List (el BL)} {T5 AL AM AP AU Aw BE T6 T7 T8:List LR} {TT:List (List Rat)->Prop} {V:List Re} {X:List (el Bh)} {X2 X3 X4 Y2 Y3 Y4 p q u v xa xt xu ya yt yu:Re} {ka kt ku:Nat} {km kn:Int} {nr:Bool} {ns:List Nu} {w:List (List Rat)}
theorem aY (F:Fd TT w) {xb yb:Re} {kb:Nat} (ha:Vm TT w 1950000 ka ka AL AK AM AN xa ya) (hb:Vm TT w 1950000 kb kb AP AO AU AT xb yb) (b:xa=xb) (c:ya=yb) (d:2*ka+2*kb+443<=80000:=by omega):CF 18 [.agg (AD AL AK AM AN),.one (.int .i64 0),.agg (AD AP AO AU AT)] (.one (.bool true)):=by
 refine AZ Tryz.func18 fun E a=>?_
 conv=>cbv
 refine BM ?_;conv=>cbv
 refine AB a (Jn F ha) ?_;conv=>cbv
 refine AB a (CR F ha hb (by omega) (by omega) (by omega) (by omega) (e:=true) ⟨fun _=>⟨b,c⟩,fun _=>rfl⟩) ?_;conv=>cbv
 exact AF ⟨t2,trivial⟩
theorem ft {W:List UInt8} (a:CF 15 [.agg [.sl Bh X,.sl .u8 W],.agg [.int .u8 km,.int .u8 kn]] (.AI [(true,[.nil,.nil,.nil,.nil,.nil,.nil,.nil,.nil,.bool false]),(true,[.nil,.nil,.nil,.nil,.nil,.nil,.nil,.nil,.bool false]),(true,[.nil,.nil,.nil,.nil]),(false,[.bool false])])):CF 3 [.agg [.sl (.pr .u8 (.pr .u8 (.pr .u8 (.pr .i8 .u8)))) X,.sl .u8 W],.agg [.int .u8 km,.int .u8 kn]] (.one (.bool true)):=by
 refine AZ Tryz.func3 fun E b=>?_
 conv=>cbv
 refine AB b a ?_;conv=>cbv
 refine AB b Ey ?_;conv=>cbv
 refine AR ?_;conv=>cbv
 refine BM ?_;conv=>cbv
 refine AB b Ey ?_;conv=>cbv
 exact AF ⟨t2,trivial⟩
theorem fp (F:Fd TT w) {W:List UInt8} (hu:Vm TT w 1950000 ku ku AL AK AM AN xu yu) (ht:Vm TT w 1950000 kt kt AP AO AU AT xt yt) (ha:Vm TT w 1950000 ka ka Aw At BE BD xa ya) (g:CF 15 [.agg [.sl Bh X,.sl .u8 W],.agg [.int .u8 km,.int .u8 kn]] (.AI [(true,(BQ AL AK AM AN AP AO AU AT false)),(true,(BQ T5 A5 T6 A6 T7 A7 T8 A8 nr)),(true,(AD Aw At BE BD)),(false,[.bool true])])) (j:8*ka+4*kt+8*ku+459<=80000:=by omega):CF 3 [.agg [.sl (.pr .u8 (.pr .u8 (.pr .u8 (.pr .i8 .u8)))) X,.sl .u8 W],.agg [.int .u8 km,.int .u8 kn]] (.one (.bool true)):=by
 obtain⟨BW,BV,Bm,Bj,c,a⟩:=Mt F hu ht ha;obtain⟨Bu,Bp,i,h,d,b⟩:=KJ F hu ht ha;refine AZ Tryz.func3 fun E f=>?_
 conv=>cbv
 refine AB f g ?_;conv=>cbv
 refine AB f Ey ?_;conv=>cbv
 refine AR ?_;conv=>cbv
 refine AR ?_;conv=>cbv
 refine AB f a ?_;conv=>cbv
 refine AB f b ?_;conv=>cbv
 refine AB (r:= .one (.bool true)) f (aY F c d (by grind) (by grind)) ?_;conv=>cbv
 refine BB ?_;exact AF ⟨t2,trivial⟩
theorem fq (F:Fd TT w) {W:List UInt8} (hu:Vm TT w 1950000 ku ku AL AK AM AN xu yu) (ht:Vm TT w 1950000 kt kt AP AO AU AT xt yt) (ha:Vm TT w 1950000 ka ka Aw At BE BD xa ya) (g:CF 15 [.agg [.sl Bh X,.sl .u8 W],.agg [.int .u8 km,.int .u8 kn]] (.AI [(true,(BQ AL AK AM AN AP AO AU AT true)),(true,(BQ T5 A5 T6 A6 T7 A7 T8 A8 nr)),(true,(AD Aw At BE BD)),(false,[.bool true])])) (j:8*ka+4*kt+8*ku+459<=80000:=by omega):CF 3 [.agg [.sl (.pr .u8 (.pr .u8 (.pr .u8 (.pr .i8 .u8)))) X,.sl .u8 W],.agg [.int .u8 km,.int .u8 kn]] (.one (.bool true)):=by
 obtain⟨BW,BV,Bm,Bj,c,a⟩:=Oc F hu ht ha;obtain⟨Bu,Bp,i,h,d,b⟩:=KK F hu ht ha;refine AZ Tryz.func3 fun E f=>?_
 conv=>cbv
 refine AB f g ?_;conv=>cbv
 refine AB f Ey ?_;conv=>cbv
 refine AR ?_;conv=>cbv
 refine AR ?_;conv=>cbv
 refine AB f a ?_;conv=>cbv
 refine AB f b ?_;conv=>cbv
 refine AB (r:= .one (.bool true)) f (aY F c d (by grind) (by grind)) ?_;conv=>cbv
 refine BB ?_;exact AF ⟨t2,trivial⟩
theorem tF {W:List UInt8} (l:ns=(runN (X.take 24)).1) (d:V.length<=3) (f:∀n∈ns,CL V n) (g:0<=km) (h:0<=kn):CF 3 [.agg [.sl Bh X,.sl .u8 W],.agg [.int .u8 km,.int .u8 kn]] (.one (.bool true)):=by
 obtain⟨w,L⟩:=Jc d f;rcases Ut (W:=W) l d f L g h with c |⟨n1,n2,B,C,i,o,T1,A1,T2,A2,T3,A3,T4,A4,mr,xu,yu,xt,yt,T5,A5,T6,A6,T7,A7,T8,A8,nr,xv,yv,xs,ys,x,t,y,hu,ht,r,A,z,s,ha,a⟩
 ·exact ft c
 obtain⟨_,_,_,m,j⟩:=i;obtain⟨F,U,_,_⟩:=Mc L j m (by grind);have ga:=U.v (by decide) (by decide) (ha (b:=11500) (k:=20) (by decide));cases mr
 ·exact fp F hu ht ga a
 exact fq F hu ht ga a
theorem cF (h:u*u+v*v=1):(X3+ -X2)*(X3+ -X2)+(Y3+ -Y2)*(Y3+ -Y2)=((u*X3-v* -Y3+p)+ -(u*X2-v* -Y2+p))*((u*X3-v* -Y3+p)+ -(u*X2-v* -Y2+p))+((v*X3+u* -Y3+q)+ -(v*X2+u* -Y2+q))*((v*X3+u* -Y3+q)+ -(v*X2+u* -Y2+q))/\ -(Y3+ -Y2)*(X4+ -X2)+(X3+ -X2)*(Y4+ -Y2)= -(-((v*X3+u* -Y3+q)+ -(v*X2+u* -Y2+q))*((u*X4-v* -Y4+p)+ -(u*X2-v* -Y2+p))+((u*X3-v* -Y3+p)+ -(u*X2-v* -Y2+p))*((v*X4+u* -Y4+q)+ -(v*X2+u* -Y2+q))):=by
 constructor
 ·have:((u*X3-v* -Y3+p)+ -(u*X2-v* -Y2+p))*((u*X3-v* -Y3+p)+ -(u*X2-v* -Y2+p))+((v*X3+u* -Y3+q)+ -(v*X2+u* -Y2+q))*((v*X3+u* -Y3+q)+ -(v*X2+u* -Y2+q))=(u*u+v*v)*((X3+ -X2)*(X3+ -X2)+(Y3+ -Y2)*(Y3+ -Y2)):=by grind
  rw[this,h];grind
 have: -(-((v*X3+u* -Y3+q)+ -(v*X2+u* -Y2+q))*((u*X4-v* -Y4+p)+ -(u*X2-v* -Y2+p))+((u*X3-v* -Y3+p)+ -(u*X2-v* -Y2+p))*((v*X4+u* -Y4+q)+ -(v*X2+u* -Y2+q)))=(u*u+v*v)*(-(Y3+ -Y2)*(X4+ -X2)+(X3+ -X2)*(Y4+ -Y2)):=by grind
 rw[this,h];grind
theorem cD (h:u*u+v*v=1):(X3+ -X2)*(X3+ -X2)+(Y3+ -Y2)*(Y3+ -Y2)=((u*X3-v*Y3+p)+ -(u*X2-v*Y2+p))*((u*X3-v*Y3+p)+ -(u*X2-v*Y2+p))+((v*X3+u*Y3+q)+ -(v*X2+u*Y2+q))*((v*X3+u*Y3+q)+ -(v*X2+u*Y2+q))/\ -(Y3+ -Y2)*(X4+ -X2)+(X3+ -X2)*(Y4+ -Y2)= -((v*X3+u*Y3+q)+ -(v*X2+u*Y2+q))*((u*X4-v*Y4+p)+ -(u*X2-v*Y2+p))+((u*X3-v*Y3+p)+ -(u*X2-v*Y2+p))*((v*X4+u*Y4+q)+ -(v*X2+u*Y2+q)):=by
 constructor
 ·have:((u*X3-v*Y3+p)+ -(u*X2-v*Y2+p))*((u*X3-v*Y3+p)+ -(u*X2-v*Y2+p))+((v*X3+u*Y3+q)+ -(v*X2+u*Y2+q))*((v*X3+u*Y3+q)+ -(v*X2+u*Y2+q))=(u*u+v*v)*((X3+ -X2)*(X3+ -X2)+(Y3+ -Y2)*(Y3+ -Y2)):=by grind
  rw[this,h];grind
 have: -((v*X3+u*Y3+q)+ -(v*X2+u*Y2+q))*((u*X4-v*Y4+p)+ -(u*X2-v*Y2+p))+((u*X3-v*Y3+p)+ -(u*X2-v*Y2+p))*((v*X4+u*Y4+q)+ -(v*X2+u*Y2+q))=(u*u+v*v)*(-(Y3+ -Y2)*(X4+ -X2)+(X3+ -X2)*(Y4+ -Y2)):=by grind
 rw[this,h];grind
theorem gG {W:List UInt8} (b:CF 20 [.agg [.sl Bh X,.sl .u8 W],.one (.int .i64 5)] (.AI [(false,[.sl BL Q]),(false,[.bool false])])):CF 5 [.agg [.sl (.pr .u8 (.pr .u8 (.pr .u8 (.pr .i8 .u8)))) X,.sl .u8 W],.agg [.int .u8 km,.int .u8 kn]] (.one (.bool true)):=by
 refine AZ Tryz.func5 fun E a=>?_
 conv=>cbv
 refine AB a b ?_;conv=>cbv
 refine AB a Ey ?_;conv=>cbv
 refine AR ?_;conv=>cbv
 refine BM ?_;conv=>cbv
 refine AB a Ey ?_;conv=>cbv
 exact AF ⟨t2,trivial⟩
theorem gE (F:Fd TT w) {W:List UInt8} (hu:Vm TT w 1950000 ku ku AL AK AM AN xu yu) (ht:Vm TT w 1950000 kt kt AP AO AU AT xt yt) (cS:CF 20 [.agg [.sl Bh X,.sl .u8 W],.one (.int .i64 5)] (.AI [(false,[.sl BL Q]),(false,[.bool true])])) {l x1 x2 j k:el BL} (Z:Q[0]? =some l) (a1:Q[1]? =some x1) (i:Q[2]? =some x2) (U:Q[3]? =some j) (Y:Q[4]? =some k) (h:Vm TT w 1950000 1 1 x2.1.1 x2.1.2 x2.2.1 x2.2.2 X2 Y2) (R:Vm TT w 1950000 1 1 j.1.1 j.1.2 j.2.1 j.2.2 X3 Y3) (S:Vm TT w 1950000 1 1 k.1.1 k.1.2 k.2.1 k.2.2 X4 Y4) (T:xu*xu+yu*yu=1) (cM:CF 21 [.one (.int .u8 km),.agg (AD l.1.1 l.1.2 l.2.1 l.2.2),.agg (AD x1.1.1 x1.1.2 x1.2.1 x1.2.2)] (.agg (BQ AL AK AM AN AP AO AU AT false))) (hM:16*kt+32*ku+553<=80000:=by omega):CF 5 [.agg [.sl (.pr .u8 (.pr .u8 (.pr .u8 (.pr .i8 .u8)))) X,.sl .u8 W],.agg [.int .u8 km,.int .u8 kn]] (.one (.bool true)):=by
 obtain⟨BE,BD,Ba,BT,b,o⟩:=Mt F hu ht h;obtain⟨Bm,Bj,Bw,Bq,I,r⟩:=Mt F hu ht R;obtain⟨ak,a2,al,a5,J,s⟩:=Mt F hu ht S;obtain⟨an,a6,ao,a7,c,t⟩:=FN F R h;obtain⟨aq,a8,ar,aa,K,x⟩:=FN F S h;obtain⟨au,ab,av,ad,d,y⟩:=FN F I b;obtain⟨aw,ae,ax,af,L,z⟩:=FN F J b;obtain⟨ay,ag,M,A⟩:=H9 F c;obtain⟨az,ah,N,B⟩:=H9 F d;obtain⟨aA,ai,O,C⟩:=KX F c K;obtain⟨aB,aj,P,D⟩:=KX F d L;obtain⟨m,f,aC,G⟩:=EK F M N
 obtain rfl:m=true:=f.2 (cD (X4:=X4) (Y4:=Y4) T).1;obtain⟨n,g,aD,H⟩:=EK F O P;obtain rfl:n=true:=g.2 (cD T).2;refine AZ Tryz.func5 fun E a=>?_
 conv=>cbv
 refine AB a cS ?_;conv=>cbv
 refine AB a Ey ?_;conv=>cbv
 refine AR ?_;conv=>cbv
 refine AR ?_;conv=>cbv
 refine⟨l,fun _=>⟨by omega,Z⟩,?_⟩;try conv=>cbv
 refine⟨x1,fun _=>⟨by omega,a1⟩,?_⟩;try conv=>cbv
 refine AB a cM ?_;conv=>cbv
 refine BB ?_;refine⟨x2,fun _=>⟨by omega,i⟩,?_⟩;try conv=>cbv
 refine AB a o ?_;conv=>cbv
 refine BB ?_;refine⟨j,fun _=>⟨by omega,U⟩,?_⟩;try conv=>cbv
 refine AB a r ?_;conv=>cbv
 refine BB ?_;refine⟨k,fun _=>⟨by omega,Y⟩,?_⟩;try conv=>cbv
 refine AB a s ?_;conv=>cbv
 refine BB ?_;refine AR ?_;conv=>cbv
 refine AR ?_;conv=>cbv
 refine AR ?_;conv=>cbv
 refine⟨j,fun _=>⟨by omega,U⟩,?_⟩;try conv=>cbv
 refine⟨x2,fun _=>⟨by omega,i⟩,?_⟩;try conv=>cbv
 refine AB a t ?_;conv=>cbv
 refine BB ?_;refine⟨k,fun _=>⟨by omega,Y⟩,?_⟩;try conv=>cbv
 refine⟨x2,fun _=>⟨by omega,i⟩,?_⟩;try conv=>cbv
 refine AB a x ?_;conv=>cbv
 refine BB ?_;refine AB a y ?_;conv=>cbv
 refine AB a z ?_;conv=>cbv
 refine AB a A ?_;conv=>cbv
 refine AB a B ?_;conv=>cbv
 refine AB a C ?_;conv=>cbv
 refine AB a D ?_;conv=>cbv
 refine .inr ?_;refine AB a G ?_;conv=>cbv
 refine AB a H ?_;conv=>cbv
 exact AF ⟨t2,trivial⟩
theorem gF (F:Fd TT w) {W:List UInt8} (hu:Vm TT w 1950000 ku ku AL AK AM AN xu yu) (ht:Vm TT w 1950000 kt kt AP AO AU AT xt yt) (cS:CF 20 [.agg [.sl Bh X,.sl .u8 W],.one (.int .i64 5)] (.AI [(false,[.sl BL Q]),(false,[.bool true])])) {l x1 x2 j k:el BL} (a2:Q[0]? =some l) (a5:Q[1]? =some x1) (i:Q[2]? =some x2) (Z:Q[3]? =some j) (a1:Q[4]? =some k) (h:Vm TT w 1950000 1 1 x2.1.1 x2.1.2 x2.2.1 x2.2.2 X2 Y2) (T:Vm TT w 1950000 1 1 j.1.1 j.1.2 j.2.1 j.2.2 X3 Y3) (U:Vm TT w 1950000 1 1 k.1.1 k.1.2 k.2.1 k.2.2 X4 Y4) (Y:xu*xu+yu*yu=1) (cM:CF 21 [.one (.int .u8 km),.agg (AD l.1.1 l.1.2 l.2.1 l.2.2),.agg (AD x1.1.1 x1.1.2 x1.2.1 x1.2.2)] (.agg (BQ AL AK AM AN AP AO AU AT true))) (hM:16*kt+32*ku+553<=80000:=by omega):CF 5 [.agg [.sl (.pr .u8 (.pr .u8 (.pr .u8 (.pr .i8 .u8)))) X,.sl .u8 W],.agg [.int .u8 km,.int .u8 kn]] (.one (.bool true)):=by
 obtain⟨BE,BD,Ba,BT,b,o⟩:=Oc F hu ht h;obtain⟨Bm,Bj,Bw,Bq,J,r⟩:=Oc F hu ht T;obtain⟨ao,a6,aq,a7,K,s⟩:=Oc F hu ht U;obtain⟨ar,a8,au,aa,c,t⟩:=FN F T h;obtain⟨av,ab,aw,ad,L,x⟩:=FN F U h;obtain⟨ax,ae,ay,af,d,y⟩:=FN F J b;obtain⟨az,ag,aA,ah,M,z⟩:=FN F K b;obtain⟨aB,ai,N,A⟩:=H9 F c;obtain⟨aC,aj,O,B⟩:=H9 F d;obtain⟨aD,ak,P,C⟩:=KX F c L;obtain⟨aE,al,R,D⟩:=KX F d M;obtain⟨an,S,aF,G⟩:=FK F R
 obtain⟨m,f,aG,H⟩:=EK F N O;obtain rfl:m=true:=f.2 (cF (X4:=X4) (Y4:=Y4) Y).1;obtain⟨n,g,aH,I⟩:=EK F P S;obtain rfl:n=true:=g.2 (cF Y).2;refine AZ Tryz.func5 fun E a=>?_
 conv=>cbv
 refine AB a cS ?_;conv=>cbv
 refine AB a Ey ?_;conv=>cbv
 refine AR ?_;conv=>cbv
 refine AR ?_;conv=>cbv
 refine⟨l,fun _=>⟨by omega,a2⟩,?_⟩;try conv=>cbv
 refine⟨x1,fun _=>⟨by omega,a5⟩,?_⟩;try conv=>cbv
 refine AB a cM ?_;conv=>cbv
 refine BB ?_;refine⟨x2,fun _=>⟨by omega,i⟩,?_⟩;try conv=>cbv
 refine AB a o ?_;conv=>cbv
 refine BB ?_;refine⟨j,fun _=>⟨by omega,Z⟩,?_⟩;try conv=>cbv
 refine AB a r ?_;conv=>cbv
 refine BB ?_;refine⟨k,fun _=>⟨by omega,a1⟩,?_⟩;try conv=>cbv
 refine AB a s ?_;conv=>cbv
 refine BB ?_;refine AR ?_;conv=>cbv
 refine AR ?_;conv=>cbv
 refine AR ?_;conv=>cbv
 refine⟨j,fun _=>⟨by omega,Z⟩,?_⟩;try conv=>cbv
 refine⟨x2,fun _=>⟨by omega,i⟩,?_⟩;try conv=>cbv
 refine AB a t ?_;conv=>cbv
 refine BB ?_;refine⟨k,fun _=>⟨by omega,a1⟩,?_⟩;try conv=>cbv
 refine⟨x2,fun _=>⟨by omega,i⟩,?_⟩;try conv=>cbv
 refine AB a x ?_;conv=>cbv
 refine BB ?_;refine AB a y ?_;conv=>cbv
 refine AB a z ?_;conv=>cbv
 refine AB a A ?_;conv=>cbv
 refine AB a B ?_;conv=>cbv
 refine AB a C ?_;conv=>cbv
 refine AB a D ?_;conv=>cbv
 refine .inr ?_;refine AB a G ?_;conv=>cbv
 refine AB a H ?_;conv=>cbv
 refine AB a I ?_;conv=>cbv
 exact AF ⟨t2,trivial⟩
theorem tI {W:List UInt8} (r:ns=(runN (X.take 24)).1) (f:V.length<=3) (a:∀n∈ns,CL V n) (t:0<=km):CF 5 [.agg [.sl Bh X,.sl .u8 W],.agg [.int .u8 km,.int .u8 kn]] (.one (.bool true)):=by
 obtain⟨w,L⟩:=Jc f a;obtain⟨Q,d⟩:∃z,z=IG ns W:=⟨_,rfl⟩
 rcases Nat.lt_or_ge Q.length 5 with M | M
 ·exact gG (IP r f a d (i:=5) (i':=5) ⟨rfl⟩ (by decide) (c:=false) (decide_eq_false (by omega)).symm)
 have I:=IP r f a d (i:=5) (i':=5) ⟨rfl⟩ (by decide) (c:=true) (decide_eq_true M).symm;obtain⟨Y,g⟩:=Ao (l:=Q) (i:=0) (by omega);obtain⟨O,R,A⟩:=G7 L a d g;obtain⟨x1,h⟩:=Ao (l:=Q) (i:=1) (by omega);obtain⟨P,S,B⟩:=G7 L a d h;obtain⟨x2,j⟩:=Ao (l:=Q) (i:=2) (by omega);obtain⟨X2,Y2,C⟩:=G7 L a d j;obtain⟨Z,m⟩:=Ao (l:=Q) (i:=3) (by omega);obtain⟨X3,Y3,D⟩:=G7 L a d m;obtain⟨x4,o⟩:=Ao (l:=Q) (i:=4) (by omega);obtain⟨X4,Y4,G⟩:=G7 L a d o;obtain⟨n1,T,x,T1,A1,T2,A2,T3,A3,T4,A4,mr,xu,yu,xt,yt,hu,ht,s,H⟩:=QK L A B t;obtain⟨_,_,_,N,y⟩:=x;obtain⟨F,U,_,_⟩:=Mc L y N (by grind);have g2:=U.v (by decide) (by decide) (C (b:=11500) (k:=20) (by decide));have J:=U.v (by decide) (by decide) (D (b:=11500) (k:=20) (by decide));have K:=U.v (by decide) (by decide) (G (b:=11500) (k:=20) (by decide))
 cases mr
 ·exact gE F hu ht I g h j m o g2 J K s H
 exact gF F hu ht I g h j m o g2 J K s H
end Go.Abs
