/- Part 37 of a proof. Conditions: each theorem's own. -/
import Derived.Test.YtmaoeopjnhfplaaGreatPk34
set_option linter.all false
set_option maxHeartbeats 8000000
set_option maxRecDepth 20000
open Go.Proofs
namespace Go.Abs
open Go.RowKit
variable {A1 A2 A3 A4 A5 AK AN AO AT At BD BT BV Bj A6 A7 A8:LR} {Q:List (el BL)} {T1 T2 T3 T4 T5 AL AM AP AU Aw BE Ba BW Bm T6 T7 T8:List LR} {TT:List (List Rat)->Prop} {X:List (el Bh)} {X2 X3 X4 X5 Y2 Y3 Y4 Y5 vi xa xb xp xq ya yb yp yq:Re} {ka kb ki kp kq:Nat} {km kn:Int} {mr ot:Bool} {w:List (List Rat)}
theorem cQ (F:Fd TT w) (ha:Vm TT w 1950000 ka ka AL AK AM AN xa ya) (hb:Vm TT w 1950000 kb kb AP AO AU AT xb yb) (hp:Vm TT w 1950000 kp kp Aw At BE BD xp yp) (hq:Vm TT w 1950000 kq kq Ba BT BW BV xq yq) (hi:Nm TT w 1950000 ki Bm Bj vi) (hz:(xb-xa)*(xb-xa)+(yb-ya)*(yb-ya)≠0) (J:((xb-xa)*(xb-xa)+(yb-ya)*(yb-ya))*vi=1) (hM:190*ka+190*kb+2*ki+5*kp+4*kq+470<=80000:=by omega):∃U0 V o i U1 W p j,Vm TT w 1950000 (2*ka+2*kb+ki+2*kp+2*kq+8) (2*ka+2*kb+ki+2*kp+2*kq+8) U0 V o i (((xq-xp)*((xb-xa))-(yq-yp)*(-(yb-ya)))*vi) (((xq-xp)*(-(yb-ya))+(yq-yp)*((xb-xa)))*vi)/\Vm TT w 1950000 (6*ka+4*kb+2*ki+5*kp+4*kq+20) (6*ka+4*kb+2*ki+5*kp+4*kq+20) U1 W p j (xp-((((xq-xp)*((xb-xa))-(yq-yp)*(-(yb-ya)))*vi)*xa-(((xq-xp)*(-(yb-ya))+(yq-yp)*((xb-xa)))*vi)*ya)) (yp-((((xq-xp)*((xb-xa))-(yq-yp)*(-(yb-ya)))*vi)*ya+(((xq-xp)*(-(yb-ya))+(yq-yp)*((xb-xa)))*vi)*xa))/\CF 25 [.agg (AD AL AK AM AN),.agg (AD AP AO AU AT),.agg (AD Aw At BE BD),.agg (AD Ba BT BW BV),.one (.bool false)] (.agg (BQ U0 V o i U1 W p j false)):=by
 obtain⟨Bu,Bp,Y,K,b,q⟩:=G9 F hb ha;obtain⟨Z,L,a1,M,A,r⟩:=G9 F hq hp;obtain⟨a2,N,B,s⟩:=KN F b;have C:=B.cast (y:=(xb-xa)*(xb-xa)+(yb-ya)*(yb-ya)) (by grind);obtain⟨a5,O,a6,P,D,t⟩:=IH F b;obtain⟨a7,R,a8,S,G,u⟩:=HV F A D;obtain⟨k,d,l,f,c,v⟩:=L2 F G C hi hz J;obtain⟨aa,T,ab,U,H,x⟩:=HV F c ha;obtain⟨m,g,n,h,I,z⟩:=G9 F hp H;refine⟨k,d,l,f,m,g,n,h,c.mono (by omega) (by omega),I.mono (by omega) (by omega),?_⟩;refine AZ Tryz.func25 fun E a=>?_
 conv=>cbv
 refine .inr ?_;refine AB a q ?_;conv=>cbv
 refine AB a r ?_;conv=>cbv
 refine BB ?_;refine AB a t ?_;conv=>cbv
 refine AB a u ?_;conv=>cbv
 refine AB a s ?_;conv=>cbv
 refine AB a v ?_;conv=>cbv
 refine BB ?_;refine AB a x ?_;conv=>cbv
 refine AB a z ?_;conv=>cbv
 refine AB a H3 ?_;conv=>cbv
 refine BB ?_;exact AF ⟨⟨rfl,rfl,rfl,rfl,rfl,rfl,rfl,rfl,rfl,rfl,trivial⟩,trivial⟩
theorem cT (F:Fd TT w) (ha:Vm TT w 1950000 ka ka AL AK AM AN xa ya) (hb:Vm TT w 1950000 kb kb AP AO AU AT xb yb) (hp:Vm TT w 1950000 kp kp Aw At BE BD xp yp) (hq:Vm TT w 1950000 kq kq Ba BT BW BV xq yq) (hi:Nm TT w 1950000 ki Bm Bj vi) (hz:(xb-xa)*(xb-xa)+(yb-ya)*(yb-ya)≠0) (N:((xb-xa)*(xb-xa)+(yb-ya)*(yb-ya))*vi=1) (hM:190*ka+190*kb+2*ki+5*kp+4*kq+470<=80000:=by omega):∃U0 B0 p j U1 B1 q k,Vm TT w 1950000 (2*ka+2*kb+ki+2*kp+2*kq+8) (2*ka+2*kb+ki+2*kp+2*kq+8) U0 B0 p j (((xq-xp)*((xb-xa))-(yq-yp)*(-((-yb)-(-ya))))*vi) (((xq-xp)*(-((-yb)-(-ya)))+(yq-yp)*((xb-xa)))*vi)/\Vm TT w 1950000 (6*ka+4*kb+2*ki+5*kp+4*kq+20) (6*ka+4*kb+2*ki+5*kp+4*kq+20) U1 B1 q k (xp-((((xq-xp)*((xb-xa))-(yq-yp)*(-((-yb)-(-ya))))*vi)*xa-(((xq-xp)*(-((-yb)-(-ya)))+(yq-yp)*((xb-xa)))*vi)*(-ya))) (yp-((((xq-xp)*((xb-xa))-(yq-yp)*(-((-yb)-(-ya))))*vi)*(-ya)+(((xq-xp)*(-((-yb)-(-ya)))+(yq-yp)*((xb-xa)))*vi)*xa))/\CF 25 [.agg (AD AL AK AM AN),.agg (AD AP AO AU AT),.agg (AD Aw At BE BD),.agg (AD Ba BT BW BV),.one (.bool true)] (.agg (BQ U0 B0 p j U1 B1 q k true)):=by
 obtain⟨Bu,Bp,a7,O,b,r⟩:=IH F ha;obtain⟨a8,P,aa,R,D,s⟩:=IH F hb;obtain⟨ab,S,ad,T,c,t⟩:=G9 F D b;obtain⟨ae,U,af,V,G,u⟩:=G9 F hq hp;obtain⟨ag,W,H,v⟩:=KN F c;have I:=H.cast (y:=(xb-xa)*(xb-xa)+(yb-ya)*(yb-ya)) (by grind);obtain⟨ah,Y,ai,Z,J,x⟩:=IH F c;obtain⟨aj,a1,ak,a2,K,z⟩:=HV F G J;obtain⟨l,f,m,g,d,A⟩:=L2 F K I hi hz N;obtain⟨al,a5,an,a6,L,B⟩:=HV F d b;obtain⟨n,h,o,i,M,C⟩:=G9 F hp L;refine⟨l,f,m,g,n,h,o,i,d.mono (by omega) (by omega),M.mono (by omega) (by omega),?_⟩;refine AZ Tryz.func25 fun E a=>?_
 conv=>cbv
 refine .inr ?_;refine AB a r ?_;conv=>cbv
 refine AB a s ?_;conv=>cbv
 refine BB ?_;refine AB a t ?_;conv=>cbv
 refine AB a u ?_;conv=>cbv
 refine BB ?_;refine AB a x ?_;conv=>cbv
 refine AB a z ?_;conv=>cbv
 refine AB a v ?_;conv=>cbv
 refine AB a A ?_;conv=>cbv
 refine BB ?_;refine AB a B ?_;conv=>cbv
 refine AB a C ?_;conv=>cbv
 refine AB a H3 ?_;conv=>cbv
 refine BB ?_;exact AF ⟨⟨rfl,rfl,rfl,rfl,rfl,rfl,rfl,rfl,rfl,rfl,trivial⟩,trivial⟩
theorem Rw (F:Fd TT w) (ha:Vm TT w 1950000 ka ka AL AK AM AN xa ya) (hb:Vm TT w 1950000 kb kb AP AO AU AT xb yb) (l:Vm TT w 1950000 kp kp Aw At BE BD xp yp) (m:Vm TT w 1950000 kq kq Ba BT BW BV xq yq) (k:xb-xa=0/\yb-ya=0) (n:ka+kb+kp+kq+112<=80000:=by omega):CF 23 [.agg (AD AL AK AM AN),.agg (AD AP AO AU AT),.agg (AD Aw At BE BD),.agg (AD Ba BT BW BV)] (.one (.bool false)):=by
 obtain⟨Bw,Bq,Bu,Bp,c,a⟩:=G9 F hb ha;obtain⟨h,f,i,g,j,b⟩:=G9 F m l;refine AZ Tryz.func23 fun E d=>?_
 conv=>cbv
 refine AB d a ?_;conv=>cbv
 refine AB d b ?_;conv=>cbv
 refine BB ?_;refine AB d (IQ F c (by omega) (by omega) (e:=true) ⟨fun _=>k,fun _=>rfl⟩) ?_;conv=>cbv
 refine AR ?_;conv=>cbv
 refine BB ?_;exact AF ⟨t2,trivial⟩
theorem Rv (F:Fd TT w) (ha:Vm TT w 1950000 ka ka AL AK AM AN xa ya) (hb:Vm TT w 1950000 kb kb AP AO AU AT xb yb) (B:Vm TT w 1950000 kp kp Aw At BE BD xp yp) (C:Vm TT w 1950000 kq kq Ba BT BW BV xq yq) (y:¬(xb-xa=0/\yb-ya=0)) (A:¬((xb-xa)*(xb-xa)+(yb-ya)*(yb-ya)=(xq-xp)*(xq-xp)+(yq-yp)*(yq-yp))) (D:8*ka+8*kb+8*kp+8*kq+457<=80000:=by omega):CF 23 [.agg (AD AL AK AM AN),.agg (AD AP AO AU AT),.agg (AD Aw At BE BD),.agg (AD Ba BT BW BV)] (.one (.bool false)):=by
 obtain⟨Bw,Bq,Bu,Bp,a,f⟩:=G9 F hb ha;obtain⟨s,n,t,o,k,g⟩:=G9 F C B;obtain⟨u,p,l,h⟩:=KN F a;obtain⟨v,q,m,i⟩:=KN F k;obtain⟨d,b,x,j⟩:=EK F l m;obtain rfl:d=false:=Bool.eq_false_iff.2 fun z=>A (b.1 z)
 refine AZ Tryz.func23 fun E c=>?_
 conv=>cbv
 refine AB c f ?_;conv=>cbv
 refine AB c g ?_;conv=>cbv
 refine BB ?_;refine AB (r:= .one (.bool false)) c (IQ F a (by omega) (by omega) (e:=false) ⟨fun z=>(by cases z),fun z=>absurd z y⟩) ?_;conv=>cbv
 refine BM ?_;conv=>cbv
 refine AB c h ?_;conv=>cbv
 refine AB c i ?_;conv=>cbv
 refine AB c j ?_;conv=>cbv
 refine BB ?_;exact AF ⟨t2,trivial⟩
theorem Ru (F:Fd TT w) (ha:Vm TT w 1950000 ka ka AL AK AM AN xa ya) (hb:Vm TT w 1950000 kb kb AP AO AU AT xb yb) (B:Vm TT w 1950000 kp kp Aw At BE BD xp yp) (C:Vm TT w 1950000 kq kq Ba BT BW BV xq yq) (y:¬(xb-xa=0/\yb-ya=0)) (A:(xb-xa)*(xb-xa)+(yb-ya)*(yb-ya)=(xq-xp)*(xq-xp)+(yq-yp)*(yq-yp)) (D:8*ka+8*kb+8*kp+8*kq+457<=80000:=by omega):CF 23 [.agg (AD AL AK AM AN),.agg (AD AP AO AU AT),.agg (AD Aw At BE BD),.agg (AD Ba BT BW BV)] (.one (.bool true)):=by
 obtain⟨Bw,Bq,Bu,Bp,a,f⟩:=G9 F hb ha;obtain⟨s,n,t,o,k,g⟩:=G9 F C B;obtain⟨u,p,l,h⟩:=KN F a;obtain⟨v,q,m,i⟩:=KN F k;obtain⟨d,b,x,j⟩:=EK F l m;obtain rfl:d=true:=b.2 A;refine AZ Tryz.func23 fun E c=>?_
 conv=>cbv
 refine AB c f ?_;conv=>cbv
 refine AB c g ?_;conv=>cbv
 refine BB ?_;refine AB (r:= .one (.bool false)) c (IQ F a (by omega) (by omega) (e:=false) ⟨fun z=>(by cases z),fun z=>absurd z y⟩) ?_;conv=>cbv
 refine BM ?_;conv=>cbv
 refine AB c h ?_;conv=>cbv
 refine AB c i ?_;conv=>cbv
 refine AB c j ?_;conv=>cbv
 refine BB ?_;exact AF ⟨t2,trivial⟩
theorem RO {a b c d i:Re} (f:a*a+b*b=c*c+d*d) (h:(a*a+b*b)*i=1):(a*c+b*d)*i*((a*c+b*d)*i)+(-b*c+a*d)*i*((-b*c+a*d)*i)=Re.ofRat ((1:Int):Rat):=by
 have:(a*c+b*d)*i*((a*c+b*d)*i)+(-b*c+a*d)*i*((-b*c+a*d)*i)=(a*a+b*b)*i*((c*c+d*d)*i):=by grind
 rw[this,<-f,h];exact (show (1:Re)*1=1 by grind)
theorem fz {W:List UInt8} (b:CF 20 [.agg [.sl Bh X,.sl .u8 W],.one (.int .i64 6)] (.AI [(false,[.sl BL Q]),(false,[.bool false])])):CF 4 [.agg [.sl (.pr .u8 (.pr .u8 (.pr .u8 (.pr .i8 .u8)))) X,.sl .u8 W],.agg [.int .u8 km,.int .u8 kn],.one (.bool ot)] (.one (.bool true)):=by
 refine AZ Tryz.func4 fun E a=>?_
 conv=>cbv
 refine AB a b ?_;conv=>cbv
 refine AB a Ey ?_;conv=>cbv
 refine AR ?_;conv=>cbv
 refine BM ?_;conv=>cbv
 refine AB a Ey ?_;conv=>cbv
 exact AF ⟨t2,trivial⟩
theorem gC (F:Fd TT w) {W:List UInt8} (o:Vm TT w 1950000 kp kp AL AK AM AN xp yp) (p:Vm TT w 1950000 kq kq AP AO AU AT xq yq) (H:CF 20 [.agg [.sl Bh X,.sl .u8 W],.one (.int .i64 6)] (.AI [(false,[.sl BL Q]),(false,[.bool true])])) {m x1 x2 L a b:el BL} (t:Q[0]? =some m) (u:Q[1]? =some x1) (I:Q[2]? =some x2) (J:Q[3]? =some L) (v:Q[4]? =some a) (x:Q[5]? =some b) (h:Vm TT w 1950000 1 1 a.1.1 a.1.2 a.2.1 a.2.2 X4 Y4) (i:Vm TT w 1950000 1 1 b.1.1 b.1.2 b.2.1 b.2.2 X5 Y5) (G:CF 21 [.one (.int .u8 km),.agg (AD m.1.1 m.1.2 m.2.1 m.2.2),.agg (AD x1.1.1 x1.1.2 x1.2.1 x1.2.2)] (.agg (BQ T1 A1 T2 A2 T3 A3 T4 A4 mr))) (C:CF 19 [.agg (BQ T1 A1 T2 A2 T3 A3 T4 A4 mr),.agg (AD a.1.1 a.1.2 a.2.1 a.2.2)] (.agg (AD AL AK AM AN))) (D:CF 19 [.agg (BQ T1 A1 T2 A2 T3 A3 T4 A4 mr),.agg (AD b.1.1 b.1.2 b.2.1 b.2.2)] (.agg (AD AP AO AU AT))) (l:X5-X4=0/\Y5-Y4=0) (M:3*kp+3*kq+128<=80000:=by omega):CF 4 [.agg [.sl (.pr .u8 (.pr .u8 (.pr .u8 (.pr .i8 .u8)))) X,.sl .u8 W],.agg [.int .u8 km,.int .u8 kn],.one (.bool false)] (.one (.bool true)):=by
 obtain⟨Aw,At,BE,BD,j,z⟩:=Dm F p o;refine AZ Tryz.func4 fun E f=>?_
 conv=>cbv
 refine AB f H ?_;conv=>cbv
 refine AB f Ey ?_;conv=>cbv
 refine AR ?_;conv=>cbv
 refine AR ?_;conv=>cbv
 refine⟨a,fun _=>⟨by omega,v⟩,?_⟩;try conv=>cbv
 refine⟨b,fun _=>⟨by omega,x⟩,?_⟩;try conv=>cbv
 refine BB ?_;refine⟨m,fun _=>⟨by omega,t⟩,?_⟩;try conv=>cbv
 refine⟨x1,fun _=>⟨by omega,u⟩,?_⟩;try conv=>cbv
 refine AB f G ?_;conv=>cbv
 refine BB ?_;refine AB f C ?_;conv=>cbv
 refine AB f D ?_;conv=>cbv
 refine BB ?_;refine .inr ?_;refine⟨[false,true],fun _=>⟨rfl,by decide,rfl,⟨rfl,by first | exact t1 | exact t2 | exact t4 | simp[Bg,Bo,cells],⟨rfl,by first | exact t1 | exact t2 | exact t4 | simp[Bg,Bo,cells],trivial⟩⟩⟩,.inr ?_⟩;try conv=>cbv
 rintro y ⟨s,f59⟩;conv=>cbv
 obtain rfl:y=2:=s;refine .inr ?_;obtain⟨B,g⟩:=xJ fun vs q k=>(vs=[.one (.sl .bool [false,true]),.one (.int .i64 2),.one (.int .i64 0),.one (.BC 9 0 0),.one (.BC 10 0 0),.one (.BC 12 0 0),.one (.BC 13 0 0)]/\q=[.var 0 [.sl (.sl AA) a.1.1,.sl AA a.1.2,.sl (.sl AA) a.2.1,.sl AA a.2.2],.var 0 [.sl (.sl AA) b.1.1,.sl AA b.1.2,.sl (.sl AA) b.2.1,.sl AA b.2.2],.var 0 [.sl (.sl AA) AL,.sl AA AK,.sl (.sl AA) AM,.sl AA AN],.var 0 [.sl (.sl AA) AP,.sl AA AO,.sl (.sl AA) AU,.sl AA AT]]/\k=2)\/(vs=[.one (.sl .bool [false,true]),.one (.int .i64 2),.one (.int .i64 1),.one (.BC 9 0 0),.one (.BC 10 0 0),.one (.BC 12 0 0),.one (.BC 13 0 0)]/\q=[.var 0 [.sl (.sl AA) a.1.1,.sl AA a.1.2,.sl (.sl AA) a.2.1,.sl AA a.2.2],.var 0 [.sl (.sl AA) b.1.1,.sl AA b.1.2,.sl (.sl AA) b.2.1,.sl AA b.2.2],.var 0 [.sl (.sl AA) AL,.sl AA AK,.sl (.sl AA) AM,.sl AA AN],.var 0 [.sl (.sl AA) AP,.sl AA AO,.sl (.sl AA) AU,.sl AA AT]]/\k=1)\/(vs=[.one (.sl .bool [false,true]),.one (.int .i64 2),.one (.int .i64 2),.one (.BC 9 0 0),.one (.BC 10 0 0),.one (.BC 12 0 0),.one (.BC 13 0 0)]/\q=[.var 0 [.sl (.sl AA) a.1.1,.sl AA a.1.2,.sl (.sl AA) a.2.1,.sl AA a.2.2],.var 0 [.sl (.sl AA) b.1.1,.sl AA b.1.2,.sl (.sl AA) b.2.1,.sl AA b.2.2],.var 0 [.sl (.sl AA) AL,.sl AA AK,.sl (.sl AA) AM,.sl AA AN],.var 0 [.sl (.sl AA) AP,.sl AA AO,.sl (.sl AA) AU,.sl AA AT]]/\k=0)
 refine⟨[58,59,60,9,10,12,13],[9,10,12,13],B,⟨2,by rw[g];exact .inl ⟨rfl,rfl,rfl⟩⟩,?_⟩;intro vs q K A;rw[g] at A;rcases A with⟨rfl,rfl,n⟩ |⟨rfl,rfl,n⟩ |⟨rfl,rfl,n⟩
 ·conv=>cbv
  refine BM ?_;conv=>cbv
  refine .inr ?_;refine⟨false,fun _=>⟨by omega,rfl⟩,?_⟩;try conv=>cbv
  refine AB (r:= .AI [(true,[.nil,.nil,.nil,.nil,.nil,.nil,.nil,.nil,.bool false]),(false,[.int .i64 1])]) f (RM F h i o p j (mr:=false) rfl rfl (by rw[l.1,l.2];grind)) ?_;try conv=>cbv
  refine AB f (Rw F h i o p l) ?_;conv=>cbv
  refine BM ?_;conv=>cbv
  refine AR ?_;conv=>cbv
  refine AR ?_;conv=>cbv
  intro d c;conv=>cbv
  refine Ah ?_;obtain rfl:d=1:=c;refine⟨1,?_,?_⟩
  ·omega
  rw[g];exact .inr (.inl ⟨rfl,rfl,rfl⟩)
 ·conv=>cbv
  refine BM ?_;conv=>cbv
  refine .inr ?_;refine⟨true,fun _=>⟨by omega,rfl⟩,?_⟩;try conv=>cbv
  refine AB (r:= .AI [(true,[.nil,.nil,.nil,.nil,.nil,.nil,.nil,.nil,.bool false]),(false,[.int .i64 1])]) f (RM F h i o p j (mr:=true) rfl rfl (by rw[l.1,l.2];grind)) ?_;try conv=>cbv
  refine AB f (Rw F h i o p l) ?_;conv=>cbv
  refine BM ?_;conv=>cbv
  refine AR ?_;conv=>cbv
  refine AR ?_;conv=>cbv
  intro d c;conv=>cbv
  refine Ah ?_;obtain rfl:d=2:=c;refine⟨0,?_,?_⟩
  ·omega
  rw[g];exact .inr (.inr ⟨rfl,rfl,rfl⟩)
 conv=>cbv
 refine AR ?_;conv=>cbv
 exact AF ⟨t2,trivial⟩
theorem gD (F:Fd TT w) {W:List UInt8} (K:CF 20 [.agg [.sl Bh X,.sl .u8 W],.one (.int .i64 6)] (.AI [(false,[.sl BL Q]),(false,[.bool true])])) {p x1 x2 c a b:el BL} (u:Q[0]? =some p) (v:Q[1]? =some x1) (x:Q[2]? =some x2) (y:Q[3]? =some c) (z:Q[4]? =some a) (A:Q[5]? =some b) (f:Vm TT w 1950000 1 1 x2.1.1 x2.1.2 x2.2.1 x2.2.2 X2 Y2) (g:Vm TT w 1950000 1 1 c.1.1 c.1.2 c.2.1 c.2.2 X3 Y3) (l:Vm TT w 1950000 1 1 a.1.1 a.1.2 a.2.1 a.2.2 X4 Y4) (m:Vm TT w 1950000 1 1 b.1.1 b.1.2 b.2.1 b.2.2 X5 Y5) (J:CF 21 [.one (.int .u8 km),.agg (AD p.1.1 p.1.2 p.2.1 p.2.2),.agg (AD x1.1.1 x1.1.2 x1.2.1 x1.2.2)] (.agg (BQ T1 A1 T2 A2 T3 A3 T4 A4 mr))) (H:CF 19 [.agg (BQ T1 A1 T2 A2 T3 A3 T4 A4 mr),.agg (AD a.1.1 a.1.2 a.2.1 a.2.2)] (.agg (AD T5 A5 T6 A6))) (I:CF 19 [.agg (BQ T1 A1 T2 A2 T3 A3 T4 A4 mr),.agg (AD b.1.1 b.1.2 b.2.1 b.2.2)] (.agg (AD T7 A7 T8 A8))) (o:X5-X4=0/\Y5-Y4=0):CF 4 [.agg [.sl (.pr .u8 (.pr .u8 (.pr .u8 (.pr .i8 .u8)))) X,.sl .u8 W],.agg [.int .u8 km,.int .u8 kn],.one (.bool true)] (.one (.bool true)):=by
 obtain⟨AL,AK,AM,AN,n,C⟩:=Dm F g f;refine AZ Tryz.func4 fun E i=>?_
 conv=>cbv
 refine AB i K ?_;conv=>cbv
 refine AB i Ey ?_;conv=>cbv
 refine AR ?_;conv=>cbv
 refine AR ?_;conv=>cbv
 refine⟨a,fun _=>⟨by omega,z⟩,?_⟩;try conv=>cbv
 refine⟨b,fun _=>⟨by omega,A⟩,?_⟩;try conv=>cbv
 refine BB ?_;refine⟨p,fun _=>⟨by omega,u⟩,?_⟩;try conv=>cbv
 refine⟨x1,fun _=>⟨by omega,v⟩,?_⟩;try conv=>cbv
 refine AB i J ?_;conv=>cbv
 refine BB ?_;refine AB i H ?_;conv=>cbv
 refine AB i I ?_;conv=>cbv
 refine BB ?_;refine .inr ?_;refine⟨x2,fun _=>⟨by omega,x⟩,?_⟩;try conv=>cbv
 refine⟨c,fun _=>⟨by omega,y⟩,?_⟩;try conv=>cbv
 refine BB ?_;refine⟨[false,true],fun _=>⟨rfl,by decide,rfl,⟨rfl,by first | exact t1 | exact t2 | exact t4 | simp[Bg,Bo,cells],⟨rfl,by first | exact t1 | exact t2 | exact t4 | simp[Bg,Bo,cells],trivial⟩⟩⟩,.inr ?_⟩;try conv=>cbv
 rintro B ⟨t,f59⟩;conv=>cbv
 obtain rfl:B=2:=t;refine .inr ?_;obtain⟨G,j⟩:=xJ fun vs s k=>(vs=[.one (.sl .bool [false,true]),.one (.int .i64 2),.one (.int .i64 0),.one (.BC 9 0 0),.one (.BC 10 0 0),.one (.BC 12 0 0),.one (.BC 13 0 0)]/\s=[.var 0 [.sl (.sl AA) a.1.1,.sl AA a.1.2,.sl (.sl AA) a.2.1,.sl AA a.2.2],.var 0 [.sl (.sl AA) b.1.1,.sl AA b.1.2,.sl (.sl AA) b.2.1,.sl AA b.2.2],.var 0 [.sl (.sl AA) x2.1.1,.sl AA x2.1.2,.sl (.sl AA) x2.2.1,.sl AA x2.2.2],.var 0 [.sl (.sl AA) c.1.1,.sl AA c.1.2,.sl (.sl AA) c.2.1,.sl AA c.2.2]]/\k=2)\/(vs=[.one (.sl .bool [false,true]),.one (.int .i64 2),.one (.int .i64 1),.one (.BC 9 0 0),.one (.BC 10 0 0),.one (.BC 12 0 0),.one (.BC 13 0 0)]/\s=[.var 0 [.sl (.sl AA) a.1.1,.sl AA a.1.2,.sl (.sl AA) a.2.1,.sl AA a.2.2],.var 0 [.sl (.sl AA) b.1.1,.sl AA b.1.2,.sl (.sl AA) b.2.1,.sl AA b.2.2],.var 0 [.sl (.sl AA) x2.1.1,.sl AA x2.1.2,.sl (.sl AA) x2.2.1,.sl AA x2.2.2],.var 0 [.sl (.sl AA) c.1.1,.sl AA c.1.2,.sl (.sl AA) c.2.1,.sl AA c.2.2]]/\k=1)\/(vs=[.one (.sl .bool [false,true]),.one (.int .i64 2),.one (.int .i64 2),.one (.BC 9 0 0),.one (.BC 10 0 0),.one (.BC 12 0 0),.one (.BC 13 0 0)]/\s=[.var 0 [.sl (.sl AA) a.1.1,.sl AA a.1.2,.sl (.sl AA) a.2.1,.sl AA a.2.2],.var 0 [.sl (.sl AA) b.1.1,.sl AA b.1.2,.sl (.sl AA) b.2.1,.sl AA b.2.2],.var 0 [.sl (.sl AA) x2.1.1,.sl AA x2.1.2,.sl (.sl AA) x2.2.1,.sl AA x2.2.2],.var 0 [.sl (.sl AA) c.1.1,.sl AA c.1.2,.sl (.sl AA) c.2.1,.sl AA c.2.2]]/\k=0)
 refine⟨[58,59,60,9,10,12,13],[9,10,12,13],G,⟨2,by rw[j];exact .inl ⟨rfl,rfl,rfl⟩⟩,?_⟩;intro vs s L D;rw[j] at D;rcases D with⟨rfl,rfl,q⟩ |⟨rfl,rfl,q⟩ |⟨rfl,rfl,q⟩
 ·conv=>cbv
  refine BM ?_;conv=>cbv
  refine .inr ?_;refine⟨false,fun _=>⟨by omega,rfl⟩,?_⟩;try conv=>cbv
  refine AB (r:= .AI [(true,[.nil,.nil,.nil,.nil,.nil,.nil,.nil,.nil,.bool false]),(false,[.int .i64 1])]) i (RM F l m f g n (mr:=false) rfl rfl (by rw[o.1,o.2];grind)) ?_;try conv=>cbv
  refine AB i (Rw F l m f g o) ?_;conv=>cbv
  refine BM ?_;conv=>cbv
  refine AR ?_;conv=>cbv
  refine AR ?_;conv=>cbv
  intro h d;conv=>cbv
  refine Ah ?_;obtain rfl:h=1:=d;refine⟨1,?_,?_⟩
  ·omega
  rw[j];exact .inr (.inl ⟨rfl,rfl,rfl⟩)
 ·conv=>cbv
  refine BM ?_;conv=>cbv
  refine .inr ?_;refine⟨true,fun _=>⟨by omega,rfl⟩,?_⟩;try conv=>cbv
  refine AB (r:= .AI [(true,[.nil,.nil,.nil,.nil,.nil,.nil,.nil,.nil,.bool false]),(false,[.int .i64 1])]) i (RM F l m f g n (mr:=true) rfl rfl (by rw[o.1,o.2];grind)) ?_;try conv=>cbv
  refine AB i (Rw F l m f g o) ?_;conv=>cbv
  refine BM ?_;conv=>cbv
  refine AR ?_;conv=>cbv
  refine AR ?_;conv=>cbv
  intro h d;conv=>cbv
  refine Ah ?_;obtain rfl:h=2:=d;refine⟨0,?_,?_⟩
  ·omega
  rw[j];exact .inr (.inr ⟨rfl,rfl,rfl⟩)
 conv=>cbv
 refine AR ?_;conv=>cbv
 exact AF ⟨t2,trivial⟩
theorem gA (F:Fd TT w) {W:List UInt8} (n:Vm TT w 1950000 kp kp AL AK AM AN xp yp) (o:Vm TT w 1950000 kq kq AP AO AU AT xq yq) (I:CF 20 [.agg [.sl Bh X,.sl .u8 W],.one (.int .i64 6)] (.AI [(false,[.sl BL Q]),(false,[.bool true])])) {l x1 x2 M a b:el BL} (s:Q[0]? =some l) (t:Q[1]? =some x1) (J:Q[2]? =some x2) (K:Q[3]? =some M) (u:Q[4]? =some a) (v:Q[5]? =some b) (h:Vm TT w 1950000 1 1 a.1.1 a.1.2 a.2.1 a.2.2 X4 Y4) (i:Vm TT w 1950000 1 1 b.1.1 b.1.2 b.2.1 b.2.2 X5 Y5) (H:CF 21 [.one (.int .u8 km),.agg (AD l.1.1 l.1.2 l.2.1 l.2.2),.agg (AD x1.1.1 x1.1.2 x1.2.1 x1.2.2)] (.agg (BQ T1 A1 T2 A2 T3 A3 T4 A4 mr))) (D:CF 19 [.agg (BQ T1 A1 T2 A2 T3 A3 T4 A4 mr),.agg (AD a.1.1 a.1.2 a.2.1 a.2.2)] (.agg (AD AL AK AM AN))) (G:CF 19 [.agg (BQ T1 A1 T2 A2 T3 A3 T4 A4 mr),.agg (AD b.1.1 b.1.2 b.2.1 b.2.2)] (.agg (AD AP AO AU AT))) (z:¬(X5-X4=0/\Y5-Y4=0)) (B:(X5-X4)*(X5-X4)+(Y5-Y4)*(Y5-Y4)≠0) (q:¬((X5-X4)*(X5-X4)+(Y5-Y4)*(Y5-Y4)=(xq-xp)*(xq-xp)+(yq-yp)*(yq-yp))) (N:9*kp+9*kq+481<=80000:=by omega):CF 4 [.agg [.sl (.pr .u8 (.pr .u8 (.pr .u8 (.pr .i8 .u8)))) X,.sl .u8 W],.agg [.int .u8 km,.int .u8 kn],.one (.bool false)] (.one (.bool true)):=by
 obtain⟨Aw,At,BE,BD,j,y⟩:=Dm F o n;refine AZ Tryz.func4 fun E f=>?_
 conv=>cbv
 refine AB f I ?_;conv=>cbv
 refine AB f Ey ?_;conv=>cbv
 refine AR ?_;conv=>cbv
 refine AR ?_;conv=>cbv
 refine⟨a,fun _=>⟨by omega,u⟩,?_⟩;try conv=>cbv
 refine⟨b,fun _=>⟨by omega,v⟩,?_⟩;try conv=>cbv
 refine BB ?_;refine⟨l,fun _=>⟨by omega,s⟩,?_⟩;try conv=>cbv
 refine⟨x1,fun _=>⟨by omega,t⟩,?_⟩;try conv=>cbv
 refine AB f H ?_;conv=>cbv
 refine BB ?_;refine AB f D ?_;conv=>cbv
 refine AB f G ?_;conv=>cbv
 refine BB ?_;refine .inr ?_;refine⟨[false,true],fun _=>⟨rfl,by decide,rfl,⟨rfl,by first | exact t1 | exact t2 | exact t4 | simp[Bg,Bo,cells],⟨rfl,by first | exact t1 | exact t2 | exact t4 | simp[Bg,Bo,cells],trivial⟩⟩⟩,.inr ?_⟩;try conv=>cbv
 rintro x ⟨r,f59⟩;conv=>cbv
 obtain rfl:x=2:=r;refine .inr ?_;obtain⟨C,g⟩:=xJ fun vs p k=>(vs=[.one (.sl .bool [false,true]),.one (.int .i64 2),.one (.int .i64 0),.one (.BC 9 0 0),.one (.BC 10 0 0),.one (.BC 12 0 0),.one (.BC 13 0 0)]/\p=[.var 0 [.sl (.sl AA) a.1.1,.sl AA a.1.2,.sl (.sl AA) a.2.1,.sl AA a.2.2],.var 0 [.sl (.sl AA) b.1.1,.sl AA b.1.2,.sl (.sl AA) b.2.1,.sl AA b.2.2],.var 0 [.sl (.sl AA) AL,.sl AA AK,.sl (.sl AA) AM,.sl AA AN],.var 0 [.sl (.sl AA) AP,.sl AA AO,.sl (.sl AA) AU,.sl AA AT]]/\k=2)\/(vs=[.one (.sl .bool [false,true]),.one (.int .i64 2),.one (.int .i64 1),.one (.BC 9 0 0),.one (.BC 10 0 0),.one (.BC 12 0 0),.one (.BC 13 0 0)]/\p=[.var 0 [.sl (.sl AA) a.1.1,.sl AA a.1.2,.sl (.sl AA) a.2.1,.sl AA a.2.2],.var 0 [.sl (.sl AA) b.1.1,.sl AA b.1.2,.sl (.sl AA) b.2.1,.sl AA b.2.2],.var 0 [.sl (.sl AA) AL,.sl AA AK,.sl (.sl AA) AM,.sl AA AN],.var 0 [.sl (.sl AA) AP,.sl AA AO,.sl (.sl AA) AU,.sl AA AT]]/\k=1)\/(vs=[.one (.sl .bool [false,true]),.one (.int .i64 2),.one (.int .i64 2),.one (.BC 9 0 0),.one (.BC 10 0 0),.one (.BC 12 0 0),.one (.BC 13 0 0)]/\p=[.var 0 [.sl (.sl AA) a.1.1,.sl AA a.1.2,.sl (.sl AA) a.2.1,.sl AA a.2.2],.var 0 [.sl (.sl AA) b.1.1,.sl AA b.1.2,.sl (.sl AA) b.2.1,.sl AA b.2.2],.var 0 [.sl (.sl AA) AL,.sl AA AK,.sl (.sl AA) AM,.sl AA AN],.var 0 [.sl (.sl AA) AP,.sl AA AO,.sl (.sl AA) AU,.sl AA AT]]/\k=0)
 refine⟨[58,59,60,9,10,12,13],[9,10,12,13],C,⟨2,by rw[g];exact .inl ⟨rfl,rfl,rfl⟩⟩,?_⟩;intro vs p L A;rw[g] at A;rcases A with⟨rfl,rfl,m⟩ |⟨rfl,rfl,m⟩ |⟨rfl,rfl,m⟩
 ·conv=>cbv
  refine BM ?_;conv=>cbv
  refine .inr ?_;refine⟨false,fun _=>⟨by omega,rfl⟩,?_⟩;try conv=>cbv
  refine AB f (RK F h i n o j (mr:=false) rfl rfl B q) ?_;conv=>cbv
  refine AB f (Rv F h i n o z q) ?_;conv=>cbv
  refine BM ?_;conv=>cbv
  refine AR ?_;conv=>cbv
  refine AR ?_;conv=>cbv
  intro d c;conv=>cbv
  refine Ah ?_;obtain rfl:d=1:=c;refine⟨1,?_,?_⟩
  ·omega
  rw[g];exact .inr (.inl ⟨rfl,rfl,rfl⟩)
 ·conv=>cbv
  refine BM ?_;conv=>cbv
  refine .inr ?_;refine⟨true,fun _=>⟨by omega,rfl⟩,?_⟩;try conv=>cbv
  refine AB f (RK F h i n o j (mr:=true) rfl rfl B q) ?_;conv=>cbv
  refine AB f (Rv F h i n o z q) ?_;conv=>cbv
  refine BM ?_;conv=>cbv
  refine AR ?_;conv=>cbv
  refine AR ?_;conv=>cbv
  intro d c;conv=>cbv
  refine Ah ?_;obtain rfl:d=2:=c;refine⟨0,?_,?_⟩
  ·omega
  rw[g];exact .inr (.inr ⟨rfl,rfl,rfl⟩)
 conv=>cbv
 refine AR ?_;conv=>cbv
 exact AF ⟨t2,trivial⟩
theorem gB (F:Fd TT w) {W:List UInt8} (L:CF 20 [.agg [.sl Bh X,.sl .u8 W],.one (.int .i64 6)] (.AI [(false,[.sl BL Q]),(false,[.bool true])])) {o x1 x2 c a b:el BL} (t:Q[0]? =some o) (u:Q[1]? =some x1) (v:Q[2]? =some x2) (x:Q[3]? =some c) (y:Q[4]? =some a) (z:Q[5]? =some b) (f:Vm TT w 1950000 1 1 x2.1.1 x2.1.2 x2.2.1 x2.2.2 X2 Y2) (g:Vm TT w 1950000 1 1 c.1.1 c.1.2 c.2.1 c.2.2 X3 Y3) (l:Vm TT w 1950000 1 1 a.1.1 a.1.2 a.2.1 a.2.2 X4 Y4) (m:Vm TT w 1950000 1 1 b.1.1 b.1.2 b.2.1 b.2.2 X5 Y5) (K:CF 21 [.one (.int .u8 km),.agg (AD o.1.1 o.1.2 o.2.1 o.2.2),.agg (AD x1.1.1 x1.1.2 x1.2.1 x1.2.2)] (.agg (BQ T1 A1 T2 A2 T3 A3 T4 A4 mr))) (I:CF 19 [.agg (BQ T1 A1 T2 A2 T3 A3 T4 A4 mr),.agg (AD a.1.1 a.1.2 a.2.1 a.2.2)] (.agg (AD T5 A5 T6 A6))) (J:CF 19 [.agg (BQ T1 A1 T2 A2 T3 A3 T4 A4 mr),.agg (AD b.1.1 b.1.2 b.2.1 b.2.2)] (.agg (AD T7 A7 T8 A8))) (C:¬(X5-X4=0/\Y5-Y4=0)) (G:(X5-X4)*(X5-X4)+(Y5-Y4)*(Y5-Y4)≠0) (r:¬((X5-X4)*(X5-X4)+(Y5-Y4)*(Y5-Y4)=(X3-X2)*(X3-X2)+(Y3-Y2)*(Y3-Y2))):CF 4 [.agg [.sl (.pr .u8 (.pr .u8 (.pr .u8 (.pr .i8 .u8)))) X,.sl .u8 W],.agg [.int .u8 km,.int .u8 kn],.one (.bool true)] (.one (.bool true)):=by
 obtain⟨AL,AK,AM,AN,n,B⟩:=Dm F g f;refine AZ Tryz.func4 fun E i=>?_
 conv=>cbv
 refine AB i L ?_;conv=>cbv
 refine AB i Ey ?_;conv=>cbv
 refine AR ?_;conv=>cbv
 refine AR ?_;conv=>cbv
 refine⟨a,fun _=>⟨by omega,y⟩,?_⟩;try conv=>cbv
 refine⟨b,fun _=>⟨by omega,z⟩,?_⟩;try conv=>cbv
 refine BB ?_;refine⟨o,fun _=>⟨by omega,t⟩,?_⟩;try conv=>cbv
 refine⟨x1,fun _=>⟨by omega,u⟩,?_⟩;try conv=>cbv
 refine AB i K ?_;conv=>cbv
 refine BB ?_;refine AB i I ?_;conv=>cbv
 refine AB i J ?_;conv=>cbv
 refine BB ?_;refine .inr ?_;refine⟨x2,fun _=>⟨by omega,v⟩,?_⟩;try conv=>cbv
 refine⟨c,fun _=>⟨by omega,x⟩,?_⟩;try conv=>cbv
 refine BB ?_;refine⟨[false,true],fun _=>⟨rfl,by decide,rfl,⟨rfl,by first | exact t1 | exact t2 | exact t4 | simp[Bg,Bo,cells],⟨rfl,by first | exact t1 | exact t2 | exact t4 | simp[Bg,Bo,cells],trivial⟩⟩⟩,.inr ?_⟩;try conv=>cbv
 rintro A ⟨s,f59⟩;conv=>cbv
 obtain rfl:A=2:=s;refine .inr ?_;obtain⟨H,j⟩:=xJ fun vs q k=>(vs=[.one (.sl .bool [false,true]),.one (.int .i64 2),.one (.int .i64 0),.one (.BC 9 0 0),.one (.BC 10 0 0),.one (.BC 12 0 0),.one (.BC 13 0 0)]/\q=[.var 0 [.sl (.sl AA) a.1.1,.sl AA a.1.2,.sl (.sl AA) a.2.1,.sl AA a.2.2],.var 0 [.sl (.sl AA) b.1.1,.sl AA b.1.2,.sl (.sl AA) b.2.1,.sl AA b.2.2],.var 0 [.sl (.sl AA) x2.1.1,.sl AA x2.1.2,.sl (.sl AA) x2.2.1,.sl AA x2.2.2],.var 0 [.sl (.sl AA) c.1.1,.sl AA c.1.2,.sl (.sl AA) c.2.1,.sl AA c.2.2]]/\k=2)\/(vs=[.one (.sl .bool [false,true]),.one (.int .i64 2),.one (.int .i64 1),.one (.BC 9 0 0),.one (.BC 10 0 0),.one (.BC 12 0 0),.one (.BC 13 0 0)]/\q=[.var 0 [.sl (.sl AA) a.1.1,.sl AA a.1.2,.sl (.sl AA) a.2.1,.sl AA a.2.2],.var 0 [.sl (.sl AA) b.1.1,.sl AA b.1.2,.sl (.sl AA) b.2.1,.sl AA b.2.2],.var 0 [.sl (.sl AA) x2.1.1,.sl AA x2.1.2,.sl (.sl AA) x2.2.1,.sl AA x2.2.2],.var 0 [.sl (.sl AA) c.1.1,.sl AA c.1.2,.sl (.sl AA) c.2.1,.sl AA c.2.2]]/\k=1)\/(vs=[.one (.sl .bool [false,true]),.one (.int .i64 2),.one (.int .i64 2),.one (.BC 9 0 0),.one (.BC 10 0 0),.one (.BC 12 0 0),.one (.BC 13 0 0)]/\q=[.var 0 [.sl (.sl AA) a.1.1,.sl AA a.1.2,.sl (.sl AA) a.2.1,.sl AA a.2.2],.var 0 [.sl (.sl AA) b.1.1,.sl AA b.1.2,.sl (.sl AA) b.2.1,.sl AA b.2.2],.var 0 [.sl (.sl AA) x2.1.1,.sl AA x2.1.2,.sl (.sl AA) x2.2.1,.sl AA x2.2.2],.var 0 [.sl (.sl AA) c.1.1,.sl AA c.1.2,.sl (.sl AA) c.2.1,.sl AA c.2.2]]/\k=0)
 refine⟨[58,59,60,9,10,12,13],[9,10,12,13],H,⟨2,by rw[j];exact .inl ⟨rfl,rfl,rfl⟩⟩,?_⟩;intro vs q M D;rw[j] at D;rcases D with⟨rfl,rfl,p⟩ |⟨rfl,rfl,p⟩ |⟨rfl,rfl,p⟩
 ·conv=>cbv
  refine BM ?_;conv=>cbv
  refine .inr ?_;refine⟨false,fun _=>⟨by omega,rfl⟩,?_⟩;try conv=>cbv
  refine AB i (RK F l m f g n (mr:=false) rfl rfl G r) ?_;conv=>cbv
  refine AB i (Rv F l m f g C r) ?_;conv=>cbv
  refine BM ?_;conv=>cbv
  refine AR ?_;conv=>cbv
  refine AR ?_;conv=>cbv
  intro h d;conv=>cbv
  refine Ah ?_;obtain rfl:h=1:=d;refine⟨1,?_,?_⟩
  ·omega
  rw[j];exact .inr (.inl ⟨rfl,rfl,rfl⟩)
 ·conv=>cbv
  refine BM ?_;conv=>cbv
  refine .inr ?_;refine⟨true,fun _=>⟨by omega,rfl⟩,?_⟩;try conv=>cbv
  refine AB i (RK F l m f g n (mr:=true) rfl rfl G r) ?_;conv=>cbv
  refine AB i (Rv F l m f g C r) ?_;conv=>cbv
  refine BM ?_;conv=>cbv
  refine AR ?_;conv=>cbv
  refine AR ?_;conv=>cbv
  intro h d;conv=>cbv
  refine Ah ?_;obtain rfl:h=2:=d;refine⟨0,?_,?_⟩
  ·omega
  rw[j];exact .inr (.inr ⟨rfl,rfl,rfl⟩)
 conv=>cbv
 refine AR ?_;conv=>cbv
 exact AF ⟨t2,trivial⟩
theorem fx (F:Fd TT w) {W:List UInt8} (q:Vm TT w 1950000 kp kp AL AK AM AN xp yp) (s:Vm TT w 1950000 kq kq AP AO AU AT xq yq) (T:Nm TT w 1950000 ki Aw At vi) (cS:CF 20 [.agg [.sl Bh X,.sl .u8 W],.one (.int .i64 6)] (.AI [(false,[.sl BL Q]),(false,[.bool true])])) {v x1 x2 x3 b c:el BL} (Y:Q[0]? =some v) (Z:Q[1]? =some x1) (aX:Q[2]? =some x2) (aY:Q[3]? =some x3) (a1:Q[4]? =some b) (a2:Q[5]? =some c) (g:Vm TT w 1950000 1 1 b.1.1 b.1.2 b.2.1 b.2.2 X4 Y4) (h:Vm TT w 1950000 1 1 c.1.1 c.1.2 c.2.1 c.2.2 X5 Y5) (cM:CF 21 [.one (.int .u8 km),.agg (AD v.1.1 v.1.2 v.2.1 v.2.2),.agg (AD x1.1.1 x1.1.2 x1.2.1 x1.2.2)] (.agg (BQ T1 A1 T2 A2 T3 A3 T4 A4 mr))) (cA:CF 19 [.agg (BQ T1 A1 T2 A2 T3 A3 T4 A4 mr),.agg (AD b.1.1 b.1.2 b.2.1 b.2.2)] (.agg (AD AL AK AM AN))) (cB:CF 19 [.agg (BQ T1 A1 T2 A2 T3 A3 T4 A4 mr),.agg (AD c.1.1 c.1.2 c.2.1 c.2.2)] (.agg (AD AP AO AU AT))) (h0:¬(X5-X4=0/\Y5-Y4=0)) (U:(X5-X4)*(X5-X4)+(Y5-Y4)*(Y5-Y4)≠0) (u:(X5-X4)*(X5-X4)+(Y5-Y4)*(Y5-Y4)=(xq-xp)*(xq-xp)+(yq-yp)*(yq-yp)) (f:((X5-X4)*(X5-X4)+(Y5-Y4)*(Y5-Y4))*vi=1) (hM:18*ki+40*kp+36*kq+856<=80000:=by omega):CF 4 [.agg [.sl (.pr .u8 (.pr .u8 (.pr .u8 (.pr .i8 .u8)))) X,.sl .u8 W],.agg [.int .u8 km,.int .u8 kn],.one (.bool false)] (.one (.bool true)):=by
 obtain⟨BE,BD,Ba,BT,t,aU⟩:=Dm F s q;obtain⟨Bw,Bq,Bu,Bp,ay,a6,az,a7,j,l,x⟩:=aV F g h q s t T rfl rfl U u f;obtain⟨aA,a8,aB,aa,aC,ab,aD,ad,H,I,y⟩:=cQ F g h q s T U f;obtain⟨aE,ae,aF,af,J,z⟩:=KJ F j l g;obtain⟨aG,ag,aH,ah,K,A⟩:=KJ F j l h;obtain⟨aI,ai,aJ,aj,aK,ak,aL,al,m,n,B⟩:=aW F g h q s t T rfl rfl U u f;obtain⟨aM,an,aN,ao,aO,aq,aP,ar,L,M,C⟩:=cT F g h q s T U f;obtain⟨aQ,au,aR,av,N,D⟩:=KK F m n g;obtain⟨aS,aw,aT,ax,O,G⟩:=KK F m n h;refine AZ Tryz.func4 fun E d=>?_
 conv=>cbv
 refine AB d cS ?_;conv=>cbv
 refine AB d Ey ?_;conv=>cbv
 refine AR ?_;conv=>cbv
 refine AR ?_;conv=>cbv
 refine⟨b,fun _=>⟨by omega,a1⟩,?_⟩;try conv=>cbv
 refine⟨c,fun _=>⟨by omega,a2⟩,?_⟩;try conv=>cbv
 refine BB ?_;refine⟨v,fun _=>⟨by omega,Y⟩,?_⟩;try conv=>cbv
 refine⟨x1,fun _=>⟨by omega,Z⟩,?_⟩;try conv=>cbv
 refine AB d cM ?_;conv=>cbv
 refine BB ?_;refine AB d cA ?_;conv=>cbv
 refine AB d cB ?_;conv=>cbv
 refine BB ?_;refine .inr ?_;refine⟨[false,true],fun _=>⟨rfl,by decide,rfl,⟨rfl,by first | exact t1 | exact t2 | exact t4 | simp[Bg,Bo,cells],⟨rfl,by first | exact t1 | exact t2 | exact t4 | simp[Bg,Bo,cells],trivial⟩⟩⟩,.inr ?_⟩;try conv=>cbv
 rintro a5 ⟨V,f59⟩;conv=>cbv
 obtain rfl:a5=2:=V;refine .inr ?_;obtain⟨J0,p⟩:=xJ fun vs S k=>(vs=[.one (.sl .bool [false,true]),.one (.int .i64 2),.one (.int .i64 0),.one (.BC 9 0 0),.one (.BC 10 0 0),.one (.BC 12 0 0),.one (.BC 13 0 0)]/\S=[.var 0 [.sl (.sl AA) b.1.1,.sl AA b.1.2,.sl (.sl AA) b.2.1,.sl AA b.2.2],.var 0 [.sl (.sl AA) c.1.1,.sl AA c.1.2,.sl (.sl AA) c.2.1,.sl AA c.2.2],.var 0 [.sl (.sl AA) AL,.sl AA AK,.sl (.sl AA) AM,.sl AA AN],.var 0 [.sl (.sl AA) AP,.sl AA AO,.sl (.sl AA) AU,.sl AA AT]]/\k=2)\/(vs=[.one (.sl .bool [false,true]),.one (.int .i64 2),.one (.int .i64 1),.one (.BC 9 0 0),.one (.BC 10 0 0),.one (.BC 12 0 0),.one (.BC 13 0 0)]/\S=[.var 0 [.sl (.sl AA) b.1.1,.sl AA b.1.2,.sl (.sl AA) b.2.1,.sl AA b.2.2],.var 0 [.sl (.sl AA) c.1.1,.sl AA c.1.2,.sl (.sl AA) c.2.1,.sl AA c.2.2],.var 0 [.sl (.sl AA) AL,.sl AA AK,.sl (.sl AA) AM,.sl AA AN],.var 0 [.sl (.sl AA) AP,.sl AA AO,.sl (.sl AA) AU,.sl AA AT]]/\k=1)\/(vs=[.one (.sl .bool [false,true]),.one (.int .i64 2),.one (.int .i64 2),.one (.BC 9 0 0),.one (.BC 10 0 0),.one (.BC 12 0 0),.one (.BC 13 0 0)]/\S=[.var 0 [.sl (.sl AA) b.1.1,.sl AA b.1.2,.sl (.sl AA) b.2.1,.sl AA b.2.2],.var 0 [.sl (.sl AA) c.1.1,.sl AA c.1.2,.sl (.sl AA) c.2.1,.sl AA c.2.2],.var 0 [.sl (.sl AA) AL,.sl AA AK,.sl (.sl AA) AM,.sl AA AN],.var 0 [.sl (.sl AA) AP,.sl AA AO,.sl (.sl AA) AU,.sl AA AT]]/\k=0)
 refine⟨[58,59,60,9,10,12,13],[9,10,12,13],J0,⟨2,by rw[p];exact .inl ⟨rfl,rfl,rfl⟩⟩,?_⟩;intro vs S aZ hj;rw[p] at hj;rcases hj with⟨rfl,rfl,P⟩ |⟨rfl,rfl,P⟩ |⟨rfl,rfl,P⟩
 ·conv=>cbv
  refine BM ?_;conv=>cbv
  refine .inr ?_;refine⟨false,fun _=>⟨by omega,rfl⟩,?_⟩;try conv=>cbv
  refine AB d x ?_;conv=>cbv
  refine AB d (Ru F g h q s h0 u) ?_;conv=>cbv
  refine AR ?_;conv=>cbv
  refine AB d y ?_;conv=>cbv
  refine AB (r:= .one (.bool true)) d (Mu F j l H I (mr:=false) (RO (by rw[<-u] <;> grind) (by rw[<-f] <;> grind)) (by grind) (by grind) (by grind) (by grind)) ?_;try conv=>cbv
  refine AR ?_;conv=>cbv
  intro R a;(have a:=a.trans (show _=false by simp));subst a;conv=>cbv
  refine AB d z ?_;conv=>cbv
  refine AB d (CR F J q (by omega) (by omega) (by omega) (by omega) (e:=true) ⟨fun _=>⟨by grind,by grind⟩,fun _=>rfl⟩) ?_;conv=>cbv
  refine AR ?_;conv=>cbv
  refine AB d A ?_;conv=>cbv
  refine AB (r:= .one (.bool true)) d (CR F K s (by omega) (by omega) (by omega) (by omega) (e:=true) ⟨fun _=>⟨(show ((((X5-X4)*(xq-xp)+(Y5-Y4)*(yq-yp))*vi)*X5-((-(Y5-Y4)*(xq-xp)+(X5-X4)*(yq-yp))*vi)*Y5)+(xp-(((((X5-X4)*(xq-xp)+(Y5-Y4)*(yq-yp))*vi)*X4)-(((-(Y5-Y4)*(xq-xp)+(X5-X4)*(yq-yp))*vi)*Y4)))=((X5-X4)*(X5-X4)+(Y5-Y4)*(Y5-Y4))*vi*(xq-xp)+xp by grind).trans (by rw[f];grind),(show ((((X5-X4)*(xq-xp)+(Y5-Y4)*(yq-yp))*vi)*Y5+((-(Y5-Y4)*(xq-xp)+(X5-X4)*(yq-yp))*vi)*X5)+(yp-((((-(Y5-Y4)*(xq-xp)+(X5-X4)*(yq-yp))*vi)*X4)+((((X5-X4)*(xq-xp)+(Y5-Y4)*(yq-yp))*vi)*Y4)))=((X5-X4)*(X5-X4)+(Y5-Y4)*(Y5-Y4))*vi*(yq-yp)+yp by grind).trans (by rw[f];grind)⟩,fun _=>rfl⟩) ?_;try conv=>cbv
  refine AR ?_;conv=>cbv
  refine BB ?_;intro o i;conv=>cbv
  refine Ah ?_;obtain rfl:o=1:=i;refine⟨1,?_,?_⟩
  ·omega
  rw[p];exact .inr (.inl ⟨rfl,rfl,rfl⟩)
 ·conv=>cbv
  refine BM ?_;conv=>cbv
  refine .inr ?_;refine⟨true,fun _=>⟨by omega,rfl⟩,?_⟩;try conv=>cbv
  refine AB d B ?_;conv=>cbv
  refine AB d (Ru F g h q s h0 u) ?_;conv=>cbv
  refine AR ?_;conv=>cbv
  refine AB d C ?_;conv=>cbv
  refine AB (r:= .one (.bool true)) d (Mu F m n L M (mr:=true) (RO (by rw[<-u] <;> grind) (by rw[<-f] <;> grind)) (by grind) (by grind) (by grind) (by grind)) ?_;try conv=>cbv
  refine AR ?_;conv=>cbv
  intro R a;(have a:=a.trans (show _=false by simp));subst a;conv=>cbv
  refine AB d D ?_;conv=>cbv
  refine AB d (CR F N q (by omega) (by omega) (by omega) (by omega) (e:=true) ⟨fun _=>⟨by grind,by grind⟩,fun _=>rfl⟩) ?_;conv=>cbv
  refine AR ?_;conv=>cbv
  refine AB d G ?_;conv=>cbv
  refine AB (r:= .one (.bool true)) d (CR F O s (by omega) (by omega) (by omega) (by omega) (e:=true) ⟨fun _=>⟨(show ((((X5-X4)*(xq-xp)+(-(Y5-Y4))*(yq-yp))*vi)*X5-((-(-(Y5-Y4))*(xq-xp)+(X5-X4)*(yq-yp))*vi)*(-Y5))+(xp-(((((X5-X4)*(xq-xp)+(-(Y5-Y4))*(yq-yp))*vi)*X4)-(((-(-(Y5-Y4))*(xq-xp)+(X5-X4)*(yq-yp))*vi)*(-Y4))))=((X5-X4)*(X5-X4)+(Y5-Y4)*(Y5-Y4))*vi*(xq-xp)+xp by grind).trans (by rw[f];grind),(show ((((X5-X4)*(xq-xp)+(-(Y5-Y4))*(yq-yp))*vi)*(-Y5)+((-(-(Y5-Y4))*(xq-xp)+(X5-X4)*(yq-yp))*vi)*X5)+(yp-((((-(-(Y5-Y4))*(xq-xp)+(X5-X4)*(yq-yp))*vi)*X4)+((((X5-X4)*(xq-xp)+(-(Y5-Y4))*(yq-yp))*vi)*(-Y4))))=((X5-X4)*(X5-X4)+(Y5-Y4)*(Y5-Y4))*vi*(yq-yp)+yp by grind).trans (by rw[f];grind)⟩,fun _=>rfl⟩) ?_;try conv=>cbv
  refine AR ?_;conv=>cbv
  refine BB ?_;intro o i;conv=>cbv
  refine Ah ?_;obtain rfl:o=2:=i;refine⟨0,?_,?_⟩
  ·omega
  rw[p];exact .inr (.inr ⟨rfl,rfl,rfl⟩)
 conv=>cbv
 refine AR ?_;conv=>cbv
 exact AF ⟨t2,trivial⟩
theorem fy (F:Fd TT w) {W:List UInt8} (U:Nm TT w 1950000 ki AL AK vi) (cS:CF 20 [.agg [.sl Bh X,.sl .u8 W],.one (.int .i64 6)] (.AI [(false,[.sl BL Q]),(false,[.bool true])])) {x x1 x2 i b c:el BL} (Z:Q[0]? =some x) (a1:Q[1]? =some x1) (a2:Q[2]? =some x2) (a5:Q[3]? =some i) (a6:Q[4]? =some b) (a7:Q[5]? =some c) (g:Vm TT w 1950000 1 1 x2.1.1 x2.1.2 x2.2.1 x2.2.2 X2 Y2) (h:Vm TT w 1950000 1 1 i.1.1 i.1.2 i.2.1 i.2.2 X3 Y3) (j:Vm TT w 1950000 1 1 b.1.1 b.1.2 b.2.1 b.2.2 X4 Y4) (l:Vm TT w 1950000 1 1 c.1.1 c.1.2 c.2.1 c.2.2 X5 Y5) (cM:CF 21 [.one (.int .u8 km),.agg (AD x.1.1 x.1.2 x.2.1 x.2.2),.agg (AD x1.1.1 x1.1.2 x1.2.1 x1.2.2)] (.agg (BQ T1 A1 T2 A2 T3 A3 T4 A4 mr))) (cA:CF 19 [.agg (BQ T1 A1 T2 A2 T3 A3 T4 A4 mr),.agg (AD b.1.1 b.1.2 b.2.1 b.2.2)] (.agg (AD T5 A5 T6 A6))) (cB:CF 19 [.agg (BQ T1 A1 T2 A2 T3 A3 T4 A4 mr),.agg (AD c.1.1 c.1.2 c.2.1 c.2.2)] (.agg (AD T7 A7 T8 A8))) (h0:¬(X5-X4=0/\Y5-Y4=0)) (V:(X5-X4)*(X5-X4)+(Y5-Y4)*(Y5-Y4)≠0) (v:(X5-X4)*(X5-X4)+(Y5-Y4)*(Y5-Y4)=(X3-X2)*(X3-X2)+(Y3-Y2)*(Y3-Y2)) (f:((X5-X4)*(X5-X4)+(Y5-Y4)*(Y5-Y4))*vi=1) (hM:18*ki+874<=80000:=by omega):CF 4 [.agg [.sl (.pr .u8 (.pr .u8 (.pr .u8 (.pr .i8 .u8)))) X,.sl .u8 W],.agg [.int .u8 km,.int .u8 kn],.one (.bool true)] (.one (.bool true)):=by
 obtain⟨AM,AN,AP,AO,u,aR⟩:=Dm F h g;obtain⟨BE,BD,Ba,BT,BW,BV,Bm,Bj,n,o,y⟩:=aV F j l g h u U rfl rfl V v f;obtain⟨Bu,Bp,ay,aa,az,ab,aA,ad,I,J,z⟩:=cQ F j l g h U V f;obtain⟨aB,ae,aC,af,K,A⟩:=KJ F n o j;obtain⟨aD,ag,aE,ah,L,B⟩:=KJ F n o l;obtain⟨aF,ai,aG,aj,aH,ak,aI,al,p,q,C⟩:=aW F j l g h u U rfl rfl V v f;obtain⟨aJ,an,aK,ao,aL,aq,aM,ar,M,N,D⟩:=cT F j l g h U V f;obtain⟨aN,au,aO,av,O,G⟩:=KK F p q j;obtain⟨aP,aw,aQ,ax,P,H⟩:=KK F p q l;refine AZ Tryz.func4 fun E d=>?_
 conv=>cbv
 refine AB d cS ?_;conv=>cbv
 refine AB d Ey ?_;conv=>cbv
 refine AR ?_;conv=>cbv
 refine AR ?_;conv=>cbv
 refine⟨b,fun _=>⟨by omega,a6⟩,?_⟩;try conv=>cbv
 refine⟨c,fun _=>⟨by omega,a7⟩,?_⟩;try conv=>cbv
 refine BB ?_;refine⟨x,fun _=>⟨by omega,Z⟩,?_⟩;try conv=>cbv
 refine⟨x1,fun _=>⟨by omega,a1⟩,?_⟩;try conv=>cbv
 refine AB d cM ?_;conv=>cbv
 refine BB ?_;refine AB d cA ?_;conv=>cbv
 refine AB d cB ?_;conv=>cbv
 refine BB ?_;refine .inr ?_;refine⟨x2,fun _=>⟨by omega,a2⟩,?_⟩;try conv=>cbv
 refine⟨i,fun _=>⟨by omega,a5⟩,?_⟩;try conv=>cbv
 refine BB ?_;refine⟨[false,true],fun _=>⟨rfl,by decide,rfl,⟨rfl,by first | exact t1 | exact t2 | exact t4 | simp[Bg,Bo,cells],⟨rfl,by first | exact t1 | exact t2 | exact t4 | simp[Bg,Bo,cells],trivial⟩⟩⟩,.inr ?_⟩;try conv=>cbv
 rintro a8 ⟨Y,f59⟩;conv=>cbv
 obtain rfl:a8=2:=Y;refine .inr ?_;obtain⟨J0,t⟩:=xJ fun vs T k=>(vs=[.one (.sl .bool [false,true]),.one (.int .i64 2),.one (.int .i64 0),.one (.BC 9 0 0),.one (.BC 10 0 0),.one (.BC 12 0 0),.one (.BC 13 0 0)]/\T=[.var 0 [.sl (.sl AA) b.1.1,.sl AA b.1.2,.sl (.sl AA) b.2.1,.sl AA b.2.2],.var 0 [.sl (.sl AA) c.1.1,.sl AA c.1.2,.sl (.sl AA) c.2.1,.sl AA c.2.2],.var 0 [.sl (.sl AA) x2.1.1,.sl AA x2.1.2,.sl (.sl AA) x2.2.1,.sl AA x2.2.2],.var 0 [.sl (.sl AA) i.1.1,.sl AA i.1.2,.sl (.sl AA) i.2.1,.sl AA i.2.2]]/\k=2)\/(vs=[.one (.sl .bool [false,true]),.one (.int .i64 2),.one (.int .i64 1),.one (.BC 9 0 0),.one (.BC 10 0 0),.one (.BC 12 0 0),.one (.BC 13 0 0)]/\T=[.var 0 [.sl (.sl AA) b.1.1,.sl AA b.1.2,.sl (.sl AA) b.2.1,.sl AA b.2.2],.var 0 [.sl (.sl AA) c.1.1,.sl AA c.1.2,.sl (.sl AA) c.2.1,.sl AA c.2.2],.var 0 [.sl (.sl AA) x2.1.1,.sl AA x2.1.2,.sl (.sl AA) x2.2.1,.sl AA x2.2.2],.var 0 [.sl (.sl AA) i.1.1,.sl AA i.1.2,.sl (.sl AA) i.2.1,.sl AA i.2.2]]/\k=1)\/(vs=[.one (.sl .bool [false,true]),.one (.int .i64 2),.one (.int .i64 2),.one (.BC 9 0 0),.one (.BC 10 0 0),.one (.BC 12 0 0),.one (.BC 13 0 0)]/\T=[.var 0 [.sl (.sl AA) b.1.1,.sl AA b.1.2,.sl (.sl AA) b.2.1,.sl AA b.2.2],.var 0 [.sl (.sl AA) c.1.1,.sl AA c.1.2,.sl (.sl AA) c.2.1,.sl AA c.2.2],.var 0 [.sl (.sl AA) x2.1.1,.sl AA x2.1.2,.sl (.sl AA) x2.2.1,.sl AA x2.2.2],.var 0 [.sl (.sl AA) i.1.1,.sl AA i.1.2,.sl (.sl AA) i.2.1,.sl AA i.2.2]]/\k=0)
 refine⟨[58,59,60,9,10,12,13],[9,10,12,13],J0,⟨2,by rw[t];exact .inl ⟨rfl,rfl,rfl⟩⟩,?_⟩;intro vs T aS hj;rw[t] at hj;rcases hj with⟨rfl,rfl,R⟩ |⟨rfl,rfl,R⟩ |⟨rfl,rfl,R⟩
 ·conv=>cbv
  refine BM ?_;conv=>cbv
  refine .inr ?_;refine⟨false,fun _=>⟨by omega,rfl⟩,?_⟩;try conv=>cbv
  refine AB d y ?_;conv=>cbv
  refine AB d (Ru F j l g h h0 v) ?_;conv=>cbv
  refine AR ?_;conv=>cbv
  refine AB d z ?_;conv=>cbv
  refine AB (r:= .one (.bool true)) d (Mu F n o I J (mr:=false) (RO (by rw[<-v] <;> grind) (by rw[<-f] <;> grind)) (by grind) (by grind) (by grind) (by grind)) ?_;try conv=>cbv
  refine AR ?_;conv=>cbv
  intro S a;(have a:=a.trans (show _=false by simp));subst a;conv=>cbv
  refine AB d A ?_;conv=>cbv
  refine AB d (CR F K g (by omega) (by omega) (by omega) (by omega) (e:=true) ⟨fun _=>⟨by grind,by grind⟩,fun _=>rfl⟩) ?_;conv=>cbv
  refine AR ?_;conv=>cbv
  refine AB d B ?_;conv=>cbv
  refine AB (r:= .one (.bool true)) d (CR F L h (by omega) (by omega) (by omega) (by omega) (e:=true) ⟨fun _=>⟨(show ((((X5-X4)*(X3-X2)+(Y5-Y4)*(Y3-Y2))*vi)*X5-((-(Y5-Y4)*(X3-X2)+(X5-X4)*(Y3-Y2))*vi)*Y5)+(X2-(((((X5-X4)*(X3-X2)+(Y5-Y4)*(Y3-Y2))*vi)*X4)-(((-(Y5-Y4)*(X3-X2)+(X5-X4)*(Y3-Y2))*vi)*Y4)))=((X5-X4)*(X5-X4)+(Y5-Y4)*(Y5-Y4))*vi*(X3-X2)+X2 by grind).trans (by rw[f];grind),(show ((((X5-X4)*(X3-X2)+(Y5-Y4)*(Y3-Y2))*vi)*Y5+((-(Y5-Y4)*(X3-X2)+(X5-X4)*(Y3-Y2))*vi)*X5)+(Y2-((((-(Y5-Y4)*(X3-X2)+(X5-X4)*(Y3-Y2))*vi)*X4)+((((X5-X4)*(X3-X2)+(Y5-Y4)*(Y3-Y2))*vi)*Y4)))=((X5-X4)*(X5-X4)+(Y5-Y4)*(Y5-Y4))*vi*(Y3-Y2)+Y2 by grind).trans (by rw[f];grind)⟩,fun _=>rfl⟩) ?_;try conv=>cbv
  refine AR ?_;conv=>cbv
  refine BB ?_;intro s m;conv=>cbv
  refine Ah ?_;obtain rfl:s=1:=m;refine⟨1,?_,?_⟩
  ·omega
  rw[t];exact .inr (.inl ⟨rfl,rfl,rfl⟩)
 ·conv=>cbv
  refine BM ?_;conv=>cbv
  refine .inr ?_;refine⟨true,fun _=>⟨by omega,rfl⟩,?_⟩;try conv=>cbv
  refine AB d C ?_;conv=>cbv
  refine AB d (Ru F j l g h h0 v) ?_;conv=>cbv
  refine AR ?_;conv=>cbv
  refine AB d D ?_;conv=>cbv
  refine AB (r:= .one (.bool true)) d (Mu F p q M N (mr:=true) (RO (by rw[<-v] <;> grind) (by rw[<-f] <;> grind)) (by grind) (by grind) (by grind) (by grind)) ?_;try conv=>cbv
  refine AR ?_;conv=>cbv
  intro S a;(have a:=a.trans (show _=false by simp));subst a;conv=>cbv
  refine AB d G ?_;conv=>cbv
  refine AB d (CR F O g (by omega) (by omega) (by omega) (by omega) (e:=true) ⟨fun _=>⟨by grind,by grind⟩,fun _=>rfl⟩) ?_;conv=>cbv
  refine AR ?_;conv=>cbv
  refine AB d H ?_;conv=>cbv
  refine AB (r:= .one (.bool true)) d (CR F P h (by omega) (by omega) (by omega) (by omega) (e:=true) ⟨fun _=>⟨(show ((((X5-X4)*(X3-X2)+(-(Y5-Y4))*(Y3-Y2))*vi)*X5-((-(-(Y5-Y4))*(X3-X2)+(X5-X4)*(Y3-Y2))*vi)*(-Y5))+(X2-(((((X5-X4)*(X3-X2)+(-(Y5-Y4))*(Y3-Y2))*vi)*X4)-(((-(-(Y5-Y4))*(X3-X2)+(X5-X4)*(Y3-Y2))*vi)*(-Y4))))=((X5-X4)*(X5-X4)+(Y5-Y4)*(Y5-Y4))*vi*(X3-X2)+X2 by grind).trans (by rw[f];grind),(show ((((X5-X4)*(X3-X2)+(-(Y5-Y4))*(Y3-Y2))*vi)*(-Y5)+((-(-(Y5-Y4))*(X3-X2)+(X5-X4)*(Y3-Y2))*vi)*X5)+(Y2-((((-(-(Y5-Y4))*(X3-X2)+(X5-X4)*(Y3-Y2))*vi)*X4)+((((X5-X4)*(X3-X2)+(-(Y5-Y4))*(Y3-Y2))*vi)*(-Y4))))=((X5-X4)*(X5-X4)+(Y5-Y4)*(Y5-Y4))*vi*(Y3-Y2)+Y2 by grind).trans (by rw[f];grind)⟩,fun _=>rfl⟩) ?_;try conv=>cbv
  refine AR ?_;conv=>cbv
  refine BB ?_;intro s m;conv=>cbv
  refine Ah ?_;obtain rfl:s=2:=m;refine⟨0,?_,?_⟩
  ·omega
  rw[t];exact .inr (.inr ⟨rfl,rfl,rfl⟩)
 conv=>cbv
 refine AR ?_;conv=>cbv
 exact AF ⟨t2,trivial⟩
theorem tH {W:List UInt8} {ns:List Nu} (N:ns=(runN (X.take 24)).1) {V:List Re} (C:V.length<=3) (a:∀n∈ns,CL V n) (a1:0<=km):CF 4 [.agg [.sl Bh X,.sl .u8 W],.agg [.int .u8 km,.int .u8 kn],.one (.bool ot)] (.one (.bool true)):=by
 obtain⟨w,L⟩:=Jc C a;obtain⟨Q,B⟩:∃z,z=IG ns W:=⟨_,rfl⟩
 rcases Nat.lt_or_ge Q.length 6 with hl | hl
 ·exact fz (IP N C a B (i:=6) (i':=6) ⟨rfl⟩ (by decide) (c:=false) (decide_eq_false (by omega)).symm)
 have I:=IP N C a B (i:=6) (i':=6) ⟨rfl⟩ (by decide) (c:=true) (decide_eq_true hl).symm;obtain⟨x0,f⟩:=Ao (l:=Q) (i:=0) (by omega);obtain⟨X0,Y0,a6⟩:=G7 L a B f;obtain⟨x1,g⟩:=Ao (l:=Q) (i:=1) (by omega);obtain⟨X1,Y1,a7⟩:=G7 L a B g;obtain⟨x2,j⟩:=Ao (l:=Q) (i:=2) (by omega);obtain⟨X2,Y2,a8⟩:=G7 L a B j;obtain⟨x3,m⟩:=Ao (l:=Q) (i:=3) (by omega);obtain⟨X3,Y3,aa⟩:=G7 L a B m;obtain⟨O,o⟩:=Ao (l:=Q) (i:=4) (by omega);obtain⟨X4,Y4,ab⟩:=G7 L a B o;obtain⟨P,q⟩:=Ao (l:=Q) (i:=5) (by omega);obtain⟨X5,Y5,ad⟩:=G7 L a B q;obtain⟨n1,p1,a2,T1,A1,T2,A2,T3,A3,T4,A4,mr,xu,yu,xt,yt,hu,ht,ae,H⟩:=QK L a6 a7 a1;obtain⟨_,_,_,hk,a5⟩:=a2;obtain⟨F,U,_,_⟩:=Mc L a5 hk (by grind);have g2:=U.v (by decide) (by decide) (a8 (b:=11500) (k:=20) (by decide));have R:=U.v (by decide) (by decide) (aa (b:=11500) (k:=20) (by decide))
 have r:=U.v (by decide) (by decide) (ab (b:=11500) (k:=20) (by decide));have s:=U.v (by decide) (by decide) (ad (b:=11500) (k:=20) (by decide))
 obtain⟨C1,C2,C3,C4,xc,yc,hc,D⟩:∃T A K J x y,Vm (Tf (P4 (PN ns) n1)) (Aj w n1) 1950000 181 181 T A K J x y/\CF 19 [.agg [.sl (.sl AA) T1,.sl AA A1,.sl (.sl AA) T2,.sl AA A2,.sl (.sl AA) T3,.sl AA A3,.sl (.sl AA) T4,.sl AA A4,.bool mr],.agg [.sl (.sl AA) O.1.1,.sl AA O.1.2,.sl (.sl AA) O.2.1,.sl AA O.2.2]] (.agg [.sl (.sl AA) T,.sl AA A,.sl (.sl AA) K,.sl AA J]):=by
  cases mr
  ·obtain⟨_,_,_,_,h,c⟩:=KJ F hu ht r;exact⟨_,_,_,_,_,_,h,c⟩
  obtain⟨_,_,_,_,h,c⟩:=KK F hu ht r;exact⟨_,_,_,_,_,_,h,c⟩
 obtain⟨D1,D2,D3,D4,xd,yd,Y,G⟩:∃T A K J x y,Vm (Tf (P4 (PN ns) n1)) (Aj w n1) 1950000 181 181 T A K J x y/\CF 19 [.agg [.sl (.sl AA) T1,.sl AA A1,.sl (.sl AA) T2,.sl AA A2,.sl (.sl AA) T3,.sl AA A3,.sl (.sl AA) T4,.sl AA A4,.bool mr],.agg [.sl (.sl AA) P.1.1,.sl AA P.1.2,.sl (.sl AA) P.2.1,.sl AA P.2.2]] (.agg [.sl (.sl AA) T,.sl AA A,.sl (.sl AA) K,.sl AA J]):=by
  cases mr
  ·obtain⟨_,_,_,_,h,c⟩:=KJ F hu ht s;exact⟨_,_,_,_,_,_,h,c⟩
  obtain⟨_,_,_,_,h,c⟩:=KK F hu ht s;exact⟨_,_,_,_,_,_,h,c⟩
 cases ot
 ·by_cases t:X5-X4=0/\Y5-Y4=0
  ·exact gC F hc Y I f g j m o q r s H D G t
  have u:=Jh t
  by_cases M:(X5-X4)*(X5-X4)+(Y5-Y4)*(Y5-Y4)=(xd-xc)*(xd-xc)+(yd-yc)*(yd-yc)
  ·obtain⟨_,_,_,_,hv,_⟩:=Dm F s r;obtain⟨_,_,hq,_⟩:=GF F hv;obtain⟨_,_,S⟩:=H2 F (p:=((1:Int):Rat)) (by decide +kernel);obtain⟨_,_,Z,_⟩:=DE F S hq (d:=728) (by decide) u;exact fx F hc Y Z I f g j m o q r s H D G t u M (by have:=F6 u;rw[show Re.ofRat ((1:Int):Rat)=1 from rfl];grind)
  exact gA F hc Y I f g j m o q r s H D G t u M
 by_cases t:X5-X4=0/\Y5-Y4=0
 ·exact gD F I f g j m o q g2 R r s H D G t
 have u:=Jh t
 by_cases M:(X5-X4)*(X5-X4)+(Y5-Y4)*(Y5-Y4)=(X3-X2)*(X3-X2)+(Y3-Y2)*(Y3-Y2)
 ·obtain⟨_,_,_,_,hv,_⟩:=Dm F s r;obtain⟨_,_,hq,_⟩:=GF F hv;obtain⟨_,_,S⟩:=H2 F (p:=((1:Int):Rat)) (by decide +kernel);obtain⟨_,_,Z,_⟩:=DE F S hq (d:=728) (by decide) u;exact fy F Z I f g j m o q g2 R r s H D G t u M (by have:=F6 u;rw[show Re.ofRat ((1:Int):Rat)=1 from rfl];grind)
 exact gB F I f g j m o q g2 R r s H D G t u M
end Go.Abs
