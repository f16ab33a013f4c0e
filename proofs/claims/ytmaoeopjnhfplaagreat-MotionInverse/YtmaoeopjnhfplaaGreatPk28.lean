/- Part 29 of a proof. Conditions: each theorem's own. -/
import Derived.Test.YtmaoeopjnhfplaaGreatPk27
set_option linter.all false
set_option maxHeartbeats 8000000
set_option maxRecDepth 20000
open Go.Proofs
namespace Go.Abs
open Go.RowKit
def sg (m:Bool) (y:Re):Re:=if m then -y else y
variable {A1 A2 A3 A4 A5 AK AN AO AT At BD:LR} {K0 M0 R0 b0 c0 k0 ka kb kd ki kr kt ku p0 q0:Nat} {T1 T2 T3 T4 T5 AL AM AP AU Aw BE:List LR} {TT CU:List (List Rat)->Prop} {g:FuncId} {v va vb vi xa xd xt xu ya yd yt yu:Re} {w w0:List (List Rat)}
theorem F7 {x y i:Re} (h:y*i=1):x*AE y=x*i:=by rw[<-Mh h]
theorem Lu (b:CF g [.agg (As T1 A1),.agg (As T2 A2)] (.AI [(true,(As T3 A3)),(false,[.int .i64 0])])):Bk Tryz.prog 170 [.one (.BC 0 0 0),.one (.fn g),.agg (As T1 A1),.agg (As T2 A2)] (.var 0 [.int .i64 0]) (.agg (As T3 A3)):=by
 refine Bx Tryz.func170 fun E a=>?_
 conv=>cbv
 refine AR ?_;conv=>cbv
 refine AB a b ?_;conv=>cbv
 refine fun _=>⟨⟨⟨t3,trivial⟩,rfl,by simp⟩,rfl⟩
theorem Og (F:Fd TT w) (ha:Nm TT w 1950000 ka AL AK va) (hb:Nm TT w 1950000 kb AM AN vb) (h:ka+kb+111<=80000:=by omega):∃d c,Nm TT w 1950000 (ka+kb+1) d c (va+vb)/\Bk Tryz.prog 148 [.one (.BC 0 0 0),.agg (As AL AK),.agg (As AM AN)] (.var 0 [.int .i64 0]) (.agg (As d c)):=by
 obtain⟨AP,AO,b,a,f⟩:=EU F ha hb;refine⟨AP,AO,b.mono (by omega),?_⟩;refine Bx Tryz.func148 fun E g=>?_
 conv=>cbv
 refine AW 0 0 g (Lu a) ?_;try conv=>cbv
 refine fun _=>⟨⟨⟨t3,trivial⟩,rfl,by simp⟩,rfl⟩
theorem Oh (F:Fd TT w) (ha:Nm TT w 1950000 ka AL AK va) (hb:Nm TT w 1950000 kb AM AN vb) (h:ka+kb+111<=80000:=by omega):∃d c,Nm TT w 1950000 (ka+kb+1) d c (va-vb)/\Bk Tryz.prog 149 [.one (.BC 0 0 0),.agg (As AL AK),.agg (As AM AN)] (.var 0 [.int .i64 0]) (.agg (As d c)):=by
 obtain⟨AP,AO,b,a,f⟩:=DM F ha hb;refine⟨AP,AO,b.mono (by omega),?_⟩;refine Bx Tryz.func149 fun E g=>?_
 conv=>cbv
 refine AW 0 0 g (Lu a) ?_;try conv=>cbv
 refine fun _=>⟨⟨⟨t3,trivial⟩,rfl,by simp⟩,rfl⟩
theorem FJ (F:Fd TT w) (ha:Nm TT w 1950000 ka AL AK va) (hb:Nm TT w 1950000 kb AM AN vb) (h:ka+kb+111<=80000:=by omega):∃d c,Nm TT w 1950000 (ka+kb+1) d c (va*vb)/\Bk Tryz.prog 147 [.one (.BC 0 0 0),.agg (As AL AK),.agg (As AM AN)] (.var 0 [.int .i64 0]) (.agg (As d c)):=by
 obtain⟨AP,AO,b,a,f⟩:=CN F ha hb;refine⟨AP,AO,b.mono (by omega),?_⟩;refine Bx Tryz.func147 fun E g=>?_
 conv=>cbv
 refine AW 0 0 g (Lu a) ?_;try conv=>cbv
 refine fun _=>⟨⟨⟨t3,trivial⟩,rfl,by simp⟩,rfl⟩
theorem JY (F:Fd TT w) (ha:Nm TT w 1950000 ka AL AK va) (hb:Nm TT w 1950000 kb AM AN vb) (h:vb≠0) (j:ka+47*kb+134<=80000:=by omega):∃f c,Nm TT w 1950000 (ka+47*kb+24) f c (va*AE vb)/\Bk Tryz.prog 82 [.one (.BC 0 0 0),.agg (As AL AK),.agg (As AM AN)] (.var 0 [.int .i64 0]) (.agg (As f c)):=by
 obtain⟨AP,AO,b,a,g⟩:=DE F ha hb (d:=47*kb+23) (by omega) h;refine⟨AP,AO,b.mono (by omega),?_⟩;refine Bx Tryz.func82 fun E i=>?_
 conv=>cbv
 refine AW 0 0 i (Lu a) ?_;try conv=>cbv
 refine fun _=>⟨⟨⟨t3,trivial⟩,rfl,by simp⟩,rfl⟩
theorem F8 {T6:List LR} {A6:LR} (b:CF g [.agg (AD T1 A1 T2 A2),.agg (AD T3 A3 T4 A4)] (.AI [(true,(AD T5 A5 T6 A6)),(false,[.int .i64 0])])):Bk Tryz.prog 62 [.one (.BC 0 0 0),.one (.fn g),.agg (AD T1 A1 T2 A2),.agg (AD T3 A3 T4 A4)] (.var 0 [.int .i64 0]) (.agg (AD T5 A5 T6 A6)):=by
 refine Bx Tryz.func62 fun E a=>?_
 conv=>cbv
 refine AR ?_;conv=>cbv
 refine AB a b ?_;conv=>cbv
 refine fun _=>⟨⟨⟨⟨rfl,rfl,rfl,rfl,rfl,trivial⟩,trivial⟩,rfl,by simp⟩,rfl⟩
theorem G5 (b:CF g [.agg (AD T1 A1 T2 A2),.agg (AD T3 A3 T4 A4)] (.AI [(true,(As T5 A5)),(false,[.int .i64 0])])):Bk Tryz.prog 77 [.one (.BC 0 0 0),.one (.fn g),.agg (AD T1 A1 T2 A2),.agg (AD T3 A3 T4 A4)] (.var 0 [.int .i64 0]) (.agg (As T5 A5)):=by
 refine Bx Tryz.func77 fun E a=>?_
 conv=>cbv
 refine AR ?_;conv=>cbv
 refine AB a b ?_;conv=>cbv
 refine fun _=>⟨⟨⟨t3,trivial⟩,rfl,by simp⟩,rfl⟩
theorem KC {mr:Bool}:Bk Tryz.prog 95 [.one (.BC 0 0 0),.agg (BQ T1 A1 T2 A2 T3 A3 T4 A4 mr)] (.var 0 [.int .i64 0]) (.AI [(true,(BQ T1 A1 T2 A2 T3 A3 T4 A4 mr)),(false,[.int .i64 0])]):=by
 refine Bx Tryz.func95 fun E a=>?_
 conv=>cbv
 refine AR ?_;conv=>cbv
 refine fun _=>⟨⟨⟨⟨rfl,rfl,rfl,rfl,rfl,rfl,rfl,rfl,rfl,rfl,trivial⟩,t2,trivial⟩,rfl,by simp⟩,rfl⟩
theorem Uo (F:Fd TT w) (hu:Vm TT w 1950000 ku ku AL AK AM AN xu yu) (ht:Vm TT w 1950000 kt kt AP AO AU AT xt yt) (ha:Vm TT w 1950000 ka ka Aw At BE BD xa ya) (H:2*ka+2*ku+113<=80000:=by omega):∃G B h g,Vm TT w 1950000 (2*ka+2*ku+3) (2*ka+2*ku+3) G B h g ((xu*xa)-(yu*ya)) ((yu*xa)+(xu*ya))/\Bk Tryz.prog 64 [.one (.BC 0 0 0),.agg (BQ AL AK AM AN AP AO AU AT false),.agg (AD Aw At BE BD)] (.var 0 [.int .i64 0]) (.agg (AD G B h g)):=by
 obtain⟨BW,BV,o,i⟩:=FJ F hu.x ha.x;obtain⟨Bw,Bq,p,j⟩:=FJ F hu.y ha.y;obtain⟨c,a,q,k⟩:=Oh F o p;obtain⟨C,z,r,l⟩:=FJ F hu.y ha.x;obtain⟨D,A,s,m⟩:=FJ F hu.x ha.y;obtain⟨d,b,t,n⟩:=Og F r s;have u:Vm _ w 1950000 (2*ka+2*ku+3) (2*ka+2*ku+3) c a d b _ _:=⟨q.mono (by omega),t.mono (by omega)⟩;refine⟨c,a,d,b,u.mono (by omega) (by omega),?_⟩;refine Bx Tryz.func64 fun E f=>?_
 conv=>cbv
 refine .inr ?_;refine AW 0 0 f i ?_;try conv=>cbv
 refine AW 0 0 f j ?_;try conv=>cbv
 refine AW 0 0 f k ?_;try conv=>cbv
 refine AW 0 0 f l ?_;try conv=>cbv
 refine AW 0 0 f m ?_;try conv=>cbv
 refine AW 0 0 f n ?_;try conv=>cbv
 refine BB ?_;refine fun _=>⟨⟨⟨⟨rfl,rfl,rfl,rfl,rfl,trivial⟩,trivial⟩,rfl,by simp⟩,rfl⟩
theorem oH (F:Fd TT w) (hu:Vm TT w 1950000 ku ku AL AK AM AN xu yu) (ha:Vm TT w 1950000 ka ka AP AO AU AT xa ya) (D:2*ka+2*ku+113<=80000:=by omega):∃C z f d,Vm TT w 1950000 (2*ka+2*ku+3) (2*ka+2*ku+3) C z f d ((xu*xa)-(yu*ya)) ((yu*xa)+(xu*ya))/\Bk Tryz.prog 64 [.one (.BC 0 0 0),.agg [.sl (.sl AA) AL,.sl AA AK,.sl (.sl AA) AM,.sl AA AN,.nil,.nil,.nil,.nil,.bool false],.agg (AD AP AO AU AT)] (.var 0 [.int .i64 0]) (.agg (AD C z f d)):=by
 obtain⟨BE,BD,m,g⟩:=FJ F hu.x ha.x;obtain⟨BW,BV,n,h⟩:=FJ F hu.y ha.y;obtain⟨Bw,Bq,o,i⟩:=Oh F m n;obtain⟨A,t,p,j⟩:=FJ F hu.y ha.x;obtain⟨B,u,q,k⟩:=FJ F hu.x ha.y;obtain⟨b,a,r,l⟩:=Og F p q;have s:Vm _ w 1950000 (2*ka+2*ku+3) (2*ka+2*ku+3) Bw Bq b a _ _:=⟨o.mono (by omega),r.mono (by omega)⟩;refine⟨Bw,Bq,b,a,s.mono (by omega) (by omega),?_⟩;refine Bx Tryz.func64 fun E c=>?_
 conv=>cbv
 refine .inr ?_;refine AW 0 0 c g ?_;try conv=>cbv
 refine AW 0 0 c h ?_;try conv=>cbv
 refine AW 0 0 c i ?_;try conv=>cbv
 refine AW 0 0 c j ?_;try conv=>cbv
 refine AW 0 0 c k ?_;try conv=>cbv
 refine AW 0 0 c l ?_;try conv=>cbv
 refine BB ?_;refine fun _=>⟨⟨⟨⟨rfl,rfl,rfl,rfl,rfl,trivial⟩,trivial⟩,rfl,by simp⟩,rfl⟩
theorem RN (F:Fd TT w) (hu:Vm TT w 1950000 ku ku AL AK AM AN xu yu) (ha:Vm TT w 1950000 ka ka AP AO AU AT xa ya) (k:Vm TT w 1950000 kd kd Aw At BE BD xd yd) (l:2*ka+kd+2*ku+114<=80000:=by omega):∃j i b a,Vm TT w 1950000 (2*ka+kd+2*ku+4) (2*ka+kd+2*ku+4) j i b a (xd-((xu*xa)-(yu*ya))) (yd-((yu*xa)+(xu*ya)))/\Bk Tryz.prog 84 [.one (.BC 0 0 0),.agg [.sl (.sl AA) AL,.sl AA AK,.sl (.sl AA) AM,.sl AA AN,.nil,.nil,.nil,.nil,.bool false],.agg (AD AP AO AU AT),.agg (AD Aw At BE BD)] (.var 0 [.int .i64 0]) (.AI [(true,(BQ AL AK AM AN j i b a false)),(false,[.int .i64 0])]):=by
 obtain⟨BW,BV,Bm,Bj,f,c⟩:=oH F hu ha;obtain⟨Bw,Bq,Bu,Bp,g,d⟩:=Dm F k f;refine⟨Bw,Bq,Bu,Bp,g.mono (by omega) (by omega),?_⟩;refine Bx Tryz.func84 fun E h=>?_
 conv=>cbv
 refine AW 0 0 h c ?_;try conv=>cbv
 refine AW 0 0 h (F8 d) ?_;try conv=>cbv
 refine BB ?_;refine BB ?_;refine AW 0 0 h KC ?_;try conv=>cbv
 refine fun _=>⟨⟨⟨⟨rfl,rfl,rfl,rfl,rfl,rfl,rfl,rfl,rfl,rfl,trivial⟩,t2,trivial⟩,rfl,by simp⟩,rfl⟩
theorem Mt (F:Fd TT w) (hu:Vm TT w 1950000 ku ku AL AK AM AN xu yu) (ht:Vm TT w 1950000 kt kt AP AO AU AT xt yt) (ha:Vm TT w 1950000 ka ka Aw At BE BD xa ya) (k:2*ka+kt+2*ku+114<=80000:=by omega):∃i h b a,Vm TT w 1950000 (2*ka+kt+2*ku+4) (2*ka+kt+2*ku+4) i h b a (((xu*xa)-(yu*ya))+xt) (((yu*xa)+(xu*ya))+yt)/\CF 17 [.agg (BQ AL AK AM AN AP AO AU AT false),.agg (AD Aw At BE BD)] (.AI [(true,(AD i h b a)),(false,[.int .i64 0])]):=by
 obtain⟨BW,BV,Bm,Bj,f,c⟩:=Uo F hu ht ha;obtain⟨Bw,Bq,Bu,Bp,g,d⟩:=Fw F f ht;refine⟨Bw,Bq,Bu,Bp,g.mono (by omega) (by omega),?_⟩;refine AZ Tryz.func17 fun E j=>?_
 conv=>cbv
 refine AW 9 1 j c ?_;try conv=>cbv
 refine AW 9 1 j (F8 d) ?_;try conv=>cbv
 refine BB ?_;refine AR ?_;conv=>cbv
 exact AF ⟨⟨rfl,rfl,rfl,rfl,rfl,trivial⟩,t2,trivial⟩
theorem Uq (F:Fd TT w) (hu:Vm TT w 1950000 ku ku AL AK AM AN xu yu) (ht:Vm TT w 1950000 kt kt AP AO AU AT xt yt) (ha:Vm TT w 1950000 ka ka Aw At BE BD xa ya) (K:2*ka+2*ku+113<=80000:=by omega):∃I D i h,Vm TT w 1950000 (2*ka+2*ku+3) (2*ka+2*ku+3) I D i h ((xu*xa)-(yu*(-ya))) ((yu*xa)+(xu*(-ya)))/\Bk Tryz.prog 64 [.one (.BC 0 0 0),.agg (BQ AL AK AM AN AP AO AU AT true),.agg (AD Aw At BE BD)] (.var 0 [.int .i64 0]) (.agg (AD I D i h)):=by
 obtain⟨BT,f,j,J⟩:=FK F ha.y;obtain⟨Bm,Bj,q,k⟩:=FJ F hu.x ha.x;obtain⟨Bu,Bp,r,l⟩:=FJ F hu.y f;obtain⟨c,a,s,m⟩:=Oh F q r;obtain⟨G,B,t,n⟩:=FJ F hu.y ha.x;obtain⟨H,C,u,o⟩:=FJ F hu.x f;obtain⟨d,b,z,p⟩:=Og F t u;have A:Vm _ w 1950000 (2*ka+2*ku+3) (2*ka+2*ku+3) c a d b _ _:=⟨s.mono (by omega),z.mono (by omega)⟩;refine⟨c,a,d,b,A.mono (by omega) (by omega),?_⟩;refine Bx Tryz.func64 fun E g=>?_
 conv=>cbv
 refine .inr ?_;refine AB g j ?_;conv=>cbv
 refine AW 0 0 g k ?_;try conv=>cbv
 refine AW 0 0 g l ?_;try conv=>cbv
 refine AW 0 0 g m ?_;try conv=>cbv
 refine AW 0 0 g n ?_;try conv=>cbv
 refine AW 0 0 g o ?_;try conv=>cbv
 refine AW 0 0 g p ?_;try conv=>cbv
 refine BB ?_;refine fun _=>⟨⟨⟨⟨rfl,rfl,rfl,rfl,rfl,trivial⟩,trivial⟩,rfl,by simp⟩,rfl⟩
theorem oI (F:Fd TT w) (hu:Vm TT w 1950000 ku ku AL AK AM AN xu yu) (ha:Vm TT w 1950000 ka ka AP AO AU AT xa ya) (I:2*ka+2*ku+113<=80000:=by omega):∃G B g f,Vm TT w 1950000 (2*ka+2*ku+3) (2*ka+2*ku+3) G B g f ((xu*xa)-(yu*(-ya))) ((yu*xa)+(xu*(-ya)))/\Bk Tryz.prog 64 [.one (.BC 0 0 0),.agg [.sl (.sl AA) AL,.sl AA AK,.sl (.sl AA) AM,.sl AA AN,.nil,.nil,.nil,.nil,.bool true],.agg (AD AP AO AU AT)] (.var 0 [.int .i64 0]) (.agg (AD G B g f)):=by
 obtain⟨At,c,h,H⟩:=FK F ha.y;obtain⟨Ba,BT,o,i⟩:=FJ F hu.x ha.x;obtain⟨Bm,Bj,p,j⟩:=FJ F hu.y c;obtain⟨Bu,Bp,q,k⟩:=Oh F o p;obtain⟨C,z,r,l⟩:=FJ F hu.y ha.x;obtain⟨D,A,s,m⟩:=FJ F hu.x c;obtain⟨b,a,t,n⟩:=Og F r s;have u:Vm _ w 1950000 (2*ka+2*ku+3) (2*ka+2*ku+3) Bu Bp b a _ _:=⟨q.mono (by omega),t.mono (by omega)⟩;refine⟨Bu,Bp,b,a,u.mono (by omega) (by omega),?_⟩;refine Bx Tryz.func64 fun E d=>?_
 conv=>cbv
 refine .inr ?_;refine AB d h ?_;conv=>cbv
 refine AW 0 0 d i ?_;try conv=>cbv
 refine AW 0 0 d j ?_;try conv=>cbv
 refine AW 0 0 d k ?_;try conv=>cbv
 refine AW 0 0 d l ?_;try conv=>cbv
 refine AW 0 0 d m ?_;try conv=>cbv
 refine AW 0 0 d n ?_;try conv=>cbv
 refine BB ?_;refine fun _=>⟨⟨⟨⟨rfl,rfl,rfl,rfl,rfl,trivial⟩,trivial⟩,rfl,by simp⟩,rfl⟩
theorem aX (F:Fd TT w) (hu:Vm TT w 1950000 ku ku AL AK AM AN xu yu) (ha:Vm TT w 1950000 ka ka AP AO AU AT xa ya) (k:Vm TT w 1950000 kd kd Aw At BE BD xd yd) (l:2*ka+kd+2*ku+114<=80000:=by omega):∃j i b a,Vm TT w 1950000 (2*ka+kd+2*ku+4) (2*ka+kd+2*ku+4) j i b a (xd-((xu*xa)-(yu*(-ya)))) (yd-((yu*xa)+(xu*(-ya))))/\Bk Tryz.prog 84 [.one (.BC 0 0 0),.agg [.sl (.sl AA) AL,.sl AA AK,.sl (.sl AA) AM,.sl AA AN,.nil,.nil,.nil,.nil,.bool true],.agg (AD AP AO AU AT),.agg (AD Aw At BE BD)] (.var 0 [.int .i64 0]) (.AI [(true,(BQ AL AK AM AN j i b a true)),(false,[.int .i64 0])]):=by
 obtain⟨BW,BV,Bm,Bj,f,c⟩:=oI F hu ha;obtain⟨Bw,Bq,Bu,Bp,g,d⟩:=Dm F k f;refine⟨Bw,Bq,Bu,Bp,g.mono (by omega) (by omega),?_⟩;refine Bx Tryz.func84 fun E h=>?_
 conv=>cbv
 refine AW 0 0 h c ?_;try conv=>cbv
 refine AW 0 0 h (F8 d) ?_;try conv=>cbv
 refine BB ?_;refine BB ?_;refine AW 0 0 h KC ?_;try conv=>cbv
 refine fun _=>⟨⟨⟨⟨rfl,rfl,rfl,rfl,rfl,rfl,rfl,rfl,rfl,rfl,trivial⟩,t2,trivial⟩,rfl,by simp⟩,rfl⟩
theorem Oc (F:Fd TT w) (hu:Vm TT w 1950000 ku ku AL AK AM AN xu yu) (ht:Vm TT w 1950000 kt kt AP AO AU AT xt yt) (ha:Vm TT w 1950000 ka ka Aw At BE BD xa ya) (k:2*ka+kt+2*ku+114<=80000:=by omega):∃i h b a,Vm TT w 1950000 (2*ka+kt+2*ku+4) (2*ka+kt+2*ku+4) i h b a (((xu*xa)-(yu*(-ya)))+xt) (((yu*xa)+(xu*(-ya)))+yt)/\CF 17 [.agg (BQ AL AK AM AN AP AO AU AT true),.agg (AD Aw At BE BD)] (.AI [(true,(AD i h b a)),(false,[.int .i64 0])]):=by
 obtain⟨BW,BV,Bm,Bj,f,c⟩:=Uq F hu ht ha;obtain⟨Bw,Bq,Bu,Bp,g,d⟩:=Fw F f ht;refine⟨Bw,Bq,Bu,Bp,g.mono (by omega) (by omega),?_⟩;refine AZ Tryz.func17 fun E j=>?_
 conv=>cbv
 refine AW 9 1 j c ?_;try conv=>cbv
 refine AW 9 1 j (F8 d) ?_;try conv=>cbv
 refine BB ?_;refine AR ?_;conv=>cbv
 exact AF ⟨⟨rfl,rfl,rfl,rfl,rfl,trivial⟩,t2,trivial⟩
theorem RI (F:Fd TT w) (ha:Nm TT w 1950000 ka AL AK va) (g:ka+111<=80000:=by omega):CF 96 [.agg (As AL AK)] (.agg (As AL AK)):=by
 obtain⟨A4,d,c,_⟩:=FK F ha;obtain⟨A5,f,a,_⟩:=FK F d;have e:A5=AK:=Nm.data f ha (by grind);rw[e] at a;refine AZ Tryz.func96 fun E b=>?_
 conv=>cbv
 refine AB b c ?_;conv=>cbv
 refine AB b a ?_;conv=>cbv
 exact AF ⟨t3,trivial⟩
theorem si (f:Fm CU w0 R0 b0 c0 M0 q0 p0) (a:Vm CU w0 b0 k0 k0 T1 A1 T2 A2 xa ya) (m:xa*xa+ya*ya=v) (l:Rt CU w0 b0 K0 TT w 1950000 kr v) (k:2*k0+c0+2<=M0) (n:4*k0+3<=K0):∃c b,Nm TT w 1950000 (kr) c b (Re.sqrt v)/\CF 145 [.agg (AD T1 A1 T2 A2)] (.AI [(true,(As c b)),(false,[.int .i64 0])]):=by
 obtain⟨T5,A5,i,g⟩:=GF f a;obtain⟨T6,A6,j,h,_⟩:=l.get (show _<=K0 by omega) (i.cast m);refine⟨T6,A6,j.mono (by omega),?_⟩;refine AZ Tryz.func145 fun E d=>?_
 conv=>cbv
 refine AB d g ?_;conv=>cbv
 refine AR ?_;conv=>cbv
 refine AB d h ?_;conv=>cbv
 exact AF ⟨t3,t2,trivial⟩
theorem oE (F:Fd TT w) {xo yo:Re} {ko:Nat} (V:Vm TT w 1950000 ko ko AL AK AM AN xo yo) (ha:Vm TT w 1950000 ka ka AP AO AU AT xa ya) (T:Nm TT w 1950000 ki Aw At vi) (W:Fm CU w0 R0 b0 c0 M0 q0 p0) (J:Vm CU w0 b0 k0 k0 AP AO AU AT xa ya) (Y:¬(xa=0/\ya=0)) (hv:xa*xa+ya*ya=v) (hr:Rt CU w0 b0 K0 TT w 1950000 kr v) (K:2*k0+c0+2<=M0) (Z:4*k0+3<=K0) (U:Re.sqrt v≠0) (a:Re.sqrt v*vi=1) (hM:2*ka+2*ki+3*ko+47*kr+134<=80000:=by omega):∃N L l h O M m i,Vm TT w 1950000 (ka+ki+1) (ka+ki+1) N L l h (xa*vi) (ya*vi)/\Vm TT w 1950000 (2*ka+2*ki+3*ko+6) (2*ka+2*ki+3*ko+6) O M m i (xo-(((xa*vi)*xo)-((ya*vi)*yo))) (yo-(((ya*vi)*xo)+((xa*vi)*yo)))/\CF 59 [.agg (AD AL AK AM AN),.agg (AD AP AO AU AT)] (.AI [(true,(BQ N L l h O M m i false)),(false,[.int .i64 0])]):=by
 obtain⟨Tn,An,I,X⟩:=si W J hv hr K Z;obtain⟨BE,BD,q,P,R⟩:=CN F ha.x T;obtain⟨BW,BV,s,n⟩:=JY F ha.x I U;have t:=s.shrink q (F7 a);have u:=t.cast (y:=xa*vi) (F7 a);obtain⟨Bu,Bp,A,Q,S⟩:=CN F ha.y T;obtain⟨c,b,B,o⟩:=JY F ha.y I U;have C:=B.shrink A (F7 a);have D:=C.cast (y:=ya*vi) (F7 a);have d:Vm _ w 1950000 (ka+ki+1) (ka+ki+1) BW BV c b _ _:=⟨u.mono (by omega),D.mono (by omega)⟩;obtain⟨j,f,k,g,G,p⟩:=RN F d V V;refine⟨BW,BV,c,b,j,f,k,g,d.mono (by omega) (by omega),G.mono (by omega) (by omega),?_⟩;refine AZ Tryz.func59 fun E H=>?_
 conv=>cbv
 refine AB (r:= .one (.bool false)) H (SN F ha (by omega) (by omega) (e:=false) ⟨fun z=>(by cases z),fun z=>absurd z Y⟩) ?_;conv=>cbv
 refine AB H X ?_;conv=>cbv
 refine AW 20 1 H n ?_;try conv=>cbv
 refine AW 20 1 H o ?_;try conv=>cbv
 refine BB ?_;refine AW 20 1 H p ?_;try conv=>cbv
 exact AF ⟨⟨rfl,rfl,rfl,rfl,rfl,rfl,rfl,rfl,rfl,rfl,trivial⟩,t2,trivial⟩
theorem ny (F:Fd TT w) {vc:Re} {kc:Nat} (ha:Nm TT w 1950000 ka AL AK va) (hb:Nm TT w 1950000 kb AM AN vb) (hc:Nm TT w 1950000 kc AP AO vc) (hi:Nm TT w 1950000 ki AU AT vi) (hn:va*va+vb*vb≠0) (c:(va*va+vb*vb)*vi=1) (hM:96*ka+96*kb+kc+ki+278<=80000:=by omega):∃U0 B0 x t U1 B1 z u,Vm TT w 1950000 (2*ka+2*kb+ki+4) (2*ka+2*kb+ki+4) U0 B0 x t (((vb*vb)-(va*va))*vi) (-(((Re.ofRat ((2:Int):Rat))*vi)*(va*vb)))/\Vm TT w 1950000 (ka+kb+kc+ki+4) (ka+kb+kc+ki+4) U1 B1 z u (((Re.ofRat ((2:Int):Rat))*vi)*(va*vc)) (((Re.ofRat ((2:Int):Rat))*vi)*(vb*vc))/\CF 61 [.agg (AS AL AK AM AN AP AO)] (.AI [(true,(BQ U0 B0 x t U1 B1 z u true)),(false,[.int .i64 0])]):=by
 obtain⟨BE,BD,m,A⟩:=FJ F ha ha;obtain⟨BW,BV,n,B⟩:=FJ F hb hb;obtain⟨Bw,Bq,o,C⟩:=Og F m n;obtain⟨Bp,s,q⟩:=H2 F (p:=((2:Int):Rat)) (by decide +kernel);obtain⟨ai,a8,P,ar,av⟩:=CN F q hi;obtain⟨aj,aa,Q,D⟩:=JY F q o hn;have R:=Q.shrink P (F7 c);have b:=R.cast (y:=(Re.ofRat ((2:Int):Rat))*vi) (F7 c);obtain⟨ak,ab,S,G⟩:=FJ F ha hb;obtain⟨i,ad,T,H⟩:=FJ F b S;obtain⟨al,ae,r,I⟩:=Oh F n m;obtain⟨an,af,U,au,aw⟩:=CN F r hi;obtain⟨j,d,V,J⟩:=JY F r o hn;have W:=V.shrink U (F7 c);have X:=W.cast (y:=((vb*vb)-(va*va))*vi) (F7 c)
 obtain⟨f,Y,K,ax⟩:=FK F T;have Z:Vm _ w 1950000 (2*ka+2*kb+ki+4) (2*ka+2*kb+ki+4) j d i f _ _:=⟨X.mono (by omega),Y.mono (by omega)⟩;obtain⟨ao,ag,a1,L⟩:=FJ F ha hc;obtain⟨k,g,a2,M⟩:=FJ F b a1;obtain⟨aq,ah,a5,N⟩:=FJ F hb hc;obtain⟨l,h,a6,O⟩:=FJ F b a5;have a7:Vm _ w 1950000 (ka+kb+kc+ki+4) (ka+kb+kc+ki+4) k g l h _ _:=⟨a2.mono (by omega),a6.mono (by omega)⟩;refine⟨j,d,i,f,k,g,l,h,Z.mono (by omega) (by omega),a7.mono (by omega) (by omega),?_⟩;refine AZ Tryz.func61 fun E a=>?_
 conv=>cbv
 refine AW 12 1 a A ?_;try conv=>cbv
 refine AW 12 1 a B ?_;try conv=>cbv
 refine BB ?_;refine AW 12 1 a C ?_;try conv=>cbv
 refine AB a (MB (by decide) (NP (by decide +kernel:Co ((2:Int):Rat))) s) ?_;conv=>cbv
 refine AW 12 1 a D ?_;try conv=>cbv
 refine BB ?_;refine AW 12 1 a G ?_;try conv=>cbv
 refine AW 12 1 a H ?_;try conv=>cbv
 refine BB ?_;refine AW 12 1 a I ?_;try conv=>cbv
 refine AW 12 1 a J ?_;try conv=>cbv
 refine AW 12 1 a L ?_;try conv=>cbv
 refine AW 12 1 a M ?_;try conv=>cbv
 refine AW 12 1 a N ?_;try conv=>cbv
 refine AW 12 1 a O ?_;try conv=>cbv
 refine BB ?_;refine BM ?_;conv=>cbv
 refine .inr ?_;refine AB a K ?_;conv=>cbv
 refine AW 12 1 a KC ?_;try conv=>cbv
 exact AF ⟨⟨rfl,rfl,rfl,rfl,rfl,rfl,rfl,rfl,rfl,rfl,trivial⟩,t2,trivial⟩
theorem nx (F:Fd TT w) {Ba BW Bm:List LR} {BT BV Bj:LR} {xb yb xp yp xq yq:Re} {kp kq:Nat} (ha:Vm TT w 1950000 ka ka AL AK AM AN xa ya) (hb:Vm TT w 1950000 kb kb AP AO AU AT xb yb) (hp:Vm TT w 1950000 kp kp Aw At BE BD xp yp) (hq:Vm TT w 1950000 kq kq Ba BT BW BV xq yq) (hi:Nm TT w 1950000 ki Bm Bj vi) (hn:(xb-xa)*(xb-xa)+(yb-ya)*(yb-ya)≠0) (hf:(xb-xa)*(xb-xa)+(yb-ya)*(yb-ya)=(xq-xp)*(xq-xp)+(yq-yp)*(yq-yp)) (f:((xb-xa)*(xb-xa)+(yb-ya)*(yb-ya))*vi=1) (hM:190*ka+190*kb+2*ki+8*kp+8*kq+470<=80000:=by omega):∃U0 B0 A s U1 B1 B t,Vm TT w 1950000 (2*ka+2*kb+ki+2*kp+2*kq+8) (2*ka+2*kb+ki+2*kp+2*kq+8) U0 B0 A s (((xb-xa)*(xq-xp)+(yb-ya)*(yq-yp))*vi) ((-(yb-ya)*(xq-xp)+(xb-xa)*(yq-yp))*vi)/\Vm TT w 1950000 (6*ka+4*kb+2*ki+5*kp+4*kq+20) (6*ka+4*kb+2*ki+5*kp+4*kq+20) U1 B1 B t (xp-(((((xb-xa)*(xq-xp)+(yb-ya)*(yq-yp))*vi)*xa)-(((-(yb-ya)*(xq-xp)+(xb-xa)*(yq-yp))*vi)*ya))) (yp-((((-(yb-ya)*(xq-xp)+(xb-xa)*(yq-yp))*vi)*xa)+((((xb-xa)*(xq-xp)+(yb-ya)*(yq-yp))*vi)*ya)))/\CF 22 [.agg (AD AL AK AM AN),.agg (AD AP AO AU AT),.agg (AD Aw At BE BD),.agg (AD Ba BT BW BV),.one (.bool false)] (.AI [(true,(BQ U0 B0 A s U1 B1 B t false)),(false,[.int .i64 0])]):=by
 obtain⟨Bw,Bq,Bu,Bp,a,D⟩:=Dm F hb ha;obtain⟨ah,a7,ai,a8,b,G⟩:=Dm F hq hp;obtain⟨aj,aa,c,H⟩:=GD F a a;obtain⟨ak,ab,R,I⟩:=GD F b b;obtain⟨a5,o,J,av⟩:=Ci F c;have p:a5≠0:=fun z=>hn (FV.1 (o.symm.trans z))
 obtain⟨C,n,K,aw⟩:=EK F c R;obtain rfl:C=true:=n.2 hf;obtain⟨al,ad,k,L⟩:=GD F a b;obtain⟨an,ae,S,ar,ax⟩:=CN F k hi;obtain⟨i,g,T,M⟩:=JY F k c hn;have U:=T.shrink S (F7 f);have V:=U.cast (y:=((xb-xa)*(xq-xp)+(yb-ya)*(yq-yp))*vi) (F7 f);obtain⟨ao,af,l,N⟩:=Na F a b;obtain⟨aq,ag,W,au,ay⟩:=CN F l hi;obtain⟨j,h,X,O⟩:=JY F l c hn;have Y:=X.shrink W (F7 f);have Z:=Y.cast (y:=(-(yb-ya)*(xq-xp)+(xb-xa)*(yq-yp))*vi) (F7 f);have m:Vm _ w 1950000 (2*ka+2*kb+ki+2*kp+2*kq+8) (2*ka+2*kb+ki+2*kp+2*kq+8) i g j h _ _:=⟨V.mono (by omega),Z.mono (by omega)⟩
 obtain⟨u,q,x,r,a1,P⟩:=RN F m ha hp;refine⟨i,g,j,h,u,q,x,r,m.mono (by omega) (by omega),a1.mono (by omega) (by omega),?_⟩;refine AZ Tryz.func22 fun E d=>?_
 conv=>cbv
 refine AW 19 1 d (F8 D) ?_;try conv=>cbv
 refine AW 19 1 d (F8 G) ?_;try conv=>cbv
 refine BB ?_;refine AW 19 1 d (G5 H) ?_;try conv=>cbv
 refine AW 19 1 d (G5 I) ?_;try conv=>cbv
 refine BB ?_;refine AR ?_;conv=>cbv
 refine AB d J ?_;conv=>cbv
 intro a6 Q;conv=>cbv
 cases a6 <;> conv=>cbv
 ·have a2:=BR Q;refine AB d K ?_;conv=>cbv
  refine AR ?_;conv=>cbv
  refine .inr ?_;refine AW 19 1 d (G5 L) ?_;try conv=>cbv
  refine AW 19 1 d M ?_;try conv=>cbv
  refine AW 19 1 d (G5 N) ?_;try conv=>cbv
  refine AW 19 1 d O ?_;try conv=>cbv
  refine BB ?_;refine AW 19 1 d P ?_;try conv=>cbv
  exact AF ⟨⟨rfl,rfl,rfl,rfl,rfl,rfl,rfl,rfl,rfl,rfl,trivial⟩,t2,trivial⟩
 have a2:=BS Q;exact absurd a2 p
end Go.Abs
