/- Part 14 of a proof. Conditions: each theorem's own. -/
import Derived.Test.YthegappccffcjaaGreatDoorCr11
set_option linter.all false
set_option maxHeartbeats 80000000
set_option maxRecDepth 20000
open Go.Proofs
namespace Go.Abs
open Go.RowKit
section
variable {Aa Ab Ac Ad Ae Al Am An Ap Aq As At Au Av Ax Ay:LR} {C P:List Int} {Ta Tb Tc Td Te Tl Tm Tn Tp Tq Ts Tt Tu Tv Tx Ty:List LR} {V:List Ex} {cr:List (el AR)} {e f g kd sd:Int}
theorem NJ:CF 37 [.agg (Bu Ta Aa Tb Ab Tc Ac),.agg (AI Td Ad Te Ae),AD 0] (AS [.int .i64 1,BA Ta,AU Aa,BA Tb,AU Ab,BA Tc,AU Ac,BA Td,AU Ad,BA Te,AU Ae,BC,BD,BC,BD,BC,BD,BC,BD,BC,BD] 0):=by
 refine AN Tryz.func37 fun E b=>?_
 refine AY ?_;exact AM AQ
theorem O1 (he:e≠0):CF 37 [.agg (Bu Ta Aa Tb Ab Tc Ac),.agg (AI Td Ad Te Ae),AD e] (AS (Cu 0 Bv Bv) e):=by
 refine AN Tryz.func37 fun E d=>?_
 refine Ht (fun b=>?_) fun b=>?_
 ·exact absurd b he
 exact AM AQ
theorem ua {r:Int} (k:r≠0) (l:CF 16 [.agg (AK Ts As)] (AD r)):CF 33 [.agg (AI Ta Aa Tb Ab),.agg (AK Ts As),AD 0] (AS [.int .i64 2,BC,BD,BC,BD,BC,BD,BC,BD,BC,BD,BA Ta,AU Aa,BA Tb,AU Ab,BA Ts,AU As,BC,BD,BC,BD] 0):=by
 refine AN Tryz.func33 fun E j=>?_
 refine Bx ?_;refine AB j l ?_;intro h b;refine .inr ?_;cases h <;> conv=>cbv
 ·have d:=Bm b;refine AY ?_;exact AM AQ
 have d:=Bp b;exact absurd d k
theorem uc (d:CF 16 [.agg (AK Ts As)] (AD 0)):CF 33 [.agg (AI Ta Aa Tb Ab),.agg (AK Ts As),AD 0] (AS (Cu 0 Bv Bv) 6):=by
 refine AN Tryz.func33 fun E b=>?_
 refine Bx ?_;refine AB b d ?_;refine Bx ?_;refine .inr ?_;refine Bx ?_;exact AM AQ
theorem fk (he:e≠0):CF 33 [.agg (AI Ta Aa Tb Ab),.agg (AK Ts As),AD e] (AS (Cu 0 Bv Bv) e):=by
 refine AN Tryz.func33 fun E h=>?_
 refine BV (fun d=>?_) fun d=>?_
 ·exact absurd d he
 refine .inr ?_;refine Ht (fun b=>?_) fun b=>?_
 ·exact absurd b he
 exact AM AQ
theorem ue:CF 31 [.agg (AI Ta Aa Tb Ab),AD 0] (AS [.int .i64 3,BC,BD,BC,BD,BC,BD,BC,BD,BC,BD,BC,BD,BC,BD,BC,BD,BA Ta,AU Aa,BA Tb,AU Ab] 0):=by
 refine AN Tryz.func31 fun E b=>?_
 refine AY ?_;exact AM AQ
theorem O3 (d:CF 109 [.agg (AI Tc Ac Td Ad),.agg (AI Ta Aa Tb Ab)] (AS (AI Tx Ax Ty Ay) f)):CF 38 [.agg (AI Ta Aa Tb Ab),.agg (AI Tc Ac Td Ad)] (.agg (AI Tx Ax Ty Ay)):=by
 refine AN Tryz.func38 fun E b=>?_
 refine AB b d ?_;exact AM AQ
theorem uu {Tz:List LR} {Az:LR} (h:CF 109 [.agg (AI Tc Ac Td Ad),.agg (AI Ta Aa Tb Ab)] (AS (AI Tx Ax Ty Ay) f)) (d:CF 119 [.agg (AI Tx Ax Ty Ay)] (AS (AK Tz Az) g)):CF 52 [.agg (AI Ta Aa Tb Ab),.agg (AI Tc Ac Td Ad)] (AS (AK Tz Az) g):=by
 refine AN Tryz.func52 fun E b=>?_
 refine AB b (O3 h) ?_;refine AB b d ?_;exact AM ⟨t3,t2,trivial⟩
theorem vA (h:CF 41 [.agg (AI Ta Aa Tb Ab),.agg (AI Tc Ac Td Ad)] (AS (Bu Tl Al Tm Am Tn An) 0)) (d:CF 109 [.agg (AI Tc Ac Td Ad),.agg (AI Ta Aa Tb Ab)] (AS (AI Tx Ax Ty Ay) f)):CF 35 [.agg (AI Ta Aa Tb Ab),.agg (AI Tc Ac Td Ad)] (AS [.int .i64 1,BA Tl,AU Al,BA Tm,AU Am,BA Tn,AU An,BA Tx,AU Ax,BA Ty,AU Ay,BC,BD,BC,BD,BC,BD,BC,BD,BC,BD] 0):=by
 refine AN Tryz.func35 fun E b=>?_
 refine AB b h ?_;refine AB b (O3 d) ?_;refine AB b NJ ?_;exact AM AQ
theorem uY (d:CF 108 [.agg (AI Ta Aa Tb Ab),.agg (AI Tc Ac Td Ad)] (AS (Bu Tl Al Tm Am Tn An) 0)):CF 43 [.agg (AI Ta Aa Tb Ab),.agg (AI Tc Ac Td Ad)] (AS [.int .i64 1,BA Tl,AU Al,BA Tm,AU Am,BA Tn,AU An,BA Tc,AU Ac,BA Td,AU Ad,BC,BD,BC,BD,BC,BD,BC,BD,BC,BD] 0):=by
 refine AN Tryz.func43 fun E b=>?_
 refine AB b d ?_;refine AB b NJ ?_;exact AM AQ
theorem vC (k:CF 191 [.agg (AI Ta Aa Tb Ab),.agg (AI Tc Ac Td Ad),.agg (AK Tt At)] (AS (Bu Tl Al Tm Am Tn An) 0)) (j:CF 117 [.agg (AI Tc Ac Td Ad)] (.agg (AI Tu Au Tv Av))) (h:CF 111 [.agg (AI Tu Au Tv Av),.agg (AK Tt At)] (AS (AI Tx Ax Ty Ay) f)) (d:CF 110 [.agg (AI Tc Ac Td Ad),.agg (AI Tx Ax Ty Ay)] (AS (AI Tp Ap Tq Aq) g)):CF 118 [.agg (AI Ta Aa Tb Ab),.agg (AI Tc Ac Td Ad),.agg (AK Tt At)] (AS [.int .i64 1,BA Tl,AU Al,BA Tm,AU Am,BA Tn,AU An,BA Tp,AU Ap,BA Tq,AU Aq,BC,BD,BC,BD,BC,BD,BC,BD,BC,BD] 0):=by
 refine AN Tryz.func118 fun E b=>?_
 refine AB b k ?_;refine AB b j ?_;refine AB b h ?_;refine AB b d ?_;refine AB b NJ ?_;exact AM AQ
theorem vB (he:e≠0) (h:CF 41 [.agg (AI Ta Aa Tb Ab),.agg (AI Tc Ac Td Ad)] (AS (Bu Tl Al Tm Am Tn An) e)) (d:CF 109 [.agg (AI Tc Ac Td Ad),.agg (AI Ta Aa Tb Ab)] (AS (AI Tx Ax Ty Ay) f)):CF 35 [.agg (AI Ta Aa Tb Ab),.agg (AI Tc Ac Td Ad)] (AS (Cu 0 Bv Bv) e):=by
 refine AN Tryz.func35 fun E b=>?_
 refine AB b h ?_;refine AB b (O3 d) ?_;refine AB b (O1 he) ?_;exact AM AQ
theorem uZ (he:e≠0) (d:CF 108 [.agg (AI Ta Aa Tb Ab),.agg (AI Tc Ac Td Ad)] (AS (Bu Tl Al Tm Am Tn An) e)):CF 43 [.agg (AI Ta Aa Tb Ab),.agg (AI Tc Ac Td Ad)] (AS (Cu 0 Bv Bv) e):=by
 refine AN Tryz.func43 fun E b=>?_
 refine AB b d ?_;refine AB b (O1 he) ?_;exact AM AQ
theorem vD (he:e≠0) (k:CF 191 [.agg (AI Ta Aa Tb Ab),.agg (AI Tc Ac Td Ad),.agg (AK Tt At)] (AS (Bu Tl Al Tm Am Tn An) e)) (j:CF 117 [.agg (AI Tc Ac Td Ad)] (.agg (AI Tu Au Tv Av))) (h:CF 111 [.agg (AI Tu Au Tv Av),.agg (AK Tt At)] (AS (AI Tx Ax Ty Ay) f)) (d:CF 110 [.agg (AI Tc Ac Td Ad),.agg (AI Tx Ax Ty Ay)] (AS (AI Tp Ap Tq Aq) g)):CF 118 [.agg (AI Ta Aa Tb Ab),.agg (AI Tc Ac Td Ad),.agg (AK Tt At)] (AS (Cu 0 Bv Bv) e):=by
 refine AN Tryz.func118 fun E b=>?_
 refine AB b k ?_;refine AB b j ?_;refine AB b h ?_;refine AB b d ?_;refine AB b (O1 he) ?_;exact AM AQ
theorem ud (j:CF 109 [.agg (AI Ta Aa Tb Ab),.agg (AI Tc Ac Td Ad)] (AS (AI Tx Ax Ty Ay) f)) (h:CF 112 [.agg (AI Ta Aa Tb Ab)] (.agg (AI Tu Au Tv Av))) (d:CF 109 [.agg (AI Tx Ax Ty Ay),.agg (AI Tu Au Tv Av)] (AS (AI Tp Ap Tq Aq) g)):CF 40 [.agg (AI Ta Aa Tb Ab),.agg (AI Tc Ac Td Ad)] (AS (AI Tp Ap Tq Aq) g):=by
 refine AN Tryz.func40 fun E b=>?_
 refine AB b (O3 j) ?_;refine AB b h ?_;refine AB b d ?_;exact AM AQ
theorem fp {p:Int} {p0:Nat} {x y:el AR} (h:Ah p p0) (hb:p0<=1000000) (j:cr[2*p0]? =some x) (k:cr[2*p0+1]? =some y):CF 30 [.one (.sl AR cr),AD p] (.agg (AI x.1 x.2 y.1 y.2)):=by
 have n:=h.eq;refine AN Tryz.func30 fun E q=>?_
 intro r o;refine Cj j ?_;intro l b m d;refine Cj k ?_;exact AM AQ
theorem NK {i t a b c:Int} {i0:Nat} (m:Ah i i0) (hb:i0<=1000) (h:P[i0]? =some a) (l:P[i0+1]? =some b) (j:c=if a=t then b else a):CF 34 [.agg (cC kd P C V sd),AD i,AD t] (AD c):=by
 have o:=m.eq;refine AN Tryz.func34 fun E p=>?_
 refine Cj h ?_;refine CU (fun d=>?_) fun d=>?_
 ·refine Cj h ?_;exact AO (by rw[j,if_neg d])
 intro n k;refine Cj l ?_;exact AO (by rw[j,if_pos d])
def IZ (Dc:Int) (s:Int->Int) (c:Int):Bool:=decide (c=Dc)||decide (0<s c)
theorem So {q:Int->Bool} {i:Nat} {x:Int} (h:C[i]? =some x):(C.drop i).all q=(q x&&(C.drop (i+1)).all q):=by
 have b:=Dh h;rw[List.drop_eq_getElem_cons b,List.all_cons];rw[List.getElem?_eq_getElem b] at h;rw[Option.some.inj h]
theorem uh {AG Dc:Int} {s:Int->Int} {b:Bool} (R:0<=AG/\AG<=1000000) (h:∀c∈C,c≠Dc->(0<=c/\c<=1000000)/\∃x:el AR,cr[(2*AG+c).toNat]? =some x/\CF 16 [.agg (AK x.1 x.2)] (AD (s c))) (hb:b=C.all (IZ Dc s)):CF 29 [.agg (cC kd P C V sd),AD AG,AD Dc,.one (.sl AR cr)] (.one (.bool b)):=by
 refine AN Tryz.func29 fun E A=>?_
 refine Bc [] [1,2,3,4,9] [4] (fun vs v k=>∃(i':Nat) (i:Int),vs=[AD AG,AD Dc,.one (.sl AR cr),.one (.BX 4 0 0),AD i]/\v=[.var 0 (cC kd P C V sd)]/\(Ah i i'/\i'<=C.length)/\b=(C.drop i').all (IZ Dc s)/\k=C.length-i') (C.length-0) ⟨0,0,rfl,rfl,⟨BJ 0,AA⟩,hb,rfl⟩ ?_;rintro N n vs v I ⟨i',i,rfl,rfl,⟨F,G⟩,hinv,H⟩;have O:=F.eq;refine Ak ?_;rintro J ⟨w,f13⟩;refine Bt (fun r=>?_) fun r=>?_
 ·exact AO (by rw[hinv,List.drop_eq_nil_of_le AA];rfl)
 refine .inr ?_;refine BH i' fun j d=>?_
 try conv=>cbv
 refine Ht (fun l=>?_) fun l=>?_
 ·intro m q;exact Bz n ⟨i'+1,m,rfl,rfl,⟨⟨AA⟩,AA⟩,hinv.trans ((So d).trans (by rw[show IZ Dc s j=true by unfold IZ;rw[decide_eq_true l,Bool.true_or]];rfl)),rfl⟩
 obtain⟨⟨B,D⟩,M,o,p⟩:=h j (List.mem_of_getElem? d) l;refine AP ?_;intro K y;refine Cj d ?_;intro L z;refine Cj o ?_;refine AB A p ?_;refine ft (fun u=>?_) fun u=>?_
 ·exact AO (by rw[hinv,So d,show IZ Dc s j=false by unfold IZ;rw[decide_eq_false l,decide_eq_false (AA:¬0<s j)];rfl];rfl)
 intro m q;exact Bz n ⟨i'+1,m,rfl,rfl,⟨⟨AA⟩,AA⟩,hinv.trans ((So d).trans (by rw[show IZ Dc s j=true by unfold IZ;rw[decide_eq_true (AA:0<s j),Bool.or_true]];rfl)),rfl⟩
end
section
variable {Aa Ab Ac Ad Ax Ay:LR} {C P:List Int} {Q:List (el CV)} {Ta Tb Tc Td Tx Ty:List LR} {V:List Ex} {cr nl:List (el AR)} {e k1 kd pa pb sd t:Int} {x2 x3:el CV}
theorem vE {tg:Nat->List LR} {ag:Nat->LR} (z:5<=kd/\kd<=8) (c1:CF 99 [.agg (cC kd P C V sd),AD 0,AD t] (.one (.bool true))) (c2:CF 99 [.agg (cC kd P C V sd),AD 2,AD t] (.one (.bool true))) (c3:CF 34 [.agg (cC kd P C V sd),AD 0,AD t] (AD pa)) (p:CF 34 [.agg (cC kd P C V sd),AD 2,AD t] (AD pb)) (q:CF 30 [.one (.sl AR cr),AD pa] (.agg (AI Ta Aa Tb Ab))) (r:CF 30 [.one (.sl AR cr),AD pb] (.agg (AI Tc Ac Td Ad))) (s:kd=5->∃(n0:el AR) (Tu:List LR) (Au:LR) (Tv:List LR) (Av:LR) (Ts:List LR) (As:LR) (f:Int),nl[0]? =some n0/\CF 115 [.agg (AI Ta Aa Tb Ab),.agg (AI Tc Ac Td Ad),.agg (AK n0.1 n0.2)] (AS (Bu Tu Au Tv Av Ts As) f)/\CF 33 [.agg (AI Tu Au Tv Av),.agg (AK Ts As),AD f] (Dr k1 tg ag e)) (u:kd=6->CF 35 [.agg (AI Ta Aa Tb Ab),.agg (AI Tc Ac Td Ad)] (Dr k1 tg ag e)) (w:kd=8->∃(Tl:List LR) (Al:LR) (Tm:List LR) (Am:LR) (Tn:List LR) (An:LR) (Tx:List LR) (Ax:LR) (Ty:List LR) (Ay:LR) (Tu:List LR) (Au:LR) (Tv:List LR) (Av:LR) (f:Int),CF 116 [.agg (AI Ta Aa Tb Ab),.agg (AI Tc Ac Td Ad)] (AS (Bu Tl Al Tm Am Tn An) f)/\CF 38 [.agg (AI Ta Aa Tb Ab),.agg (AI Tc Ac Td Ad)] (.agg (AI Tx Ax Ty Ay))/\CF 117 [.agg (AI Tx Ax Ty Ay)] (.agg (AI Tu Au Tv Av))/\CF 37 [.agg (Bu Tl Al Tm Am Tn An),.agg (AI Tu Au Tv Av),AD f] (Dr k1 tg ag e)) (v:kd=7->∃d:Bool,CF 20 [.agg (AI Ta Aa Tb Ab),.agg (AI Tc Ac Td Ad)] (.one (.bool d))/\(d=true->(k1=0/\tg=(fun _=>[])/\ag=fun _=>[])/\e=11)/\(d=false->∃(Tu:List LR) (Au:LR) (Tv:List LR) (Av:LR) (Ts:List LR) (As:LR) (f:Int) (g:Int),CF 39 [.agg (AI Ta Aa Tb Ab),.agg (AI Tc Ac Td Ad)] (AS (AI Tu Au Tv Av) f)/\CF 52 [.agg (AI Ta Aa Tb Ab),.agg (AI Tu Au Tv Av)] (AS (AK Ts As) g)/\CF 33 [.agg (AI Tu Au Tv Av),.agg (AK Ts As),AD g] (Dr k1 tg ag e))):CF 46 [.agg (cC kd P C V sd),.one (.sl AR nl),AD t,.one (.sl CV Q),.one (.sl AR cr)] (AS (Cu k1 tg ag) e):=by
 refine AN Tryz.func46 fun E b=>?_
 refine AB b c1 ?_;refine AB b c2 ?_;refine AB b c3 ?_;refine AB b q ?_;refine AB b p ?_;refine AB b r ?_;refine .inr ?_;refine BV (fun k=>?_) fun k=>?_
 ·obtain⟨n0,Tu,Au,Tv,Av,Ts,As,f,q0,h,j⟩:=s k;refine⟨n0,fun _=>⟨AA,q0⟩,?_⟩;try conv=>cbv
  refine AB b h ?_;refine AB b j ?_;exact AM AQ
 refine BV (fun l=>?_) fun l=>?_
 ·refine AB b ((u l)) ?_;exact AM AQ
 refine BV (fun m=>?_) fun m=>?_
 ·obtain⟨Tl,Al,Tm,Am,Tn,An,Tx,Ax,Ty,Ay,Tu,Au,Tv,Av,f,h,j,h3,o⟩:=w m;refine AB b h ?_;refine AB b j ?_;refine AB b h3 ?_;refine AB b o ?_;exact AM AQ
 obtain⟨d,h,y,n⟩:=v AA;refine AB b h ?_;cases d <;> conv=>cbv
 ·obtain⟨Tu,Au,Tv,Av,Ts,As,f,g,j,h3,o⟩:=n rfl;refine AB b j ?_;refine AB b h3 ?_;refine AB b o ?_;exact AM AQ
 obtain⟨⟨rfl,rfl,rfl⟩,rfl⟩:=y rfl;exact AM AQ
theorem vF {tg:Nat->List LR} {ag:Nat->LR} (v:5<=kd/\kd<=8) (c1:CF 99 [.agg (cC kd P C V sd),AD 0,AD t] (.one (.bool true))) (c2:CF 99 [.agg (cC kd P C V sd),AD 2,AD t] (.one (.bool false))) (c3:CF 34 [.agg (cC kd P C V sd),AD 0,AD t] (AD pa)) (m:CF 34 [.agg (cC kd P C V sd),AD 2,AD t] (AD pb)) (n:CF 30 [.one (.sl AR cr),AD pa] (.agg (AI Ta Aa Tb Ab))) (o:CF 30 [.one (.sl AR cr),AD pb] (.agg (AI Tc Ac Td Ad))) (g2:Q[2]? =some x2) (p:Q[3]? =some x3) (cw:CF 38 [.agg (AI x2.1.1 x2.1.2 x2.2.1 x2.2.2),.agg (AI x3.1.1 x3.1.2 x3.2.1 x3.2.2)] (.agg (AI Tx Ax Ty Ay))) (q:kd=5->∃(n0:el AR) (Tm:List LR) (Am:LR),nl[0]? =some n0/\CF 17 [.agg (AK n0.1 n0.2)] (.agg (AK Tm Am))/\CF 118 [.agg (AI Ta Aa Tb Ab),.agg (AI Tx Ax Ty Ay),.agg (AK Tm Am)] (Dr k1 tg ag e)) (r:kd=6->CF 43 [.agg (AI Ta Aa Tb Ab),.agg (AI Tx Ax Ty Ay)] (Dr k1 tg ag e)) (s:kd=7->∃(Tu:List LR) (Au:LR) (Tv:List LR) (Av:LR),CF 117 [.agg (AI Tx Ax Ty Ay)] (.agg (AI Tu Au Tv Av))/\CF 43 [.agg (AI Ta Aa Tb Ab),.agg (AI Tu Au Tv Av)] (Dr k1 tg ag e)) (u:kd=8->∃(Ts:List LR) (As:LR) (f:Int),CF 119 [.agg (AI Tx Ax Ty Ay)] (AS (AK Ts As) f)/\CF 33 [.agg (AI Ta Aa Tb Ab),.agg (AK Ts As),AD f] (Dr k1 tg ag e)):CF 46 [.agg (cC kd P C V sd),.one (.sl AR nl),AD t,.one (.sl CV Q),.one (.sl AR cr)] (AS (Cu k1 tg ag) e):=by
 refine AN Tryz.func46 fun E b=>?_
 refine AB b c1 ?_;refine AB b c2 ?_;refine AB b c3 ?_;refine AB b n ?_;refine AB b m ?_;refine AB b o ?_;refine⟨x2,fun _=>⟨AA,g2⟩,?_⟩;try conv=>cbv
 refine⟨x3,fun _=>⟨AA,p⟩,?_⟩;try conv=>cbv
 refine AB b cw ?_;refine .inr ?_;refine .inr ?_;refine BV (fun d=>?_) fun d=>?_
 ·obtain⟨n0,Tm,Am,q0,k,l⟩:=q d;refine⟨n0,fun _=>⟨AA,q0⟩,?_⟩;try conv=>cbv
  refine .inr ?_;refine AB b k ?_;refine AB b l ?_;exact AM AQ
 refine BV (fun h=>?_) fun h=>?_
 ·refine AB b ((r h)) ?_;exact AM AQ
 refine CU (fun j=>?_) fun j=>?_
 ·obtain⟨Ts,As,f,k,l⟩:=u AA;refine AB b k ?_;refine AB b l ?_;exact AM AQ
 obtain⟨Tu,Au,Tv,Av,k,l⟩:=s j;refine AB b k ?_;refine AB b l ?_;exact AM AQ
theorem vG {tg:Nat->List LR} {ag:Nat->LR} (w:5<=kd/\kd<=8) (c1:CF 99 [.agg (cC kd P C V sd),AD 0,AD t] (.one (.bool false))) (c2:CF 99 [.agg (cC kd P C V sd),AD 2,AD t] (.one (.bool true))) (c3:CF 34 [.agg (cC kd P C V sd),AD 0,AD t] (AD pa)) (n:CF 34 [.agg (cC kd P C V sd),AD 2,AD t] (AD pb)) (o:CF 30 [.one (.sl AR cr),AD pa] (.agg (AI Ta Aa Tb Ab))) (p:CF 30 [.one (.sl AR cr),AD pb] (.agg (AI Tc Ac Td Ad))) (g2:Q[2]? =some x2) (q:Q[3]? =some x3) {k x1:el CV} {Tw Tz:List LR} {Aw Az:LR} (g0:Q[0]? =some k) (g1:Q[1]? =some x1) (cw:CF 38 [.agg (AI x2.1.1 x2.1.2 x2.2.1 x2.2.2),.agg (AI x3.1.1 x3.1.2 x3.2.1 x3.2.2)] (.agg (AI Tw Aw Tz Az))) (cv:CF 38 [.agg (AI k.1.1 k.1.2 k.2.1 k.2.2),.agg (AI x1.1.1 x1.1.2 x1.2.1 x1.2.2)] (.agg (AI Tx Ax Ty Ay))) (r:kd=5->∃(n0:el AR),nl[0]? =some n0/\CF 118 [.agg (AI Tc Ac Td Ad),.agg (AI Tx Ax Ty Ay),.agg (AK n0.1 n0.2)] (Dr k1 tg ag e)) (s:kd=6->CF 43 [.agg (AI Tc Ac Td Ad),.agg (AI Tx Ax Ty Ay)] (Dr k1 tg ag e)) (u:kd=7->∃(Tu:List LR) (Au:LR) (Tv:List LR) (Av:LR),CF 117 [.agg (AI Tx Ax Ty Ay)] (.agg (AI Tu Au Tv Av))/\CF 43 [.agg (AI Tc Ac Td Ad),.agg (AI Tu Au Tv Av)] (Dr k1 tg ag e)) (v:kd=8->∃(Ts:List LR) (As:LR) (f:Int),CF 119 [.agg (AI Tx Ax Ty Ay)] (AS (AK Ts As) f)/\CF 33 [.agg (AI Tc Ac Td Ad),.agg (AK Ts As),AD f] (Dr k1 tg ag e)):CF 46 [.agg (cC kd P C V sd),.one (.sl AR nl),AD t,.one (.sl CV Q),.one (.sl AR cr)] (AS (Cu k1 tg ag) e):=by
 refine AN Tryz.func46 fun E b=>?_
 refine AB b c1 ?_;refine AB b c2 ?_;refine AB b c3 ?_;refine AB b o ?_;refine AB b n ?_;refine AB b p ?_;refine⟨x2,fun _=>⟨AA,g2⟩,?_⟩;try conv=>cbv
 refine⟨x3,fun _=>⟨AA,q⟩,?_⟩;try conv=>cbv
 refine AB b cw ?_;refine .inr ?_;refine⟨k,fun _=>⟨AA,g0⟩,?_⟩;try conv=>cbv
 refine⟨x1,fun _=>⟨AA,g1⟩,?_⟩;try conv=>cbv
 refine AB b cv ?_;refine .inr ?_;refine BV (fun d=>?_) fun d=>?_
 ·obtain⟨n0,q0,l⟩:=r d;refine⟨n0,fun _=>⟨AA,q0⟩,?_⟩;try conv=>cbv
  refine .inr ?_;refine AB b l ?_;exact AM AQ
 refine BV (fun h=>?_) fun h=>?_
 ·refine AB b ((s h)) ?_;exact AM AQ
 refine CU (fun j=>?_) fun j=>?_
 ·obtain⟨Ts,As,f,m,l⟩:=v AA;refine AB b m ?_;refine AB b l ?_;exact AM AQ
 obtain⟨Tu,Au,Tv,Av,m,l⟩:=u j;refine AB b m ?_;refine AB b l ?_;exact AM AQ
end
section
def kP (k:Int) (L:List Int) (c0 c1:Bool):Int:=
 if k=13 then (if (decide ((L.length:Int)>0) !=c0)=true then 2 else 0)
 else if k=16 then (if c0=true/\L.length=0 then 1 else 0)
 else if k=17 then (if (c0 !=c1)=true then 2 else 0)
 else if L.length=0 then 0
 else if k=1\/k=9 then 3 else if k=2 then 2 else if k=3\/k=6\/k=11\/k=12 then 1
 else if k=4 then (if L.getD 0 0=0 then 1 else 0) else if k=10 then (if L.getD 0 0<2 then 3 else 0)
 else if k=5\/k=7 then (if L.length=2 then 2 else 1) else if k=8 then (if L.length=2 then 1 else 2) else 0
def EZ (h h2:Bool) (x y:Int):Int:=if h=true/\h2=true then y else if h=true\/h2=true then x else 0
def kF (k:Int) (a p0 h h2 c0 c1:Bool):Int:=
 if k=1\/k=9 then (if a=true then 1 else 0) else if k=2 then (if a=true then 2 else 0)
 else if k=3\/k=11\/k=12 then (if a=true then 3 else 0) else if k=4 then (if p0=true then 3 else 0)
 else if k=5\/k=7 then EZ h h2 3 2 else if k=6 then EZ h h2 3 3 else if k=8 then EZ h h2 2 3
 else if k=10 then (if h=true then 1 else 0) else if k=13 then (if (a !=c0)=true then 2 else 0)
 else if k=16 then (if a=false/\c0=true then 3 else 0) else if k=17 then (if (c0 !=c1)=true then 2 else 0) else 0
def kD (f:Int):Int:=if f=1 then 3 else if f=2 then 2 else if f=3 then 1 else 0
variable {C P AE:List Int} {V:List Ex} {a:Bool} {c kd sd:Int}
theorem VN {b:Bool} {x y:Int} (d:0<=x/\x<4) (h:0<=y/\y<4):0<=EZ a b x y/\EZ a b x y<4:=by unfold EZ;split <;> (try split) <;> omega
theorem n3 {k f:Int} {p0 h d c0 c1:Bool} (hf:f=kF k a p0 h d c0 c1):0<=f/\f<4:=by
 rw[hf];unfold kF;have j:=VN (a:=h) (b:=d) (x:=3) (y:=2) AA AA;have l:=VN (a:=h) (b:=d) (x:=3) (y:=3) AA AA;have m:=VN (a:=h) (b:=d) (x:=2) (y:=3) AA AA
 repeat' (first | exact j | exact l | exact m | omega | split)
def sP (k s i:Int) (n:Bool) (c0 c1:Int):Bool:=
 if i<0 then false else if k=14\/k=15 then true else if k=13\/k=16 then !n else if k=17 then (s==1)&&(c0 !=c1) else false
theorem Zs (t:Int):∀(l:List Int) (i:Nat),¬Co t l i<0->t∈l
 | [],i,h=>absurd (by rw[Co];decide) h
 | p::r,i,h=>by
  rw[Co] at h
  by_cases e:t=p
  ·rw[e];exact List.mem_cons_self
  rw[if_neg e] at h;exact List.mem_cons_of_mem _ (Zs t r (i+1) h)
theorem Zv {n t:Int} {l:List Int} (h:EW n l=true) (b:¬Co t l 0<0):0<=t/\t<n:=of_decide_eq_true (List.all_eq_true.1 h t (Zs t l 0 b))
theorem NQ {t:Int} (hP:P.length<=1000000) (hC:EW (AE.length:Nat) C=true) (h1:kd=13\/kd=16->1<=C.length) (h2:kd=17->2<=C.length) (q:c=kP kd (C3 t P 0) (E6 AE C t 0) (E6 AE C t 1)):CF 22 [.agg (cC kd P C V sd),.one (.sl .i64 AE),AD t] (AD c):=by
 obtain⟨R,hR⟩:∃z:List Int,z=C3 t P 0:=⟨_,rfl⟩
 rw[<-hR] at q;refine AN Tryz.func22 fun E hE=>?_
 refine AB hE (RI hP hR) ?_;refine .inr ?_;refine BV (fun d=>?_) fun d=>?_
 ·rintro aC ⟨U,f18⟩ aD W;obtain⟨ad,D⟩:=xB (E6 AE C t 0);refine .inr (.inl ⟨[AD 0,.one (.DL (.sl .i64) AE 0),.one (.DL (.pr .i64 (.pr (.sl .i64) (.pr (.sl .i64) (.pr (.sl .ex) .i64)))) (kd,P,C,V,sd) 0),.one (.DL .i64 t 0)],.one (.bool ad),fun _=>⟨rfl,⟨rfl,(.sl .i64),AE,rfl,rfl⟩,⟨rfl,(.pr .i64 (.pr (.sl .i64) (.pr (.sl .i64) (.pr (.sl .ex) .i64)))),(kd,P,C,V,sd),rfl,rfl⟩,⟨rfl,.i64,t,rfl,rfl⟩,trivial⟩,fun _=>GX hE (Qi (BJ 0) AA hC D),?_⟩);refine Ak ?_;intro an H;cases an <;> conv=>cbv
  ·have ah:=MA H;exact AO (by rw[q];unfold kP;rw[<-U,<-W,<-D,<-H];simp[d])
  have ah:=MB H;exact AO (by rw[q];unfold kP;rw[<-U,<-W,<-D,<-H];simp[d])
 refine BV (fun h=>?_) fun h=>?_
 ·obtain⟨T,y⟩:=xB (E6 AE C t 0);refine .inr (.inl ⟨[AD 0,.one (.DL (.sl .i64) AE 0),.one (.DL (.pr .i64 (.pr (.sl .i64) (.pr (.sl .i64) (.pr (.sl .ex) .i64)))) (kd,P,C,V,sd) 0),.one (.DL .i64 t 0)],.one (.bool T),fun _=>⟨rfl,⟨rfl,(.sl .i64),AE,rfl,rfl⟩,⟨rfl,(.pr .i64 (.pr (.sl .i64) (.pr (.sl .i64) (.pr (.sl .ex) .i64)))),(kd,P,C,V,sd),rfl,rfl⟩,⟨rfl,.i64,t,rfl,rfl⟩,trivial⟩,fun _=>GX hE (Qi (BJ 0) AA hC y),?_⟩);try conv=>cbv
  cases T <;> conv=>cbv
  ·exact AO (by rw[q];unfold kP;rw[<-y];simp[d,h])
  rintro aE ⟨az,f29⟩;conv=>cbv
  refine CU (fun ai=>?_) fun ai=>?_
  ·have b:¬R.length=0:=AA
   exact AO (by rw[q];unfold kP;rw[<-y];simp[d,h,b])
  have b:R.length=0:=AA
  exact AO (by rw[q];unfold kP;rw[<-y];simp[d,h,b])
 refine BV (fun j=>?_) fun j=>?_
 ·obtain⟨ae,F⟩:=xB (E6 AE C t 0);refine .inr (.inl ⟨[AD 0,.one (.DL (.sl .i64) AE 0),.one (.DL (.pr .i64 (.pr (.sl .i64) (.pr (.sl .i64) (.pr (.sl .ex) .i64)))) (kd,P,C,V,sd) 0),.one (.DL .i64 t 0)],.one (.bool ae),fun _=>⟨rfl,⟨rfl,(.sl .i64),AE,rfl,rfl⟩,⟨rfl,(.pr .i64 (.pr (.sl .i64) (.pr (.sl .i64) (.pr (.sl .ex) .i64)))),(kd,P,C,V,sd),rfl,rfl⟩,⟨rfl,.i64,t,rfl,rfl⟩,trivial⟩,fun _=>GX hE (Qi (BJ 0) AA hC F),?_⟩);try conv=>cbv
  obtain⟨af,G⟩:=xB (E6 AE C t 1);refine .inr (.inl ⟨[AD 1,.one (.DL (.sl .i64) AE 0),.one (.DL (.pr .i64 (.pr (.sl .i64) (.pr (.sl .i64) (.pr (.sl .ex) .i64)))) (kd,P,C,V,sd) 0),.one (.DL .i64 t 0)],.one (.bool af),fun _=>⟨rfl,⟨rfl,(.sl .i64),AE,rfl,rfl⟩,⟨rfl,(.pr .i64 (.pr (.sl .i64) (.pr (.sl .i64) (.pr (.sl .ex) .i64)))),(kd,P,C,V,sd),rfl,rfl⟩,⟨rfl,.i64,t,rfl,rfl⟩,trivial⟩,fun _=>GX hE (Qi (BJ 1) AA hC G),?_⟩);refine Ak ?_;intro ao I;cases ao <;> conv=>cbv
  ·have aj:=MA I;exact AO (by rw[q];unfold kP;rw[<-F,<-G,<-I];simp[d,h,j])
  have aj:=MB I;exact AO (by rw[q];unfold kP;rw[<-F,<-G,<-I];simp[d,h,j])
 intro aF X;have aA:=X.eq;have f40:=X.le;refine BV (fun ak=>?_) fun ak=>?_
 ·have b:R.length=0:=AA
  exact AO (by rw[q];unfold kP;simp[d,h,j,b])
 refine .inr ?_;intro aq Y;conv=>cbv
 refine .inr ?_;cases aq <;> conv=>cbv
 ·have k:=Bm Y;refine BV (fun l=>?_) fun l=>?_
  ·have b:¬R.length=0:=AA
   exact AO (by rw[q];unfold kP;simp[d,h,j,k,l,b])
  refine BV (fun m=>?_) fun m=>?_
  ·have b:¬R.length=0:=AA
   exact AO (by rw[q];unfold kP;simp[d,h,j,k,l,m,b])
  intro ar Z;refine .inr ?_;cases ar <;> conv=>cbv
  ·have n:=Bm Z;intro Eh a1;conv=>cbv
   refine .inr ?_;cases Eh <;> conv=>cbv
   ·have o:=Bm a1;intro au a2;conv=>cbv
    refine .inr ?_;cases au <;> conv=>cbv
    ·have p:=Bm a2;refine BV (fun r=>?_) fun r=>?_
     ·have b:¬R.length=0:=AA
      exact AO (by rw[q];unfold kP;simp[d,h,j,k,l,m,n,o,p,r,b])
     intro av a5;refine .inr ?_;cases av <;> conv=>cbv
     ·have s:=Bm a5;intro aw a6;conv=>cbv
      refine .inr ?_;cases aw <;> conv=>cbv
      ·have v:=Bm a6;intro ax a7;conv=>cbv
       refine .inr ?_;cases ax <;> conv=>cbv
       ·have w:=Bm a7;refine BV (fun A=>?_) fun A=>?_
        ·intro ay B;have ag:=B.eq;have f70:=B.le;refine CU (fun S=>?_) fun S=>?_
         ·have b:¬R.length=0:=AA
          have u:¬R.length=2:=AA
          exact AO (by rw[q];unfold kP;simp[d,h,j,k,l,m,n,o,p,r,s,v,w,A,b,u])
         have b:¬R.length=0:=AA
         have u:R.length=2:=AA
         exact AO (by rw[q];unfold kP;simp[d,h,j,k,l,m,n,o,p,r,s,v,w,A,b,u])
        refine CU (fun J=>?_) fun J=>?_
        ·have b:¬R.length=0:=AA
         exact AO (by rw[q];unfold kP;simp[d,h,j,k,l,m,n,o,p,r,s,v,w,A,J,b])
        intro aG a8;have aB:=a8.eq;have f75:=a8.le;refine CU (fun al=>?_) fun al=>?_
        ·have b:¬R.length=0:=AA
         have u:¬R.length=2:=AA
         exact AO (by rw[q];unfold kP;simp[d,h,j,k,l,m,n,o,p,r,s,v,w,A,J,b,u])
        have b:¬R.length=0:=AA
        have u:R.length=2:=AA
        exact AO (by rw[q];unfold kP;simp[d,h,j,k,l,m,n,o,p,r,s,v,w,A,J,b,u])
       have w:=Bp a7;intro ay B;have ag:=B.eq;have f70:=B.le;conv=>cbv
       refine CU (fun S=>?_) fun S=>?_
       ·have b:¬R.length=0:=AA
        have u:¬R.length=2:=AA
        exact AO (by rw[q];unfold kP;simp[d,h,j,k,l,m,n,o,p,r,s,v,w,b,u])
       have b:¬R.length=0:=AA
       have u:R.length=2:=AA
       exact AO (by rw[q];unfold kP;simp[d,h,j,k,l,m,n,o,p,r,s,v,w,b,u])
      have v:=Bp a6;refine BH 0 fun ab L=>?_
      try conv=>cbv
      refine Bt (fun O=>?_) fun O=>?_
      ·have b:¬R.length=0:=AA
       have M:R[0]? =some ab:=L;exact AO (by rw[q];unfold kP;simp[d,h,j,k,l,m,n,o,p,r,s,v,b,M,O])
      have b:¬R.length=0:=AA
      have M:R[0]? =some ab:=L;exact AO (by rw[q];unfold kP;simp[d,h,j,k,l,m,n,o,p,r,s,v,b,M,O])
     have s:=Bp a5;refine BH 0 fun aa K=>?_
     try conv=>cbv
     refine CU (fun N=>?_) fun N=>?_
     ·have b:¬R.length=0:=AA
      have M:R[0]? =some aa:=K;exact AO (by rw[q];unfold kP;simp[d,h,j,k,l,m,n,o,p,r,s,b,M,N])
     have b:¬R.length=0:=AA
     have M:R[0]? =some aa:=K;exact AO (by rw[q];unfold kP;simp[d,h,j,k,l,m,n,o,p,r,s,b,M,N])
    have p:=Bp a2;have b:¬R.length=0:=AA
    exact AO (by rw[q];unfold kP;simp[d,h,j,k,l,m,n,o,p,b])
   have o:=Bp a1;have b:¬R.length=0:=AA
   exact AO (by rw[q];unfold kP;simp[d,h,j,k,l,m,n,o,b])
  have n:=Bp Z;have b:¬R.length=0:=AA
  exact AO (by rw[q];unfold kP;simp[d,h,j,k,l,m,n,b])
 have k:=Bp Y;have b:¬R.length=0:=AA
 exact AO (by rw[q];unfold kP;simp[d,h,j,k,b])
theorem mc {t:Int} (hP:P.length<=1000000) (hC:EW (AE.length:Nat) C=true) (h1:kd=13\/kd=16->1<=C.length) (h2:kd=17->2<=C.length) (h3:kd=4->1<=P.length) (h4:kd=5\/kd=6\/kd=7\/kd=8->P.length=4) (h5:kd=10->2<=P.length) (q:c=kF kd (By P t) (P.getD 0 0==t) (hasB P t 0) (hasB P t 2) (E6 AE C t 0) (E6 AE C t 1)):CF 28 [.agg (cC kd P C V sd),.one (.sl .i64 AE),AD t] (AD c):=by
 refine AN Tryz.func28 fun E H=>?_
 obtain⟨z,b⟩:=xB (By P t);refine AB H (UT b) ?_;refine .inr ?_;intro an T;conv=>cbv
 refine .inr ?_;cases an <;> conv=>cbv
 ·have d:=Bm T;intro ao U;conv=>cbv
  refine .inr ?_;cases ao <;> conv=>cbv
  ·have h:=Bm U;intro aq W;conv=>cbv
   refine .inr ?_;cases aq <;> conv=>cbv
   ·have j:=Bm W;intro ar X;conv=>cbv
    refine .inr ?_;cases ar <;> conv=>cbv
    ·have k:=Bm X;intro au Y;conv=>cbv
     refine .inr ?_;cases au <;> conv=>cbv
     ·have l:=Bm Y;intro av Z;conv=>cbv
      refine .inr ?_;cases av <;> conv=>cbv
      ·have m:=Bm Z;intro aw a1;conv=>cbv
       refine .inr ?_;cases aw <;> conv=>cbv
       ·have n:=Bm a1;intro ax a2;conv=>cbv
        refine .inr ?_;cases ax <;> conv=>cbv
        ·have o:=Bm a2;refine BV (fun p=>?_) fun p=>?_
         ·obtain⟨aF,w⟩:=xI (EZ (hasB P t 0) (hasB P t 2) 3 2);refine AB H (RH AA w) ?_;exact AO (by rw[q];unfold kF;rw[<-b,<-w];simp[d,h,j,k,l,m,n,o,p])
         refine BV (fun r=>?_) fun r=>?_
         ·obtain⟨aG,L⟩:=xI (EZ (hasB P t 0) (hasB P t 2) 3 3);refine AB H (RH AA L) ?_;exact AO (by rw[q];unfold kF;rw[<-b,<-L];simp[d,h,j,k,l,m,n,o,p,r])
         refine BV (fun s=>?_) fun s=>?_
         ·obtain⟨aH,M⟩:=xI (EZ (hasB P t 0) (hasB P t 2) 2 3);refine AB H (RH AA M) ?_;exact AO (by rw[q];unfold kF;rw[<-b,<-M];simp[d,h,j,k,l,m,n,o,p,r,s])
         intro ay a5;refine .inr ?_;cases ay <;> conv=>cbv
         ·have u:=Bm a5;intro az a6;conv=>cbv
          refine .inr ?_;cases az <;> conv=>cbv
          ·have v:=Bm a6;intro aB aa;conv=>cbv
           refine .inr ?_;cases aB <;> conv=>cbv
           ·have y:=Bm aa;intro aD ab;conv=>cbv
            refine .inr ?_;cases aD <;> conv=>cbv
            ·have K:=Bm ab;exact AO (by rw[q];unfold kF;rw[<-b];simp[d,h,j,k,l,m,n,o,p,r,s,u,v,y,K])
            have K:=Bp ab;obtain⟨aK,F⟩:=xI (CG AE C 0);refine AB H (Gv (BJ 0) AA hC F) ?_;intro ah ad;obtain⟨aL,G⟩:=xI (CG AE C 1);refine AB H (Gv (BJ 1) AA hC G) ?_;intro ai ae aE af;cases aE <;> conv=>cbv
            ·have S:=MA af;exact AO (by rw[q];unfold kF;rw[<-b,show E6 AE C t 0=ah from (by show (CG AE C 0==t)=_;rw[<-F,<-ad]),show E6 AE C t 1=ai from (by show (CG AE C 1==t)=_;rw[<-G,<-ae])];simp[d,h,j,k,l,m,n,o,p,r,s,u,v,y,K,S])
            have S:=MB af;exact AO (by rw[q];unfold kF;rw[<-b,show E6 AE C t 0=ah from (by show (CG AE C 0==t)=_;rw[<-F,<-ad]),show E6 AE C t 1=ai from (by show (CG AE C 1==t)=_;rw[<-G,<-ae])];simp[d,h,j,k,l,m,n,o,p,r,s,u,v,y,K,S])
           have y:=Bp aa;refine O5 (fun J=>?_) fun J=>?_
           ·exact AO (by rw[q];unfold kF;rw[<-b];simp[d,h,j,k,l,m,n,o,p,r,s,u,v,y,J])
           obtain⟨aJ,D⟩:=xI (CG AE C 0);refine AB H (Gv (BJ 0) AA hC D) ?_;intro aC I;cases aC <;> conv=>cbv
           ·have al:=Bm I;exact AO (by rw[q];unfold kF;rw[<-b,show E6 AE C t 0=false from (by show (CG AE C 0==t)=_;rw[<-D,<-I])];simp[d,h,j,k,l,m,n,o,p,r,s,u,v,y,J])
           have al:=Bp I;exact AO (by rw[q];unfold kF;rw[<-b,show E6 AE C t 0=true from (by show (CG AE C 0==t)=_;rw[<-D,<-I])];simp[d,h,j,k,l,m,n,o,p,r,s,u,v,y,J])
          have v:=Bp a6;obtain⟨aI,B⟩:=xI (CG AE C 0);refine AB H (Gv (BJ 0) AA hC B) ?_;intro ag a7 aA a8;cases aA <;> conv=>cbv
          ·have R:=MA a8;exact AO (by rw[q];unfold kF;rw[<-b,show E6 AE C t 0=ag from (by show (CG AE C 0==t)=_;rw[<-B,<-a7])];simp[d,h,j,k,l,m,n,o,p,r,s,u,v,R])
          have R:=MB a8;exact AO (by rw[q];unfold kF;rw[<-b,show E6 AE C t 0=ag from (by show (CG AE C 0==t)=_;rw[<-B,<-a7])];simp[d,h,j,k,l,m,n,o,p,r,s,u,v,R])
         have u:=Bp a5;obtain⟨ak,A⟩:=xB (hasB P t 0);refine AB H (OD (BJ 0) AA AA A) ?_;cases ak <;> conv=>cbv
         ·exact AO (by rw[q];unfold kF;rw[<-b,<-A];simp[d,h,j,k,l,m,n,o,p,r,s,u])
         exact AO (by rw[q];unfold kF;rw[<-b,<-A];simp[d,h,j,k,l,m,n,o,p,r,s,u])
        have o:=Bp a2;obtain⟨aF,w⟩:=xI (EZ (hasB P t 0) (hasB P t 2) 3 2);refine AB H (RH AA w) ?_;exact AO (by rw[q];unfold kF;rw[<-b,<-w];simp[d,h,j,k,l,m,n,o])
       have n:=Bp a1;refine BH 0 fun aj N=>?_
       try conv=>cbv
       refine CU (fun O=>?_) fun O=>?_
       ·have hg:P[0]? =some aj:=N;exact AO (by rw[q];unfold kF;rw[<-b];simp[d,h,j,k,l,m,n,hg,O])
       have hg:P[0]? =some aj:=N;exact AO (by rw[q];unfold kF;rw[<-b];simp[d,h,j,k,l,m,n,hg,O])
      have m:=Bp Z;cases z <;> conv=>cbv
      ·exact AO (by rw[q];unfold kF;rw[<-b];simp[d,h,j,k,l,m])
      exact AO (by rw[q];unfold kF;rw[<-b];simp[d,h,j,k,l,m])
     have l:=Bp Y;refine .inr ?_;cases z <;> conv=>cbv
     ·exact AO (by rw[q];unfold kF;rw[<-b];simp[d,h,j,k,l])
     exact AO (by rw[q];unfold kF;rw[<-b];simp[d,h,j,k,l])
    have k:=Bp X;refine .inr ?_;cases z <;> conv=>cbv
    ·exact AO (by rw[q];unfold kF;rw[<-b];simp[d,h,j,k])
    exact AO (by rw[q];unfold kF;rw[<-b];simp[d,h,j,k])
   have j:=Bp W;cases z <;> conv=>cbv
   ·exact AO (by rw[q];unfold kF;rw[<-b];simp[d,h,j])
   exact AO (by rw[q];unfold kF;rw[<-b];simp[d,h,j])
  have h:=Bp U;cases z <;> conv=>cbv
  ·exact AO (by rw[q];unfold kF;rw[<-b];simp[d,h])
  exact AO (by rw[q];unfold kF;rw[<-b];simp[d,h])
 have d:=Bp T;refine .inr ?_;cases z <;> conv=>cbv
 ·exact AO (by rw[q];unfold kF;rw[<-b];simp[d])
 exact AO (by rw[q];unfold kF;rw[<-b];simp[d])
theorem PJ {t:Int} {c:Bool} (B:EW (AE.length:Nat) C=true) (W:kd=17->2<=C.length) (p:c=sP kd sd (Co t C 0) (By P (AE.getD t.toNat 0)) (CG AE C 0) (CG AE C 1)):CF 23 [.agg (cC kd P C V sd),.one (.sl .i64 AE),AD t] (.one (.bool c)):=by
 refine AN Tryz.func23 fun E G=>?_
 obtain⟨U,y⟩:=xI (Co t C 0);refine AB G (PD y) ?_;refine C6 (fun H=>?_) fun H=>?_
 ·have b:Co t C 0<0:=AA
  exact AO (by rw[p];unfold sP;simp[b])
 refine .inr ?_;intro I v;conv=>cbv
 refine .inr ?_;cases I <;> conv=>cbv
 ·have h:=Bm v;refine BV (fun j=>?_) fun j=>?_
  ·have b:¬Co t C 0<0:=AA
   exact AO (by rw[p];unfold sP;simp[h,j,b])
  intro J w;refine .inr ?_;cases J <;> conv=>cbv
  ·have k:=Bm w;refine BV (fun m=>?_) fun m=>?_
   ·have hw:=Zv (t:=t) B AA;refine BH ((t).toNat) fun n l=>?_
    try conv=>cbv
    obtain⟨D,d⟩:=xB (By P n);refine AB G (Wj d) ?_;intro K s;have b:¬Co t C 0<0:=AA
    exact AO (by rw[p];unfold sP;rw[show AE.getD t.toNat 0=n from OC l,<-d];simp[h,j,k,m,b,s])
   refine CU (fun o=>?_) fun o=>?_
   ·have b:¬Co t C 0<0:=AA
    exact AO (by rw[p];unfold sP;simp[h,j,k,m,o,b])
   refine CU (fun u=>?_) fun u=>?_
   ·have b:¬Co t C 0<0:=AA
    exact AO (by rw[p];unfold sP;simp[h,j,k,m,o,b,u])
   refine BH 0 fun L q=>?_
   try conv=>cbv
   have R:=Lq B q;refine BH ((L).toNat) fun M z=>?_
   try conv=>cbv
   refine BH 1 fun N r=>?_
   try conv=>cbv
   have S:=Lq B r;refine BH ((N).toNat) fun O A=>?_
   refine AP ?_;intro T F;have b:¬Co t C 0<0:=AA
   exact AO (by rw[p];unfold sP;rw[show CG AE C 0=M from Ny q z,show CG AE C 1=O from Ny r A];simp[h,j,k,m,o,b,u,F])
  have k:=Bp w;have hw:=Zv (t:=t) B AA;refine BH ((t).toNat) fun n l=>?_
  try conv=>cbv
  obtain⟨D,d⟩:=xB (By P n);refine AB G (Wj d) ?_;intro K s;have b:¬Co t C 0<0:=AA
  exact AO (by rw[p];unfold sP;rw[show AE.getD t.toNat 0=n from OC l,<-d];simp[h,j,k,b,s])
 have h:=Bp v;have b:¬Co t C 0<0:=AA
 exact AO (by rw[p];unfold sP;simp[h,b])
def sD (k s:Int) (f n:Bool) (c0 c1:Int):Bool:=
 if f=false then false else if k=13\/k=16 then !n else if k=17 then (s==1)&&(c0 !=c1) else true
theorem iz {t:Int} {c:Bool} (D:EW (AE.length:Nat) C=true) (h1:kd=13\/kd=16->1<=C.length) (h2:kd=17->2<=C.length) (w:c=sD kd sd (By C t) (By P (CG AE C 0)) (CG AE C 0) (CG AE C 1)):CF 51 [.agg (cC kd P C V sd),.one (.sl .i64 AE),AD t] (.one (.bool c)):=by
 refine AN Tryz.func51 fun E v=>?_
 refine Bc [] [1,2,3,7,8] [3] (fun vs M k=>∃(i':Nat) (i:Int) (b:Bool),vs=[.one (.sl .i64 AE),AD t,.one (.BX 3 0 0),.one (.bool b),AD i]/\M=[.var 0 (cC kd P C V sd)]/\(Ah i i'/\i'<=C.length)/\By C t=(b||By (C.drop i') t)/\k=C.length-i') (C.length-0) ⟨0,0,false,rfl,rfl,⟨BJ 0,AA⟩,rfl,rfl⟩ ?_;rintro Z z vs M T ⟨i',i,b,rfl,rfl,⟨O,R⟩,hinv,S⟩;have ei:=O.eq;refine Ak ?_;rintro U ⟨N,f12⟩;refine C6 (fun J=>?_) fun J=>?_
 ·refine .inr ?_;cases b <;> conv=>cbv
  ·refine BH i' fun Y A=>?_
   refine AP ?_;intro B H s G;exact Bz z ⟨i'+1,s,B,rfl,rfl,⟨⟨AA⟩,AA⟩,by rw[hinv];show _=(B||_);rw[Bool.false_or,H];exact Sr A,rfl⟩
  refine AP ?_;intro s G;exact Bz z ⟨i'+1,s,true,rfl,rfl,⟨⟨AA⟩,AA⟩,by rw[hinv];rfl,rfl⟩
 refine HT (fun j=>?_) fun j=>?_
 ·have hf:By C t=false:=by rw[hinv,List.drop_eq_nil_of_le AA,show By [] t=false from rfl,Bool.or_false];exact j
  exact AO (by rw[w];unfold sD;simp[hf])
 refine .inr ?_;intro K y;conv=>cbv
 refine .inr ?_;cases K <;> conv=>cbv
 ·have l:=Bm y;refine BV (fun m=>?_) fun m=>?_
  ·obtain⟨u,h⟩:=xI (CG AE C 0);refine AB v (Gv (BJ 0) AA D h) ?_;obtain⟨F,d⟩:=xB (By P u);refine AB v (UT d) ?_;intro L q;have hf:By C t=true:=by rw[hinv,List.drop_eq_nil_of_le AA,show By [] t=false from rfl,Bool.or_false];exact j
   exact AO (by rw[w];unfold sD;rw[<-h,<-d];simp[l,m,hf,q])
  refine CU (fun n=>?_) fun n=>?_
  ·have hf:By C t=true:=by rw[hinv,List.drop_eq_nil_of_le AA,show By [] t=false from rfl,Bool.or_false];exact j
   exact AO (by rw[w];unfold sD;simp[l,m,n,hf])
  refine CU (fun r=>?_) fun r=>?_
  ·have hf:By C t=true:=by rw[hinv,List.drop_eq_nil_of_le AA,show By [] t=false from rfl,Bool.or_false];exact j
   exact AO (by rw[w];unfold sD;simp[l,m,n,hf,r])
  obtain⟨W,o⟩:=xI (CG AE C 0);refine AB v (Gv (BJ 0) AA D o) ?_;obtain⟨X,p⟩:=xI (CG AE C 1);refine AB v (Gv (BJ 1) AA D p) ?_;intro Eh I;have hf:By C t=true:=by rw[hinv,List.drop_eq_nil_of_le AA,show By [] t=false from rfl,Bool.or_false];exact j
  exact AO (by rw[w];unfold sD;rw[<-o,<-p];simp[l,m,n,hf,r,I])
 have l:=Bp y;obtain⟨u,h⟩:=xI (CG AE C 0);refine AB v (Gv (BJ 0) AA D h) ?_;obtain⟨F,d⟩:=xB (By P u);refine AB v (UT d) ?_;intro L q;have hf:By C t=true:=by rw[hinv,List.drop_eq_nil_of_le AA,show By [] t=false from rfl,Bool.or_false];exact j
 exact AO (by rw[w];unfold sD;rw[<-h,<-d];simp[l,hf,q])
end
section
def EH (cr:List (el AR)) (p:Int):el CV:=(cr.getD (2*p.toNat) ([],[]),cr.getD (2*p.toNat+1) ([],[]))
def E0 (cr:List (el AR)) (AG c:Int):el AR:=cr.getD (2*AG+c).toNat ([],[])
variable {C P AE:List Int} {V:List Ex} {cr:List (el AR)} {i:Nat} {kd AG sd t:Int} {vl:LR} {x:el AR}
theorem qE {p:Int} {y:el AR} (b:cr[2*p.toNat]? =some x) (d:cr[2*p.toNat+1]? =some y):EH cr p=(x,y):=by
 unfold EH;rw[List.getD_eq_getElem?_getD,List.getD_eq_getElem?_getD,b,d];rfl
theorem qe {c:Int} (b:cr[(2*AG+c).toNat]? =some x):E0 cr AG c=x:=by
 unfold E0;rw[List.getD_eq_getElem?_getD,b];rfl
theorem map_take {α β:Type} {f:α->β} {l:List α} {x:α} (h:l[i]? =some x):(l.take (i+1)).map f=(l.take i).map f++[f x]:=by
 rw[List.take_add_one,h,List.map_append];rfl
theorem Uk {α β:Type} {f:α->β} {l:List α} {o Q:List β} (h:o=(l.take i).map f) (d:l.length<=i) (b:Q=l.map f):o=Q:=by
 rw[h,List.take_of_length_le d,b]
theorem Om {bk:Nat->Option BM} {b:List Nat} {n:Nat} {t:T} {l Q:List (el t)} (h:n=l.length) (e:l=Q):RB bk b (if n=l.length then .one (.sl t l) else .one .Cd)= .one (.sl t Q):=by
 rw[if_pos h,e];rfl
theorem fq {b1 b2:Bool} {l1 l2:List UInt32}:CF 24 [.agg (CT b1 l1 b2 l2)] (.agg [.sl (.sl AL) (([]:List LR)),.sl AL [((b1,l1),b2,l2)]]):=by
 refine AN Tryz.func24 fun E b=>?_
 refine⟨[((b1,l1),(b2,l2))],DK,.inr ?_⟩;try conv=>cbv
 exact AM AQ
theorem uk (q:(cr.length:Int)=2*AG+(AE.length:Nat)) (hb:(0<=AG/\AG<=8)/\AE.length<=3) (hf:CF 28 [.agg (cC kd P C V sd),.one (.sl .i64 AE),AD t] (AD 0)):CF 8 (FH kd P C V sd vl AE AG t cr) (AS (Cu 0 Bv Bv) 1):=by
 refine AN Tryz.func8 fun E l=>?_
 rintro m ⟨d,f36⟩ n j o ⟨h,f40⟩ p k;refine E2 (fun b=>?_) fun b=>?_
 ·exact absurd b AA
 refine AB l hf ?_;refine Bx ?_;exact AM AQ
theorem um {Q:List (el CV)} {nl rd:List (el AR)} {k1 e:Int} {tg:Nat->List LR} {ag:Nat->LR} (hl:(cr.length:Int)=2*AG+(AE.length:Nat)) (hb:(0<=AG/\AG<=8)/\AE.length<=3) (hk:1<=kd/\kd<=17) (bw:kd≠14/\kd≠15) (hP:∀p∈P,0<=p/\p<AG) (cc:P.length<=4) (cb:C.length<=2) (cd:vl.length<=2) (hC:∀c∈C,0<=c/\c<(AE.length:Nat)) (hQ:Q=P.map (EH cr)) (bA:nl=vl.map fun v=>(([],[v]):el AR)) (bB:rd=C.map (E0 cr AG)) {f9:Int} (bq:f9≠0) (hf:CF 28 [.agg (cC kd P C V sd),.one (.sl .i64 AE),AD t] (AD f9)) (hn:CF 29 [.agg (cC kd P C V sd),AD AG,AD (-1),.one (.sl AR cr)] (.one (.bool true))) (h1:Unit->kd=1->∃(n0 n1:el AR),nl[0]? =some n0/\nl[1]? =some n1/\CF 31 [.agg (AI n0.1 n0.2 n1.1 n1.2),AD 0] (Dr k1 tg ag e)) (h2:Unit->kd=2->∃(n0:el AR) (Ts:List LR) (As:LR) (pa:Int) (Ta:List LR) (Aa:LR) (Tb:List LR) (Ab:LR),nl[0]? =some n0/\CF 32 [.agg (AK n0.1 n0.2),.agg (AK n0.1 n0.2)] (AS (AK Ts As) 0)/\CF 34 [.agg (cC kd P C V sd),AD 0,AD t] (AD pa)/\CF 30 [.one (.sl AR cr),AD pa] (.agg (AI Ta Aa Tb Ab))/\CF 33 [.agg (AI Ta Aa Tb Ab),.agg (AK Ts As),AD 0] (Dr k1 tg ag e)) (h3:Unit->kd=3->∃(d x1 x2:el CV) (p0 S:Int),Q[0]? =some d/\Q[1]? =some x1/\Q[2]? =some x2/\P[0]? =some p0/\P[1]? =some S/\(p0=t->CF 35 [.agg (AI x1.1.1 x1.1.2 x1.2.1 x1.2.2),.agg (AI x2.1.1 x2.1.2 x2.2.1 x2.2.2)] (Dr k1 tg ag e))/\(p0≠t->S=t->CF 35 [.agg (AI x2.1.1 x2.1.2 x2.2.1 x2.2.2),.agg (AI d.1.1 d.1.2 d.2.1 d.2.2)] (Dr k1 tg ag e))/\(p0≠t->S≠t->CF 35 [.agg (AI x1.1.1 x1.1.2 x1.2.1 x1.2.2),.agg (AI d.1.1 d.1.2 d.2.1 d.2.2)] (Dr k1 tg ag e))) (h4:Unit->kd=4->∃(x1 x2:el CV) (n0:el AR) (Tl:List LR) (Al:LR) (Tm:List LR) (Am:LR) (Tn:List LR) (An:LR) (f:Int) (Tx:List LR) (Ax:LR) (Ty:List LR) (Ay:LR),Q[1]? =some x1/\Q[2]? =some x2/\nl[0]? =some n0/\CF 36 [.agg (AI x1.1.1 x1.1.2 x1.2.1 x1.2.2),.agg (AI x2.1.1 x2.1.2 x2.2.1 x2.2.2),.agg (AK n0.1 n0.2),AD sd] (AS (Bu Tl Al Tm Am Tn An) f)/\CF 38 [.agg (AI x1.1.1 x1.1.2 x1.2.1 x1.2.2),.agg (AI x2.1.1 x2.1.2 x2.2.1 x2.2.2)] (.agg (AI Tx Ax Ty Ay))/\CF 37 [.agg (Bu Tl Al Tm Am Tn An),.agg (AI Tx Ax Ty Ay),AD f] (Dr k1 tg ag e)) (h9:Unit->kd=9->∃(d x1 x2:el CV) (p0 S:Int) (Ta:List LR) (Aa:LR) (Tb:List LR) (Ab:LR),Q[0]? =some d/\Q[1]? =some x1/\Q[2]? =some x2/\P[0]? =some p0/\P[1]? =some S/\(p0=t->CF 39 [.agg (AI x1.1.1 x1.1.2 x1.2.1 x1.2.2),.agg (AI x2.1.1 x2.1.2 x2.2.1 x2.2.2)] (AS (AI Ta Aa Tb Ab) 0))/\(p0≠t->S=t->CF 40 [.agg (AI d.1.1 d.1.2 d.2.1 d.2.2),.agg (AI x2.1.1 x2.1.2 x2.2.1 x2.2.2)] (AS (AI Ta Aa Tb Ab) 0))/\(p0≠t->S≠t->CF 40 [.agg (AI d.1.1 d.1.2 d.2.1 d.2.2),.agg (AI x1.1.1 x1.1.2 x1.2.1 x1.2.2)] (AS (AI Ta Aa Tb Ab) 0))/\CF 31 [.agg (AI Ta Aa Tb Ab),AD 0] (Dr k1 tg ag e)) (bd:Unit->kd=10->∃(x2 x3:el CV) (Tl:List LR) (Al:LR) (Tm:List LR) (Am:LR) (Tn:List LR) (An:LR) (f:Int),Q[2]? =some x2/\Q[3]? =some x3/\CF 41 [.agg (AI x2.1.1 x2.1.2 x2.2.1 x2.2.2),.agg (AI x3.1.1 x3.1.2 x3.2.1 x3.2.2)] (AS (Bu Tl Al Tm Am Tn An) f)/\(f≠0->(k1=0/\tg=(fun _=>[])/\ag=fun _=>[])/\e=f)/\(f=0->∃(pa:Int) (Ta:List LR) (Aa:LR) (Tb:List LR) (Ab:LR) (Tc:List LR) (Ac:LR) (Td:List LR) (Ad:LR),CF 34 [.agg (cC kd P C V sd),AD 0,AD t] (AD pa)/\CF 30 [.one (.sl AR cr),AD pa] (.agg (AI Ta Aa Tb Ab))/\CF 42 [.agg (Bu Tl Al Tm Am Tn An),.agg (AI Ta Aa Tb Ab)] (AS (AI Tc Ac Td Ad) 0)/\CF 31 [.agg (AI Tc Ac Td Ad),AD 0] (Dr k1 tg ag e))) (bf:Unit->kd=11->∃(pa:Int) (Ta:List LR) (Aa:LR) (Tb:List LR) (Ab:LR) (Tc:List LR) (Ac:LR) (Td:List LR) (Ad:LR),CF 34 [.agg (cC kd P C V sd),AD 0,AD t] (AD pa)/\CF 30 [.one (.sl AR cr),AD pa] (.agg (AI Ta Aa Tb Ab))/\CF 21 [AD 1,AD 0] (.agg (AI Tc Ac Td Ad))/\CF 43 [.agg (AI Ta Aa Tb Ab),.agg (AI Tc Ac Td Ad)] (Dr k1 tg ag e)) (bg:Unit->kd=12->∃(pa:Int) (Ta:List LR) (Aa:LR) (Tb:List LR) (Ab:LR) (Tc:List LR) (Ac:LR) (Td:List LR) (Ad:LR),CF 34 [.agg (cC kd P C V sd),AD 0,AD t] (AD pa)/\CF 30 [.one (.sl AR cr),AD pa] (.agg (AI Ta Aa Tb Ab))/\CF 21 [AD 0,AD 1] (.agg (AI Tc Ac Td Ad))/\CF 43 [.agg (AI Ta Aa Tb Ab),.agg (AI Tc Ac Td Ad)] (Dr k1 tg ag e)) (bh:Unit->kd=13->∃(c0 p0:Int) (To:List LR) (Ao:LR) (Tp:List LR) (Ap:LR) (d:el CV) (r0:el AR) (Ts:List LR) (As:LR),P[0]? =some p0/\Q[0]? =some d/\rd[0]? =some r0/\CF 44 [.agg (cC kd P C V sd),.one (.sl .i64 AE),AD 0] (AD c0)/\CF 30 [.one (.sl AR cr),AD c0] (.agg (AI To Ao Tp Ap))/\CF 32 [.agg (AK r0.1 r0.2),.agg (AK r0.1 r0.2)] (AS (AK Ts As) 0)/\(p0≠t->CF 33 [.agg (AI d.1.1 d.1.2 d.2.1 d.2.2),.agg (AK Ts As),AD 0] (Dr k1 tg ag e))/\(p0=t->CF 33 [.agg (AI To Ao Tp Ap),.agg (AK Ts As),AD 0] (Dr k1 tg ag e))) (bj:Unit->kd=16->∃(d x1:el CV) (r0:el AR) (Tl:List LR) (Al:LR) (Tm:List LR) (Am:LR) (Tn:List LR) (An:LR) (f:Int) (Tx:List LR) (Ax:LR) (Ty:List LR) (Ay:LR),Q[0]? =some d/\Q[1]? =some x1/\rd[0]? =some r0/\CF 36 [.agg (AI d.1.1 d.1.2 d.2.1 d.2.2),.agg (AI x1.1.1 x1.1.2 x1.2.1 x1.2.2),.agg (AK r0.1 r0.2),AD sd] (AS (Bu Tl Al Tm Am Tn An) f)/\CF 38 [.agg (AI d.1.1 d.1.2 d.2.1 d.2.2),.agg (AI x1.1.1 x1.1.2 x1.2.1 x1.2.2)] (.agg (AI Tx Ax Ty Ay))/\CF 37 [.agg (Bu Tl Al Tm Am Tn An),.agg (AI Tx Ax Ty Ay),AD f] (Dr k1 tg ag e)) (bk:Unit->kd=17->∃(c0 d1:Int) (To:List LR) (Ao:LR) (Tp:List LR) (Ap:LR) (Ti:List LR) (Ai:LR) (Tj:List LR) (Aj:LR) (r0 r1:el AR) (Tm:List LR) (Am:LR) (Tu:List LR) (Au:LR) (Tq:List LR) (Aq:LR),rd[0]? =some r0/\rd[1]? =some r1/\CF 44 [.agg (cC kd P C V sd),.one (.sl .i64 AE),AD 1] (AD d1)/\CF 30 [.one (.sl AR cr),AD d1] (.agg (AI Ti Ai Tj Aj))/\CF 44 [.agg (cC kd P C V sd),.one (.sl .i64 AE),AD 0] (AD c0)/\CF 30 [.one (.sl AR cr),AD c0] (.agg (AI To Ao Tp Ap))/\(sd≠1->CF 17 [.agg (AK r1.1 r1.2)] (.agg (AK Tm Am)))/\(sd≠1->CF 45 [.agg (AK r0.1 r0.2),.agg (AK Tm Am)] (AS (AK Tu Au) 0))/\(sd=1->CF 45 [.agg (AK r0.1 r0.2),.agg (AK r1.1 r1.2)] (AS (AK Tu Au) 0))/\CF 32 [.agg (AK Tu Au),.agg (AK Tu Au)] (AS (AK Tq Aq) 0)/\(c0≠t->CF 33 [.agg (AI To Ao Tp Ap),.agg (AK Tq Aq),AD 0] (Dr k1 tg ag e))/\(c0=t->CF 33 [.agg (AI Ti Ai Tj Aj),.agg (AK Tq Aq),AD 0] (Dr k1 tg ag e))) (h5:Unit->5<=kd/\kd<=8->CF 46 [.agg (cC kd P C V sd),.one (.sl AR nl),AD t,.one (.sl CV Q),.one (.sl AR cr)] (Dr k1 tg ag e)):CF 8 (FH kd P C V sd vl AE AG t cr) (AS (Cu k1 tg ag) e):=by
 refine AN Tryz.func8 fun E b=>?_
 rintro cl ⟨bT,f36⟩ cm c2 cn ⟨bU,f40⟩ cq c3;refine E2 (fun aT=>?_) fun aT=>?_
 ·exact absurd aT AA
 refine AB b hf ?_;refine BV (fun aU=>?_) fun aU=>?_
 ·exact absurd aU bq
 refine AB b hn ?_;refine AY ?_;refine Bc [(14,CV,true)] [1,2,3,4,5,6,12,13,14,15] [6,12,14] (fun vs bl k=>∃(o:List (el CV)) (m i':Nat) (i:Int),vs=[AT vl,.one (.sl .i64 AE),AD AG,AD t,.one (.sl AR cr),.one (.BX 6 0 0),.one (.BX 12 0 0),AD 0,.one (.BK CV 14 0 0 m),AD i]/\bl=[.var 0 (cC kd P C V sd),.var 0 [.int .i64 0,.nil,.nil,.nil,.nil,.nil,.nil,.nil,.nil,.nil,.nil,.nil,.nil,.nil,.nil,.nil,.nil,.nil,.nil,.nil,.nil],.arr 0 CV o]/\(Ah i i'/\i'<=P.length/\m=o.length)/\o=(P.take i').map (EH cr)/\k=P.length-i') (P.length-0) ⟨[],0,0,0,rfl,rfl,⟨BJ 0,AA,rfl⟩,rfl,rfl⟩ ?_;rintro J0 bn vs bl ch ⟨o1,m1,aB,i1,rfl,rfl,⟨br,bN,bx⟩,u,c9⟩;conv=>cbv
 have bY:=br.eq;have bQ:o1.length=aB:=by rw[u,List.length_map,List.length_take];omega
 rintro cu ⟨bV,f61⟩;conv=>cbv
 refine C6 (fun bE=>?_) fun bE=>?_
 ·refine .inr ?_;refine BH aB fun a1 a6=>?_
  try conv=>cbv
  have cg:=hP a1 (List.mem_of_getElem? a6);obtain⟨x,hx⟩:=Cq (l:=cr) (i:=2*a1.toNat) AA;obtain⟨y,hy⟩:=Cq (l:=cr) (i:=2*a1.toNat+1) AA;refine AB b (fp (p0:=a1.toNat) ⟨AA⟩ AA hx hy) ?_;refine⟨[((x.1,x.2),(y.1,y.2))],DK,.inl ?_⟩;try conv=>cbv
  refine .inl ⟨[((x.1,x.2),(y.1,y.2))],fun _=>⟨rfl,by (first | rfl | omega),⟨_,rfl,by simp <;> omega,AZ⟩,C2 (o1.length+1) 96⟩,?_⟩;intro (aE:List (el CV)) bI an;have aN:aE=(o1:List (el CV))++([((x.1,x.2),(y.1,y.2))]:List (el CV)):=an.1;have aP:bI=List.length (α:=(el CV)) aE:=an.2;refine AP ?_;intro bH c4;exact Bz bn ⟨aE,_,aB+1,bH,rfl,rfl,⟨⟨AA⟩,AA,aP⟩,aN.trans (by rw[u,map_take a6,qE hx hy]),rfl⟩
 have bC:o1=Q:=Uk u AA hQ;refine Bc [(14,AR,false),(16,AR,true)] [1,2,3,4,5,6,12,13,14,16,17,18] [6,12,16] (fun vs bl k=>∃(o:List (el AR)) (m i':Nat) (i:Int),vs=[AT vl,.one (.sl .i64 AE),AD AG,AD t,.one (.sl AR cr),.one (.BX 6 0 0),.one (.BX 12 0 0),AD 0,.one (.sl CV Q),.one (.BK AR 16 0 0 m),.one .nil,AD i]/\bl=[.var 0 (cC kd P C V sd),.var 0 [.int .i64 0,.nil,.nil,.nil,.nil,.nil,.nil,.nil,.nil,.nil,.nil,.nil,.nil,.nil,.nil,.nil,.nil,.nil,.nil,.nil,.nil],.arr 0 AR o]/\(Ah i i'/\i'<=vl.length/\m=o.length)/\o=(vl.take i').map (fun v=>(([],[v]):el AR))/\k=vl.length-i') (vl.length-0) ⟨[],0,0,0,congrArg (fun z:AV=>([AT vl,.one (.sl .i64 AE),AD AG,AD t,.one (.sl AR cr),.one (.BX 6 0 0),.one (.BX 12 0 0),AD 0,z,.one (.BK AR 16 0 0 0),.one .nil,AD 0]:List AV)) (Om bx bC),rfl,⟨BJ 0,AA,rfl⟩,rfl,rfl⟩ ?_
 rintro J1 bo vs bl cj ⟨o2,m2,aC,i2,rfl,rfl,⟨bs,bO,bz⟩,w,ca⟩;conv=>cbv
 have bZ:=bs.eq;have bR:o2.length=aC:=by rw[w,List.length_map,List.length_take];omega
 rintro cv ⟨bW,f77⟩;conv=>cbv
 refine C6 (fun bF=>?_) fun bF=>?_
 ·refine .inr ?_;refine BH aC fun aG aR=>?_
  try conv=>cbv
  refine AB b fq ?_;refine⟨[(([]:List LR),[aG])],DK,.inl ?_⟩;try conv=>cbv
  refine .inl ⟨[(([]:List LR),[aG])],fun _=>⟨rfl,by (first | rfl | omega),⟨_,rfl,by simp <;> omega,AZ⟩,C2 (o2.length+1) 48⟩,?_⟩;intro (aF:List (el AR)) bK ao;have aO:aF=(o2:List (el AR))++([(([]:List LR),[aG])]:List (el AR)):=ao.1;have aQ:bK=List.length (α:=(el AR)) aF:=ao.2;refine AP ?_;intro bJ c5;exact Bz bo ⟨aF,_,aC+1,bJ,rfl,rfl,⟨⟨AA⟩,AA,aQ⟩,aO.trans (by rw[w,map_take aR]),rfl⟩
 have bD:o2=nl:=Uk w AA bA;refine Bc [(16,AR,false),(17,AR,true)] [2,3,4,5,6,12,13,14,16,17,19] [6,12,17] (fun vs bl k=>∃(o:List (el AR)) (m i':Nat) (i:Int),vs=[.one (.sl .i64 AE),AD AG,AD t,.one (.sl AR cr),.one (.BX 6 0 0),.one (.BX 12 0 0),AD 0,.one (.sl CV Q),.one (.sl AR nl),.one (.BK AR 17 0 0 m),AD i]/\bl=[.var 0 (cC kd P C V sd),.var 0 [.int .i64 0,.nil,.nil,.nil,.nil,.nil,.nil,.nil,.nil,.nil,.nil,.nil,.nil,.nil,.nil,.nil,.nil,.nil,.nil,.nil,.nil],.arr 0 AR o]/\(Ah i i'/\i'<=C.length/\m=o.length)/\o=(C.take i').map (E0 cr AG)/\k=C.length-i') (C.length-0) ⟨[],0,0,0,congrArg (fun z:AV=>([.one (.sl .i64 AE),AD AG,AD t,.one (.sl AR cr),.one (.BX 6 0 0),.one (.BX 12 0 0),AD 0,.one (.sl CV Q),z,.one (.BK AR 17 0 0 0),AD 0]:List AV)) (Om bz bD),rfl,⟨BJ 0,AA,rfl⟩,rfl,rfl⟩ ?_
 rintro J2 bp vs bl ck ⟨o3,m3,aD,i3,rfl,rfl,⟨bt,bP,cf⟩,A,bw⟩;conv=>cbv
 have c1:=bt.eq;have bS:o3.length=aD:=by rw[A,List.length_map,List.length_take];omega
 rintro cw ⟨bX,f92⟩;conv=>cbv
 refine C6 (fun bG=>?_) fun bG=>?_
 ·refine .inr ?_;refine AP ?_;intro cx c7;refine BH aD fun W G=>?_
  try conv=>cbv
  have c8:=hC W (List.mem_of_getElem? G);refine AP ?_;intro al bM;refine BH ((al).toNat) fun q aA=>?_
  try conv=>cbv
  refine⟨[(q.1,q.2)],DK,.inl ?_⟩;try conv=>cbv
  refine .inl ⟨[(q.1,q.2)],fun _=>⟨rfl,by (first | rfl | omega),⟨_,rfl,by simp <;> omega,AZ⟩,C2 (o3.length+1) 48⟩,?_⟩;intro (O:List (el AR)) aV U;have ay:O=(o3:List (el AR))++([(q.1,q.2)]:List (el AR)):=U.1;have az:aV=List.length (α:=(el AR)) O:=U.2;refine AP ?_;intro bL c6;exact Bz bp ⟨O,_,aD+1,bL,rfl,rfl,⟨⟨AA⟩,AA,az⟩,ay.trans (by rw[A,map_take G,qe (show cr[(2*AG+W).toNat]? =some q by rw[<-show al=2*AG+W by omega];exact aA)]),rfl⟩
 have h:o3=rd:=Uk A AA bB;refine .inr ?_;refine BV (fun a7=>?_) fun a7=>?_
 ·obtain⟨n0,n1,w0,w1,bm⟩:=h1 () a7;refine⟨n0,fun _=>⟨AA,w0⟩,?_⟩;try conv=>cbv
  refine⟨n1,fun _=>⟨AA,w1⟩,?_⟩;try conv=>cbv
  refine AB b bm ?_;exact AM AQ
 refine BV (fun a8=>?_) fun a8=>?_
 ·obtain⟨n0,Ts,As,pa,Ta,Aa,Tb,Ab,w0,g1,cp,ct,g2⟩:=h2 () a8;refine⟨n0,fun _=>⟨AA,w0⟩,?_⟩;try conv=>cbv
  refine⟨n0,fun _=>⟨AA,w0⟩,?_⟩;try conv=>cbv
  refine AB b g1 ?_;refine AB b cp ?_;refine AB b ct ?_;refine AB b g2 ?_;exact AM AQ
 refine BV (fun aa=>?_) fun aa=>?_
 ·obtain⟨d,x1,x2,p0,S,q0,T,X,z0,z1,g3,g4,g5⟩:=h3 () aa;refine⟨p0,fun _=>⟨AA,z0⟩,?_⟩;try conv=>cbv
  refine BV (fun D=>?_) fun D=>?_
  ·refine⟨x1,fun _=>⟨AA,T⟩,?_⟩;try conv=>cbv
   refine⟨x2,fun _=>⟨AA,X⟩,?_⟩;try conv=>cbv
   refine AB b ((g3 D)) ?_;exact AM AQ
  refine⟨S,fun _=>⟨AA,z1⟩,?_⟩;try conv=>cbv
  refine CU (fun K=>?_) fun K=>?_
  ·refine⟨x1,fun _=>⟨AA,T⟩,?_⟩;try conv=>cbv
   refine⟨d,fun _=>⟨AA,q0⟩,?_⟩;try conv=>cbv
   refine AB b ((g5 D K)) ?_;exact AM AQ
  refine⟨x2,fun _=>⟨AA,X⟩,?_⟩;try conv=>cbv
  refine⟨d,fun _=>⟨AA,q0⟩,?_⟩;try conv=>cbv
  refine AB b ((g4 D K)) ?_;exact AM AQ
 refine BV (fun ab=>?_) fun ab=>?_
 ·obtain⟨x1,x2,n0,Tl,Al,Tm,Am,Tn,An,f,Tx,Ax,Ty,Ay,T,X,w0,g6,g7,g8⟩:=h4 () ab;refine⟨x1,fun _=>⟨AA,T⟩,?_⟩;try conv=>cbv
  refine⟨x2,fun _=>⟨AA,X⟩,?_⟩;try conv=>cbv
  refine⟨n0,fun _=>⟨AA,w0⟩,?_⟩;try conv=>cbv
  refine AB b g6 ?_;refine⟨x1,fun _=>⟨AA,T⟩,?_⟩;try conv=>cbv
  refine⟨x2,fun _=>⟨AA,X⟩,?_⟩;try conv=>cbv
  refine AB b g7 ?_;refine AB b g8 ?_;exact AM AQ
 refine BV (fun ad=>?_) fun ad=>?_
 ·obtain⟨d,x1,x2,p0,S,Ta,Aa,Tb,Ab,q0,T,X,z0,z1,g9,aY,aZ,aq⟩:=h9 () ad;refine⟨p0,fun _=>⟨AA,z0⟩,?_⟩;try conv=>cbv
  refine BV (fun F=>?_) fun F=>?_
  ·refine⟨x1,fun _=>⟨AA,T⟩,?_⟩;try conv=>cbv
   refine⟨x2,fun _=>⟨AA,X⟩,?_⟩;try conv=>cbv
   refine AB b ((g9 F)) ?_;refine AB b aq ?_;exact AM AQ
  refine⟨S,fun _=>⟨AA,z1⟩,?_⟩;try conv=>cbv
  refine CU (fun L=>?_) fun L=>?_
  ·refine⟨d,fun _=>⟨AA,q0⟩,?_⟩;try conv=>cbv
   refine⟨x1,fun _=>⟨AA,T⟩,?_⟩;try conv=>cbv
   refine AB b ((aZ F L)) ?_;refine AB b aq ?_;exact AM AQ
  refine⟨d,fun _=>⟨AA,q0⟩,?_⟩;try conv=>cbv
  refine⟨x2,fun _=>⟨AA,X⟩,?_⟩;try conv=>cbv
  refine AB b ((aY F L)) ?_;refine AB b aq ?_;exact AM AQ
 refine BV (fun ae=>?_) fun ae=>?_
 ·obtain⟨x2,x3,Tl,Al,Tm,Am,Tn,An,f,X,q3,b0,b2,b3⟩:=bd () ae;refine⟨x2,fun _=>⟨AA,X⟩,?_⟩;try conv=>cbv
  refine⟨x3,fun _=>⟨AA,q3⟩,?_⟩;try conv=>cbv
  refine AB b b0 ?_;refine E2 (fun M=>?_) fun M=>?_
  ·obtain⟨⟨rfl,rfl,rfl⟩,rfl⟩:=b2 M;exact AM AQ
  obtain⟨pa,Ta,Aa,Tb,Ab,Tc,Ac,Td,Ad,cp,ct,b1,b4⟩:=b3 M;refine AB b cp ?_;refine AB b ct ?_;refine AB b b1 ?_;refine AB b b4 ?_;exact AM AQ
 refine BV (fun af=>?_) fun af=>?_
 ·obtain⟨pa,Ta,Aa,Tb,Ab,Tc,Ac,Td,Ad,cp,ct,b5,ar⟩:=bf () af;refine AB b cp ?_;refine AB b ct ?_;refine AB b b5 ?_;refine AB b ar ?_;exact AM AQ
 refine BV (fun ah=>?_) fun ah=>?_
 ·obtain⟨pa,Ta,Aa,Tb,Ab,Tc,Ac,Td,Ad,cp,ct,b6,ar⟩:=bg () ah;refine AB b cp ?_;refine AB b ct ?_;refine AB b b6 ?_;refine AB b ar ?_;exact AM AQ
 refine BV (fun ai=>?_) fun ai=>?_
 ·obtain⟨c0,p0,To,Ao,Tp,Ap,d,r0,Ts,As,z0,q0,v0,Y,au,aH,b7,b8⟩:=bh () ai;refine AB b Y ?_;refine AB b au ?_;refine⟨p0,fun _=>⟨AA,z0⟩,?_⟩;refine Ak ?_;intro aW a2;refine .inr ?_;cases aW <;> conv=>cbv
  ·have N:=HK a2;refine⟨fun _=>⟨AA,by have:=Dh v0;rw[<-h] at this;omega⟩,?_⟩;intro H av;conv=>cbv
   refine⟨r0,fun _=>by rw[h,(AA:H=0)];exact v0,?_⟩;try conv=>cbv
   refine⟨fun _=>⟨AA,by have:=Dh v0;rw[<-h] at this;omega⟩,?_⟩;intro I aw;conv=>cbv
   refine⟨r0,fun _=>by rw[h,(AA:I=0)];exact v0,?_⟩;try conv=>cbv
   refine AB b aH ?_;refine AB b ((b8 N)) ?_;exact AM AQ
  have N:=HM a2;refine⟨d,fun _=>⟨AA,q0⟩,?_⟩;try conv=>cbv
  refine⟨fun _=>⟨AA,by have:=Dh v0;rw[<-h] at this;omega⟩,?_⟩;intro H av;conv=>cbv
  refine⟨r0,fun _=>by rw[h,(AA:H=0)];exact v0,?_⟩;try conv=>cbv
  refine⟨fun _=>⟨AA,by have:=Dh v0;rw[<-h] at this;omega⟩,?_⟩;intro I aw;conv=>cbv
  refine⟨r0,fun _=>by rw[h,(AA:I=0)];exact v0,?_⟩;try conv=>cbv
  refine AB b aH ?_;refine AB b ((b7 N)) ?_;exact AM AQ
 refine BV (fun aj=>?_) fun aj=>?_
 ·obtain⟨d,x1,r0,Tl,Al,Tm,Am,Tn,An,f,Tx,Ax,Ty,Ay,q0,T,v0,b9,ba,g8⟩:=bj () aj;refine⟨d,fun _=>⟨AA,q0⟩,?_⟩;try conv=>cbv
  refine⟨x1,fun _=>⟨AA,T⟩,?_⟩;try conv=>cbv
  refine⟨fun _=>⟨AA,by have:=Dh v0;rw[<-h] at this;omega⟩,?_⟩;intro aS bu;conv=>cbv
  refine⟨r0,fun _=>by rw[h,(AA:aS=0)];exact v0,?_⟩;try conv=>cbv
  refine AB b b9 ?_;refine⟨d,fun _=>⟨AA,q0⟩,?_⟩;try conv=>cbv
  refine⟨x1,fun _=>⟨AA,T⟩,?_⟩;try conv=>cbv
  refine AB b ba ?_;refine AB b g8 ?_;exact AM AQ
 refine CU (fun ak=>?_) fun ak=>?_
 ·have h5:=h5 () AA;refine AB b h5 ?_;exact AM AQ
 obtain⟨c0,d1,To,Ao,Tp,Ap,Ti,Ai,Tj,Aj,r0,r1,Tm,Am,Tu,Au,Tq,Aq,v0,v1,bb,bc,Y,au,aI,aJ,aK,Z,aL,aM⟩:=bk () ak;refine AB b bb ?_;refine AB b bc ?_;refine AB b Y ?_;intro aX a5;refine .inr ?_;cases aX <;> conv=>cbv
 ·have s:=HK a5;refine⟨fun _=>⟨AA,by have:=Dh v1;rw[<-h] at this;omega⟩,?_⟩;intro J ax;conv=>cbv
  refine⟨r1,fun _=>by rw[h,(AA:J=1)];exact v1,?_⟩;refine Ak ?_;intro R r;refine .inr ?_;cases R <;> conv=>cbv
  ·have j:=HK r;refine⟨fun _=>⟨AA,by have:=Dh v0;rw[<-h] at this;omega⟩,?_⟩;intro n B;conv=>cbv
   refine⟨r0,fun _=>by rw[h,(AA:n=0)];exact v0,?_⟩;try conv=>cbv
   refine AB b ((aK j)) ?_;refine AY ?_;refine AB b Z ?_;refine AB b ((aM s)) ?_;exact AM AQ
  have j:=HM r;refine AB b ((aI j)) ?_;refine⟨fun _=>⟨AA,by have:=Dh v0;rw[<-h] at this;omega⟩,?_⟩;intro n B;conv=>cbv
  refine⟨r0,fun _=>by rw[h,(AA:n=0)];exact v0,?_⟩;try conv=>cbv
  refine AB b ((aJ j)) ?_;refine AY ?_;refine AB b Z ?_;refine AB b ((aM s)) ?_;exact AM AQ
 have s:=HM a5;refine AB b Y ?_;refine AB b au ?_;refine⟨fun _=>⟨AA,by have:=Dh v1;rw[<-h] at this;omega⟩,?_⟩;intro J ax;conv=>cbv
 refine⟨r1,fun _=>by rw[h,(AA:J=1)];exact v1,?_⟩;refine Ak ?_;intro R r;refine .inr ?_;cases R <;> conv=>cbv
 ·have j:=HK r;refine⟨fun _=>⟨AA,by have:=Dh v0;rw[<-h] at this;omega⟩,?_⟩;intro n B;conv=>cbv
  refine⟨r0,fun _=>by rw[h,(AA:n=0)];exact v0,?_⟩;try conv=>cbv
  refine AB b ((aK j)) ?_;refine AY ?_;refine AB b Z ?_;refine AB b ((aL s)) ?_;exact AM AQ
 have j:=HM r;refine AB b ((aI j)) ?_;refine⟨fun _=>⟨AA,by have:=Dh v0;rw[<-h] at this;omega⟩,?_⟩;intro n B;conv=>cbv
 refine⟨r0,fun _=>by rw[h,(AA:n=0)];exact v0,?_⟩;try conv=>cbv
 refine AB b ((aJ j)) ?_;refine AY ?_;refine AB b Z ?_;refine AB b ((aL s)) ?_;exact AM AQ
end
end Go.Abs
