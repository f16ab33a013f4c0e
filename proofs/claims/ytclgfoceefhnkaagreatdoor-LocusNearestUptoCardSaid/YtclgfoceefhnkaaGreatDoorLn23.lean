/- Part 24 of a proof. Conditions: each theorem's own. -/
import Derived.Test.YtclgfoceefhnkaaGreatDoorLn22
set_option linter.all false
set_option maxHeartbeats 80000000
set_option maxRecDepth 20000
open Go.Proofs
namespace Go.Abs
section
open Go.RowKit
variable {Aa Ab Ac Ad Ae Al Am An Ap Aq As At Au Av Ax Ay:LR} {Ta Tb Tc Td Te Tl Tm Tn Tp Tq Ts Tt Tu Tv Tx Ty:List LR} {cr:List (el AQ)} {e f g kd sd:Int}
theorem Ni:CF 52 [.agg (CQ Ta Aa Tb Ab Tc Ac),.agg (AH Td Ad Te Ae),.one (.int .i64 0)] (.AI [(true,[.int .i64 1,.sl (.sl AA) Ta,.sl AA Aa,.sl (.sl AA) Tb,.sl AA Ab,.sl (.sl AA) Tc,.sl AA Ac,.sl (.sl AA) Td,.sl AA Ad,.sl (.sl AA) Te,.sl AA Ae,BJ,BK,BJ,BK,BJ,BK,BJ,BK,BJ,BK]),(false,[.int .i64 0])]):=by
 refine AG Tryz.func52 fun E a=>?_
 refine BH ?_;exact AE ⟨⟨rfl,rfl,rfl,rfl,rfl,rfl,rfl,rfl,rfl,rfl,rfl,rfl,AL,AL,AL,AL,AL,AL,AL,AL,AL,AL,trivial⟩,t2,trivial⟩
theorem Nj (he:e≠0):CF 52 [.agg (CQ Ta Aa Tb Ab Tc Ac),.agg (AH Td Ad Te Ae),.one (.int .i64 e)] (.AI [(true,[.int .i64 0,BJ,BK,BJ,BK,BJ,BK,BJ,BK,BJ,BK,BJ,BK,BJ,BK,BJ,BK,BJ,BK,BJ,BK]),(false,[.int .i64 e])]):=by
 refine AG Tryz.func52 fun E b=>?_
 refine No (fun a=>?_) fun a=>?_
 ·exact absurd a he
 exact AE ⟨⟨rfl,rfl,AL,AL,AL,AL,AL,AL,AL,AL,AL,AL,AL,AL,AL,AL,AL,AL,AL,AL,AL,AL,trivial⟩,t2,trivial⟩
theorem qD {r:Int} (j:r≠0) (k:CF 24 [.agg (AJ Ts As)] (.one (.int .i64 r))):CF 48 [.agg (AH Ta Aa Tb Ab),.agg (AJ Ts As),.one (.int .i64 0)] (.AI [(true,[.int .i64 2,BJ,BK,BJ,BK,BJ,BK,BJ,BK,BJ,BK,.sl (.sl AA) Ta,.sl AA Aa,.sl (.sl AA) Tb,.sl AA Ab,.sl (.sl AA) Ts,.sl AA As,BJ,BK,BJ,BK]),(false,[.int .i64 0])]):=by
 refine AG Tryz.func48 fun E h=>?_
 refine CU ?_;refine AB h k ?_;intro d a;refine .inr ?_;cases d <;> conv=>cbv
 ·have b:=Bp a;refine BH ?_;exact AE ⟨⟨rfl,rfl,AL,AL,AL,AL,AL,AL,AL,AL,AL,AL,rfl,rfl,rfl,rfl,rfl,rfl,AL,AL,AL,AL,trivial⟩,t2,trivial⟩
 have b:=Br a;exact absurd b j
theorem qE (b:CF 24 [.agg (AJ Ts As)] (.one (.int .i64 0))):CF 48 [.agg (AH Ta Aa Tb Ab),.agg (AJ Ts As),.one (.int .i64 0)] (.AI [(true,[.int .i64 0,BJ,BK,BJ,BK,BJ,BK,BJ,BK,BJ,BK,BJ,BK,BJ,BK,BJ,BK,BJ,BK,BJ,BK]),(false,[.int .i64 6])]):=by
 refine AG Tryz.func48 fun E a=>?_
 refine CU ?_;refine AB a b ?_;refine CU ?_;refine .inr ?_;refine CU ?_;exact AE ⟨⟨rfl,rfl,AL,AL,AL,AL,AL,AL,AL,AL,AL,AL,AL,AL,AL,AL,AL,AL,AL,AL,AL,AL,trivial⟩,t2,trivial⟩
theorem qC (he:e≠0):CF 48 [.agg (AH Ta Aa Tb Ab),.agg (AJ Ts As),.one (.int .i64 e)] (.AI [(true,[.int .i64 0,BJ,BK,BJ,BK,BJ,BK,BJ,BK,BJ,BK,BJ,BK,BJ,BK,BJ,BK,BJ,BK,BJ,BK]),(false,[.int .i64 e])]):=by
 refine AG Tryz.func48 fun E d=>?_
 refine BO (fun b=>?_) fun b=>?_
 ·exact absurd b he
 refine .inr ?_;refine No (fun a=>?_) fun a=>?_
 ·exact absurd a he
 exact AE ⟨⟨rfl,rfl,AL,AL,AL,AL,AL,AL,AL,AL,AL,AL,AL,AL,AL,AL,AL,AL,AL,AL,AL,AL,trivial⟩,t2,trivial⟩
theorem qG:CF 46 [.agg (AH Ta Aa Tb Ab),.one (.int .i64 0)] (.AI [(true,[.int .i64 3,BJ,BK,BJ,BK,BJ,BK,BJ,BK,BJ,BK,BJ,BK,BJ,BK,BJ,BK,.sl (.sl AA) Ta,.sl AA Aa,.sl (.sl AA) Tb,.sl AA Ab]),(false,[.int .i64 0])]):=by
 refine AG Tryz.func46 fun E a=>?_
 refine BH ?_;exact AE ⟨⟨rfl,rfl,AL,AL,AL,AL,AL,AL,AL,AL,AL,AL,AL,AL,AL,AL,AL,AL,rfl,rfl,rfl,rfl,trivial⟩,t2,trivial⟩
theorem Nk (b:CF 78 [.agg (AH Tc Ac Td Ad),.agg (AH Ta Aa Tb Ab)] (.AI [(true,(AH Tx Ax Ty Ay)),(false,[.int .i64 f])])):CF 53 [.agg (AH Ta Aa Tb Ab),.agg (AH Tc Ac Td Ad)] (.agg (AH Tx Ax Ty Ay)):=by
 refine AG Tryz.func53 fun E a=>?_
 refine AB a b ?_;exact AE ⟨⟨rfl,rfl,rfl,rfl,rfl,trivial⟩,trivial⟩
theorem qP {b:List LR} {a:LR} (j:CF 78 [.agg (AH Tc Ac Td Ad),.agg (AH Ta Aa Tb Ab)] (.AI [(true,(AH Tx Ax Ty Ay)),(false,[.int .i64 f])])) (h:CF 80 [.agg (AH Tx Ax Ty Ay)] (.AI [(true,(AJ b a)),(false,[.int .i64 g])])):CF 72 [.agg (AH Ta Aa Tb Ab),.agg (AH Tc Ac Td Ad)] (.AI [(true,(AJ b a)),(false,[.int .i64 g])]):=by
 refine AG Tryz.func72 fun E d=>?_
 refine AB d (Nk j) ?_;refine AB d h ?_;exact AE ⟨t3,t2,trivial⟩
theorem qQ (d:CF 56 [.agg (AH Ta Aa Tb Ab),.agg (AH Tc Ac Td Ad)] (.AI [(true,(CQ Tl Al Tm Am Tn An)),(false,[.int .i64 0])])) (b:CF 78 [.agg (AH Tc Ac Td Ad),.agg (AH Ta Aa Tb Ab)] (.AI [(true,(AH Tx Ax Ty Ay)),(false,[.int .i64 f])])):CF 50 [.agg (AH Ta Aa Tb Ab),.agg (AH Tc Ac Td Ad)] (.AI [(true,[.int .i64 1,.sl (.sl AA) Tl,.sl AA Al,.sl (.sl AA) Tm,.sl AA Am,.sl (.sl AA) Tn,.sl AA An,.sl (.sl AA) Tx,.sl AA Ax,.sl (.sl AA) Ty,.sl AA Ay,BJ,BK,BJ,BK,BJ,BK,BJ,BK,BJ,BK]),(false,[.int .i64 0])]):=by
 refine AG Tryz.func50 fun E a=>?_
 refine AB a d ?_;refine AB a (Nk b) ?_;refine AB a Ni ?_;exact AE ⟨⟨rfl,rfl,rfl,rfl,rfl,rfl,rfl,rfl,rfl,rfl,rfl,rfl,rfl,rfl,rfl,rfl,rfl,rfl,rfl,rfl,rfl,rfl,trivial⟩,t2,trivial⟩
theorem qA (b:CF 112 [.agg (AH Ta Aa Tb Ab),.agg (AH Tc Ac Td Ad)] (.AI [(true,(CQ Tl Al Tm Am Tn An)),(false,[.int .i64 0])])):CF 58 [.agg (AH Ta Aa Tb Ab),.agg (AH Tc Ac Td Ad)] (.AI [(true,[.int .i64 1,.sl (.sl AA) Tl,.sl AA Al,.sl (.sl AA) Tm,.sl AA Am,.sl (.sl AA) Tn,.sl AA An,.sl (.sl AA) Tc,.sl AA Ac,.sl (.sl AA) Td,.sl AA Ad,BJ,BK,BJ,BK,BJ,BK,BJ,BK,BJ,BK]),(false,[.int .i64 0])]):=by
 refine AG Tryz.func58 fun E a=>?_
 refine AB a b ?_;refine AB a Ni ?_;exact AE ⟨⟨rfl,rfl,rfl,rfl,rfl,rfl,rfl,rfl,rfl,rfl,rfl,rfl,rfl,rfl,rfl,rfl,rfl,rfl,rfl,rfl,rfl,rfl,trivial⟩,t2,trivial⟩
theorem qT (j:CF 212 [.agg (AH Ta Aa Tb Ab),.agg (AH Tc Ac Td Ad),.agg (AJ Tt At)] (.AI [(true,(CQ Tl Al Tm Am Tn An)),(false,[.int .i64 0])])) (h:CF 118 [.agg (AH Tc Ac Td Ad)] (.agg (AH Tu Au Tv Av))) (d:CF 82 [.agg (AH Tu Au Tv Av),.agg (AJ Tt At)] (.AI [(true,(AH Tx Ax Ty Ay)),(false,[.int .i64 f])])) (b:CF 83 [.agg (AH Tc Ac Td Ad),.agg (AH Tx Ax Ty Ay)] (.AI [(true,(AH Tp Ap Tq Aq)),(false,[.int .i64 g])])):CF 119 [.agg (AH Ta Aa Tb Ab),.agg (AH Tc Ac Td Ad),.agg (AJ Tt At)] (.AI [(true,[.int .i64 1,.sl (.sl AA) Tl,.sl AA Al,.sl (.sl AA) Tm,.sl AA Am,.sl (.sl AA) Tn,.sl AA An,.sl (.sl AA) Tp,.sl AA Ap,.sl (.sl AA) Tq,.sl AA Aq,BJ,BK,BJ,BK,BJ,BK,BJ,BK,BJ,BK]),(false,[.int .i64 0])]):=by
 refine AG Tryz.func119 fun E a=>?_
 refine AB a j ?_;refine AB a h ?_;refine AB a d ?_;refine AB a b ?_;refine AB a Ni ?_;exact AE ⟨⟨rfl,rfl,rfl,rfl,rfl,rfl,rfl,rfl,rfl,rfl,rfl,rfl,rfl,rfl,rfl,rfl,rfl,rfl,rfl,rfl,rfl,rfl,trivial⟩,t2,trivial⟩
theorem qS (he:e≠0) (d:CF 56 [.agg (AH Ta Aa Tb Ab),.agg (AH Tc Ac Td Ad)] (.AI [(true,(CQ Tl Al Tm Am Tn An)),(false,[.int .i64 e])])) (b:CF 78 [.agg (AH Tc Ac Td Ad),.agg (AH Ta Aa Tb Ab)] (.AI [(true,(AH Tx Ax Ty Ay)),(false,[.int .i64 f])])):CF 50 [.agg (AH Ta Aa Tb Ab),.agg (AH Tc Ac Td Ad)] (.AI [(true,[.int .i64 0,BJ,BK,BJ,BK,BJ,BK,BJ,BK,BJ,BK,BJ,BK,BJ,BK,BJ,BK,BJ,BK,BJ,BK]),(false,[.int .i64 e])]):=by
 refine AG Tryz.func50 fun E a=>?_
 refine AB a d ?_;refine AB a (Nk b) ?_;refine AB a (Nj he) ?_;exact AE ⟨⟨rfl,rfl,rfl,rfl,rfl,rfl,rfl,rfl,rfl,rfl,rfl,rfl,rfl,rfl,rfl,rfl,rfl,rfl,rfl,rfl,rfl,rfl,trivial⟩,t2,trivial⟩
theorem qB (he:e≠0) (b:CF 112 [.agg (AH Ta Aa Tb Ab),.agg (AH Tc Ac Td Ad)] (.AI [(true,(CQ Tl Al Tm Am Tn An)),(false,[.int .i64 e])])):CF 58 [.agg (AH Ta Aa Tb Ab),.agg (AH Tc Ac Td Ad)] (.AI [(true,[.int .i64 0,BJ,BK,BJ,BK,BJ,BK,BJ,BK,BJ,BK,BJ,BK,BJ,BK,BJ,BK,BJ,BK,BJ,BK]),(false,[.int .i64 e])]):=by
 refine AG Tryz.func58 fun E a=>?_
 refine AB a b ?_;refine AB a (Nj he) ?_;exact AE ⟨⟨rfl,rfl,rfl,rfl,rfl,rfl,rfl,rfl,rfl,rfl,rfl,rfl,rfl,rfl,rfl,rfl,rfl,rfl,rfl,rfl,rfl,rfl,trivial⟩,t2,trivial⟩
theorem qU (he:e≠0) (j:CF 212 [.agg (AH Ta Aa Tb Ab),.agg (AH Tc Ac Td Ad),.agg (AJ Tt At)] (.AI [(true,(CQ Tl Al Tm Am Tn An)),(false,[.int .i64 e])])) (h:CF 118 [.agg (AH Tc Ac Td Ad)] (.agg (AH Tu Au Tv Av))) (d:CF 82 [.agg (AH Tu Au Tv Av),.agg (AJ Tt At)] (.AI [(true,(AH Tx Ax Ty Ay)),(false,[.int .i64 f])])) (b:CF 83 [.agg (AH Tc Ac Td Ad),.agg (AH Tx Ax Ty Ay)] (.AI [(true,(AH Tp Ap Tq Aq)),(false,[.int .i64 g])])):CF 119 [.agg (AH Ta Aa Tb Ab),.agg (AH Tc Ac Td Ad),.agg (AJ Tt At)] (.AI [(true,[.int .i64 0,BJ,BK,BJ,BK,BJ,BK,BJ,BK,BJ,BK,BJ,BK,BJ,BK,BJ,BK,BJ,BK,BJ,BK]),(false,[.int .i64 e])]):=by
 refine AG Tryz.func119 fun E a=>?_
 refine AB a j ?_;refine AB a h ?_;refine AB a d ?_;refine AB a b ?_;refine AB a (Nj he) ?_;exact AE ⟨⟨rfl,rfl,rfl,rfl,rfl,rfl,rfl,rfl,rfl,rfl,rfl,rfl,rfl,rfl,rfl,rfl,rfl,rfl,rfl,rfl,rfl,rfl,trivial⟩,t2,trivial⟩
theorem qF (h:CF 78 [.agg (AH Ta Aa Tb Ab),.agg (AH Tc Ac Td Ad)] (.AI [(true,(AH Tx Ax Ty Ay)),(false,[.int .i64 f])])) (d:CF 113 [.agg (AH Ta Aa Tb Ab)] (.agg (AH Tu Au Tv Av))) (b:CF 78 [.agg (AH Tx Ax Ty Ay),.agg (AH Tu Au Tv Av)] (.AI [(true,(AH Tp Ap Tq Aq)),(false,[.int .i64 g])])):CF 55 [.agg (AH Ta Aa Tb Ab),.agg (AH Tc Ac Td Ad)] (.AI [(true,(AH Tp Ap Tq Aq)),(false,[.int .i64 g])]):=by
 refine AG Tryz.func55 fun E a=>?_
 refine AB a (Nk h) ?_;refine AB a d ?_;refine AB a b ?_;exact AE ⟨⟨rfl,rfl,rfl,rfl,rfl,trivial⟩,t2,trivial⟩
theorem cJ {p:Int} {p0:Nat} {x y:el AQ} (d:AO p p0) (hb:p0<=1000000) (h:cr[2*p0]? =some x) (j:cr[2*p0+1]? =some y):CF 15 [.one (.sl AQ cr),.one (.int .i64 p)] (.agg (AH x.1 x.2 y.1 y.2)):=by
 have m:=d.eq;refine AG Tryz.func15 fun E o=>?_
 intro q n;refine D6 h ?_;intro k a l b;refine D6 j ?_;exact AE ⟨⟨rfl,rfl,rfl,rfl,rfl,trivial⟩,trivial⟩
theorem Lx {P C:List Int} {V:List Ex} {i t a b c:Int} {i0:Nat} (m:AO i i0) (hb:i0<=1000) (h:P[i0]? =some a) (l:P[i0+1]? =some b) (j:c=if a=t then b else a):CF 49 [.agg [.int .i64 kd,.sl .i64 P,.sl .i64 C,.sl .ex V,.int .i64 sd],.one (.int .i64 i),.one (.int .i64 t)] (.one (.int .i64 c)):=by
 have o:=m.eq;refine AG Tryz.func49 fun E p=>?_
 refine D6 h ?_;refine CH (fun d=>?_) fun d=>?_
 ·refine D6 h ?_;exact AF (by rw[j,if_neg d])
 intro n k;refine D6 l ?_;exact AF (by rw[j,if_pos d])
def IY (EZ:Int) (s:Int->Int) (c:Int):Bool:=decide (c=EZ)||decide (0<s c)
theorem Q0 {q:Int->Bool} {C:List Int} {i:Nat} {x:Int} (h:C[i]? =some x):(C.drop i).all q=(q x&&(C.drop (i+1)).all q):=by
 have a:=C6 h;rw[List.drop_eq_getElem_cons a,List.all_cons];rw[List.getElem?_eq_getElem a] at h;rw[Option.some.inj h]
theorem qM {P C:List Int} {V:List Ex} {Ah EZ:Int} {s:Int->Int} {b:Bool} (U:0<=Ah/\Ah<=1000000) (h:∀c∈C,c≠EZ->(0<=c/\c<=1000000)/\∃x:el AQ,cr[(2*Ah+c).toNat]? =some x/\CF 24 [.agg (AJ x.1 x.2)] (.one (.int .i64 (s c)))) (hb:b=C.all (IY EZ s)):CF 44 [.agg [.int .i64 kd,.sl .i64 P,.sl .i64 C,.sl .ex V,.int .i64 sd],.one (.int .i64 Ah),.one (.int .i64 EZ),.one (.sl AQ cr)] (.one (.bool b)):=by
 refine AG Tryz.func44 fun E F=>?_
 refine BN [] [1,2,3,4,9] [4] (fun vs z k=>∃(i':Nat) (i:Int),vs=[.one (.int .i64 Ah),.one (.int .i64 EZ),.one (.sl AQ cr),.one (.AR 4 0 0),.one (.int .i64 i)]/\z=[.var 0 [.int .i64 kd,.sl .i64 P,.sl .i64 C,.sl .ex V,.int .i64 sd]]/\(AO i i'/\i'<=C.length)/\b=(C.drop i').all (IY EZ s)/\k=C.length-i') (C.length-0) ⟨0,0,rfl,rfl,⟨BD 0,by omega⟩,hb,rfl⟩ ?_;rintro S m vs z L ⟨i',i,rfl,rfl,⟨I,J⟩,hinv,K⟩;have T:=I.eq;refine AS ?_;rintro M ⟨A,f13⟩;refine BW (fun q=>?_) fun q=>?_
 ·exact AF (by rw[hinv,List.drop_eq_nil_of_le (by omega)];rfl)
 refine .inr ?_;refine AW i' fun d a=>?_
 try conv=>cbv
 refine No (fun j=>?_) fun j=>?_
 ·intro l p;exact Ba m ⟨i'+1,l,rfl,rfl,⟨⟨by omega⟩,by omega⟩,hinv.trans ((Q0 a).trans (by rw[show IY EZ s d=true by unfold IY;rw[decide_eq_true j,Bool.true_or]];rfl)),rfl⟩
 obtain⟨⟨G,H⟩,R,n,o⟩:=h d (List.mem_of_getElem? a) j;refine AK ?_;intro N B;refine D6 a ?_;intro O D;refine D6 n ?_;refine AB F o ?_;refine cK (fun v=>?_) fun v=>?_
 ·exact AF (by rw[hinv,Q0 a,show IY EZ s d=false by unfold IY;rw[decide_eq_false j,decide_eq_false (show ¬0<s d by omega)];rfl];rfl)
 intro l p;exact Ba m ⟨i'+1,l,rfl,rfl,⟨⟨by omega⟩,by omega⟩,hinv.trans ((Q0 a).trans (by rw[show IY EZ s d=true by unfold IY;rw[decide_eq_true (show 0<s d by omega),Bool.or_true]];rfl)),rfl⟩
end
section
open Go.RowKit
abbrev SF (k:Int) (t:Nat->List LR) (a:Nat->LR):List AC:=[.int .i64 k,.sl (.sl AA) (t 0),.sl AA (a 0),.sl (.sl AA) (t 1),.sl AA (a 1),.sl (.sl AA) (t 2),.sl AA (a 2),.sl (.sl AA) (t 3),.sl AA (a 3),.sl (.sl AA) (t 4),.sl AA (a 4),.sl (.sl AA) (t 5),.sl AA (a 5),.sl (.sl AA) (t 6),.sl AA (a 6),.sl (.sl AA) (t 7),.sl AA (a 7),.sl (.sl AA) (t 8),.sl AA (a 8),.sl (.sl AA) (t 9),.sl AA (a 9)]
abbrev DK (k:Int) (t:Nat->List LR) (a:Nat->LR) (e:Int):AV:= .AI [(true,SF k t a),(false,[.int .i64 e])]
variable {Aa Ab Ac Ad Ax Ay:LR} {Q:List (el Bz)} {Ta Tb Tc Td Tx Ty:List LR} {cr nl:List (el AQ)} {e k1 kd pa pb sd t:Int}
theorem qV {P C:List Int} {V:List Ex} {tg:Nat->List LR} {ag:Nat->LR} (G:5<=kd/\kd<=8) (c1:CF 103 [.agg [.int .i64 kd,.sl .i64 P,.sl .i64 C,.sl .ex V,.int .i64 sd],.one (.int .i64 0),.one (.int .i64 t)] (.one (.bool true))) (c2:CF 103 [.agg [.int .i64 kd,.sl .i64 P,.sl .i64 C,.sl .ex V,.int .i64 sd],.one (.int .i64 2),.one (.int .i64 t)] (.one (.bool true))) (c3:CF 49 [.agg [.int .i64 kd,.sl .i64 P,.sl .i64 C,.sl .ex V,.int .i64 sd],.one (.int .i64 0),.one (.int .i64 t)] (.one (.int .i64 pa))) (p:CF 49 [.agg [.int .i64 kd,.sl .i64 P,.sl .i64 C,.sl .ex V,.int .i64 sd],.one (.int .i64 2),.one (.int .i64 t)] (.one (.int .i64 pb))) (q:CF 15 [.one (.sl AQ cr),.one (.int .i64 pa)] (.agg (AH Ta Aa Tb Ab))) (s:CF 15 [.one (.sl AQ cr),.one (.int .i64 pb)] (.agg (AH Tc Ac Td Ad))) (v:kd=5->∃(m:el AQ) (Tu:List LR) (Au:LR) (Tv:List LR) (Av:LR) (Ts:List LR) (As:LR) (f:Int),nl[0]? =some m/\CF 116 [.agg (AH Ta Aa Tb Ab),.agg (AH Tc Ac Td Ad),.agg (AJ m.1 m.2)] (.AI [(true,(CQ Tu Au Tv Av Ts As)),(false,[.int .i64 f])])/\CF 48 [.agg (AH Tu Au Tv Av),.agg (AJ Ts As),.one (.int .i64 f)] (DK k1 tg ag e)) (z:kd=6->CF 50 [.agg (AH Ta Aa Tb Ab),.agg (AH Tc Ac Td Ad)] (DK k1 tg ag e)) (B:kd=8->∃(Tl:List LR) (Al:LR) (Tm:List LR) (Am:LR) (Tn:List LR) (An:LR) (Tx:List LR) (Ax:LR) (Ty:List LR) (Ay:LR) (Tu:List LR) (Au:LR) (Tv:List LR) (Av:LR) (f:Int),CF 117 [.agg (AH Ta Aa Tb Ab),.agg (AH Tc Ac Td Ad)] (.AI [(true,(CQ Tl Al Tm Am Tn An)),(false,[.int .i64 f])])/\CF 53 [.agg (AH Ta Aa Tb Ab),.agg (AH Tc Ac Td Ad)] (.agg (AH Tx Ax Ty Ay))/\CF 118 [.agg (AH Tx Ax Ty Ay)] (.agg (AH Tu Au Tv Av))/\CF 52 [.agg (CQ Tl Al Tm Am Tn An),.agg (AH Tu Au Tv Av),.one (.int .i64 f)] (DK k1 tg ag e)) (A:kd=7->∃b:Bool,CF 19 [.agg (AH Ta Aa Tb Ab),.agg (AH Tc Ac Td Ad)] (.one (.bool b))/\(b=true->(k1=0/\tg=(fun _=>[])/\ag=fun _=>[])/\e=11)/\(b=false->∃(Tu:List LR) (Au:LR) (Tv:List LR) (Av:LR) (Ts:List LR) (As:LR) (f:Int) (g:Int),CF 54 [.agg (AH Ta Aa Tb Ab),.agg (AH Tc Ac Td Ad)] (.AI [(true,(AH Tu Au Tv Av)),(false,[.int .i64 f])])/\CF 72 [.agg (AH Ta Aa Tb Ab),.agg (AH Tu Au Tv Av)] (.AI [(true,(AJ Ts As)),(false,[.int .i64 g])])/\CF 48 [.agg (AH Tu Au Tv Av),.agg (AJ Ts As),.one (.int .i64 g)] (DK k1 tg ag e))):CF 60 [.agg [.int .i64 kd,.sl .i64 P,.sl .i64 C,.sl .ex V,.int .i64 sd],.one (.sl AQ nl),.one (.int .i64 t),.one (.sl Bz Q),.one (.sl AQ cr)] (.AI [(true,[.int .i64 k1,.sl (.sl AA) (tg 0),.sl AA (ag 0),.sl (.sl AA) (tg 1),.sl AA (ag 1),.sl (.sl AA) (tg 2),.sl AA (ag 2),.sl (.sl AA) (tg 3),.sl AA (ag 3),.sl (.sl AA) (tg 4),.sl AA (ag 4),.sl (.sl AA) (tg 5),.sl AA (ag 5),.sl (.sl AA) (tg 6),.sl AA (ag 6),.sl (.sl AA) (tg 7),.sl AA (ag 7),.sl (.sl AA) (tg 8),.sl AA (ag 8),.sl (.sl AA) (tg 9),.sl AA (ag 9)]),(false,[.int .i64 e])]):=by
 refine AG Tryz.func60 fun E a=>?_
 refine AB a c1 ?_;refine AB a c2 ?_;refine AB a c3 ?_;refine AB a q ?_;refine AB a p ?_;refine AB a s ?_;refine .inr ?_;refine BO (fun j=>?_) fun j=>?_
 ·obtain⟨m,Tu,Au,Tv,Av,Ts,As,f,F,d,h⟩:=v j;refine⟨m,fun _=>⟨by omega,F⟩,?_⟩;try conv=>cbv
  refine AB a d ?_;refine AB a h ?_;exact AE ⟨⟨rfl,rfl,rfl,rfl,rfl,rfl,rfl,rfl,rfl,rfl,rfl,rfl,rfl,rfl,rfl,rfl,rfl,rfl,rfl,rfl,rfl,rfl,trivial⟩,t2,trivial⟩
 refine BO (fun k=>?_) fun k=>?_
 ·refine AB a ((z k)) ?_;exact AE ⟨⟨rfl,rfl,rfl,rfl,rfl,rfl,rfl,rfl,rfl,rfl,rfl,rfl,rfl,rfl,rfl,rfl,rfl,rfl,rfl,rfl,rfl,rfl,trivial⟩,t2,trivial⟩
 refine BO (fun l=>?_) fun l=>?_
 ·obtain⟨Tl,Al,Tm,Am,Tn,An,Tx,Ax,Ty,Ay,Tu,Au,Tv,Av,f,d,h,h3,o⟩:=B l;refine AB a d ?_;refine AB a h ?_;refine AB a h3 ?_;refine AB a o ?_;exact AE ⟨⟨rfl,rfl,rfl,rfl,rfl,rfl,rfl,rfl,rfl,rfl,rfl,rfl,rfl,rfl,rfl,rfl,rfl,rfl,rfl,rfl,rfl,rfl,trivial⟩,t2,trivial⟩
 obtain⟨b,d,D,n⟩:=A (by omega);refine AB a d ?_;cases b <;> conv=>cbv
 ·obtain⟨Tu,Au,Tv,Av,Ts,As,f,g,h,h3,o⟩:=n rfl;refine AB a h ?_;refine AB a h3 ?_;refine AB a o ?_;exact AE ⟨⟨rfl,rfl,rfl,rfl,rfl,rfl,rfl,rfl,rfl,rfl,rfl,rfl,rfl,rfl,rfl,rfl,rfl,rfl,rfl,rfl,rfl,rfl,trivial⟩,t2,trivial⟩
 obtain⟨⟨rfl,rfl,rfl⟩,rfl⟩:=D rfl;exact AE ⟨⟨rfl,rfl,AL,AL,AL,AL,AL,AL,AL,AL,AL,AL,AL,AL,AL,AL,AL,AL,AL,AL,AL,AL,trivial⟩,t2,trivial⟩
theorem qW {P C:List Int} {V:List Ex} {tg:Nat->List LR} {ag:Nat->LR} (D:5<=kd/\kd<=8) (c1:CF 103 [.agg [.int .i64 kd,.sl .i64 P,.sl .i64 C,.sl .ex V,.int .i64 sd],.one (.int .i64 0),.one (.int .i64 t)] (.one (.bool true))) (c2:CF 103 [.agg [.int .i64 kd,.sl .i64 P,.sl .i64 C,.sl .ex V,.int .i64 sd],.one (.int .i64 2),.one (.int .i64 t)] (.one (.bool false))) (c3:CF 49 [.agg [.int .i64 kd,.sl .i64 P,.sl .i64 C,.sl .ex V,.int .i64 sd],.one (.int .i64 0),.one (.int .i64 t)] (.one (.int .i64 pa))) (n:CF 49 [.agg [.int .i64 kd,.sl .i64 P,.sl .i64 C,.sl .ex V,.int .i64 sd],.one (.int .i64 2),.one (.int .i64 t)] (.one (.int .i64 pb))) (o:CF 15 [.one (.sl AQ cr),.one (.int .i64 pa)] (.agg (AH Ta Aa Tb Ab))) (p:CF 15 [.one (.sl AQ cr),.one (.int .i64 pb)] (.agg (AH Tc Ac Td Ad))) {x2 j:el Bz} (g2:Q[2]? =some x2) (q:Q[3]? =some j) (cw:CF 53 [.agg (AH x2.1.1 x2.1.2 x2.2.1 x2.2.2),.agg (AH j.1.1 j.1.2 j.2.1 j.2.2)] (.agg (AH Tx Ax Ty Ay))) (s:kd=5->∃(m:el AQ) (Tm:List LR) (Am:LR),nl[0]? =some m/\CF 33 [.agg (AJ m.1 m.2)] (.agg (AJ Tm Am))/\CF 119 [.agg (AH Ta Aa Tb Ab),.agg (AH Tx Ax Ty Ay),.agg (AJ Tm Am)] (DK k1 tg ag e)) (v:kd=6->CF 58 [.agg (AH Ta Aa Tb Ab),.agg (AH Tx Ax Ty Ay)] (DK k1 tg ag e)) (z:kd=7->∃(Tu:List LR) (Au:LR) (Tv:List LR) (Av:LR),CF 118 [.agg (AH Tx Ax Ty Ay)] (.agg (AH Tu Au Tv Av))/\CF 58 [.agg (AH Ta Aa Tb Ab),.agg (AH Tu Au Tv Av)] (DK k1 tg ag e)) (A:kd=8->∃(Ts:List LR) (As:LR) (f:Int),CF 80 [.agg (AH Tx Ax Ty Ay)] (.AI [(true,(AJ Ts As)),(false,[.int .i64 f])])/\CF 48 [.agg (AH Ta Aa Tb Ab),.agg (AJ Ts As),.one (.int .i64 f)] (DK k1 tg ag e)):CF 60 [.agg [.int .i64 kd,.sl .i64 P,.sl .i64 C,.sl .ex V,.int .i64 sd],.one (.sl AQ nl),.one (.int .i64 t),.one (.sl Bz Q),.one (.sl AQ cr)] (.AI [(true,[.int .i64 k1,.sl (.sl AA) (tg 0),.sl AA (ag 0),.sl (.sl AA) (tg 1),.sl AA (ag 1),.sl (.sl AA) (tg 2),.sl AA (ag 2),.sl (.sl AA) (tg 3),.sl AA (ag 3),.sl (.sl AA) (tg 4),.sl AA (ag 4),.sl (.sl AA) (tg 5),.sl AA (ag 5),.sl (.sl AA) (tg 6),.sl AA (ag 6),.sl (.sl AA) (tg 7),.sl AA (ag 7),.sl (.sl AA) (tg 8),.sl AA (ag 8),.sl (.sl AA) (tg 9),.sl AA (ag 9)]),(false,[.int .i64 e])]):=by
 refine AG Tryz.func60 fun E a=>?_
 refine AB a c1 ?_;refine AB a c2 ?_;refine AB a c3 ?_;refine AB a o ?_;refine AB a n ?_;refine AB a p ?_;refine⟨x2,fun _=>⟨by omega,g2⟩,?_⟩;try conv=>cbv
 refine⟨j,fun _=>⟨by omega,q⟩,?_⟩;try conv=>cbv
 refine AB a cw ?_;refine .inr ?_;refine .inr ?_;refine BO (fun b=>?_) fun b=>?_
 ·obtain⟨m,Tm,Am,B,k,l⟩:=s b;refine⟨m,fun _=>⟨by omega,B⟩,?_⟩;try conv=>cbv
  refine .inr ?_;refine AB a k ?_;refine AB a l ?_;exact AE ⟨⟨rfl,rfl,rfl,rfl,rfl,rfl,rfl,rfl,rfl,rfl,rfl,rfl,rfl,rfl,rfl,rfl,rfl,rfl,rfl,rfl,rfl,rfl,trivial⟩,t2,trivial⟩
 refine BO (fun d=>?_) fun d=>?_
 ·refine AB a ((v d)) ?_;exact AE ⟨⟨rfl,rfl,rfl,rfl,rfl,rfl,rfl,rfl,rfl,rfl,rfl,rfl,rfl,rfl,rfl,rfl,rfl,rfl,rfl,rfl,rfl,rfl,trivial⟩,t2,trivial⟩
 refine CH (fun h=>?_) fun h=>?_
 ·obtain⟨Ts,As,f,k,l⟩:=A (by omega);refine AB a k ?_;refine AB a l ?_;exact AE ⟨⟨rfl,rfl,rfl,rfl,rfl,rfl,rfl,rfl,rfl,rfl,rfl,rfl,rfl,rfl,rfl,rfl,rfl,rfl,rfl,rfl,rfl,rfl,trivial⟩,t2,trivial⟩
 obtain⟨Tu,Au,Tv,Av,k,l⟩:=z h;refine AB a k ?_;refine AB a l ?_;exact AE ⟨⟨rfl,rfl,rfl,rfl,rfl,rfl,rfl,rfl,rfl,rfl,rfl,rfl,rfl,rfl,rfl,rfl,rfl,rfl,rfl,rfl,rfl,rfl,trivial⟩,t2,trivial⟩
theorem qX {P C:List Int} {V:List Ex} {tg:Nat->List LR} {ag:Nat->LR} (J:5<=kd/\kd<=8) (c1:CF 103 [.agg [.int .i64 kd,.sl .i64 P,.sl .i64 C,.sl .ex V,.int .i64 sd],.one (.int .i64 0),.one (.int .i64 t)] (.one (.bool false))) (c2:CF 103 [.agg [.int .i64 kd,.sl .i64 P,.sl .i64 C,.sl .ex V,.int .i64 sd],.one (.int .i64 2),.one (.int .i64 t)] (.one (.bool true))) (c3:CF 49 [.agg [.int .i64 kd,.sl .i64 P,.sl .i64 C,.sl .ex V,.int .i64 sd],.one (.int .i64 0),.one (.int .i64 t)] (.one (.int .i64 pa))) (v:CF 49 [.agg [.int .i64 kd,.sl .i64 P,.sl .i64 C,.sl .ex V,.int .i64 sd],.one (.int .i64 2),.one (.int .i64 t)] (.one (.int .i64 pb))) (z:CF 15 [.one (.sl AQ cr),.one (.int .i64 pa)] (.agg (AH Ta Aa Tb Ab))) (A:CF 15 [.one (.sl AQ cr),.one (.int .i64 pb)] (.agg (AH Tc Ac Td Ad))) {x2 k:el Bz} (g2:Q[2]? =some x2) (B:Q[3]? =some k) {j x1:el Bz} {q s:List LR} {o p:LR} (g0:Q[0]? =some j) (g1:Q[1]? =some x1) (cw:CF 53 [.agg (AH x2.1.1 x2.1.2 x2.2.1 x2.2.2),.agg (AH k.1.1 k.1.2 k.2.1 k.2.2)] (.agg (AH q o s p))) (cv:CF 53 [.agg (AH j.1.1 j.1.2 j.2.1 j.2.2),.agg (AH x1.1.1 x1.1.2 x1.2.1 x1.2.2)] (.agg (AH Tx Ax Ty Ay))) (D:kd=5->∃(m:el AQ),nl[0]? =some m/\CF 119 [.agg (AH Tc Ac Td Ad),.agg (AH Tx Ax Ty Ay),.agg (AJ m.1 m.2)] (DK k1 tg ag e)) (F:kd=6->CF 58 [.agg (AH Tc Ac Td Ad),.agg (AH Tx Ax Ty Ay)] (DK k1 tg ag e)) (G:kd=7->∃(Tu:List LR) (Au:LR) (Tv:List LR) (Av:LR),CF 118 [.agg (AH Tx Ax Ty Ay)] (.agg (AH Tu Au Tv Av))/\CF 58 [.agg (AH Tc Ac Td Ad),.agg (AH Tu Au Tv Av)] (DK k1 tg ag e)) (H:kd=8->∃(Ts:List LR) (As:LR) (f:Int),CF 80 [.agg (AH Tx Ax Ty Ay)] (.AI [(true,(AJ Ts As)),(false,[.int .i64 f])])/\CF 48 [.agg (AH Tc Ac Td Ad),.agg (AJ Ts As),.one (.int .i64 f)] (DK k1 tg ag e)):CF 60 [.agg [.int .i64 kd,.sl .i64 P,.sl .i64 C,.sl .ex V,.int .i64 sd],.one (.sl AQ nl),.one (.int .i64 t),.one (.sl Bz Q),.one (.sl AQ cr)] (.AI [(true,[.int .i64 k1,.sl (.sl AA) (tg 0),.sl AA (ag 0),.sl (.sl AA) (tg 1),.sl AA (ag 1),.sl (.sl AA) (tg 2),.sl AA (ag 2),.sl (.sl AA) (tg 3),.sl AA (ag 3),.sl (.sl AA) (tg 4),.sl AA (ag 4),.sl (.sl AA) (tg 5),.sl AA (ag 5),.sl (.sl AA) (tg 6),.sl AA (ag 6),.sl (.sl AA) (tg 7),.sl AA (ag 7),.sl (.sl AA) (tg 8),.sl AA (ag 8),.sl (.sl AA) (tg 9),.sl AA (ag 9)]),(false,[.int .i64 e])]):=by
 refine AG Tryz.func60 fun E a=>?_
 refine AB a c1 ?_;refine AB a c2 ?_;refine AB a c3 ?_;refine AB a z ?_;refine AB a v ?_;refine AB a A ?_;refine⟨x2,fun _=>⟨by omega,g2⟩,?_⟩;try conv=>cbv
 refine⟨k,fun _=>⟨by omega,B⟩,?_⟩;try conv=>cbv
 refine AB a cw ?_;refine .inr ?_;refine⟨j,fun _=>⟨by omega,g0⟩,?_⟩;try conv=>cbv
 refine⟨x1,fun _=>⟨by omega,g1⟩,?_⟩;try conv=>cbv
 refine AB a cv ?_;refine .inr ?_;refine BO (fun b=>?_) fun b=>?_
 ·obtain⟨m,I,l⟩:=D b;refine⟨m,fun _=>⟨by omega,I⟩,?_⟩;try conv=>cbv
  refine .inr ?_;refine AB a l ?_;exact AE ⟨⟨rfl,rfl,rfl,rfl,rfl,rfl,rfl,rfl,rfl,rfl,rfl,rfl,rfl,rfl,rfl,rfl,rfl,rfl,rfl,rfl,rfl,rfl,trivial⟩,t2,trivial⟩
 refine BO (fun d=>?_) fun d=>?_
 ·refine AB a ((F d)) ?_;exact AE ⟨⟨rfl,rfl,rfl,rfl,rfl,rfl,rfl,rfl,rfl,rfl,rfl,rfl,rfl,rfl,rfl,rfl,rfl,rfl,rfl,rfl,rfl,rfl,trivial⟩,t2,trivial⟩
 refine CH (fun h=>?_) fun h=>?_
 ·obtain⟨Ts,As,f,n,l⟩:=H (by omega);refine AB a n ?_;refine AB a l ?_;exact AE ⟨⟨rfl,rfl,rfl,rfl,rfl,rfl,rfl,rfl,rfl,rfl,rfl,rfl,rfl,rfl,rfl,rfl,rfl,rfl,rfl,rfl,rfl,rfl,trivial⟩,t2,trivial⟩
 obtain⟨Tu,Au,Tv,Av,n,l⟩:=G h;refine AB a n ?_;refine AB a l ?_;exact AE ⟨⟨rfl,rfl,rfl,rfl,rfl,rfl,rfl,rfl,rfl,rfl,rfl,rfl,rfl,rfl,rfl,rfl,rfl,rfl,rfl,rfl,rfl,rfl,trivial⟩,t2,trivial⟩
end
section
open Go.RowKit
variable {Aa Ab Ax vl:LR} {Ta Tb Tx:List LR} {EZ e e1 f1 i kd Ah r sd:Int} {cr:List (el AQ)} {g:FuncId} {i0 p0:Nat}
theorem FQ {A1 A2 A3 A4 A5 X:Prop} {d:Nat->Af->Prop} {h j k:Nat->Af->List AV->AV->Af->Prop} (id:Nat) {b:Af} {a:List AV} {r:AV} {b1:Af} (l:d id b) (h3:j id b a r b1) (m:h id b a r b1) (n:k id b a r b1):
  A1\/A2\/A3\/A4\/A5\/(∃(id:Nat) (b:Af) (a:List AV) (r:AV) (b1:Af),(Unit->d id b/\h id b a r b1)/\(Unit->j id b a r b1)/\k id b a r b1)\/X:=
 .inr (.inr (.inr (.inr (.inr (.inl ⟨id,b,a,r,b1,fun _=>⟨l,m⟩,fun _=>h3,n⟩)))))
abbrev EH (kd:Int) (P C:List Int) (V:List Ex) (sd:Int) (vl:LR) (AY:List Int) (Ah:Int) (cr:List (el AQ)) (e:Int):List AC:=[.int .i64 kd,.sl .i64 P,.sl .i64 C,.sl .ex V,.int .i64 sd,.sl AA vl,.sl .i64 AY,.int .i64 Ah,.sl AQ cr,.int .i64 e]
abbrev HV:T:= .pr bF (.pr (.sl AA) (.pr (.sl .i64) (.pr .i64 (.pr (.sl AQ) .i64))))
theorem oH {P C:List Int} {V:List Ex} {AY:List Int} {p:Int} {x y:el AQ} (h:AO p p0) (hb:p0<=1000000) (j:cr[2*p0]? =some x) (k:cr[2*p0+1]? =some y):D4 Tryz.prog 236 [.one (.AR 0 0 0),.one (.int .i64 p)] (.var 0 (EH kd P C V sd vl AY Ah cr e)) (.agg (AH x.1 x.2 y.1 y.2)) (.var 0 (EH kd P C V sd vl AY Ah cr e)):=by
 have o:=h.eq;refine FI Tryz.func236 (by kernel_rfl) rfl fun E q=>?_
 refine AK ?_;intro l a;refine D6 j ?_;intro m b n d;refine D6 k ?_;refine fun _=>⟨⟨⟨⟨rfl,rfl,rfl,rfl,rfl,trivial⟩,trivial⟩,rfl,by simp⟩,rfl⟩
theorem oM {P C:List Int} {V:List Ex} {AY:List Int} (d:AO i i0) {p:Int} {x y:el AQ} (h:AO p p0) (hb:p0<=1000000) (j:cr[2*p0]? =some x) (k:cr[2*p0+1]? =some y) (b:P[i0]? =some p):D4 Tryz.prog 144 [.one (.AR 0 0 0),.one (.int .i64 i)] (.var 0 (EH kd P C V sd vl AY Ah cr e)) (.agg (AH x.1 x.2 y.1 y.2)) (.var 0 (EH kd P C V sd vl AY Ah cr e)):=by
 have l:=d.eq;refine FI Tryz.func144 (by kernel_rfl) rfl fun E a=>?_
 conv=>cbv
 refine D6 b ?_;refine FQ 0 rfl (FY a (oH h hb j k)) ⟨⟨⟨rfl,rfl⟩,rfl⟩,rfl,trivial⟩ ?_;try conv=>cbv
 refine fun _=>⟨⟨⟨⟨rfl,rfl,rfl,rfl,rfl,trivial⟩,trivial⟩,rfl,by simp⟩,rfl⟩
theorem oP {P C:List Int} {V:List Ex} {AY:List Int} {b1 b2:Bool} {l1 l2:List UInt32} {Tt:List LR} {At:LR} (d:AO i i0) (h:vl[i0]? =some ((b1,l1),b2,l2)) (b:CF 235 [.agg (Bw b1 l1 b2 l2)] (.agg (AJ Tt At))):D4 Tryz.prog 146 [.one (.AR 0 0 0),.one (.int .i64 i)] (.var 0 (EH kd P C V sd vl AY Ah cr e)) (.agg (AJ Tt At)) (.var 0 (EH kd P C V sd vl AY Ah cr e)):=by
 have j:=d.eq;refine FI Tryz.func146 (by kernel_rfl) rfl fun E a=>?_
 conv=>cbv
 refine⟨((b1,l1),b2,l2),fun _=>⟨by omega,by rw[show i.toNat=i0 by omega];exact h⟩,?_⟩;try conv=>cbv
 refine AB a b ?_;refine fun _=>⟨⟨⟨t3,trivial⟩,rfl,by simp⟩,rfl⟩
theorem oJ {P C:List Int} {V:List Ex} {AY:List Int} (he:e1=if e=0 then f1 else e):D4 Tryz.prog 160 [.one (.AR 0 0 0),.agg (AJ Ta Aa),.one (.int .i64 f1)] (.var 0 (EH kd P C V sd vl AY Ah cr e)) (.agg (AJ Ta Aa)) (.var 0 (EH kd P C V sd vl AY Ah cr e1)):=by
 refine FI Tryz.func160 (by kernel_rfl) rfl fun E h=>?_
 refine AS ?_;intro d b;refine .inr ?_;cases d <;> conv=>cbv
 ·have a:=Bp b;refine fun _=>⟨⟨⟨t3,trivial⟩,rfl,by simp⟩,by rw[he,if_neg a];rfl⟩
 have a:=Br b;refine fun _=>⟨⟨⟨t3,trivial⟩,rfl,by simp⟩,by rw[he,if_pos a];rfl⟩
theorem oK {P C:List Int} {V:List Ex} {AY:List Int} (a:CF g [.agg (AJ Ta Aa),.agg (AJ Tb Ab)] (.AI [(true,(AJ Tx Ax)),(false,[.int .i64 f1])])):D4 Tryz.prog 164 [.one (.AR 0 0 0),.one (.fn g),.agg (AJ Ta Aa),.agg (AJ Tb Ab)] (.var 0 (EH kd P C V sd vl AY Ah cr 0)) (.agg (AJ Tx Ax)) (.var 0 (EH kd P C V sd vl AY Ah cr f1)):=by
 refine FI Tryz.func164 (by kernel_rfl) rfl fun E b=>?_
 conv=>cbv
 refine BH ?_;refine AB b a ?_;refine FQ 0 rfl (FY b (oJ (e:=0) (e1:=f1) (by simp))) ⟨⟨⟨rfl,rfl⟩,rfl⟩,t2,rfl,trivial⟩ ?_;try conv=>cbv
 refine fun _=>⟨⟨⟨t3,trivial⟩,rfl,by simp⟩,rfl⟩
theorem oO {P C:List Int} {V:List Ex} {AY:List Int} (a:CF 214 [.agg (AJ Ta Aa),.agg (AJ Ta Aa)] (.AI [(true,(AJ Tx Ax)),(false,[.int .i64 f1])])):D4 Tryz.prog 145 [.one (.AR 0 0 0),.agg (AJ Ta Aa)] (.var 0 (EH kd P C V sd vl AY Ah cr 0)) (.agg (AJ Tx Ax)) (.var 0 (EH kd P C V sd vl AY Ah cr f1)):=by
 refine FI Tryz.func145 (by kernel_rfl) rfl fun E b=>?_
 conv=>cbv
 refine FQ 0 rfl (FY b (oK a)) ⟨⟨⟨rfl,rfl⟩,rfl⟩,rfl,t2,t2,trivial⟩ ?_;try conv=>cbv
 refine fun _=>⟨⟨⟨t3,trivial⟩,rfl,by simp⟩,rfl⟩
theorem oG {P C:List Int} {V:List Ex} {AY:List Int} {Ts:List LR} {As:LR} (he:e1=if r=0 then 6 else 0) (j:CF 70 [.agg (AJ Ts As)] (.one (.int .i64 r))):D4 Tryz.prog 143 [.one (.AR 0 0 0),.agg (AH Ta Aa Tb Ab),.agg (AJ Ts As)] (.var 0 (EH kd P C V sd vl AY Ah cr 0)) (.agg [.int .i64 2,BJ,BK,BJ,BK,BJ,BK,BJ,BK,BJ,BK,.sl (.sl AA) Ta,.sl AA Aa,.sl (.sl AA) Tb,.sl AA Ab,.sl (.sl AA) Ts,.sl AA As,BJ,BK,BJ,BK]) (.var 0 (EH kd P C V sd vl AY Ah cr e1)):=by
 refine FI Tryz.func143 (by kernel_rfl) rfl fun E h=>?_
 conv=>cbv
 refine CU ?_;refine AB h j ?_;intro d b;refine .inr ?_;cases d <;> conv=>cbv
 ·have a:=Bp b;refine fun _=>⟨⟨⟨⟨rfl,rfl,AL,AL,AL,AL,AL,AL,AL,AL,AL,AL,rfl,rfl,rfl,rfl,rfl,rfl,AL,AL,AL,AL,trivial⟩,trivial⟩,rfl,by simp⟩,by rw[he,if_neg a];rfl⟩
 have a:=Br b;refine fun _=>⟨⟨⟨⟨rfl,rfl,AL,AL,AL,AL,AL,AL,AL,AL,AL,AL,rfl,rfl,rfl,rfl,rfl,rfl,AL,AL,AL,AL,trivial⟩,trivial⟩,rfl,by simp⟩,by rw[he,if_pos a];rfl⟩
abbrev TS (kd:Int) (P C:List Int) (V:List Ex) (sd:Int) (vl:LR) (AY:List Int) (Ah:Int) (cr:List (el AQ)) (e:Int):el HV:=((kd,P,C,V,sd),vl,AY,Ah,cr,e)
def IT (p:Int->Bool):Nat->List Int->Int
 | _,[]=> -1
 | i,x::r=>if p x=true then (i:Int) else IT p (i+1) r
theorem Xk {p:Int->Bool} {X:List Int} {i:Nat} {x:Int} (h:X[i]? =some x):IT p i (X.drop i)=if p x=true then (i:Int) else IT p (i+1) (X.drop (i+1)):=by
 have a:=C6 h;rw[List.drop_eq_getElem_cons a,IT];rw[List.getElem?_eq_getElem a] at h;rw[Option.some.inj h]
theorem Xj (p:Int->Bool):∀(l:List Int) (i:Nat),decide (IT p i l >= 0)=l.any p
 | [],i=>rfl
 | x::r,i=>by
  rw[IT,List.any_cons]
  by_cases e:p x=true
  ·rw[if_pos e,e];simp
  rw[if_neg e,Xj p r (i+1),Bool.eq_false_iff.2 e];rfl
theorem dH {X:List Int} {q:el HV} {p:Int->Bool} (B:∀x∈X,CF g [.one (.int .i64 x),.one (.Co .i64 EZ 0),.one (.Co (.rf HV) q 0)] (.one (.bool (p x)))) (G:r=IT p 0 X):CF 232 [.one (.sl .i64 X),.one (.Ed g [⟨.i64,EZ⟩,⟨(.rf HV),q⟩])] (.one (.int .i64 r)):=by
 refine AG Tryz.func232 fun E A=>?_
 intro J m;have M:=m.eq;have f7:=m.le;refine BN [] [0,1,7,8] [] (fun vs v k=>∃(d:Nat) (L j:Int),vs=[.one (.sl .i64 X),.one (.Ed g [⟨.i64,EZ⟩,⟨.rf HV,q⟩]),.one (.int .i64 L),.one (.int .i64 j)]/\(DP L X.length/\AO j d/\d<=X.length)/\r=IT p d (X.drop d)/\k=X.length-d) (X.length-0) ⟨0,J,0,rfl,⟨m,BD 0,by omega⟩,G,rfl⟩ ?_;rintro K n vs v I ⟨d,L,j,rfl,⟨s,C,D⟩,hinv,F⟩;conv=>cbv
 have N:=s.eq;have O:=C.eq;refine BW (fun H=>?_) fun H=>?_
 ·exact AF (by rw[hinv,List.drop_eq_nil_of_le (by omega)];rfl)
 refine .inr ?_;refine AW d fun l b=>?_
 try conv=>cbv
 obtain⟨h,a⟩:=xB (p l);refine AB (r:= .one (.bool h)) A ((by rw[a];exact B l (List.mem_of_getElem? b))) ?_;cases h <;> conv=>cbv
 ·refine AK ?_;intro o z;exact Ba n ⟨d+1,L,o,rfl,⟨s,⟨by omega⟩,by omega⟩,hinv.trans ((Xk b).trans (by rw[<-a];rfl)),rfl⟩
 exact AF (by rw[hinv,Xk b,<-a,if_pos rfl];omega)
theorem cj {X:List Int} {b:el HV} {p:Int->Bool} (k:∀x∈X,CF g [.one (.int .i64 x),.one (.Co .i64 EZ 0),.one (.Co (.rf HV) b 0)] (.one (.bool (p x)))) {c:Bool} (j:c=X.any p):CF 138 [.one (.sl .i64 X),.one (.Ed g [⟨.i64,EZ⟩,⟨(.rf HV),b⟩])] (.one (.bool c)):=by
 refine AG Tryz.func138 fun E h=>?_
 obtain⟨m,a⟩:=xI (IT p 0 X);refine AB h (dH k a) ?_;intro l d;exact AF (by rw[j,d,a];exact (Xj p X 0).symm)
theorem oN {P C:List Int} {V:List Ex} {AY:List Int} {q b:Bool} (B:0<=Ah/\Ah<=1000000) (o:CF 138 [.one (.sl .i64 C),.one (.Ed 139 [⟨.i64,EZ⟩,⟨.rf HV,(TS kd P C V sd vl AY Ah cr e)⟩])] (.one (.bool q))) (hb:b=(decide ((cr.length:Int)=2*Ah+(AY.length:Nat))&& !q)):D4 Tryz.prog 67 [.one (.AR 0 0 0),.one (.int .i64 EZ)] (.var 0 (EH kd P C V sd vl AY Ah cr e)) (.one (.bool b)) (.var 0 (EH kd P C V sd vl AY Ah cr e)):=by
 refine FI Tryz.func67 (by kernel_rfl) rfl fun E n=>?_
 conv=>cbv
 rintro D ⟨A,f9⟩;conv=>cbv
 intro p l;conv=>cbv
 refine DH ?_;rintro s ⟨k,f19⟩;conv=>cbv
 intro v m;conv=>cbv
 refine DH ?_;intro j a;conv=>cbv
 refine Bo ?_;cases j <;> conv=>cbv
 ·have h:=Ht a;refine .inr (.inr (.inr (.inr (.inr (.inl ⟨[0],[.one (.sl .i64 C),.one (.Ed 139 [⟨.i64,EZ⟩,⟨(.rf HV),(TS kd P C V sd vl AY Ah cr e)⟩])],.one (.bool q),fun _=>⟨rfl,⟨[⟨.i64,EZ⟩,⟨(.rf HV),(TS kd P C V sd vl AY Ah cr e)⟩],⟨rfl,⟨0,0,by simp,rfl,rfl⟩,trivial⟩,rfl⟩,trivial⟩,fun _=>FG n (OC rfl o),?_⟩)))));try conv=>cbv
  intro z d;conv=>cbv
  refine fun _=>⟨⟨⟨⟨rfl,congrArg _ (by rw[hb,decide_eq_true (by omega),d];rfl),trivial⟩,trivial⟩,rfl,by simp⟩,rfl⟩
 have h:=Hu a;refine fun _=>⟨⟨⟨⟨rfl,congrArg _ (by rw[hb,decide_eq_false (by omega)];rfl),trivial⟩,trivial⟩,rfl,by simp⟩,rfl⟩
end
section
open Go.RowKit
def kP (k:Int) (L:List Int) (c0 c1:Bool):Int:=
 if k=13 then (if (decide ((L.length:Int)>0) !=c0)=true then 2 else 0)
 else if k=16 then (if c0=true/\L.length=0 then 1 else 0)
 else if k=17 then (if (c0 !=c1)=true then 2 else 0)
 else if L.length=0 then 0
 else if k=1\/k=9 then 3 else if k=2 then 2 else if k=3\/k=6\/k=11\/k=12 then 1
 else if k=4 then (if L.getD 0 0=0 then 1 else 0) else if k=10 then (if L.getD 0 0<2 then 3 else 0)
 else if k=5\/k=7 then (if L.length=2 then 2 else 1) else if k=8 then (if L.length=2 then 1 else 2) else 0
def KH (h h2:Bool) (x y:Int):Int:=if h=true/\h2=true then y else if h=true\/h2=true then x else 0
def kF (k:Int) (a p0 h h2 c0 c1:Bool):Int:=
 if k=1\/k=9 then (if a=true then 1 else 0) else if k=2 then (if a=true then 2 else 0)
 else if k=3\/k=11\/k=12 then (if a=true then 3 else 0) else if k=4 then (if p0=true then 3 else 0)
 else if k=5\/k=7 then KH h h2 3 2 else if k=6 then KH h h2 3 3 else if k=8 then KH h h2 2 3
 else if k=10 then (if h=true then 1 else 0) else if k=13 then (if (a !=c0)=true then 2 else 0)
 else if k=16 then (if a=false/\c0=true then 3 else 0) else if k=17 then (if (c0 !=c1)=true then 2 else 0) else 0
def kD (f:Int):Int:=if f=1 then 3 else if f=2 then 2 else if f=3 then 1 else 0
def sP (k s i:Int) (n:Bool) (c0 c1:Int):Bool:=
 if i<0 then false else if k=14\/k=15 then true else if k=13\/k=16 then !n else if k=17 then (s==1)&&(c0 !=c1) else false
variable {c kd sd:Int}
theorem X1 (t:Int):∀(l:List Int) (i:Nat),¬D5 t l i<0->t∈l
 | [],i,h=>absurd (by rw[D5];decide) h
 | p::r,i,h=>by
  rw[D5] at h
  by_cases e:t=p
  ·rw[e];exact List.mem_cons_self
  rw[if_neg e] at h;exact List.mem_cons_of_mem _ (X1 t r (i+1) h)
theorem X4 {n t:Int} {l:List Int} (h:Dp n l=true) (a:¬D5 t l 0<0):0<=t/\t<n:=of_decide_eq_true (List.all_eq_true.1 h t (X1 t l 0 a))
theorem QZ {P C:List Int} {V:List Ex} {AY:List Int} {t:Int} (hP:P.length<=1000000) (hC:Dp (AY.length:Nat) C=true) (h1:kd=13\/kd=16->1<=C.length) (h2:kd=17->2<=C.length) (p:c=kP kd (FU t P 0) (Eo AY C t 0) (Eo AY C t 1)):CF 10 [.agg [.int .i64 kd,.sl .i64 P,.sl .i64 C,.sl .ex V,.int .i64 sd],.one (.sl .i64 AY),.one (.int .i64 t)] (.one (.int .i64 c)):=by
 obtain⟨R,hR⟩:∃z:List Int,z=FU t P 0:=⟨_,rfl⟩
 rw[<-hR] at p;refine AG Tryz.func10 fun E hE=>?_
 refine AB hE (ZG hP hR) ?_;refine .inr ?_;refine BO (fun b=>?_) fun b=>?_
 ·rintro aF ⟨Y,f18⟩ aG Z;obtain⟨ag,H⟩:=xB (Eo AY C t 0);refine .inr (.inl ⟨[.one (.int .i64 0),.one (.Co (.sl .i64) AY 0),.one (.Co (.pr .i64 (.pr (.sl .i64) (.pr (.sl .i64) (.pr (.sl .ex) .i64)))) (kd,P,C,V,sd) 0),.one (.Co .i64 t 0)],.one (.bool ag),fun _=>⟨rfl,⟨rfl,(.sl .i64),AY,rfl,rfl⟩,⟨rfl,(.pr .i64 (.pr (.sl .i64) (.pr (.sl .i64) (.pr (.sl .ex) .i64)))),(kd,P,C,V,sd),rfl,rfl⟩,⟨rfl,.i64,t,rfl,rfl⟩,trivial⟩,fun _=>FG hE (PE (BD 0) (by omega) hC H),?_⟩);refine AS ?_;intro ar K;cases ar <;> conv=>cbv
  ·have ak:=Kk K;exact AF (by rw[p];unfold kP;rw[<-Y,<-Z,<-H,<-K];simp[b])
  have ak:=Km K;exact AF (by rw[p];unfold kP;rw[<-Y,<-Z,<-H,<-K];simp[b])
 refine BO (fun d=>?_) fun d=>?_
 ·obtain⟨X,D⟩:=xB (Eo AY C t 0);refine .inr (.inl ⟨[.one (.int .i64 0),.one (.Co (.sl .i64) AY 0),.one (.Co (.pr .i64 (.pr (.sl .i64) (.pr (.sl .i64) (.pr (.sl .ex) .i64)))) (kd,P,C,V,sd) 0),.one (.Co .i64 t 0)],.one (.bool X),fun _=>⟨rfl,⟨rfl,(.sl .i64),AY,rfl,rfl⟩,⟨rfl,(.pr .i64 (.pr (.sl .i64) (.pr (.sl .i64) (.pr (.sl .ex) .i64)))),(kd,P,C,V,sd),rfl,rfl⟩,⟨rfl,.i64,t,rfl,rfl⟩,trivial⟩,fun _=>FG hE (PE (BD 0) (by omega) hC D),?_⟩);try conv=>cbv
  cases X <;> conv=>cbv
  ·exact AF (by rw[p];unfold kP;rw[<-D];simp[b,d])
  rintro aH ⟨aC,f29⟩;conv=>cbv
  refine CH (fun al=>?_) fun al=>?_
  ·have a:¬R.length=0:=by omega
   exact AF (by rw[p];unfold kP;rw[<-D];simp[b,d,a])
  have a:R.length=0:=by omega
  exact AF (by rw[p];unfold kP;rw[<-D];simp[b,d,a])
 refine BO (fun h=>?_) fun h=>?_
 ·obtain⟨ah,I⟩:=xB (Eo AY C t 0);refine .inr (.inl ⟨[.one (.int .i64 0),.one (.Co (.sl .i64) AY 0),.one (.Co (.pr .i64 (.pr (.sl .i64) (.pr (.sl .i64) (.pr (.sl .ex) .i64)))) (kd,P,C,V,sd) 0),.one (.Co .i64 t 0)],.one (.bool ah),fun _=>⟨rfl,⟨rfl,(.sl .i64),AY,rfl,rfl⟩,⟨rfl,(.pr .i64 (.pr (.sl .i64) (.pr (.sl .i64) (.pr (.sl .ex) .i64)))),(kd,P,C,V,sd),rfl,rfl⟩,⟨rfl,.i64,t,rfl,rfl⟩,trivial⟩,fun _=>FG hE (PE (BD 0) (by omega) hC I),?_⟩);try conv=>cbv
  obtain⟨ai,J⟩:=xB (Eo AY C t 1);refine .inr (.inl ⟨[.one (.int .i64 1),.one (.Co (.sl .i64) AY 0),.one (.Co (.pr .i64 (.pr (.sl .i64) (.pr (.sl .i64) (.pr (.sl .ex) .i64)))) (kd,P,C,V,sd) 0),.one (.Co .i64 t 0)],.one (.bool ai),fun _=>⟨rfl,⟨rfl,(.sl .i64),AY,rfl,rfl⟩,⟨rfl,(.pr .i64 (.pr (.sl .i64) (.pr (.sl .i64) (.pr (.sl .ex) .i64)))),(kd,P,C,V,sd),rfl,rfl⟩,⟨rfl,.i64,t,rfl,rfl⟩,trivial⟩,fun _=>FG hE (PE (BD 1) (by omega) hC J),?_⟩);refine AS ?_;intro au L;cases au <;> conv=>cbv
  ·have an:=Kk L;exact AF (by rw[p];unfold kP;rw[<-I,<-J,<-L];simp[b,d,h])
  have an:=Km L;exact AF (by rw[p];unfold kP;rw[<-I,<-J,<-L];simp[b,d,h])
 intro aI a1;have aD:=a1.eq;have f40:=a1.le;refine BO (fun ao=>?_) fun ao=>?_
 ·have a:R.length=0:=by omega
  exact AF (by rw[p];unfold kP;simp[b,d,h,a])
 refine .inr ?_;intro av a2;conv=>cbv
 refine .inr ?_;cases av <;> conv=>cbv
 ·have j:=Bp a2;refine BO (fun k=>?_) fun k=>?_
  ·have a:¬R.length=0:=by omega
   exact AF (by rw[p];unfold kP;simp[b,d,h,j,k,a])
  refine BO (fun l=>?_) fun l=>?_
  ·have a:¬R.length=0:=by omega
   exact AF (by rw[p];unfold kP;simp[b,d,h,j,k,l,a])
  intro aw a5;refine .inr ?_;cases aw <;> conv=>cbv
  ·have m:=Bp a5;intro Dy a6;conv=>cbv
   refine .inr ?_;cases Dy <;> conv=>cbv
   ·have n:=Bp a6;intro ax a7;conv=>cbv
    refine .inr ?_;cases ax <;> conv=>cbv
    ·have o:=Bp a7;refine BO (fun q=>?_) fun q=>?_
     ·have a:¬R.length=0:=by omega
      exact AF (by rw[p];unfold kP;simp[b,d,h,j,k,l,m,n,o,q,a])
     intro ay a8;refine .inr ?_;cases ay <;> conv=>cbv
     ·have s:=Bp a8;intro az aa;conv=>cbv
      refine .inr ?_;cases az <;> conv=>cbv
      ·have A:=Bp aa;intro aA ab;conv=>cbv
       refine .inr ?_;cases aA <;> conv=>cbv
       ·have B:=Bp ab;refine BO (fun F=>?_) fun F=>?_
        ·intro aB G;have aj:=G.eq;have f70:=G.le;refine CH (fun W=>?_) fun W=>?_
         ·have a:¬R.length=0:=by omega
          have v:¬R.length=2:=by omega
          exact AF (by rw[p];unfold kP;simp[b,d,h,j,k,l,m,n,o,q,s,A,B,F,a,v])
         have a:¬R.length=0:=by omega
         have v:R.length=2:=by omega
         exact AF (by rw[p];unfold kP;simp[b,d,h,j,k,l,m,n,o,q,s,A,B,F,a,v])
        refine CH (fun M=>?_) fun M=>?_
        ·have a:¬R.length=0:=by omega
         exact AF (by rw[p];unfold kP;simp[b,d,h,j,k,l,m,n,o,q,s,A,B,F,M,a])
        intro aJ ad;have aE:=ad.eq;have f75:=ad.le;refine CH (fun aq=>?_) fun aq=>?_
        ·have a:¬R.length=0:=by omega
         have v:¬R.length=2:=by omega
         exact AF (by rw[p];unfold kP;simp[b,d,h,j,k,l,m,n,o,q,s,A,B,F,M,a,v])
        have a:¬R.length=0:=by omega
        have v:R.length=2:=by omega
        exact AF (by rw[p];unfold kP;simp[b,d,h,j,k,l,m,n,o,q,s,A,B,F,M,a,v])
       have B:=Br ab;intro aB G;have aj:=G.eq;have f70:=G.le;conv=>cbv
       refine CH (fun W=>?_) fun W=>?_
       ·have a:¬R.length=0:=by omega
        have v:¬R.length=2:=by omega
        exact AF (by rw[p];unfold kP;simp[b,d,h,j,k,l,m,n,o,q,s,A,B,a,v])
       have a:¬R.length=0:=by omega
       have v:R.length=2:=by omega
       exact AF (by rw[p];unfold kP;simp[b,d,h,j,k,l,m,n,o,q,s,A,B,a,v])
      have A:=Br aa;refine AW 0 fun af O=>?_
      try conv=>cbv
      refine BW (fun U=>?_) fun U=>?_
      ·have a:¬R.length=0:=by omega
       have S:R[0]? =some af:=O;exact AF (by rw[p];unfold kP;simp[b,d,h,j,k,l,m,n,o,q,s,A,a,S,U])
      have a:¬R.length=0:=by omega
      have S:R[0]? =some af:=O;exact AF (by rw[p];unfold kP;simp[b,d,h,j,k,l,m,n,o,q,s,A,a,S,U])
     have s:=Br a8;refine AW 0 fun ae N=>?_
     try conv=>cbv
     refine CH (fun T=>?_) fun T=>?_
     ·have a:¬R.length=0:=by omega
      have S:R[0]? =some ae:=N;exact AF (by rw[p];unfold kP;simp[b,d,h,j,k,l,m,n,o,q,s,a,S,T])
     have a:¬R.length=0:=by omega
     have S:R[0]? =some ae:=N;exact AF (by rw[p];unfold kP;simp[b,d,h,j,k,l,m,n,o,q,s,a,S,T])
    have o:=Br a7;have a:¬R.length=0:=by omega
    exact AF (by rw[p];unfold kP;simp[b,d,h,j,k,l,m,n,o,a])
   have n:=Br a6;have a:¬R.length=0:=by omega
   exact AF (by rw[p];unfold kP;simp[b,d,h,j,k,l,m,n,a])
  have m:=Br a5;have a:¬R.length=0:=by omega
  exact AF (by rw[p];unfold kP;simp[b,d,h,j,k,l,m,a])
 have j:=Br a2;have a:¬R.length=0:=by omega
 exact AF (by rw[p];unfold kP;simp[b,d,h,j,a])
theorem ja {P C:List Int} {V:List Ex} {AY:List Int} {t:Int} (hP:P.length<=1000000) (hC:Dp (AY.length:Nat) C=true) (h1:kd=13\/kd=16->1<=C.length) (h2:kd=17->2<=C.length) (h3:kd=4->1<=P.length) (h4:kd=5\/kd=6\/kd=7\/kd=8->P.length=4) (h5:kd=10->2<=P.length) (p:c=kF kd (HM P t) (P.getD 0 0==t) (hasB P t 0) (hasB P t 2) (Eo AY C t 0) (Eo AY C t 1)):CF 39 [.agg [.int .i64 kd,.sl .i64 P,.sl .i64 C,.sl .ex V,.int .i64 sd],.one (.sl .i64 AY),.one (.int .i64 t)] (.one (.int .i64 c)):=by
 refine AG Tryz.func39 fun E K=>?_
 obtain⟨D,a⟩:=xB (HM P t);refine AB K (kE a) ?_;refine .inr ?_;intro ar X;conv=>cbv
 refine .inr ?_;cases ar <;> conv=>cbv
 ·have b:=Bp X;intro au Y;conv=>cbv
  refine .inr ?_;cases au <;> conv=>cbv
  ·have d:=Bp Y;intro av Z;conv=>cbv
   refine .inr ?_;cases av <;> conv=>cbv
   ·have h:=Bp Z;intro aw a1;conv=>cbv
    refine .inr ?_;cases aw <;> conv=>cbv
    ·have j:=Bp a1;intro ax a2;conv=>cbv
     refine .inr ?_;cases ax <;> conv=>cbv
     ·have k:=Bp a2;intro ay a5;conv=>cbv
      refine .inr ?_;cases ay <;> conv=>cbv
      ·have l:=Bp a5;intro az a6;conv=>cbv
       refine .inr ?_;cases az <;> conv=>cbv
       ·have m:=Bp a6;intro aA a7;conv=>cbv
        refine .inr ?_;cases aA <;> conv=>cbv
        ·have n:=Bp a7;refine BO (fun o=>?_) fun o=>?_
         ·obtain⟨aI,A⟩:=xI (KH (hasB P t 0) (hasB P t 2) 3 2);refine AB K (Pj (by omega) A) ?_;exact AF (by rw[p];unfold kF;rw[<-a,<-A];simp[b,d,h,j,k,l,m,n,o])
         refine BO (fun q=>?_) fun q=>?_
         ·obtain⟨aJ,O⟩:=xI (KH (hasB P t 0) (hasB P t 2) 3 3);refine AB K (Pj (by omega) O) ?_;exact AF (by rw[p];unfold kF;rw[<-a,<-O];simp[b,d,h,j,k,l,m,n,o,q])
         refine BO (fun s=>?_) fun s=>?_
         ·obtain⟨aK,R⟩:=xI (KH (hasB P t 0) (hasB P t 2) 2 3);refine AB K (Pj (by omega) R) ?_;exact AF (by rw[p];unfold kF;rw[<-a,<-R];simp[b,d,h,j,k,l,m,n,o,q,s])
         intro aB a8;refine .inr ?_;cases aB <;> conv=>cbv
         ·have v:=Bp a8;intro aC aa;conv=>cbv
          refine .inr ?_;cases aC <;> conv=>cbv
          ·have z:=Bp aa;intro aE ae;conv=>cbv
           refine .inr ?_;cases aE <;> conv=>cbv
           ·have B:=Bp ae;intro aG af;conv=>cbv
            refine .inr ?_;cases aG <;> conv=>cbv
            ·have N:=Bp af;exact AF (by rw[p];unfold kF;rw[<-a];simp[b,d,h,j,k,l,m,n,o,q,s,v,z,B,N])
            have N:=Br af;obtain⟨aN,I⟩:=xI (DZ AY C 0);refine AB K (Jq (BD 0) (by omega) hC I) ?_;intro ak ag;obtain⟨aO,J⟩:=xI (DZ AY C 1);refine AB K (Jq (BD 1) (by omega) hC J) ?_;intro al ah aH ai;cases aH <;> conv=>cbv
            ·have W:=Kk ai;exact AF (by rw[p];unfold kF;rw[<-a,show Eo AY C t 0=ak from (by show (DZ AY C 0==t)=_;rw[<-I,<-ag]),show Eo AY C t 1=al from (by show (DZ AY C 1==t)=_;rw[<-J,<-ah])];simp[b,d,h,j,k,l,m,n,o,q,s,v,z,B,N,W])
            have W:=Km ai;exact AF (by rw[p];unfold kF;rw[<-a,show Eo AY C t 0=ak from (by show (DZ AY C 0==t)=_;rw[<-I,<-ag]),show Eo AY C t 1=al from (by show (DZ AY C 1==t)=_;rw[<-J,<-ah])];simp[b,d,h,j,k,l,m,n,o,q,s,v,z,B,N,W])
           have B:=Br ae;refine Np (fun M=>?_) fun M=>?_
           ·exact AF (by rw[p];unfold kF;rw[<-a];simp[b,d,h,j,k,l,m,n,o,q,s,v,z,B,M])
           obtain⟨aM,H⟩:=xI (DZ AY C 0);refine AB K (Jq (BD 0) (by omega) hC H) ?_;intro aF L;cases aF <;> conv=>cbv
           ·have aq:=Bp L;exact AF (by rw[p];unfold kF;rw[<-a,show Eo AY C t 0=false from (by show (DZ AY C 0==t)=_;rw[<-H,<-L])];simp[b,d,h,j,k,l,m,n,o,q,s,v,z,B,M])
           have aq:=Br L;exact AF (by rw[p];unfold kF;rw[<-a,show Eo AY C t 0=true from (by show (DZ AY C 0==t)=_;rw[<-H,<-L])];simp[b,d,h,j,k,l,m,n,o,q,s,v,z,B,M])
          have z:=Br aa;obtain⟨aL,G⟩:=xI (DZ AY C 0);refine AB K (Jq (BD 0) (by omega) hC G) ?_;intro aj ab aD ad;cases aD <;> conv=>cbv
          ·have U:=Kk ad;exact AF (by rw[p];unfold kF;rw[<-a,show Eo AY C t 0=aj from (by show (DZ AY C 0==t)=_;rw[<-G,<-ab])];simp[b,d,h,j,k,l,m,n,o,q,s,v,z,U])
          have U:=Km ad;exact AF (by rw[p];unfold kF;rw[<-a,show Eo AY C t 0=aj from (by show (DZ AY C 0==t)=_;rw[<-G,<-ab])];simp[b,d,h,j,k,l,m,n,o,q,s,v,z,U])
         have v:=Br a8;obtain⟨ao,F⟩:=xB (hasB P t 0);refine AB K (Ms (BD 0) (by omega) (by omega) F) ?_;cases ao <;> conv=>cbv
         ·exact AF (by rw[p];unfold kF;rw[<-a,<-F];simp[b,d,h,j,k,l,m,n,o,q,s,v])
         exact AF (by rw[p];unfold kF;rw[<-a,<-F];simp[b,d,h,j,k,l,m,n,o,q,s,v])
        have n:=Br a7;obtain⟨aI,A⟩:=xI (KH (hasB P t 0) (hasB P t 2) 3 2);refine AB K (Pj (by omega) A) ?_;exact AF (by rw[p];unfold kF;rw[<-a,<-A];simp[b,d,h,j,k,l,m,n])
       have m:=Br a6;refine AW 0 fun an S=>?_
       try conv=>cbv
       refine CH (fun T=>?_) fun T=>?_
       ·have hg:P[0]? =some an:=S;exact AF (by rw[p];unfold kF;rw[<-a];simp[b,d,h,j,k,l,m,hg,T])
       have hg:P[0]? =some an:=S;exact AF (by rw[p];unfold kF;rw[<-a];simp[b,d,h,j,k,l,m,hg,T])
      have l:=Br a5;cases D <;> conv=>cbv
      ·exact AF (by rw[p];unfold kF;rw[<-a];simp[b,d,h,j,k,l])
      exact AF (by rw[p];unfold kF;rw[<-a];simp[b,d,h,j,k,l])
     have k:=Br a2;refine .inr ?_;cases D <;> conv=>cbv
     ·exact AF (by rw[p];unfold kF;rw[<-a];simp[b,d,h,j,k])
     exact AF (by rw[p];unfold kF;rw[<-a];simp[b,d,h,j,k])
    have j:=Br a1;refine .inr ?_;cases D <;> conv=>cbv
    ·exact AF (by rw[p];unfold kF;rw[<-a];simp[b,d,h,j])
    exact AF (by rw[p];unfold kF;rw[<-a];simp[b,d,h,j])
   have h:=Br Z;cases D <;> conv=>cbv
   ·exact AF (by rw[p];unfold kF;rw[<-a];simp[b,d,h])
   exact AF (by rw[p];unfold kF;rw[<-a];simp[b,d,h])
  have d:=Br Y;cases D <;> conv=>cbv
  ·exact AF (by rw[p];unfold kF;rw[<-a];simp[b,d])
  exact AF (by rw[p];unfold kF;rw[<-a];simp[b,d])
 have b:=Br X;refine .inr ?_;cases D <;> conv=>cbv
 ·exact AF (by rw[p];unfold kF;rw[<-a];simp[b])
 exact AF (by rw[p];unfold kF;rw[<-a];simp[b])
theorem Uy {P C:List Int} {V:List Ex} {AY:List Int} {t:Int} {c:Bool} (G:Dp (AY.length:Nat) C=true) (Z:kd=17->2<=C.length) (o:c=sP kd sd (D5 t C 0) (HM P (AY.getD t.toNat 0)) (DZ AY C 0) (DZ AY C 1)):CF 12 [.agg [.int .i64 kd,.sl .i64 P,.sl .i64 C,.sl .ex V,.int .i64 sd],.one (.sl .i64 AY),.one (.int .i64 t)] (.one (.bool c)):=by
 refine AG Tryz.func12 fun E J=>?_
 obtain⟨Y,B⟩:=xI (D5 t C 0);refine AB J (Uh B) ?_;refine Cw (fun K=>?_) fun K=>?_
 ·have a:D5 t C 0<0:=by omega
  exact AF (by rw[o];unfold sP;simp[a])
 refine .inr ?_;intro L z;conv=>cbv
 refine .inr ?_;cases L <;> conv=>cbv
 ·have d:=Bp z;refine BO (fun h=>?_) fun h=>?_
  ·have a:¬D5 t C 0<0:=by omega
   exact AF (by rw[o];unfold sP;simp[d,h,a])
  intro M A;refine .inr ?_;cases M <;> conv=>cbv
  ·have j:=Bp A;refine BO (fun l=>?_) fun l=>?_
   ·have hw:=X4 (t:=t) G (by omega);refine AW ((t).toNat) fun m k=>?_
    try conv=>cbv
    obtain⟨H,b⟩:=xB (HM P m);refine AB J (Ue b) ?_;intro N s;have a:¬D5 t C 0<0:=by omega
    exact AF (by rw[o];unfold sP;rw[show AY.getD t.toNat 0=m from Mr k,<-b];simp[d,h,j,l,a,s])
   refine CH (fun n=>?_) fun n=>?_
   ·have a:¬D5 t C 0<0:=by omega
    exact AF (by rw[o];unfold sP;simp[d,h,j,l,n,a])
   refine CH (fun v=>?_) fun v=>?_
   ·have a:¬D5 t C 0<0:=by omega
    exact AF (by rw[o];unfold sP;simp[d,h,j,l,n,a,v])
   refine AW 0 fun O p=>?_
   try conv=>cbv
   have U:=KV G p;refine AW ((O).toNat) fun R D=>?_
   try conv=>cbv
   refine AW 1 fun S q=>?_
   try conv=>cbv
   have W:=KV G q;refine AW ((S).toNat) fun T F=>?_
   refine AK ?_;intro X I;have a:¬D5 t C 0<0:=by omega
   exact AF (by rw[o];unfold sP;rw[show DZ AY C 0=R from Mb p D,show DZ AY C 1=T from Mb q F];simp[d,h,j,l,n,a,v,I])
  have j:=Br A;have hw:=X4 (t:=t) G (by omega);refine AW ((t).toNat) fun m k=>?_
  try conv=>cbv
  obtain⟨H,b⟩:=xB (HM P m);refine AB J (Ue b) ?_;intro N s;have a:¬D5 t C 0<0:=by omega
  exact AF (by rw[o];unfold sP;rw[show AY.getD t.toNat 0=m from Mr k,<-b];simp[d,h,j,a,s])
 have d:=Br z;have a:¬D5 t C 0<0:=by omega
 exact AF (by rw[o];unfold sP;simp[d,a])
def sD (k s:Int) (f n:Bool) (c0 c1:Int):Bool:=
 if f=false then false else if k=13\/k=16 then !n else if k=17 then (s==1)&&(c0 !=c1) else true
end
section
section
variable {α:Type} [Lean.Grind.CommRing α]
def CE:Nat->(Nat->α)->α
 | 0,_=>0
 | n+1,f=>CE n f+f n
theorem G4 {f g:Nat->α}:∀{n:Nat},(∀i,i<n->f i=g i)->CE n f=CE n g
 | 0,_=>rfl
 | n+1,h=>by rw[CE,CE,G4 (n:=n) (fun i a=>h i (by omega)),h n (by omega)]
theorem TY (f:Nat->α) (m:Nat):∀n,CE (m+n) f=CE m f+CE n (fun i=>f (m+i))
 | 0=>by rw[CE,Nat.add_zero];grind
 | n+1=>by rw[<-Nat.add_assoc,CE,CE,TY f m n];grind
theorem TZ (c:α) (f:Nat->α):∀n,c*CE n f=CE n (fun i=>c*f i)
 | 0=>by rw[CE,CE];grind
 | n+1=>by rw[CE,CE,<-TZ c f n];grind
theorem aa (f g:Nat->α):∀n,CE n f+CE n g=CE n (fun i=>f i+g i)
 | 0=>by rw[CE,CE,CE];grind
 | n+1=>by rw[CE,CE,CE,<-aa f g n];grind
theorem Tg:∀n,CE n (fun _=>(0:α))=0
 | 0=>rfl
 | n+1=>by rw[CE,Tg n];grind
theorem aZ (f:Nat->Nat->α) (m:Nat):∀n,CE n (fun i=>CE m (fun k=>f i k))=CE m (fun k=>CE n (fun i=>f i k))
 | 0=>by rw[CE];exact (Tg m).symm
 | n+1=>by
  rw[CE,aZ f m n,aa];rfl
end
noncomputable def cf (u:List (List Rat)) (x:Re) (i:Nat):Rat:=(co u x).getD i 0
section
variable {u w:List (List Rat)} {x y:Re}
theorem WZ (h:AU u) (a:In u x) (b:In u y) (i:Nat):cf u (x+y) i=cf u x i+cf u y i:=by
 unfold cf;rw[MW h a b];have l1:=C0 a;have l2:=C0 b;simp only[List.getD_eq_getElem?_getD,List.getElem?_zipWith]
 by_cases d:i<2^u.length
 ·rw[List.getElem?_eq_getElem (by omega:i<(co u x).length),List.getElem?_eq_getElem (by omega:i<(co u y).length)];rfl
 rw[List.getElem?_eq_none (by omega:(co u x).length<=i),List.getElem?_eq_none (by omega:(co u y).length<=i)]
 show (0:Rat)=0+0
 grind
theorem Wc (h:AU u) (a:In u x) (c:Rat) (i:Nat):cf u (Re.ofRat c*x) i=c*cf u x i:=by
 unfold cf;rw[RP h a];simp only[List.getD_eq_getElem?_getD,List.getElem?_map];cases (co u x)[i]? with
 | none=>show (0:Rat)=c*0;grind
 | some q=>rfl
theorem Wd (h:AU u) (i:Nat):cf u 0 i=0:=by
 have:=Wc h (CN u) 0 i;rw[show Re.ofRat 0*0=(0:Re) by grind] at this;rw[this];grind
theorem GS {r:List Rat} {p q:Re} (h:AU (r::u)) (a:In u p) (d:In u q) (e:x=p+q*rt u r) {i:Nat} (b:i<2^u.length):cf (r::u) x i=cf u p i:=by
 unfold cf;rw[DB h a d e,List.getD_eq_getElem?_getD,List.getD_eq_getElem?_getD,List.getElem?_append_left (by rw[C0 a];exact b)]
theorem IJ {r:List Rat} {p q:Re} (h:AU (r::u)) (a:In u p) (b:In u q) (e:x=p+q*rt u r) (i:Nat):cf (r::u) x (2^u.length+i)=cf u q i:=by
 unfold cf;rw[DB h a b e,List.getD_eq_getElem?_getD,List.getD_eq_getElem?_getD,List.getElem?_append_right (by rw[C0 a];omega),C0 a,Nat.add_sub_cancel_left]
noncomputable def bb:List (List Rat)->Nat->Re
 | [],_=>1
 | r::u,i=>if i<2^u.length then bb u i else bb u (i-2^u.length)*rt u r
theorem V9 {r:List Rat} {i:Nat} (a:i<2^u.length):bb (r::u) i=bb u i:=if_pos a
theorem V8 {r:List Rat} (i:Nat):bb (r::u) (2^u.length+i)=bb u i*rt u r:=by
 rw[bb,if_neg (by omega),Nat.add_sub_cancel_left]
theorem Jz:∀{u:List (List Rat)},AU u->∀i,In u (bb u i)
 | [],_,i=>J3 []
 | r::u,h,i=>by
  rw[bb]
  split
  ·exact E6 (Jz h.1 i)
  exact Ag h (E6 (Jz h.1 _)) (IU u r)
theorem Xq {f:Nat->Re} (hf:∀i,In u (f i)):∀n,In u (CE n f)
 | 0=>CN u
 | n+1=>DR (Xq hf n) (hf n)
theorem expand:∀{u:List (List Rat)} {x:Re},AU u->In u x->x=CE (2^u.length) (fun i=>Re.ofRat (cf u x i)*bb u i)
 | [],x,h,j=>by
  obtain⟨q,rfl⟩:=Ct.1 j
  show _=CE 1 _
  rw[CE,CE]
  show _=0+Re.ofRat (cf [] (Re.ofRat q) 0)*1
  rw[cf,Dg]
  show _=0+Re.ofRat q*1
  grind
 | r::u,x,h,j=>by
  obtain⟨p,q,b,d,e⟩:=Cd.1 j
  rw[B8,TY,G4 (g:=fun i=>Re.ofRat (cf u p i)*bb u i) (fun i a=>by rw[GS h b d e a,V9 a]),
   G4 (f:=fun i=>Re.ofRat (cf (r::u) x (2^u.length+i))*bb (r::u) (2^u.length+i)) (g:=fun i=>rt u r*(Re.ofRat (cf u q i)*bb u i)) (fun i a=>by rw[IJ h b d e,V8];grind),<-TZ,<-expand h.1 b,<-expand h.1 d,e]
  grind
theorem RI (h:AU w) (c:Nat->Rat) {f:Nat->Re} (hf:∀i,In w (f i)) (k:Nat):∀n,cf w (CE n (fun i=>Re.ofRat (c i)*f i)) k=CE n (fun i=>c i*cf w (f i) k)
 | 0=>Wd h k
 | n+1=>by
  rw[CE,CE,WZ h (Xq (fun i=>Mt (hf i) (c i)) n) (Mt (hf n) (c n)),RI h c hf k n,Wc h (hf n)]
noncomputable def tr (u:List (List Rat)) (x:Re):Rat:=CE (2^u.length) (fun i=>cf u (x*bb u i) i)
theorem bM (hu:AU u) (hw:AU w) (a:BT u w) (b:BT w u) (d:In u x):tr u x=tr w x:=by
 have e1:∀i,cf u (x*bb u i) i=CE (2^w.length) (fun k=>cf w (x*bb u i) k*cf u (bb w k) i):=fun i=>by
  have l:=a _ (Ag hu d (Jz hu i))
  rw[show cf u (x*bb u i) i=cf u (CE (2^w.length) (fun k=>Re.ofRat (cf w (x*bb u i) k)*bb w k)) i from congrArg (fun z=>cf u z i) (expand hw l),
   RI hu _ (fun k=>b _ (Jz hw k))]
 have h:∀k,cf w (x*bb w k) k=CE (2^u.length) (fun i=>cf u (bb w k) i*cf w (x*bb u i) k):=fun k=>by
  have m:=b _ (Jz hw k)
  have j:x*bb w k=CE (2^u.length) (fun i=>Re.ofRat (cf u (bb w k) i)*(x*bb u i)):=by
   rw[show x*bb w k=x*CE (2^u.length) (fun i=>Re.ofRat (cf u (bb w k) i)*bb u i) from congrArg (x* ·) (expand hu m),TZ];exact G4 fun i _=>by grind
  rw[j,RI hw _ (fun i=>a _ (Ag hu d (Jz hu i)))]
 unfold tr;rw[G4 (fun i _=>e1 i),aZ,G4 (g:=fun k=>CE (2^u.length) (fun i=>cf w (x*bb u i) k*cf u (bb w k) i)) (fun k _=>rfl),G4 (fun k _=>h k)];exact G4 fun k _=>G4 fun i _=>by grind
theorem Nb:∀{u:List (List Rat)} {x:Re},AU u->In u x->tr u x=((2^u.length:Nat):Rat)*cf u x 0
 | [],x,h,j=>by
  show CE 1 _=_
  rw[CE,CE]
  show 0+cf [] (x*1) 0=((1:Nat):Rat)*cf [] x 0
  rw[show x*1=x by grind];grind
 | r::u,x,h,j=>by
  obtain⟨p,q,a,d,e⟩:=Cd.1 j;have l:=Cu h;have k:=Nb h.1 a;have hb:=Jz h.1;unfold tr at k ⊢
  rw[B8,TY,G4 (g:=fun i=>cf u (p*bb u i) i) (fun i b=>by
    rw[V9 b];exact GS h (Ag h.1 a (hb i)) (Ag h.1 d (hb i)) (by rw[e];grind) b),
   G4 (f:=fun i=>cf (r::u) (x*bb (r::u) (2^u.length+i)) (2^u.length+i)) (g:=fun i=>cf u (p*bb u i) i) (fun i b=>by
    rw[V8];exact IJ h (Ag h.1 (Ag h.1 d (hb i)) (B9 h)) (Ag h.1 a (hb i)) (by rw[e,<-l];grind) i),
   k,GS h a d e (DI _),Rat.natCast_add]
  grind
end
end
end Go.Abs
