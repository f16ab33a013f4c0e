/- Part 34 of a proof. Conditions: each theorem's own. -/
import Derived.Test.YtclgfoceefhnkaaGreatDoorLk32
set_option linter.all false
set_option maxHeartbeats 80000000
set_option maxRecDepth 20000
open Go.Proofs
namespace Go.Abs
open Go.RowKit
abbrev ib:T:= .pr Wu (.pr (.sl AA) (.pr (.sl .i64) (.pr .i64 (.pr (.sl CT) (.sl .u8)))))
section
variable {kd sd Ap FH:Int} {P C:List Int} {V:List Ex}
theorem FF.B0 (h:FF kd P C V sd Ap FH):1<=kd/\kd<=17:=by
 have:=h.ok;unfold ID at this;exact of_decide_eq_true this
theorem FF.cl (h:FF kd P C V sd Ap FH):(kd=13\/kd=16->1<=C.length)/\(kd=17->2<=C.length):=by
 have:=h.nc
 constructor
 ·rintro (rfl | rfl)
  ·have e: @Eq Int (CD 13).2.2.1 1:=rfl;omega
  have e: @Eq Int (CD 16).2.2.1 1:=rfl;omega
 rintro rfl;have e: @Eq Int (CD 17).2.2.1 2:=rfl;omega
theorem FF.pl (h:FF kd P C V sd Ap FH):P.length<=4/\(kd=4->1<=P.length)/\(kd=5\/kd=6\/kd=7\/kd=8->P.length=4)/\(kd=10->2<=P.length):=by
 have:=h.np;refine⟨?_,?_,?_,?_⟩
 ·have a:=h.B0;have b:kd=1\/kd=2\/kd=3\/kd=4\/kd=5\/kd=6\/kd=7\/kd=8\/kd=9\/kd=10\/kd=11\/kd=12\/kd=13\/kd=14\/kd=15\/kd=16\/kd=17:=by omega
  have hle:∀k:Int,1<=k->k<=17-> @LE.le Int _ (CD k).2.1 4:=fun k c d=>by
   have b:k=1\/k=2\/k=3\/k=4\/k=5\/k=6\/k=7\/k=8\/k=9\/k=10\/k=11\/k=12\/k=13\/k=14\/k=15\/k=16\/k=17:=by omega
   rcases b with rfl | rfl | rfl | rfl | rfl | rfl | rfl | rfl | rfl | rfl | rfl | rfl | rfl | rfl | rfl | rfl | rfl <;> decide
  have:=hle kd a.1 a.2;omega
 ·rintro rfl;have e: @Eq Int (CD 4).2.1 3:=rfl;omega
 ·intro a;have e: @Eq Int (CD kd).2.1 4:=Mu (k:=kd) a;omega
 rintro rfl;have e: @Eq Int (CD 10).2.1 4:=rfl;omega
theorem FF.kinds (h:FF kd P C V sd Ap FH) (t:Int) (f c1:Bool):kP kd (CP t P 0) f c1=kD (kF kd (BH P t) (P.getD 0 0==t) (hasB P t 0) (hasB P t 2) f c1):=
 cI h.B0 h.np fun g a b c d e=>(h.pr g a b c d (by rw[e];rfl) (by rw[e];rfl) (by rw[e];rfl) (by rw[e];rfl)).1
end
theorem iM {kd sd Ap:Int} {P C:List Int} {V:List Ex} {vl:LR} {AU:List Int} {X:List (el CT)} {W:List UInt8} {N:Nat} {ns:List Nu} {Q:List Re} (hk:Db kd) (G:Db Ap) (Y:N<=1048576) (Z:∀(i:Nat) (e:Ex),V[i]? =some e->EW N e) (hs:∀v∈vl,v.1.2.length<=4000000/\v.2.2.length<=4000000) (D:ns=(runN (X.take 24)).1) (B:Q.length<=3) (F:∀n∈ns,CL Q n):CF 3 [.agg [.int .i64 kd,.sl .i64 P,.sl .i64 C,.sl .ex V,.int .i64 sd,.sl AA vl,.sl .i64 AU,.int .i64 Ap,.sl CT X,.sl .u8 W]] (.one (.bool true)):=by
 refine CA Tryz.func3 (by kernel_rfl) rfl fun E g=>?_
 conv=>cbv
 obtain⟨T,t⟩:=EM (K6 ns kd sd Ap P C V vl AU W);obtain⟨L9,A⟩:∃z:List (el An),z=if T=true then (GV ns Ap W W.length).map nm else []:=⟨_,rfl⟩
 refine AB g (XZ hk G Y Z hs D B F t A) ?_;conv=>cbv
 refine AB g Ub ?_;conv=>cbv
 refine BK ?_;conv=>cbv
 intro J p;conv=>cbv
 cases J <;> conv=>cbv
 ·have u:=CN p;refine .inr ?_;obtain⟨R,h⟩:=xJ fun vs o k=>∃(i:Int),vs=[.one (.Ae 1 0 0),.one (.int .i64 i)]/\o=[.var 0 [.int .i64 kd,.sl .i64 P,.sl .i64 C,.sl .ex V,.int .i64 sd,.sl AA vl,.sl .i64 AU,.int .i64 Ap,.sl CT X,.sl .u8 W]]/\K6 ns kd sd Ap P C V vl AU W/\(-1<=i/\i<=9)/\k=(Ap+1-i).toNat
  refine⟨[],[1,5],[1],R,⟨(Ap+1- -1).toNat,by rw[h];exact⟨-1,rfl,rfl,t.1 u,by omega,rfl⟩⟩,?_⟩;intro vs o a8 m;rw[h] at m;obtain⟨i,rfl,rfl,a,hi,a2⟩:=m;conv=>cbv
  have a7:=a.p8;have a6:=a.p0;intro K q;conv=>cbv
  cases K <;> conv=>cbv
  ·have H:=F4 q;refine .inr ?_;obtain⟨S,l⟩:=xJ fun vs o k=>∃(j:Int),vs=[.one (.Ae 1 0 0),.one (.int .i64 j)]/\o=[.var 0 [.int .i64 kd,.sl .i64 P,.sl .i64 C,.sl .ex V,.int .i64 sd,.sl AA vl,.sl .i64 AU,.int .i64 Ap,.sl CT X,.sl .u8 W]]/\K6 ns kd sd Ap P C V vl AU W/\(-1<=j/\j<=9)/\k=((AU.length:Nat)+1-j).toNat
   refine⟨[],[1,6],[1],S,⟨((AU.length:Nat)+1- -1:Int).toNat,by rw[l];exact⟨-1,rfl,rfl,a,by omega,rfl⟩⟩,?_⟩;intro vs o aa m;rw[l] at m;obtain⟨j,rfl,rfl,a,m,a5⟩:=m;conv=>cbv
   have a1:=a.c3;rintro ad ⟨U,f41⟩;conv=>cbv
   intro M s;conv=>cbv
   cases M <;> conv=>cbv
   ·have I:=F4 s;exact AD ⟨t2,trivial⟩
   have I:=F5 s;refine .inr ?_;obtain⟨af,c⟩:=xB (sP kd sd (Bn j C 0) (BH P (AU.getD j.toNat 0)) (Bv AU C 0) (Bv AU C 1));refine AB g (NR a.va.wc a.va.cl.2 c) ?_;conv=>cbv
   refine AB g (Yj a.va.wc a.va.cl.1 a.va.cl.2 (c.trans (size_eq a.va.B0 a.va.nc))) ?_;conv=>cbv
   intro ae f;(have f:=f.trans (show _=false by simp));subst f;conv=>cbv
   refine BO ?_;intro O y;conv=>cbv
   refine AI ?_;refine⟨((AU.length:Nat)+1-(j+1):Int).toNat,?_,?_⟩
   ·omega
   rw[l];exact⟨O,rfl,rfl,a,by omega,by rw[y]⟩
  have H:=F5 q;refine .inr ?_;obtain⟨w,b⟩:=xI (kP kd (CP i P 0) (DQ AU C i 0) (DQ AU C i 1));refine AB (r:= .one (.int .i64 w)) g (LA (by have:=a.va.pl.1;omega) a.va.wc a.va.cl.1 a.va.cl.2 b) ?_;try conv=>cbv
  refine AB (r:= .one (.int .i64 w)) g (YP (by have:=a.va.pl.1;omega) a.va.wc a.va.cl.1 a.va.cl.2 a.va.pl.2.1 a.va.pl.2.2.1 a.va.pl.2.2.2 (b.trans (a.va.kinds i _ _))) ?_;try conv=>cbv
  intro ab d;(have d:=d.trans (show _=false by simp));subst d;conv=>cbv
  refine BO ?_;intro L x;conv=>cbv
  refine AI ?_;refine⟨(Ap+1-(i+1)).toNat,?_,?_⟩
  ·omega
  rw[h];exact⟨L,rfl,rfl,a,by omega,by rw[x]⟩
 have u:=CO p;refine AB g Ub ?_;conv=>cbv
 exact AD ⟨t2,trivial⟩
end Go.Abs
