/- Part 47 of a proof. Conditions: each theorem's own. -/
import Derived.Test.YtoonaidhfikkeaaGreatPk11
set_option linter.all false
set_option maxHeartbeats 8000000
open Go.Proofs
namespace Go.Abs
open Go.RowKit
def cJ:TypeId->Info
 |74|81=>{size:=1,zero:=[.int .i64 0],agg:=true,B0:=false,fields:=[(0,1,false)]}
 | 37=>{size:=6,zero:=[.nil,.nil,.nil,.nil,.nil,.nil],agg:=true,B0:=false,fields:=[(0,2,true),(2,2,true),(4,2,true)]}
 | t=>TI t
variable {f:FuncId} {r:AV}
theorem dV (t:TypeId):Cg Tryz.prog t (cJ t):=by
 unfold cJ
 split <;> first | exact Kz _ | exact TO (by kernel_rfl)
def dC (E:Env) (fn:Func) (r:AV) (b1:Option AH) (s:St):Prop:=
 match fn.body with
 | some c=>B9 E cJ fn.ntmps c (post cJ fn.results.toList r b1) s
 | none=>False
theorem bj {fn:Func} (g:Tryz.prog.funcs[f]? =some fn) (a:HG fn=true) {args:List AV} (b:(Kf args&&(r.all BU&&(r.wf&&Nat.ble args.length fn.ntmps)))=true)
  (h:∀E,env Tryz.prog=E->dC E fn r none (Cb fn.ntmps args none)):EW Tryz.prog false f args r:=by
 have h:=h _ rfl;unfold dC at h;unfold HG at a;simp only[Bool.and_eq_true] at a b
 split at h
 ·rename_i c d
  rw[d] at a;exact Vi (TI:=cJ) (n:=fn.ntmps) (c:=c) (rs:=fn.results.toList) ⟨⟨fn,g,by simpa using a.1,d,rfl,rfl⟩,a.2,dV,KO⟩ b.1 ⟨b.2.1,b.2.2.1⟩ (Nat.le_of_ble_eq_true b.2.2.2) h
 exact h.elim
def dB (E:Env) (fn:Func) (r:AV) (b0:AH) (s:St):Prop:=
 match fn.body with
 | some c=>B9 E cJ fn.ntmps c (Kd cJ fn.results.toList r b0) s
 | none=>False
theorem cB {fn:Func} (i:Tryz.prog.funcs[f]? =some fn) (b:HG fn=true) {d:AH} {args:List AV} (a:(Hc args&&(r.all Ai&&(d.lone&&(Nat.ble args.length fn.ntmps&&Nat.ble 1 fn.ntmps))))=true)
  (h:∀E,env Tryz.prog=E->dB E fn r d (Cb fn.ntmps args (some d))):Dc Tryz.prog f args d r:=by
 have h:=h _ rfl;unfold dB at h;unfold HG at b;simp only[Bool.and_eq_true] at b a
 split at h
 ·rename_i c g
  rw[g] at b;exact Wb (TI:=cJ) (n:=fn.ntmps) (c:=c) (rs:=fn.results.toList) ⟨⟨fn,i,by simpa using b.1,g,rfl,rfl⟩,b.2,dV,KO⟩ a.1 a.2.1 a.2.2.1 (Nat.le_of_ble_eq_true a.2.2.2.1) (Nat.le_of_ble_eq_true a.2.2.2.2) h
 exact h.elim
end Go.Abs
