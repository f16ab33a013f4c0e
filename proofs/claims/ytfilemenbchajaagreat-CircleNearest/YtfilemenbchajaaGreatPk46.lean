/- Part 47 of a proof. Conditions: each theorem's own. -/
import Derived.Test.YtfilemenbchajaaGreatPk12
set_option linter.all false
set_option maxHeartbeats 8000000
set_option maxRecDepth 20000
open Go.Proofs
namespace Go.Abs
open Go.RowKit
def Gx:TypeId->Info
 |130|133=>{size:=1,zero:=[.int .i64 0],agg:=true,B8:=false,fields:=[(0,1,false)]}
 | 68=>{size:=6,zero:=[.nil,.nil,.nil,.nil,.nil,.nil],agg:=true,B8:=false,fields:=[(0,2,true),(2,2,true),(4,2,true)]}
 |106|46|140=>{size:=1,zero:=[.int .i64 0],agg:=true,B8:=false,fields:=[(0,1,false)]}
 | 38=>{size:=6,zero:=[.nil,.nil,.nil,.nil,.nil,.nil],agg:=true,B8:=false,fields:=[(0,4,true),(4,2,true)]}
 | 74=>{size:=9,zero:=[.nil,.nil,.nil,.nil,.nil,.nil,.nil,.nil,.bool false],agg:=true,B8:=false,fields:=[(0,2,true),(2,2,true),(4,2,true),(6,2,true),(8,1,false)]}
 | t=>TI t
variable {f:FuncId} {r:AV}
theorem WJ (t:TypeId):DI Tryz.prog t (Gx t):=by
 unfold Gx
 split <;> first | exact Kk _ | exact P1 (by kernel_rfl)
def Ru (E:Env) (fn:Func) (r:AV) (b1:Option AM) (s:St):Prop:=
 match fn.body with
 | some c=>Cc E Gx fn.ntmps c (post Gx fn.results.toList r b1) s
 | none=>False
theorem BP {fn:Func} (g:Tryz.prog.funcs[f]? =some fn) (a:F6 fn=true) {args:List AV} (b:(KP args&&(r.all Bt&&(r.wf&&Nat.ble args.length fn.ntmps)))=true)
  (h:∀E,env Tryz.prog=E->Ru E fn r none (C4 fn.ntmps args none)):FB Tryz.prog false f args r:=by
 have h:=h _ rfl;unfold Ru at h;unfold F6 at a;simp only[Bool.and_eq_true] at a b
 split at h
 ·rename_i c d
  rw[d] at a;exact RD (TI:=Gx) (n:=fn.ntmps) (c:=c) (rs:=fn.results.toList) ⟨⟨fn,g,by simpa using a.1,d,rfl,rfl⟩,a.2,WJ,I6⟩ b.1 ⟨b.2.1,b.2.2.1⟩ (Nat.le_of_ble_eq_true b.2.2.2) h
 exact h.elim
def Rs (E:Env) (fn:Func) (r:AV) (b0:AM) (s:St):Prop:=
 match fn.body with
 | some c=>Cc E Gx fn.ntmps c (KO Gx fn.results.toList r b0) s
 | none=>False
theorem Bn {fn:Func} (g:Tryz.prog.funcs[f]? =some fn) (b:F6 fn=true) {b0:AM} {args:List AV} (a:(H4 args&&(r.all BD&&(b0.lone&&(Nat.ble args.length fn.ntmps&&Nat.ble 1 fn.ntmps))))=true)
  (h:∀E,env Tryz.prog=E->Rs E fn r b0 (C4 fn.ntmps args (some b0))):BW Tryz.prog f args b0 r:=by
 have h:=h _ rfl;unfold Rs at h;unfold F6 at b;simp only[Bool.and_eq_true] at b a
 split at h
 ·rename_i c d
  rw[d] at b;exact SM (TI:=Gx) (n:=fn.ntmps) (c:=c) (rs:=fn.results.toList) ⟨⟨fn,g,by simpa using b.1,d,rfl,rfl⟩,b.2,WJ,I6⟩ a.1 a.2.1 a.2.2.1 (Nat.le_of_ble_eq_true a.2.2.2.1) (Nat.le_of_ble_eq_true a.2.2.2.2) h
 exact h.elim
end Go.Abs
