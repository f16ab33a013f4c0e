/- Part 28 of a proof. Conditions: each theorem's own. -/
import Derived.Test.YtclgfoceefhnkaaGreatDoorLk26
set_option linter.all false
set_option maxHeartbeats 80000000
set_option maxRecDepth 20000
open Go.Proofs
namespace Go.Abs
open Go.RowKit
theorem BO {ops:List Oper} {tr:Tr} {C:Prop} (h:C) (a:PB ops tr=true:=by kernel_rfl):(Unit->Hd ops tr=true)/\C:=⟨fun _=>dO a,h⟩
end Go.Abs
namespace Go.Abs
theorem dL {E:Env} {g:FuncId} {args:List AV} {r:AV} {B:Nat->AG->List AV->Prop} {S:AG->AG} {K:Nat->AV->Prop} {c d i j:Prop} (id:Nat) (b:AG) (k:env Tryz.prog=E) (h:D7 Tryz.prog g args (S b) r) (l:B id b args) (m:K id r):
 c\/d\/i\/(∃(id:Nat) (b:AG) (a:List AV) (r:AV),(Unit->B id b a)/\(Unit->E.D g a (S b) r)/\K id r)\/j:= .inr (.inr (.inr (.inl ⟨id,b,args,r,fun _=>l,fun _=>FL k h,m⟩)))
end Go.Abs
namespace Go.Abs
open Go.RowKit
abbrev JV:T:= .pr AA (.sl .i64)
abbrev Wu:T:= .pr .i64 (.pr (.sl .i64) (.pr (.sl .i64) (.pr (.sl .ex) .i64)))
def HN:TypeId->Info
 | 9=>{size:=1,zero:=[.str ByteArray.empty],IA:=true,Ba:=false}
 | 25=>{size:=5,zero:=[.int .i64 0,.nil,.nil,.nil,.int .i64 0],agg:=true,Ba:=false,fields:=[(0,1,false),(1,1,false),(2,1,false),(3,1,false),(4,1,false)]}
 | 82=>{size:=7,zero:=[.int .i64 0,.bool false,.nil,.bool false,.nil,.str ByteArray.empty,.nil],agg:=true,Ba:=false,fields:=[(0,1,false),(1,4,true),(5,1,false),(6,1,false)]}
 | 23=>{size:=1,zero:=[.nil],sl:=true,Bw:=82,elem:= .ex,Ba:=((Ex.mk 0 ((false,[]),(false,[])) ByteArray.empty []):el .ex),Dk:=112}
 | 31=>{size:=10,zero:=[.int .i64 0,.nil,.nil,.nil,.int .i64 0,.nil,.nil,.int .i64 0,.nil,.nil],agg:=true,Ba:=false,fields:=[(0,5,true),(5,1,false),(6,1,false),(7,1,false),(8,1,false),(9,1,false)]}
 | 109=>{size:=10,zero:=[.int .i64 0,.nil,.nil,.nil,.int .i64 0,.nil,.nil,.int .i64 0,.nil,.int .i64 0],agg:=true,Ba:=false,fields:=[(0,5,true),(5,1,false),(6,1,false),(7,1,false),(8,1,false),(9,1,false)]}
 | 133=>{size:=7,zero:=[.str ByteArray.empty,.int .i64 0,.int .i64 0,.int .i64 0,.int .i64 0,.int .i64 0,.bool false],agg:=true,Ba:=false,fields:=[(0,1,false),(1,1,false),(2,1,false),(3,1,false),(4,1,false),(5,1,false),(6,1,false)]}
 | 206=>{size:=1,zero:=[.nil],sl:=true,Bw:=133,elem:=(.pr .str (.pr .i64 (.pr .i64 (.pr .i64 (.pr .i64 (.pr .i64 .bool)))))),Ba:=((ByteArray.empty,0,0,0,0,0,false):el (.pr .str (.pr .i64 (.pr .i64 (.pr .i64 (.pr .i64 (.pr .i64 .bool))))))),Dk:=64}
 |157|107=>{size:=1,zero:=[.BN],Ba:=false}
 | 159=>{size:=1,zero:=[.nil],pt:=true,Bw:=157,Ba:=false}
 | 173=>{size:=2,zero:=[.int .i64 0,.int .i64 0],agg:=true,Ba:=false,arr:=some (2,1,false)}
 | 174=>{size:=6,zero:=[.int .i64 0,.int .i64 0,.int .i64 0,.int .i64 0,.int .i64 0,.int .i64 0],agg:=true,Ba:=false,arr:=some (3,2,true)}
 | 237=>{size:=4,zero:=[.int .i64 0,.int .i64 0,.int .i64 0,.int .i64 0],agg:=true,Ba:=false,arr:=some (4,1,false)}
 | 195=>{size:=5,zero:=[.bool false,.nil,.bool false,.nil,.nil],agg:=true,Ba:=false,fields:=[(0,4,true),(4,1,false)]}
 |118|119=>{size:=1,zero:=[.nil],sl:=true,Bw:=195,elem:=JV,Ba:=((((false,[]),(false,[])),[]):el JV),Dk:=88}
 | 116=>{size:=1,zero:=[.nil],sl:=true,Bw:=119,elem:=(.sl JV),Ba:=([]:el (.sl JV)),Dk:=24}
 | 185=>{size:=2,zero:=[.nil,.nil],agg:=true,Ba:=false,fields:=[(0,1,false),(1,1,false)]}
 | t=>Hs t
variable {f:FuncId} {r:AV}
theorem W0 (t:TypeId):Cw Tryz.prog t (HN t):=by
 unfold HN
 split <;> first | exact gU _ | exact NB (by kernel_rfl)
def SF (E:Env) (fn:Func) (r:AV) (b1:Option AG) (s:St):Prop:=
 match fn.body with
 | some c=>CZ E HN fn.ntmps c (post HN fn.results.toList r b1) s
 | none=>False
theorem CA {fn:Func} (g:Tryz.prog.funcs[f]? =some fn) (a:FG fn=true) {args:List AV} (b:(IH args&&(r.all Bp&&(r.wf&&Nat.ble args.length fn.ntmps)))=true)
  (h:∀E,env Tryz.prog=E->SF E fn r none (CK fn.ntmps args none)):Eh Tryz.prog false f args r:=by
 have h:=h _ rfl;unfold SF at h;unfold FG at a;simp only[Bool.and_eq_true] at a b
 split at h
 ·rename_i c d
  rw[d] at a;exact RY (TI:=HN) (n:=fn.ntmps) (c:=c) (rs:=fn.results.toList) ⟨⟨fn,g,by simpa using a.1,d,rfl,rfl⟩,a.2,W0,I9⟩ b.1 ⟨b.2.1,b.2.2.1⟩ (Nat.le_of_ble_eq_true b.2.2.2) h
 exact h.elim
def SE (E:Env) (fn:Func) (r:AV) (b0:AG) (s:St):Prop:=
 match fn.body with
 | some c=>CZ E HN fn.ntmps c (HD HN fn.results.toList r b0) s
 | none=>False
theorem Eg {fn:Func} (i:Tryz.prog.funcs[f]? =some fn) (b:FG fn=true) {d b1:AG} {args:List AV} (a:(HA args&&(r.all Ao&&(d.lone&&(b1.lone&&(Nat.ble args.length fn.ntmps&&Nat.ble 1 fn.ntmps)))))=true)
  (h:∀E,env Tryz.prog=E->SE E fn r b1 (CK fn.ntmps args (some d))):DV Tryz.prog f args d r b1:=by
 have h:=h _ rfl;unfold SE at h;unfold FG at b;simp only[Bool.and_eq_true] at b a
 split at h
 ·rename_i c g
  rw[g] at b;exact gx (TI:=HN) (n:=fn.ntmps) (c:=c) (rs:=fn.results.toList) ⟨⟨fn,i,by simpa using b.1,g,rfl,rfl⟩,b.2,W0,I9⟩ a.1 a.2.1 a.2.2.1 a.2.2.2.1 (Nat.le_of_ble_eq_true a.2.2.2.2.1) (Nat.le_of_ble_eq_true a.2.2.2.2.2) h
 exact h.elim
theorem M3 {z:ByteArray} {n:Int} (h:n.toNat<z.size):∃b:UInt8,z.data[n.toNat]? =some b:=⟨_,Array.getElem?_eq_getElem h⟩
end Go.Abs
