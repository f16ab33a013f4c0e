/- Part 2 of a proof. Conditions: each theorem's own. -/
import Derived.Test.YtajccafjojgleaaGreatDoorRaM
import Derived.WalkKit
import Derived.Deep.MidRow
import Derived.ArgAppend
import Derived.Laws.Cover3
import Derived.Laws.IdiomStrings
import Derived.Laws.Tables
import Derived.Great.BuildSlice
import Derived.DataShut
import Derived.Deep.AppendSrc
import Derived.Deep.Upon
set_option linter.all false
set_option maxHeartbeats 80000000
set_option maxRecDepth 20000
namespace Go.Abs
 inductive T
  | u8 | u32 | u64 | i8 | i64 | bool | sl (t:T) | pr (a b:T)
  | str | ex | rf (t:T)
 inductive Ex
  | mk (op:Int) (v:(Bool×List UInt32)×(Bool×List UInt32)) (name:ByteArray) (args:List Ex)
def Ex.op:Ex->Int
 | .mk o _ _ _=>o
def Ex.v:Ex->(Bool×List UInt32)×(Bool×List UInt32)
 | .mk _ v _ _=>v
def Ex.name:Ex->ByteArray
 | .mk _ _ s _=>s
def Ex.args:Ex->List Ex
 | .mk _ _ _ l=>l
abbrev el:T->Type
 | .u8=>UInt8 | .u32=>UInt32 | .u64=>UInt64 | .i8=>Int | .i64=>Int | .bool=>Bool
 | .sl t=>List (el t) | .pr a b=>el a×el b
 | .str=>ByteArray | .ex=>Ex | .rf t=>el t
def T.size:T->Nat
 | .pr a b=>a.size+b.size
 | .ex=>7
 | _=>1
def T.beq:T->T->Bool
 | .u8,.u8=>true | .u32,.u32=>true | .u64,.u64=>true | .i8,.i8=>true | .i64,.i64=>true | .bool,.bool=>true
 | .sl a,.sl b=>a.beq b
 | .pr a b,.pr c d=>a.beq c&&b.beq d
 |.str,.str|.ex,.ex=>true
 | .rf a,.rf b=>a.beq b
 | _,_=>false
def T.agg:T->Bool
 |.pr _ _|.ex=>true
 | _=>false
 inductive AC
  | Bx | int (k:IntKind) (n:Int) | bool (b:Bool) | fn (f:FuncId) | nil
  | sl (t:T) (l:List (el t))
  | AU (t:T) (id BA off len:Nat)
  | NR (t:T) (id BA off len:Nat)
  | BE (id BA off:Nat)
  | H5 (t:T) (id BA i k:Nat)
  | Ck (t:T) (x:el t) (off:Nat)
  | ub (e:Bool)
  | own (t:T) (l:List (el t)) (n:Nat)
  | HB (f:FuncId) (ps:List (Nat×Nat))
  | E5 (f:FuncId) (qs:List ((t:T)×el t))
  | str (s:ByteArray)
  | Jv (ps:List (Nat×Nat×Nat))
  | IN (p:Nat×Nat×Nat)
 inductive AV
  | one (c:AC) | agg (cs:List AC) | Aj (xs:List (Bool×List AC))
 inductive Af
  | var (BA:Nat) (cs:List AC)
  | arr (BA:Nat) (t:T) (l:List (el t))
  | dead (BA:Nat)
def Af.BA:Af->Nat
 | .var v _=>v | .arr v _ _=>v | .dead v=>v
def cells:(t:T)->el t->List AC
 | .u8,x=>[.int .u8 x.toNat]
 | .u32,x=>[.int .u32 x.toNat]
 | .u64,x=>[.int .u64 x.toNat]
 | .i8,x=>[.int .i8 x]
 | .i64,x=>[.int .i64 x]
 | .bool,x=>[.bool x]
 | .sl t,l=>[.sl t l]
 | .pr a b,x=>cells a x.1++cells b x.2
 | .str,x=>[.str x]
 | .rf t,x=>[.Ck t x 0]
 | .ex,x=>[.int .i64 x.op,.bool x.v.1.1,.sl .u32 x.v.1.2,.bool x.v.2.1,.sl .u32 x.v.2.2,.str x.name,.sl .ex x.args]
structure DX (n:Int) (k:Nat):Prop where
 eq:n=k
 le:k<=140737488355328
structure AR (n:Int) (k:Nat):Prop where
 eq:n=k
structure Oh (n:Int) (x:UInt8):Prop where
 eq:n=x.toNat
structure Mz (n:Int) (x:UInt32):Prop where
 eq:n=x.toNat
structure gT (n:Int) (x:UInt64):Prop where
 eq:n=x.toNat
def LP:(t:T)->el t->(List AC->Prop)->Prop
 | .u8,x,K=>∀n,Oh n x->K [.int .u8 n]
 | .u32,x,K=>∀n,Mz n x->K [.int .u32 n]
 | .u64,x,K=>∀n,gT n x->K [.int .u64 n]
 | .i8,x,K=>K [.int .i8 x]
 | .i64,x,K=>K [.int .i64 x]
 | .bool,x,K=>K [.bool x]
 | .sl t,l,K=>K [.sl t l]
 | .pr a b,x,K=>LP a x.1 fun l=>LP b x.2 fun m=>K (l++m)
 | .str,x,K=>K [.str x]
 | .rf t,x,K=>K [.Ck t x 0]
 | .ex,x,K=>K [.int .i64 x.op,.bool x.v.1.1,.sl .u32 x.v.1.2,.bool x.v.2.1,.sl .u32 x.v.2.2,.str x.name,.sl .ex x.args]
theorem PM:∀(t:T) (x:el t) (K:List AC->Prop),LP t x K↔K (cells t x)
 |.u8,x,K|.u32,x,K|.u64,x,K=>⟨fun h=>h _ ⟨rfl⟩,fun h n d=>by rw[d.eq];exact h⟩
 |.i8,_,_|.i64,_,_|.bool,_,_|.sl _,_,_|.str,_,_|.ex,_,_|.rf _,_,_=>Iff.rfl
 | .pr a b,x,K=>by
  show LP a x.1 _↔_
  rw[PM a x.1,PM b x.2]
  rfl
def F2:Bool×List AC->AV
 | (true,cs)=> .agg cs
 | (false,c::_)=> .one c
 | (false,[])=> .one .Bx
def AV.cs:AV->List AC
 | .one c=>[c]
 | .agg cs=>cs
 | .Aj _=>[]
def AV.full:AV->Bool
 | .one .Bx=>false
 |.one _|.agg _=>true
 | .Aj _=>false
def AV.comp:AV->Bool×List AC
 | .one c=>(false,[c])
 | .agg cs=>(true,cs)
 | .Aj _=>(false,[])
def comp (t:T) (x:el t):Bool×List AC:=(t.agg,cells t x)
def XT (t:T) (x:el t):AV:=F2 (comp t x)
structure St where
 sl:List AV
 bk:List (Option Af)
def nth:List AV->Nat->AV
 | [],_=> .one .Bx
 | a::_,0=>a
 | _::l,n+1=>nth l n
def AP:List (Option Af)->Nat->Option Af
 | [],_=>none
 | a::_,0=>a
 | _::l,n+1=>AP l n
def Cc {α:Type}:List α->Nat->α->List α
 | [],_,_=>[]
 | _::l,0,x=>x::l
 | a::l,n+1,x=>a::Cc l n x
def BA (bk:Nat->Option Af) (id:Nat):Nat:=
 match bk id with
 | some b=>b.BA
 | none=>0
structure Info where
 known:Bool:=true
 size:Nat:=1
 agg:Bool:=false
 zero:List AC:=[]
 kind:Option IntKind:=none
 It:Bool:=false
 HG:Bool:=false
 pt:Bool:=false
 arr:Option (Nat×Nat×Bool):=none
 sl:Bool:=false
 C8:TypeId:=0
 elem:T:= .bool
 CD:el elem
 Eg:Nat:=0
 fields:List (Nat×Nat×Bool):=[]
def Si:Value->AV
 | .int k n=> .one (.int k n)
 | .bool b=> .one (.bool b)
 | .slice none 0 0=> .one .nil
 | .string s=> .one (.str s)
 | _=> .one .Bx
def GI:Nat->Option ((t:T)×el t)
 | 0=>some ⟨.pr .i64 (.pr .i64 (.pr .i64 .i64)),(1,0,3,2)⟩
 | _=>none
def ev (s:List AV):Operand->AV
 | .tmp t=>nth s t
 | .const v=>Si v
 | .func f=> .one (.fn f)
 | .global g=>match GI g with
  | some q=> .one (.Ck q.1 q.2 0)
  | none=> .one .Bx
structure DG where
 v:AV
 ws:List (Nat×Af):=[]
 rd:List Nat:=[]
def EF (n:Int):Prop:= -9223372036854775808<=n/\n<9223372036854775808
def fits (n b:Nat):Prop:=n*b<=140737488355328
def arith (op:BinOp) (k:IntKind) (a b:Int) (K:AC->Prop):Prop:=
 match op,k with
 | .add,.i64=>∀c,c=a+b->(Unit->EF c)/\K (.int .i64 c)
 | .sub,.i64=>∀c,c=a-b->(Unit->EF c)/\K (.int .i64 c)
 | .mul,.i64=>∀c,c=a*b->(Unit->EF c)/\K (.int .i64 c)
 | .quo,.i64=>∀c,c=a/b->(Unit->0<=a/\0<b/\EF c)/\K (.int .i64 c)
 | .rem,.i64=>∀c,c=a%b->(Unit->0<=a/\0<b)/\K (.int .i64 c)
 | .add,k=>∀c,c=k.wrap (a+b)->K (.int k c)
 | .sub,k=>∀c,c=k.wrap (a-b)->K (.int k c)
 | .mul,k=>∀c,c=k.wrap (a*b)->K (.int k c)
 | .quo,k=>∀c,c=k.wrap (a/b)->(Unit->0<=a/\0<b)/\K (.int k c)
 | .rem,k=>∀c,c=a%b->(Unit->0<=a/\0<b)/\K (.int k c)
 | .and,k=>∀c,c=k.wrap (BitVec.ofInt k.bits a &&& BitVec.ofInt k.bits b).toNat->K (.int k c)
 | .or,k=>∀c,c=k.wrap (BitVec.ofInt k.bits a ||| BitVec.ofInt k.bits b).toNat->K (.int k c)
 | .xor,k=>∀c,c=k.wrap (BitVec.ofInt k.bits a ^^^ BitVec.ofInt k.bits b).toNat->K (.int k c)
 | .andNot,k=>∀c,c=k.wrap (BitVec.ofInt k.bits a &&& ~~~ BitVec.ofInt k.bits b).toNat->K (.int k c)
 | .shl,k=>∀c,c=k.wrap (a*2^min b.toNat k.bits)->(Unit->0<=b)/\K (.int k c)
 | .shr,k=>∀c,c=a.fdiv (2^min b.toNat k.bits)->(Unit->0<=b)/\K (.int k c)
 | .eql,_=>∀c,c=(a==b)->K (.bool c)
 | .neq,_=>∀c,c=(a !=b)->K (.bool c)
 | .lss,_=>∀c,c=decide (a<b)->K (.bool c)
 | .leq,_=>∀c,c=decide (a<=b)->K (.bool c)
 | .gtr,_=>∀c,c=decide (a>b)->K (.bool c)
 | .geq,_=>∀c,c=decide (a >= b)->K (.bool c)
def Et (cs:List AC):Nat->Nat->List AC
 | 0,n=>cs.take n
 | off+1,n=>match cs with
  | []=>[]
  | _::cs=>Et cs off n
def DC {α:Type}:List α->Nat->List α->List α
 | cs,0,[]=>cs
 | [],0,_::_=>[]
 | _::cs,0,x::xs=>x::DC cs 0 xs
 | [],_+1,_=>[]
 | c::cs,off+1,xs=>c::DC cs off xs
def ld (i:Info) (cs:List AC) (off:Nat):AV:=F2 (i.agg,Et cs off i.size)
def OL (bk:Nat->Option Af):List (Nat×Nat)->List ((t:T)×el t)->Prop
 | [],[]=>True
 | p::r,q::m=>bk p.1=some (.var p.2 (cells q.1 q.2))/\OL bk r m
 | _,_=>False
def G1 (bk:Nat->Option Af):AC->AC->Prop
 | .AU t id v off len,c=>∃l,bk id=some (.arr v t l)/\off+len<=l.length/\c= .sl t ((l.drop off).take len)
 | .nil,c=>c= .nil\/∃t,c= .sl t []
 | .int k n,c=>c= .int k n
 | .bool b,c=>c= .bool b
 | .fn f,c=>c= .fn f
 | .sl t l,c=>c= .sl t l
 | .HB f ps,c=>(∃qs,OL bk ps qs/\c= .E5 f qs)\/c= .Bx
 | .BE id v off,c=>off=0/\∃(t:T) (x:el t),bk id=some (.var v (cells t x))/\c= .Ck t x 0
 | .str s,c=>c= .str s
 | .E5 f qs,c=>c= .E5 f qs
 | _,_=>False
def FV:AC->AC->Prop
 | .nil,c=>c= .nil\/∃t,c= .sl t []
 | .int k n,c=>c= .int k n
 | .bool b,c=>c= .bool b
 | .fn f,c=>c= .fn f
 | .sl t l,c=>c= .sl t l
 | .Ck t y o,c=>c= .Ck t y o
 | .str s,c=>c= .str s
 | .E5 f qs,c=>c= .E5 f qs
 | _,_=>False
def VK (bk:Nat->Option Af) (t0:T):AC->AC->Prop
 | .AU t id v off len,c=>t=t0/\∃l,bk id=some (.arr v t l)/\off+len<=l.length/\c= .sl t ((l.drop off).take len)
 | c,d=>FV c d
def KZ (t0:T):T->Bool
 | .sl t=> !(T.beq t0 t)&&KZ t0 t
 | .pr a b=>KZ t0 a&&KZ t0 b
 |.ex|.rf _=>false
 | _=>true
def Y1 (t0:T):AC->Bool
 |.int _ _|.bool _|.fn _|.nil|.str _=>true
 | .sl t _=>KZ t0 (.sl t)
 | _=>false
def EB (R:AC->AC->Prop):List AC->List AC->Prop
 | [],[]=>True
 | a::l,b::m=>R a b/\EB R l m
 | _,_=>False
def leV (R:AC->AC->Prop):AV->AV->Prop
 | .one a,.one b=>R a b
 | .agg l,.agg m=>EB R l m
 | _,_=>False
def Ey (R:AC->AC->Prop):List AV->List AV->Prop
 | [],[]=>True
 | a::l,b::m=>leV R a b/\Ey R l m
 | _,_=>False
def Ch:AC->List Nat
 | .AU _ id _ _ _=>[id]
 | .HB _ ps=>ps.map (·.1)
 | .BE id _ _=>[id]
 | _=>[]
def Cq:List AV->List Nat
 | []=>[]
 | .one c::r=>Ch c++Cq r
 | .agg cs::r=>cs.flatMap Ch++Cq r
 | .Aj _::r=>Cq r
def Y7 (d v:Nat):AC->AC
 | .own t _ n=> .AU t d v 0 n
 | c=>c
def AV.map (g:AC->AC):AV->AV
 | .one c=> .one (g c)
 | .agg cs=> .agg (cs.map g)
 | .Aj xs=> .Aj (xs.map fun x=>(x.1,x.2.map g))
def Lt (d v:Nat):AV->AV:= .map (Y7 d v)
def N4 (d v:Nat):List AC->List (Nat×Af)
 | []=>[]
 | .own t l _::_=>[(d,.arr v t l)]
 | _::r=>N4 d v r
def AV.cells:AV->List AC
 | .one c=>[c]
 | .agg cs=>cs
 | .Aj xs=>xs.flatMap (·.2)
def Kp (d v:Nat) (r:AV):List (Nat×Af):=N4 d v r.cells
abbrev Con:=Bool->FuncId->List AV->AV->Prop
abbrev fX:=FuncId->AC->Af->List AV->AV->Af->Prop
abbrev fY:=FuncId->List AV->Af->AV->Prop
abbrev fZ:=FuncId->List AV->Af->AV->Af->Prop
structure Env where
 C:Con
 B:fX
 D:fY
 W:fZ
def ID (id v:Nat):AC->AC->Prop
 | .AU t i w off len,c=>(i=id/\w=v)/\c= .AU t 0 0 off len
 | .BE i w off,c=>(i=id/\w=v)/\c= .BE 0 0 off
 | .nil,c=>c= .nil\/∃t,c= .sl t []
 | .int k n,c=>c= .int k n
 | .bool b,c=>c= .bool b
 | .fn f,c=>c= .fn f
 | .sl t l,c=>c= .sl t l
 | .str s,c=>c= .str s
 | _,_=>False
def QC (bk:Nat->Option Af) (id v:Nat):AC->AC->Prop
 | .BE i w off,c=>ID id v (.BE i w off) c\/((i≠id/\off=0)/\∃o,bk i=some (.var w [.BE id v o])/\c= .IN (0,0,o))
 | c,d=>ID id v c d
def jx (bk:Nat->Option Af) (l2:List Nat) (p:Nat×Nat):((t:T)×el t)->Prop
 |⟨.rf t,x⟩=>∃id v,id∈l2/\bk p.1=some (.var p.2 [.BE id v 0])/\bk id=some (.var v (cells t x))
 | q=>bk p.1=some (.var p.2 (cells q.1 q.2))
def OM (bk:Nat->Option Af) (l2:List Nat):List (Nat×Nat)->List ((t:T)×el t)->Prop
 | [],[]=>True
 | p::r,q::m=>jx bk l2 p q/\OM bk l2 r m
 | _,_=>False
def VJ (bk:Nat->Option Af) (l2:List Nat):AC->AC->Prop
 | .HB f ps,c=>∃qs,OM bk l2 ps qs/\c= .E5 f qs
 | c,d=>G1 bk c d
def H6 (places:List (Nat×Nat×Bool)) (e:Operand->AV):List (Nat×Operand)->List AC->Option (List AC)
 | [],cs=>some cs
 | (i,x)::r,cs=>match places[i]? with
  | some (off,n,_)=>if (e x).cs.length=n/\(e x).full=true/\off+n<=cs.length then H6 places e r (DC cs off (e x).cs) else none
  | none=>none
def Uy (id v:Nat):AC->AC
 | .AU t _ _ off len=> .AU t id v off len
 | .BE _ _ off=> .BE id v off
 | .H5 t _ _ i k=> .H5 t id v i k
 | c=>c
def pO (id v:Nat):AV->AV:= .map (Uy id v)
def Af.EY (v:Nat):Af->Af
 | .var _ cs=> .var v cs
 | .arr _ t l=> .arr v t l
 | .dead _=> .dead v
def pM:AC->Option (Nat×Nat)
 |.AU _ id v _ _|.BE id v _=>some (id,v)
 | _=>none
def T.flat:T->Bool
 | .sl _=>false
 | .pr a b=>a.flat&&b.flat
 |.ex|.rf _=>false
 | _=>true
def lS:Af->Bool
 | .arr _ t _=>t.flat
 | _=>false
def Iu:AC->Bool
 |.int _ _|.bool _|.fn _|.nil|.AU _ 0 0 _ _|.str _=>true
 | _=>false
def AV.all (p:AC->Bool):AV->Bool
 | .one c=>p c
 | .agg cs=>cs.all p
 | .Aj xs=>xs.all fun x=>x.2.all p
def Dc:AC->Bool
 | .Bx=>true | .int _ _=>true | .bool _=>true | .fn _=>true | .nil=>true | .sl _ _=>true
 | .Ck _ _ _=>true | .E5 _ _=>true
 | .str _=>true
 | _=>false
def M7 (E:Env) (g:FuncId) (args:List AV) (d:Nat) (bk:Nat->Option Af) (K:DG->Prop):Prop:=
 (∃args' r,(Unit->Ey FV args args')/\(Unit->E.C false g args' r)/\
  K ⟨Lt d (BA bk d+1) r,Kp d (BA bk d+1) r,[d]⟩)\/
 (∃args' r,(Unit->Ey (G1 bk) args args')/\(Unit->E.C true g args' r)/\
  K ⟨Lt d (BA bk d+1) r,Kp d (BA bk d+1) r,d::Cq args⟩)\/
 (match args with
  | .one c::rest=>match pM c with
   | some (id,v)=>match bk id with
    | some b=>if b.BA=v then ∃args' r b1,(Unit->id ∉ Cq rest/\Ey (G1 bk) rest args')/\(Unit->E.B g (Uy 0 0 c) (b.EY 0) args' r b1/\lS b1=true/\r.all Iu=true)/\
     K ⟨pO id v r,[(id,b1.EY v)],id::Cq rest⟩ else False
    | none=>False
   | none=>False
  | _=>False)\/
 (∃(id:Nat) (b:Af) (args':List AV) (r:AV),(Unit->bk id=some b/\Ey (ID id b.BA) args args')/\(Unit->E.D g args' (b.EY 0) r)/\K ⟨r,[],[id]⟩)\/
 (∃(id:Nat) (b:Af) (args':List AV) (r:AV),(Unit->(id≠0/\bk id=some b/\((Cq args).all fun k=>k==id)=true)/\Ey (G1 bk) args args')/\(Unit->E.C false g args' r/\r.all Dc=true)/\K ⟨r,[(id,.dead b.BA)],[id]⟩)
 \/False
 \/(∃(id:Nat) (b:Af) (args':List AV) (r:AV) (b1:Af),(Unit->bk id=some b/\Ey (ID id b.BA) args args')/\(Unit->E.W g args' (b.EY 0) r b1)/\K ⟨r,[(id,b1.EY b.BA)],[id]⟩)
 \/(∃(l2:List Nat) (args':List AV) (r:AV),(Unit->Ey (VJ bk l2) args args')/\(Unit->E.C true g args' r)/\K ⟨Lt d (BA bk d+1) r,Kp d (BA bk d+1) r,d::(Cq args++l2)⟩)
 \/(∃(id:Nat) (b:Af) (args':List AV) (r:AV) (b1:Af),(Unit->bk id=some b/\Ey (QC bk id b.BA) args args')/\(Unit->E.W g args' (b.EY 0) r b1)/\K ⟨r,[(id,b1.EY b.BA)],id::Cq args⟩)
 \/(∃(t0:T) (args':List AV) (r:AV),(Unit->Ey (VK bk t0) args args')/\(Unit->E.C false g args' r/\r.all (Y1 t0)=true)/\K ⟨r,[],Cq args⟩)
def HZ (TI:TypeId->Info) (b:Builtin) (tys:List TypeId) (args:List AV) (d:Nat) (bk:Nat->Option Af) (K:DG->Prop):Prop:=
 match b,tys,args with
 | .len,[t0],[.one (.sl _ l)]=>(TI t0).sl=true/\∀n,DX n l.length->K ⟨.one (.int .i64 n),[],[]⟩
 |.len,[t0],[.one (.NR _ id v _ len)]|.len,[t0],[.one (.AU _ id v _ len)]=>(TI t0).sl=true/\if BA bk id=v then ∀n,AR n len->K ⟨.one (.int .i64 n),[],[id]⟩ else False
 | .len,[t0],[.one .nil]=>(TI t0).sl=true/\K ⟨.one (.int .i64 0),[],[]⟩
 | .len,[t0],[.one (.Jv ps)]=>(TI t0).pt=true/\∀n,AR n ps.length->K ⟨.one (.int .i64 n),[],[]⟩
 | .len,[t0],[.one (.str s)]=>(TI t0).HG=true/\∀n,AR n s.size->K ⟨.one (.int .i64 n),[],[]⟩
 | .cap,[t0],[.one .nil]=>(TI t0).sl=true/\K ⟨.one (.int .i64 0),[],[]⟩
 | .min,_,[.one (.int k a),.one (.int _ b)]=>∀c,c=(if b<a then b else a)->K ⟨.one (.int k c),[],[]⟩
 | .max,_,[.one (.int k a),.one (.int _ b)]=>∀c,c=(if b>a then b else a)->K ⟨.one (.int k c),[],[]⟩
 | .append,[t0,t1],[.one .nil,.one x]=>
  ((TI t0).sl=true/\(TI t1).sl=true)/\∃l2:List (el (TI t0).elem),(Unit->G1 bk x (.sl _ l2)/\fits l2.length (TI t0).Eg)/\
    ∀n,n=l2.length->K ⟨.one (.AU (TI t0).elem d (BA bk d+1) 0 n),[(d,.arr (BA bk d+1) _ l2)],d::Ch x⟩
 | .append,[t0,t1],[.one (.NR t id v off len),.one x]=>
  ((TI t0).sl=true/\(TI t1).sl=true)/\match bk id with
    | some (.arr v' t' l)=>if v'=v/\T.beq t' t=true/\T.beq t' (TI t0).elem=true then
     ∃l2:List (el t'),(Unit->off=0/\len<=l.length/\G1 bk x (.sl _ l2)/\fits (len+l2.length) (TI t0).Eg)/\
      ∀l' n,(l'=l.take len++l2/\n=l'.length)->K ⟨.one (.AU t' id (v+1) 0 n),[(id,.arr (v+1) t' l')],id::Ch x⟩
     else False
    | _=>False
 | .append,[t0,t1],[.one (.AU t id v off len),.one x]=>
  ((TI t0).sl=true/\(TI t1).sl=true)/\match bk id with
    | some (.arr v' t' l)=>if v'=v/\T.beq t' t=true/\T.beq t' (TI t0).elem=true then
     ∃l2:List (el t'),(Unit->off=0/\len=l.length/\G1 bk x (.sl _ l2)/\fits (l.length+l2.length) (TI t0).Eg)/\
      ∀l' n,(l'=l++l2/\n=l'.length)->K ⟨.one (.AU t' id (v+1) 0 n),[(id,.arr (v+1) t' l')],id::Ch x⟩
     else False
    | _=>False
 | _,_,_=>False
def MP (K:DG->Prop) (f:DG):Prop:=
 match f.v,f.ws with
 | .one (.AU t id v off n),[(i,.arr v' t' l)]=>if (id !=0&&id==i&&v==v'&&off==0&&T.beq t t')=true then (Unit->n=l.length)/\K ⟨.one (.sl t' l),[(id,.dead v)],f.rd⟩ else False
 | _,_=>False
def Ov (TI:TypeId->Info) (b:Builtin) (tys:List TypeId) (args:List AV) (d:Nat) (bk:Nat->Option Af) (K:DG->Prop):Prop:=
 match b with
 | .append=>HZ TI b tys args d bk K\/HZ TI b tys args d bk (MP K)\/False
 | _=>HZ TI b tys args d bk K
def SB:List (Nat×List AC)->Nat->List (List AC)->Prop
 | [],_,[]=>True
 | p::r,k,x::m=>p.1=k/\EB FV p.2 x/\SB r (k+1) m
 | _,_,_=>False
def Ih (len:Nat) (lo hi mx:Option AV) (K:Nat->Nat->Bool->Prop):Prop:=
 match lo,hi,mx with
 | none,none,none=>∀h,h=len->K 0 h false
 | some (.one (.int _ a)),none,none=>(Unit->0<=a/\a.toNat<=len)/\∀l h,(l=a.toNat/\h=len)->K l h false
 | none,some (.one (.int _ b)),none=>(Unit->0<=b/\b.toNat<=len)/\∀h,h=b.toNat->K 0 h false
 | some (.one (.int _ a)),some (.one (.int _ b)),none=>(Unit->0<=a/\a<=b/\b.toNat<=len)/\∀l h,(l=a.toNat/\h=b.toNat)->K l h false
 | none,some (.one (.int _ b)),some (.one (.int _ m))=>(Unit->0<=b/\b=m/\m.toNat<=len)/\∀h,h=b.toNat->K 0 h true
 | _,_,_=>False
def O4 (bk:Nat->Option Af) (u:T) (x:AV) (lo hi mx:Option AV) (K:DG->Prop):Prop:=
 match x with
 | .one (.sl t l)=>T.beq t u=true/\∀n,n=l.length->Ih n lo hi mx fun a b _=>∀l',l'=(l.take b).drop a->K ⟨.one (.sl t l'),[],[]⟩
 | .one (.AU t id v off len)=>T.beq t u=true/\if BA bk id=v then Ih len lo hi mx fun a b c=>∀o n,(o=off+a/\n=b-a)->
  match c with | true=>K ⟨.one (.NR t id v o n),[],[id]⟩ | false=>K ⟨.one (.AU t id v o n),[],[id]⟩
  else False
 | .one .nil=>Ih 0 lo hi mx fun _ _ _=>K ⟨.one .nil,[],[]⟩
 | _=>False
def PH:List AV->Option (List (Nat×Nat))
 | []=>some []
 | .one (.BE id v 0)::r=>match PH r with
  | some ps=>some ((id,v)::ps)
  | none=>none
 | _::_=>none
def XR (n s:Nat) (g:Bool):List (Nat×Nat×Bool):=(List.range n).map fun i=>(i*s,s,g)
def Qj:List AV->Option (List (Nat×Nat×Nat))
 | []=>some []
 | .one (.BE id v o)::r=>match Qj r with
  | some ps=>some ((id,v,o)::ps)
  | none=>none
 | _::_=>none
def FQ (E:Env) (TI:TypeId->Info) (o:Oper) (d:Nat) (e:Operand->AV) (bk:Nat->Option Af) (K:DG->Prop):Prop:=
 match o.op with
 |.move x|.assign x=>K ⟨e x,[],[]⟩
 | .nilCheck x=>match e x with
  | .one (.BE id v off)=>if BA bk id=v then K ⟨e x,[],[id]⟩ else False
  |.one (.fn _)|.one (.E5 _ _)|.one (.Ck _ _ _)=>K ⟨e x,[],[]⟩
  | _=>False
 | .pick c a b=>match e c with
  | .one (.bool true)=>K ⟨e a,[],[]⟩
  | .one (.bool false)=>K ⟨e b,[],[]⟩
  | _=>False
 | .alloc t=>(TI t).known=true/\K ⟨.one (.BE d (BA bk d+1) 0),[(d,.var (BA bk d+1) (TI t).zero)],[d]⟩
 | .box _ x=>match e x with
  |.Aj _|.one .Bx=>False
  | v=>K ⟨.one (.BE d (BA bk d+1) 0),[(d,.var (BA bk d+1) v.cs)],[d]⟩
 | .extract t i=>match e t with
  | .Aj xs=>match xs[i]? with
   | some x=>K ⟨F2 x,[],[]⟩
   | none=>False
  | _=>False
 | .load t a=>(TI t).known=true/\match e a with
  | .one (.BE id v off)=>match bk id with
   | some (.var v' cs)=>if v'=v/\(Et cs off (TI t).size).length=(TI t).size then K ⟨ld (TI t) cs off,[],[id]⟩ else False
   | _=>False
  | .one (.Ck t' x off)=>LP t' x fun cs=>if (Et cs off (TI t).size).length=(TI t).size then K ⟨ld (TI t) cs off,[],[]⟩ else False
  | .one (.IN p)=>(TI t).agg=false/\K ⟨.one (.BE p.1 p.2.1 p.2.2),[],[]⟩
  | .one (.H5 t' id v i k)=>match bk id with
   | some (.arr v' u l)=>if v'=v/\T.beq t' u=true then ∃x:el u,(Unit->l[i]? =some x)/\LP u x fun cs=>
    if (Et cs k (TI t).size).length=(TI t).size then K ⟨ld (TI t) cs k,[],[id]⟩ else False
    else False
   | _=>False
  | _=>False
 | .store t a x=>(TI t).known=true/\match e a with
  | .one (.BE id v off)=>match bk id,e x with
   |_,.Aj _|_,.one .Bx=>False
   | some (.var v' cs),y=>if v'=v/\y.cs.length=(TI t).size/\off+(TI t).size<=cs.length then
    K ⟨.one .Bx,[(id,.var v (DC cs off y.cs))],[id]⟩ else False
   | _,_=>False
  | .one (.H5 t' id v i k)=>match bk id,e x with
   |_,.Aj _|_,.one .Bx=>False
   | some (.arr v' u l),y=>if v'=v/\k=0/\(TI t).size=u.size/\T.beq t' u=true then
    ∃z:el u,(Unit->i<l.length/\EB FV y.cs (cells u z))/\∀l',l'=l.set i z->K ⟨.one .Bx,[(id,.arr v u l')],[id]⟩
    else if v'=v/\k+(TI t).size<=u.size/\T.beq t' u=true then
    ∃(x:el u) (z:el u),(Unit->l[i]? =some x/\y.cs.length=(TI t).size/\EB FV (DC (cells u x) k y.cs) (cells u z))/\∀l',l'=l.set i z->K ⟨.one .Bx,[(id,.arr v u l')],[id]⟩
    else False
   | _,_=>False
  | _=>False
 | .fieldAddr s x f=>(TI s).known=true/\match (TI s).fields[f]?,e x with
  | some (fo,_,_),.one (.BE id v off)=>if BA bk id=v then K ⟨.one (.BE id v (off+fo)),[],[id]⟩ else False
  | some (fo,_,_),.one (.Ck t y off)=>K ⟨.one (.Ck t y (off+fo)),[],[]⟩
  | some (fo,_,_),.one (.H5 t id v i k)=>if BA bk id=v then K ⟨.one (.H5 t id v i (k+fo)),[],[id]⟩ else False
  | _,_=>False
 | .field s x f=>(TI s).known=true/\match (TI s).fields[f]?,e x with
  | some (fo,n,g),.agg cs=>if (Et cs fo n).length=n then K ⟨F2 (g,Et cs fo n),[],[]⟩ else False
  | _,_=>False
 | .build t parts=>match (TI t).arr with
  | some q=>(TI t).known=true/\match H6 (XR q.1 q.2.1 q.2.2) e parts.toList (TI t).zero with
   | some cs=>K ⟨.agg cs,[],[]⟩
   | none=>False
  | none=>((TI t).known=true/\(TI t).fields.isEmpty=false)/\match H6 (TI t).fields e parts.toList (TI t).zero with
  | some cs=>K ⟨.agg cs,[],[]⟩
  | none=>False
 | .buildSlice t len parts=>match (TI t).pt with
  | true=>match Qj (parts.toList.map fun p=>e p.2) with
   | some ps=>(Unit->ps.length=len/\len<=524288/\parts.toList.map (·.1)=List.range len)/\K ⟨.one (.Jv ps),[],[]⟩
   | none=>False
  | false=>(TI t).sl=true/\(TI t).elem.size<=32/\∃xs:List (el (TI t).elem),
   (Unit->xs.length=len/\len<=524288/\(parts.toList.all fun p=>(e p.2).full)=true/\SB (parts.toList.map fun p=>(p.1,(e p.2).cs)) 0 (xs.map (cells _)))/\
   (K ⟨.one (.AU (TI t).elem d (BA bk d+1) 0 len),[(d,.arr (BA bk d+1) _ xs)],[d]⟩\/K ⟨.one (.sl (TI t).elem xs),[],[]⟩)
 | .makeSlice t l c=>(TI t).sl=true/\match e l,e c with
  | .one (.int _ n),.one (.int _ m)=>(Unit->0<=n/\n<=m/\fits m.toNat (TI t).Eg)/\
   ∀k z,(k=n.toNat/\z=List.replicate k (TI t).CD)->K ⟨.one (.AU (TI t).elem d (BA bk d+1) 0 k),[(d,.arr (BA bk d+1) _ z)],[d]⟩
  | _,_=>False
 | .indexAddr t x i=>match (TI t).pt with
  | true=>match e x,e i with
   | .one (.Jv ps),.one (.int _ n)=>∃p,(Unit->0<=n/\ps[n.toNat]? =some p)/\K ⟨.one (.IN p),[],[]⟩
   | _,_=>False
  | false=>match (TI t).arr with
   | some q=>match e x,e i with
    | .one (.BE id v off),.one (.int _ n)=>if BA bk id=v then (Unit->0<=n/\n.toNat<q.1)/\K ⟨.one (.BE id v (off+n.toNat*q.2.1)),[],[id]⟩ else False
    | .one (.Ck t' y off),.one (.int _ n)=>∃(u:T) (z:el u),(Unit->(0<=n/\n.toNat<q.1)/\cells u z=Et (cells t' y) (off+n.toNat*q.2.1) q.2.1)/\K ⟨.one (.Ck u z 0),[],[]⟩
    | _,_=>False
   | none=>(TI t).sl=true/\match e x,e i with
  | .one (.sl t' l),.one (.int _ n)=>T.beq t' (TI t).elem=true/\∃x,(Unit->0<=n/\l[n.toNat]? =some x)/\K ⟨.one (.Ck t' x 0),[],[]⟩
  | .one (.AU t' id v off len),.one (.int _ n)=>T.beq t' (TI t).elem=true/\if BA bk id=v then (Unit->0<=n/\n.toNat<len)/\∀j,j=off+n.toNat->K ⟨.one (.H5 t' id v j 0),[],[id]⟩ else False
  | _,_=>False
 | .slice t x lo hi mx=>match e x with
  | .one (.str s)=>(TI t).HG=true/\∀n,n=s.size->Ih n (lo.map e) (hi.map e) (mx.map e) fun a b c=>c=false/\∀z,z=s.extract a b->K ⟨.one (.str z),[],[]⟩
  | X=>(TI t).sl=true/\O4 bk (TI t).elem X (lo.map e) (hi.map e) (mx.map e) K
 | .index t x i=>match (TI t).arr with
  | some q=>match e x,e i with
   | .agg cs,.one (.int _ n)=>(Unit->0<=n/\n.toNat<q.1)/\if (Et cs (n.toNat*q.2.1) q.2.1).length=q.2.1 then K ⟨F2 (q.2.2,Et cs (n.toNat*q.2.1) q.2.1),[],[]⟩ else False
   | _,_=>False
  | none=>(TI t).HG=true/\match e x,e i with
  | .one (.str s),.one (.int _ n)=>∃b:UInt8,(Unit->0<=n/\s.data[n.toNat]? =some b)/\∀z,Oh z b->K ⟨.one (.int .u8 z),[],[]⟩
  | _,_=>False
 | .binOp op bt x y _=>match e x,e y with
  | .one (.int k a),.one (.int k' b)=>if k=k'\/op= .shl\/op= .shr then arith op k a b fun c=>K ⟨.one c,[],[]⟩ else False
  | .one (.bool a),.one (.bool b)=>(TI bt).It=true/\match op with
   | .eql=>∀c,c=(a==b)->K ⟨.one (.bool c),[],[]⟩
   | .neq=>∀c,c=(a !=b)->K ⟨.one (.bool c),[],[]⟩
   | _=>False
  | .one (.sl _ l),.one .nil=>(TI bt).sl=true/\match op with
   | .eql=>∀c,c=l.isEmpty->K ⟨.one (.ub c),[],[]⟩
   | _=>False
  | .one (.str a),.one (.str b)=>match op with
   | .eql=>∀c,c=(a.toList==b.toList)->K ⟨.one (.bool c),[],[]⟩
   | .neq=>∀c,c=(!(a.toList==b.toList))->K ⟨.one (.bool c),[],[]⟩
   | .add=>(Unit->a.size+b.size<=9223372036854775807)/\∀c,c=a++b->K ⟨.one (.str c),[],[]⟩
   | _=>False
  | _,_=>False
 | .unOp op _ x=>match op,e x with
  | .not,.one (.bool b)=>∀c,c= !b->K ⟨.one (.bool c),[],[]⟩
  | .neg,.one (.int k n)=>∀c,c=k.wrap (0-n)->K ⟨.one (.int k c),[],[]⟩
  | _,_=>False
 | .convert src dst x=>(TI src).known=true/\match (TI dst).kind,e x with
  | some k,.one (.int _ n)=>∀c,c=k.wrap n->K ⟨.one (.int k c),[],[]⟩
  | none,.one c=>(TI dst).HG=true/\(TI src).sl=true/\(TI (TI src).C8).kind=some .u8/\∃l:List UInt8,(Unit->c= .sl .u8 l)/\∀z,z=ByteArray.mk l.toArray->K ⟨.one (.str z),[],[]⟩
  | _,_=>False
 | .makeFunc fn first captured=>match fn,first.toList,PH (captured.toList.map e) with
  | .func f,[],some ps=>K ⟨.one (.HB f ps),[],[]⟩
  | _,_,_=>False
 | .call c=>match c.callee with
  | .builtin b=>Ov TI b c.argTypes.toList (c.args.toList.map e) d bk K
  | .value f=>match e f with
   | .one (.fn g)=>M7 E g (c.args.toList.map e) d bk K
   | .one (.E5 g qs)=>M7 E g (c.args.toList.map e++qs.map fun q=> .one (.Ck q.1 q.2 0)) d bk K
   | .one (.HB g ps)=>M7 E g (c.args.toList.map e++ps.map fun p=> .one (.BE p.1 p.2 0)) d bk K
   | _=>False
  | .invoke _ _=>False
 | _=>False
def E7:List (Nat×Af)->List (Option Af)->List (Option Af)
 | [],b=>b
 | w::r,b=>E7 r (Cc b w.1 (some w.2))
def Fo (l:List AV):Option Nat->AV->List AV
 | some d,v=>Cc l d v
 | none,_=>l
def St.app (s:St) (d:Option Nat) (f:DG):St:=⟨Fo s.sl d f.v,E7 f.ws s.bk⟩
def Cs (o:Oper):Nat:=o.dst.getD 1000000
abbrev Tr:=List (List Nat×List Nat)
def JZ (ops:List Oper) (j:Nat):Option Nat:=(ops[j]?).bind (·.dst)
def od (o:Oper):List Nat:=o.op.operands.toList.filterMap fun | .tmp t=>some t | _=>none
def Iw (ops:List Oper) (o:Oper):List Nat:=
 o.dst.toList++od o++(match o.guard with | some (j,_)=>(JZ ops j).toList | none=>[])
def FP (o:Oper):List Nat:=(o.after.toList.filter fun e=>Region.binds .any e).map (·.on)
def Gq:List Oper->List (List Nat)->List (List Nat)
 | [],acc=>acc
 | o::r,acc=>Gq r (acc++[(FP o).flatMap fun j=>j::acc.getD j []])
def NW (a b:List Nat):Bool:=a.all fun x=> !b.contains x
def NB (ops:List Oper) (oi oj:Oper) (ti tj:List Nat×List Nat):Bool:=
 NW oi.dst.toList (Iw ops oj)&&NW oj.dst.toList (Iw ops oi)&&
 NW ti.2 (tj.1++tj.2)&&NW tj.2 ti.1
def aU (ops:List Oper) (tr:Tr) (bs:List (List Nat)):Bool:=
 (List.range ops.length).all fun j=>(List.range j).all fun i=>
  (bs.getD j []).contains i||
   (match ops[i]?,ops[j]?,tr[i]?,tr[j]? with
    | some oi,some oj,some ti,some tj=>NB ops oi oj ti tj
    | _,_,_,_=>false)
def XV (ops:List Oper):Bool:=
 (List.range ops.length).all fun j=>match ops[j]? with | some o=>(FP o).all fun i=>decide (i<j) | none=>true
def Jq (ops:List Oper) (tr:Tr):Bool:=XV ops&&aU ops tr (Gq ops [])
def Hm (E:Env) (TI:TypeId->Info) (all:List Oper) (draw:Bool):List Oper->Tr->(St->Prop)->St->Prop
 | [],tr,Q,s=>match draw with
  | false=>Q s
  | true=>(Unit->Jq all tr.reverse=true)/\Q s
 | o::r,tr,Q,s=>match o.guard with
  | none=>FQ E TI o (Cs o) (ev s.sl) (AP s.bk) fun f=>Hm E TI all draw r ((f.rd,f.ws.map (·.1))::tr) Q (s.app o.dst f)
  | some (j,w)=>match JZ all j with
   | none=>False
   | some g=>match nth s.sl g,w with
    |.one (.bool true),true|.one (.bool false),false=>FQ E TI o (Cs o) (ev s.sl) (AP s.bk) fun f=>Hm E TI all draw r ((f.rd,f.ws.map (·.1))::tr) Q (s.app o.dst f)
    |.one (.bool true),false|.one (.bool false),true|.Aj [],_=>Hm E TI all draw r (([],[])::tr) Q (s.app o.dst ⟨.Aj [],[],[]⟩)
    | _,_=>False
 inductive AX
  | Dw | exit (n:Nat) | ret
def Kj (bk:Nat->Option Af) (bs:List Nat):AC->AC
 | .AU t id v off len=>if bs.contains id&&BA bk id==v then .AU t id 0 off len else .Bx
 | .BE id v off=>if bs.contains id&&BA bk id==v then .BE id 0 off else .Bx
 | .H5 t id v i k=>if bs.contains id&&BA bk id==v then .H5 t id 0 i k else .Bx
 |.NR _ _ _ _ _|.HB _ _=> .Bx
 | .Jv ps=>if (ps.all fun p=>bs.contains p.1&&BA bk p.1==p.2.1)=true then .Jv (ps.map fun p=>(p.1,0,p.2.2)) else .Bx
 | .IN _=> .Bx
 | c=>c
def QX (bk:Nat->Option Af) (bs:List Nat):AV->AV
 | .one c=> .one (Kj bk bs c)
 | .agg cs=> .agg (cs.map (Kj bk bs))
 | .Aj _=> .one .Bx
def N0 (bk:Nat->Option Af) (bs:List Nat):Af->Af
 | .var _ cs=> .var 0 (cs.map (Kj bk bs))
 | .arr _ t l=> .arr 0 t l
 | .dead _=> .dead 0
def Ga (s:St) (bs:List Nat):List Nat->List AV
 | []=>[]
 | k::r=>QX (AP s.bk) bs (nth s.sl k)::Ga s bs r
def Gv (s:St) (bs:List Nat):List Nat->List Af
 | []=>[]
 | k::r=>(match AP s.bk k with | some b=>if k==0&&b.BA !=0 then .dead 0 else N0 (AP s.bk) bs b | none=> .dead 0)::Gv s bs r
def Iz:List Nat->List AV->List AV->List AV
 | k::ks,v::vs,l=>Iz ks vs (Cc l k v)
 | _,_,l=>l
def Jw:List Nat->List Af->List (Option Af)->List (Option Af)
 | k::ks,v::vs,l=>Jw ks vs (Cc l k (some v))
 | _,_,l=>l
def F5 {α:Type}:Nat->α->List α
 | 0,_=>[]
 | n+1,x=>x::F5 n x
def Ki (n:Nat) (ks:List Nat) (vs:List AV) (bs:List Nat) (bl:List Af):St:=
 ⟨Iz ks vs (F5 n (.one .Bx)),Jw bs bl (F5 n none)⟩
def LS (s:St):List (Nat×T×Bool)->St
 | []=>s
 | (k,t,b)::r=>LS (match nth s.sl k,b with
  | .one .nil,false=>⟨Cc s.sl k (.one (.sl t [])),s.bk⟩
  | .one .nil,true=>⟨Cc s.sl k (.one (.AU t k (BA (AP s.bk) k+1) 0 0)),Cc s.bk k (some (.arr (BA (AP s.bk) k+1) t []))⟩
  | .one (.AU t id v 0 n),false=>match AP s.bk id with
   | some (.arr v' t' l)=>if (id !=0&&v==v'&&T.beq t t')=true then⟨Cc s.sl k (if n=l.length then .one (.sl t' l) else .one .Bx),Cc s.bk id (some (.dead v))⟩ else s
   | _=>s
  | .one (.AU t id v o n),true=>match AP s.bk id with
   | some (.arr v' t' l)=>if (id !=0&&(k !=0&&(id !=k&&v==v')))=true then⟨Cc s.sl k (.one (.AU t k (BA (AP s.bk) k+1) o n)),Cc (Cc s.bk id (some (.dead v))) k (some (.arr (BA (AP s.bk) k+1) t' l))⟩ else s
   | _=>s
  | _,_=>s) r
def Lm:Code->Bool
 |.skip|.region _ _ _=>true
 | .seq a b=>Lm a&&Lm b
 | .cond _ a b=>Lm a||Lm b
 |.block _ _|.loop _=>true
 | _=>false
def DY (E:Env) (TI:TypeId->Info) (n:Nat):Code->(AX->St->Prop)->St->Prop
 | .skip,Q,s=>Q .Dw s
 | .region _ ops draw,Q,s=>Hm E TI ops.toList draw ops.toList [] (Q .Dw) s
 | .seq a b,Q,s=>DY E TI n a (fun e s=>match e with | .Dw=>DY E TI n b Q s | .exit i=>Q (.exit i) s | .ret=>Q .ret s) s
 | .cond c a b,Q,s=>match Lm a&&Lm b with
  | true=>(∃(ks bs:List Nat) (J:List AV->List Af->Prop),(∀vs bl,J vs bl->Q .Dw (Ki n ks vs bs bl))/\
    match ev s.sl c with
    | .one (.bool true)=>DY E TI n a (fun e s'=>match e with | .Dw=>J (Ga s' bs ks) (Gv s' bs bs) | .exit i=>Q (.exit i) s' | .ret=>Q .ret s') s
    | .one (.bool false)=>DY E TI n b (fun e s'=>match e with | .Dw=>J (Ga s' bs ks) (Gv s' bs bs) | .exit i=>Q (.exit i) s' | .ret=>Q .ret s') s
    | .one (.ub u)=>(u=true->DY E TI n a (fun e s'=>match e with | .Dw=>J (Ga s' bs ks) (Gv s' bs bs) | .exit i=>Q (.exit i) s' | .ret=>Q .ret s') s)/\
     DY E TI n b (fun e s'=>match e with | .Dw=>J (Ga s' bs ks) (Gv s' bs bs) | .exit i=>Q (.exit i) s' | .ret=>Q .ret s') s
    | _=>False)\/
   (match ev s.sl c with
   | .one (.bool true)=>DY E TI n a Q s
   | .one (.bool false)=>DY E TI n b Q s
   | .one (.ub u)=>(u=true->DY E TI n a Q s)/\DY E TI n b Q s
   | _=>False)
  | false=>match ev s.sl c with
   | .one (.bool true)=>DY E TI n a Q s
   | .one (.bool false)=>DY E TI n b Q s
   | .one (.ub u)=>(u=true->DY E TI n a Q s)/\DY E TI n b Q s
   | _=>False
 | .block id c,Q,s=>(∃(ks bs:List Nat) (J:List AV->List Af->Prop),(∀vs bl,J vs bl->Q .Dw (Ki n ks vs bs bl))/\
   DY E TI n c (fun e s'=>match e with | .exit i=>if i=id then J (Ga s' bs ks) (Gv s' bs bs) else Q (.exit i) s' | .Dw=>J (Ga s' bs ks) (Gv s' bs bs) | .ret=>Q .ret s') s)\/
  DY E TI n c (fun e s=>match e with | .exit i=>if i=id then Q .Dw s else Q (.exit i) s | .Dw=>Q .Dw s | .ret=>Q .ret s) s
 | .loop c,Q,s=>∃(cv:List (Nat×T×Bool)) (ks bs:List Nat) (J:List AV->List Af->Nat->Prop),
  (∃k,J (Ga (LS s cv) bs ks) (Gv (LS s cv) bs bs) k)/\∀vs bl k,J vs bl k->
   DY E TI n c (fun e s'=>match e with
    | .Dw=>∃k',k'<k/\J (Ga s' bs ks) (Gv s' bs bs) k'
    | .exit i=>Q (.exit i) s' | .ret=>Q .ret s') (Ki n ks vs bs bl)
 | .exit i,Q,s=>Q (.exit i) s
 | .ret,Q,s=>Q .ret s
 | _,_,_=>False
def I3 (bk:Nat->Option Af):AC->AC->Prop
 | .AU t id v off len,c=>(∃l,bk id=some (.arr v t l)/\off+len<=l.length/\c= .sl t ((l.drop off).take len))\/
  (∃l n,id≠0/\bk id=some (.arr v t l)/\off=0/\len=l.length/\n=l.length/\c= .own t l n)\/
  (id=0/\v=0/\c= .AU t 0 0 off len)
 | .nil,c=>c= .nil\/(∃t,c= .sl t [])\/∃t,c= .own t [] 0
 | .int k n,c=>c= .int k n
 | .bool b,c=>c= .bool b
 | .fn f,c=>c= .fn f
 | .sl t l,c=>c= .sl t l
 | .str s,c=>c= .str s
 | _,_=>False
def Kx (bk:Nat->Option Af):List (Bool×List AC)->List (Bool×List AC)->Prop
 | [],[]=>True
 | a::l,b::m=>(a.1=b.1/\EB (I3 bk) a.2 b.2)/\Kx bk l m
 | _,_=>False
def Hi:AC->Bool
 | .own _ _ _=>true
 | _=>false
def Jd:AC->Bool
 |.AU _ _ _ _ _|.own _ _ _=>true
 | _=>false
def aW (src:List (Bool×List AC)) (res:List (Bool×List AC)):Bool:=
 match (res.flatMap (·.2)).filter Hi with
 | []=>true
 | [_]=>((src.flatMap (·.2)).filter Jd).length<=1
 | _=>false
def AV.Il:AV->List (Bool×List AC)
 | .Aj xs=>xs
 | v=>[v.comp]
def bg (TI:TypeId->Info) (s:St):ResultVar->Option (Bool×List AC)
 | .tmp t=>some (nth s.sl t).comp
 | .cell a t=>match nth s.sl a with
  | .one (.BE id v off)=>match AP s.bk id with
   | some (.var v' cs)=>if (TI t).known&&v'==v&&(Et cs off (TI t).size).length==(TI t).size then some ((TI t).agg,Et cs off (TI t).size) else none
   | _=>none
  | _=>none
def J4 (TI:TypeId->Info) (s:St):List ResultVar->Option (List (Bool×List AC))
 | []=>some []
 | r::rs=>match bg TI s r,J4 TI s rs with
  | some x,some xs=>some (x::xs)
  | _,_=>none
def MB:AC->Bool
 | .AU _ 0 _ _ _=>false
 | _=>true
def Ue (TI:TypeId->Info) (rs:List ResultVar) (r:AV) (b0:Af) (e:AX) (s:St):Prop:=
 match e with
 | .exit _=>False
 | _=>match J4 TI s rs with
  | some xs=>(Unit->(Kx (AP s.bk) xs r.Il/\(xs.all fun x=>x.2.all MB)=true/\(rs.length=1↔∀ys,r≠ .Aj ys))/\AP s.bk 0=some b0)
  | none=>False
def post (TI:TypeId->Info) (rs:List ResultVar) (r:AV) (b1:Option Af) (e:AX) (s:St):Prop:=
 match e with
 | .exit _=>False
 | _=>match J4 TI s rs with
  | some xs=>(Unit->Kx (AP s.bk) xs r.Il/\aW xs r.Il=true/\(rs.length=1↔∀ys,r≠ .Aj ys))/\
   (match b1 with | none=>True | some b=>Unit->AP s.bk 0=some b)
  | none=>False
def EZ (n:Nat) (args:List AV) (b0:Option Af):St:=
 ⟨args++F5 (n-args.length) (.one .Bx),match n with | 0=>[] | n+1=>b0::F5 n none⟩
open Go.RowKit
 inductive BL {α β:Type} (R:α->β->Prop):List α->List β->Prop
  | nil:BL R [] []
  | cons {a:α} {b:β} {l:List α} {m:List β}:R a b->BL R l m->BL R (a::l) (b::m)
section
variable {α β γ:Type} {R R':α->β->Prop} {l l':List α} {m m':List β}
theorem BL.map {S:γ->β->Prop} {g:α->γ} {p:α->Bool} (h:∀a b,p a=true->R a b->S (g a) b) (e:l.all p=true) (r:BL R l m):BL S (l.map g) m:=by
 induction r with
 | nil=>exact .nil
 | cons q _ d=>rw[List.all_cons,Bool.and_eq_true] at e;exact .cons (h _ _ e.1 q) (d e.2)
theorem BL.imp {p:α->Bool} (h:∀a b,p a=true->R a b->R' a b) (e:l.all p=true) (r:BL R l m):BL R' l m:=by
 have:=r.map (g:=fun c=>c) h e;rwa [List.map_id'] at this
theorem BL.mono (h:∀a b,R a b->R' a b) (r:BL R l m):BL R' l m:=by
 induction r with
 | nil=>exact .nil
 | cons q _ d=>exact .cons (h _ _ q) d
theorem BL.length (r:BL R l m):l.length=m.length:=by induction r <;> simp_all
theorem BL.get (r:BL R l m):∀(i:Nat) (a:α),l[i]? =some a->∃b,m[i]? =some b/\R a b:=by
 induction r with
 | nil=>simp
 | cons q _ d=>intro i;cases i <;> simp_all
theorem BL.append (r:BL R l m) (s:BL R l' m'):BL R (l++l') (m++m'):=by
 induction r with
 | nil=>exact s
 | cons q _ d=>exact .cons q d
theorem BL.US:∀{l:List α} {m:List β},BL R (l++l') m->∃m1 m2,m=m1++m2/\BL R l m1/\BL R l' m2
 | [],m,h=>⟨[],m,rfl,.nil,h⟩
 | _::_,_,.cons q r=>let ⟨m1,m2,e,d,f⟩:=BL.US r;⟨_::m1,m2,by simp[e],.cons q d,f⟩
theorem BL.drop (r:BL R l m):∀n,BL R (l.drop n) (m.drop n):=by
 induction r with
 | nil=>intro n;simp;exact .nil
 | cons q r d=>intro n;cases n with
  | zero=>exact .cons q r
  | succ n=>exact d n
theorem BL.take (r:BL R l m):∀n,BL R (l.take n) (m.take n):=by
 induction r with
 | nil=>intro n;simp;exact .nil
 | cons q r d=>intro n;cases n with
  | zero=>exact .nil
  | succ n=>exact .cons q (d n)
end
def F8 (R:AC->Value->Prop):AV->Value->Prop
 | .one c,v=>c= .Bx\/R c v
 | .agg cs,v=>∃arr,v= .agg arr/\BL R cs arr.toList
 | .Aj _,_=>False
def RV (R:AC->Value->Prop):AV->Value->Prop
 | .Aj xs,v=>∃arr,v= .tuple arr/\BL (fun y u=>F8 R (F2 y) u) xs arr.toList
 | a,v=>F8 R a v
section
variable {R S:AC->Value->Prop} {g:AC->AC} {p:AC->Bool}
theorem F8.map (d:g .Bx= .Bx) (h:∀c v,p c=true->R c v->S (g c) v):∀(y:Bool×List AC) (u:Value),y.2.all p=true->F8 R (F2 y) u->F8 S (F2 (y.1,y.2.map g)) u
 | (true,_),_,e,⟨arr,a,b⟩=>⟨arr,a,b.map h e⟩
 | (false,[]),_,_,_=> .inl rfl
 | (false,c::_),_,e,b=>by
  rw[List.all_cons,Bool.and_eq_true] at e;exact b.imp (fun q=>by rw[show c=_ from q,d]) (h _ _ e.1)
theorem RV.map (d:g .Bx= .Bx) (h:∀c v,p c=true->R c v->S (g c) v) {r:AV} {v:Value} (e:r.all p=true) (b:RV R r v):RV S (r.map g) v:=by
 cases r with
 | one c=>exact F8.map d h (false,[c]) v (by simpa [AV.all] using e) b
 | agg cs=>exact F8.map d h (true,cs) v e b
 | Aj xs=>obtain⟨arr,a,b⟩:=b;exact⟨arr,a,b.map (F8.map d h) e⟩
theorem AV.map_id:∀r:AV,r.map (fun c=>c)=r
 | .one _=>rfl
 | .agg cs=>congrArg AV.agg (List.map_id' cs)
 | .Aj xs=>congrArg AV.Aj Ai
theorem RV.mono (h:∀c v,p c=true->R c v->S c v) {r:AV} {v:Value} (e:r.all p=true) (b:RV R r v):RV S r v:=by
 have:=RV.map (g:=fun c=>c) rfl h e b;rwa [AV.map_id] at this
theorem AV.all_true (r:AV):r.all (fun _=>true)=true:=by cases r <;> simp[AV.all]
theorem XI {Q:AC->AC->Prop} {l m:List AC} {vs:List Value} (h:∀c∈l,∀d v,Q c d->R c v->S d v) (a:EB Q l m) (b:BL R l vs):BL S m vs:=by
 induction b generalizing m with
 | nil=>cases m with
  | nil=>exact .nil
  | cons=>exact a.elim
 | cons q _ i=>cases m with
  | nil=>exact a.elim
  | cons=>exact .cons (h _ Ai _ _ a.1 q) (i (fun c f=>h c (by simp[f])) a.2)
theorem XO {Q:AC->AC->Prop} {L:List Nat} (h:∀c,(∀i∈Ch c,i∈L)->∀d v,Q c d->R c v->S d v) (n:∀d,¬Q .Bx d) {l m:List AV} {vs:List Value} (j:∀i∈Cq l,i∈L) (a:Ey Q l m) (b:BL (RV R) l vs):BL (RV S) m vs:=by
 induction b generalizing m with
 | nil=>cases m with
  | nil=>exact .nil
  | cons=>exact a.elim
 | @cons x _ _ _ q _ r=>cases m with
  | nil=>exact a.elim
  | cons y m=>
   refine .cons ?_ (r (fun i f=>j i ?_) a.2)
   ·have a:=a.1;cases x <;> cases y <;> first | exact a.elim | skip
    ·exact q.elim (fun e=>absurd a (by rw[e];exact n _)) fun q=> .inr (h _ (fun i f=>j i (by simp[Cq,f])) _ _ a q)
    obtain⟨arr,e,q⟩:=q;exact⟨arr,e,XI (fun c k=>h c fun i f=>j i (List.mem_append_left _ (List.mem_flatMap.2 ⟨c,k,f⟩))) a q⟩
   cases x <;> simp_all [Cq]
end
theorem J6:∀(cs:List AC) (off n:Nat),Et cs off n=(cs.drop off).take n
 |_,0,_|[],_+1,_=>by simp[Et]
 | _::cs,off+1,n=>by simpa [Et] using J6 cs off n
theorem KS (t:T):∀x:el t,(cells t x).length=t.size:=by
 induction t with
 | pr a b h k=>intro x;simp[cells,T.size,h,k]
 | _=>intro _;rfl
theorem T.size_pos (t:T):0<t.size:=by induction t <;> simp_all [T.size] <;> omega
abbrev PI:Type:=Option T->Nat->Prop
def anyI (I:PI) (b:Nat):Prop:=∃c,I c b
def Q6 (w:World) (I:PI) (l:List UInt32) (v:Value):Prop:=
 ∃base cap,[v]=[.slice base l.length cap]/\l.length<=cap/\l.length<=140737488355328/\
  (l=[]\/∃b off,base=some ⟨b,off,none⟩/\I (some .u32) b/\∀(i:Nat) (x:UInt32),l[i]? =some x->∃us,us=[Value.int .u32 x.toNat]/\w.rangeAt b (off+i*1) us)
 inductive Hx (w:World) (I:PI):Ex->List Value->Prop
  | mk (y:Ex) (a b:Value) (base:Option Addr) (cap:Nat) (p off:Nat) (us:Nat->List Value):Q6 w I y.v.1.2 a->Q6 w I y.v.2.2 b->
   y.args.length<=cap->y.args.length<=140737488355328->(y.args=[]\/(base=some ⟨p,off,none⟩/\I (some .ex) p))->
   (∀(i:Nat) (x:Ex),y.args[i]? =some x->Hx w I x (us i))->(∀(i:Nat) (x:Ex),y.args[i]? =some x->w.rangeAt p (off+i*7) (us i))->
   Hx w I y [.int .i64 y.op,.bool y.v.1.1,a,.bool y.v.2.1,b,.string y.name,.slice base y.args.length cap]
def rep (w:World) (I:PI):(t:T)->el t->List Value->Prop
 | .u8,x,vs=>vs=[.int .u8 x.toNat]
 | .u32,x,vs=>vs=[.int .u32 x.toNat]
 | .u64,x,vs=>vs=[.int .u64 x.toNat]
 | .i8,x,vs=>vs=[.int .i8 x]
 | .i64,x,vs=>vs=[.int .i64 x]
 | .bool,x,vs=>vs=[.bool x]
 | .sl t,l,vs=>∃base cap,vs=[.slice base l.length cap]/\l.length<=cap/\l.length<=140737488355328/\
  (l=[]\/∃b off,base=some ⟨b,off,none⟩/\I (some t) b/\∀(i:Nat) (x:el t),l[i]? =some x->∃us,rep w I t x us/\w.rangeAt b (off+i*t.size) us)
 | .pr a b,x,vs=>∃v1 v2,vs=v1++v2/\rep w I a x.1 v1/\rep w I b x.2 v2
 | .str,x,vs=>vs=[.string x]
 | .ex,x,vs=>Hx w I x vs
 | .rf t,x,vs=>∃b o us,vs=[.pointer (some ⟨b,o,none⟩)]/\anyI I b/\rep w I t x us/\w.rangeAt b o us
theorem Ge {α:Type} {a:Array α} {b:Nat} {o:α} (h:a[b]? =some o):b<a.size:=(Array.getElem?_eq_some_iff.1 h).1
theorem H8 {α:Type} {l:List α} {j:Nat} {v:α} (h:l[j]? =some v):j<l.length:=(List.getElem?_eq_some_iff.1 h).1
section
variable {w w':World} {I I':PI} {c:AC} {v:Value}
theorem rangeAt_of_block {b o:Nat} {vs:List Value} (h:w'.heap[b]? =w.heap[b]?) (d:w.rangeAt b o vs):w'.rangeAt b o vs:=
 fun j v f=>(World.cell?_of_block (w:=w) (a:=⟨b,o+j,none⟩) h).trans (d j v f)
theorem Hx.mono (h:∀o b,I o b->I' o b/\w'.heap[b]? =w.heap[b]?) {x:Ex} {vs:List Value} (r:Hx w I x vs):Hx w' I' x vs:=by
 have u:∀{l:List UInt32} {v:Value},Q6 w I l v->Q6 w' I' l v:=fun⟨base,cap,e,j,k,C⟩=>⟨base,cap,e,j,k,C.imp id fun⟨b,off,hb,n,B⟩=>
  ⟨b,off,hb,(h _ b n).1,fun i x f=>let ⟨us,hu,D⟩:=B i x f;⟨us,hu,rangeAt_of_block (h _ b n).2 D⟩⟩⟩
 induction r with
 | mk y a b base cap p off us j k h3 z d _ A F=>
  refine .mk y a b base cap p off us (u j) (u k) h3 z (d.imp id fun q=>⟨q.1,(h _ p q.2).1⟩) F fun i x f=>?_
  rcases d with d | d
  ·simp[d] at f
  exact rangeAt_of_block (h _ p d.2).2 (A i x f)
theorem Em (h:∀o b,I o b->I' o b/\w'.heap[b]? =w.heap[b]?) (t:T):∀(x:el t) (vs:List Value),rep w I t x vs->rep w' I' t x vs:=by
 induction t with
 | sl t q=>exact fun _ _ ⟨base,cap,e,f,j,u⟩=>⟨base,cap,e,f,j,u.imp id fun⟨b,off,hb,d,r⟩=>
  ⟨b,off,hb,(h _ b d).1,fun i x z=>let ⟨us,hu,n⟩:=r i x z;⟨us,q x us hu,rangeAt_of_block (h _ b d).2 n⟩⟩⟩
 | pr a b A B=>exact fun _ _ ⟨v1,v2,e,f,j⟩=>⟨v1,v2,e,A _ v1 f,B _ v2 j⟩
 | ex=>exact fun _ _=>Hx.mono h
 | rf t q=>exact fun _ _ ⟨b,o,us,e,⟨k,d⟩,n,ha⟩=>⟨b,o,us,e,⟨k,(h _ b d).1⟩,q _ us n,rangeAt_of_block (h _ b d).2 ha⟩
 | _=>exact fun _ _ h=>h
def JB (w:World) (I:PI):Prop:=∀g q,GI g=some q->I none g/\∃us,rep w I q.1 q.2 us/\w.rangeAt g 0 us
theorem JB.mono (h:∀o b,I o b->I' o b/\w'.heap[b]? =w.heap[b]?) (G:JB w I):JB w' I':=fun g q e=>
 let ⟨d,us,f,h3⟩:=G g q e
 ⟨(h _ g d).1,us,Em h _ _ _ f,rangeAt_of_block (h _ g d).2 h3⟩
def JF (w:World) (o:Option Nat) (n off len:Nat) (full:Bool) (v:Value):Prop:=
 ∃base cap,v= .slice base len cap/\len<=cap/\cap<=maxLen/\(full=true->cap=len)/\
  (cap=0\/∃b arr e,o=some b/\base=some ⟨b,off*n,none⟩/\w.heap[b]? =some (.cells arr e (0,0))/\(off+cap)*n<=arr.size)
structure Cx where
 w:World
 β:Nat->Option Nat
 cv:Nat->Nat
 I:PI
 J:Nat->Prop
variable {x y:Cx}
def G6 (x:Cx) (id BA:Nat) (v:Value) (A:Prop):Prop:=(v.oneCell'=true/\BA<=x.cv id)/\(BA=x.cv id->A)
def EJ (x:Cx) (id BA off:Nat) (v:Value):Prop:=G6 x id BA v (∃b,x.β id=some b/\v= .pointer (some ⟨b,off,none⟩))
def Hv (w:World) (I:PI) (q:(t:T)×el t) (off:Nat) (v:Value):Prop:=∃b o us,v= .pointer (some ⟨b,o+off,none⟩)/\anyI I b/\rep w I q.1 q.2 us/\w.rangeAt b o us
theorem Hv.mono (h:∀o b,I o b->I' o b/\w'.heap[b]? =w.heap[b]?) {q:(t:T)×el t} {o:Nat}:Hv w I q o v->Hv w' I' q o v:=
 fun⟨b,o,us,e,⟨k,d⟩,f,ha⟩=>⟨b,o,us,e,⟨k,(h _ b d).1⟩,Em h _ _ _ f,rangeAt_of_block (h _ b d).2 ha⟩
def Ba (x:Cx):AC->Value->Prop
 | .Bx,v=>v.oneCell'=true
 | .int k n,v=>v= .int k n
 | .bool b,v=>v= .bool b
 | .fn f,v=>v= .func (.func f) #[] #[]
 | .nil,v=>v= .slice none 0 0
 | .sl t l,v=>rep x.w x.I (.sl t) l [v]
 | .AU t id BA off len,v=>G6 x id BA v (JF x.w (x.β id) t.size off len false v)
 | .NR t id BA off len,v=>G6 x id BA v (JF x.w (x.β id) t.size off len true v)
 | .BE id BA off,v=>EJ x id BA off v
 | .H5 t id BA i k,v=>EJ x id BA (i*t.size+k) v
 | .ub e,v=>∃b:Bool,v= .bool b/\(b=true->e=true)
 | .Ck t y off,v=>Hv x.w x.I ⟨t,y⟩ off v
 | .HB f ps,v=>∃us:Array Value,v= .func (.func f) #[] us/\BL (fun p=>EJ x p.1 p.2 0) ps us.toList
 | .E5 f qs,v=>∃us:Array Value,v= .func (.func f) #[] us/\BL (fun q=>Hv x.w x.I q 0) qs us.toList
 | .str s,v=>v= .string s
 | .Jv ps,v=>∃b off cap us,v= .slice (some ⟨b,off,none⟩) ps.length cap/\ps.length<=cap/\x.J b/\BL (fun p=>EJ x p.1 p.2.1 p.2.2) ps us/\x.w.rangeAt b off us
 | .IN p,v=>∃b o u,v= .pointer (some ⟨b,o,none⟩)/\x.J b/\EJ x p.1 p.2.1 p.2.2 u/\x.w.rangeAt b o [u]
 | .own _ _ _,_=>False
theorem Ba.one (r:Ba x c v):v.oneCell'=true:=by
 cases c <;> first
  | exact r.1.1
  | exact r
  | exact r.elim
  | (rw[show v=_ from r];rfl)
  | (obtain⟨_,e,_⟩:=r;rw[e];rfl)
  | (obtain⟨_,_,e,_⟩:=r;rw[(List.cons.inj e).1];rfl)
  | (obtain⟨_,_,_,e,_⟩:=r;rw[e];rfl)
  | (obtain⟨_,_,_,_,e,_⟩:=r;rw[e];rfl)
theorem BL.one {cs:List AC} {vs:List Value} (r:BL (Ba x) cs vs):∀v∈vs,v.oneCell'=true:=by
 induction r with
 | nil=>simp
 | cons q _ f=>exact fun v d=>(List.mem_cons.1 d).elim (fun e=>e ▸ q.one) (f v)
theorem GK (x:Cx) (t:T):∀(y:el t) (vs:List Value),rep x.w x.I t y vs↔BL (Ba x) (cells t y) vs:=by
 have one:∀{p:List Value->Prop} {c:AC} (vs:List Value),(∀v,p [v]↔Ba x c v)->(∀vs,p vs->vs.length=1)->(p vs↔BL (Ba x) [c] vs):=fun vs d f=>by
  constructor
  ·intro h
   match vs,f _ h,h with
   | [v],_,h=>exact .cons ((d v).1 h) .nil
  rintro (_ |⟨q,_ | _⟩);exact (d _).2 q
 induction t with
 | sl t=>exact fun y vs=>one vs (fun _=>Iff.rfl) fun vs ⟨_,_,e,_⟩=>by rw[e];rfl
 | rf t=>exact fun y vs=>one vs (fun _=>⟨fun⟨b,o,us,e,r⟩=>⟨b,o,us,(List.cons.inj e).1,r⟩,fun⟨b,o,us,e,r⟩=>⟨b,o,us,congrArg (· :: []) e,r⟩⟩) fun vs ⟨_,_,_,e,_⟩=>by rw[e];rfl
 | pr a b B C=>
  intro y vs
  constructor
  ·rintro⟨v1,v2,rfl,d,f⟩
   exact ((B y.1 v1).1 d).append ((C y.2 v2).1 f)
  intro h;obtain⟨m1,m2,e,d,f⟩:=BL.US h;exact⟨m1,m2,e,(B y.1 m1).2 d,(C y.2 m2).2 f⟩
 | ex=>
  intro y vs
  constructor
  ·rintro⟨_,a,b,base,cap,p,off,us,d,f,h3,n,k,J,K⟩
   exact .cons rfl (.cons rfl (.cons d (.cons rfl (.cons f (.cons rfl (.cons ⟨base,cap,rfl,h3,n,k.imp id fun q=>⟨p,off,q.1,q.2,fun i x A=>⟨us i,J i x A,K i x A⟩⟩⟩ .nil))))))
  rintro (_ |⟨e1,_ |⟨e2,_ |⟨d,_ |⟨D,_ |⟨f,_ |⟨F,_ |⟨⟨base,cap,G,h3,n,k⟩,_ | _⟩⟩⟩⟩⟩⟩⟩);cases e1;cases e2;cases D;cases F;cases G
  have key:∃(p off:Nat) (us:Nat->List Value),(y.args=[]\/(base=some ⟨p,off,none⟩/\x.I (some .ex) p))/\∀(i:Nat) (z:Ex),y.args[i]? =some z->Hx x.w x.I z (us i)/\x.w.rangeAt p (off+i*7) (us i):=by
   rcases k with k |⟨p,off,g1,g2,H⟩
   ·exact⟨0,0,fun _=>[],.inl k,fun i z j=>by simp[k] at j⟩
   have u:∀i,∃us,∀z,y.args[i]? =some z->Hx x.w x.I z us/\x.w.rangeAt p (off+i*7) us:=fun i=>by
    cases j:y.args[i]? with
    | none=>exact⟨[],fun z e=>by cases e⟩
    | some z=>obtain⟨us,q⟩:=H i z j;exact⟨us,fun z' e=>by cases e;exact q⟩
   exact⟨p,off,fun i=>Classical.choose (u i),.inr ⟨g1,g2⟩,fun i z j=>Classical.choose_spec (u i) z j⟩
  obtain⟨p,off,us,g1,g2⟩:=key;exact .mk y _ _ base cap p off us d f h3 n g1 (fun i z j=>(g2 i z j).1) fun i z j=>(g2 i z j).2
 | _=>exact fun y vs=>one vs (fun v=>⟨fun e=>(List.cons.inj e).1,fun e=>congrArg (· :: []) e⟩) fun vs e=>by rw[show vs=_ from e];rfl
theorem MO (t:T) (y:el t) (vs:List Value) (h:rep w I t y vs):vs.length=t.size:=by
 rw[<-((GK ⟨w,fun _=>none,fun _=>0,I,I none⟩ t y vs).1 h).length,KS]
theorem pU (t:T) (y:el t) (vs:List Value) (h:rep w I t y vs):∀v∈vs,v.oneCell'=true:=((GK ⟨w,fun _=>none,fun _=>0,I,I none⟩ t y vs).1 h).one
abbrev gM (x:Cx):AV->Value->Prop:=F8 (Ba x)
abbrev CP (x:Cx):AV->Value->Prop:=RV (Ba x)
def C2 (x:Cx) (id:Nat):Af->Prop
 | .dead _=>True
 | .var _ cs=>∃b arr e,x.β id=some b/\x.w.heap[b]? =some (.cells arr e (0,0))/\BL (Ba x) cs arr.toList
 | .arr _ t l=>(x.β id=none/\l=[])\/∃b arr e,x.β id=some b/\x.w.heap[b]? =some (.cells arr e (0,0))/\
  ∀(i:Nat) (y:el t),l[i]? =some y->∃us,rep x.w x.I t y us/\x.w.rangeAt b (i*t.size) us
structure Cx.le (x y:Cx):Prop where
 cv:∀id,x.cv id<=y.cv id
 β:∀id,y.cv id=x.cv id->y.β id=x.β id
 size:∀id b arr e,y.cv id=x.cv id->x.β id=some b->x.w.heap[b]? =some (.cells arr e (0,0))->∃arr',y.w.heap[b]? =some (.cells arr' e (0,0))/\arr'.size=arr.size
 I:∀o b,x.I o b->y.I o b/\y.w.heap[b]? =x.w.heap[b]?
 J:∀b,x.J b->y.J b/\y.w.heap[b]? =x.w.heap[b]?
theorem G6.mono (h:x.le y) {id k:Nat} {A B:Prop} (q:G6 x id k v A) (d:y.cv id=x.cv id->A->B):G6 y id k v B:=by
 have:=h.cv id;obtain⟨⟨a,b⟩,c⟩:=q;exact⟨⟨a,AA⟩,fun e=>d AA (c AA)⟩
theorem EJ.mono (h:x.le y) {i k o:Nat} (q:EJ x i k o v):EJ y i k o v:=G6.mono h q fun e ⟨b,p,r⟩=>⟨b,(h.β i e).trans p,r⟩
theorem JF.mono (h:x.le y) {id k n off len:Nat} {f:Bool} (q:G6 x id k v (JF x.w (x.β id) n off len f v)):G6 y id k v (JF y.w (y.β id) n off len f v):=
 G6.mono h q fun r ⟨base,cap,e,u,z,hf,h3⟩=>⟨base,cap,e,u,z,hf,h3.imp (fun q=>q) fun⟨b,arr,j,hb,d,B,D⟩=>
  let ⟨i,A,C⟩:=h.size id b arr j r hb B
  ⟨b,i,j,(h.β id r).trans hb,d,A,AA⟩⟩
theorem Gz (h:∀o b,x.I o b->y.I o b/\y.w.heap[b]? =x.w.heap[b]?) (e:Dc c=true) (r:Ba x c v):Ba y c v:=by
 cases c <;> first
  | exact r
  | exact Em h _ _ _ r
  | exact Hv.mono h r
  | (obtain⟨us,e,r⟩:=r;exact⟨us,e,r.mono fun _ _=>Hv.mono h⟩)
  | cases e
theorem Ba.mono (h:x.le y) (r:Ba x c v):Ba y c v:=by
 cases c <;> first
  | exact Gz h.I rfl r
  | exact EJ.mono h r
  | exact JF.mono h r
  | exact r
  | (obtain⟨us,e,r⟩:=r;exact⟨us,e,r.mono fun _ _=>EJ.mono h⟩)
  | (obtain⟨b,o,c,us,e,j,d,f,i⟩:=r;exact⟨b,o,c,us,e,j,(h.J b d).1,f.mono fun _ _=>EJ.mono h,rangeAt_of_block (h.J b d).2 i⟩)
  | (obtain⟨b,o,u,e,d,f,i⟩:=r;exact⟨b,o,u,e,(h.J b d).1,EJ.mono h f,rangeAt_of_block (h.J b d).2 i⟩)
theorem CP.mono (h:x.le y) {a:AV} (r:CP x a v):CP y a v:=RV.mono (p:=fun _=>true) (fun _ _ _=>Ba.mono h) a.all_true r
def Af.live:Af->Bool
 | .dead _=>false
 | _=>true
theorem C2.to {id k:Nat} {b:Af} (d:y.β k=x.β id) (hw:b.live=true->∀j,x.β id=some j->y.w.heap[j]? =x.w.heap[j]?) (n:∀v cs,b= .var v cs->∀us,BL (Ba x) cs us->BL (Ba y) cs us)
  (ha:∀v t l,b= .arr v t l->∀(z:el t) us,rep x.w x.I t z us->rep y.w y.I t z us) (r:C2 x id b):C2 y k b:=by
 cases b with
 | dead _=>trivial
 | var _ cs=>obtain⟨b,arr,e,f,h,h3⟩:=r;exact⟨b,arr,e,d.trans f,(hw rfl b f).trans h,n _ _ rfl _ h3⟩
 | arr _ t l=>exact r.imp (fun q=>⟨d.trans q.1,q.2⟩) fun⟨b,arr,e,f,h,h3⟩=>⟨b,arr,e,d.trans f,(hw rfl b f).trans h,fun i y' u=>
  let ⟨us,hu,A⟩:=h3 i y' u
  ⟨us,ha _ t l rfl y' us hu,rangeAt_of_block (hw rfl b f) A⟩⟩
theorem C2.mono (h:x.le y) {id:Nat} {b:Af} (d:y.cv id=x.cv id) (hb:b.live=true->∀k,x.β id=some k->y.w.heap[k]? =x.w.heap[k]?) (r:C2 x id b):C2 y id b:=C2.to (h.β id d) hb (fun _ _ _ _ q=>q.mono fun _ _=>Ba.mono h) (fun _ _ _ _=>Em h.I _) r
end
def DQ {α:Type} (f:Nat->α) (i:Nat) (x:α) (k:Nat):α:=if k=i then x else f k
theorem Fa {α:Type} {f:Nat->α} {i:Nat} {x:α}:DQ f i x i=x:=if_pos rfl
theorem Fb {α:Type} {f:Nat->α} {i k:Nat} {x:α} (h:k≠i):DQ f i x k=f k:=if_neg h
theorem MC:∀(l:List AV) (d:Nat) (v:AV) (i:Nat),nth (Cc l d v) i=if i=d/\d<l.length then v else nth l i
 |[],_,_,_|_::_,0,_,0|_::_,0,_,_+1|_::_,_+1,_,0=>by simp[Cc,nth]
 | _::l,d+1,v,i+1=>by simp[Cc,nth,MC l d v i]
theorem Jo:∀(l:List (Option Af)) (d:Nat) (v:Option Af),d<l.length->AP (Cc l d v)=DQ (AP l) d v
 | _::_,0,_,_=>funext fun i=>by cases i <;> simp[Cc,AP,DQ]
 | _::l,d+1,v,h=>funext fun i=>by cases i <;> simp[Cc,AP,DQ,Jo l d v (Nat.lt_of_succ_lt_succ h)]
theorem Fk {α:Type}:∀(l:List α) (d:Nat) (v:α),(Cc l d v).length=l.length
 |[],_,_|_::_,0,_=>rfl
 | _::l,d+1,v=>by simp[Cc,Fk l d v]
theorem Jn:∀(l:List (Option Af)) (i:Nat),l.length<=i->AP l i=none
 | [],_,_=>rfl
 | _::_,0,h=>by simp at h
 | _::l,i+1,h=>by simpa [AP] using Jn l i (by simpa using h)
theorem J5 {α:Type}:∀(l:List α) (d:Nat) (v:α),l.length<=d->Cc l d v=l
 | [],_,_,_=>rfl
 | _::_,0,_,h=>by simp at h
 | a::l,d+1,v,h=>by simp[Cc,J5 l d v (by simpa using h)]
def Af.short:Af->Prop
 | .arr _ _ l=>l.length<=140737488355328
 | _=>True
def live (bk:Nat->Option Af) (id:Nat):Prop:=∃b,bk id=some b/\b.live=true
structure Dz (w w':World) (o:Option Nat):Prop where
 os:w'.os=w.os
 tape:w'.tape=w.tape
 output:w'.output=w.output
 size:w.heap.size<=w'.heap.size
 get:∀b,b<w.heap.size->o≠some b->w'.heap[b]? =w.heap[b]?
 Zb:∀b arr e,o=some b->w.heap[b]? =some (.cells arr e (0,0))->∃arr',w'.heap[b]? =some (.cells arr' e (0,0))/\arr'.size=arr.size
structure WX where
 A:PI
 ob:Option Nat
def cx (X:WX) (w:World) (β:Nat->Option Nat) (bk:Nat->Option Af):Cx:=
 ⟨w,β,BA bk,fun o b=>(b<w.heap.size/\∀id,live bk id->β id≠some b)/\X.A o b,fun b=>b<w.heap.size/\∀id,live bk id->β id≠some b⟩
structure BX (w0:World) (X:WX) (β:Nat->Option Nat) (s:St) (a:Act) (w:World):Prop where
 defers:a.defers=[]
 len:s.sl.length=a.tmps.size
 L3:s.bk.length=a.tmps.size
 HM:∀i,CP (cx X w β (AP s.bk)) (nth s.sl i) (a.tmps.getD i undef)
 blocks:∀id b,AP s.bk id=some b->C2 (cx X w β (AP s.bk)) id b/\b.short
 inj:∀id id' b,live (AP s.bk) id->live (AP s.bk) id'->β id=some b->β id'=some b->id=id'
 own:∀id b,live (AP s.bk) id->β id=some b->w0.heap.size<=b\/(X.ob=some b/\id=0)
 Fh:Dz w0 w X.ob
 fresh:(∀o b,w0.heap.size<=b->X.A o b)/\JB w0 fun o b=>(X.A o b/\X.ob≠some b)/\b<w0.heap.size
 Ja:live (AP s.bk) 0->BA (AP s.bk) 0=0->β 0=X.ob
section
variable {w0 w w':World} {X:WX} {β:Nat->Option Nat} {s:St} {a:Act} {o:Option Nat} {bk:Nat->Option Af}
theorem Dz.rfl:Dz w w o:=⟨by rfl,by rfl,by rfl,Nat.le_refl _,fun _ _ _=>by rfl,fun _ arr _ _ h=>⟨arr,h,by rfl⟩⟩
theorem Dz.all (F:Dz w w' o) {b:Nat} {arr:Array Value} {e:TypeId} (h:w.heap[b]? =some (.cells arr e (0,0))):∃d,w'.heap[b]? =some (.cells d e (0,0))/\d.size=arr.size:=by
 by_cases hb:o=some b
 ·exact F.Zb b arr e hb h
 exact⟨arr,(F.get b (Ge h) hb).trans h,by rfl⟩
theorem BX.at (S:BX w0 X β s a w) {id:Nat} (h:live (AP s.bk) id) {b:Nat} (hb:β id=some b):∃arr e,w.heap[b]? =some (.cells arr e (0,0)):=by
 obtain⟨Bw,i,j⟩:=h;have r:=(S.blocks id Bw i).1;cases Bw with
 | dead _=>cases j
 | var _ _=>obtain⟨b',arr,e,d,f,_⟩:=r;cases hb.symm.trans d;exact⟨arr,e,f⟩
 | arr _ _ _=>
  rcases r with⟨d,_⟩ |⟨b',arr,e,d,f,_⟩
  ·cases hb.symm.trans d
  cases hb.symm.trans d;exact⟨arr,e,f⟩
theorem BX.lt (S:BX w0 X β s a w) {id:Nat} (h:live (AP s.bk) id) {b:Nat} (hb:β id=some b):b<w.heap.size:=let ⟨_,_,h⟩:=S.at h hb;Ge h
theorem BX.Y6 (S:BX w0 X β s a w):JB w (cx X w β (AP s.bk)).I:=
 JB.mono (fun _ b hb=>⟨⟨⟨Nat.lt_of_lt_of_le hb.2 S.Fh.size,fun id d e=>(S.own id b d e).elim (fun q=>by have:=hb.2;omega) fun q=>hb.1.2 q.1⟩,hb.1.1⟩,S.Fh.get b hb.2 hb.1.2⟩) S.fresh.2
theorem BX.step (S:BX w0 X β s a w) (F:Dz w w' o) {id:Nat} (n:o=none\/o=β id/\live (AP s.bk) id):Dz w0 w' X.ob:=by
 refine⟨F.os.trans S.Fh.os,F.tape.trans S.Fh.tape,F.output.trans S.Fh.output,Nat.le_trans S.Fh.size F.size,fun b hb i=>(F.get b (Nat.lt_of_lt_of_le hb S.Fh.size) fun e=>?_).trans (S.Fh.get b hb i),fun b arr e hb he=>?_⟩
 ·rcases n with rfl |⟨rfl,k⟩
  ·cases e
  rcases S.own id b k e with h | h
  ·omega
  exact i h.1
 obtain⟨f,j,q⟩:=S.Fh.Zb b arr e hb he;obtain⟨d,h3,r⟩:=F.all j;exact⟨d,h3,AA⟩
theorem lr (a:Act) (d:Nat) (v:Value) (i:Nat):(a.put (some d) v).tmps.getD i undef=if i=d/\d<a.tmps.size then v else a.tmps.getD i undef:=by
 simp only[Act.put,Array.getD_eq_getD_getElem?,Array.getElem?_setIfInBounds]
 by_cases h:d=i
 ·subst h
  by_cases f:d<a.tmps.size <;> simp[f]
 simp[h,Ne.symm h]
theorem dT {x:Cx} {s:St} {a:Act} (hlen:s.sl.length=a.tmps.size) (h:∀i,CP x (nth s.sl i) (a.tmps.getD i undef)) (dst:Option Nat) (v:AV) (u:Value) (f:CP x v u):
  a.defers=(a.put dst u).defers/\(Fo s.sl dst v).length=(a.put dst u).tmps.size/\(a.put dst u).tmps.size=a.tmps.size/\∀i,CP x (nth (Fo s.sl dst v) i) ((a.put dst u).tmps.getD i undef):=by
 cases dst with
 | none=>exact⟨rfl,hlen,rfl,h⟩
 | some d=>
  refine⟨rfl,by simp[Fo,Act.put,Fk,hlen],by simp[Act.put],fun i=>?_⟩;rw[lr];simp only[Fo,MC,hlen]
  split
  ·exact f
  exact h i
theorem BX.ext (S:BX w0 X β s a w) {dst:Option Nat} {v:AV} {u:Value} {rd:List Nat} (F:Dz w w' none) (z:(cx X w β (AP s.bk)).le (cx X w' β (AP s.bk))->CP (cx X w' β (AP s.bk)) v u):BX w0 X β (s.app dst ⟨v,[],rd⟩) (a.put dst u) w':=by
 have hw:∀b,b<w.heap.size->w'.heap[b]? =w.heap[b]? :=fun b h=>F.get b h Ai
 have hle:(cx X w β (AP s.bk)).le (cx X w' β (AP s.bk)):=
  ⟨fun _=>Nat.le_refl _,fun _ _=>rfl,fun id b arr e _ _ n=>F.all n,fun _ b hb=>⟨⟨⟨Nat.lt_of_lt_of_le hb.1.1 F.size,hb.1.2⟩,hb.2⟩,hw b hb.1.1⟩,fun b hb=>⟨⟨Nat.lt_of_lt_of_le hb.1 F.size,hb.2⟩,hw b hb.1⟩⟩
 obtain⟨d,f,h3,k⟩:=dT S.len (fun i=>CP.mono hle (S.HM i)) dst v u (z hle);exact⟨d ▸ S.defers,f,S.L3.trans h3.symm,k,fun id b hb=>⟨C2.mono hle rfl (fun r j q=>hw j (S.lt ⟨b,hb,r⟩ q)) (S.blocks id b hb).1,(S.blocks id b hb).2⟩,S.inj,S.own,S.step (id:=0) F (.inl rfl),S.fresh,S.Ja⟩
theorem BX.val (S:BX w0 X β s a w) {dst:Option Nat} {v:AV} {u:Value} {rd:List Nat} (d:CP (cx X w β (AP s.bk)) v u):BX w0 X β (s.app dst ⟨v,[],rd⟩) (a.put dst u) w:=S.ext .rfl fun _=>d
theorem IS {id k:Nat} {b:Af}:BA (DQ bk id (some b)) k=if k=id then b.BA else BA bk k:=by unfold BA DQ;by_cases h:k=id <;> simp[h]
theorem Kg {id k:Nat} {b:Af}:live (DQ bk id (some b)) k↔if k=id then b.live=true else live bk k:=by unfold live DQ;by_cases h:k=id <;> simp[h]
theorem pF (a:Act) (q:Nat) (u:Value) (h:a.tmps.size<=q):a.put (some q) u=a.put none undef:=by simp[Act.put,Array.setIfInBounds_eq_of_size_le h]
theorem BX.write (S:BX w0 X β s a w) {dst:Option Nat} {v:AV} {u:Value} {rd:List Nat} {id:Nat} {Bw:Af} {o':Option Nat} (M:id<s.bk.length\/dst=some id/\o=none) (O:Bw.short) (F:Dz w w' o) (H:o=none\/o=β id/\live (AP s.bk) id)
  (C:BA (AP s.bk) id<Bw.BA\/Bw.BA=BA (AP s.bk) id/\o'=β id/\(Bw.live=true->live (AP s.bk) id))
  (hf:Bw.live=true->∀b,o'=some b->(β id=some b/\live (AP s.bk) id)\/w.heap.size<=b)
  (J:∀y:Cx,(cx X w β (AP s.bk)).le y->y.w=w'->y.β id=o'->y.cv id=Bw.BA->
   (∀c k,k<w'.heap.size->w.heap.size<=k\/X.A c k/\(∀j,j≠id->live (AP s.bk) j->β j≠some k)->(Bw.live=true->o'≠some k)->y.I c k)->C2 y id Bw/\CP y v u):
  ∃Q,BX w0 X Q (s.app dst ⟨v,[(id,Bw)],rd⟩) (a.put dst u) w':=by
 by_cases B:id<s.bk.length
 case neg=>
  obtain⟨rfl,rfl⟩:=M.resolve_left B;have D:a.tmps.size<=id:=by have:=S.L3;omega
  have W:s.app (some id) ⟨v,[(id,Bw)],rd⟩=s.app none ⟨.one .Bx,[],rd⟩:=by simp[St.app,Fo,E7,J5 _ _ _ (AA:s.bk.length<=id),J5 s.sl id v (by have:=S.len;omega)]
  rw[W,pF _ _ _ D];exact⟨β,S.ext F fun _=> .inl rfl⟩
 refine⟨DQ β id o',?_⟩
 show BX w0 X _ ⟨Fo s.sl dst v,Cc s.bk id (some Bw)⟩ _ _
 have L:=Jo s.bk id (some Bw) B
 have T:∀b,(b<w.heap.size/\∀j,live (AP s.bk) j->β j≠some b)->b<w'.heap.size/\∀j,live (DQ (AP s.bk) id (some Bw)) j->DQ β id o' j≠some b:=fun b hb=>by
  refine⟨Nat.lt_of_lt_of_le hb.1 F.size,fun j f e=>?_⟩;rw[Kg] at f
  by_cases h:j=id
  ·subst h;rw[if_pos rfl] at f;rw[Fa] at e;rcases hf f b e with h | h
   ·exact hb.2 j h.2 h.1
   have:=hb.1;omega
  rw[if_neg h] at f;rw[Fb h] at e;exact hb.2 j f e
 have hw:∀b,(b<w.heap.size/\∀j,live (AP s.bk) j->β j≠some b)->w'.heap[b]? =w.heap[b]? :=fun b hb=>F.get b hb.1 fun e=>by
  rcases H with rfl |⟨rfl,n⟩
  ·cases e
  exact hb.2 id n e
 have hle:(cx X w β (AP s.bk)).le (cx X w' (DQ β id o') (DQ (AP s.bk) id (some Bw))):=by
  refine⟨fun j=>?_,fun j (h:BA _ j=BA _ j)=>?_,fun _ b arr e _ _ V=>F.all V,fun _ b hb=>⟨⟨T b hb.1,hb.2⟩,hw b hb.1⟩,fun b hb=>⟨T b hb,hw b hb⟩⟩
  ·show BA _ j<=BA _ j
   rw[IS];split
   ·subst_vars;omega
   exact Nat.le_refl _
  show DQ β id o' j=β j
  by_cases f:j=id
  ·subst f;rw[IS,if_pos rfl] at h;rw[Fa];exact (C.resolve_left AA).2.1
  exact Fb f
 have J:=J _ hle rfl Fa (by show BA _ id=_;rw[IS,if_pos rfl]) fun c k d D G=>⟨⟨d,fun j f e=>?_⟩,D.elim (fun h=>S.fresh.1 c k (Nat.le_trans S.Fh.size h)) (·.1)⟩
 obtain⟨D,G,h3,U⟩:=dT S.len (fun i=>CP.mono hle (S.HM i)) dst v u J.2;refine⟨D ▸ S.defers,G,(Fk ..).trans (S.L3.trans h3.symm),?_,?_,?_,?_,S.step F H,S.fresh,?_⟩ <;> simp only[L]
 ·exact U
 ·intro k b d
  by_cases h:k=id
  ·subst h;rw[Fa] at d;cases d;exact⟨J.1,O⟩
  rw[Fb h] at d;refine⟨C2.mono hle (by show BA _ k=BA _ k;rw[IS,if_neg h]) (fun n j f=>F.get j (S.lt ⟨b,d,n⟩ f) fun e=>?_) (S.blocks k b d).1,(S.blocks k b d).2⟩;rcases H with rfl |⟨rfl,N⟩
  ·cases e
  exact h (S.inj k id j ⟨b,d,n⟩ N f e)
 ·have key:∀{k b},k≠id->Bw.live=true->o'=some b->live (AP s.bk) k->β k=some b->False:=fun {k b} h n H d hb=>
   (hf n b H).elim (fun q=>h (S.inj k id b d q.2 hb q.1)) fun q=>by have:=S.lt d hb;omega
  intro k k' b d r hb z;rw[Kg] at d r
  by_cases h:k=id <;> by_cases h':k'=id <;> simp only[DQ,h,h',if_true,if_false] at d r hb z
  ·exact h.trans h'.symm
  ·exact (key h' d hb r z).elim
  ·exact (key h r z d hb).elim
  exact S.inj k k' b d r hb z
 ·intro k b d hb;rw[Kg] at d
  by_cases h:k=id
  ·subst h;rw[if_pos rfl] at d;rw[Fa] at hb;rcases hf d b hb with h | h
   ·exact S.own k b h.2 h.1
   exact .inl (Nat.le_trans S.Fh.size h)
  rw[if_neg h] at d;rw[Fb h] at hb;exact S.own k b d hb
 ·intro n K;rw[Kg] at n;rw[IS] at K
  by_cases h:0=id
  ·subst h;rw[if_pos rfl] at n K;obtain⟨_,G,h3⟩:=C.resolve_left AA;rw[Fa,G];exact S.Ja (h3 n) AA
  rw[if_neg h] at n K;rw[Fb h];exact S.Ja n K
 rw[Kg] at f
 by_cases h:j=id
 ·subst h;rw[if_pos rfl] at f;rw[Fa] at e;exact G f e
 rw[if_neg h] at f;rw[Fb h] at e;exact D.elim (fun q=>by have:=S.lt f e;omega) fun q=>q.2 j h f e
end
def DT (w:World) (ob:Option Nat) (I:PI):Cx:=⟨w,fun k=>if k=0 then ob else none,fun _=>0,I,fun b=>b<w.heap.size/\ob≠some b⟩
abbrev Jk (w:World) (I:PI):Cx:=DT w none I
def OwnAt (x:Cx) (lo:Nat) (bo:Option Nat) (t:T) (l:List (el t)) (v:Value):Prop:=
 ∃base cap,v= .slice base l.length cap/\l.length<=cap/\cap<=maxLen/\l.length<=140737488355328/\
  ((bo=none/\l=[]/\cap=0)\/∃b arr e,bo=some b/\lo<=b/\base=some ⟨b,0,none⟩/\x.w.heap[b]? =some (.cells arr e (0,0))/\cap*t.size<=arr.size/\
    ∀(i:Nat) (y:el t),l[i]? =some y->∃us,rep x.w x.I t y us/\x.w.rangeAt b (i*t.size) us)
def GN (x:Cx) (lo:Nat) (bo:Option Nat):AC->Value->Prop
 | .own t l n,v=>n=l.length/\OwnAt x lo bo t l v
 | c,v=>Ba x c v
def Gy:AC->Bool
 | .own _ _ _=>true
 | c=>Dc c
def QD:AC->Bool
 |.AU _ 0 0 _ _|.BE 0 0 _|.IN (0,0,_)=>true
 | c=>Dc c
def AV.wf:AV->Bool
 | .Aj xs=>xs.all fun x=>x.1||decide (x.2.length<=1)
 | _=>true
def Af.lone:Af->Bool
 | .var v cs=>v==0&&cs.all Dc
 | .arr v _ _=>v==0
 | .dead _=>false
def Callee (P : Program) (f : FuncId) : Prop := ∃ fn c, P.funcs[f]? = some fn /\ (fn.name == "runtime.NumGoroutine") = false /\ fn.body = some c
def Db (fl:Bool) (I:PI) (n:Nat) (w':World) (ob bo:Option Nat):Cx:=DT w' ob fun c k=>((fl=false/\I c k)\/n<=k)/\k<w'.heap.size/\ob≠some k/\bo≠some k
def KK (P:Program) (fl:Bool) (f:FuncId) (args:List AV) (b0:Af) (r:AV) (b1:Af):Prop:=
 Callee P f/\∀(w:World) (I:PI) (ob:Option Nat) (vs:List Value),(b0.live=true\/ob=none)->(∀c b,I c b->b<w.heap.size/\ob≠some b)->JB w I->
  C2 (DT w ob I) 0 b0/\b0.short->BL (CP (DT w ob I)) args vs->
  Calls P f vs.toArray w fun e w'=>∃u bo,e= .returned u/\Dz w w' ob/\RV (GN (Db fl I w.heap.size w' ob bo) w.heap.size bo) r u/\C2 (Db fl I w.heap.size w' ob bo) 0 b1/\b1.short
def Eb (P:Program) (fl:Bool) (f:FuncId) (args:List AV) (r:AV):Prop:=(r.all Gy=true/\r.wf=true)/\KK P fl f args (.dead 0) r (.dead 0)
theorem Eb.mk {P:Program} {fl:Bool} {f:FuncId} {args:List AV} {r:AV} (j:Callee P f) (n:r.all Gy=true/\r.wf=true)
  (h:∀(w:World) (I:PI) (vs:List Value),(∀c b,I c b->b<w.heap.size)->BL (CP (Jk w I)) args vs->Calls P f vs.toArray w fun e w'=>∃u d,e= .returned u/\Below w.heap.size w w'/\RV (GN (Db fl I w.heap.size w' none d) w.heap.size d) r u):Eb P fl f args r:=
 ⟨n,j,fun w I ob vs k i _ _ ha=>by
  obtain rfl:ob=none:=k.resolve_left nofun;exact (h w I vs (fun c b q=>(i c b q).1) ha).mono fun e w' ⟨u,d,he,B,q⟩=>⟨u,d,he,⟨B.os,B.tape,B.output,B.size,fun b hb _=>B.block b hb,nofun⟩,q,(by trivial),trivial⟩⟩
def JA (P:Program) (f:FuncId) (c0:AC) (b0:Af) (args:List AV) (r:AV) (b1:Af):Prop:=b0.lone=true/\KK P false f (.one c0::args) b0 r b1
def CI (P:Program) (f:FuncId) (args:List AV) (b0:Af) (r:AV) (b1:Af):Prop:=(r.all Dc=true/\b0.lone=true/\b1.lone=true)/\KK P false f args b0 r b1
def Dn (P:Program) (f:FuncId) (args:List AV) (b0:Af) (r:AV):Prop:=CI P f args b0 r b0
def env (P:Program):Env:=⟨Eb P,JA P,Dn P,CI P⟩
structure HU (P:Program) (t:TypeId) (i:Info):Prop where
 info:i.known=true->∃ti z d,P.info? t=some ti/\ti.size=i.size/\ti.zero=some z/\(∀x,BL (Ba x) i.zero z.cells.toList)/\
  P.underlying t=some d/\d.isRow=i.agg/\(i.agg=false->i.size=1)
 kind:∀k,i.kind=some k->P.underlying t=some (.int k)
 isb:i.It=true->P.underlying t=some .bool
 P6:i.HG=true->P.underlying t=some .string
 sl:i.sl=true->P.underlying t=some (.slice i.C8)/\∃ei z,P.info? i.C8=some ei/\ei.size=i.elem.size/\ei.bytes=i.Eg/\0<ei.bytes/\ei.zero=some z/\
  ∀x,BL (Ba x) (cells i.elem i.CD) z.cells.toList
 fields:i.known=true->i.fields≠[]->∃fs:Array Field,P.underlying t=some (.struct fs)/\i.fields.length=fs.size/\
  ∀(f fo n:Nat) (g:Bool),i.fields[f]? =some (fo,n,g)->∃fl d,fs[f]? =some fl/\fl.offset=fo/\(P.info? fl.type).map (·.size)=some n/\0<n/\P.underlying fl.type=some d/\d.isRow=g/\(g=false->n=1)
 arr:∀q,i.arr=some q->∃e ei d,P.underlying t=some (.array q.1 e)/\P.info? e=some ei/\ei.size=q.2.1/\P.underlying e=some d/\d.isRow=q.2.2/\(q.2.2=false->q.2.1=1)/\2<=q.1
 pt:i.pt=true->P.underlying t=some (.slice i.C8)/\∃ei z,P.info? i.C8=some ei/\ei.size=1/\ei.zero=some z/\z.cells.size=1
theorem T.beq_eq {a:T}:∀{b:T},T.beq a b=true->a=b:=by
 induction a with
 | sl _ d | rf _ d=>intro b h;cases b <;> simp_all [T.beq];exact d h
 | pr _ _ d f=>intro b h;cases b <;> simp_all [T.beq];exact⟨d h.1,f h.2⟩
 | _=>intro b h;cases b <;> simp_all [T.beq]
section
variable {P:Program} {w:World}
theorem cK {t:TypeId} {d:TypeDesc} (hu:P.underlying t=some d):(isAgg t).run P w= .ok d.isRow w:=by
 unfold isAgg;rw[Sem.run_bind,run_underlying hu w];cases d <;> simp
theorem po {t:TypeId} {h:TypeInfo} {b o:Nat} {v:Value} (k:P.info? t=some h) (f:v.cells.size=h.size) (ht:w.there b o h.size) (i:∀u∈v.cells.toList,u.oneCell'=true):
  (Instr.storeAt t (.pointer (some ⟨b,o,none⟩)) v).run P w= .ok () (w.setCells b o v.cells.toList):=by
 have:=run_storeCells_cells (P:=P) b o v.cells.toList 0 w (fun j d=>by simpa using (ht j (by simpa [f] using d)).1) (fun j d=>by simpa using (ht j (by simpa [f] using d)).2) i;simp only[Nat.add_zero] at this;simp[Instr.storeAt,Instr.sureAddr,storeVar,sizeOf,typeInfo,k,f,this]
end
theorem Qa {v:Value} (h:v.oneCell'=true):v.cells= #[v]:=by
 cases v <;> simp_all [Value.oneCell',Value.cells]
theorem TF {v:AV} (d:∀xs,v≠ .Aj xs) (f:v≠ .one .Bx):v.full=true:=by
 match v with
 | .one c=>cases c <;> first | rfl | exact absurd rfl f
 | .agg _=>rfl
 | .Aj _=>exact absurd rfl (d _)
theorem Kw {x:Cx} {d:AV} {v:Value} (h:CP x d v) (hf:d.full=true):BL (Ba x) d.cs v.cells.toList:=by
 cases d with
 | one c=>
  rcases h with rfl | h
  ·cases hf
  rw[Qa h.one];exact .cons h .nil
 | agg cs=>obtain⟨arr,rfl,h⟩:=h;exact h
 | Aj _=>cases hf
theorem EN {bk:Nat->Option Af} {id:Nat} {b:Af} (h:bk id=some b):BA bk id=b.BA:=by unfold BA;rw[h]
theorem Ll {w0:World} {X:WX} {β:Nat->Option Nat} {s:St} {a:Act} {w:World} (S:BX w0 X β s a w) (o:Operand):CP (cx X w β (AP s.bk)) (ev s.sl o) (a.eval o):=by
 cases o with
 | tmp t=>exact S.HM t
 | func f=>exact Or.inr rfl
 | global g=>
  simp only[ev]
  split
  ·rename_i q i
   obtain⟨d,us,h,h3⟩:=S.Y6 g q i;exact Or.inr ⟨g,0,us,rfl,⟨none,d⟩,h,h3⟩
  exact Or.inl rfl
 | const v=>
  show CP _ (Si v) v
  unfold Si
  split <;> first | exact Or.inr rfl | exact Or.inl rfl
def valOf (g:Bool) (vs:List Value):Value:=
 match g with
 | true=> .agg vs.toArray
 | false=>vs.headD undef
theorem Qq {x:Cx} {g:Bool} {cs:List AC} {vs:List Value} (h:BL (Ba x) cs vs) (d:g=false->cs.length=1):CP x (F2 (g,cs)) (valOf g vs):=by
 cases g with
 | true=>exact⟨_,rfl,by simpa using h⟩
 | false=>
  have:=d rfl
  match cs,vs,h with
  | [c],[v],.cons h _=>exact Or.inr h
section
variable {P:Program} {E:Env} {TI:TypeId->Info} {w w':World} {a:Act} {x:Cx}
theorem C2.arr {id v:Nat} {t:T} {l:List (el t)} {b:Nat} (h:C2 x id (.arr v t l)) (hb:x.β id=some b):∃arr e,x.w.heap[b]? =some (.cells arr e (0,0))/\∀(i:Nat) (y:el t),l[i]? =some y->∃us,rep x.w x.I t y us/\x.w.rangeAt b (i*t.size) us:=by
 rcases h with⟨h,_⟩ |⟨b',arr,e,d,f,h3⟩
 ·cases h.symm.trans hb
 cases d.symm.trans hb;exact⟨arr,e,f,h3⟩
theorem C2.var {id v:Nat} {cs:List AC} {b:Nat} (h:C2 x id (.var v cs)) (hb:x.β id=some b):∃arr e,x.w.heap[b]? =some (.cells arr e (0,0))/\BL (Ba x) cs arr.toList:=by
 obtain⟨b',arr,e,d,f,h3⟩:=h;cases d.symm.trans hb;exact⟨arr,e,f,h3⟩
theorem jY {op:BinOp} {k k':IntKind} {x y:Int} {c:AC} {t:TypeId} (q:k=k'\/op= .shl\/op= .shr) (h:arith op k x y (fun d=>d=c)):
  ∃u,(binOp op t (.int k x) (.int k' y)).run P w= .ok u w/\∀Γ,Ba Γ c u:=by
 have n:∀{c:Int},EF c->IntKind.i64.wrap c=c:=fun h=>IntWalk.i64_in _ ⟨h.1,by have:=h.2;omega⟩
 by_cases j:op= .shl\/op= .shr
 ·rcases j with rfl | rfl
  all_goals
   obtain⟨i,rfl⟩:=h _ rfl;exact⟨_,by simp only[binOp,Op.shift,if_neg (Int.not_lt.2 (i ()))];rfl,fun _=>rfl⟩
 have q:k=k':=q.resolve_right j;subst q
 have hb:∀f,f≠ .shl->f≠ .shr->binOp f t (.int k x) (.int k y)=(match f with
  | .add | .sub | .mul=>Op.intArith f k x y | .quo | .rem=>Op.intDiv f k x y | .and | .or | .xor | .andNot=>Op.intBits f k x y | _=>Op.intCmp f x y):=by
  intro f i r;cases f <;> simp_all [binOp]
 rw[hb op (fun e=>j (.inl e)) (fun e=>j (.inr e))]
 cases op <;> first
  | (obtain rfl:=h _ rfl;exact⟨_,rfl,fun _=>rfl⟩)
  | exact absurd (.inl rfl) j
  | exact absurd (.inr rfl) j
  | (cases k <;> first
   | (obtain rfl:=h _ rfl;exact⟨_,rfl,fun _=>rfl⟩)
   | (obtain⟨i,rfl⟩:=h _ rfl;exact⟨_,rfl,fun _=>by show _=_;rw[n (i ())]⟩)
   | (obtain⟨i,rfl⟩:=h _ rfl
      obtain⟨i,r,h3⟩:=i ();exact⟨_,by simp only[Op.intDiv,if_neg (AA:¬y=0)];rfl,fun _=>by show _=_;rw[Int.tdiv_eq_ediv_of_nonneg i,n h3]⟩)
   | (obtain⟨i,rfl⟩:=h _ rfl
      obtain⟨i,r⟩:=i ();exact⟨_,by simp only[Op.intDiv,if_neg (AA:¬y=0)];rfl,fun _=>by show _=_;first | rw[Int.tdiv_eq_ediv_of_nonneg i] | rw[Int.tmod_eq_emod_of_nonneg i]⟩))
theorem jv {I:PI} {l:List UInt8} {v:Value} {src dst e:TypeId} (i:P.underlying src=some (.slice e)) (he:P.underlying e=some (.int .u8)) (d:P.underlying dst=some .string) (h:rep w I (.sl .u8) l [v]):
  (convert src dst v).run P w= .ok (.string ⟨l.toArray⟩) w:=by
 obtain⟨base,cap,r,u,z,h3⟩:=h;cases r;rcases base with _ | k
 ·obtain rfl:l=[]:=h3.resolve_right (fun⟨_,_,e,_⟩=>by cases e);exact run_convert_bytes_nil w src e i he _ _ dst d
 refine run_convert_bytes_back w src dst e k cap l i he d fun j f=>?_
 rcases h3 with rfl |⟨b,off,e,_,n⟩
 ·simp at f
 cases e;obtain⟨us,hu,q⟩:=n j _ (List.getElem?_eq_getElem f);cases (show us=_ from hu);have:=q 0 _ rfl;rw[show (⟨b,off,none⟩:Addr).add j=⟨b,off+j,none⟩ by unfold Addr.add;split <;> simp_all];simpa [T.size] using this
theorem ar {e:TypeId} {i:TypeInfo} {d:TypeDesc} {g:Bool} {n f:Nat} {arr:Array Value} (h3:P.info? e=some i) (A:i.size=n) (j:P.underlying e=some d) (k:d.isRow=g) (q:g=false->n=1) (h:((arr.toList.drop f).take n).length=n):
  (part e arr f).run P w= .ok (valOf g ((arr.toList.drop f).take n)) w:=by
 unfold part;rw[Sem.run_bind,cK j,Result.andThen_ok,k];cases g with
 | true=>
  have e1:arr.extract f (f+n)=((arr.toList.drop f).take n).toArray:=by
   apply Array.ext';simp only[Array.toList_extract,List.extract_eq_take_drop];rw[(AA:f+n-f=n)]
  simp[sizeOf,typeInfo,h3,A,e1,valOf]
 | false=>
  obtain rfl:=q rfl;obtain⟨u,r,e⟩:=List.exists_cons_of_ne_nil (l:=arr.toList.drop f) (by intro e;simp[e] at h);have z:arr[f]? =some u:=by have:=congrArg (·[0]?) e;simpa using this
  simp[z,e,valOf]
theorem bR {b off n:Nat} {arr:Array Value} {e:TypeId} (h:w.heap[b]? =some (.cells arr e (0,0))):w.rangeAt b off ((arr.toList.drop off).take n):=by
 intro j v d;rw[List.getElem?_take] at d
 split at d
 ·simpa [World.cell?,h] using d
 cases d
theorem N8 {b:Nat} {arr:Array Value} {e:TypeId} (h:w.heap[b]? =some (.cells arr e (0,0))):w.rangeAt b 0 arr.toList:=fun j v d=>by simpa [World.cell?,h] using d
theorem Uq {b o off n:Nat} {us:List Value} (h:w.rangeAt b o us):w.rangeAt b (o+off) ((us.drop off).take n):=by
 intro j v d;rw[Nat.add_assoc];rw[List.getElem?_take] at d
 split at d
 ·exact h (off+j) v (by simpa using d)
 cases d
theorem run_load {t:TypeId} {i:Info} {b o:Nat} {us:List Value} (B:HU P t i) (D:i.known=true) (n:w.rangeAt b o us) (h:us.length=i.size):
  (Instr.loadAt t (.pointer (some ⟨b,o,none⟩))).run P w= .ok (valOf i.agg us) w:=by
 obtain⟨G,z,d,q,r,h3,F,j,k,A⟩:=B.info D;cases f:i.agg with
 | true=>exact run_loadAt_mid w b o t us d n j (k.trans f) (by simp[q,r,h])
 | false=>
  rw[A f] at h
  match us,h with
  | [u],_=>
   have C:w.cell? ⟨b,o,none⟩=some u:=by simpa using n 0 u Ai
   simp only[Instr.loadAt,Instr.sureAddr,Sem.run_bind,Sem.run_pure,Result.andThen_ok,loadVar,cK j,k,f];simp[load,Sem.run,C,valOf]
theorem Q5 {t:TypeId} {d:TypeInfo} (h:P.info? t=some d):(sizeOf t).run P w= .ok d.size w:=by simp[sizeOf,typeInfo,h]
theorem cP (t:TypeId) (v:Value):(newVar t v).run P w= .ok ⟨w.heap.size,0,none⟩ (w.alloc (.cells v.cells t)):=by
 simp[newVar,newRow,newObj,Sem.run]
theorem lK {fl:Field} {b off n:Nat} (h3:(P.info? fl.type).map (·.size)=some n) (d:0<n):(fieldPlace ⟨b,off,none⟩ fl).run P w= .ok ⟨b,off+fl.offset,none⟩ w:=by
 obtain⟨h,f,rfl⟩:=Option.map_eq_some_iff.1 h3;simp[fieldPlace,sizeOf,typeInfo,f,Nat.pos_iff_ne_zero.1 d,Addr.add_mid]
theorem qf {k:IntKind} {n:Int} {y:Nat} {c:BoundsCode} (d:0<=n) (f:n<=y):(Instr.sliceBound (.int k n) y c).run P w= .ok n.toNat w:=by
 simp[Instr.sliceBound,asIntOf,d,f]
theorem O5 {lo u mx:Option Operand} {s:St} (j:∀o,CP x (ev s.sl o) (a.eval o)) {len cap:Nat} (r:len<=cap) {R:Nat->Nat->Bool->Prop}
  (h:Ih len (lo.map (ev s.sl)) (u.map (ev s.sl)) (mx.map (ev s.sl)) R) (fl:Bool:=true):
  ∃(l q m:Nat) (c:Bool),(Instr.sliceBounds fl len cap (lo.map a.eval) (u.map a.eval) (mx.map a.eval)).run P w= .ok (l,q,m) w/\l<=q/\q<=len/\q<=m/\m<=cap/\(c=true->m=q/\l=0)/\(c=false->m=cap)/\(mx≠none->c=true)/\R l q c:=by
 have I:∀{o:Operand} {k:IntKind} {n:Int},ev s.sl o= .one (.int k n)->a.eval o= .int k n:=fun {o k n} e=>by
  have:=j o;rw[e] at this;exact this.resolve_left nofun
 have B:= @qf P w;unfold Ih at h
 split at h <;> rename_i e1 e2 d <;> simp only[Option.map_eq_none_iff,Option.map_eq_some_iff] at e1 e2 d <;> try exact h.elim
 ·subst e1 e2 d;exact⟨0,len,cap,false,by simp[Instr.sliceBounds],AA,AA,r,AA,nofun,fun _=>rfl,fun h=>absurd rfl h,h _ rfl⟩
 ·obtain⟨p,rfl,e1⟩:=e1;subst e2 d;obtain⟨f,i⟩:=h.1 ();exact⟨_,len,cap,false,by simp[Instr.sliceBounds,I e1,B f (AA:_<=(len:Int))],AA,AA,r,AA,nofun,fun _=>rfl,fun h=>absurd rfl h,h.2 _ _ ⟨rfl,rfl⟩⟩
 ·obtain⟨p,rfl,e2⟩:=e2;subst e1 d;obtain⟨f,i⟩:=h.1 ();exact⟨0,_,cap,false,by simp[Instr.sliceBounds,I e2,B f (AA:_<=(cap:Int))],AA,AA,AA,AA,nofun,fun _=>rfl,fun h=>absurd rfl h,h.2 _ rfl⟩
 ·obtain⟨p,rfl,e1⟩:=e1;obtain⟨A,rfl,e2⟩:=e2;subst d;obtain⟨f,i,z⟩:=h.1 ()
  rename_i n _ n'
  exact⟨_,_,cap,false,by simp[Instr.sliceBounds,I e1,I e2,B (AA:0<=n') (AA:n'<=(cap:Int)),B f (AA:n<=(n'.toNat:Int))],AA,AA,AA,AA,nofun,fun _=>rfl,fun h=>absurd rfl h,h.2 _ _ ⟨rfl,rfl⟩⟩
 obtain⟨p,rfl,e2⟩:=e2;obtain⟨A,rfl,d⟩:=d;subst e1;obtain⟨f,i,z⟩:=h.1 ();subst i
 rename_i n _
 exact⟨0,_,_,true,by simp[Instr.sliceBounds,I e2,I d,B f (AA:n<=(cap:Int)),B f (AA:n<=(n.toNat:Int))],AA,AA,AA,AA,fun _=>⟨rfl,rfl⟩,nofun,fun _=>rfl,h.2 _ rfl⟩
end
theorem N7 {α:Type} (l:List α) (o:Nat):DC l o []=l:=by
 induction l generalizing o <;> cases o <;> simp_all [DC]
theorem Ui {α:Type}:∀(l:List α) (o:Nat) (v:α) (r:List α),DC (l.set o v) (o+1) r=DC l o (v::r)
 | [],0,_,_ | [],_+1,_,_=>rfl
 | c::l,0,v,r=>by simp[DC]
 | c::l,o+1,v,r=>by simp[DC,Ui l o v r]
theorem bL {α:Type}:∀(l m:List α),m.length=l.length->DC l 0 m=m
 | [],[],_=>rfl
 | _::l,_::m,h=>by simp[DC,bL l m (by simpa using h)]
 | [],_::_,h | _::_,[],h=>by simp at h
theorem BL.DC {α γ:Type} {R:α->γ->Prop} {l:List α} {m:List γ} (h:BL R l m):∀(o:Nat) {xs:List α} {ys:List γ},BL R xs ys->BL R (DC l o xs) (DC m o ys):=by
 induction h with
 | nil=>intro o xs ys h;cases o <;> cases h <;> exact .nil
 | cons q h d=>
  intro o xs ys h';cases o with
  | zero=>cases h' with
   | nil=>exact .cons q h
   | cons p r=>exact .cons p (d 0 r)
  | succ o=>exact .cons q (d o h')
theorem TH {α:Type}:∀(l:List α) (o:Nat) (xs:List α) (m:Nat),o+xs.length<=l.length->(DC l o xs)[m]? =if o<=m/\m<o+xs.length then xs[m-o]? else l[m]?
 | [],o,xs,m,h=>by
  obtain rfl:xs=[]:=List.eq_nil_of_length_eq_zero (by simp only[List.length_nil] at h;omega);rw[N7,if_neg (by simp only[List.length_nil];omega)]
 | c::l,0,[],m,_=>by rw[N7,if_neg Ai]
 | c::l,0,x::xs,m,h=>by
  cases m with
  | zero=>simp[DC]
  | succ m=>simpa [DC] using TH l 0 xs m (by simp only[List.length_cons] at h;omega)
 | c::l,o+1,xs,m,h=>by
  have e:DC (c::l) (o+1) xs=c::DC l o xs:=by cases xs <;> rfl
  cases m with
  | zero=>rw[e,if_neg AA];rfl
  | succ m=>
   rw[e,List.getElem?_cons_succ,List.getElem?_cons_succ,TH l o xs m (by simp only[List.length_cons] at h;omega)]
   by_cases d:o<=m/\m<o+xs.length
   ·rw[if_pos d,if_pos AA];congr 1;omega
   rw[if_neg d,if_neg AA]
theorem Th {α:Type}:∀(l:List α) (o:Nat) (xs:List α),(DC l o xs).length=l.length
 | _,0,[]=>by rw[N7]
 | [],0,_::_ | [],_+1,_=>rfl
 | _::cs,0,_::xs=>by simp[DC,Th cs 0 xs]
 | _::cs,o+1,xs=>by simp[DC,Th cs o xs]
section
variable {w w':World} {b o:Nat} {arr:Array Value} {e:TypeId} {vs:List Value}
theorem OI (b:Nat):∀(vs:List Value) (o:Nat) (w:World) (arr:Array Value) (e:TypeId),w.heap[b]? =some (.cells arr e (0,0))->
  ∃d,(w.setCells b o vs).heap[b]? =some (.cells d e (0,0))/\d.toList=DC arr.toList o vs/\d.size=arr.size
 | [],o,w,arr,e,h=>⟨arr,h,(N7 _ _).symm,rfl⟩
 | v::r,o,w,arr,e,h=>by
  obtain⟨d,f,h3,i⟩:=OI b r (o+1) (w.setCell ⟨b,o,none⟩ v) (arr.setIfInBounds o v) e (by simp[World.setCell,Array.getElem?_modify,h]);exact⟨d,f,by rw[h3,Array.toList_setIfInBounds,Ui],by simpa using i⟩
theorem Dz.set:∀(vs:List Value) (o:Nat) (w:World),Dz w (w.setCells b o vs) (some b)
 | [],_,_=> .rfl
 | v::r,o,w=>by
  have F:=Dz.set r (o+1) (w.setCell ⟨b,o,none⟩ v);have j:(w.setCell ⟨b,o,none⟩ v).heap.size=w.heap.size:=by simp[World.setCell]
  exact⟨F.os,F.tape,F.output,j ▸ F.size,fun k n h=>(F.get k AA h).trans (by simp only[ne_eq,Option.some.injEq] at h;simp[World.setCell,Array.getElem?_modify,h]),
   fun k arr e _ h=>let ⟨d,f,_,i⟩:=OI k (v::r) o w arr e h;by cases (by assumption:some b=some k);exact⟨d,f,i⟩⟩
theorem Dz.push {x:Obj} (h:w'.heap=w.heap.push x) (d:w'.os=w.os) (f:w'.tape=w.tape) (h3:w'.output=w.output):Dz w w' none:=
 ⟨d,f,h3,by simp[h],fun b hb _=>by rw[h,Array.getElem?_push,if_neg AA],nofun⟩
theorem VS {n:Nat} (h:w.heap[b]? =some (.cells arr e (0,0))) (f:o+n<=arr.size):w.there b o n:=by
 intro j d;simp[World.cell?,World.frozen?,h,(AA:o+j<arr.size)]
theorem cn (h:w.heap[b]? =some (.cells arr e (0,0))) (f:o+vs.length<=arr.size):(w.setCells b o vs).rangeAt b o vs:=fun j v d=>by
 rw[World.cell?_setCells_in b vs o w (fun m hm=>(VS h f m hm).1) j (H8 d)];exact (List.getElem?_eq_getElem _).symm.trans d
theorem cp {us:List Value} {q:Nat} (h:∀m,m<us.length->q+m<o\/o+vs.length<=q+m) (f:w.rangeAt b q us):(w.setCells b o vs).rangeAt b q us:=fun m v d=>by
 rw[World.cell?_setCells_out b vs o w ⟨b,q+m,none⟩ (fun _ _=>h m (H8 d))];exact f m v d
end
theorem Ze {c d:AC} (h:FV c d):Dc c=true/\Dc d=true:=by
 cases c <;> first
  | exact h.elim
  | (obtain rfl:d=_:=h;exact⟨rfl,rfl⟩)
  | (rcases h with rfl |⟨t,rfl⟩ <;> exact⟨rfl,rfl⟩)
theorem L8 {x:Cx} {t:T}:Ba x (.sl t []) (.slice none 0 0):=⟨none,0,rfl,Nat.le_refl _,Ai,.inl rfl⟩
theorem TX {x:Cx} {c d:AC} {v:Value} (h:FV c d) (r:Ba x c v):Ba x d v:=by
 cases c <;> first
  | exact h.elim
  | (obtain rfl:d=_:=h;exact r)
  | (obtain rfl:v=_:=r;rcases h with rfl |⟨t,rfl⟩;rfl;exact L8)
theorem SC {x:Cx} {l m:List AC} {vs:List Value} (a:EB FV l m) (b:BL (Ba x) l vs):BL (Ba x) m vs:=XI (R:=Ba x) (fun _ _ _ _=>TX) a b
section
variable {P:Program} {E:Env} {TI:TypeId->Info} {x:Cx} {s:St} {a:Act}
theorem Yz:∀(l:List Value) (off k:Nat) (c:Array Value),((l.zipIdx k).foldl (fun (cs:Array Value) (x:Value×Nat)=>cs.setIfInBounds (off+x.2) x.1) c).toList=DC c.toList (off+k) l
 | [],off,k,c=>by simp[N7]
 | v::l,off,k,c=>by
  rw[List.zipIdx_cons,List.foldl_cons,Yz l off (k+1),Array.toList_setIfInBounds,<-Nat.add_assoc,Ui]
theorem Yt {place:Nat->Option (Nat×Nat)} {c:Array Value} {i:Nat} {v:Value} {r:List (Nat×Value)} {off n:Nat} (h:place i=some (off,n)) (k:v.cells.size=n) (hf:off+n<=c.size):
  ∃d,d.toList=DC c.toList off v.cells.toList/\Instr.fill place c ((i,v)::r)=Instr.fill place d r:=by
 refine⟨v.cells.zipIdx.foldl (fun cs (x,j)=>cs.setIfInBounds (off+j) x) c,?_,?_⟩
 ·have:=Yz v.cells.toList off 0 c;rw[Nat.add_zero] at this;rw[<-this,<-Array.foldl_toList,Array.toList_zipIdx]
 have f:¬(v.cells.size≠n\/off+v.cells.size>c.size):=AA
 rw[Instr.fill];simp only[h];rw[if_neg (by simpa using f)]
theorem Sy (j:∀o,CP x (ev s.sl o) (a.eval o)) {d:List (Nat×Nat×Bool)} {pl:Nat->Option (Nat×Nat)} (k:∀(i o n:Nat) (g:Bool),d[i]? =some (o,n,g)->pl i=some (o,n)):
  ∀(parts:List (Nat×Operand)) (cs r:List AC) (c:Array Value),H6 d (ev s.sl) parts cs=some r->BL (Ba x) cs c.toList->
   ∃q,Instr.fill pl c (parts.map fun p=>(p.1,a.eval p.2))=some q/\BL (Ba x) r q.toList
 | [],cs,r,c,h,u=>⟨c,rfl,by cases h;exact u⟩
 | (i,o)::parts,cs,r,c,h,u=>by
  simp only[H6] at h
  split at h
  ·rename_i off n g F
   split at h
   ·rename_i C
    obtain⟨A,B,h3⟩:=C;have f:=Kw (j o) B;have D:=u.length;simp only[Array.length_toList] at D;obtain⟨q,J,K⟩:=Yt (c:=c) (r:=parts.map fun p=>(p.1,a.eval p.2)) (k i off n g F) (by have:=f.length;rw[A] at this;simpa using this.symm) AA;obtain⟨z,G,H⟩:=Sy j k parts _ r q h (by rw[J];exact u.DC off f);exact⟨z,by rw[List.map_cons,K];exact G,H⟩
   cases h
  cases h
theorem OS {o:Oper} {u:Value} {w w':World} {N:Act->World->Prop} {Q:Exit->Act->World->Prop} (f:(execOp a.eval o).run P w= .ok (.value u) w') (d:N (a.put o.dst u) w'):o.wp P a w N Q:=by
 unfold Oper.wp;rw[f];exact d
def Sound (P:Program) (E:Env) (TI:TypeId->Info) (o:Oper):Prop:=
 ∀{w0:World} {X:WX} {β:Nat->Option Nat} {s:St} {a:Act} {w:World},BX w0 X β s a w->∀{f:DG},FQ E TI o (Cs o) (ev s.sl) (AP s.bk) (fun g=>g=f)->
  ∀{N:Act->World->Prop} {Q:Exit->Act->World->Prop},(∀β' a' w',BX w0 X β' (s.app o.dst f) a' w'->N a' w')->o.wp P a w N Q
theorem jw {l:List AV} {vs:List Value} (h:BL (CP x) l vs):∀{d:List (Nat×Nat)},PH l=some d->BL (fun p=>EJ x p.1 p.2 0) d vs:=by
 induction h with
 | nil=>intro d h;cases h;exact .nil
 | cons q _ f=>
  intro d h;unfold PH at h
  split at h <;> rename_i e <;> cases e
  ·split at h
   ·rename_i e;cases h;exact .cons (q.resolve_left nofun) (f e)
   cases h
  cases h
theorem pC {l:List AV} {vs:List Value} (h:BL (CP x) l vs):∀{d:List (Nat×Nat×Nat)},Qj l=some d->BL (fun p=>EJ x p.1 p.2.1 p.2.2) d vs:=by
 induction h with
 | nil=>intro d h;cases h;exact .nil
 | cons q _ f=>
  intro d h;unfold Qj at h
  split at h <;> rename_i e <;> cases e
  ·split at h
   ·rename_i e;cases h;exact .cons (q.resolve_left nofun) (f e)
   cases h
  cases h
theorem Nf (h:∀y:Operand,CP x (ev s.sl y) (a.eval y)):∀l:List Operand,BL (CP x) (l.map (ev s.sl)) (l.map a.eval)
 | []=> .nil
 | y::l=> .cons (h y) (Nf h l)
end
theorem T.beq_refl (t:T):T.beq t t=true:=by induction t <;> simp_all [T.beq]
def Good (F:(Nat->Option Af)->(DG->Prop)->Prop):Prop:=∀{bk:Nat->Option Af} {K:DG->Prop},F bk K->∃f,K f/\∀(DD:Nat->Option Af) (K':DG->Prop),(∀id∈f.rd,bk id=DD id)->K' f->F DD K'
theorem vv {bk DD:Nat->Option Af} {id v:Nat} (h:bk id=DD id) (e:BA bk id=v):BA DD id=v:=by unfold BA;rw[<-h];exact e
theorem XQ {op:BinOp} {k:IntKind} {a b:Int} {K:AC->Prop} (h:arith op k a b K):∃c,K c/\∀d:AC->Prop,d c->arith op k a b d:=by
 unfold arith at h ⊢
 split at h <;> first
  | exact⟨_,h _ rfl,fun d i c f=>f ▸ i⟩
  | exact⟨_,(h _ rfl).2,fun d i c f=>f ▸⟨(h _ rfl).1,i⟩⟩
theorem O6 {len:Nat} {lo i mx:Option AV} {K:Nat->Nat->Bool->Prop} (h:Ih len lo i mx K):∃a b c,K a b c/\∀d:Nat->Nat->Bool->Prop,d a b c->Ih len lo i mx d:=by
 unfold Ih at h ⊢
 split at h <;> first
  | exact h.elim
  | exact⟨_,_,_,h _ rfl,fun d f c n=>n ▸ f⟩
  | exact⟨_,_,_,h.2 _ rfl,fun d f=>⟨h.1,fun l q=>q ▸ f⟩⟩
  | exact⟨_,_,_,h.2 _ _ ⟨rfl,rfl⟩,fun d f=>⟨h.1,fun l m ⟨j,k⟩=>j ▸ k ▸ f⟩⟩
theorem jZ {u:T} {x:AV} {lo q mx:Option AV}:Good fun bk=>O4 bk u x lo q mx:=by
 intro bk K h;unfold O4 at h ⊢
 split at h
 ·obtain⟨i,h⟩:=h;obtain⟨a,b,c,h3,d⟩:=O6 (h _ rfl);exact⟨_,h3 _ rfl,fun _ k _ f=>⟨i,fun n r=>r ▸ d _ fun l' j=>j ▸ f⟩⟩
 ·obtain⟨i,h⟩:=h
  split at h
  ·rename_i z
   obtain⟨a,b,c,h3,d⟩:=O6 h;have h3:=h3 _ _ ⟨rfl,rfl⟩;cases c <;> exact⟨_,h3,fun _ k hb f=>⟨i,by rw[if_pos (vv (hb _ Ai) z)];exact d _ fun o n ⟨e1,e2⟩=>by subst e1 e2;exact f⟩⟩
  exact h.elim
 ·obtain⟨a,b,c,h3,d⟩:=O6 h;exact⟨_,h3,fun _ k _ f=>d _ f⟩
 exact h.elim
section
variable {bk DD:Nat->Option Af}
theorem dX:∀{f:List (Nat×Nat)} {j:List ((t:T)×el t)},(∀id∈f.map (·.1),bk id=DD id)->OL bk f j->OL DD f j
 | [],[],_,h=>h
 | p::_,_::_,i,h=>⟨(i p.1 Ai).symm.trans h.1,dX (fun id d=>i id (List.mem_cons_of_mem _ d)) h.2⟩
 | [],_::_,_,h | _::_,[],_,h=>h
theorem MR {c d:AC} (h:∀id∈Ch c,bk id=DD id) (k:G1 bk c d):G1 DD c d:=by
 cases c <;> first | exact k | skip
 case AU t id v off len=>obtain⟨l,i,j⟩:=k;exact⟨l,h id (by simp[Ch]) ▸ i,j⟩
 case BE id v off=>obtain⟨i,t,x,j,h3⟩:=k;exact⟨i,t,x,h id (by simp[Ch]) ▸ j,h3⟩
 case HB f ps=>exact k.imp (fun⟨n,i,j⟩=>⟨n,dX h i,j⟩) id
theorem qp {t0:T} {c d:AC} (h:∀id∈Ch c,bk id=DD id) (f:VK bk t0 c d):VK DD t0 c d:=by
 cases c <;> first | exact f | skip
 case AU t id v off len=>obtain⟨i,l,j,k⟩:=f;exact⟨i,l,h id (by simp[Ch]) ▸ j,k⟩
theorem dY {l2:List Nat} (j:∀id∈l2,bk id=DD id):∀{f:List (Nat×Nat)} {n:List ((t:T)×el t)},(∀id∈f.map (·.1),bk id=DD id)->OM bk l2 f n->OM DD l2 f n
 | [],[],_,h=>h
 | p::_,⟨t,x⟩::_,k,h=>by
  refine⟨?_,dY j (fun id d=>k id (List.mem_cons_of_mem _ d)) h.2⟩;have e:=k p.1 Ai;have i:=h.1
  cases t <;> first
   | exact e.symm.trans i
   | (obtain⟨id,v,g1,g2,q⟩:=i;exact⟨id,v,g1,e.symm.trans g2,(j id g1).symm.trans q⟩)
 | [],_::_,_,h | _::_,[],_,h=>h
theorem qk {l2:List Nat} {c d:AC} (h:∀id∈Ch c,bk id=DD id) (j:∀id∈l2,bk id=DD id) (i:VJ bk l2 c d):VJ DD l2 c d:=by
 cases c
 case HB f ps=>obtain⟨n,h3,k⟩:=i;exact⟨n,dY j h h3,k⟩
 all_goals exact MR (d:=d) h i
theorem nN {i v:Nat} {c d:AC} (h:∀id∈Ch c,bk id=DD id) (f:QC bk i v c d):QC DD i v c d:=by
 cases c <;> first | exact f | skip
 case BE j w off=>exact f.imp id fun⟨k,o,n,h3⟩=>⟨k,o,(h j (by simp[Ch])).symm.trans n,h3⟩
theorem XG {R R':AC->AC->Prop}:∀{l m:List AC},(∀c∈l,∀d,R c d->R' c d)->EB R l m->EB R' l m
 | [],[],_,h=>h
 | c::_,_::_,f,h=>⟨f c Ai _ h.1,XG (fun c i=>f c (by simp[i])) h.2⟩
 | [],_::_,_,h | _::_,[],_,h=>h
theorem KP {R R':AC->AC->Prop}:∀{l m:List AV},(∀c d,(∀id∈Ch c,id∈Cq l)->R c d->R' c d)->Ey R l m->Ey R' l m
 | [],[],_,h=>h
 | a::l,b::_,hR,h=>by
  refine⟨?_,KP (fun c d j=>hR c d fun i f=>?_) h.2⟩
  ·have h:=h.1;cases a <;> cases b <;> first | exact h.elim | skip
   ·exact hR _ _ (fun i f=>by simp[Cq,f]) h
   exact XG (fun c j d=>hR c d fun i f=>List.mem_append_left _ (List.mem_flatMap.2 ⟨c,j,f⟩)) h
  have:=j i f;cases a <;> simp[Cq,this]
 | [],_::_,_,h | _::_,[],_,h=>h
end
theorem jN {E:Env} {g:FuncId} {args:List AV} {d:Nat}:Good fun bk=>M7 E g args d bk:=by
 intro bk K h;rcases h with⟨a,r,f,k,h⟩ |⟨a,r,f,k,h⟩ | h |⟨i,b,a,r,f,k,h⟩ |⟨i,b,a,r,f,k,h⟩ | h |⟨i,b,a,r,b1,f,k,h⟩ |⟨l2,a,r,f,k,h⟩ |⟨i,b,a,r,b1,f,k,h⟩ |⟨t0,a,r,f,k,h⟩
 ·exact⟨_,h,fun DD _ hb n=> .inl ⟨a,r,f,k,by rw[vv (hb d Ai) rfl];exact n⟩⟩
 ·exact⟨_,h,fun DD _ hb n=> .inr (.inl ⟨a,r,fun u=>KP (fun c _ q=>MR fun i z=>hb i (by simp[q i z])) (f u),k,by rw[vv (hb d Ai) rfl];exact n⟩)⟩
 ·split at h
  ·split at h
   ·rename_i F
    split at h
    ·rename_i n
     split at h
     ·rename_i G
      obtain⟨a,r,b1,f,k,h⟩:=h;refine⟨_,h,fun DD _ hb B=> .inr (.inr (.inl ?_))⟩;simp only[F,<-hb _ (List.mem_cons_self ..),n,if_pos G];exact⟨a,r,b1,fun u=>⟨(f u).1,KP (fun c _ q=>MR fun i z=>hb i (by simp[q i z])) (f u).2⟩,k,B⟩
     exact h.elim
    exact h.elim
   exact h.elim
  exact h.elim
 ·exact⟨_,h,fun _ _ hb n=> .inr (.inr (.inr (.inl ⟨i,b,a,r,fun u=>⟨(hb i Ai).symm.trans (f u).1,(f u).2⟩,k,n⟩)))⟩
 ·refine⟨_,h,fun _ _ hb n=> .inr (.inr (.inr (.inr (.inl ⟨i,b,a,r,fun u=>?_,k,n⟩))))⟩;obtain⟨⟨g1,g2,C⟩,D⟩:=f u;refine⟨⟨g1,(hb i Ai).symm.trans g2,C⟩,KP (fun c _ q=>MR fun j A=>hb j ?_) D⟩;have:=List.all_eq_true.1 C j (q j A);simpa using this
 ·exact h.elim
 ·exact⟨_,h,fun _ _ hb n=> .inr (.inr (.inr (.inr (.inr (.inr (.inl ⟨i,b,a,r,b1,fun u=>⟨(hb i Ai).symm.trans (f u).1,(f u).2⟩,k,n⟩))))))⟩
 ·exact⟨_,h,fun DD _ hb n=> .inr (.inr (.inr (.inr (.inr (.inr (.inr (.inl ⟨l2,a,r,fun u=>KP (fun c _ q=>qk (fun i z=>hb i (by simp[q i z])) fun i z=>hb i (by simp[z])) (f u),k,by rw[vv (hb d Ai) rfl];exact n⟩)))))))⟩
 ·exact⟨_,h,fun _ _ hb n=> .inr (.inr (.inr (.inr (.inr (.inr (.inr (.inr (.inl ⟨i,b,a,r,b1,fun u=>⟨(hb i Ai).symm.trans (f u).1,KP (fun c _ q=>nN fun j A=>hb j (by simp[q j A])) (f u).2⟩,k,n⟩))))))))⟩
 exact⟨_,h,fun _ _ hb n=> .inr (.inr (.inr (.inr (.inr (.inr (.inr (.inr (.inr ⟨t0,a,r,fun u=>KP (fun c _ q=>qp fun i z=>hb i (q i z)) (f u),k,n⟩))))))))⟩
theorem W8 {TI:TypeId->Info} {b:Builtin} {D:List TypeId} {args:List AV} {d:Nat} (hlen:∀t l,args=[.one (.sl t l)]->l.length<=140737488355328):Good fun bk=>HZ TI b D args d bk:=by
 intro bk K h;unfold HZ at h ⊢
 split at h <;> try exact h.elim
 ·exact⟨_,h.2 _ ⟨rfl,hlen _ _ rfl⟩,fun _ j _ f=>⟨h.1,fun n k=>k.eq ▸ f⟩⟩
 iterate 2
  obtain⟨r,h⟩:=h
  split at h
  ·rename_i C
   exact⟨_,h _ ⟨rfl⟩,fun _ j hb f=>⟨r,by rw[if_pos (vv (hb _ Ai) C)];exact fun n k=>k.eq ▸ f⟩⟩
  exact h.elim
 ·exact⟨_,h.2,fun _ j _ f=>⟨h.1,f⟩⟩
 ·exact⟨_,h.2 _ ⟨rfl⟩,fun _ j _ f=>⟨h.1,fun n k=>k.eq ▸ f⟩⟩
 ·exact⟨_,h.2 _ ⟨rfl⟩,fun _ j _ f=>⟨h.1,fun n k=>k.eq ▸ f⟩⟩
 ·exact⟨_,h.2,fun _ j _ f=>⟨h.1,f⟩⟩
 ·exact⟨_,h _ rfl,fun _ j _ f c z=>z ▸ f⟩
 ·exact⟨_,h _ rfl,fun _ j _ f c z=>z ▸ f⟩
 ·obtain⟨r,l2,q,h⟩:=h;exact⟨_,h _ rfl,fun DD j hb f=>⟨r,l2,fun u=>⟨MR (fun i A=>hb i (by simp[A])) (q u).1,(q u).2⟩,fun n k=>by rw[vv (hb d Ai) rfl];exact k ▸ f⟩⟩
 all_goals
  obtain⟨r,h⟩:=h
  split at h
  ·rename_i f
   split at h
   ·rename_i C
    obtain⟨l2,q,h⟩:=h;refine⟨_,h _ _ ⟨rfl,rfl⟩,fun DD j hb B=>⟨r,?_⟩⟩;simp only[<-hb _ (List.mem_cons_self ..),f,if_pos C];exact⟨l2,fun u=>⟨(q u).1,(q u).2.1,MR (fun i A=>hb i (by simp[A])) (q u).2.2.1,(q u).2.2.2⟩,fun l' n ⟨e1,e2⟩=>by subst e1 e2;exact B⟩
   exact h.elim
  exact h.elim
theorem cj {K:DG->Prop} {g:DG} (h:MP K g):∃(t:T) (id v:Nat) (l:List (el t)),g=⟨.one (.AU t id v 0 l.length),[(id,.arr v t l)],g.rd⟩/\id≠0/\K ⟨.one (.sl t l),[(id,.dead v)],g.rd⟩/\
  ∀d:DG->Prop,d ⟨.one (.sl t l),[(id,.dead v)],g.rd⟩->MP d g:=by
 obtain⟨A,B,z⟩:=g;unfold MP at h
 split at h
 ·rename_i t id v off n i D C l k q
  split at h
  ·rename_i f
   simp only at k q;have j:=f;simp only[Bool.and_eq_true,bne_iff_ne,beq_iff_eq] at f;obtain⟨⟨⟨⟨c1,rfl⟩,rfl⟩,rfl⟩,r⟩:=f;obtain rfl:=T.beq_eq r;obtain rfl:=h.1 ();subst k q;exact⟨t,id,v,l,rfl,c1,h.2,fun d u=>by unfold MP;simp only;rw[if_pos j];exact⟨fun _=>trivial,u⟩⟩
  exact h.elim
 exact h.elim
theorem R5 {TI:TypeId->Info} {b:Builtin} {f:List TypeId} {args:List AV} {d:Nat} {bk:Nat->Option Af} {K:DG->Prop}:
  Ov TI b f args d bk K↔HZ TI b f args d bk K\/(b= .append/\HZ TI b f args d bk (MP K)):=by
 cases b <;> simp[Ov]
theorem jX {TI:TypeId->Info} {f:List TypeId} {args:List AV} {d:Nat} {bk:Nat->Option Af} {K:DG->Prop} (h:HZ TI .append f args d bk K):args.length=2:=by
 unfold HZ at h
 split at h <;> first | contradiction | exact h.elim | rfl
theorem XL {E:Env} {TI:TypeId->Info} {o:Oper} {d:Nat} {e:Operand->AV} (hlen:∀x t l,e x= .one (.sl t l)->l.length<=140737488355328):Good fun bk=>FQ E TI o d e bk:=by
 intro bk K h;unfold FQ at h ⊢;cases Z:o.op <;> simp only[Z] at h ⊢ <;> (try exact h.elim)
 case move x | assign x=>exact⟨_,h,fun _ _ _ r=>r⟩
 case nilCheck x=>
  revert h;generalize e x=X;intro h
  split at h <;> first
   | exact⟨_,h,fun _ _ _ r=>r⟩
   | exact h.elim
   | (split at h
      ·rename_i D;exact⟨_,h,fun _ _ hb r=>by simp only[if_pos (vv (hb _ (List.mem_cons_self ..)) D)];exact r⟩
      exact h.elim)
 case pick c x y=>
  revert h;generalize e c=X;intro h
  split at h <;> first
   | exact⟨_,h,fun _ _ _ r=>r⟩
   | exact h.elim
 case alloc t=>exact⟨_,h.2,fun _ _ hb r=>⟨h.1,by rw[vv (hb d Ai) rfl];exact r⟩⟩
 case box t x=>
  revert h;generalize e x=X;intro h
  split at h <;> first
   | exact h.elim
   | exact⟨_,h,fun _ _ hb r=>by rw[vv (hb d Ai) rfl];exact r⟩
 case extract x i=>
  revert h;generalize e x=X;intro h
  split at h
  ·split at h
   ·exact⟨_,h,fun _ _ _ r=>r⟩
   exact h.elim
  exact h.elim
 case load t x=>
  simp only[PM] at h ⊢;obtain⟨A,h⟩:=h
  revert h;generalize e x=X;intro h
  split at h
  ·split at h
   ·rename_i r
    split at h
    ·rename_i D;exact⟨_,h,fun _ _ hb G=>⟨A,by simp only[<-hb _ (List.mem_cons_self ..),r,if_pos D];exact G⟩⟩
    exact h.elim
   exact h.elim
  ·split at h
   ·rename_i D;exact⟨_,h,fun _ _ _ r=>⟨A,by simp only[if_pos D];exact r⟩⟩
   exact h.elim
  ·exact⟨_,h.2,fun _ _ _ r=>⟨A,h.1,r⟩⟩
  ·split at h
   ·rename_i r
    split at h
    ·rename_i D
     obtain⟨z,C,h⟩:=h
     split at h
     ·rename_i J;exact⟨_,h,fun _ _ hb G=>⟨A,by simp only[<-hb _ (List.mem_cons_self ..),r,if_pos D];exact⟨z,C,by simp only[if_pos J];exact G⟩⟩⟩
     exact h.elim
    exact h.elim
   exact h.elim
  exact h.elim
 case store t p x=>
  obtain⟨A,h⟩:=h
  revert h;generalize e p=X;generalize e x=Y;intro h
  split at h
  ·generalize L:bk _=B at h
   split at h <;> try exact h.elim
   split at h
   ·rename_i D;exact⟨_,h,fun _ _ hb r=>⟨A,by simp only[<-hb _ (List.mem_cons_self ..),L,if_pos D];exact r⟩⟩
   exact h.elim
  ·generalize L:bk _=B at h
   split at h <;> try exact h.elim
   split at h
   ·rename_i D
    obtain⟨z,C,h⟩:=h;exact⟨_,h _ rfl,fun _ _ hb r=>⟨A,by simp only[<-hb _ (List.mem_cons_self ..),L,if_pos D];exact⟨z,C,fun l' H=>H ▸ r⟩⟩⟩
   rename_i O
   split at h
   ·rename_i D
    obtain⟨x0,z,C,h⟩:=h;exact⟨_,h _ rfl,fun _ _ hb r=>⟨A,by simp only[<-hb _ (List.mem_cons_self ..),L,if_neg O,if_pos D];exact⟨x0,z,C,fun l' H=>H ▸ r⟩⟩⟩
   exact h.elim
  exact h.elim
 case fieldAddr t x i=>
  obtain⟨A,h⟩:=h
  revert h;generalize e x=X;generalize (TI t).fields[i]? =Y;intro h
  split at h <;> first
   | exact⟨_,h,fun _ _ _ r=>⟨A,r⟩⟩
   | exact h.elim
   | (split at h
      ·rename_i D;exact⟨_,h,fun _ _ hb r=>⟨A,by simp only[if_pos (vv (hb _ (List.mem_cons_self ..)) D)];exact r⟩⟩
      exact h.elim)
 case field t x i=>
  obtain⟨A,h⟩:=h
  revert h;generalize e x=X;generalize (TI t).fields[i]? =Y;intro h
  split at h
  ·split at h
   ·rename_i D;exact⟨_,h,fun _ _ _ r=>⟨A,by simp only[if_pos D];exact r⟩⟩
   exact h.elim
  exact h.elim
 case build t ps=>
  revert h;generalize (TI t).arr=q;intro h
  split at h <;> (obtain⟨A,h⟩:=h;split at h) <;> first
   | exact h.elim
   | exact⟨_,h,fun _ _ _ r=>⟨A,r⟩⟩
 case buildSlice t n ps=>
  revert h;generalize (TI t).pt=q;intro h
  split at h
  ·split at h
   ·exact⟨_,h.2,fun _ _ _ r=>⟨h.1,r⟩⟩
   exact h.elim
  obtain⟨A,C,xs,h3,h | h⟩:=h
  ·exact⟨_,h,fun _ _ hb r=>⟨A,C,xs,h3,.inl (by rw[vv (hb d Ai) rfl];exact r)⟩⟩
  exact⟨_,h,fun _ _ _ r=>⟨A,C,xs,h3,.inr r⟩⟩
 case makeSlice t x y=>
  obtain⟨A,h⟩:=h
  revert h;generalize e x=X;generalize e y=Y;intro h
  split at h
  ·exact⟨_,h.2 _ _ ⟨rfl,rfl⟩,fun _ _ hb r=>⟨A,h.1,fun k z ⟨e1,e2⟩=>by subst e1 e2;rw[vv (hb d Ai) rfl];exact r⟩⟩
  exact h.elim
 case indexAddr t x i=>
  revert h;generalize (TI t).pt=q;generalize (TI t).arr=q';generalize e x=X;generalize e i=Y;intro h
  split at h
  ·split at h
   ·obtain⟨p,C,h⟩:=h;exact⟨_,h,fun _ _ _ r=>⟨p,C,r⟩⟩
   exact h.elim
  split at h
  ·split at h
   ·split at h
    ·rename_i D;exact⟨_,h.2,fun _ _ hb r=>by simp only[if_pos (vv (hb _ (List.mem_cons_self ..)) D)];exact⟨h.1,r⟩⟩
    exact h.elim
   ·obtain⟨u,z,A,h⟩:=h;exact⟨_,h,fun _ _ _ r=>⟨u,z,A,r⟩⟩
   exact h.elim
  obtain⟨A,h⟩:=h
  split at h
  ·obtain⟨C,z,h3,h⟩:=h;exact⟨_,h,fun _ _ _ r=>⟨A,C,z,h3,r⟩⟩
  ·obtain⟨C,h⟩:=h
   split at h
   ·rename_i D;exact⟨_,h.2 _ rfl,fun _ _ hb r=>⟨A,C,by simp only[if_pos (vv (hb _ (List.mem_cons_self ..)) D)];exact⟨h.1,fun j W=>W ▸ r⟩⟩⟩
   exact h.elim
  exact h.elim
 case slice t x lo hi mx=>
  revert h;generalize e x=X;intro h
  split at h
  ·obtain⟨A,h⟩:=h;obtain⟨p,q,c,h3,C⟩:=O6 (h _ rfl);exact⟨_,h3.2 _ rfl,fun _ _ _ r=>⟨A,fun n O=>O ▸ C _ ⟨h3.1,fun z J=>J ▸ r⟩⟩⟩
  obtain⟨f,C,h3⟩:=jZ h.2;exact⟨f,C,fun _ _ hb r=>⟨h.1,h3 _ _ hb r⟩⟩
 case index t x i=>
  revert h;generalize (TI t).arr=q;generalize e x=X;generalize e i=Y;intro h
  split at h
  ·split at h
   ·obtain⟨A,h⟩:=h
    split at h
    ·rename_i D;exact⟨_,h,fun _ _ _ r=>by simp only[if_pos D];exact⟨A,r⟩⟩
    exact h.elim
   exact h.elim
  obtain⟨A,h⟩:=h
  split at h
  ·obtain⟨b,C,h⟩:=h;exact⟨_,h _ ⟨rfl⟩,fun _ _ _ r=>⟨A,b,C,fun z J=>J.eq ▸ r⟩⟩
  exact h.elim
 case binOp op t x y t'=>
  revert h;generalize e x=X;generalize e y=Y;intro h
  split at h
  ·split at h
   ·rename_i G
    obtain⟨c,h3,C⟩:=XQ h;exact⟨_,h3,fun _ _ _ r=>by simp only[if_pos G];exact C _ r⟩
   exact h.elim
  ·obtain⟨A,h⟩:=h;cases op <;> first | exact h.elim | exact⟨_,h _ rfl,fun _ _ _ r=>⟨A,fun c F=>F ▸ r⟩⟩
  ·obtain⟨A,h⟩:=h;cases op <;> first | exact h.elim | exact⟨_,h _ rfl,fun _ _ _ r=>⟨A,fun c F=>F ▸ r⟩⟩
  ·cases op <;> first | exact h.elim | exact⟨_,h _ rfl,fun _ _ _ r c F=>F ▸ r⟩ | exact⟨_,h.2 _ rfl,fun _ _ _ r=>⟨h.1,fun c F=>F ▸ r⟩⟩
  exact h.elim
 case unOp op t x=>
  revert h;generalize e x=X;intro h
  split at h <;> first | exact h.elim | exact⟨_,h _ rfl,fun _ _ _ r c F=>F ▸ r⟩
 case convert src dst x=>
  obtain⟨A,h⟩:=h
  revert h;generalize e x=X;generalize (TI dst).kind=Y;intro h
  split at h <;> first
   | exact h.elim
   | exact⟨_,h _ rfl,fun _ _ _ r=>⟨A,fun c F=>F ▸ r⟩⟩
   | (obtain⟨g1,g2,T,l,U,h⟩:=h;exact⟨_,h _ rfl,fun _ _ _ r=>⟨A,g1,g2,T,l,U,fun z J=>J ▸ r⟩⟩)
 case makeFunc fn first cap=>
  split at h
  ·exact⟨_,h,fun _ _ _ r=>r⟩
  exact h.elim
 case call c=>
  cases F:c.callee with
  | builtin b=>
   simp only[F] at h ⊢
   have M:∀t l,c.args.toList.map e=[.one (.sl t l)]->l.length<=140737488355328:=fun t l M=>by
    obtain⟨x,_,_,C,_⟩:=List.map_eq_cons_iff.1 M;exact hlen x t l C
   have Q:= @W8 TI b c.argTypes.toList _ d M;rcases R5.1 h with h |⟨rfl,h⟩
   ·obtain⟨f,A,C⟩:=Q h;exact⟨f,A,fun _ _ hb r=>R5.2 (.inl (C _ _ hb r))⟩
   obtain⟨g,A,C⟩:=Q h;obtain⟨t,id,v,l,hg,_,V,N⟩:=cj A;exact⟨_,V,fun _ _ hb r=> .inr (.inl (C _ _ hb (N _ r)))⟩
  | value y=>
   simp only[F] at h ⊢
   revert h;generalize e y=X;intro h
   split at h <;> first | exact h.elim | exact jN h
  | invoke _ _=>simp only[F] at h
def De (w:World) (I:PI) (t:T):List (el t)->List Value->Prop
 | [],fl=>fl=[]
 | x::l,fl=>∃us r,fl=us++r/\rep w I t x us/\De w I t l r
section
variable {w:World} {I:PI} {t:T}
theorem Uo {b o:Nat} {us vs:List Value}:w.rangeAt b o (us++vs)↔w.rangeAt b o us/\w.rangeAt b (o+us.length) vs:=by
 constructor
 ·refine fun h=>⟨fun j v d=>h j v ?_,fun j v d=>?_⟩
  ·rwa [List.getElem?_append_left (H8 d)]
  rw[Nat.add_assoc];exact h (us.length+j) v (by rw[List.getElem?_append_right AA];simpa using d)
 rintro⟨f,i⟩ j v d
 rw[List.getElem?_append] at d
 split at d
 ·exact f j v d
 have:=i _ v d;rwa [(AA:o+us.length+(j-us.length)=o+j)] at this
theorem De.length:∀{l:List (el t)} {fl:List Value},De w I t l fl->fl.length=l.length*t.size
 | [],_,h=>by rw[show _=_ from h];simp
 | _::_,_,⟨us,r,e,d,f⟩=>by rw[e,List.length_append,MO _ _ _ d,De.length f,List.length_cons,Nat.succ_mul];omega
theorem De.one:∀{l:List (el t)} {fl:List Value},De w I t l fl->∀u∈fl,u.oneCell'=true
 | [],_,h,u,hu=>by rw[show _=_ from h] at hu;simp at hu
 | _::_,_,⟨us,r,e,d,f⟩,u,hu=>(List.mem_append.1 (e ▸ hu)).elim (pU _ _ _ d u) (De.one f u)
theorem De.append:∀{l l':List (el t)} {fl d:List Value},De w I t l fl->De w I t l' d->De w I t (l++l') (fl++d)
 | [],_,_,_,h,h'=>by rw[show _=_ from h];exact h'
 | _::_,_,_,_,⟨us,r,e,f,i⟩,h'=>⟨us,r++_,by rw[e,List.append_assoc],f,De.append i h'⟩
theorem De.mono {w':World} {I':PI} (hm:∀o b,I o b->I' o b/\w'.heap[b]? =w.heap[b]?):∀{l:List (el t)} {fl:List Value},De w I t l fl->De w' I' t l fl
 | [],_,h=>h
 | _::_,_,⟨us,r,e,d,f⟩=>⟨us,r,e,Em hm _ _ _ d,De.mono hm f⟩
theorem U7 {b:Nat}:∀{l:List (el t)} {off:Nat},(∀(i:Nat) (x:el t),l[i]? =some x->∃us,rep w I t x us/\w.rangeAt b (off+i*t.size) us)->∃fl,De w I t l fl/\w.rangeAt b off fl
 | [],_,_=>⟨[],rfl,fun j v n=>by simp at n⟩
 | x::l,off,h=>by
  obtain⟨us,d,f⟩:=h 0 x rfl
  obtain⟨fl,h3,k⟩:=U7 (l:=l) (off:=off+t.size) fun i y q=>by
   obtain⟨us,g1,g2⟩:=h (i+1) y q;exact⟨us,g1,by rwa [Nat.add_mul,Nat.one_mul,Nat.add_comm (i*_),<-Nat.add_assoc] at g2⟩
  refine⟨us++fl,⟨us,fl,rfl,d,h3⟩,Uo.2 ⟨by simpa using f,?_⟩⟩;rw[MO _ _ _ d];exact k
theorem U8 {b:Nat}:∀{l:List (el t)} {fl:List Value} {off:Nat},De w I t l fl->w.rangeAt b off fl->∀(i:Nat) (x:el t),l[i]? =some x->∃us,rep w I t x us/\w.rangeAt b (off+i*t.size) us
 | [],_,_,_,_,_,_,d=>by simp at d
 | _::_,_,off,⟨us,r,e,h,j⟩,k,i,x,d=>by
  subst e;have h3:=Uo.1 k;cases i with
  | zero=>cases d;exact⟨us,h,by simpa using h3.1⟩
  | succ i=>
   rw[MO _ _ _ h] at h3;obtain⟨f,g1,g2⟩:=U8 j h3.2 i x d;exact⟨f,g1,by rwa [Nat.add_mul,Nat.one_mul,Nat.add_comm (i*_),<-Nat.add_assoc]⟩
end
section
variable {P:Program} {TI:TypeId->Info} {w0 w:World} {X:WX} {β:Nat->Option Nat} {s:St} {a:Act} {x:Value}
theorem drop_take {α:Type} {l:List α} {off len i:Nat} {y:α} (h:((l.drop off).take len)[i]? =some y):l[off+i]? =some y:=by
 rw[List.getElem?_take] at h
 split at h
 ·simpa using h
 cases h
theorem Ns (S:BX w0 X β s a w) {t:T} {id v off len:Nat} {l:List (el t)} {u:Value} (n:Ba (cx X w β (AP s.bk)) (.AU t id v off len) u) (hb:AP s.bk id=some (.arr v t l)) (hle:off+len<=l.length):
  ∃base cap,u= .slice base ((l.drop off).take len).length cap/\((l.drop off).take len).length<=cap/\((l.drop off).take len).length<=140737488355328/\cap<=maxLen/\
   ((l.drop off).take len=[]\/∃b,live (AP s.bk) id/\β id=some b/\b<w.heap.size/\base=some ⟨b,off*t.size,none⟩/\
     ∀(i:Nat) (y:el t),((l.drop off).take len)[i]? =some y->∃us,rep w (cx X w β (AP s.bk)).I t y us/\w.rangeAt b (off*t.size+i*t.size) us):=by
 obtain⟨base,cap,e,C,k,_,h3⟩:=n.2 (EN hb).symm;have hlen:((l.drop off).take len).length=len:=by simp;omega
 have D:l.length<=140737488355328:=(S.blocks id _ hb).2;refine⟨base,cap,by rw[hlen,e],AA,AA,k,?_⟩
 by_cases j:len=0
 ·subst j;exact .inl (List.take_zero ..)
 rcases h3 with rfl |⟨b,arr,B,f,z,A,F⟩
 ·omega
 obtain⟨d,h,_,r⟩:=(S.blocks id _ hb).1.arr f;refine .inr ⟨b,⟨_,hb,rfl⟩,f,Ge A,z,fun i y q=>?_⟩;rw[<-Nat.add_mul];exact r _ y (drop_take q)
theorem qt (S:BX w0 X β s a w) {c:AC} {t:T} {l:List (el t)} {z C:TypeId} (k:P.underlying z=some (.slice C)) (n:Ba (cx X w β (AP s.bk)) c x) (h:G1 (AP s.bk) c (.sl t l)):
  ∃news,Src P t.size z x l.length news w/\De w (cx X w β (AP s.bk)).I t l news:=by
 have key:∀{base:Option Addr} {cap:Nat},x= .slice base l.length cap->(l=[]\/∃b off,base=some ⟨b,off,none⟩/\∀(i:Nat) (y:el t),l[i]? =some y->∃us,rep w (cx X w β (AP s.bk)).I t y us/\w.rangeAt b (off+i*t.size) us)->
   ∃news,Src P t.size z x l.length news w/\De w (cx X w β (AP s.bk)).I t l news:=by
  rintro base cap rfl (rfl |⟨b,off,rfl,d⟩)
  ·refine⟨[],?_,rfl⟩;cases base with
   | none=>exact Src.ofNil w k cap
   | some B=>exact Src.ofSlice w k B 0 cap [] Ai (fun j u hu=>by simp at hu) Ai
  obtain⟨fl,f,A⟩:=U7 d;exact⟨fl,Src.ofSlice w k _ _ _ fl f.length (fun j u hu=>by rw[Addr.add_mid];exact A j u hu) f.one,f⟩
 cases c with
 | sl r l'=>
  cases (h:AC.sl t l=AC.sl r l');obtain⟨base,cap,D,f,A,h3⟩:=n;exact key (List.cons.inj D).1 (h3.imp id fun⟨b,off,e,_,d⟩=>⟨b,off,e,d⟩)
 | nil=>
  rcases h with h |⟨r,h⟩ <;> cases h
  exact key n (.inl rfl)
 | AU r id vv off len=>
  obtain⟨l',hb,hle,h⟩:=h;cases h;obtain⟨base,cap,e,_,_,_,h3⟩:=Ns S n hb hle;exact key e (h3.imp (fun q=>q) fun⟨b,_,_,_,e,d⟩=>⟨b,_,e,d⟩)
 | HB=>exact h.elim (fun⟨_,_,e⟩=>nomatch e) nofun
 | BE=>obtain⟨_,_,_,_,e⟩:=h;cases e
 | _=>first | exact h.elim | cases h
theorem qv (S:BX w0 X β s a w) {t tx ty:TypeId} {u:T} (hu:u=(TI t).elem) (hT:∀t,HU P t (TI t)) (ht:(TI t).sl=true) (hx:(TI tx).sl=true)
  {base:Option Addr} {cap:Nat} {id:Nat} {l l2:List (el u)} (hlc:l.length<=cap) (hcm:cap<=maxLen)
  (hb:cap=0\/∃b arr e',β id=some b/\live (AP s.bk) id/\base=some ⟨b,0,none⟩/\w.heap[b]? =some (.cells arr e' (0,0))/\cap*u.size<=arr.size/\
   ∀(i:Nat) (y:el u),l[i]? =some y->∃us,rep w (cx X w β (AP s.bk)).I u y us/\w.rangeAt b (i*u.size) us)
  {c:AC} (hr:Ba (cx X w β (AP s.bk)) c x) (hsn:G1 (AP s.bk) c (.sl u l2)) (hfit:fits (l.length+l2.length) (TI t).Eg)
  {dst:Option Nat} {vv:Nat} {rd:List Nat} (hid:id<s.bk.length\/dst=some id/\base=none/\cap=0) (hvv:vv=BA (AP s.bk) id+1):
  ∃v' w' β',(Builtin.append_ #[t,tx] ty #[.slice base l.length cap,x]).run P w= .ok v' w'/\
   BX w0 X β' (s.app dst ⟨.one (.AU u id vv 0 (l++l2).length),[(id,.arr vv u (l++l2))],rd⟩) (a.put dst v') w':=by
 obtain⟨ht,ei,z,hi,hsize,hby,hpos,hz,g6⟩:=(hT t).sl ht;obtain⟨hx,_⟩:=(hT tx).sl hx;subst hu;have hzs:z.cells.size=(TI t).elem.size:=by have:=(g6 (cx X w β (AP s.bk))).length;rw[KS] at this;simpa using this.symm
 obtain⟨news,hs,hrows⟩:=qt S hx hr hsn;have hnl:=hs.newsLen;have hbl:(l.length+l2.length)*ei.bytes<=140737488355328:=hby ▸ hfit;have h47:l.length+l2.length<=140737488355328:=Nat.le_trans (Nat.le_mul_of_pos_right _ hpos) hbl;have hlen:(l++l2).length=l.length+l2.length:=List.length_append
 have fin:∀{LO:Option Addr} {cap':Nat} {w':World} {o o':Option Nat},Dz w w' o->(id<s.bk.length\/dst=some id/\o=none)->(o=none\/o=β id/\live (AP s.bk) id)->(∀b,o'=some b->(β id=some b/\live (AP s.bk) id)\/w.heap.size<=b)->(l++l2).length<=cap'->cap'<=maxLen->
   (∀{I':PI},(∀o b,(cx X w β (AP s.bk)).I o b->I' o b/\w'.heap[b]? =w.heap[b]?)->(cap'=0/\o'=none)\/∃b arr e,o'=some b/\LO=some ⟨b,0,none⟩/\w'.heap[b]? =some (.cells arr e (0,0))/\cap'*(TI t).elem.size<=arr.size/\∃fl,De w' I' (TI t).elem (l++l2) fl/\w'.rangeAt b 0 fl)->
   ∃β',BX w0 X β' (s.app dst ⟨.one (.AU (TI t).elem id vv 0 (l++l2).length),[(id,.arr vv (TI t).elem (l++l2))],rd⟩) (a.put dst (.slice LO (l++l2).length cap')) w':=by
  intro LO cap' w' o o' F h0 h1 h2 h3 h4 h5;refine S.write h0 (by show (l++l2).length<=_;omega) F h1 (.inl (by show _<vv;omega)) (fun _=>h2) fun y hle hw hy hv _=>?_
  subst hw;rcases h5 hle.I with⟨h5,h6⟩ |⟨b,arr,e,h5,h6,h7,h8,fl,h9,h10⟩
  ·exact⟨.inl ⟨hy.trans h6,List.eq_nil_of_length_eq_zero AA⟩,.inr ⟨⟨rfl,Nat.le_of_eq hv.symm⟩,fun _=>⟨_,_,rfl,h3,h4,nofun,.inl h5⟩⟩⟩
  exact⟨.inr ⟨b,arr,e,hy.trans h5,h7,fun i z hz=>by simpa using U8 h9 h10 i z hz⟩,.inr ⟨⟨rfl,Nat.le_of_eq hv.symm⟩,fun _=>⟨_,_,rfl,h3,h4,nofun,.inr ⟨b,arr,e,hy.trans h5,by rw[h6];simp,h7,by simpa using h8⟩⟩⟩⟩
 have olds:∃fl,De w (cx X w β (AP s.bk)).I (TI t).elem l fl/\(cap=0\/∃b,base=some ⟨b,0,none⟩/\w.rangeAt b 0 fl):=by
  rcases hb with h |⟨b,arr,e',h1,_,h2,h3,h4,h5⟩
  ·exact⟨[],(List.eq_nil_of_length_eq_zero AA:l=[]) ▸ rfl,.inl h⟩
  obtain⟨fl,q1,q2⟩:=U7 (off:=0) (fun i y hy=>by simpa using h5 i y hy);exact⟨fl,q1,.inr ⟨b,h2,q2⟩⟩
 obtain⟨olds,ho1,ho2⟩:=olds;have hs':Src P ei.size tx x l2.length news w:=hsize ▸ hs
 by_cases hroom:l.length+l2.length<=cap
 ·rcases hb with rfl |⟨b,arr,e',hbid,hlive,rfl,hh,hsz,hrow⟩
  ·obtain rfl:l2=[]:=List.eq_nil_of_length_eq_zero AA;obtain rfl:news=[]:=List.eq_nil_of_length_eq_zero (by simpa using hnl);have hrun:=run_append_nothing (P:=P) w t tx ty _ ei ht hi base l.length 0 hlc x hs';obtain⟨β',S'⟩:=fin (LO:=base) (o:=none) (o':=none) .rfl (hid.imp_right fun h=>⟨h.1,rfl⟩) (.inl rfl) nofun AA hcm fun _=> .inl ⟨rfl,rfl⟩
   exact⟨_,w,β',hrun,by simpa using S'⟩
  have hfit:0+l.length*(TI t).elem.size+news.length<=arr.size:=by
   have:(l.length+l2.length)*(TI t).elem.size<=cap*(TI t).elem.size:=Nat.mul_le_mul_right _ hroom;rw[Nat.add_mul] at this;omega
  have hth:=VS hh hfit;have hrun:=run_append_room_src (P:=P) w t tx ty _ ei ht hi b 0 l.length cap x l2.length news hs' hroom (fun j hj=>by rw[hsize];exact (hth j hj).1) (fun j hj=>by rw[hsize];exact (hth j hj).2);rw[hsize] at hrun;obtain⟨arr',q1,_,q3⟩:=OI b news (0+l.length*(TI t).elem.size) w arr e' hh
  obtain⟨β',S'⟩:=fin (LO:=some ⟨b,0,none⟩) (o':=some b) (Dz.set news _ w) (hid.imp_right fun h=>nomatch h.2.1) (.inr ⟨hbid.symm,hlive⟩) (fun k hk=> .inl ⟨hbid.trans hk,hlive⟩) AA hcm fun hI=> .inr ⟨b,arr',e',rfl,rfl,q1,AA,olds++news,(De.mono hI ho1).append (De.mono hI hrows),Uo.2 ⟨by
   rcases ho2 with rfl |⟨b',e,h⟩
   ·rw[(List.eq_nil_of_length_eq_zero (by rw[ho1.length,(AA:l.length=0),Nat.zero_mul]):olds=[])];intro j v hj;simp at hj
   cases e;exact cp (fun m hm=> .inl (by rw[ho1.length] at hm;omega)) h,by rw[ho1.length];exact cn hh hfit⟩⟩
  exact⟨_,_,β',hrun,by rw[<-hlen];exact S'⟩
 have hold:(Builtin.firstCells ei.size l.length (.slice base l.length cap)).run P w.drew= .ok olds.toArray w.drew:=by
  rcases ho2 with rfl |⟨b,rfl,hr⟩
  ·have h0:l.length=0:=AA
   have:olds=[]:=List.eq_nil_of_length_eq_zero (by rw[ho1.length,h0,Nat.zero_mul]);rw[this,h0];cases base with
   | none=>exact run_firstCells_none w.drew ei.size 0 0 0
   | some ad=>exact run_firstCells_some w.drew ei.size 0 ad 0 0 [] Ai (fun j u hu=>by simp at hu)
  exact run_firstCells_some w.drew ei.size l.length _ l.length cap olds (by rw[ho1.length,hsize]) fun j u hu=>by rw[Addr.add_mid];simpa using hr j u hu
 have hrun:=run_append_grow_src (P:=P) w t tx ty _ ei z ht hi hz base l.length cap olds hold x l2.length news hs' AA AA (growslice_fits AA hbl);have hge:=grownCap_ge w (l.length+l2.length) cap (TI t).C8;have hle:=grownCap_le_maxLen w (l.length+l2.length) cap (TI t).C8 (by unfold maxLen;omega)
 generalize grownCap w (l.length+l2.length) cap (TI t).C8=c' at hrun hge hle
 generalize harr:(olds++news).toArray++Builtin.zeroCells z.cells (c'-(l.length+l2.length))=arr at hrun
 have hsz:arr.size=c'*(TI t).elem.size:=by
  rw[<-harr,Array.size_append,size_zeroCells,hzs,List.size_toArray,List.length_append,ho1.length,hnl,<-Nat.add_mul,<-Nat.add_mul]
  congr 1;omega
 obtain⟨β',S'⟩:=fin (LO:=some ⟨w.heap.size,0,none⟩) (o:=none) (o':=some w.heap.size) (Dz.push (w':=w.drew.alloc (.cells arr (TI t).C8)) rfl rfl rfl rfl) (hid.imp_right fun h=>⟨h.1,rfl⟩) (.inl rfl) (fun b hb=> .inr (by cases hb;exact Nat.le_refl _)) (by rw[hlen];exact hge) hle
  fun hI=> .inr ⟨w.heap.size,arr,(TI t).C8,rfl,rfl,heap_alloc_new w.drew _,Nat.le_of_eq hsz.symm,olds++news,(De.mono hI ho1).append (De.mono hI hrows),fun j v hj=>by
   rw[Nat.zero_add];refine (World.cell?_alloc_new w.drew _ _ j).trans ?_;rw[<-harr,Array.getElem?_append_left (by simpa using H8 hj)];simpa using hj⟩
 exact⟨_,_,β',hrun,by rw[<-hlen];exact S'⟩
end
end Go.Abs
