/- Part 2 of a proof. Conditions: each theorem's own. -/
import Derived.Test.YtmifleedghiimaaGreatDoorRbM
import Derived.WalkKit
import Derived.Deep.MidRow
import Derived.ArgAppend
import Derived.Laws.Cover3
import Derived.Laws.IdiomStrings
import Derived.Laws.Tables
import Derived.Great.BuildSlice
import Derived.DataShut
import Derived.Deep.AppendSrc
import Derived.Deep.Upon
set_option linter.all false
set_option maxHeartbeats 80000000
set_option maxRecDepth 20000
namespace Go.Abs
 inductive T
  | u8 | u32 | u64 | i8 | i64 | bool | sl (t:T) | pr (a b:T)
  | str | ex | rf (t:T)
 inductive Ex
  | mk (op:Int) (v:(Bool×List UInt32)×(Bool×List UInt32)) (name:ByteArray) (args:List Ex)
def Ex.op:Ex->Int
 | .mk o _ _ _=>o
def Ex.v:Ex->(Bool×List UInt32)×(Bool×List UInt32)
 | .mk _ v _ _=>v
def Ex.name:Ex->ByteArray
 | .mk _ _ s _=>s
def Ex.args:Ex->List Ex
 | .mk _ _ _ l=>l
abbrev el:T->Type
 | .u8=>UInt8 | .u32=>UInt32 | .u64=>UInt64 | .i8=>Int | .i64=>Int | .bool=>Bool
 | .sl t=>List (el t) | .pr a b=>el a×el b
 | .str=>ByteArray | .ex=>Ex | .rf t=>el t
def T.size:T->Nat
 | .pr a b=>a.size+b.size
 | .ex=>7
 | _=>1
def T.beq:T->T->Bool
 | .u8,.u8=>true | .u32,.u32=>true | .u64,.u64=>true | .i8,.i8=>true | .i64,.i64=>true | .bool,.bool=>true
 | .sl a,.sl b=>a.beq b
 | .pr a b,.pr c d=>a.beq c&&b.beq d
 |.str,.str|.ex,.ex=>true
 | .rf a,.rf b=>a.beq b
 | _,_=>false
def T.agg:T->Bool
 |.pr _ _|.ex=>true
 | _=>false
 inductive AC
  | Cb | int (k:IntKind) (n:Int) | bool (b:Bool) | fn (f:FuncId) | nil
  | sl (t:T) (l:List (el t))
  | Aj (t:T) (id BP off len:Nat)
  | Ow (t:T) (id BP off len:Nat)
  | BU (id BP off:Nat)
  | JZ (t:T) (id BP i k:Nat)
  | DM (t:T) (x:el t) (off:Nat)
  | ub (e:Bool)
  | own (t:T) (l:List (el t)) (n:Nat)
  | IS (f:FuncId) (ps:List (Nat×Nat))
  | GA (f:FuncId) (qs:List ((t:T)×el t))
  | str (s:ByteArray)
  | LX (ps:List (Nat×Nat×Nat))
  | Ma (p:Nat×Nat×Nat)
 inductive AV
  | one (c:AC) | agg (cs:List AC) | BI (xs:List (Bool×List AC))
 inductive BD
  | var (BP:Nat) (cs:List AC)
  | arr (BP:Nat) (t:T) (l:List (el t))
  | dead (BP:Nat)
def BD.BP:BD->Nat
 | .var v _=>v | .arr v _ _=>v | .dead v=>v
def cells:(t:T)->el t->List AC
 | .u8,x=>[.int .u8 x.toNat]
 | .u32,x=>[.int .u32 x.toNat]
 | .u64,x=>[.int .u64 x.toNat]
 | .i8,x=>[.int .i8 x]
 | .i64,x=>[.int .i64 x]
 | .bool,x=>[.bool x]
 | .sl t,l=>[.sl t l]
 | .pr a b,x=>cells a x.1++cells b x.2
 | .str,x=>[.str x]
 | .rf t,x=>[.DM t x 0]
 | .ex,x=>[.int .i64 x.op,.bool x.v.1.1,.sl .u32 x.v.1.2,.bool x.v.2.1,.sl .u32 x.v.2.2,.str x.name,.sl .ex x.args]
structure EN (n:Int) (k:Nat):Prop where
 eq:n=k
 le:k<=140737488355328
structure AZ (n:Int) (k:Nat):Prop where
 eq:n=k
structure QP (n:Int) (x:UInt8):Prop where
 eq:n=x.toNat
structure OV (n:Int) (x:UInt32):Prop where
 eq:n=x.toNat
structure lf (n:Int) (x:UInt64):Prop where
 eq:n=x.toNat
def M5:(t:T)->el t->(List AC->Prop)->Prop
 | .u8,x,K=>∀n,QP n x->K [.int .u8 n]
 | .u32,x,K=>∀n,OV n x->K [.int .u32 n]
 | .u64,x,K=>∀n,lf n x->K [.int .u64 n]
 | .i8,x,K=>K [.int .i8 x]
 | .i64,x,K=>K [.int .i64 x]
 | .bool,x,K=>K [.bool x]
 | .sl t,l,K=>K [.sl t l]
 | .pr a b,x,K=>M5 a x.1 fun l=>M5 b x.2 fun m=>K (l++m)
 | .str,x,K=>K [.str x]
 | .rf t,x,K=>K [.DM t x 0]
 | .ex,x,K=>K [.int .i64 x.op,.bool x.v.1.1,.sl .u32 x.v.1.2,.bool x.v.2.1,.sl .u32 x.v.2.2,.str x.name,.sl .ex x.args]
def Q8:∀(t:T) (x:el t) (K:List AC->Prop),M5 t x K↔K (cells t x)
 |.u8,x,K|.u32,x,K|.u64,x,K=>⟨fun h=>h _ ⟨rfl⟩,fun h n d=>by rw[d.eq];exact h⟩
 |.i8,_,_|.i64,_,_|.bool,_,_|.sl _,_,_|.str,_,_|.ex,_,_|.rf _,_,_=>Iff.rfl
 | .pr a b,x,K=>by
  show M5 a x.1 _↔_
  rw[Q8 a x.1,Q8 b x.2]
  rfl
def HA:Bool×List AC->AV
 | (true,cs)=> .agg cs
 | (false,c::_)=> .one c
 | (false,[])=> .one .Cb
def AV.cs:AV->List AC
 | .one c=>[c]
 | .agg cs=>cs
 | .BI _=>[]
def AV.full:AV->Bool
 | .one .Cb=>false
 |.one _|.agg _=>true
 | .BI _=>false
def AV.comp:AV->Bool×List AC
 | .one c=>(false,[c])
 | .agg cs=>(true,cs)
 | .BI _=>(false,[])
def comp (t:T) (x:el t):Bool×List AC:=(t.agg,cells t x)
def Zg (t:T) (x:el t):AV:=HA (comp t x)
structure St where
 sl:List AV
 bk:List (Option BD)
def nth:List AV->Nat->AV
 | [],_=> .one .Cb
 | a::_,0=>a
 | _::l,n+1=>nth l n
def AR:List (Option BD)->Nat->Option BD
 | [],_=>none
 | a::_,0=>a
 | _::l,n+1=>AR l n
def DH {α:Type}:List α->Nat->α->List α
 | [],_,_=>[]
 | _::l,0,x=>x::l
 | a::l,n+1,x=>a::DH l n x
def BP (bk:Nat->Option BD) (id:Nat):Nat:=
 match bk id with
 | some b=>b.BP
 | none=>0
structure Info where
 known:Bool:=true
 size:Nat:=1
 agg:Bool:=false
 zero:List AC:=[]
 kind:Option IntKind:=none
 KN:Bool:=false
 Ia:Bool:=false
 pt:Bool:=false
 arr:Option (Nat×Nat×Bool):=none
 sl:Bool:=false
 Dq:TypeId:=0
 elem:T:= .bool
 Cg:el elem
 FQ:Nat:=0
 fields:List (Nat×Nat×Bool):=[]
def VM:Value->AV
 | .int k n=> .one (.int k n)
 | .bool b=> .one (.bool b)
 | .slice none 0 0=> .one .nil
 | .string s=> .one (.str s)
 | _=> .one .Cb
def GI:Nat->Option ((t:T)×el t)
 | 0=>some ⟨.pr .i64 (.pr .i64 (.pr .i64 .i64)),(1,0,3,2)⟩
 | _=>none
def ev (s:List AV):Operand->AV
 | .tmp t=>nth s t
 | .const v=>VM v
 | .func f=> .one (.fn f)
 | .global g=>match GI g with
  | some q=> .one (.DM q.1 q.2 0)
  | none=> .one .Cb
structure D4 where
 v:AV
 ws:List (Nat×BD):=[]
 rd:List Nat:=[]
def Ej (n:Int):Prop:= -9223372036854775808<=n/\n<9223372036854775808
def fits (n b:Nat):Prop:=n*b<=140737488355328
def arith (op:BinOp) (k:IntKind) (a b:Int) (K:AC->Prop):Prop:=
 match op,k with
 | .add,.i64=>∀c,c=a+b->(Unit->Ej c)/\K (.int .i64 c)
 | .sub,.i64=>∀c,c=a-b->(Unit->Ej c)/\K (.int .i64 c)
 | .mul,.i64=>∀c,c=a*b->(Unit->Ej c)/\K (.int .i64 c)
 | .quo,.i64=>∀c,c=a/b->(Unit->0<=a/\0<b/\Ej c)/\K (.int .i64 c)
 | .rem,.i64=>∀c,c=a%b->(Unit->0<=a/\0<b)/\K (.int .i64 c)
 | .add,k=>∀c,c=k.wrap (a+b)->K (.int k c)
 | .sub,k=>∀c,c=k.wrap (a-b)->K (.int k c)
 | .mul,k=>∀c,c=k.wrap (a*b)->K (.int k c)
 | .quo,k=>∀c,c=k.wrap (a/b)->(Unit->0<=a/\0<b)/\K (.int k c)
 | .rem,k=>∀c,c=a%b->(Unit->0<=a/\0<b)/\K (.int k c)
 | .and,k=>∀c,c=k.wrap (BitVec.ofInt k.bits a &&& BitVec.ofInt k.bits b).toNat->K (.int k c)
 | .or,k=>∀c,c=k.wrap (BitVec.ofInt k.bits a ||| BitVec.ofInt k.bits b).toNat->K (.int k c)
 | .xor,k=>∀c,c=k.wrap (BitVec.ofInt k.bits a ^^^ BitVec.ofInt k.bits b).toNat->K (.int k c)
 | .andNot,k=>∀c,c=k.wrap (BitVec.ofInt k.bits a &&& ~~~ BitVec.ofInt k.bits b).toNat->K (.int k c)
 | .shl,k=>∀c,c=k.wrap (a*2^min b.toNat k.bits)->(Unit->0<=b)/\K (.int k c)
 | .shr,k=>∀c,c=a.fdiv (2^min b.toNat k.bits)->(Unit->0<=b)/\K (.int k c)
 | .eql,_=>∀c,c=(a==b)->K (.bool c)
 | .neq,_=>∀c,c=(a !=b)->K (.bool c)
 | .lss,_=>∀c,c=decide (a<b)->K (.bool c)
 | .leq,_=>∀c,c=decide (a<=b)->K (.bool c)
 | .gtr,_=>∀c,c=decide (a>b)->K (.bool c)
 | .geq,_=>∀c,c=decide (a >= b)->K (.bool c)
def Ft (cs:List AC):Nat->Nat->List AC
 | 0,n=>cs.take n
 | off+1,n=>match cs with
  | []=>[]
  | _::cs=>Ft cs off n
def Dw {α:Type}:List α->Nat->List α->List α
 | cs,0,[]=>cs
 | [],0,_::_=>[]
 | _::cs,0,x::xs=>x::Dw cs 0 xs
 | [],_+1,_=>[]
 | c::cs,off+1,xs=>c::Dw cs off xs
def ld (i:Info) (cs:List AC) (off:Nat):AV:=HA (i.agg,Ft cs off i.size)
def Pz (bk:Nat->Option BD):List (Nat×Nat)->List ((t:T)×el t)->Prop
 | [],[]=>True
 | p::r,q::m=>bk p.1=some (.var p.2 (cells q.1 q.2))/\Pz bk r m
 | _,_=>False
def IE (bk:Nat->Option BD):AC->AC->Prop
 | .Aj t id v off len,c=>∃l,bk id=some (.arr v t l)/\off+len<=l.length/\c= .sl t ((l.drop off).take len)
 | .nil,c=>c= .nil\/∃t,c= .sl t []
 | .int k n,c=>c= .int k n
 | .bool b,c=>c= .bool b
 | .fn f,c=>c= .fn f
 | .sl t l,c=>c= .sl t l
 | .IS f ps,c=>(∃qs,Pz bk ps qs/\c= .GA f qs)\/c= .Cb
 | .BU id v off,c=>off=0/\∃(t:T) (x:el t),bk id=some (.var v (cells t x))/\c= .DM t x 0
 | .str s,c=>c= .str s
 | .GA f qs,c=>c= .GA f qs
 | _,_=>False
def Gc:AC->AC->Prop
 | .nil,c=>c= .nil\/∃t,c= .sl t []
 | .int k n,c=>c= .int k n
 | .bool b,c=>c= .bool b
 | .fn f,c=>c= .fn f
 | .sl t l,c=>c= .sl t l
 | .DM t y o,c=>c= .DM t y o
 | .str s,c=>c= .str s
 | .GA f qs,c=>c= .GA f qs
 | _,_=>False
def Xp (bk:Nat->Option BD) (t0:T):AC->AC->Prop
 | .Aj t id v off len,c=>t=t0/\∃l,bk id=some (.arr v t l)/\off+len<=l.length/\c= .sl t ((l.drop off).take len)
 | c,d=>Gc c d
def MF (t0:T):T->Bool
 | .sl t=> !(T.beq t0 t)&&MF t0 t
 | .pr a b=>MF t0 a&&MF t0 b
 |.ex|.rf _=>false
 | _=>true
def bx (t0:T):AC->Bool
 |.int _ _|.bool _|.fn _|.nil|.str _=>true
 | .sl t _=>MF t0 (.sl t)
 | _=>false
def E2 (R:AC->AC->Prop):List AC->List AC->Prop
 | [],[]=>True
 | a::l,b::m=>R a b/\E2 R l m
 | _,_=>False
def leV (R:AC->AC->Prop):AV->AV->Prop
 | .one a,.one b=>R a b
 | .agg l,.agg m=>E2 R l m
 | _,_=>False
def Fy (R:AC->AC->Prop):List AV->List AV->Prop
 | [],[]=>True
 | a::l,b::m=>leV R a b/\Fy R l m
 | _,_=>False
def DJ:AC->List Nat
 | .Aj _ id _ _ _=>[id]
 | .IS _ ps=>ps.map (·.1)
 | .BU id _ _=>[id]
 | _=>[]
def DS:List AV->List Nat
 | []=>[]
 | .one c::r=>DJ c++DS r
 | .agg cs::r=>cs.flatMap DJ++DS r
 | .BI _::r=>DS r
def cI (d v:Nat):AC->AC
 | .own t _ n=> .Aj t d v 0 n
 | c=>c
def AV.map (g:AC->AC):AV->AV
 | .one c=> .one (g c)
 | .agg cs=> .agg (cs.map g)
 | .BI xs=> .BI (xs.map fun x=>(x.1,x.2.map g))
def NW (d v:Nat):AV->AV:= .map (cI d v)
def Pd (d v:Nat):List AC->List (Nat×BD)
 | []=>[]
 | .own t l _::_=>[(d,.arr v t l)]
 | _::r=>Pd d v r
def AV.cells:AV->List AC
 | .one c=>[c]
 | .agg cs=>cs
 | .BI xs=>xs.flatMap (·.2)
def MW (d v:Nat) (r:AV):List (Nat×BD):=Pd d v r.cells
abbrev Con:=Bool->FuncId->List AV->AV->Prop
abbrev kW:=FuncId->AC->BD->List AV->AV->BD->Prop
abbrev kX:=FuncId->List AV->BD->AV->Prop
abbrev kY:=FuncId->List AV->BD->AV->BD->Prop
structure Env where
 C:Con
 B:kW
 D:kX
 W:kY
def Ji (id v:Nat):AC->AC->Prop
 | .Aj t i w off len,c=>(i=id/\w=v)/\c= .Aj t 0 0 off len
 | .BU i w off,c=>(i=id/\w=v)/\c= .BU 0 0 off
 | .nil,c=>c= .nil\/∃t,c= .sl t []
 | .int k n,c=>c= .int k n
 | .bool b,c=>c= .bool b
 | .fn f,c=>c= .fn f
 | .sl t l,c=>c= .sl t l
 | .str s,c=>c= .str s
 | _,_=>False
def SG (bk:Nat->Option BD) (id v:Nat):AC->AC->Prop
 | .BU i w off,c=>Ji id v (.BU i w off) c\/((i≠id/\off=0)/\∃o,bk i=some (.var w [.BU id v o])/\c= .Ma (0,0,o))
 | c,d=>Ji id v c d
def oZ (bk:Nat->Option BD) (l2:List Nat) (p:Nat×Nat):((t:T)×el t)->Prop
 |⟨.rf t,x⟩=>∃id v,id∈l2/\bk p.1=some (.var p.2 [.BU id v 0])/\bk id=some (.var v (cells t x))
 | q=>bk p.1=some (.var p.2 (cells q.1 q.2))
def P0 (bk:Nat->Option BD) (l2:List Nat):List (Nat×Nat)->List ((t:T)×el t)->Prop
 | [],[]=>True
 | p::r,q::m=>oZ bk l2 p q/\P0 bk l2 r m
 | _,_=>False
def Xo (bk:Nat->Option BD) (l2:List Nat):AC->AC->Prop
 | .IS f ps,c=>∃qs,P0 bk l2 ps qs/\c= .GA f qs
 | c,d=>IE bk c d
def Ja (places:List (Nat×Nat×Bool)) (e:Operand->AV):List (Nat×Operand)->List AC->Option (List AC)
 | [],cs=>some cs
 | (i,x)::r,cs=>match places[i]? with
  | some (off,n,_)=>if (e x).cs.length=n/\(e x).full=true/\off+n<=cs.length then Ja places e r (Dw cs off (e x).cs) else none
  | none=>none
def XZ (id v:Nat):AC->AC
 | .Aj t _ _ off len=> .Aj t id v off len
 | .BU _ _ off=> .BU id v off
 | .JZ t _ _ i k=> .JZ t id v i k
 | c=>c
def uw (id v:Nat):AV->AV:= .map (XZ id v)
def BD.FZ (v:Nat):BD->BD
 | .var _ cs=> .var v cs
 | .arr _ t l=> .arr v t l
 | .dead _=> .dead v
def uu:AC->Option (Nat×Nat)
 |.Aj _ id v _ _|.BU id v _=>some (id,v)
 | _=>none
def T.flat:T->Bool
 | .sl _=>false
 | .pr a b=>a.flat&&b.flat
 |.ex|.rf _=>false
 | _=>true
def qT:BD->Bool
 | .arr _ t _=>t.flat
 | _=>false
def KO:AC->Bool
 |.int _ _|.bool _|.fn _|.nil|.Aj _ 0 0 _ _|.str _=>true
 | _=>false
def AV.all (p:AC->Bool):AV->Bool
 | .one c=>p c
 | .agg cs=>cs.all p
 | .BI xs=>xs.all fun x=>x.2.all p
def ET:AC->Bool
 | .Cb=>true | .int _ _=>true | .bool _=>true | .fn _=>true | .nil=>true | .sl _ _=>true
 | .DM _ _ _=>true | .GA _ _=>true
 | .str _=>true
 | _=>false
def Oc (E:Env) (g:FuncId) (args:List AV) (d:Nat) (bk:Nat->Option BD) (K:D4->Prop):Prop:=
 (∃args' r,(Unit->Fy Gc args args')/\(Unit->E.C false g args' r)/\
  K ⟨NW d (BP bk d+1) r,MW d (BP bk d+1) r,[d]⟩)\/
 (∃args' r,(Unit->Fy (IE bk) args args')/\(Unit->E.C true g args' r)/\
  K ⟨NW d (BP bk d+1) r,MW d (BP bk d+1) r,d::DS args⟩)\/
 (match args with
  | .one c::rest=>match uu c with
   | some (id,v)=>match bk id with
    | some b=>if b.BP=v then ∃args' r b1,(Unit->id ∉ DS rest/\Fy (IE bk) rest args')/\(Unit->E.B g (XZ 0 0 c) (b.FZ 0) args' r b1/\qT b1=true/\r.all KO=true)/\
     K ⟨uw id v r,[(id,b1.FZ v)],id::DS rest⟩ else False
    | none=>False
   | none=>False
  | _=>False)\/
 (∃(id:Nat) (b:BD) (args':List AV) (r:AV),(Unit->bk id=some b/\Fy (Ji id b.BP) args args')/\(Unit->E.D g args' (b.FZ 0) r)/\K ⟨r,[],[id]⟩)\/
 (∃(id:Nat) (b:BD) (args':List AV) (r:AV),(Unit->(id≠0/\bk id=some b/\((DS args).all fun k=>k==id)=true)/\Fy (IE bk) args args')/\(Unit->E.C false g args' r/\r.all ET=true)/\K ⟨r,[(id,.dead b.BP)],[id]⟩)
 \/False
 \/(∃(id:Nat) (b:BD) (args':List AV) (r:AV) (b1:BD),(Unit->bk id=some b/\Fy (Ji id b.BP) args args')/\(Unit->E.W g args' (b.FZ 0) r b1)/\K ⟨r,[(id,b1.FZ b.BP)],[id]⟩)
 \/(∃(l2:List Nat) (args':List AV) (r:AV),(Unit->Fy (Xo bk l2) args args')/\(Unit->E.C true g args' r)/\K ⟨NW d (BP bk d+1) r,MW d (BP bk d+1) r,d::(DS args++l2)⟩)
 \/(∃(id:Nat) (b:BD) (args':List AV) (r:AV) (b1:BD),(Unit->bk id=some b/\Fy (SG bk id b.BP) args args')/\(Unit->E.W g args' (b.FZ 0) r b1)/\K ⟨r,[(id,b1.FZ b.BP)],id::DS args⟩)
 \/(∃(t0:T) (args':List AV) (r:AV),(Unit->Fy (Xp bk t0) args args')/\(Unit->E.C false g args' r/\r.all (bx t0)=true)/\K ⟨r,[],DS args⟩)
def Ix (TI:TypeId->Info) (b:Builtin) (tys:List TypeId) (args:List AV) (d:Nat) (bk:Nat->Option BD) (K:D4->Prop):Prop:=
 match b,tys,args with
 | .len,[t0],[.one (.sl _ l)]=>(TI t0).sl=true/\∀n,EN n l.length->K ⟨.one (.int .i64 n),[],[]⟩
 |.len,[t0],[.one (.Ow _ id v _ len)]|.len,[t0],[.one (.Aj _ id v _ len)]=>(TI t0).sl=true/\if BP bk id=v then ∀n,AZ n len->K ⟨.one (.int .i64 n),[],[id]⟩ else False
 | .len,[t0],[.one .nil]=>(TI t0).sl=true/\K ⟨.one (.int .i64 0),[],[]⟩
 | .len,[t0],[.one (.LX ps)]=>(TI t0).pt=true/\∀n,AZ n ps.length->K ⟨.one (.int .i64 n),[],[]⟩
 | .len,[t0],[.one (.str s)]=>(TI t0).Ia=true/\∀n,AZ n s.size->K ⟨.one (.int .i64 n),[],[]⟩
 | .cap,[t0],[.one .nil]=>(TI t0).sl=true/\K ⟨.one (.int .i64 0),[],[]⟩
 | .min,_,[.one (.int k a),.one (.int _ b)]=>∀c,c=(if b<a then b else a)->K ⟨.one (.int k c),[],[]⟩
 | .max,_,[.one (.int k a),.one (.int _ b)]=>∀c,c=(if b>a then b else a)->K ⟨.one (.int k c),[],[]⟩
 | .append,[t0,t1],[.one .nil,.one x]=>
  ((TI t0).sl=true/\(TI t1).sl=true)/\∃l2:List (el (TI t0).elem),(Unit->IE bk x (.sl _ l2)/\fits l2.length (TI t0).FQ)/\
    ∀n,n=l2.length->K ⟨.one (.Aj (TI t0).elem d (BP bk d+1) 0 n),[(d,.arr (BP bk d+1) _ l2)],d::DJ x⟩
 | .append,[t0,t1],[.one (.Ow t id v off len),.one x]=>
  ((TI t0).sl=true/\(TI t1).sl=true)/\match bk id with
    | some (.arr v' t' l)=>if v'=v/\T.beq t' t=true/\T.beq t' (TI t0).elem=true then
     ∃l2:List (el t'),(Unit->off=0/\len<=l.length/\IE bk x (.sl _ l2)/\fits (len+l2.length) (TI t0).FQ)/\
      ∀l' n,(l'=l.take len++l2/\n=l'.length)->K ⟨.one (.Aj t' id (v+1) 0 n),[(id,.arr (v+1) t' l')],id::DJ x⟩
     else False
    | _=>False
 | .append,[t0,t1],[.one (.Aj t id v off len),.one x]=>
  ((TI t0).sl=true/\(TI t1).sl=true)/\match bk id with
    | some (.arr v' t' l)=>if v'=v/\T.beq t' t=true/\T.beq t' (TI t0).elem=true then
     ∃l2:List (el t'),(Unit->off=0/\len=l.length/\IE bk x (.sl _ l2)/\fits (l.length+l2.length) (TI t0).FQ)/\
      ∀l' n,(l'=l++l2/\n=l'.length)->K ⟨.one (.Aj t' id (v+1) 0 n),[(id,.arr (v+1) t' l')],id::DJ x⟩
     else False
    | _=>False
 | _,_,_=>False
def Nz (K:D4->Prop) (f:D4):Prop:=
 match f.v,f.ws with
 | .one (.Aj t id v off n),[(i,.arr v' t' l)]=>if (id !=0&&id==i&&v==v'&&off==0&&T.beq t t')=true then (Unit->n=l.length)/\K ⟨.one (.sl t' l),[(id,.dead v)],f.rd⟩ else False
 | _,_=>False
def Qb (TI:TypeId->Info) (b:Builtin) (tys:List TypeId) (args:List AV) (d:Nat) (bk:Nat->Option BD) (K:D4->Prop):Prop:=
 match b with
 | .append=>Ix TI b tys args d bk K\/Ix TI b tys args d bk (Nz K)\/False
 | _=>Ix TI b tys args d bk K
def Uh:List (Nat×List AC)->Nat->List (List AC)->Prop
 | [],_,[]=>True
 | p::r,k,x::m=>p.1=k/\E2 Gc p.2 x/\Uh r (k+1) m
 | _,_,_=>False
def KA (len:Nat) (lo hi mx:Option AV) (K:Nat->Nat->Bool->Prop):Prop:=
 match lo,hi,mx with
 | none,none,none=>∀h,h=len->K 0 h false
 | some (.one (.int _ a)),none,none=>(Unit->0<=a/\a.toNat<=len)/\∀l h,(l=a.toNat/\h=len)->K l h false
 | none,some (.one (.int _ b)),none=>(Unit->0<=b/\b.toNat<=len)/\∀h,h=b.toNat->K 0 h false
 | some (.one (.int _ a)),some (.one (.int _ b)),none=>(Unit->0<=a/\a<=b/\b.toNat<=len)/\∀l h,(l=a.toNat/\h=b.toNat)->K l h false
 | none,some (.one (.int _ b)),some (.one (.int _ m))=>(Unit->0<=b/\b=m/\m.toNat<=len)/\∀h,h=b.toNat->K 0 h true
 | _,_,_=>False
def Qk (bk:Nat->Option BD) (u:T) (x:AV) (lo hi mx:Option AV) (K:D4->Prop):Prop:=
 match x with
 | .one (.sl t l)=>T.beq t u=true/\∀n,n=l.length->KA n lo hi mx fun a b _=>∀l',l'=(l.take b).drop a->K ⟨.one (.sl t l'),[],[]⟩
 | .one (.Aj t id v off len)=>T.beq t u=true/\if BP bk id=v then KA len lo hi mx fun a b c=>∀o n,(o=off+a/\n=b-a)->
  match c with | true=>K ⟨.one (.Ow t id v o n),[],[id]⟩ | false=>K ⟨.one (.Aj t id v o n),[],[id]⟩
  else False
 | .one .nil=>KA 0 lo hi mx fun _ _ _=>K ⟨.one .nil,[],[]⟩
 | _=>False
def Qy:List AV->Option (List (Nat×Nat))
 | []=>some []
 | .one (.BU id v 0)::r=>match Qy r with
  | some ps=>some ((id,v)::ps)
  | none=>none
 | _::_=>none
def Zd (n s:Nat) (g:Bool):List (Nat×Nat×Bool):=(List.range n).map fun i=>(i*s,s,g)
def Sp:List AV->Option (List (Nat×Nat×Nat))
 | []=>some []
 | .one (.BU id v o)::r=>match Sp r with
  | some ps=>some ((id,v,o)::ps)
  | none=>none
 | _::_=>none
def GY (E:Env) (TI:TypeId->Info) (o:Oper) (d:Nat) (e:Operand->AV) (bk:Nat->Option BD) (K:D4->Prop):Prop:=
 match o.op with
 |.move x|.assign x=>K ⟨e x,[],[]⟩
 | .nilCheck x=>match e x with
  | .one (.BU id v off)=>if BP bk id=v then K ⟨e x,[],[id]⟩ else False
  |.one (.fn _)|.one (.GA _ _)|.one (.DM _ _ _)=>K ⟨e x,[],[]⟩
  | _=>False
 | .pick c a b=>match e c with
  | .one (.bool true)=>K ⟨e a,[],[]⟩
  | .one (.bool false)=>K ⟨e b,[],[]⟩
  | _=>False
 | .alloc t=>(TI t).known=true/\K ⟨.one (.BU d (BP bk d+1) 0),[(d,.var (BP bk d+1) (TI t).zero)],[d]⟩
 | .box _ x=>match e x with
  |.BI _|.one .Cb=>False
  | v=>K ⟨.one (.BU d (BP bk d+1) 0),[(d,.var (BP bk d+1) v.cs)],[d]⟩
 | .extract t i=>match e t with
  | .BI xs=>match xs[i]? with
   | some x=>K ⟨HA x,[],[]⟩
   | none=>False
  | _=>False
 | .load t a=>(TI t).known=true/\match e a with
  | .one (.BU id v off)=>match bk id with
   | some (.var v' cs)=>if v'=v/\(Ft cs off (TI t).size).length=(TI t).size then K ⟨ld (TI t) cs off,[],[id]⟩ else False
   | _=>False
  | .one (.DM t' x off)=>M5 t' x fun cs=>if (Ft cs off (TI t).size).length=(TI t).size then K ⟨ld (TI t) cs off,[],[]⟩ else False
  | .one (.Ma p)=>(TI t).agg=false/\K ⟨.one (.BU p.1 p.2.1 p.2.2),[],[]⟩
  | .one (.JZ t' id v i k)=>match bk id with
   | some (.arr v' u l)=>if v'=v/\T.beq t' u=true then ∃x:el u,(Unit->l[i]? =some x)/\M5 u x fun cs=>
    if (Ft cs k (TI t).size).length=(TI t).size then K ⟨ld (TI t) cs k,[],[id]⟩ else False
    else False
   | _=>False
  | _=>False
 | .store t a x=>(TI t).known=true/\match e a with
  | .one (.BU id v off)=>match bk id,e x with
   |_,.BI _|_,.one .Cb=>False
   | some (.var v' cs),y=>if v'=v/\y.cs.length=(TI t).size/\off+(TI t).size<=cs.length then
    K ⟨.one .Cb,[(id,.var v (Dw cs off y.cs))],[id]⟩ else False
   | _,_=>False
  | .one (.JZ t' id v i k)=>match bk id,e x with
   |_,.BI _|_,.one .Cb=>False
   | some (.arr v' u l),y=>if v'=v/\k=0/\(TI t).size=u.size/\T.beq t' u=true then
    ∃z:el u,(Unit->i<l.length/\E2 Gc y.cs (cells u z))/\∀l',l'=l.set i z->K ⟨.one .Cb,[(id,.arr v u l')],[id]⟩
    else if v'=v/\k+(TI t).size<=u.size/\T.beq t' u=true then
    ∃(x:el u) (z:el u),(Unit->l[i]? =some x/\y.cs.length=(TI t).size/\E2 Gc (Dw (cells u x) k y.cs) (cells u z))/\∀l',l'=l.set i z->K ⟨.one .Cb,[(id,.arr v u l')],[id]⟩
    else False
   | _,_=>False
  | _=>False
 | .fieldAddr s x f=>(TI s).known=true/\match (TI s).fields[f]?,e x with
  | some (fo,_,_),.one (.BU id v off)=>if BP bk id=v then K ⟨.one (.BU id v (off+fo)),[],[id]⟩ else False
  | some (fo,_,_),.one (.DM t y off)=>K ⟨.one (.DM t y (off+fo)),[],[]⟩
  | some (fo,_,_),.one (.JZ t id v i k)=>if BP bk id=v then K ⟨.one (.JZ t id v i (k+fo)),[],[id]⟩ else False
  | _,_=>False
 | .field s x f=>(TI s).known=true/\match (TI s).fields[f]?,e x with
  | some (fo,n,g),.agg cs=>if (Ft cs fo n).length=n then K ⟨HA (g,Ft cs fo n),[],[]⟩ else False
  | _,_=>False
 | .build t parts=>match (TI t).arr with
  | some q=>(TI t).known=true/\match Ja (Zd q.1 q.2.1 q.2.2) e parts.toList (TI t).zero with
   | some cs=>K ⟨.agg cs,[],[]⟩
   | none=>False
  | none=>((TI t).known=true/\(TI t).fields.isEmpty=false)/\match Ja (TI t).fields e parts.toList (TI t).zero with
  | some cs=>K ⟨.agg cs,[],[]⟩
  | none=>False
 | .buildSlice t len parts=>match (TI t).pt with
  | true=>match Sp (parts.toList.map fun p=>e p.2) with
   | some ps=>(Unit->ps.length=len/\len<=524288/\parts.toList.map (·.1)=List.range len)/\K ⟨.one (.LX ps),[],[]⟩
   | none=>False
  | false=>(TI t).sl=true/\(TI t).elem.size<=32/\∃xs:List (el (TI t).elem),
   (Unit->xs.length=len/\len<=524288/\(parts.toList.all fun p=>(e p.2).full)=true/\Uh (parts.toList.map fun p=>(p.1,(e p.2).cs)) 0 (xs.map (cells _)))/\
   (K ⟨.one (.Aj (TI t).elem d (BP bk d+1) 0 len),[(d,.arr (BP bk d+1) _ xs)],[d]⟩\/K ⟨.one (.sl (TI t).elem xs),[],[]⟩)
 | .makeSlice t l c=>(TI t).sl=true/\match e l,e c with
  | .one (.int _ n),.one (.int _ m)=>(Unit->0<=n/\n<=m/\fits m.toNat (TI t).FQ)/\
   ∀k z,(k=n.toNat/\z=List.replicate k (TI t).Cg)->K ⟨.one (.Aj (TI t).elem d (BP bk d+1) 0 k),[(d,.arr (BP bk d+1) _ z)],[d]⟩
  | _,_=>False
 | .indexAddr t x i=>match (TI t).pt with
  | true=>match e x,e i with
   | .one (.LX ps),.one (.int _ n)=>∃p,(Unit->0<=n/\ps[n.toNat]? =some p)/\K ⟨.one (.Ma p),[],[]⟩
   | _,_=>False
  | false=>match (TI t).arr with
   | some q=>match e x,e i with
    | .one (.BU id v off),.one (.int _ n)=>if BP bk id=v then (Unit->0<=n/\n.toNat<q.1)/\K ⟨.one (.BU id v (off+n.toNat*q.2.1)),[],[id]⟩ else False
    | .one (.DM t' y off),.one (.int _ n)=>∃(u:T) (z:el u),(Unit->(0<=n/\n.toNat<q.1)/\cells u z=Ft (cells t' y) (off+n.toNat*q.2.1) q.2.1)/\K ⟨.one (.DM u z 0),[],[]⟩
    | _,_=>False
   | none=>(TI t).sl=true/\match e x,e i with
  | .one (.sl t' l),.one (.int _ n)=>T.beq t' (TI t).elem=true/\∃x,(Unit->0<=n/\l[n.toNat]? =some x)/\K ⟨.one (.DM t' x 0),[],[]⟩
  | .one (.Aj t' id v off len),.one (.int _ n)=>T.beq t' (TI t).elem=true/\if BP bk id=v then (Unit->0<=n/\n.toNat<len)/\∀j,j=off+n.toNat->K ⟨.one (.JZ t' id v j 0),[],[id]⟩ else False
  | _,_=>False
 | .slice t x lo hi mx=>match e x with
  | .one (.str s)=>(TI t).Ia=true/\∀n,n=s.size->KA n (lo.map e) (hi.map e) (mx.map e) fun a b c=>c=false/\∀z,z=s.extract a b->K ⟨.one (.str z),[],[]⟩
  | X=>(TI t).sl=true/\Qk bk (TI t).elem X (lo.map e) (hi.map e) (mx.map e) K
 | .index t x i=>match (TI t).arr with
  | some q=>match e x,e i with
   | .agg cs,.one (.int _ n)=>(Unit->0<=n/\n.toNat<q.1)/\if (Ft cs (n.toNat*q.2.1) q.2.1).length=q.2.1 then K ⟨HA (q.2.2,Ft cs (n.toNat*q.2.1) q.2.1),[],[]⟩ else False
   | _,_=>False
  | none=>(TI t).Ia=true/\match e x,e i with
  | .one (.str s),.one (.int _ n)=>∃b:UInt8,(Unit->0<=n/\s.data[n.toNat]? =some b)/\∀z,QP z b->K ⟨.one (.int .u8 z),[],[]⟩
  | _,_=>False
 | .binOp op bt x y _=>match e x,e y with
  | .one (.int k a),.one (.int k' b)=>if k=k'\/op= .shl\/op= .shr then arith op k a b fun c=>K ⟨.one c,[],[]⟩ else False
  | .one (.bool a),.one (.bool b)=>(TI bt).KN=true/\match op with
   | .eql=>∀c,c=(a==b)->K ⟨.one (.bool c),[],[]⟩
   | .neq=>∀c,c=(a !=b)->K ⟨.one (.bool c),[],[]⟩
   | _=>False
  | .one (.sl _ l),.one .nil=>(TI bt).sl=true/\match op with
   | .eql=>∀c,c=l.isEmpty->K ⟨.one (.ub c),[],[]⟩
   | _=>False
  | .one (.str a),.one (.str b)=>match op with
   | .eql=>∀c,c=(a.toList==b.toList)->K ⟨.one (.bool c),[],[]⟩
   | .neq=>∀c,c=(!(a.toList==b.toList))->K ⟨.one (.bool c),[],[]⟩
   | .add=>(Unit->a.size+b.size<=9223372036854775807)/\∀c,c=a++b->K ⟨.one (.str c),[],[]⟩
   | _=>False
  | _,_=>False
 | .unOp op _ x=>match op,e x with
  | .not,.one (.bool b)=>∀c,c= !b->K ⟨.one (.bool c),[],[]⟩
  | .neg,.one (.int k n)=>∀c,c=k.wrap (0-n)->K ⟨.one (.int k c),[],[]⟩
  | _,_=>False
 | .convert src dst x=>(TI src).known=true/\match (TI dst).kind,e x with
  | some k,.one (.int _ n)=>∀c,c=k.wrap n->K ⟨.one (.int k c),[],[]⟩
  | none,.one c=>(TI dst).Ia=true/\(TI src).sl=true/\(TI (TI src).Dq).kind=some .u8/\∃l:List UInt8,(Unit->c= .sl .u8 l)/\∀z,z=ByteArray.mk l.toArray->K ⟨.one (.str z),[],[]⟩
  | _,_=>False
 | .makeFunc fn first captured=>match fn,first.toList,Qy (captured.toList.map e) with
  | .func f,[],some ps=>K ⟨.one (.IS f ps),[],[]⟩
  | _,_,_=>False
 | .call c=>match c.callee with
  | .builtin b=>Qb TI b c.argTypes.toList (c.args.toList.map e) d bk K
  | .value f=>match e f with
   | .one (.fn g)=>Oc E g (c.args.toList.map e) d bk K
   | .one (.GA g qs)=>Oc E g (c.args.toList.map e++qs.map fun q=> .one (.DM q.1 q.2 0)) d bk K
   | .one (.IS g ps)=>Oc E g (c.args.toList.map e++ps.map fun p=> .one (.BU p.1 p.2 0)) d bk K
   | _=>False
  | .invoke _ _=>False
 | _=>False
def GC:List (Nat×BD)->List (Option BD)->List (Option BD)
 | [],b=>b
 | w::r,b=>GC r (DH b w.1 (some w.2))
def Gx (l:List AV):Option Nat->AV->List AV
 | some d,v=>DH l d v
 | none,_=>l
def St.app (s:St) (d:Option Nat) (f:D4):St:=⟨Gx s.sl d f.v,GC f.ws s.bk⟩
def DU (o:Oper):Nat:=o.dst.getD 1000000
abbrev Tr:=List (List Nat×List Nat)
def LA (ops:List Oper) (j:Nat):Option Nat:=(ops[j]?).bind (·.dst)
def uF (o:Oper):List Nat:=o.op.operands.toList.filterMap fun | .tmp t=>some t | _=>none
def KS (ops:List Oper) (o:Oper):List Nat:=
 o.dst.toList++uF o++(match o.guard with | some (j,_)=>(LA ops j).toList | none=>[])
def GX (o:Oper):List Nat:=(o.after.toList.filter fun e=>Region.binds .any e).map (·.on)
def H2:List Oper->List (List Nat)->List (List Nat)
 | [],acc=>acc
 | o::r,acc=>H2 r (acc++[(GX o).flatMap fun j=>j::acc.getD j []])
def O1 (a b:List Nat):Bool:=a.all fun x=> !b.contains x
def Of (ops:List Oper) (oi oj:Oper) (ti tj:List Nat×List Nat):Bool:=
 O1 oi.dst.toList (KS ops oj)&&O1 oj.dst.toList (KS ops oi)&&
 O1 ti.2 (tj.1++tj.2)&&O1 tj.2 ti.1
def ef (ops:List Oper) (tr:Tr) (bs:List (List Nat)):Bool:=
 (List.range ops.length).all fun j=>(List.range j).all fun i=>
  (bs.getD j []).contains i||
   (match ops[i]?,ops[j]?,tr[i]?,tr[j]? with
    | some oi,some oj,some ti,some tj=>Of ops oi oj ti tj
    | _,_,_,_=>false)
def Zi (ops:List Oper):Bool:=
 (List.range ops.length).all fun j=>match ops[j]? with | some o=>(GX o).all fun i=>decide (i<j) | none=>true
def LQ (ops:List Oper) (tr:Tr):Bool:=Zi ops&&ef ops tr (H2 ops [])
def JF (E:Env) (TI:TypeId->Info) (all:List Oper) (draw:Bool):List Oper->Tr->(St->Prop)->St->Prop
 | [],tr,Q,s=>match draw with
  | false=>Q s
  | true=>(Unit->LQ all tr.reverse=true)/\Q s
 | o::r,tr,Q,s=>match o.guard with
  | none=>GY E TI o (DU o) (ev s.sl) (AR s.bk) fun f=>JF E TI all draw r ((f.rd,f.ws.map (·.1))::tr) Q (s.app o.dst f)
  | some (j,w)=>match LA all j with
   | none=>False
   | some g=>match nth s.sl g,w with
    |.one (.bool true),true|.one (.bool false),false=>GY E TI o (DU o) (ev s.sl) (AR s.bk) fun f=>JF E TI all draw r ((f.rd,f.ws.map (·.1))::tr) Q (s.app o.dst f)
    |.one (.bool true),false|.one (.bool false),true|.BI [],_=>JF E TI all draw r (([],[])::tr) Q (s.app o.dst ⟨.BI [],[],[]⟩)
    | _,_=>False
 inductive AX
  | Ew | exit (n:Nat) | ret
def MQ (bk:Nat->Option BD) (bs:List Nat):AC->AC
 | .Aj t id v off len=>if bs.contains id&&BP bk id==v then .Aj t id 0 off len else .Cb
 | .BU id v off=>if bs.contains id&&BP bk id==v then .BU id 0 off else .Cb
 | .JZ t id v i k=>if bs.contains id&&BP bk id==v then .JZ t id 0 i k else .Cb
 |.Ow _ _ _ _ _|.IS _ _=> .Cb
 | .LX ps=>if (ps.all fun p=>bs.contains p.1&&BP bk p.1==p.2.1)=true then .LX (ps.map fun p=>(p.1,0,p.2.2)) else .Cb
 | .Ma _=> .Cb
 | c=>c
def Sc (bk:Nat->Option BD) (bs:List Nat):AV->AV
 | .one c=> .one (MQ bk bs c)
 | .agg cs=> .agg (cs.map (MQ bk bs))
 | .BI _=> .one .Cb
def Pc (bk:Nat->Option BD) (bs:List Nat):BD->BD
 | .var _ cs=> .var 0 (cs.map (MQ bk bs))
 | .arr _ t l=> .arr 0 t l
 | .dead _=> .dead 0
def Hk (s:St) (bs:List Nat):List Nat->List AV
 | []=>[]
 | k::r=>Sc (AR s.bk) bs (nth s.sl k)::Hk s bs r
def H8 (s:St) (bs:List Nat):List Nat->List BD
 | []=>[]
 | k::r=>(match AR s.bk k with | some b=>if k==0&&b.BP !=0 then .dead 0 else Pc (AR s.bk) bs b | none=> .dead 0)::H8 s bs r
def KU:List Nat->List AV->List AV->List AV
 | k::ks,v::vs,l=>KU ks vs (DH l k v)
 | _,_,l=>l
def LY:List Nat->List BD->List (Option BD)->List (Option BD)
 | k::ks,v::vs,l=>LY ks vs (DH l k (some v))
 | _,_,l=>l
def HF {α:Type}:Nat->α->List α
 | 0,_=>[]
 | n+1,x=>x::HF n x
def MP (n:Nat) (ks:List Nat) (vs:List AV) (bs:List Nat) (bl:List BD):St:=
 ⟨KU ks vs (HF n (.one .Cb)),LY bs bl (HF n none)⟩
def M7 (s:St):List (Nat×T×Bool)->St
 | []=>s
 | (k,t,b)::r=>M7 (match nth s.sl k,b with
  | .one .nil,false=>⟨DH s.sl k (.one (.sl t [])),s.bk⟩
  | .one .nil,true=>⟨DH s.sl k (.one (.Aj t k (BP (AR s.bk) k+1) 0 0)),DH s.bk k (some (.arr (BP (AR s.bk) k+1) t []))⟩
  | .one (.Aj t id v 0 n),false=>match AR s.bk id with
   | some (.arr v' t' l)=>if (id !=0&&v==v'&&T.beq t t')=true then⟨DH s.sl k (if n=l.length then .one (.sl t' l) else .one .Cb),DH s.bk id (some (.dead v))⟩ else s
   | _=>s
  | .one (.Aj t id v o n),true=>match AR s.bk id with
   | some (.arr v' t' l)=>if (id !=0&&(k !=0&&(id !=k&&v==v')))=true then⟨DH s.sl k (.one (.Aj t k (BP (AR s.bk) k+1) o n)),DH (DH s.bk id (some (.dead v))) k (some (.arr (BP (AR s.bk) k+1) t' l))⟩ else s
   | _=>s
  | _,_=>s) r
def NQ:Code->Bool
 |.skip|.region _ _ _=>true
 | .seq a b=>NQ a&&NQ b
 | .cond _ a b=>NQ a||NQ b
 |.block _ _|.loop _=>true
 | _=>false
def EO (E:Env) (TI:TypeId->Info) (n:Nat):Code->(AX->St->Prop)->St->Prop
 | .skip,Q,s=>Q .Ew s
 | .region _ ops draw,Q,s=>JF E TI ops.toList draw ops.toList [] (Q .Ew) s
 | .seq a b,Q,s=>EO E TI n a (fun e s=>match e with | .Ew=>EO E TI n b Q s | .exit i=>Q (.exit i) s | .ret=>Q .ret s) s
 | .cond c a b,Q,s=>match NQ a&&NQ b with
  | true=>(∃(ks bs:List Nat) (J:List AV->List BD->Prop),(∀vs bl,J vs bl->Q .Ew (MP n ks vs bs bl))/\
    match ev s.sl c with
    | .one (.bool true)=>EO E TI n a (fun e s'=>match e with | .Ew=>J (Hk s' bs ks) (H8 s' bs bs) | .exit i=>Q (.exit i) s' | .ret=>Q .ret s') s
    | .one (.bool false)=>EO E TI n b (fun e s'=>match e with | .Ew=>J (Hk s' bs ks) (H8 s' bs bs) | .exit i=>Q (.exit i) s' | .ret=>Q .ret s') s
    | .one (.ub u)=>(u=true->EO E TI n a (fun e s'=>match e with | .Ew=>J (Hk s' bs ks) (H8 s' bs bs) | .exit i=>Q (.exit i) s' | .ret=>Q .ret s') s)/\
     EO E TI n b (fun e s'=>match e with | .Ew=>J (Hk s' bs ks) (H8 s' bs bs) | .exit i=>Q (.exit i) s' | .ret=>Q .ret s') s
    | _=>False)\/
   (match ev s.sl c with
   | .one (.bool true)=>EO E TI n a Q s
   | .one (.bool false)=>EO E TI n b Q s
   | .one (.ub u)=>(u=true->EO E TI n a Q s)/\EO E TI n b Q s
   | _=>False)
  | false=>match ev s.sl c with
   | .one (.bool true)=>EO E TI n a Q s
   | .one (.bool false)=>EO E TI n b Q s
   | .one (.ub u)=>(u=true->EO E TI n a Q s)/\EO E TI n b Q s
   | _=>False
 | .block id c,Q,s=>(∃(ks bs:List Nat) (J:List AV->List BD->Prop),(∀vs bl,J vs bl->Q .Ew (MP n ks vs bs bl))/\
   EO E TI n c (fun e s'=>match e with | .exit i=>if i=id then J (Hk s' bs ks) (H8 s' bs bs) else Q (.exit i) s' | .Ew=>J (Hk s' bs ks) (H8 s' bs bs) | .ret=>Q .ret s') s)\/
  EO E TI n c (fun e s=>match e with | .exit i=>if i=id then Q .Ew s else Q (.exit i) s | .Ew=>Q .Ew s | .ret=>Q .ret s) s
 | .loop c,Q,s=>∃(cv:List (Nat×T×Bool)) (ks bs:List Nat) (J:List AV->List BD->Nat->Prop),
  (∃k,J (Hk (M7 s cv) bs ks) (H8 (M7 s cv) bs bs) k)/\∀vs bl k,J vs bl k->
   EO E TI n c (fun e s'=>match e with
    | .Ew=>∃k',k'<k/\J (Hk s' bs ks) (H8 s' bs bs) k'
    | .exit i=>Q (.exit i) s' | .ret=>Q .ret s') (MP n ks vs bs bl)
 | .exit i,Q,s=>Q (.exit i) s
 | .ret,Q,s=>Q .ret s
 | _,_,_=>False
def KY (bk:Nat->Option BD):AC->AC->Prop
 | .Aj t id v off len,c=>(∃l,bk id=some (.arr v t l)/\off+len<=l.length/\c= .sl t ((l.drop off).take len))\/
  (∃l n,id≠0/\bk id=some (.arr v t l)/\off=0/\len=l.length/\n=l.length/\c= .own t l n)\/
  (id=0/\v=0/\c= .Aj t 0 0 off len)
 | .nil,c=>c= .nil\/(∃t,c= .sl t [])\/∃t,c= .own t [] 0
 | .int k n,c=>c= .int k n
 | .bool b,c=>c= .bool b
 | .fn f,c=>c= .fn f
 | .sl t l,c=>c= .sl t l
 | .str s,c=>c= .str s
 | _,_=>False
def Me (bk:Nat->Option BD):List (Bool×List AC)->List (Bool×List AC)->Prop
 | [],[]=>True
 | a::l,b::m=>(a.1=b.1/\E2 (KY bk) a.2 b.2)/\Me bk l m
 | _,_=>False
def I8:AC->Bool
 | .own _ _ _=>true
 | _=>false
def LG:AC->Bool
 |.Aj _ _ _ _ _|.own _ _ _=>true
 | _=>false
def fC (src:List (Bool×List AC)) (res:List (Bool×List AC)):Bool:=
 match (res.flatMap (·.2)).filter I8 with
 | []=>true
 | [_]=>((src.flatMap (·.2)).filter LG).length<=1
 | _=>false
def AV.KE:AV->List (Bool×List AC)
 | .BI xs=>xs
 | v=>[v.comp]
def gE (TI:TypeId->Info) (s:St):ResultVar->Option (Bool×List AC)
 | .tmp t=>some (nth s.sl t).comp
 | .cell a t=>match nth s.sl a with
  | .one (.BU id v off)=>match AR s.bk id with
   | some (.var v' cs)=>if (TI t).known&&v'==v&&(Ft cs off (TI t).size).length==(TI t).size then some ((TI t).agg,Ft cs off (TI t).size) else none
   | _=>none
  | _=>none
def Lc (TI:TypeId->Info) (s:St):List ResultVar->Option (List (Bool×List AC))
 | []=>some []
 | r::rs=>match gE TI s r,Lc TI s rs with
  | some x,some xs=>some (x::xs)
  | _,_=>none
def Nj:AC->Bool
 | .Aj _ 0 _ _ _=>false
 | _=>true
def XG (TI:TypeId->Info) (rs:List ResultVar) (r:AV) (b0:BD) (e:AX) (s:St):Prop:=
 match e with
 | .exit _=>False
 | _=>match Lc TI s rs with
  | some xs=>(Unit->(Me (AR s.bk) xs r.KE/\(xs.all fun x=>x.2.all Nj)=true/\(rs.length=1↔∀ys,r≠ .BI ys))/\AR s.bk 0=some b0)
  | none=>False
def post (TI:TypeId->Info) (rs:List ResultVar) (r:AV) (b1:Option BD) (e:AX) (s:St):Prop:=
 match e with
 | .exit _=>False
 | _=>match Lc TI s rs with
  | some xs=>(Unit->Me (AR s.bk) xs r.KE/\fC xs r.KE=true/\(rs.length=1↔∀ys,r≠ .BI ys))/\
   (match b1 with | none=>True | some b=>Unit->AR s.bk 0=some b)
  | none=>False
def Fa (n:Nat) (args:List AV) (b0:Option BD):St:=
 ⟨args++HF (n-args.length) (.one .Cb),match n with | 0=>[] | n+1=>b0::HF n none⟩
open Go.RowKit
 inductive Bc {α β:Type} (R:α->β->Prop):List α->List β->Prop
  | nil:Bc R [] []
  | cons {a:α} {b:β} {l:List α} {m:List β}:R a b->Bc R l m->Bc R (a::l) (b::m)
section
variable {α β γ:Type} {R R':α->β->Prop} {l l':List α} {m m':List β}
def Bc.map {S:γ->β->Prop} {g:α->γ} {p:α->Bool} (h:∀a b,p a=true->R a b->S (g a) b) (e:l.all p=true) (r:Bc R l m):Bc S (l.map g) m:=by
 induction r with
 | nil=>exact .nil
 | cons q _ d=>rw[List.all_cons,Bool.and_eq_true] at e;exact .cons (h _ _ e.1 q) (d e.2)
def Bc.imp {p:α->Bool} (h:∀a b,p a=true->R a b->R' a b) (e:l.all p=true) (r:Bc R l m):Bc R' l m:=by
 have:=r.map (g:=fun c=>c) h e;rwa [List.map_id'] at this
def Bc.mono (h:∀a b,R a b->R' a b) (r:Bc R l m):Bc R' l m:=by
 induction r with
 | nil=>exact .nil
 | cons q _ d=>exact .cons (h _ _ q) d
def Bc.length (r:Bc R l m):l.length=m.length:=by induction r <;> simp_all
def Bc.get (r:Bc R l m):∀(i:Nat) (a:α),l[i]? =some a->∃b,m[i]? =some b/\R a b:=by
 induction r with
 | nil=>simp
 | cons q _ d=>intro i;cases i <;> simp_all
def Bc.append (r:Bc R l m) (s:Bc R l' m'):Bc R (l++l') (m++m'):=by
 induction r with
 | nil=>exact s
 | cons q _ d=>exact .cons q d
def Bc.W5:∀{l:List α} {m:List β},Bc R (l++l') m->∃m1 m2,m=m1++m2/\Bc R l m1/\Bc R l' m2
 | [],m,h=>⟨[],m,rfl,.nil,h⟩
 | _::_,_,.cons q r=>let ⟨m1,m2,e,d,f⟩:=Bc.W5 r;⟨_::m1,m2,by simp[e],.cons q d,f⟩
def Bc.drop (r:Bc R l m):∀n,Bc R (l.drop n) (m.drop n):=by
 induction r with
 | nil=>intro n;simp;exact .nil
 | cons q r d=>intro n;cases n with
  | zero=>exact .cons q r
  | succ n=>exact d n
def Bc.take (r:Bc R l m):∀n,Bc R (l.take n) (m.take n):=by
 induction r with
 | nil=>intro n;simp;exact .nil
 | cons q r d=>intro n;cases n with
  | zero=>exact .nil
  | succ n=>exact .cons q (d n)
end
def HI (R:AC->Value->Prop):AV->Value->Prop
 | .one c,v=>c= .Cb\/R c v
 | .agg cs,v=>∃arr,v= .agg arr/\Bc R cs arr.toList
 | .BI _,_=>False
def RV (R:AC->Value->Prop):AV->Value->Prop
 | .BI xs,v=>∃arr,v= .tuple arr/\Bc (fun y u=>HI R (HA y) u) xs arr.toList
 | a,v=>HI R a v
section
variable {R S:AC->Value->Prop} {g:AC->AC} {p:AC->Bool}
def HI.map (d:g .Cb= .Cb) (h:∀c v,p c=true->R c v->S (g c) v):∀(y:Bool×List AC) (u:Value),y.2.all p=true->HI R (HA y) u->HI S (HA (y.1,y.2.map g)) u
 | (true,_),_,e,⟨arr,a,b⟩=>⟨arr,a,b.map h e⟩
 | (false,[]),_,_,_=> .inl rfl
 | (false,c::_),_,e,b=>by
  rw[List.all_cons,Bool.and_eq_true] at e;exact b.imp (fun q=>by rw[show c=_ from q,d]) (h _ _ e.1)
def RV.map (d:g .Cb= .Cb) (h:∀c v,p c=true->R c v->S (g c) v) {r:AV} {v:Value} (e:r.all p=true) (b:RV R r v):RV S (r.map g) v:=by
 cases r with
 | one c=>exact HI.map d h (false,[c]) v (by simpa [AV.all] using e) b
 | agg cs=>exact HI.map d h (true,cs) v e b
 | BI xs=>obtain⟨arr,a,b⟩:=b;exact⟨arr,a,b.map (HI.map d h) e⟩
def AV.map_id:∀r:AV,r.map (fun c=>c)=r
 | .one _=>rfl
 | .agg cs=>congrArg AV.agg (List.map_id' cs)
 | .BI xs=>congrArg AV.BI AS
def RV.mono (h:∀c v,p c=true->R c v->S c v) {r:AV} {v:Value} (e:r.all p=true) (b:RV R r v):RV S r v:=by
 have:=RV.map (g:=fun c=>c) rfl h e b;rwa [AV.map_id] at this
def AV.all_true (r:AV):r.all (fun _=>true)=true:=by cases r <;> simp[AV.all]
def ZT {Q:AC->AC->Prop} {l m:List AC} {vs:List Value} (h:∀c∈l,∀d v,Q c d->R c v->S d v) (a:E2 Q l m) (b:Bc R l vs):Bc S m vs:=by
 induction b generalizing m with
 | nil=>cases m with
  | nil=>exact .nil
  | cons=>exact a.elim
 | cons q _ i=>cases m with
  | nil=>exact a.elim
  | cons=>exact .cons (h _ AS _ _ a.1 q) (i (fun c f=>h c (by simp[f])) a.2)
def Za {Q:AC->AC->Prop} {L:List Nat} (h:∀c,(∀i∈DJ c,i∈L)->∀d v,Q c d->R c v->S d v) (n:∀d,¬Q .Cb d) {l m:List AV} {vs:List Value} (j:∀i∈DS l,i∈L) (a:Fy Q l m) (b:Bc (RV R) l vs):Bc (RV S) m vs:=by
 induction b generalizing m with
 | nil=>cases m with
  | nil=>exact .nil
  | cons=>exact a.elim
 | @cons x _ _ _ q _ r=>cases m with
  | nil=>exact a.elim
  | cons y m=>
   refine .cons ?_ (r (fun i f=>j i ?_) a.2)
   ·have a:=a.1;cases x <;> cases y <;> first | exact a.elim | skip
    ·exact q.elim (fun e=>absurd a (by rw[e];exact n _)) fun q=> .inr (h _ (fun i f=>j i (by simp[DS,f])) _ _ a q)
    obtain⟨arr,e,q⟩:=q;exact⟨arr,e,ZT (fun c k=>h c fun i f=>j i (List.mem_append_left _ (List.mem_flatMap.2 ⟨c,k,f⟩))) a q⟩
   cases x <;> simp_all [DS]
end
def Lh:∀(cs:List AC) (off n:Nat),Ft cs off n=(cs.drop off).take n
 |_,0,_|[],_+1,_=>by simp[Ft]
 | _::cs,off+1,n=>by simpa [Ft] using Lh cs off n
def L6 (t:T):∀x:el t,(cells t x).length=t.size:=by
 induction t with
 | pr a b h k=>intro x;simp[cells,T.size,h,k]
 | _=>intro _;rfl
def T.size_pos (t:T):0<t.size:=by induction t <;> simp_all [T.size] <;> omega
abbrev PI:Type:=Option T->Nat->Prop
def anyI (I:PI) (b:Nat):Prop:=∃c,I c b
def TF (w:World) (I:PI) (l:List UInt32) (v:Value):Prop:=
 ∃base cap,[v]=[.slice base l.length cap]/\l.length<=cap/\l.length<=140737488355328/\
  (l=[]\/∃b off,base=some ⟨b,off,none⟩/\I (some .u32) b/\∀(i:Nat) (x:UInt32),l[i]? =some x->∃us,us=[Value.int .u32 x.toNat]/\w.rangeAt b (off+i*1) us)
 inductive JS (w:World) (I:PI):Ex->List Value->Prop
  | mk (y:Ex) (a b:Value) (base:Option Addr) (cap:Nat) (p off:Nat) (us:Nat->List Value):TF w I y.v.1.2 a->TF w I y.v.2.2 b->
   y.args.length<=cap->y.args.length<=140737488355328->(y.args=[]\/(base=some ⟨p,off,none⟩/\I (some .ex) p))->
   (∀(i:Nat) (x:Ex),y.args[i]? =some x->JS w I x (us i))->(∀(i:Nat) (x:Ex),y.args[i]? =some x->w.rangeAt p (off+i*7) (us i))->
   JS w I y [.int .i64 y.op,.bool y.v.1.1,a,.bool y.v.2.1,b,.string y.name,.slice base y.args.length cap]
def rep (w:World) (I:PI):(t:T)->el t->List Value->Prop
 | .u8,x,vs=>vs=[.int .u8 x.toNat]
 | .u32,x,vs=>vs=[.int .u32 x.toNat]
 | .u64,x,vs=>vs=[.int .u64 x.toNat]
 | .i8,x,vs=>vs=[.int .i8 x]
 | .i64,x,vs=>vs=[.int .i64 x]
 | .bool,x,vs=>vs=[.bool x]
 | .sl t,l,vs=>∃base cap,vs=[.slice base l.length cap]/\l.length<=cap/\l.length<=140737488355328/\
  (l=[]\/∃b off,base=some ⟨b,off,none⟩/\I (some t) b/\∀(i:Nat) (x:el t),l[i]? =some x->∃us,rep w I t x us/\w.rangeAt b (off+i*t.size) us)
 | .pr a b,x,vs=>∃v1 v2,vs=v1++v2/\rep w I a x.1 v1/\rep w I b x.2 v2
 | .str,x,vs=>vs=[.string x]
 | .ex,x,vs=>JS w I x vs
 | .rf t,x,vs=>∃b o us,vs=[.pointer (some ⟨b,o,none⟩)]/\anyI I b/\rep w I t x us/\w.rangeAt b o us
def Hn {α:Type} {a:Array α} {b:Nat} {o:α} (h:a[b]? =some o):b<a.size:=(Array.getElem?_eq_some_iff.1 h).1
def Jd {α:Type} {l:List α} {j:Nat} {v:α} (h:l[j]? =some v):j<l.length:=(List.getElem?_eq_some_iff.1 h).1
section
variable {w w':World} {I I':PI} {c:AC} {v:Value}
def rangeAt_of_block {b o:Nat} {vs:List Value} (h:w'.heap[b]? =w.heap[b]?) (d:w.rangeAt b o vs):w'.rangeAt b o vs:=
 fun j v f=>(World.cell?_of_block (w:=w) (a:=⟨b,o+j,none⟩) h).trans (d j v f)
def JS.mono (h:∀o b,I o b->I' o b/\w'.heap[b]? =w.heap[b]?) {x:Ex} {vs:List Value} (r:JS w I x vs):JS w' I' x vs:=by
 have u:∀{l:List UInt32} {v:Value},TF w I l v->TF w' I' l v:=fun⟨base,cap,e,j,k,C⟩=>⟨base,cap,e,j,k,C.imp id fun⟨b,off,hb,n,B⟩=>
  ⟨b,off,hb,(h _ b n).1,fun i x f=>let ⟨us,hu,D⟩:=B i x f;⟨us,hu,rangeAt_of_block (h _ b n).2 D⟩⟩⟩
 induction r with
 | mk y a b base cap p off us j k h3 z d _ A F=>
  refine .mk y a b base cap p off us (u j) (u k) h3 z (d.imp id fun q=>⟨q.1,(h _ p q.2).1⟩) F fun i x f=>?_
  rcases d with d | d
  ·simp[d] at f
  exact rangeAt_of_block (h _ p d.2).2 (A i x f)
def FY (h:∀o b,I o b->I' o b/\w'.heap[b]? =w.heap[b]?) (t:T):∀(x:el t) (vs:List Value),rep w I t x vs->rep w' I' t x vs:=by
 induction t with
 | sl t q=>exact fun _ _ ⟨base,cap,e,f,j,u⟩=>⟨base,cap,e,f,j,u.imp id fun⟨b,off,hb,d,r⟩=>
  ⟨b,off,hb,(h _ b d).1,fun i x z=>let ⟨us,hu,n⟩:=r i x z;⟨us,q x us hu,rangeAt_of_block (h _ b d).2 n⟩⟩⟩
 | pr a b A B=>exact fun _ _ ⟨v1,v2,e,f,j⟩=>⟨v1,v2,e,A _ v1 f,B _ v2 j⟩
 | ex=>exact fun _ _=>JS.mono h
 | rf t q=>exact fun _ _ ⟨b,o,us,e,⟨k,d⟩,n,ha⟩=>⟨b,o,us,e,⟨k,(h _ b d).1⟩,q _ us n,rangeAt_of_block (h _ b d).2 ha⟩
 | _=>exact fun _ _ h=>h
def Kh (w:World) (I:PI):Prop:=∀g q,GI g=some q->I none g/\∃us,rep w I q.1 q.2 us/\w.rangeAt g 0 us
def Kh.mono (h:∀o b,I o b->I' o b/\w'.heap[b]? =w.heap[b]?) (G:Kh w I):Kh w' I':=fun g q e=>
 let ⟨d,us,f,h3⟩:=G g q e
 ⟨(h _ g d).1,us,FY h _ _ _ f,rangeAt_of_block (h _ g d).2 h3⟩
def Kk (w:World) (o:Option Nat) (n off len:Nat) (full:Bool) (v:Value):Prop:=
 ∃base cap,v= .slice base len cap/\len<=cap/\cap<=maxLen/\(full=true->cap=len)/\
  (cap=0\/∃b arr e,o=some b/\base=some ⟨b,off*n,none⟩/\w.heap[b]? =some (.cells arr e (0,0))/\(off+cap)*n<=arr.size)
structure Cx where
 w:World
 β:Nat->Option Nat
 cv:Nat->Nat
 I:PI
 J:Nat->Prop
variable {x y:Cx}
def IK (x:Cx) (id BP:Nat) (v:Value) (A:Prop):Prop:=(v.oneCell'=true/\BP<=x.cv id)/\(BP=x.cv id->A)
def FD (x:Cx) (id BP off:Nat) (v:Value):Prop:=IK x id BP v (∃b,x.β id=some b/\v= .pointer (some ⟨b,off,none⟩))
def JQ (w:World) (I:PI) (q:(t:T)×el t) (off:Nat) (v:Value):Prop:=∃b o us,v= .pointer (some ⟨b,o+off,none⟩)/\anyI I b/\rep w I q.1 q.2 us/\w.rangeAt b o us
def JQ.mono (h:∀o b,I o b->I' o b/\w'.heap[b]? =w.heap[b]?) {q:(t:T)×el t} {o:Nat}:JQ w I q o v->JQ w' I' q o v:=
 fun⟨b,o,us,e,⟨k,d⟩,f,ha⟩=>⟨b,o,us,e,⟨k,(h _ b d).1⟩,FY h _ _ _ f,rangeAt_of_block (h _ b d).2 ha⟩
def Bw (x:Cx):AC->Value->Prop
 | .Cb,v=>v.oneCell'=true
 | .int k n,v=>v= .int k n
 | .bool b,v=>v= .bool b
 | .fn f,v=>v= .func (.func f) #[] #[]
 | .nil,v=>v= .slice none 0 0
 | .sl t l,v=>rep x.w x.I (.sl t) l [v]
 | .Aj t id BP off len,v=>IK x id BP v (Kk x.w (x.β id) t.size off len false v)
 | .Ow t id BP off len,v=>IK x id BP v (Kk x.w (x.β id) t.size off len true v)
 | .BU id BP off,v=>FD x id BP off v
 | .JZ t id BP i k,v=>FD x id BP (i*t.size+k) v
 | .ub e,v=>∃b:Bool,v= .bool b/\(b=true->e=true)
 | .DM t y off,v=>JQ x.w x.I ⟨t,y⟩ off v
 | .IS f ps,v=>∃us:Array Value,v= .func (.func f) #[] us/\Bc (fun p=>FD x p.1 p.2 0) ps us.toList
 | .GA f qs,v=>∃us:Array Value,v= .func (.func f) #[] us/\Bc (fun q=>JQ x.w x.I q 0) qs us.toList
 | .str s,v=>v= .string s
 | .LX ps,v=>∃b off cap us,v= .slice (some ⟨b,off,none⟩) ps.length cap/\ps.length<=cap/\x.J b/\Bc (fun p=>FD x p.1 p.2.1 p.2.2) ps us/\x.w.rangeAt b off us
 | .Ma p,v=>∃b o u,v= .pointer (some ⟨b,o,none⟩)/\x.J b/\FD x p.1 p.2.1 p.2.2 u/\x.w.rangeAt b o [u]
 | .own _ _ _,_=>False
def Bw.one (r:Bw x c v):v.oneCell'=true:=by
 cases c <;> first
  | exact r.1.1
  | exact r
  | exact r.elim
  | (rw[show v=_ from r];rfl)
  | (obtain⟨_,e,_⟩:=r;rw[e];rfl)
  | (obtain⟨_,_,e,_⟩:=r;rw[(List.cons.inj e).1];rfl)
  | (obtain⟨_,_,_,e,_⟩:=r;rw[e];rfl)
  | (obtain⟨_,_,_,_,e,_⟩:=r;rw[e];rfl)
def Bc.one {cs:List AC} {vs:List Value} (r:Bc (Bw x) cs vs):∀v∈vs,v.oneCell'=true:=by
 induction r with
 | nil=>simp
 | cons q _ f=>exact fun v d=>(List.mem_cons.1 d).elim (fun e=>e ▸ q.one) (f v)
def HV (x:Cx) (t:T):∀(y:el t) (vs:List Value),rep x.w x.I t y vs↔Bc (Bw x) (cells t y) vs:=by
 have one:∀{p:List Value->Prop} {c:AC} (vs:List Value),(∀v,p [v]↔Bw x c v)->(∀vs,p vs->vs.length=1)->(p vs↔Bc (Bw x) [c] vs):=fun vs d f=>by
  constructor
  ·intro h
   match vs,f _ h,h with
   | [v],_,h=>exact .cons ((d v).1 h) .nil
  rintro (_ |⟨q,_ | _⟩);exact (d _).2 q
 induction t with
 | sl t=>exact fun y vs=>one vs (fun _=>Iff.rfl) fun vs ⟨_,_,e,_⟩=>by rw[e];rfl
 | rf t=>exact fun y vs=>one vs (fun _=>⟨fun⟨b,o,us,e,r⟩=>⟨b,o,us,(List.cons.inj e).1,r⟩,fun⟨b,o,us,e,r⟩=>⟨b,o,us,congrArg (· :: []) e,r⟩⟩) fun vs ⟨_,_,_,e,_⟩=>by rw[e];rfl
 | pr a b B C=>
  intro y vs
  constructor
  ·rintro⟨v1,v2,rfl,d,f⟩
   exact ((B y.1 v1).1 d).append ((C y.2 v2).1 f)
  intro h;obtain⟨m1,m2,e,d,f⟩:=Bc.W5 h;exact⟨m1,m2,e,(B y.1 m1).2 d,(C y.2 m2).2 f⟩
 | ex=>
  intro y vs
  constructor
  ·rintro⟨_,a,b,base,cap,p,off,us,d,f,h3,n,k,J,K⟩
   exact .cons rfl (.cons rfl (.cons d (.cons rfl (.cons f (.cons rfl (.cons ⟨base,cap,rfl,h3,n,k.imp id fun q=>⟨p,off,q.1,q.2,fun i x A=>⟨us i,J i x A,K i x A⟩⟩⟩ .nil))))))
  rintro (_ |⟨e1,_ |⟨e2,_ |⟨d,_ |⟨D,_ |⟨f,_ |⟨F,_ |⟨⟨base,cap,G,h3,n,k⟩,_ | _⟩⟩⟩⟩⟩⟩⟩);cases e1;cases e2;cases D;cases F;cases G
  have key:∃(p off:Nat) (us:Nat->List Value),(y.args=[]\/(base=some ⟨p,off,none⟩/\x.I (some .ex) p))/\∀(i:Nat) (z:Ex),y.args[i]? =some z->JS x.w x.I z (us i)/\x.w.rangeAt p (off+i*7) (us i):=by
   rcases k with k |⟨p,off,g1,g2,H⟩
   ·exact⟨0,0,fun _=>[],.inl k,fun i z j=>by simp[k] at j⟩
   have u:∀i,∃us,∀z,y.args[i]? =some z->JS x.w x.I z us/\x.w.rangeAt p (off+i*7) us:=fun i=>by
    cases j:y.args[i]? with
    | none=>exact⟨[],fun z e=>by cases e⟩
    | some z=>obtain⟨us,q⟩:=H i z j;exact⟨us,fun z' e=>by cases e;exact q⟩
   exact⟨p,off,fun i=>Classical.choose (u i),.inr ⟨g1,g2⟩,fun i z j=>Classical.choose_spec (u i) z j⟩
  obtain⟨p,off,us,g1,g2⟩:=key;exact .mk y _ _ base cap p off us d f h3 n g1 (fun i z j=>(g2 i z j).1) fun i z j=>(g2 i z j).2
 | _=>exact fun y vs=>one vs (fun v=>⟨fun e=>(List.cons.inj e).1,fun e=>congrArg (· :: []) e⟩) fun vs e=>by rw[show vs=_ from e];rfl
def Ny (t:T) (y:el t) (vs:List Value) (h:rep w I t y vs):vs.length=t.size:=by
 rw[<-((HV ⟨w,fun _=>none,fun _=>0,I,I none⟩ t y vs).1 h).length,L6]
def u7 (t:T) (y:el t) (vs:List Value) (h:rep w I t y vs):∀v∈vs,v.oneCell'=true:=((HV ⟨w,fun _=>none,fun _=>0,I,I none⟩ t y vs).1 h).one
abbrev lU (x:Cx):AV->Value->Prop:=HI (Bw x)
abbrev C6 (x:Cx):AV->Value->Prop:=RV (Bw x)
def Dl (x:Cx) (id:Nat):BD->Prop
 | .dead _=>True
 | .var _ cs=>∃b arr e,x.β id=some b/\x.w.heap[b]? =some (.cells arr e (0,0))/\Bc (Bw x) cs arr.toList
 | .arr _ t l=>(x.β id=none/\l=[])\/∃b arr e,x.β id=some b/\x.w.heap[b]? =some (.cells arr e (0,0))/\
  ∀(i:Nat) (y:el t),l[i]? =some y->∃us,rep x.w x.I t y us/\x.w.rangeAt b (i*t.size) us
structure Cx.le (x y:Cx):Prop where
 cv:∀id,x.cv id<=y.cv id
 β:∀id,y.cv id=x.cv id->y.β id=x.β id
 size:∀id b arr e,y.cv id=x.cv id->x.β id=some b->x.w.heap[b]? =some (.cells arr e (0,0))->∃arr',y.w.heap[b]? =some (.cells arr' e (0,0))/\arr'.size=arr.size
 I:∀o b,x.I o b->y.I o b/\y.w.heap[b]? =x.w.heap[b]?
 J:∀b,x.J b->y.J b/\y.w.heap[b]? =x.w.heap[b]?
def IK.mono (h:x.le y) {id k:Nat} {A B:Prop} (q:IK x id k v A) (d:y.cv id=x.cv id->A->B):IK y id k v B:=by
 have:=h.cv id;obtain⟨⟨a,b⟩,c⟩:=q;exact⟨⟨a,AA⟩,fun e=>d AA (c AA)⟩
def FD.mono (h:x.le y) {i k o:Nat} (q:FD x i k o v):FD y i k o v:=IK.mono h q fun e ⟨b,p,r⟩=>⟨b,(h.β i e).trans p,r⟩
def Kk.mono (h:x.le y) {id k n off len:Nat} {f:Bool} (q:IK x id k v (Kk x.w (x.β id) n off len f v)):IK y id k v (Kk y.w (y.β id) n off len f v):=
 IK.mono h q fun r ⟨base,cap,e,u,z,hf,h3⟩=>⟨base,cap,e,u,z,hf,h3.imp (fun q=>q) fun⟨b,arr,j,hb,d,B,D⟩=>
  let ⟨i,A,C⟩:=h.size id b arr j r hb B
  ⟨b,i,j,(h.β id r).trans hb,d,A,AA⟩⟩
def ID (h:∀o b,x.I o b->y.I o b/\y.w.heap[b]? =x.w.heap[b]?) (e:ET c=true) (r:Bw x c v):Bw y c v:=by
 cases c <;> first
  | exact r
  | exact FY h _ _ _ r
  | exact JQ.mono h r
  | (obtain⟨us,e,r⟩:=r;exact⟨us,e,r.mono fun _ _=>JQ.mono h⟩)
  | cases e
def Bw.mono (h:x.le y) (r:Bw x c v):Bw y c v:=by
 cases c <;> first
  | exact ID h.I rfl r
  | exact FD.mono h r
  | exact Kk.mono h r
  | exact r
  | (obtain⟨us,e,r⟩:=r;exact⟨us,e,r.mono fun _ _=>FD.mono h⟩)
  | (obtain⟨b,o,c,us,e,j,d,f,i⟩:=r;exact⟨b,o,c,us,e,j,(h.J b d).1,f.mono fun _ _=>FD.mono h,rangeAt_of_block (h.J b d).2 i⟩)
  | (obtain⟨b,o,u,e,d,f,i⟩:=r;exact⟨b,o,u,e,(h.J b d).1,FD.mono h f,rangeAt_of_block (h.J b d).2 i⟩)
def C6.mono (h:x.le y) {a:AV} (r:C6 x a v):C6 y a v:=RV.mono (p:=fun _=>true) (fun _ _ _=>Bw.mono h) a.all_true r
def BD.live:BD->Bool
 | .dead _=>false
 | _=>true
def Dl.to {id k:Nat} {b:BD} (d:y.β k=x.β id) (hw:b.live=true->∀j,x.β id=some j->y.w.heap[j]? =x.w.heap[j]?) (n:∀v cs,b= .var v cs->∀us,Bc (Bw x) cs us->Bc (Bw y) cs us)
  (ha:∀v t l,b= .arr v t l->∀(z:el t) us,rep x.w x.I t z us->rep y.w y.I t z us) (r:Dl x id b):Dl y k b:=by
 cases b with
 | dead _=>trivial
 | var _ cs=>obtain⟨b,arr,e,f,h,h3⟩:=r;exact⟨b,arr,e,d.trans f,(hw rfl b f).trans h,n _ _ rfl _ h3⟩
 | arr _ t l=>exact r.imp (fun q=>⟨d.trans q.1,q.2⟩) fun⟨b,arr,e,f,h,h3⟩=>⟨b,arr,e,d.trans f,(hw rfl b f).trans h,fun i y' u=>
  let ⟨us,hu,A⟩:=h3 i y' u
  ⟨us,ha _ t l rfl y' us hu,rangeAt_of_block (hw rfl b f) A⟩⟩
def Dl.mono (h:x.le y) {id:Nat} {b:BD} (d:y.cv id=x.cv id) (hb:b.live=true->∀k,x.β id=some k->y.w.heap[k]? =x.w.heap[k]?) (r:Dl x id b):Dl y id b:=Dl.to (h.β id d) hb (fun _ _ _ _ q=>q.mono fun _ _=>Bw.mono h) (fun _ _ _ _=>FY h.I _) r
end
def ED {α:Type} (f:Nat->α) (i:Nat) (x:α) (k:Nat):α:=if k=i then x else f k
def Gh {α:Type} {f:Nat->α} {i:Nat} {x:α}:ED f i x i=x:=if_pos rfl
def Gi {α:Type} {f:Nat->α} {i k:Nat} {x:α} (h:k≠i):ED f i x k=f k:=if_neg h
def Nk:∀(l:List AV) (d:Nat) (v:AV) (i:Nat),nth (DH l d v) i=if i=d/\d<l.length then v else nth l i
 |[],_,_,_|_::_,0,_,0|_::_,0,_,_+1|_::_,_+1,_,0=>by simp[DH,nth]
 | _::l,d+1,v,i+1=>by simp[DH,nth,Nk l d v i]
def LP:∀(l:List (Option BD)) (d:Nat) (v:Option BD),d<l.length->AR (DH l d v)=ED (AR l) d v
 | _::_,0,_,_=>funext fun i=>by cases i <;> simp[DH,AR,ED]
 | _::l,d+1,v,h=>funext fun i=>by cases i <;> simp[DH,AR,ED,LP l d v (Nat.lt_of_succ_lt_succ h)]
def Gu {α:Type}:∀(l:List α) (d:Nat) (v:α),(DH l d v).length=l.length
 |[],_,_|_::_,0,_=>rfl
 | _::l,d+1,v=>by simp[DH,Gu l d v]
def LO:∀(l:List (Option BD)) (i:Nat),l.length<=i->AR l i=none
 | [],_,_=>rfl
 | _::_,0,h=>by simp at h
 | _::l,i+1,h=>by simpa [AR] using LO l i (by simpa using h)
def Le {α:Type}:∀(l:List α) (d:Nat) (v:α),l.length<=d->DH l d v=l
 | [],_,_,_=>rfl
 | _::_,0,_,h=>by simp at h
 | a::l,d+1,v,h=>by simp[DH,Le l d v (by simpa using h)]
def BD.short:BD->Prop
 | .arr _ _ l=>l.length<=140737488355328
 | _=>True
def live (bk:Nat->Option BD) (id:Nat):Prop:=∃b,bk id=some b/\b.live=true
structure E0 (w w':World) (o:Option Nat):Prop where
 os:w'.os=w.os
 tape:w'.tape=w.tape
 output:w'.output=w.output
 size:w.heap.size<=w'.heap.size
 get:∀b,b<w.heap.size->o≠some b->w'.heap[b]? =w.heap[b]?
 dM:∀b arr e,o=some b->w.heap[b]? =some (.cells arr e (0,0))->∃arr',w'.heap[b]? =some (.cells arr' e (0,0))/\arr'.size=arr.size
structure WX where
 A:PI
 ob:Option Nat
def cx (X:WX) (w:World) (β:Nat->Option Nat) (bk:Nat->Option BD):Cx:=
 ⟨w,β,BP bk,fun o b=>(b<w.heap.size/\∀id,live bk id->β id≠some b)/\X.A o b,fun b=>b<w.heap.size/\∀id,live bk id->β id≠some b⟩
structure Bt (w0:World) (X:WX) (β:Nat->Option Nat) (s:St) (a:Act) (w:World):Prop where
 defers:a.defers=[]
 len:s.sl.length=a.tmps.size
 Nc:s.bk.length=a.tmps.size
 Ij:∀i,C6 (cx X w β (AR s.bk)) (nth s.sl i) (a.tmps.getD i undef)
 blocks:∀id b,AR s.bk id=some b->Dl (cx X w β (AR s.bk)) id b/\b.short
 inj:∀id id' b,live (AR s.bk) id->live (AR s.bk) id'->β id=some b->β id'=some b->id=id'
 own:∀id b,live (AR s.bk) id->β id=some b->w0.heap.size<=b\/(X.ob=some b/\id=0)
 Gr:E0 w0 w X.ob
 fresh:(∀o b,w0.heap.size<=b->X.A o b)/\Kh w0 fun o b=>(X.A o b/\X.ob≠some b)/\b<w0.heap.size
 LB:live (AR s.bk) 0->BP (AR s.bk) 0=0->β 0=X.ob
section
variable {w0 w w':World} {X:WX} {β:Nat->Option Nat} {s:St} {a:Act} {o:Option Nat} {bk:Nat->Option BD}
def E0.rfl:E0 w w o:=⟨by rfl,by rfl,by rfl,Nat.le_refl _,fun _ _ _=>by rfl,fun _ arr _ _ h=>⟨arr,h,by rfl⟩⟩
def E0.all (F:E0 w w' o) {b:Nat} {arr:Array Value} {e:TypeId} (h:w.heap[b]? =some (.cells arr e (0,0))):∃d,w'.heap[b]? =some (.cells d e (0,0))/\d.size=arr.size:=by
 by_cases hb:o=some b
 ·exact F.dM b arr e hb h
 exact⟨arr,(F.get b (Hn h) hb).trans h,by rfl⟩
def Bt.at (S:Bt w0 X β s a w) {id:Nat} (h:live (AR s.bk) id) {b:Nat} (hb:β id=some b):∃arr e,w.heap[b]? =some (.cells arr e (0,0)):=by
 obtain⟨CZ,i,j⟩:=h;have r:=(S.blocks id CZ i).1;cases CZ with
 | dead _=>cases j
 | var _ _=>obtain⟨b',arr,e,d,f,_⟩:=r;cases hb.symm.trans d;exact⟨arr,e,f⟩
 | arr _ _ _=>
  rcases r with⟨d,_⟩ |⟨b',arr,e,d,f,_⟩
  ·cases hb.symm.trans d
  cases hb.symm.trans d;exact⟨arr,e,f⟩
def Bt.lt (S:Bt w0 X β s a w) {id:Nat} (h:live (AR s.bk) id) {b:Nat} (hb:β id=some b):b<w.heap.size:=let ⟨_,_,h⟩:=S.at h hb;Hn h
def Bt.cG (S:Bt w0 X β s a w):Kh w (cx X w β (AR s.bk)).I:=
 Kh.mono (fun _ b hb=>⟨⟨⟨Nat.lt_of_lt_of_le hb.2 S.Gr.size,fun id d e=>(S.own id b d e).elim (fun q=>by have:=hb.2;omega) fun q=>hb.1.2 q.1⟩,hb.1.1⟩,S.Gr.get b hb.2 hb.1.2⟩) S.fresh.2
def Bt.step (S:Bt w0 X β s a w) (F:E0 w w' o) {id:Nat} (n:o=none\/o=β id/\live (AR s.bk) id):E0 w0 w' X.ob:=by
 refine⟨F.os.trans S.Gr.os,F.tape.trans S.Gr.tape,F.output.trans S.Gr.output,Nat.le_trans S.Gr.size F.size,fun b hb i=>(F.get b (Nat.lt_of_lt_of_le hb S.Gr.size) fun e=>?_).trans (S.Gr.get b hb i),fun b arr e hb he=>?_⟩
 ·rcases n with rfl |⟨rfl,k⟩
  ·cases e
  rcases S.own id b k e with h | h
  ·omega
  exact i h.1
 obtain⟨f,j,q⟩:=S.Gr.dM b arr e hb he;obtain⟨d,h3,r⟩:=F.all j;exact⟨d,h3,AA⟩
def qi (a:Act) (d:Nat) (v:Value) (i:Nat):(a.put (some d) v).tmps.getD i undef=if i=d/\d<a.tmps.size then v else a.tmps.getD i undef:=by
 simp only[Act.put,Array.getD_eq_getD_getElem?,Array.getElem?_setIfInBounds]
 by_cases h:d=i
 ·subst h
  by_cases f:d<a.tmps.size <;> simp[f]
 simp[h,Ne.symm h]
def il {x:Cx} {s:St} {a:Act} (hlen:s.sl.length=a.tmps.size) (h:∀i,C6 x (nth s.sl i) (a.tmps.getD i undef)) (dst:Option Nat) (v:AV) (u:Value) (f:C6 x v u):
  a.defers=(a.put dst u).defers/\(Gx s.sl dst v).length=(a.put dst u).tmps.size/\(a.put dst u).tmps.size=a.tmps.size/\∀i,C6 x (nth (Gx s.sl dst v) i) ((a.put dst u).tmps.getD i undef):=by
 cases dst with
 | none=>exact⟨rfl,hlen,rfl,h⟩
 | some d=>
  refine⟨rfl,by simp[Gx,Act.put,Gu,hlen],by simp[Act.put],fun i=>?_⟩;rw[qi];simp only[Gx,Nk,hlen]
  split
  ·exact f
  exact h i
def Bt.ext (S:Bt w0 X β s a w) {dst:Option Nat} {v:AV} {u:Value} {rd:List Nat} (F:E0 w w' none) (z:(cx X w β (AR s.bk)).le (cx X w' β (AR s.bk))->C6 (cx X w' β (AR s.bk)) v u):Bt w0 X β (s.app dst ⟨v,[],rd⟩) (a.put dst u) w':=by
 have hw:∀b,b<w.heap.size->w'.heap[b]? =w.heap[b]? :=fun b h=>F.get b h AS
 have hle:(cx X w β (AR s.bk)).le (cx X w' β (AR s.bk)):=
  ⟨fun _=>Nat.le_refl _,fun _ _=>rfl,fun id b arr e _ _ n=>F.all n,fun _ b hb=>⟨⟨⟨Nat.lt_of_lt_of_le hb.1.1 F.size,hb.1.2⟩,hb.2⟩,hw b hb.1.1⟩,fun b hb=>⟨⟨Nat.lt_of_lt_of_le hb.1 F.size,hb.2⟩,hw b hb.1⟩⟩
 obtain⟨d,f,h3,k⟩:=il S.len (fun i=>C6.mono hle (S.Ij i)) dst v u (z hle);exact⟨d ▸ S.defers,f,S.Nc.trans h3.symm,k,fun id b hb=>⟨Dl.mono hle rfl (fun r j q=>hw j (S.lt ⟨b,hb,r⟩ q)) (S.blocks id b hb).1,(S.blocks id b hb).2⟩,S.inj,S.own,S.step (id:=0) F (.inl rfl),S.fresh,S.LB⟩
def Bt.val (S:Bt w0 X β s a w) {dst:Option Nat} {v:AV} {u:Value} {rd:List Nat} (d:C6 (cx X w β (AR s.bk)) v u):Bt w0 X β (s.app dst ⟨v,[],rd⟩) (a.put dst u) w:=S.ext .rfl fun _=>d
def Jt {id k:Nat} {b:BD}:BP (ED bk id (some b)) k=if k=id then b.BP else BP bk k:=by unfold BP ED;by_cases h:k=id <;> simp[h]
def MM {id k:Nat} {b:BD}:live (ED bk id (some b)) k↔if k=id then b.live=true else live bk k:=by unfold live ED;by_cases h:k=id <;> simp[h]
def ui (a:Act) (q:Nat) (u:Value) (h:a.tmps.size<=q):a.put (some q) u=a.put none undef:=by simp[Act.put,Array.setIfInBounds_eq_of_size_le h]
def Bt.write (S:Bt w0 X β s a w) {dst:Option Nat} {v:AV} {u:Value} {rd:List Nat} {id:Nat} {CZ:BD} {o':Option Nat} (M:id<s.bk.length\/dst=some id/\o=none) (O:CZ.short) (F:E0 w w' o) (H:o=none\/o=β id/\live (AR s.bk) id)
  (C:BP (AR s.bk) id<CZ.BP\/CZ.BP=BP (AR s.bk) id/\o'=β id/\(CZ.live=true->live (AR s.bk) id))
  (hf:CZ.live=true->∀b,o'=some b->(β id=some b/\live (AR s.bk) id)\/w.heap.size<=b)
  (J:∀y:Cx,(cx X w β (AR s.bk)).le y->y.w=w'->y.β id=o'->y.cv id=CZ.BP->
   (∀c k,k<w'.heap.size->w.heap.size<=k\/X.A c k/\(∀j,j≠id->live (AR s.bk) j->β j≠some k)->(CZ.live=true->o'≠some k)->y.I c k)->Dl y id CZ/\C6 y v u):
  ∃Q,Bt w0 X Q (s.app dst ⟨v,[(id,CZ)],rd⟩) (a.put dst u) w':=by
 by_cases B:id<s.bk.length
 case neg=>
  obtain⟨rfl,rfl⟩:=M.resolve_left B;have D:a.tmps.size<=id:=by have:=S.Nc;omega
  have W:s.app (some id) ⟨v,[(id,CZ)],rd⟩=s.app none ⟨.one .Cb,[],rd⟩:=by simp[St.app,Gx,GC,Le _ _ _ (AA:s.bk.length<=id),Le s.sl id v (by have:=S.len;omega)]
  rw[W,ui _ _ _ D];exact⟨β,S.ext F fun _=> .inl rfl⟩
 refine⟨ED β id o',?_⟩
 show Bt w0 X _ ⟨Gx s.sl dst v,DH s.bk id (some CZ)⟩ _ _
 have L:=LP s.bk id (some CZ) B
 have T:∀b,(b<w.heap.size/\∀j,live (AR s.bk) j->β j≠some b)->b<w'.heap.size/\∀j,live (ED (AR s.bk) id (some CZ)) j->ED β id o' j≠some b:=fun b hb=>by
  refine⟨Nat.lt_of_lt_of_le hb.1 F.size,fun j f e=>?_⟩;rw[MM] at f
  by_cases h:j=id
  ·subst h;rw[if_pos rfl] at f;rw[Gh] at e;rcases hf f b e with h | h
   ·exact hb.2 j h.2 h.1
   have:=hb.1;omega
  rw[if_neg h] at f;rw[Gi h] at e;exact hb.2 j f e
 have hw:∀b,(b<w.heap.size/\∀j,live (AR s.bk) j->β j≠some b)->w'.heap[b]? =w.heap[b]? :=fun b hb=>F.get b hb.1 fun e=>by
  rcases H with rfl |⟨rfl,n⟩
  ·cases e
  exact hb.2 id n e
 have hle:(cx X w β (AR s.bk)).le (cx X w' (ED β id o') (ED (AR s.bk) id (some CZ))):=by
  refine⟨fun j=>?_,fun j (h:BP _ j=BP _ j)=>?_,fun _ b arr e _ _ V=>F.all V,fun _ b hb=>⟨⟨T b hb.1,hb.2⟩,hw b hb.1⟩,fun b hb=>⟨T b hb,hw b hb⟩⟩
  ·show BP _ j<=BP _ j
   rw[Jt];split
   ·subst_vars;omega
   exact Nat.le_refl _
  show ED β id o' j=β j
  by_cases f:j=id
  ·subst f;rw[Jt,if_pos rfl] at h;rw[Gh];exact (C.resolve_left AA).2.1
  exact Gi f
 have J:=J _ hle rfl Gh (by show BP _ id=_;rw[Jt,if_pos rfl]) fun c k d D G=>⟨⟨d,fun j f e=>?_⟩,D.elim (fun h=>S.fresh.1 c k (Nat.le_trans S.Gr.size h)) (·.1)⟩
 obtain⟨D,G,h3,U⟩:=il S.len (fun i=>C6.mono hle (S.Ij i)) dst v u J.2;refine⟨D ▸ S.defers,G,(Gu ..).trans (S.Nc.trans h3.symm),?_,?_,?_,?_,S.step F H,S.fresh,?_⟩ <;> simp only[L]
 ·exact U
 ·intro k b d
  by_cases h:k=id
  ·subst h;rw[Gh] at d;cases d;exact⟨J.1,O⟩
  rw[Gi h] at d;refine⟨Dl.mono hle (by show BP _ k=BP _ k;rw[Jt,if_neg h]) (fun n j f=>F.get j (S.lt ⟨b,d,n⟩ f) fun e=>?_) (S.blocks k b d).1,(S.blocks k b d).2⟩;rcases H with rfl |⟨rfl,N⟩
  ·cases e
  exact h (S.inj k id j ⟨b,d,n⟩ N f e)
 ·have key:∀{k b},k≠id->CZ.live=true->o'=some b->live (AR s.bk) k->β k=some b->False:=fun {k b} h n H d hb=>
   (hf n b H).elim (fun q=>h (S.inj k id b d q.2 hb q.1)) fun q=>by have:=S.lt d hb;omega
  intro k k' b d r hb z;rw[MM] at d r
  by_cases h:k=id <;> by_cases h':k'=id <;> simp only[ED,h,h',if_true,if_false] at d r hb z
  ·exact h.trans h'.symm
  ·exact (key h' d hb r z).elim
  ·exact (key h r z d hb).elim
  exact S.inj k k' b d r hb z
 ·intro k b d hb;rw[MM] at d
  by_cases h:k=id
  ·subst h;rw[if_pos rfl] at d;rw[Gh] at hb;rcases hf d b hb with h | h
   ·exact S.own k b h.2 h.1
   exact .inl (Nat.le_trans S.Gr.size h)
  rw[if_neg h] at d;rw[Gi h] at hb;exact S.own k b d hb
 ·intro n K;rw[MM] at n;rw[Jt] at K
  by_cases h:0=id
  ·subst h;rw[if_pos rfl] at n K;obtain⟨_,G,h3⟩:=C.resolve_left AA;rw[Gh,G];exact S.LB (h3 n) AA
  rw[if_neg h] at n K;rw[Gi h];exact S.LB n K
 rw[MM] at f
 by_cases h:j=id
 ·subst h;rw[if_pos rfl] at f;rw[Gh] at e;exact G f e
 rw[if_neg h] at f;rw[Gi h] at e;exact D.elim (fun q=>by have:=S.lt f e;omega) fun q=>q.2 j h f e
end
def EJ (w:World) (ob:Option Nat) (I:PI):Cx:=⟨w,fun k=>if k=0 then ob else none,fun _=>0,I,fun b=>b<w.heap.size/\ob≠some b⟩
abbrev LL (w:World) (I:PI):Cx:=EJ w none I
def OwnAt (x:Cx) (lo:Nat) (bo:Option Nat) (t:T) (l:List (el t)) (v:Value):Prop:=
 ∃base cap,v= .slice base l.length cap/\l.length<=cap/\cap<=maxLen/\l.length<=140737488355328/\
  ((bo=none/\l=[]/\cap=0)\/∃b arr e,bo=some b/\lo<=b/\base=some ⟨b,0,none⟩/\x.w.heap[b]? =some (.cells arr e (0,0))/\cap*t.size<=arr.size/\
    ∀(i:Nat) (y:el t),l[i]? =some y->∃us,rep x.w x.I t y us/\x.w.rangeAt b (i*t.size) us)
def Ha (x:Cx) (lo:Nat) (bo:Option Nat):AC->Value->Prop
 | .own t l n,v=>n=l.length/\OwnAt x lo bo t l v
 | c,v=>Bw x c v
def IC:AC->Bool
 | .own _ _ _=>true
 | c=>ET c
def SH:AC->Bool
 |.Aj _ 0 0 _ _|.BU 0 0 _|.Ma (0,0,_)=>true
 | c=>ET c
def AV.wf:AV->Bool
 | .BI xs=>xs.all fun x=>x.1||decide (x.2.length<=1)
 | _=>true
def BD.lone:BD->Bool
 | .var v cs=>v==0&&cs.all ET
 | .arr v _ _=>v==0
 | .dead _=>false
def Callee (P : Program) (f : FuncId) : Prop := ∃ fn c, P.funcs[f]? = some fn /\ (fn.name == "runtime.NumGoroutine") = false /\ fn.body = some c
def ES (fl:Bool) (I:PI) (n:Nat) (w':World) (ob bo:Option Nat):Cx:=EJ w' ob fun c k=>((fl=false/\I c k)\/n<=k)/\k<w'.heap.size/\ob≠some k/\bo≠some k
def Lx (P:Program) (fl:Bool) (f:FuncId) (args:List AV) (b0:BD) (r:AV) (b1:BD):Prop:=
 Callee P f/\∀(w:World) (I:PI) (ob:Option Nat) (vs:List Value),(b0.live=true\/ob=none)->(∀c b,I c b->b<w.heap.size/\ob≠some b)->Kh w I->
  Dl (EJ w ob I) 0 b0/\b0.short->Bc (C6 (EJ w ob I)) args vs->
  Calls P f vs.toArray w fun e w'=>∃u bo,e= .returned u/\E0 w w' ob/\RV (Ha (ES fl I w.heap.size w' ob bo) w.heap.size bo) r u/\Dl (ES fl I w.heap.size w' ob bo) 0 b1/\b1.short
def Eo (P:Program) (fl:Bool) (f:FuncId) (args:List AV) (r:AV):Prop:=(r.all IC=true/\r.wf=true)/\Lx P fl f args (.dead 0) r (.dead 0)
def Eo.mk {P:Program} {fl:Bool} {f:FuncId} {args:List AV} {r:AV} (j:Callee P f) (n:r.all IC=true/\r.wf=true)
  (h:∀(w:World) (I:PI) (vs:List Value),(∀c b,I c b->b<w.heap.size)->Bc (C6 (LL w I)) args vs->Calls P f vs.toArray w fun e w'=>∃u d,e= .returned u/\Below w.heap.size w w'/\RV (Ha (ES fl I w.heap.size w' none d) w.heap.size d) r u):Eo P fl f args r:=
 ⟨n,j,fun w I ob vs k i _ _ ha=>by
  obtain rfl:ob=none:=k.resolve_left nofun;exact (h w I vs (fun c b q=>(i c b q).1) ha).mono fun e w' ⟨u,d,he,B,q⟩=>⟨u,d,he,⟨B.os,B.tape,B.output,B.size,fun b hb _=>B.block b hb,nofun⟩,q,(by trivial),trivial⟩⟩
def Kg (P:Program) (f:FuncId) (c0:AC) (b0:BD) (args:List AV) (r:AV) (b1:BD):Prop:=b0.lone=true/\Lx P false f (.one c0::args) b0 r b1
def Bp (P:Program) (f:FuncId) (args:List AV) (b0:BD) (r:AV) (b1:BD):Prop:=(r.all ET=true/\b0.lone=true/\b1.lone=true)/\Lx P false f args b0 r b1
def Cz (P:Program) (f:FuncId) (args:List AV) (b0:BD) (r:AV):Prop:=Bp P f args b0 r b0
def env (P:Program):Env:=⟨Eo P,Kg P,Cz P,Bp P⟩
structure It (P:Program) (t:TypeId) (i:Info):Prop where
 info:i.known=true->∃ti z d,P.info? t=some ti/\ti.size=i.size/\ti.zero=some z/\(∀x,Bc (Bw x) i.zero z.cells.toList)/\
  P.underlying t=some d/\d.isRow=i.agg/\(i.agg=false->i.size=1)
 kind:∀k,i.kind=some k->P.underlying t=some (.int k)
 isb:i.KN=true->P.underlying t=some .bool
 SA:i.Ia=true->P.underlying t=some .string
 sl:i.sl=true->P.underlying t=some (.slice i.Dq)/\∃ei z,P.info? i.Dq=some ei/\ei.size=i.elem.size/\ei.bytes=i.FQ/\0<ei.bytes/\ei.zero=some z/\
  ∀x,Bc (Bw x) (cells i.elem i.Cg) z.cells.toList
 fields:i.known=true->i.fields≠[]->∃fs:Array Field,P.underlying t=some (.struct fs)/\i.fields.length=fs.size/\
  ∀(f fo n:Nat) (g:Bool),i.fields[f]? =some (fo,n,g)->∃fl d,fs[f]? =some fl/\fl.offset=fo/\(P.info? fl.type).map (·.size)=some n/\0<n/\P.underlying fl.type=some d/\d.isRow=g/\(g=false->n=1)
 arr:∀q,i.arr=some q->∃e ei d,P.underlying t=some (.array q.1 e)/\P.info? e=some ei/\ei.size=q.2.1/\P.underlying e=some d/\d.isRow=q.2.2/\(q.2.2=false->q.2.1=1)/\2<=q.1
 pt:i.pt=true->P.underlying t=some (.slice i.Dq)/\∃ei z,P.info? i.Dq=some ei/\ei.size=1/\ei.zero=some z/\z.cells.size=1
def T.beq_eq {a:T}:∀{b:T},T.beq a b=true->a=b:=by
 induction a with
 | sl _ d | rf _ d=>intro b h;cases b <;> simp_all [T.beq];exact d h
 | pr _ _ d f=>intro b h;cases b <;> simp_all [T.beq];exact⟨d h.1,f h.2⟩
 | _=>intro b h;cases b <;> simp_all [T.beq]
section
variable {P:Program} {w:World}
def gW {t:TypeId} {d:TypeDesc} (hu:P.underlying t=some d):(isAgg t).run P w= .ok d.isRow w:=by
 unfold isAgg;rw[Sem.run_bind,run_underlying hu w];cases d <;> simp
def vQ {t:TypeId} {h:TypeInfo} {b o:Nat} {v:Value} (k:P.info? t=some h) (f:v.cells.size=h.size) (ht:w.there b o h.size) (i:∀u∈v.cells.toList,u.oneCell'=true):
  (Instr.storeAt t (.pointer (some ⟨b,o,none⟩)) v).run P w= .ok () (w.setCells b o v.cells.toList):=by
 have:=run_storeCells_cells (P:=P) b o v.cells.toList 0 w (fun j d=>by simpa using (ht j (by simpa [f] using d)).1) (fun j d=>by simpa using (ht j (by simpa [f] using d)).2) i;simp only[Nat.add_zero] at this;simp[Instr.storeAt,Instr.sureAddr,storeVar,sizeOf,typeInfo,k,f,this]
end
def Sf {v:Value} (h:v.oneCell'=true):v.cells= #[v]:=by
 cases v <;> simp_all [Value.oneCell',Value.cells]
def Vl {v:AV} (d:∀xs,v≠ .BI xs) (f:v≠ .one .Cb):v.full=true:=by
 match v with
 | .one c=>cases c <;> first | rfl | exact absurd rfl f
 | .agg _=>rfl
 | .BI _=>exact absurd rfl (d _)
def Md {x:Cx} {d:AV} {v:Value} (h:C6 x d v) (hf:d.full=true):Bc (Bw x) d.cs v.cells.toList:=by
 cases d with
 | one c=>
  rcases h with rfl | h
  ·cases hf
  rw[Sf h.one];exact .cons h .nil
 | agg cs=>obtain⟨arr,rfl,h⟩:=h;exact h
 | BI _=>cases hf
def FN {bk:Nat->Option BD} {id:Nat} {b:BD} (h:bk id=some b):BP bk id=b.BP:=by unfold BP;rw[h]
def NP {w0:World} {X:WX} {β:Nat->Option Nat} {s:St} {a:Act} {w:World} (S:Bt w0 X β s a w) (o:Operand):C6 (cx X w β (AR s.bk)) (ev s.sl o) (a.eval o):=by
 cases o with
 | tmp t=>exact S.Ij t
 | func f=>exact Or.inr rfl
 | global g=>
  simp only[ev]
  split
  ·rename_i q i
   obtain⟨d,us,h,h3⟩:=S.cG g q i;exact Or.inr ⟨g,0,us,rfl,⟨none,d⟩,h,h3⟩
  exact Or.inl rfl
 | const v=>
  show C6 _ (VM v) v
  unfold VM
  split <;> first | exact Or.inr rfl | exact Or.inl rfl
def valOf (g:Bool) (vs:List Value):Value:=
 match g with
 | true=> .agg vs.toArray
 | false=>vs.headD undef
def Sx {x:Cx} {g:Bool} {cs:List AC} {vs:List Value} (h:Bc (Bw x) cs vs) (d:g=false->cs.length=1):C6 x (HA (g,cs)) (valOf g vs):=by
 cases g with
 | true=>exact⟨_,rfl,by simpa using h⟩
 | false=>
  have:=d rfl
  match cs,vs,h with
  | [c],[v],.cons h _=>exact Or.inr h
section
variable {P:Program} {E:Env} {TI:TypeId->Info} {w w':World} {a:Act} {x:Cx}
def Dl.arr {id v:Nat} {t:T} {l:List (el t)} {b:Nat} (h:Dl x id (.arr v t l)) (hb:x.β id=some b):∃arr e,x.w.heap[b]? =some (.cells arr e (0,0))/\∀(i:Nat) (y:el t),l[i]? =some y->∃us,rep x.w x.I t y us/\x.w.rangeAt b (i*t.size) us:=by
 rcases h with⟨h,_⟩ |⟨b',arr,e,d,f,h3⟩
 ·cases h.symm.trans hb
 cases d.symm.trans hb;exact⟨arr,e,f,h3⟩
def Dl.var {id v:Nat} {cs:List AC} {b:Nat} (h:Dl x id (.var v cs)) (hb:x.β id=some b):∃arr e,x.w.heap[b]? =some (.cells arr e (0,0))/\Bc (Bw x) cs arr.toList:=by
 obtain⟨b',arr,e,d,f,h3⟩:=h;cases d.symm.trans hb;exact⟨arr,e,f,h3⟩
def nw {op:BinOp} {k k':IntKind} {x y:Int} {c:AC} {t:TypeId} (q:k=k'\/op= .shl\/op= .shr) (h:arith op k x y (fun d=>d=c)):
  ∃u,(binOp op t (.int k x) (.int k' y)).run P w= .ok u w/\∀Γ,Bw Γ c u:=by
 have n:∀{c:Int},Ej c->IntKind.i64.wrap c=c:=fun h=>IntWalk.i64_in _ ⟨h.1,by have:=h.2;omega⟩
 by_cases j:op= .shl\/op= .shr
 ·rcases j with rfl | rfl
  all_goals
   obtain⟨i,rfl⟩:=h _ rfl;exact⟨_,by simp only[binOp,Op.shift,if_neg (Int.not_lt.2 (i ()))];rfl,fun _=>rfl⟩
 have q:k=k':=q.resolve_right j;subst q
 have hb:∀f,f≠ .shl->f≠ .shr->binOp f t (.int k x) (.int k y)=(match f with
  | .add | .sub | .mul=>Op.intArith f k x y | .quo | .rem=>Op.intDiv f k x y | .and | .or | .xor | .andNot=>Op.intBits f k x y | _=>Op.intCmp f x y):=by
  intro f i r;cases f <;> simp_all [binOp]
 rw[hb op (fun e=>j (.inl e)) (fun e=>j (.inr e))]
 cases op <;> first
  | (obtain rfl:=h _ rfl;exact⟨_,rfl,fun _=>rfl⟩)
  | exact absurd (.inl rfl) j
  | exact absurd (.inr rfl) j
  | (cases k <;> first
   | (obtain rfl:=h _ rfl;exact⟨_,rfl,fun _=>rfl⟩)
   | (obtain⟨i,rfl⟩:=h _ rfl;exact⟨_,rfl,fun _=>by show _=_;rw[n (i ())]⟩)
   | (obtain⟨i,rfl⟩:=h _ rfl
      obtain⟨i,r,h3⟩:=i ();exact⟨_,by simp only[Op.intDiv,if_neg (AA:¬y=0)];rfl,fun _=>by show _=_;rw[Int.tdiv_eq_ediv_of_nonneg i,n h3]⟩)
   | (obtain⟨i,rfl⟩:=h _ rfl
      obtain⟨i,r⟩:=i ();exact⟨_,by simp only[Op.intDiv,if_neg (AA:¬y=0)];rfl,fun _=>by show _=_;first | rw[Int.tdiv_eq_ediv_of_nonneg i] | rw[Int.tmod_eq_emod_of_nonneg i]⟩))
def oR {I:PI} {l:List UInt8} {v:Value} {src dst e:TypeId} (i:P.underlying src=some (.slice e)) (he:P.underlying e=some (.int .u8)) (d:P.underlying dst=some .string) (h:rep w I (.sl .u8) l [v]):
  (convert src dst v).run P w= .ok (.string ⟨l.toArray⟩) w:=by
 obtain⟨base,cap,r,u,z,h3⟩:=h;cases r;rcases base with _ | k
 ·obtain rfl:l=[]:=h3.resolve_right (fun⟨_,_,e,_⟩=>by cases e);exact run_convert_bytes_nil w src e i he _ _ dst d
 refine run_convert_bytes_back w src dst e k cap l i he d fun j f=>?_
 rcases h3 with rfl |⟨b,off,e,_,n⟩
 ·simp at f
 cases e;obtain⟨us,hu,q⟩:=n j _ (List.getElem?_eq_getElem f);cases (show us=_ from hu);have:=q 0 _ rfl;rw[show (⟨b,off,none⟩:Addr).add j=⟨b,off+j,none⟩ by unfold Addr.add;split <;> simp_all];simpa [T.size] using this
def fN {e:TypeId} {i:TypeInfo} {d:TypeDesc} {g:Bool} {n f:Nat} {arr:Array Value} (h3:P.info? e=some i) (A:i.size=n) (j:P.underlying e=some d) (k:d.isRow=g) (q:g=false->n=1) (h:((arr.toList.drop f).take n).length=n):
  (part e arr f).run P w= .ok (valOf g ((arr.toList.drop f).take n)) w:=by
 unfold part;rw[Sem.run_bind,gW j,Result.andThen_ok,k];cases g with
 | true=>
  have e1:arr.extract f (f+n)=((arr.toList.drop f).take n).toArray:=by
   apply Array.ext';simp only[Array.toList_extract,List.extract_eq_take_drop];rw[(AA:f+n-f=n)]
  simp[sizeOf,typeInfo,h3,A,e1,valOf]
 | false=>
  obtain rfl:=q rfl;obtain⟨u,r,e⟩:=List.exists_cons_of_ne_nil (l:=arr.toList.drop f) (by intro e;simp[e] at h);have z:arr[f]? =some u:=by have:=congrArg (·[0]?) e;simpa using this
  simp[z,e,valOf]
def fu {b off n:Nat} {arr:Array Value} {e:TypeId} (h:w.heap[b]? =some (.cells arr e (0,0))):w.rangeAt b off ((arr.toList.drop off).take n):=by
 intro j v d;rw[List.getElem?_take] at d
 split at d
 ·simpa [World.cell?,h] using d
 cases d
def Pj {b:Nat} {arr:Array Value} {e:TypeId} (h:w.heap[b]? =some (.cells arr e (0,0))):w.rangeAt b 0 arr.toList:=fun j v d=>by simpa [World.cell?,h] using d
def XS {b o off n:Nat} {us:List Value} (h:w.rangeAt b o us):w.rangeAt b (o+off) ((us.drop off).take n):=by
 intro j v d;rw[Nat.add_assoc];rw[List.getElem?_take] at d
 split at d
 ·exact h (off+j) v (by simpa using d)
 cases d
def run_load {t:TypeId} {i:Info} {b o:Nat} {us:List Value} (B:It P t i) (D:i.known=true) (n:w.rangeAt b o us) (h:us.length=i.size):
  (Instr.loadAt t (.pointer (some ⟨b,o,none⟩))).run P w= .ok (valOf i.agg us) w:=by
 obtain⟨G,z,d,q,r,h3,F,j,k,A⟩:=B.info D;cases f:i.agg with
 | true=>exact run_loadAt_mid w b o t us d n j (k.trans f) (by simp[q,r,h])
 | false=>
  rw[A f] at h
  match us,h with
  | [u],_=>
   have C:w.cell? ⟨b,o,none⟩=some u:=by simpa using n 0 u AS
   simp only[Instr.loadAt,Instr.sureAddr,Sem.run_bind,Sem.run_pure,Result.andThen_ok,loadVar,gW j,k,f];simp[load,Sem.run,C,valOf]
def TE {t:TypeId} {d:TypeInfo} (h:P.info? t=some d):(sizeOf t).run P w= .ok d.size w:=by simp[sizeOf,typeInfo,h]
def gY (t:TypeId) (v:Value):(newVar t v).run P w= .ok ⟨w.heap.size,0,none⟩ (w.alloc (.cells v.cells t)):=by
 simp[newVar,newRow,newObj,Sem.run]
def qK {fl:Field} {b off n:Nat} (h3:(P.info? fl.type).map (·.size)=some n) (d:0<n):(fieldPlace ⟨b,off,none⟩ fl).run P w= .ok ⟨b,off+fl.offset,none⟩ w:=by
 obtain⟨h,f,rfl⟩:=Option.map_eq_some_iff.1 h3;simp[fieldPlace,sizeOf,typeInfo,f,Nat.pos_iff_ne_zero.1 d,Addr.add_mid]
def wx {k:IntKind} {n:Int} {y:Nat} {c:BoundsCode} (d:0<=n) (f:n<=y):(Instr.sliceBound (.int k n) y c).run P w= .ok n.toNat w:=by
 simp[Instr.sliceBound,asIntOf,d,f]
def Ql {lo u mx:Option Operand} {s:St} (j:∀o,C6 x (ev s.sl o) (a.eval o)) {len cap:Nat} (r:len<=cap) {R:Nat->Nat->Bool->Prop}
  (h:KA len (lo.map (ev s.sl)) (u.map (ev s.sl)) (mx.map (ev s.sl)) R) (fl:Bool:=true):
  ∃(l q m:Nat) (c:Bool),(Instr.sliceBounds fl len cap (lo.map a.eval) (u.map a.eval) (mx.map a.eval)).run P w= .ok (l,q,m) w/\l<=q/\q<=len/\q<=m/\m<=cap/\(c=true->m=q/\l=0)/\(c=false->m=cap)/\(mx≠none->c=true)/\R l q c:=by
 have I:∀{o:Operand} {k:IntKind} {n:Int},ev s.sl o= .one (.int k n)->a.eval o= .int k n:=fun {o k n} e=>by
  have:=j o;rw[e] at this;exact this.resolve_left nofun
 have B:= @wx P w;unfold KA at h
 split at h <;> rename_i e1 e2 d <;> simp only[Option.map_eq_none_iff,Option.map_eq_some_iff] at e1 e2 d <;> try exact h.elim
 ·subst e1 e2 d;exact⟨0,len,cap,false,by simp[Instr.sliceBounds],AA,AA,r,AA,nofun,fun _=>rfl,fun h=>absurd rfl h,h _ rfl⟩
 ·obtain⟨p,rfl,e1⟩:=e1;subst e2 d;obtain⟨f,i⟩:=h.1 ();exact⟨_,len,cap,false,by simp[Instr.sliceBounds,I e1,B f (AA:_<=(len:Int))],AA,AA,r,AA,nofun,fun _=>rfl,fun h=>absurd rfl h,h.2 _ _ ⟨rfl,rfl⟩⟩
 ·obtain⟨p,rfl,e2⟩:=e2;subst e1 d;obtain⟨f,i⟩:=h.1 ();exact⟨0,_,cap,false,by simp[Instr.sliceBounds,I e2,B f (AA:_<=(cap:Int))],AA,AA,AA,AA,nofun,fun _=>rfl,fun h=>absurd rfl h,h.2 _ rfl⟩
 ·obtain⟨p,rfl,e1⟩:=e1;obtain⟨A,rfl,e2⟩:=e2;subst d;obtain⟨f,i,z⟩:=h.1 ()
  rename_i n _ n'
  exact⟨_,_,cap,false,by simp[Instr.sliceBounds,I e1,I e2,B (AA:0<=n') (AA:n'<=(cap:Int)),B f (AA:n<=(n'.toNat:Int))],AA,AA,AA,AA,nofun,fun _=>rfl,fun h=>absurd rfl h,h.2 _ _ ⟨rfl,rfl⟩⟩
 obtain⟨p,rfl,e2⟩:=e2;obtain⟨A,rfl,d⟩:=d;subst e1;obtain⟨f,i,z⟩:=h.1 ();subst i
 rename_i n _
 exact⟨0,_,_,true,by simp[Instr.sliceBounds,I e2,I d,B f (AA:n<=(cap:Int)),B f (AA:n<=(n.toNat:Int))],AA,AA,AA,AA,fun _=>⟨rfl,rfl⟩,nofun,fun _=>rfl,h.2 _ rfl⟩
end
def Pf {α:Type} (l:List α) (o:Nat):Dw l o []=l:=by
 induction l generalizing o <;> cases o <;> simp_all [Dw]
def XK {α:Type}:∀(l:List α) (o:Nat) (v:α) (r:List α),Dw (l.set o v) (o+1) r=Dw l o (v::r)
 | [],0,_,_ | [],_+1,_,_=>rfl
 | c::l,0,v,r=>by simp[Dw]
 | c::l,o+1,v,r=>by simp[Dw,XK l o v r]
def fk {α:Type}:∀(l m:List α),m.length=l.length->Dw l 0 m=m
 | [],[],_=>rfl
 | _::l,_::m,h=>by simp[Dw,fk l m (by simpa using h)]
 | [],_::_,h | _::_,[],h=>by simp at h
def Bc.Dw {α γ:Type} {R:α->γ->Prop} {l:List α} {m:List γ} (h:Bc R l m):∀(o:Nat) {xs:List α} {ys:List γ},Bc R xs ys->Bc R (Dw l o xs) (Dw m o ys):=by
 induction h with
 | nil=>intro o xs ys h;cases o <;> cases h <;> exact .nil
 | cons q h d=>
  intro o xs ys h';cases o with
  | zero=>cases h' with
   | nil=>exact .cons q h
   | cons p r=>exact .cons p (d 0 r)
  | succ o=>exact .cons q (d o h')
def Vp {α:Type}:∀(l:List α) (o:Nat) (xs:List α) (m:Nat),o+xs.length<=l.length->(Dw l o xs)[m]? =if o<=m/\m<o+xs.length then xs[m-o]? else l[m]?
 | [],o,xs,m,h=>by
  obtain rfl:xs=[]:=List.eq_nil_of_length_eq_zero (by simp only[List.length_nil] at h;omega);rw[Pf,if_neg (by simp only[List.length_nil];omega)]
 | c::l,0,[],m,_=>by rw[Pf,if_neg AS]
 | c::l,0,x::xs,m,h=>by
  cases m with
  | zero=>simp[Dw]
  | succ m=>simpa [Dw] using Vp l 0 xs m (by simp only[List.length_cons] at h;omega)
 | c::l,o+1,xs,m,h=>by
  have e:Dw (c::l) (o+1) xs=c::Dw l o xs:=by cases xs <;> rfl
  cases m with
  | zero=>rw[e,if_neg AA];rfl
  | succ m=>
   rw[e,List.getElem?_cons_succ,List.getElem?_cons_succ,Vp l o xs m (by simp only[List.length_cons] at h;omega)]
   by_cases d:o<=m/\m<o+xs.length
   ·rw[if_pos d,if_pos AA];congr 1;omega
   rw[if_neg d,if_neg AA]
def WD {α:Type}:∀(l:List α) (o:Nat) (xs:List α),(Dw l o xs).length=l.length
 | _,0,[]=>by rw[Pf]
 | [],0,_::_ | [],_+1,_=>rfl
 | _::cs,0,_::xs=>by simp[Dw,WD cs 0 xs]
 | _::cs,o+1,xs=>by simp[Dw,WD cs o xs]
section
variable {w w':World} {b o:Nat} {arr:Array Value} {e:TypeId} {vs:List Value}
def Px (b:Nat):∀(vs:List Value) (o:Nat) (w:World) (arr:Array Value) (e:TypeId),w.heap[b]? =some (.cells arr e (0,0))->
  ∃d,(w.setCells b o vs).heap[b]? =some (.cells d e (0,0))/\d.toList=Dw arr.toList o vs/\d.size=arr.size
 | [],o,w,arr,e,h=>⟨arr,h,(Pf _ _).symm,rfl⟩
 | v::r,o,w,arr,e,h=>by
  obtain⟨d,f,h3,i⟩:=Px b r (o+1) (w.setCell ⟨b,o,none⟩ v) (arr.setIfInBounds o v) e (by simp[World.setCell,Array.getElem?_modify,h]);exact⟨d,f,by rw[h3,Array.toList_setIfInBounds,XK],by simpa using i⟩
def E0.set:∀(vs:List Value) (o:Nat) (w:World),E0 w (w.setCells b o vs) (some b)
 | [],_,_=> .rfl
 | v::r,o,w=>by
  have F:=E0.set r (o+1) (w.setCell ⟨b,o,none⟩ v);have j:(w.setCell ⟨b,o,none⟩ v).heap.size=w.heap.size:=by simp[World.setCell]
  exact⟨F.os,F.tape,F.output,j ▸ F.size,fun k n h=>(F.get k AA h).trans (by simp only[ne_eq,Option.some.injEq] at h;simp[World.setCell,Array.getElem?_modify,h]),
   fun k arr e _ h=>let ⟨d,f,_,i⟩:=Px k (v::r) o w arr e h;by cases (by assumption:some b=some k);exact⟨d,f,i⟩⟩
def E0.push {x:Obj} (h:w'.heap=w.heap.push x) (d:w'.os=w.os) (f:w'.tape=w.tape) (h3:w'.output=w.output):E0 w w' none:=
 ⟨d,f,h3,by simp[h],fun b hb _=>by rw[h,Array.getElem?_push,if_neg AA],nofun⟩
def Xw {n:Nat} (h:w.heap[b]? =some (.cells arr e (0,0))) (f:o+n<=arr.size):w.there b o n:=by
 intro j d;simp[World.cell?,World.frozen?,h,(AA:o+j<arr.size)]
def iD (h:w.heap[b]? =some (.cells arr e (0,0))) (f:o+vs.length<=arr.size):(w.setCells b o vs).rangeAt b o vs:=fun j v d=>by
 rw[World.cell?_setCells_in b vs o w (fun m hm=>(Xw h f m hm).1) j (Jd d)];exact (List.getElem?_eq_getElem _).symm.trans d
def iE {us:List Value} {q:Nat} (h:∀m,m<us.length->q+m<o\/o+vs.length<=q+m) (f:w.rangeAt b q us):(w.setCells b o vs).rangeAt b q us:=fun m v d=>by
 rw[World.cell?_setCells_out b vs o w ⟨b,q+m,none⟩ (fun _ _=>h m (Jd d))];exact f m v d
end
def dQ {c d:AC} (h:Gc c d):ET c=true/\ET d=true:=by
 cases c <;> first
  | exact h.elim
  | (obtain rfl:d=_:=h;exact⟨rfl,rfl⟩)
  | (rcases h with rfl |⟨t,rfl⟩ <;> exact⟨rfl,rfl⟩)
def Ni {x:Cx} {t:T}:Bw x (.sl t []) (.slice none 0 0):=⟨none,0,rfl,Nat.le_refl _,AS,.inl rfl⟩
def V8 {x:Cx} {c d:AC} {v:Value} (h:Gc c d) (r:Bw x c v):Bw x d v:=by
 cases c <;> first
  | exact h.elim
  | (obtain rfl:d=_:=h;exact r)
  | (obtain rfl:v=_:=r;rcases h with rfl |⟨t,rfl⟩;rfl;exact Ni)
def Ui {x:Cx} {l m:List AC} {vs:List Value} (a:E2 Gc l m) (b:Bc (Bw x) l vs):Bc (Bw x) m vs:=ZT (R:=Bw x) (fun _ _ _ _=>V8) a b
section
variable {P:Program} {E:Env} {TI:TypeId->Info} {x:Cx} {s:St} {a:Act}
def bu:∀(l:List Value) (off k:Nat) (c:Array Value),((l.zipIdx k).foldl (fun (cs:Array Value) (x:Value×Nat)=>cs.setIfInBounds (off+x.2) x.1) c).toList=Dw c.toList (off+k) l
 | [],off,k,c=>by simp[Pf]
 | v::l,off,k,c=>by
  rw[List.zipIdx_cons,List.foldl_cons,bu l off (k+1),Array.toList_setIfInBounds,<-Nat.add_assoc,XK]
def bf {place:Nat->Option (Nat×Nat)} {c:Array Value} {i:Nat} {v:Value} {r:List (Nat×Value)} {off n:Nat} (h:place i=some (off,n)) (k:v.cells.size=n) (hf:off+n<=c.size):
  ∃d,d.toList=Dw c.toList off v.cells.toList/\Instr.fill place c ((i,v)::r)=Instr.fill place d r:=by
 refine⟨v.cells.zipIdx.foldl (fun cs (x,j)=>cs.setIfInBounds (off+j) x) c,?_,?_⟩
 ·have:=bu v.cells.toList off 0 c;rw[Nat.add_zero] at this;rw[<-this,<-Array.foldl_toList,Array.toList_zipIdx]
 have f:¬(v.cells.size≠n\/off+v.cells.size>c.size):=AA
 rw[Instr.fill];simp only[h];rw[if_neg (by simpa using f)]
def Vf (j:∀o,C6 x (ev s.sl o) (a.eval o)) {d:List (Nat×Nat×Bool)} {pl:Nat->Option (Nat×Nat)} (k:∀(i o n:Nat) (g:Bool),d[i]? =some (o,n,g)->pl i=some (o,n)):
  ∀(parts:List (Nat×Operand)) (cs r:List AC) (c:Array Value),Ja d (ev s.sl) parts cs=some r->Bc (Bw x) cs c.toList->
   ∃q,Instr.fill pl c (parts.map fun p=>(p.1,a.eval p.2))=some q/\Bc (Bw x) r q.toList
 | [],cs,r,c,h,u=>⟨c,rfl,by cases h;exact u⟩
 | (i,o)::parts,cs,r,c,h,u=>by
  simp only[Ja] at h
  split at h
  ·rename_i off n g F
   split at h
   ·rename_i C
    obtain⟨A,B,h3⟩:=C;have f:=Md (j o) B;have D:=u.length;simp only[Array.length_toList] at D;obtain⟨q,J,K⟩:=bf (c:=c) (r:=parts.map fun p=>(p.1,a.eval p.2)) (k i off n g F) (by have:=f.length;rw[A] at this;simpa using this.symm) AA;obtain⟨z,G,H⟩:=Vf j k parts _ r q h (by rw[J];exact u.Dw off f);exact⟨z,by rw[List.map_cons,K];exact G,H⟩
   cases h
  cases h
def QC {o:Oper} {u:Value} {w w':World} {N:Act->World->Prop} {Q:Exit->Act->World->Prop} (f:(execOp a.eval o).run P w= .ok (.value u) w') (d:N (a.put o.dst u) w'):o.wp P a w N Q:=by
 unfold Oper.wp;rw[f];exact d
def Sound (P:Program) (E:Env) (TI:TypeId->Info) (o:Oper):Prop:=
 ∀{w0:World} {X:WX} {β:Nat->Option Nat} {s:St} {a:Act} {w:World},Bt w0 X β s a w->∀{f:D4},GY E TI o (DU o) (ev s.sl) (AR s.bk) (fun g=>g=f)->
  ∀{N:Act->World->Prop} {Q:Exit->Act->World->Prop},(∀β' a' w',Bt w0 X β' (s.app o.dst f) a' w'->N a' w')->o.wp P a w N Q
def oY {l:List AV} {vs:List Value} (h:Bc (C6 x) l vs):∀{d:List (Nat×Nat)},Qy l=some d->Bc (fun p=>FD x p.1 p.2 0) d vs:=by
 induction h with
 | nil=>intro d h;cases h;exact .nil
 | cons q _ f=>
  intro d h;unfold Qy at h
  split at h <;> rename_i e <;> cases e
  ·split at h
   ·rename_i e;cases h;exact .cons (q.resolve_left nofun) (f e)
   cases h
  cases h
def uf {l:List AV} {vs:List Value} (h:Bc (C6 x) l vs):∀{d:List (Nat×Nat×Nat)},Sp l=some d->Bc (fun p=>FD x p.1 p.2.1 p.2.2) d vs:=by
 induction h with
 | nil=>intro d h;cases h;exact .nil
 | cons q _ f=>
  intro d h;unfold Sp at h
  split at h <;> rename_i e <;> cases e
  ·split at h
   ·rename_i e;cases h;exact .cons (q.resolve_left nofun) (f e)
   cases h
  cases h
def PG (h:∀y:Operand,C6 x (ev s.sl y) (a.eval y)):∀l:List Operand,Bc (C6 x) (l.map (ev s.sl)) (l.map a.eval)
 | []=> .nil
 | y::l=> .cons (h y) (PG h l)
end
def T.beq_refl (t:T):T.beq t t=true:=by induction t <;> simp_all [T.beq]
def Good (F:(Nat->Option BD)->(D4->Prop)->Prop):Prop:=∀{bk:Nat->Option BD} {K:D4->Prop},F bk K->∃f,K f/\∀(Dx:Nat->Option BD) (K':D4->Prop),(∀id∈f.rd,bk id=Dx id)->K' f->F Dx K'
def vv {bk Dx:Nat->Option BD} {id v:Nat} (h:bk id=Dx id) (e:BP bk id=v):BP Dx id=v:=by unfold BP;rw[<-h];exact e
def Zc {op:BinOp} {k:IntKind} {a b:Int} {K:AC->Prop} (h:arith op k a b K):∃c,K c/\∀d:AC->Prop,d c->arith op k a b d:=by
 unfold arith at h ⊢
 split at h <;> first
  | exact⟨_,h _ rfl,fun d i c f=>f ▸ i⟩
  | exact⟨_,(h _ rfl).2,fun d i c f=>f ▸⟨(h _ rfl).1,i⟩⟩
def Qm {len:Nat} {lo i mx:Option AV} {K:Nat->Nat->Bool->Prop} (h:KA len lo i mx K):∃a b c,K a b c/\∀d:Nat->Nat->Bool->Prop,d a b c->KA len lo i mx d:=by
 unfold KA at h ⊢
 split at h <;> first
  | exact h.elim
  | exact⟨_,_,_,h _ rfl,fun d f c n=>n ▸ f⟩
  | exact⟨_,_,_,h.2 _ rfl,fun d f=>⟨h.1,fun l q=>q ▸ f⟩⟩
  | exact⟨_,_,_,h.2 _ _ ⟨rfl,rfl⟩,fun d f=>⟨h.1,fun l m ⟨j,k⟩=>j ▸ k ▸ f⟩⟩
def nx {u:T} {x:AV} {lo q mx:Option AV}:Good fun bk=>Qk bk u x lo q mx:=by
 intro bk K h;unfold Qk at h ⊢
 split at h
 ·obtain⟨i,h⟩:=h;obtain⟨a,b,c,h3,d⟩:=Qm (h _ rfl);exact⟨_,h3 _ rfl,fun _ k _ f=>⟨i,fun n r=>r ▸ d _ fun l' j=>j ▸ f⟩⟩
 ·obtain⟨i,h⟩:=h
  split at h
  ·rename_i z
   obtain⟨a,b,c,h3,d⟩:=Qm h;have h3:=h3 _ _ ⟨rfl,rfl⟩;cases c <;> exact⟨_,h3,fun _ k hb f=>⟨i,by rw[if_pos (vv (hb _ AS) z)];exact d _ fun o n ⟨e1,e2⟩=>by subst e1 e2;exact f⟩⟩
  exact h.elim
 ·obtain⟨a,b,c,h3,d⟩:=Qm h;exact⟨_,h3,fun _ k _ f=>d _ f⟩
 exact h.elim
section
variable {bk Dx:Nat->Option BD}
def iy:∀{f:List (Nat×Nat)} {j:List ((t:T)×el t)},(∀id∈f.map (·.1),bk id=Dx id)->Pz bk f j->Pz Dx f j
 | [],[],_,h=>h
 | p::_,_::_,i,h=>⟨(i p.1 AS).symm.trans h.1,iy (fun id d=>i id (List.mem_cons_of_mem _ d)) h.2⟩
 | [],_::_,_,h | _::_,[],_,h=>h
def N0 {c d:AC} (h:∀id∈DJ c,bk id=Dx id) (k:IE bk c d):IE Dx c d:=by
 cases c <;> first | exact k | skip
 case Aj t id v off len=>obtain⟨l,i,j⟩:=k;exact⟨l,h id (by simp[DJ]) ▸ i,j⟩
 case BU id v off=>obtain⟨i,t,x,j,h3⟩:=k;exact⟨i,t,x,h id (by simp[DJ]) ▸ j,h3⟩
 case IS f ps=>exact k.imp (fun⟨n,i,j⟩=>⟨n,iy h i,j⟩) id
def xG {t0:T} {c d:AC} (h:∀id∈DJ c,bk id=Dx id) (f:Xp bk t0 c d):Xp Dx t0 c d:=by
 cases c <;> first | exact f | skip
 case Aj t id v off len=>obtain⟨i,l,j,k⟩:=f;exact⟨i,l,h id (by simp[DJ]) ▸ j,k⟩
def iz {l2:List Nat} (j:∀id∈l2,bk id=Dx id):∀{f:List (Nat×Nat)} {n:List ((t:T)×el t)},(∀id∈f.map (·.1),bk id=Dx id)->P0 bk l2 f n->P0 Dx l2 f n
 | [],[],_,h=>h
 | p::_,⟨t,x⟩::_,k,h=>by
  refine⟨?_,iz j (fun id d=>k id (List.mem_cons_of_mem _ d)) h.2⟩;have e:=k p.1 AS;have i:=h.1
  cases t <;> first
   | exact e.symm.trans i
   | (obtain⟨id,v,g1,g2,q⟩:=i;exact⟨id,v,g1,e.symm.trans g2,(j id g1).symm.trans q⟩)
 | [],_::_,_,h | _::_,[],_,h=>h
def xD {l2:List Nat} {c d:AC} (h:∀id∈DJ c,bk id=Dx id) (j:∀id∈l2,bk id=Dx id) (i:Xo bk l2 c d):Xo Dx l2 c d:=by
 cases c
 case IS f ps=>obtain⟨n,h3,k⟩:=i;exact⟨n,iz j h h3,k⟩
 all_goals exact N0 (d:=d) h i
def sT {i v:Nat} {c d:AC} (h:∀id∈DJ c,bk id=Dx id) (f:SG bk i v c d):SG Dx i v c d:=by
 cases c <;> first | exact f | skip
 case BU j w off=>exact f.imp id fun⟨k,o,n,h3⟩=>⟨k,o,(h j (by simp[DJ])).symm.trans n,h3⟩
def ZR {R R':AC->AC->Prop}:∀{l m:List AC},(∀c∈l,∀d,R c d->R' c d)->E2 R l m->E2 R' l m
 | [],[],_,h=>h
 | c::_,_::_,f,h=>⟨f c AS _ h.1,ZR (fun c i=>f c (by simp[i])) h.2⟩
 | [],_::_,_,h | _::_,[],_,h=>h
def L4 {R R':AC->AC->Prop}:∀{l m:List AV},(∀c d,(∀id∈DJ c,id∈DS l)->R c d->R' c d)->Fy R l m->Fy R' l m
 | [],[],_,h=>h
 | a::l,b::_,hR,h=>by
  refine⟨?_,L4 (fun c d j=>hR c d fun i f=>?_) h.2⟩
  ·have h:=h.1;cases a <;> cases b <;> first | exact h.elim | skip
   ·exact hR _ _ (fun i f=>by simp[DS,f]) h
   exact ZR (fun c j d=>hR c d fun i f=>List.mem_append_left _ (List.mem_flatMap.2 ⟨c,j,f⟩)) h
  have:=j i f;cases a <;> simp[DS,this]
 | [],_::_,_,h | _::_,[],_,h=>h
end
def nd {E:Env} {g:FuncId} {args:List AV} {d:Nat}:Good fun bk=>Oc E g args d bk:=by
 intro bk K h;rcases h with⟨a,r,f,k,h⟩ |⟨a,r,f,k,h⟩ | h |⟨i,b,a,r,f,k,h⟩ |⟨i,b,a,r,f,k,h⟩ | h |⟨i,b,a,r,b1,f,k,h⟩ |⟨l2,a,r,f,k,h⟩ |⟨i,b,a,r,b1,f,k,h⟩ |⟨t0,a,r,f,k,h⟩
 ·exact⟨_,h,fun Dx _ hb n=> .inl ⟨a,r,f,k,by rw[vv (hb d AS) rfl];exact n⟩⟩
 ·exact⟨_,h,fun Dx _ hb n=> .inr (.inl ⟨a,r,fun u=>L4 (fun c _ q=>N0 fun i z=>hb i (by simp[q i z])) (f u),k,by rw[vv (hb d AS) rfl];exact n⟩)⟩
 ·split at h
  ·split at h
   ·rename_i F
    split at h
    ·rename_i n
     split at h
     ·rename_i G
      obtain⟨a,r,b1,f,k,h⟩:=h;refine⟨_,h,fun Dx _ hb B=> .inr (.inr (.inl ?_))⟩;simp only[F,<-hb _ (List.mem_cons_self ..),n,if_pos G];exact⟨a,r,b1,fun u=>⟨(f u).1,L4 (fun c _ q=>N0 fun i z=>hb i (by simp[q i z])) (f u).2⟩,k,B⟩
     exact h.elim
    exact h.elim
   exact h.elim
  exact h.elim
 ·exact⟨_,h,fun _ _ hb n=> .inr (.inr (.inr (.inl ⟨i,b,a,r,fun u=>⟨(hb i AS).symm.trans (f u).1,(f u).2⟩,k,n⟩)))⟩
 ·refine⟨_,h,fun _ _ hb n=> .inr (.inr (.inr (.inr (.inl ⟨i,b,a,r,fun u=>?_,k,n⟩))))⟩;obtain⟨⟨g1,g2,C⟩,D⟩:=f u;refine⟨⟨g1,(hb i AS).symm.trans g2,C⟩,L4 (fun c _ q=>N0 fun j A=>hb j ?_) D⟩;have:=List.all_eq_true.1 C j (q j A);simpa using this
 ·exact h.elim
 ·exact⟨_,h,fun _ _ hb n=> .inr (.inr (.inr (.inr (.inr (.inr (.inl ⟨i,b,a,r,b1,fun u=>⟨(hb i AS).symm.trans (f u).1,(f u).2⟩,k,n⟩))))))⟩
 ·exact⟨_,h,fun Dx _ hb n=> .inr (.inr (.inr (.inr (.inr (.inr (.inr (.inl ⟨l2,a,r,fun u=>L4 (fun c _ q=>xD (fun i z=>hb i (by simp[q i z])) fun i z=>hb i (by simp[z])) (f u),k,by rw[vv (hb d AS) rfl];exact n⟩)))))))⟩
 ·exact⟨_,h,fun _ _ hb n=> .inr (.inr (.inr (.inr (.inr (.inr (.inr (.inr (.inl ⟨i,b,a,r,b1,fun u=>⟨(hb i AS).symm.trans (f u).1,L4 (fun c _ q=>sT fun j A=>hb j (by simp[q j A])) (f u).2⟩,k,n⟩))))))))⟩
 exact⟨_,h,fun _ _ hb n=> .inr (.inr (.inr (.inr (.inr (.inr (.inr (.inr (.inr ⟨t0,a,r,fun u=>L4 (fun c _ q=>xG fun i z=>hb i (q i z)) (f u),k,n⟩))))))))⟩
def ZJ {TI:TypeId->Info} {b:Builtin} {D:List TypeId} {args:List AV} {d:Nat} (hlen:∀t l,args=[.one (.sl t l)]->l.length<=140737488355328):Good fun bk=>Ix TI b D args d bk:=by
 intro bk K h;unfold Ix at h ⊢
 split at h <;> try exact h.elim
 ·exact⟨_,h.2 _ ⟨rfl,hlen _ _ rfl⟩,fun _ j _ f=>⟨h.1,fun n k=>k.eq ▸ f⟩⟩
 iterate 2
  obtain⟨r,h⟩:=h
  split at h
  ·rename_i C
   exact⟨_,h _ ⟨rfl⟩,fun _ j hb f=>⟨r,by rw[if_pos (vv (hb _ AS) C)];exact fun n k=>k.eq ▸ f⟩⟩
  exact h.elim
 ·exact⟨_,h.2,fun _ j _ f=>⟨h.1,f⟩⟩
 ·exact⟨_,h.2 _ ⟨rfl⟩,fun _ j _ f=>⟨h.1,fun n k=>k.eq ▸ f⟩⟩
 ·exact⟨_,h.2 _ ⟨rfl⟩,fun _ j _ f=>⟨h.1,fun n k=>k.eq ▸ f⟩⟩
 ·exact⟨_,h.2,fun _ j _ f=>⟨h.1,f⟩⟩
 ·exact⟨_,h _ rfl,fun _ j _ f c z=>z ▸ f⟩
 ·exact⟨_,h _ rfl,fun _ j _ f c z=>z ▸ f⟩
 ·obtain⟨r,l2,q,h⟩:=h;exact⟨_,h _ rfl,fun Dx j hb f=>⟨r,l2,fun u=>⟨N0 (fun i A=>hb i (by simp[A])) (q u).1,(q u).2⟩,fun n k=>by rw[vv (hb d AS) rfl];exact k ▸ f⟩⟩
 all_goals
  obtain⟨r,h⟩:=h
  split at h
  ·rename_i f
   split at h
   ·rename_i C
    obtain⟨l2,q,h⟩:=h;refine⟨_,h _ _ ⟨rfl,rfl⟩,fun Dx j hb B=>⟨r,?_⟩⟩;simp only[<-hb _ (List.mem_cons_self ..),f,if_pos C];exact⟨l2,fun u=>⟨(q u).1,(q u).2.1,N0 (fun i A=>hb i (by simp[A])) (q u).2.2.1,(q u).2.2.2⟩,fun l' n ⟨e1,e2⟩=>by subst e1 e2;exact B⟩
   exact h.elim
  exact h.elim
def gz {K:D4->Prop} {g:D4} (h:Nz K g):∃(t:T) (id v:Nat) (l:List (el t)),g=⟨.one (.Aj t id v 0 l.length),[(id,.arr v t l)],g.rd⟩/\id≠0/\K ⟨.one (.sl t l),[(id,.dead v)],g.rd⟩/\
  ∀d:D4->Prop,d ⟨.one (.sl t l),[(id,.dead v)],g.rd⟩->Nz d g:=by
 obtain⟨A,B,z⟩:=g;unfold Nz at h
 split at h
 ·rename_i t id v off n i D C l k q
  split at h
  ·rename_i f
   simp only at k q;have j:=f;simp only[Bool.and_eq_true,bne_iff_ne,beq_iff_eq] at f;obtain⟨⟨⟨⟨c1,rfl⟩,rfl⟩,rfl⟩,r⟩:=f;obtain rfl:=T.beq_eq r;obtain rfl:=h.1 ();subst k q;exact⟨t,id,v,l,rfl,c1,h.2,fun d u=>by unfold Nz;simp only;rw[if_pos j];exact⟨fun _=>trivial,u⟩⟩
  exact h.elim
 exact h.elim
def Ub {TI:TypeId->Info} {b:Builtin} {f:List TypeId} {args:List AV} {d:Nat} {bk:Nat->Option BD} {K:D4->Prop}:
  Qb TI b f args d bk K↔Ix TI b f args d bk K\/(b= .append/\Ix TI b f args d bk (Nz K)):=by
 cases b <;> simp[Qb]
def nu {TI:TypeId->Info} {f:List TypeId} {args:List AV} {d:Nat} {bk:Nat->Option BD} {K:D4->Prop} (h:Ix TI .append f args d bk K):args.length=2:=by
 unfold Ix at h
 split at h <;> first | contradiction | exact h.elim | rfl
def ZX {E:Env} {TI:TypeId->Info} {o:Oper} {d:Nat} {e:Operand->AV} (hlen:∀x t l,e x= .one (.sl t l)->l.length<=140737488355328):Good fun bk=>GY E TI o d e bk:=by
 intro bk K h;unfold GY at h ⊢;cases Z:o.op <;> simp only[Z] at h ⊢ <;> (try exact h.elim)
 case move x | assign x=>exact⟨_,h,fun _ _ _ r=>r⟩
 case nilCheck x=>
  revert h;generalize e x=X;intro h
  split at h <;> first
   | exact⟨_,h,fun _ _ _ r=>r⟩
   | exact h.elim
   | (split at h
      ·rename_i D;exact⟨_,h,fun _ _ hb r=>by simp only[if_pos (vv (hb _ (List.mem_cons_self ..)) D)];exact r⟩
      exact h.elim)
 case pick c x y=>
  revert h;generalize e c=X;intro h
  split at h <;> first
   | exact⟨_,h,fun _ _ _ r=>r⟩
   | exact h.elim
 case alloc t=>exact⟨_,h.2,fun _ _ hb r=>⟨h.1,by rw[vv (hb d AS) rfl];exact r⟩⟩
 case box t x=>
  revert h;generalize e x=X;intro h
  split at h <;> first
   | exact h.elim
   | exact⟨_,h,fun _ _ hb r=>by rw[vv (hb d AS) rfl];exact r⟩
 case extract x i=>
  revert h;generalize e x=X;intro h
  split at h
  ·split at h
   ·exact⟨_,h,fun _ _ _ r=>r⟩
   exact h.elim
  exact h.elim
 case load t x=>
  simp only[Q8] at h ⊢;obtain⟨A,h⟩:=h
  revert h;generalize e x=X;intro h
  split at h
  ·split at h
   ·rename_i r
    split at h
    ·rename_i D;exact⟨_,h,fun _ _ hb G=>⟨A,by simp only[<-hb _ (List.mem_cons_self ..),r,if_pos D];exact G⟩⟩
    exact h.elim
   exact h.elim
  ·split at h
   ·rename_i D;exact⟨_,h,fun _ _ _ r=>⟨A,by simp only[if_pos D];exact r⟩⟩
   exact h.elim
  ·exact⟨_,h.2,fun _ _ _ r=>⟨A,h.1,r⟩⟩
  ·split at h
   ·rename_i r
    split at h
    ·rename_i D
     obtain⟨z,C,h⟩:=h
     split at h
     ·rename_i J;exact⟨_,h,fun _ _ hb G=>⟨A,by simp only[<-hb _ (List.mem_cons_self ..),r,if_pos D];exact⟨z,C,by simp only[if_pos J];exact G⟩⟩⟩
     exact h.elim
    exact h.elim
   exact h.elim
  exact h.elim
 case store t p x=>
  obtain⟨A,h⟩:=h
  revert h;generalize e p=X;generalize e x=Y;intro h
  split at h
  ·generalize L:bk _=B at h
   split at h <;> try exact h.elim
   split at h
   ·rename_i D;exact⟨_,h,fun _ _ hb r=>⟨A,by simp only[<-hb _ (List.mem_cons_self ..),L,if_pos D];exact r⟩⟩
   exact h.elim
  ·generalize L:bk _=B at h
   split at h <;> try exact h.elim
   split at h
   ·rename_i D
    obtain⟨z,C,h⟩:=h;exact⟨_,h _ rfl,fun _ _ hb r=>⟨A,by simp only[<-hb _ (List.mem_cons_self ..),L,if_pos D];exact⟨z,C,fun l' H=>H ▸ r⟩⟩⟩
   rename_i O
   split at h
   ·rename_i D
    obtain⟨x0,z,C,h⟩:=h;exact⟨_,h _ rfl,fun _ _ hb r=>⟨A,by simp only[<-hb _ (List.mem_cons_self ..),L,if_neg O,if_pos D];exact⟨x0,z,C,fun l' H=>H ▸ r⟩⟩⟩
   exact h.elim
  exact h.elim
 case fieldAddr t x i=>
  obtain⟨A,h⟩:=h
  revert h;generalize e x=X;generalize (TI t).fields[i]? =Y;intro h
  split at h <;> first
   | exact⟨_,h,fun _ _ _ r=>⟨A,r⟩⟩
   | exact h.elim
   | (split at h
      ·rename_i D;exact⟨_,h,fun _ _ hb r=>⟨A,by simp only[if_pos (vv (hb _ (List.mem_cons_self ..)) D)];exact r⟩⟩
      exact h.elim)
 case field t x i=>
  obtain⟨A,h⟩:=h
  revert h;generalize e x=X;generalize (TI t).fields[i]? =Y;intro h
  split at h
  ·split at h
   ·rename_i D;exact⟨_,h,fun _ _ _ r=>⟨A,by simp only[if_pos D];exact r⟩⟩
   exact h.elim
  exact h.elim
 case build t ps=>
  revert h;generalize (TI t).arr=q;intro h
  split at h <;> (obtain⟨A,h⟩:=h;split at h) <;> first
   | exact h.elim
   | exact⟨_,h,fun _ _ _ r=>⟨A,r⟩⟩
 case buildSlice t n ps=>
  revert h;generalize (TI t).pt=q;intro h
  split at h
  ·split at h
   ·exact⟨_,h.2,fun _ _ _ r=>⟨h.1,r⟩⟩
   exact h.elim
  obtain⟨A,C,xs,h3,h | h⟩:=h
  ·exact⟨_,h,fun _ _ hb r=>⟨A,C,xs,h3,.inl (by rw[vv (hb d AS) rfl];exact r)⟩⟩
  exact⟨_,h,fun _ _ _ r=>⟨A,C,xs,h3,.inr r⟩⟩
 case makeSlice t x y=>
  obtain⟨A,h⟩:=h
  revert h;generalize e x=X;generalize e y=Y;intro h
  split at h
  ·exact⟨_,h.2 _ _ ⟨rfl,rfl⟩,fun _ _ hb r=>⟨A,h.1,fun k z ⟨e1,e2⟩=>by subst e1 e2;rw[vv (hb d AS) rfl];exact r⟩⟩
  exact h.elim
 case indexAddr t x i=>
  revert h;generalize (TI t).pt=q;generalize (TI t).arr=q';generalize e x=X;generalize e i=Y;intro h
  split at h
  ·split at h
   ·obtain⟨p,C,h⟩:=h;exact⟨_,h,fun _ _ _ r=>⟨p,C,r⟩⟩
   exact h.elim
  split at h
  ·split at h
   ·split at h
    ·rename_i D;exact⟨_,h.2,fun _ _ hb r=>by simp only[if_pos (vv (hb _ (List.mem_cons_self ..)) D)];exact⟨h.1,r⟩⟩
    exact h.elim
   ·obtain⟨u,z,A,h⟩:=h;exact⟨_,h,fun _ _ _ r=>⟨u,z,A,r⟩⟩
   exact h.elim
  obtain⟨A,h⟩:=h
  split at h
  ·obtain⟨C,z,h3,h⟩:=h;exact⟨_,h,fun _ _ _ r=>⟨A,C,z,h3,r⟩⟩
  ·obtain⟨C,h⟩:=h
   split at h
   ·rename_i D;exact⟨_,h.2 _ rfl,fun _ _ hb r=>⟨A,C,by simp only[if_pos (vv (hb _ (List.mem_cons_self ..)) D)];exact⟨h.1,fun j W=>W ▸ r⟩⟩⟩
   exact h.elim
  exact h.elim
 case slice t x lo hi mx=>
  revert h;generalize e x=X;intro h
  split at h
  ·obtain⟨A,h⟩:=h;obtain⟨p,q,c,h3,C⟩:=Qm (h _ rfl);exact⟨_,h3.2 _ rfl,fun _ _ _ r=>⟨A,fun n O=>O ▸ C _ ⟨h3.1,fun z J=>J ▸ r⟩⟩⟩
  obtain⟨f,C,h3⟩:=nx h.2;exact⟨f,C,fun _ _ hb r=>⟨h.1,h3 _ _ hb r⟩⟩
 case index t x i=>
  revert h;generalize (TI t).arr=q;generalize e x=X;generalize e i=Y;intro h
  split at h
  ·split at h
   ·obtain⟨A,h⟩:=h
    split at h
    ·rename_i D;exact⟨_,h,fun _ _ _ r=>by simp only[if_pos D];exact⟨A,r⟩⟩
    exact h.elim
   exact h.elim
  obtain⟨A,h⟩:=h
  split at h
  ·obtain⟨b,C,h⟩:=h;exact⟨_,h _ ⟨rfl⟩,fun _ _ _ r=>⟨A,b,C,fun z J=>J.eq ▸ r⟩⟩
  exact h.elim
 case binOp op t x y t'=>
  revert h;generalize e x=X;generalize e y=Y;intro h
  split at h
  ·split at h
   ·rename_i G
    obtain⟨c,h3,C⟩:=Zc h;exact⟨_,h3,fun _ _ _ r=>by simp only[if_pos G];exact C _ r⟩
   exact h.elim
  ·obtain⟨A,h⟩:=h;cases op <;> first | exact h.elim | exact⟨_,h _ rfl,fun _ _ _ r=>⟨A,fun c F=>F ▸ r⟩⟩
  ·obtain⟨A,h⟩:=h;cases op <;> first | exact h.elim | exact⟨_,h _ rfl,fun _ _ _ r=>⟨A,fun c F=>F ▸ r⟩⟩
  ·cases op <;> first | exact h.elim | exact⟨_,h _ rfl,fun _ _ _ r c F=>F ▸ r⟩ | exact⟨_,h.2 _ rfl,fun _ _ _ r=>⟨h.1,fun c F=>F ▸ r⟩⟩
  exact h.elim
 case unOp op t x=>
  revert h;generalize e x=X;intro h
  split at h <;> first | exact h.elim | exact⟨_,h _ rfl,fun _ _ _ r c F=>F ▸ r⟩
 case convert src dst x=>
  obtain⟨A,h⟩:=h
  revert h;generalize e x=X;generalize (TI dst).kind=Y;intro h
  split at h <;> first
   | exact h.elim
   | exact⟨_,h _ rfl,fun _ _ _ r=>⟨A,fun c F=>F ▸ r⟩⟩
   | (obtain⟨g1,g2,T,l,U,h⟩:=h;exact⟨_,h _ rfl,fun _ _ _ r=>⟨A,g1,g2,T,l,U,fun z J=>J ▸ r⟩⟩)
 case makeFunc fn first cap=>
  split at h
  ·exact⟨_,h,fun _ _ _ r=>r⟩
  exact h.elim
 case call c=>
  cases F:c.callee with
  | builtin b=>
   simp only[F] at h ⊢
   have M:∀t l,c.args.toList.map e=[.one (.sl t l)]->l.length<=140737488355328:=fun t l M=>by
    obtain⟨x,_,_,C,_⟩:=List.map_eq_cons_iff.1 M;exact hlen x t l C
   have Q:= @ZJ TI b c.argTypes.toList _ d M;rcases Ub.1 h with h |⟨rfl,h⟩
   ·obtain⟨f,A,C⟩:=Q h;exact⟨f,A,fun _ _ hb r=>Ub.2 (.inl (C _ _ hb r))⟩
   obtain⟨g,A,C⟩:=Q h;obtain⟨t,id,v,l,hg,_,V,N⟩:=gz A;exact⟨_,V,fun _ _ hb r=> .inr (.inl (C _ _ hb (N _ r)))⟩
  | value y=>
   simp only[F] at h ⊢
   revert h;generalize e y=X;intro h
   split at h <;> first | exact h.elim | exact nd h
  | invoke _ _=>simp only[F] at h
def EU (w:World) (I:PI) (t:T):List (el t)->List Value->Prop
 | [],fl=>fl=[]
 | x::l,fl=>∃us r,fl=us++r/\rep w I t x us/\EU w I t l r
section
variable {w:World} {I:PI} {t:T}
def XR {b o:Nat} {us vs:List Value}:w.rangeAt b o (us++vs)↔w.rangeAt b o us/\w.rangeAt b (o+us.length) vs:=by
 constructor
 ·refine fun h=>⟨fun j v d=>h j v ?_,fun j v d=>?_⟩
  ·rwa [List.getElem?_append_left (Jd d)]
  rw[Nat.add_assoc];exact h (us.length+j) v (by rw[List.getElem?_append_right AA];simpa using d)
 rintro⟨f,i⟩ j v d
 rw[List.getElem?_append] at d
 split at d
 ·exact f j v d
 have:=i _ v d;rwa [(AA:o+us.length+(j-us.length)=o+j)] at this
def EU.length:∀{l:List (el t)} {fl:List Value},EU w I t l fl->fl.length=l.length*t.size
 | [],_,h=>by rw[show _=_ from h];simp
 | _::_,_,⟨us,r,e,d,f⟩=>by rw[e,List.length_append,Ny _ _ _ d,EU.length f,List.length_cons,Nat.succ_mul];omega
def EU.one:∀{l:List (el t)} {fl:List Value},EU w I t l fl->∀u∈fl,u.oneCell'=true
 | [],_,h,u,hu=>by rw[show _=_ from h] at hu;simp at hu
 | _::_,_,⟨us,r,e,d,f⟩,u,hu=>(List.mem_append.1 (e ▸ hu)).elim (u7 _ _ _ d u) (EU.one f u)
def EU.append:∀{l l':List (el t)} {fl d:List Value},EU w I t l fl->EU w I t l' d->EU w I t (l++l') (fl++d)
 | [],_,_,_,h,h'=>by rw[show _=_ from h];exact h'
 | _::_,_,_,_,⟨us,r,e,f,i⟩,h'=>⟨us,r++_,by rw[e,List.append_assoc],f,EU.append i h'⟩
def EU.mono {w':World} {I':PI} (hm:∀o b,I o b->I' o b/\w'.heap[b]? =w.heap[b]?):∀{l:List (el t)} {fl:List Value},EU w I t l fl->EU w' I' t l fl
 | [],_,h=>h
 | _::_,_,⟨us,r,e,d,f⟩=>⟨us,r,e,FY hm _ _ _ d,EU.mono hm f⟩
def Xe {b:Nat}:∀{l:List (el t)} {off:Nat},(∀(i:Nat) (x:el t),l[i]? =some x->∃us,rep w I t x us/\w.rangeAt b (off+i*t.size) us)->∃fl,EU w I t l fl/\w.rangeAt b off fl
 | [],_,_=>⟨[],rfl,fun j v n=>by simp at n⟩
 | x::l,off,h=>by
  obtain⟨us,d,f⟩:=h 0 x rfl
  obtain⟨fl,h3,k⟩:=Xe (l:=l) (off:=off+t.size) fun i y q=>by
   obtain⟨us,g1,g2⟩:=h (i+1) y q;exact⟨us,g1,by rwa [Nat.add_mul,Nat.one_mul,Nat.add_comm (i*_),<-Nat.add_assoc] at g2⟩
  refine⟨us++fl,⟨us,fl,rfl,d,h3⟩,XR.2 ⟨by simpa using f,?_⟩⟩;rw[Ny _ _ _ d];exact k
def Xf {b:Nat}:∀{l:List (el t)} {fl:List Value} {off:Nat},EU w I t l fl->w.rangeAt b off fl->∀(i:Nat) (x:el t),l[i]? =some x->∃us,rep w I t x us/\w.rangeAt b (off+i*t.size) us
 | [],_,_,_,_,_,_,d=>by simp at d
 | _::_,_,off,⟨us,r,e,h,j⟩,k,i,x,d=>by
  subst e;have h3:=XR.1 k;cases i with
  | zero=>cases d;exact⟨us,h,by simpa using h3.1⟩
  | succ i=>
   rw[Ny _ _ _ h] at h3;obtain⟨f,g1,g2⟩:=Xf j h3.2 i x d;exact⟨f,g1,by rwa [Nat.add_mul,Nat.one_mul,Nat.add_comm (i*_),<-Nat.add_assoc]⟩
end
section
variable {P:Program} {TI:TypeId->Info} {w0 w:World} {X:WX} {β:Nat->Option Nat} {s:St} {a:Act} {x:Value}
def drop_take {α:Type} {l:List α} {off len i:Nat} {y:α} (h:((l.drop off).take len)[i]? =some y):l[off+i]? =some y:=by
 rw[List.getElem?_take] at h
 split at h
 ·simpa using h
 cases h
def PW (S:Bt w0 X β s a w) {t:T} {id v off len:Nat} {l:List (el t)} {u:Value} (n:Bw (cx X w β (AR s.bk)) (.Aj t id v off len) u) (hb:AR s.bk id=some (.arr v t l)) (hle:off+len<=l.length):
  ∃base cap,u= .slice base ((l.drop off).take len).length cap/\((l.drop off).take len).length<=cap/\((l.drop off).take len).length<=140737488355328/\cap<=maxLen/\
   ((l.drop off).take len=[]\/∃b,live (AR s.bk) id/\β id=some b/\b<w.heap.size/\base=some ⟨b,off*t.size,none⟩/\
     ∀(i:Nat) (y:el t),((l.drop off).take len)[i]? =some y->∃us,rep w (cx X w β (AR s.bk)).I t y us/\w.rangeAt b (off*t.size+i*t.size) us):=by
 obtain⟨base,cap,e,C,k,_,h3⟩:=n.2 (FN hb).symm;have hlen:((l.drop off).take len).length=len:=by simp;omega
 have D:l.length<=140737488355328:=(S.blocks id _ hb).2;refine⟨base,cap,by rw[hlen,e],AA,AA,k,?_⟩
 by_cases j:len=0
 ·subst j;exact .inl (List.take_zero ..)
 rcases h3 with rfl |⟨b,arr,B,f,z,A,F⟩
 ·omega
 obtain⟨d,h,_,r⟩:=(S.blocks id _ hb).1.arr f;refine .inr ⟨b,⟨_,hb,rfl⟩,f,Hn A,z,fun i y q=>?_⟩;rw[<-Nat.add_mul];exact r _ y (drop_take q)
def xH (S:Bt w0 X β s a w) {c:AC} {t:T} {l:List (el t)} {z C:TypeId} (k:P.underlying z=some (.slice C)) (n:Bw (cx X w β (AR s.bk)) c x) (h:IE (AR s.bk) c (.sl t l)):
  ∃news,Src P t.size z x l.length news w/\EU w (cx X w β (AR s.bk)).I t l news:=by
 have key:∀{base:Option Addr} {cap:Nat},x= .slice base l.length cap->(l=[]\/∃b off,base=some ⟨b,off,none⟩/\∀(i:Nat) (y:el t),l[i]? =some y->∃us,rep w (cx X w β (AR s.bk)).I t y us/\w.rangeAt b (off+i*t.size) us)->
   ∃news,Src P t.size z x l.length news w/\EU w (cx X w β (AR s.bk)).I t l news:=by
  rintro base cap rfl (rfl |⟨b,off,rfl,d⟩)
  ·refine⟨[],?_,rfl⟩;cases base with
   | none=>exact Src.ofNil w k cap
   | some B=>exact Src.ofSlice w k B 0 cap [] AS (fun j u hu=>by simp at hu) AS
  obtain⟨fl,f,A⟩:=Xe d;exact⟨fl,Src.ofSlice w k _ _ _ fl f.length (fun j u hu=>by rw[Addr.add_mid];exact A j u hu) f.one,f⟩
 cases c with
 | sl r l'=>
  cases (h:AC.sl t l=AC.sl r l');obtain⟨base,cap,D,f,A,h3⟩:=n;exact key (List.cons.inj D).1 (h3.imp id fun⟨b,off,e,_,d⟩=>⟨b,off,e,d⟩)
 | nil=>
  rcases h with h |⟨r,h⟩ <;> cases h
  exact key n (.inl rfl)
 | Aj r id vv off len=>
  obtain⟨l',hb,hle,h⟩:=h;cases h;obtain⟨base,cap,e,_,_,_,h3⟩:=PW S n hb hle;exact key e (h3.imp (fun q=>q) fun⟨b,_,_,_,e,d⟩=>⟨b,_,e,d⟩)
 | IS=>exact h.elim (fun⟨_,_,e⟩=>nomatch e) nofun
 | BU=>obtain⟨_,_,_,_,e⟩:=h;cases e
 | _=>first | exact h.elim | cases h
def xM (S:Bt w0 X β s a w) {t tx ty:TypeId} {u:T} (hu:u=(TI t).elem) (hT:∀t,It P t (TI t)) (ht:(TI t).sl=true) (hx:(TI tx).sl=true)
  {base:Option Addr} {cap:Nat} {id:Nat} {l l2:List (el u)} (a2:l.length<=cap) (N:cap<=maxLen)
  (hb:cap=0\/∃b arr e',β id=some b/\live (AR s.bk) id/\base=some ⟨b,0,none⟩/\w.heap[b]? =some (.cells arr e' (0,0))/\cap*u.size<=arr.size/\
   ∀(i:Nat) (y:el u),l[i]? =some y->∃us,rep w (cx X w β (AR s.bk)).I u y us/\w.rangeAt b (i*u.size) us)
  {c:AC} (hr:Bw (cx X w β (AR s.bk)) c x) (a5:IE (AR s.bk) c (.sl u l2)) (A:fits (l.length+l2.length) (TI t).FQ)
  {dst:Option Nat} {vv:Nat} {rd:List Nat} (J:id<s.bk.length\/dst=some id/\base=none/\cap=0) (aa:vv=BP (AR s.bk) id+1):
  ∃v' w' q,(Builtin.append_ #[t,tx] ty #[.slice base l.length cap,x]).run P w= .ok v' w'/\
   Bt w0 X q (s.app dst ⟨.one (.Aj u id vv 0 (l++l2).length),[(id,.arr vv u (l++l2))],rd⟩) (a.put dst v') w':=by
 obtain⟨ht,ei,z,hi,f,a1,V,hz,g6⟩:=(hT t).sl ht;obtain⟨hx,_⟩:=(hT tx).sl hx;subst hu;have a6:z.cells.size=(TI t).elem.size:=by have:=(g6 (cx X w β (AR s.bk))).length;rw[L6] at this;simpa using this.symm
 obtain⟨news,hs,D⟩:=xH S hx hr a5;have Q:=hs.newsLen;have M:(l.length+l2.length)*ei.bytes<=140737488355328:=a1 ▸ A;have a8:l.length+l2.length<=140737488355328:=Nat.le_trans (Nat.le_mul_of_pos_right _ V) M;have hlen:(l++l2).length=l.length+l2.length:=List.length_append
 have fin:∀{M4:Option Addr} {n:Nat} {w':World} {o o':Option Nat},E0 w w' o->(id<s.bk.length\/dst=some id/\o=none)->(o=none\/o=β id/\live (AR s.bk) id)->(∀b,o'=some b->(β id=some b/\live (AR s.bk) id)\/w.heap.size<=b)->(l++l2).length<=n->n<=maxLen->
   (∀{I':PI},(∀o b,(cx X w β (AR s.bk)).I o b->I' o b/\w'.heap[b]? =w.heap[b]?)->(n=0/\o'=none)\/∃b arr e,o'=some b/\M4=some ⟨b,0,none⟩/\w'.heap[b]? =some (.cells arr e (0,0))/\n*(TI t).elem.size<=arr.size/\∃fl,EU w' I' (TI t).elem (l++l2) fl/\w'.rangeAt b 0 fl)->
   ∃q,Bt w0 X q (s.app dst ⟨.one (.Aj (TI t).elem id vv 0 (l++l2).length),[(id,.arr vv (TI t).elem (l++l2))],rd⟩) (a.put dst (.slice M4 (l++l2).length n)) w':=by
  intro M4 n w' o o' F h0 h1 h2 h3 h4 h5;refine S.write h0 (by show (l++l2).length<=_;omega) F h1 (.inl (by show _<vv;omega)) (fun _=>h2) fun y hle hw hy hv _=>?_
  subst hw;rcases h5 hle.I with⟨h5,h6⟩ |⟨b,arr,e,h5,h6,h7,h8,fl,h9,Z⟩
  ·exact⟨.inl ⟨hy.trans h6,List.eq_nil_of_length_eq_zero AA⟩,.inr ⟨⟨rfl,Nat.le_of_eq hv.symm⟩,fun _=>⟨_,_,rfl,h3,h4,nofun,.inl h5⟩⟩⟩
  exact⟨.inr ⟨b,arr,e,hy.trans h5,h7,fun i z hz=>by simpa using Xf h9 Z i z hz⟩,.inr ⟨⟨rfl,Nat.le_of_eq hv.symm⟩,fun _=>⟨_,_,rfl,h3,h4,nofun,.inr ⟨b,arr,e,hy.trans h5,by rw[h6];simp,h7,by simpa using h8⟩⟩⟩⟩
 have olds:∃fl,EU w (cx X w β (AR s.bk)).I (TI t).elem l fl/\(cap=0\/∃b,base=some ⟨b,0,none⟩/\w.rangeAt b 0 fl):=by
  rcases hb with h |⟨b,arr,e',h1,_,h2,h3,h4,h5⟩
  ·exact⟨[],(List.eq_nil_of_length_eq_zero AA:l=[]) ▸ rfl,.inl h⟩
  obtain⟨fl,q1,q2⟩:=Xe (off:=0) (fun i y hy=>by simpa using h5 i y hy);exact⟨fl,q1,.inr ⟨b,h2,q2⟩⟩
 obtain⟨olds,r,U⟩:=olds;have K:Src P ei.size tx x l2.length news w:=f ▸ hs
 by_cases C:l.length+l2.length<=cap
 ·rcases hb with rfl |⟨b,arr,e',H,B,rfl,hh,W,a7⟩
  ·obtain rfl:l2=[]:=List.eq_nil_of_length_eq_zero AA;obtain rfl:news=[]:=List.eq_nil_of_length_eq_zero (by simpa using Q);have d:=run_append_nothing (P:=P) w t tx ty _ ei ht hi base l.length 0 a2 x K;obtain⟨q,S'⟩:=fin (M4:=base) (o:=none) (o':=none) .rfl (J.imp_right fun h=>⟨h.1,rfl⟩) (.inl rfl) nofun AA N fun _=> .inl ⟨rfl,rfl⟩
   exact⟨_,w,q,d,by simpa using S'⟩
  have A:0+l.length*(TI t).elem.size+news.length<=arr.size:=by
   have:(l.length+l2.length)*(TI t).elem.size<=cap*(TI t).elem.size:=Nat.mul_le_mul_right _ C;rw[Nat.add_mul] at this;omega
  have Y:=Xw hh A;have d:=run_append_room_src (P:=P) w t tx ty _ ei ht hi b 0 l.length cap x l2.length news K C (fun j hj=>by rw[f];exact (Y j hj).1) (fun j hj=>by rw[f];exact (Y j hj).2);rw[f] at d;obtain⟨L,q1,_,q3⟩:=Px b news (0+l.length*(TI t).elem.size) w arr e' hh
  obtain⟨q,S'⟩:=fin (M4:=some ⟨b,0,none⟩) (o':=some b) (E0.set news _ w) (J.imp_right fun h=>nomatch h.2.1) (.inr ⟨H.symm,B⟩) (fun k hk=> .inl ⟨H.trans hk,B⟩) AA N fun hI=> .inr ⟨b,L,e',rfl,rfl,q1,AA,olds++news,(EU.mono hI r).append (EU.mono hI D),XR.2 ⟨by
   rcases U with rfl |⟨b',e,h⟩
   ·rw[(List.eq_nil_of_length_eq_zero (by rw[r.length,(AA:l.length=0),Nat.zero_mul]):olds=[])];intro j v hj;simp at hj
   cases e;exact iE (fun m hm=> .inl (by rw[r.length] at hm;omega)) h,by rw[r.length];exact iD hh A⟩⟩
  exact⟨_,_,q,d,by rw[<-hlen];exact S'⟩
 have hold:(Builtin.firstCells ei.size l.length (.slice base l.length cap)).run P w.drew= .ok olds.toArray w.drew:=by
  rcases U with rfl |⟨b,rfl,hr⟩
  ·have h0:l.length=0:=AA
   have:olds=[]:=List.eq_nil_of_length_eq_zero (by rw[r.length,h0,Nat.zero_mul]);rw[this,h0];cases base with
   | none=>exact run_firstCells_none w.drew ei.size 0 0 0
   | some ad=>exact run_firstCells_some w.drew ei.size 0 ad 0 0 [] AS (fun j u hu=>by simp at hu)
  exact run_firstCells_some w.drew ei.size l.length _ l.length cap olds (by rw[r.length,f]) fun j u hu=>by rw[Addr.add_mid];simpa using hr j u hu
 have d:=run_append_grow_src (P:=P) w t tx ty _ ei z ht hi hz base l.length cap olds hold x l2.length news K AA AA (growslice_fits AA M);have O:=grownCap_ge w (l.length+l2.length) cap (TI t).Dq;have hle:=grownCap_le_maxLen w (l.length+l2.length) cap (TI t).Dq (by unfold maxLen;omega)
 generalize grownCap w (l.length+l2.length) cap (TI t).Dq=c' at d O hle
 generalize G:(olds++news).toArray++Builtin.zeroCells z.cells (c'-(l.length+l2.length))=arr at d
 have W:arr.size=c'*(TI t).elem.size:=by
  rw[<-G,Array.size_append,size_zeroCells,a6,List.size_toArray,List.length_append,r.length,Q,<-Nat.add_mul,<-Nat.add_mul]
  congr 1;omega
 obtain⟨q,S'⟩:=fin (M4:=some ⟨w.heap.size,0,none⟩) (o:=none) (o':=some w.heap.size) (E0.push (w':=w.drew.alloc (.cells arr (TI t).Dq)) rfl rfl rfl rfl) (J.imp_right fun h=>⟨h.1,rfl⟩) (.inl rfl) (fun b hb=> .inr (by cases hb;exact Nat.le_refl _)) (by rw[hlen];exact O) hle
  fun hI=> .inr ⟨w.heap.size,arr,(TI t).Dq,rfl,rfl,heap_alloc_new w.drew _,Nat.le_of_eq W.symm,olds++news,(EU.mono hI r).append (EU.mono hI D),fun j v hj=>by
   rw[Nat.zero_add];refine (World.cell?_alloc_new w.drew _ _ j).trans ?_;rw[<-G,Array.getElem?_append_left (by simpa using Jd hj)];simpa using hj⟩
 exact⟨_,_,q,d,by rw[<-hlen];exact S'⟩
end
end Go.Abs
