/- Part 2 of a proof. Conditions: each theorem's own. -/
import Derived.Test.YthegappccffcjaaGreatDoorCrM
import Derived.WalkKit
import Derived.Deep.MidRow
import Derived.ArgAppend
import Derived.Laws.Cover3
import Derived.Laws.IdiomStrings
import Derived.Laws.Tables
import Derived.Great.BuildSlice
import Derived.DataShut
import Derived.Deep.AppendSrc
import Derived.Deep.Upon
set_option linter.all false
set_option maxHeartbeats 80000000
set_option maxRecDepth 20000
namespace Go.Abs
 inductive T
  | u8 | u32 | u64 | i8 | i64 | bool | sl (t:T) | pr (a b:T)
  | str | ex | rf (t:T)
 inductive Ex
  | mk (op:Int) (v:(Bool×List UInt32)×(Bool×List UInt32)) (name:ByteArray) (args:List Ex)
def Ex.op:Ex->Int
 | .mk o _ _ _=>o
def Ex.v:Ex->(Bool×List UInt32)×(Bool×List UInt32)
 | .mk _ v _ _=>v
def Ex.name:Ex->ByteArray
 | .mk _ _ s _=>s
def Ex.args:Ex->List Ex
 | .mk _ _ _ l=>l
abbrev el:T->Type
 | .u8=>UInt8 | .u32=>UInt32 | .u64=>UInt64 | .i8=>Int | .i64=>Int | .bool=>Bool
 | .sl t=>List (el t) | .pr a b=>el a×el b
 | .str=>ByteArray | .ex=>Ex | .rf t=>el t
def T.size:T->Nat
 | .pr a b=>a.size+b.size
 | .ex=>7
 | _=>1
def T.beq:T->T->Bool
 | .u8,.u8=>true | .u32,.u32=>true | .u64,.u64=>true | .i8,.i8=>true | .i64,.i64=>true | .bool,.bool=>true
 | .sl a,.sl b=>a.beq b
 | .pr a b,.pr c d=>a.beq c&&b.beq d
 |.str,.str|.ex,.ex=>true
 | .rf a,.rf b=>a.beq b
 | _,_=>false
def T.agg:T->Bool
 |.pr _ _|.ex=>true
 | _=>false
 inductive AC
  | Cd | int (k:IntKind) (n:Int) | bool (b:Bool) | fn (f:FuncId) | nil
  | sl (t:T) (l:List (el t))
  | BK (t:T) (id BY off len:Nat)
  | Nx (t:T) (id BY off len:Nat)
  | BX (id BY off:Nat)
  | Iu (t:T) (id BY i k:Nat)
  | DL (t:T) (x:el t) (off:Nat)
  | ub (e:Bool)
  | own (t:T) (l:List (el t)) (n:Nat)
  | Hx (f:FuncId) (ps:List (Nat×Nat))
  | Fp (f:FuncId) (qs:List ((t:T)×el t))
  | str (s:ByteArray)
  | KZ (ps:List (Nat×Nat×Nat))
  | I8 (p:Nat×Nat×Nat)
 inductive AV
  | one (c:AC) | agg (cs:List AC) | BN (xs:List (Bool×List AC))
 inductive BM
  | var (BY:Nat) (cs:List AC)
  | arr (BY:Nat) (t:T) (l:List (el t))
  | dead (BY:Nat)
def BM.BY:BM->Nat
 | .var v _=>v | .arr v _ _=>v | .dead v=>v
def cells:(t:T)->el t->List AC
 | .u8,x=>[.int .u8 x.toNat]
 | .u32,x=>[.int .u32 x.toNat]
 | .u64,x=>[.int .u64 x.toNat]
 | .i8,x=>[.int .i8 x]
 | .i64,x=>[.int .i64 x]
 | .bool,x=>[.bool x]
 | .sl t,l=>[.sl t l]
 | .pr a b,x=>cells a x.1++cells b x.2
 | .str,x=>[.str x]
 | .rf t,x=>[.DL t x 0]
 | .ex,x=>[.int .i64 x.op,.bool x.v.1.1,.sl .u32 x.v.1.2,.bool x.v.2.1,.sl .u32 x.v.2.2,.str x.name,.sl .ex x.args]
structure EJ (n:Int) (k:Nat):Prop where
 eq:n=k
 le:k<=140737488355328
structure Ah (n:Int) (k:Nat):Prop where
 eq:n=k
structure PM (n:Int) (x:UInt8):Prop where
 eq:n=x.toNat
structure NV (n:Int) (x:UInt32):Prop where
 eq:n=x.toNat
structure iF (n:Int) (x:UInt64):Prop where
 eq:n=x.toNat
def MC:(t:T)->el t->(List AC->Prop)->Prop
 | .u8,x,K=>∀n,PM n x->K [.int .u8 n]
 | .u32,x,K=>∀n,NV n x->K [.int .u32 n]
 | .u64,x,K=>∀n,iF n x->K [.int .u64 n]
 | .i8,x,K=>K [.int .i8 x]
 | .i64,x,K=>K [.int .i64 x]
 | .bool,x,K=>K [.bool x]
 | .sl t,l,K=>K [.sl t l]
 | .pr a b,x,K=>MC a x.1 fun l=>MC b x.2 fun m=>K (l++m)
 | .str,x,K=>K [.str x]
 | .rf t,x,K=>K [.DL t x 0]
 | .ex,x,K=>K [.int .i64 x.op,.bool x.v.1.1,.sl .u32 x.v.1.2,.bool x.v.2.1,.sl .u32 x.v.2.2,.str x.name,.sl .ex x.args]
theorem Pz:∀(t:T) (x:el t) (K:List AC->Prop),MC t x K↔K (cells t x)
 |.u8,x,K|.u32,x,K|.u64,x,K=>⟨fun h=>h _ ⟨rfl⟩,fun h n d=>by rw[d.eq];exact h⟩
 |.i8,_,_|.i64,_,_|.bool,_,_|.sl _,_,_|.str,_,_|.ex,_,_|.rf _,_,_=>Iff.rfl
 | .pr a b,x,K=>by
  show MC a x.1 _↔_
  rw[Pz a x.1,Pz b x.2]
  rfl
def Gg:Bool×List AC->AV
 | (true,cs)=> .agg cs
 | (false,c::_)=> .one c
 | (false,[])=> .one .Cd
def AV.cs:AV->List AC
 | .one c=>[c]
 | .agg cs=>cs
 | .BN _=>[]
def AV.full:AV->Bool
 | .one .Cd=>false
 |.one _|.agg _=>true
 | .BN _=>false
def AV.comp:AV->Bool×List AC
 | .one c=>(false,[c])
 | .agg cs=>(true,cs)
 | .BN _=>(false,[])
def comp (t:T) (x:el t):Bool×List AC:=(t.agg,cells t x)
def X0 (t:T) (x:el t):AV:=Gg (comp t x)
structure St where
 sl:List AV
 bk:List (Option BM)
def nth:List AV->Nat->AV
 | [],_=> .one .Cd
 | a::_,0=>a
 | _::l,n+1=>nth l n
def Af:List (Option BM)->Nat->Option BM
 | [],_=>none
 | a::_,0=>a
 | _::l,n+1=>Af l n
def Dj {α:Type}:List α->Nat->α->List α
 | [],_,_=>[]
 | _::l,0,x=>x::l
 | a::l,n+1,x=>a::Dj l n x
def BY (bk:Nat->Option BM) (id:Nat):Nat:=
 match bk id with
 | some b=>b.BY
 | none=>0
structure Info where
 known:Bool:=true
 size:Nat:=1
 agg:Bool:=false
 zero:List AC:=[]
 kind:Option IntKind:=none
 Jf:Bool:=false
 H3:Bool:=false
 pt:Bool:=false
 arr:Option (Nat×Nat×Bool):=none
 sl:Bool:=false
 Dw:TypeId:=0
 elem:T:= .bool
 Cy:el elem
 F5:Nat:=0
 fields:List (Nat×Nat×Bool):=[]
def TW:Value->AV
 | .int k n=> .one (.int k n)
 | .bool b=> .one (.bool b)
 | .slice none 0 0=> .one .nil
 | .string s=> .one (.str s)
 | _=> .one .Cd
def GI:Nat->Option ((t:T)×el t)
 | 0=>some ⟨.pr .i64 (.pr .i64 (.pr .i64 .i64)),(1,0,3,2)⟩
 | _=>none
def ev (s:List AV):Operand->AV
 | .tmp t=>nth s t
 | .const v=>TW v
 | .func f=> .one (.fn f)
 | .global g=>match GI g with
  | some q=> .one (.DL q.1 q.2 0)
  | none=> .one .Cd
structure Du where
 v:AV
 ws:List (Nat×BM):=[]
 rd:List Nat:=[]
def Ew (n:Int):Prop:= -9223372036854775808<=n/\n<9223372036854775808
def fits (n b:Nat):Prop:=n*b<=140737488355328
def arith (op:BinOp) (k:IntKind) (a b:Int) (K:AC->Prop):Prop:=
 match op,k with
 | .add,.i64=>∀c,c=a+b->(Unit->Ew c)/\K (.int .i64 c)
 | .sub,.i64=>∀c,c=a-b->(Unit->Ew c)/\K (.int .i64 c)
 | .mul,.i64=>∀c,c=a*b->(Unit->Ew c)/\K (.int .i64 c)
 | .quo,.i64=>∀c,c=a/b->(Unit->0<=a/\0<b/\Ew c)/\K (.int .i64 c)
 | .rem,.i64=>∀c,c=a%b->(Unit->0<=a/\0<b)/\K (.int .i64 c)
 | .add,k=>∀c,c=k.wrap (a+b)->K (.int k c)
 | .sub,k=>∀c,c=k.wrap (a-b)->K (.int k c)
 | .mul,k=>∀c,c=k.wrap (a*b)->K (.int k c)
 | .quo,k=>∀c,c=k.wrap (a/b)->(Unit->0<=a/\0<b)/\K (.int k c)
 | .rem,k=>∀c,c=a%b->(Unit->0<=a/\0<b)/\K (.int k c)
 | .and,k=>∀c,c=k.wrap (BitVec.ofInt k.bits a &&& BitVec.ofInt k.bits b).toNat->K (.int k c)
 | .or,k=>∀c,c=k.wrap (BitVec.ofInt k.bits a ||| BitVec.ofInt k.bits b).toNat->K (.int k c)
 | .xor,k=>∀c,c=k.wrap (BitVec.ofInt k.bits a ^^^ BitVec.ofInt k.bits b).toNat->K (.int k c)
 | .andNot,k=>∀c,c=k.wrap (BitVec.ofInt k.bits a &&& ~~~ BitVec.ofInt k.bits b).toNat->K (.int k c)
 | .shl,k=>∀c,c=k.wrap (a*2^min b.toNat k.bits)->(Unit->0<=b)/\K (.int k c)
 | .shr,k=>∀c,c=a.fdiv (2^min b.toNat k.bits)->(Unit->0<=b)/\K (.int k c)
 | .eql,_=>∀c,c=(a==b)->K (.bool c)
 | .neq,_=>∀c,c=(a !=b)->K (.bool c)
 | .lss,_=>∀c,c=decide (a<b)->K (.bool c)
 | .leq,_=>∀c,c=decide (a<=b)->K (.bool c)
 | .gtr,_=>∀c,c=decide (a>b)->K (.bool c)
 | .geq,_=>∀c,c=decide (a >= b)->K (.bool c)
def Fc (cs:List AC):Nat->Nat->List AC
 | 0,n=>cs.take n
 | off+1,n=>match cs with
  | []=>[]
  | _::cs=>Fc cs off n
def Dn {α:Type}:List α->Nat->List α->List α
 | cs,0,[]=>cs
 | [],0,_::_=>[]
 | _::cs,0,x::xs=>x::Dn cs 0 xs
 | [],_+1,_=>[]
 | c::cs,off+1,xs=>c::Dn cs off xs
def ld (i:Info) (cs:List AC) (off:Nat):AV:=Gg (i.agg,Fc cs off i.size)
def Ot (bk:Nat->Option BM):List (Nat×Nat)->List ((t:T)×el t)->Prop
 | [],[]=>True
 | p::r,q::m=>bk p.1=some (.var p.2 (cells q.1 q.2))/\Ot bk r m
 | _,_=>False
def Hl (bk:Nat->Option BM):AC->AC->Prop
 | .BK t id v off len,c=>∃l,bk id=some (.arr v t l)/\off+len<=l.length/\c= .sl t ((l.drop off).take len)
 | .nil,c=>c= .nil\/∃t,c= .sl t []
 | .int k n,c=>c= .int k n
 | .bool b,c=>c= .bool b
 | .fn f,c=>c= .fn f
 | .sl t l,c=>c= .sl t l
 | .Hx f ps,c=>(∃qs,Ot bk ps qs/\c= .Fp f qs)\/c= .Cd
 | .BX id v off,c=>off=0/\∃(t:T) (x:el t),bk id=some (.var v (cells t x))/\c= .DL t x 0
 | .str s,c=>c= .str s
 | .Fp f qs,c=>c= .Fp f qs
 | _,_=>False
def Ge:AC->AC->Prop
 | .nil,c=>c= .nil\/∃t,c= .sl t []
 | .int k n,c=>c= .int k n
 | .bool b,c=>c= .bool b
 | .fn f,c=>c= .fn f
 | .sl t l,c=>c= .sl t l
 | .DL t y o,c=>c= .DL t y o
 | .str s,c=>c= .str s
 | .Fp f qs,c=>c= .Fp f qs
 | _,_=>False
def Et (R:AC->AC->Prop):List AC->List AC->Prop
 | [],[]=>True
 | a::l,b::m=>R a b/\Et R l m
 | _,_=>False
def leV (R:AC->AC->Prop):AV->AV->Prop
 | .one a,.one b=>R a b
 | .agg l,.agg m=>Et R l m
 | _,_=>False
def F3 (R:AC->AC->Prop):List AV->List AV->Prop
 | [],[]=>True
 | a::l,b::m=>leV R a b/\F3 R l m
 | _,_=>False
def DQ:AC->List Nat
 | .BK _ id _ _ _=>[id]
 | .Hx _ ps=>ps.map (·.1)
 | .BX id _ _=>[id]
 | _=>[]
def DR:List AV->List Nat
 | []=>[]
 | .one c::r=>DQ c++DR r
 | .agg cs::r=>cs.flatMap DQ++DR r
 | .BN _::r=>DR r
def ZT (d v:Nat):AC->AC
 | .own t _ n=> .BK t d v 0 n
 | c=>c
def AV.map (g:AC->AC):AV->AV
 | .one c=> .one (g c)
 | .agg cs=> .agg (cs.map g)
 | .BN xs=> .BN (xs.map fun x=>(x.1,x.2.map g))
def MY (d v:Nat):AV->AV:= .map (ZT d v)
def OX (d v:Nat):List AC->List (Nat×BM)
 | []=>[]
 | .own t l _::_=>[(d,.arr v t l)]
 | _::r=>OX d v r
def AV.cells:AV->List AC
 | .one c=>[c]
 | .agg cs=>cs
 | .BN xs=>xs.flatMap (·.2)
def Lb (d v:Nat) (r:AV):List (Nat×BM):=OX d v r.cells
abbrev Con:=Bool->FuncId->List AV->AV->Prop
abbrev gF:=FuncId->AC->BM->List AV->AV->BM->Prop
abbrev gG:=FuncId->List AV->BM->AV->Prop
abbrev gH:=FuncId->List AV->BM->AV->BM->Prop
structure Env where
 C:Con
 B:gF
 D:gG
 W:gH
def I2 (id v:Nat):AC->AC->Prop
 | .BK t i w off len,c=>(i=id/\w=v)/\c= .BK t 0 0 off len
 | .BX i w off,c=>(i=id/\w=v)/\c= .BX 0 0 off
 | .nil,c=>c= .nil\/∃t,c= .sl t []
 | .int k n,c=>c= .int k n
 | .bool b,c=>c= .bool b
 | .fn f,c=>c= .fn f
 | .sl t l,c=>c= .sl t l
 | .str s,c=>c= .str s
 | _,_=>False
def Qn (bk:Nat->Option BM) (id v:Nat):AC->AC->Prop
 | .BX i w off,c=>I2 id v (.BX i w off) c\/((i≠id/\off=0)/\∃o,bk i=some (.var w [.BX id v o])/\c= .I8 (0,0,o))
 | c,d=>I2 id v c d
def ko (bk:Nat->Option BM) (l2:List Nat) (p:Nat×Nat):((t:T)×el t)->Prop
 |⟨.rf t,x⟩=>∃id v,id∈l2/\bk p.1=some (.var p.2 [.BX id v 0])/\bk id=some (.var v (cells t x))
 | q=>bk p.1=some (.var p.2 (cells q.1 q.2))
def Ou (bk:Nat->Option BM) (l2:List Nat):List (Nat×Nat)->List ((t:T)×el t)->Prop
 | [],[]=>True
 | p::r,q::m=>ko bk l2 p q/\Ou bk l2 r m
 | _,_=>False
def V7 (bk:Nat->Option BM) (l2:List Nat):AC->AC->Prop
 | .Hx f ps,c=>∃qs,Ou bk l2 ps qs/\c= .Fp f qs
 | c,d=>Hl bk c d
def Iv (places:List (Nat×Nat×Bool)) (e:Operand->AV):List (Nat×Operand)->List AC->Option (List AC)
 | [],cs=>some cs
 | (i,x)::r,cs=>match places[i]? with
  | some (off,n,_)=>if (e x).cs.length=n/\(e x).full=true/\off+n<=cs.length then Iv places e r (Dn cs off (e x).cs) else none
  | none=>none
def Vh (id v:Nat):AC->AC
 | .BK t _ _ off len=> .BK t id v off len
 | .BX _ _ off=> .BX id v off
 | .Iu t _ _ i k=> .Iu t id v i k
 | c=>c
def qi (id v:Nat):AV->AV:= .map (Vh id v)
def BM.FJ (v:Nat):BM->BM
 | .var _ cs=> .var v cs
 | .arr _ t l=> .arr v t l
 | .dead _=> .dead v
def qg:AC->Option (Nat×Nat)
 |.BK _ id v _ _|.BX id v _=>some (id,v)
 | _=>none
def T.flat:T->Bool
 | .sl _=>false
 | .pr a b=>a.flat&&b.flat
 |.ex|.rf _=>false
 | _=>true
def mU:BM->Bool
 | .arr _ t _=>t.flat
 | _=>false
def Jh:AC->Bool
 |.int _ _|.bool _|.fn _|.nil|.BK _ 0 0 _ _|.str _=>true
 | _=>false
def AV.all (p:AC->Bool):AV->Bool
 | .one c=>p c
 | .agg cs=>cs.all p
 | .BN xs=>xs.all fun x=>x.2.all p
def EO:AC->Bool
 | .Cd=>true | .int _ _=>true | .bool _=>true | .fn _=>true | .nil=>true | .sl _ _=>true
 | .DL _ _ _=>true | .Fp _ _=>true
 | .str _=>true
 | _=>false
def Nc (E:Env) (g:FuncId) (args:List AV) (d:Nat) (bk:Nat->Option BM) (K:Du->Prop):Prop:=
 (∃args' r,(Unit->F3 Ge args args')/\(Unit->E.C false g args' r)/\
  K ⟨MY d (BY bk d+1) r,Lb d (BY bk d+1) r,[d]⟩)\/
 (∃args' r,(Unit->F3 (Hl bk) args args')/\(Unit->E.C true g args' r)/\
  K ⟨MY d (BY bk d+1) r,Lb d (BY bk d+1) r,d::DR args⟩)\/
 (match args with
  | .one c::rest=>match qg c with
   | some (id,v)=>match bk id with
    | some b=>if b.BY=v then ∃args' r b1,(Unit->id ∉ DR rest/\F3 (Hl bk) rest args')/\(Unit->E.B g (Vh 0 0 c) (b.FJ 0) args' r b1/\mU b1=true/\r.all Jh=true)/\
     K ⟨qi id v r,[(id,b1.FJ v)],id::DR rest⟩ else False
    | none=>False
   | none=>False
  | _=>False)\/
 (∃(id:Nat) (b:BM) (args':List AV) (r:AV),(Unit->bk id=some b/\F3 (I2 id b.BY) args args')/\(Unit->E.D g args' (b.FJ 0) r)/\K ⟨r,[],[id]⟩)\/
 (∃(id:Nat) (b:BM) (args':List AV) (r:AV),(Unit->(id≠0/\bk id=some b/\((DR args).all fun k=>k==id)=true)/\F3 (Hl bk) args args')/\(Unit->E.C false g args' r/\r.all EO=true)/\K ⟨r,[(id,.dead b.BY)],[id]⟩)
 \/False
 \/(∃(id:Nat) (b:BM) (args':List AV) (r:AV) (b1:BM),(Unit->bk id=some b/\F3 (I2 id b.BY) args args')/\(Unit->E.W g args' (b.FJ 0) r b1)/\K ⟨r,[(id,b1.FJ b.BY)],[id]⟩)
 \/(∃(l2:List Nat) (args':List AV) (r:AV),(Unit->F3 (V7 bk l2) args args')/\(Unit->E.C true g args' r)/\K ⟨MY d (BY bk d+1) r,Lb d (BY bk d+1) r,d::(DR args++l2)⟩)
 \/(∃(id:Nat) (b:BM) (args':List AV) (r:AV) (b1:BM),(Unit->bk id=some b/\F3 (Qn bk id b.BY) args args')/\(Unit->E.W g args' (b.FJ 0) r b1)/\K ⟨r,[(id,b1.FJ b.BY)],id::DR args⟩)
def IJ (TI:TypeId->Info) (b:Builtin) (tys:List TypeId) (args:List AV) (d:Nat) (bk:Nat->Option BM) (K:Du->Prop):Prop:=
 match b,tys,args with
 | .len,[t0],[.one (.sl _ l)]=>(TI t0).sl=true/\∀n,EJ n l.length->K ⟨.one (.int .i64 n),[],[]⟩
 |.len,[t0],[.one (.Nx _ id v _ len)]|.len,[t0],[.one (.BK _ id v _ len)]=>(TI t0).sl=true/\if BY bk id=v then ∀n,Ah n len->K ⟨.one (.int .i64 n),[],[id]⟩ else False
 | .len,[t0],[.one .nil]=>(TI t0).sl=true/\K ⟨.one (.int .i64 0),[],[]⟩
 | .len,[t0],[.one (.KZ ps)]=>(TI t0).pt=true/\∀n,Ah n ps.length->K ⟨.one (.int .i64 n),[],[]⟩
 | .len,[t0],[.one (.str s)]=>(TI t0).H3=true/\∀n,Ah n s.size->K ⟨.one (.int .i64 n),[],[]⟩
 | .cap,[t0],[.one .nil]=>(TI t0).sl=true/\K ⟨.one (.int .i64 0),[],[]⟩
 | .min,_,[.one (.int k a),.one (.int _ b)]=>∀c,c=(if b<a then b else a)->K ⟨.one (.int k c),[],[]⟩
 | .max,_,[.one (.int k a),.one (.int _ b)]=>∀c,c=(if b>a then b else a)->K ⟨.one (.int k c),[],[]⟩
 | .append,[t0,t1],[.one .nil,.one x]=>
  ((TI t0).sl=true/\(TI t1).sl=true)/\∃l2:List (el (TI t0).elem),(Unit->Hl bk x (.sl _ l2)/\fits l2.length (TI t0).F5)/\
    ∀n,n=l2.length->K ⟨.one (.BK (TI t0).elem d (BY bk d+1) 0 n),[(d,.arr (BY bk d+1) _ l2)],d::DQ x⟩
 | .append,[t0,t1],[.one (.Nx t id v off len),.one x]=>
  ((TI t0).sl=true/\(TI t1).sl=true)/\match bk id with
    | some (.arr v' t' l)=>if v'=v/\T.beq t' t=true/\T.beq t' (TI t0).elem=true then
     ∃l2:List (el t'),(Unit->off=0/\len<=l.length/\Hl bk x (.sl _ l2)/\fits (len+l2.length) (TI t0).F5)/\
      ∀l' n,(l'=l.take len++l2/\n=l'.length)->K ⟨.one (.BK t' id (v+1) 0 n),[(id,.arr (v+1) t' l')],id::DQ x⟩
     else False
    | _=>False
 | .append,[t0,t1],[.one (.BK t id v off len),.one x]=>
  ((TI t0).sl=true/\(TI t1).sl=true)/\match bk id with
    | some (.arr v' t' l)=>if v'=v/\T.beq t' t=true/\T.beq t' (TI t0).elem=true then
     ∃l2:List (el t'),(Unit->off=0/\len=l.length/\Hl bk x (.sl _ l2)/\fits (l.length+l2.length) (TI t0).F5)/\
      ∀l' n,(l'=l++l2/\n=l'.length)->K ⟨.one (.BK t' id (v+1) 0 n),[(id,.arr (v+1) t' l')],id::DQ x⟩
     else False
    | _=>False
 | _,_,_=>False
def Mz (K:Du->Prop) (f:Du):Prop:=
 match f.v,f.ws with
 | .one (.BK t id v off n),[(i,.arr v' t' l)]=>if (id !=0&&id==i&&v==v'&&off==0&&T.beq t t')=true then (Unit->n=l.length)/\K ⟨.one (.sl t' l),[(id,.dead v)],f.rd⟩ else False
 | _,_=>False
def PX (TI:TypeId->Info) (b:Builtin) (tys:List TypeId) (args:List AV) (d:Nat) (bk:Nat->Option BM) (K:Du->Prop):Prop:=
 match b with
 | .append=>IJ TI b tys args d bk K\/IJ TI b tys args d bk (Mz K)\/False
 | _=>IJ TI b tys args d bk K
def Sj:List (Nat×List AC)->Nat->List (List AC)->Prop
 | [],_,[]=>True
 | p::r,k,x::m=>p.1=k/\Et Ge p.2 x/\Sj r (k+1) m
 | _,_,_=>False
def JQ (len:Nat) (lo hi mx:Option AV) (K:Nat->Nat->Bool->Prop):Prop:=
 match lo,hi,mx with
 | none,none,none=>∀h,h=len->K 0 h false
 | some (.one (.int _ a)),none,none=>(Unit->0<=a/\a.toNat<=len)/\∀l h,(l=a.toNat/\h=len)->K l h false
 | none,some (.one (.int _ b)),none=>(Unit->0<=b/\b.toNat<=len)/\∀h,h=b.toNat->K 0 h false
 | some (.one (.int _ a)),some (.one (.int _ b)),none=>(Unit->0<=a/\a<=b/\b.toNat<=len)/\∀l h,(l=a.toNat/\h=b.toNat)->K l h false
 | none,some (.one (.int _ b)),some (.one (.int _ m))=>(Unit->0<=b/\b=m/\m.toNat<=len)/\∀h,h=b.toNat->K 0 h true
 | _,_,_=>False
def Ph (bk:Nat->Option BM) (u:T) (x:AV) (lo hi mx:Option AV) (K:Du->Prop):Prop:=
 match x with
 | .one (.sl t l)=>T.beq t u=true/\∀n,n=l.length->JQ n lo hi mx fun a b _=>∀l',l'=(l.take b).drop a->K ⟨.one (.sl t l'),[],[]⟩
 | .one (.BK t id v off len)=>T.beq t u=true/\if BY bk id=v then JQ len lo hi mx fun a b c=>∀o n,(o=off+a/\n=b-a)->
  match c with | true=>K ⟨.one (.Nx t id v o n),[],[id]⟩ | false=>K ⟨.one (.BK t id v o n),[],[id]⟩
  else False
 | .one .nil=>JQ 0 lo hi mx fun _ _ _=>K ⟨.one .nil,[],[]⟩
 | _=>False
def Pt:List AV->Option (List (Nat×Nat))
 | []=>some []
 | .one (.BX id v 0)::r=>match Pt r with
  | some ps=>some ((id,v)::ps)
  | none=>none
 | _::_=>none
def Xz (n s:Nat) (g:Bool):List (Nat×Nat×Bool):=(List.range n).map fun i=>(i*s,s,g)
def RM:List AV->Option (List (Nat×Nat×Nat))
 | []=>some []
 | .one (.BX id v o)::r=>match RM r with
  | some ps=>some ((id,v,o)::ps)
  | none=>none
 | _::_=>none
def GJ (E:Env) (TI:TypeId->Info) (o:Oper) (d:Nat) (e:Operand->AV) (bk:Nat->Option BM) (K:Du->Prop):Prop:=
 match o.op with
 |.move x|.assign x=>K ⟨e x,[],[]⟩
 | .nilCheck x=>match e x with
  | .one (.BX id v off)=>if BY bk id=v then K ⟨e x,[],[id]⟩ else False
  |.one (.fn _)|.one (.Fp _ _)|.one (.DL _ _ _)=>K ⟨e x,[],[]⟩
  | _=>False
 | .pick c a b=>match e c with
  | .one (.bool true)=>K ⟨e a,[],[]⟩
  | .one (.bool false)=>K ⟨e b,[],[]⟩
  | _=>False
 | .alloc t=>(TI t).known=true/\K ⟨.one (.BX d (BY bk d+1) 0),[(d,.var (BY bk d+1) (TI t).zero)],[d]⟩
 | .box _ x=>match e x with
  |.BN _|.one .Cd=>False
  | v=>K ⟨.one (.BX d (BY bk d+1) 0),[(d,.var (BY bk d+1) v.cs)],[d]⟩
 | .extract t i=>match e t with
  | .BN xs=>match xs[i]? with
   | some x=>K ⟨Gg x,[],[]⟩
   | none=>False
  | _=>False
 | .load t a=>(TI t).known=true/\match e a with
  | .one (.BX id v off)=>match bk id with
   | some (.var v' cs)=>if v'=v/\(Fc cs off (TI t).size).length=(TI t).size then K ⟨ld (TI t) cs off,[],[id]⟩ else False
   | _=>False
  | .one (.DL t' x off)=>MC t' x fun cs=>if (Fc cs off (TI t).size).length=(TI t).size then K ⟨ld (TI t) cs off,[],[]⟩ else False
  | .one (.I8 p)=>(TI t).agg=false/\K ⟨.one (.BX p.1 p.2.1 p.2.2),[],[]⟩
  | .one (.Iu t' id v i k)=>match bk id with
   | some (.arr v' u l)=>if v'=v/\T.beq t' u=true then ∃x:el u,(Unit->l[i]? =some x)/\MC u x fun cs=>
    if (Fc cs k (TI t).size).length=(TI t).size then K ⟨ld (TI t) cs k,[],[id]⟩ else False
    else False
   | _=>False
  | _=>False
 | .store t a x=>(TI t).known=true/\match e a with
  | .one (.BX id v off)=>match bk id,e x with
   |_,.BN _|_,.one .Cd=>False
   | some (.var v' cs),y=>if v'=v/\y.cs.length=(TI t).size/\off+(TI t).size<=cs.length then
    K ⟨.one .Cd,[(id,.var v (Dn cs off y.cs))],[id]⟩ else False
   | _,_=>False
  | .one (.Iu t' id v i k)=>match bk id,e x with
   |_,.BN _|_,.one .Cd=>False
   | some (.arr v' u l),y=>if v'=v/\k=0/\(TI t).size=u.size/\T.beq t' u=true then
    ∃z:el u,(Unit->i<l.length/\Et Ge y.cs (cells u z))/\∀l',l'=l.set i z->K ⟨.one .Cd,[(id,.arr v u l')],[id]⟩
    else if v'=v/\k+(TI t).size<=u.size/\T.beq t' u=true then
    ∃(x:el u) (z:el u),(Unit->l[i]? =some x/\y.cs.length=(TI t).size/\Et Ge (Dn (cells u x) k y.cs) (cells u z))/\∀l',l'=l.set i z->K ⟨.one .Cd,[(id,.arr v u l')],[id]⟩
    else False
   | _,_=>False
  | _=>False
 | .fieldAddr s x f=>(TI s).known=true/\match (TI s).fields[f]?,e x with
  | some (fo,_,_),.one (.BX id v off)=>if BY bk id=v then K ⟨.one (.BX id v (off+fo)),[],[id]⟩ else False
  | some (fo,_,_),.one (.DL t y off)=>K ⟨.one (.DL t y (off+fo)),[],[]⟩
  | some (fo,_,_),.one (.Iu t id v i k)=>if BY bk id=v then K ⟨.one (.Iu t id v i (k+fo)),[],[id]⟩ else False
  | _,_=>False
 | .field s x f=>(TI s).known=true/\match (TI s).fields[f]?,e x with
  | some (fo,n,g),.agg cs=>if (Fc cs fo n).length=n then K ⟨Gg (g,Fc cs fo n),[],[]⟩ else False
  | _,_=>False
 | .build t parts=>match (TI t).arr with
  | some q=>(TI t).known=true/\match Iv (Xz q.1 q.2.1 q.2.2) e parts.toList (TI t).zero with
   | some cs=>K ⟨.agg cs,[],[]⟩
   | none=>False
  | none=>((TI t).known=true/\(TI t).fields.isEmpty=false)/\match Iv (TI t).fields e parts.toList (TI t).zero with
  | some cs=>K ⟨.agg cs,[],[]⟩
  | none=>False
 | .buildSlice t len parts=>match (TI t).pt with
  | true=>match RM (parts.toList.map fun p=>e p.2) with
   | some ps=>(Unit->ps.length=len/\len<=524288/\parts.toList.map (·.1)=List.range len)/\K ⟨.one (.KZ ps),[],[]⟩
   | none=>False
  | false=>(TI t).sl=true/\(TI t).elem.size<=32/\∃xs:List (el (TI t).elem),
   (Unit->xs.length=len/\len<=524288/\(parts.toList.all fun p=>(e p.2).full)=true/\Sj (parts.toList.map fun p=>(p.1,(e p.2).cs)) 0 (xs.map (cells _)))/\
   (K ⟨.one (.BK (TI t).elem d (BY bk d+1) 0 len),[(d,.arr (BY bk d+1) _ xs)],[d]⟩\/K ⟨.one (.sl (TI t).elem xs),[],[]⟩)
 | .makeSlice t l c=>(TI t).sl=true/\match e l,e c with
  | .one (.int _ n),.one (.int _ m)=>(Unit->0<=n/\n<=m/\fits m.toNat (TI t).F5)/\
   ∀k z,(k=n.toNat/\z=List.replicate k (TI t).Cy)->K ⟨.one (.BK (TI t).elem d (BY bk d+1) 0 k),[(d,.arr (BY bk d+1) _ z)],[d]⟩
  | _,_=>False
 | .indexAddr t x i=>match (TI t).pt with
  | true=>match e x,e i with
   | .one (.KZ ps),.one (.int _ n)=>∃p,(Unit->0<=n/\ps[n.toNat]? =some p)/\K ⟨.one (.I8 p),[],[]⟩
   | _,_=>False
  | false=>match (TI t).arr with
   | some q=>match e x,e i with
    | .one (.BX id v off),.one (.int _ n)=>if BY bk id=v then (Unit->0<=n/\n.toNat<q.1)/\K ⟨.one (.BX id v (off+n.toNat*q.2.1)),[],[id]⟩ else False
    | .one (.DL t' y off),.one (.int _ n)=>∃(u:T) (z:el u),(Unit->(0<=n/\n.toNat<q.1)/\cells u z=Fc (cells t' y) (off+n.toNat*q.2.1) q.2.1)/\K ⟨.one (.DL u z 0),[],[]⟩
    | _,_=>False
   | none=>(TI t).sl=true/\match e x,e i with
  | .one (.sl t' l),.one (.int _ n)=>T.beq t' (TI t).elem=true/\∃x,(Unit->0<=n/\l[n.toNat]? =some x)/\K ⟨.one (.DL t' x 0),[],[]⟩
  | .one (.BK t' id v off len),.one (.int _ n)=>T.beq t' (TI t).elem=true/\if BY bk id=v then (Unit->0<=n/\n.toNat<len)/\∀j,j=off+n.toNat->K ⟨.one (.Iu t' id v j 0),[],[id]⟩ else False
  | _,_=>False
 | .slice t x lo hi mx=>match e x with
  | .one (.str s)=>(TI t).H3=true/\∀n,n=s.size->JQ n (lo.map e) (hi.map e) (mx.map e) fun a b c=>c=false/\∀z,z=s.extract a b->K ⟨.one (.str z),[],[]⟩
  | X=>(TI t).sl=true/\Ph bk (TI t).elem X (lo.map e) (hi.map e) (mx.map e) K
 | .index t x i=>match (TI t).arr with
  | some q=>match e x,e i with
   | .agg cs,.one (.int _ n)=>(Unit->0<=n/\n.toNat<q.1)/\if (Fc cs (n.toNat*q.2.1) q.2.1).length=q.2.1 then K ⟨Gg (q.2.2,Fc cs (n.toNat*q.2.1) q.2.1),[],[]⟩ else False
   | _,_=>False
  | none=>(TI t).H3=true/\match e x,e i with
  | .one (.str s),.one (.int _ n)=>∃b:UInt8,(Unit->0<=n/\s.data[n.toNat]? =some b)/\∀z,PM z b->K ⟨.one (.int .u8 z),[],[]⟩
  | _,_=>False
 | .binOp op bt x y _=>match e x,e y with
  | .one (.int k a),.one (.int k' b)=>if k=k'\/op= .shl\/op= .shr then arith op k a b fun c=>K ⟨.one c,[],[]⟩ else False
  | .one (.bool a),.one (.bool b)=>(TI bt).Jf=true/\match op with
   | .eql=>∀c,c=(a==b)->K ⟨.one (.bool c),[],[]⟩
   | .neq=>∀c,c=(a !=b)->K ⟨.one (.bool c),[],[]⟩
   | _=>False
  | .one (.sl _ l),.one .nil=>(TI bt).sl=true/\match op with
   | .eql=>∀c,c=l.isEmpty->K ⟨.one (.ub c),[],[]⟩
   | _=>False
  | .one (.str a),.one (.str b)=>match op with
   | .eql=>∀c,c=(a.toList==b.toList)->K ⟨.one (.bool c),[],[]⟩
   | .neq=>∀c,c=(!(a.toList==b.toList))->K ⟨.one (.bool c),[],[]⟩
   | .add=>(Unit->a.size+b.size<=9223372036854775807)/\∀c,c=a++b->K ⟨.one (.str c),[],[]⟩
   | _=>False
  | _,_=>False
 | .unOp op _ x=>match op,e x with
  | .not,.one (.bool b)=>∀c,c= !b->K ⟨.one (.bool c),[],[]⟩
  | .neg,.one (.int k n)=>∀c,c=k.wrap (0-n)->K ⟨.one (.int k c),[],[]⟩
  | _,_=>False
 | .convert src dst x=>(TI src).known=true/\match (TI dst).kind,e x with
  | some k,.one (.int _ n)=>∀c,c=k.wrap n->K ⟨.one (.int k c),[],[]⟩
  | none,.one c=>(TI dst).H3=true/\(TI src).sl=true/\(TI (TI src).Dw).kind=some .u8/\∃l:List UInt8,(Unit->c= .sl .u8 l)/\∀z,z=ByteArray.mk l.toArray->K ⟨.one (.str z),[],[]⟩
  | _,_=>False
 | .makeFunc fn first captured=>match fn,first.toList,Pt (captured.toList.map e) with
  | .func f,[],some ps=>K ⟨.one (.Hx f ps),[],[]⟩
  | _,_,_=>False
 | .call c=>match c.callee with
  | .builtin b=>PX TI b c.argTypes.toList (c.args.toList.map e) d bk K
  | .value f=>match e f with
   | .one (.fn g)=>Nc E g (c.args.toList.map e) d bk K
   | .one (.Fp g qs)=>Nc E g (c.args.toList.map e++qs.map fun q=> .one (.DL q.1 q.2 0)) d bk K
   | .one (.Hx g ps)=>Nc E g (c.args.toList.map e++ps.map fun p=> .one (.BX p.1 p.2 0)) d bk K
   | _=>False
  | .invoke _ _=>False
 | _=>False
def Fq:List (Nat×BM)->List (Option BM)->List (Option BM)
 | [],b=>b
 | w::r,b=>Fq r (Dj b w.1 (some w.2))
def GV (l:List AV):Option Nat->AV->List AV
 | some d,v=>Dj l d v
 | none,_=>l
def St.app (s:St) (d:Option Nat) (f:Du):St:=⟨GV s.sl d f.v,Fq f.ws s.bk⟩
def DP (o:Oper):Nat:=o.dst.getD 1000000
abbrev Tr:=List (List Nat×List Nat)
def KK (ops:List Oper) (j:Nat):Option Nat:=(ops[j]?).bind (·.dst)
def pn (o:Oper):List Nat:=o.op.operands.toList.filterMap fun | .tmp t=>some t | _=>none
def Jn (ops:List Oper) (o:Oper):List Nat:=
 o.dst.toList++pn o++(match o.guard with | some (j,_)=>(KK ops j).toList | none=>[])
def GH (o:Oper):List Nat:=(o.after.toList.filter fun e=>Region.binds .any e).map (·.on)
def HY:List Oper->List (List Nat)->List (List Nat)
 | [],acc=>acc
 | o::r,acc=>HY r (acc++[(GH o).flatMap fun j=>j::acc.getD j []])
def N4 (a b:List Nat):Bool:=a.all fun x=> !b.contains x
def Ng (ops:List Oper) (oi oj:Oper) (ti tj:List Nat×List Nat):Bool:=
 N4 oi.dst.toList (Jn ops oj)&&N4 oj.dst.toList (Jn ops oi)&&
 N4 ti.2 (tj.1++tj.2)&&N4 tj.2 ti.1
def a7 (ops:List Oper) (tr:Tr) (bs:List (List Nat)):Bool:=
 (List.range ops.length).all fun j=>(List.range j).all fun i=>
  (bs.getD j []).contains i||
   (match ops[i]?,ops[j]?,tr[i]?,tr[j]? with
    | some oi,some oj,some ti,some tj=>Ng ops oi oj ti tj
    | _,_,_,_=>false)
def X2 (ops:List Oper):Bool:=
 (List.range ops.length).all fun j=>match ops[j]? with | some o=>(GH o).all fun i=>decide (i<j) | none=>true
def KU (ops:List Oper) (tr:Tr):Bool:=X2 ops&&a7 ops tr (HY ops [])
def Ib (E:Env) (TI:TypeId->Info) (all:List Oper) (draw:Bool):List Oper->Tr->(St->Prop)->St->Prop
 | [],tr,Q,s=>match draw with
  | false=>Q s
  | true=>(Unit->KU all tr.reverse=true)/\Q s
 | o::r,tr,Q,s=>match o.guard with
  | none=>GJ E TI o (DP o) (ev s.sl) (Af s.bk) fun f=>Ib E TI all draw r ((f.rd,f.ws.map (·.1))::tr) Q (s.app o.dst f)
  | some (j,w)=>match KK all j with
   | none=>False
   | some g=>match nth s.sl g,w with
    |.one (.bool true),true|.one (.bool false),false=>GJ E TI o (DP o) (ev s.sl) (Af s.bk) fun f=>Ib E TI all draw r ((f.rd,f.ws.map (·.1))::tr) Q (s.app o.dst f)
    |.one (.bool true),false|.one (.bool false),true|.BN [],_=>Ib E TI all draw r (([],[])::tr) Q (s.app o.dst ⟨.BN [],[],[]⟩)
    | _,_=>False
 inductive AX
  | Ej | exit (n:Nat) | ret
def LW (bk:Nat->Option BM) (bs:List Nat):AC->AC
 | .BK t id v off len=>if bs.contains id&&BY bk id==v then .BK t id 0 off len else .Cd
 | .BX id v off=>if bs.contains id&&BY bk id==v then .BX id 0 off else .Cd
 | .Iu t id v i k=>if bs.contains id&&BY bk id==v then .Iu t id 0 i k else .Cd
 |.Nx _ _ _ _ _|.Hx _ _=> .Cd
 | .KZ ps=>if (ps.all fun p=>bs.contains p.1&&BY bk p.1==p.2.1)=true then .KZ (ps.map fun p=>(p.1,0,p.2.2)) else .Cd
 | .I8 _=> .Cd
 | c=>c
def RB (bk:Nat->Option BM) (bs:List Nat):AV->AV
 | .one c=> .one (LW bk bs c)
 | .agg cs=> .agg (cs.map (LW bk bs))
 | .BN _=> .one .Cd
def OV (bk:Nat->Option BM) (bs:List Nat):BM->BM
 | .var _ cs=> .var 0 (cs.map (LW bk bs))
 | .arr _ t l=> .arr 0 t l
 | .dead _=> .dead 0
def HG (s:St) (bs:List Nat):List Nat->List AV
 | []=>[]
 | k::r=>RB (Af s.bk) bs (nth s.sl k)::HG s bs r
def Hf (s:St) (bs:List Nat):List Nat->List BM
 | []=>[]
 | k::r=>(match Af s.bk k with | some b=>if k==0&&b.BY !=0 then .dead 0 else OV (Af s.bk) bs b | none=> .dead 0)::Hf s bs r
def Jp:List Nat->List AV->List AV->List AV
 | k::ks,v::vs,l=>Jp ks vs (Dj l k v)
 | _,_,l=>l
def Ka:List Nat->List BM->List (Option BM)->List (Option BM)
 | k::ks,v::vs,l=>Ka ks vs (Dj l k (some v))
 | _,_,l=>l
def Gj {α:Type}:Nat->α->List α
 | 0,_=>[]
 | n+1,x=>x::Gj n x
def LU (n:Nat) (ks:List Nat) (vs:List AV) (bs:List Nat) (bl:List BM):St:=
 ⟨Jp ks vs (Gj n (.one .Cd)),Ka bs bl (Gj n none)⟩
def ME (s:St):List (Nat×T×Bool)->St
 | []=>s
 | (k,t,b)::r=>ME (match nth s.sl k,b with
  | .one .nil,false=>⟨Dj s.sl k (.one (.sl t [])),s.bk⟩
  | .one .nil,true=>⟨Dj s.sl k (.one (.BK t k (BY (Af s.bk) k+1) 0 0)),Dj s.bk k (some (.arr (BY (Af s.bk) k+1) t []))⟩
  | .one (.BK t id v 0 n),false=>match Af s.bk id with
   | some (.arr v' t' l)=>if (id !=0&&v==v'&&T.beq t t')=true then⟨Dj s.sl k (if n=l.length then .one (.sl t' l) else .one .Cd),Dj s.bk id (some (.dead v))⟩ else s
   | _=>s
  | _,_=>s) r
def MP:Code->Bool
 |.skip|.region _ _ _=>true
 | .seq a b=>MP a&&MP b
 | .cond _ a b=>MP a||MP b
 |.block _ _|.loop _=>true
 | _=>false
def EL (E:Env) (TI:TypeId->Info) (n:Nat):Code->(AX->St->Prop)->St->Prop
 | .skip,Q,s=>Q .Ej s
 | .region _ ops draw,Q,s=>Ib E TI ops.toList draw ops.toList [] (Q .Ej) s
 | .seq a b,Q,s=>EL E TI n a (fun e s=>match e with | .Ej=>EL E TI n b Q s | .exit i=>Q (.exit i) s | .ret=>Q .ret s) s
 | .cond c a b,Q,s=>match MP a&&MP b with
  | true=>(∃(ks bs:List Nat) (J:List AV->List BM->Prop),(∀vs bl,J vs bl->Q .Ej (LU n ks vs bs bl))/\
    match ev s.sl c with
    | .one (.bool true)=>EL E TI n a (fun e s'=>match e with | .Ej=>J (HG s' bs ks) (Hf s' bs bs) | .exit i=>Q (.exit i) s' | .ret=>Q .ret s') s
    | .one (.bool false)=>EL E TI n b (fun e s'=>match e with | .Ej=>J (HG s' bs ks) (Hf s' bs bs) | .exit i=>Q (.exit i) s' | .ret=>Q .ret s') s
    | .one (.ub u)=>(u=true->EL E TI n a (fun e s'=>match e with | .Ej=>J (HG s' bs ks) (Hf s' bs bs) | .exit i=>Q (.exit i) s' | .ret=>Q .ret s') s)/\
     EL E TI n b (fun e s'=>match e with | .Ej=>J (HG s' bs ks) (Hf s' bs bs) | .exit i=>Q (.exit i) s' | .ret=>Q .ret s') s
    | _=>False)\/
   (match ev s.sl c with
   | .one (.bool true)=>EL E TI n a Q s
   | .one (.bool false)=>EL E TI n b Q s
   | .one (.ub u)=>(u=true->EL E TI n a Q s)/\EL E TI n b Q s
   | _=>False)
  | false=>match ev s.sl c with
   | .one (.bool true)=>EL E TI n a Q s
   | .one (.bool false)=>EL E TI n b Q s
   | .one (.ub u)=>(u=true->EL E TI n a Q s)/\EL E TI n b Q s
   | _=>False
 | .block id c,Q,s=>(∃(ks bs:List Nat) (J:List AV->List BM->Prop),(∀vs bl,J vs bl->Q .Ej (LU n ks vs bs bl))/\
   EL E TI n c (fun e s'=>match e with | .exit i=>if i=id then J (HG s' bs ks) (Hf s' bs bs) else Q (.exit i) s' | .Ej=>J (HG s' bs ks) (Hf s' bs bs) | .ret=>Q .ret s') s)\/
  EL E TI n c (fun e s=>match e with | .exit i=>if i=id then Q .Ej s else Q (.exit i) s | .Ej=>Q .Ej s | .ret=>Q .ret s) s
 | .loop c,Q,s=>∃(cv:List (Nat×T×Bool)) (ks bs:List Nat) (J:List AV->List BM->Nat->Prop),
  (∃k,J (HG (ME s cv) bs ks) (Hf (ME s cv) bs bs) k)/\∀vs bl k,J vs bl k->
   EL E TI n c (fun e s'=>match e with
    | .Ej=>∃k',k'<k/\J (HG s' bs ks) (Hf s' bs bs) k'
    | .exit i=>Q (.exit i) s' | .ret=>Q .ret s') (LU n ks vs bs bl)
 | .exit i,Q,s=>Q (.exit i) s
 | .ret,Q,s=>Q .ret s
 | _,_,_=>False
def Js (bk:Nat->Option BM):AC->AC->Prop
 | .BK t id v off len,c=>(∃l,bk id=some (.arr v t l)/\off+len<=l.length/\c= .sl t ((l.drop off).take len))\/
  (∃l n,id≠0/\bk id=some (.arr v t l)/\off=0/\len=l.length/\n=l.length/\c= .own t l n)\/
  (id=0/\v=0/\c= .BK t 0 0 off len)
 | .nil,c=>c= .nil\/(∃t,c= .sl t [])\/∃t,c= .own t [] 0
 | .int k n,c=>c= .int k n
 | .bool b,c=>c= .bool b
 | .fn f,c=>c= .fn f
 | .sl t l,c=>c= .sl t l
 | .str s,c=>c= .str s
 | _,_=>False
def Lh (bk:Nat->Option BM):List (Bool×List AC)->List (Bool×List AC)->Prop
 | [],[]=>True
 | a::l,b::m=>(a.1=b.1/\Et (Js bk) a.2 b.2)/\Lh bk l m
 | _,_=>False
def IW:AC->Bool
 | .own _ _ _=>true
 | _=>false
def KN:AC->Bool
 |.BK _ _ _ _ _|.own _ _ _=>true
 | _=>false
def bA (src:List (Bool×List AC)) (res:List (Bool×List AC)):Bool:=
 match (res.flatMap (·.2)).filter IW with
 | []=>true
 | [_]=>((src.flatMap (·.2)).filter KN).length<=1
 | _=>false
def AV.JU:AV->List (Bool×List AC)
 | .BN xs=>xs
 | v=>[v.comp]
def cA (TI:TypeId->Info) (s:St):ResultVar->Option (Bool×List AC)
 | .tmp t=>some (nth s.sl t).comp
 | .cell a t=>match nth s.sl a with
  | .one (.BX id v off)=>match Af s.bk id with
   | some (.var v' cs)=>if (TI t).known&&v'==v&&(Fc cs off (TI t).size).length==(TI t).size then some ((TI t).agg,Fc cs off (TI t).size) else none
   | _=>none
  | _=>none
def Ke (TI:TypeId->Info) (s:St):List ResultVar->Option (List (Bool×List AC))
 | []=>some []
 | r::rs=>match cA TI s r,Ke TI s rs with
  | some x,some xs=>some (x::xs)
  | _,_=>none
def Mj:AC->Bool
 | .BK _ 0 _ _ _=>false
 | _=>true
def VM (TI:TypeId->Info) (rs:List ResultVar) (r:AV) (b0:BM) (e:AX) (s:St):Prop:=
 match e with
 | .exit _=>False
 | _=>match Ke TI s rs with
  | some xs=>(Unit->(Lh (Af s.bk) xs r.JU/\(xs.all fun x=>x.2.all Mj)=true/\(rs.length=1↔∀ys,r≠ .BN ys))/\Af s.bk 0=some b0)
  | none=>False
def post (TI:TypeId->Info) (rs:List ResultVar) (r:AV) (b1:Option BM) (e:AX) (s:St):Prop:=
 match e with
 | .exit _=>False
 | _=>match Ke TI s rs with
  | some xs=>(Unit->Lh (Af s.bk) xs r.JU/\bA xs r.JU=true/\(rs.length=1↔∀ys,r≠ .BN ys))/\
   (match b1 with | none=>True | some b=>Unit->Af s.bk 0=some b)
  | none=>False
def FL (n:Nat) (args:List AV) (b0:Option BM):St:=
 ⟨args++Gj (n-args.length) (.one .Cd),match n with | 0=>[] | n+1=>b0::Gj n none⟩
open Go.RowKit
 inductive Bg {α β:Type} (R:α->β->Prop):List α->List β->Prop
  | nil:Bg R [] []
  | cons {a:α} {b:β} {l:List α} {m:List β}:R a b->Bg R l m->Bg R (a::l) (b::m)
section
variable {α β γ:Type} {R R':α->β->Prop} {l l':List α} {m m':List β}
theorem Bg.map {S:γ->β->Prop} {g:α->γ} {p:α->Bool} (h:∀a b,p a=true->R a b->S (g a) b) (e:l.all p=true) (r:Bg R l m):Bg S (l.map g) m:=by
 induction r with
 | nil=>exact .nil
 | cons q _ d=>rw[List.all_cons,Bool.and_eq_true] at e;exact .cons (h _ _ e.1 q) (d e.2)
theorem Bg.imp {p:α->Bool} (h:∀a b,p a=true->R a b->R' a b) (e:l.all p=true) (r:Bg R l m):Bg R' l m:=by
 have:=r.map (g:=fun c=>c) h e;rwa [List.map_id'] at this
theorem Bg.mono (h:∀a b,R a b->R' a b) (r:Bg R l m):Bg R' l m:=by
 induction r with
 | nil=>exact .nil
 | cons q _ d=>exact .cons (h _ _ q) d
theorem Bg.length (r:Bg R l m):l.length=m.length:=by induction r <;> simp_all
theorem Bg.get (r:Bg R l m):∀(i:Nat) (a:α),l[i]? =some a->∃b,m[i]? =some b/\R a b:=by
 induction r with
 | nil=>simp
 | cons q _ d=>intro i;cases i <;> simp_all
theorem Bg.append (r:Bg R l m) (s:Bg R l' m'):Bg R (l++l') (m++m'):=by
 induction r with
 | nil=>exact s
 | cons q _ d=>exact .cons q d
theorem Bg.VC:∀{l:List α} {m:List β},Bg R (l++l') m->∃m1 m2,m=m1++m2/\Bg R l m1/\Bg R l' m2
 | [],m,h=>⟨[],m,rfl,.nil,h⟩
 | _::_,_,.cons q r=>let ⟨m1,m2,e,d,f⟩:=Bg.VC r;⟨_::m1,m2,by simp[e],.cons q d,f⟩
theorem Bg.drop (r:Bg R l m):∀n,Bg R (l.drop n) (m.drop n):=by
 induction r with
 | nil=>intro n;simp;exact .nil
 | cons q r d=>intro n;cases n with
  | zero=>exact .cons q r
  | succ n=>exact d n
theorem Bg.take (r:Bg R l m):∀n,Bg R (l.take n) (m.take n):=by
 induction r with
 | nil=>intro n;simp;exact .nil
 | cons q r d=>intro n;cases n with
  | zero=>exact .nil
  | succ n=>exact .cons q (d n)
end
def Gq (R:AC->Value->Prop):AV->Value->Prop
 | .one c,v=>c= .Cd\/R c v
 | .agg cs,v=>∃arr,v= .agg arr/\Bg R cs arr.toList
 | .BN _,_=>False
def RV (R:AC->Value->Prop):AV->Value->Prop
 | .BN xs,v=>∃arr,v= .tuple arr/\Bg (fun y u=>Gq R (Gg y) u) xs arr.toList
 | a,v=>Gq R a v
section
variable {R S:AC->Value->Prop} {g:AC->AC} {p:AC->Bool}
theorem Gq.map (d:g .Cd= .Cd) (h:∀c v,p c=true->R c v->S (g c) v):∀(y:Bool×List AC) (u:Value),y.2.all p=true->Gq R (Gg y) u->Gq S (Gg (y.1,y.2.map g)) u
 | (true,_),_,e,⟨arr,a,b⟩=>⟨arr,a,b.map h e⟩
 | (false,[]),_,_,_=> .inl rfl
 | (false,c::_),_,e,b=>by
  rw[List.all_cons,Bool.and_eq_true] at e;exact b.imp (fun q=>by rw[show c=_ from q,d]) (h _ _ e.1)
theorem RV.map (d:g .Cd= .Cd) (h:∀c v,p c=true->R c v->S (g c) v) {r:AV} {v:Value} (e:r.all p=true) (b:RV R r v):RV S (r.map g) v:=by
 cases r with
 | one c=>exact Gq.map d h (false,[c]) v (by simpa [AV.all] using e) b
 | agg cs=>exact Gq.map d h (true,cs) v e b
 | BN xs=>obtain⟨arr,a,b⟩:=b;exact⟨arr,a,b.map (Gq.map d h) e⟩
theorem AV.map_id:∀r:AV,r.map (fun c=>c)=r
 | .one _=>rfl
 | .agg cs=>congrArg AV.agg (List.map_id' cs)
 | .BN xs=>congrArg AV.BN AZ
theorem RV.mono (h:∀c v,p c=true->R c v->S c v) {r:AV} {v:Value} (e:r.all p=true) (b:RV R r v):RV S r v:=by
 have:=RV.map (g:=fun c=>c) rfl h e b;rwa [AV.map_id] at this
theorem AV.all_true (r:AV):r.all (fun _=>true)=true:=by cases r <;> simp[AV.all]
theorem Xp {Q:AC->AC->Prop} {l m:List AC} {vs:List Value} (h:∀c∈l,∀d v,Q c d->R c v->S d v) (a:Et Q l m) (b:Bg R l vs):Bg S m vs:=by
 induction b generalizing m with
 | nil=>cases m with
  | nil=>exact .nil
  | cons=>exact a.elim
 | cons q _ i=>cases m with
  | nil=>exact a.elim
  | cons=>exact .cons (h _ AZ _ _ a.1 q) (i (fun c f=>h c (by simp[f])) a.2)
theorem Xw {Q:AC->AC->Prop} {L:List Nat} (h:∀c,(∀i∈DQ c,i∈L)->∀d v,Q c d->R c v->S d v) (n:∀d,¬Q .Cd d) {l m:List AV} {vs:List Value} (j:∀i∈DR l,i∈L) (a:F3 Q l m) (b:Bg (RV R) l vs):Bg (RV S) m vs:=by
 induction b generalizing m with
 | nil=>cases m with
  | nil=>exact .nil
  | cons=>exact a.elim
 | @cons x _ _ _ q _ r=>cases m with
  | nil=>exact a.elim
  | cons y m=>
   refine .cons ?_ (r (fun i f=>j i ?_) a.2)
   ·have a:=a.1;cases x <;> cases y <;> first | exact a.elim | skip
    ·exact q.elim (fun e=>absurd a (by rw[e];exact n _)) fun q=> .inr (h _ (fun i f=>j i (by simp[DR,f])) _ _ a q)
    obtain⟨arr,e,q⟩:=q;exact⟨arr,e,Xp (fun c k=>h c fun i f=>j i (List.mem_append_left _ (List.mem_flatMap.2 ⟨c,k,f⟩))) a q⟩
   cases x <;> simp_all [DR]
end
theorem Ki:∀(cs:List AC) (off n:Nat),Fc cs off n=(cs.drop off).take n
 |_,0,_|[],_+1,_=>by simp[Fc]
 | _::cs,off+1,n=>by simpa [Fc] using Ki cs off n
theorem LA (t:T):∀x:el t,(cells t x).length=t.size:=by
 induction t with
 | pr a b h k=>intro x;simp[cells,T.size,h,k]
 | _=>intro _;rfl
theorem T.size_pos (t:T):0<t.size:=by induction t <;> simp_all [T.size] <;> omega
def Rj (w:World) (I:Nat->Prop) (l:List UInt32) (v:Value):Prop:=
 ∃base cap,[v]=[.slice base l.length cap]/\l.length<=cap/\l.length<=140737488355328/\
  (l=[]\/∃b off,base=some ⟨b,off,none⟩/\I b/\∀(i:Nat) (x:UInt32),l[i]? =some x->∃us,us=[Value.int .u32 x.toNat]/\w.rangeAt b (off+i*1) us)
 inductive Im (w:World) (I:Nat->Prop):Ex->List Value->Prop
  | mk (y:Ex) (a b:Value) (base:Option Addr) (cap:Nat) (p off:Nat) (us:Nat->List Value):Rj w I y.v.1.2 a->Rj w I y.v.2.2 b->
   y.args.length<=cap->y.args.length<=140737488355328->(y.args=[]\/(base=some ⟨p,off,none⟩/\I p))->
   (∀(i:Nat) (x:Ex),y.args[i]? =some x->Im w I x (us i))->(∀(i:Nat) (x:Ex),y.args[i]? =some x->w.rangeAt p (off+i*7) (us i))->
   Im w I y [.int .i64 y.op,.bool y.v.1.1,a,.bool y.v.2.1,b,.string y.name,.slice base y.args.length cap]
def rep (w:World) (I:Nat->Prop):(t:T)->el t->List Value->Prop
 | .u8,x,vs=>vs=[.int .u8 x.toNat]
 | .u32,x,vs=>vs=[.int .u32 x.toNat]
 | .u64,x,vs=>vs=[.int .u64 x.toNat]
 | .i8,x,vs=>vs=[.int .i8 x]
 | .i64,x,vs=>vs=[.int .i64 x]
 | .bool,x,vs=>vs=[.bool x]
 | .sl t,l,vs=>∃base cap,vs=[.slice base l.length cap]/\l.length<=cap/\l.length<=140737488355328/\
  (l=[]\/∃b off,base=some ⟨b,off,none⟩/\I b/\∀(i:Nat) (x:el t),l[i]? =some x->∃us,rep w I t x us/\w.rangeAt b (off+i*t.size) us)
 | .pr a b,x,vs=>∃v1 v2,vs=v1++v2/\rep w I a x.1 v1/\rep w I b x.2 v2
 | .str,x,vs=>vs=[.string x]
 | .ex,x,vs=>Im w I x vs
 | .rf t,x,vs=>∃b o us,vs=[.pointer (some ⟨b,o,none⟩)]/\I b/\rep w I t x us/\w.rangeAt b o us
theorem HI {α:Type} {a:Array α} {b:Nat} {o:α} (h:a[b]? =some o):b<a.size:=(Array.getElem?_eq_some_iff.1 h).1
theorem Ix {α:Type} {l:List α} {j:Nat} {v:α} (h:l[j]? =some v):j<l.length:=(List.getElem?_eq_some_iff.1 h).1
section
variable {w w':World} {I I':Nat->Prop} {c:AC} {v:Value}
theorem rangeAt_of_block {b o:Nat} {vs:List Value} (h:w'.heap[b]? =w.heap[b]?) (d:w.rangeAt b o vs):w'.rangeAt b o vs:=
 fun j v f=>(World.cell?_of_block (w:=w) (a:=⟨b,o+j,none⟩) h).trans (d j v f)
theorem Im.mono (h:∀b,I b->I' b/\w'.heap[b]? =w.heap[b]?) {x:Ex} {vs:List Value} (r:Im w I x vs):Im w' I' x vs:=by
 have u:∀{l:List UInt32} {v:Value},Rj w I l v->Rj w' I' l v:=fun⟨base,cap,e,j,k,C⟩=>⟨base,cap,e,j,k,C.imp id fun⟨b,off,hb,n,B⟩=>
  ⟨b,off,hb,(h b n).1,fun i x f=>let ⟨us,hu,D⟩:=B i x f;⟨us,hu,rangeAt_of_block (h b n).2 D⟩⟩⟩
 induction r with
 | mk y a b base cap p off us j k h3 z d _ A F=>
  refine .mk y a b base cap p off us (u j) (u k) h3 z (d.imp id fun q=>⟨q.1,(h p q.2).1⟩) F fun i x f=>?_
  rcases d with d | d
  ·simp[d] at f
  exact rangeAt_of_block (h p d.2).2 (A i x f)
theorem GC (h:∀b,I b->I' b/\w'.heap[b]? =w.heap[b]?) (t:T):∀(x:el t) (vs:List Value),rep w I t x vs->rep w' I' t x vs:=by
 induction t with
 | sl t n=>exact fun _ _ ⟨base,cap,e,f,j,r⟩=>⟨base,cap,e,f,j,r.imp id fun⟨b,off,hb,d,q⟩=>
  ⟨b,off,hb,(h b d).1,fun i x u=>let ⟨us,hu,k⟩:=q i x u;⟨us,n x us hu,rangeAt_of_block (h b d).2 k⟩⟩⟩
 | pr a b z A=>exact fun _ _ ⟨v1,v2,e,f,j⟩=>⟨v1,v2,e,z _ v1 f,A _ v2 j⟩
 | ex=>exact fun _ _=>Im.mono h
 | rf t n=>exact fun _ _ ⟨b,o,us,e,d,k,ha⟩=>⟨b,o,us,e,(h b d).1,n _ us k,rangeAt_of_block (h b d).2 ha⟩
 | _=>exact fun _ _ h=>h
def J5 (w:World) (I:Nat->Prop):Prop:=∀g q,GI g=some q->I g/\∃us,rep w I q.1 q.2 us/\w.rangeAt g 0 us
theorem J5.mono (h:∀b,I b->I' b/\w'.heap[b]? =w.heap[b]?) (G:J5 w I):J5 w' I':=fun g q e=>
 let ⟨d,us,f,h3⟩:=G g q e
 ⟨(h g d).1,us,GC h _ _ _ f,rangeAt_of_block (h g d).2 h3⟩
def Ku (w:World) (o:Option Nat) (n off len:Nat) (full:Bool) (v:Value):Prop:=
 ∃base cap,v= .slice base len cap/\len<=cap/\cap<=maxLen/\(full=true->cap=len)/\
  (cap=0\/∃b arr e,o=some b/\base=some ⟨b,off*n,none⟩/\w.heap[b]? =some (.cells arr e (0,0))/\(off+cap)*n<=arr.size)
structure Cx where
 w:World
 β:Nat->Option Nat
 cv:Nat->Nat
 I:Nat->Prop
 J:Nat->Prop
variable {x y:Cx}
def Hu (x:Cx) (id BY:Nat) (v:Value) (A:Prop):Prop:=(v.oneCell'=true/\BY<=x.cv id)/\(BY=x.cv id->A)
def E3 (x:Cx) (id BY off:Nat) (v:Value):Prop:=Hu x id BY v (∃b,x.β id=some b/\v= .pointer (some ⟨b,off,none⟩))
def Ik (w:World) (I:Nat->Prop) (q:(t:T)×el t) (off:Nat) (v:Value):Prop:=∃b o us,v= .pointer (some ⟨b,o+off,none⟩)/\I b/\rep w I q.1 q.2 us/\w.rangeAt b o us
theorem Ik.mono (h:∀b,I b->I' b/\w'.heap[b]? =w.heap[b]?) {q:(t:T)×el t} {o:Nat}:Ik w I q o v->Ik w' I' q o v:=
 fun⟨b,o,us,e,d,f,ha⟩=>⟨b,o,us,e,(h b d).1,GC h _ _ _ f,rangeAt_of_block (h b d).2 ha⟩
def CB (x:Cx):AC->Value->Prop
 | .Cd,v=>v.oneCell'=true
 | .int k n,v=>v= .int k n
 | .bool b,v=>v= .bool b
 | .fn f,v=>v= .func (.func f) #[] #[]
 | .nil,v=>v= .slice none 0 0
 | .sl t l,v=>rep x.w x.I (.sl t) l [v]
 | .BK t id BY off len,v=>Hu x id BY v (Ku x.w (x.β id) t.size off len false v)
 | .Nx t id BY off len,v=>Hu x id BY v (Ku x.w (x.β id) t.size off len true v)
 | .BX id BY off,v=>E3 x id BY off v
 | .Iu t id BY i k,v=>E3 x id BY (i*t.size+k) v
 | .ub e,v=>∃b:Bool,v= .bool b/\(b=true->e=true)
 | .DL t y off,v=>Ik x.w x.I ⟨t,y⟩ off v
 | .Hx f ps,v=>∃us:Array Value,v= .func (.func f) #[] us/\Bg (fun p=>E3 x p.1 p.2 0) ps us.toList
 | .Fp f qs,v=>∃us:Array Value,v= .func (.func f) #[] us/\Bg (fun q=>Ik x.w x.I q 0) qs us.toList
 | .str s,v=>v= .string s
 | .KZ ps,v=>∃b off cap us,v= .slice (some ⟨b,off,none⟩) ps.length cap/\ps.length<=cap/\x.J b/\Bg (fun p=>E3 x p.1 p.2.1 p.2.2) ps us/\x.w.rangeAt b off us
 | .I8 p,v=>∃b o u,v= .pointer (some ⟨b,o,none⟩)/\x.J b/\E3 x p.1 p.2.1 p.2.2 u/\x.w.rangeAt b o [u]
 | .own _ _ _,_=>False
theorem CB.one (r:CB x c v):v.oneCell'=true:=by
 cases c <;> first
  | exact r.1.1
  | exact r
  | exact r.elim
  | (rw[show v=_ from r];rfl)
  | (obtain⟨_,e,_⟩:=r;rw[e];rfl)
  | (obtain⟨_,_,e,_⟩:=r;rw[(List.cons.inj e).1];rfl)
  | (obtain⟨_,_,_,e,_⟩:=r;rw[e];rfl)
  | (obtain⟨_,_,_,_,e,_⟩:=r;rw[e];rfl)
theorem Bg.one {cs:List AC} {vs:List Value} (r:Bg (CB x) cs vs):∀v∈vs,v.oneCell'=true:=by
 induction r with
 | nil=>simp
 | cons q _ f=>exact fun v d=>(List.mem_cons.1 d).elim (fun e=>e ▸ q.one) (f v)
theorem G1 (x:Cx) (t:T):∀(y:el t) (vs:List Value),rep x.w x.I t y vs↔Bg (CB x) (cells t y) vs:=by
 have one:∀{p:List Value->Prop} {c:AC} (vs:List Value),(∀v,p [v]↔CB x c v)->(∀vs,p vs->vs.length=1)->(p vs↔Bg (CB x) [c] vs):=fun vs d f=>by
  constructor
  ·intro h
   match vs,f _ h,h with
   | [v],_,h=>exact .cons ((d v).1 h) .nil
  rintro (_ |⟨q,_ | _⟩);exact (d _).2 q
 induction t with
 | sl t=>exact fun y vs=>one vs (fun _=>Iff.rfl) fun vs ⟨_,_,e,_⟩=>by rw[e];rfl
 | rf t=>exact fun y vs=>one vs (fun _=>⟨fun⟨b,o,us,e,r⟩=>⟨b,o,us,(List.cons.inj e).1,r⟩,fun⟨b,o,us,e,r⟩=>⟨b,o,us,congrArg (· :: []) e,r⟩⟩) fun vs ⟨_,_,_,e,_⟩=>by rw[e];rfl
 | pr a b B C=>
  intro y vs
  constructor
  ·rintro⟨v1,v2,rfl,d,f⟩
   exact ((B y.1 v1).1 d).append ((C y.2 v2).1 f)
  intro h;obtain⟨m1,m2,e,d,f⟩:=Bg.VC h;exact⟨m1,m2,e,(B y.1 m1).2 d,(C y.2 m2).2 f⟩
 | ex=>
  intro y vs
  constructor
  ·rintro⟨_,a,b,base,cap,p,off,us,d,f,h3,n,k,J,K⟩
   exact .cons rfl (.cons rfl (.cons d (.cons rfl (.cons f (.cons rfl (.cons ⟨base,cap,rfl,h3,n,k.imp id fun q=>⟨p,off,q.1,q.2,fun i x A=>⟨us i,J i x A,K i x A⟩⟩⟩ .nil))))))
  rintro (_ |⟨e1,_ |⟨e2,_ |⟨d,_ |⟨D,_ |⟨f,_ |⟨F,_ |⟨⟨base,cap,G,h3,n,k⟩,_ | _⟩⟩⟩⟩⟩⟩⟩);cases e1;cases e2;cases D;cases F;cases G
  have key:∃(p off:Nat) (us:Nat->List Value),(y.args=[]\/(base=some ⟨p,off,none⟩/\x.I p))/\∀(i:Nat) (z:Ex),y.args[i]? =some z->Im x.w x.I z (us i)/\x.w.rangeAt p (off+i*7) (us i):=by
   rcases k with k |⟨p,off,g1,g2,H⟩
   ·exact⟨0,0,fun _=>[],.inl k,fun i z j=>by simp[k] at j⟩
   have u:∀i,∃us,∀z,y.args[i]? =some z->Im x.w x.I z us/\x.w.rangeAt p (off+i*7) us:=fun i=>by
    cases j:y.args[i]? with
    | none=>exact⟨[],fun z e=>by cases e⟩
    | some z=>obtain⟨us,q⟩:=H i z j;exact⟨us,fun z' e=>by cases e;exact q⟩
   exact⟨p,off,fun i=>Classical.choose (u i),.inr ⟨g1,g2⟩,fun i z j=>Classical.choose_spec (u i) z j⟩
  obtain⟨p,off,us,g1,g2⟩:=key;exact .mk y _ _ base cap p off us d f h3 n g1 (fun i z j=>(g2 i z j).1) fun i z j=>(g2 i z j).2
 | _=>exact fun y vs=>one vs (fun v=>⟨fun e=>(List.cons.inj e).1,fun e=>congrArg (· :: []) e⟩) fun vs e=>by rw[show vs=_ from e];rfl
theorem Mw (t:T) (y:el t) (vs:List Value) (h:rep w I t y vs):vs.length=t.size:=by
 rw[<-((G1 ⟨w,fun _=>none,fun _=>0,I,I⟩ t y vs).1 h).length,LA]
theorem qm (t:T) (y:el t) (vs:List Value) (h:rep w I t y vs):∀v∈vs,v.oneCell'=true:=((G1 ⟨w,fun _=>none,fun _=>0,I,I⟩ t y vs).1 h).one
abbrev gx (x:Cx):AV->Value->Prop:=Gq (CB x)
abbrev DC (x:Cx):AV->Value->Prop:=RV (CB x)
def Dk (x:Cx) (id:Nat):BM->Prop
 | .dead _=>True
 | .var _ cs=>∃b arr e,x.β id=some b/\x.w.heap[b]? =some (.cells arr e (0,0))/\Bg (CB x) cs arr.toList
 | .arr _ t l=>(x.β id=none/\l=[])\/∃b arr e,x.β id=some b/\x.w.heap[b]? =some (.cells arr e (0,0))/\
  ∀(i:Nat) (y:el t),l[i]? =some y->∃us,rep x.w x.I t y us/\x.w.rangeAt b (i*t.size) us
structure Cx.le (x y:Cx):Prop where
 cv:∀id,x.cv id<=y.cv id
 β:∀id,y.cv id=x.cv id->y.β id=x.β id
 size:∀id b arr e,y.cv id=x.cv id->x.β id=some b->x.w.heap[b]? =some (.cells arr e (0,0))->∃arr',y.w.heap[b]? =some (.cells arr' e (0,0))/\arr'.size=arr.size
 I:∀b,x.I b->y.I b/\y.w.heap[b]? =x.w.heap[b]?
 J:∀b,x.J b->y.J b/\y.w.heap[b]? =x.w.heap[b]?
theorem Hu.mono (h:x.le y) {id k:Nat} {A B:Prop} (q:Hu x id k v A) (d:y.cv id=x.cv id->A->B):Hu y id k v B:=by
 have:=h.cv id;obtain⟨⟨a,b⟩,c⟩:=q;exact⟨⟨a,AA⟩,fun e=>d AA (c AA)⟩
theorem E3.mono (h:x.le y) {i k o:Nat} (q:E3 x i k o v):E3 y i k o v:=Hu.mono h q fun e ⟨b,p,r⟩=>⟨b,(h.β i e).trans p,r⟩
theorem Ku.mono (h:x.le y) {id k n off len:Nat} {f:Bool} (q:Hu x id k v (Ku x.w (x.β id) n off len f v)):Hu y id k v (Ku y.w (y.β id) n off len f v):=
 Hu.mono h q fun r ⟨base,cap,e,u,z,hf,h3⟩=>⟨base,cap,e,u,z,hf,h3.imp (fun q=>q) fun⟨b,arr,j,hb,d,B,D⟩=>
  let ⟨i,A,C⟩:=h.size id b arr j r hb B
  ⟨b,i,j,(h.β id r).trans hb,d,A,AA⟩⟩
theorem H5 (h:∀b,x.I b->y.I b/\y.w.heap[b]? =x.w.heap[b]?) (e:EO c=true) (r:CB x c v):CB y c v:=by
 cases c <;> first
  | exact r
  | exact GC h _ _ _ r
  | exact Ik.mono h r
  | (obtain⟨us,e,r⟩:=r;exact⟨us,e,r.mono fun _ _=>Ik.mono h⟩)
  | cases e
theorem CB.mono (h:x.le y) (r:CB x c v):CB y c v:=by
 cases c <;> first
  | exact H5 h.I rfl r
  | exact E3.mono h r
  | exact Ku.mono h r
  | exact r
  | (obtain⟨us,e,r⟩:=r;exact⟨us,e,r.mono fun _ _=>E3.mono h⟩)
  | (obtain⟨b,o,c,us,e,j,d,f,i⟩:=r;exact⟨b,o,c,us,e,j,(h.J b d).1,f.mono fun _ _=>E3.mono h,rangeAt_of_block (h.J b d).2 i⟩)
  | (obtain⟨b,o,u,e,d,f,i⟩:=r;exact⟨b,o,u,e,(h.J b d).1,E3.mono h f,rangeAt_of_block (h.J b d).2 i⟩)
theorem DC.mono (h:x.le y) {a:AV} (r:DC x a v):DC y a v:=RV.mono (p:=fun _=>true) (fun _ _ _=>CB.mono h) a.all_true r
def BM.live:BM->Bool
 | .dead _=>false
 | _=>true
theorem Dk.to {id k:Nat} {b:BM} (d:y.β k=x.β id) (hw:b.live=true->∀j,x.β id=some j->y.w.heap[j]? =x.w.heap[j]?) (n:∀v cs,b= .var v cs->∀us,Bg (CB x) cs us->Bg (CB y) cs us)
  (ha:∀v t l,b= .arr v t l->∀(z:el t) us,rep x.w x.I t z us->rep y.w y.I t z us) (r:Dk x id b):Dk y k b:=by
 cases b with
 | dead _=>trivial
 | var _ cs=>obtain⟨b,arr,e,f,h,h3⟩:=r;exact⟨b,arr,e,d.trans f,(hw rfl b f).trans h,n _ _ rfl _ h3⟩
 | arr _ t l=>exact r.imp (fun q=>⟨d.trans q.1,q.2⟩) fun⟨b,arr,e,f,h,h3⟩=>⟨b,arr,e,d.trans f,(hw rfl b f).trans h,fun i y' u=>
  let ⟨us,hu,A⟩:=h3 i y' u
  ⟨us,ha _ t l rfl y' us hu,rangeAt_of_block (hw rfl b f) A⟩⟩
theorem Dk.mono (h:x.le y) {id:Nat} {b:BM} (d:y.cv id=x.cv id) (hb:b.live=true->∀k,x.β id=some k->y.w.heap[k]? =x.w.heap[k]?) (r:Dk x id b):Dk y id b:=Dk.to (h.β id d) hb (fun _ _ _ _ q=>q.mono fun _ _=>CB.mono h) (fun _ _ _ _=>GC h.I _) r
end
def Gm {α:Type} (f:Nat->α) (i:Nat) (x:α) (k:Nat):α:=if k=i then x else f k
theorem JD {α:Type} {f:Nat->α} {i:Nat} {x:α}:Gm f i x i=x:=if_pos rfl
theorem Km {α:Type} {f:Nat->α} {i k:Nat} {x:α} (h:k≠i):Gm f i x k=f k:=if_neg h
theorem OW:∀(l:List AV) (d:Nat) (v:AV) (i:Nat),nth (Dj l d v) i=if i=d/\d<l.length then v else nth l i
 |[],_,_,_|_::_,0,_,0|_::_,0,_,_+1|_::_,_+1,_,0=>by simp[Dj,nth]
 | _::l,d+1,v,i+1=>by simp[Dj,nth,OW l d v i]
theorem Mk:∀(l:List (Option BM)) (d:Nat) (v:Option BM),d<l.length->Af (Dj l d v)=Gm (Af l) d v
 | _::_,0,_,_=>funext fun i=>by cases i <;> simp[Dj,Af,Gm]
 | _::l,d+1,v,h=>funext fun i=>by cases i <;> simp[Dj,Af,Gm,Mk l d v (Nat.lt_of_succ_lt_succ h)]
theorem Hg {α:Type}:∀(l:List α) (d:Nat) (v:α),(Dj l d v).length=l.length
 |[],_,_|_::_,0,_=>rfl
 | _::l,d+1,v=>by simp[Dj,Hg l d v]
theorem LX:∀(l:List (Option BM)) (i:Nat),l.length<=i->Af l i=none
 | [],_,_=>rfl
 | _::_,0,h=>by simp at h
 | _::l,i+1,h=>by simpa [Af] using LX l i (by simpa using h)
theorem Kg {α:Type}:∀(l:List α) (d:Nat) (v:α),l.length<=d->Dj l d v=l
 | [],_,_,_=>rfl
 | _::_,0,_,h=>by simp at h
 | a::l,d+1,v,h=>by simp[Dj,Kg l d v (by simpa using h)]
def BM.short:BM->Prop
 | .arr _ _ l=>l.length<=140737488355328
 | _=>True
def live (bk:Nat->Option BM) (id:Nat):Prop:=∃b,bk id=some b/\b.live=true
structure Eo (w w':World) (o:Option Nat):Prop where
 os:w'.os=w.os
 tape:w'.tape=w.tape
 output:w'.output=w.output
 size:w.heap.size<=w'.heap.size
 get:∀b,b<w.heap.size->o≠some b->w'.heap[b]? =w.heap[b]?
 Zx:∀b arr e,o=some b->w.heap[b]? =some (.cells arr e (0,0))->∃arr',w'.heap[b]? =some (.cells arr' e (0,0))/\arr'.size=arr.size
structure WX where
 A:Nat->Prop
 ob:Option Nat
def cx (X:WX) (w:World) (β:Nat->Option Nat) (bk:Nat->Option BM):Cx:=
 ⟨w,β,BY bk,fun b=>(b<w.heap.size/\∀id,live bk id->β id≠some b)/\X.A b,fun b=>b<w.heap.size/\∀id,live bk id->β id≠some b⟩
structure CE (w0:World) (X:WX) (β:Nat->Option Nat) (s:St) (a:Act) (w:World):Prop where
 defers:a.defers=[]
 len:s.sl.length=a.tmps.size
 Ql:s.bk.length=a.tmps.size
 JB:∀i,DC (cx X w β (Af s.bk)) (nth s.sl i) (a.tmps.getD i undef)
 blocks:∀id b,Af s.bk id=some b->Dk (cx X w β (Af s.bk)) id b/\b.short
 inj:∀id id' b,live (Af s.bk) id->live (Af s.bk) id'->β id=some b->β id'=some b->id=id'
 own:∀id b,live (Af s.bk) id->β id=some b->w0.heap.size<=b\/(X.ob=some b/\id=0)
 Gy:Eo w0 w X.ob
 fresh:(∀b,w0.heap.size<=b->X.A b)/\J5 w0 fun b=>(X.A b/\X.ob≠some b)/\b<w0.heap.size
 LL:live (Af s.bk) 0->BY (Af s.bk) 0=0->β 0=X.ob
section
variable {w0 w w':World} {X:WX} {β:Nat->Option Nat} {s:St} {a:Act} {o:Option Nat} {bk:Nat->Option BM}
theorem Eo.rfl:Eo w w o:=⟨by rfl,by rfl,by rfl,Nat.le_refl _,fun _ _ _=>by rfl,fun _ arr _ _ h=>⟨arr,h,by rfl⟩⟩
theorem Eo.all (F:Eo w w' o) {b:Nat} {arr:Array Value} {e:TypeId} (h:w.heap[b]? =some (.cells arr e (0,0))):∃d,w'.heap[b]? =some (.cells d e (0,0))/\d.size=arr.size:=by
 by_cases hb:o=some b
 ·exact F.Zx b arr e hb h
 exact⟨arr,(F.get b (HI h) hb).trans h,by rfl⟩
theorem CE.at (S:CE w0 X β s a w) {id:Nat} (h:live (Af s.bk) id) {b:Nat} (hb:β id=some b):∃arr e,w.heap[b]? =some (.cells arr e (0,0)):=by
 obtain⟨CX,i,j⟩:=h;have r:=(S.blocks id CX i).1;cases CX with
 | dead _=>cases j
 | var _ _=>obtain⟨b',arr,e,d,f,_⟩:=r;cases hb.symm.trans d;exact⟨arr,e,f⟩
 | arr _ _ _=>
  rcases r with⟨d,_⟩ |⟨b',arr,e,d,f,_⟩
  ·cases hb.symm.trans d
  cases hb.symm.trans d;exact⟨arr,e,f⟩
theorem CE.lt (S:CE w0 X β s a w) {id:Nat} (h:live (Af s.bk) id) {b:Nat} (hb:β id=some b):b<w.heap.size:=let ⟨_,_,h⟩:=S.at h hb;HI h
theorem CE.ZR (S:CE w0 X β s a w):J5 w (cx X w β (Af s.bk)).I:=
 J5.mono (fun b hb=>⟨⟨⟨Nat.lt_of_lt_of_le hb.2 S.Gy.size,fun id d e=>(S.own id b d e).elim (fun q=>by have:=hb.2;omega) fun q=>hb.1.2 q.1⟩,hb.1.1⟩,S.Gy.get b hb.2 hb.1.2⟩) S.fresh.2
theorem CE.step (S:CE w0 X β s a w) (F:Eo w w' o) {id:Nat} (n:o=none\/o=β id/\live (Af s.bk) id):Eo w0 w' X.ob:=by
 refine⟨F.os.trans S.Gy.os,F.tape.trans S.Gy.tape,F.output.trans S.Gy.output,Nat.le_trans S.Gy.size F.size,fun b hb i=>(F.get b (Nat.lt_of_lt_of_le hb S.Gy.size) fun e=>?_).trans (S.Gy.get b hb i),fun b arr e hb he=>?_⟩
 ·rcases n with rfl |⟨rfl,k⟩
  ·cases e
  rcases S.own id b k e with h | h
  ·omega
  exact i h.1
 obtain⟨f,j,q⟩:=S.Gy.Zx b arr e hb he;obtain⟨d,h3,r⟩:=F.all j;exact⟨d,h3,AA⟩
theorem nD (a:Act) (d:Nat) (v:Value) (i:Nat):(a.put (some d) v).tmps.getD i undef=if i=d/\d<a.tmps.size then v else a.tmps.getD i undef:=by
 simp only[Act.put,Array.getD_eq_getD_getElem?,Array.getElem?_setIfInBounds]
 by_cases h:d=i
 ·subst h
  by_cases f:d<a.tmps.size <;> simp[f]
 simp[h,Ne.symm h]
theorem dz {x:Cx} {s:St} {a:Act} (hlen:s.sl.length=a.tmps.size) (h:∀i,DC x (nth s.sl i) (a.tmps.getD i undef)) (dst:Option Nat) (v:AV) (u:Value) (f:DC x v u):
  a.defers=(a.put dst u).defers/\(GV s.sl dst v).length=(a.put dst u).tmps.size/\(a.put dst u).tmps.size=a.tmps.size/\∀i,DC x (nth (GV s.sl dst v) i) ((a.put dst u).tmps.getD i undef):=by
 cases dst with
 | none=>exact⟨rfl,hlen,rfl,h⟩
 | some d=>
  refine⟨rfl,by simp[GV,Act.put,Hg,hlen],by simp[Act.put],fun i=>?_⟩;rw[nD];simp only[GV,OW,hlen]
  split
  ·exact f
  exact h i
theorem CE.ext (S:CE w0 X β s a w) {dst:Option Nat} {v:AV} {u:Value} {rd:List Nat} (F:Eo w w' none) (z:(cx X w β (Af s.bk)).le (cx X w' β (Af s.bk))->DC (cx X w' β (Af s.bk)) v u):CE w0 X β (s.app dst ⟨v,[],rd⟩) (a.put dst u) w':=by
 have hw:∀b,b<w.heap.size->w'.heap[b]? =w.heap[b]? :=fun b h=>F.get b h AZ
 have hle:(cx X w β (Af s.bk)).le (cx X w' β (Af s.bk)):=
  ⟨fun _=>Nat.le_refl _,fun _ _=>rfl,fun id b arr e _ _ n=>F.all n,fun b hb=>⟨⟨⟨Nat.lt_of_lt_of_le hb.1.1 F.size,hb.1.2⟩,hb.2⟩,hw b hb.1.1⟩,fun b hb=>⟨⟨Nat.lt_of_lt_of_le hb.1 F.size,hb.2⟩,hw b hb.1⟩⟩
 obtain⟨d,f,h3,k⟩:=dz S.len (fun i=>DC.mono hle (S.JB i)) dst v u (z hle);exact⟨d ▸ S.defers,f,S.Ql.trans h3.symm,k,fun id b hb=>⟨Dk.mono hle rfl (fun r j q=>hw j (S.lt ⟨b,hb,r⟩ q)) (S.blocks id b hb).1,(S.blocks id b hb).2⟩,S.inj,S.own,S.step (id:=0) F (.inl rfl),S.fresh,S.LL⟩
theorem CE.val (S:CE w0 X β s a w) {dst:Option Nat} {v:AV} {u:Value} {rd:List Nat} (d:DC (cx X w β (Af s.bk)) v u):CE w0 X β (s.app dst ⟨v,[],rd⟩) (a.put dst u) w:=S.ext .rfl fun _=>d
theorem Oz {id k:Nat} {b:BM}:BY (Gm bk id (some b)) k=if k=id then b.BY else BY bk k:=by unfold BY Gm;by_cases h:k=id <;> simp[h]
theorem OO {id k:Nat} {b:BM}:live (Gm bk id (some b)) k↔if k=id then b.live=true else live bk k:=by unfold live Gm;by_cases h:k=id <;> simp[h]
theorem qJ (a:Act) (q:Nat) (u:Value) (h:a.tmps.size<=q):a.put (some q) u=a.put none undef:=by simp[Act.put,Array.setIfInBounds_eq_of_size_le h]
theorem CE.write (S:CE w0 X β s a w) {dst:Option Nat} {v:AV} {u:Value} {rd:List Nat} {id:Nat} {CX:BM} {o':Option Nat} (M:id<s.bk.length\/dst=some id/\o=none) (O:CX.short) (F:Eo w w' o) (H:o=none\/o=β id/\live (Af s.bk) id)
  (C:BY (Af s.bk) id<CX.BY\/CX.BY=BY (Af s.bk) id/\o'=β id/\(CX.live=true->live (Af s.bk) id))
  (hf:CX.live=true->∀b,o'=some b->(β id=some b/\live (Af s.bk) id)\/w.heap.size<=b)
  (J:∀y:Cx,(cx X w β (Af s.bk)).le y->y.w=w'->y.β id=o'->y.cv id=CX.BY->
   (∀k,k<w'.heap.size->w.heap.size<=k\/X.A k/\(∀j,j≠id->live (Af s.bk) j->β j≠some k)->(CX.live=true->o'≠some k)->y.I k)->Dk y id CX/\DC y v u):
  ∃Q,CE w0 X Q (s.app dst ⟨v,[(id,CX)],rd⟩) (a.put dst u) w':=by
 by_cases B:id<s.bk.length
 case neg=>
  obtain⟨rfl,rfl⟩:=M.resolve_left B;have D:a.tmps.size<=id:=by have:=S.Ql;omega
  have W:s.app (some id) ⟨v,[(id,CX)],rd⟩=s.app none ⟨.one .Cd,[],rd⟩:=by simp[St.app,GV,Fq,Kg _ _ _ (AA:s.bk.length<=id),Kg s.sl id v (by have:=S.len;omega)]
  rw[W,qJ _ _ _ D];exact⟨β,S.ext F fun _=> .inl rfl⟩
 refine⟨Gm β id o',?_⟩
 show CE w0 X _ ⟨GV s.sl dst v,Dj s.bk id (some CX)⟩ _ _
 have L:=Mk s.bk id (some CX) B
 have T:∀b,(b<w.heap.size/\∀j,live (Af s.bk) j->β j≠some b)->b<w'.heap.size/\∀j,live (Gm (Af s.bk) id (some CX)) j->Gm β id o' j≠some b:=fun b hb=>by
  refine⟨Nat.lt_of_lt_of_le hb.1 F.size,fun j f e=>?_⟩;rw[OO] at f
  by_cases h:j=id
  ·subst h;rw[if_pos rfl] at f;rw[JD] at e;rcases hf f b e with h | h
   ·exact hb.2 j h.2 h.1
   have:=hb.1;omega
  rw[if_neg h] at f;rw[Km h] at e;exact hb.2 j f e
 have hw:∀b,(b<w.heap.size/\∀j,live (Af s.bk) j->β j≠some b)->w'.heap[b]? =w.heap[b]? :=fun b hb=>F.get b hb.1 fun e=>by
  rcases H with rfl |⟨rfl,n⟩
  ·cases e
  exact hb.2 id n e
 have hle:(cx X w β (Af s.bk)).le (cx X w' (Gm β id o') (Gm (Af s.bk) id (some CX))):=by
  refine⟨fun j=>?_,fun j (h:BY _ j=BY _ j)=>?_,fun _ b arr e _ _ V=>F.all V,fun b hb=>⟨⟨T b hb.1,hb.2⟩,hw b hb.1⟩,fun b hb=>⟨T b hb,hw b hb⟩⟩
  ·show BY _ j<=BY _ j
   rw[Oz];split
   ·subst_vars;omega
   exact Nat.le_refl _
  show Gm β id o' j=β j
  by_cases f:j=id
  ·subst f;rw[Oz,if_pos rfl] at h;rw[JD];exact (C.resolve_left AA).2.1
  exact Km f
 have J:=J _ hle rfl JD (by show BY _ id=_;rw[Oz,if_pos rfl]) fun k d D G=>⟨⟨d,fun j f e=>?_⟩,D.elim (fun h=>S.fresh.1 k (Nat.le_trans S.Gy.size h)) (·.1)⟩
 obtain⟨D,G,h3,U⟩:=dz S.len (fun i=>DC.mono hle (S.JB i)) dst v u J.2;refine⟨D ▸ S.defers,G,(Hg ..).trans (S.Ql.trans h3.symm),?_,?_,?_,?_,S.step F H,S.fresh,?_⟩ <;> simp only[L]
 ·exact U
 ·intro k b d
  by_cases h:k=id
  ·subst h;rw[JD] at d;cases d;exact⟨J.1,O⟩
  rw[Km h] at d;refine⟨Dk.mono hle (by show BY _ k=BY _ k;rw[Oz,if_neg h]) (fun n j f=>F.get j (S.lt ⟨b,d,n⟩ f) fun e=>?_) (S.blocks k b d).1,(S.blocks k b d).2⟩;rcases H with rfl |⟨rfl,N⟩
  ·cases e
  exact h (S.inj k id j ⟨b,d,n⟩ N f e)
 ·have key:∀{k b},k≠id->CX.live=true->o'=some b->live (Af s.bk) k->β k=some b->False:=fun {k b} h n H d hb=>
   (hf n b H).elim (fun q=>h (S.inj k id b d q.2 hb q.1)) fun q=>by have:=S.lt d hb;omega
  intro k k' b d r hb z;rw[OO] at d r
  by_cases h:k=id <;> by_cases h':k'=id <;> simp only[Gm,h,h',if_true,if_false] at d r hb z
  ·exact h.trans h'.symm
  ·exact (key h' d hb r z).elim
  ·exact (key h r z d hb).elim
  exact S.inj k k' b d r hb z
 ·intro k b d hb;rw[OO] at d
  by_cases h:k=id
  ·subst h;rw[if_pos rfl] at d;rw[JD] at hb;rcases hf d b hb with h | h
   ·exact S.own k b h.2 h.1
   exact .inl (Nat.le_trans S.Gy.size h)
  rw[if_neg h] at d;rw[Km h] at hb;exact S.own k b d hb
 ·intro n K;rw[OO] at n;rw[Oz] at K
  by_cases h:0=id
  ·subst h;rw[if_pos rfl] at n K;obtain⟨_,G,h3⟩:=C.resolve_left AA;rw[JD,G];exact S.LL (h3 n) AA
  rw[if_neg h] at n K;rw[Km h];exact S.LL n K
 rw[OO] at f
 by_cases h:j=id
 ·subst h;rw[if_pos rfl] at f;rw[JD] at e;exact G f e
 rw[if_neg h] at f;rw[Km h] at e;exact D.elim (fun q=>by have:=S.lt f e;omega) fun q=>q.2 j h f e
end
def EG (w:World) (ob:Option Nat) (I:Nat->Prop):Cx:=⟨w,fun k=>if k=0 then ob else none,fun _=>0,I,fun b=>b<w.heap.size/\ob≠some b⟩
abbrev KS (w:World) (I:Nat->Prop):Cx:=EG w none I
def OwnAt (x:Cx) (lo:Nat) (bo:Option Nat) (t:T) (l:List (el t)) (v:Value):Prop:=
 ∃base cap,v= .slice base l.length cap/\l.length<=cap/\cap<=maxLen/\l.length<=140737488355328/\
  ((bo=none/\l=[]/\cap=0)\/∃b arr e,bo=some b/\lo<=b/\base=some ⟨b,0,none⟩/\x.w.heap[b]? =some (.cells arr e (0,0))/\cap*t.size<=arr.size/\
    ∀(i:Nat) (y:el t),l[i]? =some y->∃us,rep x.w x.I t y us/\x.w.rangeAt b (i*t.size) us)
def HU (x:Cx) (lo:Nat) (bo:Option Nat):AC->Value->Prop
 | .own t l n,v=>n=l.length/\OwnAt x lo bo t l v
 | c,v=>CB x c v
def Hj:AC->Bool
 | .own _ _ _=>true
 | c=>EO c
def Qo:AC->Bool
 |.BK _ 0 0 _ _|.BX 0 0 _|.I8 (0,0,_)=>true
 | c=>EO c
def AV.wf:AV->Bool
 | .BN xs=>xs.all fun x=>x.1||decide (x.2.length<=1)
 | _=>true
def BM.lone:BM->Bool
 | .var v cs=>v==0&&cs.all EO
 | .arr v _ _=>v==0
 | .dead _=>false
def Callee (P : Program) (f : FuncId) : Prop := ∃ fn c, P.funcs[f]? = some fn /\ (fn.name == "runtime.NumGoroutine") = false /\ fn.body = some c
def EU (fl:Bool) (I:Nat->Prop) (n:Nat) (w':World) (ob bo:Option Nat):Cx:=EG w' ob fun k=>((fl=false/\I k)\/n<=k)/\k<w'.heap.size/\ob≠some k/\bo≠some k
def Ky (P:Program) (fl:Bool) (f:FuncId) (args:List AV) (b0:BM) (r:AV) (b1:BM):Prop:=
 Callee P f/\∀(w:World) (I:Nat->Prop) (ob:Option Nat) (vs:List Value),(b0.live=true\/ob=none)->(∀b,I b->b<w.heap.size/\ob≠some b)->J5 w I->
  Dk (EG w ob I) 0 b0/\b0.short->Bg (DC (EG w ob I)) args vs->
  Calls P f vs.toArray w fun e w'=>∃u bo,e= .returned u/\Eo w w' ob/\RV (HU (EU fl I w.heap.size w' ob bo) w.heap.size bo) r u/\Dk (EU fl I w.heap.size w' ob bo) 0 b1/\b1.short
def Fx (P:Program) (fl:Bool) (f:FuncId) (args:List AV) (r:AV):Prop:=(r.all Hj=true/\r.wf=true)/\Ky P fl f args (.dead 0) r (.dead 0)
theorem Fx.mk {P:Program} {fl:Bool} {f:FuncId} {args:List AV} {r:AV} (j:Callee P f) (n:r.all Hj=true/\r.wf=true)
  (h:∀(w:World) (I:Nat->Prop) (vs:List Value),(∀b,I b->b<w.heap.size)->Bg (DC (KS w I)) args vs->Calls P f vs.toArray w fun e w'=>∃u d,e= .returned u/\Below w.heap.size w w'/\RV (HU (EU fl I w.heap.size w' none d) w.heap.size d) r u):Fx P fl f args r:=
 ⟨n,j,fun w I ob vs k i _ _ ha=>by
  obtain rfl:ob=none:=k.resolve_left nofun;exact (h w I vs (fun b q=>(i b q).1) ha).mono fun e w' ⟨u,d,he,B,q⟩=>⟨u,d,he,⟨B.os,B.tape,B.output,B.size,fun b hb _=>B.block b hb,nofun⟩,q,(by trivial),trivial⟩⟩
def J4 (P:Program) (f:FuncId) (c0:AC) (b0:BM) (args:List AV) (r:AV) (b1:BM):Prop:=b0.lone=true/\Ky P false f (.one c0::args) b0 r b1
def Bi (P:Program) (f:FuncId) (args:List AV) (b0:BM) (r:AV) (b1:BM):Prop:=(r.all EO=true/\b0.lone=true/\b1.lone=true)/\Ky P false f args b0 r b1
def CY (P:Program) (f:FuncId) (args:List AV) (b0:BM) (r:AV):Prop:=Bi P f args b0 r b0
def env (P:Program):Env:=⟨Fx P,J4 P,CY P,Bi P⟩
structure IE (P:Program) (t:TypeId) (i:Info):Prop where
 info:i.known=true->∃ti z d,P.info? t=some ti/\ti.size=i.size/\ti.zero=some z/\(∀x,Bg (CB x) i.zero z.cells.toList)/\
  P.underlying t=some d/\d.isRow=i.agg/\(i.agg=false->i.size=1)
 kind:∀k,i.kind=some k->P.underlying t=some (.int k)
 isb:i.Jf=true->P.underlying t=some .bool
 Qg:i.H3=true->P.underlying t=some .string
 sl:i.sl=true->P.underlying t=some (.slice i.Dw)/\∃ei z,P.info? i.Dw=some ei/\ei.size=i.elem.size/\ei.bytes=i.F5/\0<ei.bytes/\ei.zero=some z/\
  ∀x,Bg (CB x) (cells i.elem i.Cy) z.cells.toList
 fields:i.known=true->i.fields≠[]->∃fs:Array Field,P.underlying t=some (.struct fs)/\i.fields.length=fs.size/\
  ∀(f fo n:Nat) (g:Bool),i.fields[f]? =some (fo,n,g)->∃fl d,fs[f]? =some fl/\fl.offset=fo/\(P.info? fl.type).map (·.size)=some n/\0<n/\P.underlying fl.type=some d/\d.isRow=g/\(g=false->n=1)
 arr:∀q,i.arr=some q->∃e ei d,P.underlying t=some (.array q.1 e)/\P.info? e=some ei/\ei.size=q.2.1/\P.underlying e=some d/\d.isRow=q.2.2/\(q.2.2=false->q.2.1=1)/\2<=q.1
 pt:i.pt=true->P.underlying t=some (.slice i.Dw)/\∃ei z,P.info? i.Dw=some ei/\ei.size=1/\ei.zero=some z/\z.cells.size=1
theorem T.beq_eq {a:T}:∀{b:T},T.beq a b=true->a=b:=by
 induction a with
 | sl _ d | rf _ d=>intro b h;cases b <;> simp_all [T.beq];exact d h
 | pr _ _ d f=>intro b h;cases b <;> simp_all [T.beq];exact⟨d h.1,f h.2⟩
 | _=>intro b h;cases b <;> simp_all [T.beq]
section
variable {P:Program} {w:World}
theorem ca {t:TypeId} {d:TypeDesc} (hu:P.underlying t=some d):(isAgg t).run P w= .ok d.isRow w:=by
 unfold isAgg;rw[Sem.run_bind,run_underlying hu w];cases d <;> simp
theorem rF {t:TypeId} {h:TypeInfo} {b o:Nat} {v:Value} (k:P.info? t=some h) (f:v.cells.size=h.size) (ht:w.there b o h.size) (i:∀u∈v.cells.toList,u.oneCell'=true):
  (Instr.storeAt t (.pointer (some ⟨b,o,none⟩)) v).run P w= .ok () (w.setCells b o v.cells.toList):=by
 have:=run_storeCells_cells (P:=P) b o v.cells.toList 0 w (fun j d=>by simpa using (ht j (by simpa [f] using d)).1) (fun j d=>by simpa using (ht j (by simpa [f] using d)).2) i;simp only[Nat.add_zero] at this;simp[Instr.storeAt,Instr.sureAddr,storeVar,sizeOf,typeInfo,k,f,this]
end
theorem RE {v:Value} (h:v.oneCell'=true):v.cells= #[v]:=by
 cases v <;> simp_all [Value.oneCell',Value.cells]
theorem UL {v:AV} (d:∀xs,v≠ .BN xs) (f:v≠ .one .Cd):v.full=true:=by
 match v with
 | .one c=>cases c <;> first | rfl | exact absurd rfl f
 | .agg _=>rfl
 | .BN _=>exact absurd rfl (d _)
theorem Lg {x:Cx} {d:AV} {v:Value} (h:DC x d v) (hf:d.full=true):Bg (CB x) d.cs v.cells.toList:=by
 cases d with
 | one c=>
  rcases h with rfl | h
  ·cases hf
  rw[RE h.one];exact .cons h .nil
 | agg cs=>obtain⟨arr,rfl,h⟩:=h;exact h
 | BN _=>cases hf
theorem FO {bk:Nat->Option BM} {id:Nat} {b:BM} (h:bk id=some b):BY bk id=b.BY:=by unfold BY;rw[h]
theorem MO {w0:World} {X:WX} {β:Nat->Option Nat} {s:St} {a:Act} {w:World} (S:CE w0 X β s a w) (o:Operand):DC (cx X w β (Af s.bk)) (ev s.sl o) (a.eval o):=by
 cases o with
 | tmp t=>exact S.JB t
 | func f=>exact Or.inr rfl
 | global g=>
  simp only[ev]
  split
  ·rename_i q i
   obtain⟨d,us,h,h3⟩:=S.ZR g q i;exact Or.inr ⟨g,0,us,rfl,d,h,h3⟩
  exact Or.inl rfl
 | const v=>
  show DC _ (TW v) v
  unfold TW
  split <;> first | exact Or.inr rfl | exact Or.inl rfl
def valOf (g:Bool) (vs:List Value):Value:=
 match g with
 | true=> .agg vs.toArray
 | false=>vs.headD undef
theorem RU {x:Cx} {g:Bool} {cs:List AC} {vs:List Value} (h:Bg (CB x) cs vs) (d:g=false->cs.length=1):DC x (Gg (g,cs)) (valOf g vs):=by
 cases g with
 | true=>exact⟨_,rfl,by simpa using h⟩
 | false=>
  have:=d rfl
  match cs,vs,h with
  | [c],[v],.cons h _=>exact Or.inr h
section
variable {P:Program} {E:Env} {TI:TypeId->Info} {w w':World} {a:Act} {x:Cx}
theorem Dk.arr {id v:Nat} {t:T} {l:List (el t)} {b:Nat} (h:Dk x id (.arr v t l)) (hb:x.β id=some b):∃arr e,x.w.heap[b]? =some (.cells arr e (0,0))/\∀(i:Nat) (y:el t),l[i]? =some y->∃us,rep x.w x.I t y us/\x.w.rangeAt b (i*t.size) us:=by
 rcases h with⟨h,_⟩ |⟨b',arr,e,d,f,h3⟩
 ·cases h.symm.trans hb
 cases d.symm.trans hb;exact⟨arr,e,f,h3⟩
theorem Dk.var {id v:Nat} {cs:List AC} {b:Nat} (h:Dk x id (.var v cs)) (hb:x.β id=some b):∃arr e,x.w.heap[b]? =some (.cells arr e (0,0))/\Bg (CB x) cs arr.toList:=by
 obtain⟨b',arr,e,d,f,h3⟩:=h;cases d.symm.trans hb;exact⟨arr,e,f,h3⟩
theorem kE {op:BinOp} {k k':IntKind} {x y:Int} {c:AC} {t:TypeId} (q:k=k'\/op= .shl\/op= .shr) (h:arith op k x y (fun d=>d=c)):
  ∃u,(binOp op t (.int k x) (.int k' y)).run P w= .ok u w/\∀Γ,CB Γ c u:=by
 have n:∀{c:Int},Ew c->IntKind.i64.wrap c=c:=fun h=>IntWalk.i64_in _ ⟨h.1,by have:=h.2;omega⟩
 by_cases j:op= .shl\/op= .shr
 ·rcases j with rfl | rfl
  all_goals
   obtain⟨i,rfl⟩:=h _ rfl;exact⟨_,by simp only[binOp,Op.shift,if_neg (Int.not_lt.2 (i ()))];rfl,fun _=>rfl⟩
 have q:k=k':=q.resolve_right j;subst q
 have hb:∀f,f≠ .shl->f≠ .shr->binOp f t (.int k x) (.int k y)=(match f with
  | .add | .sub | .mul=>Op.intArith f k x y | .quo | .rem=>Op.intDiv f k x y | .and | .or | .xor | .andNot=>Op.intBits f k x y | _=>Op.intCmp f x y):=by
  intro f i r;cases f <;> simp_all [binOp]
 rw[hb op (fun e=>j (.inl e)) (fun e=>j (.inr e))]
 cases op <;> first
  | (obtain rfl:=h _ rfl;exact⟨_,rfl,fun _=>rfl⟩)
  | exact absurd (.inl rfl) j
  | exact absurd (.inr rfl) j
  | (cases k <;> first
   | (obtain rfl:=h _ rfl;exact⟨_,rfl,fun _=>rfl⟩)
   | (obtain⟨i,rfl⟩:=h _ rfl;exact⟨_,rfl,fun _=>by show _=_;rw[n (i ())]⟩)
   | (obtain⟨i,rfl⟩:=h _ rfl
      obtain⟨i,r,h3⟩:=i ();exact⟨_,by simp only[Op.intDiv,if_neg (AA:¬y=0)];rfl,fun _=>by show _=_;rw[Int.tdiv_eq_ediv_of_nonneg i,n h3]⟩)
   | (obtain⟨i,rfl⟩:=h _ rfl
      obtain⟨i,r⟩:=i ();exact⟨_,by simp only[Op.intDiv,if_neg (AA:¬y=0)];rfl,fun _=>by show _=_;first | rw[Int.tdiv_eq_ediv_of_nonneg i] | rw[Int.tmod_eq_emod_of_nonneg i]⟩))
theorem kZ {I:Nat->Prop} {l:List UInt8} {v:Value} {src dst e:TypeId} (i:P.underlying src=some (.slice e)) (he:P.underlying e=some (.int .u8)) (d:P.underlying dst=some .string) (h:rep w I (.sl .u8) l [v]):
  (convert src dst v).run P w= .ok (.string ⟨l.toArray⟩) w:=by
 obtain⟨base,cap,r,u,z,h3⟩:=h;cases r;rcases base with _ | k
 ·obtain rfl:l=[]:=h3.resolve_right (fun⟨_,_,e,_⟩=>by cases e);exact run_convert_bytes_nil w src e i he _ _ dst d
 refine run_convert_bytes_back w src dst e k cap l i he d fun j f=>?_
 rcases h3 with rfl |⟨b,off,e,_,n⟩
 ·simp at f
 cases e;obtain⟨us,hu,q⟩:=n j _ (List.getElem?_eq_getElem f);cases (show us=_ from hu);have:=q 0 _ rfl;rw[show (⟨b,off,none⟩:Addr).add j=⟨b,off+j,none⟩ by unfold Addr.add;split <;> simp_all];simpa [T.size] using this
theorem bL {e:TypeId} {i:TypeInfo} {d:TypeDesc} {g:Bool} {n f:Nat} {arr:Array Value} (h3:P.info? e=some i) (A:i.size=n) (j:P.underlying e=some d) (k:d.isRow=g) (q:g=false->n=1) (h:((arr.toList.drop f).take n).length=n):
  (part e arr f).run P w= .ok (valOf g ((arr.toList.drop f).take n)) w:=by
 unfold part;rw[Sem.run_bind,ca j,Result.andThen_ok,k];cases g with
 | true=>
  have e1:arr.extract f (f+n)=((arr.toList.drop f).take n).toArray:=by
   apply Array.ext';simp only[Array.toList_extract,List.extract_eq_take_drop];rw[(AA:f+n-f=n)]
  simp[sizeOf,typeInfo,h3,A,e1,valOf]
 | false=>
  obtain rfl:=q rfl;obtain⟨u,r,e⟩:=List.exists_cons_of_ne_nil (l:=arr.toList.drop f) (by intro e;simp[e] at h);have z:arr[f]? =some u:=by have:=congrArg (·[0]?) e;simpa using this
  simp[z,e,valOf]
theorem bm {b off n:Nat} {arr:Array Value} {e:TypeId} (h:w.heap[b]? =some (.cells arr e (0,0))):w.rangeAt b off ((arr.toList.drop off).take n):=by
 intro j v d;rw[List.getElem?_take] at d
 split at d
 ·simpa [World.cell?,h] using d
 cases d
theorem Ob {b:Nat} {arr:Array Value} {e:TypeId} (h:w.heap[b]? =some (.cells arr e (0,0))):w.rangeAt b 0 arr.toList:=fun j v d=>by simpa [World.cell?,h] using d
theorem VY {b o off n:Nat} {us:List Value} (h:w.rangeAt b o us):w.rangeAt b (o+off) ((us.drop off).take n):=by
 intro j v d;rw[Nat.add_assoc];rw[List.getElem?_take] at d
 split at d
 ·exact h (off+j) v (by simpa using d)
 cases d
theorem run_load {t:TypeId} {i:Info} {b o:Nat} {us:List Value} (B:IE P t i) (D:i.known=true) (n:w.rangeAt b o us) (h:us.length=i.size):
  (Instr.loadAt t (.pointer (some ⟨b,o,none⟩))).run P w= .ok (valOf i.agg us) w:=by
 obtain⟨G,z,d,q,r,h3,F,j,k,A⟩:=B.info D;cases f:i.agg with
 | true=>exact run_loadAt_mid w b o t us d n j (k.trans f) (by simp[q,r,h])
 | false=>
  rw[A f] at h
  match us,h with
  | [u],_=>
   have C:w.cell? ⟨b,o,none⟩=some u:=by simpa using n 0 u AZ
   simp only[Instr.loadAt,Instr.sureAddr,Sem.run_bind,Sem.run_pure,Result.andThen_ok,loadVar,ca j,k,f];simp[load,Sem.run,C,valOf]
theorem Ri {t:TypeId} {d:TypeInfo} (h:P.info? t=some d):(sizeOf t).run P w= .ok d.size w:=by simp[sizeOf,typeInfo,h]
theorem cg (t:TypeId) (v:Value):(newVar t v).run P w= .ok ⟨w.heap.size,0,none⟩ (w.alloc (.cells v.cells t)):=by
 simp[newVar,newRow,newObj,Sem.run]
theorem mK {fl:Field} {b off n:Nat} (h3:(P.info? fl.type).map (·.size)=some n) (d:0<n):(fieldPlace ⟨b,off,none⟩ fl).run P w= .ok ⟨b,off+fl.offset,none⟩ w:=by
 obtain⟨h,f,rfl⟩:=Option.map_eq_some_iff.1 h3;simp[fieldPlace,sizeOf,typeInfo,f,Nat.pos_iff_ne_zero.1 d,Addr.add_mid]
theorem sw {k:IntKind} {n:Int} {y:Nat} {c:BoundsCode} (d:0<=n) (f:n<=y):(Instr.sliceBound (.int k n) y c).run P w= .ok n.toNat w:=by
 simp[Instr.sliceBound,asIntOf,d,f]
theorem Pj {lo u mx:Option Operand} {s:St} (j:∀o,DC x (ev s.sl o) (a.eval o)) {len cap:Nat} (r:len<=cap) {R:Nat->Nat->Bool->Prop}
  (h:JQ len (lo.map (ev s.sl)) (u.map (ev s.sl)) (mx.map (ev s.sl)) R) (fl:Bool:=true):
  ∃(l q m:Nat) (c:Bool),(Instr.sliceBounds fl len cap (lo.map a.eval) (u.map a.eval) (mx.map a.eval)).run P w= .ok (l,q,m) w/\l<=q/\q<=len/\q<=m/\m<=cap/\(c=true->m=q/\l=0)/\(c=false->m=cap)/\(mx≠none->c=true)/\R l q c:=by
 have I:∀{o:Operand} {k:IntKind} {n:Int},ev s.sl o= .one (.int k n)->a.eval o= .int k n:=fun {o k n} e=>by
  have:=j o;rw[e] at this;exact this.resolve_left nofun
 have B:= @sw P w;unfold JQ at h
 split at h <;> rename_i e1 e2 d <;> simp only[Option.map_eq_none_iff,Option.map_eq_some_iff] at e1 e2 d <;> try exact h.elim
 ·subst e1 e2 d;exact⟨0,len,cap,false,by simp[Instr.sliceBounds],AA,AA,r,AA,nofun,fun _=>rfl,fun h=>absurd rfl h,h _ rfl⟩
 ·obtain⟨p,rfl,e1⟩:=e1;subst e2 d;obtain⟨f,i⟩:=h.1 ();exact⟨_,len,cap,false,by simp[Instr.sliceBounds,I e1,B f (AA:_<=(len:Int))],AA,AA,r,AA,nofun,fun _=>rfl,fun h=>absurd rfl h,h.2 _ _ ⟨rfl,rfl⟩⟩
 ·obtain⟨p,rfl,e2⟩:=e2;subst e1 d;obtain⟨f,i⟩:=h.1 ();exact⟨0,_,cap,false,by simp[Instr.sliceBounds,I e2,B f (AA:_<=(cap:Int))],AA,AA,AA,AA,nofun,fun _=>rfl,fun h=>absurd rfl h,h.2 _ rfl⟩
 ·obtain⟨p,rfl,e1⟩:=e1;obtain⟨A,rfl,e2⟩:=e2;subst d;obtain⟨f,i,z⟩:=h.1 ()
  rename_i n _ n'
  exact⟨_,_,cap,false,by simp[Instr.sliceBounds,I e1,I e2,B (AA:0<=n') (AA:n'<=(cap:Int)),B f (AA:n<=(n'.toNat:Int))],AA,AA,AA,AA,nofun,fun _=>rfl,fun h=>absurd rfl h,h.2 _ _ ⟨rfl,rfl⟩⟩
 obtain⟨p,rfl,e2⟩:=e2;obtain⟨A,rfl,d⟩:=d;subst e1;obtain⟨f,i,z⟩:=h.1 ();subst i
 rename_i n _
 exact⟨0,_,_,true,by simp[Instr.sliceBounds,I e2,I d,B f (AA:n<=(cap:Int)),B f (AA:n<=(n.toNat:Int))],AA,AA,AA,AA,fun _=>⟨rfl,rfl⟩,nofun,fun _=>rfl,h.2 _ rfl⟩
end
theorem OZ {α:Type} (l:List α) (o:Nat):Dn l o []=l:=by
 induction l generalizing o <;> cases o <;> simp_all [Dn]
theorem VP {α:Type}:∀(l:List α) (o:Nat) (v:α) (r:List α),Dn (l.set o v) (o+1) r=Dn l o (v::r)
 | [],0,_,_ | [],_+1,_,_=>rfl
 | c::l,0,v,r=>by simp[Dn]
 | c::l,o+1,v,r=>by simp[Dn,VP l o v r]
theorem bf {α:Type}:∀(l m:List α),m.length=l.length->Dn l 0 m=m
 | [],[],_=>rfl
 | _::l,_::m,h=>by simp[Dn,bf l m (by simpa using h)]
 | [],_::_,h | _::_,[],h=>by simp at h
theorem Bg.Dn {α γ:Type} {R:α->γ->Prop} {l:List α} {m:List γ} (h:Bg R l m):∀(o:Nat) {xs:List α} {ys:List γ},Bg R xs ys->Bg R (Dn l o xs) (Dn m o ys):=by
 induction h with
 | nil=>intro o xs ys h;cases o <;> cases h <;> exact .nil
 | cons q h d=>
  intro o xs ys h';cases o with
  | zero=>cases h' with
   | nil=>exact .cons q h
   | cons p r=>exact .cons p (d 0 r)
  | succ o=>exact .cons q (d o h')
theorem UN {α:Type}:∀(l:List α) (o:Nat) (xs:List α) (m:Nat),o+xs.length<=l.length->(Dn l o xs)[m]? =if o<=m/\m<o+xs.length then xs[m-o]? else l[m]?
 | [],o,xs,m,h=>by
  obtain rfl:xs=[]:=List.eq_nil_of_length_eq_zero (by simp only[List.length_nil] at h;omega);rw[OZ,if_neg (by simp only[List.length_nil];omega)]
 | c::l,0,[],m,_=>by rw[OZ,if_neg AZ]
 | c::l,0,x::xs,m,h=>by
  cases m with
  | zero=>simp[Dn]
  | succ m=>simpa [Dn] using UN l 0 xs m (by simp only[List.length_cons] at h;omega)
 | c::l,o+1,xs,m,h=>by
  have e:Dn (c::l) (o+1) xs=c::Dn l o xs:=by cases xs <;> rfl
  cases m with
  | zero=>rw[e,if_neg AA];rfl
  | succ m=>
   rw[e,List.getElem?_cons_succ,List.getElem?_cons_succ,UN l o xs m (by simp only[List.length_cons] at h;omega)]
   by_cases d:o<=m/\m<o+xs.length
   ·rw[if_pos d,if_pos AA];congr 1;omega
   rw[if_neg d,if_neg AA]
theorem Uf {α:Type}:∀(l:List α) (o:Nat) (xs:List α),(Dn l o xs).length=l.length
 | _,0,[]=>by rw[OZ]
 | [],0,_::_ | [],_+1,_=>rfl
 | _::cs,0,_::xs=>by simp[Dn,Uf cs 0 xs]
 | _::cs,o+1,xs=>by simp[Dn,Uf cs o xs]
section
variable {w w':World} {b o:Nat} {arr:Array Value} {e:TypeId} {vs:List Value}
theorem On (b:Nat):∀(vs:List Value) (o:Nat) (w:World) (arr:Array Value) (e:TypeId),w.heap[b]? =some (.cells arr e (0,0))->
  ∃d,(w.setCells b o vs).heap[b]? =some (.cells d e (0,0))/\d.toList=Dn arr.toList o vs/\d.size=arr.size
 | [],o,w,arr,e,h=>⟨arr,h,(OZ _ _).symm,rfl⟩
 | v::r,o,w,arr,e,h=>by
  obtain⟨d,f,h3,i⟩:=On b r (o+1) (w.setCell ⟨b,o,none⟩ v) (arr.setIfInBounds o v) e (by simp[World.setCell,Array.getElem?_modify,h]);exact⟨d,f,by rw[h3,Array.toList_setIfInBounds,VP],by simpa using i⟩
theorem Eo.set:∀(vs:List Value) (o:Nat) (w:World),Eo w (w.setCells b o vs) (some b)
 | [],_,_=> .rfl
 | v::r,o,w=>by
  have F:=Eo.set r (o+1) (w.setCell ⟨b,o,none⟩ v);have j:(w.setCell ⟨b,o,none⟩ v).heap.size=w.heap.size:=by simp[World.setCell]
  exact⟨F.os,F.tape,F.output,j ▸ F.size,fun k n h=>(F.get k AA h).trans (by simp only[ne_eq,Option.some.injEq] at h;simp[World.setCell,Array.getElem?_modify,h]),
   fun k arr e _ h=>let ⟨d,f,_,i⟩:=On k (v::r) o w arr e h;by cases (by assumption:some b=some k);exact⟨d,f,i⟩⟩
theorem Eo.push {x:Obj} (h:w'.heap=w.heap.push x) (d:w'.os=w.os) (f:w'.tape=w.tape) (h3:w'.output=w.output):Eo w w' none:=
 ⟨d,f,h3,by simp[h],fun b hb _=>by rw[h,Array.getElem?_push,if_neg AA],nofun⟩
theorem WG {n:Nat} (h:w.heap[b]? =some (.cells arr e (0,0))) (f:o+n<=arr.size):w.there b o n:=by
 intro j d;simp[World.cell?,World.frozen?,h,(AA:o+j<arr.size)]
theorem dR (h:w.heap[b]? =some (.cells arr e (0,0))) (f:o+vs.length<=arr.size):(w.setCells b o vs).rangeAt b o vs:=fun j v d=>by
 rw[World.cell?_setCells_in b vs o w (fun m hm=>(WG h f m hm).1) j (Ix d)];exact (List.getElem?_eq_getElem _).symm.trans d
theorem dS {us:List Value} {q:Nat} (h:∀m,m<us.length->q+m<o\/o+vs.length<=q+m) (f:w.rangeAt b q us):(w.setCells b o vs).rangeAt b q us:=fun m v d=>by
 rw[World.cell?_setCells_out b vs o w ⟨b,q+m,none⟩ (fun _ _=>h m (Ix d))];exact f m v d
end
theorem oT {c d:AC} (h:Ge c d):EO c=true/\EO d=true:=by
 cases c <;> first
  | exact h.elim
  | (obtain rfl:d=_:=h;exact⟨rfl,rfl⟩)
  | (rcases h with rfl |⟨t,rfl⟩ <;> exact⟨rfl,rfl⟩)
theorem Mi {x:Cx} {t:T}:CB x (.sl t []) (.slice none 0 0):=⟨none,0,rfl,Nat.le_refl _,AZ,.inl rfl⟩
theorem Z4 {x:Cx} {c d:AC} {v:Value} (h:Ge c d) (r:CB x c v):CB x d v:=by
 cases c <;> first
  | exact h.elim
  | (obtain rfl:d=_:=h;exact r)
  | (obtain rfl:v=_:=r;rcases h with rfl |⟨t,rfl⟩;rfl;exact Mi)
theorem Sk {x:Cx} {l m:List AC} {vs:List Value} (a:Et Ge l m) (b:Bg (CB x) l vs):Bg (CB x) m vs:=Xp (R:=CB x) (fun _ _ _ _=>Z4) a b
section
variable {P:Program} {E:Env} {TI:TypeId->Info} {x:Cx} {s:St} {a:Act}
theorem ZL:∀(l:List Value) (off k:Nat) (c:Array Value),((l.zipIdx k).foldl (fun (cs:Array Value) (x:Value×Nat)=>cs.setIfInBounds (off+x.2) x.1) c).toList=Dn c.toList (off+k) l
 | [],off,k,c=>by simp[OZ]
 | v::l,off,k,c=>by
  rw[List.zipIdx_cons,List.foldl_cons,ZL l off (k+1),Array.toList_setIfInBounds,<-Nat.add_assoc,VP]
theorem ZF {place:Nat->Option (Nat×Nat)} {c:Array Value} {i:Nat} {v:Value} {r:List (Nat×Value)} {off n:Nat} (h:place i=some (off,n)) (k:v.cells.size=n) (hf:off+n<=c.size):
  ∃d,d.toList=Dn c.toList off v.cells.toList/\Instr.fill place c ((i,v)::r)=Instr.fill place d r:=by
 refine⟨v.cells.zipIdx.foldl (fun cs (x,j)=>cs.setIfInBounds (off+j) x) c,?_,?_⟩
 ·have:=ZL v.cells.toList off 0 c;rw[Nat.add_zero] at this;rw[<-this,<-Array.foldl_toList,Array.toList_zipIdx]
 have f:¬(v.cells.size≠n\/off+v.cells.size>c.size):=AA
 rw[Instr.fill];simp only[h];rw[if_neg (by simpa using f)]
theorem UG (j:∀o,DC x (ev s.sl o) (a.eval o)) {d:List (Nat×Nat×Bool)} {pl:Nat->Option (Nat×Nat)} (k:∀(i o n:Nat) (g:Bool),d[i]? =some (o,n,g)->pl i=some (o,n)):
  ∀(parts:List (Nat×Operand)) (cs r:List AC) (c:Array Value),Iv d (ev s.sl) parts cs=some r->Bg (CB x) cs c.toList->
   ∃q,Instr.fill pl c (parts.map fun p=>(p.1,a.eval p.2))=some q/\Bg (CB x) r q.toList
 | [],cs,r,c,h,u=>⟨c,rfl,by cases h;exact u⟩
 | (i,o)::parts,cs,r,c,h,u=>by
  simp only[Iv] at h
  split at h
  ·rename_i off n g F
   split at h
   ·rename_i C
    obtain⟨A,B,h3⟩:=C;have f:=Lg (j o) B;have D:=u.length;simp only[Array.length_toList] at D;obtain⟨q,J,K⟩:=ZF (c:=c) (r:=parts.map fun p=>(p.1,a.eval p.2)) (k i off n g F) (by have:=f.length;rw[A] at this;simpa using this.symm) AA;obtain⟨z,G,H⟩:=UG j k parts _ r q h (by rw[J];exact u.Dn off f);exact⟨z,by rw[List.map_cons,K];exact G,H⟩
   cases h
  cases h
theorem O0 {o:Oper} {u:Value} {w w':World} {N:Act->World->Prop} {Q:Exit->Act->World->Prop} (f:(execOp a.eval o).run P w= .ok (.value u) w') (d:N (a.put o.dst u) w'):o.wp P a w N Q:=by
 unfold Oper.wp;rw[f];exact d
def Sound (P:Program) (E:Env) (TI:TypeId->Info) (o:Oper):Prop:=
 ∀{w0:World} {X:WX} {β:Nat->Option Nat} {s:St} {a:Act} {w:World},CE w0 X β s a w->∀{f:Du},GJ E TI o (DP o) (ev s.sl) (Af s.bk) (fun g=>g=f)->
  ∀{N:Act->World->Prop} {Q:Exit->Act->World->Prop},(∀β' a' w',CE w0 X β' (s.app o.dst f) a' w'->N a' w')->o.wp P a w N Q
theorem km {l:List AV} {vs:List Value} (h:Bg (DC x) l vs):∀{d:List (Nat×Nat)},Pt l=some d->Bg (fun p=>E3 x p.1 p.2 0) d vs:=by
 induction h with
 | nil=>intro d h;cases h;exact .nil
 | cons q _ f=>
  intro d h;unfold Pt at h
  split at h <;> rename_i e <;> cases e
  ·split at h
   ·rename_i e;cases h;exact .cons (q.resolve_left nofun) (f e)
   cases h
  cases h
theorem qG {l:List AV} {vs:List Value} (h:Bg (DC x) l vs):∀{d:List (Nat×Nat×Nat)},RM l=some d->Bg (fun p=>E3 x p.1 p.2.1 p.2.2) d vs:=by
 induction h with
 | nil=>intro d h;cases h;exact .nil
 | cons q _ f=>
  intro d h;unfold RM at h
  split at h <;> rename_i e <;> cases e
  ·split at h
   ·rename_i e;cases h;exact .cons (q.resolve_left nofun) (f e)
   cases h
  cases h
theorem OA (h:∀y:Operand,DC x (ev s.sl y) (a.eval y)):∀l:List Operand,Bg (DC x) (l.map (ev s.sl)) (l.map a.eval)
 | []=> .nil
 | y::l=> .cons (h y) (OA h l)
end
def Good (F:(Nat->Option BM)->(Du->Prop)->Prop):Prop:=∀{bk:Nat->Option BM} {K:Du->Prop},F bk K->∃f,K f/\∀(EB:Nat->Option BM) (K':Du->Prop),(∀id∈f.rd,bk id=EB id)->K' f->F EB K'
theorem vv {bk EB:Nat->Option BM} {id v:Nat} (h:bk id=EB id) (e:BY bk id=v):BY EB id=v:=by unfold BY;rw[<-h];exact e
theorem Xy {op:BinOp} {k:IntKind} {a b:Int} {K:AC->Prop} (h:arith op k a b K):∃c,K c/\∀d:AC->Prop,d c->arith op k a b d:=by
 unfold arith at h ⊢
 split at h <;> first
  | exact⟨_,h _ rfl,fun d i c f=>f ▸ i⟩
  | exact⟨_,(h _ rfl).2,fun d i c f=>f ▸⟨(h _ rfl).1,i⟩⟩
theorem Pk {len:Nat} {lo i mx:Option AV} {K:Nat->Nat->Bool->Prop} (h:JQ len lo i mx K):∃a b c,K a b c/\∀d:Nat->Nat->Bool->Prop,d a b c->JQ len lo i mx d:=by
 unfold JQ at h ⊢
 split at h <;> first
  | exact h.elim
  | exact⟨_,_,_,h _ rfl,fun d f c n=>n ▸ f⟩
  | exact⟨_,_,_,h.2 _ rfl,fun d f=>⟨h.1,fun l q=>q ▸ f⟩⟩
  | exact⟨_,_,_,h.2 _ _ ⟨rfl,rfl⟩,fun d f=>⟨h.1,fun l m ⟨j,k⟩=>j ▸ k ▸ f⟩⟩
theorem kG {u:T} {x:AV} {lo q mx:Option AV}:Good fun bk=>Ph bk u x lo q mx:=by
 intro bk K h;unfold Ph at h ⊢
 split at h
 ·obtain⟨i,h⟩:=h;obtain⟨a,b,c,h3,d⟩:=Pk (h _ rfl);exact⟨_,h3 _ rfl,fun _ k _ f=>⟨i,fun n r=>r ▸ d _ fun l' j=>j ▸ f⟩⟩
 ·obtain⟨i,h⟩:=h
  split at h
  ·rename_i z
   obtain⟨a,b,c,h3,d⟩:=Pk h;have h3:=h3 _ _ ⟨rfl,rfl⟩;cases c <;> exact⟨_,h3,fun _ k hb f=>⟨i,by rw[if_pos (vv (hb _ AZ) z)];exact d _ fun o n ⟨e1,e2⟩=>by subst e1 e2;exact f⟩⟩
  exact h.elim
 ·obtain⟨a,b,c,h3,d⟩:=Pk h;exact⟨_,h3,fun _ k _ f=>d _ f⟩
 exact h.elim
section
variable {bk EB:Nat->Option BM}
theorem eF:∀{f:List (Nat×Nat)} {j:List ((t:T)×el t)},(∀id∈f.map (·.1),bk id=EB id)->Ot bk f j->Ot EB f j
 | [],[],_,h=>h
 | p::_,_::_,i,h=>⟨(i p.1 AZ).symm.trans h.1,eF (fun id d=>i id (List.mem_cons_of_mem _ d)) h.2⟩
 | [],_::_,_,h | _::_,[],_,h=>h
theorem M1 {c d:AC} (h:∀id∈DQ c,bk id=EB id) (k:Hl bk c d):Hl EB c d:=by
 cases c <;> first | exact k | skip
 case BK t id v off len=>obtain⟨l,i,j⟩:=k;exact⟨l,h id (by simp[DQ]) ▸ i,j⟩
 case BX id v off=>obtain⟨i,t,x,j,h3⟩:=k;exact⟨i,t,x,h id (by simp[DQ]) ▸ j,h3⟩
 case Hx f ps=>exact k.imp (fun⟨n,i,j⟩=>⟨n,eF h i,j⟩) id
theorem eH {l2:List Nat} (j:∀id∈l2,bk id=EB id):∀{f:List (Nat×Nat)} {n:List ((t:T)×el t)},(∀id∈f.map (·.1),bk id=EB id)->Ou bk l2 f n->Ou EB l2 f n
 | [],[],_,h=>h
 | p::_,⟨t,x⟩::_,k,h=>by
  refine⟨?_,eH j (fun id d=>k id (List.mem_cons_of_mem _ d)) h.2⟩;have e:=k p.1 AZ;have i:=h.1
  cases t <;> first
   | exact e.symm.trans i
   | (obtain⟨id,v,g1,g2,q⟩:=i;exact⟨id,v,g1,e.symm.trans g2,(j id g1).symm.trans q⟩)
 | [],_::_,_,h | _::_,[],_,h=>h
theorem sx {l2:List Nat} {c d:AC} (h:∀id∈DQ c,bk id=EB id) (j:∀id∈l2,bk id=EB id) (i:V7 bk l2 c d):V7 EB l2 c d:=by
 cases c
 case Hx f ps=>obtain⟨n,h3,k⟩:=i;exact⟨n,eH j h h3,k⟩
 all_goals exact M1 (d:=d) h i
theorem oY {i v:Nat} {c d:AC} (h:∀id∈DQ c,bk id=EB id) (f:Qn bk i v c d):Qn EB i v c d:=by
 cases c <;> first | exact f | skip
 case BX j w off=>exact f.imp id fun⟨k,o,n,h3⟩=>⟨k,o,(h j (by simp[DQ])).symm.trans n,h3⟩
theorem Xn {R R':AC->AC->Prop}:∀{l m:List AC},(∀c∈l,∀d,R c d->R' c d)->Et R l m->Et R' l m
 | [],[],_,h=>h
 | c::_,_::_,f,h=>⟨f c AZ _ h.1,Xn (fun c i=>f c (by simp[i])) h.2⟩
 | [],_::_,_,h | _::_,[],_,h=>h
theorem L6 {R R':AC->AC->Prop}:∀{l m:List AV},(∀c d,(∀id∈DQ c,id∈DR l)->R c d->R' c d)->F3 R l m->F3 R' l m
 | [],[],_,h=>h
 | a::l,b::_,hR,h=>by
  refine⟨?_,L6 (fun c d j=>hR c d fun i f=>?_) h.2⟩
  ·have h:=h.1;cases a <;> cases b <;> first | exact h.elim | skip
   ·exact hR _ _ (fun i f=>by simp[DR,f]) h
   exact Xn (fun c j d=>hR c d fun i f=>List.mem_append_left _ (List.mem_flatMap.2 ⟨c,j,f⟩)) h
  have:=j i f;cases a <;> simp[DR,this]
 | [],_::_,_,h | _::_,[],_,h=>h
end
theorem jy {E:Env} {g:FuncId} {args:List AV} {d:Nat}:Good fun bk=>Nc E g args d bk:=by
 intro bk K h;rcases h with⟨a,r,f,k,h⟩ |⟨a,r,f,k,h⟩ | h |⟨i,b,a,r,f,k,h⟩ |⟨i,b,a,r,f,k,h⟩ | h |⟨i,b,a,r,b1,f,k,h⟩ |⟨l2,a,r,f,k,h⟩ |⟨i,b,a,r,b1,f,k,h⟩
 ·exact⟨_,h,fun EB _ hb n=> .inl ⟨a,r,f,k,by rw[vv (hb d AZ) rfl];exact n⟩⟩
 ·exact⟨_,h,fun EB _ hb n=> .inr (.inl ⟨a,r,fun u=>L6 (fun c _ q=>M1 fun i z=>hb i (by simp[q i z])) (f u),k,by rw[vv (hb d AZ) rfl];exact n⟩)⟩
 ·split at h
  ·split at h
   ·rename_i F
    split at h
    ·rename_i n
     split at h
     ·rename_i G
      obtain⟨a,r,b1,f,k,h⟩:=h;refine⟨_,h,fun EB _ hb B=> .inr (.inr (.inl ?_))⟩;simp only[F,<-hb _ (List.mem_cons_self ..),n,if_pos G];exact⟨a,r,b1,fun u=>⟨(f u).1,L6 (fun c _ q=>M1 fun i z=>hb i (by simp[q i z])) (f u).2⟩,k,B⟩
     exact h.elim
    exact h.elim
   exact h.elim
  exact h.elim
 ·exact⟨_,h,fun _ _ hb n=> .inr (.inr (.inr (.inl ⟨i,b,a,r,fun u=>⟨(hb i AZ).symm.trans (f u).1,(f u).2⟩,k,n⟩)))⟩
 ·refine⟨_,h,fun _ _ hb n=> .inr (.inr (.inr (.inr (.inl ⟨i,b,a,r,fun u=>?_,k,n⟩))))⟩;obtain⟨⟨g1,g2,C⟩,D⟩:=f u;refine⟨⟨g1,(hb i AZ).symm.trans g2,C⟩,L6 (fun c _ q=>M1 fun j A=>hb j ?_) D⟩;have:=List.all_eq_true.1 C j (q j A);simpa using this
 ·exact h.elim
 ·exact⟨_,h,fun _ _ hb n=> .inr (.inr (.inr (.inr (.inr (.inr (.inl ⟨i,b,a,r,b1,fun u=>⟨(hb i AZ).symm.trans (f u).1,(f u).2⟩,k,n⟩))))))⟩
 ·exact⟨_,h,fun EB _ hb n=> .inr (.inr (.inr (.inr (.inr (.inr (.inr (.inl ⟨l2,a,r,fun u=>L6 (fun c _ q=>sx (fun i z=>hb i (by simp[q i z])) fun i z=>hb i (by simp[z])) (f u),k,by rw[vv (hb d AZ) rfl];exact n⟩)))))))⟩
 exact⟨_,h,fun _ _ hb n=> .inr (.inr (.inr (.inr (.inr (.inr (.inr (.inr ⟨i,b,a,r,b1,fun u=>⟨(hb i AZ).symm.trans (f u).1,L6 (fun c _ q=>oY fun j A=>hb j (by simp[q j A])) (f u).2⟩,k,n⟩)))))))⟩
theorem Xi {TI:TypeId->Info} {b:Builtin} {D:List TypeId} {args:List AV} {d:Nat} (hlen:∀t l,args=[.one (.sl t l)]->l.length<=140737488355328):Good fun bk=>IJ TI b D args d bk:=by
 intro bk K h;unfold IJ at h ⊢
 split at h <;> try exact h.elim
 ·exact⟨_,h.2 _ ⟨rfl,hlen _ _ rfl⟩,fun _ j _ f=>⟨h.1,fun n k=>k.eq ▸ f⟩⟩
 iterate 2
  obtain⟨r,h⟩:=h
  split at h
  ·rename_i C
   exact⟨_,h _ ⟨rfl⟩,fun _ j hb f=>⟨r,by rw[if_pos (vv (hb _ AZ) C)];exact fun n k=>k.eq ▸ f⟩⟩
  exact h.elim
 ·exact⟨_,h.2,fun _ j _ f=>⟨h.1,f⟩⟩
 ·exact⟨_,h.2 _ ⟨rfl⟩,fun _ j _ f=>⟨h.1,fun n k=>k.eq ▸ f⟩⟩
 ·exact⟨_,h.2 _ ⟨rfl⟩,fun _ j _ f=>⟨h.1,fun n k=>k.eq ▸ f⟩⟩
 ·exact⟨_,h.2,fun _ j _ f=>⟨h.1,f⟩⟩
 ·exact⟨_,h _ rfl,fun _ j _ f c z=>z ▸ f⟩
 ·exact⟨_,h _ rfl,fun _ j _ f c z=>z ▸ f⟩
 ·obtain⟨r,l2,q,h⟩:=h;exact⟨_,h _ rfl,fun EB j hb f=>⟨r,l2,fun u=>⟨M1 (fun i A=>hb i (by simp[A])) (q u).1,(q u).2⟩,fun n k=>by rw[vv (hb d AZ) rfl];exact k ▸ f⟩⟩
 all_goals
  obtain⟨r,h⟩:=h
  split at h
  ·rename_i f
   split at h
   ·rename_i C
    obtain⟨l2,q,h⟩:=h;refine⟨_,h _ _ ⟨rfl,rfl⟩,fun EB j hb B=>⟨r,?_⟩⟩;simp only[<-hb _ (List.mem_cons_self ..),f,if_pos C];exact⟨l2,fun u=>⟨(q u).1,(q u).2.1,M1 (fun i A=>hb i (by simp[A])) (q u).2.2.1,(q u).2.2.2⟩,fun l' n ⟨e1,e2⟩=>by subst e1 e2;exact B⟩
   exact h.elim
  exact h.elim
theorem dN {K:Du->Prop} {g:Du} (h:Mz K g):∃(t:T) (id v:Nat) (l:List (el t)),g=⟨.one (.BK t id v 0 l.length),[(id,.arr v t l)],g.rd⟩/\id≠0/\K ⟨.one (.sl t l),[(id,.dead v)],g.rd⟩/\
  ∀d:Du->Prop,d ⟨.one (.sl t l),[(id,.dead v)],g.rd⟩->Mz d g:=by
 obtain⟨A,B,z⟩:=g;unfold Mz at h
 split at h
 ·rename_i t id v off n i D C l k q
  split at h
  ·rename_i f
   simp only at k q;have j:=f;simp only[Bool.and_eq_true,bne_iff_ne,beq_iff_eq] at f;obtain⟨⟨⟨⟨c1,rfl⟩,rfl⟩,rfl⟩,r⟩:=f;obtain rfl:=T.beq_eq r;obtain rfl:=h.1 ();subst k q;exact⟨t,id,v,l,rfl,c1,h.2,fun d u=>by unfold Mz;simp only;rw[if_pos j];exact⟨fun _=>trivial,u⟩⟩
  exact h.elim
 exact h.elim
theorem Se {TI:TypeId->Info} {b:Builtin} {f:List TypeId} {args:List AV} {d:Nat} {bk:Nat->Option BM} {K:Du->Prop}:
  PX TI b f args d bk K↔IJ TI b f args d bk K\/(b= .append/\IJ TI b f args d bk (Mz K)):=by
 cases b <;> simp[PX]
theorem kC {TI:TypeId->Info} {f:List TypeId} {args:List AV} {d:Nat} {bk:Nat->Option BM} {K:Du->Prop} (h:IJ TI .append f args d bk K):args.length=2:=by
 unfold IJ at h
 split at h <;> first | contradiction | exact h.elim | rfl
theorem Xt {E:Env} {TI:TypeId->Info} {o:Oper} {d:Nat} {e:Operand->AV} (hlen:∀x t l,e x= .one (.sl t l)->l.length<=140737488355328):Good fun bk=>GJ E TI o d e bk:=by
 intro bk K h;unfold GJ at h ⊢;cases Z:o.op <;> simp only[Z] at h ⊢ <;> (try exact h.elim)
 case move x | assign x=>exact⟨_,h,fun _ _ _ r=>r⟩
 case nilCheck x=>
  revert h;generalize e x=X;intro h
  split at h <;> first
   | exact⟨_,h,fun _ _ _ r=>r⟩
   | exact h.elim
   | (split at h
      ·rename_i D;exact⟨_,h,fun _ _ hb r=>by simp only[if_pos (vv (hb _ (List.mem_cons_self ..)) D)];exact r⟩
      exact h.elim)
 case pick c x y=>
  revert h;generalize e c=X;intro h
  split at h <;> first
   | exact⟨_,h,fun _ _ _ r=>r⟩
   | exact h.elim
 case alloc t=>exact⟨_,h.2,fun _ _ hb r=>⟨h.1,by rw[vv (hb d AZ) rfl];exact r⟩⟩
 case box t x=>
  revert h;generalize e x=X;intro h
  split at h <;> first
   | exact h.elim
   | exact⟨_,h,fun _ _ hb r=>by rw[vv (hb d AZ) rfl];exact r⟩
 case extract x i=>
  revert h;generalize e x=X;intro h
  split at h
  ·split at h
   ·exact⟨_,h,fun _ _ _ r=>r⟩
   exact h.elim
  exact h.elim
 case load t x=>
  simp only[Pz] at h ⊢;obtain⟨A,h⟩:=h
  revert h;generalize e x=X;intro h
  split at h
  ·split at h
   ·rename_i r
    split at h
    ·rename_i D;exact⟨_,h,fun _ _ hb G=>⟨A,by simp only[<-hb _ (List.mem_cons_self ..),r,if_pos D];exact G⟩⟩
    exact h.elim
   exact h.elim
  ·split at h
   ·rename_i D;exact⟨_,h,fun _ _ _ r=>⟨A,by simp only[if_pos D];exact r⟩⟩
   exact h.elim
  ·exact⟨_,h.2,fun _ _ _ r=>⟨A,h.1,r⟩⟩
  ·split at h
   ·rename_i r
    split at h
    ·rename_i D
     obtain⟨z,C,h⟩:=h
     split at h
     ·rename_i J;exact⟨_,h,fun _ _ hb G=>⟨A,by simp only[<-hb _ (List.mem_cons_self ..),r,if_pos D];exact⟨z,C,by simp only[if_pos J];exact G⟩⟩⟩
     exact h.elim
    exact h.elim
   exact h.elim
  exact h.elim
 case store t p x=>
  obtain⟨A,h⟩:=h
  revert h;generalize e p=X;generalize e x=Y;intro h
  split at h
  ·generalize L:bk _=B at h
   split at h <;> try exact h.elim
   split at h
   ·rename_i D;exact⟨_,h,fun _ _ hb r=>⟨A,by simp only[<-hb _ (List.mem_cons_self ..),L,if_pos D];exact r⟩⟩
   exact h.elim
  ·generalize L:bk _=B at h
   split at h <;> try exact h.elim
   split at h
   ·rename_i D
    obtain⟨z,C,h⟩:=h;exact⟨_,h _ rfl,fun _ _ hb r=>⟨A,by simp only[<-hb _ (List.mem_cons_self ..),L,if_pos D];exact⟨z,C,fun l' H=>H ▸ r⟩⟩⟩
   rename_i O
   split at h
   ·rename_i D
    obtain⟨x0,z,C,h⟩:=h;exact⟨_,h _ rfl,fun _ _ hb r=>⟨A,by simp only[<-hb _ (List.mem_cons_self ..),L,if_neg O,if_pos D];exact⟨x0,z,C,fun l' H=>H ▸ r⟩⟩⟩
   exact h.elim
  exact h.elim
 case fieldAddr t x i=>
  obtain⟨A,h⟩:=h
  revert h;generalize e x=X;generalize (TI t).fields[i]? =Y;intro h
  split at h <;> first
   | exact⟨_,h,fun _ _ _ r=>⟨A,r⟩⟩
   | exact h.elim
   | (split at h
      ·rename_i D;exact⟨_,h,fun _ _ hb r=>⟨A,by simp only[if_pos (vv (hb _ (List.mem_cons_self ..)) D)];exact r⟩⟩
      exact h.elim)
 case field t x i=>
  obtain⟨A,h⟩:=h
  revert h;generalize e x=X;generalize (TI t).fields[i]? =Y;intro h
  split at h
  ·split at h
   ·rename_i D;exact⟨_,h,fun _ _ _ r=>⟨A,by simp only[if_pos D];exact r⟩⟩
   exact h.elim
  exact h.elim
 case build t ps=>
  revert h;generalize (TI t).arr=q;intro h
  split at h <;> (obtain⟨A,h⟩:=h;split at h) <;> first
   | exact h.elim
   | exact⟨_,h,fun _ _ _ r=>⟨A,r⟩⟩
 case buildSlice t n ps=>
  revert h;generalize (TI t).pt=q;intro h
  split at h
  ·split at h
   ·exact⟨_,h.2,fun _ _ _ r=>⟨h.1,r⟩⟩
   exact h.elim
  obtain⟨A,C,xs,h3,h | h⟩:=h
  ·exact⟨_,h,fun _ _ hb r=>⟨A,C,xs,h3,.inl (by rw[vv (hb d AZ) rfl];exact r)⟩⟩
  exact⟨_,h,fun _ _ _ r=>⟨A,C,xs,h3,.inr r⟩⟩
 case makeSlice t x y=>
  obtain⟨A,h⟩:=h
  revert h;generalize e x=X;generalize e y=Y;intro h
  split at h
  ·exact⟨_,h.2 _ _ ⟨rfl,rfl⟩,fun _ _ hb r=>⟨A,h.1,fun k z ⟨e1,e2⟩=>by subst e1 e2;rw[vv (hb d AZ) rfl];exact r⟩⟩
  exact h.elim
 case indexAddr t x i=>
  revert h;generalize (TI t).pt=q;generalize (TI t).arr=q';generalize e x=X;generalize e i=Y;intro h
  split at h
  ·split at h
   ·obtain⟨p,C,h⟩:=h;exact⟨_,h,fun _ _ _ r=>⟨p,C,r⟩⟩
   exact h.elim
  split at h
  ·split at h
   ·split at h
    ·rename_i D;exact⟨_,h.2,fun _ _ hb r=>by simp only[if_pos (vv (hb _ (List.mem_cons_self ..)) D)];exact⟨h.1,r⟩⟩
    exact h.elim
   ·obtain⟨u,z,A,h⟩:=h;exact⟨_,h,fun _ _ _ r=>⟨u,z,A,r⟩⟩
   exact h.elim
  obtain⟨A,h⟩:=h
  split at h
  ·obtain⟨C,z,h3,h⟩:=h;exact⟨_,h,fun _ _ _ r=>⟨A,C,z,h3,r⟩⟩
  ·obtain⟨C,h⟩:=h
   split at h
   ·rename_i D;exact⟨_,h.2 _ rfl,fun _ _ hb r=>⟨A,C,by simp only[if_pos (vv (hb _ (List.mem_cons_self ..)) D)];exact⟨h.1,fun j W=>W ▸ r⟩⟩⟩
   exact h.elim
  exact h.elim
 case slice t x lo hi mx=>
  revert h;generalize e x=X;intro h
  split at h
  ·obtain⟨A,h⟩:=h;obtain⟨p,q,c,h3,C⟩:=Pk (h _ rfl);exact⟨_,h3.2 _ rfl,fun _ _ _ r=>⟨A,fun n O=>O ▸ C _ ⟨h3.1,fun z J=>J ▸ r⟩⟩⟩
  obtain⟨f,C,h3⟩:=kG h.2;exact⟨f,C,fun _ _ hb r=>⟨h.1,h3 _ _ hb r⟩⟩
 case index t x i=>
  revert h;generalize (TI t).arr=q;generalize e x=X;generalize e i=Y;intro h
  split at h
  ·split at h
   ·obtain⟨A,h⟩:=h
    split at h
    ·rename_i D;exact⟨_,h,fun _ _ _ r=>by simp only[if_pos D];exact⟨A,r⟩⟩
    exact h.elim
   exact h.elim
  obtain⟨A,h⟩:=h
  split at h
  ·obtain⟨b,C,h⟩:=h;exact⟨_,h _ ⟨rfl⟩,fun _ _ _ r=>⟨A,b,C,fun z J=>J.eq ▸ r⟩⟩
  exact h.elim
 case binOp op t x y t'=>
  revert h;generalize e x=X;generalize e y=Y;intro h
  split at h
  ·split at h
   ·rename_i G
    obtain⟨c,h3,C⟩:=Xy h;exact⟨_,h3,fun _ _ _ r=>by simp only[if_pos G];exact C _ r⟩
   exact h.elim
  ·obtain⟨A,h⟩:=h;cases op <;> first | exact h.elim | exact⟨_,h _ rfl,fun _ _ _ r=>⟨A,fun c F=>F ▸ r⟩⟩
  ·obtain⟨A,h⟩:=h;cases op <;> first | exact h.elim | exact⟨_,h _ rfl,fun _ _ _ r=>⟨A,fun c F=>F ▸ r⟩⟩
  ·cases op <;> first | exact h.elim | exact⟨_,h _ rfl,fun _ _ _ r c F=>F ▸ r⟩ | exact⟨_,h.2 _ rfl,fun _ _ _ r=>⟨h.1,fun c F=>F ▸ r⟩⟩
  exact h.elim
 case unOp op t x=>
  revert h;generalize e x=X;intro h
  split at h <;> first | exact h.elim | exact⟨_,h _ rfl,fun _ _ _ r c F=>F ▸ r⟩
 case convert src dst x=>
  obtain⟨A,h⟩:=h
  revert h;generalize e x=X;generalize (TI dst).kind=Y;intro h
  split at h <;> first
   | exact h.elim
   | exact⟨_,h _ rfl,fun _ _ _ r=>⟨A,fun c F=>F ▸ r⟩⟩
   | (obtain⟨g1,g2,T,l,U,h⟩:=h;exact⟨_,h _ rfl,fun _ _ _ r=>⟨A,g1,g2,T,l,U,fun z J=>J ▸ r⟩⟩)
 case makeFunc fn first cap=>
  split at h
  ·exact⟨_,h,fun _ _ _ r=>r⟩
  exact h.elim
 case call c=>
  cases F:c.callee with
  | builtin b=>
   simp only[F] at h ⊢
   have M:∀t l,c.args.toList.map e=[.one (.sl t l)]->l.length<=140737488355328:=fun t l M=>by
    obtain⟨x,_,_,C,_⟩:=List.map_eq_cons_iff.1 M;exact hlen x t l C
   have Q:= @Xi TI b c.argTypes.toList _ d M;rcases Se.1 h with h |⟨rfl,h⟩
   ·obtain⟨f,A,C⟩:=Q h;exact⟨f,A,fun _ _ hb r=>Se.2 (.inl (C _ _ hb r))⟩
   obtain⟨g,A,C⟩:=Q h;obtain⟨t,id,v,l,hg,_,V,N⟩:=dN A;exact⟨_,V,fun _ _ hb r=> .inr (.inl (C _ _ hb (N _ r)))⟩
  | value y=>
   simp only[F] at h ⊢
   revert h;generalize e y=X;intro h
   split at h <;> first | exact h.elim | exact jy h
  | invoke _ _=>simp only[F] at h
def EP (w:World) (I:Nat->Prop) (t:T):List (el t)->List Value->Prop
 | [],fl=>fl=[]
 | x::l,fl=>∃us r,fl=us++r/\rep w I t x us/\EP w I t l r
section
variable {w:World} {I:Nat->Prop} {t:T}
theorem VX {b o:Nat} {us vs:List Value}:w.rangeAt b o (us++vs)↔w.rangeAt b o us/\w.rangeAt b (o+us.length) vs:=by
 constructor
 ·refine fun h=>⟨fun j v d=>h j v ?_,fun j v d=>?_⟩
  ·rwa [List.getElem?_append_left (Ix d)]
  rw[Nat.add_assoc];exact h (us.length+j) v (by rw[List.getElem?_append_right AA];simpa using d)
 rintro⟨f,i⟩ j v d
 rw[List.getElem?_append] at d
 split at d
 ·exact f j v d
 have:=i _ v d;rwa [(AA:o+us.length+(j-us.length)=o+j)] at this
theorem EP.length:∀{l:List (el t)} {fl:List Value},EP w I t l fl->fl.length=l.length*t.size
 | [],_,h=>by rw[show _=_ from h];simp
 | _::_,_,⟨us,r,e,d,f⟩=>by rw[e,List.length_append,Mw _ _ _ d,EP.length f,List.length_cons,Nat.succ_mul];omega
theorem EP.one:∀{l:List (el t)} {fl:List Value},EP w I t l fl->∀u∈fl,u.oneCell'=true
 | [],_,h,u,hu=>by rw[show _=_ from h] at hu;simp at hu
 | _::_,_,⟨us,r,e,d,f⟩,u,hu=>(List.mem_append.1 (e ▸ hu)).elim (qm _ _ _ d u) (EP.one f u)
theorem EP.append:∀{l l':List (el t)} {fl d:List Value},EP w I t l fl->EP w I t l' d->EP w I t (l++l') (fl++d)
 | [],_,_,_,h,h'=>by rw[show _=_ from h];exact h'
 | _::_,_,_,_,⟨us,r,e,f,i⟩,h'=>⟨us,r++_,by rw[e,List.append_assoc],f,EP.append i h'⟩
theorem EP.mono {w':World} {I':Nat->Prop} (hm:∀b,I b->I' b/\w'.heap[b]? =w.heap[b]?):∀{l:List (el t)} {fl:List Value},EP w I t l fl->EP w' I' t l fl
 | [],_,h=>h
 | _::_,_,⟨us,r,e,d,f⟩=>⟨us,r,e,GC hm _ _ _ d,EP.mono hm f⟩
theorem Vp {b:Nat}:∀{l:List (el t)} {off:Nat},(∀(i:Nat) (x:el t),l[i]? =some x->∃us,rep w I t x us/\w.rangeAt b (off+i*t.size) us)->∃fl,EP w I t l fl/\w.rangeAt b off fl
 | [],_,_=>⟨[],rfl,fun j v n=>by simp at n⟩
 | x::l,off,h=>by
  obtain⟨us,d,f⟩:=h 0 x rfl
  obtain⟨fl,h3,k⟩:=Vp (l:=l) (off:=off+t.size) fun i y q=>by
   obtain⟨us,g1,g2⟩:=h (i+1) y q;exact⟨us,g1,by rwa [Nat.add_mul,Nat.one_mul,Nat.add_comm (i*_),<-Nat.add_assoc] at g2⟩
  refine⟨us++fl,⟨us,fl,rfl,d,h3⟩,VX.2 ⟨by simpa using f,?_⟩⟩;rw[Mw _ _ _ d];exact k
theorem Vq {b:Nat}:∀{l:List (el t)} {fl:List Value} {off:Nat},EP w I t l fl->w.rangeAt b off fl->∀(i:Nat) (x:el t),l[i]? =some x->∃us,rep w I t x us/\w.rangeAt b (off+i*t.size) us
 | [],_,_,_,_,_,_,d=>by simp at d
 | _::_,_,off,⟨us,r,e,h,j⟩,k,i,x,d=>by
  subst e;have h3:=VX.1 k;cases i with
  | zero=>cases d;exact⟨us,h,by simpa using h3.1⟩
  | succ i=>
   rw[Mw _ _ _ h] at h3;obtain⟨f,g1,g2⟩:=Vq j h3.2 i x d;exact⟨f,g1,by rwa [Nat.add_mul,Nat.one_mul,Nat.add_comm (i*_),<-Nat.add_assoc]⟩
end
section
variable {P:Program} {TI:TypeId->Info} {w0 w:World} {X:WX} {β:Nat->Option Nat} {s:St} {a:Act} {x:Value}
theorem drop_take {α:Type} {l:List α} {off len i:Nat} {y:α} (h:((l.drop off).take len)[i]? =some y):l[off+i]? =some y:=by
 rw[List.getElem?_take] at h
 split at h
 ·simpa using h
 cases h
theorem Qu (S:CE w0 X β s a w) {t:T} {id v off len:Nat} {l:List (el t)} {u:Value} (n:CB (cx X w β (Af s.bk)) (.BK t id v off len) u) (hb:Af s.bk id=some (.arr v t l)) (hle:off+len<=l.length):
  ∃base cap,u= .slice base ((l.drop off).take len).length cap/\((l.drop off).take len).length<=cap/\((l.drop off).take len).length<=140737488355328/\cap<=maxLen/\
   ((l.drop off).take len=[]\/∃b,live (Af s.bk) id/\β id=some b/\b<w.heap.size/\base=some ⟨b,off*t.size,none⟩/\
     ∀(i:Nat) (y:el t),((l.drop off).take len)[i]? =some y->∃us,rep w (cx X w β (Af s.bk)).I t y us/\w.rangeAt b (off*t.size+i*t.size) us):=by
 obtain⟨base,cap,e,C,k,_,h3⟩:=n.2 (FO hb).symm;have hlen:((l.drop off).take len).length=len:=by simp;omega
 have D:l.length<=140737488355328:=(S.blocks id _ hb).2;refine⟨base,cap,by rw[hlen,e],AA,AA,k,?_⟩
 by_cases j:len=0
 ·subst j;exact .inl (List.take_zero ..)
 rcases h3 with rfl |⟨b,arr,B,f,z,A,F⟩
 ·omega
 obtain⟨d,h,_,r⟩:=(S.blocks id _ hb).1.arr f;refine .inr ⟨b,⟨_,hb,rfl⟩,f,HI A,z,fun i y q=>?_⟩;rw[<-Nat.add_mul];exact r _ y (drop_take q)
theorem tB (S:CE w0 X β s a w) {c:AC} {t:T} {l:List (el t)} {z C:TypeId} (k:P.underlying z=some (.slice C)) (n:CB (cx X w β (Af s.bk)) c x) (h:Hl (Af s.bk) c (.sl t l)):
  ∃news,Src P t.size z x l.length news w/\EP w (cx X w β (Af s.bk)).I t l news:=by
 have key:∀{base:Option Addr} {cap:Nat},x= .slice base l.length cap->(l=[]\/∃b off,base=some ⟨b,off,none⟩/\∀(i:Nat) (y:el t),l[i]? =some y->∃us,rep w (cx X w β (Af s.bk)).I t y us/\w.rangeAt b (off+i*t.size) us)->
   ∃news,Src P t.size z x l.length news w/\EP w (cx X w β (Af s.bk)).I t l news:=by
  rintro base cap rfl (rfl |⟨b,off,rfl,d⟩)
  ·refine⟨[],?_,rfl⟩;cases base with
   | none=>exact Src.ofNil w k cap
   | some B=>exact Src.ofSlice w k B 0 cap [] AZ (fun j u hu=>by simp at hu) AZ
  obtain⟨fl,f,A⟩:=Vp d;exact⟨fl,Src.ofSlice w k _ _ _ fl f.length (fun j u hu=>by rw[Addr.add_mid];exact A j u hu) f.one,f⟩
 cases c with
 | sl r l'=>
  cases (h:AC.sl t l=AC.sl r l');obtain⟨base,cap,D,f,A,h3⟩:=n;exact key (List.cons.inj D).1 (h3.imp id fun⟨b,off,e,_,d⟩=>⟨b,off,e,d⟩)
 | nil=>
  rcases h with h |⟨r,h⟩ <;> cases h
  exact key n (.inl rfl)
 | BK r id vv off len=>
  obtain⟨l',hb,hle,h⟩:=h;cases h;obtain⟨base,cap,e,_,_,_,h3⟩:=Qu S n hb hle;exact key e (h3.imp (fun q=>q) fun⟨b,_,_,_,e,d⟩=>⟨b,_,e,d⟩)
 | Hx=>exact h.elim (fun⟨_,_,e⟩=>nomatch e) nofun
 | BX=>obtain⟨_,_,_,_,e⟩:=h;cases e
 | _=>first | exact h.elim | cases h
theorem tD (S:CE w0 X β s a w) {t tx ty:TypeId} {u:T} (hu:u=(TI t).elem) (hT:∀t,IE P t (TI t)) (ht:(TI t).sl=true) (hx:(TI tx).sl=true)
  {base:Option Addr} {cap:Nat} {id:Nat} {l l2:List (el u)} (hlc:l.length<=cap) (hcm:cap<=maxLen)
  (hb:cap=0\/∃b arr e',β id=some b/\live (Af s.bk) id/\base=some ⟨b,0,none⟩/\w.heap[b]? =some (.cells arr e' (0,0))/\cap*u.size<=arr.size/\
   ∀(i:Nat) (y:el u),l[i]? =some y->∃us,rep w (cx X w β (Af s.bk)).I u y us/\w.rangeAt b (i*u.size) us)
  {c:AC} (hr:CB (cx X w β (Af s.bk)) c x) (hsn:Hl (Af s.bk) c (.sl u l2)) (hfit:fits (l.length+l2.length) (TI t).F5)
  {dst:Option Nat} {vv:Nat} {rd:List Nat} (hid:id<s.bk.length\/dst=some id/\base=none/\cap=0) (hvv:vv=BY (Af s.bk) id+1):
  ∃v' w' β',(Builtin.append_ #[t,tx] ty #[.slice base l.length cap,x]).run P w= .ok v' w'/\
   CE w0 X β' (s.app dst ⟨.one (.BK u id vv 0 (l++l2).length),[(id,.arr vv u (l++l2))],rd⟩) (a.put dst v') w':=by
 obtain⟨ht,ei,z,hi,hsize,hby,hpos,hz,g6⟩:=(hT t).sl ht;obtain⟨hx,_⟩:=(hT tx).sl hx;subst hu;have hzs:z.cells.size=(TI t).elem.size:=by have:=(g6 (cx X w β (Af s.bk))).length;rw[LA] at this;simpa using this.symm
 obtain⟨news,hs,hrows⟩:=tB S hx hr hsn;have hnl:=hs.newsLen;have hbl:(l.length+l2.length)*ei.bytes<=140737488355328:=hby ▸ hfit;have h47:l.length+l2.length<=140737488355328:=Nat.le_trans (Nat.le_mul_of_pos_right _ hpos) hbl;have hlen:(l++l2).length=l.length+l2.length:=List.length_append
 have fin:∀{L8:Option Addr} {cap':Nat} {w':World} {o o':Option Nat},Eo w w' o->(id<s.bk.length\/dst=some id/\o=none)->(o=none\/o=β id/\live (Af s.bk) id)->(∀b,o'=some b->(β id=some b/\live (Af s.bk) id)\/w.heap.size<=b)->(l++l2).length<=cap'->cap'<=maxLen->
   (∀{I':Nat->Prop},(∀b,(cx X w β (Af s.bk)).I b->I' b/\w'.heap[b]? =w.heap[b]?)->(cap'=0/\o'=none)\/∃b arr e,o'=some b/\L8=some ⟨b,0,none⟩/\w'.heap[b]? =some (.cells arr e (0,0))/\cap'*(TI t).elem.size<=arr.size/\∃fl,EP w' I' (TI t).elem (l++l2) fl/\w'.rangeAt b 0 fl)->
   ∃β',CE w0 X β' (s.app dst ⟨.one (.BK (TI t).elem id vv 0 (l++l2).length),[(id,.arr vv (TI t).elem (l++l2))],rd⟩) (a.put dst (.slice L8 (l++l2).length cap')) w':=by
  intro L8 cap' w' o o' F h0 h1 h2 h3 h4 h5;refine S.write h0 (by show (l++l2).length<=_;omega) F h1 (.inl (by show _<vv;omega)) (fun _=>h2) fun y hle hw hy hv _=>?_
  subst hw;rcases h5 hle.I with⟨h5,h6⟩ |⟨b,arr,e,h5,h6,h7,h8,fl,h9,h10⟩
  ·exact⟨.inl ⟨hy.trans h6,List.eq_nil_of_length_eq_zero AA⟩,.inr ⟨⟨rfl,Nat.le_of_eq hv.symm⟩,fun _=>⟨_,_,rfl,h3,h4,nofun,.inl h5⟩⟩⟩
  exact⟨.inr ⟨b,arr,e,hy.trans h5,h7,fun i z hz=>by simpa using Vq h9 h10 i z hz⟩,.inr ⟨⟨rfl,Nat.le_of_eq hv.symm⟩,fun _=>⟨_,_,rfl,h3,h4,nofun,.inr ⟨b,arr,e,hy.trans h5,by rw[h6];simp,h7,by simpa using h8⟩⟩⟩⟩
 have olds:∃fl,EP w (cx X w β (Af s.bk)).I (TI t).elem l fl/\(cap=0\/∃b,base=some ⟨b,0,none⟩/\w.rangeAt b 0 fl):=by
  rcases hb with h |⟨b,arr,e',h1,_,h2,h3,h4,h5⟩
  ·exact⟨[],(List.eq_nil_of_length_eq_zero AA:l=[]) ▸ rfl,.inl h⟩
  obtain⟨fl,q1,q2⟩:=Vp (off:=0) (fun i y hy=>by simpa using h5 i y hy);exact⟨fl,q1,.inr ⟨b,h2,q2⟩⟩
 obtain⟨olds,ho1,ho2⟩:=olds;have hs':Src P ei.size tx x l2.length news w:=hsize ▸ hs
 by_cases hroom:l.length+l2.length<=cap
 ·rcases hb with rfl |⟨b,arr,e',hbid,hlive,rfl,hh,hsz,hrow⟩
  ·obtain rfl:l2=[]:=List.eq_nil_of_length_eq_zero AA;obtain rfl:news=[]:=List.eq_nil_of_length_eq_zero (by simpa using hnl);have hrun:=run_append_nothing (P:=P) w t tx ty _ ei ht hi base l.length 0 hlc x hs';obtain⟨β',S'⟩:=fin (L8:=base) (o:=none) (o':=none) .rfl (hid.imp_right fun h=>⟨h.1,rfl⟩) (.inl rfl) nofun AA hcm fun _=> .inl ⟨rfl,rfl⟩
   exact⟨_,w,β',hrun,by simpa using S'⟩
  have hfit:0+l.length*(TI t).elem.size+news.length<=arr.size:=by
   have:(l.length+l2.length)*(TI t).elem.size<=cap*(TI t).elem.size:=Nat.mul_le_mul_right _ hroom;rw[Nat.add_mul] at this;omega
  have hth:=WG hh hfit;have hrun:=run_append_room_src (P:=P) w t tx ty _ ei ht hi b 0 l.length cap x l2.length news hs' hroom (fun j hj=>by rw[hsize];exact (hth j hj).1) (fun j hj=>by rw[hsize];exact (hth j hj).2);rw[hsize] at hrun;obtain⟨arr',q1,_,q3⟩:=On b news (0+l.length*(TI t).elem.size) w arr e' hh
  obtain⟨β',S'⟩:=fin (L8:=some ⟨b,0,none⟩) (o':=some b) (Eo.set news _ w) (hid.imp_right fun h=>nomatch h.2.1) (.inr ⟨hbid.symm,hlive⟩) (fun k hk=> .inl ⟨hbid.trans hk,hlive⟩) AA hcm fun hI=> .inr ⟨b,arr',e',rfl,rfl,q1,AA,olds++news,(EP.mono hI ho1).append (EP.mono hI hrows),VX.2 ⟨by
   rcases ho2 with rfl |⟨b',e,h⟩
   ·rw[(List.eq_nil_of_length_eq_zero (by rw[ho1.length,(AA:l.length=0),Nat.zero_mul]):olds=[])];intro j v hj;simp at hj
   cases e;exact dS (fun m hm=> .inl (by rw[ho1.length] at hm;omega)) h,by rw[ho1.length];exact dR hh hfit⟩⟩
  exact⟨_,_,β',hrun,by rw[<-hlen];exact S'⟩
 have hold:(Builtin.firstCells ei.size l.length (.slice base l.length cap)).run P w.drew= .ok olds.toArray w.drew:=by
  rcases ho2 with rfl |⟨b,rfl,hr⟩
  ·have h0:l.length=0:=AA
   have:olds=[]:=List.eq_nil_of_length_eq_zero (by rw[ho1.length,h0,Nat.zero_mul]);rw[this,h0];cases base with
   | none=>exact run_firstCells_none w.drew ei.size 0 0 0
   | some ad=>exact run_firstCells_some w.drew ei.size 0 ad 0 0 [] AZ (fun j u hu=>by simp at hu)
  exact run_firstCells_some w.drew ei.size l.length _ l.length cap olds (by rw[ho1.length,hsize]) fun j u hu=>by rw[Addr.add_mid];simpa using hr j u hu
 have hrun:=run_append_grow_src (P:=P) w t tx ty _ ei z ht hi hz base l.length cap olds hold x l2.length news hs' AA AA (growslice_fits AA hbl);have hge:=grownCap_ge w (l.length+l2.length) cap (TI t).Dw;have hle:=grownCap_le_maxLen w (l.length+l2.length) cap (TI t).Dw (by unfold maxLen;omega)
 generalize grownCap w (l.length+l2.length) cap (TI t).Dw=c' at hrun hge hle
 generalize harr:(olds++news).toArray++Builtin.zeroCells z.cells (c'-(l.length+l2.length))=arr at hrun
 have hsz:arr.size=c'*(TI t).elem.size:=by
  rw[<-harr,Array.size_append,size_zeroCells,hzs,List.size_toArray,List.length_append,ho1.length,hnl,<-Nat.add_mul,<-Nat.add_mul]
  congr 1;omega
 obtain⟨β',S'⟩:=fin (L8:=some ⟨w.heap.size,0,none⟩) (o:=none) (o':=some w.heap.size) (Eo.push (w':=w.drew.alloc (.cells arr (TI t).Dw)) rfl rfl rfl rfl) (hid.imp_right fun h=>⟨h.1,rfl⟩) (.inl rfl) (fun b hb=> .inr (by cases hb;exact Nat.le_refl _)) (by rw[hlen];exact hge) hle
  fun hI=> .inr ⟨w.heap.size,arr,(TI t).Dw,rfl,rfl,heap_alloc_new w.drew _,Nat.le_of_eq hsz.symm,olds++news,(EP.mono hI ho1).append (EP.mono hI hrows),fun j v hj=>by
   rw[Nat.zero_add];refine (World.cell?_alloc_new w.drew _ _ j).trans ?_;rw[<-harr,Array.getElem?_append_left (by simpa using Ix hj)];simpa using hj⟩
 exact⟨_,_,β',hrun,by rw[<-hlen];exact S'⟩
end
end Go.Abs
