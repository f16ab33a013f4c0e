/- Part 2 of a proof. Conditions: each theorem's own. -/
import Derived.WalkKit
import Derived.Deep.MidRow
import Derived.ArgAppend
set_option linter.all false
set_option maxHeartbeats 80000000
set_option maxRecDepth 20000
namespace Go.Abs
 inductive T
  | u8 | u32 | u64 | i8 | i64 | bool | sl (t:T) | pr (a b:T)
  | str | ex | rf (t:T)
 inductive Ex
  | mk (op:Int) (v:(Bool×List UInt32)×(Bool×List UInt32)) (name:ByteArray) (args:List Ex)
def Ex.op:Ex->Int
 | .mk o _ _ _=>o
def Ex.v:Ex->(Bool×List UInt32)×(Bool×List UInt32)
 | .mk _ v _ _=>v
def Ex.name:Ex->ByteArray
 | .mk _ _ s _=>s
def Ex.args:Ex->List Ex
 | .mk _ _ _ l=>l
abbrev el:T->Type
 | .u8=>UInt8 | .u32=>UInt32 | .u64=>UInt64 | .i8=>Int | .i64=>Int | .bool=>Bool
 | .sl t=>List (el t) | .pr a b=>el a×el b
 | .str=>ByteArray | .ex=>Ex | .rf t=>el t
def T.size:T->Nat
 | .pr a b=>a.size+b.size
 | .ex=>7
 | _=>1
def T.beq:T->T->Bool
 | .u8,.u8=>true | .u32,.u32=>true | .u64,.u64=>true | .i8,.i8=>true | .i64,.i64=>true | .bool,.bool=>true
 | .sl a,.sl b=>a.beq b
 | .pr a b,.pr c d=>a.beq c&&b.beq d
 |.str,.str|.ex,.ex=>true
 | .rf a,.rf b=>a.beq b
 | _,_=>false
def T.agg:T->Bool
 |.pr _ _|.ex=>true
 | _=>false
 inductive AC
  | BN | int (k:IntKind) (n:Int) | bool (b:Bool) | fn (f:FuncId) | nil
  | sl (t:T) (l:List (el t))
  | AQ (t:T) (id AK off len:Nat)
  | Co (t:T) (id AK off len:Nat)
  | Ae (id AK off:Nat)
  | Ca (t:T) (id AK i k:Nat)
  | BW (t:T) (x:el t) (off:Nat)
  | ub (e:Bool)
  | own (t:T) (l:List (el t)) (n:Nat)
  | CU (f:FuncId) (ps:List (Nat×Nat))
  | CJ (f:FuncId) (qs:List ((t:T)×el t))
  | str (s:ByteArray)
  | Ch (ps:List (Nat×Nat×Nat))
  | Cp (p:Nat×Nat×Nat)
 inductive AV
  | one (c:AC) | agg (cs:List AC) | AJ (xs:List (Bool×List AC))
 inductive AG
  | var (AK:Nat) (cs:List AC)
  | arr (AK:Nat) (t:T) (l:List (el t))
  | dead (AK:Nat)
def AG.AK:AG->Nat
 | .var v _=>v | .arr v _ _=>v | .dead v=>v
def cells:(t:T)->el t->List AC
 | .u8,x=>[.int .u8 x.toNat]
 | .u32,x=>[.int .u32 x.toNat]
 | .u64,x=>[.int .u64 x.toNat]
 | .i8,x=>[.int .i8 x]
 | .i64,x=>[.int .i64 x]
 | .bool,x=>[.bool x]
 | .sl t,l=>[.sl t l]
 | .pr a b,x=>cells a x.1++cells b x.2
 | .str,x=>[.str x]
 | .rf t,x=>[.BW t x 0]
 | .ex,x=>[.int .i64 x.op,.bool x.v.1.1,.sl .u32 x.v.1.2,.bool x.v.2.1,.sl .u32 x.v.2.2,.str x.name,.sl .ex x.args]
structure Cl (n:Int) (k:Nat):Prop where
 eq:n=k
 le:k<=140737488355328
structure AR (n:Int) (k:Nat):Prop where
 eq:n=k
structure LH (n:Int) (x:UInt8):Prop where
 eq:n=x.toNat
structure Jp (n:Int) (x:UInt32):Prop where
 eq:n=x.toNat
structure YA (n:Int) (x:UInt64):Prop where
 eq:n=x.toNat
def Ii:(t:T)->el t->(List AC->Prop)->Prop
 | .u8,x,K=>∀n,LH n x->K [.int .u8 n]
 | .u32,x,K=>∀n,Jp n x->K [.int .u32 n]
 | .u64,x,K=>∀n,YA n x->K [.int .u64 n]
 | .i8,x,K=>K [.int .i8 x]
 | .i64,x,K=>K [.int .i64 x]
 | .bool,x,K=>K [.bool x]
 | .sl t,l,K=>K [.sl t l]
 | .pr a b,x,K=>Ii a x.1 fun l=>Ii b x.2 fun m=>K (l++m)
 | .str,x,K=>K [.str x]
 | .rf t,x,K=>K [.BW t x 0]
 | .ex,x,K=>K [.int .i64 x.op,.bool x.v.1.1,.sl .u32 x.v.1.2,.bool x.v.2.1,.sl .u32 x.v.2.2,.str x.name,.sl .ex x.args]
theorem KD:∀(t:T) (x:el t) (K:List AC->Prop),Ii t x K↔K (cells t x)
 |.u8,x,K|.u32,x,K|.u64,x,K=>⟨fun h=>h _ ⟨rfl⟩,fun h n c=>by rw[c.eq];exact h⟩
 |.i8,_,_|.i64,_,_|.bool,_,_|.sl _,_,_|.str,_,_|.ex,_,_|.rf _,_,_=>Iff.rfl
 | .pr a b,x,K=>by
  show Ii a x.1 _↔_
  rw[KD a x.1,KD b x.2]
  rfl
def C2:Bool×List AC->AV
 | (true,cs)=> .agg cs
 | (false,c::_)=> .one c
 | (false,[])=> .one .BN
def AV.cs:AV->List AC
 | .one c=>[c]
 | .agg cs=>cs
 | .AJ _=>[]
def AV.full:AV->Bool
 | .one .BN=>false
 |.one _|.agg _=>true
 | .AJ _=>false
def AV.comp:AV->Bool×List AC
 | .one c=>(false,[c])
 | .agg cs=>(true,cs)
 | .AJ _=>(false,[])
def comp (t:T) (x:el t):Bool×List AC:=(t.agg,cells t x)
def Rw (t:T) (x:el t):AV:=C2 (comp t x)
structure St where
 sl:List AV
 bk:List (Option AG)
def nth:List AV->Nat->AV
 | [],_=> .one .BN
 | a::_,0=>a
 | _::l,n+1=>nth l n
def AF:List (Option AG)->Nat->Option AG
 | [],_=>none
 | a::_,0=>a
 | _::l,n+1=>AF l n
def Av {α:Type}:List α->Nat->α->List α
 | [],_,_=>[]
 | _::l,0,x=>x::l
 | a::l,n+1,x=>a::Av l n x
def AK (bk:Nat->Option AG) (id:Nat):Nat:=
 match bk id with
 | some b=>b.AK
 | none=>0
structure Info where
 known:Bool:=true
 size:Nat:=1
 agg:Bool:=false
 zero:List AC:=[]
 kind:Option IntKind:=none
 ME:Bool:=false
 IA:Bool:=false
 pt:Bool:=false
 arr:Option (Nat×Nat×Bool):=none
 sl:Bool:=false
 Bw:TypeId:=0
 elem:T:= .bool
 Ba:el elem
 Dk:Nat:=0
 fields:List (Nat×Nat×Bool):=[]
def N9:Value->AV
 | .int k n=> .one (.int k n)
 | .bool b=> .one (.bool b)
 | .slice none 0 0=> .one .nil
 | .string s=> .one (.str s)
 | _=> .one .BN
def GI:Nat->Option ((t:T)×el t)
 | 0=>some ⟨.pr .i64 (.pr .i64 (.pr .i64 .i64)),(1,0,3,2)⟩
 | _=>none
def ev (s:List AV):Operand->AV
 | .tmp t=>nth s t
 | .const v=>N9 v
 | .func f=> .one (.fn f)
 | .global g=>match GI g with
  | some q=> .one (.BW q.1 q.2 0)
  | none=> .one .BN
structure BR where
 v:AV
 ws:List (Nat×AG):=[]
 rd:List Nat:=[]
def Db (n:Int):Prop:= -9223372036854775808<=n/\n<9223372036854775808
def fits (n b:Nat):Prop:=n*b<=140737488355328
def arith (op:BinOp) (k:IntKind) (a b:Int) (K:AC->Prop):Prop:=
 match op,k with
 | .add,.i64=>∀c,c=a+b->(Unit->Db c)/\K (.int .i64 c)
 | .sub,.i64=>∀c,c=a-b->(Unit->Db c)/\K (.int .i64 c)
 | .mul,.i64=>∀c,c=a*b->(Unit->Db c)/\K (.int .i64 c)
 | .quo,.i64=>∀c,c=a/b->(Unit->0<=a/\0<b/\Db c)/\K (.int .i64 c)
 | .rem,.i64=>∀c,c=a%b->(Unit->0<=a/\0<b)/\K (.int .i64 c)
 | .add,k=>∀c,c=k.wrap (a+b)->K (.int k c)
 | .sub,k=>∀c,c=k.wrap (a-b)->K (.int k c)
 | .mul,k=>∀c,c=k.wrap (a*b)->K (.int k c)
 | .quo,k=>∀c,c=k.wrap (a/b)->(Unit->0<=a/\0<b)/\K (.int k c)
 | .rem,k=>∀c,c=a%b->(Unit->0<=a/\0<b)/\K (.int k c)
 | .and,k=>∀c,c=k.wrap (BitVec.ofInt k.bits a &&& BitVec.ofInt k.bits b).toNat->K (.int k c)
 | .or,k=>∀c,c=k.wrap (BitVec.ofInt k.bits a ||| BitVec.ofInt k.bits b).toNat->K (.int k c)
 | .xor,k=>∀c,c=k.wrap (BitVec.ofInt k.bits a ^^^ BitVec.ofInt k.bits b).toNat->K (.int k c)
 | .andNot,k=>∀c,c=k.wrap (BitVec.ofInt k.bits a &&& ~~~ BitVec.ofInt k.bits b).toNat->K (.int k c)
 | .shl,k=>∀c,c=k.wrap (a*2^min b.toNat k.bits)->(Unit->0<=b)/\K (.int k c)
 | .shr,k=>∀c,c=a.fdiv (2^min b.toNat k.bits)->(Unit->0<=b)/\K (.int k c)
 | .eql,_=>∀c,c=(a==b)->K (.bool c)
 | .neq,_=>∀c,c=(a !=b)->K (.bool c)
 | .lss,_=>∀c,c=decide (a<b)->K (.bool c)
 | .leq,_=>∀c,c=decide (a<=b)->K (.bool c)
 | .gtr,_=>∀c,c=decide (a>b)->K (.bool c)
 | .geq,_=>∀c,c=decide (a >= b)->K (.bool c)
def EH (cs:List AC):Nat->Nat->List AC
 | 0,n=>cs.take n
 | off+1,n=>match cs with
  | []=>[]
  | _::cs=>EH cs off n
def CR {α:Type}:List α->Nat->List α->List α
 | cs,0,[]=>cs
 | [],0,_::_=>[]
 | _::cs,0,x::xs=>x::CR cs 0 xs
 | [],_+1,_=>[]
 | c::cs,off+1,xs=>c::CR cs off xs
def ld (i:Info) (cs:List AC) (off:Nat):AV:=C2 (i.agg,EH cs off i.size)
def Kw (bk:Nat->Option AG):List (Nat×Nat)->List ((t:T)×el t)->Prop
 | [],[]=>True
 | p::r,q::m=>bk p.1=some (.var p.2 (cells q.1 q.2))/\Kw bk r m
 | _,_=>False
def DC (bk:Nat->Option AG):AC->AC->Prop
 | .AQ t id v off len,c=>∃l,bk id=some (.arr v t l)/\off+len<=l.length/\c= .sl t ((l.drop off).take len)
 | .nil,c=>c= .nil\/∃t,c= .sl t []
 | .int k n,c=>c= .int k n
 | .bool b,c=>c= .bool b
 | .fn f,c=>c= .fn f
 | .sl t l,c=>c= .sl t l
 | .CU f ps,c=>(∃qs,Kw bk ps qs/\c= .CJ f qs)\/c= .BN
 | .Ae id v off,c=>off=0/\∃(t:T) (x:el t),bk id=some (.var v (cells t x))/\c= .BW t x 0
 | .str s,c=>c= .str s
 | .CJ f qs,c=>c= .CJ f qs
 | _,_=>False
def BG:AC->AC->Prop
 | .nil,c=>c= .nil\/∃t,c= .sl t []
 | .int k n,c=>c= .int k n
 | .bool b,c=>c= .bool b
 | .fn f,c=>c= .fn f
 | .sl t l,c=>c= .sl t l
 | .BW t y o,c=>c= .BW t y o
 | .str s,c=>c= .str s
 | .CJ f qs,c=>c= .CJ f qs
 | _,_=>False
def Aq (R:AC->AC->Prop):List AC->List AC->Prop
 | [],[]=>True
 | a::l,b::m=>R a b/\Aq R l m
 | _,_=>False
def leV (R:AC->AC->Prop):AV->AV->Prop
 | .one a,.one b=>R a b
 | .agg l,.agg m=>Aq R l m
 | _,_=>False
def C6 (R:AC->AC->Prop):List AV->List AV->Prop
 | [],[]=>True
 | a::l,b::m=>leV R a b/\C6 R l m
 | _,_=>False
def Bk:AC->List Nat
 | .AQ _ id _ _ _=>[id]
 | .CU _ ps=>ps.map (·.1)
 | .Ae id _ _=>[id]
 | _=>[]
def Be:List AV->List Nat
 | []=>[]
 | .one c::r=>Bk c++Be r
 | .agg cs::r=>cs.flatMap Bk++Be r
 | .AJ _::r=>Be r
def En (d v:Nat):AC->AC
 | .own t _ n=> .AQ t d v 0 n
 | c=>c
def G6 (d v:Nat):AV->AV
 | .one c=> .one (En d v c)
 | .agg cs=> .agg (cs.map (En d v))
 | .AJ xs=> .AJ (xs.map fun x=>(x.1,x.2.map (En d v)))
def DM (d v:Nat):List AC->List (Nat×AG)
 | []=>[]
 | .own t l _::_=>[(d,.arr v t l)]
 | _::r=>DM d v r
def Gd (d v:Nat):AV->List (Nat×AG)
 | .one c=>DM d v [c]
 | .agg cs=>DM d v cs
 | .AJ xs=>DM d v (xs.flatMap (·.2))
abbrev Con:=Bool->FuncId->List AV->AV->Prop
abbrev XT:=FuncId->AC->AG->List AV->AV->AG->Prop
abbrev XU:=FuncId->List AV->AG->AV->Prop
abbrev XV:=FuncId->(t:T)->List (el t)->List AV->List (el t)->Prop
abbrev XW:=FuncId->List AV->AG->AV->AG->Prop
structure Env where
 C:Con
 B:XT
 D:XU
 G:XV
 W:XW
def Fc (id v:Nat):AC->AC->Prop
 | .AQ t i w off len,c=>(i=id/\w=v)/\c= .AQ t 0 0 off len
 | .Ae i w off,c=>(i=id/\w=v)/\c= .Ae 0 0 off
 | .nil,c=>c= .nil\/∃t,c= .sl t []
 | .int k n,c=>c= .int k n
 | .bool b,c=>c= .bool b
 | .fn f,c=>c= .fn f
 | .sl t l,c=>c= .sl t l
 | .str s,c=>c= .str s
 | _,_=>False
def I3 (bk:Nat->Option AG) (id v:Nat):AC->AC->Prop
 | .Ae i w off,c=>Fc id v (.Ae i w off) c\/((i≠id/\off=0)/\∃o,bk i=some (.var w [.Ae id v o])/\c= .Cp (0,0,o))
 | c,d=>Fc id v c d
def Z6 (bk:Nat->Option AG) (l2:List Nat) (p:Nat×Nat):((t:T)×el t)->Prop
 |⟨.rf t,x⟩=>∃id v,id∈l2/\bk p.1=some (.var p.2 [.Ae id v 0])/\bk id=some (.var v (cells t x))
 | q=>bk p.1=some (.var p.2 (cells q.1 q.2))
def Kx (bk:Nat->Option AG) (l2:List Nat):List (Nat×Nat)->List ((t:T)×el t)->Prop
 | [],[]=>True
 | p::r,q::m=>Z6 bk l2 p q/\Kx bk l2 r m
 | _,_=>False
def Kv (bk:Nat->Option AG) (l2:List Nat):AC->AC->Prop
 | .CU f ps,c=>∃qs,Kx bk l2 ps qs/\c= .CJ f qs
 | c,d=>DC bk c d
def F1 (places:List (Nat×Nat×Bool)) (e:Operand->AV):List (Nat×Operand)->List AC->Option (List AC)
 | [],cs=>some cs
 | (i,x)::r,cs=>match places[i]? with
  | some (off,n,_)=>if (e x).cs.length=n/\(e x).full=true/\off+n<=cs.length then F1 places e r (CR cs off (e x).cs) else none
  | none=>none
def HH (id v:Nat):AC->AC
 | .AQ t _ _ off len=> .AQ t id v off len
 | .Ae _ _ off=> .Ae id v off
 | .Ca t _ _ i k=> .Ca t id v i k
 | c=>c
def Vj (id v:Nat):AV->AV
 | .one c=> .one (HH id v c)
 | .agg cs=> .agg (cs.map (HH id v))
 | .AJ xs=> .AJ (xs.map fun x=>(x.1,x.2.map (HH id v)))
def AG.Bz (v:Nat):AG->AG
 | .var _ cs=> .var v cs
 | .arr _ t l=> .arr v t l
 | .dead _=> .dead v
def Mn:AC->Option (Nat×Nat)
 |.AQ _ id v _ _|.Ae id v _=>some (id,v)
 | _=>none
def T.flat:T->Bool
 | .sl _=>false
 | .pr a b=>a.flat&&b.flat
 |.ex|.rf _=>false
 | _=>true
def L4:AG->Bool
 | .arr _ t _=>t.flat
 | _=>false
def C7 (id:Nat):AV->Bool
 | .one (.int _ _)=>true
 | .one (.AQ t i _ _ _)=>t.flat&&i !=id
 | _=>false
def BT:AC->Bool
 |.int _ _|.bool _|.fn _|.nil|.AQ _ 0 0 _ _|.str _=>true
 | _=>false
def AV.all (p:AC->Bool):AV->Bool
 | .one c=>p c
 | .agg cs=>cs.all p
 | .AJ xs=>xs.all fun x=>x.2.all p
def Ao:AC->Bool
 | .BN=>true | .int _ _=>true | .bool _=>true | .fn _=>true | .nil=>true | .sl _ _=>true
 | .BW _ _ _=>true | .CJ _ _=>true
 | .str _=>true
 | _=>false
def FQ (E:Env) (g:FuncId) (args:List AV) (d:Nat) (bk:Nat->Option AG) (K:BR->Prop):Prop:=
 (∃args' r,(Unit->C6 BG args args')/\(Unit->E.C false g args' r)/\
  K ⟨G6 d (AK bk d+1) r,Gd d (AK bk d+1) r,[d]⟩)\/
 (∃args' r,(Unit->C6 (DC bk) args args')/\(Unit->E.C true g args' r)/\
  K ⟨G6 d (AK bk d+1) r,Gd d (AK bk d+1) r,d::Be args⟩)\/
 (match args with
  | .one c::rest=>match Mn c with
   | some (id,v)=>match bk id with
    | some b=>if b.AK=v then ∃args' r b1,(Unit->id ∉ Be rest/\C6 (DC bk) rest args')/\(Unit->E.B g (HH 0 0 c) (b.Bz 0) args' r b1/\L4 b1=true/\r.all BT=true)/\
     K ⟨Vj id v r,[(id,b1.Bz v)],id::Be rest⟩ else False
    | none=>False
   | none=>False
  | _=>False)\/
 (∃(id:Nat) (b:AG) (args':List AV) (r:AV),(Unit->bk id=some b/\C6 (Fc id b.AK) args args')/\(Unit->E.D g args' (b.Bz 0) r)/\K ⟨r,[],[id]⟩)\/
 (∃(id:Nat) (b:AG) (args':List AV) (r:AV),(Unit->(id≠0/\bk id=some b/\((Be args).all fun k=>k==id)=true)/\C6 (DC bk) args args')/\(Unit->E.C false g args' r/\r.all Ao=true)/\K ⟨r,[(id,.dead b.AK)],[id]⟩)
 \/(match args with
  | .one (.AQ t id v off len)::rest=>match bk id with
   | some (.arr v' t' l)=>if v'=v/\T.beq t' t=true then ∃(args':List AV) (l':List (el t')),(Unit->(off=0/\len=l.length)/\rest.all (C7 id)=true/\C6 (DC bk) rest args')/\(Unit->E.G g t' l args' l')/\
    ∀n,n=l'.length->K ⟨.one (.AQ t' id (v+1) 0 n),[(id,.arr (v+1) t' l')],id::Be rest⟩ else False
   | _=>False
  | _=>False)
 \/(∃(id:Nat) (b:AG) (args':List AV) (r:AV) (b1:AG),(Unit->bk id=some b/\C6 (Fc id b.AK) args args')/\(Unit->E.W g args' (b.Bz 0) r b1)/\K ⟨r,[(id,b1.Bz b.AK)],[id]⟩)
 \/(∃(l2:List Nat) (args':List AV) (r:AV),(Unit->C6 (Kv bk l2) args args')/\(Unit->E.C true g args' r)/\K ⟨G6 d (AK bk d+1) r,Gd d (AK bk d+1) r,d::(Be args++l2)⟩)
 \/(∃(id:Nat) (b:AG) (args':List AV) (r:AV) (b1:AG),(Unit->bk id=some b/\C6 (I3 bk id b.AK) args args')/\(Unit->E.W g args' (b.Bz 0) r b1)/\K ⟨r,[(id,b1.Bz b.AK)],id::Be args⟩)
def EK (TI:TypeId->Info) (b:Builtin) (tys:List TypeId) (args:List AV) (d:Nat) (bk:Nat->Option AG) (K:BR->Prop):Prop:=
 match b,tys,args with
 | .len,[t0],[.one (.sl _ l)]=>(TI t0).sl=true/\∀n,Cl n l.length->K ⟨.one (.int .i64 n),[],[]⟩
 |.len,[t0],[.one (.Co _ id v _ len)]|.len,[t0],[.one (.AQ _ id v _ len)]=>(TI t0).sl=true/\if AK bk id=v then ∀n,AR n len->K ⟨.one (.int .i64 n),[],[id]⟩ else False
 | .len,[t0],[.one .nil]=>(TI t0).sl=true/\K ⟨.one (.int .i64 0),[],[]⟩
 | .len,[t0],[.one (.Ch ps)]=>(TI t0).pt=true/\∀n,AR n ps.length->K ⟨.one (.int .i64 n),[],[]⟩
 | .len,[t0],[.one (.str s)]=>(TI t0).IA=true/\∀n,AR n s.size->K ⟨.one (.int .i64 n),[],[]⟩
 | .cap,[t0],[.one .nil]=>(TI t0).sl=true/\K ⟨.one (.int .i64 0),[],[]⟩
 | .min,_,[.one (.int k a),.one (.int _ b)]=>∀c,c=(if b<a then b else a)->K ⟨.one (.int k c),[],[]⟩
 | .max,_,[.one (.int k a),.one (.int _ b)]=>∀c,c=(if b>a then b else a)->K ⟨.one (.int k c),[],[]⟩
 | .append,[t0,t1],[.one .nil,.one x]=>
  ((TI t0).sl=true/\(TI t1).sl=true)/\∃l2:List (el (TI t0).elem),(Unit->DC bk x (.sl _ l2)/\fits l2.length (TI t0).Dk)/\
    ∀n,n=l2.length->K ⟨.one (.AQ (TI t0).elem d (AK bk d+1) 0 n),[(d,.arr (AK bk d+1) _ l2)],d::Bk x⟩
 | .append,[t0,t1],[.one (.Co t id v off len),.one x]=>
  ((TI t0).sl=true/\(TI t1).sl=true)/\match bk id with
    | some (.arr v' t' l)=>if v'=v/\T.beq t' t=true/\T.beq t' (TI t0).elem=true then
     ∃l2:List (el t'),(Unit->off=0/\len<=l.length/\DC bk x (.sl _ l2)/\fits (len+l2.length) (TI t0).Dk)/\
      ∀l' n,(l'=l.take len++l2/\n=l'.length)->K ⟨.one (.AQ t' id (v+1) 0 n),[(id,.arr (v+1) t' l')],id::Bk x⟩
     else False
    | _=>False
 | .append,[t0,t1],[.one (.AQ t id v off len),.one x]=>
  ((TI t0).sl=true/\(TI t1).sl=true)/\match bk id with
    | some (.arr v' t' l)=>if v'=v/\T.beq t' t=true/\T.beq t' (TI t0).elem=true then
     ∃l2:List (el t'),(Unit->off=0/\len=l.length/\DC bk x (.sl _ l2)/\fits (l.length+l2.length) (TI t0).Dk)/\
      ∀l' n,(l'=l++l2/\n=l'.length)->K ⟨.one (.AQ t' id (v+1) 0 n),[(id,.arr (v+1) t' l')],id::Bk x⟩
     else False
    | _=>False
 | _,_,_=>False
def Ft (TI:TypeId->Info) (tys:List TypeId) (args:List AV) (bk:Nat->Option AG) (K:BR->Prop):Prop:=
 match tys,args with
 | [t0,t1],[.one (.AQ t id v off len),.one x]=>
  ((TI t0).sl=true/\(TI t1).sl=true)/\match bk id with
    | some (.arr v' t' l)=>if v'=v/\T.beq t' t=true/\T.beq t' (TI t0).elem=true then
     ∃l2:List (el t'),(Unit->off=0/\len<=l.length/\DC bk x (.sl _ l2)/\fits (len+l2.length) (TI t0).Dk)/\
      ∀l' n,(l'=l.take len++l2/\n=l'.length)->K ⟨.one (.AQ t' id (v+1) 0 n),[(id,.arr (v+1) t' l')],id::Bk x⟩
     else False
    | _=>False
 | _,_=>False
def JO (K:BR->Prop) (f:BR):Prop:=
 match f.v,f.ws with
 | .one (.AQ t id v off n),[(i,.arr v' t' l)]=>if (id !=0&&id==i&&v==v'&&off==0&&T.beq t t')=true then (Unit->n=l.length)/\K ⟨.one (.sl t' l),[(id,.dead v)],f.rd⟩ else False
 | _,_=>False
def Nb (TI:TypeId->Info) (b:Builtin) (tys:List TypeId) (args:List AV) (d:Nat) (bk:Nat->Option AG) (K:BR->Prop):Prop:=
 match b with
 | .append=>EK TI b tys args d bk K\/EK TI b tys args d bk (JO K)\/Ft TI tys args bk K
 | _=>EK TI b tys args d bk K
def Nh:List (Nat×List AC)->Nat->List (List AC)->Prop
 | [],_,[]=>True
 | p::r,k,x::m=>p.1=k/\Aq BG p.2 x/\Nh r (k+1) m
 | _,_,_=>False
def Fv (len:Nat) (lo hi mx:Option AV) (K:Nat->Nat->Bool->Prop):Prop:=
 match lo,hi,mx with
 | none,none,none=>∀h,h=len->K 0 h false
 | some (.one (.int _ a)),none,none=>(Unit->0<=a/\a.toNat<=len)/\∀l h,(l=a.toNat/\h=len)->K l h false
 | none,some (.one (.int _ b)),none=>(Unit->0<=b/\b.toNat<=len)/\∀h,h=b.toNat->K 0 h false
 | some (.one (.int _ a)),some (.one (.int _ b)),none=>(Unit->0<=a/\a<=b/\b.toNat<=len)/\∀l h,(l=a.toNat/\h=b.toNat)->K l h false
 | none,some (.one (.int _ b)),some (.one (.int _ m))=>(Unit->0<=b/\b=m/\m.toNat<=len)/\∀h,h=b.toNat->K 0 h true
 | _,_,_=>False
def HR (bk:Nat->Option AG) (u:T) (x:AV) (lo hi mx:Option AV) (K:BR->Prop):Prop:=
 match x with
 | .one (.sl t l)=>T.beq t u=true/\∀n,n=l.length->Fv n lo hi mx fun a b _=>∀l',l'=(l.take b).drop a->K ⟨.one (.sl t l'),[],[]⟩
 | .one (.AQ t id v off len)=>T.beq t u=true/\if AK bk id=v then Fv len lo hi mx fun a b c=>∀o n,(o=off+a/\n=b-a)->
  match c with | true=>K ⟨.one (.Co t id v o n),[],[id]⟩ | false=>K ⟨.one (.AQ t id v o n),[],[id]⟩
  else False
 | .one .nil=>Fv 0 lo hi mx fun _ _ _=>K ⟨.one .nil,[],[]⟩
 | _=>False
def DG:List AV->Option (List (Nat×Nat))
 | []=>some []
 | .one (.Ae id v 0)::r=>match DG r with
  | some ps=>some ((id,v)::ps)
  | none=>none
 | _::_=>none
def Rv (n s:Nat) (g:Bool):List (Nat×Nat×Bool):=(List.range n).map fun i=>(i*s,s,g)
def DT:List AV->Option (List (Nat×Nat×Nat))
 | []=>some []
 | .one (.Ae id v o)::r=>match DT r with
  | some ps=>some ((id,v,o)::ps)
  | none=>none
 | _::_=>none
def B5 (E:Env) (TI:TypeId->Info) (o:Oper) (d:Nat) (e:Operand->AV) (bk:Nat->Option AG) (K:BR->Prop):Prop:=
 match o.op with
 |.move x|.assign x=>K ⟨e x,[],[]⟩
 | .nilCheck x=>match e x with
  | .one (.Ae id v off)=>if AK bk id=v then K ⟨e x,[],[id]⟩ else False
  |.one (.fn _)|.one (.CJ _ _)|.one (.BW _ _ _)=>K ⟨e x,[],[]⟩
  | _=>False
 | .pick c a b=>match e c with
  | .one (.bool true)=>K ⟨e a,[],[]⟩
  | .one (.bool false)=>K ⟨e b,[],[]⟩
  | _=>False
 | .alloc t=>(TI t).known=true/\K ⟨.one (.Ae d (AK bk d+1) 0),[(d,.var (AK bk d+1) (TI t).zero)],[d]⟩
 | .box _ x=>match e x with
  |.AJ _|.one .BN=>False
  | v=>K ⟨.one (.Ae d (AK bk d+1) 0),[(d,.var (AK bk d+1) v.cs)],[d]⟩
 | .extract t i=>match e t with
  | .AJ xs=>match xs[i]? with
   | some x=>K ⟨C2 x,[],[]⟩
   | none=>False
  | _=>False
 | .load t a=>(TI t).known=true/\match e a with
  | .one (.Ae id v off)=>match bk id with
   | some (.var v' cs)=>if v'=v/\(EH cs off (TI t).size).length=(TI t).size then K ⟨ld (TI t) cs off,[],[id]⟩ else False
   | _=>False
  | .one (.BW t' x off)=>Ii t' x fun cs=>if (EH cs off (TI t).size).length=(TI t).size then K ⟨ld (TI t) cs off,[],[]⟩ else False
  | .one (.Cp p)=>(TI t).agg=false/\K ⟨.one (.Ae p.1 p.2.1 p.2.2),[],[]⟩
  | .one (.Ca t' id v i k)=>match bk id with
   | some (.arr v' u l)=>if v'=v/\T.beq t' u=true then ∃x:el u,(Unit->l[i]? =some x)/\Ii u x fun cs=>
    if (EH cs k (TI t).size).length=(TI t).size then K ⟨ld (TI t) cs k,[],[id]⟩ else False
    else False
   | _=>False
  | _=>False
 | .store t a x=>(TI t).known=true/\match e a with
  | .one (.Ae id v off)=>match bk id,e x with
   |_,.AJ _|_,.one .BN=>False
   | some (.var v' cs),y=>if v'=v/\y.cs.length=(TI t).size/\off+(TI t).size<=cs.length then
    K ⟨.one .BN,[(id,.var v (CR cs off y.cs))],[id]⟩ else False
   | _,_=>False
  | .one (.Ca t' id v i k)=>match bk id,e x with
   |_,.AJ _|_,.one .BN=>False
   | some (.arr v' u l),y=>if v'=v/\k=0/\(TI t).size=u.size/\T.beq t' u=true then
    ∃z:el u,(Unit->i<l.length/\Aq BG y.cs (cells u z))/\∀l',l'=l.set i z->K ⟨.one .BN,[(id,.arr v u l')],[id]⟩
    else if v'=v/\k+(TI t).size<=u.size/\T.beq t' u=true then
    ∃(x:el u) (z:el u),(Unit->l[i]? =some x/\y.cs.length=(TI t).size/\Aq BG (CR (cells u x) k y.cs) (cells u z))/\∀l',l'=l.set i z->K ⟨.one .BN,[(id,.arr v u l')],[id]⟩
    else False
   | _,_=>False
  | _=>False
 | .fieldAddr s x f=>(TI s).known=true/\match (TI s).fields[f]?,e x with
  | some (fo,_,_),.one (.Ae id v off)=>if AK bk id=v then K ⟨.one (.Ae id v (off+fo)),[],[id]⟩ else False
  | some (fo,_,_),.one (.BW t y off)=>K ⟨.one (.BW t y (off+fo)),[],[]⟩
  | some (fo,_,_),.one (.Ca t id v i k)=>if AK bk id=v then K ⟨.one (.Ca t id v i (k+fo)),[],[id]⟩ else False
  | _,_=>False
 | .field s x f=>(TI s).known=true/\match (TI s).fields[f]?,e x with
  | some (fo,n,g),.agg cs=>if (EH cs fo n).length=n then K ⟨C2 (g,EH cs fo n),[],[]⟩ else False
  | _,_=>False
 | .build t parts=>match (TI t).arr with
  | some q=>(TI t).known=true/\match F1 (Rv q.1 q.2.1 q.2.2) e parts.toList (TI t).zero with
   | some cs=>K ⟨.agg cs,[],[]⟩
   | none=>False
  | none=>((TI t).known=true/\(TI t).fields.isEmpty=false)/\match F1 (TI t).fields e parts.toList (TI t).zero with
  | some cs=>K ⟨.agg cs,[],[]⟩
  | none=>False
 | .buildSlice t len parts=>match (TI t).pt with
  | true=>match DT (parts.toList.map fun p=>e p.2) with
   | some ps=>(Unit->ps.length=len/\len<=524288/\parts.toList.map (·.1)=List.range len)/\K ⟨.one (.Ch ps),[],[]⟩
   | none=>False
  | false=>(TI t).sl=true/\(TI t).elem.size<=32/\∃xs:List (el (TI t).elem),
   (Unit->xs.length=len/\len<=524288/\(parts.toList.all fun p=>(e p.2).full)=true/\Nh (parts.toList.map fun p=>(p.1,(e p.2).cs)) 0 (xs.map (cells _)))/\
   (K ⟨.one (.AQ (TI t).elem d (AK bk d+1) 0 len),[(d,.arr (AK bk d+1) _ xs)],[d]⟩\/K ⟨.one (.sl (TI t).elem xs),[],[]⟩)
 | .makeSlice t l c=>(TI t).sl=true/\match e l,e c with
  | .one (.int _ n),.one (.int _ m)=>(Unit->0<=n/\n<=m/\fits m.toNat (TI t).Dk)/\
   ∀k z,(k=n.toNat/\z=List.replicate k (TI t).Ba)->K ⟨.one (.AQ (TI t).elem d (AK bk d+1) 0 k),[(d,.arr (AK bk d+1) _ z)],[d]⟩
  | _,_=>False
 | .indexAddr t x i=>match (TI t).pt with
  | true=>match e x,e i with
   | .one (.Ch ps),.one (.int _ n)=>∃p,(Unit->0<=n/\ps[n.toNat]? =some p)/\K ⟨.one (.Cp p),[],[]⟩
   | _,_=>False
  | false=>match (TI t).arr with
   | some q=>match e x,e i with
    | .one (.Ae id v off),.one (.int _ n)=>if AK bk id=v then (Unit->0<=n/\n.toNat<q.1)/\K ⟨.one (.Ae id v (off+n.toNat*q.2.1)),[],[id]⟩ else False
    | .one (.BW t' y off),.one (.int _ n)=>(Unit->0<=n/\n.toNat<q.1)/\K ⟨.one (.BW t' y (off+n.toNat*q.2.1)),[],[]⟩
    | _,_=>False
   | none=>(TI t).sl=true/\match e x,e i with
  | .one (.sl t' l),.one (.int _ n)=>T.beq t' (TI t).elem=true/\∃x,(Unit->0<=n/\l[n.toNat]? =some x)/\K ⟨.one (.BW t' x 0),[],[]⟩
  | .one (.AQ t' id v off len),.one (.int _ n)=>T.beq t' (TI t).elem=true/\if AK bk id=v then (Unit->0<=n/\n.toNat<len)/\∀j,j=off+n.toNat->K ⟨.one (.Ca t' id v j 0),[],[id]⟩ else False
  | _,_=>False
 | .slice t x lo hi mx=>match e x with
  | .one (.str s)=>(TI t).IA=true/\∀n,n=s.size->Fv n (lo.map e) (hi.map e) (mx.map e) fun a b c=>c=false/\∀z,z=s.extract a b->K ⟨.one (.str z),[],[]⟩
  | X=>(TI t).sl=true/\HR bk (TI t).elem X (lo.map e) (hi.map e) (mx.map e) K
 | .index t x i=>match (TI t).arr with
  | some q=>match e x,e i with
   | .agg cs,.one (.int _ n)=>(Unit->0<=n/\n.toNat<q.1)/\if (EH cs (n.toNat*q.2.1) q.2.1).length=q.2.1 then K ⟨C2 (q.2.2,EH cs (n.toNat*q.2.1) q.2.1),[],[]⟩ else False
   | _,_=>False
  | none=>(TI t).IA=true/\match e x,e i with
  | .one (.str s),.one (.int _ n)=>∃b:UInt8,(Unit->0<=n/\s.data[n.toNat]? =some b)/\∀z,LH z b->K ⟨.one (.int .u8 z),[],[]⟩
  | _,_=>False
 | .binOp op bt x y _=>match e x,e y with
  | .one (.int k a),.one (.int k' b)=>if k=k'\/op= .shl\/op= .shr then arith op k a b fun c=>K ⟨.one c,[],[]⟩ else False
  | .one (.bool a),.one (.bool b)=>(TI bt).ME=true/\match op with
   | .eql=>∀c,c=(a==b)->K ⟨.one (.bool c),[],[]⟩
   | .neq=>∀c,c=(a !=b)->K ⟨.one (.bool c),[],[]⟩
   | _=>False
  | .one (.sl _ l),.one .nil=>(TI bt).sl=true/\match op with
   | .eql=>∀c,c=l.isEmpty->K ⟨.one (.ub c),[],[]⟩
   | _=>False
  | .one (.str a),.one (.str b)=>match op with
   | .eql=>∀c,c=(a.toList==b.toList)->K ⟨.one (.bool c),[],[]⟩
   | .neq=>∀c,c=(!(a.toList==b.toList))->K ⟨.one (.bool c),[],[]⟩
   | .add=>(Unit->a.size+b.size<=9223372036854775807)/\∀c,c=a++b->K ⟨.one (.str c),[],[]⟩
   | _=>False
  | _,_=>False
 | .unOp op _ x=>match op,e x with
  | .not,.one (.bool b)=>∀c,c= !b->K ⟨.one (.bool c),[],[]⟩
  | .neg,.one (.int k n)=>∀c,c=k.wrap (0-n)->K ⟨.one (.int k c),[],[]⟩
  | _,_=>False
 | .convert src dst x=>(TI src).known=true/\match (TI dst).kind,e x with
  | some k,.one (.int _ n)=>∀c,c=k.wrap n->K ⟨.one (.int k c),[],[]⟩
  | none,.one c=>(TI dst).IA=true/\(TI src).sl=true/\(TI (TI src).Bw).kind=some .u8/\∃l:List UInt8,(Unit->c= .sl .u8 l)/\∀z,z=ByteArray.mk l.toArray->K ⟨.one (.str z),[],[]⟩
  | _,_=>False
 | .makeFunc fn first captured=>match fn,first.toList,DG (captured.toList.map e) with
  | .func f,[],some ps=>K ⟨.one (.CU f ps),[],[]⟩
  | _,_,_=>False
 | .call c=>match c.callee with
  | .builtin b=>Nb TI b c.argTypes.toList (c.args.toList.map e) d bk K
  | .value f=>match e f with
   | .one (.fn g)=>FQ E g (c.args.toList.map e) d bk K
   | .one (.CJ g qs)=>FQ E g (c.args.toList.map e++qs.map fun q=> .one (.BW q.1 q.2 0)) d bk K
   | .one (.CU g ps)=>FQ E g (c.args.toList.map e++ps.map fun p=> .one (.Ae p.1 p.2 0)) d bk K
   | _=>False
  | .invoke _ _=>False
 | _=>False
def Ci:List (Nat×AG)->List (Option AG)->List (Option AG)
 | [],b=>b
 | w::r,b=>Ci r (Av b w.1 (some w.2))
def Er (l:List AV):Option Nat->AV->List AV
 | some d,v=>Av l d v
 | none,_=>l
def St.app (s:St) (d:Option Nat) (f:BR):St:=⟨Er s.sl d f.v,Ci f.ws s.bk⟩
def BP (o:Oper):Nat:=o.dst.getD 1000000
abbrev Tr:=List (List Nat×List Nat)
def MB (ops:List Oper) (j:Nat):Option Nat:=(ops[j]?).bind (·.dst)
def VH (o:Oper):List Nat:=o.op.operands.toList.filterMap fun | .tmp t=>some t | _=>none
def Gc (ops:List Oper) (o:Oper):List Nat:=
 o.dst.toList++VH o++(match o.guard with | some (j,_)=>(MB ops j).toList | none=>[])
def EA (o:Oper):List Nat:=(o.after.toList.filter fun e=>Region.binds .any e).map (·.on)
def Ej:List Oper->List (List Nat)->List (List Nat)
 | [],acc=>acc
 | o::r,acc=>Ej r (acc++[(EA o).flatMap fun j=>j::acc.getD j []])
def KI (a b:List Nat):Bool:=a.all fun x=> !b.contains x
def J3 (ops:List Oper) (oi oj:Oper) (ti tj:List Nat×List Nat):Bool:=
 KI oi.dst.toList (Gc ops oj)&&KI oj.dst.toList (Gc ops oi)&&
 KI ti.2 (tj.1++tj.2)&&KI tj.2 ti.1
def U6 (ops:List Oper) (tr:Tr) (bs:List (List Nat)):Bool:=
 (List.range ops.length).all fun j=>(List.range j).all fun i=>
  (bs.getD j []).contains i||
   (match ops[i]?,ops[j]?,tr[i]?,tr[j]? with
    | some oi,some oj,some ti,some tj=>J3 ops oi oj ti tj
    | _,_,_,_=>false)
def Ry (ops:List Oper):Bool:=
 (List.range ops.length).all fun j=>match ops[j]? with | some o=>(EA o).all fun i=>decide (i<j) | none=>true
def Hd (ops:List Oper) (tr:Tr):Bool:=Ry ops&&U6 ops tr (Ej ops [])
def GD (E:Env) (TI:TypeId->Info) (all:List Oper) (draw:Bool):List Oper->Tr->(St->Prop)->St->Prop
 | [],tr,Q,s=>match draw with
  | false=>Q s
  | true=>(Unit->Hd all tr.reverse=true)/\Q s
 | o::r,tr,Q,s=>match o.guard with
  | none=>B5 E TI o (BP o) (ev s.sl) (AF s.bk) fun f=>GD E TI all draw r ((f.rd,f.ws.map (·.1))::tr) Q (s.app o.dst f)
  | some (j,w)=>match MB all j with
   | none=>False
   | some g=>match nth s.sl g,w with
    |.one (.bool true),true|.one (.bool false),false=>B5 E TI o (BP o) (ev s.sl) (AF s.bk) fun f=>GD E TI all draw r ((f.rd,f.ws.map (·.1))::tr) Q (s.app o.dst f)
    |.one (.bool true),false|.one (.bool false),true|.AJ [],_=>GD E TI all draw r (([],[])::tr) Q (s.app o.dst ⟨.AJ [],[],[]⟩)
    | _,_=>False
 inductive AX
  | Cf | exit (n:Nat) | ret
def Ga (bk:Nat->Option AG) (bs:List Nat):AC->AC
 | .AQ t id v off len=>if bs.contains id&&AK bk id==v then .AQ t id 0 off len else .BN
 | .Ae id v off=>if bs.contains id&&AK bk id==v then .Ae id 0 off else .BN
 | .Ca t id v i k=>if bs.contains id&&AK bk id==v then .Ca t id 0 i k else .BN
 |.Co _ _ _ _ _|.CU _ _=> .BN
 | .Ch ps=>if (ps.all fun p=>bs.contains p.1&&AK bk p.1==p.2.1)=true then .Ch (ps.map fun p=>(p.1,0,p.2.2)) else .BN
 | .Cp _=> .BN
 | c=>c
def O1 (bk:Nat->Option AG) (bs:List Nat):AV->AV
 | .one c=> .one (Ga bk bs c)
 | .agg cs=> .agg (cs.map (Ga bk bs))
 | .AJ _=> .one .BN
def Ka (bk:Nat->Option AG) (bs:List Nat):AG->AG
 | .var _ cs=> .var 0 (cs.map (Ga bk bs))
 | .arr _ t l=> .arr 0 t l
 | .dead _=> .dead 0
def Dc (s:St) (bs:List Nat):List Nat->List AV
 | []=>[]
 | k::r=>O1 (AF s.bk) bs (nth s.sl k)::Dc s bs r
def DK (s:St) (bs:List Nat):List Nat->List AG
 | []=>[]
 | k::r=>(match AF s.bk k with | some b=>if k==0&&b.AK !=0 then .dead 0 else Ka (AF s.bk) bs b | none=> .dead 0)::DK s bs r
def E9:List Nat->List AV->List AV->List AV
 | k::ks,v::vs,l=>E9 ks vs (Av l k v)
 | _,_,l=>l
def GB:List Nat->List AG->List (Option AG)->List (Option AG)
 | k::ks,v::vs,l=>GB ks vs (Av l k (some v))
 | _,_,l=>l
def GC {α:Type}:Nat->α->List α
 | 0,_=>[]
 | n+1,x=>x::GC n x
def Ff (n:Nat) (ks:List Nat) (vs:List AV) (bs:List Nat) (bl:List AG):St:=
 ⟨E9 ks vs (GC n (.one .BN)),GB bs bl (GC n none)⟩
def Ik (s:St):List (Nat×T×Bool)->St
 | []=>s
 | (k,t,b)::r=>Ik (match nth s.sl k,b with
  | .one .nil,false=>⟨Av s.sl k (.one (.sl t [])),s.bk⟩
  | .one .nil,true=>⟨Av s.sl k (.one (.AQ t k (AK (AF s.bk) k+1) 0 0)),Av s.bk k (some (.arr (AK (AF s.bk) k+1) t []))⟩
  | _,_=>s) r
def It:Code->Bool
 |.skip|.region _ _ _=>true
 | .seq a b=>It a&&It b
 | .cond _ a b=>It a||It b
 |.block _ _|.loop _=>true
 | _=>false
def CZ (E:Env) (TI:TypeId->Info) (n:Nat):Code->(AX->St->Prop)->St->Prop
 | .skip,Q,s=>Q .Cf s
 | .region _ ops draw,Q,s=>GD E TI ops.toList draw ops.toList [] (Q .Cf) s
 | .seq a b,Q,s=>CZ E TI n a (fun e s=>match e with | .Cf=>CZ E TI n b Q s | .exit i=>Q (.exit i) s | .ret=>Q .ret s) s
 | .cond c a b,Q,s=>match It a&&It b with
  | true=>(∃(ks bs:List Nat) (J:List AV->List AG->Prop),(∀vs bl,J vs bl->Q .Cf (Ff n ks vs bs bl))/\
    match ev s.sl c with
    | .one (.bool true)=>CZ E TI n a (fun e s'=>match e with | .Cf=>J (Dc s' bs ks) (DK s' bs bs) | .exit i=>Q (.exit i) s' | .ret=>Q .ret s') s
    | .one (.bool false)=>CZ E TI n b (fun e s'=>match e with | .Cf=>J (Dc s' bs ks) (DK s' bs bs) | .exit i=>Q (.exit i) s' | .ret=>Q .ret s') s
    | .one (.ub u)=>(u=true->CZ E TI n a (fun e s'=>match e with | .Cf=>J (Dc s' bs ks) (DK s' bs bs) | .exit i=>Q (.exit i) s' | .ret=>Q .ret s') s)/\
     CZ E TI n b (fun e s'=>match e with | .Cf=>J (Dc s' bs ks) (DK s' bs bs) | .exit i=>Q (.exit i) s' | .ret=>Q .ret s') s
    | _=>False)\/
   (match ev s.sl c with
   | .one (.bool true)=>CZ E TI n a Q s
   | .one (.bool false)=>CZ E TI n b Q s
   | .one (.ub u)=>(u=true->CZ E TI n a Q s)/\CZ E TI n b Q s
   | _=>False)
  | false=>match ev s.sl c with
   | .one (.bool true)=>CZ E TI n a Q s
   | .one (.bool false)=>CZ E TI n b Q s
   | .one (.ub u)=>(u=true->CZ E TI n a Q s)/\CZ E TI n b Q s
   | _=>False
 | .block id c,Q,s=>(∃(ks bs:List Nat) (J:List AV->List AG->Prop),(∀vs bl,J vs bl->Q .Cf (Ff n ks vs bs bl))/\
   CZ E TI n c (fun e s'=>match e with | .exit i=>if i=id then J (Dc s' bs ks) (DK s' bs bs) else Q (.exit i) s' | .Cf=>J (Dc s' bs ks) (DK s' bs bs) | .ret=>Q .ret s') s)\/
  CZ E TI n c (fun e s=>match e with | .exit i=>if i=id then Q .Cf s else Q (.exit i) s | .Cf=>Q .Cf s | .ret=>Q .ret s) s
 | .loop c,Q,s=>∃(cv:List (Nat×T×Bool)) (ks bs:List Nat) (J:List AV->List AG->Nat->Prop),
  (∃k,J (Dc (Ik s cv) bs ks) (DK (Ik s cv) bs bs) k)/\∀vs bl k,J vs bl k->
   CZ E TI n c (fun e s'=>match e with
    | .Cf=>∃k',k'<k/\J (Dc s' bs ks) (DK s' bs bs) k'
    | .exit i=>Q (.exit i) s' | .ret=>Q .ret s') (Ff n ks vs bs bl)
 | .exit i,Q,s=>Q (.exit i) s
 | .ret,Q,s=>Q .ret s
 | _,_,_=>False
def Dr (bk:Nat->Option AG):AC->AC->Prop
 | .AQ t id v off len,c=>(∃l,bk id=some (.arr v t l)/\off+len<=l.length/\c= .sl t ((l.drop off).take len))\/
  (∃l n,id≠0/\bk id=some (.arr v t l)/\off=0/\len=l.length/\n=l.length/\c= .own t l n)\/
  (id=0/\v=0/\c= .AQ t 0 0 off len)
 | .nil,c=>c= .nil\/(∃t,c= .sl t [])\/∃t,c= .own t [] 0
 | .int k n,c=>c= .int k n
 | .bool b,c=>c= .bool b
 | .fn f,c=>c= .fn f
 | .sl t l,c=>c= .sl t l
 | .str s,c=>c= .str s
 | _,_=>False
def Gg (bk:Nat->Option AG):List (Bool×List AC)->List (Bool×List AC)->Prop
 | [],[]=>True
 | a::l,b::m=>(a.1=b.1/\Aq (Dr bk) a.2 b.2)/\Gg bk l m
 | _,_=>False
def E1:AC->Bool
 | .own _ _ _=>true
 | _=>false
def HW:AC->Bool
 |.AQ _ _ _ _ _|.own _ _ _=>true
 | _=>false
def Md (src:List (Bool×List AC)) (res:List (Bool×List AC)):Bool:=
 match (res.flatMap (·.2)).filter E1 with
 | []=>true
 | [_]=>((src.flatMap (·.2)).filter HW).length<=1
 | _=>false
def AV.Dj:AV->List (Bool×List AC)
 | .AJ xs=>xs
 | v=>[v.comp]
def Mr (TI:TypeId->Info) (s:St):ResultVar->Option (Bool×List AC)
 | .tmp t=>some (nth s.sl t).comp
 | .cell a t=>match nth s.sl a with
  | .one (.Ae id v off)=>match AF s.bk id with
   | some (.var v' cs)=>if (TI t).known&&v'==v&&(EH cs off (TI t).size).length==(TI t).size then some ((TI t).agg,EH cs off (TI t).size) else none
   | _=>none
  | _=>none
def Gh (TI:TypeId->Info) (s:St):List ResultVar->Option (List (Bool×List AC))
 | []=>some []
 | r::rs=>match Mr TI s r,Gh TI s rs with
  | some x,some xs=>some (x::xs)
  | _,_=>none
def Ha:AC->Bool
 | .AQ _ 0 _ _ _=>false
 | _=>true
def HD (TI:TypeId->Info) (rs:List ResultVar) (r:AV) (b0:AG) (e:AX) (s:St):Prop:=
 match e with
 | .exit _=>False
 | _=>match Gh TI s rs with
  | some xs=>(Unit->(Gg (AF s.bk) xs r.Dj/\(xs.all fun x=>x.2.all Ha)=true/\(rs.length=1↔∀ys,r≠ .AJ ys))/\AF s.bk 0=some b0)
  | none=>False
def post (TI:TypeId->Info) (rs:List ResultVar) (r:AV) (b1:Option AG) (e:AX) (s:St):Prop:=
 match e with
 | .exit _=>False
 | _=>match Gh TI s rs with
  | some xs=>(Unit->Gg (AF s.bk) xs r.Dj/\Md xs r.Dj=true/\(rs.length=1↔∀ys,r≠ .AJ ys))/\
   (match b1 with | none=>True | some b=>Unit->AF s.bk 0=some b)
  | none=>False
def CK (n:Nat) (args:List AV) (b0:Option AG):St:=
 ⟨args++GC (n-args.length) (.one .BN),match n with | 0=>[] | n+1=>b0::GC n none⟩
open Go.RowKit
def AT {α β:Type} (R:α->β->Prop):List α->List β->Prop
 | [],[]=>True
 | a::l,b::m=>R a b/\AT R l m
 | _,_=>False
theorem AT.mono {α β:Type} {R R':α->β->Prop}:∀{l:List α} {m:List β},(∀a b,R a b->R' a b)->AT R l m->AT R' l m
 | [],[],_,h=>h
 | _::_,_::_,c,h=>⟨c _ _ h.1,AT.mono c h.2⟩
 |[],_::_,_,h|_::_,[],_,h=>h
theorem AT.length {α β:Type} {R:α->β->Prop}:∀{l:List α} {m:List β},AT R l m->l.length=m.length
 | [],[],_=>rfl
 | _::_,_::_,h=>by simp[AT.length h.2]
 |[],_::_,h|_::_,[],h=>h.elim
theorem AT.get {α β:Type} {R:α->β->Prop}:∀{l:List α} {m:List β},AT R l m->∀(i:Nat) (a:α),l[i]? =some a->∃b,m[i]? =some b/\R a b
 | _::_,b::_,h,0,a,e=>by simp at e;exact⟨b,by simp,e ▸ h.1⟩
 | _::_,_::_,h,i+1,a,e=>by simpa using AT.get h.2 i a (by simpa using e)
 | [],[],_,_,_,e=>by simp at e
 |[],_::_,h,_,_,_|_::_,[],h,_,_,_=>h.elim
theorem AT.append {α β:Type} {R:α->β->Prop}:∀{l:List α} {m:List β} {l':List α} {m':List β},AT R l m->AT R l' m'->AT R (l++l') (m++m')
 | [],[],_,_,_,h=>h
 | _::_,_::_,_,_,h,h'=>⟨h.1,AT.append h.2 h'⟩
 |[],_::_,_,_,h,_|_::_,[],_,_,h,_=>h.elim
theorem AT.O9 {α β:Type} {R:α->β->Prop}:∀{l l':List α} {m:List β},AT R (l++l') m->∃m1 m2,m=m1++m2/\AT R l m1/\AT R l' m2
 | [],_,m,h=>⟨[],m,rfl,trivial,h⟩
 | _::_,_,[],h=>h.elim
 | _::_,_,b::_,h=>by
  obtain⟨m1,m2,e,a,c⟩:=AT.O9 h.2;exact⟨b::m1,m2,by simp[e],⟨h.1,a⟩,c⟩
theorem AT.drop {α β:Type} {R:α->β->Prop}:∀{l:List α} {m:List β} (n:Nat),AT R l m->AT R (l.drop n) (m.drop n)
 | _,_,0,h=>by simpa using h
 | [],[],_+1,_=>trivial
 | _::_,_::_,n+1,h=>by simpa using AT.drop n h.2
 |[],_::_,_,h|_::_,[],_,h=>h.elim
theorem AT.take {α β:Type} {R:α->β->Prop}:∀{l:List α} {m:List β} (n:Nat),AT R l m->AT R (l.take n) (m.take n)
 | _,_,0,_=>by simp[AT]
 | [],[],_+1,_=>trivial
 | _::_,_::_,n+1,h=>by simpa [AT] using ⟨h.1,AT.take n h.2⟩
 |[],_::_,_,h|_::_,[],_,h=>h.elim
theorem IP:∀(cs:List AC) (off n:Nat),EH cs off n=(cs.drop off).take n
 |_,0,_|[],_+1,_=>by simp[EH]
 | _::cs,off+1,n=>by simpa [EH] using IP cs off n
theorem FU:∀(t:T) (x:el t),(cells t x).length=t.size
 |.u8,_|.u32,_|.u64,_|.i8,_|.i64,_|.bool,_|.sl _,_|.str,_|.ex,_|.rf _,_=>rfl
 | .pr a b,x=>by simp[cells,T.size,FU a,FU b]
theorem T.size_pos:∀t:T,0<t.size
 | .pr a b=>by have:=T.size_pos a;simp[T.size];omega
 |.u8|.u32|.u64|.i8|.i64|.bool|.sl _|.str=>Nat.one_pos
 | .ex=>by decide
 | .rf _=>Nat.one_pos
def Mz (w:World) (I:Nat->Prop) (l:List UInt32) (v:Value):Prop:=
 ∃base cap,[v]=[.slice base l.length cap]/\l.length<=cap/\l.length<=140737488355328/\
  (l=[]\/∃b off,base=some ⟨b,off,none⟩/\I b/\∀(i:Nat) (x:UInt32),l[i]? =some x->∃us,us=[Value.int .u32 x.toNat]/\w.rangeAt b (off+i*1) us)
 inductive GQ (w:World) (I:Nat->Prop):Ex->List Value->Prop
  | mk (y:Ex) (a b:Value) (base:Option Addr) (cap:Nat) (p off:Nat) (us:Nat->List Value):Mz w I y.v.1.2 a->Mz w I y.v.2.2 b->
   y.args.length<=cap->y.args.length<=140737488355328->(y.args=[]\/(base=some ⟨p,off,none⟩/\I p))->
   (∀(i:Nat) (x:Ex),y.args[i]? =some x->GQ w I x (us i))->(∀(i:Nat) (x:Ex),y.args[i]? =some x->w.rangeAt p (off+i*7) (us i))->
   GQ w I y [.int .i64 y.op,.bool y.v.1.1,a,.bool y.v.2.1,b,.string y.name,.slice base y.args.length cap]
def rep (w:World) (I:Nat->Prop):(t:T)->el t->List Value->Prop
 | .u8,x,vs=>vs=[.int .u8 x.toNat]
 | .u32,x,vs=>vs=[.int .u32 x.toNat]
 | .u64,x,vs=>vs=[.int .u64 x.toNat]
 | .i8,x,vs=>vs=[.int .i8 x]
 | .i64,x,vs=>vs=[.int .i64 x]
 | .bool,x,vs=>vs=[.bool x]
 | .sl t,l,vs=>∃base cap,vs=[.slice base l.length cap]/\l.length<=cap/\l.length<=140737488355328/\
  (l=[]\/∃b off,base=some ⟨b,off,none⟩/\I b/\∀(i:Nat) (x:el t),l[i]? =some x->∃us,rep w I t x us/\w.rangeAt b (off+i*t.size) us)
 | .pr a b,x,vs=>∃v1 v2,vs=v1++v2/\rep w I a x.1 v1/\rep w I b x.2 v2
 | .str,x,vs=>vs=[.string x]
 | .ex,x,vs=>GQ w I x vs
 | .rf t,x,vs=>∃b o us,vs=[.pointer (some ⟨b,o,none⟩)]/\I b/\rep w I t x us/\w.rangeAt b o us
theorem rangeAt_of_block {w w':World} {b o:Nat} {vs:List Value} (h:w'.heap[b]? =w.heap[b]?) (c:w.rangeAt b o vs):w'.rangeAt b o vs:=
 fun j v d=>(World.cell?_of_block (w:=w) (a:=⟨b,o+j,none⟩) h).trans (c j v d)
theorem GQ.mono {w w':World} {I f:Nat->Prop} (h:∀b,I b->f b/\w'.heap[b]? =w.heap[b]?) {x:Ex} {vs:List Value} (r:GQ w I x vs):GQ w' f x vs:=by
 have m:∀{l:List UInt32} {v:Value},Mz w I l v->Mz w' f l v:=fun⟨base,cap,e,g,j,z⟩=>⟨base,cap,e,g,j,z.imp id fun⟨b,off,t,k,u⟩=>
  ⟨b,off,t,(h b k).1,fun i x d=>let ⟨us,hu,A⟩:=u i x d;⟨us,hu,rangeAt_of_block (h b k).2 A⟩⟩⟩
 induction r with
 | mk y a b base cap p off us g j n o c _ s B=>
  refine .mk y a b base cap p off us (m g) (m j) n o (c.imp id fun q=>⟨q.1,(h p q.2).1⟩) B fun i x d=>?_
  rcases c with c | c
  ·rw[c] at d;simp at d
  exact rangeAt_of_block (h p c.2).2 (s i x d)
theorem By {w w':World} {I j:Nat->Prop} (h:∀b,I b->j b/\w'.heap[b]? =w.heap[b]?):∀(t:T) (x:el t) (vs:List Value),rep w I t x vs->rep w' j t x vs
 |.u8,_,_,c|.u32,_,_,c|.u64,_,_,c|.i8,_,_,c|.i64,_,_,c|.bool,_,_,c=>c
 | .sl t,_,_,⟨base,cap,e,f,g,n⟩=>⟨base,cap,e,f,g,n.imp id fun⟨b,off,l,d,m⟩=>
  ⟨b,off,l,(h b d).1,fun i x p=>let ⟨us,hu,c⟩:=m i x p;⟨us,By h t x us hu,rangeAt_of_block (h b d).2 c⟩⟩⟩
 | .pr a b,x,_,⟨v1,v2,e,f,g⟩=>⟨v1,v2,e,By h a x.1 v1 f,By h b x.2 v2 g⟩
 | .str,_,_,c=>c
 | .ex,_,_,c=>GQ.mono h c
 | .rf t,x,_,⟨b,o,us,e,d,c,k⟩=>⟨b,o,us,e,(h b d).1,By h t x us c,rangeAt_of_block (h b d).2 k⟩
def FD (w:World) (I:Nat->Prop):Prop:=∀g q,GI g=some q->I g/\∃us,rep w I q.1 q.2 us/\w.rangeAt g 0 us
theorem FD.mono {w w':World} {I a:Nat->Prop} (h:∀b,I b->a b/\w'.heap[b]? =w.heap[b]?) (G:FD w I):FD w' a:=fun g q e=>
 let ⟨c,us,d,f⟩:=G g q e
 ⟨(h g c).1,us,By h _ _ _ d,rangeAt_of_block (h g c).2 f⟩
theorem Gf {w:World} {I:Nat->Prop}:∀(t:T) (x:el t) (vs:List Value),rep w I t x vs->vs.length=t.size
 |.u8,_,_,h|.u32,_,_,h|.u64,_,_,h|.i8,_,_,h|.i64,_,_,h|.bool,_,_,h=>by rw[show _=_ from h];rfl
 | .sl _,_,_,⟨_,_,e,_⟩=>by rw[e];rfl
 | .pr a b,x,_,⟨v1,v2,e,c,d⟩=>by rw[e,List.length_append,Gf a x.1 v1 c,Gf b x.2 v2 d];rfl
 | .str,_,_,h=>by rw[show _=_ from h];rfl
 | .ex,_,_,h=>by cases h;rfl
 | .rf _,_,_,⟨_,_,_,e,_⟩=>by rw[e];rfl
theorem Mq {w:World} {I:Nat->Prop}:∀(t:T) (x:el t) (vs:List Value),rep w I t x vs->∀v∈vs,v.oneCell'=true
 |.u8,_,_,h,v,c|.u32,_,_,h,v,c|.u64,_,_,h,v,c|.i8,_,_,h,v,c|.i64,_,_,h,v,c|.bool,_,_,h,v,c=>by rw[show _=_ from h] at c;simp at c;subst c;rfl
 | .sl _,_,_,⟨_,_,e,_⟩,v,c=>by rw[e] at c;simp at c;subst c;rfl
 | .pr a b,x,_,⟨v1,v2,e,d,f⟩,v,c=>by
  rw[e] at c;rcases List.mem_append.1 c with h | h
  ·exact Mq a x.1 v1 d v h
  exact Mq b x.2 v2 f v h
 | .str,_,_,h,v,c=>by rw[show _=_ from h] at c;simp at c;subst c;rfl
 | .rf _,_,_,⟨_,_,_,e,_⟩,v,c=>by rw[e] at c;simp at c;subst c;rfl
 | .ex,_,_,h,v,c=>by
  cases h with
  | mk y a b base cap p off us d f i j k l m=>
   obtain⟨_,_,e1,_⟩:=d;obtain⟨_,_,g,_⟩:=f;simp only[List.cons.injEq,and_true] at e1 g;subst e1 g;simp only[List.mem_cons,List.not_mem_nil,or_false] at c;rcases c with rfl | rfl | rfl | rfl | rfl | rfl | rfl <;> rfl
def Fm (w:World) (o:Option Nat) (n off len:Nat) (full:Bool) (v:Value):Prop:=
 ∃base cap,v= .slice base len cap/\len<=cap/\cap<=maxLen/\(full=true->cap=len)/\
  (cap=0\/∃b arr e,o=some b/\base=some ⟨b,off*n,none⟩/\w.heap[b]? =some (.cells arr e (0,0))/\(off+cap)*n<=arr.size)
structure Cx where
 w:World
 β:Nat->Option Nat
 cv:Nat->Nat
 I:Nat->Prop
 J:Nat->Prop
def Jh (x:Cx) (p:Nat×Nat) (v:Value):Prop:=(v.oneCell'=true/\p.2<=x.cv p.1)/\(p.2=x.cv p.1->∃b,x.β p.1=some b/\v= .pointer (some ⟨b,0,none⟩))
def EV (w:World) (I:Nat->Prop) (q:(t:T)×el t) (v:Value):Prop:=∃b o us,v= .pointer (some ⟨b,o,none⟩)/\I b/\rep w I q.1 q.2 us/\w.rangeAt b o us
theorem EV.mono {w w':World} {I a:Nat->Prop} (h:∀b,I b->a b/\w'.heap[b]? =w.heap[b]?) {q:(t:T)×el t} {v:Value}:EV w I q v->EV w' a q v:=
 fun⟨b,o,us,e,c,f,d⟩=>⟨b,o,us,e,(h b c).1,By h _ _ _ f,rangeAt_of_block (h b c).2 d⟩
def FN (x:Cx) (p:Nat×Nat×Nat) (v:Value):Prop:=(v.oneCell'=true/\p.2.1<=x.cv p.1)/\(p.2.1=x.cv p.1->∃b,x.β p.1=some b/\v= .pointer (some ⟨b,p.2.2,none⟩))
def Ai (x:Cx):AC->Value->Prop
 | .BN,v=>v.oneCell'=true
 | .int k n,v=>v= .int k n
 | .bool b,v=>v= .bool b
 | .fn f,v=>v= .func (.func f) #[] #[]
 | .nil,v=>v= .slice none 0 0
 | .sl t l,v=>rep x.w x.I (.sl t) l [v]
 | .AQ t id AK off len,v=>(v.oneCell'=true/\AK<=x.cv id)/\(AK=x.cv id->Fm x.w (x.β id) t.size off len false v)
 | .Co t id AK off len,v=>(v.oneCell'=true/\AK<=x.cv id)/\(AK=x.cv id->Fm x.w (x.β id) t.size off len true v)
 | .Ae id AK off,v=>(v.oneCell'=true/\AK<=x.cv id)/\(AK=x.cv id->∃b,x.β id=some b/\v= .pointer (some ⟨b,off,none⟩))
 | .Ca t id AK i k,v=>(v.oneCell'=true/\AK<=x.cv id)/\(AK=x.cv id->∃b,x.β id=some b/\v= .pointer (some ⟨b,i*t.size+k,none⟩))
 | .ub e,v=>∃b:Bool,v= .bool b/\(b=true->e=true)
 | .BW t y off,v=>∃b o us,v= .pointer (some ⟨b,o+off,none⟩)/\x.I b/\rep x.w x.I t y us/\x.w.rangeAt b o us
 | .CU f ps,v=>∃us:Array Value,v= .func (.func f) #[] us/\AT (Jh x) ps us.toList
 | .CJ f qs,v=>∃us:Array Value,v= .func (.func f) #[] us/\AT (EV x.w x.I) qs us.toList
 | .str s,v=>v= .string s
 | .Ch ps,v=>∃b off cap us,v= .slice (some ⟨b,off,none⟩) ps.length cap/\ps.length<=cap/\x.J b/\AT (FN x) ps us/\x.w.rangeAt b off us
 | .Cp p,v=>∃b o u,v= .pointer (some ⟨b,o,none⟩)/\x.J b/\FN x p u/\x.w.rangeAt b o [u]
 | .own _ _ _,_=>False
theorem Ai.one {x:Cx}:∀{c:AC} {v:Value},Ai x c v->v.oneCell'=true
 | .BN,_,h=>h
 |.int _ _,_,h|.bool _,_,h|.fn _,_,h|.nil,_,h=>by rw[show _=_ from h];rfl
 | .sl _ _,_,h=>Mq _ _ _ h _ (by simp)
 |.AQ _ _ _ _ _,_,h|.Co _ _ _ _ _,_,h|.Ae _ _ _,_,h|.Ca _ _ _ _ _,_,h=>h.1.1
 |.BW _ _ _,_,⟨_,_,_,e,_⟩|.CU _ _,_,⟨_,e,_⟩|.CJ _ _,_,⟨_,e,_⟩|.ub _,_,⟨_,e,_⟩=>by rw[e];rfl
 | .str _,_,h=>by rw[show _=_ from h];rfl
 |.Ch _,_,⟨_,_,_,_,e,_⟩|.Cp _,_,⟨_,_,_,e,_⟩=>by rw[e];rfl
 | .own _ _ _,_,h=>h.elim
def DP (x:Cx):AV->Value->Prop
 | .one c,v=>c= .BN\/Ai x c v
 | .agg cs,v=>∃arr,v= .agg arr/\AT (Ai x) cs arr.toList
 | .AJ _,_=>False
def BF (x:Cx):AV->Value->Prop
 | .AJ xs,v=>∃arr,v= .tuple arr/\AT (fun y u=>DP x (C2 y) u) xs arr.toList
 | a,v=>DP x a v
def CM (x:Cx) (id:Nat):AG->Prop
 | .dead _=>True
 | .var _ cs=>∃b arr e,x.β id=some b/\x.w.heap[b]? =some (.cells arr e (0,0))/\AT (Ai x) cs arr.toList
 | .arr _ t l=>(x.β id=none/\l=[])\/∃b arr e,x.β id=some b/\x.w.heap[b]? =some (.cells arr e (0,0))/\
  ∀(i:Nat) (y:el t),l[i]? =some y->∃us,rep x.w x.I t y us/\x.w.rangeAt b (i*t.size) us
structure Cx.le (x y:Cx):Prop where
 cv:∀id,x.cv id<=y.cv id
 β:∀id,y.cv id=x.cv id->y.β id=x.β id
 size:∀id b arr e,y.cv id=x.cv id->x.β id=some b->x.w.heap[b]? =some (.cells arr e (0,0))->∃arr',y.w.heap[b]? =some (.cells arr' e (0,0))/\arr'.size=arr.size
 I:∀b,x.I b->y.I b/\y.w.heap[b]? =x.w.heap[b]?
 J:∀b,x.J b->y.J b/\y.w.heap[b]? =x.w.heap[b]?
theorem Fm.mono {x y:Cx} (h:x.le y) {id n off len:Nat} {f:Bool} {v:Value} (g:y.cv id=x.cv id) (p:Fm x.w (x.β id) n off len f v):Fm y.w (y.β id) n off len f v:=by
 obtain⟨base,cap,e,i,j,m,k⟩:=p;refine⟨base,cap,e,i,j,m,k.imp (fun q=>q) fun⟨b,arr,e',d,a,o,s⟩=>?_⟩;obtain⟨c,l,r⟩:=h.size id b arr e' g d o;exact⟨b,c,e',(h.β id g).trans d,a,l,by omega⟩
theorem FN.mono {x y:Cx} (h:x.le y) {p:Nat×Nat×Nat} {v:Value} (q:FN x p v):FN y p v:=⟨⟨q.1.1,Nat.le_trans q.1.2 (h.cv p.1)⟩,fun e=>by
 have:=h.cv p.1;have e1:p.2.1=x.cv p.1:=by have:=q.1.2;omega
 obtain⟨b,a,c⟩:=q.2 e1;exact⟨b,(h.β p.1 (e ▸ e1)).trans a,c⟩⟩
theorem Ai.mono {x y:Cx} (h:x.le y):∀{c:AC} {v:Value},Ai x c v->Ai y c v
 |.BN,_,r|.int _ _,_,r|.bool _,_,r|.fn _,_,r|.nil,_,r=>r
 | .sl _ _,_,r=>By h.I _ _ _ r
 | .AQ _ id v _ _,_,r=>⟨⟨r.1.1,Nat.le_trans r.1.2 (h.cv id)⟩,fun e=>by
  have:=h.cv id;have e1:v=x.cv id:=by have:=r.1.2;omega
  exact Fm.mono h (e ▸ e1) (r.2 e1)⟩
 | .Co _ id v _ _,_,r=>⟨⟨r.1.1,Nat.le_trans r.1.2 (h.cv id)⟩,fun e=>by
  have:=h.cv id;have e1:v=x.cv id:=by have:=r.1.2;omega
  exact Fm.mono h (e ▸ e1) (r.2 e1)⟩
 | .Ae id v _,_,r=>⟨⟨r.1.1,Nat.le_trans r.1.2 (h.cv id)⟩,fun e=>by
  have:=h.cv id;have e1:v=x.cv id:=by have:=r.1.2;omega
  obtain⟨b,d,g⟩:=r.2 e1;exact⟨b,(h.β id (e ▸ e1)).trans d,g⟩⟩
 | .Ca _ id v _ _,_,r=>⟨⟨r.1.1,Nat.le_trans r.1.2 (h.cv id)⟩,fun e=>by
  have:=h.cv id;have e1:v=x.cv id:=by have:=r.1.2;omega
  obtain⟨b,d,g⟩:=r.2 e1;exact⟨b,(h.β id (e ▸ e1)).trans d,g⟩⟩
 | .ub _,_,h=>h
 | .BW t l _,_,⟨b,o,us,e,a,f,j⟩=>⟨b,o,us,e,(h.I b a).1,By h.I t l us f,rangeAt_of_block (h.I b a).2 j⟩
 | .CU _ _,_,⟨us,e,r⟩=>⟨us,e,r.mono fun p u q=>⟨⟨q.1.1,Nat.le_trans q.1.2 (h.cv p.1)⟩,fun e=>by
  have:=h.cv p.1;have e1:p.2=x.cv p.1:=by have:=q.1.2;omega
  obtain⟨b,d,g⟩:=q.2 e1;exact⟨b,(h.β p.1 (e ▸ e1)).trans d,g⟩⟩⟩
 | .CJ _ _,_,⟨us,e,r⟩=>⟨us,e,r.mono fun _ _=>EV.mono h.I⟩
 | .str _,_,r=>r
 | .Ch _,_,⟨b,o,c,us,e,k,a,i,f⟩=>⟨b,o,c,us,e,k,(h.J b a).1,i.mono fun _ _=>FN.mono h,rangeAt_of_block (h.J b a).2 f⟩
 | .Cp _,_,⟨b,o,u,e,a,i,f⟩=>⟨b,o,u,e,(h.J b a).1,FN.mono h i,rangeAt_of_block (h.J b a).2 f⟩
 | .own _ _ _,_,r=>r.elim
theorem DP.mono {x y:Cx} (h:x.le y):∀{a:AV} {v:Value},DP x a v->DP y a v
 | .one _,_,r=>r.imp (fun q=>q) (Ai.mono h)
 | .agg _,_,⟨arr,e,r⟩=>⟨arr,e,r.mono fun _ _=>Ai.mono h⟩
 | .AJ _,_,r=>r.elim
theorem BF.mono {x y:Cx} (h:x.le y):∀{a:AV} {v:Value},BF x a v->BF y a v
 | .one c,v,r=>DP.mono h (a:= .one c) r
 | .agg cs,v,r=>DP.mono h (a:= .agg cs) r
 | .AJ _,_,⟨arr,e,r⟩=>⟨arr,e,r.mono fun _ _=>DP.mono h⟩
theorem EF (x:Cx):∀(t:T) (y:el t) (vs:List Value),rep x.w x.I t y vs↔AT (Ai x) (cells t y) vs
 | .u8,y,vs=>one x (.int .u8 y.toNat) _ vs fun _=>Iff.rfl
 | .u32,y,vs=>one x (.int .u32 y.toNat) _ vs fun _=>Iff.rfl
 | .u64,y,vs=>one x (.int .u64 y.toNat) _ vs fun _=>Iff.rfl
 | .i8,y,vs=>one x (.int .i8 y) _ vs fun _=>Iff.rfl
 | .i64,y,vs=>one x (.int .i64 y) _ vs fun _=>Iff.rfl
 | .bool,y,vs=>one x (.bool y) _ vs fun _=>Iff.rfl
 | .str,y,vs=>one x (.str y) _ vs fun _=>Iff.rfl
 | .rf t,y,vs=>by
  constructor
  ·rintro⟨b,o,us,rfl,s,B,A⟩
   exact⟨⟨b,o,us,rfl,s,B,A⟩,trivial⟩
  intro h
  match vs,h with
  | [v],⟨⟨b,o,us,e,s,B,A⟩,_⟩=>exact⟨b,o,us,by rw[e];rfl,s,B,A⟩
 | .ex,y,vs=>by
  constructor
  ·intro h;cases h with
   | mk _ a b base cap p off us f g n r j H J=>
    exact⟨rfl,rfl,f,rfl,g,rfl,⟨base,cap,rfl,n,r,j.imp id fun q=>⟨p,off,q.1,q.2,fun i x F=>⟨us i,H i x F,J i x F⟩⟩⟩,trivial⟩
  intro h
  match vs,h with
  | [_,_,a,_,b,_,c],⟨e1,k,f,l,g,m,⟨base,cap,C,n,r,j⟩,_⟩=>
   have e1:_=_:=e1;have k:_=_:=k;have l:_=_:=l;have m:_=_:=m;simp only[List.cons.injEq,and_true] at C;subst e1 k l m C
   have key:∃(p off:Nat) (us:Nat->List Value),(y.args=[]\/(base=some ⟨p,off,none⟩/\x.I p))/\∀(i:Nat) (z:Ex),y.args[i]? =some z->GQ x.w x.I z (us i)/\x.w.rangeAt p (off+i*7) (us i):=by
    rcases j with j |⟨p,off,g1,g2,G⟩
    ·exact⟨0,0,fun _=>[],.inl j,fun i z d=>by rw[j] at d;simp at d⟩
    have D:∀i,∃us,∀z,y.args[i]? =some z->GQ x.w x.I z us/\x.w.rangeAt p (off+i*7) us:=fun i=>by
     cases d:y.args[i]? with
     | none=>exact⟨[],fun z e=>by cases e⟩
     | some z=>obtain⟨us,q⟩:=G i z d;exact⟨us,fun L e=>by cases e;exact q⟩
    exact⟨p,off,fun i=>Classical.choose (D i),.inr ⟨g1,g2⟩,fun i z d=>Classical.choose_spec (D i) z d⟩
   obtain⟨p,off,us,g1,g2⟩:=key;exact .mk y a b base cap p off us f g n r g1 (fun i z d=>(g2 i z d).1) fun i z d=>(g2 i z d).2
 | .sl t,y,vs=>by
  match vs with
  | []=>exact⟨fun⟨_,_,e,_⟩=>by simp at e,fun h=>h.elim⟩
  | [v]=>exact⟨fun h=>⟨h,trivial⟩,fun h=>h.1⟩
  | _::_::_=>exact⟨fun⟨_,_,e,_⟩=>by simp at e,fun h=>h.2.elim⟩
 | .pr a b,y,vs=>by
  constructor
  ·rintro⟨v1,v2,rfl,f,g⟩
   exact ((EF x a y.1 v1).1 f).append ((EF x b y.2 v2).1 g)
  intro h;obtain⟨m1,m2,e,f,g⟩:=AT.O9 h;exact⟨m1,m2,e,(EF x a y.1 m1).2 f,(EF x b y.2 m2).2 g⟩
where
 one (x:Cx) (c:AC) (u:Value) (vs:List Value) (h:∀v,Ai x c v↔v=u):vs=[u]↔AT (Ai x) [c] vs:=by
  match vs with
  | []=>exact⟨fun e=>by simp at e,fun h=>h.elim⟩
  | [v]=>exact⟨fun e=>⟨(h v).2 (by simpa using e),trivial⟩,fun K=>by rw[(h v).1 K.1]⟩
  | _::_::_=>exact⟨fun e=>by simp at e,fun h=>h.2.elim⟩
theorem CM.mono {x y:Cx} (h:x.le y) {id:Nat} {b:AG} (g:y.cv id=x.cv id) (f:∀k,x.β id=some k->y.w.heap[k]? =x.w.heap[k]?) (r:CM x id b):CM y id b:=by
 cases b with
 | dead _=>trivial
 | var _ cs=>
  obtain⟨b,arr,e,a,c,d⟩:=r;exact⟨b,arr,e,(h.β id g).trans a,(f b a).trans c,d.mono fun _ _=>Ai.mono h⟩
 | arr _ t l=>
  refine r.imp (fun q=>⟨(h.β id g).trans q.1,q.2⟩) fun⟨b,arr,e,a,c,d⟩=>?_
  refine⟨b,arr,e,(h.β id g).trans a,(f b a).trans c,fun i j n=>?_⟩;obtain⟨us,hu,m⟩:=d i j n;exact⟨us,By h.I t j us hu,rangeAt_of_block (f b a) m⟩
end Go.Abs
