/- Part 2 of a proof. Conditions: each theorem's own. -/
import Derived.WalkKit
import Derived.Deep.MidRow
import Derived.ArgAppend
set_option linter.all false
set_option maxHeartbeats 80000000
set_option maxRecDepth 20000
namespace Go.Abs
 inductive T
  | u8 | u32 | u64 | i8 | i64 | bool | sl (t:T) | pr (a b:T)
  | str | ex | rf (t:T)
 inductive Ex
  | mk (op:Int) (v:(Bool×List UInt32)×(Bool×List UInt32)) (name:ByteArray) (args:List Ex)
def Ex.op:Ex->Int
 | .mk o _ _ _=>o
def Ex.v:Ex->(Bool×List UInt32)×(Bool×List UInt32)
 | .mk _ v _ _=>v
def Ex.name:Ex->ByteArray
 | .mk _ _ s _=>s
def Ex.args:Ex->List Ex
 | .mk _ _ _ l=>l
abbrev el:T->Type
 | .u8=>UInt8 | .u32=>UInt32 | .u64=>UInt64 | .i8=>Int | .i64=>Int | .bool=>Bool
 | .sl t=>List (el t) | .pr a b=>el a×el b
 | .str=>ByteArray | .ex=>Ex | .rf t=>el t
def T.size:T->Nat
 | .pr a b=>a.size+b.size
 | .ex=>7
 | _=>1
def T.beq:T->T->Bool
 | .u8,.u8=>true | .u32,.u32=>true | .u64,.u64=>true | .i8,.i8=>true | .i64,.i64=>true | .bool,.bool=>true
 | .sl a,.sl b=>a.beq b
 | .pr a b,.pr c d=>a.beq c&&b.beq d
 |.str,.str|.ex,.ex=>true
 | .rf a,.rf b=>a.beq b
 | _,_=>false
def T.agg:T->Bool
 |.pr _ _|.ex=>true
 | _=>false
 inductive AC
  | B7 | int (k:IntKind) (n:Int) | bool (b:Bool) | fn (f:FuncId) | nil
  | sl (t:T) (l:List (el t))
  | AZ (t:T) (id BE off len:Nat)
  | Ma (t:T) (id BE off len:Nat)
  | AR (id BE off:Nat)
  | Hk (t:T) (id BE i k:Nat)
  | Co (t:T) (x:el t) (off:Nat)
  | ub (e:Bool)
  | own (t:T) (l:List (el t)) (n:Nat)
  | Gt (f:FuncId) (ps:List (Nat×Nat))
  | Ed (f:FuncId) (qs:List ((t:T)×el t))
  | str (s:ByteArray)
  | JN (ps:List (Nat×Nat×Nat))
  | KJ (p:Nat×Nat×Nat)
 inductive AV
  | one (c:AC) | agg (cs:List AC) | AI (xs:List (Bool×List AC))
 inductive Af
  | var (BE:Nat) (cs:List AC)
  | arr (BE:Nat) (t:T) (l:List (el t))
  | dead (BE:Nat)
def Af.BE:Af->Nat
 | .var v _=>v | .arr v _ _=>v | .dead v=>v
def cells:(t:T)->el t->List AC
 | .u8,x=>[.int .u8 x.toNat]
 | .u32,x=>[.int .u32 x.toNat]
 | .u64,x=>[.int .u64 x.toNat]
 | .i8,x=>[.int .i8 x]
 | .i64,x=>[.int .i64 x]
 | .bool,x=>[.bool x]
 | .sl t,l=>[.sl t l]
 | .pr a b,x=>cells a x.1++cells b x.2
 | .str,x=>[.str x]
 | .rf t,x=>[.Co t x 0]
 | .ex,x=>[.int .i64 x.op,.bool x.v.1.1,.sl .u32 x.v.1.2,.bool x.v.2.1,.sl .u32 x.v.2.2,.str x.name,.sl .ex x.args]
structure DP (n:Int) (k:Nat):Prop where
 eq:n=k
 le:k<=140737488355328
structure AO (n:Int) (k:Nat):Prop where
 eq:n=k
structure N3 (n:Int) (x:UInt8):Prop where
 eq:n=x.toNat
structure MA (n:Int) (x:UInt32):Prop where
 eq:n=x.toNat
structure dv (n:Int) (x:UInt64):Prop where
 eq:n=x.toNat
def Ko:(t:T)->el t->(List AC->Prop)->Prop
 | .u8,x,K=>∀n,N3 n x->K [.int .u8 n]
 | .u32,x,K=>∀n,MA n x->K [.int .u32 n]
 | .u64,x,K=>∀n,dv n x->K [.int .u64 n]
 | .i8,x,K=>K [.int .i8 x]
 | .i64,x,K=>K [.int .i64 x]
 | .bool,x,K=>K [.bool x]
 | .sl t,l,K=>K [.sl t l]
 | .pr a b,x,K=>Ko a x.1 fun l=>Ko b x.2 fun m=>K (l++m)
 | .str,x,K=>K [.str x]
 | .rf t,x,K=>K [.Co t x 0]
 | .ex,x,K=>K [.int .i64 x.op,.bool x.v.1.1,.sl .u32 x.v.1.2,.bool x.v.2.1,.sl .u32 x.v.2.2,.str x.name,.sl .ex x.args]
theorem OZ:∀(t:T) (x:el t) (K:List AC->Prop),Ko t x K↔K (cells t x)
 |.u8,x,K|.u32,x,K|.u64,x,K=>⟨fun h=>h _ ⟨rfl⟩,fun h n d=>by rw[d.eq];exact h⟩
 |.i8,_,_|.i64,_,_|.bool,_,_|.sl _,_,_|.str,_,_|.ex,_,_|.rf _,_,_=>Iff.rfl
 | .pr a b,x,K=>by
  show Ko a x.1 _↔_
  rw[OZ a x.1,OZ b x.2]
  rfl
def FR:Bool×List AC->AV
 | (true,cs)=> .agg cs
 | (false,c::_)=> .one c
 | (false,[])=> .one .B7
def AV.cs:AV->List AC
 | .one c=>[c]
 | .agg cs=>cs
 | .AI _=>[]
def AV.full:AV->Bool
 | .one .B7=>false
 |.one _|.agg _=>true
 | .AI _=>false
def AV.comp:AV->Bool×List AC
 | .one c=>(false,[c])
 | .agg cs=>(true,cs)
 | .AI _=>(false,[])
def comp (t:T) (x:el t):Bool×List AC:=(t.agg,cells t x)
def V5 (t:T) (x:el t):AV:=FR (comp t x)
structure St where
 sl:List AV
 bk:List (Option Af)
def nth:List AV->Nat->AV
 | [],_=> .one .B7
 | a::_,0=>a
 | _::l,n+1=>nth l n
def AN:List (Option Af)->Nat->Option Af
 | [],_=>none
 | a::_,0=>a
 | _::l,n+1=>AN l n
def C2 {α:Type}:List α->Nat->α->List α
 | [],_,_=>[]
 | _::l,0,x=>x::l
 | a::l,n+1,x=>a::C2 l n x
def BE (bk:Nat->Option Af) (id:Nat):Nat:=
 match bk id with
 | some b=>b.BE
 | none=>0
structure Info where
 known:Bool:=true
 size:Nat:=1
 agg:Bool:=false
 zero:List AC:=[]
 kind:Option IntKind:=none
 IV:Bool:=false
 Gy:Bool:=false
 pt:Bool:=false
 arr:Option (Nat×Nat×Bool):=none
 sl:Bool:=false
 C1:TypeId:=0
 elem:T:= .bool
 CB:el elem
 EA:Nat:=0
 fields:List (Nat×Nat×Bool):=[]
def RZ:Value->AV
 | .int k n=> .one (.int k n)
 | .bool b=> .one (.bool b)
 | .slice none 0 0=> .one .nil
 | .string s=> .one (.str s)
 | _=> .one .B7
def GI:Nat->Option ((t:T)×el t)
 | 0=>some ⟨.pr .i64 (.pr .i64 (.pr .i64 .i64)),(1,0,3,2)⟩
 | _=>none
def ev (s:List AV):Operand->AV
 | .tmp t=>nth s t
 | .const v=>RZ v
 | .func f=> .one (.fn f)
 | .global g=>match GI g with
  | some q=> .one (.Co q.1 q.2 0)
  | none=> .one .B7
structure DD where
 v:AV
 ws:List (Nat×Af):=[]
 rd:List Nat:=[]
def Du (n:Int):Prop:= -9223372036854775808<=n/\n<9223372036854775808
def fits (n b:Nat):Prop:=n*b<=140737488355328
def arith (op:BinOp) (k:IntKind) (a b:Int) (K:AC->Prop):Prop:=
 match op,k with
 | .add,.i64=>∀c,c=a+b->(Unit->Du c)/\K (.int .i64 c)
 | .sub,.i64=>∀c,c=a-b->(Unit->Du c)/\K (.int .i64 c)
 | .mul,.i64=>∀c,c=a*b->(Unit->Du c)/\K (.int .i64 c)
 | .quo,.i64=>∀c,c=a/b->(Unit->0<=a/\0<b/\Du c)/\K (.int .i64 c)
 | .rem,.i64=>∀c,c=a%b->(Unit->0<=a/\0<b)/\K (.int .i64 c)
 | .add,k=>∀c,c=k.wrap (a+b)->K (.int k c)
 | .sub,k=>∀c,c=k.wrap (a-b)->K (.int k c)
 | .mul,k=>∀c,c=k.wrap (a*b)->K (.int k c)
 | .quo,k=>∀c,c=k.wrap (a/b)->(Unit->0<=a/\0<b)/\K (.int k c)
 | .rem,k=>∀c,c=a%b->(Unit->0<=a/\0<b)/\K (.int k c)
 | .and,k=>∀c,c=k.wrap (BitVec.ofInt k.bits a &&& BitVec.ofInt k.bits b).toNat->K (.int k c)
 | .or,k=>∀c,c=k.wrap (BitVec.ofInt k.bits a ||| BitVec.ofInt k.bits b).toNat->K (.int k c)
 | .xor,k=>∀c,c=k.wrap (BitVec.ofInt k.bits a ^^^ BitVec.ofInt k.bits b).toNat->K (.int k c)
 | .andNot,k=>∀c,c=k.wrap (BitVec.ofInt k.bits a &&& ~~~ BitVec.ofInt k.bits b).toNat->K (.int k c)
 | .shl,k=>∀c,c=k.wrap (a*2^min b.toNat k.bits)->(Unit->0<=b)/\K (.int k c)
 | .shr,k=>∀c,c=a.fdiv (2^min b.toNat k.bits)->(Unit->0<=b)/\K (.int k c)
 | .eql,_=>∀c,c=(a==b)->K (.bool c)
 | .neq,_=>∀c,c=(a !=b)->K (.bool c)
 | .lss,_=>∀c,c=decide (a<b)->K (.bool c)
 | .leq,_=>∀c,c=decide (a<=b)->K (.bool c)
 | .gtr,_=>∀c,c=decide (a>b)->K (.bool c)
 | .geq,_=>∀c,c=decide (a >= b)->K (.bool c)
def Eh (cs:List AC):Nat->Nat->List AC
 | 0,n=>cs.take n
 | off+1,n=>match cs with
  | []=>[]
  | _::cs=>Eh cs off n
def DA {α:Type}:List α->Nat->List α->List α
 | cs,0,[]=>cs
 | [],0,_::_=>[]
 | _::cs,0,x::xs=>x::DA cs 0 xs
 | [],_+1,_=>[]
 | c::cs,off+1,xs=>c::DA cs off xs
def ld (i:Info) (cs:List AC) (off:Nat):AV:=FR (i.agg,Eh cs off i.size)
def NX (bk:Nat->Option Af):List (Nat×Nat)->List ((t:T)×el t)->Prop
 | [],[]=>True
 | p::r,q::m=>bk p.1=some (.var p.2 (cells q.1 q.2))/\NX bk r m
 | _,_=>False
def Gi (bk:Nat->Option Af):AC->AC->Prop
 | .AZ t id v off len,c=>∃l,bk id=some (.arr v t l)/\off+len<=l.length/\c= .sl t ((l.drop off).take len)
 | .nil,c=>c= .nil\/∃t,c= .sl t []
 | .int k n,c=>c= .int k n
 | .bool b,c=>c= .bool b
 | .fn f,c=>c= .fn f
 | .sl t l,c=>c= .sl t l
 | .Gt f ps,c=>(∃qs,NX bk ps qs/\c= .Ed f qs)\/c= .B7
 | .AR id v off,c=>off=0/\∃(t:T) (x:el t),bk id=some (.var v (cells t x))/\c= .Co t x 0
 | .str s,c=>c= .str s
 | .Ed f qs,c=>c= .Ed f qs
 | _,_=>False
def BV:AC->AC->Prop
 | .nil,c=>c= .nil\/∃t,c= .sl t []
 | .int k n,c=>c= .int k n
 | .bool b,c=>c= .bool b
 | .fn f,c=>c= .fn f
 | .sl t l,c=>c= .sl t l
 | .Co t y o,c=>c= .Co t y o
 | .str s,c=>c= .str s
 | .Ed f qs,c=>c= .Ed f qs
 | _,_=>False
def BR (R:AC->AC->Prop):List AC->List AC->Prop
 | [],[]=>True
 | a::l,b::m=>R a b/\BR R l m
 | _,_=>False
def leV (R:AC->AC->Prop):AV->AV->Prop
 | .one a,.one b=>R a b
 | .agg l,.agg m=>BR R l m
 | _,_=>False
def En (R:AC->AC->Prop):List AV->List AV->Prop
 | [],[]=>True
 | a::l,b::m=>leV R a b/\En R l m
 | _,_=>False
def Cj:AC->List Nat
 | .AZ _ id _ _ _=>[id]
 | .Gt _ ps=>ps.map (·.1)
 | .AR id _ _=>[id]
 | _=>[]
def Ck:List AV->List Nat
 | []=>[]
 | .one c::r=>Cj c++Ck r
 | .agg cs::r=>cs.flatMap Cj++Ck r
 | .AI _::r=>Ck r
def Xd (d v:Nat):AC->AC
 | .own t _ n=> .AZ t d v 0 n
 | c=>c
def AV.map (g:AC->AC):AV->AV
 | .one c=> .one (g c)
 | .agg cs=> .agg (cs.map g)
 | .AI xs=> .AI (xs.map fun x=>(x.1,x.2.map g))
def LC (d v:Nat):AV->AV:= .map (Xd d v)
def NH (d v:Nat):List AC->List (Nat×Af)
 | []=>[]
 | .own t l _::_=>[(d,.arr v t l)]
 | _::r=>NH d v r
def AV.cells:AV->List AC
 | .one c=>[c]
 | .agg cs=>cs
 | .AI xs=>xs.flatMap (·.2)
def KF (d v:Nat) (r:AV):List (Nat×Af):=NH d v r.cells
abbrev Con:=Bool->FuncId->List AV->AV->Prop
abbrev ca:=FuncId->AC->Af->List AV->AV->Af->Prop
abbrev cb:=FuncId->List AV->Af->AV->Prop
abbrev cg:=FuncId->List AV->Af->AV->Af->Prop
structure Env where
 C:Con
 B:ca
 D:cb
 W:cg
def Hr (id v:Nat):AC->AC->Prop
 | .AZ t i w off len,c=>(i=id/\w=v)/\c= .AZ t 0 0 off len
 | .AR i w off,c=>(i=id/\w=v)/\c= .AR 0 0 off
 | .nil,c=>c= .nil\/∃t,c= .sl t []
 | .int k n,c=>c= .int k n
 | .bool b,c=>c= .bool b
 | .fn f,c=>c= .fn f
 | .sl t l,c=>c= .sl t l
 | .str s,c=>c= .str s
 | _,_=>False
def PI (bk:Nat->Option Af) (id v:Nat):AC->AC->Prop
 | .AR i w off,c=>Hr id v (.AR i w off) c\/((i≠id/\off=0)/\∃o,bk i=some (.var w [.AR id v o])/\c= .KJ (0,0,o))
 | c,d=>Hr id v c d
def gq (bk:Nat->Option Af) (l2:List Nat) (p:Nat×Nat):((t:T)×el t)->Prop
 |⟨.rf t,x⟩=>∃id v,id∈l2/\bk p.1=some (.var p.2 [.AR id v 0])/\bk id=some (.var v (cells t x))
 | q=>bk p.1=some (.var p.2 (cells q.1 q.2))
def NY (bk:Nat->Option Af) (l2:List Nat):List (Nat×Nat)->List ((t:T)×el t)->Prop
 | [],[]=>True
 | p::r,q::m=>gq bk l2 p q/\NY bk l2 r m
 | _,_=>False
def Th (bk:Nat->Option Af) (l2:List Nat):AC->AC->Prop
 | .Gt f ps,c=>∃qs,NY bk l2 ps qs/\c= .Ed f qs
 | c,d=>Gi bk c d
def Hl (places:List (Nat×Nat×Bool)) (e:Operand->AV):List (Nat×Operand)->List AC->Option (List AC)
 | [],cs=>some cs
 | (i,x)::r,cs=>match places[i]? with
  | some (off,n,_)=>if (e x).cs.length=n/\(e x).full=true/\off+n<=cs.length then Hl places e r (DA cs off (e x).cs) else none
  | none=>none
def TH (id v:Nat):AC->AC
 | .AZ t _ _ off len=> .AZ t id v off len
 | .AR _ _ off=> .AR id v off
 | .Hk t _ _ i k=> .Hk t id v i k
 | c=>c
def nR (id v:Nat):AV->AV:= .map (TH id v)
def Af.EI (v:Nat):Af->Af
 | .var _ cs=> .var v cs
 | .arr _ t l=> .arr v t l
 | .dead _=> .dead v
def nP:AC->Option (Nat×Nat)
 |.AZ _ id v _ _|.AR id v _=>some (id,v)
 | _=>none
def T.flat:T->Bool
 | .sl _=>false
 | .pr a b=>a.flat&&b.flat
 |.ex|.rf _=>false
 | _=>true
def jU:Af->Bool
 | .arr _ t _=>t.flat
 | _=>false
def IW:AC->Bool
 |.int _ _|.bool _|.fn _|.nil|.AZ _ 0 0 _ _|.str _=>true
 | _=>false
def AV.all (p:AC->Bool):AV->Bool
 | .one c=>p c
 | .agg cs=>cs.all p
 | .AI xs=>xs.all fun x=>x.2.all p
def DS:AC->Bool
 | .B7=>true | .int _ _=>true | .bool _=>true | .fn _=>true | .nil=>true | .sl _ _=>true
 | .Co _ _ _=>true | .Ed _ _=>true
 | .str _=>true
 | _=>false
def MI (E:Env) (g:FuncId) (args:List AV) (d:Nat) (bk:Nat->Option Af) (K:DD->Prop):Prop:=
 (∃args' r,(Unit->En BV args args')/\(Unit->E.C false g args' r)/\
  K ⟨LC d (BE bk d+1) r,KF d (BE bk d+1) r,[d]⟩)\/
 (∃args' r,(Unit->En (Gi bk) args args')/\(Unit->E.C true g args' r)/\
  K ⟨LC d (BE bk d+1) r,KF d (BE bk d+1) r,d::Ck args⟩)\/
 (match args with
  | .one c::rest=>match nP c with
   | some (id,v)=>match bk id with
    | some b=>if b.BE=v then ∃args' r b1,(Unit->id ∉ Ck rest/\En (Gi bk) rest args')/\(Unit->E.B g (TH 0 0 c) (b.EI 0) args' r b1/\jU b1=true/\r.all IW=true)/\
     K ⟨nR id v r,[(id,b1.EI v)],id::Ck rest⟩ else False
    | none=>False
   | none=>False
  | _=>False)\/
 (∃(id:Nat) (b:Af) (args':List AV) (r:AV),(Unit->bk id=some b/\En (Hr id b.BE) args args')/\(Unit->E.D g args' (b.EI 0) r)/\K ⟨r,[],[id]⟩)\/
 (∃(id:Nat) (b:Af) (args':List AV) (r:AV),(Unit->(id≠0/\bk id=some b/\((Ck args).all fun k=>k==id)=true)/\En (Gi bk) args args')/\(Unit->E.C false g args' r/\r.all DS=true)/\K ⟨r,[(id,.dead b.BE)],[id]⟩)
 \/False
 \/(∃(id:Nat) (b:Af) (args':List AV) (r:AV) (b1:Af),(Unit->bk id=some b/\En (Hr id b.BE) args args')/\(Unit->E.W g args' (b.EI 0) r b1)/\K ⟨r,[(id,b1.EI b.BE)],[id]⟩)
 \/(∃(l2:List Nat) (args':List AV) (r:AV),(Unit->En (Th bk l2) args args')/\(Unit->E.C true g args' r)/\K ⟨LC d (BE bk d+1) r,KF d (BE bk d+1) r,d::(Ck args++l2)⟩)
 \/(∃(id:Nat) (b:Af) (args':List AV) (r:AV) (b1:Af),(Unit->bk id=some b/\En (PI bk id b.BE) args args')/\(Unit->E.W g args' (b.EI 0) r b1)/\K ⟨r,[(id,b1.EI b.BE)],id::Ck args⟩)
def HD (TI:TypeId->Info) (b:Builtin) (tys:List TypeId) (args:List AV) (d:Nat) (bk:Nat->Option Af) (K:DD->Prop):Prop:=
 match b,tys,args with
 | .len,[t0],[.one (.sl _ l)]=>(TI t0).sl=true/\∀n,DP n l.length->K ⟨.one (.int .i64 n),[],[]⟩
 |.len,[t0],[.one (.Ma _ id v _ len)]|.len,[t0],[.one (.AZ _ id v _ len)]=>(TI t0).sl=true/\if BE bk id=v then ∀n,AO n len->K ⟨.one (.int .i64 n),[],[id]⟩ else False
 | .len,[t0],[.one .nil]=>(TI t0).sl=true/\K ⟨.one (.int .i64 0),[],[]⟩
 | .len,[t0],[.one (.JN ps)]=>(TI t0).pt=true/\∀n,AO n ps.length->K ⟨.one (.int .i64 n),[],[]⟩
 | .len,[t0],[.one (.str s)]=>(TI t0).Gy=true/\∀n,AO n s.size->K ⟨.one (.int .i64 n),[],[]⟩
 | .cap,[t0],[.one .nil]=>(TI t0).sl=true/\K ⟨.one (.int .i64 0),[],[]⟩
 | .min,_,[.one (.int k a),.one (.int _ b)]=>∀c,c=(if b<a then b else a)->K ⟨.one (.int k c),[],[]⟩
 | .max,_,[.one (.int k a),.one (.int _ b)]=>∀c,c=(if b>a then b else a)->K ⟨.one (.int k c),[],[]⟩
 | .append,[t0,t1],[.one .nil,.one x]=>
  ((TI t0).sl=true/\(TI t1).sl=true)/\∃l2:List (el (TI t0).elem),(Unit->Gi bk x (.sl _ l2)/\fits l2.length (TI t0).EA)/\
    ∀n,n=l2.length->K ⟨.one (.AZ (TI t0).elem d (BE bk d+1) 0 n),[(d,.arr (BE bk d+1) _ l2)],d::Cj x⟩
 | .append,[t0,t1],[.one (.Ma t id v off len),.one x]=>
  ((TI t0).sl=true/\(TI t1).sl=true)/\match bk id with
    | some (.arr v' t' l)=>if v'=v/\T.beq t' t=true/\T.beq t' (TI t0).elem=true then
     ∃l2:List (el t'),(Unit->off=0/\len<=l.length/\Gi bk x (.sl _ l2)/\fits (len+l2.length) (TI t0).EA)/\
      ∀l' n,(l'=l.take len++l2/\n=l'.length)->K ⟨.one (.AZ t' id (v+1) 0 n),[(id,.arr (v+1) t' l')],id::Cj x⟩
     else False
    | _=>False
 | .append,[t0,t1],[.one (.AZ t id v off len),.one x]=>
  ((TI t0).sl=true/\(TI t1).sl=true)/\match bk id with
    | some (.arr v' t' l)=>if v'=v/\T.beq t' t=true/\T.beq t' (TI t0).elem=true then
     ∃l2:List (el t'),(Unit->off=0/\len=l.length/\Gi bk x (.sl _ l2)/\fits (l.length+l2.length) (TI t0).EA)/\
      ∀l' n,(l'=l++l2/\n=l'.length)->K ⟨.one (.AZ t' id (v+1) 0 n),[(id,.arr (v+1) t' l')],id::Cj x⟩
     else False
    | _=>False
 | _,_,_=>False
def Li (K:DD->Prop) (f:DD):Prop:=
 match f.v,f.ws with
 | .one (.AZ t id v off n),[(i,.arr v' t' l)]=>if (id !=0&&id==i&&v==v'&&off==0&&T.beq t t')=true then (Unit->n=l.length)/\K ⟨.one (.sl t' l),[(id,.dead v)],f.rd⟩ else False
 | _,_=>False
def OB (TI:TypeId->Info) (b:Builtin) (tys:List TypeId) (args:List AV) (d:Nat) (bk:Nat->Option Af) (K:DD->Prop):Prop:=
 match b with
 | .append=>HD TI b tys args d bk K\/HD TI b tys args d bk (Li K)\/False
 | _=>HD TI b tys args d bk K
def Qw:List (Nat×List AC)->Nat->List (List AC)->Prop
 | [],_,[]=>True
 | p::r,k,x::m=>p.1=k/\BR BV p.2 x/\Qw r (k+1) m
 | _,_,_=>False
def IF (len:Nat) (lo hi mx:Option AV) (K:Nat->Nat->Bool->Prop):Prop:=
 match lo,hi,mx with
 | none,none,none=>∀h,h=len->K 0 h false
 | some (.one (.int _ a)),none,none=>(Unit->0<=a/\a.toNat<=len)/\∀l h,(l=a.toNat/\h=len)->K l h false
 | none,some (.one (.int _ b)),none=>(Unit->0<=b/\b.toNat<=len)/\∀h,h=b.toNat->K 0 h false
 | some (.one (.int _ a)),some (.one (.int _ b)),none=>(Unit->0<=a/\a<=b/\b.toNat<=len)/\∀l h,(l=a.toNat/\h=b.toNat)->K l h false
 | none,some (.one (.int _ b)),some (.one (.int _ m))=>(Unit->0<=b/\b=m/\m.toNat<=len)/\∀h,h=b.toNat->K 0 h true
 | _,_,_=>False
def OM (bk:Nat->Option Af) (u:T) (x:AV) (lo hi mx:Option AV) (K:DD->Prop):Prop:=
 match x with
 | .one (.sl t l)=>T.beq t u=true/\∀n,n=l.length->IF n lo hi mx fun a b _=>∀l',l'=(l.take b).drop a->K ⟨.one (.sl t l'),[],[]⟩
 | .one (.AZ t id v off len)=>T.beq t u=true/\if BE bk id=v then IF len lo hi mx fun a b c=>∀o n,(o=off+a/\n=b-a)->
  match c with | true=>K ⟨.one (.Ma t id v o n),[],[id]⟩ | false=>K ⟨.one (.AZ t id v o n),[],[id]⟩
  else False
 | .one .nil=>IF 0 lo hi mx fun _ _ _=>K ⟨.one .nil,[],[]⟩
 | _=>False
def OV:List AV->Option (List (Nat×Nat))
 | []=>some []
 | .one (.AR id v 0)::r=>match OV r with
  | some ps=>some ((id,v)::ps)
  | none=>none
 | _::_=>none
def V4 (n s:Nat) (g:Bool):List (Nat×Nat×Bool):=(List.range n).map fun i=>(i*s,s,g)
def Pn:List AV->Option (List (Nat×Nat×Nat))
 | []=>some []
 | .one (.AR id v o)::r=>match Pn r with
  | some ps=>some ((id,v,o)::ps)
  | none=>none
 | _::_=>none
def E2 (E:Env) (TI:TypeId->Info) (o:Oper) (d:Nat) (e:Operand->AV) (bk:Nat->Option Af) (K:DD->Prop):Prop:=
 match o.op with
 |.move x|.assign x=>K ⟨e x,[],[]⟩
 | .nilCheck x=>match e x with
  | .one (.AR id v off)=>if BE bk id=v then K ⟨e x,[],[id]⟩ else False
  |.one (.fn _)|.one (.Ed _ _)|.one (.Co _ _ _)=>K ⟨e x,[],[]⟩
  | _=>False
 | .pick c a b=>match e c with
  | .one (.bool true)=>K ⟨e a,[],[]⟩
  | .one (.bool false)=>K ⟨e b,[],[]⟩
  | _=>False
 | .alloc t=>(TI t).known=true/\K ⟨.one (.AR d (BE bk d+1) 0),[(d,.var (BE bk d+1) (TI t).zero)],[d]⟩
 | .box _ x=>match e x with
  |.AI _|.one .B7=>False
  | v=>K ⟨.one (.AR d (BE bk d+1) 0),[(d,.var (BE bk d+1) v.cs)],[d]⟩
 | .extract t i=>match e t with
  | .AI xs=>match xs[i]? with
   | some x=>K ⟨FR x,[],[]⟩
   | none=>False
  | _=>False
 | .load t a=>(TI t).known=true/\match e a with
  | .one (.AR id v off)=>match bk id with
   | some (.var v' cs)=>if v'=v/\(Eh cs off (TI t).size).length=(TI t).size then K ⟨ld (TI t) cs off,[],[id]⟩ else False
   | _=>False
  | .one (.Co t' x off)=>Ko t' x fun cs=>if (Eh cs off (TI t).size).length=(TI t).size then K ⟨ld (TI t) cs off,[],[]⟩ else False
  | .one (.KJ p)=>(TI t).agg=false/\K ⟨.one (.AR p.1 p.2.1 p.2.2),[],[]⟩
  | .one (.Hk t' id v i k)=>match bk id with
   | some (.arr v' u l)=>if v'=v/\T.beq t' u=true then ∃x:el u,(Unit->l[i]? =some x)/\Ko u x fun cs=>
    if (Eh cs k (TI t).size).length=(TI t).size then K ⟨ld (TI t) cs k,[],[id]⟩ else False
    else False
   | _=>False
  | _=>False
 | .store t a x=>(TI t).known=true/\match e a with
  | .one (.AR id v off)=>match bk id,e x with
   |_,.AI _|_,.one .B7=>False
   | some (.var v' cs),y=>if v'=v/\y.cs.length=(TI t).size/\off+(TI t).size<=cs.length then
    K ⟨.one .B7,[(id,.var v (DA cs off y.cs))],[id]⟩ else False
   | _,_=>False
  | .one (.Hk t' id v i k)=>match bk id,e x with
   |_,.AI _|_,.one .B7=>False
   | some (.arr v' u l),y=>if v'=v/\k=0/\(TI t).size=u.size/\T.beq t' u=true then
    ∃z:el u,(Unit->i<l.length/\BR BV y.cs (cells u z))/\∀l',l'=l.set i z->K ⟨.one .B7,[(id,.arr v u l')],[id]⟩
    else if v'=v/\k+(TI t).size<=u.size/\T.beq t' u=true then
    ∃(x:el u) (z:el u),(Unit->l[i]? =some x/\y.cs.length=(TI t).size/\BR BV (DA (cells u x) k y.cs) (cells u z))/\∀l',l'=l.set i z->K ⟨.one .B7,[(id,.arr v u l')],[id]⟩
    else False
   | _,_=>False
  | _=>False
 | .fieldAddr s x f=>(TI s).known=true/\match (TI s).fields[f]?,e x with
  | some (fo,_,_),.one (.AR id v off)=>if BE bk id=v then K ⟨.one (.AR id v (off+fo)),[],[id]⟩ else False
  | some (fo,_,_),.one (.Co t y off)=>K ⟨.one (.Co t y (off+fo)),[],[]⟩
  | some (fo,_,_),.one (.Hk t id v i k)=>if BE bk id=v then K ⟨.one (.Hk t id v i (k+fo)),[],[id]⟩ else False
  | _,_=>False
 | .field s x f=>(TI s).known=true/\match (TI s).fields[f]?,e x with
  | some (fo,n,g),.agg cs=>if (Eh cs fo n).length=n then K ⟨FR (g,Eh cs fo n),[],[]⟩ else False
  | _,_=>False
 | .build t parts=>match (TI t).arr with
  | some q=>(TI t).known=true/\match Hl (V4 q.1 q.2.1 q.2.2) e parts.toList (TI t).zero with
   | some cs=>K ⟨.agg cs,[],[]⟩
   | none=>False
  | none=>((TI t).known=true/\(TI t).fields.isEmpty=false)/\match Hl (TI t).fields e parts.toList (TI t).zero with
  | some cs=>K ⟨.agg cs,[],[]⟩
  | none=>False
 | .buildSlice t len parts=>match (TI t).pt with
  | true=>match Pn (parts.toList.map fun p=>e p.2) with
   | some ps=>(Unit->ps.length=len/\len<=524288/\parts.toList.map (·.1)=List.range len)/\K ⟨.one (.JN ps),[],[]⟩
   | none=>False
  | false=>(TI t).sl=true/\(TI t).elem.size<=32/\∃xs:List (el (TI t).elem),
   (Unit->xs.length=len/\len<=524288/\(parts.toList.all fun p=>(e p.2).full)=true/\Qw (parts.toList.map fun p=>(p.1,(e p.2).cs)) 0 (xs.map (cells _)))/\
   (K ⟨.one (.AZ (TI t).elem d (BE bk d+1) 0 len),[(d,.arr (BE bk d+1) _ xs)],[d]⟩\/K ⟨.one (.sl (TI t).elem xs),[],[]⟩)
 | .makeSlice t l c=>(TI t).sl=true/\match e l,e c with
  | .one (.int _ n),.one (.int _ m)=>(Unit->0<=n/\n<=m/\fits m.toNat (TI t).EA)/\
   ∀k z,(k=n.toNat/\z=List.replicate k (TI t).CB)->K ⟨.one (.AZ (TI t).elem d (BE bk d+1) 0 k),[(d,.arr (BE bk d+1) _ z)],[d]⟩
  | _,_=>False
 | .indexAddr t x i=>match (TI t).pt with
  | true=>match e x,e i with
   | .one (.JN ps),.one (.int _ n)=>∃p,(Unit->0<=n/\ps[n.toNat]? =some p)/\K ⟨.one (.KJ p),[],[]⟩
   | _,_=>False
  | false=>match (TI t).arr with
   | some q=>match e x,e i with
    | .one (.AR id v off),.one (.int _ n)=>if BE bk id=v then (Unit->0<=n/\n.toNat<q.1)/\K ⟨.one (.AR id v (off+n.toNat*q.2.1)),[],[id]⟩ else False
    | .one (.Co t' y off),.one (.int _ n)=>(Unit->0<=n/\n.toNat<q.1)/\K ⟨.one (.Co t' y (off+n.toNat*q.2.1)),[],[]⟩
    | _,_=>False
   | none=>(TI t).sl=true/\match e x,e i with
  | .one (.sl t' l),.one (.int _ n)=>T.beq t' (TI t).elem=true/\∃x,(Unit->0<=n/\l[n.toNat]? =some x)/\K ⟨.one (.Co t' x 0),[],[]⟩
  | .one (.AZ t' id v off len),.one (.int _ n)=>T.beq t' (TI t).elem=true/\if BE bk id=v then (Unit->0<=n/\n.toNat<len)/\∀j,j=off+n.toNat->K ⟨.one (.Hk t' id v j 0),[],[id]⟩ else False
  | _,_=>False
 | .slice t x lo hi mx=>match e x with
  | .one (.str s)=>(TI t).Gy=true/\∀n,n=s.size->IF n (lo.map e) (hi.map e) (mx.map e) fun a b c=>c=false/\∀z,z=s.extract a b->K ⟨.one (.str z),[],[]⟩
  | X=>(TI t).sl=true/\OM bk (TI t).elem X (lo.map e) (hi.map e) (mx.map e) K
 | .index t x i=>match (TI t).arr with
  | some q=>match e x,e i with
   | .agg cs,.one (.int _ n)=>(Unit->0<=n/\n.toNat<q.1)/\if (Eh cs (n.toNat*q.2.1) q.2.1).length=q.2.1 then K ⟨FR (q.2.2,Eh cs (n.toNat*q.2.1) q.2.1),[],[]⟩ else False
   | _,_=>False
  | none=>(TI t).Gy=true/\match e x,e i with
  | .one (.str s),.one (.int _ n)=>∃b:UInt8,(Unit->0<=n/\s.data[n.toNat]? =some b)/\∀z,N3 z b->K ⟨.one (.int .u8 z),[],[]⟩
  | _,_=>False
 | .binOp op bt x y _=>match e x,e y with
  | .one (.int k a),.one (.int k' b)=>if k=k'\/op= .shl\/op= .shr then arith op k a b fun c=>K ⟨.one c,[],[]⟩ else False
  | .one (.bool a),.one (.bool b)=>(TI bt).IV=true/\match op with
   | .eql=>∀c,c=(a==b)->K ⟨.one (.bool c),[],[]⟩
   | .neq=>∀c,c=(a !=b)->K ⟨.one (.bool c),[],[]⟩
   | _=>False
  | .one (.sl _ l),.one .nil=>(TI bt).sl=true/\match op with
   | .eql=>∀c,c=l.isEmpty->K ⟨.one (.ub c),[],[]⟩
   | _=>False
  | .one (.str a),.one (.str b)=>match op with
   | .eql=>∀c,c=(a.toList==b.toList)->K ⟨.one (.bool c),[],[]⟩
   | .neq=>∀c,c=(!(a.toList==b.toList))->K ⟨.one (.bool c),[],[]⟩
   | .add=>(Unit->a.size+b.size<=9223372036854775807)/\∀c,c=a++b->K ⟨.one (.str c),[],[]⟩
   | _=>False
  | _,_=>False
 | .unOp op _ x=>match op,e x with
  | .not,.one (.bool b)=>∀c,c= !b->K ⟨.one (.bool c),[],[]⟩
  | .neg,.one (.int k n)=>∀c,c=k.wrap (0-n)->K ⟨.one (.int k c),[],[]⟩
  | _,_=>False
 | .convert src dst x=>(TI src).known=true/\match (TI dst).kind,e x with
  | some k,.one (.int _ n)=>∀c,c=k.wrap n->K ⟨.one (.int k c),[],[]⟩
  | none,.one c=>(TI dst).Gy=true/\(TI src).sl=true/\(TI (TI src).C1).kind=some .u8/\∃l:List UInt8,(Unit->c= .sl .u8 l)/\∀z,z=ByteArray.mk l.toArray->K ⟨.one (.str z),[],[]⟩
  | _,_=>False
 | .makeFunc fn first captured=>match fn,first.toList,OV (captured.toList.map e) with
  | .func f,[],some ps=>K ⟨.one (.Gt f ps),[],[]⟩
  | _,_,_=>False
 | .call c=>match c.callee with
  | .builtin b=>OB TI b c.argTypes.toList (c.args.toList.map e) d bk K
  | .value f=>match e f with
   | .one (.fn g)=>MI E g (c.args.toList.map e) d bk K
   | .one (.Ed g qs)=>MI E g (c.args.toList.map e++qs.map fun q=> .one (.Co q.1 q.2 0)) d bk K
   | .one (.Gt g ps)=>MI E g (c.args.toList.map e++ps.map fun p=> .one (.AR p.1 p.2 0)) d bk K
   | _=>False
  | .invoke _ _=>False
 | _=>False
def Ee:List (Nat×Af)->List (Option Af)->List (Option Af)
 | [],b=>b
 | w::r,b=>Ee r (C2 b w.1 (some w.2))
def FE (l:List AV):Option Nat->AV->List AV
 | some d,v=>C2 l d v
 | none,_=>l
def St.app (s:St) (d:Option Nat) (f:DD):St:=⟨FE s.sl d f.v,Ee f.ws s.bk⟩
def Ci (o:Oper):Nat:=o.dst.getD 1000000
abbrev Tr:=List (List Nat×List Nat)
def I8 (ops:List Oper) (j:Nat):Option Nat:=(ops[j]?).bind (·.dst)
def mO (o:Oper):List Nat:=o.op.operands.toList.filterMap fun | .tmp t=>some t | _=>none
def Ic (ops:List Oper) (o:Oper):List Nat:=
 o.dst.toList++mO o++(match o.guard with | some (j,_)=>(I8 ops j).toList | none=>[])
def E1 (o:Oper):List Nat:=(o.after.toList.filter fun e=>Region.binds .any e).map (·.on)
def GQ:List Oper->List (List Nat)->List (List Nat)
 | [],acc=>acc
 | o::r,acc=>GQ r (acc++[(E1 o).flatMap fun j=>j::acc.getD j []])
def Mh (a b:List Nat):Bool:=a.all fun x=> !b.contains x
def MK (ops:List Oper) (oi oj:Oper) (ti tj:List Nat×List Nat):Bool:=
 Mh oi.dst.toList (Ic ops oj)&&Mh oj.dst.toList (Ic ops oi)&&
 Mh ti.2 (tj.1++tj.2)&&Mh tj.2 ti.1
def Yy (ops:List Oper) (tr:Tr) (bs:List (List Nat)):Bool:=
 (List.range ops.length).all fun j=>(List.range j).all fun i=>
  (bs.getD j []).contains i||
   (match ops[i]?,ops[j]?,tr[i]?,tr[j]? with
    | some oi,some oj,some ti,some tj=>MK ops oi oj ti tj
    | _,_,_,_=>false)
def V7 (ops:List Oper):Bool:=
 (List.range ops.length).all fun j=>match ops[j]? with | some o=>(E1 o).all fun i=>decide (i<j) | none=>true
def JJ (ops:List Oper) (tr:Tr):Bool:=V7 ops&&Yy ops tr (GQ ops [])
def HU (E:Env) (TI:TypeId->Info) (all:List Oper) (draw:Bool):List Oper->Tr->(St->Prop)->St->Prop
 | [],tr,Q,s=>match draw with
  | false=>Q s
  | true=>(Unit->JJ all tr.reverse=true)/\Q s
 | o::r,tr,Q,s=>match o.guard with
  | none=>E2 E TI o (Ci o) (ev s.sl) (AN s.bk) fun f=>HU E TI all draw r ((f.rd,f.ws.map (·.1))::tr) Q (s.app o.dst f)
  | some (j,w)=>match I8 all j with
   | none=>False
   | some g=>match nth s.sl g,w with
    |.one (.bool true),true|.one (.bool false),false=>E2 E TI o (Ci o) (ev s.sl) (AN s.bk) fun f=>HU E TI all draw r ((f.rd,f.ws.map (·.1))::tr) Q (s.app o.dst f)
    |.one (.bool true),false|.one (.bool false),true|.AI [],_=>HU E TI all draw r (([],[])::tr) Q (s.app o.dst ⟨.AI [],[],[]⟩)
    | _,_=>False
 inductive AX
  | Dl | exit (n:Nat) | ret
def J9 (bk:Nat->Option Af) (bs:List Nat):AC->AC
 | .AZ t id v off len=>if bs.contains id&&BE bk id==v then .AZ t id 0 off len else .B7
 | .AR id v off=>if bs.contains id&&BE bk id==v then .AR id 0 off else .B7
 | .Hk t id v i k=>if bs.contains id&&BE bk id==v then .Hk t id 0 i k else .B7
 |.Ma _ _ _ _ _|.Gt _ _=> .B7
 | .JN ps=>if (ps.all fun p=>bs.contains p.1&&BE bk p.1==p.2.1)=true then .JN (ps.map fun p=>(p.1,0,p.2.2)) else .B7
 | .KJ _=> .B7
 | c=>c
def Pc (bk:Nat->Option Af) (bs:List Nat):AV->AV
 | .one c=> .one (J9 bk bs c)
 | .agg cs=> .agg (cs.map (J9 bk bs))
 | .AI _=> .one .B7
def NC (bk:Nat->Option Af) (bs:List Nat):Af->Af
 | .var _ cs=> .var 0 (cs.map (J9 bk bs))
 | .arr _ t l=> .arr 0 t l
 | .dead _=> .dead 0
def F7 (s:St) (bs:List Nat):List Nat->List AV
 | []=>[]
 | k::r=>Pc (AN s.bk) bs (nth s.sl k)::F7 s bs r
def Gb (s:St) (bs:List Nat):List Nat->List Af
 | []=>[]
 | k::r=>(match AN s.bk k with | some b=>if k==0&&b.BE !=0 then .dead 0 else NC (AN s.bk) bs b | none=> .dead 0)::Gb s bs r
def Ig:List Nat->List AV->List AV->List AV
 | k::ks,v::vs,l=>Ig ks vs (C2 l k v)
 | _,_,l=>l
def JO:List Nat->List Af->List (Option Af)->List (Option Af)
 | k::ks,v::vs,l=>JO ks vs (C2 l k (some v))
 | _,_,l=>l
def FV {α:Type}:Nat->α->List α
 | 0,_=>[]
 | n+1,x=>x::FV n x
def J7 (n:Nat) (ks:List Nat) (vs:List AV) (bs:List Nat) (bl:List Af):St:=
 ⟨Ig ks vs (FV n (.one .B7)),JO bs bl (FV n none)⟩
def Kq (s:St):List (Nat×T×Bool)->St
 | []=>s
 | (k,t,b)::r=>Kq (match nth s.sl k,b with
  | .one .nil,false=>⟨C2 s.sl k (.one (.sl t [])),s.bk⟩
  | .one .nil,true=>⟨C2 s.sl k (.one (.AZ t k (BE (AN s.bk) k+1) 0 0)),C2 s.bk k (some (.arr (BE (AN s.bk) k+1) t []))⟩
  | .one (.AZ t id v 0 n),false=>match AN s.bk id with
   | some (.arr v' t' l)=>if (id !=0&&v==v'&&T.beq t t')=true then⟨C2 s.sl k (if n=l.length then .one (.sl t' l) else .one .B7),C2 s.bk id (some (.dead v))⟩ else s
   | _=>s
  | _,_=>s) r
def K5:Code->Bool
 |.skip|.region _ _ _=>true
 | .seq a b=>K5 a&&K5 b
 | .cond _ a b=>K5 a||K5 b
 |.block _ _|.loop _=>true
 | _=>false
def DQ (E:Env) (TI:TypeId->Info) (n:Nat):Code->(AX->St->Prop)->St->Prop
 | .skip,Q,s=>Q .Dl s
 | .region _ ops draw,Q,s=>HU E TI ops.toList draw ops.toList [] (Q .Dl) s
 | .seq a b,Q,s=>DQ E TI n a (fun e s=>match e with | .Dl=>DQ E TI n b Q s | .exit i=>Q (.exit i) s | .ret=>Q .ret s) s
 | .cond c a b,Q,s=>match K5 a&&K5 b with
  | true=>(∃(ks bs:List Nat) (J:List AV->List Af->Prop),(∀vs bl,J vs bl->Q .Dl (J7 n ks vs bs bl))/\
    match ev s.sl c with
    | .one (.bool true)=>DQ E TI n a (fun e s'=>match e with | .Dl=>J (F7 s' bs ks) (Gb s' bs bs) | .exit i=>Q (.exit i) s' | .ret=>Q .ret s') s
    | .one (.bool false)=>DQ E TI n b (fun e s'=>match e with | .Dl=>J (F7 s' bs ks) (Gb s' bs bs) | .exit i=>Q (.exit i) s' | .ret=>Q .ret s') s
    | .one (.ub u)=>(u=true->DQ E TI n a (fun e s'=>match e with | .Dl=>J (F7 s' bs ks) (Gb s' bs bs) | .exit i=>Q (.exit i) s' | .ret=>Q .ret s') s)/\
     DQ E TI n b (fun e s'=>match e with | .Dl=>J (F7 s' bs ks) (Gb s' bs bs) | .exit i=>Q (.exit i) s' | .ret=>Q .ret s') s
    | _=>False)\/
   (match ev s.sl c with
   | .one (.bool true)=>DQ E TI n a Q s
   | .one (.bool false)=>DQ E TI n b Q s
   | .one (.ub u)=>(u=true->DQ E TI n a Q s)/\DQ E TI n b Q s
   | _=>False)
  | false=>match ev s.sl c with
   | .one (.bool true)=>DQ E TI n a Q s
   | .one (.bool false)=>DQ E TI n b Q s
   | .one (.ub u)=>(u=true->DQ E TI n a Q s)/\DQ E TI n b Q s
   | _=>False
 | .block id c,Q,s=>(∃(ks bs:List Nat) (J:List AV->List Af->Prop),(∀vs bl,J vs bl->Q .Dl (J7 n ks vs bs bl))/\
   DQ E TI n c (fun e s'=>match e with | .exit i=>if i=id then J (F7 s' bs ks) (Gb s' bs bs) else Q (.exit i) s' | .Dl=>J (F7 s' bs ks) (Gb s' bs bs) | .ret=>Q .ret s') s)\/
  DQ E TI n c (fun e s=>match e with | .exit i=>if i=id then Q .Dl s else Q (.exit i) s | .Dl=>Q .Dl s | .ret=>Q .ret s) s
 | .loop c,Q,s=>∃(cv:List (Nat×T×Bool)) (ks bs:List Nat) (J:List AV->List Af->Nat->Prop),
  (∃k,J (F7 (Kq s cv) bs ks) (Gb (Kq s cv) bs bs) k)/\∀vs bl k,J vs bl k->
   DQ E TI n c (fun e s'=>match e with
    | .Dl=>∃k',k'<k/\J (F7 s' bs ks) (Gb s' bs bs) k'
    | .exit i=>Q (.exit i) s' | .ret=>Q .ret s') (J7 n ks vs bs bl)
 | .exit i,Q,s=>Q (.exit i) s
 | .ret,Q,s=>Q .ret s
 | _,_,_=>False
def Ij (bk:Nat->Option Af):AC->AC->Prop
 | .AZ t id v off len,c=>(∃l,bk id=some (.arr v t l)/\off+len<=l.length/\c= .sl t ((l.drop off).take len))\/
  (∃l n,id≠0/\bk id=some (.arr v t l)/\off=0/\len=l.length/\n=l.length/\c= .own t l n)\/
  (id=0/\v=0/\c= .AZ t 0 0 off len)
 | .nil,c=>c= .nil\/(∃t,c= .sl t [])\/∃t,c= .own t [] 0
 | .int k n,c=>c= .int k n
 | .bool b,c=>c= .bool b
 | .fn f,c=>c= .fn f
 | .sl t l,c=>c= .sl t l
 | .str s,c=>c= .str s
 | _,_=>False
def KN (bk:Nat->Option Af):List (Bool×List AC)->List (Bool×List AC)->Prop
 | [],[]=>True
 | a::l,b::m=>(a.1=b.1/\BR (Ij bk) a.2 b.2)/\KN bk l m
 | _,_=>False
def HO:AC->Bool
 | .own _ _ _=>true
 | _=>false
def JA:AC->Bool
 |.AZ _ _ _ _ _|.own _ _ _=>true
 | _=>false
def Y1 (src:List (Bool×List AC)) (res:List (Bool×List AC)):Bool:=
 match (res.flatMap (·.2)).filter HO with
 | []=>true
 | [_]=>((src.flatMap (·.2)).filter JA).length<=1
 | _=>false
def AV.IK:AV->List (Bool×List AC)
 | .AI xs=>xs
 | v=>[v.comp]
def Zg (TI:TypeId->Info) (s:St):ResultVar->Option (Bool×List AC)
 | .tmp t=>some (nth s.sl t).comp
 | .cell a t=>match nth s.sl a with
  | .one (.AR id v off)=>match AN s.bk id with
   | some (.var v' cs)=>if (TI t).known&&v'==v&&(Eh cs off (TI t).size).length==(TI t).size then some ((TI t).agg,Eh cs off (TI t).size) else none
   | _=>none
  | _=>none
def JS (TI:TypeId->Info) (s:St):List ResultVar->Option (List (Bool×List AC))
 | []=>some []
 | r::rs=>match Zg TI s r,JS TI s rs with
  | some x,some xs=>some (x::xs)
  | _,_=>none
def LS:AC->Bool
 | .AZ _ 0 _ _ _=>false
 | _=>true
def Sx (TI:TypeId->Info) (rs:List ResultVar) (r:AV) (b0:Af) (e:AX) (s:St):Prop:=
 match e with
 | .exit _=>False
 | _=>match JS TI s rs with
  | some xs=>(Unit->(KN (AN s.bk) xs r.IK/\(xs.all fun x=>x.2.all LS)=true/\(rs.length=1↔∀ys,r≠ .AI ys))/\AN s.bk 0=some b0)
  | none=>False
def post (TI:TypeId->Info) (rs:List ResultVar) (r:AV) (b1:Option Af) (e:AX) (s:St):Prop:=
 match e with
 | .exit _=>False
 | _=>match JS TI s rs with
  | some xs=>(Unit->KN (AN s.bk) xs r.IK/\Y1 xs r.IK=true/\(rs.length=1↔∀ys,r≠ .AI ys))/\
   (match b1 with | none=>True | some b=>Unit->AN s.bk 0=some b)
  | none=>False
def EJ (n:Nat) (args:List AV) (b0:Option Af):St:=
 ⟨args++FV (n-args.length) (.one .B7),match n with | 0=>[] | n+1=>b0::FV n none⟩
open Go.RowKit
 inductive BM {α β:Type} (R:α->β->Prop):List α->List β->Prop
  | nil:BM R [] []
  | cons {a:α} {b:β} {l:List α} {m:List β}:R a b->BM R l m->BM R (a::l) (b::m)
section
variable {α β γ:Type} {R R':α->β->Prop} {l l':List α} {m m':List β}
theorem BM.map {S:γ->β->Prop} {g:α->γ} {p:α->Bool} (h:∀a b,p a=true->R a b->S (g a) b) (e:l.all p=true) (r:BM R l m):BM S (l.map g) m:=by
 induction r with
 | nil=>exact .nil
 | cons q _ d=>rw[List.all_cons,Bool.and_eq_true] at e;exact .cons (h _ _ e.1 q) (d e.2)
theorem BM.imp {p:α->Bool} (h:∀a b,p a=true->R a b->R' a b) (e:l.all p=true) (r:BM R l m):BM R' l m:=by
 have:=r.map (g:=fun c=>c) h e;rwa [List.map_id'] at this
theorem BM.mono (h:∀a b,R a b->R' a b) (r:BM R l m):BM R' l m:=by
 induction r with
 | nil=>exact .nil
 | cons q _ d=>exact .cons (h _ _ q) d
theorem BM.length (r:BM R l m):l.length=m.length:=by induction r <;> simp_all
theorem BM.get (r:BM R l m):∀(i:Nat) (a:α),l[i]? =some a->∃b,m[i]? =some b/\R a b:=by
 induction r with
 | nil=>simp
 | cons q _ d=>intro i;cases i <;> simp_all
theorem BM.append (r:BM R l m) (s:BM R l' m'):BM R (l++l') (m++m'):=by
 induction r with
 | nil=>exact s
 | cons q _ a=>exact .cons q a
theorem BM.Sl:∀{l:List α} {m:List β},BM R (l++l') m->∃m1 m2,m=m1++m2/\BM R l m1/\BM R l' m2
 | [],m,h=>⟨[],m,rfl,.nil,h⟩
 | _::_,_,.cons q r=>let ⟨m1,m2,e,a,b⟩:=BM.Sl r;⟨_::m1,m2,by simp[e],.cons q a,b⟩
theorem BM.drop (r:BM R l m):∀n,BM R (l.drop n) (m.drop n):=by
 induction r with
 | nil=>intro n;simp;exact .nil
 | cons q r a=>intro n;cases n with
  | zero=>exact .cons q r
  | succ n=>exact a n
theorem BM.take (r:BM R l m):∀n,BM R (l.take n) (m.take n):=by
 induction r with
 | nil=>intro n;simp;exact .nil
 | cons q r a=>intro n;cases n with
  | zero=>exact .nil
  | succ n=>exact .cons q (a n)
end
def Fg (R:AC->Value->Prop):AV->Value->Prop
 | .one c,v=>c= .B7\/R c v
 | .agg cs,v=>∃arr,v= .agg arr/\BM R cs arr.toList
 | .AI _,_=>False
def RV (R:AC->Value->Prop):AV->Value->Prop
 | .AI xs,v=>∃arr,v= .tuple arr/\BM (fun y u=>Fg R (FR y) u) xs arr.toList
 | a,v=>Fg R a v
section
variable {R S:AC->Value->Prop} {g:AC->AC} {p:AC->Bool}
theorem Fg.map (d:g .B7= .B7) (h:∀c v,p c=true->R c v->S (g c) v):∀(y:Bool×List AC) (u:Value),y.2.all p=true->Fg R (FR y) u->Fg S (FR (y.1,y.2.map g)) u
 | (true,_),_,e,⟨arr,a,b⟩=>⟨arr,a,b.map h e⟩
 | (false,[]),_,_,_=> .inl rfl
 | (false,c::_),_,e,b=>by
  rw[List.all_cons,Bool.and_eq_true] at e;exact b.imp (fun q=>by rw[show c=_ from q,d]) (h _ _ e.1)
theorem RV.map (d:g .B7= .B7) (h:∀c v,p c=true->R c v->S (g c) v) {r:AV} {v:Value} (e:r.all p=true) (b:RV R r v):RV S (r.map g) v:=by
 cases r with
 | one c=>exact Fg.map d h (false,[c]) v (by simpa [AV.all] using e) b
 | agg cs=>exact Fg.map d h (true,cs) v e b
 | AI xs=>obtain⟨arr,a,b⟩:=b;exact⟨arr,a,b.map (Fg.map d h) e⟩
theorem AV.map_id:∀r:AV,r.map (fun c=>c)=r
 | .one _=>rfl
 | .agg cs=>congrArg AV.agg (List.map_id' cs)
 | .AI xs=>congrArg AV.AI (by simp)
theorem RV.mono (h:∀c v,p c=true->R c v->S c v) {r:AV} {v:Value} (e:r.all p=true) (b:RV R r v):RV S r v:=by
 have:=RV.map (g:=fun c=>c) rfl h e b;rwa [AV.map_id] at this
theorem AV.all_true (r:AV):r.all (fun _=>true)=true:=by cases r <;> simp[AV.all]
theorem Vq {Q:AC->AC->Prop} {l m:List AC} {vs:List Value} (h:∀c∈l,∀d v,Q c d->R c v->S d v) (a:BR Q l m) (b:BM R l vs):BM S m vs:=by
 induction b generalizing m with
 | nil=>cases m with
  | nil=>exact .nil
  | cons=>exact a.elim
 | cons q _ i=>cases m with
  | nil=>exact a.elim
  | cons=>exact .cons (h _ (by simp) _ _ a.1 q) (i (fun c f=>h c (by simp[f])) a.2)
theorem Vy {Q:AC->AC->Prop} {L:List Nat} (h:∀c,(∀i∈Cj c,i∈L)->∀d v,Q c d->R c v->S d v) (n:∀d,¬Q .B7 d) {l m:List AV} {vs:List Value} (j:∀i∈Ck l,i∈L) (a:En Q l m) (b:BM (RV R) l vs):BM (RV S) m vs:=by
 induction b generalizing m with
 | nil=>cases m with
  | nil=>exact .nil
  | cons=>exact a.elim
 | @cons x _ _ _ q _ o=>cases m with
  | nil=>exact a.elim
  | cons y m=>
   refine .cons ?_ (o (fun i f=>j i ?_) a.2)
   ·have a:=a.1;cases x <;> cases y <;> first | exact a.elim | skip
    ·exact q.elim (fun e=>absurd a (by rw[e];exact n _)) fun q=> .inr (h _ (fun i f=>j i (by simp[Ck,f])) _ _ a q)
    obtain⟨arr,e,q⟩:=q;exact⟨arr,e,Vq (fun c k=>h c fun i f=>j i (List.mem_append_left _ (List.mem_flatMap.2 ⟨c,k,f⟩))) a q⟩
   cases x <;> simp_all [Ck]
end
theorem KS:∀(cs:List AC) (off n:Nat),Eh cs off n=(cs.drop off).take n
 |_,0,_|[],_+1,_=>by simp[Eh]
 | _::cs,off+1,n=>by simpa [Eh] using KS cs off n
theorem Jo (t:T):∀x:el t,(cells t x).length=t.size:=by
 induction t with
 | pr a b h k=>intro x;simp[cells,T.size,h,k]
 | _=>intro _;rfl
theorem T.size_pos (t:T):0<t.size:=by induction t <;> simp_all [T.size] <;> omega
def P6 (w:World) (I:Nat->Prop) (l:List UInt32) (v:Value):Prop:=
 ∃base cap,[v]=[.slice base l.length cap]/\l.length<=cap/\l.length<=140737488355328/\
  (l=[]\/∃b off,base=some ⟨b,off,none⟩/\I b/\∀(i:Nat) (x:UInt32),l[i]? =some x->∃us,us=[Value.int .u32 x.toNat]/\w.rangeAt b (off+i*1) us)
 inductive Hc (w:World) (I:Nat->Prop):Ex->List Value->Prop
  | mk (y:Ex) (a b:Value) (base:Option Addr) (cap:Nat) (p off:Nat) (us:Nat->List Value):P6 w I y.v.1.2 a->P6 w I y.v.2.2 b->
   y.args.length<=cap->y.args.length<=140737488355328->(y.args=[]\/(base=some ⟨p,off,none⟩/\I p))->
   (∀(i:Nat) (x:Ex),y.args[i]? =some x->Hc w I x (us i))->(∀(i:Nat) (x:Ex),y.args[i]? =some x->w.rangeAt p (off+i*7) (us i))->
   Hc w I y [.int .i64 y.op,.bool y.v.1.1,a,.bool y.v.2.1,b,.string y.name,.slice base y.args.length cap]
def rep (w:World) (I:Nat->Prop):(t:T)->el t->List Value->Prop
 | .u8,x,vs=>vs=[.int .u8 x.toNat]
 | .u32,x,vs=>vs=[.int .u32 x.toNat]
 | .u64,x,vs=>vs=[.int .u64 x.toNat]
 | .i8,x,vs=>vs=[.int .i8 x]
 | .i64,x,vs=>vs=[.int .i64 x]
 | .bool,x,vs=>vs=[.bool x]
 | .sl t,l,vs=>∃base cap,vs=[.slice base l.length cap]/\l.length<=cap/\l.length<=140737488355328/\
  (l=[]\/∃b off,base=some ⟨b,off,none⟩/\I b/\∀(i:Nat) (x:el t),l[i]? =some x->∃us,rep w I t x us/\w.rangeAt b (off+i*t.size) us)
 | .pr a b,x,vs=>∃v1 v2,vs=v1++v2/\rep w I a x.1 v1/\rep w I b x.2 v2
 | .str,x,vs=>vs=[.string x]
 | .ex,x,vs=>Hc w I x vs
 | .rf t,x,vs=>∃b o us,vs=[.pointer (some ⟨b,o,none⟩)]/\I b/\rep w I t x us/\w.rangeAt b o us
theorem GA {α:Type} {a:Array α} {b:Nat} {o:α} (h:a[b]? =some o):b<a.size:=(Array.getElem?_eq_some_iff.1 h).1
theorem Hn {α:Type} {l:List α} {j:Nat} {v:α} (h:l[j]? =some v):j<l.length:=(List.getElem?_eq_some_iff.1 h).1
section
variable {w w':World} {I I':Nat->Prop} {c:AC} {v:Value}
theorem rangeAt_of_block {b o:Nat} {vs:List Value} (h:w'.heap[b]? =w.heap[b]?) (d:w.rangeAt b o vs):w'.rangeAt b o vs:=
 fun j v f=>(World.cell?_of_block (w:=w) (a:=⟨b,o+j,none⟩) h).trans (d j v f)
theorem Hc.mono (h:∀b,I b->I' b/\w'.heap[b]? =w.heap[b]?) {x:Ex} {vs:List Value} (r:Hc w I x vs):Hc w' I' x vs:=by
 have o:∀{l:List UInt32} {v:Value},P6 w I l v->P6 w' I' l v:=fun⟨base,cap,e,j,k,z⟩=>⟨base,cap,e,j,k,z.imp id fun⟨b,off,hb,n,u⟩=>
  ⟨b,off,hb,(h b n).1,fun i x f=>let ⟨us,hu,A⟩:=u i x f;⟨us,hu,rangeAt_of_block (h b n).2 A⟩⟩⟩
 induction r with
 | mk y a b base cap p off us j k h3 s d _ t B=>
  refine .mk y a b base cap p off us (o j) (o k) h3 s (d.imp id fun q=>⟨q.1,(h p q.2).1⟩) B fun i x f=>?_
  rcases d with d | d
  ·simp[d] at f
  exact rangeAt_of_block (h p d.2).2 (t i x f)
theorem Ev (h:∀b,I b->I' b/\w'.heap[b]? =w.heap[b]?) (t:T):∀(x:el t) (vs:List Value),rep w I t x vs->rep w' I' t x vs:=by
 induction t with
 | sl t n=>exact fun _ _ ⟨base,cap,e,f,j,r⟩=>⟨base,cap,e,f,j,r.imp id fun⟨b,off,hb,d,q⟩=>
  ⟨b,off,hb,(h b d).1,fun i x s=>let ⟨us,hu,k⟩:=q i x s;⟨us,n x us hu,rangeAt_of_block (h b d).2 k⟩⟩⟩
 | pr a b u z=>exact fun _ _ ⟨v1,v2,e,f,j⟩=>⟨v1,v2,e,u _ v1 f,z _ v2 j⟩
 | ex=>exact fun _ _=>Hc.mono h
 | rf t n=>exact fun _ _ ⟨b,o,us,e,d,k,ha⟩=>⟨b,o,us,e,(h b d).1,n _ us k,rangeAt_of_block (h b d).2 ha⟩
 | _=>exact fun _ _ h=>h
def It (w:World) (I:Nat->Prop):Prop:=∀g q,GI g=some q->I g/\∃us,rep w I q.1 q.2 us/\w.rangeAt g 0 us
theorem It.mono (h:∀b,I b->I' b/\w'.heap[b]? =w.heap[b]?) (G:It w I):It w' I':=fun g q e=>
 let ⟨a,us,d,h3⟩:=G g q e
 ⟨(h g a).1,us,Ev h _ _ _ d,rangeAt_of_block (h g a).2 h3⟩
def Je (w:World) (o:Option Nat) (n off len:Nat) (full:Bool) (v:Value):Prop:=
 ∃base cap,v= .slice base len cap/\len<=cap/\cap<=maxLen/\(full=true->cap=len)/\
  (cap=0\/∃b arr e,o=some b/\base=some ⟨b,off*n,none⟩/\w.heap[b]? =some (.cells arr e (0,0))/\(off+cap)*n<=arr.size)
structure Cx where
 w:World
 β:Nat->Option Nat
 cv:Nat->Nat
 I:Nat->Prop
 J:Nat->Prop
variable {x y:Cx}
def Gn (x:Cx) (id BE:Nat) (v:Value) (A:Prop):Prop:=(v.oneCell'=true/\BE<=x.cv id)/\(BE=x.cv id->A)
def D3 (x:Cx) (id BE off:Nat) (v:Value):Prop:=Gn x id BE v (∃b,x.β id=some b/\v= .pointer (some ⟨b,off,none⟩))
def Ha (w:World) (I:Nat->Prop) (q:(t:T)×el t) (off:Nat) (v:Value):Prop:=∃b o us,v= .pointer (some ⟨b,o+off,none⟩)/\I b/\rep w I q.1 q.2 us/\w.rangeAt b o us
theorem Ha.mono (h:∀b,I b->I' b/\w'.heap[b]? =w.heap[b]?) {q:(t:T)×el t} {o:Nat}:Ha w I q o v->Ha w' I' q o v:=
 fun⟨b,o,us,e,a,d,ha⟩=>⟨b,o,us,e,(h b a).1,Ev h _ _ _ d,rangeAt_of_block (h b a).2 ha⟩
def Bg (x:Cx):AC->Value->Prop
 | .B7,v=>v.oneCell'=true
 | .int k n,v=>v= .int k n
 | .bool b,v=>v= .bool b
 | .fn f,v=>v= .func (.func f) #[] #[]
 | .nil,v=>v= .slice none 0 0
 | .sl t l,v=>rep x.w x.I (.sl t) l [v]
 | .AZ t id BE off len,v=>Gn x id BE v (Je x.w (x.β id) t.size off len false v)
 | .Ma t id BE off len,v=>Gn x id BE v (Je x.w (x.β id) t.size off len true v)
 | .AR id BE off,v=>D3 x id BE off v
 | .Hk t id BE i k,v=>D3 x id BE (i*t.size+k) v
 | .ub e,v=>∃b:Bool,v= .bool b/\(b=true->e=true)
 | .Co t y off,v=>Ha x.w x.I ⟨t,y⟩ off v
 | .Gt f ps,v=>∃us:Array Value,v= .func (.func f) #[] us/\BM (fun p=>D3 x p.1 p.2 0) ps us.toList
 | .Ed f qs,v=>∃us:Array Value,v= .func (.func f) #[] us/\BM (fun q=>Ha x.w x.I q 0) qs us.toList
 | .str s,v=>v= .string s
 | .JN ps,v=>∃b off cap us,v= .slice (some ⟨b,off,none⟩) ps.length cap/\ps.length<=cap/\x.J b/\BM (fun p=>D3 x p.1 p.2.1 p.2.2) ps us/\x.w.rangeAt b off us
 | .KJ p,v=>∃b o u,v= .pointer (some ⟨b,o,none⟩)/\x.J b/\D3 x p.1 p.2.1 p.2.2 u/\x.w.rangeAt b o [u]
 | .own _ _ _,_=>False
theorem Bg.one (r:Bg x c v):v.oneCell'=true:=by
 cases c <;> first
  | exact r.1.1
  | exact r
  | exact r.elim
  | (rw[show v=_ from r];rfl)
  | (obtain⟨_,e,_⟩:=r;rw[e];rfl)
  | (obtain⟨_,_,e,_⟩:=r;rw[(List.cons.inj e).1];rfl)
  | (obtain⟨_,_,_,e,_⟩:=r;rw[e];rfl)
  | (obtain⟨_,_,_,_,e,_⟩:=r;rw[e];rfl)
theorem BM.one {cs:List AC} {vs:List Value} (r:BM (Bg x) cs vs):∀v∈vs,v.oneCell'=true:=by
 induction r with
 | nil=>simp
 | cons q _ b=>exact fun v a=>(List.mem_cons.1 a).elim (fun e=>e ▸ q.one) (b v)
theorem Gg (x:Cx) (t:T):∀(y:el t) (vs:List Value),rep x.w x.I t y vs↔BM (Bg x) (cells t y) vs:=by
 have one:∀{p:List Value->Prop} {c:AC} (vs:List Value),(∀v,p [v]↔Bg x c v)->(∀vs,p vs->vs.length=1)->(p vs↔BM (Bg x) [c] vs):=fun vs d f=>by
  constructor
  ·intro h
   match vs,f _ h,h with
   | [v],_,h=>exact .cons ((d v).1 h) .nil
  rintro (_ |⟨q,_ | _⟩);exact (d _).2 q
 induction t with
 | sl t=>exact fun y vs=>one vs (fun _=>Iff.rfl) fun vs ⟨_,_,e,_⟩=>by rw[e];rfl
 | rf t=>exact fun y vs=>one vs (fun _=>⟨fun⟨b,o,us,e,r⟩=>⟨b,o,us,(List.cons.inj e).1,r⟩,fun⟨b,o,us,e,r⟩=>⟨b,o,us,congrArg (· :: []) e,r⟩⟩) fun vs ⟨_,_,_,e,_⟩=>by rw[e];rfl
 | pr a b A B=>
  intro y vs
  constructor
  ·rintro⟨v1,v2,rfl,d,f⟩
   exact ((A y.1 v1).1 d).append ((B y.2 v2).1 f)
  intro h;obtain⟨m1,m2,e,d,f⟩:=BM.Sl h;exact⟨m1,m2,e,(A y.1 m1).2 d,(B y.2 m2).2 f⟩
 | ex=>
  intro y vs
  constructor
  ·rintro⟨_,a,b,base,cap,p,off,us,d,f,h3,n,k,J,K⟩
   exact .cons rfl (.cons rfl (.cons d (.cons rfl (.cons f (.cons rfl (.cons ⟨base,cap,rfl,h3,n,k.imp id fun q=>⟨p,off,q.1,q.2,fun i x u=>⟨us i,J i x u,K i x u⟩⟩⟩ .nil))))))
  rintro (_ |⟨e1,_ |⟨C,_ |⟨d,_ |⟨D,_ |⟨f,_ |⟨F,_ |⟨⟨base,cap,G,h3,n,k⟩,_ | _⟩⟩⟩⟩⟩⟩⟩);cases e1;cases C;cases D;cases F;cases G
  have key:∃(p off:Nat) (us:Nat->List Value),(y.args=[]\/(base=some ⟨p,off,none⟩/\x.I p))/\∀(i:Nat) (z:Ex),y.args[i]? =some z->Hc x.w x.I z (us i)/\x.w.rangeAt p (off+i*7) (us i):=by
   rcases k with k |⟨p,off,g1,g2,H⟩
   ·exact⟨0,0,fun _=>[],.inl k,fun i z j=>by simp[k] at j⟩
   have s:∀i,∃us,∀z,y.args[i]? =some z->Hc x.w x.I z us/\x.w.rangeAt p (off+i*7) us:=fun i=>by
    cases j:y.args[i]? with
    | none=>exact⟨[],fun z e=>by cases e⟩
    | some z=>obtain⟨us,q⟩:=H i z j;exact⟨us,fun z' e=>by cases e;exact q⟩
   exact⟨p,off,fun i=>Classical.choose (s i),.inr ⟨g1,g2⟩,fun i z j=>Classical.choose_spec (s i) z j⟩
  obtain⟨p,off,us,g1,g2⟩:=key;exact .mk y _ _ base cap p off us d f h3 n g1 (fun i z j=>(g2 i z j).1) fun i z j=>(g2 i z j).2
 | _=>exact fun y vs=>one vs (fun v=>⟨fun e=>(List.cons.inj e).1,fun e=>congrArg (· :: []) e⟩) fun vs e=>by rw[show vs=_ from e];rfl
theorem Lg (t:T) (y:el t) (vs:List Value) (h:rep w I t y vs):vs.length=t.size:=by
 rw[<-((Gg ⟨w,fun _=>none,fun _=>0,I,I⟩ t y vs).1 h).length,Jo]
theorem nV (t:T) (y:el t) (vs:List Value) (h:rep w I t y vs):∀v∈vs,v.oneCell'=true:=((Gg ⟨w,fun _=>none,fun _=>0,I,I⟩ t y vs).1 h).one
abbrev dg (x:Cx):AV->Value->Prop:=Fg (Bg x)
abbrev CX (x:Cx):AV->Value->Prop:=RV (Bg x)
def C4 (x:Cx) (id:Nat):Af->Prop
 | .dead _=>True
 | .var _ cs=>∃b arr e,x.β id=some b/\x.w.heap[b]? =some (.cells arr e (0,0))/\BM (Bg x) cs arr.toList
 | .arr _ t l=>(x.β id=none/\l=[])\/∃b arr e,x.β id=some b/\x.w.heap[b]? =some (.cells arr e (0,0))/\
  ∀(i:Nat) (y:el t),l[i]? =some y->∃us,rep x.w x.I t y us/\x.w.rangeAt b (i*t.size) us
structure Cx.le (x y:Cx):Prop where
 cv:∀id,x.cv id<=y.cv id
 β:∀id,y.cv id=x.cv id->y.β id=x.β id
 size:∀id b arr e,y.cv id=x.cv id->x.β id=some b->x.w.heap[b]? =some (.cells arr e (0,0))->∃arr',y.w.heap[b]? =some (.cells arr' e (0,0))/\arr'.size=arr.size
 I:∀b,x.I b->y.I b/\y.w.heap[b]? =x.w.heap[b]?
 J:∀b,x.J b->y.J b/\y.w.heap[b]? =x.w.heap[b]?
theorem Gn.mono (h:x.le y) {id k:Nat} {A B:Prop} (q:Gn x id k v A) (d:y.cv id=x.cv id->A->B):Gn y id k v B:=by
 have:=h.cv id;obtain⟨⟨a,b⟩,c⟩:=q;exact⟨⟨a,by omega⟩,fun e=>d (by omega) (c (by omega))⟩
theorem D3.mono (h:x.le y) {i k o:Nat} (q:D3 x i k o v):D3 y i k o v:=Gn.mono h q fun e ⟨b,p,r⟩=>⟨b,(h.β i e).trans p,r⟩
theorem Je.mono (h:x.le y) {id k n off len:Nat} {f:Bool} (q:Gn x id k v (Je x.w (x.β id) n off len f v)):Gn y id k v (Je y.w (y.β id) n off len f v):=
 Gn.mono h q fun j ⟨base,cap,e,o,r,hf,h3⟩=>⟨base,cap,e,o,r,hf,h3.imp (fun q=>q) fun⟨b,arr,i,hb,a,t,z⟩=>
  let ⟨d,s,u⟩:=h.size id b arr i j hb t
  ⟨b,d,i,(h.β id j).trans hb,a,s,by omega⟩⟩
theorem Gz (h:∀b,x.I b->y.I b/\y.w.heap[b]? =x.w.heap[b]?) (e:DS c=true) (r:Bg x c v):Bg y c v:=by
 cases c <;> first
  | exact r
  | exact Ev h _ _ _ r
  | exact Ha.mono h r
  | (obtain⟨us,e,r⟩:=r;exact⟨us,e,r.mono fun _ _=>Ha.mono h⟩)
  | cases e
theorem Bg.mono (h:x.le y) (r:Bg x c v):Bg y c v:=by
 cases c <;> first
  | exact Gz h.I rfl r
  | exact D3.mono h r
  | exact Je.mono h r
  | exact r
  | (obtain⟨us,e,r⟩:=r;exact⟨us,e,r.mono fun _ _=>D3.mono h⟩)
  | (obtain⟨b,o,c,us,e,i,a,d,f⟩:=r;exact⟨b,o,c,us,e,i,(h.J b a).1,d.mono fun _ _=>D3.mono h,rangeAt_of_block (h.J b a).2 f⟩)
  | (obtain⟨b,o,u,e,a,d,f⟩:=r;exact⟨b,o,u,e,(h.J b a).1,D3.mono h d,rangeAt_of_block (h.J b a).2 f⟩)
theorem CX.mono (h:x.le y) {a:AV} (r:CX x a v):CX y a v:=RV.mono (p:=fun _=>true) (fun _ _ _=>Bg.mono h) a.all_true r
def Af.live:Af->Bool
 | .dead _=>false
 | _=>true
theorem C4.to {id k:Nat} {b:Af} (a:y.β k=x.β id) (hw:b.live=true->∀j,x.β id=some j->y.w.heap[j]? =x.w.heap[j]?) (h:∀v cs,b= .var v cs->∀us,BM (Bg x) cs us->BM (Bg y) cs us)
  (ha:∀v t l,b= .arr v t l->∀(z:el t) us,rep x.w x.I t z us->rep y.w y.I t z us) (r:C4 x id b):C4 y k b:=by
 cases b with
 | dead _=>trivial
 | var _ cs=>obtain⟨b,arr,e,d,f,h3⟩:=r;exact⟨b,arr,e,a.trans d,(hw rfl b d).trans f,h _ _ rfl _ h3⟩
 | arr _ t l=>exact r.imp (fun q=>⟨a.trans q.1,q.2⟩) fun⟨b,arr,e,d,f,h3⟩=>⟨b,arr,e,a.trans d,(hw rfl b d).trans f,fun i y' n=>
  let ⟨us,hu,o⟩:=h3 i y' n
  ⟨us,ha _ t l rfl y' us hu,rangeAt_of_block (hw rfl b d) o⟩⟩
theorem C4.mono (h:x.le y) {id:Nat} {b:Af} (a:y.cv id=x.cv id) (hb:b.live=true->∀k,x.β id=some k->y.w.heap[k]? =x.w.heap[k]?) (r:C4 x id b):C4 y id b:=C4.to (h.β id a) hb (fun _ _ _ _ q=>q.mono fun _ _=>Bg.mono h) (fun _ _ _ _=>Ev h.I _) r
end
end Go.Abs
