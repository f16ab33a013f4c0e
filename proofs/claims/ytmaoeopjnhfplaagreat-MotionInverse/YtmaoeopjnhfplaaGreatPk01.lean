/- Part 2 of a proof. Conditions: each theorem's own. -/
import Derived.WalkKit
import Derived.Deep.MidRow
import Derived.ArgAppend
set_option linter.all false
set_option maxHeartbeats 8000000
set_option maxRecDepth 20000
namespace Go.Abs
 inductive T
  | u8 | u32 | u64 | i8 | i64 | bool | sl (t:T) | pr (a b:T)
abbrev el:T->Type
 | .u8=>UInt8 | .u32=>UInt32 | .u64=>UInt64 | .i8=>Int | .i64=>Int | .bool=>Bool
 | .sl t=>List (el t) | .pr a b=>el a×el b
def T.size:T->Nat
 | .pr a b=>a.size+b.size
 | _=>1
def T.beq:T->T->Bool
 | .u8,.u8=>true | .u32,.u32=>true | .u64,.u64=>true | .i8,.i8=>true | .i64,.i64=>true | .bool,.bool=>true
 | .sl a,.sl b=>a.beq b
 | .pr a b,.pr c d=>a.beq c&&b.beq d
 | _,_=>false
def T.agg:T->Bool
 | .pr _ _=>true
 | _=>false
 inductive AC
  | CQ | int (k:IntKind) (n:Int) | bool (b:Bool) | fn (f:FuncId) | nil
  | sl (t:T) (l:List (el t))
  | BI (t:T) (id BK off len:Nat)
  | Ex (t:T) (id BK off len:Nat)
  | BC (id BK off:Nat)
  | Ea (t:T) (id BK i k:Nat)
  | FE (t:T) (x:el t) (off:Nat)
  | ub (e:Bool)
  | own (t:T) (l:List (el t)) (n:Nat)
 inductive AV
  | one (c:AC) | agg (cs:List AC) | AI (xs:List (Bool×List AC))
 inductive BA
  | var (BK:Nat) (cs:List AC)
  | arr (BK:Nat) (t:T) (l:List (el t))
  | dead (BK:Nat)
def BA.BK:BA->Nat
 | .var v _=>v | .arr v _ _=>v | .dead v=>v
def cells:(t:T)->el t->List AC
 | .u8,x=>[.int .u8 x.toNat]
 | .u32,x=>[.int .u32 x.toNat]
 | .u64,x=>[.int .u64 x.toNat]
 | .i8,x=>[.int .i8 x]
 | .i64,x=>[.int .i64 x]
 | .bool,x=>[.bool x]
 | .sl t,l=>[.sl t l]
 | .pr a b,x=>cells a x.1++cells b x.2
structure EY (n:Int) (k:Nat):Prop where
 eq:n=k
 le:k<=140737488355328
structure BG (n:Int) (k:Nat):Prop where
 eq:n=k
structure Se (n:Int) (x:UInt8):Prop where
 eq:n=x.toNat
structure Nn (n:Int) (x:UInt32):Prop where
 eq:n=x.toNat
structure g9 (n:Int) (x:UInt64):Prop where
 eq:n=x.toNat
def MP:(t:T)->el t->(List AC->Prop)->Prop
 | .u8,x,K=>∀n,Se n x->K [.int .u8 n]
 | .u32,x,K=>∀n,Nn n x->K [.int .u32 n]
 | .u64,x,K=>∀n,g9 n x->K [.int .u64 n]
 | .i8,x,K=>K [.int .i8 x]
 | .i64,x,K=>K [.int .i64 x]
 | .bool,x,K=>K [.bool x]
 | .sl t,l,K=>K [.sl t l]
 | .pr a b,x,K=>MP a x.1 fun l=>MP b x.2 fun m=>K (l++m)
theorem OB:∀(t:T) (x:el t) (K:List AC->Prop),MP t x K↔K (cells t x)
 |.u8,x,K|.u32,x,K|.u64,x,K=>⟨fun h=>h _ ⟨rfl⟩,fun h n c=>by rw[c.eq];exact h⟩
 |.i8,_,_|.i64,_,_|.bool,_,_|.sl _,_,_=>Iff.rfl
 | .pr a b,x,K=>by
  show MP a x.1 _↔_
  rw[OB a x.1,OB b x.2]
  rfl
def Ez:Bool×List AC->AV
 | (true,cs)=> .agg cs
 | (false,c::_)=> .one c
 | (false,[])=> .one .CQ
def AV.cs:AV->List AC
 | .one c=>[c]
 | .agg cs=>cs
 | .AI _=>[]
def AV.full:AV->Bool
 | .one .CQ=>false
 |.one _|.agg _=>true
 | .AI _=>false
def AV.comp:AV->Bool×List AC
 | .one c=>(false,[c])
 | .agg cs=>(true,cs)
 | .AI _=>(false,[])
def comp (t:T) (x:el t):Bool×List AC:=(t.agg,cells t x)
def YA (t:T) (x:el t):AV:=Ez (comp t x)
structure St where
 sl:List AV
 bk:List (Option BA)
def nth:List AV->Nat->AV
 | [],_=> .one .CQ
 | a::_,0=>a
 | _::l,n+1=>nth l n
def Ag:List (Option BA)->Nat->Option BA
 | [],_=>none
 | a::_,0=>a
 | _::l,n+1=>Ag l n
def By {α:Type}:List α->Nat->α->List α
 | [],_,_=>[]
 | _::l,0,x=>x::l
 | a::l,n+1,x=>a::By l n x
def BK (bk:Nat->Option BA) (id:Nat):Nat:=
 match bk id with
 | some b=>b.BK
 | none=>0
structure Info where
 known:Bool:=true
 size:Nat:=1
 agg:Bool:=false
 zero:List AC:=[]
 kind:Option IntKind:=none
 Qy:Bool:=false
 sl:Bool:=false
 Ef:TypeId:=0
 elem:T:= .bool
 Ck:el elem
 G0:Nat:=0
 fields:List (Nat×Nat×Bool):=[]
def To:Value->AV
 | .int k n=> .one (.int k n)
 | .bool b=> .one (.bool b)
 | .slice none 0 0=> .one .nil
 | _=> .one .CQ
def ev (s:List AV):Operand->AV
 | .tmp t=>nth s t
 | .const v=>To v
 | .func f=> .one (.fn f)
 | .global _=> .one .CQ
structure CT where
 v:AV
 ws:List (Nat×BA):=[]
 rd:List Nat:=[]
def Gp (n:Int):Prop:= -9223372036854775808<=n/\n<9223372036854775808
def fits (n b:Nat):Prop:=n*b<=140737488355328
def arith (op:BinOp) (k:IntKind) (a b:Int) (K:AC->Prop):Prop:=
 match op,k with
 | .add,.i64=>∀c,c=a+b->(Unit->Gp c)/\K (.int .i64 c)
 | .sub,.i64=>∀c,c=a-b->(Unit->Gp c)/\K (.int .i64 c)
 | .mul,.i64=>∀c,c=a*b->(Unit->Gp c)/\K (.int .i64 c)
 | .quo,.i64=>∀c,c=a/b->(Unit->0<=a/\0<b/\Gp c)/\K (.int .i64 c)
 | .rem,.i64=>∀c,c=a%b->(Unit->0<=a/\0<b)/\K (.int .i64 c)
 | .add,k=>∀c,c=k.wrap (a+b)->K (.int k c)
 | .sub,k=>∀c,c=k.wrap (a-b)->K (.int k c)
 | .mul,k=>∀c,c=k.wrap (a*b)->K (.int k c)
 | .quo,k=>∀c,c=k.wrap (a/b)->(Unit->0<=a/\0<b)/\K (.int k c)
 | .rem,k=>∀c,c=a%b->(Unit->0<=a/\0<b)/\K (.int k c)
 | .and,k=>∀c,c=k.wrap (BitVec.ofInt k.bits a &&& BitVec.ofInt k.bits b).toNat->K (.int k c)
 | .or,k=>∀c,c=k.wrap (BitVec.ofInt k.bits a ||| BitVec.ofInt k.bits b).toNat->K (.int k c)
 | .xor,k=>∀c,c=k.wrap (BitVec.ofInt k.bits a ^^^ BitVec.ofInt k.bits b).toNat->K (.int k c)
 | .andNot,k=>∀c,c=k.wrap (BitVec.ofInt k.bits a &&& ~~~ BitVec.ofInt k.bits b).toNat->K (.int k c)
 | .shl,k=>∀c,c=k.wrap (a*2^min b.toNat k.bits)->(Unit->0<=b)/\K (.int k c)
 | .shr,k=>∀c,c=a.fdiv (2^min b.toNat k.bits)->(Unit->0<=b)/\K (.int k c)
 | .eql,_=>∀c,c=(a==b)->K (.bool c)
 | .neq,_=>∀c,c=(a !=b)->K (.bool c)
 | .lss,_=>∀c,c=decide (a<b)->K (.bool c)
 | .leq,_=>∀c,c=decide (a<=b)->K (.bool c)
 | .gtr,_=>∀c,c=decide (a>b)->K (.bool c)
 | .geq,_=>∀c,c=decide (a >= b)->K (.bool c)
def HX (cs:List AC):Nat->Nat->List AC
 | 0,n=>cs.take n
 | off+1,n=>match cs with
  | []=>[]
  | _::cs=>HX cs off n
def FA {α:Type}:List α->Nat->List α->List α
 | cs,0,[]=>cs
 | [],0,_::_=>[]
 | _::cs,0,x::xs=>x::FA cs 0 xs
 | [],_+1,_=>[]
 | c::cs,off+1,xs=>c::FA cs off xs
def ld (i:Info) (cs:List AC) (off:Nat):AV:=Ez (i.agg,HX cs off i.size)
def Gf (bk:Nat->Option BA):AC->AC->Prop
 | .BI t id v off len,c=>∃l,bk id=some (.arr v t l)/\off+len<=l.length/\c= .sl t ((l.drop off).take len)
 | .nil,c=>c= .nil\/∃t,c= .sl t []
 | .int k n,c=>c= .int k n
 | .bool b,c=>c= .bool b
 | .fn f,c=>c= .fn f
 | .sl t l,c=>c= .sl t l
 | _,_=>False
def Bo:AC->AC->Prop
 | .nil,c=>c= .nil\/∃t,c= .sl t []
 | .int k n,c=>c= .int k n
 | .bool b,c=>c= .bool b
 | .fn f,c=>c= .fn f
 | .sl t l,c=>c= .sl t l
 | _,_=>False
def Bg (R:AC->AC->Prop):List AC->List AC->Prop
 | [],[]=>True
 | a::l,b::m=>R a b/\Bg R l m
 | _,_=>False
def leV (R:AC->AC->Prop):AV->AV->Prop
 | .one a,.one b=>R a b
 | .agg l,.agg m=>Bg R l m
 | _,_=>False
def HI (R:AC->AC->Prop):List AV->List AV->Prop
 | [],[]=>True
 | a::l,b::m=>leV R a b/\HI R l m
 | _,_=>False
def DI:AC->List Nat
 | .BI _ id _ _ _=>[id]
 | _=>[]
def DD:List AV->List Nat
 | []=>[]
 | .one c::r=>DI c++DD r
 | .agg cs::r=>cs.flatMap DI++DD r
 | .AI _::r=>DD r
def HP (d v:Nat):AC->AC
 | .own t _ n=> .BI t d v 0 n
 | c=>c
def Kp (d v:Nat):AV->AV
 | .one c=> .one (HP d v c)
 | .agg cs=> .agg (cs.map (HP d v))
 | .AI xs=> .AI (xs.map fun x=>(x.1,x.2.map (HP d v)))
def FL (d v:Nat):List AC->List (Nat×BA)
 | []=>[]
 | .own t l _::_=>[(d,.arr v t l)]
 | _::r=>FL d v r
def KG (d v:Nat):AV->List (Nat×BA)
 | .one c=>FL d v [c]
 | .agg cs=>FL d v cs
 | .AI xs=>FL d v (xs.flatMap (·.2))
abbrev Con:=Bool->FuncId->List AV->AV->Prop
abbrev fX:=FuncId->AC->BA->List AV->AV->BA->Prop
abbrev fY:=FuncId->List AV->BA->AV->Prop
structure Env where
 C:Con
 B:fX
 D:fY
def Kt (id v:Nat):AC->AC->Prop
 | .BI t i w off len,c=>(i=id/\w=v)/\c= .BI t 0 0 off len
 | .BC i w off,c=>(i=id/\w=v)/\c= .BC 0 0 off
 | .nil,c=>c= .nil\/∃t,c= .sl t []
 | .int k n,c=>c= .int k n
 | .bool b,c=>c= .bool b
 | .fn f,c=>c= .fn f
 | .sl t l,c=>c= .sl t l
 | _,_=>False
def JP (places:List (Nat×Nat×Bool)) (e:Operand->AV):List (Nat×Operand)->List AC->Option (List AC)
 | [],cs=>some cs
 | (i,x)::r,cs=>match places[i]? with
  | some (off,n,_)=>if (e x).cs.length=n/\(e x).full=true/\off+n<=cs.length then JP places e r (FA cs off (e x).cs) else none
  | none=>none
def KP (id v:Nat):AC->AC
 | .BI t _ _ off len=> .BI t id v off len
 | .BC _ _ off=> .BC id v off
 | .Ea t _ _ i k=> .Ea t id v i k
 | c=>c
def ct (id v:Nat):AV->AV
 | .one c=> .one (KP id v c)
 | .agg cs=> .agg (cs.map (KP id v))
 | .AI xs=> .AI (xs.map fun x=>(x.1,x.2.map (KP id v)))
def BA.Fu (v:Nat):BA->BA
 | .var _ cs=> .var v cs
 | .arr _ t l=> .arr v t l
 | .dead _=> .dead v
def Ry:AC->Option (Nat×Nat)
 |.BI _ id v _ _|.BC id v _=>some (id,v)
 | _=>none
def T.flat:T->Bool
 | .sl _=>false
 | .pr a b=>a.flat&&b.flat
 | _=>true
def Qn:BA->Bool
 | .arr _ t _=>t.flat
 | _=>false
def Cd:AC->Bool
 |.int _ _|.bool _|.fn _|.nil|.BI _ 0 0 _ _=>true
 | _=>false
def AV.all (p:AC->Bool):AV->Bool
 | .one c=>p c
 | .agg cs=>cs.all p
 | .AI xs=>xs.all fun x=>x.2.all p
def Bt:AC->Bool
 | .CQ=>true | .int _ _=>true | .bool _=>true | .fn _=>true | .nil=>true | .sl _ _=>true
 | _=>false
def Lg (E:Env) (g:FuncId) (args:List AV) (d:Nat) (bk:Nat->Option BA) (K:CT->Prop):Prop:=
 (∃args' r,(Unit->HI Bo args args')/\(Unit->E.C false g args' r)/\
  K ⟨Kp d (BK bk d+1) r,KG d (BK bk d+1) r,[d]⟩)\/
 (∃args' r,(Unit->HI (Gf bk) args args')/\(Unit->E.C true g args' r)/\
  K ⟨Kp d (BK bk d+1) r,KG d (BK bk d+1) r,d::DD args⟩)\/
 (match args with
  | .one c::rest=>match Ry c with
   | some (id,v)=>match bk id with
    | some b=>if b.BK=v then ∃args' r b1,(Unit->id ∉ DD rest/\HI (Gf bk) rest args')/\(Unit->E.B g (KP 0 0 c) (b.Fu 0) args' r b1/\Qn b1=true/\r.all Cd=true)/\
     K ⟨ct id v r,[(id,b1.Fu v)],id::DD rest⟩ else False
    | none=>False
   | none=>False
  | _=>False)\/
 (∃(id:Nat) (b:BA) (args':List AV) (r:AV),(Unit->bk id=some b/\HI (Kt id b.BK) args args')/\(Unit->E.D g args' (b.Fu 0) r)/\K ⟨r,[],[id]⟩)\/
 (∃(id:Nat) (b:BA) (args':List AV) (r:AV),(Unit->(id≠0/\bk id=some b/\((DD args).all fun k=>k==id)=true)/\HI (Gf bk) args args')/\(Unit->E.C false g args' r/\r.all Bt=true)/\K ⟨r,[(id,.dead b.BK)],[id]⟩)
def Gj (TI:TypeId->Info) (b:Builtin) (tys:List TypeId) (args:List AV) (d:Nat) (bk:Nat->Option BA) (K:CT->Prop):Prop:=
 match b,tys,args with
 | .len,[t0],[.one (.sl _ l)]=>(TI t0).sl=true/\∀n,EY n l.length->K ⟨.one (.int .i64 n),[],[]⟩
 |.len,[t0],[.one (.Ex _ id v _ len)]|.len,[t0],[.one (.BI _ id v _ len)]=>(TI t0).sl=true/\if BK bk id=v then ∀n,BG n len->K ⟨.one (.int .i64 n),[],[id]⟩ else False
 |.len,[t0],[.one .nil]|.cap,[t0],[.one .nil]=>(TI t0).sl=true/\K ⟨.one (.int .i64 0),[],[]⟩
 | .min,_,[.one (.int k a),.one (.int _ b)]=>∀c,c=(if b<a then b else a)->K ⟨.one (.int k c),[],[]⟩
 | .append,[t0,t1],[.one .nil,.one x]=>
  ((TI t0).sl=true/\(TI t1).sl=true)/\∃l2:List (el (TI t0).elem),(Unit->Gf bk x (.sl _ l2)/\fits l2.length (TI t0).G0)/\
    ∀n,n=l2.length->K ⟨.one (.BI (TI t0).elem d (BK bk d+1) 0 n),[(d,.arr (BK bk d+1) _ l2)],d::DI x⟩
 | .append,[t0,t1],[.one (.Ex t id v off len),.one x]=>
  ((TI t0).sl=true/\(TI t1).sl=true)/\match bk id with
    | some (.arr v' t' l)=>if v'=v/\T.beq t' t=true/\T.beq t' (TI t0).elem=true then
     ∃l2:List (el t'),(Unit->off=0/\len<=l.length/\Gf bk x (.sl _ l2)/\fits (len+l2.length) (TI t0).G0)/\
      ∀l' n,(l'=l.take len++l2/\n=l'.length)->K ⟨.one (.BI t' id (v+1) 0 n),[(id,.arr (v+1) t' l')],id::DI x⟩
     else False
    | _=>False
 | .append,[t0,t1],[.one (.BI t id v off len),.one x]=>
  ((TI t0).sl=true/\(TI t1).sl=true)/\match bk id with
    | some (.arr v' t' l)=>if v'=v/\T.beq t' t=true/\T.beq t' (TI t0).elem=true then
     ∃l2:List (el t'),(Unit->off=0/\len=l.length/\Gf bk x (.sl _ l2)/\fits (l.length+l2.length) (TI t0).G0)/\
      ∀l' n,(l'=l++l2/\n=l'.length)->K ⟨.one (.BI t' id (v+1) 0 n),[(id,.arr (v+1) t' l')],id::DI x⟩
     else False
    | _=>False
 | _,_,_=>False
def NM (K:CT->Prop) (f:CT):Prop:=
 match f.v,f.ws with
 | .one (.BI t id v off n),[(i,.arr v' t' l)]=>if (id !=0&&id==i&&v==v'&&off==0&&T.beq t t')=true then (Unit->n=l.length)/\K ⟨.one (.sl t' l),[(id,.dead v)],f.rd⟩ else False
 | _,_=>False
def Su (TI:TypeId->Info) (b:Builtin) (tys:List TypeId) (args:List AV) (d:Nat) (bk:Nat->Option BA) (K:CT->Prop):Prop:=
 match b with
 | .append=>Gj TI b tys args d bk K\/Gj TI b tys args d bk (NM K)
 | _=>Gj TI b tys args d bk K
def Sz:List (Nat×List AC)->Nat->List (List AC)->Prop
 | [],_,[]=>True
 | p::r,k,x::m=>p.1=k/\Bg Bo p.2 x/\Sz r (k+1) m
 | _,_,_=>False
def Kh (len:Nat) (lo hi mx:Option AV) (K:Nat->Nat->Bool->Prop):Prop:=
 match lo,hi,mx with
 | none,none,none=>∀h,h=len->K 0 h false
 | some (.one (.int _ a)),none,none=>(Unit->0<=a/\a.toNat<=len)/\∀l h,(l=a.toNat/\h=len)->K l h false
 | none,some (.one (.int _ b)),none=>(Unit->0<=b/\b.toNat<=len)/\∀h,h=b.toNat->K 0 h false
 | some (.one (.int _ a)),some (.one (.int _ b)),none=>(Unit->0<=a/\a<=b/\b.toNat<=len)/\∀l h,(l=a.toNat/\h=b.toNat)->K l h false
 | none,some (.one (.int _ b)),some (.one (.int _ m))=>(Unit->0<=b/\b=m/\m.toNat<=len)/\∀h,h=b.toNat->K 0 h true
 | _,_,_=>False
def Kg (bk:Nat->Option BA) (u:T) (x:AV) (lo hi mx:Option AV) (K:CT->Prop):Prop:=
 match x with
 | .one (.sl t l)=>T.beq t u=true/\∀n,n=l.length->Kh n lo hi mx fun a b _=>∀l',l'=(l.take b).drop a->K ⟨.one (.sl t l'),[],[]⟩
 | .one (.BI t id v off len)=>T.beq t u=true/\if BK bk id=v then Kh len lo hi mx fun a b c=>∀o n,(o=off+a/\n=b-a)->
  match c with | true=>K ⟨.one (.Ex t id v o n),[],[id]⟩ | false=>K ⟨.one (.BI t id v o n),[],[id]⟩
  else False
 | .one .nil=>Kh 0 lo hi mx fun _ _ _=>K ⟨.one .nil,[],[]⟩
 | _=>False
def DC (E:Env) (TI:TypeId->Info) (o:Oper) (d:Nat) (e:Operand->AV) (bk:Nat->Option BA) (K:CT->Prop):Prop:=
 match o.op with
 |.move x|.assign x=>K ⟨e x,[],[]⟩
 | .nilCheck x=>match e x with
  | .one (.BC id v off)=>if BK bk id=v then K ⟨e x,[],[id]⟩ else False
  | .one (.fn _)=>K ⟨e x,[],[]⟩
  | _=>False
 | .pick c a b=>match e c with
  | .one (.bool true)=>K ⟨e a,[],[]⟩
  | .one (.bool false)=>K ⟨e b,[],[]⟩
  | _=>False
 | .alloc t=>(TI t).known=true/\K ⟨.one (.BC d (BK bk d+1) 0),[(d,.var (BK bk d+1) (TI t).zero)],[d]⟩
 | .box _ x=>match e x with
  |.AI _|.one .CQ=>False
  | v=>K ⟨.one (.BC d (BK bk d+1) 0),[(d,.var (BK bk d+1) v.cs)],[d]⟩
 | .extract t i=>match e t with
  | .AI xs=>match xs[i]? with
   | some x=>K ⟨Ez x,[],[]⟩
   | none=>False
  | _=>False
 | .load t a=>(TI t).known=true/\match e a with
  | .one (.BC id v off)=>match bk id with
   | some (.var v' cs)=>if v'=v/\(HX cs off (TI t).size).length=(TI t).size then K ⟨ld (TI t) cs off,[],[id]⟩ else False
   | _=>False
  | .one (.FE t' x off)=>MP t' x fun cs=>if (HX cs off (TI t).size).length=(TI t).size then K ⟨ld (TI t) cs off,[],[]⟩ else False
  | .one (.Ea t' id v i k)=>match bk id with
   | some (.arr v' u l)=>if v'=v/\T.beq t' u=true then ∃x:el u,(Unit->l[i]? =some x)/\MP u x fun cs=>
    if (HX cs k (TI t).size).length=(TI t).size then K ⟨ld (TI t) cs k,[],[id]⟩ else False
    else False
   | _=>False
  | _=>False
 | .store t a x=>(TI t).known=true/\match e a with
  | .one (.BC id v off)=>match bk id,e x with
   |_,.AI _|_,.one .CQ=>False
   | some (.var v' cs),y=>if v'=v/\y.cs.length=(TI t).size/\off+(TI t).size<=cs.length then
    K ⟨.one .CQ,[(id,.var v (FA cs off y.cs))],[id]⟩ else False
   | _,_=>False
  | .one (.Ea t' id v i k)=>match bk id,e x with
   |_,.AI _|_,.one .CQ=>False
   | some (.arr v' u l),y=>if v'=v/\k=0/\(TI t).size=u.size/\T.beq t' u=true then
    ∃z:el u,(Unit->i<l.length/\Bg Bo y.cs (cells u z))/\∀l',l'=l.set i z->K ⟨.one .CQ,[(id,.arr v u l')],[id]⟩
    else False
   | _,_=>False
  | _=>False
 | .fieldAddr s x f=>(TI s).known=true/\match (TI s).fields[f]?,e x with
  | some (fo,_,_),.one (.BC id v off)=>if BK bk id=v then K ⟨.one (.BC id v (off+fo)),[],[id]⟩ else False
  | some (fo,_,_),.one (.FE t y off)=>K ⟨.one (.FE t y (off+fo)),[],[]⟩
  | some (fo,_,_),.one (.Ea t id v i k)=>if BK bk id=v then K ⟨.one (.Ea t id v i (k+fo)),[],[id]⟩ else False
  | _,_=>False
 | .field s x f=>(TI s).known=true/\match (TI s).fields[f]?,e x with
  | some (fo,n,g),.agg cs=>if (HX cs fo n).length=n then K ⟨Ez (g,HX cs fo n),[],[]⟩ else False
  | _,_=>False
 | .build t parts=>((TI t).known=true/\(TI t).fields.isEmpty=false)/\match JP (TI t).fields e parts.toList (TI t).zero with
  | some cs=>K ⟨.agg cs,[],[]⟩
  | none=>False
 | .buildSlice t len parts=>(TI t).sl=true/\(TI t).elem.size<=32/\∃xs:List (el (TI t).elem),
  (Unit->xs.length=len/\len<=524288/\(parts.toList.all fun p=>(e p.2).full)=true/\Sz (parts.toList.map fun p=>(p.1,(e p.2).cs)) 0 (xs.map (cells _)))/\
  (K ⟨.one (.BI (TI t).elem d (BK bk d+1) 0 len),[(d,.arr (BK bk d+1) _ xs)],[d]⟩\/K ⟨.one (.sl (TI t).elem xs),[],[]⟩)
 | .makeSlice t l c=>(TI t).sl=true/\match e l,e c with
  | .one (.int _ n),.one (.int _ m)=>(Unit->0<=n/\n<=m/\fits m.toNat (TI t).G0)/\
   ∀k z,(k=n.toNat/\z=List.replicate k (TI t).Ck)->K ⟨.one (.BI (TI t).elem d (BK bk d+1) 0 k),[(d,.arr (BK bk d+1) _ z)],[d]⟩
  | _,_=>False
 | .indexAddr t x i=>(TI t).sl=true/\match e x,e i with
  | .one (.sl t' l),.one (.int _ n)=>T.beq t' (TI t).elem=true/\∃x,(Unit->0<=n/\l[n.toNat]? =some x)/\K ⟨.one (.FE t' x 0),[],[]⟩
  | .one (.BI t' id v off len),.one (.int _ n)=>T.beq t' (TI t).elem=true/\if BK bk id=v then (Unit->0<=n/\n.toNat<len)/\∀j,j=off+n.toNat->K ⟨.one (.Ea t' id v j 0),[],[id]⟩ else False
  | _,_=>False
 | .slice t x lo hi mx=>(TI t).sl=true/\Kg bk (TI t).elem (e x) (lo.map e) (hi.map e) (mx.map e) K
 | .binOp op bt x y _=>match e x,e y with
  | .one (.int k a),.one (.int k' b)=>if k=k'\/op= .shl\/op= .shr then arith op k a b fun c=>K ⟨.one c,[],[]⟩ else False
  | .one (.bool a),.one (.bool b)=>(TI bt).Qy=true/\match op with
   | .eql=>∀c,c=(a==b)->K ⟨.one (.bool c),[],[]⟩
   | .neq=>∀c,c=(a !=b)->K ⟨.one (.bool c),[],[]⟩
   | _=>False
  | .one (.sl _ l),.one .nil=>(TI bt).sl=true/\match op with
   | .eql=>∀c,c=l.isEmpty->K ⟨.one (.ub c),[],[]⟩
   | _=>False
  | _,_=>False
 | .unOp op _ x=>match op,e x with
  | .not,.one (.bool b)=>∀c,c= !b->K ⟨.one (.bool c),[],[]⟩
  | .neg,.one (.int k n)=>∀c,c=k.wrap (0-n)->K ⟨.one (.int k c),[],[]⟩
  | _,_=>False
 | .convert src dst x=>(TI src).known=true/\match (TI dst).kind,e x with
  | some k,.one (.int _ n)=>∀c,c=k.wrap n->K ⟨.one (.int k c),[],[]⟩
  | _,_=>False
 | .call c=>match c.callee with
  | .builtin b=>Su TI b c.argTypes.toList (c.args.toList.map e) d bk K
  | .value f=>match e f with
   | .one (.fn g)=>Lg E g (c.args.toList.map e) d bk K
   | _=>False
  | .invoke _ _=>False
 | _=>False
def EW:List (Nat×BA)->List (Option BA)->List (Option BA)
 | [],b=>b
 | w::r,b=>EW r (By b w.1 (some w.2))
def HU (l:List AV):Option Nat->AV->List AV
 | some d,v=>By l d v
 | none,_=>l
def St.app (s:St) (d:Option Nat) (f:CT):St:=⟨HU s.sl d f.v,EW f.ws s.bk⟩
def CE (o:Oper):Nat:=o.dst.getD 1000000
abbrev Tr:=List (List Nat×List Nat)
def Qu (ops:List Oper) (j:Nat):Option Nat:=(ops[j]?).bind (·.dst)
def bc (o:Oper):List Nat:=o.op.operands.toList.filterMap fun | .tmp t=>some t | _=>none
def Jb (ops:List Oper) (o:Oper):List Nat:=
 o.dst.toList++bc o++(match o.guard with | some (j,_)=>(Qu ops j).toList | none=>[])
def GV (o:Oper):List Nat:=(o.after.toList.filter fun e=>Region.binds .any e).map (·.on)
def HK:List Oper->List (List Nat)->List (List Nat)
 | [],acc=>acc
 | o::r,acc=>HK r (acc++[(GV o).flatMap fun j=>j::acc.getD j []])
def OF (a b:List Nat):Bool:=a.all fun x=> !b.contains x
def Ny (ops:List Oper) (oi oj:Oper) (ti tj:List Nat×List Nat):Bool:=
 OF oi.dst.toList (Jb ops oj)&&OF oj.dst.toList (Jb ops oi)&&
 OF ti.2 (tj.1++tj.2)&&OF tj.2 ti.1
def bR (ops:List Oper) (tr:Tr) (bs:List (List Nat)):Bool:=
 (List.range ops.length).all fun j=>(List.range j).all fun i=>
  (bs.getD j []).contains i||
   (match ops[i]?,ops[j]?,tr[i]?,tr[j]? with
    | some oi,some oj,some ti,some tj=>Ny ops oi oj ti tj
    | _,_,_,_=>false)
def YC (ops:List Oper):Bool:=
 (List.range ops.length).all fun j=>match ops[j]? with | some o=>(GV o).all fun i=>decide (i<j) | none=>true
def LB (ops:List Oper) (tr:Tr):Bool:=YC ops&&bR ops tr (HK ops [])
def I6 (E:Env) (TI:TypeId->Info) (all:List Oper) (draw:Bool):List Oper->Tr->(St->Prop)->St->Prop
 | [],tr,Q,s=>match draw with
  | false=>Q s
  | true=>(Unit->LB all tr.reverse=true)/\Q s
 | o::r,tr,Q,s=>match o.guard with
  | none=>DC E TI o (CE o) (ev s.sl) (Ag s.bk) fun f=>I6 E TI all draw r ((f.rd,f.ws.map (·.1))::tr) Q (s.app o.dst f)
  | some (j,w)=>match Qu all j with
   | none=>False
   | some g=>match nth s.sl g,w with
    |.one (.bool true),true|.one (.bool false),false=>DC E TI o (CE o) (ev s.sl) (Ag s.bk) fun f=>I6 E TI all draw r ((f.rd,f.ws.map (·.1))::tr) Q (s.app o.dst f)
    |.one (.bool true),false|.one (.bool false),true|.AI [],_=>I6 E TI all draw r (([],[])::tr) Q (s.app o.dst ⟨.AI [],[],[]⟩)
    | _,_=>False
 inductive AX
  | Eb | exit (n:Nat) | ret
def K7 (bk:Nat->Option BA) (bs:List Nat):AC->AC
 | .BI t id v off len=>if bs.contains id&&BK bk id==v then .BI t id 0 off len else .CQ
 | .BC id v off=>if bs.contains id&&BK bk id==v then .BC id 0 off else .CQ
 | .Ea t id v i k=>if bs.contains id&&BK bk id==v then .Ea t id 0 i k else .CQ
 | .Ex _ _ _ _ _=> .CQ
 | c=>c
def U9 (bk:Nat->Option BA) (bs:List Nat):AV->AV
 | .one c=> .one (K7 bk bs c)
 | .agg cs=> .agg (cs.map (K7 bk bs))
 | .AI _=> .one .CQ
def Ol (bk:Nat->Option BA) (bs:List Nat):BA->BA
 | .var _ cs=> .var 0 (cs.map (K7 bk bs))
 | .arr _ t l=> .arr 0 t l
 | .dead _=> .dead 0
def Fi (s:St) (bs:List Nat):List Nat->List AV
 | []=>[]
 | k::r=>U9 (Ag s.bk) bs (nth s.sl k)::Fi s bs r
def FT (s:St) (bs:List Nat):List Nat->List BA
 | []=>[]
 | k::r=>(match Ag s.bk k with | some b=>if k==0&&b.BK !=0 then .dead 0 else Ol (Ag s.bk) bs b | none=> .dead 0)::FT s bs r
def Hl:List Nat->List AV->List AV->List AV
 | k::ks,v::vs,l=>Hl ks vs (By l k v)
 | _,_,l=>l
def I2:List Nat->List BA->List (Option BA)->List (Option BA)
 | k::ks,v::vs,l=>I2 ks vs (By l k (some v))
 | _,_,l=>l
def I4 {α:Type}:Nat->α->List α
 | 0,_=>[]
 | n+1,x=>x::I4 n x
def Iz (n:Nat) (ks:List Nat) (vs:List AV) (bs:List Nat) (bl:List BA):St:=
 ⟨Hl ks vs (I4 n (.one .CQ)),I2 bs bl (I4 n none)⟩
def Ma:Code->Bool
 |.skip|.region _ _ _=>true
 | .seq a b=>Ma a&&Ma b
 | .cond _ a b=>Ma a||Ma b
 |.block _ _|.loop _=>true
 | _=>false
def EZ (E:Env) (TI:TypeId->Info) (n:Nat):Code->(AX->St->Prop)->St->Prop
 | .skip,Q,s=>Q .Eb s
 | .region _ ops draw,Q,s=>I6 E TI ops.toList draw ops.toList [] (Q .Eb) s
 | .seq a b,Q,s=>EZ E TI n a (fun e s=>match e with | .Eb=>EZ E TI n b Q s | .exit i=>Q (.exit i) s | .ret=>Q .ret s) s
 | .cond c a b,Q,s=>match Ma a&&Ma b with
  | true=>(∃(ks bs:List Nat) (J:List AV->List BA->Prop),(∀vs bl,J vs bl->Q .Eb (Iz n ks vs bs bl))/\
    match ev s.sl c with
    | .one (.bool true)=>EZ E TI n a (fun e s'=>match e with | .Eb=>J (Fi s' bs ks) (FT s' bs bs) | .exit i=>Q (.exit i) s' | .ret=>Q .ret s') s
    | .one (.bool false)=>EZ E TI n b (fun e s'=>match e with | .Eb=>J (Fi s' bs ks) (FT s' bs bs) | .exit i=>Q (.exit i) s' | .ret=>Q .ret s') s
    | .one (.ub u)=>(u=true->EZ E TI n a (fun e s'=>match e with | .Eb=>J (Fi s' bs ks) (FT s' bs bs) | .exit i=>Q (.exit i) s' | .ret=>Q .ret s') s)/\
     EZ E TI n b (fun e s'=>match e with | .Eb=>J (Fi s' bs ks) (FT s' bs bs) | .exit i=>Q (.exit i) s' | .ret=>Q .ret s') s
    | _=>False)\/
   (match ev s.sl c with
   | .one (.bool true)=>EZ E TI n a Q s
   | .one (.bool false)=>EZ E TI n b Q s
   | .one (.ub u)=>(u=true->EZ E TI n a Q s)/\EZ E TI n b Q s
   | _=>False)
  | false=>match ev s.sl c with
   | .one (.bool true)=>EZ E TI n a Q s
   | .one (.bool false)=>EZ E TI n b Q s
   | .one (.ub u)=>(u=true->EZ E TI n a Q s)/\EZ E TI n b Q s
   | _=>False
 | .block id c,Q,s=>(∃(ks bs:List Nat) (J:List AV->List BA->Prop),(∀vs bl,J vs bl->Q .Eb (Iz n ks vs bs bl))/\
   EZ E TI n c (fun e s'=>match e with | .exit i=>if i=id then J (Fi s' bs ks) (FT s' bs bs) else Q (.exit i) s' | .Eb=>J (Fi s' bs ks) (FT s' bs bs) | .ret=>Q .ret s') s)\/
  EZ E TI n c (fun e s=>match e with | .exit i=>if i=id then Q .Eb s else Q (.exit i) s | .Eb=>Q .Eb s | .ret=>Q .ret s) s
 | .loop c,Q,s=>∃(ks bs:List Nat) (J:List AV->List BA->Nat->Prop),
  (∃k,J (Fi s bs ks) (FT s bs bs) k)/\∀vs bl k,J vs bl k->
   EZ E TI n c (fun e s'=>match e with
    | .Eb=>∃k',k'<k/\J (Fi s' bs ks) (FT s' bs bs) k'
    | .exit i=>Q (.exit i) s' | .ret=>Q .ret s') (Iz n ks vs bs bl)
 | .exit i,Q,s=>Q (.exit i) s
 | .ret,Q,s=>Q .ret s
 | _,_,_=>False
def Fs (bk:Nat->Option BA):AC->AC->Prop
 | .BI t id v off len,c=>(∃l,bk id=some (.arr v t l)/\off+len<=l.length/\c= .sl t ((l.drop off).take len))\/
  (∃l n,id≠0/\bk id=some (.arr v t l)/\off=0/\len=l.length/\n=l.length/\c= .own t l n)\/
  (id=0/\v=0/\c= .BI t 0 0 off len)
 | .nil,c=>c= .nil\/(∃t,c= .sl t [])\/∃t,c= .own t [] 0
 | .int k n,c=>c= .int k n
 | .bool b,c=>c= .bool b
 | .fn f,c=>c= .fn f
 | .sl t l,c=>c= .sl t l
 | _,_=>False
def KQ (bk:Nat->Option BA):List (Bool×List AC)->List (Bool×List AC)->Prop
 | [],[]=>True
 | a::l,b::m=>(a.1=b.1/\Bg (Fs bk) a.2 b.2)/\KQ bk l m
 | _,_=>False
def Hf:AC->Bool
 | .own _ _ _=>true
 | _=>false
def Kr:AC->Bool
 |.BI _ _ _ _ _|.own _ _ _=>true
 | _=>false
def Rg (src:List (Bool×List AC)) (res:List (Bool×List AC)):Bool:=
 match (res.flatMap (·.2)).filter Hf with
 | []=>true
 | [_]=>((src.flatMap (·.2)).filter Kr).length<=1
 | _=>false
def AV.F3:AV->List (Bool×List AC)
 | .AI xs=>xs
 | v=>[v.comp]
def R8 (TI:TypeId->Info) (s:St):ResultVar->Option (Bool×List AC)
 | .tmp t=>some (nth s.sl t).comp
 | .cell a t=>match nth s.sl a with
  | .one (.BC id v off)=>match Ag s.bk id with
   | some (.var v' cs)=>if (TI t).known&&v'==v&&(HX cs off (TI t).size).length==(TI t).size then some ((TI t).agg,HX cs off (TI t).size) else none
   | _=>none
  | _=>none
def KR (TI:TypeId->Info) (s:St):List ResultVar->Option (List (Bool×List AC))
 | []=>some []
 | r::rs=>match R8 TI s r,KR TI s rs with
  | some x,some xs=>some (x::xs)
  | _,_=>none
def Lv:AC->Bool
 | .BI _ 0 _ _ _=>false
 | _=>true
def On (TI:TypeId->Info) (rs:List ResultVar) (r:AV) (b0:BA) (e:AX) (s:St):Prop:=
 match e with
 | .exit _=>False
 | _=>match KR TI s rs with
  | some xs=>(Unit->(KQ (Ag s.bk) xs r.F3/\(xs.all fun x=>x.2.all Lv)=true/\(rs.length=1↔∀ys,r≠ .AI ys))/\Ag s.bk 0=some b0)
  | none=>False
def post (TI:TypeId->Info) (rs:List ResultVar) (r:AV) (b1:Option BA) (e:AX) (s:St):Prop:=
 match e with
 | .exit _=>False
 | _=>match KR TI s rs with
  | some xs=>(Unit->KQ (Ag s.bk) xs r.F3/\Rg xs r.F3=true/\(rs.length=1↔∀ys,r≠ .AI ys))/\
   (match b1 with | none=>True | some b=>Unit->Ag s.bk 0=some b)
  | none=>False
def Eh (n:Nat) (args:List AV) (b0:Option BA):St:=
 ⟨args++I4 (n-args.length) (.one .CQ),match n with | 0=>[] | n+1=>b0::I4 n none⟩
open Go.RowKit
def BO {α β:Type} (R:α->β->Prop):List α->List β->Prop
 | [],[]=>True
 | a::l,b::m=>R a b/\BO R l m
 | _,_=>False
theorem BO.mono {α β:Type} {R R':α->β->Prop}:∀{l:List α} {m:List β},(∀a b,R a b->R' a b)->BO R l m->BO R' l m
 | [],[],_,h=>h
 | _::_,_::_,c,h=>⟨c _ _ h.1,BO.mono c h.2⟩
 |[],_::_,_,h|_::_,[],_,h=>h
theorem BO.length {α β:Type} {R:α->β->Prop}:∀{l:List α} {m:List β},BO R l m->l.length=m.length
 | [],[],_=>rfl
 | _::_,_::_,h=>by simp[BO.length h.2]
 |[],_::_,h|_::_,[],h=>h.elim
theorem BO.get {α β:Type} {R:α->β->Prop}:∀{l:List α} {m:List β},BO R l m->∀(i:Nat) (a:α),l[i]? =some a->∃b,m[i]? =some b/\R a b
 | _::_,b::_,h,0,a,e=>by simp at e;exact⟨b,by simp,e ▸ h.1⟩
 | _::_,_::_,h,i+1,a,e=>by simpa using BO.get h.2 i a (by simpa using e)
 | [],[],_,_,_,e=>by simp at e
 |[],_::_,h,_,_,_|_::_,[],h,_,_,_=>h.elim
theorem BO.append {α β:Type} {R:α->β->Prop}:∀{l:List α} {m:List β} {l':List α} {m':List β},BO R l m->BO R l' m'->BO R (l++l') (m++m')
 | [],[],_,_,_,h=>h
 | _::_,_::_,_,_,h,h'=>⟨h.1,BO.append h.2 h'⟩
 |[],_::_,_,_,h,_|_::_,[],_,_,h,_=>h.elim
theorem BO.VH {α β:Type} {R:α->β->Prop}:∀{l l':List α} {m:List β},BO R (l++l') m->∃m1 m2,m=m1++m2/\BO R l m1/\BO R l' m2
 | [],_,m,h=>⟨[],m,rfl,trivial,h⟩
 | _::_,_,[],h=>h.elim
 | _::_,_,b::_,h=>by
  obtain⟨m1,m2,e,c,d⟩:=BO.VH h.2;exact⟨b::m1,m2,by simp[e],⟨h.1,c⟩,d⟩
theorem BO.drop {α β:Type} {R:α->β->Prop}:∀{l:List α} {m:List β} (n:Nat),BO R l m->BO R (l.drop n) (m.drop n)
 | _,_,0,h=>by simpa using h
 | [],[],_+1,_=>trivial
 | _::_,_::_,n+1,h=>by simpa using BO.drop n h.2
 |[],_::_,_,h|_::_,[],_,h=>h.elim
theorem BO.take {α β:Type} {R:α->β->Prop}:∀{l:List α} {m:List β} (n:Nat),BO R l m->BO R (l.take n) (m.take n)
 | _,_,0,_=>by simp[BO]
 | [],[],_+1,_=>trivial
 | _::_,_::_,n+1,h=>by simpa [BO] using ⟨h.1,BO.take n h.2⟩
 |[],_::_,_,h|_::_,[],_,h=>h.elim
theorem NS:∀(cs:List AC) (off n:Nat),HX cs off n=(cs.drop off).take n
 |_,0,_|[],_+1,_=>by simp[HX]
 | _::cs,off+1,n=>by simpa [HX] using NS cs off n
theorem Ij:∀(t:T) (x:el t),(cells t x).length=t.size
 |.u8,_|.u32,_|.u64,_|.i8,_|.i64,_|.bool,_|.sl _,_=>rfl
 | .pr a b,x=>by simp[cells,T.size,Ij a,Ij b]
theorem T.size_pos:∀t:T,0<t.size
 | .pr a b=>by have:=T.size_pos a;simp[T.size];omega
 |.u8|.u32|.u64|.i8|.i64|.bool|.sl _=>Nat.one_pos
def rep (w:World) (I:Nat->Prop):(t:T)->el t->List Value->Prop
 | .u8,x,vs=>vs=[.int .u8 x.toNat]
 | .u32,x,vs=>vs=[.int .u32 x.toNat]
 | .u64,x,vs=>vs=[.int .u64 x.toNat]
 | .i8,x,vs=>vs=[.int .i8 x]
 | .i64,x,vs=>vs=[.int .i64 x]
 | .bool,x,vs=>vs=[.bool x]
 | .sl t,l,vs=>∃base cap,vs=[.slice base l.length cap]/\l.length<=cap/\l.length<=140737488355328/\
  (l=[]\/∃b off,base=some ⟨b,off,none⟩/\I b/\∀(i:Nat) (x:el t),l[i]? =some x->∃us,rep w I t x us/\w.rangeAt b (off+i*t.size) us)
 | .pr a b,x,vs=>∃v1 v2,vs=v1++v2/\rep w I a x.1 v1/\rep w I b x.2 v2
theorem rangeAt_of_block {w w':World} {b o:Nat} {vs:List Value} (h:w'.heap[b]? =w.heap[b]?) (c:w.rangeAt b o vs):w'.rangeAt b o vs:=
 fun j v d=>(World.cell?_of_block (w:=w) (a:=⟨b,o+j,none⟩) h).trans (c j v d)
theorem EN {w w':World} {I g:Nat->Prop} (h:∀b,I b->g b/\w'.heap[b]? =w.heap[b]?):∀(t:T) (x:el t) (vs:List Value),rep w I t x vs->rep w' g t x vs
 |.u8,_,_,c|.u32,_,_,c|.u64,_,_,c|.i8,_,_,c|.i64,_,_,c|.bool,_,_,c=>c
 | .sl t,_,_,⟨base,cap,e,d,f,k⟩=>⟨base,cap,e,d,f,k.imp id fun⟨b,off,hb,j,hc⟩=>
  ⟨b,off,hb,(h b j).1,fun i x l=>let ⟨us,hu,c⟩:=hc i x l;⟨us,EN h t x us hu,rangeAt_of_block (h b j).2 c⟩⟩⟩
 | .pr a b,x,_,⟨v1,v2,e,d,f⟩=>⟨v1,v2,e,EN h a x.1 v1 d,EN h b x.2 v2 f⟩
theorem LN {w:World} {I:Nat->Prop}:∀(t:T) (x:el t) (vs:List Value),rep w I t x vs->vs.length=t.size
 |.u8,_,_,h|.u32,_,_,h|.u64,_,_,h|.i8,_,_,h|.i64,_,_,h|.bool,_,_,h=>by rw[show _=_ from h];rfl
 | .sl _,_,_,⟨_,_,e,_⟩=>by rw[e];rfl
 | .pr a b,x,_,⟨v1,v2,e,c,d⟩=>by rw[e,List.length_append,LN a x.1 v1 c,LN b x.2 v2 d];rfl
theorem R7 {w:World} {I:Nat->Prop}:∀(t:T) (x:el t) (vs:List Value),rep w I t x vs->∀v∈vs,v.oneCell'=true
 |.u8,_,_,h,v,c|.u32,_,_,h,v,c|.u64,_,_,h,v,c|.i8,_,_,h,v,c|.i64,_,_,h,v,c|.bool,_,_,h,v,c=>by rw[show _=_ from h] at c;simp at c;subst c;rfl
 | .sl _,_,_,⟨_,_,e,_⟩,v,c=>by rw[e] at c;simp at c;subst c;rfl
 | .pr a b,x,_,⟨v1,v2,e,d,f⟩,v,c=>by
  rw[e] at c;rcases List.mem_append.1 c with h | h
  ·exact R7 a x.1 v1 d v h
  exact R7 b x.2 v2 f v h
def JF (w:World) (o:Option Nat) (n off len:Nat) (full:Bool) (v:Value):Prop:=
 ∃base cap,v= .slice base len cap/\len<=cap/\cap<=maxLen/\(full=true->cap=len)/\
  (cap=0\/∃b arr e,o=some b/\base=some ⟨b,off*n,none⟩/\w.heap[b]? =some (.cells arr e (0,0))/\(off+cap)*n<=arr.size)
structure Cx where
 w:World
 β:Nat->Option Nat
 cv:Nat->Nat
 I:Nat->Prop
def Bn (x:Cx):AC->Value->Prop
 | .CQ,v=>v.oneCell'=true
 | .int k n,v=>v= .int k n
 | .bool b,v=>v= .bool b
 | .fn f,v=>v= .func (.func f) #[] #[]
 | .nil,v=>v= .slice none 0 0
 | .sl t l,v=>rep x.w x.I (.sl t) l [v]
 | .BI t id BK off len,v=>(v.oneCell'=true/\BK<=x.cv id)/\(BK=x.cv id->JF x.w (x.β id) t.size off len false v)
 | .Ex t id BK off len,v=>(v.oneCell'=true/\BK<=x.cv id)/\(BK=x.cv id->JF x.w (x.β id) t.size off len true v)
 | .BC id BK off,v=>(v.oneCell'=true/\BK<=x.cv id)/\(BK=x.cv id->∃b,x.β id=some b/\v= .pointer (some ⟨b,off,none⟩))
 | .Ea t id BK i k,v=>(v.oneCell'=true/\BK<=x.cv id)/\(BK=x.cv id->∃b,x.β id=some b/\v= .pointer (some ⟨b,i*t.size+k,none⟩))
 | .ub e,v=>∃b:Bool,v= .bool b/\(b=true->e=true)
 | .FE t y off,v=>∃b o us,v= .pointer (some ⟨b,o+off,none⟩)/\x.I b/\rep x.w x.I t y us/\x.w.rangeAt b o us
 | .own _ _ _,_=>False
theorem Bn.one {x:Cx}:∀{c:AC} {v:Value},Bn x c v->v.oneCell'=true
 | .CQ,_,h=>h
 |.int _ _,_,h|.bool _,_,h|.fn _,_,h|.nil,_,h=>by rw[show _=_ from h];rfl
 | .sl _ _,_,h=>R7 _ _ _ h _ (by simp)
 |.BI _ _ _ _ _,_,h|.Ex _ _ _ _ _,_,h|.BC _ _ _,_,h|.Ea _ _ _ _ _,_,h=>h.1.1
 |.FE _ _ _,_,⟨_,_,_,e,_⟩|.ub _,_,⟨_,e,_⟩=>by rw[e];rfl
 | .own _ _ _,_,h=>h.elim
def FO (x:Cx):AV->Value->Prop
 | .one c,v=>c= .CQ\/Bn x c v
 | .agg cs,v=>∃arr,v= .agg arr/\BO (Bn x) cs arr.toList
 | .AI _,_=>False
def CB (x:Cx):AV->Value->Prop
 | .AI xs,v=>∃arr,v= .tuple arr/\BO (fun y u=>FO x (Ez y) u) xs arr.toList
 | a,v=>FO x a v
def Ee (x:Cx) (id:Nat):BA->Prop
 | .dead _=>True
 | .var _ cs=>∃b arr e,x.β id=some b/\x.w.heap[b]? =some (.cells arr e (0,0))/\BO (Bn x) cs arr.toList
 | .arr _ t l=>(x.β id=none/\l=[])\/∃b arr e,x.β id=some b/\x.w.heap[b]? =some (.cells arr e (0,0))/\
  ∀(i:Nat) (y:el t),l[i]? =some y->∃us,rep x.w x.I t y us/\x.w.rangeAt b (i*t.size) us
structure Cx.le (x y:Cx):Prop where
 cv:∀id,x.cv id<=y.cv id
 β:∀id,y.cv id=x.cv id->y.β id=x.β id
 size:∀id b arr e,y.cv id=x.cv id->x.β id=some b->x.w.heap[b]? =some (.cells arr e (0,0))->∃arr',y.w.heap[b]? =some (.cells arr' e (0,0))/\arr'.size=arr.size
 I:∀b,x.I b->y.I b/\y.w.heap[b]? =x.w.heap[b]?
theorem JF.mono {x y:Cx} (h:x.le y) {id n off len:Nat} {f:Bool} {v:Value} (hc:y.cv id=x.cv id) (m:JF x.w (x.β id) n off len f v):JF y.w (y.β id) n off len f v:=by
 obtain⟨base,cap,e,g,i,k,h3⟩:=m;refine⟨base,cap,e,g,i,k,h3.imp (fun q=>q) fun⟨b,arr,e',hb,c,l,p⟩=>?_⟩;obtain⟨d,j,o⟩:=h.size id b arr e' hc hb l;exact⟨b,d,e',(h.β id hc).trans hb,c,j,by omega⟩
theorem Bn.mono {x y:Cx} (h:x.le y):∀{c:AC} {v:Value},Bn x c v->Bn y c v
 |.CQ,_,r|.int _ _,_,r|.bool _,_,r|.fn _,_,r|.nil,_,r=>r
 | .sl _ _,_,r=>EN h.I _ _ _ r
 | .BI _ id v _ _,_,r=>⟨⟨r.1.1,Nat.le_trans r.1.2 (h.cv id)⟩,fun e=>by
  have:=h.cv id;have e1:v=x.cv id:=by have:=r.1.2;omega
  exact JF.mono h (e ▸ e1) (r.2 e1)⟩
 | .Ex _ id v _ _,_,r=>⟨⟨r.1.1,Nat.le_trans r.1.2 (h.cv id)⟩,fun e=>by
  have:=h.cv id;have e1:v=x.cv id:=by have:=r.1.2;omega
  exact JF.mono h (e ▸ e1) (r.2 e1)⟩
 | .BC id v _,_,r=>⟨⟨r.1.1,Nat.le_trans r.1.2 (h.cv id)⟩,fun e=>by
  have:=h.cv id;have e1:v=x.cv id:=by have:=r.1.2;omega
  obtain⟨b,hb,d⟩:=r.2 e1;exact⟨b,(h.β id (e ▸ e1)).trans hb,d⟩⟩
 | .Ea _ id v _ _,_,r=>⟨⟨r.1.1,Nat.le_trans r.1.2 (h.cv id)⟩,fun e=>by
  have:=h.cv id;have e1:v=x.cv id:=by have:=r.1.2;omega
  obtain⟨b,hb,d⟩:=r.2 e1;exact⟨b,(h.β id (e ▸ e1)).trans hb,d⟩⟩
 | .ub _,_,h=>h
 | .FE t y' _,_,⟨b,o,us,e,f,g,ha⟩=>⟨b,o,us,e,(h.I b f).1,EN h.I t y' us g,rangeAt_of_block (h.I b f).2 ha⟩
 | .own _ _ _,_,r=>r.elim
theorem FO.mono {x y:Cx} (h:x.le y):∀{a:AV} {v:Value},FO x a v->FO y a v
 | .one _,_,r=>r.imp (fun q=>q) (Bn.mono h)
 | .agg _,_,⟨arr,e,r⟩=>⟨arr,e,r.mono fun _ _=>Bn.mono h⟩
 | .AI _,_,r=>r.elim
theorem CB.mono {x y:Cx} (h:x.le y):∀{a:AV} {v:Value},CB x a v->CB y a v
 | .one c,v,r=>FO.mono h (a:= .one c) r
 | .agg cs,v,r=>FO.mono h (a:= .agg cs) r
 | .AI _,_,⟨arr,e,r⟩=>⟨arr,e,r.mono fun _ _=>FO.mono h⟩
theorem Jg (x:Cx):∀(t:T) (y:el t) (vs:List Value),rep x.w x.I t y vs↔BO (Bn x) (cells t y) vs
 | .u8,y,vs=>one x (.int .u8 y.toNat) _ vs fun _=>Iff.rfl
 | .u32,y,vs=>one x (.int .u32 y.toNat) _ vs fun _=>Iff.rfl
 | .u64,y,vs=>one x (.int .u64 y.toNat) _ vs fun _=>Iff.rfl
 | .i8,y,vs=>one x (.int .i8 y) _ vs fun _=>Iff.rfl
 | .i64,y,vs=>one x (.int .i64 y) _ vs fun _=>Iff.rfl
 | .bool,y,vs=>one x (.bool y) _ vs fun _=>Iff.rfl
 | .sl t,y,vs=>by
  match vs with
  | []=>exact⟨fun⟨_,_,e,_⟩=>by simp at e,fun h=>h.elim⟩
  | [v]=>exact⟨fun h=>⟨h,trivial⟩,fun h=>h.1⟩
  | _::_::_=>exact⟨fun⟨_,_,e,_⟩=>by simp at e,fun h=>h.2.elim⟩
 | .pr a b,y,vs=>by
  constructor
  ·rintro⟨v1,v2,rfl,d,f⟩
   exact ((Jg x a y.1 v1).1 d).append ((Jg x b y.2 v2).1 f)
  intro h;obtain⟨m1,m2,e,d,f⟩:=BO.VH h;exact⟨m1,m2,e,(Jg x a y.1 m1).2 d,(Jg x b y.2 m2).2 f⟩
where
 one (x:Cx) (c:AC) (u:Value) (vs:List Value) (h:∀v,Bn x c v↔v=u):vs=[u]↔BO (Bn x) [c] vs:=by
  match vs with
  | []=>exact⟨fun e=>by simp at e,fun h=>h.elim⟩
  | [v]=>exact⟨fun e=>⟨(h v).2 (by simpa using e),trivial⟩,fun g=>by rw[(h v).1 g.1]⟩
  | _::_::_=>exact⟨fun e=>by simp at e,fun h=>h.2.elim⟩
theorem Ee.mono {x y:Cx} (h:x.le y) {id:Nat} {b:BA} (hc:y.cv id=x.cv id) (hb:∀k,x.β id=some k->y.w.heap[k]? =x.w.heap[k]?) (r:Ee x id b):Ee y id b:=by
 cases b with
 | dead _=>trivial
 | var _ cs=>
  obtain⟨b,arr,e,c,d,h3⟩:=r;exact⟨b,arr,e,(h.β id hc).trans c,(hb b c).trans d,h3.mono fun _ _=>Bn.mono h⟩
 | arr _ t l=>
  refine r.imp (fun q=>⟨(h.β id hc).trans q.1,q.2⟩) fun⟨b,arr,e,c,d,h3⟩=>?_
  refine⟨b,arr,e,(h.β id hc).trans c,(hb b c).trans d,fun i y' f=>?_⟩;obtain⟨us,hu,ha⟩:=h3 i y' f;exact⟨us,EN h.I t y' us hu,rangeAt_of_block (hb b c) ha⟩
theorem Lw:∀(l:List AV) (d:Nat) (v:AV) (i:Nat),nth (By l d v) i=if i=d/\d<l.length then v else nth l i
 |[],d,v,i|_::_,0,v,0|_::_,0,v,i+1|_::_,d+1,v,0=>by simp[By,nth]
 | a::l,d+1,v,i+1=>by simp[By,nth,Lw l d v i]
theorem I1:∀(l:List (Option BA)) (d:Nat) (v:Option BA) (i:Nat),Ag (By l d v) i=if i=d/\d<l.length then v else Ag l i
 |[],d,v,i|_::_,0,v,0|_::_,0,v,i+1|_::_,d+1,v,0=>by simp[By,Ag]
 | a::l,d+1,v,i+1=>by simp[By,Ag,I1 l d v i]
theorem IF {α:Type}:∀(l:List α) (d:Nat) (v:α),(By l d v).length=l.length
 |[],_,_|_::_,0,_=>rfl
 | _::l,d+1,v=>by simp[By,IF l d v]
theorem LA:∀(l:List (Option BA)) (i:Nat),l.length<=i->Ag l i=none
 | [],_,_=>rfl
 | _::_,0,h=>by simp at h
 | _::l,i+1,h=>by simpa [Ag] using LA l i (by simpa using h)
theorem KT {α:Type}:∀(l:List α) (d:Nat) (v:α),l.length<=d->By l d v=l
 | [],_,_,_=>rfl
 | _::_,0,_,h=>by simp at h
 | a::l,d+1,v,h=>by simp[By,KT l d v (by simpa using h)]
def BA.live:BA->Bool
 | .dead _=>false
 | _=>true
def BA.short:BA->Prop
 | .arr _ _ l=>l.length<=140737488355328
 | _=>True
def live (bk:Nat->Option BA) (id:Nat):Prop:=∃b,bk id=some b/\b.live=true
structure WX where
 X:Nat->Prop
 A:Nat->Prop
 ob:Option Nat
def cx (X:WX) (w:World) (β:Nat->Option Nat) (bk:Nat->Option BA):Cx:=
 ⟨w,β,BK bk,fun b=>(b<w.heap.size/\∀id,live bk id->β id≠some b)/\X.A b⟩
structure CD (w0:World) (X:WX) (β:Nat->Option Nat) (s:St) (a:Act) (w:World):Prop where
 defers:a.defers=[]
 len:s.sl.length=a.tmps.size
 J9:s.bk.length=a.tmps.size
 DF:∀i,CB (cx X w β (Ag s.bk)) (nth s.sl i) (a.tmps.getD i undef)
 blocks:∀id b,Ag s.bk id=some b->Ee (cx X w β (Ag s.bk)) id b
 inj:∀id id' b,live (Ag s.bk) id->live (Ag s.bk) id'->β id=some b->β id'=some b->id=id'
 own:∀id b,live (Ag s.bk) id->β id=some b->w0.heap.size<=b\/(X.X b/\id=0)
 os:w.os=w0.os
 tape:w.tape=w0.tape
 output:w.output=w0.output
 size:w0.heap.size<=w.heap.size
 block:∀b,b<w0.heap.size->¬X.X b->w.heap[b]? =w0.heap[b]?
 lens:∀id b,Ag s.bk id=some b->b.short
 fresh:∀b,w0.heap.size<=b->X.A b
 Mg:live (Ag s.bk) 0->BK (Ag s.bk) 0=0->β 0=X.ob/\∀(b:Nat) arr e,X.ob=some b->w0.heap[b]? =some (.cells arr e (0,0))->∃arr',w.heap[b]? =some (.cells arr' e (0,0))/\arr'.size=arr.size
section
variable {w0:World} {X:WX} {β:Nat->Option Nat} {s:St} {a:Act} {w:World}
theorem LM (x:Cx) (v:Value):CB x (.one .CQ) v:=Or.inl rfl
theorem mE (a:Act) (d:Nat) (v:Value) (i:Nat):(a.put (some d) v).tmps.getD i undef=if i=d/\d<a.tmps.size then v else a.tmps.getD i undef:=by
 simp only[Act.put,Array.getD_eq_getD_getElem?,Array.getElem?_setIfInBounds]
 by_cases h:d=i
 ·subst h
  by_cases b:d<a.tmps.size <;> simp[b]
 simp[h,Ne.symm h]
theorem dv {x:Cx} {s:St} {a:Act} (hlen:s.sl.length=a.tmps.size) (h:∀i,CB x (nth s.sl i) (a.tmps.getD i undef)) (dst:Option Nat) (v:AV) (u:Value) (b:CB x v u):
  ∀i,CB x (nth (HU s.sl dst v) i) ((a.put dst u).tmps.getD i undef):=by
 intro i;cases dst with
 | none=>exact h i
 | some d=>
  rw[mE];simp only[HU,Lw,hlen]
  split
  ·exact b
  exact h i
theorem Z8 {s:St} {a:Act} (hlen:s.sl.length=a.tmps.size) (dst:Option Nat) (v:AV) (u:Value):(HU s.sl dst v).length=(a.put dst u).tmps.size:=by
 cases dst <;> simp[HU,Act.put,IF,hlen]
theorem size_put (a:Act) (dst:Option Nat) (u:Value):(a.put dst u).tmps.size=a.tmps.size:=by cases dst <;> simp[Act.put]
theorem Yu (a:Act) (dst:Option Nat) (u:Value):(a.put dst u).defers=a.defers:=by cases dst <;> rfl
theorem CD.ext (S:CD w0 X β s a w) {w':World} {dst:Option Nat} {v:AV} {u:Value} {rd:List Nat} (hw:∀b,b<w.heap.size->w'.heap[b]? =w.heap[b]?) (d:w.heap.size<=w'.heap.size)
  (n:w'.os=w.os) (g:w'.tape=w.tape) (m:w'.output=w.output) (p:CB (cx X w' β (Ag s.bk)) v u):CD w0 X β (s.app dst ⟨v,[],rd⟩) (a.put dst u) w':=by
 have c:∀b o,w.heap[b]? =some o->b<w.heap.size:=fun b o h=>by
  rcases Nat.lt_or_ge b w.heap.size with h' | h'
  ·exact h'
  simp[Array.getElem?_eq_none h'] at h
 have hle:(cx X w β (Ag s.bk)).le (cx X w' β (Ag s.bk)):=
  ⟨fun _=>Nat.le_refl _,fun _ _=>rfl,fun id b arr e _ _ x=>⟨arr,(hw b (c b _ x)).trans x,rfl⟩,fun b hb=>⟨⟨⟨Nat.lt_of_lt_of_le hb.1.1 d,hb.1.2⟩,hb.2⟩,hw b hb.1.1⟩⟩
 refine⟨(Yu _ _ _).trans S.defers,Z8 S.len _ _ _,S.J9.trans (size_put _ _ _).symm,dv S.len (fun i=>CB.mono hle (S.DF i)) dst v u p,fun id b hb=>?_,S.inj,S.own,
  n.trans S.os,g.trans S.tape,m.trans S.output,Nat.le_trans S.size d,fun b hb B=>(hw b (Nat.lt_of_lt_of_le hb S.size)).trans (S.block b hb B),S.lens,S.fresh,fun A p=>?_⟩
 case refine_2=>
  obtain⟨k,f⟩:=S.Mg A p;refine⟨k,fun b arr e hb he=>?_⟩;obtain⟨j,h3,y⟩:=f b arr e hb he;exact⟨j,(hw b (c b _ h3)).trans h3,y⟩
 have r:=S.blocks id b hb;cases b with
 | dead _=>trivial
 | var _ cs=>
  obtain⟨b,arr,e,k,f,h3⟩:=r;exact⟨b,arr,e,k,(hw b (c b _ f)).trans f,h3.mono fun _ _=>Bn.mono hle⟩
 | arr _ t l=>
  refine r.imp (fun q=>q) fun⟨b,arr,e,k,f,h3⟩=>?_
  refine⟨b,arr,e,k,(hw b (c b _ f)).trans f,fun i y' z=>?_⟩;obtain⟨us,hu,ha⟩:=h3 i y' z;exact⟨us,EN hle.I t y' us hu,rangeAt_of_block (hw b (c b _ f)) ha⟩
theorem CD.val (S:CD w0 X β s a w) {dst:Option Nat} {v:AV} {u:Value} {rd:List Nat} (b:CB (cx X w β (Ag s.bk)) v u):CD w0 X β (s.app dst ⟨v,[],rd⟩) (a.put dst u) w:=
 S.ext (fun _ _=>rfl) (Nat.le_refl _) rfl rfl rfl b
theorem HY (l:List (Option BA)) (id:Nat) (b:BA) (c:id<l.length) (k:Nat):BK (Ag (By l id (some b))) k=if k=id then b.BK else BK (Ag l) k:=by
 unfold BK;rw[I1]
 by_cases h:k=id
 ·subst h;simp[c]
 simp[h]
theorem JV (l:List (Option BA)) (id:Nat) (b:BA) (c:id<l.length) (k:Nat):live (Ag (By l id (some b))) k↔if k=id then b.live=true else live (Ag l) k:=by
 unfold live;rw[I1]
 by_cases h:k=id
 ·subst h;simp[c]
 simp[h]
theorem CD.write (S:CD w0 X β s a w) {f:Nat->Option Nat} {w':World} {dst:Option Nat} {v:AV} {u:Value} {rd:List Nat} {id:Nat} {B8:BA} (n:id<s.bk.length) (U:B8.short)
  (x:∀k,k≠id->f k=β k) (R:BK (Ag s.bk) id<=B8.BK) (H:B8.BK=BK (Ag s.bk) id->f id=β id/\(B8.live=true->live (Ag s.bk) id))
  (q:∀b,b<w.heap.size->(live (Ag s.bk) id->β id≠some b)->w'.heap[b]? =w.heap[b]?) (G:w.heap.size<=w'.heap.size)
  (D:∀(b:Nat) arr e,w.heap[b]? =some (.cells arr e (0,0))->∃z,w'.heap[b]? =some (.cells z e (0,0))/\z.size=arr.size)
  (T:w'.os=w.os) (L:w'.tape=w.tape) (Q:w'.output=w.output)
  (m:B8.live=true->∀b,f id=some b->(β id=some b/\live (Ag s.bk) id)\/w.heap.size<=b)
  (hB:(cx X w β (Ag s.bk)).le (cx X w' f (Ag (By s.bk id (some B8))))->Ee (cx X w' f (Ag (By s.bk id (some B8)))) id B8)
  (V:(cx X w β (Ag s.bk)).le (cx X w' f (Ag (By s.bk id (some B8))))->CB (cx X w' f (Ag (By s.bk id (some B8)))) v u):
  CD w0 X f (s.app dst ⟨v,[(id,B8)],rd⟩) (a.put dst u) w':=by
 have O:∀b o,w.heap[b]? =some o->b<w.heap.size:=fun b o h=>by
  rcases Nat.lt_or_ge b w.heap.size with h' | h'
  ·exact h'
  simp[Array.getElem?_eq_none h'] at h
 have A:∀k b,live (Ag s.bk) k->β k=some b->b<w.heap.size:=fun k b ⟨J,y,C⟩ hb=>by
  have r:=S.blocks k J y;cases J with
  | dead _=>simp[BA.live] at C
  | var _ _=>obtain⟨b',arr,e,p,B,_⟩:=r;obtain rfl:b=b':=Option.some.inj (hb.symm.trans p);exact O b _ B
  | arr _ _ _=>
   rcases r with⟨p,_⟩ |⟨b',arr,e,p,B,_⟩
   ·exact absurd (hb.symm.trans p) (by simp)
   obtain rfl:b=b':=Option.some.inj (hb.symm.trans p);exact O b _ B
 have hle:(cx X w β (Ag s.bk)).le (cx X w' f (Ag (By s.bk id (some B8)))):=by
  refine⟨fun k=>?_,fun k y=>?_,fun k b arr e _ _ hh=>D b arr e hh,fun b hb=>⟨⟨⟨Nat.lt_of_lt_of_le hb.1.1 G,fun k y=>?_⟩,hb.2⟩,q b hb.1.1 (fun C=>hb.1.2 id C)⟩⟩
  ·show BK _ k<=BK _ k
   rw[HY _ _ _ n]
   split
   ·subst_vars;exact R
   exact Nat.le_refl _
  ·by_cases h:k=id
   ·subst h;have c:BK (Ag (By s.bk k (some B8))) k=BK (Ag s.bk) k:=y;rw[HY _ _ _ n,if_pos rfl] at c;exact (H c).1
   exact x k h
  rw[JV _ _ _ n] at y
  by_cases h:k=id
  ·subst h;simp only[if_true] at y;intro e;rcases m y b e with⟨p,B⟩ | p
   ·exact hb.1.2 k B p
   have:=hb.1.1
   show False
   have a1:b<w.heap.size:=hb.1.1;omega
  simp only[h,if_false] at y
  show f k≠some b
  rw[x k h];exact hb.1.2 k y
 refine⟨(Yu _ _ _).trans S.defers,Z8 S.len _ _ _,?_,?_,fun k b y=>?_,fun k k' b y c hb j=>?_,fun k b y hb=>?_,T.trans S.os,L.trans S.tape,Q.trans S.output,Nat.le_trans S.size G,fun b hb W=>?_,fun k b y=>?_,S.fresh,fun C V=>?_⟩
 ·show (By s.bk id (some B8)).length=_
  rw[IF,size_put];exact S.J9
 ·exact dv S.len (fun i=>CB.mono hle (S.DF i)) dst v u (V hle)
 ·have c:Ag (By s.bk id (some B8)) k=some b:=y;rw[I1] at c
  by_cases h:k=id
  ·subst h;simp only[n,and_self,if_true,Option.some.injEq] at c;subst c;exact hB hle
  simp only[h,false_and,if_false] at c
  have N:(cx X w' f (Ag (By s.bk id (some B8)))).cv k=(cx X w β (Ag s.bk)).cv k:=by
   show BK _ k=BK _ k
   rw[HY _ _ _ n,if_neg h]
  have r:=S.blocks k b c;have Y:(cx X w' f (Ag (By s.bk id (some B8)))).β k=(cx X w β (Ag s.bk)).β k:=x k h;cases b with
  | dead _=>trivial
  | var vv cs=>
   refine Ee.mono hle N (fun b' j=>?_) r;have C:live (Ag s.bk) k:=⟨_,c,rfl⟩;exact q b' (A k b' C j) fun K e=>h (S.inj k id b' C K j e)
  | arr vv t l=>
   refine Ee.mono hle N (fun b' j=>?_) r;have C:live (Ag s.bk) k:=⟨_,c,rfl⟩;exact q b' (A k b' C j) fun K e=>h (S.inj k id b' C K j e)
 ·have d:live (Ag (By s.bk id (some B8))) k:=y;have g:live (Ag (By s.bk id (some B8))) k':=c;rw[JV _ _ _ n] at d g
  by_cases h:k=id <;> by_cases h':k'=id
  ·rw[h,h']
  ·subst h;simp only[if_true,h',if_false] at d g;rw[x k' h'] at j;rcases m d b hb with⟨p,B⟩ | p
   ·exact S.inj k k' b B g p j
   have:=A k' b g j;omega
  ·subst h';simp only[if_true,h,if_false] at d g;rw[x k h] at hb;rcases m g b j with⟨p,B⟩ | p
   ·exact S.inj k k' b d B hb p
   have:=A k b d hb;omega
  simp only[h,h',if_false] at d g;rw[x k h] at hb;rw[x k' h'] at j;exact S.inj k k' b d g hb j
 ·have d:live (Ag (By s.bk id (some B8))) k:=y;rw[JV _ _ _ n] at d
  by_cases h:k=id
  ·subst h;simp only[if_true] at d;rcases m d b hb with⟨p,B⟩ | p
   ·exact S.own k b B p
   exact Or.inl (Nat.le_trans S.size p)
  simp only[h,if_false] at d;rw[x k h] at hb;exact S.own k b d hb
 ·rw[q b (Nat.lt_of_lt_of_le hb S.size) fun C e=>?_]
  ·exact S.block b hb W
  rcases S.own id b C e with h | h
  ·omega
  exact W h.1
 ·have c:Ag (By s.bk id (some B8)) k=some b:=y;rw[I1] at c
  by_cases h:k=id
  ·subst h;simp only[n,and_self,if_true,Option.some.injEq] at c;subst c;exact U
  simp only[h,false_and,if_false] at c;exact S.lens k b c
 have F:live (Ag (By s.bk id (some B8))) 0:=C;have I:BK (Ag (By s.bk id (some B8))) 0=0:=V;rw[JV _ _ _ n] at F;rw[HY _ _ _ n] at I
 have key:live (Ag s.bk) 0/\BK (Ag s.bk) 0=0/\f 0=β 0:=by
  by_cases h:0=id
  ·subst h;simp only[if_true] at F I;have Z:BK (Ag s.bk) 0=0:=by omega
   have:=H (by omega);exact⟨this.2 F,Z,this.1⟩
  simp only[h,if_false] at F I;exact⟨F,I,x 0 h⟩
 obtain⟨p,B⟩:=S.Mg key.1 key.2.1;refine⟨key.2.2.trans p,fun b arr e hb he=>?_⟩;obtain⟨z,h3,h4⟩:=B b arr e hb he;obtain⟨M,h5,h6⟩:=D b z e h3;exact⟨M,h5,by omega⟩
end
def E7 (w:World) (I:Nat->Prop):Cx:=⟨w,fun _=>none,fun _=>0,I⟩
def OwnAt (x:Cx) (lo:Nat) (bo:Option Nat) (t:T) (l:List (el t)) (v:Value):Prop:=
 ∃base cap,v= .slice base l.length cap/\l.length<=cap/\cap<=maxLen/\l.length<=140737488355328/\
  ((bo=none/\l=[]/\cap=0)\/∃b arr e,bo=some b/\lo<=b/\base=some ⟨b,0,none⟩/\x.w.heap[b]? =some (.cells arr e (0,0))/\cap*t.size<=arr.size/\
    ∀(i:Nat) (y:el t),l[i]? =some y->∃us,rep x.w x.I t y us/\x.w.rangeAt b (i*t.size) us)
def Ei (x:Cx) (lo:Nat) (bo:Option Nat):AC->Value->Prop
 | .own t l n,v=>n=l.length/\OwnAt x lo bo t l v
 | c,v=>Bn x c v
def Hq (x:Cx) (lo:Nat) (bo:Option Nat):AV->Value->Prop
 | .one c,v=>c= .CQ\/Ei x lo bo c v
 | .agg cs,v=>∃arr,v= .agg arr/\BO (Ei x lo bo) cs arr.toList
 | .AI _,_=>False
def IZ (x:Cx) (lo:Nat) (bo:Option Nat):AV->Value->Prop
 | .AI xs,v=>∃arr,v= .tuple arr/\BO (fun y u=>Hq x lo bo (Ez y) u) xs arr.toList
 | a,v=>Hq x lo bo a v
def C6:AC->Bool
 | .own _ _ _=>true
 | c=>Bt c
def GN:AC->Bool
 |.BI _ 0 0 _ _|.BC 0 0 _=>true
 | c=>Bt c
def AV.wf:AV->Bool
 | .AI xs=>xs.all fun x=>x.1||decide (x.2.length<=1)
 | _=>true
def BA.lone:BA->Bool
 | .var v cs=>v==0&&cs.all Bt
 | .arr v _ _=>v==0
 | .dead _=>false
def Callee (P : Program) (f : FuncId) : Prop := ∃ fn c, P.funcs[f]? = some fn /\ (fn.name == "runtime.NumGoroutine") = false /\ fn.body = some c
def Gv (P:Program) (fl:Bool) (f:FuncId) (args:List AV) (r:AV):Prop:=
 Callee P f/\(r.all C6=true/\r.wf=true)/\
 ∀(w:World) (I:Nat->Prop) (vs:List Value),(∀b,I b->b<w.heap.size)->BO (CB (E7 w I)) args vs->
  Calls P f vs.toArray w fun e w'=>∃u bo,e= .returned u/\Below w.heap.size w w'/\
   IZ (E7 w' fun b=>((fl=false/\I b)\/w.heap.size<=b)/\b<w'.heap.size/\bo≠some b) w.heap.size bo r u
def β0 (ob:Option Nat):Nat->Option Nat:=fun k=>if k=0 then ob else none
def DK (w:World) (ob:Option Nat) (I:Nat->Prop):Cx:=⟨w,β0 ob,fun _=>0,I⟩
def Jo (P:Program) (f:FuncId) (c0:AC) (b0:BA) (args:List AV) (r:AV) (b1:BA):Prop:=
 Callee P f/\(r.all GN=true/\GN c0=true/\b0.lone=true/\b1.lone=true)/\
 ∀(w:World) (I:Nat->Prop) (ob:Option Nat) (v0:Value) (vs:List Value),(∀b,I b->b<w.heap.size/\ob≠some b)->
  Bn (DK w ob I) c0 v0->Ee (DK w ob I) 0 b0->b0.short->BO (CB (E7 w I)) args vs->
  Calls P f (v0::vs).toArray w fun e w'=>∃u,e= .returned u/\
   (w'.os=w.os/\w'.tape=w.tape/\w'.output=w.output/\w.heap.size<=w'.heap.size/\∀k,k<w.heap.size->ob≠some k->w'.heap[k]? =w.heap[k]?)/\
   (∀(b:Nat) arr e,ob=some b->w.heap[b]? =some (.cells arr e (0,0))->∃arr',w'.heap[b]? =some (.cells arr' e (0,0))/\arr'.size=arr.size)/\
   CB (DK w' ob fun k=>(I k\/w.heap.size<=k)/\k<w'.heap.size/\ob≠some k) r u/\
   Ee (DK w' ob fun k=>(I k\/w.heap.size<=k)/\k<w'.heap.size/\ob≠some k) 0 b1/\b1.short
def Bk (P:Program) (f:FuncId) (args:List AV) (b0:BA) (r:AV):Prop:=
 Callee P f/\(r.all Bt=true/\b0.lone=true)/\
 ∀(w:World) (I:Nat->Prop) (ob:Option Nat) (vs:List Value),(∀b,I b->b<w.heap.size/\ob≠some b)->
  Ee (DK w ob I) 0 b0->b0.short->BO (CB (DK w ob I)) args vs->
  Calls P f vs.toArray w fun e w'=>∃u,e= .returned u/\
   (w'.os=w.os/\w'.tape=w.tape/\w'.output=w.output/\w.heap.size<=w'.heap.size/\∀k,k<w.heap.size->ob≠some k->w'.heap[k]? =w.heap[k]?)/\
   (∀(b:Nat) arr e,ob=some b->w.heap[b]? =some (.cells arr e (0,0))->∃arr',w'.heap[b]? =some (.cells arr' e (0,0))/\arr'.size=arr.size)/\
   CB (DK w' ob fun k=>(I k\/w.heap.size<=k)/\k<w'.heap.size/\ob≠some k) r u/\
   Ee (DK w' ob fun k=>(I k\/w.heap.size<=k)/\k<w'.heap.size/\ob≠some k) 0 b0
def env (P:Program):Env:=⟨Gv P,Jo P,Bk P⟩
structure FP (P:Program) (t:TypeId) (i:Info):Prop where
 info:i.known=true->∃ti z d,P.info? t=some ti/\ti.size=i.size/\ti.zero=some z/\(∀x,BO (Bn x) i.zero z.cells.toList)/\
  P.underlying t=some d/\d.isRow=i.agg/\(i.agg=false->i.size=1)
 kind:∀k,i.kind=some k->P.underlying t=some (.int k)
 isb:i.Qy=true->P.underlying t=some .bool
 sl:i.sl=true->P.underlying t=some (.slice i.Ef)/\∃ei z,P.info? i.Ef=some ei/\ei.size=i.elem.size/\ei.bytes=i.G0/\0<ei.bytes/\ei.zero=some z/\
  ∀x,BO (Bn x) (cells i.elem i.Ck) z.cells.toList
 fields:i.known=true->i.fields≠[]->∃fs:Array Field,P.underlying t=some (.struct fs)/\i.fields.length=fs.size/\
  ∀(f fo n:Nat) (g:Bool),i.fields[f]? =some (fo,n,g)->∃fl d,fs[f]? =some fl/\fl.offset=fo/\(P.info? fl.type).map (·.size)=some n/\0<n/\P.underlying fl.type=some d/\d.isRow=g/\(g=false->n=1)
theorem T.beq_eq:∀{a b:T},T.beq a b=true->a=b
 |.u8,b,h|.u32,b,h|.u64,b,h|.i8,b,h|.i64,b,h|.bool,b,h=>by cases b <;> simp_all [T.beq]
 | .sl a,b,h=>by cases b <;> simp_all [T.beq];exact T.beq_eq h
 | .pr a c,b,h=>by cases b <;> simp_all [T.beq];exact⟨T.beq_eq h.1,T.beq_eq h.2⟩
section
variable {P:Program} {w:World}
theorem dV {t:TypeId} {d:TypeDesc} (hu:P.underlying t=some d):(isAgg t).run P w= .ok d.isRow w:=by
 unfold isAgg;rw[Sem.run_bind,run_underlying hu w];cases d <;> simp
theorem qz {t:TypeId} {d:TypeDesc} {b o:Nat} {v:Value} (hu:P.underlying t=some d) (c:d.isRow=false) (hc:w.cell? ⟨b,o,none⟩=some v):
  (Instr.loadAt t (.pointer (some ⟨b,o,none⟩))).run P w= .ok v w:=by
 simp only[Instr.loadAt,Instr.sureAddr,Sem.run_bind,Sem.run_pure,Result.andThen_ok,loadVar,dV hu,c];simp[load,Sem.run,hc]
theorem q7 {t:TypeId} {f:TypeInfo} {b o:Nat} {v:Value} (h:P.info? t=some f) (d:v.cells.size=f.size) (ht:w.there b o f.size) (g:∀u∈v.cells.toList,u.oneCell'=true):
  (Instr.storeAt t (.pointer (some ⟨b,o,none⟩)) v).run P w= .ok () (w.setCells b o v.cells.toList):=by
 have:=run_storeCells_cells (P:=P) b o v.cells.toList 0 w (fun j c=>by simpa using (ht j (by simpa [d] using c)).1) (fun j c=>by simpa using (ht j (by simpa [d] using c)).2) g;simp only[Nat.add_zero] at this;simp[Instr.storeAt,Instr.sureAddr,storeVar,sizeOf,typeInfo,h,d,this]
end
theorem bT {v:Value} (h:v.oneCell'=true):v.cells= #[v]:=by
 cases v <;> simp_all [Value.oneCell',Value.cells]
theorem FO.cells {x:Cx} {av:AV} {v:Value} (h:FO x av v) (b:av.full=true):BO (Bn x) av.cs v.cells.toList:=by
 cases av with
 | one c=>
  rcases h with rfl | h
  ·simp[AV.full] at b
  rw[bT h.one];exact⟨h,trivial⟩
 | agg cs=>obtain⟨arr,rfl,h⟩:=h;exact h
 | AI _=>exact h.elim
theorem BO.one {x:Cx}:∀{cs:List AC} {vs:List Value},BO (Bn x) cs vs->∀v∈vs,v.oneCell'=true
 | [],[],_,_,b=>by simp at b
 | _::_,_::_,h,v,b=>by
  rcases List.mem_cons.1 b with rfl | b
  ·exact h.1.one
  exact BO.one h.2 v b
 |[],_::_,h,_,_|_::_,[],h,_,_=>h.elim
theorem qh {x:Cx} {a:AV} {v:Value} (h:FO x a v):CB x a v:=by cases a <;> first | exact h | exact h.elim
theorem PC {x:Cx} {a:AV} {v:Value} (h:CB x a v) (ha:∀xs,a≠ .AI xs):FO x a v:=by cases a <;> first | exact h | exact absurd rfl (ha _)
theorem EP {x:Cx} {s:St} {a:Act} (h:∀i,CB x (nth s.sl i) (a.tmps.getD i undef)) (o:Operand):CB x (ev s.sl o) (a.eval o):=by
 cases o with
 | tmp t=>exact h t
 | func f=>exact Or.inr rfl
 | global g=>exact Or.inl rfl
 | const v=>
  show CB x (To v) v
  unfold To
  split <;> first | exact Or.inr rfl | exact Or.inl rfl
def valOf (g:Bool) (vs:List Value):Value:=
 match g with
 | true=> .agg vs.toArray
 | false=>vs.headD undef
theorem cw {x:Cx} {g:Bool} {cs:List AC} {vs:List Value} (h:BO (Bn x) cs vs) (b:g=false->cs.length=1):
  CB x (Ez (g,cs)) (valOf g vs):=by
 cases g with
 | true=>exact⟨_,rfl,by simpa using h⟩
 | false=>
  have:=b rfl
  match cs,vs,h with
  | [c],[v],h=>exact Or.inr h.1
end Go.Abs
