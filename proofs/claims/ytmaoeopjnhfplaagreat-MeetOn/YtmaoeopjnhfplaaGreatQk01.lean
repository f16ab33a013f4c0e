/- Part 2 of a proof. Conditions: each theorem's own. -/
import Derived.WalkKit
import Derived.Deep.MidRow
import Derived.ArgAppend
set_option linter.all false
set_option maxHeartbeats 8000000
set_option maxRecDepth 20000
namespace Go.Abs
 inductive T
  | u8 | u32 | u64 | i8 | i64 | bool | sl (t:T) | pr (a b:T)
abbrev el:T->Type
 | .u8=>UInt8 | .u32=>UInt32 | .u64=>UInt64 | .i8=>Int | .i64=>Int | .bool=>Bool
 | .sl t=>List (el t) | .pr a b=>el a×el b
def T.size:T->Nat
 | .pr a b=>a.size+b.size
 | _=>1
def T.beq:T->T->Bool
 | .u8,.u8=>true | .u32,.u32=>true | .u64,.u64=>true | .i8,.i8=>true | .i64,.i64=>true | .bool,.bool=>true
 | .sl a,.sl b=>a.beq b
 | .pr a b,.pr c d=>a.beq c&&b.beq d
 | _,_=>false
def T.agg:T->Bool
 | .pr _ _=>true
 | _=>false
 inductive AC
  | By | int (k:IntKind) (n:Int) | bool (b:Bool) | fn (f:FuncId) | nil
  | sl (t:T) (l:List (el t))
  | AZ (t:T) (id AY off len:Nat)
  | Dm (t:T) (id AY off len:Nat)
  | As (id AY off:Nat)
  | DI (t:T) (id AY i k:Nat)
  | EL (t:T) (x:el t) (off:Nat)
  | ub (e:Bool)
  | own (t:T) (l:List (el t)) (n:Nat)
 inductive AV
  | one (c:AC) | agg (cs:List AC) | AG (xs:List (Bool×List AC))
 inductive AR
  | var (AY:Nat) (cs:List AC)
  | arr (AY:Nat) (t:T) (l:List (el t))
  | dead (AY:Nat)
def AR.AY:AR->Nat
 | .var v _=>v | .arr v _ _=>v | .dead v=>v
def cells:(t:T)->el t->List AC
 | .u8,x=>[.int .u8 x.toNat]
 | .u32,x=>[.int .u32 x.toNat]
 | .u64,x=>[.int .u64 x.toNat]
 | .i8,x=>[.int .i8 x]
 | .i64,x=>[.int .i64 x]
 | .bool,x=>[.bool x]
 | .sl t,l=>[.sl t l]
 | .pr a b,x=>cells a x.1++cells b x.2
structure DX (n:Int) (k:Nat):Prop where
 eq:n=k
 le:k<=140737488355328
structure Ag (n:Int) (k:Nat):Prop where
 eq:n=k
structure Pr (n:Int) (x:UInt8):Prop where
 eq:n=x.toNat
structure Lu (n:Int) (x:UInt32):Prop where
 eq:n=x.toNat
structure cw (n:Int) (x:UInt64):Prop where
 eq:n=x.toNat
def Ke:(t:T)->el t->(List AC->Prop)->Prop
 | .u8,x,K=>∀n,Pr n x->K [.int .u8 n]
 | .u32,x,K=>∀n,Lu n x->K [.int .u32 n]
 | .u64,x,K=>∀n,cw n x->K [.int .u64 n]
 | .i8,x,K=>K [.int .i8 x]
 | .i64,x,K=>K [.int .i64 x]
 | .bool,x,K=>K [.bool x]
 | .sl t,l,K=>K [.sl t l]
 | .pr a b,x,K=>Ke a x.1 fun l=>Ke b x.2 fun m=>K (l++m)
theorem MI:∀(t:T) (x:el t) (K:List AC->Prop),Ke t x K↔K (cells t x)
 |.u8,x,K|.u32,x,K|.u64,x,K=>⟨fun h=>h _ ⟨rfl⟩,fun h n c=>by rw[c.eq];exact h⟩
 |.i8,_,_|.i64,_,_|.bool,_,_|.sl _,_,_=>Iff.rfl
 | .pr a b,x,K=>by
  show Ke a x.1 _↔_
  rw[MI a x.1,MI b x.2]
  rfl
def Dn:Bool×List AC->AV
 | (true,cs)=> .agg cs
 | (false,c::_)=> .one c
 | (false,[])=> .one .By
def AV.cs:AV->List AC
 | .one c=>[c]
 | .agg cs=>cs
 | .AG _=>[]
def AV.full:AV->Bool
 | .one .By=>false
 |.one _|.agg _=>true
 | .AG _=>false
def AV.comp:AV->Bool×List AC
 | .one c=>(false,[c])
 | .agg cs=>(true,cs)
 | .AG _=>(false,[])
def comp (t:T) (x:el t):Bool×List AC:=(t.agg,cells t x)
def Vu (t:T) (x:el t):AV:=Dn (comp t x)
structure St where
 sl:List AV
 bk:List (Option AR)
def nth:List AV->Nat->AV
 | [],_=> .one .By
 | a::_,0=>a
 | _::l,n+1=>nth l n
def AK:List (Option AR)->Nat->Option AR
 | [],_=>none
 | a::_,0=>a
 | _::l,n+1=>AK l n
def BY {α:Type}:List α->Nat->α->List α
 | [],_,_=>[]
 | _::l,0,x=>x::l
 | a::l,n+1,x=>a::BY l n x
def AY (bk:Nat->Option AR) (id:Nat):Nat:=
 match bk id with
 | some b=>b.AY
 | none=>0
structure Info where
 known:Bool:=true
 size:Nat:=1
 agg:Bool:=false
 zero:List AC:=[]
 kind:Option IntKind:=none
 OV:Bool:=false
 sl:Bool:=false
 DO:TypeId:=0
 elem:T:= .bool
 CP:el elem
 GA:Nat:=0
 fields:List (Nat×Nat×Bool):=[]
def Qs:Value->AV
 | .int k n=> .one (.int k n)
 | .bool b=> .one (.bool b)
 | .slice none 0 0=> .one .nil
 | _=> .one .By
def ev (s:List AV):Operand->AV
 | .tmp t=>nth s t
 | .const v=>Qs v
 | .func f=> .one (.fn f)
 | .global _=> .one .By
structure Bz where
 v:AV
 ws:List (Nat×AR):=[]
 rd:List Nat:=[]
def Gt (n:Int):Prop:= -9223372036854775808<=n/\n<9223372036854775808
def fits (n b:Nat):Prop:=n*b<=140737488355328
def arith (op:BinOp) (k:IntKind) (a b:Int) (K:AC->Prop):Prop:=
 match op,k with
 | .add,.i64=>∀c,c=a+b->(Unit->Gt c)/\K (.int .i64 c)
 | .sub,.i64=>∀c,c=a-b->(Unit->Gt c)/\K (.int .i64 c)
 | .mul,.i64=>∀c,c=a*b->(Unit->Gt c)/\K (.int .i64 c)
 | .quo,.i64=>∀c,c=a/b->(Unit->0<=a/\0<b/\Gt c)/\K (.int .i64 c)
 | .rem,.i64=>∀c,c=a%b->(Unit->0<=a/\0<b)/\K (.int .i64 c)
 | .add,k=>∀c,c=k.wrap (a+b)->K (.int k c)
 | .sub,k=>∀c,c=k.wrap (a-b)->K (.int k c)
 | .mul,k=>∀c,c=k.wrap (a*b)->K (.int k c)
 | .quo,k=>∀c,c=k.wrap (a/b)->(Unit->0<=a/\0<b)/\K (.int k c)
 | .rem,k=>∀c,c=a%b->(Unit->0<=a/\0<b)/\K (.int k c)
 | .and,k=>∀c,c=k.wrap (BitVec.ofInt k.bits a &&& BitVec.ofInt k.bits b).toNat->K (.int k c)
 | .or,k=>∀c,c=k.wrap (BitVec.ofInt k.bits a ||| BitVec.ofInt k.bits b).toNat->K (.int k c)
 | .xor,k=>∀c,c=k.wrap (BitVec.ofInt k.bits a ^^^ BitVec.ofInt k.bits b).toNat->K (.int k c)
 | .andNot,k=>∀c,c=k.wrap (BitVec.ofInt k.bits a &&& ~~~ BitVec.ofInt k.bits b).toNat->K (.int k c)
 | .shl,k=>∀c,c=k.wrap (a*2^min b.toNat k.bits)->(Unit->0<=b)/\K (.int k c)
 | .shr,k=>∀c,c=a.fdiv (2^min b.toNat k.bits)->(Unit->0<=b)/\K (.int k c)
 | .eql,_=>∀c,c=(a==b)->K (.bool c)
 | .neq,_=>∀c,c=(a !=b)->K (.bool c)
 | .lss,_=>∀c,c=decide (a<b)->K (.bool c)
 | .leq,_=>∀c,c=decide (a<=b)->K (.bool c)
 | .gtr,_=>∀c,c=decide (a>b)->K (.bool c)
 | .geq,_=>∀c,c=decide (a >= b)->K (.bool c)
def Ga (cs:List AC):Nat->Nat->List AC
 | 0,n=>cs.take n
 | off+1,n=>match cs with
  | []=>[]
  | _::cs=>Ga cs off n
def Dt {α:Type}:List α->Nat->List α->List α
 | cs,0,[]=>cs
 | [],0,_::_=>[]
 | _::cs,0,x::xs=>x::Dt cs 0 xs
 | [],_+1,_=>[]
 | c::cs,off+1,xs=>c::Dt cs off xs
def ld (i:Info) (cs:List AC) (off:Nat):AV:=Dn (i.agg,Ga cs off i.size)
def Ft (bk:Nat->Option AR):AC->AC->Prop
 | .AZ t id v off len,c=>∃l,bk id=some (.arr v t l)/\off+len<=l.length/\c= .sl t ((l.drop off).take len)
 | .nil,c=>c= .nil\/∃t,c= .sl t []
 | .int k n,c=>c= .int k n
 | .bool b,c=>c= .bool b
 | .fn f,c=>c= .fn f
 | .sl t l,c=>c= .sl t l
 | _,_=>False
def Bl:AC->AC->Prop
 | .nil,c=>c= .nil\/∃t,c= .sl t []
 | .int k n,c=>c= .int k n
 | .bool b,c=>c= .bool b
 | .fn f,c=>c= .fn f
 | .sl t l,c=>c= .sl t l
 | _,_=>False
def BX (R:AC->AC->Prop):List AC->List AC->Prop
 | [],[]=>True
 | a::l,b::m=>R a b/\BX R l m
 | _,_=>False
def leV (R:AC->AC->Prop):AV->AV->Prop
 | .one a,.one b=>R a b
 | .agg l,.agg m=>BX R l m
 | _,_=>False
def GN (R:AC->AC->Prop):List AV->List AV->Prop
 | [],[]=>True
 | a::l,b::m=>leV R a b/\GN R l m
 | _,_=>False
def Co:AC->List Nat
 | .AZ _ id _ _ _=>[id]
 | _=>[]
def Ci:List AV->List Nat
 | []=>[]
 | .one c::r=>Co c++Ci r
 | .agg cs::r=>cs.flatMap Co++Ci r
 | .AG _::r=>Ci r
def GS (d v:Nat):AC->AC
 | .own t _ n=> .AZ t d v 0 n
 | c=>c
def JG (d v:Nat):AV->AV
 | .one c=> .one (GS d v c)
 | .agg cs=> .agg (cs.map (GS d v))
 | .AG xs=> .AG (xs.map fun x=>(x.1,x.2.map (GS d v)))
def ET (d v:Nat):List AC->List (Nat×AR)
 | []=>[]
 | .own t l _::_=>[(d,.arr v t l)]
 | _::r=>ET d v r
def Il (d v:Nat):AV->List (Nat×AR)
 | .one c=>ET d v [c]
 | .agg cs=>ET d v cs
 | .AG xs=>ET d v (xs.flatMap (·.2))
abbrev Con:=Bool->FuncId->List AV->AV->Prop
abbrev bf:=FuncId->AC->AR->List AV->AV->AR->Prop
abbrev bg:=FuncId->List AV->AR->AV->Prop
structure Env where
 C:Con
 B:bf
 D:bg
def JK (id v:Nat):AC->AC->Prop
 | .AZ t i w off len,c=>(i=id/\w=v)/\c= .AZ t 0 0 off len
 | .As i w off,c=>(i=id/\w=v)/\c= .As 0 0 off
 | .nil,c=>c= .nil\/∃t,c= .sl t []
 | .int k n,c=>c= .int k n
 | .bool b,c=>c= .bool b
 | .fn f,c=>c= .fn f
 | .sl t l,c=>c= .sl t l
 | _,_=>False
def Ht (places:List (Nat×Nat×Bool)) (e:Operand->AV):List (Nat×Operand)->List AC->Option (List AC)
 | [],cs=>some cs
 | (i,x)::r,cs=>match places[i]? with
  | some (off,n,_)=>if (e x).cs.length=n/\(e x).full=true/\off+n<=cs.length then Ht places e r (Dt cs off (e x).cs) else none
  | none=>none
def Iq (id v:Nat):AC->AC
 | .AZ t _ _ off len=> .AZ t id v off len
 | .As _ _ off=> .As id v off
 | .DI t _ _ i k=> .DI t id v i k
 | c=>c
def Za (id v:Nat):AV->AV
 | .one c=> .one (Iq id v c)
 | .agg cs=> .agg (cs.map (Iq id v))
 | .AG xs=> .AG (xs.map fun x=>(x.1,x.2.map (Iq id v)))
def AR.FG (v:Nat):AR->AR
 | .var _ cs=> .var v cs
 | .arr _ t l=> .arr v t l
 | .dead _=> .dead v
def O7:AC->Option (Nat×Nat)
 |.AZ _ id v _ _|.As id v _=>some (id,v)
 | _=>none
def T.flat:T->Bool
 | .sl _=>false
 | .pr a b=>a.flat&&b.flat
 | _=>true
def OL:AR->Bool
 | .arr _ t _=>t.flat
 | _=>false
def CL:AC->Bool
 |.int _ _|.bool _|.fn _|.nil|.AZ _ 0 0 _ _=>true
 | _=>false
def AV.all (p:AC->Bool):AV->Bool
 | .one c=>p c
 | .agg cs=>cs.all p
 | .AG xs=>xs.all fun x=>x.2.all p
def BZ:AC->Bool
 | .By=>true | .int _ _=>true | .bool _=>true | .fn _=>true | .nil=>true | .sl _ _=>true
 | _=>false
def Jq (E:Env) (g:FuncId) (args:List AV) (d:Nat) (bk:Nat->Option AR) (K:Bz->Prop):Prop:=
 (∃args' r,(Unit->GN Bl args args')/\(Unit->E.C false g args' r)/\
  K ⟨JG d (AY bk d+1) r,Il d (AY bk d+1) r,[d]⟩)\/
 (∃args' r,(Unit->GN (Ft bk) args args')/\(Unit->E.C true g args' r)/\
  K ⟨JG d (AY bk d+1) r,Il d (AY bk d+1) r,d::Ci args⟩)\/
 (match args with
  | .one c::rest=>match O7 c with
   | some (id,v)=>match bk id with
    | some b=>if b.AY=v then ∃args' r b1,(Unit->id ∉ Ci rest/\GN (Ft bk) rest args')/\(Unit->E.B g (Iq 0 0 c) (b.FG 0) args' r b1/\OL b1=true/\r.all CL=true)/\
     K ⟨Za id v r,[(id,b1.FG v)],id::Ci rest⟩ else False
    | none=>False
   | none=>False
  | _=>False)\/
 (∃(id:Nat) (b:AR) (args':List AV) (r:AV),(Unit->bk id=some b/\GN (JK id b.AY) args args')/\(Unit->E.D g args' (b.FG 0) r)/\K ⟨r,[],[id]⟩)\/
 (∃(id:Nat) (b:AR) (args':List AV) (r:AV),(Unit->(id≠0/\bk id=some b/\((Ci args).all fun k=>k==id)=true)/\GN (Ft bk) args args')/\(Unit->E.C false g args' r/\r.all BZ=true)/\K ⟨r,[(id,.dead b.AY)],[id]⟩)
def Fw (TI:TypeId->Info) (b:Builtin) (tys:List TypeId) (args:List AV) (d:Nat) (bk:Nat->Option AR) (K:Bz->Prop):Prop:=
 match b,tys,args with
 | .len,[t0],[.one (.sl _ l)]=>(TI t0).sl=true/\∀n,DX n l.length->K ⟨.one (.int .i64 n),[],[]⟩
 |.len,[t0],[.one (.Dm _ id v _ len)]|.len,[t0],[.one (.AZ _ id v _ len)]=>(TI t0).sl=true/\if AY bk id=v then ∀n,Ag n len->K ⟨.one (.int .i64 n),[],[id]⟩ else False
 |.len,[t0],[.one .nil]|.cap,[t0],[.one .nil]=>(TI t0).sl=true/\K ⟨.one (.int .i64 0),[],[]⟩
 | .min,_,[.one (.int k a),.one (.int _ b)]=>∀c,c=(if b<a then b else a)->K ⟨.one (.int k c),[],[]⟩
 | .append,[t0,t1],[.one .nil,.one x]=>
  ((TI t0).sl=true/\(TI t1).sl=true)/\∃l2:List (el (TI t0).elem),(Unit->Ft bk x (.sl _ l2)/\fits l2.length (TI t0).GA)/\
    ∀n,n=l2.length->K ⟨.one (.AZ (TI t0).elem d (AY bk d+1) 0 n),[(d,.arr (AY bk d+1) _ l2)],d::Co x⟩
 | .append,[t0,t1],[.one (.Dm t id v off len),.one x]=>
  ((TI t0).sl=true/\(TI t1).sl=true)/\match bk id with
    | some (.arr v' t' l)=>if v'=v/\T.beq t' t=true/\T.beq t' (TI t0).elem=true then
     ∃l2:List (el t'),(Unit->off=0/\len<=l.length/\Ft bk x (.sl _ l2)/\fits (len+l2.length) (TI t0).GA)/\
      ∀l' n,(l'=l.take len++l2/\n=l'.length)->K ⟨.one (.AZ t' id (v+1) 0 n),[(id,.arr (v+1) t' l')],id::Co x⟩
     else False
    | _=>False
 | .append,[t0,t1],[.one (.AZ t id v off len),.one x]=>
  ((TI t0).sl=true/\(TI t1).sl=true)/\match bk id with
    | some (.arr v' t' l)=>if v'=v/\T.beq t' t=true/\T.beq t' (TI t0).elem=true then
     ∃l2:List (el t'),(Unit->off=0/\len=l.length/\Ft bk x (.sl _ l2)/\fits (l.length+l2.length) (TI t0).GA)/\
      ∀l' n,(l'=l++l2/\n=l'.length)->K ⟨.one (.AZ t' id (v+1) 0 n),[(id,.arr (v+1) t' l')],id::Co x⟩
     else False
    | _=>False
 | _,_,_=>False
def LZ (K:Bz->Prop) (f:Bz):Prop:=
 match f.v,f.ws with
 | .one (.AZ t id v off n),[(i,.arr v' t' l)]=>if (id !=0&&id==i&&v==v'&&off==0&&T.beq t t')=true then (Unit->n=l.length)/\K ⟨.one (.sl t' l),[(id,.dead v)],f.rd⟩ else False
 | _,_=>False
def QB (TI:TypeId->Info) (b:Builtin) (tys:List TypeId) (args:List AV) (d:Nat) (bk:Nat->Option AR) (K:Bz->Prop):Prop:=
 match b with
 | .append=>Fw TI b tys args d bk K\/Fw TI b tys args d bk (LZ K)
 | _=>Fw TI b tys args d bk K
def QH:List (Nat×List AC)->Nat->List (List AC)->Prop
 | [],_,[]=>True
 | p::r,k,x::m=>p.1=k/\BX Bl p.2 x/\QH r (k+1) m
 | _,_,_=>False
def I8 (len:Nat) (lo hi mx:Option AV) (K:Nat->Nat->Bool->Prop):Prop:=
 match lo,hi,mx with
 | none,none,none=>∀h,h=len->K 0 h false
 | some (.one (.int _ a)),none,none=>(Unit->0<=a/\a.toNat<=len)/\∀l h,(l=a.toNat/\h=len)->K l h false
 | none,some (.one (.int _ b)),none=>(Unit->0<=b/\b.toNat<=len)/\∀h,h=b.toNat->K 0 h false
 | some (.one (.int _ a)),some (.one (.int _ b)),none=>(Unit->0<=a/\a<=b/\b.toNat<=len)/\∀l h,(l=a.toNat/\h=b.toNat)->K l h false
 | none,some (.one (.int _ b)),some (.one (.int _ m))=>(Unit->0<=b/\b=m/\m.toNat<=len)/\∀h,h=b.toNat->K 0 h true
 | _,_,_=>False
def I7 (bk:Nat->Option AR) (u:T) (x:AV) (lo hi mx:Option AV) (K:Bz->Prop):Prop:=
 match x with
 | .one (.sl t l)=>T.beq t u=true/\∀n,n=l.length->I8 n lo hi mx fun a b _=>∀l',l'=(l.take b).drop a->K ⟨.one (.sl t l'),[],[]⟩
 | .one (.AZ t id v off len)=>T.beq t u=true/\if AY bk id=v then I8 len lo hi mx fun a b c=>∀o n,(o=off+a/\n=b-a)->
  match c with | true=>K ⟨.one (.Dm t id v o n),[],[id]⟩ | false=>K ⟨.one (.AZ t id v o n),[],[id]⟩
  else False
 | .one .nil=>I8 0 lo hi mx fun _ _ _=>K ⟨.one .nil,[],[]⟩
 | _=>False
def Ch (E:Env) (TI:TypeId->Info) (o:Oper) (d:Nat) (e:Operand->AV) (bk:Nat->Option AR) (K:Bz->Prop):Prop:=
 match o.op with
 |.move x|.assign x=>K ⟨e x,[],[]⟩
 | .nilCheck x=>match e x with
  | .one (.As id v off)=>if AY bk id=v then K ⟨e x,[],[id]⟩ else False
  | .one (.fn _)=>K ⟨e x,[],[]⟩
  | _=>False
 | .pick c a b=>match e c with
  | .one (.bool true)=>K ⟨e a,[],[]⟩
  | .one (.bool false)=>K ⟨e b,[],[]⟩
  | _=>False
 | .alloc t=>(TI t).known=true/\K ⟨.one (.As d (AY bk d+1) 0),[(d,.var (AY bk d+1) (TI t).zero)],[d]⟩
 | .box _ x=>match e x with
  |.AG _|.one .By=>False
  | v=>K ⟨.one (.As d (AY bk d+1) 0),[(d,.var (AY bk d+1) v.cs)],[d]⟩
 | .extract t i=>match e t with
  | .AG xs=>match xs[i]? with
   | some x=>K ⟨Dn x,[],[]⟩
   | none=>False
  | _=>False
 | .load t a=>(TI t).known=true/\match e a with
  | .one (.As id v off)=>match bk id with
   | some (.var v' cs)=>if v'=v/\(Ga cs off (TI t).size).length=(TI t).size then K ⟨ld (TI t) cs off,[],[id]⟩ else False
   | _=>False
  | .one (.EL t' x off)=>Ke t' x fun cs=>if (Ga cs off (TI t).size).length=(TI t).size then K ⟨ld (TI t) cs off,[],[]⟩ else False
  | .one (.DI t' id v i k)=>match bk id with
   | some (.arr v' u l)=>if v'=v/\T.beq t' u=true then ∃x:el u,(Unit->l[i]? =some x)/\Ke u x fun cs=>
    if (Ga cs k (TI t).size).length=(TI t).size then K ⟨ld (TI t) cs k,[],[id]⟩ else False
    else False
   | _=>False
  | _=>False
 | .store t a x=>(TI t).known=true/\match e a with
  | .one (.As id v off)=>match bk id,e x with
   |_,.AG _|_,.one .By=>False
   | some (.var v' cs),y=>if v'=v/\y.cs.length=(TI t).size/\off+(TI t).size<=cs.length then
    K ⟨.one .By,[(id,.var v (Dt cs off y.cs))],[id]⟩ else False
   | _,_=>False
  | .one (.DI t' id v i k)=>match bk id,e x with
   |_,.AG _|_,.one .By=>False
   | some (.arr v' u l),y=>if v'=v/\k=0/\(TI t).size=u.size/\T.beq t' u=true then
    ∃z:el u,(Unit->i<l.length/\BX Bl y.cs (cells u z))/\∀l',l'=l.set i z->K ⟨.one .By,[(id,.arr v u l')],[id]⟩
    else False
   | _,_=>False
  | _=>False
 | .fieldAddr s x f=>(TI s).known=true/\match (TI s).fields[f]?,e x with
  | some (fo,_,_),.one (.As id v off)=>if AY bk id=v then K ⟨.one (.As id v (off+fo)),[],[id]⟩ else False
  | some (fo,_,_),.one (.EL t y off)=>K ⟨.one (.EL t y (off+fo)),[],[]⟩
  | some (fo,_,_),.one (.DI t id v i k)=>if AY bk id=v then K ⟨.one (.DI t id v i (k+fo)),[],[id]⟩ else False
  | _,_=>False
 | .field s x f=>(TI s).known=true/\match (TI s).fields[f]?,e x with
  | some (fo,n,g),.agg cs=>if (Ga cs fo n).length=n then K ⟨Dn (g,Ga cs fo n),[],[]⟩ else False
  | _,_=>False
 | .build t parts=>((TI t).known=true/\(TI t).fields.isEmpty=false)/\match Ht (TI t).fields e parts.toList (TI t).zero with
  | some cs=>K ⟨.agg cs,[],[]⟩
  | none=>False
 | .buildSlice t len parts=>(TI t).sl=true/\(TI t).elem.size<=32/\∃xs:List (el (TI t).elem),
  (Unit->xs.length=len/\len<=524288/\(parts.toList.all fun p=>(e p.2).full)=true/\QH (parts.toList.map fun p=>(p.1,(e p.2).cs)) 0 (xs.map (cells _)))/\
  (K ⟨.one (.AZ (TI t).elem d (AY bk d+1) 0 len),[(d,.arr (AY bk d+1) _ xs)],[d]⟩\/K ⟨.one (.sl (TI t).elem xs),[],[]⟩)
 | .makeSlice t l c=>(TI t).sl=true/\match e l,e c with
  | .one (.int _ n),.one (.int _ m)=>(Unit->0<=n/\n<=m/\fits m.toNat (TI t).GA)/\
   ∀k z,(k=n.toNat/\z=List.replicate k (TI t).CP)->K ⟨.one (.AZ (TI t).elem d (AY bk d+1) 0 k),[(d,.arr (AY bk d+1) _ z)],[d]⟩
  | _,_=>False
 | .indexAddr t x i=>(TI t).sl=true/\match e x,e i with
  | .one (.sl t' l),.one (.int _ n)=>T.beq t' (TI t).elem=true/\∃x,(Unit->0<=n/\l[n.toNat]? =some x)/\K ⟨.one (.EL t' x 0),[],[]⟩
  | .one (.AZ t' id v off len),.one (.int _ n)=>T.beq t' (TI t).elem=true/\if AY bk id=v then (Unit->0<=n/\n.toNat<len)/\∀j,j=off+n.toNat->K ⟨.one (.DI t' id v j 0),[],[id]⟩ else False
  | _,_=>False
 | .slice t x lo hi mx=>(TI t).sl=true/\I7 bk (TI t).elem (e x) (lo.map e) (hi.map e) (mx.map e) K
 | .binOp op bt x y _=>match e x,e y with
  | .one (.int k a),.one (.int k' b)=>if k=k'\/op= .shl\/op= .shr then arith op k a b fun c=>K ⟨.one c,[],[]⟩ else False
  | .one (.bool a),.one (.bool b)=>(TI bt).OV=true/\match op with
   | .eql=>∀c,c=(a==b)->K ⟨.one (.bool c),[],[]⟩
   | .neq=>∀c,c=(a !=b)->K ⟨.one (.bool c),[],[]⟩
   | _=>False
  | .one (.sl _ l),.one .nil=>(TI bt).sl=true/\match op with
   | .eql=>∀c,c=l.isEmpty->K ⟨.one (.ub c),[],[]⟩
   | _=>False
  | _,_=>False
 | .unOp op _ x=>match op,e x with
  | .not,.one (.bool b)=>∀c,c= !b->K ⟨.one (.bool c),[],[]⟩
  | .neg,.one (.int k n)=>∀c,c=k.wrap (0-n)->K ⟨.one (.int k c),[],[]⟩
  | _,_=>False
 | .convert src dst x=>(TI src).known=true/\match (TI dst).kind,e x with
  | some k,.one (.int _ n)=>∀c,c=k.wrap n->K ⟨.one (.int k c),[],[]⟩
  | _,_=>False
 | .call c=>match c.callee with
  | .builtin b=>QB TI b c.argTypes.toList (c.args.toList.map e) d bk K
  | .value f=>match e f with
   | .one (.fn g)=>Jq E g (c.args.toList.map e) d bk K
   | _=>False
  | .invoke _ _=>False
 | _=>False
def DG:List (Nat×AR)->List (Option AR)->List (Option AR)
 | [],b=>b
 | w::r,b=>DG r (BY b w.1 (some w.2))
def GW (l:List AV):Option Nat->AV->List AV
 | some d,v=>BY l d v
 | none,_=>l
def St.app (s:St) (d:Option Nat) (f:Bz):St:=⟨GW s.sl d f.v,DG f.ws s.bk⟩
def Bu (o:Oper):Nat:=o.dst.getD 1000000
abbrev Tr:=List (List Nat×List Nat)
def OR (ops:List Oper) (j:Nat):Option Nat:=(ops[j]?).bind (·.dst)
def Y6 (o:Oper):List Nat:=o.op.operands.toList.filterMap fun | .tmp t=>some t | _=>none
def H4 (ops:List Oper) (o:Oper):List Nat:=
 o.dst.toList++Y6 o++(match o.guard with | some (j,_)=>(OR ops j).toList | none=>[])
def Fg (o:Oper):List Nat:=(o.after.toList.filter fun e=>Region.binds .any e).map (·.on)
def GO:List Oper->List (List Nat)->List (List Nat)
 | [],acc=>acc
 | o::r,acc=>GO r (acc++[(Fg o).flatMap fun j=>j::acc.getD j []])
def MM (a b:List Nat):Bool:=a.all fun x=> !b.contains x
def L3 (ops:List Oper) (oi oj:Oper) (ti tj:List Nat×List Nat):Bool:=
 MM oi.dst.toList (H4 ops oj)&&MM oj.dst.toList (H4 ops oi)&&
 MM ti.2 (tj.1++tj.2)&&MM tj.2 ti.1
def Yy (ops:List Oper) (tr:Tr) (bs:List (List Nat)):Bool:=
 (List.range ops.length).all fun j=>(List.range j).all fun i=>
  (bs.getD j []).contains i||
   (match ops[i]?,ops[j]?,tr[i]?,tr[j]? with
    | some oi,some oj,some ti,some tj=>L3 ops oi oj ti tj
    | _,_,_,_=>false)
def Vw (ops:List Oper):Bool:=
 (List.range ops.length).all fun j=>match ops[j]? with | some o=>(Fg o).all fun i=>decide (i<j) | none=>true
def JV (ops:List Oper) (tr:Tr):Bool:=Vw ops&&Yy ops tr (GO ops [])
def Hd (E:Env) (TI:TypeId->Info) (all:List Oper) (draw:Bool):List Oper->Tr->(St->Prop)->St->Prop
 | [],tr,Q,s=>match draw with
  | false=>Q s
  | true=>(Unit->JV all tr.reverse=true)/\Q s
 | o::r,tr,Q,s=>match o.guard with
  | none=>Ch E TI o (Bu o) (ev s.sl) (AK s.bk) fun f=>Hd E TI all draw r ((f.rd,f.ws.map (·.1))::tr) Q (s.app o.dst f)
  | some (j,w)=>match OR all j with
   | none=>False
   | some g=>match nth s.sl g,w with
    |.one (.bool true),true|.one (.bool false),false=>Ch E TI o (Bu o) (ev s.sl) (AK s.bk) fun f=>Hd E TI all draw r ((f.rd,f.ws.map (·.1))::tr) Q (s.app o.dst f)
    |.one (.bool true),false|.one (.bool false),true|.AG [],_=>Hd E TI all draw r (([],[])::tr) Q (s.app o.dst ⟨.AG [],[],[]⟩)
    | _,_=>False
 inductive AX
  | DJ | exit (n:Nat) | ret
def JS (bk:Nat->Option AR) (bs:List Nat):AC->AC
 | .AZ t id v off len=>if bs.contains id&&AY bk id==v then .AZ t id 0 off len else .By
 | .As id v off=>if bs.contains id&&AY bk id==v then .As id 0 off else .By
 | .DI t id v i k=>if bs.contains id&&AY bk id==v then .DI t id 0 i k else .By
 | .Dm _ _ _ _ _=> .By
 | c=>c
def SD (bk:Nat->Option AR) (bs:List Nat):AV->AV
 | .one c=> .one (JS bk bs c)
 | .agg cs=> .agg (cs.map (JS bk bs))
 | .AG _=> .one .By
def Mo (bk:Nat->Option AR) (bs:List Nat):AR->AR
 | .var _ cs=> .var 0 (cs.map (JS bk bs))
 | .arr _ t l=> .arr 0 t l
 | .dead _=> .dead 0
def FA (s:St) (bs:List Nat):List Nat->List AV
 | []=>[]
 | k::r=>SD (AK s.bk) bs (nth s.sl k)::FA s bs r
def Eu (s:St) (bs:List Nat):List Nat->List AR
 | []=>[]
 | k::r=>(match AK s.bk k with | some b=>if k==0&&b.AY !=0 then .dead 0 else Mo (AK s.bk) bs b | none=> .dead 0)::Eu s bs r
def Gl:List Nat->List AV->List AV->List AV
 | k::ks,v::vs,l=>Gl ks vs (BY l k v)
 | _,_,l=>l
def HZ:List Nat->List AR->List (Option AR)->List (Option AR)
 | k::ks,v::vs,l=>HZ ks vs (BY l k (some v))
 | _,_,l=>l
def Hb {α:Type}:Nat->α->List α
 | 0,_=>[]
 | n+1,x=>x::Hb n x
def HV (n:Nat) (ks:List Nat) (vs:List AV) (bs:List Nat) (bl:List AR):St:=
 ⟨Gl ks vs (Hb n (.one .By)),HZ bs bl (Hb n none)⟩
def Kj (s:St):List (Nat×T×Bool)->St
 | []=>s
 | (k,t,b)::r=>Kj (match nth s.sl k,b with
  | .one .nil,false=>⟨BY s.sl k (.one (.sl t [])),s.bk⟩
  | .one .nil,true=>⟨BY s.sl k (.one (.AZ t k (AY (AK s.bk) k+1) 0 0)),BY s.bk k (some (.arr (AY (AK s.bk) k+1) t []))⟩
  | _,_=>s) r
def Kp:Code->Bool
 |.skip|.region _ _ _=>true
 | .seq a b=>Kp a&&Kp b
 | .cond _ a b=>Kp a||Kp b
 |.block _ _|.loop _=>true
 | _=>false
def DH (E:Env) (TI:TypeId->Info) (n:Nat):Code->(AX->St->Prop)->St->Prop
 | .skip,Q,s=>Q .DJ s
 | .region _ ops draw,Q,s=>Hd E TI ops.toList draw ops.toList [] (Q .DJ) s
 | .seq a b,Q,s=>DH E TI n a (fun e s=>match e with | .DJ=>DH E TI n b Q s | .exit i=>Q (.exit i) s | .ret=>Q .ret s) s
 | .cond c a b,Q,s=>match Kp a&&Kp b with
  | true=>(∃(ks bs:List Nat) (J:List AV->List AR->Prop),(∀vs bl,J vs bl->Q .DJ (HV n ks vs bs bl))/\
    match ev s.sl c with
    | .one (.bool true)=>DH E TI n a (fun e s'=>match e with | .DJ=>J (FA s' bs ks) (Eu s' bs bs) | .exit i=>Q (.exit i) s' | .ret=>Q .ret s') s
    | .one (.bool false)=>DH E TI n b (fun e s'=>match e with | .DJ=>J (FA s' bs ks) (Eu s' bs bs) | .exit i=>Q (.exit i) s' | .ret=>Q .ret s') s
    | .one (.ub u)=>(u=true->DH E TI n a (fun e s'=>match e with | .DJ=>J (FA s' bs ks) (Eu s' bs bs) | .exit i=>Q (.exit i) s' | .ret=>Q .ret s') s)/\
     DH E TI n b (fun e s'=>match e with | .DJ=>J (FA s' bs ks) (Eu s' bs bs) | .exit i=>Q (.exit i) s' | .ret=>Q .ret s') s
    | _=>False)\/
   (match ev s.sl c with
   | .one (.bool true)=>DH E TI n a Q s
   | .one (.bool false)=>DH E TI n b Q s
   | .one (.ub u)=>(u=true->DH E TI n a Q s)/\DH E TI n b Q s
   | _=>False)
  | false=>match ev s.sl c with
   | .one (.bool true)=>DH E TI n a Q s
   | .one (.bool false)=>DH E TI n b Q s
   | .one (.ub u)=>(u=true->DH E TI n a Q s)/\DH E TI n b Q s
   | _=>False
 | .block id c,Q,s=>(∃(ks bs:List Nat) (J:List AV->List AR->Prop),(∀vs bl,J vs bl->Q .DJ (HV n ks vs bs bl))/\
   DH E TI n c (fun e s'=>match e with | .exit i=>if i=id then J (FA s' bs ks) (Eu s' bs bs) else Q (.exit i) s' | .DJ=>J (FA s' bs ks) (Eu s' bs bs) | .ret=>Q .ret s') s)\/
  DH E TI n c (fun e s=>match e with | .exit i=>if i=id then Q .DJ s else Q (.exit i) s | .DJ=>Q .DJ s | .ret=>Q .ret s) s
 | .loop c,Q,s=>∃(cv:List (Nat×T×Bool)) (ks bs:List Nat) (J:List AV->List AR->Nat->Prop),
  (∃k,J (FA (Kj s cv) bs ks) (Eu (Kj s cv) bs bs) k)/\∀vs bl k,J vs bl k->
   DH E TI n c (fun e s'=>match e with
    | .DJ=>∃k',k'<k/\J (FA s' bs ks) (Eu s' bs bs) k'
    | .exit i=>Q (.exit i) s' | .ret=>Q .ret s') (HV n ks vs bs bl)
 | .exit i,Q,s=>Q (.exit i) s
 | .ret,Q,s=>Q .ret s
 | _,_,_=>False
def FE (bk:Nat->Option AR):AC->AC->Prop
 | .AZ t id v off len,c=>(∃l,bk id=some (.arr v t l)/\off+len<=l.length/\c= .sl t ((l.drop off).take len))\/
  (∃l n,id≠0/\bk id=some (.arr v t l)/\off=0/\len=l.length/\n=l.length/\c= .own t l n)\/
  (id=0/\v=0/\c= .AZ t 0 0 off len)
 | .nil,c=>c= .nil\/(∃t,c= .sl t [])\/∃t,c= .own t [] 0
 | .int k n,c=>c= .int k n
 | .bool b,c=>c= .bool b
 | .fn f,c=>c= .fn f
 | .sl t l,c=>c= .sl t l
 | _,_=>False
def Ir (bk:Nat->Option AR):List (Bool×List AC)->List (Bool×List AC)->Prop
 | [],[]=>True
 | a::l,b::m=>(a.1=b.1/\BX (FE bk) a.2 b.2)/\Ir bk l m
 | _,_=>False
def Gg:AC->Bool
 | .own _ _ _=>true
 | _=>false
def JI:AC->Bool
 |.AZ _ _ _ _ _|.own _ _ _=>true
 | _=>false
def Ov (src:List (Bool×List AC)) (res:List (Bool×List AC)):Bool:=
 match (res.flatMap (·.2)).filter Gg with
 | []=>true
 | [_]=>((src.flatMap (·.2)).filter JI).length<=1
 | _=>false
def AV.FM:AV->List (Bool×List AC)
 | .AG xs=>xs
 | v=>[v.comp]
def PD (TI:TypeId->Info) (s:St):ResultVar->Option (Bool×List AC)
 | .tmp t=>some (nth s.sl t).comp
 | .cell a t=>match nth s.sl a with
  | .one (.As id v off)=>match AK s.bk id with
   | some (.var v' cs)=>if (TI t).known&&v'==v&&(Ga cs off (TI t).size).length==(TI t).size then some ((TI t).agg,Ga cs off (TI t).size) else none
   | _=>none
  | _=>none
def Is (TI:TypeId->Info) (s:St):List ResultVar->Option (List (Bool×List AC))
 | []=>some []
 | r::rs=>match PD TI s r,Is TI s rs with
  | some x,some xs=>some (x::xs)
  | _,_=>none
def KC:AC->Bool
 | .AZ _ 0 _ _ _=>false
 | _=>true
def Mr (TI:TypeId->Info) (rs:List ResultVar) (r:AV) (b0:AR) (e:AX) (s:St):Prop:=
 match e with
 | .exit _=>False
 | _=>match Is TI s rs with
  | some xs=>(Unit->(Ir (AK s.bk) xs r.FM/\(xs.all fun x=>x.2.all KC)=true/\(rs.length=1↔∀ys,r≠ .AG ys))/\AK s.bk 0=some b0)
  | none=>False
def post (TI:TypeId->Info) (rs:List ResultVar) (r:AV) (b1:Option AR) (e:AX) (s:St):Prop:=
 match e with
 | .exit _=>False
 | _=>match Is TI s rs with
  | some xs=>(Unit->Ir (AK s.bk) xs r.FM/\Ov xs r.FM=true/\(rs.length=1↔∀ys,r≠ .AG ys))/\
   (match b1 with | none=>True | some b=>Unit->AK s.bk 0=some b)
  | none=>False
def DT (n:Nat) (args:List AV) (b0:Option AR):St:=
 ⟨args++Hb (n-args.length) (.one .By),match n with | 0=>[] | n+1=>b0::Hb n none⟩
open Go.RowKit
def BA {α β:Type} (R:α->β->Prop):List α->List β->Prop
 | [],[]=>True
 | a::l,b::m=>R a b/\BA R l m
 | _,_=>False
theorem BA.mono {α β:Type} {R R':α->β->Prop}:∀{l:List α} {m:List β},(∀a b,R a b->R' a b)->BA R l m->BA R' l m
 | [],[],_,h=>h
 | _::_,_::_,c,h=>⟨c _ _ h.1,BA.mono c h.2⟩
 |[],_::_,_,h|_::_,[],_,h=>h
theorem BA.length {α β:Type} {R:α->β->Prop}:∀{l:List α} {m:List β},BA R l m->l.length=m.length
 | [],[],_=>rfl
 | _::_,_::_,h=>by simp[BA.length h.2]
 |[],_::_,h|_::_,[],h=>h.elim
theorem BA.get {α β:Type} {R:α->β->Prop}:∀{l:List α} {m:List β},BA R l m->∀(i:Nat) (a:α),l[i]? =some a->∃b,m[i]? =some b/\R a b
 | _::_,b::_,h,0,a,e=>by simp at e;exact⟨b,by simp,e ▸ h.1⟩
 | _::_,_::_,h,i+1,a,e=>by simpa using BA.get h.2 i a (by simpa using e)
 | [],[],_,_,_,e=>by simp at e
 |[],_::_,h,_,_,_|_::_,[],h,_,_,_=>h.elim
theorem BA.append {α β:Type} {R:α->β->Prop}:∀{l:List α} {m:List β} {l':List α} {m':List β},BA R l m->BA R l' m'->BA R (l++l') (m++m')
 | [],[],_,_,_,h=>h
 | _::_,_::_,_,_,h,h'=>⟨h.1,BA.append h.2 h'⟩
 |[],_::_,_,_,h,_|_::_,[],_,_,h,_=>h.elim
theorem BA.SL {α β:Type} {R:α->β->Prop}:∀{l l':List α} {m:List β},BA R (l++l') m->∃m1 m2,m=m1++m2/\BA R l m1/\BA R l' m2
 | [],_,m,h=>⟨[],m,rfl,trivial,h⟩
 | _::_,_,[],h=>h.elim
 | _::_,_,b::_,h=>by
  obtain⟨m1,m2,e,c,d⟩:=BA.SL h.2;exact⟨b::m1,m2,by simp[e],⟨h.1,c⟩,d⟩
theorem BA.drop {α β:Type} {R:α->β->Prop}:∀{l:List α} {m:List β} (n:Nat),BA R l m->BA R (l.drop n) (m.drop n)
 | _,_,0,h=>by simpa using h
 | [],[],_+1,_=>trivial
 | _::_,_::_,n+1,h=>by simpa using BA.drop n h.2
 |[],_::_,_,h|_::_,[],_,h=>h.elim
theorem BA.take {α β:Type} {R:α->β->Prop}:∀{l:List α} {m:List β} (n:Nat),BA R l m->BA R (l.take n) (m.take n)
 | _,_,0,_=>by simp[BA]
 | [],[],_+1,_=>trivial
 | _::_,_::_,n+1,h=>by simpa [BA] using ⟨h.1,BA.take n h.2⟩
 |[],_::_,_,h|_::_,[],_,h=>h.elim
theorem Lg:∀(cs:List AC) (off n:Nat),Ga cs off n=(cs.drop off).take n
 |_,0,_|[],_+1,_=>by simp[Ga]
 | _::cs,off+1,n=>by simpa [Ga] using Lg cs off n
theorem HO:∀(t:T) (x:el t),(cells t x).length=t.size
 |.u8,_|.u32,_|.u64,_|.i8,_|.i64,_|.bool,_|.sl _,_=>rfl
 | .pr a b,x=>by simp[cells,T.size,HO a,HO b]
theorem T.size_pos:∀t:T,0<t.size
 | .pr a b=>by have:=T.size_pos a;simp[T.size];omega
 |.u8|.u32|.u64|.i8|.i64|.bool|.sl _=>Nat.one_pos
def rep (w:World) (I:Nat->Prop):(t:T)->el t->List Value->Prop
 | .u8,x,vs=>vs=[.int .u8 x.toNat]
 | .u32,x,vs=>vs=[.int .u32 x.toNat]
 | .u64,x,vs=>vs=[.int .u64 x.toNat]
 | .i8,x,vs=>vs=[.int .i8 x]
 | .i64,x,vs=>vs=[.int .i64 x]
 | .bool,x,vs=>vs=[.bool x]
 | .sl t,l,vs=>∃base cap,vs=[.slice base l.length cap]/\l.length<=cap/\l.length<=140737488355328/\
  (l=[]\/∃b off,base=some ⟨b,off,none⟩/\I b/\∀(i:Nat) (x:el t),l[i]? =some x->∃us,rep w I t x us/\w.rangeAt b (off+i*t.size) us)
 | .pr a b,x,vs=>∃v1 v2,vs=v1++v2/\rep w I a x.1 v1/\rep w I b x.2 v2
theorem rangeAt_of_block {w w':World} {b o:Nat} {vs:List Value} (h:w'.heap[b]? =w.heap[b]?) (c:w.rangeAt b o vs):w'.rangeAt b o vs:=
 fun j v d=>(World.cell?_of_block (w:=w) (a:=⟨b,o+j,none⟩) h).trans (c j v d)
theorem C6 {w w':World} {I g:Nat->Prop} (h:∀b,I b->g b/\w'.heap[b]? =w.heap[b]?):∀(t:T) (x:el t) (vs:List Value),rep w I t x vs->rep w' g t x vs
 |.u8,_,_,c|.u32,_,_,c|.u64,_,_,c|.i8,_,_,c|.i64,_,_,c|.bool,_,_,c=>c
 | .sl t,_,_,⟨base,cap,e,d,f,k⟩=>⟨base,cap,e,d,f,k.imp id fun⟨b,off,hb,j,hc⟩=>
  ⟨b,off,hb,(h b j).1,fun i x l=>let ⟨us,hu,c⟩:=hc i x l;⟨us,C6 h t x us hu,rangeAt_of_block (h b j).2 c⟩⟩⟩
 | .pr a b,x,_,⟨v1,v2,e,d,f⟩=>⟨v1,v2,e,C6 h a x.1 v1 d,C6 h b x.2 v2 f⟩
theorem Jc {w:World} {I:Nat->Prop}:∀(t:T) (x:el t) (vs:List Value),rep w I t x vs->vs.length=t.size
 |.u8,_,_,h|.u32,_,_,h|.u64,_,_,h|.i8,_,_,h|.i64,_,_,h|.bool,_,_,h=>by rw[show _=_ from h];rfl
 | .sl _,_,_,⟨_,_,e,_⟩=>by rw[e];rfl
 | .pr a b,x,_,⟨v1,v2,e,c,d⟩=>by rw[e,List.length_append,Jc a x.1 v1 c,Jc b x.2 v2 d];rfl
theorem PC {w:World} {I:Nat->Prop}:∀(t:T) (x:el t) (vs:List Value),rep w I t x vs->∀v∈vs,v.oneCell'=true
 |.u8,_,_,h,v,c|.u32,_,_,h,v,c|.u64,_,_,h,v,c|.i8,_,_,h,v,c|.i64,_,_,h,v,c|.bool,_,_,h,v,c=>by rw[show _=_ from h] at c;simp at c;subst c;rfl
 | .sl _,_,_,⟨_,_,e,_⟩,v,c=>by rw[e] at c;simp at c;subst c;rfl
 | .pr a b,x,_,⟨v1,v2,e,d,f⟩,v,c=>by
  rw[e] at c;rcases List.mem_append.1 c with h | h
  ·exact PC a x.1 v1 d v h
  exact PC b x.2 v2 f v h
def Hl (w:World) (o:Option Nat) (n off len:Nat) (full:Bool) (v:Value):Prop:=
 ∃base cap,v= .slice base len cap/\len<=cap/\cap<=maxLen/\(full=true->cap=len)/\
  (cap=0\/∃b arr e,o=some b/\base=some ⟨b,off*n,none⟩/\w.heap[b]? =some (.cells arr e (0,0))/\(off+cap)*n<=arr.size)
structure Cx where
 w:World
 β:Nat->Option Nat
 cv:Nat->Nat
 I:Nat->Prop
def BV (x:Cx):AC->Value->Prop
 | .By,v=>v.oneCell'=true
 | .int k n,v=>v= .int k n
 | .bool b,v=>v= .bool b
 | .fn f,v=>v= .func (.func f) #[] #[]
 | .nil,v=>v= .slice none 0 0
 | .sl t l,v=>rep x.w x.I (.sl t) l [v]
 | .AZ t id AY off len,v=>(v.oneCell'=true/\AY<=x.cv id)/\(AY=x.cv id->Hl x.w (x.β id) t.size off len false v)
 | .Dm t id AY off len,v=>(v.oneCell'=true/\AY<=x.cv id)/\(AY=x.cv id->Hl x.w (x.β id) t.size off len true v)
 | .As id AY off,v=>(v.oneCell'=true/\AY<=x.cv id)/\(AY=x.cv id->∃b,x.β id=some b/\v= .pointer (some ⟨b,off,none⟩))
 | .DI t id AY i k,v=>(v.oneCell'=true/\AY<=x.cv id)/\(AY=x.cv id->∃b,x.β id=some b/\v= .pointer (some ⟨b,i*t.size+k,none⟩))
 | .ub e,v=>∃b:Bool,v= .bool b/\(b=true->e=true)
 | .EL t y off,v=>∃b o us,v= .pointer (some ⟨b,o+off,none⟩)/\x.I b/\rep x.w x.I t y us/\x.w.rangeAt b o us
 | .own _ _ _,_=>False
theorem BV.one {x:Cx}:∀{c:AC} {v:Value},BV x c v->v.oneCell'=true
 | .By,_,h=>h
 |.int _ _,_,h|.bool _,_,h|.fn _,_,h|.nil,_,h=>by rw[show _=_ from h];rfl
 | .sl _ _,_,h=>PC _ _ _ h _ (by simp)
 |.AZ _ _ _ _ _,_,h|.Dm _ _ _ _ _,_,h|.As _ _ _,_,h|.DI _ _ _ _ _,_,h=>h.1.1
 |.EL _ _ _,_,⟨_,_,_,e,_⟩|.ub _,_,⟨_,e,_⟩=>by rw[e];rfl
 | .own _ _ _,_,h=>h.elim
def Ef (x:Cx):AV->Value->Prop
 | .one c,v=>c= .By\/BV x c v
 | .agg cs,v=>∃arr,v= .agg arr/\BA (BV x) cs arr.toList
 | .AG _,_=>False
def Bt (x:Cx):AV->Value->Prop
 | .AG xs,v=>∃arr,v= .tuple arr/\BA (fun y u=>Ef x (Dn y) u) xs arr.toList
 | a,v=>Ef x a v
def DM (x:Cx) (id:Nat):AR->Prop
 | .dead _=>True
 | .var _ cs=>∃b arr e,x.β id=some b/\x.w.heap[b]? =some (.cells arr e (0,0))/\BA (BV x) cs arr.toList
 | .arr _ t l=>(x.β id=none/\l=[])\/∃b arr e,x.β id=some b/\x.w.heap[b]? =some (.cells arr e (0,0))/\
  ∀(i:Nat) (y:el t),l[i]? =some y->∃us,rep x.w x.I t y us/\x.w.rangeAt b (i*t.size) us
structure Cx.le (x y:Cx):Prop where
 cv:∀id,x.cv id<=y.cv id
 β:∀id,y.cv id=x.cv id->y.β id=x.β id
 size:∀id b arr e,y.cv id=x.cv id->x.β id=some b->x.w.heap[b]? =some (.cells arr e (0,0))->∃arr',y.w.heap[b]? =some (.cells arr' e (0,0))/\arr'.size=arr.size
 I:∀b,x.I b->y.I b/\y.w.heap[b]? =x.w.heap[b]?
theorem Hl.mono {x y:Cx} (h:x.le y) {id n off len:Nat} {f:Bool} {v:Value} (hc:y.cv id=x.cv id) (m:Hl x.w (x.β id) n off len f v):Hl y.w (y.β id) n off len f v:=by
 obtain⟨base,cap,e,g,i,k,h3⟩:=m;refine⟨base,cap,e,g,i,k,h3.imp (fun q=>q) fun⟨b,arr,e',hb,c,l,p⟩=>?_⟩;obtain⟨d,j,o⟩:=h.size id b arr e' hc hb l;exact⟨b,d,e',(h.β id hc).trans hb,c,j,by omega⟩
theorem BV.mono {x y:Cx} (h:x.le y):∀{c:AC} {v:Value},BV x c v->BV y c v
 |.By,_,r|.int _ _,_,r|.bool _,_,r|.fn _,_,r|.nil,_,r=>r
 | .sl _ _,_,r=>C6 h.I _ _ _ r
 | .AZ _ id v _ _,_,r=>⟨⟨r.1.1,Nat.le_trans r.1.2 (h.cv id)⟩,fun e=>by
  have:=h.cv id;have d:v=x.cv id:=by have:=r.1.2;omega
  exact Hl.mono h (e ▸ d) (r.2 d)⟩
 | .Dm _ id v _ _,_,r=>⟨⟨r.1.1,Nat.le_trans r.1.2 (h.cv id)⟩,fun e=>by
  have:=h.cv id;have d:v=x.cv id:=by have:=r.1.2;omega
  exact Hl.mono h (e ▸ d) (r.2 d)⟩
 | .As id v _,_,r=>⟨⟨r.1.1,Nat.le_trans r.1.2 (h.cv id)⟩,fun e=>by
  have:=h.cv id;have d:v=x.cv id:=by have:=r.1.2;omega
  obtain⟨b,hb,f⟩:=r.2 d;exact⟨b,(h.β id (e ▸ d)).trans hb,f⟩⟩
 | .DI _ id v _ _,_,r=>⟨⟨r.1.1,Nat.le_trans r.1.2 (h.cv id)⟩,fun e=>by
  have:=h.cv id;have d:v=x.cv id:=by have:=r.1.2;omega
  obtain⟨b,hb,f⟩:=r.2 d;exact⟨b,(h.β id (e ▸ d)).trans hb,f⟩⟩
 | .ub _,_,h=>h
 | .EL t y' _,_,⟨b,o,us,e,g,i,ha⟩=>⟨b,o,us,e,(h.I b g).1,C6 h.I t y' us i,rangeAt_of_block (h.I b g).2 ha⟩
 | .own _ _ _,_,r=>r.elim
theorem Ef.mono {x y:Cx} (h:x.le y):∀{a:AV} {v:Value},Ef x a v->Ef y a v
 | .one _,_,r=>r.imp (fun q=>q) (BV.mono h)
 | .agg _,_,⟨arr,e,r⟩=>⟨arr,e,r.mono fun _ _=>BV.mono h⟩
 | .AG _,_,r=>r.elim
theorem Bt.mono {x y:Cx} (h:x.le y):∀{a:AV} {v:Value},Bt x a v->Bt y a v
 | .one c,v,r=>Ef.mono h (a:= .one c) r
 | .agg cs,v,r=>Ef.mono h (a:= .agg cs) r
 | .AG _,_,⟨arr,e,r⟩=>⟨arr,e,r.mono fun _ _=>Ef.mono h⟩
theorem H6 (x:Cx):∀(t:T) (y:el t) (vs:List Value),rep x.w x.I t y vs↔BA (BV x) (cells t y) vs
 | .u8,y,vs=>one x (.int .u8 y.toNat) _ vs fun _=>Iff.rfl
 | .u32,y,vs=>one x (.int .u32 y.toNat) _ vs fun _=>Iff.rfl
 | .u64,y,vs=>one x (.int .u64 y.toNat) _ vs fun _=>Iff.rfl
 | .i8,y,vs=>one x (.int .i8 y) _ vs fun _=>Iff.rfl
 | .i64,y,vs=>one x (.int .i64 y) _ vs fun _=>Iff.rfl
 | .bool,y,vs=>one x (.bool y) _ vs fun _=>Iff.rfl
 | .sl t,y,vs=>by
  match vs with
  | []=>exact⟨fun⟨_,_,e,_⟩=>by simp at e,fun h=>h.elim⟩
  | [v]=>exact⟨fun h=>⟨h,trivial⟩,fun h=>h.1⟩
  | _::_::_=>exact⟨fun⟨_,_,e,_⟩=>by simp at e,fun h=>h.2.elim⟩
 | .pr a b,y,vs=>by
  constructor
  ·rintro⟨v1,v2,rfl,d,f⟩
   exact ((H6 x a y.1 v1).1 d).append ((H6 x b y.2 v2).1 f)
  intro h;obtain⟨m1,m2,e,d,f⟩:=BA.SL h;exact⟨m1,m2,e,(H6 x a y.1 m1).2 d,(H6 x b y.2 m2).2 f⟩
where
 one (x:Cx) (c:AC) (u:Value) (vs:List Value) (h:∀v,BV x c v↔v=u):vs=[u]↔BA (BV x) [c] vs:=by
  match vs with
  | []=>exact⟨fun e=>by simp at e,fun h=>h.elim⟩
  | [v]=>exact⟨fun e=>⟨(h v).2 (by simpa using e),trivial⟩,fun g=>by rw[(h v).1 g.1]⟩
  | _::_::_=>exact⟨fun e=>by simp at e,fun h=>h.2.elim⟩
theorem DM.mono {x y:Cx} (h:x.le y) {id:Nat} {b:AR} (hc:y.cv id=x.cv id) (hb:∀k,x.β id=some k->y.w.heap[k]? =x.w.heap[k]?) (r:DM x id b):DM y id b:=by
 cases b with
 | dead _=>trivial
 | var _ cs=>
  obtain⟨b,arr,e,c,d,h3⟩:=r;exact⟨b,arr,e,(h.β id hc).trans c,(hb b c).trans d,h3.mono fun _ _=>BV.mono h⟩
 | arr _ t l=>
  refine r.imp (fun q=>⟨(h.β id hc).trans q.1,q.2⟩) fun⟨b,arr,e,c,d,h3⟩=>?_
  refine⟨b,arr,e,(h.β id hc).trans c,(hb b c).trans d,fun i y' f=>?_⟩;obtain⟨us,hu,ha⟩:=h3 i y' f;exact⟨us,C6 h.I t y' us hu,rangeAt_of_block (hb b c) ha⟩
theorem KD:∀(l:List AV) (d:Nat) (v:AV) (i:Nat),nth (BY l d v) i=if i=d/\d<l.length then v else nth l i
 |[],d,v,i|_::_,0,v,0|_::_,0,v,i+1|_::_,d+1,v,0=>by simp[BY,nth]
 | a::l,d+1,v,i+1=>by simp[BY,nth,KD l d v i]
theorem HY:∀(l:List (Option AR)) (d:Nat) (v:Option AR) (i:Nat),AK (BY l d v) i=if i=d/\d<l.length then v else AK l i
 |[],d,v,i|_::_,0,v,0|_::_,0,v,i+1|_::_,d+1,v,0=>by simp[BY,AK]
 | a::l,d+1,v,i+1=>by simp[BY,AK,HY l d v i]
theorem Gi {α:Type}:∀(l:List α) (d:Nat) (v:α),(BY l d v).length=l.length
 |[],_,_|_::_,0,_=>rfl
 | _::l,d+1,v=>by simp[BY,Gi l d v]
theorem JU:∀(l:List (Option AR)) (i:Nat),l.length<=i->AK l i=none
 | [],_,_=>rfl
 | _::_,0,h=>by simp at h
 | _::l,i+1,h=>by simpa [AK] using JU l i (by simpa using h)
theorem He {α:Type}:∀(l:List α) (d:Nat) (v:α),l.length<=d->BY l d v=l
 | [],_,_,_=>rfl
 | _::_,0,_,h=>by simp at h
 | a::l,d+1,v,h=>by simp[BY,He l d v (by simpa using h)]
def AR.live:AR->Bool
 | .dead _=>false
 | _=>true
def AR.short:AR->Prop
 | .arr _ _ l=>l.length<=140737488355328
 | _=>True
def live (bk:Nat->Option AR) (id:Nat):Prop:=∃b,bk id=some b/\b.live=true
structure WX where
 X:Nat->Prop
 A:Nat->Prop
 ob:Option Nat
def cx (X:WX) (w:World) (β:Nat->Option Nat) (bk:Nat->Option AR):Cx:=
 ⟨w,β,AY bk,fun b=>(b<w.heap.size/\∀id,live bk id->β id≠some b)/\X.A b⟩
structure Bn (w0:World) (X:WX) (β:Nat->Option Nat) (s:St) (a:Act) (w:World):Prop where
 defers:a.defers=[]
 len:s.sl.length=a.tmps.size
 Hz:s.bk.length=a.tmps.size
 Ca:∀i,Bt (cx X w β (AK s.bk)) (nth s.sl i) (a.tmps.getD i undef)
 blocks:∀id b,AK s.bk id=some b->DM (cx X w β (AK s.bk)) id b
 inj:∀id id' b,live (AK s.bk) id->live (AK s.bk) id'->β id=some b->β id'=some b->id=id'
 own:∀id b,live (AK s.bk) id->β id=some b->w0.heap.size<=b\/(X.X b/\id=0)
 os:w.os=w0.os
 tape:w.tape=w0.tape
 output:w.output=w0.output
 size:w0.heap.size<=w.heap.size
 block:∀b,b<w0.heap.size->¬X.X b->w.heap[b]? =w0.heap[b]?
 lens:∀id b,AK s.bk id=some b->b.short
 fresh:∀b,w0.heap.size<=b->X.A b
 Kt:live (AK s.bk) 0->AY (AK s.bk) 0=0->β 0=X.ob/\∀(b:Nat) arr e,X.ob=some b->w0.heap[b]? =some (.cells arr e (0,0))->∃arr',w.heap[b]? =some (.cells arr' e (0,0))/\arr'.size=arr.size
section
variable {w0:World} {X:WX} {β:Nat->Option Nat} {s:St} {a:Act} {w:World}
theorem Jb (x:Cx) (v:Value):Bt x (.one .By) v:=Or.inl rfl
theorem iD (a:Act) (d:Nat) (v:Value) (i:Nat):(a.put (some d) v).tmps.getD i undef=if i=d/\d<a.tmps.size then v else a.tmps.getD i undef:=by
 simp only[Act.put,Array.getD_eq_getD_getElem?,Array.getElem?_setIfInBounds]
 by_cases h:d=i
 ·subst h
  by_cases b:d<a.tmps.size <;> simp[b]
 simp[h,Ne.symm h]
theorem aJ {x:Cx} {s:St} {a:Act} (hlen:s.sl.length=a.tmps.size) (h:∀i,Bt x (nth s.sl i) (a.tmps.getD i undef)) (dst:Option Nat) (v:AV) (u:Value) (b:Bt x v u):
  ∀i,Bt x (nth (GW s.sl dst v) i) ((a.put dst u).tmps.getD i undef):=by
 intro i;cases dst with
 | none=>exact h i
 | some d=>
  rw[iD];simp only[GW,KD,hlen]
  split
  ·exact b
  exact h i
theorem X3 {s:St} {a:Act} (hlen:s.sl.length=a.tmps.size) (dst:Option Nat) (v:AV) (u:Value):(GW s.sl dst v).length=(a.put dst u).tmps.size:=by
 cases dst <;> simp[GW,Act.put,Gi,hlen]
theorem size_put (a:Act) (dst:Option Nat) (u:Value):(a.put dst u).tmps.size=a.tmps.size:=by cases dst <;> simp[Act.put]
theorem Wl (a:Act) (dst:Option Nat) (u:Value):(a.put dst u).defers=a.defers:=by cases dst <;> rfl
theorem Bn.ext (S:Bn w0 X β s a w) {w':World} {dst:Option Nat} {v:AV} {u:Value} {rd:List Nat} (hw:∀b,b<w.heap.size->w'.heap[b]? =w.heap[b]?) (d:w.heap.size<=w'.heap.size)
  (n:w'.os=w.os) (g:w'.tape=w.tape) (m:w'.output=w.output) (p:Bt (cx X w' β (AK s.bk)) v u):Bn w0 X β (s.app dst ⟨v,[],rd⟩) (a.put dst u) w':=by
 have c:∀b o,w.heap[b]? =some o->b<w.heap.size:=fun b o h=>by
  rcases Nat.lt_or_ge b w.heap.size with h' | h'
  ·exact h'
  simp[Array.getElem?_eq_none h'] at h
 have hle:(cx X w β (AK s.bk)).le (cx X w' β (AK s.bk)):=
  ⟨fun _=>Nat.le_refl _,fun _ _=>rfl,fun id b arr e _ _ x=>⟨arr,(hw b (c b _ x)).trans x,rfl⟩,fun b hb=>⟨⟨⟨Nat.lt_of_lt_of_le hb.1.1 d,hb.1.2⟩,hb.2⟩,hw b hb.1.1⟩⟩
 refine⟨(Wl _ _ _).trans S.defers,X3 S.len _ _ _,S.Hz.trans (size_put _ _ _).symm,aJ S.len (fun i=>Bt.mono hle (S.Ca i)) dst v u p,fun id b hb=>?_,S.inj,S.own,
  n.trans S.os,g.trans S.tape,m.trans S.output,Nat.le_trans S.size d,fun b hb B=>(hw b (Nat.lt_of_lt_of_le hb S.size)).trans (S.block b hb B),S.lens,S.fresh,fun A p=>?_⟩
 case refine_2=>
  obtain⟨k,f⟩:=S.Kt A p;refine⟨k,fun b arr e hb he=>?_⟩;obtain⟨j,h3,y⟩:=f b arr e hb he;exact⟨j,(hw b (c b _ h3)).trans h3,y⟩
 have r:=S.blocks id b hb;cases b with
 | dead _=>trivial
 | var _ cs=>
  obtain⟨b,arr,e,k,f,h3⟩:=r;exact⟨b,arr,e,k,(hw b (c b _ f)).trans f,h3.mono fun _ _=>BV.mono hle⟩
 | arr _ t l=>
  refine r.imp (fun q=>q) fun⟨b,arr,e,k,f,h3⟩=>?_
  refine⟨b,arr,e,k,(hw b (c b _ f)).trans f,fun i y' z=>?_⟩;obtain⟨us,hu,ha⟩:=h3 i y' z;exact⟨us,C6 hle.I t y' us hu,rangeAt_of_block (hw b (c b _ f)) ha⟩
theorem Bn.val (S:Bn w0 X β s a w) {dst:Option Nat} {v:AV} {u:Value} {rd:List Nat} (b:Bt (cx X w β (AK s.bk)) v u):Bn w0 X β (s.app dst ⟨v,[],rd⟩) (a.put dst u) w:=
 S.ext (fun _ _=>rfl) (Nat.le_refl _) rfl rfl rfl b
theorem GJ (l:List (Option AR)) (id:Nat) (b:AR) (c:id<l.length) (k:Nat):AY (AK (BY l id (some b))) k=if k=id then b.AY else AY (AK l) k:=by
 unfold AY;rw[HY]
 by_cases h:k=id
 ·subst h;simp[c]
 simp[h]
theorem H0 (l:List (Option AR)) (id:Nat) (b:AR) (c:id<l.length) (k:Nat):live (AK (BY l id (some b))) k↔if k=id then b.live=true else live (AK l) k:=by
 unfold live;rw[HY]
 by_cases h:k=id
 ·subst h;simp[c]
 simp[h]
theorem Bn.write (S:Bn w0 X β s a w) {β':Nat->Option Nat} {w':World} {dst:Option Nat} {v:AV} {u:Value} {rd:List Nat} {id:Nat} {Bq:AR} (m:id<s.bk.length) (T:Bq.short)
  (q:∀k,k≠id->β' k=β k) (Q:AY (AK s.bk) id<=Bq.AY) (G:Bq.AY=AY (AK s.bk) id->β' id=β id/\(Bq.live=true->live (AK s.bk) id))
  (p:∀b,b<w.heap.size->(live (AK s.bk) id->β id≠some b)->w'.heap[b]? =w.heap[b]?) (F:w.heap.size<=w'.heap.size)
  (C:∀(b:Nat) arr e,w.heap[b]? =some (.cells arr e (0,0))->∃y,w'.heap[b]? =some (.cells y e (0,0))/\y.size=arr.size)
  (R:w'.os=w.os) (K:w'.tape=w.tape) (O:w'.output=w.output)
  (j:Bq.live=true->∀b,β' id=some b->(β id=some b/\live (AK s.bk) id)\/w.heap.size<=b)
  (hB:(cx X w β (AK s.bk)).le (cx X w' β' (AK (BY s.bk id (some Bq))))->DM (cx X w' β' (AK (BY s.bk id (some Bq)))) id Bq)
  (U:(cx X w β (AK s.bk)).le (cx X w' β' (AK (BY s.bk id (some Bq))))->Bt (cx X w' β' (AK (BY s.bk id (some Bq)))) v u):
  Bn w0 X β' (s.app dst ⟨v,[(id,Bq)],rd⟩) (a.put dst u) w':=by
 have N:∀b o,w.heap[b]? =some o->b<w.heap.size:=fun b o h=>by
  rcases Nat.lt_or_ge b w.heap.size with h' | h'
  ·exact h'
  simp[Array.getElem?_eq_none h'] at h
 have z:∀k b,live (AK s.bk) k->β k=some b->b<w.heap.size:=fun k b ⟨I,x,B⟩ hb=>by
  have r:=S.blocks k I x;cases I with
  | dead _=>simp[AR.live] at B
  | var _ _=>obtain⟨b',arr,e,n,A,_⟩:=r;obtain rfl:b=b':=Option.some.inj (hb.symm.trans n);exact N b _ A
  | arr _ _ _=>
   rcases r with⟨n,_⟩ |⟨b',arr,e,n,A,_⟩
   ·exact absurd (hb.symm.trans n) (by simp)
   obtain rfl:b=b':=Option.some.inj (hb.symm.trans n);exact N b _ A
 have hle:(cx X w β (AK s.bk)).le (cx X w' β' (AK (BY s.bk id (some Bq)))):=by
  refine⟨fun k=>?_,fun k x=>?_,fun k b arr e _ _ hh=>C b arr e hh,fun b hb=>⟨⟨⟨Nat.lt_of_lt_of_le hb.1.1 F,fun k x=>?_⟩,hb.2⟩,p b hb.1.1 (fun B=>hb.1.2 id B)⟩⟩
  ·show AY _ k<=AY _ k
   rw[GJ _ _ _ m]
   split
   ·subst_vars;exact Q
   exact Nat.le_refl _
  ·by_cases h:k=id
   ·subst h;have c:AY (AK (BY s.bk k (some Bq))) k=AY (AK s.bk) k:=x;rw[GJ _ _ _ m,if_pos rfl] at c;exact (G c).1
   exact q k h
  rw[H0 _ _ _ m] at x
  by_cases h:k=id
  ·subst h;simp only[if_true] at x;intro e;rcases j x b e with⟨n,A⟩ | n
   ·exact hb.1.2 k A n
   have:=hb.1.1
   show False
   have a1:b<w.heap.size:=hb.1.1;omega
  simp only[h,if_false] at x
  show β' k≠some b
  rw[q k h];exact hb.1.2 k x
 refine⟨(Wl _ _ _).trans S.defers,X3 S.len _ _ _,?_,?_,fun k b x=>?_,fun k k' b x c hb g=>?_,fun k b x hb=>?_,R.trans S.os,K.trans S.tape,O.trans S.output,Nat.le_trans S.size F,fun b hb V=>?_,fun k b x=>?_,S.fresh,fun B U=>?_⟩
 ·show (BY s.bk id (some Bq)).length=_
  rw[Gi,size_put];exact S.Hz
 ·exact aJ S.len (fun i=>Bt.mono hle (S.Ca i)) dst v u (U hle)
 ·have c:AK (BY s.bk id (some Bq)) k=some b:=x;rw[HY] at c
  by_cases h:k=id
  ·subst h;simp only[m,and_self,if_true,Option.some.injEq] at c;subst c;exact hB hle
  simp only[h,false_and,if_false] at c
  have M:(cx X w' β' (AK (BY s.bk id (some Bq)))).cv k=(cx X w β (AK s.bk)).cv k:=by
   show AY _ k=AY _ k
   rw[GJ _ _ _ m,if_neg h]
  have r:=S.blocks k b c;have W:(cx X w' β' (AK (BY s.bk id (some Bq)))).β k=(cx X w β (AK s.bk)).β k:=q k h;cases b with
  | dead _=>trivial
  | var vv cs=>
   refine DM.mono hle M (fun b' g=>?_) r;have B:live (AK s.bk) k:=⟨_,c,rfl⟩;exact p b' (z k b' B g) fun J e=>h (S.inj k id b' B J g e)
  | arr vv t l=>
   refine DM.mono hle M (fun b' g=>?_) r;have B:live (AK s.bk) k:=⟨_,c,rfl⟩;exact p b' (z k b' B g) fun J e=>h (S.inj k id b' B J g e)
 ·have d:live (AK (BY s.bk id (some Bq))) k:=x;have f:live (AK (BY s.bk id (some Bq))) k':=c;rw[H0 _ _ _ m] at d f
  by_cases h:k=id <;> by_cases h':k'=id
  ·rw[h,h']
  ·subst h;simp only[if_true,h',if_false] at d f;rw[q k' h'] at g;rcases j d b hb with⟨n,A⟩ | n
   ·exact S.inj k k' b A f n g
   have:=z k' b f g;omega
  ·subst h';simp only[if_true,h,if_false] at d f;rw[q k h] at hb;rcases j f b g with⟨n,A⟩ | n
   ·exact S.inj k k' b d A hb n
   have:=z k b d hb;omega
  simp only[h,h',if_false] at d f;rw[q k h] at hb;rw[q k' h'] at g;exact S.inj k k' b d f hb g
 ·have d:live (AK (BY s.bk id (some Bq))) k:=x;rw[H0 _ _ _ m] at d
  by_cases h:k=id
  ·subst h;simp only[if_true] at d;rcases j d b hb with⟨n,A⟩ | n
   ·exact S.own k b A n
   exact Or.inl (Nat.le_trans S.size n)
  simp only[h,if_false] at d;rw[q k h] at hb;exact S.own k b d hb
 ·rw[p b (Nat.lt_of_lt_of_le hb S.size) fun B e=>?_]
  ·exact S.block b hb V
  rcases S.own id b B e with h | h
  ·omega
  exact V h.1
 ·have c:AK (BY s.bk id (some Bq)) k=some b:=x;rw[HY] at c
  by_cases h:k=id
  ·subst h;simp only[m,and_self,if_true,Option.some.injEq] at c;subst c;exact T
  simp only[h,false_and,if_false] at c;exact S.lens k b c
 have D:live (AK (BY s.bk id (some Bq))) 0:=B;have H:AY (AK (BY s.bk id (some Bq))) 0=0:=U;rw[H0 _ _ _ m] at D;rw[GJ _ _ _ m] at H
 have key:live (AK s.bk) 0/\AY (AK s.bk) 0=0/\β' 0=β 0:=by
  by_cases h:0=id
  ·subst h;simp only[if_true] at D H;have Y:AY (AK s.bk) 0=0:=by omega
   have:=G (by omega);exact⟨this.2 D,Y,this.1⟩
  simp only[h,if_false] at D H;exact⟨D,H,q 0 h⟩
 obtain⟨n,A⟩:=S.Kt key.1 key.2.1;refine⟨key.2.2.trans n,fun b arr e hb he=>?_⟩;obtain⟨y,h3,h4⟩:=A b arr e hb he;obtain⟨L,Z,h6⟩:=C b y e h3;exact⟨L,Z,by omega⟩
end
def Dq (w:World) (I:Nat->Prop):Cx:=⟨w,fun _=>none,fun _=>0,I⟩
def OwnAt (x:Cx) (lo:Nat) (bo:Option Nat) (t:T) (l:List (el t)) (v:Value):Prop:=
 ∃base cap,v= .slice base l.length cap/\l.length<=cap/\cap<=maxLen/\l.length<=140737488355328/\
  ((bo=none/\l=[]/\cap=0)\/∃b arr e,bo=some b/\lo<=b/\base=some ⟨b,0,none⟩/\x.w.heap[b]? =some (.cells arr e (0,0))/\cap*t.size<=arr.size/\
    ∀(i:Nat) (y:el t),l[i]? =some y->∃us,rep x.w x.I t y us/\x.w.rangeAt b (i*t.size) us)
def DZ (x:Cx) (lo:Nat) (bo:Option Nat):AC->Value->Prop
 | .own t l n,v=>n=l.length/\OwnAt x lo bo t l v
 | c,v=>BV x c v
def Gp (x:Cx) (lo:Nat) (bo:Option Nat):AV->Value->Prop
 | .one c,v=>c= .By\/DZ x lo bo c v
 | .agg cs,v=>∃arr,v= .agg arr/\BA (DZ x lo bo) cs arr.toList
 | .AG _,_=>False
def HJ (x:Cx) (lo:Nat) (bo:Option Nat):AV->Value->Prop
 | .AG xs,v=>∃arr,v= .tuple arr/\BA (fun y u=>Gp x lo bo (Dn y) u) xs arr.toList
 | a,v=>Gp x lo bo a v
def CX:AC->Bool
 | .own _ _ _=>true
 | c=>BZ c
def FW:AC->Bool
 |.AZ _ 0 0 _ _|.As 0 0 _=>true
 | c=>BZ c
def AV.wf:AV->Bool
 | .AG xs=>xs.all fun x=>x.1||decide (x.2.length<=1)
 | _=>true
def AR.lone:AR->Bool
 | .var v cs=>v==0&&cs.all BZ
 | .arr v _ _=>v==0
 | .dead _=>false
def Callee (P : Program) (f : FuncId) : Prop := ∃ fn c, P.funcs[f]? = some fn /\ (fn.name == "runtime.NumGoroutine") = false /\ fn.body = some c
def F6 (P:Program) (fl:Bool) (f:FuncId) (args:List AV) (r:AV):Prop:=
 Callee P f/\(r.all CX=true/\r.wf=true)/\
 ∀(w:World) (I:Nat->Prop) (vs:List Value),(∀b,I b->b<w.heap.size)->BA (Bt (Dq w I)) args vs->
  Calls P f vs.toArray w fun e w'=>∃u bo,e= .returned u/\Below w.heap.size w w'/\
   HJ (Dq w' fun b=>((fl=false/\I b)\/w.heap.size<=b)/\b<w'.heap.size/\bo≠some b) w.heap.size bo r u
def β0 (ob:Option Nat):Nat->Option Nat:=fun k=>if k=0 then ob else none
def Cp (w:World) (ob:Option Nat) (I:Nat->Prop):Cx:=⟨w,β0 ob,fun _=>0,I⟩
def IE (P:Program) (f:FuncId) (c0:AC) (b0:AR) (args:List AV) (r:AV) (b1:AR):Prop:=
 Callee P f/\(r.all FW=true/\FW c0=true/\b0.lone=true/\b1.lone=true)/\
 ∀(w:World) (I:Nat->Prop) (ob:Option Nat) (v0:Value) (vs:List Value),(∀b,I b->b<w.heap.size/\ob≠some b)->
  BV (Cp w ob I) c0 v0->DM (Cp w ob I) 0 b0->b0.short->BA (Bt (Dq w I)) args vs->
  Calls P f (v0::vs).toArray w fun e w'=>∃u,e= .returned u/\
   (w'.os=w.os/\w'.tape=w.tape/\w'.output=w.output/\w.heap.size<=w'.heap.size/\∀k,k<w.heap.size->ob≠some k->w'.heap[k]? =w.heap[k]?)/\
   (∀(b:Nat) arr e,ob=some b->w.heap[b]? =some (.cells arr e (0,0))->∃arr',w'.heap[b]? =some (.cells arr' e (0,0))/\arr'.size=arr.size)/\
   Bt (Cp w' ob fun k=>(I k\/w.heap.size<=k)/\k<w'.heap.size/\ob≠some k) r u/\
   DM (Cp w' ob fun k=>(I k\/w.heap.size<=k)/\k<w'.heap.size/\ob≠some k) 0 b1/\b1.short
def Bp (P:Program) (f:FuncId) (args:List AV) (b0:AR) (r:AV):Prop:=
 Callee P f/\(r.all BZ=true/\b0.lone=true)/\
 ∀(w:World) (I:Nat->Prop) (ob:Option Nat) (vs:List Value),(∀b,I b->b<w.heap.size/\ob≠some b)->
  DM (Cp w ob I) 0 b0->b0.short->BA (Bt (Cp w ob I)) args vs->
  Calls P f vs.toArray w fun e w'=>∃u,e= .returned u/\
   (w'.os=w.os/\w'.tape=w.tape/\w'.output=w.output/\w.heap.size<=w'.heap.size/\∀k,k<w.heap.size->ob≠some k->w'.heap[k]? =w.heap[k]?)/\
   (∀(b:Nat) arr e,ob=some b->w.heap[b]? =some (.cells arr e (0,0))->∃arr',w'.heap[b]? =some (.cells arr' e (0,0))/\arr'.size=arr.size)/\
   Bt (Cp w' ob fun k=>(I k\/w.heap.size<=k)/\k<w'.heap.size/\ob≠some k) r u/\
   DM (Cp w' ob fun k=>(I k\/w.heap.size<=k)/\k<w'.heap.size/\ob≠some k) 0 b0
def env (P:Program):Env:=⟨F6 P,IE P,Bp P⟩
structure Es (P:Program) (t:TypeId) (i:Info):Prop where
 info:i.known=true->∃ti z d,P.info? t=some ti/\ti.size=i.size/\ti.zero=some z/\(∀x,BA (BV x) i.zero z.cells.toList)/\
  P.underlying t=some d/\d.isRow=i.agg/\(i.agg=false->i.size=1)
 kind:∀k,i.kind=some k->P.underlying t=some (.int k)
 isb:i.OV=true->P.underlying t=some .bool
 sl:i.sl=true->P.underlying t=some (.slice i.DO)/\∃ei z,P.info? i.DO=some ei/\ei.size=i.elem.size/\ei.bytes=i.GA/\0<ei.bytes/\ei.zero=some z/\
  ∀x,BA (BV x) (cells i.elem i.CP) z.cells.toList
 fields:i.known=true->i.fields≠[]->∃fs:Array Field,P.underlying t=some (.struct fs)/\i.fields.length=fs.size/\
  ∀(f fo n:Nat) (g:Bool),i.fields[f]? =some (fo,n,g)->∃fl d,fs[f]? =some fl/\fl.offset=fo/\(P.info? fl.type).map (·.size)=some n/\0<n/\P.underlying fl.type=some d/\d.isRow=g/\(g=false->n=1)
theorem T.beq_eq:∀{a b:T},T.beq a b=true->a=b
 |.u8,b,h|.u32,b,h|.u64,b,h|.i8,b,h|.i64,b,h|.bool,b,h=>by cases b <;> simp_all [T.beq]
 | .sl a,b,h=>by cases b <;> simp_all [T.beq];exact T.beq_eq h
 | .pr a c,b,h=>by cases b <;> simp_all [T.beq];exact⟨T.beq_eq h.1,T.beq_eq h.2⟩
section
variable {P:Program} {w:World}
theorem Zz {t:TypeId} {d:TypeDesc} (hu:P.underlying t=some d):(isAgg t).run P w= .ok d.isRow w:=by
 unfold isAgg;rw[Sem.run_bind,run_underlying hu w];cases d <;> simp
theorem mB {t:TypeId} {d:TypeDesc} {b o:Nat} {v:Value} (hu:P.underlying t=some d) (c:d.isRow=false) (hc:w.cell? ⟨b,o,none⟩=some v):
  (Instr.loadAt t (.pointer (some ⟨b,o,none⟩))).run P w= .ok v w:=by
 simp only[Instr.loadAt,Instr.sureAddr,Sem.run_bind,Sem.run_pure,Result.andThen_ok,loadVar,Zz hu,c];simp[load,Sem.run,hc]
theorem mC {t:TypeId} {f:TypeInfo} {b o:Nat} {v:Value} (h:P.info? t=some f) (d:v.cells.size=f.size) (ht:w.there b o f.size) (g:∀u∈v.cells.toList,u.oneCell'=true):
  (Instr.storeAt t (.pointer (some ⟨b,o,none⟩)) v).run P w= .ok () (w.setCells b o v.cells.toList):=by
 have:=run_storeCells_cells (P:=P) b o v.cells.toList 0 w (fun j c=>by simpa using (ht j (by simpa [d] using c)).1) (fun j c=>by simpa using (ht j (by simpa [d] using c)).2) g;simp only[Nat.add_zero] at this;simp[Instr.storeAt,Instr.sureAddr,storeVar,sizeOf,typeInfo,h,d,this]
end
theorem Yz {v:Value} (h:v.oneCell'=true):v.cells= #[v]:=by
 cases v <;> simp_all [Value.oneCell',Value.cells]
theorem Ef.cells {x:Cx} {av:AV} {v:Value} (h:Ef x av v) (b:av.full=true):BA (BV x) av.cs v.cells.toList:=by
 cases av with
 | one c=>
  rcases h with rfl | h
  ·simp[AV.full] at b
  rw[Yz h.one];exact⟨h,trivial⟩
 | agg cs=>obtain⟨arr,rfl,h⟩:=h;exact h
 | AG _=>exact h.elim
theorem BA.one {x:Cx}:∀{cs:List AC} {vs:List Value},BA (BV x) cs vs->∀v∈vs,v.oneCell'=true
 | [],[],_,_,b=>by simp at b
 | _::_,_::_,h,v,b=>by
  rcases List.mem_cons.1 b with rfl | b
  ·exact h.1.one
  exact BA.one h.2 v b
 |[],_::_,h,_,_|_::_,[],h,_,_=>h.elim
theorem lk {x:Cx} {a:AV} {v:Value} (h:Ef x a v):Bt x a v:=by cases a <;> first | exact h | exact h.elim
theorem M5 {x:Cx} {a:AV} {v:Value} (h:Bt x a v) (ha:∀xs,a≠ .AG xs):Ef x a v:=by cases a <;> first | exact h | exact absurd rfl (ha _)
theorem C8 {x:Cx} {s:St} {a:Act} (h:∀i,Bt x (nth s.sl i) (a.tmps.getD i undef)) (o:Operand):Bt x (ev s.sl o) (a.eval o):=by
 cases o with
 | tmp t=>exact h t
 | func f=>exact Or.inr rfl
 | global g=>exact Or.inl rfl
 | const v=>
  show Bt x (Qs v) v
  unfold Qs
  split <;> first | exact Or.inr rfl | exact Or.inl rfl
def valOf (g:Bool) (vs:List Value):Value:=
 match g with
 | true=> .agg vs.toArray
 | false=>vs.headD undef
theorem Zc {x:Cx} {g:Bool} {cs:List AC} {vs:List Value} (h:BA (BV x) cs vs) (b:g=false->cs.length=1):
  Bt x (Dn (g,cs)) (valOf g vs):=by
 cases g with
 | true=>exact⟨_,rfl,by simpa using h⟩
 | false=>
  have:=b rfl
  match cs,vs,h with
  | [c],[v],h=>exact Or.inr h.1
end Go.Abs
