/- Part 2 of a proof. Conditions: each theorem's own. -/
import Derived.WalkKit
import Derived.Deep.MidRow
import Derived.ArgAppend
set_option linter.all false
set_option maxHeartbeats 8000000
set_option maxRecDepth 20000
namespace Go.Abs
 inductive T
  | u8 | u32 | u64 | i8 | i64 | bool | sl (t:T) | pr (a b:T)
abbrev el:T->Type
 | .u8=>UInt8 | .u32=>UInt32 | .u64=>UInt64 | .i8=>Int | .i64=>Int | .bool=>Bool
 | .sl t=>List (el t) | .pr a b=>el a×el b
def T.size:T->Nat
 | .pr a b=>a.size+b.size
 | _=>1
def T.beq:T->T->Bool
 | .u8,.u8=>true | .u32,.u32=>true | .u64,.u64=>true | .i8,.i8=>true | .i64,.i64=>true | .bool,.bool=>true
 | .sl a,.sl b=>a.beq b
 | .pr a b,.pr c d=>a.beq c&&b.beq d
 | _,_=>false
def T.agg:T->Bool
 | .pr _ _=>true
 | _=>false
 inductive AC
  | BY | int (k:IntKind) (n:Int) | bool (b:Bool) | fn (f:FuncId) | nil
  | sl (t:T) (l:List (el t))
  | AN (t:T) (id AQ off len:Nat)
  | C9 (t:T) (id AQ off len:Nat)
  | Ab (id AQ off:Nat)
  | Ch (t:T) (id AQ i k:Nat)
  | CX (t:T) (x:el t) (off:Nat)
  | ub (e:Bool)
  | own (t:T) (l:List (el t)) (n:Nat)
  | Cy (f:FuncId) (ps:List (Nat×Nat))
  | CZ (f:FuncId) (qs:List ((t:T)×el t))
 inductive AV
  | one (c:AC) | agg (cs:List AC) | AG (xs:List (Bool×List AC))
 inductive AL
  | var (AQ:Nat) (cs:List AC)
  | arr (AQ:Nat) (t:T) (l:List (el t))
  | dead (AQ:Nat)
def AL.AQ:AL->Nat
 | .var v _=>v | .arr v _ _=>v | .dead v=>v
def cells:(t:T)->el t->List AC
 | .u8,x=>[.int .u8 x.toNat]
 | .u32,x=>[.int .u32 x.toNat]
 | .u64,x=>[.int .u64 x.toNat]
 | .i8,x=>[.int .i8 x]
 | .i64,x=>[.int .i64 x]
 | .bool,x=>[.bool x]
 | .sl t,l=>[.sl t l]
 | .pr a b,x=>cells a x.1++cells b x.2
structure CT (n:Int) (k:Nat):Prop where
 eq:n=k
 le:k<=140737488355328
structure AO (n:Int) (k:Nat):Prop where
 eq:n=k
structure Pc (n:Int) (x:UInt8):Prop where
 eq:n=x.toNat
structure LC (n:Int) (x:UInt32):Prop where
 eq:n=x.toNat
structure cE (n:Int) (x:UInt64):Prop where
 eq:n=x.toNat
def Jz:(t:T)->el t->(List AC->Prop)->Prop
 | .u8,x,K=>∀n,Pc n x->K [.int .u8 n]
 | .u32,x,K=>∀n,LC n x->K [.int .u32 n]
 | .u64,x,K=>∀n,cE n x->K [.int .u64 n]
 | .i8,x,K=>K [.int .i8 x]
 | .i64,x,K=>K [.int .i64 x]
 | .bool,x,K=>K [.bool x]
 | .sl t,l,K=>K [.sl t l]
 | .pr a b,x,K=>Jz a x.1 fun l=>Jz b x.2 fun m=>K (l++m)
theorem Ld:∀(t:T) (x:el t) (K:List AC->Prop),Jz t x K↔K (cells t x)
 |.u8,x,K|.u32,x,K|.u64,x,K=>⟨fun h=>h _ ⟨rfl⟩,fun h n c=>by rw[c.eq];exact h⟩
 |.i8,_,_|.i64,_,_|.bool,_,_|.sl _,_,_=>Iff.rfl
 | .pr a b,x,K=>by
  show Jz a x.1 _↔_
  rw[Ld a x.1,Ld b x.2]
  rfl
def DI:Bool×List AC->AV
 | (true,cs)=> .agg cs
 | (false,c::_)=> .one c
 | (false,[])=> .one .BY
def AV.cs:AV->List AC
 | .one c=>[c]
 | .agg cs=>cs
 | .AG _=>[]
def AV.full:AV->Bool
 | .one .BY=>false
 |.one _|.agg _=>true
 | .AG _=>false
def AV.comp:AV->Bool×List AC
 | .one c=>(false,[c])
 | .agg cs=>(true,cs)
 | .AG _=>(false,[])
def comp (t:T) (x:el t):Bool×List AC:=(t.agg,cells t x)
def Uc (t:T) (x:el t):AV:=DI (comp t x)
structure St where
 sl:List AV
 bk:List (Option AL)
def nth:List AV->Nat->AV
 | [],_=> .one .BY
 | a::_,0=>a
 | _::l,n+1=>nth l n
def AF:List (Option AL)->Nat->Option AL
 | [],_=>none
 | a::_,0=>a
 | _::l,n+1=>AF l n
def A9 {α:Type}:List α->Nat->α->List α
 | [],_,_=>[]
 | _::l,0,x=>x::l
 | a::l,n+1,x=>a::A9 l n x
def AQ (bk:Nat->Option AL) (id:Nat):Nat:=
 match bk id with
 | some b=>b.AQ
 | none=>0
structure Info where
 known:Bool:=true
 size:Nat:=1
 agg:Bool:=false
 zero:List AC:=[]
 kind:Option IntKind:=none
 OF:Bool:=false
 sl:Bool:=false
 Ct:TypeId:=0
 elem:T:= .bool
 By:el elem
 Ee:Nat:=0
 fields:List (Nat×Nat×Bool):=[]
def Qa:Value->AV
 | .int k n=> .one (.int k n)
 | .bool b=> .one (.bool b)
 | .slice none 0 0=> .one .nil
 | _=> .one .BY
def ev (s:List AV):Operand->AV
 | .tmp t=>nth s t
 | .const v=>Qa v
 | .func f=> .one (.fn f)
 | .global _=> .one .BY
structure BW where
 v:AV
 ws:List (Nat×AL):=[]
 rd:List Nat:=[]
def Hm (n:Int):Prop:= -9223372036854775808<=n/\n<9223372036854775808
def fits (n b:Nat):Prop:=n*b<=140737488355328
def arith (op:BinOp) (k:IntKind) (a b:Int) (K:AC->Prop):Prop:=
 match op,k with
 | .add,.i64=>∀c,c=a+b->(Unit->Hm c)/\K (.int .i64 c)
 | .sub,.i64=>∀c,c=a-b->(Unit->Hm c)/\K (.int .i64 c)
 | .mul,.i64=>∀c,c=a*b->(Unit->Hm c)/\K (.int .i64 c)
 | .quo,.i64=>∀c,c=a/b->(Unit->0<=a/\0<b/\Hm c)/\K (.int .i64 c)
 | .rem,.i64=>∀c,c=a%b->(Unit->0<=a/\0<b)/\K (.int .i64 c)
 | .add,k=>∀c,c=k.wrap (a+b)->K (.int k c)
 | .sub,k=>∀c,c=k.wrap (a-b)->K (.int k c)
 | .mul,k=>∀c,c=k.wrap (a*b)->K (.int k c)
 | .quo,k=>∀c,c=k.wrap (a/b)->(Unit->0<=a/\0<b)/\K (.int k c)
 | .rem,k=>∀c,c=a%b->(Unit->0<=a/\0<b)/\K (.int k c)
 | .and,k=>∀c,c=k.wrap (BitVec.ofInt k.bits a &&& BitVec.ofInt k.bits b).toNat->K (.int k c)
 | .or,k=>∀c,c=k.wrap (BitVec.ofInt k.bits a ||| BitVec.ofInt k.bits b).toNat->K (.int k c)
 | .xor,k=>∀c,c=k.wrap (BitVec.ofInt k.bits a ^^^ BitVec.ofInt k.bits b).toNat->K (.int k c)
 | .andNot,k=>∀c,c=k.wrap (BitVec.ofInt k.bits a &&& ~~~ BitVec.ofInt k.bits b).toNat->K (.int k c)
 | .shl,k=>∀c,c=k.wrap (a*2^min b.toNat k.bits)->(Unit->0<=b)/\K (.int k c)
 | .shr,k=>∀c,c=a.fdiv (2^min b.toNat k.bits)->(Unit->0<=b)/\K (.int k c)
 | .eql,_=>∀c,c=(a==b)->K (.bool c)
 | .neq,_=>∀c,c=(a !=b)->K (.bool c)
 | .lss,_=>∀c,c=decide (a<b)->K (.bool c)
 | .leq,_=>∀c,c=decide (a<=b)->K (.bool c)
 | .gtr,_=>∀c,c=decide (a>b)->K (.bool c)
 | .geq,_=>∀c,c=decide (a >= b)->K (.bool c)
def FO (cs:List AC):Nat->Nat->List AC
 | 0,n=>cs.take n
 | off+1,n=>match cs with
  | []=>[]
  | _::cs=>FO cs off n
def DK {α:Type}:List α->Nat->List α->List α
 | cs,0,[]=>cs
 | [],0,_::_=>[]
 | _::cs,0,x::xs=>x::DK cs 0 xs
 | [],_+1,_=>[]
 | c::cs,off+1,xs=>c::DK cs off xs
def ld (i:Info) (cs:List AC) (off:Nat):AV:=DI (i.agg,FO cs off i.size)
def Md (bk:Nat->Option AL):List (Nat×Nat)->List ((t:T)×el t)->Prop
 | [],[]=>True
 | p::r,q::m=>bk p.1=some (.var p.2 (cells q.1 q.2))/\Md bk r m
 | _,_=>False
def Du (bk:Nat->Option AL):AC->AC->Prop
 | .AN t id v off len,c=>∃l,bk id=some (.arr v t l)/\off+len<=l.length/\c= .sl t ((l.drop off).take len)
 | .nil,c=>c= .nil\/∃t,c= .sl t []
 | .int k n,c=>c= .int k n
 | .bool b,c=>c= .bool b
 | .fn f,c=>c= .fn f
 | .sl t l,c=>c= .sl t l
 | .Cy f ps,c=>∃qs,Md bk ps qs/\c= .CZ f qs
 | .CZ f qs,c=>c= .CZ f qs
 | _,_=>False
def BA:AC->AC->Prop
 | .nil,c=>c= .nil\/∃t,c= .sl t []
 | .int k n,c=>c= .int k n
 | .bool b,c=>c= .bool b
 | .fn f,c=>c= .fn f
 | .sl t l,c=>c= .sl t l
 | .CX t y o,c=>c= .CX t y o
 | .CZ f qs,c=>c= .CZ f qs
 | _,_=>False
def Ao (R:AC->AC->Prop):List AC->List AC->Prop
 | [],[]=>True
 | a::l,b::m=>R a b/\Ao R l m
 | _,_=>False
def leV (R:AC->AC->Prop):AV->AV->Prop
 | .one a,.one b=>R a b
 | .agg l,.agg m=>Ao R l m
 | _,_=>False
def Em (R:AC->AC->Prop):List AV->List AV->Prop
 | [],[]=>True
 | a::l,b::m=>leV R a b/\Em R l m
 | _,_=>False
def B3:AC->List Nat
 | .AN _ id _ _ _=>[id]
 | .Cy _ ps=>ps.map (·.1)
 | _=>[]
def Bt:List AV->List Nat
 | []=>[]
 | .one c::r=>B3 c++Bt r
 | .agg cs::r=>cs.flatMap B3++Bt r
 | .AG _::r=>Bt r
def FE (d v:Nat):AC->AC
 | .own t _ n=> .AN t d v 0 n
 | c=>c
def IL (d v:Nat):AV->AV
 | .one c=> .one (FE d v c)
 | .agg cs=> .agg (cs.map (FE d v))
 | .AG xs=> .AG (xs.map fun x=>(x.1,x.2.map (FE d v)))
def Db (d v:Nat):List AC->List (Nat×AL)
 | []=>[]
 | .own t l _::_=>[(d,.arr v t l)]
 | _::r=>Db d v r
def Hr (d v:Nat):AV->List (Nat×AL)
 | .one c=>Db d v [c]
 | .agg cs=>Db d v cs
 | .AG xs=>Db d v (xs.flatMap (·.2))
abbrev Con:=Bool->FuncId->List AV->AV->Prop
abbrev bC:=FuncId->AC->AL->List AV->AV->AL->Prop
abbrev bD:=FuncId->List AV->AL->AV->Prop
abbrev bE:=FuncId->(t:T)->List (el t)->List AV->List (el t)->Prop
structure Env where
 C:Con
 B:bC
 D:bD
 G:bE
def IP (id v:Nat):AC->AC->Prop
 | .AN t i w off len,c=>(i=id/\w=v)/\c= .AN t 0 0 off len
 | .Ab i w off,c=>(i=id/\w=v)/\c= .Ab 0 0 off
 | .nil,c=>c= .nil\/∃t,c= .sl t []
 | .int k n,c=>c= .int k n
 | .bool b,c=>c= .bool b
 | .fn f,c=>c= .fn f
 | .sl t l,c=>c= .sl t l
 | _,_=>False
def HC (places:List (Nat×Nat×Bool)) (e:Operand->AV):List (Nat×Operand)->List AC->Option (List AC)
 | [],cs=>some cs
 | (i,x)::r,cs=>match places[i]? with
  | some (off,n,_)=>if (e x).cs.length=n/\(e x).full=true/\off+n<=cs.length then HC places e r (DK cs off (e x).cs) else none
  | none=>none
def Hs (id v:Nat):AC->AC
 | .AN t _ _ off len=> .AN t id v off len
 | .Ab _ _ off=> .Ab id v off
 | .Ch t _ _ i k=> .Ch t id v i k
 | c=>c
def Yv (id v:Nat):AV->AV
 | .one c=> .one (Hs id v c)
 | .agg cs=> .agg (cs.map (Hs id v))
 | .AG xs=> .AG (xs.map fun x=>(x.1,x.2.map (Hs id v)))
def AL.D7 (v:Nat):AL->AL
 | .var _ cs=> .var v cs
 | .arr _ t l=> .arr v t l
 | .dead _=> .dead v
def Oj:AC->Option (Nat×Nat)
 |.AN _ id v _ _|.Ab id v _=>some (id,v)
 | _=>none
def T.flat:T->Bool
 | .sl _=>false
 | .pr a b=>a.flat&&b.flat
 | _=>true
def N4:AL->Bool
 | .arr _ t _=>t.flat
 | _=>false
def Di (id:Nat):AV->Bool
 | .one (.int _ _)=>true
 | .one (.AN t i _ _ _)=>t.flat&&i !=id
 | _=>false
def Bg:AC->Bool
 |.int _ _|.bool _|.fn _|.nil|.AN _ 0 0 _ _=>true
 | _=>false
def AV.all (p:AC->Bool):AV->Bool
 | .one c=>p c
 | .agg cs=>cs.all p
 | .AG xs=>xs.all fun x=>x.2.all p
def BB:AC->Bool
 | .BY=>true | .int _ _=>true | .bool _=>true | .fn _=>true | .nil=>true | .sl _ _=>true
 | .CX _ _ _=>true | .CZ _ _=>true
 | _=>false
def F7 (E:Env) (g:FuncId) (args:List AV) (d:Nat) (bk:Nat->Option AL) (K:BW->Prop):Prop:=
 (∃args' r,(Unit->Em BA args args')/\(Unit->E.C false g args' r)/\
  K ⟨IL d (AQ bk d+1) r,Hr d (AQ bk d+1) r,[d]⟩)\/
 (∃args' r,(Unit->Em (Du bk) args args')/\(Unit->E.C true g args' r)/\
  K ⟨IL d (AQ bk d+1) r,Hr d (AQ bk d+1) r,d::Bt args⟩)\/
 (match args with
  | .one c::rest=>match Oj c with
   | some (id,v)=>match bk id with
    | some b=>if b.AQ=v then ∃args' r b1,(Unit->id ∉ Bt rest/\Em (Du bk) rest args')/\(Unit->E.B g (Hs 0 0 c) (b.D7 0) args' r b1/\N4 b1=true/\r.all Bg=true)/\
     K ⟨Yv id v r,[(id,b1.D7 v)],id::Bt rest⟩ else False
    | none=>False
   | none=>False
  | _=>False)\/
 (∃(id:Nat) (b:AL) (args':List AV) (r:AV),(Unit->bk id=some b/\Em (IP id b.AQ) args args')/\(Unit->E.D g args' (b.D7 0) r)/\K ⟨r,[],[id]⟩)\/
 (∃(id:Nat) (b:AL) (args':List AV) (r:AV),(Unit->(id≠0/\bk id=some b/\((Bt args).all fun k=>k==id)=true)/\Em (Du bk) args args')/\(Unit->E.C false g args' r/\r.all BB=true)/\K ⟨r,[(id,.dead b.AQ)],[id]⟩)
 \/(match args with
  | .one (.AN t id v off len)::rest=>match bk id with
   | some (.arr v' t' l)=>if v'=v/\T.beq t' t=true then ∃(args':List AV) (l':List (el t')),(Unit->(off=0/\len=l.length)/\rest.all (Di id)=true/\Em (Du bk) rest args')/\(Unit->E.G g t' l args' l')/\
    ∀n,n=l'.length->K ⟨.one (.AN t' id (v+1) 0 n),[(id,.arr (v+1) t' l')],id::Bt rest⟩ else False
   | _=>False
  | _=>False)
def Ek (TI:TypeId->Info) (b:Builtin) (tys:List TypeId) (args:List AV) (d:Nat) (bk:Nat->Option AL) (K:BW->Prop):Prop:=
 match b,tys,args with
 | .len,[t0],[.one (.sl _ l)]=>(TI t0).sl=true/\∀n,CT n l.length->K ⟨.one (.int .i64 n),[],[]⟩
 |.len,[t0],[.one (.C9 _ id v _ len)]|.len,[t0],[.one (.AN _ id v _ len)]=>(TI t0).sl=true/\if AQ bk id=v then ∀n,AO n len->K ⟨.one (.int .i64 n),[],[id]⟩ else False
 |.len,[t0],[.one .nil]|.cap,[t0],[.one .nil]=>(TI t0).sl=true/\K ⟨.one (.int .i64 0),[],[]⟩
 | .min,_,[.one (.int k a),.one (.int _ b)]=>∀c,c=(if b<a then b else a)->K ⟨.one (.int k c),[],[]⟩
 | .max,_,[.one (.int k a),.one (.int _ b)]=>∀c,c=(if b>a then b else a)->K ⟨.one (.int k c),[],[]⟩
 | .append,[t0,t1],[.one .nil,.one x]=>
  ((TI t0).sl=true/\(TI t1).sl=true)/\∃l2:List (el (TI t0).elem),(Unit->Du bk x (.sl _ l2)/\fits l2.length (TI t0).Ee)/\
    ∀n,n=l2.length->K ⟨.one (.AN (TI t0).elem d (AQ bk d+1) 0 n),[(d,.arr (AQ bk d+1) _ l2)],d::B3 x⟩
 | .append,[t0,t1],[.one (.C9 t id v off len),.one x]=>
  ((TI t0).sl=true/\(TI t1).sl=true)/\match bk id with
    | some (.arr v' t' l)=>if v'=v/\T.beq t' t=true/\T.beq t' (TI t0).elem=true then
     ∃l2:List (el t'),(Unit->off=0/\len<=l.length/\Du bk x (.sl _ l2)/\fits (len+l2.length) (TI t0).Ee)/\
      ∀l' n,(l'=l.take len++l2/\n=l'.length)->K ⟨.one (.AN t' id (v+1) 0 n),[(id,.arr (v+1) t' l')],id::B3 x⟩
     else False
    | _=>False
 | .append,[t0,t1],[.one (.AN t id v off len),.one x]=>
  ((TI t0).sl=true/\(TI t1).sl=true)/\match bk id with
    | some (.arr v' t' l)=>if v'=v/\T.beq t' t=true/\T.beq t' (TI t0).elem=true then
     ∃l2:List (el t'),(Unit->off=0/\len=l.length/\Du bk x (.sl _ l2)/\fits (l.length+l2.length) (TI t0).Ee)/\
      ∀l' n,(l'=l++l2/\n=l'.length)->K ⟨.one (.AN t' id (v+1) 0 n),[(id,.arr (v+1) t' l')],id::B3 x⟩
     else False
    | _=>False
 | _,_,_=>False
def GV (TI:TypeId->Info) (tys:List TypeId) (args:List AV) (bk:Nat->Option AL) (K:BW->Prop):Prop:=
 match tys,args with
 | [t0,t1],[.one (.AN t id v off len),.one x]=>
  ((TI t0).sl=true/\(TI t1).sl=true)/\match bk id with
    | some (.arr v' t' l)=>if v'=v/\T.beq t' t=true/\T.beq t' (TI t0).elem=true then
     ∃l2:List (el t'),(Unit->off=0/\len<=l.length/\Du bk x (.sl _ l2)/\fits (len+l2.length) (TI t0).Ee)/\
      ∀l' n,(l'=l.take len++l2/\n=l'.length)->K ⟨.one (.AN t' id (v+1) 0 n),[(id,.arr (v+1) t' l')],id::B3 x⟩
     else False
    | _=>False
 | _,_=>False
def Kq (K:BW->Prop) (f:BW):Prop:=
 match f.v,f.ws with
 | .one (.AN t id v off n),[(i,.arr v' t' l)]=>if (id !=0&&id==i&&v==v'&&off==0&&T.beq t t')=true then (Unit->n=l.length)/\K ⟨.one (.sl t' l),[(id,.dead v)],f.rd⟩ else False
 | _,_=>False
def Pt (TI:TypeId->Info) (b:Builtin) (tys:List TypeId) (args:List AV) (d:Nat) (bk:Nat->Option AL) (K:BW->Prop):Prop:=
 match b with
 | .append=>Ek TI b tys args d bk K\/Ek TI b tys args d bk (Kq K)\/GV TI tys args bk K
 | _=>Ek TI b tys args d bk K
def Pz:List (Nat×List AC)->Nat->List (List AC)->Prop
 | [],_,[]=>True
 | p::r,k,x::m=>p.1=k/\Ao BA p.2 x/\Pz r (k+1) m
 | _,_,_=>False
def IB (len:Nat) (lo hi mx:Option AV) (K:Nat->Nat->Bool->Prop):Prop:=
 match lo,hi,mx with
 | none,none,none=>∀h,h=len->K 0 h false
 | some (.one (.int _ a)),none,none=>(Unit->0<=a/\a.toNat<=len)/\∀l h,(l=a.toNat/\h=len)->K l h false
 | none,some (.one (.int _ b)),none=>(Unit->0<=b/\b.toNat<=len)/\∀h,h=b.toNat->K 0 h false
 | some (.one (.int _ a)),some (.one (.int _ b)),none=>(Unit->0<=a/\a<=b/\b.toNat<=len)/\∀l h,(l=a.toNat/\h=b.toNat)->K l h false
 | none,some (.one (.int _ b)),some (.one (.int _ m))=>(Unit->0<=b/\b=m/\m.toNat<=len)/\∀h,h=b.toNat->K 0 h true
 | _,_,_=>False
def IA (bk:Nat->Option AL) (u:T) (x:AV) (lo hi mx:Option AV) (K:BW->Prop):Prop:=
 match x with
 | .one (.sl t l)=>T.beq t u=true/\∀n,n=l.length->IB n lo hi mx fun a b _=>∀l',l'=(l.take b).drop a->K ⟨.one (.sl t l'),[],[]⟩
 | .one (.AN t id v off len)=>T.beq t u=true/\if AQ bk id=v then IB len lo hi mx fun a b c=>∀o n,(o=off+a/\n=b-a)->
  match c with | true=>K ⟨.one (.C9 t id v o n),[],[id]⟩ | false=>K ⟨.one (.AN t id v o n),[],[id]⟩
  else False
 | .one .nil=>IB 0 lo hi mx fun _ _ _=>K ⟨.one .nil,[],[]⟩
 | _=>False
def Dw:List AV->Option (List (Nat×Nat))
 | []=>some []
 | .one (.Ab id v 0)::r=>match Dw r with
  | some ps=>some ((id,v)::ps)
  | none=>none
 | _::_=>none
def CG (E:Env) (TI:TypeId->Info) (o:Oper) (d:Nat) (e:Operand->AV) (bk:Nat->Option AL) (K:BW->Prop):Prop:=
 match o.op with
 |.move x|.assign x=>K ⟨e x,[],[]⟩
 | .nilCheck x=>match e x with
  | .one (.Ab id v off)=>if AQ bk id=v then K ⟨e x,[],[id]⟩ else False
  |.one (.fn _)|.one (.CZ _ _)=>K ⟨e x,[],[]⟩
  | _=>False
 | .pick c a b=>match e c with
  | .one (.bool true)=>K ⟨e a,[],[]⟩
  | .one (.bool false)=>K ⟨e b,[],[]⟩
  | _=>False
 | .alloc t=>(TI t).known=true/\K ⟨.one (.Ab d (AQ bk d+1) 0),[(d,.var (AQ bk d+1) (TI t).zero)],[d]⟩
 | .box _ x=>match e x with
  |.AG _|.one .BY=>False
  | v=>K ⟨.one (.Ab d (AQ bk d+1) 0),[(d,.var (AQ bk d+1) v.cs)],[d]⟩
 | .extract t i=>match e t with
  | .AG xs=>match xs[i]? with
   | some x=>K ⟨DI x,[],[]⟩
   | none=>False
  | _=>False
 | .load t a=>(TI t).known=true/\match e a with
  | .one (.Ab id v off)=>match bk id with
   | some (.var v' cs)=>if v'=v/\(FO cs off (TI t).size).length=(TI t).size then K ⟨ld (TI t) cs off,[],[id]⟩ else False
   | _=>False
  | .one (.CX t' x off)=>Jz t' x fun cs=>if (FO cs off (TI t).size).length=(TI t).size then K ⟨ld (TI t) cs off,[],[]⟩ else False
  | .one (.Ch t' id v i k)=>match bk id with
   | some (.arr v' u l)=>if v'=v/\T.beq t' u=true then ∃x:el u,(Unit->l[i]? =some x)/\Jz u x fun cs=>
    if (FO cs k (TI t).size).length=(TI t).size then K ⟨ld (TI t) cs k,[],[id]⟩ else False
    else False
   | _=>False
  | _=>False
 | .store t a x=>(TI t).known=true/\match e a with
  | .one (.Ab id v off)=>match bk id,e x with
   |_,.AG _|_,.one .BY=>False
   | some (.var v' cs),y=>if v'=v/\y.cs.length=(TI t).size/\off+(TI t).size<=cs.length then
    K ⟨.one .BY,[(id,.var v (DK cs off y.cs))],[id]⟩ else False
   | _,_=>False
  | .one (.Ch t' id v i k)=>match bk id,e x with
   |_,.AG _|_,.one .BY=>False
   | some (.arr v' u l),y=>if v'=v/\k=0/\(TI t).size=u.size/\T.beq t' u=true then
    ∃z:el u,(Unit->i<l.length/\Ao BA y.cs (cells u z))/\∀l',l'=l.set i z->K ⟨.one .BY,[(id,.arr v u l')],[id]⟩
    else False
   | _,_=>False
  | _=>False
 | .fieldAddr s x f=>(TI s).known=true/\match (TI s).fields[f]?,e x with
  | some (fo,_,_),.one (.Ab id v off)=>if AQ bk id=v then K ⟨.one (.Ab id v (off+fo)),[],[id]⟩ else False
  | some (fo,_,_),.one (.CX t y off)=>K ⟨.one (.CX t y (off+fo)),[],[]⟩
  | some (fo,_,_),.one (.Ch t id v i k)=>if AQ bk id=v then K ⟨.one (.Ch t id v i (k+fo)),[],[id]⟩ else False
  | _,_=>False
 | .field s x f=>(TI s).known=true/\match (TI s).fields[f]?,e x with
  | some (fo,n,g),.agg cs=>if (FO cs fo n).length=n then K ⟨DI (g,FO cs fo n),[],[]⟩ else False
  | _,_=>False
 | .build t parts=>((TI t).known=true/\(TI t).fields.isEmpty=false)/\match HC (TI t).fields e parts.toList (TI t).zero with
  | some cs=>K ⟨.agg cs,[],[]⟩
  | none=>False
 | .buildSlice t len parts=>(TI t).sl=true/\(TI t).elem.size<=32/\∃xs:List (el (TI t).elem),
  (Unit->xs.length=len/\len<=524288/\(parts.toList.all fun p=>(e p.2).full)=true/\Pz (parts.toList.map fun p=>(p.1,(e p.2).cs)) 0 (xs.map (cells _)))/\
  (K ⟨.one (.AN (TI t).elem d (AQ bk d+1) 0 len),[(d,.arr (AQ bk d+1) _ xs)],[d]⟩\/K ⟨.one (.sl (TI t).elem xs),[],[]⟩)
 | .makeSlice t l c=>(TI t).sl=true/\match e l,e c with
  | .one (.int _ n),.one (.int _ m)=>(Unit->0<=n/\n<=m/\fits m.toNat (TI t).Ee)/\
   ∀k z,(k=n.toNat/\z=List.replicate k (TI t).By)->K ⟨.one (.AN (TI t).elem d (AQ bk d+1) 0 k),[(d,.arr (AQ bk d+1) _ z)],[d]⟩
  | _,_=>False
 | .indexAddr t x i=>(TI t).sl=true/\match e x,e i with
  | .one (.sl t' l),.one (.int _ n)=>T.beq t' (TI t).elem=true/\∃x,(Unit->0<=n/\l[n.toNat]? =some x)/\K ⟨.one (.CX t' x 0),[],[]⟩
  | .one (.AN t' id v off len),.one (.int _ n)=>T.beq t' (TI t).elem=true/\if AQ bk id=v then (Unit->0<=n/\n.toNat<len)/\∀j,j=off+n.toNat->K ⟨.one (.Ch t' id v j 0),[],[id]⟩ else False
  | _,_=>False
 | .slice t x lo hi mx=>(TI t).sl=true/\IA bk (TI t).elem (e x) (lo.map e) (hi.map e) (mx.map e) K
 | .binOp op bt x y _=>match e x,e y with
  | .one (.int k a),.one (.int k' b)=>if k=k'\/op= .shl\/op= .shr then arith op k a b fun c=>K ⟨.one c,[],[]⟩ else False
  | .one (.bool a),.one (.bool b)=>(TI bt).OF=true/\match op with
   | .eql=>∀c,c=(a==b)->K ⟨.one (.bool c),[],[]⟩
   | .neq=>∀c,c=(a !=b)->K ⟨.one (.bool c),[],[]⟩
   | _=>False
  | .one (.sl _ l),.one .nil=>(TI bt).sl=true/\match op with
   | .eql=>∀c,c=l.isEmpty->K ⟨.one (.ub c),[],[]⟩
   | _=>False
  | _,_=>False
 | .unOp op _ x=>match op,e x with
  | .not,.one (.bool b)=>∀c,c= !b->K ⟨.one (.bool c),[],[]⟩
  | .neg,.one (.int k n)=>∀c,c=k.wrap (0-n)->K ⟨.one (.int k c),[],[]⟩
  | _,_=>False
 | .convert src dst x=>(TI src).known=true/\match (TI dst).kind,e x with
  | some k,.one (.int _ n)=>∀c,c=k.wrap n->K ⟨.one (.int k c),[],[]⟩
  | _,_=>False
 | .makeFunc fn first captured=>match fn,first.toList,Dw (captured.toList.map e) with
  | .func f,[],some ps=>K ⟨.one (.Cy f ps),[],[]⟩
  | _,_,_=>False
 | .call c=>match c.callee with
  | .builtin b=>Pt TI b c.argTypes.toList (c.args.toList.map e) d bk K
  | .value f=>match e f with
   | .one (.fn g)=>F7 E g (c.args.toList.map e) d bk K
   | .one (.CZ g qs)=>F7 E g (c.args.toList.map e++qs.map fun q=> .one (.CX q.1 q.2 0)) d bk K
   | .one (.Cy g ps)=>F7 E g (c.args.toList.map e++ps.map fun p=> .one (.Ab p.1 p.2 0)) d bk K
   | _=>False
  | .invoke _ _=>False
 | _=>False
def Cq:List (Nat×AL)->List (Option AL)->List (Option AL)
 | [],b=>b
 | w::r,b=>Cq r (A9 b w.1 (some w.2))
def FK (l:List AV):Option Nat->AV->List AV
 | some d,v=>A9 l d v
 | none,_=>l
def St.app (s:St) (d:Option Nat) (f:BW):St:=⟨FK s.sl d f.v,Cq f.ws s.bk⟩
def BQ (o:Oper):Nat:=o.dst.getD 1000000
abbrev Tr:=List (List Nat×List Nat)
def OA (ops:List Oper) (j:Nat):Option Nat:=(ops[j]?).bind (·.dst)
def YT (o:Oper):List Nat:=o.op.operands.toList.filterMap fun | .tmp t=>some t | _=>none
def HR (ops:List Oper) (o:Oper):List Nat:=
 o.dst.toList++YT o++(match o.guard with | some (j,_)=>(OA ops j).toList | none=>[])
def Ed (o:Oper):List Nat:=(o.after.toList.filter fun e=>Region.binds .any e).map (·.on)
def FB:List Oper->List (List Nat)->List (List Nat)
 | [],acc=>acc
 | o::r,acc=>FB r (acc++[(Ed o).flatMap fun j=>j::acc.getD j []])
def Li (a b:List Nat):Bool:=a.all fun x=> !b.contains x
def LN (ops:List Oper) (oi oj:Oper) (ti tj:List Nat×List Nat):Bool:=
 Li oi.dst.toList (HR ops oj)&&Li oj.dst.toList (HR ops oi)&&
 Li ti.2 (tj.1++tj.2)&&Li tj.2 ti.1
def YG (ops:List Oper) (tr:Tr) (bs:List (List Nat)):Bool:=
 (List.range ops.length).all fun j=>(List.range j).all fun i=>
  (bs.getD j []).contains i||
   (match ops[i]?,ops[j]?,tr[i]?,tr[j]? with
    | some oi,some oj,some ti,some tj=>LN ops oi oj ti tj
    | _,_,_,_=>false)
def Ue (ops:List Oper):Bool:=
 (List.range ops.length).all fun j=>match ops[j]? with | some o=>(Ed o).all fun i=>decide (i<j) | none=>true
def Ia (ops:List Oper) (tr:Tr):Bool:=Ue ops&&YG ops tr (FB ops [])
def Gt (E:Env) (TI:TypeId->Info) (all:List Oper) (draw:Bool):List Oper->Tr->(St->Prop)->St->Prop
 | [],tr,Q,s=>match draw with
  | false=>Q s
  | true=>(Unit->Ia all tr.reverse=true)/\Q s
 | o::r,tr,Q,s=>match o.guard with
  | none=>CG E TI o (BQ o) (ev s.sl) (AF s.bk) fun f=>Gt E TI all draw r ((f.rd,f.ws.map (·.1))::tr) Q (s.app o.dst f)
  | some (j,w)=>match OA all j with
   | none=>False
   | some g=>match nth s.sl g,w with
    |.one (.bool true),true|.one (.bool false),false=>CG E TI o (BQ o) (ev s.sl) (AF s.bk) fun f=>Gt E TI all draw r ((f.rd,f.ws.map (·.1))::tr) Q (s.app o.dst f)
    |.one (.bool true),false|.one (.bool false),true|.AG [],_=>Gt E TI all draw r (([],[])::tr) Q (s.app o.dst ⟨.AG [],[],[]⟩)
    | _,_=>False
 inductive AX
  | Cu | exit (n:Nat) | ret
def IX (bk:Nat->Option AL) (bs:List Nat):AC->AC
 | .AN t id v off len=>if bs.contains id&&AQ bk id==v then .AN t id 0 off len else .BY
 | .Ab id v off=>if bs.contains id&&AQ bk id==v then .Ab id 0 off else .BY
 | .Ch t id v i k=>if bs.contains id&&AQ bk id==v then .Ch t id 0 i k else .BY
 |.C9 _ _ _ _ _|.Cy _ _=> .BY
 | c=>c
def RW (bk:Nat->Option AL) (bs:List Nat):AV->AV
 | .one c=> .one (IX bk bs c)
 | .agg cs=> .agg (cs.map (IX bk bs))
 | .AG _=> .one .BY
def L3 (bk:Nat->Option AL) (bs:List Nat):AL->AL
 | .var _ cs=> .var 0 (cs.map (IX bk bs))
 | .arr _ t l=> .arr 0 t l
 | .dead _=> .dead 0
def Dz (s:St) (bs:List Nat):List Nat->List AV
 | []=>[]
 | k::r=>RW (AF s.bk) bs (nth s.sl k)::Dz s bs r
def Dj (s:St) (bs:List Nat):List Nat->List AL
 | []=>[]
 | k::r=>(match AF s.bk k with | some b=>if k==0&&b.AQ !=0 then .dead 0 else L3 (AF s.bk) bs b | none=> .dead 0)::Dj s bs r
def Ff:List Nat->List AV->List AV->List AV
 | k::ks,v::vs,l=>Ff ks vs (A9 l k v)
 | _,_,l=>l
def Gq:List Nat->List AL->List (Option AL)->List (Option AL)
 | k::ks,v::vs,l=>Gq ks vs (A9 l k (some v))
 | _,_,l=>l
def Gs {α:Type}:Nat->α->List α
 | 0,_=>[]
 | n+1,x=>x::Gs n x
def Gk (n:Nat) (ks:List Nat) (vs:List AV) (bs:List Nat) (bl:List AL):St:=
 ⟨Ff ks vs (Gs n (.one .BY)),Gq bs bl (Gs n none)⟩
def J9 (s:St):List (Nat×T×Bool)->St
 | []=>s
 | (k,t,b)::r=>J9 (match nth s.sl k,b with
  | .one .nil,false=>⟨A9 s.sl k (.one (.sl t [])),s.bk⟩
  | .one .nil,true=>⟨A9 s.sl k (.one (.AN t k (AQ (AF s.bk) k+1) 0 0)),A9 s.bk k (some (.arr (AQ (AF s.bk) k+1) t []))⟩
  | _,_=>s) r
def KH:Code->Bool
 |.skip|.region _ _ _=>true
 | .seq a b=>KH a&&KH b
 | .cond _ a b=>KH a||KH b
 |.block _ _|.loop _=>true
 | _=>false
def Cr (E:Env) (TI:TypeId->Info) (n:Nat):Code->(AX->St->Prop)->St->Prop
 | .skip,Q,s=>Q .Cu s
 | .region _ ops draw,Q,s=>Gt E TI ops.toList draw ops.toList [] (Q .Cu) s
 | .seq a b,Q,s=>Cr E TI n a (fun e s=>match e with | .Cu=>Cr E TI n b Q s | .exit i=>Q (.exit i) s | .ret=>Q .ret s) s
 | .cond c a b,Q,s=>match KH a&&KH b with
  | true=>(∃(ks bs:List Nat) (J:List AV->List AL->Prop),(∀vs bl,J vs bl->Q .Cu (Gk n ks vs bs bl))/\
    match ev s.sl c with
    | .one (.bool true)=>Cr E TI n a (fun e s'=>match e with | .Cu=>J (Dz s' bs ks) (Dj s' bs bs) | .exit i=>Q (.exit i) s' | .ret=>Q .ret s') s
    | .one (.bool false)=>Cr E TI n b (fun e s'=>match e with | .Cu=>J (Dz s' bs ks) (Dj s' bs bs) | .exit i=>Q (.exit i) s' | .ret=>Q .ret s') s
    | .one (.ub u)=>(u=true->Cr E TI n a (fun e s'=>match e with | .Cu=>J (Dz s' bs ks) (Dj s' bs bs) | .exit i=>Q (.exit i) s' | .ret=>Q .ret s') s)/\
     Cr E TI n b (fun e s'=>match e with | .Cu=>J (Dz s' bs ks) (Dj s' bs bs) | .exit i=>Q (.exit i) s' | .ret=>Q .ret s') s
    | _=>False)\/
   (match ev s.sl c with
   | .one (.bool true)=>Cr E TI n a Q s
   | .one (.bool false)=>Cr E TI n b Q s
   | .one (.ub u)=>(u=true->Cr E TI n a Q s)/\Cr E TI n b Q s
   | _=>False)
  | false=>match ev s.sl c with
   | .one (.bool true)=>Cr E TI n a Q s
   | .one (.bool false)=>Cr E TI n b Q s
   | .one (.ub u)=>(u=true->Cr E TI n a Q s)/\Cr E TI n b Q s
   | _=>False
 | .block id c,Q,s=>(∃(ks bs:List Nat) (J:List AV->List AL->Prop),(∀vs bl,J vs bl->Q .Cu (Gk n ks vs bs bl))/\
   Cr E TI n c (fun e s'=>match e with | .exit i=>if i=id then J (Dz s' bs ks) (Dj s' bs bs) else Q (.exit i) s' | .Cu=>J (Dz s' bs ks) (Dj s' bs bs) | .ret=>Q .ret s') s)\/
  Cr E TI n c (fun e s=>match e with | .exit i=>if i=id then Q .Cu s else Q (.exit i) s | .Cu=>Q .Cu s | .ret=>Q .ret s) s
 | .loop c,Q,s=>∃(cv:List (Nat×T×Bool)) (ks bs:List Nat) (J:List AV->List AL->Nat->Prop),
  (∃k,J (Dz (J9 s cv) bs ks) (Dj (J9 s cv) bs bs) k)/\∀vs bl k,J vs bl k->
   Cr E TI n c (fun e s'=>match e with
    | .Cu=>∃k',k'<k/\J (Dz s' bs ks) (Dj s' bs bs) k'
    | .exit i=>Q (.exit i) s' | .ret=>Q .ret s') (Gk n ks vs bs bl)
 | .exit i,Q,s=>Q (.exit i) s
 | .ret,Q,s=>Q .ret s
 | _,_,_=>False
def D4 (bk:Nat->Option AL):AC->AC->Prop
 | .AN t id v off len,c=>(∃l,bk id=some (.arr v t l)/\off+len<=l.length/\c= .sl t ((l.drop off).take len))\/
  (∃l n,id≠0/\bk id=some (.arr v t l)/\off=0/\len=l.length/\n=l.length/\c= .own t l n)\/
  (id=0/\v=0/\c= .AN t 0 0 off len)
 | .nil,c=>c= .nil\/(∃t,c= .sl t [])\/∃t,c= .own t [] 0
 | .int k n,c=>c= .int k n
 | .bool b,c=>c= .bool b
 | .fn f,c=>c= .fn f
 | .sl t l,c=>c= .sl t l
 | _,_=>False
def Ht (bk:Nat->Option AL):List (Bool×List AC)->List (Bool×List AC)->Prop
 | [],[]=>True
 | a::l,b::m=>(a.1=b.1/\Ao (D4 bk) a.2 b.2)/\Ht bk l m
 | _,_=>False
def FZ:AC->Bool
 | .own _ _ _=>true
 | _=>false
def IM:AC->Bool
 |.AN _ _ _ _ _|.own _ _ _=>true
 | _=>false
def Oc (src:List (Bool×List AC)) (res:List (Bool×List AC)):Bool:=
 match (res.flatMap (·.2)).filter FZ with
 | []=>true
 | [_]=>((src.flatMap (·.2)).filter IM).length<=1
 | _=>false
def AV.EF:AV->List (Bool×List AC)
 | .AG xs=>xs
 | v=>[v.comp]
def Om (TI:TypeId->Info) (s:St):ResultVar->Option (Bool×List AC)
 | .tmp t=>some (nth s.sl t).comp
 | .cell a t=>match nth s.sl a with
  | .one (.Ab id v off)=>match AF s.bk id with
   | some (.var v' cs)=>if (TI t).known&&v'==v&&(FO cs off (TI t).size).length==(TI t).size then some ((TI t).agg,FO cs off (TI t).size) else none
   | _=>none
  | _=>none
def Hu (TI:TypeId->Info) (s:St):List ResultVar->Option (List (Bool×List AC))
 | []=>some []
 | r::rs=>match Om TI s r,Hu TI s rs with
  | some x,some xs=>some (x::xs)
  | _,_=>none
def JH:AC->Bool
 | .AN _ 0 _ _ _=>false
 | _=>true
def MF (TI:TypeId->Info) (rs:List ResultVar) (r:AV) (b0:AL) (e:AX) (s:St):Prop:=
 match e with
 | .exit _=>False
 | _=>match Hu TI s rs with
  | some xs=>(Unit->(Ht (AF s.bk) xs r.EF/\(xs.all fun x=>x.2.all JH)=true/\(rs.length=1↔∀ys,r≠ .AG ys))/\AF s.bk 0=some b0)
  | none=>False
def post (TI:TypeId->Info) (rs:List ResultVar) (r:AV) (b1:Option AL) (e:AX) (s:St):Prop:=
 match e with
 | .exit _=>False
 | _=>match Hu TI s rs with
  | some xs=>(Unit->Ht (AF s.bk) xs r.EF/\Oc xs r.EF=true/\(rs.length=1↔∀ys,r≠ .AG ys))/\
   (match b1 with | none=>True | some b=>Unit->AF s.bk 0=some b)
  | none=>False
def Cw (n:Nat) (args:List AV) (b0:Option AL):St:=
 ⟨args++Gs (n-args.length) (.one .BY),match n with | 0=>[] | n+1=>b0::Gs n none⟩
open Go.RowKit
def AS {α β:Type} (R:α->β->Prop):List α->List β->Prop
 | [],[]=>True
 | a::l,b::m=>R a b/\AS R l m
 | _,_=>False
theorem AS.mono {α β:Type} {R R':α->β->Prop}:∀{l:List α} {m:List β},(∀a b,R a b->R' a b)->AS R l m->AS R' l m
 | [],[],_,h=>h
 | _::_,_::_,c,h=>⟨c _ _ h.1,AS.mono c h.2⟩
 |[],_::_,_,h|_::_,[],_,h=>h
theorem AS.length {α β:Type} {R:α->β->Prop}:∀{l:List α} {m:List β},AS R l m->l.length=m.length
 | [],[],_=>rfl
 | _::_,_::_,h=>by simp[AS.length h.2]
 |[],_::_,h|_::_,[],h=>h.elim
theorem AS.get {α β:Type} {R:α->β->Prop}:∀{l:List α} {m:List β},AS R l m->∀(i:Nat) (a:α),l[i]? =some a->∃b,m[i]? =some b/\R a b
 | _::_,b::_,h,0,a,e=>by simp at e;exact⟨b,by simp,e ▸ h.1⟩
 | _::_,_::_,h,i+1,a,e=>by simpa using AS.get h.2 i a (by simpa using e)
 | [],[],_,_,_,e=>by simp at e
 |[],_::_,h,_,_,_|_::_,[],h,_,_,_=>h.elim
theorem AS.append {α β:Type} {R:α->β->Prop}:∀{l:List α} {m:List β} {l':List α} {m':List β},AS R l m->AS R l' m'->AS R (l++l') (m++m')
 | [],[],_,_,_,h=>h
 | _::_,_::_,_,_,h,h'=>⟨h.1,AS.append h.2 h'⟩
 |[],_::_,_,_,h,_|_::_,[],_,_,h,_=>h.elim
theorem AS.Rl {α β:Type} {R:α->β->Prop}:∀{l l':List α} {m:List β},AS R (l++l') m->∃m1 m2,m=m1++m2/\AS R l m1/\AS R l' m2
 | [],_,m,h=>⟨[],m,rfl,trivial,h⟩
 | _::_,_,[],h=>h.elim
 | _::_,_,b::_,h=>by
  obtain⟨m1,m2,e,c,d⟩:=AS.Rl h.2;exact⟨b::m1,m2,by simp[e],⟨h.1,c⟩,d⟩
theorem AS.drop {α β:Type} {R:α->β->Prop}:∀{l:List α} {m:List β} (n:Nat),AS R l m->AS R (l.drop n) (m.drop n)
 | _,_,0,h=>by simpa using h
 | [],[],_+1,_=>trivial
 | _::_,_::_,n+1,h=>by simpa using AS.drop n h.2
 |[],_::_,_,h|_::_,[],_,h=>h.elim
theorem AS.take {α β:Type} {R:α->β->Prop}:∀{l:List α} {m:List β} (n:Nat),AS R l m->AS R (l.take n) (m.take n)
 | _,_,0,_=>by simp[AS]
 | [],[],_+1,_=>trivial
 | _::_,_::_,n+1,h=>by simpa [AS] using ⟨h.1,AS.take n h.2⟩
 |[],_::_,_,h|_::_,[],_,h=>h.elim
theorem Ku:∀(cs:List AC) (off n:Nat),FO cs off n=(cs.drop off).take n
 |_,0,_|[],_+1,_=>by simp[FO]
 | _::cs,off+1,n=>by simpa [FO] using Ku cs off n
theorem GA:∀(t:T) (x:el t),(cells t x).length=t.size
 |.u8,_|.u32,_|.u64,_|.i8,_|.i64,_|.bool,_|.sl _,_=>rfl
 | .pr a b,x=>by simp[cells,T.size,GA a,GA b]
theorem T.size_pos:∀t:T,0<t.size
 | .pr a b=>by have:=T.size_pos a;simp[T.size];omega
 |.u8|.u32|.u64|.i8|.i64|.bool|.sl _=>Nat.one_pos
def rep (w:World) (I:Nat->Prop):(t:T)->el t->List Value->Prop
 | .u8,x,vs=>vs=[.int .u8 x.toNat]
 | .u32,x,vs=>vs=[.int .u32 x.toNat]
 | .u64,x,vs=>vs=[.int .u64 x.toNat]
 | .i8,x,vs=>vs=[.int .i8 x]
 | .i64,x,vs=>vs=[.int .i64 x]
 | .bool,x,vs=>vs=[.bool x]
 | .sl t,l,vs=>∃base cap,vs=[.slice base l.length cap]/\l.length<=cap/\l.length<=140737488355328/\
  (l=[]\/∃b off,base=some ⟨b,off,none⟩/\I b/\∀(i:Nat) (x:el t),l[i]? =some x->∃us,rep w I t x us/\w.rangeAt b (off+i*t.size) us)
 | .pr a b,x,vs=>∃v1 v2,vs=v1++v2/\rep w I a x.1 v1/\rep w I b x.2 v2
theorem rangeAt_of_block {w w':World} {b o:Nat} {vs:List Value} (h:w'.heap[b]? =w.heap[b]?) (c:w.rangeAt b o vs):w'.rangeAt b o vs:=
 fun j v d=>(World.cell?_of_block (w:=w) (a:=⟨b,o+j,none⟩) h).trans (c j v d)
theorem CD {w w':World} {I g:Nat->Prop} (h:∀b,I b->g b/\w'.heap[b]? =w.heap[b]?):∀(t:T) (x:el t) (vs:List Value),rep w I t x vs->rep w' g t x vs
 |.u8,_,_,c|.u32,_,_,c|.u64,_,_,c|.i8,_,_,c|.i64,_,_,c|.bool,_,_,c=>c
 | .sl t,_,_,⟨base,cap,e,d,f,l⟩=>⟨base,cap,e,d,f,l.imp id fun⟨b,off,hb,j,k⟩=>
  ⟨b,off,hb,(h b j).1,fun i x m=>let ⟨us,hu,c⟩:=k i x m;⟨us,CD h t x us hu,rangeAt_of_block (h b j).2 c⟩⟩⟩
 | .pr a b,x,_,⟨v1,v2,e,d,f⟩=>⟨v1,v2,e,CD h a x.1 v1 d,CD h b x.2 v2 f⟩
theorem Io {w:World} {I:Nat->Prop}:∀(t:T) (x:el t) (vs:List Value),rep w I t x vs->vs.length=t.size
 |.u8,_,_,h|.u32,_,_,h|.u64,_,_,h|.i8,_,_,h|.i64,_,_,h|.bool,_,_,h=>by rw[show _=_ from h];rfl
 | .sl _,_,_,⟨_,_,e,_⟩=>by rw[e];rfl
 | .pr a b,x,_,⟨v1,v2,e,c,d⟩=>by rw[e,List.length_append,Io a x.1 v1 c,Io b x.2 v2 d];rfl
theorem MR {w:World} {I:Nat->Prop}:∀(t:T) (x:el t) (vs:List Value),rep w I t x vs->∀v∈vs,v.oneCell'=true
 |.u8,_,_,h,v,c|.u32,_,_,h,v,c|.u64,_,_,h,v,c|.i8,_,_,h,v,c|.i64,_,_,h,v,c|.bool,_,_,h,v,c=>by rw[show _=_ from h] at c;simp at c;subst c;rfl
 | .sl _,_,_,⟨_,_,e,_⟩,v,c=>by rw[e] at c;simp at c;subst c;rfl
 | .pr a b,x,_,⟨v1,v2,e,d,f⟩,v,c=>by
  rw[e] at c;rcases List.mem_append.1 c with h | h
  ·exact MR a x.1 v1 d v h
  exact MR b x.2 v2 f v h
def GQ (w:World) (o:Option Nat) (n off len:Nat) (full:Bool) (v:Value):Prop:=
 ∃base cap,v= .slice base len cap/\len<=cap/\cap<=maxLen/\(full=true->cap=len)/\
  (cap=0\/∃b arr e,o=some b/\base=some ⟨b,off*n,none⟩/\w.heap[b]? =some (.cells arr e (0,0))/\(off+cap)*n<=arr.size)
structure Cx where
 w:World
 β:Nat->Option Nat
 cv:Nat->Nat
 I:Nat->Prop
def Ms (x:Cx) (p:Nat×Nat) (v:Value):Prop:=(v.oneCell'=true/\p.2<=x.cv p.1)/\(p.2=x.cv p.1->∃b,x.β p.1=some b/\v= .pointer (some ⟨b,0,none⟩))
def FR (w:World) (I:Nat->Prop) (q:(t:T)×el t) (v:Value):Prop:=∃b o us,v= .pointer (some ⟨b,o,none⟩)/\I b/\rep w I q.1 q.2 us/\w.rangeAt b o us
theorem FR.mono {w w':World} {I c:Nat->Prop} (h:∀b,I b->c b/\w'.heap[b]? =w.heap[b]?) {q:(t:T)×el t} {v:Value}:FR w I q v->FR w' c q v:=
 fun⟨b,o,us,e,d,f,ha⟩=>⟨b,o,us,e,(h b d).1,CD h _ _ _ f,rangeAt_of_block (h b d).2 ha⟩
def Ap (x:Cx):AC->Value->Prop
 | .BY,v=>v.oneCell'=true
 | .int k n,v=>v= .int k n
 | .bool b,v=>v= .bool b
 | .fn f,v=>v= .func (.func f) #[] #[]
 | .nil,v=>v= .slice none 0 0
 | .sl t l,v=>rep x.w x.I (.sl t) l [v]
 | .AN t id AQ off len,v=>(v.oneCell'=true/\AQ<=x.cv id)/\(AQ=x.cv id->GQ x.w (x.β id) t.size off len false v)
 | .C9 t id AQ off len,v=>(v.oneCell'=true/\AQ<=x.cv id)/\(AQ=x.cv id->GQ x.w (x.β id) t.size off len true v)
 | .Ab id AQ off,v=>(v.oneCell'=true/\AQ<=x.cv id)/\(AQ=x.cv id->∃b,x.β id=some b/\v= .pointer (some ⟨b,off,none⟩))
 | .Ch t id AQ i k,v=>(v.oneCell'=true/\AQ<=x.cv id)/\(AQ=x.cv id->∃b,x.β id=some b/\v= .pointer (some ⟨b,i*t.size+k,none⟩))
 | .ub e,v=>∃b:Bool,v= .bool b/\(b=true->e=true)
 | .CX t y off,v=>∃b o us,v= .pointer (some ⟨b,o+off,none⟩)/\x.I b/\rep x.w x.I t y us/\x.w.rangeAt b o us
 | .Cy f ps,v=>∃us:Array Value,v= .func (.func f) #[] us/\AS (Ms x) ps us.toList
 | .CZ f qs,v=>∃us:Array Value,v= .func (.func f) #[] us/\AS (FR x.w x.I) qs us.toList
 | .own _ _ _,_=>False
theorem Ap.one {x:Cx}:∀{c:AC} {v:Value},Ap x c v->v.oneCell'=true
 | .BY,_,h=>h
 |.int _ _,_,h|.bool _,_,h|.fn _,_,h|.nil,_,h=>by rw[show _=_ from h];rfl
 | .sl _ _,_,h=>MR _ _ _ h _ (by simp)
 |.AN _ _ _ _ _,_,h|.C9 _ _ _ _ _,_,h|.Ab _ _ _,_,h|.Ch _ _ _ _ _,_,h=>h.1.1
 |.CX _ _ _,_,⟨_,_,_,e,_⟩|.Cy _ _,_,⟨_,e,_⟩|.CZ _ _,_,⟨_,e,_⟩|.ub _,_,⟨_,e,_⟩=>by rw[e];rfl
 | .own _ _ _,_,h=>h.elim
def Dg (x:Cx):AV->Value->Prop
 | .one c,v=>c= .BY\/Ap x c v
 | .agg cs,v=>∃arr,v= .agg arr/\AS (Ap x) cs arr.toList
 | .AG _,_=>False
def BK (x:Cx):AV->Value->Prop
 | .AG xs,v=>∃arr,v= .tuple arr/\AS (fun y u=>Dg x (DI y) u) xs arr.toList
 | a,v=>Dg x a v
def Cc (x:Cx) (id:Nat):AL->Prop
 | .dead _=>True
 | .var _ cs=>∃b arr e,x.β id=some b/\x.w.heap[b]? =some (.cells arr e (0,0))/\AS (Ap x) cs arr.toList
 | .arr _ t l=>(x.β id=none/\l=[])\/∃b arr e,x.β id=some b/\x.w.heap[b]? =some (.cells arr e (0,0))/\
  ∀(i:Nat) (y:el t),l[i]? =some y->∃us,rep x.w x.I t y us/\x.w.rangeAt b (i*t.size) us
structure Cx.le (x y:Cx):Prop where
 cv:∀id,x.cv id<=y.cv id
 β:∀id,y.cv id=x.cv id->y.β id=x.β id
 size:∀id b arr e,y.cv id=x.cv id->x.β id=some b->x.w.heap[b]? =some (.cells arr e (0,0))->∃arr',y.w.heap[b]? =some (.cells arr' e (0,0))/\arr'.size=arr.size
 I:∀b,x.I b->y.I b/\y.w.heap[b]? =x.w.heap[b]?
theorem GQ.mono {x y:Cx} (h:x.le y) {id n off len:Nat} {f:Bool} {v:Value} (g:y.cv id=x.cv id) (o:GQ x.w (x.β id) n off len f v):GQ y.w (y.β id) n off len f v:=by
 obtain⟨base,cap,e,i,j,l,h3⟩:=o;refine⟨base,cap,e,i,j,l,h3.imp (fun q=>q) fun⟨b,arr,e',hb,c,m,hs⟩=>?_⟩;obtain⟨d,k,p⟩:=h.size id b arr e' g hb m;exact⟨b,d,e',(h.β id g).trans hb,c,k,by omega⟩
theorem Ap.mono {x y:Cx} (h:x.le y):∀{c:AC} {v:Value},Ap x c v->Ap y c v
 |.BY,_,r|.int _ _,_,r|.bool _,_,r|.fn _,_,r|.nil,_,r=>r
 | .sl _ _,_,r=>CD h.I _ _ _ r
 | .AN _ id v _ _,_,r=>⟨⟨r.1.1,Nat.le_trans r.1.2 (h.cv id)⟩,fun e=>by
  have:=h.cv id;have d:v=x.cv id:=by have:=r.1.2;omega
  exact GQ.mono h (e ▸ d) (r.2 d)⟩
 | .C9 _ id v _ _,_,r=>⟨⟨r.1.1,Nat.le_trans r.1.2 (h.cv id)⟩,fun e=>by
  have:=h.cv id;have d:v=x.cv id:=by have:=r.1.2;omega
  exact GQ.mono h (e ▸ d) (r.2 d)⟩
 | .Ab id v _,_,r=>⟨⟨r.1.1,Nat.le_trans r.1.2 (h.cv id)⟩,fun e=>by
  have:=h.cv id;have d:v=x.cv id:=by have:=r.1.2;omega
  obtain⟨b,hb,f⟩:=r.2 d;exact⟨b,(h.β id (e ▸ d)).trans hb,f⟩⟩
 | .Ch _ id v _ _,_,r=>⟨⟨r.1.1,Nat.le_trans r.1.2 (h.cv id)⟩,fun e=>by
  have:=h.cv id;have d:v=x.cv id:=by have:=r.1.2;omega
  obtain⟨b,hb,f⟩:=r.2 d;exact⟨b,(h.β id (e ▸ d)).trans hb,f⟩⟩
 | .ub _,_,h=>h
 | .CX t y' _,_,⟨b,o,us,e,g,i,ha⟩=>⟨b,o,us,e,(h.I b g).1,CD h.I t y' us i,rangeAt_of_block (h.I b g).2 ha⟩
 | .Cy _ _,_,⟨us,e,r⟩=>⟨us,e,r.mono fun p u q=>⟨⟨q.1.1,Nat.le_trans q.1.2 (h.cv p.1)⟩,fun e=>by
  have:=h.cv p.1;have d:p.2=x.cv p.1:=by have:=q.1.2;omega
  obtain⟨b,hb,f⟩:=q.2 d;exact⟨b,(h.β p.1 (e ▸ d)).trans hb,f⟩⟩⟩
 | .CZ _ _,_,⟨us,e,r⟩=>⟨us,e,r.mono fun _ _=>FR.mono h.I⟩
 | .own _ _ _,_,r=>r.elim
theorem Dg.mono {x y:Cx} (h:x.le y):∀{a:AV} {v:Value},Dg x a v->Dg y a v
 | .one _,_,r=>r.imp (fun q=>q) (Ap.mono h)
 | .agg _,_,⟨arr,e,r⟩=>⟨arr,e,r.mono fun _ _=>Ap.mono h⟩
 | .AG _,_,r=>r.elim
theorem BK.mono {x y:Cx} (h:x.le y):∀{a:AV} {v:Value},BK x a v->BK y a v
 | .one c,v,r=>Dg.mono h (a:= .one c) r
 | .agg cs,v,r=>Dg.mono h (a:= .agg cs) r
 | .AG _,_,⟨arr,e,r⟩=>⟨arr,e,r.mono fun _ _=>Dg.mono h⟩
theorem Gr (x:Cx):∀(t:T) (y:el t) (vs:List Value),rep x.w x.I t y vs↔AS (Ap x) (cells t y) vs
 | .u8,y,vs=>one x (.int .u8 y.toNat) _ vs fun _=>Iff.rfl
 | .u32,y,vs=>one x (.int .u32 y.toNat) _ vs fun _=>Iff.rfl
 | .u64,y,vs=>one x (.int .u64 y.toNat) _ vs fun _=>Iff.rfl
 | .i8,y,vs=>one x (.int .i8 y) _ vs fun _=>Iff.rfl
 | .i64,y,vs=>one x (.int .i64 y) _ vs fun _=>Iff.rfl
 | .bool,y,vs=>one x (.bool y) _ vs fun _=>Iff.rfl
 | .sl t,y,vs=>by
  match vs with
  | []=>exact⟨fun⟨_,_,e,_⟩=>by simp at e,fun h=>h.elim⟩
  | [v]=>exact⟨fun h=>⟨h,trivial⟩,fun h=>h.1⟩
  | _::_::_=>exact⟨fun⟨_,_,e,_⟩=>by simp at e,fun h=>h.2.elim⟩
 | .pr a b,y,vs=>by
  constructor
  ·rintro⟨v1,v2,rfl,d,f⟩
   exact ((Gr x a y.1 v1).1 d).append ((Gr x b y.2 v2).1 f)
  intro h;obtain⟨m1,m2,e,d,f⟩:=AS.Rl h;exact⟨m1,m2,e,(Gr x a y.1 m1).2 d,(Gr x b y.2 m2).2 f⟩
where
 one (x:Cx) (c:AC) (u:Value) (vs:List Value) (h:∀v,Ap x c v↔v=u):vs=[u]↔AS (Ap x) [c] vs:=by
  match vs with
  | []=>exact⟨fun e=>by simp at e,fun h=>h.elim⟩
  | [v]=>exact⟨fun e=>⟨(h v).2 (by simpa using e),trivial⟩,fun g=>by rw[(h v).1 g.1]⟩
  | _::_::_=>exact⟨fun e=>by simp at e,fun h=>h.2.elim⟩
theorem Cc.mono {x y:Cx} (h:x.le y) {id:Nat} {b:AL} (f:y.cv id=x.cv id) (hb:∀k,x.β id=some k->y.w.heap[k]? =x.w.heap[k]?) (r:Cc x id b):Cc y id b:=by
 cases b with
 | dead _=>trivial
 | var _ cs=>
  obtain⟨b,arr,e,c,d,h3⟩:=r;exact⟨b,arr,e,(h.β id f).trans c,(hb b c).trans d,h3.mono fun _ _=>Ap.mono h⟩
 | arr _ t l=>
  refine r.imp (fun q=>⟨(h.β id f).trans q.1,q.2⟩) fun⟨b,arr,e,c,d,h3⟩=>?_
  refine⟨b,arr,e,(h.β id f).trans c,(hb b c).trans d,fun i y' hi=>?_⟩;obtain⟨us,hu,ha⟩:=h3 i y' hi;exact⟨us,CD h.I t y' us hu,rangeAt_of_block (hb b c) ha⟩
theorem JI:∀(l:List AV) (d:Nat) (v:AV) (i:Nat),nth (A9 l d v) i=if i=d/\d<l.length then v else nth l i
 |[],d,v,i|_::_,0,v,0|_::_,0,v,i+1|_::_,d+1,v,0=>by simp[A9,nth]
 | a::l,d+1,v,i+1=>by simp[A9,nth,JI l d v i]
theorem Gm:∀(l:List (Option AL)) (d:Nat) (v:Option AL) (i:Nat),AF (A9 l d v) i=if i=d/\d<l.length then v else AF l i
 |[],d,v,i|_::_,0,v,0|_::_,0,v,i+1|_::_,d+1,v,0=>by simp[A9,AF]
 | a::l,d+1,v,i+1=>by simp[A9,AF,Gm l d v i]
theorem Fb {α:Type}:∀(l:List α) (d:Nat) (v:α),(A9 l d v).length=l.length
 |[],_,_|_::_,0,_=>rfl
 | _::l,d+1,v=>by simp[A9,Fb l d v]
theorem HM:∀(l:List (Option AL)) (i:Nat),l.length<=i->AF l i=none
 | [],_,_=>rfl
 | _::_,0,h=>by simp at h
 | _::l,i+1,h=>by simpa [AF] using HM l i (by simpa using h)
theorem Gu {α:Type}:∀(l:List α) (d:Nat) (v:α),l.length<=d->A9 l d v=l
 | [],_,_,_=>rfl
 | _::_,0,_,h=>by simp at h
 | a::l,d+1,v,h=>by simp[A9,Gu l d v (by simpa using h)]
def AL.live:AL->Bool
 | .dead _=>false
 | _=>true
def AL.short:AL->Prop
 | .arr _ _ l=>l.length<=140737488355328
 | _=>True
def live (bk:Nat->Option AL) (id:Nat):Prop:=∃b,bk id=some b/\b.live=true
structure WX where
 X:Nat->Prop
 A:Nat->Prop
 ob:Option Nat
def cx (X:WX) (w:World) (β:Nat->Option Nat) (bk:Nat->Option AL):Cx:=
 ⟨w,β,AQ bk,fun b=>(b<w.heap.size/\∀id,live bk id->β id≠some b)/\X.A b⟩
structure BI (w0:World) (X:WX) (β:Nat->Option Nat) (s:St) (a:Act) (w:World):Prop where
 defers:a.defers=[]
 len:s.sl.length=a.tmps.size
 HG:s.bk.length=a.tmps.size
 B6:∀i,BK (cx X w β (AF s.bk)) (nth s.sl i) (a.tmps.getD i undef)
 blocks:∀id b,AF s.bk id=some b->Cc (cx X w β (AF s.bk)) id b
 inj:∀id id' b,live (AF s.bk) id->live (AF s.bk) id'->β id=some b->β id'=some b->id=id'
 own:∀id b,live (AF s.bk) id->β id=some b->w0.heap.size<=b\/(X.X b/\id=0)
 os:w.os=w0.os
 tape:w.tape=w0.tape
 output:w.output=w0.output
 size:w0.heap.size<=w.heap.size
 block:∀b,b<w0.heap.size->¬X.X b->w.heap[b]? =w0.heap[b]?
 lens:∀id b,AF s.bk id=some b->b.short
 fresh:∀b,w0.heap.size<=b->X.A b
 KM:live (AF s.bk) 0->AQ (AF s.bk) 0=0->β 0=X.ob/\∀(b:Nat) arr e,X.ob=some b->w0.heap[b]? =some (.cells arr e (0,0))->∃arr',w.heap[b]? =some (.cells arr' e (0,0))/\arr'.size=arr.size
section
variable {w0:World} {X:WX} {β:Nat->Option Nat} {s:St} {a:Act} {w:World}
theorem Im (x:Cx) (v:Value):BK x (.one .BY) v:=Or.inl rfl
theorem gy (a:Act) (d:Nat) (v:Value) (i:Nat):(a.put (some d) v).tmps.getD i undef=if i=d/\d<a.tmps.size then v else a.tmps.getD i undef:=by
 simp only[Act.put,Array.getD_eq_getD_getElem?,Array.getElem?_setIfInBounds]
 by_cases h:d=i
 ·subst h
  by_cases b:d<a.tmps.size <;> simp[b]
 simp[h,Ne.symm h]
theorem Zl {x:Cx} {s:St} {a:Act} (hlen:s.sl.length=a.tmps.size) (h:∀i,BK x (nth s.sl i) (a.tmps.getD i undef)) (dst:Option Nat) (v:AV) (u:Value) (b:BK x v u):
  ∀i,BK x (nth (FK s.sl dst v) i) ((a.put dst u).tmps.getD i undef):=by
 intro i;cases dst with
 | none=>exact h i
 | some d=>
  rw[gy];simp only[FK,JI,hlen]
  split
  ·exact b
  exact h i
theorem W9 {s:St} {a:Act} (hlen:s.sl.length=a.tmps.size) (dst:Option Nat) (v:AV) (u:Value):(FK s.sl dst v).length=(a.put dst u).tmps.size:=by
 cases dst <;> simp[FK,Act.put,Fb,hlen]
theorem size_put (a:Act) (dst:Option Nat) (u:Value):(a.put dst u).tmps.size=a.tmps.size:=by cases dst <;> simp[Act.put]
theorem Vc (a:Act) (dst:Option Nat) (u:Value):(a.put dst u).defers=a.defers:=by cases dst <;> rfl
theorem BI.ext (S:BI w0 X β s a w) {w':World} {dst:Option Nat} {v:AV} {u:Value} {rd:List Nat} (hw:∀b,b<w.heap.size->w'.heap[b]? =w.heap[b]?) (d:w.heap.size<=w'.heap.size)
  (n:w'.os=w.os) (g:w'.tape=w.tape) (m:w'.output=w.output) (p:BK (cx X w' β (AF s.bk)) v u):BI w0 X β (s.app dst ⟨v,[],rd⟩) (a.put dst u) w':=by
 have c:∀b o,w.heap[b]? =some o->b<w.heap.size:=fun b o h=>by
  rcases Nat.lt_or_ge b w.heap.size with h' | h'
  ·exact h'
  simp[Array.getElem?_eq_none h'] at h
 have hle:(cx X w β (AF s.bk)).le (cx X w' β (AF s.bk)):=
  ⟨fun _=>Nat.le_refl _,fun _ _=>rfl,fun id b arr e _ _ x=>⟨arr,(hw b (c b _ x)).trans x,rfl⟩,fun b hb=>⟨⟨⟨Nat.lt_of_lt_of_le hb.1.1 d,hb.1.2⟩,hb.2⟩,hw b hb.1.1⟩⟩
 refine⟨(Vc _ _ _).trans S.defers,W9 S.len _ _ _,S.HG.trans (size_put _ _ _).symm,Zl S.len (fun i=>BK.mono hle (S.B6 i)) dst v u p,fun id b hb=>?_,S.inj,S.own,
  n.trans S.os,g.trans S.tape,m.trans S.output,Nat.le_trans S.size d,fun b hb A=>(hw b (Nat.lt_of_lt_of_le hb S.size)).trans (S.block b hb A),S.lens,S.fresh,fun z p=>?_⟩
 case refine_2=>
  obtain⟨k,f⟩:=S.KM z p;refine⟨k,fun b arr e hb he=>?_⟩;obtain⟨j,h3,y⟩:=f b arr e hb he;exact⟨j,(hw b (c b _ h3)).trans h3,y⟩
 have r:=S.blocks id b hb;cases b with
 | dead _=>trivial
 | var _ cs=>
  obtain⟨b,arr,e,k,f,h3⟩:=r;exact⟨b,arr,e,k,(hw b (c b _ f)).trans f,h3.mono fun _ _=>Ap.mono hle⟩
 | arr _ t l=>
  refine r.imp (fun q=>q) fun⟨b,arr,e,k,f,h3⟩=>?_
  refine⟨b,arr,e,k,(hw b (c b _ f)).trans f,fun i y' hi=>?_⟩;obtain⟨us,hu,ha⟩:=h3 i y' hi;exact⟨us,CD hle.I t y' us hu,rangeAt_of_block (hw b (c b _ f)) ha⟩
theorem BI.val (S:BI w0 X β s a w) {dst:Option Nat} {v:AV} {u:Value} {rd:List Nat} (b:BK (cx X w β (AF s.bk)) v u):BI w0 X β (s.app dst ⟨v,[],rd⟩) (a.put dst u) w:=
 S.ext (fun _ _=>rfl) (Nat.le_refl _) rfl rfl rfl b
theorem Ew (l:List (Option AL)) (id:Nat) (b:AL) (c:id<l.length) (k:Nat):AQ (AF (A9 l id (some b))) k=if k=id then b.AQ else AQ (AF l) k:=by
 unfold AQ;rw[Gm]
 by_cases h:k=id
 ·subst h;simp[c]
 simp[h]
theorem Gj (l:List (Option AL)) (id:Nat) (b:AL) (c:id<l.length) (k:Nat):live (AF (A9 l id (some b))) k↔if k=id then b.live=true else live (AF l) k:=by
 unfold live;rw[Gm]
 by_cases h:k=id
 ·subst h;simp[c]
 simp[h]
theorem BI.write (S:BI w0 X β s a w) {β':Nat->Option Nat} {w':World} {dst:Option Nat} {v:AV} {u:Value} {rd:List Nat} {id:Nat} {BL:AL} (m:id<s.bk.length) (R:BL.short)
  (q:∀k,k≠id->β' k=β k) (P:AQ (AF s.bk) id<=BL.AQ) (G:BL.AQ=AQ (AF s.bk) id->β' id=β id/\(BL.live=true->live (AF s.bk) id))
  (p:∀b,b<w.heap.size->(live (AF s.bk) id->β id≠some b)->w'.heap[b]? =w.heap[b]?) (F:w.heap.size<=w'.heap.size)
  (C:∀(b:Nat) arr e,w.heap[b]? =some (.cells arr e (0,0))->∃y,w'.heap[b]? =some (.cells y e (0,0))/\y.size=arr.size)
  (Q:w'.os=w.os) (K:w'.tape=w.tape) (O:w'.output=w.output)
  (j:BL.live=true->∀b,β' id=some b->(β id=some b/\live (AF s.bk) id)\/w.heap.size<=b)
  (Z:(cx X w β (AF s.bk)).le (cx X w' β' (AF (A9 s.bk id (some BL))))->Cc (cx X w' β' (AF (A9 s.bk id (some BL)))) id BL)
  (T:(cx X w β (AF s.bk)).le (cx X w' β' (AF (A9 s.bk id (some BL))))->BK (cx X w' β' (AF (A9 s.bk id (some BL)))) v u):
  BI w0 X β' (s.app dst ⟨v,[(id,BL)],rd⟩) (a.put dst u) w':=by
 have N:∀b o,w.heap[b]? =some o->b<w.heap.size:=fun b o h=>by
  rcases Nat.lt_or_ge b w.heap.size with h' | h'
  ·exact h'
  simp[Array.getElem?_eq_none h'] at h
 have z:∀k b,live (AF s.bk) k->β k=some b->b<w.heap.size:=fun k b ⟨I,x,B⟩ hb=>by
  have r:=S.blocks k I x;cases I with
  | dead _=>simp[AL.live] at B
  | var _ _=>obtain⟨b',arr,e,n,A,_⟩:=r;obtain rfl:b=b':=Option.some.inj (hb.symm.trans n);exact N b _ A
  | arr _ _ _=>
   rcases r with⟨n,_⟩ |⟨b',arr,e,n,A,_⟩
   ·exact absurd (hb.symm.trans n) (by simp)
   obtain rfl:b=b':=Option.some.inj (hb.symm.trans n);exact N b _ A
 have hle:(cx X w β (AF s.bk)).le (cx X w' β' (AF (A9 s.bk id (some BL)))):=by
  refine⟨fun k=>?_,fun k x=>?_,fun k b arr e _ _ hh=>C b arr e hh,fun b hb=>⟨⟨⟨Nat.lt_of_lt_of_le hb.1.1 F,fun k x=>?_⟩,hb.2⟩,p b hb.1.1 (fun B=>hb.1.2 id B)⟩⟩
  ·show AQ _ k<=AQ _ k
   rw[Ew _ _ _ m]
   split
   ·subst_vars;exact P
   exact Nat.le_refl _
  ·by_cases h:k=id
   ·subst h;have c:AQ (AF (A9 s.bk k (some BL))) k=AQ (AF s.bk) k:=x;rw[Ew _ _ _ m,if_pos rfl] at c;exact (G c).1
   exact q k h
  rw[Gj _ _ _ m] at x
  by_cases h:k=id
  ·subst h;simp only[if_true] at x;intro e;rcases j x b e with⟨n,A⟩ | n
   ·exact hb.1.2 k A n
   have:=hb.1.1
   show False
   have a1:b<w.heap.size:=hb.1.1;omega
  simp only[h,if_false] at x
  show β' k≠some b
  rw[q k h];exact hb.1.2 k x
 refine⟨(Vc _ _ _).trans S.defers,W9 S.len _ _ _,?_,?_,fun k b x=>?_,fun k k' b x c hb g=>?_,fun k b x hb=>?_,Q.trans S.os,K.trans S.tape,O.trans S.output,Nat.le_trans S.size F,fun b hb U=>?_,fun k b x=>?_,S.fresh,fun B T=>?_⟩
 ·show (A9 s.bk id (some BL)).length=_
  rw[Fb,size_put];exact S.HG
 ·exact Zl S.len (fun i=>BK.mono hle (S.B6 i)) dst v u (T hle)
 ·have c:AF (A9 s.bk id (some BL)) k=some b:=x;rw[Gm] at c
  by_cases h:k=id
  ·subst h;simp only[m,and_self,if_true,Option.some.injEq] at c;subst c;exact Z hle
  simp only[h,false_and,if_false] at c
  have M:(cx X w' β' (AF (A9 s.bk id (some BL)))).cv k=(cx X w β (AF s.bk)).cv k:=by
   show AQ _ k=AQ _ k
   rw[Ew _ _ _ m,if_neg h]
  have r:=S.blocks k b c;have V:(cx X w' β' (AF (A9 s.bk id (some BL)))).β k=(cx X w β (AF s.bk)).β k:=q k h;cases b with
  | dead _=>trivial
  | var vv cs=>
   refine Cc.mono hle M (fun b' g=>?_) r;have B:live (AF s.bk) k:=⟨_,c,rfl⟩;exact p b' (z k b' B g) fun J e=>h (S.inj k id b' B J g e)
  | arr vv t l=>
   refine Cc.mono hle M (fun b' g=>?_) r;have B:live (AF s.bk) k:=⟨_,c,rfl⟩;exact p b' (z k b' B g) fun J e=>h (S.inj k id b' B J g e)
 ·have d:live (AF (A9 s.bk id (some BL))) k:=x;have f:live (AF (A9 s.bk id (some BL))) k':=c;rw[Gj _ _ _ m] at d f
  by_cases h:k=id <;> by_cases h':k'=id
  ·rw[h,h']
  ·subst h;simp only[if_true,h',if_false] at d f;rw[q k' h'] at g;rcases j d b hb with⟨n,A⟩ | n
   ·exact S.inj k k' b A f n g
   have:=z k' b f g;omega
  ·subst h';simp only[if_true,h,if_false] at d f;rw[q k h] at hb;rcases j f b g with⟨n,A⟩ | n
   ·exact S.inj k k' b d A hb n
   have:=z k b d hb;omega
  simp only[h,h',if_false] at d f;rw[q k h] at hb;rw[q k' h'] at g;exact S.inj k k' b d f hb g
 ·have d:live (AF (A9 s.bk id (some BL))) k:=x;rw[Gj _ _ _ m] at d
  by_cases h:k=id
  ·subst h;simp only[if_true] at d;rcases j d b hb with⟨n,A⟩ | n
   ·exact S.own k b A n
   exact Or.inl (Nat.le_trans S.size n)
  simp only[h,if_false] at d;rw[q k h] at hb;exact S.own k b d hb
 ·rw[p b (Nat.lt_of_lt_of_le hb S.size) fun B e=>?_]
  ·exact S.block b hb U
  rcases S.own id b B e with h | h
  ·omega
  exact U h.1
 ·have c:AF (A9 s.bk id (some BL)) k=some b:=x;rw[Gm] at c
  by_cases h:k=id
  ·subst h;simp only[m,and_self,if_true,Option.some.injEq] at c;subst c;exact R
  simp only[h,false_and,if_false] at c;exact S.lens k b c
 have D:live (AF (A9 s.bk id (some BL))) 0:=B;have H:AQ (AF (A9 s.bk id (some BL))) 0=0:=T;rw[Gj _ _ _ m] at D;rw[Ew _ _ _ m] at H
 have key:live (AF s.bk) 0/\AQ (AF s.bk) 0=0/\β' 0=β 0:=by
  by_cases h:0=id
  ·subst h;simp only[if_true] at D H;have W:AQ (AF s.bk) 0=0:=by omega
   have:=G (by omega);exact⟨this.2 D,W,this.1⟩
  simp only[h,if_false] at D H;exact⟨D,H,q 0 h⟩
 obtain⟨n,A⟩:=S.KM key.1 key.2.1;refine⟨key.2.2.trans n,fun b arr e hb he=>?_⟩;obtain⟨y,h3,h4⟩:=A b arr e hb he;obtain⟨L,Y,h6⟩:=C b y e h3;exact⟨L,Y,by omega⟩
end
end Go.Abs
