/- Part 2 of a proof. Conditions: each theorem's own. -/
import Derived.WalkKit
import Derived.Deep.MidRow
import Derived.ArgAppend
set_option linter.all false
set_option maxHeartbeats 8000000
set_option maxRecDepth 20000
namespace Go.Abs
 inductive T
  | u8 | u32 | u64 | i8 | i64 | bool | sl (t:T) | pr (a b:T)
abbrev el:T->Type
 | .u8=>UInt8 | .u32=>UInt32 | .u64=>UInt64 | .i8=>Int | .i64=>Int | .bool=>Bool
 | .sl t=>List (el t) | .pr a b=>el a×el b
def T.size:T->Nat
 | .pr a b=>a.size+b.size
 | _=>1
def T.beq:T->T->Bool
 | .u8,.u8=>true | .u32,.u32=>true | .u64,.u64=>true | .i8,.i8=>true | .i64,.i64=>true | .bool,.bool=>true
 | .sl a,.sl b=>a.beq b
 | .pr a b,.pr c d=>a.beq c&&b.beq d
 | _,_=>false
def T.agg:T->Bool
 | .pr _ _=>true
 | _=>false
 inductive AC
  | BJ | int (k:IntKind) (n:Int) | bool (b:Bool) | fn (f:FuncId) | nil
  | sl (t:T) (l:List (el t))
  | AN (t:T) (id AO off len:Nat)
  | CU (t:T) (id AO off len:Nat)
  | Ak (id AO off:Nat)
  | B8 (t:T) (id AO i k:Nat)
  | Cc (t:T) (x:el t) (off:Nat)
  | ub (e:Bool)
  | own (t:T) (l:List (el t)) (n:Nat)
 inductive AV
  | one (c:AC) | agg (cs:List AC) | AI (xs:List (Bool×List AC))
 inductive AK
  | var (AO:Nat) (cs:List AC)
  | arr (AO:Nat) (t:T) (l:List (el t))
  | dead (AO:Nat)
def AK.AO:AK->Nat
 | .var v _=>v | .arr v _ _=>v | .dead v=>v
def cells:(t:T)->el t->List AC
 | .u8,x=>[.int .u8 x.toNat]
 | .u32,x=>[.int .u32 x.toNat]
 | .u64,x=>[.int .u64 x.toNat]
 | .i8,x=>[.int .i8 x]
 | .i64,x=>[.int .i64 x]
 | .bool,x=>[.bool x]
 | .sl t,l=>[.sl t l]
 | .pr a b,x=>cells a x.1++cells b x.2
structure CM (n:Int) (k:Nat):Prop where
 eq:n=k
 le:k<=140737488355328
structure AQ (n:Int) (k:Nat):Prop where
 eq:n=k
structure Mi (n:Int) (x:UInt8):Prop where
 eq:n=x.toNat
structure JE (n:Int) (x:UInt32):Prop where
 eq:n=x.toNat
structure Wx (n:Int) (x:UInt64):Prop where
 eq:n=x.toNat
def H7:(t:T)->el t->(List AC->Prop)->Prop
 | .u8,x,K=>∀n,Mi n x->K [.int .u8 n]
 | .u32,x,K=>∀n,JE n x->K [.int .u32 n]
 | .u64,x,K=>∀n,Wx n x->K [.int .u64 n]
 | .i8,x,K=>K [.int .i8 x]
 | .i64,x,K=>K [.int .i64 x]
 | .bool,x,K=>K [.bool x]
 | .sl t,l,K=>K [.sl t l]
 | .pr a b,x,K=>H7 a x.1 fun l=>H7 b x.2 fun m=>K (l++m)
theorem JY:∀(t:T) (x:el t) (K:List AC->Prop),H7 t x K↔K (cells t x)
 |.u8,x,K|.u32,x,K|.u64,x,K=>⟨fun h=>h _ ⟨rfl⟩,fun h n c=>by rw[c.eq];exact h⟩
 |.i8,_,_|.i64,_,_|.bool,_,_|.sl _,_,_=>Iff.rfl
 | .pr a b,x,K=>by
  show H7 a x.1 _↔_
  rw[JY a x.1,JY b x.2]
  rfl
def Ca:Bool×List AC->AV
 | (true,cs)=> .agg cs
 | (false,c::_)=> .one c
 | (false,[])=> .one .BJ
def AV.cs:AV->List AC
 | .one c=>[c]
 | .agg cs=>cs
 | .AI _=>[]
def AV.full:AV->Bool
 | .one .BJ=>false
 |.one _|.agg _=>true
 | .AI _=>false
def AV.comp:AV->Bool×List AC
 | .one c=>(false,[c])
 | .agg cs=>(true,cs)
 | .AI _=>(false,[])
def comp (t:T) (x:el t):Bool×List AC:=(t.agg,cells t x)
def Qw (t:T) (x:el t):AV:=Ca (comp t x)
structure St where
 sl:List AV
 bk:List (Option AK)
def nth:List AV->Nat->AV
 | [],_=> .one .BJ
 | a::_,0=>a
 | _::l,n+1=>nth l n
def AF:List (Option AK)->Nat->Option AK
 | [],_=>none
 | a::_,0=>a
 | _::l,n+1=>AF l n
def Al {α:Type}:List α->Nat->α->List α
 | [],_,_=>[]
 | _::l,0,x=>x::l
 | a::l,n+1,x=>a::Al l n x
def AO (bk:Nat->Option AK) (id:Nat):Nat:=
 match bk id with
 | some b=>b.AO
 | none=>0
structure Info where
 known:Bool:=true
 size:Nat:=1
 agg:Bool:=false
 zero:List AC:=[]
 kind:Option IntKind:=none
 La:Bool:=false
 sl:Bool:=false
 CI:TypeId:=0
 elem:T:= .bool
 BW:el elem
 Du:Nat:=0
 fields:List (Nat×Nat×Bool):=[]
def NS:Value->AV
 | .int k n=> .one (.int k n)
 | .bool b=> .one (.bool b)
 | .slice none 0 0=> .one .nil
 | _=> .one .BJ
def ev (s:List AV):Operand->AV
 | .tmp t=>nth s t
 | .const v=>NS v
 | .func f=> .one (.fn f)
 | .global _=> .one .BJ
structure BG where
 v:AV
 ws:List (Nat×AK):=[]
 rd:List Nat:=[]
def GW (n:Int):Prop:= -9223372036854775808<=n/\n<9223372036854775808
def fits (n b:Nat):Prop:=n*b<=140737488355328
def arith (op:BinOp) (k:IntKind) (a b:Int) (K:AC->Prop):Prop:=
 match op,k with
 | .add,.i64=>∀c,c=a+b->(Unit->GW c)/\K (.int .i64 c)
 | .sub,.i64=>∀c,c=a-b->(Unit->GW c)/\K (.int .i64 c)
 | .mul,.i64=>∀c,c=a*b->(Unit->GW c)/\K (.int .i64 c)
 | .quo,.i64=>∀c,c=a/b->(Unit->0<=a/\0<b/\GW c)/\K (.int .i64 c)
 | .rem,.i64=>∀c,c=a%b->(Unit->0<=a/\0<b)/\K (.int .i64 c)
 | .add,k=>∀c,c=k.wrap (a+b)->K (.int k c)
 | .sub,k=>∀c,c=k.wrap (a-b)->K (.int k c)
 | .mul,k=>∀c,c=k.wrap (a*b)->K (.int k c)
 | .quo,k=>∀c,c=k.wrap (a/b)->(Unit->0<=a/\0<b)/\K (.int k c)
 | .rem,k=>∀c,c=a%b->(Unit->0<=a/\0<b)/\K (.int k c)
 | .and,k=>∀c,c=k.wrap (BitVec.ofInt k.bits a &&& BitVec.ofInt k.bits b).toNat->K (.int k c)
 | .or,k=>∀c,c=k.wrap (BitVec.ofInt k.bits a ||| BitVec.ofInt k.bits b).toNat->K (.int k c)
 | .xor,k=>∀c,c=k.wrap (BitVec.ofInt k.bits a ^^^ BitVec.ofInt k.bits b).toNat->K (.int k c)
 | .andNot,k=>∀c,c=k.wrap (BitVec.ofInt k.bits a &&& ~~~ BitVec.ofInt k.bits b).toNat->K (.int k c)
 | .shl,k=>∀c,c=k.wrap (a*2^min b.toNat k.bits)->(Unit->0<=b)/\K (.int k c)
 | .shr,k=>∀c,c=a.fdiv (2^min b.toNat k.bits)->(Unit->0<=b)/\K (.int k c)
 | .eql,_=>∀c,c=(a==b)->K (.bool c)
 | .neq,_=>∀c,c=(a !=b)->K (.bool c)
 | .lss,_=>∀c,c=decide (a<b)->K (.bool c)
 | .leq,_=>∀c,c=decide (a<=b)->K (.bool c)
 | .gtr,_=>∀c,c=decide (a>b)->K (.bool c)
 | .geq,_=>∀c,c=decide (a >= b)->K (.bool c)
def EZ (cs:List AC):Nat->Nat->List AC
 | 0,n=>cs.take n
 | off+1,n=>match cs with
  | []=>[]
  | _::cs=>EZ cs off n
def Cd {α:Type}:List α->Nat->List α->List α
 | cs,0,[]=>cs
 | [],0,_::_=>[]
 | _::cs,0,x::xs=>x::Cd cs 0 xs
 | [],_+1,_=>[]
 | c::cs,off+1,xs=>c::Cd cs off xs
def ld (i:Info) (cs:List AC) (off:Nat):AV:=Ca (i.agg,EZ cs off i.size)
def C9 (bk:Nat->Option AK):AC->AC->Prop
 | .AN t id v off len,c=>∃l,bk id=some (.arr v t l)/\off+len<=l.length/\c= .sl t ((l.drop off).take len)
 | .nil,c=>c= .nil\/∃t,c= .sl t []
 | .int k n,c=>c= .int k n
 | .bool b,c=>c= .bool b
 | .fn f,c=>c= .fn f
 | .sl t l,c=>c= .sl t l
 | _,_=>False
def Ar:AC->AC->Prop
 | .nil,c=>c= .nil\/∃t,c= .sl t []
 | .int k n,c=>c= .int k n
 | .bool b,c=>c= .bool b
 | .fn f,c=>c= .fn f
 | .sl t l,c=>c= .sl t l
 | _,_=>False
def Aj (R:AC->AC->Prop):List AC->List AC->Prop
 | [],[]=>True
 | a::l,b::m=>R a b/\Aj R l m
 | _,_=>False
def leV (R:AC->AC->Prop):AV->AV->Prop
 | .one a,.one b=>R a b
 | .agg l,.agg m=>Aj R l m
 | _,_=>False
def D3 (R:AC->AC->Prop):List AV->List AV->Prop
 | [],[]=>True
 | a::l,b::m=>leV R a b/\D3 R l m
 | _,_=>False
def BY:AC->List Nat
 | .AN _ id _ _ _=>[id]
 | _=>[]
def BR:List AV->List Nat
 | []=>[]
 | .one c::r=>BY c++BR r
 | .agg cs::r=>cs.flatMap BY++BR r
 | .AI _::r=>BR r
def EV (d v:Nat):AC->AC
 | .own t _ n=> .AN t d v 0 n
 | c=>c
def Gv (d v:Nat):AV->AV
 | .one c=> .one (EV d v c)
 | .agg cs=> .agg (cs.map (EV d v))
 | .AI xs=> .AI (xs.map fun x=>(x.1,x.2.map (EV d v)))
def Ct (d v:Nat):List AC->List (Nat×AK)
 | []=>[]
 | .own t l _::_=>[(d,.arr v t l)]
 | _::r=>Ct d v r
def Gc (d v:Nat):AV->List (Nat×AK)
 | .one c=>Ct d v [c]
 | .agg cs=>Ct d v cs
 | .AI xs=>Ct d v (xs.flatMap (·.2))
abbrev Con:=Bool->FuncId->List AV->AV->Prop
abbrev WL:=FuncId->AC->AK->List AV->AV->AK->Prop
abbrev WM:=FuncId->List AV->AK->AV->Prop
abbrev WN:=FuncId->(t:T)->List (el t)->List AV->List (el t)->Prop
structure Env where
 C:Con
 B:WL
 D:WM
 G:WN
def Gz (id v:Nat):AC->AC->Prop
 | .AN t i w off len,c=>(i=id/\w=v)/\c= .AN t 0 0 off len
 | .Ak i w off,c=>(i=id/\w=v)/\c= .Ak 0 0 off
 | .nil,c=>c= .nil\/∃t,c= .sl t []
 | .int k n,c=>c= .int k n
 | .bool b,c=>c= .bool b
 | .fn f,c=>c= .fn f
 | .sl t l,c=>c= .sl t l
 | _,_=>False
def Fx (places:List (Nat×Nat×Bool)) (e:Operand->AV):List (Nat×Operand)->List AC->Option (List AC)
 | [],cs=>some cs
 | (i,x)::r,cs=>match places[i]? with
  | some (off,n,_)=>if (e x).cs.length=n/\(e x).full=true/\off+n<=cs.length then Fx places e r (Cd cs off (e x).cs) else none
  | none=>none
def Gf (id v:Nat):AC->AC
 | .AN t _ _ off len=> .AN t id v off len
 | .Ak _ _ off=> .Ak id v off
 | .B8 t _ _ i k=> .B8 t id v i k
 | c=>c
def Ua (id v:Nat):AV->AV
 | .one c=> .one (Gf id v c)
 | .agg cs=> .agg (cs.map (Gf id v))
 | .AI xs=> .AI (xs.map fun x=>(x.1,x.2.map (Gf id v)))
def AK.DL (v:Nat):AK->AK
 | .var _ cs=> .var v cs
 | .arr _ t l=> .arr v t l
 | .dead _=> .dead v
def L6:AC->Option (Nat×Nat)
 |.AN _ id v _ _|.Ak id v _=>some (id,v)
 | _=>none
def T.flat:T->Bool
 | .sl _=>false
 | .pr a b=>a.flat&&b.flat
 | _=>true
def LO:AK->Bool
 | .arr _ t _=>t.flat
 | _=>false
def DE (id:Nat):AV->Bool
 | .one (.int _ _)=>true
 | .one (.AN t i _ _ _)=>t.flat&&i !=id
 | _=>false
def BS:AC->Bool
 |.int _ _|.bool _|.fn _|.nil|.AN _ 0 0 _ _=>true
 | _=>false
def AV.all (p:AC->Bool):AV->Bool
 | .one c=>p c
 | .agg cs=>cs.all p
 | .AI xs=>xs.all fun x=>x.2.all p
def Ao:AC->Bool
 | .BJ=>true | .int _ _=>true | .bool _=>true | .fn _=>true | .nil=>true | .sl _ _=>true
 | _=>false
def GO (E:Env) (g:FuncId) (args:List AV) (d:Nat) (bk:Nat->Option AK) (K:BG->Prop):Prop:=
 (∃args' r,(Unit->D3 Ar args args')/\(Unit->E.C false g args' r)/\
  K ⟨Gv d (AO bk d+1) r,Gc d (AO bk d+1) r,[d]⟩)\/
 (∃args' r,(Unit->D3 (C9 bk) args args')/\(Unit->E.C true g args' r)/\
  K ⟨Gv d (AO bk d+1) r,Gc d (AO bk d+1) r,d::BR args⟩)\/
 (match args with
  | .one c::rest=>match L6 c with
   | some (id,v)=>match bk id with
    | some b=>if b.AO=v then ∃args' r b1,(Unit->id ∉ BR rest/\D3 (C9 bk) rest args')/\(Unit->E.B g (Gf 0 0 c) (b.DL 0) args' r b1/\LO b1=true/\r.all BS=true)/\
     K ⟨Ua id v r,[(id,b1.DL v)],id::BR rest⟩ else False
    | none=>False
   | none=>False
  | _=>False)\/
 (∃(id:Nat) (b:AK) (args':List AV) (r:AV),(Unit->bk id=some b/\D3 (Gz id b.AO) args args')/\(Unit->E.D g args' (b.DL 0) r)/\K ⟨r,[],[id]⟩)\/
 (∃(id:Nat) (b:AK) (args':List AV) (r:AV),(Unit->(id≠0/\bk id=some b/\((BR args).all fun k=>k==id)=true)/\D3 (C9 bk) args args')/\(Unit->E.C false g args' r/\r.all Ao=true)/\K ⟨r,[(id,.dead b.AO)],[id]⟩)
 \/(match args with
  | .one (.AN t id v off len)::rest=>match bk id with
   | some (.arr v' t' l)=>if v'=v/\T.beq t' t=true then ∃(args':List AV) (l':List (el t')),(Unit->(off=0/\len=l.length)/\rest.all (DE id)=true/\D3 (C9 bk) rest args')/\(Unit->E.G g t' l args' l')/\
    ∀n,n=l'.length->K ⟨.one (.AN t' id (v+1) 0 n),[(id,.arr (v+1) t' l')],id::BR rest⟩ else False
   | _=>False
  | _=>False)
def D2 (TI:TypeId->Info) (b:Builtin) (tys:List TypeId) (args:List AV) (d:Nat) (bk:Nat->Option AK) (K:BG->Prop):Prop:=
 match b,tys,args with
 | .len,[t0],[.one (.sl _ l)]=>(TI t0).sl=true/\∀n,CM n l.length->K ⟨.one (.int .i64 n),[],[]⟩
 |.len,[t0],[.one (.CU _ id v _ len)]|.len,[t0],[.one (.AN _ id v _ len)]=>(TI t0).sl=true/\if AO bk id=v then ∀n,AQ n len->K ⟨.one (.int .i64 n),[],[id]⟩ else False
 |.len,[t0],[.one .nil]|.cap,[t0],[.one .nil]=>(TI t0).sl=true/\K ⟨.one (.int .i64 0),[],[]⟩
 | .min,_,[.one (.int k a),.one (.int _ b)]=>∀c,c=(if b<a then b else a)->K ⟨.one (.int k c),[],[]⟩
 | .max,_,[.one (.int k a),.one (.int _ b)]=>∀c,c=(if b>a then b else a)->K ⟨.one (.int k c),[],[]⟩
 | .append,[t0,t1],[.one .nil,.one x]=>
  ((TI t0).sl=true/\(TI t1).sl=true)/\∃l2:List (el (TI t0).elem),(Unit->C9 bk x (.sl _ l2)/\fits l2.length (TI t0).Du)/\
    ∀n,n=l2.length->K ⟨.one (.AN (TI t0).elem d (AO bk d+1) 0 n),[(d,.arr (AO bk d+1) _ l2)],d::BY x⟩
 | .append,[t0,t1],[.one (.CU t id v off len),.one x]=>
  ((TI t0).sl=true/\(TI t1).sl=true)/\match bk id with
    | some (.arr v' t' l)=>if v'=v/\T.beq t' t=true/\T.beq t' (TI t0).elem=true then
     ∃l2:List (el t'),(Unit->off=0/\len<=l.length/\C9 bk x (.sl _ l2)/\fits (len+l2.length) (TI t0).Du)/\
      ∀l' n,(l'=l.take len++l2/\n=l'.length)->K ⟨.one (.AN t' id (v+1) 0 n),[(id,.arr (v+1) t' l')],id::BY x⟩
     else False
    | _=>False
 | .append,[t0,t1],[.one (.AN t id v off len),.one x]=>
  ((TI t0).sl=true/\(TI t1).sl=true)/\match bk id with
    | some (.arr v' t' l)=>if v'=v/\T.beq t' t=true/\T.beq t' (TI t0).elem=true then
     ∃l2:List (el t'),(Unit->off=0/\len=l.length/\C9 bk x (.sl _ l2)/\fits (l.length+l2.length) (TI t0).Du)/\
      ∀l' n,(l'=l++l2/\n=l'.length)->K ⟨.one (.AN t' id (v+1) 0 n),[(id,.arr (v+1) t' l')],id::BY x⟩
     else False
    | _=>False
 | _,_,_=>False
def FL (TI:TypeId->Info) (tys:List TypeId) (args:List AV) (bk:Nat->Option AK) (K:BG->Prop):Prop:=
 match tys,args with
 | [t0,t1],[.one (.AN t id v off len),.one x]=>
  ((TI t0).sl=true/\(TI t1).sl=true)/\match bk id with
    | some (.arr v' t' l)=>if v'=v/\T.beq t' t=true/\T.beq t' (TI t0).elem=true then
     ∃l2:List (el t'),(Unit->off=0/\len<=l.length/\C9 bk x (.sl _ l2)/\fits (len+l2.length) (TI t0).Du)/\
      ∀l' n,(l'=l.take len++l2/\n=l'.length)->K ⟨.one (.AN t' id (v+1) 0 n),[(id,.arr (v+1) t' l')],id::BY x⟩
     else False
    | _=>False
 | _,_=>False
def Is (K:BG->Prop) (f:BG):Prop:=
 match f.v,f.ws with
 | .one (.AN t id v off n),[(i,.arr v' t' l)]=>if (id !=0&&id==i&&v==v'&&off==0&&T.beq t t')=true then (Unit->n=l.length)/\K ⟨.one (.sl t' l),[(id,.dead v)],f.rd⟩ else False
 | _,_=>False
def Mv (TI:TypeId->Info) (b:Builtin) (tys:List TypeId) (args:List AV) (d:Nat) (bk:Nat->Option AK) (K:BG->Prop):Prop:=
 match b with
 | .append=>D2 TI b tys args d bk K\/D2 TI b tys args d bk (Is K)\/FL TI tys args bk K
 | _=>D2 TI b tys args d bk K
def My:List (Nat×List AC)->Nat->List (List AC)->Prop
 | [],_,[]=>True
 | p::r,k,x::m=>p.1=k/\Aj Ar p.2 x/\My r (k+1) m
 | _,_,_=>False
def Gs (len:Nat) (lo hi mx:Option AV) (K:Nat->Nat->Bool->Prop):Prop:=
 match lo,hi,mx with
 | none,none,none=>∀h,h=len->K 0 h false
 | some (.one (.int _ a)),none,none=>(Unit->0<=a/\a.toNat<=len)/\∀l h,(l=a.toNat/\h=len)->K l h false
 | none,some (.one (.int _ b)),none=>(Unit->0<=b/\b.toNat<=len)/\∀h,h=b.toNat->K 0 h false
 | some (.one (.int _ a)),some (.one (.int _ b)),none=>(Unit->0<=a/\a<=b/\b.toNat<=len)/\∀l h,(l=a.toNat/\h=b.toNat)->K l h false
 | none,some (.one (.int _ b)),some (.one (.int _ m))=>(Unit->0<=b/\b=m/\m.toNat<=len)/\∀h,h=b.toNat->K 0 h true
 | _,_,_=>False
def Gr (bk:Nat->Option AK) (u:T) (x:AV) (lo hi mx:Option AV) (K:BG->Prop):Prop:=
 match x with
 | .one (.sl t l)=>T.beq t u=true/\∀n,n=l.length->Gs n lo hi mx fun a b _=>∀l',l'=(l.take b).drop a->K ⟨.one (.sl t l'),[],[]⟩
 | .one (.AN t id v off len)=>T.beq t u=true/\if AO bk id=v then Gs len lo hi mx fun a b c=>∀o n,(o=off+a/\n=b-a)->
  match c with | true=>K ⟨.one (.CU t id v o n),[],[id]⟩ | false=>K ⟨.one (.AN t id v o n),[],[id]⟩
  else False
 | .one .nil=>Gs 0 lo hi mx fun _ _ _=>K ⟨.one .nil,[],[]⟩
 | _=>False
def Bp (E:Env) (TI:TypeId->Info) (o:Oper) (d:Nat) (e:Operand->AV) (bk:Nat->Option AK) (K:BG->Prop):Prop:=
 match o.op with
 |.move x|.assign x=>K ⟨e x,[],[]⟩
 | .nilCheck x=>match e x with
  | .one (.Ak id v off)=>if AO bk id=v then K ⟨e x,[],[id]⟩ else False
  | .one (.fn _)=>K ⟨e x,[],[]⟩
  | _=>False
 | .pick c a b=>match e c with
  | .one (.bool true)=>K ⟨e a,[],[]⟩
  | .one (.bool false)=>K ⟨e b,[],[]⟩
  | _=>False
 | .alloc t=>(TI t).known=true/\K ⟨.one (.Ak d (AO bk d+1) 0),[(d,.var (AO bk d+1) (TI t).zero)],[d]⟩
 | .box _ x=>match e x with
  |.AI _|.one .BJ=>False
  | v=>K ⟨.one (.Ak d (AO bk d+1) 0),[(d,.var (AO bk d+1) v.cs)],[d]⟩
 | .extract t i=>match e t with
  | .AI xs=>match xs[i]? with
   | some x=>K ⟨Ca x,[],[]⟩
   | none=>False
  | _=>False
 | .load t a=>(TI t).known=true/\match e a with
  | .one (.Ak id v off)=>match bk id with
   | some (.var v' cs)=>if v'=v/\(EZ cs off (TI t).size).length=(TI t).size then K ⟨ld (TI t) cs off,[],[id]⟩ else False
   | _=>False
  | .one (.Cc t' x off)=>H7 t' x fun cs=>if (EZ cs off (TI t).size).length=(TI t).size then K ⟨ld (TI t) cs off,[],[]⟩ else False
  | .one (.B8 t' id v i k)=>match bk id with
   | some (.arr v' u l)=>if v'=v/\T.beq t' u=true then ∃x:el u,(Unit->l[i]? =some x)/\H7 u x fun cs=>
    if (EZ cs k (TI t).size).length=(TI t).size then K ⟨ld (TI t) cs k,[],[id]⟩ else False
    else False
   | _=>False
  | _=>False
 | .store t a x=>(TI t).known=true/\match e a with
  | .one (.Ak id v off)=>match bk id,e x with
   |_,.AI _|_,.one .BJ=>False
   | some (.var v' cs),y=>if v'=v/\y.cs.length=(TI t).size/\off+(TI t).size<=cs.length then
    K ⟨.one .BJ,[(id,.var v (Cd cs off y.cs))],[id]⟩ else False
   | _,_=>False
  | .one (.B8 t' id v i k)=>match bk id,e x with
   |_,.AI _|_,.one .BJ=>False
   | some (.arr v' u l),y=>if v'=v/\k=0/\(TI t).size=u.size/\T.beq t' u=true then
    ∃z:el u,(Unit->i<l.length/\Aj Ar y.cs (cells u z))/\∀l',l'=l.set i z->K ⟨.one .BJ,[(id,.arr v u l')],[id]⟩
    else False
   | _,_=>False
  | _=>False
 | .fieldAddr s x f=>(TI s).known=true/\match (TI s).fields[f]?,e x with
  | some (fo,_,_),.one (.Ak id v off)=>if AO bk id=v then K ⟨.one (.Ak id v (off+fo)),[],[id]⟩ else False
  | some (fo,_,_),.one (.Cc t y off)=>K ⟨.one (.Cc t y (off+fo)),[],[]⟩
  | some (fo,_,_),.one (.B8 t id v i k)=>if AO bk id=v then K ⟨.one (.B8 t id v i (k+fo)),[],[id]⟩ else False
  | _,_=>False
 | .field s x f=>(TI s).known=true/\match (TI s).fields[f]?,e x with
  | some (fo,n,g),.agg cs=>if (EZ cs fo n).length=n then K ⟨Ca (g,EZ cs fo n),[],[]⟩ else False
  | _,_=>False
 | .build t parts=>((TI t).known=true/\(TI t).fields.isEmpty=false)/\match Fx (TI t).fields e parts.toList (TI t).zero with
  | some cs=>K ⟨.agg cs,[],[]⟩
  | none=>False
 | .buildSlice t len parts=>(TI t).sl=true/\(TI t).elem.size<=32/\∃xs:List (el (TI t).elem),
  (Unit->xs.length=len/\len<=524288/\(parts.toList.all fun p=>(e p.2).full)=true/\My (parts.toList.map fun p=>(p.1,(e p.2).cs)) 0 (xs.map (cells _)))/\
  (K ⟨.one (.AN (TI t).elem d (AO bk d+1) 0 len),[(d,.arr (AO bk d+1) _ xs)],[d]⟩\/K ⟨.one (.sl (TI t).elem xs),[],[]⟩)
 | .makeSlice t l c=>(TI t).sl=true/\match e l,e c with
  | .one (.int _ n),.one (.int _ m)=>(Unit->0<=n/\n<=m/\fits m.toNat (TI t).Du)/\
   ∀k z,(k=n.toNat/\z=List.replicate k (TI t).BW)->K ⟨.one (.AN (TI t).elem d (AO bk d+1) 0 k),[(d,.arr (AO bk d+1) _ z)],[d]⟩
  | _,_=>False
 | .indexAddr t x i=>(TI t).sl=true/\match e x,e i with
  | .one (.sl t' l),.one (.int _ n)=>T.beq t' (TI t).elem=true/\∃x,(Unit->0<=n/\l[n.toNat]? =some x)/\K ⟨.one (.Cc t' x 0),[],[]⟩
  | .one (.AN t' id v off len),.one (.int _ n)=>T.beq t' (TI t).elem=true/\if AO bk id=v then (Unit->0<=n/\n.toNat<len)/\∀j,j=off+n.toNat->K ⟨.one (.B8 t' id v j 0),[],[id]⟩ else False
  | _,_=>False
 | .slice t x lo hi mx=>(TI t).sl=true/\Gr bk (TI t).elem (e x) (lo.map e) (hi.map e) (mx.map e) K
 | .binOp op bt x y _=>match e x,e y with
  | .one (.int k a),.one (.int k' b)=>if k=k'\/op= .shl\/op= .shr then arith op k a b fun c=>K ⟨.one c,[],[]⟩ else False
  | .one (.bool a),.one (.bool b)=>(TI bt).La=true/\match op with
   | .eql=>∀c,c=(a==b)->K ⟨.one (.bool c),[],[]⟩
   | .neq=>∀c,c=(a !=b)->K ⟨.one (.bool c),[],[]⟩
   | _=>False
  | .one (.sl _ l),.one .nil=>(TI bt).sl=true/\match op with
   | .eql=>∀c,c=l.isEmpty->K ⟨.one (.ub c),[],[]⟩
   | _=>False
  | _,_=>False
 | .unOp op _ x=>match op,e x with
  | .not,.one (.bool b)=>∀c,c= !b->K ⟨.one (.bool c),[],[]⟩
  | .neg,.one (.int k n)=>∀c,c=k.wrap (0-n)->K ⟨.one (.int k c),[],[]⟩
  | _,_=>False
 | .convert src dst x=>(TI src).known=true/\match (TI dst).kind,e x with
  | some k,.one (.int _ n)=>∀c,c=k.wrap n->K ⟨.one (.int k c),[],[]⟩
  | _,_=>False
 | .call c=>match c.callee with
  | .builtin b=>Mv TI b c.argTypes.toList (c.args.toList.map e) d bk K
  | .value f=>match e f with
   | .one (.fn g)=>GO E g (c.args.toList.map e) d bk K
   | _=>False
  | .invoke _ _=>False
 | _=>False
def CD:List (Nat×AK)->List (Option AK)->List (Option AK)
 | [],b=>b
 | w::r,b=>CD r (Al b w.1 (some w.2))
def EX (l:List AV):Option Nat->AV->List AV
 | some d,v=>Al l d v
 | none,_=>l
def St.app (s:St) (d:Option Nat) (f:BG):St:=⟨EX s.sl d f.v,CD f.ws s.bk⟩
def BD (o:Oper):Nat:=o.dst.getD 1000000
abbrev Tr:=List (List Nat×List Nat)
def LW (ops:List Oper) (j:Nat):Option Nat:=(ops[j]?).bind (·.dst)
def Tz (o:Oper):List Nat:=o.op.operands.toList.filterMap fun | .tmp t=>some t | _=>none
def F5 (ops:List Oper) (o:Oper):List Nat:=
 o.dst.toList++Tz o++(match o.guard with | some (j,_)=>(LW ops j).toList | none=>[])
def Dt (o:Oper):List Nat:=(o.after.toList.filter fun e=>Region.binds .any e).map (·.on)
def ER:List Oper->List (List Nat)->List (List Nat)
 | [],acc=>acc
 | o::r,acc=>ER r (acc++[(Dt o).flatMap fun j=>j::acc.getD j []])
def Jd (a b:List Nat):Bool:=a.all fun x=> !b.contains x
def JL (ops:List Oper) (oi oj:Oper) (ti tj:List Nat×List Nat):Bool:=
 Jd oi.dst.toList (F5 ops oj)&&Jd oj.dst.toList (F5 ops oi)&&
 Jd ti.2 (tj.1++tj.2)&&Jd tj.2 ti.1
def Tp (ops:List Oper) (tr:Tr) (bs:List (List Nat)):Bool:=
 (List.range ops.length).all fun j=>(List.range j).all fun i=>
  (bs.getD j []).contains i||
   (match ops[i]?,ops[j]?,tr[i]?,tr[j]? with
    | some oi,some oj,some ti,some tj=>JL ops oi oj ti tj
    | _,_,_,_=>false)
def Qy (ops:List Oper):Bool:=
 (List.range ops.length).all fun j=>match ops[j]? with | some o=>(Dt o).all fun i=>decide (i<j) | none=>true
def G7 (ops:List Oper) (tr:Tr):Bool:=Qy ops&&Tp ops tr (ER ops [])
def Fc (E:Env) (TI:TypeId->Info) (all:List Oper) (draw:Bool):List Oper->Tr->(St->Prop)->St->Prop
 | [],tr,Q,s=>match draw with
  | false=>Q s
  | true=>(Unit->G7 all tr.reverse=true)/\Q s
 | o::r,tr,Q,s=>match o.guard with
  | none=>Bp E TI o (BD o) (ev s.sl) (AF s.bk) fun f=>Fc E TI all draw r ((f.rd,f.ws.map (·.1))::tr) Q (s.app o.dst f)
  | some (j,w)=>match LW all j with
   | none=>False
   | some g=>match nth s.sl g,w with
    |.one (.bool true),true|.one (.bool false),false=>Bp E TI o (BD o) (ev s.sl) (AF s.bk) fun f=>Fc E TI all draw r ((f.rd,f.ws.map (·.1))::tr) Q (s.app o.dst f)
    |.one (.bool true),false|.one (.bool false),true|.AI [],_=>Fc E TI all draw r (([],[])::tr) Q (s.app o.dst ⟨.AI [],[],[]⟩)
    | _,_=>False
 inductive AX
  | CJ | exit (n:Nat) | ret
def G4 (bk:Nat->Option AK) (bs:List Nat):AC->AC
 | .AN t id v off len=>if bs.contains id&&AO bk id==v then .AN t id 0 off len else .BJ
 | .Ak id v off=>if bs.contains id&&AO bk id==v then .Ak id 0 off else .BJ
 | .B8 t id v i k=>if bs.contains id&&AO bk id==v then .B8 t id 0 i k else .BJ
 | .CU _ _ _ _ _=> .BJ
 | c=>c
def OK (bk:Nat->Option AK) (bs:List Nat):AV->AV
 | .one c=> .one (G4 bk bs c)
 | .agg cs=> .agg (cs.map (G4 bk bs))
 | .AI _=> .one .BJ
def Ju (bk:Nat->Option AK) (bs:List Nat):AK->AK
 | .var _ cs=> .var 0 (cs.map (G4 bk bs))
 | .arr _ t l=> .arr 0 t l
 | .dead _=> .dead 0
def DF (s:St) (bs:List Nat):List Nat->List AV
 | []=>[]
 | k::r=>OK (AF s.bk) bs (nth s.sl k)::DF s bs r
def C0 (s:St) (bs:List Nat):List Nat->List AK
 | []=>[]
 | k::r=>(match AF s.bk k with | some b=>if k==0&&b.AO !=0 then .dead 0 else Ju (AF s.bk) bs b | none=> .dead 0)::C0 s bs r
def Ep:List Nat->List AV->List AV->List AV
 | k::ks,v::vs,l=>Ep ks vs (Al l k v)
 | _,_,l=>l
def Fa:List Nat->List AK->List (Option AK)->List (Option AK)
 | k::ks,v::vs,l=>Fa ks vs (Al l k (some v))
 | _,_,l=>l
def Fb {α:Type}:Nat->α->List α
 | 0,_=>[]
 | n+1,x=>x::Fb n x
def FX (n:Nat) (ks:List Nat) (vs:List AV) (bs:List Nat) (bl:List AK):St:=
 ⟨Ep ks vs (Fb n (.one .BJ)),Fa bs bl (Fb n none)⟩
def IC (s:St):List (Nat×T×Bool)->St
 | []=>s
 | (k,t,b)::r=>IC (match nth s.sl k,b with
  | .one .nil,false=>⟨Al s.sl k (.one (.sl t [])),s.bk⟩
  | .one .nil,true=>⟨Al s.sl k (.one (.AN t k (AO (AF s.bk) k+1) 0 0)),Al s.bk k (some (.arr (AO (AF s.bk) k+1) t []))⟩
  | _,_=>s) r
def IJ:Code->Bool
 |.skip|.region _ _ _=>true
 | .seq a b=>IJ a&&IJ b
 | .cond _ a b=>IJ a||IJ b
 |.block _ _|.loop _=>true
 | _=>false
def CH (E:Env) (TI:TypeId->Info) (n:Nat):Code->(AX->St->Prop)->St->Prop
 | .skip,Q,s=>Q .CJ s
 | .region _ ops draw,Q,s=>Fc E TI ops.toList draw ops.toList [] (Q .CJ) s
 | .seq a b,Q,s=>CH E TI n a (fun e s=>match e with | .CJ=>CH E TI n b Q s | .exit i=>Q (.exit i) s | .ret=>Q .ret s) s
 | .cond c a b,Q,s=>match IJ a&&IJ b with
  | true=>(∃(ks bs:List Nat) (J:List AV->List AK->Prop),(∀vs bl,J vs bl->Q .CJ (FX n ks vs bs bl))/\
    match ev s.sl c with
    | .one (.bool true)=>CH E TI n a (fun e s'=>match e with | .CJ=>J (DF s' bs ks) (C0 s' bs bs) | .exit i=>Q (.exit i) s' | .ret=>Q .ret s') s
    | .one (.bool false)=>CH E TI n b (fun e s'=>match e with | .CJ=>J (DF s' bs ks) (C0 s' bs bs) | .exit i=>Q (.exit i) s' | .ret=>Q .ret s') s
    | .one (.ub u)=>(u=true->CH E TI n a (fun e s'=>match e with | .CJ=>J (DF s' bs ks) (C0 s' bs bs) | .exit i=>Q (.exit i) s' | .ret=>Q .ret s') s)/\
     CH E TI n b (fun e s'=>match e with | .CJ=>J (DF s' bs ks) (C0 s' bs bs) | .exit i=>Q (.exit i) s' | .ret=>Q .ret s') s
    | _=>False)\/
   (match ev s.sl c with
   | .one (.bool true)=>CH E TI n a Q s
   | .one (.bool false)=>CH E TI n b Q s
   | .one (.ub u)=>(u=true->CH E TI n a Q s)/\CH E TI n b Q s
   | _=>False)
  | false=>match ev s.sl c with
   | .one (.bool true)=>CH E TI n a Q s
   | .one (.bool false)=>CH E TI n b Q s
   | .one (.ub u)=>(u=true->CH E TI n a Q s)/\CH E TI n b Q s
   | _=>False
 | .block id c,Q,s=>(∃(ks bs:List Nat) (J:List AV->List AK->Prop),(∀vs bl,J vs bl->Q .CJ (FX n ks vs bs bl))/\
   CH E TI n c (fun e s'=>match e with | .exit i=>if i=id then J (DF s' bs ks) (C0 s' bs bs) else Q (.exit i) s' | .CJ=>J (DF s' bs ks) (C0 s' bs bs) | .ret=>Q .ret s') s)\/
  CH E TI n c (fun e s=>match e with | .exit i=>if i=id then Q .CJ s else Q (.exit i) s | .CJ=>Q .CJ s | .ret=>Q .ret s) s
 | .loop c,Q,s=>∃(cv:List (Nat×T×Bool)) (ks bs:List Nat) (J:List AV->List AK->Nat->Prop),
  (∃k,J (DF (IC s cv) bs ks) (C0 (IC s cv) bs bs) k)/\∀vs bl k,J vs bl k->
   CH E TI n c (fun e s'=>match e with
    | .CJ=>∃k',k'<k/\J (DF s' bs ks) (C0 s' bs bs) k'
    | .exit i=>Q (.exit i) s' | .ret=>Q .ret s') (FX n ks vs bs bl)
 | .exit i,Q,s=>Q (.exit i) s
 | .ret,Q,s=>Q .ret s
 | _,_,_=>False
def DJ (bk:Nat->Option AK):AC->AC->Prop
 | .AN t id v off len,c=>(∃l,bk id=some (.arr v t l)/\off+len<=l.length/\c= .sl t ((l.drop off).take len))\/
  (∃l n,id≠0/\bk id=some (.arr v t l)/\off=0/\len=l.length/\n=l.length/\c= .own t l n)\/
  (id=0/\v=0/\c= .AN t 0 0 off len)
 | .nil,c=>c= .nil\/(∃t,c= .sl t [])\/∃t,c= .own t [] 0
 | .int k n,c=>c= .int k n
 | .bool b,c=>c= .bool b
 | .fn f,c=>c= .fn f
 | .sl t l,c=>c= .sl t l
 | _,_=>False
def Gg (bk:Nat->Option AK):List (Bool×List AC)->List (Bool×List AC)->Prop
 | [],[]=>True
 | a::l,b::m=>(a.1=b.1/\Aj (DJ bk) a.2 b.2)/\Gg bk l m
 | _,_=>False
def Ei:AC->Bool
 | .own _ _ _=>true
 | _=>false
def Gx:AC->Bool
 |.AN _ _ _ _ _|.own _ _ _=>true
 | _=>false
def Lx (src:List (Bool×List AC)) (res:List (Bool×List AC)):Bool:=
 match (res.flatMap (·.2)).filter Ei with
 | []=>true
 | [_]=>((src.flatMap (·.2)).filter Gx).length<=1
 | _=>false
def AV.DQ:AV->List (Bool×List AC)
 | .AI xs=>xs
 | v=>[v.comp]
def MB (TI:TypeId->Info) (s:St):ResultVar->Option (Bool×List AC)
 | .tmp t=>some (nth s.sl t).comp
 | .cell a t=>match nth s.sl a with
  | .one (.Ak id v off)=>match AF s.bk id with
   | some (.var v' cs)=>if (TI t).known&&v'==v&&(EZ cs off (TI t).size).length==(TI t).size then some ((TI t).agg,EZ cs off (TI t).size) else none
   | _=>none
  | _=>none
def Gh (TI:TypeId->Info) (s:St):List ResultVar->Option (List (Bool×List AC))
 | []=>some []
 | r::rs=>match MB TI s r,Gh TI s rs with
  | some x,some xs=>some (x::xs)
  | _,_=>none
def He:AC->Bool
 | .AN _ 0 _ _ _=>false
 | _=>true
def J4 (TI:TypeId->Info) (rs:List ResultVar) (r:AV) (b0:AK) (e:AX) (s:St):Prop:=
 match e with
 | .exit _=>False
 | _=>match Gh TI s rs with
  | some xs=>(Unit->(Gg (AF s.bk) xs r.DQ/\(xs.all fun x=>x.2.all He)=true/\(rs.length=1↔∀ys,r≠ .AI ys))/\AF s.bk 0=some b0)
  | none=>False
def post (TI:TypeId->Info) (rs:List ResultVar) (r:AV) (b1:Option AK) (e:AX) (s:St):Prop:=
 match e with
 | .exit _=>False
 | _=>match Gh TI s rs with
  | some xs=>(Unit->Gg (AF s.bk) xs r.DQ/\Lx xs r.DQ=true/\(rs.length=1↔∀ys,r≠ .AI ys))/\
   (match b1 with | none=>True | some b=>Unit->AF s.bk 0=some b)
  | none=>False
def CL (n:Nat) (args:List AV) (b0:Option AK):St:=
 ⟨args++Fb (n-args.length) (.one .BJ),match n with | 0=>[] | n+1=>b0::Fb n none⟩
open Go.RowKit
def AR {α β:Type} (R:α->β->Prop):List α->List β->Prop
 | [],[]=>True
 | a::l,b::m=>R a b/\AR R l m
 | _,_=>False
theorem AR.mono {α β:Type} {R R':α->β->Prop}:∀{l:List α} {m:List β},(∀a b,R a b->R' a b)->AR R l m->AR R' l m
 | [],[],_,h=>h
 | _::_,_::_,c,h=>⟨c _ _ h.1,AR.mono c h.2⟩
 |[],_::_,_,h|_::_,[],_,h=>h
theorem AR.length {α β:Type} {R:α->β->Prop}:∀{l:List α} {m:List β},AR R l m->l.length=m.length
 | [],[],_=>rfl
 | _::_,_::_,h=>by simp[AR.length h.2]
 |[],_::_,h|_::_,[],h=>h.elim
theorem AR.get {α β:Type} {R:α->β->Prop}:∀{l:List α} {m:List β},AR R l m->∀(i:Nat) (a:α),l[i]? =some a->∃b,m[i]? =some b/\R a b
 | _::_,b::_,h,0,a,e=>by simp at e;exact⟨b,by simp,e ▸ h.1⟩
 | _::_,_::_,h,i+1,a,e=>by simpa using AR.get h.2 i a (by simpa using e)
 | [],[],_,_,_,e=>by simp at e
 |[],_::_,h,_,_,_|_::_,[],h,_,_,_=>h.elim
theorem AR.append {α β:Type} {R:α->β->Prop}:∀{l:List α} {m:List β} {l':List α} {m':List β},AR R l m->AR R l' m'->AR R (l++l') (m++m')
 | [],[],_,_,_,h=>h
 | _::_,_::_,_,_,h,h'=>⟨h.1,AR.append h.2 h'⟩
 |[],_::_,_,_,h,_|_::_,[],_,_,h,_=>h.elim
theorem AR.OV {α β:Type} {R:α->β->Prop}:∀{l l':List α} {m:List β},AR R (l++l') m->∃m1 m2,m=m1++m2/\AR R l m1/\AR R l' m2
 | [],_,m,h=>⟨[],m,rfl,trivial,h⟩
 | _::_,_,[],h=>h.elim
 | _::_,_,b::_,h=>by
  obtain⟨m1,m2,e,c,d⟩:=AR.OV h.2;exact⟨b::m1,m2,by simp[e],⟨h.1,c⟩,d⟩
theorem AR.drop {α β:Type} {R:α->β->Prop}:∀{l:List α} {m:List β} (n:Nat),AR R l m->AR R (l.drop n) (m.drop n)
 | _,_,0,h=>by simpa using h
 | [],[],_+1,_=>trivial
 | _::_,_::_,n+1,h=>by simpa using AR.drop n h.2
 |[],_::_,_,h|_::_,[],_,h=>h.elim
theorem AR.take {α β:Type} {R:α->β->Prop}:∀{l:List α} {m:List β} (n:Nat),AR R l m->AR R (l.take n) (m.take n)
 | _,_,0,_=>by simp[AR]
 | [],[],_+1,_=>trivial
 | _::_,_::_,n+1,h=>by simpa [AR] using ⟨h.1,AR.take n h.2⟩
 |[],_::_,_,h|_::_,[],_,h=>h.elim
theorem Iy:∀(cs:List AC) (off n:Nat),EZ cs off n=(cs.drop off).take n
 |_,0,_|[],_+1,_=>by simp[EZ]
 | _::cs,off+1,n=>by simpa [EZ] using Iy cs off n
theorem E6:∀(t:T) (x:el t),(cells t x).length=t.size
 |.u8,_|.u32,_|.u64,_|.i8,_|.i64,_|.bool,_|.sl _,_=>rfl
 | .pr a b,x=>by simp[cells,T.size,E6 a,E6 b]
theorem T.size_pos:∀t:T,0<t.size
 | .pr a b=>by have:=T.size_pos a;simp[T.size];omega
 |.u8|.u32|.u64|.i8|.i64|.bool|.sl _=>Nat.one_pos
def rep (w:World) (I:Nat->Prop):(t:T)->el t->List Value->Prop
 | .u8,x,vs=>vs=[.int .u8 x.toNat]
 | .u32,x,vs=>vs=[.int .u32 x.toNat]
 | .u64,x,vs=>vs=[.int .u64 x.toNat]
 | .i8,x,vs=>vs=[.int .i8 x]
 | .i64,x,vs=>vs=[.int .i64 x]
 | .bool,x,vs=>vs=[.bool x]
 | .sl t,l,vs=>∃base cap,vs=[.slice base l.length cap]/\l.length<=cap/\l.length<=140737488355328/\
  (l=[]\/∃b off,base=some ⟨b,off,none⟩/\I b/\∀(i:Nat) (x:el t),l[i]? =some x->∃us,rep w I t x us/\w.rangeAt b (off+i*t.size) us)
 | .pr a b,x,vs=>∃v1 v2,vs=v1++v2/\rep w I a x.1 v1/\rep w I b x.2 v2
theorem rangeAt_of_block {w w':World} {b o:Nat} {vs:List Value} (h:w'.heap[b]? =w.heap[b]?) (c:w.rangeAt b o vs):w'.rangeAt b o vs:=
 fun j v d=>(World.cell?_of_block (w:=w) (a:=⟨b,o+j,none⟩) h).trans (c j v d)
theorem B3 {w w':World} {I g:Nat->Prop} (h:∀b,I b->g b/\w'.heap[b]? =w.heap[b]?):∀(t:T) (x:el t) (vs:List Value),rep w I t x vs->rep w' g t x vs
 |.u8,_,_,c|.u32,_,_,c|.u64,_,_,c|.i8,_,_,c|.i64,_,_,c|.bool,_,_,c=>c
 | .sl t,_,_,⟨base,cap,e,d,f,l⟩=>⟨base,cap,e,d,f,l.imp id fun⟨b,off,hb,j,k⟩=>
  ⟨b,off,hb,(h b j).1,fun i x m=>let ⟨us,hu,c⟩:=k i x m;⟨us,B3 h t x us hu,rangeAt_of_block (h b j).2 c⟩⟩⟩
 | .pr a b,x,_,⟨v1,v2,e,d,f⟩=>⟨v1,v2,e,B3 h a x.1 v1 d,B3 h b x.2 v2 f⟩
theorem HE {w:World} {I:Nat->Prop}:∀(t:T) (x:el t) (vs:List Value),rep w I t x vs->vs.length=t.size
 |.u8,_,_,h|.u32,_,_,h|.u64,_,_,h|.i8,_,_,h|.i64,_,_,h|.bool,_,_,h=>by rw[show _=_ from h];rfl
 | .sl _,_,_,⟨_,_,e,_⟩=>by rw[e];rfl
 | .pr a b,x,_,⟨v1,v2,e,c,d⟩=>by rw[e,List.length_append,HE a x.1 v1 c,HE b x.2 v2 d];rfl
theorem MA {w:World} {I:Nat->Prop}:∀(t:T) (x:el t) (vs:List Value),rep w I t x vs->∀v∈vs,v.oneCell'=true
 |.u8,_,_,h,v,c|.u32,_,_,h,v,c|.u64,_,_,h,v,c|.i8,_,_,h,v,c|.i64,_,_,h,v,c|.bool,_,_,h,v,c=>by rw[show _=_ from h] at c;simp at c;subst c;rfl
 | .sl _,_,_,⟨_,_,e,_⟩,v,c=>by rw[e] at c;simp at c;subst c;rfl
 | .pr a b,x,_,⟨v1,v2,e,d,f⟩,v,c=>by
  rw[e] at c;rcases List.mem_append.1 c with h | h
  ·exact MA a x.1 v1 d v h
  exact MA b x.2 v2 f v h
def FH (w:World) (o:Option Nat) (n off len:Nat) (full:Bool) (v:Value):Prop:=
 ∃base cap,v= .slice base len cap/\len<=cap/\cap<=maxLen/\(full=true->cap=len)/\
  (cap=0\/∃b arr e,o=some b/\base=some ⟨b,off*n,none⟩/\w.heap[b]? =some (.cells arr e (0,0))/\(off+cap)*n<=arr.size)
structure Cx where
 w:World
 β:Nat->Option Nat
 cv:Nat->Nat
 I:Nat->Prop
def Ah (x:Cx):AC->Value->Prop
 | .BJ,v=>v.oneCell'=true
 | .int k n,v=>v= .int k n
 | .bool b,v=>v= .bool b
 | .fn f,v=>v= .func (.func f) #[] #[]
 | .nil,v=>v= .slice none 0 0
 | .sl t l,v=>rep x.w x.I (.sl t) l [v]
 | .AN t id AO off len,v=>(v.oneCell'=true/\AO<=x.cv id)/\(AO=x.cv id->FH x.w (x.β id) t.size off len false v)
 | .CU t id AO off len,v=>(v.oneCell'=true/\AO<=x.cv id)/\(AO=x.cv id->FH x.w (x.β id) t.size off len true v)
 | .Ak id AO off,v=>(v.oneCell'=true/\AO<=x.cv id)/\(AO=x.cv id->∃b,x.β id=some b/\v= .pointer (some ⟨b,off,none⟩))
 | .B8 t id AO i k,v=>(v.oneCell'=true/\AO<=x.cv id)/\(AO=x.cv id->∃b,x.β id=some b/\v= .pointer (some ⟨b,i*t.size+k,none⟩))
 | .ub e,v=>∃b:Bool,v= .bool b/\(b=true->e=true)
 | .Cc t y off,v=>∃b o us,v= .pointer (some ⟨b,o+off,none⟩)/\x.I b/\rep x.w x.I t y us/\x.w.rangeAt b o us
 | .own _ _ _,_=>False
theorem Ah.one {x:Cx}:∀{c:AC} {v:Value},Ah x c v->v.oneCell'=true
 | .BJ,_,h=>h
 |.int _ _,_,h|.bool _,_,h|.fn _,_,h|.nil,_,h=>by rw[show _=_ from h];rfl
 | .sl _ _,_,h=>MA _ _ _ h _ (by simp)
 |.AN _ _ _ _ _,_,h|.CU _ _ _ _ _,_,h|.Ak _ _ _,_,h|.B8 _ _ _ _ _,_,h=>h.1.1
 |.Cc _ _ _,_,⟨_,_,_,e,_⟩|.ub _,_,⟨_,e,_⟩=>by rw[e];rfl
 | .own _ _ _,_,h=>h.elim
def Cz (x:Cx):AV->Value->Prop
 | .one c,v=>c= .BJ\/Ah x c v
 | .agg cs,v=>∃arr,v= .agg arr/\AR (Ah x) cs arr.toList
 | .AI _,_=>False
def BB (x:Cx):AV->Value->Prop
 | .AI xs,v=>∃arr,v= .tuple arr/\AR (fun y u=>Cz x (Ca y) u) xs arr.toList
 | a,v=>Cz x a v
def B5 (x:Cx) (id:Nat):AK->Prop
 | .dead _=>True
 | .var _ cs=>∃b arr e,x.β id=some b/\x.w.heap[b]? =some (.cells arr e (0,0))/\AR (Ah x) cs arr.toList
 | .arr _ t l=>(x.β id=none/\l=[])\/∃b arr e,x.β id=some b/\x.w.heap[b]? =some (.cells arr e (0,0))/\
  ∀(i:Nat) (y:el t),l[i]? =some y->∃us,rep x.w x.I t y us/\x.w.rangeAt b (i*t.size) us
structure Cx.le (x y:Cx):Prop where
 cv:∀id,x.cv id<=y.cv id
 β:∀id,y.cv id=x.cv id->y.β id=x.β id
 size:∀id b arr e,y.cv id=x.cv id->x.β id=some b->x.w.heap[b]? =some (.cells arr e (0,0))->∃arr',y.w.heap[b]? =some (.cells arr' e (0,0))/\arr'.size=arr.size
 I:∀b,x.I b->y.I b/\y.w.heap[b]? =x.w.heap[b]?
theorem FH.mono {x y:Cx} (h:x.le y) {id n off len:Nat} {f:Bool} {v:Value} (g:y.cv id=x.cv id) (o:FH x.w (x.β id) n off len f v):FH y.w (y.β id) n off len f v:=by
 obtain⟨base,cap,e,i,j,l,h3⟩:=o;refine⟨base,cap,e,i,j,l,h3.imp (fun q=>q) fun⟨b,arr,e',hb,c,m,r⟩=>?_⟩;obtain⟨d,k,p⟩:=h.size id b arr e' g hb m;exact⟨b,d,e',(h.β id g).trans hb,c,k,by omega⟩
theorem Ah.mono {x y:Cx} (h:x.le y):∀{c:AC} {v:Value},Ah x c v->Ah y c v
 |.BJ,_,r|.int _ _,_,r|.bool _,_,r|.fn _,_,r|.nil,_,r=>r
 | .sl _ _,_,r=>B3 h.I _ _ _ r
 | .AN _ id v _ _,_,r=>⟨⟨r.1.1,Nat.le_trans r.1.2 (h.cv id)⟩,fun e=>by
  have:=h.cv id;have d:v=x.cv id:=by have:=r.1.2;omega
  exact FH.mono h (e ▸ d) (r.2 d)⟩
 | .CU _ id v _ _,_,r=>⟨⟨r.1.1,Nat.le_trans r.1.2 (h.cv id)⟩,fun e=>by
  have:=h.cv id;have d:v=x.cv id:=by have:=r.1.2;omega
  exact FH.mono h (e ▸ d) (r.2 d)⟩
 | .Ak id v _,_,r=>⟨⟨r.1.1,Nat.le_trans r.1.2 (h.cv id)⟩,fun e=>by
  have:=h.cv id;have d:v=x.cv id:=by have:=r.1.2;omega
  obtain⟨b,hb,f⟩:=r.2 d;exact⟨b,(h.β id (e ▸ d)).trans hb,f⟩⟩
 | .B8 _ id v _ _,_,r=>⟨⟨r.1.1,Nat.le_trans r.1.2 (h.cv id)⟩,fun e=>by
  have:=h.cv id;have d:v=x.cv id:=by have:=r.1.2;omega
  obtain⟨b,hb,f⟩:=r.2 d;exact⟨b,(h.β id (e ▸ d)).trans hb,f⟩⟩
 | .ub _,_,h=>h
 | .Cc t y' _,_,⟨b,o,us,e,g,i,ha⟩=>⟨b,o,us,e,(h.I b g).1,B3 h.I t y' us i,rangeAt_of_block (h.I b g).2 ha⟩
 | .own _ _ _,_,r=>r.elim
theorem Cz.mono {x y:Cx} (h:x.le y):∀{a:AV} {v:Value},Cz x a v->Cz y a v
 | .one _,_,r=>r.imp (fun q=>q) (Ah.mono h)
 | .agg _,_,⟨arr,e,r⟩=>⟨arr,e,r.mono fun _ _=>Ah.mono h⟩
 | .AI _,_,r=>r.elim
theorem BB.mono {x y:Cx} (h:x.le y):∀{a:AV} {v:Value},BB x a v->BB y a v
 | .one c,v,r=>Cz.mono h (a:= .one c) r
 | .agg cs,v,r=>Cz.mono h (a:= .agg cs) r
 | .AI _,_,⟨arr,e,r⟩=>⟨arr,e,r.mono fun _ _=>Cz.mono h⟩
theorem F7 (x:Cx):∀(t:T) (y:el t) (vs:List Value),rep x.w x.I t y vs↔AR (Ah x) (cells t y) vs
 | .u8,y,vs=>one x (.int .u8 y.toNat) _ vs fun _=>Iff.rfl
 | .u32,y,vs=>one x (.int .u32 y.toNat) _ vs fun _=>Iff.rfl
 | .u64,y,vs=>one x (.int .u64 y.toNat) _ vs fun _=>Iff.rfl
 | .i8,y,vs=>one x (.int .i8 y) _ vs fun _=>Iff.rfl
 | .i64,y,vs=>one x (.int .i64 y) _ vs fun _=>Iff.rfl
 | .bool,y,vs=>one x (.bool y) _ vs fun _=>Iff.rfl
 | .sl t,y,vs=>by
  match vs with
  | []=>exact⟨fun⟨_,_,e,_⟩=>by simp at e,fun h=>h.elim⟩
  | [v]=>exact⟨fun h=>⟨h,trivial⟩,fun h=>h.1⟩
  | _::_::_=>exact⟨fun⟨_,_,e,_⟩=>by simp at e,fun h=>h.2.elim⟩
 | .pr a b,y,vs=>by
  constructor
  ·rintro⟨v1,v2,rfl,d,f⟩
   exact ((F7 x a y.1 v1).1 d).append ((F7 x b y.2 v2).1 f)
  intro h;obtain⟨m1,m2,e,d,f⟩:=AR.OV h;exact⟨m1,m2,e,(F7 x a y.1 m1).2 d,(F7 x b y.2 m2).2 f⟩
where
 one (x:Cx) (c:AC) (u:Value) (vs:List Value) (h:∀v,Ah x c v↔v=u):vs=[u]↔AR (Ah x) [c] vs:=by
  match vs with
  | []=>exact⟨fun e=>by simp at e,fun h=>h.elim⟩
  | [v]=>exact⟨fun e=>⟨(h v).2 (by simpa using e),trivial⟩,fun g=>by rw[(h v).1 g.1]⟩
  | _::_::_=>exact⟨fun e=>by simp at e,fun h=>h.2.elim⟩
theorem B5.mono {x y:Cx} (h:x.le y) {id:Nat} {b:AK} (f:y.cv id=x.cv id) (hb:∀k,x.β id=some k->y.w.heap[k]? =x.w.heap[k]?) (r:B5 x id b):B5 y id b:=by
 cases b with
 | dead _=>trivial
 | var _ cs=>
  obtain⟨b,arr,e,c,d,h3⟩:=r;exact⟨b,arr,e,(h.β id f).trans c,(hb b c).trans d,h3.mono fun _ _=>Ah.mono h⟩
 | arr _ t l=>
  refine r.imp (fun q=>⟨(h.β id f).trans q.1,q.2⟩) fun⟨b,arr,e,c,d,h3⟩=>?_
  refine⟨b,arr,e,(h.β id f).trans c,(hb b c).trans d,fun i y' g=>?_⟩;obtain⟨us,hu,ha⟩:=h3 i y' g;exact⟨us,B3 h.I t y' us hu,rangeAt_of_block (hb b c) ha⟩
theorem Hf:∀(l:List AV) (d:Nat) (v:AV) (i:Nat),nth (Al l d v) i=if i=d/\d<l.length then v else nth l i
 |[],d,v,i|_::_,0,v,0|_::_,0,v,i+1|_::_,d+1,v,0=>by simp[Al,nth]
 | a::l,d+1,v,i+1=>by simp[Al,nth,Hf l d v i]
theorem FZ:∀(l:List (Option AK)) (d:Nat) (v:Option AK) (i:Nat),AF (Al l d v) i=if i=d/\d<l.length then v else AF l i
 |[],d,v,i|_::_,0,v,0|_::_,0,v,i+1|_::_,d+1,v,0=>by simp[Al,AF]
 | a::l,d+1,v,i+1=>by simp[Al,AF,FZ l d v i]
theorem Ek {α:Type}:∀(l:List α) (d:Nat) (v:α),(Al l d v).length=l.length
 |[],_,_|_::_,0,_=>rfl
 | _::l,d+1,v=>by simp[Al,Ek l d v]
theorem F3:∀(l:List (Option AK)) (i:Nat),l.length<=i->AF l i=none
 | [],_,_=>rfl
 | _::_,0,h=>by simp at h
 | _::l,i+1,h=>by simpa [AF] using F3 l i (by simpa using h)
theorem Ff {α:Type}:∀(l:List α) (d:Nat) (v:α),l.length<=d->Al l d v=l
 | [],_,_,_=>rfl
 | _::_,0,_,h=>by simp at h
 | a::l,d+1,v,h=>by simp[Al,Ff l d v (by simpa using h)]
def AK.live:AK->Bool
 | .dead _=>false
 | _=>true
def AK.short:AK->Prop
 | .arr _ _ l=>l.length<=140737488355328
 | _=>True
def live (bk:Nat->Option AK) (id:Nat):Prop:=∃b,bk id=some b/\b.live=true
structure WX where
 X:Nat->Prop
 A:Nat->Prop
 ob:Option Nat
def cx (X:WX) (w:World) (β:Nat->Option Nat) (bk:Nat->Option AK):Cx:=
 ⟨w,β,AO bk,fun b=>(b<w.heap.size/\∀id,live bk id->β id≠some b)/\X.A b⟩
structure Av (w0:World) (X:WX) (β:Nat->Option Nat) (s:St) (a:Act) (w:World):Prop where
 defers:a.defers=[]
 len:s.sl.length=a.tmps.size
 F2:s.bk.length=a.tmps.size
 Bf:∀i,BB (cx X w β (AF s.bk)) (nth s.sl i) (a.tmps.getD i undef)
 blocks:∀id b,AF s.bk id=some b->B5 (cx X w β (AF s.bk)) id b
 inj:∀id id' b,live (AF s.bk) id->live (AF s.bk) id'->β id=some b->β id'=some b->id=id'
 own:∀id b,live (AF s.bk) id->β id=some b->w0.heap.size<=b\/(X.X b/\id=0)
 os:w.os=w0.os
 tape:w.tape=w0.tape
 output:w.output=w0.output
 size:w0.heap.size<=w.heap.size
 block:∀b,b<w0.heap.size->¬X.X b->w.heap[b]? =w0.heap[b]?
 lens:∀id b,AF s.bk id=some b->b.short
 fresh:∀b,w0.heap.size<=b->X.A b
 IN:live (AF s.bk) 0->AO (AF s.bk) 0=0->β 0=X.ob/\∀(b:Nat) arr e,X.ob=some b->w0.heap[b]? =some (.cells arr e (0,0))->∃arr',w.heap[b]? =some (.cells arr' e (0,0))/\arr'.size=arr.size
section
variable {w0:World} {X:WX} {β:Nat->Option Nat} {s:St} {a:Act} {w:World}
theorem HD (x:Cx) (v:Value):BB x (.one .BJ) v:=Or.inl rfl
theorem Zp (a:Act) (d:Nat) (v:Value) (i:Nat):(a.put (some d) v).tmps.getD i undef=if i=d/\d<a.tmps.size then v else a.tmps.getD i undef:=by
 simp only[Act.put,Array.getD_eq_getD_getElem?,Array.getElem?_setIfInBounds]
 by_cases h:d=i
 ·subst h
  by_cases b:d<a.tmps.size <;> simp[b]
 simp[h,Ne.symm h]
theorem VK {x:Cx} {s:St} {a:Act} (hlen:s.sl.length=a.tmps.size) (h:∀i,BB x (nth s.sl i) (a.tmps.getD i undef)) (dst:Option Nat) (v:AV) (u:Value) (b:BB x v u):
  ∀i,BB x (nth (EX s.sl dst v) i) ((a.put dst u).tmps.getD i undef):=by
 intro i;cases dst with
 | none=>exact h i
 | some d=>
  rw[Zp];simp only[EX,Hf,hlen]
  split
  ·exact b
  exact h i
theorem S3 {s:St} {a:Act} (hlen:s.sl.length=a.tmps.size) (dst:Option Nat) (v:AV) (u:Value):(EX s.sl dst v).length=(a.put dst u).tmps.size:=by
 cases dst <;> simp[EX,Act.put,Ek,hlen]
theorem size_put (a:Act) (dst:Option Nat) (u:Value):(a.put dst u).tmps.size=a.tmps.size:=by cases dst <;> simp[Act.put]
theorem Rl (a:Act) (dst:Option Nat) (u:Value):(a.put dst u).defers=a.defers:=by cases dst <;> rfl
theorem Av.ext (S:Av w0 X β s a w) {w':World} {dst:Option Nat} {v:AV} {u:Value} {rd:List Nat} (hw:∀b,b<w.heap.size->w'.heap[b]? =w.heap[b]?) (d:w.heap.size<=w'.heap.size)
  (n:w'.os=w.os) (g:w'.tape=w.tape) (m:w'.output=w.output) (p:BB (cx X w' β (AF s.bk)) v u):Av w0 X β (s.app dst ⟨v,[],rd⟩) (a.put dst u) w':=by
 have c:∀b o,w.heap[b]? =some o->b<w.heap.size:=fun b o h=>by
  rcases Nat.lt_or_ge b w.heap.size with h' | h'
  ·exact h'
  simp[Array.getElem?_eq_none h'] at h
 have hle:(cx X w β (AF s.bk)).le (cx X w' β (AF s.bk)):=
  ⟨fun _=>Nat.le_refl _,fun _ _=>rfl,fun id b arr e _ _ x=>⟨arr,(hw b (c b _ x)).trans x,rfl⟩,fun b hb=>⟨⟨⟨Nat.lt_of_lt_of_le hb.1.1 d,hb.1.2⟩,hb.2⟩,hw b hb.1.1⟩⟩
 refine⟨(Rl _ _ _).trans S.defers,S3 S.len _ _ _,S.F2.trans (size_put _ _ _).symm,VK S.len (fun i=>BB.mono hle (S.Bf i)) dst v u p,fun id b hb=>?_,S.inj,S.own,
  n.trans S.os,g.trans S.tape,m.trans S.output,Nat.le_trans S.size d,fun b hb B=>(hw b (Nat.lt_of_lt_of_le hb S.size)).trans (S.block b hb B),S.lens,S.fresh,fun A p=>?_⟩
 case refine_2=>
  obtain⟨k,f⟩:=S.IN A p;refine⟨k,fun b arr e hb he=>?_⟩;obtain⟨j,h3,y⟩:=f b arr e hb he;exact⟨j,(hw b (c b _ h3)).trans h3,y⟩
 have r:=S.blocks id b hb;cases b with
 | dead _=>trivial
 | var _ cs=>
  obtain⟨b,arr,e,k,f,h3⟩:=r;exact⟨b,arr,e,k,(hw b (c b _ f)).trans f,h3.mono fun _ _=>Ah.mono hle⟩
 | arr _ t l=>
  refine r.imp (fun q=>q) fun⟨b,arr,e,k,f,h3⟩=>?_
  refine⟨b,arr,e,k,(hw b (c b _ f)).trans f,fun i y' z=>?_⟩;obtain⟨us,hu,ha⟩:=h3 i y' z;exact⟨us,B3 hle.I t y' us hu,rangeAt_of_block (hw b (c b _ f)) ha⟩
theorem Av.val (S:Av w0 X β s a w) {dst:Option Nat} {v:AV} {u:Value} {rd:List Nat} (b:BB (cx X w β (AF s.bk)) v u):Av w0 X β (s.app dst ⟨v,[],rd⟩) (a.put dst u) w:=
 S.ext (fun _ _=>rfl) (Nat.le_refl _) rfl rfl rfl b
theorem EC (l:List (Option AK)) (id:Nat) (b:AK) (c:id<l.length) (k:Nat):AO (AF (Al l id (some b))) k=if k=id then b.AO else AO (AF l) k:=by
 unfold AO;rw[FZ]
 by_cases h:k=id
 ·subst h;simp[c]
 simp[h]
theorem FW (l:List (Option AK)) (id:Nat) (b:AK) (c:id<l.length) (k:Nat):live (AF (Al l id (some b))) k↔if k=id then b.live=true else live (AF l) k:=by
 unfold live;rw[FZ]
 by_cases h:k=id
 ·subst h;simp[c]
 simp[h]
theorem Av.write (S:Av w0 X β s a w) {β':Nat->Option Nat} {w':World} {dst:Option Nat} {v:AV} {u:Value} {rd:List Nat} {id:Nat} {Az:AK} (m:id<s.bk.length) (R:Az.short)
  (q:∀k,k≠id->β' k=β k) (P:AO (AF s.bk) id<=Az.AO) (G:Az.AO=AO (AF s.bk) id->β' id=β id/\(Az.live=true->live (AF s.bk) id))
  (p:∀b,b<w.heap.size->(live (AF s.bk) id->β id≠some b)->w'.heap[b]? =w.heap[b]?) (F:w.heap.size<=w'.heap.size)
  (C:∀(b:Nat) arr e,w.heap[b]? =some (.cells arr e (0,0))->∃y,w'.heap[b]? =some (.cells y e (0,0))/\y.size=arr.size)
  (Q:w'.os=w.os) (K:w'.tape=w.tape) (O:w'.output=w.output)
  (j:Az.live=true->∀b,β' id=some b->(β id=some b/\live (AF s.bk) id)\/w.heap.size<=b)
  (Z:(cx X w β (AF s.bk)).le (cx X w' β' (AF (Al s.bk id (some Az))))->B5 (cx X w' β' (AF (Al s.bk id (some Az)))) id Az)
  (T:(cx X w β (AF s.bk)).le (cx X w' β' (AF (Al s.bk id (some Az))))->BB (cx X w' β' (AF (Al s.bk id (some Az)))) v u):
  Av w0 X β' (s.app dst ⟨v,[(id,Az)],rd⟩) (a.put dst u) w':=by
 have N:∀b o,w.heap[b]? =some o->b<w.heap.size:=fun b o h=>by
  rcases Nat.lt_or_ge b w.heap.size with h' | h'
  ·exact h'
  simp[Array.getElem?_eq_none h'] at h
 have z:∀k b,live (AF s.bk) k->β k=some b->b<w.heap.size:=fun k b ⟨I,x,B⟩ hb=>by
  have r:=S.blocks k I x;cases I with
  | dead _=>simp[AK.live] at B
  | var _ _=>obtain⟨b',arr,e,n,A,_⟩:=r;obtain rfl:b=b':=Option.some.inj (hb.symm.trans n);exact N b _ A
  | arr _ _ _=>
   rcases r with⟨n,_⟩ |⟨b',arr,e,n,A,_⟩
   ·exact absurd (hb.symm.trans n) (by simp)
   obtain rfl:b=b':=Option.some.inj (hb.symm.trans n);exact N b _ A
 have hle:(cx X w β (AF s.bk)).le (cx X w' β' (AF (Al s.bk id (some Az)))):=by
  refine⟨fun k=>?_,fun k x=>?_,fun k b arr e _ _ hh=>C b arr e hh,fun b hb=>⟨⟨⟨Nat.lt_of_lt_of_le hb.1.1 F,fun k x=>?_⟩,hb.2⟩,p b hb.1.1 (fun B=>hb.1.2 id B)⟩⟩
  ·show AO _ k<=AO _ k
   rw[EC _ _ _ m]
   split
   ·subst_vars;exact P
   exact Nat.le_refl _
  ·by_cases h:k=id
   ·subst h;have c:AO (AF (Al s.bk k (some Az))) k=AO (AF s.bk) k:=x;rw[EC _ _ _ m,if_pos rfl] at c;exact (G c).1
   exact q k h
  rw[FW _ _ _ m] at x
  by_cases h:k=id
  ·subst h;simp only[if_true] at x;intro e;rcases j x b e with⟨n,A⟩ | n
   ·exact hb.1.2 k A n
   have:=hb.1.1
   show False
   have a1:b<w.heap.size:=hb.1.1;omega
  simp only[h,if_false] at x
  show β' k≠some b
  rw[q k h];exact hb.1.2 k x
 refine⟨(Rl _ _ _).trans S.defers,S3 S.len _ _ _,?_,?_,fun k b x=>?_,fun k k' b x c hb g=>?_,fun k b x hb=>?_,Q.trans S.os,K.trans S.tape,O.trans S.output,Nat.le_trans S.size F,fun b hb U=>?_,fun k b x=>?_,S.fresh,fun B T=>?_⟩
 ·show (Al s.bk id (some Az)).length=_
  rw[Ek,size_put];exact S.F2
 ·exact VK S.len (fun i=>BB.mono hle (S.Bf i)) dst v u (T hle)
 ·have c:AF (Al s.bk id (some Az)) k=some b:=x;rw[FZ] at c
  by_cases h:k=id
  ·subst h;simp only[m,and_self,if_true,Option.some.injEq] at c;subst c;exact Z hle
  simp only[h,false_and,if_false] at c
  have M:(cx X w' β' (AF (Al s.bk id (some Az)))).cv k=(cx X w β (AF s.bk)).cv k:=by
   show AO _ k=AO _ k
   rw[EC _ _ _ m,if_neg h]
  have r:=S.blocks k b c;have V:(cx X w' β' (AF (Al s.bk id (some Az)))).β k=(cx X w β (AF s.bk)).β k:=q k h;cases b with
  | dead _=>trivial
  | var vv cs=>
   refine B5.mono hle M (fun b' g=>?_) r;have B:live (AF s.bk) k:=⟨_,c,rfl⟩;exact p b' (z k b' B g) fun J e=>h (S.inj k id b' B J g e)
  | arr vv t l=>
   refine B5.mono hle M (fun b' g=>?_) r;have B:live (AF s.bk) k:=⟨_,c,rfl⟩;exact p b' (z k b' B g) fun J e=>h (S.inj k id b' B J g e)
 ·have d:live (AF (Al s.bk id (some Az))) k:=x;have f:live (AF (Al s.bk id (some Az))) k':=c;rw[FW _ _ _ m] at d f
  by_cases h:k=id <;> by_cases h':k'=id
  ·rw[h,h']
  ·subst h;simp only[if_true,h',if_false] at d f;rw[q k' h'] at g;rcases j d b hb with⟨n,A⟩ | n
   ·exact S.inj k k' b A f n g
   have:=z k' b f g;omega
  ·subst h';simp only[if_true,h,if_false] at d f;rw[q k h] at hb;rcases j f b g with⟨n,A⟩ | n
   ·exact S.inj k k' b d A hb n
   have:=z k b d hb;omega
  simp only[h,h',if_false] at d f;rw[q k h] at hb;rw[q k' h'] at g;exact S.inj k k' b d f hb g
 ·have d:live (AF (Al s.bk id (some Az))) k:=x;rw[FW _ _ _ m] at d
  by_cases h:k=id
  ·subst h;simp only[if_true] at d;rcases j d b hb with⟨n,A⟩ | n
   ·exact S.own k b A n
   exact Or.inl (Nat.le_trans S.size n)
  simp only[h,if_false] at d;rw[q k h] at hb;exact S.own k b d hb
 ·rw[p b (Nat.lt_of_lt_of_le hb S.size) fun B e=>?_]
  ·exact S.block b hb U
  rcases S.own id b B e with h | h
  ·omega
  exact U h.1
 ·have c:AF (Al s.bk id (some Az)) k=some b:=x;rw[FZ] at c
  by_cases h:k=id
  ·subst h;simp only[m,and_self,if_true,Option.some.injEq] at c;subst c;exact R
  simp only[h,false_and,if_false] at c;exact S.lens k b c
 have D:live (AF (Al s.bk id (some Az))) 0:=B;have H:AO (AF (Al s.bk id (some Az))) 0=0:=T;rw[FW _ _ _ m] at D;rw[EC _ _ _ m] at H
 have key:live (AF s.bk) 0/\AO (AF s.bk) 0=0/\β' 0=β 0:=by
  by_cases h:0=id
  ·subst h;simp only[if_true] at D H;have W:AO (AF s.bk) 0=0:=by omega
   have:=G (by omega);exact⟨this.2 D,W,this.1⟩
  simp only[h,if_false] at D H;exact⟨D,H,q 0 h⟩
 obtain⟨n,A⟩:=S.IN key.1 key.2.1;refine⟨key.2.2.trans n,fun b arr e hb he=>?_⟩;obtain⟨y,h3,h4⟩:=A b arr e hb he;obtain⟨L,Y,h6⟩:=C b y e h3;exact⟨L,Y,by omega⟩
end
end Go.Abs
