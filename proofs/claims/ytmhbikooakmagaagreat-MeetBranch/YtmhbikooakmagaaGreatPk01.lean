/- Part 2 of a proof. Conditions: each theorem's own. -/
import Derived.WalkKit
import Derived.Deep.MidRow
import Derived.ArgAppend
set_option linter.all false
set_option maxHeartbeats 8000000
set_option maxRecDepth 20000
namespace Go.Abs
 inductive T
  | u8 | u32 | u64 | i8 | i64 | bool | sl (t:T) | pr (a b:T)
abbrev el:T->Type
 | .u8=>UInt8 | .u32=>UInt32 | .u64=>UInt64 | .i8=>Int | .i64=>Int | .bool=>Bool
 | .sl t=>List (el t) | .pr a b=>el a×el b
def T.size:T->Nat
 | .pr a b=>a.size+b.size
 | _=>1
def T.beq:T->T->Bool
 | .u8,.u8=>true | .u32,.u32=>true | .u64,.u64=>true | .i8,.i8=>true | .i64,.i64=>true | .bool,.bool=>true
 | .sl a,.sl b=>a.beq b
 | .pr a b,.pr c d=>a.beq c&&b.beq d
 | _,_=>false
def T.agg:T->Bool
 | .pr _ _=>true
 | _=>false
 inductive AC
  | Bz | int (k:IntKind) (n:Int) | bool (b:Bool) | fn (f:FuncId) | nil
  | sl (t:T) (l:List (el t))
  | AS (t:T) (id AR off len:Nat)
  | Df (t:T) (id AR off len:Nat)
  | Ag (id AR off:Nat)
  | DE (t:T) (id AR i k:Nat)
  | Dp (t:T) (x:el t) (off:Nat)
  | ub (e:Bool)
  | own (t:T) (l:List (el t)) (n:Nat)
 inductive AV
  | one (c:AC) | agg (cs:List AC) | AF (xs:List (Bool×List AC))
 inductive AM
  | var (AR:Nat) (cs:List AC)
  | arr (AR:Nat) (t:T) (l:List (el t))
  | dead (AR:Nat)
def AM.AR:AM->Nat
 | .var v _=>v | .arr v _ _=>v | .dead v=>v
def cells:(t:T)->el t->List AC
 | .u8,x=>[.int .u8 x.toNat]
 | .u32,x=>[.int .u32 x.toNat]
 | .u64,x=>[.int .u64 x.toNat]
 | .i8,x=>[.int .i8 x]
 | .i64,x=>[.int .i64 x]
 | .bool,x=>[.bool x]
 | .sl t,l=>[.sl t l]
 | .pr a b,x=>cells a x.1++cells b x.2
structure DM (n:Int) (k:Nat):Prop where
 eq:n=k
 le:k<=140737488355328
structure AW (n:Int) (k:Nat):Prop where
 eq:n=k
structure Ps (n:Int) (x:UInt8):Prop where
 eq:n=x.toNat
structure L0 (n:Int) (x:UInt32):Prop where
 eq:n=x.toNat
structure ck (n:Int) (x:UInt64):Prop where
 eq:n=x.toNat
def Kj:(t:T)->el t->(List AC->Prop)->Prop
 | .u8,x,K=>∀n,Ps n x->K [.int .u8 n]
 | .u32,x,K=>∀n,L0 n x->K [.int .u32 n]
 | .u64,x,K=>∀n,ck n x->K [.int .u64 n]
 | .i8,x,K=>K [.int .i8 x]
 | .i64,x,K=>K [.int .i64 x]
 | .bool,x,K=>K [.bool x]
 | .sl t,l,K=>K [.sl t l]
 | .pr a b,x,K=>Kj a x.1 fun l=>Kj b x.2 fun m=>K (l++m)
theorem MK:∀(t:T) (x:el t) (K:List AC->Prop),Kj t x K↔K (cells t x)
 |.u8,x,K|.u32,x,K|.u64,x,K=>⟨fun h=>h _ ⟨rfl⟩,fun h n c=>by rw[c.eq];exact h⟩
 |.i8,_,_|.i64,_,_|.bool,_,_|.sl _,_,_=>Iff.rfl
 | .pr a b,x,K=>by
  show Kj a x.1 _↔_
  rw[MK a x.1,MK b x.2]
  rfl
def Dh:Bool×List AC->AV
 | (true,cs)=> .agg cs
 | (false,c::_)=> .one c
 | (false,[])=> .one .Bz
def AV.cs:AV->List AC
 | .one c=>[c]
 | .agg cs=>cs
 | .AF _=>[]
def AV.full:AV->Bool
 | .one .Bz=>false
 |.one _|.agg _=>true
 | .AF _=>false
def AV.comp:AV->Bool×List AC
 | .one c=>(false,[c])
 | .agg cs=>(true,cs)
 | .AF _=>(false,[])
def comp (t:T) (x:el t):Bool×List AC:=(t.agg,cells t x)
def VP (t:T) (x:el t):AV:=Dh (comp t x)
structure St where
 sl:List AV
 bk:List (Option AM)
def nth:List AV->Nat->AV
 | [],_=> .one .Bz
 | a::_,0=>a
 | _::l,n+1=>nth l n
def AH:List (Option AM)->Nat->Option AM
 | [],_=>none
 | a::_,0=>a
 | _::l,n+1=>AH l n
def BY {α:Type}:List α->Nat->α->List α
 | [],_,_=>[]
 | _::l,0,x=>x::l
 | a::l,n+1,x=>a::BY l n x
def AR (bk:Nat->Option AM) (id:Nat):Nat:=
 match bk id with
 | some b=>b.AR
 | none=>0
structure Info where
 known:Bool:=true
 size:Nat:=1
 agg:Bool:=false
 zero:List AC:=[]
 kind:Option IntKind:=none
 Ob:Bool:=false
 sl:Bool:=false
 DR:TypeId:=0
 elem:T:= .bool
 CT:el elem
 GO:Nat:=0
 fields:List (Nat×Nat×Bool):=[]
def Qr:Value->AV
 | .int k n=> .one (.int k n)
 | .bool b=> .one (.bool b)
 | .slice none 0 0=> .one .nil
 | _=> .one .Bz
def ev (s:List AV):Operand->AV
 | .tmp t=>nth s t
 | .const v=>Qr v
 | .func f=> .one (.fn f)
 | .global _=> .one .Bz
structure B3 where
 v:AV
 ws:List (Nat×AM):=[]
 rd:List Nat:=[]
def Ip (n:Int):Prop:= -9223372036854775808<=n/\n<9223372036854775808
def fits (n b:Nat):Prop:=n*b<=140737488355328
def arith (op:BinOp) (k:IntKind) (a b:Int) (K:AC->Prop):Prop:=
 match op,k with
 | .add,.i64=>∀c,c=a+b->(Unit->Ip c)/\K (.int .i64 c)
 | .sub,.i64=>∀c,c=a-b->(Unit->Ip c)/\K (.int .i64 c)
 | .mul,.i64=>∀c,c=a*b->(Unit->Ip c)/\K (.int .i64 c)
 | .quo,.i64=>∀c,c=a/b->(Unit->0<=a/\0<b/\Ip c)/\K (.int .i64 c)
 | .rem,.i64=>∀c,c=a%b->(Unit->0<=a/\0<b)/\K (.int .i64 c)
 | .add,k=>∀c,c=k.wrap (a+b)->K (.int k c)
 | .sub,k=>∀c,c=k.wrap (a-b)->K (.int k c)
 | .mul,k=>∀c,c=k.wrap (a*b)->K (.int k c)
 | .quo,k=>∀c,c=k.wrap (a/b)->(Unit->0<=a/\0<b)/\K (.int k c)
 | .rem,k=>∀c,c=a%b->(Unit->0<=a/\0<b)/\K (.int k c)
 | .and,k=>∀c,c=k.wrap (BitVec.ofInt k.bits a &&& BitVec.ofInt k.bits b).toNat->K (.int k c)
 | .or,k=>∀c,c=k.wrap (BitVec.ofInt k.bits a ||| BitVec.ofInt k.bits b).toNat->K (.int k c)
 | .xor,k=>∀c,c=k.wrap (BitVec.ofInt k.bits a ^^^ BitVec.ofInt k.bits b).toNat->K (.int k c)
 | .andNot,k=>∀c,c=k.wrap (BitVec.ofInt k.bits a &&& ~~~ BitVec.ofInt k.bits b).toNat->K (.int k c)
 | .shl,k=>∀c,c=k.wrap (a*2^min b.toNat k.bits)->(Unit->0<=b)/\K (.int k c)
 | .shr,k=>∀c,c=a.fdiv (2^min b.toNat k.bits)->(Unit->0<=b)/\K (.int k c)
 | .eql,_=>∀c,c=(a==b)->K (.bool c)
 | .neq,_=>∀c,c=(a !=b)->K (.bool c)
 | .lss,_=>∀c,c=decide (a<b)->K (.bool c)
 | .leq,_=>∀c,c=decide (a<=b)->K (.bool c)
 | .gtr,_=>∀c,c=decide (a>b)->K (.bool c)
 | .geq,_=>∀c,c=decide (a >= b)->K (.bool c)
def GV (cs:List AC):Nat->Nat->List AC
 | 0,n=>cs.take n
 | off+1,n=>match cs with
  | []=>[]
  | _::cs=>GV cs off n
def Dj {α:Type}:List α->Nat->List α->List α
 | cs,0,[]=>cs
 | [],0,_::_=>[]
 | _::cs,0,x::xs=>x::Dj cs 0 xs
 | [],_+1,_=>[]
 | c::cs,off+1,xs=>c::Dj cs off xs
def ld (i:Info) (cs:List AC) (off:Nat):AV:=Dh (i.agg,GV cs off i.size)
def Fh (bk:Nat->Option AM):AC->AC->Prop
 | .AS t id v off len,c=>∃l,bk id=some (.arr v t l)/\off+len<=l.length/\c= .sl t ((l.drop off).take len)
 | .nil,c=>c= .nil\/∃t,c= .sl t []
 | .int k n,c=>c= .int k n
 | .bool b,c=>c= .bool b
 | .fn f,c=>c= .fn f
 | .sl t l,c=>c= .sl t l
 | _,_=>False
def Bm:AC->AC->Prop
 | .nil,c=>c= .nil\/∃t,c= .sl t []
 | .int k n,c=>c= .int k n
 | .bool b,c=>c= .bool b
 | .fn f,c=>c= .fn f
 | .sl t l,c=>c= .sl t l
 | _,_=>False
def BV (R:AC->AC->Prop):List AC->List AC->Prop
 | [],[]=>True
 | a::l,b::m=>R a b/\BV R l m
 | _,_=>False
def leV (R:AC->AC->Prop):AV->AV->Prop
 | .one a,.one b=>R a b
 | .agg l,.agg m=>BV R l m
 | _,_=>False
def GK (R:AC->AC->Prop):List AV->List AV->Prop
 | [],[]=>True
 | a::l,b::m=>leV R a b/\GK R l m
 | _,_=>False
def Ci:AC->List Nat
 | .AS _ id _ _ _=>[id]
 | _=>[]
def Cb:List AV->List Nat
 | []=>[]
 | .one c::r=>Ci c++Cb r
 | .agg cs::r=>cs.flatMap Ci++Cb r
 | .AF _::r=>Cb r
def GQ (d v:Nat):AC->AC
 | .own t _ n=> .AS t d v 0 n
 | c=>c
def JO (d v:Nat):AV->AV
 | .one c=> .one (GQ d v c)
 | .agg cs=> .agg (cs.map (GQ d v))
 | .AF xs=> .AF (xs.map fun x=>(x.1,x.2.map (GQ d v)))
def Du (d v:Nat):List AC->List (Nat×AM)
 | []=>[]
 | .own t l _::_=>[(d,.arr v t l)]
 | _::r=>Du d v r
def Iw (d v:Nat):AV->List (Nat×AM)
 | .one c=>Du d v [c]
 | .agg cs=>Du d v cs
 | .AF xs=>Du d v (xs.flatMap (·.2))
abbrev Con:=Bool->FuncId->List AV->AV->Prop
abbrev bO:=FuncId->AC->AM->List AV->AV->AM->Prop
abbrev bP:=FuncId->List AV->AM->AV->Prop
structure Env where
 C:Con
 B:bO
 D:bP
def JS (id v:Nat):AC->AC->Prop
 | .AS t i w off len,c=>(i=id/\w=v)/\c= .AS t 0 0 off len
 | .Ag i w off,c=>(i=id/\w=v)/\c= .Ag 0 0 off
 | .nil,c=>c= .nil\/∃t,c= .sl t []
 | .int k n,c=>c= .int k n
 | .bool b,c=>c= .bool b
 | .fn f,c=>c= .fn f
 | .sl t l,c=>c= .sl t l
 | _,_=>False
def IB (places:List (Nat×Nat×Bool)) (e:Operand->AV):List (Nat×Operand)->List AC->Option (List AC)
 | [],cs=>some cs
 | (i,x)::r,cs=>match places[i]? with
  | some (off,n,_)=>if (e x).cs.length=n/\(e x).full=true/\off+n<=cs.length then IB places e r (Dj cs off (e x).cs) else none
  | none=>none
def Iz (id v:Nat):AC->AC
 | .AS t _ _ off len=> .AS t id v off len
 | .Ag _ _ off=> .Ag id v off
 | .DE t _ _ i k=> .DE t id v i k
 | c=>c
def ZG (id v:Nat):AV->AV
 | .one c=> .one (Iz id v c)
 | .agg cs=> .agg (cs.map (Iz id v))
 | .AF xs=> .AF (xs.map fun x=>(x.1,x.2.map (Iz id v)))
def AM.ES (v:Nat):AM->AM
 | .var _ cs=> .var v cs
 | .arr _ t l=> .arr v t l
 | .dead _=> .dead v
def PE:AC->Option (Nat×Nat)
 |.AS _ id v _ _|.Ag id v _=>some (id,v)
 | _=>none
def T.flat:T->Bool
 | .sl _=>false
 | .pr a b=>a.flat&&b.flat
 | _=>true
def OS:AM->Bool
 | .arr _ t _=>t.flat
 | _=>false
def CI:AC->Bool
 |.int _ _|.bool _|.fn _|.nil|.AS _ 0 0 _ _=>true
 | _=>false
def AV.all (p:AC->Bool):AV->Bool
 | .one c=>p c
 | .agg cs=>cs.all p
 | .AF xs=>xs.all fun x=>x.2.all p
def BZ:AC->Bool
 | .Bz=>true | .int _ _=>true | .bool _=>true | .fn _=>true | .nil=>true | .sl _ _=>true
 | _=>false
def Jz (E:Env) (g:FuncId) (args:List AV) (d:Nat) (bk:Nat->Option AM) (K:B3->Prop):Prop:=
 (∃args' r,(Unit->GK Bm args args')/\(Unit->E.C false g args' r)/\
  K ⟨JO d (AR bk d+1) r,Iw d (AR bk d+1) r,[d]⟩)\/
 (∃args' r,(Unit->GK (Fh bk) args args')/\(Unit->E.C true g args' r)/\
  K ⟨JO d (AR bk d+1) r,Iw d (AR bk d+1) r,d::Cb args⟩)\/
 (match args with
  | .one c::rest=>match PE c with
   | some (id,v)=>match bk id with
    | some b=>if b.AR=v then ∃args' r b1,(Unit->id ∉ Cb rest/\GK (Fh bk) rest args')/\(Unit->E.B g (Iz 0 0 c) (b.ES 0) args' r b1/\OS b1=true/\r.all CI=true)/\
     K ⟨ZG id v r,[(id,b1.ES v)],id::Cb rest⟩ else False
    | none=>False
   | none=>False
  | _=>False)\/
 (∃(id:Nat) (b:AM) (args':List AV) (r:AV),(Unit->bk id=some b/\GK (JS id b.AR) args args')/\(Unit->E.D g args' (b.ES 0) r)/\K ⟨r,[],[id]⟩)\/
 (∃(id:Nat) (b:AM) (args':List AV) (r:AV),(Unit->(id≠0/\bk id=some b/\((Cb args).all fun k=>k==id)=true)/\GK (Fh bk) args args')/\(Unit->E.C false g args' r/\r.all BZ=true)/\K ⟨r,[(id,.dead b.AR)],[id]⟩)
def Fo (TI:TypeId->Info) (b:Builtin) (tys:List TypeId) (args:List AV) (d:Nat) (bk:Nat->Option AM) (K:B3->Prop):Prop:=
 match b,tys,args with
 | .len,[t0],[.one (.sl _ l)]=>(TI t0).sl=true/\∀n,DM n l.length->K ⟨.one (.int .i64 n),[],[]⟩
 |.len,[t0],[.one (.Df _ id v _ len)]|.len,[t0],[.one (.AS _ id v _ len)]=>(TI t0).sl=true/\if AR bk id=v then ∀n,AW n len->K ⟨.one (.int .i64 n),[],[id]⟩ else False
 |.len,[t0],[.one .nil]|.cap,[t0],[.one .nil]=>(TI t0).sl=true/\K ⟨.one (.int .i64 0),[],[]⟩
 | .min,_,[.one (.int k a),.one (.int _ b)]=>∀c,c=(if b<a then b else a)->K ⟨.one (.int k c),[],[]⟩
 | .append,[t0,t1],[.one .nil,.one x]=>
  ((TI t0).sl=true/\(TI t1).sl=true)/\∃l2:List (el (TI t0).elem),(Unit->Fh bk x (.sl _ l2)/\fits l2.length (TI t0).GO)/\
    ∀n,n=l2.length->K ⟨.one (.AS (TI t0).elem d (AR bk d+1) 0 n),[(d,.arr (AR bk d+1) _ l2)],d::Ci x⟩
 | .append,[t0,t1],[.one (.Df t id v off len),.one x]=>
  ((TI t0).sl=true/\(TI t1).sl=true)/\match bk id with
    | some (.arr v' t' l)=>if v'=v/\T.beq t' t=true/\T.beq t' (TI t0).elem=true then
     ∃l2:List (el t'),(Unit->off=0/\len<=l.length/\Fh bk x (.sl _ l2)/\fits (len+l2.length) (TI t0).GO)/\
      ∀l' n,(l'=l.take len++l2/\n=l'.length)->K ⟨.one (.AS t' id (v+1) 0 n),[(id,.arr (v+1) t' l')],id::Ci x⟩
     else False
    | _=>False
 | .append,[t0,t1],[.one (.AS t id v off len),.one x]=>
  ((TI t0).sl=true/\(TI t1).sl=true)/\match bk id with
    | some (.arr v' t' l)=>if v'=v/\T.beq t' t=true/\T.beq t' (TI t0).elem=true then
     ∃l2:List (el t'),(Unit->off=0/\len=l.length/\Fh bk x (.sl _ l2)/\fits (l.length+l2.length) (TI t0).GO)/\
      ∀l' n,(l'=l++l2/\n=l'.length)->K ⟨.one (.AS t' id (v+1) 0 n),[(id,.arr (v+1) t' l')],id::Ci x⟩
     else False
    | _=>False
 | _,_,_=>False
def LY (K:B3->Prop) (f:B3):Prop:=
 match f.v,f.ws with
 | .one (.AS t id v off n),[(i,.arr v' t' l)]=>if (id !=0&&id==i&&v==v'&&off==0&&T.beq t t')=true then (Unit->n=l.length)/\K ⟨.one (.sl t' l),[(id,.dead v)],f.rd⟩ else False
 | _,_=>False
def QB (TI:TypeId->Info) (b:Builtin) (tys:List TypeId) (args:List AV) (d:Nat) (bk:Nat->Option AM) (K:B3->Prop):Prop:=
 match b with
 | .append=>Fo TI b tys args d bk K\/Fo TI b tys args d bk (LY K)
 | _=>Fo TI b tys args d bk K
def QH:List (Nat×List AC)->Nat->List (List AC)->Prop
 | [],_,[]=>True
 | p::r,k,x::m=>p.1=k/\BV Bm p.2 x/\QH r (k+1) m
 | _,_,_=>False
def JF (len:Nat) (lo hi mx:Option AV) (K:Nat->Nat->Bool->Prop):Prop:=
 match lo,hi,mx with
 | none,none,none=>∀h,h=len->K 0 h false
 | some (.one (.int _ a)),none,none=>(Unit->0<=a/\a.toNat<=len)/\∀l h,(l=a.toNat/\h=len)->K l h false
 | none,some (.one (.int _ b)),none=>(Unit->0<=b/\b.toNat<=len)/\∀h,h=b.toNat->K 0 h false
 | some (.one (.int _ a)),some (.one (.int _ b)),none=>(Unit->0<=a/\a<=b/\b.toNat<=len)/\∀l h,(l=a.toNat/\h=b.toNat)->K l h false
 | none,some (.one (.int _ b)),some (.one (.int _ m))=>(Unit->0<=b/\b=m/\m.toNat<=len)/\∀h,h=b.toNat->K 0 h true
 | _,_,_=>False
def JE (bk:Nat->Option AM) (u:T) (x:AV) (lo hi mx:Option AV) (K:B3->Prop):Prop:=
 match x with
 | .one (.sl t l)=>T.beq t u=true/\∀n,n=l.length->JF n lo hi mx fun a b _=>∀l',l'=(l.take b).drop a->K ⟨.one (.sl t l'),[],[]⟩
 | .one (.AS t id v off len)=>T.beq t u=true/\if AR bk id=v then JF len lo hi mx fun a b c=>∀o n,(o=off+a/\n=b-a)->
  match c with | true=>K ⟨.one (.Df t id v o n),[],[id]⟩ | false=>K ⟨.one (.AS t id v o n),[],[id]⟩
  else False
 | .one .nil=>JF 0 lo hi mx fun _ _ _=>K ⟨.one .nil,[],[]⟩
 | _=>False
def Ca (E:Env) (TI:TypeId->Info) (o:Oper) (d:Nat) (e:Operand->AV) (bk:Nat->Option AM) (K:B3->Prop):Prop:=
 match o.op with
 |.move x|.assign x=>K ⟨e x,[],[]⟩
 | .nilCheck x=>match e x with
  | .one (.Ag id v off)=>if AR bk id=v then K ⟨e x,[],[id]⟩ else False
  | .one (.fn _)=>K ⟨e x,[],[]⟩
  | _=>False
 | .pick c a b=>match e c with
  | .one (.bool true)=>K ⟨e a,[],[]⟩
  | .one (.bool false)=>K ⟨e b,[],[]⟩
  | _=>False
 | .alloc t=>(TI t).known=true/\K ⟨.one (.Ag d (AR bk d+1) 0),[(d,.var (AR bk d+1) (TI t).zero)],[d]⟩
 | .box _ x=>match e x with
  |.AF _|.one .Bz=>False
  | v=>K ⟨.one (.Ag d (AR bk d+1) 0),[(d,.var (AR bk d+1) v.cs)],[d]⟩
 | .extract t i=>match e t with
  | .AF xs=>match xs[i]? with
   | some x=>K ⟨Dh x,[],[]⟩
   | none=>False
  | _=>False
 | .load t a=>(TI t).known=true/\match e a with
  | .one (.Ag id v off)=>match bk id with
   | some (.var v' cs)=>if v'=v/\(GV cs off (TI t).size).length=(TI t).size then K ⟨ld (TI t) cs off,[],[id]⟩ else False
   | _=>False
  | .one (.Dp t' x off)=>Kj t' x fun cs=>if (GV cs off (TI t).size).length=(TI t).size then K ⟨ld (TI t) cs off,[],[]⟩ else False
  | .one (.DE t' id v i k)=>match bk id with
   | some (.arr v' u l)=>if v'=v/\T.beq t' u=true then ∃x:el u,(Unit->l[i]? =some x)/\Kj u x fun cs=>
    if (GV cs k (TI t).size).length=(TI t).size then K ⟨ld (TI t) cs k,[],[id]⟩ else False
    else False
   | _=>False
  | _=>False
 | .store t a x=>(TI t).known=true/\match e a with
  | .one (.Ag id v off)=>match bk id,e x with
   |_,.AF _|_,.one .Bz=>False
   | some (.var v' cs),y=>if v'=v/\y.cs.length=(TI t).size/\off+(TI t).size<=cs.length then
    K ⟨.one .Bz,[(id,.var v (Dj cs off y.cs))],[id]⟩ else False
   | _,_=>False
  | .one (.DE t' id v i k)=>match bk id,e x with
   |_,.AF _|_,.one .Bz=>False
   | some (.arr v' u l),y=>if v'=v/\k=0/\(TI t).size=u.size/\T.beq t' u=true then
    ∃z:el u,(Unit->i<l.length/\BV Bm y.cs (cells u z))/\∀l',l'=l.set i z->K ⟨.one .Bz,[(id,.arr v u l')],[id]⟩
    else False
   | _,_=>False
  | _=>False
 | .fieldAddr s x f=>(TI s).known=true/\match (TI s).fields[f]?,e x with
  | some (fo,_,_),.one (.Ag id v off)=>if AR bk id=v then K ⟨.one (.Ag id v (off+fo)),[],[id]⟩ else False
  | some (fo,_,_),.one (.Dp t y off)=>K ⟨.one (.Dp t y (off+fo)),[],[]⟩
  | some (fo,_,_),.one (.DE t id v i k)=>if AR bk id=v then K ⟨.one (.DE t id v i (k+fo)),[],[id]⟩ else False
  | _,_=>False
 | .field s x f=>(TI s).known=true/\match (TI s).fields[f]?,e x with
  | some (fo,n,g),.agg cs=>if (GV cs fo n).length=n then K ⟨Dh (g,GV cs fo n),[],[]⟩ else False
  | _,_=>False
 | .build t parts=>((TI t).known=true/\(TI t).fields.isEmpty=false)/\match IB (TI t).fields e parts.toList (TI t).zero with
  | some cs=>K ⟨.agg cs,[],[]⟩
  | none=>False
 | .buildSlice t len parts=>(TI t).sl=true/\(TI t).elem.size<=32/\∃xs:List (el (TI t).elem),
  (Unit->xs.length=len/\len<=524288/\(parts.toList.all fun p=>(e p.2).full)=true/\QH (parts.toList.map fun p=>(p.1,(e p.2).cs)) 0 (xs.map (cells _)))/\
  (K ⟨.one (.AS (TI t).elem d (AR bk d+1) 0 len),[(d,.arr (AR bk d+1) _ xs)],[d]⟩\/K ⟨.one (.sl (TI t).elem xs),[],[]⟩)
 | .makeSlice t l c=>(TI t).sl=true/\match e l,e c with
  | .one (.int _ n),.one (.int _ m)=>(Unit->0<=n/\n<=m/\fits m.toNat (TI t).GO)/\
   ∀k z,(k=n.toNat/\z=List.replicate k (TI t).CT)->K ⟨.one (.AS (TI t).elem d (AR bk d+1) 0 k),[(d,.arr (AR bk d+1) _ z)],[d]⟩
  | _,_=>False
 | .indexAddr t x i=>(TI t).sl=true/\match e x,e i with
  | .one (.sl t' l),.one (.int _ n)=>T.beq t' (TI t).elem=true/\∃x,(Unit->0<=n/\l[n.toNat]? =some x)/\K ⟨.one (.Dp t' x 0),[],[]⟩
  | .one (.AS t' id v off len),.one (.int _ n)=>T.beq t' (TI t).elem=true/\if AR bk id=v then (Unit->0<=n/\n.toNat<len)/\∀j,j=off+n.toNat->K ⟨.one (.DE t' id v j 0),[],[id]⟩ else False
  | _,_=>False
 | .slice t x lo hi mx=>(TI t).sl=true/\JE bk (TI t).elem (e x) (lo.map e) (hi.map e) (mx.map e) K
 | .binOp op bt x y _=>match e x,e y with
  | .one (.int k a),.one (.int k' b)=>if k=k'\/op= .shl\/op= .shr then arith op k a b fun c=>K ⟨.one c,[],[]⟩ else False
  | .one (.bool a),.one (.bool b)=>(TI bt).Ob=true/\match op with
   | .eql=>∀c,c=(a==b)->K ⟨.one (.bool c),[],[]⟩
   | .neq=>∀c,c=(a !=b)->K ⟨.one (.bool c),[],[]⟩
   | _=>False
  | .one (.sl _ l),.one .nil=>(TI bt).sl=true/\match op with
   | .eql=>∀c,c=l.isEmpty->K ⟨.one (.ub c),[],[]⟩
   | _=>False
  | _,_=>False
 | .unOp op _ x=>match op,e x with
  | .not,.one (.bool b)=>∀c,c= !b->K ⟨.one (.bool c),[],[]⟩
  | .neg,.one (.int k n)=>∀c,c=k.wrap (0-n)->K ⟨.one (.int k c),[],[]⟩
  | _,_=>False
 | .convert src dst x=>(TI src).known=true/\match (TI dst).kind,e x with
  | some k,.one (.int _ n)=>∀c,c=k.wrap n->K ⟨.one (.int k c),[],[]⟩
  | _,_=>False
 | .call c=>match c.callee with
  | .builtin b=>QB TI b c.argTypes.toList (c.args.toList.map e) d bk K
  | .value f=>match e f with
   | .one (.fn g)=>Jz E g (c.args.toList.map e) d bk K
   | _=>False
  | .invoke _ _=>False
 | _=>False
def DB:List (Nat×AM)->List (Option AM)->List (Option AM)
 | [],b=>b
 | w::r,b=>DB r (BY b w.1 (some w.2))
def GS (l:List AV):Option Nat->AV->List AV
 | some d,v=>BY l d v
 | none,_=>l
def St.app (s:St) (d:Option Nat) (f:B3):St:=⟨GS s.sl d f.v,DB f.ws s.bk⟩
def Bv (o:Oper):Nat:=o.dst.getD 1000000
abbrev Tr:=List (List Nat×List Nat)
def OY (ops:List Oper) (j:Nat):Option Nat:=(ops[j]?).bind (·.dst)
def Yk (o:Oper):List Nat:=o.op.operands.toList.filterMap fun | .tmp t=>some t | _=>none
def IM (ops:List Oper) (o:Oper):List Nat:=
 o.dst.toList++Yk o++(match o.guard with | some (j,_)=>(OY ops j).toList | none=>[])
def FW (o:Oper):List Nat:=(o.after.toList.filter fun e=>Region.binds .any e).map (·.on)
def GM:List Oper->List (List Nat)->List (List Nat)
 | [],acc=>acc
 | o::r,acc=>GM r (acc++[(FW o).flatMap fun j=>j::acc.getD j []])
def MO (a b:List Nat):Bool:=a.all fun x=> !b.contains x
def L8 (ops:List Oper) (oi oj:Oper) (ti tj:List Nat×List Nat):Bool:=
 MO oi.dst.toList (IM ops oj)&&MO oj.dst.toList (IM ops oi)&&
 MO ti.2 (tj.1++tj.2)&&MO tj.2 ti.1
def YW (ops:List Oper) (tr:Tr) (bs:List (List Nat)):Bool:=
 (List.range ops.length).all fun j=>(List.range j).all fun i=>
  (bs.getD j []).contains i||
   (match ops[i]?,ops[j]?,tr[i]?,tr[j]? with
    | some oi,some oj,some ti,some tj=>L8 ops oi oj ti tj
    | _,_,_,_=>false)
def VR (ops:List Oper):Bool:=
 (List.range ops.length).all fun j=>match ops[j]? with | some o=>(FW o).all fun i=>decide (i<j) | none=>true
def Ja (ops:List Oper) (tr:Tr):Bool:=VR ops&&YW ops tr (GM ops [])
def Ht (E:Env) (TI:TypeId->Info) (all:List Oper) (draw:Bool):List Oper->Tr->(St->Prop)->St->Prop
 | [],tr,Q,s=>match draw with
  | false=>Q s
  | true=>(Unit->Ja all tr.reverse=true)/\Q s
 | o::r,tr,Q,s=>match o.guard with
  | none=>Ca E TI o (Bv o) (ev s.sl) (AH s.bk) fun f=>Ht E TI all draw r ((f.rd,f.ws.map (·.1))::tr) Q (s.app o.dst f)
  | some (j,w)=>match OY all j with
   | none=>False
   | some g=>match nth s.sl g,w with
    |.one (.bool true),true|.one (.bool false),false=>Ca E TI o (Bv o) (ev s.sl) (AH s.bk) fun f=>Ht E TI all draw r ((f.rd,f.ws.map (·.1))::tr) Q (s.app o.dst f)
    |.one (.bool true),false|.one (.bool false),true|.AF [],_=>Ht E TI all draw r (([],[])::tr) Q (s.app o.dst ⟨.AF [],[],[]⟩)
    | _,_=>False
 inductive AX
  | DG | exit (n:Nat) | ret
def JX (bk:Nat->Option AM) (bs:List Nat):AC->AC
 | .AS t id v off len=>if bs.contains id&&AR bk id==v then .AS t id 0 off len else .Bz
 | .Ag id v off=>if bs.contains id&&AR bk id==v then .Ag id 0 off else .Bz
 | .DE t id v i k=>if bs.contains id&&AR bk id==v then .DE t id 0 i k else .Bz
 | .Df _ _ _ _ _=> .Bz
 | c=>c
def Rv (bk:Nat->Option AM) (bs:List Nat):AV->AV
 | .one c=> .one (JX bk bs c)
 | .agg cs=> .agg (cs.map (JX bk bs))
 | .AF _=> .one .Bz
def Ms (bk:Nat->Option AM) (bs:List Nat):AM->AM
 | .var _ cs=> .var 0 (cs.map (JX bk bs))
 | .arr _ t l=> .arr 0 t l
 | .dead _=> .dead 0
def EL (s:St) (bs:List Nat):List Nat->List AV
 | []=>[]
 | k::r=>Rv (AH s.bk) bs (nth s.sl k)::EL s bs r
def D4 (s:St) (bs:List Nat):List Nat->List AM
 | []=>[]
 | k::r=>(match AH s.bk k with | some b=>if k==0&&b.AR !=0 then .dead 0 else Ms (AH s.bk) bs b | none=> .dead 0)::D4 s bs r
def Gg:List Nat->List AV->List AV->List AV
 | k::ks,v::vs,l=>Gg ks vs (BY l k v)
 | _,_,l=>l
def Hq:List Nat->List AM->List (Option AM)->List (Option AM)
 | k::ks,v::vs,l=>Hq ks vs (BY l k (some v))
 | _,_,l=>l
def Hs {α:Type}:Nat->α->List α
 | 0,_=>[]
 | n+1,x=>x::Hs n x
def Hm (n:Nat) (ks:List Nat) (vs:List AV) (bs:List Nat) (bl:List AM):St:=
 ⟨Gg ks vs (Hs n (.one .Bz)),Hq bs bl (Hs n none)⟩
def Kp (s:St):List (Nat×T×Bool)->St
 | []=>s
 | (k,t,b)::r=>Kp (match nth s.sl k,b with
  | .one .nil,false=>⟨BY s.sl k (.one (.sl t [])),s.bk⟩
  | .one .nil,true=>⟨BY s.sl k (.one (.AS t k (AR (AH s.bk) k+1) 0 0)),BY s.bk k (some (.arr (AR (AH s.bk) k+1) t []))⟩
  | _,_=>s) r
def Kt:Code->Bool
 |.skip|.region _ _ _=>true
 | .seq a b=>Kt a&&Kt b
 | .cond _ a b=>Kt a||Kt b
 |.block _ _|.loop _=>true
 | _=>false
def DD (E:Env) (TI:TypeId->Info) (n:Nat):Code->(AX->St->Prop)->St->Prop
 | .skip,Q,s=>Q .DG s
 | .region _ ops draw,Q,s=>Ht E TI ops.toList draw ops.toList [] (Q .DG) s
 | .seq a b,Q,s=>DD E TI n a (fun e s=>match e with | .DG=>DD E TI n b Q s | .exit i=>Q (.exit i) s | .ret=>Q .ret s) s
 | .cond c a b,Q,s=>match Kt a&&Kt b with
  | true=>(∃(ks bs:List Nat) (J:List AV->List AM->Prop),(∀vs bl,J vs bl->Q .DG (Hm n ks vs bs bl))/\
    match ev s.sl c with
    | .one (.bool true)=>DD E TI n a (fun e s'=>match e with | .DG=>J (EL s' bs ks) (D4 s' bs bs) | .exit i=>Q (.exit i) s' | .ret=>Q .ret s') s
    | .one (.bool false)=>DD E TI n b (fun e s'=>match e with | .DG=>J (EL s' bs ks) (D4 s' bs bs) | .exit i=>Q (.exit i) s' | .ret=>Q .ret s') s
    | .one (.ub u)=>(u=true->DD E TI n a (fun e s'=>match e with | .DG=>J (EL s' bs ks) (D4 s' bs bs) | .exit i=>Q (.exit i) s' | .ret=>Q .ret s') s)/\
     DD E TI n b (fun e s'=>match e with | .DG=>J (EL s' bs ks) (D4 s' bs bs) | .exit i=>Q (.exit i) s' | .ret=>Q .ret s') s
    | _=>False)\/
   (match ev s.sl c with
   | .one (.bool true)=>DD E TI n a Q s
   | .one (.bool false)=>DD E TI n b Q s
   | .one (.ub u)=>(u=true->DD E TI n a Q s)/\DD E TI n b Q s
   | _=>False)
  | false=>match ev s.sl c with
   | .one (.bool true)=>DD E TI n a Q s
   | .one (.bool false)=>DD E TI n b Q s
   | .one (.ub u)=>(u=true->DD E TI n a Q s)/\DD E TI n b Q s
   | _=>False
 | .block id c,Q,s=>(∃(ks bs:List Nat) (J:List AV->List AM->Prop),(∀vs bl,J vs bl->Q .DG (Hm n ks vs bs bl))/\
   DD E TI n c (fun e s'=>match e with | .exit i=>if i=id then J (EL s' bs ks) (D4 s' bs bs) else Q (.exit i) s' | .DG=>J (EL s' bs ks) (D4 s' bs bs) | .ret=>Q .ret s') s)\/
  DD E TI n c (fun e s=>match e with | .exit i=>if i=id then Q .DG s else Q (.exit i) s | .DG=>Q .DG s | .ret=>Q .ret s) s
 | .loop c,Q,s=>∃(cv:List (Nat×T×Bool)) (ks bs:List Nat) (J:List AV->List AM->Nat->Prop),
  (∃k,J (EL (Kp s cv) bs ks) (D4 (Kp s cv) bs bs) k)/\∀vs bl k,J vs bl k->
   DD E TI n c (fun e s'=>match e with
    | .DG=>∃k',k'<k/\J (EL s' bs ks) (D4 s' bs bs) k'
    | .exit i=>Q (.exit i) s' | .ret=>Q .ret s') (Hm n ks vs bs bl)
 | .exit i,Q,s=>Q (.exit i) s
 | .ret,Q,s=>Q .ret s
 | _,_,_=>False
def EP (bk:Nat->Option AM):AC->AC->Prop
 | .AS t id v off len,c=>(∃l,bk id=some (.arr v t l)/\off+len<=l.length/\c= .sl t ((l.drop off).take len))\/
  (∃l n,id≠0/\bk id=some (.arr v t l)/\off=0/\len=l.length/\n=l.length/\c= .own t l n)\/
  (id=0/\v=0/\c= .AS t 0 0 off len)
 | .nil,c=>c= .nil\/(∃t,c= .sl t [])\/∃t,c= .own t [] 0
 | .int k n,c=>c= .int k n
 | .bool b,c=>c= .bool b
 | .fn f,c=>c= .fn f
 | .sl t l,c=>c= .sl t l
 | _,_=>False
def I0 (bk:Nat->Option AM):List (Bool×List AC)->List (Bool×List AC)->Prop
 | [],[]=>True
 | a::l,b::m=>(a.1=b.1/\BV (EP bk) a.2 b.2)/\I0 bk l m
 | _,_=>False
def Gc:AC->Bool
 | .own _ _ _=>true
 | _=>false
def JQ:AC->Bool
 |.AS _ _ _ _ _|.own _ _ _=>true
 | _=>false
def O4 (src:List (Bool×List AC)) (res:List (Bool×List AC)):Bool:=
 match (res.flatMap (·.2)).filter Gc with
 | []=>true
 | [_]=>((src.flatMap (·.2)).filter JQ).length<=1
 | _=>false
def AV.Et:AV->List (Bool×List AC)
 | .AF xs=>xs
 | v=>[v.comp]
def PJ (TI:TypeId->Info) (s:St):ResultVar->Option (Bool×List AC)
 | .tmp t=>some (nth s.sl t).comp
 | .cell a t=>match nth s.sl a with
  | .one (.Ag id v off)=>match AH s.bk id with
   | some (.var v' cs)=>if (TI t).known&&v'==v&&(GV cs off (TI t).size).length==(TI t).size then some ((TI t).agg,GV cs off (TI t).size) else none
   | _=>none
  | _=>none
def I1 (TI:TypeId->Info) (s:St):List ResultVar->Option (List (Bool×List AC))
 | []=>some []
 | r::rs=>match PJ TI s r,I1 TI s rs with
  | some x,some xs=>some (x::xs)
  | _,_=>none
def KF:AC->Bool
 | .AS _ 0 _ _ _=>false
 | _=>true
def Mu (TI:TypeId->Info) (rs:List ResultVar) (r:AV) (b0:AM) (e:AX) (s:St):Prop:=
 match e with
 | .exit _=>False
 | _=>match I1 TI s rs with
  | some xs=>(Unit->(I0 (AH s.bk) xs r.Et/\(xs.all fun x=>x.2.all KF)=true/\(rs.length=1↔∀ys,r≠ .AF ys))/\AH s.bk 0=some b0)
  | none=>False
def post (TI:TypeId->Info) (rs:List ResultVar) (r:AV) (b1:Option AM) (e:AX) (s:St):Prop:=
 match e with
 | .exit _=>False
 | _=>match I1 TI s rs with
  | some xs=>(Unit->I0 (AH s.bk) xs r.Et/\O4 xs r.Et=true/\(rs.length=1↔∀ys,r≠ .AF ys))/\
   (match b1 with | none=>True | some b=>Unit->AH s.bk 0=some b)
  | none=>False
def DL (n:Nat) (args:List AV) (b0:Option AM):St:=
 ⟨args++Hs (n-args.length) (.one .Bz),match n with | 0=>[] | n+1=>b0::Hs n none⟩
open Go.RowKit
def Ai {α β:Type} (R:α->β->Prop):List α->List β->Prop
 | [],[]=>True
 | a::l,b::m=>R a b/\Ai R l m
 | _,_=>False
theorem Ai.mono {α β:Type} {R R':α->β->Prop}:∀{l:List α} {m:List β},(∀a b,R a b->R' a b)->Ai R l m->Ai R' l m
 | [],[],_,h=>h
 | _::_,_::_,c,h=>⟨c _ _ h.1,Ai.mono c h.2⟩
 |[],_::_,_,h|_::_,[],_,h=>h
theorem Ai.length {α β:Type} {R:α->β->Prop}:∀{l:List α} {m:List β},Ai R l m->l.length=m.length
 | [],[],_=>rfl
 | _::_,_::_,h=>by simp[Ai.length h.2]
 |[],_::_,h|_::_,[],h=>h.elim
theorem Ai.get {α β:Type} {R:α->β->Prop}:∀{l:List α} {m:List β},Ai R l m->∀(i:Nat) (a:α),l[i]? =some a->∃b,m[i]? =some b/\R a b
 | _::_,b::_,h,0,a,e=>by simp at e;exact⟨b,by simp,e ▸ h.1⟩
 | _::_,_::_,h,i+1,a,e=>by simpa using Ai.get h.2 i a (by simpa using e)
 | [],[],_,_,_,e=>by simp at e
 |[],_::_,h,_,_,_|_::_,[],h,_,_,_=>h.elim
theorem Ai.append {α β:Type} {R:α->β->Prop}:∀{l:List α} {m:List β} {l':List α} {m':List β},Ai R l m->Ai R l' m'->Ai R (l++l') (m++m')
 | [],[],_,_,_,h=>h
 | _::_,_::_,_,_,h,h'=>⟨h.1,Ai.append h.2 h'⟩
 |[],_::_,_,_,h,_|_::_,[],_,_,h,_=>h.elim
theorem Ai.R8 {α β:Type} {R:α->β->Prop}:∀{l l':List α} {m:List β},Ai R (l++l') m->∃m1 m2,m=m1++m2/\Ai R l m1/\Ai R l' m2
 | [],_,m,h=>⟨[],m,rfl,trivial,h⟩
 | _::_,_,[],h=>h.elim
 | _::_,_,b::_,h=>by
  obtain⟨m1,m2,e,c,d⟩:=Ai.R8 h.2;exact⟨b::m1,m2,by simp[e],⟨h.1,c⟩,d⟩
theorem Ai.drop {α β:Type} {R:α->β->Prop}:∀{l:List α} {m:List β} (n:Nat),Ai R l m->Ai R (l.drop n) (m.drop n)
 | _,_,0,h=>by simpa using h
 | [],[],_+1,_=>trivial
 | _::_,_::_,n+1,h=>by simpa using Ai.drop n h.2
 |[],_::_,_,h|_::_,[],_,h=>h.elim
theorem Ai.take {α β:Type} {R:α->β->Prop}:∀{l:List α} {m:List β} (n:Nat),Ai R l m->Ai R (l.take n) (m.take n)
 | _,_,0,_=>by simp[Ai]
 | [],[],_+1,_=>trivial
 | _::_,_::_,n+1,h=>by simpa [Ai] using ⟨h.1,Ai.take n h.2⟩
 |[],_::_,_,h|_::_,[],_,h=>h.elim
theorem Lg:∀(cs:List AC) (off n:Nat),GV cs off n=(cs.drop off).take n
 |_,0,_|[],_+1,_=>by simp[GV]
 | _::cs,off+1,n=>by simpa [GV] using Lg cs off n
theorem He:∀(t:T) (x:el t),(cells t x).length=t.size
 |.u8,_|.u32,_|.u64,_|.i8,_|.i64,_|.bool,_|.sl _,_=>rfl
 | .pr a b,x=>by simp[cells,T.size,He a,He b]
theorem T.size_pos:∀t:T,0<t.size
 | .pr a b=>by have:=T.size_pos a;simp[T.size];omega
 |.u8|.u32|.u64|.i8|.i64|.bool|.sl _=>Nat.one_pos
def rep (w:World) (I:Nat->Prop):(t:T)->el t->List Value->Prop
 | .u8,x,vs=>vs=[.int .u8 x.toNat]
 | .u32,x,vs=>vs=[.int .u32 x.toNat]
 | .u64,x,vs=>vs=[.int .u64 x.toNat]
 | .i8,x,vs=>vs=[.int .i8 x]
 | .i64,x,vs=>vs=[.int .i64 x]
 | .bool,x,vs=>vs=[.bool x]
 | .sl t,l,vs=>∃base cap,vs=[.slice base l.length cap]/\l.length<=cap/\l.length<=140737488355328/\
  (l=[]\/∃b off,base=some ⟨b,off,none⟩/\I b/\∀(i:Nat) (x:el t),l[i]? =some x->∃us,rep w I t x us/\w.rangeAt b (off+i*t.size) us)
 | .pr a b,x,vs=>∃v1 v2,vs=v1++v2/\rep w I a x.1 v1/\rep w I b x.2 v2
theorem rangeAt_of_block {w w':World} {b o:Nat} {vs:List Value} (h:w'.heap[b]? =w.heap[b]?) (c:w.rangeAt b o vs):w'.rangeAt b o vs:=
 fun j v d=>(World.cell?_of_block (w:=w) (a:=⟨b,o+j,none⟩) h).trans (c j v d)
theorem C0 {w w':World} {I g:Nat->Prop} (h:∀b,I b->g b/\w'.heap[b]? =w.heap[b]?):∀(t:T) (x:el t) (vs:List Value),rep w I t x vs->rep w' g t x vs
 |.u8,_,_,c|.u32,_,_,c|.u64,_,_,c|.i8,_,_,c|.i64,_,_,c|.bool,_,_,c=>c
 | .sl t,_,_,⟨base,cap,e,d,f,k⟩=>⟨base,cap,e,d,f,k.imp id fun⟨b,off,hb,j,hc⟩=>
  ⟨b,off,hb,(h b j).1,fun i x l=>let ⟨us,hu,c⟩:=hc i x l;⟨us,C0 h t x us hu,rangeAt_of_block (h b j).2 c⟩⟩⟩
 | .pr a b,x,_,⟨v1,v2,e,d,f⟩=>⟨v1,v2,e,C0 h a x.1 v1 d,C0 h b x.2 v2 f⟩
theorem Ji {w:World} {I:Nat->Prop}:∀(t:T) (x:el t) (vs:List Value),rep w I t x vs->vs.length=t.size
 |.u8,_,_,h|.u32,_,_,h|.u64,_,_,h|.i8,_,_,h|.i64,_,_,h|.bool,_,_,h=>by rw[show _=_ from h];rfl
 | .sl _,_,_,⟨_,_,e,_⟩=>by rw[e];rfl
 | .pr a b,x,_,⟨v1,v2,e,c,d⟩=>by rw[e,List.length_append,Ji a x.1 v1 c,Ji b x.2 v2 d];rfl
theorem PI {w:World} {I:Nat->Prop}:∀(t:T) (x:el t) (vs:List Value),rep w I t x vs->∀v∈vs,v.oneCell'=true
 |.u8,_,_,h,v,c|.u32,_,_,h,v,c|.u64,_,_,h,v,c|.i8,_,_,h,v,c|.i64,_,_,h,v,c|.bool,_,_,h,v,c=>by rw[show _=_ from h] at c;simp at c;subst c;rfl
 | .sl _,_,_,⟨_,_,e,_⟩,v,c=>by rw[e] at c;simp at c;subst c;rfl
 | .pr a b,x,_,⟨v1,v2,e,d,f⟩,v,c=>by
  rw[e] at c;rcases List.mem_append.1 c with h | h
  ·exact PI a x.1 v1 d v h
  exact PI b x.2 v2 f v h
def H2 (w:World) (o:Option Nat) (n off len:Nat) (full:Bool) (v:Value):Prop:=
 ∃base cap,v= .slice base len cap/\len<=cap/\cap<=maxLen/\(full=true->cap=len)/\
  (cap=0\/∃b arr e,o=some b/\base=some ⟨b,off*n,none⟩/\w.heap[b]? =some (.cells arr e (0,0))/\(off+cap)*n<=arr.size)
structure Cx where
 w:World
 β:Nat->Option Nat
 cv:Nat->Nat
 I:Nat->Prop
def BR (x:Cx):AC->Value->Prop
 | .Bz,v=>v.oneCell'=true
 | .int k n,v=>v= .int k n
 | .bool b,v=>v= .bool b
 | .fn f,v=>v= .func (.func f) #[] #[]
 | .nil,v=>v= .slice none 0 0
 | .sl t l,v=>rep x.w x.I (.sl t) l [v]
 | .AS t id AR off len,v=>(v.oneCell'=true/\AR<=x.cv id)/\(AR=x.cv id->H2 x.w (x.β id) t.size off len false v)
 | .Df t id AR off len,v=>(v.oneCell'=true/\AR<=x.cv id)/\(AR=x.cv id->H2 x.w (x.β id) t.size off len true v)
 | .Ag id AR off,v=>(v.oneCell'=true/\AR<=x.cv id)/\(AR=x.cv id->∃b,x.β id=some b/\v= .pointer (some ⟨b,off,none⟩))
 | .DE t id AR i k,v=>(v.oneCell'=true/\AR<=x.cv id)/\(AR=x.cv id->∃b,x.β id=some b/\v= .pointer (some ⟨b,i*t.size+k,none⟩))
 | .ub e,v=>∃b:Bool,v= .bool b/\(b=true->e=true)
 | .Dp t y off,v=>∃b o us,v= .pointer (some ⟨b,o+off,none⟩)/\x.I b/\rep x.w x.I t y us/\x.w.rangeAt b o us
 | .own _ _ _,_=>False
theorem BR.one {x:Cx}:∀{c:AC} {v:Value},BR x c v->v.oneCell'=true
 | .Bz,_,h=>h
 |.int _ _,_,h|.bool _,_,h|.fn _,_,h|.nil,_,h=>by rw[show _=_ from h];rfl
 | .sl _ _,_,h=>PI _ _ _ h _ (by simp)
 |.AS _ _ _ _ _,_,h|.Df _ _ _ _ _,_,h|.Ag _ _ _,_,h|.DE _ _ _ _ _,_,h=>h.1.1
 |.Dp _ _ _,_,⟨_,_,_,e,_⟩|.ub _,_,⟨_,e,_⟩=>by rw[e];rfl
 | .own _ _ _,_,h=>h.elim
def Dx (x:Cx):AV->Value->Prop
 | .one c,v=>c= .Bz\/BR x c v
 | .agg cs,v=>∃arr,v= .agg arr/\Ai (BR x) cs arr.toList
 | .AF _,_=>False
def Bu (x:Cx):AV->Value->Prop
 | .AF xs,v=>∃arr,v= .tuple arr/\Ai (fun y u=>Dx x (Dh y) u) xs arr.toList
 | a,v=>Dx x a v
def DJ (x:Cx) (id:Nat):AM->Prop
 | .dead _=>True
 | .var _ cs=>∃b arr e,x.β id=some b/\x.w.heap[b]? =some (.cells arr e (0,0))/\Ai (BR x) cs arr.toList
 | .arr _ t l=>(x.β id=none/\l=[])\/∃b arr e,x.β id=some b/\x.w.heap[b]? =some (.cells arr e (0,0))/\
  ∀(i:Nat) (y:el t),l[i]? =some y->∃us,rep x.w x.I t y us/\x.w.rangeAt b (i*t.size) us
structure Cx.le (x y:Cx):Prop where
 cv:∀id,x.cv id<=y.cv id
 β:∀id,y.cv id=x.cv id->y.β id=x.β id
 size:∀id b arr e,y.cv id=x.cv id->x.β id=some b->x.w.heap[b]? =some (.cells arr e (0,0))->∃arr',y.w.heap[b]? =some (.cells arr' e (0,0))/\arr'.size=arr.size
 I:∀b,x.I b->y.I b/\y.w.heap[b]? =x.w.heap[b]?
theorem H2.mono {x y:Cx} (h:x.le y) {id n off len:Nat} {f:Bool} {v:Value} (hc:y.cv id=x.cv id) (m:H2 x.w (x.β id) n off len f v):H2 y.w (y.β id) n off len f v:=by
 obtain⟨base,cap,e,g,i,k,h3⟩:=m;refine⟨base,cap,e,g,i,k,h3.imp (fun q=>q) fun⟨b,arr,e',hb,c,l,p⟩=>?_⟩;obtain⟨d,j,o⟩:=h.size id b arr e' hc hb l;exact⟨b,d,e',(h.β id hc).trans hb,c,j,by omega⟩
theorem BR.mono {x y:Cx} (h:x.le y):∀{c:AC} {v:Value},BR x c v->BR y c v
 |.Bz,_,r|.int _ _,_,r|.bool _,_,r|.fn _,_,r|.nil,_,r=>r
 | .sl _ _,_,r=>C0 h.I _ _ _ r
 | .AS _ id v _ _,_,r=>⟨⟨r.1.1,Nat.le_trans r.1.2 (h.cv id)⟩,fun e=>by
  have:=h.cv id;have d:v=x.cv id:=by have:=r.1.2;omega
  exact H2.mono h (e ▸ d) (r.2 d)⟩
 | .Df _ id v _ _,_,r=>⟨⟨r.1.1,Nat.le_trans r.1.2 (h.cv id)⟩,fun e=>by
  have:=h.cv id;have d:v=x.cv id:=by have:=r.1.2;omega
  exact H2.mono h (e ▸ d) (r.2 d)⟩
 | .Ag id v _,_,r=>⟨⟨r.1.1,Nat.le_trans r.1.2 (h.cv id)⟩,fun e=>by
  have:=h.cv id;have d:v=x.cv id:=by have:=r.1.2;omega
  obtain⟨b,hb,f⟩:=r.2 d;exact⟨b,(h.β id (e ▸ d)).trans hb,f⟩⟩
 | .DE _ id v _ _,_,r=>⟨⟨r.1.1,Nat.le_trans r.1.2 (h.cv id)⟩,fun e=>by
  have:=h.cv id;have d:v=x.cv id:=by have:=r.1.2;omega
  obtain⟨b,hb,f⟩:=r.2 d;exact⟨b,(h.β id (e ▸ d)).trans hb,f⟩⟩
 | .ub _,_,h=>h
 | .Dp t y' _,_,⟨b,o,us,e,g,i,ha⟩=>⟨b,o,us,e,(h.I b g).1,C0 h.I t y' us i,rangeAt_of_block (h.I b g).2 ha⟩
 | .own _ _ _,_,r=>r.elim
theorem Dx.mono {x y:Cx} (h:x.le y):∀{a:AV} {v:Value},Dx x a v->Dx y a v
 | .one _,_,r=>r.imp (fun q=>q) (BR.mono h)
 | .agg _,_,⟨arr,e,r⟩=>⟨arr,e,r.mono fun _ _=>BR.mono h⟩
 | .AF _,_,r=>r.elim
theorem Bu.mono {x y:Cx} (h:x.le y):∀{a:AV} {v:Value},Bu x a v->Bu y a v
 | .one c,v,r=>Dx.mono h (a:= .one c) r
 | .agg cs,v,r=>Dx.mono h (a:= .agg cs) r
 | .AF _,_,⟨arr,e,r⟩=>⟨arr,e,r.mono fun _ _=>Dx.mono h⟩
theorem IP (x:Cx):∀(t:T) (y:el t) (vs:List Value),rep x.w x.I t y vs↔Ai (BR x) (cells t y) vs
 | .u8,y,vs=>one x (.int .u8 y.toNat) _ vs fun _=>Iff.rfl
 | .u32,y,vs=>one x (.int .u32 y.toNat) _ vs fun _=>Iff.rfl
 | .u64,y,vs=>one x (.int .u64 y.toNat) _ vs fun _=>Iff.rfl
 | .i8,y,vs=>one x (.int .i8 y) _ vs fun _=>Iff.rfl
 | .i64,y,vs=>one x (.int .i64 y) _ vs fun _=>Iff.rfl
 | .bool,y,vs=>one x (.bool y) _ vs fun _=>Iff.rfl
 | .sl t,y,vs=>by
  match vs with
  | []=>exact⟨fun⟨_,_,e,_⟩=>by simp at e,fun h=>h.elim⟩
  | [v]=>exact⟨fun h=>⟨h,trivial⟩,fun h=>h.1⟩
  | _::_::_=>exact⟨fun⟨_,_,e,_⟩=>by simp at e,fun h=>h.2.elim⟩
 | .pr a b,y,vs=>by
  constructor
  ·rintro⟨v1,v2,rfl,d,f⟩
   exact ((IP x a y.1 v1).1 d).append ((IP x b y.2 v2).1 f)
  intro h;obtain⟨m1,m2,e,d,f⟩:=Ai.R8 h;exact⟨m1,m2,e,(IP x a y.1 m1).2 d,(IP x b y.2 m2).2 f⟩
where
 one (x:Cx) (c:AC) (u:Value) (vs:List Value) (h:∀v,BR x c v↔v=u):vs=[u]↔Ai (BR x) [c] vs:=by
  match vs with
  | []=>exact⟨fun e=>by simp at e,fun h=>h.elim⟩
  | [v]=>exact⟨fun e=>⟨(h v).2 (by simpa using e),trivial⟩,fun g=>by rw[(h v).1 g.1]⟩
  | _::_::_=>exact⟨fun e=>by simp at e,fun h=>h.2.elim⟩
theorem DJ.mono {x y:Cx} (h:x.le y) {id:Nat} {b:AM} (hc:y.cv id=x.cv id) (hb:∀k,x.β id=some k->y.w.heap[k]? =x.w.heap[k]?) (r:DJ x id b):DJ y id b:=by
 cases b with
 | dead _=>trivial
 | var _ cs=>
  obtain⟨b,arr,e,c,d,h3⟩:=r;exact⟨b,arr,e,(h.β id hc).trans c,(hb b c).trans d,h3.mono fun _ _=>BR.mono h⟩
 | arr _ t l=>
  refine r.imp (fun q=>⟨(h.β id hc).trans q.1,q.2⟩) fun⟨b,arr,e,c,d,h3⟩=>?_
  refine⟨b,arr,e,(h.β id hc).trans c,(hb b c).trans d,fun i y' f=>?_⟩;obtain⟨us,hu,ha⟩:=h3 i y' f;exact⟨us,C0 h.I t y' us hu,rangeAt_of_block (hb b c) ha⟩
theorem KG:∀(l:List AV) (d:Nat) (v:AV) (i:Nat),nth (BY l d v) i=if i=d/\d<l.length then v else nth l i
 |[],d,v,i|_::_,0,v,0|_::_,0,v,i+1|_::_,d+1,v,0=>by simp[BY,nth]
 | a::l,d+1,v,i+1=>by simp[BY,nth,KG l d v i]
theorem Ho:∀(l:List (Option AM)) (d:Nat) (v:Option AM) (i:Nat),AH (BY l d v) i=if i=d/\d<l.length then v else AH l i
 |[],d,v,i|_::_,0,v,0|_::_,0,v,i+1|_::_,d+1,v,0=>by simp[BY,AH]
 | a::l,d+1,v,i+1=>by simp[BY,AH,Ho l d v i]
theorem Ge {α:Type}:∀(l:List α) (d:Nat) (v:α),(BY l d v).length=l.length
 |[],_,_|_::_,0,_=>rfl
 | _::l,d+1,v=>by simp[BY,Ge l d v]
theorem JZ:∀(l:List (Option AM)) (i:Nat),l.length<=i->AH l i=none
 | [],_,_=>rfl
 | _::_,0,h=>by simp at h
 | _::l,i+1,h=>by simpa [AH] using JZ l i (by simpa using h)
theorem Hu {α:Type}:∀(l:List α) (d:Nat) (v:α),l.length<=d->BY l d v=l
 | [],_,_,_=>rfl
 | _::_,0,_,h=>by simp at h
 | a::l,d+1,v,h=>by simp[BY,Hu l d v (by simpa using h)]
def AM.live:AM->Bool
 | .dead _=>false
 | _=>true
def AM.short:AM->Prop
 | .arr _ _ l=>l.length<=140737488355328
 | _=>True
def live (bk:Nat->Option AM) (id:Nat):Prop:=∃b,bk id=some b/\b.live=true
structure WX where
 X:Nat->Prop
 A:Nat->Prop
 ob:Option Nat
def cx (X:WX) (w:World) (β:Nat->Option Nat) (bk:Nat->Option AM):Cx:=
 ⟨w,β,AR bk,fun b=>(b<w.heap.size/\∀id,live bk id->β id≠some b)/\X.A b⟩
structure Bo (w0:World) (X:WX) (β:Nat->Option Nat) (s:St) (a:Act) (w:World):Prop where
 defers:a.defers=[]
 len:s.sl.length=a.tmps.size
 IG:s.bk.length=a.tmps.size
 CW:∀i,Bu (cx X w β (AH s.bk)) (nth s.sl i) (a.tmps.getD i undef)
 blocks:∀id b,AH s.bk id=some b->DJ (cx X w β (AH s.bk)) id b
 inj:∀id id' b,live (AH s.bk) id->live (AH s.bk) id'->β id=some b->β id'=some b->id=id'
 own:∀id b,live (AH s.bk) id->β id=some b->w0.heap.size<=b\/(X.X b/\id=0)
 os:w.os=w0.os
 tape:w.tape=w0.tape
 output:w.output=w0.output
 size:w0.heap.size<=w.heap.size
 block:∀b,b<w0.heap.size->¬X.X b->w.heap[b]? =w0.heap[b]?
 lens:∀id b,AH s.bk id=some b->b.short
 fresh:∀b,w0.heap.size<=b->X.A b
 Kx:live (AH s.bk) 0->AR (AH s.bk) 0=0->β 0=X.ob/\∀(b:Nat) arr e,X.ob=some b->w0.heap[b]? =some (.cells arr e (0,0))->∃arr',w.heap[b]? =some (.cells arr' e (0,0))/\arr'.size=arr.size
section
variable {w0:World} {X:WX} {β:Nat->Option Nat} {s:St} {a:Act} {w:World}
theorem Jh (x:Cx) (v:Value):Bu x (.one .Bz) v:=Or.inl rfl
theorem g9 (a:Act) (d:Nat) (v:Value) (i:Nat):(a.put (some d) v).tmps.getD i undef=if i=d/\d<a.tmps.size then v else a.tmps.getD i undef:=by
 simp only[Act.put,Array.getD_eq_getD_getElem?,Array.getElem?_setIfInBounds]
 by_cases h:d=i
 ·subst h
  by_cases b:d<a.tmps.size <;> simp[b]
 simp[h,Ne.symm h]
theorem Z0 {x:Cx} {s:St} {a:Act} (hlen:s.sl.length=a.tmps.size) (h:∀i,Bu x (nth s.sl i) (a.tmps.getD i undef)) (dst:Option Nat) (v:AV) (u:Value) (b:Bu x v u):
  ∀i,Bu x (nth (GS s.sl dst v) i) ((a.put dst u).tmps.getD i undef):=by
 intro i;cases dst with
 | none=>exact h i
 | some d=>
  rw[g9];simp only[GS,KG,hlen]
  split
  ·exact b
  exact h i
theorem Xg {s:St} {a:Act} (hlen:s.sl.length=a.tmps.size) (dst:Option Nat) (v:AV) (u:Value):(GS s.sl dst v).length=(a.put dst u).tmps.size:=by
 cases dst <;> simp[GS,Act.put,Ge,hlen]
theorem size_put (a:Act) (dst:Option Nat) (u:Value):(a.put dst u).tmps.size=a.tmps.size:=by cases dst <;> simp[Act.put]
theorem WM (a:Act) (dst:Option Nat) (u:Value):(a.put dst u).defers=a.defers:=by cases dst <;> rfl
theorem Bo.ext (S:Bo w0 X β s a w) {w':World} {dst:Option Nat} {v:AV} {u:Value} {rd:List Nat} (hw:∀b,b<w.heap.size->w'.heap[b]? =w.heap[b]?) (d:w.heap.size<=w'.heap.size)
  (n:w'.os=w.os) (g:w'.tape=w.tape) (m:w'.output=w.output) (p:Bu (cx X w' β (AH s.bk)) v u):Bo w0 X β (s.app dst ⟨v,[],rd⟩) (a.put dst u) w':=by
 have c:∀b o,w.heap[b]? =some o->b<w.heap.size:=fun b o h=>by
  rcases Nat.lt_or_ge b w.heap.size with h' | h'
  ·exact h'
  simp[Array.getElem?_eq_none h'] at h
 have hle:(cx X w β (AH s.bk)).le (cx X w' β (AH s.bk)):=
  ⟨fun _=>Nat.le_refl _,fun _ _=>rfl,fun id b arr e _ _ x=>⟨arr,(hw b (c b _ x)).trans x,rfl⟩,fun b hb=>⟨⟨⟨Nat.lt_of_lt_of_le hb.1.1 d,hb.1.2⟩,hb.2⟩,hw b hb.1.1⟩⟩
 refine⟨(WM _ _ _).trans S.defers,Xg S.len _ _ _,S.IG.trans (size_put _ _ _).symm,Z0 S.len (fun i=>Bu.mono hle (S.CW i)) dst v u p,fun id b hb=>?_,S.inj,S.own,
  n.trans S.os,g.trans S.tape,m.trans S.output,Nat.le_trans S.size d,fun b hb B=>(hw b (Nat.lt_of_lt_of_le hb S.size)).trans (S.block b hb B),S.lens,S.fresh,fun A p=>?_⟩
 case refine_2=>
  obtain⟨k,f⟩:=S.Kx A p;refine⟨k,fun b arr e hb he=>?_⟩;obtain⟨j,h3,y⟩:=f b arr e hb he;exact⟨j,(hw b (c b _ h3)).trans h3,y⟩
 have r:=S.blocks id b hb;cases b with
 | dead _=>trivial
 | var _ cs=>
  obtain⟨b,arr,e,k,f,h3⟩:=r;exact⟨b,arr,e,k,(hw b (c b _ f)).trans f,h3.mono fun _ _=>BR.mono hle⟩
 | arr _ t l=>
  refine r.imp (fun q=>q) fun⟨b,arr,e,k,f,h3⟩=>?_
  refine⟨b,arr,e,k,(hw b (c b _ f)).trans f,fun i y' z=>?_⟩;obtain⟨us,hu,ha⟩:=h3 i y' z;exact⟨us,C0 hle.I t y' us hu,rangeAt_of_block (hw b (c b _ f)) ha⟩
theorem Bo.val (S:Bo w0 X β s a w) {dst:Option Nat} {v:AV} {u:Value} {rd:List Nat} (b:Bu (cx X w β (AH s.bk)) v u):Bo w0 X β (s.app dst ⟨v,[],rd⟩) (a.put dst u) w:=
 S.ext (fun _ _=>rfl) (Nat.le_refl _) rfl rfl rfl b
theorem GC (l:List (Option AM)) (id:Nat) (b:AM) (c:id<l.length) (k:Nat):AR (AH (BY l id (some b))) k=if k=id then b.AR else AR (AH l) k:=by
 unfold AR;rw[Ho]
 by_cases h:k=id
 ·subst h;simp[c]
 simp[h]
theorem IH (l:List (Option AM)) (id:Nat) (b:AM) (c:id<l.length) (k:Nat):live (AH (BY l id (some b))) k↔if k=id then b.live=true else live (AH l) k:=by
 unfold live;rw[Ho]
 by_cases h:k=id
 ·subst h;simp[c]
 simp[h]
theorem Bo.write (S:Bo w0 X β s a w) {β':Nat->Option Nat} {w':World} {dst:Option Nat} {v:AV} {u:Value} {rd:List Nat} {id:Nat} {Bp:AM} (m:id<s.bk.length) (T:Bp.short)
  (q:∀k,k≠id->β' k=β k) (Q:AR (AH s.bk) id<=Bp.AR) (G:Bp.AR=AR (AH s.bk) id->β' id=β id/\(Bp.live=true->live (AH s.bk) id))
  (p:∀b,b<w.heap.size->(live (AH s.bk) id->β id≠some b)->w'.heap[b]? =w.heap[b]?) (F:w.heap.size<=w'.heap.size)
  (C:∀(b:Nat) arr e,w.heap[b]? =some (.cells arr e (0,0))->∃y,w'.heap[b]? =some (.cells y e (0,0))/\y.size=arr.size)
  (R:w'.os=w.os) (K:w'.tape=w.tape) (O:w'.output=w.output)
  (j:Bp.live=true->∀b,β' id=some b->(β id=some b/\live (AH s.bk) id)\/w.heap.size<=b)
  (hB:(cx X w β (AH s.bk)).le (cx X w' β' (AH (BY s.bk id (some Bp))))->DJ (cx X w' β' (AH (BY s.bk id (some Bp)))) id Bp)
  (U:(cx X w β (AH s.bk)).le (cx X w' β' (AH (BY s.bk id (some Bp))))->Bu (cx X w' β' (AH (BY s.bk id (some Bp)))) v u):
  Bo w0 X β' (s.app dst ⟨v,[(id,Bp)],rd⟩) (a.put dst u) w':=by
 have N:∀b o,w.heap[b]? =some o->b<w.heap.size:=fun b o h=>by
  rcases Nat.lt_or_ge b w.heap.size with h' | h'
  ·exact h'
  simp[Array.getElem?_eq_none h'] at h
 have z:∀k b,live (AH s.bk) k->β k=some b->b<w.heap.size:=fun k b ⟨I,x,B⟩ hb=>by
  have r:=S.blocks k I x;cases I with
  | dead _=>simp[AM.live] at B
  | var _ _=>obtain⟨b',arr,e,n,A,_⟩:=r;obtain rfl:b=b':=Option.some.inj (hb.symm.trans n);exact N b _ A
  | arr _ _ _=>
   rcases r with⟨n,_⟩ |⟨b',arr,e,n,A,_⟩
   ·exact absurd (hb.symm.trans n) (by simp)
   obtain rfl:b=b':=Option.some.inj (hb.symm.trans n);exact N b _ A
 have hle:(cx X w β (AH s.bk)).le (cx X w' β' (AH (BY s.bk id (some Bp)))):=by
  refine⟨fun k=>?_,fun k x=>?_,fun k b arr e _ _ hh=>C b arr e hh,fun b hb=>⟨⟨⟨Nat.lt_of_lt_of_le hb.1.1 F,fun k x=>?_⟩,hb.2⟩,p b hb.1.1 (fun B=>hb.1.2 id B)⟩⟩
  ·show AR _ k<=AR _ k
   rw[GC _ _ _ m]
   split
   ·subst_vars;exact Q
   exact Nat.le_refl _
  ·by_cases h:k=id
   ·subst h;have c:AR (AH (BY s.bk k (some Bp))) k=AR (AH s.bk) k:=x;rw[GC _ _ _ m,if_pos rfl] at c;exact (G c).1
   exact q k h
  rw[IH _ _ _ m] at x
  by_cases h:k=id
  ·subst h;simp only[if_true] at x;intro e;rcases j x b e with⟨n,A⟩ | n
   ·exact hb.1.2 k A n
   have:=hb.1.1
   show False
   have a1:b<w.heap.size:=hb.1.1;omega
  simp only[h,if_false] at x
  show β' k≠some b
  rw[q k h];exact hb.1.2 k x
 refine⟨(WM _ _ _).trans S.defers,Xg S.len _ _ _,?_,?_,fun k b x=>?_,fun k k' b x c hb g=>?_,fun k b x hb=>?_,R.trans S.os,K.trans S.tape,O.trans S.output,Nat.le_trans S.size F,fun b hb V=>?_,fun k b x=>?_,S.fresh,fun B U=>?_⟩
 ·show (BY s.bk id (some Bp)).length=_
  rw[Ge,size_put];exact S.IG
 ·exact Z0 S.len (fun i=>Bu.mono hle (S.CW i)) dst v u (U hle)
 ·have c:AH (BY s.bk id (some Bp)) k=some b:=x;rw[Ho] at c
  by_cases h:k=id
  ·subst h;simp only[m,and_self,if_true,Option.some.injEq] at c;subst c;exact hB hle
  simp only[h,false_and,if_false] at c
  have M:(cx X w' β' (AH (BY s.bk id (some Bp)))).cv k=(cx X w β (AH s.bk)).cv k:=by
   show AR _ k=AR _ k
   rw[GC _ _ _ m,if_neg h]
  have r:=S.blocks k b c;have W:(cx X w' β' (AH (BY s.bk id (some Bp)))).β k=(cx X w β (AH s.bk)).β k:=q k h;cases b with
  | dead _=>trivial
  | var vv cs=>
   refine DJ.mono hle M (fun b' g=>?_) r;have B:live (AH s.bk) k:=⟨_,c,rfl⟩;exact p b' (z k b' B g) fun J e=>h (S.inj k id b' B J g e)
  | arr vv t l=>
   refine DJ.mono hle M (fun b' g=>?_) r;have B:live (AH s.bk) k:=⟨_,c,rfl⟩;exact p b' (z k b' B g) fun J e=>h (S.inj k id b' B J g e)
 ·have d:live (AH (BY s.bk id (some Bp))) k:=x;have f:live (AH (BY s.bk id (some Bp))) k':=c;rw[IH _ _ _ m] at d f
  by_cases h:k=id <;> by_cases h':k'=id
  ·rw[h,h']
  ·subst h;simp only[if_true,h',if_false] at d f;rw[q k' h'] at g;rcases j d b hb with⟨n,A⟩ | n
   ·exact S.inj k k' b A f n g
   have:=z k' b f g;omega
  ·subst h';simp only[if_true,h,if_false] at d f;rw[q k h] at hb;rcases j f b g with⟨n,A⟩ | n
   ·exact S.inj k k' b d A hb n
   have:=z k b d hb;omega
  simp only[h,h',if_false] at d f;rw[q k h] at hb;rw[q k' h'] at g;exact S.inj k k' b d f hb g
 ·have d:live (AH (BY s.bk id (some Bp))) k:=x;rw[IH _ _ _ m] at d
  by_cases h:k=id
  ·subst h;simp only[if_true] at d;rcases j d b hb with⟨n,A⟩ | n
   ·exact S.own k b A n
   exact Or.inl (Nat.le_trans S.size n)
  simp only[h,if_false] at d;rw[q k h] at hb;exact S.own k b d hb
 ·rw[p b (Nat.lt_of_lt_of_le hb S.size) fun B e=>?_]
  ·exact S.block b hb V
  rcases S.own id b B e with h | h
  ·omega
  exact V h.1
 ·have c:AH (BY s.bk id (some Bp)) k=some b:=x;rw[Ho] at c
  by_cases h:k=id
  ·subst h;simp only[m,and_self,if_true,Option.some.injEq] at c;subst c;exact T
  simp only[h,false_and,if_false] at c;exact S.lens k b c
 have D:live (AH (BY s.bk id (some Bp))) 0:=B;have H:AR (AH (BY s.bk id (some Bp))) 0=0:=U;rw[IH _ _ _ m] at D;rw[GC _ _ _ m] at H
 have key:live (AH s.bk) 0/\AR (AH s.bk) 0=0/\β' 0=β 0:=by
  by_cases h:0=id
  ·subst h;simp only[if_true] at D H;have Y:AR (AH s.bk) 0=0:=by omega
   have:=G (by omega);exact⟨this.2 D,Y,this.1⟩
  simp only[h,if_false] at D H;exact⟨D,H,q 0 h⟩
 obtain⟨n,A⟩:=S.Kx key.1 key.2.1;refine⟨key.2.2.trans n,fun b arr e hb he=>?_⟩;obtain⟨y,h3,h4⟩:=A b arr e hb he;obtain⟨L,Z,h6⟩:=C b y e h3;exact⟨L,Z,by omega⟩
end
def Dm (w:World) (I:Nat->Prop):Cx:=⟨w,fun _=>none,fun _=>0,I⟩
def OwnAt (x:Cx) (lo:Nat) (bo:Option Nat) (t:T) (l:List (el t)) (v:Value):Prop:=
 ∃base cap,v= .slice base l.length cap/\l.length<=cap/\cap<=maxLen/\l.length<=140737488355328/\
  ((bo=none/\l=[]/\cap=0)\/∃b arr e,bo=some b/\lo<=b/\base=some ⟨b,0,none⟩/\x.w.heap[b]? =some (.cells arr e (0,0))/\cap*t.size<=arr.size/\
    ∀(i:Nat) (y:el t),l[i]? =some y->∃us,rep x.w x.I t y us/\x.w.rangeAt b (i*t.size) us)
def DO (x:Cx) (lo:Nat) (bo:Option Nat):AC->Value->Prop
 | .own t l n,v=>n=l.length/\OwnAt x lo bo t l v
 | c,v=>BR x c v
def Gp (x:Cx) (lo:Nat) (bo:Option Nat):AV->Value->Prop
 | .one c,v=>c= .Bz\/DO x lo bo c v
 | .agg cs,v=>∃arr,v= .agg arr/\Ai (DO x lo bo) cs arr.toList
 | .AF _,_=>False
def HY (x:Cx) (lo:Nat) (bo:Option Nat):AV->Value->Prop
 | .AF xs,v=>∃arr,v= .tuple arr/\Ai (fun y u=>Gp x lo bo (Dh y) u) xs arr.toList
 | a,v=>Gp x lo bo a v
def CR:AC->Bool
 | .own _ _ _=>true
 | c=>BZ c
def E6:AC->Bool
 |.AS _ 0 0 _ _|.Ag 0 0 _=>true
 | c=>BZ c
def AV.wf:AV->Bool
 | .AF xs=>xs.all fun x=>x.1||decide (x.2.length<=1)
 | _=>true
def AM.lone:AM->Bool
 | .var v cs=>v==0&&cs.all BZ
 | .arr v _ _=>v==0
 | .dead _=>false
def Callee (P : Program) (f : FuncId) : Prop := ∃ fn c, P.funcs[f]? = some fn /\ (fn.name == "runtime.NumGoroutine") = false /\ fn.body = some c
def GF (P:Program) (fl:Bool) (f:FuncId) (args:List AV) (r:AV):Prop:=
 Callee P f/\(r.all CR=true/\r.wf=true)/\
 ∀(w:World) (I:Nat->Prop) (vs:List Value),(∀b,I b->b<w.heap.size)->Ai (Bu (Dm w I)) args vs->
  Calls P f vs.toArray w fun e w'=>∃u bo,e= .returned u/\Below w.heap.size w w'/\
   HY (Dm w' fun b=>((fl=false/\I b)\/w.heap.size<=b)/\b<w'.heap.size/\bo≠some b) w.heap.size bo r u
def β0 (ob:Option Nat):Nat->Option Nat:=fun k=>if k=0 then ob else none
def Cj (w:World) (ob:Option Nat) (I:Nat->Prop):Cx:=⟨w,β0 ob,fun _=>0,I⟩
def IV (P:Program) (f:FuncId) (c0:AC) (b0:AM) (args:List AV) (r:AV) (b1:AM):Prop:=
 Callee P f/\(r.all E6=true/\E6 c0=true/\b0.lone=true/\b1.lone=true)/\
 ∀(w:World) (I:Nat->Prop) (ob:Option Nat) (v0:Value) (vs:List Value),(∀b,I b->b<w.heap.size/\ob≠some b)->
  BR (Cj w ob I) c0 v0->DJ (Cj w ob I) 0 b0->b0.short->Ai (Bu (Dm w I)) args vs->
  Calls P f (v0::vs).toArray w fun e w'=>∃u,e= .returned u/\
   (w'.os=w.os/\w'.tape=w.tape/\w'.output=w.output/\w.heap.size<=w'.heap.size/\∀k,k<w.heap.size->ob≠some k->w'.heap[k]? =w.heap[k]?)/\
   (∀(b:Nat) arr e,ob=some b->w.heap[b]? =some (.cells arr e (0,0))->∃arr',w'.heap[b]? =some (.cells arr' e (0,0))/\arr'.size=arr.size)/\
   Bu (Cj w' ob fun k=>(I k\/w.heap.size<=k)/\k<w'.heap.size/\ob≠some k) r u/\
   DJ (Cj w' ob fun k=>(I k\/w.heap.size<=k)/\k<w'.heap.size/\ob≠some k) 0 b1/\b1.short
def BU (P:Program) (f:FuncId) (args:List AV) (b0:AM) (r:AV):Prop:=
 Callee P f/\(r.all BZ=true/\b0.lone=true)/\
 ∀(w:World) (I:Nat->Prop) (ob:Option Nat) (vs:List Value),(∀b,I b->b<w.heap.size/\ob≠some b)->
  DJ (Cj w ob I) 0 b0->b0.short->Ai (Bu (Cj w ob I)) args vs->
  Calls P f vs.toArray w fun e w'=>∃u,e= .returned u/\
   (w'.os=w.os/\w'.tape=w.tape/\w'.output=w.output/\w.heap.size<=w'.heap.size/\∀k,k<w.heap.size->ob≠some k->w'.heap[k]? =w.heap[k]?)/\
   (∀(b:Nat) arr e,ob=some b->w.heap[b]? =some (.cells arr e (0,0))->∃arr',w'.heap[b]? =some (.cells arr' e (0,0))/\arr'.size=arr.size)/\
   Bu (Cj w' ob fun k=>(I k\/w.heap.size<=k)/\k<w'.heap.size/\ob≠some k) r u/\
   DJ (Cj w' ob fun k=>(I k\/w.heap.size<=k)/\k<w'.heap.size/\ob≠some k) 0 b0
def env (P:Program):Env:=⟨GF P,IV P,BU P⟩
structure D1 (P:Program) (t:TypeId) (i:Info):Prop where
 info:i.known=true->∃ti z d,P.info? t=some ti/\ti.size=i.size/\ti.zero=some z/\(∀x,Ai (BR x) i.zero z.cells.toList)/\
  P.underlying t=some d/\d.isRow=i.agg/\(i.agg=false->i.size=1)
 kind:∀k,i.kind=some k->P.underlying t=some (.int k)
 isb:i.Ob=true->P.underlying t=some .bool
 sl:i.sl=true->P.underlying t=some (.slice i.DR)/\∃ei z,P.info? i.DR=some ei/\ei.size=i.elem.size/\ei.bytes=i.GO/\0<ei.bytes/\ei.zero=some z/\
  ∀x,Ai (BR x) (cells i.elem i.CT) z.cells.toList
 fields:i.known=true->i.fields≠[]->∃fs:Array Field,P.underlying t=some (.struct fs)/\i.fields.length=fs.size/\
  ∀(f fo n:Nat) (g:Bool),i.fields[f]? =some (fo,n,g)->∃fl d,fs[f]? =some fl/\fl.offset=fo/\(P.info? fl.type).map (·.size)=some n/\0<n/\P.underlying fl.type=some d/\d.isRow=g/\(g=false->n=1)
theorem T.beq_eq:∀{a b:T},T.beq a b=true->a=b
 |.u8,b,h|.u32,b,h|.u64,b,h|.i8,b,h|.i64,b,h|.bool,b,h=>by cases b <;> simp_all [T.beq]
 | .sl a,b,h=>by cases b <;> simp_all [T.beq];exact T.beq_eq h
 | .pr a c,b,h=>by cases b <;> simp_all [T.beq];exact⟨T.beq_eq h.1,T.beq_eq h.2⟩
section
variable {P:Program} {w:World}
theorem Ze {t:TypeId} {d:TypeDesc} (hu:P.underlying t=some d):(isAgg t).run P w= .ok d.isRow w:=by
 unfold isAgg;rw[Sem.run_bind,run_underlying hu w];cases d <;> simp
theorem mg {t:TypeId} {d:TypeDesc} {b o:Nat} {v:Value} (hu:P.underlying t=some d) (c:d.isRow=false) (hc:w.cell? ⟨b,o,none⟩=some v):
  (Instr.loadAt t (.pointer (some ⟨b,o,none⟩))).run P w= .ok v w:=by
 simp only[Instr.loadAt,Instr.sureAddr,Sem.run_bind,Sem.run_pure,Result.andThen_ok,loadVar,Ze hu,c];simp[load,Sem.run,hc]
theorem mh {t:TypeId} {f:TypeInfo} {b o:Nat} {v:Value} (h:P.info? t=some f) (d:v.cells.size=f.size) (ht:w.there b o f.size) (g:∀u∈v.cells.toList,u.oneCell'=true):
  (Instr.storeAt t (.pointer (some ⟨b,o,none⟩)) v).run P w= .ok () (w.setCells b o v.cells.toList):=by
 have:=run_storeCells_cells (P:=P) b o v.cells.toList 0 w (fun j c=>by simpa using (ht j (by simpa [d] using c)).1) (fun j c=>by simpa using (ht j (by simpa [d] using c)).2) g;simp only[Nat.add_zero] at this;simp[Instr.storeAt,Instr.sureAddr,storeVar,sizeOf,typeInfo,h,d,this]
end
theorem YX {v:Value} (h:v.oneCell'=true):v.cells= #[v]:=by
 cases v <;> simp_all [Value.oneCell',Value.cells]
theorem Dx.cells {x:Cx} {av:AV} {v:Value} (h:Dx x av v) (b:av.full=true):Ai (BR x) av.cs v.cells.toList:=by
 cases av with
 | one c=>
  rcases h with rfl | h
  ·simp[AV.full] at b
  rw[YX h.one];exact⟨h,trivial⟩
 | agg cs=>obtain⟨arr,rfl,h⟩:=h;exact h
 | AF _=>exact h.elim
theorem Ai.one {x:Cx}:∀{cs:List AC} {vs:List Value},Ai (BR x) cs vs->∀v∈vs,v.oneCell'=true
 | [],[],_,_,b=>by simp at b
 | _::_,_::_,h,v,b=>by
  rcases List.mem_cons.1 b with rfl | b
  ·exact h.1.one
  exact Ai.one h.2 v b
 |[],_::_,h,_,_|_::_,[],h,_,_=>h.elim
theorem mR {x:Cx} {a:AV} {v:Value} (h:Dx x a v):Bu x a v:=by cases a <;> first | exact h | exact h.elim
theorem ND {x:Cx} {a:AV} {v:Value} (h:Bu x a v) (ha:∀xs,a≠ .AF xs):Dx x a v:=by cases a <;> first | exact h | exact absurd rfl (ha _)
theorem C1 {x:Cx} {s:St} {a:Act} (h:∀i,Bu x (nth s.sl i) (a.tmps.getD i undef)) (o:Operand):Bu x (ev s.sl o) (a.eval o):=by
 cases o with
 | tmp t=>exact h t
 | func f=>exact Or.inr rfl
 | global g=>exact Or.inl rfl
 | const v=>
  show Bu x (Qr v) v
  unfold Qr
  split <;> first | exact Or.inr rfl | exact Or.inl rfl
def valOf (g:Bool) (vs:List Value):Value:=
 match g with
 | true=> .agg vs.toArray
 | false=>vs.headD undef
theorem ZH {x:Cx} {g:Bool} {cs:List AC} {vs:List Value} (h:Ai (BR x) cs vs) (b:g=false->cs.length=1):
  Bu x (Dh (g,cs)) (valOf g vs):=by
 cases g with
 | true=>exact⟨_,rfl,by simpa using h⟩
 | false=>
  have:=b rfl
  match cs,vs,h with
  | [c],[v],h=>exact Or.inr h.1
end Go.Abs
