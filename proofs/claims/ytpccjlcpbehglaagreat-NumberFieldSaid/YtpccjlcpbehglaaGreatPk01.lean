/- Part 2 of a proof. Conditions: each theorem's own. -/
import Derived.WalkKit
set_option linter.all false
set_option maxHeartbeats 8000000
namespace Go.Abs
 inductive T
  | u8 | u32 | u64 | i8 | i64 | bool | sl (t:T) | pr (a b:T)
abbrev el:T→Type
 | .u8=>UInt8 | .u32=>UInt32 | .u64=>UInt64 | .i8=>Int | .i64=>Int | .bool=>Bool
 | .sl t=>List (el t) | .pr a b=>el a×el b
def T.size:T→Nat
 | .pr a b=>a.size+b.size
 | _=>1
def T.beq:T→T→Bool
 | .u8,.u8=>true | .u32,.u32=>true | .u64,.u64=>true | .i8,.i8=>true | .i64,.i64=>true | .bool,.bool=>true
 | .sl a,.sl b=>a.beq b
 | .pr a b,.pr c d=>a.beq c&&b.beq d
 | _,_=>false
def T.agg:T→Bool
 | .pr _ _=>true
 | _=>false
 inductive AC
  | junk | int (k:IntKind) (n:Int) | bool (b:Bool) | fn (f:FuncId) | nil
  | sl (t:T) (l:List (el t))
  | lsl (t:T) (id ver off len:Nat)
  | csl (t:T) (id ver off len:Nat)
  | lptr (id ver off:Nat)
  | eptr (t:T) (id ver i k:Nat)
  | pptr (t:T) (x:el t) (off:Nat)
  | ub (e:Bool)
  | own (t:T) (l:List (el t)) (n:Nat)
 inductive AV
  | one (c:AC) | agg (cs:List AC) | tup (xs:List (Bool×List AC))
 inductive Blk
  | var (ver:Nat) (cs:List AC)
  | arr (ver:Nat) (t:T) (l:List (el t))
  | dead (ver:Nat)
def Blk.ver:Blk→Nat
 | .var v _=>v | .arr v _ _=>v | .dead v=>v
def cells:(t:T)→el t→List AC
 | .u8,x=>[.int .u8 x.toNat]
 | .u32,x=>[.int .u32 x.toNat]
 | .u64,x=>[.int .u64 x.toNat]
 | .i8,x=>[.int .i8 x]
 | .i64,x=>[.int .i64 x]
 | .bool,x=>[.bool x]
 | .sl t,l=>[.sl t l]
 | .pr a b,x=>cells a x.1++cells b x.2
structure LenIs (n:Int) (k:Nat):Prop where
 eq:n=k
 le:k≤140737488355328
structure NatIs (n:Int) (k:Nat):Prop where
 eq:n=k
structure U8Is (n:Int) (x:UInt8):Prop where
 eq:n=x.toNat
structure U32Is (n:Int) (x:UInt32):Prop where
 eq:n=x.toNat
structure U64Is (n:Int) (x:UInt64):Prop where
 eq:n=x.toNat
def cellsK:(t:T)→el t→(List AC→Prop)→Prop
 | .u8,x,K=>∀n,U8Is n x→K [.int .u8 n]
 | .u32,x,K=>∀n,U32Is n x→K [.int .u32 n]
 | .u64,x,K=>∀n,U64Is n x→K [.int .u64 n]
 | .i8,x,K=>K [.int .i8 x]
 | .i64,x,K=>K [.int .i64 x]
 | .bool,x,K=>K [.bool x]
 | .sl t,l,K=>K [.sl t l]
 | .pr a b,x,K=>cellsK a x.1 fun l=>cellsK b x.2 fun m=>K (l++m)
theorem cellsK_iff:∀(t:T) (x:el t) (K:List AC→Prop),cellsK t x K↔K (cells t x)
 | .u8,x,K=>⟨fun h=>h _ ⟨rfl⟩,fun h n hn=>by rw[hn.eq];exact h⟩
 | .u32,x,K=>⟨fun h=>h _ ⟨rfl⟩,fun h n hn=>by rw[hn.eq];exact h⟩
 | .u64,x,K=>⟨fun h=>h _ ⟨rfl⟩,fun h n hn=>by rw[hn.eq];exact h⟩
 | .i8,_,_=>Iff.rfl
 | .i64,_,_=>Iff.rfl
 | .bool,_,_=>Iff.rfl
 | .sl _,_,_=>Iff.rfl
 | .pr a b,x,K=>by
  show cellsK a x.1 _↔_
  rw[cellsK_iff a x.1,cellsK_iff b x.2]
  rfl
def mk1:Bool×List AC→AV
 | (true,cs)=> .agg cs
 | (false,c::_)=> .one c
 | (false,[])=> .one .junk
def AV.cs:AV→List AC
 | .one c=>[c]
 | .agg cs=>cs
 | .tup _=>[]
def AV.full:AV→Bool
 | .one .junk=>false
 | .one _=>true
 | .agg _=>true
 | .tup _=>false
def AV.comp:AV→Bool×List AC
 | .one c=>(false,[c])
 | .agg cs=>(true,cs)
 | .tup _=>(false,[])
def comp (t:T) (x:el t):Bool×List AC:=(t.agg,cells t x)
def aval (t:T) (x:el t):AV:=mk1 (comp t x)
structure St where
 sl:List AV
 bk:List (Option Blk)
def nth:List AV→Nat→AV
 | [],_=> .one .junk
 | a::_,0=>a
 | _::l,n+1=>nth l n
def nthb:List (Option Blk)→Nat→Option Blk
 | [],_=>none
 | a::_,0=>a
 | _::l,n+1=>nthb l n
def setn {α:Type}:List α→Nat→α→List α
 | [],_,_=>[]
 | _::l,0,x=>x::l
 | a::l,n+1,x=>a::setn l n x
def ver (bk:Nat→Option Blk) (id:Nat):Nat:=
 match bk id with
 | some b=>b.ver
 | none=>0
structure Info where
 known:Bool:=true
 size:Nat:=1
 agg:Bool:=false
 zero:List AC:=[]
 kind:Option IntKind:=none
 isB:Bool:=false
 sl:Bool:=false
 eid:TypeId:=0
 elem:T:= .bool
 zel:el elem
 ebytes:Nat:=0
 fields:List (Nat×Nat×Bool):=[]
def cval:Value→AV
 | .int k n=> .one (.int k n)
 | .bool b=> .one (.bool b)
 | .slice none 0 0=> .one .nil
 | _=> .one .junk
def ev (s:List AV):Operand→AV
 | .tmp t=>nth s t
 | .const v=>cval v
 | .func f=> .one (.fn f)
 | .global _=> .one .junk
structure Eff where
 v:AV
 ws:List (Nat×Blk):=[]
 rd:List Nat:=[]
def in64 (n:Int):Prop:= -9223372036854775808≤n∧n<9223372036854775808
def fits (n b:Nat):Prop:=n*b≤140737488355328
def arith (op:BinOp) (k:IntKind) (a b:Int) (K:AC→Prop):Prop:=
 match op,k with
 | .add,.i64=>∀c,c=a+b→(Unit→in64 c)∧K (.int .i64 c)
 | .sub,.i64=>∀c,c=a-b→(Unit→in64 c)∧K (.int .i64 c)
 | .mul,.i64=>∀c,c=a*b→(Unit→in64 c)∧K (.int .i64 c)
 | .quo,.i64=>∀c,c=a/b→(Unit→0≤a∧0<b∧in64 c)∧K (.int .i64 c)
 | .rem,.i64=>∀c,c=a%b→(Unit→0≤a∧0<b)∧K (.int .i64 c)
 | .add,k=>∀c,c=k.wrap (a+b)→K (.int k c)
 | .sub,k=>∀c,c=k.wrap (a-b)→K (.int k c)
 | .mul,k=>∀c,c=k.wrap (a*b)→K (.int k c)
 | .quo,k=>∀c,c=k.wrap (a/b)→(Unit→0≤a∧0<b)∧K (.int k c)
 | .rem,k=>∀c,c=a%b→(Unit→0≤a∧0<b)∧K (.int k c)
 | .and,k=>∀c,c=k.wrap (BitVec.ofInt k.bits a &&& BitVec.ofInt k.bits b).toNat→K (.int k c)
 | .or,k=>∀c,c=k.wrap (BitVec.ofInt k.bits a ||| BitVec.ofInt k.bits b).toNat→K (.int k c)
 | .xor,k=>∀c,c=k.wrap (BitVec.ofInt k.bits a ^^^ BitVec.ofInt k.bits b).toNat→K (.int k c)
 | .andNot,k=>∀c,c=k.wrap (BitVec.ofInt k.bits a &&& ~~~ BitVec.ofInt k.bits b).toNat→K (.int k c)
 | .shl,k=>∀c,c=k.wrap (a*2^min b.toNat k.bits)→(Unit→0≤b)∧K (.int k c)
 | .shr,k=>∀c,c=a.fdiv (2^min b.toNat k.bits)→(Unit→0≤b)∧K (.int k c)
 | .eql,_=>∀c,c=(a==b)→K (.bool c)
 | .neq,_=>∀c,c=(a !=b)→K (.bool c)
 | .lss,_=>∀c,c=decide (a<b)→K (.bool c)
 | .leq,_=>∀c,c=decide (a≤b)→K (.bool c)
 | .gtr,_=>∀c,c=decide (a>b)→K (.bool c)
 | .geq,_=>∀c,c=decide (a ≥ b)→K (.bool c)
def takeC (cs:List AC):Nat→Nat→List AC
 | 0,n=>cs.take n
 | off+1,n=>match cs with
  | []=>[]
  | _::cs=>takeC cs off n
def putN {α:Type}:List α→Nat→List α→List α
 | cs,0,[]=>cs
 | [],0,_::_=>[]
 | _::cs,0,x::xs=>x::putN cs 0 xs
 | [],_+1,_=>[]
 | c::cs,off+1,xs=>c::putN cs off xs
def ld (i:Info) (cs:List AC) (off:Nat):AV:=mk1 (i.agg,takeC cs off i.size)
def snapC (bk:Nat→Option Blk):AC→AC→Prop
 | .lsl t id v off len,c=>∃l,bk id=some (.arr v t l)∧off+len≤l.length∧c= .sl t ((l.drop off).take len)
 | .nil,c=>c= .nil∨∃t,c= .sl t []
 | .int k n,c=>c= .int k n
 | .bool b,c=>c= .bool b
 | .fn f,c=>c= .fn f
 | .sl t l,c=>c= .sl t l
 | _,_=>False
def leC:AC→AC→Prop
 | .nil,c=>c= .nil∨∃t,c= .sl t []
 | .int k n,c=>c= .int k n
 | .bool b,c=>c= .bool b
 | .fn f,c=>c= .fn f
 | .sl t l,c=>c= .sl t l
 | _,_=>False
def allC (R:AC→AC→Prop):List AC→List AC→Prop
 | [],[]=>True
 | a::l,b::m=>R a b∧allC R l m
 | _,_=>False
def leV (R:AC→AC→Prop):AV→AV→Prop
 | .one a,.one b=>R a b
 | .agg l,.agg m=>allC R l m
 | _,_=>False
def allV (R:AC→AC→Prop):List AV→List AV→Prop
 | [],[]=>True
 | a::l,b::m=>leV R a b∧allV R l m
 | _,_=>False
def idsC:AC→List Nat
 | .lsl _ id _ _ _=>[id]
 | _=>[]
def idsV:List AV→List Nat
 | []=>[]
 | .one c::r=>idsC c++idsV r
 | .agg cs::r=>cs.flatMap idsC++idsV r
 | .tup _::r=>idsV r
def gotC (d v:Nat):AC→AC
 | .own t _ n=> .lsl t d v 0 n
 | c=>c
def gotV (d v:Nat):AV→AV
 | .one c=> .one (gotC d v c)
 | .agg cs=> .agg (cs.map (gotC d v))
 | .tup xs=> .tup (xs.map fun x=>(x.1,x.2.map (gotC d v)))
def ownC (d v:Nat):List AC→List (Nat×Blk)
 | []=>[]
 | .own t l _::_=>[(d,.arr v t l)]
 | _::r=>ownC d v r
def ownV (d v:Nat):AV→List (Nat×Blk)
 | .one c=>ownC d v [c]
 | .agg cs=>ownC d v cs
 | .tup xs=>ownC d v (xs.flatMap (·.2))
abbrev Con:=Bool→FuncId→List AV→AV→Prop
abbrev ConB:=FuncId→AC→Blk→List AV→AV→Blk→Prop
abbrev ConD:=FuncId→List AV→Blk→AV→Prop
structure Env where
 C:Con
 B:ConB
 D:ConD
def lendC (id v:Nat):AC→AC→Prop
 | .lsl t i w off len,c=>(i=id∧w=v)∧c= .lsl t 0 0 off len
 | .nil,c=>c= .nil∨∃t,c= .sl t []
 | .int k n,c=>c= .int k n
 | .bool b,c=>c= .bool b
 | .fn f,c=>c= .fn f
 | .sl t l,c=>c= .sl t l
 | _,_=>False
def fillC (places:List (Nat×Nat×Bool)) (e:Operand→AV):List (Nat×Operand)→List AC→Option (List AC)
 | [],cs=>some cs
 | (i,x)::r,cs=>match places[i]? with
  | some (off,n,_)=>if (e x).cs.length=n∧(e x).full=true∧off+n≤cs.length then fillC places e r (putN cs off (e x).cs) else none
  | none=>none
def renC (id v:Nat):AC→AC
 | .lsl t _ _ off len=> .lsl t id v off len
 | .lptr _ _ off=> .lptr id v off
 | .eptr t _ _ i k=> .eptr t id v i k
 | c=>c
def renV (id v:Nat):AV→AV
 | .one c=> .one (renC id v c)
 | .agg cs=> .agg (cs.map (renC id v))
 | .tup xs=> .tup (xs.map fun x=>(x.1,x.2.map (renC id v)))
def Blk.setVer (v:Nat):Blk→Blk
 | .var _ cs=> .var v cs
 | .arr _ t l=> .arr v t l
 | .dead _=> .dead v
def refC:AC→Option (Nat×Nat)
 | .lsl _ id v _ _=>some (id,v)
 | .lptr id v _=>some (id,v)
 | _=>none
def T.flat:T→Bool
 | .sl _=>false
 | .pr a b=>a.flat&&b.flat
 | _=>true
def flatB:Blk→Bool
 | .arr _ t _=>t.flat
 | _=>false
def lentF:AC→Bool
 | .int _ _=>true
 | .bool _=>true
 | .fn _=>true
 | .nil=>true
 | .lsl _ 0 0 _ _=>true
 | _=>false
def AV.all (p:AC→Bool):AV→Bool
 | .one c=>p c
 | .agg cs=>cs.all p
 | .tup xs=>xs.all fun x=>x.2.all p
def pureC:AC→Bool
 | .junk=>true | .int _ _=>true | .bool _=>true | .fn _=>true | .nil=>true | .sl _ _=>true
 | _=>false
def acall (E:Env) (g:FuncId) (args:List AV) (d:Nat) (bk:Nat→Option Blk) (K:Eff→Prop):Prop:=
 (∃args' r,(Unit→allV leC args args')∧(Unit→E.C false g args' r)∧
  K ⟨gotV d (ver bk d+1) r,ownV d (ver bk d+1) r,[d]⟩)∨
 (∃args' r,(Unit→allV (snapC bk) args args')∧(Unit→E.C true g args' r)∧
  K ⟨gotV d (ver bk d+1) r,ownV d (ver bk d+1) r,d::idsV args⟩)∨
 (match args with
  | .one c::rest=>match refC c with
   | some (id,v)=>match bk id with
    | some b=>if b.ver=v then ∃args' r b1,(Unit→id ∉ idsV rest∧allV (snapC bk) rest args')∧(Unit→E.B g (renC 0 0 c) (b.setVer 0) args' r b1∧flatB b1=true∧r.all lentF=true)∧
     K ⟨renV id v r,[(id,b1.setVer v)],id::idsV rest⟩ else False
    | none=>False
   | none=>False
  | _=>False)∨
 (∃(id:Nat) (b:Blk) (args':List AV) (r:AV),(Unit→bk id=some b∧allV (lendC id b.ver) args args')∧(Unit→E.D g args' (b.setVer 0) r)∧K ⟨r,[],[id]⟩)∨
 (∃(id:Nat) (b:Blk) (args':List AV) (r:AV),(Unit→(id≠0∧bk id=some b∧((idsV args).all fun k=>k==id)=true)∧allV (snapC bk) args args')∧(Unit→E.C false g args' r∧r.all pureC=true)∧K ⟨r,[(id,.dead b.ver)],[id]⟩)
def abuiltin (TI:TypeId→Info) (b:Builtin) (tys:List TypeId) (args:List AV) (d:Nat) (bk:Nat→Option Blk) (K:Eff→Prop):Prop:=
 match b,tys,args with
 | .len,[t0],[.one (.sl _ l)]=>(TI t0).sl=true∧∀n,LenIs n l.length→K ⟨.one (.int .i64 n),[],[]⟩
 | .len,[t0],[.one (.csl _ id v _ len)]=>(TI t0).sl=true∧if ver bk id=v then ∀n,NatIs n len→K ⟨.one (.int .i64 n),[],[id]⟩ else False
 | .len,[t0],[.one (.lsl _ id v _ len)]=>(TI t0).sl=true∧if ver bk id=v then ∀n,NatIs n len→K ⟨.one (.int .i64 n),[],[id]⟩ else False
 | .len,[t0],[.one .nil]=>(TI t0).sl=true∧K ⟨.one (.int .i64 0),[],[]⟩
 | .cap,[t0],[.one .nil]=>(TI t0).sl=true∧K ⟨.one (.int .i64 0),[],[]⟩
 | .min,_,[.one (.int k a),.one (.int _ b)]=>∀c,c=(if b<a then b else a)→K ⟨.one (.int k c),[],[]⟩
 | .append,[t0,t1],[.one .nil,.one x]=>
  ((TI t0).sl=true∧(TI t1).sl=true)∧∃l2:List (el (TI t0).elem),(Unit→snapC bk x (.sl _ l2)∧fits l2.length (TI t0).ebytes)∧
    ∀n,n=l2.length→K ⟨.one (.lsl (TI t0).elem d (ver bk d+1) 0 n),[(d,.arr (ver bk d+1) _ l2)],d::idsC x⟩
 | .append,[t0,t1],[.one (.csl t id v off len),.one x]=>
  ((TI t0).sl=true∧(TI t1).sl=true)∧match bk id with
    | some (.arr v' t' l)=>if v'=v∧T.beq t' t=true∧T.beq t' (TI t0).elem=true then
     ∃l2:List (el t'),(Unit→off=0∧len≤l.length∧snapC bk x (.sl _ l2)∧fits (len+l2.length) (TI t0).ebytes)∧
      ∀l' n,(l'=l.take len++l2∧n=l'.length)→K ⟨.one (.lsl t' id (v+1) 0 n),[(id,.arr (v+1) t' l')],id::idsC x⟩
     else False
    | _=>False
 | .append,[t0,t1],[.one (.lsl t id v off len),.one x]=>
  ((TI t0).sl=true∧(TI t1).sl=true)∧match bk id with
    | some (.arr v' t' l)=>if v'=v∧T.beq t' t=true∧T.beq t' (TI t0).elem=true then
     ∃l2:List (el t'),(Unit→off=0∧len=l.length∧snapC bk x (.sl _ l2)∧fits (l.length+l2.length) (TI t0).ebytes)∧
      ∀l' n,(l'=l++l2∧n=l'.length)→K ⟨.one (.lsl t' id (v+1) 0 n),[(id,.arr (v+1) t' l')],id::idsC x⟩
     else False
    | _=>False
 | _,_,_=>False
def sealE (K:Eff→Prop) (f:Eff):Prop:=
 match f.v,f.ws with
 | .one (.lsl t id v off n),[(i,.arr v' t' l)]=>if (id !=0&&id==i&&v==v'&&off==0&&T.beq t t')=true then (Unit→n=l.length)∧K ⟨.one (.sl t' l),[(id,.dead v)],f.rd⟩ else False
 | _,_=>False
def abuiltinS (TI:TypeId→Info) (b:Builtin) (tys:List TypeId) (args:List AV) (d:Nat) (bk:Nat→Option Blk) (K:Eff→Prop):Prop:=
 match b with
 | .append=>abuiltin TI b tys args d bk K∨abuiltin TI b tys args d bk (sealE K)
 | _=>abuiltin TI b tys args d bk K
def allC2:List (Nat×List AC)→Nat→List (List AC)→Prop
 | [],_,[]=>True
 | p::r,k,x::m=>p.1=k∧allC leC p.2 x∧allC2 r (k+1) m
 | _,_,_=>False
def asliceB (len:Nat) (lo hi mx:Option AV) (K:Nat→Nat→Bool→Prop):Prop:=
 match lo,hi,mx with
 | none,none,none=>∀h,h=len→K 0 h false
 | some (.one (.int _ a)),none,none=>(Unit→0≤a∧a.toNat≤len)∧∀l h,(l=a.toNat∧h=len)→K l h false
 | none,some (.one (.int _ b)),none=>(Unit→0≤b∧b.toNat≤len)∧∀h,h=b.toNat→K 0 h false
 | some (.one (.int _ a)),some (.one (.int _ b)),none=>(Unit→0≤a∧a≤b∧b.toNat≤len)∧∀l h,(l=a.toNat∧h=b.toNat)→K l h false
 | none,some (.one (.int _ b)),some (.one (.int _ m))=>(Unit→0≤b∧b=m∧m.toNat≤len)∧∀h,h=b.toNat→K 0 h true
 | _,_,_=>False
def aslice (bk:Nat→Option Blk) (u:T) (x:AV) (lo hi mx:Option AV) (K:Eff→Prop):Prop:=
 match x with
 | .one (.sl t l)=>T.beq t u=true∧∀n,n=l.length→asliceB n lo hi mx fun a b _=>∀l',l'=(l.take b).drop a→K ⟨.one (.sl t l'),[],[]⟩
 | .one (.lsl t id v off len)=>T.beq t u=true∧if ver bk id=v then asliceB len lo hi mx fun a b c=>∀o n,(o=off+a∧n=b-a)→
  match c with | true=>K ⟨.one (.csl t id v o n),[],[id]⟩ | false=>K ⟨.one (.lsl t id v o n),[],[id]⟩
  else False
 | .one .nil=>asliceB 0 lo hi mx fun _ _ _=>K ⟨.one .nil,[],[]⟩
 | _=>False
def aop (E:Env) (TI:TypeId→Info) (o:Oper) (d:Nat) (e:Operand→AV) (bk:Nat→Option Blk) (K:Eff→Prop):Prop:=
 match o.op with
 | .move x=>K ⟨e x,[],[]⟩
 | .assign x=>K ⟨e x,[],[]⟩
 | .nilCheck x=>match e x with
  | .one (.lptr id v off)=>if ver bk id=v then K ⟨e x,[],[id]⟩ else False
  | .one (.fn _)=>K ⟨e x,[],[]⟩
  | _=>False
 | .pick c a b=>match e c with
  | .one (.bool true)=>K ⟨e a,[],[]⟩
  | .one (.bool false)=>K ⟨e b,[],[]⟩
  | _=>False
 | .alloc t=>(TI t).known=true∧K ⟨.one (.lptr d (ver bk d+1) 0),[(d,.var (ver bk d+1) (TI t).zero)],[d]⟩
 | .box _ x=>match e x with
  | .tup _=>False
  | .one .junk=>False
  | v=>K ⟨.one (.lptr d (ver bk d+1) 0),[(d,.var (ver bk d+1) v.cs)],[d]⟩
 | .extract t i=>match e t with
  | .tup xs=>match xs[i]? with
   | some x=>K ⟨mk1 x,[],[]⟩
   | none=>False
  | _=>False
 | .load t a=>(TI t).known=true∧match e a with
  | .one (.lptr id v off)=>match bk id with
   | some (.var v' cs)=>if v'=v∧(takeC cs off (TI t).size).length=(TI t).size then K ⟨ld (TI t) cs off,[],[id]⟩ else False
   | _=>False
  | .one (.pptr t' x off)=>cellsK t' x fun cs=>if (takeC cs off (TI t).size).length=(TI t).size then K ⟨ld (TI t) cs off,[],[]⟩ else False
  | .one (.eptr t' id v i k)=>match bk id with
   | some (.arr v' u l)=>if v'=v∧T.beq t' u=true then ∃x:el u,(Unit→l[i]? =some x)∧cellsK u x fun cs=>
    if (takeC cs k (TI t).size).length=(TI t).size then K ⟨ld (TI t) cs k,[],[id]⟩ else False
    else False
   | _=>False
  | _=>False
 | .store t a x=>(TI t).known=true∧match e a with
  | .one (.lptr id v off)=>match bk id,e x with
   | _,.tup _=>False
   | _,.one .junk=>False
   | some (.var v' cs),y=>if v'=v∧y.cs.length=(TI t).size∧off+(TI t).size≤cs.length then
    K ⟨.one .junk,[(id,.var v (putN cs off y.cs))],[id]⟩ else False
   | _,_=>False
  | .one (.eptr t' id v i k)=>match bk id,e x with
   | _,.tup _=>False
   | _,.one .junk=>False
   | some (.arr v' u l),y=>if v'=v∧k=0∧(TI t).size=u.size∧T.beq t' u=true then
    ∃z:el u,(Unit→i<l.length∧allC leC y.cs (cells u z))∧∀l',l'=l.set i z→K ⟨.one .junk,[(id,.arr v u l')],[id]⟩
    else False
   | _,_=>False
  | _=>False
 | .fieldAddr s x f=>(TI s).known=true∧match (TI s).fields[f]?,e x with
  | some (fo,_,_),.one (.lptr id v off)=>if ver bk id=v then K ⟨.one (.lptr id v (off+fo)),[],[id]⟩ else False
  | some (fo,_,_),.one (.pptr t y off)=>K ⟨.one (.pptr t y (off+fo)),[],[]⟩
  | some (fo,_,_),.one (.eptr t id v i k)=>if ver bk id=v then K ⟨.one (.eptr t id v i (k+fo)),[],[id]⟩ else False
  | _,_=>False
 | .field s x f=>(TI s).known=true∧match (TI s).fields[f]?,e x with
  | some (fo,n,g),.agg cs=>if (takeC cs fo n).length=n then K ⟨mk1 (g,takeC cs fo n),[],[]⟩ else False
  | _,_=>False
 | .build t parts=>((TI t).known=true∧(TI t).fields.isEmpty=false)∧match fillC (TI t).fields e parts.toList (TI t).zero with
  | some cs=>K ⟨.agg cs,[],[]⟩
  | none=>False
 | .buildSlice t len parts=>(TI t).sl=true∧(TI t).elem.size≤16∧∃xs:List (el (TI t).elem),
  (Unit→xs.length=len∧len≤1048576∧(parts.toList.all fun p=>(e p.2).full)=true∧allC2 (parts.toList.map fun p=>(p.1,(e p.2).cs)) 0 (xs.map (cells _)))∧
  (K ⟨.one (.lsl (TI t).elem d (ver bk d+1) 0 len),[(d,.arr (ver bk d+1) _ xs)],[d]⟩∨K ⟨.one (.sl (TI t).elem xs),[],[]⟩)
 | .makeSlice t l c=>(TI t).sl=true∧match e l,e c with
  | .one (.int _ n),.one (.int _ m)=>(Unit→0≤n∧n≤m∧fits m.toNat (TI t).ebytes)∧
   ∀k z,(k=n.toNat∧z=List.replicate k (TI t).zel)→K ⟨.one (.lsl (TI t).elem d (ver bk d+1) 0 k),[(d,.arr (ver bk d+1) _ z)],[d]⟩
  | _,_=>False
 | .indexAddr t x i=>(TI t).sl=true∧match e x,e i with
  | .one (.sl t' l),.one (.int _ n)=>T.beq t' (TI t).elem=true∧∃x,(Unit→0≤n∧l[n.toNat]? =some x)∧K ⟨.one (.pptr t' x 0),[],[]⟩
  | .one (.lsl t' id v off len),.one (.int _ n)=>T.beq t' (TI t).elem=true∧if ver bk id=v then (Unit→0≤n∧n.toNat<len)∧∀j,j=off+n.toNat→K ⟨.one (.eptr t' id v j 0),[],[id]⟩ else False
  | _,_=>False
 | .slice t x lo hi mx=>(TI t).sl=true∧aslice bk (TI t).elem (e x) (lo.map e) (hi.map e) (mx.map e) K
 | .binOp op bt x y _=>match e x,e y with
  | .one (.int k a),.one (.int k' b)=>if k=k'∨op= .shl∨op= .shr then arith op k a b fun c=>K ⟨.one c,[],[]⟩ else False
  | .one (.bool a),.one (.bool b)=>(TI bt).isB=true∧match op with
   | .eql=>∀c,c=(a==b)→K ⟨.one (.bool c),[],[]⟩
   | .neq=>∀c,c=(a !=b)→K ⟨.one (.bool c),[],[]⟩
   | _=>False
  | .one (.sl _ l),.one .nil=>(TI bt).sl=true∧match op with
   | .eql=>∀c,c=l.isEmpty→K ⟨.one (.ub c),[],[]⟩
   | _=>False
  | _,_=>False
 | .unOp op _ x=>match op,e x with
  | .not,.one (.bool b)=>∀c,c= !b→K ⟨.one (.bool c),[],[]⟩
  | .neg,.one (.int k n)=>arith .sub k 0 n fun c=>K ⟨.one c,[],[]⟩
  | _,_=>False
 | .convert src dst x=>(TI src).known=true∧match (TI dst).kind,e x with
  | some k,.one (.int _ n)=>∀c,c=k.wrap n→K ⟨.one (.int k c),[],[]⟩
  | _,_=>False
 | .call c=>match c.callee with
  | .builtin b=>abuiltinS TI b c.argTypes.toList (c.args.toList.map e) d bk K
  | .value f=>match e f with
   | .one (.fn g)=>acall E g (c.args.toList.map e) d bk K
   | _=>False
  | .invoke _ _=>False
 | _=>False
def putWs:List (Nat×Blk)→List (Option Blk)→List (Option Blk)
 | [],b=>b
 | w::r,b=>putWs r (setn b w.1 (some w.2))
def putD (l:List AV):Option Nat→AV→List AV
 | some d,v=>setn l d v
 | none,_=>l
def St.app (s:St) (d:Option Nat) (f:Eff):St:=⟨putD s.sl d f.v,putWs f.ws s.bk⟩
def dstOf (o:Oper):Nat:=o.dst.getD 1000000
abbrev Tr:=List (List Nat×List Nat)
def gslot (ops:List Oper) (j:Nat):Option Nat:=(ops[j]?).bind (·.dst)
def otmps (o:Oper):List Nat:=o.op.operands.toList.filterMap fun | .tmp t=>some t | _=>none
def onames (ops:List Oper) (o:Oper):List Nat:=
 o.dst.toList++otmps o++(match o.guard with | some (j,_)=>(gslot ops j).toList | none=>[])
def anyOn (o:Oper):List Nat:=(o.after.toList.filter fun e=>Region.binds .any e).map (·.on)
def befs:List Oper→List (List Nat)→List (List Nat)
 | [],acc=>acc
 | o::r,acc=>befs r (acc++[(anyOn o).flatMap fun j=>j::acc.getD j []])
def disj (a b:List Nat):Bool:=a.all fun x=> !b.contains x
def apartX (ops:List Oper) (oi oj:Oper) (ti tj:List Nat×List Nat):Bool:=
 disj oi.dst.toList (onames ops oj)&&disj oj.dst.toList (onames ops oi)&&
 disj ti.2 (tj.1++tj.2)&&disj tj.2 ti.1
def okPairs (ops:List Oper) (tr:Tr) (bs:List (List Nat)):Bool:=
 (List.range ops.length).all fun j=>(List.range j).all fun i=>
  (bs.getD j []).contains i||
   (match ops[i]?,ops[j]?,tr[i]?,tr[j]? with
    | some oi,some oj,some ti,some tj=>apartX ops oi oj ti tj
    | _,_,_,_=>false)
def backB (ops:List Oper):Bool:=
 (List.range ops.length).all fun j=>match ops[j]? with | some o=>(anyOn o).all fun i=>decide (i<j) | none=>true
def okDraw (ops:List Oper) (tr:Tr):Bool:=backB ops&&okPairs ops tr (befs ops [])
def runOps (E:Env) (TI:TypeId→Info) (all:List Oper) (draw:Bool):List Oper→Tr→(St→Prop)→St→Prop
 | [],tr,Q,s=>match draw with
  | false=>Q s
  | true=>(Unit→okDraw all tr.reverse=true)∧Q s
 | o::r,tr,Q,s=>match o.guard with
  | none=>aop E TI o (dstOf o) (ev s.sl) (nthb s.bk) fun f=>runOps E TI all draw r ((f.rd,f.ws.map (·.1))::tr) Q (s.app o.dst f)
  | some (j,w)=>match gslot all j with
   | none=>False
   | some g=>match nth s.sl g,w with
    | .one (.bool true),true=>aop E TI o (dstOf o) (ev s.sl) (nthb s.bk) fun f=>runOps E TI all draw r ((f.rd,f.ws.map (·.1))::tr) Q (s.app o.dst f)
    | .one (.bool false),false=>aop E TI o (dstOf o) (ev s.sl) (nthb s.bk) fun f=>runOps E TI all draw r ((f.rd,f.ws.map (·.1))::tr) Q (s.app o.dst f)
    | .one (.bool true),false=>runOps E TI all draw r (([],[])::tr) Q (s.app o.dst ⟨.tup [],[],[]⟩)
    | .one (.bool false),true=>runOps E TI all draw r (([],[])::tr) Q (s.app o.dst ⟨.tup [],[],[]⟩)
    | .tup [],_=>runOps E TI all draw r (([],[])::tr) Q (s.app o.dst ⟨.tup [],[],[]⟩)
    | _,_=>False
 inductive AX
  | nrm | exit (n:Nat) | ret
def normC (bk:Nat→Option Blk) (bs:List Nat):AC→AC
 | .lsl t id v off len=>if bs.contains id&&ver bk id==v then .lsl t id 0 off len else .junk
 | .lptr id v off=>if bs.contains id&&ver bk id==v then .lptr id 0 off else .junk
 | .eptr t id v i k=>if bs.contains id&&ver bk id==v then .eptr t id 0 i k else .junk
 | .csl _ _ _ _ _=> .junk
 | c=>c
def normV (bk:Nat→Option Blk) (bs:List Nat):AV→AV
 | .one c=> .one (normC bk bs c)
 | .agg cs=> .agg (cs.map (normC bk bs))
 | .tup _=> .one .junk
def normB (bk:Nat→Option Blk) (bs:List Nat):Blk→Blk
 | .var _ cs=> .var 0 (cs.map (normC bk bs))
 | .arr _ t l=> .arr 0 t l
 | .dead _=> .dead 0
def keepS (s:St) (bs:List Nat):List Nat→List AV
 | []=>[]
 | k::r=>normV (nthb s.bk) bs (nth s.sl k)::keepS s bs r
def keepB (s:St) (bs:List Nat):List Nat→List Blk
 | []=>[]
 | k::r=>(match nthb s.bk k with | some b=>if k==0&&b.ver !=0 then .dead 0 else normB (nthb s.bk) bs b | none=> .dead 0)::keepB s bs r
def putS:List Nat→List AV→List AV→List AV
 | k::ks,v::vs,l=>putS ks vs (setn l k v)
 | _,_,l=>l
def putB:List Nat→List Blk→List (Option Blk)→List (Option Blk)
 | k::ks,v::vs,l=>putB ks vs (setn l k (some v))
 | _,_,l=>l
def reps {α:Type}:Nat→α→List α
 | 0,_=>[]
 | n+1,x=>x::reps n x
def mkSt (n:Nat) (ks:List Nat) (vs:List AV) (bs:List Nat) (bl:List Blk):St:=
 ⟨putS ks vs (reps n (.one .junk)),putB bs bl (reps n none)⟩
def falls:Code→Bool
 | .skip=>true
 | .region _ _ _=>true
 | .seq a b=>falls a&&falls b
 | .cond _ a b=>falls a||falls b
 | .block _ _=>true
 | .loop _=>true
 | _=>false
def awp (E:Env) (TI:TypeId→Info) (n:Nat):Code→(AX→St→Prop)→St→Prop
 | .skip,Q,s=>Q .nrm s
 | .region _ ops draw,Q,s=>runOps E TI ops.toList draw ops.toList [] (Q .nrm) s
 | .seq a b,Q,s=>awp E TI n a (fun e s=>match e with | .nrm=>awp E TI n b Q s | .exit i=>Q (.exit i) s | .ret=>Q .ret s) s
 | .cond c a b,Q,s=>match falls a&&falls b with
  | true=>(∃(ks bs:List Nat) (J:List AV→List Blk→Prop),(∀vs bl,J vs bl→Q .nrm (mkSt n ks vs bs bl))∧
    match ev s.sl c with
    | .one (.bool true)=>awp E TI n a (fun e s'=>match e with | .nrm=>J (keepS s' bs ks) (keepB s' bs bs) | .exit i=>Q (.exit i) s' | .ret=>Q .ret s') s
    | .one (.bool false)=>awp E TI n b (fun e s'=>match e with | .nrm=>J (keepS s' bs ks) (keepB s' bs bs) | .exit i=>Q (.exit i) s' | .ret=>Q .ret s') s
    | .one (.ub u)=>(u=true→awp E TI n a (fun e s'=>match e with | .nrm=>J (keepS s' bs ks) (keepB s' bs bs) | .exit i=>Q (.exit i) s' | .ret=>Q .ret s') s)∧
     awp E TI n b (fun e s'=>match e with | .nrm=>J (keepS s' bs ks) (keepB s' bs bs) | .exit i=>Q (.exit i) s' | .ret=>Q .ret s') s
    | _=>False)∨
   (match ev s.sl c with
   | .one (.bool true)=>awp E TI n a Q s
   | .one (.bool false)=>awp E TI n b Q s
   | .one (.ub u)=>(u=true→awp E TI n a Q s)∧awp E TI n b Q s
   | _=>False)
  | false=>match ev s.sl c with
   | .one (.bool true)=>awp E TI n a Q s
   | .one (.bool false)=>awp E TI n b Q s
   | .one (.ub u)=>(u=true→awp E TI n a Q s)∧awp E TI n b Q s
   | _=>False
 | .block id c,Q,s=>(∃(ks bs:List Nat) (J:List AV→List Blk→Prop),(∀vs bl,J vs bl→Q .nrm (mkSt n ks vs bs bl))∧
   awp E TI n c (fun e s'=>match e with | .exit i=>if i=id then J (keepS s' bs ks) (keepB s' bs bs) else Q (.exit i) s' | .nrm=>J (keepS s' bs ks) (keepB s' bs bs) | .ret=>Q .ret s') s)∨
  awp E TI n c (fun e s=>match e with | .exit i=>if i=id then Q .nrm s else Q (.exit i) s | .nrm=>Q .nrm s | .ret=>Q .ret s) s
 | .loop c,Q,s=>∃(ks bs:List Nat) (J:List AV→List Blk→Nat→Prop),
  (∃k,J (keepS s bs ks) (keepB s bs bs) k)∧∀vs bl k,J vs bl k→
   awp E TI n c (fun e s'=>match e with
    | .nrm=>∃k',k'<k∧J (keepS s' bs ks) (keepB s' bs bs) k'
    | .exit i=>Q (.exit i) s' | .ret=>Q .ret s') (mkSt n ks vs bs bl)
 | .exit i,Q,s=>Q (.exit i) s
 | .ret,Q,s=>Q .ret s
 | _,_,_=>False
def resC (bk:Nat→Option Blk):AC→AC→Prop
 | .lsl t id v off len,c=>(∃l,bk id=some (.arr v t l)∧off+len≤l.length∧c= .sl t ((l.drop off).take len))∨
  (∃l n,id≠0∧bk id=some (.arr v t l)∧off=0∧len=l.length∧n=l.length∧c= .own t l n)∨
  (id=0∧v=0∧c= .lsl t 0 0 off len)
 | .nil,c=>c= .nil∨(∃t,c= .sl t [])∨∃t,c= .own t [] 0
 | .int k n,c=>c= .int k n
 | .bool b,c=>c= .bool b
 | .fn f,c=>c= .fn f
 | .sl t l,c=>c= .sl t l
 | _,_=>False
def resCs (bk:Nat→Option Blk):List (Bool×List AC)→List (Bool×List AC)→Prop
 | [],[]=>True
 | a::l,b::m=>(a.1=b.1∧allC (resC bk) a.2 b.2)∧resCs bk l m
 | _,_=>False
def isOwn:AC→Bool
 | .own _ _ _=>true
 | _=>false
def isLsl:AC→Bool
 | .lsl _ _ _ _ _=>true
 | .own _ _ _=>true
 | _=>false
def oneOwn (src:List (Bool×List AC)) (res:List (Bool×List AC)):Bool:=
 match (res.flatMap (·.2)).filter isOwn with
 | []=>true
 | [_]=>((src.flatMap (·.2)).filter isLsl).length≤1
 | _=>false
def AV.comps:AV→List (Bool×List AC)
 | .tup xs=>xs
 | v=>[v.comp]
def resVar (TI:TypeId→Info) (s:St):ResultVar→Option (Bool×List AC)
 | .tmp t=>some (nth s.sl t).comp
 | .cell a t=>match nth s.sl a with
  | .one (.lptr id v off)=>match nthb s.bk id with
   | some (.var v' cs)=>if (TI t).known&&v'==v&&(takeC cs off (TI t).size).length==(TI t).size then some ((TI t).agg,takeC cs off (TI t).size) else none
   | _=>none
  | _=>none
def resVars (TI:TypeId→Info) (s:St):List ResultVar→Option (List (Bool×List AC))
 | []=>some []
 | r::rs=>match resVar TI s r,resVars TI s rs with
  | some x,some xs=>some (x::xs)
  | _,_=>none
def notLent:AC→Bool
 | .lsl _ 0 _ _ _=>false
 | _=>true
def postD (TI:TypeId→Info) (rs:List ResultVar) (r:AV) (b0:Blk) (e:AX) (s:St):Prop:=
 match e with
 | .exit _=>False
 | _=>match resVars TI s rs with
  | some xs=>(Unit→(resCs (nthb s.bk) xs r.comps∧(xs.all fun x=>x.2.all notLent)=true∧(rs.length=1↔∀ys,r≠ .tup ys))∧nthb s.bk 0=some b0)
  | none=>False
def post (TI:TypeId→Info) (rs:List ResultVar) (r:AV) (b1:Option Blk) (e:AX) (s:St):Prop:=
 match e with
 | .exit _=>False
 | _=>match resVars TI s rs with
  | some xs=>(Unit→resCs (nthb s.bk) xs r.comps∧oneOwn xs r.comps=true∧(rs.length=1↔∀ys,r≠ .tup ys))∧
   (match b1 with | none=>True | some b=>Unit→nthb s.bk 0=some b)
  | none=>False
def st0 (n:Nat) (args:List AV) (b0:Option Blk):St:=
 ⟨args++reps (n-args.length) (.one .junk),match n with | 0=>[] | n+1=>b0::reps n none⟩
end Go.Abs
