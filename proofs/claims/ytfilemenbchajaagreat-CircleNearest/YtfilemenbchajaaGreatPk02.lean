/- Part 3 of a proof. Conditions: each theorem's own. -/
import Derived.WalkKit
set_option linter.all false
set_option maxHeartbeats 8000000
set_option maxRecDepth 20000
namespace Go.Abs
 inductive T
  | u8 | u32 | u64 | i8 | i64 | bool | sl (t:T) | pr (a b:T)
abbrev el:T->Type
 | .u8=>UInt8 | .u32=>UInt32 | .u64=>UInt64 | .i8=>Int | .i64=>Int | .bool=>Bool
 | .sl t=>List (el t) | .pr a b=>el a×el b
def T.size:T->Nat
 | .pr a b=>a.size+b.size
 | _=>1
def T.beq:T->T->Bool
 | .u8,.u8=>true | .u32,.u32=>true | .u64,.u64=>true | .i8,.i8=>true | .i64,.i64=>true | .bool,.bool=>true
 | .sl a,.sl b=>a.beq b
 | .pr a b,.pr c d=>a.beq c&&b.beq d
 | _,_=>false
def T.agg:T->Bool
 | .pr _ _=>true
 | _=>false
 inductive AC
  | BZ | int (k:IntKind) (n:Int) | bool (b:Bool) | fn (f:FuncId) | nil
  | sl (t:T) (l:List (el t))
  | AT (t:T) (id AW off len:Nat)
  | Cw (t:T) (id AW off len:Nat)
  | AD (id AW off:Nat)
  | Cd (t:T) (id AW i k:Nat)
  | C8 (t:T) (x:el t) (off:Nat)
  | ub (e:Bool)
  | own (t:T) (l:List (el t)) (n:Nat)
 inductive AV
  | one (c:AC) | agg (cs:List AC) | AE (xs:List (Bool×List AC))
 inductive AM
  | var (AW:Nat) (cs:List AC)
  | arr (AW:Nat) (t:T) (l:List (el t))
  | dead (AW:Nat)
def AM.AW:AM->Nat
 | .var v _=>v | .arr v _ _=>v | .dead v=>v
def cells:(t:T)->el t->List AC
 | .u8,x=>[.int .u8 x.toNat]
 | .u32,x=>[.int .u32 x.toNat]
 | .u64,x=>[.int .u64 x.toNat]
 | .i8,x=>[.int .i8 x]
 | .i64,x=>[.int .i64 x]
 | .bool,x=>[.bool x]
 | .sl t,l=>[.sl t l]
 | .pr a b,x=>cells a x.1++cells b x.2
structure Cb (n:Int) (k:Nat):Prop where
 eq:n=k
 le:k<=140737488355328
structure AS (n:Int) (k:Nat):Prop where
 eq:n=k
structure NH (n:Int) (x:UInt8):Prop where
 eq:n=x.toNat
structure Ja (n:Int) (x:UInt32):Prop where
 eq:n=x.toNat
structure XQ (n:Int) (x:UInt64):Prop where
 eq:n=x.toNat
def Ib:(t:T)->el t->(List AC->Prop)->Prop
 | .u8,x,K=>∀n,NH n x->K [.int .u8 n]
 | .u32,x,K=>∀n,Ja n x->K [.int .u32 n]
 | .u64,x,K=>∀n,XQ n x->K [.int .u64 n]
 | .i8,x,K=>K [.int .i8 x]
 | .i64,x,K=>K [.int .i64 x]
 | .bool,x,K=>K [.bool x]
 | .sl t,l,K=>K [.sl t l]
 | .pr a b,x,K=>Ib a x.1 fun l=>Ib b x.2 fun m=>K (l++m)
theorem Js:∀(t:T) (x:el t) (K:List AC->Prop),Ib t x K↔K (cells t x)
 |.u8,x,K|.u32,x,K|.u64,x,K=>⟨fun h=>h _ ⟨rfl⟩,fun h n c=>by rw[c.eq];exact h⟩
 |.i8,_,_|.i64,_,_|.bool,_,_|.sl _,_,_=>Iff.rfl
 | .pr a b,x,K=>by
  show Ib a x.1 _↔_
  rw[Js a x.1,Js b x.2]
  rfl
def Cz:Bool×List AC->AV
 | (true,cs)=> .agg cs
 | (false,c::_)=> .one c
 | (false,[])=> .one .BZ
def AV.cs:AV->List AC
 | .one c=>[c]
 | .agg cs=>cs
 | .AE _=>[]
def AV.full:AV->Bool
 | .one .BZ=>false
 |.one _|.agg _=>true
 | .AE _=>false
def AV.comp:AV->Bool×List AC
 | .one c=>(false,[c])
 | .agg cs=>(true,cs)
 | .AE _=>(false,[])
def comp (t:T) (x:el t):Bool×List AC:=(t.agg,cells t x)
def RW (t:T) (x:el t):AV:=Cz (comp t x)
structure St where
 sl:List AV
 bk:List (Option AM)
def nth:List AV->Nat->AV
 | [],_=> .one .BZ
 | a::_,0=>a
 | _::l,n+1=>nth l n
def AF:List (Option AM)->Nat->Option AM
 | [],_=>none
 | a::_,0=>a
 | _::l,n+1=>AF l n
def BG {α:Type}:List α->Nat->α->List α
 | [],_,_=>[]
 | _::l,0,x=>x::l
 | a::l,n+1,x=>a::BG l n x
def AW (bk:Nat->Option AM) (id:Nat):Nat:=
 match bk id with
 | some b=>b.AW
 | none=>0
structure Info where
 known:Bool:=true
 size:Nat:=1
 agg:Bool:=false
 zero:List AC:=[]
 kind:Option IntKind:=none
 Lz:Bool:=false
 sl:Bool:=false
 Cs:TypeId:=0
 elem:T:= .bool
 B8:el elem
 Eo:Nat:=0
 fields:List (Nat×Nat×Bool):=[]
def N7:Value->AV
 | .int k n=> .one (.int k n)
 | .bool b=> .one (.bool b)
 | .slice none 0 0=> .one .nil
 | _=> .one .BZ
def ev (s:List AV):Operand->AV
 | .tmp t=>nth s t
 | .const v=>N7 v
 | .func f=> .one (.fn f)
 | .global _=> .one .BZ
structure Ba where
 v:AV
 ws:List (Nat×AM):=[]
 rd:List Nat:=[]
def Hz (n:Int):Prop:= -9223372036854775808<=n/\n<9223372036854775808
def fits (n b:Nat):Prop:=n*b<=140737488355328
def arith (op:BinOp) (k:IntKind) (a b:Int) (K:AC->Prop):Prop:=
 match op,k with
 | .add,.i64=>∀c,c=a+b->(Unit->Hz c)/\K (.int .i64 c)
 | .sub,.i64=>∀c,c=a-b->(Unit->Hz c)/\K (.int .i64 c)
 | .mul,.i64=>∀c,c=a*b->(Unit->Hz c)/\K (.int .i64 c)
 | .quo,.i64=>∀c,c=a/b->(Unit->0<=a/\0<b/\Hz c)/\K (.int .i64 c)
 | .rem,.i64=>∀c,c=a%b->(Unit->0<=a/\0<b)/\K (.int .i64 c)
 | .add,k=>∀c,c=k.wrap (a+b)->K (.int k c)
 | .sub,k=>∀c,c=k.wrap (a-b)->K (.int k c)
 | .mul,k=>∀c,c=k.wrap (a*b)->K (.int k c)
 | .quo,k=>∀c,c=k.wrap (a/b)->(Unit->0<=a/\0<b)/\K (.int k c)
 | .rem,k=>∀c,c=a%b->(Unit->0<=a/\0<b)/\K (.int k c)
 | .and,k=>∀c,c=k.wrap (BitVec.ofInt k.bits a &&& BitVec.ofInt k.bits b).toNat->K (.int k c)
 | .or,k=>∀c,c=k.wrap (BitVec.ofInt k.bits a ||| BitVec.ofInt k.bits b).toNat->K (.int k c)
 | .xor,k=>∀c,c=k.wrap (BitVec.ofInt k.bits a ^^^ BitVec.ofInt k.bits b).toNat->K (.int k c)
 | .andNot,k=>∀c,c=k.wrap (BitVec.ofInt k.bits a &&& ~~~ BitVec.ofInt k.bits b).toNat->K (.int k c)
 | .shl,k=>∀c,c=k.wrap (a*2^min b.toNat k.bits)->(Unit->0<=b)/\K (.int k c)
 | .shr,k=>∀c,c=a.fdiv (2^min b.toNat k.bits)->(Unit->0<=b)/\K (.int k c)
 | .eql,_=>∀c,c=(a==b)->K (.bool c)
 | .neq,_=>∀c,c=(a !=b)->K (.bool c)
 | .lss,_=>∀c,c=decide (a<b)->K (.bool c)
 | .leq,_=>∀c,c=decide (a<=b)->K (.bool c)
 | .gtr,_=>∀c,c=decide (a>b)->K (.bool c)
 | .geq,_=>∀c,c=decide (a >= b)->K (.bool c)
def Ef (cs:List AC):Nat->Nat->List AC
 | 0,n=>cs.take n
 | off+1,n=>match cs with
  | []=>[]
  | _::cs=>Ef cs off n
def C3 {α:Type}:List α->Nat->List α->List α
 | cs,0,[]=>cs
 | [],0,_::_=>[]
 | _::cs,0,x::xs=>x::C3 cs 0 xs
 | [],_+1,_=>[]
 | c::cs,off+1,xs=>c::C3 cs off xs
def ld (i:Info) (cs:List AC) (off:Nat):AV:=Cz (i.agg,Ef cs off i.size)
def D4 (bk:Nat->Option AM):AC->AC->Prop
 | .AT t id v off len,c=>∃l,bk id=some (.arr v t l)/\off+len<=l.length/\c= .sl t ((l.drop off).take len)
 | .nil,c=>c= .nil\/∃t,c= .sl t []
 | .int k n,c=>c= .int k n
 | .bool b,c=>c= .bool b
 | .fn f,c=>c= .fn f
 | .sl t l,c=>c= .sl t l
 | _,_=>False
def BF:AC->AC->Prop
 | .nil,c=>c= .nil\/∃t,c= .sl t []
 | .int k n,c=>c= .int k n
 | .bool b,c=>c= .bool b
 | .fn f,c=>c= .fn f
 | .sl t l,c=>c= .sl t l
 | _,_=>False
def Aw (R:AC->AC->Prop):List AC->List AC->Prop
 | [],[]=>True
 | a::l,b::m=>R a b/\Aw R l m
 | _,_=>False
def leV (R:AC->AC->Prop):AV->AV->Prop
 | .one a,.one b=>R a b
 | .agg l,.agg m=>Aw R l m
 | _,_=>False
def FT (R:AC->AC->Prop):List AV->List AV->Prop
 | [],[]=>True
 | a::l,b::m=>leV R a b/\FT R l m
 | _,_=>False
def B4:AC->List Nat
 | .AT _ id _ _ _=>[id]
 | _=>[]
def Bw:List AV->List Nat
 | []=>[]
 | .one c::r=>B4 c++Bw r
 | .agg cs::r=>cs.flatMap B4++Bw r
 | .AE _::r=>Bw r
def Ea (d v:Nat):AC->AC
 | .own t _ n=> .AT t d v 0 n
 | c=>c
def HD (d v:Nat):AV->AV
 | .one c=> .one (Ea d v c)
 | .agg cs=> .agg (cs.map (Ea d v))
 | .AE xs=> .AE (xs.map fun x=>(x.1,x.2.map (Ea d v)))
def DF (d v:Nat):List AC->List (Nat×AM)
 | []=>[]
 | .own t l _::_=>[(d,.arr v t l)]
 | _::r=>DF d v r
def Gj (d v:Nat):AV->List (Nat×AM)
 | .one c=>DF d v [c]
 | .agg cs=>DF d v cs
 | .AE xs=>DF d v (xs.flatMap (·.2))
abbrev Con:=Bool->FuncId->List AV->AV->Prop
abbrev Wp:=FuncId->AC->AM->List AV->AV->AM->Prop
abbrev Wq:=FuncId->List AV->AM->AV->Prop
structure Env where
 C:Con
 B:Wp
 D:Wq
def L4 (id v:Nat):AC->AC->Prop
 | .AT t i w off len,c=>(i=id/\w=v)/\c= .AT t 0 0 off len
 | .AD i w off,c=>(i=id/\w=v)/\c= .AD 0 0 off
 | .nil,c=>c= .nil\/∃t,c= .sl t []
 | .int k n,c=>c= .int k n
 | .bool b,c=>c= .bool b
 | .fn f,c=>c= .fn f
 | .sl t l,c=>c= .sl t l
 | _,_=>False
def F9 (places:List (Nat×Nat×Bool)) (e:Operand->AV):List (Nat×Operand)->List AC->Option (List AC)
 | [],cs=>some cs
 | (i,x)::r,cs=>match places[i]? with
  | some (off,n,_)=>if (e x).cs.length=n/\(e x).full=true/\off+n<=cs.length then F9 places e r (C3 cs off (e x).cs) else none
  | none=>none
def Gm (id v:Nat):AC->AC
 | .AT t _ _ off len=> .AT t id v off len
 | .AD _ _ off=> .AD id v off
 | .Cd t _ _ i k=> .Cd t id v i k
 | c=>c
def Uz (id v:Nat):AV->AV
 | .one c=> .one (Gm id v c)
 | .agg cs=> .agg (cs.map (Gm id v))
 | .AE xs=> .AE (xs.map fun x=>(x.1,x.2.map (Gm id v)))
def AM.Dj (v:Nat):AM->AM
 | .var _ cs=> .var v cs
 | .arr _ t l=> .arr v t l
 | .dead _=> .dead v
def Ma:AC->Option (Nat×Nat)
 |.AT _ id v _ _|.AD id v _=>some (id,v)
 | _=>none
def T.flat:T->Bool
 | .sl _=>false
 | .pr a b=>a.flat&&b.flat
 | _=>true
def Lp:AM->Bool
 | .arr _ t _=>t.flat
 | _=>false
def Bg:AC->Bool
 |.int _ _|.bool _|.fn _|.nil|.AT _ 0 0 _ _=>true
 | _=>false
def AV.all (p:AC->Bool):AV->Bool
 | .one c=>p c
 | .agg cs=>cs.all p
 | .AE xs=>xs.all fun x=>x.2.all p
def BD:AC->Bool
 | .BZ=>true | .int _ _=>true | .bool _=>true | .fn _=>true | .nil=>true | .sl _ _=>true
 | _=>false
def Hp (E:Env) (g:FuncId) (args:List AV) (d:Nat) (bk:Nat->Option AM) (K:Ba->Prop):Prop:=
 (∃args' r,(Unit->FT BF args args')/\(Unit->E.C false g args' r)/\
  K ⟨HD d (AW bk d+1) r,Gj d (AW bk d+1) r,[d]⟩)\/
 (∃args' r,(Unit->FT (D4 bk) args args')/\(Unit->E.C true g args' r)/\
  K ⟨HD d (AW bk d+1) r,Gj d (AW bk d+1) r,d::Bw args⟩)\/
 (match args with
  | .one c::rest=>match Ma c with
   | some (id,v)=>match bk id with
    | some b=>if b.AW=v then ∃args' r b1,(Unit->id ∉ Bw rest/\FT (D4 bk) rest args')/\(Unit->E.B g (Gm 0 0 c) (b.Dj 0) args' r b1/\Lp b1=true/\r.all Bg=true)/\
     K ⟨Uz id v r,[(id,b1.Dj v)],id::Bw rest⟩ else False
    | none=>False
   | none=>False
  | _=>False)\/
 (∃(id:Nat) (b:AM) (args':List AV) (r:AV),(Unit->bk id=some b/\FT (L4 id b.AW) args args')/\(Unit->E.D g args' (b.Dj 0) r)/\K ⟨r,[],[id]⟩)\/
 (∃(id:Nat) (b:AM) (args':List AV) (r:AV),(Unit->(id≠0/\bk id=some b/\((Bw args).all fun k=>k==id)=true)/\FT (D4 bk) args args')/\(Unit->E.C false g args' r/\r.all BD=true)/\K ⟨r,[(id,.dead b.AW)],[id]⟩)
def D8 (TI:TypeId->Info) (b:Builtin) (tys:List TypeId) (args:List AV) (d:Nat) (bk:Nat->Option AM) (K:Ba->Prop):Prop:=
 match b,tys,args with
 | .len,[t0],[.one (.sl _ l)]=>(TI t0).sl=true/\∀n,Cb n l.length->K ⟨.one (.int .i64 n),[],[]⟩
 |.len,[t0],[.one (.Cw _ id v _ len)]|.len,[t0],[.one (.AT _ id v _ len)]=>(TI t0).sl=true/\if AW bk id=v then ∀n,AS n len->K ⟨.one (.int .i64 n),[],[id]⟩ else False
 |.len,[t0],[.one .nil]|.cap,[t0],[.one .nil]=>(TI t0).sl=true/\K ⟨.one (.int .i64 0),[],[]⟩
 | .min,_,[.one (.int k a),.one (.int _ b)]=>∀c,c=(if b<a then b else a)->K ⟨.one (.int k c),[],[]⟩
 | .append,[t0,t1],[.one .nil,.one x]=>
  ((TI t0).sl=true/\(TI t1).sl=true)/\∃l2:List (el (TI t0).elem),(Unit->D4 bk x (.sl _ l2)/\fits l2.length (TI t0).Eo)/\
    ∀n,n=l2.length->K ⟨.one (.AT (TI t0).elem d (AW bk d+1) 0 n),[(d,.arr (AW bk d+1) _ l2)],d::B4 x⟩
 | .append,[t0,t1],[.one (.Cw t id v off len),.one x]=>
  ((TI t0).sl=true/\(TI t1).sl=true)/\match bk id with
    | some (.arr v' t' l)=>if v'=v/\T.beq t' t=true/\T.beq t' (TI t0).elem=true then
     ∃l2:List (el t'),(Unit->off=0/\len<=l.length/\D4 bk x (.sl _ l2)/\fits (len+l2.length) (TI t0).Eo)/\
      ∀l' n,(l'=l.take len++l2/\n=l'.length)->K ⟨.one (.AT t' id (v+1) 0 n),[(id,.arr (v+1) t' l')],id::B4 x⟩
     else False
    | _=>False
 | .append,[t0,t1],[.one (.AT t id v off len),.one x]=>
  ((TI t0).sl=true/\(TI t1).sl=true)/\match bk id with
    | some (.arr v' t' l)=>if v'=v/\T.beq t' t=true/\T.beq t' (TI t0).elem=true then
     ∃l2:List (el t'),(Unit->off=0/\len=l.length/\D4 bk x (.sl _ l2)/\fits (l.length+l2.length) (TI t0).Eo)/\
      ∀l' n,(l'=l++l2/\n=l'.length)->K ⟨.one (.AT t' id (v+1) 0 n),[(id,.arr (v+1) t' l')],id::B4 x⟩
     else False
    | _=>False
 | _,_,_=>False
def JF (K:Ba->Prop) (f:Ba):Prop:=
 match f.v,f.ws with
 | .one (.AT t id v off n),[(i,.arr v' t' l)]=>if (id !=0&&id==i&&v==v'&&off==0&&T.beq t t')=true then (Unit->n=l.length)/\K ⟨.one (.sl t' l),[(id,.dead v)],f.rd⟩ else False
 | _,_=>False
def NW (TI:TypeId->Info) (b:Builtin) (tys:List TypeId) (args:List AV) (d:Nat) (bk:Nat->Option AM) (K:Ba->Prop):Prop:=
 match b with
 | .append=>D8 TI b tys args d bk K\/D8 TI b tys args d bk (JF K)
 | _=>D8 TI b tys args d bk K
def Na:List (Nat×List AC)->Nat->List (List AC)->Prop
 | [],_,[]=>True
 | p::r,k,x::m=>p.1=k/\Aw BF p.2 x/\Na r (k+1) m
 | _,_,_=>False
def G4 (len:Nat) (lo hi mx:Option AV) (K:Nat->Nat->Bool->Prop):Prop:=
 match lo,hi,mx with
 | none,none,none=>∀h,h=len->K 0 h false
 | some (.one (.int _ a)),none,none=>(Unit->0<=a/\a.toNat<=len)/\∀l h,(l=a.toNat/\h=len)->K l h false
 | none,some (.one (.int _ b)),none=>(Unit->0<=b/\b.toNat<=len)/\∀h,h=b.toNat->K 0 h false
 | some (.one (.int _ a)),some (.one (.int _ b)),none=>(Unit->0<=a/\a<=b/\b.toNat<=len)/\∀l h,(l=a.toNat/\h=b.toNat)->K l h false
 | none,some (.one (.int _ b)),some (.one (.int _ m))=>(Unit->0<=b/\b=m/\m.toNat<=len)/\∀h,h=b.toNat->K 0 h true
 | _,_,_=>False
def G3 (bk:Nat->Option AM) (u:T) (x:AV) (lo hi mx:Option AV) (K:Ba->Prop):Prop:=
 match x with
 | .one (.sl t l)=>T.beq t u=true/\∀n,n=l.length->G4 n lo hi mx fun a b _=>∀l',l'=(l.take b).drop a->K ⟨.one (.sl t l'),[],[]⟩
 | .one (.AT t id v off len)=>T.beq t u=true/\if AW bk id=v then G4 len lo hi mx fun a b c=>∀o n,(o=off+a/\n=b-a)->
  match c with | true=>K ⟨.one (.Cw t id v o n),[],[id]⟩ | false=>K ⟨.one (.AT t id v o n),[],[id]⟩
  else False
 | .one .nil=>G4 0 lo hi mx fun _ _ _=>K ⟨.one .nil,[],[]⟩
 | _=>False
def Bv (E:Env) (TI:TypeId->Info) (o:Oper) (d:Nat) (e:Operand->AV) (bk:Nat->Option AM) (K:Ba->Prop):Prop:=
 match o.op with
 |.move x|.assign x=>K ⟨e x,[],[]⟩
 | .nilCheck x=>match e x with
  | .one (.AD id v off)=>if AW bk id=v then K ⟨e x,[],[id]⟩ else False
  | .one (.fn _)=>K ⟨e x,[],[]⟩
  | _=>False
 | .pick c a b=>match e c with
  | .one (.bool true)=>K ⟨e a,[],[]⟩
  | .one (.bool false)=>K ⟨e b,[],[]⟩
  | _=>False
 | .alloc t=>(TI t).known=true/\K ⟨.one (.AD d (AW bk d+1) 0),[(d,.var (AW bk d+1) (TI t).zero)],[d]⟩
 | .box _ x=>match e x with
  |.AE _|.one .BZ=>False
  | v=>K ⟨.one (.AD d (AW bk d+1) 0),[(d,.var (AW bk d+1) v.cs)],[d]⟩
 | .extract t i=>match e t with
  | .AE xs=>match xs[i]? with
   | some x=>K ⟨Cz x,[],[]⟩
   | none=>False
  | _=>False
 | .load t a=>(TI t).known=true/\match e a with
  | .one (.AD id v off)=>match bk id with
   | some (.var v' cs)=>if v'=v/\(Ef cs off (TI t).size).length=(TI t).size then K ⟨ld (TI t) cs off,[],[id]⟩ else False
   | _=>False
  | .one (.C8 t' x off)=>Ib t' x fun cs=>if (Ef cs off (TI t).size).length=(TI t).size then K ⟨ld (TI t) cs off,[],[]⟩ else False
  | .one (.Cd t' id v i k)=>match bk id with
   | some (.arr v' u l)=>if v'=v/\T.beq t' u=true then ∃x:el u,(Unit->l[i]? =some x)/\Ib u x fun cs=>
    if (Ef cs k (TI t).size).length=(TI t).size then K ⟨ld (TI t) cs k,[],[id]⟩ else False
    else False
   | _=>False
  | _=>False
 | .store t a x=>(TI t).known=true/\match e a with
  | .one (.AD id v off)=>match bk id,e x with
   |_,.AE _|_,.one .BZ=>False
   | some (.var v' cs),y=>if v'=v/\y.cs.length=(TI t).size/\off+(TI t).size<=cs.length then
    K ⟨.one .BZ,[(id,.var v (C3 cs off y.cs))],[id]⟩ else False
   | _,_=>False
  | .one (.Cd t' id v i k)=>match bk id,e x with
   |_,.AE _|_,.one .BZ=>False
   | some (.arr v' u l),y=>if v'=v/\k=0/\(TI t).size=u.size/\T.beq t' u=true then
    ∃z:el u,(Unit->i<l.length/\Aw BF y.cs (cells u z))/\∀l',l'=l.set i z->K ⟨.one .BZ,[(id,.arr v u l')],[id]⟩
    else False
   | _,_=>False
  | _=>False
 | .fieldAddr s x f=>(TI s).known=true/\match (TI s).fields[f]?,e x with
  | some (fo,_,_),.one (.AD id v off)=>if AW bk id=v then K ⟨.one (.AD id v (off+fo)),[],[id]⟩ else False
  | some (fo,_,_),.one (.C8 t y off)=>K ⟨.one (.C8 t y (off+fo)),[],[]⟩
  | some (fo,_,_),.one (.Cd t id v i k)=>if AW bk id=v then K ⟨.one (.Cd t id v i (k+fo)),[],[id]⟩ else False
  | _,_=>False
 | .field s x f=>(TI s).known=true/\match (TI s).fields[f]?,e x with
  | some (fo,n,g),.agg cs=>if (Ef cs fo n).length=n then K ⟨Cz (g,Ef cs fo n),[],[]⟩ else False
  | _,_=>False
 | .build t parts=>((TI t).known=true/\(TI t).fields.isEmpty=false)/\match F9 (TI t).fields e parts.toList (TI t).zero with
  | some cs=>K ⟨.agg cs,[],[]⟩
  | none=>False
 | .buildSlice t len parts=>(TI t).sl=true/\(TI t).elem.size<=16/\∃xs:List (el (TI t).elem),
  (Unit->xs.length=len/\len<=1048576/\(parts.toList.all fun p=>(e p.2).full)=true/\Na (parts.toList.map fun p=>(p.1,(e p.2).cs)) 0 (xs.map (cells _)))/\
  (K ⟨.one (.AT (TI t).elem d (AW bk d+1) 0 len),[(d,.arr (AW bk d+1) _ xs)],[d]⟩\/K ⟨.one (.sl (TI t).elem xs),[],[]⟩)
 | .makeSlice t l c=>(TI t).sl=true/\match e l,e c with
  | .one (.int _ n),.one (.int _ m)=>(Unit->0<=n/\n<=m/\fits m.toNat (TI t).Eo)/\
   ∀k z,(k=n.toNat/\z=List.replicate k (TI t).B8)->K ⟨.one (.AT (TI t).elem d (AW bk d+1) 0 k),[(d,.arr (AW bk d+1) _ z)],[d]⟩
  | _,_=>False
 | .indexAddr t x i=>(TI t).sl=true/\match e x,e i with
  | .one (.sl t' l),.one (.int _ n)=>T.beq t' (TI t).elem=true/\∃x,(Unit->0<=n/\l[n.toNat]? =some x)/\K ⟨.one (.C8 t' x 0),[],[]⟩
  | .one (.AT t' id v off len),.one (.int _ n)=>T.beq t' (TI t).elem=true/\if AW bk id=v then (Unit->0<=n/\n.toNat<len)/\∀j,j=off+n.toNat->K ⟨.one (.Cd t' id v j 0),[],[id]⟩ else False
  | _,_=>False
 | .slice t x lo hi mx=>(TI t).sl=true/\G3 bk (TI t).elem (e x) (lo.map e) (hi.map e) (mx.map e) K
 | .binOp op bt x y _=>match e x,e y with
  | .one (.int k a),.one (.int k' b)=>if k=k'\/op= .shl\/op= .shr then arith op k a b fun c=>K ⟨.one c,[],[]⟩ else False
  | .one (.bool a),.one (.bool b)=>(TI bt).Lz=true/\match op with
   | .eql=>∀c,c=(a==b)->K ⟨.one (.bool c),[],[]⟩
   | .neq=>∀c,c=(a !=b)->K ⟨.one (.bool c),[],[]⟩
   | _=>False
  | .one (.sl _ l),.one .nil=>(TI bt).sl=true/\match op with
   | .eql=>∀c,c=l.isEmpty->K ⟨.one (.ub c),[],[]⟩
   | _=>False
  | _,_=>False
 | .unOp op _ x=>match op,e x with
  | .not,.one (.bool b)=>∀c,c= !b->K ⟨.one (.bool c),[],[]⟩
  | .neg,.one (.int k n)=>arith .sub k 0 n fun c=>K ⟨.one c,[],[]⟩
  | _,_=>False
 | .convert src dst x=>(TI src).known=true/\match (TI dst).kind,e x with
  | some k,.one (.int _ n)=>∀c,c=k.wrap n->K ⟨.one (.int k c),[],[]⟩
  | _,_=>False
 | .call c=>match c.callee with
  | .builtin b=>NW TI b c.argTypes.toList (c.args.toList.map e) d bk K
  | .value f=>match e f with
   | .one (.fn g)=>Hp E g (c.args.toList.map e) d bk K
   | _=>False
  | .invoke _ _=>False
 | _=>False
def CZ:List (Nat×AM)->List (Option AM)->List (Option AM)
 | [],b=>b
 | w::r,b=>CZ r (BG b w.1 (some w.2))
def Ed (l:List AV):Option Nat->AV->List AV
 | some d,v=>BG l d v
 | none,_=>l
def St.app (s:St) (d:Option Nat) (f:Ba):St:=⟨Ed s.sl d f.v,CZ f.ws s.bk⟩
def BS (o:Oper):Nat:=o.dst.getD 1000000
abbrev Tr:=List (List Nat×List Nat)
def Lw (ops:List Oper) (j:Nat):Option Nat:=(ops[j]?).bind (·.dst)
def UY (o:Oper):List Nat:=o.op.operands.toList.filterMap fun | .tmp t=>some t | _=>none
def GK (ops:List Oper) (o:Oper):List Nat:=
 o.dst.toList++UY o++(match o.guard with | some (j,_)=>(Lw ops j).toList | none=>[])
def Dy (o:Oper):List Nat:=(o.after.toList.filter fun e=>Region.binds .any e).map (·.on)
def EX:List Oper->List (List Nat)->List (List Nat)
 | [],acc=>acc
 | o::r,acc=>EX r (acc++[(Dy o).flatMap fun j=>j::acc.getD j []])
def Jy (a b:List Nat):Bool:=a.all fun x=> !b.contains x
def Ji (ops:List Oper) (oi oj:Oper) (ti tj:List Nat×List Nat):Bool:=
 Jy oi.dst.toList (GK ops oj)&&Jy oj.dst.toList (GK ops oi)&&
 Jy ti.2 (tj.1++tj.2)&&Jy tj.2 ti.1
def UP (ops:List Oper) (tr:Tr) (bs:List (List Nat)):Bool:=
 (List.range ops.length).all fun j=>(List.range j).all fun i=>
  (bs.getD j []).contains i||
   (match ops[i]?,ops[j]?,tr[i]?,tr[j]? with
    | some oi,some oj,some ti,some tj=>Ji ops oi oj ti tj
    | _,_,_,_=>false)
def RY (ops:List Oper):Bool:=
 (List.range ops.length).all fun j=>match ops[j]? with | some o=>(Dy o).all fun i=>decide (i<j) | none=>true
def H7 (ops:List Oper) (tr:Tr):Bool:=RY ops&&UP ops tr (EX ops [])
def Fp (E:Env) (TI:TypeId->Info) (all:List Oper) (draw:Bool):List Oper->Tr->(St->Prop)->St->Prop
 | [],tr,Q,s=>match draw with
  | false=>Q s
  | true=>(Unit->H7 all tr.reverse=true)/\Q s
 | o::r,tr,Q,s=>match o.guard with
  | none=>Bv E TI o (BS o) (ev s.sl) (AF s.bk) fun f=>Fp E TI all draw r ((f.rd,f.ws.map (·.1))::tr) Q (s.app o.dst f)
  | some (j,w)=>match Lw all j with
   | none=>False
   | some g=>match nth s.sl g,w with
    |.one (.bool true),true|.one (.bool false),false=>Bv E TI o (BS o) (ev s.sl) (AF s.bk) fun f=>Fp E TI all draw r ((f.rd,f.ws.map (·.1))::tr) Q (s.app o.dst f)
    |.one (.bool true),false|.one (.bool false),true|.AE [],_=>Fp E TI all draw r (([],[])::tr) Q (s.app o.dst ⟨.AE [],[],[]⟩)
    | _,_=>False
 inductive AX
  | Ch | exit (n:Nat) | ret
def HK (bk:Nat->Option AM) (bs:List Nat):AC->AC
 | .AT t id v off len=>if bs.contains id&&AW bk id==v then .AT t id 0 off len else .BZ
 | .AD id v off=>if bs.contains id&&AW bk id==v then .AD id 0 off else .BZ
 | .Cd t id v i k=>if bs.contains id&&AW bk id==v then .Cd t id 0 i k else .BZ
 | .Cw _ _ _ _ _=> .BZ
 | c=>c
def Om (bk:Nat->Option AM) (bs:List Nat):AV->AV
 | .one c=> .one (HK bk bs c)
 | .agg cs=> .agg (cs.map (HK bk bs))
 | .AE _=> .one .BZ
def KL (bk:Nat->Option AM) (bs:List Nat):AM->AM
 | .var _ cs=> .var 0 (cs.map (HK bk bs))
 | .arr _ t l=> .arr 0 t l
 | .dead _=> .dead 0
def DV (s:St) (bs:List Nat):List Nat->List AV
 | []=>[]
 | k::r=>Om (AF s.bk) bs (nth s.sl k)::DV s bs r
def DJ (s:St) (bs:List Nat):List Nat->List AM
 | []=>[]
 | k::r=>(match AF s.bk k with | some b=>if k==0&&b.AW !=0 then .dead 0 else KL (AF s.bk) bs b | none=> .dead 0)::DJ s bs r
def Eu:List Nat->List AV->List AV->List AV
 | k::ks,v::vs,l=>Eu ks vs (BG l k v)
 | _,_,l=>l
def Fj:List Nat->List AM->List (Option AM)->List (Option AM)
 | k::ks,v::vs,l=>Fj ks vs (BG l k (some v))
 | _,_,l=>l
def Fl {α:Type}:Nat->α->List α
 | 0,_=>[]
 | n+1,x=>x::Fl n x
def Fg (n:Nat) (ks:List Nat) (vs:List AV) (bs:List Nat) (bl:List AM):St:=
 ⟨Eu ks vs (Fl n (.one .BZ)),Fj bs bl (Fl n none)⟩
def Iq:Code->Bool
 |.skip|.region _ _ _=>true
 | .seq a b=>Iq a&&Iq b
 | .cond _ a b=>Iq a||Iq b
 |.block _ _|.loop _=>true
 | _=>false
def Cc (E:Env) (TI:TypeId->Info) (n:Nat):Code->(AX->St->Prop)->St->Prop
 | .skip,Q,s=>Q .Ch s
 | .region _ ops draw,Q,s=>Fp E TI ops.toList draw ops.toList [] (Q .Ch) s
 | .seq a b,Q,s=>Cc E TI n a (fun e s=>match e with | .Ch=>Cc E TI n b Q s | .exit i=>Q (.exit i) s | .ret=>Q .ret s) s
 | .cond c a b,Q,s=>match Iq a&&Iq b with
  | true=>(∃(ks bs:List Nat) (J:List AV->List AM->Prop),(∀vs bl,J vs bl->Q .Ch (Fg n ks vs bs bl))/\
    match ev s.sl c with
    | .one (.bool true)=>Cc E TI n a (fun e s'=>match e with | .Ch=>J (DV s' bs ks) (DJ s' bs bs) | .exit i=>Q (.exit i) s' | .ret=>Q .ret s') s
    | .one (.bool false)=>Cc E TI n b (fun e s'=>match e with | .Ch=>J (DV s' bs ks) (DJ s' bs bs) | .exit i=>Q (.exit i) s' | .ret=>Q .ret s') s
    | .one (.ub u)=>(u=true->Cc E TI n a (fun e s'=>match e with | .Ch=>J (DV s' bs ks) (DJ s' bs bs) | .exit i=>Q (.exit i) s' | .ret=>Q .ret s') s)/\
     Cc E TI n b (fun e s'=>match e with | .Ch=>J (DV s' bs ks) (DJ s' bs bs) | .exit i=>Q (.exit i) s' | .ret=>Q .ret s') s
    | _=>False)\/
   (match ev s.sl c with
   | .one (.bool true)=>Cc E TI n a Q s
   | .one (.bool false)=>Cc E TI n b Q s
   | .one (.ub u)=>(u=true->Cc E TI n a Q s)/\Cc E TI n b Q s
   | _=>False)
  | false=>match ev s.sl c with
   | .one (.bool true)=>Cc E TI n a Q s
   | .one (.bool false)=>Cc E TI n b Q s
   | .one (.ub u)=>(u=true->Cc E TI n a Q s)/\Cc E TI n b Q s
   | _=>False
 | .block id c,Q,s=>(∃(ks bs:List Nat) (J:List AV->List AM->Prop),(∀vs bl,J vs bl->Q .Ch (Fg n ks vs bs bl))/\
   Cc E TI n c (fun e s'=>match e with | .exit i=>if i=id then J (DV s' bs ks) (DJ s' bs bs) else Q (.exit i) s' | .Ch=>J (DV s' bs ks) (DJ s' bs bs) | .ret=>Q .ret s') s)\/
  Cc E TI n c (fun e s=>match e with | .exit i=>if i=id then Q .Ch s else Q (.exit i) s | .Ch=>Q .Ch s | .ret=>Q .ret s) s
 | .loop c,Q,s=>∃(ks bs:List Nat) (J:List AV->List AM->Nat->Prop),
  (∃k,J (DV s bs ks) (DJ s bs bs) k)/\∀vs bl k,J vs bl k->
   Cc E TI n c (fun e s'=>match e with
    | .Ch=>∃k',k'<k/\J (DV s' bs ks) (DJ s' bs bs) k'
    | .exit i=>Q (.exit i) s' | .ret=>Q .ret s') (Fg n ks vs bs bl)
 | .exit i,Q,s=>Q (.exit i) s
 | .ret,Q,s=>Q .ret s
 | _,_,_=>False
def Di (bk:Nat->Option AM):AC->AC->Prop
 | .AT t id v off len,c=>(∃l,bk id=some (.arr v t l)/\off+len<=l.length/\c= .sl t ((l.drop off).take len))\/
  (∃l n,id≠0/\bk id=some (.arr v t l)/\off=0/\len=l.length/\n=l.length/\c= .own t l n)\/
  (id=0/\v=0/\c= .AT t 0 0 off len)
 | .nil,c=>c= .nil\/(∃t,c= .sl t [])\/∃t,c= .own t [] 0
 | .int k n,c=>c= .int k n
 | .bool b,c=>c= .bool b
 | .fn f,c=>c= .fn f
 | .sl t l,c=>c= .sl t l
 | _,_=>False
def Gn (bk:Nat->Option AM):List (Bool×List AC)->List (Bool×List AC)->Prop
 | [],[]=>True
 | a::l,b::m=>(a.1=b.1/\Aw (Di bk) a.2 b.2)/\Gn bk l m
 | _,_=>False
def Ep:AC->Bool
 | .own _ _ _=>true
 | _=>false
def HG:AC->Bool
 |.AT _ _ _ _ _|.own _ _ _=>true
 | _=>false
def MP (src:List (Bool×List AC)) (res:List (Bool×List AC)):Bool:=
 match (res.flatMap (·.2)).filter Ep with
 | []=>true
 | [_]=>((src.flatMap (·.2)).filter HG).length<=1
 | _=>false
def AV.De:AV->List (Bool×List AC)
 | .AE xs=>xs
 | v=>[v.comp]
def Mg (TI:TypeId->Info) (s:St):ResultVar->Option (Bool×List AC)
 | .tmp t=>some (nth s.sl t).comp
 | .cell a t=>match nth s.sl a with
  | .one (.AD id v off)=>match AF s.bk id with
   | some (.var v' cs)=>if (TI t).known&&v'==v&&(Ef cs off (TI t).size).length==(TI t).size then some ((TI t).agg,Ef cs off (TI t).size) else none
   | _=>none
  | _=>none
def Gp (TI:TypeId->Info) (s:St):List ResultVar->Option (List (Bool×List AC))
 | []=>some []
 | r::rs=>match Mg TI s r,Gp TI s rs with
  | some x,some xs=>some (x::xs)
  | _,_=>none
def H5:AC->Bool
 | .AT _ 0 _ _ _=>false
 | _=>true
def KO (TI:TypeId->Info) (rs:List ResultVar) (r:AV) (b0:AM) (e:AX) (s:St):Prop:=
 match e with
 | .exit _=>False
 | _=>match Gp TI s rs with
  | some xs=>(Unit->(Gn (AF s.bk) xs r.De/\(xs.all fun x=>x.2.all H5)=true/\(rs.length=1↔∀ys,r≠ .AE ys))/\AF s.bk 0=some b0)
  | none=>False
def post (TI:TypeId->Info) (rs:List ResultVar) (r:AV) (b1:Option AM) (e:AX) (s:St):Prop:=
 match e with
 | .exit _=>False
 | _=>match Gp TI s rs with
  | some xs=>(Unit->Gn (AF s.bk) xs r.De/\MP xs r.De=true/\(rs.length=1↔∀ys,r≠ .AE ys))/\
   (match b1 with | none=>True | some b=>Unit->AF s.bk 0=some b)
  | none=>False
def C4 (n:Nat) (args:List AV) (b0:Option AM):St:=
 ⟨args++Fl (n-args.length) (.one .BZ),match n with | 0=>[] | n+1=>b0::Fl n none⟩
end Go.Abs
