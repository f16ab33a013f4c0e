/- Part 2 of a proof. Conditions: each theorem's own. -/
import Derived.WalkKit
set_option linter.all false
set_option maxHeartbeats 8000000
namespace Go.Abs
 inductive T
  | u8 | u32 | u64 | i8 | i64 | bool | sl (t:T) | pr (a b:T)
abbrev el:T->Type
 | .u8=>UInt8 | .u32=>UInt32 | .u64=>UInt64 | .i8=>Int | .i64=>Int | .bool=>Bool
 | .sl t=>List (el t) | .pr a b=>el a×el b
def T.size:T->Nat
 | .pr a b=>a.size+b.size
 | _=>1
def T.beq:T->T->Bool
 | .u8,.u8=>true | .u32,.u32=>true | .u64,.u64=>true | .i8,.i8=>true | .i64,.i64=>true | .bool,.bool=>true
 | .sl a,.sl b=>a.beq b
 | .pr a b,.pr c d=>a.beq c&&b.beq d
 | _,_=>false
def T.agg:T->Bool
 | .pr _ _=>true
 | _=>false
 inductive AC
  | BB | int (k:IntKind) (n:Int) | bool (b:Bool) | fn (f:FuncId) | nil
  | sl (t:T) (l:List (el t))
  | AM (t:T) (id AN off len:Nat)
  | CI (t:T) (id AN off len:Nat)
  | Am (id AN off:Nat)
  | B3 (t:T) (id AN i k:Nat)
  | CU (t:T) (x:el t) (off:Nat)
  | ub (e:Bool)
  | own (t:T) (l:List (el t)) (n:Nat)
 inductive AV
  | one (c:AC) | agg (cs:List AC) | AF (xs:List (Bool×List AC))
 inductive AH
  | var (AN:Nat) (cs:List AC)
  | arr (AN:Nat) (t:T) (l:List (el t))
  | dead (AN:Nat)
def AH.AN:AH->Nat
 | .var v _=>v | .arr v _ _=>v | .dead v=>v
def cells:(t:T)->el t->List AC
 | .u8,x=>[.int .u8 x.toNat]
 | .u32,x=>[.int .u32 x.toNat]
 | .u64,x=>[.int .u64 x.toNat]
 | .i8,x=>[.int .i8 x]
 | .i64,x=>[.int .i64 x]
 | .bool,x=>[.bool x]
 | .sl t,l=>[.sl t l]
 | .pr a b,x=>cells a x.1++cells b x.2
structure B1 (n:Int) (k:Nat):Prop where
 eq:n=k
 le:k<=140737488355328
structure AK (n:Int) (k:Nat):Prop where
 eq:n=k
structure LU (n:Int) (x:UInt8):Prop where
 eq:n=x.toNat
structure H7 (n:Int) (x:UInt32):Prop where
 eq:n=x.toNat
structure LS (n:Int) (x:UInt64):Prop where
 eq:n=x.toNat
def HH:(t:T)->el t->(List AC->Prop)->Prop
 | .u8,x,K=>∀n,LU n x->K [.int .u8 n]
 | .u32,x,K=>∀n,H7 n x->K [.int .u32 n]
 | .u64,x,K=>∀n,LS n x->K [.int .u64 n]
 | .i8,x,K=>K [.int .i8 x]
 | .i64,x,K=>K [.int .i64 x]
 | .bool,x,K=>K [.bool x]
 | .sl t,l,K=>K [.sl t l]
 | .pr a b,x,K=>HH a x.1 fun l=>HH b x.2 fun m=>K (l++m)
theorem IP:∀(t:T) (x:el t) (K:List AC->Prop),HH t x K↔K (cells t x)
 |.u8,x,K|.u32,x,K|.u64,x,K=>⟨fun h=>h _ ⟨rfl⟩,fun h n c=>by rw[c.eq];exact h⟩
 |.i8,_,_|.i64,_,_|.bool,_,_|.sl _,_,_=>Iff.rfl
 | .pr a b,x,K=>by
  show HH a x.1 _↔_
  rw[IP a x.1,IP b x.2]
  rfl
def CJ:Bool×List AC->AV
 | (true,cs)=> .agg cs
 | (false,c::_)=> .one c
 | (false,[])=> .one .BB
def AV.cs:AV->List AC
 | .one c=>[c]
 | .agg cs=>cs
 | .AF _=>[]
def AV.full:AV->Bool
 | .one .BB=>false
 |.one _|.agg _=>true
 | .AF _=>false
def AV.comp:AV->Bool×List AC
 | .one c=>(false,[c])
 | .agg cs=>(true,cs)
 | .AF _=>(false,[])
def comp (t:T) (x:el t):Bool×List AC:=(t.agg,cells t x)
def PI (t:T) (x:el t):AV:=CJ (comp t x)
structure St where
 sl:List AV
 bk:List (Option AH)
def nth:List AV->Nat->AV
 | [],_=> .one .BB
 | a::_,0=>a
 | _::l,n+1=>nth l n
def AD:List (Option AH)->Nat->Option AH
 | [],_=>none
 | a::_,0=>a
 | _::l,n+1=>AD l n
def Al {α:Type}:List α->Nat->α->List α
 | [],_,_=>[]
 | _::l,0,x=>x::l
 | a::l,n+1,x=>a::Al l n x
def AN (bk:Nat->Option AH) (id:Nat):Nat:=
 match bk id with
 | some b=>b.AN
 | none=>0
structure Info where
 known:Bool:=true
 size:Nat:=1
 agg:Bool:=false
 zero:List AC:=[]
 kind:Option IntKind:=none
 KC:Bool:=false
 sl:Bool:=false
 CD:TypeId:=0
 elem:T:= .bool
 B0:el elem
 Dz:Nat:=0
 fields:List (Nat×Nat×Bool):=[]
def MD:Value->AV
 | .int k n=> .one (.int k n)
 | .bool b=> .one (.bool b)
 | .slice none 0 0=> .one .nil
 | _=> .one .BB
def ev (s:List AV):Operand->AV
 | .tmp t=>nth s t
 | .const v=>MD v
 | .func f=> .one (.fn f)
 | .global _=> .one .BB
structure BC where
 v:AV
 ws:List (Nat×AH):=[]
 rd:List Nat:=[]
def Gm (n:Int):Prop:= -9223372036854775808<=n/\n<9223372036854775808
def fits (n b:Nat):Prop:=n*b<=140737488355328
def arith (op:BinOp) (k:IntKind) (a b:Int) (K:AC->Prop):Prop:=
 match op,k with
 | .add,.i64=>∀c,c=a+b->(Unit->Gm c)/\K (.int .i64 c)
 | .sub,.i64=>∀c,c=a-b->(Unit->Gm c)/\K (.int .i64 c)
 | .mul,.i64=>∀c,c=a*b->(Unit->Gm c)/\K (.int .i64 c)
 | .quo,.i64=>∀c,c=a/b->(Unit->0<=a/\0<b/\Gm c)/\K (.int .i64 c)
 | .rem,.i64=>∀c,c=a%b->(Unit->0<=a/\0<b)/\K (.int .i64 c)
 | .add,k=>∀c,c=k.wrap (a+b)->K (.int k c)
 | .sub,k=>∀c,c=k.wrap (a-b)->K (.int k c)
 | .mul,k=>∀c,c=k.wrap (a*b)->K (.int k c)
 | .quo,k=>∀c,c=k.wrap (a/b)->(Unit->0<=a/\0<b)/\K (.int k c)
 | .rem,k=>∀c,c=a%b->(Unit->0<=a/\0<b)/\K (.int k c)
 | .and,k=>∀c,c=k.wrap (BitVec.ofInt k.bits a &&& BitVec.ofInt k.bits b).toNat->K (.int k c)
 | .or,k=>∀c,c=k.wrap (BitVec.ofInt k.bits a ||| BitVec.ofInt k.bits b).toNat->K (.int k c)
 | .xor,k=>∀c,c=k.wrap (BitVec.ofInt k.bits a ^^^ BitVec.ofInt k.bits b).toNat->K (.int k c)
 | .andNot,k=>∀c,c=k.wrap (BitVec.ofInt k.bits a &&& ~~~ BitVec.ofInt k.bits b).toNat->K (.int k c)
 | .shl,k=>∀c,c=k.wrap (a*2^min b.toNat k.bits)->(Unit->0<=b)/\K (.int k c)
 | .shr,k=>∀c,c=a.fdiv (2^min b.toNat k.bits)->(Unit->0<=b)/\K (.int k c)
 | .eql,_=>∀c,c=(a==b)->K (.bool c)
 | .neq,_=>∀c,c=(a !=b)->K (.bool c)
 | .lss,_=>∀c,c=decide (a<b)->K (.bool c)
 | .leq,_=>∀c,c=decide (a<=b)->K (.bool c)
 | .gtr,_=>∀c,c=decide (a>b)->K (.bool c)
 | .geq,_=>∀c,c=decide (a >= b)->K (.bool c)
def Dr (cs:List AC):Nat->Nat->List AC
 | 0,n=>cs.take n
 | off+1,n=>match cs with
  | []=>[]
  | _::cs=>Dr cs off n
def CN {α:Type}:List α->Nat->List α->List α
 | cs,0,[]=>cs
 | [],0,_::_=>[]
 | _::cs,0,x::xs=>x::CN cs 0 xs
 | [],_+1,_=>[]
 | c::cs,off+1,xs=>c::CN cs off xs
def ld (i:Info) (cs:List AC) (off:Nat):AV:=CJ (i.agg,Dr cs off i.size)
def DG (bk:Nat->Option AH):AC->AC->Prop
 | .AM t id v off len,c=>∃l,bk id=some (.arr v t l)/\off+len<=l.length/\c= .sl t ((l.drop off).take len)
 | .nil,c=>c= .nil\/∃t,c= .sl t []
 | .int k n,c=>c= .int k n
 | .bool b,c=>c= .bool b
 | .fn f,c=>c= .fn f
 | .sl t l,c=>c= .sl t l
 | _,_=>False
def Ak:AC->AC->Prop
 | .nil,c=>c= .nil\/∃t,c= .sl t []
 | .int k n,c=>c= .int k n
 | .bool b,c=>c= .bool b
 | .fn f,c=>c= .fn f
 | .sl t l,c=>c= .sl t l
 | _,_=>False
def Ac (R:AC->AC->Prop):List AC->List AC->Prop
 | [],[]=>True
 | a::l,b::m=>R a b/\Ac R l m
 | _,_=>False
def leV (R:AC->AC->Prop):AV->AV->Prop
 | .one a,.one b=>R a b
 | .agg l,.agg m=>Ac R l m
 | _,_=>False
def Ed (R:AC->AC->Prop):List AV->List AV->Prop
 | [],[]=>True
 | a::l,b::m=>leV R a b/\Ed R l m
 | _,_=>False
def BY:AC->List Nat
 | .AM _ id _ _ _=>[id]
 | _=>[]
def BT:List AV->List Nat
 | []=>[]
 | .one c::r=>BY c++BT r
 | .agg cs::r=>cs.flatMap BY++BT r
 | .AF _::r=>BT r
def Dj (d v:Nat):AC->AC
 | .own t _ n=> .AM t d v 0 n
 | c=>c
def GD (d v:Nat):AV->AV
 | .one c=> .one (Dj d v c)
 | .agg cs=> .agg (cs.map (Dj d v))
 | .AF xs=> .AF (xs.map fun x=>(x.1,x.2.map (Dj d v)))
def Ca (d v:Nat):List AC->List (Nat×AH)
 | []=>[]
 | .own t l _::_=>[(d,.arr v t l)]
 | _::r=>Ca d v r
def Fp (d v:Nat):AV->List (Nat×AH)
 | .one c=>Ca d v [c]
 | .agg cs=>Ca d v cs
 | .AF xs=>Ca d v (xs.flatMap (·.2))
abbrev Con:=Bool->FuncId->List AV->AV->Prop
abbrev Tm:=FuncId->AC->AH->List AV->AV->AH->Prop
abbrev Tn:=FuncId->List AV->AH->AV->Prop
structure Env where
 C:Con
 B:Tm
 D:Tn
def KG (id v:Nat):AC->AC->Prop
 | .AM t i w off len,c=>(i=id/\w=v)/\c= .AM t 0 0 off len
 | .Am i w off,c=>(i=id/\w=v)/\c= .Am 0 0 off
 | .nil,c=>c= .nil\/∃t,c= .sl t []
 | .int k n,c=>c= .int k n
 | .bool b,c=>c= .bool b
 | .fn f,c=>c= .fn f
 | .sl t l,c=>c= .sl t l
 | _,_=>False
def FG (places:List (Nat×Nat×Bool)) (e:Operand->AV):List (Nat×Operand)->List AC->Option (List AC)
 | [],cs=>some cs
 | (i,x)::r,cs=>match places[i]? with
  | some (off,n,_)=>if (e x).cs.length=n/\(e x).full=true/\off+n<=cs.length then FG places e r (CN cs off (e x).cs) else none
  | none=>none
def Ft (id v:Nat):AC->AC
 | .AM t _ _ off len=> .AM t id v off len
 | .Am _ _ off=> .Am id v off
 | .B3 t _ _ i k=> .B3 t id v i k
 | c=>c
def R6 (id v:Nat):AV->AV
 | .one c=> .one (Ft id v c)
 | .agg cs=> .agg (cs.map (Ft id v))
 | .AF xs=> .AF (xs.map fun x=>(x.1,x.2.map (Ft id v)))
def AH.Cz (v:Nat):AH->AH
 | .var _ cs=> .var v cs
 | .arr _ t l=> .arr v t l
 | .dead _=> .dead v
def Kj:AC->Option (Nat×Nat)
 |.AM _ id v _ _|.Am id v _=>some (id,v)
 | _=>none
def T.flat:T->Bool
 | .sl _=>false
 | .pr a b=>a.flat&&b.flat
 | _=>true
def Jy:AH->Bool
 | .arr _ t _=>t.flat
 | _=>false
def BH:AC->Bool
 |.int _ _|.bool _|.fn _|.nil|.AM _ 0 0 _ _=>true
 | _=>false
def AV.all (p:AC->Bool):AV->Bool
 | .one c=>p c
 | .agg cs=>cs.all p
 | .AF xs=>xs.all fun x=>x.2.all p
def Ai:AC->Bool
 | .BB=>true | .int _ _=>true | .bool _=>true | .fn _=>true | .nil=>true | .sl _ _=>true
 | _=>false
def Gi (E:Env) (g:FuncId) (args:List AV) (d:Nat) (bk:Nat->Option AH) (K:BC->Prop):Prop:=
 (∃args' r,(Unit->Ed Ak args args')/\(Unit->E.C false g args' r)/\
  K ⟨GD d (AN bk d+1) r,Fp d (AN bk d+1) r,[d]⟩)\/
 (∃args' r,(Unit->Ed (DG bk) args args')/\(Unit->E.C true g args' r)/\
  K ⟨GD d (AN bk d+1) r,Fp d (AN bk d+1) r,d::BT args⟩)\/
 (match args with
  | .one c::rest=>match Kj c with
   | some (id,v)=>match bk id with
    | some b=>if b.AN=v then ∃args' r b1,(Unit->id ∉ BT rest/\Ed (DG bk) rest args')/\(Unit->E.B g (Ft 0 0 c) (b.Cz 0) args' r b1/\Jy b1=true/\r.all BH=true)/\
     K ⟨R6 id v r,[(id,b1.Cz v)],id::BT rest⟩ else False
    | none=>False
   | none=>False
  | _=>False)\/
 (∃(id:Nat) (b:AH) (args':List AV) (r:AV),(Unit->bk id=some b/\Ed (KG id b.AN) args args')/\(Unit->E.D g args' (b.Cz 0) r)/\K ⟨r,[],[id]⟩)\/
 (∃(id:Nat) (b:AH) (args':List AV) (r:AV),(Unit->(id≠0/\bk id=some b/\((BT args).all fun k=>k==id)=true)/\Ed (DG bk) args args')/\(Unit->E.C false g args' r/\r.all Ai=true)/\K ⟨r,[(id,.dead b.AN)],[id]⟩)
def DJ (TI:TypeId->Info) (b:Builtin) (tys:List TypeId) (args:List AV) (d:Nat) (bk:Nat->Option AH) (K:BC->Prop):Prop:=
 match b,tys,args with
 | .len,[t0],[.one (.sl _ l)]=>(TI t0).sl=true/\∀n,B1 n l.length->K ⟨.one (.int .i64 n),[],[]⟩
 |.len,[t0],[.one (.CI _ id v _ len)]|.len,[t0],[.one (.AM _ id v _ len)]=>(TI t0).sl=true/\if AN bk id=v then ∀n,AK n len->K ⟨.one (.int .i64 n),[],[id]⟩ else False
 |.len,[t0],[.one .nil]|.cap,[t0],[.one .nil]=>(TI t0).sl=true/\K ⟨.one (.int .i64 0),[],[]⟩
 | .min,_,[.one (.int k a),.one (.int _ b)]=>∀c,c=(if b<a then b else a)->K ⟨.one (.int k c),[],[]⟩
 | .append,[t0,t1],[.one .nil,.one x]=>
  ((TI t0).sl=true/\(TI t1).sl=true)/\∃l2:List (el (TI t0).elem),(Unit->DG bk x (.sl _ l2)/\fits l2.length (TI t0).Dz)/\
    ∀n,n=l2.length->K ⟨.one (.AM (TI t0).elem d (AN bk d+1) 0 n),[(d,.arr (AN bk d+1) _ l2)],d::BY x⟩
 | .append,[t0,t1],[.one (.CI t id v off len),.one x]=>
  ((TI t0).sl=true/\(TI t1).sl=true)/\match bk id with
    | some (.arr v' t' l)=>if v'=v/\T.beq t' t=true/\T.beq t' (TI t0).elem=true then
     ∃l2:List (el t'),(Unit->off=0/\len<=l.length/\DG bk x (.sl _ l2)/\fits (len+l2.length) (TI t0).Dz)/\
      ∀l' n,(l'=l.take len++l2/\n=l'.length)->K ⟨.one (.AM t' id (v+1) 0 n),[(id,.arr (v+1) t' l')],id::BY x⟩
     else False
    | _=>False
 | .append,[t0,t1],[.one (.AM t id v off len),.one x]=>
  ((TI t0).sl=true/\(TI t1).sl=true)/\match bk id with
    | some (.arr v' t' l)=>if v'=v/\T.beq t' t=true/\T.beq t' (TI t0).elem=true then
     ∃l2:List (el t'),(Unit->off=0/\len=l.length/\DG bk x (.sl _ l2)/\fits (l.length+l2.length) (TI t0).Dz)/\
      ∀l' n,(l'=l++l2/\n=l'.length)->K ⟨.one (.AM t' id (v+1) 0 n),[(id,.arr (v+1) t' l')],id::BY x⟩
     else False
    | _=>False
 | _,_,_=>False
def Hs (K:BC->Prop) (f:BC):Prop:=
 match f.v,f.ws with
 | .one (.AM t id v off n),[(i,.arr v' t' l)]=>if (id !=0&&id==i&&v==v'&&off==0&&T.beq t t')=true then (Unit->n=l.length)/\K ⟨.one (.sl t' l),[(id,.dead v)],f.rd⟩ else False
 | _,_=>False
def Li (TI:TypeId->Info) (b:Builtin) (tys:List TypeId) (args:List AV) (d:Nat) (bk:Nat->Option AH) (K:BC->Prop):Prop:=
 match b with
 | .append=>DJ TI b tys args d bk K\/DJ TI b tys args d bk (Hs K)
 | _=>DJ TI b tys args d bk K
def Ln:List (Nat×List AC)->Nat->List (List AC)->Prop
 | [],_,[]=>True
 | p::r,k,x::m=>p.1=k/\Ac Ak p.2 x/\Ln r (k+1) m
 | _,_,_=>False
def F6 (len:Nat) (lo hi mx:Option AV) (K:Nat->Nat->Bool->Prop):Prop:=
 match lo,hi,mx with
 | none,none,none=>∀h,h=len->K 0 h false
 | some (.one (.int _ a)),none,none=>(Unit->0<=a/\a.toNat<=len)/\∀l h,(l=a.toNat/\h=len)->K l h false
 | none,some (.one (.int _ b)),none=>(Unit->0<=b/\b.toNat<=len)/\∀h,h=b.toNat->K 0 h false
 | some (.one (.int _ a)),some (.one (.int _ b)),none=>(Unit->0<=a/\a<=b/\b.toNat<=len)/\∀l h,(l=a.toNat/\h=b.toNat)->K l h false
 | none,some (.one (.int _ b)),some (.one (.int _ m))=>(Unit->0<=b/\b=m/\m.toNat<=len)/\∀h,h=b.toNat->K 0 h true
 | _,_,_=>False
def F5 (bk:Nat->Option AH) (u:T) (x:AV) (lo hi mx:Option AV) (K:BC->Prop):Prop:=
 match x with
 | .one (.sl t l)=>T.beq t u=true/\∀n,n=l.length->F6 n lo hi mx fun a b _=>∀l',l'=(l.take b).drop a->K ⟨.one (.sl t l'),[],[]⟩
 | .one (.AM t id v off len)=>T.beq t u=true/\if AN bk id=v then F6 len lo hi mx fun a b c=>∀o n,(o=off+a/\n=b-a)->
  match c with | true=>K ⟨.one (.CI t id v o n),[],[id]⟩ | false=>K ⟨.one (.AM t id v o n),[],[id]⟩
  else False
 | .one .nil=>F6 0 lo hi mx fun _ _ _=>K ⟨.one .nil,[],[]⟩
 | _=>False
def BS (E:Env) (TI:TypeId->Info) (o:Oper) (d:Nat) (e:Operand->AV) (bk:Nat->Option AH) (K:BC->Prop):Prop:=
 match o.op with
 |.move x|.assign x=>K ⟨e x,[],[]⟩
 | .nilCheck x=>match e x with
  | .one (.Am id v off)=>if AN bk id=v then K ⟨e x,[],[id]⟩ else False
  | .one (.fn _)=>K ⟨e x,[],[]⟩
  | _=>False
 | .pick c a b=>match e c with
  | .one (.bool true)=>K ⟨e a,[],[]⟩
  | .one (.bool false)=>K ⟨e b,[],[]⟩
  | _=>False
 | .alloc t=>(TI t).known=true/\K ⟨.one (.Am d (AN bk d+1) 0),[(d,.var (AN bk d+1) (TI t).zero)],[d]⟩
 | .box _ x=>match e x with
  |.AF _|.one .BB=>False
  | v=>K ⟨.one (.Am d (AN bk d+1) 0),[(d,.var (AN bk d+1) v.cs)],[d]⟩
 | .extract t i=>match e t with
  | .AF xs=>match xs[i]? with
   | some x=>K ⟨CJ x,[],[]⟩
   | none=>False
  | _=>False
 | .load t a=>(TI t).known=true/\match e a with
  | .one (.Am id v off)=>match bk id with
   | some (.var v' cs)=>if v'=v/\(Dr cs off (TI t).size).length=(TI t).size then K ⟨ld (TI t) cs off,[],[id]⟩ else False
   | _=>False
  | .one (.CU t' x off)=>HH t' x fun cs=>if (Dr cs off (TI t).size).length=(TI t).size then K ⟨ld (TI t) cs off,[],[]⟩ else False
  | .one (.B3 t' id v i k)=>match bk id with
   | some (.arr v' u l)=>if v'=v/\T.beq t' u=true then ∃x:el u,(Unit->l[i]? =some x)/\HH u x fun cs=>
    if (Dr cs k (TI t).size).length=(TI t).size then K ⟨ld (TI t) cs k,[],[id]⟩ else False
    else False
   | _=>False
  | _=>False
 | .store t a x=>(TI t).known=true/\match e a with
  | .one (.Am id v off)=>match bk id,e x with
   |_,.AF _|_,.one .BB=>False
   | some (.var v' cs),y=>if v'=v/\y.cs.length=(TI t).size/\off+(TI t).size<=cs.length then
    K ⟨.one .BB,[(id,.var v (CN cs off y.cs))],[id]⟩ else False
   | _,_=>False
  | .one (.B3 t' id v i k)=>match bk id,e x with
   |_,.AF _|_,.one .BB=>False
   | some (.arr v' u l),y=>if v'=v/\k=0/\(TI t).size=u.size/\T.beq t' u=true then
    ∃z:el u,(Unit->i<l.length/\Ac Ak y.cs (cells u z))/\∀l',l'=l.set i z->K ⟨.one .BB,[(id,.arr v u l')],[id]⟩
    else False
   | _,_=>False
  | _=>False
 | .fieldAddr s x f=>(TI s).known=true/\match (TI s).fields[f]?,e x with
  | some (fo,_,_),.one (.Am id v off)=>if AN bk id=v then K ⟨.one (.Am id v (off+fo)),[],[id]⟩ else False
  | some (fo,_,_),.one (.CU t y off)=>K ⟨.one (.CU t y (off+fo)),[],[]⟩
  | some (fo,_,_),.one (.B3 t id v i k)=>if AN bk id=v then K ⟨.one (.B3 t id v i (k+fo)),[],[id]⟩ else False
  | _,_=>False
 | .field s x f=>(TI s).known=true/\match (TI s).fields[f]?,e x with
  | some (fo,n,g),.agg cs=>if (Dr cs fo n).length=n then K ⟨CJ (g,Dr cs fo n),[],[]⟩ else False
  | _,_=>False
 | .build t parts=>((TI t).known=true/\(TI t).fields.isEmpty=false)/\match FG (TI t).fields e parts.toList (TI t).zero with
  | some cs=>K ⟨.agg cs,[],[]⟩
  | none=>False
 | .buildSlice t len parts=>(TI t).sl=true/\(TI t).elem.size<=16/\∃xs:List (el (TI t).elem),
  (Unit->xs.length=len/\len<=1048576/\(parts.toList.all fun p=>(e p.2).full)=true/\Ln (parts.toList.map fun p=>(p.1,(e p.2).cs)) 0 (xs.map (cells _)))/\
  (K ⟨.one (.AM (TI t).elem d (AN bk d+1) 0 len),[(d,.arr (AN bk d+1) _ xs)],[d]⟩\/K ⟨.one (.sl (TI t).elem xs),[],[]⟩)
 | .makeSlice t l c=>(TI t).sl=true/\match e l,e c with
  | .one (.int _ n),.one (.int _ m)=>(Unit->0<=n/\n<=m/\fits m.toNat (TI t).Dz)/\
   ∀k z,(k=n.toNat/\z=List.replicate k (TI t).B0)->K ⟨.one (.AM (TI t).elem d (AN bk d+1) 0 k),[(d,.arr (AN bk d+1) _ z)],[d]⟩
  | _,_=>False
 | .indexAddr t x i=>(TI t).sl=true/\match e x,e i with
  | .one (.sl t' l),.one (.int _ n)=>T.beq t' (TI t).elem=true/\∃x,(Unit->0<=n/\l[n.toNat]? =some x)/\K ⟨.one (.CU t' x 0),[],[]⟩
  | .one (.AM t' id v off len),.one (.int _ n)=>T.beq t' (TI t).elem=true/\if AN bk id=v then (Unit->0<=n/\n.toNat<len)/\∀j,j=off+n.toNat->K ⟨.one (.B3 t' id v j 0),[],[id]⟩ else False
  | _,_=>False
 | .slice t x lo hi mx=>(TI t).sl=true/\F5 bk (TI t).elem (e x) (lo.map e) (hi.map e) (mx.map e) K
 | .binOp op bt x y _=>match e x,e y with
  | .one (.int k a),.one (.int k' b)=>if k=k'\/op= .shl\/op= .shr then arith op k a b fun c=>K ⟨.one c,[],[]⟩ else False
  | .one (.bool a),.one (.bool b)=>(TI bt).KC=true/\match op with
   | .eql=>∀c,c=(a==b)->K ⟨.one (.bool c),[],[]⟩
   | .neq=>∀c,c=(a !=b)->K ⟨.one (.bool c),[],[]⟩
   | _=>False
  | .one (.sl _ l),.one .nil=>(TI bt).sl=true/\match op with
   | .eql=>∀c,c=l.isEmpty->K ⟨.one (.ub c),[],[]⟩
   | _=>False
  | _,_=>False
 | .unOp op _ x=>match op,e x with
  | .not,.one (.bool b)=>∀c,c= !b->K ⟨.one (.bool c),[],[]⟩
  | .neg,.one (.int k n)=>arith .sub k 0 n fun c=>K ⟨.one c,[],[]⟩
  | _,_=>False
 | .convert src dst x=>(TI src).known=true/\match (TI dst).kind,e x with
  | some k,.one (.int _ n)=>∀c,c=k.wrap n->K ⟨.one (.int k c),[],[]⟩
  | _,_=>False
 | .call c=>match c.callee with
  | .builtin b=>Li TI b c.argTypes.toList (c.args.toList.map e) d bk K
  | .value f=>match e f with
   | .one (.fn g)=>Gi E g (c.args.toList.map e) d bk K
   | _=>False
  | .invoke _ _=>False
 | _=>False
def By:List (Nat×AH)->List (Option AH)->List (Option AH)
 | [],b=>b
 | w::r,b=>By r (Al b w.1 (some w.2))
def Dn (l:List AV):Option Nat->AV->List AV
 | some d,v=>Al l d v
 | none,_=>l
def St.app (s:St) (d:Option Nat) (f:BC):St:=⟨Dn s.sl d f.v,By f.ws s.bk⟩
def Aw (o:Oper):Nat:=o.dst.getD 1000000
abbrev Tr:=List (List Nat×List Nat)
def J9 (ops:List Oper) (j:Nat):Option Nat:=(ops[j]?).bind (·.dst)
def Rg (o:Oper):List Nat:=o.op.operands.toList.filterMap fun | .tmp t=>some t | _=>none
def FN (ops:List Oper) (o:Oper):List Nat:=
 o.dst.toList++Rg o++(match o.guard with | some (j,_)=>(J9 ops j).toList | none=>[])
def DB (o:Oper):List Nat:=(o.after.toList.filter fun e=>Region.binds .any e).map (·.on)
def Dg:List Oper->List (List Nat)->List (List Nat)
 | [],acc=>acc
 | o::r,acc=>Dg r (acc++[(DB o).flatMap fun j=>j::acc.getD j []])
def IV (a b:List Nat):Bool:=a.all fun x=> !b.contains x
def IF (ops:List Oper) (oi oj:Oper) (ti tj:List Nat×List Nat):Bool:=
 IV oi.dst.toList (FN ops oj)&&IV oj.dst.toList (FN ops oi)&&
 IV ti.2 (tj.1++tj.2)&&IV tj.2 ti.1
def RX (ops:List Oper) (tr:Tr) (bs:List (List Nat)):Bool:=
 (List.range ops.length).all fun j=>(List.range j).all fun i=>
  (bs.getD j []).contains i||
   (match ops[i]?,ops[j]?,tr[i]?,tr[j]? with
    | some oi,some oj,some ti,some tj=>IF ops oi oj ti tj
    | _,_,_,_=>false)
def PK (ops:List Oper):Bool:=
 (List.range ops.length).all fun j=>match ops[j]? with | some o=>(DB o).all fun i=>decide (i<j) | none=>true
def Gr (ops:List Oper) (tr:Tr):Bool:=PK ops&&RX ops tr (Dg ops [])
def Ey (E:Env) (TI:TypeId->Info) (all:List Oper) (draw:Bool):List Oper->Tr->(St->Prop)->St->Prop
 | [],tr,Q,s=>match draw with
  | false=>Q s
  | true=>(Unit->Gr all tr.reverse=true)/\Q s
 | o::r,tr,Q,s=>match o.guard with
  | none=>BS E TI o (Aw o) (ev s.sl) (AD s.bk) fun f=>Ey E TI all draw r ((f.rd,f.ws.map (·.1))::tr) Q (s.app o.dst f)
  | some (j,w)=>match J9 all j with
   | none=>False
   | some g=>match nth s.sl g,w with
    |.one (.bool true),true|.one (.bool false),false=>BS E TI o (Aw o) (ev s.sl) (AD s.bk) fun f=>Ey E TI all draw r ((f.rd,f.ws.map (·.1))::tr) Q (s.app o.dst f)
    |.one (.bool true),false|.one (.bool false),true|.AF [],_=>Ey E TI all draw r (([],[])::tr) Q (s.app o.dst ⟨.AF [],[],[]⟩)
    | _,_=>False
 inductive AX
  | B4 | exit (n:Nat) | ret
def GI (bk:Nat->Option AH) (bs:List Nat):AC->AC
 | .AM t id v off len=>if bs.contains id&&AN bk id==v then .AM t id 0 off len else .BB
 | .Am id v off=>if bs.contains id&&AN bk id==v then .Am id 0 off else .BB
 | .B3 t id v i k=>if bs.contains id&&AN bk id==v then .B3 t id 0 i k else .BB
 | .CI _ _ _ _ _=> .BB
 | c=>c
def Mt (bk:Nat->Option AH) (bs:List Nat):AV->AV
 | .one c=> .one (GI bk bs c)
 | .agg cs=> .agg (cs.map (GI bk bs))
 | .AF _=> .one .BB
def Ir (bk:Nat->Option AH) (bs:List Nat):AH->AH
 | .var _ cs=> .var 0 (cs.map (GI bk bs))
 | .arr _ t l=> .arr 0 t l
 | .dead _=> .dead 0
def Co (s:St) (bs:List Nat):List Nat->List AV
 | []=>[]
 | k::r=>Mt (AD s.bk) bs (nth s.sl k)::Co s bs r
def Cd (s:St) (bs:List Nat):List Nat->List AH
 | []=>[]
 | k::r=>(match AD s.bk k with | some b=>if k==0&&b.AN !=0 then .dead 0 else Ir (AD s.bk) bs b | none=> .dead 0)::Cd s bs r
def D4:List Nat->List AV->List AV->List AV
 | k::ks,v::vs,l=>D4 ks vs (Al l k v)
 | _,_,l=>l
def Eu:List Nat->List AH->List (Option AH)->List (Option AH)
 | k::ks,v::vs,l=>Eu ks vs (Al l k (some v))
 | _,_,l=>l
def Ew {α:Type}:Nat->α->List α
 | 0,_=>[]
 | n+1,x=>x::Ew n x
def Ep (n:Nat) (ks:List Nat) (vs:List AV) (bs:List Nat) (bl:List AH):St:=
 ⟨D4 ks vs (Ew n (.one .BB)),Eu bs bl (Ew n none)⟩
def HR:Code->Bool
 |.skip|.region _ _ _=>true
 | .seq a b=>HR a&&HR b
 | .cond _ a b=>HR a||HR b
 |.block _ _|.loop _=>true
 | _=>false
def B9 (E:Env) (TI:TypeId->Info) (n:Nat):Code->(AX->St->Prop)->St->Prop
 | .skip,Q,s=>Q .B4 s
 | .region _ ops draw,Q,s=>Ey E TI ops.toList draw ops.toList [] (Q .B4) s
 | .seq a b,Q,s=>B9 E TI n a (fun e s=>match e with | .B4=>B9 E TI n b Q s | .exit i=>Q (.exit i) s | .ret=>Q .ret s) s
 | .cond c a b,Q,s=>match HR a&&HR b with
  | true=>(∃(ks bs:List Nat) (J:List AV->List AH->Prop),(∀vs bl,J vs bl->Q .B4 (Ep n ks vs bs bl))/\
    match ev s.sl c with
    | .one (.bool true)=>B9 E TI n a (fun e s'=>match e with | .B4=>J (Co s' bs ks) (Cd s' bs bs) | .exit i=>Q (.exit i) s' | .ret=>Q .ret s') s
    | .one (.bool false)=>B9 E TI n b (fun e s'=>match e with | .B4=>J (Co s' bs ks) (Cd s' bs bs) | .exit i=>Q (.exit i) s' | .ret=>Q .ret s') s
    | .one (.ub u)=>(u=true->B9 E TI n a (fun e s'=>match e with | .B4=>J (Co s' bs ks) (Cd s' bs bs) | .exit i=>Q (.exit i) s' | .ret=>Q .ret s') s)/\
     B9 E TI n b (fun e s'=>match e with | .B4=>J (Co s' bs ks) (Cd s' bs bs) | .exit i=>Q (.exit i) s' | .ret=>Q .ret s') s
    | _=>False)\/
   (match ev s.sl c with
   | .one (.bool true)=>B9 E TI n a Q s
   | .one (.bool false)=>B9 E TI n b Q s
   | .one (.ub u)=>(u=true->B9 E TI n a Q s)/\B9 E TI n b Q s
   | _=>False)
  | false=>match ev s.sl c with
   | .one (.bool true)=>B9 E TI n a Q s
   | .one (.bool false)=>B9 E TI n b Q s
   | .one (.ub u)=>(u=true->B9 E TI n a Q s)/\B9 E TI n b Q s
   | _=>False
 | .block id c,Q,s=>(∃(ks bs:List Nat) (J:List AV->List AH->Prop),(∀vs bl,J vs bl->Q .B4 (Ep n ks vs bs bl))/\
   B9 E TI n c (fun e s'=>match e with | .exit i=>if i=id then J (Co s' bs ks) (Cd s' bs bs) else Q (.exit i) s' | .B4=>J (Co s' bs ks) (Cd s' bs bs) | .ret=>Q .ret s') s)\/
  B9 E TI n c (fun e s=>match e with | .exit i=>if i=id then Q .B4 s else Q (.exit i) s | .B4=>Q .B4 s | .ret=>Q .ret s) s
 | .loop c,Q,s=>∃(ks bs:List Nat) (J:List AV->List AH->Nat->Prop),
  (∃k,J (Co s bs ks) (Cd s bs bs) k)/\∀vs bl k,J vs bl k->
   B9 E TI n c (fun e s'=>match e with
    | .B4=>∃k',k'<k/\J (Co s' bs ks) (Cd s' bs bs) k'
    | .exit i=>Q (.exit i) s' | .ret=>Q .ret s') (Ep n ks vs bs bl)
 | .exit i,Q,s=>Q (.exit i) s
 | .ret,Q,s=>Q .ret s
 | _,_,_=>False
def Ck (bk:Nat->Option AH):AC->AC->Prop
 | .AM t id v off len,c=>(∃l,bk id=some (.arr v t l)/\off+len<=l.length/\c= .sl t ((l.drop off).take len))\/
  (∃l n,id≠0/\bk id=some (.arr v t l)/\off=0/\len=l.length/\n=l.length/\c= .own t l n)\/
  (id=0/\v=0/\c= .AM t 0 0 off len)
 | .nil,c=>c= .nil\/(∃t,c= .sl t [])\/∃t,c= .own t [] 0
 | .int k n,c=>c= .int k n
 | .bool b,c=>c= .bool b
 | .fn f,c=>c= .fn f
 | .sl t l,c=>c= .sl t l
 | _,_=>False
def Ex (bk:Nat->Option AH):List (Bool×List AC)->List (Bool×List AC)->Prop
 | [],[]=>True
 | a::l,b::m=>(a.1=b.1/\Ac (Ck bk) a.2 b.2)/\Ex bk l m
 | _,_=>False
def Dl:AC->Bool
 | .own _ _ _=>true
 | _=>false
def Fh:AC->Bool
 |.AM _ _ _ _ _|.own _ _ _=>true
 | _=>false
def Gs (src:List (Bool×List AC)) (res:List (Bool×List AC)):Bool:=
 match (res.flatMap (·.2)).filter Dl with
 | []=>true
 | [_]=>((src.flatMap (·.2)).filter Fh).length<=1
 | _=>false
def AV.CP:AV->List (Bool×List AC)
 | .AF xs=>xs
 | v=>[v.comp]
def Ko (TI:TypeId->Info) (s:St):ResultVar->Option (Bool×List AC)
 | .tmp t=>some (nth s.sl t).comp
 | .cell a t=>match nth s.sl a with
  | .one (.Am id v off)=>match AD s.bk id with
   | some (.var v' cs)=>if (TI t).known&&v'==v&&(Dr cs off (TI t).size).length==(TI t).size then some ((TI t).agg,Dr cs off (TI t).size) else none
   | _=>none
  | _=>none
def Fv (TI:TypeId->Info) (s:St):List ResultVar->Option (List (Bool×List AC))
 | []=>some []
 | r::rs=>match Ko TI s r,Fv TI s rs with
  | some x,some xs=>some (x::xs)
  | _,_=>none
def Gp:AC->Bool
 | .AM _ 0 _ _ _=>false
 | _=>true
def Kd (TI:TypeId->Info) (rs:List ResultVar) (r:AV) (b0:AH) (e:AX) (s:St):Prop:=
 match e with
 | .exit _=>False
 | _=>match Fv TI s rs with
  | some xs=>(Unit->(Ex (AD s.bk) xs r.CP/\(xs.all fun x=>x.2.all Gp)=true/\(rs.length=1↔∀ys,r≠ .AF ys))/\AD s.bk 0=some b0)
  | none=>False
def post (TI:TypeId->Info) (rs:List ResultVar) (r:AV) (b1:Option AH) (e:AX) (s:St):Prop:=
 match e with
 | .exit _=>False
 | _=>match Fv TI s rs with
  | some xs=>(Unit->Ex (AD s.bk) xs r.CP/\Gs xs r.CP=true/\(rs.length=1↔∀ys,r≠ .AF ys))/\
   (match b1 with | none=>True | some b=>Unit->AD s.bk 0=some b)
  | none=>False
def Cb (n:Nat) (args:List AV) (b0:Option AH):St:=
 ⟨args++Ew (n-args.length) (.one .BB),match n with | 0=>[] | n+1=>b0::Ew n none⟩
end Go.Abs
