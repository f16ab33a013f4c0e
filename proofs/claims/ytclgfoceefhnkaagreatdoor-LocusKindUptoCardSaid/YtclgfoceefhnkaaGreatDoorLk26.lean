/- Part 27 of a proof. Conditions: each theorem's own. -/
import Derived.Test.YtclgfoceefhnkaaGreatDoorLk24
set_option linter.all false
set_option maxHeartbeats 80000000
set_option maxRecDepth 20000
namespace Go.Abs
open Go.RowKit
def orM (g:Nat->Nat):List Nat->Nat
 | []=>0
 | k::r=>Nat.lor (Nat.lor (Nat.pow 2 k) (g k)) (orM g r)
def Ev (acc:List Nat) (n k:Nat):Nat:=match Nat.ble (k+1) n with | true=>acc.getD (n-1-k) 0 | false=>0
def J9:List Oper->List Nat->Nat->List Nat
 | [],acc,_=>acc
 | o::r,acc,n=>J9 r (orM (Ev acc n) (EA o)::acc) (n+1)
def PB (ops:List Oper) (tr:Tr):Bool:=Ry ops&&((fun acc=>(List.range ops.length).all fun j=>(List.range j).all fun i=>
 Nat.testBit (Ev acc ops.length j) i||
  (match ops[i]?,ops[j]?,tr[i]?,tr[j]? with
   | some oi,some oj,some ti,some tj=>J3 ops oi oj ti tj
   | _,_,_,_=>false)) (J9 ops [] 0))
theorem VE {g:Nat->Nat} {i:Nat}:∀{l:List Nat},(orM g l).testBit i=true↔∃k∈l,i=k\/(g k).testBit i=true
 | []=>by simp[orM]
 | k::r=>by
  have c:=VE (g:=g) (i:=i) (l:=r)
  show ((2^k ||| g k) ||| orM g r).testBit i=true↔_
  rw[Nat.testBit_or,Nat.testBit_or,Nat.testBit_two_pow,Bool.or_eq_true,Bool.or_eq_true,c];simp only[List.mem_cons,decide_eq_true_eq]
  constructor
  ·rintro ((h | h) |⟨m,b,a⟩)
   ·exact⟨k,.inl rfl,.inl h.symm⟩
   ·exact⟨k,.inl rfl,.inr h⟩
   exact⟨m,.inr b,a⟩
  rintro⟨m,rfl | b,a⟩
  ·exact .inl (a.imp Eq.symm id)
  exact .inr ⟨m,b,a⟩
theorem Zk {x:Nat} {acc:List Nat} {n k:Nat} (h:k≠n):Ev (x::acc) (n+1) k=Ev acc n k:=by
 unfold Ev
 by_cases c:k<n
 ·rw[Nat.ble_eq_true_of_le (by omega:k+1<=n+1),Nat.ble_eq_true_of_le (by omega:k+1<=n)]
  show (x::acc).getD (n+1-1-k) 0=acc.getD (n-1-k) 0
  rw[show n+1-1-k=(n-1-k)+1 by omega];rfl
 have a:Nat.ble (k+1) (n+1)=false:=by rw[<-Bool.not_eq_true,Nat.ble_eq];omega
 have b:Nat.ble (k+1) n=false:=by rw[<-Bool.not_eq_true,Nat.ble_eq];omega
 rw[a,b]
theorem R8:∀(ops:List Oper) {acc:List (List Nat)} {m:List Nat},(∀j i,(Ev m acc.length j).testBit i=true↔i∈acc.getD j [])->∀j i,(Ev (J9 ops m acc.length) (acc.length+ops.length) j).testBit i=true↔i∈(Ej ops acc).getD j []
 | [],_,_,h=>h
 | o::r,acc,m,h=>by
  rw[Ej,J9]
  have:=R8 r (acc:=acc++[(EA o).flatMap fun j=>j::acc.getD j []]) (m:=orM (Ev m acc.length) (EA o)::m) (fun j i=>by
   rw[List.length_append,List.length_singleton]
   by_cases e:j=acc.length
   ·subst e
    have e1:Ev (orM (Ev m acc.length) (EA o)::m) (acc.length+1) acc.length=orM (Ev m acc.length) (EA o):=by
     unfold Ev;rw[Nat.ble_eq_true_of_le (Nat.le_refl _)]
     show (_::m).getD (acc.length+1-1-acc.length) 0=_
     rw[show acc.length+1-1-acc.length=0 by omega];rfl
    rw[e1,VE];have b:(acc++[(EA o).flatMap fun j=>j::acc.getD j []]).getD acc.length []=(EA o).flatMap fun j=>j::acc.getD j []:=by simp
    rw[b,List.mem_flatMap]
    constructor
    ·rintro⟨k,a,h'⟩;exact⟨k,a,List.mem_cons.2 (h'.imp id (h k i).1)⟩
    rintro⟨k,a,h'⟩;exact⟨k,a,(List.mem_cons.1 h').imp id (h k i).2⟩
   rw[Zk e,h]
   by_cases c:j<acc.length
   ·simp only[List.getD_eq_getElem?_getD,List.getElem?_append_left c]
   simp only[List.getD_eq_getElem?_getD];rw[List.getElem?_eq_none (by omega),List.getElem?_eq_none (by simp;omega)])
  rw[List.length_append,List.length_singleton] at this;rw[List.length_cons,show acc.length+(r.length+1)=acc.length+1+r.length by omega];exact this
theorem dO {ops:List Oper} {tr:Tr} (h:PB ops tr=true):Hd ops tr=true:=by
 unfold PB at h;unfold Hd;rw[Bool.and_eq_true] at h ⊢;refine⟨h.1,?_⟩;have a:=R8 ops (acc:=[]) (m:=[]) (fun j i=>by unfold Ev;split <;> simp);rw[List.length_nil,Nat.zero_add] at a
 have e:∀j i,((Ej ops []).getD j []).contains i=Nat.testBit (Ev (J9 ops [] 0) ops.length j) i:=fun j i=>by
  rw[Bool.eq_iff_iff,List.contains_iff_mem];exact (a j i).symm
 have b:=h.2;unfold U6;simp only[e];exact b
end Go.Abs
