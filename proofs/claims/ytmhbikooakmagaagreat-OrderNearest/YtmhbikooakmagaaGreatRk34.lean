/- Part 35 of a proof. Conditions: each theorem's own. -/
import Derived.Test.YtmhbikooakmagaaGreatRk31
set_option linter.all false
set_option maxHeartbeats 8000000
set_option maxRecDepth 20000
open Go.Proofs
namespace Go.Abs
open Go.RowKit
variable {A1 A2:LR} {M R b c k l p q:Nat} {T1 T2:List LR} {TT:List (List Rat)->Prop} {w:List (List Rat)} {x y:Re}
theorem QK:Bv Tryz.prog 262 [.one (.Ab 0 0 0),.agg (AR T1 A1),.one (.int .i64 0)] (.var 0 [.int .i64 0]) (.agg (AR T1 A1)):=by
 refine DA Tryz.func262 fun E a=>?_
 conv=>cbv
 refine Bc ?_;conv=>cbv
 refine .inr ?_;refine AU ?_;conv=>cbv
 refine fun _=>⟨⟨⟨t3,trivial⟩,rfl,by simp⟩,rfl⟩
theorem Uz (F:Fm TT w R b c M q p) (ha:Nm TT w b k T1 A1 x) (hb:Nm TT w b l T2 A2 y) (m:k+c+1<=M:=by omega) (n:l+c+1<=M:=by omega):∃T A,Nm TT w b (k+l+1) T A (x+y)/\Bv Tryz.prog 155 [.one (.Ab 0 0 0),.agg (AR T1 A1),.agg (AR T2 A2)] (.var 0 [.int .i64 0]) (.agg (AR T A)):=by
 obtain⟨f,d,h,_,g⟩:=HN F ha hb;refine⟨f,d,h,?_⟩;refine DA Tryz.func155 fun E a=>?_
 conv=>cbv
 refine AB a g ?_;conv=>cbv
 refine Am 0 0 a QK ?_;try conv=>cbv
 refine fun _=>⟨⟨⟨t3,trivial⟩,rfl,by simp⟩,rfl⟩
theorem F9 (F:Fm TT w R b c M q p) (ha:Nm TT w b k T1 A1 x) (hb:Nm TT w b l T2 A2 y) (m:k+c+1<=M:=by omega) (n:l+c+1<=M:=by omega):∃T A,Nm TT w b (k+l+1) T A (x-y)/\Bv Tryz.prog 157 [.one (.Ab 0 0 0),.agg (AR T1 A1),.agg (AR T2 A2)] (.var 0 [.int .i64 0]) (.agg (AR T A)):=by
 obtain⟨f,d,h,_,g⟩:=L7 F ha hb;refine⟨f,d,h,?_⟩;refine DA Tryz.func157 fun E a=>?_
 conv=>cbv
 refine AB a g ?_;conv=>cbv
 refine Am 0 0 a QK ?_;try conv=>cbv
 refine fun _=>⟨⟨⟨t3,trivial⟩,rfl,by simp⟩,rfl⟩
theorem Jw (F:Fm TT w R b c M q p) (ha:Nm TT w b k T1 A1 x) (hb:Nm TT w b l T2 A2 y) (m:k+c+1<=M:=by omega) (n:l+c+1<=M:=by omega):∃T A,Nm TT w b (k+l+1) T A (x*y)/\Bv Tryz.prog 156 [.one (.Ab 0 0 0),.agg (AR T1 A1),.agg (AR T2 A2)] (.var 0 [.int .i64 0]) (.agg (AR T A)):=by
 obtain⟨f,d,h,_,g⟩:=IZ F ha hb;refine⟨f,d,h,?_⟩;refine DA Tryz.func156 fun E a=>?_
 conv=>cbv
 refine AB a g ?_;conv=>cbv
 refine Am 0 0 a QK ?_;try conv=>cbv
 refine fun _=>⟨⟨⟨t3,trivial⟩,rfl,by simp⟩,rfl⟩
end Go.Abs
namespace Go.Abs
section
variable (cmp:Int->Int->Int) (BT:Int->Int->Int->Int)
def Dy (i:Int):List Int->List Int
 | []=>[i]
 | j::r=>if cmp j i<0 then j::Dy i r else if cmp j i=0 then j::r else i::j::r
def CL:Nat->List Int
 | 0=>[]
 | n+1=>Dy cmp n (CL n)
def Dc (i:Int):List Int->List Int
 | b::a::r=>if 0<BT a b i then b::a::r else Dc i (a::r)
 | l=>l
def Ck:List Int->List Int->List Int
 | [],st=>st
 | i::r,st=>Ck r (i::Dc BT i st)
def Gd (n:Nat):List Int:=
 if (CL cmp n).length<=1 then CL cmp n else (Ck BT (CL cmp n) []).reverse.dropLast++(Ck BT (CL cmp n).reverse []).reverse.dropLast
end
variable {cmp:Int->Int->Int} {BT:Int->Int->Int->Int} {i j:Int}
theorem Qz:∀{out:List Int} {k:Nat},(∀m x,m<k->out[m]? =some x->cmp x i<0)->k<=out.length->(∀x,out[k]? =some x->0<cmp x i)->Dy cmp i out=out.take k++i::out.drop k
 | [],k,_,h,_=>by
  obtain rfl:k=0:=by simpa using h
  rfl
 | x::r,0,_,_,h=>by
  have:=h x rfl;rw[Dy,if_neg (by omega),if_neg (by omega)];rfl
 | x::r,k+1,h,g,f=>by
  have d:=h 0 x (by omega) rfl;rw[Dy,if_pos d,Qz (k:=k) (fun m y hm a=>h (m+1) y (by omega) a) (by simpa using g) (fun y a=>f y a)];rfl
theorem Wl:∀{out:List Int} {k:Nat},(∀m x,m<k->out[m]? =some x->cmp x i<0)->out[k]? =some j->cmp j i=0->Dy cmp i out=out
 | [],k,_,h,_=>by simp at h
 | x::r,0,_,h,a=>by
  obtain rfl:x=j:=by simpa using h
  rw[Dy,if_neg (by omega),if_pos a]
 | x::r,k+1,h,f,a=>by
  have d:=h 0 x (by omega) rfl;rw[Dy,if_pos d,Wl (k:=k) (fun m y hm g=>h (m+1) y (by omega) g) f a]
theorem RI {x:Int}:∀{out:List Int},x∈Dy cmp i out->x=i\/x∈out
 | [],h=> .inl (by simpa [Dy] using h)
 | y::r,h=>by
  unfold Dy at h
  split at h
  ·rcases List.mem_cons.1 h with h | h
   ·exact .inr (by simp[h])
   exact (RI h).imp id fun q=>List.mem_cons_of_mem _ q
  split at h
  ·exact .inr h
  rcases List.mem_cons.1 h with h | h
  ·exact .inl h
  exact .inr h
theorem RJ {x:Int}:∀{n:Nat},x∈CL cmp n->0<=x/\x<n
 | 0,h=>by simp[CL] at h
 | n+1,h=>by
  rcases RI h with h | h
  ·omega
  have:=RJ h;omega
theorem Wm:∀{out:List Int},(Dy cmp i out).length<=out.length+1
 | []=>by simp[Dy]
 | y::r=>by
  have:=Wm (out:=r);unfold Dy
  split
  ·simp only[List.length_cons];omega
  split <;> simp only[List.length_cons] <;> omega
theorem SY:∀{n:Nat},(CL cmp n).length<=n
 | 0=>by simp[CL]
 | n+1=>by have:=Wm (cmp:=cmp) (i:=n) (out:=CL cmp n);have:=SY (n:=n);rw[CL];omega
theorem kf {l:List Int} (h:l.length<2):Dc BT i l=l:=by
 match l,h with
 |[],_|[_],_=>rfl
theorem XR {x:Int}:∀{l:List Int},x∈Dc BT i l->x∈l
 |[],h|[_],h=>h
 | b::a::r,h=>by
  unfold Dc at h
  split at h
  ·exact h
  exact List.mem_cons_of_mem _ (XR h)
theorem YX:∀{l:List Int},(Dc BT i l).length<=l.length
 |[]|[_]=>Nat.le_refl _
 | b::a::r=>by
  unfold Dc
  split
  ·exact Nat.le_refl _
  exact Nat.le_trans YX (by simp)
theorem RH {x:Int}:∀{l st:List Int},x∈Ck BT l st->x∈l\/x∈st
 | [],_,h=> .inr h
 | y::r,st,h=>by
  rcases RH (l:=r) h with h | h
  ·exact .inl (List.mem_cons_of_mem _ h)
  rcases List.mem_cons.1 h with h | h
  ·exact .inl (by simp[h])
  exact .inr (XR h)
theorem VA:∀{l st:List Int},(Ck BT l st).length<=l.length+st.length
 | [],_=>by simp[Ck]
 | y::r,st=>by
  have a:=VA (l:=r) (st:=y::Dc BT y st);have d:=YX (BT:=BT) (i:=y) (l:=st);rw[Ck];simp only[List.length_cons] at *;omega
theorem VC:∀{l st:List Int},st≠[]->Ck BT l st≠[]
 | [],_,h=>h
 | _::r,_,_=>VC (l:=r) (by simp)
theorem fe {l:List Int} (h:l≠[]):Ck BT l []≠[]:=by
 cases l with
 | nil=>exact absurd rfl h
 | cons y r=>exact VC (l:=r) (by simp)
theorem Sg {α:Type} {L:List α} {c:Nat} {a:α} (h:L[c]? =some a):(L.take (c+1)).reverse=a::(L.take c).reverse:=by
 rw[List.take_add_one,h];simp
theorem aF {α:Type} {L:List α} {c:Nat} {a b:α} (h:L[c]? =some a) (d:L[c+1]? =some b):(L.take (c+2)).reverse=b::a::(L.take c).reverse:=by
 rw[Sg d,Sg h]
theorem kZ {L:List Int} {c:Nat} {a b:Int} (h:L[c]? =some a) (d:L[c+1]? =some b) (h3:¬0<BT a b i):Dc BT i (L.take (c+2)).reverse=Dc BT i (L.take (c+1)).reverse:=by
 rw[aF h d,Dc,if_neg h3,Sg h]
theorem kX {L:List Int} {c:Nat} {a b:Int} (h:L[c]? =some a) (d:L[c+1]? =some b) (h3:0<BT a b i):Dc BT i (L.take (c+2)).reverse=(L.take (c+2)).reverse:=by
 rw[aF h d,Dc,if_pos h3]
end Go.Abs
