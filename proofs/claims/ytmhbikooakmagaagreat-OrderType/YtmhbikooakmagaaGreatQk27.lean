/- Part 28 of a proof. Conditions: each theorem's own. -/
import Derived.Test.YtmhbikooakmagaaGreatQk26
set_option linter.all false
set_option maxHeartbeats 8000000
set_option maxRecDepth 20000
open Go.Proofs
namespace Go.Abs
open Go.RowKit
variable {A1 A2:LR} {M R b c k l p q:Nat} {T1 T2:List LR} {TT:List (List Rat)->Prop} {w:List (List Rat)} {x y:Re}
theorem NF:Cy Tryz.prog 262 [.one (.Ak 0 0 0),.agg (Ab T1 A1),.one (.int .i64 0)] (.var 0 [.int .i64 0]) (.agg (Ab T1 A1)):=by
 refine K8 Tryz.func262 fun E a=>?_
 conv=>cbv
 refine Bu ?_;conv=>cbv
 refine .inr ?_;refine Ai ?_;conv=>cbv
 refine fun _=>⟨⟨⟨t3,trivial⟩,rfl,by simp⟩,rfl⟩
theorem Y3 (F:Fm TT w R b c M q p) (ha:Nm TT w b k T1 A1 x) (hb:Nm TT w b l T2 A2 y) (m:k+c+1<=M:=by omega) (n:l+c+1<=M:=by omega):∃T A,Nm TT w b (k+l+1) T A (x+y)/\Cy Tryz.prog 155 [.one (.Ak 0 0 0),.agg (Ab T1 A1),.agg (Ab T2 A2)] (.var 0 [.int .i64 0]) (.agg (Ab T A)):=by
 obtain⟨f,d,h,_,g⟩:=Hg F ha hb;refine⟨f,d,h,?_⟩;refine K8 Tryz.func155 fun E a=>?_
 conv=>cbv
 refine AB a g ?_;conv=>cbv
 refine D5 0 0 a NF ?_;try conv=>cbv
 refine fun _=>⟨⟨⟨t3,trivial⟩,rfl,by simp⟩,rfl⟩
theorem GQ (F:Fm TT w R b c M q p) (ha:Nm TT w b k T1 A1 x) (hb:Nm TT w b l T2 A2 y) (m:k+c+1<=M:=by omega) (n:l+c+1<=M:=by omega):∃T A,Nm TT w b (k+l+1) T A (x-y)/\Cy Tryz.prog 157 [.one (.Ak 0 0 0),.agg (Ab T1 A1),.agg (Ab T2 A2)] (.var 0 [.int .i64 0]) (.agg (Ab T A)):=by
 obtain⟨f,d,h,_,g⟩:=OR F ha hb;refine⟨f,d,h,?_⟩;refine K8 Tryz.func157 fun E a=>?_
 conv=>cbv
 refine AB a g ?_;conv=>cbv
 refine D5 0 0 a NF ?_;try conv=>cbv
 refine fun _=>⟨⟨⟨t3,trivial⟩,rfl,by simp⟩,rfl⟩
theorem Ky (F:Fm TT w R b c M q p) (ha:Nm TT w b k T1 A1 x) (hb:Nm TT w b l T2 A2 y) (m:k+c+1<=M:=by omega) (n:l+c+1<=M:=by omega):∃T A,Nm TT w b (k+l+1) T A (x*y)/\Cy Tryz.prog 156 [.one (.Ak 0 0 0),.agg (Ab T1 A1),.agg (Ab T2 A2)] (.var 0 [.int .i64 0]) (.agg (Ab T A)):=by
 obtain⟨f,d,h,_,g⟩:=Ih F ha hb;refine⟨f,d,h,?_⟩;refine K8 Tryz.func156 fun E a=>?_
 conv=>cbv
 refine AB a g ?_;conv=>cbv
 refine D5 0 0 a NF ?_;try conv=>cbv
 refine fun _=>⟨⟨⟨t3,trivial⟩,rfl,by simp⟩,rfl⟩
end Go.Abs
namespace Go.Abs
section
variable (cmp:Int->Int->Int) (Bm:Int->Int->Int->Int)
def Eh (i:Int):List Int->List Int
 | []=>[i]
 | j::r=>if cmp j i<0 then j::Eh i r else if cmp j i=0 then j::r else i::j::r
def DA:Nat->List Int
 | 0=>[]
 | n+1=>Eh cmp n (DA n)
def Dq (i:Int):List Int->List Int
 | b::a::r=>if 0<Bm a b i then b::a::r else Dq i (a::r)
 | l=>l
def DB:List Int->List Int->List Int
 | [],st=>st
 | i::r,st=>DB r (i::Dq Bm i st)
def Jj (n:Nat):List Int:=
 if (DA cmp n).length<=1 then DA cmp n else (DB Bm (DA cmp n) []).reverse.dropLast++(DB Bm (DA cmp n).reverse []).reverse.dropLast
end
variable {cmp:Int->Int->Int} {Bm:Int->Int->Int->Int} {i j:Int}
theorem Nt:∀{out:List Int} {k:Nat},(∀m x,m<k->out[m]? =some x->cmp x i<0)->k<=out.length->(∀x,out[k]? =some x->0<cmp x i)->Eh cmp i out=out.take k++i::out.drop k
 | [],k,_,h,_=>by
  obtain rfl:k=0:=by simpa using h
  rfl
 | x::r,0,_,_,h=>by
  have:=h x rfl;rw[Eh,if_neg (by omega),if_neg (by omega)];rfl
 | x::r,k+1,h,g,f=>by
  have d:=h 0 x (by omega) rfl;rw[Eh,if_pos d,Nt (k:=k) (fun m y hm a=>h (m+1) y (by omega) a) (by simpa using g) (fun y a=>f y a)];rfl
theorem Sh:∀{out:List Int} {k:Nat},(∀m x,m<k->out[m]? =some x->cmp x i<0)->out[k]? =some j->cmp j i=0->Eh cmp i out=out
 | [],k,_,h,_=>by simp at h
 | x::r,0,_,h,a=>by
  obtain rfl:x=j:=by simpa using h
  rw[Eh,if_neg (by omega),if_pos a]
 | x::r,k+1,h,f,a=>by
  have d:=h 0 x (by omega) rfl;rw[Eh,if_pos d,Sh (k:=k) (fun m y hm g=>h (m+1) y (by omega) g) f a]
theorem TG {x:Int}:∀{out:List Int},x∈Eh cmp i out->x=i\/x∈out
 | [],h=> .inl (by simpa [Eh] using h)
 | y::r,h=>by
  unfold Eh at h
  split at h
  ·rcases List.mem_cons.1 h with h | h
   ·exact .inr (by simp[h])
   exact (TG h).imp id fun q=>List.mem_cons_of_mem _ q
  split at h
  ·exact .inr h
  rcases List.mem_cons.1 h with h | h
  ·exact .inl h
  exact .inr h
theorem OB {x:Int}:∀{n:Nat},x∈DA cmp n->0<=x/\x<n
 | 0,h=>by simp[DA] at h
 | n+1,h=>by
  rcases TG h with h | h
  ·omega
  have:=OB h;omega
theorem Si:∀{out:List Int},(Eh cmp i out).length<=out.length+1
 | []=>by simp[Eh]
 | y::r=>by
  have:=Si (out:=r);unfold Eh
  split
  ·simp only[List.length_cons];omega
  split <;> simp only[List.length_cons] <;> omega
theorem O7:∀{n:Nat},(DA cmp n).length<=n
 | 0=>by simp[DA]
 | n+1=>by have:=Si (cmp:=cmp) (i:=n) (out:=DA cmp n);have:=O7 (n:=n);rw[DA];omega
theorem cK {l:List Int} (h:l.length<2):Dq Bm i l=l:=by
 match l,h with
 |[],_|[_],_=>rfl
theorem UD:∀{l:List Int},(Dq Bm i l).length<=l.length
 |[]|[_]=>Nat.le_refl _
 | b::a::r=>by
  unfold Dq
  split
  ·exact Nat.le_refl _
  exact Nat.le_trans UD (by simp)
theorem RJ:∀{l st:List Int},(DB Bm l st).length<=l.length+st.length
 | [],_=>by simp[DB]
 | y::r,st=>by
  have a:=RJ (l:=r) (st:=y::Dq Bm y st);have d:=UD (Bm:=Bm) (i:=y) (l:=st);rw[DB];simp only[List.length_cons] at *;omega
theorem RK:∀{l st:List Int},st≠[]->DB Bm l st≠[]
 | [],_,h=>h
 | _::r,_,_=>RK (l:=r) (by simp)
theorem Y9 {l:List Int} (h:l≠[]):DB Bm l []≠[]:=by
 cases l with
 | nil=>exact absurd rfl h
 | cons y r=>exact RK (l:=r) (by simp)
theorem PD {α:Type} {L:List α} {c:Nat} {a:α} (h:L[c]? =some a):(L.take (c+1)).reverse=a::(L.take c).reverse:=by
 rw[List.take_add_one,h];simp
theorem Vp {α:Type} {L:List α} {c:Nat} {a b:α} (h:L[c]? =some a) (d:L[c+1]? =some b):(L.take (c+2)).reverse=b::a::(L.take c).reverse:=by
 rw[PD d,PD h]
theorem cI {L:List Int} {c:Nat} {a b:Int} (h:L[c]? =some a) (d:L[c+1]? =some b) (h3:¬0<Bm a b i):Dq Bm i (L.take (c+2)).reverse=Dq Bm i (L.take (c+1)).reverse:=by
 rw[Vp h d,Dq,if_neg h3,PD h]
theorem cG {L:List Int} {c:Nat} {a b:Int} (h:L[c]? =some a) (d:L[c+1]? =some b) (h3:0<Bm a b i):Dq Bm i (L.take (c+2)).reverse=(L.take (c+2)).reverse:=by
 rw[Vp h d,Dq,if_pos h3]
end Go.Abs
