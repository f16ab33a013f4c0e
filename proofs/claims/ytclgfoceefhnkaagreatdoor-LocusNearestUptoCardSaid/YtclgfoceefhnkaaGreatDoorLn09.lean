/- Part 10 of a proof. Conditions: each theorem's own. -/
import Derived.Test.YtclgfoceefhnkaaGreatDoorLn08
set_option linter.all false
set_option maxHeartbeats 80000000
set_option maxRecDepth 20000
open Go.Proofs
namespace Go.Abs
section
def Fj (k i:Nat):Bool:=k/2^i%2==1
def C7 (i:Nat):Nat->List Rat->Bool
 | _,[]=>false
 | k,q::l=>(Fj k i&&q !=0)||C7 i (k+1) l
def Bx (i:Nat):Nat->List Rat->List Rat
 | _,[]=>[]
 | k,q::l=>if Fj k i=true then Bx i (k+1) l else q::Bx i (k+1) l
variable {w:List (List Rat)} {x:Re}
theorem Sj (i:Nat):∀(k:Nat) (a b:List Rat),C7 i k (a++b)=(C7 i k a||C7 i (k+a.length) b)
 | k,[],b=>by simp[C7]
 | k,q::a,b=>by
  rw[List.cons_append,C7,C7,Sj i (k+1) a b,List.length_cons,Bool.or_assoc,show k+1+a.length=k+(a.length+1) by omega]
theorem QL (i:Nat):∀(k:Nat) (a b:List Rat),Bx i k (a++b)=Bx i k a++Bx i (k+a.length) b
 | k,[],b=>by simp[Bx]
 | k,q::a,b=>by
  rw[List.cons_append,Bx,Bx,QL i (k+1) a b,List.length_cons,show k+1+a.length=k+(a.length+1) by omega]
  split <;> simp
theorem WK (k i c:Nat):Fj (k+2^(i+1)*c) i=Fj k i:=by
 unfold Fj;rw[Nat.pow_succ,Nat.mul_assoc,Nat.add_mul_div_left _ _ (Nat.two_pow_pos i),Nat.add_mul_mod_self_left]
theorem Ys (i c:Nat):∀(k:Nat) (l:List Rat),C7 i (k+2^(i+1)*c) l=C7 i k l
 | _,[]=>rfl
 | k,q::l=>by
  rw[C7,C7,WK,show k+2^(i+1)*c+1=k+1+2^(i+1)*c by omega,Ys i c (k+1) l]
theorem bz (i c:Nat):∀(k:Nat) (l:List Rat),Bx i (k+2^(i+1)*c) l=Bx i k l
 | _,[]=>rfl
 | k,q::l=>by
  rw[Bx,Bx,WK,show k+2^(i+1)*c+1=k+1+2^(i+1)*c by omega,bz i c (k+1) l]
theorem gd {k i:Nat} (h:k<2^i):Fj k i=false:=by unfold Fj;rw[Nat.div_eq_of_lt h];rfl
theorem WI {k i:Nat} (h:2^i<=k) (d:k<2^i+2^i):Fj k i=true:=by
 unfold Fj
 have:k/2^i=1:=by
  rw[Nat.div_eq_iff (Nat.two_pow_pos i)];omega
 rw[this];rfl
theorem bx (i:Nat):∀(k:Nat) (l:List Rat),k+l.length<=2^i->Bx i k l=l
 | _,[],_=>rfl
 | k,q::l,h=>by
  rw[List.length_cons] at h;rw[Bx,gd (by omega),bx i (k+1) l (by omega)];rfl
theorem bu (i:Nat):∀(k:Nat) (l:List Rat),2^i<=k->k+l.length<=2^i+2^i->Bx i k l=[]
 | _,[],_,_=>rfl
 | k,q::l,h,d=>by
  rw[List.length_cons] at d;rw[Bx,WI h (by omega),bu i (k+1) l (by omega) (by omega)];rfl
theorem Yr (i:Nat):∀(k:Nat) (l:List Rat),2^i<=k->k+l.length<=2^i+2^i->C7 i k l=false->∀q∈l,q=0
 | _,[],_,_,_=>by simp
 | k,q::l,h,f,h3=>by
  rw[List.length_cons] at f;rw[C7,WI h (by omega)] at h3;simp only[Bool.true_and,Bool.or_eq_false_iff,bne_eq_false_iff_eq] at h3;intro x d;rcases List.mem_cons.1 d with rfl | d
  ·exact h3.1
  exact Yr i (k+1) l (by omega) (by omega) h3.2 x d
theorem QM (i:Nat):∀(k:Nat) (l:List Rat),∀q∈Bx i k l,q∈l
 | _,[],q,h=>h
 | k,x::l,q,h=>by
  rw[Bx] at h
  split at h
  ·exact List.mem_cons_of_mem _ (QM i (k+1) l q h)
  rcases List.mem_cons.1 h with rfl | h
  ·exact List.mem_cons_self
  exact List.mem_cons_of_mem _ (QM i (k+1) l q h)
theorem XD {r:List Rat} {u:List (List Rat)}:∀{v:List (List Rat)},AU (v++r::u)->(∀s∈v,C7 u.length 0 s=false)->
  AU (v.map (Bx u.length 0)++u)/\BT (v.map (Bx u.length 0)++u) (v++r::u)/\(∀x∈BB (v.map (Bx u.length 0)++u),x∈BB (v++r::u))/\
  ∀{x:Re},In (v++r::u) x->C7 u.length 0 (co (v++r::u) x)=false->In (v.map (Bx u.length 0)++u) x/\co (v.map (Bx u.length 0)++u) x=Bx u.length 0 (co (v++r::u) x)
 | [],h,_=>by
  refine⟨h.1,fun x d=>E6 d,fun x d=>List.mem_cons_of_mem _ d,fun {x} d B=>?_⟩;obtain⟨p,q,o,A,rfl⟩:=Cd.1 d;have e:=DB h o A rfl;have C:=C0 o;have O:=C0 A;simp only[List.nil_append,List.map_nil] at*;rw[e,Sj,C,Nat.zero_add,Bool.or_eq_false_iff] at B;have F:q=0:=(MY h.1 A).1 (Yr _ _ _ (Nat.le_refl _) (by omega) B.2);subst F;have ex:p+0*rt u r=p:=by grind
  rw[e,QL,C,Nat.zero_add,bx _ _ _ (by omega),bu _ _ _ (Nat.le_refl _) (by omega),List.append_nil,ex];exact⟨o,rfl⟩
 | s::v,h,B=>by
  have h:AU (s::(v++r::u)):=h;obtain⟨L,I,h3,D⟩:=XD (v:=v) h.1 (fun t ht=>B t (List.mem_cons_of_mem _ ht));have G:=B s List.mem_cons_self;have H:In (v++r::u) (AM (v++r::u) s):=B9 h
  show AU (Bx u.length 0 s::(v.map (Bx u.length 0)++u))/\BT (Bx u.length 0 s::(v.map (Bx u.length 0)++u)) (s::(v++r::u))/\(∀x∈BB (Bx u.length 0 s::(v.map (Bx u.length 0)++u)),x∈BB (s::(v++r::u)))/\
   ∀{x:Re},In (s::(v++r::u)) x->C7 u.length 0 (co (s::(v++r::u)) x)=false->In (Bx u.length 0 s::(v.map (Bx u.length 0)++u)) x/\co (Bx u.length 0 s::(v.map (Bx u.length 0)++u)) x=Bx u.length 0 (co (s::(v++r::u)) x)
  have cs:co (v++r::u) (AM (v++r::u) s)=s:=EP h;obtain⟨k1,k2⟩:=D H (by rw[cs];exact G);rw[cs] at k2;have f:AM (v.map (Bx u.length 0)++u) (Bx u.length 0 s)=AM (v++r::u) s:=by rw[<-k2,EC k1]
  have j:AU (Bx u.length 0 s::(v.map (Bx u.length 0)++u)):=by
   refine⟨L,by rw[<-k2];exact C0 k1,by rw[f];exact h.2.2.1,?_⟩;rw[f]
   rintro⟨w,hw,e⟩
   exact h.2.2.2 ⟨w,I w hw,e⟩
  have g:rt (v.map (Bx u.length 0)++u) (Bx u.length 0 s)=rt (v++r::u) s:=by rw[rt,rt,f]
  have hlen:2^(v++r::u).length=2^(u.length+1)*2^v.length:=by rw[<-Nat.pow_add];congr 1;simp;omega
  refine⟨j,I6 h (I.trans fun x d=>E6 d) (by rw[g];exact IU _ _),fun x d=>?_,fun {x} d k=>?_⟩
  ·rcases List.mem_cons.1 d with rfl | d
   ·exact List.mem_cons.2 (.inl f)
   exact List.mem_cons_of_mem _ (h3 x d)
  obtain⟨p,q,o,A,rfl⟩:=Cd.1 d;have e:=DB h o A rfl;have C:=C0 o;rw[e,Sj,C,hlen,Ys,Bool.or_eq_false_iff] at k;obtain⟨J,M⟩:=D o k.1;obtain⟨K,N⟩:=D A k.2;rw[<-g];refine⟨Cd.2 ⟨p,q,J,K,rfl⟩,?_⟩;rw[g,e,QL,C,hlen,bz,<-M,<-N,<-g];exact DB j J K rfl
def Lr (i:Nat) (s:List (List Rat)×List Rat):List (List Rat)×List Rat:=
 if (C7 i 0 s.2||(s.1.drop (i+1)).any (C7 i 0))=true then s else (s.1.take i++(s.1.drop (i+1)).map (Bx i 0),Bx i 0 s.2)
def HW:Nat->List (List Rat)×List Rat->List (List Rat)×List Rat
 | 0,s=>s
 | i+1,s=>HW i (Lr i s)
structure H8 (w:List (List Rat)) (x:Re) (w':List (List Rat)):Prop where
 red:AU w'
 mem:In w' x
 CL:BT w' w
 BB:∀v∈BB w',v∈BB w
 len:w'.length<=w.length
 Ih:∀s∈w',∃t∈w,∀q∈s,q∈t
 cos:∀q∈co w' x,q∈co w x
theorem H8.refl (h:AU w) (f:In w x):H8 w x w:=⟨h,f,BT.refl w,fun _ h=>h,Nat.le_refl _,fun s d=>⟨s,d,fun _ h=>h⟩,fun _ h=>h⟩
theorem H8.trans {w' d:List (List Rat)} (h:H8 w x w') (k:H8 w' x d):H8 w x d:=
 ⟨k.red,k.mem,k.CL.trans h.CL,fun v r=>h.BB v (k.BB v r),Nat.le_trans k.len h.len,fun s o=>by
  obtain⟨t,ht,f⟩:=k.Ih s o;obtain⟨t2,j,g⟩:=h.Ih t ht;exact⟨t2,j,fun q u=>g q (f q u)⟩,fun q f=>h.cos q (k.cos q f)⟩
theorem bO {i:Nat} (h:AU w) (k:In w x) (D:i<w.length):∃w',Lr i (w.reverse,co w x)=(w'.reverse,co w' x)/\H8 w x w'/\i<=w'.length:=by
 unfold Lr
 split
 ·exact⟨w,rfl,.refl h k,by omega⟩
 rename_i j
 obtain⟨v,r,u,rfl,rfl⟩:∃v r u,w=v++r::u/\i=u.length:=by
  refine⟨w.take (w.length-1-i),w[w.length-1-i]'(by omega),w.drop (w.length-1-i+1),?_,by rw[List.length_drop];omega⟩;rw[<-List.drop_eq_getElem_cons,List.take_append_drop]
 have d:(v++r::u).reverse=u.reverse++r::v.reverse:=by simp
 have C:(v++r::u).reverse.drop (u.length+1)=v.reverse:=by
  rw[d,show u.reverse++r::v.reverse=(u.reverse++[r])++v.reverse by simp];exact List.drop_left' (by simp)
 have ht:(v++r::u).reverse.take u.length=u.reverse:=by
  rw[d];exact List.take_left' (by simp)
 simp only[C,ht,Bool.not_eq_true,Bool.or_eq_false_iff] at j ⊢
 obtain⟨o,A,h3,B⟩:=XD h (fun s f=>by
  have:=List.any_eq_false.1 j.2 s (List.mem_reverse.2 f);simpa using this)
 obtain⟨k1,k2⟩:=B k j.1;refine⟨v.map (Bx u.length 0)++u,?_,⟨o,k1,A,h3,by simp,fun s f=>?_,fun q g=>?_⟩,by simp⟩
 ·rw[k2,List.reverse_append,List.map_reverse]
 ·rcases List.mem_append.1 f with f | f
  ·obtain⟨t,ht,rfl⟩:=List.mem_map.1 f;exact⟨t,List.mem_append_left _ ht,fun q g=>QM _ _ _ q g⟩
  exact⟨s,List.mem_append_right _ (List.mem_cons_of_mem _ f),fun _ h=>h⟩
 rw[k2] at g;exact QM _ _ _ q g
theorem UK:∀{i:Nat} {w:List (List Rat)} {x:Re},AU w->In w x->i<=w.length->∃w',HW i (w.reverse,co w x)=(w'.reverse,co w' x)/\H8 w x w'
 | 0,w,x,h,d,_=>⟨w,rfl,.refl h d⟩
 | i+1,w,x,h,d,g=>by
  obtain⟨k,e1,t1,l1⟩:=bO h d g;obtain⟨j,f,t2⟩:=UK t1.red t1.mem l1;exact⟨j,by rw[HW,e1,f],t1.trans t2⟩
end
section
open Go.RowKit
variable {a b m n p:Int} {e i:Nat}
theorem N3.lt {x:UInt8} (_:N3 n x):x.toNat<256:=x.toNat_lt
theorem MA.lt {x:UInt32} (_:MA n x):x.toNat<4294967296:=x.toNat_lt
theorem BD (k:Nat):AO k k:=⟨rfl⟩
theorem AO.of {k:Nat} (h:n=k):AO n k:=⟨h⟩
theorem Br (h:true=(a==b)):a=b:=by simpa using h.symm
theorem Bp (h:false=(a==b)):a≠b:=by simpa using h.symm
theorem Hu (h:true=(a !=b)):a≠b:=by simpa using h.symm
theorem Ht (h:false=(a !=b)):a=b:=by simpa using h.symm
theorem Dx (h:true=decide (a<b)):a<b:=by simpa using h.symm
theorem Dw (h:false=decide (a<b)):b<=a:=by simpa using h.symm
theorem M0 (h:true=decide (a<=b)):a<=b:=by simpa using h.symm
theorem Mz (h:false=decide (a<=b)):b<a:=by simpa using h.symm
theorem GY (h:true=decide (a>b)):b<a:=by simpa using h.symm
theorem GX (h:false=decide (a>b)):a<=b:=by simpa using h.symm
theorem LA (h:true=decide (a >= b)):b<=a:=by simpa using h.symm
theorem K8 (h:false=decide (a >= b)):a<b:=by simpa using h.symm
theorem GF {a:Bool} (h:true= !a):a=false:=by simpa using h.symm
theorem GD {a:Bool} (h:false= !a):a=true:=by simpa using h.symm
theorem RC {a b:Bool} (h:true=(a==b)):a=b:=by simpa using h.symm
theorem RB {a b:Bool} (h:false=(a==b)):a≠b:=by simpa using h.symm
theorem Km {a b:Bool} (h:true=(a !=b)):a≠b:=by simpa using h.symm
theorem Kk {a b:Bool} (h:false=(a !=b)):a=b:=by simpa using h.symm
theorem wrap_u8 (h:n=IntKind.u8.wrap m):n=m%256:=h
theorem wrap_u32 (h:n=IntKind.u32.wrap m):n=m%4294967296:=h
theorem wrap_u64 (h:n=IntKind.u64.wrap m):n=m%18446744073709551616:=h
theorem wrap_i64 (h:n=IntKind.i64.wrap m):n=(m+9223372036854775808)%18446744073709551616-9223372036854775808:=by
 have e:IntKind.i64.wrap m=if (true&&decide (m%18446744073709551616 >= 9223372036854775808))=true then m%18446744073709551616-18446744073709551616 else m%18446744073709551616:=rfl
 rw[h,e]
 split
 ·rename_i d
  simp only[Bool.true_and,decide_eq_true_eq] at d;omega
 rename_i d
 simp only[Bool.true_and,decide_eq_true_eq] at d;omega
theorem EW (h:n=a.fdiv (2^e)) (d:2^e=p):n=a/p:=by
 rw[h,<-d,Int.fdiv_eq_ediv_of_nonneg _ (by have:=Int.pow_pos (n:=2) (m:=e) (by decide);omega)]
theorem KP (h:n=IntKind.u64.wrap (a*2^e)) (d:2^e=p):n=(a*p)%18446744073709551616:=by rw[<-d];exact h
theorem CM {α:Type} {l:List α} (h:i<l.length):∃x,l[i]? =some x:=⟨l[i],by simp[h]⟩
theorem CZ (h:0<=n/\n<4294967296):∃w:UInt32,MA n w:=⟨UInt32.ofNat n.toNat,⟨by rw[UInt32.toNat_ofNat'];omega⟩⟩
theorem CY {w:UInt32} (h:MA n w):BR BV [.int .u32 n] (cells .u32 w):=by
 refine⟨?_,trivial⟩
 show AC.int .u32 _=AC.int .u32 n
 rw[h.eq]
theorem GW {α:Type} {l:List α} {x:α} (h:l[i]? =some x):i<l.length:=by
 apply Classical.byContradiction;intro d;rw[List.getElem?_eq_none (by omega)] at h;exact absurd h (by simp)
theorem DO {α:Type} {l:List α} {x:α} (h:l[i]? =some x):l.take (i+1)=l.take i++[x]:=by
 have d:=GW h;rw[List.take_succ_eq_append_getElem d];rw[List.getElem?_eq_getElem d] at h;rw[Option.some.inj h]
theorem Dm {t:T} {l m:List (el t)} {n k:Nat} (h:l=m) (d:n=k):AC.own t l n=AC.own t m k:=by rw[h,d]
end
section
open Go.RowKit
variable {a b n:Nat} {c y:Int} {l m z:List UInt32}
theorem Ey (N:AD l=n) (D:z=AP n):CF 380 [.one (.sl .u32 l)] (.one (.sl .u32 z)):=by
 have D:CV l=z:=by rw[D,<-N,Lq]
 refine AG Tryz.func380 fun E X=>?_
 refine BN [] [0] [] (fun vs H k=>∃m:List UInt32,vs=[.one (.sl .u32 m)]/\CV m=z/\k=m.length) l.length ⟨l,rfl,D,rfl⟩ ?_;rintro U A vs H P ⟨m,rfl,o,M⟩;refine AS ?_;rintro n4 ⟨V,f4⟩;refine E0 (fun O=>?_) fun O=>?_
 ·have B:m=[]:=List.eq_nil_of_length_eq_zero (by omega);exact AF (by rw[<-o,B];rfl)
 rintro Y ⟨W,f9⟩ d K;refine AW ((d).toNat) fun s g=>?_
 refine AS ?_;intro R j;have I:=j.eq;have f12:=j.lt;refine CH (fun t=>?_) fun t=>?_
 ·have C:s≠0:=fun h=>by subst h;exact t j.eq
  have v:m=m.take (d).toNat++[s]:=by have:=DO g;rw[List.take_of_length_le (by omega)] at this;exact this
  exact AF (by rw[<-o,v,KT C])
 refine .inr ?_;refine AK ?_;rintro S ⟨J,f17⟩ T L Q G u F r f;refine⟨r.length,?_,?_⟩
 ·rw[f];simp;omega
 rw[A];have el:r=m.take (d).toNat:=by rw[f,show u=(d).toNat by omega];simp
 refine⟨r,rfl,?_,rfl⟩;obtain rfl:s=0:=UInt32.toNat_inj.1 (by show _=0;omega)
 have v:m=m.take (d).toNat++[0]:=by
  have:=DO g;rw[List.take_of_length_le (by omega)] at this;exact this
 rw[el,<-o];conv=>rhs;rw[v]
 rw[JW]
theorem Xv (x:Int):CF 402 [.one (.int .i64 x)] (.one (.bool false)):=by
 refine AG Tryz.func402 fun E f=>?_
 intro g d;exact AF (by rw[d];simp)
theorem Xw (x:Int):CF 412 [.one (.int .u32 x)] (.one (.bool false)):=by
 refine AG Tryz.func412 fun E f=>?_
 intro g d;exact AF (by rw[d];simp)
theorem Uc {x:Int} (d:c=Bu x y):CF 391 [.one (.int .i64 x),.one (.int .i64 y)] (.one (.int .i64 c)):=by
 refine AG Tryz.func391 fun E h=>?_
 refine AB h (Xv _) ?_;refine AB h (Xv _) ?_;refine Cw (fun f=>?_) fun f=>?_
 ·exact AF (by rw[d];unfold Bu;split <;> (try split) <;> omega)
 refine E0 (fun g=>?_) fun g=>?_
 ·exact AF (by rw[d];unfold Bu;split <;> (try split) <;> omega)
 exact AF (by rw[d];unfold Bu;split <;> (try split) <;> omega)
theorem cZ {x:Int} (d:c=Bu x y):CF 403 [.one (.int .u32 x),.one (.int .u32 y)] (.one (.int .i64 c)):=by
 refine AG Tryz.func403 fun E h=>?_
 refine AB h (Xw _) ?_;refine AB h (Xw _) ?_;refine Cw (fun f=>?_) fun f=>?_
 ·exact AF (by rw[d];unfold Bu;split <;> (try split) <;> omega)
 refine E0 (fun g=>?_) fun g=>?_
 ·exact AF (by rw[d];unfold Bu;split <;> (try split) <;> omega)
 exact AF (by rw[d];unfold Bu;split <;> (try split) <;> omega)
theorem Ls {m:Nat} (P:n<=l.length) (hl:l.length<=140737488355328) (hm:m=(CV (l.take n)).length):Is Tryz.prog 380 (.AZ .u32 0 0 0 n) (.arr 0 .u32 l) [] (.one (.AZ .u32 0 0 0 m)) (.arr 0 .u32 l):=by
 refine ML Tryz.func380 (by kernel_rfl) rfl fun E Z=>?_
 conv=>cbv
 refine BN [] [0] [0] (fun vs B k=>∃q:Nat,vs=[.one (.AZ .u32 0 0 0 q)]/\B=[.arr 0 .u32 l]/\q<=l.length/\m=(CV (l.take q)).length/\k=q) n ⟨n,rfl,rfl,P,hm,rfl⟩ ?_;rintro W u vs B R ⟨q,rfl,rfl,hq,j,O⟩;conv=>cbv
 intro n4 M;have X:=M.eq;conv=>cbv
 refine E0 (fun Q=>?_) fun Q=>?_
 ·refine⟨fun _=>⟨⟨⟨rfl,.inr (.inr ⟨rfl,rfl,congrArg (AC.AZ .u32 0 0 0) (by rw[j,show q=0 by omega];rfl)⟩),trivial⟩,trivial⟩,rfl,by simp⟩,fun _=>rfl⟩
 intro n9 N;have Y:=N.eq;refine AK ?_;intro S K o F;obtain⟨r,d⟩:=CM (l:=l) (i:=o) (by omega);refine⟨r,fun _=>d,?_⟩;refine AS ?_;intro T g;have I:=g.eq;have f12:=g.lt;refine CH (fun s=>?_) fun s=>?_
 ·have v:r≠0:=fun h=>by subst h;exact s g.eq
  refine⟨fun _=>⟨⟨⟨rfl,.inr (.inr ⟨rfl,rfl,congrArg (AC.AZ .u32 0 0 0) (by rw[j,show q=o+1 by omega,DO d,KT v,List.length_append,List.length_take];simp;omega)⟩),trivial⟩,trivial⟩,rfl,by simp⟩,fun _=>rfl⟩
 refine .inr ?_;intro U t;have J:=t.eq;refine AK ?_;rintro V L H C A f ⟨G,D⟩;refine⟨f,?_,?_⟩
 ·omega
 rw[u];obtain rfl:A=0:=by omega
 refine⟨f,rfl,rfl,by omega,?_,rfl⟩;obtain rfl:r=0:=UInt32.toNat_inj.1 (by show _=0;omega);rw[j,show q=f+1 by omega,DO (x:=0) (by rw[show f=o by omega];exact d),JW]
theorem ZJ {zn:Nat} (hl:l=AP a) (hm:m=AP b) (hz:z=AP (a+b)) (ag:zn=z.length) (sl:l.length<=17592186044416) (sm:m.length<=17592186044416):CF 400 [.one (.sl .u32 l),.one (.sl .u32 m)] (.one (.own .u32 z zn)):=by
 refine AG Tryz.func400 fun E hE=>?_
 rintro aQ ⟨aE,f10⟩ aR ⟨aF,f12⟩ av X;obtain⟨al,D⟩:=xK fun vs bl=>∃(p q:Nat) (x y:List UInt32),vs=[.one (.sl .u32 x),.one (.sl .u32 y)]/\x=AP p/\y=AP q/\p+q=a+b/\y.length<=x.length/\x.length<=17592186044416
 refine .inl ⟨[0,1],[],al,?_,?_⟩
 ·intro vs bl hj;rw[D] at hj;obtain⟨p,q,x,y,rfl,hx,hy,I,af,aO⟩:=hj;refine AK ?_;rintro aS ⟨aG,f17⟩ aT aL;refine⟨fun _=>⟨by omega,by omega,by show _*4<=140737488355328;omega⟩,?_⟩;intro Q (R:List UInt32) N;have J:=N.1;have v:R=List.replicate Q (0:el .u32):=N.2;have aD:R.length=Q:=by rw[v,List.length_replicate]
  refine AS ?_;intro aw P;have aH:=P.eq;have f21:=P.le;refine BN [] [0,1,5,6,20,21,22] [19] (fun vs bl k=>∃(o:List UInt32) (n U i':Nat) (c L i:Int),vs=[.one (.sl .u32 x),.one (.sl .u32 y),.one (.AZ .u32 19 0 0 n),.one (.int .u64 c),.one (.sl .u32 x),.one (.int .i64 L),.one (.int .i64 i)]/\bl=[.arr 0 .u32 o]/\(n=o.length/\o.length=i'/\DP L x.length/\AO i i'/\i'<=x.length/\AO c U/\U<=1)/\AD o+2^(32*i')*U=AD (x.take i')+AD (y.take i')/\k=x.length-i') (x.length-0) ⟨R,Q,0,0,0,aw,0,rfl,rfl,⟨by rw[v,List.length_replicate],by rw[v,List.length_replicate,J];rfl,P,BD 0,by omega,BD 0,by omega⟩,by rw[v,J];simp[AD],rfl⟩ ?_;rintro J0 ab vs bl aP ⟨o,n,U,i',c,L,i,rfl,rfl,⟨hn,ho,hL,hi,aN,hc,aM⟩,hinv,r⟩;conv=>cbv
  have eL:=hL.eq;have ei:=hi.eq;have ec:=hc.eq;refine BW (fun aq=>?_) fun aq=>?_
  ·intro Dy a8;refine .inr ?_;cases Dy <;> conv=>cbv
   ·have au:=GX a8;have r:i'=x.length:=by omega
    have g:AD o=p+q:=by rw[r,Dk (Nat.le_refl _),Dk af,hx,hy,BS,BS,show U=0 by omega] at hinv;omega
    exact AE ⟨⟨rfl,.inr (.inl ⟨_,_,by decide,rfl,rfl,hn,rfl,Dm (by rw[hz,<-I];exact (WT g (by rw[ho,r,hx])).symm) (by rw[ag,hz,<-I,<-WT g (by rw[ho,r,hx])])⟩),trivial⟩,trivial⟩
   have au:=GY a8;intro ay aa;conv=>cbv
   have aa:=wrap_u32 aa;obtain⟨A,G⟩:=CZ (n:=ay) (by omega);have aB:=G.eq;have aC:=G.lt;refine⟨[A],fun _=>⟨rfl,by decide,rfl,⟨rfl,CY G,trivial⟩⟩,.inl ?_⟩;try conv=>cbv
   refine .inl ⟨[A],fun _=>⟨rfl,by (first | rfl | omega),⟨_,rfl,by simp <;> omega,by simp⟩,by show (o.length+1)*4<=140737488355328;(try simp only[List.length_take,List.length_drop]);omega⟩,?_⟩;intro (ah:List UInt32) az O;have K:ah=(o:List UInt32)++([A]:List UInt32):=O.1;have ad:az=List.length (α:=UInt32) ah:=O.2;conv=>cbv
   have r:i'=x.length:=by omega
   have g:AD (o++[A])=p+q:=by rw[ET,show A.toNat=U by omega,ho,<-BS p,<-BS q,<-hx,<-hy];rw[r,Dk (Nat.le_refl _),Dk af] at hinv;rw[r];exact hinv
   have hw:A.toNat≠0:=by omega
   exact AE ⟨⟨rfl,.inr (.inl ⟨_,_,by decide,rfl,rfl,ad,rfl,Dm (by rw[hz,<-I,<-g,RG hw,K]) (by rw[ag,hz,<-I,<-g,RG hw,K])⟩),trivial⟩,trivial⟩
  refine .inr ?_;refine AW i' fun ak M=>?_
  refine AS ?_;intro aU Y aV Z;have aI:=Y.eq;have f26:=Y.lt;have Z:=wrap_u64 Z;intro ai a1;conv=>cbv
  have a1:=wrap_u64 a1;refine AS ?_;rintro aW ⟨aJ,f33⟩ ax a2;refine .inr ?_;cases ax <;> conv=>cbv
  ·have ar:=Dw a2;intro S B;conv=>cbv
   have B:=wrap_u32 B;obtain⟨f,d⟩:=CZ (n:=S) (by omega);have V:=d.eq;have W:=d.lt;refine⟨[f],fun _=>⟨rfl,by decide,rfl,⟨rfl,CY d,trivial⟩⟩,.inl ?_⟩;try conv=>cbv
   refine .inl ⟨[f],fun _=>⟨rfl,by (first | rfl | omega),⟨_,rfl,by simp <;> omega,by simp⟩,by show (o.length+1)*4<=140737488355328;(try simp only[List.length_take,List.length_drop]);omega⟩,?_⟩;intro (t:List UInt32) H j;have h:t=(o:List UInt32)++([f]:List UInt32):=j.1;have F:H=List.length (α:=UInt32) t:=j.2;refine AK ?_;intro u C;have C:=EW (p:=4294967296) C rfl;refine AK ?_;intro T an;refine⟨x.length-(i'+1),?_,?_⟩
   ·omega
   rw[ab];refine⟨t,H,u.toNat,i'+1,u,L,T,rfl,rfl,⟨F,by rw[h];simp;omega,hL,⟨by omega⟩,by omega,⟨by omega⟩,by omega⟩,?_,rfl⟩;rw[h,Cq M,Dk (l:=y) (i:=i'+1) (by omega)];have hs:=OY (xi:=ak.toNat) (yi:=0) (s:=ai.toNat) (w:=f) ho hinv (by omega) (by omega);rw[show u.toNat=ai.toNat/4294967296 by omega];rw[hs];rw[Dk (l:=y) (i:=i') (by omega)];omega
  have ar:=Dx a2;refine AW i' fun aA ae=>?_
  refine AS ?_;intro aX a5 aY a6;have aK:=a5.eq;have f39:=a5.lt;have a6:=wrap_u64 a6;intro aj a7;conv=>cbv
  have a7:=wrap_u64 a7;intro S B;conv=>cbv
  have B:=wrap_u32 B;obtain⟨f,d⟩:=CZ (n:=S) (by omega);have V:=d.eq;have W:=d.lt;refine⟨[f],fun _=>⟨rfl,by decide,rfl,⟨rfl,CY d,trivial⟩⟩,.inl ?_⟩;try conv=>cbv
  refine .inl ⟨[f],fun _=>⟨rfl,by (first | rfl | omega),⟨_,rfl,by simp <;> omega,by simp⟩,by show (o.length+1)*4<=140737488355328;(try simp only[List.length_take,List.length_drop]);omega⟩,?_⟩;intro (t:List UInt32) H j;have h:t=(o:List UInt32)++([f]:List UInt32):=j.1;have F:H=List.length (α:=UInt32) t:=j.2;refine AK ?_;intro u C;have C:=EW (p:=4294967296) C rfl;refine AK ?_;intro T an;refine⟨x.length-(i'+1),?_,?_⟩
  ·omega
  rw[ab];refine⟨t,H,u.toNat,i'+1,u,L,T,rfl,rfl,⟨F,by rw[h];simp;omega,hL,⟨by omega⟩,by omega,⟨by omega⟩,by omega⟩,?_,rfl⟩;rw[h,Cq M,Cq ae];have hs:=OY (xi:=ak.toNat) (yi:=aA.toNat) (s:=aj.toNat) (w:=f) ho hinv (by omega) (by omega);rw[show u.toNat=aj.toNat/4294967296 by omega];rw[hs]
 cases av <;> conv=>cbv
 ·have ao:=Dw X;rw[D];exact⟨a,b,_,_,rfl,hl,hm,rfl,by omega,by omega⟩
 have ao:=Dx X;rw[D];exact⟨b,a,_,_,rfl,hm,hl,Nat.add_comm _ _,by omega,by omega⟩
theorem ZI (d:l=AP a) (hm:m=AP b) (f:z=AP (a+b)) (sl:l.length<=17592186044416) (g:m.length<=17592186044416):CF 400 [.one (.sl .u32 l),.one (.sl .u32 m)] (.one (.sl .u32 z)):=DV (ZJ d hm f rfl sl g)
end
section
open Go.RowKit
variable {b:Bool} {l z:List UInt32} {x:Int}
theorem FF {n:Bool} (k:x=if n=true then -(AD l:Int) else AD l) (h:BA x b z):CF 352 [.one (.bool n),.one (.sl .u32 l)] (.agg (BX b z)):=by
 refine AG Tryz.func352 fun E r=>?_
 obtain⟨s,d⟩:=xU (AP (AD l));refine AB r (Ey rfl d) ?_;intro u g;have t:=g.eq;have f8:=g.le;refine CH (fun o=>?_) fun o=>?_
 ·have j:AD l≠0:=fun e=>o (by have:=g.eq;rw[d,e] at this;exact this)
  have f:BA x n s:= .val d.symm k (fun e=>absurd e j);exact Di ((f.uniq h rfl).1.symm) ((f.uniq h rfl).2.symm)
 have j:AD l=0:=by have e:=g.eq;rw[d] at e;exact Ec.1 (List.length_eq_zero_iff.1 (by omega))
 have f:BA x false []:= .val (n:=0) rfl (by rw[k,j];simp) (fun _=>rfl);exact AE ⟨⟨rfl,congrArg _ ((f.uniq h rfl).1.symm),.inr (.inl ⟨_,congrArg _ ((f.uniq h rfl).2.symm)⟩),trivial⟩,trivial⟩
theorem K7 {n:Int} {k:Nat} (F:AO n k) (K:k<18446744073709551616) (G:z=AP k):CF 353 [.one (.int .u64 n)] (.one (.sl .u32 z)):=by
 have J:=F.eq;refine AG Tryz.func353 fun E D=>?_
 intro n4 v;have v:=wrap_u32 v;refine AK ?_;intro L A;have A:=EW (p:=4294967296) A rfl;intro I B;conv=>cbv
 have B:=wrap_u32 B;obtain⟨g,d⟩:=CZ (n:=n4) (by omega);have r:=d.eq;have t:=d.lt;obtain⟨h,f⟩:=CZ (n:=I) (by omega);have s:=f.eq;have u:=f.lt;refine⟨[g,h],fun _=>⟨rfl,by decide,rfl,⟨rfl,CY d,⟨rfl,CY f,trivial⟩⟩⟩,.inl ?_⟩;try conv=>cbv
 obtain⟨H,j⟩:=xN ((CV ([g,h].take 2)).length);obtain⟨C,o⟩:=Ei (by simp) j;refine .inr (.inr (.inl ⟨[],.one (.AZ .u32 0 0 0 H),.arr 0 .u32 [g,h],fun _=>⟨by first | decide | simp[Ck,Cj],trivial⟩,fun _=>⟨EK D (Ls (by simp) (by simp) j),rfl,rfl⟩,?_⟩));try conv=>cbv
 exact AE ⟨⟨rfl,.inl ⟨_,rfl,by simp;omega,congrArg _ (by rw[List.drop_zero,o,G];congr 1;simp[AD];omega)⟩,trivial⟩,trivial⟩
theorem KZ (j:z=l) (u:l.length<=17592186044416):CF 348 [.one (.sl .u32 l)] (.one (.sl .u32 z)):=by
 refine AG Tryz.func348 fun E t=>?_
 intro n4 r;refine⟨fun o=>?_,?_⟩
 ·conv=>cbv
  have g:l=[]:=by rw[r] at o;simpa using o
  exact AE ⟨⟨rfl,.inr (.inl ⟨_,congrArg _ (by rw[j,g])⟩),trivial⟩,trivial⟩
 refine⟨[],fun _=>⟨rfl,by decide,rfl,trivial⟩,.inl ?_⟩;try conv=>cbv
 refine .inl ⟨l,fun _=>⟨rfl,by (first | rfl | omega),rfl,by show (0+l.length)*4<=140737488355328;(try simp only[List.length_take,List.length_drop]);omega⟩,?_⟩;intro (k:List UInt32) s f;have h:k=([]:List UInt32)++(l:List UInt32):=f.1;have d:s=List.length (α:=UInt32) k:=f.2;conv=>cbv
 exact AE ⟨⟨rfl,.inl ⟨_,rfl,by rw[d];simp,congrArg _ (by rw[j,d,h];simp)⟩,trivial⟩,trivial⟩
theorem Ns (F: -9223372036854775808<=x/\x<9223372036854775808) (s:BA x b z):CF 304 [.one (.int .i64 x)] (.agg (BX b z)):=by
 refine AG Tryz.func304 fun E o=>?_
 intro G v;have v:=wrap_u64 v;intro D A;conv=>cbv
 refine .inr ?_;cases D <;> conv=>cbv
 ·have C:=Dw A;intro t j;conv=>cbv
  obtain⟨u,f⟩:=xU (AP x.natAbs);refine AB o (K7 (AO.of (k:=x.natAbs) (by omega)) (by omega) f) ?_;obtain⟨g,h,d⟩:=Ak (x);refine AB (r:= .agg [.bool g,.sl .u32 h]) o (FF (by rw[f,BS,j];simp;omega) d) ?_;exact Di ((d.uniq s rfl).1.symm) ((d.uniq s rfl).2.symm)
 have C:=Dx A;intro H B;conv=>cbv
 have B:=wrap_u64 B;intro t j;conv=>cbv
 obtain⟨u,f⟩:=xU (AP x.natAbs);refine AB o (K7 (AO.of (k:=x.natAbs) (by omega)) (by omega) f) ?_;obtain⟨g,h,d⟩:=Ak (x);refine AB (r:= .agg [.bool g,.sl .u32 h]) o (FF (by rw[f,BS,j];simp;omega) d) ?_;exact Di ((d.uniq s rfl).1.symm) ((d.uniq s rfl).2.symm)
end
section
open Go.RowKit
variable {a b i:Nat} {l m z:List UInt32}
theorem RN {x y:UInt32} (h:l[i]? =some x) (o:m[i]? =some y) (t:l.length=m.length) (he:AD (l.drop (i+1))=AD (m.drop (i+1))) (f:x≠y):
  Bu x.toNat y.toNat=Bu (AD l) (AD m):=by
 have s:=GW h;have j:=GB l (i+1) (by omega);have g:=GB m (i+1) (by omega);rw[Cq h] at j;rw[Cq o] at g;have b1:=Cv (l.take i);have b2:=Cv (m.take i);rw[List.length_take,Nat.min_eq_left (by omega)] at b1 b2;rw[<-he] at g
 generalize AD (l.drop (i+1))=D at*
 generalize AD (l.take i)=A at*
 generalize AD (m.take i)=B at*
 generalize 2^(32*(i+1))*D=Q at*
 generalize r:2^(32*i)=P at*
 have k:x.toNat≠y.toNat:=fun e=>f (UInt32.toNat_inj.1 e)
 by_cases d:x.toNat<y.toNat
 ·have:P*(x.toNat+1)<=P*y.toNat:=Nat.mul_le_mul_left _ d;rw[Nat.mul_add] at this;have:AD l<AD m:=by omega
  unfold Bu;rw[if_pos (by omega),if_pos (by omega)]
 have:P*(y.toNat+1)<=P*x.toNat:=Nat.mul_le_mul_left _ (by omega);rw[Nat.mul_add] at this;have:AD m<AD l:=by omega
 unfold Bu;rw[if_neg (by omega),if_pos (by omega),if_neg (by omega),if_pos (by omega)]
theorem RM (h:(AP a).length≠(AP b).length):Bu (AP a).length (AP b).length=Bu a b:=by
 by_cases d:(AP a).length<(AP b).length
 ·have:a<b:=by
   apply Classical.byContradiction;intro f;have:=EF (a:=b) (b:=a);omega
  unfold Bu;rw[if_pos (by omega),if_pos (by omega)]
 have:b<a:=by
  apply Classical.byContradiction;intro f;have:=EF (a:=a) (b:=b);omega
 unfold Bu;rw[if_neg (by omega),if_pos (by omega),if_neg (by omega),if_pos (by omega)]
theorem drop_eq {x:UInt32} (d:l[i]? =some x) (f:m[i]? =some x) (he:AD (l.drop (i+1))=AD (m.drop (i+1))):AD (l.drop i)=AD (m.drop i):=by
 have g:=GW d;have h:=GW f;rw[List.drop_eq_getElem_cons g,List.drop_eq_getElem_cons h,AD,AD,he];rw[List.getElem?_eq_getElem g] at d;rw[List.getElem?_eq_getElem h] at f;rw[Option.some.inj d,Option.some.inj f]
theorem Od {c:Int} (N:l=AP a) (hm:m=AP b) (P:c=Bu a b):CF 392 [.one (.sl .u32 l),.one (.sl .u32 m)] (.one (.int .i64 c)):=by
 refine AG Tryz.func392 fun E hE=>?_
 rintro n7 ⟨e7,f7⟩ n9 ⟨e9,f9⟩;refine Fa (fun K=>?_) fun K=>?_
 ·intro S o T r;have a1:=o.eq;have f12:=o.le;have a2:=r.eq;have f14:=r.le;obtain⟨aj,d⟩:=xI (Bu S T);refine AB hE (Uc d) ?_;exact AF (by rw[d,P,o.eq,r.eq,N,hm,RM (by rw[<-N,<-hm];intro e;exact K (by omega))])
 rintro ag ⟨a5,f17⟩ U aa;refine BN [] [0,1,5] [] (fun vs bl k=>∃(j:Int) (k':Nat),vs=[.one (.sl .u32 l),.one (.sl .u32 m),.one (.int .i64 j)]/\(AO (j+1) k'/\k'<=l.length/\l.length=m.length/\AD (l.drop k')=AD (m.drop k'))/\k=k') l.length ⟨U,l.length,rfl,⟨⟨by omega⟩,by omega,by omega,by rw[List.drop_length,show l.length=m.length by omega,List.drop_length]⟩,rfl⟩ ?_;rintro J0 O vs bl af ⟨j,k',rfl,⟨hj,ad,H,M⟩,ae⟩;conv=>cbv
 have ej:=hj.eq;refine Ir (fun R=>?_) fun R=>?_
 ·have hk:k'=0:=by omega
  have he:a=b:=by rw[hk] at M;simpa [N,hm,BS] using M
  exact AF (by rw[P,he];simp[Bu])
 refine .inr ?_;refine AW ((j).toNat) fun u g=>?_
 refine AS ?_;intro ah D;have C:=D.eq;have f26:=D.lt;refine AW ((j).toNat) fun v h=>?_
 refine AK ?_;intro ai F W G;have a6:=F.eq;have f30:=F.lt;cases W <;> conv=>cbv
 ·have L:=Ht G;refine AK ?_;intro V ab;refine⟨k'-1,?_,?_⟩
  ·omega
  rw[O];obtain⟨i',rfl⟩:∃i',k'=i'+1:=⟨k'-1,by omega⟩
  refine⟨V,i',rfl,⟨⟨by omega⟩,by omega,H,?_⟩,by omega⟩;have C:u=v:=UInt32.toNat_inj.1 (by omega);subst C;exact drop_eq (i:=i') (by rw[<-g];congr 1;omega) (by rw[<-h];congr 1;omega) M
 have L:=Hu G;refine AW ((j).toNat) fun A I=>?_
 refine AS ?_;intro X s;have a7:=s.eq;have f35:=s.lt;refine AW ((j).toNat) fun B J=>?_
 refine AS ?_;intro Y t;have a8:=t.eq;have f39:=t.lt;obtain⟨ak,f⟩:=xI (Bu X Y);refine AB hE (cZ f) ?_;obtain⟨i',rfl⟩:∃i',k'=i'+1:=⟨k'-1,by omega⟩
 have e1:l[i']? =some A:=by rw[<-I];congr 1;omega
 have Z:m[i']? =some B:=by rw[<-J];congr 1;omega
 have e3:l[i']? =some u:=by rw[<-g];congr 1;omega
 have e4:m[i']? =some v:=by rw[<-h];congr 1;omega
 obtain rfl:A=u:=Option.some.inj (e1.symm.trans e3);obtain rfl:B=v:=Option.some.inj (Z.symm.trans e4);have Q:A≠B:=fun e=>by subst e;exact L (by omega)
 exact AF (by rw[f,P,s.eq,t.eq,RN e1 Z H M Q,N,hm,BS,BS])
theorem SQ (hl:l=AP a) (hm:m=AP b) (hz:z=AP (a-b)) (a6:b<=a) (sl:l.length<=17592186044416):CF 401 [.one (.sl .u32 l),.one (.sl .u32 m)] (.one (.sl .u32 z)):=by
 have a8:m.length<=l.length:=by rw[hl,hm];exact EF a6
 refine AG Tryz.func401 fun E hE=>?_
 rintro ax ⟨aj,f11⟩;refine⟨fun _=>⟨by omega,by omega,by show _*4<=140737488355328;omega⟩,?_⟩;intro H (I:List UInt32) D;have ai:=D.1;have t:I=List.replicate H (0:el .u32):=D.2;have ah:I.length=H:=by rw[t,List.length_replicate]
 refine AS ?_;intro ae F;have ak:=F.eq;have f14:=F.le;refine BN [] [0,1,5,6,13,14,15] [12] (fun vs bl k=>∃(o:List UInt32) (n A i':Nat) (c L i:Int),vs=[.one (.sl .u32 l),.one (.sl .u32 m),.one (.AZ .u32 12 0 0 n),.one (.int .u64 c),.one (.sl .u32 l),.one (.int .i64 L),.one (.int .i64 i)]/\bl=[.arr 0 .u32 o]/\(o.length=l.length/\n=o.length/\DP L l.length/\AO i i'/\i'<=l.length/\AO c A/\A<=1)/\AD (o.take i')+AD (m.take i')=AD (l.take i')+2^(32*i')*A/\k=l.length-i') (l.length-0) ⟨I,H,0,0,0,ae,0,rfl,rfl,⟨by rw[t,List.length_replicate];omega,by rw[t,List.length_replicate],F,BD 0,by omega,BD 0,by omega⟩,by simp[AD],rfl⟩ ?_;rintro J0 X vs bl aw ⟨o,n,A,i',c,L,i,rfl,rfl,⟨ho,hn,hL,hi,ar,hc,aq⟩,hinv,au⟩;conv=>cbv
 have eL:=hL.eq;have ei:=hi.eq;have ec:=hc.eq;refine BW (fun aa=>?_) fun aa=>?_
 ·have u:n<=(o).length:=by omega
  obtain⟨ad,B⟩:=xN ((CV ((o).take n)).length);obtain⟨a7,G⟩:=Ei u B;refine .inr (.inr (.inl ⟨[],.one (.AZ .u32 0 0 0 ad),.arr 0 .u32 o,fun _=>⟨by first | decide | simp[Ck,Cj],trivial⟩,fun _=>⟨EK hE (Ls u (by omega) B),rfl,rfl⟩,?_⟩));try conv=>cbv
  have hk:i'=l.length:=by omega
  have Y:AD (o.take n)=a-b:=by rw[hk,Dk a8,Dk (Nat.le_refl _),hm,hl,BS,BS,<-hl,<-ho,List.take_length] at hinv;have av:=Cv o;generalize 2^(32*o.length)=P at *;rw[hn,List.take_length];rcases (by omega:A=0\/A=1) with e | e <;> rw[e] at hinv <;> omega
  exact AE ⟨⟨rfl,.inl ⟨_,rfl,by omega,congrArg _ (by rw[List.drop_zero,G,Y,hz])⟩,trivial⟩,trivial⟩
 refine .inr ?_;refine AW i' fun a2 C=>?_
 refine AS ?_;intro ay Q az R;have al:=Q.eq;have f19:=Q.lt;have R:=wrap_u64 R;intro aA S;conv=>cbv
 have S:=wrap_u64 S;refine AS ?_;rintro aB ⟨an,f26⟩ af T;refine .inr ?_;cases af <;> conv=>cbv
 ·have ab:=Dw T;intro J r;conv=>cbv
  have r:=wrap_u32 r;refine AK ?_;intro v Z;obtain⟨j,f⟩:=CZ (n:=J) (by omega);have M:=f.eq;have N:=f.lt;refine⟨j,fun _=>⟨by show _<List.length (α:=UInt32) o;(first | omega | (simp;omega)),CY f⟩,?_⟩;intro (g:List UInt32) (d:g=List.set (α:=UInt32) o v j);have O:g.length=o.length:=by rw[d,List.length_set]
  refine AK ?_;intro h s;have s:=EW (p:=9223372036854775808) s rfl;refine AK ?_;intro K a5;refine⟨l.length-(i'+1),?_,?_⟩
  ·omega
  rw[X];refine⟨g,n,h.toNat,i'+1,h,L,K,rfl,rfl,⟨by rw[d,List.length_set];exact ho,by rw[d,List.length_set];exact hn,hL,⟨by omega⟩,by omega,⟨by omega⟩,by omega⟩,?_,rfl⟩;have hs:=LO (w:=j) (o:=o) (i:=i') (xi:=a2.toNat) (yi:=0) (Fy:=A) (F1:=h.toNat) (by omega) hinv (by omega);rw[d,show v=i' by omega,Cq C,<-hs,Dk (l:=m) (i:=i'+1) (by omega),Dk (l:=m) (i:=i') (by omega),Nat.mul_zero]
  rfl
 have ab:=Dx T;refine AW i' fun ag a1=>?_
 refine AS ?_;intro aC U aD V;have ao:=U.eq;have f32:=U.lt;have V:=wrap_u64 V;intro aE W;conv=>cbv
 have W:=wrap_u64 W;intro J r;conv=>cbv
 have r:=wrap_u32 r;refine AK ?_;intro v Z;obtain⟨j,f⟩:=CZ (n:=J) (by omega);have M:=f.eq;have N:=f.lt;refine⟨j,fun _=>⟨by show _<List.length (α:=UInt32) o;(first | omega | (simp;omega)),CY f⟩,?_⟩;intro (g:List UInt32) (d:g=List.set (α:=UInt32) o v j);have O:g.length=o.length:=by rw[d,List.length_set]
 refine AK ?_;intro h s;have s:=EW (p:=9223372036854775808) s rfl;refine AK ?_;intro K a5;refine⟨l.length-(i'+1),?_,?_⟩
 ·omega
 rw[X];refine⟨g,n,h.toNat,i'+1,h,L,K,rfl,rfl,⟨by rw[d,List.length_set];exact ho,by rw[d,List.length_set];exact hn,hL,⟨by omega⟩,by omega,⟨by omega⟩,by omega⟩,?_,rfl⟩;have hs:=LO (w:=j) (o:=o) (i:=i') (xi:=a2.toNat) (yi:=ag.toNat) (Fy:=A) (F1:=h.toNat) (by omega) hinv (by omega);rw[d,show v=i' by omega,Cq C,<-hs,Cq a1]
theorem pP (hl:l=AP a) (hm:m=AP b) (hz:z=AP (a*b)) (sl:l.length<=17592186044416) (sm:m.length<=17592186044416):CF 393 [.one (.sl .u32 l),.one (.sl .u32 m)] (.one (.sl .u32 z)):=by
 refine AG Tryz.func393 fun E hE=>?_
 rintro n12 ⟨e12,f12⟩ n13 h13;cases n13 <;> conv=>cbv
 ·have k13:=Bp h13;rintro n16 ⟨e16,f16⟩;conv=>cbv
  refine BO (fun k17=>?_) fun k17=>?_
  ·have h0:b=0:=Ec.1 (by rw[<-hm];exact List.length_eq_zero_iff.1 (by omega));exact AE ⟨⟨rfl,.inr (.inl ⟨_,congrArg _ (by rw[hz,h0];rfl)⟩),trivial⟩,trivial⟩
  rintro n20 ⟨e20,f20⟩ n22 ⟨e22,f22⟩ n23 h23;refine⟨fun _=>⟨by omega,by omega,by show _*4<=140737488355328;omega⟩,?_⟩;intro k24 (l24:List UInt32) ql24;have hk24:=ql24.1;have hl24:l24=List.replicate k24 (0:el .u32):=ql24.2;have gl24:l24.length=k24:=by rw[hl24,List.length_replicate]
  refine AS ?_;intro n26 h26;have e26:=h26.eq;have f26:=h26.le;refine BN [] [0,1,5,25,26,27] [24] (fun vs bl k=>∃(o:List UInt32) (n i':Nat) (L i:Int),vs=[.one (.sl .u32 l),.one (.sl .u32 m),.one (.AZ .u32 24 0 0 n),.one (.sl .u32 l),.one (.int .i64 L),.one (.int .i64 i)]/\bl=[.arr 0 .u32 o]/\(o.length=l.length+m.length/\n=o.length/\DP L l.length/\AO i i'/\i'<=l.length)/\AD (o.take (i'+m.length))=AD (l.take i')*AD m/\k=l.length-i') (l.length-0) ⟨l24,k24,0,n26,0,rfl,rfl,⟨by rw[hl24,List.length_replicate];omega,by rw[hl24,List.length_replicate],h26,BD 0,by omega⟩,by rw[hl24,List.take_replicate,IX];simp[AD],rfl⟩ ?_;rintro J0 hJ0 vs bl kk0 ⟨o,n,i',L,i,rfl,rfl,⟨ho,hn,hL,hi,hiL⟩,hinv,hk0⟩;conv=>cbv
  have eL:=hL.eq;have ei:=hi.eq;refine BW (fun k28=>?_) fun k28=>?_
  ·have hnl74:n<=(o).length:=by omega
   obtain⟨m74,hm74⟩:=xN ((CV ((o).take n)).length);obtain⟨hle74,htk74⟩:=Ei hnl74 hm74;refine .inr (.inr (.inl ⟨[],.one (.AZ .u32 0 0 0 m74),.arr 0 .u32 o,fun _=>⟨by first | decide | simp[Ck,Cj],trivial⟩,fun _=>⟨EK hE (Ls hnl74 (by omega) hm74),rfl,rfl⟩,?_⟩));try conv=>cbv
   have hfin:AD (o.take n)=a*b:=by rw[show i'=l.length by omega,List.take_length,hl,hm,BS,BS,<-hl,<-hm,<-ho,List.take_length] at hinv;rw[hn,List.take_length,hinv]
   exact AE ⟨⟨rfl,.inl ⟨_,rfl,by omega,congrArg _ (by rw[List.drop_zero,htk74,hfin,hz])⟩,trivial⟩,trivial⟩
  refine .inr ?_;refine AW i' fun x30 hx30=>?_
  refine AS ?_;intro n31 h31 n33 h33;have e31:=h31.eq;have f31:=h31.lt;have e33:=h33.eq;have f33:=h33.le;refine BN [] [0,1,5,6,7,8,25,26,27,32,33,34] [24] (fun vs bl k=>∃(o1:List UInt32) (n1 c' k':Nat) (c L1 i1:Int),vs=[.one (.sl .u32 l),.one (.sl .u32 m),.one (.AZ .u32 24 0 0 n1),.one (.int .i64 i),.one (.int .u32 n31),.one (.int .u64 c),.one (.sl .u32 l),.one (.int .i64 L),.one (.int .i64 i),.one (.sl .u32 m),.one (.int .i64 L1),.one (.int .i64 i1)]/\bl=[.arr 0 .u32 o1]/\(o1.length=l.length+m.length/\n1=o1.length/\DP L1 m.length/\AO i1 k'/\k'<=m.length/\AO c c'/\c'<4294967296)/\AD (o1.take (i'+m.length))+2^(32*(i'+k'))*c'=AD (l.take i')*AD m+x30.toNat*2^(32*i')*AD (m.take k')/\k=m.length-k') (m.length-0) ⟨o,n,0,0,0,n33,0,rfl,rfl,⟨ho,hn,h33,BD 0,by omega,BD 0,by omega⟩,by rw[hinv];simp[AD],rfl⟩ ?_;rintro J1 hJ1 vs bl kk1 ⟨o1,n1,c',k',c,L1,i1,rfl,rfl,⟨ho1,hn1,hL1,hi1,hiL1,hc,hc1⟩,hinv1,hk1⟩
  conv=>cbv
  have eL1:=hL1.eq;have ei1:=hi1.eq;have ec:=hc.eq;refine BW (fun k35=>?_) fun k35=>?_
  ·rintro n67 ⟨e67,f67⟩ n68 h68 n70 h70;have h70:=wrap_u32 h70;refine AK ?_;intro j71 hj71;obtain⟨w71,hw71⟩:=CZ (n:=n70) (by omega);have ew71:=hw71.eq;have fw71:=hw71.lt;refine⟨w71,fun _=>⟨by show _<List.length (α:=UInt32) o1;(first | omega | (simp;omega)),CY hw71⟩,?_⟩;intro (l71:List UInt32) (hl71:l71=List.set (α:=UInt32) o1 j71 w71);have gl71:l71.length=o1.length:=by rw[hl71,List.length_set]
   refine AK ?_;intro n72 h72;refine⟨l.length-(i'+1),?_,?_⟩
   ·omega
   rw[hJ0];refine⟨l71,n1,i'+1,L,n72,rfl,rfl,⟨by rw[hl71,List.length_set];exact ho1,by rw[hl71,List.length_set];exact hn1,hL,⟨by omega⟩,by omega⟩,?_,rfl⟩;have hk:k'=m.length:=by omega
   have hlen:i'+m.length<o1.length:=by omega
   rw[hl71,show i'+1+m.length=i'+m.length+1 by omega,show j71=i'+m.length by omega,FB hlen,ET,List.length_take,Nat.min_eq_left (by omega),show w71.toNat=c' by omega];rw[hk] at hinv1;rw[hinv1,List.take_length,Cq hx30]
   grind
  refine .inr ?_;refine AW k' fun x37 hx37=>?_
  refine AS ?_;intro n38 h38 n41 h41;have e38:=h38.eq;have f38:=h38.lt;have h41:=wrap_u64 h41;intro n43 h43;conv=>cbv
  have h43:=wrap_u64 h43;have ep:n41*n43=((x30.toNat*x37.toNat:Nat):Int):=by rw[Int.natCast_mul];congr 1 <;> omega
  have bp:x30.toNat*x37.toNat<=4294967295*4294967295:=Nat.mul_le_mul (by omega) (by omega);intro n44 h44;conv=>cbv
  have h44:=wrap_u64 h44;refine AK ?_;intro n48 h48 j49 hj49;obtain⟨x50,hx50⟩:=CM (l:=o1) (i:=j49) (by omega);refine⟨x50,fun _=>hx50,?_⟩;refine AS ?_;intro n50 h50 Dy h51;have e50:=h50.eq;have f50:=h50.lt;have h51:=wrap_u64 h51;intro n52 h52;conv=>cbv
  have h52:=wrap_u64 h52;intro Dj h53;conv=>cbv
  have h53:=wrap_u64 h53;refine AK ?_;intro n57 h57 n59 h59;have h59:=wrap_u32 h59;refine AK ?_;intro j60 hj60;obtain⟨w60,hw60⟩:=CZ (n:=n59) (by omega);have ew60:=hw60.eq;have fw60:=hw60.lt;refine⟨w60,fun _=>⟨by show _<List.length (α:=UInt32) o1;(first | omega | (simp;omega)),CY hw60⟩,?_⟩;intro (l60:List UInt32) (hl60:l60=List.set (α:=UInt32) o1 j60 w60);have gl60:l60.length=o1.length:=by rw[hl60,List.length_set]
  refine AK ?_;intro n62 h62;have h62:=EW (p:=4294967296) h62 rfl;refine AK ?_;intro n63 h63;refine⟨m.length-(k'+1),?_,?_⟩
  ·omega
  rw[hJ1];refine⟨l60,n1,n62.toNat,k'+1,n62,L1,n63,rfl,rfl,⟨by rw[hl60,List.length_set];exact ho1,by rw[hl60,List.length_set];exact hn1,hL1,⟨by omega⟩,by omega,⟨by omega⟩,by omega⟩,?_,rfl⟩;have hj:j60=i'+k':=by omega
  have hj2:j49=i'+k':=by omega
  rw[hj2] at hx50;rw[hl60,hj,Cq hx37,show i'+(k'+1)=i'+k'+1 by omega];refine UH (q:=x50) (xi:=x30.toNat) (yk:=x37.toNat) (old:=x50.toNat) (c:=c') rfl (by omega) hx50 rfl hinv1 ?_ rfl;rw[ep] at h44;omega
 have k13:=Br h13;have h0:a=0:=Ec.1 (by rw[<-hl];exact List.length_eq_zero_iff.1 (by have k13:=Br h13;omega));exact AE ⟨⟨rfl,.inr (.inl ⟨_,congrArg _ (by rw[hz,h0,Nat.zero_mul];rfl)⟩),trivial⟩,trivial⟩
end
section
open Go.RowKit
variable {b b1 b2 b3 c:Bool} {l l1 l2 l3 z:List UInt32} {x y:Int}
theorem po {i:Nat} {x:UInt32} {n:Int} (g:l[i]? =some x) (h:i+1=l.length) (f:n=x.toNat):FZ b l=(n !=0):=by
 have d:l.getLast? =some x:=by rw[List.getLast?_eq_getElem?,<-g];congr 1;omega
 unfold FZ;rw[d,f]
 show (x !=0)=_
 rw[Bool.eq_iff_iff];simp only[bne_iff_ne,ne_eq];rw[<-UInt32.toNat_inj]
 show ¬x.toNat=0↔_
 omega
theorem dS (t:x=if b=true then -(AD l:Int) else AD l) (s:l.length<=17592186044416) (o:BA x c z):CF 349 [.agg (BX b l)] (.agg (BX c z)):=by
 refine AG Tryz.func349 fun E h=>?_
 obtain⟨u,d⟩:=xU (AP (AD l));refine AB h (Ey rfl d) ?_;obtain⟨v,g⟩:=xU u;refine AB (r:= .one (.sl .u32 v)) h (KZ g (by rw[d,<-Lq];exact Nat.le_trans (QD l) s)) ?_;obtain⟨j,k,f⟩:=Ak (x);refine AB (r:= .agg [.bool j,.sl .u32 k]) h (FF (by rw[g,d,BS];exact t) f) ?_;exact Di ((f.uniq o rfl).1.symm) ((f.uniq o rfl).2.symm)
theorem Un (o:BA x b l) (u:l.length<=17592186044416) (s:BA (-x) c z):CF 360 [.agg (BX b l)] (.agg (BX c z)):=by
 refine AG Tryz.func360 fun E k=>?_
 intro B t;obtain⟨v,f⟩:=xU (AP (AD l));refine AB k (Ey rfl f) ?_;have t8:v=l:=by rw[f];exact o.trim
 obtain⟨A,g⟩:=xU l;refine AB (r:= .one (.sl .u32 A)) k (KZ (g.trans t8.symm) (by rw[t8];exact u)) ?_;obtain⟨h,j,d⟩:=Ak (-x);refine AB (r:= .agg [.bool h,.sl .u32 j]) k (FF (by rw[g,t];exact aP o.Eg) d) ?_;exact Di ((d.uniq s rfl).1.symm) ((d.uniq s rfl).2.symm)
theorem dr {c:Int} (k:x=if b=true then -(AD l:Int) else AD l) (j:c=Cg x):CF 356 [.agg (BX b l)] (.one (.int .i64 c)):=by
 refine AG Tryz.func356 fun E o=>?_
 refine .inr ?_;obtain⟨u,d⟩:=xU (AP (AD l));refine AB o (Ey rfl d) ?_;rintro t ⟨f,f7⟩ s h;cases s <;> conv=>cbv
 ·have r:=Bp h;cases b <;> conv=>cbv
  ·have g:AD l≠0:=fun e=>by rw[d,e] at f;exact (Bp h) f
   exact AF (by rw[j,Py k g];rfl)
  have g:AD l≠0:=fun e=>by rw[d,e] at f;exact (Bp h) f
  exact AF (by rw[j,Py k g];rfl)
 have r:=Br h;have g:AD l=0:=by rw[d] at f;exact Ec.1 (List.length_eq_zero_iff.1 (by omega))
 exact AF (by rw[j,k,g];unfold Cg;simp)
theorem L7 {c:Int} (f:BA x b l) (d:c=Cg x):CF 356 [.agg (BX b l)] (.one (.int .i64 c)):=dr f.Eg d
theorem Uq (f:BA x b l) (d:l.length<=17592186044416) (g:BA x c z):CF 349 [.agg (BX b l)] (.agg (BX c z)):=dS f.Eg d g
theorem Ub {c:Int} (t:BA x b1 l1) (u:BA y b2 l2) (C:c=Bu x y):CF 370 [.agg (BX b1 l1),.agg (BX b2 l2)] (.one (.int .i64 c)):=by
 refine AG Tryz.func370 fun E r=>?_
 obtain⟨H,f⟩:=xI (Cg x);refine AB r (L7 t f) ?_;obtain⟨v,d⟩:=xI (Cg y);refine AB r (L7 u d) ?_;refine Fa (fun o=>?_) fun o=>?_
 ·obtain⟨F,h⟩:=xI (Bu H v);refine AB r (Uc h) ?_;exact AF (by rw[C,h,f,d];exact iH (by rw[<-f,<-d];exact o))
 obtain⟨A,j⟩:=xU (AP (AD l1));refine AB r (Ey rfl j) ?_;have t20:A=l1:=by rw[j];exact t.trim
 obtain⟨B,k⟩:=xU (AP (AD l2));refine AB r (Ey rfl k) ?_;have t23:B=l2:=by rw[k];exact u.trim
 obtain⟨G,g⟩:=xI (Bu x.natAbs y.natAbs);refine AB r (Od (t20.trans t.Bb) (t23.trans u.Bb) g) ?_;intro D s;refine⟨fun _=>by rw[s,f,g];exact oU _ _ _,?_⟩;refine g2 rfl ?_;exact AF (by rw[C,s,f,g];exact iI (by rw[<-f,<-d];exact o))
theorem QT (A:BA x b1 l1) (B:BA y b2 l2) (C:BA (x+y) b3 l3) (s1:l1.length<=17592186044416) (s2:l2.length<=17592186044416):CF 384 [.agg (BX b1 l1),.agg (BX b2 l2)] (.agg (BX b3 l3)):=by
 refine AG Tryz.func384 fun E k=>?_
 obtain⟨S,F⟩:=xU (AP (AD l1));refine AB k (Ey rfl F) ?_;have t9:S=l1:=by rw[F];exact A.trim
 obtain⟨N,s⟩:=xU (AP (AD l2));refine AB k (Ey rfl s) ?_;have t12:N=l2:=by rw[s];exact B.trim
 refine AK ?_;intro M D;cases M <;> conv=>cbv
 ·have o:=RB D;obtain⟨R,f⟩:=xI (Bu x.natAbs y.natAbs);refine AB k (Od (t9.trans A.Bb) (t12.trans B.Bb) f) ?_;refine BW (fun d=>?_) fun d=>?_
  ·obtain⟨Q,v⟩:=xU (AP (x.natAbs-y.natAbs));refine AB (r:= .one (.sl .u32 Q)) k (SQ (t9.trans A.Bb) (t12.trans B.Bb) v (by rw[f] at d;have:=I3 d;omega) (by rw[t9];exact s1)) ?_;obtain⟨I,L,j⟩:=Ak (x+y);refine AB (r:= .agg [.bool I,.sl .u32 L]) k (FF (by rw[v,BS,Int.add_comm];rw[f] at d;exact OD B.neg A.neg (Ne.symm o) (by have:=I3 d;omega)) j) ?_;exact Di ((j.uniq C rfl).1.symm) ((j.uniq C rfl).2.symm)
  obtain⟨P,u⟩:=xU (AP (y.natAbs-x.natAbs));refine AB (r:= .one (.sl .u32 P)) k (SQ (t12.trans B.Bb) (t9.trans A.Bb) u (by rw[f] at d;have:=I4 d;omega) (by rw[t12];exact s2)) ?_;obtain⟨H,K,h⟩:=Ak (x+y);refine AB (r:= .agg [.bool H,.sl .u32 K]) k (FF (by rw[u,BS];rw[f] at d;exact OD A.neg B.neg o (by have:=I4 d;omega)) h) ?_;exact Di ((h.uniq C rfl).1.symm) ((h.uniq C rfl).2.symm)
 have o:=RC D;obtain⟨O,t⟩:=xU (AP (x.natAbs+y.natAbs));refine AB (r:= .one (.sl .u32 O)) k (ZI (t9.trans A.Bb) (t12.trans B.Bb) t (by rw[t9];exact s1) (by rw[t12];exact s2)) ?_;obtain⟨G,J,g⟩:=Ak (x+y);refine AB (r:= .agg [.bool G,.sl .u32 J]) k (FF (by rw[t,BS];exact add_same A.neg (o.trans B.neg)) g) ?_;exact Di ((g.uniq C rfl).1.symm) ((g.uniq C rfl).2.symm)
theorem FN (s:BA x b1 l1) (t:BA y b2 l2) (B:BA (x*y) b3 l3) (s1:l1.length<=17592186044416) (s2:l2.length<=17592186044416):CF 371 [.agg (BX b1 l1),.agg (BX b2 l2)] (.agg (BX b3 l3)):=by
 refine AG Tryz.func371 fun E o=>?_
 intro D C;obtain⟨u,f⟩:=xU (AP (AD l1));refine AB o (Ey rfl f) ?_;have t12:u=l1:=by rw[f];exact s.trim
 obtain⟨v,g⟩:=xU (AP (AD l2));refine AB o (Ey rfl g) ?_;have t15:v=l2:=by rw[g];exact t.trim
 obtain⟨A,h⟩:=xU (AP (x.natAbs*y.natAbs));refine AB (r:= .one (.sl .u32 A)) o (pP (t12.trans s.Bb) (t15.trans t.Bb) h (by rw[t12];exact s1) (by rw[t15];exact s2)) ?_;obtain⟨j,k,d⟩:=Ak (x*y);refine AB (r:= .agg [.bool j,.sl .u32 k]) o (FF (by rw[h,BS,C];exact YY s.neg t.neg) d) ?_;exact Di ((d.uniq B rfl).1.symm) ((d.uniq B rfl).2.symm)
theorem U8 (s:c=FZ b l):CF 386 [.agg (BX b l)] (.one (.bool c)):=by
 refine AG Tryz.func386 fun E C=>?_
 rintro D ⟨B,f6⟩;refine CH (fun A=>?_) fun A=>?_
 ·refine E0 (fun h=>?_) fun h=>?_
  ·exfalso;omega
  intro j r;refine AW ((j).toNat) fun v f=>?_
  refine AS ?_;intro t d u o;have k:=d.eq;have f23:=d.lt;exact AF (by rw[s,o];exact po f (by omega) k)
 refine Gm (fun g=>?_) fun g=>?_
 ·exact AF (by rw[s,List.eq_nil_of_length_eq_zero (by omega:l.length=0),g];rfl)
 refine E0 (fun h=>?_) fun h=>?_
 ·exact AF (by rw[s,List.eq_nil_of_length_eq_zero (by omega:l.length=0),g];rfl)
 intro j r;refine AW ((j).toNat) fun v f=>?_
 refine AS ?_;intro t d u o;have k:=d.eq;have f23:=d.lt
 exfalso;omega
end
section
open Go.RowKit
variable {a b n:Int} {e p q:Nat}
theorem TW (h:n=IntKind.u64.wrap (a*2^min b.toNat IntKind.u64.bits)) (ha:a=p) (hb:b=e) (he:e<=64:=by omega):n=((p*2^e%18446744073709551616:Nat):Int):=by
 have d:min b.toNat IntKind.u64.bits=e:=by rw[hb];show min e 64=e;omega
 have f:=wrap_u64 h;rw[f,d,ha];simp
theorem TV (h:n=IntKind.u32.wrap (a*2^min b.toNat IntKind.u32.bits)) (ha:a=p) (hb:b=e) (he:e<=32:=by omega):n=((p*2^e%4294967296:Nat):Int):=by
 have d:min b.toNat IntKind.u32.bits=e:=by rw[hb];show min e 32=e;omega
 have f:=wrap_u32 h;rw[f,d,ha];simp
theorem shr_var {m:Nat} (h:n=a.fdiv (2^min b.toNat m)) (ha:a=p) (hb:b=e) (he:e<=m):n=((p/2^e:Nat):Int):=by
 have d:min b.toNat m=e:=by rw[hb];simp;omega
 rw[h,d,ha,Int.fdiv_eq_ediv_of_nonneg _ (by have:=Int.pow_pos (n:=2) (m:=e) (by decide);omega)];simp
theorem Ph (h:n=IntKind.u32.wrap (BitVec.ofInt IntKind.u32.bits a ||| BitVec.ofInt IntKind.u32.bits b).toNat) (ha:a=p) (hb:b=q) (f:p<4294967296) (g:q<4294967296):n=((p ||| q:Nat):Int):=by
 have d:=wrap_u32 h;rw[d,ha,hb]
 have e1:(BitVec.ofInt IntKind.u32.bits (p:Int) ||| BitVec.ofInt IntKind.u32.bits (q:Int)).toNat=p ||| q:=by
  rw[BitVec.toNat_or,BitVec.toNat_ofInt,BitVec.toNat_ofInt]
  show ((p:Int)%4294967296).toNat ||| ((q:Int)%4294967296).toNat=_
  congr 1 <;> omega
 rw[e1];have:p ||| q<2^32:=Nat.or_lt_two_pow f g
 omega
theorem ZA (h:n=IntKind.u64.wrap (BitVec.ofInt IntKind.u64.bits a ||| BitVec.ofInt IntKind.u64.bits b).toNat) (ha:a=p) (hb:b=q) (f:p<18446744073709551616) (g:q<18446744073709551616):n=((p ||| q:Nat):Int):=by
 have d:=wrap_u64 h;rw[d,ha,hb]
 have e1:(BitVec.ofInt IntKind.u64.bits (p:Int) ||| BitVec.ofInt IntKind.u64.bits (q:Int)).toNat=p ||| q:=by
  rw[BitVec.toNat_or,BitVec.toNat_ofInt,BitVec.toNat_ofInt]
  show ((p:Int)%18446744073709551616).toNat ||| ((q:Int)%18446744073709551616).toNat=_
  congr 1 <;> omega
 rw[e1];have:p ||| q<2^64:=Nat.or_lt_two_pow f g
 omega
theorem KE (h:n=IntKind.u64.wrap (BitVec.ofInt IntKind.u64.bits a ||| BitVec.ofInt IntKind.u64.bits b).toNat) (ha:a=((p*4294967296:Nat):Int)) (hb:b=q) (g:p<4294967296) (f:q<4294967296):n=((q+4294967296*p:Nat):Int):=by
 rw[ZA h ha hb (by omega) (by omega),Nat.or_comm,Nat.mul_comm];have:=LX (a:=q) (b:=p) (d:=32) f;exact congrArg _ this
end
end Go.Abs
