/- Part 11 of a proof. Conditions: each theorem's own. -/
import Derived.Test.YtmhbikooakmagaaGreatPk09
set_option linter.all false
set_option maxHeartbeats 8000000
set_option maxRecDepth 20000
open Go.Proofs
namespace Go.Abs
def GN (k i:Nat):Bool:=k/2^i%2==1
def Cy (i:Nat):Nat->List Rat->Bool
 | _,[]=>false
 | k,q::l=>(GN k i&&q !=0)||Cy i (k+1) l
def Bx (i:Nat):Nat->List Rat->List Rat
 | _,[]=>[]
 | k,q::l=>if GN k i=true then Bx i (k+1) l else q::Bx i (k+1) l
variable {w:List (List Rat)} {x:Re}
theorem R3 (i:Nat):∀(k:Nat) (a b:List Rat),Cy i k (a++b)=(Cy i k a||Cy i (k+a.length) b)
 | k,[],b=>by simp[Cy]
 | k,q::a,b=>by
  rw[List.cons_append,Cy,Cy,R3 i (k+1) a b,List.length_cons,Bool.or_assoc,show k+1+a.length=k+(a.length+1) by omega]
theorem PZ (i:Nat):∀(k:Nat) (a b:List Rat),Bx i k (a++b)=Bx i k a++Bx i (k+a.length) b
 | k,[],b=>by simp[Bx]
 | k,q::a,b=>by
  rw[List.cons_append,Bx,Bx,PZ i (k+1) a b,List.length_cons,show k+1+a.length=k+(a.length+1) by omega]
  split <;> simp
theorem Vk (k i c:Nat):GN (k+2^(i+1)*c) i=GN k i:=by
 unfold GN;rw[Nat.pow_succ,Nat.mul_assoc,Nat.add_mul_div_left _ _ (Nat.two_pow_pos i),Nat.add_mul_mod_self_left]
theorem YT (i c:Nat):∀(k:Nat) (l:List Rat),Cy i (k+2^(i+1)*c) l=Cy i k l
 | _,[]=>rfl
 | k,q::l=>by
  rw[Cy,Cy,Vk,show k+2^(i+1)*c+1=k+1+2^(i+1)*c by omega,YT i c (k+1) l]
theorem aw (i c:Nat):∀(k:Nat) (l:List Rat),Bx i (k+2^(i+1)*c) l=Bx i k l
 | _,[]=>rfl
 | k,q::l=>by
  rw[Bx,Bx,Vk,show k+2^(i+1)*c+1=k+1+2^(i+1)*c by omega,aw i c (k+1) l]
theorem fc {k i:Nat} (h:k<2^i):GN k i=false:=by unfold GN;rw[Nat.div_eq_of_lt h];rfl
theorem Vi {k i:Nat} (h:2^i<=k) (d:k<2^i+2^i):GN k i=true:=by
 unfold GN
 have:k/2^i=1:=by
  rw[Nat.div_eq_iff (Nat.two_pow_pos i)];omega
 rw[this];rfl
theorem au (i:Nat):∀(k:Nat) (l:List Rat),k+l.length<=2^i->Bx i k l=l
 | _,[],_=>rfl
 | k,q::l,h=>by
  rw[List.length_cons] at h;rw[Bx,fc (by omega),au i (k+1) l (by omega)];rfl
theorem aq (i:Nat):∀(k:Nat) (l:List Rat),2^i<=k->k+l.length<=2^i+2^i->Bx i k l=[]
 | _,[],_,_=>rfl
 | k,q::l,h,d=>by
  rw[List.length_cons] at d;rw[Bx,Vi h (by omega),aq i (k+1) l (by omega) (by omega)];rfl
theorem YS (i:Nat):∀(k:Nat) (l:List Rat),2^i<=k->k+l.length<=2^i+2^i->Cy i k l=false->∀q∈l,q=0
 | _,[],_,_,_=>by simp
 | k,q::l,h,f,h3=>by
  rw[List.length_cons] at f;rw[Cy,Vi h (by omega)] at h3;simp only[Bool.true_and,Bool.or_eq_false_iff,bne_eq_false_iff_eq] at h3;intro x d;rcases List.mem_cons.1 d with rfl | d
  ·exact h3.1
  exact YS i (k+1) l (by omega) (by omega) h3.2 x d
theorem Pa (i:Nat):∀(k:Nat) (l:List Rat),∀q∈Bx i k l,q∈l
 | _,[],q,h=>h
 | k,x::l,q,h=>by
  rw[Bx] at h
  split at h
  ·exact List.mem_cons_of_mem _ (Pa i (k+1) l q h)
  rcases List.mem_cons.1 h with rfl | h
  ·exact List.mem_cons_self
  exact List.mem_cons_of_mem _ (Pa i (k+1) l q h)
theorem Wb {r:List Rat} {u:List (List Rat)}:∀{v:List (List Rat)},AZ (v++r::u)->(∀s∈v,Cy u.length 0 s=false)->
  AZ (v.map (Bx u.length 0)++u)/\Ba (v.map (Bx u.length 0)++u) (v++r::u)/\(∀x∈BF (v.map (Bx u.length 0)++u),x∈BF (v++r::u))/\
  ∀{x:Re},In (v++r::u) x->Cy u.length 0 (co (v++r::u) x)=false->In (v.map (Bx u.length 0)++u) x/\co (v.map (Bx u.length 0)++u) x=Bx u.length 0 (co (v++r::u) x)
 | [],h,_=>by
  refine⟨h.1,fun x d=>FZ d,fun x d=>List.mem_cons_of_mem _ d,fun {x} d B=>?_⟩;obtain⟨p,q,o,A,rfl⟩:=CV.1 d;have e:=Cz h o A rfl;have C:=Cr o;have O:=Cr A;simp only[List.nil_append,List.map_nil] at*;rw[e,R3,C,Nat.zero_add,Bool.or_eq_false_iff] at B;have F:q=0:=(MM h.1 A).1 (YS _ _ _ (Nat.le_refl _) (by omega) B.2);subst F;have ex:p+0*rt u r=p:=by grind
  rw[e,PZ,C,Nat.zero_add,au _ _ _ (by omega),aq _ _ _ (Nat.le_refl _) (by omega),List.append_nil,ex];exact⟨o,rfl⟩
 | s::v,h,B=>by
  have h:AZ (s::(v++r::u)):=h;obtain⟨L,I,h3,D⟩:=Wb (v:=v) h.1 (fun t ht=>B t (List.mem_cons_of_mem _ ht));have G:=B s List.mem_cons_self;have H:In (v++r::u) (AL (v++r::u) s):=B8 h
  show AZ (Bx u.length 0 s::(v.map (Bx u.length 0)++u))/\Ba (Bx u.length 0 s::(v.map (Bx u.length 0)++u)) (s::(v++r::u))/\(∀x∈BF (Bx u.length 0 s::(v.map (Bx u.length 0)++u)),x∈BF (s::(v++r::u)))/\
   ∀{x:Re},In (s::(v++r::u)) x->Cy u.length 0 (co (s::(v++r::u)) x)=false->In (Bx u.length 0 s::(v.map (Bx u.length 0)++u)) x/\co (Bx u.length 0 s::(v.map (Bx u.length 0)++u)) x=Bx u.length 0 (co (s::(v++r::u)) x)
  have cs:co (v++r::u) (AL (v++r::u) s)=s:=Es h;obtain⟨k1,k2⟩:=D H (by rw[cs];exact G);rw[cs] at k2;have f:AL (v.map (Bx u.length 0)++u) (Bx u.length 0 s)=AL (v++r::u) s:=by rw[<-k2,EB k1]
  have j:AZ (Bx u.length 0 s::(v.map (Bx u.length 0)++u)):=by
   refine⟨L,by rw[<-k2];exact Cr k1,by rw[f];exact h.2.2.1,?_⟩;rw[f]
   rintro⟨w,hw,e⟩
   exact h.2.2.2 ⟨w,I w hw,e⟩
  have g:rt (v.map (Bx u.length 0)++u) (Bx u.length 0 s)=rt (v++r::u) s:=by rw[rt,rt,f]
  have hlen:2^(v++r::u).length=2^(u.length+1)*2^v.length:=by rw[<-Nat.pow_add];congr 1;simp;omega
  refine⟨j,JM h (I.trans fun x d=>FZ d) (by rw[g];exact Iq _ _),fun x d=>?_,fun {x} d k=>?_⟩
  ·rcases List.mem_cons.1 d with rfl | d
   ·exact List.mem_cons.2 (.inl f)
   exact List.mem_cons_of_mem _ (h3 x d)
  obtain⟨p,q,o,A,rfl⟩:=CV.1 d;have e:=Cz h o A rfl;have C:=Cr o;rw[e,R3,C,hlen,YT,Bool.or_eq_false_iff] at k;obtain⟨J,M⟩:=D o k.1;obtain⟨K,N⟩:=D A k.2;rw[<-g];refine⟨CV.2 ⟨p,q,J,K,rfl⟩,?_⟩;rw[g,e,PZ,C,hlen,aw,<-M,<-N,<-g];exact Cz j J K rfl
def Lk (i:Nat) (s:List (List Rat)×List Rat):List (List Rat)×List Rat:=
 if (Cy i 0 s.2||(s.1.drop (i+1)).any (Cy i 0))=true then s else (s.1.take i++(s.1.drop (i+1)).map (Bx i 0),Bx i 0 s.2)
def Hv:Nat->List (List Rat)×List Rat->List (List Rat)×List Rat
 | 0,s=>s
 | i+1,s=>Hv i (Lk i s)
structure Ia (w:List (List Rat)) (x:Re) (w':List (List Rat)):Prop where
 red:AZ w'
 mem:In w' x
 CE:Ba w' w
 BF:∀v∈BF w',v∈BF w
 len:w'.length<=w.length
 IN:∀s∈w',∀q∈s,∃t∈w,q∈t
 cos:∀q∈co w' x,q∈co w x
theorem Ia.refl (h:AZ w) (g:In w x):Ia w x w:=⟨h,g,Ba.refl w,fun _ h=>h,Nat.le_refl _,fun s f q d=>⟨s,f,d⟩,fun _ h=>h⟩
theorem Ia.trans {w' f:List (List Rat)} (h:Ia w x w') (k:Ia w' x f):Ia w x f:=
 ⟨k.red,k.mem,k.CE.trans h.CE,fun v j=>h.BF v (k.BF v j),Nat.le_trans k.len h.len,fun s g q d=>by
  obtain⟨t,ht,d⟩:=k.IN s g q d;exact h.IN t ht q d,fun q d=>h.cos q (k.cos q d)⟩
theorem aU {i:Nat} (h:AZ w) (j:In w x) (C:i<w.length):∃w',Lk i (w.reverse,co w x)=(w'.reverse,co w' x)/\Ia w x w'/\i<=w'.length:=by
 unfold Lk
 split
 ·exact⟨w,rfl,.refl h j,by omega⟩
 rename_i hc
 obtain⟨v,r,u,rfl,rfl⟩:∃v r u,w=v++r::u/\i=u.length:=by
  refine⟨w.take (w.length-1-i),w[w.length-1-i]'(by omega),w.drop (w.length-1-i+1),?_,by rw[List.length_drop];omega⟩;rw[<-List.drop_eq_getElem_cons,List.take_append_drop]
 have d:(v++r::u).reverse=u.reverse++r::v.reverse:=by simp
 have B:(v++r::u).reverse.drop (u.length+1)=v.reverse:=by
  rw[d,show u.reverse++r::v.reverse=(u.reverse++[r])++v.reverse by simp];exact List.drop_left' (by simp)
 have ht:(v++r::u).reverse.take u.length=u.reverse:=by
  rw[d];exact List.take_left' (by simp)
 simp only[B,ht,Bool.not_eq_true,Bool.or_eq_false_iff] at hc ⊢
 obtain⟨k,o,h3,A⟩:=Wb h (fun s f=>by
  have:=List.any_eq_false.1 hc.2 s (List.mem_reverse.2 f);simpa using this)
 obtain⟨k1,k2⟩:=A j hc.1;refine⟨v.map (Bx u.length 0)++u,?_,⟨k,k1,o,h3,by simp,fun s f q g=>?_,fun q g=>?_⟩,by simp⟩
 ·rw[k2,List.reverse_append,List.map_reverse]
 ·rcases List.mem_append.1 f with f | f
  ·obtain⟨t,ht,rfl⟩:=List.mem_map.1 f;exact⟨t,List.mem_append_left _ ht,Pa _ _ _ q g⟩
  exact⟨s,List.mem_append_right _ (List.mem_cons_of_mem _ f),g⟩
 rw[k2] at g;exact Pa _ _ _ q g
theorem TM:∀{i:Nat} {w:List (List Rat)} {x:Re},AZ w->In w x->i<=w.length->∃w',Hv i (w.reverse,co w x)=(w'.reverse,co w' x)/\Ia w x w'
 | 0,w,x,h,d,_=>⟨w,rfl,.refl h d⟩
 | i+1,w,x,h,d,g=>by
  obtain⟨k,f,t1,l1⟩:=aU h d g;obtain⟨j,e2,t2⟩:=TM t1.red t1.mem l1;exact⟨j,by rw[Hv,f,e2],t1.trans t2⟩
end Go.Abs
namespace Go.Abs
open Go.RowKit
variable {a b m n p:Int} {e i:Nat}
theorem Ps.lt {x:UInt8} (_:Ps n x):x.toNat<256:=x.toNat_lt
theorem L0.lt {x:UInt32} (_:L0 n x):x.toNat<4294967296:=x.toNat_lt
theorem Bb (k:Nat):AW k k:=⟨rfl⟩
theorem AW.of {k:Nat} (h:n=k):AW n k:=⟨h⟩
theorem BA (h:true=(a==b)):a=b:=by simpa using h.symm
theorem Ao (h:false=(a==b)):a≠b:=by simpa using h.symm
theorem DA (h:true=(a !=b)):a≠b:=by simpa using h.symm
theorem C8 (h:false=(a !=b)):a=b:=by simpa using h.symm
theorem BC (h:true=decide (a<b)):a<b:=by simpa using h.symm
theorem BB (h:false=decide (a<b)):b<=a:=by simpa using h.symm
theorem Mg (h:true=decide (a<=b)):a<=b:=by simpa using h.symm
theorem Me (h:false=decide (a<=b)):b<a:=by simpa using h.symm
theorem Ch (h:true=decide (a>b)):b<a:=by simpa using h.symm
theorem Cg (h:false=decide (a>b)):a<=b:=by simpa using h.symm
theorem Ft (h:true=decide (a >= b)):b<=a:=by simpa using h.symm
theorem Fs (h:false=decide (a >= b)):a<b:=by simpa using h.symm
theorem DX {a:Bool} (h:true= !a):a=false:=by simpa using h.symm
theorem DW {a:Bool} (h:false= !a):a=true:=by simpa using h.symm
theorem Vh {a b:Bool} (h:true=(a==b)):a=b:=by simpa using h.symm
theorem Vg {a b:Bool} (h:false=(a==b)):a≠b:=by simpa using h.symm
theorem Vn {a b:Bool} (h:true=(a !=b)):a≠b:=by simpa using h.symm
theorem Vl {a b:Bool} (h:false=(a !=b)):a=b:=by simpa using h.symm
theorem wrap_u32 (h:n=IntKind.u32.wrap m):n=m%4294967296:=h
theorem wrap_u64 (h:n=IntKind.u64.wrap m):n=m%18446744073709551616:=h
theorem wrap_i64 (h:n=IntKind.i64.wrap m):n=(m+9223372036854775808)%18446744073709551616-9223372036854775808:=by
 have e:IntKind.i64.wrap m=if (true&&decide (m%18446744073709551616 >= 9223372036854775808))=true then m%18446744073709551616-18446744073709551616 else m%18446744073709551616:=rfl
 rw[h,e]
 split
 ·rename_i hc
  simp only[Bool.true_and,decide_eq_true_eq] at hc;omega
 rename_i hc
 simp only[Bool.true_and,decide_eq_true_eq] at hc;omega
theorem EU (h:n=a.fdiv (2^e)) (d:2^e=p):n=a/p:=by
 rw[h,<-d,Int.fdiv_eq_ediv_of_nonneg _ (by have:=Int.pow_pos (n:=2) (m:=e) (by decide);omega)]
theorem KN (h:n=IntKind.u64.wrap (a*2^e)) (d:2^e=p):n=(a*p)%18446744073709551616:=by rw[<-d];exact h
theorem AP {α:Type} {l:List α} (h:i<l.length):∃x,l[i]? =some x:=⟨l[i],by simp[h]⟩
theorem CO (h:0<=n/\n<4294967296):∃w:UInt32,L0 n w:=⟨UInt32.ofNat n.toNat,⟨by rw[UInt32.toNat_ofNat'];omega⟩⟩
theorem CN {w:UInt32} (h:L0 n w):BV Bm [.int .u32 n] (cells .u32 w):=by
 refine⟨?_,trivial⟩
 show AC.int .u32 _=AC.int .u32 n
 rw[h.eq]
theorem Gv {α:Type} {l:List α} {x:α} (h:l[i]? =some x):i<l.length:=by
 apply Classical.byContradiction;intro d;rw[List.getElem?_eq_none (by omega)] at h;exact absurd h (by simp)
theorem C4 {α:Type} {l:List α} {x:α} (h:l[i]? =some x):l.take (i+1)=l.take i++[x]:=by
 have d:=Gv h;rw[List.take_succ_eq_append_getElem d];rw[List.getElem?_eq_getElem d] at h;rw[Option.some.inj h]
theorem Dn {t:T} {l m:List (el t)} {n k:Nat} (h:l=m) (d:n=k):AC.own t l n=AC.own t m k:=by rw[h,d]
end Go.Abs
namespace Go.Abs
open Go.RowKit
variable {a b n:Nat} {c y:Int} {l m z:List UInt32}
theorem FA (R:AE l=n) (D:z=AQ n):CF 358 [.one (.sl .u32 l)] (.one (.sl .u32 z)):=by
 have D:CM l=z:=by rw[D,<-R,NT]
 refine AJ Tryz.func358 fun E hE=>?_
 conv=>cbv
 refine .inr ?_;obtain⟨K,r⟩:=xJ fun vs L k=>∃m:List UInt32,vs=[.one (.sl .u32 m)]/\CM m=z/\k=m.length
 refine⟨[],[0],[],K,⟨l.length,by rw[r];exact⟨l,rfl,D,rfl⟩⟩,?_⟩;intro vs L T I;rw[r] at I;obtain⟨m,rfl,s,Q⟩:=I;conv=>cbv
 rintro n4 ⟨Z,f4⟩;conv=>cbv
 intro Y G;conv=>cbv
 cases Y <;> conv=>cbv
 ·have S:=Cg G;have B:m=[]:=List.eq_nil_of_length_eq_zero (by omega);exact AD ⟨⟨rfl,congrArg _ (by rw[<-s,B];rfl),trivial⟩,trivial⟩
 have S:=Ch G;rintro n9 ⟨e9,f9⟩;conv=>cbv
 intro f O;conv=>cbv
 refine AN ?_;obtain⟨g,d⟩:=AP (l:=m) (i:=(f).toNat) (by omega);refine⟨g,fun _=>⟨by omega,d⟩,?_⟩;try conv=>cbv
 intro V o;have M:=o.eq;have f12:=o.lt;conv=>cbv
 intro F u;conv=>cbv
 cases F <;> conv=>cbv
 ·have v:=Ao u;have C:g≠0:=fun h=>by subst h;exact v o.eq
  have e2:m=m.take (f).toNat++[g]:=by have:=C4 d;rw[List.take_of_length_le (by omega)] at this;exact this
  exact AD ⟨⟨rfl,congrArg _ (by rw[<-s,e2,Lj C]),trivial⟩,trivial⟩
 have v:=BA u;refine .inr ?_;rintro W ⟨N,f17⟩;conv=>cbv
 intro X P;conv=>cbv
 refine AN ?_;intro U J;conv=>cbv
 refine AI ?_;intro A H;conv=>cbv
 intro t j;conv=>cbv
 refine⟨t.length,?_,?_⟩
 ·rw[j];simp;omega
 rw[r];have el:t=m.take (f).toNat:=by rw[j,show A=(f).toNat by omega];simp
 refine⟨t,rfl,?_,rfl⟩;obtain rfl:g=0:=UInt32.toNat_inj.1 (by show _=0;omega)
 have e2:m=m.take (f).toNat++[0]:=by
  have:=C4 d;rw[List.take_of_length_le (by omega)] at this;exact this
 rw[el,<-s];conv=>rhs;rw[e2]
 rw[KQ]
theorem XO (x:Int):CF 395 [.one (.int .i64 x)] (.one (.bool false)):=by
 refine AJ Tryz.func395 fun E f=>?_
 conv=>cbv
 intro g d;conv=>cbv
 exact AD ⟨⟨rfl,congrArg _ (by rw[d];simp),trivial⟩,trivial⟩
theorem XP (x:Int):CF 408 [.one (.int .u32 x)] (.one (.bool false)):=by
 refine AJ Tryz.func408 fun E f=>?_
 conv=>cbv
 intro g d;conv=>cbv
 exact AD ⟨⟨rfl,congrArg _ (by rw[d];simp),trivial⟩,trivial⟩
theorem UE {x:Int} (hc:c=Bw x y):CF 383 [.one (.int .i64 x),.one (.int .i64 y)] (.one (.int .i64 c)):=by
 refine AJ Tryz.func383 fun E o=>?_
 conv=>cbv
 refine AB o (XO _) ?_;conv=>cbv
 refine AB o (XO _) ?_;conv=>cbv
 intro j d;conv=>cbv
 cases j <;> conv=>cbv
 ·have g:=BB d;intro k f;conv=>cbv
  cases k <;> conv=>cbv
  ·have h:=Cg f;exact AD ⟨⟨rfl,congrArg _ (by rw[hc];unfold Bw;split <;> (try split) <;> omega),trivial⟩,trivial⟩
  have h:=Ch f;exact AD ⟨⟨rfl,congrArg _ (by rw[hc];unfold Bw;split <;> (try split) <;> omega),trivial⟩,trivial⟩
 have g:=BC d;exact AD ⟨⟨rfl,congrArg _ (by rw[hc];unfold Bw;split <;> (try split) <;> omega),trivial⟩,trivial⟩
theorem bM {x:Int} (hc:c=Bw x y):CF 396 [.one (.int .u32 x),.one (.int .u32 y)] (.one (.int .i64 c)):=by
 refine AJ Tryz.func396 fun E o=>?_
 conv=>cbv
 refine AB o (XP _) ?_;conv=>cbv
 refine AB o (XP _) ?_;conv=>cbv
 intro j d;conv=>cbv
 cases j <;> conv=>cbv
 ·have g:=BB d;intro k f;conv=>cbv
  cases k <;> conv=>cbv
  ·have h:=Cg f;exact AD ⟨⟨rfl,congrArg _ (by rw[hc];unfold Bw;split <;> (try split) <;> omega),trivial⟩,trivial⟩
  have h:=Ch f;exact AD ⟨⟨rfl,congrArg _ (by rw[hc];unfold Bw;split <;> (try split) <;> omega),trivial⟩,trivial⟩
 have g:=BC d;exact AD ⟨⟨rfl,congrArg _ (by rw[hc];unfold Bw;split <;> (try split) <;> omega),trivial⟩,trivial⟩
theorem Ll {m:Nat} (U:n<=l.length) (hl:l.length<=140737488355328) (hm:m=(CM (l.take n)).length):IV Tryz.prog 358 (.AS .u32 0 0 0 n) (.arr 0 .u32 l) [] (.one (.AS .u32 0 0 0 m)) (.arr 0 .u32 l):=by
 refine MB Tryz.func358 (by kernel_rfl) rfl fun E hE=>?_
 conv=>cbv
 refine .inr ?_;obtain⟨L,j⟩:=xJ fun vs D k=>∃q:Nat,vs=[.one (.AS .u32 0 0 0 q)]/\D=[.arr 0 .u32 l]/\q<=l.length/\m=(CM (l.take q)).length/\k=q
 refine⟨[],[0],[0],L,⟨n,by rw[j];exact⟨n,rfl,rfl,U,hm,rfl⟩⟩,?_⟩;intro vs D W I;rw[j] at I;obtain⟨q,rfl,rfl,hq,o,T⟩:=I;conv=>cbv
 intro n4 R;have e4:=R.eq;conv=>cbv
 intro n5 F;conv=>cbv
 cases n5 <;> conv=>cbv
 ·have V:=Cg F;refine⟨fun _=>⟨⟨⟨rfl,.inr (.inr ⟨rfl,rfl,congrArg (AC.AS .u32 0 0 0) (by rw[o,show q=0 by omega];rfl)⟩),trivial⟩,trivial⟩,rfl,by simp⟩,fun _=>rfl⟩
 have V:=Ch F;intro n9 S;have e9:=S.eq;conv=>cbv
 intro X P;conv=>cbv
 refine AN ?_;refine AI ?_;intro r J;conv=>cbv
 obtain⟨s,d⟩:=AP (l:=l) (i:=r) (by omega);refine⟨s,fun _=>d,?_⟩;try conv=>cbv
 intro Y g;have N:=g.eq;have f12:=g.lt;conv=>cbv
 intro B t;conv=>cbv
 cases B <;> conv=>cbv
 ·have u:=Ao t;have A:s≠0:=fun h=>by subst h;exact u g.eq
  refine⟨fun _=>⟨⟨⟨rfl,.inr (.inr ⟨rfl,rfl,congrArg (AC.AS .u32 0 0 0) (by rw[o,show q=r+1 by omega,C4 d,Lj A,List.length_append,List.length_take];simp;omega)⟩),trivial⟩,trivial⟩,rfl,by simp⟩,fun _=>rfl⟩
 have u:=BA t;refine .inr ?_;intro Z v;have O:=v.eq;conv=>cbv
 intro a1 Q;conv=>cbv
 refine AN ?_;refine AI ?_;intro M G;conv=>cbv
 rintro C f ⟨K,H⟩;conv=>cbv
 refine⟨f,?_,?_⟩
 ·omega
 rw[j];obtain rfl:C=0:=by omega
 refine⟨f,rfl,rfl,by omega,?_,rfl⟩;obtain rfl:s=0:=UInt32.toNat_inj.1 (by show _=0;omega);rw[o,show q=f+1 by omega,C4 (x:=0) (by rw[show f=r by omega];exact d),KQ]
theorem Yo {zn:Nat} (hl:l=AQ a) (hm:m=AQ b) (hz:z=AQ (a+b)) (aj:zn=z.length) (sl:l.length<=17592186044416) (sm:m.length<=17592186044416):CF 393 [.one (.sl .u32 l),.one (.sl .u32 m)] (.one (.own .u32 z zn)):=by
 refine AJ Tryz.func393 fun E hE=>?_
 conv=>cbv
 rintro aT ⟨aH,f10⟩;conv=>cbv
 rintro aU ⟨aI,f12⟩;conv=>cbv
 intro ay a2;conv=>cbv
 obtain⟨aq,D⟩:=xK fun vs bl=>∃(p q:Nat) (x y:List UInt32),vs=[.one (.sl .u32 x),.one (.sl .u32 y)]/\x=AQ p/\y=AQ q/\p+q=a+b/\y.length<=x.length/\x.length<=17592186044416
 refine .inl ⟨[0,1],[],aq,?_,?_⟩
 ·intro vs bl hj;rw[D] at hj;obtain⟨p,q,x,y,rfl,hx,hy,M,ai,aR⟩:=hj;conv=>cbv
  rintro aV ⟨aJ,f17⟩;conv=>cbv
  intro aW aO;conv=>cbv
  refine AN ?_;refine⟨fun _=>⟨by omega,by omega,by show _*4<=140737488355328;omega⟩,?_⟩;intro T (U:List UInt32) Q;have N:=Q.1;have v:U=List.replicate T (0:el .u32):=Q.2;have aG:U.length=T:=by rw[v,List.length_replicate]
  conv=>cbv
  intro az S;have aK:=S.eq;have f21:=S.le;conv=>cbv
  refine .inr ?_
  obtain⟨J0,K⟩:∃J:List AV->List AM->Nat->Prop,J=fun vs bl k=>∃(o:List UInt32) (n Y i':Nat) (c L i:Int),vs=[.one (.sl .u32 x),.one (.sl .u32 y),.one (.AS .u32 19 0 0 n),.one (.int .u64 c),.one (.sl .u32 x),.one (.int .i64 L),.one (.int .i64 i)]/\
   bl=[.arr 0 .u32 o]/\(n=o.length/\o.length=i'/\DM L x.length/\AW i i'/\i'<=x.length/\AW c Y/\Y<=1)/\
   AE o+2^(32*i')*Y=AE (x.take i')+AE (y.take i')/\k=x.length-i':=⟨_,rfl⟩
  refine⟨[],[0,1,5,6,20,21,22],[19],J0,⟨x.length-0,by rw[K];exact⟨U,T,0,0,0,az,0,rfl,rfl,⟨by rw[v,List.length_replicate],by rw[v,List.length_replicate,N];rfl,S,Bb 0,by omega,Bb 0,by omega⟩,by rw[v,N];simp[AE],rfl⟩⟩,?_⟩;intro vs bl aS hj;rw[K] at hj;obtain⟨o,n,Y,i',c,L,i,rfl,rfl,⟨hn,ho,hL,hi,aQ,hc,aP⟩,hinv,r⟩:=hj;conv=>cbv
  have eL:=hL.eq;have ei:=hi.eq;have ec:=hc.eq;intro aA a5;conv=>cbv
  cases aA <;> conv=>cbv
  ·have av:=BB a5;intro ED af;conv=>cbv
   refine .inr ?_;cases ED <;> conv=>cbv
   ·have ax:=Cg af;have r:i'=x.length:=by omega
    have g:AE o=p+q:=by rw[r,Dl (Nat.le_refl _),Dl ai,hx,hy,BS,BS,show Y=0 by omega] at hinv;omega
    exact AD ⟨⟨rfl,.inr (.inl ⟨_,_,by decide,rfl,rfl,hn,rfl,Dn (by rw[hz,<-M];exact (Vr g (by rw[ho,r,hx])).symm) (by rw[aj,hz,<-M,<-Vr g (by rw[ho,r,hx])])⟩),trivial⟩,trivial⟩
   have ax:=Ch af;intro aC ag;conv=>cbv
   have ag:=wrap_u32 ag;obtain⟨A,G⟩:=CO (n:=aC) (by omega);have aE:=G.eq;have aF:=G.lt;refine⟨[A],fun _=>⟨rfl,by decide,rfl,⟨rfl,CN G,trivial⟩⟩,.inl ?_⟩;try conv=>cbv
   refine .inl ⟨[A],fun _=>⟨rfl,by (first | rfl | omega),⟨_,rfl,by simp <;> omega,by simp⟩,by show (o.length+1)*4<=140737488355328;(try simp only[List.length_take,List.length_drop]);omega⟩,?_⟩;intro (ak:List UInt32) aD R;have O:ak=(o:List UInt32)++([A]:List UInt32):=R.1;have ah:aD=List.length (α:=UInt32) ak:=R.2;conv=>cbv
   have r:i'=x.length:=by omega
   have g:AE (o++[A])=p+q:=by rw[EN,show A.toNat=Y by omega,ho,<-BS p,<-BS q,<-hx,<-hy];rw[r,Dl (Nat.le_refl _),Dl ai] at hinv;rw[r];exact hinv
   have hw:A.toNat≠0:=by omega
   exact AD ⟨⟨rfl,.inr (.inl ⟨_,_,by decide,rfl,rfl,ah,rfl,Dn (by rw[hz,<-M,<-g,Qa hw,O]) (by rw[aj,hz,<-M,<-g,Qa hw,O])⟩),trivial⟩,trivial⟩
  have av:=BC a5;refine .inr ?_;obtain⟨X,H⟩:=AP (l:=x) (i:=i') (by omega);refine⟨X,fun _=>⟨by omega,by rw[show (i).toNat=i' by omega];exact H⟩,?_⟩;try conv=>cbv
  intro aX a6;have aL:=a6.eq;have f26:=a6.lt;conv=>cbv
  intro aY a7;conv=>cbv
  have a7:=wrap_u64 a7;intro al a8;conv=>cbv
  have a8:=wrap_u64 a8;rintro aZ ⟨aM,f33⟩;conv=>cbv
  intro aB aa;conv=>cbv
  refine .inr ?_;cases aB <;> conv=>cbv
  ·have aw:=BB aa;intro V B;conv=>cbv
   have B:=wrap_u32 B;obtain⟨f,d⟩:=CO (n:=V) (by omega);have Z:=d.eq;have a1:=d.lt;refine⟨[f],fun _=>⟨rfl,by decide,rfl,⟨rfl,CN d,trivial⟩⟩,.inl ?_⟩;try conv=>cbv
   refine .inl ⟨[f],fun _=>⟨rfl,by (first | rfl | omega),⟨_,rfl,by simp <;> omega,by simp⟩,by show (o.length+1)*4<=140737488355328;(try simp only[List.length_take,List.length_drop]);omega⟩,?_⟩;intro (t:List UInt32) I j;have h:t=(o:List UInt32)++([f]:List UInt32):=j.1;have F:I=List.length (α:=UInt32) t:=j.2;conv=>cbv
   intro u C;conv=>cbv
   refine AI ?_;have C:=EU (p:=4294967296) C rfl;intro W ar;conv=>cbv
   refine AN ?_;refine⟨x.length-(i'+1),?_,?_⟩
   ·omega
   rw[K];refine⟨t,I,u.toNat,i'+1,u,L,W,rfl,rfl,⟨F,by rw[h];simp;omega,hL,⟨by omega⟩,by omega,⟨by omega⟩,by omega⟩,?_,rfl⟩;rw[h,Ck H,Dl (l:=y) (i:=i'+1) (by omega)];have hs:=N9 (xi:=X.toNat) (yi:=0) (s:=al.toNat) (w:=f) ho hinv (by omega) (by omega);rw[show u.toNat=al.toNat/4294967296 by omega];rw[hs];rw[Dl (l:=y) (i:=i') (by omega)];omega
  have aw:=BC aa;obtain⟨ao,P⟩:=AP (l:=y) (i:=i') (by omega);refine⟨ao,fun _=>⟨by omega,by rw[show (i).toNat=i' by omega];exact P⟩,?_⟩;try conv=>cbv
  intro b0 ab;have aN:=ab.eq;have f39:=ab.lt;conv=>cbv
  intro b4 ad;conv=>cbv
  have ad:=wrap_u64 ad;intro an ae;conv=>cbv
  have ae:=wrap_u64 ae;intro V B;conv=>cbv
  have B:=wrap_u32 B;obtain⟨f,d⟩:=CO (n:=V) (by omega);have Z:=d.eq;have a1:=d.lt;refine⟨[f],fun _=>⟨rfl,by decide,rfl,⟨rfl,CN d,trivial⟩⟩,.inl ?_⟩;try conv=>cbv
  refine .inl ⟨[f],fun _=>⟨rfl,by (first | rfl | omega),⟨_,rfl,by simp <;> omega,by simp⟩,by show (o.length+1)*4<=140737488355328;(try simp only[List.length_take,List.length_drop]);omega⟩,?_⟩;intro (t:List UInt32) I j;have h:t=(o:List UInt32)++([f]:List UInt32):=j.1;have F:I=List.length (α:=UInt32) t:=j.2;conv=>cbv
  intro u C;conv=>cbv
  refine AI ?_;have C:=EU (p:=4294967296) C rfl;intro W ar;conv=>cbv
  refine AN ?_;refine⟨x.length-(i'+1),?_,?_⟩
  ·omega
  rw[K];refine⟨t,I,u.toNat,i'+1,u,L,W,rfl,rfl,⟨F,by rw[h];simp;omega,hL,⟨by omega⟩,by omega,⟨by omega⟩,by omega⟩,?_,rfl⟩;rw[h,Ck H,Ck P];have hs:=N9 (xi:=X.toNat) (yi:=ao.toNat) (s:=an.toNat) (w:=f) ho hinv (by omega) (by omega);rw[show u.toNat=an.toNat/4294967296 by omega];rw[hs]
 cases ay <;> conv=>cbv
 ·have au:=BB a2;rw[D];exact⟨a,b,_,_,rfl,hl,hm,rfl,by omega,by omega⟩
 have au:=BC a2;rw[D];exact⟨b,a,_,_,rfl,hm,hl,Nat.add_comm _ _,by omega,by omega⟩
theorem Yn (d:l=AQ a) (hm:m=AQ b) (f:z=AQ (a+b)) (sl:l.length<=17592186044416) (g:m.length<=17592186044416):CF 393 [.one (.sl .u32 l),.one (.sl .u32 m)] (.one (.sl .u32 z)):=DQ (Yo d hm f rfl sl g)
end Go.Abs
namespace Go.Abs
open Go.RowKit
variable {b:Bool} {l z:List UInt32} {x:Int}
theorem Fu {n:Bool} (o:x=if n=true then -(AE l:Int) else AE l) (h:As x b z):CF 353 [.one (.bool n),.one (.sl .u32 l)] (.agg (Bg b z)):=by
 refine AJ Tryz.func353 fun E s=>?_
 conv=>cbv
 obtain⟨u,d⟩:=xU (AQ (AE l));refine AB s (FA rfl d) ?_;conv=>cbv
 intro A g;have v:=g.eq;have f8:=g.le;conv=>cbv
 intro t k;conv=>cbv
 cases t <;> conv=>cbv
 ·have r:=Ao k;have j:AE l≠0:=fun e=>r (by have:=g.eq;rw[d,e] at this;exact this)
  have f:As x n u:= .val d.symm o (fun e=>absurd e j);exact AD ⟨⟨rfl,congrArg _ ((f.uniq h rfl).1.symm),congrArg _ ((f.uniq h rfl).2.symm),trivial⟩,trivial⟩
 have r:=BA k;have j:AE l=0:=by have e:=g.eq;rw[d] at e;exact F4.1 (List.length_eq_zero_iff.1 (by omega))
 have f:As x false []:= .val (n:=0) rfl (by rw[o,j];simp) (fun _=>rfl);exact AD ⟨⟨rfl,congrArg _ ((f.uniq h rfl).1.symm),.inr (.inl ⟨_,congrArg _ ((f.uniq h rfl).2.symm)⟩),trivial⟩,trivial⟩
theorem Kv {n:Int} {k:Nat} (F:AW n k) (K:k<18446744073709551616) (G:z=AQ k):CF 354 [.one (.int .u64 n)] (.one (.sl .u32 z)):=by
 have J:=F.eq;refine AJ Tryz.func354 fun E D=>?_
 conv=>cbv
 intro n4 v;conv=>cbv
 have v:=wrap_u32 v;intro L A;conv=>cbv
 refine AI ?_;have A:=EU (p:=4294967296) A rfl;intro I B;conv=>cbv
 have B:=wrap_u32 B;obtain⟨g,d⟩:=CO (n:=n4) (by omega);have r:=d.eq;have t:=d.lt;obtain⟨h,f⟩:=CO (n:=I) (by omega);have s:=f.eq;have u:=f.lt;refine⟨[g,h],fun _=>⟨rfl,by decide,rfl,⟨rfl,CN d,⟨rfl,CN f,trivial⟩⟩⟩,.inl ?_⟩;try conv=>cbv
 obtain⟨H,j⟩:=xN ((CM ([g,h].take 2)).length);obtain⟨C,o⟩:=E0 (by simp) j;refine .inr (.inr (.inl ⟨[],.one (.AS .u32 0 0 0 H),.arr 0 .u32 [g,h],fun _=>⟨by first | decide | simp[Cb,Ci],trivial⟩,fun _=>⟨EG D (Ll (by simp) (by simp) j),rfl,rfl⟩,?_⟩));try conv=>cbv
 exact AD ⟨⟨rfl,.inl ⟨_,rfl,by simp;omega,congrArg _ (by rw[List.drop_zero,o,G];congr 1;simp[AE];omega)⟩,trivial⟩,trivial⟩
theorem KX (j:z=l) (u:l.length<=17592186044416):CF 254 [.one (.sl .u32 l)] (.one (.sl .u32 z)):=by
 refine AJ Tryz.func254 fun E t=>?_
 conv=>cbv
 intro n4 r;conv=>cbv
 refine⟨fun o=>?_,?_⟩
 ·conv=>cbv
  have g:l=[]:=by rw[r] at o;simpa using o
  exact AD ⟨⟨rfl,.inr (.inl ⟨_,congrArg _ (by rw[j,g])⟩),trivial⟩,trivial⟩
 refine⟨[],fun _=>⟨rfl,by decide,rfl,trivial⟩,.inl ?_⟩;try conv=>cbv
 refine .inl ⟨l,fun _=>⟨rfl,by (first | rfl | omega),rfl,by show (0+l.length)*4<=140737488355328;(try simp only[List.length_take,List.length_drop]);omega⟩,?_⟩;intro (k:List UInt32) s f;have h:k=([]:List UInt32)++(l:List UInt32):=f.1;have d:s=List.length (α:=UInt32) k:=f.2;conv=>cbv
 exact AD ⟨⟨rfl,.inl ⟨_,rfl,by rw[d];simp,congrArg _ (by rw[j,d,h];simp)⟩,trivial⟩,trivial⟩
theorem NY (F: -9223372036854775808<=x/\x<9223372036854775808) (s:As x b z):CF 302 [.one (.int .i64 x)] (.agg (Bg b z)):=by
 refine AJ Tryz.func302 fun E o=>?_
 conv=>cbv
 intro G v;conv=>cbv
 have v:=wrap_u64 v;intro D A;conv=>cbv
 refine .inr ?_;cases D <;> conv=>cbv
 ·have C:=BB A;intro t j;conv=>cbv
  obtain⟨u,f⟩:=xU (AQ x.natAbs);refine AB o (Kv (AW.of (k:=x.natAbs) (by omega)) (by omega) f) ?_;conv=>cbv
  obtain⟨g,h,d⟩:=Al (x);refine AB (r:= .agg [.bool g,.sl .u32 h]) o (Fu (by rw[f,BS,j];simp;omega) d) ?_;try conv=>cbv
  exact AD ⟨⟨rfl,congrArg _ ((d.uniq s rfl).1.symm),congrArg _ ((d.uniq s rfl).2.symm),trivial⟩,trivial⟩
 have C:=BC A;intro H B;conv=>cbv
 have B:=wrap_u64 B;intro t j;conv=>cbv
 obtain⟨u,f⟩:=xU (AQ x.natAbs);refine AB o (Kv (AW.of (k:=x.natAbs) (by omega)) (by omega) f) ?_;conv=>cbv
 obtain⟨g,h,d⟩:=Al (x);refine AB (r:= .agg [.bool g,.sl .u32 h]) o (Fu (by rw[f,BS,j];simp;omega) d) ?_;try conv=>cbv
 exact AD ⟨⟨rfl,congrArg _ ((d.uniq s rfl).1.symm),congrArg _ ((d.uniq s rfl).2.symm),trivial⟩,trivial⟩
end Go.Abs
namespace Go.Abs
open Go.RowKit
variable {a b i:Nat} {l m z:List UInt32}
theorem Qk {x y:UInt32} (h:l[i]? =some x) (o:m[i]? =some y) (t:l.length=m.length) (he:AE (l.drop (i+1))=AE (m.drop (i+1))) (f:x≠y):
  Bw x.toNat y.toNat=Bw (AE l) (AE m):=by
 have s:=Gv h;have j:=Gf l (i+1) (by omega);have g:=Gf m (i+1) (by omega);rw[Ck h] at j;rw[Ck o] at g;have b1:=Cu (l.take i);have b2:=Cu (m.take i);rw[List.length_take,Nat.min_eq_left (by omega)] at b1 b2;rw[<-he] at g
 generalize AE (l.drop (i+1))=D at*
 generalize AE (l.take i)=A at*
 generalize AE (m.take i)=B at*
 generalize 2^(32*(i+1))*D=Q at*
 generalize r:2^(32*i)=P at*
 have k:x.toNat≠y.toNat:=fun e=>f (UInt32.toNat_inj.1 e)
 by_cases d:x.toNat<y.toNat
 ·have:P*(x.toNat+1)<=P*y.toNat:=Nat.mul_le_mul_left _ d;rw[Nat.mul_add] at this;have:AE l<AE m:=by omega
  unfold Bw;rw[if_pos (by omega),if_pos (by omega)]
 have:P*(y.toNat+1)<=P*x.toNat:=Nat.mul_le_mul_left _ (by omega);rw[Nat.mul_add] at this;have:AE m<AE l:=by omega
 unfold Bw;rw[if_neg (by omega),if_pos (by omega),if_neg (by omega),if_pos (by omega)]
theorem Qj (h:(AQ a).length≠(AQ b).length):Bw (AQ a).length (AQ b).length=Bw a b:=by
 by_cases d:(AQ a).length<(AQ b).length
 ·have:a<b:=by
   apply Classical.byContradiction;intro f;have:=EM (a:=b) (b:=a);omega
  unfold Bw;rw[if_pos (by omega),if_pos (by omega)]
 have:b<a:=by
  apply Classical.byContradiction;intro f;have:=EM (a:=a) (b:=b);omega
 unfold Bw;rw[if_neg (by omega),if_pos (by omega),if_neg (by omega),if_pos (by omega)]
theorem drop_eq {x:UInt32} (d:l[i]? =some x) (f:m[i]? =some x) (he:AE (l.drop (i+1))=AE (m.drop (i+1))):AE (l.drop i)=AE (m.drop i):=by
 have g:=Gv d;have h:=Gv f;rw[List.drop_eq_getElem_cons g,List.drop_eq_getElem_cons h,AE,AE,he];rw[List.getElem?_eq_getElem g] at d;rw[List.getElem?_eq_getElem h] at f;rw[Option.some.inj d,Option.some.inj f]
theorem OB {c:Int} (R:l=AQ a) (hm:m=AQ b) (hc:c=Bw a b):CF 384 [.one (.sl .u32 l),.one (.sl .u32 m)] (.one (.int .i64 c)):=by
 refine AJ Tryz.func384 fun E hE=>?_
 conv=>cbv
 rintro n7 ⟨e7,f7⟩;conv=>cbv
 rintro n9 ⟨e9,f9⟩;conv=>cbv
 intro U H;conv=>cbv
 cases U <;> conv=>cbv
 ·have N:=C8 H;rintro aj ⟨a8,f17⟩;conv=>cbv
  intro X ae;conv=>cbv
  refine AN ?_;refine .inr ?_;obtain⟨J0,F⟩:=xJ fun vs bl k=>∃(j:Int) (k':Nat),vs=[.one (.sl .u32 l),.one (.sl .u32 m),.one (.int .i64 j)]/\(AW (j+1) k'/\k'<=l.length/\l.length=m.length/\AE (l.drop k')=AE (m.drop k'))/\k=k'
  refine⟨[],[0,1,5],[],J0,⟨l.length,by rw[F];exact⟨X,l.length,rfl,⟨⟨by omega⟩,by omega,by omega,by rw[List.drop_length,show l.length=m.length by omega,List.drop_length]⟩,rfl⟩⟩,?_⟩;intro vs bl ai Q;rw[F] at Q;obtain⟨j,k',rfl,⟨Q,ag,M,P⟩,ah⟩:=Q;conv=>cbv
  have ej:=Q.eq;intro Y I;conv=>cbv
  cases Y <;> conv=>cbv
  ·have T:=Fs I;have hk:k'=0:=by omega
   have he:a=b:=by rw[hk] at P;simpa [R,hm,BS] using P
   exact AD ⟨⟨rfl,congrArg _ (by rw[hc,he];simp[Bw]),trivial⟩,trivial⟩
  have T:=Ft I;refine .inr ?_;obtain⟨g,d⟩:=AP (l:=l) (i:=(j).toNat) (by omega);refine⟨g,fun _=>⟨by omega,d⟩,?_⟩;try conv=>cbv
  intro ak J;have G:=J.eq;have f26:=J.lt;conv=>cbv
  obtain⟨h,f⟩:=AP (l:=m) (i:=(j).toNat) (by omega);refine⟨h,fun _=>⟨by omega,f⟩,?_⟩;try conv=>cbv
  intro al K;have aa:=K.eq;have f30:=K.lt;conv=>cbv
  intro a1 L;conv=>cbv
  refine g2 rfl ?_;cases a1 <;> conv=>cbv
  ·have O:=C8 L;intro Z af;conv=>cbv
   refine AN ?_;refine⟨k'-1,?_,?_⟩
   ·omega
   rw[F];obtain⟨i',rfl⟩:∃i',k'=i'+1:=⟨k'-1,by omega⟩
   refine⟨Z,i',rfl,⟨⟨by omega⟩,by omega,M,?_⟩,by omega⟩;have G:g=h:=UInt32.toNat_inj.1 (by omega);subst G;exact drop_eq (i:=i') (by rw[<-d];congr 1;omega) (by rw[<-f];congr 1;omega) P
  have O:=DA L;obtain⟨o,u⟩:=AP (l:=l) (i:=(j).toNat) (by omega);refine⟨o,fun _=>⟨by omega,u⟩,?_⟩;try conv=>cbv
  intro a2 C;have ab:=C.eq;have f35:=C.lt;conv=>cbv
  obtain⟨r,v⟩:=AP (l:=m) (i:=(j).toNat) (by omega);refine⟨r,fun _=>⟨by omega,v⟩,?_⟩;try conv=>cbv
  intro a5 D;have ad:=D.eq;have f39:=D.lt;conv=>cbv
  obtain⟨ao,t⟩:=xI (Bw a2 a5);refine AB hE (bM t) ?_;conv=>cbv
  refine g2 rfl ?_;obtain⟨i',rfl⟩:∃i',k'=i'+1:=⟨k'-1,by omega⟩
  have e1:l[i']? =some o:=by rw[<-u];congr 1;omega
  have e2:m[i']? =some r:=by rw[<-v];congr 1;omega
  have e3:l[i']? =some g:=by rw[<-d];congr 1;omega
  have e4:m[i']? =some h:=by rw[<-f];congr 1;omega
  obtain rfl:o=g:=Option.some.inj (e1.symm.trans e3);obtain rfl:r=h:=Option.some.inj (e2.symm.trans e4);have S:o≠r:=fun e=>by subst e;exact O (by omega)
  exact AD ⟨⟨rfl,congrArg _ (by rw[t,hc,C.eq,D.eq,Qk e1 e2 M P S,R,hm,BS,BS]),trivial⟩,trivial⟩
 have N:=DA H;intro V A;have a6:=A.eq;have f12:=A.le;conv=>cbv
 intro W B;have a7:=B.eq;have f14:=B.le;conv=>cbv
 obtain⟨an,s⟩:=xI (Bw V W);refine AB hE (UE s) ?_;conv=>cbv
 exact AD ⟨⟨rfl,congrArg _ (by rw[s,hc,A.eq,B.eq,R,hm,Qj (by rw[<-R,<-hm];intro e;exact N (by omega))]),trivial⟩,trivial⟩
theorem Rh (hl:l=AQ a) (hm:m=AQ b) (hz:z=AQ (a-b)) (aa:b<=a) (sl:l.length<=17592186044416):CF 394 [.one (.sl .u32 l),.one (.sl .u32 m)] (.one (.sl .u32 z)):=by
 have ad:m.length<=l.length:=by rw[hl,hm];exact EM aa
 refine AJ Tryz.func394 fun E hE=>?_
 conv=>cbv
 rintro aA ⟨an,f11⟩;conv=>cbv
 refine⟨fun _=>⟨by omega,by omega,by show _*4<=140737488355328;omega⟩,?_⟩;intro K (M:List UInt32) G;have al:=G.1;have t:M=List.replicate K (0:el .u32):=G.2;have ak:M.length=K:=by rw[t,List.length_replicate]
 conv=>cbv
 intro ah H;have ao:=H.eq;have f14:=H.le;conv=>cbv
 refine .inr ?_
 obtain⟨J0,B⟩:∃J:List AV->List AM->Nat->Prop,J=fun vs bl k=>∃(o:List UInt32) (n C i':Nat) (c L i:Int),vs=[.one (.sl .u32 l),.one (.sl .u32 m),.one (.AS .u32 12 0 0 n),.one (.int .u64 c),.one (.sl .u32 l),.one (.int .i64 L),.one (.int .i64 i)]/\
  bl=[.arr 0 .u32 o]/\(o.length=l.length/\n=o.length/\DM L l.length/\AW i i'/\i'<=l.length/\AW c C/\C<=1)/\
  AE (o.take i')+AE (m.take i')=AE (l.take i')+2^(32*i')*C/\k=l.length-i':=⟨_,rfl⟩
 refine⟨[],[0,1,5,6,13,14,15],[12],J0,⟨l.length-0,by rw[B];exact⟨M,K,0,0,0,ah,0,rfl,rfl,⟨by rw[t,List.length_replicate];omega,by rw[t,List.length_replicate],H,Bb 0,by omega,Bb 0,by omega⟩,by simp[AE],rfl⟩⟩,?_⟩;intro vs bl az hj;rw[B] at hj;obtain⟨o,n,C,i',c,L,i,rfl,rfl,⟨ho,hn,hL,hi,aw,hc,av⟩,hinv,ax⟩:=hj;conv=>cbv
 have eL:=hL.eq;have ei:=hi.eq;have ec:=hc.eq;intro ai U;conv=>cbv
 cases ai <;> conv=>cbv
 ·have ae:=BB U;have u:n<=(o).length:=by omega
  obtain⟨ag,D⟩:=xN ((CM ((o).take n)).length);obtain⟨ab,I⟩:=E0 u D;refine .inr (.inr (.inl ⟨[],.one (.AS .u32 0 0 0 ag),.arr 0 .u32 o,fun _=>⟨by first | decide | simp[Cb,Ci],trivial⟩,fun _=>⟨EG hE (Ll u (by omega) D),rfl,rfl⟩,?_⟩));try conv=>cbv
  have hk:i'=l.length:=by omega
  have a5:AE (o.take n)=a-b:=by rw[hk,Dl ad,Dl (Nat.le_refl _),hm,hl,BS,BS,<-hl,<-ho,List.take_length] at hinv;have ay:=Cu o;generalize 2^(32*o.length)=P at *;rw[hn,List.take_length];rcases (by omega:C=0\/C=1) with e | e <;> rw[e] at hinv <;> omega
  exact AD ⟨⟨rfl,.inl ⟨_,rfl,by omega,congrArg _ (by rw[List.drop_zero,I,a5,hz])⟩,trivial⟩,trivial⟩
 have ae:=BC U;refine .inr ?_;obtain⟨Q,v⟩:=AP (l:=l) (i:=i') (by omega);refine⟨Q,fun _=>⟨by omega,by rw[show (i).toNat=i' by omega];exact v⟩,?_⟩;try conv=>cbv
 intro aB V;have aq:=V.eq;have f19:=V.lt;conv=>cbv
 intro aC W;conv=>cbv
 have W:=wrap_u64 W;intro aD X;conv=>cbv
 have X:=wrap_u64 X;rintro aE ⟨ar,f26⟩;conv=>cbv
 intro aj Y;conv=>cbv
 refine .inr ?_;cases aj <;> conv=>cbv
 ·have af:=BB Y;intro N r;conv=>cbv
  have r:=wrap_u32 r;refine AI ?_;intro A a6;conv=>cbv
  obtain⟨j,f⟩:=CO (n:=N) (by omega);have R:=f.eq;have S:=f.lt;refine⟨j,fun _=>⟨by show _<List.length (α:=UInt32) o;(first | omega | (simp;omega)),CN f⟩,?_⟩;intro (g:List UInt32) (d:g=List.set (α:=UInt32) o A j);have T:g.length=o.length:=by rw[d,List.length_set]
  conv=>cbv
  intro h s;conv=>cbv
  refine AI ?_;have s:=EU (p:=9223372036854775808) s rfl;intro O a8;conv=>cbv
  refine AN ?_;refine⟨l.length-(i'+1),?_,?_⟩
  ·omega
  rw[B];refine⟨g,n,h.toNat,i'+1,h,L,O,rfl,rfl,⟨by rw[d,List.length_set];exact ho,by rw[d,List.length_set];exact hn,hL,⟨by omega⟩,by omega,⟨by omega⟩,by omega⟩,?_,rfl⟩;have hs:=LI (w:=j) (o:=o) (i:=i') (xi:=Q.toNat) (yi:=0) (Ga:=C) (Gb:=h.toNat) (by omega) hinv (by omega);rw[d,show A=i' by omega,Ck v,<-hs,Dl (l:=m) (i:=i'+1) (by omega),Dl (l:=m) (i:=i') (by omega),Nat.mul_zero]
  rfl
 have af:=BC Y;obtain⟨a7,F⟩:=AP (l:=m) (i:=i') (by omega);refine⟨a7,fun _=>⟨by omega,by rw[show (i).toNat=i' by omega];exact F⟩,?_⟩;try conv=>cbv
 intro aF Z;have au:=Z.eq;have f32:=Z.lt;conv=>cbv
 intro aG a1;conv=>cbv
 have a1:=wrap_u64 a1;intro aH a2;conv=>cbv
 have a2:=wrap_u64 a2;intro N r;conv=>cbv
 have r:=wrap_u32 r;refine AI ?_;intro A a6;conv=>cbv
 obtain⟨j,f⟩:=CO (n:=N) (by omega);have R:=f.eq;have S:=f.lt;refine⟨j,fun _=>⟨by show _<List.length (α:=UInt32) o;(first | omega | (simp;omega)),CN f⟩,?_⟩;intro (g:List UInt32) (d:g=List.set (α:=UInt32) o A j);have T:g.length=o.length:=by rw[d,List.length_set]
 conv=>cbv
 intro h s;conv=>cbv
 refine AI ?_;have s:=EU (p:=9223372036854775808) s rfl;intro O a8;conv=>cbv
 refine AN ?_;refine⟨l.length-(i'+1),?_,?_⟩
 ·omega
 rw[B];refine⟨g,n,h.toNat,i'+1,h,L,O,rfl,rfl,⟨by rw[d,List.length_set];exact ho,by rw[d,List.length_set];exact hn,hL,⟨by omega⟩,by omega,⟨by omega⟩,by omega⟩,?_,rfl⟩;have hs:=LI (w:=j) (o:=o) (i:=i') (xi:=Q.toNat) (yi:=a7.toNat) (Ga:=C) (Gb:=h.toNat) (by omega) hinv (by omega);rw[d,show A=i' by omega,Ck v,<-hs,Ck F]
theorem oC (hl:l=AQ a) (hm:m=AQ b) (hz:z=AQ (a*b)) (sl:l.length<=17592186044416) (sm:m.length<=17592186044416):CF 385 [.one (.sl .u32 l),.one (.sl .u32 m)] (.one (.sl .u32 z)):=by
 refine AJ Tryz.func385 fun E hE=>?_
 conv=>cbv
 rintro n12 ⟨e12,f12⟩;conv=>cbv
 intro n13 h13;conv=>cbv
 cases n13 <;> conv=>cbv
 ·have k13:=Ao h13;rintro n16 ⟨e16,f16⟩;conv=>cbv
  intro n17 h17;conv=>cbv
  cases n17 <;> conv=>cbv
  ·have k17:=Ao h17;rintro n20 ⟨e20,f20⟩;conv=>cbv
   rintro n22 ⟨e22,f22⟩;conv=>cbv
   intro n23 h23;conv=>cbv
   refine AN ?_;refine⟨fun _=>⟨by omega,by omega,by show _*4<=140737488355328;omega⟩,?_⟩;intro k24 (l24:List UInt32) ql24;have hk24:=ql24.1;have hl24:l24=List.replicate k24 (0:el .u32):=ql24.2;have gl24:l24.length=k24:=by rw[hl24,List.length_replicate]
   conv=>cbv
   intro n26 h26;have e26:=h26.eq;have f26:=h26.le;conv=>cbv
   refine .inr ?_
   obtain⟨J0,hJ0⟩:∃J:List AV->List AM->Nat->Prop,J=fun vs bl k=>∃(o:List UInt32) (n i':Nat) (L i:Int),vs=[.one (.sl .u32 l),.one (.sl .u32 m),.one (.AS .u32 24 0 0 n),.one (.sl .u32 l),.one (.int .i64 L),.one (.int .i64 i)]/\
    bl=[.arr 0 .u32 o]/\(o.length=l.length+m.length/\n=o.length/\DM L l.length/\AW i i'/\i'<=l.length)/\
    AE (o.take (i'+m.length))=AE (l.take i')*AE m/\k=l.length-i':=⟨_,rfl⟩
   refine⟨[],[0,1,5,25,26,27],[24],J0,⟨l.length-0,by rw[hJ0];exact⟨l24,k24,0,n26,0,rfl,rfl,⟨by rw[hl24,List.length_replicate];omega,by rw[hl24,List.length_replicate],h26,Bb 0,by omega⟩,by rw[hl24,List.take_replicate,It];simp[AE],rfl⟩⟩,?_⟩;intro vs bl kk0 hj;rw[hJ0] at hj;obtain⟨o,n,i',L,i,rfl,rfl,⟨ho,hn,hL,hi,hiL⟩,hinv,hk0⟩:=hj;conv=>cbv
   have eL:=hL.eq;have ei:=hi.eq;intro n28 h28;conv=>cbv
   cases n28 <;> conv=>cbv
   ·have k28:=BB h28;have hnl74:n<=(o).length:=by omega
    obtain⟨m74,hm74⟩:=xN ((CM ((o).take n)).length);obtain⟨hle74,htk74⟩:=E0 hnl74 hm74;refine .inr (.inr (.inl ⟨[],.one (.AS .u32 0 0 0 m74),.arr 0 .u32 o,fun _=>⟨by first | decide | simp[Cb,Ci],trivial⟩,fun _=>⟨EG hE (Ll hnl74 (by omega) hm74),rfl,rfl⟩,?_⟩));try conv=>cbv
    have hfin:AE (o.take n)=a*b:=by rw[show i'=l.length by omega,List.take_length,hl,hm,BS,BS,<-hl,<-hm,<-ho,List.take_length] at hinv;rw[hn,List.take_length,hinv]
    exact AD ⟨⟨rfl,.inl ⟨_,rfl,by omega,congrArg _ (by rw[List.drop_zero,htk74,hfin,hz])⟩,trivial⟩,trivial⟩
   have k28:=BC h28;refine .inr ?_;obtain⟨x30,hx30⟩:=AP (l:=l) (i:=i') (by omega);refine⟨x30,fun _=>⟨by omega,by rw[show (i).toNat=i' by omega];exact hx30⟩,?_⟩;try conv=>cbv
   intro n31 h31;have e31:=h31.eq;have f31:=h31.lt;conv=>cbv
   intro n33 h33;have e33:=h33.eq;have f33:=h33.le;conv=>cbv
   refine .inr ?_
   obtain⟨J1,hJ1⟩:∃J:List AV->List AM->Nat->Prop,J=fun vs bl k=>∃(o1:List UInt32) (n1 c' k':Nat) (c L1 i1:Int),vs=[.one (.sl .u32 l),.one (.sl .u32 m),.one (.AS .u32 24 0 0 n1),.one (.int .i64 i),.one (.int .u32 n31),.one (.int .u64 c),.one (.sl .u32 l),.one (.int .i64 L),.one (.int .i64 i),.one (.sl .u32 m),.one (.int .i64 L1),.one (.int .i64 i1)]/\
    bl=[.arr 0 .u32 o1]/\(o1.length=l.length+m.length/\n1=o1.length/\DM L1 m.length/\AW i1 k'/\k'<=m.length/\AW c c'/\c'<4294967296)/\
    AE (o1.take (i'+m.length))+2^(32*(i'+k'))*c'=AE (l.take i')*AE m+x30.toNat*2^(32*i')*AE (m.take k')/\k=m.length-k':=⟨_,rfl⟩
   refine⟨[],[0,1,5,6,7,8,25,26,27,32,33,34],[24],J1,⟨m.length-0,by rw[hJ1];exact⟨o,n,0,0,0,n33,0,rfl,rfl,⟨ho,hn,h33,Bb 0,by omega,Bb 0,by omega⟩,by rw[hinv];simp[AE],rfl⟩⟩,?_⟩;intro vs bl kk1 hj;rw[hJ1] at hj;obtain⟨o1,n1,c',k',c,L1,i1,rfl,rfl,⟨ho1,hn1,hL1,hi1,hiL1,hc,hc1⟩,hinv1,hk1⟩:=hj;conv=>cbv
   have eL1:=hL1.eq;have ei1:=hi1.eq;have ec:=hc.eq;intro n35 h35;conv=>cbv
   cases n35 <;> conv=>cbv
   ·have k35:=BB h35;rintro n67 ⟨e67,f67⟩;conv=>cbv
    intro n68 h68;conv=>cbv
    refine AN ?_;intro n70 h70;conv=>cbv
    have h70:=wrap_u32 h70;refine AI ?_;intro j71 hj71;conv=>cbv
    obtain⟨w71,hw71⟩:=CO (n:=n70) (by omega);have ew71:=hw71.eq;have fw71:=hw71.lt;refine⟨w71,fun _=>⟨by show _<List.length (α:=UInt32) o1;(first | omega | (simp;omega)),CN hw71⟩,?_⟩;intro (l71:List UInt32) (hl71:l71=List.set (α:=UInt32) o1 j71 w71);have gl71:l71.length=o1.length:=by rw[hl71,List.length_set]
    conv=>cbv
    intro n72 h72;conv=>cbv
    refine AN ?_;refine⟨l.length-(i'+1),?_,?_⟩
    ·omega
    rw[hJ0];refine⟨l71,n1,i'+1,L,n72,rfl,rfl,⟨by rw[hl71,List.length_set];exact ho1,by rw[hl71,List.length_set];exact hn1,hL,⟨by omega⟩,by omega⟩,?_,rfl⟩;have hk:k'=m.length:=by omega
    have hlen:i'+m.length<o1.length:=by omega
    rw[hl71,show i'+1+m.length=i'+m.length+1 by omega,show j71=i'+m.length by omega,Fi hlen,EN,List.length_take,Nat.min_eq_left (by omega),show w71.toNat=c' by omega];rw[hk] at hinv1;rw[hinv1,List.take_length,Ck hx30]
    grind
   have k35:=BC h35;refine .inr ?_;obtain⟨x37,hx37⟩:=AP (l:=m) (i:=k') (by omega);refine⟨x37,fun _=>⟨by omega,by rw[show (i1).toNat=k' by omega];exact hx37⟩,?_⟩;try conv=>cbv
   intro n38 h38;have e38:=h38.eq;have f38:=h38.lt;conv=>cbv
   intro n41 h41;conv=>cbv
   have h41:=wrap_u64 h41;intro n43 h43;conv=>cbv
   have h43:=wrap_u64 h43;have ep:n41*n43=((x30.toNat*x37.toNat:Nat):Int):=by rw[Int.natCast_mul];congr 1 <;> omega
   have bp:x30.toNat*x37.toNat<=4294967295*4294967295:=Nat.mul_le_mul (by omega) (by omega);intro n44 h44;conv=>cbv
   have h44:=wrap_u64 h44;intro n48 h48;conv=>cbv
   refine AN ?_;refine AI ?_;intro j49 hj49;conv=>cbv
   obtain⟨x50,hx50⟩:=AP (l:=o1) (i:=j49) (by omega);refine⟨x50,fun _=>hx50,?_⟩;try conv=>cbv
   intro n50 h50;have e50:=h50.eq;have f50:=h50.lt;conv=>cbv
   intro ED h51;conv=>cbv
   have h51:=wrap_u64 h51;intro n52 h52;conv=>cbv
   have h52:=wrap_u64 h52;intro Dk h53;conv=>cbv
   have h53:=wrap_u64 h53;intro n57 h57;conv=>cbv
   refine AN ?_;intro n59 h59;conv=>cbv
   have h59:=wrap_u32 h59;refine AI ?_;intro j60 hj60;conv=>cbv
   obtain⟨w60,hw60⟩:=CO (n:=n59) (by omega);have ew60:=hw60.eq;have fw60:=hw60.lt;refine⟨w60,fun _=>⟨by show _<List.length (α:=UInt32) o1;(first | omega | (simp;omega)),CN hw60⟩,?_⟩;intro (l60:List UInt32) (hl60:l60=List.set (α:=UInt32) o1 j60 w60);have gl60:l60.length=o1.length:=by rw[hl60,List.length_set]
   conv=>cbv
   intro n62 h62;conv=>cbv
   refine AI ?_;have h62:=EU (p:=4294967296) h62 rfl;intro n63 h63;conv=>cbv
   refine AN ?_;refine⟨m.length-(k'+1),?_,?_⟩
   ·omega
   rw[hJ1];refine⟨l60,n1,n62.toNat,k'+1,n62,L1,n63,rfl,rfl,⟨by rw[hl60,List.length_set];exact ho1,by rw[hl60,List.length_set];exact hn1,hL1,⟨by omega⟩,by omega,⟨by omega⟩,by omega⟩,?_,rfl⟩;have hj:j60=i'+k':=by omega
   have hj2:j49=i'+k':=by omega
   rw[hj2] at hx50;rw[hl60,hj,Ck hx37,show i'+(k'+1)=i'+k'+1 by omega];refine TH (q:=x50) (xi:=x30.toNat) (yk:=x37.toNat) (old:=x50.toNat) (c:=c') rfl (by omega) hx50 rfl hinv1 ?_ rfl;rw[ep] at h44;omega
  have k17:=BA h17;have h0:b=0:=F4.1 (by rw[<-hm];exact List.length_eq_zero_iff.1 (by omega));exact AD ⟨⟨rfl,.inr (.inl ⟨_,congrArg _ (by rw[hz,h0];rfl)⟩),trivial⟩,trivial⟩
 have k13:=BA h13;have h0:a=0:=F4.1 (by rw[<-hl];exact List.length_eq_zero_iff.1 (by have k13:=BA h13;omega));exact AD ⟨⟨rfl,.inr (.inl ⟨_,congrArg _ (by rw[hz,h0,Nat.zero_mul];rfl)⟩),trivial⟩,trivial⟩
end Go.Abs
namespace Go.Abs
open Go.RowKit
variable {b b1 b2 b3 c:Bool} {l l1 l2 l3 z:List UInt32} {x y:Int}
theorem oY {i:Nat} {x:UInt32} {n:Int} (g:l[i]? =some x) (h:i+1=l.length) (f:n=x.toNat):Hx b l=(n !=0):=by
 have d:l.getLast? =some x:=by rw[List.getLast?_eq_getElem?,<-g];congr 1;omega
 unfold Hx;rw[d,f]
 show (x !=0)=_
 rw[Bool.eq_iff_iff];simp only[bne_iff_ne,ne_eq];rw[<-UInt32.toNat_inj]
 show ¬x.toNat=0↔_
 omega
theorem bx (t:x=if b=true then -(AE l:Int) else AE l) (s:l.length<=17592186044416) (o:As x c z):CF 391 [.agg (Bg b l)] (.agg (Bg c z)):=by
 refine AJ Tryz.func391 fun E h=>?_
 conv=>cbv
 obtain⟨u,d⟩:=xU (AQ (AE l));refine AB h (FA rfl d) ?_;conv=>cbv
 obtain⟨v,g⟩:=xU u;refine AB (r:= .one (.sl .u32 v)) h (KX g (by rw[d,<-NT];exact Nat.le_trans (TJ l) s)) ?_;try conv=>cbv
 obtain⟨j,k,f⟩:=Al (x);refine AB (r:= .agg [.bool j,.sl .u32 k]) h (Fu (by rw[g,d,BS];exact t) f) ?_;try conv=>cbv
 refine g2 rfl ?_;exact AD ⟨⟨rfl,congrArg _ ((f.uniq o rfl).1.symm),congrArg _ ((f.uniq o rfl).2.symm),trivial⟩,trivial⟩
theorem UL (o:As x b l) (u:l.length<=17592186044416) (s:As (-x) c z):CF 390 [.agg (Bg b l)] (.agg (Bg c z)):=by
 refine AJ Tryz.func390 fun E k=>?_
 conv=>cbv
 intro B t;conv=>cbv
 obtain⟨v,f⟩:=xU (AQ (AE l));refine AB k (FA rfl f) ?_;conv=>cbv
 have t8:v=l:=by rw[f];exact o.trim
 obtain⟨A,g⟩:=xU l;refine AB (r:= .one (.sl .u32 A)) k (KX (g.trans t8.symm) (by rw[t8];exact u)) ?_;try conv=>cbv
 obtain⟨h,j,d⟩:=Al (-x);refine AB (r:= .agg [.bool h,.sl .u32 j]) k (Fu (by rw[g,t];exact Zu o.ET) d) ?_;try conv=>cbv
 refine g2 rfl ?_;exact AD ⟨⟨rfl,congrArg _ ((d.uniq s rfl).1.symm),congrArg _ ((d.uniq s rfl).2.symm),trivial⟩,trivial⟩
theorem ch {c:Int} (j:x=if b=true then -(AE l:Int) else AE l) (hc:c=CZ x):CF 316 [.agg (Bg b l)] (.one (.int .i64 c)):=by
 refine AJ Tryz.func316 fun E k=>?_
 conv=>cbv
 refine .inr ?_;obtain⟨t,d⟩:=xU (AQ (AE l));refine AB k (FA rfl d) ?_;conv=>cbv
 rintro s ⟨f,f7⟩;conv=>cbv
 intro r h;conv=>cbv
 cases r <;> conv=>cbv
 ·have o:=Ao h;cases b <;> conv=>cbv
  ·have g:AE l≠0:=fun e=>by rw[d,e] at f;exact (Ao h) f
   exact AD ⟨⟨rfl,congrArg _ (by rw[hc,PS j g];rfl),trivial⟩,trivial⟩
  have g:AE l≠0:=fun e=>by rw[d,e] at f;exact (Ao h) f
  exact AD ⟨⟨rfl,congrArg _ (by rw[hc,PS j g];rfl),trivial⟩,trivial⟩
 have o:=BA h;have g:AE l=0:=by rw[d] at f;exact F4.1 (List.length_eq_zero_iff.1 (by omega))
 exact AD ⟨⟨rfl,congrArg _ (by rw[hc,j,g];unfold CZ;simp),trivial⟩,trivial⟩
theorem Ly {c:Int} (d:As x b l) (hc:c=CZ x):CF 316 [.agg (Bg b l)] (.one (.int .i64 c)):=ch d.ET hc
theorem UN (f:As x b l) (d:l.length<=17592186044416) (g:As x c z):CF 391 [.agg (Bg b l)] (.agg (Bg c z)):=bx f.ET d g
theorem UD {c:Int} (u:As x b1 l1) (v:As y b2 l2) (hc:c=Bw x y):CF 356 [.agg (Bg b1 l1),.agg (Bg b2 l2)] (.one (.int .i64 c)):=by
 refine AJ Tryz.func356 fun E r=>?_
 conv=>cbv
 obtain⟨I,f⟩:=xI (CZ x);refine AB r (Ly u f) ?_;conv=>cbv
 obtain⟨B,d⟩:=xI (CZ y);refine AB r (Ly v d) ?_;conv=>cbv
 refine g2 rfl ?_;intro A s;conv=>cbv
 cases A <;> conv=>cbv
 ·have o:=C8 s;obtain⟨C,j⟩:=xU (AQ (AE l1));refine AB r (FA rfl j) ?_;conv=>cbv
  have t20:C=l1:=by rw[j];exact u.trim
  obtain⟨D,k⟩:=xU (AQ (AE l2));refine AB r (FA rfl k) ?_;conv=>cbv
  have t23:D=l2:=by rw[k];exact v.trim
  obtain⟨H,g⟩:=xI (Bw x.natAbs y.natAbs);refine AB r (OB (t20.trans u.Bh) (t23.trans v.Bh) g) ?_;conv=>cbv
  intro F t;conv=>cbv
  refine⟨fun _=>by rw[t,f,g];exact mz _ _ _,?_⟩;refine g2 rfl ?_;exact AD ⟨⟨rfl,congrArg _ (by rw[hc,t,f,g];exact gE (by rw[<-f,<-d];exact o)),trivial⟩,trivial⟩
 have o:=DA s;obtain⟨G,h⟩:=xI (Bw I B);refine AB r (UE h) ?_;conv=>cbv
 exact AD ⟨⟨rfl,congrArg _ (by rw[hc,h,f,d];exact gD (by rw[<-f,<-d];exact o)),trivial⟩,trivial⟩
theorem Pg (A:As x b1 l1) (B:As y b2 l2) (C:As (x+y) b3 l3) (s1:l1.length<=17592186044416) (s2:l2.length<=17592186044416):CF 382 [.agg (Bg b1 l1),.agg (Bg b2 l2)] (.agg (Bg b3 l3)):=by
 refine AJ Tryz.func382 fun E k=>?_
 conv=>cbv
 obtain⟨U,G⟩:=xU (AQ (AE l1));refine AB k (FA rfl G) ?_;conv=>cbv
 have t9:U=l1:=by rw[G];exact A.trim
 obtain⟨P,s⟩:=xU (AQ (AE l2));refine AB k (FA rfl s) ?_;conv=>cbv
 have t12:P=l2:=by rw[s];exact B.trim
 refine g2 rfl ?_;intro N D;conv=>cbv
 cases N <;> conv=>cbv
 ·have o:=Vg D;obtain⟨T,f⟩:=xI (Bw x.natAbs y.natAbs);refine AB k (OB (t9.trans A.Bh) (t12.trans B.Bh) f) ?_;conv=>cbv
  intro O F;conv=>cbv
  cases O <;> conv=>cbv
  ·have d:=BB F;obtain⟨S,v⟩:=xU (AQ (x.natAbs-y.natAbs));refine AB (r:= .one (.sl .u32 S)) k (Rh (t9.trans A.Bh) (t12.trans B.Bh) v (by rw[f] at d;have:=JJ d;omega) (by rw[t9];exact s1)) ?_;try conv=>cbv
   obtain⟨J,M,j⟩:=Al (x+y);refine AB (r:= .agg [.bool J,.sl .u32 M]) k (Fu (by rw[v,BS,Int.add_comm];rw[f] at d;exact Nt B.neg A.neg (Ne.symm o) (by have:=JJ d;omega)) j) ?_;try conv=>cbv
   refine g2 rfl ?_;exact AD ⟨⟨rfl,congrArg _ ((j.uniq C rfl).1.symm),congrArg _ ((j.uniq C rfl).2.symm),trivial⟩,trivial⟩
  have d:=BC F;obtain⟨R,u⟩:=xU (AQ (y.natAbs-x.natAbs));refine AB (r:= .one (.sl .u32 R)) k (Rh (t12.trans B.Bh) (t9.trans A.Bh) u (by rw[f] at d;have:=JK d;omega) (by rw[t12];exact s2)) ?_;try conv=>cbv
  obtain⟨I,L,h⟩:=Al (x+y);refine AB (r:= .agg [.bool I,.sl .u32 L]) k (Fu (by rw[u,BS];rw[f] at d;exact Nt A.neg B.neg o (by have:=JK d;omega)) h) ?_;try conv=>cbv
  refine g2 rfl ?_;exact AD ⟨⟨rfl,congrArg _ ((h.uniq C rfl).1.symm),congrArg _ ((h.uniq C rfl).2.symm),trivial⟩,trivial⟩
 have o:=Vh D;obtain⟨Q,t⟩:=xU (AQ (x.natAbs+y.natAbs));refine AB (r:= .one (.sl .u32 Q)) k (Yn (t9.trans A.Bh) (t12.trans B.Bh) t (by rw[t9];exact s1) (by rw[t12];exact s2)) ?_;try conv=>cbv
 obtain⟨H,K,g⟩:=Al (x+y);refine AB (r:= .agg [.bool H,.sl .u32 K]) k (Fu (by rw[t,BS];exact add_same A.neg (o.trans B.neg)) g) ?_;try conv=>cbv
 refine g2 rfl ?_;exact AD ⟨⟨rfl,congrArg _ ((g.uniq C rfl).1.symm),congrArg _ ((g.uniq C rfl).2.symm),trivial⟩,trivial⟩
theorem Fy (s:As x b1 l1) (t:As y b2 l2) (B:As (x*y) b3 l3) (s1:l1.length<=17592186044416) (s2:l2.length<=17592186044416):CF 357 [.agg (Bg b1 l1),.agg (Bg b2 l2)] (.agg (Bg b3 l3)):=by
 refine AJ Tryz.func357 fun E o=>?_
 conv=>cbv
 intro D C;conv=>cbv
 obtain⟨u,f⟩:=xU (AQ (AE l1));refine AB o (FA rfl f) ?_;conv=>cbv
 have t12:u=l1:=by rw[f];exact s.trim
 obtain⟨v,g⟩:=xU (AQ (AE l2));refine AB o (FA rfl g) ?_;conv=>cbv
 have t15:v=l2:=by rw[g];exact t.trim
 obtain⟨A,h⟩:=xU (AQ (x.natAbs*y.natAbs));refine AB (r:= .one (.sl .u32 A)) o (oC (t12.trans s.Bh) (t15.trans t.Bh) h (by rw[t12];exact s1) (by rw[t15];exact s2)) ?_;try conv=>cbv
 obtain⟨j,k,d⟩:=Al (x*y);refine AB (r:= .agg [.bool j,.sl .u32 k]) o (Fu (by rw[h,BS,C];exact X9 s.neg t.neg) d) ?_;try conv=>cbv
 refine g2 rfl ?_;exact AD ⟨⟨rfl,congrArg _ ((d.uniq B rfl).1.symm),congrArg _ ((d.uniq B rfl).2.symm),trivial⟩,trivial⟩
theorem UY (hc:c=Hx b l):CF 366 [.agg (Bg b l)] (.one (.bool c)):=by
 refine AJ Tryz.func366 fun E I=>?_
 conv=>cbv
 rintro J ⟨H,f6⟩;conv=>cbv
 intro G D;conv=>cbv
 cases G <;> conv=>cbv
 ·have F:=Ao D;intro k f;conv=>cbv
  cases k <;> conv=>cbv
  ·have j:=Cg f
   exfalso;omega
  have j:=Ch f;intro o v;conv=>cbv
  refine AN ?_;obtain⟨r,d⟩:=AP (l:=l) (i:=(o).toNat) (by omega);refine⟨r,fun _=>⟨by omega,d⟩,?_⟩;try conv=>cbv
  intro B g;have s:=g.eq;have f23:=g.lt;conv=>cbv
  intro C u;conv=>cbv
  exact AD ⟨⟨rfl,congrArg _ (by rw[hc,u];exact oY d (by omega) s),trivial⟩,trivial⟩
 have F:=BA D;intro A t;conv=>cbv
 cases A <;> conv=>cbv
 ·have h:=DW t;intro k f;conv=>cbv
  cases k <;> conv=>cbv
  ·have j:=Cg f;exact AD ⟨⟨rfl,congrArg _ (by rw[hc,List.eq_nil_of_length_eq_zero (by omega:l.length=0),h];rfl),trivial⟩,trivial⟩
  have j:=Ch f;intro o v;conv=>cbv
  refine AN ?_;obtain⟨r,d⟩:=AP (l:=l) (i:=(o).toNat) (by omega);refine⟨r,fun _=>⟨by omega,d⟩,?_⟩;try conv=>cbv
  intro B g;have s:=g.eq;have f23:=g.lt;conv=>cbv
  intro C u;conv=>cbv
  exfalso;omega
 have h:=DX t;exact AD ⟨⟨rfl,congrArg _ (by rw[hc,List.eq_nil_of_length_eq_zero (by omega:l.length=0),h];rfl),trivial⟩,trivial⟩
end Go.Abs
namespace Go.Abs
open Go.RowKit
variable {a b n:Int} {e p q:Nat}
theorem Sz (h:n=IntKind.u64.wrap (a*2^min b.toNat IntKind.u64.bits)) (ha:a=p) (hb:b=e) (he:e<=64:=by omega):n=((p*2^e%18446744073709551616:Nat):Int):=by
 have d:min b.toNat IntKind.u64.bits=e:=by rw[hb];show min e 64=e;omega
 have f:=wrap_u64 h;rw[f,d,ha];simp
theorem Sy (h:n=IntKind.u32.wrap (a*2^min b.toNat IntKind.u32.bits)) (ha:a=p) (hb:b=e) (he:e<=32:=by omega):n=((p*2^e%4294967296:Nat):Int):=by
 have d:min b.toNat IntKind.u32.bits=e:=by rw[hb];show min e 32=e;omega
 have f:=wrap_u32 h;rw[f,d,ha];simp
theorem shr_var {m:Nat} (h:n=a.fdiv (2^min b.toNat m)) (ha:a=p) (hb:b=e) (he:e<=m):n=((p/2^e:Nat):Int):=by
 have d:min b.toNat m=e:=by rw[hb];simp;omega
 rw[h,d,ha,Int.fdiv_eq_ediv_of_nonneg _ (by have:=Int.pow_pos (n:=2) (m:=e) (by decide);omega)];simp
theorem O5 (h:n=IntKind.u32.wrap (BitVec.ofInt IntKind.u32.bits a ||| BitVec.ofInt IntKind.u32.bits b).toNat) (ha:a=p) (hb:b=q) (g:p<4294967296) (j:q<4294967296):n=((p ||| q:Nat):Int):=by
 have f:=wrap_u32 h;rw[f,ha,hb]
 have d:(BitVec.ofInt IntKind.u32.bits (p:Int) ||| BitVec.ofInt IntKind.u32.bits (q:Int)).toNat=p ||| q:=by
  rw[BitVec.toNat_or,BitVec.toNat_ofInt,BitVec.toNat_ofInt]
  show ((p:Int)%4294967296).toNat ||| ((q:Int)%4294967296).toNat=_
  congr 1 <;> omega
 rw[d];have:p ||| q<2^32:=Nat.or_lt_two_pow g j
 omega
theorem Yh (h:n=IntKind.u64.wrap (BitVec.ofInt IntKind.u64.bits a ||| BitVec.ofInt IntKind.u64.bits b).toNat) (ha:a=p) (hb:b=q) (g:p<18446744073709551616) (j:q<18446744073709551616):n=((p ||| q:Nat):Int):=by
 have f:=wrap_u64 h;rw[f,ha,hb]
 have d:(BitVec.ofInt IntKind.u64.bits (p:Int) ||| BitVec.ofInt IntKind.u64.bits (q:Int)).toNat=p ||| q:=by
  rw[BitVec.toNat_or,BitVec.toNat_ofInt,BitVec.toNat_ofInt]
  show ((p:Int)%18446744073709551616).toNat ||| ((q:Int)%18446744073709551616).toNat=_
  congr 1 <;> omega
 rw[d];have:p ||| q<2^64:=Nat.or_lt_two_pow g j
 omega
theorem KH (h:n=IntKind.u64.wrap (BitVec.ofInt IntKind.u64.bits a ||| BitVec.ofInt IntKind.u64.bits b).toNat) (ha:a=((p*4294967296:Nat):Int)) (hb:b=q) (g:p<4294967296) (f:q<4294967296):n=((q+4294967296*p:Nat):Int):=by
 rw[Yh h ha hb (by omega) (by omega),Nat.or_comm,Nat.mul_comm];have:=LN (a:=q) (b:=p) (d:=32) f;exact congrArg _ this
end Go.Abs
