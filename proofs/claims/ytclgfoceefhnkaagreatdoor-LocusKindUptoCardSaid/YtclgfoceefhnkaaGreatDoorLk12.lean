/- Part 13 of a proof. Conditions: each theorem's own. -/
import Derived.Test.YtclgfoceefhnkaaGreatDoorLk11
set_option linter.all false
set_option maxHeartbeats 80000000
set_option maxRecDepth 20000
open Go.Proofs
namespace Go.Abs
def Ek (k i:Nat):Bool:=k/2^i%2==1
def CW (i:Nat):Nat->List Rat->Bool
 | _,[]=>false
 | k,q::l=>(Ek k i&&q !=0)||CW i (k+1) l
def BS (i:Nat):Nat->List Rat->List Rat
 | _,[]=>[]
 | k,q::l=>if Ek k i=true then BS i (k+1) l else q::BS i (k+1) l
variable {w:List (List Rat)} {x:Re}
theorem O7 (i:Nat):∀(k:Nat) (a b:List Rat),CW i k (a++b)=(CW i k a||CW i (k+a.length) b)
 | k,[],b=>by simp[CW]
 | k,q::a,b=>by
  rw[List.cons_append,CW,CW,O7 i (k+1) a b,List.length_cons,Bool.or_assoc,show k+1+a.length=k+(a.length+1) by omega]
theorem ND (i:Nat):∀(k:Nat) (a b:List Rat),BS i k (a++b)=BS i k a++BS i (k+a.length) b
 | k,[],b=>by simp[BS]
 | k,q::a,b=>by
  rw[List.cons_append,BS,BS,ND i (k+1) a b,List.length_cons,show k+1+a.length=k+(a.length+1) by omega]
  split <;> simp
theorem SC (k i c:Nat):Ek (k+2^(i+1)*c) i=Ek k i:=by
 unfold Ek;rw[Nat.pow_succ,Nat.mul_assoc,Nat.add_mul_div_left _ _ (Nat.two_pow_pos i),Nat.add_mul_mod_self_left]
theorem U2 (i c:Nat):∀(k:Nat) (l:List Rat),CW i (k+2^(i+1)*c) l=CW i k l
 | _,[]=>rfl
 | k,q::l=>by
  rw[CW,CW,SC,show k+2^(i+1)*c+1=k+1+2^(i+1)*c by omega,U2 i c (k+1) l]
theorem XK (i c:Nat):∀(k:Nat) (l:List Rat),BS i (k+2^(i+1)*c) l=BS i k l
 | _,[]=>rfl
 | k,q::l=>by
  rw[BS,BS,SC,show k+2^(i+1)*c+1=k+1+2^(i+1)*c by omega,XK i c (k+1) l]
theorem Z0 {k i:Nat} (h:k<2^i):Ek k i=false:=by unfold Ek;rw[Nat.div_eq_of_lt h];rfl
theorem SA {k i:Nat} (h:2^i<=k) (d:k<2^i+2^i):Ek k i=true:=by
 unfold Ek
 have:k/2^i=1:=by
  rw[Nat.div_eq_iff (Nat.two_pow_pos i)];omega
 rw[this];rfl
theorem XJ (i:Nat):∀(k:Nat) (l:List Rat),k+l.length<=2^i->BS i k l=l
 | _,[],_=>rfl
 | k,q::l,h=>by
  rw[List.length_cons] at h;rw[BS,Z0 (by omega),XJ i (k+1) l (by omega)];rfl
theorem XH (i:Nat):∀(k:Nat) (l:List Rat),2^i<=k->k+l.length<=2^i+2^i->BS i k l=[]
 | _,[],_,_=>rfl
 | k,q::l,h,d=>by
  rw[List.length_cons] at d;rw[BS,SA h (by omega),XH i (k+1) l (by omega) (by omega)];rfl
theorem U1 (i:Nat):∀(k:Nat) (l:List Rat),2^i<=k->k+l.length<=2^i+2^i->CW i k l=false->∀q∈l,q=0
 | _,[],_,_,_=>by simp
 | k,q::l,h,g,d=>by
  rw[List.length_cons] at g;rw[CW,SA h (by omega)] at d;simp only[Bool.true_and,Bool.or_eq_false_iff,bne_eq_false_iff_eq] at d;intro x f;rcases List.mem_cons.1 f with rfl | f
  ·exact d.1
  exact U1 i (k+1) l (by omega) (by omega) d.2 x f
theorem NF (i:Nat):∀(k:Nat) (l:List Rat),∀q∈BS i k l,q∈l
 | _,[],q,h=>h
 | k,x::l,q,h=>by
  rw[BS] at h
  split at h
  ·exact List.mem_cons_of_mem _ (NF i (k+1) l q h)
  rcases List.mem_cons.1 h with rfl | h
  ·exact List.mem_cons_self
  exact List.mem_cons_of_mem _ (NF i (k+1) l q h)
theorem S8 {r:List Rat} {u:List (List Rat)}:∀{v:List (List Rat)},Ag (v++r::u)->(∀s∈v,CW u.length 0 s=false)->
  Ag (v.map (BS u.length 0)++u)/\Bb (v.map (BS u.length 0)++u) (v++r::u)/\(∀x∈Bu (v.map (BS u.length 0)++u),x∈Bu (v++r::u))/\
  ∀{x:Re},In (v++r::u) x->CW u.length 0 (co (v++r::u) x)=false->In (v.map (BS u.length 0)++u) x/\co (v.map (BS u.length 0)++u) x=BS u.length 0 (co (v++r::u) x)
 | [],h,_=>by
  refine⟨h.1,fun x d=>G9 d,fun x d=>List.mem_cons_of_mem _ d,fun {x} d B=>?_⟩;obtain⟨p,q,o,A,rfl⟩:=Cd.1 d;have e:=DX h o A rfl;have C:=Cz o;have P:=Cz A;simp only[List.nil_append,List.map_nil] at*;rw[e,O7,C,Nat.zero_add,Bool.or_eq_false_iff] at B;have F:q=0:=(KE h.1 A).1 (U1 _ _ _ (Nat.le_refl _) (by omega) B.2);subst F;have ex:p+0*rt u r=p:=by grind
  rw[e,ND,C,Nat.zero_add,XJ _ _ _ (by omega),XH _ _ _ (Nat.le_refl _) (by omega),List.append_nil,ex];exact⟨o,rfl⟩
 | s::v,h,B=>by
  have h:Ag (s::(v++r::u)):=h;obtain⟨L,I,M,D⟩:=S8 (v:=v) h.1 (fun t ht=>B t (List.mem_cons_of_mem _ ht));have G:=B s List.mem_cons_self;have H:In (v++r::u) (AP (v++r::u) s):=CQ h
  show Ag (BS u.length 0 s::(v.map (BS u.length 0)++u))/\Bb (BS u.length 0 s::(v.map (BS u.length 0)++u)) (s::(v++r::u))/\(∀x∈Bu (BS u.length 0 s::(v.map (BS u.length 0)++u)),x∈Bu (s::(v++r::u)))/\
   ∀{x:Re},In (s::(v++r::u)) x->CW u.length 0 (co (s::(v++r::u)) x)=false->In (BS u.length 0 s::(v.map (BS u.length 0)++u)) x/\co (BS u.length 0 s::(v.map (BS u.length 0)++u)) x=BS u.length 0 (co (s::(v++r::u)) x)
  have cs:co (v++r::u) (AP (v++r::u) s)=s:=FW h;obtain⟨k1,k2⟩:=D H (by rw[cs];exact G);rw[cs] at k2;have f:AP (v.map (BS u.length 0)++u) (BS u.length 0 s)=AP (v++r::u) s:=by rw[<-k2,EY k1]
  have j:Ag (BS u.length 0 s::(v.map (BS u.length 0)++u)):=by
   refine⟨L,by rw[<-k2];exact Cz k1,by rw[f];exact h.2.2.1,?_⟩;rw[f]
   rintro⟨w,hw,e⟩
   exact h.2.2.2 ⟨w,I w hw,e⟩
  have g:rt (v.map (BS u.length 0)++u) (BS u.length 0 s)=rt (v++r::u) s:=by rw[rt,rt,f]
  have hlen:2^(v++r::u).length=2^(u.length+1)*2^v.length:=by rw[<-Nat.pow_add];congr 1;simp;omega
  refine⟨j,OD h (I.trans fun x d=>G9 d) (by rw[g];exact Ix _ _),fun x d=>?_,fun {x} d k=>?_⟩
  ·rcases List.mem_cons.1 d with rfl | d
   ·exact List.mem_cons.2 (.inl f)
   exact List.mem_cons_of_mem _ (M x d)
  obtain⟨p,q,o,A,rfl⟩:=Cd.1 d;have e:=DX h o A rfl;have C:=Cz o;rw[e,O7,C,hlen,U2,Bool.or_eq_false_iff] at k;obtain⟨J,N⟩:=D o k.1;obtain⟨K,O⟩:=D A k.2;rw[<-g];refine⟨Cd.2 ⟨p,q,J,K,rfl⟩,?_⟩;rw[g,e,ND,C,hlen,XK,<-N,<-O,<-g];exact DX j J K rfl
def Ja (i:Nat) (s:List (List Rat)×List Rat):List (List Rat)×List Rat:=
 if (CW i 0 s.2||(s.1.drop (i+1)).any (CW i 0))=true then s else (s.1.take i++(s.1.drop (i+1)).map (BS i 0),BS i 0 s.2)
def GL:Nat->List (List Rat)×List Rat->List (List Rat)×List Rat
 | 0,s=>s
 | i+1,s=>GL i (Ja i s)
structure Gp (w:List (List Rat)) (x:Re) (w':List (List Rat)):Prop where
 red:Ag w'
 mem:In w' x
 CG:Bb w' w
 Bu:∀v∈Bu w',v∈Bu w
 len:w'.length<=w.length
 HG:∀s∈w',∃t∈w,∀q∈s,q∈t
 cos:∀q∈co w' x,q∈co w x
theorem Gp.refl (h:Ag w) (f:In w x):Gp w x w:=⟨h,f,Bb.refl w,fun _ h=>h,Nat.le_refl _,fun s d=>⟨s,d,fun _ h=>h⟩,fun _ h=>h⟩
theorem Gp.trans {w' d:List (List Rat)} (h:Gp w x w') (k:Gp w' x d):Gp w x d:=
 ⟨k.red,k.mem,k.CG.trans h.CG,fun v r=>h.Bu v (k.Bu v r),Nat.le_trans k.len h.len,fun s o=>by
  obtain⟨t,ht,f⟩:=k.HG s o;obtain⟨t2,j,g⟩:=h.HG t ht;exact⟨t2,j,fun q u=>g q (f q u)⟩,fun q f=>h.cos q (k.cos q f)⟩
theorem W1 {i:Nat} (h:Ag w) (k:In w x) (F:i<w.length):∃w',Ja i (w.reverse,co w x)=(w'.reverse,co w' x)/\Gp w x w'/\i<=w'.length:=by
 unfold Ja
 split
 ·exact⟨w,rfl,.refl h k,by omega⟩
 rename_i j
 obtain⟨v,r,u,rfl,rfl⟩:∃v r u,w=v++r::u/\i=u.length:=by
  refine⟨w.take (w.length-1-i),w[w.length-1-i]'(by omega),w.drop (w.length-1-i+1),?_,by rw[List.length_drop];omega⟩;rw[<-List.drop_eq_getElem_cons,List.take_append_drop]
 have d:(v++r::u).reverse=u.reverse++r::v.reverse:=by simp
 have D:(v++r::u).reverse.drop (u.length+1)=v.reverse:=by
  rw[d,show u.reverse++r::v.reverse=(u.reverse++[r])++v.reverse by simp];exact List.drop_left' (by simp)
 have ht:(v++r::u).reverse.take u.length=u.reverse:=by
  rw[d];exact List.take_left' (by simp)
 simp only[D,ht,Bool.not_eq_true,Bool.or_eq_false_iff] at j ⊢
 obtain⟨o,A,B,C⟩:=S8 h (fun s f=>by
  have:=List.any_eq_false.1 j.2 s (List.mem_reverse.2 f);simpa using this)
 obtain⟨k1,k2⟩:=C k j.1;refine⟨v.map (BS u.length 0)++u,?_,⟨o,k1,A,B,by simp,fun s f=>?_,fun q g=>?_⟩,by simp⟩
 ·rw[k2,List.reverse_append,List.map_reverse]
 ·rcases List.mem_append.1 f with f | f
  ·obtain⟨t,ht,rfl⟩:=List.mem_map.1 f;exact⟨t,List.mem_append_left _ ht,fun q g=>NF _ _ _ q g⟩
  exact⟨s,List.mem_append_right _ (List.mem_cons_of_mem _ f),fun _ h=>h⟩
 rw[k2] at g;exact NF _ _ _ q g
theorem P6:∀{i:Nat} {w:List (List Rat)} {x:Re},Ag w->In w x->i<=w.length->∃w',GL i (w.reverse,co w x)=(w'.reverse,co w' x)/\Gp w x w'
 | 0,w,x,h,d,_=>⟨w,rfl,.refl h d⟩
 | i+1,w,x,h,d,g=>by
  obtain⟨k,e1,t1,l1⟩:=W1 h d g;obtain⟨j,f,t2⟩:=P6 t1.red t1.mem l1;exact⟨j,by rw[GL,e1,f],t1.trans t2⟩
end Go.Abs
namespace Go.Abs
open Go.RowKit
variable {a b m n p:Int} {e i:Nat}
theorem LH.lt {x:UInt8} (_:LH n x):x.toNat<256:=x.toNat_lt
theorem Jp.lt {x:UInt32} (_:Jp n x):x.toNat<4294967296:=x.toNat_lt
theorem Ak (k:Nat):AR k k:=⟨rfl⟩
theorem AR.of {k:Nat} (h:n=k):AR n k:=⟨h⟩
theorem AO (h:true=(a==b)):a=b:=by simpa using h.symm
theorem AN (h:false=(a==b)):a≠b:=by simpa using h.symm
theorem BZ (h:true=(a !=b)):a≠b:=by simpa using h.symm
theorem BY (h:false=(a !=b)):a=b:=by simpa using h.symm
theorem AZ (h:true=decide (a<b)):a<b:=by simpa using h.symm
theorem AY (h:false=decide (a<b)):b<=a:=by simpa using h.symm
theorem F5 (h:true=decide (a<=b)):a<=b:=by simpa using h.symm
theorem F4 (h:false=decide (a<=b)):b<a:=by simpa using h.symm
theorem Bg (h:true=decide (a>b)):b<a:=by simpa using h.symm
theorem Bf (h:false=decide (a>b)):a<=b:=by simpa using h.symm
theorem DJ (h:true=decide (a >= b)):b<=a:=by simpa using h.symm
theorem DI (h:false=decide (a >= b)):a<b:=by simpa using h.symm
theorem CO {a:Bool} (h:true= !a):a=false:=by simpa using h.symm
theorem CN {a:Bool} (h:false= !a):a=true:=by simpa using h.symm
theorem Nw {a b:Bool} (h:true=(a==b)):a=b:=by simpa using h.symm
theorem Nv {a b:Bool} (h:false=(a==b)):a≠b:=by simpa using h.symm
theorem Ih {a b:Bool} (h:true=(a !=b)):a≠b:=by simpa using h.symm
theorem Ig {a b:Bool} (h:false=(a !=b)):a=b:=by simpa using h.symm
theorem wrap_u8 (h:n=IntKind.u8.wrap m):n=m%256:=h
theorem wrap_u32 (h:n=IntKind.u32.wrap m):n=m%4294967296:=h
theorem wrap_u64 (h:n=IntKind.u64.wrap m):n=m%18446744073709551616:=h
theorem wrap_i64 (h:n=IntKind.i64.wrap m):n=(m+9223372036854775808)%18446744073709551616-9223372036854775808:=by
 have e:IntKind.i64.wrap m=if (true&&decide (m%18446744073709551616 >= 9223372036854775808))=true then m%18446744073709551616-18446744073709551616 else m%18446744073709551616:=rfl
 rw[h,e]
 split
 ·rename_i d
  simp only[Bool.true_and,decide_eq_true_eq] at d;omega
 rename_i d
 simp only[Bool.true_and,decide_eq_true_eq] at d;omega
theorem Dt (h:n=a.fdiv (2^e)) (d:2^e=p):n=a/p:=by
 rw[h,<-d,Int.fdiv_eq_ediv_of_nonneg _ (by have:=Int.pow_pos (n:=2) (m:=e) (by decide);omega)]
theorem IM (h:n=IntKind.u64.wrap (a*2^e)) (d:2^e=p):n=(a*p)%18446744073709551616:=by rw[<-d];exact h
theorem AL {α:Type} {l:List α} (h:i<l.length):∃x,l[i]? =some x:=⟨l[i],by simp[h]⟩
theorem B4 (h:0<=n/\n<4294967296):∃w:UInt32,Jp n w:=⟨UInt32.ofNat n.toNat,⟨by rw[UInt32.toNat_ofNat'];omega⟩⟩
theorem B3 {w:UInt32} (h:Jp n w):Aq BG [.int .u32 n] (cells .u32 w):=by
 refine⟨?_,trivial⟩
 show AC.int .u32 _=AC.int .u32 n
 rw[h.eq]
theorem FI {α:Type} {l:List α} {x:α} (h:l[i]? =some x):i<l.length:=by
 apply Classical.byContradiction;intro d;rw[List.getElem?_eq_none (by omega)] at h;exact absurd h (by simp)
theorem Ck {α:Type} {l:List α} {x:α} (h:l[i]? =some x):l.take (i+1)=l.take i++[x]:=by
 have d:=FI h;rw[List.take_succ_eq_append_getElem d];rw[List.getElem?_eq_getElem d] at h;rw[Option.some.inj h]
theorem DB {t:T} {l m:List (el t)} {n k:Nat} (h:l=m) (d:n=k):AC.own t l n=AC.own t m k:=by rw[h,d]
end Go.Abs
namespace Go.Abs
open Go.RowKit
variable {a b n:Nat} {c y:Int} {l m z:List UInt32}
theorem D5 (S:AE l=n) (F:z=AS n):CF 380 [.one (.sl .u32 l)] (.one (.sl .u32 z)):=by
 have F:B1 l=z:=by rw[F,<-S,JZ]
 refine AM Tryz.func380 fun E hE=>?_
 conv=>cbv
 refine .inr ?_;obtain⟨L,r⟩:=xJ fun vs M k=>∃m:List UInt32,vs=[.one (.sl .u32 m)]/\B1 m=z/\k=m.length
 refine⟨[],[0],[],L,⟨l.length,by rw[r];exact⟨l,rfl,F,rfl⟩⟩,?_⟩;intro vs M U J;rw[r] at J;obtain⟨m,rfl,s,R⟩:=J;conv=>cbv
 rintro n4 ⟨e4,f4⟩;conv=>cbv
 intro Z H;conv=>cbv
 cases Z <;> conv=>cbv
 ·have T:=Bf H;have C:m=[]:=List.eq_nil_of_length_eq_zero (by omega);exact AD ⟨⟨rfl,congrArg _ (by rw[<-s,C];rfl),trivial⟩,trivial⟩
 have T:=Bg H;rintro n9 ⟨e9,f9⟩;conv=>cbv
 intro f P;conv=>cbv
 refine AI ?_;obtain⟨g,d⟩:=AL (l:=m) (i:=(f).toNat) (by omega);refine⟨g,fun _=>⟨by omega,d⟩,?_⟩;try conv=>cbv
 intro W o;have N:=o.eq;have f12:=o.lt;conv=>cbv
 intro G u;conv=>cbv
 cases G <;> conv=>cbv
 ·have v:=AN u;have D:g≠0:=fun h=>by subst h;exact v o.eq
  have B:m=m.take (f).toNat++[g]:=by have:=Ck d;rw[List.take_of_length_le (by omega)] at this;exact this
  exact AD ⟨⟨rfl,congrArg _ (by rw[<-s,B,IQ D]),trivial⟩,trivial⟩
 have v:=AO u;refine .inr ?_;rintro X ⟨O,f17⟩;conv=>cbv
 intro Y Q;conv=>cbv
 refine AI ?_;intro V K;conv=>cbv
 refine AH ?_;intro A I;conv=>cbv
 intro t j;conv=>cbv
 refine⟨t.length,?_,?_⟩
 ·rw[j];simp;omega
 rw[r];have el:t=m.take (f).toNat:=by rw[j,show A=(f).toNat by omega];simp
 refine⟨t,rfl,?_,rfl⟩;obtain rfl:g=0:=UInt32.toNat_inj.1 (by show _=0;omega)
 have B:m=m.take (f).toNat++[0]:=by
  have:=Ck d;rw[List.take_of_length_le (by omega)] at this;exact this
 rw[el,<-s];conv=>rhs;rw[B]
 rw[Hl]
theorem UC (x:Int):CF 402 [.one (.int .i64 x)] (.one (.bool false)):=by
 refine AM Tryz.func402 fun E f=>?_
 conv=>cbv
 intro g d;conv=>cbv
 exact AD ⟨⟨rfl,congrArg _ (by rw[d];simp),trivial⟩,trivial⟩
theorem UD (x:Int):CF 412 [.one (.int .u32 x)] (.one (.bool false)):=by
 refine AM Tryz.func412 fun E f=>?_
 conv=>cbv
 intro g d;conv=>cbv
 exact AD ⟨⟨rfl,congrArg _ (by rw[d];simp),trivial⟩,trivial⟩
theorem QN {x:Int} (g:c=BQ x y):CF 391 [.one (.int .i64 x),.one (.int .i64 y)] (.one (.int .i64 c)):=by
 refine AM Tryz.func391 fun E r=>?_
 conv=>cbv
 refine AB r (UC _) ?_;conv=>cbv
 refine AB r (UC _) ?_;conv=>cbv
 intro k d;conv=>cbv
 cases k <;> conv=>cbv
 ·have h:=AY d;intro o f;conv=>cbv
  cases o <;> conv=>cbv
  ·have j:=Bf f;exact AD ⟨⟨rfl,congrArg _ (by rw[g];unfold BQ;split <;> (try split) <;> omega),trivial⟩,trivial⟩
  have j:=Bg f;exact AD ⟨⟨rfl,congrArg _ (by rw[g];unfold BQ;split <;> (try split) <;> omega),trivial⟩,trivial⟩
 have h:=AZ d;exact AD ⟨⟨rfl,congrArg _ (by rw[g];unfold BQ;split <;> (try split) <;> omega),trivial⟩,trivial⟩
theorem XS {x:Int} (g:c=BQ x y):CF 403 [.one (.int .u32 x),.one (.int .u32 y)] (.one (.int .i64 c)):=by
 refine AM Tryz.func403 fun E r=>?_
 conv=>cbv
 refine AB r (UD _) ?_;conv=>cbv
 refine AB r (UD _) ?_;conv=>cbv
 intro k d;conv=>cbv
 cases k <;> conv=>cbv
 ·have h:=AY d;intro o f;conv=>cbv
  cases o <;> conv=>cbv
  ·have j:=Bf f;exact AD ⟨⟨rfl,congrArg _ (by rw[g];unfold BQ;split <;> (try split) <;> omega),trivial⟩,trivial⟩
  have j:=Bg f;exact AD ⟨⟨rfl,congrArg _ (by rw[g];unfold BQ;split <;> (try split) <;> omega),trivial⟩,trivial⟩
 have h:=AZ d;exact AD ⟨⟨rfl,congrArg _ (by rw[g];unfold BQ;split <;> (try split) <;> omega),trivial⟩,trivial⟩
theorem Jb {m:Nat} (U:n<=l.length) (hl:l.length<=140737488355328) (hm:m=(B1 (l.take n)).length):Gk Tryz.prog 380 (.AQ .u32 0 0 0 n) (.arr 0 .u32 l) [] (.one (.AQ .u32 0 0 0 m)) (.arr 0 .u32 l):=by
 refine J6 Tryz.func380 (by kernel_rfl) rfl fun E hE=>?_
 conv=>cbv
 refine .inr ?_;obtain⟨L,j⟩:=xJ fun vs D k=>∃q:Nat,vs=[.one (.AQ .u32 0 0 0 q)]/\D=[.arr 0 .u32 l]/\q<=l.length/\m=(B1 (l.take q)).length/\k=q
 refine⟨[],[0],[0],L,⟨n,by rw[j];exact⟨n,rfl,rfl,U,hm,rfl⟩⟩,?_⟩;intro vs D W I;rw[j] at I;obtain⟨q,rfl,rfl,hq,o,T⟩:=I;conv=>cbv
 intro n4 R;have e4:=R.eq;conv=>cbv
 intro n5 F;conv=>cbv
 cases n5 <;> conv=>cbv
 ·have V:=Bf F;refine⟨fun _=>⟨⟨⟨rfl,.inr (.inr ⟨rfl,rfl,congrArg (AC.AQ .u32 0 0 0) (by rw[o,show q=0 by omega];rfl)⟩),trivial⟩,trivial⟩,rfl,by simp⟩,fun _=>rfl⟩
 have V:=Bg F;intro n9 S;have e9:=S.eq;conv=>cbv
 intro X P;conv=>cbv
 refine AI ?_;refine AH ?_;intro r J;conv=>cbv
 obtain⟨s,d⟩:=AL (l:=l) (i:=r) (by omega);refine⟨s,fun _=>d,?_⟩;try conv=>cbv
 intro Y g;have N:=g.eq;have f12:=g.lt;conv=>cbv
 intro B t;conv=>cbv
 cases B <;> conv=>cbv
 ·have u:=AN t;have A:s≠0:=fun h=>by subst h;exact u g.eq
  refine⟨fun _=>⟨⟨⟨rfl,.inr (.inr ⟨rfl,rfl,congrArg (AC.AQ .u32 0 0 0) (by rw[o,show q=r+1 by omega,Ck d,IQ A,List.length_append,List.length_take];simp;omega)⟩),trivial⟩,trivial⟩,rfl,by simp⟩,fun _=>rfl⟩
 have u:=AO t;refine .inr ?_;intro Z v;have O:=v.eq;conv=>cbv
 intro a1 Q;conv=>cbv
 refine AI ?_;refine AH ?_;intro M G;conv=>cbv
 rintro C f ⟨K,H⟩;conv=>cbv
 refine⟨f,?_,?_⟩
 ·omega
 rw[j];obtain rfl:C=0:=by omega
 refine⟨f,rfl,rfl,by omega,?_,rfl⟩;obtain rfl:s=0:=UInt32.toNat_inj.1 (by show _=0;omega);rw[o,show q=f+1 by omega,Ck (x:=0) (by rw[show f=r by omega];exact d),Hl]
theorem VO {zn:Nat} (hl:l=AS a) (hm:m=AS b) (hz:z=AS (a+b)) (aj:zn=z.length) (sl:l.length<=17592186044416) (sm:m.length<=17592186044416):CF 400 [.one (.sl .u32 l),.one (.sl .u32 m)] (.one (.own .u32 z zn)):=by
 refine AM Tryz.func400 fun E hE=>?_
 conv=>cbv
 rintro aT ⟨aH,f10⟩;conv=>cbv
 rintro aU ⟨aI,f12⟩;conv=>cbv
 intro ay a2;conv=>cbv
 obtain⟨aq,D⟩:=xK fun vs bl=>∃(p q:Nat) (x y:List UInt32),vs=[.one (.sl .u32 x),.one (.sl .u32 y)]/\x=AS p/\y=AS q/\p+q=a+b/\y.length<=x.length/\x.length<=17592186044416
 refine .inl ⟨[0,1],[],aq,?_,?_⟩
 ·intro vs bl hj;rw[D] at hj;obtain⟨p,q,x,y,rfl,hx,hy,M,ai,aR⟩:=hj;conv=>cbv
  rintro aV ⟨aJ,f17⟩;conv=>cbv
  intro aW aO;conv=>cbv
  refine AI ?_;refine⟨fun _=>⟨by omega,by omega,by show _*4<=140737488355328;omega⟩,?_⟩;intro T (U:List UInt32) Q;have N:=Q.1;have v:U=List.replicate T (0:el .u32):=Q.2;have aG:U.length=T:=by rw[v,List.length_replicate]
  conv=>cbv
  intro az S;have aK:=S.eq;have f21:=S.le;conv=>cbv
  refine .inr ?_
  obtain⟨J0,K⟩:∃J:List AV->List AG->Nat->Prop,J=fun vs bl k=>∃(o:List UInt32) (n Y i':Nat) (c L i:Int),vs=[.one (.sl .u32 x),.one (.sl .u32 y),.one (.AQ .u32 19 0 0 n),.one (.int .u64 c),.one (.sl .u32 x),.one (.int .i64 L),.one (.int .i64 i)]/\
   bl=[.arr 0 .u32 o]/\(n=o.length/\o.length=i'/\Cl L x.length/\AR i i'/\i'<=x.length/\AR c Y/\Y<=1)/\
   AE o+2^(32*i')*Y=AE (x.take i')+AE (y.take i')/\k=x.length-i':=⟨_,rfl⟩
  refine⟨[],[0,1,5,6,20,21,22],[19],J0,⟨x.length-0,by rw[K];exact⟨U,T,0,0,0,az,0,rfl,rfl,⟨by rw[v,List.length_replicate],by rw[v,List.length_replicate,N];rfl,S,Ak 0,by omega,Ak 0,by omega⟩,by rw[v,N];simp[AE],rfl⟩⟩,?_⟩;intro vs bl aS hj;rw[K] at hj;obtain⟨o,n,Y,i',c,L,i,rfl,rfl,⟨hn,ho,hL,hi,aQ,hc,aP⟩,hinv,r⟩:=hj;conv=>cbv
  have eL:=hL.eq;have ei:=hi.eq;have ec:=hc.eq;intro aA a5;conv=>cbv
  cases aA <;> conv=>cbv
  ·have av:=AY a5;intro C9 af;conv=>cbv
   refine .inr ?_;cases C9 <;> conv=>cbv
   ·have ax:=Bf af;have r:i'=x.length:=by omega
    have g:AE o=p+q:=by rw[r,DA (Nat.le_refl _),DA ai,hx,hy,Aw,Aw,show Y=0 by omega] at hinv;omega
    exact AD ⟨⟨rfl,.inr (.inl ⟨_,_,by decide,rfl,rfl,hn,rfl,DB (by rw[hz,<-M];exact (SI g (by rw[ho,r,hx])).symm) (by rw[aj,hz,<-M,<-SI g (by rw[ho,r,hx])])⟩),trivial⟩,trivial⟩
   have ax:=Bg af;intro aC ag;conv=>cbv
   have ag:=wrap_u32 ag;obtain⟨A,G⟩:=B4 (n:=aC) (by omega);have aE:=G.eq;have aF:=G.lt;refine⟨[A],fun _=>⟨rfl,by decide,rfl,⟨rfl,B3 G,trivial⟩⟩,.inl ?_⟩;try conv=>cbv
   refine .inl ⟨[A],fun _=>⟨rfl,by (first | rfl | omega),⟨_,rfl,by simp <;> omega,by simp⟩,by show (o.length+1)*4<=140737488355328;(try simp only[List.length_take,List.length_drop]);omega⟩,?_⟩;intro (ak:List UInt32) aD R;have O:ak=(o:List UInt32)++([A]:List UInt32):=R.1;have ah:aD=List.length (α:=UInt32) ak:=R.2;conv=>cbv
   have r:i'=x.length:=by omega
   have g:AE (o++[A])=p+q:=by rw[Dp,show A.toNat=Y by omega,ho,<-Aw p,<-Aw q,<-hx,<-hy];rw[r,DA (Nat.le_refl _),DA ai] at hinv;rw[r];exact hinv
   have hw:A.toNat≠0:=by omega
   exact AD ⟨⟨rfl,.inr (.inl ⟨_,_,by decide,rfl,rfl,ah,rfl,DB (by rw[hz,<-M,<-g,Ny hw,O]) (by rw[aj,hz,<-M,<-g,Ny hw,O])⟩),trivial⟩,trivial⟩
  have av:=AZ a5;refine .inr ?_;obtain⟨X,H⟩:=AL (l:=x) (i:=i') (by omega);refine⟨X,fun _=>⟨by omega,by rw[show (i).toNat=i' by omega];exact H⟩,?_⟩;try conv=>cbv
  intro aX a6;have aL:=a6.eq;have f26:=a6.lt;conv=>cbv
  intro aY a7;conv=>cbv
  have a7:=wrap_u64 a7;intro al a8;conv=>cbv
  have a8:=wrap_u64 a8;rintro aZ ⟨aM,f33⟩;conv=>cbv
  intro aB aa;conv=>cbv
  refine .inr ?_;cases aB <;> conv=>cbv
  ·have aw:=AY aa;intro V B;conv=>cbv
   have B:=wrap_u32 B;obtain⟨f,d⟩:=B4 (n:=V) (by omega);have Z:=d.eq;have a1:=d.lt;refine⟨[f],fun _=>⟨rfl,by decide,rfl,⟨rfl,B3 d,trivial⟩⟩,.inl ?_⟩;try conv=>cbv
   refine .inl ⟨[f],fun _=>⟨rfl,by (first | rfl | omega),⟨_,rfl,by simp <;> omega,by simp⟩,by show (o.length+1)*4<=140737488355328;(try simp only[List.length_take,List.length_drop]);omega⟩,?_⟩;intro (t:List UInt32) I j;have h:t=(o:List UInt32)++([f]:List UInt32):=j.1;have F:I=List.length (α:=UInt32) t:=j.2;conv=>cbv
   intro u C;conv=>cbv
   refine AH ?_;have C:=Dt (p:=4294967296) C rfl;intro W ar;conv=>cbv
   refine AI ?_;refine⟨x.length-(i'+1),?_,?_⟩
   ·omega
   rw[K];refine⟨t,I,u.toNat,i'+1,u,L,W,rfl,rfl,⟨F,by rw[h];simp;omega,hL,⟨by omega⟩,by omega,⟨by omega⟩,by omega⟩,?_,rfl⟩;rw[h,CB H,DA (l:=y) (i:=i'+1) (by omega)];have hs:=Lg (xi:=X.toNat) (yi:=0) (s:=al.toNat) (w:=f) ho hinv (by omega) (by omega);rw[show u.toNat=al.toNat/4294967296 by omega];rw[hs];rw[DA (l:=y) (i:=i') (by omega)];omega
  have aw:=AZ aa;obtain⟨ao,P⟩:=AL (l:=y) (i:=i') (by omega);refine⟨ao,fun _=>⟨by omega,by rw[show (i).toNat=i' by omega];exact P⟩,?_⟩;try conv=>cbv
  intro b0 ab;have aN:=ab.eq;have f39:=ab.lt;conv=>cbv
  intro b4 ad;conv=>cbv
  have ad:=wrap_u64 ad;intro an ae;conv=>cbv
  have ae:=wrap_u64 ae;intro V B;conv=>cbv
  have B:=wrap_u32 B;obtain⟨f,d⟩:=B4 (n:=V) (by omega);have Z:=d.eq;have a1:=d.lt;refine⟨[f],fun _=>⟨rfl,by decide,rfl,⟨rfl,B3 d,trivial⟩⟩,.inl ?_⟩;try conv=>cbv
  refine .inl ⟨[f],fun _=>⟨rfl,by (first | rfl | omega),⟨_,rfl,by simp <;> omega,by simp⟩,by show (o.length+1)*4<=140737488355328;(try simp only[List.length_take,List.length_drop]);omega⟩,?_⟩;intro (t:List UInt32) I j;have h:t=(o:List UInt32)++([f]:List UInt32):=j.1;have F:I=List.length (α:=UInt32) t:=j.2;conv=>cbv
  intro u C;conv=>cbv
  refine AH ?_;have C:=Dt (p:=4294967296) C rfl;intro W ar;conv=>cbv
  refine AI ?_;refine⟨x.length-(i'+1),?_,?_⟩
  ·omega
  rw[K];refine⟨t,I,u.toNat,i'+1,u,L,W,rfl,rfl,⟨F,by rw[h];simp;omega,hL,⟨by omega⟩,by omega,⟨by omega⟩,by omega⟩,?_,rfl⟩;rw[h,CB H,CB P];have hs:=Lg (xi:=X.toNat) (yi:=ao.toNat) (s:=an.toNat) (w:=f) ho hinv (by omega) (by omega);rw[show u.toNat=an.toNat/4294967296 by omega];rw[hs]
 cases ay <;> conv=>cbv
 ·have au:=AY a2;rw[D];exact⟨a,b,_,_,rfl,hl,hm,rfl,by omega,by omega⟩
 have au:=AZ a2;rw[D];exact⟨b,a,_,_,rfl,hm,hl,Nat.add_comm _ _,by omega,by omega⟩
theorem VN (d:l=AS a) (hm:m=AS b) (f:z=AS (a+b)) (sl:l.length<=17592186044416) (g:m.length<=17592186044416):CF 400 [.one (.sl .u32 l),.one (.sl .u32 m)] (.one (.sl .u32 z)):=Ct (VO d hm f rfl sl g)
end Go.Abs
namespace Go.Abs
open Go.RowKit
variable {b:Bool} {l z:List UInt32} {x:Int}
theorem ER {n:Bool} (o:x=if n=true then -(AE l:Int) else AE l) (h:Af x b z):CF 352 [.one (.bool n),.one (.sl .u32 l)] (.agg (BC b z)):=by
 refine AM Tryz.func352 fun E s=>?_
 conv=>cbv
 obtain⟨u,d⟩:=xU (AS (AE l));refine AB s (D5 rfl d) ?_;conv=>cbv
 intro A g;have v:=g.eq;have f8:=g.le;conv=>cbv
 intro t k;conv=>cbv
 cases t <;> conv=>cbv
 ·have r:=AN k;have j:AE l≠0:=fun e=>r (by have:=g.eq;rw[d,e] at this;exact this)
  have f:Af x n u:= .val d.symm o (fun e=>absurd e j);exact AD ⟨⟨rfl,congrArg _ ((f.uniq h rfl).1.symm),congrArg _ ((f.uniq h rfl).2.symm),trivial⟩,trivial⟩
 have r:=AO k;have j:AE l=0:=by have e:=g.eq;rw[d] at e;exact Dx.1 (List.length_eq_zero_iff.1 (by omega))
 have f:Af x false []:= .val (n:=0) rfl (by rw[o,j];simp) (fun _=>rfl);exact AD ⟨⟨rfl,congrArg _ ((f.uniq h rfl).1.symm),.inr (.inl ⟨_,congrArg _ ((f.uniq h rfl).2.symm)⟩),trivial⟩,trivial⟩
theorem Iv {n:Int} {k:Nat} (F:AR n k) (K:k<18446744073709551616) (G:z=AS k):CF 353 [.one (.int .u64 n)] (.one (.sl .u32 z)):=by
 have J:=F.eq;refine AM Tryz.func353 fun E D=>?_
 conv=>cbv
 intro n4 v;conv=>cbv
 have v:=wrap_u32 v;intro L A;conv=>cbv
 refine AH ?_;have A:=Dt (p:=4294967296) A rfl;intro I B;conv=>cbv
 have B:=wrap_u32 B;obtain⟨g,d⟩:=B4 (n:=n4) (by omega);have r:=d.eq;have t:=d.lt;obtain⟨h,f⟩:=B4 (n:=I) (by omega);have s:=f.eq;have u:=f.lt;refine⟨[g,h],fun _=>⟨rfl,by decide,rfl,⟨rfl,B3 d,⟨rfl,B3 f,trivial⟩⟩⟩,.inl ?_⟩;try conv=>cbv
 obtain⟨H,j⟩:=xN ((B1 ([g,h].take 2)).length);obtain⟨C,o⟩:=D1 (by simp) j;refine .inr (.inr (.inl ⟨[],.one (.AQ .u32 0 0 0 H),.arr 0 .u32 [g,h],fun _=>⟨by first | decide | simp[Be,Bk],trivial⟩,fun _=>⟨Di D (Jb (by simp) (by simp) j),rfl,rfl⟩,?_⟩));try conv=>cbv
 exact AD ⟨⟨rfl,.inl ⟨_,rfl,by simp;omega,congrArg _ (by rw[List.drop_zero,o,G];congr 1;simp[AE];omega)⟩,trivial⟩,trivial⟩
theorem IW (j:z=l) (u:l.length<=17592186044416):CF 348 [.one (.sl .u32 l)] (.one (.sl .u32 z)):=by
 refine AM Tryz.func348 fun E t=>?_
 conv=>cbv
 intro n4 r;conv=>cbv
 refine⟨fun o=>?_,?_⟩
 ·conv=>cbv
  have g:l=[]:=by rw[r] at o;simpa using o
  exact AD ⟨⟨rfl,.inr (.inl ⟨_,congrArg _ (by rw[j,g])⟩),trivial⟩,trivial⟩
 refine⟨[],fun _=>⟨rfl,by decide,rfl,trivial⟩,.inl ?_⟩;try conv=>cbv
 refine .inl ⟨l,fun _=>⟨rfl,by (first | rfl | omega),rfl,by show (0+l.length)*4<=140737488355328;(try simp only[List.length_take,List.length_drop]);omega⟩,?_⟩;intro (k:List UInt32) s f;have h:k=([]:List UInt32)++(l:List UInt32):=f.1;have d:s=List.length (α:=UInt32) k:=f.2;conv=>cbv
 exact AD ⟨⟨rfl,.inl ⟨_,rfl,by rw[d];simp,congrArg _ (by rw[j,d,h];simp)⟩,trivial⟩,trivial⟩
theorem K9 (F: -9223372036854775808<=x/\x<9223372036854775808) (s:Af x b z):CF 304 [.one (.int .i64 x)] (.agg (BC b z)):=by
 refine AM Tryz.func304 fun E o=>?_
 conv=>cbv
 intro G v;conv=>cbv
 have v:=wrap_u64 v;intro D A;conv=>cbv
 refine .inr ?_;cases D <;> conv=>cbv
 ·have C:=AY A;intro t j;conv=>cbv
  obtain⟨u,f⟩:=xU (AS x.natAbs);refine AB o (Iv (AR.of (k:=x.natAbs) (by omega)) (by omega) f) ?_;conv=>cbv
  obtain⟨g,h,d⟩:=AW (x);refine AB (r:= .agg [.bool g,.sl .u32 h]) o (ER (by rw[f,Aw,j];simp;omega) d) ?_;try conv=>cbv
  exact AD ⟨⟨rfl,congrArg _ ((d.uniq s rfl).1.symm),congrArg _ ((d.uniq s rfl).2.symm),trivial⟩,trivial⟩
 have C:=AZ A;intro H B;conv=>cbv
 have B:=wrap_u64 B;intro t j;conv=>cbv
 obtain⟨u,f⟩:=xU (AS x.natAbs);refine AB o (Iv (AR.of (k:=x.natAbs) (by omega)) (by omega) f) ?_;conv=>cbv
 obtain⟨g,h,d⟩:=AW (x);refine AB (r:= .agg [.bool g,.sl .u32 h]) o (ER (by rw[f,Aw,j];simp;omega) d) ?_;try conv=>cbv
 exact AD ⟨⟨rfl,congrArg _ ((d.uniq s rfl).1.symm),congrArg _ ((d.uniq s rfl).2.symm),trivial⟩,trivial⟩
end Go.Abs
namespace Go.Abs
open Go.RowKit
variable {a b i:Nat} {l m z:List UInt32}
theorem N5 {x y:UInt32} (h:l[i]? =some x) (o:m[i]? =some y) (t:l.length=m.length) (he:AE (l.drop (i+1))=AE (m.drop (i+1))) (f:x≠y):
  BQ x.toNat y.toNat=BQ (AE l) (AE m):=by
 have s:=FI h;have j:=E8 l (i+1) (by omega);have g:=E8 m (i+1) (by omega);rw[CB h] at j;rw[CB o] at g;have b1:=CI (l.take i);have b2:=CI (m.take i);rw[List.length_take,Nat.min_eq_left (by omega)] at b1 b2;rw[<-he] at g
 generalize AE (l.drop (i+1))=D at*
 generalize AE (l.take i)=A at*
 generalize AE (m.take i)=B at*
 generalize 2^(32*(i+1))*D=Q at*
 generalize r:2^(32*i)=P at*
 have k:x.toNat≠y.toNat:=fun e=>f (UInt32.toNat_inj.1 e)
 by_cases d:x.toNat<y.toNat
 ·have:P*(x.toNat+1)<=P*y.toNat:=Nat.mul_le_mul_left _ d;rw[Nat.mul_add] at this;have:AE l<AE m:=by omega
  unfold BQ;rw[if_pos (by omega),if_pos (by omega)]
 have:P*(y.toNat+1)<=P*x.toNat:=Nat.mul_le_mul_left _ (by omega);rw[Nat.mul_add] at this;have:AE m<AE l:=by omega
 unfold BQ;rw[if_neg (by omega),if_pos (by omega),if_neg (by omega),if_pos (by omega)]
theorem N4 (h:(AS a).length≠(AS b).length):BQ (AS a).length (AS b).length=BQ a b:=by
 by_cases d:(AS a).length<(AS b).length
 ·have:a<b:=by
   apply Classical.byContradiction;intro f;have:=Df (a:=b) (b:=a);omega
  unfold BQ;rw[if_pos (by omega),if_pos (by omega)]
 have:b<a:=by
  apply Classical.byContradiction;intro f;have:=Df (a:=a) (b:=b);omega
 unfold BQ;rw[if_neg (by omega),if_pos (by omega),if_neg (by omega),if_pos (by omega)]
theorem drop_eq {x:UInt32} (d:l[i]? =some x) (f:m[i]? =some x) (he:AE (l.drop (i+1))=AE (m.drop (i+1))):AE (l.drop i)=AE (m.drop i):=by
 have g:=FI d;have h:=FI f;rw[List.drop_eq_getElem_cons g,List.drop_eq_getElem_cons h,AE,AE,he];rw[List.getElem?_eq_getElem g] at d;rw[List.getElem?_eq_getElem h] at f;rw[Option.some.inj d,Option.some.inj f]
theorem Li {c:Int} (R:l=AS a) (hm:m=AS b) (S:c=BQ a b):CF 392 [.one (.sl .u32 l),.one (.sl .u32 m)] (.one (.int .i64 c)):=by
 refine AM Tryz.func392 fun E hE=>?_
 conv=>cbv
 rintro n7 ⟨e7,f7⟩;conv=>cbv
 rintro n9 ⟨e9,f9⟩;conv=>cbv
 intro V H;conv=>cbv
 cases V <;> conv=>cbv
 ·have N:=BY H;rintro ak ⟨aa,f17⟩;conv=>cbv
  intro Y af;conv=>cbv
  refine AI ?_;refine .inr ?_;obtain⟨J0,F⟩:=xJ fun vs bl k=>∃(j:Int) (k':Nat),vs=[.one (.sl .u32 l),.one (.sl .u32 m),.one (.int .i64 j)]/\(AR (j+1) k'/\k'<=l.length/\l.length=m.length/\AE (l.drop k')=AE (m.drop k'))/\k=k'
  refine⟨[],[0,1,5],[],J0,⟨l.length,by rw[F];exact⟨Y,l.length,rfl,⟨⟨by omega⟩,by omega,by omega,by rw[List.drop_length,show l.length=m.length by omega,List.drop_length]⟩,rfl⟩⟩,?_⟩;intro vs bl aj Q;rw[F] at Q;obtain⟨j,k',rfl,⟨Q,ah,M,P⟩,ai⟩:=Q;conv=>cbv
  have ej:=Q.eq;intro Z I;conv=>cbv
  cases Z <;> conv=>cbv
  ·have U:=DI I;have hk:k'=0:=by omega
   have he:a=b:=by rw[hk] at P;simpa [R,hm,Aw] using P
   exact AD ⟨⟨rfl,congrArg _ (by rw[S,he];simp[BQ]),trivial⟩,trivial⟩
  have U:=DJ I;refine .inr ?_;obtain⟨g,d⟩:=AL (l:=l) (i:=(j).toNat) (by omega);refine⟨g,fun _=>⟨by omega,d⟩,?_⟩;try conv=>cbv
  intro al J;have G:=J.eq;have f26:=J.lt;conv=>cbv
  obtain⟨h,f⟩:=AL (l:=m) (i:=(j).toNat) (by omega);refine⟨h,fun _=>⟨by omega,f⟩,?_⟩;try conv=>cbv
  intro an K;have ab:=K.eq;have f30:=K.lt;conv=>cbv
  intro a2 L;conv=>cbv
  refine g2 rfl ?_;cases a2 <;> conv=>cbv
  ·have O:=BY L;intro a1 ag;conv=>cbv
   refine AI ?_;refine⟨k'-1,?_,?_⟩
   ·omega
   rw[F];obtain⟨i',rfl⟩:∃i',k'=i'+1:=⟨k'-1,by omega⟩
   refine⟨a1,i',rfl,⟨⟨by omega⟩,by omega,M,?_⟩,by omega⟩;have G:g=h:=UInt32.toNat_inj.1 (by omega);subst G;exact drop_eq (i:=i') (by rw[<-d];congr 1;omega) (by rw[<-f];congr 1;omega) P
  have O:=BZ L;obtain⟨o,u⟩:=AL (l:=l) (i:=(j).toNat) (by omega);refine⟨o,fun _=>⟨by omega,u⟩,?_⟩;try conv=>cbv
  intro a5 C;have ad:=C.eq;have f35:=C.lt;conv=>cbv
  obtain⟨r,v⟩:=AL (l:=m) (i:=(j).toNat) (by omega);refine⟨r,fun _=>⟨by omega,v⟩,?_⟩;try conv=>cbv
  intro a6 D;have ae:=D.eq;have f39:=D.lt;conv=>cbv
  obtain⟨aq,t⟩:=xI (BQ a5 a6);refine AB hE (XS t) ?_;conv=>cbv
  refine g2 rfl ?_;obtain⟨i',rfl⟩:∃i',k'=i'+1:=⟨k'-1,by omega⟩
  have e1:l[i']? =some o:=by rw[<-u];congr 1;omega
  have e2:m[i']? =some r:=by rw[<-v];congr 1;omega
  have e3:l[i']? =some g:=by rw[<-d];congr 1;omega
  have e4:m[i']? =some h:=by rw[<-f];congr 1;omega
  obtain rfl:o=g:=Option.some.inj (e1.symm.trans e3);obtain rfl:r=h:=Option.some.inj (e2.symm.trans e4);have T:o≠r:=fun e=>by subst e;exact O (by omega)
  exact AD ⟨⟨rfl,congrArg _ (by rw[t,S,C.eq,D.eq,N5 e1 e2 M P T,R,hm,Aw,Aw]),trivial⟩,trivial⟩
 have N:=BZ H;intro W A;have a7:=A.eq;have f12:=A.le;conv=>cbv
 intro X B;have a8:=B.eq;have f14:=B.le;conv=>cbv
 obtain⟨ao,s⟩:=xI (BQ W X);refine AB hE (QN s) ?_;conv=>cbv
 exact AD ⟨⟨rfl,congrArg _ (by rw[s,S,A.eq,B.eq,R,hm,N4 (by rw[<-R,<-hm];intro e;exact N (by omega))]),trivial⟩,trivial⟩
theorem Oq (hl:l=AS a) (hm:m=AS b) (hz:z=AS (a-b)) (aa:b<=a) (sl:l.length<=17592186044416):CF 401 [.one (.sl .u32 l),.one (.sl .u32 m)] (.one (.sl .u32 z)):=by
 have ad:m.length<=l.length:=by rw[hl,hm];exact Df aa
 refine AM Tryz.func401 fun E hE=>?_
 conv=>cbv
 rintro aA ⟨an,f11⟩;conv=>cbv
 refine⟨fun _=>⟨by omega,by omega,by show _*4<=140737488355328;omega⟩,?_⟩;intro K (M:List UInt32) G;have al:=G.1;have t:M=List.replicate K (0:el .u32):=G.2;have ak:M.length=K:=by rw[t,List.length_replicate]
 conv=>cbv
 intro ah H;have ao:=H.eq;have f14:=H.le;conv=>cbv
 refine .inr ?_
 obtain⟨J0,B⟩:∃J:List AV->List AG->Nat->Prop,J=fun vs bl k=>∃(o:List UInt32) (n C i':Nat) (c L i:Int),vs=[.one (.sl .u32 l),.one (.sl .u32 m),.one (.AQ .u32 12 0 0 n),.one (.int .u64 c),.one (.sl .u32 l),.one (.int .i64 L),.one (.int .i64 i)]/\
  bl=[.arr 0 .u32 o]/\(o.length=l.length/\n=o.length/\Cl L l.length/\AR i i'/\i'<=l.length/\AR c C/\C<=1)/\
  AE (o.take i')+AE (m.take i')=AE (l.take i')+2^(32*i')*C/\k=l.length-i':=⟨_,rfl⟩
 refine⟨[],[0,1,5,6,13,14,15],[12],J0,⟨l.length-0,by rw[B];exact⟨M,K,0,0,0,ah,0,rfl,rfl,⟨by rw[t,List.length_replicate];omega,by rw[t,List.length_replicate],H,Ak 0,by omega,Ak 0,by omega⟩,by simp[AE],rfl⟩⟩,?_⟩;intro vs bl az hj;rw[B] at hj;obtain⟨o,n,C,i',c,L,i,rfl,rfl,⟨ho,hn,hL,hi,aw,hc,av⟩,hinv,ax⟩:=hj;conv=>cbv
 have eL:=hL.eq;have ei:=hi.eq;have ec:=hc.eq;intro ai U;conv=>cbv
 cases ai <;> conv=>cbv
 ·have ae:=AY U;have u:n<=(o).length:=by omega
  obtain⟨ag,D⟩:=xN ((B1 ((o).take n)).length);obtain⟨ab,I⟩:=D1 u D;refine .inr (.inr (.inl ⟨[],.one (.AQ .u32 0 0 0 ag),.arr 0 .u32 o,fun _=>⟨by first | decide | simp[Be,Bk],trivial⟩,fun _=>⟨Di hE (Jb u (by omega) D),rfl,rfl⟩,?_⟩));try conv=>cbv
  have hk:i'=l.length:=by omega
  have a5:AE (o.take n)=a-b:=by rw[hk,DA ad,DA (Nat.le_refl _),hm,hl,Aw,Aw,<-hl,<-ho,List.take_length] at hinv;have ay:=CI o;generalize 2^(32*o.length)=P at *;rw[hn,List.take_length];rcases (by omega:C=0\/C=1) with e | e <;> rw[e] at hinv <;> omega
  exact AD ⟨⟨rfl,.inl ⟨_,rfl,by omega,congrArg _ (by rw[List.drop_zero,I,a5,hz])⟩,trivial⟩,trivial⟩
 have ae:=AZ U;refine .inr ?_;obtain⟨Q,v⟩:=AL (l:=l) (i:=i') (by omega);refine⟨Q,fun _=>⟨by omega,by rw[show (i).toNat=i' by omega];exact v⟩,?_⟩;try conv=>cbv
 intro aB V;have aq:=V.eq;have f19:=V.lt;conv=>cbv
 intro aC W;conv=>cbv
 have W:=wrap_u64 W;intro aD X;conv=>cbv
 have X:=wrap_u64 X;rintro aE ⟨ar,f26⟩;conv=>cbv
 intro aj Y;conv=>cbv
 refine .inr ?_;cases aj <;> conv=>cbv
 ·have af:=AY Y;intro N r;conv=>cbv
  have r:=wrap_u32 r;refine AH ?_;intro A a6;conv=>cbv
  obtain⟨j,f⟩:=B4 (n:=N) (by omega);have R:=f.eq;have S:=f.lt;refine⟨j,fun _=>⟨by show _<List.length (α:=UInt32) o;(first | omega | (simp;omega)),B3 f⟩,?_⟩;intro (g:List UInt32) (d:g=List.set (α:=UInt32) o A j);have T:g.length=o.length:=by rw[d,List.length_set]
  conv=>cbv
  intro h s;conv=>cbv
  refine AH ?_;have s:=Dt (p:=9223372036854775808) s rfl;intro O a8;conv=>cbv
  refine AI ?_;refine⟨l.length-(i'+1),?_,?_⟩
  ·omega
  rw[B];refine⟨g,n,h.toNat,i'+1,h,L,O,rfl,rfl,⟨by rw[d,List.length_set];exact ho,by rw[d,List.length_set];exact hn,hL,⟨by omega⟩,by omega,⟨by omega⟩,by omega⟩,?_,rfl⟩;have hs:=I8 (w:=j) (o:=o) (i:=i') (xi:=Q.toNat) (yi:=0) (Ew:=C) (Ey:=h.toNat) (by omega) hinv (by omega);rw[d,show A=i' by omega,CB v,<-hs,DA (l:=m) (i:=i'+1) (by omega),DA (l:=m) (i:=i') (by omega),Nat.mul_zero]
  rfl
 have af:=AZ Y;obtain⟨a7,F⟩:=AL (l:=m) (i:=i') (by omega);refine⟨a7,fun _=>⟨by omega,by rw[show (i).toNat=i' by omega];exact F⟩,?_⟩;try conv=>cbv
 intro aF Z;have au:=Z.eq;have f32:=Z.lt;conv=>cbv
 intro aG a1;conv=>cbv
 have a1:=wrap_u64 a1;intro aH a2;conv=>cbv
 have a2:=wrap_u64 a2;intro N r;conv=>cbv
 have r:=wrap_u32 r;refine AH ?_;intro A a6;conv=>cbv
 obtain⟨j,f⟩:=B4 (n:=N) (by omega);have R:=f.eq;have S:=f.lt;refine⟨j,fun _=>⟨by show _<List.length (α:=UInt32) o;(first | omega | (simp;omega)),B3 f⟩,?_⟩;intro (g:List UInt32) (d:g=List.set (α:=UInt32) o A j);have T:g.length=o.length:=by rw[d,List.length_set]
 conv=>cbv
 intro h s;conv=>cbv
 refine AH ?_;have s:=Dt (p:=9223372036854775808) s rfl;intro O a8;conv=>cbv
 refine AI ?_;refine⟨l.length-(i'+1),?_,?_⟩
 ·omega
 rw[B];refine⟨g,n,h.toNat,i'+1,h,L,O,rfl,rfl,⟨by rw[d,List.length_set];exact ho,by rw[d,List.length_set];exact hn,hL,⟨by omega⟩,by omega,⟨by omega⟩,by omega⟩,?_,rfl⟩;have hs:=I8 (w:=j) (o:=o) (i:=i') (xi:=Q.toNat) (yi:=a7.toNat) (Ew:=C) (Ey:=h.toNat) (by omega) hinv (by omega);rw[d,show A=i' by omega,CB v,<-hs,CB F]
theorem gV (hl:l=AS a) (hm:m=AS b) (hz:z=AS (a*b)) (sl:l.length<=17592186044416) (sm:m.length<=17592186044416):CF 393 [.one (.sl .u32 l),.one (.sl .u32 m)] (.one (.sl .u32 z)):=by
 refine AM Tryz.func393 fun E hE=>?_
 conv=>cbv
 rintro n12 ⟨e12,f12⟩;conv=>cbv
 intro n13 h13;conv=>cbv
 cases n13 <;> conv=>cbv
 ·have k13:=AN h13;rintro n16 ⟨e16,f16⟩;conv=>cbv
  intro n17 h17;conv=>cbv
  cases n17 <;> conv=>cbv
  ·have B0:=AN h17;rintro n20 ⟨e20,f20⟩;conv=>cbv
   rintro n22 ⟨e22,f22⟩;conv=>cbv
   intro n23 h23;conv=>cbv
   refine AI ?_;refine⟨fun _=>⟨by omega,by omega,by show _*4<=140737488355328;omega⟩,?_⟩;intro k24 (l24:List UInt32) ql24;have hk24:=ql24.1;have hl24:l24=List.replicate k24 (0:el .u32):=ql24.2;have gl24:l24.length=k24:=by rw[hl24,List.length_replicate]
   conv=>cbv
   intro n26 h26;have e26:=h26.eq;have f26:=h26.le;conv=>cbv
   refine .inr ?_
   obtain⟨J0,hJ0⟩:∃J:List AV->List AG->Nat->Prop,J=fun vs bl k=>∃(o:List UInt32) (n i':Nat) (L i:Int),vs=[.one (.sl .u32 l),.one (.sl .u32 m),.one (.AQ .u32 24 0 0 n),.one (.sl .u32 l),.one (.int .i64 L),.one (.int .i64 i)]/\
    bl=[.arr 0 .u32 o]/\(o.length=l.length+m.length/\n=o.length/\Cl L l.length/\AR i i'/\i'<=l.length)/\
    AE (o.take (i'+m.length))=AE (l.take i')*AE m/\k=l.length-i':=⟨_,rfl⟩
   refine⟨[],[0,1,5,25,26,27],[24],J0,⟨l.length-0,by rw[hJ0];exact⟨l24,k24,0,n26,0,rfl,rfl,⟨by rw[hl24,List.length_replicate];omega,by rw[hl24,List.length_replicate],h26,Ak 0,by omega⟩,by rw[hl24,List.take_replicate,HC];simp[AE],rfl⟩⟩,?_⟩;intro vs bl kk0 hj;rw[hJ0] at hj;obtain⟨o,n,i',L,i,rfl,rfl,⟨ho,hn,hL,hi,hiL⟩,hinv,hk0⟩:=hj;conv=>cbv
   have eL:=hL.eq;have ei:=hi.eq;intro n28 h28;conv=>cbv
   cases n28 <;> conv=>cbv
   ·have k28:=AY h28;have hnl74:n<=(o).length:=by omega
    obtain⟨m74,hm74⟩:=xN ((B1 ((o).take n)).length);obtain⟨hle74,htk74⟩:=D1 hnl74 hm74;refine .inr (.inr (.inl ⟨[],.one (.AQ .u32 0 0 0 m74),.arr 0 .u32 o,fun _=>⟨by first | decide | simp[Be,Bk],trivial⟩,fun _=>⟨Di hE (Jb hnl74 (by omega) hm74),rfl,rfl⟩,?_⟩));try conv=>cbv
    have hfin:AE (o.take n)=a*b:=by rw[show i'=l.length by omega,List.take_length,hl,hm,Aw,Aw,<-hl,<-hm,<-ho,List.take_length] at hinv;rw[hn,List.take_length,hinv]
    exact AD ⟨⟨rfl,.inl ⟨_,rfl,by omega,congrArg _ (by rw[List.drop_zero,htk74,hfin,hz])⟩,trivial⟩,trivial⟩
   have k28:=AZ h28;refine .inr ?_;obtain⟨x30,hx30⟩:=AL (l:=l) (i:=i') (by omega);refine⟨x30,fun _=>⟨by omega,by rw[show (i).toNat=i' by omega];exact hx30⟩,?_⟩;try conv=>cbv
   intro n31 h31;have e31:=h31.eq;have f31:=h31.lt;conv=>cbv
   intro n33 h33;have e33:=h33.eq;have f33:=h33.le;conv=>cbv
   refine .inr ?_
   obtain⟨J1,hJ1⟩:∃J:List AV->List AG->Nat->Prop,J=fun vs bl k=>∃(o1:List UInt32) (n1 c' k':Nat) (c L1 i1:Int),vs=[.one (.sl .u32 l),.one (.sl .u32 m),.one (.AQ .u32 24 0 0 n1),.one (.int .i64 i),.one (.int .u32 n31),.one (.int .u64 c),.one (.sl .u32 l),.one (.int .i64 L),.one (.int .i64 i),.one (.sl .u32 m),.one (.int .i64 L1),.one (.int .i64 i1)]/\
    bl=[.arr 0 .u32 o1]/\(o1.length=l.length+m.length/\n1=o1.length/\Cl L1 m.length/\AR i1 k'/\k'<=m.length/\AR c c'/\c'<4294967296)/\
    AE (o1.take (i'+m.length))+2^(32*(i'+k'))*c'=AE (l.take i')*AE m+x30.toNat*2^(32*i')*AE (m.take k')/\k=m.length-k':=⟨_,rfl⟩
   refine⟨[],[0,1,5,6,7,8,25,26,27,32,33,34],[24],J1,⟨m.length-0,by rw[hJ1];exact⟨o,n,0,0,0,n33,0,rfl,rfl,⟨ho,hn,h33,Ak 0,by omega,Ak 0,by omega⟩,by rw[hinv];simp[AE],rfl⟩⟩,?_⟩;intro vs bl kk1 hj;rw[hJ1] at hj;obtain⟨o1,n1,c',k',c,L1,i1,rfl,rfl,⟨ho1,hn1,hL1,hi1,hiL1,hc,hc1⟩,hinv1,hk1⟩:=hj;conv=>cbv
   have eL1:=hL1.eq;have ei1:=hi1.eq;have ec:=hc.eq;intro n35 h35;conv=>cbv
   cases n35 <;> conv=>cbv
   ·have k35:=AY h35;rintro n67 ⟨e67,f67⟩;conv=>cbv
    intro n68 h68;conv=>cbv
    refine AI ?_;intro n70 h70;conv=>cbv
    have h70:=wrap_u32 h70;refine AH ?_;intro j71 hj71;conv=>cbv
    obtain⟨w71,hw71⟩:=B4 (n:=n70) (by omega);have ew71:=hw71.eq;have fw71:=hw71.lt;refine⟨w71,fun _=>⟨by show _<List.length (α:=UInt32) o1;(first | omega | (simp;omega)),B3 hw71⟩,?_⟩;intro (l71:List UInt32) (hl71:l71=List.set (α:=UInt32) o1 j71 w71);have gl71:l71.length=o1.length:=by rw[hl71,List.length_set]
    conv=>cbv
    intro n72 h72;conv=>cbv
    refine AI ?_;refine⟨l.length-(i'+1),?_,?_⟩
    ·omega
    rw[hJ0];refine⟨l71,n1,i'+1,L,n72,rfl,rfl,⟨by rw[hl71,List.length_set];exact ho1,by rw[hl71,List.length_set];exact hn1,hL,⟨by omega⟩,by omega⟩,?_,rfl⟩;have hk:k'=m.length:=by omega
    have hlen:i'+m.length<o1.length:=by omega
    rw[hl71,show i'+1+m.length=i'+m.length+1 by omega,show j71=i'+m.length by omega,EI hlen,Dp,List.length_take,Nat.min_eq_left (by omega),show w71.toNat=c' by omega];rw[hk] at hinv1;rw[hinv1,List.take_length,CB hx30]
    grind
   have k35:=AZ h35;refine .inr ?_;obtain⟨x37,hx37⟩:=AL (l:=m) (i:=k') (by omega);refine⟨x37,fun _=>⟨by omega,by rw[show (i1).toNat=k' by omega];exact hx37⟩,?_⟩;try conv=>cbv
   intro n38 h38;have e38:=h38.eq;have f38:=h38.lt;conv=>cbv
   intro n41 h41;conv=>cbv
   have h41:=wrap_u64 h41;intro n43 h43;conv=>cbv
   have h43:=wrap_u64 h43;have ep:n41*n43=((x30.toNat*x37.toNat:Nat):Int):=by rw[Int.natCast_mul];congr 1 <;> omega
   have bp:x30.toNat*x37.toNat<=4294967295*4294967295:=Nat.mul_le_mul (by omega) (by omega);intro n44 h44;conv=>cbv
   have h44:=wrap_u64 h44;intro n48 h48;conv=>cbv
   refine AI ?_;refine AH ?_;intro j49 hj49;conv=>cbv
   obtain⟨x50,hx50⟩:=AL (l:=o1) (i:=j49) (by omega);refine⟨x50,fun _=>hx50,?_⟩;try conv=>cbv
   intro n50 h50;have e50:=h50.eq;have f50:=h50.lt;conv=>cbv
   intro C9 h51;conv=>cbv
   have h51:=wrap_u64 h51;intro n52 h52;conv=>cbv
   have h52:=wrap_u64 h52;intro C3 h53;conv=>cbv
   have h53:=wrap_u64 h53;intro n57 h57;conv=>cbv
   refine AI ?_;intro n59 h59;conv=>cbv
   have h59:=wrap_u32 h59;refine AH ?_;intro j60 hj60;conv=>cbv
   obtain⟨w60,hw60⟩:=B4 (n:=n59) (by omega);have ew60:=hw60.eq;have fw60:=hw60.lt;refine⟨w60,fun _=>⟨by show _<List.length (α:=UInt32) o1;(first | omega | (simp;omega)),B3 hw60⟩,?_⟩;intro (l60:List UInt32) (hl60:l60=List.set (α:=UInt32) o1 j60 w60);have gl60:l60.length=o1.length:=by rw[hl60,List.length_set]
   conv=>cbv
   intro n62 h62;conv=>cbv
   refine AH ?_;have h62:=Dt (p:=4294967296) h62 rfl;intro n63 h63;conv=>cbv
   refine AI ?_;refine⟨m.length-(k'+1),?_,?_⟩
   ·omega
   rw[hJ1];refine⟨l60,n1,n62.toNat,k'+1,n62,L1,n63,rfl,rfl,⟨by rw[hl60,List.length_set];exact ho1,by rw[hl60,List.length_set];exact hn1,hL1,⟨by omega⟩,by omega,⟨by omega⟩,by omega⟩,?_,rfl⟩;have hj:j60=i'+k':=by omega
   have hj2:j49=i'+k':=by omega
   rw[hj2] at hx50;rw[hl60,hj,CB hx37,show i'+(k'+1)=i'+k'+1 by omega];refine Pz (q:=x50) (xi:=x30.toNat) (yk:=x37.toNat) (old:=x50.toNat) (c:=c') rfl (by omega) hx50 rfl hinv1 ?_ rfl;rw[ep] at h44;omega
  have B0:=AO h17;have h0:b=0:=Dx.1 (by rw[<-hm];exact List.length_eq_zero_iff.1 (by omega));exact AD ⟨⟨rfl,.inr (.inl ⟨_,congrArg _ (by rw[hz,h0];rfl)⟩),trivial⟩,trivial⟩
 have k13:=AO h13;have h0:a=0:=Dx.1 (by rw[<-hl];exact List.length_eq_zero_iff.1 (by have k13:=AO h13;omega));exact AD ⟨⟨rfl,.inr (.inl ⟨_,congrArg _ (by rw[hz,h0,Nat.zero_mul];rfl)⟩),trivial⟩,trivial⟩
end Go.Abs
namespace Go.Abs
open Go.RowKit
variable {b b1 b2 b3 c:Bool} {l l1 l2 l3 z:List UInt32} {x y:Int}
theorem gq {i:Nat} {x:UInt32} {n:Int} (g:l[i]? =some x) (h:i+1=l.length) (f:n=x.toNat):Ef b l=(n !=0):=by
 have d:l.getLast? =some x:=by rw[List.getLast?_eq_getElem?,<-g];congr 1;omega
 unfold Ef;rw[d,f]
 show (x !=0)=_
 rw[Bool.eq_iff_iff];simp only[bne_iff_ne,ne_eq];rw[<-UInt32.toNat_inj]
 show ¬x.toNat=0↔_
 omega
theorem Xs (t:x=if b=true then -(AE l:Int) else AE l) (s:l.length<=17592186044416) (o:Af x c z):CF 349 [.agg (BC b l)] (.agg (BC c z)):=by
 refine AM Tryz.func349 fun E h=>?_
 conv=>cbv
 obtain⟨u,d⟩:=xU (AS (AE l));refine AB h (D5 rfl d) ?_;conv=>cbv
 obtain⟨v,g⟩:=xU u;refine AB (r:= .one (.sl .u32 v)) h (IW g (by rw[d,<-JZ];exact Nat.le_trans (M8 l) s)) ?_;try conv=>cbv
 obtain⟨j,k,f⟩:=AW (x);refine AB (r:= .agg [.bool j,.sl .u32 k]) h (ER (by rw[g,d,Aw];exact t) f) ?_;try conv=>cbv
 refine g2 rfl ?_;exact AD ⟨⟨rfl,congrArg _ ((f.uniq o rfl).1.symm),congrArg _ ((f.uniq o rfl).2.symm),trivial⟩,trivial⟩
theorem Qa (o:Af x b l) (u:l.length<=17592186044416) (s:Af (-x) c z):CF 360 [.agg (BC b l)] (.agg (BC c z)):=by
 refine AM Tryz.func360 fun E k=>?_
 conv=>cbv
 intro B t;conv=>cbv
 obtain⟨v,f⟩:=xU (AS (AE l));refine AB k (D5 rfl f) ?_;conv=>cbv
 have t8:v=l:=by rw[f];exact o.trim
 obtain⟨A,g⟩:=xU l;refine AB (r:= .one (.sl .u32 A)) k (IW (g.trans t8.symm) (by rw[t8];exact u)) ?_;try conv=>cbv
 obtain⟨h,j,d⟩:=AW (-x);refine AB (r:= .agg [.bool h,.sl .u32 j]) k (ER (by rw[g,t];exact WQ o.Dz) d) ?_;try conv=>cbv
 refine g2 rfl ?_;exact AD ⟨⟨rfl,congrArg _ ((d.uniq s rfl).1.symm),congrArg _ ((d.uniq s rfl).2.symm),trivial⟩,trivial⟩
theorem X8 {c:Int} (k:x=if b=true then -(AE l:Int) else AE l) (j:c=B7 x):CF 356 [.agg (BC b l)] (.one (.int .i64 c)):=by
 refine AM Tryz.func356 fun E o=>?_
 conv=>cbv
 refine .inr ?_;obtain⟨u,d⟩:=xU (AS (AE l));refine AB o (D5 rfl d) ?_;conv=>cbv
 rintro t ⟨f,f7⟩;conv=>cbv
 intro s h;conv=>cbv
 cases s <;> conv=>cbv
 ·have r:=AN h;cases b <;> conv=>cbv
  ·have g:AE l≠0:=fun e=>by rw[d,e] at f;exact (AN h) f
   exact AD ⟨⟨rfl,congrArg _ (by rw[j,Mw k g];rfl),trivial⟩,trivial⟩
  have g:AE l≠0:=fun e=>by rw[d,e] at f;exact (AN h) f
  exact AD ⟨⟨rfl,congrArg _ (by rw[j,Mw k g];rfl),trivial⟩,trivial⟩
 have r:=AO h;have g:AE l=0:=by rw[d] at f;exact Dx.1 (List.length_eq_zero_iff.1 (by omega))
 exact AD ⟨⟨rfl,congrArg _ (by rw[j,k,g];unfold B7;simp),trivial⟩,trivial⟩
theorem Jn {c:Int} (f:Af x b l) (d:c=B7 x):CF 356 [.agg (BC b l)] (.one (.int .i64 c)):=X8 f.Dz d
theorem Qc (f:Af x b l) (d:l.length<=17592186044416) (g:Af x c z):CF 349 [.agg (BC b l)] (.agg (BC c z)):=Xs f.Dz d g
theorem QM {c:Int} (u:Af x b1 l1) (v:Af y b2 l2) (F:c=BQ x y):CF 370 [.agg (BC b1 l1),.agg (BC b2 l2)] (.one (.int .i64 c)):=by
 refine AM Tryz.func370 fun E r=>?_
 conv=>cbv
 obtain⟨J,f⟩:=xI (B7 x);refine AB r (Jn u f) ?_;conv=>cbv
 obtain⟨B,d⟩:=xI (B7 y);refine AB r (Jn v d) ?_;conv=>cbv
 refine g2 rfl ?_;intro A s;conv=>cbv
 cases A <;> conv=>cbv
 ·have o:=BY s;obtain⟨C,j⟩:=xU (AS (AE l1));refine AB r (D5 rfl j) ?_;conv=>cbv
  have t20:C=l1:=by rw[j];exact u.trim
  obtain⟨D,k⟩:=xU (AS (AE l2));refine AB r (D5 rfl k) ?_;conv=>cbv
  have t23:D=l2:=by rw[k];exact v.trim
  obtain⟨I,g⟩:=xI (BQ x.natAbs y.natAbs);refine AB r (Li (t20.trans u.BD) (t23.trans v.BD) g) ?_;conv=>cbv
  intro G t;conv=>cbv
  refine⟨fun _=>by rw[t,f,g];exact fH _ _ _,?_⟩;refine g2 rfl ?_;exact AD ⟨⟨rfl,congrArg _ (by rw[F,t,f,g];exact aG (by rw[<-f,<-d];exact o)),trivial⟩,trivial⟩
 have o:=BZ s;obtain⟨H,h⟩:=xI (BQ J B);refine AB r (QN h) ?_;conv=>cbv
 exact AD ⟨⟨rfl,congrArg _ (by rw[F,h,f,d];exact aF (by rw[<-f,<-d];exact o)),trivial⟩,trivial⟩
theorem NJ (v:Af x b1 l1) (A:Af y b2 l2) (B:Af (x+y) b3 l3) (s1:l1.length<=17592186044416) (s2:l2.length<=17592186044416):CF 384 [.agg (BC b1 l1),.agg (BC b2 l2)] (.agg (BC b3 l3)):=by
 refine AM Tryz.func384 fun E k=>?_
 conv=>cbv
 obtain⟨T,F⟩:=xU (AS (AE l1));refine AB k (D5 rfl F) ?_;conv=>cbv
 have t9:T=l1:=by rw[F];exact v.trim
 obtain⟨O,o⟩:=xU (AS (AE l2));refine AB k (D5 rfl o) ?_;conv=>cbv
 have t12:O=l2:=by rw[o];exact A.trim
 refine g2 rfl ?_;intro M C;conv=>cbv
 cases M <;> conv=>cbv
 ·have B0:=Nv C;obtain⟨S,f⟩:=xI (BQ x.natAbs y.natAbs);refine AB k (Li (t9.trans v.BD) (t12.trans A.BD) f) ?_;conv=>cbv
  intro N D;conv=>cbv
  cases N <;> conv=>cbv
  ·have d:=AY D;obtain⟨R,u⟩:=xU (AS (x.natAbs-y.natAbs));refine AB (r:= .one (.sl .u32 R)) k (Oq (t9.trans v.BD) (t12.trans A.BD) u (by rw[f] at d;have:=HT d;omega) (by rw[t9];exact s1)) ?_;try conv=>cbv
   obtain⟨I,L,j⟩:=AW (x+y);refine AB (r:= .agg [.bool I,.sl .u32 L]) k (ER (by rw[u,Aw,Int.add_comm];rw[f] at d;exact LQ A.neg v.neg (Ne.symm B0) (by have:=HT d;omega)) j) ?_;try conv=>cbv
   refine g2 rfl ?_;exact AD ⟨⟨rfl,congrArg _ ((j.uniq B rfl).1.symm),congrArg _ ((j.uniq B rfl).2.symm),trivial⟩,trivial⟩
  have d:=AZ D;obtain⟨Q,t⟩:=xU (AS (y.natAbs-x.natAbs));refine AB (r:= .one (.sl .u32 Q)) k (Oq (t12.trans A.BD) (t9.trans v.BD) t (by rw[f] at d;have:=HU d;omega) (by rw[t12];exact s2)) ?_;try conv=>cbv
  obtain⟨H,K,h⟩:=AW (x+y);refine AB (r:= .agg [.bool H,.sl .u32 K]) k (ER (by rw[t,Aw];rw[f] at d;exact LQ v.neg A.neg B0 (by have:=HU d;omega)) h) ?_;try conv=>cbv
  refine g2 rfl ?_;exact AD ⟨⟨rfl,congrArg _ ((h.uniq B rfl).1.symm),congrArg _ ((h.uniq B rfl).2.symm),trivial⟩,trivial⟩
 have B0:=Nw C;obtain⟨P,s⟩:=xU (AS (x.natAbs+y.natAbs));refine AB (r:= .one (.sl .u32 P)) k (VN (t9.trans v.BD) (t12.trans A.BD) s (by rw[t9];exact s1) (by rw[t12];exact s2)) ?_;try conv=>cbv
 obtain⟨G,J,g⟩:=AW (x+y);refine AB (r:= .agg [.bool G,.sl .u32 J]) k (ER (by rw[s,Aw];exact add_same v.neg (B0.trans A.neg)) g) ?_;try conv=>cbv
 refine g2 rfl ?_;exact AD ⟨⟨rfl,congrArg _ ((g.uniq B rfl).1.symm),congrArg _ ((g.uniq B rfl).2.symm),trivial⟩,trivial⟩
theorem EU (s:Af x b1 l1) (t:Af y b2 l2) (B:Af (x*y) b3 l3) (s1:l1.length<=17592186044416) (s2:l2.length<=17592186044416):CF 371 [.agg (BC b1 l1),.agg (BC b2 l2)] (.agg (BC b3 l3)):=by
 refine AM Tryz.func371 fun E o=>?_
 conv=>cbv
 intro D C;conv=>cbv
 obtain⟨u,f⟩:=xU (AS (AE l1));refine AB o (D5 rfl f) ?_;conv=>cbv
 have t12:u=l1:=by rw[f];exact s.trim
 obtain⟨v,g⟩:=xU (AS (AE l2));refine AB o (D5 rfl g) ?_;conv=>cbv
 have t15:v=l2:=by rw[g];exact t.trim
 obtain⟨A,h⟩:=xU (AS (x.natAbs*y.natAbs));refine AB (r:= .one (.sl .u32 A)) o (gV (t12.trans s.BD) (t15.trans t.BD) h (by rw[t12];exact s1) (by rw[t15];exact s2)) ?_;try conv=>cbv
 obtain⟨j,k,d⟩:=AW (x*y);refine AB (r:= .agg [.bool j,.sl .u32 k]) o (ER (by rw[h,Aw,C];exact Uj s.neg t.neg) d) ?_;try conv=>cbv
 refine g2 rfl ?_;exact AD ⟨⟨rfl,congrArg _ ((d.uniq B rfl).1.symm),congrArg _ ((d.uniq B rfl).2.symm),trivial⟩,trivial⟩
theorem Qq (A:c=Ef b l):CF 386 [.agg (BC b l)] (.one (.bool c)):=by
 refine AM Tryz.func386 fun E J=>?_
 conv=>cbv
 rintro K ⟨I,f6⟩;conv=>cbv
 intro H F;conv=>cbv
 cases H <;> conv=>cbv
 ·have G:=AN F;intro k f;conv=>cbv
  cases k <;> conv=>cbv
  ·have j:=Bf f
   exfalso;omega
  have j:=Bg f;intro o v;conv=>cbv
  refine AI ?_;obtain⟨r,d⟩:=AL (l:=l) (i:=(o).toNat) (by omega);refine⟨r,fun _=>⟨by omega,d⟩,?_⟩;try conv=>cbv
  intro C g;have s:=g.eq;have f23:=g.lt;conv=>cbv
  intro D u;conv=>cbv
  exact AD ⟨⟨rfl,congrArg _ (by rw[A,u];exact gq d (by omega) s),trivial⟩,trivial⟩
 have G:=AO F;intro B t;conv=>cbv
 cases B <;> conv=>cbv
 ·have h:=CN t;intro k f;conv=>cbv
  cases k <;> conv=>cbv
  ·have j:=Bf f;exact AD ⟨⟨rfl,congrArg _ (by rw[A,List.eq_nil_of_length_eq_zero (by omega:l.length=0),h];rfl),trivial⟩,trivial⟩
  have j:=Bg f;intro o v;conv=>cbv
  refine AI ?_;obtain⟨r,d⟩:=AL (l:=l) (i:=(o).toNat) (by omega);refine⟨r,fun _=>⟨by omega,d⟩,?_⟩;try conv=>cbv
  intro C g;have s:=g.eq;have f23:=g.lt;conv=>cbv
  intro D u;conv=>cbv
  exfalso;omega
 have h:=CO t;exact AD ⟨⟨rfl,congrArg _ (by rw[A,List.eq_nil_of_length_eq_zero (by omega:l.length=0),h];rfl),trivial⟩,trivial⟩
end Go.Abs
namespace Go.Abs
open Go.RowKit
variable {a b n:Int} {e p q:Nat}
theorem Pp (h:n=IntKind.u64.wrap (a*2^min b.toNat IntKind.u64.bits)) (g:a=p) (j:b=e) (he:e<=64:=by omega):n=((p*2^e%18446744073709551616:Nat):Int):=by
 have d:min b.toNat IntKind.u64.bits=e:=by rw[j];show min e 64=e;omega
 have f:=wrap_u64 h;rw[f,d,g];simp
theorem Po (h:n=IntKind.u32.wrap (a*2^min b.toNat IntKind.u32.bits)) (g:a=p) (j:b=e) (he:e<=32:=by omega):n=((p*2^e%4294967296:Nat):Int):=by
 have d:min b.toNat IntKind.u32.bits=e:=by rw[j];show min e 32=e;omega
 have f:=wrap_u32 h;rw[f,d,g];simp
theorem shr_var {m:Nat} (h:n=a.fdiv (2^min b.toNat m)) (f:a=p) (g:b=e) (he:e<=m):n=((p/2^e:Nat):Int):=by
 have d:min b.toNat m=e:=by rw[g];simp;omega
 rw[h,d,f,Int.fdiv_eq_ediv_of_nonneg _ (by have:=Int.pow_pos (n:=2) (m:=e) (by decide);omega)];simp
theorem Mf (h:n=IntKind.u32.wrap (BitVec.ofInt IntKind.u32.bits a ||| BitVec.ofInt IntKind.u32.bits b).toNat) (f:a=p) (g:b=q) (j:p<4294967296) (k:q<4294967296):n=((p ||| q:Nat):Int):=by
 have d:=wrap_u32 h;rw[d,f,g]
 have e1:(BitVec.ofInt IntKind.u32.bits (p:Int) ||| BitVec.ofInt IntKind.u32.bits (q:Int)).toNat=p ||| q:=by
  rw[BitVec.toNat_or,BitVec.toNat_ofInt,BitVec.toNat_ofInt]
  show ((p:Int)%4294967296).toNat ||| ((q:Int)%4294967296).toNat=_
  congr 1 <;> omega
 rw[e1];have:p ||| q<2^32:=Nat.or_lt_two_pow j k
 omega
theorem VG (h:n=IntKind.u64.wrap (BitVec.ofInt IntKind.u64.bits a ||| BitVec.ofInt IntKind.u64.bits b).toNat) (f:a=p) (g:b=q) (j:p<18446744073709551616) (k:q<18446744073709551616):n=((p ||| q:Nat):Int):=by
 have d:=wrap_u64 h;rw[d,f,g]
 have e1:(BitVec.ofInt IntKind.u64.bits (p:Int) ||| BitVec.ofInt IntKind.u64.bits (q:Int)).toNat=p ||| q:=by
  rw[BitVec.toNat_or,BitVec.toNat_ofInt,BitVec.toNat_ofInt]
  show ((p:Int)%18446744073709551616).toNat ||| ((q:Int)%18446744073709551616).toNat=_
  congr 1 <;> omega
 rw[e1];have:p ||| q<2^64:=Nat.or_lt_two_pow j k
 omega
theorem IE (h:n=IntKind.u64.wrap (BitVec.ofInt IntKind.u64.bits a ||| BitVec.ofInt IntKind.u64.bits b).toNat) (f:a=((p*4294967296:Nat):Int)) (g:b=q) (k:p<4294967296) (j:q<4294967296):n=((q+4294967296*p:Nat):Int):=by
 rw[VG h f g (by omega) (by omega),Nat.or_comm,Nat.mul_comm];have:=JF (a:=q) (b:=p) (d:=32) j;exact congrArg _ this
end Go.Abs
