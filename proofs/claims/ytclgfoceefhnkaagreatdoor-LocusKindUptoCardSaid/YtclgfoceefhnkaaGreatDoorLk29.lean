/- Part 30 of a proof. Conditions: each theorem's own. -/
import Derived.Test.YtclgfoceefhnkaaGreatDoorLk27
set_option linter.all false
set_option maxHeartbeats 80000000
set_option maxRecDepth 20000
open Go.Proofs
namespace Go.Abs
open Go.RowKit
abbrev JW:T:=(.pr .str (.pr .i64 (.pr .i64 (.pr .i64 (.pr .i64 (.pr .i64 .bool))))))
def Kp:List (el JW):=[(⟨#[102,105,120]⟩,1,0,2,1,2,false),(⟨#[100,105,115,116,97,110,99,101]⟩,2,0,1,2,1,false),(⟨#[105,110,99,105,100,101,110,116]⟩,3,0,0,0,1,false),(⟨#[111,102,102,115,101,116]⟩,3,0,1,2,1,true),(⟨#[97,110,103,108,101]⟩,4,0,1,3,1,false),(⟨#[112,97,114,97,108,108,101,108]⟩,4,0,0,0,1,false),(⟨#[112,101,114,112,101,110,100,105,99,117,108,97,114]⟩,4,0,0,0,1,false),(⟨#[101,113,117,97,108]⟩,4,0,0,0,1,false),(⟨#[109,105,100,112,111,105,110,116]⟩,3,0,0,0,2,false),(⟨#[115,121,109,109,101,116,114,105,99]⟩,4,0,0,0,2,false),(⟨#[104,111,114,105,122,111,110,116,97,108]⟩,2,0,0,0,1,false),(⟨#[118,101,114,116,105,99,97,108]⟩,2,0,0,0,1,false),(⟨#[111,110,99,105,114,99,108,101]⟩,1,1,0,0,1,false),(⟨#[114,97,100,105,117,115]⟩,0,1,1,2,1,false),(⟨#[115,97,109,101,114,97,100,105,117,115]⟩,0,2,0,0,1,false),(⟨#[116,97,110,103,101,110,116,108,105,110,101]⟩,2,1,0,0,1,true),(⟨#[116,97,110,103,101,110,116,99,105,114,99,108,101]⟩,0,2,0,0,1,true)]
def CD (k:Int):el JW:=if 1<=k/\k<=17 then Kp.getD (k-1).toNat (⟨#[]⟩,0,0,0,0,0,false) else (⟨#[]⟩,0,0,0,0,0,false)
variable {a b k x:Int} {c:Bool} {i j:Nat}
theorem Vu (h:¬(1<=k/\k<=17)):CD k=(⟨#[]⟩,0,0,0,0,0,false):=if_neg h
theorem eJ {x:el JW} (h:1<=k/\k<=17) (d:Kp[(k-1).toNat]? =some x):CD k=x:=by
 unfold CD;rw[if_pos h,List.getD_eq_getElem?_getD,d];rfl
def ID (k:Int):Bool:=decide (1<=k/\k<=17)
def dfB:List Int->Nat->Bool
 | l,0=>true
 | l,i+1=>dfB l i&& !((l.take i).contains (l.getD i 0))
def DE (n:Int) (l:List Int):Bool:=l.all fun x=>decide (0<=x/\x<n)
def Fk (l:List Int):Prop:=∀(i j:Nat) (x y:Int),j<i->l[i]? =some x->l[j]? =some y->x≠y
theorem Ni {p:Int->Bool} {X:List Int} (h:X[i]? =some x):(X.drop i).all p=(p x&&(X.drop (i+1)).all p):=by
 have d:=Dm h;rw[List.drop_eq_getElem_cons d,List.all_cons];rw[List.getElem?_eq_getElem d] at h;rw[Option.some.inj h]
theorem Ld {X:List Int} {y:Int} (d:X[i]? =some x) (f:X[i]? =some y):x=y:=Option.some.inj (d.symm.trans f)
theorem af {X:List Int} (h:∀(q:Nat) (x y:Int),q<j->X[i]? =some x->X[q]? =some y->x≠y) (l:X[i]? =some a) (m:X[j]? =some b) (d:a≠b):∀(q:Nat) (x y:Int),q<j+1->X[i]? =some x->X[q]? =some y->x≠y:=fun q x y n f g=>by
 by_cases e:q=j
 ·subst e;rw[Ld f l,Ld g m];exact d
 exact h q x y (by omega) f g
theorem ag {X:List Int} (h:∀(p q:Nat) (x y:Int),p<i->q<p->X[p]? =some x->X[q]? =some y->x≠y) (m:i<=j) (g:∀(q:Nat) (x y:Int),q<j->X[i]? =some x->X[q]? =some y->x≠y):
  ∀(p q:Nat) (x y:Int),p<i+1->q<p->X[p]? =some x->X[q]? =some y->x≠y:=fun p q x y n l d f=>by
 by_cases e:p=i
 ·subst e;exact g q x y (by omega) d f
 exact h p q x y (by omega) l d f
theorem Qi:CF 192 [] (.one (.sl (.pr .str (.pr .i64 (.pr .i64 (.pr .i64 (.pr .i64 (.pr .i64 .bool)))))) Kp)):=by
 refine CA Tryz.func192 (by kernel_rfl) rfl fun E d=>?_
 conv=>cbv
 refine⟨Kp,fun _=>⟨rfl,by decide,rfl,⟨rfl,⟨rfl,rfl,rfl,rfl,rfl,rfl,rfl,trivial⟩,⟨rfl,⟨rfl,rfl,rfl,rfl,rfl,rfl,rfl,trivial⟩,⟨rfl,⟨rfl,rfl,rfl,rfl,rfl,rfl,rfl,trivial⟩,⟨rfl,⟨rfl,rfl,rfl,rfl,rfl,rfl,rfl,trivial⟩,⟨rfl,⟨rfl,rfl,rfl,rfl,rfl,rfl,rfl,trivial⟩,⟨rfl,⟨rfl,rfl,rfl,rfl,rfl,rfl,rfl,trivial⟩,⟨rfl,⟨rfl,rfl,rfl,rfl,rfl,rfl,rfl,trivial⟩,⟨rfl,⟨rfl,rfl,rfl,rfl,rfl,rfl,rfl,trivial⟩,⟨rfl,⟨rfl,rfl,rfl,rfl,rfl,rfl,rfl,trivial⟩,⟨rfl,⟨rfl,rfl,rfl,rfl,rfl,rfl,rfl,trivial⟩,⟨rfl,⟨rfl,rfl,rfl,rfl,rfl,rfl,rfl,trivial⟩,⟨rfl,⟨rfl,rfl,rfl,rfl,rfl,rfl,rfl,trivial⟩,⟨rfl,⟨rfl,rfl,rfl,rfl,rfl,rfl,rfl,trivial⟩,⟨rfl,⟨rfl,rfl,rfl,rfl,rfl,rfl,rfl,trivial⟩,⟨rfl,⟨rfl,rfl,rfl,rfl,rfl,rfl,rfl,trivial⟩,⟨rfl,⟨rfl,rfl,rfl,rfl,rfl,rfl,rfl,trivial⟩,⟨rfl,⟨rfl,rfl,rfl,rfl,rfl,rfl,rfl,trivial⟩,trivial⟩⟩⟩⟩⟩⟩⟩⟩⟩⟩⟩⟩⟩⟩⟩⟩⟩⟩,.inr ?_⟩;try conv=>cbv
 exact AD ⟨t2,trivial⟩
theorem Qe {nm:ByteArray} {d e f:Int} {g:Bool} (A:Db k) (s:(nm,a,b,d,e,f,g)=CD k) (r:c=ID k):CF 92 [.one (.int .i64 k)] (.AJ [(true,[.str nm,.int .i64 a,.int .i64 b,.int .i64 d,.int .i64 e,.int .i64 f,.bool g]),(false,[.bool c])]):=by
 unfold Db at A;obtain⟨RL,m⟩:∃z:List (el JW),z=Kp:=⟨_,rfl⟩
 have B:RL.length=17:=by rw[m];rfl
 refine CA Tryz.func92 (by kernel_rfl) rfl fun E y=>?_
 conv=>cbv
 intro D w;conv=>cbv
 cases D <;> conv=>cbv
 ·have C:=AY w;refine AB y (m ▸ Qi) ?_;conv=>cbv
  rintro I ⟨H,f9⟩;conv=>cbv
  intro u o;conv=>cbv
  cases u <;> conv=>cbv
  ·have t:=Bf o;refine AB y (m ▸ Qi) ?_;conv=>cbv
   intro v q;conv=>cbv
   refine AI ?_;obtain⟨p,n⟩:=AL (l:=RL) (i:=(v).toNat) (by omega);refine⟨p,fun _=>⟨by omega,n⟩,?_⟩;try conv=>cbv
   obtain⟨F,G,b1,d1,e1,f1,g1⟩:=p;have h:=s.trans (eJ (by omega) (by rw[<-q,<-m];exact n));simp only[Prod.mk.injEq] at h;exact AD ⟨⟨rfl,congrArg _ (h.1),congrArg _ (h.2.1),congrArg _ (h.2.2.1),congrArg _ (h.2.2.2.1),congrArg _ (h.2.2.2.2.1),congrArg _ (h.2.2.2.2.2.1),congrArg _ (h.2.2.2.2.2.2),trivial⟩,⟨rfl,congrArg _ (by rw[r];exact decide_eq_true (by omega)),trivial⟩,trivial⟩
  have t:=Bg o;have h:=s.trans (Vu (by omega));simp only[Prod.mk.injEq] at h;exact AD ⟨⟨rfl,congrArg _ (h.1),congrArg _ (h.2.1),congrArg _ (h.2.2.1),congrArg _ (h.2.2.2.1),congrArg _ (h.2.2.2.2.1),congrArg _ (h.2.2.2.2.2.1),congrArg _ (h.2.2.2.2.2.2),trivial⟩,⟨rfl,congrArg _ (by rw[r];exact decide_eq_false (by omega)),trivial⟩,trivial⟩
 have C:=AZ w;have h:=s.trans (Vu (by omega));simp only[Prod.mk.injEq] at h;exact AD ⟨⟨rfl,congrArg _ (h.1),congrArg _ (h.2.1),congrArg _ (h.2.2.1),congrArg _ (h.2.2.2.1),congrArg _ (h.2.2.2.2.1),congrArg _ (h.2.2.2.2.2.1),congrArg _ (h.2.2.2.2.2.2),trivial⟩,⟨rfl,congrArg _ (by rw[r];exact decide_eq_false (by omega)),trivial⟩,trivial⟩
theorem XG {X:List Int} {n:Int} (C:c=DE n X):CF 93 [.one (.sl .i64 X),.one (.int .i64 n)] (.one (.bool c)):=by
 refine CA Tryz.func93 (by kernel_rfl) rfl fun E M=>?_
 conv=>cbv
 refine .inr ?_;obtain⟨z,g⟩:=xJ fun vs A k=>∃(i':Nat) (i:Int),vs=[.one (.sl .i64 X),.one (.int .i64 n),.one (.int .i64 i)]/\(AR i i'/\i'<=X.length)/\c=DE n (X.drop i')/\k=X.length-i'
 refine⟨[],[0,1,5],[],z,⟨X.length-0,by rw[g];exact⟨0,0,rfl,⟨Ak 0,by omega⟩,C,rfl⟩⟩,?_⟩;intro vs A I y;rw[g] at y;obtain⟨i',i,rfl,⟨D,F⟩,hinv,G⟩:=y;conv=>cbv
 have L:=D.eq;rintro N ⟨K,f8⟩;conv=>cbv
 intro J w;conv=>cbv
 cases J <;> conv=>cbv
 ·have H:=AY w;exact AD ⟨⟨rfl,congrArg _ (by rw[hinv,List.drop_eq_nil_of_le (by omega)];rfl),trivial⟩,trivial⟩
 have H:=AZ w;refine .inr ?_;obtain⟨u,d⟩:=AL (l:=X) (i:=i') (by omega);refine⟨u,fun _=>⟨by omega,by rw[show (i).toNat=i' by omega];exact d⟩,?_⟩;try conv=>cbv
 intro s h;conv=>cbv
 cases s <;> conv=>cbv
 ·have o:=AY h;obtain⟨v,f⟩:=AL (l:=X) (i:=i') (by omega);refine⟨v,fun _=>⟨by omega,by rw[show (i).toNat=i' by omega];exact f⟩,?_⟩;try conv=>cbv
  intro t m;conv=>cbv
  cases t <;> conv=>cbv
  ·have q:=DI m;intro r B;conv=>cbv
   refine AI ?_;refine⟨X.length-(i'+1),?_,?_⟩
   ·omega
   rw[g];exact⟨i'+1,r,rfl,⟨⟨by omega⟩,by omega⟩,hinv.trans ((Ni (p:=fun x=>decide (0<=x/\x<n)) d).trans (by have e:=Ld d f;rw[decide_eq_true (by omega)];rfl)),rfl⟩
  have q:=DJ m;exact AD ⟨⟨rfl,congrArg _ (by rw[hinv];refine (Ni (p:=fun x=>decide (0<=x/\x<n)) d).trans ?_;have e:=Ld d f;rw[decide_eq_false (by omega)];rfl),trivial⟩,trivial⟩
 have o:=AZ h;exact AD ⟨⟨rfl,congrArg _ (by rw[hinv];refine (Ni (p:=fun x=>decide (0<=x/\x<n)) d).trans ?_;rw[decide_eq_false (by omega)];rfl),trivial⟩,trivial⟩
theorem Im {X:List Int} (H:c=true↔Fk X):CF 95 [.one (.sl .i64 X)] (.one (.bool c)):=by
 refine CA Tryz.func95 (by kernel_rfl) rfl fun E Z=>?_
 conv=>cbv
 refine .inr ?_;obtain⟨I,n⟩:=xJ fun vs v k=>∃(i':Nat) (i:Int),vs=[.one (.sl .i64 X),.one (.int .i64 i)]/\(AR i i'/\i'<=X.length)/\(∀(p q:Nat) (x y:Int),p<i'->q<p->X[p]? =some x->X[q]? =some y->x≠y)/\k=X.length-i'
 refine⟨[],[0,3],[],I,⟨X.length-0,by rw[n];exact⟨0,0,rfl,⟨Ak 0,by omega⟩,fun p q x y h=>absurd h (Nat.not_lt_zero p),rfl⟩⟩,?_⟩;intro vs v S r;rw[n] at r;obtain⟨i',i,rfl,⟨M,N⟩,hinv,P⟩:=r;conv=>cbv
 have W:=M.eq;rintro n7 ⟨V,f7⟩;conv=>cbv
 intro U G;conv=>cbv
 cases U <;> conv=>cbv
 ·have R:=AY G;exact AD ⟨⟨rfl,congrArg _ (H.2 fun p q x y h a b=>hinv p q x y (by have:=Dm a;omega) h a b),trivial⟩,trivial⟩
 have R:=AZ G;refine .inr ?_;refine .inr ?_;obtain⟨J,o⟩:=xJ fun vs v k=>∃(g:Nat) (j:Int),vs=[.one (.sl .i64 X),.one (.int .i64 i),.one (.int .i64 j)]/\(AR j g/\g<=i')/\(∀(q:Nat) (x y:Int),q<g->X[i']? =some x->X[q]? =some y->x≠y)/\k=i'-g
 refine⟨[],[0,3,4],[],J,⟨i'-0,by rw[o];exact⟨0,0,rfl,⟨Ak 0,by omega⟩,fun q x y h=>absurd h (Nat.not_lt_zero q),rfl⟩⟩,?_⟩;intro vs v T r;rw[o] at r;obtain⟨g,j,rfl,⟨r,O⟩,m,Q⟩:=r;conv=>cbv
 have Y:=r.eq;intro A t;conv=>cbv
 cases A <;> conv=>cbv
 ·have w:=AY t;intro z K;conv=>cbv
  refine AI ?_;refine⟨X.length-(i'+1),?_,?_⟩
  ·omega
  rw[n];exact⟨i'+1,z,rfl,⟨⟨by omega⟩,by omega⟩,ag hinv (by omega) m,rfl⟩
 have w:=AZ t;refine .inr ?_;obtain⟨D,d⟩:=AL (l:=X) (i:=i') (by omega);refine⟨D,fun _=>⟨by omega,by rw[show (i).toNat=i' by omega];exact d⟩,?_⟩;try conv=>cbv
 obtain⟨F,f⟩:=AL (l:=X) (i:=g) (by omega);refine⟨F,fun _=>⟨by omega,by rw[show (j).toNat=g by omega];exact f⟩,?_⟩;try conv=>cbv
 intro C u;conv=>cbv
 refine g2 rfl ?_;cases C <;> conv=>cbv
 ·have s:=AN u;intro B L;conv=>cbv
  refine AI ?_;refine⟨i'-(g+1),?_,?_⟩
  ·omega
  rw[o];exact⟨g+1,B,rfl,⟨⟨by omega⟩,by omega⟩,af m d f s,rfl⟩
 have s:=AO u;exact AD ⟨⟨rfl,congrArg _ (Bool.eq_false_iff.2 fun e=>H.1 e i' g _ _ (by omega) d f s),trivial⟩,trivial⟩
end Go.Abs
