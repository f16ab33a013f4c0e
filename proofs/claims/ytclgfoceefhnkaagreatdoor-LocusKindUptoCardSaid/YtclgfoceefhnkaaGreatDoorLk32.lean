/- Part 33 of a proof. Conditions: each theorem's own. -/
import Derived.Test.YtclgfoceefhnkaaGreatDoorLk31
set_option linter.all false
set_option maxHeartbeats 80000000
set_option maxRecDepth 20000
open Go.Proofs
namespace Go.Abs
open Go.RowKit
def kP (k:Int) (L:List Int) (c0 c1:Bool):Int:=
 if k=13 then (if (decide ((L.length:Int)>0) !=c0)=true then 2 else 0)
 else if k=16 then (if c0=true/\L.length=0 then 1 else 0)
 else if k=17 then (if (c0 !=c1)=true then 2 else 0)
 else if L.length=0 then 0
 else if k=1\/k=9 then 3 else if k=2 then 2 else if k=3\/k=6\/k=11\/k=12 then 1
 else if k=4 then (if L.getD 0 0=0 then 1 else 0) else if k=10 then (if L.getD 0 0<2 then 3 else 0)
 else if k=5\/k=7 then (if L.length=2 then 2 else 1) else if k=8 then (if L.length=2 then 1 else 2) else 0
def C4 (h h2:Bool) (x y:Int):Int:=if h=true/\h2=true then y else if h=true\/h2=true then x else 0
def kF (k:Int) (a p0 h h2 c0 c1:Bool):Int:=
 if k=1\/k=9 then (if a=true then 1 else 0) else if k=2 then (if a=true then 2 else 0)
 else if k=3\/k=11\/k=12 then (if a=true then 3 else 0) else if k=4 then (if p0=true then 3 else 0)
 else if k=5\/k=7 then C4 h h2 3 2 else if k=6 then C4 h h2 3 3 else if k=8 then C4 h h2 2 3
 else if k=10 then (if h=true then 1 else 0) else if k=13 then (if (a !=c0)=true then 2 else 0)
 else if k=16 then (if a=false/\c0=true then 3 else 0) else if k=17 then (if (c0 !=c1)=true then 2 else 0) else 0
def kD (f:Int):Int:=if f=1 then 3 else if f=2 then 2 else if f=3 then 1 else 0
variable {a:Bool} {c f kd sd x:Int}
theorem PJ {b:Bool} {y:Int} (d:0<=x/\x<4) (g:0<=y/\y<4):0<=C4 a b x y/\C4 a b x y<4:=by unfold C4;split <;> (try split) <;> omega
theorem cD {k:Int} {p0 h d g c1:Bool} (i:f=kF k a p0 h d g c1):0<=f/\f<4:=by
 rw[i];unfold kF;have j:=PJ (a:=h) (b:=d) (x:=3) (y:=2) (by omega) (by omega);have l:=PJ (a:=h) (b:=d) (x:=3) (y:=3) (by omega) (by omega);have m:=PJ (a:=h) (b:=d) (x:=2) (y:=3) (by omega) (by omega)
 repeat' (first | exact j | exact l | exact m | omega | split)
theorem cC (h:0<=f/\f<4) (b:[(0:Int),3,2,1][f.toNat]? =some x):kD f=x:=by
 have:f=0\/f=1\/f=2\/f=3:=by omega
 rcases this with rfl | rfl | rfl | rfl <;> (cases b;rfl)
def sP (k s i:Int) (n:Bool) (c0 c1:Int):Bool:=
 if i<0 then false else if k=14\/k=15 then true else if k=13\/k=16 then !n else if k=17 then (s==1)&&(c0 !=c1) else false
theorem UH (t:Int):∀(l:List Int) (i:Nat),¬Bn t l i<0->t∈l
 | [],i,h=>absurd (by rw[Bn];decide) h
 | p::r,i,h=>by
  rw[Bn] at h
  by_cases e:t=p
  ·rw[e];exact List.mem_cons_self
  rw[if_neg e] at h;exact List.mem_cons_of_mem _ (UH t r (i+1) h)
theorem UK {n t:Int} {l:List Int} (h:DE n l=true) (b:¬Bn t l 0<0):0<=t/\t<n:=of_decide_eq_true (List.all_eq_true.1 h t (UH t l 0 b))
theorem LA {P C:List Int} {V:List Ex} {AU:List Int} {t:Int} (hP:P.length<=1000000) (hC:DE (AU.length:Nat) C=true) (h1:kd=13\/kd=16->1<=C.length) (h2:kd=17->2<=C.length) (q:c=kP kd (CP t P 0) (DQ AU C t 0) (DQ AU C t 1)):CF 10 [.agg [.int .i64 kd,.sl .i64 P,.sl .i64 C,.sl .ex V,.int .i64 sd],.one (.sl .i64 AU),.one (.int .i64 t)] (.one (.int .i64 c)):=by
 obtain⟨R,hR⟩:∃z:List Int,z=CP t P 0:=⟨_,rfl⟩
 rw[<-hR] at q;refine CA Tryz.func10 (by kernel_rfl) rfl fun E hE=>?_
 conv=>cbv
 refine AB hE (VM hP hR) ?_;conv=>cbv
 refine .inr ?_;intro aD a1;conv=>cbv
 cases aD <;> conv=>cbv
 ·have d:=AN a1;intro aF a5;conv=>cbv
  cases aF <;> conv=>cbv
  ·have g:=AN a5;intro aH a7;conv=>cbv
   cases aH <;> conv=>cbv
   ·have h:=AN a7;rintro b6 ⟨aZ,f40⟩;conv=>cbv
    intro aJ a8;conv=>cbv
    cases aJ <;> conv=>cbv
    ·have aB:=AN a8;refine .inr ?_;intro aK aa;conv=>cbv
     refine .inr ?_;cases aK <;> conv=>cbv
     ·have j:=AN aa;intro aL ab;conv=>cbv
      cases aL <;> conv=>cbv
      ·have k:=AN ab;intro aM ad;conv=>cbv
       cases aM <;> conv=>cbv
       ·have m:=AN ad;intro aN ae;conv=>cbv
        refine .inr ?_;cases aN <;> conv=>cbv
        ·have n:=AN ae;intro C9 af;conv=>cbv
         refine .inr ?_;cases C9 <;> conv=>cbv
         ·have o:=AN af;intro aO ag;conv=>cbv
          refine .inr ?_;cases aO <;> conv=>cbv
          ·have p:=AN ag;intro C3 ah;conv=>cbv
           cases C3 <;> conv=>cbv
           ·have s:=AN ah;intro aP ai;conv=>cbv
            refine .inr ?_;cases aP <;> conv=>cbv
            ·have u:=AN ai;intro aR ak;conv=>cbv
             refine .inr ?_;cases aR <;> conv=>cbv
             ·have w:=AN ak;intro aT an;conv=>cbv
              refine .inr ?_;cases aT <;> conv=>cbv
              ·have y:=AN an;intro aU ao;conv=>cbv
               cases aU <;> conv=>cbv
               ·have D:=AN ao;intro aW aq;conv=>cbv
                cases aW <;> conv=>cbv
                ·have N:=AN aq;have b:¬R.length=0:=by omega
                 exact AD ⟨⟨rfl,congrArg _ (by rw[q];unfold kP;simp[d,g,h,j,k,m,n,o,p,s,u,w,y,D,N,b]),trivial⟩,trivial⟩
                have N:=AO aq;rintro b7 ⟨b0,f75⟩;conv=>cbv
                intro aX ar;conv=>cbv
                cases aX <;> conv=>cbv
                ·have aC:=AN ar;have b:¬R.length=0:=by omega
                 have v:¬R.length=2:=by omega
                 exact AD ⟨⟨rfl,congrArg _ (by rw[q];unfold kP;simp[d,g,h,j,k,m,n,o,p,s,u,w,y,D,N,b,v]),trivial⟩,trivial⟩
                have aC:=AO ar;have b:¬R.length=0:=by omega
                have v:R.length=2:=by omega
                exact AD ⟨⟨rfl,congrArg _ (by rw[q];unfold kP;simp[d,g,h,j,k,m,n,o,p,s,u,w,y,D,N,b,v]),trivial⟩,trivial⟩
               have D:=AO ao;rintro aV ⟨ax,f70⟩;conv=>cbv
               intro U F;conv=>cbv
               cases U <;> conv=>cbv
               ·have T:=AN F;have b:¬R.length=0:=by omega
                have v:¬R.length=2:=by omega
                exact AD ⟨⟨rfl,congrArg _ (by rw[q];unfold kP;simp[d,g,h,j,k,m,n,o,p,s,u,w,y,D,b,v]),trivial⟩,trivial⟩
               have T:=AO F;have b:¬R.length=0:=by omega
               have v:R.length=2:=by omega
               exact AD ⟨⟨rfl,congrArg _ (by rw[q];unfold kP;simp[d,g,h,j,k,m,n,o,p,s,u,w,y,D,b,v]),trivial⟩,trivial⟩
              have y:=AO an;rintro aV ⟨ax,f70⟩;conv=>cbv
              intro U F;conv=>cbv
              cases U <;> conv=>cbv
              ·have T:=AN F;have b:¬R.length=0:=by omega
               have v:¬R.length=2:=by omega
               exact AD ⟨⟨rfl,congrArg _ (by rw[q];unfold kP;simp[d,g,h,j,k,m,n,o,p,s,u,w,y,b,v]),trivial⟩,trivial⟩
              have T:=AO F;have b:¬R.length=0:=by omega
              have v:R.length=2:=by omega
              exact AD ⟨⟨rfl,congrArg _ (by rw[q];unfold kP;simp[d,g,h,j,k,m,n,o,p,s,u,w,y,b,v]),trivial⟩,trivial⟩
             have w:=AO ak;obtain⟨X,K⟩:=AL (l:=R) (i:=0) (by omega);refine⟨X,fun _=>⟨by omega,K⟩,?_⟩;try conv=>cbv
             intro aS al;conv=>cbv
             cases aS <;> conv=>cbv
             ·have S:=AY al;have b:¬R.length=0:=by omega
              have O:R[0]? =some X:=K;exact AD ⟨⟨rfl,congrArg _ (by rw[q];unfold kP;simp[d,g,h,j,k,m,n,o,p,s,u,w,b,O,S]),trivial⟩,trivial⟩
             have S:=AZ al;have b:¬R.length=0:=by omega
             have O:R[0]? =some X:=K;exact AD ⟨⟨rfl,congrArg _ (by rw[q];unfold kP;simp[d,g,h,j,k,m,n,o,p,s,u,w,b,O,S]),trivial⟩,trivial⟩
            have u:=AO ai;obtain⟨W,J⟩:=AL (l:=R) (i:=0) (by omega);refine⟨W,fun _=>⟨by omega,J⟩,?_⟩;try conv=>cbv
            intro aQ aj;conv=>cbv
            cases aQ <;> conv=>cbv
            ·have Q:=AN aj;have b:¬R.length=0:=by omega
             have O:R[0]? =some W:=J;exact AD ⟨⟨rfl,congrArg _ (by rw[q];unfold kP;simp[d,g,h,j,k,m,n,o,p,s,u,b,O,Q]),trivial⟩,trivial⟩
            have Q:=AO aj;have b:¬R.length=0:=by omega
            have O:R[0]? =some W:=J;exact AD ⟨⟨rfl,congrArg _ (by rw[q];unfold kP;simp[d,g,h,j,k,m,n,o,p,s,u,b,O,Q]),trivial⟩,trivial⟩
           have s:=AO ah;have b:¬R.length=0:=by omega
           exact AD ⟨⟨rfl,congrArg _ (by rw[q];unfold kP;simp[d,g,h,j,k,m,n,o,p,s,b]),trivial⟩,trivial⟩
          have p:=AO ag;have b:¬R.length=0:=by omega
          exact AD ⟨⟨rfl,congrArg _ (by rw[q];unfold kP;simp[d,g,h,j,k,m,n,o,p,b]),trivial⟩,trivial⟩
         have o:=AO af;have b:¬R.length=0:=by omega
         exact AD ⟨⟨rfl,congrArg _ (by rw[q];unfold kP;simp[d,g,h,j,k,m,n,o,b]),trivial⟩,trivial⟩
        have n:=AO ae;have b:¬R.length=0:=by omega
        exact AD ⟨⟨rfl,congrArg _ (by rw[q];unfold kP;simp[d,g,h,j,k,m,n,b]),trivial⟩,trivial⟩
       have m:=AO ad;have b:¬R.length=0:=by omega
       exact AD ⟨⟨rfl,congrArg _ (by rw[q];unfold kP;simp[d,g,h,j,k,m,b]),trivial⟩,trivial⟩
      have k:=AO ab;have b:¬R.length=0:=by omega
      exact AD ⟨⟨rfl,congrArg _ (by rw[q];unfold kP;simp[d,g,h,j,k,b]),trivial⟩,trivial⟩
     have j:=AO aa;have b:¬R.length=0:=by omega
     exact AD ⟨⟨rfl,congrArg _ (by rw[q];unfold kP;simp[d,g,h,j,b]),trivial⟩,trivial⟩
    have aB:=AO a8;have b:R.length=0:=by omega
    exact AD ⟨⟨rfl,congrArg _ (by rw[q];unfold kP;simp[d,g,h,b]),trivial⟩,trivial⟩
   have h:=AO a7;obtain⟨av,H⟩:=xB (DQ AU C t 0);refine .inr (.inl ⟨[.one (.int .i64 0),.one (.BW (.sl .i64) AU 0),.one (.BW (.pr .i64 (.pr (.sl .i64) (.pr (.sl .i64) (.pr (.sl .ex) .i64)))) (kd,P,C,V,sd) 0),.one (.BW .i64 t 0)],.one (.bool av),fun _=>⟨rfl,⟨rfl,(.sl .i64),AU,rfl,rfl⟩,⟨rfl,(.pr .i64 (.pr (.sl .i64) (.pr (.sl .i64) (.pr (.sl .ex) .i64)))),(kd,P,C,V,sd),rfl,rfl⟩,⟨rfl,.i64,t,rfl,rfl⟩,trivial⟩,fun _=>ES hE (MG (Ak 0) (by omega) hC H),?_⟩);try conv=>cbv
   obtain⟨aw,I⟩:=xB (DQ AU C t 1);refine .inr (.inl ⟨[.one (.int .i64 1),.one (.BW (.sl .i64) AU 0),.one (.BW (.pr .i64 (.pr (.sl .i64) (.pr (.sl .i64) (.pr (.sl .ex) .i64)))) (kd,P,C,V,sd) 0),.one (.BW .i64 t 0)],.one (.bool aw),fun _=>⟨rfl,⟨rfl,(.sl .i64),AU,rfl,rfl⟩,⟨rfl,(.pr .i64 (.pr (.sl .i64) (.pr (.sl .i64) (.pr (.sl .ex) .i64)))),(kd,P,C,V,sd),rfl,rfl⟩,⟨rfl,.i64,t,rfl,rfl⟩,trivial⟩,fun _=>ES hE (MG (Ak 1) (by omega) hC I),?_⟩);try conv=>cbv
   intro aI M;conv=>cbv
   cases aI <;> conv=>cbv
   ·have aA:=Ig M;exact AD ⟨⟨rfl,congrArg _ (by rw[q];unfold kP;rw[<-H,<-I,<-M];simp[d,g,h]),trivial⟩,trivial⟩
   have aA:=Ih M;exact AD ⟨⟨rfl,congrArg _ (by rw[q];unfold kP;rw[<-H,<-I,<-M];simp[d,g,h]),trivial⟩,trivial⟩
  have g:=AO a5;obtain⟨Y,B⟩:=xB (DQ AU C t 0);refine .inr (.inl ⟨[.one (.int .i64 0),.one (.BW (.sl .i64) AU 0),.one (.BW (.pr .i64 (.pr (.sl .i64) (.pr (.sl .i64) (.pr (.sl .ex) .i64)))) (kd,P,C,V,sd) 0),.one (.BW .i64 t 0)],.one (.bool Y),fun _=>⟨rfl,⟨rfl,(.sl .i64),AU,rfl,rfl⟩,⟨rfl,(.pr .i64 (.pr (.sl .i64) (.pr (.sl .i64) (.pr (.sl .ex) .i64)))),(kd,P,C,V,sd),rfl,rfl⟩,⟨rfl,.i64,t,rfl,rfl⟩,trivial⟩,fun _=>ES hE (MG (Ak 0) (by omega) hC B),?_⟩);try conv=>cbv
  cases Y <;> conv=>cbv
  ·exact AD ⟨⟨rfl,congrArg _ (by rw[q];unfold kP;rw[<-B];simp[d,g]),trivial⟩,trivial⟩
  rintro b5 ⟨aY,f29⟩;conv=>cbv
  intro aG a6;conv=>cbv
  cases aG <;> conv=>cbv
  ·have az:=AN a6;have b:¬R.length=0:=by omega
   exact AD ⟨⟨rfl,congrArg _ (by rw[q];unfold kP;rw[<-B];simp[d,g,b]),trivial⟩,trivial⟩
  have az:=AO a6;have b:R.length=0:=by omega
  exact AD ⟨⟨rfl,congrArg _ (by rw[q];unfold kP;rw[<-B];simp[d,g,b]),trivial⟩,trivial⟩
 have d:=AO a1;rintro b3 ⟨Z,f18⟩;conv=>cbv
 intro b4 a2;conv=>cbv
 obtain⟨au,G⟩:=xB (DQ AU C t 0);refine .inr (.inl ⟨[.one (.int .i64 0),.one (.BW (.sl .i64) AU 0),.one (.BW (.pr .i64 (.pr (.sl .i64) (.pr (.sl .i64) (.pr (.sl .ex) .i64)))) (kd,P,C,V,sd) 0),.one (.BW .i64 t 0)],.one (.bool au),fun _=>⟨rfl,⟨rfl,(.sl .i64),AU,rfl,rfl⟩,⟨rfl,(.pr .i64 (.pr (.sl .i64) (.pr (.sl .i64) (.pr (.sl .ex) .i64)))),(kd,P,C,V,sd),rfl,rfl⟩,⟨rfl,.i64,t,rfl,rfl⟩,trivial⟩,fun _=>ES hE (MG (Ak 0) (by omega) hC G),?_⟩);try conv=>cbv
 intro aE L;conv=>cbv
 cases aE <;> conv=>cbv
 ·have ay:=Ig L;exact AD ⟨⟨rfl,congrArg _ (by rw[q];unfold kP;rw[<-Z,<-a2,<-G,<-L];simp[d]),trivial⟩,trivial⟩
 have ay:=Ih L;exact AD ⟨⟨rfl,congrArg _ (by rw[q];unfold kP;rw[<-Z,<-a2,<-G,<-L];simp[d]),trivial⟩,trivial⟩
theorem bH {P C:List Int} {V:List Ex} {AU:List Int} {t:Int} (hP:P.length<=1000000) (hC:DE (AU.length:Nat) C=true) (h1:kd=13\/kd=16->1<=C.length) (h2:kd=17->2<=C.length) (h3:kd=4->1<=P.length) (h4:kd=5\/kd=6\/kd=7\/kd=8->P.length=4) (h5:kd=10->2<=P.length) (q:c=kF kd (BH P t) (P.getD 0 0==t) (hasB P t 0) (hasB P t 2) (DQ AU C t 0) (DQ AU C t 1)):CF 39 [.agg [.int .i64 kd,.sl .i64 P,.sl .i64 C,.sl .ex V,.int .i64 sd],.one (.sl .i64 AU),.one (.int .i64 t)] (.one (.int .i64 c)):=by
 refine CA Tryz.func39 (by kernel_rfl) rfl fun E K=>?_
 conv=>cbv
 obtain⟨B,b⟩:=xB (BH P t);refine AB K (Oa b) ?_;conv=>cbv
 refine .inr ?_;intro aw W;conv=>cbv
 refine .inr ?_;cases aw <;> conv=>cbv
 ·have d:=AN W;intro ax X;conv=>cbv
  refine .inr ?_;cases ax <;> conv=>cbv
  ·have g:=AN X;intro ay Y;conv=>cbv
   refine .inr ?_;cases ay <;> conv=>cbv
   ·have h:=AN Y;intro az Z;conv=>cbv
    refine .inr ?_;cases az <;> conv=>cbv
    ·have j:=AN Z;intro aA a1;conv=>cbv
     refine .inr ?_;cases aA <;> conv=>cbv
     ·have k:=AN a1;intro aB a2;conv=>cbv
      refine .inr ?_;cases aB <;> conv=>cbv
      ·have m:=AN a2;intro aC a5;conv=>cbv
       refine .inr ?_;cases aC <;> conv=>cbv
       ·have n:=AN a5;intro aE a7;conv=>cbv
        refine .inr ?_;cases aE <;> conv=>cbv
        ·have o:=AN a7;intro aF a8;conv=>cbv
         cases aF <;> conv=>cbv
         ·have p:=AN a8;intro aG aa;conv=>cbv
          cases aG <;> conv=>cbv
          ·have s:=AN aa;intro aH ab;conv=>cbv
           cases aH <;> conv=>cbv
           ·have u:=AN ab;intro aI ad;conv=>cbv
            refine .inr ?_;cases aI <;> conv=>cbv
            ·have v:=AN ad;intro aJ ae;conv=>cbv
             refine .inr ?_;cases aJ <;> conv=>cbv
             ·have w:=AN ae;intro aL ah;conv=>cbv
              refine .inr ?_;cases aL <;> conv=>cbv
              ·have z:=AN ah;intro aO aj;conv=>cbv
               refine .inr ?_;cases aO <;> conv=>cbv
               ·have N:=AN aj;exact AD ⟨⟨rfl,congrArg _ (by rw[q];unfold kF;rw[<-b];simp[d,g,h,j,k,m,n,o,p,s,u,v,w,z,N]),trivial⟩,trivial⟩
               have N:=AO aj;obtain⟨aV,H⟩:=xI (Bv AU C 0);refine AB K (HS (Ak 0) (by omega) hC H) ?_;conv=>cbv
               intro aq ak;conv=>cbv
               obtain⟨aW,I⟩:=xI (Bv AU C 1);refine AB K (HS (Ak 1) (by omega) hC I) ?_;conv=>cbv
               intro ar al;conv=>cbv
               intro aP an;conv=>cbv
               refine g2 rfl ?_;cases aP <;> conv=>cbv
               ·have T:=Ig an;exact AD ⟨⟨rfl,congrArg _ (by rw[q];unfold kF;rw[<-b,show DQ AU C t 0=aq from (by show (Bv AU C 0==t)=_;rw[<-H,<-ak]),show DQ AU C t 1=ar from (by show (Bv AU C 1==t)=_;rw[<-I,<-al])];simp[d,g,h,j,k,m,n,o,p,s,u,v,w,z,N,T]),trivial⟩,trivial⟩
               have T:=Ih an;exact AD ⟨⟨rfl,congrArg _ (by rw[q];unfold kF;rw[<-b,show DQ AU C t 0=aq from (by show (Bv AU C 0==t)=_;rw[<-H,<-ak]),show DQ AU C t 1=ar from (by show (Bv AU C 1==t)=_;rw[<-I,<-al])];simp[d,g,h,j,k,m,n,o,p,s,u,v,w,z,N,T]),trivial⟩,trivial⟩
              have z:=AO ah;intro aM ai;conv=>cbv
              cases aM <;> conv=>cbv
              ·have M:=CN ai;exact AD ⟨⟨rfl,congrArg _ (by rw[q];unfold kF;rw[<-b];simp[d,g,h,j,k,m,n,o,p,s,u,v,w,z,M]),trivial⟩,trivial⟩
              have M:=CO ai;obtain⟨aU,G⟩:=xI (Bv AU C 0);refine AB K (HS (Ak 0) (by omega) hC G) ?_;conv=>cbv
              intro aN L;conv=>cbv
              cases aN <;> conv=>cbv
              ·have av:=AN L;exact AD ⟨⟨rfl,congrArg _ (by rw[q];unfold kF;rw[<-b,show DQ AU C t 0=false from (by show (Bv AU C 0==t)=_;rw[<-G,<-L])];simp[d,g,h,j,k,m,n,o,p,s,u,v,w,z,M]),trivial⟩,trivial⟩
              have av:=AO L;exact AD ⟨⟨rfl,congrArg _ (by rw[q];unfold kF;rw[<-b,show DQ AU C t 0=true from (by show (Bv AU C 0==t)=_;rw[<-G,<-L])];simp[d,g,h,j,k,m,n,o,p,s,u,v,w,z,M]),trivial⟩,trivial⟩
             have w:=AO ae;obtain⟨aT,F⟩:=xI (Bv AU C 0);refine AB K (HS (Ak 0) (by omega) hC F) ?_;conv=>cbv
             intro ao af;conv=>cbv
             intro aK ag;conv=>cbv
             cases aK <;> conv=>cbv
             ·have S:=Ig ag;exact AD ⟨⟨rfl,congrArg _ (by rw[q];unfold kF;rw[<-b,show DQ AU C t 0=ao from (by show (Bv AU C 0==t)=_;rw[<-F,<-af])];simp[d,g,h,j,k,m,n,o,p,s,u,v,w,S]),trivial⟩,trivial⟩
             have S:=Ih ag;exact AD ⟨⟨rfl,congrArg _ (by rw[q];unfold kF;rw[<-b,show DQ AU C t 0=ao from (by show (Bv AU C 0==t)=_;rw[<-F,<-af])];simp[d,g,h,j,k,m,n,o,p,s,u,v,w,S]),trivial⟩,trivial⟩
            have v:=AO ad;obtain⟨au,D⟩:=xB (hasB P t 0);refine AB K (OV (Ak 0) (by omega) (by omega) D) ?_;conv=>cbv
            cases au <;> conv=>cbv
            ·exact AD ⟨⟨rfl,congrArg _ (by rw[q];unfold kF;rw[<-b,<-D];simp[d,g,h,j,k,m,n,o,p,s,u,v]),trivial⟩,trivial⟩
            exact AD ⟨⟨rfl,congrArg _ (by rw[q];unfold kF;rw[<-b,<-D];simp[d,g,h,j,k,m,n,o,p,s,u,v]),trivial⟩,trivial⟩
           have u:=AO ab;obtain⟨aS,Q⟩:=xI (C4 (hasB P t 0) (hasB P t 2) 2 3);refine AB K (Mi (by omega) Q) ?_;conv=>cbv
           exact AD ⟨⟨rfl,congrArg _ (by rw[q];unfold kF;rw[<-b,<-Q];simp[d,g,h,j,k,m,n,o,p,s,u]),trivial⟩,trivial⟩
          have s:=AO aa;obtain⟨aR,O⟩:=xI (C4 (hasB P t 0) (hasB P t 2) 3 3);refine AB K (Mi (by omega) O) ?_;conv=>cbv
          exact AD ⟨⟨rfl,congrArg _ (by rw[q];unfold kF;rw[<-b,<-O];simp[d,g,h,j,k,m,n,o,p,s]),trivial⟩,trivial⟩
         have p:=AO a8;obtain⟨aQ,y⟩:=xI (C4 (hasB P t 0) (hasB P t 2) 3 2);refine AB K (Mi (by omega) y) ?_;conv=>cbv
         exact AD ⟨⟨rfl,congrArg _ (by rw[q];unfold kF;rw[<-b,<-y];simp[d,g,h,j,k,m,n,o,p]),trivial⟩,trivial⟩
        have o:=AO a7;obtain⟨aQ,y⟩:=xI (C4 (hasB P t 0) (hasB P t 2) 3 2);refine AB K (Mi (by omega) y) ?_;conv=>cbv
        exact AD ⟨⟨rfl,congrArg _ (by rw[q];unfold kF;rw[<-b,<-y];simp[d,g,h,j,k,m,n,o]),trivial⟩,trivial⟩
       have n:=AO a5;obtain⟨U,J⟩:=AL (l:=P) (i:=0) (by omega);refine⟨U,fun _=>⟨by omega,J⟩,?_⟩;try conv=>cbv
       intro aD a6;conv=>cbv
       cases aD <;> conv=>cbv
       ·have R:=AN a6;have hg:P[0]? =some U:=J;exact AD ⟨⟨rfl,congrArg _ (by rw[q];unfold kF;rw[<-b];simp[d,g,h,j,k,m,n,hg,R]),trivial⟩,trivial⟩
       have R:=AO a6;have hg:P[0]? =some U:=J;exact AD ⟨⟨rfl,congrArg _ (by rw[q];unfold kF;rw[<-b];simp[d,g,h,j,k,m,n,hg,R]),trivial⟩,trivial⟩
      have m:=AO a2;cases B <;> conv=>cbv
      ·exact AD ⟨⟨rfl,congrArg _ (by rw[q];unfold kF;rw[<-b];simp[d,g,h,j,k,m]),trivial⟩,trivial⟩
      exact AD ⟨⟨rfl,congrArg _ (by rw[q];unfold kF;rw[<-b];simp[d,g,h,j,k,m]),trivial⟩,trivial⟩
     have k:=AO a1;refine .inr ?_;cases B <;> conv=>cbv
     ·exact AD ⟨⟨rfl,congrArg _ (by rw[q];unfold kF;rw[<-b];simp[d,g,h,j,k]),trivial⟩,trivial⟩
     exact AD ⟨⟨rfl,congrArg _ (by rw[q];unfold kF;rw[<-b];simp[d,g,h,j,k]),trivial⟩,trivial⟩
    have j:=AO Z;refine .inr ?_;cases B <;> conv=>cbv
    ·exact AD ⟨⟨rfl,congrArg _ (by rw[q];unfold kF;rw[<-b];simp[d,g,h,j]),trivial⟩,trivial⟩
    exact AD ⟨⟨rfl,congrArg _ (by rw[q];unfold kF;rw[<-b];simp[d,g,h,j]),trivial⟩,trivial⟩
   have h:=AO Y;cases B <;> conv=>cbv
   ·exact AD ⟨⟨rfl,congrArg _ (by rw[q];unfold kF;rw[<-b];simp[d,g,h]),trivial⟩,trivial⟩
   exact AD ⟨⟨rfl,congrArg _ (by rw[q];unfold kF;rw[<-b];simp[d,g,h]),trivial⟩,trivial⟩
  have g:=AO X;cases B <;> conv=>cbv
  ·exact AD ⟨⟨rfl,congrArg _ (by rw[q];unfold kF;rw[<-b];simp[d,g]),trivial⟩,trivial⟩
  exact AD ⟨⟨rfl,congrArg _ (by rw[q];unfold kF;rw[<-b];simp[d,g]),trivial⟩,trivial⟩
 have d:=AO W;refine .inr ?_;cases B <;> conv=>cbv
 ·exact AD ⟨⟨rfl,congrArg _ (by rw[q];unfold kF;rw[<-b];simp[d]),trivial⟩,trivial⟩
 exact AD ⟨⟨rfl,congrArg _ (by rw[q];unfold kF;rw[<-b];simp[d]),trivial⟩,trivial⟩
theorem YP {P C:List Int} {V:List Ex} {AU:List Int} {t:Int} (u:P.length<=1000000) (q:DE (AU.length:Nat) C=true) (k:kd=13\/kd=16->1<=C.length) (m:kd=17->2<=C.length) (n:kd=4->1<=P.length) (o:kd=5\/kd=6\/kd=7\/kd=8->P.length=4) (p:kd=10->2<=P.length) (v:c=kD (kF kd (BH P t) (P.getD 0 0==t) (hasB P t 0) (hasB P t 2) (DQ AU C t 0) (DQ AU C t 1))):CF 11 [.agg [.int .i64 kd,.sl .i64 P,.sl .i64 C,.sl .ex V,.int .i64 sd],.one (.sl .i64 AU),.one (.int .i64 t)] (.one (.int .i64 c)):=by
 refine CA Tryz.func11 (by kernel_rfl) rfl fun E s=>?_
 conv=>cbv
 refine⟨[(0:Int),(3:Int),(2:Int),(1:Int)],fun _=>⟨rfl,by decide,rfl,⟨rfl,t1,⟨rfl,t1,⟨rfl,t1,⟨rfl,t1,trivial⟩⟩⟩⟩⟩,.inr ?_⟩;try conv=>cbv
 obtain⟨h,b⟩:=xI (kF kd (BH P t) (P.getD 0 0==t) (hasB P t 0) (hasB P t 2) (DQ AU C t 0) (DQ AU C t 1));have g:=cD b;refine AB s (bH u q k m n o p b) ?_;conv=>cbv
 obtain⟨j,d⟩:=AL (l:=[(0:Int),(3:Int),(2:Int),(1:Int)]) (i:=(h).toNat) (by show _<4;omega);refine⟨j,fun _=>⟨by omega,d⟩,?_⟩;try conv=>cbv
 exact AD ⟨⟨rfl,congrArg _ (by rw[v,<-b];exact cC g d),trivial⟩,trivial⟩
theorem NR {P C:List Int} {V:List Ex} {AU:List Int} {t:Int} {c:Bool} (N:DE (AU.length:Nat) C=true) (h2:kd=17->2<=C.length) (q:c=sP kd sd (Bn t C 0) (BH P (AU.getD t.toNat 0)) (Bv AU C 0) (Bv AU C 1)):CF 12 [.agg [.int .i64 kd,.sl .i64 P,.sl .i64 C,.sl .ex V,.int .i64 sd],.one (.sl .i64 AU),.one (.int .i64 t)] (.one (.bool c)):=by
 refine CA Tryz.func12 (by kernel_rfl) rfl fun E R=>?_
 conv=>cbv
 obtain⟨a8,I⟩:=xI (Bn t C 0);refine AB R (QV I) ?_;conv=>cbv
 intro T y;conv=>cbv
 cases T <;> conv=>cbv
 ·have S:=AY y;refine .inr ?_;intro U z;conv=>cbv
  refine .inr ?_;cases U <;> conv=>cbv
  ·have B0:=AN z;intro W B;conv=>cbv
   cases W <;> conv=>cbv
   ·have h:=AN B;intro X D;conv=>cbv
    refine .inr ?_;cases X <;> conv=>cbv
    ·have k:=AN D;intro Y F;conv=>cbv
     cases Y <;> conv=>cbv
     ·have o:=AN F;intro a1 G;conv=>cbv
      cases a1 <;> conv=>cbv
      ·have p:=AN G;have b:¬Bn t C 0<0:=by omega
       exact AD ⟨⟨rfl,congrArg _ (by rw[q];unfold sP;simp[B0,h,k,o,p,b]),trivial⟩,trivial⟩
      have p:=AO G;intro a2 H;conv=>cbv
      cases a2 <;> conv=>cbv
      ·have w:=AN H;refine g2 rfl ?_;have b:¬Bn t C 0<0:=by omega
       exact AD ⟨⟨rfl,congrArg _ (by rw[q];unfold sP;simp[B0,h,k,o,p,b,w]),trivial⟩,trivial⟩
      have w:=AO H;obtain⟨J,m⟩:=AL (l:=C) (i:=0) (by omega);refine⟨J,fun _=>⟨by omega,m⟩,?_⟩;try conv=>cbv
      have a5:=Je N m;obtain⟨K,s⟩:=AL (l:=AU) (i:=(J).toNat) (by omega);refine⟨K,fun _=>⟨by omega,s⟩,?_⟩;try conv=>cbv
      obtain⟨L,n⟩:=AL (l:=C) (i:=1) (by omega);refine⟨L,fun _=>⟨by omega,n⟩,?_⟩;try conv=>cbv
      have a6:=Je N n;obtain⟨M,u⟩:=AL (l:=AU) (i:=(L).toNat) (by omega);refine⟨M,fun _=>⟨by omega,u⟩,?_⟩;try conv=>cbv
      intro a7 Q;conv=>cbv
      refine g2 rfl ?_;have b:¬Bn t C 0<0:=by omega
      exact AD ⟨⟨rfl,congrArg _ (by rw[q];unfold sP;rw[show Bv AU C 0=K from Lm m s,show Bv AU C 1=M from Lm n u];simp[B0,h,k,o,p,b,w,Q]),trivial⟩,trivial⟩
     have o:=AO F;have hw:=UK (t:=t) N (by omega);obtain⟨j,g⟩:=AL (l:=AU) (i:=(t).toNat) (by omega);refine⟨j,fun _=>⟨by omega,g⟩,?_⟩;try conv=>cbv
     obtain⟨O,d⟩:=xB (BH P j);refine AB R (QP d) ?_;conv=>cbv
     intro Z v;conv=>cbv
     refine g2 rfl ?_;have b:¬Bn t C 0<0:=by omega
     exact AD ⟨⟨rfl,congrArg _ (by rw[q];unfold sP;rw[show AU.getD t.toNat 0=j from KL g,<-d];simp[B0,h,k,o,b,v]),trivial⟩,trivial⟩
    have k:=AO D;have hw:=UK (t:=t) N (by omega);obtain⟨j,g⟩:=AL (l:=AU) (i:=(t).toNat) (by omega);refine⟨j,fun _=>⟨by omega,g⟩,?_⟩;try conv=>cbv
    obtain⟨O,d⟩:=xB (BH P j);refine AB R (QP d) ?_;conv=>cbv
    intro Z v;conv=>cbv
    refine g2 rfl ?_;have b:¬Bn t C 0<0:=by omega
    exact AD ⟨⟨rfl,congrArg _ (by rw[q];unfold sP;rw[show AU.getD t.toNat 0=j from KL g,<-d];simp[B0,h,k,b,v]),trivial⟩,trivial⟩
   have h:=AO B;have b:¬Bn t C 0<0:=by omega
   exact AD ⟨⟨rfl,congrArg _ (by rw[q];unfold sP;simp[B0,h,b]),trivial⟩,trivial⟩
  have B0:=AO z;have b:¬Bn t C 0<0:=by omega
  exact AD ⟨⟨rfl,congrArg _ (by rw[q];unfold sP;simp[B0,b]),trivial⟩,trivial⟩
 have S:=AZ y;have b:Bn t C 0<0:=by omega
 exact AD ⟨⟨rfl,congrArg _ (by rw[q];unfold sP;simp[b]),trivial⟩,trivial⟩
def sD (k s:Int) (f n:Bool) (c0 c1:Int):Bool:=
 if f=false then false else if k=13\/k=16 then !n else if k=17 then (s==1)&&(c0 !=c1) else true
theorem Yj {P C:List Int} {V:List Ex} {AU:List Int} {t:Int} {c:Bool} (M:DE (AU.length:Nat) C=true) (h1:kd=13\/kd=16->1<=C.length) (h2:kd=17->2<=C.length) (D:c=sD kd sd (BH C t) (BH P (Bv AU C 0)) (Bv AU C 0) (Bv AU C 1)):CF 13 [.agg [.int .i64 kd,.sl .i64 P,.sl .i64 C,.sl .ex V,.int .i64 sd],.one (.sl .i64 AU),.one (.int .i64 t)] (.one (.bool c)):=by
 refine CA Tryz.func13 (by kernel_rfl) rfl fun E B=>?_
 conv=>cbv
 refine .inr ?_;obtain⟨J0,o⟩:=xJ fun vs bl k=>∃(i':Nat) (i:Int) (b:Bool),vs=[.one (.sl .i64 AU),.one (.int .i64 t),.one (.Ae 3 0 0),.one (.bool b),.one (.int .i64 i)]/\bl=[.var 0 [.int .i64 kd,.sl .i64 P,.sl .i64 C,.sl .ex V,.int .i64 sd]]/\(AR i i'/\i'<=C.length)/\BH C t=(b||BH (C.drop i') t)/\k=C.length-i'
 refine⟨[],[1,2,3,7,8],[3],J0,⟨C.length-0,by rw[o];exact⟨0,0,false,rfl,rfl,⟨Ak 0,by omega⟩,rfl,rfl⟩⟩,?_⟩;intro vs bl a8 hj;rw[o] at hj;obtain⟨i',i,b,rfl,rfl,⟨hi,a6⟩,hinv,a7⟩:=hj;conv=>cbv
 have ei:=hi.eq;rintro aa ⟨a5,f12⟩;conv=>cbv
 intro T F;conv=>cbv
 cases T <;> conv=>cbv
 ·have S:=AY F;intro U G;conv=>cbv
  cases U <;> conv=>cbv
  ·have h:=CN G;refine .inr ?_;intro W H;conv=>cbv
   refine .inr ?_;cases W <;> conv=>cbv
   ·have j:=AN H;intro X I;conv=>cbv
    cases X <;> conv=>cbv
    ·have n:=AN I;intro Z J;conv=>cbv
     cases Z <;> conv=>cbv
     ·have p:=AN J;have m:BH C t=true:=by rw[hinv,List.drop_eq_nil_of_le (by omega),show BH [] t=false from rfl,Bool.or_false];exact h
      exact AD ⟨⟨rfl,congrArg _ (by rw[D];unfold sD;simp[j,n,p,m]),trivial⟩,trivial⟩
     have p:=AO J;intro a1 K;conv=>cbv
     cases a1 <;> conv=>cbv
     ·have w:=AN K;refine g2 rfl ?_;have m:BH C t=true:=by rw[hinv,List.drop_eq_nil_of_le (by omega),show BH [] t=false from rfl,Bool.or_false];exact h
      exact AD ⟨⟨rfl,congrArg _ (by rw[D];unfold sD;simp[j,n,p,m,w]),trivial⟩,trivial⟩
     have w:=AO K;obtain⟨ab,q⟩:=xI (Bv AU C 0);refine AB B (HS (Ak 0) (by omega) M q) ?_;conv=>cbv
     obtain⟨ad,s⟩:=xI (Bv AU C 1);refine AB B (HS (Ak 1) (by omega) M s) ?_;conv=>cbv
     intro C9 R;conv=>cbv
     refine g2 rfl ?_;have m:BH C t=true:=by rw[hinv,List.drop_eq_nil_of_le (by omega),show BH [] t=false from rfl,Bool.or_false];exact h
     exact AD ⟨⟨rfl,congrArg _ (by rw[D];unfold sD;rw[<-q,<-s];simp[j,n,p,m,w,R]),trivial⟩,trivial⟩
    have n:=AO I;obtain⟨z,g⟩:=xI (Bv AU C 0);refine AB B (HS (Ak 0) (by omega) M g) ?_;conv=>cbv
    obtain⟨N,d⟩:=xB (BH P z);refine AB B (Oa d) ?_;conv=>cbv
    intro Y v;conv=>cbv
    refine g2 rfl ?_;have m:BH C t=true:=by rw[hinv,List.drop_eq_nil_of_le (by omega),show BH [] t=false from rfl,Bool.or_false];exact h
    exact AD ⟨⟨rfl,congrArg _ (by rw[D];unfold sD;rw[<-g,<-d];simp[j,n,m,v]),trivial⟩,trivial⟩
   have j:=AO H;obtain⟨z,g⟩:=xI (Bv AU C 0);refine AB B (HS (Ak 0) (by omega) M g) ?_;conv=>cbv
   obtain⟨N,d⟩:=xB (BH P z);refine AB B (Oa d) ?_;conv=>cbv
   intro Y v;conv=>cbv
   refine g2 rfl ?_;have m:BH C t=true:=by rw[hinv,List.drop_eq_nil_of_le (by omega),show BH [] t=false from rfl,Bool.or_false];exact h
   exact AD ⟨⟨rfl,congrArg _ (by rw[D];unfold sD;rw[<-g,<-d];simp[j,m,v]),trivial⟩,trivial⟩
  have h:=CO G;have m:BH C t=false:=by rw[hinv,List.drop_eq_nil_of_le (by omega),show BH [] t=false from rfl,Bool.or_false];exact h
  exact AD ⟨⟨rfl,congrArg _ (by rw[D];unfold sD;simp[m]),trivial⟩,trivial⟩
 have S:=AZ F;refine .inr ?_;cases b <;> conv=>cbv
 ·obtain⟨a2,u⟩:=AL (l:=C) (i:=i') (by omega);refine⟨a2,fun _=>⟨by omega,by rw[show (i).toNat=i' by omega];exact u⟩,?_⟩;try conv=>cbv
  intro L Q;conv=>cbv
  intro y O;conv=>cbv
  refine AI ?_;refine⟨C.length-(i'+1),?_,?_⟩
  ·omega
  rw[o];exact⟨i'+1,y,L,rfl,rfl,⟨⟨by omega⟩,by omega⟩,by rw[hinv];show _=(L||_);rw[Bool.false_or,Q];exact Nk u,rfl⟩
 intro y O;conv=>cbv
 refine AI ?_;refine⟨C.length-(i'+1),?_,?_⟩
 ·omega
 rw[o];exact⟨i'+1,y,true,rfl,rfl,⟨⟨by omega⟩,by omega⟩,by rw[hinv];rfl,rfl⟩
end Go.Abs
namespace Go.Abs
open Go.RowKit
def D9 (T:List LR) (A:LR):Prop:=A=[]\/∃B,CF 71 [.agg [.sl (.sl AA) T,.sl AA A]] (.agg [.sl (.sl AA) T,.sl AA B])/\CF 71 [.agg [.sl (.sl AA) T,.sl AA B]] (.agg [.sl (.sl AA) T,.sl AA A])
variable {A A0 A1 A2 A3 A4 A5 A6 A7 A8 A9 Aa vl:LR} {T0 T1 T2 T3 T4 T5 T6 T7 T8 T9 Ta:List LR} {b1 b2:Bool} {cr:List (el An)} {k1 kd Ap sd t:Int} {l1 l2:List UInt32} {r:Rat}
theorem D9.get {T:List LR} (h:D9 T A) (b:0<A.length):∃B,CF 71 [.agg (Ay T A)] (.agg (Ay T B))/\CF 71 [.agg (Ay T B)] (.agg (Ay T A)):=
 h.resolve_left fun e=>by rw[e] at b;exact absurd b (by simp)
theorem IJ (h:CY r):El [] Rm (Re.ofRat r):=El.rat (show Ag ([]:List (List Rat)) from trivial) ((Lc (a:=[r]) (fun z b=>by rw[List.mem_singleton.1 b];exact h)).mono (show 64*1<=Rm by decide))
abbrev QR:List (List Rat)->Prop:=Tf (PN [])
theorem TW {S:Nat} (b:Rm<=S) (d:S<=Sm):Du QR Rm Cm S:=FY (V:=[]) (ns:=[]) (by decide) (fun n g=>by simp at g) b d
theorem g0:Du QR Rm Cm Rm:=TW (Nat.le_refl Rm) (by decide)
theorem Oz (h:CY r) (b:A=em [] (Re.ofRat r)):D9 [] A:=
 .inr ⟨em [] (-(Re.ofRat r)),QZ g0.toGam g0.nil rfl b (IJ h) rfl,QZ g0.toGam g0.nil rfl rfl ((IJ h).neg (show Ag ([]:List (List Rat)) from trivial)) (by rw[b,show- -(Re.ofRat r)=Re.ofRat r by grind])⟩
theorem OH {B:LR} {s:Rat} (h:CY r) (b:CY s) (d:A=em [] (Re.ofRat r)) (g:B=em [] (Re.ofRat s)) {c:Bool} (i:c=true↔Re.ofRat r=Re.ofRat s):CF 35 [.agg (Ay [] A),.agg (Ay [] B)] (.one (.bool c)):=
 YV g0 g0.nil g0.nil rfl rfl d g (IJ h) (IJ b) (TW (S:=2*(Rm+Cm)+1) (by decide) (by decide)) (Nat.le_refl _) i
theorem MZ (T:List LR):D9 T []:= .inl rfl
abbrev Dn (k1:Int) (T0:List LR) (A0:LR) (T1:List LR) (A1:LR) (T2:List LR) (A2:LR) (T3:List LR) (A3:LR) (T4:List LR) (A4:LR) (T5:List LR) (A5:LR) (T6:List LR) (A6:LR) (T7:List LR) (A7:LR) (T8:List LR) (A8:LR) (T9:List LR) (A9:LR):List AC:=[.int .i64 k1,.sl (.sl AA) T0,.sl AA A0,.sl (.sl AA) T1,.sl AA A1,.sl (.sl AA) T2,.sl AA A2,.sl (.sl AA) T3,.sl AA A3,.sl (.sl AA) T4,.sl AA A4,.sl (.sl AA) T5,.sl AA A5,.sl (.sl AA) T6,.sl AA A6,.sl (.sl AA) T7,.sl AA A7,.sl (.sl AA) T8,.sl AA A8,.sl (.sl AA) T9,.sl AA A9]
theorem aV (j:D9 T3 A3):DV Tryz.prog 120 [.one (.Ae 0 0 7)] (.var 0 (Dn k1 T0 A0 T1 A1 T2 A2 T3 A3 T4 A4 T5 A5 T6 A6 T7 A7 T8 A8 T9 A9)) (.AJ []) (.var 0 (Dn k1 T0 A0 T1 A1 T2 A2 T3 A3 T4 A4 T5 A5 T6 A6 T7 A7 T8 A8 T9 A9)):=by
 refine Eg Tryz.func120 (by kernel_rfl) rfl fun E h=>?_
 conv=>cbv
 rintro n ⟨m,f6⟩;conv=>cbv
 intro l g;conv=>cbv
 refine .inr ?_;cases l <;> conv=>cbv
 ·have k:=Bf g;refine fun _=>⟨⟨trivial,rfl,by simp⟩,rfl⟩
 have k:=Bg g;obtain⟨i,b,d⟩:=j.get (by omega);refine AB h b ?_;conv=>cbv
 refine AB h d ?_;conv=>cbv
 refine fun _=>⟨⟨trivial,rfl,by simp⟩,rfl⟩
theorem aW (j:D9 T4 A4):DV Tryz.prog 120 [.one (.Ae 0 0 9)] (.var 0 (Dn k1 T0 A0 T1 A1 T2 A2 T3 A3 T4 A4 T5 A5 T6 A6 T7 A7 T8 A8 T9 A9)) (.AJ []) (.var 0 (Dn k1 T0 A0 T1 A1 T2 A2 T3 A3 T4 A4 T5 A5 T6 A6 T7 A7 T8 A8 T9 A9)):=by
 refine Eg Tryz.func120 (by kernel_rfl) rfl fun E h=>?_
 conv=>cbv
 rintro n ⟨m,f6⟩;conv=>cbv
 intro l g;conv=>cbv
 refine .inr ?_;cases l <;> conv=>cbv
 ·have k:=Bf g;refine fun _=>⟨⟨trivial,rfl,by simp⟩,rfl⟩
 have k:=Bg g;obtain⟨i,b,d⟩:=j.get (by omega);refine AB h b ?_;conv=>cbv
 refine AB h d ?_;conv=>cbv
 refine fun _=>⟨⟨trivial,rfl,by simp⟩,rfl⟩
theorem aX (j:D9 T5 A5):DV Tryz.prog 120 [.one (.Ae 0 0 11)] (.var 0 (Dn k1 T0 A0 T1 A1 T2 A2 T3 A3 T4 A4 T5 A5 T6 A6 T7 A7 T8 A8 T9 A9)) (.AJ []) (.var 0 (Dn k1 T0 A0 T1 A1 T2 A2 T3 A3 T4 A4 T5 A5 T6 A6 T7 A7 T8 A8 T9 A9)):=by
 refine Eg Tryz.func120 (by kernel_rfl) rfl fun E h=>?_
 conv=>cbv
 rintro n ⟨m,f6⟩;conv=>cbv
 intro l g;conv=>cbv
 refine .inr ?_;cases l <;> conv=>cbv
 ·have k:=Bf g;refine fun _=>⟨⟨trivial,rfl,by simp⟩,rfl⟩
 have k:=Bg g;obtain⟨i,b,d⟩:=j.get (by omega);refine AB h b ?_;conv=>cbv
 refine AB h d ?_;conv=>cbv
 refine fun _=>⟨⟨trivial,rfl,by simp⟩,rfl⟩
theorem aY (j:D9 T6 A6):DV Tryz.prog 120 [.one (.Ae 0 0 13)] (.var 0 (Dn k1 T0 A0 T1 A1 T2 A2 T3 A3 T4 A4 T5 A5 T6 A6 T7 A7 T8 A8 T9 A9)) (.AJ []) (.var 0 (Dn k1 T0 A0 T1 A1 T2 A2 T3 A3 T4 A4 T5 A5 T6 A6 T7 A7 T8 A8 T9 A9)):=by
 refine Eg Tryz.func120 (by kernel_rfl) rfl fun E h=>?_
 conv=>cbv
 rintro n ⟨m,f6⟩;conv=>cbv
 intro l g;conv=>cbv
 refine .inr ?_;cases l <;> conv=>cbv
 ·have k:=Bf g;refine fun _=>⟨⟨trivial,rfl,by simp⟩,rfl⟩
 have k:=Bg g;obtain⟨i,b,d⟩:=j.get (by omega);refine AB h b ?_;conv=>cbv
 refine AB h d ?_;conv=>cbv
 refine fun _=>⟨⟨trivial,rfl,by simp⟩,rfl⟩
theorem aZ (j:D9 T7 A7):DV Tryz.prog 120 [.one (.Ae 0 0 15)] (.var 0 (Dn k1 T0 A0 T1 A1 T2 A2 T3 A3 T4 A4 T5 A5 T6 A6 T7 A7 T8 A8 T9 A9)) (.AJ []) (.var 0 (Dn k1 T0 A0 T1 A1 T2 A2 T3 A3 T4 A4 T5 A5 T6 A6 T7 A7 T8 A8 T9 A9)):=by
 refine Eg Tryz.func120 (by kernel_rfl) rfl fun E h=>?_
 conv=>cbv
 rintro n ⟨m,f6⟩;conv=>cbv
 intro l g;conv=>cbv
 refine .inr ?_;cases l <;> conv=>cbv
 ·have k:=Bf g;refine fun _=>⟨⟨trivial,rfl,by simp⟩,rfl⟩
 have k:=Bg g;obtain⟨i,b,d⟩:=j.get (by omega);refine AB h b ?_;conv=>cbv
 refine AB h d ?_;conv=>cbv
 refine fun _=>⟨⟨trivial,rfl,by simp⟩,rfl⟩
theorem aa (j:D9 T8 A8):DV Tryz.prog 120 [.one (.Ae 0 0 17)] (.var 0 (Dn k1 T0 A0 T1 A1 T2 A2 T3 A3 T4 A4 T5 A5 T6 A6 T7 A7 T8 A8 T9 A9)) (.AJ []) (.var 0 (Dn k1 T0 A0 T1 A1 T2 A2 T3 A3 T4 A4 T5 A5 T6 A6 T7 A7 T8 A8 T9 A9)):=by
 refine Eg Tryz.func120 (by kernel_rfl) rfl fun E h=>?_
 conv=>cbv
 rintro n ⟨m,f6⟩;conv=>cbv
 intro l g;conv=>cbv
 refine .inr ?_;cases l <;> conv=>cbv
 ·have k:=Bf g;refine fun _=>⟨⟨trivial,rfl,by simp⟩,rfl⟩
 have k:=Bg g;obtain⟨i,b,d⟩:=j.get (by omega);refine AB h b ?_;conv=>cbv
 refine AB h d ?_;conv=>cbv
 refine fun _=>⟨⟨trivial,rfl,by simp⟩,rfl⟩
theorem ae (j:D9 T9 A9):DV Tryz.prog 120 [.one (.Ae 0 0 19)] (.var 0 (Dn k1 T0 A0 T1 A1 T2 A2 T3 A3 T4 A4 T5 A5 T6 A6 T7 A7 T8 A8 T9 A9)) (.AJ []) (.var 0 (Dn k1 T0 A0 T1 A1 T2 A2 T3 A3 T4 A4 T5 A5 T6 A6 T7 A7 T8 A8 T9 A9)):=by
 refine Eg Tryz.func120 (by kernel_rfl) rfl fun E h=>?_
 conv=>cbv
 rintro n ⟨m,f6⟩;conv=>cbv
 intro l g;conv=>cbv
 refine .inr ?_;cases l <;> conv=>cbv
 ·have k:=Bf g;refine fun _=>⟨⟨trivial,rfl,by simp⟩,rfl⟩
 have k:=Bg g;obtain⟨i,b,d⟩:=j.get (by omega);refine AB h b ?_;conv=>cbv
 refine AB h d ?_;conv=>cbv
 refine fun _=>⟨⟨trivial,rfl,by simp⟩,rfl⟩
theorem cY (n:D9 T3 A3) (o:D9 T4 A4) (p:D9 T5 A5) (q:D9 T6 A6) (s:D9 T7 A7) (u:D9 T8 A8) (v:D9 T9 A9):CF 61 [.agg (Dn k1 T0 A0 T1 A1 T2 A2 T3 A3 T4 A4 T5 A5 T6 A6 T7 A7 T8 A8 T9 A9)] (.agg (Dn k1 T0 A0 T1 A1 T2 A2 T3 A3 T4 A4 T5 A5 T6 A6 T7 A7 T8 A8 T9 A9)):=by
 refine CA Tryz.func61 (by kernel_rfl) rfl fun E j=>?_
 conv=>cbv
 refine⟨fun _=>⟨rfl,by decide,rfl⟩,?_⟩;try conv=>cbv
 intro w l;obtain rfl:w=7:=l.eq;conv=>cbv
 refine .inr ?_;obtain⟨B,d⟩:=xJ fun vs y k=>∃(i m:Int),(i=0/\m=7\/i=1/\m=6\/i=2/\m=5\/i=3/\m=4\/i=4/\m=3\/i=5/\m=2\/i=6/\m=1\/i=7/\m=0)/\vs=[.one (.Ae 1 0 0),.one (.Ae 2 0 0),.one (.fn 120),.one (.Ch [(1,0,7),(1,0,9),(1,0,11),(1,0,13),(1,0,15),(1,0,17),(1,0,19)]),.one (.int .i64 7),.one (.int .i64 i)]/\y=[.var 0 (Dn k1 T0 A0 T1 A1 T2 A2 T3 A3 T4 A4 T5 A5 T6 A6 T7 A7 T8 A8 T9 A9),.var 0 [.int .i64 0,.nil,.nil,.nil,.nil,.nil,.nil,.nil,.nil,.nil,.nil,.nil,.nil,.nil,.nil,.nil,.nil,.nil,.nil,.nil,.nil]]/\k=m.toNat
 refine⟨[],[1,2,3,22,23,24],[1,2],B,⟨7,by rw[d];exact⟨0,7,.inl ⟨rfl,rfl⟩,rfl,rfl,rfl⟩⟩,?_⟩;intro vs y C z;rw[d] at z;rcases z with⟨_,_,⟨rfl,rfl⟩ |⟨rfl,rfl⟩ |⟨rfl,rfl⟩ |⟨rfl,rfl⟩ |⟨rfl,rfl⟩ |⟨rfl,rfl⟩ |⟨rfl,rfl⟩ |⟨rfl,rfl⟩,rfl,rfl,g⟩
 ·conv=>cbv
  refine Cc ?_;conv=>cbv
  refine .inr ?_;refine⟨(1,0,7),fun _=>⟨by decide,rfl⟩,?_⟩;try conv=>cbv
  refine EX 1 rfl (Ee j (aV n)) ⟨⟨⟨rfl,rfl⟩,rfl⟩,trivial⟩ ?_;try conv=>cbv
  intro b h;conv=>cbv
  refine AI ?_;refine⟨6,?_,?_⟩
  ·rw[g];decide
  rw[d];exact⟨b,_,.inr (.inl ⟨by omega,rfl⟩),rfl,rfl,rfl⟩
 ·conv=>cbv
  refine Cc ?_;conv=>cbv
  refine .inr ?_;refine⟨(1,0,9),fun _=>⟨by decide,rfl⟩,?_⟩;try conv=>cbv
  refine EX 1 rfl (Ee j (aW o)) ⟨⟨⟨rfl,rfl⟩,rfl⟩,trivial⟩ ?_;try conv=>cbv
  intro b h;conv=>cbv
  refine AI ?_;refine⟨5,?_,?_⟩
  ·rw[g];decide
  rw[d];exact⟨b,_,.inr (.inr (.inl ⟨by omega,rfl⟩)),rfl,rfl,rfl⟩
 ·conv=>cbv
  refine Cc ?_;conv=>cbv
  refine .inr ?_;refine⟨(1,0,11),fun _=>⟨by decide,rfl⟩,?_⟩;try conv=>cbv
  refine EX 1 rfl (Ee j (aX p)) ⟨⟨⟨rfl,rfl⟩,rfl⟩,trivial⟩ ?_;try conv=>cbv
  intro b h;conv=>cbv
  refine AI ?_;refine⟨4,?_,?_⟩
  ·rw[g];decide
  rw[d];exact⟨b,_,.inr (.inr (.inr (.inl ⟨by omega,rfl⟩))),rfl,rfl,rfl⟩
 ·conv=>cbv
  refine Cc ?_;conv=>cbv
  refine .inr ?_;refine⟨(1,0,13),fun _=>⟨by decide,rfl⟩,?_⟩;try conv=>cbv
  refine EX 1 rfl (Ee j (aY q)) ⟨⟨⟨rfl,rfl⟩,rfl⟩,trivial⟩ ?_;try conv=>cbv
  intro b h;conv=>cbv
  refine AI ?_;refine⟨3,?_,?_⟩
  ·rw[g];decide
  rw[d];exact⟨b,_,.inr (.inr (.inr (.inr (.inl ⟨by omega,rfl⟩)))),rfl,rfl,rfl⟩
 ·conv=>cbv
  refine Cc ?_;conv=>cbv
  refine .inr ?_;refine⟨(1,0,15),fun _=>⟨by decide,rfl⟩,?_⟩;try conv=>cbv
  refine EX 1 rfl (Ee j (aZ s)) ⟨⟨⟨rfl,rfl⟩,rfl⟩,trivial⟩ ?_;try conv=>cbv
  intro b h;conv=>cbv
  refine AI ?_;refine⟨2,?_,?_⟩
  ·rw[g];decide
  rw[d];exact⟨b,_,.inr (.inr (.inr (.inr (.inr (.inl ⟨by omega,rfl⟩))))),rfl,rfl,rfl⟩
 ·conv=>cbv
  refine Cc ?_;conv=>cbv
  refine .inr ?_;refine⟨(1,0,17),fun _=>⟨by decide,rfl⟩,?_⟩;try conv=>cbv
  refine EX 1 rfl (Ee j (aa u)) ⟨⟨⟨rfl,rfl⟩,rfl⟩,trivial⟩ ?_;try conv=>cbv
  intro b h;conv=>cbv
  refine AI ?_;refine⟨1,?_,?_⟩
  ·rw[g];decide
  rw[d];exact⟨b,_,.inr (.inr (.inr (.inr (.inr (.inr (.inl ⟨by omega,rfl⟩)))))),rfl,rfl,rfl⟩
 ·conv=>cbv
  refine Cc ?_;conv=>cbv
  refine .inr ?_;refine⟨(1,0,19),fun _=>⟨by decide,rfl⟩,?_⟩;try conv=>cbv
  refine EX 1 rfl (Ee j (ae v)) ⟨⟨⟨rfl,rfl⟩,rfl⟩,trivial⟩ ?_;try conv=>cbv
  intro b h;conv=>cbv
  refine AI ?_;refine⟨0,?_,?_⟩
  ·rw[g];decide
  rw[d];exact⟨b,_,.inr (.inr (.inr (.inr (.inr (.inr (.inr (⟨by omega,rfl⟩))))))),rfl,rfl,rfl⟩
 conv=>cbv
 refine BK ?_;conv=>cbv
 exact AD ⟨⟨rfl,rfl,rfl,rfl,rfl,rfl,rfl,rfl,rfl,rfl,rfl,rfl,rfl,rfl,rfl,rfl,rfl,rfl,rfl,rfl,rfl,rfl,trivial⟩,trivial⟩
theorem eo {P C:List Int} {V:List Ex} {AU:List Int} {k0:Int} (j:CF 10 [.agg [.int .i64 kd,.sl .i64 P,.sl .i64 C,.sl .ex V,.int .i64 sd],.one (.sl .i64 AU),.one (.int .i64 t)] (.one (.int .i64 k0))) (l:k0≠0) (hR:DV Tryz.prog 67 [.one (.Ae 0 0 0),.one (.int .i64 (-1))] (.var 0 (Dh kd P C V sd vl AU Ap cr 0)) (.one (.bool true)) (.var 0 (Dh kd P C V sd vl AU Ap cr 0))) (k:DV Tryz.prog 68 [.one (.Ae 0 0 0),.one (.int .i64 t)] (.var 0 (Dh kd P C V sd vl AU Ap cr 0)) (.agg (Dn k1 T0 A0 T1 A1 T2 A2 T3 A3 T4 A4 T5 A5 T6 A6 T7 A7 T8 A8 T9 A9)) (.var 0 (Dh kd P C V sd vl AU Ap cr 0))) (i:CF 61 [.agg (Dn k1 T0 A0 T1 A1 T2 A2 T3 A3 T4 A4 T5 A5 T6 A6 T7 A7 T8 A8 T9 A9)] (.agg (Dn k1 T0 A0 T1 A1 T2 A2 T3 A3 T4 A4 T5 A5 T6 A6 T7 A7 T8 A8 T9 A9))):CF 21 [.agg [.int .i64 kd,.sl .i64 P,.sl .i64 C,.sl .ex V,.int .i64 sd],.one (.sl AA vl),.one (.sl .i64 AU),.one (.int .i64 Ap),.one (.int .i64 t),.one (.sl An cr)] (.AJ [(true,(Dn k1 T0 A0 T1 A1 T2 A2 T3 A3 T4 A4 T5 A5 T6 A6 T7 A7 T8 A8 T9 A9)),(false,[.int .i64 0])]):=by
 refine CA Tryz.func21 (by kernel_rfl) rfl fun E g=>?_
 conv=>cbv
 refine AB g j ?_;conv=>cbv
 intro h b;conv=>cbv
 cases h <;> conv=>cbv
 ·have d:=AN b;refine EX 22 rfl (Ee g (hR)) ⟨⟨⟨rfl,rfl⟩,rfl⟩,rfl,trivial⟩ ?_;try conv=>cbv
  refine BK ?_;conv=>cbv
  refine EX 22 rfl (Ee g (k)) ⟨⟨⟨rfl,rfl⟩,rfl⟩,rfl,trivial⟩ ?_;try conv=>cbv
  refine BK ?_;conv=>cbv
  refine AB g i ?_;conv=>cbv
  exact AD ⟨⟨rfl,rfl,rfl,rfl,rfl,rfl,rfl,rfl,rfl,rfl,rfl,rfl,rfl,rfl,rfl,rfl,rfl,rfl,rfl,rfl,rfl,rfl,trivial⟩,t2,trivial⟩
 have d:=AO b;exact absurd d l
theorem ee {kd:Int} {P C:List Int} {V:List Ex} {AU:List Int} {i:Int} {r:List Int} (G:r=CP t P 0) (l:P.length<=1000000) (m:r[0]? =some i) (s:i=0\/i=1) {j0:Nat} (M:(j0:Int)=1-i) {p:Int} {p0:Nat} {x y:el An} (F:AR p p0) (D:p0<=1000000) (I:cr[2*p0]? =some x) (J:cr[2*p0+1]? =some y) (z:P[j0]? =some p) {j:List LR} {h:LR} (H:vl[0]? =some ((b1,l1),b2,l2)) (v:CF 235 [.agg (BV b1 l1 b2 l2)] (.agg (Ay Ta Aa))) (w:CF 214 [.agg (Ay Ta Aa),.agg (Ay Ta Aa)] (.AJ [(true,(Ay j h)),(false,[.int .i64 0])])) {rs:Int} (B:CF 70 [.agg (Ay j h)] (.one (.int .i64 rs))) (n:rs≠0):DV Tryz.prog 68 [.one (.Ae 0 0 0),.one (.int .i64 t)] (.var 0 (Dh 2 P [] V sd vl AU Ap cr 0)) (.agg [.int .i64 2,E6,E7,E6,E7,E6,E7,E6,E7,E6,E7,.sl (.sl AA) x.1,.sl AA x.2,.sl (.sl AA) y.1,.sl AA y.2,.sl (.sl AA) j,.sl AA h,E6,E7,E6,E7]) (.var 0 (Dh 2 P [] V sd vl AU Ap cr 0)):=by
 refine Eg Tryz.func68 (by kernel_rfl) rfl fun E d=>?_
 conv=>cbv
 rintro o ⟨k,f15⟩;conv=>cbv
 have L:o=0:=k;intro q b;conv=>cbv
 cases q <;> conv=>cbv
 ·have g:=Bf b;refine AB d (VM l G) ?_;conv=>cbv
  refine⟨i,fun _=>⟨by omega,m⟩,?_⟩;try conv=>cbv
  refine .inr ?_;refine BK ?_;conv=>cbv
  refine Cc ?_;conv=>cbv
  intro K u;conv=>cbv
  refine AI ?_;refine EX 0 rfl (Ee d (et (i0:=j0) ⟨by omega⟩ F D I J z)) ⟨⟨⟨rfl,rfl⟩,rfl⟩,rfl,trivial⟩ ?_;try conv=>cbv
  refine EX 0 rfl (Ee d (fB (Ak 0) H v)) ⟨⟨⟨rfl,rfl⟩,rfl⟩,rfl,trivial⟩ ?_;try conv=>cbv
  refine EX 0 rfl (Ee d (ez w)) ⟨⟨⟨rfl,rfl⟩,rfl⟩,t2,trivial⟩ ?_;try conv=>cbv
  refine EX 0 rfl (Ee d (eY (e1:=0) (by rw[if_neg n]) B)) ⟨⟨⟨rfl,rfl⟩,rfl⟩,t4,t2,trivial⟩ ?_;try conv=>cbv
  refine fun _=>⟨⟨⟨⟨rfl,rfl,rfl,rfl,rfl,rfl,rfl,rfl,rfl,rfl,rfl,rfl,rfl,rfl,rfl,rfl,rfl,rfl,rfl,rfl,rfl,rfl,trivial⟩,trivial⟩,rfl,by simp⟩,rfl⟩
 have g:=Bg b;exact absurd g (by omega)
theorem iJ {Tb g h:List LR} {Ab b d:LR} (j:CF 35 [.agg (Ay Ta Aa),.agg (Ay g b)] (.one (.bool true))) (k:CF 35 [.agg (Ay Tb Ab),.agg (Ay h d)] (.one (.bool true))):CF 19 [.agg (IB Ta Aa Tb Ab),.agg (IB g b h d)] (.one (.bool true)):=by
 refine CA Tryz.func19 (by kernel_rfl) rfl fun E i=>?_
 conv=>cbv
 refine AB i j ?_;conv=>cbv
 refine AB i k ?_;conv=>cbv
 exact AD ⟨t2,trivial⟩
theorem iF {h i:Rat} {c1 c2:Bool} {m1 m2:List UInt32} (j:BE h b1 l1 c1 m1) (k:BE i b2 l2 c2 m2) (b:A1=em [] (Re.ofRat h)) (d:A2=em [] (Re.ofRat i)):CF 101 [.agg (BV b1 l1 c1 m1),.agg (BV b2 l2 c2 m2)] (.agg (IB [] A1 [] A2)):=by
 refine CA Tryz.func101 (by kernel_rfl) rfl fun E g=>?_
 conv=>cbv
 refine AB g (LK j b) ?_;conv=>cbv
 refine AB g (LK k d) ?_;conv=>cbv
 refine BO ?_;exact AD ⟨⟨rfl,rfl,rfl,rfl,rfl,trivial⟩,trivial⟩
theorem iG {x y:Int} (j: -9223372036854775808<=x/\x<9223372036854775808) (k: -9223372036854775808<=y/\y<9223372036854775808) (b:A1=em [] (Re.ofRat x)) (d:A2=em [] (Re.ofRat y)):CF 36 [.one (.int .i64 x),.one (.int .i64 y)] (.agg (IB [] A1 [] A2)):=by
 refine CA Tryz.func36 (by kernel_rfl) rfl fun E g=>?_
 conv=>cbv
 obtain⟨b1,l1,c1,m1,h⟩:=Bl (x:Rat);refine AB g (D3 j rfl h) ?_;conv=>cbv
 obtain⟨b2,l2,c2,m2,i⟩:=Bl (y:Rat);refine AB g (D3 k rfl i) ?_;conv=>cbv
 refine AB g (iF h i b d) ?_;conv=>cbv
 exact AD ⟨⟨rfl,rfl,rfl,rfl,rfl,trivial⟩,trivial⟩
theorem Ub:CF 9 [] (.one (.bool true)):=by
 obtain⟨A3,j⟩:=xR (em [] (Re.ofRat ((3:Int):Rat)));have w:CY ((3:Int):Rat):=by decide +kernel
 obtain⟨A4,k⟩:=xR (em [] (Re.ofRat ((4:Int):Rat)));have B:CY ((4:Int):Rat):=by decide +kernel
 obtain⟨A0,n⟩:=xR (em [] (Re.ofRat ((0:Int):Rat)));have N:CY ((0:Int):Rat):=by decide +kernel
 obtain⟨s,d⟩:=xR (em [] (Re.ofRat ((25:Int):Rat)));have l:CY ((25:Int):Rat):=by decide +kernel
 obtain⟨f1,g1,f2,g2,F⟩:=Bl (5:Rat);have D:CY (5:Rat):=by decide +kernel
 obtain⟨A5,m⟩:=xR (em [] (Re.ofRat 5));have L:Re.ofRat ((25:Int):Rat)=Re.ofRat 5*Re.ofRat 5:=by rw[<-Re.ofRat_mul];exact congrArg Re.ofRat (by decide +kernel)
 have I:=Xq (T:=[]) (C:=s) g0.toGam g0.nil g0.nil rfl rfl m m (IJ D) (IJ D) rfl (by rw[d,L];rfl);obtain⟨G,o⟩:=xI (BJ (Re.ofRat ((25:Int):Rat)));have J:=Xr (c:=G) (T1:=[]) g0.toGam g0.nil rfl d (IJ l) o;have v:G≠0:=fun z=>absurd (Re.JB.1 ((JP.1 (o.symm.trans z)).trans Re.dM.symm)) (by decide +kernel)
 have K:=OH (c:=true) l l d d ⟨fun _=>rfl,fun _=>rfl⟩;have c3:=OH (c:=true) w w j j ⟨fun _=>rfl,fun _=>rfl⟩;have H:=OH (c:=true) B B k k ⟨fun _=>rfl,fun _=>rfl⟩;have u:=eo (V:=[Ex.mk 1 ((f1,g1),(f2,g2)) ByteArray.empty []]) (sd:=0) (Ap:=2) (P:=[0,1]) (C:=[]) (AU:=[]) (t:=1) (vl:=[((f1,g1),f2,g2)]) (cr:=[((([]:List LR)),A3),((([]:List LR)),A4),((([]:List LR)),A0),((([]:List LR)),A0)]) (LA (P:=[0,1]) (C:=[]) (AU:=[]) (t:=1) (c:=2) (by decide) rfl (fun h=>absurd h (by decide)) (fun h=>absurd h (by decide)) (by decide)) (by decide) (eu (q:=false) (b:=true) (by decide) (XY (p:=fun _=>false) (fun x M=>by simp at M) rfl) rfl) (ee (kd:=2) (C:=[]) (i:=1) (r:=[1]) (j0:=0) (p:=0) (p0:=0) (x:=([],A3)) (y:=([],A4)) (by decide) (by decide) rfl (.inr rfl) (by decide) (Ak 0) (by decide) rfl rfl rfl rfl (Xp F (fN D) m) I J v) (cY (MZ _) (MZ _) (Oz w j) (Oz B k) (Oz l d) (MZ _) (MZ _))
 refine CA Tryz.func9 (by kernel_rfl) rfl fun E g=>?_
 conv=>cbv
 refine AB g (D3 (x:=5) (by decide) (by decide +kernel) F) ?_;conv=>cbv
 refine⟨[((f1,g1),(f2,g2))],fun _=>⟨rfl,by decide,rfl,⟨rfl,by first | exact t1 | exact t2 | exact t4 | simp[Aq,BG,cells],trivial⟩⟩,.inr ?_⟩;try conv=>cbv
 refine⟨[(0:Int),(1:Int)],fun _=>⟨rfl,by decide,rfl,⟨rfl,t1,⟨rfl,t1,trivial⟩⟩⟩,.inr ?_⟩;try conv=>cbv
 refine⟨((f1,g1),f2,g2),fun _=>⟨by omega,rfl⟩,?_⟩;try conv=>cbv
 refine⟨[Ex.mk 1 ((f1,g1),(f2,g2)) ByteArray.empty []],fun _=>⟨rfl,by decide,rfl,⟨rfl,⟨rfl,rfl,rfl,rfl,rfl,rfl,.inr ⟨_,rfl⟩,trivial⟩,trivial⟩⟩,.inr ?_⟩;try conv=>cbv
 refine AB g (Ht (by decide) j) ?_;conv=>cbv
 refine AB g (Ht (by decide) k) ?_;conv=>cbv
 refine AB g (Ht (by decide) n) ?_;conv=>cbv
 refine AB g (Ht (by decide) n) ?_;conv=>cbv
 refine⟨[(([]:List LR),A3),(([]:List LR),A4),(([]:List LR),A0),(([]:List LR),A0)],fun _=>⟨rfl,by decide,rfl,⟨rfl,by first | exact t1 | exact t2 | exact t4 | simp[Aq,BG,cells],⟨rfl,by first | exact t1 | exact t2 | exact t4 | simp[Aq,BG,cells],⟨rfl,by first | exact t1 | exact t2 | exact t4 | simp[Aq,BG,cells],⟨rfl,by first | exact t1 | exact t2 | exact t4 | simp[Aq,BG,cells],trivial⟩⟩⟩⟩⟩,.inr ?_⟩;try conv=>cbv
 refine cL g u ⟨⟨rfl,rfl,.inr ⟨_,rfl⟩,rfl,rfl,trivial⟩,rfl,.inr ⟨_,rfl⟩,rfl,rfl,rfl,trivial⟩ ?_;try conv=>cbv
 refine BO ?_;refine⟨[(0:Int),(1:Int),(0:Int),(2:Int)],fun _=>⟨rfl,by decide,rfl,⟨rfl,t1,⟨rfl,t1,⟨rfl,t1,⟨rfl,t1,trivial⟩⟩⟩⟩⟩,.inr ?_⟩;try conv=>cbv
 refine⟨[(1:Int)],fun _=>⟨rfl,by decide,rfl,⟨rfl,t1,trivial⟩⟩,.inr ?_⟩;try conv=>cbv
 refine⟨[(0:Int)],fun _=>⟨rfl,by decide,rfl,⟨rfl,t1,trivial⟩⟩,.inr ?_⟩;try conv=>cbv
 refine Cc ?_;conv=>cbv
 refine Cc ?_;conv=>cbv
 refine AB g (Ht (by decide) d) ?_;conv=>cbv
 refine AB g K ?_;conv=>cbv
 refine AB g (iG (x:=3) (y:=4) (by decide) (by decide) j k) ?_;conv=>cbv
 refine AB g (iJ c3 H) ?_;conv=>cbv
 refine cL (r:= .one (.int .i64 2)) g (LA (P:=[0,1,0,2]) (C:=[]) (AU:=[]) (t:=0) (by decide) rfl (fun h=>absurd h (by decide)) (fun h=>absurd h (by decide)) (by decide)) ⟨⟨rfl,rfl,.inr ⟨_,rfl⟩,.inr ⟨_,rfl⟩,rfl,trivial⟩,.inr ⟨_,rfl⟩,rfl,trivial⟩ ?_;try conv=>cbv
 refine Cc ?_;conv=>cbv
 refine cL (r:= .one (.int .i64 1)) g (LA (P:=[0,1,0,2]) (C:=[]) (AU:=[]) (t:=1) (by decide) rfl (fun h=>absurd h (by decide)) (fun h=>absurd h (by decide)) (by decide)) ⟨⟨rfl,rfl,.inr ⟨_,rfl⟩,.inr ⟨_,rfl⟩,rfl,trivial⟩,.inr ⟨_,rfl⟩,rfl,trivial⟩ ?_;try conv=>cbv
 refine Cc ?_;conv=>cbv
 refine⟨[(0:Int)],fun _=>⟨rfl,by decide,rfl,⟨rfl,t1,trivial⟩⟩,.inr ?_⟩;try conv=>cbv
 refine cL (r:= .one (.bool true)) g (NR (P:=[1]) (C:=[0]) (AU:=[0]) (t:=0) (by decide) (fun h=>absurd h (by decide)) (by decide)) ⟨⟨rfl,rfl,rfl,.inr ⟨_,rfl⟩,rfl,trivial⟩,rfl,rfl,trivial⟩ ?_;try conv=>cbv
 refine⟨[(1:Int)],fun _=>⟨rfl,by decide,rfl,⟨rfl,t1,trivial⟩⟩,.inr ?_⟩;try conv=>cbv
 refine cL (r:= .one (.bool false)) g (NR (P:=[1]) (C:=[0]) (AU:=[1]) (t:=0) (by decide) (fun h=>absurd h (by decide)) (by decide)) ⟨⟨rfl,rfl,rfl,.inr ⟨_,rfl⟩,rfl,trivial⟩,rfl,rfl,trivial⟩ ?_;try conv=>cbv
 refine Cc ?_;conv=>cbv
 refine BO ?_;exact AD ⟨t2,trivial⟩
end Go.Abs
namespace Go.Abs
variable {kd t:Int}
theorem cI {P:List Int} {m c1:Bool} (p:1<=kd/\kd<=17) (np:(P.length:Int)=(CD kd).2.1)
  (pr:(kd=5\/kd=6\/kd=7\/kd=8)->∀a b c d,P=[a,b,c,d]->a≠b/\c≠d):
  kP kd (CP t P 0) m c1=kD (kF kd (BH P t) (P.getD 0 0==t) (hasB P t 0) (hasB P t 2) m c1):=by
 have k:kd=1\/kd=2\/kd=3\/kd=4\/kd=5\/kd=6\/kd=7\/kd=8\/kd=9\/kd=10\/kd=11\/kd=12\/kd=13\/kd=14\/kd=15\/kd=16\/kd=17:=by omega
 rcases k with rfl | rfl | rfl | rfl | rfl | rfl | rfl | rfl | rfl | rfl | rfl | rfl | rfl | rfl | rfl | rfl | rfl
 ·have g:P.length=1:=by have h:(P.length:Int)=1:=np;omega
  match P,g with
  | [a],_=>
  by_cases i:a=t <;> simp[kP,kF,CP,BH,hasB,C4,kD,i]
 ·have g:P.length=2:=by have h:(P.length:Int)=2:=np;omega
  match P,g with
  | [a,b],_=>
  by_cases i:a=t <;> by_cases j:b=t <;> simp[kP,kF,CP,BH,hasB,C4,kD,i,j]
 ·have g:P.length=3:=by have h:(P.length:Int)=3:=np;omega
  match P,g with
  | [a,b,c],_=>
  by_cases i:a=t <;> by_cases j:b=t <;> by_cases k:c=t <;> simp[kP,kF,CP,BH,hasB,C4,kD,i,j,k]
 ·have g:P.length=3:=by have h:(P.length:Int)=3:=np;omega
  match P,g with
  | [a,b,c],_=>
  by_cases i:a=t <;> by_cases j:b=t <;> by_cases k:c=t <;> simp[kP,kF,CP,BH,hasB,C4,kD,i,j,k]
 ·have g:P.length=4:=by have h:(P.length:Int)=4:=np;omega
  match P,g with
  | [a,b,c,d],_=>
  obtain⟨n,o⟩:=pr (by omega) a b c d rfl
  by_cases i:a=t <;> by_cases j:b=t <;> by_cases k:c=t <;> by_cases l:d=t <;> first | (exfalso;omega) | simp[kP,kF,CP,BH,hasB,C4,kD,i,j,k,l]
 ·have g:P.length=4:=by have h:(P.length:Int)=4:=np;omega
  match P,g with
  | [a,b,c,d],_=>
  obtain⟨n,o⟩:=pr (by omega) a b c d rfl
  by_cases i:a=t <;> by_cases j:b=t <;> by_cases k:c=t <;> by_cases l:d=t <;> first | (exfalso;omega) | simp[kP,kF,CP,BH,hasB,C4,kD,i,j,k,l]
 ·have g:P.length=4:=by have h:(P.length:Int)=4:=np;omega
  match P,g with
  | [a,b,c,d],_=>
  obtain⟨n,o⟩:=pr (by omega) a b c d rfl
  by_cases i:a=t <;> by_cases j:b=t <;> by_cases k:c=t <;> by_cases l:d=t <;> first | (exfalso;omega) | simp[kP,kF,CP,BH,hasB,C4,kD,i,j,k,l]
 ·have g:P.length=4:=by have h:(P.length:Int)=4:=np;omega
  match P,g with
  | [a,b,c,d],_=>
  obtain⟨n,o⟩:=pr (by omega) a b c d rfl
  by_cases i:a=t <;> by_cases j:b=t <;> by_cases k:c=t <;> by_cases l:d=t <;> first | (exfalso;omega) | simp[kP,kF,CP,BH,hasB,C4,kD,i,j,k,l]
 ·have g:P.length=3:=by have h:(P.length:Int)=3:=np;omega
  match P,g with
  | [a,b,c],_=>
  by_cases i:a=t <;> by_cases j:b=t <;> by_cases k:c=t <;> simp[kP,kF,CP,BH,hasB,C4,kD,i,j,k]
 ·have g:P.length=4:=by have h:(P.length:Int)=4:=np;omega
  match P,g with
  | [a,b,c,d],_=>
  by_cases i:a=t <;> by_cases j:b=t <;> by_cases k:c=t <;> by_cases l:d=t <;> simp[kP,kF,CP,BH,hasB,C4,kD,i,j,k,l]
 ·have g:P.length=2:=by have h:(P.length:Int)=2:=np;omega
  match P,g with
  | [a,b],_=>
  by_cases i:a=t <;> by_cases j:b=t <;> simp[kP,kF,CP,BH,hasB,C4,kD,i,j]
 ·have g:P.length=2:=by have h:(P.length:Int)=2:=np;omega
  match P,g with
  | [a,b],_=>
  by_cases i:a=t <;> by_cases j:b=t <;> simp[kP,kF,CP,BH,hasB,C4,kD,i,j]
 ·have g:P.length=1:=by have h:(P.length:Int)=1:=np;omega
  match P,g with
  | [a],_=>
  by_cases i:a=t <;> cases m <;> simp[kP,kF,CP,BH,hasB,C4,kD,i]
 ·have g:P.length=0:=by have h:(P.length:Int)=0:=np;omega
  match P,g with
  | [],_=>
  simp[kP,kF,CP,BH,hasB,C4,kD]
 ·have g:P.length=0:=by have h:(P.length:Int)=0:=np;omega
  match P,g with
  | [],_=>
  simp[kP,kF,CP,BH,hasB,C4,kD]
 ·have g:P.length=2:=by have h:(P.length:Int)=2:=np;omega
  match P,g with
  | [a,b],_=>
  by_cases i:a=t <;> by_cases j:b=t <;> cases m <;> simp[kP,kF,CP,BH,hasB,C4,kD,i,j]
 have g:P.length=0:=by have h:(P.length:Int)=0:=np;omega
 match P,g with
 | [],_=>
 cases m <;> cases c1 <;> simp[kP,kF,CP,BH,hasB,C4,kD]
theorem size_eq {sd:Int} {P C AU:List Int} (i:1<=kd/\kd<=17) (nc:(C.length:Int)=(CD kd).2.2.1):
  sP kd sd (Bn t C 0) (BH P (AU.getD t.toNat 0)) (Bv AU C 0) (Bv AU C 1)=sD kd sd (BH C t) (BH P (Bv AU C 0)) (Bv AU C 0) (Bv AU C 1):=by
 have g:kd=1\/kd=2\/kd=3\/kd=4\/kd=5\/kd=6\/kd=7\/kd=8\/kd=9\/kd=10\/kd=11\/kd=12\/kd=13\/kd=14\/kd=15\/kd=16\/kd=17:=by omega
 rcases g with rfl | rfl | rfl | rfl | rfl | rfl | rfl | rfl | rfl | rfl | rfl | rfl | rfl | rfl | rfl | rfl | rfl
 ·have b:C.length=0:=by have h:(C.length:Int)=0:=nc;omega
  match C,b with
  | [],_=>
  simp[sP,sD,Bn,BH]
 ·have b:C.length=0:=by have h:(C.length:Int)=0:=nc;omega
  match C,b with
  | [],_=>
  simp[sP,sD,Bn,BH]
 ·have b:C.length=0:=by have h:(C.length:Int)=0:=nc;omega
  match C,b with
  | [],_=>
  simp[sP,sD,Bn,BH]
 ·have b:C.length=0:=by have h:(C.length:Int)=0:=nc;omega
  match C,b with
  | [],_=>
  simp[sP,sD,Bn,BH]
 ·have b:C.length=0:=by have h:(C.length:Int)=0:=nc;omega
  match C,b with
  | [],_=>
  simp[sP,sD,Bn,BH]
 ·have b:C.length=0:=by have h:(C.length:Int)=0:=nc;omega
  match C,b with
  | [],_=>
  simp[sP,sD,Bn,BH]
 ·have b:C.length=0:=by have h:(C.length:Int)=0:=nc;omega
  match C,b with
  | [],_=>
  simp[sP,sD,Bn,BH]
 ·have b:C.length=0:=by have h:(C.length:Int)=0:=nc;omega
  match C,b with
  | [],_=>
  simp[sP,sD,Bn,BH]
 ·have b:C.length=0:=by have h:(C.length:Int)=0:=nc;omega
  match C,b with
  | [],_=>
  simp[sP,sD,Bn,BH]
 ·have b:C.length=0:=by have h:(C.length:Int)=0:=nc;omega
  match C,b with
  | [],_=>
  simp[sP,sD,Bn,BH]
 ·have b:C.length=0:=by have h:(C.length:Int)=0:=nc;omega
  match C,b with
  | [],_=>
  simp[sP,sD,Bn,BH]
 ·have b:C.length=0:=by have h:(C.length:Int)=0:=nc;omega
  match C,b with
  | [],_=>
  simp[sP,sD,Bn,BH]
 ·have b:C.length=1:=by have h:(C.length:Int)=1:=nc;omega
  match C,b with
  | [x],_=>
  by_cases h:t=x
  ·subst h;simp[sP,sD,Bn,BH,Bv]
  simp[sP,sD,Bn,BH,Bv,h,Ne.symm h]
 ·have b:C.length=1:=by have h:(C.length:Int)=1:=nc;omega
  match C,b with
  | [x],_=>
  by_cases h:t=x
  ·subst h;simp[sP,sD,Bn,BH,Bv]
  simp[sP,sD,Bn,BH,Bv,h,Ne.symm h]
 ·have b:C.length=2:=by have h:(C.length:Int)=2:=nc;omega
  match C,b with
  | [x,y],_=>
  by_cases h:t=x
  ·subst h;simp[sP,sD,Bn,BH,Bv]
  by_cases d:t=y
  ·subst d;simp[sP,sD,Bn,BH,Bv,h]
  simp[sP,sD,Bn,BH,Bv,h,d,Ne.symm h,Ne.symm d]
 ·have b:C.length=1:=by have h:(C.length:Int)=1:=nc;omega
  match C,b with
  | [x],_=>
  by_cases h:t=x
  ·subst h;simp[sP,sD,Bn,BH,Bv]
  simp[sP,sD,Bn,BH,Bv,h,Ne.symm h]
 have b:C.length=2:=by have h:(C.length:Int)=2:=nc;omega
 match C,b with
 | [x,y],_=>
 by_cases h:t=x
 ·subst h;simp[sP,sD,Bn,BH,Bv]
 by_cases d:t=y
 ·subst d;simp[sP,sD,Bn,BH,Bv,h]
 simp[sP,sD,Bn,BH,Bv,h,d,Ne.symm h,Ne.symm d]
end Go.Abs
