/- Part 14 of a proof. Conditions: each theorem's own. -/
import Derived.Test.YtmifleedghiimaaGreatDoorRb11
set_option linter.all false
set_option maxHeartbeats 80000000
set_option maxRecDepth 20000
open Go.Proofs
namespace Go.Abs
open Go.RowKit
section
def yAt {cr:List (el Ae)} {p:Int} {p0:Nat} {x y:el Ae} (d:AZ p p0) (hb:p0<=1000000) (f:cr[2*p0]? =some x) (g:cr[2*p0+1]? =some y):CF 8 [.one (.sl Ae cr),AH p] (.agg (Ag x.1 x.2 y.1 y.2)):=by
 have j:=d.eq;refine AL Tryz.func8 fun E l=>?_
 intro m k;refine CJ f ?_;intro h b i c;refine CJ g ?_;exact AN AK
def eF (Fg:Int) (s:Int->Int) (c:Int):Bool:=decide (c=Fg)||decide (0<s c)
end
section
end
section
def kP (k:Int) (L:List Int) (c0 c1:Bool):Int:=
 if k=13 then (if (decide ((L.length:Int)>0) !=c0)=true then 2 else 0)
 else if k=16 then (if c0=true/\L.length=0 then 1 else 0)
 else if k=17 then (if (c0 !=c1)=true then 2 else 0)
 else if L.length=0 then 0
 else if k=1\/k=9 then 3 else if k=2 then 2 else if k=3\/k=6\/k=11\/k=12 then 1
 else if k=4 then (if L.getD 0 0=0 then 1 else 0) else if k=10 then (if L.getD 0 0<2 then 3 else 0)
 else if k=5\/k=7 then (if L.length=2 then 2 else 1) else if k=8 then (if L.length=2 then 1 else 2) else 0
def FM (h h2:Bool) (x y:Int):Int:=if h=true/\h2=true then y else if h=true\/h2=true then x else 0
def kF (k:Int) (a p0 h h2 c0 c1:Bool):Int:=
 if k=1\/k=9 then (if a=true then 1 else 0) else if k=2 then (if a=true then 2 else 0)
 else if k=3\/k=11\/k=12 then (if a=true then 3 else 0) else if k=4 then (if p0=true then 3 else 0)
 else if k=5\/k=7 then FM h h2 3 2 else if k=6 then FM h h2 3 3 else if k=8 then FM h h2 2 3
 else if k=10 then (if h=true then 1 else 0) else if k=13 then (if (a !=c0)=true then 2 else 0)
 else if k=16 then (if a=false/\c0=true then 3 else 0) else if k=17 then (if (c0 !=c1)=true then 2 else 0) else 0
def kD (f:Int):Int:=if f=1 then 3 else if f=2 then 2 else if f=3 then 1 else 0
variable {C P AF:List Int} {V:List Ex} {a:Bool} {kd sd:Int}
def XH {b:Bool} {x y:Int} (c:0<=x/\x<4) (d:0<=y/\y<4):0<=FM a b x y/\FM a b x y<4:=by unfold FM;split <;> (try split) <;> omega
def rY {k f:Int} {p0 h c c0 c1:Bool} (hf:f=kF k a p0 h c c0 c1):0<=f/\f<4:=by
 rw[hf];unfold kF;have d:=XH (a:=h) (b:=c) (x:=3) (y:=2) AA AA;have g:=XH (a:=h) (b:=c) (x:=3) (y:=3) AA AA;have i:=XH (a:=h) (b:=c) (x:=2) (y:=3) AA AA
 repeat' (first | exact d | exact g | exact i | omega | split)
def sP (k s i:Int) (n:Bool) (c0 c1:Int):Bool:=
 if i<0 then false else if k=14\/k=15 then true else if k=13\/k=16 then !n else if k=17 then (s==1)&&(c0 !=c1) else false
def dG (t:Int):∀(l:List Int) (i:Nat),¬FI t l i<0->t∈l
 | [],i,h=>absurd (by rw[FI];decide) h
 | p::r,i,h=>by
  rw[FI] at h
  by_cases e:t=p
  ·rw[e];exact List.mem_cons_self
  rw[if_neg e] at h;exact List.mem_cons_of_mem _ (dG t r (i+1) h)
def dJ {n t:Int} {l:List Int} (h:Eg n l=true) (b:¬FI t l 0<0):0<=t/\t<n:=of_decide_eq_true (List.all_eq_true.1 h t (dG t l 0 b))
def QI {t c:Int} (hP:P.length<=1000000) (hC:Eg (AF.length:Nat) C=true) (h1:kd=13\/kd=16->1<=C.length) (h2:kd=17->2<=C.length) (n:c=kP kd (C1 t P 0) (FG AF C t 0) (FG AF C t 1)):CF 23 [.agg (cC kd P C V sd),.one (.sl .i64 AF),AH t] (AH c):=by
 obtain⟨R,hR⟩:∃z:List Int,z=C1 t P 0:=⟨_,rfl⟩
 rw[<-hR] at n;refine AL Tryz.func23 fun E hE=>?_
 refine AB hE (Sl hP hR) ?_;refine .inr ?_;refine BY (fun d=>?_) fun d=>?_
 ·rintro ax ⟨N,f18⟩ ay O;obtain⟨a6,x⟩:=xB (FG AF C t 0);refine .inr (.inl ⟨[AH 0,.one (.DM (.sl .i64) AF 0),.one (.DM (.pr .i64 (.pr (.sl .i64) (.pr (.sl .i64) (.pr (.sl .ex) .i64)))) (kd,P,C,V,sd) 0),.one (.DM .i64 t 0)],.one (.bool a6),fun _=>⟨rfl,⟨rfl,(.sl .i64),AF,rfl,rfl⟩,⟨rfl,(.pr .i64 (.pr (.sl .i64) (.pr (.sl .i64) (.pr (.sl .ex) .i64)))),(kd,P,C,V,sd),rfl,rfl⟩,⟨rfl,.i64,t,rfl,rfl⟩,trivial⟩,fun _=>Im hE (SC (BM 0) AA hC x),?_⟩);refine Af ?_;intro ah B;cases ah <;> conv=>cbv
  ·have ab:=Qr B;exact AO (by rw[n];unfold kP;rw[<-N,<-O,<-x,<-B];simp[d])
  have ab:=Qs B;exact AO (by rw[n];unfold kP;rw[<-N,<-O,<-x,<-B];simp[d])
 refine BY (fun f=>?_) fun f=>?_
 ·obtain⟨M,u⟩:=xB (FG AF C t 0);refine .inr (.inl ⟨[AH 0,.one (.DM (.sl .i64) AF 0),.one (.DM (.pr .i64 (.pr (.sl .i64) (.pr (.sl .i64) (.pr (.sl .ex) .i64)))) (kd,P,C,V,sd) 0),.one (.DM .i64 t 0)],.one (.bool M),fun _=>⟨rfl,⟨rfl,(.sl .i64),AF,rfl,rfl⟩,⟨rfl,(.pr .i64 (.pr (.sl .i64) (.pr (.sl .i64) (.pr (.sl .ex) .i64)))),(kd,P,C,V,sd),rfl,rfl⟩,⟨rfl,.i64,t,rfl,rfl⟩,trivial⟩,fun _=>Im hE (SC (BM 0) AA hC u),?_⟩);try conv=>cbv
  cases M <;> conv=>cbv
  ·exact AO (by rw[n];unfold kP;rw[<-u];simp[d,f])
  rintro az ⟨au,f29⟩;conv=>cbv
  refine Cw (fun ad=>?_) fun ad=>?_
  ·have b:¬R.length=0:=AA
   exact AO (by rw[n];unfold kP;rw[<-u];simp[d,f,b])
  have b:R.length=0:=AA
  exact AO (by rw[n];unfold kP;rw[<-u];simp[d,f,b])
 refine BY (fun g=>?_) fun g=>?_
 ·obtain⟨a7,y⟩:=xB (FG AF C t 0);refine .inr (.inl ⟨[AH 0,.one (.DM (.sl .i64) AF 0),.one (.DM (.pr .i64 (.pr (.sl .i64) (.pr (.sl .i64) (.pr (.sl .ex) .i64)))) (kd,P,C,V,sd) 0),.one (.DM .i64 t 0)],.one (.bool a7),fun _=>⟨rfl,⟨rfl,(.sl .i64),AF,rfl,rfl⟩,⟨rfl,(.pr .i64 (.pr (.sl .i64) (.pr (.sl .i64) (.pr (.sl .ex) .i64)))),(kd,P,C,V,sd),rfl,rfl⟩,⟨rfl,.i64,t,rfl,rfl⟩,trivial⟩,fun _=>Im hE (SC (BM 0) AA hC y),?_⟩);try conv=>cbv
  obtain⟨a8,A⟩:=xB (FG AF C t 1);refine .inr (.inl ⟨[AH 1,.one (.DM (.sl .i64) AF 0),.one (.DM (.pr .i64 (.pr (.sl .i64) (.pr (.sl .i64) (.pr (.sl .ex) .i64)))) (kd,P,C,V,sd) 0),.one (.DM .i64 t 0)],.one (.bool a8),fun _=>⟨rfl,⟨rfl,(.sl .i64),AF,rfl,rfl⟩,⟨rfl,(.pr .i64 (.pr (.sl .i64) (.pr (.sl .i64) (.pr (.sl .ex) .i64)))),(kd,P,C,V,sd),rfl,rfl⟩,⟨rfl,.i64,t,rfl,rfl⟩,trivial⟩,fun _=>Im hE (SC (BM 1) AA hC A),?_⟩);refine Af ?_;intro ai D;cases ai <;> conv=>cbv
  ·have ae:=Qr D;exact AO (by rw[n];unfold kP;rw[<-y,<-A,<-D];simp[d,f,g])
  have ae:=Qs D;exact AO (by rw[n];unfold kP;rw[<-y,<-A,<-D];simp[d,f,g])
 intro aA Q;have av:=Q.eq;have f40:=Q.le;refine BY (fun af=>?_) fun af=>?_
 ·have b:R.length=0:=AA
  exact AO (by rw[n];unfold kP;simp[d,f,g,b])
 refine .inr ?_;intro aj S;conv=>cbv
 refine .inr ?_;cases aj <;> conv=>cbv
 ·have h:=CI S;refine BY (fun i=>?_) fun i=>?_
  ·have b:¬R.length=0:=AA
   exact AO (by rw[n];unfold kP;simp[d,f,g,h,i,b])
  refine BY (fun j=>?_) fun j=>?_
  ·have b:¬R.length=0:=AA
   exact AO (by rw[n];unfold kP;simp[d,f,g,h,i,j,b])
  intro ak T;refine .inr ?_;cases ak <;> conv=>cbv
  ·have k:=CI T;intro E7 U;conv=>cbv
   refine .inr ?_;cases E7 <;> conv=>cbv
   ·have l:=CI U;intro al W;conv=>cbv
    refine .inr ?_;cases al <;> conv=>cbv
    ·have m:=CI W;refine BY (fun o=>?_) fun o=>?_
     ·have b:¬R.length=0:=AA
      exact AO (by rw[n];unfold kP;simp[d,f,g,h,i,j,k,l,m,o,b])
     intro an X;refine .inr ?_;cases an <;> conv=>cbv
     ·have p:=CI X;intro ao Y;conv=>cbv
      refine .inr ?_;cases ao <;> conv=>cbv
      ·have r:=CI Y;intro aq Z;conv=>cbv
       refine .inr ?_;cases aq <;> conv=>cbv
       ·have s:=CI Z;refine BY (fun v=>?_) fun v=>?_
        ·intro ar w;have aa:=w.eq;have f70:=w.le;refine Cw (fun L=>?_) fun L=>?_
         ·have b:¬R.length=0:=AA
          have q:¬R.length=2:=AA
          exact AO (by rw[n];unfold kP;simp[d,f,g,h,i,j,k,l,m,o,p,r,s,v,b,q])
         have b:¬R.length=0:=AA
         have q:R.length=2:=AA
         exact AO (by rw[n];unfold kP;simp[d,f,g,h,i,j,k,l,m,o,p,r,s,v,b,q])
        refine Cw (fun F=>?_) fun F=>?_
        ·have b:¬R.length=0:=AA
         exact AO (by rw[n];unfold kP;simp[d,f,g,h,i,j,k,l,m,o,p,r,s,v,F,b])
        intro aB a1;have aw:=a1.eq;have f75:=a1.le;refine Cw (fun ag=>?_) fun ag=>?_
        ·have b:¬R.length=0:=AA
         have q:¬R.length=2:=AA
         exact AO (by rw[n];unfold kP;simp[d,f,g,h,i,j,k,l,m,o,p,r,s,v,F,b,q])
        have b:¬R.length=0:=AA
        have q:R.length=2:=AA
        exact AO (by rw[n];unfold kP;simp[d,f,g,h,i,j,k,l,m,o,p,r,s,v,F,b,q])
       have s:=CL Z;intro ar w;have aa:=w.eq;have f70:=w.le;conv=>cbv
       refine Cw (fun L=>?_) fun L=>?_
       ·have b:¬R.length=0:=AA
        have q:¬R.length=2:=AA
        exact AO (by rw[n];unfold kP;simp[d,f,g,h,i,j,k,l,m,o,p,r,s,b,q])
       have b:¬R.length=0:=AA
       have q:R.length=2:=AA
       exact AO (by rw[n];unfold kP;simp[d,f,g,h,i,j,k,l,m,o,p,r,s,b,q])
      have r:=CL Y;refine BA 0 fun a5 H=>?_
      try conv=>cbv
      refine Bi (fun K=>?_) fun K=>?_
      ·have b:¬R.length=0:=AA
       have I:R[0]? =some a5:=H;exact AO (by rw[n];unfold kP;simp[d,f,g,h,i,j,k,l,m,o,p,r,b,I,K])
      have b:¬R.length=0:=AA
      have I:R[0]? =some a5:=H;exact AO (by rw[n];unfold kP;simp[d,f,g,h,i,j,k,l,m,o,p,r,b,I,K])
     have p:=CL X;refine BA 0 fun a2 G=>?_
     try conv=>cbv
     refine Cw (fun J=>?_) fun J=>?_
     ·have b:¬R.length=0:=AA
      have I:R[0]? =some a2:=G;exact AO (by rw[n];unfold kP;simp[d,f,g,h,i,j,k,l,m,o,p,b,I,J])
     have b:¬R.length=0:=AA
     have I:R[0]? =some a2:=G;exact AO (by rw[n];unfold kP;simp[d,f,g,h,i,j,k,l,m,o,p,b,I,J])
    have m:=CL W;have b:¬R.length=0:=AA
    exact AO (by rw[n];unfold kP;simp[d,f,g,h,i,j,k,l,m,b])
   have l:=CL U;have b:¬R.length=0:=AA
   exact AO (by rw[n];unfold kP;simp[d,f,g,h,i,j,k,l,b])
  have k:=CL T;have b:¬R.length=0:=AA
  exact AO (by rw[n];unfold kP;simp[d,f,g,h,i,j,k,b])
 have h:=CL S;have b:¬R.length=0:=AA
 exact AO (by rw[n];unfold kP;simp[d,f,g,h,b])
def Yf {t:Int} {c:Bool} (x:Eg (AF.length:Nat) C=true) (Q:kd=17->2<=C.length) (m:c=sP kd sd (FI t C 0) (Di P (AF.getD t.toNat 0)) (CY AF C 0) (CY AF C 1)):CF 24 [.agg (cC kd P C V sd),.one (.sl .i64 AF),AH t] (.one (.bool c)):=by
 refine AL Tryz.func24 fun E A=>?_
 obtain⟨O,u⟩:=xI (FI t C 0);refine AB A (YQ u) ?_;refine Dk (fun B=>?_) fun B=>?_
 ·have b:FI t C 0<0:=AA
  exact AO (by rw[m];unfold sP;simp[b])
 refine .inr ?_;intro D r;conv=>cbv
 refine .inr ?_;cases D <;> conv=>cbv
 ·have f:=CI r;refine BY (fun g=>?_) fun g=>?_
  ·have b:¬FI t C 0<0:=AA
   exact AO (by rw[m];unfold sP;simp[f,g,b])
  intro F s;refine .inr ?_;cases F <;> conv=>cbv
  ·have h:=CI s;refine BY (fun j=>?_) fun j=>?_
   ·have hw:=dJ (t:=t) x AA;refine BA ((t).toNat) fun k i=>?_
    try conv=>cbv
    obtain⟨y,d⟩:=xB (Di P k);refine AB A (YN d) ?_;intro G p;have b:¬FI t C 0<0:=AA
    exact AO (by rw[m];unfold sP;rw[show AF.getD t.toNat 0=k from cF i,<-d];simp[f,g,h,j,b,p])
   refine Cw (fun l=>?_) fun l=>?_
   ·have b:¬FI t C 0<0:=AA
    exact AO (by rw[m];unfold sP;simp[f,g,h,j,l,b])
   refine Cw (fun q=>?_) fun q=>?_
   ·have b:¬FI t C 0<0:=AA
    exact AO (by rw[m];unfold sP;simp[f,g,h,j,l,b,q])
   refine BA 0 fun H n=>?_
   try conv=>cbv
   have L:=OG x n;refine BA ((H).toNat) fun I v=>?_
   try conv=>cbv
   refine BA 1 fun J o=>?_
   try conv=>cbv
   have M:=OG x o;refine BA ((J).toNat) fun K w=>?_
   refine AM ?_;intro N z;have b:¬FI t C 0<0:=AA
   exact AO (by rw[m];unfold sP;rw[show CY AF C 0=I from RE n v,show CY AF C 1=K from RE o w];simp[f,g,h,j,l,b,q,z])
  have h:=CL s;have hw:=dJ (t:=t) x AA;refine BA ((t).toNat) fun k i=>?_
  try conv=>cbv
  obtain⟨y,d⟩:=xB (Di P k);refine AB A (YN d) ?_;intro G p;have b:¬FI t C 0<0:=AA
  exact AO (by rw[m];unfold sP;rw[show AF.getD t.toNat 0=k from cF i,<-d];simp[f,g,h,b,p])
 have f:=CL r;have b:¬FI t C 0<0:=AA
 exact AO (by rw[m];unfold sP;simp[f,b])
def sD (k s:Int) (f n:Bool) (c0 c1:Int):Bool:=
 if f=false then false else if k=13\/k=16 then !n else if k=17 then (s==1)&&(c0 !=c1) else true
end
section
def Ie (cr:List (el Ae)) (p:Int):el Co:=(cr.getD (2*p.toNat) ([],[]),cr.getD (2*p.toNat+1) ([],[]))
def Hs (cr:List (el Ae)) (AE c:Int):el Ae:=cr.getD (2*AE+c).toNat ([],[])
def yFR {b1 b2:Bool} {l1 l2:List UInt32}:CF 54 [.agg (CP b1 l1 b2 l2)] (.agg [.sl (.sl AJ) (([]:List LR)),.sl AJ [((b1,l1),b2,l2)]]):=by
 refine AL Tryz.func54 fun E b=>?_
 refine⟨[((b1,l1),(b2,l2))],Cj,.inr ?_⟩;try conv=>cbv
 exact AN AK
end
end Go.Abs
