/- Part 13 of a proof. Conditions: each theorem's own. -/
import Derived.Test.YtajccafjojgleaaGreatDoorRa11
set_option linter.all false
set_option maxHeartbeats 80000000
set_option maxRecDepth 20000
open Go.Proofs
namespace Go.Abs
open Go.RowKit
section
def Z7 (Ee:Int) (s:Int->Int) (c:Int):Bool:=decide (c=Ee)||decide (0<s c)
end
section
end
section
def kP (k:Int) (L:List Int) (c0 c1:Bool):Int:=
 if k=13 then (if (decide ((L.length:Int)>0) !=c0)=true then 2 else 0)
 else if k=16 then (if c0=true/\L.length=0 then 1 else 0)
 else if k=17 then (if (c0 !=c1)=true then 2 else 0)
 else if L.length=0 then 0
 else if k=1\/k=9 then 3 else if k=2 then 2 else if k=3\/k=6\/k=11\/k=12 then 1
 else if k=4 then (if L.getD 0 0=0 then 1 else 0) else if k=10 then (if L.getD 0 0<2 then 3 else 0)
 else if k=5\/k=7 then (if L.length=2 then 2 else 1) else if k=8 then (if L.length=2 then 1 else 2) else 0
def Uf (h h2:Bool) (x y:Int):Int:=if h=true/\h2=true then y else if h=true\/h2=true then x else 0
def kF (k:Int) (a p0 h h2 c0 c1:Bool):Int:=
 if k=1\/k=9 then (if a=true then 1 else 0) else if k=2 then (if a=true then 2 else 0)
 else if k=3\/k=11\/k=12 then (if a=true then 3 else 0) else if k=4 then (if p0=true then 3 else 0)
 else if k=5\/k=7 then Uf h h2 3 2 else if k=6 then Uf h h2 3 3 else if k=8 then Uf h h2 2 3
 else if k=10 then (if h=true then 1 else 0) else if k=13 then (if (a !=c0)=true then 2 else 0)
 else if k=16 then (if a=false/\c0=true then 3 else 0) else if k=17 then (if (c0 !=c1)=true then 2 else 0) else 0
def kD (f:Int):Int:=if f=1 then 3 else if f=2 then 2 else if f=3 then 1 else 0
def sP (k s i:Int) (n:Bool) (c0 c1:Int):Bool:=
 if i<0 then false else if k=14\/k=15 then true else if k=13\/k=16 then !n else if k=17 then (s==1)&&(c0 !=c1) else false
variable {C P AJ:List Int} {V:List Ex} {kd sd:Int}
theorem ZW (t:Int):∀(l:List Int) (i:Nat),¬B9 t l i<0->t∈l
 | [],i,h=>absurd (by rw[B9];decide) h
 | p::r,i,h=>by
  rw[B9] at h
  by_cases e:t=p
  ·rw[e];exact List.mem_cons_self
  rw[if_neg e] at h;exact List.mem_cons_of_mem _ (ZW t r (i+1) h)
theorem ZZ {n t:Int} {l:List Int} (h:Dy n l=true) (a:¬B9 t l 0<0):0<=t/\t<n:=of_decide_eq_true (List.all_eq_true.1 h t (ZW t l 0 a))
theorem Rg {t c:Int} (hP:P.length<=1000000) (hC:Dy (AJ.length:Nat) C=true) (h1:kd=13\/kd=16->1<=C.length) (h2:kd=17->2<=C.length) (m:c=kP kd (F4 t P 0) (KW AJ C t 0) (KW AJ C t 1)):CF 21 [.agg (cC kd P C V sd),.one (.sl .i64 AJ),AH t] (AH c):=by
 obtain⟨R,hR⟩:∃z:List Int,z=F4 t P 0:=⟨_,rfl⟩
 rw[<-hR] at m;refine AM Tryz.func21 fun E hE=>?_
 refine AB hE (a7 hP hR) ?_;refine .inr ?_;refine BS (fun b=>?_) fun b=>?_
 ·rintro ax ⟨M,f18⟩ ay N;obtain⟨a5,w⟩:=xB (KW AJ C t 0);refine .inr (.inl ⟨[AH 0,.one (.Ck (.sl .i64) AJ 0),.one (.Ck (.pr .i64 (.pr (.sl .i64) (.pr (.sl .i64) (.pr (.sl .ex) .i64)))) (kd,P,C,V,sd) 0),.one (.Ck .i64 t 0)],.one (.bool a5),fun _=>⟨rfl,⟨rfl,(.sl .i64),AJ,rfl,rfl⟩,⟨rfl,(.pr .i64 (.pr (.sl .i64) (.pr (.sl .i64) (.pr (.sl .ex) .i64)))),(kd,P,C,V,sd),rfl,rfl⟩,⟨rfl,.i64,t,rfl,rfl⟩,trivial⟩,fun _=>Gl hE (P8 (BD 0) AA hC w),?_⟩);refine AW ?_;intro ah A;cases ah <;> conv=>cbv
  ·have ab:=PC A;exact AL (by rw[m];unfold kP;rw[<-M,<-N,<-w,<-A];simp[b])
  have ab:=PD A;exact AL (by rw[m];unfold kP;rw[<-M,<-N,<-w,<-A];simp[b])
 refine BS (fun d=>?_) fun d=>?_
 ·obtain⟨L,s⟩:=xB (KW AJ C t 0);refine .inr (.inl ⟨[AH 0,.one (.Ck (.sl .i64) AJ 0),.one (.Ck (.pr .i64 (.pr (.sl .i64) (.pr (.sl .i64) (.pr (.sl .ex) .i64)))) (kd,P,C,V,sd) 0),.one (.Ck .i64 t 0)],.one (.bool L),fun _=>⟨rfl,⟨rfl,(.sl .i64),AJ,rfl,rfl⟩,⟨rfl,(.pr .i64 (.pr (.sl .i64) (.pr (.sl .i64) (.pr (.sl .ex) .i64)))),(kd,P,C,V,sd),rfl,rfl⟩,⟨rfl,.i64,t,rfl,rfl⟩,trivial⟩,fun _=>Gl hE (P8 (BD 0) AA hC s),?_⟩);try conv=>cbv
  cases L <;> conv=>cbv
  ·exact AL (by rw[m];unfold kP;rw[<-s];simp[b,d])
  rintro az ⟨au,f29⟩;conv=>cbv
  refine CN (fun ad=>?_) fun ad=>?_
  ·have a:¬R.length=0:=AA
   exact AL (by rw[m];unfold kP;rw[<-s];simp[b,d,a])
  have a:R.length=0:=AA
  exact AL (by rw[m];unfold kP;rw[<-s];simp[b,d,a])
 refine BS (fun f=>?_) fun f=>?_
 ·obtain⟨a6,x⟩:=xB (KW AJ C t 0);refine .inr (.inl ⟨[AH 0,.one (.Ck (.sl .i64) AJ 0),.one (.Ck (.pr .i64 (.pr (.sl .i64) (.pr (.sl .i64) (.pr (.sl .ex) .i64)))) (kd,P,C,V,sd) 0),.one (.Ck .i64 t 0)],.one (.bool a6),fun _=>⟨rfl,⟨rfl,(.sl .i64),AJ,rfl,rfl⟩,⟨rfl,(.pr .i64 (.pr (.sl .i64) (.pr (.sl .i64) (.pr (.sl .ex) .i64)))),(kd,P,C,V,sd),rfl,rfl⟩,⟨rfl,.i64,t,rfl,rfl⟩,trivial⟩,fun _=>Gl hE (P8 (BD 0) AA hC x),?_⟩);try conv=>cbv
  obtain⟨a8,y⟩:=xB (KW AJ C t 1);refine .inr (.inl ⟨[AH 1,.one (.Ck (.sl .i64) AJ 0),.one (.Ck (.pr .i64 (.pr (.sl .i64) (.pr (.sl .i64) (.pr (.sl .ex) .i64)))) (kd,P,C,V,sd) 0),.one (.Ck .i64 t 0)],.one (.bool a8),fun _=>⟨rfl,⟨rfl,(.sl .i64),AJ,rfl,rfl⟩,⟨rfl,(.pr .i64 (.pr (.sl .i64) (.pr (.sl .i64) (.pr (.sl .ex) .i64)))),(kd,P,C,V,sd),rfl,rfl⟩,⟨rfl,.i64,t,rfl,rfl⟩,trivial⟩,fun _=>Gl hE (P8 (BD 1) AA hC y),?_⟩);refine AW ?_;intro ai B;cases ai <;> conv=>cbv
  ·have ae:=PC B;exact AL (by rw[m];unfold kP;rw[<-x,<-y,<-B];simp[b,d,f])
  have ae:=PD B;exact AL (by rw[m];unfold kP;rw[<-x,<-y,<-B];simp[b,d,f])
 intro aA O;have av:=O.eq;have f40:=O.le;refine BS (fun af=>?_) fun af=>?_
 ·have a:R.length=0:=AA
  exact AL (by rw[m];unfold kP;simp[b,d,f,a])
 refine .inr ?_;intro aj Q;conv=>cbv
 refine .inr ?_;cases aj <;> conv=>cbv
 ·have g:=Bu Q;refine BS (fun h=>?_) fun h=>?_
  ·have a:¬R.length=0:=AA
   exact AL (by rw[m];unfold kP;simp[b,d,f,g,h,a])
  refine BS (fun i=>?_) fun i=>?_
  ·have a:¬R.length=0:=AA
   exact AL (by rw[m];unfold kP;simp[b,d,f,g,h,i,a])
  intro ak S;refine .inr ?_;cases ak <;> conv=>cbv
  ·have j:=Bu S;intro Du T;conv=>cbv
   refine .inr ?_;cases Du <;> conv=>cbv
   ·have k:=Bu T;intro al U;conv=>cbv
    refine .inr ?_;cases al <;> conv=>cbv
    ·have l:=Bu U;refine BS (fun n=>?_) fun n=>?_
     ·have a:¬R.length=0:=AA
      exact AL (by rw[m];unfold kP;simp[b,d,f,g,h,i,j,k,l,n,a])
     intro an W;refine .inr ?_;cases an <;> conv=>cbv
     ·have o:=Bu W;intro ao X;conv=>cbv
      refine .inr ?_;cases ao <;> conv=>cbv
      ·have q:=Bu X;intro aq Y;conv=>cbv
       refine .inr ?_;cases aq <;> conv=>cbv
       ·have r:=Bu Y;refine BS (fun u=>?_) fun u=>?_
        ·intro ar v;have aa:=v.eq;have f70:=v.le;refine CN (fun K=>?_) fun K=>?_
         ·have a:¬R.length=0:=AA
          have p:¬R.length=2:=AA
          exact AL (by rw[m];unfold kP;simp[b,d,f,g,h,i,j,k,l,n,o,q,r,u,a,p])
         have a:¬R.length=0:=AA
         have p:R.length=2:=AA
         exact AL (by rw[m];unfold kP;simp[b,d,f,g,h,i,j,k,l,n,o,q,r,u,a,p])
        refine CN (fun D=>?_) fun D=>?_
        ·have a:¬R.length=0:=AA
         exact AL (by rw[m];unfold kP;simp[b,d,f,g,h,i,j,k,l,n,o,q,r,u,D,a])
        intro aB Z;have aw:=Z.eq;have f75:=Z.le;refine CN (fun ag=>?_) fun ag=>?_
        ·have a:¬R.length=0:=AA
         have p:¬R.length=2:=AA
         exact AL (by rw[m];unfold kP;simp[b,d,f,g,h,i,j,k,l,n,o,q,r,u,D,a,p])
        have a:¬R.length=0:=AA
        have p:R.length=2:=AA
        exact AL (by rw[m];unfold kP;simp[b,d,f,g,h,i,j,k,l,n,o,q,r,u,D,a,p])
       have r:=Bv Y;intro ar v;have aa:=v.eq;have f70:=v.le;conv=>cbv
       refine CN (fun K=>?_) fun K=>?_
       ·have a:¬R.length=0:=AA
        have p:¬R.length=2:=AA
        exact AL (by rw[m];unfold kP;simp[b,d,f,g,h,i,j,k,l,n,o,q,r,a,p])
       have a:¬R.length=0:=AA
       have p:R.length=2:=AA
       exact AL (by rw[m];unfold kP;simp[b,d,f,g,h,i,j,k,l,n,o,q,r,a,p])
      have q:=Bv X;refine Ae 0 fun a2 G=>?_
      try conv=>cbv
      refine BQ (fun J=>?_) fun J=>?_
      ·have a:¬R.length=0:=AA
       have H:R[0]? =some a2:=G;exact AL (by rw[m];unfold kP;simp[b,d,f,g,h,i,j,k,l,n,o,q,a,H,J])
      have a:¬R.length=0:=AA
      have H:R[0]? =some a2:=G;exact AL (by rw[m];unfold kP;simp[b,d,f,g,h,i,j,k,l,n,o,q,a,H,J])
     have o:=Bv W;refine Ae 0 fun a1 F=>?_
     try conv=>cbv
     refine CN (fun I=>?_) fun I=>?_
     ·have a:¬R.length=0:=AA
      have H:R[0]? =some a1:=F;exact AL (by rw[m];unfold kP;simp[b,d,f,g,h,i,j,k,l,n,o,a,H,I])
     have a:¬R.length=0:=AA
     have H:R[0]? =some a1:=F;exact AL (by rw[m];unfold kP;simp[b,d,f,g,h,i,j,k,l,n,o,a,H,I])
    have l:=Bv U;have a:¬R.length=0:=AA
    exact AL (by rw[m];unfold kP;simp[b,d,f,g,h,i,j,k,l,a])
   have k:=Bv T;have a:¬R.length=0:=AA
   exact AL (by rw[m];unfold kP;simp[b,d,f,g,h,i,j,k,a])
  have j:=Bv S;have a:¬R.length=0:=AA
  exact AL (by rw[m];unfold kP;simp[b,d,f,g,h,i,j,a])
 have g:=Bv Q;have a:¬R.length=0:=AA
 exact AL (by rw[m];unfold kP;simp[b,d,f,g,a])
theorem Rp {t:Int} {c:Bool} (w:Dy (AJ.length:Nat) C=true) (O:kd=17->2<=C.length) (l:c=sP kd sd (B9 t C 0) (Cr P (AJ.getD t.toNat 0)) (CJ AJ C 0) (CJ AJ C 1)):CF 22 [.agg (cC kd P C V sd),.one (.sl .i64 AJ),AH t] (.one (.bool c)):=by
 refine AM Tryz.func22 fun E z=>?_
 obtain⟨N,s⟩:=xI (B9 t C 0);refine AB z (OZ s) ?_;refine DF (fun A=>?_) fun A=>?_
 ·have a:B9 t C 0<0:=AA
  exact AL (by rw[l];unfold sP;simp[a])
 refine .inr ?_;intro B q;conv=>cbv
 refine .inr ?_;cases B <;> conv=>cbv
 ·have d:=Bu q;refine BS (fun f=>?_) fun f=>?_
  ·have a:¬B9 t C 0<0:=AA
   exact AL (by rw[l];unfold sP;simp[d,f,a])
  intro D r;refine .inr ?_;cases D <;> conv=>cbv
  ·have g:=Bu r;refine BS (fun i=>?_) fun i=>?_
   ·have hw:=ZZ (t:=t) w AA;refine Ae ((t).toNat) fun j h=>?_
    try conv=>cbv
    obtain⟨x,b⟩:=xB (Cr P j);refine AB z (V3 b) ?_;intro F o;have a:¬B9 t C 0<0:=AA
    exact AL (by rw[l];unfold sP;rw[show AJ.getD t.toNat 0=j from Y5 h,<-b];simp[d,f,g,i,a,o])
   refine CN (fun k=>?_) fun k=>?_
   ·have a:¬B9 t C 0<0:=AA
    exact AL (by rw[l];unfold sP;simp[d,f,g,i,k,a])
   refine CN (fun p=>?_) fun p=>?_
   ·have a:¬B9 t C 0<0:=AA
    exact AL (by rw[l];unfold sP;simp[d,f,g,i,k,a,p])
   refine Ae 0 fun G m=>?_
   try conv=>cbv
   have K:=Mj w m;refine Ae ((G).toNat) fun H u=>?_
   try conv=>cbv
   refine Ae 1 fun I n=>?_
   try conv=>cbv
   have L:=Mj w n;refine Ae ((I).toNat) fun J v=>?_
   refine AK ?_;intro M y;have a:¬B9 t C 0<0:=AA
   exact AL (by rw[l];unfold sP;rw[show CJ AJ C 0=H from PW m u,show CJ AJ C 1=J from PW n v];simp[d,f,g,i,k,a,p,y])
  have g:=Bv r;have hw:=ZZ (t:=t) w AA;refine Ae ((t).toNat) fun j h=>?_
  try conv=>cbv
  obtain⟨x,b⟩:=xB (Cr P j);refine AB z (V3 b) ?_;intro F o;have a:¬B9 t C 0<0:=AA
  exact AL (by rw[l];unfold sP;rw[show AJ.getD t.toNat 0=j from Y5 h,<-b];simp[d,f,g,a,o])
 have d:=Bv q;have a:¬B9 t C 0<0:=AA
 exact AL (by rw[l];unfold sP;simp[d,a])
def sD (k s:Int) (f n:Bool) (c0 c1:Int):Bool:=
 if f=false then false else if k=13\/k=16 then !n else if k=17 then (s==1)&&(c0 !=c1) else true
end
section
def Ug (cr:List (el AY)) (p:Int):el K7:=(cr.getD (2*p.toNat) ([],[]),cr.getD (2*p.toNat+1) ([],[]))
def HJ (cr:List (el AY)) (AI c:Int):el AY:=cr.getD (2*AI+c).toNat ([],[])
theorem yFR {b1 b2:Bool} {l1 l2:List UInt32}:CF 47 [.agg (Br b1 l1 b2 l2)] (.agg [.sl (.sl AG) (([]:List LR)),.sl AG [((b1,l1),b2,l2)]]):=by
 refine AM Tryz.func47 fun E a=>?_
 refine⟨[((b1,l1),(b2,l2))],Ca,.inr ?_⟩;try conv=>cbv
 exact AN Ao
end
end Go.Abs
