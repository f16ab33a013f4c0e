/- Part 16 of a proof. Conditions: each theorem's own. -/
import Derived.Test.YtmifleedghiimaaGreatDoorRb11
import Derived.Test.YtmifleedghiimaaGreatDoorRb14
set_option linter.all false
set_option maxHeartbeats 80000000
set_option maxRecDepth 20000
open Go.Proofs
namespace Go.Abs
open Go.RowKit
def EV (k:Int):Prop:=k=5\/k=6\/k=7\/k=8
structure Hx (k:Int) (P C:List Int) (V:List Ex) (sd AE Ku:Int):Prop where
 ok:MT k=true
 np:(P.length:Int)=(DO k).2.1
 nc:(C.length:Int)=(DO k).2.2.1
 nv:(V.length:Int)=(DO k).2.2.2.1
 wp:Eg AE P=true
 wc:Eg Ku C=true
 ve:∀(i:Nat) (e:Ex),V[i]? =some e->Hv e=0
 s1:(DO k).2.2.2.2.2.2=true->sd=1\/sd= -1
 s2:(DO k).2.2.2.2.2.2=false->sd=0
 pr:EV k->∀a b c d,P[0]? =some a->P[1]? =some b->P[2]? =some c->P[3]? =some d->(a≠b/\c≠d)/\¬((a=c/\b=d)\/(a=d/\b=c))
 df:¬EV k->Io P/\Io C
variable {C P:List Int} {V:List Ex} {Ku k AE sd:Int}
def yX {i:Nat} {x:Ex} (h:∀(j:Nat) (e:Ex),j<i->V[j]? =some e->Hv e=0) (b:V[i]? =some x) (a:Hv x=0):∀(j:Nat) (e:Ex),j<i+1->V[j]? =some e->Hv e=0:=fun j e c he=>by
 by_cases q:j=i
 ·subst q;rw[Option.some.inj (he.symm.trans b)];exact a
 exact h j e AA he
def Xd (h:EV k):(DO k).2.1=4:=by rcases h with rfl | rfl | rfl | rfl <;> rfl
def Vi {l:List Int} (h:l.length=4):∃a b c d,l=[a,b,c,d]:=by
 match l,h with
 | [a,b,c,d],_=>exact⟨a,b,c,d,rfl⟩
def Cu {a b c d:Int} (j:P=[a,b,c,d]):(EV k->∀a b c d,P[0]? =some a->P[1]? =some b->P[2]? =some c->P[3]? =some d->(a≠b/\c≠d)/\¬((a=c/\b=d)\/(a=d/\b=c)))↔(EV k->(a≠b/\c≠d)/\¬((a=c/\b=d)\/(a=d/\b=c))):=by
 subst j;exact⟨fun h ht=>h ht _ _ _ _ rfl rfl rfl rfl,fun h ht l b' m n f g h3 i=>by cases f;cases g;cases h3;cases i;exact h ht⟩
def HX (h:MT k=true/\(P.length:Int)=(DO k).2.1/\(C.length:Int)=(DO k).2.2.1/\(V.length:Int)=(DO k).2.2.2.1/\Eg AE P=true/\Eg Ku C=true) (f:∀(i:Nat) (e:Ex),V[i]? =some e->Hv e=0) (g:(DO k).2.2.2.2.2.2=true->sd=1\/sd= -1) (h3:(DO k).2.2.2.2.2.2=false->sd=0)
  (j:EV k->∀a b c d,P[0]? =some a->P[1]? =some b->P[2]? =some c->P[3]? =some d->(a≠b/\c≠d)/\¬((a=c/\b=d)\/(a=d/\b=c))) (l:¬EV k->Io P/\Io C):Hx k P C V sd AE Ku:=
 ⟨h.1,h.2.1,h.2.2.1,h.2.2.2.1,h.2.2.2.2.1,h.2.2.2.2.2,f,g,h3,j,l⟩
def lh {kd:Int} {c:Bool} {N:Nat} (hk:Ej kd) (hN:N<=1048576) (hV:∀(i:Nat) (e:Ex),V[i]? =some e->Gl N e) (f:c=true↔Hx kd P C V sd AE Ku):CF 12 [.agg (cC kd P C V sd),.one (.int .i64 AE),.one (.int .i64 Ku)] (.one (.bool c)):=by
 refine IN Tryz.func12 fun E hE=>?_
 conv=>cbv
 obtain⟨⟨nm,ra,rb,rc,rd,re,rg⟩,v⟩:∃z:el N6,z=DO kd:=⟨_,rfl⟩
 obtain⟨aw,Y⟩:=xB (MT kd);refine Be hE (YY hk v Y) ?_;conv=>cbv
 refine RT ?_ ?_ <;> intro af <;> conv=>cbv
 ·exact AO (Bool.eq_false_iff.2 fun z=>by have q:=f.1 z;have b:=q.ok;rw[<-Y] at b;exact absurd b (by rw[af];decide))
 rintro aP ⟨az,f23⟩;conv=>cbv
 refine NJ ?_ ?_ <;> intro aG <;> conv=>cbv
 ·exact AO (Bool.eq_false_iff.2 fun z=>by have q:=f.1 z;have b:=q.np;rw[<-v] at b;have b:(P.length:Int)=ra:=b;omega)
 rintro aQ ⟨aA,f31⟩;conv=>cbv
 refine NJ ?_ ?_ <;> intro aH <;> conv=>cbv
 ·exact AO (Bool.eq_false_iff.2 fun z=>by have q:=f.1 z;have b:=q.nc;rw[<-v] at b;have b:(C.length:Int)=rb:=b;omega)
 rintro aR ⟨aB,f39⟩;conv=>cbv
 refine NJ ?_ ?_ <;> intro aI <;> conv=>cbv
 ·exact AO (Bool.eq_false_iff.2 fun z=>by have q:=f.1 z;have b:=q.nv;rw[<-v] at b;have b:(V.length:Int)=rc:=b;omega)
 obtain⟨ax,Z⟩:=xB (Eg AE P);refine Be hE (j5 Z) ?_;conv=>cbv
 refine RT ?_ ?_ <;> intro ag <;> conv=>cbv
 ·exact AO (Bool.eq_false_iff.2 fun z=>by have q:=f.1 z;have b:=q.wp;rw[<-Z] at b;exact absurd b (by rw[ag];decide))
 obtain⟨ay,a1⟩:=xB (Eg Ku C);refine Be hE (j5 a1) ?_;conv=>cbv
 refine RT ?_ ?_ <;> intro ah <;> conv=>cbv
 ·exact AO (Bool.eq_false_iff.2 fun z=>by have q:=f.1 z;have b:=q.wc;rw[<-a1] at b;exact absurd b (by rw[ah];decide))
 refine BX [] [3,7,9] [3,7] (fun vs W k=>∃(i':Nat) (i:Int),vs=[.one (.BU 3 0 0),.one (.BU 7 0 0),.one (.int .i64 i)]/\W=[.var 0 (cC kd P C V sd),.var 0 [.str nm,.int .i64 ra,.int .i64 rb,.int .i64 rc,.int .i64 rd,.int .i64 re,.bool rg]]/\(AZ i i'/\i'<=V.length)/\(MT kd=true/\(P.length:Int)=(DO kd).2.1/\(C.length:Int)=(DO kd).2.2.1/\(V.length:Int)=(DO kd).2.2.2.1/\Eg AE P=true/\Eg Ku C=true)/\(∀(j:Nat) (e:Ex),j<i'->V[j]? =some e->Hv e=0)/\k=V.length-i') (V.length-0) ⟨0,0,rfl,rfl,⟨BM 0,AA⟩,⟨Y.symm.trans af,by rw[<-v];show (P.length:Int)=ra;omega,by rw[<-v];show (C.length:Int)=rb;omega,by rw[<-v];show (V.length:Int)=rc;omega,Z.symm.trans ag,a1.symm.trans ah⟩,fun j e h=>absurd h (Nat.not_lt_zero j),rfl⟩ ?_;rintro J0 ak vs W aO ⟨i',i,rfl,rfl,⟨hi,aE⟩,g,hinv,aF⟩;conv=>cbv
 have ei:=hi.eq;rintro aS ⟨aC,f61⟩;conv=>cbv
 refine RQ ?_ ?_ <;> intro aJ <;> conv=>cbv
 ·refine .inr ?_;refine BA i' fun av a2=>?_
  try conv=>cbv
  obtain⟨aq,⟨⟨ai,al⟩,⟨aj,an⟩⟩,au,ar⟩:=av;obtain⟨aT,ae⟩:=xI (Hv (.mk aq ((ai,al),(aj,an)) au ar));refine Be hE (lg hN (hV _ _ a2) ae) ?_;conv=>cbv
  refine NJ ?_ ?_ <;> intro aK <;> conv=>cbv
  ·exact AO (Bool.eq_false_iff.2 fun z=>by have q:=f.1 z;have b:=q.ve _ _ a2;omega)
  intro ao aD;conv=>cbv
  exact D6 (Bj ak ⟨i'+1,ao,rfl,rfl,⟨⟨AA⟩,AA⟩,g,yX hinv a2 AA,rfl⟩)
 cases rg <;> conv=>cbv
 ·refine G7 ?_;conv=>cbv
  refine NJ ?_ ?_ <;> intro aN <;> conv=>cbv
  ·exact AO (Bool.eq_false_iff.2 fun z=>by have q:=f.1 z;have b:=q.s1;have h2:=q.s2;rw[<-v] at b h2;first | (have h3:=b rfl;omega) | (have h3:=h2 rfl;omega))
  have D:∀(j:Nat) (e:Ex),V[j]? =some e->Hv e=0:=fun j e h=>hinv j e (by have:=EX h;omega) h
  have A:(DO kd).2.2.2.2.2.2=true->sd=1\/sd= -1:=by rw[<-v];intro z;first | omega | exact absurd (show false=true from z) AD | exact absurd (show true=false from z) AD
  have B:(DO kd).2.2.2.2.2.2=false->sd=0:=by rw[<-v];intro z;first | omega | exact absurd (show false=true from z) AD | exact absurd (show true=false from z) AD
  refine .inr ?_;intro a6 K;conv=>cbv
  obtain⟨U,o⟩:=xK fun vs W=>∃(e:Bool),vs=[.one (.BU 3 0 0),.one (.sl .i64 P),.one (.bool e)]/\W=[.var 0 (cC kd P C V sd)]/\(e=true↔EV kd)
  refine .inl ⟨[3,10,98],[3],U,?_,?_⟩
  ·intro vs W hj;rw[o] at hj;obtain⟨X,rfl,rfl,H⟩:=hj;conv=>cbv
   cases X <;> conv=>cbv
   ·have a:¬EV kd:=fun z=>by cases H.2 z
    obtain⟨I,u⟩:=Es (Io P);refine Be hE (NB u) ?_;conv=>cbv
    cases I <;> conv=>cbv
    ·exact AO (Bool.eq_false_iff.2 fun z=>by have q:=f.1 z;exact absurd (u.2 (q.df a).1) AD)
    obtain⟨a7,y⟩:=Es (Io C);refine Be hE (NB y) ?_;conv=>cbv
    exact AO (by rw[Bool.eq_iff_iff,f,y];exact⟨fun q=>(q.df a).2,fun z=>(HX g D A B (fun b=>absurd b a) (fun _=>⟨u.1 rfl,z⟩))⟩)
   have a:EV kd:=H.1 rfl;obtain⟨p0,p1,p2,p3,d⟩:=Vi (l:=P) (by have b:=g.2.1;rw[Xd a] at b;omega);have p:P[Int.toNat 0]? =some p0:=by rw[d];rfl
   have r:P[Int.toNat 1]? =some p1:=by rw[d];rfl
   have s:P[Int.toNat 2]? =some p2:=by rw[d];rfl
   have t:P[Int.toNat 3]? =some p3:=by rw[d];rfl
   have ad:P.length=4:=by rw[d];rfl
   refine Bh p ?_;try conv=>cbv
   refine Bh s ?_;try conv=>cbv
   refine I0 ?_ ?_ <;> intro a8 <;> conv=>cbv
   ·refine Bh p ?_;try conv=>cbv
    refine Bh t ?_;try conv=>cbv
    refine I0 ?_ ?_ <;> intro O <;> conv=>cbv
    ·refine B8 ?_;refine Bh p ?_;try conv=>cbv
     refine Bh r ?_;try conv=>cbv
     refine Dr ?_ ?_ <;> intro w <;> conv=>cbv
     ·refine B8 ?_;exact AO (Bool.eq_false_iff.2 fun z=>by have q:=f.1 z;have b:=(Cu d).1 q.pr a;omega)
     refine Bh s ?_;try conv=>cbv
     refine Bh t ?_;try conv=>cbv
     refine Dr ?_ ?_ <;> intro x <;> conv=>cbv
     ·refine B8 ?_;exact AO (Bool.eq_false_iff.2 fun z=>by have q:=f.1 z;have b:=(Cu d).1 q.pr a;omega)
     refine G7 ?_;conv=>cbv
     refine B8 ?_;exact AO (f.2 (HX g D A B ((Cu d).2 fun _=>AA) (fun b=>absurd a b)))
    refine Bh r ?_;try conv=>cbv
    refine Bh s ?_;refine Af ?_;intro S m;refine B8 ?_;refine Bh p ?_;try conv=>cbv
    refine Bh r ?_;try conv=>cbv
    refine Dr ?_ ?_ <;> intro w <;> conv=>cbv
    ·refine B8 ?_;exact AO (Bool.eq_false_iff.2 fun z=>by have q:=f.1 z;have b:=(Cu d).1 q.pr a;omega)
    refine Bh s ?_;try conv=>cbv
    refine Bh t ?_;try conv=>cbv
    refine Dr ?_ ?_ <;> intro x <;> conv=>cbv
    ·refine B8 ?_;exact AO (Bool.eq_false_iff.2 fun z=>by have q:=f.1 z;have b:=(Cu d).1 q.pr a;omega)
    intro T n;conv=>cbv
    refine B8 ?_;exact AO (by rw[Bool.eq_iff_iff,f];exact⟨fun q=>by have b:=(Cu d).1 q.pr a;rw[n,m,beq_eq_false_iff_ne.2 AA];rfl,fun z=>(HX g D A B ((Cu d).2 fun _=>by rw[n,m] at z;have z:¬p1=p2:=(by simpa using z);omega) (fun b=>absurd a b))⟩)
   refine Bh r ?_;try conv=>cbv
   refine Bh t ?_;try conv=>cbv
   refine NI ?_ ?_ <;> intro aa <;> conv=>cbv
   ·refine B8 ?_;refine Bh p ?_;try conv=>cbv
    refine Bh r ?_;try conv=>cbv
    refine Dr ?_ ?_ <;> intro w <;> conv=>cbv
    ·refine B8 ?_;exact AO (Bool.eq_false_iff.2 fun z=>by have q:=f.1 z;have b:=(Cu d).1 q.pr a;omega)
    refine Bh s ?_;try conv=>cbv
    refine Bh t ?_;try conv=>cbv
    refine Dr ?_ ?_ <;> intro x <;> conv=>cbv
    ·refine B8 ?_;exact AO (Bool.eq_false_iff.2 fun z=>by have q:=f.1 z;have b:=(Cu d).1 q.pr a;omega)
    refine IZ ?_;conv=>cbv
    refine B8 ?_;exact AO (Bool.eq_false_iff.2 fun z=>by have q:=f.1 z;have b:=(Cu d).1 q.pr a;omega)
   refine Bh p ?_;try conv=>cbv
   refine Bh t ?_;try conv=>cbv
   refine I0 ?_ ?_ <;> intro O <;> conv=>cbv
   ·refine B8 ?_;refine Bh p ?_;try conv=>cbv
    refine Bh r ?_;try conv=>cbv
    refine Dr ?_ ?_ <;> intro w <;> conv=>cbv
    ·refine B8 ?_;exact AO (Bool.eq_false_iff.2 fun z=>by have q:=f.1 z;have b:=(Cu d).1 q.pr a;omega)
    refine Bh s ?_;try conv=>cbv
    refine Bh t ?_;try conv=>cbv
    refine Dr ?_ ?_ <;> intro x <;> conv=>cbv
    ·refine B8 ?_;exact AO (Bool.eq_false_iff.2 fun z=>by have q:=f.1 z;have b:=(Cu d).1 q.pr a;omega)
    refine G7 ?_;conv=>cbv
    refine B8 ?_;exact AO (f.2 (HX g D A B ((Cu d).2 fun _=>AA) (fun b=>absurd a b)))
   refine Bh r ?_;try conv=>cbv
   refine Bh s ?_;refine Af ?_;intro S m;refine B8 ?_;refine Bh p ?_;try conv=>cbv
   refine Bh r ?_;try conv=>cbv
   refine Dr ?_ ?_ <;> intro w <;> conv=>cbv
   ·refine B8 ?_;exact AO (Bool.eq_false_iff.2 fun z=>by have q:=f.1 z;have b:=(Cu d).1 q.pr a;omega)
   refine Bh s ?_;try conv=>cbv
   refine Bh t ?_;try conv=>cbv
   refine Dr ?_ ?_ <;> intro x <;> conv=>cbv
   ·refine B8 ?_;exact AO (Bool.eq_false_iff.2 fun z=>by have q:=f.1 z;have b:=(Cu d).1 q.pr a;omega)
   intro T n;conv=>cbv
   refine B8 ?_;exact AO (by rw[Bool.eq_iff_iff,f];exact⟨fun q=>by have b:=(Cu d).1 q.pr a;rw[n,m,beq_eq_false_iff_ne.2 AA];rfl,fun z=>(HX g D A B ((Cu d).2 fun _=>by rw[n,m] at z;have z:¬p1=p2:=(by simpa using z);omega) (fun b=>absurd a b))⟩)
  cases a6 <;> conv=>cbv
  ·have a5:=CI K;intro Q F;conv=>cbv
   refine .inr ?_;cases Q <;> conv=>cbv
   ·have L:=CI F;intro R G;conv=>cbv
    refine .inr ?_;cases R <;> conv=>cbv
    ·have M:=CI G;intro ab J;conv=>cbv
     rw[o];exact⟨_,rfl,rfl,by rw[J,beq_iff_eq];unfold EV;omega⟩
    have M:=CL G;rw[o];exact⟨_,rfl,rfl,by unfold EV;constructor <;> intro _ <;> first | rfl | omega⟩
   have L:=CL F;rw[o];exact⟨_,rfl,rfl,by unfold EV;constructor <;> intro _ <;> first | rfl | omega⟩
  have a5:=CL K;rw[o];exact⟨_,rfl,rfl,by unfold EV;constructor <;> intro _ <;> first | rfl | omega⟩
 refine Dr ?_ ?_ <;> intro aL <;> conv=>cbv
 ·refine IZ ?_;conv=>cbv
  have D:∀(j:Nat) (e:Ex),V[j]? =some e->Hv e=0:=fun j e h=>hinv j e (by have:=EX h;omega) h
  have A:(DO kd).2.2.2.2.2.2=true->sd=1\/sd= -1:=by rw[<-v];intro z;first | omega | exact absurd (show false=true from z) AD | exact absurd (show true=false from z) AD
  have B:(DO kd).2.2.2.2.2.2=false->sd=0:=by rw[<-v];intro z;first | omega | exact absurd (show false=true from z) AD | exact absurd (show true=false from z) AD
  refine .inr ?_;intro a6 K;conv=>cbv
  obtain⟨U,o⟩:=xK fun vs W=>∃(e:Bool),vs=[.one (.BU 3 0 0),.one (.sl .i64 P),.one (.bool e)]/\W=[.var 0 (cC kd P C V sd)]/\(e=true↔EV kd)
  refine .inl ⟨[3,10,98],[3],U,?_,?_⟩
  ·intro vs W hj;rw[o] at hj;obtain⟨X,rfl,rfl,H⟩:=hj;conv=>cbv
   cases X <;> conv=>cbv
   ·have a:¬EV kd:=fun z=>by cases H.2 z
    obtain⟨I,u⟩:=Es (Io P);refine Be hE (NB u) ?_;conv=>cbv
    cases I <;> conv=>cbv
    ·exact AO (Bool.eq_false_iff.2 fun z=>by have q:=f.1 z;exact absurd (u.2 (q.df a).1) AD)
    obtain⟨a7,y⟩:=Es (Io C);refine Be hE (NB y) ?_;conv=>cbv
    exact AO (by rw[Bool.eq_iff_iff,f,y];exact⟨fun q=>(q.df a).2,fun z=>(HX g D A B (fun b=>absurd b a) (fun _=>⟨u.1 rfl,z⟩))⟩)
   have a:EV kd:=H.1 rfl;obtain⟨p0,p1,p2,p3,d⟩:=Vi (l:=P) (by have b:=g.2.1;rw[Xd a] at b;omega);have p:P[Int.toNat 0]? =some p0:=by rw[d];rfl
   have r:P[Int.toNat 1]? =some p1:=by rw[d];rfl
   have s:P[Int.toNat 2]? =some p2:=by rw[d];rfl
   have t:P[Int.toNat 3]? =some p3:=by rw[d];rfl
   have ad:P.length=4:=by rw[d];rfl
   refine Bh p ?_;try conv=>cbv
   refine Bh s ?_;try conv=>cbv
   refine I0 ?_ ?_ <;> intro a8 <;> conv=>cbv
   ·refine Bh p ?_;try conv=>cbv
    refine Bh t ?_;try conv=>cbv
    refine I0 ?_ ?_ <;> intro O <;> conv=>cbv
    ·refine B8 ?_;refine Bh p ?_;try conv=>cbv
     refine Bh r ?_;try conv=>cbv
     refine Dr ?_ ?_ <;> intro w <;> conv=>cbv
     ·refine B8 ?_;exact AO (Bool.eq_false_iff.2 fun z=>by have q:=f.1 z;have b:=(Cu d).1 q.pr a;omega)
     refine Bh s ?_;try conv=>cbv
     refine Bh t ?_;try conv=>cbv
     refine Dr ?_ ?_ <;> intro x <;> conv=>cbv
     ·refine B8 ?_;exact AO (Bool.eq_false_iff.2 fun z=>by have q:=f.1 z;have b:=(Cu d).1 q.pr a;omega)
     refine G7 ?_;conv=>cbv
     refine B8 ?_;exact AO (f.2 (HX g D A B ((Cu d).2 fun _=>AA) (fun b=>absurd a b)))
    refine Bh r ?_;try conv=>cbv
    refine Bh s ?_;refine Af ?_;intro S m;refine B8 ?_;refine Bh p ?_;try conv=>cbv
    refine Bh r ?_;try conv=>cbv
    refine Dr ?_ ?_ <;> intro w <;> conv=>cbv
    ·refine B8 ?_;exact AO (Bool.eq_false_iff.2 fun z=>by have q:=f.1 z;have b:=(Cu d).1 q.pr a;omega)
    refine Bh s ?_;try conv=>cbv
    refine Bh t ?_;try conv=>cbv
    refine Dr ?_ ?_ <;> intro x <;> conv=>cbv
    ·refine B8 ?_;exact AO (Bool.eq_false_iff.2 fun z=>by have q:=f.1 z;have b:=(Cu d).1 q.pr a;omega)
    intro T n;conv=>cbv
    refine B8 ?_;exact AO (by rw[Bool.eq_iff_iff,f];exact⟨fun q=>by have b:=(Cu d).1 q.pr a;rw[n,m,beq_eq_false_iff_ne.2 AA];rfl,fun z=>(HX g D A B ((Cu d).2 fun _=>by rw[n,m] at z;have z:¬p1=p2:=(by simpa using z);omega) (fun b=>absurd a b))⟩)
   refine Bh r ?_;try conv=>cbv
   refine Bh t ?_;try conv=>cbv
   refine NI ?_ ?_ <;> intro aa <;> conv=>cbv
   ·refine B8 ?_;refine Bh p ?_;try conv=>cbv
    refine Bh r ?_;try conv=>cbv
    refine Dr ?_ ?_ <;> intro w <;> conv=>cbv
    ·refine B8 ?_;exact AO (Bool.eq_false_iff.2 fun z=>by have q:=f.1 z;have b:=(Cu d).1 q.pr a;omega)
    refine Bh s ?_;try conv=>cbv
    refine Bh t ?_;try conv=>cbv
    refine Dr ?_ ?_ <;> intro x <;> conv=>cbv
    ·refine B8 ?_;exact AO (Bool.eq_false_iff.2 fun z=>by have q:=f.1 z;have b:=(Cu d).1 q.pr a;omega)
    refine IZ ?_;conv=>cbv
    refine B8 ?_;exact AO (Bool.eq_false_iff.2 fun z=>by have q:=f.1 z;have b:=(Cu d).1 q.pr a;omega)
   refine Bh p ?_;try conv=>cbv
   refine Bh t ?_;try conv=>cbv
   refine I0 ?_ ?_ <;> intro O <;> conv=>cbv
   ·refine B8 ?_;refine Bh p ?_;try conv=>cbv
    refine Bh r ?_;try conv=>cbv
    refine Dr ?_ ?_ <;> intro w <;> conv=>cbv
    ·refine B8 ?_;exact AO (Bool.eq_false_iff.2 fun z=>by have q:=f.1 z;have b:=(Cu d).1 q.pr a;omega)
    refine Bh s ?_;try conv=>cbv
    refine Bh t ?_;try conv=>cbv
    refine Dr ?_ ?_ <;> intro x <;> conv=>cbv
    ·refine B8 ?_;exact AO (Bool.eq_false_iff.2 fun z=>by have q:=f.1 z;have b:=(Cu d).1 q.pr a;omega)
    refine G7 ?_;conv=>cbv
    refine B8 ?_;exact AO (f.2 (HX g D A B ((Cu d).2 fun _=>AA) (fun b=>absurd a b)))
   refine Bh r ?_;try conv=>cbv
   refine Bh s ?_;refine Af ?_;intro S m;refine B8 ?_;refine Bh p ?_;try conv=>cbv
   refine Bh r ?_;try conv=>cbv
   refine Dr ?_ ?_ <;> intro w <;> conv=>cbv
   ·refine B8 ?_;exact AO (Bool.eq_false_iff.2 fun z=>by have q:=f.1 z;have b:=(Cu d).1 q.pr a;omega)
   refine Bh s ?_;try conv=>cbv
   refine Bh t ?_;try conv=>cbv
   refine Dr ?_ ?_ <;> intro x <;> conv=>cbv
   ·refine B8 ?_;exact AO (Bool.eq_false_iff.2 fun z=>by have q:=f.1 z;have b:=(Cu d).1 q.pr a;omega)
   intro T n;conv=>cbv
   refine B8 ?_;exact AO (by rw[Bool.eq_iff_iff,f];exact⟨fun q=>by have b:=(Cu d).1 q.pr a;rw[n,m,beq_eq_false_iff_ne.2 AA];rfl,fun z=>(HX g D A B ((Cu d).2 fun _=>by rw[n,m] at z;have z:¬p1=p2:=(by simpa using z);omega) (fun b=>absurd a b))⟩)
  cases a6 <;> conv=>cbv
  ·have a5:=CI K;intro Q F;conv=>cbv
   refine .inr ?_;cases Q <;> conv=>cbv
   ·have L:=CI F;intro R G;conv=>cbv
    refine .inr ?_;cases R <;> conv=>cbv
    ·have M:=CI G;intro ab J;conv=>cbv
     rw[o];exact⟨_,rfl,rfl,by rw[J,beq_iff_eq];unfold EV;omega⟩
    have M:=CL G;rw[o];exact⟨_,rfl,rfl,by unfold EV;constructor <;> intro _ <;> first | rfl | omega⟩
   have L:=CL F;rw[o];exact⟨_,rfl,rfl,by unfold EV;constructor <;> intro _ <;> first | rfl | omega⟩
  have a5:=CL K;rw[o];exact⟨_,rfl,rfl,by unfold EV;constructor <;> intro _ <;> first | rfl | omega⟩
 refine NJ ?_ ?_ <;> intro aM <;> conv=>cbv
 ·exact AO (Bool.eq_false_iff.2 fun z=>by have q:=f.1 z;have b:=q.s1;have h2:=q.s2;rw[<-v] at b h2;first | (have h3:=b rfl;omega) | (have h3:=h2 rfl;omega))
 refine IZ ?_;conv=>cbv
 have D:∀(j:Nat) (e:Ex),V[j]? =some e->Hv e=0:=fun j e h=>hinv j e (by have:=EX h;omega) h
 have A:(DO kd).2.2.2.2.2.2=true->sd=1\/sd= -1:=by rw[<-v];intro z;first | omega | exact absurd (show false=true from z) AD | exact absurd (show true=false from z) AD
 have B:(DO kd).2.2.2.2.2.2=false->sd=0:=by rw[<-v];intro z;first | omega | exact absurd (show false=true from z) AD | exact absurd (show true=false from z) AD
 refine .inr ?_;intro a6 K;conv=>cbv
 obtain⟨U,o⟩:=xK fun vs W=>∃(e:Bool),vs=[.one (.BU 3 0 0),.one (.sl .i64 P),.one (.bool e)]/\W=[.var 0 (cC kd P C V sd)]/\(e=true↔EV kd)
 refine .inl ⟨[3,10,98],[3],U,?_,?_⟩
 ·intro vs W hj;rw[o] at hj;obtain⟨X,rfl,rfl,H⟩:=hj;conv=>cbv
  cases X <;> conv=>cbv
  ·have a:¬EV kd:=fun z=>by cases H.2 z
   obtain⟨I,u⟩:=Es (Io P);refine Be hE (NB u) ?_;conv=>cbv
   cases I <;> conv=>cbv
   ·exact AO (Bool.eq_false_iff.2 fun z=>by have q:=f.1 z;exact absurd (u.2 (q.df a).1) AD)
   obtain⟨a7,y⟩:=Es (Io C);refine Be hE (NB y) ?_;conv=>cbv
   exact AO (by rw[Bool.eq_iff_iff,f,y];exact⟨fun q=>(q.df a).2,fun z=>(HX g D A B (fun b=>absurd b a) (fun _=>⟨u.1 rfl,z⟩))⟩)
  have a:EV kd:=H.1 rfl;obtain⟨p0,p1,p2,p3,d⟩:=Vi (l:=P) (by have b:=g.2.1;rw[Xd a] at b;omega);have p:P[Int.toNat 0]? =some p0:=by rw[d];rfl
  have r:P[Int.toNat 1]? =some p1:=by rw[d];rfl
  have s:P[Int.toNat 2]? =some p2:=by rw[d];rfl
  have t:P[Int.toNat 3]? =some p3:=by rw[d];rfl
  have ad:P.length=4:=by rw[d];rfl
  refine Bh p ?_;try conv=>cbv
  refine Bh s ?_;try conv=>cbv
  refine I0 ?_ ?_ <;> intro a8 <;> conv=>cbv
  ·refine Bh p ?_;try conv=>cbv
   refine Bh t ?_;try conv=>cbv
   refine I0 ?_ ?_ <;> intro O <;> conv=>cbv
   ·refine B8 ?_;refine Bh p ?_;try conv=>cbv
    refine Bh r ?_;try conv=>cbv
    refine Dr ?_ ?_ <;> intro w <;> conv=>cbv
    ·refine B8 ?_;exact AO (Bool.eq_false_iff.2 fun z=>by have q:=f.1 z;have b:=(Cu d).1 q.pr a;omega)
    refine Bh s ?_;try conv=>cbv
    refine Bh t ?_;try conv=>cbv
    refine Dr ?_ ?_ <;> intro x <;> conv=>cbv
    ·refine B8 ?_;exact AO (Bool.eq_false_iff.2 fun z=>by have q:=f.1 z;have b:=(Cu d).1 q.pr a;omega)
    refine G7 ?_;conv=>cbv
    refine B8 ?_;exact AO (f.2 (HX g D A B ((Cu d).2 fun _=>AA) (fun b=>absurd a b)))
   refine Bh r ?_;try conv=>cbv
   refine Bh s ?_;refine Af ?_;intro S m;refine B8 ?_;refine Bh p ?_;try conv=>cbv
   refine Bh r ?_;try conv=>cbv
   refine Dr ?_ ?_ <;> intro w <;> conv=>cbv
   ·refine B8 ?_;exact AO (Bool.eq_false_iff.2 fun z=>by have q:=f.1 z;have b:=(Cu d).1 q.pr a;omega)
   refine Bh s ?_;try conv=>cbv
   refine Bh t ?_;try conv=>cbv
   refine Dr ?_ ?_ <;> intro x <;> conv=>cbv
   ·refine B8 ?_;exact AO (Bool.eq_false_iff.2 fun z=>by have q:=f.1 z;have b:=(Cu d).1 q.pr a;omega)
   intro T n;conv=>cbv
   refine B8 ?_;exact AO (by rw[Bool.eq_iff_iff,f];exact⟨fun q=>by have b:=(Cu d).1 q.pr a;rw[n,m,beq_eq_false_iff_ne.2 AA];rfl,fun z=>(HX g D A B ((Cu d).2 fun _=>by rw[n,m] at z;have z:¬p1=p2:=(by simpa using z);omega) (fun b=>absurd a b))⟩)
  refine Bh r ?_;try conv=>cbv
  refine Bh t ?_;try conv=>cbv
  refine NI ?_ ?_ <;> intro aa <;> conv=>cbv
  ·refine B8 ?_;refine Bh p ?_;try conv=>cbv
   refine Bh r ?_;try conv=>cbv
   refine Dr ?_ ?_ <;> intro w <;> conv=>cbv
   ·refine B8 ?_;exact AO (Bool.eq_false_iff.2 fun z=>by have q:=f.1 z;have b:=(Cu d).1 q.pr a;omega)
   refine Bh s ?_;try conv=>cbv
   refine Bh t ?_;try conv=>cbv
   refine Dr ?_ ?_ <;> intro x <;> conv=>cbv
   ·refine B8 ?_;exact AO (Bool.eq_false_iff.2 fun z=>by have q:=f.1 z;have b:=(Cu d).1 q.pr a;omega)
   refine IZ ?_;conv=>cbv
   refine B8 ?_;exact AO (Bool.eq_false_iff.2 fun z=>by have q:=f.1 z;have b:=(Cu d).1 q.pr a;omega)
  refine Bh p ?_;try conv=>cbv
  refine Bh t ?_;try conv=>cbv
  refine I0 ?_ ?_ <;> intro O <;> conv=>cbv
  ·refine B8 ?_;refine Bh p ?_;try conv=>cbv
   refine Bh r ?_;try conv=>cbv
   refine Dr ?_ ?_ <;> intro w <;> conv=>cbv
   ·refine B8 ?_;exact AO (Bool.eq_false_iff.2 fun z=>by have q:=f.1 z;have b:=(Cu d).1 q.pr a;omega)
   refine Bh s ?_;try conv=>cbv
   refine Bh t ?_;try conv=>cbv
   refine Dr ?_ ?_ <;> intro x <;> conv=>cbv
   ·refine B8 ?_;exact AO (Bool.eq_false_iff.2 fun z=>by have q:=f.1 z;have b:=(Cu d).1 q.pr a;omega)
   refine G7 ?_;conv=>cbv
   refine B8 ?_;exact AO (f.2 (HX g D A B ((Cu d).2 fun _=>AA) (fun b=>absurd a b)))
  refine Bh r ?_;try conv=>cbv
  refine Bh s ?_;refine Af ?_;intro S m;refine B8 ?_;refine Bh p ?_;try conv=>cbv
  refine Bh r ?_;try conv=>cbv
  refine Dr ?_ ?_ <;> intro w <;> conv=>cbv
  ·refine B8 ?_;exact AO (Bool.eq_false_iff.2 fun z=>by have q:=f.1 z;have b:=(Cu d).1 q.pr a;omega)
  refine Bh s ?_;try conv=>cbv
  refine Bh t ?_;try conv=>cbv
  refine Dr ?_ ?_ <;> intro x <;> conv=>cbv
  ·refine B8 ?_;exact AO (Bool.eq_false_iff.2 fun z=>by have q:=f.1 z;have b:=(Cu d).1 q.pr a;omega)
  intro T n;conv=>cbv
  refine B8 ?_;exact AO (by rw[Bool.eq_iff_iff,f];exact⟨fun q=>by have b:=(Cu d).1 q.pr a;rw[n,m,beq_eq_false_iff_ne.2 AA];rfl,fun z=>(HX g D A B ((Cu d).2 fun _=>by rw[n,m] at z;have z:¬p1=p2:=(by simpa using z);omega) (fun b=>absurd a b))⟩)
 cases a6 <;> conv=>cbv
 ·have a5:=CI K;intro Q F;conv=>cbv
  refine .inr ?_;cases Q <;> conv=>cbv
  ·have L:=CI F;intro R G;conv=>cbv
   refine .inr ?_;cases R <;> conv=>cbv
   ·have M:=CI G;intro ab J;conv=>cbv
    rw[o];exact⟨_,rfl,rfl,by rw[J,beq_iff_eq];unfold EV;omega⟩
   have M:=CL G;rw[o];exact⟨_,rfl,rfl,by unfold EV;constructor <;> intro _ <;> first | rfl | omega⟩
  have L:=CL F;rw[o];exact⟨_,rfl,rfl,by unfold EV;constructor <;> intro _ <;> first | rfl | omega⟩
 have a5:=CL K;rw[o];exact⟨_,rfl,rfl,by unfold EV;constructor <;> intro _ <;> first | rfl | omega⟩
end Go.Abs
