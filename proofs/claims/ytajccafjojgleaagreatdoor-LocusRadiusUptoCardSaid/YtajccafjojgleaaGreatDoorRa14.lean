/- Part 15 of a proof. Conditions: each theorem's own. -/
import Derived.Test.YtajccafjojgleaaGreatDoorRa11
import Derived.Test.YtajccafjojgleaaGreatDoorRa13
set_option linter.all false
set_option maxHeartbeats 80000000
set_option maxRecDepth 20000
open Go.Proofs
namespace Go.Abs
open Go.RowKit
def DR (k:Int):Prop:=k=5\/k=6\/k=7\/k=8
structure HV (k:Int) (P C:List Int) (V:List Ex) (sd AI JO:Int):Prop where
 ok:Km k=true
 np:(P.length:Int)=(Co k).2.1
 nc:(C.length:Int)=(Co k).2.2.1
 nv:(V.length:Int)=(Co k).2.2.2.1
 wp:Dy AI P=true
 wc:Dy JO C=true
 ve:∀(i:Nat) (e:Ex),V[i]? =some e->Gm e=0
 s1:(Co k).2.2.2.2.2.2=true->sd=1\/sd= -1
 s2:(Co k).2.2.2.2.2.2=false->sd=0
 pr:DR k->∀a b c d,P[0]? =some a->P[1]? =some b->P[2]? =some c->P[3]? =some d->(a≠b/\c≠d)/\¬((a=c/\b=d)\/(a=d/\b=c))
 df:¬DR k->HQ P/\HQ C
variable {C P:List Int} {V:List Ex} {JO k AI sd:Int}
theorem r6 {i:Nat} {x:Ex} (h:∀(j:Nat) (e:Ex),j<i->V[j]? =some e->Gm e=0) (b:V[i]? =some x) (a:Gm x=0):∀(j:Nat) (e:Ex),j<i+1->V[j]? =some e->Gm e=0:=fun j e c he=>by
 by_cases q:j=i
 ·subst q;rw[Option.some.inj (he.symm.trans b)];exact a
 exact h j e AA he
theorem U6 (h:DR k):(Co k).2.1=4:=by rcases h with rfl | rfl | rfl | rfl <;> rfl
theorem TC {l:List Int} (h:l.length=4):∃a b c d,l=[a,b,c,d]:=by
 match l,h with
 | [a,b,c,d],_=>exact⟨a,b,c,d,rfl⟩
theorem CG {a b c d:Int} (j:P=[a,b,c,d]):(DR k->∀a b c d,P[0]? =some a->P[1]? =some b->P[2]? =some c->P[3]? =some d->(a≠b/\c≠d)/\¬((a=c/\b=d)\/(a=d/\b=c)))↔(DR k->(a≠b/\c≠d)/\¬((a=c/\b=d)\/(a=d/\b=c))):=by
 subst j;exact⟨fun h ht=>h ht _ _ _ _ rfl rfl rfl rfl,fun h ht l b' m n f g h3 i=>by cases f;cases g;cases h3;cases i;exact h ht⟩
theorem GM (h:Km k=true/\(P.length:Int)=(Co k).2.1/\(C.length:Int)=(Co k).2.2.1/\(V.length:Int)=(Co k).2.2.2.1/\Dy AI P=true/\Dy JO C=true) (f:∀(i:Nat) (e:Ex),V[i]? =some e->Gm e=0) (g:(Co k).2.2.2.2.2.2=true->sd=1\/sd= -1) (h3:(Co k).2.2.2.2.2.2=false->sd=0)
  (j:DR k->∀a b c d,P[0]? =some a->P[1]? =some b->P[2]? =some c->P[3]? =some d->(a≠b/\c≠d)/\¬((a=c/\b=d)\/(a=d/\b=c))) (l:¬DR k->HQ P/\HQ C):HV k P C V sd AI JO:=
 ⟨h.1,h.2.1,h.2.2.1,h.2.2.2.1,h.2.2.2.2.1,h.2.2.2.2.2,f,g,h3,j,l⟩
theorem gV {kd:Int} {c:Bool} {N:Nat} (hk:EF kd) (hN:N<=1048576) (hV:∀(i:Nat) (e:Ex),V[i]? =some e->Fw N e) (f:c=true↔HV kd P C V sd AI JO):CF 10 [.agg (cC kd P C V sd),.one (.int .i64 AI),.one (.int .i64 JO)] (.one (.bool c)):=by
 refine H0 Tryz.func10 fun E hE=>?_
 conv=>cbv
 obtain⟨⟨nm,ra,rb,rc,rd,re,rg⟩,v⟩:∃z:el MY,z=Co kd:=⟨_,rfl⟩
 obtain⟨aw,Y⟩:=xB (Km kd);refine BO hE (WG hk v Y) ?_;conv=>cbv
 refine Pj ?_ ?_ <;> intro af <;> conv=>cbv
 ·exact AL (Bool.eq_false_iff.2 fun z=>by have q:=f.1 z;have b:=q.ok;rw[<-Y] at b;exact absurd b (by rw[af];decide))
 rintro aP ⟨az,f23⟩;conv=>cbv
 refine Lc ?_ ?_ <;> intro aG <;> conv=>cbv
 ·exact AL (Bool.eq_false_iff.2 fun z=>by have q:=f.1 z;have b:=q.np;rw[<-v] at b;have b:(P.length:Int)=ra:=b;omega)
 rintro aQ ⟨aA,f31⟩;conv=>cbv
 refine Lc ?_ ?_ <;> intro aH <;> conv=>cbv
 ·exact AL (Bool.eq_false_iff.2 fun z=>by have q:=f.1 z;have b:=q.nc;rw[<-v] at b;have b:(C.length:Int)=rb:=b;omega)
 rintro aR ⟨aB,f39⟩;conv=>cbv
 refine Lc ?_ ?_ <;> intro aI <;> conv=>cbv
 ·exact AL (Bool.eq_false_iff.2 fun z=>by have q:=f.1 z;have b:=q.nv;rw[<-v] at b;have b:(V.length:Int)=rc:=b;omega)
 obtain⟨ax,Z⟩:=xB (Dy AI P);refine BO hE (fE Z) ?_;conv=>cbv
 refine Pj ?_ ?_ <;> intro ag <;> conv=>cbv
 ·exact AL (Bool.eq_false_iff.2 fun z=>by have q:=f.1 z;have b:=q.wp;rw[<-Z] at b;exact absurd b (by rw[ag];decide))
 obtain⟨ay,a1⟩:=xB (Dy JO C);refine BO hE (fE a1) ?_;conv=>cbv
 refine Pj ?_ ?_ <;> intro ah <;> conv=>cbv
 ·exact AL (Bool.eq_false_iff.2 fun z=>by have q:=f.1 z;have b:=q.wc;rw[<-a1] at b;exact absurd b (by rw[ah];decide))
 refine BI [] [3,7,9] [3,7] (fun vs W k=>∃(i':Nat) (i:Int),vs=[.one (.BE 3 0 0),.one (.BE 7 0 0),.one (.int .i64 i)]/\W=[.var 0 (cC kd P C V sd),.var 0 [.str nm,.int .i64 ra,.int .i64 rb,.int .i64 rc,.int .i64 rd,.int .i64 re,.bool rg]]/\(AR i i'/\i'<=V.length)/\(Km kd=true/\(P.length:Int)=(Co kd).2.1/\(C.length:Int)=(Co kd).2.2.1/\(V.length:Int)=(Co kd).2.2.2.1/\Dy AI P=true/\Dy JO C=true)/\(∀(j:Nat) (e:Ex),j<i'->V[j]? =some e->Gm e=0)/\k=V.length-i') (V.length-0) ⟨0,0,rfl,rfl,⟨BD 0,AA⟩,⟨Y.symm.trans af,by rw[<-v];show (P.length:Int)=ra;omega,by rw[<-v];show (C.length:Int)=rb;omega,by rw[<-v];show (V.length:Int)=rc;omega,Z.symm.trans ag,a1.symm.trans ah⟩,fun j e h=>absurd h (Nat.not_lt_zero j),rfl⟩ ?_;rintro J0 ak vs W aO ⟨i',i,rfl,rfl,⟨hi,aE⟩,g,hinv,aF⟩;conv=>cbv
 have ei:=hi.eq;rintro aS ⟨aC,f61⟩;conv=>cbv
 refine Ph ?_ ?_ <;> intro aJ <;> conv=>cbv
 ·refine .inr ?_;refine Ae i' fun av a2=>?_
  try conv=>cbv
  obtain⟨aq,⟨⟨ai,al⟩,⟨aj,an⟩⟩,au,ar⟩:=av;obtain⟨aT,ae⟩:=xI (Gm (.mk aq ((ai,al),(aj,an)) au ar));refine BO hE (gU hN (hV _ _ a2) ae) ?_;conv=>cbv
  refine Lc ?_ ?_ <;> intro aK <;> conv=>cbv
  ·exact AL (Bool.eq_false_iff.2 fun z=>by have q:=f.1 z;have b:=q.ve _ _ a2;omega)
  intro ao aD;conv=>cbv
  exact DI (BT ak ⟨i'+1,ao,rfl,rfl,⟨⟨AA⟩,AA⟩,g,r6 hinv a2 AA,rfl⟩)
 cases rg <;> conv=>cbv
 ·refine Gt ?_;conv=>cbv
  refine Lc ?_ ?_ <;> intro aN <;> conv=>cbv
  ·exact AL (Bool.eq_false_iff.2 fun z=>by have q:=f.1 z;have b:=q.s1;have h2:=q.s2;rw[<-v] at b h2;first | (have h3:=b rfl;omega) | (have h3:=h2 rfl;omega))
  have D:∀(j:Nat) (e:Ex),V[j]? =some e->Gm e=0:=fun j e h=>hinv j e (by have:=Dg h;omega) h
  have A:(Co kd).2.2.2.2.2.2=true->sd=1\/sd= -1:=by rw[<-v];intro z;first | omega | exact absurd (show false=true from z) AE | exact absurd (show true=false from z) AE
  have B:(Co kd).2.2.2.2.2.2=false->sd=0:=by rw[<-v];intro z;first | omega | exact absurd (show false=true from z) AE | exact absurd (show true=false from z) AE
  refine .inr ?_;intro a6 K;conv=>cbv
  obtain⟨U,o⟩:=xK fun vs W=>∃(e:Bool),vs=[.one (.BE 3 0 0),.one (.sl .i64 P),.one (.bool e)]/\W=[.var 0 (cC kd P C V sd)]/\(e=true↔DR kd)
  refine .inl ⟨[3,10,98],[3],U,?_,?_⟩
  ·intro vs W hj;rw[o] at hj;obtain⟨X,rfl,rfl,H⟩:=hj;conv=>cbv
   cases X <;> conv=>cbv
   ·have a:¬DR kd:=fun z=>by cases H.2 z
    obtain⟨I,u⟩:=Ez (HQ P);refine BO hE (LX u) ?_;conv=>cbv
    cases I <;> conv=>cbv
    ·exact AL (Bool.eq_false_iff.2 fun z=>by have q:=f.1 z;exact absurd (u.2 (q.df a).1) AE)
    obtain⟨a7,y⟩:=Ez (HQ C);refine BO hE (LX y) ?_;conv=>cbv
    exact AL (by rw[Bool.eq_iff_iff,f,y];exact⟨fun q=>(q.df a).2,fun z=>(GM g D A B (fun b=>absurd b a) (fun _=>⟨u.1 rfl,z⟩))⟩)
   have a:DR kd:=H.1 rfl;obtain⟨p0,p1,p2,p3,d⟩:=TC (l:=P) (by have b:=g.2.1;rw[U6 a] at b;omega);have p:P[Int.toNat 0]? =some p0:=by rw[d];rfl
   have r:P[Int.toNat 1]? =some p1:=by rw[d];rfl
   have s:P[Int.toNat 2]? =some p2:=by rw[d];rfl
   have t:P[Int.toNat 3]? =some p3:=by rw[d];rfl
   have ad:P.length=4:=by rw[d];rfl
   refine BR p ?_;try conv=>cbv
   refine BR s ?_;try conv=>cbv
   refine Hd ?_ ?_ <;> intro a8 <;> conv=>cbv
   ·refine BR p ?_;try conv=>cbv
    refine BR t ?_;try conv=>cbv
    refine Hd ?_ ?_ <;> intro O <;> conv=>cbv
    ·refine Bn ?_;refine BR p ?_;try conv=>cbv
     refine BR r ?_;try conv=>cbv
     refine C7 ?_ ?_ <;> intro w <;> conv=>cbv
     ·refine Bn ?_;exact AL (Bool.eq_false_iff.2 fun z=>by have q:=f.1 z;have b:=(CG d).1 q.pr a;omega)
     refine BR s ?_;try conv=>cbv
     refine BR t ?_;try conv=>cbv
     refine C7 ?_ ?_ <;> intro x <;> conv=>cbv
     ·refine Bn ?_;exact AL (Bool.eq_false_iff.2 fun z=>by have q:=f.1 z;have b:=(CG d).1 q.pr a;omega)
     refine Gt ?_;conv=>cbv
     refine Bn ?_;exact AL (f.2 (GM g D A B ((CG d).2 fun _=>AA) (fun b=>absurd a b)))
    refine BR r ?_;try conv=>cbv
    refine BR s ?_;refine AW ?_;intro S m;refine Bn ?_;refine BR p ?_;try conv=>cbv
    refine BR r ?_;try conv=>cbv
    refine C7 ?_ ?_ <;> intro w <;> conv=>cbv
    ·refine Bn ?_;exact AL (Bool.eq_false_iff.2 fun z=>by have q:=f.1 z;have b:=(CG d).1 q.pr a;omega)
    refine BR s ?_;try conv=>cbv
    refine BR t ?_;try conv=>cbv
    refine C7 ?_ ?_ <;> intro x <;> conv=>cbv
    ·refine Bn ?_;exact AL (Bool.eq_false_iff.2 fun z=>by have q:=f.1 z;have b:=(CG d).1 q.pr a;omega)
    intro T n;conv=>cbv
    refine Bn ?_;exact AL (by rw[Bool.eq_iff_iff,f];exact⟨fun q=>by have b:=(CG d).1 q.pr a;rw[n,m,beq_eq_false_iff_ne.2 AA];rfl,fun z=>(GM g D A B ((CG d).2 fun _=>by rw[n,m] at z;have z:¬p1=p2:=(by simpa using z);omega) (fun b=>absurd a b))⟩)
   refine BR r ?_;try conv=>cbv
   refine BR t ?_;try conv=>cbv
   refine Lb ?_ ?_ <;> intro aa <;> conv=>cbv
   ·refine Bn ?_;refine BR p ?_;try conv=>cbv
    refine BR r ?_;try conv=>cbv
    refine C7 ?_ ?_ <;> intro w <;> conv=>cbv
    ·refine Bn ?_;exact AL (Bool.eq_false_iff.2 fun z=>by have q:=f.1 z;have b:=(CG d).1 q.pr a;omega)
    refine BR s ?_;try conv=>cbv
    refine BR t ?_;try conv=>cbv
    refine C7 ?_ ?_ <;> intro x <;> conv=>cbv
    ·refine Bn ?_;exact AL (Bool.eq_false_iff.2 fun z=>by have q:=f.1 z;have b:=(CG d).1 q.pr a;omega)
    refine Lu ?_;conv=>cbv
    refine Bn ?_;exact AL (Bool.eq_false_iff.2 fun z=>by have q:=f.1 z;have b:=(CG d).1 q.pr a;omega)
   refine BR p ?_;try conv=>cbv
   refine BR t ?_;try conv=>cbv
   refine Hd ?_ ?_ <;> intro O <;> conv=>cbv
   ·refine Bn ?_;refine BR p ?_;try conv=>cbv
    refine BR r ?_;try conv=>cbv
    refine C7 ?_ ?_ <;> intro w <;> conv=>cbv
    ·refine Bn ?_;exact AL (Bool.eq_false_iff.2 fun z=>by have q:=f.1 z;have b:=(CG d).1 q.pr a;omega)
    refine BR s ?_;try conv=>cbv
    refine BR t ?_;try conv=>cbv
    refine C7 ?_ ?_ <;> intro x <;> conv=>cbv
    ·refine Bn ?_;exact AL (Bool.eq_false_iff.2 fun z=>by have q:=f.1 z;have b:=(CG d).1 q.pr a;omega)
    refine Gt ?_;conv=>cbv
    refine Bn ?_;exact AL (f.2 (GM g D A B ((CG d).2 fun _=>AA) (fun b=>absurd a b)))
   refine BR r ?_;try conv=>cbv
   refine BR s ?_;refine AW ?_;intro S m;refine Bn ?_;refine BR p ?_;try conv=>cbv
   refine BR r ?_;try conv=>cbv
   refine C7 ?_ ?_ <;> intro w <;> conv=>cbv
   ·refine Bn ?_;exact AL (Bool.eq_false_iff.2 fun z=>by have q:=f.1 z;have b:=(CG d).1 q.pr a;omega)
   refine BR s ?_;try conv=>cbv
   refine BR t ?_;try conv=>cbv
   refine C7 ?_ ?_ <;> intro x <;> conv=>cbv
   ·refine Bn ?_;exact AL (Bool.eq_false_iff.2 fun z=>by have q:=f.1 z;have b:=(CG d).1 q.pr a;omega)
   intro T n;conv=>cbv
   refine Bn ?_;exact AL (by rw[Bool.eq_iff_iff,f];exact⟨fun q=>by have b:=(CG d).1 q.pr a;rw[n,m,beq_eq_false_iff_ne.2 AA];rfl,fun z=>(GM g D A B ((CG d).2 fun _=>by rw[n,m] at z;have z:¬p1=p2:=(by simpa using z);omega) (fun b=>absurd a b))⟩)
  cases a6 <;> conv=>cbv
  ·have a5:=Bu K;intro Q F;conv=>cbv
   refine .inr ?_;cases Q <;> conv=>cbv
   ·have L:=Bu F;intro R G;conv=>cbv
    refine .inr ?_;cases R <;> conv=>cbv
    ·have M:=Bu G;intro ab J;conv=>cbv
     rw[o];exact⟨_,rfl,rfl,by rw[J,beq_iff_eq];unfold DR;omega⟩
    have M:=Bv G;rw[o];exact⟨_,rfl,rfl,by unfold DR;constructor <;> intro _ <;> first | rfl | omega⟩
   have L:=Bv F;rw[o];exact⟨_,rfl,rfl,by unfold DR;constructor <;> intro _ <;> first | rfl | omega⟩
  have a5:=Bv K;rw[o];exact⟨_,rfl,rfl,by unfold DR;constructor <;> intro _ <;> first | rfl | omega⟩
 refine C7 ?_ ?_ <;> intro aL <;> conv=>cbv
 ·refine Lu ?_;conv=>cbv
  have D:∀(j:Nat) (e:Ex),V[j]? =some e->Gm e=0:=fun j e h=>hinv j e (by have:=Dg h;omega) h
  have A:(Co kd).2.2.2.2.2.2=true->sd=1\/sd= -1:=by rw[<-v];intro z;first | omega | exact absurd (show false=true from z) AE | exact absurd (show true=false from z) AE
  have B:(Co kd).2.2.2.2.2.2=false->sd=0:=by rw[<-v];intro z;first | omega | exact absurd (show false=true from z) AE | exact absurd (show true=false from z) AE
  refine .inr ?_;intro a6 K;conv=>cbv
  obtain⟨U,o⟩:=xK fun vs W=>∃(e:Bool),vs=[.one (.BE 3 0 0),.one (.sl .i64 P),.one (.bool e)]/\W=[.var 0 (cC kd P C V sd)]/\(e=true↔DR kd)
  refine .inl ⟨[3,10,98],[3],U,?_,?_⟩
  ·intro vs W hj;rw[o] at hj;obtain⟨X,rfl,rfl,H⟩:=hj;conv=>cbv
   cases X <;> conv=>cbv
   ·have a:¬DR kd:=fun z=>by cases H.2 z
    obtain⟨I,u⟩:=Ez (HQ P);refine BO hE (LX u) ?_;conv=>cbv
    cases I <;> conv=>cbv
    ·exact AL (Bool.eq_false_iff.2 fun z=>by have q:=f.1 z;exact absurd (u.2 (q.df a).1) AE)
    obtain⟨a7,y⟩:=Ez (HQ C);refine BO hE (LX y) ?_;conv=>cbv
    exact AL (by rw[Bool.eq_iff_iff,f,y];exact⟨fun q=>(q.df a).2,fun z=>(GM g D A B (fun b=>absurd b a) (fun _=>⟨u.1 rfl,z⟩))⟩)
   have a:DR kd:=H.1 rfl;obtain⟨p0,p1,p2,p3,d⟩:=TC (l:=P) (by have b:=g.2.1;rw[U6 a] at b;omega);have p:P[Int.toNat 0]? =some p0:=by rw[d];rfl
   have r:P[Int.toNat 1]? =some p1:=by rw[d];rfl
   have s:P[Int.toNat 2]? =some p2:=by rw[d];rfl
   have t:P[Int.toNat 3]? =some p3:=by rw[d];rfl
   have ad:P.length=4:=by rw[d];rfl
   refine BR p ?_;try conv=>cbv
   refine BR s ?_;try conv=>cbv
   refine Hd ?_ ?_ <;> intro a8 <;> conv=>cbv
   ·refine BR p ?_;try conv=>cbv
    refine BR t ?_;try conv=>cbv
    refine Hd ?_ ?_ <;> intro O <;> conv=>cbv
    ·refine Bn ?_;refine BR p ?_;try conv=>cbv
     refine BR r ?_;try conv=>cbv
     refine C7 ?_ ?_ <;> intro w <;> conv=>cbv
     ·refine Bn ?_;exact AL (Bool.eq_false_iff.2 fun z=>by have q:=f.1 z;have b:=(CG d).1 q.pr a;omega)
     refine BR s ?_;try conv=>cbv
     refine BR t ?_;try conv=>cbv
     refine C7 ?_ ?_ <;> intro x <;> conv=>cbv
     ·refine Bn ?_;exact AL (Bool.eq_false_iff.2 fun z=>by have q:=f.1 z;have b:=(CG d).1 q.pr a;omega)
     refine Gt ?_;conv=>cbv
     refine Bn ?_;exact AL (f.2 (GM g D A B ((CG d).2 fun _=>AA) (fun b=>absurd a b)))
    refine BR r ?_;try conv=>cbv
    refine BR s ?_;refine AW ?_;intro S m;refine Bn ?_;refine BR p ?_;try conv=>cbv
    refine BR r ?_;try conv=>cbv
    refine C7 ?_ ?_ <;> intro w <;> conv=>cbv
    ·refine Bn ?_;exact AL (Bool.eq_false_iff.2 fun z=>by have q:=f.1 z;have b:=(CG d).1 q.pr a;omega)
    refine BR s ?_;try conv=>cbv
    refine BR t ?_;try conv=>cbv
    refine C7 ?_ ?_ <;> intro x <;> conv=>cbv
    ·refine Bn ?_;exact AL (Bool.eq_false_iff.2 fun z=>by have q:=f.1 z;have b:=(CG d).1 q.pr a;omega)
    intro T n;conv=>cbv
    refine Bn ?_;exact AL (by rw[Bool.eq_iff_iff,f];exact⟨fun q=>by have b:=(CG d).1 q.pr a;rw[n,m,beq_eq_false_iff_ne.2 AA];rfl,fun z=>(GM g D A B ((CG d).2 fun _=>by rw[n,m] at z;have z:¬p1=p2:=(by simpa using z);omega) (fun b=>absurd a b))⟩)
   refine BR r ?_;try conv=>cbv
   refine BR t ?_;try conv=>cbv
   refine Lb ?_ ?_ <;> intro aa <;> conv=>cbv
   ·refine Bn ?_;refine BR p ?_;try conv=>cbv
    refine BR r ?_;try conv=>cbv
    refine C7 ?_ ?_ <;> intro w <;> conv=>cbv
    ·refine Bn ?_;exact AL (Bool.eq_false_iff.2 fun z=>by have q:=f.1 z;have b:=(CG d).1 q.pr a;omega)
    refine BR s ?_;try conv=>cbv
    refine BR t ?_;try conv=>cbv
    refine C7 ?_ ?_ <;> intro x <;> conv=>cbv
    ·refine Bn ?_;exact AL (Bool.eq_false_iff.2 fun z=>by have q:=f.1 z;have b:=(CG d).1 q.pr a;omega)
    refine Lu ?_;conv=>cbv
    refine Bn ?_;exact AL (Bool.eq_false_iff.2 fun z=>by have q:=f.1 z;have b:=(CG d).1 q.pr a;omega)
   refine BR p ?_;try conv=>cbv
   refine BR t ?_;try conv=>cbv
   refine Hd ?_ ?_ <;> intro O <;> conv=>cbv
   ·refine Bn ?_;refine BR p ?_;try conv=>cbv
    refine BR r ?_;try conv=>cbv
    refine C7 ?_ ?_ <;> intro w <;> conv=>cbv
    ·refine Bn ?_;exact AL (Bool.eq_false_iff.2 fun z=>by have q:=f.1 z;have b:=(CG d).1 q.pr a;omega)
    refine BR s ?_;try conv=>cbv
    refine BR t ?_;try conv=>cbv
    refine C7 ?_ ?_ <;> intro x <;> conv=>cbv
    ·refine Bn ?_;exact AL (Bool.eq_false_iff.2 fun z=>by have q:=f.1 z;have b:=(CG d).1 q.pr a;omega)
    refine Gt ?_;conv=>cbv
    refine Bn ?_;exact AL (f.2 (GM g D A B ((CG d).2 fun _=>AA) (fun b=>absurd a b)))
   refine BR r ?_;try conv=>cbv
   refine BR s ?_;refine AW ?_;intro S m;refine Bn ?_;refine BR p ?_;try conv=>cbv
   refine BR r ?_;try conv=>cbv
   refine C7 ?_ ?_ <;> intro w <;> conv=>cbv
   ·refine Bn ?_;exact AL (Bool.eq_false_iff.2 fun z=>by have q:=f.1 z;have b:=(CG d).1 q.pr a;omega)
   refine BR s ?_;try conv=>cbv
   refine BR t ?_;try conv=>cbv
   refine C7 ?_ ?_ <;> intro x <;> conv=>cbv
   ·refine Bn ?_;exact AL (Bool.eq_false_iff.2 fun z=>by have q:=f.1 z;have b:=(CG d).1 q.pr a;omega)
   intro T n;conv=>cbv
   refine Bn ?_;exact AL (by rw[Bool.eq_iff_iff,f];exact⟨fun q=>by have b:=(CG d).1 q.pr a;rw[n,m,beq_eq_false_iff_ne.2 AA];rfl,fun z=>(GM g D A B ((CG d).2 fun _=>by rw[n,m] at z;have z:¬p1=p2:=(by simpa using z);omega) (fun b=>absurd a b))⟩)
  cases a6 <;> conv=>cbv
  ·have a5:=Bu K;intro Q F;conv=>cbv
   refine .inr ?_;cases Q <;> conv=>cbv
   ·have L:=Bu F;intro R G;conv=>cbv
    refine .inr ?_;cases R <;> conv=>cbv
    ·have M:=Bu G;intro ab J;conv=>cbv
     rw[o];exact⟨_,rfl,rfl,by rw[J,beq_iff_eq];unfold DR;omega⟩
    have M:=Bv G;rw[o];exact⟨_,rfl,rfl,by unfold DR;constructor <;> intro _ <;> first | rfl | omega⟩
   have L:=Bv F;rw[o];exact⟨_,rfl,rfl,by unfold DR;constructor <;> intro _ <;> first | rfl | omega⟩
  have a5:=Bv K;rw[o];exact⟨_,rfl,rfl,by unfold DR;constructor <;> intro _ <;> first | rfl | omega⟩
 refine Lc ?_ ?_ <;> intro aM <;> conv=>cbv
 ·exact AL (Bool.eq_false_iff.2 fun z=>by have q:=f.1 z;have b:=q.s1;have h2:=q.s2;rw[<-v] at b h2;first | (have h3:=b rfl;omega) | (have h3:=h2 rfl;omega))
 refine Lu ?_;conv=>cbv
 have D:∀(j:Nat) (e:Ex),V[j]? =some e->Gm e=0:=fun j e h=>hinv j e (by have:=Dg h;omega) h
 have A:(Co kd).2.2.2.2.2.2=true->sd=1\/sd= -1:=by rw[<-v];intro z;first | omega | exact absurd (show false=true from z) AE | exact absurd (show true=false from z) AE
 have B:(Co kd).2.2.2.2.2.2=false->sd=0:=by rw[<-v];intro z;first | omega | exact absurd (show false=true from z) AE | exact absurd (show true=false from z) AE
 refine .inr ?_;intro a6 K;conv=>cbv
 obtain⟨U,o⟩:=xK fun vs W=>∃(e:Bool),vs=[.one (.BE 3 0 0),.one (.sl .i64 P),.one (.bool e)]/\W=[.var 0 (cC kd P C V sd)]/\(e=true↔DR kd)
 refine .inl ⟨[3,10,98],[3],U,?_,?_⟩
 ·intro vs W hj;rw[o] at hj;obtain⟨X,rfl,rfl,H⟩:=hj;conv=>cbv
  cases X <;> conv=>cbv
  ·have a:¬DR kd:=fun z=>by cases H.2 z
   obtain⟨I,u⟩:=Ez (HQ P);refine BO hE (LX u) ?_;conv=>cbv
   cases I <;> conv=>cbv
   ·exact AL (Bool.eq_false_iff.2 fun z=>by have q:=f.1 z;exact absurd (u.2 (q.df a).1) AE)
   obtain⟨a7,y⟩:=Ez (HQ C);refine BO hE (LX y) ?_;conv=>cbv
   exact AL (by rw[Bool.eq_iff_iff,f,y];exact⟨fun q=>(q.df a).2,fun z=>(GM g D A B (fun b=>absurd b a) (fun _=>⟨u.1 rfl,z⟩))⟩)
  have a:DR kd:=H.1 rfl;obtain⟨p0,p1,p2,p3,d⟩:=TC (l:=P) (by have b:=g.2.1;rw[U6 a] at b;omega);have p:P[Int.toNat 0]? =some p0:=by rw[d];rfl
  have r:P[Int.toNat 1]? =some p1:=by rw[d];rfl
  have s:P[Int.toNat 2]? =some p2:=by rw[d];rfl
  have t:P[Int.toNat 3]? =some p3:=by rw[d];rfl
  have ad:P.length=4:=by rw[d];rfl
  refine BR p ?_;try conv=>cbv
  refine BR s ?_;try conv=>cbv
  refine Hd ?_ ?_ <;> intro a8 <;> conv=>cbv
  ·refine BR p ?_;try conv=>cbv
   refine BR t ?_;try conv=>cbv
   refine Hd ?_ ?_ <;> intro O <;> conv=>cbv
   ·refine Bn ?_;refine BR p ?_;try conv=>cbv
    refine BR r ?_;try conv=>cbv
    refine C7 ?_ ?_ <;> intro w <;> conv=>cbv
    ·refine Bn ?_;exact AL (Bool.eq_false_iff.2 fun z=>by have q:=f.1 z;have b:=(CG d).1 q.pr a;omega)
    refine BR s ?_;try conv=>cbv
    refine BR t ?_;try conv=>cbv
    refine C7 ?_ ?_ <;> intro x <;> conv=>cbv
    ·refine Bn ?_;exact AL (Bool.eq_false_iff.2 fun z=>by have q:=f.1 z;have b:=(CG d).1 q.pr a;omega)
    refine Gt ?_;conv=>cbv
    refine Bn ?_;exact AL (f.2 (GM g D A B ((CG d).2 fun _=>AA) (fun b=>absurd a b)))
   refine BR r ?_;try conv=>cbv
   refine BR s ?_;refine AW ?_;intro S m;refine Bn ?_;refine BR p ?_;try conv=>cbv
   refine BR r ?_;try conv=>cbv
   refine C7 ?_ ?_ <;> intro w <;> conv=>cbv
   ·refine Bn ?_;exact AL (Bool.eq_false_iff.2 fun z=>by have q:=f.1 z;have b:=(CG d).1 q.pr a;omega)
   refine BR s ?_;try conv=>cbv
   refine BR t ?_;try conv=>cbv
   refine C7 ?_ ?_ <;> intro x <;> conv=>cbv
   ·refine Bn ?_;exact AL (Bool.eq_false_iff.2 fun z=>by have q:=f.1 z;have b:=(CG d).1 q.pr a;omega)
   intro T n;conv=>cbv
   refine Bn ?_;exact AL (by rw[Bool.eq_iff_iff,f];exact⟨fun q=>by have b:=(CG d).1 q.pr a;rw[n,m,beq_eq_false_iff_ne.2 AA];rfl,fun z=>(GM g D A B ((CG d).2 fun _=>by rw[n,m] at z;have z:¬p1=p2:=(by simpa using z);omega) (fun b=>absurd a b))⟩)
  refine BR r ?_;try conv=>cbv
  refine BR t ?_;try conv=>cbv
  refine Lb ?_ ?_ <;> intro aa <;> conv=>cbv
  ·refine Bn ?_;refine BR p ?_;try conv=>cbv
   refine BR r ?_;try conv=>cbv
   refine C7 ?_ ?_ <;> intro w <;> conv=>cbv
   ·refine Bn ?_;exact AL (Bool.eq_false_iff.2 fun z=>by have q:=f.1 z;have b:=(CG d).1 q.pr a;omega)
   refine BR s ?_;try conv=>cbv
   refine BR t ?_;try conv=>cbv
   refine C7 ?_ ?_ <;> intro x <;> conv=>cbv
   ·refine Bn ?_;exact AL (Bool.eq_false_iff.2 fun z=>by have q:=f.1 z;have b:=(CG d).1 q.pr a;omega)
   refine Lu ?_;conv=>cbv
   refine Bn ?_;exact AL (Bool.eq_false_iff.2 fun z=>by have q:=f.1 z;have b:=(CG d).1 q.pr a;omega)
  refine BR p ?_;try conv=>cbv
  refine BR t ?_;try conv=>cbv
  refine Hd ?_ ?_ <;> intro O <;> conv=>cbv
  ·refine Bn ?_;refine BR p ?_;try conv=>cbv
   refine BR r ?_;try conv=>cbv
   refine C7 ?_ ?_ <;> intro w <;> conv=>cbv
   ·refine Bn ?_;exact AL (Bool.eq_false_iff.2 fun z=>by have q:=f.1 z;have b:=(CG d).1 q.pr a;omega)
   refine BR s ?_;try conv=>cbv
   refine BR t ?_;try conv=>cbv
   refine C7 ?_ ?_ <;> intro x <;> conv=>cbv
   ·refine Bn ?_;exact AL (Bool.eq_false_iff.2 fun z=>by have q:=f.1 z;have b:=(CG d).1 q.pr a;omega)
   refine Gt ?_;conv=>cbv
   refine Bn ?_;exact AL (f.2 (GM g D A B ((CG d).2 fun _=>AA) (fun b=>absurd a b)))
  refine BR r ?_;try conv=>cbv
  refine BR s ?_;refine AW ?_;intro S m;refine Bn ?_;refine BR p ?_;try conv=>cbv
  refine BR r ?_;try conv=>cbv
  refine C7 ?_ ?_ <;> intro w <;> conv=>cbv
  ·refine Bn ?_;exact AL (Bool.eq_false_iff.2 fun z=>by have q:=f.1 z;have b:=(CG d).1 q.pr a;omega)
  refine BR s ?_;try conv=>cbv
  refine BR t ?_;try conv=>cbv
  refine C7 ?_ ?_ <;> intro x <;> conv=>cbv
  ·refine Bn ?_;exact AL (Bool.eq_false_iff.2 fun z=>by have q:=f.1 z;have b:=(CG d).1 q.pr a;omega)
  intro T n;conv=>cbv
  refine Bn ?_;exact AL (by rw[Bool.eq_iff_iff,f];exact⟨fun q=>by have b:=(CG d).1 q.pr a;rw[n,m,beq_eq_false_iff_ne.2 AA];rfl,fun z=>(GM g D A B ((CG d).2 fun _=>by rw[n,m] at z;have z:¬p1=p2:=(by simpa using z);omega) (fun b=>absurd a b))⟩)
 cases a6 <;> conv=>cbv
 ·have a5:=Bu K;intro Q F;conv=>cbv
  refine .inr ?_;cases Q <;> conv=>cbv
  ·have L:=Bu F;intro R G;conv=>cbv
   refine .inr ?_;cases R <;> conv=>cbv
   ·have M:=Bu G;intro ab J;conv=>cbv
    rw[o];exact⟨_,rfl,rfl,by rw[J,beq_iff_eq];unfold DR;omega⟩
   have M:=Bv G;rw[o];exact⟨_,rfl,rfl,by unfold DR;constructor <;> intro _ <;> first | rfl | omega⟩
  have L:=Bv F;rw[o];exact⟨_,rfl,rfl,by unfold DR;constructor <;> intro _ <;> first | rfl | omega⟩
 have a5:=Bv K;rw[o];exact⟨_,rfl,rfl,by unfold DR;constructor <;> intro _ <;> first | rfl | omega⟩
end Go.Abs
