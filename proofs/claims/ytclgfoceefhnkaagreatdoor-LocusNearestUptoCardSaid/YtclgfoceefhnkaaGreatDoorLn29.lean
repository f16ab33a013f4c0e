/- Part 30 of a proof. Conditions: each theorem's own. -/
import Derived.Test.YtclgfoceefhnkaaGreatDoorLn28
set_option linter.all false
set_option maxHeartbeats 80000000
set_option maxRecDepth 20000
open Go.Proofs
namespace Go.Abs
open Go.RowKit
def DU (k:Int):Prop:=k=5\/k=6\/k=7\/k=8
structure Hf (k:Int) (P C:List Int) (V:List Ex) (sd Ah I2:Int):Prop where
 ok:KC k=true
 np:(P.length:Int)=(Cr k).2.1
 nc:(C.length:Int)=(Cr k).2.2.1
 nv:(V.length:Int)=(Cr k).2.2.2.1
 wp:Dp Ah P=true
 wc:Dp I2 C=true
 ve:∀(i:Nat) (e:Ex),V[i]? =some e->GM e=0
 s1:(Cr k).2.2.2.2.2.2=true->sd=1\/sd= -1
 s2:(Cr k).2.2.2.2.2.2=false->sd=0
 pr:DU k->∀a b c d,P[0]? =some a->P[1]? =some b->P[2]? =some c->P[3]? =some d->(a≠b/\c≠d)/\¬((a=c/\b=d)\/(a=d/\b=c))
 df:¬DU k->G7 P/\G7 C
variable {I2 k Ah sd:Int}
theorem pq {V:List Ex} {i:Nat} {x:Ex} (h:∀(j:Nat) (e:Ex),j<i->V[j]? =some e->GM e=0) (b:V[i]? =some x) (a:GM x=0):∀(j:Nat) (e:Ex),j<i+1->V[j]? =some e->GM e=0:=fun j e c he=>by
 by_cases q:j=i
 ·subst q;rw[Option.some.inj (he.symm.trans b)];exact a
 exact h j e (by omega) he
theorem TM (h:DU k):(Cr k).2.1=4:=by rcases h with rfl | rfl | rfl | rfl <;> rfl
theorem Ru {l:List Int} (h:l.length=4):∃a b c d,l=[a,b,c,d]:=by
 match l,h with
 | [a,b,c,d],_=>exact⟨a,b,c,d,rfl⟩
theorem CP {P:List Int} {a b c d:Int} (j:P=[a,b,c,d]):(DU k->∀a b c d,P[0]? =some a->P[1]? =some b->P[2]? =some c->P[3]? =some d->(a≠b/\c≠d)/\¬((a=c/\b=d)\/(a=d/\b=c)))↔(DU k->(a≠b/\c≠d)/\¬((a=c/\b=d)\/(a=d/\b=c))):=by
 subst j;exact⟨fun h ht=>h ht _ _ _ _ rfl rfl rfl rfl,fun h ht l b' m n f g h3 i=>by cases f;cases g;cases h3;cases i;exact h ht⟩
theorem Fu {P C:List Int} {V:List Ex} (h:KC k=true/\(P.length:Int)=(Cr k).2.1/\(C.length:Int)=(Cr k).2.2.1/\(V.length:Int)=(Cr k).2.2.2.1/\Dp Ah P=true/\Dp I2 C=true) (f:∀(i:Nat) (e:Ex),V[i]? =some e->GM e=0) (g:(Cr k).2.2.2.2.2.2=true->sd=1\/sd= -1) (h3:(Cr k).2.2.2.2.2.2=false->sd=0)
  (j:DU k->∀a b c d,P[0]? =some a->P[1]? =some b->P[2]? =some c->P[3]? =some d->(a≠b/\c≠d)/\¬((a=c/\b=d)\/(a=d/\b=c))) (l:¬DU k->G7 P/\G7 C):Hf k P C V sd Ah I2:=
 ⟨h.1,h.2.1,h.2.2.1,h.2.2.2.1,h.2.2.2.2.1,h.2.2.2.2.2,f,g,h3,j,l⟩
theorem dx {kd:Int} {P C:List Int} {V:List Ex} {c:Bool} {N:Nat} (hk:Du kd) (hN:N<=1048576) (hV:∀(i:Nat) (e:Ex),V[i]? =some e->FO N e) (f:c=true↔Hf kd P C V sd Ah I2):CF 29 [.agg [.int .i64 kd,.sl .i64 P,.sl .i64 C,.sl .ex V,.int .i64 sd],.one (.int .i64 Ah),.one (.int .i64 I2)] (.one (.bool c)):=by
 refine Gs Tryz.func29 fun E hE=>?_
 conv=>cbv
 obtain⟨⟨nm,ra,rb,rc,rd,re,rg⟩,v⟩:∃z:el Lo,z=Cr kd:=⟨_,rfl⟩
 obtain⟨aw,Y⟩:=xB (KC kd);refine BP hE (Ur hk v Y) ?_;conv=>cbv
 refine Oq ?_ ?_ <;> intro af <;> conv=>cbv
 ·exact AF (Bool.eq_false_iff.2 fun z=>by have q:=f.1 z;have b:=q.ok;rw[<-Y] at b;exact absurd b (by rw[af];decide))
 rintro aP ⟨az,f23⟩;conv=>cbv
 refine Ky ?_ ?_ <;> intro aG <;> conv=>cbv
 ·exact AF (Bool.eq_false_iff.2 fun z=>by have q:=f.1 z;have b:=q.np;rw[<-v] at b;have b:(P.length:Int)=ra:=b;omega)
 rintro aQ ⟨aA,f31⟩;conv=>cbv
 refine Ky ?_ ?_ <;> intro aH <;> conv=>cbv
 ·exact AF (Bool.eq_false_iff.2 fun z=>by have q:=f.1 z;have b:=q.nc;rw[<-v] at b;have b:(C.length:Int)=rb:=b;omega)
 rintro aR ⟨aB,f39⟩;conv=>cbv
 refine Ky ?_ ?_ <;> intro aI <;> conv=>cbv
 ·exact AF (Bool.eq_false_iff.2 fun z=>by have q:=f.1 z;have b:=q.nv;rw[<-v] at b;have b:(V.length:Int)=rc:=b;omega)
 obtain⟨ax,Z⟩:=xB (Dp Ah P);refine BP hE (bn Z) ?_;conv=>cbv
 refine Oq ?_ ?_ <;> intro ag <;> conv=>cbv
 ·exact AF (Bool.eq_false_iff.2 fun z=>by have q:=f.1 z;have b:=q.wp;rw[<-Z] at b;exact absurd b (by rw[ag];decide))
 obtain⟨ay,a1⟩:=xB (Dp I2 C);refine BP hE (bn a1) ?_;conv=>cbv
 refine Oq ?_ ?_ <;> intro ah <;> conv=>cbv
 ·exact AF (Bool.eq_false_iff.2 fun z=>by have q:=f.1 z;have b:=q.wc;rw[<-a1] at b;exact absurd b (by rw[ah];decide))
 refine BN [] [3,7,9] [3,7] (fun vs W k=>∃(i':Nat) (i:Int),vs=[.one (.AR 3 0 0),.one (.AR 7 0 0),.one (.int .i64 i)]/\W=[.var 0 [.int .i64 kd,.sl .i64 P,.sl .i64 C,.sl .ex V,.int .i64 sd],.var 0 [.str nm,.int .i64 ra,.int .i64 rb,.int .i64 rc,.int .i64 rd,.int .i64 re,.bool rg]]/\(AO i i'/\i'<=V.length)/\(KC kd=true/\(P.length:Int)=(Cr kd).2.1/\(C.length:Int)=(Cr kd).2.2.1/\(V.length:Int)=(Cr kd).2.2.2.1/\Dp Ah P=true/\Dp I2 C=true)/\(∀(j:Nat) (e:Ex),j<i'->V[j]? =some e->GM e=0)/\k=V.length-i') (V.length-0) ⟨0,0,rfl,rfl,⟨BD 0,by omega⟩,⟨Y.symm.trans af,by rw[<-v];show (P.length:Int)=ra;omega,by rw[<-v];show (C.length:Int)=rb;omega,by rw[<-v];show (V.length:Int)=rc;omega,Z.symm.trans ag,a1.symm.trans ah⟩,fun j e h=>absurd h (Nat.not_lt_zero j),rfl⟩ ?_;rintro J0 ak vs W aO ⟨i',i,rfl,rfl,⟨hi,aE⟩,g,hinv,aF⟩;conv=>cbv
 have ei:=hi.eq;rintro aS ⟨aC,f61⟩;conv=>cbv
 refine Oo ?_ ?_ <;> intro aJ <;> conv=>cbv
 ·refine .inr ?_;refine AW i' fun av a2=>?_
  try conv=>cbv
  obtain⟨aq,⟨⟨ai,al⟩,⟨aj,an⟩⟩,au,ar⟩:=av;obtain⟨aT,ae⟩:=xI (GM (.mk aq ((ai,al),(aj,an)) au ar));refine BP hE (dw hN (hV _ _ a2) ae) ?_;conv=>cbv
  refine Ky ?_ ?_ <;> intro aK <;> conv=>cbv
  ·exact AF (Bool.eq_false_iff.2 fun z=>by have q:=f.1 z;have b:=q.ve _ _ a2;omega)
  intro ao aD;conv=>cbv
  exact DH (Ba ak ⟨i'+1,ao,rfl,rfl,⟨⟨by omega⟩,by omega⟩,g,pq hinv a2 (by omega),rfl⟩)
 cases rg <;> conv=>cbv
 ·refine GZ ?_;conv=>cbv
  refine Ky ?_ ?_ <;> intro aN <;> conv=>cbv
  ·exact AF (Bool.eq_false_iff.2 fun z=>by have q:=f.1 z;have b:=q.s1;have h2:=q.s2;rw[<-v] at b h2;first | (have h3:=b rfl;omega) | (have h3:=h2 rfl;omega))
  have D:∀(j:Nat) (e:Ex),V[j]? =some e->GM e=0:=fun j e h=>hinv j e (by have:=C6 h;omega) h
  have A:(Cr kd).2.2.2.2.2.2=true->sd=1\/sd= -1:=by rw[<-v];intro z;first | omega | exact absurd (show false=true from z) (by decide) | exact absurd (show true=false from z) (by decide)
  have B:(Cr kd).2.2.2.2.2.2=false->sd=0:=by rw[<-v];intro z;first | omega | exact absurd (show false=true from z) (by decide) | exact absurd (show true=false from z) (by decide)
  refine .inr ?_;intro a6 K;conv=>cbv
  obtain⟨U,o⟩:=xK fun vs W=>∃(e:Bool),vs=[.one (.AR 3 0 0),.one (.sl .i64 P),.one (.bool e)]/\W=[.var 0 [.int .i64 kd,.sl .i64 P,.sl .i64 C,.sl .ex V,.int .i64 sd]]/\(e=true↔DU kd)
  refine .inl ⟨[3,10,98],[3],U,?_,?_⟩
  ·intro vs W hj;rw[o] at hj;obtain⟨X,rfl,rfl,H⟩:=hj;conv=>cbv
   cases X <;> conv=>cbv
   ·have a:¬DU kd:=fun z=>by cases H.2 z
    obtain⟨I,u⟩:=EO (G7 P);refine BP hE (Kt u) ?_;conv=>cbv
    cases I <;> conv=>cbv
    ·exact AF (Bool.eq_false_iff.2 fun z=>by have q:=f.1 z;exact absurd (u.2 (q.df a).1) (by decide))
    obtain⟨a7,y⟩:=EO (G7 C);refine BP hE (Kt y) ?_;conv=>cbv
    exact AF (by rw[Bool.eq_iff_iff,f,y];exact⟨fun q=>(q.df a).2,fun z=>(Fu g D A B (fun b=>absurd b a) (fun _=>⟨u.1 rfl,z⟩))⟩)
   have a:DU kd:=H.1 rfl;obtain⟨p0,p1,p2,p3,d⟩:=Ru (l:=P) (by have b:=g.2.1;rw[TM a] at b;omega);have p:P[Int.toNat 0]? =some p0:=by rw[d];rfl
   have r:P[Int.toNat 1]? =some p1:=by rw[d];rfl
   have s:P[Int.toNat 2]? =some p2:=by rw[d];rfl
   have t:P[Int.toNat 3]? =some p3:=by rw[d];rfl
   have ad:P.length=4:=by rw[d];rfl
   refine BQ p ?_;try conv=>cbv
   refine BQ s ?_;try conv=>cbv
   refine HF ?_ ?_ <;> intro a8 <;> conv=>cbv
   ·refine BQ p ?_;try conv=>cbv
    refine BQ t ?_;try conv=>cbv
    refine HF ?_ ?_ <;> intro O <;> conv=>cbv
    ·refine Bo ?_;refine BQ p ?_;try conv=>cbv
     refine BQ r ?_;try conv=>cbv
     refine C5 ?_ ?_ <;> intro w <;> conv=>cbv
     ·refine Bo ?_;exact AF (Bool.eq_false_iff.2 fun z=>by have q:=f.1 z;have b:=(CP d).1 q.pr a;omega)
     refine BQ s ?_;try conv=>cbv
     refine BQ t ?_;try conv=>cbv
     refine C5 ?_ ?_ <;> intro x <;> conv=>cbv
     ·refine Bo ?_;exact AF (Bool.eq_false_iff.2 fun z=>by have q:=f.1 z;have b:=(CP d).1 q.pr a;omega)
     refine GZ ?_;conv=>cbv
     refine Bo ?_;exact AF (f.2 (Fu g D A B ((CP d).2 fun _=>by omega) (fun b=>absurd a b)))
    refine BQ r ?_;try conv=>cbv
    refine BQ s ?_;refine AS ?_;intro S m;refine Bo ?_;refine BQ p ?_;try conv=>cbv
    refine BQ r ?_;try conv=>cbv
    refine C5 ?_ ?_ <;> intro w <;> conv=>cbv
    ·refine Bo ?_;exact AF (Bool.eq_false_iff.2 fun z=>by have q:=f.1 z;have b:=(CP d).1 q.pr a;omega)
    refine BQ s ?_;try conv=>cbv
    refine BQ t ?_;try conv=>cbv
    refine C5 ?_ ?_ <;> intro x <;> conv=>cbv
    ·refine Bo ?_;exact AF (Bool.eq_false_iff.2 fun z=>by have q:=f.1 z;have b:=(CP d).1 q.pr a;omega)
    intro T n;conv=>cbv
    refine Bo ?_;exact AF (by rw[Bool.eq_iff_iff,f];exact⟨fun q=>by have b:=(CP d).1 q.pr a;rw[n,m,beq_eq_false_iff_ne.2 (by omega)];rfl,fun z=>(Fu g D A B ((CP d).2 fun _=>by rw[n,m] at z;have z:¬p1=p2:=(by simpa using z);omega) (fun b=>absurd a b))⟩)
   refine BQ r ?_;try conv=>cbv
   refine BQ t ?_;try conv=>cbv
   refine Kx ?_ ?_ <;> intro aa <;> conv=>cbv
   ·refine Bo ?_;refine BQ p ?_;try conv=>cbv
    refine BQ r ?_;try conv=>cbv
    refine C5 ?_ ?_ <;> intro w <;> conv=>cbv
    ·refine Bo ?_;exact AF (Bool.eq_false_iff.2 fun z=>by have q:=f.1 z;have b:=(CP d).1 q.pr a;omega)
    refine BQ s ?_;try conv=>cbv
    refine BQ t ?_;try conv=>cbv
    refine C5 ?_ ?_ <;> intro x <;> conv=>cbv
    ·refine Bo ?_;exact AF (Bool.eq_false_iff.2 fun z=>by have q:=f.1 z;have b:=(CP d).1 q.pr a;omega)
    refine LD ?_;conv=>cbv
    refine Bo ?_;exact AF (Bool.eq_false_iff.2 fun z=>by have q:=f.1 z;have b:=(CP d).1 q.pr a;omega)
   refine BQ p ?_;try conv=>cbv
   refine BQ t ?_;try conv=>cbv
   refine HF ?_ ?_ <;> intro O <;> conv=>cbv
   ·refine Bo ?_;refine BQ p ?_;try conv=>cbv
    refine BQ r ?_;try conv=>cbv
    refine C5 ?_ ?_ <;> intro w <;> conv=>cbv
    ·refine Bo ?_;exact AF (Bool.eq_false_iff.2 fun z=>by have q:=f.1 z;have b:=(CP d).1 q.pr a;omega)
    refine BQ s ?_;try conv=>cbv
    refine BQ t ?_;try conv=>cbv
    refine C5 ?_ ?_ <;> intro x <;> conv=>cbv
    ·refine Bo ?_;exact AF (Bool.eq_false_iff.2 fun z=>by have q:=f.1 z;have b:=(CP d).1 q.pr a;omega)
    refine GZ ?_;conv=>cbv
    refine Bo ?_;exact AF (f.2 (Fu g D A B ((CP d).2 fun _=>by omega) (fun b=>absurd a b)))
   refine BQ r ?_;try conv=>cbv
   refine BQ s ?_;refine AS ?_;intro S m;refine Bo ?_;refine BQ p ?_;try conv=>cbv
   refine BQ r ?_;try conv=>cbv
   refine C5 ?_ ?_ <;> intro w <;> conv=>cbv
   ·refine Bo ?_;exact AF (Bool.eq_false_iff.2 fun z=>by have q:=f.1 z;have b:=(CP d).1 q.pr a;omega)
   refine BQ s ?_;try conv=>cbv
   refine BQ t ?_;try conv=>cbv
   refine C5 ?_ ?_ <;> intro x <;> conv=>cbv
   ·refine Bo ?_;exact AF (Bool.eq_false_iff.2 fun z=>by have q:=f.1 z;have b:=(CP d).1 q.pr a;omega)
   intro T n;conv=>cbv
   refine Bo ?_;exact AF (by rw[Bool.eq_iff_iff,f];exact⟨fun q=>by have b:=(CP d).1 q.pr a;rw[n,m,beq_eq_false_iff_ne.2 (by omega)];rfl,fun z=>(Fu g D A B ((CP d).2 fun _=>by rw[n,m] at z;have z:¬p1=p2:=(by simpa using z);omega) (fun b=>absurd a b))⟩)
  cases a6 <;> conv=>cbv
  ·have a5:=Bp K;intro Q F;conv=>cbv
   refine .inr ?_;cases Q <;> conv=>cbv
   ·have L:=Bp F;intro R G;conv=>cbv
    refine .inr ?_;cases R <;> conv=>cbv
    ·have M:=Bp G;intro ab J;conv=>cbv
     rw[o];exact⟨_,rfl,rfl,by rw[J,beq_iff_eq];unfold DU;omega⟩
    have M:=Br G;rw[o];exact⟨_,rfl,rfl,by unfold DU;constructor <;> intro _ <;> first | rfl | omega⟩
   have L:=Br F;rw[o];exact⟨_,rfl,rfl,by unfold DU;constructor <;> intro _ <;> first | rfl | omega⟩
  have a5:=Br K;rw[o];exact⟨_,rfl,rfl,by unfold DU;constructor <;> intro _ <;> first | rfl | omega⟩
 refine C5 ?_ ?_ <;> intro aL <;> conv=>cbv
 ·refine LD ?_;conv=>cbv
  have D:∀(j:Nat) (e:Ex),V[j]? =some e->GM e=0:=fun j e h=>hinv j e (by have:=C6 h;omega) h
  have A:(Cr kd).2.2.2.2.2.2=true->sd=1\/sd= -1:=by rw[<-v];intro z;first | omega | exact absurd (show false=true from z) (by decide) | exact absurd (show true=false from z) (by decide)
  have B:(Cr kd).2.2.2.2.2.2=false->sd=0:=by rw[<-v];intro z;first | omega | exact absurd (show false=true from z) (by decide) | exact absurd (show true=false from z) (by decide)
  refine .inr ?_;intro a6 K;conv=>cbv
  obtain⟨U,o⟩:=xK fun vs W=>∃(e:Bool),vs=[.one (.AR 3 0 0),.one (.sl .i64 P),.one (.bool e)]/\W=[.var 0 [.int .i64 kd,.sl .i64 P,.sl .i64 C,.sl .ex V,.int .i64 sd]]/\(e=true↔DU kd)
  refine .inl ⟨[3,10,98],[3],U,?_,?_⟩
  ·intro vs W hj;rw[o] at hj;obtain⟨X,rfl,rfl,H⟩:=hj;conv=>cbv
   cases X <;> conv=>cbv
   ·have a:¬DU kd:=fun z=>by cases H.2 z
    obtain⟨I,u⟩:=EO (G7 P);refine BP hE (Kt u) ?_;conv=>cbv
    cases I <;> conv=>cbv
    ·exact AF (Bool.eq_false_iff.2 fun z=>by have q:=f.1 z;exact absurd (u.2 (q.df a).1) (by decide))
    obtain⟨a7,y⟩:=EO (G7 C);refine BP hE (Kt y) ?_;conv=>cbv
    exact AF (by rw[Bool.eq_iff_iff,f,y];exact⟨fun q=>(q.df a).2,fun z=>(Fu g D A B (fun b=>absurd b a) (fun _=>⟨u.1 rfl,z⟩))⟩)
   have a:DU kd:=H.1 rfl;obtain⟨p0,p1,p2,p3,d⟩:=Ru (l:=P) (by have b:=g.2.1;rw[TM a] at b;omega);have p:P[Int.toNat 0]? =some p0:=by rw[d];rfl
   have r:P[Int.toNat 1]? =some p1:=by rw[d];rfl
   have s:P[Int.toNat 2]? =some p2:=by rw[d];rfl
   have t:P[Int.toNat 3]? =some p3:=by rw[d];rfl
   have ad:P.length=4:=by rw[d];rfl
   refine BQ p ?_;try conv=>cbv
   refine BQ s ?_;try conv=>cbv
   refine HF ?_ ?_ <;> intro a8 <;> conv=>cbv
   ·refine BQ p ?_;try conv=>cbv
    refine BQ t ?_;try conv=>cbv
    refine HF ?_ ?_ <;> intro O <;> conv=>cbv
    ·refine Bo ?_;refine BQ p ?_;try conv=>cbv
     refine BQ r ?_;try conv=>cbv
     refine C5 ?_ ?_ <;> intro w <;> conv=>cbv
     ·refine Bo ?_;exact AF (Bool.eq_false_iff.2 fun z=>by have q:=f.1 z;have b:=(CP d).1 q.pr a;omega)
     refine BQ s ?_;try conv=>cbv
     refine BQ t ?_;try conv=>cbv
     refine C5 ?_ ?_ <;> intro x <;> conv=>cbv
     ·refine Bo ?_;exact AF (Bool.eq_false_iff.2 fun z=>by have q:=f.1 z;have b:=(CP d).1 q.pr a;omega)
     refine GZ ?_;conv=>cbv
     refine Bo ?_;exact AF (f.2 (Fu g D A B ((CP d).2 fun _=>by omega) (fun b=>absurd a b)))
    refine BQ r ?_;try conv=>cbv
    refine BQ s ?_;refine AS ?_;intro S m;refine Bo ?_;refine BQ p ?_;try conv=>cbv
    refine BQ r ?_;try conv=>cbv
    refine C5 ?_ ?_ <;> intro w <;> conv=>cbv
    ·refine Bo ?_;exact AF (Bool.eq_false_iff.2 fun z=>by have q:=f.1 z;have b:=(CP d).1 q.pr a;omega)
    refine BQ s ?_;try conv=>cbv
    refine BQ t ?_;try conv=>cbv
    refine C5 ?_ ?_ <;> intro x <;> conv=>cbv
    ·refine Bo ?_;exact AF (Bool.eq_false_iff.2 fun z=>by have q:=f.1 z;have b:=(CP d).1 q.pr a;omega)
    intro T n;conv=>cbv
    refine Bo ?_;exact AF (by rw[Bool.eq_iff_iff,f];exact⟨fun q=>by have b:=(CP d).1 q.pr a;rw[n,m,beq_eq_false_iff_ne.2 (by omega)];rfl,fun z=>(Fu g D A B ((CP d).2 fun _=>by rw[n,m] at z;have z:¬p1=p2:=(by simpa using z);omega) (fun b=>absurd a b))⟩)
   refine BQ r ?_;try conv=>cbv
   refine BQ t ?_;try conv=>cbv
   refine Kx ?_ ?_ <;> intro aa <;> conv=>cbv
   ·refine Bo ?_;refine BQ p ?_;try conv=>cbv
    refine BQ r ?_;try conv=>cbv
    refine C5 ?_ ?_ <;> intro w <;> conv=>cbv
    ·refine Bo ?_;exact AF (Bool.eq_false_iff.2 fun z=>by have q:=f.1 z;have b:=(CP d).1 q.pr a;omega)
    refine BQ s ?_;try conv=>cbv
    refine BQ t ?_;try conv=>cbv
    refine C5 ?_ ?_ <;> intro x <;> conv=>cbv
    ·refine Bo ?_;exact AF (Bool.eq_false_iff.2 fun z=>by have q:=f.1 z;have b:=(CP d).1 q.pr a;omega)
    refine LD ?_;conv=>cbv
    refine Bo ?_;exact AF (Bool.eq_false_iff.2 fun z=>by have q:=f.1 z;have b:=(CP d).1 q.pr a;omega)
   refine BQ p ?_;try conv=>cbv
   refine BQ t ?_;try conv=>cbv
   refine HF ?_ ?_ <;> intro O <;> conv=>cbv
   ·refine Bo ?_;refine BQ p ?_;try conv=>cbv
    refine BQ r ?_;try conv=>cbv
    refine C5 ?_ ?_ <;> intro w <;> conv=>cbv
    ·refine Bo ?_;exact AF (Bool.eq_false_iff.2 fun z=>by have q:=f.1 z;have b:=(CP d).1 q.pr a;omega)
    refine BQ s ?_;try conv=>cbv
    refine BQ t ?_;try conv=>cbv
    refine C5 ?_ ?_ <;> intro x <;> conv=>cbv
    ·refine Bo ?_;exact AF (Bool.eq_false_iff.2 fun z=>by have q:=f.1 z;have b:=(CP d).1 q.pr a;omega)
    refine GZ ?_;conv=>cbv
    refine Bo ?_;exact AF (f.2 (Fu g D A B ((CP d).2 fun _=>by omega) (fun b=>absurd a b)))
   refine BQ r ?_;try conv=>cbv
   refine BQ s ?_;refine AS ?_;intro S m;refine Bo ?_;refine BQ p ?_;try conv=>cbv
   refine BQ r ?_;try conv=>cbv
   refine C5 ?_ ?_ <;> intro w <;> conv=>cbv
   ·refine Bo ?_;exact AF (Bool.eq_false_iff.2 fun z=>by have q:=f.1 z;have b:=(CP d).1 q.pr a;omega)
   refine BQ s ?_;try conv=>cbv
   refine BQ t ?_;try conv=>cbv
   refine C5 ?_ ?_ <;> intro x <;> conv=>cbv
   ·refine Bo ?_;exact AF (Bool.eq_false_iff.2 fun z=>by have q:=f.1 z;have b:=(CP d).1 q.pr a;omega)
   intro T n;conv=>cbv
   refine Bo ?_;exact AF (by rw[Bool.eq_iff_iff,f];exact⟨fun q=>by have b:=(CP d).1 q.pr a;rw[n,m,beq_eq_false_iff_ne.2 (by omega)];rfl,fun z=>(Fu g D A B ((CP d).2 fun _=>by rw[n,m] at z;have z:¬p1=p2:=(by simpa using z);omega) (fun b=>absurd a b))⟩)
  cases a6 <;> conv=>cbv
  ·have a5:=Bp K;intro Q F;conv=>cbv
   refine .inr ?_;cases Q <;> conv=>cbv
   ·have L:=Bp F;intro R G;conv=>cbv
    refine .inr ?_;cases R <;> conv=>cbv
    ·have M:=Bp G;intro ab J;conv=>cbv
     rw[o];exact⟨_,rfl,rfl,by rw[J,beq_iff_eq];unfold DU;omega⟩
    have M:=Br G;rw[o];exact⟨_,rfl,rfl,by unfold DU;constructor <;> intro _ <;> first | rfl | omega⟩
   have L:=Br F;rw[o];exact⟨_,rfl,rfl,by unfold DU;constructor <;> intro _ <;> first | rfl | omega⟩
  have a5:=Br K;rw[o];exact⟨_,rfl,rfl,by unfold DU;constructor <;> intro _ <;> first | rfl | omega⟩
 refine Ky ?_ ?_ <;> intro aM <;> conv=>cbv
 ·exact AF (Bool.eq_false_iff.2 fun z=>by have q:=f.1 z;have b:=q.s1;have h2:=q.s2;rw[<-v] at b h2;first | (have h3:=b rfl;omega) | (have h3:=h2 rfl;omega))
 refine LD ?_;conv=>cbv
 have D:∀(j:Nat) (e:Ex),V[j]? =some e->GM e=0:=fun j e h=>hinv j e (by have:=C6 h;omega) h
 have A:(Cr kd).2.2.2.2.2.2=true->sd=1\/sd= -1:=by rw[<-v];intro z;first | omega | exact absurd (show false=true from z) (by decide) | exact absurd (show true=false from z) (by decide)
 have B:(Cr kd).2.2.2.2.2.2=false->sd=0:=by rw[<-v];intro z;first | omega | exact absurd (show false=true from z) (by decide) | exact absurd (show true=false from z) (by decide)
 refine .inr ?_;intro a6 K;conv=>cbv
 obtain⟨U,o⟩:=xK fun vs W=>∃(e:Bool),vs=[.one (.AR 3 0 0),.one (.sl .i64 P),.one (.bool e)]/\W=[.var 0 [.int .i64 kd,.sl .i64 P,.sl .i64 C,.sl .ex V,.int .i64 sd]]/\(e=true↔DU kd)
 refine .inl ⟨[3,10,98],[3],U,?_,?_⟩
 ·intro vs W hj;rw[o] at hj;obtain⟨X,rfl,rfl,H⟩:=hj;conv=>cbv
  cases X <;> conv=>cbv
  ·have a:¬DU kd:=fun z=>by cases H.2 z
   obtain⟨I,u⟩:=EO (G7 P);refine BP hE (Kt u) ?_;conv=>cbv
   cases I <;> conv=>cbv
   ·exact AF (Bool.eq_false_iff.2 fun z=>by have q:=f.1 z;exact absurd (u.2 (q.df a).1) (by decide))
   obtain⟨a7,y⟩:=EO (G7 C);refine BP hE (Kt y) ?_;conv=>cbv
   exact AF (by rw[Bool.eq_iff_iff,f,y];exact⟨fun q=>(q.df a).2,fun z=>(Fu g D A B (fun b=>absurd b a) (fun _=>⟨u.1 rfl,z⟩))⟩)
  have a:DU kd:=H.1 rfl;obtain⟨p0,p1,p2,p3,d⟩:=Ru (l:=P) (by have b:=g.2.1;rw[TM a] at b;omega);have p:P[Int.toNat 0]? =some p0:=by rw[d];rfl
  have r:P[Int.toNat 1]? =some p1:=by rw[d];rfl
  have s:P[Int.toNat 2]? =some p2:=by rw[d];rfl
  have t:P[Int.toNat 3]? =some p3:=by rw[d];rfl
  have ad:P.length=4:=by rw[d];rfl
  refine BQ p ?_;try conv=>cbv
  refine BQ s ?_;try conv=>cbv
  refine HF ?_ ?_ <;> intro a8 <;> conv=>cbv
  ·refine BQ p ?_;try conv=>cbv
   refine BQ t ?_;try conv=>cbv
   refine HF ?_ ?_ <;> intro O <;> conv=>cbv
   ·refine Bo ?_;refine BQ p ?_;try conv=>cbv
    refine BQ r ?_;try conv=>cbv
    refine C5 ?_ ?_ <;> intro w <;> conv=>cbv
    ·refine Bo ?_;exact AF (Bool.eq_false_iff.2 fun z=>by have q:=f.1 z;have b:=(CP d).1 q.pr a;omega)
    refine BQ s ?_;try conv=>cbv
    refine BQ t ?_;try conv=>cbv
    refine C5 ?_ ?_ <;> intro x <;> conv=>cbv
    ·refine Bo ?_;exact AF (Bool.eq_false_iff.2 fun z=>by have q:=f.1 z;have b:=(CP d).1 q.pr a;omega)
    refine GZ ?_;conv=>cbv
    refine Bo ?_;exact AF (f.2 (Fu g D A B ((CP d).2 fun _=>by omega) (fun b=>absurd a b)))
   refine BQ r ?_;try conv=>cbv
   refine BQ s ?_;refine AS ?_;intro S m;refine Bo ?_;refine BQ p ?_;try conv=>cbv
   refine BQ r ?_;try conv=>cbv
   refine C5 ?_ ?_ <;> intro w <;> conv=>cbv
   ·refine Bo ?_;exact AF (Bool.eq_false_iff.2 fun z=>by have q:=f.1 z;have b:=(CP d).1 q.pr a;omega)
   refine BQ s ?_;try conv=>cbv
   refine BQ t ?_;try conv=>cbv
   refine C5 ?_ ?_ <;> intro x <;> conv=>cbv
   ·refine Bo ?_;exact AF (Bool.eq_false_iff.2 fun z=>by have q:=f.1 z;have b:=(CP d).1 q.pr a;omega)
   intro T n;conv=>cbv
   refine Bo ?_;exact AF (by rw[Bool.eq_iff_iff,f];exact⟨fun q=>by have b:=(CP d).1 q.pr a;rw[n,m,beq_eq_false_iff_ne.2 (by omega)];rfl,fun z=>(Fu g D A B ((CP d).2 fun _=>by rw[n,m] at z;have z:¬p1=p2:=(by simpa using z);omega) (fun b=>absurd a b))⟩)
  refine BQ r ?_;try conv=>cbv
  refine BQ t ?_;try conv=>cbv
  refine Kx ?_ ?_ <;> intro aa <;> conv=>cbv
  ·refine Bo ?_;refine BQ p ?_;try conv=>cbv
   refine BQ r ?_;try conv=>cbv
   refine C5 ?_ ?_ <;> intro w <;> conv=>cbv
   ·refine Bo ?_;exact AF (Bool.eq_false_iff.2 fun z=>by have q:=f.1 z;have b:=(CP d).1 q.pr a;omega)
   refine BQ s ?_;try conv=>cbv
   refine BQ t ?_;try conv=>cbv
   refine C5 ?_ ?_ <;> intro x <;> conv=>cbv
   ·refine Bo ?_;exact AF (Bool.eq_false_iff.2 fun z=>by have q:=f.1 z;have b:=(CP d).1 q.pr a;omega)
   refine LD ?_;conv=>cbv
   refine Bo ?_;exact AF (Bool.eq_false_iff.2 fun z=>by have q:=f.1 z;have b:=(CP d).1 q.pr a;omega)
  refine BQ p ?_;try conv=>cbv
  refine BQ t ?_;try conv=>cbv
  refine HF ?_ ?_ <;> intro O <;> conv=>cbv
  ·refine Bo ?_;refine BQ p ?_;try conv=>cbv
   refine BQ r ?_;try conv=>cbv
   refine C5 ?_ ?_ <;> intro w <;> conv=>cbv
   ·refine Bo ?_;exact AF (Bool.eq_false_iff.2 fun z=>by have q:=f.1 z;have b:=(CP d).1 q.pr a;omega)
   refine BQ s ?_;try conv=>cbv
   refine BQ t ?_;try conv=>cbv
   refine C5 ?_ ?_ <;> intro x <;> conv=>cbv
   ·refine Bo ?_;exact AF (Bool.eq_false_iff.2 fun z=>by have q:=f.1 z;have b:=(CP d).1 q.pr a;omega)
   refine GZ ?_;conv=>cbv
   refine Bo ?_;exact AF (f.2 (Fu g D A B ((CP d).2 fun _=>by omega) (fun b=>absurd a b)))
  refine BQ r ?_;try conv=>cbv
  refine BQ s ?_;refine AS ?_;intro S m;refine Bo ?_;refine BQ p ?_;try conv=>cbv
  refine BQ r ?_;try conv=>cbv
  refine C5 ?_ ?_ <;> intro w <;> conv=>cbv
  ·refine Bo ?_;exact AF (Bool.eq_false_iff.2 fun z=>by have q:=f.1 z;have b:=(CP d).1 q.pr a;omega)
  refine BQ s ?_;try conv=>cbv
  refine BQ t ?_;try conv=>cbv
  refine C5 ?_ ?_ <;> intro x <;> conv=>cbv
  ·refine Bo ?_;exact AF (Bool.eq_false_iff.2 fun z=>by have q:=f.1 z;have b:=(CP d).1 q.pr a;omega)
  intro T n;conv=>cbv
  refine Bo ?_;exact AF (by rw[Bool.eq_iff_iff,f];exact⟨fun q=>by have b:=(CP d).1 q.pr a;rw[n,m,beq_eq_false_iff_ne.2 (by omega)];rfl,fun z=>(Fu g D A B ((CP d).2 fun _=>by rw[n,m] at z;have z:¬p1=p2:=(by simpa using z);omega) (fun b=>absurd a b))⟩)
 cases a6 <;> conv=>cbv
 ·have a5:=Bp K;intro Q F;conv=>cbv
  refine .inr ?_;cases Q <;> conv=>cbv
  ·have L:=Bp F;intro R G;conv=>cbv
   refine .inr ?_;cases R <;> conv=>cbv
   ·have M:=Bp G;intro ab J;conv=>cbv
    rw[o];exact⟨_,rfl,rfl,by rw[J,beq_iff_eq];unfold DU;omega⟩
   have M:=Br G;rw[o];exact⟨_,rfl,rfl,by unfold DU;constructor <;> intro _ <;> first | rfl | omega⟩
  have L:=Br F;rw[o];exact⟨_,rfl,rfl,by unfold DU;constructor <;> intro _ <;> first | rfl | omega⟩
 have a5:=Br K;rw[o];exact⟨_,rfl,rfl,by unfold DU;constructor <;> intro _ <;> first | rfl | omega⟩
end Go.Abs
