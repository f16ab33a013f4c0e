/- Part 31 of a proof. Conditions: each theorem's own. -/
import Derived.Test.YtclgfoceefhnkaaGreatDoorLk28
import Derived.Test.YtclgfoceefhnkaaGreatDoorLk29
set_option linter.all false
set_option maxHeartbeats 80000000
set_option maxRecDepth 20000
open Go.Proofs
namespace Go.Abs
open Go.RowKit
def Cs (k:Int):Prop:=k=5\/k=6\/k=7\/k=8
structure FF (k:Int) (P C:List Int) (V:List Ex) (sd Ap FH:Int):Prop where
 ok:ID k=true
 np:(P.length:Int)=(CD k).2.1
 nc:(C.length:Int)=(CD k).2.2.1
 nv:(V.length:Int)=(CD k).2.2.2.1
 wp:DE Ap P=true
 wc:DE FH C=true
 ve:∀(i:Nat) (e:Ex),V[i]? =some e->FC e=0
 s1:(CD k).2.2.2.2.2.2=true->sd=1\/sd= -1
 s2:(CD k).2.2.2.2.2.2=false->sd=0
 pr:Cs k->∀a b c d,P[0]? =some a->P[1]? =some b->P[2]? =some c->P[3]? =some d->(a≠b/\c≠d)/\¬((a=c/\b=d)\/(a=d/\b=c))
 df:¬Cs k->Fk P/\Fk C
variable {FH k Ap sd:Int}
theorem gu {V:List Ex} {i:Nat} {x:Ex} (h:∀(j:Nat) (e:Ex),j<i->V[j]? =some e->FC e=0) (b:V[i]? =some x) (a:FC x=0):∀(j:Nat) (e:Ex),j<i+1->V[j]? =some e->FC e=0:=fun j e d he=>by
 by_cases q:j=i
 ·subst q;rw[Option.some.inj (he.symm.trans b)];exact a
 exact h j e (by omega) he
theorem Mu (h:Cs k):(CD k).2.1=4:=by rcases h with rfl | rfl | rfl | rfl <;> rfl
theorem OP {l:List Int} (h:l.length=4):∃a b c d,l=[a,b,c,d]:=by
 match l,h with
 | [a,b,c,d],_=>exact⟨a,b,c,d,rfl⟩
theorem Bj {P:List Int} {a b c d:Int} (m:P=[a,b,c,d]):(Cs k->∀a b c d,P[0]? =some a->P[1]? =some b->P[2]? =some c->P[3]? =some d->(a≠b/\c≠d)/\¬((a=c/\b=d)\/(a=d/\b=c)))↔(Cs k->(a≠b/\c≠d)/\¬((a=c/\b=d)\/(a=d/\b=c))):=by
 subst m;exact⟨fun h ht=>h ht _ _ _ _ rfl rfl rfl rfl,fun h ht n b' o p f g j l=>by cases f;cases g;cases j;cases l;exact h ht⟩
theorem Et {P C:List Int} {V:List Ex} (h:ID k=true/\(P.length:Int)=(CD k).2.1/\(C.length:Int)=(CD k).2.2.1/\(V.length:Int)=(CD k).2.2.2.1/\DE Ap P=true/\DE FH C=true) (f:∀(i:Nat) (e:Ex),V[i]? =some e->FC e=0) (g:(CD k).2.2.2.2.2.2=true->sd=1\/sd= -1) (j:(CD k).2.2.2.2.2.2=false->sd=0)
  (l:Cs k->∀a b c d,P[0]? =some a->P[1]? =some b->P[2]? =some c->P[3]? =some d->(a≠b/\c≠d)/\¬((a=c/\b=d)\/(a=d/\b=c))) (m:¬Cs k->Fk P/\Fk C):FF k P C V sd Ap FH:=
 ⟨h.1,h.2.1,h.2.2.1,h.2.2.2.1,h.2.2.2.2.1,h.2.2.2.2.2,f,g,j,l,m⟩
theorem YC {kd:Int} {P C:List Int} {V:List Ex} {c:Bool} {N:Nat} (hk:Db kd) (hN:N<=1048576) (hV:∀(i:Nat) (e:Ex),V[i]? =some e->EW N e) (r:c=true↔FF kd P C V sd Ap FH):CF 29 [.agg [.int .i64 kd,.sl .i64 P,.sl .i64 C,.sl .ex V,.int .i64 sd],.one (.int .i64 Ap),.one (.int .i64 FH)] (.one (.bool c)):=by
 refine CA Tryz.func29 (by kernel_rfl) rfl fun E hE=>?_
 conv=>cbv
 obtain⟨⟨nm,ra,rb,rc,rd,re,rg⟩,H⟩:∃z:el JW,z=CD kd:=⟨_,rfl⟩
 obtain⟨bf,ak⟩:=xB (ID kd);refine AB hE (Qe hk H ak) ?_;conv=>cbv
 intro aZ az;conv=>cbv
 cases aZ <;> conv=>cbv
 ·have aw:=CN az;rintro bs ⟨bj,f23⟩;conv=>cbv
  intro b0 aA;conv=>cbv
  cases b0 <;> conv=>cbv
  ·have aP:=BY aA;rintro bt ⟨bk,f31⟩;conv=>cbv
   intro b1 aB;conv=>cbv
   cases b1 <;> conv=>cbv
   ·have aQ:=BY aB;rintro bu ⟨bm,f39⟩;conv=>cbv
    intro b2 aC;conv=>cbv
    cases b2 <;> conv=>cbv
    ·have aR:=BY aC;obtain⟨bg,al⟩:=xB (DE Ap P);refine AB hE (XG al) ?_;conv=>cbv
     intro b3 aD;conv=>cbv
     cases b3 <;> conv=>cbv
     ·have ax:=CN aD;obtain⟨bh,an⟩:=xB (DE FH C);refine AB hE (XG an) ?_;conv=>cbv
      intro b4 aE;conv=>cbv
      cases b4 <;> conv=>cbv
      ·have ay:=CN aE;refine .inr ?_;obtain⟨J0,av⟩:=xJ fun vs bl k=>∃(i':Nat) (i:Int),vs=[.one (.Ae 3 0 0),.one (.Ae 7 0 0),.one (.int .i64 i)]/\bl=[.var 0 [.int .i64 kd,.sl .i64 P,.sl .i64 C,.sl .ex V,.int .i64 sd],.var 0 [.str nm,.int .i64 ra,.int .i64 rb,.int .i64 rc,.int .i64 rd,.int .i64 re,.bool rg]]/\(AR i i'/\i'<=V.length)/\(ID kd=true/\(P.length:Int)=(CD kd).2.1/\(C.length:Int)=(CD kd).2.2.1/\(V.length:Int)=(CD kd).2.2.2.1/\DE Ap P=true/\DE FH C=true)/\(∀(j:Nat) (e:Ex),j<i'->V[j]? =some e->FC e=0)/\k=V.length-i'
       refine⟨[],[3,7,9],[3,7],J0,⟨V.length-0,by rw[av];exact⟨0,0,rfl,rfl,⟨Ak 0,by omega⟩,⟨ak.symm.trans aw,by rw[<-H];show (P.length:Int)=ra;omega,by rw[<-H];show (C.length:Int)=rb;omega,by rw[<-H];show (V.length:Int)=rc;omega,al.symm.trans ax,an.symm.trans ay⟩,fun j e h=>absurd h (Nat.not_lt_zero j),rfl⟩⟩,?_⟩;intro vs bl br hj;rw[av] at hj;obtain⟨i',i,rfl,rfl,⟨hi,bp⟩,s,hinv,bq⟩:=hj;conv=>cbv
       have ei:=hi.eq;rintro bw ⟨bn,f61⟩;conv=>cbv
       intro b5 aF;conv=>cbv
       cases b5 <;> conv=>cbv
       ·have aS:=AY aF;cases rg <;> conv=>cbv
        ·refine Cc ?_;conv=>cbv
         intro ba aJ;conv=>cbv
         cases ba <;> conv=>cbv
         ·have aW:=BY aJ;have L:∀(j:Nat) (e:Ex),V[j]? =some e->FC e=0:=fun j e h=>hinv j e (by have:=Dm h;omega) h
          have J:(CD kd).2.2.2.2.2.2=true->sd=1\/sd= -1:=by rw[<-H];intro z;first | omega | exact absurd (show false=true from z) (by decide) | exact absurd (show true=false from z) (by decide)
          have K:(CD kd).2.2.2.2.2.2=false->sd=0:=by rw[<-H];intro z;first | omega | exact absurd (show false=true from z) (by decide) | exact absurd (show true=false from z) (by decide)
          refine .inr ?_;intro aq a2;conv=>cbv
          obtain⟨ai,w⟩:=xK fun vs bl=>∃(e:Bool),vs=[.one (.Ae 3 0 0),.one (.sl .i64 P),.one (.bool e)]/\bl=[.var 0 [.int .i64 kd,.sl .i64 P,.sl .i64 C,.sl .ex V,.int .i64 sd]]/\(e=true↔Cs kd)
          refine .inl ⟨[3,10,98],[3],ai,?_,?_⟩
          ·intro vs bl hj;rw[w] at hj;obtain⟨aj,rfl,rfl,Y⟩:=hj;conv=>cbv
           cases aj <;> conv=>cbv
           ·have a:¬Cs kd:=fun z=>by cases Y.2 z
            obtain⟨Z,G⟩:=EM (Fk P);refine AB hE (Im G) ?_;conv=>cbv
            cases Z <;> conv=>cbv
            ·exact AD ⟨⟨rfl,congrArg _ (Bool.eq_false_iff.2 fun z=>by have q:=r.1 z;exact absurd (G.2 (q.df a).1) (by decide)),trivial⟩,trivial⟩
            obtain⟨ar,I⟩:=EM (Fk C);refine AB hE (Im I) ?_;conv=>cbv
            exact AD ⟨⟨rfl,congrArg _ (by rw[Bool.eq_iff_iff,r,I];exact⟨fun q=>(q.df a).2,fun z=>(Et s L J K (fun f=>absurd f a) (fun _=>⟨G.1 rfl,z⟩))⟩),trivial⟩,trivial⟩
           have a:Cs kd:=Y.1 rfl;obtain⟨p0,Q,R,S,p⟩:=OP (l:=P) (by have f:=s.2.1;rw[Mu a] at f;omega);have A:P[Int.toNat 0]? =some p0:=by rw[p];rfl
           have B:P[Int.toNat 1]? =some Q:=by rw[p];rfl
           have D:P[Int.toNat 2]? =some R:=by rw[p];rfl
           have F:P[Int.toNat 3]? =some S:=by rw[p];rfl
           have aK:P.length=4:=by rw[p];rfl
           refine⟨p0,fun _=>⟨by omega,A⟩,?_⟩;try conv=>cbv
           refine⟨R,fun _=>⟨by omega,D⟩,?_⟩;try conv=>cbv
           intro ad W;conv=>cbv
           cases ad <;> conv=>cbv
           ·have a7:=AN W;refine⟨p0,fun _=>⟨by omega,A⟩,?_⟩;try conv=>cbv
            refine⟨S,fun _=>⟨by omega,F⟩,?_⟩;try conv=>cbv
            intro O t;conv=>cbv
            cases O <;> conv=>cbv
            ·have M:=AN t;refine BO ?_;refine⟨p0,fun _=>⟨by omega,A⟩,?_⟩;try conv=>cbv
             refine⟨Q,fun _=>⟨by omega,B⟩,?_⟩;try conv=>cbv
             intro n b;conv=>cbv
             cases n <;> conv=>cbv
             ·have g:=BY b;refine BO ?_;exact AD ⟨⟨rfl,congrArg _ (Bool.eq_false_iff.2 fun z=>by have q:=r.1 z;have f:=(Bj p).1 q.pr a;omega),trivial⟩,trivial⟩
             have g:=BZ b;refine⟨R,fun _=>⟨by omega,D⟩,?_⟩;try conv=>cbv
             refine⟨S,fun _=>⟨by omega,F⟩,?_⟩;try conv=>cbv
             intro o d;conv=>cbv
             cases o <;> conv=>cbv
             ·have m:=BY d;refine BO ?_;exact AD ⟨⟨rfl,congrArg _ (Bool.eq_false_iff.2 fun z=>by have q:=r.1 z;have f:=(Bj p).1 q.pr a;omega),trivial⟩,trivial⟩
             have m:=BZ d;refine Cc ?_;conv=>cbv
             refine BO ?_;exact AD ⟨⟨rfl,congrArg _ (r.2 (Et s L J K ((Bj p).2 fun _=>by omega) (fun f=>absurd a f))),trivial⟩,trivial⟩
            have M:=AO t;refine⟨Q,fun _=>⟨by omega,B⟩,?_⟩;try conv=>cbv
            refine⟨R,fun _=>⟨by omega,D⟩,?_⟩;try conv=>cbv
            intro af u;conv=>cbv
            refine BO ?_;refine⟨p0,fun _=>⟨by omega,A⟩,?_⟩;try conv=>cbv
            refine⟨Q,fun _=>⟨by omega,B⟩,?_⟩;try conv=>cbv
            intro n b;conv=>cbv
            cases n <;> conv=>cbv
            ·have g:=BY b;refine BO ?_;exact AD ⟨⟨rfl,congrArg _ (Bool.eq_false_iff.2 fun z=>by have q:=r.1 z;have f:=(Bj p).1 q.pr a;omega),trivial⟩,trivial⟩
            have g:=BZ b;refine⟨R,fun _=>⟨by omega,D⟩,?_⟩;try conv=>cbv
            refine⟨S,fun _=>⟨by omega,F⟩,?_⟩;try conv=>cbv
            intro o d;conv=>cbv
            cases o <;> conv=>cbv
            ·have m:=BY d;refine BO ?_;exact AD ⟨⟨rfl,congrArg _ (Bool.eq_false_iff.2 fun z=>by have q:=r.1 z;have f:=(Bj p).1 q.pr a;omega),trivial⟩,trivial⟩
            have m:=BZ d;intro ag v;conv=>cbv
            refine BO ?_;exact AD ⟨⟨rfl,congrArg _ (by rw[Bool.eq_iff_iff,r];exact⟨fun q=>by have f:=(Bj p).1 q.pr a;rw[v,u,beq_eq_false_iff_ne.2 (by omega)];rfl,fun z=>(Et s L J K ((Bj p).2 fun _=>by rw[v,u] at z;have z:¬Q=R:=(by simpa using z);omega) (fun f=>absurd a f))⟩),trivial⟩,trivial⟩
           have a7:=AO W;refine⟨Q,fun _=>⟨by omega,B⟩,?_⟩;try conv=>cbv
           refine⟨S,fun _=>⟨by omega,F⟩,?_⟩;try conv=>cbv
           intro ae X;conv=>cbv
           cases ae <;> conv=>cbv
           ·have a8:=AN X;refine⟨p0,fun _=>⟨by omega,A⟩,?_⟩;try conv=>cbv
            refine⟨S,fun _=>⟨by omega,F⟩,?_⟩;try conv=>cbv
            intro O t;conv=>cbv
            cases O <;> conv=>cbv
            ·have M:=AN t;refine BO ?_;refine⟨p0,fun _=>⟨by omega,A⟩,?_⟩;try conv=>cbv
             refine⟨Q,fun _=>⟨by omega,B⟩,?_⟩;try conv=>cbv
             intro n b;conv=>cbv
             cases n <;> conv=>cbv
             ·have g:=BY b;refine BO ?_;exact AD ⟨⟨rfl,congrArg _ (Bool.eq_false_iff.2 fun z=>by have q:=r.1 z;have f:=(Bj p).1 q.pr a;omega),trivial⟩,trivial⟩
             have g:=BZ b;refine⟨R,fun _=>⟨by omega,D⟩,?_⟩;try conv=>cbv
             refine⟨S,fun _=>⟨by omega,F⟩,?_⟩;try conv=>cbv
             intro o d;conv=>cbv
             cases o <;> conv=>cbv
             ·have m:=BY d;refine BO ?_;exact AD ⟨⟨rfl,congrArg _ (Bool.eq_false_iff.2 fun z=>by have q:=r.1 z;have f:=(Bj p).1 q.pr a;omega),trivial⟩,trivial⟩
             have m:=BZ d;refine Cc ?_;conv=>cbv
             refine BO ?_;exact AD ⟨⟨rfl,congrArg _ (r.2 (Et s L J K ((Bj p).2 fun _=>by omega) (fun f=>absurd a f))),trivial⟩,trivial⟩
            have M:=AO t;refine⟨Q,fun _=>⟨by omega,B⟩,?_⟩;try conv=>cbv
            refine⟨R,fun _=>⟨by omega,D⟩,?_⟩;try conv=>cbv
            intro af u;conv=>cbv
            refine BO ?_;refine⟨p0,fun _=>⟨by omega,A⟩,?_⟩;try conv=>cbv
            refine⟨Q,fun _=>⟨by omega,B⟩,?_⟩;try conv=>cbv
            intro n b;conv=>cbv
            cases n <;> conv=>cbv
            ·have g:=BY b;refine BO ?_;exact AD ⟨⟨rfl,congrArg _ (Bool.eq_false_iff.2 fun z=>by have q:=r.1 z;have f:=(Bj p).1 q.pr a;omega),trivial⟩,trivial⟩
            have g:=BZ b;refine⟨R,fun _=>⟨by omega,D⟩,?_⟩;try conv=>cbv
            refine⟨S,fun _=>⟨by omega,F⟩,?_⟩;try conv=>cbv
            intro o d;conv=>cbv
            cases o <;> conv=>cbv
            ·have m:=BY d;refine BO ?_;exact AD ⟨⟨rfl,congrArg _ (Bool.eq_false_iff.2 fun z=>by have q:=r.1 z;have f:=(Bj p).1 q.pr a;omega),trivial⟩,trivial⟩
            have m:=BZ d;intro ag v;conv=>cbv
            refine BO ?_;exact AD ⟨⟨rfl,congrArg _ (by rw[Bool.eq_iff_iff,r];exact⟨fun q=>by have f:=(Bj p).1 q.pr a;rw[v,u,beq_eq_false_iff_ne.2 (by omega)];rfl,fun z=>(Et s L J K ((Bj p).2 fun _=>by rw[v,u] at z;have z:¬Q=R:=(by simpa using z);omega) (fun f=>absurd a f))⟩),trivial⟩,trivial⟩
           have a8:=AO X;refine BO ?_;refine⟨p0,fun _=>⟨by omega,A⟩,?_⟩;try conv=>cbv
           refine⟨Q,fun _=>⟨by omega,B⟩,?_⟩;try conv=>cbv
           intro n b;conv=>cbv
           cases n <;> conv=>cbv
           ·have g:=BY b;refine BO ?_;exact AD ⟨⟨rfl,congrArg _ (Bool.eq_false_iff.2 fun z=>by have q:=r.1 z;have f:=(Bj p).1 q.pr a;omega),trivial⟩,trivial⟩
           have g:=BZ b;refine⟨R,fun _=>⟨by omega,D⟩,?_⟩;try conv=>cbv
           refine⟨S,fun _=>⟨by omega,F⟩,?_⟩;try conv=>cbv
           intro o d;conv=>cbv
           cases o <;> conv=>cbv
           ·have m:=BY d;refine BO ?_;exact AD ⟨⟨rfl,congrArg _ (Bool.eq_false_iff.2 fun z=>by have q:=r.1 z;have f:=(Bj p).1 q.pr a;omega),trivial⟩,trivial⟩
           have m:=BZ d;refine BK ?_;conv=>cbv
           refine BO ?_;exact AD ⟨⟨rfl,congrArg _ (Bool.eq_false_iff.2 fun z=>by have q:=r.1 z;have f:=(Bj p).1 q.pr a;omega),trivial⟩,trivial⟩
          cases aq <;> conv=>cbv
          ·have ao:=AN a2;intro aa T;conv=>cbv
           refine .inr ?_;cases aa <;> conv=>cbv
           ·have a5:=AN T;intro ab U;conv=>cbv
            refine .inr ?_;cases ab <;> conv=>cbv
            ·have a6:=AN U;intro au a1;conv=>cbv
             rw[w];exact⟨_,rfl,rfl,by rw[a1,beq_iff_eq];unfold Cs;omega⟩
            have a6:=AO U;rw[w];exact⟨_,rfl,rfl,by unfold Cs;constructor <;> intro _ <;> first | rfl | omega⟩
           have a5:=AO T;rw[w];exact⟨_,rfl,rfl,by unfold Cs;constructor <;> intro _ <;> first | rfl | omega⟩
          have ao:=AO a2;rw[w];exact⟨_,rfl,rfl,by unfold Cs;constructor <;> intro _ <;> first | rfl | omega⟩
         have aW:=BZ aJ;exact AD ⟨⟨rfl,congrArg _ (Bool.eq_false_iff.2 fun z=>by have q:=r.1 z;have f:=q.s1;have h2:=q.s2;rw[<-H] at f h2;first | (have h3:=f rfl;omega) | (have h3:=h2 rfl;omega)),trivial⟩,trivial⟩
        intro b8 aH;conv=>cbv
        cases b8 <;> conv=>cbv
        ·have aU:=BY aH;refine BK ?_;conv=>cbv
         have L:∀(j:Nat) (e:Ex),V[j]? =some e->FC e=0:=fun j e h=>hinv j e (by have:=Dm h;omega) h
         have J:(CD kd).2.2.2.2.2.2=true->sd=1\/sd= -1:=by rw[<-H];intro z;first | omega | exact absurd (show false=true from z) (by decide) | exact absurd (show true=false from z) (by decide)
         have K:(CD kd).2.2.2.2.2.2=false->sd=0:=by rw[<-H];intro z;first | omega | exact absurd (show false=true from z) (by decide) | exact absurd (show true=false from z) (by decide)
         refine .inr ?_;intro aq a2;conv=>cbv
         obtain⟨ai,w⟩:=xK fun vs bl=>∃(e:Bool),vs=[.one (.Ae 3 0 0),.one (.sl .i64 P),.one (.bool e)]/\bl=[.var 0 [.int .i64 kd,.sl .i64 P,.sl .i64 C,.sl .ex V,.int .i64 sd]]/\(e=true↔Cs kd)
         refine .inl ⟨[3,10,98],[3],ai,?_,?_⟩
         ·intro vs bl hj;rw[w] at hj;obtain⟨aj,rfl,rfl,Y⟩:=hj;conv=>cbv
          cases aj <;> conv=>cbv
          ·have a:¬Cs kd:=fun z=>by cases Y.2 z
           obtain⟨Z,G⟩:=EM (Fk P);refine AB hE (Im G) ?_;conv=>cbv
           cases Z <;> conv=>cbv
           ·exact AD ⟨⟨rfl,congrArg _ (Bool.eq_false_iff.2 fun z=>by have q:=r.1 z;exact absurd (G.2 (q.df a).1) (by decide)),trivial⟩,trivial⟩
           obtain⟨ar,I⟩:=EM (Fk C);refine AB hE (Im I) ?_;conv=>cbv
           exact AD ⟨⟨rfl,congrArg _ (by rw[Bool.eq_iff_iff,r,I];exact⟨fun q=>(q.df a).2,fun z=>(Et s L J K (fun f=>absurd f a) (fun _=>⟨G.1 rfl,z⟩))⟩),trivial⟩,trivial⟩
          have a:Cs kd:=Y.1 rfl;obtain⟨p0,Q,R,S,p⟩:=OP (l:=P) (by have f:=s.2.1;rw[Mu a] at f;omega);have A:P[Int.toNat 0]? =some p0:=by rw[p];rfl
          have B:P[Int.toNat 1]? =some Q:=by rw[p];rfl
          have D:P[Int.toNat 2]? =some R:=by rw[p];rfl
          have F:P[Int.toNat 3]? =some S:=by rw[p];rfl
          have aK:P.length=4:=by rw[p];rfl
          refine⟨p0,fun _=>⟨by omega,A⟩,?_⟩;try conv=>cbv
          refine⟨R,fun _=>⟨by omega,D⟩,?_⟩;try conv=>cbv
          intro ad W;conv=>cbv
          cases ad <;> conv=>cbv
          ·have a7:=AN W;refine⟨p0,fun _=>⟨by omega,A⟩,?_⟩;try conv=>cbv
           refine⟨S,fun _=>⟨by omega,F⟩,?_⟩;try conv=>cbv
           intro O t;conv=>cbv
           cases O <;> conv=>cbv
           ·have M:=AN t;refine BO ?_;refine⟨p0,fun _=>⟨by omega,A⟩,?_⟩;try conv=>cbv
            refine⟨Q,fun _=>⟨by omega,B⟩,?_⟩;try conv=>cbv
            intro n b;conv=>cbv
            cases n <;> conv=>cbv
            ·have g:=BY b;refine BO ?_;exact AD ⟨⟨rfl,congrArg _ (Bool.eq_false_iff.2 fun z=>by have q:=r.1 z;have f:=(Bj p).1 q.pr a;omega),trivial⟩,trivial⟩
            have g:=BZ b;refine⟨R,fun _=>⟨by omega,D⟩,?_⟩;try conv=>cbv
            refine⟨S,fun _=>⟨by omega,F⟩,?_⟩;try conv=>cbv
            intro o d;conv=>cbv
            cases o <;> conv=>cbv
            ·have m:=BY d;refine BO ?_;exact AD ⟨⟨rfl,congrArg _ (Bool.eq_false_iff.2 fun z=>by have q:=r.1 z;have f:=(Bj p).1 q.pr a;omega),trivial⟩,trivial⟩
            have m:=BZ d;refine Cc ?_;conv=>cbv
            refine BO ?_;exact AD ⟨⟨rfl,congrArg _ (r.2 (Et s L J K ((Bj p).2 fun _=>by omega) (fun f=>absurd a f))),trivial⟩,trivial⟩
           have M:=AO t;refine⟨Q,fun _=>⟨by omega,B⟩,?_⟩;try conv=>cbv
           refine⟨R,fun _=>⟨by omega,D⟩,?_⟩;try conv=>cbv
           intro af u;conv=>cbv
           refine BO ?_;refine⟨p0,fun _=>⟨by omega,A⟩,?_⟩;try conv=>cbv
           refine⟨Q,fun _=>⟨by omega,B⟩,?_⟩;try conv=>cbv
           intro n b;conv=>cbv
           cases n <;> conv=>cbv
           ·have g:=BY b;refine BO ?_;exact AD ⟨⟨rfl,congrArg _ (Bool.eq_false_iff.2 fun z=>by have q:=r.1 z;have f:=(Bj p).1 q.pr a;omega),trivial⟩,trivial⟩
           have g:=BZ b;refine⟨R,fun _=>⟨by omega,D⟩,?_⟩;try conv=>cbv
           refine⟨S,fun _=>⟨by omega,F⟩,?_⟩;try conv=>cbv
           intro o d;conv=>cbv
           cases o <;> conv=>cbv
           ·have m:=BY d;refine BO ?_;exact AD ⟨⟨rfl,congrArg _ (Bool.eq_false_iff.2 fun z=>by have q:=r.1 z;have f:=(Bj p).1 q.pr a;omega),trivial⟩,trivial⟩
           have m:=BZ d;intro ag v;conv=>cbv
           refine BO ?_;exact AD ⟨⟨rfl,congrArg _ (by rw[Bool.eq_iff_iff,r];exact⟨fun q=>by have f:=(Bj p).1 q.pr a;rw[v,u,beq_eq_false_iff_ne.2 (by omega)];rfl,fun z=>(Et s L J K ((Bj p).2 fun _=>by rw[v,u] at z;have z:¬Q=R:=(by simpa using z);omega) (fun f=>absurd a f))⟩),trivial⟩,trivial⟩
          have a7:=AO W;refine⟨Q,fun _=>⟨by omega,B⟩,?_⟩;try conv=>cbv
          refine⟨S,fun _=>⟨by omega,F⟩,?_⟩;try conv=>cbv
          intro ae X;conv=>cbv
          cases ae <;> conv=>cbv
          ·have a8:=AN X;refine⟨p0,fun _=>⟨by omega,A⟩,?_⟩;try conv=>cbv
           refine⟨S,fun _=>⟨by omega,F⟩,?_⟩;try conv=>cbv
           intro O t;conv=>cbv
           cases O <;> conv=>cbv
           ·have M:=AN t;refine BO ?_;refine⟨p0,fun _=>⟨by omega,A⟩,?_⟩;try conv=>cbv
            refine⟨Q,fun _=>⟨by omega,B⟩,?_⟩;try conv=>cbv
            intro n b;conv=>cbv
            cases n <;> conv=>cbv
            ·have g:=BY b;refine BO ?_;exact AD ⟨⟨rfl,congrArg _ (Bool.eq_false_iff.2 fun z=>by have q:=r.1 z;have f:=(Bj p).1 q.pr a;omega),trivial⟩,trivial⟩
            have g:=BZ b;refine⟨R,fun _=>⟨by omega,D⟩,?_⟩;try conv=>cbv
            refine⟨S,fun _=>⟨by omega,F⟩,?_⟩;try conv=>cbv
            intro o d;conv=>cbv
            cases o <;> conv=>cbv
            ·have m:=BY d;refine BO ?_;exact AD ⟨⟨rfl,congrArg _ (Bool.eq_false_iff.2 fun z=>by have q:=r.1 z;have f:=(Bj p).1 q.pr a;omega),trivial⟩,trivial⟩
            have m:=BZ d;refine Cc ?_;conv=>cbv
            refine BO ?_;exact AD ⟨⟨rfl,congrArg _ (r.2 (Et s L J K ((Bj p).2 fun _=>by omega) (fun f=>absurd a f))),trivial⟩,trivial⟩
           have M:=AO t;refine⟨Q,fun _=>⟨by omega,B⟩,?_⟩;try conv=>cbv
           refine⟨R,fun _=>⟨by omega,D⟩,?_⟩;try conv=>cbv
           intro af u;conv=>cbv
           refine BO ?_;refine⟨p0,fun _=>⟨by omega,A⟩,?_⟩;try conv=>cbv
           refine⟨Q,fun _=>⟨by omega,B⟩,?_⟩;try conv=>cbv
           intro n b;conv=>cbv
           cases n <;> conv=>cbv
           ·have g:=BY b;refine BO ?_;exact AD ⟨⟨rfl,congrArg _ (Bool.eq_false_iff.2 fun z=>by have q:=r.1 z;have f:=(Bj p).1 q.pr a;omega),trivial⟩,trivial⟩
           have g:=BZ b;refine⟨R,fun _=>⟨by omega,D⟩,?_⟩;try conv=>cbv
           refine⟨S,fun _=>⟨by omega,F⟩,?_⟩;try conv=>cbv
           intro o d;conv=>cbv
           cases o <;> conv=>cbv
           ·have m:=BY d;refine BO ?_;exact AD ⟨⟨rfl,congrArg _ (Bool.eq_false_iff.2 fun z=>by have q:=r.1 z;have f:=(Bj p).1 q.pr a;omega),trivial⟩,trivial⟩
           have m:=BZ d;intro ag v;conv=>cbv
           refine BO ?_;exact AD ⟨⟨rfl,congrArg _ (by rw[Bool.eq_iff_iff,r];exact⟨fun q=>by have f:=(Bj p).1 q.pr a;rw[v,u,beq_eq_false_iff_ne.2 (by omega)];rfl,fun z=>(Et s L J K ((Bj p).2 fun _=>by rw[v,u] at z;have z:¬Q=R:=(by simpa using z);omega) (fun f=>absurd a f))⟩),trivial⟩,trivial⟩
          have a8:=AO X;refine BO ?_;refine⟨p0,fun _=>⟨by omega,A⟩,?_⟩;try conv=>cbv
          refine⟨Q,fun _=>⟨by omega,B⟩,?_⟩;try conv=>cbv
          intro n b;conv=>cbv
          cases n <;> conv=>cbv
          ·have g:=BY b;refine BO ?_;exact AD ⟨⟨rfl,congrArg _ (Bool.eq_false_iff.2 fun z=>by have q:=r.1 z;have f:=(Bj p).1 q.pr a;omega),trivial⟩,trivial⟩
          have g:=BZ b;refine⟨R,fun _=>⟨by omega,D⟩,?_⟩;try conv=>cbv
          refine⟨S,fun _=>⟨by omega,F⟩,?_⟩;try conv=>cbv
          intro o d;conv=>cbv
          cases o <;> conv=>cbv
          ·have m:=BY d;refine BO ?_;exact AD ⟨⟨rfl,congrArg _ (Bool.eq_false_iff.2 fun z=>by have q:=r.1 z;have f:=(Bj p).1 q.pr a;omega),trivial⟩,trivial⟩
          have m:=BZ d;refine BK ?_;conv=>cbv
          refine BO ?_;exact AD ⟨⟨rfl,congrArg _ (Bool.eq_false_iff.2 fun z=>by have q:=r.1 z;have f:=(Bj p).1 q.pr a;omega),trivial⟩,trivial⟩
         cases aq <;> conv=>cbv
         ·have ao:=AN a2;intro aa T;conv=>cbv
          refine .inr ?_;cases aa <;> conv=>cbv
          ·have a5:=AN T;intro ab U;conv=>cbv
           refine .inr ?_;cases ab <;> conv=>cbv
           ·have a6:=AN U;intro au a1;conv=>cbv
            rw[w];exact⟨_,rfl,rfl,by rw[a1,beq_iff_eq];unfold Cs;omega⟩
           have a6:=AO U;rw[w];exact⟨_,rfl,rfl,by unfold Cs;constructor <;> intro _ <;> first | rfl | omega⟩
          have a5:=AO T;rw[w];exact⟨_,rfl,rfl,by unfold Cs;constructor <;> intro _ <;> first | rfl | omega⟩
         have ao:=AO a2;rw[w];exact⟨_,rfl,rfl,by unfold Cs;constructor <;> intro _ <;> first | rfl | omega⟩
        have aU:=BZ aH;intro b9 aI;conv=>cbv
        cases b9 <;> conv=>cbv
        ·have aV:=BY aI;refine BK ?_;conv=>cbv
         have L:∀(j:Nat) (e:Ex),V[j]? =some e->FC e=0:=fun j e h=>hinv j e (by have:=Dm h;omega) h
         have J:(CD kd).2.2.2.2.2.2=true->sd=1\/sd= -1:=by rw[<-H];intro z;first | omega | exact absurd (show false=true from z) (by decide) | exact absurd (show true=false from z) (by decide)
         have K:(CD kd).2.2.2.2.2.2=false->sd=0:=by rw[<-H];intro z;first | omega | exact absurd (show false=true from z) (by decide) | exact absurd (show true=false from z) (by decide)
         refine .inr ?_;intro aq a2;conv=>cbv
         obtain⟨ai,w⟩:=xK fun vs bl=>∃(e:Bool),vs=[.one (.Ae 3 0 0),.one (.sl .i64 P),.one (.bool e)]/\bl=[.var 0 [.int .i64 kd,.sl .i64 P,.sl .i64 C,.sl .ex V,.int .i64 sd]]/\(e=true↔Cs kd)
         refine .inl ⟨[3,10,98],[3],ai,?_,?_⟩
         ·intro vs bl hj;rw[w] at hj;obtain⟨aj,rfl,rfl,Y⟩:=hj;conv=>cbv
          cases aj <;> conv=>cbv
          ·have a:¬Cs kd:=fun z=>by cases Y.2 z
           obtain⟨Z,G⟩:=EM (Fk P);refine AB hE (Im G) ?_;conv=>cbv
           cases Z <;> conv=>cbv
           ·exact AD ⟨⟨rfl,congrArg _ (Bool.eq_false_iff.2 fun z=>by have q:=r.1 z;exact absurd (G.2 (q.df a).1) (by decide)),trivial⟩,trivial⟩
           obtain⟨ar,I⟩:=EM (Fk C);refine AB hE (Im I) ?_;conv=>cbv
           exact AD ⟨⟨rfl,congrArg _ (by rw[Bool.eq_iff_iff,r,I];exact⟨fun q=>(q.df a).2,fun z=>(Et s L J K (fun f=>absurd f a) (fun _=>⟨G.1 rfl,z⟩))⟩),trivial⟩,trivial⟩
          have a:Cs kd:=Y.1 rfl;obtain⟨p0,Q,R,S,p⟩:=OP (l:=P) (by have f:=s.2.1;rw[Mu a] at f;omega);have A:P[Int.toNat 0]? =some p0:=by rw[p];rfl
          have B:P[Int.toNat 1]? =some Q:=by rw[p];rfl
          have D:P[Int.toNat 2]? =some R:=by rw[p];rfl
          have F:P[Int.toNat 3]? =some S:=by rw[p];rfl
          have aK:P.length=4:=by rw[p];rfl
          refine⟨p0,fun _=>⟨by omega,A⟩,?_⟩;try conv=>cbv
          refine⟨R,fun _=>⟨by omega,D⟩,?_⟩;try conv=>cbv
          intro ad W;conv=>cbv
          cases ad <;> conv=>cbv
          ·have a7:=AN W;refine⟨p0,fun _=>⟨by omega,A⟩,?_⟩;try conv=>cbv
           refine⟨S,fun _=>⟨by omega,F⟩,?_⟩;try conv=>cbv
           intro O t;conv=>cbv
           cases O <;> conv=>cbv
           ·have M:=AN t;refine BO ?_;refine⟨p0,fun _=>⟨by omega,A⟩,?_⟩;try conv=>cbv
            refine⟨Q,fun _=>⟨by omega,B⟩,?_⟩;try conv=>cbv
            intro n b;conv=>cbv
            cases n <;> conv=>cbv
            ·have g:=BY b;refine BO ?_;exact AD ⟨⟨rfl,congrArg _ (Bool.eq_false_iff.2 fun z=>by have q:=r.1 z;have f:=(Bj p).1 q.pr a;omega),trivial⟩,trivial⟩
            have g:=BZ b;refine⟨R,fun _=>⟨by omega,D⟩,?_⟩;try conv=>cbv
            refine⟨S,fun _=>⟨by omega,F⟩,?_⟩;try conv=>cbv
            intro o d;conv=>cbv
            cases o <;> conv=>cbv
            ·have m:=BY d;refine BO ?_;exact AD ⟨⟨rfl,congrArg _ (Bool.eq_false_iff.2 fun z=>by have q:=r.1 z;have f:=(Bj p).1 q.pr a;omega),trivial⟩,trivial⟩
            have m:=BZ d;refine Cc ?_;conv=>cbv
            refine BO ?_;exact AD ⟨⟨rfl,congrArg _ (r.2 (Et s L J K ((Bj p).2 fun _=>by omega) (fun f=>absurd a f))),trivial⟩,trivial⟩
           have M:=AO t;refine⟨Q,fun _=>⟨by omega,B⟩,?_⟩;try conv=>cbv
           refine⟨R,fun _=>⟨by omega,D⟩,?_⟩;try conv=>cbv
           intro af u;conv=>cbv
           refine BO ?_;refine⟨p0,fun _=>⟨by omega,A⟩,?_⟩;try conv=>cbv
           refine⟨Q,fun _=>⟨by omega,B⟩,?_⟩;try conv=>cbv
           intro n b;conv=>cbv
           cases n <;> conv=>cbv
           ·have g:=BY b;refine BO ?_;exact AD ⟨⟨rfl,congrArg _ (Bool.eq_false_iff.2 fun z=>by have q:=r.1 z;have f:=(Bj p).1 q.pr a;omega),trivial⟩,trivial⟩
           have g:=BZ b;refine⟨R,fun _=>⟨by omega,D⟩,?_⟩;try conv=>cbv
           refine⟨S,fun _=>⟨by omega,F⟩,?_⟩;try conv=>cbv
           intro o d;conv=>cbv
           cases o <;> conv=>cbv
           ·have m:=BY d;refine BO ?_;exact AD ⟨⟨rfl,congrArg _ (Bool.eq_false_iff.2 fun z=>by have q:=r.1 z;have f:=(Bj p).1 q.pr a;omega),trivial⟩,trivial⟩
           have m:=BZ d;intro ag v;conv=>cbv
           refine BO ?_;exact AD ⟨⟨rfl,congrArg _ (by rw[Bool.eq_iff_iff,r];exact⟨fun q=>by have f:=(Bj p).1 q.pr a;rw[v,u,beq_eq_false_iff_ne.2 (by omega)];rfl,fun z=>(Et s L J K ((Bj p).2 fun _=>by rw[v,u] at z;have z:¬Q=R:=(by simpa using z);omega) (fun f=>absurd a f))⟩),trivial⟩,trivial⟩
          have a7:=AO W;refine⟨Q,fun _=>⟨by omega,B⟩,?_⟩;try conv=>cbv
          refine⟨S,fun _=>⟨by omega,F⟩,?_⟩;try conv=>cbv
          intro ae X;conv=>cbv
          cases ae <;> conv=>cbv
          ·have a8:=AN X;refine⟨p0,fun _=>⟨by omega,A⟩,?_⟩;try conv=>cbv
           refine⟨S,fun _=>⟨by omega,F⟩,?_⟩;try conv=>cbv
           intro O t;conv=>cbv
           cases O <;> conv=>cbv
           ·have M:=AN t;refine BO ?_;refine⟨p0,fun _=>⟨by omega,A⟩,?_⟩;try conv=>cbv
            refine⟨Q,fun _=>⟨by omega,B⟩,?_⟩;try conv=>cbv
            intro n b;conv=>cbv
            cases n <;> conv=>cbv
            ·have g:=BY b;refine BO ?_;exact AD ⟨⟨rfl,congrArg _ (Bool.eq_false_iff.2 fun z=>by have q:=r.1 z;have f:=(Bj p).1 q.pr a;omega),trivial⟩,trivial⟩
            have g:=BZ b;refine⟨R,fun _=>⟨by omega,D⟩,?_⟩;try conv=>cbv
            refine⟨S,fun _=>⟨by omega,F⟩,?_⟩;try conv=>cbv
            intro o d;conv=>cbv
            cases o <;> conv=>cbv
            ·have m:=BY d;refine BO ?_;exact AD ⟨⟨rfl,congrArg _ (Bool.eq_false_iff.2 fun z=>by have q:=r.1 z;have f:=(Bj p).1 q.pr a;omega),trivial⟩,trivial⟩
            have m:=BZ d;refine Cc ?_;conv=>cbv
            refine BO ?_;exact AD ⟨⟨rfl,congrArg _ (r.2 (Et s L J K ((Bj p).2 fun _=>by omega) (fun f=>absurd a f))),trivial⟩,trivial⟩
           have M:=AO t;refine⟨Q,fun _=>⟨by omega,B⟩,?_⟩;try conv=>cbv
           refine⟨R,fun _=>⟨by omega,D⟩,?_⟩;try conv=>cbv
           intro af u;conv=>cbv
           refine BO ?_;refine⟨p0,fun _=>⟨by omega,A⟩,?_⟩;try conv=>cbv
           refine⟨Q,fun _=>⟨by omega,B⟩,?_⟩;try conv=>cbv
           intro n b;conv=>cbv
           cases n <;> conv=>cbv
           ·have g:=BY b;refine BO ?_;exact AD ⟨⟨rfl,congrArg _ (Bool.eq_false_iff.2 fun z=>by have q:=r.1 z;have f:=(Bj p).1 q.pr a;omega),trivial⟩,trivial⟩
           have g:=BZ b;refine⟨R,fun _=>⟨by omega,D⟩,?_⟩;try conv=>cbv
           refine⟨S,fun _=>⟨by omega,F⟩,?_⟩;try conv=>cbv
           intro o d;conv=>cbv
           cases o <;> conv=>cbv
           ·have m:=BY d;refine BO ?_;exact AD ⟨⟨rfl,congrArg _ (Bool.eq_false_iff.2 fun z=>by have q:=r.1 z;have f:=(Bj p).1 q.pr a;omega),trivial⟩,trivial⟩
           have m:=BZ d;intro ag v;conv=>cbv
           refine BO ?_;exact AD ⟨⟨rfl,congrArg _ (by rw[Bool.eq_iff_iff,r];exact⟨fun q=>by have f:=(Bj p).1 q.pr a;rw[v,u,beq_eq_false_iff_ne.2 (by omega)];rfl,fun z=>(Et s L J K ((Bj p).2 fun _=>by rw[v,u] at z;have z:¬Q=R:=(by simpa using z);omega) (fun f=>absurd a f))⟩),trivial⟩,trivial⟩
          have a8:=AO X;refine BO ?_;refine⟨p0,fun _=>⟨by omega,A⟩,?_⟩;try conv=>cbv
          refine⟨Q,fun _=>⟨by omega,B⟩,?_⟩;try conv=>cbv
          intro n b;conv=>cbv
          cases n <;> conv=>cbv
          ·have g:=BY b;refine BO ?_;exact AD ⟨⟨rfl,congrArg _ (Bool.eq_false_iff.2 fun z=>by have q:=r.1 z;have f:=(Bj p).1 q.pr a;omega),trivial⟩,trivial⟩
          have g:=BZ b;refine⟨R,fun _=>⟨by omega,D⟩,?_⟩;try conv=>cbv
          refine⟨S,fun _=>⟨by omega,F⟩,?_⟩;try conv=>cbv
          intro o d;conv=>cbv
          cases o <;> conv=>cbv
          ·have m:=BY d;refine BO ?_;exact AD ⟨⟨rfl,congrArg _ (Bool.eq_false_iff.2 fun z=>by have q:=r.1 z;have f:=(Bj p).1 q.pr a;omega),trivial⟩,trivial⟩
          have m:=BZ d;refine BK ?_;conv=>cbv
          refine BO ?_;exact AD ⟨⟨rfl,congrArg _ (Bool.eq_false_iff.2 fun z=>by have q:=r.1 z;have f:=(Bj p).1 q.pr a;omega),trivial⟩,trivial⟩
         cases aq <;> conv=>cbv
         ·have ao:=AN a2;intro aa T;conv=>cbv
          refine .inr ?_;cases aa <;> conv=>cbv
          ·have a5:=AN T;intro ab U;conv=>cbv
           refine .inr ?_;cases ab <;> conv=>cbv
           ·have a6:=AN U;intro au a1;conv=>cbv
            rw[w];exact⟨_,rfl,rfl,by rw[a1,beq_iff_eq];unfold Cs;omega⟩
           have a6:=AO U;rw[w];exact⟨_,rfl,rfl,by unfold Cs;constructor <;> intro _ <;> first | rfl | omega⟩
          have a5:=AO T;rw[w];exact⟨_,rfl,rfl,by unfold Cs;constructor <;> intro _ <;> first | rfl | omega⟩
         have ao:=AO a2;rw[w];exact⟨_,rfl,rfl,by unfold Cs;constructor <;> intro _ <;> first | rfl | omega⟩
        have aV:=BZ aI;exact AD ⟨⟨rfl,congrArg _ (Bool.eq_false_iff.2 fun z=>by have q:=r.1 z;have f:=q.s1;have h2:=q.s2;rw[<-H] at f h2;first | (have h3:=f rfl;omega) | (have h3:=h2 rfl;omega)),trivial⟩,trivial⟩
       have aS:=AZ aF;refine .inr ?_;obtain⟨aM,ah⟩:=AL (l:=V) (i:=i') (by omega);refine⟨aM,fun _=>⟨by omega,by rw[show (i).toNat=i' by omega];exact ah⟩,?_⟩;try conv=>cbv
       obtain⟨bb,⟨⟨aN,aX⟩,⟨aO,aY⟩⟩,bd,bc⟩:=aM;obtain⟨bx,aL⟩:=xI (FC (.mk bb ((aN,aX),(aO,aY)) bd bc));refine cL (args:= [.agg [.int .i64 bb,.bool aN,.sl .u32 aX,.bool aO,.sl .u32 aY,.str bd,.sl .ex bc]]) hE (YB hN (hV _ _ ah) aL) ⟨⟨rfl,rfl,rfl,rfl,rfl,rfl,rfl,trivial⟩,trivial⟩ ?_;conv=>cbv
       intro b7 aG;conv=>cbv
       cases b7 <;> conv=>cbv
       ·have aT:=BY aG;intro b6 bo;conv=>cbv
        refine AI ?_;refine⟨V.length-(i'+1),?_,?_⟩
        ·omega
        rw[av];exact⟨i'+1,b6,rfl,rfl,⟨⟨by omega⟩,by omega⟩,s,gu hinv ah (by omega),rfl⟩
       have aT:=BZ aG;exact AD ⟨⟨rfl,congrArg _ (Bool.eq_false_iff.2 fun z=>by have q:=r.1 z;have f:=q.ve _ _ ah;omega),trivial⟩,trivial⟩
      have ay:=CO aE;exact AD ⟨⟨rfl,congrArg _ (Bool.eq_false_iff.2 fun z=>by have q:=r.1 z;have f:=q.wc;rw[<-an] at f;exact absurd f (by rw[ay];decide)),trivial⟩,trivial⟩
     have ax:=CO aD;exact AD ⟨⟨rfl,congrArg _ (Bool.eq_false_iff.2 fun z=>by have q:=r.1 z;have f:=q.wp;rw[<-al] at f;exact absurd f (by rw[ax];decide)),trivial⟩,trivial⟩
    have aR:=BZ aC;exact AD ⟨⟨rfl,congrArg _ (Bool.eq_false_iff.2 fun z=>by have q:=r.1 z;have f:=q.nv;rw[<-H] at f;have f:(V.length:Int)=rc:=f;omega),trivial⟩,trivial⟩
   have aQ:=BZ aB;exact AD ⟨⟨rfl,congrArg _ (Bool.eq_false_iff.2 fun z=>by have q:=r.1 z;have f:=q.nc;rw[<-H] at f;have f:(C.length:Int)=rb:=f;omega),trivial⟩,trivial⟩
  have aP:=BZ aA;exact AD ⟨⟨rfl,congrArg _ (Bool.eq_false_iff.2 fun z=>by have q:=r.1 z;have f:=q.np;rw[<-H] at f;have f:(P.length:Int)=ra:=f;omega),trivial⟩,trivial⟩
 have aw:=CO az;exact AD ⟨⟨rfl,congrArg _ (Bool.eq_false_iff.2 fun z=>by have q:=r.1 z;have f:=q.ok;rw[<-ak] at f;exact absurd f (by rw[aw];decide)),trivial⟩,trivial⟩
end Go.Abs
namespace Go.Abs
open Go.RowKit
def CP (t:Int):List Int->Nat->List Int
 | [],_=>[]
 | p::r,i=>if p=t then (i:Int)::CP t r (i+1) else CP t r (i+1)
variable {c:Bool} {i i0:Nat} {kd sd x y:Int}
theorem VK {t:Int}:∀(l:List Int) (i:Nat),CP t (l++[x]) i=CP t l i++(if x=t then [((i+l.length:Nat):Int)] else [])
 | [],i=>by simp[CP]
 | p::r,i=>by
  rw[List.cons_append,CP,CP,VK r (i+1),List.length_cons,show i+1+r.length=i+(r.length+1) by omega]
  split <;> rfl
theorem VJ (t:Int):∀(l:List Int) (i:Nat),(CP t l i).length<=l.length
 | [],_=>Nat.le_refl _
 | p::r,i=>by
  have:=VJ t r (i+1);rw[CP];split <;> simp <;> omega
theorem VL {t:Int} {l:List Int} (h:l[i]? =some x):CP t (l.take (i+1)) 0=CP t (l.take i) 0++(if x=t then [(i:Int)] else []):=by
 rw[List.take_add_one,h];have:=VK (t:=t) (x:=x) (l.take i) 0;rw[show (some x).toList=[x] from rfl,this,List.length_take,Nat.min_eq_left (by have:=Dm h;omega),Nat.zero_add]
def DQ (AU C:List Int) (t:Int) (i:Nat):Bool:=AU.getD (C.getD i 0).toNat 0==t
def Bv (AU C:List Int) (i:Nat):Int:=AU.getD (C.getD i 0).toNat 0
theorem Je {n:Int} {l:List Int} (h:DE n l=true) (a:l[i]? =some x):0<=x/\x<n:=of_decide_eq_true (List.all_eq_true.1 h x (List.mem_of_getElem? a))
theorem Lm {AU C:List Int} (a:C[i]? =some x) (b:AU[x.toNat]? =some y):Bv AU C i=y:=by
 unfold Bv;rw[List.getD_eq_getElem?_getD,List.getD_eq_getElem?_getD,a];show (AU[x.toNat]?).getD 0=y;rw[b];rfl
def hasB (P:List Int) (t:Int) (i:Nat):Bool:=(P.getD i 0==t)||(P.getD (i+1) 0==t)
def BH (P:List Int) (t:Int):Bool:=P.any fun p=>p==t
def Bn (t:Int):List Int->Nat->Int
 | [],_=> -1
 | p::r,i=>if t=p then (i:Int) else Bn t r (i+1)
theorem UI {t:Int} {l:List Int} (h:l[i]? =some x):Bn t (l.drop i) i=if t=x then (i:Int) else Bn t (l.drop (i+1)) (i+1):=by
 have a:=Dm h;rw[List.drop_eq_getElem_cons a,Bn];rw[List.getElem?_eq_getElem a] at h;rw[Option.some.inj h]
theorem UJ (t:Int):∀(l:List Int) (i:Nat),decide (Bn t l i >= 0)=BH l t
 | [],i=>rfl
 | p::r,i=>by
  rw[Bn];unfold BH;rw[List.any_cons]
  by_cases e:t=p
  ·rw[if_pos e,e];simp
  rw[if_neg e,UJ t r (i+1),beq_eq_false_iff_ne.2 (Ne.symm e)];rfl
theorem Nk {α:Type} {p:α->Bool} {X:List α} {x:α} (h:X[i]? =some x):(X.drop i).any p=(p x||(X.drop (i+1)).any p):=by
 have a:=Dm h;rw[List.drop_eq_getElem_cons a,List.any_cons];rw[List.getElem?_eq_getElem a] at h;rw[Option.some.inj h]
theorem KL {l:List Int} (h:l[i]? =some x):l.getD i 0=x:=by rw[List.getD_eq_getElem?_getD,h];rfl
theorem VM {P C:List Int} {V:List Ex} {t:Int} {R:List Int} (O:P.length<=1000000) (hR:R=CP t P 0):CF 37 [.agg [.int .i64 kd,.sl .i64 P,.sl .i64 C,.sl .ex V,.int .i64 sd],.one (.int .i64 t)] (.one (.sl .i64 R)):=by
 refine CA Tryz.func37 (by kernel_rfl) rfl fun E N=>?_
 conv=>cbv
 rintro u ⟨G,f10⟩;conv=>cbv
 refine .inr ?_;obtain⟨F,b⟩:=xJ fun vs B k=>∃(o:List Int) (m i':Nat) (i:Int),vs=[.one (.int .i64 t),.one (.AQ .i64 5 0 0 m),.one (.sl .i64 P),.one (.int .i64 u),.one (.int .i64 i)]/\B=[.arr 0 .i64 o]/\(AR i i'/\i'<=P.length/\m=o.length)/\o=CP t (P.take i') 0/\k=P.length-i'
 refine⟨[(5,.i64,true)],[1,5,9,10,11],[5],F,⟨P.length-0,by rw[b];exact⟨[],0,0,0,rfl,rfl,⟨Ak 0,by omega,rfl⟩,rfl,rfl⟩⟩,?_⟩;intro vs B L D;rw[b] at D;obtain⟨o,m,i',i,rfl,rfl,⟨H,I,hm⟩,hinv,J⟩:=D;conv=>cbv
 have M:=H.eq;have K:o.length<=P.length:=by rw[hinv];exact Nat.le_trans (VJ _ _ _) (by rw[List.length_take];omega)
 intro v j;conv=>cbv
 cases v <;> conv=>cbv
 ·have s:=AY j;exact AD ⟨⟨rfl,.inl ⟨_,rfl,by omega,congrArg _ (by rw[hR,show P=P.take i' from (List.take_of_length_le (by omega)).symm,<-hinv,List.drop_zero,hm,List.take_length])⟩,trivial⟩,trivial⟩
 have s:=AZ j;refine .inr ?_;obtain⟨A,a⟩:=AL (l:=P) (i:=i') (by omega);refine⟨A,fun _=>⟨by omega,by rw[show (i).toNat=i' by omega];exact a⟩,?_⟩;try conv=>cbv
 intro w n;conv=>cbv
 refine .inr ?_;cases w <;> conv=>cbv
 ·have f:=AN n;intro h r;conv=>cbv
  refine AI ?_;refine⟨P.length-(i'+1),?_,?_⟩
  ·omega
  rw[b];exact⟨o,m,i'+1,h,rfl,rfl,⟨⟨by omega⟩,by omega,hm⟩,by rw[hinv,VL a,if_neg f,List.append_nil],rfl⟩
 have f:=AO n;refine⟨[i],fun _=>⟨rfl,by decide,rfl,⟨rfl,t1,trivial⟩⟩,.inr ?_⟩;try conv=>cbv
 refine .inl ⟨[i],fun _=>⟨rfl,by (first | rfl | omega),rfl,by show (o.length+1)*8<=140737488355328;(try simp only[List.length_take,List.length_drop]);omega⟩,?_⟩;intro (g:List (el .i64)) z d;have p:g=(o:List (el .i64))++([i]:List (el .i64)):=d.1;have q:z=List.length (α:=(el .i64)) g:=d.2;conv=>cbv
 intro h r;conv=>cbv
 refine AI ?_;refine⟨P.length-(i'+1),?_,?_⟩
 ·omega
 rw[b];exact⟨g,_,i'+1,h,rfl,rfl,⟨⟨by omega⟩,by omega,q⟩,by rw[p,hinv,VL a,if_pos f,show i=(i':Int) by omega],rfl⟩
theorem MG {P C:List Int} {V:List Ex} {AU:List Int} {i t:Int} (m:AR i i0) (n:i0<C.length) (h:DE (AU.length:Nat) C=true) (j:c=DQ AU C t i0):CF 38 [.one (.int .i64 i),.one (.BW (.sl .i64) AU 0),.one (.BW (.pr .i64 (.pr (.sl .i64) (.pr (.sl .i64) (.pr (.sl .ex) .i64)))) (kd,P,C,V,sd) 0),.one (.BW .i64 t 0)] (.one (.bool c)):=by
 have p:=m.eq;refine CA Tryz.func38 (by kernel_rfl) rfl fun E q=>?_
 conv=>cbv
 obtain⟨d,a⟩:=AL (l:=(kd,P,C,V,sd).2.2.1) (i:=i0) (by omega);refine⟨d,fun _=>⟨by omega,by rw[show (i).toNat=i0 by omega];exact a⟩,?_⟩;try conv=>cbv
 have hw:=Je h a;obtain⟨g,b⟩:=AL (l:=AU) (i:=(d).toNat) (by omega);refine⟨g,fun _=>⟨by omega,b⟩,?_⟩;try conv=>cbv
 intro o f;conv=>cbv
 refine g2 rfl ?_;have e1:=Lm a b;exact AD ⟨⟨rfl,congrArg _ (by rw[j,f];show (Bv AU C i0==t)=_;rw[e1]),trivial⟩,trivial⟩
theorem HS {P C:List Int} {V:List Ex} {AU:List Int} {i c:Int} (j:AR i i0) (m:i0<C.length) (g:DE (AU.length:Nat) C=true) (h:c=Bv AU C i0):CF 43 [.agg [.int .i64 kd,.sl .i64 P,.sl .i64 C,.sl .ex V,.int .i64 sd],.one (.sl .i64 AU),.one (.int .i64 i)] (.one (.int .i64 c)):=by
 have n:=j.eq;refine CA Tryz.func43 (by kernel_rfl) rfl fun E o=>?_
 conv=>cbv
 obtain⟨d,a⟩:=AL (l:=C) (i:=i0) (by omega);refine⟨d,fun _=>⟨by omega,by rw[show (i).toNat=i0 by omega];exact a⟩,?_⟩;try conv=>cbv
 have hw:=Je g a;obtain⟨f,b⟩:=AL (l:=AU) (i:=(d).toNat) (by omega);refine⟨f,fun _=>⟨by omega,b⟩,?_⟩;try conv=>cbv
 have e1:=Lm a b;exact AD ⟨⟨rfl,congrArg _ (h.trans e1),trivial⟩,trivial⟩
theorem Oa {P C:List Int} {V:List Ex} {t:Int} (u:c=BH P t):CF 42 [.agg [.int .i64 kd,.sl .i64 P,.sl .i64 C,.sl .ex V,.int .i64 sd],.one (.int .i64 t)] (.one (.bool c)):=by
 refine CA Tryz.func42 (by kernel_rfl) rfl fun E F=>?_
 conv=>cbv
 refine .inr ?_;obtain⟨r,b⟩:=xJ fun vs p k=>∃(i':Nat) (i:Int),vs=[.one (.int .i64 t),.one (.Ae 2 0 0),.one (.int .i64 i)]/\p=[.var 0 [.int .i64 kd,.sl .i64 P,.sl .i64 C,.sl .ex V,.int .i64 sd]]/\(AR i i'/\i'<=P.length)/\c=BH (P.drop i') t/\k=P.length-i'
 refine⟨[],[1,2,5],[2],r,⟨P.length-0,by rw[b];exact⟨0,0,rfl,rfl,⟨Ak 0,by omega⟩,u,rfl⟩⟩,?_⟩;intro vs p A q;rw[b] at q;obtain⟨i',i,rfl,rfl,⟨v,w⟩,hinv,z⟩:=q;conv=>cbv
 have D:=v.eq;rintro G ⟨B,f9⟩;conv=>cbv
 intro j f;conv=>cbv
 cases j <;> conv=>cbv
 ·have h:=AY f;exact AD ⟨⟨rfl,congrArg _ (by rw[hinv,List.drop_eq_nil_of_le (by omega)];rfl),trivial⟩,trivial⟩
 have h:=AZ f;refine .inr ?_;obtain⟨o,a⟩:=AL (l:=P) (i:=i') (by omega);refine⟨o,fun _=>⟨by omega,by rw[show (i).toNat=i' by omega];exact a⟩,?_⟩;try conv=>cbv
 intro n g;conv=>cbv
 cases n <;> conv=>cbv
 ·have d:=AN g;intro m s;conv=>cbv
  refine AI ?_;refine⟨P.length-(i'+1),?_,?_⟩
  ·omega
  rw[b];exact⟨i'+1,m,rfl,rfl,⟨⟨by omega⟩,by omega⟩,hinv.trans ((Nk a).trans (by rw[beq_eq_false_iff_ne.2 d];rfl)),rfl⟩
 have d:=AO g;exact AD ⟨⟨rfl,congrArg _ (by rw[hinv];exact (Nk a).trans (by rw[beq_iff_eq.2 d];rfl)),trivial⟩,trivial⟩
theorem OV {P C:List Int} {V:List Ex} {i t:Int} (q:AR i i0) (r:i0+1<P.length) (w:P.length<=1000000) (o:c=hasB P t i0):CF 103 [.agg [.int .i64 kd,.sl .i64 P,.sl .i64 C,.sl .ex V,.int .i64 sd],.one (.int .i64 i),.one (.int .i64 t)] (.one (.bool c)):=by
 have u:=q.eq;refine CA Tryz.func103 (by kernel_rfl) rfl fun E v=>?_
 conv=>cbv
 obtain⟨n,a⟩:=AL (l:=P) (i:=i0) (by omega);refine⟨n,fun _=>⟨by omega,by rw[show (i).toNat=i0 by omega];exact a⟩,?_⟩;try conv=>cbv
 intro m f;conv=>cbv
 cases m <;> conv=>cbv
 ·have d:=AN f;intro g p;conv=>cbv
  refine AI ?_;obtain⟨h,b⟩:=AL (l:=P) (i:=(g).toNat) (by omega);refine⟨h,fun _=>⟨by omega,b⟩,?_⟩;try conv=>cbv
  intro s j;conv=>cbv
  exact AD ⟨⟨rfl,congrArg _ (by rw[o];unfold hasB;rw[KL a,beq_eq_false_iff_ne.2 d,KL (show P[i0+1]? =some h by rw[<-show g.toNat=i0+1 by omega];exact b),j];rfl),trivial⟩,trivial⟩
 have d:=AO f;exact AD ⟨⟨rfl,congrArg _ (by rw[o];unfold hasB;rw[KL a,beq_iff_eq.2 d];rfl),trivial⟩,trivial⟩
theorem Mi {P C:List Int} {V:List Ex} {t c:Int} (j:P.length=4) (f:c=if hasB P t 0=true/\hasB P t 2=true then y else if hasB P t 0=true\/hasB P t 2=true then x else 0):CF 102 [.agg [.int .i64 kd,.sl .i64 P,.sl .i64 C,.sl .ex V,.int .i64 sd],.one (.int .i64 t),.one (.int .i64 x),.one (.int .i64 y)] (.one (.int .i64 c)):=by
 refine CA Tryz.func102 (by kernel_rfl) rfl fun E h=>?_
 conv=>cbv
 obtain⟨g,a⟩:=xB (hasB P t 0);refine AB h (OV (Ak 0) (by omega) (by omega) a) ?_;conv=>cbv
 obtain⟨d,b⟩:=xB (hasB P t 2);refine AB h (OV (Ak 2) (by omega) (by omega) b) ?_;conv=>cbv
 refine g2 rfl ?_;cases g <;> conv=>cbv
 ·cases d <;> conv=>cbv
  ·exact AD ⟨⟨rfl,congrArg _ (by rw[f,<-a,<-b];simp),trivial⟩,trivial⟩
  exact AD ⟨⟨rfl,congrArg _ (by rw[f,<-a,<-b];simp),trivial⟩,trivial⟩
 cases d <;> conv=>cbv
 ·exact AD ⟨⟨rfl,congrArg _ (by rw[f,<-a,<-b];simp),trivial⟩,trivial⟩
 exact AD ⟨⟨rfl,congrArg _ (by rw[f,<-a,<-b];simp),trivial⟩,trivial⟩
theorem QV {X:List Int} {t c:Int} (r:c=Bn t X 0):CF 40 [.one (.sl .i64 X),.one (.int .i64 t)] (.one (.int .i64 c)):=by
 refine CA Tryz.func40 (by kernel_rfl) rfl fun E F=>?_
 conv=>cbv
 rintro A ⟨C,f7⟩;conv=>cbv
 refine .inr ?_;obtain⟨o,b⟩:=xJ fun vs p k=>∃(i':Nat) (i:Int),vs=[.one (.sl .i64 X),.one (.int .i64 t),.one (.int .i64 A),.one (.int .i64 i)]/\(AR i i'/\i'<=X.length)/\c=Bn t (X.drop i') i'/\k=X.length-i'
 refine⟨[],[0,1,7,8],[],o,⟨X.length-0,by rw[b];exact⟨0,0,rfl,⟨Ak 0,by omega⟩,r,rfl⟩⟩,?_⟩;intro vs p z n;rw[b] at n;obtain⟨i',i,rfl,⟨s,u⟩,hinv,v⟩:=n;conv=>cbv
 have D:=s.eq;intro B m;conv=>cbv
 cases B <;> conv=>cbv
 ·have w:=AY m;exact AD ⟨⟨rfl,congrArg _ (by rw[hinv,List.drop_eq_nil_of_le (by omega)];rfl),trivial⟩,trivial⟩
 have w:=AZ m;refine .inr ?_;obtain⟨j,a⟩:=AL (l:=X) (i:=i') (by omega);refine⟨j,fun _=>⟨by omega,by rw[show (i).toNat=i' by omega];exact a⟩,?_⟩;try conv=>cbv
 intro g f;conv=>cbv
 cases g <;> conv=>cbv
 ·have d:=AN f;intro h q;conv=>cbv
  refine AI ?_;refine⟨X.length-(i'+1),?_,?_⟩
  ·omega
  rw[b];exact⟨i'+1,h,rfl,⟨⟨by omega⟩,by omega⟩,hinv.trans ((UI a).trans (if_neg d)),rfl⟩
 have d:=AO f;exact AD ⟨⟨rfl,congrArg _ (by rw[hinv,UI a,if_pos d];omega),trivial⟩,trivial⟩
theorem QP {X:List Int} {t:Int} (f:c=BH X t):CF 41 [.one (.sl .i64 X),.one (.int .i64 t)] (.one (.bool c)):=by
 refine CA Tryz.func41 (by kernel_rfl) rfl fun E d=>?_
 conv=>cbv
 obtain⟨h,a⟩:=xI (Bn t X 0);refine AB d (QV a) ?_;conv=>cbv
 intro g b;conv=>cbv
 exact AD ⟨⟨rfl,congrArg _ (by rw[f,b,a,UJ]),trivial⟩,trivial⟩
end Go.Abs
