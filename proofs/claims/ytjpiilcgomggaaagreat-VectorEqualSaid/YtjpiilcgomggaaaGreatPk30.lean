/- Part 31 of a proof. Conditions: each theorem's own. -/
import Derived.Test.YtjpiilcgomggaaaGreatPk26
set_option linter.all false
set_option maxHeartbeats 8000000
open Go.Proofs
namespace Go.Abs
open Go.RowKit
def OI (f:FuncId) (R:Nat) (u:List (List Rat)):Prop:=∀{T:List LR} {A:LR} {s:Nat} {x:Re} {c:Int},T=tw u->A=em u x->El u s x->VV u.length R s<=60000000000000->c=Ao x->
 CF f [.one (.sl (.sl AA) T),.one (.sl AA A)] (.one (.int .i64 c))
variable {A:LR} {R s:Nat} {T:List LR} {c:Int} {u:List (List Rat)} {x:Re}
theorem Z8 {p:Rat} (hT:T=[]) (hA:A=[rp p]) (n:c=C1 p):CF 194 [.one (.sl (.sl AA) T),.one (.sl AA A)] (.one (.int .i64 c)):=by
 refine AE Tryz.func194 (by kernel_rfl) rfl fun E m=>?_
 conv=>cbv
 rintro o ⟨g,f14⟩;conv=>cbv
 intro h d;conv=>cbv
 cases h <;> conv=>cbv
 ·have f:=Ac d;exact absurd (by rw[g,hT];rfl) f
 have f:=Ad d;have k:A.length=1:=by rw[hA];rfl
 obtain⟨j,b⟩:=AF (l:=A) (i:=0) (by omega);refine⟨j,fun _=>⟨by omega,b⟩,?_⟩;try conv=>cbv
 obtain⟨q,a⟩:=xI (C1 p);refine cL m (JI (C8 hA b) a) ⟨t4,trivial⟩ ?_;try conv=>cbv
 exact fA ⟨⟨rfl,congrArg _ (n.trans a.symm),trivial⟩,trivial⟩ rfl (by simp)
theorem Z9 {r:List Rat} (h:AU R (r::u)) (Z:OI 194 R u) (hT:T=tw (r::u)) (hA:A=em (r::u) x) (hx:El (r::u) s x) (hs:VV (r::u).length R s<=60000000000000) (Y:c=Ao x):CF 194 [.one (.sl (.sl AA) T),.one (.sl AA A)] (.one (.int .i64 c)):=by
 obtain⟨p,q,j,o,m⟩:=El.parts h.red hx;have ax:T.length=u.length+1:=by rw[hT,Au];rfl
 have aw:A.length=2^u.length+2^u.length:=by rw[hA,Ap hx.mem,BE]
 have az:VV (r::u).length R s=VV u.length R (2*s+2*EE u.length R+R+1):=rfl;have aA:=Dn u.length R (2*s+2*EE u.length R+R+1);have ay:=FQ u.length R (s:=s) (t:=2*s+2*EE u.length R+R+1) (by omega);have hN:=El.norm h o.mem m.mem (j ▸ hx);have U:=El.Br h;have n:=SH h.red;have a6:=Bk h.red;refine AE Tryz.func194 (by kernel_rfl) rfl fun E C=>?_
 conv=>cbv
 rintro aE ⟨ao,f14⟩;conv=>cbv
 intro ab I;conv=>cbv
 cases ab <;> conv=>cbv
 ·have V:=Ac I;rintro aF ⟨aq,f21⟩;conv=>cbv
  intro W au;conv=>cbv
  refine g1 (by omega) ?_;rintro aG ⟨ar,f24⟩;conv=>cbv
  intro aH av;conv=>cbv
  refine g2 ⟨by omega,by omega,i64 (by omega)⟩ ?_;intro aB ak;conv=>cbv
  refine g2 (by omega) ?_;intro a2 ai;conv=>cbv
  intro a7 O;conv=>cbv
  intro aC al;conv=>cbv
  refine g2 (by omega) ?_;intro a5 aj;conv=>cbv
  intro a8 P;conv=>cbv
  intro aD S;conv=>cbv
  refine g2 (by omega) ?_;rintro a1 an ⟨ah,N⟩;conv=>cbv
  intro aa Q;conv=>cbv
  refine g2 rfl ?_;have a:a7=tw u:=by rw[O,List.drop_zero,show a2=T.length-1 by omega,hT,CO]
  have f:a8=em u p:=by rw[P,List.drop_zero,show a5=A.length/2 by omega,hA,BY h.red o.mem m.mem j]
  have g:aa=em u q:=by rw[Q,show a1=A.length/2 by omega,N,S,List.take_length,hA,BL h.red o.mem m.mem j]
  obtain⟨aJ,b⟩:=xI (Ao p);refine cL C (Z a f o (by omega) b) t2 ?_;try conv=>cbv
  obtain⟨aK,d⟩:=xI (Ao q);refine cL C (Z a g m (by omega) d) t2 ?_;try conv=>cbv
  refine .inr ?_;intro ad J;conv=>cbv
  cases ad <;> conv=>cbv
  ·have F:=Ac J;intro ae K;conv=>cbv
   cases ae <;> conv=>cbv
   ·have G:=Ac K;intro af L;conv=>cbv
    cases af <;> conv=>cbv
    ·have H:=Ac L;obtain⟨aL,v⟩:=xR (em u (p*p));refine cL C (E5 h.tail a f f o o (by omega) v) t3 ?_;try conv=>cbv
     obtain⟨X,B⟩:=AF (l:=T) (i:=(W).toNat) (by omega);refine⟨X,fun _=>⟨by omega,B⟩,?_⟩;try conv=>cbv
     have D:X=AW r:=by have:=DY r u;rw[<-hT,show T.length-1=W.toNat by omega,B] at this;exact Option.some.inj this
     obtain⟨aM,w⟩:=xR (em u (q*q));refine cL C (E5 h.tail a g g m m (by omega) w) t3 ?_;try conv=>cbv
     obtain⟨aN,y⟩:=xR (em u (AI u r*(q*q)));refine cL C (E5 h.tail a (D.trans (Cj h.red)) w U (m.mul h.tail m) (by omega) y) t3 ?_;try conv=>cbv
     obtain⟨aO,z⟩:=xR (em u (p*p-AI u r*(q*q)));refine cL C (JK h.tail a v y (o.mul h.tail o) (U.mul h.tail (m.mul h.tail m)) (by omega) (by omega) z) t3 ?_;try conv=>cbv
     refine g2 rfl ?_;obtain⟨ag,k⟩:=xI (Ao (p*p-q*q*AI u r));refine cL (r:= .one (.int .i64 ag)) C (Z a (z.trans (by congr 1;clear Z;grind)) hN (by omega) k) t2 ?_;try conv=>cbv
     intro aI M;conv=>cbv
     refine⟨fun _=>by rw[M,b,k];exact SX _ _,?_⟩;exact fA ⟨⟨rfl,congrArg _ (by rw[Y,M,b,k,j];exact Se n a6 (fun e=>H (by rw[b,e];exact Ew)) (fun e=>F (by rw[d,e];exact Ew)) (by rw[<-b,<-d];exact G)),trivial⟩,trivial⟩ rfl (by simp)
    have H:=Ad L;exact fA ⟨⟨rfl,congrArg _ (by rw[Y,d,j];exact Sf n (I6.1 (b ▸ H))),trivial⟩,trivial⟩ rfl (by simp)
   have G:=Ad K;exact fA ⟨⟨rfl,congrArg _ (by rw[Y,b,j];exact Kv n (.inr (by rw[<-b,<-d];exact G))),trivial⟩,trivial⟩ rfl (by simp)
  have F:=Ad J;exact fA ⟨⟨rfl,congrArg _ (by rw[Y,b,j];exact Kv n (.inl (I6.1 (d ▸ F)))),trivial⟩,trivial⟩ rfl (by simp)
 have V:=Ad I;exact absurd V (by omega)
theorem TS (h:AU R u):OI 194 R u:=by
 induction u with
 | nil=>
  intro T A s x c hT hA hx b a;obtain⟨p,rfl⟩:=Bb.1 hx.mem;rw[Cg] at hA;exact Z8 hT hA (a.trans (SZ p))
 | cons r u d=>
  intro T A s x c hT hA hx b a;exact Z9 h (d h.tail) hT hA hx b a
theorem UG (h:AU R u) (hT:T=tw u) (hs:VV u.length R R<=60000000000000):CF 226 [.one (.sl (.sl AA) T)] (.one (.bool true)):=by
 have Y:T.length=u.length:=by rw[hT,Au]
 have v:El u 0 0:=El.rat h.red EK;refine AE Tryz.func226 (by kernel_rfl) rfl fun E z=>?_
 conv=>cbv
 obtain⟨ab,ad,a8,aa,w⟩:=A9 (((0:Int):Rat));refine cL z (EZ (by omega) rfl w) t1 ?_;try conv=>cbv
 obtain⟨w8,t⟩:=xR (em u (0));refine cL z (GY h hT w ⟨by decide +kernel,by decide +kernel⟩ t) ⟨rfl,t4,trivial⟩ ?_;try conv=>cbv
 refine cL (r:= .one (.bool true)) z (EX hT h.Dl t (v.BC (by omega)) (by rw[v.len,List.length_reverse];exact (decide_eq_true rfl).symm)) t2 ?_;try conv=>cbv
 intro a7 C;cases C.trans (rfl:_=false);conv=>cbv
 intro H d;have W:=d.eq;have f12:=d.le;conv=>cbv
 refine .inr ?_;obtain⟨U,f⟩:=xJ fun S V k=>∃(i':Nat) (L i:Int),S=[.one (.sl (.sl AA) T),.one (.sl (.sl AA) T),.one (.int .i64 L),.one (.int .i64 i)]/\(Bu L T.length/\AK i i'/\i'<=T.length)/\k=T.length-i'
 refine⟨[0,11,12,13],[],U,⟨T.length-0,by rw[f];exact⟨0,H,0,rfl,⟨d,Ai 0,by omega⟩,rfl⟩⟩,?_⟩;intro S V a5 P;rw[f] at P;obtain⟨i',L,i,rfl,⟨N,Z,a1⟩,a2⟩:=P;conv=>cbv
 have eL:=N.eq;have ei:=Z.eq;intro I j;conv=>cbv
 cases I <;> conv=>cbv
 ·have F:=AR j;exact fA ⟨t2,trivial⟩ rfl (by simp)
 have F:=AS j;refine .inr ?_;obtain⟨y,b⟩:=AF (l:=T) (i:=i') (by omega);refine⟨y,fun _=>⟨by omega,by rw[show (i).toNat=i' by omega];exact b⟩,?_⟩;try conv=>cbv
 obtain⟨r,q,p⟩:=GP (u:=u) (i:=i') (by omega);have o:AQ (r::pre u i'):=q ▸ (h.pre (i'+1)).red;have D:y=AW r:=by rw[<-hT,b] at p;exact Option.some.inj p
 intro a6 Q;conv=>cbv
 refine g2 (by omega) ?_;intro B O;conv=>cbv
 intro G n;conv=>cbv
 have g:G=tw (pre u i'):=by rw[n,List.drop_zero,show B=i' by omega,hT,Fi]
 obtain⟨M,a⟩:=xI (Ao (AI (pre u i') r));refine cL (r:= .one (.int .i64 M)) z (TS (h.pre i') g (D.trans (Cj o)) (El.Br (q ▸ h.pre (i'+1))) (by rw[GO (by omega)];exact Nat.le_trans (H9 (by omega) R R) hs) a) t2 ?_;try conv=>cbv
 intro J m;conv=>cbv
 cases J <;> conv=>cbv
 ·have x:=Hd m;intro K X;conv=>cbv
  refine g1 (by omega) ?_;refine⟨T.length-(i'+1),?_,?_⟩
  ·omega
  rw[f];exact⟨i'+1,L,K,rfl,⟨N,⟨by omega⟩,by omega⟩,rfl⟩
 have x:=He m;exact absurd x (by rw[a,Ev o.2.2.1];omega)
theorem Wx {L:List LR} (h:AU R u) (hT:T=tw u) (I:VV u.length R R<=60000000000000) (D:∀l∈L,∃x,l=em u x/\El u s x) (n:s<=60000000000000):CF 193 [.one (.sl (.sl AA) T),.one (.sl (.sl AA) L)] (.one (.bool true)):=by
 refine AE Tryz.func193 (by kernel_rfl) rfl fun E v=>?_
 conv=>cbv
 intro M j;have N:=j.eq;have f8:=j.le;conv=>cbv
 refine .inr ?_;obtain⟨z,b⟩:=xJ fun y B k=>∃(i':Nat) (m i:Int),y=[.one (.sl (.sl AA) T),.one (.sl (.sl AA) L),.one (.int .i64 m),.one (.int .i64 i)]/\(Bu m L.length/\AK i i'/\i'<=L.length)/\k=L.length-i'
 refine⟨[0,7,8,9],[],z,⟨L.length-0,by rw[b];exact⟨0,M,0,rfl,⟨j,Ai 0,by omega⟩,rfl⟩⟩,?_⟩;intro y B J w;rw[b] at w;obtain⟨i',m,i,rfl,⟨hm,F,G⟩,H⟩:=w;conv=>cbv
 have em:=hm.eq;have O:=F.eq;intro q d;conv=>cbv
 cases q <;> conv=>cbv
 ·have p:=AR d;refine cL v (UG h hT I) t1 ?_;try conv=>cbv
  exact fA ⟨t2,trivial⟩ rfl (by simp)
 have p:=AS d;refine .inr ?_;obtain⟨f,a⟩:=AF (l:=L) (i:=i') (by omega);refine⟨f,fun _=>⟨by omega,by rw[show (i).toNat=i' by omega];exact a⟩,?_⟩;try conv=>cbv
 obtain⟨x,o,hx⟩:=D f (List.mem_of_getElem? a);refine cL (r:= .one (.bool true)) v (EX hT h.Dl o (hx.BC n) (by rw[hx.len,List.length_reverse];exact (decide_eq_true rfl).symm)) t2 ?_;try conv=>cbv
 intro K g;cases g.trans (rfl:_=false);conv=>cbv
 intro t C;conv=>cbv
 refine g1 (by omega) ?_;refine⟨L.length-(i'+1),?_,?_⟩
 ·omega
 rw[b];exact⟨i'+1,m,t,rfl,⟨hm,⟨by omega⟩,by omega⟩,rfl⟩
theorem G4 (h:AU R u) (hT:T=tw u) (hA:A=em u x) (hx:El u s x) (i:VV u.length R s<=60000000000000) (hR:VV u.length R R<=60000000000000) (d:c=Ao x):CF 146 [.one (.sl (.sl AA) T),.one (.sl AA A)] (.one (.int .i64 c)):=by
 have f:=Dn u.length R s;refine AE Tryz.func146 (by kernel_rfl) rfl fun E a=>?_
 conv=>cbv
 refine⟨[A],fun _=>⟨rfl,by decide,rfl,⟨rfl,by first | exact t1 | exact t2 | exact t4 | simp[Ae,Ak,cells],trivial⟩⟩,.inr ?_⟩;try conv=>cbv
 refine cL a (Wx h hT hR (fun l g=>⟨x,(List.mem_singleton.1 g).trans hA,hx⟩) (by omega)) t2 ?_;try conv=>cbv
 intro j b;cases b.trans (rfl:_=false);conv=>cbv
 refine cL a (TS h hT hA hx i d) t2 ?_;try conv=>cbv
 exact fA ⟨t2,trivial⟩ rfl (by simp)
end Go.Abs
