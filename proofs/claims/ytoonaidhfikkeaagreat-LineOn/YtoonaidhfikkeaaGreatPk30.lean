/- Part 31 of a proof. Conditions: each theorem's own. -/
import Derived.Test.YtoonaidhfikkeaaGreatPk26
set_option linter.all false
set_option maxHeartbeats 8000000
open Go.Proofs
namespace Go.Abs
open Go.RowKit
def OQ (f:FuncId) (R:Nat) (u:List (List Rat)):Prop:=∀{T:List LR} {A:LR} {s:Nat} {x:Re} {c:Int},T=tw u->A=em u x->El u s x->VV u.length R s<=60000000000000->c=At x->
 CF f [.one (.sl (.sl AA) T),.one (.sl AA A)] (.one (.int .i64 c))
variable {A:LR} {R s:Nat} {T:List LR} {c:Int} {u:List (List Rat)} {x:Re}
theorem aG {p:Rat} (o:T=[]) (k:A=[rp p]) (q:c=C0 p):CF 169 [.one (.sl (.sl AA) T),.one (.sl AA A)] (.one (.int .i64 c)):=by
 refine AE Tryz.func169 (by kernel_rfl) rfl fun E n=>?_
 conv=>cbv
 rintro r ⟨g,f14⟩;conv=>cbv
 intro h d;conv=>cbv
 cases h <;> conv=>cbv
 ·have f:=Ab d;exact absurd (by rw[g,o];rfl) f
 have f:=Ad d;have m:A.length=1:=by rw[k];rfl
 obtain⟨j,b⟩:=AG (l:=A) (i:=0) (by omega);refine⟨j,fun _=>⟨by omega,b⟩,?_⟩;try conv=>cbv
 obtain⟨t,a⟩:=xI (C0 p);refine cL n (JH (C8 k b) a) ⟨t4,trivial⟩ ?_;try conv=>cbv
 exact fA ⟨⟨rfl,congrArg _ (q.trans a.symm),trivial⟩,trivial⟩ rfl (by simp)
theorem aH {r:List Rat} (h:AU R (r::u)) (Z:OQ 169 R u) (hT:T=tw (r::u)) (hA:A=em (r::u) x) (hx:El (r::u) s x) (hs:VV (r::u).length R s<=60000000000000) (Y:c=At x):CF 169 [.one (.sl (.sl AA) T),.one (.sl AA A)] (.one (.int .i64 c)):=by
 obtain⟨p,q,j,o,m⟩:=El.parts h.red hx;have ax:T.length=u.length+1:=by rw[hT,Ay];rfl
 have aw:A.length=2^u.length+2^u.length:=by rw[hA,Ao hx.mem,BI]
 have az:VV (r::u).length R s=VV u.length R (2*s+2*EE u.length R+R+1):=rfl;have aA:=Du u.length R (2*s+2*EE u.length R+R+1);have ay:=FX u.length R (s:=s) (t:=2*s+2*EE u.length R+R+1) (by omega);have hN:=El.norm h o.mem m.mem (j ▸ hx);have U:=El.Bz h;have n:=SN h.red;have a6:=Bg h.red;refine AE Tryz.func169 (by kernel_rfl) rfl fun E C=>?_
 conv=>cbv
 rintro aE ⟨ao,f14⟩;conv=>cbv
 intro ab I;conv=>cbv
 cases ab <;> conv=>cbv
 ·have V:=Ab I;rintro aF ⟨aq,f21⟩;conv=>cbv
  intro W au;conv=>cbv
  refine g1 (by omega) ?_;rintro aG ⟨ar,f24⟩;conv=>cbv
  intro aI av;conv=>cbv
  refine g2 ⟨by omega,by omega,i64 (by omega)⟩ ?_;intro aB ak;conv=>cbv
  refine g2 (by omega) ?_;intro a2 ai;conv=>cbv
  intro a7 O;conv=>cbv
  intro aC al;conv=>cbv
  refine g2 (by omega) ?_;intro a5 aj;conv=>cbv
  intro a8 P;conv=>cbv
  intro aD S;conv=>cbv
  refine g2 (by omega) ?_;rintro a1 an ⟨ah,N⟩;conv=>cbv
  intro aa Q;conv=>cbv
  refine g2 rfl ?_;have a:a7=tw u:=by rw[O,List.drop_zero,show a2=T.length-1 by omega,hT,CV]
  have f:a8=em u p:=by rw[P,List.drop_zero,show a5=A.length/2 by omega,hA,Bb h.red o.mem m.mem j]
  have g:aa=em u q:=by rw[Q,show a1=A.length/2 by omega,N,S,List.take_length,hA,BO h.red o.mem m.mem j]
  obtain⟨aK,b⟩:=xI (At p);refine cL C (Z a f o (by omega) b) t2 ?_;try conv=>cbv
  obtain⟨aL,d⟩:=xI (At q);refine cL C (Z a g m (by omega) d) t2 ?_;try conv=>cbv
  refine .inr ?_;intro ad J;conv=>cbv
  cases ad <;> conv=>cbv
  ·have F:=Ab J;intro ae K;conv=>cbv
   cases ae <;> conv=>cbv
   ·have G:=Ab K;intro af L;conv=>cbv
    cases af <;> conv=>cbv
    ·have H:=Ab L;obtain⟨aM,v⟩:=xR (em u (p*p));refine cL C (FA h.tail a f f o o (by omega) v) t3 ?_;try conv=>cbv
     obtain⟨X,B⟩:=AG (l:=T) (i:=(W).toNat) (by omega);refine⟨X,fun _=>⟨by omega,B⟩,?_⟩;try conv=>cbv
     have D:X=AW r:=by have:=Da r u;rw[<-hT,show T.length-1=W.toNat by omega,B] at this;exact Option.some.inj this
     obtain⟨aN,w⟩:=xR (em u (q*q));refine cL C (FA h.tail a g g m m (by omega) w) t3 ?_;try conv=>cbv
     obtain⟨aO,y⟩:=xR (em u (AI u r*(q*q)));refine cL C (FA h.tail a (D.trans (Cn h.red)) w U (m.mul h.tail m) (by omega) y) t3 ?_;try conv=>cbv
     obtain⟨aP,z⟩:=xR (em u (p*p-AI u r*(q*q)));refine cL C (JJ h.tail a v y (o.mul h.tail o) (U.mul h.tail (m.mul h.tail m)) (by omega) (by omega) z) t3 ?_;try conv=>cbv
     refine g2 rfl ?_;obtain⟨ag,k⟩:=xI (At (p*p-q*q*AI u r));refine cL (r:= .one (.int .i64 ag)) C (Z a (z.trans (by congr 1;clear Z;grind)) hN (by omega) k) t2 ?_;try conv=>cbv
     intro aJ M;conv=>cbv
     refine⟨fun _=>by rw[M,b,k];exact Sd _ _,?_⟩;exact fA ⟨⟨rfl,congrArg _ (by rw[Y,M,b,k,j];exact Sg n a6 (fun e=>H (by rw[b,e];exact E0)) (fun e=>F (by rw[d,e];exact E0)) (by rw[<-b,<-d];exact G)),trivial⟩,trivial⟩ rfl (by simp)
    have H:=Ad L;exact fA ⟨⟨rfl,congrArg _ (by rw[Y,d,j];exact Sh n (Ez.1 (b ▸ H))),trivial⟩,trivial⟩ rfl (by simp)
   have G:=Ad K;exact fA ⟨⟨rfl,congrArg _ (by rw[Y,b,j];exact Kt n (.inr (by rw[<-b,<-d];exact G))),trivial⟩,trivial⟩ rfl (by simp)
  have F:=Ad J;exact fA ⟨⟨rfl,congrArg _ (by rw[Y,b,j];exact Kt n (.inl (Ez.1 (d ▸ F)))),trivial⟩,trivial⟩ rfl (by simp)
 have V:=Ad I;exact absurd V (by omega)
theorem TV (h:AU R u):OQ 169 R u:=by
 induction u with
 | nil=>
  intro T A s x c b a f g d;obtain⟨p,rfl⟩:=Bj.1 f.mem;rw[Ci] at a;exact aG b a (d.trans (Sf p))
 | cons r u i=>
  intro T A s x c b a f g d;exact aH h (i h.tail) b a f g d
theorem UQ (h:AU R u) (n:T=tw u) (hs:VV u.length R R<=60000000000000):CF 213 [.one (.sl (.sl AA) T)] (.one (.bool true)):=by
 have Z:T.length=u.length:=by rw[n,Ay]
 have w:El u 0 0:=El.rat h.red EM;refine AE Tryz.func213 (by kernel_rfl) rfl fun E B=>?_
 conv=>cbv
 obtain⟨ab,ad,a8,aa,x⟩:=BD (((0:Int):Rat));refine cL B (EZ (by omega) rfl x) t1 ?_;try conv=>cbv
 obtain⟨w8,v⟩:=xR (em u (0));refine cL B (Ga h n x ⟨by decide +kernel,by decide +kernel⟩ v) ⟨rfl,t4,trivial⟩ ?_;try conv=>cbv
 refine cL (r:= .one (.bool true)) B (EX n h.Ds v (w.BE (by omega)) (by rw[w.len,List.length_reverse];exact (decide_eq_true rfl).symm)) t2 ?_;try conv=>cbv
 intro a7 D;cases D.trans (rfl:_=false);conv=>cbv
 intro I d;have X:=d.eq;have f12:=d.le;conv=>cbv
 refine .inr ?_;obtain⟨V,f⟩:=xJ fun U W k=>∃(i':Nat) (L i:Int),U=[.one (.sl (.sl AA) T),.one (.sl (.sl AA) T),.one (.int .i64 L),.one (.int .i64 i)]/\(B1 L T.length/\AK i i'/\i'<=T.length)/\k=T.length-i'
 refine⟨[0,11,12,13],[],V,⟨T.length-0,by rw[f];exact⟨0,I,0,rfl,⟨d,Ah 0,by omega⟩,rfl⟩⟩,?_⟩;intro U W a5 Q;rw[f] at Q;obtain⟨i',L,i,rfl,⟨O,hi,a1⟩,a2⟩:=Q;conv=>cbv
 have eL:=O.eq;have ei:=hi.eq;intro J j;conv=>cbv
 cases J <;> conv=>cbv
 ·have G:=AR j;exact fA ⟨t2,trivial⟩ rfl (by simp)
 have G:=AS j;refine .inr ?_;obtain⟨z,b⟩:=AG (l:=T) (i:=i') (by omega);refine⟨z,fun _=>⟨by omega,by rw[show (i).toNat=i' by omega];exact b⟩,?_⟩;try conv=>cbv
 obtain⟨r,t,q⟩:=GR (u:=u) (i:=i') (by omega);have p:AQ (r::pre u i'):=t ▸ (h.pre (i'+1)).red;have F:z=AW r:=by rw[<-n,b] at q;exact Option.some.inj q
 intro a6 S;conv=>cbv
 refine g2 (by omega) ?_;intro C P;conv=>cbv
 intro H o;conv=>cbv
 have g:H=tw (pre u i'):=by rw[o,List.drop_zero,show C=i' by omega,n,Fq]
 obtain⟨N,a⟩:=xI (At (AI (pre u i') r));refine cL (r:= .one (.int .i64 N)) B (TV (h.pre i') g (F.trans (Cn p)) (El.Bz (t ▸ h.pre (i'+1))) (by rw[GQ (by omega)];exact Nat.le_trans (H8 (by omega) R R) hs) a) t2 ?_;try conv=>cbv
 intro K m;conv=>cbv
 cases K <;> conv=>cbv
 ·have y:=Hd m;intro M Y;conv=>cbv
  refine g1 (by omega) ?_;refine⟨T.length-(i'+1),?_,?_⟩
  ·omega
  rw[f];exact⟨i'+1,L,M,rfl,⟨O,⟨by omega⟩,by omega⟩,rfl⟩
 have y:=He m;exact absurd y (by rw[a,FQ p.2.2.1];omega)
theorem Ww {L:List LR} (h:AU R u) (w:T=tw u) (K:VV u.length R R<=60000000000000) (G:∀l∈L,∃x,l=em u x/\El u s x) (n:s<=60000000000000):CF 168 [.one (.sl (.sl AA) T),.one (.sl (.sl AA) L)] (.one (.bool true)):=by
 refine AE Tryz.func168 (by kernel_rfl) rfl fun E v=>?_
 conv=>cbv
 intro O j;have P:=j.eq;have f8:=j.le;conv=>cbv
 refine .inr ?_;obtain⟨C,b⟩:=xJ fun B D k=>∃(i':Nat) (m i:Int),B=[.one (.sl (.sl AA) T),.one (.sl (.sl AA) L),.one (.int .i64 m),.one (.int .i64 i)]/\(B1 m L.length/\AK i i'/\i'<=L.length)/\k=L.length-i'
 refine⟨[0,7,8,9],[],C,⟨L.length-0,by rw[b];exact⟨0,O,0,rfl,⟨j,Ah 0,by omega⟩,rfl⟩⟩,?_⟩;intro B D M y;rw[b] at y;obtain⟨i',m,i,rfl,⟨hm,H,I⟩,J⟩:=y;conv=>cbv
 have em:=hm.eq;have Q:=H.eq;intro q d;conv=>cbv
 cases q <;> conv=>cbv
 ·have p:=AR d;refine cL v (UQ h w K) t1 ?_;try conv=>cbv
  exact fA ⟨t2,trivial⟩ rfl (by simp)
 have p:=AS d;refine .inr ?_;obtain⟨f,a⟩:=AG (l:=L) (i:=i') (by omega);refine⟨f,fun _=>⟨by omega,by rw[show (i).toNat=i' by omega];exact a⟩,?_⟩;try conv=>cbv
 obtain⟨x,o,z⟩:=G f (List.mem_of_getElem? a);refine cL (r:= .one (.bool true)) v (EX w h.Ds o (z.BE n) (by rw[z.len,List.length_reverse];exact (decide_eq_true rfl).symm)) t2 ?_;try conv=>cbv
 intro N g;cases g.trans (rfl:_=false);conv=>cbv
 intro t F;conv=>cbv
 refine g1 (by omega) ?_;refine⟨L.length-(i'+1),?_,?_⟩
 ·omega
 rw[b];exact⟨i'+1,m,t,rfl,⟨hm,⟨by omega⟩,by omega⟩,rfl⟩
theorem G7 (h:AU R u) (d:T=tw u) (a:A=em u x) (f:El u s x) (m:VV u.length R s<=60000000000000) (hR:VV u.length R R<=60000000000000) (i:c=At x):CF 119 [.one (.sl (.sl AA) T),.one (.sl AA A)] (.one (.int .i64 c)):=by
 have j:=Du u.length R s;refine AE Tryz.func119 (by kernel_rfl) rfl fun E b=>?_
 conv=>cbv
 refine⟨[A],fun _=>⟨rfl,by decide,rfl,⟨rfl,by first | exact t1 | exact t2 | exact t4 | simp[Ac,Ak,cells],trivial⟩⟩,.inr ?_⟩;try conv=>cbv
 refine cL b (Ww h d hR (fun l k=>⟨x,(List.mem_singleton.1 k).trans a,f⟩) (by omega)) t2 ?_;try conv=>cbv
 intro n g;cases g.trans (rfl:_=false);conv=>cbv
 refine cL b (TV h d a f m i) t2 ?_;try conv=>cbv
 exact fA ⟨t2,trivial⟩ rfl (by simp)
end Go.Abs
