/- Part 32 of a proof. Conditions: each theorem's own. -/
import Derived.Test.YtfilemenbchajaaGreatPk27
set_option linter.all false
set_option maxHeartbeats 8000000
set_option maxRecDepth 20000
open Go.Proofs
namespace Go.Abs
open Go.RowKit
def Qf (f:FuncId) (R:Nat) (u:List (List Rat)):Prop:=∀{T:List LR} {A:LR} {s:Nat} {x:Re} {c:Int},T=tw u->A=em u x->El u s x->VV u.length R s<=60000000000000->c=BJ x->
 CF f [.one (.sl (.sl AA) T),.one (.sl AA A)] (.one (.int .i64 c))
variable {A:LR} {R s:Nat} {T:List LR} {c:Int} {u:List (List Rat)} {x:Re}
theorem gh {p:Rat} (o:T=[]) (k:A=[rp p]) (q:c=Dk p):CF 241 [.one (.sl (.sl AA) T),.one (.sl AA A)] (.one (.int .i64 c)):=by
 refine AH Tryz.func241 (by kernel_rfl) rfl fun E n=>?_
 conv=>cbv
 rintro r ⟨g,f14⟩;conv=>cbv
 intro h d;conv=>cbv
 cases h <;> conv=>cbv
 ·have f:=Au d;exact absurd (by rw[g,o];rfl) f
 have f:=Av d;have m:A.length=1:=by rw[k];rfl
 obtain⟨j,b⟩:=AG (l:=A) (i:=0) (by omega);refine⟨j,fun _=>⟨by omega,b⟩,?_⟩;try conv=>cbv
 obtain⟨t,a⟩:=xI (Dk p);refine cL n (Kw (D2 k b) a) ⟨t4,trivial⟩ ?_;try conv=>cbv
 exact fA ⟨⟨rfl,congrArg _ (q.trans a.symm),trivial⟩,trivial⟩ rfl (by simp)
theorem gi {r:List Rat} (h:Al R (r::u)) (Z:Qf 241 R u) (hT:T=tw (r::u)) (hA:A=em (r::u) x) (hx:El (r::u) s x) (hs:VV (r::u).length R s<=60000000000000) (Y:c=BJ x):CF 241 [.one (.sl (.sl AA) T),.one (.sl AA A)] (.one (.int .i64 c)):=by
 obtain⟨p,q,j,o,m⟩:=El.parts h.red hx;have ax:T.length=u.length+1:=by rw[hT,BU];rfl
 have aw:A.length=2^u.length+2^u.length:=by rw[hA,BL hx.mem,Bc]
 have az:VV (r::u).length R s=VV u.length R (2*s+2*EE u.length R+R+1):=rfl;have aA:=Ei u.length R (2*s+2*EE u.length R+R+1);have ay:=GV u.length R (s:=s) (t:=2*s+2*EE u.length R+R+1) (by omega);have hN:=El.norm h o.mem m.mem (j ▸ hx);have U:=El.Ca h;have n:=VK h.red;have a6:=CO h.red;refine AH Tryz.func241 (by kernel_rfl) rfl fun E C=>?_
 conv=>cbv
 rintro aE ⟨ao,f14⟩;conv=>cbv
 intro ab I;conv=>cbv
 cases ab <;> conv=>cbv
 ·have V:=Au I;rintro aF ⟨aq,f21⟩;conv=>cbv
  intro W au;conv=>cbv
  refine g1 (by omega) ?_;rintro aG ⟨ar,f24⟩;conv=>cbv
  intro aH av;conv=>cbv
  refine g2 ⟨by omega,by omega,i64 (by omega)⟩ ?_;intro aB ak;conv=>cbv
  refine g2 (by omega) ?_;intro a2 ai;conv=>cbv
  intro a7 O;conv=>cbv
  intro aC al;conv=>cbv
  refine g2 (by omega) ?_;intro a5 aj;conv=>cbv
  intro a8 P;conv=>cbv
  intro aD S;conv=>cbv
  refine g2 (by omega) ?_;rintro a1 an ⟨ah,N⟩;conv=>cbv
  intro aa Q;conv=>cbv
  refine g2 rfl ?_;have a:a7=tw u:=by rw[O,List.drop_zero,show a2=T.length-1 by omega,hT,DA]
  have f:a8=em u p:=by rw[P,List.drop_zero,show a5=A.length/2 by omega,hA,B9 h.red o.mem m.mem j]
  have g:aa=em u q:=by rw[Q,show a1=A.length/2 by omega,N,S,List.take_length,hA,Bo h.red o.mem m.mem j]
  obtain⟨aJ,b⟩:=xI (BJ p);refine cL C (Z a f o (by omega) b) t2 ?_;try conv=>cbv
  obtain⟨aK,d⟩:=xI (BJ q);refine cL C (Z a g m (by omega) d) t2 ?_;try conv=>cbv
  refine .inr ?_;intro ad J;conv=>cbv
  cases ad <;> conv=>cbv
  ·have F:=Au J;intro ae K;conv=>cbv
   cases ae <;> conv=>cbv
   ·have G:=Au K;intro af L;conv=>cbv
    cases af <;> conv=>cbv
    ·have H:=Au L;obtain⟨aL,v⟩:=xR (em u (p*p));refine cL C (Fz h.tail a f f o o (by omega) v) t3 ?_;try conv=>cbv
     obtain⟨X,B⟩:=AG (l:=T) (i:=(W).toNat) (by omega);refine⟨X,fun _=>⟨by omega,B⟩,?_⟩;try conv=>cbv
     have D:X=Ao r:=by have:=ES r u;rw[<-hT,show T.length-1=W.toNat by omega,B] at this;exact Option.some.inj this
     obtain⟨aM,w⟩:=xR (em u (q*q));refine cL C (Fz h.tail a g g m m (by omega) w) t3 ?_;try conv=>cbv
     obtain⟨aN,y⟩:=xR (em u (AN u r*(q*q)));refine cL C (Fz h.tail a (D.trans (DU h.red)) w U (m.mul h.tail m) (by omega) y) t3 ?_;try conv=>cbv
     obtain⟨aO,z⟩:=xR (em u (p*p-AN u r*(q*q)));refine cL C (Ky h.tail a v y (o.mul h.tail o) (U.mul h.tail (m.mul h.tail m)) (by omega) (by omega) z) t3 ?_;try conv=>cbv
     refine g2 rfl ?_;obtain⟨ag,k⟩:=xI (BJ (p*p-q*q*AN u r));refine cL (r:= .one (.int .i64 ag)) C (Z a (z.trans (by congr 1;clear Z;grind)) hN (by omega) k) t2 ?_;try conv=>cbv
     intro aI M;conv=>cbv
     refine⟨fun _=>by rw[M,b,k];exact VZ _ _,?_⟩;exact fA ⟨⟨rfl,congrArg _ (by rw[Y,M,b,k,j];exact Vc n a6 (fun e=>H (by rw[b,e];exact Dw)) (fun e=>F (by rw[d,e];exact Dw)) (by rw[<-b,<-d];exact G)),trivial⟩,trivial⟩ rfl (by simp)
    have H:=Av L;exact fA ⟨⟨rfl,congrArg _ (by rw[Y,d,j];exact Vf n (Dv.1 (b ▸ H))),trivial⟩,trivial⟩ rfl (by simp)
   have G:=Av K;exact fA ⟨⟨rfl,congrArg _ (by rw[Y,b,j];exact Mo n (.inr (by rw[<-b,<-d];exact G))),trivial⟩,trivial⟩ rfl (by simp)
  have F:=Av J;exact fA ⟨⟨rfl,congrArg _ (by rw[Y,b,j];exact Mo n (.inl (Dv.1 (d ▸ F)))),trivial⟩,trivial⟩ rfl (by simp)
 have V:=Av I;exact absurd V (by omega)
theorem WU (h:Al R u):Qf 241 R u:=by
 induction u with
 | nil=>
  intro T A s x c b a f g d;obtain⟨p,rfl⟩:=CI.1 f.mem;rw[DT] at a;exact gh b a (d.trans (Vb p))
 | cons r u i=>
  intro T A s x c b a f g d;exact gi h (i h.tail) b a f g d
theorem XJ (h:Al R u) (n:T=tw u) (hs:VV u.length R R<=60000000000000):CF 287 [.one (.sl (.sl AA) T)] (.one (.bool true)):=by
 have Y:T.length=u.length:=by rw[n,BU]
 have w:El u 0 0:=El.rat h.red Gb;refine AH Tryz.func287 (by kernel_rfl) rfl fun E B=>?_
 conv=>cbv
 obtain⟨ab,ad,a8,aa,x⟩:=Bb (((0:Int):Rat));refine cL B (F1 (by omega) rfl x) t1 ?_;try conv=>cbv
 obtain⟨w8,v⟩:=xR (em u (0));refine cL B (Hf h n x ⟨by decide +kernel,by decide +kernel⟩ v) ⟨rfl,t4,trivial⟩ ?_;try conv=>cbv
 refine cL (r:= .one (.bool true)) B (GR n h.FA v (w.Bh (by omega)) (by rw[w.len,List.length_reverse];exact (decide_eq_true rfl).symm)) t2 ?_;try conv=>cbv
 intro a7 D;cases D.trans (rfl:_=false);conv=>cbv
 intro I d;have W:=d.eq;have f12:=d.le;conv=>cbv
 refine .inr ?_;obtain⟨U,f⟩:=xJ fun vs V k=>∃(i':Nat) (L i:Int),vs=[.one (.sl (.sl AA) T),.one (.sl (.sl AA) T),.one (.int .i64 L),.one (.int .i64 i)]/\(Cb L T.length/\AS i i'/\i'<=T.length)/\k=T.length-i'
 refine⟨[0,11,12,13],[],U,⟨T.length-0,by rw[f];exact⟨0,I,0,rfl,⟨d,BC 0,by omega⟩,rfl⟩⟩,?_⟩;intro vs V a5 Q;rw[f] at Q;obtain⟨i',L,i,rfl,⟨O,Z,a1⟩,a2⟩:=Q;conv=>cbv
 have eL:=O.eq;have ei:=Z.eq;intro J j;conv=>cbv
 cases J <;> conv=>cbv
 ·have G:=Ad j;exact fA ⟨t2,trivial⟩ rfl (by simp)
 have G:=Ae j;refine .inr ?_;obtain⟨z,b⟩:=AG (l:=T) (i:=i') (by omega);refine⟨z,fun _=>⟨by omega,by rw[show (i).toNat=i' by omega];exact b⟩,?_⟩;try conv=>cbv
 obtain⟨r,t,q⟩:=HS (u:=u) (i:=i') (by omega);have p:Ab (r::pre u i'):=t ▸ (h.pre (i'+1)).red;have F:z=Ao r:=by rw[<-n,b] at q;exact Option.some.inj q
 intro a6 S;conv=>cbv
 refine g2 (by omega) ?_;intro C P;conv=>cbv
 intro H o;conv=>cbv
 have g:H=tw (pre u i'):=by rw[o,List.drop_zero,show C=i' by omega,n,Gk]
 obtain⟨N,a⟩:=xI (BJ (AN (pre u i') r));refine cL (r:= .one (.int .i64 N)) B (WU (h.pre i') g (F.trans (DU p)) (El.Ca (t ▸ h.pre (i'+1))) (by rw[HR (by omega)];exact Nat.le_trans (Jb (by omega) R R) hs) a) t2 ?_;try conv=>cbv
 intro K m;conv=>cbv
 cases K <;> conv=>cbv
 ·have y:=I1 m;intro M X;conv=>cbv
  refine g1 (by omega) ?_;refine⟨T.length-(i'+1),?_,?_⟩
  ·omega
  rw[f];exact⟨i'+1,L,M,rfl,⟨O,⟨by omega⟩,by omega⟩,rfl⟩
 have y:=I2 m;exact absurd y (by rw[a,Fq p.2.2.1];omega)
theorem Z9 {L:List LR} (h:Al R u) (w:T=tw u) (J:VV u.length R R<=60000000000000) (F:∀l∈L,∃x,l=em u x/\El u s x) (n:s<=60000000000000):CF 240 [.one (.sl (.sl AA) T),.one (.sl (.sl AA) L)] (.one (.bool true)):=by
 refine AH Tryz.func240 (by kernel_rfl) rfl fun E v=>?_
 conv=>cbv
 intro N j;have O:=j.eq;have f8:=j.le;conv=>cbv
 refine .inr ?_;obtain⟨B,b⟩:=xJ fun vs C k=>∃(i':Nat) (m i:Int),vs=[.one (.sl (.sl AA) T),.one (.sl (.sl AA) L),.one (.int .i64 m),.one (.int .i64 i)]/\(Cb m L.length/\AS i i'/\i'<=L.length)/\k=L.length-i'
 refine⟨[0,7,8,9],[],B,⟨L.length-0,by rw[b];exact⟨0,N,0,rfl,⟨j,BC 0,by omega⟩,rfl⟩⟩,?_⟩;intro vs C K y;rw[b] at y;obtain⟨i',m,i,rfl,⟨hm,G,H⟩,I⟩:=y;conv=>cbv
 have em:=hm.eq;have P:=G.eq;intro q d;conv=>cbv
 cases q <;> conv=>cbv
 ·have p:=Ad d;refine cL v (XJ h w J) t1 ?_;try conv=>cbv
  exact fA ⟨t2,trivial⟩ rfl (by simp)
 have p:=Ae d;refine .inr ?_;obtain⟨f,a⟩:=AG (l:=L) (i:=i') (by omega);refine⟨f,fun _=>⟨by omega,by rw[show (i).toNat=i' by omega];exact a⟩,?_⟩;try conv=>cbv
 obtain⟨x,o,z⟩:=F f (List.mem_of_getElem? a);refine cL (r:= .one (.bool true)) v (GR w h.FA o (z.Bh n) (by rw[z.len,List.length_reverse];exact (decide_eq_true rfl).symm)) t2 ?_;try conv=>cbv
 intro M g;cases g.trans (rfl:_=false);conv=>cbv
 intro t D;conv=>cbv
 refine g1 (by omega) ?_;refine⟨L.length-(i'+1),?_,?_⟩
 ·omega
 rw[b];exact⟨i'+1,m,t,rfl,⟨hm,⟨by omega⟩,by omega⟩,rfl⟩
theorem JZ (h:Al R u) (d:T=tw u) (a:A=em u x) (f:El u s x) (m:VV u.length R s<=60000000000000) (hR:VV u.length R R<=60000000000000) (i:c=BJ x):CF 183 [.one (.sl (.sl AA) T),.one (.sl AA A)] (.one (.int .i64 c)):=by
 have j:=Ei u.length R s;refine AH Tryz.func183 (by kernel_rfl) rfl fun E b=>?_
 conv=>cbv
 refine⟨[A],fun _=>⟨rfl,by decide,rfl,⟨rfl,by first | exact t1 | exact t2 | exact t4 | simp[Aw,BF,cells],trivial⟩⟩,.inr ?_⟩;try conv=>cbv
 refine cL b (Z9 h d hR (fun l k=>⟨x,(List.mem_singleton.1 k).trans a,f⟩) (by omega)) t2 ?_;try conv=>cbv
 intro n g;cases g.trans (rfl:_=false);conv=>cbv
 refine cL b (WU h d a f m i) t2 ?_;try conv=>cbv
 exact fA ⟨t2,trivial⟩ rfl (by simp)
end Go.Abs
