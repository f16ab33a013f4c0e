/- Part 56 of a proof. Conditions: each theorem's own. -/
import Derived.Test.YtfilemenbchajaaGreatPk45
set_option linter.all false
set_option maxHeartbeats 8000000
set_option maxRecDepth 20000
open Go.Proofs
namespace Go.Abs
theorem dL {E:Env} {g:FuncId} {args:List AV} {r:AV} {B:Nat->AM->List AV->Prop} {S:AM->AM} {K:Nat->AV->Prop} {P1 P2 P3 P5:Prop} (id:Nat) (b:AM) (d:env Tryz.prog=E) (h:BW Tryz.prog g args (S b) r) (hb:B id b args) (f:K id r):
 P1\/P2\/P3\/(∃(id:Nat) (b:AM) (a:List AV) (r:AV),(Unit->B id b a)/\(Unit->E.D g a (S b) r)/\K id r)\/P5:= .inr (.inr (.inr (.inl ⟨id,b,args,r,fun _=>hb,fun _=>AP d h,f⟩)))
end Go.Abs
namespace Go.Abs
open Go.RowKit
section
variable {TT:List (List Rat)->Prop} {w:List (List Rat)} {R b c M q p k k' l l':Nat} {T1 T2:List LR} {A1 A2:LR} {x y x' y':Re}
end
theorem iy {TT:List (List Rat)->Prop} {w:List (List Rat)} {R b c M q p k k' j:Nat} (F:Fm TT w R b c M q p) {T1 T2 T3:List LR} {A1 A2 A3:LR} {x1 y1 n:Re} (g:Vm TT w b k k' T1 A1 T2 A2 x1 y1) (f:Nm TT w b j T3 A3 n) (B:k+c+1<=M) (z:k'+c+1<=M) (C:j+c+1<=M):∃T A d a,Vm TT w b (k+j+1) (k'+j+1) T A d a (x1*n) (y1*n)/\CF 126 [.agg [.sl (.sl AA) T1,.sl AA A1,.sl (.sl AA) T2,.sl AA A2],.agg [.sl (.sl AA) T3,.sl AA A3]] (.AE [(true,[.sl (.sl AA) T,.sl AA A,.sl (.sl AA) d,.sl AA a]),(false,[.int .i64 0])]):=by
 obtain⟨T5,A5,o,h,_⟩:=EN F g.x f (by omega) (by omega);obtain⟨T6,A6,r,i,_⟩:=EN F g.y f (by omega) (by omega);refine⟨T5,A5,T6,A6,⟨o,r⟩,?_⟩;refine AH Tryz.func126 (by kernel_rfl) rfl fun E v=>?_
 conv=>cbv
 refine cL v (Nq h i) ⟨t4,t4,rfl,trivial⟩ ?_;try conv=>cbv
 exact fA ⟨⟨rfl,rfl,rfl,rfl,rfl,trivial⟩,t2,trivial⟩ rfl (by simp)
theorem jz {TT:List (List Rat)->Prop} {w:List (List Rat)} {R b c M q p k k' l l':Nat} (F:Fm TT w R b c M q p) {T1 T2 T3 T4:List LR} {A1 A2 A3 A4:LR} {x1 y1 x2 y2:Re} (D:Vm TT w b k k' T1 A1 T2 A2 x1 y1) (G:Vm TT w b l l' T3 A3 T4 A4 x2 y2) (U:k+l+c+2<=M) (C:k'+l'+c+2<=M):∃T A h g,Vm TT w b (k+l+3) (k'+l'+3) T A h g ((x1+x2)*Re.ofRat (1/2)) ((y1+y2)*Re.ofRat (1/2))/\CF 164 [.agg [.sl (.sl AA) T1,.sl AA A1,.sl (.sl AA) T2,.sl AA A2],.agg [.sl (.sl AA) T3,.sl AA A3,.sl (.sl AA) T4,.sl AA A4]] (.AE [(true,[.sl (.sl AA) T,.sl AA A,.sl (.sl AA) h,.sl AA g]),(false,[.int .i64 0])]):=by
 obtain⟨N,Q,O,S,i⟩:=Bb (1/2:Rat);have B:(1/2:Rat)=Rat.divInt 1 2:=by decide +kernel
 obtain⟨j,a⟩:=CY (em [] (Re.ofRat (1/2)));have v:Nm TT w b 1 [] j (Re.ofRat (1/2)):=a ▸ KK F (by omega) (IZ (by decide +kernel) F.hb);obtain⟨K,I,L,J,z,o⟩:=WR F D G (by omega) (by omega) (by omega) (by omega);obtain⟨T5,A5,T6,A6,r,n⟩:=iy F z v (by omega) (by omega) (by omega);refine⟨T5,A5,T6,A6,r.mono (by omega) (by omega),?_⟩;refine AH Tryz.func164 (by kernel_rfl) rfl fun E d=>?_
 conv=>cbv
 refine cL d o ⟨t4,t4,trivial⟩ ?_;try conv=>cbv
 intro H f;cases f.trans (show _=false by decide);conv=>cbv
 refine cL d (QK (by decide) (by decide) (by decide) B i) t2 ?_;try conv=>cbv
 refine cL d (QR i (Ha (by decide +kernel:Bz (1/2:Rat))) a) ⟨t4,trivial⟩ ?_;try conv=>cbv
 refine cL d n ⟨t4,t2,trivial⟩ ?_;try conv=>cbv
 refine⟨fun _=>Aq (by kernel_rfl),?_⟩;exact fA ⟨⟨rfl,rfl,rfl,rfl,rfl,trivial⟩,t2,trivial⟩ rfl (by simp)
theorem jW {TT:List (List Rat)->Prop} {w:List (List Rat)} {R b c M q p k k':Nat} (F:Fm TT w R b c M q p) {T1 T2:List LR} {A1 A2:LR} {x1 y1:Re} (o:Vm TT w b k k' T1 A1 T2 A2 x1 y1) (C:k+c+1<=M) (v:k'+c+1<=M) {e:Bool} (he:e=true↔x1=0/\y1=0):CF 47 [.agg [.sl (.sl AA) T1,.sl AA A1,.sl (.sl AA) T2,.sl AA A2]] (.one (.bool e)):=by
 obtain⟨D,d,_,r⟩:=DQ F o.x (by omega);obtain⟨B,a,_,f⟩:=DQ F o.y (by omega);refine AH Tryz.func47 (by kernel_rfl) rfl fun E n=>?_
 conv=>cbv
 refine cL n r ⟨t2,trivial⟩ ?_;try conv=>cbv
 intro A j;conv=>cbv
 cases A <;> conv=>cbv
 ·have i:=Au j;exact fA ⟨⟨rfl,congrArg _ (by cases e with | false=>rfl | true=>exact absurd (by rw[d];exact Dv.2 (he.1 rfl).1) i),trivial⟩,trivial⟩ rfl (by simp)
 have i:=Av j;refine cL n f ⟨t2,trivial⟩ ?_;try conv=>cbv
 intro z g;conv=>cbv
 exact fA ⟨⟨rfl,congrArg _ (by rw[Bool.eq_iff_iff,g,beq_iff_eq,a,Dv,he];exact⟨fun h=>h.2,fun h=>⟨Dv.1 (d.symm.trans i),h⟩⟩),trivial⟩,trivial⟩ rfl (by simp)
end Go.Abs
namespace Go.Abs
section
variable {α:Type} [Lean.Grind.CommRing α]
theorem jv (f g:Nat->α):∀n,DB n f+DB n g=DB n (fun i=>f i+g i)
 | 0=>by rw[DB,DB,DB];grind
 | n+1=>by rw[DB,DB,DB,<-jv f g n];grind
theorem ju (f:Nat->Nat->α) (m:Nat):∀n,DB n (fun i=>DB m (fun k=>f i k))=DB m (fun k=>DB n (fun i=>f i k))
 | 0=>by rw[DB];exact (Vr m).symm
 | n+1=>by
  rw[DB,ju f m n,jv];rfl
end
section
variable {u w:List (List Rat)} {x y:Re}
theorem ix:∀{u:List (List Rat)},Ab u->∀i,In u (bb u i)
 | [],_,i=>OP []
 | r::u,h,i=>by
  rw[bb]
  split
  ·exact Ge (ix h.1 i)
  exact Ar h (Ge (ix h.1 _)) (H0 u r)
theorem jg {f:Nat->Re} (a:∀i,In u (f i)):∀n,In u (DB n f)
 | 0=>Bp u
 | n+1=>Cp (jg a n) (a n)
theorem jK (h:Ab w) (c:Nat->Rat) {f:Nat->Re} (a:∀i,In w (f i)) (k:Nat):∀n,cf w (DB n (fun i=>Re.ofRat (c i)*f i)) k=DB n (fun i=>c i*cf w (f i) k)
 | 0=>ZP h k
 | n+1=>by
  rw[DB,DB,ZN h (jg (fun i=>OQ (a i) (c i)) n) (OQ (a n) (c n)),jK h c a k n,ZO h (a n)]
theorem jx (hu:Ab u) (hw:Ab w) (a:BK u w) (d:BK w u) (f:In u x):tr u x=tr w x:=by
 have h:∀i,cf u (x*bb u i) i=DB (2^w.length) (fun k=>cf w (x*bb u i) k*cf u (bb w k) i):=fun i=>by
  have o:=a _ (Ar hu f (ix hu i))
  rw[show cf u (x*bb u i) i=cf u (DB (2^w.length) (fun k=>Re.ofRat (cf w (x*bb u i) k)*bb w k)) i from congrArg (fun z=>cf u z i) (expand hw o),
   jK hu _ (fun k=>d _ (ix hw k))]
 have j:∀k,cf w (x*bb w k) k=DB (2^u.length) (fun i=>cf u (bb w k) i*cf w (x*bb u i) k):=fun k=>by
  have r:=d _ (ix hw k)
  have n:x*bb w k=DB (2^u.length) (fun i=>Re.ofRat (cf u (bb w k) i)*(x*bb u i)):=by
   rw[show x*bb w k=x*DB (2^u.length) (fun i=>Re.ofRat (cf u (bb w k) i)*bb u i) from congrArg (x* ·) (expand hu r),Vq];exact Mr fun i _=>by grind
  rw[n,jK hw _ (fun i=>a _ (Ar hu f (ix hu i)))]
 unfold tr;rw[Mr (fun i _=>h i),ju,Mr (g:=fun k=>DB (2^u.length) (fun i=>cf w (x*bb u i) k*cf u (bb w k) i)) (fun k _=>rfl),Mr (fun k _=>j k)];exact Mr fun k _=>Mr fun i _=>by grind
theorem jH:∀{u:List (List Rat)} {x:Re},Ab u->In u x->tr u x=((2^u.length:Nat):Rat)*cf u x 0
 | [],x,h,n=>by
  show DB 1 _=_
  rw[DB,DB]
  show 0+cf [] (x*1) 0=((1:Nat):Rat)*cf [] x 0
  rw[show x*1=x by grind];grind
 | r::u,x,h,n=>by
  obtain⟨p,q,a,j,e⟩:=CM.1 n;have v:=CO h;have o:=jH h.1 a;have hb:=ix h.1;unfold tr at o ⊢
  rw[Bc,Vp,Mr (g:=fun i=>cf u (p*bb u i) i) (fun i d=>by
    rw[Yy d];exact Hu h (Ar h.1 a (hb i)) (Ar h.1 j (hb i)) (by rw[e];grind) d),
   Mr (f:=fun i=>cf (r::u) (x*bb (r::u) (2^u.length+i)) (2^u.length+i)) (g:=fun i=>cf u (p*bb u i) i) (fun i d=>by
    rw[Yx];exact Ht h (Ar h.1 (Ar h.1 j (hb i)) (CG h)) (Ar h.1 a (hb i)) (by rw[e,<-v];grind) i),
   o,Hu h a j e (DG _),Rat.natCast_add]
  grind
end
end Go.Abs
namespace Go.Abs
theorem Ml.of {w:List (List Rat)} {R:Nat} (hw:Ab w) (a:TB R w):Ml w (EE w.length R):=⟨Ik hw a,Gg hw a⟩
section
variable {u:List (List Rat)} {r:List Rat} {E R s t:Nat} {x y:Re}
theorem Ml.mono {d:Nat} (M:Ml u E) (h:E<=d):Ml u d:=by
 obtain⟨K,K0,Kl,hm⟩:=M.dn;exact⟨⟨K,K0,Nat.le_trans Kl (CX h),hm⟩,fun f g a b=>(M.mx f g a b).mono (Nat.mul_le_mul_left _ (CX h))⟩
theorem Ml.bd (M:Ml u E) (f:In u x) (g:In u y) (a:Bd s (co u x)) (b:Bd t (co u y)):Bd (s+t+E) (co u (x*y)):=by
 obtain⟨D,i,j,n,h3⟩:=a;obtain⟨h,k0,k1,k2,r⟩:=b;obtain⟨K,o,d,hm⟩:=M.dn;refine⟨D*h*K,Nat.mul_pos (Nat.mul_pos i k0) o,?_,hm f g n k2,?_⟩
 ·have:=Nat.mul_le_mul (Nat.mul_le_mul j k1) d;rwa [<-Nat.pow_add,<-Nat.pow_add] at this
 have:=M.mx f g h3 r;rwa [<-Nat.pow_add,<-Nat.pow_add] at this
theorem Ml.cons (h:Ab (r::u)) (M:Ml u E) (L:Bd R r):Ml (r::u) (2*E+R+2):=by
 obtain⟨K,Q,z,hm⟩:=M.dn;obtain⟨v,U,H,G,I⟩:=L;refine⟨⟨K*K*v,Nat.mul_pos (Nat.mul_pos Q Q) U,?_,fun {x y D V} N O i j=>?_⟩,fun {x y B C} N O n o=>?_⟩
 ·have F:K*K*v<=2^E*2^E*2^R:=Nat.mul_le_mul (Nat.mul_le_mul z z) H;rw[<-Nat.pow_add,<-Nat.pow_add] at F;exact Nat.le_trans F (CX (by omega))
 ·obtain⟨a,b,ha,hb,rfl⟩:=CM.1 N;obtain⟨c,d,g,f,rfl⟩:=CM.1 O;rw[Cr h ha hb rfl,DN.app] at i;rw[Cr h g f rfl,DN.app] at j;rw[SG h ha hb g f rfl rfl,DN.app];have J:DN v (co u (AN u r)):=by rw[Ez h];exact G
  refine⟨DN.Fv h.1 (Ar h.1 ha g) (Ar h.1 (Ar h.1 hb f) (CG h)) ((hm ha g i.1 j.1).dvd ⟨K*v,by grind⟩) ((hm (Ar h.1 hb f) (CG h) (hm hb f i.2 j.2) J).dvd ⟨1,by grind⟩),
   DN.Fv h.1 (Ar h.1 ha f) (Ar h.1 hb g) ((hm ha f i.1 j.2).dvd ⟨K*v,by grind⟩) ((hm hb g i.2 j.1).dvd ⟨K*v,by grind⟩)⟩
 have A:=fun {x y:Re} {B C:Nat}=>M.mx (x:=x) (y:=y) (B:=B) (C:=C)
 obtain⟨a,b,ha,hb,rfl⟩:=CM.1 N;obtain⟨c,d,g,f,rfl⟩:=CM.1 O;rw[Cr h ha hb rfl,MX.app] at n;rw[Cr h g f rfl,MX.app] at o;rw[SG h ha hb g f rfl rfl,MX.app];have J:MX (2^R) (co u (AN u r)):=by rw[Ez h];exact I
 have e:2*E+R+2=E+E+R+2:=by omega
 rw[e,Nat.pow_add,Nat.pow_add,Nat.pow_add];have F:=DG E;have T:=DG R
 generalize 2^E=K at*
 generalize 2^R=S at*
 have k1:B*C*K<=B*C*(K*K*S):=Nat.mul_le_mul_left _ (by
  have:K*1<=K*(K*S):=Nat.mul_le_mul_left _ (Nat.mul_pos F T);rw[Nat.mul_assoc];omega)
 have k2:B*C*K*S*K=B*C*(K*K*S):=by grind
 refine⟨(MX.Fv h.1 (Ar h.1 ha g) (Ar h.1 (Ar h.1 hb f) (CG h)) (A ha g n.1 o.1) (A (Ar h.1 hb f) (CG h) (A hb f n.2 o.2) J)).mono ?_,
  (MX.Fv h.1 (Ar h.1 ha f) (Ar h.1 hb g) (A ha f n.1 o.2) (A hb g n.2 o.1)).mono ?_⟩
 ·rw[k2];grind
 grind
theorem Ml.inv {P:Nat->Nat} (h:Ab (r::u)) (M:Ml u E) (L:Bd R r) (Y:∀{x y:Re} {s:Nat},In u x->In u y->x*y=1->Bd s (co u x)->Bd (P s) (co u y)) (hx:In (r::u) x) (e:x*y=1) (hb:Bd s (co (r::u) x)):Bd (s+E+P (2*s+2*E+R+1)) (co (r::u) y):=by
 obtain⟨p,q,d,a,rfl⟩:=CM.1 hx;have hr:=CO h;obtain⟨D,F,G,U,h3⟩:=hb;rw[Cr h d a rfl] at U h3;obtain⟨A,B⟩:=DN.app.1 U;obtain⟨mp,S⟩:=MX.app.1 h3;obtain⟨K,H,j,hm⟩:=M.dn;obtain⟨z,k0,k1,k2,k3⟩:=L;have N:DN z (co u (AN u r)):=by rw[Ez h];exact k2
 have J:MX (2^R) (co u (AN u r)):=by rw[Ez h];exact k3
 have Z:Bd (2*s+2*E+R+1) (co u (p*p-q*q*AN u r)):=by
  refine⟨D*D*K*z*K,Nat.mul_pos (Nat.mul_pos (Nat.mul_pos (Nat.mul_pos F F) H) k0) H,?_,DN.IJ h.1 (Ar h.1 d d) (Ar h.1 (Ar h.1 a a) (CG h)) ((hm d d A A).dvd ⟨z*K,by grind⟩) (hm (Ar h.1 a a) (CG h) (hm a a B B) N),
   (MX.IJ h.1 (Ar h.1 d d) (Ar h.1 (Ar h.1 a a) (CG h)) (M.mx d d mp mp) (M.mx (Ar h.1 a a) (CG h) (M.mx a a S S) J)).mono ?_⟩
  ·have:=Nat.mul_le_mul (Nat.mul_le_mul (Nat.mul_le_mul (Nat.mul_le_mul G G) j) k1) j;rw[<-Nat.pow_add,<-Nat.pow_add,<-Nat.pow_add,<-Nat.pow_add] at this;exact Nat.le_trans this (CX (by omega))
  rw[<-Nat.pow_add,<-Nat.pow_add,<-Nat.pow_add,<-Nat.pow_add,Nat.pow_succ];have T:2^(s+s+E)<=2^(2*s+2*E+R):=CX (by omega);have C:2^(s+s+E+R+E)<=2^(2*s+2*E+R):=CX (by omega);omega
 have f:=EG (Ar h.1 d d) (Ar h.1 (Ar h.1 a a) (CG h));have X:(0:Re)<1:=Re.HO.2 (show (0:Rat)<1 by decide)
 have I:p*p-q*q*AN u r≠0:=by
  intro e0;have T:(p+q*rt u r)*(p-q*rt u r)=0:=by grind
  rcases Re.FH T with C | C
  ·rw[C] at e;grind
  obtain⟨e3,e4⟩:=indep h d (Fc a) (Bp u) (Bp u) (show p+ -q*rt u r=0+0*rt u r by grind);have:p+q*rt u r=0:=by grind
  rw[this] at e;grind
 obtain⟨i,g,n⟩:=EF h.1 f I;obtain⟨V,O,Q,o,v⟩:=Y f g n Z
 have W:y=p*i+ -(q*i)*rt u r:=by
  have:y=(p+q*rt u r)*y*((p-q*rt u r)*i):=by
   have:(p+q*rt u r)*y*((p-q*rt u r)*i)=y*((p*p-q*q*AN u r)*i):=by grind
   rw[this,n];grind
  rw[e] at this
  grind
 rw[W,Cr h (Ar h.1 d g) (Fc (Ar h.1 a g)) rfl,Jv h.1 (Ar h.1 a g)];have m1:=M.mx d g mp v;have m2:=M.mx a g S v;rw[<-Nat.pow_add,<-Nat.pow_add] at m1 m2;refine⟨D*V*K,Nat.mul_pos (Nat.mul_pos F O) H,?_,DN.app.2 ⟨hm d g A o,(hm a g B o).neg⟩,MX.app.2 ⟨m1.mono (CX (by omega)),(m2.mono (CX (by omega))).neg⟩⟩;have:=Nat.mul_le_mul (Nat.mul_le_mul G Q) j;rw[<-Nat.pow_add,<-Nat.pow_add] at this;exact Nat.le_trans this (CX (by omega))
end
end Go.Abs
namespace Go.Abs
variable {E:Nat} {u w:List (List Rat)} {x:Re}
theorem jf (hu:Ab u) (hw:Ab w) (h:BK u w):∀{v:List (List Rat)},Ab v->BK v w->BK (ext u v) w
 | [],_,_=>h
 | r::v,a,d=>by
  have g:=jf hu hw h a.1 d.tail;rw[ext]
  by_cases f:Sq (ext u v) (AN v r)
  ·rw[EW f];exact g
  rw[D9 f];refine Io hw g ?_;rw[Kc ((HW hu a.1).2 _ (CG a))];exact d.root
theorem jd:∀(v:List (List Rat)) {u:List (List Rat)} {x:Re},Ab (v++u)->In u x->cf (v++u) x 0=cf u x 0
 | [],_,_,_,_=>rfl
 | r::v,u,x,h,a=>by
  rw[List.cons_append,Hu (u:=v++u) h (Li v _ a) (Bp _) (by grind) (DG _)];exact jd v h.1 a
theorem jc (h:Ab u):cf u 1 0=1:=by
 rw[cf,show (1:Re)=Re.ofRat 1 from rfl,Ih 1 h];rfl
theorem jA (hu:Ab u) (hw:Ab w) (h:BK u w) (g:In u x):cf u x 0=cf w x 0:=by
 obtain⟨ht,f⟩:=HW hu hw;have a:=jf hu hw h hw (BK.refl w);have i:=OE u w;have d:=Lj i;obtain⟨v,e⟩:=i;have k1:=jx ht hw a f (OP _);rw[jH ht (OP _),jH hw (OP _),jc ht,jc hw] at k1;have k2:=jx ht hw a f (d _ g);rw[jH ht (d _ g),jH hw (h _ g)] at k2
 have n:((2^w.length:Nat):Rat)≠0:=fun e=>by
  have:=Rat.natCast_inj.1 (e.trans (show (0:Rat)=((0:Nat):Rat) from rfl));have:=DG w.length;omega
 have j:cf (ext u w) x 0=cf w x 0:=by grind
 rw[<-j,<-e];exact (jd v (e ▸ ht) g).symm
theorem jt (hw:Ab w) (M:Ml w E):∀{u:List (List Rat)} {k:Nat},Ab u->BK u w->Rb w u k->∃Y:Nat->Re,(∀i,In u (Y i))/\(∀{x:Re},In u x->∀i,i<2^u.length->cf u x i=cf w (x*Y i) 0)/\
  ∃D:Nat,0<D/\D<=2^(k+u.length*E)/\∀i,i<2^u.length->DN D (co w (Y i))/\MX (2^(k+u.length*E)) (co w (Y i))
 | [],k,hu,d,z=>by
  have z:k=0:=z;subst z;refine⟨fun _=>1,fun _=>OP _,fun {x} A i n=>?_,1,by decide,by simp,fun i _=>?_⟩
  ·have:i=0:=by have n:i<1:=n;omega
   subst this;rw[show x*1=x by grind];exact jA hu hw d A
  have e:co w (1:Re)=1::List.replicate (2^w.length-1) 0:=Ih 1 hw
  have hm:∀q∈co w (1:Re),q=1\/q=0:=fun q a=>by
   rw[e] at a;rcases List.mem_cons.1 a with h | h
   ·exact .inl h
   exact .inr (List.eq_of_mem_replicate h)
  refine⟨fun q a=>?_,fun q a=>?_⟩
  ·rcases hm q a with rfl | rfl
   ·exact⟨1,by decide +kernel⟩
   exact⟨0,by decide +kernel⟩
  rcases hm q a with rfl | rfl
  ·simp only[List.length_nil,Nat.zero_mul,Nat.add_zero,Nat.pow_zero];exact⟨by decide +kernel,by decide +kernel⟩
  simp only[List.length_nil,Nat.zero_mul,Nat.add_zero,Nat.pow_zero];exact⟨by decide +kernel,by decide +kernel⟩
 | r::u,k,hu,d,z=>by
  obtain⟨k1,k2,rfl,F,y,O,D2,d1,d2,d3,d4⟩:=z;obtain⟨Y,y1,y2,D,Q,I,J⟩:=jt hw M hu.1 d.tail F;obtain⟨K,K0,Kl,S⟩:=M.dn;have T:=CO hu;have H:AN u r≠0:=by have:=hu.2.2.1;grind
  obtain⟨s,N,G⟩:=EF hu.1 (CG hu) H
  have L:y=s*rt u r:=by
   have:y=y*(AN u r*s):=by rw[G];grind
   rw[this,<-T];have:y*(rt u r*rt u r*s)=(y*rt u r)*(s*rt u r):=by grind
   rw[this,O];grind
  have g:In (r::u) y:=by rw[L];exact Ar hu (Ge N) (H0 u r)
  have B:=d _ g;have hlen:k1+k2+(r::u).length*E=(k1+u.length*E)+k2+E:=by rw[List.length_cons,Nat.succ_mul];omega
  refine⟨fun i=>if i<2^u.length then Y i else Y (i-2^u.length)*y,fun i=>?_,fun {x} A i n=>?_,D*D2*K,Nat.mul_pos (Nat.mul_pos Q d1) K0,?_,fun i n=>?_⟩
  ·show In (r::u) (if _ then _ else _)
   split
   ·exact Ge (y1 i)
   exact Ar hu (Ge (y1 _)) g
  ·obtain⟨p,q,o,a,e⟩:=CM.1 A
   show _=cf w (x*if _ then _ else _) 0
   split
   ·rename_i f
    rw[Hu hu o a e f,y2 o i f,<-jA hu.1 hw d.tail (Ar hu.1 o (y1 i)),<-jA hu hw d (Ar hu A (Ge (y1 i)))];exact (Hu hu (Ar hu.1 o (y1 i)) (Ar hu.1 a (y1 i)) (by rw[e];grind) (DG _)).symm
   rename_i C
   rw[Bc] at n;obtain⟨j,rfl⟩:∃j,i=2^u.length+j:=⟨i-2^u.length,by omega⟩
   rw[Nat.add_sub_cancel_left,Ht hu o a e,y2 a j (by omega),<-jA hu.1 hw d.tail (Ar hu.1 a (y1 j)),<-jA hu hw d (Ar hu A (Ar hu (Ge (y1 j)) g))];refine (Hu hu (Ar hu.1 a (y1 j)) (Ar hu.1 (Ar hu.1 o (y1 j)) N) ?_ (DG _)).symm;have:x*(Y j*y)=p*Y j*y+q*Y j*(y*rt u r):=by rw[e];grind
   rw[this,O,L];grind
  ·rw[hlen];simp only[Nat.pow_add] at I ⊢;exact Nat.mul_le_mul (Nat.mul_le_mul I d2) Kl
  show DN _ (co w (if _ then _ else _))/\MX _ (co w (if _ then _ else _))
  split
  ·rename_i f
   obtain⟨f1,f2⟩:=J i f;refine⟨(f1.mul_right (D2*K)).dvd ⟨1,by grind⟩,f2.mono ?_⟩;rw[hlen];exact CX (by omega)
  rename_i C
  rw[Bc] at n;obtain⟨f1,f2⟩:=J (i-2^u.length) (by omega);have v:=d.tail _ (y1 (i-2^u.length));refine⟨S v B f1 d3,?_⟩;have:=M.mx v B f2 d4;rw[hlen];simp only[Nat.pow_add] at this ⊢;exact this
theorem jY {k s:Nat} (hw:Ab w) (M:Ml w E) (hu:Ab u) (f:BK u w) (F:Rb w u k) (n:In u x) (G:Bd s (co w x)):Bd (s+k+(u.length+1)*E) (co u x):=by
 obtain⟨Y,y1,y2,D,z,o,r⟩:=jt hw M hu f F;obtain⟨K,K0,Kl,C⟩:=M.dn;obtain⟨D2,d1,d2,d3,d4⟩:=G;have a:=f _ n;have v:s+k+(u.length+1)*E=s+(k+u.length*E)+E:=by rw[Nat.succ_mul];omega
 have key:∀q∈co u x,∃i,i<2^u.length/\q∈co w (x*Y i):=fun q j=>by
  obtain⟨i,d,rfl⟩:=List.mem_iff_getElem.1 j;have g:i<2^u.length:=by rw[<-CQ n];exact d
  refine⟨i,g,?_⟩;have A:=y2 n i g;have H:=Ar hw a (f _ (y1 i));have h:0<(co w (x*Y i)).length:=by rw[CQ H];exact DG _
  have B:cf u x i=(co u x)[i]:=by rw[cf,List.getD_eq_getElem?_getD,List.getElem?_eq_getElem d];rfl
  have h3:cf w (x*Y i) 0=(co w (x*Y i))[0]:=by rw[cf,List.getD_eq_getElem?_getD,List.getElem?_eq_getElem h];rfl
  rw[<-B,A,h3];exact List.getElem_mem h
 refine⟨D2*D*K,Nat.mul_pos (Nat.mul_pos d1 z) K0,?_,fun q j=>?_,fun q j=>?_⟩
 ·rw[v];simp only[Nat.pow_add] at o ⊢;exact Nat.mul_le_mul (Nat.mul_le_mul d2 o) Kl
 ·obtain⟨i,d,hm⟩:=key q j;exact C a (f _ (y1 i)) d3 (r i d).1 q hm
 obtain⟨i,d,hm⟩:=key q j;have:=M.mx a (f _ (y1 i)) d4 (r i d).2 q hm;rw[v];simp only[Nat.pow_add] at this ⊢;exact this
end Go.Abs
namespace Go.Abs
theorem jZ {w:List (List Rat)} {E σ:Nat} (hw:Ab w) (M:Ml w E):∀{u:List (List Rat)},Ab u->BK u w->(∀v∈BE u,Bd σ (co w (Re.sqrt v)))->∃K:Nat,0<K/\K<=2^(u.length*(σ+E+1))/\
  ∀{x:Re} {D B:Nat},In u x->(DN D (co u x)->DN (D*K) (co w x))/\(MX B (co u x)->MX (B*2^(u.length*(σ+E+1))) (co w x))
 | [],_,_,_=>⟨1,by decide,by simp,fun {x D B} L=>by
  obtain⟨q,rfl⟩:=CI.1 L;rw[Co,Ih q hw,Nat.mul_one];refine⟨Zm,fun h=>?_⟩;rw[show B*2^(([]:List (List Rat)).length*(σ+E+1))=B by simp];exact cC h⟩
 | r::u,h,j,i=>by
  obtain⟨K,T,J,hb⟩:=jZ hw M h.1 j.tail (fun v U=>i v (List.mem_cons_of_mem _ U));obtain⟨G,H,I,hm⟩:=M.dn;obtain⟨F,S,A,z,C⟩:=i (AN u r) List.mem_cons_self;have d:In w (rt u r):=j.root;have O:(r::u).length*(σ+E+1)=u.length*(σ+E+1)+(σ+E+1):=by rw[List.length_cons,Nat.succ_mul]
  refine⟨K*(F*G),Nat.mul_pos T (Nat.mul_pos S H),?_,fun {x D B} L=>?_⟩
  ·have Q:=Nat.mul_le_mul J (Nat.mul_le_mul A I);simp only[<-Nat.pow_add] at Q;exact Nat.le_trans Q (CX (by rw[O];omega))
  obtain⟨p,q,n,o,rfl⟩:=CM.1 L;rw[Cr h n o rfl,DN.app,MX.app];have g:=j.tail _ n;have a:=j.tail _ o;refine⟨fun f=>?_,fun f=>?_⟩
  ·have k1:=(hb (B:=0) n).1 f.1;have k2:=(hb (B:=0) o).1 f.2;have N:=hm a d k2 z;exact DN.Fv hw g (Ar hw a d) (k1.dvd ⟨F*G,by grind⟩) (N.dvd ⟨1,by grind⟩)
  have k1:=(hb (D:=0) n).2 f.1;have k2:=(hb (D:=0) o).2 f.2;have N:=M.mx a d k2 C;refine (MX.Fv hw g (Ar hw a d) k1 N).mono ?_
  have e:B*2^(u.length*(σ+E+1))*2^σ*2^E=B*2^(u.length*(σ+E+1)+σ+E):=by
   rw[Nat.mul_assoc,Nat.mul_assoc,<-Nat.pow_add,<-Nat.pow_add];congr 2;omega
  rw[e,<-Nat.mul_add];refine Nat.mul_le_mul_left B ?_;have h3:2^(u.length*(σ+E+1))<=2^(u.length*(σ+E+1)+σ+E):=CX (by omega);rw[O,show u.length*(σ+E+1)+(σ+E+1)=u.length*(σ+E+1)+σ+E+1 by omega,Nat.pow_succ];omega
theorem jR {w:List (List Rat)} {σ κ ν:Nat}:∀{u:List (List Rat)},(∀v∈BE u,Wv w σ κ ν v)->Rb w u (u.length*κ)
 | [],_=>by show _=0;simp
 | r::u,h=>by
  obtain⟨y,d,hb⟩:=(h (AN u r) List.mem_cons_self).inv;exact⟨u.length*κ,κ,by rw[List.length_cons,Nat.succ_mul],jR (fun v a=>h v (List.mem_cons_of_mem _ a)),y,d,hb⟩
section
variable {w u:List (List Rat)} {E σ κ ν m:Nat}
theorem jD (hw:Ab w):∀{u:List (List Rat)},Ab u->(∀v∈BE u,In w (Re.sqrt v))->BK u w
 | [],_,_=>Ip w
 | r::u,h,a=>Io hw (jD hw h.1 (fun v hm=>a v (List.mem_cons_of_mem _ hm))) (a (AN u r) List.mem_cons_self)
theorem jU (hw:Ab w) (M:Ml w E):∀{u:List (List Rat)},Ab u->u.length<=m+1->(∀v∈BE u,Wv w σ κ ν v)->TB (ν+m*κ+(m+1)*E) u
 | [],_,_,_=>fun r j=>by simp at j
 | r::u,h,i,f=>fun s d=>by
  rw[List.length_cons] at i;have a:∀v∈BE u,Wv w σ κ ν v:=fun v hm=>f v (List.mem_cons_of_mem _ hm)
  rcases List.mem_cons.1 d with rfl | d
  ·have g:=jD hw h.1 (fun v hm=>(a v hm).root);have:=jY hw M h.1 g (jR a) (CG h) (f _ List.mem_cons_self).vb;rw[Ez h] at this;refine this.mono ?_;have n:=Nat.mul_le_mul_right κ (show u.length<=m by omega);have o:=Nat.mul_le_mul_right E (show u.length+1<=m+1 by omega);omega
  exact jU hw M h.1 (by omega) a s d
theorem kC {u v:List (List Rat)} {s:Nat} {x:Re} (hw:Ab w) (M:Ml w E) (hu:Ab u) (i:Ab v) (f:∀z∈BE u,Wv w σ κ ν z) (g:∀z∈BE v,Wv w σ κ ν z) (l1:u.length<=m) (l2:v.length<=m) (h:BK u v) (a:El u s x):El v (s+m*(σ+E+1)+m*κ+(m+1)*E) x:=by
 have j:=jD hw hu (fun z d=>(f z d).root);have n:=jD hw i (fun z d=>(g z d).root);obtain⟨K,k0,k1,k2⟩:=jZ hw M hu j (fun z d=>(f z d).rb);obtain⟨D,d0,d1,d2,d3⟩:=a.bd
 have hb:Bd (s+u.length*(σ+E+1)) (co w x):=by
  refine⟨D*K,Nat.mul_pos d0 k0,?_,(k2 (B:=0) a.mem).1 d2,?_⟩
  ·rw[Nat.pow_add];exact Nat.mul_le_mul d1 k1
  rw[Nat.pow_add];exact (k2 (D:=0) a.mem).2 d3
 refine⟨h _ a.mem,(jY hw M i n (jR g) (h _ a.mem) hb).mono ?_⟩;have o:=Nat.mul_le_mul_right (σ+E+1) l1;have r:=Nat.mul_le_mul_right κ l2;have a3:=Nat.mul_le_mul_right E (show v.length+1<=m+1 by omega);omega
end
theorem Tf.all {P:List (List Rat)->Prop} {R0:Nat} (I:Db P R0) {B:Re->Prop} (i:∀{r u},P (r::u)->B (AN u r)) {u:List (List Rat)} (h:Tf P u):∀v∈Go.Abs.BE u,B v:=by
 induction h with
 | nil=>intro v a;simp[Go.Abs.BE] at a
 | @Ax u n o ht d j g=>
  by_cases f:Sq u (AN o n)
  ·rw[EW f];exact g
  rw[D9 f];intro v a;rcases List.mem_cons.1 a with rfl | a
  ·rw[Df (j _ (CG (I.red d)))];exact i d
  exact g v a
end Go.Abs
namespace Go.Abs
section
variable {P:List (List Rat)->Prop} {R0:Nat}
theorem Tf.kG (I:Db P R0) {V:List Re} (hV:∀{u},P u->∀v∈Go.Abs.BE u,v∈V) (h3:V.length<=3) {R C S:Nat} (hR:R0+CC 1 R0 1 R0<=R) (f:R<=S) (j:CC 3 R 3 R<=C) (g:∀h,h<=3->Fit h R (S+C)) (n:2*(S+C)+EE 3 R<=60000000000000):Gam (Tf P) R C S:=by
 have hm:∀{u},Tf P u->u.length<=3:=fun {u} h=>Nat.le_trans (h.len I hV) h3
 have a:∀{u},Tf P u->TB R u:=fun {u} h=>(h.jw I hV h3).2.mono hR
 refine⟨fun {u} h=>⟨h.red I,a h,by omega,by have:=hm h;omega⟩,fun {u} h=>by have:=hm h;omega,.nil,fun {r u} h=>h.sub I,fun {t r u} ht h d=>ht.RI I h d,fun {u w s x} hu hw d i=>?_,fun {u} h=>g _ (hm h),fun {u} h=>?_,f⟩
 ·refine (i.Be (hw.red I) (a hw) (hu.red I) (a hu) d).mono ?_;have:=JV (k:=u.length) (k':=3) (R0:=R) (Hj:=R) (h:=w.length) (h':=3) (R:=R) (R':=R) (hm hu) (Nat.le_refl _) (hm hw) (Nat.le_refl _);omega
 have:=He (h:=u.length) (h':=3) (R:=R) (R':=R) (hm h) (Nat.le_refl _);omega
end
end Go.Abs
namespace Go.Abs
theorem kE:∀h,h<=3->Fit h Rn (Sm+Cn)
 |0,_|1,_|2,_|3,_=>⟨by decide +kernel,by decide +kernel,by decide +kernel,by decide +kernel⟩
 | _+4,h=>absurd h (by omega)
theorem kD:∀h,h<=3->Dm h Rn (Sm+Cn)
 |0,_|1,_|2,_|3,_=>⟨by decide +kernel,by decide +kernel,by decide +kernel,by decide +kernel⟩
 | _+4,h=>absurd h (by omega)
theorem kY:2*(Sm+Cn)+EE 3 Rn<=60000000000000:=by decide +kernel
theorem kJ {P:List (List Rat)->Prop} (I:Db P 256) {V:List Re} (hV:∀{u},P u->∀v∈BE u,v∈V) (h3:V.length<=3) {S:Nat} (a:Rn<=S) (f:S<=Sm):Cv (Tf P) Rn Cn S:=
 {Tf.kG I hV h3 (by decide +kernel:256+CC 1 256 1 256<=Rn) a (by decide +kernel:CC 3 Rn 3 Rn<=Cn) (fun h d=>(kE h d).mono (by omega)) (Nat.le_trans (by omega) kY) with HB:=fun {u} hu=>(kD _ (Nat.le_trans (hu.len I hV) h3)).mono (by omega)}
end Go.Abs
namespace Go.Abs
section
variable {P:List (List Rat)->Prop} {V:List Re}
theorem kI (I:Db P 256) (hV:∀{u},P u->∀v∈Go.Abs.BE u,v∈V) (h3:V.length<=3) {C S:Nat} (i:Ce<=C) (f:C<=Cn) (a:Rn<=S) (d:S<=Sm):Cv (Tf P) Rn C S:=
 have G:=kJ I hV h3 a d
 {G with
  Be:=fun hu hw g h=>(Tf.Sk I hV h3 hu hw g h).mono (by omega)
  fit:=fun hu=>(G.fit hu).mono (by omega)
  mul:=fun hu=>by have:=G.mul hu;omega
  HB:=fun hu=>(G.HB hu).mono (by omega)}
end
end Go.Abs
namespace Go.Abs
theorem El.Ax {u:List (List Rat)} {n x:Re} {s:Nat} (hu:Ab u) (h:Ab (Ax u n)) (a:El u s x):El (Ax u n) s x:=by
 by_cases f:Sq u n
 ·rw[EW f];exact a
 rw[D9 f] at h ⊢;have d:El u 0 0:=El.rat hu Gb;have:=Y4 h a.mem d.mem a.bd d.bd;rw[show x+0*rt u (co u n)=x by grind] at this;exact⟨Ge a.mem,this⟩
section
variable {P:List (List Rat)->Prop} {V:List Re} {w:List (List Rat)} {n:Re}
theorem lO (I:Db P 256) (hV:∀{u},P u->∀v∈Go.Abs.BE u,v∈V) (h3:V.length<=3) (hw:Tf P w) (ha:∀{u},Tf P u->BK u w) {z:List (List Rat)} (F:Ab z) (a:∀{s x},El w s x->El z s x) {r:List Rat} {u:List (List Rat)} (h:Tf P (r::u)):Wv z 2032990 46909868 R4 (AN u r):=by
 have d:=h.red I;have f:=Tf.Sk I hV h3 h hw (ha h) (Im d);have j:In (r::u) (AN u r):=Ge (CG d);have o:AN u r≠0:=by have:=d.2.2.1;grind
 have n:rt u r≠0:=fun e=>o (by rw[<-CO d,e];grind)
 obtain⟨y,B,g⟩:=EF (hw.red I) f.mem n;have C:=LM (hw.red I) (hw.Kj I hV h3) f.mem B g f.bd;have i:El w 46909868 y:=⟨B,C.mono (Nat.le_trans (Kr (Nat.le_trans (hw.len I hV) h3) (Nat.le_refl _) (Nat.le_refl _)) (by decide +kernel))⟩
 have b3:El (r::u) (Rn+0) (AN u r):=by
  have A:El u 0 0:=El.rat d.1 Gb;have hb:Bd Rn (co u (AN u r)):=by rw[Ez d];exact (h.Kj I hV h3).head
  have:=Y4 d (CG d) A.mem hb A.bd;rw[show AN u r+0*rt u r=AN u r by grind] at this;exact⟨j,this⟩
 have D:=Tf.Sk I hV h3 h hw (ha h) b3;exact⟨(a f).mem,(a f).bd.mono (by decide),⟨y,by rw[<-g];exact Re.mul_comm _ _,(a i).bd⟩,(a D).bd.mono (by decide)⟩
theorem j4 (I:Db P 256) (hV:∀{u},P u->∀v∈Go.Abs.BE u,v∈V) (h3:V.length<=3) (hw:Tf P w) (a:El w R4 n) (K:0<n):Wv (Ax w n) 2032990 46909868 R4 n:=by
 have d:=hw.red I;have B:=hw.Kj I hV h3;have D:w.length<=3:=Nat.le_trans (hw.len I hV) h3;have r:n≠0:=by grind
 have g:Re.sqrt n*Re.sqrt n=n:=Re.E9 (by grind);have F:Re.sqrt n≠0:=fun e=>r (by rw[<-g,e];grind)
 by_cases f:Sq w n
 ·rw[EW f];have hm:=(Ki (by grind)).1 f;have b1:=Ri d B hm g a.bd
  have j:Bd 2032990 (co w (Re.sqrt n)):=b1.mono (by
   have:=QM (h:=w.length) (h':=3) (R:=Rn) (R':=Rn) D (Nat.le_refl _);have e:GG 3 Rn=112490:=by decide +kernel
   have O:R4=1920500:=rfl;omega)
  obtain⟨y,N,z⟩:=EF d hm F;have b2:=LM d B hm N z j;exact⟨hm,j,⟨y,by rw[<-z];exact Re.mul_comm _ _,b2.mono (Nat.le_trans (Kr D (Nat.le_refl _) (Nat.le_refl _)) (by decide +kernel))⟩,a.bd⟩
 have C:=PL d a.mem K f;have G:∀{s x},El w s x->El (Ax w n) s x:=fun L=>El.Ax d (by rw[D9 f];exact C) L
 have A:=Im C;rw[Kc a.mem] at A;obtain⟨i,H,o⟩:=EF d a.mem r;have b2:=LM d B a.mem H o a.bd;have z0:El w 0 0:=El.rat d Gb;have b3:=Y4 C z0.mem H z0.bd b2;rw[Kc a.mem,show (0:Re)+i*Re.sqrt n=i*Re.sqrt n by grind] at b3;refine⟨by rw[D9 f];exact A.mem,by rw[D9 f];exact A.bd.mono (by decide),⟨i*Re.sqrt n,?_,?_⟩,(G a).bd⟩
 ·have J:i*Re.sqrt n*Re.sqrt n=i*(Re.sqrt n*Re.sqrt n):=by grind
  have:i*Re.sqrt n*Re.sqrt n=n*i:=by rw[J,g];exact Re.mul_comm _ _
  rw[this,o]
 rw[D9 f];refine b3.mono (Nat.le_trans (Nat.add_le_add_left (Kr D (Nat.le_refl _) (Nat.le_refl _)) _) (by decide +kernel))
theorem jP (I:Db P 256) (hV:∀{u},P u->∀v∈Go.Abs.BE u,v∈V) (h3:V.length<=3) (hw:Tf P w) (d:El w R4 n) (o:0<=n):Ml (Ax w n) E4:=by
 have f:=hw.red I;have g:=hw.Kj I hV h3;have he:=He (h:=w.length) (h':=3) (R:=Rn) (R':=Rn) (Nat.le_trans (hw.len I hV) h3) (Nat.le_refl _);have j:EE 3 Rn=10794:=by decide +kernel
 have M:=Ml.of f g
 by_cases a:Sq w n
 ·rw[EW a];exact M.mono (by show _<=1942090;omega)
 have i:=PL f d.mem (by
  have:n≠0:=fun e=>a (by rw[e];exact⟨0,Bp w,by grind⟩)
  grind) a
 rw[D9 a];have r:R4=1920500:=rfl;exact (M.cons i d.bd).mono (by show _<=1942090;omega)
theorem kK (I:Db P 256) (hV:∀{u},P u->∀v∈Go.Abs.BE u,v∈V) (h3:V.length<=3) (hw:Tf P w) (r:El w R4 n) (C:0<=n) {x y:Re} {s:Nat} (a:El (Ax w n) s x) (d:In (Ax w n) y) (e:x*y=1):El (Ax w n) (47*s+44850000) y:=by
 have f:=hw.red I;have j:=hw.Kj I hV h3;have o:w.length<=3:=Nat.le_trans (hw.len I hV) h3;have he:=He (h:=w.length) (h':=3) (R:=Rn) (R':=Rn) o (Nat.le_refl _);have B:EE 3 Rn=10794:=by decide +kernel
 have i:∀s,II w.length Rn s<=23*s+151098:=fun s=>Nat.le_trans (Kr o (Nat.le_refl _) (Nat.le_refl _)) (by simp only[II,EE,Rn];omega)
 refine⟨d,?_⟩
 by_cases g:Sq w n
 ·rw[EW g] at a d ⊢;exact (LM f j a.mem d e a.bd).mono (by have:=i s;omega)
 have A:=PL f r.mem (by
  have:n≠0:=fun e=>g (by rw[e];exact⟨0,Bp w,by grind⟩)
  grind) g
 rw[D9 g] at a d ⊢;have:=Ml.inv (P:=fun s=>II w.length Rn s) A (Ml.of f j) r.bd (fun a d e hb=>LM f j a d e hb) a.mem e a.bd;refine this.mono ?_;have z:=i (2*s+2*EE w.length Rn+R4+1)
 show s+EE w.length Rn+II w.length Rn (2*s+2*EE w.length Rn+1920500+1)<=_
 have z:II w.length Rn (2*s+2*EE w.length Rn+1920500+1)<=23*(2*s+2*EE w.length Rn+1920500+1)+151098:=i _;omega
theorem Tf.Hb (I:Db P 256) {u v:List (List Rat)} (h:u<:+v) (a:Tf P v):Tf P u:=by
 obtain⟨t,rfl⟩:=h
 induction t with
 | nil=>exact a
 | cons r t d=>exact d (a.sub I)
theorem P4.sub (I:Db P 256) {r:List Rat} {u:List (List Rat)} (h:P4 P n (r::u)):P4 P n u:=by
 rcases h with h |⟨f,h,a,d⟩
 ·exact .inl (I.sub h)
 exact .inr ⟨f,h,a,(List.suffix_cons r u).trans d⟩
theorem P4.red (I:Db P 256) (a:0<=n) {u:List (List Rat)} (h:P4 P n u):Ab u:=by
 rcases h with h |⟨g,h,d,f⟩
 ·exact I.red h
 exact Uy f (PJ (h.red I) d a)
theorem P4.top (I:Db P 256) {r:List Rat} {u:List (List Rat)} (h:P4 P n (r::u)):Tf P (r::u)\/(In u n/\¬Sq u n/\AN u r=n):=by
 rcases h with h |⟨g,h,f,a⟩
 ·exact .inl (Tf.of I h)
 by_cases d:Sq g n
 ·rw[EW d] at a;exact .inl (h.Hb I a)
 rw[D9 d] at a;rcases List.suffix_cons_iff.1 a with e | a
 ·obtain⟨rfl,rfl⟩:=List.cons.inj e;exact .inr ⟨f,d,Df f⟩
 exact .inl (h.Hb I a)
theorem P4.len (I:Db P 256) (hV:∀{u},P u->∀v∈Go.Abs.BE u,v∈V) {u:List (List Rat)} (h:P4 P n u):∀v∈Go.Abs.BE u,v∈n::V:=by
 induction u with
 | nil=>intro v a;simp[Go.Abs.BE] at a
 | cons r u d=>
  intro v a;rcases List.mem_cons.1 a with rfl | a
  ·rcases h.top I with h |⟨_,_,e⟩
   ·exact List.mem_cons_of_mem _ (h.BE I hV _ List.mem_cons_self)
   rw[e];exact List.mem_cons_self
  exact d (h.sub I) v a
theorem jV (I:Db P 256) (hV:∀{u},P u->∀v∈Go.Abs.BE u,v∈V) (h3:V.length<=3) (hw:Tf P w) (ha:∀{u},Tf P u->BK u w) (a:El w R4 n) (f:0<=n) {r:List Rat} {u:List (List Rat)} (h:P4 P n (r::u)):Wv (Ax w n) 2032990 46909868 R4 (AN u r):=by
 have d:Ab (Ax w n):=PJ (hw.red I) a.mem f;rcases h.top I with h |⟨j,g,e⟩
 ·exact lO I hV h3 hw ha d (fun i=>El.Ax (hw.red I) d i) h
 rw[e]
 exact j4 I hV h3 hw a (by
  have:n≠0:=fun e=>g (by rw[e];exact⟨0,Bp u,by grind⟩)
  grind)
theorem jh (I:Db P 256) (hV:∀{u},P u->∀v∈Go.Abs.BE u,v∈V) (h3:V.length<=3) (hw:Tf P w) (ha:∀{u},Tf P u->BK u w) (f:El w R4 n) (d:0<=n):Db (P4 P n) Rf:=by
 have j:Ab (Ax w n):=PJ (hw.red I) f.mem d;have M:=jP I hV h3 hw f d;refine⟨fun h=>P4.red I d h,fun {u} h=>?_,fun h=>P4.sub I h⟩;have g:=P4.red I d h
 have i:u.length<=4:=by
  have:=I8 (Hc g) (P4.len I hV h);rw[JT,List.length_cons] at this;omega
 have a:∀v∈Go.Abs.BE u,Wv (Ax w n) 2032990 46909868 R4 v:=by
  clear i g
  induction u with
  | nil=>intro v a;simp[Go.Abs.BE] at a
  | cons r u o=>
   intro v a;rcases List.mem_cons.1 a with rfl | a
   ·exact jV I hV h3 hw ha f d h
   exact o (P4.sub I h) v a
 exact (jU (m:=3) j M g i a).mono (by decide)
theorem Tf.jG (I:Db P 256) (hV:∀{u},P u->∀v∈Go.Abs.BE u,v∈V) (h3:V.length<=3) (J:Db (P4 P n) Rf) {u:List (List Rat)} (h:Tf (P4 P n) u):u.length<=4:=by
 have:=h.len J (V:=n::V) (fun a=>P4.len I hV a);rw[List.length_cons] at this;omega
theorem Tf.jQ (I:Db P 256) {u:List (List Rat)} (h:Tf P u):Tf (P4 P n) u:=by
 induction h with
 | nil=>exact .nil
 | Ax _ d a f=>exact .Ax f (.inl d) a
theorem Tf.jX (I:Db P 256) {u:List (List Rat)} (h:Tf P u) (a:In u n):Tf (P4 P n) (Go.Abs.Ax u n):=by
 by_cases d:Sq u n
 ·rw[EW d];exact h.jQ I
 have:=Tf.Ax (h.jQ I (n:=n)) (show P4 P n (co u n::u) from .inr ⟨u,h,a,by rw[D9 d];exact List.suffix_refl _⟩) (BK.refl u);rwa [Df a] at this
end
end Go.Abs
namespace Go.Abs
section
variable {P:List (List Rat)->Prop} {V:List Re} {w:List (List Rat)} {n:Re}
theorem kH (I:Db P 256) (hV:∀{u},P u->∀v∈Go.Abs.BE u,v∈V) (h3:V.length<=3) (hw:Tf P w) (ha:∀{u},Tf P u->BK u w) (f:El w R4 n) (d:0<=n) {S:Nat} (j:Rf<=S) (o:S<=Mf):Cv (Tf (P4 P n)) Rf Cf S:=by
 have J:=jh I hV h3 hw ha f d;have i:Ab (Ax w n):=PJ (hw.red I) f.mem d;have M:=jP I hV h3 hw f d;have g:∀{u},Tf (P4 P n) u->∀v∈Go.Abs.BE u,Wv (Ax w n) 2032990 46909868 R4 v:=fun {u} h=>Tf.all J (fun z=>jV I hV h3 hw ha f d z) h
 refine Z7 J (fun {u} h=>(jU (m:=3) i M (h.red J) (h.jG I hV h3 J) (g h)).mono (by decide)) (fun h=>h.jG I hV h3 J) (fun {u v s x} hu a r A=>(kC (m:=4) i M (hu.red J) (a.red J) (g hu) (g a) (hu.jG I hV h3 J) (a.jG I hV h3 J) r A).mono ?_) j o
 show s+4*(2032990+1942090+1)+4*46909868+(4+1)*1942090<=s+214500000
 omega
end
end Go.Abs
namespace Go.Abs
open Go.RowKit
section
variable {P:List (List Rat)->Prop} {V:List Re} {w:List (List Rat)}
theorem Pl.fe (L:Pl P V w):Fe (Tf P) w:=by
 refine⟨fun {S} f g=>kI L.I L.hV L.h3 (by decide) (by decide) f (Nat.le_trans g (by decide)),L.hw,L.ha,by decide,by decide,fun a d=>(L.mul a d).mono (by omega),fun a d e=>L.inv a d e,fun {u} hu=>?_⟩;exact Nat.le_trans (Kr (L.len hu) (Nat.le_refl _) (Nat.le_refl _)) (Nat.le_trans (aK _) (by decide))
theorem Pl.jL (L:Pl P V w) {n:Re} (a:El w R4 n) (d:0<=n):Fd (Tf (P4 P n)) (Ax w n):=by
 have J:=jh L.I L.hV L.h3 L.hw L.ha a d;have h:Ab (Ax w n):=PJ (L.hw.red L.I) a.mem d;have M:=jP L.I L.hV L.h3 L.hw a d;refine⟨fun {S} i j=>kH L.I L.hV L.h3 L.hw L.ha a d i (Nat.le_trans j (by decide)),L.hw.jX L.I a.mem,fun {u} hu=>jD h (hu.red J) (fun v r=>(Tf.all J (fun o=>jV L.I L.hV L.h3 L.hw L.ha a d o) hu v r).root),by decide,by decide,fun {x y s t} f g=>⟨Ar h f.mem g.mem,(M.bd f.mem g.mem f.bd g.bd).mono (by show s+t+1942090<=s+t+1950000;omega)⟩,fun f g e=>(kK L.I L.hV L.h3 L.hw a d f g e).mono (by omega),fun {u} hu=>?_⟩;exact Nat.le_trans (Kr (hu.jG L.I L.hV L.h3 J) (Nat.le_refl _) (Nat.le_refl _)) aJ
theorem Pl.lift (L:Pl P V w) {n:Re} (o:In w n) (a:0<=n) {b k b' k':Nat} {T:List LR} {A:LR} {x:Re} (h:Nm (Tf P) w b k T A x) (j:k*b<=k'*b'):Nm (Tf (P4 P n)) (Ax w n) b' k' T A x:=by
 obtain⟨u,d,f,h3,g,i⟩:=h;exact⟨u,d.jQ L.I,f,h3,g,(El.Ax (L.hw.red L.I) (PJ (L.hw.red L.I) o a) i).mono j⟩
end
theorem j5 {X:List (el Bf)} {W:List UInt8} {ns:List Nu} (f:ns=(runN (X.take 24)).1) {V:List Re} (d:V.length<=3) (a:∀n∈ns,BY V n) {w:List (List Rat)} (L:Pl (PN ns) V w):∃T A x,(∀{b k:Nat},227018<=k*b->Nm (Tf (PN ns)) w b k T A x)/\CF 31 [.agg [.sl Bf X,.sl .u8 W]] (.agg [.sl (.sl AA) T,.sl AA A]):=
 ⟨_,_,_,fun hb=>KJ L a (Lt ns (ns.length-1)) hb,g0 f d a rfl rfl rfl⟩
end Go.Abs
