/- Part 39 of a proof. Conditions: each theorem's own. -/
import Derived.Test.YtjpiilcgomggaaaGreatPk34
import Derived.Test.YtjpiilcgomggaaaGreatPk36
set_option linter.all false
set_option maxHeartbeats 8000000
open Go.Proofs
namespace Go.Abs
open Go.RowKit
structure Cu (h R s:Nat):Prop where
 q:SS h R s<=60000000000000
 v:VV h R (s+GG h R)<=60000000000000
 qR:SS h R R<=60000000000000
 vR:VV h R R<=60000000000000
variable {A B:LR} {R':Nat} {T T2:List LR} {r:List Rat} {u:List (List Rat)} {v x:Re}
theorem Cu.v0 {h R s:Nat} (f:Cu h R s):VV h R s<=60000000000000:=Nat.le_trans (FQ h R (by omega)) f.v
theorem Cu.s {h R s:Nat} (f:Cu h R s):s<=60000000000000:=Nat.le_trans (OE h R s) f.q
theorem Cu.mono {h R s t:Nat} (f:Cu h R s) (ht:t<=s):Cu h R t:=⟨Nat.le_trans (JJ h R ht) f.q,Nat.le_trans (FQ h R (by omega)) f.v,f.qR,f.vR⟩
theorem UK:∀(h R s:Nat),SS h R s<=SS (h+1) R s:=fun h R s=>Nat.le_trans (JJ h R (by unfold TQ;omega)) (OD h R s)
theorem UJ {i h:Nat} (a:i<=h) (R s:Nat):SS i R s<=SS h R s:=by
 induction a with
 | refl=>exact Nat.le_refl _
 | step _ b=>exact Nat.le_trans b (UK _ _ _)
theorem VI {R s:Nat} (h:AU R u) (hT:T=tw u) (hA:A=em u x) (hx:El u s x) (o:Cu u.length R s) {w:Re} (hw:In u w) (d:w*w=x) (D:FT u x w) (j:0<=v) (k:v*v=x) (y:B=em u v):CF 232 [.one (.sl (.sl AA) T),.one (.sl AA A)] (.AG [(false,[.sl AA B]),(false,[.bool true])]):=by
 have l:=hx.sqrt h hw d;refine AE Tryz.func232 (by kernel_rfl) rfl fun E n=>?_
 conv=>cbv
 obtain⟨H,a⟩:=xR (em u w);refine cL n (D hT hA a) t2 ?_;try conv=>cbv
 intro F m;cases m.trans (rfl:_=false);conv=>cbv
 obtain⟨G,g⟩:=xI (Ao w);refine cL n (Eb h hT a l o.v (Nat.le_trans (Dn _ _ _) o.v) o.vR g) t2 ?_;try conv=>cbv
 intro t f;conv=>cbv
 refine .inr ?_;cases t <;> conv=>cbv
 ·have p:=AR f;exact fA ⟨⟨rfl,congrArg _ (by rw[y,a];congr 1;have:¬w<0:=(fun z=>by have:=Fb.2 z;omega);exact Re.Fq j (by grind) (k.trans d.symm)),trivial⟩,t2,trivial⟩ rfl (by simp)
 have p:=AS f;obtain⟨I,b⟩:=xR (em u (-w));refine cL n (G9 h a l b) t2 ?_;try conv=>cbv
 exact fA ⟨⟨rfl,congrArg _ (by rw[y,b];congr 1;have:w<0:=Fb.1 (by omega);exact Re.Fq j (by grind) (by rw[k,<-d];grind)),trivial⟩,t2,trivial⟩ rfl (by simp)
theorem VH {B:LR} {R s:Nat} (h:AU R u) (hT:T=tw u) (hA:A=em u x) (hx:El u s x) (g:Cu u.length R s) {l:LR} (d:FR u x l):CF 232 [.one (.sl (.sl AA) T),.one (.sl AA A)] (.AG [(false,[.sl AA (([]:LR))]),(false,[.bool false])]):=by
 refine AE Tryz.func232 (by kernel_rfl) rfl fun E b=>?_
 conv=>cbv
 refine cL b (d hT hA) t2 ?_;try conv=>cbv
 intro f a;cases a.trans (rfl:_=true);conv=>cbv
 exact fA ⟨⟨rfl,.inr (.inl ⟨_,rfl⟩),trivial⟩,t2,trivial⟩ rfl (by simp)
theorem VJ {R s:Nat} (h:AU R u) (hT:T=tw u) (hA:A=em u x) (hx:El u s x) (b:Cu u.length R s) (k:In u v) (f:0<=v) (a:v*v=x) (j:B=em u v):CF 232 [.one (.sl (.sl AA) T),.one (.sl AA A)] (.AG [(false,[.sl AA B]),(false,[.bool true])]):=by
 rcases Nq h hx b.q b.vR with⟨w,hw,g,l⟩ |⟨d,_⟩
 ·exact VI h hT hA hx b hw g l f a j
 exact absurd ⟨v,k,a⟩ d
theorem VG {R s:Nat} (h:AU R u) (hT:T=tw u) (hA:A=em u x) (hx:El u s x) (a:Cu u.length R s) (b:¬Sq u x):CF 232 [.one (.sl (.sl AA) T),.one (.sl AA A)] (.AG [(false,[.sl AA []]),(false,[.bool false])]):=by
 rcases Nq h hx a.q a.vR with⟨w,hw,d,g⟩ |⟨_,l,f⟩
 ·exact absurd ⟨w,hw,d⟩ b
 exact VH (B:=[]) h hT hA hx a f
theorem Lb {R:Nat} (h:AU R u) (hT:T=tw u) (hv:VV u.length R R<=60000000000000) (hq:SS u.length R R<=60000000000000):CF 27 [.one (.sl (.sl AA) T)] (.one (.bool true)):=by
 have ah:T.length=u.length:=by rw[hT,Au]
 have hR:=h.hR;refine AE Tryz.func27 (by kernel_rfl) rfl fun E U=>?_
 conv=>cbv
 refine .inr ?_;obtain⟨J0,g⟩:=xJ fun vs bl k=>∃(i':Nat) (i:Int),vs=[.one (.sl (.sl AA) T),.one (.int .i64 i)]/\(AK i i'/\i'<=T.length)/\k=T.length-i'
 refine⟨[0,3],[],J0,⟨T.length-0,by rw[g];exact⟨0,0,rfl,⟨Ai 0,by omega⟩,rfl⟩⟩,?_⟩;intro vs bl ak hj;rw[g] at hj;obtain⟨i',i,rfl,⟨hi,ai⟩,aj⟩:=hj;conv=>cbv
 have ei:=hi.eq;rintro n8 ⟨e8,f8⟩;conv=>cbv
 intro n9 h9;conv=>cbv
 cases n9 <;> conv=>cbv
 ·have k9:=AR h9;exact fA ⟨t2,trivial⟩ rfl (by simp)
 have k9:=AS h9;refine .inr ?_;intro al ad;conv=>cbv
 refine g2 (by omega) ?_;intro N a8;conv=>cbv
 intro X F;conv=>cbv
 obtain⟨a5,b⟩:=AF (l:=T) (i:=i') (by omega);refine⟨a5,fun _=>⟨by omega,by rw[show (i).toNat=i' by omega];exact b⟩,?_⟩;try conv=>cbv
 obtain⟨r,L,J⟩:=GP (u:=u) (i:=i') (by omega);have p:AQ (r::pre u i'):=L ▸ (h.pre (i'+1)).red;have s:∀x,T[i']? =some x->x=em (pre u i') (AI (pre u i') r):=fun x hx=>by rw[<-hT,hx] at J;exact (Option.some.inj J).trans (Cj p)
 have v:=s _ b;have o:El (pre u i') R (AI (pre u i') r):=El.Br (L ▸ h.pre (i'+1));have j:X=tw (pre u i'):=by rw[F,List.drop_zero,show N=i' by omega,hT,Fi]
 have I:(pre u i').length<=u.length:=by rw[GO (by omega)];omega
 have t:VV (pre u i').length R R<=60000000000000:=Nat.le_trans (H9 I R R) hv;have V:SS (pre u i').length R R<=60000000000000:=Nat.le_trans (UJ I R R) hq;refine cL U (IA (h.pre i') j v o hR) t2 ?_;try conv=>cbv
 intro aq Q;cases Q.trans (rfl:_=false);conv=>cbv
 intro an ae;conv=>cbv
 refine g2 (by omega) ?_;intro O aa;conv=>cbv
 intro Y G;conv=>cbv
 obtain⟨a6,d⟩:=AF (l:=T) (i:=i') (by omega);refine⟨a6,fun _=>⟨by omega,by rw[show (i).toNat=i' by omega];exact d⟩,?_⟩;try conv=>cbv
 have m:Y=tw (pre u i'):=by rw[G,List.drop_zero,show O=i' by omega,hT,Fi]
 have y:=s _ d;obtain⟨ar,a⟩:=xI (Ao (AI (pre u i') r));refine cL U (Eb (h.pre i') m y o t hR t a) t2 ?_;try conv=>cbv
 intro a2 D;conv=>cbv
 refine g2 rfl ?_;cases a2 <;> conv=>cbv
 ·have M:=Hd D;intro ao af;conv=>cbv
  refine g2 (by omega) ?_;intro P ab;conv=>cbv
  intro Z H;conv=>cbv
  obtain⟨a7,f⟩:=AF (l:=T) (i:=i') (by omega);refine⟨a7,fun _=>⟨by omega,by rw[show (i).toNat=i' by omega];exact f⟩,?_⟩;try conv=>cbv
  have n:Z=tw (pre u i'):=by rw[H,List.drop_zero,show P=i' by omega,hT,Fi]
  have z:=s _ f;obtain⟨l,hn⟩:=((Nq (h.pre i') o V t).resolve_left (fun⟨w,hw,W,_⟩=>p.2.2.2 ⟨w,hw,W⟩)).2;refine cL U (hn n z) t2 ?_;try conv=>cbv
  refine g2 rfl ?_;intro a1 ag;conv=>cbv
  refine g1 (by omega) ?_;refine⟨T.length-(i'+1),?_,?_⟩
  ·omega
  rw[g];exact⟨i'+1,a1,rfl,⟨⟨by omega⟩,by omega⟩,rfl⟩
 have M:=He D;exact absurd M (by rw[a,Ev p.2.2.1];omega)
theorem UW {R s:Nat} (h:AU R u) (hT:T=tw u) (hA:A=em u x) (hx:El u s x) (g:Cu u.length R s) (o:In u v) (j:0<=v) (d:v*v=x) (n:B=em u v):CF 201 [.one (.sl (.sl AA) T),.one (.sl AA A)] (.AG [(false,[.sl (.sl AA) T]),(false,[.sl AA B]),(false,[.int .i64 0])]):=by
 have k:0<=x:=by rw[<-d];exact Re.Na v
 refine AE Tryz.func201 (by kernel_rfl) rfl fun E m=>?_
 conv=>cbv
 obtain⟨p,a⟩:=xI (Ao x);refine cL m (Eb h hT hA hx g.v0 g.s g.vR a) t2 ?_;try conv=>cbv
 intro l b;conv=>cbv
 cases l <;> conv=>cbv
 ·have f:=AR b;refine cL m (VJ h hT hA hx g o j d n) t2 ?_;try conv=>cbv
  exact fA ⟨t2,t2,t2,trivial⟩ rfl (by simp)
 have f:=AS b;exact (GK a f k).elim
theorem UX {R s:Nat} (h:AU R u) (hT:T=tw u) (hA:A=em u x) (hx:El u s x) (y:Cu u.length R s) (Z:u.length<8) (J:0<=x) (I:¬Sq u x) (V:r=co u x) (h':AU R' (r::u)) (F:T2=tw (r::u)) (Q:B=em (r::u) (rt u r)):CF 201 [.one (.sl (.sl AA) T),.one (.sl AA A)] (.AG [(false,[.sl (.sl AA) T2]),(false,[.sl AA B]),(false,[.int .i64 0])]):=by
 have G:T.length=u.length:=by rw[hT,Au]
 have U:=h.ht;refine AE Tryz.func201 (by kernel_rfl) rfl fun E D=>?_
 conv=>cbv
 obtain⟨Y,f⟩:=xI (Ao x);refine cL D (Eb h hT hA hx y.v0 y.s y.vR f) t2 ?_;try conv=>cbv
 intro L l;conv=>cbv
 cases L <;> conv=>cbv
 ·have t:=AR l;refine cL D (VG h hT hA hx y I) t2 ?_;try conv=>cbv
  rintro W ⟨P,f24⟩;conv=>cbv
  intro M m;conv=>cbv
  cases M <;> conv=>cbv
  ·have v:=DC m;refine⟨[],fun _=>⟨rfl,by decide,rfl,trivial⟩,.inl ?_⟩;try conv=>cbv
   refine .inl ⟨T,fun _=>⟨rfl,rfl,rfl,by show (0+T.length)*24<=140737488355328;(try simp only[List.length_take,List.length_drop]);omega⟩,?_⟩;intro (b:List (el (.sl AA))) N g;have d:b=([]:List (el (.sl AA)))++(T:List (el (.sl AA))):=g.1;have o:N=List.length (α:=(el (.sl AA))) b:=g.2;conv=>cbv
   refine⟨[A],fun _=>⟨rfl,by decide,rfl,⟨rfl,by first | exact t1 | exact t2 | exact t4 | simp[Ae,Ak,cells],trivial⟩⟩,.inr ?_⟩;try conv=>cbv
   have H:b.length=T.length:=by rw[d];simp
   refine .inr ⟨[A],fun _=>⟨rfl,o,rfl,by show (b.length+1)*24<=140737488355328;(try simp only[List.length_take,List.length_drop]);omega⟩,?_⟩;intro (k:List (el (.sl AA))) O j;have n:k=(b:List (el (.sl AA)))++([A]:List (el (.sl AA))):=j.1;have p:O=List.length (α:=(el (.sl AA))) k:=j.2;conv=>cbv
   refine⟨fun _=>p,?_⟩;rintro X ⟨z,f35⟩;conv=>cbv
   have a:k=tw (r::u):=by rw[n,d,hT,I9,hA,em,V];rfl
   refine cL D (Uq h' a (AK.of (z.trans (congrArg _ G))) Q) t2 ?_;try conv=>cbv
   exact fA ⟨⟨rfl,congrArg _ (by rw[F,a]),trivial⟩,t2,t2,trivial⟩ rfl (by simp)
  have v:=DD m;exact absurd v (by omega)
 have t:=AS l;exact (GK f t J).elim
theorem Ur {R s:Nat} (h:AU R u) (hT:T=tw u) (hA:A=em u x) (hx:El u s x) (a:Cu u.length R s) (l:In u v) (f:0<=v) (g:v*v=x) (k:B=em u v):CF 157 [.one (.sl (.sl AA) T),.one (.sl AA A)] (.AG [(false,[.sl (.sl AA) T]),(false,[.sl AA B]),(false,[.int .i64 0])]):=by
 refine AE Tryz.func157 (by kernel_rfl) rfl fun E d=>?_
 conv=>cbv
 refine cL d (Lb h hT a.vR a.qR) t1 ?_;try conv=>cbv
 intro n j;cases j.trans (rfl:_=false);conv=>cbv
 refine cL d (IA h hT hA hx a.s) t2 ?_;try conv=>cbv
 intro m b;cases b.trans (rfl:_=false);conv=>cbv
 refine cL d (UW h hT hA hx a l f g k) t2 ?_;try conv=>cbv
 exact fA ⟨t2,t2,t2,trivial⟩ rfl (by simp)
theorem Us {R s:Nat} (h:AU R u) (hT:T=tw u) (hA:A=em u x) (hx:El u s x) (a:Cu u.length R s) (k:u.length<8) (j:0<=x) (g:¬Sq u x) (n:r=co u x) (h':AU R' (r::u)) (f:T2=tw (r::u)) (m:B=em (r::u) (rt u r)):CF 157 [.one (.sl (.sl AA) T),.one (.sl AA A)] (.AG [(false,[.sl (.sl AA) T2]),(false,[.sl AA B]),(false,[.int .i64 0])]):=by
 refine AE Tryz.func157 (by kernel_rfl) rfl fun E d=>?_
 conv=>cbv
 refine cL d (Lb h hT a.vR a.qR) t1 ?_;try conv=>cbv
 intro p l;cases l.trans (rfl:_=false);conv=>cbv
 refine cL d (IA h hT hA hx a.s) t2 ?_;try conv=>cbv
 intro o b;cases b.trans (rfl:_=false);conv=>cbv
 refine cL d (UX h hT hA hx a k j g n h' f m) t2 ?_;try conv=>cbv
 exact fA ⟨t2,t2,t2,trivial⟩ rfl (by simp)
theorem LZ {R s:Nat} (h:AU R u) (h':AU R' (Aa u v)) (j:(Aa u v).length<=8) (hT:T=tw u) (hA:A=em u v) (hx:El u s v) (k:Cu u.length R s) (f:0<=v) (a:T2=tw (Aa u v)) (b:B=em (Aa u v) (Re.sqrt v)):
  CF 157 [.one (.sl (.sl AA) T),.one (.sl AA A)] (.AG [(false,[.sl (.sl AA) T2]),(false,[.sl AA B]),(false,[.int .i64 0])]):=by
 by_cases d:Sq u v
 ·rw[CY d] at a b;have g:T2=T:=a.trans hT.symm;subst g;exact Ur h hT hA hx k ((Hv f).1 d) (Re.DO v) (Re.CB f) b
 rw[C4 d] at h' j a b;rw[<-Gs hx.mem] at b;exact Us h hT hA hx k (by rw[List.length_cons] at j;omega) f d rfl h' a b
end Go.Abs
namespace Go.Abs
open Go.RowKit
variable {R i:Nat} {c:Bool} {u w:List (List Rat)}
theorem TG {α:Type} {X Y:List α} {x y:α} (hx:X[i]? =some x) (a:Y[i]? =some y) (h:X.take i=Y.take i) (e:x=y):X.take (i+1)=Y.take (i+1):=by
 rw[BG hx,BG a,h,e]
theorem TH {α:Type} {X Y:List α} {n:Nat} {x y:α} (hx:X[i]? =some x) (d:Y[i]? =some y) (b:i<n) (e:x≠y):X.take n≠Y.take n:=by
 intro h;apply e;have a:(X.take n)[i]? =(Y.take n)[i]? :=by rw[h]
 rw[List.getElem?_take,List.getElem?_take,if_pos b,if_pos b,hx,d] at a;exact Option.some.inj a
theorem VK {X Y:LR} {xs ys:List Rat} (hX:X=AW xs) (hY:Y=AW ys) (hs:Cd xs) (ht:Cd ys) (y:c=decide (X=Y)):CF 161 [.one (.sl AA X),.one (.sl AA Y)] (.one (.bool c)):=by
 refine AE Tryz.func161 (by kernel_rfl) rfl fun E hE=>?_
 conv=>cbv
 rintro n7 ⟨e7,f7⟩;conv=>cbv
 rintro n9 ⟨e9,f9⟩;conv=>cbv
 intro J j;conv=>cbv
 cases J <;> conv=>cbv
 ·have G:=DK j;refine .inr ?_;obtain⟨W,f⟩:=xJ fun V Z k=>∃(i':Nat) (i:Int),V=[.one (.sl AA X),.one (.sl AA Y),.one (.int .i64 i)]/\(AK i i'/\i'<=Y.length/\Y.length<=X.length)/\X.take i'=Y.take i'/\k=Y.length-i'
  refine⟨[0,1,5],[],W,⟨Y.length-0,by rw[f];exact⟨0,0,rfl,⟨Ai 0,by omega,by omega⟩,rfl,rfl⟩⟩,?_⟩;intro V Z aa P;rw[f] at P;obtain⟨i',i,rfl,⟨hi,a5,v⟩,hinv,a6⟩:=P;conv=>cbv
  have ei:=hi.eq;rintro ab ⟨a1,f13⟩;conv=>cbv
  intro L m;conv=>cbv
  cases L <;> conv=>cbv
  ·have H:=AR m;have hl:X.length=Y.length:=by omega
   exact fA ⟨⟨rfl,congrArg _ (by rw[y,decide_eq_true];have:=hinv;rwa [List.take_of_length_le (by omega),List.take_of_length_le (by omega)] at this),trivial⟩,trivial⟩ rfl (by simp)
  have H:=AS m;refine .inr ?_;obtain⟨g,a⟩:=AF (l:=X) (i:=i') (by omega);refine⟨g,fun _=>⟨by omega,by rw[show (i).toNat=i' by omega];exact a⟩,?_⟩;try conv=>cbv
  obtain⟨h,b⟩:=AF (l:=Y) (i:=i') (by omega);refine⟨h,fun _=>⟨by omega,by rw[show (i).toNat=i' by omega];exact b⟩,?_⟩;try conv=>cbv
  obtain⟨p,Q,a7,D⟩:=Ek hX hs a;obtain⟨q,U,a8,F⟩:=Ek hY ht b;have s:g=rp p:=Q.rp.symm;have t:h=rp q:=U.rp.symm;obtain⟨O,d⟩:=xI (D5 p q);refine cL hE (OU Q U D F d) ⟨t4,t4,trivial⟩ ?_;try conv=>cbv
  intro N o;conv=>cbv
  refine g2 rfl ?_;cases N <;> conv=>cbv
  ·have I:=DK o;intro M a2;conv=>cbv
   refine g1 (by omega) ?_;refine⟨Y.length-(i'+1),?_,?_⟩
   ·omega
   rw[f];exact⟨i'+1,M,rfl,⟨⟨by omega⟩,by omega,v⟩,TG a b hinv (by rw[s,t];congr 1;have:=Jg p q;rw[<-d,show O=0 by omega] at this;exact of_decide_eq_true this),rfl⟩
  have I:=DL o;have z:g≠h:=fun e=>by have e2:=NM (s.symm.trans (e.trans t));have:=Jg p q;rw[decide_eq_true e2,<-d] at this;simp at this;omega
  exact fA ⟨⟨rfl,congrArg _ (by rw[y,decide_eq_false];intro e;exact TH (n:=i'+1) a b (by omega) z (by rw[e])),trivial⟩,trivial⟩ rfl (by simp)
 have G:=DL j;exact fA ⟨⟨rfl,congrArg _ (by rw[y,decide_eq_false];intro e;have:=congrArg List.length e;omega),trivial⟩,trivial⟩ rfl (by simp)
theorem Uu {X Y:List LR} (hu:AU R u) (hw:AU R w) (Z:X=tw u) (hY:Y=tw w) (t:c=(decide (Y.length<=X.length)&&decide (X.take Y.length=Y))):CF 96 [.one (.sl (.sl AA) X),.one (.sl (.sl AA) Y)] (.one (.bool c)):=by
 refine AE Tryz.func96 (by kernel_rfl) rfl fun E W=>?_
 conv=>cbv
 rintro n7 ⟨e7,f7⟩;conv=>cbv
 rintro n9 ⟨e9,f9⟩;conv=>cbv
 intro H m;conv=>cbv
 cases H <;> conv=>cbv
 ·have D:=BZ m;refine .inr ?_;obtain⟨O,g⟩:=xJ fun N Q k=>∃(i':Nat) (i:Int),N=[.one (.sl (.sl AA) X),.one (.sl (.sl AA) Y),.one (.int .i64 i)]/\(AK i i'/\i'<=Y.length/\Y.length<=X.length)/\X.take i'=Y.take i'/\k=Y.length-i'
  refine⟨[0,1,5],[],O,⟨Y.length-0,by rw[g];exact⟨0,0,rfl,⟨Ai 0,by omega,by omega⟩,rfl,rfl⟩⟩,?_⟩;intro N Q a5 M;rw[g] at M;obtain⟨i',i,rfl,⟨hi,a1,s⟩,hinv,a2⟩:=M;conv=>cbv
  have ei:=hi.eq;rintro a6 ⟨U,f13⟩;conv=>cbv
  intro I o;conv=>cbv
  cases I <;> conv=>cbv
  ·have F:=AR o;exact fA ⟨⟨rfl,congrArg _ (by rw[t,decide_eq_true (show Y.length<=X.length by omega),decide_eq_true];rfl;rw[show Y.length=i' by omega,hinv,List.take_of_length_le (by omega)]),trivial⟩,trivial⟩ rfl (by simp)
  have F:=AS o;refine .inr ?_;obtain⟨h,a⟩:=AF (l:=X) (i:=i') (by omega);refine⟨h,fun _=>⟨by omega,by rw[show (i).toNat=i' by omega];exact a⟩,?_⟩;try conv=>cbv
  obtain⟨j,b⟩:=AF (l:=Y) (i:=i') (by omega);refine⟨j,fun _=>⟨by omega,by rw[show (i).toNat=i' by omega];exact b⟩,?_⟩;try conv=>cbv
  obtain⟨p,hp,y⟩:=Gj Z a;obtain⟨q,hq,z⟩:=Gj hY b;obtain⟨P,d⟩:=xB (decide (h=j));refine cL W (VK hp hq ((hu.tb p (List.mem_reverse.1 (List.mem_of_getElem? y))).BC hu.hR) ((hw.tb q (List.mem_reverse.1 (List.mem_of_getElem? z))).BC hw.hR) d) t2 ?_;try conv=>cbv
  intro L f;conv=>cbv
  refine g2 rfl ?_;cases L <;> conv=>cbv
  ·have G:=Co f;intro J V;conv=>cbv
   refine g1 (by omega) ?_;refine⟨Y.length-(i'+1),?_,?_⟩
   ·omega
   rw[g];exact⟨i'+1,J,rfl,⟨⟨by omega⟩,by omega,s⟩,TG a b hinv (of_decide_eq_true (by rw[<-d];exact Co f)),rfl⟩
  have G:=Cp f;have v:h≠j:=of_decide_eq_false (by rw[<-d];exact Cp f);exact fA ⟨⟨rfl,congrArg _ (by rw[t,decide_eq_false (p:=X.take Y.length=Y),Bool.and_false];intro e;exact TH (n:=Y.length) a b (by omega) v (by rw[e,List.take_length])),trivial⟩,trivial⟩ rfl (by simp)
 have D:=Ba m;exact fA ⟨⟨rfl,congrArg _ (by rw[t,decide_eq_false (show ¬Y.length<=X.length by omega)];rfl),trivial⟩,trivial⟩ rfl (by simp)
theorem Dq {X Y:List LR} (hu:AU R u) (hw:AU R w) (a:X=tw u) (b:Y=tw w) (h:c=true↔w<:+u):CF 96 [.one (.sl (.sl AA) X),.one (.sl (.sl AA) Y)] (.one (.bool c)):=
 Uu hu hw a b (by rw[Bool.eq_iff_iff,h,Nc,Bool.and_eq_true,decide_eq_true_eq,decide_eq_true_eq,a,b])
theorem E9 {T:List LR} {A C:LR} {x:Re} (h:AU R w) (hT:T=tw w) (hA:A=em u x) (hx:In u x) (hu:u<:+w) (hC:C=em w x):CF 98 [.one (.sl (.sl AA) T),.one (.sl AA A)] (.one (.sl AA C)):=by
 have L:T.length=w.length:=by rw[hT,Au]
 have a5:=h.ht;have a2:A.length=2^u.length:=by rw[hA,Ap hx]
 have O:=hu.length_le;have hle:2^u.length<=2^w.length:=Bh O;have X:=B5 h.ht;have z:=QD hu h.red hx;refine AE Tryz.func98 (by kernel_rfl) rfl fun E hE=>?_
 conv=>cbv
 refine⟨[],fun _=>⟨rfl,by decide,rfl,trivial⟩,.inl ?_⟩;try conv=>cbv
 refine .inl ⟨A,fun _=>⟨rfl,rfl,rfl,by show (0+A.length)*64<=140737488355328;(try simp only[List.length_take,List.length_drop]);omega⟩,?_⟩;intro (G:LR) Y F;have s:G=([]:LR)++(A:LR):=F.1;have N:Y=List.length (α:=(el AA)) G:=F.2;conv=>cbv
 refine .inr ?_;obtain⟨J0,p⟩:=xJ fun Z U k=>∃(o:LR) (mm j:Nat),Z=[.one (.sl (.sl AA) T),.one (.AL AA 6 0 0 mm)]/\U=[.arr 0 AA o]/\(mm=o.length/\o.length=2^u.length+j/\o.length<=2^w.length)/\o=A++List.replicate j (rp 0)/\k=2^w.length-o.length
 refine⟨[0,5],[6],J0,⟨2^w.length-G.length,by rw[p];exact⟨G,Y,0,rfl,rfl,⟨N,by rw[s];simp;omega,by rw[s];simp;omega⟩,by rw[s];simp,rfl⟩⟩,?_⟩;intro Z U aa V;rw[p] at V;obtain⟨o,mm,j,rfl,rfl,⟨v,a7,a8⟩,hinv,a6⟩:=V;conv=>cbv
 intro ab I;have a1:=I.eq;conv=>cbv
 rintro ad ⟨H,f12⟩;conv=>cbv
 intro ae J;conv=>cbv
 refine g2 (by omega) ?_;have W:=(DE J (H.trans (congrArg _ L)) (by omega)).eq;intro Q t;conv=>cbv
 cases Q <;> conv=>cbv
 ·have P:=AR t;exact fA ⟨⟨rfl,.inl ⟨_,rfl,by omega,congrArg _ (by rw[hC,v,List.drop_zero,List.take_length,hinv,z,hA,show j=2^w.length-2^u.length by omega])⟩,trivial⟩,trivial⟩ rfl (by simp)
 have P:=AS t;refine .inr ?_;obtain⟨f,g,b,d,m⟩:=A9 (((0:Int):Rat));refine cL hE (Dp (by omega) rfl m) t1 ?_;try conv=>cbv
 refine⟨[((f,g),(b,d))],fun _=>⟨rfl,by decide,rfl,⟨rfl,by first | exact t1 | exact t2 | exact t4 | simp[Ae,Ak,cells],trivial⟩⟩,.inr ?_⟩;try conv=>cbv
 refine .inl ⟨[((f,g),(b,d))],fun _=>⟨rfl,v,rfl,by show (o.length+1)*64<=140737488355328;(try simp only[List.length_take,List.length_drop]);omega⟩,?_⟩;intro (a:LR) D n;have l:a=(o:LR)++([((f,g),(b,d))]:LR):=n.1;have y:D=List.length (α:=(el AA)) a:=n.2;conv=>cbv
 have M:a.length=o.length+1:=by rw[l];simp
 refine⟨2^w.length-a.length,?_,?_⟩
 ·omega
 rw[p];exact⟨a,D,j+1,rfl,rfl,⟨y,by omega,by omega⟩,by rw[l,hinv,List.replicate_succ',List.append_assoc,<-m.rp];rfl,rfl⟩
end Go.Abs
namespace Go.Abs
open Go.RowKit
structure CP (T:List (List Rat)->Prop) (R C S:Nat):Prop extends Gam T R C S where
 F8:∀{u},T u->Cu u.length R (S+C)
def OM (S:Nat) (w u:List (List Rat)):Prop:=∀{T RL:List LR} {A C:LR} {x:Re},T=tw w->Db w RL u->A=em u x->El u S x->C=em w x->
 CF 99 [.one (.sl (.sl AA) T),.one (.sl (.sl AA) RL),.one (.sl AA A)] (.one (.sl AA C))
def ON (S:Nat) (w u:List (List Rat)):Prop:=∀{T RL:List LR} {A C:LR} {x:Re} {mm:Nat},T=tw w->Db w RL u->mm=RL.length->A=em u x->El u S x->C=em w x->
 Da Tryz.prog 99 [.one (.sl (.sl AA) T),.one (.AL (.sl AA) 0 0 0 mm),.one (.sl AA A)] (.arr 0 (.sl AA) RL) (.one (.sl AA C))
variable {A C:LR} {K R S mm:Nat} {RL T:List LR} {TT:List (List Rat)->Prop} {p x:Re} {q:Rat} {r:List Rat} {u w:List (List Rat)}
theorem Uy {u:List (List Rat)} {x:Re} (G:Gam TT R K S) (hw:TT w) (hT:T=tw w) (hA:A=em [] (Re.ofRat q)) (p:BF q) (m:C=em w (Re.ofRat q)):CF 99 [.one (.sl (.sl AA) T),.one (.sl (.sl AA) RL),.one (.sl AA A)] (.one (.sl AA C)):=by
 have d:A=[rp q]:=hA.trans (Cg q);have k:A.length=1:=by rw[d];rfl
 refine AE Tryz.func99 (by kernel_rfl) rfl fun E n=>?_
 conv=>cbv
 rintro o ⟨j,f12⟩;conv=>cbv
 intro g b;conv=>cbv
 cases g <;> conv=>cbv
 ·have f:=Ac b;exact absurd f (by omega)
 have f:=Ad b;obtain⟨h,a⟩:=AF (l:=A) (i:=0) (by omega);refine⟨h,fun _=>⟨by omega,a⟩,?_⟩;try conv=>cbv
 refine cL n (EG (G.AN hw) hT (C8 d a) m) ⟨rfl,t4,trivial⟩ ?_;try conv=>cbv
 exact fA ⟨t2,trivial⟩ rfl (by simp)
theorem Uz (G:Gam TT R K S) (hw:TT w) (hT:T=tw w) {q:Re} (hu:TT (r::u)) (b:Av (r::u) w) (ih:OM S w u) (hR:Db w RL (r::u)) (hA:A=em (r::u) x) (hx:El (r::u) S x) (o:x=p+q*rt u r) (P:El u S p) (L:El u S q) (hC:C=em w x):CF 99 [.one (.sl (.sl AA) T),.one (.sl (.sl AA) RL),.one (.sl AA A)] (.one (.sl AA C)):=by
 have n:=(G.AN hu).red;have v:A.length=2^u.length+2^u.length:=by rw[hA,Ap hx.mem,BE]
 have ay:=Cc u.length;have av:(r::u).length<=8:=G.ht hu;have af:(r::u).length=u.length+1:=rfl;have hmul:=G.mul hw;have a:El w K (rt u r):=by have:=G.BA hu hw b (F6 n);rwa [Nat.zero_add] at this
 obtain⟨wk,a1,M,D⟩:=hR.2;obtain⟨rk,N⟩:=xR (em wk (rt u r));rw[<-N] at D;refine AE Tryz.func99 (by kernel_rfl) rfl fun E y=>?_
 conv=>cbv
 rintro aC ⟨aj,f12⟩;conv=>cbv
 intro a7 s;conv=>cbv
 cases a7 <;> conv=>cbv
 ·have O:=Ac s;rintro aD ⟨ak,f20⟩;conv=>cbv
  intro a8 aq;conv=>cbv
  refine g2 ⟨by omega,by omega,i64 (by omega)⟩ ?_;refine .inr ?_;obtain⟨J0,j⟩:=xJ fun vs bl k=>∃(k':Nat) (Q U:Int),vs=[.one (.sl (.sl AA) T),.one (.sl (.sl AA) RL),.one (.sl AA A),.one (.int .i64 Q),.one (.int .i64 U)]/\bl=[]/\(AK Q (A.length/2)/\AK U k'/\k'<=u.length)/\k=u.length-k'
  refine⟨[0,1,2,7,8],[],J0,⟨u.length-0,by rw[j];exact⟨0,a8,0,rfl,rfl,⟨⟨by omega⟩,Ai 0,by omega⟩,rfl⟩⟩,?_⟩;intro vs bl az hj;rw[j] at hj;obtain⟨k',Q,U,rfl,rfl,⟨z,Y,ax⟩,aw⟩:=hj;conv=>cbv
  have an:=z.eq;have ao:=Y.eq;intro aE ar;conv=>cbv
  refine g1 (by omega) ?_;intro aF X;conv=>cbv
  refine g2 (by omega) ?_;rintro aG ⟨al,f26⟩;conv=>cbv
  have ah:=(DE (k:=k'+1) X (by omega) (by omega)).eq;intro aa t;conv=>cbv
  cases aa <;> conv=>cbv
  ·have a2:=AR t;have Z:k'=u.length:=by have:=HZ v (show ¬2^(k'+1)<A.length by omega);omega
   intro aA ag;conv=>cbv
   refine g2 (by omega) ?_;intro W ae;conv=>cbv
   intro a5 H;conv=>cbv
   have l:a5=em u p:=by rw[H,List.drop_zero,show W=A.length/2 by omega,hA,BY n P.mem L.mem o]
   obtain⟨aH,d⟩:=xR (em w (p));refine cL y (ih hT hR.1 l P d) t3 ?_;try conv=>cbv
   intro aB J;conv=>cbv
   refine g2 (by omega) ?_;rintro V ai ⟨ad,F⟩;conv=>cbv
   intro a6 I;conv=>cbv
   have m:a6=em u q:=by rw[I,show V=A.length/2 by omega,F,J,List.take_length,hA,BL n P.mem L.mem o]
   obtain⟨aI,f⟩:=xR (em w (q));refine cL y (ih hT hR.1 m L f) t3 ?_;try conv=>cbv
   refine g2 rfl ?_;refine⟨rk,fun _=>⟨by omega,by rw[show U.toNat=u.length by omega];exact D⟩,?_⟩;try conv=>cbv
   obtain⟨aJ,g⟩:=xR (em w (rt u r));refine cL y (E9 (G.AN hw) hT N M a1 g) t2 ?_;try conv=>cbv
   obtain⟨aK,h⟩:=xR (em w (q*rt u r));refine cL y (Cf (G.AN hw) hT f g (G.BA (G.sub hu) hw b.tail L) a (by omega) h) t3 ?_;try conv=>cbv
   refine cL (r:= .one (.sl AA C)) y (Gc (G.AN hw) d h (G.BA (G.sub hu) hw b.tail P) ((G.BA (G.sub hu) hw b.tail L).mul (G.AN hw) a) (by omega) (by omega) (by rw[hC,o])) t3 ?_;try conv=>cbv
   exact fA ⟨t2,trivial⟩ rfl (by simp)
  have a2:=AS t;refine .inr ?_;have Z:k'<u.length:=Ha v (show 2^(k'+1)<A.length by omega);intro ab au;conv=>cbv
  refine g1 (by omega) ?_;refine⟨u.length-(k'+1),?_,?_⟩
  ·omega
  rw[j];exact⟨k'+1,Q,ab,rfl,rfl,⟨z,⟨by omega⟩,by omega⟩,rfl⟩
 have O:=Ad s;exact absurd O (by omega)
theorem U0 {u:List (List Rat)} {x:Re} (o:mm=RL.length) (G:Gam TT R K S) (hw:TT w) (hT:T=tw w) (hA:A=em [] (Re.ofRat q)) (s:BF q) (m:C=em w (Re.ofRat q)):Da Tryz.prog 99 [.one (.sl (.sl AA) T),.one (.AL (.sl AA) 0 0 0 mm),.one (.sl AA A)] (.arr 0 (.sl AA) RL) (.one (.sl AA C)):=by
 have d:A=[rp q]:=hA.trans (Cg q);have k:A.length=1:=by rw[d];rfl
 refine FX Tryz.func99 (by kernel_rfl) rfl fun E n=>?_
 conv=>cbv
 rintro p ⟨j,f12⟩;conv=>cbv
 intro g b;conv=>cbv
 cases g <;> conv=>cbv
 ·have f:=Ac b;exact absurd f (by omega)
 have f:=Ad b;obtain⟨h,a⟩:=AF (l:=A) (i:=0) (by omega);refine⟨h,fun _=>⟨by omega,a⟩,?_⟩;try conv=>cbv
 refine cL n (EG (G.AN hw) hT (C8 d a) m) ⟨rfl,t4,trivial⟩ ?_;try conv=>cbv
 refine fun _=>⟨⟨⟨t2,trivial⟩,rfl,by simp⟩,rfl⟩
theorem U1 (Q:mm=RL.length) (G:Gam TT R K S) (hw:TT w) (hT:T=tw w) {q:Re} (hu:TT (r::u)) (b:Av (r::u) w) (ih:ON S w u) (hR:Db w RL (r::u)) (hA:A=em (r::u) x) (hx:El (r::u) S x) (z:x=p+q*rt u r) (hp:El u S p) (U:El u S q) (hC:C=em w x):Da Tryz.prog 99 [.one (.sl (.sl AA) T),.one (.AL (.sl AA) 0 0 0 mm),.one (.sl AA A)] (.arr 0 (.sl AA) RL) (.one (.sl AA C)):=by
 have v:=(G.AN hu).red;have I:A.length=2^u.length+2^u.length:=by rw[hA,Ap hx.mem,BE]
 have aE:=Cc u.length;have aB:(r::u).length<=8:=G.ht hu;have ak:(r::u).length=u.length+1:=rfl;have hmul:=G.mul hw;have a:El w K (rt u r):=by have:=G.BA hu hw b (F6 v);rwa [Nat.zero_add] at this
 obtain⟨wk,a8,V,d⟩:=hR.2;obtain⟨rk,f⟩:=xR (em wk (rt u r));rw[<-f] at d;refine FX Tryz.func99 (by kernel_rfl) rfl fun E J=>?_
 conv=>cbv
 rintro aI ⟨ar,f12⟩;conv=>cbv
 intro ab F;conv=>cbv
 cases ab <;> conv=>cbv
 ·have X:=Ac F;rintro aJ ⟨au,f20⟩;conv=>cbv
  intro ad ay;conv=>cbv
  refine g2 ⟨by omega,by omega,i64 (by omega)⟩ ?_;refine .inr ?_;obtain⟨J0,o⟩:=xJ fun vs bl k=>∃(k':Nat) (hv kk:Int),vs=[.one (.sl (.sl AA) T),.one (.AL (.sl AA) 0 0 0 mm),.one (.sl AA A),.one (.int .i64 hv),.one (.int .i64 kk)]/\bl=[.arr 0 (.sl AA) RL]/\(AK hv (A.length/2)/\AK kk k'/\k'<=u.length)/\k=u.length-k'
  refine⟨[0,1,2,7,8],[0],J0,⟨u.length-0,by rw[o];exact⟨0,ad,0,rfl,rfl,⟨⟨by omega⟩,Ai 0,by omega⟩,rfl⟩⟩,?_⟩;intro vs bl aF hj;rw[o] at hj;obtain⟨k',hv,kk,rfl,rfl,⟨L,a6,aD⟩,aC⟩:=hj;conv=>cbv
  have aw:=L.eq;have ax:=a6.eq;intro aK az;conv=>cbv
  refine g1 (by omega) ?_;intro aL a5;conv=>cbv
  refine g2 (by omega) ?_;rintro aM ⟨av,f26⟩;conv=>cbv
  have ao:=(DE (k:=k'+1) a5 (by omega) (by omega)).eq;intro ae H;conv=>cbv
  cases ae <;> conv=>cbv
  ·have aa:=AR H;have a7:k'=u.length:=by have:=HZ I (show ¬2^(k'+1)<A.length by omega);omega
   intro aG an;conv=>cbv
   refine g2 (by omega) ?_;intro a2 aj;conv=>cbv
   intro Y N;conv=>cbv
   have s:Y=em u p:=by rw[N,List.drop_zero,show a2=A.length/2 by omega,hA,BY v hp.mem U.mem z]
   obtain⟨ag,g⟩:=xR (em w (p));refine .inr (.inr (.inl ⟨0,.arr 0 (.sl AA) RL,[.one (.sl (.sl AA) T),.one (.AL (.sl AA) 0 0 0 mm),.one (.sl AA Y)],.one (.sl AA ag),fun _=>⟨rfl,⟨rfl,⟨⟨rfl,rfl⟩,rfl⟩,rfl,trivial⟩⟩,fun _=>E0 J (ih hT hR.1 Q s hp g),?_⟩));try conv=>cbv
   intro aH P;conv=>cbv
   refine g2 (by omega) ?_;rintro a1 aq ⟨ai,M⟩;conv=>cbv
   intro Z O;conv=>cbv
   have t:Z=em u q:=by rw[O,show a1=A.length/2 by omega,M,P,List.take_length,hA,BL v hp.mem U.mem z]
   obtain⟨ah,h⟩:=xR (em w (q));refine .inr (.inr (.inl ⟨0,.arr 0 (.sl AA) RL,[.one (.sl (.sl AA) T),.one (.AL (.sl AA) 0 0 0 mm),.one (.sl AA Z)],.one (.sl AA ah),fun _=>⟨rfl,⟨rfl,⟨⟨rfl,rfl⟩,rfl⟩,rfl,trivial⟩⟩,fun _=>E0 J (ih hT hR.1 Q t U h),?_⟩));try conv=>cbv
   refine g2 rfl ?_;refine⟨fun _=>⟨by omega,by have:=D6 d;omega⟩,?_⟩;intro W al;conv=>cbv
   obtain⟨D,n⟩:=AF (l:=RL) (i:=W) (by have:=D6 d;omega);refine⟨D,fun _=>n,?_⟩;try conv=>cbv
   have y:D=rk:=by have:=n;rw[show W=u.length by omega,d] at this;exact (Option.some.inj this).symm
   have f:D=em wk (rt u r):=y.trans f;obtain⟨aN,j⟩:=xR (em w (rt u r));refine cL J (E9 (G.AN hw) hT f V a8 j) t2 ?_;try conv=>cbv
   obtain⟨aO,m⟩:=xR (em w (q*rt u r));refine cL J (Cf (G.AN hw) hT h j (G.BA (G.sub hu) hw b.tail U) a (by omega) m) t3 ?_;try conv=>cbv
   refine cL (r:= .one (.sl AA C)) J (Gc (G.AN hw) g m (G.BA (G.sub hu) hw b.tail hp) ((G.BA (G.sub hu) hw b.tail U).mul (G.AN hw) a) (by omega) (by omega) (by rw[hC,z])) t3 ?_;try conv=>cbv
   refine fun _=>⟨⟨⟨t2,trivial⟩,rfl,by simp⟩,rfl⟩
  have aa:=AS H;refine .inr ?_;have a7:k'<u.length:=Ha I (show 2^(k'+1)<A.length by omega);intro af aA;conv=>cbv
  refine g1 (by omega) ?_;refine⟨u.length-(k'+1),?_,?_⟩
  ·omega
  rw[o];exact⟨k'+1,hv,af,rfl,rfl,⟨L,⟨by omega⟩,by omega⟩,rfl⟩
 have X:=Ad F;exact absurd X (by omega)
theorem FV (G:Gam TT R K S) (hw:TT w):∀{u:List (List Rat)},TT u->Av u w->OM S w u:=by
 intro u
 induction u with
 | nil=>
  intro hu d T RL A C x hT hR hA hx b;obtain⟨q,rfl⟩:=Bb.1 hx.mem;have a:=hx.BC (by have:=G.mul hw;omega);rw[Bn] at a;exact Uy (u:=[]) (x:=0) G hw hT hA (a q List.mem_cons_self) b
 | cons r u h=>
  intro hu d T RL A C x hT hR hA hx b;obtain⟨p,q,f,g,a⟩:=El.parts (G.AN hu).red hx;exact Uz G hw hT hu d (h (G.sub hu) d.tail) hR hA hx f g a b
theorem Ux (G:Gam TT R K S) (hw:TT w):∀{u:List (List Rat)},TT u->Av u w->ON S w u:=by
 intro u
 induction u with
 | nil=>
  intro hu f T RL A C x mm hT hR a hA hx d;obtain⟨q,rfl⟩:=Bb.1 hx.mem;have b:=hx.BC (by have:=G.mul hw;omega);rw[Bn] at b;exact U0 (u:=[]) (x:=0) a G hw hT hA (b q List.mem_cons_self) d
 | cons r u j=>
  intro hu f T RL A C x mm hT hR a hA hx d;obtain⟨p,q,g,h,b⟩:=El.parts (G.AN hu).red hx;exact U1 a G hw hT hu f (j (G.sub hu) f.tail) hR hA hx g h b d
theorem EH {U T2:List LR} {t:List (List Rat)} (G:CP TT R K S) (ht:TT t) (hu:TT u) (hT:T=tw t) (hU:U=tw u) (a8:T2=tw (ext t u)) (a6:RL=Bj t u):CF 97 [.one (.sl (.sl AA) T),.one (.sl (.sl AA) U)] (.AG [(false,[.sl (.sl AA) T2]),(false,[.sl (.sl AA) RL]),(false,[.int .i64 0])]):=by
 have al:U.length=u.length:=by rw[hU,Au]
 have aq:=G.ht hu;have a7:=G.RS;refine AE Tryz.func97 (by kernel_rfl) rfl fun E hE=>?_
 conv=>cbv
 refine .inr ?_
 obtain⟨J0,L⟩:∃J:List AV->List AH->Nat->Prop,J=fun vs bl k=>(∃(i:Int),vs=[.one (.sl (.sl AA) T),.one (.sl (.sl AA) U),.one .nil,.one (.int .i64 i)]/\bl=[.dead 0]/\AK i 0/\k=U.length)\/
  (∃(Ti o:List LR) (mm i':Nat) (i:Int),vs=[.one (.sl (.sl AA) Ti),.one (.sl (.sl AA) U),.one (.AL (.sl AA) 38 0 0 mm),.one (.int .i64 i)]/\bl=[.arr 0 (.sl AA) o]/\(AK i i'/\i'<=U.length/\mm=o.length)/\Ti=tw (ext t (pre u i'))/\o=Bj t (pre u i')/\k=U.length-i'):=⟨_,rfl⟩
 refine⟨[0,1,7,8],[38],J0,⟨U.length,by rw[L];exact .inl ⟨0,rfl,rfl,Ai 0,rfl⟩⟩,?_⟩;intro vs bl ar hj;rw[L] at hj;rcases hj with⟨i,rfl,rfl,hi,ai⟩ |⟨Ti,o,mm,i',i,rfl,rfl,⟨hi,an,V⟩,s,hinv,ai⟩
 ·conv=>cbv
  have ei:=hi.eq;obtain⟨i',Q⟩:=xN 0;have s:T=tw (ext t (pre u i')):=by rw[Q,Hn];exact hT
  rintro aj ⟨af,f14⟩;conv=>cbv
  intro a1 y;conv=>cbv
  cases a1 <;> conv=>cbv
  ·have Y:=AR y;have ae:u=[]:=List.eq_nil_of_length_eq_zero (by omega);exact fA ⟨⟨rfl,congrArg _ (by rw[a8,hT,ae];rfl),trivial⟩,⟨rfl,.inr (.inl ⟨_,congrArg _ (by rw[a6,ae];rfl)⟩),trivial⟩,t2,trivial⟩ rfl (by simp)
  have Y:=AS y;refine .inr ?_;obtain⟨v,m⟩:=AF (l:=U) (i:=i') (by omega);refine⟨v,fun _=>⟨by omega,by rw[show (i).toNat=i' by omega];exact m⟩,?_⟩;try conv=>cbv
  obtain⟨r,p,F⟩:=GP (u:=u) (i:=i') (by omega);have d:TT (pre u i'):=G.GX (GQ u i') hu;have a:TT (r::pre u i'):=p ▸ G.GX (GQ u (i'+1)) hu;have D:=(G.AN a).red;have X:v=em (pre u i') (AI (pre u i') r):=by rw[<-hU,m] at F;exact (Option.some.inj F).trans (Cj D)
  have b:TT (ext t (pre u i')):=G.ext ht d;have n:=(GS (G.AN ht).red (G.AN d).red).2;have z:El (pre u i') S (AI (pre u i') r):=(El.Br (G.AN a)).mono a7;have H:TT (Aa (ext t (pre u i')) (AI (pre u i') r)):=G.Aa b a n;have P:ext t (pre u (i'+1))=Aa (ext t (pre u i')) (AI (pre u i') r):=by rw[p];rfl
  have W:Bj t (pre u (i'+1))=Bj t (pre u i')++[em (Aa (ext t (pre u i')) (AI (pre u i') r)) (Re.sqrt (AI (pre u i') r))]:=by rw[p];rfl
  obtain⟨a5,g⟩:=xR (em (ext t (pre u i')) (AI (pre u i') r));refine cL (r:= .one (.sl AA a5)) hE (FV G.toGam b d n s (by rw[Q,Hn];trivial) X z g) ⟨rfl,.inr ⟨_,rfl⟩,rfl,trivial⟩ ?_;try conv=>cbv
  obtain⟨I,h⟩:=xV (tw (Aa (ext t (pre u i')) (AI (pre u i') r)));obtain⟨f,j⟩:=xR (em (Aa (ext t (pre u i')) (AI (pre u i') r)) (Re.sqrt (AI (pre u i') r)));refine cL (r:= .AG [(false,[.sl (.sl AA) I]),(false,[.sl AA f]),(false,[.int .i64 0])]) hE (LZ (G.AN b) (G.AN H) (G.ht H) s g (G.BA d b n z) (G.F8 b) (by have:=D.2.2.1;grind) h j) t2 ?_;try conv=>cbv
  intro ak O;cases O.trans (show _=false by decide);conv=>cbv
  refine⟨[f],fun _=>⟨rfl,by decide,rfl,⟨rfl,by first | exact t1 | exact t2 | exact t4 | simp[Ae,Ak,cells],trivial⟩⟩,.inr ?_⟩;try conv=>cbv
  refine .inl ⟨[f],fun _=>⟨rfl,by show (1)*24<=140737488355328;(try simp only[List.length_take,List.length_drop]);omega⟩,?_⟩;intro M ah;conv=>cbv
  intro a2 ag;conv=>cbv
  refine g1 (by omega) ?_;refine⟨U.length-(i'+1),?_,?_⟩
  ·omega
  rw[L];exact .inr ⟨I,[f],M,i'+1,a2,rfl,rfl,⟨⟨by omega⟩,by omega,ah⟩,by rw[h,P],by rw[W,j,Q,Hn];rfl,rfl⟩
 conv=>cbv
 have ei:=hi.eq;have ao:o.length<=U.length:=by rw[hinv,I1,GO (by omega)];omega
 rintro aj ⟨af,f14⟩;conv=>cbv
 intro a1 y;conv=>cbv
 cases a1 <;> conv=>cbv
 ·have Y:=AR y;have ad:pre u i'=u:=by rw[show i'=u.length by omega];exact Rq u
  exact fA ⟨⟨rfl,congrArg _ (by rw[a8,s,ad]),trivial⟩,⟨rfl,.inl ⟨_,rfl,by omega,congrArg _ (by rw[a6,V,List.drop_zero,List.take_length,hinv,ad])⟩,trivial⟩,t2,trivial⟩ rfl (by simp)
 have Y:=AS y;refine .inr ?_;obtain⟨v,m⟩:=AF (l:=U) (i:=i') (by omega);refine⟨v,fun _=>⟨by omega,by rw[show (i).toNat=i' by omega];exact m⟩,?_⟩;try conv=>cbv
 obtain⟨r,p,F⟩:=GP (u:=u) (i:=i') (by omega);have d:TT (pre u i'):=G.GX (GQ u i') hu;have a:TT (r::pre u i'):=p ▸ G.GX (GQ u (i'+1)) hu;have D:=(G.AN a).red;have X:v=em (pre u i') (AI (pre u i') r):=by rw[<-hU,m] at F;exact (Option.some.inj F).trans (Cj D)
 have b:TT (ext t (pre u i')):=G.ext ht d;have n:=(GS (G.AN ht).red (G.AN d).red).2;have z:El (pre u i') S (AI (pre u i') r):=(El.Br (G.AN a)).mono a7;have H:TT (Aa (ext t (pre u i')) (AI (pre u i') r)):=G.Aa b a n;have P:ext t (pre u (i'+1))=Aa (ext t (pre u i')) (AI (pre u i') r):=by rw[p];rfl
 have W:Bj t (pre u (i'+1))=Bj t (pre u i')++[em (Aa (ext t (pre u i')) (AI (pre u i') r)) (Re.sqrt (AI (pre u i') r))]:=by rw[p];rfl
 obtain⟨a5,g⟩:=xR (em (ext t (pre u i')) (AI (pre u i') r));refine .inr (.inr (.inl ⟨38,.arr 0 (.sl AA) o,[.one (.sl (.sl AA) Ti),.one (.AL (.sl AA) 0 0 0 mm),.one (.sl AA v)],.one (.sl AA a5),fun _=>⟨rfl,⟨rfl,⟨⟨rfl,rfl⟩,rfl⟩,rfl,trivial⟩⟩,fun _=>E0 hE (Ux G.toGam b d n s (by rw[hinv];exact EC (G.AN ht).red (G.AN d).red) V X z g),?_⟩));try conv=>cbv
 obtain⟨I,h⟩:=xV (tw (Aa (ext t (pre u i')) (AI (pre u i') r)));obtain⟨f,j⟩:=xR (em (Aa (ext t (pre u i')) (AI (pre u i') r)) (Re.sqrt (AI (pre u i') r)));refine cL (r:= .AG [(false,[.sl (.sl AA) I]),(false,[.sl AA f]),(false,[.int .i64 0])]) hE (LZ (G.AN b) (G.AN H) (G.ht H) s g (G.BA d b n z) (G.F8 b) (by have:=D.2.2.1;grind) h j) t2 ?_;try conv=>cbv
 intro ak O;cases O.trans (show _=false by decide);conv=>cbv
 refine⟨[f],fun _=>⟨rfl,by decide,rfl,⟨rfl,by first | exact t1 | exact t2 | exact t4 | simp[Ae,Ak,cells],trivial⟩⟩,.inr ?_⟩;try conv=>cbv
 refine .inl ⟨[f],fun _=>⟨rfl,V,rfl,by show (o.length+1)*24<=140737488355328;(try simp only[List.length_take,List.length_drop]);omega⟩,?_⟩;intro (Z:List (el (.sl AA))) M N;have aa:Z=(o:List (el (.sl AA)))++([f]:List (el (.sl AA))):=N.1;have ab:M=List.length (α:=(el (.sl AA))) Z:=N.2;conv=>cbv
 intro a2 ag;conv=>cbv
 refine g1 (by omega) ?_;refine⟨U.length-(i'+1),?_,?_⟩
 ·omega
 rw[L];exact .inr ⟨I,Z,M,i'+1,a2,rfl,rfl,⟨⟨by omega⟩,by omega,ab⟩,by rw[h,P],by rw[aa,hinv,W,j],rfl⟩
end Go.Abs
