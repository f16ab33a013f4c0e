/- Part 39 of a proof. Conditions: each theorem's own. -/
import Derived.Test.YtoonaidhfikkeaaGreatPk34
import Derived.Test.YtoonaidhfikkeaaGreatPk36
set_option linter.all false
set_option maxHeartbeats 8000000
open Go.Proofs
namespace Go.Abs
open Go.RowKit
structure C3 (h R s:Nat):Prop where
 q:SS h R s<=60000000000000
 v:VV h R (s+GG h R)<=60000000000000
 qR:SS h R R<=60000000000000
 vR:VV h R R<=60000000000000
variable {A B:LR} {R':Nat} {T T2:List LR} {r:List Rat} {u:List (List Rat)} {v x:Re}
theorem C3.v0 {h R s:Nat} (f:C3 h R s):VV h R s<=60000000000000:=Nat.le_trans (FX h R (by omega)) f.v
theorem C3.s {h R s:Nat} (f:C3 h R s):s<=60000000000000:=Nat.le_trans (OM h R s) f.q
theorem C3.mono {h R s t:Nat} (f:C3 h R s) (ht:t<=s):C3 h R t:=⟨Nat.le_trans (JI h R ht) f.q,Nat.le_trans (FX h R (by omega)) f.v,f.qR,f.vR⟩
theorem UU:∀(h R s:Nat),SS h R s<=SS (h+1) R s:=fun h R s=>Nat.le_trans (JI h R (by unfold TQ;omega)) (OL h R s)
theorem UT {i h:Nat} (a:i<=h) (R s:Nat):SS i R s<=SS h R s:=by
 induction a with
 | refl=>exact Nat.le_refl _
 | step _ b=>exact Nat.le_trans b (UU _ _ _)
theorem VP {R s:Nat} (h:AU R u) (z:T=tw u) (D:A=em u x) (G:El u s x) (o:C3 u.length R s) {w:Re} (hw:In u w) (d:w*w=x) (H:FZ u x w) (j:0<=v) (k:v*v=x) (y:B=em u v):CF 248 [.one (.sl (.sl AA) T),.one (.sl AA A)] (.AF [(false,[.sl AA B]),(false,[.bool true])]):=by
 have l:=G.sqrt h hw d;refine AE Tryz.func248 (by kernel_rfl) rfl fun E n=>?_
 conv=>cbv
 obtain⟨L,a⟩:=xR (em u w);refine cL n (H z D a) t2 ?_;try conv=>cbv
 intro I m;cases m.trans (rfl:_=false);conv=>cbv
 obtain⟨J,g⟩:=xI (At w);refine cL n (Eb h z a l o.v (Nat.le_trans (Du _ _ _) o.v) o.vR g) t2 ?_;try conv=>cbv
 intro t f;conv=>cbv
 refine .inr ?_;cases t <;> conv=>cbv
 ·have p:=AR f;exact fA ⟨⟨rfl,congrArg _ (by rw[y,a];congr 1;have:¬w<0:=(fun F=>by have:=Fj.2 F;omega);exact Re.Fx j (by grind) (k.trans d.symm)),trivial⟩,t2,trivial⟩ rfl (by simp)
 have p:=AS f;obtain⟨M,b⟩:=xR (em u (-w));refine cL n (HB h a l b) t2 ?_;try conv=>cbv
 exact fA ⟨⟨rfl,congrArg _ (by rw[y,b];congr 1;have:w<0:=Fj.1 (by omega);exact Re.Fx j (by grind) (by rw[k,<-d];grind)),trivial⟩,t2,trivial⟩ rfl (by simp)
theorem VO {B:LR} {R s:Nat} (h:AU R u) (f:T=tw u) (b:A=em u x) (m:El u s x) (k:C3 u.length R s) {l:LR} (g:FY u x l):CF 248 [.one (.sl (.sl AA) T),.one (.sl AA A)] (.AF [(false,[.sl AA (([]:LR))]),(false,[.bool false])]):=by
 refine AE Tryz.func248 (by kernel_rfl) rfl fun E d=>?_
 conv=>cbv
 refine cL d (g f b) t2 ?_;try conv=>cbv
 intro j a;cases a.trans (rfl:_=true);conv=>cbv
 exact fA ⟨⟨rfl,.inr (.inl ⟨_,rfl⟩),trivial⟩,t2,trivial⟩ rfl (by simp)
theorem VQ {R s:Nat} (h:AU R u) (m:T=tw u) (k:A=em u x) (j:El u s x) (b:C3 u.length R s) (n:In u v) (f:0<=v) (a:v*v=x) (l:B=em u v):CF 248 [.one (.sl (.sl AA) T),.one (.sl AA A)] (.AF [(false,[.sl AA B]),(false,[.bool true])]):=by
 rcases Ny h j b.q b.vR with⟨w,hw,g,o⟩ |⟨d,_⟩
 ·exact VP h m k j b hw g o f a l
 exact absurd ⟨v,n,a⟩ d
theorem VN {R s:Nat} (h:AU R u) (j:T=tw u) (g:A=em u x) (f:El u s x) (a:C3 u.length R s) (b:¬Sq u x):CF 248 [.one (.sl (.sl AA) T),.one (.sl AA A)] (.AF [(false,[.sl AA []]),(false,[.bool false])]):=by
 rcases Ny h f a.q a.vR with⟨w,hw,d,m⟩ |⟨_,l,k⟩
 ·exact absurd ⟨w,hw,d⟩ b
 exact VO (B:=[]) h j g f a k
theorem Lf {R:Nat} (h:AU R u) (F:T=tw u) (hv:VV u.length R R<=60000000000000) (hq:SS u.length R R<=60000000000000):CF 85 [.one (.sl (.sl AA) T)] (.one (.bool true)):=by
 have ai:T.length=u.length:=by rw[F,Ay]
 have hR:=h.hR;refine AE Tryz.func85 (by kernel_rfl) rfl fun E V=>?_
 conv=>cbv
 refine .inr ?_;obtain⟨J0,g⟩:=xJ fun vs bl k=>∃(i':Nat) (i:Int),vs=[.one (.sl (.sl AA) T),.one (.int .i64 i)]/\(AK i i'/\i'<=T.length)/\k=T.length-i'
 refine⟨[0,3],[],J0,⟨T.length-0,by rw[g];exact⟨0,0,rfl,⟨Ah 0,by omega⟩,rfl⟩⟩,?_⟩;intro vs bl al hj;rw[g] at hj;obtain⟨i',i,rfl,⟨hi,aj⟩,ak⟩:=hj;conv=>cbv
 have ei:=hi.eq;rintro n8 ⟨e8,f8⟩;conv=>cbv
 intro n9 h9;conv=>cbv
 cases n9 <;> conv=>cbv
 ·have k9:=AR h9;exact fA ⟨t2,trivial⟩ rfl (by simp)
 have k9:=AS h9;refine .inr ?_;intro an ae;conv=>cbv
 refine g2 (by omega) ?_;intro O aa;conv=>cbv
 intro Y G;conv=>cbv
 obtain⟨a6,b⟩:=AG (l:=T) (i:=i') (by omega);refine⟨a6,fun _=>⟨by omega,by rw[show (i).toNat=i' by omega];exact b⟩,?_⟩;try conv=>cbv
 obtain⟨r,M,L⟩:=GR (u:=u) (i:=i') (by omega);have p:AQ (r::pre u i'):=M ▸ (h.pre (i'+1)).red;have s:∀x,T[i']? =some x->x=em (pre u i') (AI (pre u i') r):=fun x hx=>by rw[<-F,hx] at L;exact (Option.some.inj L).trans (Cn p)
 have v:=s _ b;have o:El (pre u i') R (AI (pre u i') r):=El.Bz (M ▸ h.pre (i'+1));have j:Y=tw (pre u i'):=by rw[G,List.drop_zero,show O=i' by omega,F,Fq]
 have J:(pre u i').length<=u.length:=by rw[GQ (by omega)];omega
 have t:VV (pre u i').length R R<=60000000000000:=Nat.le_trans (H8 J R R) hv;have W:SS (pre u i').length R R<=60000000000000:=Nat.le_trans (UT J R R) hq;refine cL V (H9 (h.pre i') j v o hR) t2 ?_;try conv=>cbv
 intro ar U;cases U.trans (rfl:_=false);conv=>cbv
 intro ao af;conv=>cbv
 refine g2 (by omega) ?_;intro P ab;conv=>cbv
 intro Z H;conv=>cbv
 obtain⟨a7,d⟩:=AG (l:=T) (i:=i') (by omega);refine⟨a7,fun _=>⟨by omega,by rw[show (i).toNat=i' by omega];exact d⟩,?_⟩;try conv=>cbv
 have m:Z=tw (pre u i'):=by rw[H,List.drop_zero,show P=i' by omega,F,Fq]
 have y:=s _ d;obtain⟨au,a⟩:=xI (At (AI (pre u i') r));refine cL V (Eb (h.pre i') m y o t hR t a) t2 ?_;try conv=>cbv
 intro a5 D;conv=>cbv
 refine g2 rfl ?_;cases a5 <;> conv=>cbv
 ·have N:=Hd D;intro aq ag;conv=>cbv
  refine g2 (by omega) ?_;intro Q ad;conv=>cbv
  intro a1 I;conv=>cbv
  obtain⟨a8,f⟩:=AG (l:=T) (i:=i') (by omega);refine⟨a8,fun _=>⟨by omega,by rw[show (i).toNat=i' by omega];exact f⟩,?_⟩;try conv=>cbv
  have n:a1=tw (pre u i'):=by rw[I,List.drop_zero,show Q=i' by omega,F,Fq]
  have z:=s _ f;obtain⟨l,hn⟩:=((Ny (h.pre i') o W t).resolve_left (fun⟨w,hw,X,_⟩=>p.2.2.2 ⟨w,hw,X⟩)).2;refine cL V (hn n z) t2 ?_;try conv=>cbv
  refine g2 rfl ?_;intro a2 ah;conv=>cbv
  refine g1 (by omega) ?_;refine⟨T.length-(i'+1),?_,?_⟩
  ·omega
  rw[g];exact⟨i'+1,a2,rfl,⟨⟨by omega⟩,by omega⟩,rfl⟩
 have N:=He D;exact absurd N (by rw[a,FQ p.2.2.1];omega)
theorem Ud {R s:Nat} (h:AU R u) (o:T=tw u) (m:A=em u x) (p:El u s x) (g:C3 u.length R s) (y:In u v) (j:0<=v) (d:v*v=x) (t:B=em u v):CF 212 [.one (.sl (.sl AA) T),.one (.sl AA A)] (.AF [(false,[.sl (.sl AA) T]),(false,[.sl AA B]),(false,[.int .i64 0])]):=by
 have k:0<=x:=by rw[<-d];exact Re.Ng v
 refine AE Tryz.func212 (by kernel_rfl) rfl fun E n=>?_
 conv=>cbv
 obtain⟨z,a⟩:=xI (At x);refine cL n (Eb h o m p g.v0 g.s g.vR a) t2 ?_;try conv=>cbv
 intro l b;conv=>cbv
 cases l <;> conv=>cbv
 ·have f:=AR b;refine cL n (VQ h o m p g y j d t) t2 ?_;try conv=>cbv
  exact fA ⟨t2,t2,t2,trivial⟩ rfl (by simp)
 have f:=AS b;exact (GJ a f k).elim
theorem Ue {R s:Nat} (h:AU R u) (z:T=tw u) (F:A=em u x) (U:El u s x) (y:C3 u.length R s) (h8:u.length<8) (M:0<=x) (L:¬Sq u x) (Y:r=co u x) (h':AU R' (r::u)) (H:T2=tw (r::u)) (W:B=em (r::u) (rt u r)):CF 212 [.one (.sl (.sl AA) T),.one (.sl AA A)] (.AF [(false,[.sl (.sl AA) T2]),(false,[.sl AA B]),(false,[.int .i64 0])]):=by
 have I:T.length=u.length:=by rw[z,Ay]
 have X:=h.ht;refine AE Tryz.func212 (by kernel_rfl) rfl fun E G=>?_
 conv=>cbv
 obtain⟨a2,f⟩:=xI (At x);refine cL G (Eb h z F U y.v0 y.s y.vR f) t2 ?_;try conv=>cbv
 intro N l;conv=>cbv
 cases N <;> conv=>cbv
 ·have t:=AR l;refine cL G (VN h z F U y L) t2 ?_;try conv=>cbv
  rintro Z ⟨V,f24⟩;conv=>cbv
  intro O m;conv=>cbv
  cases O <;> conv=>cbv
  ·have v:=DO m;refine⟨[],fun _=>⟨rfl,by decide,rfl,trivial⟩,.inl ?_⟩;try conv=>cbv
   refine .inl ⟨T,fun _=>⟨rfl,rfl,rfl,by show (0+T.length)*24<=140737488355328;(try simp only[List.length_take,List.length_drop]);omega⟩,?_⟩;intro (b:List (el (.sl AA))) P g;have d:b=([]:List (el (.sl AA)))++(T:List (el (.sl AA))):=g.1;have o:P=List.length (α:=(el (.sl AA))) b:=g.2;conv=>cbv
   refine⟨[A],fun _=>⟨rfl,by decide,rfl,⟨rfl,by first | exact t1 | exact t2 | exact t4 | simp[Ac,Ak,cells],trivial⟩⟩,.inr ?_⟩;try conv=>cbv
   have J:b.length=T.length:=by rw[d];simp
   refine .inr ⟨[A],fun _=>⟨rfl,o,rfl,by show (b.length+1)*24<=140737488355328;(try simp only[List.length_take,List.length_drop]);omega⟩,?_⟩;intro (k:List (el (.sl AA))) Q j;have n:k=(b:List (el (.sl AA)))++([A]:List (el (.sl AA))):=j.1;have p:Q=List.length (α:=(el (.sl AA))) k:=j.2;conv=>cbv
   refine⟨fun _=>p,?_⟩;rintro a1 ⟨D,f35⟩;conv=>cbv
   have a:k=tw (r::u):=by rw[n,d,z,JA,F,em,Y];rfl
   refine cL G (Ux h' a (AK.of (D.trans (congrArg _ I))) W) t2 ?_;try conv=>cbv
   exact fA ⟨⟨rfl,congrArg _ (by rw[H,a]),trivial⟩,t2,t2,trivial⟩ rfl (by simp)
  have v:=DP m;exact absurd v (by omega)
 have t:=AS l;exact (GJ f t M).elim
theorem Uy {R s:Nat} (h:AU R u) (f:T=tw u) (k:A=em u x) (l:El u s x) (a:C3 u.length R s) (o:In u v) (g:0<=v) (j:v*v=x) (n:B=em u v):CF 165 [.one (.sl (.sl AA) T),.one (.sl AA A)] (.AF [(false,[.sl (.sl AA) T]),(false,[.sl AA B]),(false,[.int .i64 0])]):=by
 refine AE Tryz.func165 (by kernel_rfl) rfl fun E d=>?_
 conv=>cbv
 refine cL d (Lf h f a.vR a.qR) t1 ?_;try conv=>cbv
 intro t m;cases m.trans (rfl:_=false);conv=>cbv
 refine cL d (H9 h f k l a.s) t2 ?_;try conv=>cbv
 intro p b;cases b.trans (rfl:_=false);conv=>cbv
 refine cL d (Ud h f k l a o g j n) t2 ?_;try conv=>cbv
 exact fA ⟨t2,t2,t2,trivial⟩ rfl (by simp)
theorem Uz {R s:Nat} (h:AU R u) (f:T=tw u) (l:A=em u x) (m:El u s x) (a:C3 u.length R s) (n:u.length<8) (k:0<=x) (j:¬Sq u x) (t:r=co u x) (h':AU R' (r::u)) (g:T2=tw (r::u)) (p:B=em (r::u) (rt u r)):CF 165 [.one (.sl (.sl AA) T),.one (.sl AA A)] (.AF [(false,[.sl (.sl AA) T2]),(false,[.sl AA B]),(false,[.int .i64 0])]):=by
 refine AE Tryz.func165 (by kernel_rfl) rfl fun E d=>?_
 conv=>cbv
 refine cL d (Lf h f a.vR a.qR) t1 ?_;try conv=>cbv
 intro y o;cases o.trans (rfl:_=false);conv=>cbv
 refine cL d (H9 h f l m a.s) t2 ?_;try conv=>cbv
 intro v b;cases b.trans (rfl:_=false);conv=>cbv
 refine cL d (Ue h f l m a n k j t h' g p) t2 ?_;try conv=>cbv
 exact fA ⟨t2,t2,t2,trivial⟩ rfl (by simp)
theorem LV {R s:Nat} (h:AU R u) (h':AU R' (Ag u v)) (l:(Ag u v).length<=8) (g:T=tw u) (m:A=em u v) (k:El u s v) (n:C3 u.length R s) (f:0<=v) (a:T2=tw (Ag u v)) (b:B=em (Ag u v) (Re.sqrt v)):
  CF 165 [.one (.sl (.sl AA) T),.one (.sl AA A)] (.AF [(false,[.sl (.sl AA) T2]),(false,[.sl AA B]),(false,[.int .i64 0])]):=by
 by_cases d:Sq u v
 ·rw[DA d] at a b;have j:T2=T:=a.trans g.symm;subst j;exact Uy h g m k n ((I8 f).1 d) (Re.D6 v) (Re.C1 f) b
 rw[DK d] at h' l a b;rw[<-Hr k.mem] at b;exact Uz h g m k n (by rw[List.length_cons] at l;omega) f d rfl h' a b
end Go.Abs
namespace Go.Abs
open Go.RowKit
variable {R i:Nat} {c:Bool} {u w:List (List Rat)}
theorem TJ {α:Type} {X Y:List α} {x y:α} (a:X[i]? =some x) (b:Y[i]? =some y) (h:X.take i=Y.take i) (e:x=y):X.take (i+1)=Y.take (i+1):=by
 rw[BJ a,BJ b,h,e]
theorem TK {α:Type} {X Y:List α} {n:Nat} {x y:α} (d:X[i]? =some x) (f:Y[i]? =some y) (b:i<n) (e:x≠y):X.take n≠Y.take n:=by
 intro h;apply e;have a:(X.take n)[i]? =(Y.take n)[i]? :=by rw[h]
 rw[List.getElem?_take,List.getElem?_take,if_pos b,if_pos b,d,f] at a;exact Option.some.inj a
theorem VR {X Y:LR} {xs ys:List Rat} (hX:X=AW xs) (hY:Y=AW ys) (hs:Cf xs) (ht:Cf ys) (y:c=decide (X=Y)):CF 234 [.one (.sl AA X),.one (.sl AA Y)] (.one (.bool c)):=by
 refine AE Tryz.func234 (by kernel_rfl) rfl fun E hE=>?_
 conv=>cbv
 rintro n7 ⟨e7,f7⟩;conv=>cbv
 rintro n9 ⟨e9,f9⟩;conv=>cbv
 intro J j;conv=>cbv
 cases J <;> conv=>cbv
 ·have G:=DR j;refine .inr ?_;obtain⟨W,f⟩:=xJ fun V Z k=>∃(i':Nat) (i:Int),V=[.one (.sl AA X),.one (.sl AA Y),.one (.int .i64 i)]/\(AK i i'/\i'<=Y.length/\Y.length<=X.length)/\X.take i'=Y.take i'/\k=Y.length-i'
  refine⟨[0,1,5],[],W,⟨Y.length-0,by rw[f];exact⟨0,0,rfl,⟨Ah 0,by omega,by omega⟩,rfl,rfl⟩⟩,?_⟩;intro V Z aa P;rw[f] at P;obtain⟨i',i,rfl,⟨hi,a5,v⟩,hinv,a6⟩:=P;conv=>cbv
  have ei:=hi.eq;rintro ab ⟨a1,f13⟩;conv=>cbv
  intro L m;conv=>cbv
  cases L <;> conv=>cbv
  ·have H:=AR m;have hl:X.length=Y.length:=by omega
   exact fA ⟨⟨rfl,congrArg _ (by rw[y,decide_eq_true];have:=hinv;rwa [List.take_of_length_le (by omega),List.take_of_length_le (by omega)] at this),trivial⟩,trivial⟩ rfl (by simp)
  have H:=AS m;refine .inr ?_;obtain⟨g,a⟩:=AG (l:=X) (i:=i') (by omega);refine⟨g,fun _=>⟨by omega,by rw[show (i).toNat=i' by omega];exact a⟩,?_⟩;try conv=>cbv
  obtain⟨h,b⟩:=AG (l:=Y) (i:=i') (by omega);refine⟨h,fun _=>⟨by omega,by rw[show (i).toNat=i' by omega];exact b⟩,?_⟩;try conv=>cbv
  obtain⟨p,Q,a7,D⟩:=Ej hX hs a;obtain⟨q,U,a8,F⟩:=Ej hY ht b;have s:g=rp p:=Q.rp.symm;have t:h=rp q:=U.rp.symm;obtain⟨O,d⟩:=xI (EO p q);refine cL hE (Uq Q U D F d) ⟨t4,t4,trivial⟩ ?_;try conv=>cbv
  intro N o;conv=>cbv
  refine g2 rfl ?_;cases N <;> conv=>cbv
  ·have I:=DR o;intro M a2;conv=>cbv
   refine g1 (by omega) ?_;refine⟨Y.length-(i'+1),?_,?_⟩
   ·omega
   rw[f];exact⟨i'+1,M,rfl,⟨⟨by omega⟩,by omega,v⟩,TJ a b hinv (by rw[s,t];congr 1;have:=L4 p q;rw[<-d,show O=0 by omega] at this;exact of_decide_eq_true this),rfl⟩
  have I:=DS o;have z:g≠h:=fun e=>by have e2:=NQ (s.symm.trans (e.trans t));have:=L4 p q;rw[decide_eq_true e2,<-d] at this;simp at this;omega
  exact fA ⟨⟨rfl,congrArg _ (by rw[y,decide_eq_false];intro e;exact TK (n:=i'+1) a b (by omega) z (by rw[e])),trivial⟩,trivial⟩ rfl (by simp)
 have G:=DS j;exact fA ⟨⟨rfl,congrArg _ (by rw[y,decide_eq_false];intro e;have:=congrArg List.length e;omega),trivial⟩,trivial⟩ rfl (by simp)
theorem U1 {X Y:List LR} (hu:AU R u) (hw:AU R w) (Z:X=tw u) (hY:Y=tw w) (t:c=(decide (Y.length<=X.length)&&decide (X.take Y.length=Y))):CF 186 [.one (.sl (.sl AA) X),.one (.sl (.sl AA) Y)] (.one (.bool c)):=by
 refine AE Tryz.func186 (by kernel_rfl) rfl fun E W=>?_
 conv=>cbv
 rintro n7 ⟨e7,f7⟩;conv=>cbv
 rintro n9 ⟨e9,f9⟩;conv=>cbv
 intro H m;conv=>cbv
 cases H <;> conv=>cbv
 ·have D:=Bc m;refine .inr ?_;obtain⟨O,g⟩:=xJ fun N Q k=>∃(i':Nat) (i:Int),N=[.one (.sl (.sl AA) X),.one (.sl (.sl AA) Y),.one (.int .i64 i)]/\(AK i i'/\i'<=Y.length/\Y.length<=X.length)/\X.take i'=Y.take i'/\k=Y.length-i'
  refine⟨[0,1,5],[],O,⟨Y.length-0,by rw[g];exact⟨0,0,rfl,⟨Ah 0,by omega,by omega⟩,rfl,rfl⟩⟩,?_⟩;intro N Q a5 M;rw[g] at M;obtain⟨i',i,rfl,⟨hi,a1,s⟩,hinv,a2⟩:=M;conv=>cbv
  have ei:=hi.eq;rintro a6 ⟨U,f13⟩;conv=>cbv
  intro I o;conv=>cbv
  cases I <;> conv=>cbv
  ·have F:=AR o;exact fA ⟨⟨rfl,congrArg _ (by rw[t,decide_eq_true (show Y.length<=X.length by omega),decide_eq_true];rfl;rw[show Y.length=i' by omega,hinv,List.take_of_length_le (by omega)]),trivial⟩,trivial⟩ rfl (by simp)
  have F:=AS o;refine .inr ?_;obtain⟨h,a⟩:=AG (l:=X) (i:=i') (by omega);refine⟨h,fun _=>⟨by omega,by rw[show (i).toNat=i' by omega];exact a⟩,?_⟩;try conv=>cbv
  obtain⟨j,b⟩:=AG (l:=Y) (i:=i') (by omega);refine⟨j,fun _=>⟨by omega,by rw[show (i).toNat=i' by omega];exact b⟩,?_⟩;try conv=>cbv
  obtain⟨p,hp,y⟩:=Gl Z a;obtain⟨q,hq,z⟩:=Gl hY b;obtain⟨P,d⟩:=xB (decide (h=j));refine cL W (VR hp hq ((hu.tb p (List.mem_reverse.1 (List.mem_of_getElem? y))).BE hu.hR) ((hw.tb q (List.mem_reverse.1 (List.mem_of_getElem? z))).BE hw.hR) d) t2 ?_;try conv=>cbv
  intro L f;conv=>cbv
  refine g2 rfl ?_;cases L <;> conv=>cbv
  ·have G:=Cr f;intro J V;conv=>cbv
   refine g1 (by omega) ?_;refine⟨Y.length-(i'+1),?_,?_⟩
   ·omega
   rw[g];exact⟨i'+1,J,rfl,⟨⟨by omega⟩,by omega,s⟩,TJ a b hinv (of_decide_eq_true (by rw[<-d];exact Cr f)),rfl⟩
  have G:=Cs f;have v:h≠j:=of_decide_eq_false (by rw[<-d];exact Cs f);exact fA ⟨⟨rfl,congrArg _ (by rw[t,decide_eq_false (p:=X.take Y.length=Y),Bool.and_false];intro e;exact TK (n:=Y.length) a b (by omega) v (by rw[e,List.take_length])),trivial⟩,trivial⟩ rfl (by simp)
 have D:=Be m;exact fA ⟨⟨rfl,congrArg _ (by rw[t,decide_eq_false (show ¬Y.length<=X.length by omega)];rfl),trivial⟩,trivial⟩ rfl (by simp)
theorem Dv {X Y:List LR} (hu:AU R u) (hw:AU R w) (a:X=tw u) (b:Y=tw w) (h:c=true↔w<:+u):CF 186 [.one (.sl (.sl AA) X),.one (.sl (.sl AA) Y)] (.one (.bool c)):=
 U1 hu hw a b (by rw[Bool.eq_iff_iff,h,Nh,Bool.and_eq_true,decide_eq_true_eq,decide_eq_true_eq,a,b])
theorem FE {T:List LR} {A C:LR} {x:Re} (h:AU R w) (hT:T=tw w) (V:A=em u x) (Z:In u x) (hu:u<:+w) (hC:C=em w x):CF 188 [.one (.sl (.sl AA) T),.one (.sl AA A)] (.one (.sl AA C)):=by
 have L:T.length=w.length:=by rw[hT,Ay]
 have a5:=h.ht;have a2:A.length=2^u.length:=by rw[V,Ao Z]
 have O:=hu.length_le;have hle:2^u.length<=2^w.length:=Bn O;have Y:=CA h.ht;have z:=QJ hu h.red Z;refine AE Tryz.func188 (by kernel_rfl) rfl fun E hE=>?_
 conv=>cbv
 refine⟨[],fun _=>⟨rfl,by decide,rfl,trivial⟩,.inl ?_⟩;try conv=>cbv
 refine .inl ⟨A,fun _=>⟨rfl,rfl,rfl,by show (0+A.length)*64<=140737488355328;(try simp only[List.length_take,List.length_drop]);omega⟩,?_⟩;intro (G:LR) n8 F;have s:G=([]:LR)++(A:LR):=F.1;have N:n8=List.length (α:=(el AA)) G:=F.2;conv=>cbv
 refine .inr ?_;obtain⟨J0,p⟩:=xJ fun vs U k=>∃(o:LR) (mm j:Nat),vs=[.one (.sl (.sl AA) T),.one (.AM AA 6 0 0 mm)]/\U=[.arr 0 AA o]/\(mm=o.length/\o.length=2^u.length+j/\o.length<=2^w.length)/\o=A++List.replicate j (rp 0)/\k=2^w.length-o.length
 refine⟨[0,5],[6],J0,⟨2^w.length-G.length,by rw[p];exact⟨G,n8,0,rfl,rfl,⟨N,by rw[s];simp;omega,by rw[s];simp;omega⟩,by rw[s];simp,rfl⟩⟩,?_⟩;intro vs U aa W;rw[p] at W;obtain⟨o,mm,j,rfl,rfl,⟨v,a7,a8⟩,hinv,a6⟩:=W;conv=>cbv
 intro ab I;have a1:=I.eq;conv=>cbv
 rintro ad ⟨H,f12⟩;conv=>cbv
 intro ae J;conv=>cbv
 refine g2 (by omega) ?_;have X:=(DF J (H.trans (congrArg _ L)) (by omega)).eq;intro Q t;conv=>cbv
 cases Q <;> conv=>cbv
 ·have P:=AR t;exact fA ⟨⟨rfl,.inl ⟨_,rfl,by omega,congrArg _ (by rw[hC,v,List.drop_zero,List.take_length,hinv,z,V,show j=2^w.length-2^u.length by omega])⟩,trivial⟩,trivial⟩ rfl (by simp)
 have P:=AS t;refine .inr ?_;obtain⟨f,g,b,d,m⟩:=BD (((0:Int):Rat));refine cL hE (DI (by omega) rfl m) t1 ?_;try conv=>cbv
 refine⟨[((f,g),(b,d))],fun _=>⟨rfl,by decide,rfl,⟨rfl,by first | exact t1 | exact t2 | exact t4 | simp[Ac,Ak,cells],trivial⟩⟩,.inr ?_⟩;try conv=>cbv
 refine .inl ⟨[((f,g),(b,d))],fun _=>⟨rfl,v,rfl,by show (o.length+1)*64<=140737488355328;(try simp only[List.length_take,List.length_drop]);omega⟩,?_⟩;intro (a:LR) D n;have l:a=(o:LR)++([((f,g),(b,d))]:LR):=n.1;have y:D=List.length (α:=(el AA)) a:=n.2;conv=>cbv
 have M:a.length=o.length+1:=by rw[l];simp
 refine⟨2^w.length-a.length,?_,?_⟩
 ·omega
 rw[p];exact⟨a,D,j+1,rfl,rfl,⟨y,by omega,by omega⟩,by rw[l,hinv,List.replicate_succ',List.append_assoc,<-m.rp];rfl,rfl⟩
end Go.Abs
namespace Go.Abs
open Go.RowKit
structure CH (T:List (List Rat)->Prop) (R C S:Nat):Prop extends Gam T R C S where
 GB:∀{u},T u->C3 u.length R (S+C)
def OW (S:Nat) (w u:List (List Rat)):Prop:=∀{T RL:List LR} {A C:LR} {x:Re},T=tw w->Df w RL u->A=em u x->El u S x->C=em w x->
 CF 189 [.one (.sl (.sl AA) T),.one (.sl (.sl AA) RL),.one (.sl AA A)] (.one (.sl AA C))
def OX (S:Nat) (w u:List (List Rat)):Prop:=∀{T RL:List LR} {A C:LR} {x:Re} {mm:Nat},T=tw w->Df w RL u->mm=RL.length->A=em u x->El u S x->C=em w x->
 Dc Tryz.prog 189 [.one (.sl (.sl AA) T),.one (.AM (.sl AA) 0 0 0 mm),.one (.sl AA A)] (.arr 0 (.sl AA) RL) (.one (.sl AA C))
variable {A C:LR} {K R S mm:Nat} {RL T:List LR} {TT:List (List Rat)->Prop} {p x:Re} {q:Rat} {r:List Rat} {u w:List (List Rat)}
theorem U5 {u:List (List Rat)} {x:Re} (G:Gam TT R K S) (hw:TT w) (p:T=tw w) (k:A=em [] (Re.ofRat q)) (t:BK q) (n:C=em w (Re.ofRat q)):CF 189 [.one (.sl (.sl AA) T),.one (.sl (.sl AA) RL),.one (.sl AA A)] (.one (.sl AA C)):=by
 have d:A=[rp q]:=k.trans (Ci q);have m:A.length=1:=by rw[d];rfl
 refine AE Tryz.func189 (by kernel_rfl) rfl fun E o=>?_
 conv=>cbv
 rintro s ⟨j,f12⟩;conv=>cbv
 intro g b;conv=>cbv
 cases g <;> conv=>cbv
 ·have f:=Ab b;exact absurd f (by omega)
 have f:=Ad b;obtain⟨h,a⟩:=AG (l:=A) (i:=0) (by omega);refine⟨h,fun _=>⟨by omega,a⟩,?_⟩;try conv=>cbv
 refine cL o (EJ (G.AL hw) p (C8 d a) n) ⟨rfl,t4,trivial⟩ ?_;try conv=>cbv
 exact fA ⟨t2,trivial⟩ rfl (by simp)
theorem U6 (G:Gam TT R K S) (hw:TT w) (P:T=tw w) {q:Re} (hu:TT (r::u)) (b:Aq (r::u) w) (ih:OW S w u) (hR:Df w RL (r::u)) (Z:A=em (r::u) x) (hx:El (r::u) S x) (o:x=p+q*rt u r) (Q:El u S p) (L:El u S q) (hC:C=em w x):CF 189 [.one (.sl (.sl AA) T),.one (.sl (.sl AA) RL),.one (.sl AA A)] (.one (.sl AA C)):=by
 have n:=(G.AL hu).red;have v:A.length=2^u.length+2^u.length:=by rw[Z,Ao hx.mem,BI]
 have aA:=Ce u.length;have ax:(r::u).length<=8:=G.ht hu;have ah:(r::u).length=u.length+1:=rfl;have hmul:=G.mul hw;have a:El w K (rt u r):=by have:=G.BF hu hw b (HQ n);rwa [Nat.zero_add] at this
 obtain⟨wk,a5,M,D⟩:=hR.2;obtain⟨rk,N⟩:=xR (em wk (rt u r));rw[<-N] at D;refine AE Tryz.func189 (by kernel_rfl) rfl fun E y=>?_
 conv=>cbv
 rintro aE ⟨al,f12⟩;conv=>cbv
 intro aa s;conv=>cbv
 cases aa <;> conv=>cbv
 ·have O:=Ab s;rintro aF ⟨an,f20⟩;conv=>cbv
  intro ab au;conv=>cbv
  refine g2 ⟨by omega,by omega,i64 (by omega)⟩ ?_;refine .inr ?_;obtain⟨J0,j⟩:=xJ fun vs bl k=>∃(k':Nat) (U V:Int),vs=[.one (.sl (.sl AA) T),.one (.sl (.sl AA) RL),.one (.sl AA A),.one (.int .i64 U),.one (.int .i64 V)]/\bl=[]/\(AK U (A.length/2)/\AK V k'/\k'<=u.length)/\k=u.length-k'
  refine⟨[0,1,2,7,8],[],J0,⟨u.length-0,by rw[j];exact⟨0,ab,0,rfl,rfl,⟨⟨by omega⟩,Ah 0,by omega⟩,rfl⟩⟩,?_⟩;intro vs bl aB hj;rw[j] at hj;obtain⟨k',U,V,rfl,rfl,⟨z,a1,az⟩,ay⟩:=hj;conv=>cbv
  have aq:=z.eq;have ar:=a1.eq;intro aG av;conv=>cbv
  refine g1 (by omega) ?_;intro aH Y;conv=>cbv
  refine g2 (by omega) ?_;rintro aI ⟨ao,f26⟩;conv=>cbv
  have aj:=(DF (k:=k'+1) Y (by omega) (by omega)).eq;intro ad t;conv=>cbv
  cases ad <;> conv=>cbv
  ·have a6:=AR t;have a2:k'=u.length:=by have:=HZ v (show ¬2^(k'+1)<A.length by omega);omega
   intro aC ai;conv=>cbv
   refine g2 (by omega) ?_;intro X ag;conv=>cbv
   intro a7 H;conv=>cbv
   have l:a7=em u p:=by rw[H,List.drop_zero,show X=A.length/2 by omega,Z,Bb n Q.mem L.mem o]
   obtain⟨aJ,d⟩:=xR (em w (p));refine cL y (ih P hR.1 l Q d) t3 ?_;try conv=>cbv
   intro aD J;conv=>cbv
   refine g2 (by omega) ?_;rintro W ak ⟨af,F⟩;conv=>cbv
   intro a8 I;conv=>cbv
   have m:a8=em u q:=by rw[I,show W=A.length/2 by omega,F,J,List.take_length,Z,BO n Q.mem L.mem o]
   obtain⟨aK,f⟩:=xR (em w (q));refine cL y (ih P hR.1 m L f) t3 ?_;try conv=>cbv
   refine g2 rfl ?_;refine⟨rk,fun _=>⟨by omega,by rw[show V.toNat=u.length by omega];exact D⟩,?_⟩;try conv=>cbv
   obtain⟨aL,g⟩:=xR (em w (rt u r));refine cL y (FE (G.AL hw) P N M a5 g) t2 ?_;try conv=>cbv
   obtain⟨aM,h⟩:=xR (em w (q*rt u r));refine cL y (Ch (G.AL hw) P f g (G.BF (G.sub hu) hw b.tail L) a (by omega) h) t3 ?_;try conv=>cbv
   refine cL (r:= .one (.sl AA C)) y (Ge (G.AL hw) d h (G.BF (G.sub hu) hw b.tail Q) ((G.BF (G.sub hu) hw b.tail L).mul (G.AL hw) a) (by omega) (by omega) (by rw[hC,o])) t3 ?_;try conv=>cbv
   exact fA ⟨t2,trivial⟩ rfl (by simp)
  have a6:=AS t;refine .inr ?_;have a2:k'<u.length:=Ha v (show 2^(k'+1)<A.length by omega);intro ae aw;conv=>cbv
  refine g1 (by omega) ?_;refine⟨u.length-(k'+1),?_,?_⟩
  ·omega
  rw[j];exact⟨k'+1,U,ae,rfl,rfl,⟨z,⟨by omega⟩,by omega⟩,rfl⟩
 have O:=Ad s;exact absurd O (by omega)
theorem U7 {u:List (List Rat)} {x:Re} (s:mm=RL.length) (G:Gam TT R K S) (hw:TT w) (p:T=tw w) (k:A=em [] (Re.ofRat q)) (v:BK q) (n:C=em w (Re.ofRat q)):Dc Tryz.prog 189 [.one (.sl (.sl AA) T),.one (.AM (.sl AA) 0 0 0 mm),.one (.sl AA A)] (.arr 0 (.sl AA) RL) (.one (.sl AA C)):=by
 have d:A=[rp q]:=k.trans (Ci q);have m:A.length=1:=by rw[d];rfl
 refine Ff Tryz.func189 (by kernel_rfl) rfl fun E o=>?_
 conv=>cbv
 rintro t ⟨j,f12⟩;conv=>cbv
 intro g b;conv=>cbv
 cases g <;> conv=>cbv
 ·have f:=Ab b;exact absurd f (by omega)
 have f:=Ad b;obtain⟨h,a⟩:=AG (l:=A) (i:=0) (by omega);refine⟨h,fun _=>⟨by omega,a⟩,?_⟩;try conv=>cbv
 refine cL o (EJ (G.AL hw) p (C8 d a) n) ⟨rfl,t4,trivial⟩ ?_;try conv=>cbv
 refine fun _=>⟨⟨⟨t2,trivial⟩,rfl,by simp⟩,rfl⟩
theorem U8 (Q:mm=RL.length) (G:Gam TT R K S) (hw:TT w) (hT:T=tw w) {q:Re} (hu:TT (r::u)) (b:Aq (r::u) w) (ih:OX S w u) (hR:Df w RL (r::u)) (hA:A=em (r::u) x) (hx:El (r::u) S x) (z:x=p+q*rt u r) (hp:El u S p) (U:El u S q) (hC:C=em w x):Dc Tryz.prog 189 [.one (.sl (.sl AA) T),.one (.AM (.sl AA) 0 0 0 mm),.one (.sl AA A)] (.arr 0 (.sl AA) RL) (.one (.sl AA C)):=by
 have v:=(G.AL hu).red;have I:A.length=2^u.length+2^u.length:=by rw[hA,Ao hx.mem,BI]
 have aE:=Ce u.length;have aB:(r::u).length<=8:=G.ht hu;have ak:(r::u).length=u.length+1:=rfl;have hmul:=G.mul hw;have a:El w K (rt u r):=by have:=G.BF hu hw b (HQ v);rwa [Nat.zero_add] at this
 obtain⟨wk,a8,V,d⟩:=hR.2;obtain⟨rk,f⟩:=xR (em wk (rt u r));rw[<-f] at d;refine Ff Tryz.func189 (by kernel_rfl) rfl fun E J=>?_
 conv=>cbv
 rintro aI ⟨ar,f12⟩;conv=>cbv
 intro ab F;conv=>cbv
 cases ab <;> conv=>cbv
 ·have X:=Ab F;rintro aJ ⟨au,f20⟩;conv=>cbv
  intro ad ay;conv=>cbv
  refine g2 ⟨by omega,by omega,i64 (by omega)⟩ ?_;refine .inr ?_;obtain⟨J0,o⟩:=xJ fun vs bl k=>∃(k':Nat) (hv kk:Int),vs=[.one (.sl (.sl AA) T),.one (.AM (.sl AA) 0 0 0 mm),.one (.sl AA A),.one (.int .i64 hv),.one (.int .i64 kk)]/\bl=[.arr 0 (.sl AA) RL]/\(AK hv (A.length/2)/\AK kk k'/\k'<=u.length)/\k=u.length-k'
  refine⟨[0,1,2,7,8],[0],J0,⟨u.length-0,by rw[o];exact⟨0,ad,0,rfl,rfl,⟨⟨by omega⟩,Ah 0,by omega⟩,rfl⟩⟩,?_⟩;intro vs bl aF hj;rw[o] at hj;obtain⟨k',hv,kk,rfl,rfl,⟨L,a6,aD⟩,aC⟩:=hj;conv=>cbv
  have aw:=L.eq;have ax:=a6.eq;intro aK az;conv=>cbv
  refine g1 (by omega) ?_;intro aL a5;conv=>cbv
  refine g2 (by omega) ?_;rintro aM ⟨av,f26⟩;conv=>cbv
  have ao:=(DF (k:=k'+1) a5 (by omega) (by omega)).eq;intro ae H;conv=>cbv
  cases ae <;> conv=>cbv
  ·have aa:=AR H;have a7:k'=u.length:=by have:=HZ I (show ¬2^(k'+1)<A.length by omega);omega
   intro aG an;conv=>cbv
   refine g2 (by omega) ?_;intro a2 aj;conv=>cbv
   intro Y N;conv=>cbv
   have s:Y=em u p:=by rw[N,List.drop_zero,show a2=A.length/2 by omega,hA,Bb v hp.mem U.mem z]
   obtain⟨ag,g⟩:=xR (em w (p));refine .inr (.inr (.inl ⟨0,.arr 0 (.sl AA) RL,[.one (.sl (.sl AA) T),.one (.AM (.sl AA) 0 0 0 mm),.one (.sl AA Y)],.one (.sl AA ag),fun _=>⟨rfl,⟨rfl,⟨⟨rfl,rfl⟩,rfl⟩,rfl,trivial⟩⟩,fun _=>E4 J (ih hT hR.1 Q s hp g),?_⟩));try conv=>cbv
   intro aH P;conv=>cbv
   refine g2 (by omega) ?_;rintro a1 aq ⟨ai,M⟩;conv=>cbv
   intro Z O;conv=>cbv
   have t:Z=em u q:=by rw[O,show a1=A.length/2 by omega,M,P,List.take_length,hA,BO v hp.mem U.mem z]
   obtain⟨ah,h⟩:=xR (em w (q));refine .inr (.inr (.inl ⟨0,.arr 0 (.sl AA) RL,[.one (.sl (.sl AA) T),.one (.AM (.sl AA) 0 0 0 mm),.one (.sl AA Z)],.one (.sl AA ah),fun _=>⟨rfl,⟨rfl,⟨⟨rfl,rfl⟩,rfl⟩,rfl,trivial⟩⟩,fun _=>E4 J (ih hT hR.1 Q t U h),?_⟩));try conv=>cbv
   refine g2 rfl ?_;refine⟨fun _=>⟨by omega,by have:=D9 d;omega⟩,?_⟩;intro W al;conv=>cbv
   obtain⟨D,n⟩:=AG (l:=RL) (i:=W) (by have:=D9 d;omega);refine⟨D,fun _=>n,?_⟩;try conv=>cbv
   have y:D=rk:=by have:=n;rw[show W=u.length by omega,d] at this;exact (Option.some.inj this).symm
   have f:D=em wk (rt u r):=y.trans f;obtain⟨aN,j⟩:=xR (em w (rt u r));refine cL J (FE (G.AL hw) hT f V a8 j) t2 ?_;try conv=>cbv
   obtain⟨aO,m⟩:=xR (em w (q*rt u r));refine cL J (Ch (G.AL hw) hT h j (G.BF (G.sub hu) hw b.tail U) a (by omega) m) t3 ?_;try conv=>cbv
   refine cL (r:= .one (.sl AA C)) J (Ge (G.AL hw) g m (G.BF (G.sub hu) hw b.tail hp) ((G.BF (G.sub hu) hw b.tail U).mul (G.AL hw) a) (by omega) (by omega) (by rw[hC,z])) t3 ?_;try conv=>cbv
   refine fun _=>⟨⟨⟨t2,trivial⟩,rfl,by simp⟩,rfl⟩
  have aa:=AS H;refine .inr ?_;have a7:k'<u.length:=Ha I (show 2^(k'+1)<A.length by omega);intro af aA;conv=>cbv
  refine g1 (by omega) ?_;refine⟨u.length-(k'+1),?_,?_⟩
  ·omega
  rw[o];exact⟨k'+1,hv,af,rfl,rfl,⟨L,⟨by omega⟩,by omega⟩,rfl⟩
 have X:=Ad F;exact absurd X (by omega)
theorem Fb (G:Gam TT R K S) (hw:TT w):∀{u:List (List Rat)},TT u->Aq u w->OW S w u:=by
 intro u
 induction u with
 | nil=>
  intro hu g T RL A C x h hR d a f;obtain⟨q,rfl⟩:=Bj.1 a.mem;have b:=a.BE (by have:=G.mul hw;omega);rw[Bv] at b;exact U5 (u:=[]) (x:=0) G hw h d (b q List.mem_cons_self) f
 | cons r u l=>
  intro hu g T RL A C x h hR d a f;obtain⟨p,q,j,k,b⟩:=El.parts (G.AL hu).red a;exact U6 G hw h hu g (l (G.sub hu) g.tail) hR d a j k b f
theorem U4 (G:Gam TT R K S) (hw:TT w):∀{u:List (List Rat)},TT u->Aq u w->OX S w u:=by
 intro u
 induction u with
 | nil=>
  intro hu h T RL A C x mm j hR a f b g;obtain⟨q,rfl⟩:=Bj.1 b.mem;have d:=b.BE (by have:=G.mul hw;omega);rw[Bv] at d;exact U7 (u:=[]) (x:=0) a G hw j f (d q List.mem_cons_self) g
 | cons r u m=>
  intro hu h T RL A C x mm j hR a f b g;obtain⟨p,q,k,l,d⟩:=El.parts (G.AL hu).red b;exact U8 a G hw j hu h (m (G.sub hu) h.tail) hR f b k l d g
theorem EK {U T2:List LR} {t:List (List Rat)} (G:CH TT R K S) (ht:TT t) (hu:TT u) (hT:T=tw t) (hU:U=tw u) (a8:T2=tw (ext t u)) (a6:RL=Bp t u):CF 187 [.one (.sl (.sl AA) T),.one (.sl (.sl AA) U)] (.AF [(false,[.sl (.sl AA) T2]),(false,[.sl (.sl AA) RL]),(false,[.int .i64 0])]):=by
 have al:U.length=u.length:=by rw[hU,Ay]
 have aq:=G.ht hu;have a7:=G.RS;refine AE Tryz.func187 (by kernel_rfl) rfl fun E hE=>?_
 conv=>cbv
 refine .inr ?_
 obtain⟨J0,L⟩:∃J:List AV->List AH->Nat->Prop,J=fun vs bl k=>(∃(i:Int),vs=[.one (.sl (.sl AA) T),.one (.sl (.sl AA) U),.one .nil,.one (.int .i64 i)]/\bl=[.dead 0]/\AK i 0/\k=U.length)\/
  (∃(Ti o:List LR) (mm i':Nat) (i:Int),vs=[.one (.sl (.sl AA) Ti),.one (.sl (.sl AA) U),.one (.AM (.sl AA) 38 0 0 mm),.one (.int .i64 i)]/\bl=[.arr 0 (.sl AA) o]/\(AK i i'/\i'<=U.length/\mm=o.length)/\Ti=tw (ext t (pre u i'))/\o=Bp t (pre u i')/\k=U.length-i'):=⟨_,rfl⟩
 refine⟨[0,1,7,8],[38],J0,⟨U.length,by rw[L];exact .inl ⟨0,rfl,rfl,Ah 0,rfl⟩⟩,?_⟩;intro vs bl ar hj;rw[L] at hj;rcases hj with⟨i,rfl,rfl,hi,ai⟩ |⟨Ti,o,mm,i',i,rfl,rfl,⟨hi,an,V⟩,s,hinv,ai⟩
 ·conv=>cbv
  have ei:=hi.eq;obtain⟨i',Q⟩:=xN 0;have s:T=tw (ext t (pre u i')):=by rw[Q,Ho];exact hT
  rintro aj ⟨af,f14⟩;conv=>cbv
  intro a1 y;conv=>cbv
  cases a1 <;> conv=>cbv
  ·have Y:=AR y;have ae:u=[]:=List.eq_nil_of_length_eq_zero (by omega);exact fA ⟨⟨rfl,congrArg _ (by rw[a8,hT,ae];rfl),trivial⟩,⟨rfl,.inr (.inl ⟨_,congrArg _ (by rw[a6,ae];rfl)⟩),trivial⟩,t2,trivial⟩ rfl (by simp)
  have Y:=AS y;refine .inr ?_;obtain⟨v,m⟩:=AG (l:=U) (i:=i') (by omega);refine⟨v,fun _=>⟨by omega,by rw[show (i).toNat=i' by omega];exact m⟩,?_⟩;try conv=>cbv
  obtain⟨r,p,F⟩:=GR (u:=u) (i:=i') (by omega);have d:TT (pre u i'):=G.GY (GS u i') hu;have a:TT (r::pre u i'):=p ▸ G.GY (GS u (i'+1)) hu;have D:=(G.AL a).red;have X:v=em (pre u i') (AI (pre u i') r):=by rw[<-hU,m] at F;exact (Option.some.inj F).trans (Cn D)
  have b:TT (ext t (pre u i')):=G.ext ht d;have n:=(GV (G.AL ht).red (G.AL d).red).2;have z:El (pre u i') S (AI (pre u i') r):=(El.Bz (G.AL a)).mono a7;have H:TT (Ag (ext t (pre u i')) (AI (pre u i') r)):=G.Ag b a n;have P:ext t (pre u (i'+1))=Ag (ext t (pre u i')) (AI (pre u i') r):=by rw[p];rfl
  have W:Bp t (pre u (i'+1))=Bp t (pre u i')++[em (Ag (ext t (pre u i')) (AI (pre u i') r)) (Re.sqrt (AI (pre u i') r))]:=by rw[p];rfl
  obtain⟨a5,g⟩:=xR (em (ext t (pre u i')) (AI (pre u i') r));refine cL (r:= .one (.sl AA a5)) hE (Fb G.toGam b d n s (by rw[Q,Ho];trivial) X z g) ⟨rfl,.inr ⟨_,rfl⟩,rfl,trivial⟩ ?_;try conv=>cbv
  obtain⟨I,h⟩:=xV (tw (Ag (ext t (pre u i')) (AI (pre u i') r)));obtain⟨f,j⟩:=xR (em (Ag (ext t (pre u i')) (AI (pre u i') r)) (Re.sqrt (AI (pre u i') r)));refine cL (r:= .AF [(false,[.sl (.sl AA) I]),(false,[.sl AA f]),(false,[.int .i64 0])]) hE (LV (G.AL b) (G.AL H) (G.ht H) s g (G.BF d b n z) (G.GB b) (by have:=D.2.2.1;grind) h j) t2 ?_;try conv=>cbv
  intro ak O;cases O.trans (show _=false by decide);conv=>cbv
  refine⟨[f],fun _=>⟨rfl,by decide,rfl,⟨rfl,by first | exact t1 | exact t2 | exact t4 | simp[Ac,Ak,cells],trivial⟩⟩,.inr ?_⟩;try conv=>cbv
  refine .inl ⟨[f],fun _=>⟨rfl,by show (1)*24<=140737488355328;(try simp only[List.length_take,List.length_drop]);omega⟩,?_⟩;intro M ah;conv=>cbv
  intro a2 ag;conv=>cbv
  refine g1 (by omega) ?_;refine⟨U.length-(i'+1),?_,?_⟩
  ·omega
  rw[L];exact .inr ⟨I,[f],M,i'+1,a2,rfl,rfl,⟨⟨by omega⟩,by omega,ah⟩,by rw[h,P],by rw[W,j,Q,Ho];rfl,rfl⟩
 conv=>cbv
 have ei:=hi.eq;have ao:o.length<=U.length:=by rw[hinv,I1,GQ (by omega)];omega
 rintro aj ⟨af,f14⟩;conv=>cbv
 intro a1 y;conv=>cbv
 cases a1 <;> conv=>cbv
 ·have Y:=AR y;have ad:pre u i'=u:=by rw[show i'=u.length by omega];exact Rr u
  exact fA ⟨⟨rfl,congrArg _ (by rw[a8,s,ad]),trivial⟩,⟨rfl,.inl ⟨_,rfl,by omega,congrArg _ (by rw[a6,V,List.drop_zero,List.take_length,hinv,ad])⟩,trivial⟩,t2,trivial⟩ rfl (by simp)
 have Y:=AS y;refine .inr ?_;obtain⟨v,m⟩:=AG (l:=U) (i:=i') (by omega);refine⟨v,fun _=>⟨by omega,by rw[show (i).toNat=i' by omega];exact m⟩,?_⟩;try conv=>cbv
 obtain⟨r,p,F⟩:=GR (u:=u) (i:=i') (by omega);have d:TT (pre u i'):=G.GY (GS u i') hu;have a:TT (r::pre u i'):=p ▸ G.GY (GS u (i'+1)) hu;have D:=(G.AL a).red;have X:v=em (pre u i') (AI (pre u i') r):=by rw[<-hU,m] at F;exact (Option.some.inj F).trans (Cn D)
 have b:TT (ext t (pre u i')):=G.ext ht d;have n:=(GV (G.AL ht).red (G.AL d).red).2;have z:El (pre u i') S (AI (pre u i') r):=(El.Bz (G.AL a)).mono a7;have H:TT (Ag (ext t (pre u i')) (AI (pre u i') r)):=G.Ag b a n;have P:ext t (pre u (i'+1))=Ag (ext t (pre u i')) (AI (pre u i') r):=by rw[p];rfl
 have W:Bp t (pre u (i'+1))=Bp t (pre u i')++[em (Ag (ext t (pre u i')) (AI (pre u i') r)) (Re.sqrt (AI (pre u i') r))]:=by rw[p];rfl
 obtain⟨a5,g⟩:=xR (em (ext t (pre u i')) (AI (pre u i') r));refine .inr (.inr (.inl ⟨38,.arr 0 (.sl AA) o,[.one (.sl (.sl AA) Ti),.one (.AM (.sl AA) 0 0 0 mm),.one (.sl AA v)],.one (.sl AA a5),fun _=>⟨rfl,⟨rfl,⟨⟨rfl,rfl⟩,rfl⟩,rfl,trivial⟩⟩,fun _=>E4 hE (U4 G.toGam b d n s (by rw[hinv];exact EI (G.AL ht).red (G.AL d).red) V X z g),?_⟩));try conv=>cbv
 obtain⟨I,h⟩:=xV (tw (Ag (ext t (pre u i')) (AI (pre u i') r)));obtain⟨f,j⟩:=xR (em (Ag (ext t (pre u i')) (AI (pre u i') r)) (Re.sqrt (AI (pre u i') r)));refine cL (r:= .AF [(false,[.sl (.sl AA) I]),(false,[.sl AA f]),(false,[.int .i64 0])]) hE (LV (G.AL b) (G.AL H) (G.ht H) s g (G.BF d b n z) (G.GB b) (by have:=D.2.2.1;grind) h j) t2 ?_;try conv=>cbv
 intro ak O;cases O.trans (show _=false by decide);conv=>cbv
 refine⟨[f],fun _=>⟨rfl,by decide,rfl,⟨rfl,by first | exact t1 | exact t2 | exact t4 | simp[Ac,Ak,cells],trivial⟩⟩,.inr ?_⟩;try conv=>cbv
 refine .inl ⟨[f],fun _=>⟨rfl,V,rfl,by show (o.length+1)*24<=140737488355328;(try simp only[List.length_take,List.length_drop]);omega⟩,?_⟩;intro (Z:List (el (.sl AA))) M N;have aa:Z=(o:List (el (.sl AA)))++([f]:List (el (.sl AA))):=N.1;have ab:M=List.length (α:=(el (.sl AA))) Z:=N.2;conv=>cbv
 intro a2 ag;conv=>cbv
 refine g1 (by omega) ?_;refine⟨U.length-(i'+1),?_,?_⟩
 ·omega
 rw[L];exact .inr ⟨I,Z,M,i'+1,a2,rfl,rfl,⟨⟨by omega⟩,by omega,ab⟩,by rw[h,P],by rw[aa,hinv,W,j],rfl⟩
end Go.Abs
