/- Part 34 of a proof. Conditions: each theorem's own. -/
import Derived.Test.YtoonaidhfikkeaaGreatPk32
set_option linter.all false
set_option maxHeartbeats 8000000
open Go.Proofs
namespace Go.Abs
open Go.RowKit
variable {A:LR} {R s:Nat} {T:List LR} {c:Int} {u:List (List Rat)} {x:Re}
theorem Uf (h:AU R u) (d:T=tw u) (a:A=em u x) (j:El u s x) (g:VV u.length R s<=60000000000000) (f:c=At x):CF 93 [.one (.sl (.sl AA) T),.one (.sl AA A)] (.one (.int .i64 c)):=by
 refine AE Tryz.func93 (by kernel_rfl) rfl fun E b=>?_
 conv=>cbv
 refine cL b (Nz h d a j g f) t2 ?_;try conv=>cbv
 exact fA ⟨t2,trivial⟩ rfl (by simp)
theorem Uw (h:AU R u) (F:T=tw u) (hs:VV u.length R R<=60000000000000):CF 177 [.one (.sl (.sl AA) T)] (.one (.bool true)):=by
 have Z:T.length=u.length:=by rw[F,Ay]
 refine AE Tryz.func177 (by kernel_rfl) rfl fun E O=>?_
 conv=>cbv
 refine cL O (Of h F) t1 ?_;try conv=>cbv
 intro n6 Y;cases Y.trans (rfl:_=false);conv=>cbv
 refine .inr ?_;obtain⟨V,d⟩:=xJ fun U W k=>∃(i':Nat) (i:Int),U=[.one (.sl (.sl AA) T),.one (.int .i64 i)]/\(AK i i'/\i'<=T.length)/\k=T.length-i'
 refine⟨[0,3],[],V,⟨T.length-0,by rw[d];exact⟨0,0,rfl,⟨Ah 0,by omega⟩,rfl⟩⟩,?_⟩;intro U W a5 Q;rw[d] at Q;obtain⟨i',i,rfl,⟨hi,a1⟩,a2⟩:=Q;conv=>cbv
 have ei:=hi.eq;rintro n9 ⟨e9,f9⟩;conv=>cbv
 intro K m;conv=>cbv
 cases K <;> conv=>cbv
 ·have I:=AR m;exact fA ⟨t2,trivial⟩ rfl (by simp)
 have I:=AS m;refine .inr ?_;intro a6 S;conv=>cbv
 refine g2 (by omega) ?_;intro G P;conv=>cbv
 intro J v;conv=>cbv
 obtain⟨j,b⟩:=AG (l:=T) (i:=i') (by omega);refine⟨j,fun _=>⟨by omega,by rw[show (i).toNat=i' by omega];exact b⟩,?_⟩;try conv=>cbv
 obtain⟨r,C,z⟩:=GR (u:=u) (i:=i') (by omega);have y:AQ (r::pre u i'):=C ▸ (h.pre (i'+1)).red;have H:j=AW r:=by rw[<-F,b] at z;exact Option.some.inj z
 have g:j=em (pre u i') (AI (pre u i') r):=H.trans (Cn y);have f:J=tw (pre u i'):=by rw[v,List.drop_zero,show G=i' by omega,F,Fq]
 obtain⟨N,a⟩:=xI (At (AI (pre u i') r));refine cL (r:= .one (.int .i64 N)) O (Nz (h.pre i') f g (El.Bz (C ▸ h.pre (i'+1))) (by rw[GQ (by omega)];exact Nat.le_trans (H8 (by omega) R R) hs) a) t2 ?_;try conv=>cbv
 intro M o;conv=>cbv
 refine g2 rfl ?_;cases M <;> conv=>cbv
 ·have D:=DR o;intro L X;conv=>cbv
  refine g1 (by omega) ?_;refine⟨T.length-(i'+1),?_,?_⟩
  ·omega
  rw[d];exact⟨i'+1,L,rfl,⟨⟨by omega⟩,by omega⟩,rfl⟩
 have D:=DS o;exact absurd (a.trans (FQ y.2.2.1)) D
theorem Eb (h:AU R u) (d:T=tw u) (g:A=em u x) (j:El u s x) (o:VV u.length R s<=60000000000000) (f:s<=60000000000000) (hR:VV u.length R R<=60000000000000) (m:c=At x):CF 136 [.one (.sl (.sl AA) T),.one (.sl AA A)] (.one (.int .i64 c)):=by
 refine AE Tryz.func136 (by kernel_rfl) rfl fun E b=>?_
 conv=>cbv
 refine cL b (H9 h d g j f) t2 ?_;try conv=>cbv
 intro y k;cases k.trans (rfl:_=false);conv=>cbv
 refine cL b (Uw h d hR) t1 ?_;try conv=>cbv
 intro v a;cases a.trans (rfl:_=false);conv=>cbv
 refine cL b (Nz h d g j o m) t2 ?_;try conv=>cbv
 exact fA ⟨t2,trivial⟩ rfl (by simp)
theorem Ux {C:LR} {r:List Rat} {k:Int} (h:AU R (r::u)) (P:T=tw (r::u)) (S:AK k u.length) (O:C=em (r::u) (rt u r)):CF 249 [.one (.sl (.sl AA) T),.one (.int .i64 k)] (.one (.sl AA C)):=by
 have N:=S.eq;have Q:(r::u).length<=16:=h.ht;have U:(r::u).length=u.length+1:=rfl;refine AE Tryz.func249 (by kernel_rfl) rfl fun E G=>?_
 conv=>cbv
 obtain⟨a1,a2,Y,Z,D⟩:=BD (((0:Int):Rat));refine cL G (DI (by omega) rfl D) t1 ?_;try conv=>cbv
 obtain⟨v,m⟩:=xR (em (r::u) (0));obtain⟨I,z⟩:=xN v.length;refine cL (r:= .one (.own AA v I)) G (OV h P D (by rw[show Re.ofRat ((0:Int):Rat)=0 from rfl];exact m) z) ⟨rfl,t4,trivial⟩ ?_;try conv=>cbv
 intro X F;conv=>cbv
 refine g2 (by omega) ?_;have M:=(DF (k:=u.length) F N (by omega)).eq;obtain⟨g,j,d,f,b⟩:=BD (((1:Int):Rat));refine cL G (DI (by omega) rfl b) t1 ?_;try conv=>cbv
 have V:v.length=2^u.length+2^u.length:=by rw[m,Ao (BP _),BI]
 have W:=Ce u.length;have L:=CA (n:=u.length) (by omega);refine g2 (by omega) ?_;intro H K;conv=>cbv
 refine⟨((g,j),(d,f)),fun _=>⟨by show _<List.length (α:=(el AA)) v;(first | omega | (simp;omega)),by first | exact t1 | exact t2 | exact t4 | simp[Ac,Ak,cells]⟩,?_⟩;intro (o:LR) (a:o=List.set (α:=(el AA)) v H (((g,j),(d,f))));have J:o.length=v.length:=by rw[a,List.length_set]
 conv=>cbv
 refine g2 rfl ?_;have y:C=o:=by rw[O,QI h.red,a,m];congr 1 <;> first | omega | exact b.rp
 exact fA ⟨⟨rfl,.inl ⟨_,rfl,by omega,congrArg _ (by rw[y,List.drop_zero,List.take_of_length_le (by omega)])⟩,trivial⟩,trivial⟩ rfl (by simp)
end Go.Abs
namespace Go.Abs
def TQ (h R s:Nat):Nat:=3*s+4*EE h R+R+GG h R+3+II h R R
def SS:Nat->Nat->Nat->Nat
 | 0,_,s=>s
 | h+1,R,s=>max (VV (h+1) R s) (max (SS h R (TQ h R s)) (s+II h R (TQ h R s+GG h R)+2*EE h R+2))
theorem OO (h R:Nat) {s t:Nat} (a:s<=t):TQ h R s<=TQ h R t:=by unfold TQ;omega
theorem JI:∀(h R:Nat) {s t:Nat},s<=t->SS h R s<=SS h R t
 | 0,_,_,_,a=>a
 | h+1,R,s,t,a=>by
  have b:=FX (h+1) R a;have d:=JI h R (OO h R a);have f:=Gc h R (Nat.add_le_add_right (OO h R a) (GG h R))
  show max _ (max _ _)<=max _ (max _ _)
  omega
theorem F1 (h R s:Nat):VV (h+1) R s<=SS (h+1) R s:=by show _<=max _ (max _ _);omega
theorem OL (h R s:Nat):SS h R (TQ h R s)<=SS (h+1) R s:=by show _<=max _ (max _ _);omega
theorem Gd (h R s:Nat):s+II h R (TQ h R s+GG h R)+2*EE h R+2<=SS (h+1) R s:=by show _<=max _ (max _ _);omega
theorem OM (h R s:Nat):s<=SS h R s:=by
 cases h with
 | zero=>exact Nat.le_refl _
 | succ h=>exact Nat.le_trans (Du _ _ _) (F1 h R s)
end Go.Abs
namespace Go.Abs
open Go.RowKit
variable {A B l:LR} {R k0 s:Nat} {T:List LR} {i n p q t w x:Re} {r:List Rat} {u:List (List Rat)}
theorem Lg {C:LR} (D:A.length<=1000000) (F:B.length<=1000000) (o:C=A++B):CF 179 [.one (.sl AA A),.one (.sl AA B)] (.one (.sl AA C)):=by
 refine AE Tryz.func179 (by kernel_rfl) rfl fun E G=>?_
 conv=>cbv
 refine⟨[],fun _=>⟨rfl,by decide,rfl,trivial⟩,.inl ?_⟩;try conv=>cbv
 refine .inl ⟨A,fun _=>⟨rfl,rfl,rfl,by show (0+A.length)*64<=140737488355328;(try simp only[List.length_take,List.length_drop]);omega⟩,?_⟩;intro (d:LR) y f;have b:d=([]:LR)++(A:LR):=f.1;have j:y=List.length (α:=(el AA)) d:=f.2;conv=>cbv
 have m:d.length=A.length:=by rw[b];simp
 refine .inl ⟨B,fun _=>⟨rfl,j,rfl,by show (d.length+B.length)*64<=140737488355328;(try simp only[List.length_take,List.length_drop]);omega⟩,?_⟩;intro (k:LR) z g;have h:k=(d:LR)++(B:LR):=g.1;have v:z=List.length (α:=(el AA)) k:=g.2;conv=>cbv
 have a:C=k:=by rw[o,h,b];rfl
 exact fA ⟨⟨rfl,.inl ⟨_,rfl,by omega,congrArg _ (by rw[a,List.drop_zero,List.take_of_length_le (by omega)])⟩,trivial⟩,trivial⟩ rfl (by simp)
def FY (u:List (List Rat)) (x:Re) (l:LR):Prop:=∀{T:List LR} {A:LR},T=tw u->A=em u x->
 CF 137 [.one (.sl (.sl AA) T),.one (.sl AA A)] (.AF [(false,[.sl AA l]),(false,[.bool false])])
def FZ (u:List (List Rat)) (x w:Re):Prop:=∀{T:List LR} {A B:LR},T=tw u->A=em u x->B=em u w->
 CF 137 [.one (.sl (.sl AA) T),.one (.sl AA A)] (.AF [(false,[.sl AA B]),(false,[.bool true])])
theorem GJ {c:Int} (b:c=At x) (h:c<0) (a:0<=x):False:=by
 have:=(Fj (x:=x)).1 (by omega)
 grind
theorem VY (h:AU R (r::u)) (y:T=tw (r::u)) (v:A=em (r::u) x) (C:El (r::u) s x) (O:x=p+q*rt u r) (S:El u s p) (U:El u s q) (V:SS (r::u).length R s<=60000000000000) (j:VV (r::u).length R R<=60000000000000) (g:x<0):CF 137 [.one (.sl (.sl AA) T),.one (.sl AA A)] (.AF [(false,[.sl AA (([]:LR))]),(false,[.bool false])]):=by
 have I:T.length=u.length+1:=by rw[y,Ay];rfl
 have F:A.length=2^u.length+2^u.length:=by rw[v,Ao C.mem,BI]
 have K:=El.Bz h;have hR:=h.hR;have N:VV (r::u).length R s<=SS (r::u).length R s:=F1 u.length R s;have M:s+II u.length R (TQ u.length R s+GG u.length R)+2*EE u.length R+2<=SS (r::u).length R s:=Gd u.length R s;have L:=Du (r::u).length R s;have J:=C4 u.length R (TQ u.length R s+GG u.length R);have H:TQ u.length R s=3*s+4*EE u.length R+R+GG u.length R+3+II u.length R R:=rfl;have z:=CA h.tail.ht;refine AE Tryz.func137 (by kernel_rfl) rfl fun E G=>?_
 conv=>cbv
 rintro P ⟨D,f31⟩;conv=>cbv
 intro m a;conv=>cbv
 cases m <;> conv=>cbv
 ·have f:=Ab a;obtain⟨Q,d⟩:=xI (At x);refine cL G (Eb h y v C (by omega) (by omega) j d) t2 ?_;try conv=>cbv
  intro o b;conv=>cbv
  cases o <;> conv=>cbv
  ·have k:=AR b;exact absurd (Fj.2 g) (by omega)
  have k:=AS b;exact fA ⟨⟨rfl,.inr (.inl ⟨_,rfl⟩),trivial⟩,t2,trivial⟩ rfl (by simp)
 have f:=Ad a;exact absurd f (by omega)
theorem VZ (h:AU R (r::u)) (N:T=tw (r::u)) (M:A=em (r::u) x) (hx:El (r::u) s x) (H:x=p+q*rt u r) (hp:El u s p) (V:El u s q) (hs:SS (r::u).length R s<=60000000000000) (W:VV (r::u).length R R<=60000000000000) (S:0<=x) (h0:q=0) (hw:In u w) (hy:FZ u p w) (hB:B=em (r::u) w):CF 137 [.one (.sl (.sl AA) T),.one (.sl AA A)] (.AF [(false,[.sl AA B]),(false,[.bool true])]):=by
 have aw:T.length=u.length+1:=by rw[N,Ay];rfl
 have au:A.length=2^u.length+2^u.length:=by rw[M,Ao hx.mem,BI]
 have ay:=El.Bz h;have hR:=h.hR;have aB:VV (r::u).length R s<=SS (r::u).length R s:=F1 u.length R s;have aA:s+II u.length R (TQ u.length R s+GG u.length R)+2*EE u.length R+2<=SS (r::u).length R s:=Gd u.length R s;have az:=Du (r::u).length R s;have ax:=C4 u.length R (TQ u.length R s+GG u.length R);have av:TQ u.length R s=3*s+4*EE u.length R+R+GG u.length R+3+II u.length R R:=rfl;have af:=CA h.tail.ht;refine AE Tryz.func137 (by kernel_rfl) rfl fun E o=>?_
 conv=>cbv
 rintro aF ⟨al,f31⟩;conv=>cbv
 intro a2 v;conv=>cbv
 cases a2 <;> conv=>cbv
 ·have I:=Ab v;obtain⟨aJ,g⟩:=xI (At x);refine cL o (Eb h N M hx (by omega) (by omega) W g) t2 ?_;try conv=>cbv
  intro a5 y;conv=>cbv
  cases a5 <;> conv=>cbv
  ·have J:=AR y;rintro aG ⟨an,f48⟩;conv=>cbv
   intro a6 aq;conv=>cbv
   refine g1 (by omega) ?_;intro aC ad;conv=>cbv
   refine g2 (by omega) ?_;intro P aa;conv=>cbv
   intro Y C;conv=>cbv
   obtain⟨L,f⟩:=AG (l:=T) (i:=(T.length-1)) (by omega);refine⟨L,fun _=>⟨by omega,by rw[show (a6).toNat=(T.length-1) by omega];exact f⟩,?_⟩;try conv=>cbv
   refine g2 rfl ?_;rintro aH ⟨ao,f58⟩;conv=>cbv
   intro aI ar;conv=>cbv
   refine g2 ⟨by omega,by omega,i64 (by omega)⟩ ?_;intro aD ae;conv=>cbv
   refine g2 (by omega) ?_;intro Q ab;conv=>cbv
   intro Z D;conv=>cbv
   intro aE G;conv=>cbv
   refine g2 (by omega) ?_;rintro O ak ⟨a8,z⟩;conv=>cbv
   intro a1 F;conv=>cbv
   refine g2 rfl ?_;have a:Y=tw u:=by rw[C,List.drop_zero,show P=T.length-1 by omega,N,CV]
   have X:L=em u (AI u r):=by rw[N,Da] at f;exact (Option.some.inj f).symm.trans (Cn h.red)
   have k:Z=em u p:=by rw[D,List.drop_zero,show Q=A.length/2 by omega,M,Bb h.red hp.mem V.mem H]
   have m:a1=em u q:=by rw[F,show O=A.length/2 by omega,z,G,List.take_length,M,BO h.red hp.mem V.mem H]
   obtain⟨ai,aj,ag,ah,j⟩:=BD (((0:Int):Rat));refine cL o (DI (by omega) rfl j) t1 ?_;try conv=>cbv
   obtain⟨K,b⟩:=xR (em u (0));refine cL (r:= .one (.sl AA K)) o (EJ h.tail a j (by rw[show Re.ofRat ((0:Int):Rat)=0 from rfl];exact b)) ⟨rfl,t4,trivial⟩ ?_;try conv=>cbv
   refine cL o (Fa h.tail.red V.mem m h0) t1 ?_;try conv=>cbv
   obtain⟨a7,d⟩:=xR (em u w);refine cL o (hy a k d) t2 ?_;try conv=>cbv
   have U:B=a7++K:=by rw[hB,d,b];exact DL h.red hw (BP u) (by grind)
   refine cL (r:= .one (.sl AA B)) o (Lg (by rw[d,Ao hw];omega) (by rw[b,Ao (BP u)];omega) U) t2 ?_;try conv=>cbv
   exact fA ⟨t2,t2,trivial⟩ rfl (by simp)
  have J:=AS y;exact (GJ g J S).elim
 have I:=Ad v;exact absurd I (by omega)
theorem Va (h:AU R (r::u)) (U:T=tw (r::u)) (S:A=em (r::u) x) (hx:El (r::u) s x) (M:x=p+q*rt u r) (hp:El u s p) (hq:El u s q) (hs:SS (r::u).length R s<=60000000000000) (a2:VV (r::u).length R R<=60000000000000) (Y:0<=x) (h0:q=0) (hi:In u i) (K:AI u r*i=1) (hn:FY u p l) (hw:In u w) (hy:FZ u (p*i) w) (hB:B=em (r::u) (w*rt u r)):CF 137 [.one (.sl (.sl AA) T),.one (.sl AA A)] (.AF [(false,[.sl AA B]),(false,[.bool true])]):=by
 have aB:T.length=u.length+1:=by rw[U,Ay];rfl
 have az:A.length=2^u.length+2^u.length:=by rw[S,Ao hx.mem,BI]
 have L:=El.Bz h;have hR:=h.hR;have aF:VV (r::u).length R s<=SS (r::u).length R s:=F1 u.length R s;have aE:s+II u.length R (TQ u.length R s+GG u.length R)+2*EE u.length R+2<=SS (r::u).length R s:=Gd u.length R s;have aD:=Du (r::u).length R s;have aC:=C4 u.length R (TQ u.length R s+GG u.length R);have aA:TQ u.length R s=3*s+4*EE u.length R+R+GG u.length R+3+II u.length R R:=rfl;have ak:=CA h.tail.ht;have a1:=L.inv h.tail hi K;refine AE Tryz.func137 (by kernel_rfl) rfl fun E j=>?_
 conv=>cbv
 rintro aJ ⟨au,f31⟩;conv=>cbv
 intro a8 C;conv=>cbv
 cases a8 <;> conv=>cbv
 ·have N:=Ab C;obtain⟨aN,k⟩:=xI (At x);refine cL j (Eb h U S hx (by omega) (by omega) a2 k) t2 ?_;try conv=>cbv
  intro aa D;conv=>cbv
  cases aa <;> conv=>cbv
  ·have O:=AR D;rintro aK ⟨av,f48⟩;conv=>cbv
   intro ab ax;conv=>cbv
   refine g1 (by omega) ?_;intro aG ai;conv=>cbv
   refine g2 (by omega) ?_;intro W ag;conv=>cbv
   intro a5 G;conv=>cbv
   obtain⟨Q,g⟩:=AG (l:=T) (i:=(T.length-1)) (by omega);refine⟨Q,fun _=>⟨by omega,by rw[show (ab).toNat=(T.length-1) by omega];exact g⟩,?_⟩;try conv=>cbv
   refine g2 rfl ?_;rintro aL ⟨aw,f58⟩;conv=>cbv
   intro aM ay;conv=>cbv
   refine g2 ⟨by omega,by omega,i64 (by omega)⟩ ?_;intro aH aj;conv=>cbv
   refine g2 (by omega) ?_;intro X ah;conv=>cbv
   intro a6 H;conv=>cbv
   intro aI J;conv=>cbv
   refine g2 (by omega) ?_;rintro V ar ⟨af,F⟩;conv=>cbv
   intro a7 I;conv=>cbv
   refine g2 rfl ?_;have a:a5=tw u:=by rw[G,List.drop_zero,show W=T.length-1 by omega,U,CV]
   have z:Q=em u (AI u r):=by rw[U,Da] at g;exact (Option.some.inj g).symm.trans (Cn h.red)
   have b:a6=em u p:=by rw[H,List.drop_zero,show X=A.length/2 by omega,S,Bb h.red hp.mem hq.mem M]
   have y:a7=em u q:=by rw[I,show V=A.length/2 by omega,F,J,List.take_length,S,BO h.red hp.mem hq.mem M]
   obtain⟨ao,aq,al,an,v⟩:=BD (((0:Int):Rat));refine cL j (DI (by omega) rfl v) t1 ?_;try conv=>cbv
   obtain⟨P,d⟩:=xR (em u (0));refine cL (r:= .one (.sl AA P)) j (EJ h.tail a v (by rw[show Re.ofRat ((0:Int):Rat)=0 from rfl];exact d)) ⟨rfl,t4,trivial⟩ ?_;try conv=>cbv
   refine cL j (Fa h.tail.red hq.mem y h0) t1 ?_;try conv=>cbv
   refine cL j (hn a b) t2 ?_;try conv=>cbv
   obtain⟨ad,m⟩:=xR (em u (i));refine cL (r:= .AF [(false,[.sl AA ad]),(false,[.int .i64 0])]) j (JR h.tail a z L hi K (by have:=Gc u.length R (s:=R) (t:=TQ u.length R s+GG u.length R) (by omega);omega) m) t2 ?_;try conv=>cbv
   obtain⟨aO,o⟩:=xR (em u (p*i));refine cL j (Ch h.tail a b m hp a1 (by omega) o) t3 ?_;try conv=>cbv
   obtain⟨ae,f⟩:=xR (em u w);refine cL j (hy a o f) t2 ?_;try conv=>cbv
   have Z:B=P++ae:=by rw[hB,f,d];exact DL h.red (BP u) hw (by grind)
   refine cL (r:= .one (.sl AA B)) j (Lg (by rw[d,Ao (BP u)];omega) (by rw[f,Ao hw];omega) Z) t2 ?_;try conv=>cbv
   exact fA ⟨t2,t2,trivial⟩ rfl (by simp)
  have O:=AS D;exact (GJ k O Y).elim
 have N:=Ad C;exact absurd N (by omega)
theorem Vb (h:AU R (r::u)) (Q:T=tw (r::u)) (P:A=em (r::u) x) (hx:El (r::u) s x) (L:x=p+q*rt u r) (Z:El u s p) (hq:El u s q) (hs:SS (r::u).length R s<=60000000000000) (a1:VV (r::u).length R R<=60000000000000) (W:0<=x) (h0:q=0) (hi:In u i) (I:AI u r*i=1) (hn:FY u p l) {l2:LR} (Y:FY u (p*i) l2):CF 137 [.one (.sl (.sl AA) T),.one (.sl AA A)] (.AF [(false,[.sl AA (([]:LR))]),(false,[.bool false])]):=by
 have aA:T.length=u.length+1:=by rw[Q,Ay];rfl
 have ay:A.length=2^u.length+2^u.length:=by rw[P,Ao hx.mem,BI]
 have J:=El.Bz h;have hR:=h.hR;have aE:VV (r::u).length R s<=SS (r::u).length R s:=F1 u.length R s;have aD:s+II u.length R (TQ u.length R s+GG u.length R)+2*EE u.length R+2<=SS (r::u).length R s:=Gd u.length R s;have aC:=Du (r::u).length R s;have aB:=C4 u.length R (TQ u.length R s+GG u.length R);have az:TQ u.length R s=3*s+4*EE u.length R+R+GG u.length R+3+II u.length R R:=rfl;have aj:=CA h.tail.ht;have X:=J.inv h.tail hi I;refine AE Tryz.func137 (by kernel_rfl) rfl fun E f=>?_
 conv=>cbv
 rintro aI ⟨ar,f31⟩;conv=>cbv
 intro a7 y;conv=>cbv
 cases a7 <;> conv=>cbv
 ·have M:=Ab y;obtain⟨aM,g⟩:=xI (At x);refine cL f (Eb h Q P hx (by omega) (by omega) a1 g) t2 ?_;try conv=>cbv
  intro a8 z;conv=>cbv
  cases a8 <;> conv=>cbv
  ·have N:=AR z;rintro aJ ⟨au,f48⟩;conv=>cbv
   intro aa aw;conv=>cbv
   refine g1 (by omega) ?_;intro aF ah;conv=>cbv
   refine g2 (by omega) ?_;intro U af;conv=>cbv
   intro a2 D;conv=>cbv
   obtain⟨O,d⟩:=AG (l:=T) (i:=(T.length-1)) (by omega);refine⟨O,fun _=>⟨by omega,by rw[show (aa).toNat=(T.length-1) by omega];exact d⟩,?_⟩;try conv=>cbv
   refine g2 rfl ?_;rintro aK ⟨av,f58⟩;conv=>cbv
   intro aL ax;conv=>cbv
   refine g2 ⟨by omega,by omega,i64 (by omega)⟩ ?_;intro aG ai;conv=>cbv
   refine g2 (by omega) ?_;intro V ag;conv=>cbv
   intro a5 F;conv=>cbv
   intro aH H;conv=>cbv
   refine g2 (by omega) ?_;rintro S aq ⟨ae,C⟩;conv=>cbv
   intro a6 G;conv=>cbv
   refine g2 rfl ?_;have a:a2=tw u:=by rw[D,List.drop_zero,show U=T.length-1 by omega,Q,CV]
   have v:O=em u (AI u r):=by rw[Q,Da] at d;exact (Option.some.inj d).symm.trans (Cn h.red)
   have b:a5=em u p:=by rw[F,List.drop_zero,show V=A.length/2 by omega,P,Bb h.red Z.mem hq.mem L]
   have o:a6=em u q:=by rw[G,show S=A.length/2 by omega,C,H,List.take_length,P,BO h.red Z.mem hq.mem L]
   obtain⟨an,ao,ak,al,m⟩:=BD (((0:Int):Rat));refine cL f (DI (by omega) rfl m) t1 ?_;try conv=>cbv
   obtain⟨ab,K⟩:=xR (em u (0));refine cL (r:= .one (.sl AA ab)) f (EJ h.tail a m (by rw[show Re.ofRat ((0:Int):Rat)=0 from rfl];exact K)) ⟨rfl,t4,trivial⟩ ?_;try conv=>cbv
   refine cL f (Fa h.tail.red hq.mem o h0) t1 ?_;try conv=>cbv
   refine cL f (hn a b) t2 ?_;try conv=>cbv
   obtain⟨ad,j⟩:=xR (em u (i));refine cL (r:= .AF [(false,[.sl AA ad]),(false,[.int .i64 0])]) f (JR h.tail a v J hi I (by have:=Gc u.length R (s:=R) (t:=TQ u.length R s+GG u.length R) (by omega);omega) j) t2 ?_;try conv=>cbv
   obtain⟨aN,k⟩:=xR (em u (p*i));refine cL f (Ch h.tail a b j Z X (by omega) k) t3 ?_;try conv=>cbv
   refine cL f (Y a k) t2 ?_;try conv=>cbv
   exact fA ⟨⟨rfl,.inr (.inl ⟨_,rfl⟩),trivial⟩,t2,trivial⟩ rfl (by simp)
  have N:=AS z;exact (GJ g N W).elim
 have M:=Ad y;exact absurd M (by omega)
theorem VU (h:AU R (r::u)) (X:T=tw (r::u)) (W:A=em (r::u) x) (hx:El (r::u) s x) (P:x=p+q*rt u r) (D:El u s p) (v:El u s q) (hs:SS (r::u).length R s<=60000000000000) (a6:VV (r::u).length R R<=60000000000000) (a2:0<=x) (h0:q≠0) (hn:FY u (p*p-q*q*AI u r) l):CF 137 [.one (.sl (.sl AA) T),.one (.sl AA A)] (.AF [(false,[.sl AA (([]:LR))]),(false,[.bool false])]):=by
 have aG:T.length=u.length+1:=by rw[X,Ay];rfl
 have aE:A.length=2^u.length+2^u.length:=by rw[W,Ao hx.mem,BI]
 have N:=El.Bz h;have hR:=h.hR;have aK:VV (r::u).length R s<=SS (r::u).length R s:=F1 u.length R s;have aJ:s+II u.length R (TQ u.length R s+GG u.length R)+2*EE u.length R+2<=SS (r::u).length R s:=Gd u.length R s;have aI:=Du (r::u).length R s;have aH:=C4 u.length R (TQ u.length R s+GG u.length R);have aF:TQ u.length R s=3*s+4*EE u.length R+R+GG u.length R+3+II u.length R R:=rfl;have al:=CA h.tail.ht;refine AE Tryz.func137 (by kernel_rfl) rfl fun E o=>?_
 conv=>cbv
 rintro aO ⟨az,f31⟩;conv=>cbv
 intro ab G;conv=>cbv
 cases ab <;> conv=>cbv
 ·have Q:=Ab G;obtain⟨aS,y⟩:=xI (At x);refine cL o (Eb h X W hx (by omega) (by omega) a6 y) t2 ?_;try conv=>cbv
  intro ad H;conv=>cbv
  cases ad <;> conv=>cbv
  ·have S:=AR H;rintro aP ⟨aA,f48⟩;conv=>cbv
   intro ae aC;conv=>cbv
   refine g1 (by omega) ?_;intro aL aj;conv=>cbv
   refine g2 (by omega) ?_;intro Z ah;conv=>cbv
   intro a7 J;conv=>cbv
   obtain⟨V,m⟩:=AG (l:=T) (i:=(T.length-1)) (by omega);refine⟨V,fun _=>⟨by omega,by rw[show (ae).toNat=(T.length-1) by omega];exact m⟩,?_⟩;try conv=>cbv
   refine g2 rfl ?_;rintro aQ ⟨aB,f58⟩;conv=>cbv
   intro aR aD;conv=>cbv
   refine g2 ⟨by omega,by omega,i64 (by omega)⟩ ?_;intro aM ak;conv=>cbv
   refine g2 (by omega) ?_;intro a1 ai;conv=>cbv
   intro a8 K;conv=>cbv
   intro aN M;conv=>cbv
   refine g2 (by omega) ?_;rintro Y ay ⟨ag,I⟩;conv=>cbv
   intro aa L;conv=>cbv
   refine g2 rfl ?_;have a:a7=tw u:=by rw[J,List.drop_zero,show Z=T.length-1 by omega,X,CV]
   have C:V=em u (AI u r):=by rw[X,Da] at m;exact (Option.some.inj m).symm.trans (Cn h.red)
   have d:a8=em u p:=by rw[K,List.drop_zero,show a1=A.length/2 by omega,W,Bb h.red D.mem v.mem P]
   have b:aa=em u q:=by rw[L,show Y=A.length/2 by omega,I,M,List.take_length,W,BO h.red D.mem v.mem P]
   obtain⟨aw,ax,au,av,z⟩:=BD (((0:Int):Rat));refine cL o (DI (by omega) rfl z) t1 ?_;try conv=>cbv
   obtain⟨af,O⟩:=xR (em u (0));refine cL (r:= .one (.sl AA af)) o (EJ h.tail a z (by rw[show Re.ofRat ((0:Int):Rat)=0 from rfl];exact O)) ⟨rfl,t4,trivial⟩ ?_;try conv=>cbv
   refine cL o (F3 h.tail.red v.mem b h0) t1 ?_;try conv=>cbv
   obtain⟨ao,f⟩:=xR (em u (p*p));refine cL o (Ch h.tail a d d D D (by omega) f) t3 ?_;try conv=>cbv
   obtain⟨aq,g⟩:=xR (em u (q*q));refine cL o (Ch h.tail a b b v v (by omega) g) t3 ?_;try conv=>cbv
   obtain⟨ar,j⟩:=xR (em u (AI u r*(q*q)));refine cL o (Ch h.tail a C g N (v.mul h.tail v) (by omega) j) t3 ?_;try conv=>cbv
   obtain⟨U,k⟩:=xR (em u (p*p-AI u r*(q*q)));refine cL o (JS h.tail f j (D.mul h.tail D) (N.mul h.tail (v.mul h.tail v)) (by omega) (by omega) k) t3 ?_;try conv=>cbv
   have a5:U=em u (p*p-q*q*AI u r):=by rw[k,show p*p-AI u r*(q*q)=p*p-q*q*AI u r by grind]
   refine cL o (hn a a5) t2 ?_;try conv=>cbv
   intro an F;cases F.trans (rfl:_=true);conv=>cbv
   exact fA ⟨⟨rfl,.inr (.inl ⟨_,rfl⟩),trivial⟩,t2,trivial⟩ rfl (by simp)
  have S:=AS H;exact (GJ y S a2).elim
 have Q:=Ad G;exact absurd Q (by omega)
theorem VX (h:AU R (r::u)) (hT:T=tw (r::u)) (hA:A=em (r::u) x) (hx:El (r::u) s x) (X:x=p+q*rt u r) (O:El u s p) (J:El u s q) (hs:SS (r::u).length R s<=60000000000000) (aF:VV (r::u).length R R<=60000000000000) (az:0<=x) (h0:q≠0) (hn:In u n) (aC:n*n=p*p-q*q*AI u r) (ht:t=Re.ofRat (1/2)) (aJ:FZ u (p*p-q*q*AI u r) n) {y:Nat->Re} (aG:y 0=p+n) (aH:y 1=p-n) (aI:∀i,El u (s+(2*s+2*EE u.length R+R+1+GG u.length R)+1) (y i)) {L:Nat->LR} (hk:k0<=2) (aD:∀i,i<k0->FY u (t*y i) (L i)) (U:k0=2):CF 137 [.one (.sl (.sl AA) T),.one (.sl AA A)] (.AF [(false,[.sl AA (([]:LR))]),(false,[.bool false])]):=by
 have bh:T.length=u.length+1:=by rw[hT,Ay];rfl
 have bf:A.length=2^u.length+2^u.length:=by rw[hA,Ao hx.mem,BI]
 have ad:=El.Bz h;have hR:=h.hR;have bp:VV (r::u).length R s<=SS (r::u).length R s:=F1 u.length R s;have bo:s+II u.length R (TQ u.length R s+GG u.length R)+2*EE u.length R+2<=SS (r::u).length R s:=Gd u.length R s;have bn:=Du (r::u).length R s;have bm:=C4 u.length R (TQ u.length R s+GG u.length R);have bg:TQ u.length R s=3*s+4*EE u.length R+R+GG u.length R+3+II u.length R R:=rfl;have aY:=CA h.tail.ht;have hN:=El.norm h O.mem J.mem (X ▸ hx);have ab:=hN.sqrt h.tail hn aC;have aE:El u 1 t:=by rw[ht];exact El.rat h.red.1 IJ
 refine AE Tryz.func137 (by kernel_rfl) rfl fun E b=>?_
 conv=>cbv
 rintro bu ⟨b9,f31⟩;conv=>cbv
 intro aK Z;conv=>cbv
 cases aK <;> conv=>cbv
 ·have ag:=Ab Z;obtain⟨bA,P⟩:=xI (At x);refine cL b (Eb h hT hA hx (by omega) (by omega) aF P) t2 ?_;try conv=>cbv
  intro aL a1;conv=>cbv
  cases aL <;> conv=>cbv
  ·have ah:=AR a1;rintro bw ⟨ba,f48⟩;conv=>cbv
   intro aM bc;conv=>cbv
   refine g1 (by omega) ?_;intro br aW;conv=>cbv
   refine g2 (by omega) ?_;intro ax aU;conv=>cbv
   intro ai a5;conv=>cbv
   obtain⟨av,H⟩:=AG (l:=T) (i:=(T.length-1)) (by omega);refine⟨av,fun _=>⟨by omega,by rw[show (aM).toNat=(T.length-1) by omega];exact H⟩,?_⟩;try conv=>cbv
   refine g2 rfl ?_;rintro bx ⟨bb,f58⟩;conv=>cbv
   intro bz bd;conv=>cbv
   refine g2 ⟨by omega,by omega,i64 (by omega)⟩ ?_;intro bs aX;conv=>cbv
   refine g2 (by omega) ?_;intro ay aV;conv=>cbv
   intro aj a6;conv=>cbv
   intro bt a8;conv=>cbv
   refine g2 (by omega) ?_;rintro aw b8 ⟨aT,a2⟩;conv=>cbv
   intro ak a7;conv=>cbv
   refine g2 rfl ?_;have a:ai=tw u:=by rw[a5,List.drop_zero,show ax=T.length-1 by omega,hT,CV]
   have W:av=em u (AI u r):=by rw[hT,Da] at H;exact (Option.some.inj H).symm.trans (Cn h.red)
   have d:aj=em u p:=by rw[a6,List.drop_zero,show ay=A.length/2 by omega,hA,Bb h.red O.mem J.mem X]
   have f:ak=em u q:=by rw[a7,show aw=A.length/2 by omega,a2,a8,List.take_length,hA,BO h.red O.mem J.mem X]
   obtain⟨b6,b7,b4,b5,Q⟩:=BD (((0:Int):Rat));refine cL b (DI (by omega) rfl Q) t1 ?_;try conv=>cbv
   obtain⟨aN,ae⟩:=xR (em u (0));refine cL (r:= .one (.sl AA aN)) b (EJ h.tail a Q (by rw[show Re.ofRat ((0:Int):Rat)=0 from rfl];exact ae)) ⟨rfl,t4,trivial⟩ ?_;try conv=>cbv
   refine cL b (F3 h.tail.red J.mem f h0) t1 ?_;try conv=>cbv
   obtain⟨b0,g⟩:=xR (em u (p*p));refine cL b (Ch h.tail a d d O O (by omega) g) t3 ?_;try conv=>cbv
   obtain⟨b1,j⟩:=xR (em u (q*q));refine cL b (Ch h.tail a f f J J (by omega) j) t3 ?_;try conv=>cbv
   obtain⟨b2,o⟩:=xR (em u (AI u r*(q*q)));refine cL b (Ch h.tail a W j ad (J.mul h.tail J) (by omega) o) t3 ?_;try conv=>cbv
   obtain⟨ao,v⟩:=xR (em u (p*p-AI u r*(q*q)));refine cL b (JS h.tail g o (O.mul h.tail O) (ad.mul h.tail (J.mul h.tail J)) (by omega) (by omega) v) t3 ?_;try conv=>cbv
   have aA:ao=em u (p*p-q*q*AI u r):=by rw[v,show p*p-AI u r*(q*q)=p*p-q*q*AI u r by grind]
   obtain⟨aq,z⟩:=xR (em u n);refine cL b (aJ a aA z) t2 ?_;try conv=>cbv
   intro aZ Y;cases Y.trans (rfl:_=false);conv=>cbv
   obtain⟨aQ,aR,aO,aP,I⟩:=BD ((1/2:Rat));refine cL b (LX (by omega) (by omega) (by decide) (by decide +kernel) I) t2 ?_;try conv=>cbv
   obtain⟨S,C⟩:=xR (em u (t));refine cL (r:= .one (.sl AA S)) b (EJ h.tail a I (C.trans (by rw[ht]))) ⟨rfl,t4,trivial⟩ ?_;try conv=>cbv
   refine .inr ?_;obtain⟨J0,K⟩:=xJ fun vs bl k=>∃(k':Nat) (m:Re) (M:LR) (i:Int),vs=[.one (.sl (.sl AA) ai),.one (.sl AA aj),.one (.sl AA ak),.one (.sl AA M),.one (.sl AA S),.one (.int .i64 i)]/\(AK i k'/\k'<=2)/\(M=em u m/\m=if k'=1 then -n else n)/\k=2-k'
   refine⟨[9,12,13,22,24,25],[],J0,⟨2-0,by rw[K];exact⟨0,n,aq,0,rfl,⟨Ah 0,by omega⟩,⟨z,rfl⟩,rfl⟩⟩,?_⟩;intro vs bl bq hj;rw[K] at hj;obtain⟨k',m,M,i,rfl,⟨hi,bj⟩,⟨hM,V⟩,bk⟩:=hj;conv=>cbv
   have ei:=hi.eq;intro al N;conv=>cbv
   cases al <;> conv=>cbv
   ·have af:=AR N;exact fA ⟨⟨rfl,.inr (.inl ⟨_,rfl⟩),trivial⟩,t2,trivial⟩ rfl (by simp)
   have af:=AS N;refine .inr ?_;have U:k'=0\/k'=1:=by omega
   have aa:El u (2*s+2*EE u.length R+R+1+GG u.length R) m:=by rw[V];split;exact ab.neg h.red.1;exact ab
   have aB:p+m=y k':=by rcases U with e | e <;> rw[e,V,e] <;> first | (rw[aG];rfl) | (rw[aH];simp;grind)
   obtain⟨ar,D⟩:=xR (em u (y k'));refine cL (r:= .one (.sl AA ar)) b (Ge h.tail d hM O aa (by omega) (by omega) (D.trans (by rw[aB]))) t3 ?_;try conv=>cbv
   obtain⟨b3,F⟩:=xR (em u (t*y k'));refine cL b (Ch h.tail a C D aE (aI k') (by omega) F) t3 ?_;try conv=>cbv
   refine cL b (aD k' (by omega) a F) t2 ?_;try conv=>cbv
   obtain⟨au,G⟩:=xR (em u (-m));refine cL b (HB h.tail hM aa G) t2 ?_;try conv=>cbv
   intro an aS;conv=>cbv
   refine g1 (by omega) ?_;refine⟨2-(k'+1),?_,?_⟩
   ·omega
   rw[K];exact⟨k'+1,-m,au,an,rfl,⟨⟨by omega⟩,by omega⟩,⟨G,by clear K;rcases U with e | e <;> rw[V,e] <;> first | rfl | (show- -n=n;grind)⟩,rfl⟩
  have ah:=AS a1;exact (GJ P ah az).elim
 have ag:=Ad Z;exact absurd ag (by omega)
theorem VW (h:AU R (r::u)) (hT:T=tw (r::u)) (hA:A=em (r::u) x) (hx:El (r::u) s x) (hxe:x=p+q*rt u r) (hp:El u s p) (hq:El u s q) (hs:SS (r::u).length R s<=60000000000000) (hvR:VV (r::u).length R R<=60000000000000) (h0x:0<=x) (h0:q≠0) (hn:In u n) (hnn:n*n=p*p-q*q*AI u r) (ht:t=Re.ofRat (1/2)) (hyn:FZ u (p*p-q*q*AI u r) n) {y:Nat->Re} (hy0:y 0=p+n) (hy1:y 1=p-n) (hyE:∀i,El u (s+(2*s+2*EE u.length R+R+1+GG u.length R)+1) (y i)) {L:Nat->LR} (hk:k0<=2) (hno:∀i,i<k0->FY u (t*y i) (L i)) (hk1:k0<2) {j:Re} (hw:In u w) (hww:w*w=t*y k0) (hyw:FZ u (t*y k0) w) (hj:In u j) (hwj:w*j=1) (hB:B=em (r::u) (w+t*(q*j)*rt u r)):CF 137 [.one (.sl (.sl AA) T),.one (.sl AA A)] (.AF [(false,[.sl AA B]),(false,[.bool true])]):=by
 have hTl:T.length=u.length+1:=by rw[hT,Ay];rfl
 have hAl:A.length=2^u.length+2^u.length:=by rw[hA,Ao hx.mem,BI]
 have hrr:=El.Bz h;have hR:=h.hR;have hsv:VV (r::u).length R s<=SS (r::u).length R s:=F1 u.length R s;have hsi:s+II u.length R (TQ u.length R s+GG u.length R)+2*EE u.length R+2<=SS (r::u).length R s:=Gd u.length R s;have hsg:=Du (r::u).length R s;have hmn:=C4 u.length R (TQ u.length R s+GG u.length R);have hTQ:TQ u.length R s=3*s+4*EE u.length R+R+GG u.length R+3+II u.length R R:=rfl;have hp16:=CA h.tail.ht;have hN:=El.norm h hp.mem hq.mem (hxe ▸ hx);have hnE:=hN.sqrt h.tail hn hnn;have htE:El u 1 t:=by rw[ht];exact El.rat h.red.1 IJ
 have hhE:=htE.mul h.tail (hyE k0);have hwE:=hhE.sqrt h.tail hw hww;have hjE:=(hwE.mono (t:=TQ u.length R s+GG u.length R) (by omega)).inv h.tail hj hwj;refine AE Tryz.func137 (by kernel_rfl) rfl fun E hE=>?_
 conv=>cbv
 rintro n31 ⟨e31,f31⟩;conv=>cbv
 intro n32 h32;conv=>cbv
 cases n32 <;> conv=>cbv
 ·have k32:=Ab h32;obtain⟨r45,hr45⟩:=xI (At x);refine cL hE (Eb h hT hA hx (by omega) (by omega) hvR hr45) t2 ?_;try conv=>cbv
  intro n46 h46;conv=>cbv
  cases n46 <;> conv=>cbv
  ·have k46:=AR h46;rintro n48 ⟨e48,f48⟩;conv=>cbv
   intro n49 h49;conv=>cbv
   refine g1 (by omega) ?_;intro m52 hm52;conv=>cbv
   refine g2 (by omega) ?_;intro b52 hb52;conv=>cbv
   intro l52 hl52;conv=>cbv
   obtain⟨x55,hx55⟩:=AG (l:=T) (i:=(T.length-1)) (by omega);refine⟨x55,fun _=>⟨by omega,by rw[show (n49).toNat=(T.length-1) by omega];exact hx55⟩,?_⟩;try conv=>cbv
   refine g2 rfl ?_;rintro n58 ⟨e58,f58⟩;conv=>cbv
   intro n59 h59;conv=>cbv
   refine g2 ⟨by omega,by omega,i64 (by omega)⟩ ?_;intro m62 hm62;conv=>cbv
   refine g2 (by omega) ?_;intro b62 hb62;conv=>cbv
   intro l62 hl62;conv=>cbv
   intro m65 hm65;conv=>cbv
   refine g2 (by omega) ?_;rintro a65 b65 ⟨ha65,hb65⟩;conv=>cbv
   intro l65 hl65;conv=>cbv
   refine g2 rfl ?_;have hl52e:l52=tw u:=by rw[hl52,List.drop_zero,show b52=T.length-1 by omega,hT,CV]
   have hx55e:x55=em u (AI u r):=by rw[hT,Da] at hx55;exact (Option.some.inj hx55).symm.trans (Cn h.red)
   have hl62e:l62=em u p:=by rw[hl62,List.drop_zero,show b62=A.length/2 by omega,hA,Bb h.red hp.mem hq.mem hxe]
   have hl65e:l65=em u q:=by rw[hl65,show a65=A.length/2 by omega,hb65,hm65,List.take_length,hA,BO h.red hp.mem hq.mem hxe]
   obtain⟨zb67,zl67,yb67,yl67,hz67⟩:=BD (((0:Int):Rat));refine cL hE (DI (by omega) rfl hz67) t1 ?_;try conv=>cbv
   obtain⟨w68,hw68⟩:=xR (em u (0));refine cL (r:= .one (.sl AA w68)) hE (EJ h.tail hl52e hz67 (by rw[show Re.ofRat ((0:Int):Rat)=0 from rfl];exact hw68)) ⟨rfl,t4,trivial⟩ ?_;try conv=>cbv
   refine cL hE (F3 h.tail.red hq.mem hl65e h0) t1 ?_;try conv=>cbv
   obtain⟨w104,hw104⟩:=xR (em u (p*p));refine cL hE (Ch h.tail hl52e hl62e hl62e hp hp (by omega) hw104) t3 ?_;try conv=>cbv
   obtain⟨w110,hw110⟩:=xR (em u (q*q));refine cL hE (Ch h.tail hl52e hl65e hl65e hq hq (by omega) hw110) t3 ?_;try conv=>cbv
   obtain⟨w111,hw111⟩:=xR (em u (AI u r*(q*q)));refine cL hE (Ch h.tail hl52e hx55e hw110 hrr (hq.mul h.tail hq) (by omega) hw111) t3 ?_;try conv=>cbv
   obtain⟨w112,hw112⟩:=xR (em u (p*p-AI u r*(q*q)));refine cL hE (JS h.tail hw104 hw111 (hp.mul h.tail hp) (hrr.mul h.tail (hq.mul h.tail hq)) (by omega) (by omega) hw112) t3 ?_;try conv=>cbv
   have hNe:w112=em u (p*p-q*q*AI u r):=by rw[hw112,show p*p-AI u r*(q*q)=p*p-q*q*AI u r by grind]
   obtain⟨w117,hw117⟩:=xR (em u n);refine cL hE (hyn hl52e hNe hw117) t2 ?_;try conv=>cbv
   intro n120 h120;cases h120.trans (rfl:_=false);conv=>cbv
   obtain⟨zb122,zl122,yb122,yl122,hz122⟩:=BD ((1/2:Rat));refine cL hE (LX (by omega) (by omega) (by decide) (by decide +kernel) hz122) t2 ?_;try conv=>cbv
   obtain⟨w123,hw123⟩:=xR (em u (t));refine cL (r:= .one (.sl AA w123)) hE (EJ h.tail hl52e hz122 (hw123.trans (by rw[ht]))) ⟨rfl,t4,trivial⟩ ?_;try conv=>cbv
   refine .inr ?_;obtain⟨J0,hJ0⟩:=xJ fun vs bl k=>∃(k':Nat) (m:Re) (M:LR) (i:Int),vs=[.one (.sl (.sl AA) l52),.one (.sl AA l62),.one (.sl AA l65),.one (.sl AA M),.one (.sl AA w123),.one (.int .i64 i)]/\(AK i k'/\k'<=k0)/\(M=em u m/\m=if k'=1 then -n else n)/\k=k0-k'
   refine⟨[9,12,13,22,24,25],[],J0,⟨k0-0,by rw[hJ0];exact⟨0,n,w117,0,rfl,⟨Ah 0,by omega⟩,⟨hw117,rfl⟩,rfl⟩⟩,?_⟩;intro vs bl kk0 hj;rw[hJ0] at hj;obtain⟨k',m,M,i,rfl,⟨hi,hik⟩,⟨hM,hmv⟩,hk0⟩:=hj;conv=>cbv
   have ei:=hi.eq;intro n125 h125;conv=>cbv
   cases n125 <;> conv=>cbv
   ·have k125:=AR h125;exact absurd k125 (by omega)
   have k125:=AS h125;refine .inr ?_;have hk2:k'=0\/k'=1:=by omega
   have hmE:El u (2*s+2*EE u.length R+R+1+GG u.length R) m:=by rw[hmv];split;exact hnE.neg h.red.1;exact hnE
   have hmy:p+m=y k':=by rcases hk2 with e | e <;> rw[e,hmv,e] <;> first | (rw[hy0];rfl) | (rw[hy1];simp;grind)
   obtain⟨w135,hw135⟩:=xR (em u (y k'));refine cL (r:= .one (.sl AA w135)) hE (Ge h.tail hl62e hM hp hmE (by omega) (by omega) (hw135.trans (by rw[hmy]))) t3 ?_;try conv=>cbv
   obtain⟨w136,hw136⟩:=xR (em u (t*y k'));refine cL hE (Ch h.tail hl52e hw123 hw135 htE (hyE k') (by omega) hw136) t3 ?_;try conv=>cbv
   obtain⟨wl,bb,hcall,hbt,hbf⟩:∃(wl:LR) (bb:Bool),CF 137 [.one (.sl (.sl AA) l52),.one (.sl AA w136)] (.AF [(false,[.sl AA wl]),(false,[.bool bb])])/\(bb=true->k'=k0/\wl=em u w)/\(bb=false->k'<k0):=by
    by_cases e:k'<k0
    ·exact⟨L k',false,hno k' e hl52e hw136,fun e=>(Bool.false_ne_true e).elim,fun _=>e⟩
    have e2:k'=k0:=by omega
    exact⟨em u w,true,hyw hl52e (hw136.trans (by rw[e2])) rfl,fun _=>⟨e2,rfl⟩,fun e=>(Bool.noConfusion e)⟩
   refine cL hE hcall t2 ?_;try conv=>cbv
   cases bb <;> conv=>cbv
   ·have hkl:=hbf rfl;obtain⟨w158,hw158⟩:=xR (em u (-m));refine cL hE (HB h.tail hM hmE hw158) t2 ?_;try conv=>cbv
    intro n127 h127;conv=>cbv
    refine g1 (by omega) ?_;refine⟨k0-(k'+1),?_,?_⟩
    ·omega
    rw[hJ0];exact⟨k'+1,-m,w158,n127,rfl,⟨⟨by omega⟩,by omega⟩,⟨hw158,by clear hJ0;rcases hk2 with e | e <;> rw[hmv,e] <;> first | rfl | (show- -n=n;grind)⟩,rfl⟩
   obtain⟨hke,hwl⟩:=hbt rfl;subst hke;obtain⟨w144,hw144⟩:=xR (em u (j));refine cL hE (JR h.tail hl52e hwl (hwE.mono (t:=TQ u.length R s+GG u.length R) (by omega)) hj hwj (by omega) hw144) t2 ?_;try conv=>cbv
   obtain⟨w153,hw153⟩:=xR (em u (q*j));refine cL hE (Ch h.tail hl52e hl65e hw144 hq hjE (by omega) hw153) t3 ?_;try conv=>cbv
   obtain⟨w154,hw154⟩:=xR (em u (t*(q*j)));refine cL hE (Ch h.tail hl52e hw123 hw153 htE (hq.mul h.tail hjE) (by omega) hw154) t3 ?_;try conv=>cbv
   have htq:=htE.mul h.tail (hq.mul h.tail hjE);have hBj:B=wl++w154:=by rw[hB,hwl,hw154];exact DL h.red hw htq.mem rfl
   refine cL (r:= .one (.sl AA B)) hE (Lg (by rw[hwl,Ao hw];omega) (by rw[hw154,Ao htq.mem];omega) hBj) t2 ?_;try conv=>cbv
   exact fA ⟨t2,t2,trivial⟩ rfl (by simp)
  have k46:=AS h46;exact (GJ hr45 k46 h0x).elim
 have k32:=Ad h32;exact absurd k32 (by omega)
end Go.Abs
