/- Part 34 of a proof. Conditions: each theorem's own. -/
import Derived.Test.YtjpiilcgomggaaaGreatPk32
set_option linter.all false
set_option maxHeartbeats 8000000
open Go.Proofs
namespace Go.Abs
open Go.RowKit
variable {A:LR} {R s:Nat} {T:List LR} {c:Int} {u:List (List Rat)} {x:Re}
theorem UY (h:AU R u) (hT:T=tw u) (hA:A=em u x) (hx:El u s x) (d:VV u.length R s<=60000000000000) (b:c=Ao x):CF 78 [.one (.sl (.sl AA) T),.one (.sl AA A)] (.one (.int .i64 c)):=by
 refine AE Tryz.func78 (by kernel_rfl) rfl fun E a=>?_
 conv=>cbv
 refine cL a (Nr h hT hA hx d b) t2 ?_;try conv=>cbv
 exact fA ⟨t2,trivial⟩ rfl (by simp)
theorem Up (h:AU R u) (hT:T=tw u) (hs:VV u.length R R<=60000000000000):CF 162 [.one (.sl (.sl AA) T)] (.one (.bool true)):=by
 have Y:T.length=u.length:=by rw[hT,Au]
 refine AE Tryz.func162 (by kernel_rfl) rfl fun E N=>?_
 conv=>cbv
 refine cL N (OZ h hT) t1 ?_;try conv=>cbv
 intro n6 X;cases X.trans (rfl:_=false);conv=>cbv
 refine .inr ?_;obtain⟨U,d⟩:=xJ fun S V k=>∃(i':Nat) (i:Int),S=[.one (.sl (.sl AA) T),.one (.int .i64 i)]/\(AK i i'/\i'<=T.length)/\k=T.length-i'
 refine⟨[0,3],[],U,⟨T.length-0,by rw[d];exact⟨0,0,rfl,⟨Ai 0,by omega⟩,rfl⟩⟩,?_⟩;intro S V a5 P;rw[d] at P;obtain⟨i',i,rfl,⟨Z,a1⟩,a2⟩:=P;conv=>cbv
 have ei:=Z.eq;rintro n9 ⟨e9,f9⟩;conv=>cbv
 intro J m;conv=>cbv
 cases J <;> conv=>cbv
 ·have H:=AR m;exact fA ⟨t2,trivial⟩ rfl (by simp)
 have H:=AS m;refine .inr ?_;intro a6 Q;conv=>cbv
 refine g2 (by omega) ?_;intro F O;conv=>cbv
 intro I v;conv=>cbv
 obtain⟨j,b⟩:=AF (l:=T) (i:=i') (by omega);refine⟨j,fun _=>⟨by omega,by rw[show (i).toNat=i' by omega];exact b⟩,?_⟩;try conv=>cbv
 obtain⟨r,C,z⟩:=GP (u:=u) (i:=i') (by omega);have y:AQ (r::pre u i'):=C ▸ (h.pre (i'+1)).red;have G:j=AW r:=by rw[<-hT,b] at z;exact Option.some.inj z
 have g:j=em (pre u i') (AI (pre u i') r):=G.trans (Cj y);have f:I=tw (pre u i'):=by rw[v,List.drop_zero,show F=i' by omega,hT,Fi]
 obtain⟨M,a⟩:=xI (Ao (AI (pre u i') r));refine cL (r:= .one (.int .i64 M)) N (Nr (h.pre i') f g (El.Br (C ▸ h.pre (i'+1))) (by rw[GO (by omega)];exact Nat.le_trans (H9 (by omega) R R) hs) a) t2 ?_;try conv=>cbv
 intro L o;conv=>cbv
 refine g2 rfl ?_;cases L <;> conv=>cbv
 ·have D:=DK o;intro K W;conv=>cbv
  refine g1 (by omega) ?_;refine⟨T.length-(i'+1),?_,?_⟩
  ·omega
  rw[d];exact⟨i'+1,K,rfl,⟨⟨by omega⟩,by omega⟩,rfl⟩
 have D:=DL o;exact absurd (a.trans (Ev y.2.2.1)) D
theorem Eb (h:AU R u) (hT:T=tw u) (hA:A=em u x) (hx:El u s x) (j:VV u.length R s<=60000000000000) (d:s<=60000000000000) (hR:VV u.length R R<=60000000000000) (g:c=Ao x):CF 100 [.one (.sl (.sl AA) T),.one (.sl AA A)] (.one (.int .i64 c)):=by
 refine AE Tryz.func100 (by kernel_rfl) rfl fun E b=>?_
 conv=>cbv
 refine cL b (IA h hT hA hx d) t2 ?_;try conv=>cbv
 intro m f;cases f.trans (rfl:_=false);conv=>cbv
 refine cL b (Up h hT hR) t1 ?_;try conv=>cbv
 intro k a;cases a.trans (rfl:_=false);conv=>cbv
 refine cL b (Nr h hT hA hx j g) t2 ?_;try conv=>cbv
 exact fA ⟨t2,trivial⟩ rfl (by simp)
theorem Uq {C:LR} {r:List Rat} {k:Int} (h:AU R (r::u)) (hT:T=tw (r::u)) (Q:AK k u.length) (O:C=em (r::u) (rt u r)):CF 233 [.one (.sl (.sl AA) T),.one (.int .i64 k)] (.one (.sl AA C)):=by
 have N:=Q.eq;have P:(r::u).length<=16:=h.ht;have S:(r::u).length=u.length+1:=rfl;refine AE Tryz.func233 (by kernel_rfl) rfl fun E G=>?_
 conv=>cbv
 obtain⟨Z,a1,X,Y,D⟩:=A9 (((0:Int):Rat));refine cL G (Dp (by omega) rfl D) t1 ?_;try conv=>cbv
 obtain⟨v,m⟩:=xR (em (r::u) (0));obtain⟨I,z⟩:=xN v.length;refine cL (r:= .one (.own AA v I)) G (OL h hT D (by rw[show Re.ofRat ((0:Int):Rat)=0 from rfl];exact m) z) ⟨rfl,t4,trivial⟩ ?_;try conv=>cbv
 intro W F;conv=>cbv
 refine g2 (by omega) ?_;have M:=(DE (k:=u.length) F N (by omega)).eq;obtain⟨g,j,d,f,b⟩:=A9 (((1:Int):Rat));refine cL G (Dp (by omega) rfl b) t1 ?_;try conv=>cbv
 have U:v.length=2^u.length+2^u.length:=by rw[m,Ap (BM _),BE]
 have V:=Cc u.length;have L:=B5 (n:=u.length) (by omega);refine g2 (by omega) ?_;intro H K;conv=>cbv
 refine⟨((g,j),(d,f)),fun _=>⟨by show _<List.length (α:=(el AA)) v;(first | omega | (simp;omega)),by first | exact t1 | exact t2 | exact t4 | simp[Ae,Ak,cells]⟩,?_⟩;intro (o:LR) (a:o=List.set (α:=(el AA)) v H (((g,j),(d,f))));have J:o.length=v.length:=by rw[a,List.length_set]
 conv=>cbv
 refine g2 rfl ?_;have y:C=o:=by rw[O,QC h.red,a,m];congr 1 <;> first | omega | exact b.rp
 exact fA ⟨⟨rfl,.inl ⟨_,rfl,by omega,congrArg _ (by rw[y,List.drop_zero,List.take_of_length_le (by omega)])⟩,trivial⟩,trivial⟩ rfl (by simp)
end Go.Abs
namespace Go.Abs
def TQ (h R s:Nat):Nat:=3*s+4*EE h R+R+GG h R+3+II h R R
def SS:Nat->Nat->Nat->Nat
 | 0,_,s=>s
 | h+1,R,s=>max (VV (h+1) R s) (max (SS h R (TQ h R s)) (s+II h R (TQ h R s+GG h R)+2*EE h R+2))
theorem OG (h R:Nat) {s t:Nat} (a:s<=t):TQ h R s<=TQ h R t:=by unfold TQ;omega
theorem JJ:∀(h R:Nat) {s t:Nat},s<=t->SS h R s<=SS h R t
 | 0,_,_,_,a=>a
 | h+1,R,s,t,a=>by
  have b:=FQ (h+1) R a;have d:=JJ h R (OG h R a);have f:=Ga h R (Nat.add_le_add_right (OG h R a) (GG h R))
  show max _ (max _ _)<=max _ (max _ _)
  omega
theorem Fw (h R s:Nat):VV (h+1) R s<=SS (h+1) R s:=by show _<=max _ (max _ _);omega
theorem OD (h R s:Nat):SS h R (TQ h R s)<=SS (h+1) R s:=by show _<=max _ (max _ _);omega
theorem Gb (h R s:Nat):s+II h R (TQ h R s+GG h R)+2*EE h R+2<=SS (h+1) R s:=by show _<=max _ (max _ _);omega
theorem OE (h R s:Nat):s<=SS h R s:=by
 cases h with
 | zero=>exact Nat.le_refl _
 | succ h=>exact Nat.le_trans (Dn _ _ _) (Fw h R s)
end Go.Abs
namespace Go.Abs
open Go.RowKit
variable {A B l:LR} {R k0 s:Nat} {T:List LR} {i n p q t w x:Re} {r:List Rat} {u:List (List Rat)}
theorem Ld {C:LR} (hA:A.length<=1000000) (D:B.length<=1000000) (o:C=A++B):CF 164 [.one (.sl AA A),.one (.sl AA B)] (.one (.sl AA C)):=by
 refine AE Tryz.func164 (by kernel_rfl) rfl fun E F=>?_
 conv=>cbv
 refine⟨[],fun _=>⟨rfl,by decide,rfl,trivial⟩,.inl ?_⟩;try conv=>cbv
 refine .inl ⟨A,fun _=>⟨rfl,rfl,rfl,by show (0+A.length)*64<=140737488355328;(try simp only[List.length_take,List.length_drop]);omega⟩,?_⟩;intro (d:LR) y f;have b:d=([]:LR)++(A:LR):=f.1;have j:y=List.length (α:=(el AA)) d:=f.2;conv=>cbv
 have m:d.length=A.length:=by rw[b];simp
 refine .inl ⟨B,fun _=>⟨rfl,j,rfl,by show (d.length+B.length)*64<=140737488355328;(try simp only[List.length_take,List.length_drop]);omega⟩,?_⟩;intro (k:LR) z g;have h:k=(d:LR)++(B:LR):=g.1;have v:z=List.length (α:=(el AA)) k:=g.2;conv=>cbv
 have a:C=k:=by rw[o,h,b];rfl
 exact fA ⟨⟨rfl,.inl ⟨_,rfl,by omega,congrArg _ (by rw[a,List.drop_zero,List.take_of_length_le (by omega)])⟩,trivial⟩,trivial⟩ rfl (by simp)
def FR (u:List (List Rat)) (x:Re) (l:LR):Prop:=∀{T:List LR} {A:LR},T=tw u->A=em u x->
 CF 101 [.one (.sl (.sl AA) T),.one (.sl AA A)] (.AG [(false,[.sl AA l]),(false,[.bool false])])
def FT (u:List (List Rat)) (x w:Re):Prop:=∀{T:List LR} {A B:LR},T=tw u->A=em u x->B=em u w->
 CF 101 [.one (.sl (.sl AA) T),.one (.sl AA A)] (.AG [(false,[.sl AA B]),(false,[.bool true])])
theorem GK {c:Int} (b:c=Ao x) (h:c<0) (a:0<=x):False:=by
 have:=(Fb (x:=x)).1 (by omega)
 grind
theorem VQ (h:AU R (r::u)) (hT:T=tw (r::u)) (hA:A=em (r::u) x) (hx:El (r::u) s x) (L:x=p+q*rt u r) (O:El u s p) (P:El u s q) (Q:SS (r::u).length R s<=60000000000000) (j:VV (r::u).length R R<=60000000000000) (g:x<0):CF 101 [.one (.sl (.sl AA) T),.one (.sl AA A)] (.AG [(false,[.sl AA (([]:LR))]),(false,[.bool false])]):=by
 have F:T.length=u.length+1:=by rw[hT,Au];rfl
 have z:A.length=2^u.length+2^u.length:=by rw[hA,Ap hx.mem,BE]
 have H:=El.Br h;have hR:=h.hR;have K:VV (r::u).length R s<=SS (r::u).length R s:=Fw u.length R s;have J:s+II u.length R (TQ u.length R s+GG u.length R)+2*EE u.length R+2<=SS (r::u).length R s:=Gb u.length R s;have I:=Dn (r::u).length R s;have G:=C3 u.length R (TQ u.length R s+GG u.length R);have D:TQ u.length R s=3*s+4*EE u.length R+R+GG u.length R+3+II u.length R R:=rfl;have v:=B5 h.tail.ht;refine AE Tryz.func101 (by kernel_rfl) rfl fun E C=>?_
 conv=>cbv
 rintro M ⟨y,f31⟩;conv=>cbv
 intro m a;conv=>cbv
 cases m <;> conv=>cbv
 ·have f:=Ac a;obtain⟨N,d⟩:=xI (Ao x);refine cL C (Eb h hT hA hx (by omega) (by omega) j d) t2 ?_;try conv=>cbv
  intro o b;conv=>cbv
  cases o <;> conv=>cbv
  ·have k:=AR b;exact absurd (Fb.2 g) (by omega)
  have k:=AS b;exact fA ⟨⟨rfl,.inr (.inl ⟨_,rfl⟩),trivial⟩,t2,trivial⟩ rfl (by simp)
 have f:=Ad a;exact absurd f (by omega)
theorem VR (h:AU R (r::u)) (hT:T=tw (r::u)) (hA:A=em (r::u) x) (hx:El (r::u) s x) (H:x=p+q*rt u r) (hp:El u s p) (S:El u s q) (hs:SS (r::u).length R s<=60000000000000) (U:VV (r::u).length R R<=60000000000000) (P:0<=x) (h0:q=0) (hw:In u w) (hy:FT u p w) (hB:B=em (r::u) w):CF 101 [.one (.sl (.sl AA) T),.one (.sl AA A)] (.AG [(false,[.sl AA B]),(false,[.bool true])]):=by
 have au:T.length=u.length+1:=by rw[hT,Au];rfl
 have aq:A.length=2^u.length+2^u.length:=by rw[hA,Ap hx.mem,BE]
 have aw:=El.Br h;have hR:=h.hR;have az:VV (r::u).length R s<=SS (r::u).length R s:=Fw u.length R s;have ay:s+II u.length R (TQ u.length R s+GG u.length R)+2*EE u.length R+2<=SS (r::u).length R s:=Gb u.length R s;have ax:=Dn (r::u).length R s;have av:=C3 u.length R (TQ u.length R s+GG u.length R);have ar:TQ u.length R s=3*s+4*EE u.length R+R+GG u.length R+3+II u.length R R:=rfl;have ad:=B5 h.tail.ht;refine AE Tryz.func101 (by kernel_rfl) rfl fun E o=>?_
 conv=>cbv
 rintro aD ⟨aj,f31⟩;conv=>cbv
 intro Z v;conv=>cbv
 cases Z <;> conv=>cbv
 ·have I:=Ac v;obtain⟨aH,g⟩:=xI (Ao x);refine cL o (Eb h hT hA hx (by omega) (by omega) U g) t2 ?_;try conv=>cbv
  intro a1 y;conv=>cbv
  cases a1 <;> conv=>cbv
  ·have J:=AR y;rintro aE ⟨ak,f48⟩;conv=>cbv
   intro a2 an;conv=>cbv
   refine g1 (by omega) ?_;intro aA aa;conv=>cbv
   refine g2 (by omega) ?_;intro N a7;conv=>cbv
   intro W C;conv=>cbv
   obtain⟨L,f⟩:=AF (l:=T) (i:=(T.length-1)) (by omega);refine⟨L,fun _=>⟨by omega,by rw[show (a2).toNat=(T.length-1) by omega];exact f⟩,?_⟩;try conv=>cbv
   refine g2 rfl ?_;rintro aF ⟨al,f58⟩;conv=>cbv
   intro aG ao;conv=>cbv
   refine g2 ⟨by omega,by omega,i64 (by omega)⟩ ?_;intro aB ab;conv=>cbv
   refine g2 (by omega) ?_;intro O a8;conv=>cbv
   intro X D;conv=>cbv
   intro aC G;conv=>cbv
   refine g2 (by omega) ?_;rintro M ai ⟨a6,z⟩;conv=>cbv
   intro Y F;conv=>cbv
   refine g2 rfl ?_;have a:W=tw u:=by rw[C,List.drop_zero,show N=T.length-1 by omega,hT,CO]
   have V:L=em u (AI u r):=by rw[hT,DY] at f;exact (Option.some.inj f).symm.trans (Cj h.red)
   have k:X=em u p:=by rw[D,List.drop_zero,show O=A.length/2 by omega,hA,BY h.red hp.mem S.mem H]
   have m:Y=em u q:=by rw[F,show M=A.length/2 by omega,z,G,List.take_length,hA,BL h.red hp.mem S.mem H]
   obtain⟨ag,ah,ae,af,j⟩:=A9 (((0:Int):Rat));refine cL o (Dp (by omega) rfl j) t1 ?_;try conv=>cbv
   obtain⟨K,b⟩:=xR (em u (0));refine cL (r:= .one (.sl AA K)) o (EG h.tail a j (by rw[show Re.ofRat ((0:Int):Rat)=0 from rfl];exact b)) ⟨rfl,t4,trivial⟩ ?_;try conv=>cbv
   refine cL o (FU h.tail.red S.mem m h0) t1 ?_;try conv=>cbv
   obtain⟨a5,d⟩:=xR (em u w);refine cL o (hy a k d) t2 ?_;try conv=>cbv
   have Q:B=a5++K:=by rw[hB,d,b];exact DI h.red hw (BM u) (by grind)
   refine cL (r:= .one (.sl AA B)) o (Ld (by rw[d,Ap hw];omega) (by rw[b,Ap (BM u)];omega) Q) t2 ?_;try conv=>cbv
   exact fA ⟨t2,t2,trivial⟩ rfl (by simp)
  have J:=AS y;exact (GK g J P).elim
 have I:=Ad v;exact absurd I (by omega)
theorem VS (h:AU R (r::u)) (hT:T=tw (r::u)) (hA:A=em (r::u) x) (hx:El (r::u) s x) (M:x=p+q*rt u r) (Z:El u s p) (hq:El u s q) (hs:SS (r::u).length R s<=60000000000000) (a1:VV (r::u).length R R<=60000000000000) (W:0<=x) (h0:q=0) (hi:In u i) (K:AI u r*i=1) (hn:FR u p l) (hw:In u w) (hy:FT u (p*i) w) (hB:B=em (r::u) (w*rt u r)):CF 101 [.one (.sl (.sl AA) T),.one (.sl AA A)] (.AG [(false,[.sl AA B]),(false,[.bool true])]):=by
 have aA:T.length=u.length+1:=by rw[hT,Au];rfl
 have ay:A.length=2^u.length+2^u.length:=by rw[hA,Ap hx.mem,BE]
 have L:=El.Br h;have hR:=h.hR;have aE:VV (r::u).length R s<=SS (r::u).length R s:=Fw u.length R s;have aD:s+II u.length R (TQ u.length R s+GG u.length R)+2*EE u.length R+2<=SS (r::u).length R s:=Gb u.length R s;have aC:=Dn (r::u).length R s;have aB:=C3 u.length R (TQ u.length R s+GG u.length R);have az:TQ u.length R s=3*s+4*EE u.length R+R+GG u.length R+3+II u.length R R:=rfl;have aj:=B5 h.tail.ht;have Y:=L.inv h.tail hi K;refine AE Tryz.func101 (by kernel_rfl) rfl fun E j=>?_
 conv=>cbv
 rintro aI ⟨ar,f31⟩;conv=>cbv
 intro a7 C;conv=>cbv
 cases a7 <;> conv=>cbv
 ·have N:=Ac C;obtain⟨aM,k⟩:=xI (Ao x);refine cL j (Eb h hT hA hx (by omega) (by omega) a1 k) t2 ?_;try conv=>cbv
  intro a8 D;conv=>cbv
  cases a8 <;> conv=>cbv
  ·have O:=AR D;rintro aJ ⟨au,f48⟩;conv=>cbv
   intro aa aw;conv=>cbv
   refine g1 (by omega) ?_;intro aF ah;conv=>cbv
   refine g2 (by omega) ?_;intro U af;conv=>cbv
   intro a2 G;conv=>cbv
   obtain⟨Q,g⟩:=AF (l:=T) (i:=(T.length-1)) (by omega);refine⟨Q,fun _=>⟨by omega,by rw[show (aa).toNat=(T.length-1) by omega];exact g⟩,?_⟩;try conv=>cbv
   refine g2 rfl ?_;rintro aK ⟨av,f58⟩;conv=>cbv
   intro aL ax;conv=>cbv
   refine g2 ⟨by omega,by omega,i64 (by omega)⟩ ?_;intro aG ai;conv=>cbv
   refine g2 (by omega) ?_;intro V ag;conv=>cbv
   intro a5 H;conv=>cbv
   intro aH J;conv=>cbv
   refine g2 (by omega) ?_;rintro S aq ⟨ae,F⟩;conv=>cbv
   intro a6 I;conv=>cbv
   refine g2 rfl ?_;have a:a2=tw u:=by rw[G,List.drop_zero,show U=T.length-1 by omega,hT,CO]
   have z:Q=em u (AI u r):=by rw[hT,DY] at g;exact (Option.some.inj g).symm.trans (Cj h.red)
   have b:a5=em u p:=by rw[H,List.drop_zero,show V=A.length/2 by omega,hA,BY h.red Z.mem hq.mem M]
   have y:a6=em u q:=by rw[I,show S=A.length/2 by omega,F,J,List.take_length,hA,BL h.red Z.mem hq.mem M]
   obtain⟨an,ao,ak,al,v⟩:=A9 (((0:Int):Rat));refine cL j (Dp (by omega) rfl v) t1 ?_;try conv=>cbv
   obtain⟨P,d⟩:=xR (em u (0));refine cL (r:= .one (.sl AA P)) j (EG h.tail a v (by rw[show Re.ofRat ((0:Int):Rat)=0 from rfl];exact d)) ⟨rfl,t4,trivial⟩ ?_;try conv=>cbv
   refine cL j (FU h.tail.red hq.mem y h0) t1 ?_;try conv=>cbv
   refine cL j (hn a b) t2 ?_;try conv=>cbv
   obtain⟨ab,m⟩:=xR (em u (i));refine cL (r:= .AG [(false,[.sl AA ab]),(false,[.int .i64 0])]) j (JS h.tail a z L hi K (by have:=Ga u.length R (s:=R) (t:=TQ u.length R s+GG u.length R) (by omega);omega) m) t2 ?_;try conv=>cbv
   obtain⟨aN,o⟩:=xR (em u (p*i));refine cL j (Cf h.tail a b m Z Y (by omega) o) t3 ?_;try conv=>cbv
   obtain⟨ad,f⟩:=xR (em u w);refine cL j (hy a o f) t2 ?_;try conv=>cbv
   have X:B=P++ad:=by rw[hB,f,d];exact DI h.red (BM u) hw (by grind)
   refine cL (r:= .one (.sl AA B)) j (Ld (by rw[d,Ap (BM u)];omega) (by rw[f,Ap hw];omega) X) t2 ?_;try conv=>cbv
   exact fA ⟨t2,t2,trivial⟩ rfl (by simp)
  have O:=AS D;exact (GK k O W).elim
 have N:=Ad C;exact absurd N (by omega)
theorem VT (h:AU R (r::u)) (hT:T=tw (r::u)) (hA:A=em (r::u) x) (hx:El (r::u) s x) (L:x=p+q*rt u r) (X:El u s p) (Y:El u s q) (hs:SS (r::u).length R s<=60000000000000) (Z:VV (r::u).length R R<=60000000000000) (U:0<=x) (h0:q=0) (hi:In u i) (I:AI u r*i=1) (hn:FR u p l) {l2:LR} (W:FR u (p*i) l2):CF 101 [.one (.sl (.sl AA) T),.one (.sl AA A)] (.AG [(false,[.sl AA (([]:LR))]),(false,[.bool false])]):=by
 have az:T.length=u.length+1:=by rw[hT,Au];rfl
 have ax:A.length=2^u.length+2^u.length:=by rw[hA,Ap hx.mem,BE]
 have J:=El.Br h;have hR:=h.hR;have aD:VV (r::u).length R s<=SS (r::u).length R s:=Fw u.length R s;have aC:s+II u.length R (TQ u.length R s+GG u.length R)+2*EE u.length R+2<=SS (r::u).length R s:=Gb u.length R s;have aB:=Dn (r::u).length R s;have aA:=C3 u.length R (TQ u.length R s+GG u.length R);have ay:TQ u.length R s=3*s+4*EE u.length R+R+GG u.length R+3+II u.length R R:=rfl;have ai:=B5 h.tail.ht;have V:=J.inv h.tail hi I;refine AE Tryz.func101 (by kernel_rfl) rfl fun E f=>?_
 conv=>cbv
 rintro aH ⟨aq,f31⟩;conv=>cbv
 intro a6 y;conv=>cbv
 cases a6 <;> conv=>cbv
 ·have M:=Ac y;obtain⟨aL,g⟩:=xI (Ao x);refine cL f (Eb h hT hA hx (by omega) (by omega) Z g) t2 ?_;try conv=>cbv
  intro a7 z;conv=>cbv
  cases a7 <;> conv=>cbv
  ·have N:=AR z;rintro aI ⟨ar,f48⟩;conv=>cbv
   intro a8 av;conv=>cbv
   refine g1 (by omega) ?_;intro aE ag;conv=>cbv
   refine g2 (by omega) ?_;intro Q ae;conv=>cbv
   intro a1 D;conv=>cbv
   obtain⟨O,d⟩:=AF (l:=T) (i:=(T.length-1)) (by omega);refine⟨O,fun _=>⟨by omega,by rw[show (a8).toNat=(T.length-1) by omega];exact d⟩,?_⟩;try conv=>cbv
   refine g2 rfl ?_;rintro aJ ⟨au,f58⟩;conv=>cbv
   intro aK aw;conv=>cbv
   refine g2 ⟨by omega,by omega,i64 (by omega)⟩ ?_;intro aF ah;conv=>cbv
   refine g2 (by omega) ?_;intro S af;conv=>cbv
   intro a2 F;conv=>cbv
   intro aG H;conv=>cbv
   refine g2 (by omega) ?_;rintro P ao ⟨ad,C⟩;conv=>cbv
   intro a5 G;conv=>cbv
   refine g2 rfl ?_;have a:a1=tw u:=by rw[D,List.drop_zero,show Q=T.length-1 by omega,hT,CO]
   have v:O=em u (AI u r):=by rw[hT,DY] at d;exact (Option.some.inj d).symm.trans (Cj h.red)
   have b:a2=em u p:=by rw[F,List.drop_zero,show S=A.length/2 by omega,hA,BY h.red X.mem Y.mem L]
   have o:a5=em u q:=by rw[G,show P=A.length/2 by omega,C,H,List.take_length,hA,BL h.red X.mem Y.mem L]
   obtain⟨al,an,aj,ak,m⟩:=A9 (((0:Int):Rat));refine cL f (Dp (by omega) rfl m) t1 ?_;try conv=>cbv
   obtain⟨aa,K⟩:=xR (em u (0));refine cL (r:= .one (.sl AA aa)) f (EG h.tail a m (by rw[show Re.ofRat ((0:Int):Rat)=0 from rfl];exact K)) ⟨rfl,t4,trivial⟩ ?_;try conv=>cbv
   refine cL f (FU h.tail.red Y.mem o h0) t1 ?_;try conv=>cbv
   refine cL f (hn a b) t2 ?_;try conv=>cbv
   obtain⟨ab,j⟩:=xR (em u (i));refine cL (r:= .AG [(false,[.sl AA ab]),(false,[.int .i64 0])]) f (JS h.tail a v J hi I (by have:=Ga u.length R (s:=R) (t:=TQ u.length R s+GG u.length R) (by omega);omega) j) t2 ?_;try conv=>cbv
   obtain⟨aM,k⟩:=xR (em u (p*i));refine cL f (Cf h.tail a b j X V (by omega) k) t3 ?_;try conv=>cbv
   refine cL f (W a k) t2 ?_;try conv=>cbv
   exact fA ⟨⟨rfl,.inr (.inl ⟨_,rfl⟩),trivial⟩,t2,trivial⟩ rfl (by simp)
  have N:=AS z;exact (GK g N U).elim
 have M:=Ad y;exact absurd M (by omega)
theorem VN (h:AU R (r::u)) (hT:T=tw (r::u)) (hA:A=em (r::u) x) (hx:El (r::u) s x) (P:x=p+q*rt u r) (D:El u s p) (v:El u s q) (hs:SS (r::u).length R s<=60000000000000) (a2:VV (r::u).length R R<=60000000000000) (Z:0<=x) (h0:q≠0) (hn:FR u (p*p-q*q*AI u r) l):CF 101 [.one (.sl (.sl AA) T),.one (.sl AA A)] (.AG [(false,[.sl AA (([]:LR))]),(false,[.bool false])]):=by
 have aE:T.length=u.length+1:=by rw[hT,Au];rfl
 have aC:A.length=2^u.length+2^u.length:=by rw[hA,Ap hx.mem,BE]
 have N:=El.Br h;have hR:=h.hR;have aI:VV (r::u).length R s<=SS (r::u).length R s:=Fw u.length R s;have aH:s+II u.length R (TQ u.length R s+GG u.length R)+2*EE u.length R+2<=SS (r::u).length R s:=Gb u.length R s;have aG:=Dn (r::u).length R s;have aF:=C3 u.length R (TQ u.length R s+GG u.length R);have aD:TQ u.length R s=3*s+4*EE u.length R+R+GG u.length R+3+II u.length R R:=rfl;have aj:=B5 h.tail.ht;refine AE Tryz.func101 (by kernel_rfl) rfl fun E o=>?_
 conv=>cbv
 rintro aM ⟨ax,f31⟩;conv=>cbv
 intro a8 G;conv=>cbv
 cases a8 <;> conv=>cbv
 ·have Q:=Ac G;obtain⟨aQ,y⟩:=xI (Ao x);refine cL o (Eb h hT hA hx (by omega) (by omega) a2 y) t2 ?_;try conv=>cbv
  intro aa H;conv=>cbv
  cases aa <;> conv=>cbv
  ·have S:=AR H;rintro aN ⟨ay,f48⟩;conv=>cbv
   intro ab aA;conv=>cbv
   refine g1 (by omega) ?_;intro aJ ah;conv=>cbv
   refine g2 (by omega) ?_;intro X af;conv=>cbv
   intro a5 J;conv=>cbv
   obtain⟨V,m⟩:=AF (l:=T) (i:=(T.length-1)) (by omega);refine⟨V,fun _=>⟨by omega,by rw[show (ab).toNat=(T.length-1) by omega];exact m⟩,?_⟩;try conv=>cbv
   refine g2 rfl ?_;rintro aO ⟨az,f58⟩;conv=>cbv
   intro aP aB;conv=>cbv
   refine g2 ⟨by omega,by omega,i64 (by omega)⟩ ?_;intro aK ai;conv=>cbv
   refine g2 (by omega) ?_;intro Y ag;conv=>cbv
   intro a6 K;conv=>cbv
   intro aL M;conv=>cbv
   refine g2 (by omega) ?_;rintro W aw ⟨ae,I⟩;conv=>cbv
   intro a7 L;conv=>cbv
   refine g2 rfl ?_;have a:a5=tw u:=by rw[J,List.drop_zero,show X=T.length-1 by omega,hT,CO]
   have C:V=em u (AI u r):=by rw[hT,DY] at m;exact (Option.some.inj m).symm.trans (Cj h.red)
   have d:a6=em u p:=by rw[K,List.drop_zero,show Y=A.length/2 by omega,hA,BY h.red D.mem v.mem P]
   have b:a7=em u q:=by rw[L,show W=A.length/2 by omega,I,M,List.take_length,hA,BL h.red D.mem v.mem P]
   obtain⟨au,av,aq,ar,z⟩:=A9 (((0:Int):Rat));refine cL o (Dp (by omega) rfl z) t1 ?_;try conv=>cbv
   obtain⟨ad,O⟩:=xR (em u (0));refine cL (r:= .one (.sl AA ad)) o (EG h.tail a z (by rw[show Re.ofRat ((0:Int):Rat)=0 from rfl];exact O)) ⟨rfl,t4,trivial⟩ ?_;try conv=>cbv
   refine cL o (Fy h.tail.red v.mem b h0) t1 ?_;try conv=>cbv
   obtain⟨al,f⟩:=xR (em u (p*p));refine cL o (Cf h.tail a d d D D (by omega) f) t3 ?_;try conv=>cbv
   obtain⟨an,g⟩:=xR (em u (q*q));refine cL o (Cf h.tail a b b v v (by omega) g) t3 ?_;try conv=>cbv
   obtain⟨ao,j⟩:=xR (em u (AI u r*(q*q)));refine cL o (Cf h.tail a C g N (v.mul h.tail v) (by omega) j) t3 ?_;try conv=>cbv
   obtain⟨U,k⟩:=xR (em u (p*p-AI u r*(q*q)));refine cL o (JT h.tail f j (D.mul h.tail D) (N.mul h.tail (v.mul h.tail v)) (by omega) (by omega) k) t3 ?_;try conv=>cbv
   have a1:U=em u (p*p-q*q*AI u r):=by rw[k,show p*p-AI u r*(q*q)=p*p-q*q*AI u r by grind]
   refine cL o (hn a a1) t2 ?_;try conv=>cbv
   intro ak F;cases F.trans (rfl:_=true);conv=>cbv
   exact fA ⟨⟨rfl,.inr (.inl ⟨_,rfl⟩),trivial⟩,t2,trivial⟩ rfl (by simp)
  have S:=AS H;exact (GK y S Z).elim
 have Q:=Ad G;exact absurd Q (by omega)
theorem VP (h:AU R (r::u)) (hT:T=tw (r::u)) (hA:A=em (r::u) x) (hx:El (r::u) s x) (X:x=p+q*rt u r) (O:El u s p) (J:El u s q) (hs:SS (r::u).length R s<=60000000000000) (aF:VV (r::u).length R R<=60000000000000) (az:0<=x) (h0:q≠0) (hn:In u n) (aC:n*n=p*p-q*q*AI u r) (ht:t=Re.ofRat (1/2)) (aJ:FT u (p*p-q*q*AI u r) n) {y:Nat->Re} (aG:y 0=p+n) (aH:y 1=p-n) (aI:∀i,El u (s+(2*s+2*EE u.length R+R+1+GG u.length R)+1) (y i)) {L:Nat->LR} (hk:k0<=2) (aD:∀i,i<k0->FR u (t*y i) (L i)) (U:k0=2):CF 101 [.one (.sl (.sl AA) T),.one (.sl AA A)] (.AG [(false,[.sl AA (([]:LR))]),(false,[.bool false])]):=by
 have bh:T.length=u.length+1:=by rw[hT,Au];rfl
 have bf:A.length=2^u.length+2^u.length:=by rw[hA,Ap hx.mem,BE]
 have ad:=El.Br h;have hR:=h.hR;have bp:VV (r::u).length R s<=SS (r::u).length R s:=Fw u.length R s;have bo:s+II u.length R (TQ u.length R s+GG u.length R)+2*EE u.length R+2<=SS (r::u).length R s:=Gb u.length R s;have bn:=Dn (r::u).length R s;have bm:=C3 u.length R (TQ u.length R s+GG u.length R);have bg:TQ u.length R s=3*s+4*EE u.length R+R+GG u.length R+3+II u.length R R:=rfl;have aY:=B5 h.tail.ht;have hN:=El.norm h O.mem J.mem (X ▸ hx);have ab:=hN.sqrt h.tail hn aC;have aE:El u 1 t:=by rw[ht];exact El.rat h.red.1 IJ
 refine AE Tryz.func101 (by kernel_rfl) rfl fun E b=>?_
 conv=>cbv
 rintro bu ⟨b9,f31⟩;conv=>cbv
 intro aK Z;conv=>cbv
 cases aK <;> conv=>cbv
 ·have ag:=Ac Z;obtain⟨bA,P⟩:=xI (Ao x);refine cL b (Eb h hT hA hx (by omega) (by omega) aF P) t2 ?_;try conv=>cbv
  intro aL a1;conv=>cbv
  cases aL <;> conv=>cbv
  ·have ah:=AR a1;rintro bw ⟨ba,f48⟩;conv=>cbv
   intro aM bc;conv=>cbv
   refine g1 (by omega) ?_;intro br aW;conv=>cbv
   refine g2 (by omega) ?_;intro ax aU;conv=>cbv
   intro ai a5;conv=>cbv
   obtain⟨av,H⟩:=AF (l:=T) (i:=(T.length-1)) (by omega);refine⟨av,fun _=>⟨by omega,by rw[show (aM).toNat=(T.length-1) by omega];exact H⟩,?_⟩;try conv=>cbv
   refine g2 rfl ?_;rintro bx ⟨bb,f58⟩;conv=>cbv
   intro bz bd;conv=>cbv
   refine g2 ⟨by omega,by omega,i64 (by omega)⟩ ?_;intro bs aX;conv=>cbv
   refine g2 (by omega) ?_;intro ay aV;conv=>cbv
   intro aj a6;conv=>cbv
   intro bt a8;conv=>cbv
   refine g2 (by omega) ?_;rintro aw b8 ⟨aT,a2⟩;conv=>cbv
   intro ak a7;conv=>cbv
   refine g2 rfl ?_;have a:ai=tw u:=by rw[a5,List.drop_zero,show ax=T.length-1 by omega,hT,CO]
   have W:av=em u (AI u r):=by rw[hT,DY] at H;exact (Option.some.inj H).symm.trans (Cj h.red)
   have d:aj=em u p:=by rw[a6,List.drop_zero,show ay=A.length/2 by omega,hA,BY h.red O.mem J.mem X]
   have f:ak=em u q:=by rw[a7,show aw=A.length/2 by omega,a2,a8,List.take_length,hA,BL h.red O.mem J.mem X]
   obtain⟨b6,b7,b4,b5,Q⟩:=A9 (((0:Int):Rat));refine cL b (Dp (by omega) rfl Q) t1 ?_;try conv=>cbv
   obtain⟨aN,ae⟩:=xR (em u (0));refine cL (r:= .one (.sl AA aN)) b (EG h.tail a Q (by rw[show Re.ofRat ((0:Int):Rat)=0 from rfl];exact ae)) ⟨rfl,t4,trivial⟩ ?_;try conv=>cbv
   refine cL b (Fy h.tail.red J.mem f h0) t1 ?_;try conv=>cbv
   obtain⟨b0,g⟩:=xR (em u (p*p));refine cL b (Cf h.tail a d d O O (by omega) g) t3 ?_;try conv=>cbv
   obtain⟨b1,j⟩:=xR (em u (q*q));refine cL b (Cf h.tail a f f J J (by omega) j) t3 ?_;try conv=>cbv
   obtain⟨b2,o⟩:=xR (em u (AI u r*(q*q)));refine cL b (Cf h.tail a W j ad (J.mul h.tail J) (by omega) o) t3 ?_;try conv=>cbv
   obtain⟨ao,v⟩:=xR (em u (p*p-AI u r*(q*q)));refine cL b (JT h.tail g o (O.mul h.tail O) (ad.mul h.tail (J.mul h.tail J)) (by omega) (by omega) v) t3 ?_;try conv=>cbv
   have aA:ao=em u (p*p-q*q*AI u r):=by rw[v,show p*p-AI u r*(q*q)=p*p-q*q*AI u r by grind]
   obtain⟨aq,z⟩:=xR (em u n);refine cL b (aJ a aA z) t2 ?_;try conv=>cbv
   intro aZ Y;cases Y.trans (rfl:_=false);conv=>cbv
   obtain⟨aQ,aR,aO,aP,I⟩:=A9 ((1/2:Rat));refine cL b (G6 (by omega) (by omega) (by decide) (by decide +kernel) I) t2 ?_;try conv=>cbv
   obtain⟨S,C⟩:=xR (em u (t));refine cL (r:= .one (.sl AA S)) b (EG h.tail a I (C.trans (by rw[ht]))) ⟨rfl,t4,trivial⟩ ?_;try conv=>cbv
   refine .inr ?_;obtain⟨J0,K⟩:=xJ fun vs bl k=>∃(k':Nat) (m:Re) (M:LR) (i:Int),vs=[.one (.sl (.sl AA) ai),.one (.sl AA aj),.one (.sl AA ak),.one (.sl AA M),.one (.sl AA S),.one (.int .i64 i)]/\(AK i k'/\k'<=2)/\(M=em u m/\m=if k'=1 then -n else n)/\k=2-k'
   refine⟨[9,12,13,22,24,25],[],J0,⟨2-0,by rw[K];exact⟨0,n,aq,0,rfl,⟨Ai 0,by omega⟩,⟨z,rfl⟩,rfl⟩⟩,?_⟩;intro vs bl bq hj;rw[K] at hj;obtain⟨k',m,M,i,rfl,⟨hi,bj⟩,⟨hM,V⟩,bk⟩:=hj;conv=>cbv
   have ei:=hi.eq;intro al N;conv=>cbv
   cases al <;> conv=>cbv
   ·have af:=AR N;exact fA ⟨⟨rfl,.inr (.inl ⟨_,rfl⟩),trivial⟩,t2,trivial⟩ rfl (by simp)
   have af:=AS N;refine .inr ?_;have U:k'=0\/k'=1:=by omega
   have aa:El u (2*s+2*EE u.length R+R+1+GG u.length R) m:=by rw[V];split;exact ab.neg h.red.1;exact ab
   have aB:p+m=y k':=by rcases U with e | e <;> rw[e,V,e] <;> first | (rw[aG];rfl) | (rw[aH];simp;grind)
   obtain⟨ar,D⟩:=xR (em u (y k'));refine cL (r:= .one (.sl AA ar)) b (Gc h.tail d hM O aa (by omega) (by omega) (D.trans (by rw[aB]))) t3 ?_;try conv=>cbv
   obtain⟨b3,F⟩:=xR (em u (t*y k'));refine cL b (Cf h.tail a C D aE (aI k') (by omega) F) t3 ?_;try conv=>cbv
   refine cL b (aD k' (by omega) a F) t2 ?_;try conv=>cbv
   obtain⟨au,G⟩:=xR (em u (-m));refine cL b (G9 h.tail hM aa G) t2 ?_;try conv=>cbv
   intro an aS;conv=>cbv
   refine g1 (by omega) ?_;refine⟨2-(k'+1),?_,?_⟩
   ·omega
   rw[K];exact⟨k'+1,-m,au,an,rfl,⟨⟨by omega⟩,by omega⟩,⟨G,by clear K;rcases U with e | e <;> rw[V,e] <;> first | rfl | (show- -n=n;grind)⟩,rfl⟩
  have ah:=AS a1;exact (GK P ah az).elim
 have ag:=Ad Z;exact absurd ag (by omega)
theorem VO (h:AU R (r::u)) (hT:T=tw (r::u)) (hA:A=em (r::u) x) (hx:El (r::u) s x) (hxe:x=p+q*rt u r) (hp:El u s p) (hq:El u s q) (hs:SS (r::u).length R s<=60000000000000) (hvR:VV (r::u).length R R<=60000000000000) (h0x:0<=x) (h0:q≠0) (hn:In u n) (hnn:n*n=p*p-q*q*AI u r) (ht:t=Re.ofRat (1/2)) (hyn:FT u (p*p-q*q*AI u r) n) {y:Nat->Re} (hy0:y 0=p+n) (hy1:y 1=p-n) (hyE:∀i,El u (s+(2*s+2*EE u.length R+R+1+GG u.length R)+1) (y i)) {L:Nat->LR} (hk:k0<=2) (hno:∀i,i<k0->FR u (t*y i) (L i)) (hk1:k0<2) {j:Re} (hw:In u w) (hww:w*w=t*y k0) (hyw:FT u (t*y k0) w) (hj:In u j) (hwj:w*j=1) (hB:B=em (r::u) (w+t*(q*j)*rt u r)):CF 101 [.one (.sl (.sl AA) T),.one (.sl AA A)] (.AG [(false,[.sl AA B]),(false,[.bool true])]):=by
 have hTl:T.length=u.length+1:=by rw[hT,Au];rfl
 have hAl:A.length=2^u.length+2^u.length:=by rw[hA,Ap hx.mem,BE]
 have hrr:=El.Br h;have hR:=h.hR;have hsv:VV (r::u).length R s<=SS (r::u).length R s:=Fw u.length R s;have hsi:s+II u.length R (TQ u.length R s+GG u.length R)+2*EE u.length R+2<=SS (r::u).length R s:=Gb u.length R s;have hsg:=Dn (r::u).length R s;have hmn:=C3 u.length R (TQ u.length R s+GG u.length R);have hTQ:TQ u.length R s=3*s+4*EE u.length R+R+GG u.length R+3+II u.length R R:=rfl;have hp16:=B5 h.tail.ht;have hN:=El.norm h hp.mem hq.mem (hxe ▸ hx);have hnE:=hN.sqrt h.tail hn hnn;have htE:El u 1 t:=by rw[ht];exact El.rat h.red.1 IJ
 have hhE:=htE.mul h.tail (hyE k0);have hwE:=hhE.sqrt h.tail hw hww;have hjE:=(hwE.mono (t:=TQ u.length R s+GG u.length R) (by omega)).inv h.tail hj hwj;refine AE Tryz.func101 (by kernel_rfl) rfl fun E hE=>?_
 conv=>cbv
 rintro n31 ⟨e31,f31⟩;conv=>cbv
 intro n32 h32;conv=>cbv
 cases n32 <;> conv=>cbv
 ·have k32:=Ac h32;obtain⟨r45,hr45⟩:=xI (Ao x);refine cL hE (Eb h hT hA hx (by omega) (by omega) hvR hr45) t2 ?_;try conv=>cbv
  intro n46 h46;conv=>cbv
  cases n46 <;> conv=>cbv
  ·have k46:=AR h46;rintro n48 ⟨e48,f48⟩;conv=>cbv
   intro n49 h49;conv=>cbv
   refine g1 (by omega) ?_;intro m52 hm52;conv=>cbv
   refine g2 (by omega) ?_;intro b52 hb52;conv=>cbv
   intro l52 hl52;conv=>cbv
   obtain⟨x55,hx55⟩:=AF (l:=T) (i:=(T.length-1)) (by omega);refine⟨x55,fun _=>⟨by omega,by rw[show (n49).toNat=(T.length-1) by omega];exact hx55⟩,?_⟩;try conv=>cbv
   refine g2 rfl ?_;rintro n58 ⟨e58,f58⟩;conv=>cbv
   intro n59 h59;conv=>cbv
   refine g2 ⟨by omega,by omega,i64 (by omega)⟩ ?_;intro m62 hm62;conv=>cbv
   refine g2 (by omega) ?_;intro b62 hb62;conv=>cbv
   intro l62 hl62;conv=>cbv
   intro m65 hm65;conv=>cbv
   refine g2 (by omega) ?_;rintro a65 b65 ⟨ha65,hb65⟩;conv=>cbv
   intro l65 hl65;conv=>cbv
   refine g2 rfl ?_;have hl52e:l52=tw u:=by rw[hl52,List.drop_zero,show b52=T.length-1 by omega,hT,CO]
   have hx55e:x55=em u (AI u r):=by rw[hT,DY] at hx55;exact (Option.some.inj hx55).symm.trans (Cj h.red)
   have hl62e:l62=em u p:=by rw[hl62,List.drop_zero,show b62=A.length/2 by omega,hA,BY h.red hp.mem hq.mem hxe]
   have hl65e:l65=em u q:=by rw[hl65,show a65=A.length/2 by omega,hb65,hm65,List.take_length,hA,BL h.red hp.mem hq.mem hxe]
   obtain⟨zb67,zl67,yb67,yl67,hz67⟩:=A9 (((0:Int):Rat));refine cL hE (Dp (by omega) rfl hz67) t1 ?_;try conv=>cbv
   obtain⟨w68,hw68⟩:=xR (em u (0));refine cL (r:= .one (.sl AA w68)) hE (EG h.tail hl52e hz67 (by rw[show Re.ofRat ((0:Int):Rat)=0 from rfl];exact hw68)) ⟨rfl,t4,trivial⟩ ?_;try conv=>cbv
   refine cL hE (Fy h.tail.red hq.mem hl65e h0) t1 ?_;try conv=>cbv
   obtain⟨w104,hw104⟩:=xR (em u (p*p));refine cL hE (Cf h.tail hl52e hl62e hl62e hp hp (by omega) hw104) t3 ?_;try conv=>cbv
   obtain⟨w110,hw110⟩:=xR (em u (q*q));refine cL hE (Cf h.tail hl52e hl65e hl65e hq hq (by omega) hw110) t3 ?_;try conv=>cbv
   obtain⟨w111,hw111⟩:=xR (em u (AI u r*(q*q)));refine cL hE (Cf h.tail hl52e hx55e hw110 hrr (hq.mul h.tail hq) (by omega) hw111) t3 ?_;try conv=>cbv
   obtain⟨w112,hw112⟩:=xR (em u (p*p-AI u r*(q*q)));refine cL hE (JT h.tail hw104 hw111 (hp.mul h.tail hp) (hrr.mul h.tail (hq.mul h.tail hq)) (by omega) (by omega) hw112) t3 ?_;try conv=>cbv
   have hNe:w112=em u (p*p-q*q*AI u r):=by rw[hw112,show p*p-AI u r*(q*q)=p*p-q*q*AI u r by grind]
   obtain⟨w117,hw117⟩:=xR (em u n);refine cL hE (hyn hl52e hNe hw117) t2 ?_;try conv=>cbv
   intro n120 h120;cases h120.trans (rfl:_=false);conv=>cbv
   obtain⟨zb122,zl122,yb122,yl122,hz122⟩:=A9 ((1/2:Rat));refine cL hE (G6 (by omega) (by omega) (by decide) (by decide +kernel) hz122) t2 ?_;try conv=>cbv
   obtain⟨w123,hw123⟩:=xR (em u (t));refine cL (r:= .one (.sl AA w123)) hE (EG h.tail hl52e hz122 (hw123.trans (by rw[ht]))) ⟨rfl,t4,trivial⟩ ?_;try conv=>cbv
   refine .inr ?_;obtain⟨J0,hJ0⟩:=xJ fun vs bl k=>∃(k':Nat) (m:Re) (M:LR) (i:Int),vs=[.one (.sl (.sl AA) l52),.one (.sl AA l62),.one (.sl AA l65),.one (.sl AA M),.one (.sl AA w123),.one (.int .i64 i)]/\(AK i k'/\k'<=k0)/\(M=em u m/\m=if k'=1 then -n else n)/\k=k0-k'
   refine⟨[9,12,13,22,24,25],[],J0,⟨k0-0,by rw[hJ0];exact⟨0,n,w117,0,rfl,⟨Ai 0,by omega⟩,⟨hw117,rfl⟩,rfl⟩⟩,?_⟩;intro vs bl kk0 hj;rw[hJ0] at hj;obtain⟨k',m,M,i,rfl,⟨hi,hik⟩,⟨hM,hmv⟩,hk0⟩:=hj;conv=>cbv
   have ei:=hi.eq;intro n125 h125;conv=>cbv
   cases n125 <;> conv=>cbv
   ·have k125:=AR h125;exact absurd k125 (by omega)
   have k125:=AS h125;refine .inr ?_;have hk2:k'=0\/k'=1:=by omega
   have hmE:El u (2*s+2*EE u.length R+R+1+GG u.length R) m:=by rw[hmv];split;exact hnE.neg h.red.1;exact hnE
   have hmy:p+m=y k':=by rcases hk2 with e | e <;> rw[e,hmv,e] <;> first | (rw[hy0];rfl) | (rw[hy1];simp;grind)
   obtain⟨w135,hw135⟩:=xR (em u (y k'));refine cL (r:= .one (.sl AA w135)) hE (Gc h.tail hl62e hM hp hmE (by omega) (by omega) (hw135.trans (by rw[hmy]))) t3 ?_;try conv=>cbv
   obtain⟨w136,hw136⟩:=xR (em u (t*y k'));refine cL hE (Cf h.tail hl52e hw123 hw135 htE (hyE k') (by omega) hw136) t3 ?_;try conv=>cbv
   obtain⟨wl,bb,hcall,hbt,hbf⟩:∃(wl:LR) (bb:Bool),CF 101 [.one (.sl (.sl AA) l52),.one (.sl AA w136)] (.AG [(false,[.sl AA wl]),(false,[.bool bb])])/\(bb=true->k'=k0/\wl=em u w)/\(bb=false->k'<k0):=by
    by_cases e:k'<k0
    ·exact⟨L k',false,hno k' e hl52e hw136,fun e=>(Bool.false_ne_true e).elim,fun _=>e⟩
    have e2:k'=k0:=by omega
    exact⟨em u w,true,hyw hl52e (hw136.trans (by rw[e2])) rfl,fun _=>⟨e2,rfl⟩,fun e=>(Bool.noConfusion e)⟩
   refine cL hE hcall t2 ?_;try conv=>cbv
   cases bb <;> conv=>cbv
   ·have hkl:=hbf rfl;obtain⟨w158,hw158⟩:=xR (em u (-m));refine cL hE (G9 h.tail hM hmE hw158) t2 ?_;try conv=>cbv
    intro n127 h127;conv=>cbv
    refine g1 (by omega) ?_;refine⟨k0-(k'+1),?_,?_⟩
    ·omega
    rw[hJ0];exact⟨k'+1,-m,w158,n127,rfl,⟨⟨by omega⟩,by omega⟩,⟨hw158,by clear hJ0;rcases hk2 with e | e <;> rw[hmv,e] <;> first | rfl | (show- -n=n;grind)⟩,rfl⟩
   obtain⟨hke,hwl⟩:=hbt rfl;subst hke;obtain⟨w144,hw144⟩:=xR (em u (j));refine cL hE (JS h.tail hl52e hwl (hwE.mono (t:=TQ u.length R s+GG u.length R) (by omega)) hj hwj (by omega) hw144) t2 ?_;try conv=>cbv
   obtain⟨w153,hw153⟩:=xR (em u (q*j));refine cL hE (Cf h.tail hl52e hl65e hw144 hq hjE (by omega) hw153) t3 ?_;try conv=>cbv
   obtain⟨w154,hw154⟩:=xR (em u (t*(q*j)));refine cL hE (Cf h.tail hl52e hw123 hw153 htE (hq.mul h.tail hjE) (by omega) hw154) t3 ?_;try conv=>cbv
   have htq:=htE.mul h.tail (hq.mul h.tail hjE);have hBj:B=wl++w154:=by rw[hB,hwl,hw154];exact DI h.red hw htq.mem rfl
   refine cL (r:= .one (.sl AA B)) hE (Ld (by rw[hwl,Ap hw];omega) (by rw[hw154,Ap htq.mem];omega) hBj) t2 ?_;try conv=>cbv
   exact fA ⟨t2,t2,trivial⟩ rfl (by simp)
  have k46:=AS h46;exact (GK hr45 k46 h0x).elim
 have k32:=Ad h32;exact absurd k32 (by omega)
end Go.Abs
