/- Part 17 of a proof. Conditions: each theorem's own. -/
import Derived.Test.YtclgfoceefhnkaaGreatDoorLk15
set_option linter.all false
set_option maxHeartbeats 80000000
set_option maxRecDepth 20000
open Go.Proofs
namespace Go.Abs
open Go.RowKit
variable {c n o:Nat} {l u z:List UInt32}
theorem WD {i k:Nat} {w:UInt32} (h:i+k<z.length):((z.set (i+k) w).drop i).take (k+1)=(z.drop i).take k++[w]:=by
 rw[List.drop_set,if_neg (by omega),Nat.add_sub_cancel_left,EI (by rw[List.length_drop];omega)]
theorem RT {m:Nat} (U:o+n<=l.length) (hl:l.length<=140737488355328) (hm:m=(B1 ((l.drop o).take n)).length):Gk Tryz.prog 268 (.AQ .u32 0 0 o n) (.arr 0 .u32 l) [] (.one (.AQ .u32 0 0 o m)) (.arr 0 .u32 l):=by
 refine J6 Tryz.func268 (by kernel_rfl) rfl fun E hE=>?_
 conv=>cbv
 refine .inr ?_;obtain⟨L,j⟩:=xJ fun vs D k=>∃q:Nat,vs=[.one (.AQ .u32 0 0 o q)]/\D=[.arr 0 .u32 l]/\o+q<=l.length/\m=(B1 ((l.drop o).take q)).length/\k=q
 refine⟨[],[0],[0],L,⟨n,by rw[j];exact⟨n,rfl,rfl,U,hm,rfl⟩⟩,?_⟩;intro vs D W I;rw[j] at I;obtain⟨q,rfl,rfl,hq,p,T⟩:=I;conv=>cbv
 intro n4 R;have e4:=R.eq;conv=>cbv
 intro n5 F;conv=>cbv
 cases n5 <;> conv=>cbv
 ·have V:=Bf F;refine⟨fun _=>⟨⟨⟨rfl,.inr (.inr ⟨rfl,rfl,congrArg (AC.AQ .u32 0 0 o) (by rw[p,show q=0 by omega];rfl)⟩),trivial⟩,trivial⟩,rfl,by simp⟩,fun _=>rfl⟩
 have V:=Bg F;intro n9 S;have e9:=S.eq;conv=>cbv
 intro X P;conv=>cbv
 refine AI ?_;refine AH ?_;intro s J;conv=>cbv
 obtain⟨f,a⟩:=AL (l:=l) (i:=s) (by omega);refine⟨f,fun _=>a,?_⟩;try conv=>cbv
 intro Y g;have N:=g.eq;have f12:=g.lt;conv=>cbv
 intro C t;conv=>cbv
 cases C <;> conv=>cbv
 ·have v:=AN t;have B:f≠0:=fun h=>by subst h;exact v g.eq
  have r:(l.drop o)[q-1]? =some f:=by rw[List.getElem?_drop,show o+(q-1)=s by omega];exact a
  refine⟨fun _=>⟨⟨⟨rfl,.inr (.inr ⟨rfl,rfl,congrArg (AC.AQ .u32 0 0 o) (by rw[p,show q=q-1+1 by omega,Ck r,IQ B,List.length_append,List.length_take,List.length_drop];simp;omega)⟩),trivial⟩,trivial⟩,rfl,by simp⟩,fun _=>rfl⟩
 have v:=AO t;refine .inr ?_;intro Z A;have O:=A.eq;conv=>cbv
 intro a1 Q;conv=>cbv
 refine AI ?_;refine AH ?_;intro M G;conv=>cbv
 rintro w d ⟨K,H⟩;conv=>cbv
 refine⟨d,?_,?_⟩
 ·omega
 rw[j];obtain rfl:w=o:=by omega
 refine⟨d,rfl,rfl,by omega,?_,rfl⟩;obtain rfl:f=0:=UInt32.toNat_inj.1 (by show _=0;omega);rw[p,show q=d+1 by omega,Ck (x:=0) (by rw[List.getElem?_drop,show w+d=s by omega];exact a),Hl]
theorem Yo {y p:List UInt32} {q:Int} {X V n':Nat} (hX:AE ((u.drop o).take c)=X) (bb:o+c<=u.length) (bf:u.length<=17592186044400) (U:y=AS V) (aI:y.length=n'+1) (b9:c=n'+2) (aD:X<4294967296*V) (hq:AR q (X/V)) (hp:p=AS (X/V*V)):D7 Tryz.prog 327 [.one (.AQ .u32 0 0 o c),.one (.sl .u32 y)] (.arr 0 .u32 u) (.AJ [(false,[.int .u32 q]),(false,[.sl .u32 p])]):=by
 obtain⟨x,hx⟩:=xU ((u.drop o).take c);have bg:x.length=n'+2:=by rw[hx,List.length_take,List.length_drop];omega
 have ak:∀i,i<c->x[i]? =u[o+i]? :=fun i h=>by rw[hx,List.getElem?_take,if_pos h,List.getElem?_drop]
 rw[<-hx] at hX;refine Gz Tryz.func327 (by kernel_rfl) rfl fun E hE=>?_
 conv=>cbv
 rintro bj ⟨aZ,f10⟩;conv=>cbv
 refine AH ?_;intro ar aX;conv=>cbv
 obtain⟨A,L⟩:=AL (l:=u) (i:=ar) (by omega);refine⟨A,fun _=>L,?_⟩;try conv=>cbv
 intro bk Y;have b0:=Y.eq;have f14:=Y.lt;conv=>cbv
 intro bl Z;conv=>cbv
 have Z:=wrap_u64 Z;intro aK a1;conv=>cbv
 refine AH ?_;have a1:=IM (p:=4294967296) a1 rfl;have aW:aK=((A.toNat*4294967296:Nat):Int):=by omega
 intro bm b7;conv=>cbv
 refine AI ?_;refine AH ?_;intro au aY;conv=>cbv
 obtain⟨C,M⟩:=AL (l:=u) (i:=au) (by omega);refine⟨C,fun _=>M,?_⟩;try conv=>cbv
 intro bn a2;have b4:=a2.eq;have f21:=a2.lt;conv=>cbv
 intro bo a5;conv=>cbv
 have a5:=wrap_u64 a5;intro bp N;conv=>cbv
 have N:=IE (p:=A.toNat) (q:=C.toNat) N (by omega) (by omega) (by omega) (by omega);intro aL b8;conv=>cbv
 refine AI ?_;obtain⟨f,v⟩:=AL (l:=y) (i:=n') (by omega);refine⟨f,fun _=>⟨by omega,by rw[show (aL).toNat=n' by omega];exact v⟩,?_⟩;try conv=>cbv
 intro bq a6;have b5:=a6.eq;have f28:=a6.lt;conv=>cbv
 intro aM a7;conv=>cbv
 have a7:=wrap_u64 a7;have ao:x[n'+1]? =some A:=by rw[ak _ (by omega),show o+(n'+1)=ar by omega];exact L
 have aq:x[n']? =some C:=by rw[ak _ (by omega),show o+n'=au by omega];exact M
 have aH:f.toNat≠0:=KC (by rw[<-U];exact v) (by rw[<-U];omega);obtain⟨top,I⟩:∃t,t=C.toNat+4294967296*A.toNat:=⟨_,rfl⟩
 have aE:X=top*2^(32*n')+AE (x.take n'):=by have F:=CB ao;have h2:=CB aq;rw[List.take_of_length_le (by omega),hX] at F;rw[F,h2,Dg,I];grind
 have aC:V=f.toNat*2^(32*n')+AE (y.take n'):=by have F:=CB v;rw[List.take_of_length_le (by omega),U,Aw,<-U] at F;rw[F];grind
 have hg:=gY aE (JX (l:=x) (n:=n')) aC (by omega);have R:0<V:=by have:=Nat.mul_pos (show 0<f.toNat by omega) (Nat.two_pow_pos (32*n'));omega
 have bc:X/V<4294967296:=(Nat.div_lt_iff_lt_mul R).2 aD;have bd:top<18446744073709551616:=by omega
 intro aN O;conv=>cbv
 refine AH ?_;have O:=wrap_u64 O;have a8:aN=((top/f.toNat:Nat):Int):=by rw[O,N,show aM=(f.toNat:Int) by omega,<-I,<-Int.natCast_ediv];have:=Nat.div_le_self top f.toNat;generalize top/f.toNat=Q at *;omega
 refine g2 rfl ?_;intro aO aa;conv=>cbv
 obtain⟨ay,j⟩:=xK fun vs W=>∃(G:Nat) (g:Int),vs=[.one (.AQ .u32 0 0 o c),.one (.sl .u32 y),.one (.int .u64 g)]/\W=[.arr 0 .u32 u]/\AR g G/\X/V<=G/\G<4294967296
 refine .inl ⟨[0,1,7],[0],ay,?_,?_⟩
 ·intro vs W hj;rw[j] at hj;obtain⟨G,g,rfl,rfl,aj,aB,ai⟩:=hj;conv=>cbv
  have b6:=aj.eq;intro aP ab;conv=>cbv
  have ab:=wrap_u32 ab;obtain⟨aT,s⟩:=B4 (n:=aP) (by omega);have aU:=s.eq;have aV:=s.lt;refine⟨[aT],fun _=>⟨rfl,by decide,rfl,⟨rfl,B3 s,trivial⟩⟩,.inr ?_⟩;try conv=>cbv
  obtain⟨aw,J⟩:=xU (AS (V*G));refine AB (r:= .one (.sl .u32 aw)) hE (RQ (a:=V) (b:=G) (by rw[U,Aw]) (by simp[AE];omega) J (by omega) (by simp)) ?_;try conv=>cbv
  refine .inr ?_;obtain⟨J0,P⟩:=xJ fun vs W k=>∃(D:Nat) (d:Int) (pp:List UInt32),vs=[.one (.AQ .u32 0 0 o c),.one (.sl .u32 y),.one (.int .u64 d),.one (.sl .u32 pp)]/\W=[.arr 0 .u32 u]/\(AR d D/\D<4294967296/\X/V<=D)/\pp=AS (V*D)/\k=D
  refine⟨[],[0,1,7,8],[0],J0,⟨G,by rw[P];exact⟨G,g,aw,rfl,rfl,⟨aj,ai,aB⟩,J,rfl⟩⟩,?_⟩;intro vs W bh hj;rw[P] at hj;obtain⟨D,d,pp,rfl,rfl,⟨hd,ag,aA⟩,B,ba⟩:=hj;conv=>cbv
  have ed:=hd.eq;have S:c<=(u.drop o).length:=by rw[List.length_drop];omega
  obtain⟨av,H⟩:=xN ((B1 ((u.drop o).take c)).length);obtain⟨aG,T⟩:=D1 S H;refine .inr (.inr (.inl ⟨[],.one (.AQ .u32 0 0 o av),.arr 0 .u32 u,fun _=>⟨by first | decide | simp[Be,Bk],trivial⟩,fun _=>⟨Di hE (RT (by omega) (by omega) H),rfl,rfl⟩,?_⟩));try conv=>cbv
  obtain⟨aS,m⟩:=xI (BQ X (V*D:Nat));refine .inr (.inl ⟨[.one (.sl .u32 (((u).drop o).take av)),.one (.sl .u32 pp)],.one (.int .i64 aS),fun _=>⟨⟨_,rfl,by omega,rfl⟩,rfl,trivial⟩,fun _=>ES hE (LP rfl (Jv (by rw[T,<-hx,hX]) B m)),?_⟩);try conv=>cbv
  intro aQ ad;conv=>cbv
  cases aQ <;> conv=>cbv
  ·have w:=AY ad;intro br af;conv=>cbv
   have af:=wrap_u32 af;have aF:V*D<=X:=by rw[m] at w;have:=HT w;omega
   have ah:D=X/V:=Nat.le_antisymm ((Nat.le_div_iff_mul_le R).2 (by rw[Nat.mul_comm];exact aF)) aA;refine fun _=>⟨⟨⟨⟨rfl,congrArg _ (by rw[hq.eq,<-ah];omega),trivial⟩,⟨rfl,congrArg _ (by rw[hp,B,<-ah,Nat.mul_comm]),trivial⟩,trivial⟩,rfl,by simp⟩,rfl⟩
  have w:=AZ ad;have al:X<V*D:=by rw[m] at w;have:=HU w;omega
  have az:1<=D:=by apply Nat.pos_of_ne_zero;intro e;rw[e,Nat.mul_zero] at al;omega
  have an:pp.length<=17592186044416:=by rw[B];refine Nat.le_trans (Ep (k:=n'+2) ?_) (by omega);have F:=CI y;rw[aI,U,Aw] at F;have h2:2^(32*(n'+2))=4294967296*2^(32*(n'+1)):=Dg (n'+1);rw[h2,Nat.mul_comm];exact Nat.mul_lt_mul_of_lt_of_le ag (Nat.le_of_lt F) (by omega)
  refine .inr ?_;intro aR ae;conv=>cbv
  have ae:=wrap_u64 ae;obtain⟨ax,K⟩:=xU (AS (V*D-V));refine AB (r:= .one (.sl .u32 ax)) hE (Na B U K (by have:=Nat.mul_le_mul_left V az;omega) an) ?_;try conv=>cbv
  refine⟨D-1,?_,?_⟩
  ·omega
  rw[P];exact⟨D-1,aR,ax,rfl,rfl,⟨⟨by omega⟩,by omega,by have:=(Nat.div_lt_iff_lt_mul R).2 (show X<D*V by rw[Nat.mul_comm];exact al);omega⟩,by rw[K,Nat.mul_sub,Nat.mul_one],rfl⟩
 cases aO <;> conv=>cbv
 ·have aJ:=Bf aa;rw[j];exact⟨_,_,rfl,rfl,⟨a8⟩,hg,by omega⟩
 have aJ:=Bg aa;rw[j];exact⟨4294967295,_,rfl,rfl,⟨rfl⟩,by omega,by omega⟩
theorem Y2 {m:List UInt32} {a b:Nat} (af:l=(u.drop o).take c) (aO:o+c<=u.length) (hl:l=AS a) (hm:m=AS b) (hz:z=AS (a-b)) (al:b<=a) (sl:u.length<=17592186044416):D7 Tryz.prog 328 [.one (.AQ .u32 0 0 o c),.one (.sl .u32 m)] (.arr 0 .u32 u) (.one (.sl .u32 z)):=by
 have ao:m.length<=l.length:=by rw[hl,hm];exact Df al
 have aM:l.length=c:=by rw[af,List.length_take,List.length_drop];omega
 have ab:∀i,i<c->l[i]? =u[o+i]? :=fun i h=>by rw[af,List.getElem?_take,if_pos h,List.getElem?_drop]
 refine Gz Tryz.func328 (by kernel_rfl) rfl fun E hE=>?_
 conv=>cbv
 intro aQ ai;have aF:=ai.eq;conv=>cbv
 refine⟨fun _=>⟨by omega,by omega,by show _*4<=140737488355328;omega⟩,?_⟩;intro V (W:List UInt32) T;have aE:=T.1;have I:W=List.replicate V (0:el .u32):=T.2;have aD:W.length=V:=by rw[I,List.length_replicate]
 conv=>cbv
 refine .inr ?_
 obtain⟨J0,O⟩:∃J:List AV->List AG->Nat->Prop,J=fun vs bl k=>∃(q:List UInt32) (n Q i':Nat) (cc i:Int),vs=[.one (.AQ .u32 0 0 o c),.one (.sl .u32 m),.one (.AQ .u32 12 0 0 n),.one (.int .u64 cc),.one (.int .i64 i)]/\
  bl=[.arr 0 .u32 u,.arr 0 .u32 q]/\(q.length=l.length/\n=q.length/\AR i i'/\i'<=l.length/\AR cc Q/\Q<=1)/\
  AE (q.take i')+AE (m.take i')=AE (l.take i')+2^(32*i')*Q/\k=l.length-i':=⟨_,rfl⟩
 refine⟨[],[0,1,5,6,7],[0,12],J0,⟨l.length-0,by rw[O];exact⟨W,V,0,0,0,0,rfl,rfl,⟨by rw[I,List.length_replicate];omega,by rw[I,List.length_replicate],Ak 0,by omega,Ak 0,by omega⟩,by simp[AE],rfl⟩⟩,?_⟩;intro vs bl aP hj;rw[O] at hj;obtain⟨q,n,Q,i',cc,i,rfl,rfl,⟨hq,hn,hi,aK,hc,aJ⟩,hinv,aL⟩:=hj;conv=>cbv
 have ei:=hi.eq;have ec:=hc.eq;intro aR aj;have aG:=aj.eq;conv=>cbv
 intro av a5;conv=>cbv
 cases av <;> conv=>cbv
 ·have aq:=AY a5;have K:n<=(q).length:=by omega
  obtain⟨au,R⟩:=xN ((B1 ((q).take n)).length);obtain⟨an,U⟩:=D1 K R;refine .inr (.inr (.inl ⟨[],.one (.AQ .u32 0 0 0 au),.arr 0 .u32 q,fun _=>⟨by first | decide | simp[Be,Bk],trivial⟩,fun _=>⟨Di hE (FP K (by omega) R),rfl,rfl⟩,?_⟩));try conv=>cbv
  have hk:i'=l.length:=by omega
  have aa:AE (q.take n)=a-b:=by rw[hk,DA ao,DA (Nat.le_refl _),hm,hl,Aw,Aw,<-hl,<-hq,List.take_length] at hinv;have aN:=CI q;generalize 2^(32*q.length)=P at *;rw[hn,List.take_length];rcases (by omega:Q=0\/Q=1) with e | e <;> rw[e] at hinv <;> omega
  refine fun _=>⟨⟨⟨⟨rfl,.inl ⟨_,rfl,by omega,congrArg _ (by rw[List.drop_zero,U,aa,hz])⟩,trivial⟩,trivial⟩,rfl,by simp⟩,rfl⟩
 have aq:=AZ a5;refine .inr ?_;rintro aS ⟨aH,f21⟩;conv=>cbv
 intro aw a6;conv=>cbv
 refine .inr ?_;cases aw <;> conv=>cbv
 ·have ar:=AY a6;refine AH ?_;intro M ad;conv=>cbv
  obtain⟨t,g⟩:=AL (l:=u) (i:=M) (by omega);refine⟨t,fun _=>g,?_⟩;try conv=>cbv
  intro ax v;have ah:=v.eq;have f31:=v.lt;conv=>cbv
  intro ay A;conv=>cbv
  have A:=wrap_u64 A;intro az B;conv=>cbv
  have B:=wrap_u64 B;intro aA C;conv=>cbv
  have C:=wrap_u64 C;intro aB D;conv=>cbv
  have D:=wrap_u64 D;intro Y F;conv=>cbv
  have F:=wrap_u32 F;refine AH ?_;intro N ae;conv=>cbv
  obtain⟨s,f⟩:=B4 (n:=Y) (by omega);have Z:=f.eq;have a1:=f.lt;refine⟨s,fun _=>⟨by show _<List.length (α:=UInt32) q;(first | omega | (simp;omega)),B3 f⟩,?_⟩;intro (j:List UInt32) (d:j=List.set (α:=UInt32) q N s);have a2:j.length=q.length:=by rw[d,List.length_set]
  conv=>cbv
  intro aC G;conv=>cbv
  refine AH ?_;have G:=Dt (p:=4294967296) G rfl;intro r H;conv=>cbv
  have H:=wrap_u64 H;intro X ak;conv=>cbv
  refine AI ?_;refine⟨l.length-(i'+1),?_,?_⟩
  ·omega
  rw[O];have L:l[i']? =some t:=by rw[ab _ (by omega),show o+i'=M by omega];exact g
  refine⟨j,n,r.toNat,i'+1,r,X,rfl,rfl,⟨by rw[d,List.length_set];exact hq,by rw[d,List.length_set];exact hn,⟨by omega⟩,by omega,⟨by omega⟩,by omega⟩,?_,rfl⟩;have hs:=I8 (w:=s) (o:=q) (i:=i') (xi:=t.toNat) (yi:=0) (Ew:=Q) (Ey:=r.toNat) (by omega) hinv (by omega);rw[d,show N=i' by omega,CB L,<-hs,DA (l:=m) (i:=i'+1) (by omega),DA (l:=m) (i:=i') (by omega),Nat.mul_zero]
  rfl
 have ar:=AZ a6;obtain⟨ag,S⟩:=AL (l:=m) (i:=i') (by omega);refine⟨ag,fun _=>⟨by omega,by rw[show (i).toNat=i' by omega];exact S⟩,?_⟩;try conv=>cbv
 intro aT a7;have aI:=a7.eq;have f26:=a7.lt;conv=>cbv
 intro aU a8;conv=>cbv
 have a8:=wrap_u64 a8;refine AH ?_;intro M ad;conv=>cbv
 obtain⟨t,g⟩:=AL (l:=u) (i:=M) (by omega);refine⟨t,fun _=>g,?_⟩;try conv=>cbv
 intro ax v;have ah:=v.eq;have f31:=v.lt;conv=>cbv
 intro ay A;conv=>cbv
 have A:=wrap_u64 A;intro az B;conv=>cbv
 have B:=wrap_u64 B;intro aA C;conv=>cbv
 have C:=wrap_u64 C;intro aB D;conv=>cbv
 have D:=wrap_u64 D;intro Y F;conv=>cbv
 have F:=wrap_u32 F;refine AH ?_;intro N ae;conv=>cbv
 obtain⟨s,f⟩:=B4 (n:=Y) (by omega);have Z:=f.eq;have a1:=f.lt;refine⟨s,fun _=>⟨by show _<List.length (α:=UInt32) q;(first | omega | (simp;omega)),B3 f⟩,?_⟩;intro (j:List UInt32) (d:j=List.set (α:=UInt32) q N s);have a2:j.length=q.length:=by rw[d,List.length_set]
 conv=>cbv
 intro aC G;conv=>cbv
 refine AH ?_;have G:=Dt (p:=4294967296) G rfl;intro r H;conv=>cbv
 have H:=wrap_u64 H;intro X ak;conv=>cbv
 refine AI ?_;refine⟨l.length-(i'+1),?_,?_⟩
 ·omega
 rw[O];have L:l[i']? =some t:=by rw[ab _ (by omega),show o+i'=M by omega];exact g
 refine⟨j,n,r.toNat,i'+1,r,X,rfl,rfl,⟨by rw[d,List.length_set];exact hq,by rw[d,List.length_set];exact hn,⟨by omega⟩,by omega,⟨by omega⟩,by omega⟩,?_,rfl⟩;have hs:=I8 (w:=s) (o:=q) (i:=i') (xi:=t.toNat) (yi:=ag.toNat) (Ew:=Q) (Ey:=r.toNat) (by omega) hinv (by omega);rw[d,show N=i' by omega,CB L,<-hs,CB S]
theorem Ym {s:Int} (aD:c<=u.length) (sl:u.length<=17592186044416) (hs:AR s n) (hn:n<=31) (hz:z=AS (AE (u.take c)/2^n)):D7 Tryz.prog 329 [.one (.AQ .u32 0 0 0 c),.one (.int .i64 s)] (.arr 0 .u32 u) (.one (.sl .u32 z)):=by
 have es:=hs.eq;obtain⟨l,hl⟩:=xU (u.take c);have aG:l.length=c:=by rw[hl,List.length_take];omega
 have L:∀i,i<c->l[i]? =u[i]? :=fun i h=>by rw[hl,List.getElem?_take,if_pos h]
 rw[<-hl] at hz;refine Gz Tryz.func329 (by kernel_rfl) rfl fun E hE=>?_
 conv=>cbv
 intro n9 h9;have e9:=h9.eq;conv=>cbv
 refine⟨fun _=>⟨by omega,by omega,by show _*4<=140737488355328;omega⟩,?_⟩;intro O (P:List UInt32) K;have av:=K.1;have t:P=List.replicate O (0:el .u32):=K.2;have aq:P.length=O:=by rw[t,List.length_replicate]
 conv=>cbv
 refine .inr ?_
 obtain⟨J0,G⟩:∃J:List AV->List AG->Nat->Prop,J=fun vs bl k=>∃(o:List UInt32) (m i':Nat) (i:Int),vs=[.one (.AQ .u32 0 0 0 c),.one (.int .i64 s),.one (.AQ .u32 10 0 0 m),.one (.int .i64 i)]/\
  bl=[.arr 0 .u32 u,.arr 0 .u32 o]/\(o.length=l.length/\m=o.length/\AR i i'/\i'<=l.length)/\
  AE (o.take i')=AE l/2^n%2^(32*i')/\k=l.length-i':=⟨_,rfl⟩
 refine⟨[],[0,1,5,6],[0,10],J0,⟨l.length-0,by rw[G];exact⟨P,O,0,0,rfl,rfl,⟨by rw[t,List.length_replicate];omega,by rw[t,List.length_replicate],Ak 0,by omega⟩,by simp[AE,Nat.mod_one],rfl⟩⟩,?_⟩;intro vs bl aH hj;rw[G] at hj;obtain⟨o,m,i',i,rfl,rfl,⟨ho,hm,hi,aE⟩,hinv,aF⟩:=hj;conv=>cbv
 have ei:=hi.eq;intro aI ab;have aw:=ab.eq;conv=>cbv
 intro ak X;conv=>cbv
 cases ak <;> conv=>cbv
 ·have ah:=AY X;have w:m<=(o).length:=by omega
  obtain⟨aj,H⟩:=xN ((B1 ((o).take m)).length);obtain⟨ag,M⟩:=D1 w H;refine .inr (.inr (.inl ⟨[],.one (.AQ .u32 0 0 0 aj),.arr 0 .u32 o,fun _=>⟨by first | decide | simp[Be,Bk],trivial⟩,fun _=>⟨Di hE (FP w (by omega) H),rfl,rfl⟩,?_⟩));try conv=>cbv
  have hk:i'=l.length:=by omega
  have a7:AE o=AE l/2^n:=by rw[hk,<-ho,List.take_length,ho] at hinv;rw[hinv];exact Nat.mod_eq_of_lt (Nat.lt_of_le_of_lt (Nat.div_le_self _ _) (CI l))
  refine fun _=>⟨⟨⟨⟨rfl,.inl ⟨_,rfl,by omega,congrArg _ (by rw[List.drop_zero,M,hz,hm,List.take_length,a7])⟩,trivial⟩,trivial⟩,rfl,by simp⟩,rfl⟩
 have ah:=AZ X;refine .inr ?_;refine AH ?_;intro N ar;conv=>cbv
 obtain⟨F,C⟩:=AL (l:=u) (i:=N) (by omega);refine⟨F,fun _=>C,?_⟩;try conv=>cbv
 intro aJ Y;have ax:=Y.eq;have f20:=Y.lt;conv=>cbv
 intro aK Z;conv=>cbv
 have Z:=wrap_u64 Z;intro aL aB;conv=>cbv
 refine AI ?_;intro aM ae;have ay:=ae.eq;conv=>cbv
 intro al a1;conv=>cbv
 refine .inr ?_;cases al <;> conv=>cbv
 ·have ai:=AY a1;intro R f;conv=>cbv
  refine AH ?_;obtain⟨v,hv⟩:=xN F.toNat;obtain⟨ao,A,f⟩:∃q:Nat,q=v/2^n/\R=q:=⟨_,rfl,shr_var f (by omega) (by omega) (by show n<=64;omega)⟩
  rw[A] at f;intro S r;conv=>cbv
  have r:=wrap_u32 r;refine AH ?_;intro D a8;conv=>cbv
  obtain⟨j,d⟩:=B4 (n:=S) (by omega);have U:=d.eq;have V:=d.lt;refine⟨j,fun _=>⟨by show _<List.length (α:=UInt32) o;(first | omega | (simp;omega)),B3 d⟩,?_⟩;intro (g:List UInt32) (a:g=List.set (α:=UInt32) o D j);have W:g.length=o.length:=by rw[a,List.length_set]
  conv=>cbv
  intro Q ad;conv=>cbv
  refine AI ?_;refine⟨l.length-(i'+1),?_,?_⟩
  ·omega
  rw[G];have ew:j.toNat=v/2^n%4294967296:=by omega
  have B:l[i']? =some F:=by rw[L _ (by omega),show i'=N by omega];exact C
  refine⟨g,m,i'+1,Q,rfl,rfl,⟨by rw[a,List.length_set];exact ho,by rw[a,List.length_set];exact hm,⟨by omega⟩,by omega⟩,?_,rfl⟩;rw[a,show D=i' by omega,EI (by omega),Dp,List.length_take,Nat.min_eq_left (by omega),hinv,M9,ew];rw[Nat.div_div_eq_div_mul,Nat.mul_comm (2^n),<-Nat.div_div_eq_div_mul,Lr (by omega:i'<=l.length),DH B,List.drop_eq_nil_of_le (by omega:l.length<=i'+1),hv,AE,Nat.mul_zero,Nat.add_zero]
 have ai:=AZ a1;intro aN aC;conv=>cbv
 refine AI ?_;refine AH ?_;intro aa au;conv=>cbv
 obtain⟨T,I⟩:=AL (l:=u) (i:=aa) (by omega);refine⟨T,fun _=>I,?_⟩;try conv=>cbv
 intro aO a2;have az:=a2.eq;have f32:=a2.lt;conv=>cbv
 intro aP a5;conv=>cbv
 have a5:=wrap_u64 a5;intro aQ a6;conv=>cbv
 refine AH ?_;have a6:=IM (p:=4294967296) a6 rfl;intro an af;conv=>cbv
 obtain⟨v,hv,aA⟩:∃v:Nat,v=F.toNat+4294967296*T.toNat/\an=v:=⟨_,rfl,dW af (by omega) (by omega) (by omega) (by omega)⟩
 intro R f;conv=>cbv
 refine AH ?_;obtain⟨ao,A,f⟩:∃q:Nat,q=v/2^n/\R=q:=⟨_,rfl,shr_var f (by omega) (by omega) (by show n<=64;omega)⟩
 rw[A] at f;intro S r;conv=>cbv
 have r:=wrap_u32 r;refine AH ?_;intro D a8;conv=>cbv
 obtain⟨j,d⟩:=B4 (n:=S) (by omega);have U:=d.eq;have V:=d.lt;refine⟨j,fun _=>⟨by show _<List.length (α:=UInt32) o;(first | omega | (simp;omega)),B3 d⟩,?_⟩;intro (g:List UInt32) (a:g=List.set (α:=UInt32) o D j);have W:g.length=o.length:=by rw[a,List.length_set]
 conv=>cbv
 intro Q ad;conv=>cbv
 refine AI ?_;refine⟨l.length-(i'+1),?_,?_⟩
 ·omega
 rw[G];have ew:j.toNat=v/2^n%4294967296:=by omega
 have B:l[i']? =some F:=by rw[L _ (by omega),show i'=N by omega];exact C
 refine⟨g,m,i'+1,Q,rfl,rfl,⟨by rw[a,List.length_set];exact ho,by rw[a,List.length_set];exact hm,⟨by omega⟩,by omega⟩,?_,rfl⟩;rw[a,show D=i' by omega,EI (by omega),Dp,List.length_take,Nat.min_eq_left (by omega),hinv,M9,ew];rw[Nat.div_div_eq_div_mul,Nat.mul_comm (2^n),<-Nat.div_div_eq_div_mul,Lr (by omega:i'<=l.length),DH B,DH (show l[i'+1]? =some T from (by rw[L _ (by omega),show i'+1=aa by omega];exact I)),Zl,hv]
end Go.Abs
namespace Go.Abs
open Go.RowKit
theorem RH {l m z1 z2:List UInt32} {a b:Nat} (hl:l=AS a) (hm:m=AS b) (hb:0<b) (hz1:z1=AS (a/b)) (hz2:z2=AS (a%b)) (sl:l.length<=17592186043990):CF 270 [.one (.sl .u32 l),.one (.sl .u32 m)] (.AJ [(false,[.sl .u32 z1]),(false,[.sl .u32 z2])]):=by
 refine AM Tryz.func270 fun E hE=>?_
 conv=>cbv
 obtain⟨r22,hr22⟩:=xI (BQ a b);refine AB hE (Jv hl hm hr22) ?_;conv=>cbv
 intro n23 h23;conv=>cbv
 cases n23 <;> conv=>cbv
 ·have k23:=AY h23;have hba:b<=a:=by rw[hr22] at k23;have:=HT k23;omega
  have hml:m.length<=l.length:=by rw[hl,hm];exact Df hba
  have hm0:m.length≠0:=fun e=>by have e2:=List.eq_nil_of_length_eq_zero e;rw[hm] at e2;have:=Dx.1 e2;omega
  intro n26 h26;have e26:=h26.eq;have f26:=h26.le;conv=>cbv
  intro n27 h27;conv=>cbv
  cases n27 <;> conv=>cbv
  ·have k27:=F4 h27;intro n41 h41;have e41:=h41.eq;have f41:=h41.le;conv=>cbv
   intro n42 h42;conv=>cbv
   cases n42 <;> conv=>cbv
   ·have k42:=AN h42;intro n56 h56;have e56:=h56.eq;have f56:=h56.le;conv=>cbv
    intro n57 h57;conv=>cbv
    refine AI ?_;obtain⟨r59,hr59⟩:∃n:Int,AR n (Ce b):=⟨_,⟨rfl⟩⟩
    have er59:=hr59.eq;refine AB hE (RJ hm hr59 (by omega)) ?_;conv=>cbv
    obtain⟨n,hn⟩:∃n,n=m.length:=⟨_,rfl⟩
    have hn2:2<=n:=by omega
    obtain⟨xt,hxt⟩:=AL (l:=m) (i:=n-1) (by omega);have hxtb:=hxt;rw[hm] at hxtb;have hxt1:n-1+1=(AS b).length:=by rw[<-hm];omega
    have hxt0:=KC hxtb hxt1;have hsp:=MY (x:=xt.toNat) (by omega);have hbw:=Nx hxtb hxt1 hsp.1 hsp.2.1 hsp.2.2;have h32:=Um (x:=xt.toNat) (by have:=xt.toNat_lt;omega);obtain⟨s,hs⟩:∃s,s=32-Ce xt.toNat:=⟨_,rfl⟩
    intro n60 h60;conv=>cbv
    refine AI ?_;have e60s:n60=(s:Int):=by omega
    have hs60:AR n60 s:=⟨e60s⟩;obtain⟨z63,hz631,hz632⟩:=IF (N:=AE l*2^s) (k:=l.length+1) (Mx l);obtain⟨zn63,hzn63⟩:∃k,k=z63.length:=⟨_,rfl⟩
    refine AB hE (RO hs60 (by omega) hz631 hz632 hzn63 (by omega)) ?_;conv=>cbv
    obtain⟨z66,hz661,hz662⟩:=IF (N:=AE m*2^s) (k:=m.length+1) (Mx m);refine AB hE (Ct (RO hs60 (by omega) hz661 hz662 rfl (by omega))) ?_;conv=>cbv
    obtain⟨w67,hw67⟩:=xU (AS (AE m*2^s));refine AB hE (Hw hz662 hw67) ?_;conv=>cbv
    obtain⟨hwl,hwV⟩:=WT (b:=b) (n:=n) (s:=s) (x:=xt) (k:=Ce xt.toNat) (by rw[<-hm,hn]) (by omega) hxtb hsp.1 hsp.2.1 hsp.2.2 h32 hs;obtain⟨V,hVw⟩:∃V,V=AE w67:=⟨_,rfl⟩
    have hV:V=b*2^s:=by rw[hVw,hw67,Aw,hm,Aw]
    have hyV:w67=AS V:=by rw[hV,hw67,hm,Aw]
    have hwn:w67.length=n:=by rw[hyV,hV];exact hwl
    rw[<-hV] at hwV;intro n69 h69;have e69:=h69.eq;have f69:=h69.le;conv=>cbv
    refine⟨fun _=>⟨by omega,by omega,by show _*4<=140737488355328;omega⟩,?_⟩;intro k70 (l70:List UInt32) ql70;have hk70:=ql70.1;have hl70:l70=List.replicate k70 (0:el .u32):=ql70.2;have gl70:l70.length=k70:=by rw[hl70,List.length_replicate]
    conv=>cbv
    intro n72 h72;have e72:=h72.eq;have f72:=h72.le;conv=>cbv
    intro n74 h74;have e74:=h74.eq;have f74:=h74.le;conv=>cbv
    obtain⟨A,hA⟩:∃A,A=AE z63:=⟨_,rfl⟩
    have hVpos:0<V:=by rw[hV];exact Nat.mul_pos hb (Nat.two_pow_pos s)
    have hk70:k70=l.length:=by omega
    have hk70n:n<=k70:=by omega
    have hzl:zn63=l.length+1/\z63.length=l.length+1:=by omega
    have hs31:s<=31:=by omega
    have hstart:AE (z63.drop (k70-n+1))<V:=Wt hz632 hs31 hz631 (by omega) (by omega) hwV;intro n75 h75;conv=>cbv
    refine AI ?_;refine .inr ?_
    obtain⟨J0,hJ0⟩:∃J:List AV->List AG->Nat->Prop,J=fun vs bl k=>∃(u q:List UInt32) (j':Nat) (i:Int),vs=[.one (.int .i64 n60),.one (.AQ .u32 63 0 0 zn63),.one (.sl .u32 w67),.one (.AQ .u32 70 0 0 k70),.one (.int .i64 i)]/\
     bl=[.arr 0 .u32 u,.arr 0 .u32 q]/\(u.length=z63.length/\q.length=k70/\AR (i+1) j'/\j'+n<=k70+1)/\AE (u.drop j')<V/\A=AE u+2^(32*j')*AE (q.drop j')*V/\k=j':=⟨_,rfl⟩
    refine⟨[],[10,11,12,13,14],[63,70],J0,⟨k70-n+1,by rw[hJ0];exact⟨z63,l70,k70-n+1,n75,rfl,rfl,⟨rfl,by rw[hl70,List.length_replicate],⟨by omega⟩,by omega⟩,hstart,by rw[hl70,List.drop_replicate,HC];simp[hA],rfl⟩⟩,?_⟩;intro vs bl kk0 hj;rw[hJ0] at hj;obtain⟨u,q,j',i,rfl,rfl,⟨hul,hql,hi,hjl⟩,hlt,hinv,hk0⟩:=hj;conv=>cbv
    clear hr22 h23 k23 hba hml h26 e26 f26 h27 k27 h41 e41 f41 h42 k42 h56 e56 f56 h57 hr59 er59 hn hxt hxtb hxt1 hxt0 hsp hbw h32 hs h60 hz631 hzn63 hz661 hz662 hwl hwV h69 e69 f69 hl70 gl70 h72 e72 f72 h74 e74 f74 hstart h75
    have ei:=hi.eq;intro n77 h77;conv=>cbv
    cases n77 <;> conv=>cbv
    ·have k77:=DI h77;have hnl123:k70<=(q).length:=by omega
     obtain⟨m123,hm123⟩:=xN ((B1 ((q).take k70)).length);obtain⟨hle123,htk123⟩:=D1 hnl123 hm123;refine .inr (.inr (.inl ⟨[],.one (.AQ .u32 0 0 0 m123),.arr 0 .u32 q,fun _=>⟨by first | decide | simp[Be,Bk],trivial⟩,fun _=>⟨Di hE (FP hnl123 (by omega) hm123),rfl,rfl⟩,?_⟩));try conv=>cbv
     have hnl125:zn63<=u.length:=by omega
     obtain⟨m125,hm125⟩:=xN ((B1 (u.take zn63)).length);obtain⟨hle125,htk125⟩:=D1 hnl125 hm125;refine .inr (.inr (.inl ⟨[],.one (.AQ .u32 0 0 0 m125),.arr 0 .u32 u,fun _=>⟨by first | decide | simp[Be,Bk],trivial⟩,fun _=>⟨Di hE (FP hnl125 (by omega) hm125),rfl,rfl⟩,?_⟩));try conv=>cbv
     obtain⟨w127,hw127⟩:=xU (AS (AE (u.take m125)/2^s));refine .inr (.inr (.inr (.inl ⟨63,.arr 0 .u32 u,[.one (.AQ .u32 0 0 0 m125),.one (.int .i64 n60)],.one (.sl .u32 w127),fun _=>⟨rfl,⟨⟨⟨rfl,rfl⟩,rfl⟩,rfl,trivial⟩⟩,fun _=>FL hE (Ym (by omega) (by omega) hs60 (by omega) hw127),?_⟩)));try conv=>cbv
     have hj0:j'=0:=by omega
     rw[hj0,List.drop_zero] at hlt;have hinv2:A=AE u+AE q*V:=by rw[hj0] at hinv;simpa using hinv
     have hA2:A=a*2^s:=by rw[hA,hz632,hl,Aw]
     obtain⟨e1,e2⟩:=S5 hA2 hV hinv2 hlt hb;have hum:AE (u.take m125)=AE u:=by rw[htk125,Aw,List.take_of_length_le (by omega)]
     exact AD ⟨⟨rfl,.inl ⟨_,rfl,by omega,congrArg _ (by rw[List.drop_zero,htk123,<-hql,List.take_length,e1,hz1])⟩,trivial⟩,⟨rfl,congrArg _ (by rw[hz2,hw127,hum,e2]),trivial⟩,trivial⟩
    have k77:=DJ h77;refine .inr ?_;obtain⟨i',rfl⟩:∃i',j'=i'+1:=⟨j'-1,by omega⟩
    obtain⟨R,hRd⟩:∃R,R=AE (u.drop i'):=⟨_,rfl⟩
    have hVlt:V<2^(32*n):=by have:=CI w67;rw[<-hVw,hwn] at this;exact this
    have h0:AE (u.drop (i'+n+1))=0:=by have:=OX (l:=u.drop (i'+1)) (n:=n) (by omega) (by rw[List.length_drop];omega);rwa [List.drop_drop,show i'+1+n=i'+n+1 by omega] at this
    have hRV:R<4294967296*V:=by obtain⟨xi,hxi⟩:=AL (l:=u) (i:=i') (by omega);rw[hRd,DH hxi];have:=xi.toNat_lt;omega
    rintro n84 ⟨e84,f84⟩;conv=>cbv
    intro n85 h85;conv=>cbv
    refine AI ?_;intro n86 h86;conv=>cbv
    refine AI ?_;refine⟨fun _=>⟨by omega,by omega,by omega⟩,?_⟩;rintro a87 b87 ⟨ha87,hb87⟩;conv=>cbv
    rintro o87 c87 ⟨ho87,hc87⟩;conv=>cbv
    have ho87b:o87=i':=by omega
    have hc87b:c87=n+1:=by omega
    have hseg:AE ((u.drop o87).take c87)=R:=by rw[ho87b,hc87b,hRd];exact WC (by omega) h0
    obtain⟨r92,hr92⟩:∃n:Int,AR n (R/V):=⟨_,⟨rfl⟩⟩
    have er92:=hr92.eq;have hqw:R/V<4294967296:=(Nat.div_lt_iff_lt_mul hVpos).2 hRV;obtain⟨Qd,hQd⟩:∃d,d=R/V:=⟨_,rfl⟩
    rw[<-hQd] at er92 hqw;obtain⟨w93,hw93⟩:=xU (AS (R/V*V));refine .inr (.inr (.inr (.inl ⟨63,.arr 0 .u32 u,[.one (.AQ .u32 0 0 o87 c87),.one (.sl .u32 w67)],.AJ [(false,[.int .u32 r92]),(false,[.sl .u32 w93])],fun _=>⟨rfl,⟨⟨⟨rfl,rfl⟩,rfl⟩,rfl,trivial⟩⟩,fun _=>FL hE (Yo (n':=n-1) hseg (by omega) (by omega) hyV (by omega) (by omega) hRV hr92 hw93),?_⟩)));try conv=>cbv
    refine AH ?_;intro j97 hj97;conv=>cbv
    obtain⟨w97,hw97⟩:=B4 (n:=r92) (by omega);have ew97:=hw97.eq;have fw97:=hw97.lt;refine⟨w97,fun _=>⟨by show _<List.length (α:=UInt32) q;(first | omega | (simp;omega)),B3 hw97⟩,?_⟩;intro (l97:List UInt32) (hl97:l97=List.set (α:=UInt32) q j97 w97);have gl97:l97.length=q.length:=by rw[hl97,List.length_set]
    conv=>cbv
    have hnl99:c87<=(u.drop o87).length:=by rw[List.length_drop];omega
    obtain⟨m99,hm99⟩:=xN ((B1 ((u.drop o87).take c87)).length);obtain⟨hle99,htk99⟩:=D1 hnl99 hm99;refine .inr (.inr (.inl ⟨[],.one (.AQ .u32 0 0 o87 m99),.arr 0 .u32 u,fun _=>⟨by first | decide | simp[Be,Bk],trivial⟩,fun _=>⟨Di hE (RT (by omega) (by omega) hm99),rfl,rfl⟩,?_⟩));try conv=>cbv
    have hdm:=Nat.div_add_mod R V;have hmlt:=Nat.mod_lt R hVpos;have hsub:R-R/V*V=R%V:=by rw[Nat.mul_comm];omega
    obtain⟨w101,hw101⟩:=xU (AS (R%V));refine .inr (.inr (.inr (.inl ⟨63,.arr 0 .u32 u,[.one (.AQ .u32 0 0 o87 m99),.one (.sl .u32 w93)],.one (.sl .u32 w101),fun _=>⟨rfl,⟨⟨⟨rfl,rfl⟩,rfl⟩,rfl,trivial⟩⟩,fun _=>FL hE (Y2 (a:=R) (b:=R/V*V) rfl (by omega) (by rw[htk99,hseg]) hw93 (by rw[hw101,hsub]) (by rw[Nat.mul_comm];omega) (by omega)),?_⟩)));try conv=>cbv
    refine .inr ?_
    obtain⟨J1,hJ1⟩:∃J:List AV->List AG->Nat->Prop,J=fun vs bl k=>∃(z:List UInt32) (k':Nat) (j:Int),vs=[.one (.int .i64 n60),.one (.AQ .u32 63 0 0 zn63),.one (.sl .u32 w67),.one (.AQ .u32 70 0 0 k70),.one (.int .i64 i),.one (.AQ .u32 63 0 o87 c87),.one (.sl .u32 w101),.one (.int .i64 j)]/\
     bl=[.arr 0 .u32 z,.arr 0 .u32 l97]/\(z.length=u.length/\z.take i'=u.take i'/\z.drop (i'+(n+1))=u.drop (i'+(n+1))/\AR j k'/\k'<=n+1)/\AE ((z.drop i').take k')=AE (w101.take k')/\k=n+1-k':=⟨_,rfl⟩
    refine⟨[],[10,11,12,13,14,15,18,19],[63,70],J1,⟨n+1-0,by rw[hJ1];exact⟨u,0,0,rfl,rfl,⟨rfl,rfl,rfl,Ak 0,by omega⟩,by simp[AE],rfl⟩⟩,?_⟩;intro vs bl kk1 hj;rw[hJ1] at hj;obtain⟨z,k',j,rfl,rfl,⟨hzl1,hzt,hzd,hj,hkl⟩,hzv,hk1⟩:=hj;conv=>cbv
    have ej:=hj.eq;intro n104 h104;have e104:=h104.eq;conv=>cbv
    intro n105 h105;conv=>cbv
    cases n105 <;> conv=>cbv
    ·have k105:=AY h105;intro n79 h79;conv=>cbv
     refine AI ?_;refine⟨i',?_,?_⟩
     ·omega
     rw[hJ0];have hk2:k'=n+1:=by omega
     rw[hk2] at hzv;have hwl:w101.length<=n+1:=by rw[hw101];have:=Df (Nat.le_of_lt hmlt);rw[<-hyV] at this;omega
     rw[DA (l:=w101) hwl,hw101,Aw] at hzv;have hwq:w97.toNat=R/V:=by rw[<-hQd];omega
     obtain⟨g1,g2⟩:=Vt (u:=u) (z:=z) (A:=A) (V:=V) (i:=i') (n:=n) (Q:=AE (q.drop (i'+1))) (q:=w97.toNat) hzl1 hzt hzd (by omega) h0 (by rw[hwq,hRd]) (by rw[hzv,hRd]) hinv;refine⟨z,l97,i',n79,rfl,rfl,⟨by omega,by omega,⟨by omega⟩,by omega⟩,?_,?_,rfl⟩
     ·rw[g1];exact Nat.mod_lt _ hVpos
     rw[hl97,show j97=i' by omega,DH (l:=q.set i' w97) (i:=i') (x:=w97) (by rw[List.getElem?_set_self (by omega)]),List.drop_set_of_lt (by omega)];exact g2
    have k105:=AZ h105;refine .inr ?_;refine AH ?_;intro j110 hj110;conv=>cbv
    obtain⟨w110,hw110⟩:=B4 (n:=0) (by omega);have ew110:=hw110.eq;have fw110:=hw110.lt;refine⟨w110,fun _=>⟨by show _<List.length (α:=UInt32) z;(first | omega | (simp;omega)),B3 hw110⟩,?_⟩;intro (l110:List UInt32) (hl110:l110=List.set (α:=UInt32) z j110 w110);have gl110:l110.length=z.length:=by rw[hl110,List.length_set]
    conv=>cbv
    rintro n113 ⟨e113,f113⟩;conv=>cbv
    intro n114 h114;conv=>cbv
    refine .inr ?_;cases n114 <;> conv=>cbv
    ·have k114:=AY h114;intro n107 h107;conv=>cbv
     refine AI ?_;refine⟨n+1-(k'+1),?_,?_⟩
     ·omega
     rw[hJ1];refine⟨l110,k'+1,n107,rfl,rfl,⟨by omega,?_,?_,⟨by omega⟩,by omega⟩,?_,rfl⟩
     ·rw[hl110,show j110=i'+k' by omega];rw[Gi];exact hzt
     ·rw[hl110,show j110=i'+k' by omega,List.drop_set_of_lt (by omega)];exact hzd
     rw[hl110,show j110=i'+k' by omega,WD (by omega),Dp,List.length_take,List.length_drop,Nat.min_eq_left (by omega),hzv,DA (l:=w101) (i:=k'+1) (by omega),DA (l:=w101) (i:=k') (by omega),show w110.toNat=0 by omega,Nat.mul_zero,Nat.add_zero]
    have k114:=AZ h114;obtain⟨x119,hx119⟩:=AL (l:=w101) (i:=k') (by omega);refine⟨x119,fun _=>⟨by omega,by rw[show (j).toNat=k' by omega];exact hx119⟩,?_⟩;try conv=>cbv
    intro n120 h120;have e120:=h120.eq;have f120:=h120.lt;conv=>cbv
    refine AH ?_;intro j121 hj121;conv=>cbv
    obtain⟨w121,hw121⟩:=B4 (n:=n120) (by omega);have ew121:=hw121.eq;have fw121:=hw121.lt;refine⟨w121,fun _=>⟨by show _<List.length (α:=UInt32) l110;(first | omega | (simp;omega)),B3 hw121⟩,?_⟩;intro (l121:List UInt32) (hl121:l121=List.set (α:=UInt32) l110 j121 w121);have gl121:l121.length=l110.length:=by rw[hl121,List.length_set]
    conv=>cbv
    intro n107 h107;conv=>cbv
    refine AI ?_;refine⟨n+1-(k'+1),?_,?_⟩
    ·omega
    rw[hJ1];refine⟨l121,k'+1,n107,rfl,rfl,⟨by omega,?_,?_,⟨by omega⟩,by omega⟩,?_,rfl⟩
    ·rw[hl121,hl110,show j121=j110 by omega,List.set_set,show j110=i'+k' by omega];rw[Gi];exact hzt
    ·rw[hl121,hl110,show j121=j110 by omega,List.set_set,show j110=i'+k' by omega,List.drop_set_of_lt (by omega)];exact hzd
    rw[hl121,hl110,show j121=j110 by omega,List.set_set,show j110=i'+k' by omega,WD (by omega),Dp,List.length_take,List.length_drop,Nat.min_eq_left (by omega),hzv,CB hx119,show w121.toNat=x119.toNat by omega]
   have k42:=AO h42;obtain⟨x46,hx46⟩:=AL (l:=m) (i:=0) (by omega);refine⟨x46,fun _=>⟨by omega,hx46⟩,?_⟩;try conv=>cbv
   intro n47 h47;have e47:=h47.eq;have f47:=h47.lt;conv=>cbv
   have hb46:b=x46.toNat:=by have:=CB hx46;rw[show 0+1=m.length by omega,List.take_length,hm,Aw] at this;simpa [AE] using this
   obtain⟨w48,hw48⟩:=xU (AS (AE l/b));obtain⟨r48,hr48⟩:∃n:Int,AR n (AE l%b):=⟨_,⟨rfl⟩⟩
   have er48:=hr48.eq;have hrb:=Nat.mod_lt (AE l) hb;refine AB hE (RG (d:=n47) (b:=b) (AR.of (by omega)) hb (by omega) hw48 hr48 (by omega)) ?_;conv=>cbv
   intro C3 h53;conv=>cbv
   have h53:=wrap_u64 h53;obtain⟨w54,hw54⟩:=xU (AS (AE l%b));refine AB (r:= .one (.sl .u32 w54)) hE (Jw (AR.of (k:=AE l%b) (by generalize AE l%b=Q at *;omega)) (by generalize AE l%b=Q at *;omega) hw54) ?_;try conv=>cbv
   exact AD ⟨⟨rfl,congrArg _ (by rw[hz1,hw48,hl,Aw]),trivial⟩,⟨rfl,congrArg _ (by rw[hz2,hw54,hl,Aw]),trivial⟩,trivial⟩
  have k27:=F5 h27;obtain⟨r29,hr29⟩:∃n:Int,AR n (a):=⟨_,⟨rfl⟩⟩
  have er29:=hr29.eq;refine AB (r:= .one (.int .u64 r29)) hE (RP (by omega) (by rw[hl,Aw];exact hr29)) ?_;try conv=>cbv
  obtain⟨r31,hr31⟩:∃n:Int,AR n (b):=⟨_,⟨rfl⟩⟩
  have er31:=hr31.eq;refine AB (r:= .one (.int .u64 r31)) hE (RP (by omega) (by rw[hm,Aw];exact hr31)) ?_;try conv=>cbv
  have ha64:a<18446744073709551616:=by have:=CI l;rw[hl,Aw] at this;exact Nat.lt_of_lt_of_le this (Nat.pow_le_pow_right (by decide) (by rw[<-hl];omega:32*(AS a).length<=64))
  intro n34 h34;conv=>cbv
  refine AH ?_;have h34:=wrap_u64 h34;have bq:=Nat.div_le_self a b;have h34:n34=((a/b:Nat):Int):=by rw[h34,er29,er31,<-Int.natCast_ediv];generalize a/b=Q at *;omega
  obtain⟨w35,hw35⟩:=xU (AS (a/b));refine AB (r:= .one (.sl .u32 w35)) hE (Jw (AR.of (k:=a/b) h34) (by generalize a/b=Q at *;omega) hw35) ?_;try conv=>cbv
  intro n38 h38;conv=>cbv
  refine AH ?_;have br:=Nat.mod_lt a hb;have h38:n38=((a%b:Nat):Int):=by rw[h38,er29,er31];exact (Int.natCast_emod _ _).symm
  obtain⟨w39,hw39⟩:=xU (AS (a%b));refine AB (r:= .one (.sl .u32 w39)) hE (Jw (AR.of (k:=a%b) h38) (by generalize a%b=Q at *;omega) hw39) ?_;try conv=>cbv
  refine g2 rfl ?_;exact AD ⟨⟨rfl,congrArg _ (by rw[hz1,hw35]),trivial⟩,⟨rfl,congrArg _ (by rw[hz2,hw39]),trivial⟩,trivial⟩
 have k23:=AZ h23;have hlt:a<b:=by rw[hr22] at k23;have:=HU k23;omega
 exact AD ⟨⟨rfl,.inr (.inl ⟨_,congrArg _ (by rw[hz1,Nat.div_eq_of_lt hlt];rfl)⟩),trivial⟩,⟨rfl,congrArg _ (by rw[hz2,Nat.mod_eq_of_lt hlt,hl]),trivial⟩,trivial⟩
end Go.Abs
namespace Go.Abs
open Go.RowKit
variable {b b1 b2 b3:Bool} {l l1 l2 l3:List UInt32} {q x y:Int}
theorem fI (a:y≠0) (h:x=q*y):q=if (decide (x<0) !=decide (y<0))=true then -((x.natAbs/y.natAbs:Nat):Int) else ((x.natAbs/y.natAbs:Nat):Int):=by
 have f:x.natAbs/y.natAbs=q.natAbs:=by rw[h,Int.natAbs_mul,Nat.mul_div_cancel _ (by omega)]
 rw[f];rcases Int.lt_trichotomy q 0 with d | d | d
 ·rcases Int.lt_or_gt_of_ne a with a | a
  ·have:=Int.mul_pos_of_neg_of_neg d a;rw[decide_eq_false (by omega:¬x<0),decide_eq_true a];simp;omega
  have:=Int.mul_neg_of_neg_of_pos d a;rw[decide_eq_true (by omega:x<0),decide_eq_false (by omega:¬y<0)];simp;omega
 ·subst d
  split <;> simp
 rcases Int.lt_or_gt_of_ne a with a | a
 ·have:=Int.mul_neg_of_pos_of_neg d a;rw[decide_eq_true (by omega:x<0),decide_eq_true a];simp;omega
 have:=Int.mul_pos d a;rw[decide_eq_false (by omega:¬x<0),decide_eq_false (by omega:¬y<0)];simp;omega
theorem YJ (j:Af x b1 l1) (k:Af y b2 l2) (v:y≠0) (i:x=q*y) (H:Af q b3 l3) (s1:l1.length<=17592186043000) (s2:l2.length<=17592186043000):CF 332 [.agg (BC b1 l1),.agg (BC b2 l2)] (.AJ [(true,(BC b3 l3)),(true,[.bool false,.sl .u32 []]),(false,[.int .i64 0])]):=by
 refine AM Tryz.func332 fun E g=>?_
 conv=>cbv
 refine AB g (Gr j) ?_;conv=>cbv
 refine AB g (Gr k) ?_;conv=>cbv
 refine g2 rfl ?_;rintro O ⟨N,f17⟩;conv=>cbv
 intro J m;conv=>cbv
 cases J <;> conv=>cbv
 ·have I:=AN m;obtain⟨S,h⟩:=xU (AS (x.natAbs/y.natAbs));obtain⟨R,t⟩:=xU (AS (x.natAbs%y.natAbs));refine AB g (RH j.BD k.BD (by omega) h t (by omega)) ?_;conv=>cbv
  intro P F;conv=>cbv
  refine AB (r:= .agg [.bool b3,.sl .u32 l3]) g (Fs (by rw[h,Aw,F,j.neg,k.neg];exact fI v i) H) ?_;try conv=>cbv
  obtain⟨A,C,f⟩:=AW (x);refine AB (r:= .agg [.bool A,.sl .u32 C]) g (DF H k (i ▸ f) (by rw[H.BD];have:=Df (show q.natAbs<=x.natAbs by rw[i,Int.natAbs_mul];exact Nat.le_mul_of_pos_right _ (by omega));rw[<-j.BD] at this;omega) (by omega)) ?_;try conv=>cbv
  obtain⟨B,D,a⟩:=AW (0);refine AB (r:= .agg [.bool B,.sl .u32 D]) g (Q8 j f (by rw[Int.sub_self];exact a) (by omega) (by rw[f.BD,<-j.BD];omega)) ?_;try conv=>cbv
  refine g2 rfl ?_;obtain⟨L,d⟩:=xI (B7 (0:Int));refine AB g (Hu a d) ?_;conv=>cbv
  obtain⟨M,s⟩:=xI (B7 y);refine AB g (Hu k s) ?_;conv=>cbv
  have em:L*M=0:=by rw[d,show B7 (0:Int)=0 from rfl,Int.zero_mul]
  intro Q G;conv=>cbv
  refine AI ?_;intro K p;conv=>cbv
  refine g2 rfl ?_;refine .inr ?_;cases K <;> conv=>cbv
  ·have w:=AY p;refine g2 rfl ?_;exact AD ⟨t3,⟨rfl,congrArg _ ((a.neg.trans rfl).symm),congrArg _ ((a.BD.trans rfl).symm),trivial⟩,t2,trivial⟩
  have w:=AZ p;exact absurd w (by rw[G,d];show ¬_*_<0;rw[show B7 (0:Int)=0 from rfl,Int.zero_mul];decide)
 have I:=AO m;exact absurd (k.Eo.1 (by omega)) v
theorem Fp (t:Af x b1 l1) (w:Af y b2 l2) (L:Af ((Nat.gcd x.natAbs y.natAbs:Nat):Int) b3 l3) (s1:l1.length<=17592186043000) (s2:l2.length<=17592186043000):CF 198 [.agg (BC b1 l1),.agg (BC b2 l2)] (.agg (BC b3 l3)):=by
 refine AM Tryz.func198 fun E m=>?_
 conv=>cbv
 refine AB m (Hw t.nat t.BD) ?_;conv=>cbv
 refine AB m (Hw w.nat w.BD) ?_;conv=>cbv
 refine g2 rfl ?_;refine .inr ?_;obtain⟨I,f⟩:=xJ fun vs F k=>∃(u v:List UInt32) (A B:Nat),vs=[.one (.Ae 4 0 0),.one (.sl .u32 u),.one (.sl .u32 v)]/\F=[.var 0 [.bool false,.nil]]/\(u=AS A/\v=AS B/\Nat.gcd A B=Nat.gcd x.natAbs y.natAbs/\u.length<=17592186043000/\v.length<=17592186043000)/\k=B
 refine⟨[],[4,5,6],[4],I,⟨y.natAbs,by rw[f];exact⟨l1,l2,x.natAbs,y.natAbs,rfl,rfl,⟨t.BD,w.BD,rfl,s1,s2⟩,rfl⟩⟩,?_⟩;intro vs F M H;rw[f] at H;obtain⟨u,v,A,B,rfl,rfl,⟨hu,g,G,K,s⟩,p⟩:=H;conv=>cbv
 rintro N ⟨J,f16⟩;conv=>cbv
 intro C h;conv=>cbv
 cases C <;> conv=>cbv
 ·have B0:=Bf h;have i:B=0:=Dx.1 (by rw[<-g];exact List.eq_nil_of_length_eq_zero (by omega));refine AB (r:= .agg [.bool b3,.sl .u32 l3]) m (Fs (n:=false) (by rw[hu,Aw,<-G,i,Nat.gcd_zero_right];rfl) L) ?_;try conv=>cbv
  exact AD ⟨t3,trivial⟩
 have B0:=Bg h;refine .inr ?_;have d:0<B:=by apply Nat.pos_of_ne_zero;intro e;rw[e,E5] at g;rw[g] at *;simp at *;omega
 obtain⟨O,j⟩:=xU (AS (A/B));obtain⟨D,a⟩:=xU (AS (A%B));refine AB m (RH hu g d j a (by omega)) ?_;conv=>cbv
 refine⟨A%B,?_,?_⟩
 ·rw[p];exact Nat.mod_lt _ d
 rw[f];exact⟨v,D,B,A%B,rfl,rfl,⟨g,a,by rw[<-G,Nat.gcd_comm B,<-Nat.gcd_rec,Nat.gcd_comm],s,by have:=Df (Nat.le_of_lt (Nat.mod_lt A d));rw[<-a,<-g] at this;omega⟩,rfl⟩
theorem YG {c:Int} (a:Af x b l) (f:AR c (Ce x.natAbs)) (sl:l.length<=17592186043000):CF 396 [.agg (BC b l)] (.one (.int .i64 c)):=by
 refine AM Tryz.func396 fun E d=>?_
 conv=>cbv
 refine AB d (Hw a.nat a.BD) ?_;conv=>cbv
 refine AB d (RJ a.BD f (by omega)) ?_;conv=>cbv
 exact AD ⟨t2,trivial⟩
theorem RD (f:Af x b l):CF 195 [.agg (BC b l)] (.one (.bool true)):=by
 refine AM Tryz.func195 fun E r=>?_
 conv=>cbv
 refine AB r (Hw f.nat f.BD) ?_;conv=>cbv
 rintro D ⟨A,f6⟩;conv=>cbv
 rintro F ⟨B,f9⟩;conv=>cbv
 intro j d;conv=>cbv
 cases j <;> conv=>cbv
 ·have h:=AN d;refine g2 rfl ?_
  exfalso;omega
 have h:=AO d;intro k a;conv=>cbv
 cases k <;> conv=>cbv
 ·have i:=CN a;rintro v ⟨p,f18⟩;conv=>cbv
  intro w g;conv=>cbv
  refine g2 rfl ?_;exact AD ⟨⟨rfl,congrArg _ (by have s:b=true:=(by cases b with | false=>cases a | true=>rfl);have m:=f.neg;rw[s] at m;have t:x<0:=of_decide_eq_true m.symm;have C:l.length≠0:=(fun e=>by have:=f.Eo.1 e;omega);rw[g,decide_eq_true (by omega)]),trivial⟩,trivial⟩
 have i:=CO a;refine g2 rfl ?_;exact AD ⟨t2,trivial⟩
end Go.Abs
