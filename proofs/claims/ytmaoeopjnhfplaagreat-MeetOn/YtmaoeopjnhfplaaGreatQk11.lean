/- Part 12 of a proof. Conditions: each theorem's own. -/
import Derived.Test.YtmaoeopjnhfplaaGreatQk10
set_option linter.all false
set_option maxHeartbeats 8000000
set_option maxRecDepth 20000
open Go.Proofs
namespace Go.Abs
open Go.RowKit
variable {a b i:Nat} {l m z:List UInt32}
theorem Ql {x y:UInt32} (h:l[i]? =some x) (r:m[i]? =some y) (C:l.length=m.length) (he:AI (l.drop (i+1))=AI (m.drop (i+1))) (f:x≠y):
  Bv x.toNat y.toNat=Bv (AI l) (AI m):=by
 have u:=Gs h;have j:=Gj l (i+1) (by omega);have g:=Gj m (i+1) (by omega);rw[Cq h] at j;rw[Cq r] at g;have b1:=Cy (l.take i);have b2:=Cy (m.take i);rw[List.length_take,Nat.min_eq_left (by omega)] at b1 b2;rw[<-he] at g
 generalize AI (l.drop (i+1))=D at*
 generalize AI (l.take i)=A at*
 generalize AI (m.take i)=B at*
 generalize 2^(32*(i+1))*D=Q at*
 generalize t:2^(32*i)=P at*
 have k:x.toNat≠y.toNat:=fun e=>f (UInt32.toNat_inj.1 e)
 by_cases d:x.toNat<y.toNat
 ·have:P*(x.toNat+1)<=P*y.toNat:=Nat.mul_le_mul_left _ d;rw[Nat.mul_add] at this;have:AI l<AI m:=by omega
  unfold Bv;rw[if_pos (by omega),if_pos (by omega)]
 have:P*(y.toNat+1)<=P*x.toNat:=Nat.mul_le_mul_left _ (by omega);rw[Nat.mul_add] at this;have:AI m<AI l:=by omega
 unfold Bv;rw[if_neg (by omega),if_pos (by omega),if_neg (by omega),if_pos (by omega)]
theorem Qk (h:(AW a).length≠(AW b).length):Bv (AW a).length (AW b).length=Bv a b:=by
 by_cases d:(AW a).length<(AW b).length
 ·have:a<b:=by
   apply Classical.byContradiction;intro f;have:=FB (a:=b) (b:=a);omega
  unfold Bv;rw[if_pos (by omega),if_pos (by omega)]
 have:b<a:=by
  apply Classical.byContradiction;intro f;have:=FB (a:=a) (b:=b);omega
 unfold Bv;rw[if_neg (by omega),if_pos (by omega),if_neg (by omega),if_pos (by omega)]
theorem drop_eq {x:UInt32} (d:l[i]? =some x) (f:m[i]? =some x) (he:AI (l.drop (i+1))=AI (m.drop (i+1))):AI (l.drop i)=AI (m.drop i):=by
 have g:=Gs d;have h:=Gs f;rw[List.drop_eq_getElem_cons g,List.drop_eq_getElem_cons h,AI,AI,he];rw[List.getElem?_eq_getElem g] at d;rw[List.getElem?_eq_getElem h] at f;rw[Option.some.inj d,Option.some.inj f]
theorem N4 {c:Int} (U:l=AW a) (hm:m=AW b) (hc:c=Bv a b):CF 321 [.one (.sl .u32 l),.one (.sl .u32 m)] (.one (.int .i64 c)):=by
 refine AO Tryz.func321 fun E hE=>?_
 conv=>cbv
 rintro n7 ⟨e7,f7⟩;conv=>cbv
 rintro n9 ⟨e9,f9⟩;conv=>cbv
 intro X K;conv=>cbv
 cases X <;> conv=>cbv
 ·have Q:=DQ K;rintro an ⟨ad,f17⟩;conv=>cbv
  intro a1 ah;conv=>cbv
  refine AQ ?_;refine .inr ?_;obtain⟨J0,I⟩:=xJ fun vs bl k=>∃(j:Int) (k':Nat),vs=[.one (.sl .u32 l),.one (.sl .u32 m),.one (.int .i64 j)]/\(Ag (j+1) k'/\k'<=l.length/\l.length=m.length/\AI (l.drop k')=AI (m.drop k'))/\k=k'
  refine⟨[],[0,1,5],[],J0,⟨l.length,by rw[I];exact⟨a1,l.length,rfl,⟨⟨by omega⟩,by omega,by omega,by rw[List.drop_length,show l.length=m.length by omega,List.drop_length]⟩,rfl⟩⟩,?_⟩;intro vs bl al T;rw[I] at T;obtain⟨j,k',rfl,⟨T,aj,P,S⟩,ak⟩:=T;conv=>cbv
  have ej:=T.eq;intro a2 L;conv=>cbv
  cases a2 <;> conv=>cbv
  ·have W:=F0 L;have hk:k'=0:=by omega
   have he:a=b:=by rw[hk] at S;simpa [U,hm,BW] using S
   exact AF ⟨⟨rfl,congrArg _ (by rw[hc,he];simp[Bv]),trivial⟩,trivial⟩
  have W:=F1 L;refine .inr ?_;obtain⟨g,d⟩:=AS (l:=l) (i:=(j).toNat) (by omega);refine⟨g,fun _=>⟨by omega,d⟩,?_⟩;try conv=>cbv
  intro ao M;have J:=M.eq;have f26:=M.lt;conv=>cbv
  obtain⟨h,f⟩:=AS (l:=m) (i:=(j).toNat) (by omega);refine⟨h,fun _=>⟨by omega,f⟩,?_⟩;try conv=>cbv
  intro aq N;have ae:=N.eq;have f30:=N.lt;conv=>cbv
  intro a6 O;conv=>cbv
  refine g2 rfl ?_;cases a6 <;> conv=>cbv
  ·have R:=DQ O;intro a5 ai;conv=>cbv
   refine AQ ?_;refine⟨k'-1,?_,?_⟩
   ·omega
   rw[I];obtain⟨i',rfl⟩:∃i',k'=i'+1:=⟨k'-1,by omega⟩
   refine⟨a5,i',rfl,⟨⟨by omega⟩,by omega,P,?_⟩,by omega⟩;have J:g=h:=UInt32.toNat_inj.1 (by omega);subst J;exact drop_eq (i:=i') (by rw[<-d];congr 1;omega) (by rw[<-f];congr 1;omega) S
  have R:=DR O;obtain⟨r,B⟩:=AS (l:=l) (i:=(j).toNat) (by omega);refine⟨r,fun _=>⟨by omega,B⟩,?_⟩;try conv=>cbv
  intro a7 G;have af:=G.eq;have f35:=G.lt;conv=>cbv
  obtain⟨t,C⟩:=AS (l:=m) (i:=(j).toNat) (by omega);refine⟨t,fun _=>⟨by omega,C⟩,?_⟩;try conv=>cbv
  intro a8 H;have ag:=H.eq;have f39:=H.lt;conv=>cbv
  obtain⟨au,A⟩:=xI (Bv a7 a8);refine AB hE (bc A) ?_;conv=>cbv
  refine g2 rfl ?_;obtain⟨i',rfl⟩:∃i',k'=i'+1:=⟨k'-1,by omega⟩
  have e1:l[i']? =some r:=by rw[<-B];congr 1;omega
  have e2:m[i']? =some t:=by rw[<-C];congr 1;omega
  have e3:l[i']? =some g:=by rw[<-d];congr 1;omega
  have e4:m[i']? =some h:=by rw[<-f];congr 1;omega
  obtain rfl:r=g:=Option.some.inj (e1.symm.trans e3);obtain rfl:t=h:=Option.some.inj (e2.symm.trans e4);have V:r≠t:=fun e=>by subst e;exact R (by omega)
  exact AF ⟨⟨rfl,congrArg _ (by rw[A,hc,G.eq,H.eq,Ql e1 e2 P S V,U,hm,BW,BW]),trivial⟩,trivial⟩
 have Q:=DR K;intro Y D;have aa:=D.eq;have f12:=D.le;conv=>cbv
 intro Z F;have ab:=F.eq;have f14:=F.le;conv=>cbv
 obtain⟨ar,u⟩:=xI (Bv Y Z);refine AB hE (Uj u) ?_;conv=>cbv
 exact AF ⟨⟨rfl,congrArg _ (by rw[u,hc,D.eq,F.eq,U,hm,Qk (by rw[<-U,<-hm];intro e;exact Q (by omega))]),trivial⟩,trivial⟩
theorem Rx (hl:l=AW a) (hm:m=AW b) (hz:z=AW (a-b)) (ad:b<=a) (sl:l.length<=17592186044416):CF 372 [.one (.sl .u32 l),.one (.sl .u32 m)] (.one (.sl .u32 z)):=by
 have af:m.length<=l.length:=by rw[hl,hm];exact FB ad
 refine AO Tryz.func372 fun E hE=>?_
 conv=>cbv
 rintro aC ⟨aq,f11⟩;conv=>cbv
 refine⟨fun _=>⟨by omega,by omega,by show _*4<=140737488355328;omega⟩,?_⟩;intro N (O:List UInt32) I;have ao:=I.1;have u:O=List.replicate N (0:el .u32):=I.2;have an:O.length=N:=by rw[u,List.length_replicate]
 conv=>cbv
 intro aj K;have ar:=K.eq;have f14:=K.le;conv=>cbv
 refine .inr ?_
 obtain⟨J0,D⟩:∃J:List AV->List AR->Nat->Prop,J=fun vs bl k=>∃(o:List UInt32) (n F i':Nat) (c L i:Int),vs=[.one (.sl .u32 l),.one (.sl .u32 m),.one (.AZ .u32 12 0 0 n),.one (.int .u64 c),.one (.sl .u32 l),.one (.int .i64 L),.one (.int .i64 i)]/\
  bl=[.arr 0 .u32 o]/\(o.length=l.length/\n=o.length/\DX L l.length/\Ag i i'/\i'<=l.length/\Ag c F/\F<=1)/\
  AI (o.take i')+AI (m.take i')=AI (l.take i')+2^(32*i')*F/\k=l.length-i':=⟨_,rfl⟩
 refine⟨[],[0,1,5,6,13,14,15],[12],J0,⟨l.length-0,by rw[D];exact⟨O,N,0,0,0,aj,0,rfl,rfl,⟨by rw[u,List.length_replicate];omega,by rw[u,List.length_replicate],K,Bf 0,by omega,Bf 0,by omega⟩,by simp[AI],rfl⟩⟩,?_⟩;intro vs bl aB hj;rw[D] at hj;obtain⟨o,n,F,i',c,L,i,rfl,rfl,⟨ho,hn,hL,hi,ay,hc,ax⟩,hinv,az⟩:=hj;conv=>cbv
 have eL:=hL.eq;have ei:=hi.eq;have ec:=hc.eq;intro ak W;conv=>cbv
 cases ak <;> conv=>cbv
 ·have ag:=BK W;have A:n<=(o).length:=by omega
  obtain⟨ai,G⟩:=xN ((CR ((o).take n)).length);obtain⟨ae,M⟩:=FR A G;refine .inr (.inr (.inl ⟨[],.one (.AZ .u32 0 0 0 ai),.arr 0 .u32 o,fun _=>⟨by first | decide | simp[Ci,Co],trivial⟩,fun _=>⟨E7 hE (Ll A (by omega) G),rfl,rfl⟩,?_⟩));try conv=>cbv
  have hk:i'=l.length:=by omega
  have a7:AI (o.take n)=a-b:=by rw[hk,EJ af,EJ (Nat.le_refl _),hm,hl,BW,BW,<-hl,<-ho,List.take_length] at hinv;have aA:=Cy o;generalize 2^(32*o.length)=P at *;rw[hn,List.take_length];rcases (by omega:F=0\/F=1) with e | e <;> rw[e] at hinv <;> omega
  exact AF ⟨⟨rfl,.inl ⟨_,rfl,by omega,congrArg _ (by rw[List.drop_zero,M,a7,hz])⟩,trivial⟩,trivial⟩
 have ag:=BL W;refine .inr ?_;obtain⟨S,B⟩:=AS (l:=l) (i:=i') (by omega);refine⟨S,fun _=>⟨by omega,by rw[show (i).toNat=i' by omega];exact B⟩,?_⟩;try conv=>cbv
 intro aD X;have au:=X.eq;have f19:=X.lt;conv=>cbv
 intro aE Y;conv=>cbv
 have Y:=wrap_u64 Y;intro aF Z;conv=>cbv
 have Z:=wrap_u64 Z;rintro aG ⟨av,f26⟩;conv=>cbv
 intro al a1;conv=>cbv
 refine .inr ?_;cases al <;> conv=>cbv
 ·have ah:=BK a1;intro Q r;conv=>cbv
  have r:=wrap_u32 r;refine AM ?_;intro C a8;conv=>cbv
  obtain⟨j,f⟩:=CU (n:=Q) (by omega);have T:=f.eq;have U:=f.lt;refine⟨j,fun _=>⟨by show _<List.length (α:=UInt32) o;(first | omega | (simp;omega)),CT f⟩,?_⟩;intro (g:List UInt32) (d:g=List.set (α:=UInt32) o C j);have V:g.length=o.length:=by rw[d,List.length_set]
  conv=>cbv
  intro h t;conv=>cbv
  refine AM ?_;have t:=FI (p:=9223372036854775808) t rfl;intro R ab;conv=>cbv
  refine AQ ?_;refine⟨l.length-(i'+1),?_,?_⟩
  ·omega
  rw[D];refine⟨g,n,h.toNat,i'+1,h,L,R,rfl,rfl,⟨by rw[d,List.length_set];exact ho,by rw[d,List.length_set];exact hn,hL,⟨by omega⟩,by omega,⟨by omega⟩,by omega⟩,?_,rfl⟩;have hs:=K7 (w:=j) (o:=o) (i:=i') (xi:=S.toNat) (yi:=0) (Gd:=F) (Ge:=h.toNat) (by omega) hinv (by omega);rw[d,show C=i' by omega,Cq B,<-hs,EJ (l:=m) (i:=i'+1) (by omega),EJ (l:=m) (i:=i') (by omega),Nat.mul_zero]
  rfl
 have ah:=BL a1;obtain⟨aa,H⟩:=AS (l:=m) (i:=i') (by omega);refine⟨aa,fun _=>⟨by omega,by rw[show (i).toNat=i' by omega];exact H⟩,?_⟩;try conv=>cbv
 intro aH a2;have aw:=a2.eq;have f32:=a2.lt;conv=>cbv
 intro aI a5;conv=>cbv
 have a5:=wrap_u64 a5;intro aJ a6;conv=>cbv
 have a6:=wrap_u64 a6;intro Q r;conv=>cbv
 have r:=wrap_u32 r;refine AM ?_;intro C a8;conv=>cbv
 obtain⟨j,f⟩:=CU (n:=Q) (by omega);have T:=f.eq;have U:=f.lt;refine⟨j,fun _=>⟨by show _<List.length (α:=UInt32) o;(first | omega | (simp;omega)),CT f⟩,?_⟩;intro (g:List UInt32) (d:g=List.set (α:=UInt32) o C j);have V:g.length=o.length:=by rw[d,List.length_set]
 conv=>cbv
 intro h t;conv=>cbv
 refine AM ?_;have t:=FI (p:=9223372036854775808) t rfl;intro R ab;conv=>cbv
 refine AQ ?_;refine⟨l.length-(i'+1),?_,?_⟩
 ·omega
 rw[D];refine⟨g,n,h.toNat,i'+1,h,L,R,rfl,rfl,⟨by rw[d,List.length_set];exact ho,by rw[d,List.length_set];exact hn,hL,⟨by omega⟩,by omega,⟨by omega⟩,by omega⟩,?_,rfl⟩;have hs:=K7 (w:=j) (o:=o) (i:=i') (xi:=S.toNat) (yi:=aa.toNat) (Gd:=F) (Ge:=h.toNat) (by omega) hinv (by omega);rw[d,show C=i' by omega,Cq B,<-hs,Cq H]
theorem nR (hl:l=AW a) (hm:m=AW b) (hz:z=AW (a*b)) (sl:l.length<=17592186044416) (sm:m.length<=17592186044416):CF 323 [.one (.sl .u32 l),.one (.sl .u32 m)] (.one (.sl .u32 z)):=by
 refine AO Tryz.func323 fun E hE=>?_
 conv=>cbv
 rintro n12 ⟨e12,f12⟩;conv=>cbv
 intro n13 h13;conv=>cbv
 cases n13 <;> conv=>cbv
 ·have k13:=BR h13;rintro n16 ⟨e16,f16⟩;conv=>cbv
  intro n17 h17;conv=>cbv
  cases n17 <;> conv=>cbv
  ·have k17:=BR h17;rintro n20 ⟨e20,f20⟩;conv=>cbv
   rintro n22 ⟨e22,f22⟩;conv=>cbv
   intro n23 h23;conv=>cbv
   refine AQ ?_;refine⟨fun _=>⟨by omega,by omega,by show _*4<=140737488355328;omega⟩,?_⟩;intro k24 (l24:List UInt32) ql24;have hk24:=ql24.1;have hl24:l24=List.replicate k24 (0:el .u32):=ql24.2;have gl24:l24.length=k24:=by rw[hl24,List.length_replicate]
   conv=>cbv
   intro n26 h26;have e26:=h26.eq;have f26:=h26.le;conv=>cbv
   refine .inr ?_
   obtain⟨J0,hJ0⟩:∃J:List AV->List AR->Nat->Prop,J=fun vs bl k=>∃(o:List UInt32) (n i':Nat) (L i:Int),vs=[.one (.sl .u32 l),.one (.sl .u32 m),.one (.AZ .u32 24 0 0 n),.one (.sl .u32 l),.one (.int .i64 L),.one (.int .i64 i)]/\
    bl=[.arr 0 .u32 o]/\(o.length=l.length+m.length/\n=o.length/\DX L l.length/\Ag i i'/\i'<=l.length)/\
    AI (o.take (i'+m.length))=AI (l.take i')*AI m/\k=l.length-i':=⟨_,rfl⟩
   refine⟨[],[0,1,5,25,26,27],[24],J0,⟨l.length-0,by rw[hJ0];exact⟨l24,k24,0,n26,0,rfl,rfl,⟨by rw[hl24,List.length_replicate];omega,by rw[hl24,List.length_replicate],h26,Bf 0,by omega⟩,by rw[hl24,List.take_replicate,Ij];simp[AI],rfl⟩⟩,?_⟩;intro vs bl kk0 hj;rw[hJ0] at hj;obtain⟨o,n,i',L,i,rfl,rfl,⟨ho,hn,hL,hi,hiL⟩,hinv,hk0⟩:=hj;conv=>cbv
   have eL:=hL.eq;have ei:=hi.eq;intro n28 h28;conv=>cbv
   cases n28 <;> conv=>cbv
   ·have k28:=BK h28;have hnl74:n<=(o).length:=by omega
    obtain⟨m74,hm74⟩:=xN ((CR ((o).take n)).length);obtain⟨hle74,htk74⟩:=FR hnl74 hm74;refine .inr (.inr (.inl ⟨[],.one (.AZ .u32 0 0 0 m74),.arr 0 .u32 o,fun _=>⟨by first | decide | simp[Ci,Co],trivial⟩,fun _=>⟨E7 hE (Ll hnl74 (by omega) hm74),rfl,rfl⟩,?_⟩));try conv=>cbv
    have hfin:AI (o.take n)=a*b:=by rw[show i'=l.length by omega,List.take_length,hl,hm,BW,BW,<-hl,<-hm,<-ho,List.take_length] at hinv;rw[hn,List.take_length,hinv]
    exact AF ⟨⟨rfl,.inl ⟨_,rfl,by omega,congrArg _ (by rw[List.drop_zero,htk74,hfin,hz])⟩,trivial⟩,trivial⟩
   have k28:=BL h28;refine .inr ?_;obtain⟨x30,hx30⟩:=AS (l:=l) (i:=i') (by omega);refine⟨x30,fun _=>⟨by omega,by rw[show (i).toNat=i' by omega];exact hx30⟩,?_⟩;try conv=>cbv
   intro n31 h31;have e31:=h31.eq;have f31:=h31.lt;conv=>cbv
   intro n33 h33;have e33:=h33.eq;have f33:=h33.le;conv=>cbv
   refine .inr ?_
   obtain⟨J1,hJ1⟩:∃J:List AV->List AR->Nat->Prop,J=fun vs bl k=>∃(o1:List UInt32) (n1 c' k':Nat) (c L1 i1:Int),vs=[.one (.sl .u32 l),.one (.sl .u32 m),.one (.AZ .u32 24 0 0 n1),.one (.int .i64 i),.one (.int .u32 n31),.one (.int .u64 c),.one (.sl .u32 l),.one (.int .i64 L),.one (.int .i64 i),.one (.sl .u32 m),.one (.int .i64 L1),.one (.int .i64 i1)]/\
    bl=[.arr 0 .u32 o1]/\(o1.length=l.length+m.length/\n1=o1.length/\DX L1 m.length/\Ag i1 k'/\k'<=m.length/\Ag c c'/\c'<4294967296)/\
    AI (o1.take (i'+m.length))+2^(32*(i'+k'))*c'=AI (l.take i')*AI m+x30.toNat*2^(32*i')*AI (m.take k')/\k=m.length-k':=⟨_,rfl⟩
   refine⟨[],[0,1,5,6,7,8,25,26,27,32,33,34],[24],J1,⟨m.length-0,by rw[hJ1];exact⟨o,n,0,0,0,n33,0,rfl,rfl,⟨ho,hn,h33,Bf 0,by omega,Bf 0,by omega⟩,by rw[hinv];simp[AI],rfl⟩⟩,?_⟩;intro vs bl kk1 hj;rw[hJ1] at hj;obtain⟨o1,n1,c',k',c,L1,i1,rfl,rfl,⟨ho1,hn1,hL1,hi1,hiL1,hc,hc1⟩,hinv1,hk1⟩:=hj;conv=>cbv
   have eL1:=hL1.eq;have ei1:=hi1.eq;have ec:=hc.eq;intro n35 h35;conv=>cbv
   cases n35 <;> conv=>cbv
   ·have k35:=BK h35;rintro n67 ⟨e67,f67⟩;conv=>cbv
    intro n68 h68;conv=>cbv
    refine AQ ?_;intro n70 h70;conv=>cbv
    have h70:=wrap_u32 h70;refine AM ?_;intro j71 hj71;conv=>cbv
    obtain⟨w71,hw71⟩:=CU (n:=n70) (by omega);have ew71:=hw71.eq;have fw71:=hw71.lt;refine⟨w71,fun _=>⟨by show _<List.length (α:=UInt32) o1;(first | omega | (simp;omega)),CT hw71⟩,?_⟩;intro (l71:List UInt32) (hl71:l71=List.set (α:=UInt32) o1 j71 w71);have gl71:l71.length=o1.length:=by rw[hl71,List.length_set]
    conv=>cbv
    intro n72 h72;conv=>cbv
    refine AQ ?_;refine⟨l.length-(i'+1),?_,?_⟩
    ·omega
    rw[hJ0];refine⟨l71,n1,i'+1,L,n72,rfl,rfl,⟨by rw[hl71,List.length_set];exact ho1,by rw[hl71,List.length_set];exact hn1,hL,⟨by omega⟩,by omega⟩,?_,rfl⟩;have hk:k'=m.length:=by omega
    have hlen:i'+m.length<o1.length:=by omega
    rw[hl71,show i'+1+m.length=i'+m.length+1 by omega,show j71=i'+m.length by omega,Fu hlen,FC,List.length_take,Nat.min_eq_left (by omega),show w71.toNat=c' by omega];rw[hk] at hinv1;rw[hinv1,List.take_length,Cq hx30]
    grind
   have k35:=BL h35;refine .inr ?_;obtain⟨x37,hx37⟩:=AS (l:=m) (i:=k') (by omega);refine⟨x37,fun _=>⟨by omega,by rw[show (i1).toNat=k' by omega];exact hx37⟩,?_⟩;try conv=>cbv
   intro n38 h38;have e38:=h38.eq;have f38:=h38.lt;conv=>cbv
   intro n41 h41;conv=>cbv
   have h41:=wrap_u64 h41;intro n43 h43;conv=>cbv
   have h43:=wrap_u64 h43;have ep:n41*n43=((x30.toNat*x37.toNat:Nat):Int):=by rw[Int.natCast_mul];congr 1 <;> omega
   have bp:x30.toNat*x37.toNat<=4294967295*4294967295:=Nat.mul_le_mul (by omega) (by omega);intro n44 h44;conv=>cbv
   have h44:=wrap_u64 h44;intro n48 h48;conv=>cbv
   refine AQ ?_;refine AM ?_;intro j49 hj49;conv=>cbv
   obtain⟨x50,hx50⟩:=AS (l:=o1) (i:=j49) (by omega);refine⟨x50,fun _=>hx50,?_⟩;try conv=>cbv
   intro n50 h50;have e50:=h50.eq;have f50:=h50.lt;conv=>cbv
   intro E2 h51;conv=>cbv
   have h51:=wrap_u64 h51;intro n52 h52;conv=>cbv
   have h52:=wrap_u64 h52;intro EI h53;conv=>cbv
   have h53:=wrap_u64 h53;intro n57 h57;conv=>cbv
   refine AQ ?_;intro n59 h59;conv=>cbv
   have h59:=wrap_u32 h59;refine AM ?_;intro j60 hj60;conv=>cbv
   obtain⟨w60,hw60⟩:=CU (n:=n59) (by omega);have ew60:=hw60.eq;have fw60:=hw60.lt;refine⟨w60,fun _=>⟨by show _<List.length (α:=UInt32) o1;(first | omega | (simp;omega)),CT hw60⟩,?_⟩;intro (l60:List UInt32) (hl60:l60=List.set (α:=UInt32) o1 j60 w60);have gl60:l60.length=o1.length:=by rw[hl60,List.length_set]
   conv=>cbv
   intro n62 h62;conv=>cbv
   refine AM ?_;have h62:=FI (p:=4294967296) h62 rfl;intro n63 h63;conv=>cbv
   refine AQ ?_;refine⟨m.length-(k'+1),?_,?_⟩
   ·omega
   rw[hJ1];refine⟨l60,n1,n62.toNat,k'+1,n62,L1,n63,rfl,rfl,⟨by rw[hl60,List.length_set];exact ho1,by rw[hl60,List.length_set];exact hn1,hL1,⟨by omega⟩,by omega,⟨by omega⟩,by omega⟩,?_,rfl⟩;have hj:j60=i'+k':=by omega
   have hj2:j49=i'+k':=by omega
   rw[hj2] at hx50;rw[hl60,hj,Cq hx37,show i'+(k'+1)=i'+k'+1 by omega];refine UB (q:=x50) (xi:=x30.toNat) (yk:=x37.toNat) (old:=x50.toNat) (c:=c') rfl (by omega) hx50 rfl hinv1 ?_ rfl;rw[ep] at h44;omega
  have k17:=BS h17;have h0:b=0:=GB.1 (by rw[<-hm];exact List.length_eq_zero_iff.1 (by omega));exact AF ⟨⟨rfl,.inr (.inl ⟨_,congrArg _ (by rw[hz,h0];rfl)⟩),trivial⟩,trivial⟩
 have k13:=BS h13;have h0:a=0:=GB.1 (by rw[<-hl];exact List.length_eq_zero_iff.1 (by have k13:=BS h13;omega));exact AF ⟨⟨rfl,.inr (.inl ⟨_,congrArg _ (by rw[hz,h0,Nat.zero_mul];rfl)⟩),trivial⟩,trivial⟩
end Go.Abs
namespace Go.Abs
open Go.RowKit
variable {b b1 b2 b3 c:Bool} {l l1 l2 l3 z:List UInt32} {x y:Int}
theorem np {i:Nat} {x:UInt32} {n:Int} (g:l[i]? =some x) (h:i+1=l.length) (f:n=x.toNat):Hh b l=(n !=0):=by
 have d:l.getLast? =some x:=by rw[List.getLast?_eq_getElem?,<-g];congr 1;omega
 unfold Hh;rw[d,f]
 show (x !=0)=_
 rw[Bool.eq_iff_iff];simp only[bne_iff_ne,ne_eq];rw[<-UInt32.toNat_inj]
 show ¬x.toNat=0↔_
 omega
theorem cO (A:x=if b=true then -(AI l:Int) else AI l) (u:l.length<=17592186044416) (t:BH x c z):CF 397 [.agg (Bi b l)] (.agg (Bi c z)):=by
 refine AO Tryz.func397 fun E h=>?_
 conv=>cbv
 obtain⟨B,d⟩:=xU (AW (AI l));refine AB h (Ff rfl d) ?_;conv=>cbv
 obtain⟨C,g⟩:=xU B;refine AB (r:= .one (.sl .u32 C)) h (KV g (by rw[d,<-NL];exact Nat.le_trans (UC l) u)) ?_;try conv=>cbv
 obtain⟨j,k,f⟩:=BE (x);refine AB (r:= .agg [.bool j,.sl .u32 k]) h (F4 (by rw[g,d,BW];exact A) f) ?_;try conv=>cbv
 refine g2 rfl ?_;exact AF ⟨⟨rfl,congrArg _ ((f.uniq t rfl).1.symm),congrArg _ ((f.uniq t rfl).2.symm),trivial⟩,trivial⟩
theorem Ur (t:BH x b l) (B:l.length<=17592186044416) (u:BH (-x) c z):CF 328 [.agg (Bi b l)] (.agg (Bi c z)):=by
 refine AO Tryz.func328 fun E k=>?_
 conv=>cbv
 intro F A;conv=>cbv
 obtain⟨C,f⟩:=xU (AW (AI l));refine AB k (Ff rfl f) ?_;conv=>cbv
 have t8:C=l:=by rw[f];exact t.trim
 obtain⟨D,g⟩:=xU l;refine AB (r:= .one (.sl .u32 D)) k (KV (g.trans t8.symm) (by rw[t8];exact B)) ?_;try conv=>cbv
 obtain⟨h,j,d⟩:=BE (-x);refine AB (r:= .agg [.bool h,.sl .u32 j]) k (F4 (by rw[g,A];exact aD t.E5) d) ?_;try conv=>cbv
 refine g2 rfl ?_;exact AF ⟨⟨rfl,congrArg _ ((d.uniq u rfl).1.symm),congrArg _ ((d.uniq u rfl).2.symm),trivial⟩,trivial⟩
theorem ct {c:Int} (j:x=if b=true then -(AI l:Int) else AI l) (hc:c=Cg x):CF 319 [.agg (Bi b l)] (.one (.int .i64 c)):=by
 refine AO Tryz.func319 fun E k=>?_
 conv=>cbv
 refine .inr ?_;obtain⟨A,d⟩:=xU (AW (AI l));refine AB k (Ff rfl d) ?_;conv=>cbv
 rintro u ⟨f,f7⟩;conv=>cbv
 intro t h;conv=>cbv
 cases t <;> conv=>cbv
 ·have r:=BR h;cases b <;> conv=>cbv
  ·have g:AI l≠0:=fun e=>by rw[d,e] at f;exact (BR h) f
   exact AF ⟨⟨rfl,congrArg _ (by rw[hc,PK j g];rfl),trivial⟩,trivial⟩
  have g:AI l≠0:=fun e=>by rw[d,e] at f;exact (BR h) f
  exact AF ⟨⟨rfl,congrArg _ (by rw[hc,PK j g];rfl),trivial⟩,trivial⟩
 have r:=BS h;have g:AI l=0:=by rw[d] at f;exact GB.1 (List.length_eq_zero_iff.1 (by omega))
 exact AF ⟨⟨rfl,congrArg _ (by rw[hc,j,g];unfold Cg;simp),trivial⟩,trivial⟩
theorem Ls {c:Int} (d:BH x b l) (hc:c=Cg x):CF 319 [.agg (Bi b l)] (.one (.int .i64 c)):=ct d.E5 hc
theorem Ut (f:BH x b l) (d:l.length<=17592186044416) (g:BH x c z):CF 397 [.agg (Bi b l)] (.agg (Bi c z)):=cO f.E5 d g
theorem Ui {c:Int} (B:BH x b1 l1) (C:BH y b2 l2) (hc:c=Bv x y):CF 277 [.agg (Bi b1 l1),.agg (Bi b2 l2)] (.one (.int .i64 c)):=by
 refine AO Tryz.func277 fun E t=>?_
 conv=>cbv
 obtain⟨L,f⟩:=xI (Cg x);refine AB t (Ls B f) ?_;conv=>cbv
 obtain⟨F,d⟩:=xI (Cg y);refine AB t (Ls C d) ?_;conv=>cbv
 refine g2 rfl ?_;intro D u;conv=>cbv
 cases D <;> conv=>cbv
 ·have r:=DQ u;obtain⟨G,j⟩:=xU (AW (AI l1));refine AB t (Ff rfl j) ?_;conv=>cbv
  have t20:G=l1:=by rw[j];exact B.trim
  obtain⟨H,k⟩:=xU (AW (AI l2));refine AB t (Ff rfl k) ?_;conv=>cbv
  have t23:H=l2:=by rw[k];exact C.trim
  obtain⟨K,g⟩:=xI (Bv x.natAbs y.natAbs);refine AB t (N4 (t20.trans B.Bj) (t23.trans C.Bj) g) ?_;conv=>cbv
  intro I A;conv=>cbv
  refine⟨fun _=>by rw[A,f,g];exact mN _ _ _,?_⟩;refine g2 rfl ?_;exact AF ⟨⟨rfl,congrArg _ (by rw[hc,A,f,g];exact gM (by rw[<-f,<-d];exact r)),trivial⟩,trivial⟩
 have r:=DR u;obtain⟨J,h⟩:=xI (Bv L F);refine AB t (Uj h) ?_;conv=>cbv
 exact AF ⟨⟨rfl,congrArg _ (by rw[hc,h,f,d];exact gL (by rw[<-f,<-d];exact r)),trivial⟩,trivial⟩
theorem Ph (D:BH x b1 l1) (F:BH y b2 l2) (G:BH (x+y) b3 l3) (s1:l1.length<=17592186044416) (s2:l2.length<=17592186044416):CF 345 [.agg (Bi b1 l1),.agg (Bi b2 l2)] (.agg (Bi b3 l3)):=by
 refine AO Tryz.func345 fun E k=>?_
 conv=>cbv
 obtain⟨X,J⟩:=xU (AW (AI l1));refine AB k (Ff rfl J) ?_;conv=>cbv
 have t9:X=l1:=by rw[J];exact D.trim
 obtain⟨S,u⟩:=xU (AW (AI l2));refine AB k (Ff rfl u) ?_;conv=>cbv
 have t12:S=l2:=by rw[u];exact F.trim
 refine g2 rfl ?_;intro Q H;conv=>cbv
 cases Q <;> conv=>cbv
 ·have t:=WB H;obtain⟨W,f⟩:=xI (Bv x.natAbs y.natAbs);refine AB k (N4 (t9.trans D.Bj) (t12.trans F.Bj) f) ?_;conv=>cbv
  intro R I;conv=>cbv
  cases R <;> conv=>cbv
  ·have d:=BK I;obtain⟨V,C⟩:=xU (AW (x.natAbs-y.natAbs));refine AB (r:= .one (.sl .u32 V)) k (Rx (t9.trans D.Bj) (t12.trans F.Bj) C (by rw[f] at d;have:=JC d;omega) (by rw[t9];exact s1)) ?_;try conv=>cbv
   obtain⟨M,P,j⟩:=BE (x+y);refine AB (r:= .agg [.bool M,.sl .u32 P]) k (F4 (by rw[C,BW,Int.add_comm];rw[f] at d;exact Nk F.neg D.neg (Ne.symm t) (by have:=JC d;omega)) j) ?_;try conv=>cbv
   refine g2 rfl ?_;exact AF ⟨⟨rfl,congrArg _ ((j.uniq G rfl).1.symm),congrArg _ ((j.uniq G rfl).2.symm),trivial⟩,trivial⟩
  have d:=BL I;obtain⟨U,B⟩:=xU (AW (y.natAbs-x.natAbs));refine AB (r:= .one (.sl .u32 U)) k (Rx (t12.trans F.Bj) (t9.trans D.Bj) B (by rw[f] at d;have:=JD d;omega) (by rw[t12];exact s2)) ?_;try conv=>cbv
  obtain⟨L,O,h⟩:=BE (x+y);refine AB (r:= .agg [.bool L,.sl .u32 O]) k (F4 (by rw[B,BW];rw[f] at d;exact Nk D.neg F.neg t (by have:=JD d;omega)) h) ?_;try conv=>cbv
  refine g2 rfl ?_;exact AF ⟨⟨rfl,congrArg _ ((h.uniq G rfl).1.symm),congrArg _ ((h.uniq G rfl).2.symm),trivial⟩,trivial⟩
 have t:=WC H;obtain⟨T,A⟩:=xU (AW (x.natAbs+y.natAbs));refine AB (r:= .one (.sl .u32 T)) k (Y9 (t9.trans D.Bj) (t12.trans F.Bj) A (by rw[t9];exact s1) (by rw[t12];exact s2)) ?_;try conv=>cbv
 obtain⟨K,N,g⟩:=BE (x+y);refine AB (r:= .agg [.bool K,.sl .u32 N]) k (F4 (by rw[A,BW];exact add_same D.neg (t.trans F.neg)) g) ?_;try conv=>cbv
 refine g2 rfl ?_;exact AF ⟨⟨rfl,congrArg _ ((g.uniq G rfl).1.symm),congrArg _ ((g.uniq G rfl).2.symm),trivial⟩,trivial⟩
theorem F7 (u:BH x b1 l1) (A:BH y b2 l2) (F:BH (x*y) b3 l3) (s1:l1.length<=17592186044416) (s2:l2.length<=17592186044416):CF 278 [.agg (Bi b1 l1),.agg (Bi b2 l2)] (.agg (Bi b3 l3)):=by
 refine AO Tryz.func278 fun E t=>?_
 conv=>cbv
 intro H G;conv=>cbv
 obtain⟨B,f⟩:=xU (AW (AI l1));refine AB t (Ff rfl f) ?_;conv=>cbv
 have t12:B=l1:=by rw[f];exact u.trim
 obtain⟨C,g⟩:=xU (AW (AI l2));refine AB t (Ff rfl g) ?_;conv=>cbv
 have t15:C=l2:=by rw[g];exact A.trim
 obtain⟨D,h⟩:=xU (AW (x.natAbs*y.natAbs));refine AB (r:= .one (.sl .u32 D)) t (nR (t12.trans u.Bj) (t15.trans A.Bj) h (by rw[t12];exact s1) (by rw[t15];exact s2)) ?_;try conv=>cbv
 obtain⟨j,k,d⟩:=BE (x*y);refine AB (r:= .agg [.bool j,.sl .u32 k]) t (F4 (by rw[h,BW,G];exact YT u.neg A.neg) d) ?_;try conv=>cbv
 refine g2 rfl ?_;exact AF ⟨⟨rfl,congrArg _ ((d.uniq F rfl).1.symm),congrArg _ ((d.uniq F rfl).2.symm),trivial⟩,trivial⟩
theorem U7 (hc:c=Hh b l):CF 351 [.agg (Bi b l)] (.one (.bool c)):=by
 refine AO Tryz.func351 fun E L=>?_
 conv=>cbv
 rintro M ⟨K,f6⟩;conv=>cbv
 intro J H;conv=>cbv
 cases J <;> conv=>cbv
 ·have I:=BR H;intro k f;conv=>cbv
  cases k <;> conv=>cbv
  ·have j:=Cc f
   exfalso;omega
  have j:=Cd f;intro r C;conv=>cbv
  refine AQ ?_;obtain⟨t,d⟩:=AS (l:=l) (i:=(r).toNat) (by omega);refine⟨t,fun _=>⟨by omega,d⟩,?_⟩;try conv=>cbv
  intro F g;have u:=g.eq;have f23:=g.lt;conv=>cbv
  intro G B;conv=>cbv
  exact AF ⟨⟨rfl,congrArg _ (by rw[hc,B];exact np d (by omega) u),trivial⟩,trivial⟩
 have I:=BS H;intro D A;conv=>cbv
 cases D <;> conv=>cbv
 ·have h:=FX A;intro k f;conv=>cbv
  cases k <;> conv=>cbv
  ·have j:=Cc f;exact AF ⟨⟨rfl,congrArg _ (by rw[hc,List.eq_nil_of_length_eq_zero (by omega:l.length=0),h];rfl),trivial⟩,trivial⟩
  have j:=Cd f;intro r C;conv=>cbv
  refine AQ ?_;obtain⟨t,d⟩:=AS (l:=l) (i:=(r).toNat) (by omega);refine⟨t,fun _=>⟨by omega,d⟩,?_⟩;try conv=>cbv
  intro F g;have u:=g.eq;have f23:=g.lt;conv=>cbv
  intro G B;conv=>cbv
  exfalso;omega
 have h:=FY A;exact AF ⟨⟨rfl,congrArg _ (by rw[hc,List.eq_nil_of_length_eq_zero (by omega:l.length=0),h];rfl),trivial⟩,trivial⟩
end Go.Abs
namespace Go.Abs
open Go.RowKit
variable {a b n:Int} {e p q:Nat}
theorem TW (h:n=IntKind.u64.wrap (a*2^min b.toNat IntKind.u64.bits)) (ha:a=p) (hb:b=e) (he:e<=64:=by omega):n=((p*2^e%18446744073709551616:Nat):Int):=by
 have d:min b.toNat IntKind.u64.bits=e:=by rw[hb];show min e 64=e;omega
 have f:=wrap_u64 h;rw[f,d,ha];simp
theorem TV (h:n=IntKind.u32.wrap (a*2^min b.toNat IntKind.u32.bits)) (ha:a=p) (hb:b=e) (he:e<=32:=by omega):n=((p*2^e%4294967296:Nat):Int):=by
 have d:min b.toNat IntKind.u32.bits=e:=by rw[hb];show min e 32=e;omega
 have f:=wrap_u32 h;rw[f,d,ha];simp
theorem shr_var {m:Nat} (h:n=a.fdiv (2^min b.toNat m)) (ha:a=p) (hb:b=e) (he:e<=m):n=((p/2^e:Nat):Int):=by
 have d:min b.toNat m=e:=by rw[hb];simp;omega
 rw[h,d,ha,Int.fdiv_eq_ediv_of_nonneg _ (by have:=Int.pow_pos (n:=2) (m:=e) (by decide);omega)];simp
theorem Ox (h:n=IntKind.u32.wrap (BitVec.ofInt IntKind.u32.bits a ||| BitVec.ofInt IntKind.u32.bits b).toNat) (ha:a=p) (hb:b=q) (g:p<4294967296) (j:q<4294967296):n=((p ||| q:Nat):Int):=by
 have f:=wrap_u32 h;rw[f,ha,hb]
 have d:(BitVec.ofInt IntKind.u32.bits (p:Int) ||| BitVec.ofInt IntKind.u32.bits (q:Int)).toNat=p ||| q:=by
  rw[BitVec.toNat_or,BitVec.toNat_ofInt,BitVec.toNat_ofInt]
  show ((p:Int)%4294967296).toNat ||| ((q:Int)%4294967296).toNat=_
  congr 1 <;> omega
 rw[d];have:p ||| q<2^32:=Nat.or_lt_two_pow g j
 omega
theorem Y5 (h:n=IntKind.u64.wrap (BitVec.ofInt IntKind.u64.bits a ||| BitVec.ofInt IntKind.u64.bits b).toNat) (ha:a=p) (hb:b=q) (g:p<18446744073709551616) (j:q<18446744073709551616):n=((p ||| q:Nat):Int):=by
 have f:=wrap_u64 h;rw[f,ha,hb]
 have d:(BitVec.ofInt IntKind.u64.bits (p:Int) ||| BitVec.ofInt IntKind.u64.bits (q:Int)).toNat=p ||| q:=by
  rw[BitVec.toNat_or,BitVec.toNat_ofInt,BitVec.toNat_ofInt]
  show ((p:Int)%18446744073709551616).toNat ||| ((q:Int)%18446744073709551616).toNat=_
  congr 1 <;> omega
 rw[d];have:p ||| q<2^64:=Nat.or_lt_two_pow g j
 omega
theorem KE (h:n=IntKind.u64.wrap (BitVec.ofInt IntKind.u64.bits a ||| BitVec.ofInt IntKind.u64.bits b).toNat) (ha:a=((p*4294967296:Nat):Int)) (hb:b=q) (g:p<4294967296) (f:q<4294967296):n=((q+4294967296*p:Nat):Int):=by
 rw[Y5 h ha hb (by omega) (by omega),Nat.or_comm,Nat.mul_comm];have:=LH (a:=q) (b:=p) (d:=32) f;exact congrArg _ this
end Go.Abs
namespace Go.Abs
open Go.RowKit
variable {l z:List UInt32} {n zn:Nat} {s:Int}
theorem aF (hs:Ag s n) (hn:n<=31) (aU:z.length=l.length) (aj:AI z=AI l/2^n) (aV:zn=z.length) (sl:l.length<=17592186044416):CF 387 [.one (.sl .u32 l),.one (.int .i64 s)] (.one (.own .u32 z zn)):=by
 have es:=hs.eq;refine AO Tryz.func387 fun E hE=>?_
 conv=>cbv
 rintro n9 ⟨e9,f9⟩;conv=>cbv
 refine⟨fun _=>⟨by omega,by omega,by show _*4<=140737488355328;omega⟩,?_⟩;intro P (R:List UInt32) K;have aJ:=K.1;have u:R=List.replicate P (0:el .u32):=K.2;have aB:R.length=P:=by rw[u,List.length_replicate]
 conv=>cbv
 intro an M;have aL:=M.eq;have f12:=M.le;conv=>cbv
 refine .inr ?_
 obtain⟨J0,F⟩:∃J:List AV->List AR->Nat->Prop,J=fun vs bl k=>∃(o:List UInt32) (m i':Nat) (L i:Int),vs=[.one (.sl .u32 l),.one (.int .i64 s),.one (.AZ .u32 10 0 0 m),.one (.sl .u32 l),.one (.int .i64 L),.one (.int .i64 i)]/\
  bl=[.arr 0 .u32 o]/\(o.length=l.length/\m=o.length/\DX L l.length/\Ag i i'/\i'<=l.length)/\
  AI (o.take i')=AI l/2^n%2^(32*i')/\k=l.length-i':=⟨_,rfl⟩
 refine⟨[],[0,1,5,11,12,13],[10],J0,⟨l.length-0,by rw[F];exact⟨R,P,0,an,0,rfl,rfl,⟨by rw[u,List.length_replicate];omega,by rw[u,List.length_replicate],M,Bf 0,by omega⟩,by simp[AI,Nat.mod_one],rfl⟩⟩,?_⟩;intro vs bl aW hj;rw[F] at hj;obtain⟨o,m,i',L,i,rfl,rfl,⟨ho,hm,hL,hi,aS⟩,hinv,aT⟩:=hj;conv=>cbv
 have eL:=hL.eq;have ei:=hi.eq;intro ao W;conv=>cbv
 cases ao <;> conv=>cbv
 ·have ak:=BK W;have hk:i'=l.length:=by omega
  have a8:AI o=AI l/2^n:=by rw[hk,<-ho,List.take_length,ho] at hinv;rw[hinv];exact Nat.mod_eq_of_lt (Nat.lt_of_le_of_lt (Nat.div_le_self _ _) (Cy l))
  exact AF ⟨⟨rfl,.inr (.inl ⟨_,_,by decide,rfl,rfl,hm,rfl,EK (Mn (by omega) (by rw[aj,a8])) (by omega)⟩),trivial⟩,trivial⟩
 have ak:=BL W;refine .inr ?_;obtain⟨j,C⟩:=AS (l:=l) (i:=i') (by omega);refine⟨j,fun _=>⟨by omega,by rw[show (i).toNat=i' by omega];exact C⟩,?_⟩;try conv=>cbv
 intro aX X;have aM:=X.eq;have f17:=X.lt;conv=>cbv
 intro ae Y;conv=>cbv
 refine AM ?_;obtain⟨aw,g,Y⟩:∃q:Nat,q=j.toNat/2^n/\ae=q:=⟨_,rfl,shr_var Y (by omega) (by omega) (by show n<=32;omega)⟩
 have aK:aw<=j.toNat:=by rw[g];exact Nat.div_le_self _ _
 refine AM ?_;intro G aE;conv=>cbv
 obtain⟨H,A⟩:=CU (n:=ae) (by omega);have ax:=A.eq;have az:=A.lt;refine⟨H,fun _=>⟨by show _<List.length (α:=UInt32) o;(first | omega | (simp;omega)),CT A⟩,?_⟩;intro (h:List UInt32) (d:h=List.set (α:=UInt32) o G H);have aC:h.length=o.length:=by rw[d,List.length_set]
 conv=>cbv
 intro aY aP;conv=>cbv
 refine AQ ?_;rintro aZ ⟨aN,f27⟩;conv=>cbv
 intro aq Z;conv=>cbv
 refine .inr ?_;cases aq <;> conv=>cbv
 ·have al:=BK Z;intro U ah;conv=>cbv
  refine AQ ?_;refine⟨l.length-(i'+1),?_,?_⟩
  ·omega
  rw[F]
  have ew:(H.toNat)=j.toNat/2^n+0*2^(32-n)%4294967296:=by
   rw[Nat.zero_mul,<-g];omega
  refine⟨h,m,i'+1,L,U,rfl,rfl,⟨by rw[d,List.length_set];exact ho,by rw[d,List.length_set];exact hm,hL,⟨by omega⟩,by omega⟩,?_,rfl⟩;rw[d,show G=i' by omega,Fu (by omega),FC,List.length_take,Nat.min_eq_left (by omega),hinv,PS,ew];rw[Nat.div_div_eq_div_mul,Nat.mul_comm (2^n),<-Nat.div_div_eq_div_mul,OA (by omega:i'<=l.length),EP C,List.drop_eq_nil_of_le (by omega:l.length<=i'+1)];rw[<-aH (y:=0) (r:=0) (by omega) hn];simp[AI]
 have al:=BL Z;refine AM ?_;intro ab aG;conv=>cbv
 obtain⟨af,D⟩:=AS (l:=h) (i:=ab) (by omega);refine⟨af,fun _=>D,?_⟩;try conv=>cbv
 intro b0 a1;have ag:=a1.eq;have f32:=a1.lt;conv=>cbv
 intro ar aQ;conv=>cbv
 refine AQ ?_;obtain⟨f,I⟩:=AS (l:=l) (i:=(i'+1)) (by omega);refine⟨f,fun _=>⟨by omega,by rw[show (ar).toNat=(i'+1) by omega];exact I⟩,?_⟩;try conv=>cbv
 intro b4 a2;have aO:=a2.eq;have f37:=a2.lt;conv=>cbv
 intro b5 a5;conv=>cbv
 have a5:=wrap_u64 a5;intro b6 aR;conv=>cbv
 refine AQ ?_;intro au N;conv=>cbv
 refine AM ?_;obtain⟨b7,aa,N⟩:∃q:Nat,q=f.toNat*2^(32-n)%18446744073709551616/\au=q:=⟨_,rfl,TW N (by omega) (by omega)⟩
 intro av O;conv=>cbv
 have O:=wrap_u32 O;intro T a6;conv=>cbv
 have bo:0<=T/\T<4294967296:=by rw[wrap_u32 a6];omega
 have ex:af=H:=by rw[d,show ab=G by omega,List.getElem?_set_self (by omega)] at D;exact (Option.some.inj D).symm
 refine AM ?_;intro ad aI;conv=>cbv
 obtain⟨V,B⟩:=CU (n:=T) (by omega);have ay:=B.eq;have aA:=B.lt;refine⟨V,fun _=>⟨by show _<List.length (α:=UInt32) h;(first | omega | (simp;omega)),CT B⟩,?_⟩;intro (S:List UInt32) (t:S=List.set (α:=UInt32) h ad V);have aD:S.length=h.length:=by rw[t,List.length_set]
 conv=>cbv
 refine g2 rfl ?_;intro U ah;conv=>cbv
 refine AQ ?_;refine⟨l.length-(i'+1),?_,?_⟩
 ·omega
 rw[F]
 have ew:(V.toNat)=j.toNat/2^n+f.toNat*2^(32-n)%4294967296:=by
  have hq:2^n*2^(32-n)=4294967296:=by rw[<-Nat.pow_add,show n+(32-n)=32 by omega]
  have ai:j.toNat/2^n<2^(32-n):=Nat.div_lt_of_lt_mul (by rw[hq];omega);have a7:f.toNat*2^(32-n)%4294967296=2^(32-n)*(f.toNat%2^n):=by rw[<-hq,Nat.mul_comm f.toNat,Nat.mul_comm (2^n),Nat.mul_mod_mul_left]
  have h5:av=((f.toNat*2^(32-n)%4294967296:Nat):Int):=by rw[O,N,aa];generalize f.toNat*2^(32-n)=Q;omega
  have h6:=Ox a6 (p:=j.toNat/2^n) (q:=f.toNat*2^(32-n)%4294967296) (by rw[ag,ex,<-g];omega) h5 (by rw[<-g];omega) (by omega);rw[a7,LH ai,<-a7,<-g] at h6;rw[<-g]
  generalize f.toNat*2^(32-n)%4294967296=Q at*
  omega
 refine⟨S,m,i'+1,L,U,rfl,rfl,⟨by rw[t,d,List.length_set,List.length_set];exact ho,by rw[t,d,List.length_set,List.length_set];exact hm,hL,⟨by omega⟩,by omega⟩,?_,rfl⟩;rw[t,show ad=i' by omega,Fu (by rw[d,List.length_set];omega),d,show G=i' by omega,H9 (Nat.le_refl _),FC,List.length_take,Nat.min_eq_left (by omega),hinv,PS,ew];rw[Nat.div_div_eq_div_mul,Nat.mul_comm (2^n),<-Nat.div_div_eq_div_mul,OA (by omega:i'<=l.length),EP C,EP (show l[i'+1]? =some f from I)];rw[aH (by omega) hn]
theorem aE (hs:Ag s n) (hn:n<=31) (aK:z.length=l.length+1) (af:AI z=AI l*2^n) (aL:zn=z.length) (sl:l.length<=17592186044416):CF 384 [.one (.sl .u32 l),.one (.int .i64 s)] (.one (.own .u32 z zn)):=by
 have es:=hs.eq;refine AO Tryz.func384 fun E hE=>?_
 conv=>cbv
 rintro aN ⟨aB,f10⟩;conv=>cbv
 intro aO aF;conv=>cbv
 refine AQ ?_;refine⟨fun _=>⟨by omega,by omega,by show _*4<=140737488355328;omega⟩,?_⟩;intro K (M:List UInt32) F;have aA:=F.1;have f:M=List.replicate K (0:el .u32):=F.2;have au:M.length=K:=by rw[f,List.length_replicate]
 conv=>cbv
 intro ah G;have aC:=G.eq;have f14:=G.le;conv=>cbv
 refine .inr ?_
 obtain⟨J0,H⟩:∃J:List AV->List AR->Nat->Prop,J=fun vs bl k=>∃(o:List UInt32) (c:UInt32) (m i':Nat) (L i:Int),vs=[.one (.sl .u32 l),.one (.int .i64 s),.one (.AZ .u32 12 0 0 m),.one (.sl .u32 l),.one (.int .i64 L),.one (.int .i64 i)]/\
  bl=[.arr 0 .u32 o]/\(o.length=l.length+1/\m=o.length/\DX L l.length/\Ag i i'/\i'<=l.length)/\(o[i']? =some c/\c.toNat<2^n)/\
  AI (o.take i')+2^(32*i')*c.toNat=AI (l.take i')*2^n/\k=l.length-i':=⟨_,rfl⟩
 refine⟨[],[0,1,5,13,14,15],[12],J0,⟨l.length-0,by rw[H];exact⟨M,0,K,0,ah,0,rfl,rfl,⟨by rw[f,List.length_replicate];omega,by rw[f,List.length_replicate],G,Bf 0,by omega⟩,⟨by rw[f,List.getElem?_replicate,if_pos (by omega)],Nat.two_pow_pos n⟩,by simp[AI],rfl⟩⟩,?_⟩;intro vs bl aM hj;rw[H] at hj;obtain⟨o,c,m,i',L,i,rfl,rfl,⟨ho,hm,hL,hi,aI⟩,⟨hc,ad⟩,hinv,aJ⟩:=hj;conv=>cbv
 have eL:=hL.eq;have ei:=hi.eq;intro ai S;conv=>cbv
 cases ai <;> conv=>cbv
 ·have ag:=BK S;have hk:i'=l.length:=by omega
  have a2:AI o=AI l*2^n:=by rw[hk,List.take_length,<-Cq (l:=o) (by rw[<-hk];exact hc),List.take_of_length_le (by omega)] at hinv;exact hinv
  exact AF ⟨⟨rfl,.inr (.inl ⟨_,_,by decide,rfl,rfl,hm,rfl,EK (Mn (by omega) (by rw[af,a2])) (by omega)⟩),trivial⟩,trivial⟩
 have ag:=BL S;refine .inr ?_;obtain⟨d,D⟩:=AS (l:=l) (i:=i') (by omega);refine⟨d,fun _=>⟨by omega,by rw[show (i).toNat=i' by omega];exact D⟩,?_⟩;try conv=>cbv
 intro aP T;have aD:=T.eq;have f19:=T.lt;conv=>cbv
 intro aQ U;conv=>cbv
 have U:=wrap_u64 U;intro aj V;conv=>cbv
 refine AM ?_;have aa:d.toNat*2^n<9223372036854775808:=Nat.mul_lt_mul_of_lt_of_le (by omega:d.toNat<4294967296) (Nat.pow_le_pow_right (by decide) hn:2^n<=2^31) (by decide);obtain⟨R,g,V⟩:∃q:Nat,q=d.toNat*2^n/\aj=q:=⟨_,rfl,(TW (p:=d.toNat) (e:=n) V (by omega) (by omega)).trans (by congr 1;exact Nat.mod_eq_of_lt (by omega))⟩
 rw[<-g] at aa;refine AM ?_;intro a6 ax;conv=>cbv
 obtain⟨a8,u⟩:=AS (l:=o) (i:=a6) (by omega);refine⟨a8,fun _=>u,?_⟩;try conv=>cbv
 intro aR W;have ab:=W.eq;have f27:=W.lt;conv=>cbv
 intro aS X;conv=>cbv
 have X:=wrap_u32 X;intro Q Y;conv=>cbv
 have bo:0<=Q/\Q<4294967296:=by rw[wrap_u32 Y];omega
 refine AM ?_;intro a7 ay;conv=>cbv
 obtain⟨B,r⟩:=CU (n:=Q) (by omega);have an:=r.eq;have aq:=r.lt;refine⟨B,fun _=>⟨by show _<List.length (α:=UInt32) o;(first | omega | (simp;omega)),CT r⟩,?_⟩;intro (A:List UInt32) (C:A=List.set (α:=UInt32) o a7 B);have av:A.length=o.length:=by rw[C,List.length_set]
 conv=>cbv
 intro aT aG;conv=>cbv
 refine AQ ?_;intro aU Z;conv=>cbv
 refine AM ?_;have Z:=FI (p:=4294967296) Z rfl;intro ak a1;conv=>cbv
 have a1:=wrap_u32 a1;refine AM ?_;intro I az;conv=>cbv
 obtain⟨h,t⟩:=CU (n:=ak) (by omega);have ao:=t.eq;have ar:=t.lt;refine⟨h,fun _=>⟨by show _<List.length (α:=UInt32) A;(first | omega | (simp;omega)),CT t⟩,?_⟩;intro (O:List UInt32) (j:O=List.set (α:=UInt32) A I h);have aw:O.length=A.length:=by rw[j,List.length_set]
 conv=>cbv
 intro al aH;conv=>cbv
 refine AQ ?_;refine⟨l.length-(i'+1),?_,?_⟩
 ·omega
 rw[H];have hq:2^n*2^(32-n)=4294967296:=by rw[<-Nat.pow_add,show n+(32-n)=32 by omega]
 have ec:a8=c:=by rw[show a6=i' by omega,hc] at u;exact (Option.some.inj u).symm
 have a5:R%4294967296=2^n*(d.toNat%2^(32-n)):=by rw[g,Nat.mul_comm d.toNat,<-hq,Nat.mul_mod_mul_left]
 have h6:=Ox Y (p:=c.toNat) (q:=R%4294967296) (by rw[ab,ec]) (by omega) (by have:=c.toNat_lt;omega) (by omega);rw[a5,LH ad,<-a5] at h6
 have ae:h.toNat<2^n:=by
  have:R/4294967296<2^n:=Nat.div_lt_of_lt_mul (by rw[g];exact (Nat.mul_lt_mul_right (Nat.two_pow_pos n)).2 (by omega));omega
 refine⟨O,h,m,i'+1,L,al,rfl,rfl,⟨by omega,by omega,hL,⟨by omega⟩,by omega⟩,⟨by rw[j,show I=i'+1 by omega,List.getElem?_set_self (by omega)],ae⟩,?_,rfl⟩;rw[j,show I=i'+1 by omega,H9 (Nat.le_refl _),C,show a7=i' by omega,Fu (by omega),FC,List.length_take,Nat.min_eq_left (by omega),Cq D,E3,Nat.add_mul,<-hinv];have e1:B.toNat+4294967296*h.toNat=c.toNat+d.toNat*2^n:=by rw[<-g];omega
 have e2:2^(32*i')*(B.toNat+4294967296*h.toNat)=2^(32*i')*(c.toNat+d.toNat*2^n):=by rw[e1]
 generalize 2^(32*i')=P at*
 generalize 2^n=N at*
 grind
theorem gY {z1 z2:List UInt32} {d:Int} {b:Nat} (hd:Ag d b) (hb:0<b) (aE:b<4294967296) (ab:z1=AW (AI l/b)) (ad:z2=AW (AI l%b)) (sl:l.length<=17592186044416):CF 382 [.one (.sl .u32 l),.one (.int .u32 d)] (.AG [(false,[.sl .u32 z1]),(false,[.sl .u32 z2])]):=by
 have ed:=hd.eq;refine AO Tryz.func382 fun E hE=>?_
 conv=>cbv
 rintro aJ ⟨az,f10⟩;conv=>cbv
 refine⟨fun _=>⟨by omega,by omega,by show _*4<=140737488355328;omega⟩,?_⟩;intro T (U:List UInt32) K;have ay:=K.1;have h:U=List.replicate T (0:el .u32):=K.2;have av:U.length=T:=by rw[h,List.length_replicate]
 conv=>cbv
 rintro aK ⟨aA,f13⟩;conv=>cbv
 intro ag aC;conv=>cbv
 refine AQ ?_;refine .inr ?_
 obtain⟨J0,O⟩:∃J:List AV->List AR->Nat->Prop,J=fun vs bl k=>∃(o:List UInt32) (m g C:Nat) (r j:Int),vs=[.one (.sl .u32 l),.one (.int .u32 d),.one (.AZ .u32 11 0 0 m),.one (.int .u64 r),.one (.int .i64 j)]/\
  bl=[.arr 0 .u32 o]/\(o.length=l.length/\m=o.length/\Ag (j+1) C/\C<=l.length/\Ag r g/\g<b)/\
  AI (l.drop C)=AI (o.drop C)*b+g/\k=C:=⟨_,rfl⟩
 refine⟨[],[0,1,6,7,8],[11],J0,⟨l.length,by rw[O];exact⟨U,T,0,l.length,0,ag,rfl,rfl,⟨by rw[h,List.length_replicate];omega,by rw[h,List.length_replicate],⟨by omega⟩,by omega,Bf 0,hb⟩,by rw[List.drop_length,List.drop_eq_nil_of_le (by rw[h,List.length_replicate];omega)];simp[AI],rfl⟩⟩,?_⟩;intro vs bl aI hj;rw[O] at hj;obtain⟨o,m,g,C,r,j,rfl,rfl,⟨ho,hm,hj,aF,hr,P⟩,hinv,aG⟩:=hj;conv=>cbv
 have ej:=hj.eq;have er:=hr.eq;intro ah W;conv=>cbv
 cases ah <;> conv=>cbv
 ·have ae:=F0 W;have t:m<=(o).length:=by omega
  obtain⟨af,G⟩:=xN ((CR ((o).take m)).length);obtain⟨a8,S⟩:=FR t G;refine .inr (.inr (.inl ⟨[],.one (.AZ .u32 0 0 0 af),.arr 0 .u32 o,fun _=>⟨by first | decide | simp[Ci,Co],trivial⟩,fun _=>⟨E7 hE (Ll t (by omega) G),rfl,rfl⟩,?_⟩));try conv=>cbv
  obtain⟨aO,H⟩:=xU (AW g);refine AB hE (Kr hr (by omega) H) ?_;conv=>cbv
  have hk:C=0:=by omega
  rw[hk,List.drop_zero,List.drop_zero] at hinv;have hq:AI o=AI l/b:=by rw[hinv,Nat.add_comm,Nat.add_mul_div_right _ _ hb,Nat.div_eq_of_lt P,Nat.zero_add]
  have aa:g=AI l%b:=by rw[hinv,Nat.add_comm,Nat.add_mul_mod_self_right,Nat.mod_eq_of_lt P]
  exact AF ⟨⟨rfl,.inl ⟨_,rfl,by omega,congrArg _ (by rw[List.drop_zero,S,ab,hm,List.take_length,hq])⟩,trivial⟩,⟨rfl,congrArg _ (by rw[ad,H,aa]),trivial⟩,trivial⟩
 have ae:=F1 W;refine .inr ?_;intro aj L;conv=>cbv
 refine AM ?_;have L:=KN (p:=4294967296) L rfl;have L:aj=((g*4294967296:Nat):Int):=by clear hinv;omega
 obtain⟨i',rfl⟩:∃i',C=i'+1:=⟨C-1,by omega⟩
 obtain⟨f,I⟩:=AS (l:=l) (i:=i') (by omega);refine⟨f,fun _=>⟨by omega,by rw[show (j).toNat=i' by omega];exact I⟩,?_⟩;try conv=>cbv
 intro aL X;have aB:=X.eq;have f24:=X.lt;conv=>cbv
 intro aM Y;conv=>cbv
 have Y:=wrap_u64 Y;intro aN B;conv=>cbv
 have B:=KE (p:=g) (q:=f.toNat) B (by omega) (by omega) (by omega) (by omega);intro ak Z;conv=>cbv
 have Z:=wrap_u64 Z;intro al M;conv=>cbv
 refine AM ?_;have M:=wrap_u64 M;intro an N;conv=>cbv
 have N:=wrap_u32 N;have a2:ak=(b:Int):=by omega
 have a5:al=(((f.toNat+4294967296*g)/b:Nat):Int):=by rw[M,B,a2,<-Int.natCast_ediv];have:=Nat.div_le_self (f.toNat+4294967296*g) b;generalize (f.toNat+4294967296*g)/b=Q at *;clear hinv;omega
 refine AM ?_;intro D ax;conv=>cbv
 obtain⟨A,u⟩:=CU (n:=an) (by omega);have ar:=u.eq;have au:=u.lt;refine⟨A,fun _=>⟨by show _<List.length (α:=UInt32) o;(first | omega | (simp;omega)),CT u⟩,?_⟩;intro (V:List UInt32) (F:V=List.set (α:=UInt32) o D A);have aw:V.length=o.length:=by rw[F,List.length_set]
 conv=>cbv
 intro ao a1;conv=>cbv
 have a1:=wrap_u64 a1;intro aq a7;conv=>cbv
 refine AM ?_;intro ai aD;conv=>cbv
 refine AQ ?_;refine⟨i',?_,?_⟩
 ·omega
 rw[O];have a6:ao=(b:Int):=by omega
 have h5:=Nat.div_add_mod (f.toNat+4294967296*g) b;refine⟨V,m,(f.toNat+4294967296*g)%b,i',aq,ai,rfl,rfl,⟨by omega,by omega,⟨by omega⟩,by omega,⟨by rw[a7,B,a6];simp⟩,Nat.mod_lt _ hb⟩,?_,rfl⟩
 have aH:(f.toNat+4294967296*g)/b<4294967296:=Nat.div_lt_of_lt_mul (by
  have:4294967296*(g+1)<=4294967296*b:=Nat.mul_le_mul_left _ P;rw[Nat.mul_comm b];omega)
 have ew:A.toNat=(f.toNat+4294967296*g)/b:=by
  rw[a5] at N
  generalize (f.toNat+4294967296*g)/b=Q at*
  clear hinv
  omega
 rw[EP I,hinv,F,EP (l:=o.set D A) (i:=i') (x:=A) (by rw[show D=i' by omega,List.getElem?_set_self (by omega)]),show D=i' by omega,List.drop_set_of_lt (by omega),ew]
 generalize (f.toNat+4294967296*g)/b=Q at*
 generalize (f.toNat+4294967296*g)%b=R at*
 grind
end Go.Abs
namespace Go.Abs
open Go.RowKit
variable {b:Bool} {c w:Int} {i len off:Nat} {l o v z:List UInt32}
theorem Z3 (h:o.length=z.length) (f:o.take off=z.take off) (g:o.drop (off+len)=z.drop (off+len)) (hlen:off+len<=o.length) (h3:AI ((o.drop off).take len)=AI ((z.drop off).take len)):o=z:=by
 have d:(o.drop off).take len=(z.drop off).take len:=Mn (by simp;omega) h3;rw[<-List.take_append_drop off o,<-List.take_append_drop off z,f,<-List.take_append_drop len (o.drop off),<-List.take_append_drop len (z.drop off),d,List.drop_drop,List.drop_drop,g]
theorem OP:(l.drop off)[i]? =l[off+i]? :=by rw[List.getElem?_drop]
theorem PQ {x:UInt32} (h:l[i]? =some x):AI (l.take (i+1))=AI (l.take i)+2^(32*i)*x.toNat:=Cq h
theorem OC {x:UInt32} (h:o.drop i=l.drop i) (d:o[i]? =some x):l[i]? =some x:=by
 have:(o.drop i)[0]? =(l.drop i)[0]? :=by rw[h]
 rw[List.getElem?_drop,List.getElem?_drop] at this;simpa [d] using this.symm
theorem nL {x p h g f d j r k t u:Int} (Q:0<=x/\x<4294967296) (P:0<=p/\p<=18446744065119617025) (hc:0<=c/\c<=4294967296) (D:h=(p+c)%18446744073709551616)
  (G:g=h%4294967296) (H:f=g%18446744073709551616) (F:d=x%18446744073709551616) (A:j=(d-f)%18446744073709551616) (B:r=j%4294967296) (hw:r=w)
  (I:k=h/4294967296) (C:t=j/9223372036854775808) (J:u=(k+t)%18446744073709551616):(0<=u/\u<=4294967296)/\w+p+c=x+4294967296*u:=by
 have L:h=p+c:=by omega
 have M:0<=g/\g<4294967296:=by omega
 have a3:f=g:=by omega
 have a4:d=x:=by omega
 have N:h=g+4294967296*k:=by omega
 have O:0<=k/\k<=4294967295:=by omega
 clear D G I H F
 subst a3 a4
 by_cases K:d<f
 ·have b1:j=d-f+18446744073709551616:=by omega
  have b2:t=1:=by omega
  have b3:r=d-f+4294967296:=by omega
  clear A B C
  omega
 have b1:j=d-f:=by omega
 have b2:t=0:=by omega
 have b3:r=d-f:=by omega
 clear A B C
 omega
theorem jN {x E2 EI d f:Int} (t:0<=x/\x<4294967296) (hc:0<=c/\c<=4294967296) (g:E2=x%18446744073709551616) (h:EI=(E2-c)%18446744073709551616) (j:d=EI%4294967296) (hw:d=w)
  (k:f=EI/9223372036854775808) (hb:b=(f==1)):w+c=x+4294967296*(b.toNat:Int):=by
 have a4:E2=x:=by omega
 subst a4
 clear g
 by_cases r:E2<c
 ·have b1:EI=E2-c+18446744073709551616:=by omega
  have b2:f=1:=by omega
  have b3:d=E2-c+4294967296:=by omega
  rw[hb,b2]
  show w+c=E2+4294967296*1
  omega
 have b1:EI=E2-c:=by omega
 have b2:f=0:=by omega
 have b3:d=E2-c:=by omega
 rw[hb,b2]
 show w+c=E2+4294967296*0
 omega
theorem na {d S2 W T M:Nat} {c:Bool} (f:d+W=T+M*b.toNat) (g:S2+W=T+M*c.toNat) (l1:d<M) (l2:S2<M):d=S2/\b=c:=by
 cases b <;> cases c <;> simp at f g ⊢ <;> omega
theorem OE (h:o.drop i=l.drop i):o.drop (i+1)=l.drop (i+1):=by
 rw[<-List.drop_drop,<-List.drop_drop,h]
theorem nM {d:Nat} {g:Int} (hlen:len=v.length+1) (hoff:off+len<=l.length) (hg:Ag g d) (hd:d<4294967296) (hll:l.length<=140737488355328) (hz1:z.length=l.length) (hz2:z.take off=l.take off) (hz3:z.drop (off+len)=l.drop (off+len)) (hz4:AI ((z.drop off).take len)+AI v*d=AI ((l.drop off).take len)+2^(32*len)*b.toNat):IE Tryz.prog 385 (.AZ .u32 0 0 off len) (.arr 0 .u32 l) [.one (.sl .u32 v),.one (.int .u64 g)] (.one (.bool b)) (.arr 0 .u32 z):=by
 have eg:=hg.eq;refine L6 Tryz.func385 (by kernel_rfl) rfl fun E hE=>?_
 conv=>cbv
 intro n14 h14;have e14:=h14.eq;have f14:=h14.le;conv=>cbv
 refine .inr ?_
 obtain⟨J0,hJ0⟩:∃J:List AV->List AR->Nat->Prop,J=fun vs bl k=>∃(o:List UInt32) (c' i':Nat) (c L i:Int),vs=[.one (.AZ .u32 0 0 off len),.one (.sl .u32 v),.one (.int .u64 g),.one (.int .u64 c),.one (.sl .u32 v),.one (.int .i64 L),.one (.int .i64 i)]/\
  bl=[.arr 0 .u32 o]/\(o.length=l.length/\DX L v.length/\Ag i i'/\i'<=v.length/\Ag c c'/\c'<=4294967296)/\(o.take off=l.take off/\o.drop (off+i')=l.drop (off+i'))/\
  AI ((o.drop off).take i')+AI (v.take i')*d=AI ((l.drop off).take i')+2^(32*i')*c'/\k=v.length-i':=⟨_,rfl⟩
 refine⟨[],[0,1,2,7,13,14,15],[0],J0,⟨v.length-0,by rw[hJ0];exact⟨l,0,0,0,n14,0,rfl,rfl,⟨rfl,h14,Bf 0,by omega,Bf 0,by omega⟩,⟨rfl,rfl⟩,by simp[AI],rfl⟩⟩,?_⟩;intro vs bl kk0 hj;rw[hJ0] at hj;obtain⟨o,c',i',c,L,i,rfl,rfl,⟨ho,hL,hi,hiL,hc,hc1⟩,⟨ht,hdr⟩,hinv,hk0⟩:=hj;conv=>cbv
 have eL:=hL.eq;have ei:=hi.eq;have ec:=hc.eq;intro n16 h16;conv=>cbv
 cases n16 <;> conv=>cbv
 ·have k16:=BK h16;rintro n48 ⟨e48,f48⟩;conv=>cbv
  refine AM ?_;intro j49 hj49;conv=>cbv
  obtain⟨x50,hx50⟩:=AS (l:=o) (i:=j49) (by omega);refine⟨x50,fun _=>hx50,?_⟩;try conv=>cbv
  intro n50 h50;have e50:=h50.eq;have f50:=h50.lt;conv=>cbv
  intro E2 h51;conv=>cbv
  have h51:=wrap_u64 h51;intro EI h53;conv=>cbv
  have h53:=wrap_u64 h53;rintro n56 ⟨e56,f56⟩;conv=>cbv
  intro n58 h58;conv=>cbv
  have h58:=wrap_u32 h58;refine AM ?_;intro j59 hj59;conv=>cbv
  obtain⟨w59,hw59⟩:=CU (n:=n58) (by omega);have ew59:=hw59.eq;have fw59:=hw59.lt;refine⟨w59,fun _=>⟨by show _<List.length (α:=UInt32) o;(first | omega | (simp;omega)),CT hw59⟩,?_⟩;intro (l59:List UInt32) (hl59:l59=List.set (α:=UInt32) o j59 w59);have gl59:l59.length=o.length:=by rw[hl59,List.length_set]
  conv=>cbv
  intro n61 h61;conv=>cbv
  refine AM ?_;have h61:=FI (p:=9223372036854775808) h61 rfl;intro n62 h62;conv=>cbv
  have hk:i'=v.length:=by omega
  subst hk;have ej:j59=off+v.length:=by omega
  have ej2:j49=off+v.length:=by omega
  rw[ej2] at hx50;have hx:=OC hdr hx50;have hlw:=jN (E2:=E2) (EI:=EI) (x:=x50.toNat) (c:=c') (w:=w59.toNat) (by omega) (by omega) (by rw[<-e50];exact h51) (by rw[<-ec];exact h53) h58 ew59 h61 h62
  have hfin:AI ((l59.drop off).take len)+AI v*d=AI ((l.drop off).take len)+2^(32*len)*n62.toNat:=by
   rw[hlen,PQ (l:=l.drop off) (by rw[OP];exact hx),hl59,ej,OD,Fu (by rw[List.length_drop];omega),FC,List.length_take,List.length_drop,Nat.min_eq_left (by omega),E3];rw[List.take_length] at hinv;have hlw2:w59.toNat+c'=x50.toNat+4294967296*n62.toNat:=by omega
   generalize 2^(32*v.length)=P at*
   have e:P*(w59.toNat+c')=P*(x50.toNat+4294967296*n62.toNat):=by rw[hlw2]
   clear hlw hlw2 hz4
   grind
  have hlt:∀y:List UInt32,AI ((y.drop off).take len)<2^(32*len):=fun y=>Nat.lt_of_lt_of_le (Cy _) (Nat.pow_le_pow_right (by decide) (by rw[List.length_take];omega))
  obtain⟨q1,q2⟩:=na hfin hz4 (hlt _) (hlt _);have hzz:l59=z:=Z3 (off:=off) (len:=len) (by omega) (by rw[hz2,hl59,ej,H9,ht]) (by rw[hz3,hl59,ej,List.drop_set_of_lt (by omega),hlen,<-Nat.add_assoc];exact OE hdr) (by omega) q1;refine⟨fun _=>⟨⟨⟨rfl,congrArg _ (q2.symm),trivial⟩,trivial⟩,rfl,by simp⟩,fun _=>by show some (AR.arr 0 .u32 l59)=_;rw[hzz]⟩
 have k16:=BL h16;refine .inr ?_;obtain⟨x18,hx18⟩:=AS (l:=v) (i:=i') (by omega);refine⟨x18,fun _=>⟨by omega,by rw[show (i).toNat=i' by omega];exact hx18⟩,?_⟩;try conv=>cbv
 intro n19 h19;have e19:=h19.eq;have f19:=h19.lt;conv=>cbv
 intro n21 h21;conv=>cbv
 have h21:=wrap_u64 h21;intro n23 h23;conv=>cbv
 have h23:=wrap_u64 h23;obtain⟨p23,ep,h23⟩:∃p:Nat,p=x18.toNat*d/\n23=p:=⟨_,rfl,by rw[h23,(by omega:n21=(x18.toNat:Int)),eg,<-Int.natCast_mul];have:=Nat.mul_le_mul (by omega:x18.toNat<=4294967295) (by omega:d<=4294967295);clear hinv;omega⟩
 have bp:p23<=4294967295*4294967295:=by rw[ep];exact Nat.mul_le_mul (by omega) (by omega)
 intro n25 h25;conv=>cbv
 have h25:=wrap_u64 h25;refine AM ?_;intro j28 hj28;conv=>cbv
 obtain⟨x29,hx29⟩:=AS (l:=o) (i:=j28) (by omega);refine⟨x29,fun _=>hx29,?_⟩;try conv=>cbv
 intro n29 h29;have e29:=h29.eq;have f29:=h29.lt;conv=>cbv
 intro n30 h30;conv=>cbv
 have h30:=wrap_u64 h30;intro n32 h32;conv=>cbv
 have h32:=wrap_u32 h32;intro n33 h33;conv=>cbv
 have h33:=wrap_u64 h33;intro n34 h34;conv=>cbv
 have h34:=wrap_u64 h34;intro n38 h38;conv=>cbv
 have h38:=wrap_u32 h38;refine AM ?_;intro j39 hj39;conv=>cbv
 obtain⟨w39,hw39⟩:=CU (n:=n38) (by omega);have ew39:=hw39.eq;have fw39:=hw39.lt;refine⟨w39,fun _=>⟨by show _<List.length (α:=UInt32) o;(first | omega | (simp;omega)),CT hw39⟩,?_⟩;intro (l39:List UInt32) (hl39:l39=List.set (α:=UInt32) o j39 w39);have gl39:l39.length=o.length:=by rw[hl39,List.length_set]
 conv=>cbv
 intro n41 h41;conv=>cbv
 refine AM ?_;have h41:=FI (p:=4294967296) h41 rfl;intro n43 h43;conv=>cbv
 refine AM ?_;have h43:=FI (p:=9223372036854775808) h43 rfl;intro n44 h44;conv=>cbv
 have h44:=wrap_u64 h44;intro n45 h45;conv=>cbv
 refine AQ ?_;refine⟨v.length-(i'+1),?_,?_⟩
 ·omega
 rw[hJ0];have ej:j39=off+i':=by omega
 have ej2:j28=off+i':=by omega
 rw[ej2] at hx29;have hx:=OC hdr hx29;have hsw:=nL (x:=x29.toNat) (p:=p23) (c:=c') (w:=w39.toNat) (by omega) (by omega) (by omega) (by rw[h25,h23,ec]) h32 h33 (by rw[h30,e29]) h34 h38 ew39 h41 h43 h44;have hw:w39.toNat+x18.toNat*d+c'=x29.toNat+4294967296*n44.toNat:=by rw[<-ep];obtain⟨h1,h2⟩:=hsw;clear hinv;omega
 refine⟨l39,n44.toNat,i'+1,n44,L,n45,rfl,rfl,⟨by omega,hL,⟨by omega⟩,by omega,⟨by have:=hsw.1;omega⟩,by have:=hsw.1;omega⟩,⟨by rw[hl39,ej,H9];exact ht,by rw[hl39,ej,List.drop_set_of_lt (by omega)];exact OE hdr⟩,?_,rfl⟩;have hs:=nJ (o:=o.drop off) (w:=w39) (i:=i') (xi:=x29.toNat) (yi:=x18.toNat) (D:=d) (Gd:=c') (Ge:=n44.toNat) (by rw[List.length_drop];omega) hinv hw;rw[hl39,ej,OD,Cq hx18,PQ (l:=l.drop off) (by rw[OP];exact hx)];exact hs
theorem lv (hlen:len=v.length+1) (aC:off+len<=l.length) (aL:l.length<=140737488355328) (aM:z.length=l.length) (ag:z.take off=l.take off) (ah:z.drop (off+len)=l.drop (off+len)) (M:AI ((z.drop off).take len)=(AI ((l.drop off).take len)+AI v)%2^(32*len)):IE Tryz.prog 386 (.AZ .u32 0 0 off len) (.arr 0 .u32 l) [.one (.sl .u32 v)] (.AG []) (.arr 0 .u32 z):=by
 refine L6 Tryz.func386 (by kernel_rfl) rfl fun E hE=>?_
 conv=>cbv
 intro n8 h8;have e8:=h8.eq;have f8:=h8.le;conv=>cbv
 refine .inr ?_
 obtain⟨J0,K⟩:∃J:List AV->List AR->Nat->Prop,J=fun vs bl k=>∃(o:List UInt32) (j i':Nat) (c L i:Int),vs=[.one (.AZ .u32 0 0 off len),.one (.sl .u32 v),.one (.int .u64 c),.one (.sl .u32 v),.one (.int .i64 L),.one (.int .i64 i)]/\
  bl=[.arr 0 .u32 o]/\(o.length=l.length/\DX L v.length/\Ag i i'/\i'<=v.length/\Ag c j/\j<=1)/\(o.take off=l.take off/\o.drop (off+i')=l.drop (off+i'))/\
  AI ((o.drop off).take i')+2^(32*i')*j=AI ((l.drop off).take i')+AI (v.take i')/\k=v.length-i':=⟨_,rfl⟩
 refine⟨[],[0,1,4,7,8,9],[0],J0,⟨v.length-0,by rw[K];exact⟨l,0,0,0,n8,0,rfl,rfl,⟨rfl,h8,Bf 0,by omega,Bf 0,by omega⟩,⟨rfl,rfl⟩,by simp[AI],rfl⟩⟩,?_⟩;intro vs bl aN hj;rw[K] at hj;obtain⟨o,j,i',c,L,i,rfl,rfl,⟨ho,hL,hi,aJ,hc,aI⟩,⟨ht,B⟩,hinv,aK⟩:=hj;conv=>cbv
 have eL:=hL.eq;have ei:=hi.eq;have ec:=hc.eq;intro ak S;conv=>cbv
 cases ak <;> conv=>cbv
 ·have aj:=BK S;rintro aU ⟨aF,f34⟩;conv=>cbv
  refine AM ?_;intro ae aA;conv=>cbv
  obtain⟨h,A⟩:=AS (l:=o) (i:=ae) (by omega);refine⟨h,fun _=>A,?_⟩;try conv=>cbv
  intro aV a2;have aG:=a2.eq;have f36:=a2.lt;conv=>cbv
  intro aW a5;conv=>cbv
  have a5:=wrap_u32 a5;intro ao a6;conv=>cbv
  have a6:=wrap_u32 a6;refine AM ?_;intro af aB;conv=>cbv
  obtain⟨F,t⟩:=CU (n:=ao) (by omega);have ar:=t.eq;have av:=t.lt;refine⟨F,fun _=>⟨by show _<List.length (α:=UInt32) o;(first | omega | (simp;omega)),CT t⟩,?_⟩;intro (d:List UInt32) (g:d=List.set (α:=UInt32) o af F);have ax:d.length=o.length:=by rw[g,List.length_set]
  conv=>cbv
  have hk:i'=v.length:=by omega
  subst hk;have H:af=off+v.length:=by omega
  have I:ae=off+v.length:=by omega
  rw[I] at A;have hx:=OC B A;have aa:F.toNat=(h.toNat+j)%4294967296:=by clear hinv M;omega
  have a8:∀y:List UInt32,AI ((y.drop off).take len)<2^(32*len):=fun y=>Nat.lt_of_lt_of_le (Cy _) (Nat.pow_le_pow_right (by decide) (by rw[List.length_take];omega))
  have a7:AI ((d.drop off).take len)=(AI ((l.drop off).take len)+AI v)%2^(32*len):=by
   have h0:=a8 d
   have e1:AI ((d.drop off).take len)+2^(32*len)*((h.toNat+j)/4294967296)=AI ((l.drop off).take len)+AI v:=by
    rw[hlen,PQ (l:=l.drop off) (by rw[OP];exact hx),g,H,OD,Fu (by rw[List.length_drop];omega),FC,List.length_take,List.length_drop,Nat.min_eq_left (by omega),E3];rw[List.take_length] at hinv;have hd:=Nat.div_add_mod (h.toNat+j) 4294967296;rw[<-aa] at hd
    generalize (h.toNat+j)/4294967296=Q at*
    generalize 2^(32*v.length)=P at*
    have e:P*(4294967296*Q+F.toNat)=P*(h.toNat+j):=by rw[hd]
    clear aa M h0 a8
    grind
   rw[<-e1,Nat.add_mul_mod_self_left,Nat.mod_eq_of_lt h0]
  have ai:d=z:=Z3 (off:=off) (len:=len) (by omega) (by rw[ag,g,H,H9,ht]) (by rw[ah,g,H,List.drop_set_of_lt (by omega),hlen,<-Nat.add_assoc];exact OE B) (by omega) (by rw[a7,M]);refine⟨fun _=>⟨trivial,rfl,by simp⟩,fun _=>by show some (AR.arr 0 .u32 d)=_;rw[ai]⟩
 have aj:=BL S;refine .inr ?_;obtain⟨O,G⟩:=AS (l:=v) (i:=i') (by omega);refine⟨O,fun _=>⟨by omega,by rw[show (i).toNat=i' by omega];exact G⟩,?_⟩;try conv=>cbv
 intro aO T;have aD:=T.eq;have f13:=T.lt;conv=>cbv
 refine AM ?_;intro ab ay;conv=>cbv
 obtain⟨R,u⟩:=AS (l:=o) (i:=ab) (by omega);refine⟨R,fun _=>u,?_⟩;try conv=>cbv
 intro aP U;have aE:=U.eq;have f18:=U.lt;conv=>cbv
 intro aQ V;conv=>cbv
 have V:=wrap_u64 V;intro aR W;conv=>cbv
 have W:=wrap_u64 W;intro aS X;conv=>cbv
 have X:=wrap_u64 X;intro aT Y;conv=>cbv
 have Y:=wrap_u64 Y;intro al Z;conv=>cbv
 have Z:=wrap_u32 Z;refine AM ?_;intro ad az;conv=>cbv
 obtain⟨D,r⟩:=CU (n:=al) (by omega);have aq:=r.eq;have au:=r.lt;refine⟨D,fun _=>⟨by show _<List.length (α:=UInt32) o;(first | omega | (simp;omega)),CT r⟩,?_⟩;intro (N:List UInt32) (f:N=List.set (α:=UInt32) o ad D);have aw:N.length=o.length:=by rw[f,List.length_set]
 conv=>cbv
 intro C a1;conv=>cbv
 refine AM ?_;have a1:=FI (p:=4294967296) a1 rfl;intro an aH;conv=>cbv
 refine AQ ?_;refine⟨v.length-(i'+1),?_,?_⟩
 ·omega
 rw[K];have H:ad=off+i':=by omega
 have I:ab=off+i':=by omega
 rw[I] at u;have hx:=OC B u;have hw:D.toNat+4294967296*C.toNat=R.toNat+O.toNat+j:=by clear hinv;omega
 refine⟨N,C.toNat,i'+1,C,L,an,rfl,rfl,⟨by omega,hL,⟨by omega⟩,by omega,⟨by omega⟩,by omega⟩,⟨by rw[f,H,H9];exact ht,by rw[f,H,List.drop_set_of_lt (by omega)];exact OE B⟩,?_,rfl⟩;have hs:=fE (o:=o.drop off) (w:=D) (i:=i') (xi:=R.toNat) (yi:=O.toNat) (Ny:=j) (Nz:=C.toNat) (by rw[List.length_drop];omega) hinv hw;rw[f,H,OD,Cq G,PQ (l:=l.drop off) (by rw[OP];exact hx)];exact hs
end Go.Abs
