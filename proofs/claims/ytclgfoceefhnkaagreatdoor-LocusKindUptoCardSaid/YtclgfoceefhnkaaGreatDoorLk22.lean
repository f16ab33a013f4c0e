/- Part 23 of a proof. Conditions: each theorem's own. -/
import Derived.Test.YtclgfoceefhnkaaGreatDoorLk21
set_option linter.all false
set_option maxHeartbeats 80000000
set_option maxRecDepth 20000
open Go.Proofs
namespace Go.Abs
open Go.RowKit
variable {R a i k m q:Nat} {b b1 b2 c:Bool} {l l1 l2 o z:List UInt32} {x y:Int}
theorem VF {x:Nat} (h:x=2^(m+1)*k):x ||| 2^m=x+2^m:=by
 rw[h,Nat.or_comm,JF (Nat.pow_lt_pow_right (by decide) (Nat.lt_succ_self m)),Nat.add_comm]
theorem XM {x:UInt32} (f:o[q]? =some x) (hm:m<32) (d:2^(32*q+m+1)∣AE o):∃k,x.toNat=2^(m+1)*k:=by
 have v:q<o.length:=by apply Classical.byContradiction;intro t;rw[List.getElem?_eq_none (by omega)] at f;exact absurd f (by simp)
 have e1:AE o=AE (o.take q)+2^(32*q)*(x.toNat+4294967296*AE (o.drop (q+1))):=by
  conv=>lhs;rw[<-List.take_append_drop q o]
  rw[MW,List.length_take,Nat.min_eq_left (by omega),DH f]
 have h:2^(32*q)∣AE o:=Nat.dvd_trans ⟨2^(m+1),by rw[<-Nat.pow_add];congr 1⟩ d
 have j:2^(32*q)∣AE (o.take q):=by
  rw[e1] at h;exact (Nat.dvd_add_iff_left ⟨_,rfl⟩).2 h
 have n:AE (o.take q)<2^(32*q):=by
  have:=CI (o.take q);rwa [List.length_take,Nat.min_eq_left (by omega)] at this
 have p:AE (o.take q)=0:=Nat.eq_zero_of_dvd_of_lt j n;rw[e1,p,Nat.zero_add,Nat.add_assoc,Nat.pow_add] at d;have r:2^(m+1)∣x.toNat+4294967296*AE (o.drop (q+1)):=Nat.dvd_of_mul_dvd_mul_left (Nat.two_pow_pos _) d;have s:2^(m+1)∣4294967296*AE (o.drop (q+1)):=Nat.dvd_trans ⟨2^(31-m),by rw[<-Nat.pow_add,show m+1+(31-m)=32 by omega]⟩ ⟨_,rfl⟩;exact (Nat.dvd_add_iff_left s).2 r
theorem Z1 {x w:UInt32} (d:o[q]? =some x) (hm:m<32) (f:2^(32*q+m+1)∣AE o) (hw:w.toNat=x.toNat ||| 2^m):AE (o.set q w)=AE o+2^(32*q+m)/\w.toNat=x.toNat+2^m:=by
 obtain⟨k,h⟩:=XM d hm f;rw[VF h] at hw;have:=Ow (w:=w) d;rw[hw,Nat.mul_add,<-Nat.pow_add] at this;exact⟨by omega,hw⟩
theorem Za {n a b:Int} {p:Nat} (h:n=IntKind.u32.wrap (BitVec.ofInt IntKind.u32.bits a &&& ~~~ BitVec.ofInt IntKind.u32.bits b).toNat) (B:a=((p+2^m:Nat):Int)) (C:b=((2^m:Nat):Int)) (f:p=2^(m+1)*k) (hm:m<32) (G:p+2^m<4294967296):n=p:=by
 have v:=wrap_u32 h;have F:2^m<4294967296:=by omega
 have e1:(BitVec.ofInt 32 a &&& ~~~ BitVec.ofInt 32 b:BitVec 32).toNat=p:=by
  have s:BitVec.ofInt 32 a=BitVec.ofNat 32 (p+2^m):=by rw[B];exact BitVec.ofInt_natCast 32 _
  have t:BitVec.ofInt 32 b=BitVec.ofNat 32 (2^m):=by rw[C];exact BitVec.ofInt_natCast 32 _
  rw[s,t]
  have j:BitVec.ofNat 32 (p+2^m) &&& ~~~BitVec.ofNat 32 (2^m)=BitVec.ofNat 32 p:=by
   apply BitVec.eq_of_getLsbD_eq;intro i D;rw[BitVec.getLsbD_and,BitVec.getLsbD_not,BitVec.getLsbD_ofNat,BitVec.getLsbD_ofNat,BitVec.getLsbD_ofNat,<-VF f,Nat.testBit_or,Nat.testBit_two_pow]
   have r:p.testBit m=false:=by
    rw[f,Nat.testBit_two_pow_mul];simp;intro h;omega
   by_cases e:m=i
   ·subst e;simp[r,hm]
   simp[e,D]
  rw[j,BitVec.toNat_ofNat];exact Nat.mod_eq_of_lt (Nat.lt_of_le_of_lt (Nat.le_add_right p (2^m)) G)
 have d:n=(((BitVec.ofInt 32 a &&& ~~~ BitVec.ofInt 32 b:BitVec 32).toNat:Nat):Int)%4294967296:=v;rw[e1] at d;rw[d];exact Int.emod_eq_of_lt (by omega) (by omega)
theorem Af.iff {b':Bool} {l':List UInt32} (h:Af x b l) (h':Af y b' l'):x=y↔b=b'/\l=l':=
 ⟨fun e=>h.uniq h' e,fun e=>by rw[h.Dz,h'.Dz,e.1,e.2]⟩
theorem ZN {u:List UInt32} {c d b:Nat} (hcu:c<=u.length) (hdu:d<=u.length) (sl:u.length<=17592186044416) (ha:AE (u.take c)=a) (hb:AE (u.take d)=b) (hz:z=AS (a*b)):D7 Tryz.prog 331 [.one (.AQ .u32 0 0 0 c),.one (.AQ .u32 0 0 0 d)] (.arr 0 .u32 u) (.one (.sl .u32 z)):=by
 obtain⟨l,hl⟩:=xU (u.take c);have hll:l.length=c:=by rw[hl,List.length_take];omega
 have hgx:∀i,i<c->l[i]? =u[i]? :=fun i h=>by rw[hl,List.getElem?_take,if_pos h]
 rw[<-hl] at ha;obtain⟨m,hm⟩:=xU (u.take d);have hmm:m.length=d:=by rw[hm,List.length_take];omega
 have hgy:∀i,i<d->m[i]? =u[i]? :=fun i h=>by rw[hm,List.getElem?_take,if_pos h]
 rw[<-hm] at hb;refine Gz Tryz.func331 (by kernel_rfl) rfl fun E hE=>?_
 conv=>cbv
 intro n10 h10;have e10:=h10.eq;conv=>cbv
 intro n12 h12;have e12:=h12.eq;conv=>cbv
 intro n13 h13;conv=>cbv
 refine AI ?_;refine⟨fun _=>⟨by omega,by omega,by show _*4<=140737488355328;omega⟩,?_⟩;intro k14 (l14:List UInt32) ql14;have hk14:=ql14.1;have hl14:l14=List.replicate k14 (0:el .u32):=ql14.2;have gl14:l14.length=k14:=by rw[hl14,List.length_replicate]
 conv=>cbv
 refine .inr ?_
 obtain⟨J0,hJ0⟩:∃J:List AV->List AG->Nat->Prop,J=fun vs bl k=>∃(o:List UInt32) (n i':Nat) (i:Int),vs=[.one (.AQ .u32 0 0 0 c),.one (.AQ .u32 0 0 0 d),.one (.AQ .u32 14 0 0 n),.one (.int .i64 i)]/\
  bl=[.arr 0 .u32 u,.arr 0 .u32 o]/\(o.length=l.length+m.length/\n=o.length/\AR i i'/\i'<=l.length)/\
  AE (o.take (i'+m.length))=AE (l.take i')*AE m/\k=l.length-i':=⟨_,rfl⟩
 refine⟨[],[0,1,5,6],[0,14],J0,⟨l.length-0,by rw[hJ0];exact⟨l14,k14,0,0,rfl,rfl,⟨by rw[hl14,List.length_replicate];omega,by rw[hl14,List.length_replicate],Ak 0,by omega⟩,by rw[hl14,List.take_replicate,HC];simp[AE],rfl⟩⟩,?_⟩;intro vs bl kk0 hj;rw[hJ0] at hj;obtain⟨o,n,i',i,rfl,rfl,⟨ho,hn,hi,hiL⟩,hinv,hk0⟩:=hj;conv=>cbv
 have ei:=hi.eq;intro n17 h17;have e17:=h17.eq;conv=>cbv
 intro n18 h18;conv=>cbv
 cases n18 <;> conv=>cbv
 ·have k18:=AY h18;have hnl66:n<=(o).length:=by omega
  obtain⟨m66,hm66⟩:=xN ((B1 ((o).take n)).length);obtain⟨hle66,htk66⟩:=D1 hnl66 hm66;refine .inr (.inr (.inl ⟨[],.one (.AQ .u32 0 0 0 m66),.arr 0 .u32 o,fun _=>⟨by first | decide | simp[Be,Bk],trivial⟩,fun _=>⟨Di hE (FP hnl66 (by omega) hm66),rfl,rfl⟩,?_⟩));try conv=>cbv
  have hfin:AE (o.take n)=a*b:=by rw[show i'=l.length by omega,List.take_length,ha,hb,<-ho,List.take_length] at hinv;rw[hn,List.take_length,hinv]
  refine fun _=>⟨⟨⟨⟨rfl,.inl ⟨_,rfl,by omega,congrArg _ (by rw[List.drop_zero,htk66,hfin,hz])⟩,trivial⟩,trivial⟩,rfl,by simp⟩,rfl⟩
 have k18:=AZ h18;refine .inr ?_;refine .inr ?_
 obtain⟨J1,hJ1⟩:∃J:List AV->List AG->Nat->Prop,J=fun vs bl k=>∃(o1:List UInt32) (n1 c' k':Nat) (cc i1:Int),vs=[.one (.AQ .u32 0 0 0 c),.one (.AQ .u32 0 0 0 d),.one (.AQ .u32 14 0 0 n1),.one (.int .i64 i),.one (.int .u64 cc),.one (.int .i64 i1)]/\
  bl=[.arr 0 .u32 u,.arr 0 .u32 o1]/\(o1.length=l.length+m.length/\n1=o1.length/\AR i1 k'/\k'<=m.length/\AR cc c'/\c'<4294967296)/\
  AE (o1.take (i'+m.length))+2^(32*(i'+k'))*c'=AE (l.take i')*AE m+(l.getD i' 0).toNat*2^(32*i')*AE (m.take k')/\k=m.length-k':=⟨_,rfl⟩
 refine⟨[],[0,1,5,6,7,8],[0,14],J1,⟨m.length-0,by rw[hJ1];exact⟨o,n,0,0,0,0,rfl,rfl,⟨ho,hn,Ak 0,by omega,Ak 0,by omega⟩,by rw[hinv];simp[AE],rfl⟩⟩,?_⟩;intro vs bl kk1 hj;rw[hJ1] at hj;obtain⟨o1,n1,c',k',cc,i1,rfl,rfl,⟨ho1,hn1,hi1,hiL1,hc,hc1⟩,hinv1,hk1⟩:=hj;conv=>cbv
 have ei1:=hi1.eq;have ec:=hc.eq;intro n23 h23;have e23:=h23.eq;conv=>cbv
 intro n24 h24;conv=>cbv
 cases n24 <;> conv=>cbv
 ·have k24:=AY h24;intro n60 h60;have e60:=h60.eq;conv=>cbv
  intro n61 h61;conv=>cbv
  refine AI ?_;intro n63 h63;conv=>cbv
  have h63:=wrap_u32 h63;refine AH ?_;intro j64 hj64;conv=>cbv
  obtain⟨w64,hw64⟩:=B4 (n:=n63) (by omega);have ew64:=hw64.eq;have fw64:=hw64.lt;refine⟨w64,fun _=>⟨by show _<List.length (α:=UInt32) o1;(first | omega | (simp;omega)),B3 hw64⟩,?_⟩;intro (l64:List UInt32) (hl64:l64=List.set (α:=UInt32) o1 j64 w64);have gl64:l64.length=o1.length:=by rw[hl64,List.length_set]
  conv=>cbv
  intro n20 h20;conv=>cbv
  refine AI ?_;refine⟨l.length-(i'+1),?_,?_⟩
  ·omega
  rw[hJ0];refine⟨l64,n1,i'+1,n20,rfl,rfl,⟨by rw[hl64,List.length_set];exact ho1,by rw[hl64,List.length_set];exact hn1,⟨by omega⟩,by omega⟩,?_,rfl⟩;obtain⟨ai,hai⟩:=AL (l:=l) (i:=i') (by omega);have hk:k'=m.length:=by omega
  have hlen:i'+m.length<o1.length:=by omega
  rw[hl64,show i'+1+m.length=i'+m.length+1 by omega,show j64=i'+m.length by omega,EI hlen,Dp,List.length_take,Nat.min_eq_left (by omega),show w64.toNat=c' by omega];rw[hk,Iw hai] at hinv1;rw[hinv1,List.take_length,CB hai]
  grind
 have k24:=AZ h24;refine .inr ?_;intro n31 h31;conv=>cbv
 refine AI ?_;refine AH ?_;intro j32 hj32;conv=>cbv
 obtain⟨x33,hx33⟩:=AL (l:=o1) (i:=j32) (by omega);refine⟨x33,fun _=>hx33,?_⟩;try conv=>cbv
 intro n33 h33;have e33:=h33.eq;have f33:=h33.lt;conv=>cbv
 intro n34 h34;conv=>cbv
 have h34:=wrap_u64 h34;intro n35 h35;conv=>cbv
 have h35:=wrap_u64 h35;refine AH ?_;intro j38 hj38;conv=>cbv
 obtain⟨x39,hx39⟩:=AL (l:=u) (i:=j38) (by omega);refine⟨x39,fun _=>hx39,?_⟩;try conv=>cbv
 intro n39 h39;have e39:=h39.eq;have f39:=h39.lt;conv=>cbv
 intro n40 h40;conv=>cbv
 have h40:=wrap_u64 h40;refine AH ?_;intro j43 hj43;conv=>cbv
 obtain⟨x44,hx44⟩:=AL (l:=u) (i:=j43) (by omega);refine⟨x44,fun _=>hx44,?_⟩;try conv=>cbv
 intro n44 h44;have e44:=h44.eq;have f44:=h44.lt;conv=>cbv
 intro n45 h45;conv=>cbv
 have h45:=wrap_u64 h45;have ep:n40*n45=((x39.toNat*x44.toNat:Nat):Int):=by rw[Int.natCast_mul];congr 1 <;> omega
 have bp:x39.toNat*x44.toNat<=4294967295*4294967295:=Nat.mul_le_mul (by omega) (by omega);intro n46 h46;conv=>cbv
 have h46:=wrap_u64 h46;intro n47 h47;conv=>cbv
 have h47:=wrap_u64 h47;refine g2 rfl ?_;intro C9 h51;conv=>cbv
 refine AI ?_;intro C3 h53;conv=>cbv
 have h53:=wrap_u32 h53;refine AH ?_;intro j54 hj54;conv=>cbv
 obtain⟨w54,hw54⟩:=B4 (n:=C3) (by omega);have ew54:=hw54.eq;have fw54:=hw54.lt;refine⟨w54,fun _=>⟨by show _<List.length (α:=UInt32) o1;(first | omega | (simp;omega)),B3 hw54⟩,?_⟩;intro (l54:List UInt32) (hl54:l54=List.set (α:=UInt32) o1 j54 w54);have gl54:l54.length=o1.length:=by rw[hl54,List.length_set]
 conv=>cbv
 intro n56 h56;conv=>cbv
 refine AH ?_;have h56:=Dt (p:=4294967296) h56 rfl;intro n26 h26;conv=>cbv
 refine AI ?_;refine⟨m.length-(k'+1),?_,?_⟩
 ·omega
 rw[hJ1];have hx38:l[i']? =some x39:=by rw[hgx _ (by omega),show i'=j38 by omega];exact hx39
 have hx43:m[k']? =some x44:=by rw[hgy _ (by omega),show k'=j43 by omega];exact hx44
 refine⟨l54,n1,n56.toNat,k'+1,n56,n26,rfl,rfl,⟨by rw[hl54,List.length_set];exact ho1,by rw[hl54,List.length_set];exact hn1,⟨by omega⟩,by omega,⟨by omega⟩,by omega⟩,?_,rfl⟩;have hj:j54=i'+k':=by omega
 have hj2:j32=i'+k':=by omega
 rw[hj2] at hx33;rw[Iw hx38] at hinv1;rw[hl54,hj,CB hx43,show i'+(k'+1)=i'+k'+1 by omega,Iw hx38];refine Pz (q:=x33) (xi:=x39.toNat) (yk:=x44.toNat) (old:=x33.toNat) (c:=c') rfl (by omega) hx33 rfl hinv1 ?_ rfl;rw[ep] at h46;omega
theorem aD (h:BQ ((R*R:Nat):Int) a<=0):R*R<=a:=by
 unfold BQ at h
 split at h
 ·omega
 split at h
 ·omega
 omega
theorem aC (h:BQ ((R*R:Nat):Int) a>0):a<R*R:=by
 unfold BQ at h
 split at h
 ·omega
 split at h
 ·omega
 omega
theorem fD {α:Type} {l:List α} {x:α} (h:l[i]? =some x):l.set i x=l:=by
 apply List.ext_getElem?;intro k
 by_cases e:i=k
 ·subst e;rw[h,List.getElem?_set_self];apply Classical.byContradiction;intro d;rw[List.getElem?_eq_none (by omega)] at h;exact absurd h (by simp)
 rw[List.getElem?_set_ne e]
theorem LJ (hx:Af x b l) (h0:0<=x) (hz:Af ((BL x.toNat:Nat):Int) c z) (sl:l.length<=17592186043000):CF 378 [.agg (BC b l)] (.AJ [(true,(BC c z)),(false,[.int .i64 0])]):=by
 obtain⟨a,ha⟩:=xN x.toNat;obtain⟨N,hN⟩:=xN ((Ce a+1)/2);have af:x.natAbs=a:=by omega
 have aQ:l=AS a:=by rw[<-af];exact hx.BD
 rw[<-ha] at hz
 have aM:a<2^N*2^N:=by
  rw[<-Nat.pow_add]
  by_cases h:a=0
  ·rw[h];exact Nat.two_pow_pos _
  exact Nat.lt_of_lt_of_le (MY (by omega:0<a)).2.1 (Nat.pow_le_pow_right (by decide) (by omega))
 have bG:N<=300000000000000:=by
  have h1:Ce a<=32*l.length:=by
   by_cases h:a=0
   ·rw[h];exact Nat.zero_le _
   have h2:=(MY (by omega:0<a)).1;have h3:a<2^(32*l.length):=by have:=CI l;rw[hx.nat,af] at this;exact this
   have h4:=(Nat.pow_lt_pow_iff_right (a:=2) (by decide)).1 (Nat.lt_of_le_of_lt h2 h3);omega
  omega
 refine AM Tryz.func378 fun E hE=>?_
 conv=>cbv
 refine AB hE (Gr hx) ?_;conv=>cbv
 cases b <;> conv=>cbv
 ·obtain⟨b4,a2⟩:∃n:Int,AR n (Ce a):=⟨_,⟨rfl⟩⟩
  have b6:=a2.eq;refine AB (r:= .one (.int .i64 b4)) hE (YG hx (by rw[af];exact a2) sl) ?_;try conv=>cbv
  intro bK bt;conv=>cbv
  refine AI ?_;intro bL bu;conv=>cbv
  refine g2 ⟨by omega,by omega,i64 (by omega)⟩ ?_;intro bM bw;conv=>cbv
  refine g2 ⟨by omega,by omega,i64 (by omega)⟩ ?_;intro bN bx;conv=>cbv
  refine AI ?_;refine⟨fun _=>⟨by omega,by omega,by show _*4<=140737488355328;omega⟩,?_⟩;intro ag (ah:List UInt32) a7;have bo:=a7.1;have f:ah=List.replicate ag (0:el .u32):=a7.2;have bb:ah.length=ag:=by rw[f,List.length_replicate]
  conv=>cbv
  intro aV bz;conv=>cbv
  refine AI ?_;refine .inr ?_
  obtain⟨J0,Q⟩:∃J:List AV->List AG->Nat->Prop,J=fun vs bl k=>∃(o:List UInt32) (m j:Nat) (i:Int),vs=[.one (.Ae 1 0 0),.one (.Ae 2 0 0),.one (.int .i64 0),.one (.AQ .u32 19 0 0 m),.one (.int .i64 i)]/\
   bl=[.var 0 [.bool false,.sl .u32 l],.var 0 [.bool false,.nil],.arr 0 .u32 o]/\(o.length=N/32+1/\m=o.length/\AR (i+1) j/\j<=N)/\
   (2^j∣AE o/\AE o*AE o<=a/\a<(AE o+2^j)*(AE o+2^j))/\k=j:=⟨_,rfl⟩
  refine⟨[],[1,2,3,5,6],[1,2,19],J0,⟨N,by rw[Q];exact⟨ah,ag,N,aV,rfl,rfl,⟨by rw[f,List.length_replicate];omega,by rw[f,List.length_replicate],⟨by omega⟩,Nat.le_refl _⟩,⟨by rw[f,HC];exact Nat.dvd_zero _,by rw[f,HC];omega,by rw[f,HC,Nat.zero_add];exact aM⟩,rfl⟩⟩,?_⟩;intro vs bl bJ hj;rw[Q] at hj;obtain⟨o,m,j,i,rfl,rfl,⟨ho,hm,hi,bH⟩,⟨hd,aw,a8⟩,bI⟩:=hj;conv=>cbv
  have ei:=hi.eq;intro aW ao;conv=>cbv
  cases aW <;> conv=>cbv
  ·have aU:=DI ao;have aO:j=0:=by omega
   rw[aO] at a8;have aT:=UG aw a8
   have ax:((BL a:Nat):Int)=if false=true then -(AE (o.take m):Int) else AE (o.take m):=by
    rw[if_neg (by decide),hm,List.take_length,aT]
   obtain⟨aF,aG,L⟩:=AW (((BL a:Nat):Int));refine .inr (.inr (.inr (.inl ⟨19,.arr 0 .u32 o,[.one (.bool false),.one (.sl .u32 ((o).take m))],.agg [.bool aF,.sl .u32 aG],fun _=>⟨⟨by decide,rfl,by first | rfl | decide | simp[Be,Bk]⟩,⟨rfl,⟨_,rfl,by simp <;> omega,by simp⟩,trivial⟩⟩,fun _=>⟨ES hE (Fs (n:=false) ax L),rfl⟩,?_⟩)));try conv=>cbv
   exact AD ⟨⟨rfl,congrArg _ ((L.uniq hz rfl).1.symm),congrArg _ ((L.uniq hz rfl).2.symm),trivial⟩,t2,trivial⟩
  have aU:=DJ ao;refine .inr ?_;intro bO bA;conv=>cbv
  refine g2 ⟨by omega,by omega,i64 (by omega)⟩ ?_;intro bP bB;conv=>cbv
  refine g2 ⟨by omega,by omega,i64 (by omega)⟩ ?_;obtain⟨i',aN⟩:∃i',j=i'+1:=⟨j-1,by omega⟩
  subst aN;refine AH ?_;intro S bj;conv=>cbv
  obtain⟨t,D⟩:=AL (l:=o) (i:=S) (by omega);refine⟨t,fun _=>D,?_⟩;try conv=>cbv
  intro bQ aq;have bs:=aq.eq;have f33:=aq.lt;conv=>cbv
  intro bR bC;conv=>cbv
  refine AH ?_;intro aX aI;conv=>cbv
  refine AH ?_
  obtain⟨bf,a1⟩:aX=((2^(i'%32):Nat):Int)/\2^(i'%32)<4294967296:=by
   have hb:2^(i'%32)<4294967296:=Nat.lt_of_le_of_lt (Nat.pow_le_pow_right (by decide) (by omega:i'%32<=31)) (by decide);have:=Po (p:=1) (e:=i'%32) aI rfl (by omega);rw[this,Nat.one_mul];exact⟨congrArg _ (Nat.mod_eq_of_lt hb),hb⟩
  intro aY aJ;conv=>cbv
  have bg:=Mf (p:=t.toNat) (q:=2^(i'%32)) aJ (by omega) (by omega) (by omega) a1;have bq:t.toNat ||| 2^(i'%32)<4294967296:=Nat.or_lt_two_pow (n:=32) t.toNat_lt a1
  refine AH ?_;intro M bk;conv=>cbv
  obtain⟨P,I⟩:=B4 (n:=aY) (by omega);have b7:=I.eq;have b9:=I.lt;refine⟨P,fun _=>⟨by show _<List.length (α:=UInt32) o;(first | omega | (simp;omega)),B3 I⟩,?_⟩;intro (d:List UInt32) (C:d=List.set (α:=UInt32) o M P);have bc:d.length=o.length:=by rw[C,List.length_set]
  conv=>cbv
  refine g2 rfl ?_;have ae:P.toNat=t.toNat ||| 2^(i'%32):=by omega
  have aa:2^(32*(i'/32)+i'%32)=2^i':=by congr 1;omega
  have s:=Z1 (o:=o) (q:=i'/32) (m:=i'%32) (x:=t) (w:=P) (by rw[show i'/32=S by omega];exact D) (by omega) (by rw[show 32*(i'/32)+i'%32+1=i'+1 by omega];exact hd) ae;rw[show i'/32=M by omega,<-C,show M=i'/32 by omega] at s;have F:m<=(d).length:=by omega
  obtain⟨ai,W⟩:=xN ((B1 ((d).take m)).length);obtain⟨aR,ab⟩:=D1 F W;refine .inr (.inr (.inl ⟨[],.one (.AQ .u32 0 0 0 ai),.arr 0 .u32 d,fun _=>⟨by first | decide | simp[Be,Bk],trivial⟩,fun _=>⟨Di hE (FP F (by omega) W),rfl,rfl⟩,?_⟩));try conv=>cbv
  have G:m<=(d).length:=by omega
  obtain⟨aj,Z⟩:=xN ((B1 ((d).take m)).length);obtain⟨aS,ad⟩:=D1 G Z;refine .inr (.inr (.inl ⟨[],.one (.AQ .u32 0 0 0 aj),.arr 0 .u32 d,fun _=>⟨by first | decide | simp[Be,Bk],trivial⟩,fun _=>⟨Di hE (FP G (by omega) Z),rfl,rfl⟩,?_⟩));try conv=>cbv
  obtain⟨R,hR⟩:=xN (AE d);obtain⟨b5,a5⟩:=xU (AS (R*R));have av:AE d*AE d=R*R:=by rw[hR]
  have ay:AE (d.take ai)=R:=by rw[ab,Aw,hR];congr 1;exact List.take_of_length_le (by omega)
  have az:AE (d.take aj)=R:=by rw[ad,Aw,hR];congr 1;exact List.take_of_length_le (by omega)
  refine .inr (.inr (.inr (.inl ⟨19,.arr 0 .u32 d,[.one (.AQ .u32 0 0 0 ai),.one (.AQ .u32 0 0 0 aj)],.one (.sl .u32 b5),fun _=>⟨rfl,⟨⟨⟨rfl,rfl⟩,rfl⟩,⟨⟨rfl,rfl⟩,rfl⟩,trivial⟩⟩,fun _=>FL hE (ZN (by omega) (by omega) (by omega) ay az a5),?_⟩)));try conv=>cbv
  obtain⟨bV,H⟩:=xI (BQ ((R*R:Nat):Int) a);refine AB hE (Jv a5 aQ H) ?_;conv=>cbv
  intro aZ ar;conv=>cbv
  refine g2 rfl ?_;refine .inr ?_;cases aZ <;> conv=>cbv
  ·have O:=Bf ar;intro ak aH;conv=>cbv
   refine AI ?_;refine⟨i',?_,?_⟩
   ·omega
   rw[Q];have v:2^i'∣AE o:=Nat.dvd_trans ⟨2,by rw[Nat.pow_succ]⟩ hd;refine⟨d,m,i',ak,rfl,rfl,⟨by omega,by omega,⟨by omega⟩,by omega⟩,⟨?_,?_,?_⟩,rfl⟩
   ·rw[s.1];exact Nat.dvd_add v (by rw[aa];exact Nat.dvd_refl _)
   ·rw[av];rw[H] at O;have:=aD O;exact this
   rw[s.1,aa];rw[Nat.pow_succ] at a8;rwa [show AE o+2^i'+2^i'=AE o+2^i'*2 by omega]
  have O:=Bg ar;intro bS bD;conv=>cbv
  refine g2 ⟨by omega,by omega,i64 (by omega)⟩ ?_;intro C3 bE;conv=>cbv
  refine g2 ⟨by omega,by omega,i64 (by omega)⟩ ?_;refine AH ?_;intro aA bm;conv=>cbv
  obtain⟨aE,a6⟩:=AL (l:=d) (i:=aA) (by omega);refine⟨aE,fun _=>a6,?_⟩;try conv=>cbv
  intro bT au;have an:=au.eq;have f55:=au.lt;conv=>cbv
  intro bU bF;conv=>cbv
  refine AH ?_;intro b0 aK;conv=>cbv
  refine AH ?_
  obtain⟨bh,br⟩:b0=((2^(i'%32):Nat):Int)/\2^(i'%32)<4294967296:=by
   have hb:2^(i'%32)<4294967296:=Nat.lt_of_le_of_lt (Nat.pow_le_pow_right (by decide) (by omega:i'%32<=31)) (by decide);have:=Po (p:=1) (e:=i'%32) aK rfl (by omega);rw[this,Nat.one_mul];exact⟨congrArg _ (Nat.mod_eq_of_lt hb),hb⟩
  intro b3 aL;conv=>cbv
  obtain⟨kk,aP⟩:=XM (o:=o) (q:=i'/32) (m:=i'%32) (x:=t) (by rw[show i'/32=S by omega];exact D) (by omega) (by rw[show 32*(i'/32)+i'%32+1=i'+1 by omega];exact hd)
  have an:aE=P:=by
   have:=a6;rw[C,show aA=i'/32 by omega,show M=i'/32 by omega,List.getElem?_set_self (by omega)] at this;exact (Option.some.inj this).symm
  have bp:=Za (p:=t.toNat) (m:=i'%32) aL (by rw[<-s.2,<-an];omega) (by omega) aP (by omega) (by rw[<-s.2];omega);refine AH ?_;intro aB bn;conv=>cbv
  obtain⟨al,K⟩:=B4 (n:=b3) (by omega);have b8:=K.eq;have ba:=K.lt;refine⟨al,fun _=>⟨by show _<List.length (α:=UInt32) d;(first | omega | (simp;omega)),B3 K⟩,?_⟩;intro (U:List UInt32) (V:U=List.set (α:=UInt32) d aB al);have bd:U.length=d.length:=by rw[V,List.length_set]
  conv=>cbv
  refine g2 rfl ?_;intro ak aH;conv=>cbv
  refine AI ?_;refine⟨i',?_,?_⟩
  ·omega
  rw[Q];have v:2^i'∣AE o:=Nat.dvd_trans ⟨2,by rw[Nat.pow_succ]⟩ hd
  have B:U=o:=by
   have e1:al=t:=UInt32.toNat_inj.1 (by omega);rw[V,C,show aB=i'/32 by omega,show M=i'/32 by omega,List.set_set,e1];exact fD (by rw[show i'/32=S by omega];exact D)
  refine⟨U,m,i',ak,rfl,rfl,⟨by rw[B];exact ho,by rw[B];exact hm,⟨by omega⟩,by omega⟩,?_,rfl⟩;rw[B];refine⟨v,aw,?_⟩;rw[H] at O;have:=aC O;rw[<-av,s.1,aa] at this;exact this
 exact absurd hx.neg (by simp;omega)
theorem gR {α:Type} {X Y:List α} {x y:α} (d:X[i]? =some x) (f:Y[i]? =some y) (h:X.take i=Y.take i) (e:x=y):X.take (i+1)=Y.take (i+1):=by
 rw[List.take_add_one,List.take_add_one,d,f,h,e]
theorem LL (I:Af x b1 l1) (J:Af y b2 l2) (G:c=decide (x=y)):CF 379 [.agg (BC b1 l1),.agg (BC b2 l2)] (.one (.bool c)):=by
 refine AM Tryz.func379 fun E hE=>?_
 conv=>cbv
 intro P r;conv=>cbv
 cases P <;> conv=>cbv
 ·have n:=Ig r;rintro ab ⟨K,f14⟩;conv=>cbv
  rintro ad ⟨a1,f17⟩;conv=>cbv
  intro Q s;conv=>cbv
  cases Q <;> conv=>cbv
  ·have M:=BY s;refine .inr ?_;obtain⟨J0,h⟩:=xJ fun vs bl k=>∃(k':Nat) (j:Int),vs=[.one (.Ae 2 0 0),.one (.Ae 3 0 0),.one (.bool false),.one (.int .i64 j)]/\bl=[.var 0 [.bool b1,.sl .u32 l1],.var 0 [.bool b2,.sl .u32 l2]]/\(AR j k'/\k'<=l1.length/\l1.length=l2.length/\b1=b2)/\l1.take k'=l2.take k'/\k=l1.length-k'
   refine⟨[],[2,3,4,5],[2,3],J0,⟨l1.length-0,by rw[h];exact⟨0,0,rfl,rfl,⟨Ak 0,by omega,by omega,n⟩,rfl,rfl⟩⟩,?_⟩;intro vs bl aa H;rw[h] at H;obtain⟨k',j,rfl,rfl,⟨H,a7,F,D⟩,hinv,a8⟩:=H;conv=>cbv
   have ej:=H.eq;rintro ae ⟨a2,f23⟩;conv=>cbv
   intro S t;conv=>cbv
   cases S <;> conv=>cbv
   ·have N:=AY t;exact AD ⟨⟨rfl,congrArg _ (by rw[G];exact (decide_eq_true ((I.iff J).2 ⟨D,by have p:=hinv;rw[show k'=l1.length by omega,List.take_length,F,List.take_length] at p;exact p⟩))),trivial⟩,trivial⟩
   have N:=AZ t;refine .inr ?_;obtain⟨W,d⟩:=AL (l:=l1) (i:=k') (by omega);refine⟨W,fun _=>⟨by omega,by rw[show (j).toNat=k' by omega];exact d⟩,?_⟩;try conv=>cbv
   intro af v;have a5:=v.eq;have f31:=v.lt;conv=>cbv
   obtain⟨Z,f⟩:=AL (l:=l2) (i:=k') (by omega);refine⟨Z,fun _=>⟨by omega,by rw[show (j).toNat=k' by omega];exact f⟩,?_⟩;try conv=>cbv
   intro ag B;have L:=B.eq;have f36:=B.lt;conv=>cbv
   intro V C;conv=>cbv
   refine g2 rfl ?_;cases V <;> conv=>cbv
   ·have O:=BY C;intro U a6;conv=>cbv
    refine AI ?_;refine⟨l1.length-(k'+1),?_,?_⟩
    ·omega
    rw[h];exact⟨k'+1,U,rfl,rfl,⟨⟨by omega⟩,by omega,F,D⟩,gR d f hinv (UInt32.toNat_inj.1 (by omega)),rfl⟩
   have O:=BZ C;exact AD ⟨⟨rfl,congrArg _ (by rw[G];exact (decide_eq_false (fun e=>by have p:=((I.iff J).1 e).2;have h2:=d;rw[p,f] at h2;have h3:=Option.some.inj h2;rw[h3] at L;omega))),trivial⟩,trivial⟩
  have M:=BZ s;exact AD ⟨⟨rfl,congrArg _ (by rw[G];exact (decide_eq_false (fun e=>by have p:=((I.iff J).1 e).2;rw[p] at K;omega))),trivial⟩,trivial⟩
 have n:=Ih r;exact AD ⟨⟨rfl,congrArg _ (by rw[G];exact (decide_eq_false (fun e=>n ((I.iff J).1 e).1))),trivial⟩,trivial⟩
theorem Ye {q r:Rat} {c1 c2:Bool} {m1 m2:List UInt32} (h:BE q b1 l1 b2 l2) (Q:Bt q) (D:0<=r) (H:r*r=q) (v:BE r c1 m1 c2 m2):CF 346 [.agg (BV b1 l1 b2 l2)] (.AJ [(true,(BV c1 m1 c2 m2)),(false,[.bool true])]):=by
 have s:=Wr D H;have t:=Wq D H;have C:0<=q.num:=by rw[<-s.2,<-s.1];exact Int.mul_nonneg (by omega) (by omega)
 have B:(0:Int)<=(q.den:Int):=by omega
 have S:=h.small Q;obtain⟨I,M,d⟩:=AW (((BL q.num.toNat:Nat):Int));obtain⟨J,N,f⟩:=AW (((BL (q.den:Int).toNat:Nat):Int));have F:=Iz h.num d;have G:=Iz h.den f;refine AM Tryz.func346 fun E p=>?_
 conv=>cbv
 cases b1 <;> conv=>cbv
 ·refine AB p (LJ h.num C d (by omega)) ?_;conv=>cbv
  refine AB p (LJ h.den B f (by omega)) ?_;conv=>cbv
  obtain⟨K,O,j⟩:=AW (((BL q.num.toNat:Nat):Int)*((BL q.num.toNat:Nat):Int));refine AB p (DF d d j (by omega) (by omega)) ?_;conv=>cbv
  refine AB (r:= .one (.bool true)) p (LL j h.num (by rw[s.1];exact (decide_eq_true s.2).symm)) ?_;try conv=>cbv
  refine BK ?_;conv=>cbv
  obtain⟨L,P,n⟩:=AW (((BL (q.den:Int).toNat:Nat):Int)*((BL (q.den:Int).toNat:Nat):Int));refine AB p (DF f f n (by omega) (by omega)) ?_;conv=>cbv
  refine AB (r:= .one (.bool true)) p (LL n h.den (by rw[t.1];exact (decide_eq_true t.2).symm)) ?_;try conv=>cbv
  refine BK ?_;conv=>cbv
  refine g2 rfl ?_;exact AD ⟨⟨rfl,congrArg _ ((d.uniq v.num s.1).1.symm),congrArg _ ((d.uniq v.num s.1).2.symm),congrArg _ ((f.uniq v.den t.1).1.symm),congrArg _ ((f.uniq v.den t.1).2.symm),trivial⟩,t2,trivial⟩
 exact absurd (of_decide_eq_true h.num.neg.symm) (by omega)
theorem Yd {q:Rat} (n:BE q b1 l1 b2 l2) (hs:Bt q) (Z:¬∃r:Rat,0<=r/\r*r=q):CF 346 [.agg (BV b1 l1 b2 l2)] (.AJ [(true,[.bool false,.sl .u32 [],.bool false,.sl .u32 []]),(false,[.bool false])]):=by
 have F:(0:Int)<=(q.den:Int):=by omega
 have a1:=n.small hs;obtain⟨L,P,d⟩:=AW (((BL q.num.toNat:Nat):Int));obtain⟨M,Q,f⟩:=AW (((BL (q.den:Int).toNat:Nat):Int));have J:=Iz n.num d;have K:=Iz n.den f;refine AM Tryz.func346 fun E t=>?_
 conv=>cbv
 cases b1 <;> conv=>cbv
 ·have G:0<=q.num:=by have:=of_decide_eq_false n.num.neg.symm;omega
  refine AB t (LJ n.num G d (by omega)) ?_;conv=>cbv
  refine AB t (LJ n.den F f (by omega)) ?_;conv=>cbv
  obtain⟨N,S,p⟩:=AW (((BL q.num.toNat:Nat):Int)*((BL q.num.toNat:Nat):Int));refine AB t (DF d d p (by omega) (by omega)) ?_;conv=>cbv
  obtain⟨V,h⟩:=xB (decide (((BL q.num.toNat:Nat):Int)*((BL q.num.toNat:Nat):Int)=q.num));refine AB t (LL p n.num h) ?_;conv=>cbv
  intro H v;conv=>cbv
  cases H <;> conv=>cbv
  ·have C:=CN v;obtain⟨O,U,s⟩:=AW (((BL (q.den:Int).toNat:Nat):Int)*((BL (q.den:Int).toNat:Nat):Int));refine AB t (DF f f s (by omega) (by omega)) ?_;conv=>cbv
   obtain⟨W,j⟩:=xB (decide (((BL (q.den:Int).toNat:Nat):Int)*((BL (q.den:Int).toNat:Nat):Int)=(q.den:Int)));refine AB t (LL s n.den j) ?_;conv=>cbv
   intro I B;conv=>cbv
   refine g2 rfl ?_;cases I <;> conv=>cbv
   ·have D:=CN B;exact absurd (Wp (of_decide_eq_true (h.symm.trans (by simpa using C))) (of_decide_eq_true (j.symm.trans (by simpa using D)))) Z
   have D:=CO B;exact AD ⟨⟨rfl,rfl,Bo,rfl,Bo,trivial⟩,t2,trivial⟩
  have C:=CO v;refine g2 rfl ?_;exact AD ⟨⟨rfl,rfl,Bo,rfl,Bo,trivial⟩,t2,trivial⟩
 exact AD ⟨⟨rfl,rfl,Bo,rfl,Bo,trivial⟩,t2,trivial⟩
end Go.Abs
namespace Go.Abs
open Go.RowKit
variable {A:LR} {T:List LR} {q:Rat}
theorem ZF {B:LR} {r:Rat} (K:T=[]) (F:A=[rp q]) (I:B=[rp r]) (M:Bt q) (G:0<=r) (L:r*r=q):CF 299 [.one (.sl (.sl AA) T),.one (.sl AA A)] (.AJ [(false,[.sl AA B]),(false,[.bool true])]):=by
 refine AM Tryz.func299 fun E J=>?_
 conv=>cbv
 rintro N ⟨v,f31⟩;conv=>cbv
 intro C h;conv=>cbv
 cases C <;> conv=>cbv
 ·have j:=AN h;exact absurd (by rw[v,K];rfl) j
 have j:=AO h;have H:A.length=1:=by rw[F];rfl
 obtain⟨D,d⟩:=AL (l:=A) (i:=0) (by omega);refine⟨D,fun _=>⟨by omega,d⟩,?_⟩;try conv=>cbv
 obtain⟨s,t,n,p,f⟩:=Bl r;refine AB J (Ye (ED F d) M G L f) ?_;conv=>cbv
 refine⟨[((s,t),(n,p))],fun _=>⟨rfl,by decide,rfl,⟨rfl,by first | exact t1 | exact t2 | exact t4 | simp[Aq,BG,cells],trivial⟩⟩,.inl ?_⟩;try conv=>cbv
 exact AD ⟨⟨rfl,.inl ⟨_,rfl,by simp,congrArg _ (by rw[I,f.rp];rfl)⟩,trivial⟩,t2,trivial⟩
theorem ZE {l:LR} (B:T=[]) (s:A=[rp q]) (C:l=[(((false,[]),(false,[])):el AA)]) (F:Bt q) (D:¬∃r:Rat,0<=r/\r*r=q):CF 299 [.one (.sl (.sl AA) T),.one (.sl AA A)] (.AJ [(false,[.sl AA l]),(false,[.bool false])]):=by
 refine AM Tryz.func299 fun E v=>?_
 conv=>cbv
 rintro G ⟨j,f31⟩;conv=>cbv
 intro n f;conv=>cbv
 cases n <;> conv=>cbv
 ·have h:=AN f;exact absurd (by rw[j,B];rfl) h
 have h:=AO f;have t:A.length=1:=by rw[s];rfl
 obtain⟨p,d⟩:=AL (l:=A) (i:=0) (by omega);refine⟨p,fun _=>⟨by omega,d⟩,?_⟩;try conv=>cbv
 refine AB v (Yd (ED s d) F D) ?_;conv=>cbv
 refine⟨[((false,[]),(false,[]))],fun _=>⟨rfl,by decide,rfl,⟨rfl,by first | exact t1 | exact t2 | exact t4 | simp[Aq,BG,cells],trivial⟩⟩,.inl ?_⟩;try conv=>cbv
 exact AD ⟨⟨rfl,.inl ⟨_,rfl,by simp,congrArg _ (by rw[C];rfl)⟩,trivial⟩,t2,trivial⟩
def Q7 (R:Nat) (u:List (List Rat)):Prop:=∀{s:Nat} {x:Re},El u s x->SS u.length R s<=60000000000000->VV u.length R R<=60000000000000->(∃w,In u w/\w*w=x/\Gt u x w)\/(¬Sq u x/\∃l,Gs u x l)
theorem QF {u:List (List Rat)} {R:Nat} (h:Ah R u):Q7 R u:=by
 induction u with
 | nil=>
  intro s x K S C;obtain⟨q,rfl⟩:=CV.1 K.mem
  have ah:Bt q:=by
   have:=K.B8 (by have:=Qk ([]:List (List Rat)).length R s;omega);rw[DY] at this;exact this q List.mem_cons_self
  by_cases hr:∃r:Rat,0<=r/\r*r=q
  ·obtain⟨r,Q,hr⟩:=hr;refine .inl ⟨Re.ofRat r,G8 r _,by rw[<-Re.ofRat_mul,hr],?_⟩;intro T A B F D hB;exact ZF F (D.trans (Dl q)) (hB.trans (Dl r)) ah Q hr
  exact .inr ⟨fun S=>hr (Wk.1 S),_,fun F D=>ZE F (D.trans (Dl q)) rfl ah hr⟩
 | cons r u v=>
  have v:Q7 R u:=v h.tail;intro s x K S C;obtain⟨p,q,d,H,N⟩:=El.parts h.red K
  by_cases ab:x<0
  ·refine .inr ⟨?_,[],fun F D=>ZJ h F D K d H N S C ab⟩
   rintro⟨w,_,hw⟩
   have:=Re.Pw w
   clear v;grind
  have I:0<=x:=by clear v;grind
  have ax:TQ u.length R s=3*s+4*EE u.length R+R+GG u.length R+3+II u.length R R:=rfl;have az:SS u.length R (TQ u.length R s)<=SS (r::u).length R s:=Qj u.length R s;have hQ:∀s',s'<=TQ u.length R s->SS u.length R s'<=60000000000000:=fun s' h'=>Nat.le_trans (LF u.length R h') (by omega)
  have G:VV u.length R R<=60000000000000:=Nat.le_trans (Qo u.length R R) C;have ar:=El.Cj h;have au:=CX h.red
  by_cases Q:q=0
  ·have a6:x=p:=by rw[d,Q];clear v;grind
   rcases v H (hQ _ (by omega)) G with⟨w,hw,f,hy⟩ |⟨M,l,hn⟩
   ·refine .inl ⟨w,G9 hw,by rw[a6];exact f,?_⟩;intro T A B F D hB;exact ZK h F D K d H N S C I Q hw hy hB
   obtain⟨i,U,O⟩:=EP h.red.1 (CQ h.red) (by have:=h.red.2.2.1;grind);have al:=ar.inv h.tail U O;rcases v (H.mul h.tail al) (hQ _ (by omega)) G with⟨w,hw,f,hy⟩ |⟨af,l2,ao⟩
   ·refine .inl ⟨w*rt u r,Cd.2 ⟨0,w,CH u,hw,by clear v;grind⟩,?_,?_⟩
    ·have:p=p*(AP u r*i):=by rw[O];clear v;grind
     rw[a6];clear v;grind
    intro T A B F D hB;exact ZL h F D K d H N S C I Q U O hn hw hy hB
   refine .inr ⟨?_,[],?_⟩
   ·rw[a6,Wi h.red H.mem];rintro (h1 |⟨i',ay,ag,h1⟩)
    ·exact M h1
    have:i'=i:=by
     have:i'=i'*(AP u r*i):=by rw[O];clear v;grind
     have h2:i=i*(AP u r*i'):=by rw[ag];clear v;grind
     clear v;grind
    rw[this] at h1;exact af h1
   intro T A F D;exact ZM h F D K d H N S C I Q U O hn ao
  have hN:=El.norm h H.mem N.mem (d ▸ K);rcases v hN (hQ _ (by omega)) G with⟨n,hn,J,ak⟩ |⟨M,l,aq⟩
  rotate_left
  ·exact .inr ⟨fun hS=>M (Wm h.red H.mem N.mem (d ▸ hS)),[],fun F D=>ZG h F D K d H N S C I Q aq⟩
  have aa:=hN.sqrt h.tail hn J;obtain⟨t,ht⟩:∃t:Re,t=Re.ofRat (1/2):=⟨_,rfl⟩
  have V:=Tl ht;have a5:El u 1 t:=by rw[ht];exact El.rat h.red.1 J7
  obtain⟨y,hy⟩:∃y:Nat->Re,y=fun i=>if i=0 then p+n else p-n:=⟨_,rfl⟩
  have W:y 0=p+n:=by rw[hy];rfl
  have Z:y 1=p-n:=by rw[hy];rfl
  have a1:∀i,El u (s+(2*s+2*EE u.length R+R+1+GG u.length R)+1) (y i):=fun i=>by
   rw[hy]
   show El u _ (if i=0 then p+n else p-n)
   by_cases U:i=0
   ·rw[if_pos U];exact H.add h.red.1 aa
   rw[if_neg U];exact H.sub h.red.1 aa
  have a2:∀(k0:Nat) (L:Nat->LR) (w:Re),k0<2->(∀i,i<k0->Gs u (t*y i) (L i))->In u w->w*w=t*y k0->Gt u (t*y k0) w->
    ∃w,In (r::u) w/\w*w=x/\Gt (r::u) x w:=by
   intro k0 L w hk M hw f P
   have key:∃m,m*m=p*p-q*q*AP u r/\y k0=p+m:=by
    rcases (show k0=0\/k0=1 by omega) with rfl | rfl
    ·exact⟨n,J,W⟩
    exact⟨-n,by rw[<-J];clear v;grind,by rw[Z];clear v;grind⟩
   obtain⟨m,a7,aj⟩:=key;have aw:w≠0:=Wh h.red Q a7 V (by rw[f,aj]);obtain⟨j,hj,ai⟩:=EP h.red.1 hw aw;have av:In u (t*(q*j)):=Am h.red.1 a5.mem (Am h.red.1 N.mem hj);refine⟨w+t*(q*j)*rt u r,Cd.2 ⟨_,_,hw,av,rfl⟩,?_,?_⟩
   ·rw[d]
    exact Wg a7 V au (by rw[f,aj]) (i:=t*j) (by have:(w+w)*(t*j)=2*t*(w*j):=by clear v;grind
                                                rw[this,V,ai];clear v;grind) (by clear v;grind)
   intro T A B F D hB;exact ZH h F D K d H N S C I Q hn J ht ak W Z a1 (by omega) M hk hw f P hj ai hB
  rcases v (a5.mul h.tail (a1 0)) (hQ _ (by omega)) G with⟨w,hw,f,P⟩ |⟨ad,l0,a8⟩
  ·exact .inl (a2 0 (fun _=>[]) w (by omega) (fun i U=>by omega) hw f P)
  rcases v (a5.mul h.tail (a1 1)) (hQ _ (by omega)) G with⟨w,hw,f,P⟩ |⟨ae,l1,an⟩
  ·exact .inl (a2 1 (fun _=>l0) w (by omega) (fun i U=>by rw[show i=0 by omega];exact a8) hw f P)
  refine .inr ⟨fun hS=>?_,[],?_⟩
  ·rcases Wn h.red H.mem N.mem (d ▸ hS) J V with e | e
   ·exact ad (by rw[W];exact e)
   exact ae (by rw[Z];exact e)
  intro T A F D
  exact ZI h F D K d H N S C I Q hn J ht ak W Z a1 (L:=fun i=>if i=0 then l0 else l1) (Nat.le_refl 2) (fun i U=>by
   rcases (show i=0\/i=1 by omega) with rfl | rfl
   ·exact a8
   exact an) rfl
end Go.Abs
namespace Go.Abs
open Go.RowKit
variable {A:LR} {R:Nat} {T X Y:List LR} {b1 b2 c:Bool} {g:FuncId} {l1 l2:List UInt32} {u w:List (List Rat)} {x:Re} {xs ys:List Rat}
theorem N3 (p q:Rat):decide (p=q)=(FV p q==0):=by
 rw[Bool.eq_iff_iff,decide_eq_true_eq,beq_iff_eq];unfold FV
 split
 ·rename_i h;exact⟨fun e=>by subst e;grind,fun e=>by omega⟩
 split
 ·rename_i h;exact⟨fun e=>by subst e;grind,fun e=>by omega⟩
 exact⟨fun _=>rfl,fun _=>by grind⟩
theorem Pc {p q:Rat} (h:rp p=rp q):p=q:=by
 have d:=Fa p;rw[h] at d;have f:=Fa q;have e1:=d.num.nat;have j:=f.num.nat;have s1:=d.num.Dz;have s2:=f.num.Dz;have d1:=d.den.Dz;have d2:=f.den.Dz;exact Rat.ext (s1.trans s2.symm) (by have:=d1.trans d2.symm;omega)
theorem eN (h:Aj xs=Aj ys):xs=ys:=List.map_inj_right (fun _ _=>Pc) |>.1 h
def EO {α:Type} (p:α->α->Bool):List α->List α->Bool
 | [],[]=>true
 | x::X,y::Y=>p x y&&EO p X Y
 | _,_=>false
theorem OG {α:Type} {p:α->α->Bool}:∀{X Y:List α},X.length≠Y.length->EO p X Y=false
 | [],[],h=>absurd rfl h
 |[],_::_,_|_::_,[],_=>rfl
 | x::X,y::Y,h=>by rw[EO,OG (X:=X) (Y:=Y) (by simpa using h),Bool.and_false]
theorem Ly {α:Type} {p:α->α->Bool} {X Y:List α} {i:Nat} {x y:α} (d:X[i]? =some x) (f:Y[i]? =some y):EO p (X.drop i) (Y.drop i)=(p x y&&EO p (X.drop (i+1)) (Y.drop (i+1))):=by
 have h:=FI d;have j:=FI f;rw[List.drop_eq_getElem_cons h,List.drop_eq_getElem_cons j,EO];rw[List.getElem?_eq_getElem h] at d;rw[List.getElem?_eq_getElem j] at f;rw[Option.some.inj d,Option.some.inj f]
theorem OF {α:Type} {p:α->α->Bool}:∀{X Y:List α},(∀x∈X,∀y∈Y,(p x y=true↔x=y))->(EO p X Y=true↔X=Y)
 |[],[],_|[],_::_,_|_::_,[],_=>by simp[EO]
 | x::X,y::Y,h=>by
  rw[EO,Bool.and_eq_true,h x List.mem_cons_self y List.mem_cons_self,OF (fun a d b f=>h a (List.mem_cons_of_mem _ d) b (List.mem_cons_of_mem _ f))];simp
theorem eT {p q:Rat} {c1 c2:Bool} {m1 m2:List UInt32} (r:BE p b1 l1 b2 l2) (s:BE q c1 m1 c2 m2) (n:Bt p) (ht:Bt q) (j:c=decide (p=q)):CF 337 [.agg (BV b1 l1 b2 l2),.agg (BV c1 m1 c2 m2)] (.one (.bool c)):=by
 refine AM Tryz.func337 fun E h=>?_
 conv=>cbv
 obtain⟨v,d⟩:=xI (FV p q);refine AB h (Xx r s n ht d) ?_;conv=>cbv
 intro t f;conv=>cbv
 exact AD ⟨⟨rfl,congrArg _ (by rw[j,f,d];exact N3 p q),trivial⟩,trivial⟩
theorem Xd {X Y:LR} {p:el AA->el AA->Bool} (hg:∀x∈X,∀y∈Y,CF g [.agg (cells AA x),.agg (cells AA y)] (.one (.bool (p x y)))) (O:c=EO p X Y):CF 336 [.one (.sl AA X),.one (.sl AA Y),.one (.fn g)] (.one (.bool c)):=by
 refine AM Tryz.func336 fun E hE=>?_
 conv=>cbv
 rintro a6 ⟨U,f11⟩;conv=>cbv
 rintro a7 ⟨V,f13⟩;conv=>cbv
 intro H v;conv=>cbv
 cases H <;> conv=>cbv
 ·have D:=BY v;intro I s;have W:=s.eq;have f16:=s.le;conv=>cbv
  refine .inr ?_;obtain⟨Q,t⟩:=xJ fun vs S k=>∃(i':Nat) (L i:Int),vs=[.one (.sl AA Y),.one (.fn g),.one (.sl AA X),.one (.int .i64 L),.one (.int .i64 i)]/\(Cl L X.length/\AR i i'/\i'<=X.length)/\c=EO p (X.drop i') (Y.drop i')/\k=X.length-i'
  refine⟨[],[1,2,15,16,17],[],Q,⟨X.length-0,by rw[t];exact⟨0,I,0,rfl,⟨s,Ak 0,by omega⟩,O,rfl⟩⟩,?_⟩;intro vs S a5 P;rw[t] at P;obtain⟨i',L,i,rfl,⟨N,hi,a1⟩,hinv,a2⟩:=P;conv=>cbv
  have eL:=N.eq;have ei:=hi.eq;intro J B;conv=>cbv
  cases J <;> conv=>cbv
  ·have F:=AY B;exact AD ⟨⟨rfl,congrArg _ (by rw[hinv,List.drop_eq_nil_of_le (by omega),List.drop_eq_nil_of_le (by omega)];rfl),trivial⟩,trivial⟩
  have F:=AZ B;refine .inr ?_;obtain⟨d,h⟩:=AL (l:=X) (i:=i') (by omega);refine⟨d,fun _=>⟨by omega,by rw[show (i).toNat=i' by omega];exact h⟩,?_⟩;try conv=>cbv
  obtain⟨f,j⟩:=AL (l:=Y) (i:=i') (by omega);refine⟨f,fun _=>⟨by omega,by rw[show (i).toNat=i' by omega];exact j⟩,?_⟩;try conv=>cbv
  obtain⟨C,n⟩:=xB (p d f);refine .inl ⟨[.agg [.bool d.1.1,.sl .u32 d.1.2,.bool d.2.1,.sl .u32 d.2.2],.agg [.bool f.1.1,.sl .u32 f.1.2,.bool f.2.1,.sl .u32 f.2.2]],.one (.bool C),fun _=>⟨t4,t4,trivial⟩,fun _=>ES hE ((by rw[n];exact hg d (List.mem_of_getElem? h) f (List.mem_of_getElem? j))),?_⟩;try conv=>cbv
  intro K r;conv=>cbv
  cases K <;> conv=>cbv
  ·have G:=CN r;intro M Z;conv=>cbv
   refine AI ?_;refine⟨X.length-(i'+1),?_,?_⟩
   ·omega
   rw[t];refine⟨i'+1,L,M,rfl,⟨N,⟨by omega⟩,by omega⟩,?_,rfl⟩;rw[hinv,Ly h j,<-n,CN r,Bool.true_and]
  have G:=CO r;exact AD ⟨⟨rfl,congrArg _ (by rw[hinv,Ly h j,<-n,CO r];rfl),trivial⟩,trivial⟩
 have D:=BZ v;exact AD ⟨⟨rfl,congrArg _ (by rw[O];exact OG (by omega)),trivial⟩,trivial⟩
theorem Xe {p:LR->LR->Bool} (hg:∀x∈X,∀y∈Y,CF g [.one (.sl AA x),.one (.sl AA y)] (.one (.bool (p x y)))) (O:c=EO p X Y):CF 335 [.one (.sl (.sl AA) X),.one (.sl (.sl AA) Y),.one (.fn g)] (.one (.bool c)):=by
 refine AM Tryz.func335 fun E hE=>?_
 conv=>cbv
 rintro a6 ⟨U,f11⟩;conv=>cbv
 rintro a7 ⟨V,f13⟩;conv=>cbv
 intro H v;conv=>cbv
 cases H <;> conv=>cbv
 ·have D:=BY v;intro I s;have W:=s.eq;have f16:=s.le;conv=>cbv
  refine .inr ?_;obtain⟨Q,t⟩:=xJ fun vs S k=>∃(i':Nat) (L i:Int),vs=[.one (.sl (.sl AA) Y),.one (.fn g),.one (.sl (.sl AA) X),.one (.int .i64 L),.one (.int .i64 i)]/\(Cl L X.length/\AR i i'/\i'<=X.length)/\c=EO p (X.drop i') (Y.drop i')/\k=X.length-i'
  refine⟨[],[1,2,15,16,17],[],Q,⟨X.length-0,by rw[t];exact⟨0,I,0,rfl,⟨s,Ak 0,by omega⟩,O,rfl⟩⟩,?_⟩;intro vs S a5 P;rw[t] at P;obtain⟨i',L,i,rfl,⟨N,hi,a1⟩,hinv,a2⟩:=P;conv=>cbv
  have eL:=N.eq;have ei:=hi.eq;intro J B;conv=>cbv
  cases J <;> conv=>cbv
  ·have F:=AY B;exact AD ⟨⟨rfl,congrArg _ (by rw[hinv,List.drop_eq_nil_of_le (by omega),List.drop_eq_nil_of_le (by omega)];rfl),trivial⟩,trivial⟩
  have F:=AZ B;refine .inr ?_;obtain⟨n,d⟩:=AL (l:=X) (i:=i') (by omega);refine⟨n,fun _=>⟨by omega,by rw[show (i).toNat=i' by omega];exact d⟩,?_⟩;try conv=>cbv
  obtain⟨r,f⟩:=AL (l:=Y) (i:=i') (by omega);refine⟨r,fun _=>⟨by omega,by rw[show (i).toNat=i' by omega];exact f⟩,?_⟩;try conv=>cbv
  obtain⟨C,h⟩:=xB (p n r);refine .inl ⟨[.one (.sl AA n),.one (.sl AA r)],.one (.bool C),fun _=>t2,fun _=>ES hE ((by rw[h];exact hg n (List.mem_of_getElem? d) r (List.mem_of_getElem? f))),?_⟩;try conv=>cbv
  intro K j;conv=>cbv
  cases K <;> conv=>cbv
  ·have G:=CN j;intro M Z;conv=>cbv
   refine AI ?_;refine⟨X.length-(i'+1),?_,?_⟩
   ·omega
   rw[t];refine⟨i'+1,L,M,rfl,⟨N,⟨by omega⟩,by omega⟩,?_,rfl⟩;rw[hinv,Ly d f,<-h,CN j,Bool.true_and]
  have G:=CO j;exact AD ⟨⟨rfl,congrArg _ (by rw[hinv,Ly d f,<-h,CO j];rfl),trivial⟩,trivial⟩
 have D:=BZ v;exact AD ⟨⟨rfl,congrArg _ (by rw[O];exact OG (by omega)),trivial⟩,trivial⟩
theorem eX (j:DU xs) (ht:DU ys):∀x∈Aj xs,∀y∈Aj ys,CF 337 [.agg (cells AA x),.agg (cells AA y)] (.one (.bool (decide (x=y)))):=by
 intro x n y r;obtain⟨p,d,rfl⟩:=List.mem_map.1 n;obtain⟨q,f,rfl⟩:=List.mem_map.1 r;refine eT (Fa p) (Fa q) (j p d) (ht q f) ?_
 by_cases h:p=q
 ·subst h;simp
 rw[decide_eq_false h,decide_eq_false (fun e=>h (Pc e))]
theorem eW {X Y:LR} (j:X=Aj xs) (n:Y=Aj ys) (s:DU xs) (ht:DU ys) (p:c=decide (X=Y)):CF 283 [.one (.sl AA X),.one (.sl AA Y)] (.one (.bool c)):=by
 refine AM Tryz.func283 fun E h=>?_
 conv=>cbv
 obtain⟨f,d⟩:=xB (EO (fun x y=>decide (x=y)) X Y);refine AB (r:= .one (.bool f)) h (Xd (by rw[j,n];exact eX s ht) d) ?_;try conv=>cbv
 exact AD ⟨⟨rfl,congrArg _ (by rw[p,d,Bool.eq_iff_iff,decide_eq_true_eq];exact (OF (fun x _ y _=>by rw[decide_eq_true_eq])).symm),trivial⟩,trivial⟩
theorem eU (hu:Ah R u) (hw:Ah R w) (d:∀x∈X,x∈tw u) (f:∀y∈Y,y∈tw w):∀x∈X,∀y∈Y,CF 283 [.one (.sl AA x),.one (.sl AA y)] (.one (.bool (decide (x=y)))):=by
 intro x n y r;obtain⟨p,h,rfl⟩:=List.mem_map.1 (d x n);obtain⟨q,j,rfl⟩:=List.mem_map.1 (f y r);exact eW rfl rfl ((hu.tb p (List.mem_reverse.1 h)).B8 hu.hR) ((hw.tb q (List.mem_reverse.1 j)).B8 hw.hR) rfl
theorem R9 (hu:Ah R u) (hw:Ah R w) (D:X=tw u) (F:Y=tw w) (r:c=(decide (Y.length<=X.length)&&decide (X.take Y.length=Y))):CF 282 [.one (.sl (.sl AA) X),.one (.sl (.sl AA) Y)] (.one (.bool c)):=by
 refine AM Tryz.func282 fun E C=>?_
 conv=>cbv
 rintro N ⟨L,f6⟩;conv=>cbv
 rintro O ⟨M,f8⟩;conv=>cbv
 intro K n;conv=>cbv
 cases K <;> conv=>cbv
 ·have H:=F4 n;exact AD ⟨⟨rfl,congrArg _ (by rw[r,decide_eq_false (show ¬Y.length<=X.length by omega),Bool.false_and]),trivial⟩,trivial⟩
 have H:=F5 n;rintro J ⟨B,f13⟩;conv=>cbv
 intro I s;conv=>cbv
 refine AH ?_;intro h p;conv=>cbv
 intro j f;conv=>cbv
 obtain⟨v,d⟩:=xB (EO (fun x y=>decide (x=y)) j Y);refine AB C (Xe (eU hu hw (fun x t=>by rw[f,List.drop_zero] at t;rw[<-D];exact List.mem_of_mem_take t) (fun y G=>by rw[<-F];exact G)) d) ?_;try conv=>cbv
 exact AD ⟨⟨rfl,congrArg _ (by rw[r,decide_eq_true (show Y.length<=X.length by omega),Bool.true_and,d,f,List.drop_zero,show h=Y.length by omega,Bool.eq_iff_iff,decide_eq_true_eq];exact (OF (fun x _ y _=>by rw[decide_eq_true_eq])).symm),trivial⟩,trivial⟩
theorem gg (h:tw u=tw w):u=w:=by
 have d:=(List.map_inj_right (fun _ _=>eN)).1 h;exact List.reverse_inj.1 d
theorem Py:w<:+u↔((tw w).length<=(tw u).length/\(tw u).take (tw w).length=tw w):=by
 constructor
 ·rintro⟨v,rfl⟩
  have e:tw (v++w)=tw w++tw v:=by rw[tw,tw,tw,List.reverse_append,List.map_append]
  rw[e];exact⟨by simp,List.take_left⟩
 rintro⟨f,d⟩
 rw[Bh,Bh] at f;rw[Bh,HE] at d;rw[<-gg d];exact List.drop_suffix _ _
theorem Zz (hu:Ah R u) (hw:Ah R w) (d:X=tw u) (f:Y=tw w) (h:w<:+u):CF 282 [.one (.sl (.sl AA) X),.one (.sl (.sl AA) Y)] (.one (.bool true)):=
 R9 hu hw d f (by have:=Py.1 h;rw[d,f,decide_eq_true this.1,decide_eq_true this.2];rfl)
theorem Zy (hu:Ah R u) (hw:Ah R w) (f:X=tw u) (j:Y=tw w) (h:¬w<:+u):CF 282 [.one (.sl (.sl AA) X),.one (.sl (.sl AA) Y)] (.one (.bool false)):=
 R9 hu hw f j (by
  by_cases d:Y.length<=X.length
  ·rw[decide_eq_true d,decide_eq_false (fun n=>h (Py.2 (by rw[<-f,<-j];exact⟨d,n⟩)))];rfl
  rw[decide_eq_false d];rfl)
theorem Si {q:Rat} (j:BE q b1 l1 b2 l2) (f:Bt q):CF 301 [.agg (BV b1 l1 b2 l2)] (.agg (BV b1 l1 b2 l2)):=by
 have h:=j.small f;refine AM Tryz.func301 fun E d=>?_
 conv=>cbv
 refine AB d (IW rfl (by omega)) ?_;conv=>cbv
 refine AB d (IW rfl (by omega)) ?_;conv=>cbv
 refine g2 rfl ?_;exact AD ⟨⟨rfl,rfl,rfl,rfl,rfl,trivial⟩,trivial⟩
theorem N8 {X:LR} (N:X=Aj xs) (hs:DU xs) (hn:xs.length<=1000000):CF 256 [.one (.sl AA X)] (.one (.sl AA X)):=by
 have Z:X.length=xs.length:=by rw[N,List.length_map]
 refine AM Tryz.func256 fun E W=>?_
 conv=>cbv
 rintro n7 ⟨e7,f7⟩;conv=>cbv
 refine⟨fun _=>⟨by omega,by omega,by show _*64<=140737488355328;omega⟩,?_⟩;intro D (F:LR) t;have a5:=t.1;have v:F=List.replicate D (((false,[]),(false,[])):el AA):=t.2;have U:F.length=D:=by rw[v,List.length_replicate]
 conv=>cbv
 intro G h;have S:=h.eq;have f10:=h.le;conv=>cbv
 refine .inr ?_;obtain⟨Q,j⟩:=xJ fun vs J k=>∃(o:LR) (m i':Nat) (L i:Int),vs=[.one (.AQ AA 8 0 0 m),.one (.sl AA X),.one (.int .i64 L),.one (.int .i64 i)]/\J=[.arr 0 AA o]/\(o.length=X.length/\m=X.length/\Cl L X.length/\AR i i'/\i'<=X.length)/\o.take i'=X.take i'/\k=X.length-i'
 refine⟨[],[3,9,10,11],[8],Q,⟨X.length-0,by rw[j];exact⟨F,D,0,G,0,rfl,rfl,⟨by omega,by omega,h,Ak 0,by omega⟩,rfl,rfl⟩⟩,?_⟩;intro vs J a7 O;rw[j] at O;obtain⟨o,m,i',L,i,rfl,rfl,⟨ho,hm,M,hi,a1⟩,hinv,a2⟩:=O;conv=>cbv
 have eL:=M.eq;have ei:=hi.eq;intro H r;conv=>cbv
 cases H <;> conv=>cbv
 ·have C:=AY r;exact AD ⟨⟨rfl,.inl ⟨_,rfl,by omega,congrArg _ (by rw[hm,List.drop_zero];rw[show i'=X.length by omega] at hinv;rw[hinv,List.take_length])⟩,trivial⟩,trivial⟩
 have C:=AZ r;refine .inr ?_;obtain⟨p,d⟩:=AL (l:=X) (i:=i') (by omega);refine⟨p,fun _=>⟨by omega,by rw[show (i).toNat=i' by omega];exact d⟩,?_⟩;try conv=>cbv
 obtain⟨q,hq,a6,B⟩:=G4 N hs d;refine AB W (Si hq B) ?_;conv=>cbv
 refine AH ?_;intro s P;conv=>cbv
 refine⟨p,fun _=>⟨by show _<List.length (α:=(el AA)) o;(first | omega | (simp;omega)),t4⟩,?_⟩;intro (n:LR) (f:n=List.set (α:=(el AA)) o s p);have K:n.length=o.length:=by rw[f,List.length_set]
 conv=>cbv
 intro I V;conv=>cbv
 refine AI ?_;refine⟨X.length-(i'+1),?_,?_⟩
 ·omega
 rw[j];refine⟨n,m,i'+1,L,I,rfl,rfl,⟨by omega,by omega,M,⟨by omega⟩,by omega⟩,?_,rfl⟩;rw[f,show s=i' by omega,M4 (by omega),hinv,<-Ck d]
theorem OA {s:Nat} (h:Ah R u) (V:T=tw u) (hA:A=em u x) (hx:El u s x) (hs:s<=60000000000000:=by omega):CF 167 [.agg (Ay T A)] (.agg (Ay T A)):=by
 have a6:T.length=u.length:=by rw[V,Bh]
 have a7:=h.ht;refine AM Tryz.func167 fun E U=>?_
 conv=>cbv
 refine AB (r:= .one (.sl AA A)) U (N8 hA (hx.B8 hs) (by rw[hx.len];exact Hf h.ht)) ?_;try conv=>cbv
 intro a2 B;have a5:=B.eq;have f12:=B.le;conv=>cbv
 refine .inr ?_
 obtain⟨J0,p⟩:∃J:List AV->List AG->Nat->Prop,J=fun vs P k=>(∃(L i:Int),vs=[.one (.Ae 2 0 0),.one (.Ae 3 0 0),.one (.sl (.sl AA) T),.one (.int .i64 L),.one (.int .i64 i)]/\P=[.var 0 [.nil,.nil],.var 0 [.nil,.sl AA A],.dead 0]/\(Cl L T.length/\AR i 0)/\k=T.length)\/
  (∃(o:List LR) (mm i':Nat) (L i:Int),vs=[.one (.Ae 2 0 0),.one (.Ae 3 0 0),.one (.sl (.sl AA) T),.one (.int .i64 L),.one (.int .i64 i)]/\P=[.var 0 [.nil,.nil],.var 0 [.AQ (.sl AA) 22 0 0 mm,.sl AA A],.arr 0 (.sl AA) o]/\(Cl L T.length/\AR i i'/\i'<=T.length/\mm=o.length)/\o=T.take i'/\k=T.length-i'):=⟨_,rfl⟩
 refine⟨[],[2,3,11,12,13],[2,3,22],J0,⟨T.length,by rw[p];exact .inl ⟨a2,0,rfl,rfl,⟨B,Ak 0⟩,rfl⟩⟩,?_⟩;intro vs P ab hj;rw[p] at hj;rcases hj with⟨L,i,rfl,rfl,⟨K,W⟩,a1⟩ |⟨o,mm,i',L,i,rfl,rfl,⟨K,W,a8,N⟩,hinv,a1⟩
 ·conv=>cbv
  have eL:=K.eq;have ei:=W.eq;obtain⟨i',Z⟩:=xN 0;intro H j;conv=>cbv
  cases H <;> conv=>cbv
  ·have F:=AY j;exact AD ⟨⟨rfl,.inr (.inl ⟨_,congrArg _ (List.eq_nil_of_length_eq_zero (by omega))⟩),rfl,trivial⟩,trivial⟩
  have F:=AZ j;refine .inr ?_;obtain⟨f,d⟩:=AL (l:=T) (i:=i') (by omega);refine⟨f,fun _=>⟨by omega,by rw[show (i).toNat=i' by omega];exact d⟩,?_⟩;try conv=>cbv
  obtain⟨y,C,n⟩:=H5 V d;have D:y∈u:=List.mem_reverse.1 (List.mem_of_getElem? n);refine AB (r:= .one (.sl AA f)) U (N8 C ((h.tb y D).B8 h.hR) (by rw[JL h.red _ y n];exact Hf)) ?_;try conv=>cbv
  refine⟨[f],fun _=>⟨rfl,by decide,rfl,⟨rfl,by first | exact t1 | exact t2 | exact t4 | simp[Aq,BG,cells],trivial⟩⟩,.inr ?_⟩;try conv=>cbv
  refine .inl ⟨[f],fun _=>⟨rfl,by show (1)*24<=140737488355328;(try simp only[List.length_take,List.length_drop]);omega⟩,?_⟩;intro t Q;conv=>cbv
  refine g2 rfl ?_;intro I S;conv=>cbv
  refine AI ?_;refine⟨T.length-(i'+1),?_,?_⟩
  ·omega
  rw[p];exact .inr ⟨[f],t,i'+1,L,I,rfl,rfl,⟨K,⟨by omega⟩,by omega,Q⟩,by rw[Ck d,Z];rfl,rfl⟩
 conv=>cbv
 have eL:=K.eq;have ei:=W.eq;intro H j;conv=>cbv
 cases H <;> conv=>cbv
 ·have F:=AY j;exact AD ⟨⟨rfl,.inl ⟨_,rfl,by omega,congrArg _ (by rw[N,hinv,List.drop_zero,List.take_length,show i'=T.length by omega,List.take_length])⟩,rfl,trivial⟩,trivial⟩
 have F:=AZ j;refine .inr ?_;obtain⟨f,d⟩:=AL (l:=T) (i:=i') (by omega);refine⟨f,fun _=>⟨by omega,by rw[show (i).toNat=i' by omega];exact d⟩,?_⟩;try conv=>cbv
 obtain⟨y,C,n⟩:=H5 V d;have D:y∈u:=List.mem_reverse.1 (List.mem_of_getElem? n);refine AB (r:= .one (.sl AA f)) U (N8 C ((h.tb y D).B8 h.hR) (by rw[JL h.red _ y n];exact Hf)) ?_;try conv=>cbv
 refine⟨[f],fun _=>⟨rfl,by decide,rfl,⟨rfl,by first | exact t1 | exact t2 | exact t4 | simp[Aq,BG,cells],trivial⟩⟩,.inr ?_⟩;try conv=>cbv
 have aa:o.length<=T.length:=by rw[hinv,List.length_take];omega
 refine .inl ⟨[f],fun _=>⟨rfl,N,rfl,by show (o.length+1)*24<=140737488355328;(try simp only[List.length_take,List.length_drop]);omega⟩,?_⟩;intro (G:List (el (.sl AA))) t v;have M:G=(o:List (el (.sl AA)))++([f]:List (el (.sl AA))):=v.1;have O:t=List.length (α:=(el (.sl AA))) G:=v.2;conv=>cbv
 refine g2 rfl ?_;intro I S;conv=>cbv
 refine AI ?_;refine⟨T.length-(i'+1),?_,?_⟩
 ·omega
 rw[p];exact .inr ⟨G,t,i'+1,L,I,rfl,rfl,⟨K,⟨by omega⟩,by omega,O⟩,by rw[M,hinv,Ck d],rfl⟩
theorem PH {C:LR} (h:Ah R w) (hT:T=tw w) (U:A=em u x) (hx:In u x) (hu:u<:+w) (hC:C=em w x):CF 288 [.one (.sl (.sl AA) T),.one (.sl AA A)] (.one (.sl AA C)):=by
 have M:T.length=w.length:=by rw[hT,Bh]
 have a5:=h.ht;have a2:A.length=2^u.length:=by rw[U,BI hx]
 have O:=hu.length_le;have hle:2^u.length<=2^w.length:=Cg O;have a1:=Cu h.ht;have I:=TG hu h.red hx;refine AM Tryz.func288 fun E V=>?_
 conv=>cbv
 obtain⟨an,F⟩:=xN A.length;refine AB V (QK (by omega) F) ?_;conv=>cbv
 refine .inr ?_;obtain⟨J0,B⟩:=xJ fun vs S k=>∃(o:LR) (mm j:Nat),vs=[.one (.sl (.sl AA) T),.one (.AQ AA 7 0 0 mm)]/\S=[.arr 0 AA o]/\(mm=o.length/\o.length=2^u.length+j/\o.length<=2^w.length)/\o=A++List.replicate j (rp 0)/\k=2^w.length-o.length
 refine⟨[],[0,5],[7],J0,⟨2^w.length-A.length,by rw[B];exact⟨A,an,0,rfl,rfl,⟨F,by omega,by omega⟩,by simp,rfl⟩⟩,?_⟩;intro vs S aa W;rw[B] at W;obtain⟨o,mm,j,rfl,rfl,⟨G,a7,a8⟩,hinv,a6⟩:=W;conv=>cbv
 intro n9 h9;have e9:=h9.eq;conv=>cbv
 rintro ab ⟨K,f11⟩;conv=>cbv
 intro ad L;conv=>cbv
 refine AH ?_;have Z:=(EG L (K.trans (congrArg _ M))).eq;intro Q D;conv=>cbv
 cases Q <;> conv=>cbv
 ·have P:=AY D;exact AD ⟨⟨rfl,.inl ⟨_,rfl,by omega,congrArg _ (by rw[hC,G,List.drop_zero,List.take_length,hinv,I,U,show j=2^w.length-2^u.length by omega])⟩,trivial⟩,trivial⟩
 have P:=AZ D;refine .inr ?_;obtain⟨p,r,f,n,t⟩:=Bl (((0:Int):Rat));refine AB V (Gn (by omega) rfl t) ?_;conv=>cbv
 refine⟨[((p,r),(f,n))],fun _=>⟨rfl,by decide,rfl,⟨rfl,by first | exact t1 | exact t2 | exact t4 | simp[Aq,BG,cells],trivial⟩⟩,.inr ?_⟩;try conv=>cbv
 refine .inl ⟨[((p,r),(f,n))],fun _=>⟨rfl,G,rfl,by show (o.length+1)*64<=140737488355328;(try simp only[List.length_take,List.length_drop]);omega⟩,?_⟩;intro (d:LR) J v;have s:d=(o:LR)++([((p,r),(f,n))]:LR):=v.1;have H:J=List.length (α:=(el AA)) d:=v.2;conv=>cbv
 have N:d.length=o.length+1:=by rw[s];simp
 refine⟨2^w.length-d.length,?_,?_⟩
 ·omega
 rw[B];exact⟨d,J,j+1,rfl,rfl,⟨H,by omega,by omega⟩,by rw[s,hinv,List.replicate_succ',List.append_assoc,<-t.rp];rfl,rfl⟩
end Go.Abs
