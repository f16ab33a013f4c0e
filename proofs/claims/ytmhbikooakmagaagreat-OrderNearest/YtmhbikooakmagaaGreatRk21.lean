/- Part 22 of a proof. Conditions: each theorem's own. -/
import Derived.Test.YtmhbikooakmagaaGreatRk20
set_option linter.all false
set_option maxHeartbeats 8000000
set_option maxRecDepth 20000
open Go.Proofs
namespace Go.Abs
open Go.RowKit
variable {R a i k m q:Nat} {b b1 b2 c:Bool} {l l1 l2 o z:List UInt32} {x y:Int}
theorem YO {x:Nat} (h:x=2^(m+1)*k):x ||| 2^m=x+2^m:=by
 rw[h,Nat.or_comm,Kg (Nat.pow_lt_pow_right (by decide) (Nat.lt_succ_self m)),Nat.add_comm]
theorem al {x:UInt32} (f:o[q]? =some x) (hm:m<32) (d:2^(32*q+m+1)∣AE o):∃k,x.toNat=2^(m+1)*k:=by
 have B:q<o.length:=by apply Classical.byContradiction;intro v;rw[List.getElem?_eq_none (by omega)] at f;exact absurd f (by simp)
 have h:AE o=AE (o.take q)+2^(32*q)*(x.toNat+4294967296*AE (o.drop (q+1))):=by
  conv=>lhs;rw[<-List.take_append_drop q o]
  rw[OW,List.length_take,Nat.min_eq_left (by omega),DZ f]
 have j:2^(32*q)∣AE o:=Nat.dvd_trans ⟨2^(m+1),by rw[<-Nat.pow_add];congr 1⟩ d
 have n:2^(32*q)∣AE (o.take q):=by
  rw[h] at j;exact (Nat.dvd_add_iff_left ⟨_,rfl⟩).2 j
 have p:AE (o.take q)<2^(32*q):=by
  have:=CR (o.take q);rwa [List.length_take,Nat.min_eq_left (by omega)] at this
 have r:AE (o.take q)=0:=Nat.eq_zero_of_dvd_of_lt n p;rw[h,r,Nat.zero_add,Nat.add_assoc,Nat.pow_add] at d;have s:2^(m+1)∣x.toNat+4294967296*AE (o.drop (q+1)):=Nat.dvd_of_mul_dvd_mul_left (Nat.two_pow_pos _) d;have t:2^(m+1)∣4294967296*AE (o.drop (q+1)):=Nat.dvd_trans ⟨2^(31-m),by rw[<-Nat.pow_add,show m+1+(31-m)=32 by omega]⟩ ⟨_,rfl⟩;exact (Nat.dvd_add_iff_left t).2 s
theorem fM {x w:UInt32} (d:o[q]? =some x) (hm:m<32) (f:2^(32*q+m+1)∣AE o) (hw:w.toNat=x.toNat ||| 2^m):AE (o.set q w)=AE o+2^(32*q+m)/\w.toNat=x.toNat+2^m:=by
 obtain⟨k,h⟩:=al d hm f;rw[YO h] at hw;have:=RQ (w:=w) d;rw[hw,Nat.mul_add,<-Nat.pow_add] at this;exact⟨by omega,hw⟩
theorem eJ {n a b:Int} {p:Nat} (h:n=IntKind.u32.wrap (BitVec.ofInt IntKind.u32.bits a &&& ~~~ BitVec.ofInt IntKind.u32.bits b).toNat) (ha:a=((p+2^m:Nat):Int)) (hb:b=((2^m:Nat):Int)) (f:p=2^(m+1)*k) (hm:m<32) (hs:p+2^m<4294967296):n=p:=by
 have B:=wrap_u32 h;have C:2^m<4294967296:=by omega
 have j:(BitVec.ofInt 32 a &&& ~~~ BitVec.ofInt 32 b:BitVec 32).toNat=p:=by
  have t:BitVec.ofInt 32 a=BitVec.ofNat 32 (p+2^m):=by rw[ha];exact BitVec.ofInt_natCast 32 _
  have v:BitVec.ofInt 32 b=BitVec.ofNat 32 (2^m):=by rw[hb];exact BitVec.ofInt_natCast 32 _
  rw[t,v]
  have r:BitVec.ofNat 32 (p+2^m) &&& ~~~BitVec.ofNat 32 (2^m)=BitVec.ofNat 32 p:=by
   apply BitVec.eq_of_getLsbD_eq;intro i hi;rw[BitVec.getLsbD_and,BitVec.getLsbD_not,BitVec.getLsbD_ofNat,BitVec.getLsbD_ofNat,BitVec.getLsbD_ofNat,<-YO f,Nat.testBit_or,Nat.testBit_two_pow]
   have s:p.testBit m=false:=by
    rw[f,Nat.testBit_two_pow_mul];simp;intro h;omega
   by_cases e:m=i
   ·subst e;simp[s,hm]
   simp[e,hi]
  rw[r,BitVec.toNat_ofNat];exact Nat.mod_eq_of_lt (Nat.lt_of_le_of_lt (Nat.le_add_right p (2^m)) hs)
 have d:n=(((BitVec.ofInt 32 a &&& ~~~ BitVec.ofInt 32 b:BitVec 32).toNat:Nat):Int)%4294967296:=B;rw[j] at d;rw[d];exact Int.emod_eq_of_lt (by omega) (by omega)
theorem Ad.iff {b':Bool} {l':List UInt32} (h:Ad x b l) (h':Ad y b' l'):x=y↔b=b'/\l=l':=
 ⟨fun e=>h.uniq h' e,fun e=>by rw[h.E3,h'.E3,e.1,e.2]⟩
theorem dv {u:List UInt32} {c d b:Nat} (hcu:c<=u.length) (hdu:d<=u.length) (sl:u.length<=17592186044416) (ha:AE (u.take c)=a) (hb:AE (u.take d)=b) (hz:z=AP (a*b)):Bv Tryz.prog 252 [.one (.AN .u32 0 0 0 c),.one (.AN .u32 0 0 0 d)] (.arr 0 .u32 u) (.one (.sl .u32 z)):=by
 obtain⟨l,hl⟩:=xU (u.take c);have hll:l.length=c:=by rw[hl,List.length_take];omega
 have hgx:∀i,i<c->l[i]? =u[i]? :=fun i h=>by rw[hl,List.getElem?_take,if_pos h]
 rw[<-hl] at ha;obtain⟨m,hm⟩:=xU (u.take d);have hmm:m.length=d:=by rw[hm,List.length_take];omega
 have hgy:∀i,i<d->m[i]? =u[i]? :=fun i h=>by rw[hm,List.getElem?_take,if_pos h]
 rw[<-hm] at hb;refine Hi Tryz.func252 (by kernel_rfl) rfl fun E hE=>?_
 conv=>cbv
 intro n10 h10;have e10:=h10.eq;conv=>cbv
 intro n12 h12;have e12:=h12.eq;conv=>cbv
 intro n13 h13;conv=>cbv
 refine AI ?_;refine⟨fun _=>⟨by omega,by omega,by show _*4<=140737488355328;omega⟩,?_⟩;intro k14 (l14:List UInt32) ql14;have hk14:=ql14.1;have hl14:l14=List.replicate k14 (0:el .u32):=ql14.2;have gl14:l14.length=k14:=by rw[hl14,List.length_replicate]
 conv=>cbv
 refine .inr ?_
 obtain⟨J0,hJ0⟩:∃J:List AV->List AL->Nat->Prop,J=fun vs bl k=>∃(o:List UInt32) (n i':Nat) (i:Int),vs=[.one (.AN .u32 0 0 0 c),.one (.AN .u32 0 0 0 d),.one (.AN .u32 14 0 0 n),.one (.int .i64 i)]/\
  bl=[.arr 0 .u32 u,.arr 0 .u32 o]/\(o.length=l.length+m.length/\n=o.length/\AO i i'/\i'<=l.length)/\
  AE (o.take (i'+m.length))=AE (l.take i')*AE m/\k=l.length-i':=⟨_,rfl⟩
 refine⟨[],[0,1,5,6],[0,14],J0,⟨l.length-0,by rw[hJ0];exact⟨l14,k14,0,0,rfl,rfl,⟨by rw[hl14,List.length_replicate];omega,by rw[hl14,List.length_replicate],Al 0,by omega⟩,by rw[hl14,List.take_replicate,Hp];simp[AE],rfl⟩⟩,?_⟩;intro vs bl kk0 hj;rw[hJ0] at hj;obtain⟨o,n,i',i,rfl,rfl,⟨ho,hn,hi,hiL⟩,hinv,hk0⟩:=hj;conv=>cbv
 have ei:=hi.eq;intro n17 h17;have e17:=h17.eq;conv=>cbv
 intro n18 h18;conv=>cbv
 cases n18 <;> conv=>cbv
 ·have k18:=AW h18;have hnl66:n<=(o).length:=by omega
  obtain⟨m66,hm66⟩:=xN ((B4 ((o).take n)).length);obtain⟨hle66,htk66⟩:=ER hnl66 hm66;refine .inr (.inr (.inl ⟨[],.one (.AN .u32 0 0 0 m66),.arr 0 .u32 o,fun _=>⟨by first | decide | simp[Bt,B3],trivial⟩,fun _=>⟨Dm hE (F6 hnl66 (by omega) hm66),rfl,rfl⟩,?_⟩));try conv=>cbv
  have hfin:AE (o.take n)=a*b:=by rw[show i'=l.length by omega,List.take_length,ha,hb,<-ho,List.take_length] at hinv;rw[hn,List.take_length,hinv]
  refine fun _=>⟨⟨⟨⟨rfl,.inl ⟨_,rfl,by omega,congrArg _ (by rw[List.drop_zero,htk66,hfin,hz])⟩,trivial⟩,trivial⟩,rfl,by simp⟩,rfl⟩
 have k18:=AY h18;refine .inr ?_;refine .inr ?_
 obtain⟨J1,hJ1⟩:∃J:List AV->List AL->Nat->Prop,J=fun vs bl k=>∃(o1:List UInt32) (n1 c' k':Nat) (cc i1:Int),vs=[.one (.AN .u32 0 0 0 c),.one (.AN .u32 0 0 0 d),.one (.AN .u32 14 0 0 n1),.one (.int .i64 i),.one (.int .u64 cc),.one (.int .i64 i1)]/\
  bl=[.arr 0 .u32 u,.arr 0 .u32 o1]/\(o1.length=l.length+m.length/\n1=o1.length/\AO i1 k'/\k'<=m.length/\AO cc c'/\c'<4294967296)/\
  AE (o1.take (i'+m.length))+2^(32*(i'+k'))*c'=AE (l.take i')*AE m+(l.getD i' 0).toNat*2^(32*i')*AE (m.take k')/\k=m.length-k':=⟨_,rfl⟩
 refine⟨[],[0,1,5,6,7,8],[0,14],J1,⟨m.length-0,by rw[hJ1];exact⟨o,n,0,0,0,0,rfl,rfl,⟨ho,hn,Al 0,by omega,Al 0,by omega⟩,by rw[hinv];simp[AE],rfl⟩⟩,?_⟩;intro vs bl kk1 hj;rw[hJ1] at hj;obtain⟨o1,n1,c',k',cc,i1,rfl,rfl,⟨ho1,hn1,hi1,hiL1,hc,hc1⟩,hinv1,hk1⟩:=hj;conv=>cbv
 have ei1:=hi1.eq;have ec:=hc.eq;intro n23 h23;have e23:=h23.eq;conv=>cbv
 intro n24 h24;conv=>cbv
 cases n24 <;> conv=>cbv
 ·have k24:=AW h24;intro n60 h60;have e60:=h60.eq;conv=>cbv
  intro n61 h61;conv=>cbv
  refine AI ?_;intro n63 h63;conv=>cbv
  have h63:=wrap_u32 h63;refine AH ?_;intro j64 hj64;conv=>cbv
  obtain⟨w64,hw64⟩:=B7 (n:=n63) (by omega);have ew64:=hw64.eq;have fw64:=hw64.lt;refine⟨w64,fun _=>⟨by show _<List.length (α:=UInt32) o1;(first | omega | (simp;omega)),B5 hw64⟩,?_⟩;intro (l64:List UInt32) (hl64:l64=List.set (α:=UInt32) o1 j64 w64);have gl64:l64.length=o1.length:=by rw[hl64,List.length_set]
  conv=>cbv
  intro n20 h20;conv=>cbv
  refine AI ?_;refine⟨l.length-(i'+1),?_,?_⟩
  ·omega
  rw[hJ0];refine⟨l64,n1,i'+1,n20,rfl,rfl,⟨by rw[hl64,List.length_set];exact ho1,by rw[hl64,List.length_set];exact hn1,⟨by omega⟩,by omega⟩,?_,rfl⟩;obtain⟨ai,hai⟩:=AK (l:=l) (i:=i') (by omega);have hk:k'=m.length:=by omega
  have hlen:i'+m.length<o1.length:=by omega
  rw[hl64,show i'+1+m.length=i'+m.length+1 by omega,show j64=i'+m.length by omega,Ei hlen,D2,List.length_take,Nat.min_eq_left (by omega),show w64.toNat=c' by omega];rw[hk,KL hai] at hinv1;rw[hinv1,List.take_length,CK hai]
  grind
 have k24:=AY h24;refine .inr ?_;intro n31 h31;conv=>cbv
 refine AI ?_;refine AH ?_;intro j32 hj32;conv=>cbv
 obtain⟨x33,hx33⟩:=AK (l:=o1) (i:=j32) (by omega);refine⟨x33,fun _=>hx33,?_⟩;try conv=>cbv
 intro n33 h33;have e33:=h33.eq;have f33:=h33.lt;conv=>cbv
 intro n34 h34;conv=>cbv
 have h34:=wrap_u64 h34;intro n35 h35;conv=>cbv
 have h35:=wrap_u64 h35;refine AH ?_;intro j38 hj38;conv=>cbv
 obtain⟨x39,hx39⟩:=AK (l:=u) (i:=j38) (by omega);refine⟨x39,fun _=>hx39,?_⟩;try conv=>cbv
 intro n39 h39;have e39:=h39.eq;have f39:=h39.lt;conv=>cbv
 intro n40 h40;conv=>cbv
 have h40:=wrap_u64 h40;refine AH ?_;intro j43 hj43;conv=>cbv
 obtain⟨x44,hx44⟩:=AK (l:=u) (i:=j43) (by omega);refine⟨x44,fun _=>hx44,?_⟩;try conv=>cbv
 intro n44 h44;have e44:=h44.eq;have f44:=h44.lt;conv=>cbv
 intro n45 h45;conv=>cbv
 have h45:=wrap_u64 h45;have ep:n40*n45=((x39.toNat*x44.toNat:Nat):Int):=by rw[Int.natCast_mul];congr 1 <;> omega
 have bp:x39.toNat*x44.toNat<=4294967295*4294967295:=Nat.mul_le_mul (by omega) (by omega);intro n46 h46;conv=>cbv
 have h46:=wrap_u64 h46;intro n47 h47;conv=>cbv
 have h47:=wrap_u64 h47;refine g2 rfl ?_;intro n51 h51;conv=>cbv
 refine AI ?_;intro C1 h53;conv=>cbv
 have h53:=wrap_u32 h53;refine AH ?_;intro j54 hj54;conv=>cbv
 obtain⟨w54,hw54⟩:=B7 (n:=C1) (by omega);have ew54:=hw54.eq;have fw54:=hw54.lt;refine⟨w54,fun _=>⟨by show _<List.length (α:=UInt32) o1;(first | omega | (simp;omega)),B5 hw54⟩,?_⟩;intro (l54:List UInt32) (hl54:l54=List.set (α:=UInt32) o1 j54 w54);have gl54:l54.length=o1.length:=by rw[hl54,List.length_set]
 conv=>cbv
 intro n56 h56;conv=>cbv
 refine AH ?_;have h56:=D8 (p:=4294967296) h56 rfl;intro n26 h26;conv=>cbv
 refine AI ?_;refine⟨m.length-(k'+1),?_,?_⟩
 ·omega
 rw[hJ1];have hx38:l[i']? =some x39:=by rw[hgx _ (by omega),show i'=j38 by omega];exact hx39
 have hx43:m[k']? =some x44:=by rw[hgy _ (by omega),show k'=j43 by omega];exact hx44
 refine⟨l54,n1,n56.toNat,k'+1,n56,n26,rfl,rfl,⟨by rw[hl54,List.length_set];exact ho1,by rw[hl54,List.length_set];exact hn1,⟨by omega⟩,by omega,⟨by omega⟩,by omega⟩,?_,rfl⟩;have hj:j54=i'+k':=by omega
 have hj2:j32=i'+k':=by omega
 rw[hj2] at hx33;rw[KL hx38] at hinv1;rw[hl54,hj,CK hx43,show i'+(k'+1)=i'+k'+1 by omega,KL hx38];refine Sk (q:=x33) (xi:=x39.toNat) (yk:=x44.toNat) (old:=x33.toNat) (c:=c') rfl (by omega) hx33 rfl hinv1 ?_ rfl;rw[ep] at h46;omega
theorem fq (h:BV ((R*R:Nat):Int) a<=0):R*R<=a:=by
 unfold BV at h
 split at h
 ·omega
 split at h
 ·omega
 omega
theorem fp (h:BV ((R*R:Nat):Int) a>0):a<R*R:=by
 unfold BV at h
 split at h
 ·omega
 split at h
 ·omega
 omega
theorem mG {α:Type} {l:List α} {x:α} (h:l[i]? =some x):l.set i x=l:=by
 apply List.ext_getElem?;intro k
 by_cases e:i=k
 ·subst e;rw[h,List.getElem?_set_self];apply Classical.byContradiction;intro d;rw[List.getElem?_eq_none (by omega)] at h;exact absurd h (by simp)
 rw[List.getElem?_set_ne e]
theorem NA (hx:Ad x b l) (h0:0<=x) (hz:Ad ((BM x.toNat:Nat):Int) c z) (sl:l.length<=17592186043000):CF 360 [.agg (BD b l)] (.AG [(true,(BD c z)),(false,[.int .i64 0])]):=by
 obtain⟨a,ha⟩:=xN x.toNat;obtain⟨N,hN⟩:=xN ((Cl a+1)/2);have af:x.natAbs=a:=by omega
 have aO:l=AP a:=by rw[<-af];exact hx.BC
 rw[<-ha] at hz
 have aK:a<2^N*2^N:=by
  rw[<-Nat.pow_add]
  by_cases h:a=0
  ·rw[h];exact Nat.two_pow_pos _
  exact Nat.lt_of_lt_of_le (OX (by omega:0<a)).2.1 (Nat.pow_le_pow_right (by decide) (by omega))
 have bz:N<=300000000000000:=by
  have h1:Cl a<=32*l.length:=by
   by_cases h:a=0
   ·rw[h];exact Nat.zero_le _
   have h2:=(OX (by omega:0<a)).1;have h3:a<2^(32*l.length):=by have:=CR l;rw[hx.nat,af] at this;exact this
   have h4:=(Nat.pow_lt_pow_iff_right (a:=2) (by decide)).1 (Nat.lt_of_le_of_lt h2 h3);omega
  omega
 refine AJ Tryz.func360 fun E hE=>?_
 conv=>cbv
 refine AB hE (H6 hx) ?_;conv=>cbv
 cases b <;> conv=>cbv
 ·obtain⟨aV,a2⟩:∃n:Int,AO n (Cl a):=⟨_,⟨rfl⟩⟩
  have aX:=a2.eq;refine AB (r:= .one (.int .i64 aV)) hE (cI hx (by rw[af];exact a2) sl) ?_;try conv=>cbv
  intro bD bm;conv=>cbv
  refine AI ?_;intro n15 bn;conv=>cbv
  refine g2 ⟨by omega,by omega,i64 (by omega)⟩ ?_;intro n17 bo;conv=>cbv
  refine g2 ⟨by omega,by omega,i64 (by omega)⟩ ?_;intro n18 bp;conv=>cbv
  refine AI ?_;refine⟨fun _=>⟨by omega,by omega,by show _*4<=140737488355328;omega⟩,?_⟩;intro ag (ah:List UInt32) a7;have bf:=a7.1;have f:ah=List.replicate ag (0:el .u32):=a7.2;have b4:ah.length=ag:=by rw[f,List.length_replicate]
  conv=>cbv
  intro n21 bq;conv=>cbv
  refine AI ?_;refine .inr ?_
  obtain⟨J0,Q⟩:∃J:List AV->List AL->Nat->Prop,J=fun vs bl k=>∃(o:List UInt32) (m j:Nat) (i:Int),vs=[.one (.Ab 1 0 0),.one (.Ab 2 0 0),.one (.int .i64 0),.one (.AN .u32 19 0 0 m),.one (.int .i64 i)]/\
   bl=[.var 0 [.bool false,.sl .u32 l],.var 0 [.bool false,.nil],.arr 0 .u32 o]/\(o.length=N/32+1/\m=o.length/\AO (i+1) j/\j<=N)/\
   (2^j∣AE o/\AE o*AE o<=a/\a<(AE o+2^j)*(AE o+2^j))/\k=j:=⟨_,rfl⟩
  refine⟨[],[1,2,3,5,6],[1,2,19],J0,⟨N,by rw[Q];exact⟨ah,ag,N,n21,rfl,rfl,⟨by rw[f,List.length_replicate];omega,by rw[f,List.length_replicate],⟨by omega⟩,Nat.le_refl _⟩,⟨by rw[f,Hp];exact Nat.dvd_zero _,by rw[f,Hp];omega,by rw[f,Hp,Nat.zero_add];exact aK⟩,rfl⟩⟩,?_⟩;intro vs bl bC hj;rw[Q] at hj;obtain⟨o,m,j,i,rfl,rfl,⟨ho,hm,hi,bA⟩,⟨hd,aw,a8⟩,bB⟩:=hj;conv=>cbv
  have ei:=hi.eq;intro n23 ao;conv=>cbv
  cases n23 <;> conv=>cbv
  ·have aS:=EI ao;have aM:j=0:=by omega
   rw[aM] at a8;have aR:=W1 aw a8
   have ax:((BM a:Nat):Int)=if false=true then -(AE (o.take m):Int) else AE (o.take m):=by
    rw[if_neg (by decide),hm,List.take_length,aR]
   obtain⟨aD,aE,L⟩:=Ac (((BM a:Nat):Int));refine .inr (.inr (.inr (.inl ⟨19,.arr 0 .u32 o,[.one (.bool false),.one (.sl .u32 ((o).take m))],.agg [.bool aD,.sl .u32 aE],fun _=>⟨⟨by decide,rfl,by first | rfl | decide | simp[Bt,B3]⟩,⟨rfl,⟨_,rfl,by simp <;> omega,by simp⟩,trivial⟩⟩,fun _=>⟨E6 hE (GU (n:=false) ax L),rfl⟩,?_⟩)));try conv=>cbv
   exact AD ⟨⟨rfl,congrArg _ ((L.uniq hz rfl).1.symm),congrArg _ ((L.uniq hz rfl).2.symm),trivial⟩,t2,trivial⟩
  have aS:=EJ ao;refine .inr ?_;intro n28 br;conv=>cbv
  refine g2 ⟨by omega,by omega,i64 (by omega)⟩ ?_;intro n31 bs;conv=>cbv
  refine g2 ⟨by omega,by omega,i64 (by omega)⟩ ?_;obtain⟨i',aL⟩:∃i',j=i'+1:=⟨j-1,by omega⟩
  subst aL;refine AH ?_;intro S ba;conv=>cbv
  obtain⟨t,D⟩:=AK (l:=o) (i:=S) (by omega);refine⟨t,fun _=>D,?_⟩;try conv=>cbv
  intro n33 aq;have bk:=aq.eq;have f33:=aq.lt;conv=>cbv
  intro n35 bt;conv=>cbv
  refine AH ?_;intro n36 aG;conv=>cbv
  refine AH ?_
  obtain⟨b7,a1⟩:n36=((2^(i'%32):Nat):Int)/\2^(i'%32)<4294967296:=by
   have hb:2^(i'%32)<4294967296:=Nat.lt_of_le_of_lt (Nat.pow_le_pow_right (by decide) (by omega:i'%32<=31)) (by decide);have:=SU (p:=1) (e:=i'%32) aG rfl (by omega);rw[this,Nat.one_mul];exact⟨congrArg _ (Nat.mod_eq_of_lt hb),hb⟩
  intro n37 aH;conv=>cbv
  have b8:=Od (p:=t.toNat) (q:=2^(i'%32)) aH (by omega) (by omega) (by omega) a1;have bh:t.toNat ||| 2^(i'%32)<4294967296:=Nat.or_lt_two_pow (n:=32) t.toNat_lt a1
  refine AH ?_;intro M bb;conv=>cbv
  obtain⟨P,I⟩:=B7 (n:=n37) (by omega);have aY:=I.eq;have b0:=I.lt;refine⟨P,fun _=>⟨by show _<List.length (α:=UInt32) o;(first | omega | (simp;omega)),B5 I⟩,?_⟩;intro (d:List UInt32) (C:d=List.set (α:=UInt32) o M P);have b5:d.length=o.length:=by rw[C,List.length_set]
  conv=>cbv
  refine g2 rfl ?_;have ae:P.toNat=t.toNat ||| 2^(i'%32):=by omega
  have aa:2^(32*(i'/32)+i'%32)=2^i':=by congr 1;omega
  have s:=fM (o:=o) (q:=i'/32) (m:=i'%32) (x:=t) (w:=P) (by rw[show i'/32=S by omega];exact D) (by omega) (by rw[show 32*(i'/32)+i'%32+1=i'+1 by omega];exact hd) ae;rw[show i'/32=M by omega,<-C,show M=i'/32 by omega] at s;have F:m<=(d).length:=by omega
  obtain⟨ai,W⟩:=xN ((B4 ((d).take m)).length);obtain⟨aP,ab⟩:=ER F W;refine .inr (.inr (.inl ⟨[],.one (.AN .u32 0 0 0 ai),.arr 0 .u32 d,fun _=>⟨by first | decide | simp[Bt,B3],trivial⟩,fun _=>⟨Dm hE (F6 F (by omega) W),rfl,rfl⟩,?_⟩));try conv=>cbv
  have G:m<=(d).length:=by omega
  obtain⟨aj,Z⟩:=xN ((B4 ((d).take m)).length);obtain⟨aQ,ad⟩:=ER G Z;refine .inr (.inr (.inl ⟨[],.one (.AN .u32 0 0 0 aj),.arr 0 .u32 d,fun _=>⟨by first | decide | simp[Bt,B3],trivial⟩,fun _=>⟨Dm hE (F6 G (by omega) Z),rfl,rfl⟩,?_⟩));try conv=>cbv
  obtain⟨R,hR⟩:=xN (AE d);obtain⟨aW,a5⟩:=xU (AP (R*R));have av:AE d*AE d=R*R:=by rw[hR]
  have ay:AE (d.take ai)=R:=by rw[ab,Az,hR];congr 1;exact List.take_of_length_le (by omega)
  have az:AE (d.take aj)=R:=by rw[ad,Az,hR];congr 1;exact List.take_of_length_le (by omega)
  refine .inr (.inr (.inr (.inl ⟨19,.arr 0 .u32 d,[.one (.AN .u32 0 0 0 ai),.one (.AN .u32 0 0 0 aj)],.one (.sl .u32 aW),fun _=>⟨rfl,⟨⟨⟨rfl,rfl⟩,rfl⟩,⟨⟨rfl,rfl⟩,rfl⟩,trivial⟩⟩,fun _=>F2 hE (dv (by omega) (by omega) (by omega) ay az a5),?_⟩)));try conv=>cbv
  obtain⟨bH,H⟩:=xI (BV ((R*R:Nat):Int) a);refine AB hE (NH a5 aO H) ?_;conv=>cbv
  intro aT ar;conv=>cbv
  refine g2 rfl ?_;refine .inr ?_;cases aT <;> conv=>cbv
  ·have O:=Bq ar;intro n25 aF;conv=>cbv
   refine AI ?_;refine⟨i',?_,?_⟩
   ·omega
   rw[Q];have v:2^i'∣AE o:=Nat.dvd_trans ⟨2,by rw[Nat.pow_succ]⟩ hd;refine⟨d,m,i',n25,rfl,rfl,⟨by omega,by omega,⟨by omega⟩,by omega⟩,⟨?_,?_,?_⟩,rfl⟩
   ·rw[s.1];exact Nat.dvd_add v (by rw[aa];exact Nat.dvd_refl _)
   ·rw[av];rw[H] at O;have:=fq O;exact this
   rw[s.1,aa];rw[Nat.pow_succ] at a8;rwa [show AE o+2^i'+2^i'=AE o+2^i'*2 by omega]
  have O:=Br ar;intro bE bu;conv=>cbv
  refine g2 ⟨by omega,by omega,i64 (by omega)⟩ ?_;intro C1 bw;conv=>cbv
  refine g2 ⟨by omega,by omega,i64 (by omega)⟩ ?_;refine AH ?_;intro aA bc;conv=>cbv
  obtain⟨aC,a6⟩:=AK (l:=d) (i:=aA) (by omega);refine⟨aC,fun _=>a6,?_⟩;try conv=>cbv
  intro bF au;have an:=au.eq;have f55:=au.lt;conv=>cbv
  intro bG bx;conv=>cbv
  refine AH ?_;intro aU aI;conv=>cbv
  refine AH ?_
  obtain⟨b9,bj⟩:aU=((2^(i'%32):Nat):Int)/\2^(i'%32)<4294967296:=by
   have hb:2^(i'%32)<4294967296:=Nat.lt_of_le_of_lt (Nat.pow_le_pow_right (by decide) (by omega:i'%32<=31)) (by decide);have:=SU (p:=1) (e:=i'%32) aI rfl (by omega);rw[this,Nat.one_mul];exact⟨congrArg _ (Nat.mod_eq_of_lt hb),hb⟩
  intro n59 aJ;conv=>cbv
  obtain⟨kk,aN⟩:=al (o:=o) (q:=i'/32) (m:=i'%32) (x:=t) (by rw[show i'/32=S by omega];exact D) (by omega) (by rw[show 32*(i'/32)+i'%32+1=i'+1 by omega];exact hd)
  have an:aC=P:=by
   have:=a6;rw[C,show aA=i'/32 by omega,show M=i'/32 by omega,List.getElem?_set_self (by omega)] at this;exact (Option.some.inj this).symm
  have bg:=eJ (p:=t.toNat) (m:=i'%32) aJ (by rw[<-s.2,<-an];omega) (by omega) aN (by omega) (by rw[<-s.2];omega);refine AH ?_;intro aB bd;conv=>cbv
  obtain⟨ak,K⟩:=B7 (n:=n59) (by omega);have aZ:=K.eq;have b3:=K.lt;refine⟨ak,fun _=>⟨by show _<List.length (α:=UInt32) d;(first | omega | (simp;omega)),B5 K⟩,?_⟩;intro (U:List UInt32) (V:U=List.set (α:=UInt32) d aB ak);have b6:U.length=d.length:=by rw[V,List.length_set]
  conv=>cbv
  refine g2 rfl ?_;intro n25 aF;conv=>cbv
  refine AI ?_;refine⟨i',?_,?_⟩
  ·omega
  rw[Q];have v:2^i'∣AE o:=Nat.dvd_trans ⟨2,by rw[Nat.pow_succ]⟩ hd
  have B:U=o:=by
   have e1:ak=t:=UInt32.toNat_inj.1 (by omega);rw[V,C,show aB=i'/32 by omega,show M=i'/32 by omega,List.set_set,e1];exact mG (by rw[show i'/32=S by omega];exact D)
  refine⟨U,m,i',n25,rfl,rfl,⟨by rw[B];exact ho,by rw[B];exact hm,⟨by omega⟩,by omega⟩,?_,rfl⟩;rw[B];refine⟨v,aw,?_⟩;rw[H] at O;have:=fp O;rw[<-av,s.1,aa] at this;exact this
 exact absurd hx.neg (by simp;omega)
theorem nk {α:Type} {X Y:List α} {x y:α} (d:X[i]? =some x) (f:Y[i]? =some y) (h:X.take i=Y.take i) (e:x=y):X.take (i+1)=Y.take (i+1):=by
 rw[List.take_add_one,List.take_add_one,d,f,h,e]
theorem NC (I:Ad x b1 l1) (J:Ad y b2 l2) (G:c=decide (x=y)):CF 361 [.agg (BD b1 l1),.agg (BD b2 l2)] (.one (.bool c)):=by
 refine AJ Tryz.func361 fun E hE=>?_
 conv=>cbv
 intro P r;conv=>cbv
 cases P <;> conv=>cbv
 ·have n:=Ut r;rintro aa ⟨K,f14⟩;conv=>cbv
  rintro n17 ⟨Z,f17⟩;conv=>cbv
  intro n18 s;conv=>cbv
  cases n18 <;> conv=>cbv
  ·have M:=Co s;refine .inr ?_;obtain⟨W,h⟩:=xJ fun vs U k=>∃(k':Nat) (j:Int),vs=[.one (.Ab 2 0 0),.one (.Ab 3 0 0),.one (.bool false),.one (.int .i64 j)]/\U=[.var 0 [.bool b1,.sl .u32 l1],.var 0 [.bool b2,.sl .u32 l2]]/\(AO j k'/\k'<=l1.length/\l1.length=l2.length/\b1=b2)/\l1.take k'=l2.take k'/\k=l1.length-k'
   refine⟨[],[2,3,4,5],[2,3],W,⟨l1.length-0,by rw[h];exact⟨0,0,rfl,rfl,⟨Al 0,by omega,by omega,n⟩,rfl,rfl⟩⟩,?_⟩;intro vs U a8 H;rw[h] at H;obtain⟨k',j,rfl,rfl,⟨H,a6,F,D⟩,hinv,a7⟩:=H;conv=>cbv
   have ej:=H.eq;rintro n23 ⟨a1,f23⟩;conv=>cbv
   intro n24 t;conv=>cbv
   cases n24 <;> conv=>cbv
   ·have N:=AW t;exact AD ⟨⟨rfl,congrArg _ (by rw[G];exact (decide_eq_true ((I.iff J).2 ⟨D,by have p:=hinv;rw[show k'=l1.length by omega,List.take_length,F,List.take_length] at p;exact p⟩))),trivial⟩,trivial⟩
   have N:=AY t;refine .inr ?_;obtain⟨Q,d⟩:=AK (l:=l1) (i:=k') (by omega);refine⟨Q,fun _=>⟨by omega,by rw[show (j).toNat=k' by omega];exact d⟩,?_⟩;try conv=>cbv
   intro n31 v;have a2:=v.eq;have f31:=v.lt;conv=>cbv
   obtain⟨S,f⟩:=AK (l:=l2) (i:=k') (by omega);refine⟨S,fun _=>⟨by omega,by rw[show (j).toNat=k' by omega];exact f⟩,?_⟩;try conv=>cbv
   intro n36 B;have L:=B.eq;have f36:=B.lt;conv=>cbv
   intro n37 C;conv=>cbv
   refine g2 rfl ?_;cases n37 <;> conv=>cbv
   ·have O:=Co C;intro n26 a5;conv=>cbv
    refine AI ?_;refine⟨l1.length-(k'+1),?_,?_⟩
    ·omega
    rw[h];exact⟨k'+1,n26,rfl,rfl,⟨⟨by omega⟩,by omega,F,D⟩,nk d f hinv (UInt32.toNat_inj.1 (by omega)),rfl⟩
   have O:=Cp C;exact AD ⟨⟨rfl,congrArg _ (by rw[G];exact (decide_eq_false (fun e=>by have p:=((I.iff J).1 e).2;have V:=d;rw[p,f] at V;have h3:=Option.some.inj V;rw[h3] at L;omega))),trivial⟩,trivial⟩
  have M:=Cp s;exact AD ⟨⟨rfl,congrArg _ (by rw[G];exact (decide_eq_false (fun e=>by have p:=((I.iff J).1 e).2;rw[p] at K;omega))),trivial⟩,trivial⟩
 have n:=Uu r;exact AD ⟨⟨rfl,congrArg _ (by rw[G];exact (decide_eq_false (fun e=>n ((I.iff J).1 e).1))),trivial⟩,trivial⟩
theorem cj {q r:Rat} {c1 c2:Bool} {m1 m2:List UInt32} (h:BH q b1 l1 b2 l2) (hs:Bu q) (D:0<=r) (H:r*r=q) (v:BH r c1 m1 c2 m2):CF 319 [.agg (BS b1 l1 b2 l2)] (.AG [(true,(BS c1 m1 c2 m2)),(false,[.bool true])]):=by
 have s:=Z7 D H;have t:=Z6 D H;have C:0<=q.num:=by rw[<-s.2,<-s.1];exact Int.mul_nonneg (by omega) (by omega)
 have B:(0:Int)<=(q.den:Int):=by omega
 have Q:=h.small hs;obtain⟨I,M,d⟩:=Ac (((BM q.num.toNat:Nat):Int));obtain⟨J,N,f⟩:=Ac (((BM (q.den:Int).toNat:Nat):Int));have F:=KO h.num d;have G:=KO h.den f;refine AJ Tryz.func319 fun E p=>?_
 conv=>cbv
 cases b1 <;> conv=>cbv
 ·refine AB p (NA h.num C d (by omega)) ?_;conv=>cbv
  refine AB p (NA h.den B f (by omega)) ?_;conv=>cbv
  obtain⟨K,O,j⟩:=Ac (((BM q.num.toNat:Nat):Int)*((BM q.num.toNat:Nat):Int));refine AB p (DX d d j (by omega) (by omega)) ?_;conv=>cbv
  refine AB (r:= .one (.bool true)) p (NC j h.num (by rw[s.1];exact (decide_eq_true s.2).symm)) ?_;try conv=>cbv
  refine AU ?_;conv=>cbv
  obtain⟨L,P,n⟩:=Ac (((BM (q.den:Int).toNat:Nat):Int)*((BM (q.den:Int).toNat:Nat):Int));refine AB p (DX f f n (by omega) (by omega)) ?_;conv=>cbv
  refine AB (r:= .one (.bool true)) p (NC n h.den (by rw[t.1];exact (decide_eq_true t.2).symm)) ?_;try conv=>cbv
  refine AU ?_;conv=>cbv
  refine g2 rfl ?_;exact AD ⟨⟨rfl,congrArg _ ((d.uniq v.num s.1).1.symm),congrArg _ ((d.uniq v.num s.1).2.symm),congrArg _ ((f.uniq v.den t.1).1.symm),congrArg _ ((f.uniq v.den t.1).2.symm),trivial⟩,t2,trivial⟩
 exact absurd (of_decide_eq_true h.num.neg.symm) (by omega)
theorem ch {q:Rat} (n:BH q b1 l1 b2 l2) (hs:Bu q) (V:¬∃r:Rat,0<=r/\r*r=q):CF 319 [.agg (BS b1 l1 b2 l2)] (.AG [(true,[.bool false,.sl .u32 [],.bool false,.sl .u32 []]),(false,[.bool false])]):=by
 have F:(0:Int)<=(q.den:Int):=by omega
 have W:=n.small hs;obtain⟨J,N,d⟩:=Ac (((BM q.num.toNat:Nat):Int));obtain⟨K,O,f⟩:=Ac (((BM (q.den:Int).toNat:Nat):Int));have H:=KO n.num d;have I:=KO n.den f;refine AJ Tryz.func319 fun E t=>?_
 conv=>cbv
 cases b1 <;> conv=>cbv
 ·have G:0<=q.num:=by have:=of_decide_eq_false n.num.neg.symm;omega
  refine AB t (NA n.num G d (by omega)) ?_;conv=>cbv
  refine AB t (NA n.den F f (by omega)) ?_;conv=>cbv
  obtain⟨L,P,p⟩:=Ac (((BM q.num.toNat:Nat):Int)*((BM q.num.toNat:Nat):Int));refine AB t (DX d d p (by omega) (by omega)) ?_;conv=>cbv
  obtain⟨S,h⟩:=xB (decide (((BM q.num.toNat:Nat):Int)*((BM q.num.toNat:Nat):Int)=q.num));refine AB t (NC p n.num h) ?_;conv=>cbv
  intro n30 v;conv=>cbv
  cases n30 <;> conv=>cbv
  ·have C:=C3 v;obtain⟨M,Q,s⟩:=Ac (((BM (q.den:Int).toNat:Nat):Int)*((BM (q.den:Int).toNat:Nat):Int));refine AB t (DX f f s (by omega) (by omega)) ?_;conv=>cbv
   obtain⟨U,j⟩:=xB (decide (((BM (q.den:Int).toNat:Nat):Int)*((BM (q.den:Int).toNat:Nat):Int)=(q.den:Int)));refine AB t (NC s n.den j) ?_;conv=>cbv
   intro n38 B;conv=>cbv
   refine g2 rfl ?_;cases n38 <;> conv=>cbv
   ·have D:=C3 B;exact absurd (Z5 (of_decide_eq_true (h.symm.trans (by simpa using C))) (of_decide_eq_true (j.symm.trans (by simpa using D)))) V
   have D:=C4 B;exact AD ⟨⟨rfl,rfl,Bj,rfl,Bj,trivial⟩,t2,trivial⟩
  have C:=C4 v;refine g2 rfl ?_;exact AD ⟨⟨rfl,rfl,Bj,rfl,Bj,trivial⟩,t2,trivial⟩
 exact AD ⟨⟨rfl,rfl,Bj,rfl,Bj,trivial⟩,t2,trivial⟩
end Go.Abs
namespace Go.Abs
open Go.RowKit
variable {A:LR} {T:List LR} {q:Rat}
theorem dh {B:LR} {r:Rat} (J:T=[]) (D:A=[rp q]) (H:B=[rp r]) (hs:Bu q) (F:0<=r) (K:r*r=q):CF 247 [.one (.sl (.sl AA) T),.one (.sl AA A)] (.AG [(false,[.sl AA B]),(false,[.bool true])]):=by
 refine AJ Tryz.func247 fun E I=>?_
 conv=>cbv
 rintro n31 ⟨v,f31⟩;conv=>cbv
 intro n32 h;conv=>cbv
 cases n32 <;> conv=>cbv
 ·have j:=Ah h;exact absurd (by rw[v,J];rfl) j
 have j:=Aj h;have G:A.length=1:=by rw[D];rfl
 obtain⟨C,d⟩:=AK (l:=A) (i:=0) (by omega);refine⟨C,fun _=>⟨by omega,d⟩,?_⟩;try conv=>cbv
 obtain⟨s,t,n,p,f⟩:=Be r;refine AB I (cj (Eh D d) hs F K f) ?_;conv=>cbv
 refine⟨[((s,t),(n,p))],fun _=>⟨rfl,by decide,rfl,⟨rfl,by first | exact t1 | exact t2 | exact t4 | simp[Ao,BA,cells],trivial⟩⟩,.inl ?_⟩;try conv=>cbv
 exact AD ⟨⟨rfl,.inl ⟨_,rfl,by simp,congrArg _ (by rw[H,f.rp];rfl)⟩,trivial⟩,t2,trivial⟩
theorem dg {l:LR} (v:T=[]) (p:A=[rp q]) (B:l=[(((false,[]),(false,[])):el AA)]) (hs:Bu q) (C:¬∃r:Rat,0<=r/\r*r=q):CF 247 [.one (.sl (.sl AA) T),.one (.sl AA A)] (.AG [(false,[.sl AA l]),(false,[.bool false])]):=by
 refine AJ Tryz.func247 fun E t=>?_
 conv=>cbv
 rintro n31 ⟨j,f31⟩;conv=>cbv
 intro n32 f;conv=>cbv
 cases n32 <;> conv=>cbv
 ·have h:=Ah f;exact absurd (by rw[j,v];rfl) h
 have h:=Aj f;have s:A.length=1:=by rw[p];rfl
 obtain⟨n,d⟩:=AK (l:=A) (i:=0) (by omega);refine⟨n,fun _=>⟨by omega,d⟩,?_⟩;try conv=>cbv
 refine AB t (ch (Eh p d) hs C) ?_;conv=>cbv
 refine⟨[((false,[]),(false,[]))],fun _=>⟨rfl,by decide,rfl,⟨rfl,by first | exact t1 | exact t2 | exact t4 | simp[Ao,BA,cells],trivial⟩⟩,.inl ?_⟩;try conv=>cbv
 exact AD ⟨⟨rfl,.inl ⟨_,rfl,by simp,congrArg _ (by rw[B];rfl)⟩,trivial⟩,t2,trivial⟩
def Tq (R:Nat) (u:List (List Rat)):Prop:=∀{s:Nat} {x:Re},El u s x->SS u.length R s<=60000000000000->VV u.length R R<=60000000000000->(∃w,In u w/\w*w=x/\Hb u x w)\/(¬Sq u x/\∃l,Ha u x l)
theorem PK {u:List (List Rat)} {R:Nat} (h:Ae R u):Tq R u:=by
 induction u with
 | nil=>
  intro s x K hs C;obtain⟨q,rfl⟩:=CN.1 K.mem
  have af:Bu q:=by
   have:=K.Bh (by have:=TY ([]:List (List Rat)).length R s;omega);rw[CQ] at this;exact this q List.mem_cons_self
  by_cases hr:∃r:Rat,0<=r/\r*r=q
  ·obtain⟨r,Q,hr⟩:=hr;refine .inl ⟨Re.ofRat r,EK r _,by rw[<-Re.ofRat_mul,hr],?_⟩;intro T A B F D hB;exact dh F (D.trans (Dx q)) (hB.trans (Dx r)) af Q hr
  exact .inr ⟨fun hs=>hr (Sd.1 hs),_,fun F D=>dg F (D.trans (Dx q)) rfl af hr⟩
 | cons r u v=>
  have v:Tq R u:=v h.tail;intro s x K hs C;obtain⟨p,q,d,H,N⟩:=El.parts h.red K
  by_cases a8:x<0
  ·refine .inr ⟨?_,[],fun F D=>dm h F D K d H N hs C a8⟩
   rintro⟨w,_,hw⟩
   have:=Re.Fi w
   clear v;grind
  have I:0<=x:=by clear v;grind
  have av:TQ u.length R s=3*s+4*EE u.length R+R+GG u.length R+3+II u.length R R:=rfl;have ax:SS u.length R (TQ u.length R s)<=SS (r::u).length R s:=TX u.length R s;have hQ:∀s',s'<=TQ u.length R s->SS u.length R s'<=60000000000000:=fun s' h'=>Nat.le_trans (M4 u.length R h') (by omega)
  have G:VV u.length R R<=60000000000000:=Nat.le_trans (Tc u.length R R) C;have ao:=El.Cv h;have aq:=Cb h.red
  by_cases Q:q=0
  ·have a2:x=p:=by rw[d,Q];clear v;grind
   rcases v H (hQ _ (by omega)) G with⟨w,hw,f,hy⟩ |⟨M,l,hn⟩
   ·refine .inl ⟨w,Hn hw,by rw[a2];exact f,?_⟩;intro T A B F D hB;exact dr h F D K d H N hs C I Q hw hy hB
   obtain⟨i,hi,O⟩:=Eg h.red.1 (CO h.red) (by have:=h.red.2.2.1;grind);have aj:=ao.inv h.tail hi O;rcases v (H.mul h.tail aj) (hQ _ (by omega)) G with⟨w,hw,f,hy⟩ |⟨ad,l2,al⟩
   ·refine .inl ⟨w*rt u r,CW.2 ⟨0,w,Bx u,hw,by clear v;grind⟩,?_,?_⟩
    ·have:p=p*(AM u r*i):=by rw[O];clear v;grind
     rw[a2];clear v;grind
    intro T A B F D hB;exact dt h F D K d H N hs C I Q hi O hn hw hy hB
   refine .inr ⟨?_,[],?_⟩
   ·rw[a2,Zy h.red H.mem];rintro (h1 |⟨i',aw,ae,h1⟩)
    ·exact M h1
    have:i'=i:=by
     have:i'=i'*(AM u r*i):=by rw[O];clear v;grind
     have h2:i=i*(AM u r*i'):=by rw[ae];clear v;grind
     clear v;grind
    rw[this] at h1;exact ad h1
   intro T A F D;exact du h F D K d H N hs C I Q hi O hn al
  have hN:=El.norm h H.mem N.mem (d ▸ K);rcases v hN (hQ _ (by omega)) G with⟨n,hn,J,ai⟩ |⟨M,l,an⟩
  rotate_left
  ·exact .inr ⟨fun hS=>M (Z1 h.red H.mem N.mem (d ▸ hS)),[],fun F D=>di h F D K d H N hs C I Q an⟩
  have a7:=hN.sqrt h.tail hn J;obtain⟨t,ht⟩:∃t:Re,t=Re.ofRat (1/2):=⟨_,rfl⟩
  have S:=Wa ht;have a1:El u 1 t:=by rw[ht];exact El.rat h.red.1 LU
  obtain⟨y,hy⟩:∃y:Nat->Re,y=fun i=>if i=0 then p+n else p-n:=⟨_,rfl⟩
  have U:y 0=p+n:=by rw[hy];rfl
  have V:y 1=p-n:=by rw[hy];rfl
  have W:∀i,El u (s+(2*s+2*EE u.length R+R+1+GG u.length R)+1) (y i):=fun i=>by
   rw[hy]
   show El u _ (if i=0 then p+n else p-n)
   by_cases hi:i=0
   ·rw[if_pos hi];exact H.add h.red.1 a7
   rw[if_neg hi];exact H.sub h.red.1 a7
  have Z:∀(k0:Nat) (L:Nat->LR) (w:Re),k0<2->(∀i,i<k0->Ha u (t*y i) (L i))->In u w->w*w=t*y k0->Hb u (t*y k0) w->
    ∃w,In (r::u) w/\w*w=x/\Hb (r::u) x w:=by
   intro k0 L w hk M hw f P
   have key:∃m,m*m=p*p-q*q*AM u r/\y k0=p+m:=by
    rcases (show k0=0\/k0=1 by omega) with rfl | rfl
    ·exact⟨n,J,U⟩
    exact⟨-n,by rw[<-J];clear v;grind,by rw[V];clear v;grind⟩
   obtain⟨m,a5,ah⟩:=key;have au:w≠0:=Zx h.red Q a5 S (by rw[f,ah]);obtain⟨j,hj,ag⟩:=Eg h.red.1 hw au;have ar:In u (t*(q*j)):=Ak h.red.1 a1.mem (Ak h.red.1 N.mem hj);refine⟨w+t*(q*j)*rt u r,CW.2 ⟨_,_,hw,ar,rfl⟩,?_,?_⟩
   ·rw[d]
    exact Zw a5 S aq (by rw[f,ah]) (i:=t*j) (by have:(w+w)*(t*j)=2*t*(w*j):=by clear v;grind
                                                rw[this,S,ag];clear v;grind) (by clear v;grind)
   intro T A B F D hB;exact dj h F D K d H N hs C I Q hn J ht ai U V W (by omega) M hk hw f P hj ag hB
  rcases v (a1.mul h.tail (W 0)) (hQ _ (by omega)) G with⟨w,hw,f,P⟩ |⟨aa,l0,a6⟩
  ·exact .inl (Z 0 (fun _=>[]) w (by omega) (fun i hi=>by omega) hw f P)
  rcases v (a1.mul h.tail (W 1)) (hQ _ (by omega)) G with⟨w,hw,f,P⟩ |⟨ab,l1,ak⟩
  ·exact .inl (Z 1 (fun _=>l0) w (by omega) (fun i hi=>by rw[show i=0 by omega];exact a6) hw f P)
  refine .inr ⟨fun hS=>?_,[],?_⟩
  ·rcases Z2 h.red H.mem N.mem (d ▸ hS) J S with e | e
   ·exact aa (by rw[U];exact e)
   exact ab (by rw[V];exact e)
  intro T A F D
  exact dk h F D K d H N hs C I Q hn J ht ai U V W (L:=fun i=>if i=0 then l0 else l1) (Nat.le_refl 2) (fun i hi=>by
   rcases (show i=0\/i=1 by omega) with rfl | rfl
   ·exact a6
   exact ak) rfl
end Go.Abs
namespace Go.Abs
open Go.RowKit
variable {A:LR} {R:Nat} {T X Y:List LR} {b1 b2 c:Bool} {g:FuncId} {l1 l2:List UInt32} {u w:List (List Rat)} {x:Re} {xs ys:List Rat}
theorem Nh (p q:Rat):decide (p=q)=(Fq p q==0):=by
 rw[Bool.eq_iff_iff,decide_eq_true_eq,beq_iff_eq];unfold Fq
 split
 ·rename_i h;exact⟨fun e=>by subst e;grind,fun e=>by omega⟩
 split
 ·rename_i h;exact⟨fun e=>by subst e;grind,fun e=>by omega⟩
 exact⟨fun _=>rfl,fun _=>by grind⟩
theorem SK {p q:Rat} (h:rp p=rp q):p=q:=by
 have d:=Ft p;rw[h] at d;have f:=Ft q;have j:=d.num.nat;have n:=f.num.nat;have s1:=d.num.E3;have s2:=f.num.E3;have d1:=d.den.E3;have d2:=f.den.E3;exact Rat.ext (s1.trans s2.symm) (by have:=d1.trans d2.symm;omega)
theorem SL (h:Aa xs=Aa ys):xs=ys:=List.map_inj_right (fun _ _=>SK) |>.1 h
def Eo {α:Type} (p:α->α->Bool):List α->List α->Bool
 | [],[]=>true
 | x::X,y::Y=>p x y&&Eo p X Y
 | _,_=>false
theorem Qg {α:Type} {p:α->α->Bool}:∀{X Y:List α},X.length≠Y.length->Eo p X Y=false
 | [],[],h=>absurd rfl h
 |[],_::_,_|_::_,[],_=>rfl
 | x::X,y::Y,h=>by rw[Eo,Qg (X:=X) (Y:=Y) (by simpa using h),Bool.and_false]
theorem Ny {α:Type} {p:α->α->Bool} {X Y:List α} {i:Nat} {x y:α} (d:X[i]? =some x) (f:Y[i]? =some y):Eo p (X.drop i) (Y.drop i)=(p x y&&Eo p (X.drop (i+1)) (Y.drop (i+1))):=by
 have h:=FY d;have j:=FY f;rw[List.drop_eq_getElem_cons h,List.drop_eq_getElem_cons j,Eo];rw[List.getElem?_eq_getElem h] at d;rw[List.getElem?_eq_getElem j] at f;rw[Option.some.inj d,Option.some.inj f]
theorem Qf {α:Type} {p:α->α->Bool}:∀{X Y:List α},(∀x∈X,∀y∈Y,(p x y=true↔x=y))->(Eo p X Y=true↔X=Y)
 |[],[],_|[],_::_,_|_::_,[],_=>by simp[Eo]
 | x::X,y::Y,h=>by
  rw[Eo,Bool.and_eq_true,h x List.mem_cons_self y List.mem_cons_self,Qf (fun a ha b hb=>h a (List.mem_cons_of_mem _ ha) b (List.mem_cons_of_mem _ hb))];simp
theorem mB {p q:Rat} {c1 c2:Bool} {m1 m2:List UInt32} (n:BH p b1 l1 b2 l2) (r:BH q c1 m1 c2 m2) (hs:Bu p) (ht:Bu q) (j:c=decide (p=q)):CF 311 [.agg (BS b1 l1 b2 l2),.agg (BS c1 m1 c2 m2)] (.one (.bool c)):=by
 refine AJ Tryz.func311 fun E h=>?_
 conv=>cbv
 obtain⟨t,d⟩:=xI (Fq p q);refine AB h (bc n r hs ht d) ?_;conv=>cbv
 intro s f;conv=>cbv
 exact AD ⟨⟨rfl,congrArg _ (by rw[j,f,d];exact Nh p q),trivial⟩,trivial⟩
theorem bI {X Y:LR} {p:el AA->el AA->Bool} (V:∀x∈X,∀y∈Y,CF g [.agg (cells AA x),.agg (cells AA y)] (.one (.bool (p x y)))) (J:c=Eo p X Y):CF 310 [.one (.sl AA X),.one (.sl AA Y),.one (.fn g)] (.one (.bool c)):=by
 refine AJ Tryz.func310 fun E U=>?_
 conv=>cbv
 rintro a2 ⟨O,f11⟩;conv=>cbv
 rintro a5 ⟨P,f13⟩;conv=>cbv
 intro H v;conv=>cbv
 cases H <;> conv=>cbv
 ·have D:=Co v;intro n16 s;have Q:=s.eq;have f16:=s.le;conv=>cbv
  refine .inr ?_;obtain⟨M,t⟩:=xJ fun vs N k=>∃(i':Nat) (L i:Int),vs=[.one (.sl AA Y),.one (.fn g),.one (.sl AA X),.one (.int .i64 L),.one (.int .i64 i)]/\(CT L X.length/\AO i i'/\i'<=X.length)/\c=Eo p (X.drop i') (Y.drop i')/\k=X.length-i'
  refine⟨[],[1,2,15,16,17],[],M,⟨X.length-0,by rw[t];exact⟨0,n16,0,rfl,⟨s,Al 0,by omega⟩,J,rfl⟩⟩,?_⟩;intro vs N a1 K;rw[t] at K;obtain⟨i',L,i,rfl,⟨I,hi,W⟩,hinv,Z⟩:=K;conv=>cbv
  have eL:=I.eq;have ei:=hi.eq;intro n18 B;conv=>cbv
  cases n18 <;> conv=>cbv
  ·have F:=AW B;exact AD ⟨⟨rfl,congrArg _ (by rw[hinv,List.drop_eq_nil_of_le (by omega),List.drop_eq_nil_of_le (by omega)];rfl),trivial⟩,trivial⟩
  have F:=AY B;refine .inr ?_;obtain⟨d,h⟩:=AK (l:=X) (i:=i') (by omega);refine⟨d,fun _=>⟨by omega,by rw[show (i).toNat=i' by omega];exact h⟩,?_⟩;try conv=>cbv
  obtain⟨f,j⟩:=AK (l:=Y) (i:=i') (by omega);refine⟨f,fun _=>⟨by omega,by rw[show (i).toNat=i' by omega];exact j⟩,?_⟩;try conv=>cbv
  obtain⟨C,n⟩:=xB (p d f);refine .inl ⟨[.agg [.bool d.1.1,.sl .u32 d.1.2,.bool d.2.1,.sl .u32 d.2.2],.agg [.bool f.1.1,.sl .u32 f.1.2,.bool f.2.1,.sl .u32 f.2.2]],.one (.bool C),fun _=>⟨t4,t4,trivial⟩,fun _=>E6 U ((by rw[n];exact V d (List.mem_of_getElem? h) f (List.mem_of_getElem? j))),?_⟩;try conv=>cbv
  intro n30 r;conv=>cbv
  cases n30 <;> conv=>cbv
  ·have G:=C3 r;intro n31 S;conv=>cbv
   refine AI ?_;refine⟨X.length-(i'+1),?_,?_⟩
   ·omega
   rw[t];refine⟨i'+1,L,n31,rfl,⟨I,⟨by omega⟩,by omega⟩,?_,rfl⟩;rw[hinv,Ny h j,<-n,C3 r,Bool.true_and]
  have G:=C4 r;exact AD ⟨⟨rfl,congrArg _ (by rw[hinv,Ny h j,<-n,C4 r];rfl),trivial⟩,trivial⟩
 have D:=Cp v;exact AD ⟨⟨rfl,congrArg _ (by rw[J];exact Qg (by omega)),trivial⟩,trivial⟩
theorem bJ {p:LR->LR->Bool} (V:∀x∈X,∀y∈Y,CF g [.one (.sl AA x),.one (.sl AA y)] (.one (.bool (p x y)))) (J:c=Eo p X Y):CF 309 [.one (.sl (.sl AA) X),.one (.sl (.sl AA) Y),.one (.fn g)] (.one (.bool c)):=by
 refine AJ Tryz.func309 fun E U=>?_
 conv=>cbv
 rintro a2 ⟨O,f11⟩;conv=>cbv
 rintro a5 ⟨P,f13⟩;conv=>cbv
 intro H v;conv=>cbv
 cases H <;> conv=>cbv
 ·have D:=Co v;intro n16 s;have Q:=s.eq;have f16:=s.le;conv=>cbv
  refine .inr ?_;obtain⟨M,t⟩:=xJ fun vs N k=>∃(i':Nat) (L i:Int),vs=[.one (.sl (.sl AA) Y),.one (.fn g),.one (.sl (.sl AA) X),.one (.int .i64 L),.one (.int .i64 i)]/\(CT L X.length/\AO i i'/\i'<=X.length)/\c=Eo p (X.drop i') (Y.drop i')/\k=X.length-i'
  refine⟨[],[1,2,15,16,17],[],M,⟨X.length-0,by rw[t];exact⟨0,n16,0,rfl,⟨s,Al 0,by omega⟩,J,rfl⟩⟩,?_⟩;intro vs N a1 K;rw[t] at K;obtain⟨i',L,i,rfl,⟨I,hi,W⟩,hinv,Z⟩:=K;conv=>cbv
  have eL:=I.eq;have ei:=hi.eq;intro n18 B;conv=>cbv
  cases n18 <;> conv=>cbv
  ·have F:=AW B;exact AD ⟨⟨rfl,congrArg _ (by rw[hinv,List.drop_eq_nil_of_le (by omega),List.drop_eq_nil_of_le (by omega)];rfl),trivial⟩,trivial⟩
  have F:=AY B;refine .inr ?_;obtain⟨n,d⟩:=AK (l:=X) (i:=i') (by omega);refine⟨n,fun _=>⟨by omega,by rw[show (i).toNat=i' by omega];exact d⟩,?_⟩;try conv=>cbv
  obtain⟨r,f⟩:=AK (l:=Y) (i:=i') (by omega);refine⟨r,fun _=>⟨by omega,by rw[show (i).toNat=i' by omega];exact f⟩,?_⟩;try conv=>cbv
  obtain⟨C,h⟩:=xB (p n r);refine .inl ⟨[.one (.sl AA n),.one (.sl AA r)],.one (.bool C),fun _=>t2,fun _=>E6 U ((by rw[h];exact V n (List.mem_of_getElem? d) r (List.mem_of_getElem? f))),?_⟩;try conv=>cbv
  intro n30 j;conv=>cbv
  cases n30 <;> conv=>cbv
  ·have G:=C3 j;intro n31 S;conv=>cbv
   refine AI ?_;refine⟨X.length-(i'+1),?_,?_⟩
   ·omega
   rw[t];refine⟨i'+1,L,n31,rfl,⟨I,⟨by omega⟩,by omega⟩,?_,rfl⟩;rw[hinv,Ny d f,<-h,C3 j,Bool.true_and]
  have G:=C4 j;exact AD ⟨⟨rfl,congrArg _ (by rw[hinv,Ny d f,<-h,C4 j];rfl),trivial⟩,trivial⟩
 have D:=Cp v;exact AD ⟨⟨rfl,congrArg _ (by rw[J];exact Qg (by omega)),trivial⟩,trivial⟩
theorem mE (hs:Dn xs) (ht:Dn ys):∀x∈Aa xs,∀y∈Aa ys,CF 311 [.agg (cells AA x),.agg (cells AA y)] (.one (.bool (decide (x=y)))):=by
 intro x j y n;obtain⟨p,d,rfl⟩:=List.mem_map.1 j;obtain⟨q,f,rfl⟩:=List.mem_map.1 n;refine mB (Ft p) (Ft q) (hs p d) (ht q f) ?_
 by_cases h:p=q
 ·subst h;simp
 rw[decide_eq_false h,decide_eq_false (fun e=>h (SK e))]
theorem Ou {X Y:LR} (j:X=Aa xs) (n:Y=Aa ys) (hs:Dn xs) (ht:Dn ys) (p:c=decide (X=Y)):CF 232 [.one (.sl AA X),.one (.sl AA Y)] (.one (.bool c)):=by
 refine AJ Tryz.func232 fun E h=>?_
 conv=>cbv
 obtain⟨f,d⟩:=xB (Eo (fun x y=>decide (x=y)) X Y);refine AB (r:= .one (.bool f)) h (bI (by rw[j,n];exact mE hs ht) d) ?_;try conv=>cbv
 exact AD ⟨⟨rfl,congrArg _ (by rw[p,d,Bool.eq_iff_iff,decide_eq_true_eq];exact (Qf (fun x _ y _=>by rw[decide_eq_true_eq])).symm),trivial⟩,trivial⟩
theorem mD (hu:Ae R u) (hw:Ae R w) (d:∀x∈X,x∈tw u) (f:∀y∈Y,y∈tw w):∀x∈X,∀y∈Y,CF 232 [.one (.sl AA x),.one (.sl AA y)] (.one (.bool (decide (x=y)))):=by
 intro x n y r;obtain⟨p,h,rfl⟩:=List.mem_map.1 (d x n);obtain⟨q,j,rfl⟩:=List.mem_map.1 (f y r);exact Ou rfl rfl ((hu.tb p (List.mem_reverse.1 h)).Bh hu.hR) ((hw.tb q (List.mem_reverse.1 j)).Bh hw.hR) rfl
theorem Uo (hu:Ae R u) (hw:Ae R w) (D:X=tw u) (F:Y=tw w) (r:c=(decide (Y.length<=X.length)&&decide (X.take Y.length=Y))):CF 231 [.one (.sl (.sl AA) X),.one (.sl (.sl AA) Y)] (.one (.bool c)):=by
 refine AJ Tryz.func231 fun E C=>?_
 conv=>cbv
 rintro N ⟨L,f6⟩;conv=>cbv
 rintro O ⟨M,f8⟩;conv=>cbv
 intro K n;conv=>cbv
 cases K <;> conv=>cbv
 ·have H:=HH n;exact AD ⟨⟨rfl,congrArg _ (by rw[r,decide_eq_false (show ¬Y.length<=X.length by omega),Bool.false_and]),trivial⟩,trivial⟩
 have H:=HI n;rintro J ⟨B,f13⟩;conv=>cbv
 intro I s;conv=>cbv
 refine AH ?_;intro h p;conv=>cbv
 intro j f;conv=>cbv
 obtain⟨v,d⟩:=xB (Eo (fun x y=>decide (x=y)) j Y);refine AB C (bJ (mD hu hw (fun x t=>by rw[f,List.drop_zero] at t;rw[<-D];exact List.mem_of_mem_take t) (fun y G=>by rw[<-F];exact G)) d) ?_;try conv=>cbv
 exact AD ⟨⟨rfl,congrArg _ (by rw[r,decide_eq_true (show Y.length<=X.length by omega),Bool.true_and,d,f,List.drop_zero,show h=Y.length by omega,Bool.eq_iff_iff,decide_eq_true_eq];exact (Qf (fun x _ y _=>by rw[decide_eq_true_eq])).symm),trivial⟩,trivial⟩
theorem Mo (h:tw u=tw w):u=w:=by
 have d:=(List.map_inj_right (fun _ _=>SL)).1 h;exact List.reverse_inj.1 d
theorem Sf:w<:+u↔((tw w).length<=(tw u).length/\(tw u).take (tw w).length=tw w):=by
 constructor
 ·rintro⟨v,rfl⟩
  have e:tw (v++w)=tw w++tw v:=by rw[tw,tw,tw,List.reverse_append,List.map_append]
  rw[e];exact⟨by simp,List.take_left⟩
 rintro⟨f,d⟩
 rw[Bb,Bb] at f;rw[Bb,FI] at d;rw[<-Mo d];exact List.drop_suffix _ _
theorem fK (hu:Ae R u) (hw:Ae R w) (d:X=tw u) (f:Y=tw w) (h:w<:+u):CF 231 [.one (.sl (.sl AA) X),.one (.sl (.sl AA) Y)] (.one (.bool true)):=
 Uo hu hw d f (by have:=Sf.1 h;rw[d,f,decide_eq_true this.1,decide_eq_true this.2];rfl)
theorem fJ (hu:Ae R u) (hw:Ae R w) (f:X=tw u) (j:Y=tw w) (h:¬w<:+u):CF 231 [.one (.sl (.sl AA) X),.one (.sl (.sl AA) Y)] (.one (.bool false)):=
 Uo hu hw f j (by
  by_cases d:Y.length<=X.length
  ·rw[decide_eq_true d,decide_eq_false (fun n=>h (Sf.2 (by rw[<-f,<-j];exact⟨d,n⟩)))];rfl
  rw[decide_eq_false d];rfl)
theorem QY {q:Rat} (h:BH q b1 l1 b2 l2) (hs:Bu q):CF 136 [.agg (BS b1 l1 b2 l2)] (.agg (BS b1 l1 b2 l2)):=by
 have f:=h.small hs;refine AJ Tryz.func136 fun E d=>?_
 conv=>cbv
 refine AB d (Hz rfl (by omega)) ?_;conv=>cbv
 refine AB d (Hz rfl (by omega)) ?_;conv=>cbv
 refine g2 rfl ?_;exact AD ⟨⟨rfl,rfl,rfl,rfl,rfl,trivial⟩,trivial⟩
theorem KA {X:LR} (M:X=Aa xs) (hs:Dn xs) (hn:xs.length<=1000000):CF 240 [.one (.sl AA X)] (.one (.sl AA X)):=by
 have W:X.length=xs.length:=by rw[M,List.length_map]
 refine AJ Tryz.func240 fun E V=>?_
 conv=>cbv
 rintro n7 ⟨e7,f7⟩;conv=>cbv
 refine⟨fun _=>⟨by omega,by omega,by show _*64<=140737488355328;omega⟩,?_⟩;intro D (F:LR) t;have a2:=t.1;have v:F=List.replicate D (((false,[]),(false,[])):el AA):=t.2;have S:F.length=D:=by rw[v,List.length_replicate]
 conv=>cbv
 intro G h;have Q:=h.eq;have f10:=h.le;conv=>cbv
 refine .inr ?_;obtain⟨P,j⟩:=xJ fun vs I k=>∃(o:LR) (m i':Nat) (L i:Int),vs=[.one (.AN AA 8 0 0 m),.one (.sl AA X),.one (.int .i64 L),.one (.int .i64 i)]/\I=[.arr 0 AA o]/\(o.length=X.length/\m=X.length/\CT L X.length/\AO i i'/\i'<=X.length)/\o.take i'=X.take i'/\k=X.length-i'
 refine⟨[],[3,9,10,11],[8],P,⟨X.length-0,by rw[j];exact⟨F,D,0,G,0,rfl,rfl,⟨by omega,by omega,h,Al 0,by omega⟩,rfl,rfl⟩⟩,?_⟩;intro vs I a6 N;rw[j] at N;obtain⟨o,m,i',L,i,rfl,rfl,⟨ho,hm,K,hi,Z⟩,hinv,a1⟩:=N;conv=>cbv
 have eL:=K.eq;have ei:=hi.eq;intro H r;conv=>cbv
 cases H <;> conv=>cbv
 ·have C:=AW r;exact AD ⟨⟨rfl,.inl ⟨_,rfl,by omega,congrArg _ (by rw[hm,List.drop_zero];rw[show i'=X.length by omega] at hinv;rw[hinv,List.take_length])⟩,trivial⟩,trivial⟩
 have C:=AY r;refine .inr ?_;obtain⟨p,d⟩:=AK (l:=X) (i:=i') (by omega);refine⟨p,fun _=>⟨by omega,by rw[show (i).toNat=i' by omega];exact d⟩,?_⟩;try conv=>cbv
 obtain⟨q,hq,a5,B⟩:=Gc M hs d;refine AB V (QY hq B) ?_;conv=>cbv
 refine AH ?_;intro s O;conv=>cbv
 refine⟨p,fun _=>⟨by show _<List.length (α:=(el AA)) o;(first | omega | (simp;omega)),t4⟩,?_⟩;intro (n:LR) (f:n=List.set (α:=(el AA)) o s p);have J:n.length=o.length:=by rw[f,List.length_set]
 conv=>cbv
 intro n21 U;conv=>cbv
 refine AI ?_;refine⟨X.length-(i'+1),?_,?_⟩
 ·omega
 rw[j];refine⟨n,m,i'+1,L,n21,rfl,rfl,⟨by omega,by omega,K,⟨by omega⟩,by omega⟩,?_,rfl⟩;rw[f,show s=i' by omega,O5 (by omega),hinv,<-Cg d]
theorem Nk {s:Nat} (h:Ae R u) (S:T=tw u) (hA:A=em u x) (hx:El u s x) (hs:s<=60000000000000:=by omega):CF 122 [.agg (AR T A)] (.agg (AR T A)):=by
 have a2:T.length=u.length:=by rw[S,Bb]
 have a5:=h.ht;refine AJ Tryz.func122 fun E Q=>?_
 conv=>cbv
 refine AB (r:= .one (.sl AA A)) Q (KA hA (hx.Bh hs) (by rw[hx.len];exact Gp h.ht)) ?_;try conv=>cbv
 intro W v;have a1:=v.eq;have f12:=v.le;conv=>cbv
 refine .inr ?_
 obtain⟨J0,p⟩:∃J:List AV->List AL->Nat->Prop,J=fun vs N k=>(∃(L i:Int),vs=[.one (.Ab 2 0 0),.one (.Ab 3 0 0),.one (.sl (.sl AA) T),.one (.int .i64 L),.one (.int .i64 i)]/\N=[.var 0 [.nil,.nil],.var 0 [.nil,.sl AA A],.dead 0]/\(CT L T.length/\AO i 0)/\k=T.length)\/
  (∃(o:List LR) (mm i':Nat) (L i:Int),vs=[.one (.Ab 2 0 0),.one (.Ab 3 0 0),.one (.sl (.sl AA) T),.one (.int .i64 L),.one (.int .i64 i)]/\N=[.var 0 [.nil,.nil],.var 0 [.AN (.sl AA) 22 0 0 mm,.sl AA A],.arr 0 (.sl AA) o]/\(CT L T.length/\AO i i'/\i'<=T.length/\mm=o.length)/\o=T.take i'/\k=T.length-i'):=⟨_,rfl⟩
 refine⟨[],[2,3,11,12,13],[2,3,22],J0,⟨T.length,by rw[p];exact .inl ⟨W,0,rfl,rfl,⟨v,Al 0⟩,rfl⟩⟩,?_⟩;intro vs N a8 Z;rw[p] at Z;rcases Z with⟨L,i,rfl,rfl,⟨H,hi⟩,V⟩ |⟨o,mm,i',L,i,rfl,rfl,⟨H,hi,a6,K⟩,hinv,V⟩
 ·conv=>cbv
  have eL:=H.eq;have ei:=hi.eq;obtain⟨i',U⟩:=xN 0;intro G j;conv=>cbv
  cases G <;> conv=>cbv
  ·have D:=AW j;exact AD ⟨⟨rfl,.inr (.inl ⟨_,congrArg _ (List.eq_nil_of_length_eq_zero (by omega))⟩),rfl,trivial⟩,trivial⟩
  have D:=AY j;refine .inr ?_;obtain⟨f,d⟩:=AK (l:=T) (i:=i') (by omega);refine⟨f,fun _=>⟨by omega,by rw[show (i).toNat=i' by omega];exact d⟩,?_⟩;try conv=>cbv
  obtain⟨y,B,n⟩:=Hk S d;have C:y∈u:=List.mem_reverse.1 (List.mem_of_getElem? n);refine AB (r:= .one (.sl AA f)) Q (KA B ((h.tb y C).Bh h.hR) (by rw[Ik h.red _ y n];exact Gp)) ?_;try conv=>cbv
  refine⟨[f],fun _=>⟨rfl,by decide,rfl,⟨rfl,by first | exact t1 | exact t2 | exact t4 | simp[Ao,BA,cells],trivial⟩⟩,.inr ?_⟩;try conv=>cbv
  refine .inl ⟨[f],fun _=>⟨rfl,by show (1)*24<=140737488355328;(try simp only[List.length_take,List.length_drop]);omega⟩,?_⟩;intro n22 O;conv=>cbv
  refine g2 rfl ?_;intro n24 P;conv=>cbv
  refine AI ?_;refine⟨T.length-(i'+1),?_,?_⟩
  ·omega
  rw[p];exact .inr ⟨[f],n22,i'+1,L,n24,rfl,rfl,⟨H,⟨by omega⟩,by omega,O⟩,by rw[Cg d,U];rfl,rfl⟩
 conv=>cbv
 have eL:=H.eq;have ei:=hi.eq;intro G j;conv=>cbv
 cases G <;> conv=>cbv
 ·have D:=AW j;exact AD ⟨⟨rfl,.inl ⟨_,rfl,by omega,congrArg _ (by rw[K,hinv,List.drop_zero,List.take_length,show i'=T.length by omega,List.take_length])⟩,rfl,trivial⟩,trivial⟩
 have D:=AY j;refine .inr ?_;obtain⟨f,d⟩:=AK (l:=T) (i:=i') (by omega);refine⟨f,fun _=>⟨by omega,by rw[show (i).toNat=i' by omega];exact d⟩,?_⟩;try conv=>cbv
 obtain⟨y,B,n⟩:=Hk S d;have C:y∈u:=List.mem_reverse.1 (List.mem_of_getElem? n);refine AB (r:= .one (.sl AA f)) Q (KA B ((h.tb y C).Bh h.hR) (by rw[Ik h.red _ y n];exact Gp)) ?_;try conv=>cbv
 refine⟨[f],fun _=>⟨rfl,by decide,rfl,⟨rfl,by first | exact t1 | exact t2 | exact t4 | simp[Ao,BA,cells],trivial⟩⟩,.inr ?_⟩;try conv=>cbv
 have a7:o.length<=T.length:=by rw[hinv,List.length_take];omega
 refine .inl ⟨[f],fun _=>⟨rfl,K,rfl,by show (o.length+1)*24<=140737488355328;(try simp only[List.length_take,List.length_drop]);omega⟩,?_⟩;intro (F:List (el (.sl AA))) n22 t;have I:F=(o:List (el (.sl AA)))++([f]:List (el (.sl AA))):=t.1;have M:n22=List.length (α:=(el (.sl AA))) F:=t.2;conv=>cbv
 refine g2 rfl ?_;intro n24 P;conv=>cbv
 refine AI ?_;refine⟨T.length-(i'+1),?_,?_⟩
 ·omega
 rw[p];exact .inr ⟨F,n22,i'+1,L,n24,rfl,rfl,⟨H,⟨by omega⟩,by omega,M⟩,by rw[I,hinv,Cg d],rfl⟩
theorem Rw {C:LR} (h:Ae R w) (hT:T=tw w) (S:A=em u x) (hx:In u x) (hu:u<:+w) (hC:C=em w x):CF 237 [.one (.sl (.sl AA) T),.one (.sl AA A)] (.one (.sl AA C)):=by
 have L:T.length=w.length:=by rw[hT,Bb]
 have a2:=h.ht;have a1:A.length=2^u.length:=by rw[S,BJ hx]
 have N:=hu.length_le;have hle:2^u.length<=2^w.length:=CP N;have Z:=DD h.ht;have I:=V7 hu h.red hx;refine AJ Tryz.func237 fun E U=>?_
 conv=>cbv
 obtain⟨an,F⟩:=xN A.length;refine AB U (S7 (by omega) F) ?_;conv=>cbv
 refine .inr ?_;obtain⟨J0,B⟩:=xJ fun vs Q k=>∃(o:LR) (mm j:Nat),vs=[.one (.sl (.sl AA) T),.one (.AN AA 7 0 0 mm)]/\Q=[.arr 0 AA o]/\(mm=o.length/\o.length=2^u.length+j/\o.length<=2^w.length)/\o=A++List.replicate j (rp 0)/\k=2^w.length-o.length
 refine⟨[],[0,5],[7],J0,⟨2^w.length-A.length,by rw[B];exact⟨A,an,0,rfl,rfl,⟨F,by omega,by omega⟩,by simp,rfl⟩⟩,?_⟩;intro vs Q a8 V;rw[B] at V;obtain⟨o,mm,j,rfl,rfl,⟨G,a6,a7⟩,hinv,a5⟩:=V;conv=>cbv
 intro n9 h9;have e9:=h9.eq;conv=>cbv
 rintro aa ⟨J,f11⟩;conv=>cbv
 intro ab K;conv=>cbv
 refine AH ?_;have W:=(Dt K (J.trans (congrArg _ L))).eq;intro P D;conv=>cbv
 cases P <;> conv=>cbv
 ·have O:=AW D;exact AD ⟨⟨rfl,.inl ⟨_,rfl,by omega,congrArg _ (by rw[hC,G,List.drop_zero,List.take_length,hinv,I,S,show j=2^w.length-2^u.length by omega])⟩,trivial⟩,trivial⟩
 have O:=AY D;refine .inr ?_;obtain⟨p,r,f,n,t⟩:=Be (((0:Int):Rat));refine AB U (G4 (by omega) rfl t) ?_;conv=>cbv
 refine⟨[((p,r),(f,n))],fun _=>⟨rfl,by decide,rfl,⟨rfl,by first | exact t1 | exact t2 | exact t4 | simp[Ao,BA,cells],trivial⟩⟩,.inr ?_⟩;try conv=>cbv
 refine .inl ⟨[((p,r),(f,n))],fun _=>⟨rfl,G,rfl,by show (o.length+1)*64<=140737488355328;(try simp only[List.length_take,List.length_drop]);omega⟩,?_⟩;intro (d:LR) n17 v;have s:d=(o:LR)++([((p,r),(f,n))]:LR):=v.1;have H:n17=List.length (α:=(el AA)) d:=v.2;conv=>cbv
 have M:d.length=o.length+1:=by rw[s];simp
 refine⟨2^w.length-d.length,?_,?_⟩
 ·omega
 rw[B];exact⟨d,n17,j+1,rfl,rfl,⟨H,by omega,by omega⟩,by rw[s,hinv,List.replicate_succ',List.append_assoc,<-t.rp];rfl,rfl⟩
end Go.Abs
