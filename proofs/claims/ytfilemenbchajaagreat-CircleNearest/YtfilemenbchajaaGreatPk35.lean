/- Part 36 of a proof. Conditions: each theorem's own. -/
import Derived.Test.YtfilemenbchajaaGreatPk34
set_option linter.all false
set_option maxHeartbeats 8000000
set_option maxRecDepth 20000
open Go.Proofs
namespace Go.Abs
open Go.RowKit
variable {R a i k m q:Nat} {b b1 b2 c:Bool} {l l1 l2 o z:List UInt32} {x y:Int}
theorem UW {x:Nat} (h:x=2^(m+1)*k):x ||| 2^m=x+2^m:=by
 rw[h,Nat.or_comm,I9 (Nat.pow_lt_pow_right (by decide) (Nat.lt_succ_self m)),Nat.add_comm]
theorem Wc {x:UInt32} (f:o[q]? =some x) (hm:m<32) (d:2^(32*q+m+1)∣AB o):∃k,x.toNat=2^(m+1)*k:=by
 have u:q<o.length:=by apply Classical.byContradiction;intro t;rw[List.getElem?_eq_none (by omega)] at f;exact absurd f (by simp)
 have g:AB o=AB (o.take q)+2^(32*q)*(x.toNat+4294967296*AB (o.drop (q+1))):=by
  conv=>lhs;rw[<-List.take_append_drop q o]
  rw[ML,List.length_take,Nat.min_eq_left (by omega),DE f]
 have h:2^(32*q)∣AB o:=Nat.dvd_trans ⟨2^(m+1),by rw[<-Nat.pow_add];congr 1⟩ d
 have j:2^(32*q)∣AB (o.take q):=by
  rw[g] at h;exact (Nat.dvd_add_iff_left ⟨_,rfl⟩).2 h
 have n:AB (o.take q)<2^(32*q):=by
  have:=CL (o.take q);rwa [List.length_take,Nat.min_eq_left (by omega)] at this
 have p:AB (o.take q)=0:=Nat.eq_zero_of_dvd_of_lt j n;rw[g,p,Nat.zero_add,Nat.add_assoc,Nat.pow_add] at d;have r:2^(m+1)∣x.toNat+4294967296*AB (o.drop (q+1)):=Nat.dvd_of_mul_dvd_mul_left (Nat.two_pow_pos _) d;have s:2^(m+1)∣4294967296*AB (o.drop (q+1)):=Nat.dvd_trans ⟨2^(31-m),by rw[<-Nat.pow_add,show m+1+(31-m)=32 by omega]⟩ ⟨_,rfl⟩;exact (Nat.dvd_add_iff_left s).2 r
theorem ZD {x w:UInt32} (d:o[q]? =some x) (hm:m<32) (f:2^(32*q+m+1)∣AB o) (hw:w.toNat=x.toNat ||| 2^m):AB (o.set q w)=AB o+2^(32*q+m)/\w.toNat=x.toNat+2^m:=by
 obtain⟨k,g⟩:=Wc d hm f;rw[UW g] at hw;have:=Oj (w:=w) d;rw[hw,Nat.mul_add,<-Nat.pow_add] at this;exact⟨by omega,hw⟩
theorem Yj {n a b:Int} {p:Nat} (h:n=IntKind.u32.wrap (BitVec.ofInt IntKind.u32.bits a &&& ~~~ BitVec.ofInt IntKind.u32.bits b).toNat) (ha:a=((p+2^m:Nat):Int)) (hb:b=((2^m:Nat):Int)) (f:p=2^(m+1)*k) (hm:m<32) (B:p+2^m<4294967296):n=p:=by
 have u:=wrap_u32 h;have w:2^m<4294967296:=by omega
 have g:(BitVec.ofInt 32 a &&& ~~~ BitVec.ofInt 32 b:BitVec 32).toNat=p:=by
  have s:BitVec.ofInt 32 a=BitVec.ofNat 32 (p+2^m):=by rw[ha];exact BitVec.ofInt_natCast 32 _
  have t:BitVec.ofInt 32 b=BitVec.ofNat 32 (2^m):=by rw[hb];exact BitVec.ofInt_natCast 32 _
  rw[s,t]
  have j:BitVec.ofNat 32 (p+2^m) &&& ~~~BitVec.ofNat 32 (2^m)=BitVec.ofNat 32 p:=by
   apply BitVec.eq_of_getLsbD_eq;intro i v;rw[BitVec.getLsbD_and,BitVec.getLsbD_not,BitVec.getLsbD_ofNat,BitVec.getLsbD_ofNat,BitVec.getLsbD_ofNat,<-UW f,Nat.testBit_or,Nat.testBit_two_pow]
   have r:p.testBit m=false:=by
    rw[f,Nat.testBit_two_pow_mul];simp;intro h;omega
   by_cases e:m=i
   ·subst e;simp[r,hm]
   simp[e,v]
  rw[j,BitVec.toNat_ofNat];exact Nat.mod_eq_of_lt (Nat.lt_of_le_of_lt (Nat.le_add_right p (2^m)) B)
 have d:n=(((BitVec.ofInt 32 a &&& ~~~ BitVec.ofInt 32 b:BitVec 32).toNat:Nat):Int)%4294967296:=u;rw[g] at d;rw[d];exact Int.emod_eq_of_lt (by omega) (by omega)
theorem Ag.iff {b':Bool} {l':List UInt32} (h:Ag x b l) (h':Ag y b' l'):x=y↔b=b'/\l=l':=
 ⟨fun e=>h.uniq h' e,fun e=>by rw[h.ER,h'.ER,e.1,e.2]⟩
theorem YW {u:List UInt32} {c d b:Nat} (hcu:c<=u.length) (hdu:d<=u.length) (sl:u.length<=17592186044416) (ha:AB (u.take c)=a) (hb:AB (u.take d)=b) (hz:z=AR (a*b)):BW Tryz.prog 309 [.one (.AT .u32 0 0 0 c),.one (.AT .u32 0 0 0 d)] (.arr 0 .u32 u) (.one (.sl .u32 z)):=by
 obtain⟨l,hl⟩:=xU (u.take c);have hll:l.length=c:=by rw[hl,List.length_take];omega
 have hgx:∀i,i<c->l[i]? =u[i]? :=fun i h=>by rw[hl,List.getElem?_take,if_pos h]
 rw[<-hl] at ha;obtain⟨m,hm⟩:=xU (u.take d);have hmm:m.length=d:=by rw[hm,List.length_take];omega
 have hgy:∀i,i<d->m[i]? =u[i]? :=fun i h=>by rw[hm,List.getElem?_take,if_pos h]
 rw[<-hm] at hb;refine Gc Tryz.func309 (by kernel_rfl) rfl fun E hE=>?_
 conv=>cbv
 intro n10 h10;have e10:=h10.eq;conv=>cbv
 intro n12 h12;have e12:=h12.eq;conv=>cbv
 intro n13 h13;conv=>cbv
 refine g1 (by omega) ?_;refine⟨fun _=>⟨by omega,by omega,by show _*4<=140737488355328;omega⟩,?_⟩;intro k14 (l14:List UInt32) ql14;have hk14:=ql14.1;have hl14:l14=List.replicate k14 (0:el .u32):=ql14.2;have gl14:l14.length=k14:=by rw[hl14,List.length_replicate]
 conv=>cbv
 refine .inr ?_
 obtain⟨J0,hJ0⟩:∃J:List AV->List AM->Nat->Prop,J=fun vs bl k=>∃(o:List UInt32) (n i':Nat) (i:Int),vs=[.one (.AT .u32 0 0 0 c),.one (.AT .u32 0 0 0 d),.one (.AT .u32 14 0 0 n),.one (.int .i64 i)]/\
  bl=[.arr 0 .u32 u,.arr 0 .u32 o]/\(o.length=l.length+m.length/\n=o.length/\AS i i'/\i'<=l.length)/\
  AB (o.take (i'+m.length))=AB (l.take i')*AB m/\k=l.length-i':=⟨_,rfl⟩
 refine⟨[0,1,5,6],[0,14],J0,⟨l.length-0,by rw[hJ0];exact⟨l14,k14,0,0,rfl,rfl,⟨by rw[hl14,List.length_replicate];omega,by rw[hl14,List.length_replicate],BC 0,by omega⟩,by rw[hl14,List.take_replicate,Gh];simp[AB],rfl⟩⟩,?_⟩;intro vs bl kk0 hj;rw[hJ0] at hj;obtain⟨o,n,i',i,rfl,rfl,⟨ho,hn,hi,hiL⟩,hinv,hk0⟩:=hj;conv=>cbv
 have ei:=hi.eq;intro n17 h17;have e17:=h17.eq;conv=>cbv
 intro n18 h18;conv=>cbv
 cases n18 <;> conv=>cbv
 ·have k18:=Ad h18;have hnl66:n<=(o).length:=by omega
  obtain⟨m66,hm66⟩:=xN ((Bk ((o).take n)).length);obtain⟨hle66,htk66⟩:=Dl hnl66 hm66;refine .inr (.inr (.inl ⟨[],.one (.AT .u32 0 0 0 m66),.arr 0 .u32 o,fun _=>⟨by first | decide | simp[Bw,B4],trivial⟩,fun _=>⟨DS hE (FE hnl66 (by omega) hm66),rfl,rfl⟩,?_⟩));try conv=>cbv
  have hfin:AB (o.take n)=a*b:=by rw[show i'=l.length by omega,List.take_length,ha,hb,<-ho,List.take_length] at hinv;rw[hn,List.take_length,hinv]
  refine fun _=>⟨⟨⟨⟨rfl,.inl ⟨_,rfl,by omega,congrArg _ (by rw[List.drop_zero,htk66,hfin,hz])⟩,trivial⟩,trivial⟩,rfl,by simp⟩,rfl⟩
 have k18:=Ae h18;refine .inr ?_;refine .inr ?_
 obtain⟨J1,hJ1⟩:∃J:List AV->List AM->Nat->Prop,J=fun vs bl k=>∃(o1:List UInt32) (n1 c' k':Nat) (cc i1:Int),vs=[.one (.AT .u32 0 0 0 c),.one (.AT .u32 0 0 0 d),.one (.AT .u32 14 0 0 n1),.one (.int .i64 i),.one (.int .u64 cc),.one (.int .i64 i1)]/\
  bl=[.arr 0 .u32 u,.arr 0 .u32 o1]/\(o1.length=l.length+m.length/\n1=o1.length/\AS i1 k'/\k'<=m.length/\AS cc c'/\c'<4294967296)/\
  AB (o1.take (i'+m.length))+2^(32*(i'+k'))*c'=AB (l.take i')*AB m+(l.getD i' 0).toNat*2^(32*i')*AB (m.take k')/\k=m.length-k':=⟨_,rfl⟩
 refine⟨[0,1,5,6,7,8],[0,14],J1,⟨m.length-0,by rw[hJ1];exact⟨o,n,0,0,0,0,rfl,rfl,⟨ho,hn,BC 0,by omega,BC 0,by omega⟩,by rw[hinv];simp[AB],rfl⟩⟩,?_⟩;intro vs bl kk1 hj;rw[hJ1] at hj;obtain⟨o1,n1,c',k',cc,i1,rfl,rfl,⟨ho1,hn1,hi1,hiL1,hc,hc1⟩,hinv1,hk1⟩:=hj;conv=>cbv
 have ei1:=hi1.eq;have ec:=hc.eq;intro n23 h23;have e23:=h23.eq;conv=>cbv
 intro n24 h24;conv=>cbv
 cases n24 <;> conv=>cbv
 ·have k24:=Ad h24;intro n60 h60;have e60:=h60.eq;conv=>cbv
  intro n61 h61;conv=>cbv
  refine g1 (by omega) ?_;intro n63 h63;conv=>cbv
  have h63:=wrap_u32 h63;refine g2 (by omega) ?_;intro j64 hj64;conv=>cbv
  obtain⟨w64,hw64⟩:=Bm (n:=n63) (by omega);have ew64:=hw64.eq;have fw64:=hw64.lt;refine⟨w64,fun _=>⟨by show _<List.length (α:=UInt32) o1;(first | omega | (simp;omega)),Bl hw64⟩,?_⟩;intro (l64:List UInt32) (hl64:l64=List.set (α:=UInt32) o1 j64 w64);have gl64:l64.length=o1.length:=by rw[hl64,List.length_set]
  conv=>cbv
  intro n20 h20;conv=>cbv
  refine g1 (by omega) ?_;refine⟨l.length-(i'+1),?_,?_⟩
  ·omega
  rw[hJ0];refine⟨l64,n1,i'+1,n20,rfl,rfl,⟨by rw[hl64,List.length_set];exact ho1,by rw[hl64,List.length_set];exact hn1,⟨by omega⟩,by omega⟩,?_,rfl⟩;obtain⟨ai,hai⟩:=AG (l:=l) (i:=i') (by omega);have hk:k'=m.length:=by omega
  have hlen:i'+m.length<o1.length:=by omega
  rw[hl64,show i'+1+m.length=i'+m.length+1 by omega,show j64=i'+m.length by omega,D5 hlen,DX,List.length_take,Nat.min_eq_left (by omega),show w64.toNat=c' by omega];rw[hk,Iu hai] at hinv1;rw[hinv1,List.take_length,B6 hai]
  grind
 have k24:=Ae h24;refine .inr ?_;intro n31 h31;conv=>cbv
 refine g1 (by omega) ?_;refine g2 (by omega) ?_;intro j32 hj32;conv=>cbv
 obtain⟨x33,hx33⟩:=AG (l:=o1) (i:=j32) (by omega);refine⟨x33,fun _=>hx33,?_⟩;try conv=>cbv
 intro n33 h33;have e33:=h33.eq;have f33:=h33.lt;conv=>cbv
 intro n34 h34;conv=>cbv
 have h34:=wrap_u64 h34;intro n35 h35;conv=>cbv
 have h35:=wrap_u64 h35;refine g2 (by omega) ?_;intro j38 hj38;conv=>cbv
 obtain⟨x39,hx39⟩:=AG (l:=u) (i:=j38) (by omega);refine⟨x39,fun _=>hx39,?_⟩;try conv=>cbv
 intro n39 h39;have e39:=h39.eq;have f39:=h39.lt;conv=>cbv
 intro n40 h40;conv=>cbv
 have h40:=wrap_u64 h40;refine g2 (by omega) ?_;intro j43 hj43;conv=>cbv
 obtain⟨x44,hx44⟩:=AG (l:=u) (i:=j43) (by omega);refine⟨x44,fun _=>hx44,?_⟩;try conv=>cbv
 intro n44 h44;have e44:=h44.eq;have f44:=h44.lt;conv=>cbv
 intro n45 h45;conv=>cbv
 have h45:=wrap_u64 h45;have ep:n40*n45=((x39.toNat*x44.toNat:Nat):Int):=by rw[Int.natCast_mul];congr 1 <;> omega
 have bp:x39.toNat*x44.toNat<=4294967295*4294967295:=Nat.mul_le_mul (by omega) (by omega);intro n46 h46;conv=>cbv
 have h46:=wrap_u64 h46;intro n47 h47;conv=>cbv
 have h47:=wrap_u64 h47;refine g2 rfl ?_;intro C1 h51;conv=>cbv
 refine g1 (by omega) ?_;intro Cg h53;conv=>cbv
 have h53:=wrap_u32 h53;refine g2 (by omega) ?_;intro j54 hj54;conv=>cbv
 obtain⟨w54,hw54⟩:=Bm (n:=Cg) (by omega);have ew54:=hw54.eq;have fw54:=hw54.lt;refine⟨w54,fun _=>⟨by show _<List.length (α:=UInt32) o1;(first | omega | (simp;omega)),Bl hw54⟩,?_⟩;intro (l54:List UInt32) (hl54:l54=List.set (α:=UInt32) o1 j54 w54);have gl54:l54.length=o1.length:=by rw[hl54,List.length_set]
 conv=>cbv
 intro n56 h56;conv=>cbv
 refine g2 (by omega) ?_;have h56:=Da (p:=4294967296) h56 rfl;intro n26 h26;conv=>cbv
 refine g1 (by omega) ?_;refine⟨m.length-(k'+1),?_,?_⟩
 ·omega
 rw[hJ1];have hx38:l[i']? =some x39:=by rw[hgx _ (by omega),show i'=j38 by omega];exact hx39
 have hx43:m[k']? =some x44:=by rw[hgy _ (by omega),show k'=j43 by omega];exact hx44
 refine⟨l54,n1,n56.toNat,k'+1,n56,n26,rfl,rfl,⟨by rw[hl54,List.length_set];exact ho1,by rw[hl54,List.length_set];exact hn1,⟨by omega⟩,by omega,⟨by omega⟩,by omega⟩,?_,rfl⟩;have hj:j54=i'+k':=by omega
 have hj2:j32=i'+k':=by omega
 rw[hj2] at hx33;rw[Iu hx38] at hinv1;rw[hl54,hj,B6 hx43,show i'+(k'+1)=i'+k'+1 by omega,Iu hx38];refine Pw (q:=x33) (xi:=x39.toNat) (yk:=x44.toNat) (old:=x33.toNat) (c:=c') rfl (by omega) hx33 rfl hinv1 ?_ rfl;rw[ep] at h46;omega
theorem ZU (h:BT ((R*R:Nat):Int) a<=0):R*R<=a:=by
 unfold BT at h
 split at h
 ·omega
 split at h
 ·omega
 omega
theorem ZT (h:BT ((R*R:Nat):Int) a>0):a<R*R:=by
 unfold BT at h
 split at h
 ·omega
 split at h
 ·omega
 omega
theorem eX {α:Type} {l:List α} {x:α} (h:l[i]? =some x):l.set i x=l:=by
 apply List.ext_getElem?;intro k
 by_cases e:i=k
 ·subst e;rw[h,List.getElem?_set_self];apply Classical.byContradiction;intro d;rw[List.getElem?_eq_none (by omega)] at h;exact absurd h (by simp)
 rw[List.getElem?_set_ne e]
theorem K6 (hx:Ag x b l) (h0:0<=x) (hz:Ag ((BN x.toNat:Nat):Int) c z) (sl:l.length<=17592186043000):CF 346 [.agg [.bool b,.sl .u32 l]] (.AE [(true,[.bool c,.sl .u32 z]),(false,[.int .i64 0])]):=by
 obtain⟨a,ha⟩:=xN x.toNat;obtain⟨N,hN⟩:=xN ((CW a+1)/2);have aa:x.natAbs=a:=by omega
 have aK:l=AR a:=by rw[<-aa];exact hx.BI
 rw[<-ha] at hz
 have aG:a<2^N*2^N:=by
  rw[<-Nat.pow_add]
  by_cases h:a=0
  ·rw[h];exact Nat.two_pow_pos _
  exact Nat.lt_of_lt_of_le (MM (by omega:0<a)).2.1 (Nat.pow_le_pow_right (by decide) (by omega))
 have bA:N<=300000000000000:=by
  have h1:CW a<=32*l.length:=by
   by_cases h:a=0
   ·rw[h];exact Nat.zero_le _
   have h2:=(MM (by omega:0<a)).1;have h3:a<2^(32*l.length):=by have:=CL l;rw[hx.nat,aa] at this;exact this
   have h4:=(Nat.pow_lt_pow_iff_right (a:=2) (by decide)).1 (Nat.lt_of_le_of_lt h2 h3);omega
  omega
 refine AH Tryz.func346 (by kernel_rfl) rfl fun E hE=>?_
 conv=>cbv
 refine cL hE (Gz hx) ⟨t2,trivial⟩ ?_;try conv=>cbv
 cases b <;> conv=>cbv
 ·obtain⟨aW,X⟩:∃n:Int,AS n (CW a):=⟨_,⟨rfl⟩⟩
  have aY:=X.eq;refine cL (r:= .one (.int .i64 aW)) hE (XT hx (by rw[aa];exact X) sl) ⟨t2,trivial⟩ ?_;try conv=>cbv
  intro bE bn;conv=>cbv
  refine g1 (by omega) ?_;intro bF bo;conv=>cbv
  refine g2 ⟨by omega,by omega,i64 (by omega)⟩ ?_;intro bG bp;conv=>cbv
  refine g2 ⟨by omega,by omega,i64 (by omega)⟩ ?_;intro bH bq;conv=>cbv
  refine g1 (by omega) ?_;refine⟨fun _=>⟨by omega,by omega,by show _*4<=140737488355328;omega⟩,?_⟩;intro ab (ad:List UInt32) a1;have bg:=a1.1;have f:ad=List.replicate ab (0:el .u32):=a1.2;have b5:ad.length=ab:=by rw[f,List.length_replicate]
  conv=>cbv
  intro aP br;conv=>cbv
  refine g1 (by omega) ?_;refine .inr ?_
  obtain⟨J0,O⟩:∃J:List AV->List AM->Nat->Prop,J=fun vs bl k=>∃(o:List UInt32) (m j:Nat) (i:Int),vs=[.one (.AD 1 0 0),.one (.AD 2 0 0),.one (.int .i64 0),.one (.AT .u32 19 0 0 m),.one (.int .i64 i)]/\
   bl=[.var 0 [.bool false,.sl .u32 l],.var 0 [.bool false,.nil],.arr 0 .u32 o]/\(o.length=N/32+1/\m=o.length/\AS (i+1) j/\j<=N)/\
   (2^j∣AB o/\AB o*AB o<=a/\a<(AB o+2^j)*(AB o+2^j))/\k=j:=⟨_,rfl⟩
  refine⟨[1,2,3,5,6],[1,2,19],J0,⟨N,by rw[O];exact⟨ad,ab,N,aP,rfl,rfl,⟨by rw[f,List.length_replicate];omega,by rw[f,List.length_replicate],⟨by omega⟩,Nat.le_refl _⟩,⟨by rw[f,Gh];exact Nat.dvd_zero _,by rw[f,Gh];omega,by rw[f,Gh,Nat.zero_add];exact aG⟩,rfl⟩⟩,?_⟩;intro vs bl bD hj;rw[O] at hj;obtain⟨o,m,j,i,rfl,rfl,⟨ho,hm,hi,bB⟩,⟨hd,aq,a2⟩,bC⟩:=hj;conv=>cbv
  have ei:=hi.eq;intro aQ aj;conv=>cbv
  cases aQ <;> conv=>cbv
  ·have aO:=EC aj;have aI:j=0:=by omega
   rw[aI] at a2;have aN:=TL aq a2
   have ar:((BN a:Nat):Int)=if false=true then -(AB (o.take m):Int) else AB (o.take m):=by
    rw[if_neg (by decide),hm,List.take_length,aN]
   obtain⟨az,aA,I⟩:=Ac (((BN a:Nat):Int));refine .inr (.inr (.inr ⟨19,.arr 0 .u32 o,[.one (.bool false),.one (.sl .u32 ((o).take m))],.agg [.bool az,.sl .u32 aA],fun _=>⟨⟨by decide,rfl,by first | rfl | decide | simp[Bw,B4]⟩,⟨rfl,⟨_,rfl,by simp <;> omega,by simp⟩,trivial⟩⟩,fun _=>⟨Fu hE (FR (n:=false) ar I),rfl⟩,?_⟩));try conv=>cbv
   exact fA ⟨⟨rfl,congrArg _ ((I.uniq hz rfl).1.symm),congrArg _ ((I.uniq hz rfl).2.symm),trivial⟩,t2,trivial⟩ rfl (by simp)
  have aO:=ED aj;refine .inr ?_;intro bI bs;conv=>cbv
  refine g2 ⟨by omega,by omega,i64 (by omega)⟩ ?_;intro bJ bt;conv=>cbv
  refine g2 ⟨by omega,by omega,i64 (by omega)⟩ ?_;obtain⟨i',aH⟩:∃i',j=i'+1:=⟨j-1,by omega⟩
  subst aH;refine g2 (by omega) ?_;intro P bb;conv=>cbv
  obtain⟨s,B⟩:=AG (l:=o) (i:=P) (by omega);refine⟨s,fun _=>B,?_⟩;try conv=>cbv
  intro bK ak;have bm:=ak.eq;have f33:=ak.lt;conv=>cbv
  intro bL bu;conv=>cbv
  refine g2 (by omega) ?_;intro aR aC;conv=>cbv
  refine g2 (by omega) ?_
  obtain⟨b8,W⟩:aR=((2^(i'%32):Nat):Int)/\2^(i'%32)<4294967296:=by
   have hb:2^(i'%32)<4294967296:=Nat.lt_of_le_of_lt (Nat.pow_le_pow_right (by decide) (by omega:i'%32<=31)) (by decide);have:=Pj (p:=1) (e:=i'%32) aC rfl (by omega) (by omega);rw[this,Nat.one_mul];exact⟨congrArg _ (Nat.mod_eq_of_lt hb),hb⟩
  intro aS aD;conv=>cbv
  have b9:=MQ (p:=s.toNat) (q:=2^(i'%32)) aD (by omega) (by omega) (by omega) W;have bj:s.toNat ||| 2^(i'%32)<4294967296:=Nat.or_lt_two_pow (n:=32) s.toNat_lt W
  refine g2 (by omega) ?_;intro K bc;conv=>cbv
  obtain⟨M,G⟩:=Bm (n:=aS) (by omega);have aZ:=G.eq;have b3:=G.lt;refine⟨M,fun _=>⟨by show _<List.length (α:=UInt32) o;(first | omega | (simp;omega)),Bl G⟩,?_⟩;intro (d:List UInt32) (v:d=List.set (α:=UInt32) o K M);have b6:d.length=o.length:=by rw[v,List.length_set]
  conv=>cbv
  refine g2 rfl ?_;have a8:M.toNat=s.toNat ||| 2^(i'%32):=by omega
  have a5:2^(32*(i'/32)+i'%32)=2^i':=by congr 1;omega
  have g:=ZD (o:=o) (q:=i'/32) (m:=i'%32) (x:=s) (w:=M) (by rw[show i'/32=P by omega];exact B) (by omega) (by rw[show 32*(i'/32)+i'%32+1=i'+1 by omega];exact hd) a8;rw[show i'/32=K by omega,<-v,show K=i'/32 by omega] at g;have C:m<=(d).length:=by omega
  obtain⟨ae,U⟩:=xN ((Bk ((d).take m)).length);obtain⟨aL,a6⟩:=Dl C U;refine .inr (.inr (.inl ⟨[],.one (.AT .u32 0 0 0 ae),.arr 0 .u32 d,fun _=>⟨by first | decide | simp[Bw,B4],trivial⟩,fun _=>⟨DS hE (FE C (by omega) U),rfl,rfl⟩,?_⟩));try conv=>cbv
  have D:m<=(d).length:=by omega
  obtain⟨af,V⟩:=xN ((Bk ((d).take m)).length);obtain⟨aM,a7⟩:=Dl D V;refine .inr (.inr (.inl ⟨[],.one (.AT .u32 0 0 0 af),.arr 0 .u32 d,fun _=>⟨by first | decide | simp[Bw,B4],trivial⟩,fun _=>⟨DS hE (FE D (by omega) V),rfl,rfl⟩,?_⟩));try conv=>cbv
  obtain⟨R,hR⟩:=xN (AB d);obtain⟨aX,Y⟩:=xU (AR (R*R));have ao:AB d*AB d=R*R:=by rw[hR]
  have au:AB (d.take ae)=R:=by rw[a6,BB,hR];congr 1;exact List.take_of_length_le (by omega)
  have av:AB (d.take af)=R:=by rw[a7,BB,hR];congr 1;exact List.take_of_length_le (by omega)
  refine .inr (.inr (.inr (.inl ⟨19,.arr 0 .u32 d,[.one (.AT .u32 0 0 0 ae),.one (.AT .u32 0 0 0 af)],.one (.sl .u32 aX),fun _=>⟨rfl,⟨⟨⟨rfl,rfl⟩,rfl⟩,⟨⟨rfl,rfl⟩,rfl⟩,trivial⟩⟩,fun _=>AP hE (YW (by omega) (by omega) (by omega) au av Y),?_⟩)));try conv=>cbv
  obtain⟨bP,F⟩:=xI (BT ((R*R:Nat):Int) a);refine cL hE (LA Y aK F) t2 ?_;try conv=>cbv
  intro aT al;conv=>cbv
  refine g2 rfl ?_;refine .inr ?_;cases aT <;> conv=>cbv
  ·have L:=CA al;intro ag aB;conv=>cbv
   refine g1 (by omega) ?_;refine⟨i',?_,?_⟩
   ·omega
   rw[O];have t:2^i'∣AB o:=Nat.dvd_trans ⟨2,by rw[Nat.pow_succ]⟩ hd;refine⟨d,m,i',ag,rfl,rfl,⟨by omega,by omega,⟨by omega⟩,by omega⟩,⟨?_,?_,?_⟩,rfl⟩
   ·rw[g.1];exact Nat.dvd_add t (by rw[a5];exact Nat.dvd_refl _)
   ·rw[ao];rw[F] at L;have:=ZU L;exact this
   rw[g.1,a5];rw[Nat.pow_succ] at a2;rwa [show AB o+2^i'+2^i'=AB o+2^i'*2 by omega]
  have L:=CB al;intro bM bw;conv=>cbv
  refine g2 ⟨by omega,by omega,i64 (by omega)⟩ ?_;intro Cg bx;conv=>cbv
  refine g2 ⟨by omega,by omega,i64 (by omega)⟩ ?_;refine g2 (by omega) ?_;intro aw bd;conv=>cbv
  obtain⟨ay,Z⟩:=AG (l:=d) (i:=aw) (by omega);refine⟨ay,fun _=>Z,?_⟩;try conv=>cbv
  intro bN an;have ai:=an.eq;have f55:=an.lt;conv=>cbv
  intro bO bz;conv=>cbv
  refine g2 (by omega) ?_;intro aU aE;conv=>cbv
  refine g2 (by omega) ?_
  obtain⟨ba,bk⟩:aU=((2^(i'%32):Nat):Int)/\2^(i'%32)<4294967296:=by
   have hb:2^(i'%32)<4294967296:=Nat.lt_of_le_of_lt (Nat.pow_le_pow_right (by decide) (by omega:i'%32<=31)) (by decide);have:=Pj (p:=1) (e:=i'%32) aE rfl (by omega) (by omega);rw[this,Nat.one_mul];exact⟨congrArg _ (Nat.mod_eq_of_lt hb),hb⟩
  intro aV aF;conv=>cbv
  obtain⟨kk,aJ⟩:=Wc (o:=o) (q:=i'/32) (m:=i'%32) (x:=s) (by rw[show i'/32=P by omega];exact B) (by omega) (by rw[show 32*(i'/32)+i'%32+1=i'+1 by omega];exact hd)
  have ai:ay=M:=by
   have:=Z;rw[v,show aw=i'/32 by omega,show K=i'/32 by omega,List.getElem?_set_self (by omega)] at this;exact (Option.some.inj this).symm
  have bh:=Yj (p:=s.toNat) (m:=i'%32) aF (by rw[<-g.2,<-ai];omega) (by omega) aJ (by omega) (by rw[<-g.2];omega);refine g2 (by omega) ?_;intro ax bf;conv=>cbv
  obtain⟨ah,H⟩:=Bm (n:=aV) (by omega);have b0:=H.eq;have b4:=H.lt;refine⟨ah,fun _=>⟨by show _<List.length (α:=UInt32) d;(first | omega | (simp;omega)),Bl H⟩,?_⟩;intro (Q:List UInt32) (S:Q=List.set (α:=UInt32) d ax ah);have b7:Q.length=d.length:=by rw[S,List.length_set]
  conv=>cbv
  refine g2 rfl ?_;intro ag aB;conv=>cbv
  refine g1 (by omega) ?_;refine⟨i',?_,?_⟩
  ·omega
  rw[O];have t:2^i'∣AB o:=Nat.dvd_trans ⟨2,by rw[Nat.pow_succ]⟩ hd
  have u:Q=o:=by
   have e1:ah=s:=UInt32.toNat_inj.1 (by omega);rw[S,v,show ax=i'/32 by omega,show K=i'/32 by omega,List.set_set,e1];exact eX (by rw[show i'/32=P by omega];exact B)
  refine⟨Q,m,i',ag,rfl,rfl,⟨by rw[u];exact ho,by rw[u];exact hm,⟨by omega⟩,by omega⟩,?_,rfl⟩;rw[u];refine⟨t,aq,?_⟩;rw[F] at L;have:=ZT L;rw[<-ao,g.1,a5] at this;exact this
 exact absurd hx.neg (by simp;omega)
theorem gF {α:Type} {X Y:List α} {x y:α} (d:X[i]? =some x) (f:Y[i]? =some y) (h:X.take i=Y.take i) (e:x=y):X.take (i+1)=Y.take (i+1):=by
 rw[List.take_add_one,List.take_add_one,d,f,h,e]
theorem K9 (F:Ag x b1 l1) (G:Ag y b2 l2) (C:c=decide (x=y)):CF 347 [.agg [.bool b1,.sl .u32 l1],.agg [.bool b2,.sl .u32 l2]] (.one (.bool c)):=by
 refine AH Tryz.func347 (by kernel_rfl) rfl fun E hE=>?_
 conv=>cbv
 intro M p;conv=>cbv
 cases M <;> conv=>cbv
 ·have h:=LO p;rintro a8 ⟨H,f14⟩;conv=>cbv
  rintro aa ⟨Y,f17⟩;conv=>cbv
  intro N r;conv=>cbv
  cases N <;> conv=>cbv
  ·have J:=Dg r;refine .inr ?_;obtain⟨X,g⟩:=xJ fun vs V k=>∃(k':Nat) (j:Int),vs=[.one (.AD 2 0 0),.one (.AD 3 0 0),.one (.bool false),.one (.int .i64 j)]/\V=[.var 0 [.bool b1,.sl .u32 l1],.var 0 [.bool b2,.sl .u32 l2]]/\(AS j k'/\k'<=l1.length/\l1.length=l2.length/\b1=b2)/\l1.take k'=l2.take k'/\k=l1.length-k'
   refine⟨[2,3,4,5],[2,3],X,⟨l1.length-0,by rw[g];exact⟨0,0,rfl,rfl,⟨BC 0,by omega,by omega,h⟩,rfl,rfl⟩⟩,?_⟩;intro vs V a7 D;rw[g] at D;obtain⟨k',j,rfl,rfl,⟨D,a5,B,w⟩,hinv,a6⟩:=D;conv=>cbv
   have ej:=D.eq;rintro ab ⟨Z,f23⟩;conv=>cbv
   intro O s;conv=>cbv
   cases O <;> conv=>cbv
   ·have K:=Ad s;exact fA ⟨⟨rfl,congrArg _ (by rw[C];exact (decide_eq_true ((F.iff G).2 ⟨w,by have n:=hinv;rw[show k'=l1.length by omega,List.take_length,B,List.take_length] at n;exact n⟩))),trivial⟩,trivial⟩ rfl (by simp)
   have K:=Ae s;refine .inr ?_;obtain⟨S,d⟩:=AG (l:=l1) (i:=k') (by omega);refine⟨S,fun _=>⟨by omega,by rw[show (j).toNat=k' by omega];exact d⟩,?_⟩;try conv=>cbv
   intro ad t;have a1:=t.eq;have f31:=t.lt;conv=>cbv
   obtain⟨U,f⟩:=AG (l:=l2) (i:=k') (by omega);refine⟨U,fun _=>⟨by omega,by rw[show (j).toNat=k' by omega];exact f⟩,?_⟩;try conv=>cbv
   intro ae u;have I:=u.eq;have f36:=u.lt;conv=>cbv
   intro Q v;conv=>cbv
   refine g2 rfl ?_;cases Q <;> conv=>cbv
   ·have L:=Dg v;intro P a2;conv=>cbv
    refine g1 (by omega) ?_;refine⟨l1.length-(k'+1),?_,?_⟩
    ·omega
    rw[g];exact⟨k'+1,P,rfl,rfl,⟨⟨by omega⟩,by omega,B,w⟩,gF d f hinv (UInt32.toNat_inj.1 (by omega)),rfl⟩
   have L:=Dh v;exact fA ⟨⟨rfl,congrArg _ (by rw[C];exact (decide_eq_false (fun e=>by have n:=((F.iff G).1 e).2;have W:=d;rw[n,f] at W;have h3:=Option.some.inj W;rw[h3] at I;omega))),trivial⟩,trivial⟩ rfl (by simp)
  have J:=Dh r;exact fA ⟨⟨rfl,congrArg _ (by rw[C];exact (decide_eq_false (fun e=>by have n:=((F.iff G).1 e).2;rw[n] at H;omega))),trivial⟩,trivial⟩ rfl (by simp)
 have h:=LP p;exact fA ⟨⟨rfl,congrArg _ (by rw[C];exact (decide_eq_false (fun e=>h ((F.iff G).1 e).1))),trivial⟩,trivial⟩ rfl (by simp)
theorem Xl {q r:Rat} {c1 c2:Bool} {m1 m2:List UInt32} (g:BM q b1 l1 b2 l2) (P:Bj q) (C:0<=r) (G:r*r=q) (t:BM r c1 m1 c2 m2):CF 314 [.agg [.bool b1,.sl .u32 l1,.bool b2,.sl .u32 l2]] (.AE [(true,[.bool c1,.sl .u32 m1,.bool c2,.sl .u32 m2]),(false,[.bool true])]):=by
 have p:=WA C G;have s:=V9 C G;have B:0<=q.num:=by rw[<-p.2,<-p.1];exact Int.mul_nonneg (by omega) (by omega)
 have w:(0:Int)<=(q.den:Int):=by omega
 have Q:=g.small P;obtain⟨H,L,d⟩:=Ac (((BN q.num.toNat:Nat):Int));obtain⟨I,M,f⟩:=Ac (((BN (q.den:Int).toNat:Nat):Int));have D:=Ix g.num d;have F:=Ix g.den f;refine AH Tryz.func314 (by kernel_rfl) rfl fun E n=>?_
 conv=>cbv
 cases b1 <;> conv=>cbv
 ·refine cL n (K6 g.num B d (by omega)) ⟨t2,trivial⟩ ?_;try conv=>cbv
  refine cL n (K6 g.den w f (by omega)) ⟨t2,trivial⟩ ?_;try conv=>cbv
  obtain⟨J,N,h⟩:=Ac (((BN q.num.toNat:Nat):Int)*((BN q.num.toNat:Nat):Int));refine cL n (DC d d h (by omega) (by omega)) ⟨t2,t2,trivial⟩ ?_;try conv=>cbv
  refine cL (r:= .one (.bool true)) n (K9 h g.num (by rw[p.1];exact (decide_eq_true p.2).symm)) ⟨t2,t2,trivial⟩ ?_;try conv=>cbv
  intro S u;cases u.trans (rfl:_=false);conv=>cbv
  obtain⟨K,O,j⟩:=Ac (((BN (q.den:Int).toNat:Nat):Int)*((BN (q.den:Int).toNat:Nat):Int));refine cL n (DC f f j (by omega) (by omega)) ⟨t2,t2,trivial⟩ ?_;try conv=>cbv
  refine cL (r:= .one (.bool true)) n (K9 j g.den (by rw[s.1];exact (decide_eq_true s.2).symm)) ⟨t2,t2,trivial⟩ ?_;try conv=>cbv
  intro U v;cases v.trans (rfl:_=false);conv=>cbv
  refine g2 rfl ?_;exact fA ⟨⟨rfl,congrArg _ ((d.uniq t.num p.1).1.symm),congrArg _ ((d.uniq t.num p.1).2.symm),congrArg _ ((f.uniq t.den s.1).1.symm),congrArg _ ((f.uniq t.den s.1).2.symm),trivial⟩,t2,trivial⟩ rfl (by simp)
 exact absurd (of_decide_eq_true g.num.neg.symm) (by omega)
theorem Xk {q:Rat} (j:BM q b1 l1 b2 l2) (V:Bj q) (U:¬∃r:Rat,0<=r/\r*r=q):CF 314 [.agg [.bool b1,.sl .u32 l1,.bool b2,.sl .u32 l2]] (.AE [(true,[.bool false,.sl .u32 [],.bool false,.sl .u32 []]),(false,[.bool false])]):=by
 have B:(0:Int)<=(q.den:Int):=by omega
 have W:=j.small V;obtain⟨I,M,d⟩:=Ac (((BN q.num.toNat:Nat):Int));obtain⟨J,N,f⟩:=Ac (((BN (q.den:Int).toNat:Nat):Int));have G:=Ix j.num d;have H:=Ix j.den f;refine AH Tryz.func314 (by kernel_rfl) rfl fun E s=>?_
 conv=>cbv
 cases b1 <;> conv=>cbv
 ·have C:0<=q.num:=by have:=of_decide_eq_false j.num.neg.symm;omega
  refine cL s (K6 j.num C d (by omega)) ⟨t2,trivial⟩ ?_;try conv=>cbv
  refine cL s (K6 j.den B f (by omega)) ⟨t2,trivial⟩ ?_;try conv=>cbv
  obtain⟨K,O,n⟩:=Ac (((BN q.num.toNat:Nat):Int)*((BN q.num.toNat:Nat):Int));refine cL s (DC d d n (by omega) (by omega)) ⟨t2,t2,trivial⟩ ?_;try conv=>cbv
  obtain⟨Q,g⟩:=xB (decide (((BN q.num.toNat:Nat):Int)*((BN q.num.toNat:Nat):Int)=q.num));refine cL s (K9 n j.num g) ⟨t2,t2,trivial⟩ ?_;try conv=>cbv
  intro D t;conv=>cbv
  cases D <;> conv=>cbv
  ·have v:=CJ t;obtain⟨L,P,p⟩:=Ac (((BN (q.den:Int).toNat:Nat):Int)*((BN (q.den:Int).toNat:Nat):Int));refine cL s (DC f f p (by omega) (by omega)) ⟨t2,t2,trivial⟩ ?_;try conv=>cbv
   obtain⟨S,h⟩:=xB (decide (((BN (q.den:Int).toNat:Nat):Int)*((BN (q.den:Int).toNat:Nat):Int)=(q.den:Int)));refine cL s (K9 p j.den h) ⟨t2,t2,trivial⟩ ?_;try conv=>cbv
   intro F u;conv=>cbv
   refine g2 rfl ?_;cases F <;> conv=>cbv
   ·have w:=CJ u;exact absurd (V8 (of_decide_eq_true (g.symm.trans (by simpa using v))) (of_decide_eq_true (h.symm.trans (by simpa using w)))) U
   have w:=CK u;exact fA ⟨⟨rfl,rfl,.inr (.inl ⟨_,rfl⟩),rfl,.inr (.inl ⟨_,rfl⟩),trivial⟩,t2,trivial⟩ rfl (by simp)
  have v:=CK t;refine g2 rfl ?_;exact fA ⟨⟨rfl,rfl,.inr (.inl ⟨_,rfl⟩),rfl,.inr (.inl ⟨_,rfl⟩),trivial⟩,t2,trivial⟩ rfl (by simp)
 exact fA ⟨⟨rfl,rfl,.inr (.inl ⟨_,rfl⟩),rfl,.inr (.inl ⟨_,rfl⟩),trivial⟩,t2,trivial⟩ rfl (by simp)
end Go.Abs
namespace Go.Abs
open Go.RowKit
variable {A:LR} {T:List LR} {q:Rat}
theorem YO {B:LR} {r:Rat} (H:T=[]) (w:A=[rp q]) (F:B=[rp r]) (J:Bj q) (C:0<=r) (I:r*r=q):CF 275 [.one (.sl (.sl AA) T),.one (.sl AA A)] (.AE [(false,[.sl AA B]),(false,[.bool true])]):=by
 refine AH Tryz.func275 (by kernel_rfl) rfl fun E G=>?_
 conv=>cbv
 rintro K ⟨t,f31⟩;conv=>cbv
 intro u g;conv=>cbv
 cases u <;> conv=>cbv
 ·have h:=Au g;exact absurd (by rw[t,H];rfl) h
 have h:=Av g;have D:A.length=1:=by rw[w];rfl
 obtain⟨v,d⟩:=AG (l:=A) (i:=0) (by omega);refine⟨v,fun _=>⟨by omega,d⟩,?_⟩;try conv=>cbv
 obtain⟨p,s,j,n,f⟩:=Bb r;refine cL G (Xl (D2 w d) J C I f) ⟨t4,trivial⟩ ?_;try conv=>cbv
 refine⟨[((p,s),(j,n))],fun _=>⟨rfl,by decide,rfl,⟨rfl,by first | exact t1 | exact t2 | exact t4 | simp[Aw,BF,cells],trivial⟩⟩,.inl ?_⟩;try conv=>cbv
 exact fA ⟨⟨rfl,.inl ⟨_,rfl,by simp,congrArg _ (by rw[F,f.rp];rfl)⟩,trivial⟩,t2,trivial⟩ rfl (by simp)
theorem YN {l:LR} (u:T=[]) (p:A=[rp q]) (v:l=[(((false,[]),(false,[])):el AA)]) (B:Bj q) (w:¬∃r:Rat,0<=r/\r*r=q):CF 275 [.one (.sl (.sl AA) T),.one (.sl AA A)] (.AE [(false,[.sl AA l]),(false,[.bool false])]):=by
 refine AH Tryz.func275 (by kernel_rfl) rfl fun E t=>?_
 conv=>cbv
 rintro C ⟨h,f31⟩;conv=>cbv
 intro j f;conv=>cbv
 cases j <;> conv=>cbv
 ·have g:=Au f;exact absurd (by rw[h,u];rfl) g
 have g:=Av f;have s:A.length=1:=by rw[p];rfl
 obtain⟨n,d⟩:=AG (l:=A) (i:=0) (by omega);refine⟨n,fun _=>⟨by omega,d⟩,?_⟩;try conv=>cbv
 refine cL t (Xk (D2 p d) B w) ⟨t4,trivial⟩ ?_;try conv=>cbv
 refine⟨[((false,[]),(false,[]))],fun _=>⟨rfl,by decide,rfl,⟨rfl,by first | exact t1 | exact t2 | exact t4 | simp[Aw,BF,cells],trivial⟩⟩,.inl ?_⟩;try conv=>cbv
 exact fA ⟨⟨rfl,.inl ⟨_,rfl,by simp,congrArg _ (by rw[v];rfl)⟩,trivial⟩,t2,trivial⟩ rfl (by simp)
def Qr (R:Nat) (u:List (List Rat)):Prop:=∀{s:Nat} {x:Re},El u s x->SS u.length R s<=60000000000000->VV u.length R R<=60000000000000->(∃w,In u w/\w*w=x/\GX u x w)\/(¬Sq u x/\∃l,GW u x l)
theorem QA {u:List (List Rat)} {R:Nat} (h:Al R u):Qr R u:=by
 induction u with
 | nil=>
  intro s x J Q v;obtain⟨q,rfl⟩:=CI.1 J.mem
  have af:Bj q:=by
   have:=J.Bh (by have:=Qa ([]:List (List Rat)).length R s;omega);rw[Co] at this;exact this q List.mem_cons_self
  by_cases hr:∃r:Rat,0<=r/\r*r=q
  ·obtain⟨r,P,hr⟩:=hr;refine .inl ⟨Re.ofRat r,Ds r _,by rw[<-Re.ofRat_mul,hr],?_⟩;intro T A B D C Z;exact YO D (C.trans (DT q)) (Z.trans (DT r)) af P hr
  exact .inr ⟨fun Q=>hr (Ps.1 Q),_,fun D C=>YN D (C.trans (DT q)) rfl af hr⟩
 | cons r u g=>
  have g:Qr R u:=g h.tail;intro s x J Q v;obtain⟨p,q,d,G,M⟩:=El.parts h.red J
  by_cases a8:x<0
  ·refine .inr ⟨?_,[],fun D C=>YS h D C J d G M Q v a8⟩
   rintro⟨w,_,hw⟩
   have:=Re.IE w
   clear g;grind
  have H:0<=x:=by clear g;grind
  have av:TQ u.length R s=3*s+4*EE u.length R+R+GG u.length R+3+II u.length R R:=rfl;have ax:SS u.length R (TQ u.length R s)<=SS (r::u).length R s:=QZ u.length R s;have hQ:∀s',s'<=TQ u.length R s->SS u.length R s'<=60000000000000:=fun s' h'=>Nat.le_trans (Kx u.length R h') (by omega)
  have F:VV u.length R R<=60000000000000:=Nat.le_trans (Qe u.length R R) v;have ao:=El.Ca h;have aq:=CO h.red
  by_cases P:q=0
  ·have a2:x=p:=by rw[d,P];clear g;grind
   rcases g G (hQ _ (by omega)) F with⟨w,hw,f,hy⟩ |⟨K,l,hn⟩
   ·refine .inl ⟨w,Ge hw,by rw[a2];exact f,?_⟩;intro T A B D C Z;exact YT h D C J d G M Q v H P hw hy Z
   obtain⟨i,S,N⟩:=EF h.red.1 (CG h.red) (by have:=h.red.2.2.1;grind);have aj:=ao.inv h.tail S N;rcases g (G.mul h.tail aj) (hQ _ (by omega)) F with⟨w,hw,f,hy⟩ |⟨ad,l2,al⟩
   ·refine .inl ⟨w*rt u r,CM.2 ⟨0,w,Bp u,hw,by clear g;grind⟩,?_,?_⟩
    ·have:p=p*(AN u r*i):=by rw[N];clear g;grind
     rw[a2];clear g;grind
    intro T A B D C Z;exact YU h D C J d G M Q v H P S N hn hw hy Z
   refine .inr ⟨?_,[],?_⟩
   ·rw[a2,Vy h.red G.mem];rintro (h1 |⟨i',aw,ae,h1⟩)
    ·exact K h1
    have:i'=i:=by
     have:i'=i'*(AN u r*i):=by rw[N];clear g;grind
     have h2:i=i*(AN u r*i'):=by rw[ae];clear g;grind
     clear g;grind
    rw[this] at h1;exact ad h1
   intro T A D C;exact YV h D C J d G M Q v H P S N hn al
  have hN:=El.norm h G.mem M.mem (d ▸ J);rcases g hN (hQ _ (by omega)) F with⟨n,hn,I,ai⟩ |⟨K,l,an⟩
  rotate_left
  ·exact .inr ⟨fun hS=>K (V4 h.red G.mem M.mem (d ▸ hS)),[],fun D C=>YP h D C J d G M Q v H P an⟩
  have a7:=hN.sqrt h.tail hn I;obtain⟨t,ht⟩:∃t:Re,t=Re.ofRat (1/2):=⟨_,rfl⟩
  have U:=S7 ht;have a1:El u 1 t:=by rw[ht];exact El.rat h.red.1 Jl
  obtain⟨y,hy⟩:∃y:Nat->Re,y=fun i=>if i=0 then p+n else p-n:=⟨_,rfl⟩
  have V:y 0=p+n:=by rw[hy];rfl
  have W:y 1=p-n:=by rw[hy];rfl
  have X:∀i,El u (s+(2*s+2*EE u.length R+R+1+GG u.length R)+1) (y i):=fun i=>by
   rw[hy]
   show El u _ (if i=0 then p+n else p-n)
   by_cases S:i=0
   ·rw[if_pos S];exact G.add h.red.1 a7
   rw[if_neg S];exact G.sub h.red.1 a7
  have Y:∀(k0:Nat) (L:Nat->LR) (w:Re),k0<2->(∀i,i<k0->GW u (t*y i) (L i))->In u w->w*w=t*y k0->GX u (t*y k0) w->
    ∃w,In (r::u) w/\w*w=x/\GX (r::u) x w:=by
   intro k0 L w hk K hw f O
   have key:∃m,m*m=p*p-q*q*AN u r/\y k0=p+m:=by
    rcases (show k0=0\/k0=1 by omega) with rfl | rfl
    ·exact⟨n,I,V⟩
    exact⟨-n,by rw[<-I];clear g;grind,by rw[W];clear g;grind⟩
   obtain⟨m,a5,ah⟩:=key;have au:w≠0:=Vx h.red P a5 U (by rw[f,ah]);obtain⟨j,hj,ag⟩:=EF h.red.1 hw au;have ar:In u (t*(q*j)):=Ar h.red.1 a1.mem (Ar h.red.1 M.mem hj);refine⟨w+t*(q*j)*rt u r,CM.2 ⟨_,_,hw,ar,rfl⟩,?_,?_⟩
   ·rw[d]
    exact Vw a5 U aq (by rw[f,ah]) (i:=t*j) (by have:(w+w)*(t*j)=2*t*(w*j):=by clear g;grind
                                                rw[this,U,ag];clear g;grind) (by clear g;grind)
   intro T A B D C Z;exact YQ h D C J d G M Q v H P hn I ht ai V W X (by omega) K hk hw f O hj ag Z
  rcases g (a1.mul h.tail (X 0)) (hQ _ (by omega)) F with⟨w,hw,f,O⟩ |⟨aa,l0,a6⟩
  ·exact .inl (Y 0 (fun _=>[]) w (by omega) (fun i S=>by omega) hw f O)
  rcases g (a1.mul h.tail (X 1)) (hQ _ (by omega)) F with⟨w,hw,f,O⟩ |⟨ab,l1,ak⟩
  ·exact .inl (Y 1 (fun _=>l0) w (by omega) (fun i S=>by rw[show i=0 by omega];exact a6) hw f O)
  refine .inr ⟨fun hS=>?_,[],?_⟩
  ·rcases V5 h.red G.mem M.mem (d ▸ hS) I U with e | e
   ·exact aa (by rw[V];exact e)
   exact ab (by rw[W];exact e)
  intro T A D C
  exact YR h D C J d G M Q v H P hn I ht ai V W X (L:=fun i=>if i=0 then l0 else l1) (Nat.le_refl 2) (fun i S=>by
   rcases (show i=0\/i=1 by omega) with rfl | rfl
   ·exact a6
   exact ak) rfl
end Go.Abs
