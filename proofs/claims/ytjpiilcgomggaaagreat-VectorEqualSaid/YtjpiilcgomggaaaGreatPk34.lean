/- Part 35 of a proof. Conditions: each theorem's own. -/
import Derived.Test.YtjpiilcgomggaaaGreatPk33
set_option linter.all false
set_option maxHeartbeats 8000000
open Go.Proofs
namespace Go.Abs
open Go.RowKit
variable {R a i k m q:Nat} {b b1 b2 c:Bool} {l l1 l2 o z:List UInt32} {x y:Int}
theorem Rc {x:Nat} (h:x=2^(m+1)*k):x ||| 2^m=x+2^m:=by
 rw[h,Nat.or_comm,Hk (Nat.pow_lt_pow_right (by decide) (Nat.lt_succ_self m)),Nat.add_comm]
theorem TY {x:UInt32} (hx:o[q]? =some x) (hm:m<32) (d:2^(32*q+m+1)∣AB o):∃k,x.toNat=2^(m+1)*k:=by
 have t:q<o.length:=by apply Classical.byContradiction;intro s;rw[List.getElem?_eq_none (by omega)] at hx;exact absurd hx (by simp)
 have f:AB o=AB (o.take q)+2^(32*q)*(x.toNat+4294967296*AB (o.drop (q+1))):=by
  conv=>lhs;rw[<-List.take_append_drop q o]
  rw[KW,List.length_take,Nat.min_eq_left (by omega),CU hx]
 have g:2^(32*q)∣AB o:=Nat.dvd_trans ⟨2^(m+1),by rw[<-Nat.pow_add];congr 1⟩ d
 have h:2^(32*q)∣AB (o.take q):=by
  rw[f] at g;exact (Nat.dvd_add_iff_left ⟨_,rfl⟩).2 g
 have j:AB (o.take q)<2^(32*q):=by
  have:=Bc (o.take q);rwa [List.length_take,Nat.min_eq_left (by omega)] at this
 have n:AB (o.take q)=0:=Nat.eq_zero_of_dvd_of_lt h j;rw[f,n,Nat.zero_add,Nat.add_assoc,Nat.pow_add] at d;have p:2^(m+1)∣x.toNat+4294967296*AB (o.drop (q+1)):=Nat.dvd_of_mul_dvd_mul_left (Nat.two_pow_pos _) d;have r:2^(m+1)∣4294967296*AB (o.drop (q+1)):=Nat.dvd_trans ⟨2^(31-m),by rw[<-Nat.pow_add,show m+1+(31-m)=32 by omega]⟩ ⟨_,rfl⟩;exact (Nat.dvd_add_iff_left r).2 p
theorem V7 {x w:UInt32} (hx:o[q]? =some x) (hm:m<32) (d:2^(32*q+m+1)∣AB o) (hw:w.toNat=x.toNat ||| 2^m):AB (o.set q w)=AB o+2^(32*q+m)/\w.toNat=x.toNat+2^m:=by
 obtain⟨k,f⟩:=TY hx hm d;rw[Rc f] at hw;have:=Mm (w:=w) hx;rw[hw,Nat.mul_add,<-Nat.pow_add] at this;exact⟨by omega,hw⟩
theorem Vi {n a b:Int} {p:Nat} (h:n=IntKind.u32.wrap (BitVec.ofInt IntKind.u32.bits a &&& ~~~ BitVec.ofInt IntKind.u32.bits b).toNat) (v:a=((p+2^m:Nat):Int)) (w:b=((2^m:Nat):Int)) (f:p=2^(m+1)*k) (hm:m<32) (D:p+2^m<4294967296):n=p:=by
 have u:=wrap_u32 h;have C:2^m<4294967296:=by omega
 have g:(BitVec.ofInt 32 a &&& ~~~ BitVec.ofInt 32 b:BitVec 32).toNat=p:=by
  have s:BitVec.ofInt 32 a=BitVec.ofNat 32 (p+2^m):=by rw[v];exact BitVec.ofInt_natCast 32 _
  have t:BitVec.ofInt 32 b=BitVec.ofNat 32 (2^m):=by rw[w];exact BitVec.ofInt_natCast 32 _
  rw[s,t]
  have j:BitVec.ofNat 32 (p+2^m) &&& ~~~BitVec.ofNat 32 (2^m)=BitVec.ofNat 32 p:=by
   apply BitVec.eq_of_getLsbD_eq;intro i B;rw[BitVec.getLsbD_and,BitVec.getLsbD_not,BitVec.getLsbD_ofNat,BitVec.getLsbD_ofNat,BitVec.getLsbD_ofNat,<-Rc f,Nat.testBit_or,Nat.testBit_two_pow]
   have r:p.testBit m=false:=by
    rw[f,Nat.testBit_two_pow_mul];simp;intro h;omega
   by_cases e:m=i
   ·subst e;simp[r,hm]
   simp[e,B]
  rw[j,BitVec.toNat_ofNat];exact Nat.mod_eq_of_lt (Nat.lt_of_le_of_lt (Nat.le_add_right p (2^m)) D)
 have d:n=(((BitVec.ofInt 32 a &&& ~~~ BitVec.ofInt 32 b:BitVec 32).toNat:Nat):Int)%4294967296:=u;rw[g] at d;rw[d];exact Int.emod_eq_of_lt (by omega) (by omega)
theorem AT.iff {b':Bool} {l':List UInt32} (h:AT x b l) (h':AT y b' l'):x=y↔b=b'/\l=l':=
 ⟨fun e=>h.uniq h' e,fun e=>by rw[h.DW,h'.DW,e.1,e.2]⟩
theorem VU {u:List UInt32} {c d b:Nat} (hcu:c<=u.length) (hdu:d<=u.length) (sl:u.length<=17592186044416) (ha:AB (u.take c)=a) (hb:AB (u.take d)=b) (hz:z=AJ (a*b)):Da Tryz.prog 180 [.one (.AL .u32 0 0 0 c),.one (.AL .u32 0 0 0 d)] (.arr 0 .u32 u) (.one (.sl .u32 z)):=by
 obtain⟨l,hl⟩:=xU (u.take c);have hll:l.length=c:=by rw[hl,List.length_take];omega
 have hgx:∀i,i<c->l[i]? =u[i]? :=fun i h=>by rw[hl,List.getElem?_take,if_pos h]
 rw[<-hl] at ha;obtain⟨m,hm⟩:=xU (u.take d);have hmm:m.length=d:=by rw[hm,List.length_take];omega
 have hgy:∀i,i<d->m[i]? =u[i]? :=fun i h=>by rw[hm,List.getElem?_take,if_pos h]
 rw[<-hm] at hb;refine FX Tryz.func180 (by kernel_rfl) rfl fun E hE=>?_
 conv=>cbv
 intro n10 h10;have e10:=h10.eq;conv=>cbv
 intro n12 h12;have e12:=h12.eq;conv=>cbv
 intro n13 h13;conv=>cbv
 refine g1 (by omega) ?_;refine⟨fun _=>⟨by omega,by omega,by show _*4<=140737488355328;omega⟩,?_⟩;intro k14 (l14:List UInt32) ql14;have hk14:=ql14.1;have hl14:l14=List.replicate k14 (0:el .u32):=ql14.2;have gl14:l14.length=k14:=by rw[hl14,List.length_replicate]
 conv=>cbv
 refine .inr ?_
 obtain⟨J0,hJ0⟩:∃J:List AV->List AH->Nat->Prop,J=fun vs bl k=>∃(o:List UInt32) (n i':Nat) (i:Int),vs=[.one (.AL .u32 0 0 0 c),.one (.AL .u32 0 0 0 d),.one (.AL .u32 14 0 0 n),.one (.int .i64 i)]/\
  bl=[.arr 0 .u32 u,.arr 0 .u32 o]/\(o.length=l.length+m.length/\n=o.length/\AK i i'/\i'<=l.length)/\
  AB (o.take (i'+m.length))=AB (l.take i')*AB m/\k=l.length-i':=⟨_,rfl⟩
 refine⟨[0,1,5,6],[0,14],J0,⟨l.length-0,by rw[hJ0];exact⟨l14,k14,0,0,rfl,rfl,⟨by rw[hl14,List.length_replicate];omega,by rw[hl14,List.length_replicate],Ai 0,by omega⟩,by rw[hl14,List.take_replicate,Fe];simp[AB],rfl⟩⟩,?_⟩;intro vs bl kk0 hj;rw[hJ0] at hj;obtain⟨o,n,i',i,rfl,rfl,⟨ho,hn,hi,hiL⟩,hinv,hk0⟩:=hj;conv=>cbv
 have ei:=hi.eq;intro n17 h17;have e17:=h17.eq;conv=>cbv
 intro n18 h18;conv=>cbv
 cases n18 <;> conv=>cbv
 ·have k18:=AR h18;have hnl66:n<=(o).length:=by omega
  obtain⟨m66,hm66⟩:=xN ((BH ((o).take n)).length);obtain⟨hle66,htk66⟩:=C2 hnl66 hm66;refine .inr (.inr (.inl ⟨[],.one (.AL .u32 0 0 0 m66),.arr 0 .u32 o,fun _=>⟨by first | decide | simp[BQ,BV],trivial⟩,fun _=>⟨Ci hE (EI hnl66 (by omega) hm66),rfl,rfl⟩,?_⟩));try conv=>cbv
  have hfin:AB (o.take n)=a*b:=by rw[show i'=l.length by omega,List.take_length,ha,hb,<-ho,List.take_length] at hinv;rw[hn,List.take_length,hinv]
  refine fun _=>⟨⟨⟨⟨rfl,.inl ⟨_,rfl,by omega,congrArg _ (by rw[List.drop_zero,htk66,hfin,hz])⟩,trivial⟩,trivial⟩,rfl,by simp⟩,rfl⟩
 have k18:=AS h18;refine .inr ?_;refine .inr ?_
 obtain⟨J1,hJ1⟩:∃J:List AV->List AH->Nat->Prop,J=fun vs bl k=>∃(o1:List UInt32) (n1 c' k':Nat) (cc i1:Int),vs=[.one (.AL .u32 0 0 0 c),.one (.AL .u32 0 0 0 d),.one (.AL .u32 14 0 0 n1),.one (.int .i64 i),.one (.int .u64 cc),.one (.int .i64 i1)]/\
  bl=[.arr 0 .u32 u,.arr 0 .u32 o1]/\(o1.length=l.length+m.length/\n1=o1.length/\AK i1 k'/\k'<=m.length/\AK cc c'/\c'<4294967296)/\
  AB (o1.take (i'+m.length))+2^(32*(i'+k'))*c'=AB (l.take i')*AB m+(l.getD i' 0).toNat*2^(32*i')*AB (m.take k')/\k=m.length-k':=⟨_,rfl⟩
 refine⟨[0,1,5,6,7,8],[0,14],J1,⟨m.length-0,by rw[hJ1];exact⟨o,n,0,0,0,0,rfl,rfl,⟨ho,hn,Ai 0,by omega,Ai 0,by omega⟩,by rw[hinv];simp[AB],rfl⟩⟩,?_⟩;intro vs bl kk1 hj;rw[hJ1] at hj;obtain⟨o1,n1,c',k',cc,i1,rfl,rfl,⟨ho1,hn1,hi1,hiL1,hc,hc1⟩,hinv1,hk1⟩:=hj;conv=>cbv
 have ei1:=hi1.eq;have ec:=hc.eq;intro n23 h23;have e23:=h23.eq;conv=>cbv
 intro n24 h24;conv=>cbv
 cases n24 <;> conv=>cbv
 ·have k24:=AR h24;intro n60 h60;have e60:=h60.eq;conv=>cbv
  intro n61 h61;conv=>cbv
  refine g1 (by omega) ?_;intro n63 h63;conv=>cbv
  have h63:=wrap_u32 h63;refine g2 (by omega) ?_;intro j64 hj64;conv=>cbv
  obtain⟨w64,hw64⟩:=BK (n:=n63) (by omega);have ew64:=hw64.eq;have fw64:=hw64.lt;refine⟨w64,fun _=>⟨by show _<List.length (α:=UInt32) o1;(first | omega | (simp;omega)),BJ hw64⟩,?_⟩;intro (l64:List UInt32) (hl64:l64=List.set (α:=UInt32) o1 j64 w64);have gl64:l64.length=o1.length:=by rw[hl64,List.length_set]
  conv=>cbv
  intro n20 h20;conv=>cbv
  refine g1 (by omega) ?_;refine⟨l.length-(i'+1),?_,?_⟩
  ·omega
  rw[hJ0];refine⟨l64,n1,i'+1,n20,rfl,rfl,⟨by rw[hl64,List.length_set];exact ho1,by rw[hl64,List.length_set];exact hn1,⟨by omega⟩,by omega⟩,?_,rfl⟩;obtain⟨ai,hai⟩:=AF (l:=l) (i:=i') (by omega);have hk:k'=m.length:=by omega
  have hlen:i'+m.length<o1.length:=by omega
  rw[hl64,show i'+1+m.length=i'+m.length+1 by omega,show j64=i'+m.length by omega,DG hlen,Cn,List.length_take,Nat.min_eq_left (by omega),show w64.toNat=c' by omega];rw[hk,HU hai] at hinv1;rw[hinv1,List.take_length,BX hai]
  grind
 have k24:=AS h24;refine .inr ?_;intro n31 h31;conv=>cbv
 refine g1 (by omega) ?_;refine g2 (by omega) ?_;intro j32 hj32;conv=>cbv
 obtain⟨x33,hx33⟩:=AF (l:=o1) (i:=j32) (by omega);refine⟨x33,fun _=>hx33,?_⟩;try conv=>cbv
 intro n33 h33;have e33:=h33.eq;have f33:=h33.lt;conv=>cbv
 intro n34 h34;conv=>cbv
 have h34:=wrap_u64 h34;intro n35 h35;conv=>cbv
 have h35:=wrap_u64 h35;refine g2 (by omega) ?_;intro j38 hj38;conv=>cbv
 obtain⟨x39,hx39⟩:=AF (l:=u) (i:=j38) (by omega);refine⟨x39,fun _=>hx39,?_⟩;try conv=>cbv
 intro n39 h39;have e39:=h39.eq;have f39:=h39.lt;conv=>cbv
 intro n40 h40;conv=>cbv
 have h40:=wrap_u64 h40;refine g2 (by omega) ?_;intro j43 hj43;conv=>cbv
 obtain⟨x44,hx44⟩:=AF (l:=u) (i:=j43) (by omega);refine⟨x44,fun _=>hx44,?_⟩;try conv=>cbv
 intro n44 h44;have e44:=h44.eq;have f44:=h44.lt;conv=>cbv
 intro n45 h45;conv=>cbv
 have h45:=wrap_u64 h45;have ep:n40*n45=((x39.toNat*x44.toNat:Nat):Int):=by rw[Int.natCast_mul];congr 1 <;> omega
 have bp:x39.toNat*x44.toNat<=4294967295*4294967295:=Nat.mul_le_mul (by omega) (by omega);intro n46 h46;conv=>cbv
 have h46:=wrap_u64 h46;intro n47 h47;conv=>cbv
 have h47:=wrap_u64 h47;refine g2 rfl ?_;intro B4 h51;conv=>cbv
 refine g1 (by omega) ?_;intro CK h53;conv=>cbv
 have h53:=wrap_u32 h53;refine g2 (by omega) ?_;intro j54 hj54;conv=>cbv
 obtain⟨w54,hw54⟩:=BK (n:=CK) (by omega);have ew54:=hw54.eq;have fw54:=hw54.lt;refine⟨w54,fun _=>⟨by show _<List.length (α:=UInt32) o1;(first | omega | (simp;omega)),BJ hw54⟩,?_⟩;intro (l54:List UInt32) (hl54:l54=List.set (α:=UInt32) o1 j54 w54);have gl54:l54.length=o1.length:=by rw[hl54,List.length_set]
 conv=>cbv
 intro n56 h56;conv=>cbv
 refine g2 (by omega) ?_;have h56:=Ct (p:=4294967296) h56 rfl;intro n26 h26;conv=>cbv
 refine g1 (by omega) ?_;refine⟨m.length-(k'+1),?_,?_⟩
 ·omega
 rw[hJ1];have hx38:l[i']? =some x39:=by rw[hgx _ (by omega),show i'=j38 by omega];exact hx39
 have hx43:m[k']? =some x44:=by rw[hgy _ (by omega),show k'=j43 by omega];exact hx44
 refine⟨l54,n1,n56.toNat,k'+1,n56,n26,rfl,rfl,⟨by rw[hl54,List.length_set];exact ho1,by rw[hl54,List.length_set];exact hn1,⟨by omega⟩,by omega,⟨by omega⟩,by omega⟩,?_,rfl⟩;have hj:j54=i'+k':=by omega
 have hj2:j32=i'+k':=by omega
 rw[hj2] at hx33;rw[HU hx38] at hinv1;rw[hl54,hj,BX hx43,show i'+(k'+1)=i'+k'+1 by omega,HU hx38];refine Ng (q:=x33) (xi:=x39.toNat) (yk:=x44.toNat) (old:=x33.toNat) (c:=c') rfl (by omega) hx33 rfl hinv1 ?_ rfl;rw[ep] at h46;omega
theorem WJ (h:Ay ((R*R:Nat):Int) a<=0):R*R<=a:=by
 unfold Ay at h
 split at h
 ·omega
 split at h
 ·omega
 omega
theorem WI (h:Ay ((R*R:Nat):Int) a>0):a<R*R:=by
 unfold Ay at h
 split at h
 ·omega
 split at h
 ·omega
 omega
theorem Yy {α:Type} {l:List α} {x:α} (h:l[i]? =some x):l.set i x=l:=by
 apply List.ext_getElem?;intro k
 by_cases e:i=k
 ·subst e;rw[h,List.getElem?_set_self];apply Classical.byContradiction;intro d;rw[List.getElem?_eq_none (by omega)] at h;exact absurd h (by simp)
 rw[List.getElem?_set_ne e]
theorem JN (hx:AT x b l) (h0:0<=x) (hz:AT ((Ar x.toNat:Nat):Int) c z) (sl:l.length<=17592186043000):CF 205 [.agg [.bool b,.sl .u32 l]] (.AG [(true,[.bool c,.sl .u32 z]),(false,[.int .i64 0])]):=by
 obtain⟨a,ha⟩:=xN x.toNat;obtain⟨N,hN⟩:=xN ((Bp a+1)/2);have aa:x.natAbs=a:=by omega
 have aK:l=AJ a:=by rw[<-aa];exact hx.Am
 rw[<-ha] at hz
 have aG:a<2^N*2^N:=by
  rw[<-Nat.pow_add]
  by_cases h:a=0
  ·rw[h];exact Nat.two_pow_pos _
  exact Nat.lt_of_lt_of_le (KX (by omega:0<a)).2.1 (Nat.pow_le_pow_right (by decide) (by omega))
 have bA:N<=300000000000000:=by
  have h1:Bp a<=32*l.length:=by
   by_cases h:a=0
   ·rw[h];exact Nat.zero_le _
   have h2:=(KX (by omega:0<a)).1;have h3:a<2^(32*l.length):=by have:=Bc l;rw[hx.nat,aa] at this;exact this
   have h4:=(Nat.pow_lt_pow_iff_right (a:=2) (by decide)).1 (Nat.lt_of_le_of_lt h2 h3);omega
  omega
 refine AE Tryz.func205 (by kernel_rfl) rfl fun E hE=>?_
 conv=>cbv
 refine cL hE (Fx hx) ⟨t2,trivial⟩ ?_;try conv=>cbv
 cases b <;> conv=>cbv
 ·obtain⟨aW,X⟩:∃n:Int,AK n (Bp a):=⟨_,⟨rfl⟩⟩
  have aY:=X.eq;refine cL (r:= .one (.int .i64 aW)) hE (US hx (by rw[aa];exact X) sl) ⟨t2,trivial⟩ ?_;try conv=>cbv
  intro bE bn;conv=>cbv
  refine g1 (by omega) ?_;intro bF bo;conv=>cbv
  refine g2 ⟨by omega,by omega,i64 (by omega)⟩ ?_;intro bG bp;conv=>cbv
  refine g2 ⟨by omega,by omega,i64 (by omega)⟩ ?_;intro bH bq;conv=>cbv
  refine g1 (by omega) ?_;refine⟨fun _=>⟨by omega,by omega,by show _*4<=140737488355328;omega⟩,?_⟩;intro ab (ad:List UInt32) a1;have bg:=a1.1;have f:ad=List.replicate ab (0:el .u32):=a1.2;have b5:ad.length=ab:=by rw[f,List.length_replicate]
  conv=>cbv
  intro aP br;conv=>cbv
  refine g1 (by omega) ?_;refine .inr ?_
  obtain⟨J0,O⟩:∃J:List AV->List AH->Nat->Prop,J=fun vs bl k=>∃(o:List UInt32) (m j:Nat) (i:Int),vs=[.one (.An 1 0 0),.one (.An 2 0 0),.one (.int .i64 0),.one (.AL .u32 19 0 0 m),.one (.int .i64 i)]/\
   bl=[.var 0 [.bool false,.sl .u32 l],.var 0 [.bool false,.nil],.arr 0 .u32 o]/\(o.length=N/32+1/\m=o.length/\AK (i+1) j/\j<=N)/\
   (2^j∣AB o/\AB o*AB o<=a/\a<(AB o+2^j)*(AB o+2^j))/\k=j:=⟨_,rfl⟩
  refine⟨[1,2,3,5,6],[1,2,19],J0,⟨N,by rw[O];exact⟨ad,ab,N,aP,rfl,rfl,⟨by rw[f,List.length_replicate];omega,by rw[f,List.length_replicate],⟨by omega⟩,Nat.le_refl _⟩,⟨by rw[f,Fe];exact Nat.dvd_zero _,by rw[f,Fe];omega,by rw[f,Fe,Nat.zero_add];exact aG⟩,rfl⟩⟩,?_⟩;intro vs bl bD hj;rw[O] at hj;obtain⟨o,m,j,i,rfl,rfl,⟨ho,hm,hi,bB⟩,⟨hd,aq,a2⟩,bC⟩:=hj;conv=>cbv
  have ei:=hi.eq;intro aQ aj;conv=>cbv
  cases aQ <;> conv=>cbv
  ·have aO:=DC aj;have aI:j=0:=by omega
   rw[aI] at a2;have aN:=Qm aq a2
   have ar:((Ar a:Nat):Int)=if false=true then -(AB (o.take m):Int) else AB (o.take m):=by
    rw[if_neg (by decide),hm,List.take_length,aN]
   obtain⟨az,aA,I⟩:=AP (((Ar a:Nat):Int));refine .inr (.inr (.inr ⟨19,.arr 0 .u32 o,[.one (.bool false),.one (.sl .u32 ((o).take m))],.agg [.bool az,.sl .u32 aA],fun _=>⟨⟨by decide,rfl,by first | rfl | decide | simp[BQ,BV]⟩,⟨rfl,⟨_,rfl,by simp <;> omega,by simp⟩,trivial⟩⟩,fun _=>⟨Ez hE (Ec (n:=false) ar I),rfl⟩,?_⟩));try conv=>cbv
   exact fA ⟨⟨rfl,congrArg _ ((I.uniq hz rfl).1.symm),congrArg _ ((I.uniq hz rfl).2.symm),trivial⟩,t2,trivial⟩ rfl (by simp)
  have aO:=DD aj;refine .inr ?_;intro bI bs;conv=>cbv
  refine g2 ⟨by omega,by omega,i64 (by omega)⟩ ?_;intro bJ bt;conv=>cbv
  refine g2 ⟨by omega,by omega,i64 (by omega)⟩ ?_;obtain⟨i',aH⟩:∃i',j=i'+1:=⟨j-1,by omega⟩
  subst aH;refine g2 (by omega) ?_;intro P bb;conv=>cbv
  obtain⟨s,B⟩:=AF (l:=o) (i:=P) (by omega);refine⟨s,fun _=>B,?_⟩;try conv=>cbv
  intro bK ak;have bm:=ak.eq;have f33:=ak.lt;conv=>cbv
  intro bL bu;conv=>cbv
  refine g2 (by omega) ?_;intro aR aC;conv=>cbv
  refine g2 (by omega) ?_
  obtain⟨b8,W⟩:aR=((2^(i'%32):Nat):Int)/\2^(i'%32)<4294967296:=by
   have hb:2^(i'%32)<4294967296:=Nat.lt_of_le_of_lt (Nat.pow_le_pow_right (by decide) (by omega:i'%32<=31)) (by decide);have:=NT (p:=1) (e:=i'%32) aC rfl (by omega) (by omega);rw[this,Nat.one_mul];exact⟨congrArg _ (Nat.mod_eq_of_lt hb),hb⟩
  intro aS aD;conv=>cbv
  have b9:=Kb (p:=s.toNat) (q:=2^(i'%32)) aD (by omega) (by omega) (by omega) W;have bj:s.toNat ||| 2^(i'%32)<4294967296:=Nat.or_lt_two_pow (n:=32) s.toNat_lt W
  refine g2 (by omega) ?_;intro K bc;conv=>cbv
  obtain⟨M,G⟩:=BK (n:=aS) (by omega);have aZ:=G.eq;have b3:=G.lt;refine⟨M,fun _=>⟨by show _<List.length (α:=UInt32) o;(first | omega | (simp;omega)),BJ G⟩,?_⟩;intro (d:List UInt32) (v:d=List.set (α:=UInt32) o K M);have b6:d.length=o.length:=by rw[v,List.length_set]
  conv=>cbv
  refine g2 rfl ?_;have a8:M.toNat=s.toNat ||| 2^(i'%32):=by omega
  have a5:2^(32*(i'/32)+i'%32)=2^i':=by congr 1;omega
  have g:=V7 (o:=o) (q:=i'/32) (m:=i'%32) (x:=s) (w:=M) (by rw[show i'/32=P by omega];exact B) (by omega) (by rw[show 32*(i'/32)+i'%32+1=i'+1 by omega];exact hd) a8;rw[show i'/32=K by omega,<-v,show K=i'/32 by omega] at g;have C:m<=(d).length:=by omega
  obtain⟨ae,U⟩:=xN ((BH ((d).take m)).length);obtain⟨aL,a6⟩:=C2 C U;refine .inr (.inr (.inl ⟨[],.one (.AL .u32 0 0 0 ae),.arr 0 .u32 d,fun _=>⟨by first | decide | simp[BQ,BV],trivial⟩,fun _=>⟨Ci hE (EI C (by omega) U),rfl,rfl⟩,?_⟩));try conv=>cbv
  have D:m<=(d).length:=by omega
  obtain⟨af,V⟩:=xN ((BH ((d).take m)).length);obtain⟨aM,a7⟩:=C2 D V;refine .inr (.inr (.inl ⟨[],.one (.AL .u32 0 0 0 af),.arr 0 .u32 d,fun _=>⟨by first | decide | simp[BQ,BV],trivial⟩,fun _=>⟨Ci hE (EI D (by omega) V),rfl,rfl⟩,?_⟩));try conv=>cbv
  obtain⟨R,hR⟩:=xN (AB d);obtain⟨aX,Y⟩:=xU (AJ (R*R));have ao:AB d*AB d=R*R:=by rw[hR]
  have au:AB (d.take ae)=R:=by rw[a6,Ag,hR];congr 1;exact List.take_of_length_le (by omega)
  have av:AB (d.take af)=R:=by rw[a7,Ag,hR];congr 1;exact List.take_of_length_le (by omega)
  refine .inr (.inr (.inr (.inl ⟨19,.arr 0 .u32 d,[.one (.AL .u32 0 0 0 ae),.one (.AL .u32 0 0 0 af)],.one (.sl .u32 aX),fun _=>⟨rfl,⟨⟨⟨rfl,rfl⟩,rfl⟩,⟨⟨rfl,rfl⟩,rfl⟩,trivial⟩⟩,fun _=>E0 hE (VU (by omega) (by omega) (by omega) au av Y),?_⟩)));try conv=>cbv
  obtain⟨bP,F⟩:=xI (Ay ((R*R:Nat):Int) a);refine cL hE (JR Y aK F) t2 ?_;try conv=>cbv
  intro aT al;conv=>cbv
  refine g2 rfl ?_;refine .inr ?_;cases aT <;> conv=>cbv
  ·have L:=BZ al;intro ag aB;conv=>cbv
   refine g1 (by omega) ?_;refine⟨i',?_,?_⟩
   ·omega
   rw[O];have t:2^i'∣AB o:=Nat.dvd_trans ⟨2,by rw[Nat.pow_succ]⟩ hd;refine⟨d,m,i',ag,rfl,rfl,⟨by omega,by omega,⟨by omega⟩,by omega⟩,⟨?_,?_,?_⟩,rfl⟩
   ·rw[g.1];exact Nat.dvd_add t (by rw[a5];exact Nat.dvd_refl _)
   ·rw[ao];rw[F] at L;have:=WJ L;exact this
   rw[g.1,a5];rw[Nat.pow_succ] at a2;rwa [show AB o+2^i'+2^i'=AB o+2^i'*2 by omega]
  have L:=Ba al;intro bM bw;conv=>cbv
  refine g2 ⟨by omega,by omega,i64 (by omega)⟩ ?_;intro CK bx;conv=>cbv
  refine g2 ⟨by omega,by omega,i64 (by omega)⟩ ?_;refine g2 (by omega) ?_;intro aw bd;conv=>cbv
  obtain⟨ay,Z⟩:=AF (l:=d) (i:=aw) (by omega);refine⟨ay,fun _=>Z,?_⟩;try conv=>cbv
  intro bN an;have ai:=an.eq;have f55:=an.lt;conv=>cbv
  intro bO bz;conv=>cbv
  refine g2 (by omega) ?_;intro aU aE;conv=>cbv
  refine g2 (by omega) ?_
  obtain⟨ba,bk⟩:aU=((2^(i'%32):Nat):Int)/\2^(i'%32)<4294967296:=by
   have hb:2^(i'%32)<4294967296:=Nat.lt_of_le_of_lt (Nat.pow_le_pow_right (by decide) (by omega:i'%32<=31)) (by decide);have:=NT (p:=1) (e:=i'%32) aE rfl (by omega) (by omega);rw[this,Nat.one_mul];exact⟨congrArg _ (Nat.mod_eq_of_lt hb),hb⟩
  intro aV aF;conv=>cbv
  obtain⟨kk,aJ⟩:=TY (o:=o) (q:=i'/32) (m:=i'%32) (x:=s) (by rw[show i'/32=P by omega];exact B) (by omega) (by rw[show 32*(i'/32)+i'%32+1=i'+1 by omega];exact hd)
  have ai:ay=M:=by
   have:=Z;rw[v,show aw=i'/32 by omega,show K=i'/32 by omega,List.getElem?_set_self (by omega)] at this;exact (Option.some.inj this).symm
  have bh:=Vi (p:=s.toNat) (m:=i'%32) aF (by rw[<-g.2,<-ai];omega) (by omega) aJ (by omega) (by rw[<-g.2];omega);refine g2 (by omega) ?_;intro ax bf;conv=>cbv
  obtain⟨ah,H⟩:=BK (n:=aV) (by omega);have b0:=H.eq;have b4:=H.lt;refine⟨ah,fun _=>⟨by show _<List.length (α:=UInt32) d;(first | omega | (simp;omega)),BJ H⟩,?_⟩;intro (Q:List UInt32) (S:Q=List.set (α:=UInt32) d ax ah);have b7:Q.length=d.length:=by rw[S,List.length_set]
  conv=>cbv
  refine g2 rfl ?_;intro ag aB;conv=>cbv
  refine g1 (by omega) ?_;refine⟨i',?_,?_⟩
  ·omega
  rw[O];have t:2^i'∣AB o:=Nat.dvd_trans ⟨2,by rw[Nat.pow_succ]⟩ hd
  have u:Q=o:=by
   have e1:ah=s:=UInt32.toNat_inj.1 (by omega);rw[S,v,show ax=i'/32 by omega,show K=i'/32 by omega,List.set_set,e1];exact Yy (by rw[show i'/32=P by omega];exact B)
  refine⟨Q,m,i',ag,rfl,rfl,⟨by rw[u];exact ho,by rw[u];exact hm,⟨by omega⟩,by omega⟩,?_,rfl⟩;rw[u];refine⟨t,aq,?_⟩;rw[F] at L;have:=WI L;rw[<-ao,g.1,a5] at this;exact this
 exact absurd hx.neg (by simp;omega)
theorem Zq {α:Type} {X Y:List α} {x y:α} (hx:X[i]? =some x) (d:Y[i]? =some y) (h:X.take i=Y.take i) (e:x=y):X.take (i+1)=Y.take (i+1):=by
 rw[List.take_add_one,List.take_add_one,hx,d,h,e]
theorem JQ (hx:AT x b1 l1) (F:AT y b2 l2) (C:c=decide (x=y)):CF 206 [.agg [.bool b1,.sl .u32 l1],.agg [.bool b2,.sl .u32 l2]] (.one (.bool c)):=by
 refine AE Tryz.func206 (by kernel_rfl) rfl fun E hE=>?_
 conv=>cbv
 intro L p;conv=>cbv
 cases L <;> conv=>cbv
 ·have h:=PS p;rintro a8 ⟨G,f14⟩;conv=>cbv
  rintro aa ⟨Y,f17⟩;conv=>cbv
  intro M r;conv=>cbv
  cases M <;> conv=>cbv
  ·have I:=DK r;refine .inr ?_;obtain⟨X,g⟩:=xJ fun W U k=>∃(k':Nat) (j:Int),W=[.one (.An 2 0 0),.one (.An 3 0 0),.one (.bool false),.one (.int .i64 j)]/\U=[.var 0 [.bool b1,.sl .u32 l1],.var 0 [.bool b2,.sl .u32 l2]]/\(AK j k'/\k'<=l1.length/\l1.length=l2.length/\b1=b2)/\l1.take k'=l2.take k'/\k=l1.length-k'
   refine⟨[2,3,4,5],[2,3],X,⟨l1.length-0,by rw[g];exact⟨0,0,rfl,rfl,⟨Ai 0,by omega,by omega,h⟩,rfl,rfl⟩⟩,?_⟩;intro W U a7 D;rw[g] at D;obtain⟨k',j,rfl,rfl,⟨D,a5,B,w⟩,hinv,a6⟩:=D;conv=>cbv
   have ej:=D.eq;rintro ab ⟨Z,f23⟩;conv=>cbv
   intro N s;conv=>cbv
   cases N <;> conv=>cbv
   ·have J:=AR s;exact fA ⟨⟨rfl,congrArg _ (by rw[C];exact (decide_eq_true ((hx.iff F).2 ⟨w,by have n:=hinv;rw[show k'=l1.length by omega,List.take_length,B,List.take_length] at n;exact n⟩))),trivial⟩,trivial⟩ rfl (by simp)
   have J:=AS s;refine .inr ?_;obtain⟨Q,d⟩:=AF (l:=l1) (i:=k') (by omega);refine⟨Q,fun _=>⟨by omega,by rw[show (j).toNat=k' by omega];exact d⟩,?_⟩;try conv=>cbv
   intro ad t;have a1:=t.eq;have f31:=t.lt;conv=>cbv
   obtain⟨S,f⟩:=AF (l:=l2) (i:=k') (by omega);refine⟨S,fun _=>⟨by omega,by rw[show (j).toNat=k' by omega];exact f⟩,?_⟩;try conv=>cbv
   intro ae u;have H:=u.eq;have f36:=u.lt;conv=>cbv
   intro P v;conv=>cbv
   refine g2 rfl ?_;cases P <;> conv=>cbv
   ·have K:=DK v;intro O a2;conv=>cbv
    refine g1 (by omega) ?_;refine⟨l1.length-(k'+1),?_,?_⟩
    ·omega
    rw[g];exact⟨k'+1,O,rfl,rfl,⟨⟨by omega⟩,by omega,B,w⟩,Zq d f hinv (UInt32.toNat_inj.1 (by omega)),rfl⟩
   have K:=DL v;exact fA ⟨⟨rfl,congrArg _ (by rw[C];exact (decide_eq_false (fun e=>by have n:=((hx.iff F).1 e).2;have V:=d;rw[n,f] at V;have h3:=Option.some.inj V;rw[h3] at H;omega))),trivial⟩,trivial⟩ rfl (by simp)
  have I:=DL r;exact fA ⟨⟨rfl,congrArg _ (by rw[C];exact (decide_eq_false (fun e=>by have n:=((hx.iff F).1 e).2;rw[n] at G;omega))),trivial⟩,trivial⟩ rfl (by simp)
 have h:=PT p;exact fA ⟨⟨rfl,congrArg _ (by rw[C];exact (decide_eq_false (fun e=>h ((hx.iff F).1 e).1))),trivial⟩,trivial⟩ rfl (by simp)
theorem Un {q r:Rat} {c1 c2:Bool} {m1 m2:List UInt32} (hx:Aq q b1 l1 b2 l2) (O:BF q) (B:0<=r) (F:r*r=q) (s:Aq r c1 m1 c2 m2):CF 163 [.agg [.bool b1,.sl .u32 l1,.bool b2,.sl .u32 l2]] (.AG [(true,[.bool c1,.sl .u32 m1,.bool c2,.sl .u32 m2]),(false,[.bool true])]):=by
 have n:=S8 B F;have p:=S7 B F;have w:0<=q.num:=by rw[<-n.2,<-n.1];exact Int.mul_nonneg (by omega) (by omega)
 have v:(0:Int)<=(q.den:Int):=by omega
 have P:=hx.small O;obtain⟨G,K,d⟩:=AP (((Ar q.num.toNat:Nat):Int));obtain⟨H,L,f⟩:=AP (((Ar (q.den:Int).toNat:Nat):Int));have C:=HX hx.num d;have D:=HX hx.den f;refine AE Tryz.func163 (by kernel_rfl) rfl fun E j=>?_
 conv=>cbv
 cases b1 <;> conv=>cbv
 ·refine cL j (JN hx.num w d (by omega)) ⟨t2,trivial⟩ ?_;try conv=>cbv
  refine cL j (JN hx.den v f (by omega)) ⟨t2,trivial⟩ ?_;try conv=>cbv
  obtain⟨I,M,g⟩:=AP (((Ar q.num.toNat:Nat):Int)*((Ar q.num.toNat:Nat):Int));refine cL j (CQ d d g (by omega) (by omega)) ⟨t2,t2,trivial⟩ ?_;try conv=>cbv
  refine cL (r:= .one (.bool true)) j (JQ g hx.num (by rw[n.1];exact (decide_eq_true n.2).symm)) ⟨t2,t2,trivial⟩ ?_;try conv=>cbv
  intro Q t;cases t.trans (rfl:_=false);conv=>cbv
  obtain⟨J,N,h⟩:=AP (((Ar (q.den:Int).toNat:Nat):Int)*((Ar (q.den:Int).toNat:Nat):Int));refine cL j (CQ f f h (by omega) (by omega)) ⟨t2,t2,trivial⟩ ?_;try conv=>cbv
  refine cL (r:= .one (.bool true)) j (JQ h hx.den (by rw[p.1];exact (decide_eq_true p.2).symm)) ⟨t2,t2,trivial⟩ ?_;try conv=>cbv
  intro S u;cases u.trans (rfl:_=false);conv=>cbv
  refine g2 rfl ?_;exact fA ⟨⟨rfl,congrArg _ ((d.uniq s.num n.1).1.symm),congrArg _ ((d.uniq s.num n.1).2.symm),congrArg _ ((f.uniq s.den p.1).1.symm),congrArg _ ((f.uniq s.den p.1).2.symm),trivial⟩,t2,trivial⟩ rfl (by simp)
 exact absurd (of_decide_eq_true hx.num.neg.symm) (by omega)
theorem Um {q:Rat} (hx:Aq q b1 l1 b2 l2) (U:BF q) (S:¬∃r:Rat,0<=r/\r*r=q):CF 163 [.agg [.bool b1,.sl .u32 l1,.bool b2,.sl .u32 l2]] (.AG [(true,[.bool false,.sl .u32 [],.bool false,.sl .u32 []]),(false,[.bool false])]):=by
 have w:(0:Int)<=(q.den:Int):=by omega
 have V:=hx.small U;obtain⟨H,L,d⟩:=AP (((Ar q.num.toNat:Nat):Int));obtain⟨I,M,f⟩:=AP (((Ar (q.den:Int).toNat:Nat):Int));have F:=HX hx.num d;have G:=HX hx.den f;refine AE Tryz.func163 (by kernel_rfl) rfl fun E p=>?_
 conv=>cbv
 cases b1 <;> conv=>cbv
 ·have B:0<=q.num:=by have:=of_decide_eq_false hx.num.neg.symm;omega
  refine cL p (JN hx.num B d (by omega)) ⟨t2,trivial⟩ ?_;try conv=>cbv
  refine cL p (JN hx.den w f (by omega)) ⟨t2,trivial⟩ ?_;try conv=>cbv
  obtain⟨J,N,j⟩:=AP (((Ar q.num.toNat:Nat):Int)*((Ar q.num.toNat:Nat):Int));refine cL p (CQ d d j (by omega) (by omega)) ⟨t2,t2,trivial⟩ ?_;try conv=>cbv
  obtain⟨P,g⟩:=xB (decide (((Ar q.num.toNat:Nat):Int)*((Ar q.num.toNat:Nat):Int)=q.num));refine cL p (JQ j hx.num g) ⟨t2,t2,trivial⟩ ?_;try conv=>cbv
  intro C s;conv=>cbv
  cases C <;> conv=>cbv
  ·have u:=Co s;obtain⟨K,O,n⟩:=AP (((Ar (q.den:Int).toNat:Nat):Int)*((Ar (q.den:Int).toNat:Nat):Int));refine cL p (CQ f f n (by omega) (by omega)) ⟨t2,t2,trivial⟩ ?_;try conv=>cbv
   obtain⟨Q,h⟩:=xB (decide (((Ar (q.den:Int).toNat:Nat):Int)*((Ar (q.den:Int).toNat:Nat):Int)=(q.den:Int)));refine cL p (JQ n hx.den h) ⟨t2,t2,trivial⟩ ?_;try conv=>cbv
   intro D t;conv=>cbv
   refine g2 rfl ?_;cases D <;> conv=>cbv
   ·have v:=Co t;exact absurd (S6 (of_decide_eq_true (g.symm.trans (by simpa using u))) (of_decide_eq_true (h.symm.trans (by simpa using v)))) S
   have v:=Cp t;exact fA ⟨⟨rfl,rfl,.inr (.inl ⟨_,rfl⟩),rfl,.inr (.inl ⟨_,rfl⟩),trivial⟩,t2,trivial⟩ rfl (by simp)
  have u:=Cp s;refine g2 rfl ?_;exact fA ⟨⟨rfl,rfl,.inr (.inl ⟨_,rfl⟩),rfl,.inr (.inl ⟨_,rfl⟩),trivial⟩,t2,trivial⟩ rfl (by simp)
 exact fA ⟨⟨rfl,rfl,.inr (.inl ⟨_,rfl⟩),rfl,.inr (.inl ⟨_,rfl⟩),trivial⟩,t2,trivial⟩ rfl (by simp)
end Go.Abs
namespace Go.Abs
open Go.RowKit
variable {A:LR} {T:List LR} {q:Rat}
theorem VM {B:LR} {r:Rat} (hT:T=[]) (hA:A=[rp q]) (D:B=[rp r]) (H:BF q) (w:0<=r) (G:r*r=q):CF 101 [.one (.sl (.sl AA) T),.one (.sl AA A)] (.AG [(false,[.sl AA B]),(false,[.bool true])]):=by
 refine AE Tryz.func101 (by kernel_rfl) rfl fun E F=>?_
 conv=>cbv
 rintro I ⟨t,f31⟩;conv=>cbv
 intro u g;conv=>cbv
 cases u <;> conv=>cbv
 ·have h:=Ac g;exact absurd (by rw[t,hT];rfl) h
 have h:=Ad g;have C:A.length=1:=by rw[hA];rfl
 obtain⟨v,d⟩:=AF (l:=A) (i:=0) (by omega);refine⟨v,fun _=>⟨by omega,d⟩,?_⟩;try conv=>cbv
 obtain⟨p,s,j,n,f⟩:=A9 r;refine cL F (Un (C8 hA d) H w G f) ⟨t4,trivial⟩ ?_;try conv=>cbv
 refine⟨[((p,s),(j,n))],fun _=>⟨rfl,by decide,rfl,⟨rfl,by first | exact t1 | exact t2 | exact t4 | simp[Ae,Ak,cells],trivial⟩⟩,.inl ?_⟩;try conv=>cbv
 exact fA ⟨⟨rfl,.inl ⟨_,rfl,by simp,congrArg _ (by rw[D,f.rp];rfl)⟩,trivial⟩,t2,trivial⟩ rfl (by simp)
theorem VL {l:LR} (hT:T=[]) (hA:A=[rp q]) (t:l=[(((false,[]),(false,[])):el AA)]) (v:BF q) (u:¬∃r:Rat,0<=r/\r*r=q):CF 101 [.one (.sl (.sl AA) T),.one (.sl AA A)] (.AG [(false,[.sl AA l]),(false,[.bool false])]):=by
 refine AE Tryz.func101 (by kernel_rfl) rfl fun E s=>?_
 conv=>cbv
 rintro w ⟨h,f31⟩;conv=>cbv
 intro j f;conv=>cbv
 cases j <;> conv=>cbv
 ·have g:=Ac f;exact absurd (by rw[h,hT];rfl) g
 have g:=Ad f;have p:A.length=1:=by rw[hA];rfl
 obtain⟨n,d⟩:=AF (l:=A) (i:=0) (by omega);refine⟨n,fun _=>⟨by omega,d⟩,?_⟩;try conv=>cbv
 refine cL s (Um (C8 hA d) v u) ⟨t4,trivial⟩ ?_;try conv=>cbv
 refine⟨[((false,[]),(false,[]))],fun _=>⟨rfl,by decide,rfl,⟨rfl,by first | exact t1 | exact t2 | exact t4 | simp[Ae,Ak,cells],trivial⟩⟩,.inl ?_⟩;try conv=>cbv
 exact fA ⟨⟨rfl,.inl ⟨_,rfl,by simp,congrArg _ (by rw[t];rfl)⟩,trivial⟩,t2,trivial⟩ rfl (by simp)
def OX (R:Nat) (u:List (List Rat)):Prop:=∀{s:Nat} {x:Re},El u s x->SS u.length R s<=60000000000000->VV u.length R R<=60000000000000->(∃w,In u w/\w*w=x/\FT u x w)\/(¬Sq u x/\∃l,FR u x l)
theorem Nq {u:List (List Rat)} {R:Nat} (h:AU R u):OX R u:=by
 induction u with
 | nil=>
  intro s x hx N v;obtain⟨q,rfl⟩:=Bb.1 hx.mem
  have ad:BF q:=by
   have:=hx.BC (by have:=OE ([]:List (List Rat)).length R s;omega);rw[Bn] at this;exact this q List.mem_cons_self
  by_cases hr:∃r:Rat,0<=r/\r*r=q
  ·obtain⟨r,M,hr⟩:=hr;refine .inl ⟨Re.ofRat r,FY r _,by rw[<-Re.ofRat_mul,hr],?_⟩;intro T A B hT hA W;exact VM hT (hA.trans (Cg q)) (W.trans (Cg r)) ad M hr
  exact .inr ⟨fun N=>hr (NZ.1 N),_,fun hT hA=>VL hT (hA.trans (Cg q)) rfl ad hr⟩
 | cons r u g=>
  have g:OX R u:=g h.tail;intro s x hx N v;obtain⟨p,q,d,D,I⟩:=El.parts h.red hx
  by_cases a6:x<0
  ·refine .inr ⟨?_,[],fun hT hA=>VQ h hT hA hx d D I N v a6⟩
   rintro⟨w,_,hw⟩
   have:=Re.Na w
   clear g;grind
  have F:0<=x:=by clear g;grind
  have ar:TQ u.length R s=3*s+4*EE u.length R+R+GG u.length R+3+II u.length R R:=rfl;have av:SS u.length R (TQ u.length R s)<=SS (r::u).length R s:=OD u.length R s;have hQ:∀s',s'<=TQ u.length R s->SS u.length R s'<=60000000000000:=fun s' h'=>Nat.le_trans (JJ u.length R h') (by omega)
  have C:VV u.length R R<=60000000000000:=Nat.le_trans (OH u.length R R) v;have al:=El.Br h;have an:=Bk h.red
  by_cases M:q=0
  ·have Y:x=p:=by rw[d,M];clear g;grind
   rcases g D (hQ _ (by omega)) C with⟨w,hw,f,Z⟩ |⟨H,l,hn⟩
   ·refine .inl ⟨w,FZ hw,by rw[Y];exact f,?_⟩;intro T A B hT hA W;exact VR h hT hA hx d D I N v F M hw Z W
   obtain⟨i,O,J⟩:=DR h.red.1 (Bg h.red) (by have:=h.red.2.2.1;grind);have ah:=al.inv h.tail O J;rcases g (D.mul h.tail ah) (hQ _ (by omega)) C with⟨w,hw,f,Z⟩ |⟨aa,l2,aj⟩
   ·refine .inl ⟨w*rt u r,Bo.2 ⟨0,w,BM u,hw,by clear g;grind⟩,?_,?_⟩
    ·have:p=p*(AI u r*i):=by rw[J];clear g;grind
     rw[Y];clear g;grind
    intro T A B hT hA W;exact VS h hT hA hx d D I N v F M O J hn hw Z W
   refine .inr ⟨?_,[],?_⟩
   ·rw[Y,Sx h.red D.mem];rintro (h1 |⟨i',au,ab,h1⟩)
    ·exact H h1
    have:i'=i:=by
     have:i'=i'*(AI u r*i):=by rw[J];clear g;grind
     have h2:i=i*(AI u r*i'):=by rw[ab];clear g;grind
     clear g;grind
    rw[this] at h1;exact aa h1
   intro T A hT hA;exact VT h hT hA hx d D I N v F M O J hn aj
  have hN:=El.norm h D.mem I.mem (d ▸ hx);rcases g hN (hQ _ (by omega)) C with⟨n,hn,G,ag⟩ |⟨H,l,ak⟩
  rotate_left
  ·exact .inr ⟨fun hS=>H (S3 h.red D.mem I.mem (d ▸ hS)),[],fun hT hA=>VN h hT hA hx d D I N v F M ak⟩
  have a5:=hN.sqrt h.tail hn G;obtain⟨t,ht⟩:∃t:Re,t=Re.ofRat (1/2):=⟨_,rfl⟩
  have P:=QX ht;have X:El u 1 t:=by rw[ht];exact El.rat h.red.1 IJ
  obtain⟨y,Z⟩:∃y:Nat->Re,y=fun i=>if i=0 then p+n else p-n:=⟨_,rfl⟩
  have Q:y 0=p+n:=by rw[Z];rfl
  have S:y 1=p-n:=by rw[Z];rfl
  have U:∀i,El u (s+(2*s+2*EE u.length R+R+1+GG u.length R)+1) (y i):=fun i=>by
   rw[Z]
   show El u _ (if i=0 then p+n else p-n)
   by_cases O:i=0
   ·rw[if_pos O];exact D.add h.red.1 a5
   rw[if_neg O];exact D.sub h.red.1 a5
  have V:∀(k0:Nat) (L:Nat->LR) (w:Re),k0<2->(∀i,i<k0->FR u (t*y i) (L i))->In u w->w*w=t*y k0->FT u (t*y k0) w->
    ∃w,In (r::u) w/\w*w=x/\FT (r::u) x w:=by
   intro k0 L w hk H hw f K
   have key:∃m,m*m=p*p-q*q*AI u r/\y k0=p+m:=by
    rcases (show k0=0\/k0=1 by omega) with rfl | rfl
    ·exact⟨n,G,Q⟩
    exact⟨-n,by rw[<-G];clear g;grind,by rw[S];clear g;grind⟩
   obtain⟨m,a1,af⟩:=key;have aq:w≠0:=Sw h.red M a1 P (by rw[f,af]);obtain⟨j,hj,ae⟩:=DR h.red.1 hw aq;have ao:In u (t*(q*j)):=Ab h.red.1 X.mem (Ab h.red.1 I.mem hj);refine⟨w+t*(q*j)*rt u r,Bo.2 ⟨_,_,hw,ao,rfl⟩,?_,?_⟩
   ·rw[d]
    exact Sv a1 P an (by rw[f,af]) (i:=t*j) (by have:(w+w)*(t*j)=2*t*(w*j):=by clear g;grind
                                                rw[this,P,ae];clear g;grind) (by clear g;grind)
   intro T A B hT hA W;exact VO h hT hA hx d D I N v F M hn G ht ag Q S U (by omega) H hk hw f K hj ae W
  rcases g (X.mul h.tail (U 0)) (hQ _ (by omega)) C with⟨w,hw,f,K⟩ |⟨a7,l0,a2⟩
  ·exact .inl (V 0 (fun _=>[]) w (by omega) (fun i O=>by omega) hw f K)
  rcases g (X.mul h.tail (U 1)) (hQ _ (by omega)) C with⟨w,hw,f,K⟩ |⟨a8,l1,ai⟩
  ·exact .inl (V 1 (fun _=>l0) w (by omega) (fun i O=>by rw[show i=0 by omega];exact a2) hw f K)
  refine .inr ⟨fun hS=>?_,[],?_⟩
  ·rcases S4 h.red D.mem I.mem (d ▸ hS) G P with e | e
   ·exact a7 (by rw[Q];exact e)
   exact a8 (by rw[S];exact e)
  intro T A hT hA
  exact VP h hT hA hx d D I N v F M hn G ht ag Q S U (L:=fun i=>if i=0 then l0 else l1) (Nat.le_refl 2) (fun i O=>by
   rcases (show i=0\/i=1 by omega) with rfl | rfl
   ·exact a2
   exact ai) rfl
end Go.Abs
