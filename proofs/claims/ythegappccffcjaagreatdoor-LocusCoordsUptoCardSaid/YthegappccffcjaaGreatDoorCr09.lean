/- Part 10 of a proof. Conditions: each theorem's own. -/
import Derived.Test.YthegappccffcjaaGreatDoorCr08
set_option linter.all false
set_option maxHeartbeats 80000000
set_option maxRecDepth 20000
open Go.Proofs
namespace Go.Abs
open Go.RowKit
section
variable {R a i k m q:Nat} {b b1 b2 c:Bool} {l l1 l2 o z:List UInt32} {x y:Int}
theorem bI {x:Nat} (h:x=2^(m+1)*k):x ||| 2^m=x+2^m:=by
 rw[h,Nat.or_comm,Mo (Nat.pow_lt_pow_right AF (Nat.lt_succ_self m)),Nat.add_comm]
theorem ff {x:UInt32} (f:o[q]? =some x) (hm:m<32) (d:2^(32*q+m+1)∣AJ o):∃k,x.toNat=2^(m+1)*k:=by
 have G:q<o.length:=by apply Classical.byContradiction;intro F;rw[List.getElem?_eq_none AA] at f;exact absurd f AZ
 have e1:AJ o=AJ (o.take q)+2^(32*q)*(x.toNat+4294967296*AJ (o.drop (q+1))):=by
  conv=>lhs;rw[<-List.take_append_drop q o]
  rw[Q7,List.length_take,Nat.min_eq_left AA,Eu f]
 have e2:2^(32*q)∣AJ o:=Nat.dvd_trans ⟨2^(m+1),by rw[<-Nat.pow_add];congr 1⟩ d
 have h:2^(32*q)∣AJ (o.take q):=by
  rw[e1] at e2;exact (Nat.dvd_add_iff_left ⟨_,rfl⟩).2 e2
 have j:AJ (o.take q)<2^(32*q):=by
  have:=DZ (o.take q);rwa [List.length_take,Nat.min_eq_left AA] at this
 have s:AJ (o.take q)=0:=Nat.eq_zero_of_dvd_of_lt h j;rw[e1,s,Nat.zero_add,Nat.add_assoc,Nat.pow_add] at d;have t:2^(m+1)∣x.toNat+4294967296*AJ (o.drop (q+1)):=Nat.dvd_of_mul_dvd_mul_left (Nat.two_pow_pos _) d;have D:2^(m+1)∣4294967296*AJ (o.drop (q+1)):=Nat.dvd_trans ⟨2^(31-m),by rw[<-Nat.pow_add,(AA:m+1+(31-m)=32)]⟩ ⟨_,rfl⟩;exact (Nat.dvd_add_iff_left D).2 t
theorem kY {x w:UInt32} (d:o[q]? =some x) (hm:m<32) (f:2^(32*q+m+1)∣AJ o) (hw:w.toNat=x.toNat ||| 2^m):AJ (o.set q w)=AJ o+2^(32*q+m)/\w.toNat=x.toNat+2^m:=by
 obtain⟨k,h⟩:=ff d hm f;rw[bI h] at hw;have:=Uu (w:=w) d;rw[hw,Nat.mul_add,<-Nat.pow_add] at this;exact⟨AA,hw⟩
theorem kA {n a b:Int} {p:Nat} (h:n=IntKind.u32.wrap (BitVec.ofInt IntKind.u32.bits a &&& ~~~ BitVec.ofInt IntKind.u32.bits b).toNat) (ha:a=((p+2^m:Nat):Int)) (hb:b=((2^m:Nat):Int)) (f:p=2^(m+1)*k) (hm:m<32) (H:p+2^m<4294967296):n=p:=by
 have D:=wrap_u32 h;have G:2^m<4294967296:=AA
 have e1:(BitVec.ofInt 32 a &&& ~~~ BitVec.ofInt 32 b:BitVec 32).toNat=p:=by
  have s:BitVec.ofInt 32 a=BitVec.ofNat 32 (p+2^m):=by rw[ha];exact BitVec.ofInt_natCast 32 _
  have t:BitVec.ofInt 32 b=BitVec.ofNat 32 (2^m):=by rw[hb];exact BitVec.ofInt_natCast 32 _
  rw[s,t]
  have e2:BitVec.ofNat 32 (p+2^m) &&& ~~~BitVec.ofNat 32 (2^m)=BitVec.ofNat 32 p:=by
   apply BitVec.eq_of_getLsbD_eq;intro i F;rw[BitVec.getLsbD_and,BitVec.getLsbD_not,BitVec.getLsbD_ofNat,BitVec.getLsbD_ofNat,BitVec.getLsbD_ofNat,<-bI f,Nat.testBit_or,Nat.testBit_two_pow]
   have j:p.testBit m=false:=by
    rw[f,Nat.testBit_two_pow_mul];simp;intro h;omega
   by_cases e:m=i
   ·subst e;simp[j,hm]
   simp[e,F]
  rw[e2,BitVec.toNat_ofNat];exact Nat.mod_eq_of_lt (Nat.lt_of_le_of_lt (Nat.le_add_right p (2^m)) H)
 have d:n=(((BitVec.ofInt 32 a &&& ~~~ BitVec.ofInt 32 b:BitVec 32).toNat:Nat):Int)%4294967296:=D;rw[e1] at d;rw[d];exact Int.emod_eq_of_lt AA AA
theorem BR.iff {b':Bool} {l':List UInt32} (h:BR x b l) (h':BR y b' l'):x=y↔b=b'/\l=l':=
 ⟨fun e=>h.uniq h' e,fun e=>by rw[h.Fa,h'.Fa,e.1,e.2]⟩
theorem ju {u:List UInt32} {c d b:Nat} (hcu:c<=u.length) (hdu:d<=u.length) (sl:u.length<=17592186044416) (ha:AJ (u.take c)=a) (hb:AJ (u.take d)=b) (hz:z=BB (a*b)):CY Tryz.prog 296 [.one (.BK .u32 0 0 0 c),.one (.BK .u32 0 0 0 d)] (.arr 0 .u32 u) (.one (.sl .u32 z)):=by
 obtain⟨l,hl⟩:=xU (u.take c);have hll:l.length=c:=by rw[hl,List.length_take];omega
 have hgx:∀i,i<c->l[i]? =u[i]? :=fun i h=>by rw[hl,List.getElem?_take,if_pos h]
 rw[<-hl] at ha;obtain⟨m,hm⟩:=xU (u.take d);have hmm:m.length=d:=by rw[hm,List.length_take];omega
 have hgy:∀i,i<d->m[i]? =u[i]? :=fun i h=>by rw[hm,List.getElem?_take,if_pos h]
 rw[<-hm] at hb;refine C5 Tryz.func296 fun E hE=>?_
 conv=>cbv
 intro n10 h10;have e10:=h10.eq;conv=>cbv
 intro n12 h12;have e12:=h12.eq;refine AP ?_;intro n13 h13;refine⟨fun _=>⟨AA,AA,by show _*4<=140737488355328;omega⟩,?_⟩;intro k14 (l14:List UInt32) ql14;have hk14:=ql14.1;have hl14:l14=List.replicate k14 (0:el .u32):=ql14.2;have gl14:l14.length=k14:=by rw[hl14,List.length_replicate]
 conv=>cbv
 refine Bc [] [0,1,5,6] [0,14] (fun vs bl k=>∃(o:List UInt32) (n i':Nat) (i:Int),vs=[.one (.BK .u32 0 0 0 c),.one (.BK .u32 0 0 0 d),.one (.BK .u32 14 0 0 n),AD i]/\bl=[.arr 0 .u32 u,.arr 0 .u32 o]/\(o.length=l.length+m.length/\n=o.length/\Ah i i'/\i'<=l.length)/\AJ (o.take (i'+m.length))=AJ (l.take i')*AJ m/\k=l.length-i') (l.length-0) ⟨l14,k14,0,0,rfl,rfl,⟨by rw[hl14,List.length_replicate];omega,by rw[hl14,List.length_replicate],BJ 0,AA⟩,by rw[hl14,List.take_replicate,Jj];simp[AJ],rfl⟩ ?_;rintro J0 hJ0 vs bl kk0 ⟨o,n,i',i,rfl,rfl,⟨ho,hn,hi,hiL⟩,hinv,hk0⟩;conv=>cbv
 have ei:=hi.eq;intro n17 h17;have e17:=h17.eq;conv=>cbv
 refine Bt (fun k18=>?_) fun k18=>?_
 ·have hnl66:n<=(o).length:=AA
  obtain⟨m66,hm66⟩:=xN ((DB ((o).take n)).length);obtain⟨hle66,htk66⟩:=Fv hnl66 hm66;refine .inr (.inr (.inl ⟨[],.one (.BK .u32 0 0 0 m66),.arr 0 .u32 o,fun _=>⟨by first | decide | simp[DR,DQ],trivial⟩,fun _=>⟨FN hE (Hw hnl66 AA hm66),rfl,rfl⟩,?_⟩));try conv=>cbv
  have hfin:AJ (o.take n)=a*b:=by rw[(AA:i'=l.length),List.take_length,ha,hb,<-ho,List.take_length] at hinv;rw[hn,List.take_length,hinv]
  refine fun _=>⟨⟨⟨⟨rfl,.inl ⟨_,rfl,AA,congrArg _ (by rw[List.drop_zero,htk66,hfin,hz])⟩,trivial⟩,trivial⟩,rfl,AZ⟩,rfl⟩
 refine .inr ?_;refine Bc [] [0,1,5,6,7,8] [0,14] (fun vs bl k=>∃(o1:List UInt32) (n1 c' k':Nat) (cc i1:Int),vs=[.one (.BK .u32 0 0 0 c),.one (.BK .u32 0 0 0 d),.one (.BK .u32 14 0 0 n1),AD i,.one (.int .u64 cc),AD i1]/\bl=[.arr 0 .u32 u,.arr 0 .u32 o1]/\(o1.length=l.length+m.length/\n1=o1.length/\Ah i1 k'/\k'<=m.length/\Ah cc c'/\c'<4294967296)/\AJ (o1.take (i'+m.length))+2^(32*(i'+k'))*c'=AJ (l.take i')*AJ m+(l.getD i' 0).toNat*2^(32*i')*AJ (m.take k')/\k=m.length-k') (m.length-0) ⟨o,n,0,0,0,0,rfl,rfl,⟨ho,hn,BJ 0,AA,BJ 0,AA⟩,by rw[hinv];simp[AJ],rfl⟩ ?_;rintro J1 hJ1 vs bl kk1 ⟨o1,n1,c',k',cc,i1,rfl,rfl,⟨ho1,hn1,hi1,hiL1,hc,hc1⟩,hinv1,hk1⟩;conv=>cbv
 have ei1:=hi1.eq;have ec:=hc.eq;intro n23 h23;have e23:=h23.eq;conv=>cbv
 refine Bt (fun k24=>?_) fun k24=>?_
 ·intro n60 h60;have e60:=h60.eq;refine AP ?_;intro n61 h61 n63 h63;have h63:=wrap_u32 h63;refine AP ?_;intro j64 hj64;obtain⟨w64,hw64⟩:=DF (n:=n63) AA;have ew64:=hw64.eq;have fw64:=hw64.lt;refine⟨w64,fun _=>⟨by show _<List.length (α:=UInt32) o1;(first | omega | (simp;omega)),DE hw64⟩,?_⟩;intro (l64:List UInt32) (hl64:l64=List.set (α:=UInt32) o1 j64 w64);have gl64:l64.length=o1.length:=by rw[hl64,List.length_set]
  refine AP ?_;intro n20 h20;refine⟨l.length-(i'+1),?_,?_⟩
  ·omega
  rw[hJ0];refine⟨l64,n1,i'+1,n20,rfl,rfl,⟨by rw[hl64,List.length_set];exact ho1,by rw[hl64,List.length_set];exact hn1,⟨AA⟩,AA⟩,?_,rfl⟩;obtain⟨ai,hai⟩:=Cq (l:=l) (i:=i') AA;have hk:k'=m.length:=AA
  have hlen:i'+m.length<o1.length:=AA
  rw[hl64,(AA:i'+1+m.length=i'+m.length+1),(AA:j64=i'+m.length),GQ hlen,FW,List.length_take,Nat.min_eq_left AA,(AA:w64.toNat=c')];rw[hk,MW hai] at hinv1;rw[hinv1,List.take_length,DS hai]
  grind
 refine .inr ?_;refine AP ?_;intro n31 h31 j32 hj32;obtain⟨x33,hx33⟩:=Cq (l:=o1) (i:=j32) AA;refine⟨x33,fun _=>hx33,?_⟩;refine Ak ?_;intro n33 h33 n34 h34;have e33:=h33.eq;have f33:=h33.lt;have h34:=wrap_u64 h34;intro n35 h35;conv=>cbv
 have h35:=wrap_u64 h35;refine AP ?_;intro j38 hj38;obtain⟨x39,hx39⟩:=Cq (l:=u) (i:=j38) AA;refine⟨x39,fun _=>hx39,?_⟩;refine Ak ?_;intro n39 h39 n40 h40;have e39:=h39.eq;have f39:=h39.lt;have h40:=wrap_u64 h40;refine AP ?_;intro j43 hj43;obtain⟨x44,hx44⟩:=Cq (l:=u) (i:=j43) AA;refine⟨x44,fun _=>hx44,?_⟩;refine Ak ?_;intro n44 h44 n45 h45;have e44:=h44.eq;have f44:=h44.lt;have h45:=wrap_u64 h45;have ep:n40*n45=((x39.toNat*x44.toNat:Nat):Int):=by rw[Int.natCast_mul];congr 1 <;> omega
 have bp:x39.toNat*x44.toNat<=4294967295*4294967295:=Nat.mul_le_mul AA AA;intro n46 h46;conv=>cbv
 have h46:=wrap_u64 h46;intro n47 h47;conv=>cbv
 have h47:=wrap_u64 h47;refine AP ?_;intro Eh h51 DY h53;have h53:=wrap_u32 h53;refine AP ?_;intro j54 hj54;obtain⟨w54,hw54⟩:=DF (n:=DY) AA;have ew54:=hw54.eq;have fw54:=hw54.lt;refine⟨w54,fun _=>⟨by show _<List.length (α:=UInt32) o1;(first | omega | (simp;omega)),DE hw54⟩,?_⟩;intro (l54:List UInt32) (hl54:l54=List.set (α:=UInt32) o1 j54 w54);have gl54:l54.length=o1.length:=by rw[hl54,List.length_set]
 refine AP ?_;intro n56 h56;have h56:=Fb (p:=4294967296) h56 rfl;refine AP ?_;intro n26 h26;refine⟨m.length-(k'+1),?_,?_⟩
 ·omega
 rw[hJ1];have hx38:l[i']? =some x39:=by rw[hgx _ AA,(AA:i'=j38)];exact hx39
 have hx43:m[k']? =some x44:=by rw[hgy _ AA,(AA:k'=j43)];exact hx44
 refine⟨l54,n1,n56.toNat,k'+1,n56,n26,rfl,rfl,⟨by rw[hl54,List.length_set];exact ho1,by rw[hl54,List.length_set];exact hn1,⟨AA⟩,AA,⟨AA⟩,AA⟩,?_,rfl⟩;have hj:j54=i'+k':=AA
 have hj2:j32=i'+k':=AA
 rw[hj2] at hx33;rw[MW hx38] at hinv1;rw[hl54,hj,DS hx43,(AA:i'+(k'+1)=i'+k'+1),MW hx38];refine WH (q:=x33) (xi:=x39.toNat) (yk:=x44.toNat) (old:=x33.toNat) (c:=c') rfl AA hx33 rfl hinv1 ?_ rfl;rw[ep] at h46;omega
theorem lE (h:CR ((R*R:Nat):Int) a<=0):R*R<=a:=by
 unfold CR at h
 split at h
 ·omega
 split at h
 ·omega
 omega
theorem lD (h:CR ((R*R:Nat):Int) a>0):a<R*R:=by
 unfold CR at h
 split at h
 ·omega
 split at h
 ·omega
 omega
theorem sb {α:Type} {l:List α} {x:α} (h:l[i]? =some x):l.set i x=l:=by
 apply List.ext_getElem?;intro k
 by_cases e:i=k
 ·subst e;rw[h,List.getElem?_set_self];apply Classical.byContradiction;intro d;rw[List.getElem?_eq_none AA] at h;exact absurd h AZ
 rw[List.getElem?_set_ne e]
theorem PQ (hx:BR x b l) (h0:0<=x) (hz:BR ((CO x.toNat:Nat):Int) c z) (sl:l.length<=17592186043000):CF 342 [.agg (B8 b l)] (AS (B8 c z) 0):=by
 obtain⟨a,ha⟩:=xN x.toNat;obtain⟨N,hN⟩:=xN ((EC a+1)/2);have aj:x.natAbs=a:=AA
 have aS:l=BB a:=by rw[<-aj];exact hx.B9
 rw[<-ha] at hz
 have aO:a<2^N*2^N:=by
  rw[<-Nat.pow_add]
  by_cases h:a=0
  ·rw[h];exact Nat.two_pow_pos _
  exact Nat.lt_of_lt_of_le (Q8 (by omega:0<a)).2.1 (Nat.pow_le_pow_right AF AA)
 have bH:N<=300000000000000:=by
  have h1:EC a<=32*l.length:=by
   by_cases h:a=0
   ·rw[h];exact Nat.zero_le _
   have h2:=(Q8 (by omega:0<a)).1;have h3:a<2^(32*l.length):=by have:=DZ l;rw[hx.nat,aj] at this;exact this
   have h4:=(Nat.pow_lt_pow_iff_right (a:=2) AF).1 (Nat.lt_of_le_of_lt h2 h3);omega
  omega
 refine AN Tryz.func342 fun E hE=>?_
 refine AB hE (JL hx) ?_;cases b <;> conv=>cbv
 ·obtain⟨b5,a8⟩:∃n:Int,Ah n (EC a):=⟨_,⟨rfl⟩⟩
  have b7:=a8.eq;refine AB (r:= .one (.int .i64 b5)) hE (iL hx (by rw[aj];exact a8) sl) ?_;intro bL bu bM bw bN bx bO bz;refine⟨fun _=>⟨AA,AA,by show _*4<=140737488355328;omega⟩,?_⟩;intro ak (al:List UInt32) ad;have bp:=ad.1;have f:al=List.replicate ak (0:el .u32):=ad.2;have bc:al.length=ak:=by rw[f,List.length_replicate]
  refine AP ?_;intro aX bA;refine Bc [] [1,2,3,5,6] [1,2,19] (fun vs bl k=>∃(o:List UInt32) (m j:Nat) (i:Int),vs=[.one (.BX 1 0 0),.one (.BX 2 0 0),AD 0,.one (.BK .u32 19 0 0 m),AD i]/\bl=[.var 0 [.bool false,.sl .u32 l],.var 0 [.bool false,.nil],.arr 0 .u32 o]/\(o.length=N/32+1/\m=o.length/\Ah (i+1) j/\j<=N)/\(2^j∣AJ o/\AJ o*AJ o<=a/\a<(AJ o+2^j)*(AJ o+2^j))/\k=j) N ⟨al,ak,N,aX,rfl,rfl,⟨by rw[f,List.length_replicate];omega,by rw[f,List.length_replicate],⟨AA⟩,Nat.le_refl _⟩,⟨by rw[f,Jj];exact Nat.dvd_zero _,by rw[f,Jj];omega,by rw[f,Jj,Nat.zero_add];exact aO⟩,rfl⟩ ?_;rintro J0 ay vs bl bK ⟨o,m,j,i,rfl,rfl,⟨ho,hm,hi,bI⟩,⟨hd,aA,ae⟩,bJ⟩;conv=>cbv
  have ei:=hi.eq;refine J3 (fun aW=>?_) fun aW=>?_
  ·have aQ:j=0:=AA
   rw[aQ] at ae;have aV:=Zq aA ae
   have aB:((CO a:Nat):Int)=if false=true then -(AJ (o.take m):Int) else AJ (o.take m):=by
    rw[if_neg AF,hm,List.take_length,aV]
   obtain⟨aH,aI,Q⟩:=BQ (((CO a:Nat):Int));refine .inr (.inr (.inr (.inl ⟨19,.arr 0 .u32 o,[.one (.bool false),.one (.sl .u32 ((o).take m))],.agg [.bool aH,.sl .u32 aI],fun _=>⟨⟨AF,rfl,by first | rfl | decide | simp[DR,DQ]⟩,⟨rfl,⟨_,rfl,by simp <;> omega,AZ⟩,trivial⟩⟩,fun _=>⟨GX hE (IH (n:=false) aB Q),rfl⟩,?_⟩)));try conv=>cbv
   exact AM ⟨⟨rfl,congrArg _ ((Q.uniq hz rfl).1.symm),congrArg _ ((Q.uniq hz rfl).2.symm),trivial⟩,t2,trivial⟩
  refine .inr ?_;refine AP ?_;intro bP bB bQ bC;obtain⟨i',aP⟩:∃i',j=i'+1:=⟨j-1,AA⟩
  subst aP;refine AP ?_;intro Z bk;obtain⟨t,H⟩:=Cq (l:=o) (i:=Z) AA;refine⟨t,fun _=>H,?_⟩;refine AP ?_;intro bR av bS bD aY aK;have bt:=av.eq;have f33:=av.lt
  obtain⟨bg,a7⟩:aY=((2^(i'%32):Nat):Int)/\2^(i'%32)<4294967296:=by
   have hb:2^(i'%32)<4294967296:=Nat.lt_of_le_of_lt (Nat.pow_le_pow_right AF (by omega:i'%32<=31)) AF;have:=Vx (p:=1) (e:=i'%32) aK rfl AA;rw[this,Nat.one_mul];exact⟨congrArg _ (Nat.mod_eq_of_lt hb),hb⟩
  intro aZ aL;conv=>cbv
  have bh:=RG (p:=t.toNat) (q:=2^(i'%32)) aL AA AA AA a7;have br:t.toNat ||| 2^(i'%32)<4294967296:=Nat.or_lt_two_pow (n:=32) t.toNat_lt a7
  refine AP ?_;intro U bm;obtain⟨W,O⟩:=DF (n:=aZ) AA;have b8:=O.eq;have ba:=O.lt;refine⟨W,fun _=>⟨by show _<List.length (α:=UInt32) o;(first | omega | (simp;omega)),DE O⟩,?_⟩;intro (d:List UInt32) (G:d=List.set (α:=UInt32) o U W);have bd:d.length=o.length:=by rw[G,List.length_set]
  conv=>cbv
  refine g2 rfl ?_;have ai:W.toNat=t.toNat ||| 2^(i'%32):=AA
  have af:2^(32*(i'/32)+i'%32)=2^i':=by congr 1;omega
  have s:=kY (o:=o) (q:=i'/32) (m:=i'%32) (x:=t) (w:=W) (by rw[(AA:i'/32=Z)];exact H) AA (by rw[(AA:32*(i'/32)+i'%32+1=i'+1)];exact hd) ai;rw[(AA:i'/32=U),<-G,(AA:U=i'/32)] at s;have I:m<=(d).length:=AA
  obtain⟨an,a5⟩:=xN ((DB ((d).take m)).length);obtain⟨aT,ag⟩:=Fv I a5;refine .inr (.inr (.inl ⟨[],.one (.BK .u32 0 0 0 an),.arr 0 .u32 d,fun _=>⟨by first | decide | simp[DR,DQ],trivial⟩,fun _=>⟨FN hE (Hw I AA a5),rfl,rfl⟩,?_⟩));try conv=>cbv
  have J:m<=(d).length:=AA
  obtain⟨ao,a6⟩:=xN ((DB ((d).take m)).length);obtain⟨aU,ah⟩:=Fv J a6;refine .inr (.inr (.inl ⟨[],.one (.BK .u32 0 0 0 ao),.arr 0 .u32 d,fun _=>⟨by first | decide | simp[DR,DQ],trivial⟩,fun _=>⟨FN hE (Hw J AA a6),rfl,rfl⟩,?_⟩));try conv=>cbv
  obtain⟨R,hR⟩:=xN (AJ d);obtain⟨b6,aa⟩:=xU (BB (R*R));have az:AJ d*AJ d=R*R:=by rw[hR]
  have aC:AJ (d.take an)=R:=by rw[ag,Bn,hR];congr 1;exact List.take_of_length_le AA
  have aD:AJ (d.take ao)=R:=by rw[ah,Bn,hR];congr 1;exact List.take_of_length_le AA
  refine .inr (.inr (.inr (.inl ⟨19,.arr 0 .u32 d,[.one (.BK .u32 0 0 0 an),.one (.BK .u32 0 0 0 ao)],.one (.sl .u32 b6),AQ,fun _=>Hq hE (ju AA AA AA aC aD aa),?_⟩)));try conv=>cbv
  obtain⟨bW,M⟩:=xI (CR ((R*R:Nat):Int) a);refine AB hE (Na aa aS M) ?_;intro b0 aw;refine .inr ?_;cases b0 <;> conv=>cbv
  ·have V:=HC aw;refine AP ?_;intro aq aJ;refine⟨i',?_,?_⟩
   ·omega
   rw[ay];have D:2^i'∣AJ o:=Nat.dvd_trans ⟨2,by rw[Nat.pow_succ]⟩ hd;refine⟨d,m,i',aq,rfl,rfl,⟨AA,AA,⟨AA⟩,AA⟩,⟨?_,?_,?_⟩,rfl⟩
   ·rw[s.1];exact Nat.dvd_add D (by rw[af];exact Nat.dvd_refl _)
   ·rw[az];rw[M] at V;have:=lE V;exact this
   rw[s.1,af];rw[Nat.pow_succ] at ae;rwa [(AA:AJ o+2^i'+2^i'=AJ o+2^i'*2)]
  have V:=HD aw;refine AP ?_;intro bT bE DY bF aE bn;obtain⟨aG,ab⟩:=Cq (l:=d) (i:=aE) AA;refine⟨aG,fun _=>ab,?_⟩;refine AP ?_;intro bU ax bV bG b3 aM;have au:=ax.eq;have f55:=ax.lt
  obtain⟨bj,bs⟩:b3=((2^(i'%32):Nat):Int)/\2^(i'%32)<4294967296:=by
   have hb:2^(i'%32)<4294967296:=Nat.lt_of_le_of_lt (Nat.pow_le_pow_right AF (by omega:i'%32<=31)) AF;have:=Vx (p:=1) (e:=i'%32) aM rfl AA;rw[this,Nat.one_mul];exact⟨congrArg _ (Nat.mod_eq_of_lt hb),hb⟩
  intro b4 aN;conv=>cbv
  obtain⟨kk,aR⟩:=ff (o:=o) (q:=i'/32) (m:=i'%32) (x:=t) (by rw[(AA:i'/32=Z)];exact H) AA (by rw[(AA:32*(i'/32)+i'%32+1=i'+1)];exact hd)
  have au:aG=W:=by
   have:=ab;rw[G,(AA:aE=i'/32),(AA:U=i'/32),List.getElem?_set_self AA] at this;exact (Option.some.inj this).symm
  have bq:=kA (p:=t.toNat) (m:=i'%32) aN (by rw[<-s.2,<-au];omega) AA aR AA (by rw[<-s.2];omega);refine AP ?_;intro aF bo;obtain⟨ar,P⟩:=DF (n:=b4) AA;have b9:=P.eq;have bb:=P.lt;refine⟨ar,fun _=>⟨by show _<List.length (α:=UInt32) d;(first | omega | (simp;omega)),DE P⟩,?_⟩;intro (a1:List UInt32) (a2:a1=List.set (α:=UInt32) d aF ar);have bf:a1.length=d.length:=by rw[a2,List.length_set]
  refine AP ?_;intro aq aJ;refine⟨i',?_,?_⟩
  ·omega
  rw[ay];have D:2^i'∣AJ o:=Nat.dvd_trans ⟨2,by rw[Nat.pow_succ]⟩ hd
  have F:a1=o:=by
   have e1:ar=t:=UInt32.toNat_inj.1 AA;rw[a2,G,(AA:aF=i'/32),(AA:U=i'/32),List.set_set,e1];exact sb (by rw[(AA:i'/32=Z)];exact H)
  refine⟨a1,m,i',aq,rfl,rfl,⟨by rw[F];exact ho,by rw[F];exact hm,⟨AA⟩,AA⟩,?_,rfl⟩;rw[F];refine⟨D,aA,?_⟩;rw[M] at V;have:=lD V;rw[<-az,s.1,af] at this;exact this
 exact absurd hx.neg (by simp;omega)
theorem td {α:Type} {X Y:List α} {x y:α} (d:X[i]? =some x) (f:Y[i]? =some y) (h:X.take i=Y.take i) (e:x=y):X.take (i+1)=Y.take (i+1):=by
 rw[List.take_add_one,List.take_add_one,d,f,h,e]
theorem PT (M:BR x b1 l1) (N:BR y b2 l2) (J:c=decide (x=y)):CF 343 [.agg (B8 b1 l1),.agg (B8 b2 l2)] (.one (.bool c)):=by
 refine AN Tryz.func343 fun E hE=>?_
 intro Z t;cases Z <;> conv=>cbv
 ·have h:=MA t;refine Ak ?_;rintro ae ⟨O,f14⟩ af ⟨a5,f17⟩;refine E2 (fun U=>?_) fun U=>?_
  ·exact AO (by rw[J];exact (decide_eq_false (fun e=>by have s:=((M.iff N).1 e).2;rw[s] at O;omega)))
  refine Bc [] [2,3,4,5] [2,3] (fun vs bl k=>∃(k':Nat) (j:Int),vs=[.one (.BX 2 0 0),.one (.BX 3 0 0),.one (.bool false),AD j]/\bl=[.var 0 [.bool b1,.sl .u32 l1],.var 0 [.bool b2,.sl .u32 l2]]/\(Ah j k'/\k'<=l1.length/\l1.length=l2.length/\b1=b2)/\l1.take k'=l2.take k'/\k=l1.length-k') (l1.length-0) ⟨0,0,rfl,rfl,⟨BJ 0,AA,AA,h⟩,rfl,rfl⟩ ?_;rintro J0 Q vs bl ad ⟨k',j,rfl,rfl,⟨hj,aa,I,H⟩,hinv,ab⟩;have ej:=hj.eq;refine Ak ?_;rintro ag ⟨a6,f23⟩;refine Bt (fun V=>?_) fun V=>?_
  ·exact AO (by rw[J];exact (decide_eq_true ((M.iff N).2 ⟨H,by have s:=hinv;rw[(AA:k'=l1.length),List.take_length,I,List.take_length] at s;exact s⟩)))
  refine .inr ?_;refine BH k' fun aj d=>?_
  refine Ak ?_;intro ah D;have a7:=D.eq;have f31:=D.lt;refine BH k' fun ak f=>?_
  refine AP ?_;intro ai F a2 G;have P:=F.eq;have f36:=F.lt;cases a2 <;> conv=>cbv
  ·have W:=HK G;refine AP ?_;intro a1 a8;exact Bz Q ⟨k'+1,a1,rfl,rfl,⟨⟨AA⟩,AA,I,H⟩,td d f hinv (UInt32.toNat_inj.1 AA),rfl⟩
  have W:=HM G;exact AO (by rw[J];exact (decide_eq_false (fun e=>by have s:=((M.iff N).1 e).2;have h2:=d;rw[s,f] at h2;have h3:=Option.some.inj h2;rw[h3] at P;omega)))
 have h:=MB t;exact AO (by rw[J];exact (decide_eq_false (fun e=>h ((M.iff N).1 e).1)))
theorem ir {q r:Rat} {c1 c2:Bool} {m1 m2:List UInt32} (h:Bw q b1 l1 b2 l2) (hs:Cw q) (J:0<=r) (O:r*r=q) (G:Bw r c1 m1 c2 m2):CF 313 [.agg (CT b1 l1 b2 l2)] (.BN [(true,(CT c1 m1 c2 m2)),(false,[.bool true])]):=by
 have D:=eY J O;have F:=eX J O;have I:0<=q.num:=by rw[<-D.2,<-D.1];exact Int.mul_nonneg AA AA
 have H:(0:Int)<=(q.den:Int):=AA
 have a5:=h.small hs;obtain⟨P,W,d⟩:=BQ (((CO q.num.toNat:Nat):Int));obtain⟨Q,Z,f⟩:=BQ (((CO (q.den:Int).toNat:Nat):Int));have M:=Ma h.num d;have N:=Ma h.den f;refine AN Tryz.func313 fun E t=>?_
 cases b1 <;> conv=>cbv
 ·refine AB t (PQ h.num I d AA) ?_;refine AB t (PQ h.den H f AA) ?_;obtain⟨U,a1,j⟩:=BQ (((CO q.num.toNat:Nat):Int)*((CO q.num.toNat:Nat):Int));refine AB t (Es d d j AA AA) ?_;refine AB (r:= .one (.bool true)) t (PT j h.num (by rw[D.1];exact (decide_eq_true D.2).symm)) ?_;refine AY ?_;obtain⟨V,a2,s⟩:=BQ (((CO (q.den:Int).toNat:Nat):Int)*((CO (q.den:Int).toNat:Nat):Int));refine AB t (Es f f s AA AA) ?_;refine AB (r:= .one (.bool true)) t (PT s h.den (by rw[F.1];exact (decide_eq_true F.2).symm)) ?_;refine AY ?_;exact AM ⟨⟨rfl,congrArg _ ((d.uniq G.num D.1).1.symm),congrArg _ ((d.uniq G.num D.1).2.symm),congrArg _ ((f.uniq G.den F.1).1.symm),congrArg _ ((f.uniq G.den F.1).2.symm),trivial⟩,t2,trivial⟩
 exact absurd (of_decide_eq_true h.num.neg.symm) AA
theorem iq {q:Rat} (s:Bw q b1 l1 b2 l2) (hs:Cw q) (hr:¬∃r:Rat,0<=r/\r*r=q):CF 313 [.agg (CT b1 l1 b2 l2)] (.BN [(true,[.bool false,.sl .u32 [],.bool false,.sl .u32 []]),(false,[.bool false])]):=by
 have J:(0:Int)<=(q.den:Int):=AA
 have a8:=s.small hs;obtain⟨Q,Z,d⟩:=BQ (((CO q.num.toNat:Nat):Int));obtain⟨U,a1,f⟩:=BQ (((CO (q.den:Int).toNat:Nat):Int));have O:=Ma s.num d;have P:=Ma s.den f;refine AN Tryz.func313 fun E F=>?_
 cases b1 <;> conv=>cbv
 ·have M:0<=q.num:=by have:=of_decide_eq_false s.num.neg.symm;omega
  refine AB F (PQ s.num M d AA) ?_;refine AB F (PQ s.den J f AA) ?_;obtain⟨V,a2,t⟩:=BQ (((CO q.num.toNat:Nat):Int)*((CO q.num.toNat:Nat):Int));refine AB F (Es d d t AA AA) ?_;obtain⟨a6,h⟩:=xB (decide (((CO q.num.toNat:Nat):Int)*((CO q.num.toNat:Nat):Int)=q.num));refine AB F (PT t s.num h) ?_;refine HT (fun H=>?_) fun H=>?_
  ·exact AM AQ
  obtain⟨W,a5,D⟩:=BQ (((CO (q.den:Int).toNat:Nat):Int)*((CO (q.den:Int).toNat:Nat):Int));refine AB F (Es f f D AA AA) ?_;obtain⟨a7,j⟩:=xB (decide (((CO (q.den:Int).toNat:Nat):Int)*((CO (q.den:Int).toNat:Nat):Int)=(q.den:Int)));refine AB F (PT D s.den j) ?_;intro N G;cases N <;> conv=>cbv
  ·have I:=HN G;exact absurd (eW (of_decide_eq_true (h.symm.trans (by simpa using H))) (of_decide_eq_true (j.symm.trans (by simpa using I)))) hr
  have I:=HO G;exact AM AQ
 exact AM AQ
end
section
variable {A:LR} {T:List LR} {q:Rat}
theorem jk {B:LR} {r:Rat} (N:T=[]) (G:A=[rp q]) (J:B=[rp r]) (P:Cw q) (H:0<=r) (O:r*r=q):CF 262 [BL T,AT A] (.BN [(false,[AU B]),(false,[.bool true])]):=by
 refine AN Tryz.func262 fun E M=>?_
 rintro Q ⟨F,f31⟩;refine CU (fun h=>?_) fun h=>?_
 ·exact absurd (by rw[F,N];rfl) h
 have I:A.length=1:=by rw[G];rfl
 refine BH 0 fun U f=>?_
 try conv=>cbv
 obtain⟨t,D,j,s,d⟩:=CZ r;refine AB M (ir (GO G f) P H O d) ?_;refine⟨[((t,D),(j,s))],DK,.inl ?_⟩;try conv=>cbv
 exact AM ⟨⟨rfl,.inl ⟨_,rfl,AZ,congrArg _ (by rw[J,d.rp];rfl)⟩,trivial⟩,t2,trivial⟩
theorem jj {l:LR} (D:T=[]) (j:A=[rp q]) (F:l=[(((false,[]),(false,[])):el AL)]) (H:Cw q) (G:¬∃r:Rat,0<=r/\r*r=q):CF 262 [BL T,AT A] (.BN [(false,[AU l]),(false,[.bool false])]):=by
 refine AN Tryz.func262 fun E t=>?_
 rintro I ⟨h,f31⟩;refine CU (fun f=>?_) fun f=>?_
 ·exact absurd (by rw[h,D];rfl) f
 have s:A.length=1:=by rw[j];rfl
 refine BH 0 fun J d=>?_
 try conv=>cbv
 refine AB t (iq (GO j d) H G) ?_;refine⟨[((false,[]),(false,[]))],DK,.inl ?_⟩;try conv=>cbv
 exact AM ⟨⟨rfl,.inl ⟨_,rfl,AZ,congrArg _ (by rw[F];rfl)⟩,trivial⟩,t2,trivial⟩
def XL (R:Nat) (u:AH):Prop:=∀{s:Nat} {x:Re},El u s x->SS u.length R s<=60000000000000->VV u.length R R<=60000000000000->(∃w,In u w/\w*w=x/\JN u x w)\/(¬Sq u x/\∃l,JM u x l)
theorem WW {u:AH} {R:Nat} (h:BZ R u):XL R u:=by
 induction u with
 | nil=>
  intro s x O Z F;obtain⟨q,rfl⟩:=DV.1 O.mem
  have ak:Cw q:=by
   have:=O.C4 (by have:=W6 ([]:AH).length R s;omega);rw[Ed] at this;exact this q List.mem_cons_self
  by_cases hr:∃r:Rat,0<=r/\r*r=q
  ·obtain⟨r,W,hr⟩:=hr;refine .inl ⟨Re.ofRat r,IV r _,by rw[<-Re.ofRat_mul,hr],?_⟩;intro T A B H G hB;exact jk H (G.trans (FD q)) (hB.trans (FD r)) ak W hr
  exact .inr ⟨fun Z=>hr (eQ.1 Z),_,fun H G=>jj H (G.trans (FD q)) rfl ak hr⟩
 | cons r u D=>
  have D:XL R u:=D h.tail;intro s x O Z F;obtain⟨p,q,d,J,Q⟩:=El.parts h.red O
  by_cases af:x<0
  ·refine .inr ⟨?_,[],fun H G=>jo h H G O d J Q Z F af⟩
   rintro⟨w,_,hw⟩
   have:=Re.Hm w
   clear D;grind
  have M:0<=x:=by clear D;grind
  have aA:TQ u.length R s=3*s+4*EE u.length R+R+GG u.length R+3+II u.length R R:=rfl;have aC:SS u.length R (TQ u.length R s)<=SS (r::u).length R s:=W5 u.length R s;have hQ:∀s',s'<=TQ u.length R s->SS u.length R s'<=60000000000000:=fun s' h'=>Nat.le_trans (PI u.length R h') AA
  have I:VV u.length R R<=60000000000000:=Nat.le_trans (W9 u.length R R) F;have aw:=El.Da h;have ax:=DW h.red
  by_cases W:q=0
  ·have aa:x=p:=by rw[d,W];clear D;grind
   rcases D J (hQ _ AA) I with⟨w,hw,f,hy⟩ |⟨P,l,hn⟩
   ·refine .inl ⟨w,GN hw,by rw[aa];exact f,?_⟩;intro T A B H G hB;exact jq h H G O d J Q Z F M W hw hy hB
   obtain⟨i,hi,U⟩:=Ey h.red.1 (Ch h.red) (by have:=h.red.2.2.1;grind);have aq:=aw.inv h.tail hi U;rcases D (J.mul h.tail aq) (hQ _ AA) I with⟨w,hw,f,hy⟩ |⟨ai,l2,au⟩
   ·refine .inl ⟨w*rt u r,DJ.2 ⟨0,w,Cs u,hw,by clear D;grind⟩,?_,?_⟩
    ·have:p=p*(AW u r*i):=by rw[U];clear D;grind
     rw[aa];clear D;grind
    intro T A B H G hB;exact js h H G O d J Q Z F M W hi U hn hw hy hB
   refine .inr ⟨?_,[],?_⟩
   ·rw[aa,eO h.red J.mem];rintro (h1 |⟨i',aB,aj,h1⟩)
    ·exact P h1
    have:i'=i:=by
     have:i'=i'*(AW u r*i):=by rw[U];clear D;grind
     have h2:i=i*(AW u r*i'):=by rw[aj];clear D;grind
     clear D;grind
    rw[this] at h1;exact ai h1
   intro T A H G;exact jt h H G O d J Q Z F M W hi U hn au
  have hN:=El.norm h J.mem Q.mem (d ▸ O);rcases D hN (hQ _ AA) I with⟨n,hn,N,ao⟩ |⟨P,l,av⟩
  rotate_left
  ·exact .inr ⟨fun hS=>P (eS h.red J.mem Q.mem (d ▸ hS)),[],fun H G=>jl h H G O d J Q Z F M W av⟩
  have ae:=hN.sqrt h.tail hn N;obtain⟨t,ht⟩:∃t:Re,t=Re.ofRat (1/2):=⟨_,rfl⟩
  have a1:=ZY ht;have a8:El u 1 t:=by rw[ht];exact El.rat h.red.1 Ni
  obtain⟨y,hy⟩:∃y:Nat->Re,y=fun i=>if i=0 then p+n else p-n:=⟨_,rfl⟩
  have a2:y 0=p+n:=by rw[hy];rfl
  have a5:y 1=p-n:=by rw[hy];rfl
  have a6:∀i,El u (s+(2*s+2*EE u.length R+R+1+GG u.length R)+1) (y i):=fun i=>by
   rw[hy]
   show El u _ (if i=0 then p+n else p-n)
   by_cases hi:i=0
   ·rw[if_pos hi];exact J.add h.red.1 ae
   rw[if_neg hi];exact J.sub h.red.1 ae
  have a7:∀(k0:Nat) (L:Nat->LR) (w:Re),k0<2->(∀i,i<k0->JM u (t*y i) (L i))->In u w->w*w=t*y k0->JN u (t*y k0) w->
    ∃w,In (r::u) w/\w*w=x/\JN (r::u) x w:=by
   intro k0 L w hk P hw f V
   have key:∃m,m*m=p*p-q*q*AW u r/\y k0=p+m:=by
    rcases (AA:k0=0\/k0=1) with rfl | rfl
    ·exact⟨n,N,a2⟩
    exact⟨-n,by rw[<-N];clear D;grind,by rw[a5];clear D;grind⟩
   obtain⟨m,ab,an⟩:=key;have az:w≠0:=eN h.red W ab a1 (by rw[f,an]);obtain⟨j,hj,al⟩:=Ey h.red.1 hw az;have ay:In u (t*(q*j)):=BO h.red.1 a8.mem (BO h.red.1 Q.mem hj);refine⟨w+t*(q*j)*rt u r,DJ.2 ⟨_,_,hw,ay,rfl⟩,?_,?_⟩
   ·rw[d]
    exact eK ab a1 ax (by rw[f,an]) (i:=t*j) (by have:(w+w)*(t*j)=2*t*(w*j):=by clear D;grind
                                                 rw[this,a1,al];clear D;grind) (by clear D;grind)
   intro T A B H G hB;exact jm h H G O d J Q Z F M W hn N ht ao a2 a5 a6 AA P hk hw f V hj al hB
  rcases D (a8.mul h.tail (a6 0)) (hQ _ AA) I with⟨w,hw,f,V⟩ |⟨ag,l0,ad⟩
  ·exact .inl (a7 0 (fun _=>[]) w AA (fun i hi=>AA) hw f V)
  rcases D (a8.mul h.tail (a6 1)) (hQ _ AA) I with⟨w,hw,f,V⟩ |⟨ah,l1,ar⟩
  ·exact .inl (a7 1 (fun _=>l0) w AA (fun i hi=>by rw[(AA:i=0)];exact ad) hw f V)
  refine .inr ⟨fun hS=>?_,[],?_⟩
  ·rcases eT h.red J.mem Q.mem (d ▸ hS) N a1 with e | e
   ·exact ag (by rw[a2];exact e)
   exact ah (by rw[a5];exact e)
  intro T A H G
  exact jn h H G O d J Q Z F M W hn N ht ao a2 a5 a6 (L:=fun i=>if i=0 then l0 else l1) (Nat.le_refl 2) (fun i hi=>by
   rcases (AA:i=0\/i=1) with rfl | rfl
   ·exact ad
   exact ar) rfl
end
section
variable {A:LR} {R:Nat} {T X Y:List LR} {b1 b2 c:Bool} {g:FuncId} {l1 l2:List UInt32} {u w:AH} {x:Re} {xs ys:List Rat}
theorem TL (p q:Rat):decide (p=q)=(Hy p q==0):=by
 rw[Bool.eq_iff_iff,decide_eq_true_eq,beq_iff_eq];unfold Hy
 split
 ·rename_i h;exact⟨fun e=>by subst e;grind,fun e=>AA⟩
 split
 ·rename_i h;exact⟨fun e=>by subst e;grind,fun e=>AA⟩
 exact⟨fun _=>rfl,fun _=>by grind⟩
theorem Vs {p q:Rat} (h:rp p=rp q):p=q:=by
 have d:=H2 p;rw[h] at d;have f:=H2 q;have e1:=d.num.nat;have e2:=f.num.nat;have s1:=d.num.Fa;have s2:=f.num.Fa;have d1:=d.den.Fa;have d2:=f.den.Fa;exact Rat.ext (s1.trans s2.symm) (by have:=d1.trans d2.symm;omega)
theorem cS (h:Ba xs=Ba ys):xs=ys:=List.map_inj_right (fun _ _=>Vs) |>.1 h
def GS {α:Type} (p:α->α->Bool):List α->List α->Bool
 | [],[]=>true
 | x::X,y::Y=>p x y&&GS p X Y
 | _,_=>false
theorem UB {α:Type} {p:α->α->Bool}:∀{X Y:List α},X.length≠Y.length->GS p X Y=false
 | [],[],h=>absurd rfl h
 |[],_::_,_|_::_,[],_=>rfl
 | x::X,y::Y,h=>by rw[GS,UB (X:=X) (Y:=Y) (by simpa using h),Bool.and_false]
theorem QP {α:Type} {p:α->α->Bool} {X Y:List α} {i:Nat} {x y:α} (d:X[i]? =some x) (f:Y[i]? =some y):GS p (X.drop i) (Y.drop i)=(p x y&&GS p (X.drop (i+1)) (Y.drop (i+1))):=by
 have h:=Hd d;have j:=Hd f;rw[List.drop_eq_getElem_cons h,List.drop_eq_getElem_cons j,GS];rw[List.getElem?_eq_getElem h] at d;rw[List.getElem?_eq_getElem j] at f;rw[Option.some.inj d,Option.some.inj f]
theorem UA {α:Type} {p:α->α->Bool}:∀{X Y:List α},(∀x∈X,∀y∈Y,(p x y=true↔x=y))->(GS p X Y=true↔X=Y)
 |[],[],_|[],_::_,_|_::_,[],_=>by simp[GS]
 | x::X,y::Y,h=>by
  rw[GS,Bool.and_eq_true,h x List.mem_cons_self y List.mem_cons_self,UA (fun a ha b hb=>h a (List.mem_cons_of_mem _ ha) b (List.mem_cons_of_mem _ hb))];simp
theorem rG {p q:Rat} {c1 c2:Bool} {m1 m2:List UInt32} (t:Bw p b1 l1 b2 l2) (D:Bw q c1 m1 c2 m2) (s:Cw p) (ht:Cw q) (j:c=decide (p=q)):CF 324 [.agg (CT b1 l1 b2 l2),.agg (CT c1 m1 c2 m2)] (.one (.bool c)):=by
 refine AN Tryz.func324 fun E h=>?_
 obtain⟨G,d⟩:=xI (Hy p q);refine AB h (gk t D s ht d) ?_;intro F f;exact AO (by rw[j,f,d];exact TL p q)
theorem gN {X Y:LR} {p:el AL->el AL->Bool} (hg:∀x∈X,∀y∈Y,CF g [.agg (cells AL x),.agg (cells AL y)] (.one (.bool (p x y)))) (Q:c=GS p X Y):CF 323 [AT X,AT Y,.one (.fn g)] (.one (.bool c)):=by
 refine AN Tryz.func323 fun E hE=>?_
 rintro a7 ⟨V,f11⟩ a8 ⟨W,f13⟩;refine E2 (fun H=>?_) fun H=>?_
 ·exact AO (by rw[Q];exact UB AA)
 intro M D;have Z:=D.eq;have f16:=D.le;refine Bc [] [1,2,15,16,17] [] (fun vs U k=>∃(i':Nat) (L i:Int),vs=[AT Y,.one (.fn g),AT X,AD L,AD i]/\(EJ L X.length/\Ah i i'/\i'<=X.length)/\c=GS p (X.drop i') (Y.drop i')/\k=X.length-i') (X.length-0) ⟨0,M,0,rfl,⟨D,BJ 0,AA⟩,Q,rfl⟩ ?_;rintro J0 G vs U a6 ⟨i',L,i,rfl,⟨P,hi,a2⟩,hinv,a5⟩;conv=>cbv
 have eL:=P.eq;have ei:=hi.eq;refine Bt (fun I=>?_) fun I=>?_
 ·exact AO (by rw[hinv,List.drop_eq_nil_of_le AA,List.drop_eq_nil_of_le AA];rfl)
 refine .inr ?_;refine BH i' fun d j=>?_
 try conv=>cbv
 refine BH i' fun f s=>?_
 try conv=>cbv
 obtain⟨F,h⟩:=xB (p d f);refine .inl ⟨[.agg [.bool d.1.1,.sl .u32 d.1.2,.bool d.2.1,.sl .u32 d.2.2],.agg [.bool f.1.1,.sl .u32 f.1.2,.bool f.2.1,.sl .u32 f.2.2]],.one (.bool F),AQ,fun _=>GX hE ((by rw[h];exact hg d (List.mem_of_getElem? j) f (List.mem_of_getElem? s))),?_⟩;refine Ak ?_;intro N t;cases N <;> conv=>cbv
 ·have J:=HN t;refine AP ?_;intro O a1;refine⟨X.length-(i'+1),?_,?_⟩
  ·omega
  rw[G];refine⟨i'+1,L,O,rfl,⟨P,⟨AA⟩,AA⟩,?_,rfl⟩;rw[hinv,QP j s,<-h,HN t,Bool.true_and]
 have J:=HO t;exact AO (by rw[hinv,QP j s,<-h,HO t];rfl)
theorem gO {p:LR->LR->Bool} (hg:∀x∈X,∀y∈Y,CF g [AT x,AT y] (.one (.bool (p x y)))) (Q:c=GS p X Y):CF 322 [BL X,BL Y,.one (.fn g)] (.one (.bool c)):=by
 refine AN Tryz.func322 fun E hE=>?_
 rintro a7 ⟨V,f11⟩ a8 ⟨W,f13⟩;refine E2 (fun H=>?_) fun H=>?_
 ·exact AO (by rw[Q];exact UB AA)
 intro M s;have Z:=s.eq;have f16:=s.le;refine Bc [] [1,2,15,16,17] [] (fun vs U k=>∃(i':Nat) (L i:Int),vs=[BL Y,.one (.fn g),BL X,AD L,AD i]/\(EJ L X.length/\Ah i i'/\i'<=X.length)/\c=GS p (X.drop i') (Y.drop i')/\k=X.length-i') (X.length-0) ⟨0,M,0,rfl,⟨s,BJ 0,AA⟩,Q,rfl⟩ ?_;rintro J0 G vs U a6 ⟨i',L,i,rfl,⟨P,hi,a2⟩,hinv,a5⟩;conv=>cbv
 have eL:=P.eq;have ei:=hi.eq;refine Bt (fun I=>?_) fun I=>?_
 ·exact AO (by rw[hinv,List.drop_eq_nil_of_le AA,List.drop_eq_nil_of_le AA];rfl)
 refine .inr ?_;refine BH i' fun t f=>?_
 try conv=>cbv
 refine BH i' fun D h=>?_
 try conv=>cbv
 obtain⟨F,d⟩:=xB (p t D);refine .inl ⟨[AT t,AT D],.one (.bool F),fun _=>t2,fun _=>GX hE ((by rw[d];exact hg t (List.mem_of_getElem? f) D (List.mem_of_getElem? h))),?_⟩;refine Ak ?_;intro N j;cases N <;> conv=>cbv
 ·have J:=HN j;refine AP ?_;intro O a1;refine⟨X.length-(i'+1),?_,?_⟩
  ·omega
  rw[G];refine⟨i'+1,L,O,rfl,⟨P,⟨AA⟩,AA⟩,?_,rfl⟩;rw[hinv,QP f h,<-d,HN j,Bool.true_and]
 have J:=HO j;exact AO (by rw[hinv,QP f h,<-d,HO j];rfl)
theorem rK (j:FA xs) (ht:FA ys):∀x∈Ba xs,∀y∈Ba ys,CF 324 [.agg (cells AL x),.agg (cells AL y)] (.one (.bool (decide (x=y)))):=by
 intro x s y t;obtain⟨p,d,rfl⟩:=List.mem_map.1 s;obtain⟨q,f,rfl⟩:=List.mem_map.1 t;refine rG (H2 p) (H2 q) (j p d) (ht q f) ?_
 by_cases h:p=q
 ·subst h;simp
 rw[decide_eq_false h,decide_eq_false (fun e=>h (Vs e))]
theorem RY {X Y:LR} (j:X=Ba xs) (s:Y=Ba ys) (D:FA xs) (ht:FA ys) (t:c=decide (X=Y)):CF 280 [AT X,AT Y] (.one (.bool c)):=by
 refine AN Tryz.func280 fun E h=>?_
 obtain⟨f,d⟩:=xB (GS (fun x y=>decide (x=y)) X Y);refine AB (r:= .one (.bool f)) h (gN (by rw[j,s];exact rK D ht) d) ?_;exact AO (by rw[t,d,Bool.eq_iff_iff,decide_eq_true_eq];exact (UA (fun x _ y _=>by rw[decide_eq_true_eq])).symm)
theorem rH (hu:BZ R u) (hw:BZ R w) (d:∀x∈X,x∈tw u) (f:∀y∈Y,y∈tw w):∀x∈X,∀y∈Y,CF 280 [AT x,AT y] (.one (.bool (decide (x=y)))):=by
 intro x s y t;obtain⟨p,h,rfl⟩:=List.mem_map.1 (d x s);obtain⟨q,j,rfl⟩:=List.mem_map.1 (f y t);exact RY rfl rfl ((hu.tb p (List.mem_reverse.1 h)).C4 hu.hR) ((hw.tb q (List.mem_reverse.1 j)).C4 hw.hR) rfl
theorem YB (hu:BZ R u) (hw:BZ R w) (J:X=tw u) (M:Y=tw w) (t:c=(decide (Y.length<=X.length)&&decide (X.take Y.length=Y))):CF 279 [BL X,BL Y] (.one (.bool c)):=by
 refine AN Tryz.func279 fun E I=>?_
 rintro W ⟨U,f6⟩ Z ⟨V,f8⟩;refine fy (fun O=>?_) fun O=>?_
 ·exact AO (by rw[t,decide_eq_false (AA:¬Y.length<=X.length),Bool.false_and])
 rintro Q ⟨H,f13⟩ P D h s j f;obtain⟨G,d⟩:=xB (GS (fun x y=>decide (x=y)) j Y);refine AB I (gO (rH hu hw (fun x F=>by rw[f,List.drop_zero] at F;rw[<-J];exact List.mem_of_mem_take F) (fun y N=>by rw[<-M];exact N)) d) ?_;exact AO (by rw[t,decide_eq_true (AA:Y.length<=X.length),Bool.true_and,d,f,List.drop_zero,(AA:h=Y.length),Bool.eq_iff_iff,decide_eq_true_eq];exact (UA (fun x _ y _=>by rw[decide_eq_true_eq])).symm)
theorem Lp (h:tw u=tw w):u=w:=by
 have d:=(List.map_inj_right (fun _ _=>cS)).1 h;exact List.reverse_inj.1 d
theorem WB:w<:+u↔((tw w).length<=(tw u).length/\(tw u).take (tw w).length=tw w):=by
 constructor
 ·rintro⟨v,rfl⟩
  have e:tw (v++w)=tw w++tw v:=by rw[tw,tw,tw,List.reverse_append,List.map_append]
  rw[e];exact⟨AZ,List.take_left⟩
 rintro⟨f,d⟩
 rw[Cr,Cr] at f;rw[Cr,Jo] at d;rw[<-Lp d];exact List.drop_suffix _ _
theorem kW (hu:BZ R u) (hw:BZ R w) (d:X=tw u) (f:Y=tw w) (h:w<:+u):CF 279 [BL X,BL Y] (.one (.bool true)):=
 YB hu hw d f (by have:=WB.1 h;rw[d,f,decide_eq_true this.1,decide_eq_true this.2];rfl)
theorem kV (hu:BZ R u) (hw:BZ R w) (f:X=tw u) (j:Y=tw w) (h:¬w<:+u):CF 279 [BL X,BL Y] (.one (.bool false)):=
 YB hu hw f j (by
  by_cases d:Y.length<=X.length
  ·rw[decide_eq_true d,decide_eq_false (fun s=>h (WB.2 (by rw[<-f,<-j];exact⟨d,s⟩)))];rfl
  rw[decide_eq_false d];rfl)
theorem Yg {q:Rat} (j:Bw q b1 l1 b2 l2) (f:Cw q):CF 217 [.agg (CT b1 l1 b2 l2)] (.agg (CT b1 l1 b2 l2)):=by
 have h:=j.small f;refine AN Tryz.func217 fun E d=>?_
 refine AB d (Lv rfl AA) ?_;refine AB d (Lv rfl AA) ?_;exact AM AQ
theorem TV {X:LR} (V:X=Ba xs) (hs:FA xs) (hn:xs.length<=1000000):CF 201 [AT X] (AT X):=by
 have a5:X.length=xs.length:=by rw[V,List.length_map]
 refine AN Tryz.func201 fun E hE=>?_
 rintro n7 ⟨e7,f7⟩;refine⟨fun _=>⟨AA,AA,by show _*64<=140737488355328;omega⟩,?_⟩;intro J (M:LR) t;have a8:=t.1;have G:M=List.replicate J (((false,[]),(false,[])):el AL):=t.2;have a1:M.length=J:=by rw[G,List.length_replicate]
 refine Ak ?_;intro N h;have Z:=h.eq;have f10:=h.le;refine Bc [] [3,9,10,11] [8] (fun vs P k=>∃(o:LR) (m i':Nat) (L i:Int),vs=[.one (.BK AL 8 0 0 m),AT X,AD L,AD i]/\P=[.arr 0 AL o]/\(o.length=X.length/\m=X.length/\EJ L X.length/\Ah i i'/\i'<=X.length)/\o.take i'=X.take i'/\k=X.length-i') (X.length-0) ⟨M,J,0,N,0,rfl,rfl,⟨AA,AA,h,BJ 0,AA⟩,rfl,rfl⟩ ?_;rintro J0 F vs P ab ⟨o,m,i',L,i,rfl,rfl,⟨ho,hm,U,hi,a6⟩,hinv,a7⟩;conv=>cbv
 have eL:=U.eq;have ei:=hi.eq;refine Bt (fun I=>?_) fun I=>?_
 ·exact AM ⟨⟨rfl,.inl ⟨_,rfl,AA,congrArg _ (by rw[hm,List.drop_zero];rw[(AA:i'=X.length)] at hinv;rw[hinv,List.take_length])⟩,trivial⟩,trivial⟩
 refine .inr ?_;refine BH i' fun D f=>?_
 try conv=>cbv
 obtain⟨q,hq,aa,H⟩:=Jc V hs f;refine AB hE (Yg hq H) ?_;intro s W;refine⟨D,fun _=>⟨by show _<List.length (α:=(el AL)) o;(first | omega | (simp;omega)),t4⟩,?_⟩;intro (j:LR) (d:j=List.set (α:=(el AL)) o s D);have Q:j.length=o.length:=by rw[d,List.length_set]
 refine AP ?_;intro O a2;refine⟨X.length-(i'+1),?_,?_⟩
 ·omega
 rw[F];refine⟨j,m,i'+1,L,O,rfl,rfl,⟨AA,AA,U,⟨AA⟩,AA⟩,?_,rfl⟩;rw[d,(AA:s=i'),Rp AA,hinv,<-EI f]
theorem QD {s:Nat} (h:BZ R u) (hT:T=tw u) (hA:A=em u x) (hx:El u s x) (hs:s<=60000000000000:=by omega):CF 130 [.agg (AK T A)] (.agg (AK T A)):=by
 have a7:T.length=u.length:=by rw[hT,Cr]
 have a8:=h.ht;refine AN Tryz.func130 fun E hE=>?_
 refine AB (r:= .one (AU A)) hE (TV hA (hx.C4 hs) (by rw[hx.len];exact KX h.ht)) ?_;intro a5 G;have a6:=G.eq;have f12:=G.le;refine .inr ?_;obtain⟨J0,t⟩:=xJ fun vs V k=>(∃(L i:Int),vs=[.one (.BX 2 0 0),.one (.BX 3 0 0),BL T,AD L,AD i]/\V=[.var 0 [.nil,.nil],.var 0 [.nil,AU A],.dead 0]/\(EJ L T.length/\Ah i 0)/\k=T.length)\/(∃(o:List LR) (mm i':Nat) (L i:Int),vs=[.one (.BX 2 0 0),.one (.BX 3 0 0),BL T,AD L,AD i]/\V=[.var 0 [.nil,.nil],.var 0 [.BK (.sl AL) 22 0 0 mm,AU A],.arr 0 (.sl AL) o]/\(EJ L T.length/\Ah i i'/\i'<=T.length/\mm=o.length)/\o=T.take i'/\k=T.length-i')
 refine⟨[],[2,3,11,12,13],[2,3,22],J0,⟨T.length,by rw[t];exact .inl ⟨a5,0,rfl,rfl,⟨G,BJ 0⟩,rfl⟩⟩,?_⟩;intro vs V ad hj;rw[t] at hj;rcases hj with⟨L,i,rfl,rfl,⟨O,hi⟩,a2⟩ |⟨o,mm,i',L,i,rfl,rfl,⟨O,hi,aa,Q⟩,hinv,a2⟩
 ·conv=>cbv
  have eL:=O.eq;have ei:=hi.eq;obtain⟨i',a1⟩:=xN 0;refine Bt (fun J=>?_) fun J=>?_
  ·exact AM ⟨⟨rfl,.inr (.inl ⟨_,congrArg _ (List.eq_nil_of_length_eq_zero AA)⟩),rfl,trivial⟩,trivial⟩
  refine .inr ?_;refine BH i' fun d f=>?_
  try conv=>cbv
  obtain⟨y,H,j⟩:=LJ hT f;have I:y∈u:=List.mem_reverse.1 (List.mem_of_getElem? j);refine AB (r:= .one (AU d)) hE (TV H ((h.tb y I).C4 h.hR) (by rw[Mv h.red _ y j];exact KX)) ?_;refine⟨[d],DK,.inr ?_⟩;try conv=>cbv
  refine .inl ⟨[d],fun _=>⟨rfl,C2 (1) 24⟩,?_⟩;refine AP ?_;intro D W N Z;refine⟨T.length-(i'+1),?_,?_⟩
  ·omega
  rw[t];exact .inr ⟨[d],D,i'+1,L,N,rfl,rfl,⟨O,⟨AA⟩,AA,W⟩,by rw[EI f,a1];rfl,rfl⟩
 conv=>cbv
 have eL:=O.eq;have ei:=hi.eq;refine Bt (fun J=>?_) fun J=>?_
 ·exact AM ⟨⟨rfl,.inl ⟨_,rfl,AA,congrArg _ (by rw[Q,hinv,List.drop_zero,List.take_length,(AA:i'=T.length),List.take_length])⟩,rfl,trivial⟩,trivial⟩
 refine .inr ?_;refine BH i' fun d f=>?_
 try conv=>cbv
 obtain⟨y,H,j⟩:=LJ hT f;have I:y∈u:=List.mem_reverse.1 (List.mem_of_getElem? j);refine AB (r:= .one (AU d)) hE (TV H ((h.tb y I).C4 h.hR) (by rw[Mv h.red _ y j];exact KX)) ?_;refine⟨[d],DK,.inr ?_⟩;try conv=>cbv
 have ab:o.length<=T.length:=by rw[hinv,List.length_take];omega
 refine .inl ⟨[d],fun _=>⟨rfl,Q,rfl,C2 (o.length+1) 24⟩,?_⟩;intro (M:List (el (.sl AL))) D F;have P:M=(o:List (el (.sl AL)))++([d]:List (el (.sl AL))):=F.1;have U:D=List.length (α:=(el (.sl AL))) M:=F.2;refine AP ?_;intro N Z;refine⟨T.length-(i'+1),?_,?_⟩
 ·omega
 rw[t];exact .inr ⟨M,D,i'+1,L,N,rfl,rfl,⟨O,⟨AA⟩,AA,U⟩,by rw[P,hinv,EI f],rfl⟩
theorem VL {C:LR} (h:BZ R w) (hT:T=tw w) (hA:A=em u x) (hx:In u x) (hu:u<:+w) (hC:C=em w x):CF 284 [BL T,AT A] (AT C):=by
 have V:T.length=w.length:=by rw[hT,Cr]
 have a7:=h.ht;have a6:A.length=2^u.length:=by rw[hA,CH hx]
 have Z:=hu.length_le;have hle:2^u.length<=2^w.length:=DI Z;have a5:=EV h.ht;have N:=Y8 hu h.red hx;refine AN Tryz.func284 fun E hE=>?_
 obtain⟨an,I⟩:=xN A.length;refine AB hE (Wd AA I) ?_;refine Bc [] [0,5] [7] (fun vs bl k=>∃(o:LR) (mm j:Nat),vs=[BL T,.one (.BK AL 7 0 0 mm)]/\bl=[.arr 0 AL o]/\(mm=o.length/\o.length=2^u.length+j/\o.length<=2^w.length)/\o=A++List.replicate j (rp 0)/\k=2^w.length-o.length) (2^w.length-A.length) ⟨A,an,0,rfl,rfl,⟨I,AA,AA⟩,AZ,rfl⟩ ?_;rintro J0 U vs bl ad ⟨o,mm,j,rfl,rfl,⟨J,aa,ab⟩,hinv,a8⟩;conv=>cbv
 intro n9 h9;have e9:=h9.eq;refine AP ?_;rintro ae ⟨P,f11⟩ af Q;have a2:=(GP Q (P.trans (congrArg _ V))).eq;refine Bt (fun a1=>?_) fun a1=>?_
 ·exact AM ⟨⟨rfl,.inl ⟨_,rfl,AA,congrArg _ (by rw[hC,J,List.drop_zero,List.take_length,hinv,N,hA,(AA:j=2^w.length-2^u.length)])⟩,trivial⟩,trivial⟩
 refine .inr ?_;obtain⟨s,t,d,f,G⟩:=CZ (((0:Int):Rat));refine AB hE (Il AA rfl G) ?_;refine⟨[((s,t),(d,f))],DK,.inr ?_⟩;try conv=>cbv
 refine .inl ⟨[((s,t),(d,f))],fun _=>⟨rfl,J,rfl,C2 (o.length+1) 64⟩,?_⟩;intro (D:LR) O H;have F:D=(o:LR)++([((s,t),(d,f))]:LR):=H.1;have M:O=List.length (α:=(el AL)) D:=H.2;conv=>cbv
 have W:D.length=o.length+1:=by rw[F];simp
 exact Bz U ⟨D,O,j+1,rfl,rfl,⟨M,AA,AA⟩,by rw[F,hinv,List.replicate_succ',List.append_assoc,<-G.rp];rfl,rfl⟩
end
section
def Gs (w:AH) (RL:List LR):AH->Prop
 | []=>True
 | r::u=>Gs w RL u/\∃wk,wk<:+w/\In wk (rt u r)/\RL[u.length]? =some (em wk (rt u r))
variable {A C:LR} {K R S a k mm n:Nat} {RL T:List LR} {TT:AH->Prop} {p q x:Re} {r:List Rat} {u w:AH}
theorem Gs.mono {w':AH} {X:List LR} (h:w<:+w'):∀{u:AH},Gs w RL u->Gs w' (RL++X) u
 | [],_=>trivial
 | r::u,⟨f,s,j,h3,d⟩=>⟨f.mono h,s,j.trans h,h3,by rw[List.getElem?_append_left (Hd d)];exact d⟩
noncomputable def Fs (t:AH):AH->List LR
 | []=>[]
 | r::u=>Fs t u++[em (ext t (r::u)) (rt u r)]
theorem Of (t:AH):∀u,(Fs t u).length=u.length
 | []=>rfl
 | r::u=>by rw[Fs,List.length_append,Of t u];rfl
theorem Og {t:AH} (ht:BG t):∀{u:AH},BG u->Gs (ext t u) (Fs t u) u
 | [],_=>trivial
 | r::u,hu=>by
  refine⟨(Og ht hu.1).mono (Pf _ _),ext t (r::u),List.suffix_refl _,(Jr ht hu).2.root,?_⟩;rw[Fs,List.getElem?_append_right (by rw[Of];omega),Of,Nat.sub_self];rfl
theorem UE {t:AH} (ht:BG t):∀{u:AH},BG u->Br u t->ext t u=t
 | [],_,_=>rfl
 | r::u,hu,h=>by
  rw[ext,UE ht hu.1 h.tail];exact Ec ⟨rt u r,h.root,DW hu⟩
def SH (f:FuncId) (S:Nat) (w u:AH):Prop:=∀{T RL:List LR} {A C:LR} {x:Re},T=tw w->Gs w RL u->A=em u x->El u S x->C=em w x->
 CF f [.agg [BA T,BA RL],AT A] (AT C)
def SI (f:FuncId) (S:Nat) (w u:AH):Prop:=∀{T RL:List LR} {A C:LR} {x:Re} {mm:Nat},T=tw w->Gs w RL u->mm=RL.length->A=em u x->El u S x->C=em w x->
 CY Tryz.prog f [.agg [BA T,.BK (.sl AL) 0 0 0 mm],AT A] (.arr 0 (.sl AL) RL) (AT C)
theorem bZ {b:Nat}:2^a<2^b↔a<b:=Nat.pow_lt_pow_iff_right AF
theorem Mc (ha:a=2^n+2^n) (h:2^(k+1)<a):k<n:=by
 have d:a=2^(n+1):=by rw[ha,Nat.pow_succ];omega
 rw[d,bZ] at h;omega
theorem Mb (ha:a=2^n+2^n) (h:¬2^(k+1)<a):n<=k:=by
 have d:a=2^(n+1):=by rw[ha,Nat.pow_succ];omega
 rw[d,bZ] at h;omega
theorem nR {u:AH} {x:Re} (G:Gam TT R K S) (hw:TT w) (H:T=tw w) {q:Rat} (s:A=em [] (Re.ofRat q)) (I:Cw q) (D:C=em w (Re.ofRat q)):CF 304 [.agg [BA T,BA RL],AT A] (AT C):=by
 have d:A=[rp q]:=s.trans (FD q);have t:A.length=1:=by rw[d];rfl
 refine AN Tryz.func304 fun E F=>?_
 rintro J ⟨j,f10⟩;refine CU (fun h=>?_) fun h=>?_
 ·exact absurd h AA
 refine BH 0 fun M f=>?_
 try conv=>cbv
 refine AB F (Ks (G.Bb hw) H (GO d f) I D) ?_;exact AM ⟨t2,trivial⟩
theorem nT (G:Gam TT R K S) (hw:TT w) (hT:T=tw w) (hu:TT (r::u)) (V:Br (r::u) w) (ih:SH 304 S w u) (hR:Gs w RL (r::u)) (U:A=em (r::u) x) (hx:El (r::u) S x) (s:x=p+q*rt u r) (hp:El u S p) (hq:El u S q) (h0:q=0) (hC:C=em w x):CF 304 [.agg [BA T,BA RL],AT A] (AT C):=by
 have j:=(G.Bb hu).red;have t:A.length=2^u.length+2^u.length:=by rw[U,CH hx.mem,Cg]
 have aA:=Dz u.length;have ax:(r::u).length<=8:=G.ht hu;have ag:(r::u).length=u.length+1:=rfl;have hmul:=G.mul hw;have a6:El w K (rt u r):=by have:=G.Cp hu hw V (JX j);rwa [Nat.zero_add] at this
 obtain⟨wk,aB,ai,a1⟩:=hR.2;obtain⟨rk,a5⟩:=xR (em wk (rt u r));rw[<-a5] at a1;refine AN Tryz.func304 fun E hE=>?_
 rintro aE ⟨al,f10⟩;refine BV (fun M=>?_) fun M=>?_
 ·exact absurd M AA
 rintro aF ⟨an,f19⟩ ab au;refine Bc [] [1,2,5,6] [2] (fun vs bl k=>∃(k':Nat) (N kk:Int),vs=[AT A,.one (.BX 2 0 0),AD N,AD kk]/\bl=[.var 0 [BA T,BA RL]]/\(Ah N (A.length/2)/\Ah kk k'/\k'<=u.length)/\k=u.length-k') (u.length-0) ⟨0,ab,0,rfl,rfl,⟨⟨AA⟩,BJ 0,AA⟩,rfl⟩ ?_;rintro J0 W vs bl aC ⟨k',N,kk,rfl,rfl,⟨D,Z,az⟩,ay⟩;have aq:=D.eq;have ar:=Z.eq;refine AP ?_;rintro aG av aH Q aI ⟨ao,f25⟩;have aj:=(GP (k:=k'+1) Q AA).eq;refine C6 (fun a7=>?_) fun a7=>?_
 ·refine .inr ?_;have a2:k'<u.length:=Mc t (AA:2^(k'+1)<A.length);refine AP ?_;intro ad aw;exact Bz W ⟨k'+1,N,ad,rfl,rfl,⟨D,⟨AA⟩,AA⟩,rfl⟩
 have a2:k'=u.length:=by have:=Mb t (AA:¬2^(k'+1)<A.length);omega
 refine AP ?_;intro m32 ah P af a8 H;have f:a8=em u p:=by rw[H,List.drop_zero,(AA:P=A.length/2),U,DU j hp.mem hq.mem s]
 obtain⟨aJ,d⟩:=xR (em w (p));refine AB hE (ih hT hR.1 f hp d) ?_;rintro aD J O ak ⟨ae,F⟩ aa I;have h:aa=em u q:=by rw[I,(AA:O=A.length/2),F,J,List.take_length,U,DH j hp.mem hq.mem s]
 refine AB hE (K6 (G.Bb (G.sub hu)).red hq.mem h h0) ?_;exact AO (by rw[hC,d];congr 1;rw[s,h0];clear ih;grind)
theorem nS (G:Gam TT R K S) (hw:TT w) (U:T=tw w) (hu:TT (r::u)) (f:Br (r::u) w) (ih:SH 304 S w u) (hR:Gs w RL (r::u)) (hA:A=em (r::u) x) (hx:El (r::u) S x) (j:x=p+q*rt u r) (hp:El u S p) (M:El u S q) (h0:q≠0) (hC:C=em w x):CF 304 [.agg [BA T,BA RL],AT A] (AT C):=by
 have h:=(G.Bb hu).red;have O:A.length=2^u.length+2^u.length:=by rw[hA,CH hx.mem,Cg]
 have aN:=Dz u.length;have aK:(r::u).length<=8:=G.ht hu;have ax:(r::u).length=u.length+1:=rfl;have hmul:=G.mul hw;have d:El w K (rt u r):=by have:=G.Cp hu hw f (JX h);rwa [Nat.zero_add] at this
 obtain⟨wk,aj,a7,Q⟩:=hR.2;obtain⟨rk,a8⟩:=xR (em wk (rt u r));rw[<-a8] at Q;refine AN Tryz.func304 fun E N=>?_
 rintro aR ⟨aC,f10⟩;refine BV (fun aa=>?_) fun aa=>?_
 ·exact absurd aa AA
 rintro aS ⟨aD,f19⟩ aq aH;refine Bc [] [1,2,5,6] [2] (fun vs bl k=>∃(k':Nat) (hv kk:Int),vs=[AT A,.one (.BX 2 0 0),AD hv,AD kk]/\bl=[.var 0 [BA T,BA RL]]/\(Ah hv (A.length/2)/\Ah kk k'/\k'<=u.length)/\k=u.length-k') (u.length-0) ⟨0,aq,0,rfl,rfl,⟨⟨AA⟩,BJ 0,AA⟩,rfl⟩ ?_;rintro J0 ag vs bl aO ⟨k',hv,kk,rfl,rfl,⟨P,ah,aM⟩,aL⟩;have aF:=P.eq;have aG:=ah.eq;refine AP ?_;rintro aT aI aU af aV ⟨aE,f25⟩;have az:=(GP (k:=k'+1) af AA).eq;refine C6 (fun ak=>?_) fun ak=>?_
 ·refine .inr ?_;have ai:k'<u.length:=Mc O (AA:2^(k'+1)<A.length);refine AP ?_;intro ar aJ;exact Bz ag ⟨k'+1,hv,ar,rfl,rfl,⟨P,⟨AA⟩,AA⟩,rfl⟩
 have ai:k'=u.length:=by have:=Mb O (AA:¬2^(k'+1)<A.length);omega
 refine AP ?_;intro m32 ay ae aw al Z;have H:al=em u p:=by rw[Z,List.drop_zero,(AA:ae=A.length/2),hA,DU h hp.mem M.mem j]
 obtain⟨aW,s⟩:=xR (em w (p));refine AB N (ih U hR.1 H hp s) ?_;rintro aP a5 ab aA ⟨au,V⟩ an a1;have I:an=em u q:=by rw[a1,(AA:ab=A.length/2),V,a5,List.take_length,hA,DH h hp.mem M.mem j]
 refine AB N (JP (G.Bb (G.sub hu)).red M.mem I h0) ?_;rintro aQ a6 ad aB ⟨av,W⟩ ao a2;have J:ao=em u q:=by rw[a2,(AA:ad=A.length/2),W,a6,List.take_length,hA,DH h hp.mem M.mem j]
 obtain⟨aX,t⟩:=xR (em w (q));refine AB N (ih U hR.1 J M t) ?_;refine Cj Q ?_;obtain⟨aY,D⟩:=xR (em w (rt u r));refine AB N (VL (G.Bb hw) U a8 a7 aj D) ?_;obtain⟨aZ,F⟩:=xR (em w (q*rt u r));refine AB N (Ij (G.Bb hw) U t D (G.Cp (G.sub hu) hw f.tail M) d AA F) ?_;refine AB (r:= .one (AU C)) N (Lt (G.Bb hw) U s F (G.Cp (G.sub hu) hw f.tail hp) ((G.Cp (G.sub hu) hw f.tail M).mul (G.Bb hw) d) AA AA (by rw[hC,j])) ?_;exact AM ⟨t2,trivial⟩
theorem nU {u:AH} {x:Re} (I:mm=RL.length) (G:Gam TT R K S) (hw:TT w) (H:T=tw w) {q:Rat} (s:A=em [] (Re.ofRat q)) (J:Cw q) (D:C=em w (Re.ofRat q)):CY Tryz.prog 304 [.agg [BA T,.BK (.sl AL) 0 0 0 mm],AT A] (.arr 0 (.sl AL) RL) (AT C):=by
 have d:A=[rp q]:=s.trans (FD q);have t:A.length=1:=by rw[d];rfl
 refine C5 Tryz.func304 fun E F=>?_
 refine Ak ?_;rintro M ⟨j,f10⟩;refine CU (fun h=>?_) fun h=>?_
 ·exact absurd h AA
 refine BH 0 fun N f=>?_
 try conv=>cbv
 refine AB F (Ks (G.Bb hw) H (GO d f) J D) ?_;refine AQ
theorem nW (a6:mm=RL.length) (G:Gam TT R K S) (hw:TT w) (hT:T=tw w) (hu:TT (r::u)) (W:Br (r::u) w) (ih:SI 304 S w u) (hR:Gs w RL (r::u)) (V:A=em (r::u) x) (hx:El (r::u) S x) (s:x=p+q*rt u r) (hp:El u S p) (hq:El u S q) (h0:q=0) (hC:C=em w x):CY Tryz.prog 304 [.agg [BA T,.BK (.sl AL) 0 0 0 mm],AT A] (.arr 0 (.sl AL) RL) (AT C):=by
 have j:=(G.Bb hu).red;have t:A.length=2^u.length+2^u.length:=by rw[V,CH hx.mem,Cg]
 have aC:=Dz u.length;have az:(r::u).length<=8:=G.ht hu;have ai:(r::u).length=u.length+1:=rfl;have hmul:=G.mul hw;have a8:El w K (rt u r):=by have:=G.Cp hu hw W (JX j);rwa [Nat.zero_add] at this
 obtain⟨wk,aD,ak,a2⟩:=hR.2;obtain⟨rk,a7⟩:=xR (em wk (rt u r));rw[<-a7] at a2;refine C5 Tryz.func304 fun E hE=>?_
 refine Ak ?_;rintro aG ⟨ao,f10⟩;refine BV (fun M=>?_) fun M=>?_
 ·exact absurd M AA
 rintro aH ⟨aq,f19⟩ ad aw;refine Bc [] [1,2,5,6] [0,2] (fun vs bl k=>∃(k':Nat) (O kk:Int),vs=[AT A,.one (.BX 2 0 0),AD O,AD kk]/\bl=[.arr 0 (.sl AL) RL,.var 0 [BA T,.BK (.sl AL) 0 0 0 mm]]/\(Ah O (A.length/2)/\Ah kk k'/\k'<=u.length)/\k=u.length-k') (u.length-0) ⟨0,ad,0,rfl,rfl,⟨⟨AA⟩,BJ 0,AA⟩,rfl⟩ ?_;rintro J0 Z vs bl aE ⟨k',O,kk,rfl,rfl,⟨D,a1,aB⟩,aA⟩;have au:=D.eq;have av:=a1.eq;refine AP ?_;rintro aI ax aJ U aK ⟨ar,f25⟩;have al:=(GP (k:=k'+1) U AA).eq;refine C6 (fun aa=>?_) fun aa=>?_
 ·refine .inr ?_;have a5:k'<u.length:=Mc t (AA:2^(k'+1)<A.length);refine AP ?_;intro ae ay;exact Bz Z ⟨k'+1,O,ae,rfl,rfl,⟨D,⟨AA⟩,AA⟩,rfl⟩
 have a5:k'=u.length:=by have:=Mb t (AA:¬2^(k'+1)<A.length);omega
 refine AP ?_;intro m32 aj Q ah N H;have f:N=em u p:=by rw[H,List.drop_zero,(AA:Q=A.length/2),V,DU j hp.mem hq.mem s]
 obtain⟨af,d⟩:=xR (em w (p));refine .inr (.inr (.inl ⟨0,.arr 0 (.sl AL) RL,[.agg [BA T,.BK (.sl AL) 0 0 0 mm],AT N],AT af,AQ,fun _=>Hq hE (ih hT hR.1 a6 f hp d),?_⟩));refine AP ?_;rintro aF J P an ⟨ag,F⟩ ab I;have h:ab=em u q:=by rw[I,(AA:P=A.length/2),F,J,List.take_length,V,DH j hp.mem hq.mem s]
 refine AB hE (K6 (G.Bb (G.sub hu)).red hq.mem h h0) ?_;refine fun _=>⟨⟨⟨⟨rfl,congrArg _ (by rw[hC,d];congr 1;rw[s,h0];clear ih;grind),trivial⟩,trivial⟩,rfl,AZ⟩,rfl⟩
theorem nV (ab:mm=RL.length) (G:Gam TT R K S) (hw:TT w) (hT:T=tw w) (hu:TT (r::u)) (f:Br (r::u) w) (ih:SI 304 S w u) (hR:Gs w RL (r::u)) (hA:A=em (r::u) x) (hx:El (r::u) S x) (t:x=p+q*rt u r) (hp:El u S p) (P:El u S q) (h0:q≠0) (hC:C=em w x):CY Tryz.prog 304 [.agg [BA T,.BK (.sl AL) 0 0 0 mm],AT A] (.arr 0 (.sl AL) RL) (AT C):=by
 have s:=(G.Bb hu).red;have W:A.length=2^u.length+2^u.length:=by rw[hA,CH hx.mem,Cg]
 have aU:=Dz u.length;have aR:(r::u).length<=8:=G.ht hu;have aD:(r::u).length=u.length+1:=rfl;have hmul:=G.mul hw;have d:El w K (rt u r):=by have:=G.Cp hu hw f (JX s);rwa [Nat.zero_add] at this
 obtain⟨wk,ar,ad,h⟩:=hR.2;obtain⟨rk,j⟩:=xR (em wk (rt u r));rw[<-j] at h;refine C5 Tryz.func304 fun E V=>?_
 refine Ak ?_;rintro aY ⟨aJ,f10⟩;refine BV (fun af=>?_) fun af=>?_
 ·exact absurd af AA
 rintro aZ ⟨aK,f19⟩ aw aO;refine Bc [] [1,2,5,6] [0,2] (fun vs bl k=>∃(k':Nat) (hv kk:Int),vs=[AT A,.one (.BX 2 0 0),AD hv,AD kk]/\bl=[.arr 0 (.sl AL) RL,.var 0 [BA T,.BK (.sl AL) 0 0 0 mm]]/\(Ah hv (A.length/2)/\Ah kk k'/\k'<=u.length)/\k=u.length-k') (u.length-0) ⟨0,aw,0,rfl,rfl,⟨⟨AA⟩,BJ 0,AA⟩,rfl⟩ ?_;rintro J0 an vs bl aV ⟨k',hv,kk,rfl,rfl,⟨Z,ao,aT⟩,aS⟩;have aM:=Z.eq;have aN:=ao.eq;refine AP ?_;rintro b0 aP b3 al b4 ⟨aL,f25⟩;have aG:=(GP (k:=k'+1) al AA).eq;refine C6 (fun au=>?_) fun au=>?_
 ·refine .inr ?_;have aq:k'<u.length:=Mc W (AA:2^(k'+1)<A.length);refine AP ?_;intro ax aQ;exact Bz an ⟨k'+1,hv,ax,rfl,rfl,⟨Z,⟨AA⟩,AA⟩,rfl⟩
 have aq:k'=u.length:=by have:=Mb W (AA:¬2^(k'+1)<A.length);omega
 refine AP ?_;intro m32 aF ak aC ag a5;have M:ag=em u p:=by rw[a5,List.drop_zero,(AA:ak=A.length/2),hA,DU s hp.mem P.mem t]
 obtain⟨ay,D⟩:=xR (em w (p));refine .inr (.inr (.inl ⟨0,.arr 0 (.sl AL) RL,[.agg [BA T,.BK (.sl AL) 0 0 0 mm],AT ag],AT ay,AQ,fun _=>Hq V (ih hT hR.1 ab M hp D),?_⟩));refine AP ?_;rintro aW a8 ai aH ⟨aA,a1⟩ av a6;have N:av=em u q:=by rw[a6,(AA:ai=A.length/2),a1,a8,List.take_length,hA,DH s hp.mem P.mem t]
 refine AB V (JP (G.Bb (G.sub hu)).red P.mem N h0) ?_;rintro aX aa aj aI ⟨aB,a2⟩ ah a7;have O:ah=em u q:=by rw[a7,(AA:aj=A.length/2),a2,aa,List.take_length,hA,DH s hp.mem P.mem t]
 obtain⟨az,F⟩:=xR (em w (q));refine .inr (.inr (.inl ⟨0,.arr 0 (.sl AL) RL,[.agg [BA T,.BK (.sl AL) 0 0 0 mm],AT ah],AT az,AQ,fun _=>Hq V (ih hT hR.1 ab O P F),?_⟩));try conv=>cbv
 refine⟨fun _=>⟨AA,by have:=Hd h;omega⟩,?_⟩;intro ae aE;conv=>cbv
 obtain⟨U,J⟩:=Cq (l:=RL) (i:=ae) (by have:=Hd h;omega);refine⟨U,fun _=>J,?_⟩;try conv=>cbv
 have Q:U=rk:=by have:=J;rw[(AA:ae=u.length),h] at this;exact (Option.some.inj this).symm
 have j:U=em wk (rt u r):=Q.trans j;obtain⟨b5,H⟩:=xR (em w (rt u r));refine AB V (VL (G.Bb hw) hT j ad ar H) ?_;obtain⟨b6,I⟩:=xR (em w (q*rt u r));refine AB V (Ij (G.Bb hw) hT F H (G.Cp (G.sub hu) hw f.tail P) d AA I) ?_;refine AB (r:= .one (AU C)) V (Lt (G.Bb hw) hT D I (G.Cp (G.sub hu) hw f.tail hp) ((G.Cp (G.sub hu) hw f.tail P).mul (G.Bb hw) d) AA AA (by rw[hC,t])) ?_;refine AQ
theorem Zf (G:Gam TT R K S) (hw:TT w):∀{u:AH},TT u->Br u w->SH 304 S w u:=by
 intro u
 induction u with
 | nil=>
  intro hu f T RL A C x D hR s d t;obtain⟨q,rfl⟩:=DV.1 d.mem;have h:=d.C4 (by have:=G.mul hw;omega);rw[Ed] at h;exact nR (u:=[]) (x:=0) G hw D s (h q List.mem_cons_self) t
 | cons r u I=>
  intro hu f T RL A C x D hR s d t;obtain⟨p,q,j,H,h⟩:=El.parts (G.Bb hu).red d
  by_cases F:q=0
  ·exact nT G hw D hu f (I (G.sub hu) f.tail) hR s d j H h F t
  exact nS G hw D hu f (I (G.sub hu) f.tail) hR s d j H h F t
theorem imD (G:Gam TT R K S) (hw:TT w):∀{u:AH},TT u->Br u w->SI 304 S w u:=by
 intro u
 induction u with
 | nil=>
  intro hu h T RL A C x mm F hR d t f D;obtain⟨q,rfl⟩:=DV.1 f.mem;have j:=f.C4 (by have:=G.mul hw;omega);rw[Ed] at j;exact nU (u:=[]) (x:=0) d G hw F t (j q List.mem_cons_self) D
 | cons r u J=>
  intro hu h T RL A C x mm F hR d t f D;obtain⟨p,q,s,I,j⟩:=El.parts (G.Bb hu).red f
  by_cases H:q=0
  ·exact nW d G hw F hu h (J (G.sub hu) h.tail) hR t f s I j H D
  exact nV d G hw F hu h (J (G.sub hu) h.tail) hR t f s I j H D
end
section
variable {K R S:Nat} {T T2:List LR} {TT:AH->Prop}
theorem SF {A B:LR} {R' s:Nat} {u:AH} {v:Re} (h:BZ R u) (h':BZ R' (BW u v)) (H:(BW u v).length<=8) (D:T=tw u) (I:A=em u v) (G:El u s v) (J:Fit u.length R s) (t:0<=v) (d:T2=tw (BW u v)) (f:B=em (BW u v) (Re.sqrt v)):
  CF 193 [BL T,AT A] (.BN [(false,[BA T2]),(false,[AU B]),(false,[.int .i64 0])]):=by
 by_cases j:Sq u v
 ·rw[Ec j] at d f;have F:T2=T:=d.trans D.symm;subst F;exact j4 h D I G J ((Lm t).1 j) (Re.M4 v) (Re.Hn t) f
 rw[Dv j] at h' H d f;rw[<-Jt G.mem] at f;exact j5 h D I G J (by rw[List.length_cons] at H;omega) t j rfl h' d f
theorem Ms (u:AH) (i:Nat):pre u i<:+u:=List.drop_suffix _ _
theorem OY (u:AH):pre u 0=[]:=by rw[pre,Nat.sub_zero,List.drop_length]
theorem FC (p:Prop):∃b:Bool,(b=true↔p):=by
 by_cases h:p
 ·exact⟨true,by simp[h]⟩
 exact⟨false,by simp[h]⟩
theorem No {X Y:List LR} {u w:AH} {c:Bool} (hu:BZ R u) (hw:BZ R w) (d:X=tw u) (f:Y=tw w) (h:c=true↔w<:+u):CF 279 [BL X,BL Y] (.one (.bool c)):=by
 cases c with
 | true=>exact kW hu hw d f (h.1 rfl)
 | false=>exact kV hu hw d f (fun k=>by have:=h.2 k;cases this)
noncomputable def nm (n:AH×Re):el AR:=(tw n.1,em n.1 n.2)
noncomputable def Ct (ns:List (AH×Re)):AH:=ns.foldl (fun t n=>Fk t n.1) []
theorem ny (ns:List (AH×Re)) (n:AH×Re):Ct (ns++[n])=Fk (Ct ns) n.1:=by
 rw[Ct,List.foldl_append];rfl
theorem Zw {ns:List (AH×Re)} {i:Nat} {n:AH×Re} (h:ns[i]? =some n):Ct (ns.take (i+1))=Fk (Ct (ns.take i)) n.1:=by
 rw[EI h,ny]
theorem Jb {X:List (el AR)} {ns:List (AH×Re)} {i:Nat} {x:el AR} (f:X=ns.map nm) (d:X[i]? =some x):∃u y,x.1=tw u/\x.2=em u y/\ns[i]? =some (u,y):=by
 rw[f,List.getElem?_map] at d;cases h:ns[i]? with
 | none=>rw[h] at d;simp at d
 | some n=>
  rw[h] at d;have e:nm n=x:=Option.some.inj d;exact⟨n.1,n.2,by rw[<-e];rfl,by rw[<-e];rfl,rfl⟩
theorem Gam.Ct (G:Gam TT R K S):∀{ns:List (AH×Re)},(∀n∈ns,TT n.1)->TT (Ct ns):=by
 have key:∀(ns:List (AH×Re)) (t:AH),TT t->(∀n∈ns,TT n.1)->TT (ns.foldl (fun t n=>Fk t n.1) t):=by
  intro ns
  induction ns with
  | nil=>intro t ht _;exact ht
  | cons n ns d=>intro t ht h;exact d _ (G.join ht (h n List.mem_cons_self)) (fun m hm=>h m (List.mem_cons_of_mem _ hm))
 intro ns h;exact key ns [] G.nil h
theorem Th (G:Gam TT R K S) {ns:List (AH×Re)} (h:∀n∈ns,TT n.1):∀n∈ns,Br n.1 (Go.Abs.Ct ns):=by
 have key:∀(ns:List (AH×Re)) (t:AH),TT t->(∀n∈ns,TT n.1)->Br t (ns.foldl (fun t n=>Fk t n.1) t)/\∀n∈ns,Br n.1 (ns.foldl (fun t n=>Fk t n.1) t):=by
  intro ns
  induction ns with
  | nil=>intro t ht _;exact⟨Br.refl t,fun n d=>by simp at d⟩
  | cons n ns D=>
   intro t ht h;have d:=h n List.mem_cons_self;have j:=qf (G.Bb ht).red (G.Bb d).red;obtain⟨f,s⟩:=D _ (G.join ht d) (fun m hm=>h m (List.mem_cons_of_mem _ hm));refine⟨j.2.1.trans f,fun m hm=>?_⟩;rcases List.mem_cons.1 hm with rfl | hm
   ·exact j.2.2.trans f
   exact s m hm
 exact (key ns [] G.nil h).2
theorem ZC {U RL:List LR} {t u:AH} (G:Gam TT R K S) (ht:TT t) (hu:TT u) (hT:T=tw t) (hU:U=tw u) (aj:T2=tw (ext t u)) (ah:RL=Fs t u):CF 303 [BL T,BL U] (AS [BA T2,BA RL] 0):=by
 have ax:U.length=u.length:=by rw[hU,Cr]
 have aA:=G.ht hu;have ai:=G.RS;refine AN Tryz.func303 fun E hE=>?_
 intro av a5;have aw:=a5.eq;have f15:=a5.le;refine .inr ?_;obtain⟨J0,W⟩:=xJ fun vs bl k=>(∃(L i:Int),vs=[.one (.BX 4 0 0),.one (.BX 6 0 0),BL U,AD L,AD i]/\bl=[.var 0 [.nil,.nil],.var 0 [BA T,.nil],.dead 0]/\(EJ L U.length/\Ah i 0)/\k=U.length)\/(∃(Ti o:List LR) (mm i':Nat) (L i:Int),vs=[.one (.BX 4 0 0),.one (.BX 6 0 0),BL U,AD L,AD i]/\bl=[.var 0 [.nil,.nil],.var 0 [BA Ti,.BK (.sl AL) 39 0 0 mm],.arr 0 (.sl AL) o]/\(EJ L U.length/\Ah i i'/\i'<=U.length/\mm=o.length)/\Ti=tw (ext t (pre u i'))/\o=Fs t (pre u i')/\k=U.length-i')
 refine⟨[],[4,6,14,15,16],[4,6,39],J0,⟨U.length,by rw[W];exact .inl ⟨av,0,rfl,rfl,⟨a5,BJ 0⟩,rfl⟩⟩,?_⟩;intro vs bl aB hj;rw[W] at hj;rcases hj with⟨L,i,rfl,rfl,⟨hL,hi⟩,au⟩ |⟨Ti,o,mm,i',L,i,rfl,rfl,⟨hL,hi,ay,a8⟩,J,hinv,au⟩
 ·conv=>cbv
  have eL:=hL.eq;have ei:=hi.eq;obtain⟨i',a7⟩:=xN 0;have J:T=tw (ext t (pre u i')):=by rw[a7,OY];exact hT
  refine Bt (fun ad=>?_) fun ad=>?_
  ·have ao:u=[]:=List.eq_nil_of_length_eq_zero AA;exact AM ⟨⟨rfl,congrArg _ (by rw[aj,hT,ao];rfl),.inr (.inl ⟨_,congrArg _ (by rw[ah,ao];rfl)⟩),trivial⟩,t2,trivial⟩
  refine .inr ?_;refine BH i' fun a1 Q=>?_
  try conv=>cbv
  obtain⟨r,I,O⟩:=Ld (u:=u) (i:=i') AA;have h:TT (pre u i'):=G.Jw (Ms u i') hu;have d:TT (r::pre u i'):=I ▸ G.Jw (Ms u (i'+1)) hu;have N:=(G.Bb d).red;have ab:a1=em (pre u i') (AW (pre u i') r):=by rw[<-hU,Q] at O;exact (Option.some.inj O).trans (Fh N)
  have f:TT (ext t (pre u i')):=G.ext ht h;have H:=(Jr (G.Bb ht).red (G.Bb h).red).2;have M:El (pre u i') S (AW (pre u i') r):=(El.Da (G.Bb d)).mono ai;have P:TT (BW (ext t (pre u i')) (AW (pre u i') r)):=G.BW f d H;have a6:ext t (pre u (i'+1))=BW (ext t (pre u i')) (AW (pre u i') r):=by rw[I];rfl
  have aa:Fs t (pre u (i'+1))=Fs t (pre u i')++[em (BW (ext t (pre u i')) (AW (pre u i') r)) (Re.sqrt (AW (pre u i') r))]:=by rw[I];rfl
  obtain⟨ag,s⟩:=xR (em (ext t (pre u i')) (AW (pre u i') r));refine cLy (r:= .one (AU ag)) hE (Zf G f h H J (by rw[a7,OY];trivial) ab M s) ⟨⟨rfl,.inr ⟨_,rfl⟩,trivial⟩,rfl,trivial⟩ ?_;obtain⟨V,D⟩:=xV (tw (BW (ext t (pre u i')) (AW (pre u i') r)));obtain⟨j,F⟩:=xR (em (BW (ext t (pre u i')) (AW (pre u i') r)) (Re.sqrt (AW (pre u i') r)));refine AB (r:= .BN [(false,[BA V]),(false,[AU j]),(false,[.int .i64 0])]) hE (SF (G.Bb f) (G.Bb P) (G.ht P) J s (G.Cp h f H M) (G.fit f) (by have:=N.2.2.1;grind) D F) ?_;refine AY ?_;refine⟨[j],DK,.inr ?_⟩;try conv=>cbv
  refine .inl ⟨[j],fun _=>⟨rfl,C2 (1) 24⟩,?_⟩;refine AP ?_;intro Z aq af ar;refine⟨U.length-(i'+1),?_,?_⟩
  ·omega
  rw[W];exact .inr ⟨V,[j],Z,i'+1,L,af,rfl,rfl,⟨hL,⟨AA⟩,AA,aq⟩,by rw[D,a6],by rw[aa,F,a7,OY];rfl,rfl⟩
 conv=>cbv
 have eL:=hL.eq;have ei:=hi.eq;have az:o.length<=U.length:=by rw[hinv,Of,KY AA];omega
 refine Bt (fun ad=>?_) fun ad=>?_
 ·have an:pre u i'=u:=by rw[(AA:i'=u.length)];exact ba u
  exact AM ⟨⟨rfl,congrArg _ (by rw[aj,J,an]),.inl ⟨_,rfl,AA,congrArg _ (by rw[ah,a8,List.drop_zero,List.take_length,hinv,an])⟩,trivial⟩,t2,trivial⟩
 refine .inr ?_;refine BH i' fun a1 Q=>?_
 try conv=>cbv
 obtain⟨r,I,O⟩:=Ld (u:=u) (i:=i') AA;have h:TT (pre u i'):=G.Jw (Ms u i') hu;have d:TT (r::pre u i'):=I ▸ G.Jw (Ms u (i'+1)) hu;have N:=(G.Bb d).red;have ab:a1=em (pre u i') (AW (pre u i') r):=by rw[<-hU,Q] at O;exact (Option.some.inj O).trans (Fh N)
 have f:TT (ext t (pre u i')):=G.ext ht h;have H:=(Jr (G.Bb ht).red (G.Bb h).red).2;have M:El (pre u i') S (AW (pre u i') r):=(El.Da (G.Bb d)).mono ai;have P:TT (BW (ext t (pre u i')) (AW (pre u i') r)):=G.BW f d H;have a6:ext t (pre u (i'+1))=BW (ext t (pre u i')) (AW (pre u i') r):=by rw[I];rfl
 have aa:Fs t (pre u (i'+1))=Fs t (pre u i')++[em (BW (ext t (pre u i')) (AW (pre u i') r)) (Re.sqrt (AW (pre u i') r))]:=by rw[I];rfl
 obtain⟨ag,s⟩:=xR (em (ext t (pre u i')) (AW (pre u i') r));refine .inr (.inr (.inl ⟨39,.arr 0 (.sl AL) o,[.agg [BA Ti,.BK (.sl AL) 0 0 0 mm],AT a1],AT ag,AQ,fun _=>Hq hE (imD G f h H J (by rw[hinv];exact Og (G.Bb ht).red (G.Bb h).red) a8 ab M s),?_⟩));try conv=>cbv
 obtain⟨V,D⟩:=xV (tw (BW (ext t (pre u i')) (AW (pre u i') r)));obtain⟨j,F⟩:=xR (em (BW (ext t (pre u i')) (AW (pre u i') r)) (Re.sqrt (AW (pre u i') r)));refine AB (r:= .BN [(false,[BA V]),(false,[AU j]),(false,[.int .i64 0])]) hE (SF (G.Bb f) (G.Bb P) (G.ht P) J s (G.Cp h f H M) (G.fit f) (by have:=N.2.2.1;grind) D F) ?_;refine AY ?_;refine⟨[j],DK,.inr ?_⟩;try conv=>cbv
 refine .inl ⟨[j],fun _=>⟨rfl,a8,rfl,C2 (o.length+1) 24⟩,?_⟩;intro (ae:List (el (.sl AL))) Z a2;have ak:ae=(o:List (el (.sl AL)))++([j]:List (el (.sl AL))):=a2.1;have al:Z=List.length (α:=(el (.sl AL))) ae:=a2.2;refine AP ?_;intro af ar;refine⟨U.length-(i'+1),?_,?_⟩
 ·omega
 rw[W];exact .inr ⟨V,ae,Z,i'+1,L,af,rfl,rfl,⟨hL,⟨AA⟩,AA,al⟩,by rw[D,a6],by rw[ak,hinv,aa,F],rfl⟩
end
section
variable {K R S:Nat} {L:List (el AR)} {T:List LR} {TT:AH->Prop}
theorem lM (G:Gam TT R K S) {ns:List (AH×Re)} (P:∀n∈ns,TT n.1) (hL:L=ns.map nm) (hT:T=tw (Ct ns)):CF 302 [.one (.sl AR L)] (.BN [(false,[BA T]),(false,[.int .i64 0])]):=by
 have a7:L.length=ns.length:=by rw[hL,List.length_map]
 refine AN Tryz.func302 fun E hE=>?_
 intro a5 H;have a6:=H.eq;have f10:=H.le;refine Bc [(4,.sl AL,false)] [4,9,10,11] [] (fun vs bl k=>∃(W:List LR) (i':Nat) (n i:Int),vs=[BL W,.one (.sl AR L),AD n,AD i]/\bl=[]/\(EJ n L.length/\Ah i i'/\i'<=L.length)/\W=tw (Ct (ns.take i'))/\k=L.length-i') L.length ⟨[],0,a5,0,rfl,rfl,⟨H,BJ 0,AA⟩,rfl,rfl⟩ ?_;rintro J0 I vs bl ad ⟨W,i',n,i,rfl,rfl,⟨N,hi,a8⟩,d,aa⟩;conv=>cbv
 have en:=N.eq;have ei:=hi.eq;refine Bt (fun a2=>?_) fun a2=>?_
 ·exact AM ⟨⟨rfl,congrArg _ (by rw[hT,d,List.take_of_length_le (AA:ns.length<=i')]),trivial⟩,t2,trivial⟩
 refine .inr ?_;refine BH i' fun ag V=>?_
 try conv=>cbv
 obtain⟨u,y,t,ab,Q⟩:=Jb hL V;have hu:TT u:=P _ (List.mem_of_getElem? Q);have s:=Zw Q;unfold Fk at s;have J:TT (Ct (ns.take i')):=G.Ct (fun n N=>P n (List.mem_of_mem_take N));refine .inr ?_;obtain⟨Z,f⟩:=FC (u<:+(Ct (ns.take i')));refine AB hE (No (G.Bb J) (G.Bb hu) d t f) ?_;refine .inr ?_;cases Z <;> conv=>cbv
 ·have D:=fun q=>Bool.false_ne_true (f.2 q)
  obtain⟨a1,h⟩:=FC ((Ct (ns.take i'))<:+u);refine AB hE (No (G.Bb hu) (G.Bb J) t d h) ?_;refine .inr ?_;cases a1 <;> conv=>cbv
  ·have M:=fun q=>Bool.false_ne_true (h.2 q)
   obtain⟨ae,F⟩:=xV (tw (ext (Ct (ns.take i')) u));obtain⟨af,U⟩:=xV (Fs (Ct (ns.take i')) u);refine AB hE (ZC G J hu d t F U) ?_;refine AY ?_;intro j O;exact Bz I ⟨_,i'+1,n,j,rfl,rfl,⟨N,⟨AA⟩,AA⟩,by rw[s,if_neg D,if_neg M,F],rfl⟩
  have M:=h.1 rfl;refine AP ?_;intro j O;exact Bz I ⟨_,i'+1,n,j,rfl,rfl,⟨N,⟨AA⟩,AA⟩,by rw[s,if_neg D,if_pos M];exact t,rfl⟩
 have D:=f.1 rfl;refine AP ?_;intro j O;exact Bz I ⟨_,i'+1,n,j,rfl,rfl,⟨N,⟨AA⟩,AA⟩,by rw[s,if_pos D,<-d],rfl⟩
theorem SJ (G:Gam TT R K S) {ns:List (AH×Re)} (I:∀n∈ns,TT n.1) (hL:L=ns.map nm) (ae:∀n∈ns,El n.1 S n.2) (hlen:ns.length<=1000000) {O:List (el AR)} (hO:O=ns.map (fun n=>nm (Ct ns,n.2))):CF 252 [.one (.sl AR L)] (.BN [(false,[.sl AR O]),(false,[.int .i64 0])]):=by
 have aj:L.length=ns.length:=by rw[hL,List.length_map]
 have d:TT (Ct ns):=G.Ct I;obtain⟨T,H⟩:=xV (tw (Ct ns));refine AN Tryz.func252 fun E V=>?_
 refine AB V (lM G I hL H) ?_;refine AY ?_;intro ag U;have ai:=U.eq;have f21:=U.le;refine Bc [(6,AR,true)] [4,6,20,21,22] [6] (fun vs bl k=>∃(o:List (el AR)) (mm i':Nat) (n i:Int),vs=[BL T,.one (.BK AR 6 0 0 mm),.one (.sl AR L),AD n,AD i]/\bl=[.arr 0 AR o]/\(EJ n L.length/\Ah i i'/\i'<=L.length/\mm=o.length)/\o=(ns.take i').map (fun n=>nm (Ct ns,n.2))/\k=L.length-i') L.length ⟨[],0,0,ag,0,rfl,rfl,⟨U,BJ 0,Nat.zero_le _,rfl⟩,rfl,rfl⟩ ?_;rintro J0 a5 vs bl ao ⟨o,mm,i',n,i,rfl,rfl,⟨hn,hi,ak,W⟩,hinv,al⟩;conv=>cbv
 have en:=hn.eq;have ei:=hi.eq;have an:o.length<=L.length:=by rw[hinv,List.length_map,List.length_take];omega
 refine Bt (fun af=>?_) fun af=>?_
 ·exact AM ⟨⟨rfl,.inl ⟨_,rfl,AA,congrArg _ (by rw[hO,W,hinv,List.drop_zero,List.take_length,List.take_of_length_le (AA:ns.length<=i')])⟩,trivial⟩,t2,trivial⟩
 refine .inr ?_;refine BH i' fun aq a6=>?_
 try conv=>cbv
 obtain⟨u,y,a7,a8,Z⟩:=Jb hL a6;have a1:=List.mem_of_getElem? Z;have hu:TT u:=I _ a1;have M:El u S y:=ae _ a1;have J:Br u (Ct ns):=Th G I _ a1;obtain⟨N,j⟩:=xR (em (Ct ns) y);obtain⟨ab,s⟩:=FC (u<:+Ct ns);refine AB V (No (G.Bb d) (G.Bb hu) H a7 s) ?_;refine .inr ?_;cases ab <;> conv=>cbv
 ·have aa:=fun q=>Bool.false_ne_true (s.2 q)
  obtain⟨ah,Q⟩:=xV (Fs (Ct ns) u);have P:=UE (G.Bb d).red (G.Bb hu).red J;refine AB (r:= .BN [(true,[BA T,BA ah]),(false,[.int .i64 0])]) V (ZC G d hu H a7 (by rw[P];exact H) Q) ?_;refine AY ?_;refine AB (r:= .one (AU N)) V (Zf G d hu J H (by rw[Q];have:=Og (G.Bb d).red (G.Bb hu).red;rwa [P] at this) a8 M j) ?_;refine AB (r:= .agg [BA T,AU N]) V (QD (G.Bb d) H j (G.Cp hu d J M) (by have:=G.mul d;omega)) ?_;refine⟨[(T,N)],DK,.inr ?_⟩;try conv=>cbv
  refine .inl ⟨[(T,N)],fun _=>⟨rfl,W,rfl,C2 (o.length+1) 48⟩,?_⟩;intro (h:List (el AR)) F f;have t:h=(o:List (el AR))++([(T,N)]:List (el AR)):=f.1;have D:F=List.length (α:=(el AR)) h:=f.2;refine AP ?_;intro a2 ad;exact Bz a5 ⟨h,F,i'+1,n,a2,rfl,rfl,⟨hn,⟨AA⟩,AA,D⟩,by rw[t,hinv,EI Z,List.map_append];simp[nm,H,j],rfl⟩
 have aa:=s.1 rfl;refine AB V (VL (G.Bb d) H a8 M.mem aa j) ?_;refine AB (r:= .agg [BA T,AU N]) V (QD (G.Bb d) H j (G.Cp hu d J M) (by have:=G.mul d;omega)) ?_;refine⟨[(T,N)],DK,.inr ?_⟩;try conv=>cbv
 refine .inl ⟨[(T,N)],fun _=>⟨rfl,W,rfl,C2 (o.length+1) 48⟩,?_⟩;intro (h:List (el AR)) F f;have t:h=(o:List (el AR))++([(T,N)]:List (el AR)):=f.1;have D:F=List.length (α:=(el AR)) h:=f.2;refine AP ?_;intro a2 ad;exact Bz a5 ⟨h,F,i'+1,n,a2,rfl,rfl,⟨hn,⟨AA⟩,AA,D⟩,by rw[t,hinv,EI Z,List.map_append];simp[nm,H,j],rfl⟩
noncomputable def CD (u v:AH):AH:=Ct [(u,0),(v,0)]
theorem TS (G:Gam TT R K S) {T1 T2:List LR} {A1 A2:LR} {u v:AH} {x y:Re} (hu:TT u) (hv:TT v) (J:T1=tw u) (M:T2=tw v) (H:A1=em u x) (I:A2=em v y) (hx:El u S x) (hy:El v S y) {A B C:LR} {g:FuncId} (hT:T=tw (CD u v)) (Z:A=em (CD u v) x) (hB:B=em (CD u v) y) (hg:CF g [BL T,AT A,AT B] (AT C)):CF 197 [.agg (AK T1 A1),.agg (AK T2 A2),.one (.fn g)] (AS (AK T C) 0):=by
 obtain⟨O,t⟩:∃z:List (el AR),z=[(T,A),(T,B)]:=⟨_,rfl⟩
 have a1:O.length=2:=by rw[t];rfl
 have U:O[0]? =some (T,A):=by rw[t];rfl
 have W:O[1]? =some (T,B):=by rw[t];rfl
 refine AN Tryz.func197 fun E V=>?_
 refine⟨[(T1,A1),(T2,A2)],fun _=>⟨rfl,AF,rfl,⟨rfl,Ds,⟨rfl,Ds,trivial⟩⟩⟩,.inr ?_⟩;try conv=>cbv
 refine AB (r:= .BN [(false,[.sl AR O]),(false,[.int .i64 0])]) V (SJ (ns:=[(u,x),(v,y)]) G (by intro n f;simp at f;rcases f with rfl | rfl;exact hu;exact hv) (by rw[J,M,H,I];rfl) (by intro n f;simp at f;rcases f with rfl | rfl;exact hx;exact hy) (by show 2<=1000000;decide) (by rw[t,hT,Z,hB];rfl)) ?_;refine AY ?_;refine BH 0 fun N h=>?_
 try conv=>cbv
 refine BH 0 fun P j=>?_
 try conv=>cbv
 refine BH 1 fun Q s=>?_
 try conv=>cbv
 have d:=Option.some.inj (h.symm.trans U);have D:=Option.some.inj (j.symm.trans U);have F:=Option.some.inj (s.symm.trans W);refine .inl ⟨[BL N.1,AT P.2,AT Q.2],AT C,fun _=>t3,fun _=>GX V (by rw[d,D,F];exact hg),?_⟩;try conv=>cbv
 refine g2 rfl ?_;exact AM ⟨⟨rfl,congrArg _ (by rw[d]),rfl,trivial⟩,t2,trivial⟩
end
section
section
variable {TT:AH->Prop} {R K S:Nat}
theorem Gam.CD (G:Gam TT R K S) {u v:AH} (hu:TT u) (h:TT v):TT (Go.Abs.CD u v)/\Br u (Go.Abs.CD u v)/\Br v (Go.Abs.CD u v):=by
 have d:∀n∈[(u,(0:Re)),(v,0)],TT n.1:=by intro n f;simp at f;rcases f with rfl | rfl;exact hu;exact h
 have he:=Th G d;exact⟨G.Ct d,he (u,0) AZ,he (v,0) AZ⟩
end
theorem I7 (T0:List LR):∃z:List LR,z=T0:=⟨_,rfl⟩
theorem Di (T0:LR):∃z:LR,z=T0:=⟨_,rfl⟩
theorem gW {TT:AH->Prop} {R K S:Nat} (G:Gam TT R K S) {T1 T2:List LR} {A1 A2:LR} {u v:AH} {x y:Re} (hu:TT u) (F:TT v) (j:T1=tw u) (s:T2=tw v) (f:A1=em u x) (h:A2=em v y) (O:El u S x) (P:El v S y) {T:List LR} {C:LR} (N:T=tw (CD u v)) (Q:C=em (CD u v) (x+y)):CF 151 [.agg (AK T1 A1),.agg (AK T2 A2)] (AS (AK T C) 0):=by
 obtain⟨d,t,D⟩:=G.CD hu F;have H:=G.Cp hu d t O;have I:=G.Cp F d D P;have hmul:=G.mul d;obtain⟨A,J⟩:=Di (em (CD u v) x);obtain⟨B,M⟩:=Di (em (CD u v) y);refine AN Tryz.func151 fun E U=>?_
 refine AB U (TS G hu F j s f h O P N J M (Lt (G.Bb d) N J M H I AA AA Q)) ?_;exact AM ⟨t3,t2,trivial⟩
theorem ga {TT:AH->Prop} {R K S:Nat} (G:Gam TT R K S) {T1 T2:List LR} {A1 A2:LR} {u v:AH} {x y:Re} (hu:TT u) (F:TT v) (j:T1=tw u) (s:T2=tw v) (f:A1=em u x) (h:A2=em v y) (O:El u S x) (P:El v S y) {T:List LR} {C:LR} (N:T=tw (CD u v)) (Q:C=em (CD u v) (x-y)):CF 128 [.agg (AK T1 A1),.agg (AK T2 A2)] (AS (AK T C) 0):=by
 obtain⟨d,t,D⟩:=G.CD hu F;have H:=G.Cp hu d t O;have I:=G.Cp F d D P;have hmul:=G.mul d;obtain⟨A,J⟩:=Di (em (CD u v) x);obtain⟨B,M⟩:=Di (em (CD u v) y);refine AN Tryz.func128 fun E U=>?_
 refine AB U (TS G hu F j s f h O P N J M (PK (G.Bb d) N J M H I AA AA Q)) ?_;exact AM ⟨t3,t2,trivial⟩
theorem SK {TT:AH->Prop} {R K S:Nat} (G:Gam TT R K S) {T1 T2:List LR} {A1 A2:LR} {u v:AH} {x y:Re} (hu:TT u) (F:TT v) (j:T1=tw u) (s:T2=tw v) (f:A1=em u x) (h:A2=em v y) (O:El u S x) (P:El v S y) {T:List LR} {C:LR} (N:T=tw (CD u v)) (Q:C=em (CD u v) (x*y)):CF 155 [.agg (AK T1 A1),.agg (AK T2 A2)] (AS (AK T C) 0):=by
 obtain⟨d,t,D⟩:=G.CD hu F;have H:=G.Cp hu d t O;have I:=G.Cp F d D P;have hmul:=G.mul d;obtain⟨A,J⟩:=Di (em (CD u v) x);obtain⟨B,M⟩:=Di (em (CD u v) y);refine AN Tryz.func155 fun E U=>?_
 refine AB U (TS G hu F j s f h O P N J M (Ij (G.Bb d) N J M H I AA Q)) ?_;exact AM ⟨t3,t2,trivial⟩
theorem SL {TT:AH->Prop} {R K S:Nat} (G:Gam TT R K S) {T1:List LR} {A1:LR} {u:AH} {x:Re} (hu:TT u) (f:T1=tw u) (d:A1=em u x) (j:El u S x) {C:LR} (s:C=em u (-x)):CF 50 [.agg (AK T1 A1)] (.agg (AK T1 C)):=by
 have hmul:=G.mul hu;refine AN Tryz.func50 fun E h=>?_
 refine AB h (QD (G.Bb hu) f d j) ?_;refine AB h (Wt (G.Bb hu) f d j AA s) ?_;exact AM ⟨t3,trivial⟩
theorem Wq {TT:AH->Prop} {R K S:Nat} (G:Gam TT R K S) {T1:List LR} {A1:LR} {u:AH} {x:Re} (hu:TT u) (f:T1=tw u) (d:A1=em u x) (s:El u S x) {c:Int} (j:c=CA x):CF 49 [.agg (AK T1 A1)] (AD c):=by
 refine AN Tryz.func49 fun E h=>?_
 refine AB h (NU (G.Bb hu) f d s ((G.fit hu).mono (Nat.le_add_right _ _)).v0 (G.fit hu).vR j) ?_;exact AM ⟨t2,trivial⟩
theorem gZ {TT:AH->Prop} {R K S:Nat} (G:Gam TT R K S) {T1:List LR} {A1:LR} {u:AH} {x:Re} (hu:TT u) (f:T1=tw u) (d:A1=em u x) (I:El u S x) (hw:TT (BW u x)) (F:0<=x) {T:List LR} {C:LR} (D:T=tw (BW u x)) (j:C=em (BW u x) (Re.sqrt x)) {s:Nat} (H:El (BW u x) s (Re.sqrt x)) (h:s<=60000000000000):CF 121 [.agg (AK T1 A1)] (AS (AK T C) 0):=by
 refine AN Tryz.func121 fun E t=>?_
 refine AB t (SF (G.Bb hu) (G.Bb hw) (G.ht hw) f d I ((G.fit hu).mono (Nat.le_add_right _ _)) F D j) ?_;refine AY ?_;refine AB t (QD (G.Bb hw) D j H h) ?_;exact AM ⟨t3,t2,trivial⟩
theorem gX {TT:AH->Prop} {R K S:Nat} (G:Gam TT R K S) {T1 T2:List LR} {A1 A2:LR} {u v:AH} {x y:Re} (hu:TT u) (I:TT v) (t:T1=tw u) (f:T2=tw v) (h:A1=em u x) (j:A2=em v y) (O:El u S x) (P:El v S y) {i:Re} (N:In v i) (F:y*i=1) (D:El v S i) (s:II v.length R S<=60000000000000) {T:List LR} {C:LR} (M:T=tw (CD u v)) (J:C=em (CD u v) (x*i)):CF 220 [.agg (AK T1 A1),.agg (AK T2 A2)] (AS (AK T C) 0):=by
 refine AN Tryz.func220 fun E H=>?_
 obtain⟨Q,d⟩:=Di (em v i);refine AB H (PE (G.Bb I) f j P N F s d) ?_;refine AY ?_;refine AB H (SK G hu I t f h d O D M J) ?_;exact AM ⟨t3,t2,trivial⟩
theorem TY {u:AH} {x y:Re} (d:In u x) (f:In u y):em u x=em u y↔x=y:=
 ⟨fun h=>by rw[<-FE d,<-FE f,cS h],fun h=>by rw[h]⟩
theorem tc {u v:AH} (h:u<:+v) (k:v<:+u):u=v:=h.eq_of_length_le k.length_le
theorem gY {TT:AH->Prop} {R K S:Nat} (G:Gam TT R K S) {T1 T2:List LR} {A1 A2:LR} {u v:AH} {x y:Re} (hu:TT u) (hv:TT v) (J:T1=tw u) (M:T2=tw v) (H:A1=em u x) (I:A2=em v y) (hx:El u S x) (hy:El v S y) {c:Bool} (hc:c=true↔x=y):CF 219 [.agg (AK T1 A1),.agg (AK T2 A2)] (.one (.bool c)):=by
 obtain⟨U,a8,aa⟩:=G.CD hu hv;have N:=G.Cp hu U a8 hx;have P:=G.Cp hv U aa hy;have hmul:=G.mul U;obtain⟨A,Z⟩:=Di (em (CD u v) x);obtain⟨B,hB⟩:=Di (em (CD u v) y);obtain⟨T,hT⟩:=I7 (tw (CD u v));obtain⟨O,hO⟩:∃z:List (el AR),z=[(T,A),(T,B)]:=⟨_,rfl⟩
 have ab:O.length=2:=by rw[hO];rfl
 have h0:O[0]? =some (T,A):=by rw[hO];rfl
 have h1:O[1]? =some (T,B):=by rw[hO];rfl
 refine AN Tryz.func219 fun E Q=>?_
 obtain⟨a6,h⟩:=FC (v<:+u);refine AB Q (No (G.Bb hu) (G.Bb hv) J M h) ?_;cases a6 <;> conv=>cbv
 ·have a2:=fun q=>Bool.false_ne_true (h.2 q)
  refine⟨[(T1,A1),(T2,A2)],fun _=>⟨rfl,AF,rfl,⟨rfl,Ds,⟨rfl,Ds,trivial⟩⟩⟩,.inr ?_⟩;try conv=>cbv
  refine AB (r:= .BN [(false,[.sl AR O]),(false,[.int .i64 0])]) Q (SJ (ns:=[(u,x),(v,y)]) G (by intro n t;simp at t;rcases t with rfl | rfl;exact hu;exact hv) (by rw[J,M,H,I];rfl) (by intro n t;simp at t;rcases t with rfl | rfl;exact hx;exact hy) (by show 2<=1000000;decide) (by rw[hO,hT,Z,hB];rfl)) ?_;refine Bx ?_;refine BH 0 fun V D=>?_
  try conv=>cbv
  refine BH 1 fun W F=>?_
  try conv=>cbv
  have d:=Option.some.inj (D.symm.trans h0);have f:=Option.some.inj (F.symm.trans h1);have s:c=decide (V.2=W.2):=by rw[Bool.eq_iff_iff,decide_eq_true_eq,hc,d,f,Z,hB];exact (TY N.mem P.mem).symm
  refine AB (r:= .one (.bool c)) Q (RY (by rw[d];exact Z) (by rw[f];exact hB) (N.C4 AA) (P.C4 AA) s) ?_;exact AM ⟨t2,trivial⟩
 have a2:=h.1 rfl;obtain⟨a7,j⟩:=FC (u<:+v);refine AB Q (No (G.Bb hv) (G.Bb hu) M J j) ?_;cases a7 <;> conv=>cbv
 ·have a5:=fun q=>Bool.false_ne_true (j.2 q)
  refine⟨[(T1,A1),(T2,A2)],fun _=>⟨rfl,AF,rfl,⟨rfl,Ds,⟨rfl,Ds,trivial⟩⟩⟩,.inr ?_⟩;try conv=>cbv
  refine AB (r:= .BN [(false,[.sl AR O]),(false,[.int .i64 0])]) Q (SJ (ns:=[(u,x),(v,y)]) G (by intro n t;simp at t;rcases t with rfl | rfl;exact hu;exact hv) (by rw[J,M,H,I];rfl) (by intro n t;simp at t;rcases t with rfl | rfl;exact hx;exact hy) (by show 2<=1000000;decide) (by rw[hO,hT,Z,hB];rfl)) ?_;refine Bx ?_;refine BH 0 fun V D=>?_
  try conv=>cbv
  refine BH 1 fun W F=>?_
  try conv=>cbv
  have d:=Option.some.inj (D.symm.trans h0);have f:=Option.some.inj (F.symm.trans h1);have s:c=decide (V.2=W.2):=by rw[Bool.eq_iff_iff,decide_eq_true_eq,hc,d,f,Z,hB];exact (TY N.mem P.mem).symm
  refine AB (r:= .one (.bool c)) Q (RY (by rw[d];exact Z) (by rw[f];exact hB) (N.C4 AA) (P.C4 AA) s) ?_;exact AM ⟨t2,trivial⟩
 have a5:=j.1 rfl;have a1:=tc a5 a2;have s:c=decide (A1=A2):=by rw[Bool.eq_iff_iff,decide_eq_true_eq,hc,H,I,<-a1];exact (TY hx.mem (a1 ▸ hy.mem)).symm
 refine AB Q (RY H I (hx.C4 AA) (hy.C4 AA) s) ?_;exact AM ⟨t2,trivial⟩
theorem Kw {q:Rat} {b1 b2:Bool} {l1 l2:List UInt32} {C:LR} (d:Bw q b1 l1 b2 l2) (j:Cw q) (f:C=em [] (Re.ofRat q)):CF 153 [.agg (CT b1 l1 b2 l2)] (.agg (AK [] C)):=by
 refine AN Tryz.func153 fun E h=>?_
 refine AB h (Yg d j) ?_;refine⟨[((b1,l1),(b2,l2))],DK,.inr ?_⟩;try conv=>cbv
 exact AM ⟨⟨rfl,CN,congrArg _ (by rw[f,FD,<-d.rp]),trivial⟩,trivial⟩
theorem Kv {x:Int} {C:LR} (s: -9223372036854775808<=x/\x<9223372036854775808) (j:Cw x) (h:C=em [] (Re.ofRat x)):CF 93 [AD x] (.agg (AK [] C)):=by
 refine AN Tryz.func93 fun E f=>?_
 obtain⟨F,G,t,D,d⟩:=CZ (x:Rat);refine AB f (Il s rfl d) ?_;refine AB f (Kw d j h) ?_;exact AM ⟨t3,trivial⟩
end
section
structure FQ (h R s:Nat):Prop where
 q:SS h R s<=60000000000000
 v:VV h R (s+GG h R)<=60000000000000
 qR:SS h R R<=60000000000000
 vR:VV h R R<=60000000000000
variable {A B:LR} {R':Nat} {T T2:List LR} {r:List Rat} {u:AH} {v x:Re}
theorem FQ.v0 {h R s:Nat} (f:FQ h R s):VV h R s<=60000000000000:=Nat.le_trans (JK h R AA) f.v
theorem FQ.s {h R s:Nat} (f:FQ h R s):s<=60000000000000:=Nat.le_trans (W6 h R s) f.q
theorem FQ.mono {h R s t:Nat} (f:FQ h R s) (ht:t<=s):FQ h R t:=⟨Nat.le_trans (PI h R ht) f.q,Nat.le_trans (JK h R AA) f.v,f.qR,f.vR⟩
theorem iC:∀(h R s:Nat),SS h R s<=SS (h+1) R s:=fun h R s=>Nat.le_trans (PI h R (by unfold TQ;omega)) (W5 h R s)
theorem hH {i h:Nat} (d:i<=h) (R s:Nat):SS i R s<=SS h R s:=by
 induction d with
 | refl=>exact Nat.le_refl _
 | step _ f=>exact Nat.le_trans f (iC _ _ _)
theorem jf {R s:Nat} (h:BZ R u) (P:T=tw u) (Q:A=em u x) (V:El u s x) (J:FQ u.length R s) {w:Re} (hw:In u w) (j:w*w=x) (W:JN u x w) (F:0<=v) (G:v*v=x) (O:B=em u v):CF 265 [BL T,AT A] (.BN [(false,[AU B]),(false,[.bool true])]):=by
 have H:=V.sqrt h hw j;refine AN Tryz.func265 fun E I=>?_
 obtain⟨a1,d⟩:=xR (em u w);refine AB I (W P Q d) ?_;refine AY ?_;obtain⟨Z,D⟩:=xI (CA w);refine AB I (IG h P d H J.v (Nat.le_trans (G6 _ _ _) J.v) J.vR D) ?_;intro N t;refine .inr ?_;cases N <;> conv=>cbv
 ·have M:=ES t;exact AM ⟨⟨rfl,congrArg _ (by rw[O,d];congr 1;have:¬w<0:=(fun U=>by have:=KR.2 U;omega);exact Re.M3 F (by grind) (G.trans j.symm)),trivial⟩,t2,trivial⟩
 have M:=ET t;obtain⟨a2,f⟩:=xR (em u (-w));refine AB I (L3 h d H f) ?_;exact AM ⟨⟨rfl,congrArg _ (by rw[O,f];congr 1;have:w<0:=KR.1 AA;exact Re.M3 F (by grind) (by rw[G,<-j];grind)),trivial⟩,t2,trivial⟩
theorem je {B:LR} {R s:Nat} (h:BZ R u) (j:T=tw u) (d:A=em u x) (F:El u s x) (D:FQ u.length R s) {l:LR} (t:JM u x l):CF 265 [BL T,AT A] (.BN [(false,[.sl AL (([]:LR))]),(false,[.bool false])]):=by
 refine AN Tryz.func265 fun E f=>?_
 refine AB f (t j d) ?_;refine Bx ?_;exact AM AQ
theorem jg {R s:Nat} (h:BZ R u) (I:T=tw u) (G:A=em u x) (F:El u s x) (f:FQ u.length R s) (J:In u v) (t:0<=v) (d:v*v=x) (H:B=em u v):CF 265 [BL T,AT A] (.BN [(false,[AU B]),(false,[.bool true])]):=by
 rcases WW h F f.q f.vR with⟨w,hw,D,M⟩ |⟨j,_⟩
 ·exact jf h I G F f hw D M t d H
 exact absurd ⟨v,J,d⟩ j
theorem jd {R s:Nat} (h:BZ R u) (F:T=tw u) (D:A=em u x) (t:El u s x) (d:FQ u.length R s) (f:¬Sq u x):CF 265 [BL T,AT A] (.BN [(false,[AU []]),(false,[.bool false])]):=by
 rcases WW h t d.q d.vR with⟨w,hw,j,H⟩ |⟨_,l,G⟩
 ·exact absurd ⟨w,hw,j⟩ f
 exact je (B:=[]) h F D t d G
theorem XK {R:Nat} (h:BZ R u) (N:T=tw u) (hv:VV u.length R R<=60000000000000) (hq:SS u.length R R<=60000000000000):CF 207 [BL T] (.one (.bool true)):=by
 have au:T.length=u.length:=by rw[N,Cr]
 have hR:=h.hR;refine AN Tryz.func207 fun E hE=>?_
 refine Bc [] [0,3] [] (fun vs bl k=>∃(i':Nat) (i:Int),vs=[BL T,AD i]/\(Ah i i'/\i'<=T.length)/\k=T.length-i') (T.length-0) ⟨0,0,rfl,⟨BJ 0,AA⟩,rfl⟩ ?_;rintro J0 aa vs bl ax ⟨i',i,rfl,⟨hi,av⟩,aw⟩;have ei:=hi.eq;refine Ak ?_;rintro n8 ⟨e8,f8⟩;refine Bt (fun k9=>?_) fun k9=>?_
 ·exact AM ⟨t2,trivial⟩
 refine .inr ?_;refine AP ?_;intro ay an a6 aj ae O;refine BH i' fun aC Z=>?_
 try conv=>cbv
 obtain⟨r,W,V⟩:=Ld (u:=u) (i:=i') AA;have D:BG (r::pre u i'):=W ▸ (h.pre (i'+1)).red;have F:∀x,T[i']? =some x->x=em (pre u i') (AW (pre u i') r):=fun x hx=>by rw[<-N,hx] at V;exact (Option.some.inj V).trans (Fh D)
 have H:=F _ Z;have t:El (pre u i') R (AW (pre u i') r):=El.Da (W ▸ h.pre (i'+1));have f:ae=tw (pre u i'):=by rw[O,List.drop_zero,(AA:a6=i'),N,Jo]
 have U:(pre u i').length<=u.length:=by rw[KY AA];omega
 have G:VV (pre u i').length R R<=60000000000000:=Nat.le_trans (NW U R R) hv;have ab:SS (pre u i').length R R<=60000000000000:=Nat.le_trans (hH U R R) hq;refine AB hE (PO (h.pre i') f H t hR) ?_;refine AY ?_;intro az ao a7 ak af P;refine BH i' fun aD a1=>?_
 try conv=>cbv
 have j:af=tw (pre u i'):=by rw[P,List.drop_zero,(AA:a7=i'),N,Jo]
 have I:=F _ a1;obtain⟨aB,d⟩:=xI (CA (AW (pre u i') r));refine AB hE (IG (h.pre i') j I t G hR G d) ?_;intro ai M;cases ai <;> conv=>cbv
 ·have a5:=OK M;refine AP ?_;intro aA aq a8 al ag Q;refine BH i' fun aE a2=>?_
  try conv=>cbv
  have s:ag=tw (pre u i'):=by rw[Q,List.drop_zero,(AA:a8=i'),N,Jo]
  have J:=F _ a2;obtain⟨l,hn⟩:=((WW (h.pre i') t ab G).resolve_left (fun⟨w,hw,ad,_⟩=>D.2.2.2 ⟨w,hw,ad⟩)).2;refine AB hE (hn s J) ?_;intro ah ar;exact Bz aa ⟨i'+1,ah,rfl,⟨⟨AA⟩,AA⟩,rfl⟩
 have a5:=OL M;exact absurd a5 (by rw[d,H8 D.2.2.1];omega)
theorem iP {R s:Nat} (h:BZ R u) (I:T=tw u) (G:A=em u x) (J:El u s x) (t:FQ u.length R s) (N:In u v) (D:0<=v) (f:v*v=x) (M:B=em u v):CF 209 [BL T,AT A] (.BN [(false,[BA T]),(false,[AU B]),(false,[.int .i64 0])]):=by
 have F:0<=x:=by rw[<-f];exact Re.Hm v
 refine AN Tryz.func209 fun E H=>?_
 obtain⟨O,d⟩:=xI (CA x);refine AB H (IG h I G J t.v0 t.s t.vR d) ?_;refine C6 (fun j=>?_) fun j=>?_
 ·exact (KT d j F).elim
 refine AB H (jg h I G J t N D f M) ?_;exact AM AQ
theorem iQ {R s:Nat} (h:BZ R u) (P:T=tw u) (U:A=em u x) (hx:El u s x) (O:FQ u.length R s) (h8:u.length<8) (a5:0<=x) (a2:¬Sq u x) (hr:r=co u x) (h':BZ R' (r::u)) (W:T2=tw (r::u)) (hB:B=em (r::u) (rt u r)):CF 209 [BL T,AT A] (.BN [(false,[BA T2]),(false,[AU B]),(false,[.int .i64 0])]):=by
 have Z:T.length=u.length:=by rw[P,Cr]
 have aa:=h.ht;refine AN Tryz.func209 fun E V=>?_
 obtain⟨ae,t⟩:=xI (CA x);refine AB V (IG h P U hx O.v0 O.s O.vR t) ?_;refine C6 (fun M=>?_) fun M=>?_
 ·exact (KT t M a5).elim
 refine AB V (jd h P U hx O a2) ?_;rintro ab ⟨a8,f24⟩;refine SA (fun N=>?_) fun N=>?_
 ·exact absurd N AA
 refine⟨[],fun _=>⟨rfl,AF,rfl,trivial⟩,.inl ?_⟩;try conv=>cbv
 refine .inl ⟨T,fun _=>⟨rfl,rfl,rfl,C2 (0+T.length) 24⟩,?_⟩;intro (f:List (el (.sl AL))) a6 D;have j:f=([]:List (el (.sl AL)))++(T:List (el (.sl AL))):=D.1;have I:a6=List.length (α:=(el (.sl AL))) f:=D.2;conv=>cbv
 refine⟨[A],DK,.inr ?_⟩;try conv=>cbv
 have a1:f.length=T.length:=by rw[j];simp
 refine .inr (.inl ⟨[A],fun _=>⟨rfl,I,rfl,C2 (f.length+1) 24⟩,?_⟩);intro (G:List (el (.sl AL))) a7 F;have H:G=(f:List (el (.sl AL)))++([A]:List (el (.sl AL))):=F.1;have J:a7=List.length (α:=(el (.sl AL))) G:=F.2;conv=>cbv
 refine⟨fun _=>J,?_⟩;rintro ad ⟨Q,f35⟩;conv=>cbv
 have d:G=tw (r::u):=by rw[H,j,P,Ow,U,em,hr];rfl
 refine AB V (ix h' d (Ah.of (Q.trans (congrArg _ Z))) hB) ?_;exact AM ⟨⟨rfl,congrArg _ (by rw[W,d]),trivial⟩,t2,t2,trivial⟩
theorem jC {R s:Nat} (h:BZ R u) (j:T=tw u) (F:A=em u x) (G:El u s x) (d:FQ u.length R s) (I:In u v) (t:0<=v) (D:v*v=x) (H:B=em u v):CF 136 [BL T,AT A] (.BN [(false,[BA T]),(false,[AU B]),(false,[.int .i64 0])]):=by
 refine AN Tryz.func136 fun E f=>?_
 refine AB f (XK h j d.vR d.qR) ?_;refine AY ?_;refine AB f (PO h j F G d.s) ?_;refine AY ?_;refine AB f (iP h j F G d I t D H) ?_;exact AM AQ
theorem jD {R s:Nat} (h:BZ R u) (j:T=tw u) (G:A=em u x) (H:El u s x) (d:FQ u.length R s) (I:u.length<8) (F:0<=x) (D:¬Sq u x) (M:r=co u x) (h':BZ R' (r::u)) (t:T2=tw (r::u)) (J:B=em (r::u) (rt u r)):CF 136 [BL T,AT A] (.BN [(false,[BA T2]),(false,[AU B]),(false,[.int .i64 0])]):=by
 refine AN Tryz.func136 fun E f=>?_
 refine AB f (XK h j d.vR d.qR) ?_;refine AY ?_;refine AB f (PO h j G H d.s) ?_;refine AY ?_;refine AB f (iQ h j G H d I F D M h' t J) ?_;exact AM AQ
theorem XC {R s:Nat} (h:BZ R u) (h':BZ R' (BW u v)) (H:(BW u v).length<=8) (D:T=tw u) (I:A=em u v) (G:El u s v) (J:FQ u.length R s) (t:0<=v) (d:T2=tw (BW u v)) (f:B=em (BW u v) (Re.sqrt v)):
  CF 136 [BL T,AT A] (.BN [(false,[BA T2]),(false,[AU B]),(false,[.int .i64 0])]):=by
 by_cases j:Sq u v
 ·rw[Ec j] at d f;have F:T2=T:=d.trans D.symm;subst F;exact jC h D I G J ((Lm t).1 j) (Re.M4 v) (Re.Hn t) f
 rw[Dv j] at h' H d f;rw[<-Jt G.mem] at f;exact jD h D I G J (by rw[List.length_cons] at H;omega) t j rfl h' d f
end
section
variable {R i:Nat} {c:Bool} {u w:AH}
theorem eu {α:Type} {X Y:List α} {x y:α} (d:X[i]? =some x) (f:Y[i]? =some y) (h:X.take i=Y.take i) (e:x=y):X.take (i+1)=Y.take (i+1):=by
 rw[EI d,EI f,h,e]
theorem fB {α:Type} {X Y:List α} {n:Nat} {x y:α} (j:X[i]? =some x) (s:Y[i]? =some y) (f:i<n) (e:x≠y):X.take n≠Y.take n:=by
 intro h;apply e;have d:(X.take n)[i]? =(Y.take n)[i]? :=by rw[h]
 rw[List.getElem?_take,List.getElem?_take,if_pos f,if_pos f,j,s] at d;exact Option.some.inj d
theorem ji {X Y:LR} {xs ys:List Rat} (hX:X=Ba xs) (hY:Y=Ba ys) (hs:FA xs) (ht:FA ys) (I:c=decide (X=Y)):CF 295 [AT X,AT Y] (.one (.bool c)):=by
 refine AN Tryz.func295 fun E hE=>?_
 rintro n7 ⟨e7,f7⟩ n9 ⟨e9,f9⟩;refine E2 (fun O=>?_) fun O=>?_
 ·exact AO (by rw[I,decide_eq_false];intro e;have:=congrArg List.length e;omega)
 refine Bc [] [0,1,5] [] (fun vs bl k=>∃(i':Nat) (i:Int),vs=[AT X,AT Y,AD i]/\(Ah i i'/\i'<=Y.length/\Y.length<=X.length)/\X.take i'=Y.take i'/\k=Y.length-i') (Y.length-0) ⟨0,0,rfl,⟨BJ 0,AA,AA⟩,rfl,rfl⟩ ?_;rintro J0 G vs bl aa ⟨i',i,rfl,⟨hi,a5,H⟩,hinv,a6⟩;have ei:=hi.eq;refine Ak ?_;rintro ab ⟨a1,f13⟩;refine Bt (fun P=>?_) fun P=>?_
 ·have hl:X.length=Y.length:=AA
  exact AO (by rw[I,decide_eq_true];have:=hinv;rwa [List.take_of_length_le AA,List.take_of_length_le AA] at this)
 refine .inr ?_;refine BH i' fun D f=>?_
 try conv=>cbv
 refine BH i' fun F h=>?_
 try conv=>cbv
 obtain⟨p,Z,a7,M⟩:=Jc hX hs f;obtain⟨q,hq,a8,N⟩:=Jc hY ht h;have s:D=rp p:=Z.rp.symm;have t:F=rp q:=hq.rp.symm;obtain⟨W,d⟩:=xI (Hy p q);refine AB hE (ij Z hq M N d) ?_;intro V j;cases V <;> conv=>cbv
 ·have Q:=HK j;refine AP ?_;intro U a2;exact Bz G ⟨i'+1,U,rfl,⟨⟨AA⟩,AA,H⟩,eu f h hinv (by rw[s,t];congr 1;have:=TL p q;rw[<-d,(AA:W=0)] at this;exact of_decide_eq_true this),rfl⟩
 have Q:=HM j;have J:D≠F:=fun e=>by have e2:=Vs (s.symm.trans (e.trans t));have:=TL p q;rw[decide_eq_true e2,<-d] at this;simp at this;omega
 exact AO (by rw[I,decide_eq_false];intro e;exact fB (n:=i'+1) f h AA J (by rw[e]))
theorem jF {X Y:List LR} (hu:BZ R u) (hw:BZ R w) (hX:X=tw u) (hY:Y=tw w) (G:c=(decide (Y.length<=X.length)&&decide (X.take Y.length=Y))):CF 237 [BL X,BL Y] (.one (.bool c)):=by
 refine AN Tryz.func237 fun E hE=>?_
 rintro n7 ⟨e7,f7⟩ n9 ⟨e9,f9⟩;refine EX (fun M=>?_) fun M=>?_
 ·exact AO (by rw[G,decide_eq_false (AA:¬Y.length<=X.length)];rfl)
 refine Bc [] [0,1,5] [] (fun vs V k=>∃(i':Nat) (i:Int),vs=[BL X,BL Y,AD i]/\(Ah i i'/\i'<=Y.length/\Y.length<=X.length)/\X.take i'=Y.take i'/\k=Y.length-i') (Y.length-0) ⟨0,0,rfl,⟨BJ 0,AA,AA⟩,rfl,rfl⟩ ?_;rintro J0 D vs V a5 ⟨i',i,rfl,⟨hi,a1,F⟩,hinv,a2⟩;have ei:=hi.eq;refine Ak ?_;rintro a6 ⟨W,f13⟩;refine Bt (fun N=>?_) fun N=>?_
 ·exact AO (by rw[G,decide_eq_true (AA:Y.length<=X.length),decide_eq_true];rfl;rw[(AA:Y.length=i'),hinv,List.take_of_length_le AA])
 refine .inr ?_;refine BH i' fun s f=>?_
 try conv=>cbv
 refine BH i' fun t h=>?_
 try conv=>cbv
 obtain⟨p,hp,I⟩:=LJ hX f;obtain⟨q,hq,J⟩:=LJ hY h;obtain⟨U,d⟩:=xB (decide (s=t));refine AB hE (ji hp hq ((hu.tb p (List.mem_reverse.1 (List.mem_of_getElem? I))).C4 hu.hR) ((hw.tb q (List.mem_reverse.1 (List.mem_of_getElem? J))).C4 hw.hR) d) ?_;intro Q j;cases Q <;> conv=>cbv
 ·have O:=HN j;refine AP ?_;intro P Z;exact Bz D ⟨i'+1,P,rfl,⟨⟨AA⟩,AA,F⟩,eu f h hinv (of_decide_eq_true (by rw[<-d];exact HN j)),rfl⟩
 have O:=HO j;have H:s≠t:=of_decide_eq_false (by rw[<-d];exact HO j);exact AO (by rw[G,decide_eq_false (p:=X.take Y.length=Y),Bool.and_false];intro e;exact fB (n:=Y.length) f h AA H (by rw[e,List.take_length]))
theorem PU {X Y:List LR} (hu:BZ R u) (hw:BZ R w) (d:X=tw u) (f:Y=tw w) (h:c=true↔w<:+u):CF 237 [BL X,BL Y] (.one (.bool c)):=
 jF hu hw d f (by rw[Bool.eq_iff_iff,h,WB,Bool.and_eq_true,decide_eq_true_eq,decide_eq_true_eq,d,f])
theorem Sc {T:List LR} {A C:LR} {x:Re} (h:BZ R w) (hT:T=tw w) (hA:A=em u x) (hx:In u x) (hu:u<:+w) (hC:C=em w x):CF 239 [BL T,AT A] (AT C):=by
 have a1:T.length=w.length:=by rw[hT,Cr]
 have ae:=h.ht;have ad:A.length=2^u.length:=by rw[hA,CH hx]
 have a6:=hu.length_le;have hle:2^u.length<=2^w.length:=DI a6;have aa:=EV h.ht;have N:=Y8 hu h.red hx;refine AN Tryz.func239 fun E hE=>?_
 refine⟨[],fun _=>⟨rfl,AF,rfl,trivial⟩,.inl ?_⟩;try conv=>cbv
 refine .inl ⟨A,fun _=>⟨rfl,rfl,rfl,C2 (0+A.length) 64⟩,?_⟩;intro (Q:LR) n8 P;have I:Q=([]:LR)++(A:LR):=P.1;have a5:n8=List.length (α:=(el AL)) Q:=P.2;conv=>cbv
 refine Bc [] [0,5] [6] (fun vs bl k=>∃(o:LR) (mm j:Nat),vs=[BL T,.one (.BK AL 6 0 0 mm)]/\bl=[.arr 0 AL o]/\(mm=o.length/\o.length=2^u.length+j/\o.length<=2^w.length)/\o=A++List.replicate j (rp 0)/\k=2^w.length-o.length) (2^w.length-Q.length) ⟨Q,n8,0,rfl,rfl,⟨a5,by rw[I];simp;omega,by rw[I];simp;omega⟩,by rw[I];simp,rfl⟩ ?_;rintro J0 Z vs bl ai ⟨o,mm,j,rfl,rfl,⟨J,ag,ah⟩,hinv,af⟩;conv=>cbv
 intro aj V;have ab:=V.eq;refine AP ?_;rintro ak ⟨U,f12⟩ al W;have a8:=(GP W (U.trans (congrArg _ a1))).eq;refine Bt (fun a7=>?_) fun a7=>?_
 ·exact AM ⟨⟨rfl,.inl ⟨_,rfl,AA,congrArg _ (by rw[hC,J,List.drop_zero,List.take_length,hinv,N,hA,(AA:j=2^w.length-2^u.length)])⟩,trivial⟩,trivial⟩
 refine .inr ?_;obtain⟨s,t,d,f,G⟩:=CZ (((0:Int):Rat));refine AB hE (FT AA rfl G) ?_;refine⟨[((s,t),(d,f))],DK,.inr ?_⟩;try conv=>cbv
 refine .inl ⟨[((s,t),(d,f))],fun _=>⟨rfl,J,rfl,C2 (o.length+1) 64⟩,?_⟩;intro (D:LR) O H;have F:D=(o:LR)++([((s,t),(d,f))]:LR):=H.1;have M:O=List.length (α:=(el AL)) D:=H.2;conv=>cbv
 have a2:D.length=o.length+1:=by rw[F];simp
 exact Bz Z ⟨D,O,j+1,rfl,rfl,⟨M,AA,AA⟩,by rw[F,hinv,List.replicate_succ',List.append_assoc,<-G.rp];rfl,rfl⟩
end
section
structure Dp (T:AH->Prop) (R C S:Nat):Prop extends Gam T R C S where
 IT:∀{u},T u->FQ u.length R (S+C)
def XE (S:Nat) (w u:AH):Prop:=∀{T RL:List LR} {A C:LR} {x:Re},T=tw w->Gs w RL u->A=em u x->El u S x->C=em w x->
 CF 240 [BL T,BL RL,AT A] (AT C)
def XF (S:Nat) (w u:AH):Prop:=∀{T RL:List LR} {A C:LR} {x:Re} {mm:Nat},T=tw w->Gs w RL u->mm=RL.length->A=em u x->El u S x->C=em w x->
 CY Tryz.prog 240 [BL T,.one (.BK (.sl AL) 0 0 0 mm),AT A] (.arr 0 (.sl AL) RL) (AT C)
variable {A C:LR} {K R S mm:Nat} {RL T:List LR} {TT:AH->Prop} {p x:Re} {q:Rat} {r:List Rat} {u w:AH}
theorem jJ {u:AH} {x:Re} (G:Gam TT R K S) (hw:TT w) (H:T=tw w) (s:A=em [] (Re.ofRat q)) (M:Cw q) (D:C=em w (Re.ofRat q)):CF 240 [BL T,BL RL,AT A] (AT C):=by
 have d:A=[rp q]:=s.trans (FD q);have t:A.length=1:=by rw[d];rfl
 refine AN Tryz.func240 fun E F=>?_
 rintro I ⟨j,f12⟩;refine CU (fun h=>?_) fun h=>?_
 ·exact absurd h AA
 refine BH 0 fun J f=>?_
 try conv=>cbv
 refine AB F (Hv (G.Bb hw) H (GO d f) D) ?_;exact AM ⟨t2,trivial⟩
theorem jK (G:Gam TT R K S) (hw:TT w) (hT:T=tw w) {q:Re} (hu:TT (r::u)) (f:Br (r::u) w) (ih:XE S w u) (hR:Gs w RL (r::u)) (hA:A=em (r::u) x) (hx:El (r::u) S x) (I:x=p+q*rt u r) (hp:El u S p) (W:El u S q) (hC:C=em w x):CF 240 [BL T,BL RL,AT A] (AT C):=by
 have H:=(G.Bb hu).red;have J:A.length=2^u.length+2^u.length:=by rw[hA,CH hx.mem,Cg]
 have aE:=Dz u.length;have aB:(r::u).length<=8:=G.ht hu;have al:(r::u).length=u.length+1:=rfl;have hmul:=G.mul hw;have d:El w K (rt u r):=by have:=G.Cp hu hw f (JX H);rwa [Nat.zero_add] at this
 obtain⟨wk,ad,Z,O⟩:=hR.2;obtain⟨rk,a1⟩:=xR (em wk (rt u r));rw[<-a1] at O;refine AN Tryz.func240 fun E M=>?_
 rintro aI ⟨ar,f12⟩;refine BV (fun a2=>?_) fun a2=>?_
 ·exact absurd a2 AA
 rintro aJ ⟨au,f20⟩ ah ay;refine Bc [] [0,1,2,7,8] [] (fun vs bl k=>∃(k':Nat) (hv kk:Int),vs=[BL T,BL RL,AT A,AD hv,AD kk]/\bl=[]/\(Ah hv (A.length/2)/\Ah kk k'/\k'<=u.length)/\k=u.length-k') (u.length-0) ⟨0,ah,0,rfl,rfl,⟨⟨AA⟩,BJ 0,AA⟩,rfl⟩ ?_;rintro J0 a8 vs bl aF ⟨k',hv,kk,rfl,rfl,⟨N,aa,aD⟩,aC⟩;have aw:=N.eq;have ax:=aa.eq;refine AP ?_;rintro aK az aL a7 aM ⟨av,f26⟩;have ao:=(GP (k:=k'+1) a7 AA).eq;refine C6 (fun ae=>?_) fun ae=>?_
 ·refine .inr ?_;have ab:k'<u.length:=Mc J (AA:2^(k'+1)<A.length);refine AP ?_;intro ai aA;exact Bz a8 ⟨k'+1,hv,ai,rfl,rfl,⟨N,⟨AA⟩,AA⟩,rfl⟩
 have ab:k'=u.length:=by have:=Mb J (AA:¬2^(k'+1)<A.length);omega
 refine AP ?_;intro aG an a6 ak af Q;have D:af=em u p:=by rw[Q,List.drop_zero,(AA:a6=A.length/2),hA,DU H hp.mem W.mem I]
 obtain⟨aN,h⟩:=xR (em w (p));refine AB M (ih hT hR.1 D hp h) ?_;rintro aH V a5 aq ⟨aj,P⟩ ag U;have F:ag=em u q:=by rw[U,(AA:a5=A.length/2),P,V,List.take_length,hA,DH H hp.mem W.mem I]
 obtain⟨aO,j⟩:=xR (em w (q));refine AB M (ih hT hR.1 F W j) ?_;refine Cj O ?_;obtain⟨aP,s⟩:=xR (em w (rt u r));refine AB M (Sc (G.Bb hw) hT a1 Z ad s) ?_;obtain⟨aQ,t⟩:=xR (em w (q*rt u r));refine AB M (FB (G.Bb hw) hT j s (G.Cp (G.sub hu) hw f.tail W) d AA t) ?_;refine AB (r:= .one (AU C)) M (K4 (G.Bb hw) h t (G.Cp (G.sub hu) hw f.tail hp) ((G.Cp (G.sub hu) hw f.tail W).mul (G.Bb hw) d) AA AA (by rw[hC,I])) ?_;exact AM ⟨t2,trivial⟩
theorem jL {u:AH} {x:Re} (I:mm=RL.length) (G:Gam TT R K S) (hw:TT w) (H:T=tw w) (s:A=em [] (Re.ofRat q)) (N:Cw q) (D:C=em w (Re.ofRat q)):CY Tryz.prog 240 [BL T,.one (.BK (.sl AL) 0 0 0 mm),AT A] (.arr 0 (.sl AL) RL) (AT C):=by
 have d:A=[rp q]:=s.trans (FD q);have t:A.length=1:=by rw[d];rfl
 refine C5 Tryz.func240 fun E F=>?_
 refine Ak ?_;rintro J ⟨j,f12⟩;refine CU (fun h=>?_) fun h=>?_
 ·exact absurd h AA
 refine BH 0 fun M f=>?_
 try conv=>cbv
 refine AB F (Hv (G.Bb hw) H (GO d f) D) ?_;refine AQ
theorem jM (a5:mm=RL.length) (G:Gam TT R K S) (hw:TT w) (hT:T=tw w) {q:Re} (hu:TT (r::u)) (f:Br (r::u) w) (ih:XF S w u) (hR:Gs w RL (r::u)) (hA:A=em (r::u) x) (hx:El (r::u) S x) (O:x=p+q*rt u r) (hp:El u S p) (hq:El u S q) (hC:C=em w x):CY Tryz.prog 240 [BL T,.one (.BK (.sl AL) 0 0 0 mm),AT A] (.arr 0 (.sl AL) RL) (AT C):=by
 have M:=(G.Bb hu).red;have Q:A.length=2^u.length+2^u.length:=by rw[hA,CH hx.mem,Cg]
 have aL:=Dz u.length;have aI:(r::u).length<=8:=G.ht hu;have av:(r::u).length=u.length+1:=rfl;have hmul:=G.mul hw;have d:El w K (rt u r):=by have:=G.Cp hu hw f (JX M);rwa [Nat.zero_add] at this
 obtain⟨wk,aj,a6,h⟩:=hR.2;obtain⟨rk,j⟩:=xR (em wk (rt u r));rw[<-j] at h;refine C5 Tryz.func240 fun E U=>?_
 refine Ak ?_;rintro aP ⟨aA,f12⟩;refine BV (fun a8=>?_) fun a8=>?_
 ·exact absurd a8 AA
 rintro aQ ⟨aB,f20⟩ al aF;refine Bc [] [0,1,2,7,8] [0] (fun vs bl k=>∃(k':Nat) (hv kk:Int),vs=[BL T,.one (.BK (.sl AL) 0 0 0 mm),AT A,AD hv,AD kk]/\bl=[.arr 0 (.sl AL) RL]/\(Ah hv (A.length/2)/\Ah kk k'/\k'<=u.length)/\k=u.length-k') (u.length-0) ⟨0,al,0,rfl,rfl,⟨⟨AA⟩,BJ 0,AA⟩,rfl⟩ ?_;rintro J0 ag vs bl aM ⟨k',hv,kk,rfl,rfl,⟨V,ah,aK⟩,aJ⟩;have aD:=V.eq;have aE:=ah.eq;refine AP ?_;rintro aR aG aS af aT ⟨aC,f26⟩;have ay:=(GP (k:=k'+1) af AA).eq;refine C6 (fun ak=>?_) fun ak=>?_
 ·refine .inr ?_;have ai:k'<u.length:=Mc Q (AA:2^(k'+1)<A.length);refine AP ?_;intro an aH;exact Bz ag ⟨k'+1,hv,an,rfl,rfl,⟨V,⟨AA⟩,AA⟩,rfl⟩
 have ai:k'=u.length:=by have:=Mb Q (AA:¬2^(k'+1)<A.length);omega
 refine AP ?_;intro aN ax ae au aa Z;have I:aa=em u p:=by rw[Z,List.drop_zero,(AA:ae=A.length/2),hA,DU M hp.mem hq.mem O]
 obtain⟨ao,s⟩:=xR (em w (p));refine .inr (.inr (.inl ⟨0,.arr 0 (.sl AL) RL,[BL T,.one (.BK (.sl AL) 0 0 0 mm),AT aa],AT ao,AQ,fun _=>Hq U (ih hT hR.1 a5 I hp s),?_⟩));refine AP ?_;rintro aO a2 ad az ⟨ar,W⟩ ab a1;have J:ab=em u q:=by rw[a1,(AA:ad=A.length/2),W,a2,List.take_length,hA,DH M hp.mem hq.mem O]
 obtain⟨aq,t⟩:=xR (em w (q));refine .inr (.inr (.inl ⟨0,.arr 0 (.sl AL) RL,[BL T,.one (.BK (.sl AL) 0 0 0 mm),AT ab],AT aq,AQ,fun _=>Hq U (ih hT hR.1 a5 J hq t),?_⟩));try conv=>cbv
 refine g2 rfl ?_;refine⟨fun _=>⟨AA,by have:=Hd h;omega⟩,?_⟩;intro a7 aw;conv=>cbv
 obtain⟨P,H⟩:=Cq (l:=RL) (i:=a7) (by have:=Hd h;omega);refine⟨P,fun _=>H,?_⟩;try conv=>cbv
 have N:P=rk:=by have:=H;rw[(AA:a7=u.length),h] at this;exact (Option.some.inj this).symm
 have j:P=em wk (rt u r):=N.trans j;obtain⟨aU,D⟩:=xR (em w (rt u r));refine AB U (Sc (G.Bb hw) hT j a6 aj D) ?_;obtain⟨aV,F⟩:=xR (em w (q*rt u r));refine AB U (FB (G.Bb hw) hT t D (G.Cp (G.sub hu) hw f.tail hq) d AA F) ?_;refine AB (r:= .one (AU C)) U (K4 (G.Bb hw) s F (G.Cp (G.sub hu) hw f.tail hp) ((G.Cp (G.sub hu) hw f.tail hq).mul (G.Bb hw) d) AA AA (by rw[hC,O])) ?_;refine AQ
theorem jH (G:Gam TT R K S) (hw:TT w):∀{u:AH},TT u->Br u w->XE S w u:=by
 intro u
 induction u with
 | nil=>
  intro hu s T RL A C x t hR h d j;obtain⟨q,rfl⟩:=DV.1 d.mem;have f:=d.C4 (by have:=G.mul hw;omega);rw[Ed] at f;exact jJ (u:=[]) (x:=0) G hw t h (f q List.mem_cons_self) j
 | cons r u H=>
  intro hu s T RL A C x t hR h d j;obtain⟨p,q,D,F,f⟩:=El.parts (G.Bb hu).red d;exact jK G hw t hu s (H (G.sub hu) s.tail) hR h d D F f j
theorem jI (G:Gam TT R K S) (hw:TT w):∀{u:AH},TT u->Br u w->XF S w u:=by
 intro u
 induction u with
 | nil=>
  intro hu t T RL A C x mm D hR d j f s;obtain⟨q,rfl⟩:=DV.1 f.mem;have h:=f.C4 (by have:=G.mul hw;omega);rw[Ed] at h;exact jL (u:=[]) (x:=0) d G hw D j (h q List.mem_cons_self) s
 | cons r u I=>
  intro hu t T RL A C x mm D hR d j f s;obtain⟨p,q,F,H,h⟩:=El.parts (G.Bb hu).red f;exact jM d G hw D hu t (I (G.sub hu) t.tail) hR j f F H h s
theorem SY {U T2:List LR} {t:AH} (G:Dp TT R K S) (ht:TT t) (hu:TT u) (hT:T=tw t) (hU:U=tw u) (ae:T2=tw (ext t u)) (ab:RL=Fs t u):CF 238 [BL T,BL U] (.BN [(false,[BA T2]),(false,[BA RL]),(false,[.int .i64 0])]):=by
 have ao:U.length=u.length:=by rw[hU,Cr]
 have av:=G.ht hu;have ad:=G.RS;refine AN Tryz.func238 fun E hE=>?_
 refine Bc [(7,.sl AL,true)] [0,1,7,8] [7] (fun vs bl k=>∃(Ti o:List LR) (mm i':Nat) (i:Int),vs=[BL Ti,BL U,.one (.BK (.sl AL) 7 0 0 mm),AD i]/\bl=[.arr 0 (.sl AL) o]/\(Ah i i'/\i'<=U.length/\mm=o.length)/\Ti=tw (ext t (pre u i'))/\o=Fs t (pre u i')/\k=U.length-i') U.length ⟨T,[],0,0,0,rfl,rfl,⟨BJ 0,Nat.zero_le _,rfl⟩,by rw[OY];exact hT,by rw[OY];rfl,rfl⟩ ?_;rintro J0 aa vs bl aw ⟨Ti,o,mm,i',i,rfl,rfl,⟨hi,aq,M⟩,I,hinv,ar⟩;conv=>cbv
 have ei:=hi.eq;have au:o.length<=U.length:=by rw[hinv,Of,KY AA];omega
 rintro ax ⟨al,f14⟩;conv=>cbv
 refine Bt (fun ai=>?_) fun ai=>?_
 ·have V:pre u i'=u:=by rw[(AA:i'=u.length)];exact ba u
  exact AM ⟨⟨rfl,congrArg _ (by rw[ae,I,V]),trivial⟩,⟨rfl,.inl ⟨_,rfl,AA,congrArg _ (by rw[ab,M,List.drop_zero,List.take_length,hinv,V])⟩,trivial⟩,t2,trivial⟩
 refine .inr ?_;refine BH i' fun a8 a5=>?_
 try conv=>cbv
 obtain⟨r,N,a1⟩:=Ld (u:=u) (i:=i') AA;have d:TT (pre u i'):=G.Jw (Ms u i') hu;have f:TT (r::pre u i'):=N ▸ G.Jw (Ms u (i'+1)) hu;have Z:=(G.Bb f).red;have ah:a8=em (pre u i') (AW (pre u i') r):=by rw[<-hU,a5] at a1;exact (Option.some.inj a1).trans (Fh Z)
 have h:TT (ext t (pre u i')):=G.ext ht d;have J:=(Jr (G.Bb ht).red (G.Bb d).red).2;have W:El (pre u i') S (AW (pre u i') r):=(El.Da (G.Bb f)).mono ad;have a2:TT (BW (ext t (pre u i')) (AW (pre u i') r)):=G.BW h f J;have af:ext t (pre u (i'+1))=BW (ext t (pre u i')) (AW (pre u i') r):=by rw[N];rfl
 have ag:Fs t (pre u (i'+1))=Fs t (pre u i')++[em (BW (ext t (pre u i')) (AW (pre u i') r)) (Re.sqrt (AW (pre u i') r))]:=by rw[N];rfl
 obtain⟨ak,s⟩:=xR (em (ext t (pre u i')) (AW (pre u i') r));refine .inr (.inr (.inl ⟨7,.arr 0 (.sl AL) o,[BL Ti,.one (.BK (.sl AL) 0 0 0 mm),AT a8],AT ak,AQ,fun _=>Hq hE (jI G.toGam h d J I (by rw[hinv];exact Og (G.Bb ht).red (G.Bb d).red) M ah W s),?_⟩));try conv=>cbv
 obtain⟨a7,D⟩:=xV (tw (BW (ext t (pre u i')) (AW (pre u i') r)));obtain⟨j,F⟩:=xR (em (BW (ext t (pre u i')) (AW (pre u i') r)) (Re.sqrt (AW (pre u i') r)));refine AB (r:= .BN [(false,[BA a7]),(false,[AU j]),(false,[.int .i64 0])]) hE (XC (G.Bb h) (G.Bb a2) (G.ht a2) I s (G.Cp d h J W) (G.IT h) (by have:=Z.2.2.1;grind) D F) ?_;refine AY ?_;refine⟨[j],DK,.inr ?_⟩;try conv=>cbv
 refine .inl ⟨[j],fun _=>⟨rfl,M,rfl,C2 (o.length+1) 24⟩,?_⟩;intro (O:List (el (.sl AL))) a6 H;have P:O=(o:List (el (.sl AL)))++([j]:List (el (.sl AL))):=H.1;have Q:a6=List.length (α:=(el (.sl AL))) O:=H.2;refine AP ?_;intro aj an;exact Bz aa ⟨a7,O,a6,i'+1,aj,rfl,rfl,⟨⟨AA⟩,AA,Q⟩,by rw[D,af],by rw[P,hinv,ag,F],rfl⟩
end
end Go.Abs
