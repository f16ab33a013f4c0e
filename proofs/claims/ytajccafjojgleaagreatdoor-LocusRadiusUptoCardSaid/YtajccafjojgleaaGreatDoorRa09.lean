/- Part 10 of a proof. Conditions: each theorem's own. -/
import Derived.Test.YtajccafjojgleaaGreatDoorRa08
set_option linter.all false
set_option maxHeartbeats 80000000
set_option maxRecDepth 20000
open Go.Proofs
namespace Go.Abs
open Go.RowKit
section
variable {R a i k m q:Nat} {b b1 b2 c:Bool} {l l1 l2 o z:List UInt32} {x y:Int}
theorem aj {x:Nat} (h:x=2^(m+1)*k):x ||| 2^m=x+2^m:=by
 rw[h,Nat.or_comm,MG (Nat.pow_lt_pow_right AE (Nat.lt_succ_self m)),Nat.add_comm]
theorem fL {x:UInt32} (f:o[q]? =some x) (hm:m<32) (d:2^(32*q+m+1)∣AF o):∃k,x.toNat=2^(m+1)*k:=by
 have G:q<o.length:=by apply Classical.byContradiction;intro F;rw[List.getElem?_eq_none AA] at f;exact absurd f Ai
 have e1:AF o=AF (o.take q)+2^(32*q)*(x.toNat+4294967296*AF (o.drop (q+1))):=by
  conv=>lhs;rw[<-List.take_append_drop q o]
  rw[QT,List.length_take,Nat.min_eq_left AA,EC f]
 have e2:2^(32*q)∣AF o:=Nat.dvd_trans ⟨2^(m+1),by rw[<-Nat.pow_add];congr 1⟩ d
 have h:2^(32*q)∣AF (o.take q):=by
  rw[e1] at e2;exact (Nat.dvd_add_iff_left ⟨_,rfl⟩).2 e2
 have j:AF (o.take q)<2^(32*q):=by
  have:=C0 (o.take q);rwa [List.length_take,Nat.min_eq_left AA] at this
 have s:AF (o.take q)=0:=Nat.eq_zero_of_dvd_of_lt h j;rw[e1,s,Nat.zero_add,Nat.add_assoc,Nat.pow_add] at d;have t:2^(m+1)∣x.toNat+4294967296*AF (o.drop (q+1)):=Nat.dvd_of_mul_dvd_mul_left (Nat.two_pow_pos _) d;have D:2^(m+1)∣4294967296*AF (o.drop (q+1)):=Nat.dvd_trans ⟨2^(31-m),by rw[<-Nat.pow_add,(AA:m+1+(31-m)=32)]⟩ ⟨_,rfl⟩;exact (Nat.dvd_add_iff_left D).2 t
theorem ju {x w:UInt32} (d:o[q]? =some x) (hm:m<32) (f:2^(32*q+m+1)∣AF o) (hw:w.toNat=x.toNat ||| 2^m):AF (o.set q w)=AF o+2^(32*q+m)/\w.toNat=x.toNat+2^m:=by
 obtain⟨k,h⟩:=fL d hm f;rw[aj h] at hw;have:=UI (w:=w) d;rw[hw,Nat.mul_add,<-Nat.pow_add] at this;exact⟨AA,hw⟩
theorem jV {n a b:Int} {p:Nat} (h:n=IntKind.u32.wrap (BitVec.ofInt IntKind.u32.bits a &&& ~~~ BitVec.ofInt IntKind.u32.bits b).toNat) (ha:a=((p+2^m:Nat):Int)) (hb:b=((2^m:Nat):Int)) (f:p=2^(m+1)*k) (hm:m<32) (H:p+2^m<4294967296):n=p:=by
 have D:=wrap_u32 h;have G:2^m<4294967296:=AA
 have e1:(BitVec.ofInt 32 a &&& ~~~ BitVec.ofInt 32 b:BitVec 32).toNat=p:=by
  have s:BitVec.ofInt 32 a=BitVec.ofNat 32 (p+2^m):=by rw[ha];exact BitVec.ofInt_natCast 32 _
  have t:BitVec.ofInt 32 b=BitVec.ofNat 32 (2^m):=by rw[hb];exact BitVec.ofInt_natCast 32 _
  rw[s,t]
  have e2:BitVec.ofNat 32 (p+2^m) &&& ~~~BitVec.ofNat 32 (2^m)=BitVec.ofNat 32 p:=by
   apply BitVec.eq_of_getLsbD_eq;intro i F;rw[BitVec.getLsbD_and,BitVec.getLsbD_not,BitVec.getLsbD_ofNat,BitVec.getLsbD_ofNat,BitVec.getLsbD_ofNat,<-aj f,Nat.testBit_or,Nat.testBit_two_pow]
   have j:p.testBit m=false:=by
    rw[f,Nat.testBit_two_pow_mul];simp;intro h;omega
   by_cases e:m=i
   ·subst e;simp[j,hm]
   simp[e,F]
  rw[e2,BitVec.toNat_ofNat];exact Nat.mod_eq_of_lt (Nat.lt_of_le_of_lt (Nat.le_add_right p (2^m)) H)
 have d:n=(((BitVec.ofInt 32 a &&& ~~~ BitVec.ofInt 32 b:BitVec 32).toNat:Nat):Int)%4294967296:=D;rw[e1] at d;rw[d];exact Int.emod_eq_of_lt AA AA
theorem BB.iff {b':Bool} {l':List UInt32} (h:BB x b l) (h':BB y b' l'):x=y↔b=b'/\l=l':=
 ⟨fun e=>h.uniq h' e,fun e=>by rw[h.Ep,h'.Ep,e.1,e.2]⟩
theorem jJ {u:List UInt32} {c d b:Nat} (hcu:c<=u.length) (hdu:d<=u.length) (sl:u.length<=17592186044416) (ha:AF (u.take c)=a) (hb:AF (u.take d)=b) (hz:z=AT (a*b)):Dn Tryz.prog 258 [.one (.AU .u32 0 0 0 c),.one (.AU .u32 0 0 0 d)] (.arr 0 .u32 u) (.one (.sl .u32 z)):=by
 obtain⟨l,hl⟩:=xU (u.take c);have hll:l.length=c:=by rw[hl,List.length_take];omega
 have hgx:∀i,i<c->l[i]? =u[i]? :=fun i h=>by rw[hl,List.getElem?_take,if_pos h]
 rw[<-hl] at ha;obtain⟨m,hm⟩:=xU (u.take d);have hmm:m.length=d:=by rw[hm,List.length_take];omega
 have hgy:∀i,i<d->m[i]? =u[i]? :=fun i h=>by rw[hm,List.getElem?_take,if_pos h]
 rw[<-hm] at hb;refine Fx Tryz.func258 fun E hE=>?_
 conv=>cbv
 intro n10 h10;have e10:=h10.eq;conv=>cbv
 intro n12 h12;have e12:=h12.eq;refine AK ?_;intro n13 h13;refine⟨fun _=>⟨AA,AA,by show _*4<=140737488355328;omega⟩,?_⟩;intro k14 (l14:List UInt32) ql14;have hk14:=ql14.1;have hl14:l14=List.replicate k14 (0:el .u32):=ql14.2;have gl14:l14.length=k14:=by rw[hl14,List.length_replicate]
 conv=>cbv
 refine BI [] [0,1,5,6] [0,14] (fun vs bl k=>∃(o:List UInt32) (n i':Nat) (i:Int),vs=[.one (.AU .u32 0 0 0 c),.one (.AU .u32 0 0 0 d),.one (.AU .u32 14 0 0 n),AH i]/\bl=[.arr 0 .u32 u,.arr 0 .u32 o]/\(o.length=l.length+m.length/\n=o.length/\AR i i'/\i'<=l.length)/\AF (o.take (i'+m.length))=AF (l.take i')*AF m/\k=l.length-i') (l.length-0) ⟨l14,k14,0,0,rfl,rfl,⟨by rw[hl14,List.length_replicate];omega,by rw[hl14,List.length_replicate],BD 0,AA⟩,by rw[hl14,List.take_replicate,Iv];simp[AF],rfl⟩ ?_;rintro J0 hJ0 vs bl kk0 ⟨o,n,i',i,rfl,rfl,⟨ho,hn,hi,hiL⟩,hinv,hk0⟩;conv=>cbv
 have ei:=hi.eq;intro n17 h17;have e17:=h17.eq;conv=>cbv
 refine BQ (fun k18=>?_) fun k18=>?_
 ·have hnl66:n<=(o).length:=AA
  obtain⟨m66,hm66⟩:=xN ((CR ((o).take n)).length);obtain⟨hle66,htk66⟩:=FA hnl66 hm66;refine .inr (.inr (.inl ⟨[],.one (.AU .u32 0 0 0 m66),.arr 0 .u32 o,fun _=>⟨by first | decide | simp[Cq,Ch],trivial⟩,fun _=>⟨Ea hE (G8 hnl66 AA hm66),rfl,rfl⟩,?_⟩));try conv=>cbv
  have hfin:AF (o.take n)=a*b:=by rw[(AA:i'=l.length),List.take_length,ha,hb,<-ho,List.take_length] at hinv;rw[hn,List.take_length,hinv]
  refine fun _=>⟨⟨⟨⟨rfl,.inl ⟨_,rfl,AA,congrArg _ (by rw[List.drop_zero,htk66,hfin,hz])⟩,trivial⟩,trivial⟩,rfl,Ai⟩,rfl⟩
 refine .inr ?_;refine BI [] [0,1,5,6,7,8] [0,14] (fun vs bl k=>∃(o1:List UInt32) (n1 c' k':Nat) (cc i1:Int),vs=[.one (.AU .u32 0 0 0 c),.one (.AU .u32 0 0 0 d),.one (.AU .u32 14 0 0 n1),AH i,.one (.int .u64 cc),AH i1]/\bl=[.arr 0 .u32 u,.arr 0 .u32 o1]/\(o1.length=l.length+m.length/\n1=o1.length/\AR i1 k'/\k'<=m.length/\AR cc c'/\c'<4294967296)/\AF (o1.take (i'+m.length))+2^(32*(i'+k'))*c'=AF (l.take i')*AF m+(l.getD i' 0).toNat*2^(32*i')*AF (m.take k')/\k=m.length-k') (m.length-0) ⟨o,n,0,0,0,0,rfl,rfl,⟨ho,hn,BD 0,AA,BD 0,AA⟩,by rw[hinv];simp[AF],rfl⟩ ?_;rintro J1 hJ1 vs bl kk1 ⟨o1,n1,c',k',cc,i1,rfl,rfl,⟨ho1,hn1,hi1,hiL1,hc,hc1⟩,hinv1,hk1⟩;conv=>cbv
 have ei1:=hi1.eq;have ec:=hc.eq;intro n23 h23;have e23:=h23.eq;conv=>cbv
 refine BQ (fun k24=>?_) fun k24=>?_
 ·intro n60 h60;have e60:=h60.eq;refine AK ?_;intro n61 h61 n63 h63;have h63:=wrap_u32 h63;refine AK ?_;intro j64 hj64;obtain⟨w64,hw64⟩:=CX (n:=n63) AA;have ew64:=hw64.eq;have fw64:=hw64.lt;refine⟨w64,fun _=>⟨by show _<List.length (α:=UInt32) o1;(first | omega | (simp;omega)),CW hw64⟩,?_⟩;intro (l64:List UInt32) (hl64:l64=List.set (α:=UInt32) o1 j64 w64);have gl64:l64.length=o1.length:=by rw[hl64,List.length_set]
  refine AK ?_;intro n20 h20;refine⟨l.length-(i'+1),?_,?_⟩
  ·omega
  rw[hJ0];refine⟨l64,n1,i'+1,n20,rfl,rfl,⟨by rw[hl64,List.length_set];exact ho1,by rw[hl64,List.length_set];exact hn1,⟨AA⟩,AA⟩,?_,rfl⟩;obtain⟨ai,hai⟩:=Bj (l:=l) (i:=i') AA;have hk:k'=m.length:=AA
  have hlen:i'+m.length<o1.length:=AA
  rw[hl64,(AA:i'+1+m.length=i'+m.length+1),(AA:j64=i'+m.length),FZ hlen,Ei,List.length_take,Nat.min_eq_left AA,(AA:w64.toNat=c')];rw[hk,Ls hai] at hinv1;rw[hinv1,List.take_length,Cu hai]
  grind
 refine .inr ?_;refine AK ?_;intro n31 h31 j32 hj32;obtain⟨x33,hx33⟩:=Bj (l:=o1) (i:=j32) AA;refine⟨x33,fun _=>hx33,?_⟩;refine AW ?_;intro n33 h33 n34 h34;have e33:=h33.eq;have f33:=h33.lt;have h34:=wrap_u64 h34;intro n35 h35;conv=>cbv
 have h35:=wrap_u64 h35;refine AK ?_;intro j38 hj38;obtain⟨x39,hx39⟩:=Bj (l:=u) (i:=j38) AA;refine⟨x39,fun _=>hx39,?_⟩;refine AW ?_;intro n39 h39 n40 h40;have e39:=h39.eq;have f39:=h39.lt;have h40:=wrap_u64 h40;refine AK ?_;intro j43 hj43;obtain⟨x44,hx44⟩:=Bj (l:=u) (i:=j43) AA;refine⟨x44,fun _=>hx44,?_⟩;refine AW ?_;intro n44 h44 n45 h45;have e44:=h44.eq;have f44:=h44.lt;have h45:=wrap_u64 h45;have ep:n40*n45=((x39.toNat*x44.toNat:Nat):Int):=by rw[Int.natCast_mul];congr 1 <;> omega
 have bp:x39.toNat*x44.toNat<=4294967295*4294967295:=Nat.mul_le_mul AA AA;intro n46 h46;conv=>cbv
 have h46:=wrap_u64 h46;intro n47 h47;conv=>cbv
 have h47:=wrap_u64 h47;refine AK ?_;intro Du h51 Dr h53;have h53:=wrap_u32 h53;refine AK ?_;intro j54 hj54;obtain⟨w54,hw54⟩:=CX (n:=Dr) AA;have ew54:=hw54.eq;have fw54:=hw54.lt;refine⟨w54,fun _=>⟨by show _<List.length (α:=UInt32) o1;(first | omega | (simp;omega)),CW hw54⟩,?_⟩;intro (l54:List UInt32) (hl54:l54=List.set (α:=UInt32) o1 j54 w54);have gl54:l54.length=o1.length:=by rw[hl54,List.length_set]
 refine AK ?_;intro n56 h56;have h56:=Es (p:=4294967296) h56 rfl;refine AK ?_;intro n26 h26;refine⟨m.length-(k'+1),?_,?_⟩
 ·omega
 rw[hJ1];have hx38:l[i']? =some x39:=by rw[hgx _ AA,(AA:i'=j38)];exact hx39
 have hx43:m[k']? =some x44:=by rw[hgy _ AA,(AA:k'=j43)];exact hx44
 refine⟨l54,n1,n56.toNat,k'+1,n56,n26,rfl,rfl,⟨by rw[hl54,List.length_set];exact ho1,by rw[hl54,List.length_set];exact hn1,⟨AA⟩,AA,⟨AA⟩,AA⟩,?_,rfl⟩;have hj:j54=i'+k':=AA
 have hj2:j32=i'+k':=AA
 rw[hj2] at hx33;rw[Ls hx38] at hinv1;rw[hl54,hj,Cu hx43,(AA:i'+(k'+1)=i'+k'+1),Ls hx38];refine VT (q:=x33) (xi:=x39.toNat) (yk:=x44.toNat) (old:=x33.toNat) (c:=c') rfl AA hx33 rfl hinv1 ?_ rfl;rw[ep] at h46;omega
theorem j8 (h:Bp ((R*R:Nat):Int) a<=0):R*R<=a:=by
 unfold Bp at h
 split at h
 ·omega
 split at h
 ·omega
 omega
theorem j7 (h:Bp ((R*R:Nat):Int) a>0):a<R*R:=by
 unfold Bp at h
 split at h
 ·omega
 split at h
 ·omega
 omega
theorem qT {α:Type} {l:List α} {x:α} (h:l[i]? =some x):l.set i x=l:=by
 apply List.ext_getElem?;intro k
 by_cases e:i=k
 ·subst e;rw[h,List.getElem?_set_self];apply Classical.byContradiction;intro d;rw[List.getElem?_eq_none AA] at h;exact absurd h Ai
 rw[List.getElem?_set_ne e]
theorem Oj (hx:BB x b l) (h0:0<=x) (hz:BB ((Bk x.toNat:Nat):Int) c z) (sl:l.length<=17592186043000):CF 297 [.agg (BZ b l)] (BY (BZ c z) 0):=by
 obtain⟨a,ha⟩:=xN x.toNat;obtain⟨N,hN⟩:=xN ((DM a+1)/2);have aj:x.natAbs=a:=AA
 have aS:l=AT a:=by rw[<-aj];exact hx.Bb
 rw[<-ha] at hz
 have aO:a<2^N*2^N:=by
  rw[<-Nat.pow_add]
  by_cases h:a=0
  ·rw[h];exact Nat.two_pow_pos _
  exact Nat.lt_of_lt_of_le (QU (by omega:0<a)).2.1 (Nat.pow_le_pow_right AE AA)
 have bH:N<=300000000000000:=by
  have h1:DM a<=32*l.length:=by
   by_cases h:a=0
   ·rw[h];exact Nat.zero_le _
   have h2:=(QU (by omega:0<a)).1;have h3:a<2^(32*l.length):=by have:=C0 l;rw[hx.nat,aj] at this;exact this
   have h4:=(Nat.pow_lt_pow_iff_right (a:=2) AE).1 (Nat.lt_of_le_of_lt h2 h3);omega
  omega
 refine AM Tryz.func297 fun E hE=>?_
 refine AB hE (Ia hx) ?_;cases b <;> conv=>cbv
 ·obtain⟨b5,a8⟩:∃n:Int,AR n (DM a):=⟨_,⟨rfl⟩⟩
  have b7:=a8.eq;refine AB (r:= .one (.int .i64 b5)) hE (gZ hx (by rw[aj];exact a8) sl) ?_;intro bL bu bM bw bN bx bO bz;refine⟨fun _=>⟨AA,AA,by show _*4<=140737488355328;omega⟩,?_⟩;intro ak (al:List UInt32) ad;have bp:=ad.1;have f:al=List.replicate ak (0:el .u32):=ad.2;have bc:al.length=ak:=by rw[f,List.length_replicate]
  refine AK ?_;intro aX bA;refine BI [] [1,2,3,5,6] [1,2,19] (fun vs bl k=>∃(o:List UInt32) (m j:Nat) (i:Int),vs=[.one (.BE 1 0 0),.one (.BE 2 0 0),AH 0,.one (.AU .u32 19 0 0 m),AH i]/\bl=[.var 0 [.bool false,.sl .u32 l],.var 0 [.bool false,.nil],.arr 0 .u32 o]/\(o.length=N/32+1/\m=o.length/\AR (i+1) j/\j<=N)/\(2^j∣AF o/\AF o*AF o<=a/\a<(AF o+2^j)*(AF o+2^j))/\k=j) N ⟨al,ak,N,aX,rfl,rfl,⟨by rw[f,List.length_replicate];omega,by rw[f,List.length_replicate],⟨AA⟩,Nat.le_refl _⟩,⟨by rw[f,Iv];exact Nat.dvd_zero _,by rw[f,Iv];omega,by rw[f,Iv,Nat.zero_add];exact aO⟩,rfl⟩ ?_;rintro J0 ay vs bl bK ⟨o,m,j,i,rfl,rfl,⟨ho,hm,hi,bI⟩,⟨hd,aA,ae⟩,bJ⟩;conv=>cbv
  have ei:=hi.eq;refine I9 (fun aW=>?_) fun aW=>?_
  ·have aQ:j=0:=AA
   rw[aQ] at ae;have aV:=ZU aA ae
   have aB:((Bk a:Nat):Int)=if false=true then -(AF (o.take m):Int) else AF (o.take m):=by
    rw[if_neg AE,hm,List.take_length,aV]
   obtain⟨aH,aI,Q⟩:=Av (((Bk a:Nat):Int));refine .inr (.inr (.inr (.inl ⟨19,.arr 0 .u32 o,[.one (.bool false),.one (.sl .u32 ((o).take m))],.agg [.bool aH,.sl .u32 aI],fun _=>⟨⟨AE,rfl,by first | rfl | decide | simp[Cq,Ch]⟩,⟨rfl,⟨_,rfl,by simp <;> omega,Ai⟩,trivial⟩⟩,fun _=>⟨Gl hE (HY (n:=false) aB Q),rfl⟩,?_⟩)));try conv=>cbv
   exact AN ⟨⟨rfl,congrArg _ ((Q.uniq hz rfl).1.symm),congrArg _ ((Q.uniq hz rfl).2.symm),trivial⟩,t2,trivial⟩
  refine .inr ?_;refine AK ?_;intro bP bB bQ bC;obtain⟨i',aP⟩:∃i',j=i'+1:=⟨j-1,AA⟩
  subst aP;refine AK ?_;intro Z bk;obtain⟨t,H⟩:=Bj (l:=o) (i:=Z) AA;refine⟨t,fun _=>H,?_⟩;refine AK ?_;intro bR av bS bD aY aK;have bt:=av.eq;have f33:=av.lt
  obtain⟨bg,a7⟩:aY=((2^(i'%32):Nat):Int)/\2^(i'%32)<4294967296:=by
   have hb:2^(i'%32)<4294967296:=Nat.lt_of_le_of_lt (Nat.pow_le_pow_right AE (by omega:i'%32<=31)) AE;have:=VB (p:=1) (e:=i'%32) aK rfl AA;rw[this,Nat.one_mul];exact⟨congrArg _ (Nat.mod_eq_of_lt hb),hb⟩
  intro aZ aL;conv=>cbv
  have bh:=Qc (p:=t.toNat) (q:=2^(i'%32)) aL AA AA AA a7;have br:t.toNat ||| 2^(i'%32)<4294967296:=Nat.or_lt_two_pow (n:=32) t.toNat_lt a7
  refine AK ?_;intro U bm;obtain⟨W,O⟩:=CX (n:=aZ) AA;have b8:=O.eq;have ba:=O.lt;refine⟨W,fun _=>⟨by show _<List.length (α:=UInt32) o;(first | omega | (simp;omega)),CW O⟩,?_⟩;intro (d:List UInt32) (G:d=List.set (α:=UInt32) o U W);have bd:d.length=o.length:=by rw[G,List.length_set]
  conv=>cbv
  refine g2 rfl ?_;have ai:W.toNat=t.toNat ||| 2^(i'%32):=AA
  have af:2^(32*(i'/32)+i'%32)=2^i':=by congr 1;omega
  have s:=ju (o:=o) (q:=i'/32) (m:=i'%32) (x:=t) (w:=W) (by rw[(AA:i'/32=Z)];exact H) AA (by rw[(AA:32*(i'/32)+i'%32+1=i'+1)];exact hd) ai;rw[(AA:i'/32=U),<-G,(AA:U=i'/32)] at s;have I:m<=(d).length:=AA
  obtain⟨an,a5⟩:=xN ((CR ((d).take m)).length);obtain⟨aT,ag⟩:=FA I a5;refine .inr (.inr (.inl ⟨[],.one (.AU .u32 0 0 0 an),.arr 0 .u32 d,fun _=>⟨by first | decide | simp[Cq,Ch],trivial⟩,fun _=>⟨Ea hE (G8 I AA a5),rfl,rfl⟩,?_⟩));try conv=>cbv
  have J:m<=(d).length:=AA
  obtain⟨ao,a6⟩:=xN ((CR ((d).take m)).length);obtain⟨aU,ah⟩:=FA J a6;refine .inr (.inr (.inl ⟨[],.one (.AU .u32 0 0 0 ao),.arr 0 .u32 d,fun _=>⟨by first | decide | simp[Cq,Ch],trivial⟩,fun _=>⟨Ea hE (G8 J AA a6),rfl,rfl⟩,?_⟩));try conv=>cbv
  obtain⟨R,hR⟩:=xN (AF d);obtain⟨b6,aa⟩:=xU (AT (R*R));have az:AF d*AF d=R*R:=by rw[hR]
  have aC:AF (d.take an)=R:=by rw[ag,BU,hR];congr 1;exact List.take_of_length_le AA
  have aD:AF (d.take ao)=R:=by rw[ah,BU,hR];congr 1;exact List.take_of_length_le AA
  refine .inr (.inr (.inr (.inl ⟨19,.arr 0 .u32 d,[.one (.AU .u32 0 0 0 an),.one (.AU .u32 0 0 0 ao)],.one (.sl .u32 b6),Ao,fun _=>Fq hE (jJ AA AA AA aC aD aa),?_⟩)));try conv=>cbv
  obtain⟨bW,M⟩:=xI (Bp ((R*R:Nat):Int) a);refine AB hE (M5 aa aS M) ?_;intro b0 aw;refine .inr ?_;cases b0 <;> conv=>cbv
  ·have V:=Fi aw;refine AK ?_;intro aq aJ;refine⟨i',?_,?_⟩
   ·omega
   rw[ay];have D:2^i'∣AF o:=Nat.dvd_trans ⟨2,by rw[Nat.pow_succ]⟩ hd;refine⟨d,m,i',aq,rfl,rfl,⟨AA,AA,⟨AA⟩,AA⟩,⟨?_,?_,?_⟩,rfl⟩
   ·rw[s.1];exact Nat.dvd_add D (by rw[af];exact Nat.dvd_refl _)
   ·rw[az];rw[M] at V;have:=j8 V;exact this
   rw[s.1,af];rw[Nat.pow_succ] at ae;rwa [(AA:AF o+2^i'+2^i'=AF o+2^i'*2)]
  have V:=Fj aw;refine AK ?_;intro bT bE Dr bF aE bn;obtain⟨aG,ab⟩:=Bj (l:=d) (i:=aE) AA;refine⟨aG,fun _=>ab,?_⟩;refine AK ?_;intro bU ax bV bG b3 aM;have au:=ax.eq;have f55:=ax.lt
  obtain⟨bj,bs⟩:b3=((2^(i'%32):Nat):Int)/\2^(i'%32)<4294967296:=by
   have hb:2^(i'%32)<4294967296:=Nat.lt_of_le_of_lt (Nat.pow_le_pow_right AE (by omega:i'%32<=31)) AE;have:=VB (p:=1) (e:=i'%32) aM rfl AA;rw[this,Nat.one_mul];exact⟨congrArg _ (Nat.mod_eq_of_lt hb),hb⟩
  intro b4 aN;conv=>cbv
  obtain⟨kk,aR⟩:=fL (o:=o) (q:=i'/32) (m:=i'%32) (x:=t) (by rw[(AA:i'/32=Z)];exact H) AA (by rw[(AA:32*(i'/32)+i'%32+1=i'+1)];exact hd)
  have au:aG=W:=by
   have:=ab;rw[G,(AA:aE=i'/32),(AA:U=i'/32),List.getElem?_set_self AA] at this;exact (Option.some.inj this).symm
  have bq:=jV (p:=t.toNat) (m:=i'%32) aN (by rw[<-s.2,<-au];omega) AA aR AA (by rw[<-s.2];omega);refine AK ?_;intro aF bo;obtain⟨ar,P⟩:=CX (n:=b4) AA;have b9:=P.eq;have bb:=P.lt;refine⟨ar,fun _=>⟨by show _<List.length (α:=UInt32) d;(first | omega | (simp;omega)),CW P⟩,?_⟩;intro (a1:List UInt32) (a2:a1=List.set (α:=UInt32) d aF ar);have bf:a1.length=d.length:=by rw[a2,List.length_set]
  refine AK ?_;intro aq aJ;refine⟨i',?_,?_⟩
  ·omega
  rw[ay];have D:2^i'∣AF o:=Nat.dvd_trans ⟨2,by rw[Nat.pow_succ]⟩ hd
  have F:a1=o:=by
   have e1:ar=t:=UInt32.toNat_inj.1 AA;rw[a2,G,(AA:aF=i'/32),(AA:U=i'/32),List.set_set,e1];exact qT (by rw[(AA:i'/32=Z)];exact H)
  refine⟨a1,m,i',aq,rfl,rfl,⟨by rw[F];exact ho,by rw[F];exact hm,⟨AA⟩,AA⟩,?_,rfl⟩;rw[F];refine⟨D,aA,?_⟩;rw[M] at V;have:=j7 V;rw[<-az,s.1,af] at this;exact this
 exact absurd hx.neg (by simp;omega)
theorem rQ {α:Type} {X Y:List α} {x y:α} (d:X[i]? =some x) (f:Y[i]? =some y) (h:X.take i=Y.take i) (e:x=y):X.take (i+1)=Y.take (i+1):=by
 rw[List.take_add_one,List.take_add_one,d,f,h,e]
theorem Oo (M:BB x b1 l1) (N:BB y b2 l2) (J:c=decide (x=y)):CF 298 [.agg (BZ b1 l1),.agg (BZ b2 l2)] (.one (.bool c)):=by
 refine AM Tryz.func298 fun E hE=>?_
 intro Z t;cases Z <;> conv=>cbv
 ·have h:=PC t;refine AW ?_;rintro ae ⟨O,f14⟩ af ⟨a5,f17⟩;refine Gn (fun U=>?_) fun U=>?_
  ·exact AL (by rw[J];exact (decide_eq_false (fun e=>by have s:=((M.iff N).1 e).2;rw[s] at O;omega)))
  refine BI [] [2,3,4,5] [2,3] (fun vs bl k=>∃(k':Nat) (j:Int),vs=[.one (.BE 2 0 0),.one (.BE 3 0 0),.one (.bool false),AH j]/\bl=[.var 0 [.bool b1,.sl .u32 l1],.var 0 [.bool b2,.sl .u32 l2]]/\(AR j k'/\k'<=l1.length/\l1.length=l2.length/\b1=b2)/\l1.take k'=l2.take k'/\k=l1.length-k') (l1.length-0) ⟨0,0,rfl,rfl,⟨BD 0,AA,AA,h⟩,rfl,rfl⟩ ?_;rintro J0 Q vs bl ad ⟨k',j,rfl,rfl,⟨hj,aa,I,H⟩,hinv,ab⟩;have ej:=hj.eq;refine AW ?_;rintro ag ⟨a6,f23⟩;refine BQ (fun V=>?_) fun V=>?_
  ·exact AL (by rw[J];exact (decide_eq_true ((M.iff N).2 ⟨H,by have s:=hinv;rw[(AA:k'=l1.length),List.take_length,I,List.take_length] at s;exact s⟩)))
  refine .inr ?_;refine Ae k' fun aj d=>?_
  refine AW ?_;intro ah D;have a7:=D.eq;have f31:=D.lt;refine Ae k' fun ak f=>?_
  refine AK ?_;intro ai F a2 G;have P:=F.eq;have f36:=F.lt;cases a2 <;> conv=>cbv
  ·have W:=Ji G;refine AK ?_;intro a1 a8;exact BT Q ⟨k'+1,a1,rfl,rfl,⟨⟨AA⟩,AA,I,H⟩,rQ d f hinv (UInt32.toNat_inj.1 AA),rfl⟩
  have W:=Jj G;exact AL (by rw[J];exact (decide_eq_false (fun e=>by have s:=((M.iff N).1 e).2;have h2:=d;rw[s,f] at h2;have h3:=Option.some.inj h2;rw[h3] at P;omega)))
 have h:=PD t;exact AL (by rw[J];exact (decide_eq_false (fun e=>h ((M.iff N).1 e).1)))
theorem hH {q r:Rat} {c1 c2:Bool} {m1 m2:List UInt32} (h:BV q b1 l1 b2 l2) (hs:B8 q) (J:0<=r) (O:r*r=q) (G:BV r c1 m1 c2 m2):CF 263 [.agg (Br b1 l1 b2 l2)] (.Aj [(true,(Br c1 m1 c2 m2)),(false,[.bool true])]):=by
 have D:=dw J O;have F:=dv J O;have I:0<=q.num:=by rw[<-D.2,<-D.1];exact Int.mul_nonneg AA AA
 have H:(0:Int)<=(q.den:Int):=AA
 have a5:=h.small hs;obtain⟨P,W,d⟩:=Av (((Bk q.num.toNat:Nat):Int));obtain⟨Q,Z,f⟩:=Av (((Bk (q.den:Int).toNat:Nat):Int));have M:=Lw h.num d;have N:=Lw h.den f;refine AM Tryz.func263 fun E t=>?_
 cases b1 <;> conv=>cbv
 ·refine AB t (Oj h.num I d AA) ?_;refine AB t (Oj h.den H f AA) ?_;obtain⟨U,a1,j⟩:=Av (((Bk q.num.toNat:Nat):Int)*((Bk q.num.toNat:Nat):Int));refine AB t (EA d d j AA AA) ?_;refine AB (r:= .one (.bool true)) t (Oo j h.num (by rw[D.1];exact (decide_eq_true D.2).symm)) ?_;refine BM ?_;obtain⟨V,a2,s⟩:=Av (((Bk (q.den:Int).toNat:Nat):Int)*((Bk (q.den:Int).toNat:Nat):Int));refine AB t (EA f f s AA AA) ?_;refine AB (r:= .one (.bool true)) t (Oo s h.den (by rw[F.1];exact (decide_eq_true F.2).symm)) ?_;refine BM ?_;exact AN ⟨⟨rfl,congrArg _ ((d.uniq G.num D.1).1.symm),congrArg _ ((d.uniq G.num D.1).2.symm),congrArg _ ((f.uniq G.den F.1).1.symm),congrArg _ ((f.uniq G.den F.1).2.symm),trivial⟩,t2,trivial⟩
 exact absurd (of_decide_eq_true h.num.neg.symm) AA
theorem g9 {q:Rat} (s:BV q b1 l1 b2 l2) (hs:B8 q) (hr:¬∃r:Rat,0<=r/\r*r=q):CF 263 [.agg (Br b1 l1 b2 l2)] (.Aj [(true,[.bool false,.sl .u32 [],.bool false,.sl .u32 []]),(false,[.bool false])]):=by
 have J:(0:Int)<=(q.den:Int):=AA
 have a8:=s.small hs;obtain⟨Q,Z,d⟩:=Av (((Bk q.num.toNat:Nat):Int));obtain⟨U,a1,f⟩:=Av (((Bk (q.den:Int).toNat:Nat):Int));have O:=Lw s.num d;have P:=Lw s.den f;refine AM Tryz.func263 fun E F=>?_
 cases b1 <;> conv=>cbv
 ·have M:0<=q.num:=by have:=of_decide_eq_false s.num.neg.symm;omega
  refine AB F (Oj s.num M d AA) ?_;refine AB F (Oj s.den J f AA) ?_;obtain⟨V,a2,t⟩:=Av (((Bk q.num.toNat:Nat):Int)*((Bk q.num.toNat:Nat):Int));refine AB F (EA d d t AA AA) ?_;obtain⟨a6,h⟩:=xB (decide (((Bk q.num.toNat:Nat):Int)*((Bk q.num.toNat:Nat):Int)=q.num));refine AB F (Oo t s.num h) ?_;refine G5 (fun H=>?_) fun H=>?_
  ·exact AN Ao
  obtain⟨W,a5,D⟩:=Av (((Bk (q.den:Int).toNat:Nat):Int)*((Bk (q.den:Int).toNat:Nat):Int));refine AB F (EA f f D AA AA) ?_;obtain⟨a7,j⟩:=xB (decide (((Bk (q.den:Int).toNat:Nat):Int)*((Bk (q.den:Int).toNat:Nat):Int)=(q.den:Int)));refine AB F (Oo D s.den j) ?_;intro N G;cases N <;> conv=>cbv
  ·have I:=Gg G;exact absurd (du (of_decide_eq_true (h.symm.trans (by simpa using H))) (of_decide_eq_true (j.symm.trans (by simpa using I)))) hr
  have I:=Gh G;exact AN Ao
 exact AN Ao
end
section
variable {A:LR} {T:List LR} {q:Rat}
theorem jB {B:LR} {r:Rat} (N:T=[]) (G:A=[rp q]) (J:B=[rp r]) (P:B8 q) (H:0<=r) (O:r*r=q):CF 207 [Ah T,AO A] (.Aj [(false,[Au B]),(false,[.bool true])]):=by
 refine AM Tryz.func207 fun E M=>?_
 rintro Q ⟨F,f31⟩;refine CN (fun h=>?_) fun h=>?_
 ·exact absurd (by rw[F,N];rfl) h
 have I:A.length=1:=by rw[G];rfl
 refine Ae 0 fun U f=>?_
 try conv=>cbv
 obtain⟨t,D,j,s,d⟩:=By r;refine AB M (hH (FW G f) P H O d) ?_;refine⟨[((t,D),(j,s))],Ca,.inl ?_⟩;try conv=>cbv
 exact AN ⟨⟨rfl,.inl ⟨_,rfl,Ai,congrArg _ (by rw[J,d.rp];rfl)⟩,trivial⟩,t2,trivial⟩
theorem jA {l:LR} (D:T=[]) (j:A=[rp q]) (F:l=[(((false,[]),(false,[])):el AG)]) (H:B8 q) (G:¬∃r:Rat,0<=r/\r*r=q):CF 207 [Ah T,AO A] (.Aj [(false,[Au l]),(false,[.bool false])]):=by
 refine AM Tryz.func207 fun E t=>?_
 rintro I ⟨h,f31⟩;refine CN (fun f=>?_) fun f=>?_
 ·exact absurd (by rw[h,D];rfl) f
 have s:A.length=1:=by rw[j];rfl
 refine Ae 0 fun J d=>?_
 try conv=>cbv
 refine AB t (g9 (FW j d) H G) ?_;refine⟨[((false,[]),(false,[]))],Ca,.inl ?_⟩;try conv=>cbv
 exact AN ⟨⟨rfl,.inl ⟨_,rfl,Ai,congrArg _ (by rw[F];rfl)⟩,trivial⟩,t2,trivial⟩
def Wf (R:Nat) (u:AD):Prop:=∀{s:Nat} {x:Re},El u s x->SS u.length R s<=60000000000000->VV u.length R R<=60000000000000->(∃w,In u w/\w*w=x/\Ic u x w)\/(¬Sq u x/\∃l,Ib u x l)
theorem Vl {u:AD} {R:Nat} (h:BC R u):Wf R u:=by
 induction u with
 | nil=>
  intro s x O Z F;obtain⟨q,rfl⟩:=Cy.1 O.mem
  have ak:B8 q:=by
   have:=O.CM (by have:=WM ([]:AD).length R s;omega);rw[DH] at this;exact this q List.mem_cons_self
  by_cases hr:∃r:Rat,0<=r/\r*r=q
  ·obtain⟨r,W,hr⟩:=hr;refine .inl ⟨Re.ofRat r,Fy r _,by rw[<-Re.ofRat_mul,hr],?_⟩;intro T A B H G hB;exact jB H (G.trans (Ds q)) (hB.trans (Ds r)) ak W hr
  exact .inr ⟨fun Z=>hr (dg.1 Z),_,fun H G=>jA H (G.trans (Ds q)) rfl ak hr⟩
 | cons r u D=>
  have D:Wf R u:=D h.tail;intro s x O Z F;obtain⟨p,q,d,J,Q⟩:=El.parts h.red O
  by_cases af:x<0
  ·refine .inr ⟨?_,[],fun H G=>jF h H G O d J Q Z F af⟩
   rintro⟨w,_,hw⟩
   have:=Re.IP w
   clear D;grind
  have M:0<=x:=by clear D;grind
  have aA:TQ u.length R s=3*s+4*EE u.length R+R+GG u.length R+3+II u.length R R:=rfl;have aC:SS u.length R (TQ u.length R s)<=SS (r::u).length R s:=WL u.length R s;have hQ:∀s',s'<=TQ u.length R s->SS u.length R s'<=60000000000000:=fun s' h'=>Nat.le_trans (Oe u.length R h') AA
  have I:VV u.length R R<=60000000000000:=Nat.le_trans (WQ u.length R R) F;have aw:=El.DL h;have ax:=Cz h.red
  by_cases W:q=0
  ·have aa:x=p:=by rw[d,W];clear D;grind
   rcases D J (hQ _ AA) I with⟨w,hw,f,hy⟩ |⟨P,l,hn⟩
   ·refine .inl ⟨w,FU hw,by rw[aa];exact f,?_⟩;intro T A B H G hB;exact jG h H G O d J Q Z F M W hw hy hB
   obtain⟨i,hi,U⟩:=EU h.red.1 (B0 h.red) (by have:=h.red.2.2.1;grind);have aq:=aw.inv h.tail hi U;rcases D (J.mul h.tail aq) (hQ _ AA) I with⟨w,hw,f,hy⟩ |⟨ai,l2,au⟩
   ·refine .inl ⟨w*rt u r,Ci.2 ⟨0,w,CO u,hw,by clear D;grind⟩,?_,?_⟩
    ·have:p=p*(AQ u r*i):=by rw[U];clear D;grind
     rw[aa];clear D;grind
    intro T A B H G hB;exact jH h H G O d J Q Z F M W hi U hn hw hy hB
   refine .inr ⟨?_,[],?_⟩
   ·rw[aa,dd h.red J.mem];rintro (h1 |⟨i',aB,aj,h1⟩)
    ·exact P h1
    have:i'=i:=by
     have:i'=i'*(AQ u r*i):=by rw[U];clear D;grind
     have h2:i=i*(AQ u r*i'):=by rw[aj];clear D;grind
     clear D;grind
    rw[this] at h1;exact ai h1
   intro T A H G;exact jI h H G O d J Q Z F M W hi U hn au
  have hN:=El.norm h J.mem Q.mem (d ▸ O);rcases D hN (hQ _ AA) I with⟨n,hn,N,ao⟩ |⟨P,l,av⟩
  rotate_left
  ·exact .inr ⟨fun hS=>P (di h.red J.mem Q.mem (d ▸ hS)),[],fun H G=>jC h H G O d J Q Z F M W av⟩
  have ae:=hN.sqrt h.tail hn N;obtain⟨t,ht⟩:∃t:Re,t=Re.ofRat (1/2):=⟨_,rfl⟩
  have a1:=ZB ht;have a8:El u 1 t:=by rw[ht];exact El.rat h.red.1 NG
  obtain⟨y,hy⟩:∃y:Nat->Re,y=fun i=>if i=0 then p+n else p-n:=⟨_,rfl⟩
  have a2:y 0=p+n:=by rw[hy];rfl
  have a5:y 1=p-n:=by rw[hy];rfl
  have a6:∀i,El u (s+(2*s+2*EE u.length R+R+1+GG u.length R)+1) (y i):=fun i=>by
   rw[hy]
   show El u _ (if i=0 then p+n else p-n)
   by_cases hi:i=0
   ·rw[if_pos hi];exact J.add h.red.1 ae
   rw[if_neg hi];exact J.sub h.red.1 ae
  have a7:∀(k0:Nat) (L:Nat->LR) (w:Re),k0<2->(∀i,i<k0->Ib u (t*y i) (L i))->In u w->w*w=t*y k0->Ic u (t*y k0) w->
    ∃w,In (r::u) w/\w*w=x/\Ic (r::u) x w:=by
   intro k0 L w hk P hw f V
   have key:∃m,m*m=p*p-q*q*AQ u r/\y k0=p+m:=by
    rcases (AA:k0=0\/k0=1) with rfl | rfl
    ·exact⟨n,N,a2⟩
    exact⟨-n,by rw[<-N];clear D;grind,by rw[a5];clear D;grind⟩
   obtain⟨m,ab,an⟩:=key;have az:w≠0:=dc h.red W ab a1 (by rw[f,an]);obtain⟨j,hj,al⟩:=EU h.red.1 hw az;have ay:In u (t*(q*j)):=Ak h.red.1 a8.mem (Ak h.red.1 Q.mem hj);refine⟨w+t*(q*j)*rt u r,Ci.2 ⟨_,_,hw,ay,rfl⟩,?_,?_⟩
   ·rw[d]
    exact db ab a1 ax (by rw[f,an]) (i:=t*j) (by have:(w+w)*(t*j)=2*t*(w*j):=by clear D;grind
                                                 rw[this,a1,al];clear D;grind) (by clear D;grind)
   intro T A B H G hB;exact jD h H G O d J Q Z F M W hn N ht ao a2 a5 a6 AA P hk hw f V hj al hB
  rcases D (a8.mul h.tail (a6 0)) (hQ _ AA) I with⟨w,hw,f,V⟩ |⟨ag,l0,ad⟩
  ·exact .inl (a7 0 (fun _=>[]) w AA (fun i hi=>AA) hw f V)
  rcases D (a8.mul h.tail (a6 1)) (hQ _ AA) I with⟨w,hw,f,V⟩ |⟨ah,l1,ar⟩
  ·exact .inl (a7 1 (fun _=>l0) w AA (fun i hi=>by rw[(AA:i=0)];exact ad) hw f V)
  refine .inr ⟨fun hS=>?_,[],?_⟩
  ·rcases dj h.red J.mem Q.mem (d ▸ hS) N a1 with e | e
   ·exact ag (by rw[a2];exact e)
   exact ah (by rw[a5];exact e)
  intro T A H G
  exact jE h H G O d J Q Z F M W hn N ht ao a2 a5 a6 (L:=fun i=>if i=0 then l0 else l1) (Nat.le_refl 2) (fun i hi=>by
   rcases (AA:i=0\/i=1) with rfl | rfl
   ·exact ad
   exact ar) rfl
end
section
variable {A:LR} {R:Nat} {T X Y:List LR} {b1 b2 c:Bool} {g:FuncId} {l1 l2:List UInt32} {u w:AD} {x:Re} {xs ys:List Rat}
theorem SX (p q:Rat):decide (p=q)=(HC p q==0):=by
 rw[Bool.eq_iff_iff,decide_eq_true_eq,beq_iff_eq];unfold HC
 split
 ·rename_i h;exact⟨fun e=>by subst e;grind,fun e=>AA⟩
 split
 ·rename_i h;exact⟨fun e=>by subst e;grind,fun e=>AA⟩
 exact⟨fun _=>rfl,fun _=>by grind⟩
theorem Qt {p q:Rat} (h:rp p=rp q):p=q:=by
 have d:=FL p;rw[h] at d;have f:=FL q;have e1:=d.num.nat;have e2:=f.num.nat;have s1:=d.num.Ep;have s2:=f.num.Ep;have d1:=d.den.Ep;have d2:=f.den.Ep;exact Rat.ext (s1.trans s2.symm) (by have:=d1.trans d2.symm;omega)
theorem cB (h:BF xs=BF ys):xs=ys:=List.map_inj_right (fun _ _=>Qt) |>.1 h
def Fg {α:Type} (p:α->α->Bool):List α->List α->Bool
 | [],[]=>true
 | x::X,y::Y=>p x y&&Fg p X Y
 | _,_=>false
theorem Sr {α:Type} {p:α->α->Bool}:∀{X Y:List α},X.length≠Y.length->Fg p X Y=false
 | [],[],h=>absurd rfl h
 |[],_::_,_|_::_,[],_=>rfl
 | x::X,y::Y,h=>by rw[Fg,Sr (X:=X) (Y:=Y) (by simpa using h),Bool.and_false]
theorem Pk {α:Type} {p:α->α->Bool} {X Y:List α} {i:Nat} {x y:α} (d:X[i]? =some x) (f:Y[i]? =some y):Fg p (X.drop i) (Y.drop i)=(p x y&&Fg p (X.drop (i+1)) (Y.drop (i+1))):=by
 have h:=Gs d;have j:=Gs f;rw[List.drop_eq_getElem_cons h,List.drop_eq_getElem_cons j,Fg];rw[List.getElem?_eq_getElem h] at d;rw[List.getElem?_eq_getElem j] at f;rw[Option.some.inj d,Option.some.inj f]
theorem Sp {α:Type} {p:α->α->Bool}:∀{X Y:List α},(∀x∈X,∀y∈Y,(p x y=true↔x=y))->(Fg p X Y=true↔X=Y)
 |[],[],_|[],_::_,_|_::_,[],_=>by simp[Fg]
 | x::X,y::Y,h=>by
  rw[Fg,Bool.and_eq_true,h x List.mem_cons_self y List.mem_cons_self,Sp (fun a ha b hb=>h a (List.mem_cons_of_mem _ ha) b (List.mem_cons_of_mem _ hb))];simp
theorem pq {p q:Rat} {c1 c2:Bool} {m1 m2:List UInt32} (t:BV p b1 l1 b2 l2) (D:BV q c1 m1 c2 m2) (s:B8 p) (ht:B8 q) (j:c=decide (p=q)):CF 282 [.agg (Br b1 l1 b2 l2),.agg (Br c1 m1 c2 m2)] (.one (.bool c)):=by
 refine AM Tryz.func282 fun E h=>?_
 obtain⟨G,d⟩:=xI (HC p q);refine AB h (gF t D s ht d) ?_;intro F f;exact AL (by rw[j,f,d];exact SX p q)
theorem fg {X Y:LR} {p:el AG->el AG->Bool} (hg:∀x∈X,∀y∈Y,CF g [.agg (cells AG x),.agg (cells AG y)] (.one (.bool (p x y)))) (Q:c=Fg p X Y):CF 281 [AO X,AO Y,.one (.fn g)] (.one (.bool c)):=by
 refine AM Tryz.func281 fun E hE=>?_
 rintro a7 ⟨V,f11⟩ a8 ⟨W,f13⟩;refine Gn (fun H=>?_) fun H=>?_
 ·exact AL (by rw[Q];exact Sr AA)
 intro M s;have Z:=s.eq;have f16:=s.le;refine BI [] [1,2,15,16,17] [] (fun vs U k=>∃(i':Nat) (L i:Int),vs=[AO Y,.one (.fn g),AO X,AH L,AH i]/\(DX L X.length/\AR i i'/\i'<=X.length)/\c=Fg p (X.drop i') (Y.drop i')/\k=X.length-i') (X.length-0) ⟨0,M,0,rfl,⟨s,BD 0,AA⟩,Q,rfl⟩ ?_;rintro J0 G vs U a6 ⟨i',L,i,rfl,⟨P,hi,a2⟩,hinv,a5⟩;conv=>cbv
 have eL:=P.eq;have ei:=hi.eq;refine BQ (fun I=>?_) fun I=>?_
 ·exact AL (by rw[hinv,List.drop_eq_nil_of_le AA,List.drop_eq_nil_of_le AA];rfl)
 refine .inr ?_;refine Ae i' fun t f=>?_
 try conv=>cbv
 refine Ae i' fun D h=>?_
 try conv=>cbv
 obtain⟨F,d⟩:=xB (p t D);refine AB (r:= .one (.bool F)) hE ((by rw[d];exact hg t (List.mem_of_getElem? f) D (List.mem_of_getElem? h))) ?_;intro N j;cases N <;> conv=>cbv
 ·have J:=Gg j;refine AK ?_;intro O a1;refine⟨X.length-(i'+1),?_,?_⟩
  ·omega
  rw[G];refine⟨i'+1,L,O,rfl,⟨P,⟨AA⟩,AA⟩,?_,rfl⟩;rw[hinv,Pk f h,<-d,Gg j,Bool.true_and]
 have J:=Gh j;exact AL (by rw[hinv,Pk f h,<-d,Gh j];rfl)
theorem fh {p:LR->LR->Bool} (hg:∀x∈X,∀y∈Y,CF g [AO x,AO y] (.one (.bool (p x y)))) (Q:c=Fg p X Y):CF 280 [Ah X,Ah Y,.one (.fn g)] (.one (.bool c)):=by
 refine AM Tryz.func280 fun E hE=>?_
 rintro a7 ⟨V,f11⟩ a8 ⟨W,f13⟩;refine Gn (fun H=>?_) fun H=>?_
 ·exact AL (by rw[Q];exact Sr AA)
 intro M s;have Z:=s.eq;have f16:=s.le;refine BI [] [1,2,15,16,17] [] (fun vs U k=>∃(i':Nat) (L i:Int),vs=[Ah Y,.one (.fn g),Ah X,AH L,AH i]/\(DX L X.length/\AR i i'/\i'<=X.length)/\c=Fg p (X.drop i') (Y.drop i')/\k=X.length-i') (X.length-0) ⟨0,M,0,rfl,⟨s,BD 0,AA⟩,Q,rfl⟩ ?_;rintro J0 G vs U a6 ⟨i',L,i,rfl,⟨P,hi,a2⟩,hinv,a5⟩;conv=>cbv
 have eL:=P.eq;have ei:=hi.eq;refine BQ (fun I=>?_) fun I=>?_
 ·exact AL (by rw[hinv,List.drop_eq_nil_of_le AA,List.drop_eq_nil_of_le AA];rfl)
 refine .inr ?_;refine Ae i' fun t f=>?_
 try conv=>cbv
 refine Ae i' fun D h=>?_
 try conv=>cbv
 obtain⟨F,d⟩:=xB (p t D);refine AB (r:= .one (.bool F)) hE ((by rw[d];exact hg t (List.mem_of_getElem? f) D (List.mem_of_getElem? h))) ?_;intro N j;cases N <;> conv=>cbv
 ·have J:=Gg j;refine AK ?_;intro O a1;refine⟨X.length-(i'+1),?_,?_⟩
  ·omega
  rw[G];refine⟨i'+1,L,O,rfl,⟨P,⟨AA⟩,AA⟩,?_,rfl⟩;rw[hinv,Pk f h,<-d,Gg j,Bool.true_and]
 have J:=Gh j;exact AL (by rw[hinv,Pk f h,<-d,Gh j];rfl)
theorem py (j:EP xs) (ht:EP ys):∀x∈BF xs,∀y∈BF ys,CF 282 [.agg (cells AG x),.agg (cells AG y)] (.one (.bool (decide (x=y)))):=by
 intro x s y t;obtain⟨p,d,rfl⟩:=List.mem_map.1 s;obtain⟨q,f,rfl⟩:=List.mem_map.1 t;refine pq (FL p) (FL q) (j p d) (ht q f) ?_
 by_cases h:p=q
 ·subst h;simp
 rw[decide_eq_false h,decide_eq_false (fun e=>h (Qt e))]
theorem Qu {X Y:LR} (j:X=BF xs) (s:Y=BF ys) (D:EP xs) (ht:EP ys) (t:c=decide (X=Y)):CF 239 [AO X,AO Y] (.one (.bool c)):=by
 refine AM Tryz.func239 fun E h=>?_
 obtain⟨f,d⟩:=xB (Fg (fun x y=>decide (x=y)) X Y);refine AB (r:= .one (.bool f)) h (fg (by rw[j,s];exact py D ht) d) ?_;exact AL (by rw[t,d,Bool.eq_iff_iff,decide_eq_true_eq];exact (Sp (fun x _ y _=>by rw[decide_eq_true_eq])).symm)
theorem pw (hu:BC R u) (hw:BC R w) (d:∀x∈X,x∈tw u) (f:∀y∈Y,y∈tw w):∀x∈X,∀y∈Y,CF 239 [AO x,AO y] (.one (.bool (decide (x=y)))):=by
 intro x s y t;obtain⟨p,h,rfl⟩:=List.mem_map.1 (d x s);obtain⟨q,j,rfl⟩:=List.mem_map.1 (f y t);exact Qu rfl rfl ((hu.tb p (List.mem_reverse.1 h)).CM hu.hR) ((hw.tb q (List.mem_reverse.1 j)).CM hw.hR) rfl
theorem Xk (hu:BC R u) (hw:BC R w) (J:X=tw u) (M:Y=tw w) (t:c=(decide (Y.length<=X.length)&&decide (X.take Y.length=Y))):CF 238 [Ah X,Ah Y] (.one (.bool c)):=by
 refine AM Tryz.func238 fun E I=>?_
 rintro W ⟨U,f6⟩ Z ⟨V,f8⟩;refine fR (fun O=>?_) fun O=>?_
 ·exact AL (by rw[t,decide_eq_false (AA:¬Y.length<=X.length),Bool.false_and])
 rintro Q ⟨H,f13⟩ P D h s j f;obtain⟨G,d⟩:=xB (Fg (fun x y=>decide (x=y)) j Y);refine AB I (fh (pw hu hw (fun x F=>by rw[f,List.drop_zero] at F;rw[<-J];exact List.mem_of_mem_take F) (fun y N=>by rw[<-M];exact N)) d) ?_;exact AL (by rw[t,decide_eq_true (AA:Y.length<=X.length),Bool.true_and,d,f,List.drop_zero,(AA:h=Y.length),Bool.eq_iff_iff,decide_eq_true_eq];exact (Sp (fun x _ y _=>by rw[decide_eq_true_eq])).symm)
theorem OQ (h:tw u=tw w):u=w:=by
 have d:=(List.map_inj_right (fun _ _=>cB)).1 h;exact List.reverse_inj.1 d
theorem VN:w<:+u↔((tw w).length<=(tw u).length/\(tw u).take (tw w).length=tw w):=by
 constructor
 ·rintro⟨v,rfl⟩
  have e:tw (v++w)=tw w++tw v:=by rw[tw,tw,tw,List.reverse_append,List.map_append]
  rw[e];exact⟨Ai,List.take_left⟩
 rintro⟨f,d⟩
 rw[CA,CA] at f;rw[CA,Ix] at d;rw[<-OQ d];exact List.drop_suffix _ _
theorem js (hu:BC R u) (hw:BC R w) (d:X=tw u) (f:Y=tw w) (h:w<:+u):CF 238 [Ah X,Ah Y] (.one (.bool true)):=
 Xk hu hw d f (by have:=VN.1 h;rw[d,f,decide_eq_true this.1,decide_eq_true this.2];rfl)
theorem jq (hu:BC R u) (hw:BC R w) (f:X=tw u) (j:Y=tw w) (h:¬w<:+u):CF 238 [Ah X,Ah Y] (.one (.bool false)):=
 Xk hu hw f j (by
  by_cases d:Y.length<=X.length
  ·rw[decide_eq_true d,decide_eq_false (fun s=>h (VN.2 (by rw[<-f,<-j];exact⟨d,s⟩)))];rfl
  rw[decide_eq_false d];rfl)
theorem YB {q:Rat} (j:BV q b1 l1 b2 l2) (f:B8 q):CF 181 [.agg (Br b1 l1 b2 l2)] (.agg (Br b1 l1 b2 l2)):=by
 have h:=j.small f;refine AM Tryz.func181 fun E d=>?_
 refine AB d (LG rfl AA) ?_;refine AB d (LG rfl AA) ?_;exact AN Ao
theorem Sh {X:LR} (V:X=BF xs) (hs:EP xs) (hn:xs.length<=1000000):CF 138 [AO X] (AO X):=by
 have a5:X.length=xs.length:=by rw[V,List.length_map]
 refine AM Tryz.func138 fun E hE=>?_
 rintro n7 ⟨e7,f7⟩;refine⟨fun _=>⟨AA,AA,by show _*64<=140737488355328;omega⟩,?_⟩;intro J (M:LR) t;have a8:=t.1;have G:M=List.replicate J (((false,[]),(false,[])):el AG):=t.2;have a1:M.length=J:=by rw[G,List.length_replicate]
 refine AW ?_;intro N h;have Z:=h.eq;have f10:=h.le;refine BI [] [3,9,10,11] [8] (fun vs P k=>∃(o:LR) (m i':Nat) (L i:Int),vs=[.one (.AU AG 8 0 0 m),AO X,AH L,AH i]/\P=[.arr 0 AG o]/\(o.length=X.length/\m=X.length/\DX L X.length/\AR i i'/\i'<=X.length)/\o.take i'=X.take i'/\k=X.length-i') (X.length-0) ⟨M,J,0,N,0,rfl,rfl,⟨AA,AA,h,BD 0,AA⟩,rfl,rfl⟩ ?_;rintro J0 F vs P ab ⟨o,m,i',L,i,rfl,rfl,⟨ho,hm,U,hi,a6⟩,hinv,a7⟩;conv=>cbv
 have eL:=U.eq;have ei:=hi.eq;refine BQ (fun I=>?_) fun I=>?_
 ·exact AN ⟨⟨rfl,.inl ⟨_,rfl,AA,congrArg _ (by rw[hm,List.drop_zero];rw[(AA:i'=X.length)] at hinv;rw[hinv,List.take_length])⟩,trivial⟩,trivial⟩
 refine .inr ?_;refine Ae i' fun D f=>?_
 try conv=>cbv
 obtain⟨q,hq,aa,H⟩:=Iq V hs f;refine AB hE (YB hq H) ?_;intro s W;refine⟨D,fun _=>⟨by show _<List.length (α:=(el AG)) o;(first | omega | (simp;omega)),t4⟩,?_⟩;intro (j:LR) (d:j=List.set (α:=(el AG)) o s D);have Q:j.length=o.length:=by rw[d,List.length_set]
 refine AK ?_;intro O a2;refine⟨X.length-(i'+1),?_,?_⟩
 ·omega
 rw[F];refine⟨j,m,i'+1,L,O,rfl,rfl,⟨AA,AA,U,⟨AA⟩,AA⟩,?_,rfl⟩;rw[d,(AA:s=i'),RA AA,hinv,<-DU f]
theorem Pa {s:Nat} (h:BC R u) (hT:T=tw u) (hA:A=em u x) (hx:El u s x) (hs:s<=60000000000000:=by omega):CF 73 [.agg (AZ T A)] (.agg (AZ T A)):=by
 have a7:T.length=u.length:=by rw[hT,CA]
 have a8:=h.ht;refine AM Tryz.func73 fun E hE=>?_
 refine AB (r:= .one (Au A)) hE (Sh hA (hx.CM hs) (by rw[hx.len];exact Js h.ht)) ?_;intro a5 G;have a6:=G.eq;have f12:=G.le;refine .inr ?_;obtain⟨J0,t⟩:=xJ fun vs V k=>(∃(L i:Int),vs=[.one (.BE 2 0 0),.one (.BE 3 0 0),Ah T,AH L,AH i]/\V=[.var 0 [.nil,.nil],.var 0 [.nil,Au A],.dead 0]/\(DX L T.length/\AR i 0)/\k=T.length)\/(∃(o:List LR) (mm i':Nat) (L i:Int),vs=[.one (.BE 2 0 0),.one (.BE 3 0 0),Ah T,AH L,AH i]/\V=[.var 0 [.nil,.nil],.var 0 [.AU (.sl AG) 22 0 0 mm,Au A],.arr 0 (.sl AG) o]/\(DX L T.length/\AR i i'/\i'<=T.length/\mm=o.length)/\o=T.take i'/\k=T.length-i')
 refine⟨[],[2,3,11,12,13],[2,3,22],J0,⟨T.length,by rw[t];exact .inl ⟨a5,0,rfl,rfl,⟨G,BD 0⟩,rfl⟩⟩,?_⟩;intro vs V ad hj;rw[t] at hj;rcases hj with⟨L,i,rfl,rfl,⟨O,hi⟩,a2⟩ |⟨o,mm,i',L,i,rfl,rfl,⟨O,hi,aa,Q⟩,hinv,a2⟩
 ·conv=>cbv
  have eL:=O.eq;have ei:=hi.eq;obtain⟨i',a1⟩:=xN 0;refine BQ (fun J=>?_) fun J=>?_
  ·exact AN ⟨⟨rfl,.inr (.inl ⟨_,congrArg _ (List.eq_nil_of_length_eq_zero AA)⟩),rfl,trivial⟩,trivial⟩
  refine .inr ?_;refine Ae i' fun d f=>?_
  try conv=>cbv
  obtain⟨y,H,j⟩:=Ka hT f;have I:y∈u:=List.mem_reverse.1 (List.mem_of_getElem? j);refine AB (r:= .one (Au d)) hE (Sh H ((h.tb y I).CM h.hR) (by rw[MN h.red _ y j];exact Js)) ?_;refine⟨[d],Ca,.inr ?_⟩;try conv=>cbv
  refine .inl ⟨[d],fun _=>⟨rfl,B5 (1) 24⟩,?_⟩;refine AK ?_;intro D W N Z;refine⟨T.length-(i'+1),?_,?_⟩
  ·omega
  rw[t];exact .inr ⟨[d],D,i'+1,L,N,rfl,rfl,⟨O,⟨AA⟩,AA,W⟩,by rw[DU f,a1];rfl,rfl⟩
 conv=>cbv
 have eL:=O.eq;have ei:=hi.eq;refine BQ (fun J=>?_) fun J=>?_
 ·exact AN ⟨⟨rfl,.inl ⟨_,rfl,AA,congrArg _ (by rw[Q,hinv,List.drop_zero,List.take_length,(AA:i'=T.length),List.take_length])⟩,rfl,trivial⟩,trivial⟩
 refine .inr ?_;refine Ae i' fun d f=>?_
 try conv=>cbv
 obtain⟨y,H,j⟩:=Ka hT f;have I:y∈u:=List.mem_reverse.1 (List.mem_of_getElem? j);refine AB (r:= .one (Au d)) hE (Sh H ((h.tb y I).CM h.hR) (by rw[MN h.red _ y j];exact Js)) ?_;refine⟨[d],Ca,.inr ?_⟩;try conv=>cbv
 have ab:o.length<=T.length:=by rw[hinv,List.length_take];omega
 refine .inl ⟨[d],fun _=>⟨rfl,Q,rfl,B5 (o.length+1) 24⟩,?_⟩;intro (M:List (el (.sl AG))) D F;have P:M=(o:List (el (.sl AG)))++([d]:List (el (.sl AG))):=F.1;have U:D=List.length (α:=(el (.sl AG))) M:=F.2;refine AK ?_;intro N Z;refine⟨T.length-(i'+1),?_,?_⟩
 ·omega
 rw[t];exact .inr ⟨M,D,i'+1,L,N,rfl,rfl,⟨O,⟨AA⟩,AA,U⟩,by rw[P,hinv,DU f],rfl⟩
theorem Ub {C:LR} (h:BC R w) (hT:T=tw w) (hA:A=em u x) (hx:In u x) (hu:u<:+w) (hC:C=em w x):CF 243 [Ah T,AO A] (AO C):=by
 have V:T.length=w.length:=by rw[hT,CA]
 have a7:=h.ht;have a6:A.length=2^u.length:=by rw[hA,Bh hx]
 have Z:=hu.length_le;have hle:2^u.length<=2^w.length:=Cb Z;have a5:=Dh h.ht;have N:=Yb hu h.red hx;refine AM Tryz.func243 fun E hE=>?_
 obtain⟨an,I⟩:=xN A.length;refine AB hE (Vu AA I) ?_;refine BI [] [0,5] [7] (fun vs bl k=>∃(o:LR) (mm j:Nat),vs=[Ah T,.one (.AU AG 7 0 0 mm)]/\bl=[.arr 0 AG o]/\(mm=o.length/\o.length=2^u.length+j/\o.length<=2^w.length)/\o=A++List.replicate j (rp 0)/\k=2^w.length-o.length) (2^w.length-A.length) ⟨A,an,0,rfl,rfl,⟨I,AA,AA⟩,Ai,rfl⟩ ?_;rintro J0 U vs bl ad ⟨o,mm,j,rfl,rfl,⟨J,aa,ab⟩,hinv,a8⟩;conv=>cbv
 intro n9 h9;have e9:=h9.eq;refine AK ?_;rintro ae ⟨P,f11⟩ af Q;have a2:=(FY Q (P.trans (congrArg _ V))).eq;refine BQ (fun a1=>?_) fun a1=>?_
 ·exact AN ⟨⟨rfl,.inl ⟨_,rfl,AA,congrArg _ (by rw[hC,J,List.drop_zero,List.take_length,hinv,N,hA,(AA:j=2^w.length-2^u.length)])⟩,trivial⟩,trivial⟩
 refine .inr ?_;obtain⟨s,t,d,f,G⟩:=By (((0:Int):Rat));refine AB hE (Hw AA rfl G) ?_;refine⟨[((s,t),(d,f))],Ca,.inr ?_⟩;try conv=>cbv
 refine .inl ⟨[((s,t),(d,f))],fun _=>⟨rfl,J,rfl,B5 (o.length+1) 64⟩,?_⟩;intro (D:LR) O H;have F:D=(o:LR)++([((s,t),(d,f))]:LR):=H.1;have M:O=List.length (α:=(el AG)) D:=H.2;conv=>cbv
 have W:D.length=o.length+1:=by rw[F];simp
 exact BT U ⟨D,O,j+1,rfl,rfl,⟨M,AA,AA⟩,by rw[F,hinv,List.replicate_succ',List.append_assoc,<-G.rp];rfl,rfl⟩
end
section
def GB (w:AD) (RL:List LR):AD->Prop
 | []=>True
 | r::u=>GB w RL u/\∃wk,wk<:+w/\In wk (rt u r)/\RL[u.length]? =some (em wk (rt u r))
variable {A C:LR} {K R S a k mm n:Nat} {RL T:List LR} {TT:AD->Prop} {p q x:Re} {r:List Rat} {u w:AD}
theorem GB.mono {w':AD} {X:List LR} (h:w<:+w'):∀{u:AD},GB w RL u->GB w' (RL++X) u
 | [],_=>trivial
 | r::u,⟨f,s,j,h3,d⟩=>⟨f.mono h,s,j.trans h,h3,by rw[List.getElem?_append_left (Gs d)];exact d⟩
noncomputable def E8 (t:AD):AD->List LR
 | []=>[]
 | r::u=>E8 t u++[em (ext t (r::u)) (rt u r)]
theorem OD (t:AD):∀u,(E8 t u).length=u.length
 | []=>rfl
 | r::u=>by rw[E8,List.length_append,OD t u];rfl
theorem OE {t:AD} (ht:Ag t):∀{u:AD},Ag u->GB (ext t u) (E8 t u) u
 | [],_=>trivial
 | r::u,hu=>by
  refine⟨(OE ht hu.1).mono (O1 _ _),ext t (r::u),List.suffix_refl _,(I2 ht hu).2.root,?_⟩;rw[E8,List.getElem?_append_right (by rw[OD];omega),OD,Nat.sub_self];rfl
theorem Sx {t:AD} (ht:Ag t):∀{u:AD},Ag u->BW u t->ext t u=t
 | [],_,_=>rfl
 | r::u,hu,h=>by
  rw[ext,Sx ht hu.1 h.tail];exact EK ⟨rt u r,h.root,Cz hu⟩
def Ra (f:FuncId) (S:Nat) (w u:AD):Prop:=∀{T RL:List LR} {A C:LR} {x:Re},T=tw w->GB w RL u->A=em u x->El u S x->C=em w x->
 CF f [.agg [BP T,BP RL],AO A] (AO C)
def Rc (f:FuncId) (S:Nat) (w u:AD):Prop:=∀{T RL:List LR} {A C:LR} {x:Re} {mm:Nat},T=tw w->GB w RL u->mm=RL.length->A=em u x->El u S x->C=em w x->
 Dn Tryz.prog f [.agg [BP T,.AU (.sl AG) 0 0 0 mm],AO A] (.arr 0 (.sl AG) RL) (AO C)
theorem bI {b:Nat}:2^a<2^b↔a<b:=Nat.pow_lt_pow_iff_right AE
theorem Ly (ha:a=2^n+2^n) (h:2^(k+1)<a):k<n:=by
 have d:a=2^(n+1):=by rw[ha,Nat.pow_succ];omega
 rw[d,bI] at h;omega
theorem Lx (ha:a=2^n+2^n) (h:¬2^(k+1)<a):n<=k:=by
 have d:a=2^(n+1):=by rw[ha,Nat.pow_succ];omega
 rw[d,bI] at h;omega
theorem mJ {u:AD} {x:Re} (G:Gam TT R K S) (hw:TT w) (H:T=tw w) {q:Rat} (s:A=em [] (Re.ofRat q)) (I:B8 q) (D:C=em w (Re.ofRat q)):CF 249 [.agg [BP T,BP RL],AO A] (AO C):=by
 have d:A=[rp q]:=s.trans (Ds q);have t:A.length=1:=by rw[d];rfl
 refine AM Tryz.func249 fun E F=>?_
 rintro J ⟨j,f10⟩;refine CN (fun h=>?_) fun h=>?_
 ·exact absurd h AA
 refine Ae 0 fun M f=>?_
 try conv=>cbv
 refine AB F (KF (G.BG hw) H (FW d f) I D) ?_;exact AN ⟨t2,trivial⟩
theorem mL (G:Gam TT R K S) (hw:TT w) (hT:T=tw w) (hu:TT (r::u)) (V:BW (r::u) w) (ih:Ra 249 S w u) (hR:GB w RL (r::u)) (U:A=em (r::u) x) (hx:El (r::u) S x) (s:x=p+q*rt u r) (hp:El u S p) (hq:El u S q) (h0:q=0) (hC:C=em w x):CF 249 [.agg [BP T,BP RL],AO A] (AO C):=by
 have j:=(G.BG hu).red;have t:A.length=2^u.length+2^u.length:=by rw[U,Bh hx.mem,Bz]
 have aA:=DK u.length;have ax:(r::u).length<=8:=G.ht hu;have ag:(r::u).length=u.length+1:=rfl;have hmul:=G.mul hw;have a6:El w K (rt u r):=by have:=G.CK hu hw V (JS j);rwa [Nat.zero_add] at this
 obtain⟨wk,aB,ai,a1⟩:=hR.2;obtain⟨rk,a5⟩:=xR (em wk (rt u r));rw[<-a5] at a1;refine AM Tryz.func249 fun E hE=>?_
 rintro aE ⟨al,f10⟩;refine BS (fun M=>?_) fun M=>?_
 ·exact absurd M AA
 rintro aF ⟨an,f19⟩ ab au;refine BI [] [1,2,5,6] [2] (fun vs bl k=>∃(k':Nat) (N kk:Int),vs=[AO A,.one (.BE 2 0 0),AH N,AH kk]/\bl=[.var 0 [BP T,BP RL]]/\(AR N (A.length/2)/\AR kk k'/\k'<=u.length)/\k=u.length-k') (u.length-0) ⟨0,ab,0,rfl,rfl,⟨⟨AA⟩,BD 0,AA⟩,rfl⟩ ?_;rintro J0 W vs bl aC ⟨k',N,kk,rfl,rfl,⟨D,Z,az⟩,ay⟩;have aq:=D.eq;have ar:=Z.eq;refine AK ?_;rintro aG av aH Q aI ⟨ao,f25⟩;have aj:=(FY (k:=k'+1) Q AA).eq;refine DF (fun a7=>?_) fun a7=>?_
 ·refine .inr ?_;have a2:k'<u.length:=Ly t (AA:2^(k'+1)<A.length);refine AK ?_;intro ad aw;exact BT W ⟨k'+1,N,ad,rfl,rfl,⟨D,⟨AA⟩,AA⟩,rfl⟩
 have a2:k'=u.length:=by have:=Lx t (AA:¬2^(k'+1)<A.length);omega
 refine AK ?_;intro m32 ah P af a8 H;have f:a8=em u p:=by rw[H,List.drop_zero,(AA:P=A.length/2),U,Cv j hp.mem hq.mem s]
 obtain⟨aJ,d⟩:=xR (em w (p));refine AB hE (ih hT hR.1 f hp d) ?_;rintro aD J O ak ⟨ae,F⟩ aa I;have h:aa=em u q:=by rw[I,(AA:O=A.length/2),F,J,List.take_length,U,CZ j hp.mem hq.mem s]
 refine AB hE (KO (G.BG (G.sub hu)).red hq.mem h h0) ?_;exact AL (by rw[hC,d];congr 1;rw[s,h0];clear ih;grind)
theorem mK (G:Gam TT R K S) (hw:TT w) (U:T=tw w) (hu:TT (r::u)) (f:BW (r::u) w) (ih:Ra 249 S w u) (hR:GB w RL (r::u)) (hA:A=em (r::u) x) (hx:El (r::u) S x) (j:x=p+q*rt u r) (hp:El u S p) (M:El u S q) (h0:q≠0) (hC:C=em w x):CF 249 [.agg [BP T,BP RL],AO A] (AO C):=by
 have h:=(G.BG hu).red;have O:A.length=2^u.length+2^u.length:=by rw[hA,Bh hx.mem,Bz]
 have aN:=DK u.length;have aK:(r::u).length<=8:=G.ht hu;have ax:(r::u).length=u.length+1:=rfl;have hmul:=G.mul hw;have d:El w K (rt u r):=by have:=G.CK hu hw f (JS h);rwa [Nat.zero_add] at this
 obtain⟨wk,aj,a7,Q⟩:=hR.2;obtain⟨rk,a8⟩:=xR (em wk (rt u r));rw[<-a8] at Q;refine AM Tryz.func249 fun E N=>?_
 rintro aR ⟨aC,f10⟩;refine BS (fun aa=>?_) fun aa=>?_
 ·exact absurd aa AA
 rintro aS ⟨aD,f19⟩ aq aH;refine BI [] [1,2,5,6] [2] (fun vs bl k=>∃(k':Nat) (hv kk:Int),vs=[AO A,.one (.BE 2 0 0),AH hv,AH kk]/\bl=[.var 0 [BP T,BP RL]]/\(AR hv (A.length/2)/\AR kk k'/\k'<=u.length)/\k=u.length-k') (u.length-0) ⟨0,aq,0,rfl,rfl,⟨⟨AA⟩,BD 0,AA⟩,rfl⟩ ?_;rintro J0 ag vs bl aO ⟨k',hv,kk,rfl,rfl,⟨P,ah,aM⟩,aL⟩;have aF:=P.eq;have aG:=ah.eq;refine AK ?_;rintro aT aI aU af aV ⟨aE,f25⟩;have az:=(FY (k:=k'+1) af AA).eq;refine DF (fun ak=>?_) fun ak=>?_
 ·refine .inr ?_;have ai:k'<u.length:=Ly O (AA:2^(k'+1)<A.length);refine AK ?_;intro ar aJ;exact BT ag ⟨k'+1,hv,ar,rfl,rfl,⟨P,⟨AA⟩,AA⟩,rfl⟩
 have ai:k'=u.length:=by have:=Lx O (AA:¬2^(k'+1)<A.length);omega
 refine AK ?_;intro m32 ay ae aw al Z;have H:al=em u p:=by rw[Z,List.drop_zero,(AA:ae=A.length/2),hA,Cv h hp.mem M.mem j]
 obtain⟨aW,s⟩:=xR (em w (p));refine AB N (ih U hR.1 H hp s) ?_;rintro aP a5 ab aA ⟨au,V⟩ an a1;have I:an=em u q:=by rw[a1,(AA:ab=A.length/2),V,a5,List.take_length,hA,CZ h hp.mem M.mem j]
 refine AB N (Ig (G.BG (G.sub hu)).red M.mem I h0) ?_;rintro aQ a6 ad aB ⟨av,W⟩ ao a2;have J:ao=em u q:=by rw[a2,(AA:ad=A.length/2),W,a6,List.take_length,hA,CZ h hp.mem M.mem j]
 obtain⟨aX,t⟩:=xR (em w (q));refine AB N (ih U hR.1 J M t) ?_;refine Cj Q ?_;obtain⟨aY,D⟩:=xR (em w (rt u r));refine AB N (Ub (G.BG hw) U a8 a7 aj D) ?_;obtain⟨aZ,F⟩:=xR (em w (q*rt u r));refine AB N (Hu (G.BG hw) U t D (G.CK (G.sub hu) hw f.tail M) d AA F) ?_;refine AB (r:= .one (Au C)) N (LD (G.BG hw) U s F (G.CK (G.sub hu) hw f.tail hp) ((G.CK (G.sub hu) hw f.tail M).mul (G.BG hw) d) AA AA (by rw[hC,j])) ?_;exact AN ⟨t2,trivial⟩
theorem mM {u:AD} {x:Re} (I:mm=RL.length) (G:Gam TT R K S) (hw:TT w) (H:T=tw w) {q:Rat} (s:A=em [] (Re.ofRat q)) (J:B8 q) (D:C=em w (Re.ofRat q)):Dn Tryz.prog 249 [.agg [BP T,.AU (.sl AG) 0 0 0 mm],AO A] (.arr 0 (.sl AG) RL) (AO C):=by
 have d:A=[rp q]:=s.trans (Ds q);have t:A.length=1:=by rw[d];rfl
 refine Fx Tryz.func249 fun E F=>?_
 refine AW ?_;rintro M ⟨j,f10⟩;refine CN (fun h=>?_) fun h=>?_
 ·exact absurd h AA
 refine Ae 0 fun N f=>?_
 try conv=>cbv
 refine AB F (KF (G.BG hw) H (FW d f) J D) ?_;refine Ao
theorem mO (a6:mm=RL.length) (G:Gam TT R K S) (hw:TT w) (hT:T=tw w) (hu:TT (r::u)) (W:BW (r::u) w) (ih:Rc 249 S w u) (hR:GB w RL (r::u)) (V:A=em (r::u) x) (hx:El (r::u) S x) (s:x=p+q*rt u r) (hp:El u S p) (hq:El u S q) (h0:q=0) (hC:C=em w x):Dn Tryz.prog 249 [.agg [BP T,.AU (.sl AG) 0 0 0 mm],AO A] (.arr 0 (.sl AG) RL) (AO C):=by
 have j:=(G.BG hu).red;have t:A.length=2^u.length+2^u.length:=by rw[V,Bh hx.mem,Bz]
 have aC:=DK u.length;have az:(r::u).length<=8:=G.ht hu;have ai:(r::u).length=u.length+1:=rfl;have hmul:=G.mul hw;have a8:El w K (rt u r):=by have:=G.CK hu hw W (JS j);rwa [Nat.zero_add] at this
 obtain⟨wk,aD,ak,a2⟩:=hR.2;obtain⟨rk,a7⟩:=xR (em wk (rt u r));rw[<-a7] at a2;refine Fx Tryz.func249 fun E hE=>?_
 refine AW ?_;rintro aG ⟨ao,f10⟩;refine BS (fun M=>?_) fun M=>?_
 ·exact absurd M AA
 rintro aH ⟨aq,f19⟩ ad aw;refine BI [] [1,2,5,6] [0,2] (fun vs bl k=>∃(k':Nat) (O kk:Int),vs=[AO A,.one (.BE 2 0 0),AH O,AH kk]/\bl=[.arr 0 (.sl AG) RL,.var 0 [BP T,.AU (.sl AG) 0 0 0 mm]]/\(AR O (A.length/2)/\AR kk k'/\k'<=u.length)/\k=u.length-k') (u.length-0) ⟨0,ad,0,rfl,rfl,⟨⟨AA⟩,BD 0,AA⟩,rfl⟩ ?_;rintro J0 Z vs bl aE ⟨k',O,kk,rfl,rfl,⟨D,a1,aB⟩,aA⟩;have au:=D.eq;have av:=a1.eq;refine AK ?_;rintro aI ax aJ U aK ⟨ar,f25⟩;have al:=(FY (k:=k'+1) U AA).eq;refine DF (fun aa=>?_) fun aa=>?_
 ·refine .inr ?_;have a5:k'<u.length:=Ly t (AA:2^(k'+1)<A.length);refine AK ?_;intro ae ay;exact BT Z ⟨k'+1,O,ae,rfl,rfl,⟨D,⟨AA⟩,AA⟩,rfl⟩
 have a5:k'=u.length:=by have:=Lx t (AA:¬2^(k'+1)<A.length);omega
 refine AK ?_;intro m32 aj Q ah N H;have f:N=em u p:=by rw[H,List.drop_zero,(AA:Q=A.length/2),V,Cv j hp.mem hq.mem s]
 obtain⟨af,d⟩:=xR (em w (p));refine .inr (.inr (.inl ⟨0,.arr 0 (.sl AG) RL,[.agg [BP T,.AU (.sl AG) 0 0 0 mm],AO N],AO af,Ao,fun _=>Fq hE (ih hT hR.1 a6 f hp d),?_⟩));refine AK ?_;rintro aF J P an ⟨ag,F⟩ ab I;have h:ab=em u q:=by rw[I,(AA:P=A.length/2),F,J,List.take_length,V,CZ j hp.mem hq.mem s]
 refine AB hE (KO (G.BG (G.sub hu)).red hq.mem h h0) ?_;refine fun _=>⟨⟨⟨⟨rfl,congrArg _ (by rw[hC,d];congr 1;rw[s,h0];clear ih;grind),trivial⟩,trivial⟩,rfl,Ai⟩,rfl⟩
theorem mN (ab:mm=RL.length) (G:Gam TT R K S) (hw:TT w) (hT:T=tw w) (hu:TT (r::u)) (f:BW (r::u) w) (ih:Rc 249 S w u) (hR:GB w RL (r::u)) (hA:A=em (r::u) x) (hx:El (r::u) S x) (t:x=p+q*rt u r) (hp:El u S p) (P:El u S q) (h0:q≠0) (hC:C=em w x):Dn Tryz.prog 249 [.agg [BP T,.AU (.sl AG) 0 0 0 mm],AO A] (.arr 0 (.sl AG) RL) (AO C):=by
 have s:=(G.BG hu).red;have W:A.length=2^u.length+2^u.length:=by rw[hA,Bh hx.mem,Bz]
 have aU:=DK u.length;have aR:(r::u).length<=8:=G.ht hu;have aD:(r::u).length=u.length+1:=rfl;have hmul:=G.mul hw;have d:El w K (rt u r):=by have:=G.CK hu hw f (JS s);rwa [Nat.zero_add] at this
 obtain⟨wk,ar,ad,h⟩:=hR.2;obtain⟨rk,j⟩:=xR (em wk (rt u r));rw[<-j] at h;refine Fx Tryz.func249 fun E V=>?_
 refine AW ?_;rintro aY ⟨aJ,f10⟩;refine BS (fun af=>?_) fun af=>?_
 ·exact absurd af AA
 rintro aZ ⟨aK,f19⟩ aw aO;refine BI [] [1,2,5,6] [0,2] (fun vs bl k=>∃(k':Nat) (hv kk:Int),vs=[AO A,.one (.BE 2 0 0),AH hv,AH kk]/\bl=[.arr 0 (.sl AG) RL,.var 0 [BP T,.AU (.sl AG) 0 0 0 mm]]/\(AR hv (A.length/2)/\AR kk k'/\k'<=u.length)/\k=u.length-k') (u.length-0) ⟨0,aw,0,rfl,rfl,⟨⟨AA⟩,BD 0,AA⟩,rfl⟩ ?_;rintro J0 an vs bl aV ⟨k',hv,kk,rfl,rfl,⟨Z,ao,aT⟩,aS⟩;have aM:=Z.eq;have aN:=ao.eq;refine AK ?_;rintro b0 aP b3 al b4 ⟨aL,f25⟩;have aG:=(FY (k:=k'+1) al AA).eq;refine DF (fun au=>?_) fun au=>?_
 ·refine .inr ?_;have aq:k'<u.length:=Ly W (AA:2^(k'+1)<A.length);refine AK ?_;intro ax aQ;exact BT an ⟨k'+1,hv,ax,rfl,rfl,⟨Z,⟨AA⟩,AA⟩,rfl⟩
 have aq:k'=u.length:=by have:=Lx W (AA:¬2^(k'+1)<A.length);omega
 refine AK ?_;intro m32 aF ak aC ag a5;have M:ag=em u p:=by rw[a5,List.drop_zero,(AA:ak=A.length/2),hA,Cv s hp.mem P.mem t]
 obtain⟨ay,D⟩:=xR (em w (p));refine .inr (.inr (.inl ⟨0,.arr 0 (.sl AG) RL,[.agg [BP T,.AU (.sl AG) 0 0 0 mm],AO ag],AO ay,Ao,fun _=>Fq V (ih hT hR.1 ab M hp D),?_⟩));refine AK ?_;rintro aW a8 ai aH ⟨aA,a1⟩ av a6;have N:av=em u q:=by rw[a6,(AA:ai=A.length/2),a1,a8,List.take_length,hA,CZ s hp.mem P.mem t]
 refine AB V (Ig (G.BG (G.sub hu)).red P.mem N h0) ?_;rintro aX aa aj aI ⟨aB,a2⟩ ah a7;have O:ah=em u q:=by rw[a7,(AA:aj=A.length/2),a2,aa,List.take_length,hA,CZ s hp.mem P.mem t]
 obtain⟨az,F⟩:=xR (em w (q));refine .inr (.inr (.inl ⟨0,.arr 0 (.sl AG) RL,[.agg [BP T,.AU (.sl AG) 0 0 0 mm],AO ah],AO az,Ao,fun _=>Fq V (ih hT hR.1 ab O P F),?_⟩));try conv=>cbv
 refine⟨fun _=>⟨AA,by have:=Gs h;omega⟩,?_⟩;intro ae aE;conv=>cbv
 obtain⟨U,J⟩:=Bj (l:=RL) (i:=ae) (by have:=Gs h;omega);refine⟨U,fun _=>J,?_⟩;try conv=>cbv
 have Q:U=rk:=by have:=J;rw[(AA:ae=u.length),h] at this;exact (Option.some.inj this).symm
 have j:U=em wk (rt u r):=Q.trans j;obtain⟨b5,H⟩:=xR (em w (rt u r));refine AB V (Ub (G.BG hw) hT j ad ar H) ?_;obtain⟨b6,I⟩:=xR (em w (q*rt u r));refine AB V (Hu (G.BG hw) hT F H (G.CK (G.sub hu) hw f.tail P) d AA I) ?_;refine AB (r:= .one (Au C)) V (LD (G.BG hw) hT D I (G.CK (G.sub hu) hw f.tail hp) ((G.CK (G.sub hu) hw f.tail P).mul (G.BG hw) d) AA AA (by rw[hC,t])) ?_;refine Ao
theorem ZH (G:Gam TT R K S) (hw:TT w):∀{u:AD},TT u->BW u w->Ra 249 S w u:=by
 intro u
 induction u with
 | nil=>
  intro hu f T RL A C x D hR s d t;obtain⟨q,rfl⟩:=Cy.1 d.mem;have h:=d.CM (by have:=G.mul hw;omega);rw[DH] at h;exact mJ (u:=[]) (x:=0) G hw D s (h q List.mem_cons_self) t
 | cons r u I=>
  intro hu f T RL A C x D hR s d t;obtain⟨p,q,j,H,h⟩:=El.parts (G.BG hu).red d
  by_cases F:q=0
  ·exact mL G hw D hu f (I (G.sub hu) f.tail) hR s d j H h F t
  exact mK G hw D hu f (I (G.sub hu) f.tail) hR s d j H h F t
theorem imD (G:Gam TT R K S) (hw:TT w):∀{u:AD},TT u->BW u w->Rc 249 S w u:=by
 intro u
 induction u with
 | nil=>
  intro hu h T RL A C x mm F hR d t f D;obtain⟨q,rfl⟩:=Cy.1 f.mem;have j:=f.CM (by have:=G.mul hw;omega);rw[DH] at j;exact mM (u:=[]) (x:=0) d G hw F t (j q List.mem_cons_self) D
 | cons r u J=>
  intro hu h T RL A C x mm F hR d t f D;obtain⟨p,q,s,I,j⟩:=El.parts (G.BG hu).red f
  by_cases H:q=0
  ·exact mO d G hw F hu h (J (G.sub hu) h.tail) hR t f s I j H D
  exact mN d G hw F hu h (J (G.sub hu) h.tail) hR t f s I j H D
end
section
variable {K R S:Nat} {T T2:List LR} {TT:AD->Prop}
theorem RY {A B:LR} {R' s:Nat} {u:AD} {v:Re} (h:BC R u) (h':BC R' (BK u v)) (H:(BK u v).length<=8) (D:T=tw u) (I:A=em u v) (G:El u s v) (J:Fit u.length R s) (t:0<=v) (d:T2=tw (BK u v)) (f:B=em (BK u v) (Re.sqrt v)):
  CF 121 [Ah T,AO A] (.Aj [(false,[BP T2]),(false,[Au B]),(false,[.int .i64 0])]):=by
 by_cases j:Sq u v
 ·rw[EK j] at d f;have F:T2=T:=d.trans D.symm;subst F;exact jP h D I G J ((MT t).1 j) (Re.MU v) (Re.G3 t) f
 rw[Dp j] at h' H d f;rw[<-Ky G.mem] at f;exact jQ h D I G J (by rw[List.length_cons] at H;omega) t j rfl h' d f
theorem MK (u:AD) (i:Nat):pre u i<:+u:=List.drop_suffix _ _
theorem N6 (u:AD):pre u 0=[]:=by rw[pre,Nat.sub_zero,List.drop_length]
theorem Ez (p:Prop):∃b:Bool,(b=true↔p):=by
 by_cases h:p
 ·exact⟨true,by simp[h]⟩
 exact⟨false,by simp[h]⟩
theorem NK {X Y:List LR} {u w:AD} {c:Bool} (hu:BC R u) (hw:BC R w) (d:X=tw u) (f:Y=tw w) (h:c=true↔w<:+u):CF 238 [Ah X,Ah Y] (.one (.bool c)):=by
 cases c with
 | true=>exact js hu hw d f (h.1 rfl)
 | false=>exact jq hu hw d f (fun k=>by have:=h.2 k;cases this)
noncomputable def nm (n:AD×Re):el AY:=(tw n.1,em n.1 n.2)
noncomputable def CE (ns:List (AD×Re)):AD:=ns.foldl (fun t n=>E2 t n.1) []
theorem mi (ns:List (AD×Re)) (n:AD×Re):CE (ns++[n])=E2 (CE ns) n.1:=by
 rw[CE,List.foldl_append];rfl
theorem Za {ns:List (AD×Re)} {i:Nat} {n:AD×Re} (h:ns[i]? =some n):CE (ns.take (i+1))=E2 (CE (ns.take i)) n.1:=by
 rw[DU h,mi]
theorem Ip {X:List (el AY)} {ns:List (AD×Re)} {i:Nat} {x:el AY} (f:X=ns.map nm) (d:X[i]? =some x):∃u y,x.1=tw u/\x.2=em u y/\ns[i]? =some (u,y):=by
 rw[f,List.getElem?_map] at d;cases h:ns[i]? with
 | none=>rw[h] at d;simp at d
 | some n=>
  rw[h] at d;have e:nm n=x:=Option.some.inj d;exact⟨n.1,n.2,by rw[<-e];rfl,by rw[<-e];rfl,rfl⟩
theorem Gam.CE (G:Gam TT R K S):∀{ns:List (AD×Re)},(∀n∈ns,TT n.1)->TT (CE ns):=by
 have key:∀(ns:List (AD×Re)) (t:AD),TT t->(∀n∈ns,TT n.1)->TT (ns.foldl (fun t n=>E2 t n.1) t):=by
  intro ns
  induction ns with
  | nil=>intro t ht _;exact ht
  | cons n ns d=>intro t ht h;exact d _ (G.join ht (h n List.mem_cons_self)) (fun m hm=>h m (List.mem_cons_of_mem _ hm))
 intro ns h;exact key ns [] G.nil h
theorem Sn (G:Gam TT R K S) {ns:List (AD×Re)} (h:∀n∈ns,TT n.1):∀n∈ns,BW n.1 (Go.Abs.CE ns):=by
 have key:∀(ns:List (AD×Re)) (t:AD),TT t->(∀n∈ns,TT n.1)->BW t (ns.foldl (fun t n=>E2 t n.1) t)/\∀n∈ns,BW n.1 (ns.foldl (fun t n=>E2 t n.1) t):=by
  intro ns
  induction ns with
  | nil=>intro t ht _;exact⟨BW.refl t,fun n d=>by simp at d⟩
  | cons n ns D=>
   intro t ht h;have d:=h n List.mem_cons_self;have j:=pL (G.BG ht).red (G.BG d).red;obtain⟨f,s⟩:=D _ (G.join ht d) (fun m hm=>h m (List.mem_cons_of_mem _ hm));refine⟨j.2.1.trans f,fun m hm=>?_⟩;rcases List.mem_cons.1 hm with rfl | hm
   ·exact j.2.2.trans f
   exact s m hm
 exact (key ns [] G.nil h).2
theorem Yq {U RL:List LR} {t u:AD} (G:Gam TT R K S) (ht:TT t) (hu:TT u) (hT:T=tw t) (hU:U=tw u) (aj:T2=tw (ext t u)) (ah:RL=E8 t u):CF 248 [Ah T,Ah U] (BY [BP T2,BP RL] 0):=by
 have ax:U.length=u.length:=by rw[hU,CA]
 have aA:=G.ht hu;have ai:=G.RS;refine AM Tryz.func248 fun E hE=>?_
 intro av a5;have aw:=a5.eq;have f15:=a5.le;refine .inr ?_;obtain⟨J0,W⟩:=xJ fun vs bl k=>(∃(L i:Int),vs=[.one (.BE 4 0 0),.one (.BE 6 0 0),Ah U,AH L,AH i]/\bl=[.var 0 [.nil,.nil],.var 0 [BP T,.nil],.dead 0]/\(DX L U.length/\AR i 0)/\k=U.length)\/(∃(Ti o:List LR) (mm i':Nat) (L i:Int),vs=[.one (.BE 4 0 0),.one (.BE 6 0 0),Ah U,AH L,AH i]/\bl=[.var 0 [.nil,.nil],.var 0 [BP Ti,.AU (.sl AG) 39 0 0 mm],.arr 0 (.sl AG) o]/\(DX L U.length/\AR i i'/\i'<=U.length/\mm=o.length)/\Ti=tw (ext t (pre u i'))/\o=E8 t (pre u i')/\k=U.length-i')
 refine⟨[],[4,6,14,15,16],[4,6,39],J0,⟨U.length,by rw[W];exact .inl ⟨av,0,rfl,rfl,⟨a5,BD 0⟩,rfl⟩⟩,?_⟩;intro vs bl aB hj;rw[W] at hj;rcases hj with⟨L,i,rfl,rfl,⟨hL,hi⟩,au⟩ |⟨Ti,o,mm,i',L,i,rfl,rfl,⟨hL,hi,ay,a8⟩,J,hinv,au⟩
 ·conv=>cbv
  have eL:=hL.eq;have ei:=hi.eq;obtain⟨i',a7⟩:=xN 0;have J:T=tw (ext t (pre u i')):=by rw[a7,N6];exact hT
  refine BQ (fun ad=>?_) fun ad=>?_
  ·have ao:u=[]:=List.eq_nil_of_length_eq_zero AA;exact AN ⟨⟨rfl,congrArg _ (by rw[aj,hT,ao];rfl),.inr (.inl ⟨_,congrArg _ (by rw[ah,ao];rfl)⟩),trivial⟩,t2,trivial⟩
  refine .inr ?_;refine Ae i' fun a1 Q=>?_
  try conv=>cbv
  obtain⟨r,I,O⟩:=Kr (u:=u) (i:=i') AA;have h:TT (pre u i'):=G.I6 (MK u i') hu;have d:TT (r::pre u i'):=I ▸ G.I6 (MK u (i'+1)) hu;have N:=(G.BG d).red;have ab:a1=em (pre u i') (AQ (pre u i') r):=by rw[<-hU,Q] at O;exact (Option.some.inj O).trans (E1 N)
  have f:TT (ext t (pre u i')):=G.ext ht h;have H:=(I2 (G.BG ht).red (G.BG h).red).2;have M:El (pre u i') S (AQ (pre u i') r):=(El.DL (G.BG d)).mono ai;have P:TT (BK (ext t (pre u i')) (AQ (pre u i') r)):=G.BK f d H;have a6:ext t (pre u (i'+1))=BK (ext t (pre u i')) (AQ (pre u i') r):=by rw[I];rfl
  have aa:E8 t (pre u (i'+1))=E8 t (pre u i')++[em (BK (ext t (pre u i')) (AQ (pre u i') r)) (Re.sqrt (AQ (pre u i') r))]:=by rw[I];rfl
  obtain⟨ag,s⟩:=xR (em (ext t (pre u i')) (AQ (pre u i') r));refine cLy (r:= .one (Au ag)) hE (ZH G f h H J (by rw[a7,N6];trivial) ab M s) ⟨⟨rfl,.inr ⟨_,rfl⟩,trivial⟩,rfl,trivial⟩ ?_;obtain⟨V,D⟩:=xV (tw (BK (ext t (pre u i')) (AQ (pre u i') r)));obtain⟨j,F⟩:=xR (em (BK (ext t (pre u i')) (AQ (pre u i') r)) (Re.sqrt (AQ (pre u i') r)));refine AB (r:= .Aj [(false,[BP V]),(false,[Au j]),(false,[.int .i64 0])]) hE (RY (G.BG f) (G.BG P) (G.ht P) J s (G.CK h f H M) (G.fit f) (by have:=N.2.2.1;grind) D F) ?_;refine BM ?_;refine⟨[j],Ca,.inr ?_⟩;try conv=>cbv
  refine .inl ⟨[j],fun _=>⟨rfl,B5 (1) 24⟩,?_⟩;refine AK ?_;intro Z aq af ar;refine⟨U.length-(i'+1),?_,?_⟩
  ·omega
  rw[W];exact .inr ⟨V,[j],Z,i'+1,L,af,rfl,rfl,⟨hL,⟨AA⟩,AA,aq⟩,by rw[D,a6],by rw[aa,F,a7,N6];rfl,rfl⟩
 conv=>cbv
 have eL:=hL.eq;have ei:=hi.eq;have az:o.length<=U.length:=by rw[hinv,OD,Ju AA];omega
 refine BQ (fun ad=>?_) fun ad=>?_
 ·have an:pre u i'=u:=by rw[(AA:i'=u.length)];exact bJ u
  exact AN ⟨⟨rfl,congrArg _ (by rw[aj,J,an]),.inl ⟨_,rfl,AA,congrArg _ (by rw[ah,a8,List.drop_zero,List.take_length,hinv,an])⟩,trivial⟩,t2,trivial⟩
 refine .inr ?_;refine Ae i' fun a1 Q=>?_
 try conv=>cbv
 obtain⟨r,I,O⟩:=Kr (u:=u) (i:=i') AA;have h:TT (pre u i'):=G.I6 (MK u i') hu;have d:TT (r::pre u i'):=I ▸ G.I6 (MK u (i'+1)) hu;have N:=(G.BG d).red;have ab:a1=em (pre u i') (AQ (pre u i') r):=by rw[<-hU,Q] at O;exact (Option.some.inj O).trans (E1 N)
 have f:TT (ext t (pre u i')):=G.ext ht h;have H:=(I2 (G.BG ht).red (G.BG h).red).2;have M:El (pre u i') S (AQ (pre u i') r):=(El.DL (G.BG d)).mono ai;have P:TT (BK (ext t (pre u i')) (AQ (pre u i') r)):=G.BK f d H;have a6:ext t (pre u (i'+1))=BK (ext t (pre u i')) (AQ (pre u i') r):=by rw[I];rfl
 have aa:E8 t (pre u (i'+1))=E8 t (pre u i')++[em (BK (ext t (pre u i')) (AQ (pre u i') r)) (Re.sqrt (AQ (pre u i') r))]:=by rw[I];rfl
 obtain⟨ag,s⟩:=xR (em (ext t (pre u i')) (AQ (pre u i') r));refine .inr (.inr (.inl ⟨39,.arr 0 (.sl AG) o,[.agg [BP Ti,.AU (.sl AG) 0 0 0 mm],AO a1],AO ag,Ao,fun _=>Fq hE (imD G f h H J (by rw[hinv];exact OE (G.BG ht).red (G.BG h).red) a8 ab M s),?_⟩));try conv=>cbv
 obtain⟨V,D⟩:=xV (tw (BK (ext t (pre u i')) (AQ (pre u i') r)));obtain⟨j,F⟩:=xR (em (BK (ext t (pre u i')) (AQ (pre u i') r)) (Re.sqrt (AQ (pre u i') r)));refine AB (r:= .Aj [(false,[BP V]),(false,[Au j]),(false,[.int .i64 0])]) hE (RY (G.BG f) (G.BG P) (G.ht P) J s (G.CK h f H M) (G.fit f) (by have:=N.2.2.1;grind) D F) ?_;refine BM ?_;refine⟨[j],Ca,.inr ?_⟩;try conv=>cbv
 refine .inl ⟨[j],fun _=>⟨rfl,a8,rfl,B5 (o.length+1) 24⟩,?_⟩;intro (ae:List (el (.sl AG))) Z a2;have ak:ae=(o:List (el (.sl AG)))++([j]:List (el (.sl AG))):=a2.1;have al:Z=List.length (α:=(el (.sl AG))) ae:=a2.2;refine AK ?_;intro af ar;refine⟨U.length-(i'+1),?_,?_⟩
 ·omega
 rw[W];exact .inr ⟨V,ae,Z,i'+1,L,af,rfl,rfl,⟨hL,⟨AA⟩,AA,al⟩,by rw[D,a6],by rw[ak,hinv,aa,F],rfl⟩
end
section
variable {K R S:Nat} {L:List (el AY)} {T:List LR} {TT:AD->Prop}
theorem kI (G:Gam TT R K S) {ns:List (AD×Re)} (P:∀n∈ns,TT n.1) (hL:L=ns.map nm) (hT:T=tw (CE ns)):CF 247 [.one (.sl AY L)] (.Aj [(false,[BP T]),(false,[.int .i64 0])]):=by
 have a7:L.length=ns.length:=by rw[hL,List.length_map]
 refine AM Tryz.func247 fun E hE=>?_
 intro a5 H;have a6:=H.eq;have f10:=H.le;refine BI [(4,.sl AG,false)] [4,9,10,11] [] (fun vs bl k=>∃(W:List LR) (i':Nat) (n i:Int),vs=[Ah W,.one (.sl AY L),AH n,AH i]/\bl=[]/\(DX n L.length/\AR i i'/\i'<=L.length)/\W=tw (CE (ns.take i'))/\k=L.length-i') L.length ⟨[],0,a5,0,rfl,rfl,⟨H,BD 0,AA⟩,rfl,rfl⟩ ?_;rintro J0 I vs bl ad ⟨W,i',n,i,rfl,rfl,⟨N,hi,a8⟩,d,aa⟩;conv=>cbv
 have en:=N.eq;have ei:=hi.eq;refine BQ (fun a2=>?_) fun a2=>?_
 ·exact AN ⟨⟨rfl,congrArg _ (by rw[hT,d,List.take_of_length_le (AA:ns.length<=i')]),trivial⟩,t2,trivial⟩
 refine .inr ?_;refine Ae i' fun ag V=>?_
 try conv=>cbv
 obtain⟨u,y,t,ab,Q⟩:=Ip hL V;have hu:TT u:=P _ (List.mem_of_getElem? Q);have s:=Za Q;unfold E2 at s;have J:TT (CE (ns.take i')):=G.CE (fun n N=>P n (List.mem_of_mem_take N));refine .inr ?_;obtain⟨Z,f⟩:=Ez (u<:+(CE (ns.take i')));refine AB hE (NK (G.BG J) (G.BG hu) d t f) ?_;refine .inr ?_;cases Z <;> conv=>cbv
 ·have D:=fun q=>Bool.false_ne_true (f.2 q)
  obtain⟨a1,h⟩:=Ez ((CE (ns.take i'))<:+u);refine AB hE (NK (G.BG hu) (G.BG J) t d h) ?_;refine .inr ?_;cases a1 <;> conv=>cbv
  ·have M:=fun q=>Bool.false_ne_true (h.2 q)
   obtain⟨ae,F⟩:=xV (tw (ext (CE (ns.take i')) u));obtain⟨af,U⟩:=xV (E8 (CE (ns.take i')) u);refine AB hE (Yq G J hu d t F U) ?_;refine BM ?_;intro j O;exact BT I ⟨_,i'+1,n,j,rfl,rfl,⟨N,⟨AA⟩,AA⟩,by rw[s,if_neg D,if_neg M,F],rfl⟩
  have M:=h.1 rfl;refine AK ?_;intro j O;exact BT I ⟨_,i'+1,n,j,rfl,rfl,⟨N,⟨AA⟩,AA⟩,by rw[s,if_neg D,if_pos M];exact t,rfl⟩
 have D:=f.1 rfl;refine AK ?_;intro j O;exact BT I ⟨_,i'+1,n,j,rfl,rfl,⟨N,⟨AA⟩,AA⟩,by rw[s,if_pos D,<-d],rfl⟩
theorem Rd (G:Gam TT R K S) {ns:List (AD×Re)} (I:∀n∈ns,TT n.1) (hL:L=ns.map nm) (ae:∀n∈ns,El n.1 S n.2) (hlen:ns.length<=1000000) {O:List (el AY)} (hO:O=ns.map (fun n=>nm (CE ns,n.2))):CF 187 [.one (.sl AY L)] (.Aj [(false,[.sl AY O]),(false,[.int .i64 0])]):=by
 have aj:L.length=ns.length:=by rw[hL,List.length_map]
 have d:TT (CE ns):=G.CE I;obtain⟨T,H⟩:=xV (tw (CE ns));refine AM Tryz.func187 fun E V=>?_
 refine AB V (kI G I hL H) ?_;refine BM ?_;intro ag U;have ai:=U.eq;have f21:=U.le;refine BI [(6,AY,true)] [4,6,20,21,22] [6] (fun vs bl k=>∃(o:List (el AY)) (mm i':Nat) (n i:Int),vs=[Ah T,.one (.AU AY 6 0 0 mm),.one (.sl AY L),AH n,AH i]/\bl=[.arr 0 AY o]/\(DX n L.length/\AR i i'/\i'<=L.length/\mm=o.length)/\o=(ns.take i').map (fun n=>nm (CE ns,n.2))/\k=L.length-i') L.length ⟨[],0,0,ag,0,rfl,rfl,⟨U,BD 0,Nat.zero_le _,rfl⟩,rfl,rfl⟩ ?_;rintro J0 a5 vs bl ao ⟨o,mm,i',n,i,rfl,rfl,⟨hn,hi,ak,W⟩,hinv,al⟩;conv=>cbv
 have en:=hn.eq;have ei:=hi.eq;have an:o.length<=L.length:=by rw[hinv,List.length_map,List.length_take];omega
 refine BQ (fun af=>?_) fun af=>?_
 ·exact AN ⟨⟨rfl,.inl ⟨_,rfl,AA,congrArg _ (by rw[hO,W,hinv,List.drop_zero,List.take_length,List.take_of_length_le (AA:ns.length<=i')])⟩,trivial⟩,t2,trivial⟩
 refine .inr ?_;refine Ae i' fun aq a6=>?_
 try conv=>cbv
 obtain⟨u,y,a7,a8,Z⟩:=Ip hL a6;have a1:=List.mem_of_getElem? Z;have hu:TT u:=I _ a1;have M:El u S y:=ae _ a1;have J:BW u (CE ns):=Sn G I _ a1;obtain⟨N,j⟩:=xR (em (CE ns) y);obtain⟨ab,s⟩:=Ez (u<:+CE ns);refine AB V (NK (G.BG d) (G.BG hu) H a7 s) ?_;refine .inr ?_;cases ab <;> conv=>cbv
 ·have aa:=fun q=>Bool.false_ne_true (s.2 q)
  obtain⟨ah,Q⟩:=xV (E8 (CE ns) u);have P:=Sx (G.BG d).red (G.BG hu).red J;refine AB (r:= .Aj [(true,[BP T,BP ah]),(false,[.int .i64 0])]) V (Yq G d hu H a7 (by rw[P];exact H) Q) ?_;refine BM ?_;refine AB (r:= .one (Au N)) V (ZH G d hu J H (by rw[Q];have:=OE (G.BG d).red (G.BG hu).red;rwa [P] at this) a8 M j) ?_;refine AB (r:= .agg [BP T,Au N]) V (Pa (G.BG d) H j (G.CK hu d J M) (by have:=G.mul d;omega)) ?_;refine⟨[(T,N)],Ca,.inr ?_⟩;try conv=>cbv
  refine .inl ⟨[(T,N)],fun _=>⟨rfl,W,rfl,B5 (o.length+1) 48⟩,?_⟩;intro (h:List (el AY)) F f;have t:h=(o:List (el AY))++([(T,N)]:List (el AY)):=f.1;have D:F=List.length (α:=(el AY)) h:=f.2;refine AK ?_;intro a2 ad;exact BT a5 ⟨h,F,i'+1,n,a2,rfl,rfl,⟨hn,⟨AA⟩,AA,D⟩,by rw[t,hinv,DU Z,List.map_append];simp[nm,H,j],rfl⟩
 have aa:=s.1 rfl;refine AB V (Ub (G.BG d) H a8 M.mem aa j) ?_;refine AB (r:= .agg [BP T,Au N]) V (Pa (G.BG d) H j (G.CK hu d J M) (by have:=G.mul d;omega)) ?_;refine⟨[(T,N)],Ca,.inr ?_⟩;try conv=>cbv
 refine .inl ⟨[(T,N)],fun _=>⟨rfl,W,rfl,B5 (o.length+1) 48⟩,?_⟩;intro (h:List (el AY)) F f;have t:h=(o:List (el AY))++([(T,N)]:List (el AY)):=f.1;have D:F=List.length (α:=(el AY)) h:=f.2;refine AK ?_;intro a2 ad;exact BT a5 ⟨h,F,i'+1,n,a2,rfl,rfl,⟨hn,⟨AA⟩,AA,D⟩,by rw[t,hinv,DU Z,List.map_append];simp[nm,H,j],rfl⟩
noncomputable def Bc (u v:AD):AD:=CE [(u,0),(v,0)]
theorem Sf (G:Gam TT R K S) {T1 T2:List LR} {A1 A2:LR} {u v:AD} {x y:Re} (hu:TT u) (hv:TT v) (J:T1=tw u) (M:T2=tw v) (H:A1=em u x) (I:A2=em v y) (hx:El u S x) (hy:El v S y) {A B C:LR} {g:FuncId} (Z:T=tw (Bc u v)) (U:A=em (Bc u v) x) (V:B=em (Bc u v) y) (hg:CF g [Ah T,AO A,AO B] (AO C)):CF 134 [.agg (AZ T1 A1),.agg (AZ T2 A2),.one (.fn g)] (BY (AZ T C) 0):=by
 obtain⟨O,t⟩:∃z:List (el AY),z=[(T,A),(T,B)]:=⟨_,rfl⟩
 have W:O.length=2:=by rw[t];rfl
 have N:O[0]? =some (T,A):=by rw[t];rfl
 have Q:O[1]? =some (T,B):=by rw[t];rfl
 refine AM Tryz.func134 fun E P=>?_
 refine⟨[(T1,A1),(T2,A2)],fun _=>⟨rfl,AE,rfl,⟨rfl,C5,⟨rfl,C5,trivial⟩⟩⟩,.inr ?_⟩;try conv=>cbv
 refine AB (r:= .Aj [(false,[.sl AY O]),(false,[.int .i64 0])]) P (Rd (ns:=[(u,x),(v,y)]) G (by intro n f;simp at f;rcases f with rfl | rfl;exact hu;exact hv) (by rw[J,M,H,I];rfl) (by intro n f;simp at f;rcases f with rfl | rfl;exact hx;exact hy) (by show 2<=1000000;decide) (by rw[t,Z,U,V];rfl)) ?_;refine BM ?_;refine Ae 0 fun a1 h=>?_
 try conv=>cbv
 refine Ae 0 fun a2 j=>?_
 try conv=>cbv
 refine Ae 1 fun a5 s=>?_
 try conv=>cbv
 have d:=Option.some.inj (h.symm.trans N);have D:=Option.some.inj (j.symm.trans N);have F:=Option.some.inj (s.symm.trans Q);refine AB (r:= .one (Au C)) P (by rw[d,D,F];exact hg) ?_;exact AN ⟨⟨rfl,congrArg _ (by rw[d]),rfl,trivial⟩,t2,trivial⟩
end
section
section
variable {TT:AD->Prop} {R K S:Nat}
theorem Gam.Bc (G:Gam TT R K S) {u v:AD} (hu:TT u) (h:TT v):TT (Go.Abs.Bc u v)/\BW u (Go.Abs.Bc u v)/\BW v (Go.Abs.Bc u v):=by
 have d:∀n∈[(u,(0:Re)),(v,0)],TT n.1:=by intro n f;simp at f;rcases f with rfl | rfl;exact hu;exact h
 have he:=Sn G d;exact⟨G.CE d,he (u,0) Ai,he (v,0) Ai⟩
end
theorem IM (T0:List LR):∃z:List LR,z=T0:=⟨_,rfl⟩
theorem DP (T0:LR):∃z:LR,z=T0:=⟨_,rfl⟩
theorem fv {TT:AD->Prop} {R K S:Nat} (G:Gam TT R K S) {T1 T2:List LR} {A1 A2:LR} {u v:AD} {x y:Re} (hu:TT u) (F:TT v) (j:T1=tw u) (s:T2=tw v) (f:A1=em u x) (h:A2=em v y) (O:El u S x) (P:El v S y) {T:List LR} {C:LR} (N:T=tw (Bc u v)) (Q:C=em (Bc u v) (x+y)):CF 160 [.agg (AZ T1 A1),.agg (AZ T2 A2)] (BY (AZ T C) 0):=by
 obtain⟨d,t,D⟩:=G.Bc hu F;have H:=G.CK hu d t O;have I:=G.CK F d D P;have hmul:=G.mul d;obtain⟨A,J⟩:=DP (em (Bc u v) x);obtain⟨B,M⟩:=DP (em (Bc u v) y);refine AM Tryz.func160 fun E U=>?_
 refine AB U (Sf G hu F j s f h O P N J M (LD (G.BG d) N J M H I AA AA Q)) ?_;exact AN ⟨t3,t2,trivial⟩
theorem fz {TT:AD->Prop} {R K S:Nat} (G:Gam TT R K S) {T1 T2:List LR} {A1 A2:LR} {u v:AD} {x y:Re} (hu:TT u) (F:TT v) (j:T1=tw u) (s:T2=tw v) (f:A1=em u x) (h:A2=em v y) (O:El u S x) (P:El v S y) {T:List LR} {C:LR} (N:T=tw (Bc u v)) (Q:C=em (Bc u v) (x-y)):CF 71 [.agg (AZ T1 A1),.agg (AZ T2 A2)] (BY (AZ T C) 0):=by
 obtain⟨d,t,D⟩:=G.Bc hu F;have H:=G.CK hu d t O;have I:=G.CK F d D P;have hmul:=G.mul d;obtain⟨A,J⟩:=DP (em (Bc u v) x);obtain⟨B,M⟩:=DP (em (Bc u v) y);refine AM Tryz.func71 fun E U=>?_
 refine AB U (Sf G hu F j s f h O P N J M (Of (G.BG d) N J M H I AA AA Q)) ?_;exact AN ⟨t3,t2,trivial⟩
theorem Ri {TT:AD->Prop} {R K S:Nat} (G:Gam TT R K S) {T1 T2:List LR} {A1 A2:LR} {u v:AD} {x y:Re} (hu:TT u) (F:TT v) (j:T1=tw u) (s:T2=tw v) (f:A1=em u x) (h:A2=em v y) (O:El u S x) (P:El v S y) {T:List LR} {C:LR} (N:T=tw (Bc u v)) (Q:C=em (Bc u v) (x*y)):CF 162 [.agg (AZ T1 A1),.agg (AZ T2 A2)] (BY (AZ T C) 0):=by
 obtain⟨d,t,D⟩:=G.Bc hu F;have H:=G.CK hu d t O;have I:=G.CK F d D P;have hmul:=G.mul d;obtain⟨A,J⟩:=DP (em (Bc u v) x);obtain⟨B,M⟩:=DP (em (Bc u v) y);refine AM Tryz.func162 fun E U=>?_
 refine AB U (Sf G hu F j s f h O P N J M (Hu (G.BG d) N J M H I AA Q)) ?_;exact AN ⟨t3,t2,trivial⟩
theorem Rj {TT:AD->Prop} {R K S:Nat} (G:Gam TT R K S) {T1:List LR} {A1:LR} {u:AD} {x:Re} (hu:TT u) (f:T1=tw u) (d:A1=em u x) (j:El u S x) {C:LR} (s:C=em u (-x)):CF 27 [.agg (AZ T1 A1)] (.agg (AZ T1 C)):=by
 have hmul:=G.mul hu;refine AM Tryz.func27 fun E h=>?_
 refine AB h (Pa (G.BG hu) f d j) ?_;refine AB h (WD (G.BG hu) f d j AA s) ?_;exact AN ⟨t3,trivial⟩
theorem WB {TT:AD->Prop} {R K S:Nat} (G:Gam TT R K S) {T1:List LR} {A1:LR} {u:AD} {x:Re} (hu:TT u) (f:T1=tw u) (d:A1=em u x) (s:El u S x) {c:Int} (j:c=Bg x):CF 26 [.agg (AZ T1 A1)] (AH c):=by
 refine AM Tryz.func26 fun E h=>?_
 refine AB h (My (G.BG hu) f d s ((G.fit hu).mono (Nat.le_add_right _ _)).v0 (G.fit hu).vR j) ?_;exact AN ⟨t2,trivial⟩
theorem fy {TT:AD->Prop} {R K S:Nat} (G:Gam TT R K S) {T1:List LR} {A1:LR} {u:AD} {x:Re} (hu:TT u) (f:T1=tw u) (d:A1=em u x) (I:El u S x) (hw:TT (BK u x)) (F:0<=x) {T:List LR} {C:LR} (D:T=tw (BK u x)) (j:C=em (BK u x) (Re.sqrt x)) {s:Nat} (H:El (BK u x) s (Re.sqrt x)) (h:s<=60000000000000):CF 59 [.agg (AZ T1 A1)] (BY (AZ T C) 0):=by
 refine AM Tryz.func59 fun E t=>?_
 refine AB t (RY (G.BG hu) (G.BG hw) (G.ht hw) f d I ((G.fit hu).mono (Nat.le_add_right _ _)) F D j) ?_;refine BM ?_;refine AB t (Pa (G.BG hw) D j H h) ?_;exact AN ⟨t3,t2,trivial⟩
theorem fw {TT:AD->Prop} {R K S:Nat} (G:Gam TT R K S) {T1 T2:List LR} {A1 A2:LR} {u v:AD} {x y:Re} (hu:TT u) (I:TT v) (t:T1=tw u) (f:T2=tw v) (h:A1=em u x) (j:A2=em v y) (O:El u S x) (P:El v S y) {i:Re} (N:In v i) (F:y*i=1) (D:El v S i) (s:II v.length R S<=60000000000000) {T:List LR} {C:LR} (M:T=tw (Bc u v)) (J:C=em (Bc u v) (x*i)):CF 183 [.agg (AZ T1 A1),.agg (AZ T2 A2)] (BY (AZ T C) 0):=by
 refine AM Tryz.func183 fun E H=>?_
 obtain⟨Q,d⟩:=DP (em v i);refine AB H (Oa (G.BG I) f j P N F s d) ?_;refine BM ?_;refine AB H (Ri G hu I t f h d O D M J) ?_;exact AN ⟨t3,t2,trivial⟩
theorem Sk {u:AD} {x y:Re} (d:In u x) (f:In u y):em u x=em u y↔x=y:=
 ⟨fun h=>by rw[<-ES d,<-ES f,cB h],fun h=>by rw[h]⟩
theorem rP {u v:AD} (h:u<:+v) (k:v<:+u):u=v:=h.eq_of_length_le k.length_le
theorem fx {TT:AD->Prop} {R K S:Nat} (G:Gam TT R K S) {T1 T2:List LR} {A1 A2:LR} {u v:AD} {x y:Re} (hu:TT u) (hv:TT v) (J:T1=tw u) (M:T2=tw v) (H:A1=em u x) (I:A2=em v y) (hx:El u S x) (hy:El v S y) {c:Bool} (hc:c=true↔x=y):CF 182 [.agg (AZ T1 A1),.agg (AZ T2 A2)] (.one (.bool c)):=by
 obtain⟨U,a8,aa⟩:=G.Bc hu hv;have N:=G.CK hu U a8 hx;have P:=G.CK hv U aa hy;have hmul:=G.mul U;obtain⟨A,Z⟩:=DP (em (Bc u v) x);obtain⟨B,hB⟩:=DP (em (Bc u v) y);obtain⟨T,hT⟩:=IM (tw (Bc u v));obtain⟨O,hO⟩:∃z:List (el AY),z=[(T,A),(T,B)]:=⟨_,rfl⟩
 have ab:O.length=2:=by rw[hO];rfl
 have h0:O[0]? =some (T,A):=by rw[hO];rfl
 have h1:O[1]? =some (T,B):=by rw[hO];rfl
 refine AM Tryz.func182 fun E Q=>?_
 obtain⟨a6,h⟩:=Ez (v<:+u);refine AB Q (NK (G.BG hu) (G.BG hv) J M h) ?_;cases a6 <;> conv=>cbv
 ·have a2:=fun q=>Bool.false_ne_true (h.2 q)
  refine⟨[(T1,A1),(T2,A2)],fun _=>⟨rfl,AE,rfl,⟨rfl,C5,⟨rfl,C5,trivial⟩⟩⟩,.inr ?_⟩;try conv=>cbv
  refine AB (r:= .Aj [(false,[.sl AY O]),(false,[.int .i64 0])]) Q (Rd (ns:=[(u,x),(v,y)]) G (by intro n t;simp at t;rcases t with rfl | rfl;exact hu;exact hv) (by rw[J,M,H,I];rfl) (by intro n t;simp at t;rcases t with rfl | rfl;exact hx;exact hy) (by show 2<=1000000;decide) (by rw[hO,hT,Z,hB];rfl)) ?_;refine DJ ?_;refine Ae 0 fun V D=>?_
  try conv=>cbv
  refine Ae 1 fun W F=>?_
  try conv=>cbv
  have d:=Option.some.inj (D.symm.trans h0);have f:=Option.some.inj (F.symm.trans h1);have s:c=decide (V.2=W.2):=by rw[Bool.eq_iff_iff,decide_eq_true_eq,hc,d,f,Z,hB];exact (Sk N.mem P.mem).symm
  refine AB (r:= .one (.bool c)) Q (Qu (by rw[d];exact Z) (by rw[f];exact hB) (N.CM AA) (P.CM AA) s) ?_;exact AN ⟨t2,trivial⟩
 have a2:=h.1 rfl;obtain⟨a7,j⟩:=Ez (u<:+v);refine AB Q (NK (G.BG hv) (G.BG hu) M J j) ?_;cases a7 <;> conv=>cbv
 ·have a5:=fun q=>Bool.false_ne_true (j.2 q)
  refine⟨[(T1,A1),(T2,A2)],fun _=>⟨rfl,AE,rfl,⟨rfl,C5,⟨rfl,C5,trivial⟩⟩⟩,.inr ?_⟩;try conv=>cbv
  refine AB (r:= .Aj [(false,[.sl AY O]),(false,[.int .i64 0])]) Q (Rd (ns:=[(u,x),(v,y)]) G (by intro n t;simp at t;rcases t with rfl | rfl;exact hu;exact hv) (by rw[J,M,H,I];rfl) (by intro n t;simp at t;rcases t with rfl | rfl;exact hx;exact hy) (by show 2<=1000000;decide) (by rw[hO,hT,Z,hB];rfl)) ?_;refine DJ ?_;refine Ae 0 fun V D=>?_
  try conv=>cbv
  refine Ae 1 fun W F=>?_
  try conv=>cbv
  have d:=Option.some.inj (D.symm.trans h0);have f:=Option.some.inj (F.symm.trans h1);have s:c=decide (V.2=W.2):=by rw[Bool.eq_iff_iff,decide_eq_true_eq,hc,d,f,Z,hB];exact (Sk N.mem P.mem).symm
  refine AB (r:= .one (.bool c)) Q (Qu (by rw[d];exact Z) (by rw[f];exact hB) (N.CM AA) (P.CM AA) s) ?_;exact AN ⟨t2,trivial⟩
 have a5:=j.1 rfl;have a1:=rP a5 a2;have s:c=decide (A1=A2):=by rw[Bool.eq_iff_iff,decide_eq_true_eq,hc,H,I,<-a1];exact (Sk hx.mem (a1 ▸ hy.mem)).symm
 refine AB Q (Qu H I (hx.CM AA) (hy.CM AA) s) ?_;exact AN ⟨t2,trivial⟩
theorem Rh {q:Rat} {b1 b2:Bool} {l1 l2:List UInt32} {C:LR} (d:BV q b1 l1 b2 l2) (j:B8 q) (f:C=em [] (Re.ofRat q)):CF 124 [.agg (Br b1 l1 b2 l2)] (.agg (AZ [] C)):=by
 refine AM Tryz.func124 fun E h=>?_
 refine AB h (YB d j) ?_;refine⟨[((b1,l1),(b2,l2))],Ca,.inr ?_⟩;try conv=>cbv
 exact AN ⟨⟨rfl,DO,congrArg _ (by rw[f,Ds,<-d.rp]),trivial⟩,trivial⟩
theorem WA {x:Int} {C:LR} (s: -9223372036854775808<=x/\x<9223372036854775808) (j:B8 x) (h:C=em [] (Re.ofRat x)):CF 68 [AH x] (.agg (AZ [] C)):=by
 refine AM Tryz.func68 fun E f=>?_
 obtain⟨F,G,t,D,d⟩:=By (x:Rat);refine AB f (Hw s rfl d) ?_;refine AB f (Rh d j h) ?_;exact AN ⟨t3,trivial⟩
end
section
structure Ev (h R s:Nat):Prop where
 q:SS h R s<=60000000000000
 v:VV h R (s+GG h R)<=60000000000000
 qR:SS h R R<=60000000000000
 vR:VV h R R<=60000000000000
variable {A B:LR} {R':Nat} {T T2:List LR} {r:List Rat} {u:AD} {v x:Re}
theorem Ev.v0 {h R s:Nat} (f:Ev h R s):VV h R s<=60000000000000:=Nat.le_trans (IZ h R AA) f.v
theorem Ev.s {h R s:Nat} (f:Ev h R s):s<=60000000000000:=Nat.le_trans (WM h R s) f.q
theorem Ev.mono {h R s t:Nat} (f:Ev h R s) (ht:t<=s):Ev h R t:=⟨Nat.le_trans (Oe h R ht) f.q,Nat.le_trans (IZ h R AA) f.v,f.qR,f.vR⟩
theorem gQ:∀(h R s:Nat),SS h R s<=SS (h+1) R s:=fun h R s=>Nat.le_trans (Oe h R (by unfold TQ;omega)) (WL h R s)
theorem gP {i h:Nat} (d:i<=h) (R s:Nat):SS i R s<=SS h R s:=by
 induction d with
 | refl=>exact Nat.le_refl _
 | step _ f=>exact Nat.le_trans f (gQ _ _ _)
theorem ix {R s:Nat} (h:BC R u) (P:T=tw u) (Q:A=em u x) (V:El u s x) (J:Ev u.length R s) {w:Re} (hw:In u w) (j:w*w=x) (W:Ic u x w) (F:0<=v) (G:v*v=x) (O:B=em u v):CF 210 [Ah T,AO A] (.Aj [(false,[Au B]),(false,[.bool true])]):=by
 have H:=V.sqrt h hw j;refine AM Tryz.func210 fun E I=>?_
 obtain⟨a1,d⟩:=xR (em u w);refine AB I (W P Q d) ?_;refine BM ?_;obtain⟨Z,D⟩:=xI (Bg w);refine AB I (HX h P d H J.v (Nat.le_trans (GO _ _ _) J.v) J.vR D) ?_;intro N t;refine .inr ?_;cases N <;> conv=>cbv
 ·have M:=EG t;exact AN ⟨⟨rfl,congrArg _ (by rw[O,d];congr 1;have:¬w<0:=(fun U=>by have:=Jh.2 U;omega);exact Re.MS F (by grind) (G.trans j.symm)),trivial⟩,t2,trivial⟩
 have M:=EH t;obtain⟨a2,f⟩:=xR (em u (-w));refine AB I (LL h d H f) ?_;exact AN ⟨⟨rfl,congrArg _ (by rw[O,f];congr 1;have:w<0:=Jh.1 AA;exact Re.MS F (by grind) (by rw[G,<-j];grind)),trivial⟩,t2,trivial⟩
theorem iw {B:LR} {R s:Nat} (h:BC R u) (j:T=tw u) (d:A=em u x) (F:El u s x) (D:Ev u.length R s) {l:LR} (t:Ib u x l):CF 210 [Ah T,AO A] (.Aj [(false,[.sl AG (([]:LR))]),(false,[.bool false])]):=by
 refine AM Tryz.func210 fun E f=>?_
 refine AB f (t j d) ?_;refine DJ ?_;exact AN Ao
theorem iy {R s:Nat} (h:BC R u) (I:T=tw u) (G:A=em u x) (F:El u s x) (f:Ev u.length R s) (J:In u v) (t:0<=v) (d:v*v=x) (H:B=em u v):CF 210 [Ah T,AO A] (.Aj [(false,[Au B]),(false,[.bool true])]):=by
 rcases Vl h F f.q f.vR with⟨w,hw,D,M⟩ |⟨j,_⟩
 ·exact ix h I G F f hw D M t d H
 exact absurd ⟨v,J,d⟩ j
theorem iv {R s:Nat} (h:BC R u) (F:T=tw u) (D:A=em u x) (t:El u s x) (d:Ev u.length R s) (f:¬Sq u x):CF 210 [Ah T,AO A] (.Aj [(false,[Au []]),(false,[.bool false])]):=by
 rcases Vl h t d.q d.vR with⟨w,hw,j,H⟩ |⟨_,l,G⟩
 ·exact absurd ⟨w,hw,j⟩ f
 exact iw (B:=[]) h F D t d G
theorem We {R:Nat} (h:BC R u) (N:T=tw u) (hv:VV u.length R R<=60000000000000) (hq:SS u.length R R<=60000000000000):CF 152 [Ah T] (.one (.bool true)):=by
 have au:T.length=u.length:=by rw[N,CA]
 have hR:=h.hR;refine AM Tryz.func152 fun E hE=>?_
 refine BI [] [0,3] [] (fun vs bl k=>∃(i':Nat) (i:Int),vs=[Ah T,AH i]/\(AR i i'/\i'<=T.length)/\k=T.length-i') (T.length-0) ⟨0,0,rfl,⟨BD 0,AA⟩,rfl⟩ ?_;rintro J0 aa vs bl ax ⟨i',i,rfl,⟨hi,av⟩,aw⟩;have ei:=hi.eq;refine AW ?_;rintro n8 ⟨e8,f8⟩;refine BQ (fun k9=>?_) fun k9=>?_
 ·exact AN ⟨t2,trivial⟩
 refine .inr ?_;refine AK ?_;intro ay an a6 aj ae O;refine Ae i' fun aC Z=>?_
 try conv=>cbv
 obtain⟨r,W,V⟩:=Kr (u:=u) (i:=i') AA;have D:Ag (r::pre u i'):=W ▸ (h.pre (i'+1)).red;have F:∀x,T[i']? =some x->x=em (pre u i') (AQ (pre u i') r):=fun x hx=>by rw[<-N,hx] at V;exact (Option.some.inj V).trans (E1 D)
 have H:=F _ Z;have t:El (pre u i') R (AQ (pre u i') r):=El.DL (W ▸ h.pre (i'+1));have f:ae=tw (pre u i'):=by rw[O,List.drop_zero,(AA:a6=i'),N,Ix]
 have U:(pre u i').length<=u.length:=by rw[Ju AA];omega
 have G:VV (pre u i').length R R<=60000000000000:=Nat.le_trans (M0 U R R) hv;have ab:SS (pre u i').length R R<=60000000000000:=Nat.le_trans (gP U R R) hq;refine AB hE (Oi (h.pre i') f H t hR) ?_;refine BM ?_;intro az ao a7 ak af P;refine Ae i' fun aD a1=>?_
 try conv=>cbv
 have j:af=tw (pre u i'):=by rw[P,List.drop_zero,(AA:a7=i'),N,Ix]
 have I:=F _ a1;obtain⟨aB,d⟩:=xI (Bg (AQ (pre u i') r));refine AB hE (HX (h.pre i') j I t G hR G d) ?_;intro ai M;cases ai <;> conv=>cbv
 ·have a5:=Nn M;refine AK ?_;intro aA aq a8 al ag Q;refine Ae i' fun aE a2=>?_
  try conv=>cbv
  have s:ag=tw (pre u i'):=by rw[Q,List.drop_zero,(AA:a8=i'),N,Ix]
  have J:=F _ a2;obtain⟨l,hn⟩:=((Vl (h.pre i') t ab G).resolve_left (fun⟨w,hw,ad,_⟩=>D.2.2.2 ⟨w,hw,ad⟩)).2;refine AB hE (hn s J) ?_;intro ah ar;exact BT aa ⟨i'+1,ah,rfl,⟨⟨AA⟩,AA⟩,rfl⟩
 have a5:=No M;exact absurd a5 (by rw[d,HK D.2.2.1];omega)
theorem gh {R s:Nat} (h:BC R u) (I:T=tw u) (G:A=em u x) (J:El u s x) (t:Ev u.length R s) (N:In u v) (D:0<=v) (f:v*v=x) (M:B=em u v):CF 154 [Ah T,AO A] (.Aj [(false,[BP T]),(false,[Au B]),(false,[.int .i64 0])]):=by
 have F:0<=x:=by rw[<-f];exact Re.IP v
 refine AM Tryz.func154 fun E H=>?_
 obtain⟨O,d⟩:=xI (Bg x);refine AB H (HX h I G J t.v0 t.s t.vR d) ?_;refine DF (fun j=>?_) fun j=>?_
 ·exact (Jm d j F).elim
 refine AB H (iy h I G J t N D f M) ?_;exact AN Ao
theorem gi {R s:Nat} (h:BC R u) (P:T=tw u) (U:A=em u x) (hx:El u s x) (O:Ev u.length R s) (h8:u.length<8) (a5:0<=x) (a2:¬Sq u x) (hr:r=co u x) (h':BC R' (r::u)) (W:T2=tw (r::u)) (hB:B=em (r::u) (rt u r)):CF 154 [Ah T,AO A] (.Aj [(false,[BP T2]),(false,[Au B]),(false,[.int .i64 0])]):=by
 have Z:T.length=u.length:=by rw[P,CA]
 have aa:=h.ht;refine AM Tryz.func154 fun E V=>?_
 obtain⟨ae,t⟩:=xI (Bg x);refine AB V (HX h P U hx O.v0 O.s O.vR t) ?_;refine DF (fun M=>?_) fun M=>?_
 ·exact (Jm t M a5).elim
 refine AB V (iv h P U hx O a2) ?_;rintro ab ⟨a8,f24⟩;refine Mk (fun N=>?_) fun N=>?_
 ·exact absurd N AA
 refine⟨[],fun _=>⟨rfl,AE,rfl,trivial⟩,.inl ?_⟩;try conv=>cbv
 refine .inl ⟨T,fun _=>⟨rfl,rfl,rfl,B5 (0+T.length) 24⟩,?_⟩;intro (f:List (el (.sl AG))) a6 D;have j:f=([]:List (el (.sl AG)))++(T:List (el (.sl AG))):=D.1;have I:a6=List.length (α:=(el (.sl AG))) f:=D.2;conv=>cbv
 refine⟨[A],Ca,.inr ?_⟩;try conv=>cbv
 have a1:f.length=T.length:=by rw[j];simp
 refine .inr (.inl ⟨[A],fun _=>⟨rfl,I,rfl,B5 (f.length+1) 24⟩,?_⟩);intro (G:List (el (.sl AG))) a7 F;have H:G=(f:List (el (.sl AG)))++([A]:List (el (.sl AG))):=F.1;have J:a7=List.length (α:=(el (.sl AG))) G:=F.2;conv=>cbv
 refine⟨fun _=>J,?_⟩;rintro ad ⟨Q,f35⟩;conv=>cbv
 have d:G=tw (r::u):=by rw[H,j,P,OP,U,em,hr];rfl
 refine AB V (iC h' d (AR.of (Q.trans (congrArg _ Z))) hB) ?_;exact AN ⟨⟨rfl,congrArg _ (by rw[W,d]),trivial⟩,t2,t2,trivial⟩
theorem iE {R s:Nat} (h:BC R u) (j:T=tw u) (F:A=em u x) (G:El u s x) (d:Ev u.length R s) (I:In u v) (t:0<=v) (D:v*v=x) (H:B=em u v):CF 93 [Ah T,AO A] (.Aj [(false,[BP T]),(false,[Au B]),(false,[.int .i64 0])]):=by
 refine AM Tryz.func93 fun E f=>?_
 refine AB f (We h j d.vR d.qR) ?_;refine BM ?_;refine AB f (Oi h j F G d.s) ?_;refine BM ?_;refine AB f (gh h j F G d I t D H) ?_;exact AN Ao
theorem iF {R s:Nat} (h:BC R u) (j:T=tw u) (G:A=em u x) (H:El u s x) (d:Ev u.length R s) (I:u.length<8) (F:0<=x) (D:¬Sq u x) (M:r=co u x) (h':BC R' (r::u)) (t:T2=tw (r::u)) (J:B=em (r::u) (rt u r)):CF 93 [Ah T,AO A] (.Aj [(false,[BP T2]),(false,[Au B]),(false,[.int .i64 0])]):=by
 refine AM Tryz.func93 fun E f=>?_
 refine AB f (We h j d.vR d.qR) ?_;refine BM ?_;refine AB f (Oi h j G H d.s) ?_;refine BM ?_;refine AB f (gi h j G H d I F D M h' t J) ?_;exact AN Ao
theorem WU {R s:Nat} (h:BC R u) (h':BC R' (BK u v)) (H:(BK u v).length<=8) (D:T=tw u) (I:A=em u v) (G:El u s v) (J:Ev u.length R s) (t:0<=v) (d:T2=tw (BK u v)) (f:B=em (BK u v) (Re.sqrt v)):
  CF 93 [Ah T,AO A] (.Aj [(false,[BP T2]),(false,[Au B]),(false,[.int .i64 0])]):=by
 by_cases j:Sq u v
 ·rw[EK j] at d f;have F:T2=T:=d.trans D.symm;subst F;exact iE h D I G J ((MT t).1 j) (Re.MU v) (Re.G3 t) f
 rw[Dp j] at h' H d f;rw[<-Ky G.mem] at f;exact iF h D I G J (by rw[List.length_cons] at H;omega) t j rfl h' d f
end
section
variable {R i:Nat} {c:Bool} {u w:AD}
theorem eE {α:Type} {X Y:List α} {x y:α} (d:X[i]? =some x) (f:Y[i]? =some y) (h:X.take i=Y.take i) (e:x=y):X.take (i+1)=Y.take (i+1):=by
 rw[DU d,DU f,h,e]
theorem eF {α:Type} {X Y:List α} {n:Nat} {x y:α} (j:X[i]? =some x) (s:Y[i]? =some y) (f:i<n) (e:x≠y):X.take n≠Y.take n:=by
 intro h;apply e;have d:(X.take n)[i]? =(Y.take n)[i]? :=by rw[h]
 rw[List.getElem?_take,List.getElem?_take,if_pos f,if_pos f,j,s] at d;exact Option.some.inj d
theorem iz {X Y:LR} {xs ys:List Rat} (hX:X=BF xs) (hY:Y=BF ys) (hs:EP xs) (ht:EP ys) (I:c=decide (X=Y)):CF 260 [AO X,AO Y] (.one (.bool c)):=by
 refine AM Tryz.func260 fun E hE=>?_
 rintro n7 ⟨e7,f7⟩ n9 ⟨e9,f9⟩;refine Gn (fun O=>?_) fun O=>?_
 ·exact AL (by rw[I,decide_eq_false];intro e;have:=congrArg List.length e;omega)
 refine BI [] [0,1,5] [] (fun vs bl k=>∃(i':Nat) (i:Int),vs=[AO X,AO Y,AH i]/\(AR i i'/\i'<=Y.length/\Y.length<=X.length)/\X.take i'=Y.take i'/\k=Y.length-i') (Y.length-0) ⟨0,0,rfl,⟨BD 0,AA,AA⟩,rfl,rfl⟩ ?_;rintro J0 G vs bl aa ⟨i',i,rfl,⟨hi,a5,H⟩,hinv,a6⟩;have ei:=hi.eq;refine AW ?_;rintro ab ⟨a1,f13⟩;refine BQ (fun P=>?_) fun P=>?_
 ·have hl:X.length=Y.length:=AA
  exact AL (by rw[I,decide_eq_true];have:=hinv;rwa [List.take_of_length_le AA,List.take_of_length_le AA] at this)
 refine .inr ?_;refine Ae i' fun D f=>?_
 try conv=>cbv
 refine Ae i' fun F h=>?_
 try conv=>cbv
 obtain⟨p,Z,a7,M⟩:=Iq hX hs f;obtain⟨q,hq,a8,N⟩:=Iq hY ht h;have s:D=rp p:=Z.rp.symm;have t:F=rp q:=hq.rp.symm;obtain⟨W,d⟩:=xI (HC p q);refine AB hE (gy Z hq M N d) ?_;intro V j;cases V <;> conv=>cbv
 ·have Q:=Ji j;refine AK ?_;intro U a2;exact BT G ⟨i'+1,U,rfl,⟨⟨AA⟩,AA,H⟩,eE f h hinv (by rw[s,t];congr 1;have:=SX p q;rw[<-d,(AA:W=0)] at this;exact of_decide_eq_true this),rfl⟩
 have Q:=Jj j;have J:D≠F:=fun e=>by have e2:=Qt (s.symm.trans (e.trans t));have:=SX p q;rw[decide_eq_true e2,<-d] at this;simp at this;omega
 exact AL (by rw[I,decide_eq_false];intro e;exact eF (n:=i'+1) f h AA J (by rw[e]))
theorem iH {X Y:List LR} (hu:BC R u) (hw:BC R w) (hX:X=tw u) (hY:Y=tw w) (G:c=(decide (Y.length<=X.length)&&decide (X.take Y.length=Y))):CF 201 [Ah X,Ah Y] (.one (.bool c)):=by
 refine AM Tryz.func201 fun E hE=>?_
 rintro n7 ⟨e7,f7⟩ n9 ⟨e9,f9⟩;refine Ft (fun M=>?_) fun M=>?_
 ·exact AL (by rw[G,decide_eq_false (AA:¬Y.length<=X.length)];rfl)
 refine BI [] [0,1,5] [] (fun vs V k=>∃(i':Nat) (i:Int),vs=[Ah X,Ah Y,AH i]/\(AR i i'/\i'<=Y.length/\Y.length<=X.length)/\X.take i'=Y.take i'/\k=Y.length-i') (Y.length-0) ⟨0,0,rfl,⟨BD 0,AA,AA⟩,rfl,rfl⟩ ?_;rintro J0 D vs V a5 ⟨i',i,rfl,⟨hi,a1,F⟩,hinv,a2⟩;have ei:=hi.eq;refine AW ?_;rintro a6 ⟨W,f13⟩;refine BQ (fun N=>?_) fun N=>?_
 ·exact AL (by rw[G,decide_eq_true (AA:Y.length<=X.length),decide_eq_true];rfl;rw[(AA:Y.length=i'),hinv,List.take_of_length_le AA])
 refine .inr ?_;refine Ae i' fun s f=>?_
 try conv=>cbv
 refine Ae i' fun t h=>?_
 try conv=>cbv
 obtain⟨p,hp,I⟩:=Ka hX f;obtain⟨q,hq,J⟩:=Ka hY h;obtain⟨U,d⟩:=xB (decide (s=t));refine AB hE (iz hp hq ((hu.tb p (List.mem_reverse.1 (List.mem_of_getElem? I))).CM hu.hR) ((hw.tb q (List.mem_reverse.1 (List.mem_of_getElem? J))).CM hw.hR) d) ?_;intro Q j;cases Q <;> conv=>cbv
 ·have O:=Gg j;refine AK ?_;intro P Z;exact BT D ⟨i'+1,P,rfl,⟨⟨AA⟩,AA,F⟩,eE f h hinv (of_decide_eq_true (by rw[<-d];exact Gg j)),rfl⟩
 have O:=Gh j;have H:s≠t:=of_decide_eq_false (by rw[<-d];exact Gh j);exact AL (by rw[G,decide_eq_false (p:=X.take Y.length=Y),Bool.and_false];intro e;exact eF (n:=Y.length) f h AA H (by rw[e,List.take_length]))
theorem Oq {X Y:List LR} (hu:BC R u) (hw:BC R w) (d:X=tw u) (f:Y=tw w) (h:c=true↔w<:+u):CF 201 [Ah X,Ah Y] (.one (.bool c)):=
 iH hu hw d f (by rw[Bool.eq_iff_iff,h,VN,Bool.and_eq_true,decide_eq_true_eq,decide_eq_true_eq,d,f])
theorem Rz {T:List LR} {A C:LR} {x:Re} (h:BC R w) (hT:T=tw w) (hA:A=em u x) (hx:In u x) (hu:u<:+w) (hC:C=em w x):CF 203 [Ah T,AO A] (AO C):=by
 have a1:T.length=w.length:=by rw[hT,CA]
 have ae:=h.ht;have ad:A.length=2^u.length:=by rw[hA,Bh hx]
 have a6:=hu.length_le;have hle:2^u.length<=2^w.length:=Cb a6;have aa:=Dh h.ht;have N:=Yb hu h.red hx;refine AM Tryz.func203 fun E hE=>?_
 refine⟨[],fun _=>⟨rfl,AE,rfl,trivial⟩,.inl ?_⟩;try conv=>cbv
 refine .inl ⟨A,fun _=>⟨rfl,rfl,rfl,B5 (0+A.length) 64⟩,?_⟩;intro (Q:LR) n8 P;have I:Q=([]:LR)++(A:LR):=P.1;have a5:n8=List.length (α:=(el AG)) Q:=P.2;conv=>cbv
 refine BI [] [0,5] [6] (fun vs bl k=>∃(o:LR) (mm j:Nat),vs=[Ah T,.one (.AU AG 6 0 0 mm)]/\bl=[.arr 0 AG o]/\(mm=o.length/\o.length=2^u.length+j/\o.length<=2^w.length)/\o=A++List.replicate j (rp 0)/\k=2^w.length-o.length) (2^w.length-Q.length) ⟨Q,n8,0,rfl,rfl,⟨a5,by rw[I];simp;omega,by rw[I];simp;omega⟩,by rw[I];simp,rfl⟩ ?_;rintro J0 Z vs bl ai ⟨o,mm,j,rfl,rfl,⟨J,ag,ah⟩,hinv,af⟩;conv=>cbv
 intro aj V;have ab:=V.eq;refine AK ?_;rintro ak ⟨U,f12⟩ al W;have a8:=(FY W (U.trans (congrArg _ a1))).eq;refine BQ (fun a7=>?_) fun a7=>?_
 ·exact AN ⟨⟨rfl,.inl ⟨_,rfl,AA,congrArg _ (by rw[hC,J,List.drop_zero,List.take_length,hinv,N,hA,(AA:j=2^w.length-2^u.length)])⟩,trivial⟩,trivial⟩
 refine .inr ?_;obtain⟨s,t,d,f,G⟩:=By (((0:Int):Rat));refine AB hE (Ec AA rfl G) ?_;refine⟨[((s,t),(d,f))],Ca,.inr ?_⟩;try conv=>cbv
 refine .inl ⟨[((s,t),(d,f))],fun _=>⟨rfl,J,rfl,B5 (o.length+1) 64⟩,?_⟩;intro (D:LR) O H;have F:D=(o:LR)++([((s,t),(d,f))]:LR):=H.1;have M:O=List.length (α:=(el AG)) D:=H.2;conv=>cbv
 have a2:D.length=o.length+1:=by rw[F];simp
 exact BT Z ⟨D,O,j+1,rfl,rfl,⟨M,AA,AA⟩,by rw[F,hinv,List.replicate_succ',List.append_assoc,<-G.rp];rfl,rfl⟩
end
section
structure DW (T:AD->Prop) (R C S:Nat):Prop extends Gam T R C S where
 JY:∀{u},T u->Ev u.length R (S+C)
def WW (S:Nat) (w u:AD):Prop:=∀{T RL:List LR} {A C:LR} {x:Re},T=tw w->GB w RL u->A=em u x->El u S x->C=em w x->
 CF 204 [Ah T,Ah RL,AO A] (AO C)
def WY (S:Nat) (w u:AD):Prop:=∀{T RL:List LR} {A C:LR} {x:Re} {mm:Nat},T=tw w->GB w RL u->mm=RL.length->A=em u x->El u S x->C=em w x->
 Dn Tryz.prog 204 [Ah T,.one (.AU (.sl AG) 0 0 0 mm),AO A] (.arr 0 (.sl AG) RL) (AO C)
variable {A C:LR} {K R S mm:Nat} {RL T:List LR} {TT:AD->Prop} {p x:Re} {q:Rat} {r:List Rat} {u w:AD}
theorem iL {u:AD} {x:Re} (G:Gam TT R K S) (hw:TT w) (H:T=tw w) (s:A=em [] (Re.ofRat q)) (M:B8 q) (D:C=em w (Re.ofRat q)):CF 204 [Ah T,Ah RL,AO A] (AO C):=by
 have d:A=[rp q]:=s.trans (Ds q);have t:A.length=1:=by rw[d];rfl
 refine AM Tryz.func204 fun E F=>?_
 rintro I ⟨j,f12⟩;refine CN (fun h=>?_) fun h=>?_
 ·exact absurd h AA
 refine Ae 0 fun J f=>?_
 try conv=>cbv
 refine AB F (G7 (G.BG hw) H (FW d f) D) ?_;exact AN ⟨t2,trivial⟩
theorem iM (G:Gam TT R K S) (hw:TT w) (hT:T=tw w) {q:Re} (hu:TT (r::u)) (f:BW (r::u) w) (ih:WW S w u) (hR:GB w RL (r::u)) (hA:A=em (r::u) x) (hx:El (r::u) S x) (I:x=p+q*rt u r) (hp:El u S p) (W:El u S q) (hC:C=em w x):CF 204 [Ah T,Ah RL,AO A] (AO C):=by
 have H:=(G.BG hu).red;have J:A.length=2^u.length+2^u.length:=by rw[hA,Bh hx.mem,Bz]
 have aE:=DK u.length;have aB:(r::u).length<=8:=G.ht hu;have al:(r::u).length=u.length+1:=rfl;have hmul:=G.mul hw;have d:El w K (rt u r):=by have:=G.CK hu hw f (JS H);rwa [Nat.zero_add] at this
 obtain⟨wk,ad,Z,O⟩:=hR.2;obtain⟨rk,a1⟩:=xR (em wk (rt u r));rw[<-a1] at O;refine AM Tryz.func204 fun E M=>?_
 rintro aI ⟨ar,f12⟩;refine BS (fun a2=>?_) fun a2=>?_
 ·exact absurd a2 AA
 rintro aJ ⟨au,f20⟩ ah ay;refine BI [] [0,1,2,7,8] [] (fun vs bl k=>∃(k':Nat) (hv kk:Int),vs=[Ah T,Ah RL,AO A,AH hv,AH kk]/\bl=[]/\(AR hv (A.length/2)/\AR kk k'/\k'<=u.length)/\k=u.length-k') (u.length-0) ⟨0,ah,0,rfl,rfl,⟨⟨AA⟩,BD 0,AA⟩,rfl⟩ ?_;rintro J0 a8 vs bl aF ⟨k',hv,kk,rfl,rfl,⟨N,aa,aD⟩,aC⟩;have aw:=N.eq;have ax:=aa.eq;refine AK ?_;rintro aK az aL a7 aM ⟨av,f26⟩;have ao:=(FY (k:=k'+1) a7 AA).eq;refine DF (fun ae=>?_) fun ae=>?_
 ·refine .inr ?_;have ab:k'<u.length:=Ly J (AA:2^(k'+1)<A.length);refine AK ?_;intro ai aA;exact BT a8 ⟨k'+1,hv,ai,rfl,rfl,⟨N,⟨AA⟩,AA⟩,rfl⟩
 have ab:k'=u.length:=by have:=Lx J (AA:¬2^(k'+1)<A.length);omega
 refine AK ?_;intro aG an a6 ak af Q;have D:af=em u p:=by rw[Q,List.drop_zero,(AA:a6=A.length/2),hA,Cv H hp.mem W.mem I]
 obtain⟨aN,h⟩:=xR (em w (p));refine AB M (ih hT hR.1 D hp h) ?_;rintro aH V a5 aq ⟨aj,P⟩ ag U;have F:ag=em u q:=by rw[U,(AA:a5=A.length/2),P,V,List.take_length,hA,CZ H hp.mem W.mem I]
 obtain⟨aO,j⟩:=xR (em w (q));refine AB M (ih hT hR.1 F W j) ?_;refine Cj O ?_;obtain⟨aP,s⟩:=xR (em w (rt u r));refine AB M (Rz (G.BG hw) hT a1 Z ad s) ?_;obtain⟨aQ,t⟩:=xR (em w (q*rt u r));refine AB M (ER (G.BG hw) hT j s (G.CK (G.sub hu) hw f.tail W) d AA t) ?_;refine AB (r:= .one (Au C)) M (KM (G.BG hw) h t (G.CK (G.sub hu) hw f.tail hp) ((G.CK (G.sub hu) hw f.tail W).mul (G.BG hw) d) AA AA (by rw[hC,I])) ?_;exact AN ⟨t2,trivial⟩
theorem iN {u:AD} {x:Re} (I:mm=RL.length) (G:Gam TT R K S) (hw:TT w) (H:T=tw w) (s:A=em [] (Re.ofRat q)) (N:B8 q) (D:C=em w (Re.ofRat q)):Dn Tryz.prog 204 [Ah T,.one (.AU (.sl AG) 0 0 0 mm),AO A] (.arr 0 (.sl AG) RL) (AO C):=by
 have d:A=[rp q]:=s.trans (Ds q);have t:A.length=1:=by rw[d];rfl
 refine Fx Tryz.func204 fun E F=>?_
 refine AW ?_;rintro J ⟨j,f12⟩;refine CN (fun h=>?_) fun h=>?_
 ·exact absurd h AA
 refine Ae 0 fun M f=>?_
 try conv=>cbv
 refine AB F (G7 (G.BG hw) H (FW d f) D) ?_;refine Ao
theorem iO (a5:mm=RL.length) (G:Gam TT R K S) (hw:TT w) (hT:T=tw w) {q:Re} (hu:TT (r::u)) (f:BW (r::u) w) (ih:WY S w u) (hR:GB w RL (r::u)) (hA:A=em (r::u) x) (hx:El (r::u) S x) (O:x=p+q*rt u r) (hp:El u S p) (hq:El u S q) (hC:C=em w x):Dn Tryz.prog 204 [Ah T,.one (.AU (.sl AG) 0 0 0 mm),AO A] (.arr 0 (.sl AG) RL) (AO C):=by
 have M:=(G.BG hu).red;have Q:A.length=2^u.length+2^u.length:=by rw[hA,Bh hx.mem,Bz]
 have aL:=DK u.length;have aI:(r::u).length<=8:=G.ht hu;have av:(r::u).length=u.length+1:=rfl;have hmul:=G.mul hw;have d:El w K (rt u r):=by have:=G.CK hu hw f (JS M);rwa [Nat.zero_add] at this
 obtain⟨wk,aj,a6,h⟩:=hR.2;obtain⟨rk,j⟩:=xR (em wk (rt u r));rw[<-j] at h;refine Fx Tryz.func204 fun E U=>?_
 refine AW ?_;rintro aP ⟨aA,f12⟩;refine BS (fun a8=>?_) fun a8=>?_
 ·exact absurd a8 AA
 rintro aQ ⟨aB,f20⟩ al aF;refine BI [] [0,1,2,7,8] [0] (fun vs bl k=>∃(k':Nat) (hv kk:Int),vs=[Ah T,.one (.AU (.sl AG) 0 0 0 mm),AO A,AH hv,AH kk]/\bl=[.arr 0 (.sl AG) RL]/\(AR hv (A.length/2)/\AR kk k'/\k'<=u.length)/\k=u.length-k') (u.length-0) ⟨0,al,0,rfl,rfl,⟨⟨AA⟩,BD 0,AA⟩,rfl⟩ ?_;rintro J0 ag vs bl aM ⟨k',hv,kk,rfl,rfl,⟨V,ah,aK⟩,aJ⟩;have aD:=V.eq;have aE:=ah.eq;refine AK ?_;rintro aR aG aS af aT ⟨aC,f26⟩;have ay:=(FY (k:=k'+1) af AA).eq;refine DF (fun ak=>?_) fun ak=>?_
 ·refine .inr ?_;have ai:k'<u.length:=Ly Q (AA:2^(k'+1)<A.length);refine AK ?_;intro an aH;exact BT ag ⟨k'+1,hv,an,rfl,rfl,⟨V,⟨AA⟩,AA⟩,rfl⟩
 have ai:k'=u.length:=by have:=Lx Q (AA:¬2^(k'+1)<A.length);omega
 refine AK ?_;intro aN ax ae au aa Z;have I:aa=em u p:=by rw[Z,List.drop_zero,(AA:ae=A.length/2),hA,Cv M hp.mem hq.mem O]
 obtain⟨ao,s⟩:=xR (em w (p));refine .inr (.inr (.inl ⟨0,.arr 0 (.sl AG) RL,[Ah T,.one (.AU (.sl AG) 0 0 0 mm),AO aa],AO ao,Ao,fun _=>Fq U (ih hT hR.1 a5 I hp s),?_⟩));refine AK ?_;rintro aO a2 ad az ⟨ar,W⟩ ab a1;have J:ab=em u q:=by rw[a1,(AA:ad=A.length/2),W,a2,List.take_length,hA,CZ M hp.mem hq.mem O]
 obtain⟨aq,t⟩:=xR (em w (q));refine .inr (.inr (.inl ⟨0,.arr 0 (.sl AG) RL,[Ah T,.one (.AU (.sl AG) 0 0 0 mm),AO ab],AO aq,Ao,fun _=>Fq U (ih hT hR.1 a5 J hq t),?_⟩));try conv=>cbv
 refine g2 rfl ?_;refine⟨fun _=>⟨AA,by have:=Gs h;omega⟩,?_⟩;intro a7 aw;conv=>cbv
 obtain⟨P,H⟩:=Bj (l:=RL) (i:=a7) (by have:=Gs h;omega);refine⟨P,fun _=>H,?_⟩;try conv=>cbv
 have N:P=rk:=by have:=H;rw[(AA:a7=u.length),h] at this;exact (Option.some.inj this).symm
 have j:P=em wk (rt u r):=N.trans j;obtain⟨aU,D⟩:=xR (em w (rt u r));refine AB U (Rz (G.BG hw) hT j a6 aj D) ?_;obtain⟨aV,F⟩:=xR (em w (q*rt u r));refine AB U (ER (G.BG hw) hT t D (G.CK (G.sub hu) hw f.tail hq) d AA F) ?_;refine AB (r:= .one (Au C)) U (KM (G.BG hw) s F (G.CK (G.sub hu) hw f.tail hp) ((G.CK (G.sub hu) hw f.tail hq).mul (G.BG hw) d) AA AA (by rw[hC,O])) ?_;refine Ao
theorem iJ (G:Gam TT R K S) (hw:TT w):∀{u:AD},TT u->BW u w->WW S w u:=by
 intro u
 induction u with
 | nil=>
  intro hu s T RL A C x t hR h d j;obtain⟨q,rfl⟩:=Cy.1 d.mem;have f:=d.CM (by have:=G.mul hw;omega);rw[DH] at f;exact iL (u:=[]) (x:=0) G hw t h (f q List.mem_cons_self) j
 | cons r u H=>
  intro hu s T RL A C x t hR h d j;obtain⟨p,q,D,F,f⟩:=El.parts (G.BG hu).red d;exact iM G hw t hu s (H (G.sub hu) s.tail) hR h d D F f j
theorem iK (G:Gam TT R K S) (hw:TT w):∀{u:AD},TT u->BW u w->WY S w u:=by
 intro u
 induction u with
 | nil=>
  intro hu t T RL A C x mm D hR d j f s;obtain⟨q,rfl⟩:=Cy.1 f.mem;have h:=f.CM (by have:=G.mul hw;omega);rw[DH] at h;exact iN (u:=[]) (x:=0) d G hw D j (h q List.mem_cons_self) s
 | cons r u I=>
  intro hu t T RL A C x mm D hR d j f s;obtain⟨p,q,F,H,h⟩:=El.parts (G.BG hu).red f;exact iO d G hw D hu t (I (G.sub hu) t.tail) hR j f F H h s
theorem Rx {U T2:List LR} {t:AD} (G:DW TT R K S) (ht:TT t) (hu:TT u) (hT:T=tw t) (hU:U=tw u) (ae:T2=tw (ext t u)) (ab:RL=E8 t u):CF 202 [Ah T,Ah U] (.Aj [(false,[BP T2]),(false,[BP RL]),(false,[.int .i64 0])]):=by
 have ao:U.length=u.length:=by rw[hU,CA]
 have av:=G.ht hu;have ad:=G.RS;refine AM Tryz.func202 fun E hE=>?_
 refine BI [(7,.sl AG,true)] [0,1,7,8] [7] (fun vs bl k=>∃(Ti o:List LR) (mm i':Nat) (i:Int),vs=[Ah Ti,Ah U,.one (.AU (.sl AG) 7 0 0 mm),AH i]/\bl=[.arr 0 (.sl AG) o]/\(AR i i'/\i'<=U.length/\mm=o.length)/\Ti=tw (ext t (pre u i'))/\o=E8 t (pre u i')/\k=U.length-i') U.length ⟨T,[],0,0,0,rfl,rfl,⟨BD 0,Nat.zero_le _,rfl⟩,by rw[N6];exact hT,by rw[N6];rfl,rfl⟩ ?_;rintro J0 aa vs bl aw ⟨Ti,o,mm,i',i,rfl,rfl,⟨hi,aq,M⟩,I,hinv,ar⟩;conv=>cbv
 have ei:=hi.eq;have au:o.length<=U.length:=by rw[hinv,OD,Ju AA];omega
 rintro ax ⟨al,f14⟩;conv=>cbv
 refine BQ (fun ai=>?_) fun ai=>?_
 ·have V:pre u i'=u:=by rw[(AA:i'=u.length)];exact bJ u
  exact AN ⟨⟨rfl,congrArg _ (by rw[ae,I,V]),trivial⟩,⟨rfl,.inl ⟨_,rfl,AA,congrArg _ (by rw[ab,M,List.drop_zero,List.take_length,hinv,V])⟩,trivial⟩,t2,trivial⟩
 refine .inr ?_;refine Ae i' fun a8 a5=>?_
 try conv=>cbv
 obtain⟨r,N,a1⟩:=Kr (u:=u) (i:=i') AA;have d:TT (pre u i'):=G.I6 (MK u i') hu;have f:TT (r::pre u i'):=N ▸ G.I6 (MK u (i'+1)) hu;have Z:=(G.BG f).red;have ah:a8=em (pre u i') (AQ (pre u i') r):=by rw[<-hU,a5] at a1;exact (Option.some.inj a1).trans (E1 Z)
 have h:TT (ext t (pre u i')):=G.ext ht d;have J:=(I2 (G.BG ht).red (G.BG d).red).2;have W:El (pre u i') S (AQ (pre u i') r):=(El.DL (G.BG f)).mono ad;have a2:TT (BK (ext t (pre u i')) (AQ (pre u i') r)):=G.BK h f J;have af:ext t (pre u (i'+1))=BK (ext t (pre u i')) (AQ (pre u i') r):=by rw[N];rfl
 have ag:E8 t (pre u (i'+1))=E8 t (pre u i')++[em (BK (ext t (pre u i')) (AQ (pre u i') r)) (Re.sqrt (AQ (pre u i') r))]:=by rw[N];rfl
 obtain⟨ak,s⟩:=xR (em (ext t (pre u i')) (AQ (pre u i') r));refine .inr (.inr (.inl ⟨7,.arr 0 (.sl AG) o,[Ah Ti,.one (.AU (.sl AG) 0 0 0 mm),AO a8],AO ak,Ao,fun _=>Fq hE (iK G.toGam h d J I (by rw[hinv];exact OE (G.BG ht).red (G.BG d).red) M ah W s),?_⟩));try conv=>cbv
 obtain⟨a7,D⟩:=xV (tw (BK (ext t (pre u i')) (AQ (pre u i') r)));obtain⟨j,F⟩:=xR (em (BK (ext t (pre u i')) (AQ (pre u i') r)) (Re.sqrt (AQ (pre u i') r)));refine AB (r:= .Aj [(false,[BP a7]),(false,[Au j]),(false,[.int .i64 0])]) hE (WU (G.BG h) (G.BG a2) (G.ht a2) I s (G.CK d h J W) (G.JY h) (by have:=Z.2.2.1;grind) D F) ?_;refine BM ?_;refine⟨[j],Ca,.inr ?_⟩;try conv=>cbv
 refine .inl ⟨[j],fun _=>⟨rfl,M,rfl,B5 (o.length+1) 24⟩,?_⟩;intro (O:List (el (.sl AG))) a6 H;have P:O=(o:List (el (.sl AG)))++([j]:List (el (.sl AG))):=H.1;have Q:a6=List.length (α:=(el (.sl AG))) O:=H.2;refine AK ?_;intro aj an;exact BT aa ⟨a7,O,a6,i'+1,aj,rfl,rfl,⟨⟨AA⟩,AA,Q⟩,by rw[D,af],by rw[P,hinv,ag,F],rfl⟩
end
end Go.Abs
