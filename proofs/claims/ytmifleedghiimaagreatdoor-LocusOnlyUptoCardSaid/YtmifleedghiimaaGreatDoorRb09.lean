/- Part 10 of a proof. Conditions: each theorem's own. -/
import Derived.Test.YtmifleedghiimaaGreatDoorRb08
set_option linter.all false
set_option maxHeartbeats 80000000
set_option maxRecDepth 20000
open Go.Proofs
namespace Go.Abs
open Go.RowKit
section
variable {R a i k m q:Nat} {b b1 b2 c:Bool} {l l1 l2 o z:List UInt32} {x y:Int}
def fK {x:Nat} (h:x=2^(m+1)*k):x ||| 2^m=x+2^m:=by
 rw[h,Nat.or_comm,No (Nat.pow_lt_pow_right AD (Nat.lt_succ_self m)),Nat.add_comm]
def kC {x:UInt32} (f:o[q]? =some x) (hm:m<32) (d:2^(32*q+m+1)∣AI o):∃k,x.toNat=2^(m+1)*k:=by
 have G:q<o.length:=by apply Classical.byContradiction;intro F;rw[List.getElem?_eq_none AA] at f;exact absurd f AS
 have e1:AI o=AI (o.take q)+2^(32*q)*(x.toNat+4294967296*AI (o.drop (q+1))):=by
  conv=>lhs;rw[<-List.take_append_drop q o]
  rw[SX,List.length_take,Nat.min_eq_left AA,E3 f]
 have e2:2^(32*q)∣AI o:=Nat.dvd_trans ⟨2^(m+1),by rw[<-Nat.pow_add];congr 1⟩ d
 have h:2^(32*q)∣AI (o.take q):=by
  rw[e1] at e2;exact (Nat.dvd_add_iff_left ⟨_,rfl⟩).2 e2
 have j:AI (o.take q)<2^(32*q):=by
  have:=Dj (o.take q);rwa [List.length_take,Nat.min_eq_left AA] at this
 have s:AI (o.take q)=0:=Nat.eq_zero_of_dvd_of_lt h j;rw[e1,s,Nat.zero_add,Nat.add_assoc,Nat.pow_add] at d;have t:2^(m+1)∣x.toNat+4294967296*AI (o.drop (q+1)):=Nat.dvd_of_mul_dvd_mul_left (Nat.two_pow_pos _) d;have D:2^(m+1)∣4294967296*AI (o.drop (q+1)):=Nat.dvd_trans ⟨2^(31-m),by rw[<-Nat.pow_add,(AA:m+1+(31-m)=32)]⟩ ⟨_,rfl⟩;exact (Nat.dvd_add_iff_left D).2 t
def oQ {x w:UInt32} (d:o[q]? =some x) (hm:m<32) (f:2^(32*q+m+1)∣AI o) (hw:w.toNat=x.toNat ||| 2^m):AI (o.set q w)=AI o+2^(32*q+m)/\w.toNat=x.toNat+2^m:=by
 obtain⟨k,h⟩:=kC d hm f;rw[fK h] at hw;have:=WW (w:=w) d;rw[hw,Nat.mul_add,<-Nat.pow_add] at this;exact⟨AA,hw⟩
def nq {n a b:Int} {p:Nat} (h:n=IntKind.u32.wrap (BitVec.ofInt IntKind.u32.bits a &&& ~~~ BitVec.ofInt IntKind.u32.bits b).toNat) (ha:a=((p+2^m:Nat):Int)) (hb:b=((2^m:Nat):Int)) (f:p=2^(m+1)*k) (hm:m<32) (H:p+2^m<4294967296):n=p:=by
 have D:=wrap_u32 h;have G:2^m<4294967296:=AA
 have e1:(BitVec.ofInt 32 a &&& ~~~ BitVec.ofInt 32 b:BitVec 32).toNat=p:=by
  have s:BitVec.ofInt 32 a=BitVec.ofNat 32 (p+2^m):=by rw[ha];exact BitVec.ofInt_natCast 32 _
  have t:BitVec.ofInt 32 b=BitVec.ofNat 32 (2^m):=by rw[hb];exact BitVec.ofInt_natCast 32 _
  rw[s,t]
  have e2:BitVec.ofNat 32 (p+2^m) &&& ~~~BitVec.ofNat 32 (2^m)=BitVec.ofNat 32 p:=by
   apply BitVec.eq_of_getLsbD_eq;intro i F;rw[BitVec.getLsbD_and,BitVec.getLsbD_not,BitVec.getLsbD_ofNat,BitVec.getLsbD_ofNat,BitVec.getLsbD_ofNat,<-fK f,Nat.testBit_or,Nat.testBit_two_pow]
   have j:p.testBit m=false:=by
    rw[f,Nat.testBit_two_pow_mul];simp;intro h;omega
   by_cases e:m=i
   ·subst e;simp[j,hm]
   simp[e,F]
  rw[e2,BitVec.toNat_ofNat];exact Nat.mod_eq_of_lt (Nat.lt_of_le_of_lt (Nat.le_add_right p (2^m)) H)
 have d:n=(((BitVec.ofInt 32 a &&& ~~~ BitVec.ofInt 32 b:BitVec 32).toNat:Nat):Int)%4294967296:=D;rw[e1] at d;rw[d];exact Int.emod_eq_of_lt AA AA
def BQ.iff {b':Bool} {l':List UInt32} (h:BQ x b l) (h':BQ y b' l'):x=y↔b=b'/\l=l':=
 ⟨fun e=>h.uniq h' e,fun e=>by rw[h.Fq,h'.Fq,e.1,e.2]⟩
def nX {u:List UInt32} {c d b:Nat} (bw:c<=u.length) (bx:d<=u.length) (sl:u.length<=17592186044416) (ha:AI (u.take c)=a) (hb:AI (u.take d)=b) (hz:z=Ah (a*b)):Cz Tryz.prog 268 [.one (.Aj .u32 0 0 0 c),.one (.Aj .u32 0 0 0 d)] (.arr 0 .u32 u) (.one (.sl .u32 z)):=by
 obtain⟨l,hl⟩:=xU (u.take c);have bC:l.length=c:=by rw[hl,List.length_take];omega
 have aI:∀i,i<c->l[i]? =u[i]? :=fun i h=>by rw[hl,List.getElem?_take,if_pos h]
 rw[<-hl] at ha;obtain⟨m,hm⟩:=xU (u.take d);have bD:m.length=d:=by rw[hm,List.length_take];omega
 have aJ:∀i,i<d->m[i]? =u[i]? :=fun i h=>by rw[hm,List.getElem?_take,if_pos h]
 rw[<-hm] at hb;refine DW Tryz.func268 fun E hE=>?_
 conv=>cbv
 intro bG aB;have bb:=aB.eq;conv=>cbv
 intro bH aC;have bc:=aC.eq;refine AM ?_;intro bI bn;refine⟨fun _=>⟨AA,AA,by show _*4<=140737488355328;omega⟩,?_⟩;intro W (Z:List UInt32) Q;have ba:=Q.1;have j:Z=List.replicate W (0:el .u32):=Q.2;have aZ:Z.length=W:=by rw[j,List.length_replicate]
 conv=>cbv
 refine BX [] [0,1,5,6] [0,14] (fun vs bl k=>∃(o:List UInt32) (n i':Nat) (i:Int),vs=[.one (.Aj .u32 0 0 0 c),.one (.Aj .u32 0 0 0 d),.one (.Aj .u32 14 0 0 n),AH i]/\bl=[.arr 0 .u32 u,.arr 0 .u32 o]/\(o.length=l.length+m.length/\n=o.length/\AZ i i'/\i'<=l.length)/\AI (o.take (i'+m.length))=AI (l.take i')*AI m/\k=l.length-i') (l.length-0) ⟨Z,W,0,0,rfl,rfl,⟨by rw[j,List.length_replicate];omega,by rw[j,List.length_replicate],BM 0,AA⟩,by rw[j,List.take_replicate,KQ];simp[AI],rfl⟩ ?_;rintro J0 aG vs bl bE ⟨o,n,i',i,rfl,rfl,⟨ho,hn,hi,bz⟩,hinv,bA⟩;conv=>cbv
 have ei:=hi.eq;intro bJ aD;have bd:=aD.eq;conv=>cbv
 refine Bi (fun aN=>?_) fun aN=>?_
 ·have D:n<=(o).length:=AA
  obtain⟨aP,M⟩:=xN ((C7 ((o).take n)).length);obtain⟨aM,V⟩:=GF D M;refine .inr (.inr (.inl ⟨[],.one (.Aj .u32 0 0 0 aP),.arr 0 .u32 o,fun _=>⟨by first | decide | simp[DS,DJ],trivial⟩,fun _=>⟨Fb hE (IM D AA M),rfl,rfl⟩,?_⟩));try conv=>cbv
  have an:AI (o.take n)=a*b:=by rw[(AA:i'=l.length),List.take_length,ha,hb,<-ho,List.take_length] at hinv;rw[hn,List.take_length,hinv]
  refine fun _=>⟨⟨⟨⟨rfl,.inl ⟨_,rfl,AA,congrArg _ (by rw[List.drop_zero,V,an,hz])⟩,trivial⟩,trivial⟩,rfl,AS⟩,rfl⟩
 refine .inr ?_;refine BX [] [0,1,5,6,7,8] [0,14] (fun vs bl k=>∃(o1:List UInt32) (n1 c' k':Nat) (cc i1:Int),vs=[.one (.Aj .u32 0 0 0 c),.one (.Aj .u32 0 0 0 d),.one (.Aj .u32 14 0 0 n1),AH i,.one (.int .u64 cc),AH i1]/\bl=[.arr 0 .u32 u,.arr 0 .u32 o1]/\(o1.length=l.length+m.length/\n1=o1.length/\AZ i1 k'/\k'<=m.length/\AZ cc c'/\c'<4294967296)/\AI (o1.take (i'+m.length))+2^(32*(i'+k'))*c'=AI (l.take i')*AI m+(l.getD i' 0).toNat*2^(32*i')*AI (m.take k')/\k=m.length-k') (m.length-0) ⟨o,n,0,0,0,0,rfl,rfl,⟨ho,hn,BM 0,AA,BM 0,AA⟩,by rw[hinv];simp[AI],rfl⟩ ?_;rintro J1 aH vs bl bF ⟨o1,n1,c',k',cc,i1,rfl,rfl,⟨aq,ao,aK,b4,hc,bu⟩,f,bB⟩;conv=>cbv
 have bm:=aK.eq;have ec:=hc.eq;intro bK aE;have bf:=aE.eq;conv=>cbv
 refine Bi (fun aO=>?_) fun aO=>?_
 ·intro bT aF;have bk:=aF.eq;refine AM ?_;intro bU bt aU ak;have ak:=wrap_u32 ak;refine AM ?_;intro ay b9;obtain⟨a5,G⟩:=DD (n:=aU) AA;have aW:=G.eq;have aY:=G.lt;refine⟨a5,fun _=>⟨by show _<List.length (α:=UInt32) o1;(first | omega | (simp;omega)),DC G⟩,?_⟩;intro (a2:List UInt32) (t:a2=List.set (α:=UInt32) o1 ay a5);have b3:a2.length=o1.length:=by rw[t,List.length_set]
  refine AM ?_;intro aQ bo;refine⟨l.length-(i'+1),?_,?_⟩
  ·omega
  rw[aG];refine⟨a2,n1,i'+1,aQ,rfl,rfl,⟨by rw[t,List.length_set];exact aq,by rw[t,List.length_set];exact ao,⟨AA⟩,AA⟩,?_,rfl⟩;obtain⟨ai,al⟩:=CE (l:=l) (i:=i') AA;have hk:k'=m.length:=AA
  have hlen:i'+m.length<o1.length:=AA
  rw[t,(AA:i'+1+m.length=i'+m.length+1),(AA:ay=i'+m.length),Gg hlen,Fj,List.length_take,Nat.min_eq_left AA,(AA:a5.toNat=c')];rw[hk,NV al] at f;rw[f,List.take_length,DV al]
  grind
 refine .inr ?_;refine AM ?_;intro bL br au b5;obtain⟨a6,H⟩:=CE (l:=o1) (i:=au) AA;refine⟨a6,fun _=>H,?_⟩;refine Af ?_;intro bM a7 bN a8;have bg:=a7.eq;have f33:=a7.lt;have a8:=wrap_u64 a8;intro bO aa;conv=>cbv
 have aa:=wrap_u64 aa;refine AM ?_;intro av b6;obtain⟨I,O⟩:=CE (l:=u) (i:=av) AA;refine⟨I,fun _=>O,?_⟩;refine Af ?_;intro bP ab aS ad;have bh:=ab.eq;have f39:=ab.lt;have ad:=wrap_u64 ad;refine AM ?_;intro aw b7;obtain⟨J,P⟩:=CE (l:=u) (i:=aw) AA;refine⟨J,fun _=>P,?_⟩;refine Af ?_;intro bQ ae aT af;have bj:=ae.eq;have f44:=ae.lt;have af:=wrap_u64 af;have ep:aS*aT=((I.toNat*J.toNat:Nat):Int):=by rw[Int.natCast_mul];congr 1 <;> omega
 have bp:I.toNat*J.toNat<=4294967295*4294967295:=Nat.mul_le_mul AA AA;intro bR U;conv=>cbv
 have U:=wrap_u64 U;intro bS ag;conv=>cbv
 have ag:=wrap_u64 ag;refine AM ?_;intro E7 bs Eu ah;have ah:=wrap_u32 ah;refine AM ?_;intro ax b8;obtain⟨aA,F⟩:=DD (n:=Eu) AA;have aV:=F.eq;have aX:=F.lt;refine⟨aA,fun _=>⟨by show _<List.length (α:=UInt32) o1;(first | omega | (simp;omega)),DC F⟩,?_⟩;intro (a1:List UInt32) (s:a1=List.set (α:=UInt32) o1 ax aA);have b0:a1.length=o1.length:=by rw[s,List.length_set]
 refine AM ?_;intro az aj;have aj:=Fs (p:=4294967296) aj rfl;refine AM ?_;intro aR bq;refine⟨m.length-(k'+1),?_,?_⟩
 ·omega
 rw[aH];have N:l[i']? =some I:=by rw[aI _ AA,(AA:i'=av)];exact O
 have ar:m[k']? =some J:=by rw[aJ _ AA,(AA:k'=aw)];exact P
 refine⟨a1,n1,az.toNat,k'+1,az,aR,rfl,rfl,⟨by rw[s,List.length_set];exact aq,by rw[s,List.length_set];exact ao,⟨AA⟩,AA,⟨AA⟩,AA⟩,?_,rfl⟩;have hj:ax=i'+k':=AA
 have aL:au=i'+k':=AA
 rw[aL] at H;rw[NV N] at f;rw[s,hj,DV ar,(AA:i'+(k'+1)=i'+k'+1),NV N];refine Xx (q:=a6) (xi:=I.toNat) (yk:=J.toNat) (old:=a6.toNat) (c:=c') rfl AA H rfl f ?_ rfl;rw[ep] at U;omega
def ot (h:CO ((R*R:Nat):Int) a<=0):R*R<=a:=by
 unfold CO at h
 split at h
 ·omega
 split at h
 ·omega
 omega
def oq (h:CO ((R*R:Nat):Int) a>0):a<R*R:=by
 unfold CO at h
 split at h
 ·omega
 split at h
 ·omega
 omega
def wb {α:Type} {l:List α} {x:α} (h:l[i]? =some x):l.set i x=l:=by
 apply List.ext_getElem?;intro k
 by_cases e:i=k
 ·subst e;rw[h,List.getElem?_set_self];apply Classical.byContradiction;intro d;rw[List.getElem?_eq_none AA] at h;exact absurd h AS
 rw[List.getElem?_set_ne e]
def QS (hx:BQ x b l) (h0:0<=x) (hz:BQ ((CH x.toNat:Nat):Int) c z) (sl:l.length<=17592186043000):CF 306 [.agg (Bu b l)] (BK (Bu c z) 0):=by
 obtain⟨a,ha⟩:=xN x.toNat;obtain⟨N,hN⟩:=xN ((EC a+1)/2);have aj:x.natAbs=a:=AA
 have aS:l=Ah a:=by rw[<-aj];exact hx.Bx
 rw[<-ha] at hz
 have aO:a<2^N*2^N:=by
  rw[<-Nat.pow_add]
  by_cases h:a=0
  ·rw[h];exact Nat.two_pow_pos _
  exact Nat.lt_of_lt_of_le (SY (by omega:0<a)).2.1 (Nat.pow_le_pow_right AD AA)
 have bH:N<=300000000000000:=by
  have h1:EC a<=32*l.length:=by
   by_cases h:a=0
   ·rw[h];exact Nat.zero_le _
   have h2:=(SY (by omega:0<a)).1;have h3:a<2^(32*l.length):=by have:=Dj l;rw[hx.nat,aj] at this;exact this
   have h4:=(Nat.pow_lt_pow_iff_right (a:=2) AD).1 (Nat.lt_of_le_of_lt h2 h3);omega
  omega
 refine AL Tryz.func306 fun E hE=>?_
 refine AB hE (J5 hx) ?_;cases b <;> conv=>cbv
 ·obtain⟨b5,a8⟩:∃n:Int,AZ n (EC a):=⟨_,⟨rfl⟩⟩
  have b7:=a8.eq;refine AB (r:= .one (.int .i64 b5)) hE (lr hx (by rw[aj];exact a8) sl) ?_;intro bL bu bM bw bN bx bO bz;refine⟨fun _=>⟨AA,AA,by show _*4<=140737488355328;omega⟩,?_⟩;intro ak (al:List UInt32) ad;have bp:=ad.1;have f:al=List.replicate ak (0:el .u32):=ad.2;have bc:al.length=ak:=by rw[f,List.length_replicate]
  refine AM ?_;intro aX bA;refine BX [] [1,2,3,5,6] [1,2,19] (fun vs bl k=>∃(o:List UInt32) (m j:Nat) (i:Int),vs=[.one (.BU 1 0 0),.one (.BU 2 0 0),AH 0,.one (.Aj .u32 19 0 0 m),AH i]/\bl=[.var 0 [.bool false,.sl .u32 l],.var 0 [.bool false,.nil],.arr 0 .u32 o]/\(o.length=N/32+1/\m=o.length/\AZ (i+1) j/\j<=N)/\(2^j∣AI o/\AI o*AI o<=a/\a<(AI o+2^j)*(AI o+2^j))/\k=j) N ⟨al,ak,N,aX,rfl,rfl,⟨by rw[f,List.length_replicate];omega,by rw[f,List.length_replicate],⟨AA⟩,Nat.le_refl _⟩,⟨by rw[f,KQ];exact Nat.dvd_zero _,by rw[f,KQ];omega,by rw[f,KQ,Nat.zero_add];exact aO⟩,rfl⟩ ?_;rintro J0 ay vs bl bK ⟨o,m,j,i,rfl,rfl,⟨ho,hm,hi,bI⟩,⟨hd,aA,ae⟩,bJ⟩;conv=>cbv
  have ei:=hi.eq;refine Kf (fun aW=>?_) fun aW=>?_
  ·have aQ:j=0:=AA
   rw[aQ] at ae;have aV:=dF aA ae
   have aB:((CH a:Nat):Int)=if false=true then -(AI (o.take m):Int) else AI (o.take m):=by
    rw[if_neg AD,hm,List.take_length,aV]
   obtain⟨aH,aI,Q⟩:=BO (((CH a:Nat):Int));refine .inr (.inr (.inr (.inl ⟨19,.arr 0 .u32 o,[.one (.bool false),.one (.sl .u32 ((o).take m))],.agg [.bool aH,.sl .u32 aI],fun _=>⟨⟨AD,rfl,by first | rfl | decide | simp[DS,DJ]⟩,⟨rfl,⟨_,rfl,by simp <;> omega,AS⟩,trivial⟩⟩,fun _=>⟨Im hE (Iw (n:=false) aB Q),rfl⟩,?_⟩)));try conv=>cbv
   exact AN ⟨⟨rfl,congrArg _ ((Q.uniq hz rfl).1.symm),congrArg _ ((Q.uniq hz rfl).2.symm),trivial⟩,t2,trivial⟩
  refine .inr ?_;refine AM ?_;intro bP bB bQ bC;obtain⟨i',aP⟩:∃i',j=i'+1:=⟨j-1,AA⟩
  subst aP;refine AM ?_;intro Z bk;obtain⟨t,H⟩:=CE (l:=o) (i:=Z) AA;refine⟨t,fun _=>H,?_⟩;refine AM ?_;intro bR av bS bD aY aK;have bt:=av.eq;have f33:=av.lt
  obtain⟨bg,a7⟩:aY=((2^(i'%32):Nat):Int)/\2^(i'%32)<4294967296:=by
   have hb:2^(i'%32)<4294967296:=Nat.lt_of_le_of_lt (Nat.pow_le_pow_right AD (by omega:i'%32<=31)) AD;have:=Xi (p:=1) (e:=i'%32) aK rfl AA;rw[this,Nat.one_mul];exact⟨congrArg _ (Nat.mod_eq_of_lt hb),hb⟩
  intro aZ aL;conv=>cbv
  have bh:=Sh (p:=t.toNat) (q:=2^(i'%32)) aL AA AA AA a7;have br:t.toNat ||| 2^(i'%32)<4294967296:=Nat.or_lt_two_pow (n:=32) t.toNat_lt a7
  refine AM ?_;intro U bm;obtain⟨W,O⟩:=DD (n:=aZ) AA;have b8:=O.eq;have ba:=O.lt;refine⟨W,fun _=>⟨by show _<List.length (α:=UInt32) o;(first | omega | (simp;omega)),DC O⟩,?_⟩;intro (d:List UInt32) (G:d=List.set (α:=UInt32) o U W);have bd:d.length=o.length:=by rw[G,List.length_set]
  conv=>cbv
  refine g2 rfl ?_;have ai:W.toNat=t.toNat ||| 2^(i'%32):=AA
  have af:2^(32*(i'/32)+i'%32)=2^i':=by congr 1;omega
  have s:=oQ (o:=o) (q:=i'/32) (m:=i'%32) (x:=t) (w:=W) (by rw[(AA:i'/32=Z)];exact H) AA (by rw[(AA:32*(i'/32)+i'%32+1=i'+1)];exact hd) ai;rw[(AA:i'/32=U),<-G,(AA:U=i'/32)] at s;have I:m<=(d).length:=AA
  obtain⟨an,a5⟩:=xN ((C7 ((d).take m)).length);obtain⟨aT,ag⟩:=GF I a5;refine .inr (.inr (.inl ⟨[],.one (.Aj .u32 0 0 0 an),.arr 0 .u32 d,fun _=>⟨by first | decide | simp[DS,DJ],trivial⟩,fun _=>⟨Fb hE (IM I AA a5),rfl,rfl⟩,?_⟩));try conv=>cbv
  have J:m<=(d).length:=AA
  obtain⟨ao,a6⟩:=xN ((C7 ((d).take m)).length);obtain⟨aU,ah⟩:=GF J a6;refine .inr (.inr (.inl ⟨[],.one (.Aj .u32 0 0 0 ao),.arr 0 .u32 d,fun _=>⟨by first | decide | simp[DS,DJ],trivial⟩,fun _=>⟨Fb hE (IM J AA a6),rfl,rfl⟩,?_⟩));try conv=>cbv
  obtain⟨R,hR⟩:=xN (AI d);obtain⟨b6,aa⟩:=xU (Ah (R*R));have az:AI d*AI d=R*R:=by rw[hR]
  have aC:AI (d.take an)=R:=by rw[ag,Bk,hR];congr 1;exact List.take_of_length_le AA
  have aD:AI (d.take ao)=R:=by rw[ah,Bk,hR];congr 1;exact List.take_of_length_le AA
  refine .inr (.inr (.inr (.inl ⟨19,.arr 0 .u32 d,[.one (.Aj .u32 0 0 0 an),.one (.Aj .u32 0 0 0 ao)],.one (.sl .u32 b6),AK,fun _=>G3 hE (nX AA AA AA aC aD aa),?_⟩)));try conv=>cbv
  obtain⟨bW,M⟩:=xI (CO ((R*R:Nat):Int) a);refine AB hE (Oa aa aS M) ?_;intro b0 aw;refine .inr ?_;cases b0 <;> conv=>cbv
  ·have V:=Gs aw;refine AM ?_;intro aq aJ;refine⟨i',?_,?_⟩
   ·omega
   rw[ay];have D:2^i'∣AI o:=Nat.dvd_trans ⟨2,by rw[Nat.pow_succ]⟩ hd;refine⟨d,m,i',aq,rfl,rfl,⟨AA,AA,⟨AA⟩,AA⟩,⟨?_,?_,?_⟩,rfl⟩
   ·rw[s.1];exact Nat.dvd_add D (by rw[af];exact Nat.dvd_refl _)
   ·rw[az];rw[M] at V;have:=ot V;exact this
   rw[s.1,af];rw[Nat.pow_succ] at ae;rwa [(AA:AI o+2^i'+2^i'=AI o+2^i'*2)]
  have V:=Gt aw;refine AM ?_;intro bT bE Eu bF aE bn;obtain⟨aG,ab⟩:=CE (l:=d) (i:=aE) AA;refine⟨aG,fun _=>ab,?_⟩;refine AM ?_;intro bU ax bV bG b3 aM;have au:=ax.eq;have f55:=ax.lt
  obtain⟨bj,bs⟩:b3=((2^(i'%32):Nat):Int)/\2^(i'%32)<4294967296:=by
   have hb:2^(i'%32)<4294967296:=Nat.lt_of_le_of_lt (Nat.pow_le_pow_right AD (by omega:i'%32<=31)) AD;have:=Xi (p:=1) (e:=i'%32) aM rfl AA;rw[this,Nat.one_mul];exact⟨congrArg _ (Nat.mod_eq_of_lt hb),hb⟩
  intro b4 aN;conv=>cbv
  obtain⟨kk,aR⟩:=kC (o:=o) (q:=i'/32) (m:=i'%32) (x:=t) (by rw[(AA:i'/32=Z)];exact H) AA (by rw[(AA:32*(i'/32)+i'%32+1=i'+1)];exact hd)
  have au:aG=W:=by
   have:=ab;rw[G,(AA:aE=i'/32),(AA:U=i'/32),List.getElem?_set_self AA] at this;exact (Option.some.inj this).symm
  have bq:=nq (p:=t.toNat) (m:=i'%32) aN (by rw[<-s.2,<-au];omega) AA aR AA (by rw[<-s.2];omega);refine AM ?_;intro aF bo;obtain⟨ar,P⟩:=DD (n:=b4) AA;have b9:=P.eq;have bb:=P.lt;refine⟨ar,fun _=>⟨by show _<List.length (α:=UInt32) d;(first | omega | (simp;omega)),DC P⟩,?_⟩;intro (a1:List UInt32) (a2:a1=List.set (α:=UInt32) d aF ar);have bf:a1.length=d.length:=by rw[a2,List.length_set]
  refine AM ?_;intro aq aJ;refine⟨i',?_,?_⟩
  ·omega
  rw[ay];have D:2^i'∣AI o:=Nat.dvd_trans ⟨2,by rw[Nat.pow_succ]⟩ hd
  have F:a1=o:=by
   have e1:ar=t:=UInt32.toNat_inj.1 AA;rw[a2,G,(AA:aF=i'/32),(AA:U=i'/32),List.set_set,e1];exact wb (by rw[(AA:i'/32=Z)];exact H)
  refine⟨a1,m,i',aq,rfl,rfl,⟨by rw[F];exact ho,by rw[F];exact hm,⟨AA⟩,AA⟩,?_,rfl⟩;rw[F];refine⟨D,aA,?_⟩;rw[M] at V;have:=oq V;rw[<-az,s.1,af] at this;exact this
 exact absurd hx.neg (by simp;omega)
def x8 {α:Type} {X Y:List α} {x y:α} (d:X[i]? =some x) (f:Y[i]? =some y) (h:X.take i=Y.take i) (e:x=y):X.take (i+1)=Y.take (i+1):=by
 rw[List.take_add_one,List.take_add_one,d,f,h,e]
def QX (M:BQ x b1 l1) (N:BQ y b2 l2) (J:c=decide (x=y)):CF 307 [.agg (Bu b1 l1),.agg (Bu b2 l2)] (.one (.bool c)):=by
 refine AL Tryz.func307 fun E hE=>?_
 intro Z t;cases Z <;> conv=>cbv
 ·have h:=Qr t;refine Af ?_;rintro ae ⟨O,f14⟩ af ⟨a5,f17⟩;refine HY (fun U=>?_) fun U=>?_
  ·exact AO (by rw[J];exact (decide_eq_false (fun e=>by have s:=((M.iff N).1 e).2;rw[s] at O;omega)))
  refine BX [] [2,3,4,5] [2,3] (fun vs bl k=>∃(k':Nat) (j:Int),vs=[.one (.BU 2 0 0),.one (.BU 3 0 0),.one (.bool false),AH j]/\bl=[.var 0 [.bool b1,.sl .u32 l1],.var 0 [.bool b2,.sl .u32 l2]]/\(AZ j k'/\k'<=l1.length/\l1.length=l2.length/\b1=b2)/\l1.take k'=l2.take k'/\k=l1.length-k') (l1.length-0) ⟨0,0,rfl,rfl,⟨BM 0,AA,AA,h⟩,rfl,rfl⟩ ?_;rintro J0 Q vs bl ad ⟨k',j,rfl,rfl,⟨hj,aa,I,H⟩,hinv,ab⟩;have ej:=hj.eq;refine Af ?_;rintro ag ⟨a6,f23⟩;refine Bi (fun V=>?_) fun V=>?_
  ·exact AO (by rw[J];exact (decide_eq_true ((M.iff N).2 ⟨H,by have s:=hinv;rw[(AA:k'=l1.length),List.take_length,I,List.take_length] at s;exact s⟩)))
  refine .inr ?_;refine BA k' fun aj d=>?_
  refine Af ?_;intro ah D;have a7:=D.eq;have f31:=D.lt;refine BA k' fun ak f=>?_
  refine AM ?_;intro ai F a2 G;have P:=F.eq;have f36:=F.lt;cases a2 <;> conv=>cbv
  ·have W:=Ib G;refine AM ?_;intro a1 a8;exact Bj Q ⟨k'+1,a1,rfl,rfl,⟨⟨AA⟩,AA,I,H⟩,x8 d f hinv (UInt32.toNat_inj.1 AA),rfl⟩
  have W:=Ic G;exact AO (by rw[J];exact (decide_eq_false (fun e=>by have s:=((M.iff N).1 e).2;have h2:=d;rw[s,f] at h2;have h3:=Option.some.inj h2;rw[h3] at P;omega)))
 have h:=Qs t;exact AO (by rw[J];exact (decide_eq_false (fun e=>h ((M.iff N).1 e).1)))
def mQ {q r:Rat} {c1 c2:Bool} {m1 m2:List UInt32} (h:Bn q b1 l1 b2 l2) (hs:Ch q) (J:0<=r) (O:r*r=q) (G:Bn r c1 m1 c2 m2):CF 273 [.agg (CP b1 l1 b2 l2)] (.BI [(true,(CP c1 m1 c2 m2)),(false,[.bool true])]):=by
 have D:=jQ J O;have F:=jP J O;have I:0<=q.num:=by rw[<-D.2,<-D.1];exact Int.mul_nonneg AA AA
 have H:(0:Int)<=(q.den:Int):=AA
 have a5:=h.small hs;obtain⟨P,W,d⟩:=BO (((CH q.num.toNat:Nat):Int));obtain⟨Q,Z,f⟩:=BO (((CH (q.den:Int).toNat:Nat):Int));have M:=NY h.num d;have N:=NY h.den f;refine AL Tryz.func273 fun E t=>?_
 cases b1 <;> conv=>cbv
 ·refine AB t (QS h.num I d AA) ?_;refine AB t (QS h.den H f AA) ?_;obtain⟨U,a1,j⟩:=BO (((CH q.num.toNat:Nat):Int)*((CH q.num.toNat:Nat):Int));refine AB t (E1 d d j AA AA) ?_;refine AB (r:= .one (.bool true)) t (QX j h.num (by rw[D.1];exact (decide_eq_true D.2).symm)) ?_;refine BG ?_;obtain⟨V,a2,s⟩:=BO (((CH (q.den:Int).toNat:Nat):Int)*((CH (q.den:Int).toNat:Nat):Int));refine AB t (E1 f f s AA AA) ?_;refine AB (r:= .one (.bool true)) t (QX s h.den (by rw[F.1];exact (decide_eq_true F.2).symm)) ?_;refine BG ?_;exact AN ⟨⟨rfl,congrArg _ ((d.uniq G.num D.1).1.symm),congrArg _ ((d.uniq G.num D.1).2.symm),congrArg _ ((f.uniq G.den F.1).1.symm),congrArg _ ((f.uniq G.den F.1).2.symm),trivial⟩,t2,trivial⟩
 exact absurd (of_decide_eq_true h.num.neg.symm) AA
def mP {q:Rat} (s:Bn q b1 l1 b2 l2) (hs:Ch q) (hr:¬∃r:Rat,0<=r/\r*r=q):CF 273 [.agg (CP b1 l1 b2 l2)] (.BI [(true,[.bool false,.sl .u32 [],.bool false,.sl .u32 []]),(false,[.bool false])]):=by
 have J:(0:Int)<=(q.den:Int):=AA
 have a8:=s.small hs;obtain⟨Q,Z,d⟩:=BO (((CH q.num.toNat:Nat):Int));obtain⟨U,a1,f⟩:=BO (((CH (q.den:Int).toNat:Nat):Int));have O:=NY s.num d;have P:=NY s.den f;refine AL Tryz.func273 fun E F=>?_
 cases b1 <;> conv=>cbv
 ·have M:0<=q.num:=by have:=of_decide_eq_false s.num.neg.symm;omega
  refine AB F (QS s.num M d AA) ?_;refine AB F (QS s.den J f AA) ?_;obtain⟨V,a2,t⟩:=BO (((CH q.num.toNat:Nat):Int)*((CH q.num.toNat:Nat):Int));refine AB F (E1 d d t AA AA) ?_;obtain⟨a6,h⟩:=xB (decide (((CH q.num.toNat:Nat):Int)*((CH q.num.toNat:Nat):Int)=q.num));refine AB F (QX t s.num h) ?_;refine IH (fun H=>?_) fun H=>?_
  ·exact AN AK
  obtain⟨W,a5,D⟩:=BO (((CH (q.den:Int).toNat:Nat):Int)*((CH (q.den:Int).toNat:Nat):Int));refine AB F (E1 f f D AA AA) ?_;obtain⟨a7,j⟩:=xB (decide (((CH (q.den:Int).toNat:Nat):Int)*((CH (q.den:Int).toNat:Nat):Int)=(q.den:Int)));refine AB F (QX D s.den j) ?_;intro N G;cases N <;> conv=>cbv
  ·have I:=Hp G;exact absurd (jO (of_decide_eq_true (h.symm.trans (by simpa using H))) (of_decide_eq_true (j.symm.trans (by simpa using I)))) hr
  have I:=Hq G;exact AN AK
 exact AN AK
end
section
variable {A:LR} {T:List LR} {q:Rat}
def nP {B:LR} {r:Rat} (N:T=[]) (G:A=[rp q]) (J:B=[rp r]) (P:Ch q) (H:0<=r) (O:r*r=q):CF 224 [BF T,AQ A] (.BI [(false,[AT B]),(false,[.bool true])]):=by
 refine AL Tryz.func224 fun E M=>?_
 rintro Q ⟨F,f31⟩;refine Cw (fun h=>?_) fun h=>?_
 ·exact absurd (by rw[F,N];rfl) h
 have I:A.length=1:=by rw[G];rfl
 refine BA 0 fun U f=>?_
 try conv=>cbv
 obtain⟨t,D,j,s,d⟩:=Ca r;refine AB M (mQ (Ge G f) P H O d) ?_;refine⟨[((t,D),(j,s))],Cj,.inl ?_⟩;try conv=>cbv
 exact AN ⟨⟨rfl,.inl ⟨_,rfl,AS,congrArg _ (by rw[J,d.rp];rfl)⟩,trivial⟩,t2,trivial⟩
def nO {l:LR} (D:T=[]) (j:A=[rp q]) (F:l=[(((false,[]),(false,[])):el AJ)]) (H:Ch q) (G:¬∃r:Rat,0<=r/\r*r=q):CF 224 [BF T,AQ A] (.BI [(false,[AT l]),(false,[.bool false])]):=by
 refine AL Tryz.func224 fun E t=>?_
 rintro I ⟨h,f31⟩;refine Cw (fun f=>?_) fun f=>?_
 ·exact absurd (by rw[h,D];rfl) f
 have s:A.length=1:=by rw[j];rfl
 refine BA 0 fun J d=>?_
 try conv=>cbv
 refine AB t (mP (Ge j d) H G) ?_;refine⟨[((false,[]),(false,[]))],Cj,.inl ?_⟩;try conv=>cbv
 exact AN ⟨⟨rfl,.inl ⟨_,rfl,AS,congrArg _ (by rw[F];rfl)⟩,trivial⟩,t2,trivial⟩
def Yv (R:Nat) (u:AG):Prop:=∀{s:Nat} {x:Re},El u s x->SS u.length R s<=60000000000000->VV u.length R R<=60000000000000->(∃w,In u w/\w*w=x/\J7 u x w)\/(¬Sq u x/\∃l,J6 u x l)
def YC {u:AG} {R:Nat} (h:BT R u):Yv R u:=by
 induction u with
 | nil=>
  intro s x O Z F;obtain⟨q,rfl⟩:=DZ.1 O.mem
  have ak:Ch q:=by
   have:=O.Cy (by have:=Ye ([]:AG).length R s;omega);rw[D5] at this;exact this q List.mem_cons_self
  by_cases hr:∃r:Rat,0<=r/\r*r=q
  ·obtain⟨r,W,hr⟩:=hr;refine .inl ⟨Re.ofRat r,G8 r _,by rw[<-Re.ofRat_mul,hr],?_⟩;intro T A B H G hB;exact nP H (G.trans (E5 q)) (hB.trans (E5 r)) ak W hr
  exact .inr ⟨fun Z=>hr (jI.1 Z),_,fun H G=>nO H (G.trans (E5 q)) rfl ak hr⟩
 | cons r u D=>
  have D:Yv R u:=D h.tail;intro s x O Z F;obtain⟨p,q,d,J,Q⟩:=El.parts h.red O
  by_cases af:x<0
  ·refine .inr ⟨?_,[],fun H G=>nT h H G O d J Q Z F af⟩
   rintro⟨w,_,hw⟩
   have:=Re.Lg w
   clear D;grind
  have M:0<=x:=by clear D;grind
  have aA:TQ u.length R s=3*s+4*EE u.length R+R+GG u.length R+3+II u.length R R:=rfl;have aC:SS u.length R (TQ u.length R s)<=SS (r::u).length R s:=Yd u.length R s;have hQ:∀s',s'<=TQ u.length R s->SS u.length R s'<=60000000000000:=fun s' h'=>Nat.le_trans (QM u.length R h') AA
  have I:VV u.length R R<=60000000000000:=Nat.le_trans (Yi u.length R R) F;have aw:=El.D9 h;have ax:=De h.red
  by_cases W:q=0
  ·have aa:x=p:=by rw[d,W];clear D;grind
   rcases D J (hQ _ AA) I with⟨w,hw,f,hy⟩ |⟨P,l,hn⟩
   ·refine .inl ⟨w,Gb hw,by rw[aa];exact f,?_⟩;intro T A B H G hB;exact nU h H G O d J Q Z F M W hw hy hB
   obtain⟨i,hi,U⟩:=FV h.red.1 (Ci h.red) (by have:=h.red.2.2.1;grind);have aq:=aw.inv h.tail hi U;rcases D (J.mul h.tail aq) (hQ _ AA) I with⟨w,hw,f,hy⟩ |⟨ai,l2,au⟩
   ·refine .inl ⟨w*rt u r,DK.2 ⟨0,w,C0 u,hw,by clear D;grind⟩,?_,?_⟩
    ·have:p=p*(AU u r*i):=by rw[U];clear D;grind
     rw[aa];clear D;grind
    intro T A B H G hB;exact nV h H G O d J Q Z F M W hi U hn hw hy hB
   refine .inr ⟨?_,[],?_⟩
   ·rw[aa,jG h.red J.mem];rintro (h1 |⟨i',aB,aj,h1⟩)
    ·exact P h1
    have:i'=i:=by
     have:i'=i'*(AU u r*i):=by rw[U];clear D;grind
     have h2:i=i*(AU u r*i'):=by rw[aj];clear D;grind
     clear D;grind
    rw[this] at h1;exact ai h1
   intro T A H G;exact nW h H G O d J Q Z F M W hi U hn au
  have hN:=El.norm h J.mem Q.mem (d ▸ O);rcases D hN (hQ _ AA) I with⟨n,hn,N,ao⟩ |⟨P,l,av⟩
  rotate_left
  ·exact .inr ⟨fun hS=>P (jK h.red J.mem Q.mem (d ▸ hS)),[],fun H G=>nQ h H G O d J Q Z F M W av⟩
  have ae:=hN.sqrt h.tail hn N;obtain⟨t,ht⟩:∃t:Re,t=Re.ofRat (1/2):=⟨_,rfl⟩
  have a1:=cQ ht;have a8:El u 1 t:=by rw[ht];exact El.rat h.red.1 Oh
  obtain⟨y,hy⟩:∃y:Nat->Re,y=fun i=>if i=0 then p+n else p-n:=⟨_,rfl⟩
  have a2:y 0=p+n:=by rw[hy];rfl
  have a5:y 1=p-n:=by rw[hy];rfl
  have a6:∀i,El u (s+(2*s+2*EE u.length R+R+1+GG u.length R)+1) (y i):=fun i=>by
   rw[hy]
   show El u _ (if i=0 then p+n else p-n)
   by_cases hi:i=0
   ·rw[if_pos hi];exact J.add h.red.1 ae
   rw[if_neg hi];exact J.sub h.red.1 ae
  have a7:∀(k0:Nat) (L:Nat->LR) (w:Re),k0<2->(∀i,i<k0->J6 u (t*y i) (L i))->In u w->w*w=t*y k0->J7 u (t*y k0) w->
    ∃w,In (r::u) w/\w*w=x/\J7 (r::u) x w:=by
   intro k0 L w hk P hw f V
   have key:∃m,m*m=p*p-q*q*AU u r/\y k0=p+m:=by
    rcases (AA:k0=0\/k0=1) with rfl | rfl
    ·exact⟨n,N,a2⟩
    exact⟨-n,by rw[<-N];clear D;grind,by rw[a5];clear D;grind⟩
   obtain⟨m,ab,an⟩:=key;have az:w≠0:=jF h.red W ab a1 (by rw[f,an]);obtain⟨j,hj,al⟩:=FV h.red.1 hw az;have ay:In u (t*(q*j)):=BL h.red.1 a8.mem (BL h.red.1 Q.mem hj);refine⟨w+t*(q*j)*rt u r,DK.2 ⟨_,_,hw,ay,rfl⟩,?_,?_⟩
   ·rw[d]
    exact jE ab a1 ax (by rw[f,an]) (i:=t*j) (by have:(w+w)*(t*j)=2*t*(w*j):=by clear D;grind
                                                 rw[this,a1,al];clear D;grind) (by clear D;grind)
   intro T A B H G hB;exact nR h H G O d J Q Z F M W hn N ht ao a2 a5 a6 AA P hk hw f V hj al hB
  rcases D (a8.mul h.tail (a6 0)) (hQ _ AA) I with⟨w,hw,f,V⟩ |⟨ag,l0,ad⟩
  ·exact .inl (a7 0 (fun _=>[]) w AA (fun i hi=>AA) hw f V)
  rcases D (a8.mul h.tail (a6 1)) (hQ _ AA) I with⟨w,hw,f,V⟩ |⟨ah,l1,ar⟩
  ·exact .inl (a7 1 (fun _=>l0) w AA (fun i hi=>by rw[(AA:i=0)];exact ad) hw f V)
  refine .inr ⟨fun hS=>?_,[],?_⟩
  ·rcases jL h.red J.mem Q.mem (d ▸ hS) N a1 with e | e
   ·exact ag (by rw[a2];exact e)
   exact ah (by rw[a5];exact e)
  intro T A H G
  exact nS h H G O d J Q Z F M W hn N ht ao a2 a5 a6 (L:=fun i=>if i=0 then l0 else l1) (Nat.le_refl 2) (fun i hi=>by
   rcases (AA:i=0\/i=1) with rfl | rfl
   ·exact ad
   exact ar) rfl
end
section
variable {A:LR} {R:Nat} {T X Y:List LR} {b1 b2 c:Bool} {g:FuncId} {l1 l2:List UInt32} {u w:AG} {x:Re} {xs ys:List Rat}
def VB (p q:Rat):decide (p=q)=(IT p q==0):=by
 rw[Bool.eq_iff_iff,decide_eq_true_eq,beq_iff_eq];unfold IT
 split
 ·rename_i h;exact⟨fun e=>by subst e;grind,fun e=>AA⟩
 split
 ·rename_i h;exact⟨fun e=>by subst e;grind,fun e=>AA⟩
 exact⟨fun _=>rfl,fun _=>by grind⟩
def JE {p q:Rat} (h:rp p=rp q):p=q:=by
 have d:=F6 p;rw[h] at d;have f:=F6 q;have e1:=d.num.nat;have e2:=f.num.nat;have s1:=d.num.Fq;have s2:=f.num.Fq;have d1:=d.den.Fq;have d2:=f.den.Fq;exact Rat.ext (s1.trans s2.symm) (by have:=d1.trans d2.symm;omega)
def gQ (h:BV xs=BV ys):xs=ys:=List.map_inj_right (fun _ _=>JE) |>.1 h
def Gq {α:Type} (p:α->α->Bool):List α->List α->Bool
 | [],[]=>true
 | x::X,y::Y=>p x y&&Gq p X Y
 | _,_=>false
def VX {α:Type} {p:α->α->Bool}:∀{X Y:List α},X.length≠Y.length->Gq p X Y=false
 | [],[],h=>absurd rfl h
 |[],_::_,_|_::_,[],_=>rfl
 | x::X,y::Y,h=>by rw[Gq,VX (X:=X) (Y:=Y) (by simpa using h),Bool.and_false]
def Ri {α:Type} {p:α->α->Bool} {X Y:List α} {i:Nat} {x y:α} (d:X[i]? =some x) (f:Y[i]? =some y):Gq p (X.drop i) (Y.drop i)=(p x y&&Gq p (X.drop (i+1)) (Y.drop (i+1))):=by
 have h:=H6 d;have j:=H6 f;rw[List.drop_eq_getElem_cons h,List.drop_eq_getElem_cons j,Gq];rw[List.getElem?_eq_getElem h] at d;rw[List.getElem?_eq_getElem j] at f;rw[Option.some.inj d,Option.some.inj f]
def VW {α:Type} {p:α->α->Bool}:∀{X Y:List α},(∀x∈X,∀y∈Y,(p x y=true↔x=y))->(Gq p X Y=true↔X=Y)
 |[],[],_|[],_::_,_|_::_,[],_=>by simp[Gq]
 | x::X,y::Y,h=>by
  rw[Gq,Bool.and_eq_true,h x List.mem_cons_self y List.mem_cons_self,VW (fun a ha b hb=>h a (List.mem_cons_of_mem _ ha) b (List.mem_cons_of_mem _ hb))];simp
def vS {p q:Rat} {c1 c2:Bool} {m1 m2:List UInt32} (t:Bn p b1 l1 b2 l2) (D:Bn q c1 m1 c2 m2) (s:Ch p) (ht:Ch q) (j:c=decide (p=q)):CF 291 [.agg (CP b1 l1 b2 l2),.agg (CP c1 m1 c2 m2)] (.one (.bool c)):=by
 refine AL Tryz.func291 fun E h=>?_
 obtain⟨G,d⟩:=xI (IT p q);refine AB h (lN t D s ht d) ?_;intro F f;exact AO (by rw[j,f,d];exact VB p q)
def kl {X Y:LR} {p:el AJ->el AJ->Bool} (hg:∀x∈X,∀y∈Y,CF g [.agg (cells AJ x),.agg (cells AJ y)] (.one (.bool (p x y)))) (Q:c=Gq p X Y):CF 290 [AQ X,AQ Y,.one (.fn g)] (.one (.bool c)):=by
 refine AL Tryz.func290 fun E hE=>?_
 rintro a7 ⟨V,f11⟩ a8 ⟨W,f13⟩;refine HY (fun H=>?_) fun H=>?_
 ·exact AO (by rw[Q];exact VX AA)
 intro M s;have Z:=s.eq;have f16:=s.le;refine BX [] [1,2,15,16,17] [] (fun vs U k=>∃(i':Nat) (L i:Int),vs=[AQ Y,.one (.fn g),AQ X,AH L,AH i]/\(EN L X.length/\AZ i i'/\i'<=X.length)/\c=Gq p (X.drop i') (Y.drop i')/\k=X.length-i') (X.length-0) ⟨0,M,0,rfl,⟨s,BM 0,AA⟩,Q,rfl⟩ ?_;rintro J0 G vs U a6 ⟨i',L,i,rfl,⟨P,hi,a2⟩,hinv,a5⟩;conv=>cbv
 have eL:=P.eq;have ei:=hi.eq;refine Bi (fun I=>?_) fun I=>?_
 ·exact AO (by rw[hinv,List.drop_eq_nil_of_le AA,List.drop_eq_nil_of_le AA];rfl)
 refine .inr ?_;refine BA i' fun t f=>?_
 try conv=>cbv
 refine BA i' fun D h=>?_
 try conv=>cbv
 obtain⟨F,d⟩:=xB (p t D);refine AB (r:= .one (.bool F)) hE ((by rw[d];exact hg t (List.mem_of_getElem? f) D (List.mem_of_getElem? h))) ?_;intro N j;cases N <;> conv=>cbv
 ·have J:=Hp j;refine AM ?_;intro O a1;refine⟨X.length-(i'+1),?_,?_⟩
  ·omega
  rw[G];refine⟨i'+1,L,O,rfl,⟨P,⟨AA⟩,AA⟩,?_,rfl⟩;rw[hinv,Ri f h,<-d,Hp j,Bool.true_and]
 have J:=Hq j;exact AO (by rw[hinv,Ri f h,<-d,Hq j];rfl)
def km {p:LR->LR->Bool} (hg:∀x∈X,∀y∈Y,CF g [AQ x,AQ y] (.one (.bool (p x y)))) (Q:c=Gq p X Y):CF 289 [BF X,BF Y,.one (.fn g)] (.one (.bool c)):=by
 refine AL Tryz.func289 fun E hE=>?_
 rintro a7 ⟨V,f11⟩ a8 ⟨W,f13⟩;refine HY (fun H=>?_) fun H=>?_
 ·exact AO (by rw[Q];exact VX AA)
 intro M s;have Z:=s.eq;have f16:=s.le;refine BX [] [1,2,15,16,17] [] (fun vs U k=>∃(i':Nat) (L i:Int),vs=[BF Y,.one (.fn g),BF X,AH L,AH i]/\(EN L X.length/\AZ i i'/\i'<=X.length)/\c=Gq p (X.drop i') (Y.drop i')/\k=X.length-i') (X.length-0) ⟨0,M,0,rfl,⟨s,BM 0,AA⟩,Q,rfl⟩ ?_;rintro J0 G vs U a6 ⟨i',L,i,rfl,⟨P,hi,a2⟩,hinv,a5⟩;conv=>cbv
 have eL:=P.eq;have ei:=hi.eq;refine Bi (fun I=>?_) fun I=>?_
 ·exact AO (by rw[hinv,List.drop_eq_nil_of_le AA,List.drop_eq_nil_of_le AA];rfl)
 refine .inr ?_;refine BA i' fun t f=>?_
 try conv=>cbv
 refine BA i' fun D h=>?_
 try conv=>cbv
 obtain⟨F,d⟩:=xB (p t D);refine AB (r:= .one (.bool F)) hE ((by rw[d];exact hg t (List.mem_of_getElem? f) D (List.mem_of_getElem? h))) ?_;intro N j;cases N <;> conv=>cbv
 ·have J:=Hp j;refine AM ?_;intro O a1;refine⟨X.length-(i'+1),?_,?_⟩
  ·omega
  rw[G];refine⟨i'+1,L,O,rfl,⟨P,⟨AA⟩,AA⟩,?_,rfl⟩;rw[hinv,Ri f h,<-d,Hp j,Bool.true_and]
 have J:=Hq j;exact AO (by rw[hinv,Ri f h,<-d,Hq j];rfl)
def vV (j:FO xs) (ht:FO ys):∀x∈BV xs,∀y∈BV ys,CF 291 [.agg (cells AJ x),.agg (cells AJ y)] (.one (.bool (decide (x=y)))):=by
 intro x s y t;obtain⟨p,d,rfl⟩:=List.mem_map.1 s;obtain⟨q,f,rfl⟩:=List.mem_map.1 t;refine vS (F6 p) (F6 q) (j p d) (ht q f) ?_
 by_cases h:p=q
 ·subst h;simp
 rw[decide_eq_false h,decide_eq_false (fun e=>h (JE e))]
def S3 {X Y:LR} (j:X=BV xs) (s:Y=BV ys) (D:FO xs) (ht:FO ys) (t:c=decide (X=Y)):CF 247 [AQ X,AQ Y] (.one (.bool c)):=by
 refine AL Tryz.func247 fun E h=>?_
 obtain⟨f,d⟩:=xB (Gq (fun x y=>decide (x=y)) X Y);refine AB (r:= .one (.bool f)) h (kl (by rw[j,s];exact vV D ht) d) ?_;exact AO (by rw[t,d,Bool.eq_iff_iff,decide_eq_true_eq];exact (VW (fun x _ y _=>by rw[decide_eq_true_eq])).symm)
def vT (hu:BT R u) (hw:BT R w) (d:∀x∈X,x∈tw u) (f:∀y∈Y,y∈tw w):∀x∈X,∀y∈Y,CF 247 [AQ x,AQ y] (.one (.bool (decide (x=y)))):=by
 intro x s y t;obtain⟨p,h,rfl⟩:=List.mem_map.1 (d x s);obtain⟨q,j,rfl⟩:=List.mem_map.1 (f y t);exact S3 rfl rfl ((hu.tb p (List.mem_reverse.1 h)).Cy hu.hR) ((hw.tb q (List.mem_reverse.1 j)).Cy hw.hR) rfl
def Zx (hu:BT R u) (hw:BT R w) (J:X=tw u) (M:Y=tw w) (t:c=(decide (Y.length<=X.length)&&decide (X.take Y.length=Y))):CF 246 [BF X,BF Y] (.one (.bool c)):=by
 refine AL Tryz.func246 fun E I=>?_
 rintro W ⟨U,f6⟩ Z ⟨V,f8⟩;refine kN (fun O=>?_) fun O=>?_
 ·exact AO (by rw[t,decide_eq_false (AA:¬Y.length<=X.length),Bool.false_and])
 rintro Q ⟨H,f13⟩ P D h s j f;obtain⟨G,d⟩:=xB (Gq (fun x y=>decide (x=y)) j Y);refine AB I (km (vT hu hw (fun x F=>by rw[f,List.drop_zero] at F;rw[<-J];exact List.mem_of_mem_take F) (fun y N=>by rw[<-M];exact N)) d) ?_;exact AO (by rw[t,decide_eq_true (AA:Y.length<=X.length),Bool.true_and,d,f,List.drop_zero,(AA:h=Y.length),Bool.eq_iff_iff,decide_eq_true_eq];exact (VW (fun x _ y _=>by rw[decide_eq_true_eq])).symm)
def OB (h:tw u=tw w):u=w:=by
 have d:=(List.map_inj_right (fun _ _=>gQ)).1 h;exact List.reverse_inj.1 d
def Xs:w<:+u↔((tw w).length<=(tw u).length/\(tw u).take (tw w).length=tw w):=by
 constructor
 ·rintro⟨v,rfl⟩
  have e:tw (v++w)=tw w++tw v:=by rw[tw,tw,tw,List.reverse_append,List.map_append]
  rw[e];exact⟨AS,List.take_left⟩
 rintro⟨f,d⟩
 rw[Cq,Cq] at f;rw[Cq,KT] at d;rw[<-OB d];exact List.drop_suffix _ _
def oO (hu:BT R u) (hw:BT R w) (d:X=tw u) (f:Y=tw w) (h:w<:+u):CF 246 [BF X,BF Y] (.one (.bool true)):=
 Zx hu hw d f (by have:=Xs.1 h;rw[d,f,decide_eq_true this.1,decide_eq_true this.2];rfl)
def oN (hu:BT R u) (hw:BT R w) (f:X=tw u) (j:Y=tw w) (h:¬w<:+u):CF 246 [BF X,BF Y] (.one (.bool false)):=
 Zx hu hw f j (by
  by_cases d:Y.length<=X.length
  ·rw[decide_eq_true d,decide_eq_false (fun s=>h (Xs.2 (by rw[<-f,<-j];exact⟨d,s⟩)))];rfl
  rw[decide_eq_false d];rfl)
def aT {q:Rat} (j:Bn q b1 l1 b2 l2) (f:Ch q):CF 184 [.agg (CP b1 l1 b2 l2)] (.agg (CP b1 l1 b2 l2)):=by
 have h:=j.small f;refine AL Tryz.func184 fun E d=>?_
 refine AB d (Mt rfl AA) ?_;refine AB d (Mt rfl AA) ?_;exact AN AK
def VK {X:LR} (V:X=BV xs) (hs:FO xs) (hn:xs.length<=1000000):CF 206 [AQ X] (AQ X):=by
 have a5:X.length=xs.length:=by rw[V,List.length_map]
 refine AL Tryz.func206 fun E hE=>?_
 rintro n7 ⟨e7,f7⟩;refine⟨fun _=>⟨AA,AA,by show _*64<=140737488355328;omega⟩,?_⟩;intro J (M:LR) t;have a8:=t.1;have G:M=List.replicate J (((false,[]),(false,[])):el AJ):=t.2;have a1:M.length=J:=by rw[G,List.length_replicate]
 refine Af ?_;intro N h;have Z:=h.eq;have f10:=h.le;refine BX [] [3,9,10,11] [8] (fun vs P k=>∃(o:LR) (m i':Nat) (L i:Int),vs=[.one (.Aj AJ 8 0 0 m),AQ X,AH L,AH i]/\P=[.arr 0 AJ o]/\(o.length=X.length/\m=X.length/\EN L X.length/\AZ i i'/\i'<=X.length)/\o.take i'=X.take i'/\k=X.length-i') (X.length-0) ⟨M,J,0,N,0,rfl,rfl,⟨AA,AA,h,BM 0,AA⟩,rfl,rfl⟩ ?_;rintro J0 F vs P ab ⟨o,m,i',L,i,rfl,rfl,⟨ho,hm,U,hi,a6⟩,hinv,a7⟩;conv=>cbv
 have eL:=U.eq;have ei:=hi.eq;refine Bi (fun I=>?_) fun I=>?_
 ·exact AN ⟨⟨rfl,.inl ⟨_,rfl,AA,congrArg _ (by rw[hm,List.drop_zero];rw[(AA:i'=X.length)] at hinv;rw[hinv,List.take_length])⟩,trivial⟩,trivial⟩
 refine .inr ?_;refine BA i' fun D f=>?_
 try conv=>cbv
 obtain⟨q,hq,aa,H⟩:=KK V hs f;refine AB hE (aT hq H) ?_;intro s W;refine⟨D,fun _=>⟨by show _<List.length (α:=(el AJ)) o;(first | omega | (simp;omega)),t4⟩,?_⟩;intro (j:LR) (d:j=List.set (α:=(el AJ)) o s D);have Q:j.length=o.length:=by rw[d,List.length_set]
 refine AM ?_;intro O a2;refine⟨X.length-(i'+1),?_,?_⟩
 ·omega
 rw[F];refine⟨j,m,i'+1,L,O,rfl,rfl,⟨AA,AA,U,⟨AA⟩,AA⟩,?_,rfl⟩;rw[d,(AA:s=i'),TL AA,hinv,<-EM f]
def RH {s:Nat} (h:BT R u) (hT:T=tw u) (hA:A=em u x) (hx:El u s x) (hs:s<=60000000000000:=by omega):CF 152 [.agg (AY T A)] (.agg (AY T A)):=by
 have a7:T.length=u.length:=by rw[hT,Cq]
 have a8:=h.ht;refine AL Tryz.func152 fun E hE=>?_
 refine AB (r:= .one (AT A)) hE (VK hA (hx.Cy hs) (by rw[hx.len];exact LU h.ht)) ?_;intro a5 G;have a6:=G.eq;have f12:=G.le;refine .inr ?_;obtain⟨J0,t⟩:=xJ fun vs V k=>(∃(L i:Int),vs=[.one (.BU 2 0 0),.one (.BU 3 0 0),BF T,AH L,AH i]/\V=[.var 0 [.nil,.nil],.var 0 [.nil,AT A],.dead 0]/\(EN L T.length/\AZ i 0)/\k=T.length)\/(∃(o:List LR) (mm i':Nat) (L i:Int),vs=[.one (.BU 2 0 0),.one (.BU 3 0 0),BF T,AH L,AH i]/\V=[.var 0 [.nil,.nil],.var 0 [.Aj (.sl AJ) 22 0 0 mm,AT A],.arr 0 (.sl AJ) o]/\(EN L T.length/\AZ i i'/\i'<=T.length/\mm=o.length)/\o=T.take i'/\k=T.length-i')
 refine⟨[],[2,3,11,12,13],[2,3,22],J0,⟨T.length,by rw[t];exact .inl ⟨a5,0,rfl,rfl,⟨G,BM 0⟩,rfl⟩⟩,?_⟩;intro vs V ad hj;rw[t] at hj;rcases hj with⟨L,i,rfl,rfl,⟨O,hi⟩,a2⟩ |⟨o,mm,i',L,i,rfl,rfl,⟨O,hi,aa,Q⟩,hinv,a2⟩
 ·conv=>cbv
  have eL:=O.eq;have ei:=hi.eq;obtain⟨i',a1⟩:=xN 0;refine Bi (fun J=>?_) fun J=>?_
  ·exact AN ⟨⟨rfl,.inr (.inl ⟨_,congrArg _ (List.eq_nil_of_length_eq_zero AA)⟩),rfl,trivial⟩,trivial⟩
  refine .inr ?_;refine BA i' fun d f=>?_
  try conv=>cbv
  obtain⟨y,H,j⟩:=MG hT f;have I:y∈u:=List.mem_reverse.1 (List.mem_of_getElem? j);refine AB (r:= .one (AT d)) hE (VK H ((h.tb y I).Cy h.hR) (by rw[Nx h.red _ y j];exact LU)) ?_;refine⟨[d],Cj,.inr ?_⟩;try conv=>cbv
  refine .inl ⟨[d],fun _=>⟨rfl,Ck (1) 24⟩,?_⟩;refine AM ?_;intro D W N Z;refine⟨T.length-(i'+1),?_,?_⟩
  ·omega
  rw[t];exact .inr ⟨[d],D,i'+1,L,N,rfl,rfl,⟨O,⟨AA⟩,AA,W⟩,by rw[EM f,a1];rfl,rfl⟩
 conv=>cbv
 have eL:=O.eq;have ei:=hi.eq;refine Bi (fun J=>?_) fun J=>?_
 ·exact AN ⟨⟨rfl,.inl ⟨_,rfl,AA,congrArg _ (by rw[Q,hinv,List.drop_zero,List.take_length,(AA:i'=T.length),List.take_length])⟩,rfl,trivial⟩,trivial⟩
 refine .inr ?_;refine BA i' fun d f=>?_
 try conv=>cbv
 obtain⟨y,H,j⟩:=MG hT f;have I:y∈u:=List.mem_reverse.1 (List.mem_of_getElem? j);refine AB (r:= .one (AT d)) hE (VK H ((h.tb y I).Cy h.hR) (by rw[Nx h.red _ y j];exact LU)) ?_;refine⟨[d],Cj,.inr ?_⟩;try conv=>cbv
 have ab:o.length<=T.length:=by rw[hinv,List.length_take];omega
 refine .inl ⟨[d],fun _=>⟨rfl,Q,rfl,Ck (o.length+1) 24⟩,?_⟩;intro (M:List (el (.sl AJ))) D F;have P:M=(o:List (el (.sl AJ)))++([d]:List (el (.sl AJ))):=F.1;have U:D=List.length (α:=(el (.sl AJ))) M:=F.2;refine AM ?_;intro N Z;refine⟨T.length-(i'+1),?_,?_⟩
 ·omega
 rw[t];exact .inr ⟨M,D,i'+1,L,N,rfl,rfl,⟨O,⟨AA⟩,AA,U⟩,by rw[P,hinv,EM f],rfl⟩
def XD {C:LR} (h:BT R w) (hT:T=tw w) (hA:A=em u x) (hx:In u x) (hu:u<:+w) (hC:C=em w x):CF 251 [BF T,AQ A] (AQ C):=by
 have V:T.length=w.length:=by rw[hT,Cq]
 have a7:=h.ht;have a6:A.length=2^u.length:=by rw[hA,B9 hx]
 have Z:=hu.length_le;have hle:2^u.length<=2^w.length:=DF Z;have a5:=Ea h.ht;have N:=bH hu h.red hx;refine AL Tryz.func251 fun E hE=>?_
 obtain⟨an,I⟩:=xN A.length;refine AB hE (YH AA I) ?_;refine BX [] [0,5] [7] (fun vs bl k=>∃(o:LR) (mm j:Nat),vs=[BF T,.one (.Aj AJ 7 0 0 mm)]/\bl=[.arr 0 AJ o]/\(mm=o.length/\o.length=2^u.length+j/\o.length<=2^w.length)/\o=A++List.replicate j (rp 0)/\k=2^w.length-o.length) (2^w.length-A.length) ⟨A,an,0,rfl,rfl,⟨I,AA,AA⟩,AS,rfl⟩ ?_;rintro J0 U vs bl ad ⟨o,mm,j,rfl,rfl,⟨J,aa,ab⟩,hinv,a8⟩;conv=>cbv
 intro n9 h9;have e9:=h9.eq;refine AM ?_;rintro ae ⟨P,f11⟩ af Q;have a2:=(Gf Q (P.trans (congrArg _ V))).eq;refine Bi (fun a1=>?_) fun a1=>?_
 ·exact AN ⟨⟨rfl,.inl ⟨_,rfl,AA,congrArg _ (by rw[hC,J,List.drop_zero,List.take_length,hinv,N,hA,(AA:j=2^w.length-2^u.length)])⟩,trivial⟩,trivial⟩
 refine .inr ?_;obtain⟨s,t,d,f,G⟩:=Ca (((0:Int):Rat));refine AB hE (JR AA rfl G) ?_;refine⟨[((s,t),(d,f))],Cj,.inr ?_⟩;try conv=>cbv
 refine .inl ⟨[((s,t),(d,f))],fun _=>⟨rfl,J,rfl,Ck (o.length+1) 64⟩,?_⟩;intro (D:LR) O H;have F:D=(o:LR)++([((s,t),(d,f))]:LR):=H.1;have M:O=List.length (α:=(el AJ)) D:=H.2;conv=>cbv
 have W:D.length=o.length+1:=by rw[F];simp
 exact Bj U ⟨D,O,j+1,rfl,rfl,⟨M,AA,AA⟩,by rw[F,hinv,List.replicate_succ',List.append_assoc,<-G.rp];rfl,rfl⟩
end
section
def HJ (w:AG) (RL:List LR):AG->Prop
 | []=>True
 | r::u=>HJ w RL u/\∃wk,wk<:+w/\In wk (rt u r)/\RL[u.length]? =some (em wk (rt u r))
variable {A C:LR} {K R S a k mm n:Nat} {RL T:List LR} {TT:AG->Prop} {p q x:Re} {r:List Rat} {u w:AG}
def HJ.mono {w':AG} {X:List LR} (h:w<:+w'):∀{u:AG},HJ w RL u->HJ w' (RL++X) u
 | [],_=>trivial
 | r::u,⟨f,s,j,h3,d⟩=>⟨f.mono h,s,j.trans h,h3,by rw[List.getElem?_append_left (H6 d)];exact d⟩
noncomputable def GD (t:AG):AG->List LR
 | []=>[]
 | r::u=>GD t u++[em (ext t (r::u)) (rt u r)]
def Pp (t:AG):∀u,(GD t u).length=u.length
 | []=>rfl
 | r::u=>by rw[GD,List.length_append,Pp t u];rfl
def Pq {t:AG} (ht:BE t):∀{u:AG},BE u->HJ (ext t u) (GD t u) u
 | [],_=>trivial
 | r::u,hu=>by
  refine⟨(Pq ht hu.1).mono (Qi _ _),ext t (r::u),List.suffix_refl _,(KX ht hu).2.root,?_⟩;rw[GD,List.getElem?_append_right (by rw[Pp];omega),Pp,Nat.sub_self];rfl
def Va {t:AG} (ht:BE t):∀{u:AG},BE u->Br u t->ext t u=t
 | [],_,_=>rfl
 | r::u,hu,h=>by
  rw[ext,Va ht hu.1 h.tail];exact FF ⟨rt u r,h.root,De hu⟩
def UI (f:FuncId) (S:Nat) (w u:AG):Prop:=∀{T RL:List LR} {A C:LR} {x:Re},T=tw w->HJ w RL u->A=em u x->El u S x->C=em w x->
 CF f [.agg [Ao T,Ao RL],AQ A] (AQ C)
def UJ (f:FuncId) (S:Nat) (w u:AG):Prop:=∀{T RL:List LR} {A C:LR} {x:Re} {mm:Nat},T=tw w->HJ w RL u->mm=RL.length->A=em u x->El u S x->C=em w x->
 Cz Tryz.prog f [.agg [Ao T,.Aj (.sl AJ) 0 0 0 mm],AQ A] (.arr 0 (.sl AJ) RL) (AQ C)
def fg {b:Nat}:2^a<2^b↔a<b:=Nat.pow_lt_pow_iff_right AD
def Na (ha:a=2^n+2^n) (h:2^(k+1)<a):k<n:=by
 have d:a=2^(n+1):=by rw[ha,Nat.pow_succ];omega
 rw[d,fg] at h;omega
def NZ (ha:a=2^n+2^n) (h:¬2^(k+1)<a):n<=k:=by
 have d:a=2^(n+1):=by rw[ha,Nat.pow_succ];omega
 rw[d,fg] at h;omega
def q9 {u:AG} {x:Re} (G:Gam TT R K S) (hw:TT w) (H:T=tw w) {q:Rat} (s:A=em [] (Re.ofRat q)) (I:Ch q) (D:C=em w (Re.ofRat q)):CF 282 [.agg [Ao T,Ao RL],AQ A] (AQ C):=by
 have d:A=[rp q]:=s.trans (E5 q);have t:A.length=1:=by rw[d];rfl
 refine AL Tryz.func282 fun E F=>?_
 rintro J ⟨j,f10⟩;refine Cw (fun h=>?_) fun h=>?_
 ·exact absurd h AA
 refine BA 0 fun M f=>?_
 try conv=>cbv
 refine AB F (Ls (G.BW hw) H (Ge d f) I D) ?_;exact AN ⟨t2,trivial⟩
def rB (G:Gam TT R K S) (hw:TT w) (hT:T=tw w) (hu:TT (r::u)) (V:Br (r::u) w) (ih:UI 282 S w u) (hR:HJ w RL (r::u)) (U:A=em (r::u) x) (hx:El (r::u) S x) (s:x=p+q*rt u r) (hp:El u S p) (hq:El u S q) (h0:q=0) (hC:C=em w x):CF 282 [.agg [Ao T,Ao RL],AQ A] (AQ C):=by
 have j:=(G.BW hu).red;have t:A.length=2^u.length+2^u.length:=by rw[U,B9 hx.mem,Cc]
 have aA:=D7 u.length;have ax:(r::u).length<=8:=G.ht hu;have ag:(r::u).length=u.length+1:=rfl;have hmul:=G.mul hw;have a6:El w K (rt u r):=by have:=G.Cr hu hw V (Kz j);rwa [Nat.zero_add] at this
 obtain⟨wk,aB,ai,a1⟩:=hR.2;obtain⟨rk,a5⟩:=xR (em wk (rt u r));rw[<-a5] at a1;refine AL Tryz.func282 fun E hE=>?_
 rintro aE ⟨al,f10⟩;refine BY (fun M=>?_) fun M=>?_
 ·exact absurd M AA
 rintro aF ⟨an,f19⟩ ab au;refine BX [] [1,2,5,6] [2] (fun vs bl k=>∃(k':Nat) (N kk:Int),vs=[AQ A,.one (.BU 2 0 0),AH N,AH kk]/\bl=[.var 0 [Ao T,Ao RL]]/\(AZ N (A.length/2)/\AZ kk k'/\k'<=u.length)/\k=u.length-k') (u.length-0) ⟨0,ab,0,rfl,rfl,⟨⟨AA⟩,BM 0,AA⟩,rfl⟩ ?_;rintro J0 W vs bl aC ⟨k',N,kk,rfl,rfl,⟨D,Z,az⟩,ay⟩;have aq:=D.eq;have ar:=Z.eq;refine AM ?_;rintro aG av aH Q aI ⟨ao,f25⟩;have aj:=(Gf (k:=k'+1) Q AA).eq;refine Dk (fun a7=>?_) fun a7=>?_
 ·refine .inr ?_;have a2:k'<u.length:=Na t (AA:2^(k'+1)<A.length);refine AM ?_;intro ad aw;exact Bj W ⟨k'+1,N,ad,rfl,rfl,⟨D,⟨AA⟩,AA⟩,rfl⟩
 have a2:k'=u.length:=by have:=NZ t (AA:¬2^(k'+1)<A.length);omega
 refine AM ?_;intro m32 ah P af a8 H;have f:a8=em u p:=by rw[H,List.drop_zero,(AA:P=A.length/2),U,DX j hp.mem hq.mem s]
 obtain⟨aJ,d⟩:=xR (em w (p));refine AB hE (ih hT hR.1 f hp d) ?_;rintro aD J O ak ⟨ae,F⟩ aa I;have h:aa=em u q:=by rw[I,(AA:O=A.length/2),F,J,List.take_length,U,DE j hp.mem hq.mem s]
 refine AB hE (L3 (G.BW (G.sub hu)).red hq.mem h h0) ?_;exact AO (by rw[hC,d];congr 1;rw[s,h0];clear ih;grind)
def rA (G:Gam TT R K S) (hw:TT w) (U:T=tw w) (hu:TT (r::u)) (f:Br (r::u) w) (ih:UI 282 S w u) (hR:HJ w RL (r::u)) (hA:A=em (r::u) x) (hx:El (r::u) S x) (j:x=p+q*rt u r) (hp:El u S p) (M:El u S q) (h0:q≠0) (hC:C=em w x):CF 282 [.agg [Ao T,Ao RL],AQ A] (AQ C):=by
 have h:=(G.BW hu).red;have O:A.length=2^u.length+2^u.length:=by rw[hA,B9 hx.mem,Cc]
 have aN:=D7 u.length;have aK:(r::u).length<=8:=G.ht hu;have ax:(r::u).length=u.length+1:=rfl;have hmul:=G.mul hw;have d:El w K (rt u r):=by have:=G.Cr hu hw f (Kz h);rwa [Nat.zero_add] at this
 obtain⟨wk,aj,a7,Q⟩:=hR.2;obtain⟨rk,a8⟩:=xR (em wk (rt u r));rw[<-a8] at Q;refine AL Tryz.func282 fun E N=>?_
 rintro aR ⟨aC,f10⟩;refine BY (fun aa=>?_) fun aa=>?_
 ·exact absurd aa AA
 rintro aS ⟨aD,f19⟩ aq aH;refine BX [] [1,2,5,6] [2] (fun vs bl k=>∃(k':Nat) (hv kk:Int),vs=[AQ A,.one (.BU 2 0 0),AH hv,AH kk]/\bl=[.var 0 [Ao T,Ao RL]]/\(AZ hv (A.length/2)/\AZ kk k'/\k'<=u.length)/\k=u.length-k') (u.length-0) ⟨0,aq,0,rfl,rfl,⟨⟨AA⟩,BM 0,AA⟩,rfl⟩ ?_;rintro J0 ag vs bl aO ⟨k',hv,kk,rfl,rfl,⟨P,ah,aM⟩,aL⟩;have aF:=P.eq;have aG:=ah.eq;refine AM ?_;rintro aT aI aU af aV ⟨aE,f25⟩;have az:=(Gf (k:=k'+1) af AA).eq;refine Dk (fun ak=>?_) fun ak=>?_
 ·refine .inr ?_;have ai:k'<u.length:=Na O (AA:2^(k'+1)<A.length);refine AM ?_;intro ar aJ;exact Bj ag ⟨k'+1,hv,ar,rfl,rfl,⟨P,⟨AA⟩,AA⟩,rfl⟩
 have ai:k'=u.length:=by have:=NZ O (AA:¬2^(k'+1)<A.length);omega
 refine AM ?_;intro m32 ay ae aw al Z;have H:al=em u p:=by rw[Z,List.drop_zero,(AA:ae=A.length/2),hA,DX h hp.mem M.mem j]
 obtain⟨aW,s⟩:=xR (em w (p));refine AB N (ih U hR.1 H hp s) ?_;rintro aP a5 ab aA ⟨au,V⟩ an a1;have I:an=em u q:=by rw[a1,(AA:ab=A.length/2),V,a5,List.take_length,hA,DE h hp.mem M.mem j]
 refine AB N (J9 (G.BW (G.sub hu)).red M.mem I h0) ?_;rintro aQ a6 ad aB ⟨av,W⟩ ao a2;have J:ao=em u q:=by rw[a2,(AA:ad=A.length/2),W,a6,List.take_length,hA,DE h hp.mem M.mem j]
 obtain⟨aX,t⟩:=xR (em w (q));refine AB N (ih U hR.1 J M t) ?_;refine CJ Q ?_;obtain⟨aY,D⟩:=xR (em w (rt u r));refine AB N (XD (G.BW hw) U a8 a7 aj D) ?_;obtain⟨aZ,F⟩:=xR (em w (q*rt u r));refine AB N (JP (G.BW hw) U t D (G.Cr (G.sub hu) hw f.tail M) d AA F) ?_;refine AB (r:= .one (AT C)) N (Mr (G.BW hw) U s F (G.Cr (G.sub hu) hw f.tail hp) ((G.Cr (G.sub hu) hw f.tail M).mul (G.BW hw) d) AA AA (by rw[hC,j])) ?_;exact AN ⟨t2,trivial⟩
def rC {u:AG} {x:Re} (I:mm=RL.length) (G:Gam TT R K S) (hw:TT w) (H:T=tw w) {q:Rat} (s:A=em [] (Re.ofRat q)) (J:Ch q) (D:C=em w (Re.ofRat q)):Cz Tryz.prog 282 [.agg [Ao T,.Aj (.sl AJ) 0 0 0 mm],AQ A] (.arr 0 (.sl AJ) RL) (AQ C):=by
 have d:A=[rp q]:=s.trans (E5 q);have t:A.length=1:=by rw[d];rfl
 refine DW Tryz.func282 fun E F=>?_
 refine Af ?_;rintro M ⟨j,f10⟩;refine Cw (fun h=>?_) fun h=>?_
 ·exact absurd h AA
 refine BA 0 fun N f=>?_
 try conv=>cbv
 refine AB F (Ls (G.BW hw) H (Ge d f) J D) ?_;refine AK
def rE (a6:mm=RL.length) (G:Gam TT R K S) (hw:TT w) (hT:T=tw w) (hu:TT (r::u)) (W:Br (r::u) w) (ih:UJ 282 S w u) (hR:HJ w RL (r::u)) (V:A=em (r::u) x) (hx:El (r::u) S x) (s:x=p+q*rt u r) (hp:El u S p) (hq:El u S q) (h0:q=0) (hC:C=em w x):Cz Tryz.prog 282 [.agg [Ao T,.Aj (.sl AJ) 0 0 0 mm],AQ A] (.arr 0 (.sl AJ) RL) (AQ C):=by
 have j:=(G.BW hu).red;have t:A.length=2^u.length+2^u.length:=by rw[V,B9 hx.mem,Cc]
 have aC:=D7 u.length;have az:(r::u).length<=8:=G.ht hu;have ai:(r::u).length=u.length+1:=rfl;have hmul:=G.mul hw;have a8:El w K (rt u r):=by have:=G.Cr hu hw W (Kz j);rwa [Nat.zero_add] at this
 obtain⟨wk,aD,ak,a2⟩:=hR.2;obtain⟨rk,a7⟩:=xR (em wk (rt u r));rw[<-a7] at a2;refine DW Tryz.func282 fun E hE=>?_
 refine Af ?_;rintro aG ⟨ao,f10⟩;refine BY (fun M=>?_) fun M=>?_
 ·exact absurd M AA
 rintro aH ⟨aq,f19⟩ ad aw;refine BX [] [1,2,5,6] [0,2] (fun vs bl k=>∃(k':Nat) (O kk:Int),vs=[AQ A,.one (.BU 2 0 0),AH O,AH kk]/\bl=[.arr 0 (.sl AJ) RL,.var 0 [Ao T,.Aj (.sl AJ) 0 0 0 mm]]/\(AZ O (A.length/2)/\AZ kk k'/\k'<=u.length)/\k=u.length-k') (u.length-0) ⟨0,ad,0,rfl,rfl,⟨⟨AA⟩,BM 0,AA⟩,rfl⟩ ?_;rintro J0 Z vs bl aE ⟨k',O,kk,rfl,rfl,⟨D,a1,aB⟩,aA⟩;have au:=D.eq;have av:=a1.eq;refine AM ?_;rintro aI ax aJ U aK ⟨ar,f25⟩;have al:=(Gf (k:=k'+1) U AA).eq;refine Dk (fun aa=>?_) fun aa=>?_
 ·refine .inr ?_;have a5:k'<u.length:=Na t (AA:2^(k'+1)<A.length);refine AM ?_;intro ae ay;exact Bj Z ⟨k'+1,O,ae,rfl,rfl,⟨D,⟨AA⟩,AA⟩,rfl⟩
 have a5:k'=u.length:=by have:=NZ t (AA:¬2^(k'+1)<A.length);omega
 refine AM ?_;intro m32 aj Q ah N H;have f:N=em u p:=by rw[H,List.drop_zero,(AA:Q=A.length/2),V,DX j hp.mem hq.mem s]
 obtain⟨af,d⟩:=xR (em w (p));refine .inr (.inr (.inl ⟨0,.arr 0 (.sl AJ) RL,[.agg [Ao T,.Aj (.sl AJ) 0 0 0 mm],AQ N],AQ af,AK,fun _=>G3 hE (ih hT hR.1 a6 f hp d),?_⟩));refine AM ?_;rintro aF J P an ⟨ag,F⟩ ab I;have h:ab=em u q:=by rw[I,(AA:P=A.length/2),F,J,List.take_length,V,DE j hp.mem hq.mem s]
 refine AB hE (L3 (G.BW (G.sub hu)).red hq.mem h h0) ?_;refine fun _=>⟨⟨⟨⟨rfl,congrArg _ (by rw[hC,d];congr 1;rw[s,h0];clear ih;grind),trivial⟩,trivial⟩,rfl,AS⟩,rfl⟩
def rD (ab:mm=RL.length) (G:Gam TT R K S) (hw:TT w) (hT:T=tw w) (hu:TT (r::u)) (f:Br (r::u) w) (ih:UJ 282 S w u) (hR:HJ w RL (r::u)) (hA:A=em (r::u) x) (hx:El (r::u) S x) (t:x=p+q*rt u r) (hp:El u S p) (P:El u S q) (h0:q≠0) (hC:C=em w x):Cz Tryz.prog 282 [.agg [Ao T,.Aj (.sl AJ) 0 0 0 mm],AQ A] (.arr 0 (.sl AJ) RL) (AQ C):=by
 have s:=(G.BW hu).red;have W:A.length=2^u.length+2^u.length:=by rw[hA,B9 hx.mem,Cc]
 have aU:=D7 u.length;have aR:(r::u).length<=8:=G.ht hu;have aD:(r::u).length=u.length+1:=rfl;have hmul:=G.mul hw;have d:El w K (rt u r):=by have:=G.Cr hu hw f (Kz s);rwa [Nat.zero_add] at this
 obtain⟨wk,ar,ad,h⟩:=hR.2;obtain⟨rk,j⟩:=xR (em wk (rt u r));rw[<-j] at h;refine DW Tryz.func282 fun E V=>?_
 refine Af ?_;rintro aY ⟨aJ,f10⟩;refine BY (fun af=>?_) fun af=>?_
 ·exact absurd af AA
 rintro aZ ⟨aK,f19⟩ aw aO;refine BX [] [1,2,5,6] [0,2] (fun vs bl k=>∃(k':Nat) (hv kk:Int),vs=[AQ A,.one (.BU 2 0 0),AH hv,AH kk]/\bl=[.arr 0 (.sl AJ) RL,.var 0 [Ao T,.Aj (.sl AJ) 0 0 0 mm]]/\(AZ hv (A.length/2)/\AZ kk k'/\k'<=u.length)/\k=u.length-k') (u.length-0) ⟨0,aw,0,rfl,rfl,⟨⟨AA⟩,BM 0,AA⟩,rfl⟩ ?_;rintro J0 an vs bl aV ⟨k',hv,kk,rfl,rfl,⟨Z,ao,aT⟩,aS⟩;have aM:=Z.eq;have aN:=ao.eq;refine AM ?_;rintro b0 aP b3 al b4 ⟨aL,f25⟩;have aG:=(Gf (k:=k'+1) al AA).eq;refine Dk (fun au=>?_) fun au=>?_
 ·refine .inr ?_;have aq:k'<u.length:=Na W (AA:2^(k'+1)<A.length);refine AM ?_;intro ax aQ;exact Bj an ⟨k'+1,hv,ax,rfl,rfl,⟨Z,⟨AA⟩,AA⟩,rfl⟩
 have aq:k'=u.length:=by have:=NZ W (AA:¬2^(k'+1)<A.length);omega
 refine AM ?_;intro m32 aF ak aC ag a5;have M:ag=em u p:=by rw[a5,List.drop_zero,(AA:ak=A.length/2),hA,DX s hp.mem P.mem t]
 obtain⟨ay,D⟩:=xR (em w (p));refine .inr (.inr (.inl ⟨0,.arr 0 (.sl AJ) RL,[.agg [Ao T,.Aj (.sl AJ) 0 0 0 mm],AQ ag],AQ ay,AK,fun _=>G3 V (ih hT hR.1 ab M hp D),?_⟩));refine AM ?_;rintro aW a8 ai aH ⟨aA,a1⟩ av a6;have N:av=em u q:=by rw[a6,(AA:ai=A.length/2),a1,a8,List.take_length,hA,DE s hp.mem P.mem t]
 refine AB V (J9 (G.BW (G.sub hu)).red P.mem N h0) ?_;rintro aX aa aj aI ⟨aB,a2⟩ ah a7;have O:ah=em u q:=by rw[a7,(AA:aj=A.length/2),a2,aa,List.take_length,hA,DE s hp.mem P.mem t]
 obtain⟨az,F⟩:=xR (em w (q));refine .inr (.inr (.inl ⟨0,.arr 0 (.sl AJ) RL,[.agg [Ao T,.Aj (.sl AJ) 0 0 0 mm],AQ ah],AQ az,AK,fun _=>G3 V (ih hT hR.1 ab O P F),?_⟩));try conv=>cbv
 refine⟨fun _=>⟨AA,by have:=H6 h;omega⟩,?_⟩;intro ae aE;conv=>cbv
 obtain⟨U,J⟩:=CE (l:=RL) (i:=ae) (by have:=H6 h;omega);refine⟨U,fun _=>J,?_⟩;try conv=>cbv
 have Q:U=rk:=by have:=J;rw[(AA:ae=u.length),h] at this;exact (Option.some.inj this).symm
 have j:U=em wk (rt u r):=Q.trans j;obtain⟨b5,H⟩:=xR (em w (rt u r));refine AB V (XD (G.BW hw) hT j ad ar H) ?_;obtain⟨b6,I⟩:=xR (em w (q*rt u r));refine AB V (JP (G.BW hw) hT F H (G.Cr (G.sub hu) hw f.tail P) d AA I) ?_;refine AB (r:= .one (AT C)) V (Mr (G.BW hw) hT D I (G.Cr (G.sub hu) hw f.tail hp) ((G.Cr (G.sub hu) hw f.tail P).mul (G.BW hw) d) AA AA (by rw[hC,t])) ?_;refine AK
def ca (G:Gam TT R K S) (hw:TT w):∀{u:AG},TT u->Br u w->UI 282 S w u:=by
 intro u
 induction u with
 | nil=>
  intro hu f T RL A C x D hR s d t;obtain⟨q,rfl⟩:=DZ.1 d.mem;have h:=d.Cy (by have:=G.mul hw;omega);rw[D5] at h;exact q9 (u:=[]) (x:=0) G hw D s (h q List.mem_cons_self) t
 | cons r u I=>
  intro hu f T RL A C x D hR s d t;obtain⟨p,q,j,H,h⟩:=El.parts (G.BW hu).red d
  by_cases F:q=0
  ·exact rB G hw D hu f (I (G.sub hu) f.tail) hR s d j H h F t
  exact rA G hw D hu f (I (G.sub hu) f.tail) hR s d j H h F t
def imD (G:Gam TT R K S) (hw:TT w):∀{u:AG},TT u->Br u w->UJ 282 S w u:=by
 intro u
 induction u with
 | nil=>
  intro hu h T RL A C x mm F hR d t f D;obtain⟨q,rfl⟩:=DZ.1 f.mem;have j:=f.Cy (by have:=G.mul hw;omega);rw[D5] at j;exact rC (u:=[]) (x:=0) d G hw F t (j q List.mem_cons_self) D
 | cons r u J=>
  intro hu h T RL A C x mm F hR d t f D;obtain⟨p,q,s,I,j⟩:=El.parts (G.BW hu).red f
  by_cases H:q=0
  ·exact rE d G hw F hu h (J (G.sub hu) h.tail) hR t f s I j H D
  exact rD d G hw F hu h (J (G.sub hu) h.tail) hR t f s I j H D
end
section
variable {K R S:Nat} {T T2:List LR} {TT:AG->Prop}
def UE {A B:LR} {R' s:Nat} {u:AG} {v:Re} (h:BT R u) (h':BT R' (Bb u v)) (H:(Bb u v).length<=8) (D:T=tw u) (I:A=em u v) (G:El u s v) (J:Fit u.length R s) (t:0<=v) (d:T2=tw (Bb u v)) (f:B=em (Bb u v) (Re.sqrt v)):
  CF 295 [BF T,AQ A] (.BI [(false,[Ao T2]),(false,[AT B]),(false,[.int .i64 0])]):=by
 by_cases j:Sq u v
 ·rw[FF j] at d f;have F:T2=T:=d.trans D.symm;subst F;exact ng h D I G J ((N3 t).1 j) (Re.N4 v) (Re.JH t) f
 rw[Ei j] at h' H d f;rw[<-Mg G.mem] at f;exact nh h D I G J (by rw[List.length_cons] at H;omega) t j rfl h' d f
def Nt (u:AG) (i:Nat):pre u i<:+u:=List.drop_suffix _ _
def Pe (u:AG):pre u 0=[]:=by rw[pre,Nat.sub_zero,List.drop_length]
def Es (p:Prop):∃b:Bool,(b=true↔p):=by
 by_cases h:p
 ·exact⟨true,by simp[h]⟩
 exact⟨false,by simp[h]⟩
def Om {X Y:List LR} {u w:AG} {c:Bool} (hu:BT R u) (hw:BT R w) (d:X=tw u) (f:Y=tw w) (h:c=true↔w<:+u):CF 246 [BF X,BF Y] (.one (.bool c)):=by
 cases c with
 | true=>exact oO hu hw d f (h.1 rfl)
 | false=>exact oN hu hw d f (fun k=>by have:=h.2 k;cases this)
noncomputable def nm (n:AG×Re):el Ae:=(tw n.1,em n.1 n.2)
noncomputable def Cs (ns:List (AG×Re)):AG:=ns.foldl (fun t n=>F7 t n.1) []
def rW (ns:List (AG×Re)) (n:AG×Re):Cs (ns++[n])=F7 (Cs ns) n.1:=by
 rw[Cs,List.foldl_append];rfl
def dK {ns:List (AG×Re)} {i:Nat} {n:AG×Re} (h:ns[i]? =some n):Cs (ns.take (i+1))=F7 (Cs (ns.take i)) n.1:=by
 rw[EM h,rW]
def KJ {X:List (el Ae)} {ns:List (AG×Re)} {i:Nat} {x:el Ae} (f:X=ns.map nm) (d:X[i]? =some x):∃u y,x.1=tw u/\x.2=em u y/\ns[i]? =some (u,y):=by
 rw[f,List.getElem?_map] at d;cases h:ns[i]? with
 | none=>rw[h] at d;simp at d
 | some n=>
  rw[h] at d;have e:nm n=x:=Option.some.inj d;exact⟨n.1,n.2,by rw[<-e];rfl,by rw[<-e];rfl,rfl⟩
def Gam.Cs (G:Gam TT R K S):∀{ns:List (AG×Re)},(∀n∈ns,TT n.1)->TT (Cs ns):=by
 have key:∀(ns:List (AG×Re)) (t:AG),TT t->(∀n∈ns,TT n.1)->TT (ns.foldl (fun t n=>F7 t n.1) t):=by
  intro ns
  induction ns with
  | nil=>intro t ht _;exact ht
  | cons n ns d=>intro t ht h;exact d _ (G.join ht (h n List.mem_cons_self)) (fun m hm=>h m (List.mem_cons_of_mem _ hm))
 intro ns h;exact key ns [] G.nil h
def VS (G:Gam TT R K S) {ns:List (AG×Re)} (h:∀n∈ns,TT n.1):∀n∈ns,Br n.1 (Go.Abs.Cs ns):=by
 have key:∀(ns:List (AG×Re)) (t:AG),TT t->(∀n∈ns,TT n.1)->Br t (ns.foldl (fun t n=>F7 t n.1) t)/\∀n∈ns,Br n.1 (ns.foldl (fun t n=>F7 t n.1) t):=by
  intro ns
  induction ns with
  | nil=>intro t ht _;exact⟨Br.refl t,fun n d=>by simp at d⟩
  | cons n ns D=>
   intro t ht h;have d:=h n List.mem_cons_self;have j:=ur (G.BW ht).red (G.BW d).red;obtain⟨f,s⟩:=D _ (G.join ht d) (fun m hm=>h m (List.mem_cons_of_mem _ hm));refine⟨j.2.1.trans f,fun m hm=>?_⟩;rcases List.mem_cons.1 hm with rfl | hm
   ·exact j.2.2.trans f
   exact s m hm
 exact (key ns [] G.nil h).2
def bZ {U RL:List LR} {t u:AG} (G:Gam TT R K S) (ht:TT t) (hu:TT u) (hT:T=tw t) (hU:U=tw u) (aj:T2=tw (ext t u)) (ah:RL=GD t u):CF 281 [BF T,BF U] (BK [Ao T2,Ao RL] 0):=by
 have ax:U.length=u.length:=by rw[hU,Cq]
 have aA:=G.ht hu;have ai:=G.RS;refine AL Tryz.func281 fun E hE=>?_
 intro av a5;have aw:=a5.eq;have f15:=a5.le;refine .inr ?_;obtain⟨J0,W⟩:=xJ fun vs bl k=>(∃(L i:Int),vs=[.one (.BU 4 0 0),.one (.BU 6 0 0),BF U,AH L,AH i]/\bl=[.var 0 [.nil,.nil],.var 0 [Ao T,.nil],.dead 0]/\(EN L U.length/\AZ i 0)/\k=U.length)\/(∃(Ti o:List LR) (mm i':Nat) (L i:Int),vs=[.one (.BU 4 0 0),.one (.BU 6 0 0),BF U,AH L,AH i]/\bl=[.var 0 [.nil,.nil],.var 0 [Ao Ti,.Aj (.sl AJ) 39 0 0 mm],.arr 0 (.sl AJ) o]/\(EN L U.length/\AZ i i'/\i'<=U.length/\mm=o.length)/\Ti=tw (ext t (pre u i'))/\o=GD t (pre u i')/\k=U.length-i')
 refine⟨[],[4,6,14,15,16],[4,6,39],J0,⟨U.length,by rw[W];exact .inl ⟨av,0,rfl,rfl,⟨a5,BM 0⟩,rfl⟩⟩,?_⟩;intro vs bl aB hj;rw[W] at hj;rcases hj with⟨L,i,rfl,rfl,⟨hL,hi⟩,au⟩ |⟨Ti,o,mm,i',L,i,rfl,rfl,⟨hL,hi,ay,a8⟩,J,hinv,au⟩
 ·conv=>cbv
  have eL:=hL.eq;have ei:=hi.eq;obtain⟨i',a7⟩:=xN 0;have J:T=tw (ext t (pre u i')):=by rw[a7,Pe];exact hT
  refine Bi (fun ad=>?_) fun ad=>?_
  ·have ao:u=[]:=List.eq_nil_of_length_eq_zero AA;exact AN ⟨⟨rfl,congrArg _ (by rw[aj,hT,ao];rfl),.inr (.inl ⟨_,congrArg _ (by rw[ah,ao];rfl)⟩),trivial⟩,t2,trivial⟩
  refine .inr ?_;refine BA i' fun a1 Q=>?_
  try conv=>cbv
  obtain⟨r,I,O⟩:=MZ (u:=u) (i:=i') AA;have h:TT (pre u i'):=G.Kb (Nt u i') hu;have d:TT (r::pre u i'):=I ▸ G.Kb (Nt u (i'+1)) hu;have N:=(G.BW d).red;have ab:a1=em (pre u i') (AU (pre u i') r):=by rw[<-hU,Q] at O;exact (Option.some.inj O).trans (F2 N)
  have f:TT (ext t (pre u i')):=G.ext ht h;have H:=(KX (G.BW ht).red (G.BW h).red).2;have M:El (pre u i') S (AU (pre u i') r):=(El.D9 (G.BW d)).mono ai;have P:TT (Bb (ext t (pre u i')) (AU (pre u i') r)):=G.Bb f d H;have a6:ext t (pre u (i'+1))=Bb (ext t (pre u i')) (AU (pre u i') r):=by rw[I];rfl
  have aa:GD t (pre u (i'+1))=GD t (pre u i')++[em (Bb (ext t (pre u i')) (AU (pre u i') r)) (Re.sqrt (AU (pre u i') r))]:=by rw[I];rfl
  obtain⟨ag,s⟩:=xR (em (ext t (pre u i')) (AU (pre u i') r));refine cLy (r:= .one (AT ag)) hE (ca G f h H J (by rw[a7,Pe];trivial) ab M s) ⟨⟨rfl,.inr ⟨_,rfl⟩,trivial⟩,rfl,trivial⟩ ?_;obtain⟨V,D⟩:=xV (tw (Bb (ext t (pre u i')) (AU (pre u i') r)));obtain⟨j,F⟩:=xR (em (Bb (ext t (pre u i')) (AU (pre u i') r)) (Re.sqrt (AU (pre u i') r)));refine AB (r:= .BI [(false,[Ao V]),(false,[AT j]),(false,[.int .i64 0])]) hE (UE (G.BW f) (G.BW P) (G.ht P) J s (G.Cr h f H M) (G.fit f) (by have:=N.2.2.1;grind) D F) ?_;refine BG ?_;refine⟨[j],Cj,.inr ?_⟩;try conv=>cbv
  refine .inl ⟨[j],fun _=>⟨rfl,Ck (1) 24⟩,?_⟩;refine AM ?_;intro Z aq af ar;refine⟨U.length-(i'+1),?_,?_⟩
  ·omega
  rw[W];exact .inr ⟨V,[j],Z,i'+1,L,af,rfl,rfl,⟨hL,⟨AA⟩,AA,aq⟩,by rw[D,a6],by rw[aa,F,a7,Pe];rfl,rfl⟩
 conv=>cbv
 have eL:=hL.eq;have ei:=hi.eq;have az:o.length<=U.length:=by rw[hinv,Pp,LV AA];omega
 refine Bi (fun ad=>?_) fun ad=>?_
 ·have an:pre u i'=u:=by rw[(AA:i'=u.length)];exact fh u
  exact AN ⟨⟨rfl,congrArg _ (by rw[aj,J,an]),.inl ⟨_,rfl,AA,congrArg _ (by rw[ah,a8,List.drop_zero,List.take_length,hinv,an])⟩,trivial⟩,t2,trivial⟩
 refine .inr ?_;refine BA i' fun a1 Q=>?_
 try conv=>cbv
 obtain⟨r,I,O⟩:=MZ (u:=u) (i:=i') AA;have h:TT (pre u i'):=G.Kb (Nt u i') hu;have d:TT (r::pre u i'):=I ▸ G.Kb (Nt u (i'+1)) hu;have N:=(G.BW d).red;have ab:a1=em (pre u i') (AU (pre u i') r):=by rw[<-hU,Q] at O;exact (Option.some.inj O).trans (F2 N)
 have f:TT (ext t (pre u i')):=G.ext ht h;have H:=(KX (G.BW ht).red (G.BW h).red).2;have M:El (pre u i') S (AU (pre u i') r):=(El.D9 (G.BW d)).mono ai;have P:TT (Bb (ext t (pre u i')) (AU (pre u i') r)):=G.Bb f d H;have a6:ext t (pre u (i'+1))=Bb (ext t (pre u i')) (AU (pre u i') r):=by rw[I];rfl
 have aa:GD t (pre u (i'+1))=GD t (pre u i')++[em (Bb (ext t (pre u i')) (AU (pre u i') r)) (Re.sqrt (AU (pre u i') r))]:=by rw[I];rfl
 obtain⟨ag,s⟩:=xR (em (ext t (pre u i')) (AU (pre u i') r));refine .inr (.inr (.inl ⟨39,.arr 0 (.sl AJ) o,[.agg [Ao Ti,.Aj (.sl AJ) 0 0 0 mm],AQ a1],AQ ag,AK,fun _=>G3 hE (imD G f h H J (by rw[hinv];exact Pq (G.BW ht).red (G.BW h).red) a8 ab M s),?_⟩));try conv=>cbv
 obtain⟨V,D⟩:=xV (tw (Bb (ext t (pre u i')) (AU (pre u i') r)));obtain⟨j,F⟩:=xR (em (Bb (ext t (pre u i')) (AU (pre u i') r)) (Re.sqrt (AU (pre u i') r)));refine AB (r:= .BI [(false,[Ao V]),(false,[AT j]),(false,[.int .i64 0])]) hE (UE (G.BW f) (G.BW P) (G.ht P) J s (G.Cr h f H M) (G.fit f) (by have:=N.2.2.1;grind) D F) ?_;refine BG ?_;refine⟨[j],Cj,.inr ?_⟩;try conv=>cbv
 refine .inl ⟨[j],fun _=>⟨rfl,a8,rfl,Ck (o.length+1) 24⟩,?_⟩;intro (ae:List (el (.sl AJ))) Z a2;have ak:ae=(o:List (el (.sl AJ)))++([j]:List (el (.sl AJ))):=a2.1;have al:Z=List.length (α:=(el (.sl AJ))) ae:=a2.2;refine AM ?_;intro af ar;refine⟨U.length-(i'+1),?_,?_⟩
 ·omega
 rw[W];exact .inr ⟨V,ae,Z,i'+1,L,af,rfl,rfl,⟨hL,⟨AA⟩,AA,al⟩,by rw[D,a6],by rw[ak,hinv,aa,F],rfl⟩
end
section
variable {K R S:Nat} {L:List (el Ae)} {T:List LR} {TT:AG->Prop}
def o4 (G:Gam TT R K S) {ns:List (AG×Re)} (P:∀n∈ns,TT n.1) (hL:L=ns.map nm) (hT:T=tw (Cs ns)):CF 280 [.one (.sl Ae L)] (.BI [(false,[Ao T]),(false,[.int .i64 0])]):=by
 have a7:L.length=ns.length:=by rw[hL,List.length_map]
 refine AL Tryz.func280 fun E hE=>?_
 intro a5 H;have a6:=H.eq;have f10:=H.le;refine BX [(4,.sl AJ,false)] [4,9,10,11] [] (fun vs bl k=>∃(W:List LR) (i':Nat) (n i:Int),vs=[BF W,.one (.sl Ae L),AH n,AH i]/\bl=[]/\(EN n L.length/\AZ i i'/\i'<=L.length)/\W=tw (Cs (ns.take i'))/\k=L.length-i') L.length ⟨[],0,a5,0,rfl,rfl,⟨H,BM 0,AA⟩,rfl,rfl⟩ ?_;rintro J0 I vs bl ad ⟨W,i',n,i,rfl,rfl,⟨N,hi,a8⟩,d,aa⟩;conv=>cbv
 have en:=N.eq;have ei:=hi.eq;refine Bi (fun a2=>?_) fun a2=>?_
 ·exact AN ⟨⟨rfl,congrArg _ (by rw[hT,d,List.take_of_length_le (AA:ns.length<=i')]),trivial⟩,t2,trivial⟩
 refine .inr ?_;refine BA i' fun ag V=>?_
 try conv=>cbv
 obtain⟨u,y,t,ab,Q⟩:=KJ hL V;have hu:TT u:=P _ (List.mem_of_getElem? Q);have s:=dK Q;unfold F7 at s;have J:TT (Cs (ns.take i')):=G.Cs (fun n N=>P n (List.mem_of_mem_take N));refine .inr ?_;obtain⟨Z,f⟩:=Es (u<:+(Cs (ns.take i')));refine AB hE (Om (G.BW J) (G.BW hu) d t f) ?_;refine .inr ?_;cases Z <;> conv=>cbv
 ·have D:=fun q=>Bool.false_ne_true (f.2 q)
  obtain⟨a1,h⟩:=Es ((Cs (ns.take i'))<:+u);refine AB hE (Om (G.BW hu) (G.BW J) t d h) ?_;refine .inr ?_;cases a1 <;> conv=>cbv
  ·have M:=fun q=>Bool.false_ne_true (h.2 q)
   obtain⟨ae,F⟩:=xV (tw (ext (Cs (ns.take i')) u));obtain⟨af,U⟩:=xV (GD (Cs (ns.take i')) u);refine AB hE (bZ G J hu d t F U) ?_;refine BG ?_;intro j O;exact Bj I ⟨_,i'+1,n,j,rfl,rfl,⟨N,⟨AA⟩,AA⟩,by rw[s,if_neg D,if_neg M,F],rfl⟩
  have M:=h.1 rfl;refine AM ?_;intro j O;exact Bj I ⟨_,i'+1,n,j,rfl,rfl,⟨N,⟨AA⟩,AA⟩,by rw[s,if_neg D,if_pos M];exact t,rfl⟩
 have D:=f.1 rfl;refine AM ?_;intro j O;exact Bj I ⟨_,i'+1,n,j,rfl,rfl,⟨N,⟨AA⟩,AA⟩,by rw[s,if_pos D,<-d],rfl⟩
def UK (G:Gam TT R K S) {ns:List (AG×Re)} (I:∀n∈ns,TT n.1) (hL:L=ns.map nm) (ae:∀n∈ns,El n.1 S n.2) (hlen:ns.length<=1000000) {O:List (el Ae)} (hO:O=ns.map (fun n=>nm (Cs ns,n.2))):CF 241 [.one (.sl Ae L)] (.BI [(false,[.sl Ae O]),(false,[.int .i64 0])]):=by
 have aj:L.length=ns.length:=by rw[hL,List.length_map]
 have d:TT (Cs ns):=G.Cs I;obtain⟨T,H⟩:=xV (tw (Cs ns));refine AL Tryz.func241 fun E V=>?_
 refine AB V (o4 G I hL H) ?_;refine BG ?_;intro ag U;have ai:=U.eq;have f21:=U.le;refine BX [(6,Ae,true)] [4,6,20,21,22] [6] (fun vs bl k=>∃(o:List (el Ae)) (mm i':Nat) (n i:Int),vs=[BF T,.one (.Aj Ae 6 0 0 mm),.one (.sl Ae L),AH n,AH i]/\bl=[.arr 0 Ae o]/\(EN n L.length/\AZ i i'/\i'<=L.length/\mm=o.length)/\o=(ns.take i').map (fun n=>nm (Cs ns,n.2))/\k=L.length-i') L.length ⟨[],0,0,ag,0,rfl,rfl,⟨U,BM 0,Nat.zero_le _,rfl⟩,rfl,rfl⟩ ?_;rintro J0 a5 vs bl ao ⟨o,mm,i',n,i,rfl,rfl,⟨hn,hi,ak,W⟩,hinv,al⟩;conv=>cbv
 have en:=hn.eq;have ei:=hi.eq;have an:o.length<=L.length:=by rw[hinv,List.length_map,List.length_take];omega
 refine Bi (fun af=>?_) fun af=>?_
 ·exact AN ⟨⟨rfl,.inl ⟨_,rfl,AA,congrArg _ (by rw[hO,W,hinv,List.drop_zero,List.take_length,List.take_of_length_le (AA:ns.length<=i')])⟩,trivial⟩,t2,trivial⟩
 refine .inr ?_;refine BA i' fun aq a6=>?_
 try conv=>cbv
 obtain⟨u,y,a7,a8,Z⟩:=KJ hL a6;have a1:=List.mem_of_getElem? Z;have hu:TT u:=I _ a1;have M:El u S y:=ae _ a1;have J:Br u (Cs ns):=VS G I _ a1;obtain⟨N,j⟩:=xR (em (Cs ns) y);obtain⟨ab,s⟩:=Es (u<:+Cs ns);refine AB V (Om (G.BW d) (G.BW hu) H a7 s) ?_;refine .inr ?_;cases ab <;> conv=>cbv
 ·have aa:=fun q=>Bool.false_ne_true (s.2 q)
  obtain⟨ah,Q⟩:=xV (GD (Cs ns) u);have P:=Va (G.BW d).red (G.BW hu).red J;refine AB (r:= .BI [(true,[Ao T,Ao ah]),(false,[.int .i64 0])]) V (bZ G d hu H a7 (by rw[P];exact H) Q) ?_;refine BG ?_;refine AB (r:= .one (AT N)) V (ca G d hu J H (by rw[Q];have:=Pq (G.BW d).red (G.BW hu).red;rwa [P] at this) a8 M j) ?_;refine AB (r:= .agg [Ao T,AT N]) V (RH (G.BW d) H j (G.Cr hu d J M) (by have:=G.mul d;omega)) ?_;refine⟨[(T,N)],Cj,.inr ?_⟩;try conv=>cbv
  refine .inl ⟨[(T,N)],fun _=>⟨rfl,W,rfl,Ck (o.length+1) 48⟩,?_⟩;intro (h:List (el Ae)) F f;have t:h=(o:List (el Ae))++([(T,N)]:List (el Ae)):=f.1;have D:F=List.length (α:=(el Ae)) h:=f.2;refine AM ?_;intro a2 ad;exact Bj a5 ⟨h,F,i'+1,n,a2,rfl,rfl,⟨hn,⟨AA⟩,AA,D⟩,by rw[t,hinv,EM Z,List.map_append];simp[nm,H,j],rfl⟩
 have aa:=s.1 rfl;refine AB V (XD (G.BW d) H a8 M.mem aa j) ?_;refine AB (r:= .agg [Ao T,AT N]) V (RH (G.BW d) H j (G.Cr hu d J M) (by have:=G.mul d;omega)) ?_;refine⟨[(T,N)],Cj,.inr ?_⟩;try conv=>cbv
 refine .inl ⟨[(T,N)],fun _=>⟨rfl,W,rfl,Ck (o.length+1) 48⟩,?_⟩;intro (h:List (el Ae)) F f;have t:h=(o:List (el Ae))++([(T,N)]:List (el Ae)):=f.1;have D:F=List.length (α:=(el Ae)) h:=f.2;refine AM ?_;intro a2 ad;exact Bj a5 ⟨h,F,i'+1,n,a2,rfl,rfl,⟨hn,⟨AA⟩,AA,D⟩,by rw[t,hinv,EM Z,List.map_append];simp[nm,H,j],rfl⟩
noncomputable def Bz (u v:AG):AG:=Cs [(u,0),(v,0)]
def VI (G:Gam TT R K S) {T1 T2:List LR} {A1 A2:LR} {u v:AG} {x y:Re} (hu:TT u) (hv:TT v) (J:T1=tw u) (M:T2=tw v) (H:A1=em u x) (I:A2=em v y) (hx:El u S x) (hy:El v S y) {A B C:LR} {g:FuncId} (Z:T=tw (Bz u v)) (U:A=em (Bz u v) x) (V:B=em (Bz u v) y) (hg:CF g [BF T,AQ A,AQ B] (AQ C)):CF 180 [.agg (AY T1 A1),.agg (AY T2 A2),.one (.fn g)] (BK (AY T C) 0):=by
 obtain⟨O,t⟩:∃z:List (el Ae),z=[(T,A),(T,B)]:=⟨_,rfl⟩
 have W:O.length=2:=by rw[t];rfl
 have N:O[0]? =some (T,A):=by rw[t];rfl
 have Q:O[1]? =some (T,B):=by rw[t];rfl
 refine AL Tryz.func180 fun E P=>?_
 refine⟨[(T1,A1),(T2,A2)],fun _=>⟨rfl,AD,rfl,⟨rfl,DB,⟨rfl,DB,trivial⟩⟩⟩,.inr ?_⟩;try conv=>cbv
 refine AB (r:= .BI [(false,[.sl Ae O]),(false,[.int .i64 0])]) P (UK (ns:=[(u,x),(v,y)]) G (by intro n f;simp at f;rcases f with rfl | rfl;exact hu;exact hv) (by rw[J,M,H,I];rfl) (by intro n f;simp at f;rcases f with rfl | rfl;exact hx;exact hy) (by show 2<=1000000;decide) (by rw[t,Z,U,V];rfl)) ?_;refine BG ?_;refine BA 0 fun a1 h=>?_
 try conv=>cbv
 refine BA 0 fun a2 j=>?_
 try conv=>cbv
 refine BA 1 fun a5 s=>?_
 try conv=>cbv
 have d:=Option.some.inj (h.symm.trans N);have D:=Option.some.inj (j.symm.trans N);have F:=Option.some.inj (s.symm.trans Q);refine AB (r:= .one (AT C)) P (by rw[d,D,F];exact hg) ?_;exact AN ⟨⟨rfl,congrArg _ (by rw[d]),rfl,trivial⟩,t2,trivial⟩
end
section
section
variable {TT:AG->Prop} {R K S:Nat}
def Gam.Bz (G:Gam TT R K S) {u v:AG} (hu:TT u) (h:TT v):TT (Go.Abs.Bz u v)/\Br u (Go.Abs.Bz u v)/\Br v (Go.Abs.Bz u v):=by
 have d:∀n∈[(u,(0:Re)),(v,0)],TT n.1:=by intro n f;simp at f;rcases f with rfl | rfl;exact hu;exact h
 have he:=VS G d;exact⟨G.Cs d,he (u,0) AS,he (v,0) AS⟩
end
def Jo (T0:List LR):∃z:List LR,z=T0:=⟨_,rfl⟩
def D8 (T0:LR):∃z:LR,z=T0:=⟨_,rfl⟩
def lD {TT:AG->Prop} {R K S:Nat} (G:Gam TT R K S) {T1 T2:List LR} {A1 A2:LR} {u v:AG} {x y:Re} (hu:TT u) (F:TT v) (j:T1=tw u) (s:T2=tw v) (f:A1=em u x) (h:A2=em v y) (O:El u S x) (P:El v S y) {T:List LR} {C:LR} (N:T=tw (Bz u v)) (Q:C=em (Bz u v) (x+y)):CF 125 [.agg (AY T1 A1),.agg (AY T2 A2)] (BK (AY T C) 0):=by
 obtain⟨d,t,D⟩:=G.Bz hu F;have H:=G.Cr hu d t O;have I:=G.Cr F d D P;have hmul:=G.mul d;obtain⟨A,J⟩:=D8 (em (Bz u v) x);obtain⟨B,M⟩:=D8 (em (Bz u v) y);refine AL Tryz.func125 fun E U=>?_
 refine AB U (VI G hu F j s f h O P N J M (Mr (G.BW d) N J M H I AA AA Q)) ?_;exact AN ⟨t3,t2,trivial⟩
def lH {TT:AG->Prop} {R K S:Nat} (G:Gam TT R K S) {T1 T2:List LR} {A1 A2:LR} {u v:AG} {x y:Re} (hu:TT u) (F:TT v) (j:T1=tw u) (s:T2=tw v) (f:A1=em u x) (h:A2=em v y) (O:El u S x) (P:El v S y) {T:List LR} {C:LR} (N:T=tw (Bz u v)) (Q:C=em (Bz u v) (x-y)):CF 126 [.agg (AY T1 A1),.agg (AY T2 A2)] (BK (AY T C) 0):=by
 obtain⟨d,t,D⟩:=G.Bz hu F;have H:=G.Cr hu d t O;have I:=G.Cr F d D P;have hmul:=G.mul d;obtain⟨A,J⟩:=D8 (em (Bz u v) x);obtain⟨B,M⟩:=D8 (em (Bz u v) y);refine AL Tryz.func126 fun E U=>?_
 refine AB U (VI G hu F j s f h O P N J M (QN (G.BW d) N J M H I AA AA Q)) ?_;exact AN ⟨t3,t2,trivial⟩
def UL {TT:AG->Prop} {R K S:Nat} (G:Gam TT R K S) {T1 T2:List LR} {A1 A2:LR} {u v:AG} {x y:Re} (hu:TT u) (F:TT v) (j:T1=tw u) (s:T2=tw v) (f:A1=em u x) (h:A2=em v y) (O:El u S x) (P:El v S y) {T:List LR} {C:LR} (N:T=tw (Bz u v)) (Q:C=em (Bz u v) (x*y)):CF 131 [.agg (AY T1 A1),.agg (AY T2 A2)] (BK (AY T C) 0):=by
 obtain⟨d,t,D⟩:=G.Bz hu F;have H:=G.Cr hu d t O;have I:=G.Cr F d D P;have hmul:=G.mul d;obtain⟨A,J⟩:=D8 (em (Bz u v) x);obtain⟨B,M⟩:=D8 (em (Bz u v) y);refine AL Tryz.func131 fun E U=>?_
 refine AB U (VI G hu F j s f h O P N J M (JP (G.BW d) N J M H I AA Q)) ?_;exact AN ⟨t3,t2,trivial⟩
def UM {TT:AG->Prop} {R K S:Nat} (G:Gam TT R K S) {T1:List LR} {A1:LR} {u:AG} {x:Re} (hu:TT u) (f:T1=tw u) (d:A1=em u x) (j:El u S x) {C:LR} (s:C=em u (-x)):CF 84 [.agg (AY T1 A1)] (.agg (AY T1 C)):=by
 have hmul:=G.mul hu;refine AL Tryz.func84 fun E h=>?_
 refine AB h (RH (G.BW hu) f d j) ?_;refine AB h (YW (G.BW hu) f d j AA s) ?_;exact AN ⟨t3,trivial⟩
def YU {TT:AG->Prop} {R K S:Nat} (G:Gam TT R K S) {T1:List LR} {A1:LR} {u:AG} {x:Re} (hu:TT u) (f:T1=tw u) (d:A1=em u x) (s:El u S x) {c:Int} (j:c=Bv x):CF 64 [.agg (AY T1 A1)] (AH c):=by
 refine AL Tryz.func64 fun E h=>?_
 refine AB h (OU (G.BW hu) f d s ((G.fit hu).mono (Nat.le_add_right _ _)).v0 (G.fit hu).vR j) ?_;exact AN ⟨t2,trivial⟩
def lG {TT:AG->Prop} {R K S:Nat} (G:Gam TT R K S) {T1:List LR} {A1:LR} {u:AG} {x:Re} (hu:TT u) (f:T1=tw u) (d:A1=em u x) (I:El u S x) (hw:TT (Bb u x)) (F:0<=x) {T:List LR} {C:LR} (D:T=tw (Bb u x)) (j:C=em (Bb u x) (Re.sqrt x)) {s:Nat} (H:El (Bb u x) s (Re.sqrt x)) (h:s<=60000000000000):CF 253 [.agg (AY T1 A1)] (BK (AY T C) 0):=by
 refine AL Tryz.func253 fun E t=>?_
 refine AB t (UE (G.BW hu) (G.BW hw) (G.ht hw) f d I ((G.fit hu).mono (Nat.le_add_right _ _)) F D j) ?_;refine BG ?_;refine AB t (RH (G.BW hw) D j H h) ?_;exact AN ⟨t3,t2,trivial⟩
def lE {TT:AG->Prop} {R K S:Nat} (G:Gam TT R K S) {T1 T2:List LR} {A1 A2:LR} {u v:AG} {x y:Re} (hu:TT u) (I:TT v) (t:T1=tw u) (f:T2=tw v) (h:A1=em u x) (j:A2=em v y) (O:El u S x) (P:El v S y) {i:Re} (N:In v i) (F:y*i=1) (D:El v S i) (s:II v.length R S<=60000000000000) {T:List LR} {C:LR} (M:T=tw (Bz u v)) (J:C=em (Bz u v) (x*i)):CF 188 [.agg (AY T1 A1),.agg (AY T2 A2)] (BK (AY T C) 0):=by
 refine AL Tryz.func188 fun E H=>?_
 obtain⟨Q,d⟩:=D8 (em v i);refine AB H (QH (G.BW I) f j P N F s d) ?_;refine BG ?_;refine AB H (UL G hu I t f h d O D M J) ?_;exact AN ⟨t3,t2,trivial⟩
def VP {u:AG} {x y:Re} (d:In u x) (f:In u y):em u x=em u y↔x=y:=
 ⟨fun h=>by rw[<-FR d,<-FR f,gQ h],fun h=>by rw[h]⟩
def x7 {u v:AG} (h:u<:+v) (k:v<:+u):u=v:=h.eq_of_length_le k.length_le
def lF {TT:AG->Prop} {R K S:Nat} (G:Gam TT R K S) {T1 T2:List LR} {A1 A2:LR} {u v:AG} {x y:Re} (hu:TT u) (hv:TT v) (J:T1=tw u) (M:T2=tw v) (H:A1=em u x) (I:A2=em v y) (hx:El u S x) (hy:El v S y) {c:Bool} (hc:c=true↔x=y):CF 186 [.agg (AY T1 A1),.agg (AY T2 A2)] (.one (.bool c)):=by
 obtain⟨U,a8,aa⟩:=G.Bz hu hv;have N:=G.Cr hu U a8 hx;have P:=G.Cr hv U aa hy;have hmul:=G.mul U;obtain⟨A,Z⟩:=D8 (em (Bz u v) x);obtain⟨B,hB⟩:=D8 (em (Bz u v) y);obtain⟨T,hT⟩:=Jo (tw (Bz u v));obtain⟨O,hO⟩:∃z:List (el Ae),z=[(T,A),(T,B)]:=⟨_,rfl⟩
 have ab:O.length=2:=by rw[hO];rfl
 have h0:O[0]? =some (T,A):=by rw[hO];rfl
 have h1:O[1]? =some (T,B):=by rw[hO];rfl
 refine AL Tryz.func186 fun E Q=>?_
 obtain⟨a6,h⟩:=Es (v<:+u);refine AB Q (Om (G.BW hu) (G.BW hv) J M h) ?_;cases a6 <;> conv=>cbv
 ·have a2:=fun q=>Bool.false_ne_true (h.2 q)
  refine⟨[(T1,A1),(T2,A2)],fun _=>⟨rfl,AD,rfl,⟨rfl,DB,⟨rfl,DB,trivial⟩⟩⟩,.inr ?_⟩;try conv=>cbv
  refine AB (r:= .BI [(false,[.sl Ae O]),(false,[.int .i64 0])]) Q (UK (ns:=[(u,x),(v,y)]) G (by intro n t;simp at t;rcases t with rfl | rfl;exact hu;exact hv) (by rw[J,M,H,I];rfl) (by intro n t;simp at t;rcases t with rfl | rfl;exact hx;exact hy) (by show 2<=1000000;decide) (by rw[hO,hT,Z,hB];rfl)) ?_;refine CN ?_;refine BA 0 fun V D=>?_
  try conv=>cbv
  refine BA 1 fun W F=>?_
  try conv=>cbv
  have d:=Option.some.inj (D.symm.trans h0);have f:=Option.some.inj (F.symm.trans h1);have s:c=decide (V.2=W.2):=by rw[Bool.eq_iff_iff,decide_eq_true_eq,hc,d,f,Z,hB];exact (VP N.mem P.mem).symm
  refine AB (r:= .one (.bool c)) Q (S3 (by rw[d];exact Z) (by rw[f];exact hB) (N.Cy AA) (P.Cy AA) s) ?_;exact AN ⟨t2,trivial⟩
 have a2:=h.1 rfl;obtain⟨a7,j⟩:=Es (u<:+v);refine AB Q (Om (G.BW hv) (G.BW hu) M J j) ?_;cases a7 <;> conv=>cbv
 ·have a5:=fun q=>Bool.false_ne_true (j.2 q)
  refine⟨[(T1,A1),(T2,A2)],fun _=>⟨rfl,AD,rfl,⟨rfl,DB,⟨rfl,DB,trivial⟩⟩⟩,.inr ?_⟩;try conv=>cbv
  refine AB (r:= .BI [(false,[.sl Ae O]),(false,[.int .i64 0])]) Q (UK (ns:=[(u,x),(v,y)]) G (by intro n t;simp at t;rcases t with rfl | rfl;exact hu;exact hv) (by rw[J,M,H,I];rfl) (by intro n t;simp at t;rcases t with rfl | rfl;exact hx;exact hy) (by show 2<=1000000;decide) (by rw[hO,hT,Z,hB];rfl)) ?_;refine CN ?_;refine BA 0 fun V D=>?_
  try conv=>cbv
  refine BA 1 fun W F=>?_
  try conv=>cbv
  have d:=Option.some.inj (D.symm.trans h0);have f:=Option.some.inj (F.symm.trans h1);have s:c=decide (V.2=W.2):=by rw[Bool.eq_iff_iff,decide_eq_true_eq,hc,d,f,Z,hB];exact (VP N.mem P.mem).symm
  refine AB (r:= .one (.bool c)) Q (S3 (by rw[d];exact Z) (by rw[f];exact hB) (N.Cy AA) (P.Cy AA) s) ?_;exact AN ⟨t2,trivial⟩
 have a5:=j.1 rfl;have a1:=x7 a5 a2;have s:c=decide (A1=A2):=by rw[Bool.eq_iff_iff,decide_eq_true_eq,hc,H,I,<-a1];exact (VP hx.mem (a1 ▸ hy.mem)).symm
 refine AB Q (S3 H I (hx.Cy AA) (hy.Cy AA) s) ?_;exact AN ⟨t2,trivial⟩
def Lu {q:Rat} {b1 b2:Bool} {l1 l2:List UInt32} {C:LR} (d:Bn q b1 l1 b2 l2) (j:Ch q) (f:C=em [] (Re.ofRat q)):CF 129 [.agg (CP b1 l1 b2 l2)] (.agg (AY [] C)):=by
 refine AL Tryz.func129 fun E h=>?_
 refine AB h (aT d j) ?_;refine⟨[((b1,l1),(b2,l2))],Cj,.inr ?_⟩;try conv=>cbv
 exact AN ⟨⟨rfl,CG,congrArg _ (by rw[f,E5,<-d.rp]),trivial⟩,trivial⟩
def Mu {x:Int} {C:LR} (j: -9223372036854775808<=x/\x<9223372036854775808) (h:Ch x) (f:C=em [] (Re.ofRat x)):CF 80 [AH x] (.agg (AY [] C)):=by
 refine AL Tryz.func80 fun E d=>?_
 obtain⟨D,F,s,t,FU⟩:=Ca (x:Rat);refine AB d (JR j rfl FU) ?_;refine AB d (Lu FU h f) ?_;exact AN ⟨t3,trivial⟩
end
section
structure Fv (h R s:Nat):Prop where
 q:SS h R s<=60000000000000
 v:VV h R (s+GG h R)<=60000000000000
 qR:SS h R R<=60000000000000
 vR:VV h R R<=60000000000000
variable {A B:LR} {R':Nat} {T T2:List LR} {r:List Rat} {u:AG} {v x:Re}
def Fv.v0 {h R s:Nat} (f:Fv h R s):VV h R s<=60000000000000:=Nat.le_trans (J4 h R AA) f.v
def Fv.s {h R s:Nat} (f:Fv h R s):s<=60000000000000:=Nat.le_trans (Ye h R s) f.q
def Fv.mono {h R s t:Nat} (f:Fv h R s) (ht:t<=s):Fv h R t:=⟨Nat.le_trans (QM h R ht) f.q,Nat.le_trans (J4 h R AA) f.v,f.qR,f.vR⟩
def lY:∀(h R s:Nat),SS h R s<=SS (h+1) R s:=fun h R s=>Nat.le_trans (QM h R (by unfold TQ;omega)) (Yd h R s)
def lX {i h:Nat} (d:i<=h) (R s:Nat):SS i R s<=SS h R s:=by
 induction d with
 | refl=>exact Nat.le_refl _
 | step _ f=>exact Nat.le_trans f (lY _ _ _)
def nL {R s:Nat} (h:BT R u) (P:T=tw u) (Q:A=em u x) (V:El u s x) (J:Fv u.length R s) {w:Re} (hw:In u w) (j:w*w=x) (W:J7 u x w) (F:0<=v) (G:v*v=x) (O:B=em u v):CF 227 [BF T,AQ A] (.BI [(false,[AT B]),(false,[.bool true])]):=by
 have H:=V.sqrt h hw j;refine AL Tryz.func227 fun E I=>?_
 obtain⟨a1,d⟩:=xR (em u w);refine AB I (W P Q d) ?_;refine BG ?_;obtain⟨Z,D⟩:=xI (Bv w);refine AB I (Iv h P d H J.v (Nat.le_trans (Hc _ _ _) J.v) J.vR D) ?_;intro N t;refine .inr ?_;cases N <;> conv=>cbv
 ·have M:=EY t;exact AN ⟨⟨rfl,congrArg _ (by rw[O,d];congr 1;have:¬w<0:=(fun U=>by have:=LK.2 U;omega);exact Re.N2 F (by grind) (G.trans j.symm)),trivial⟩,t2,trivial⟩
 have M:=EZ t;obtain⟨a2,f⟩:=xR (em u (-w));refine AB I (Mz h d H f) ?_;exact AN ⟨⟨rfl,congrArg _ (by rw[O,f];congr 1;have:w<0:=LK.1 AA;exact Re.N2 F (by grind) (by rw[G,<-j];grind)),trivial⟩,t2,trivial⟩
def nK {B:LR} {R s:Nat} (h:BT R u) (j:T=tw u) (d:A=em u x) (F:El u s x) (D:Fv u.length R s) {l:LR} (t:J6 u x l):CF 227 [BF T,AQ A] (.BI [(false,[.sl AJ (([]:LR))]),(false,[.bool false])]):=by
 refine AL Tryz.func227 fun E f=>?_
 refine AB f (t j d) ?_;refine CN ?_;exact AN AK
def nM {R s:Nat} (h:BT R u) (I:T=tw u) (G:A=em u x) (F:El u s x) (f:Fv u.length R s) (J:In u v) (t:0<=v) (d:v*v=x) (H:B=em u v):CF 227 [BF T,AQ A] (.BI [(false,[AT B]),(false,[.bool true])]):=by
 rcases YC h F f.q f.vR with⟨w,hw,D,M⟩ |⟨j,_⟩
 ·exact nL h I G F f hw D M t d H
 exact absurd ⟨v,J,d⟩ j
def nJ {R s:Nat} (h:BT R u) (F:T=tw u) (D:A=em u x) (t:El u s x) (d:Fv u.length R s) (f:¬Sq u x):CF 227 [BF T,AQ A] (.BI [(false,[AT []]),(false,[.bool false])]):=by
 rcases YC h t d.q d.vR with⟨w,hw,j,H⟩ |⟨_,l,G⟩
 ·exact absurd ⟨w,hw,j⟩ f
 exact nK (B:=[]) h F D t d G
def Yu {R:Nat} (h:BT R u) (N:T=tw u) (hv:VV u.length R R<=60000000000000) (hq:SS u.length R R<=60000000000000):CF 169 [BF T] (.one (.bool true)):=by
 have au:T.length=u.length:=by rw[N,Cq]
 have hR:=h.hR;refine AL Tryz.func169 fun E hE=>?_
 refine BX [] [0,3] [] (fun vs bl k=>∃(i':Nat) (i:Int),vs=[BF T,AH i]/\(AZ i i'/\i'<=T.length)/\k=T.length-i') (T.length-0) ⟨0,0,rfl,⟨BM 0,AA⟩,rfl⟩ ?_;rintro J0 aa vs bl ax ⟨i',i,rfl,⟨hi,av⟩,aw⟩;have ei:=hi.eq;refine Af ?_;rintro n8 ⟨e8,f8⟩;refine Bi (fun k9=>?_) fun k9=>?_
 ·exact AN ⟨t2,trivial⟩
 refine .inr ?_;refine AM ?_;intro ay an a6 aj ae O;refine BA i' fun aC Z=>?_
 try conv=>cbv
 obtain⟨r,W,V⟩:=MZ (u:=u) (i:=i') AA;have D:BE (r::pre u i'):=W ▸ (h.pre (i'+1)).red;have F:∀x,T[i']? =some x->x=em (pre u i') (AU (pre u i') r):=fun x hx=>by rw[<-N,hx] at V;exact (Option.some.inj V).trans (F2 D)
 have H:=F _ Z;have t:El (pre u i') R (AU (pre u i') r):=El.D9 (W ▸ h.pre (i'+1));have f:ae=tw (pre u i'):=by rw[O,List.drop_zero,(AA:a6=i'),N,KT]
 have U:(pre u i').length<=u.length:=by rw[LV AA];omega
 have G:VV (pre u i').length R R<=60000000000000:=Nat.le_trans (OW U R R) hv;have ab:SS (pre u i').length R R<=60000000000000:=Nat.le_trans (lX U R R) hq;refine AB hE (QR (h.pre i') f H t hR) ?_;refine BG ?_;intro az ao a7 ak af P;refine BA i' fun aD a1=>?_
 try conv=>cbv
 have j:af=tw (pre u i'):=by rw[P,List.drop_zero,(AA:a7=i'),N,KT]
 have I:=F _ a1;obtain⟨aB,d⟩:=xI (Bv (AU (pre u i') r));refine AB hE (Iv (h.pre i') j I t G hR G d) ?_;intro ai M;cases ai <;> conv=>cbv
 ·have a5:=PQ M;refine AM ?_;intro aA aq a8 al ag Q;refine BA i' fun aE a2=>?_
  try conv=>cbv
  have s:ag=tw (pre u i'):=by rw[Q,List.drop_zero,(AA:a8=i'),N,KT]
  have J:=F _ a2;obtain⟨l,hn⟩:=((YC (h.pre i') t ab G).resolve_left (fun⟨w,hw,ad,_⟩=>D.2.2.2 ⟨w,hw,ad⟩)).2;refine AB hE (hn s J) ?_;intro ah ar;exact Bj aa ⟨i'+1,ah,rfl,⟨⟨AA⟩,AA⟩,rfl⟩
 have a5:=PR M;exact absurd a5 (by rw[d,JG D.2.2.1];omega)
def lz {R s:Nat} (h:BT R u) (I:T=tw u) (G:A=em u x) (J:El u s x) (t:Fv u.length R s) (N:In u v) (D:0<=v) (f:v*v=x) (M:B=em u v):CF 171 [BF T,AQ A] (.BI [(false,[Ao T]),(false,[AT B]),(false,[.int .i64 0])]):=by
 have F:0<=x:=by rw[<-f];exact Re.Lg v
 refine AL Tryz.func171 fun E H=>?_
 obtain⟨O,d⟩:=xI (Bv x);refine AB H (Iv h I G J t.v0 t.s t.vR d) ?_;refine Dk (fun j=>?_) fun j=>?_
 ·exact (LN d j F).elim
 refine AB H (nM h I G J t N D f M) ?_;exact AN AK
def mC {R s:Nat} (h:BT R u) (P:T=tw u) (U:A=em u x) (hx:El u s x) (O:Fv u.length R s) (h8:u.length<8) (a5:0<=x) (a2:¬Sq u x) (hr:r=co u x) (h':BT R' (r::u)) (W:T2=tw (r::u)) (hB:B=em (r::u) (rt u r)):CF 171 [BF T,AQ A] (.BI [(false,[Ao T2]),(false,[AT B]),(false,[.int .i64 0])]):=by
 have Z:T.length=u.length:=by rw[P,Cq]
 have aa:=h.ht;refine AL Tryz.func171 fun E V=>?_
 obtain⟨ae,t⟩:=xI (Bv x);refine AB V (Iv h P U hx O.v0 O.s O.vR t) ?_;refine Dk (fun M=>?_) fun M=>?_
 ·exact (LN t M a5).elim
 refine AB V (nJ h P U hx O a2) ?_;rintro ab ⟨a8,f24⟩;refine OH (fun N=>?_) fun N=>?_
 ·exact absurd N AA
 refine⟨[],fun _=>⟨rfl,AD,rfl,trivial⟩,.inl ?_⟩;try conv=>cbv
 refine .inl ⟨T,fun _=>⟨rfl,rfl,rfl,Ck (0+T.length) 24⟩,?_⟩;intro (f:List (el (.sl AJ))) a6 D;have j:f=([]:List (el (.sl AJ)))++(T:List (el (.sl AJ))):=D.1;have I:a6=List.length (α:=(el (.sl AJ))) f:=D.2;conv=>cbv
 refine⟨[A],Cj,.inr ?_⟩;try conv=>cbv
 have a1:f.length=T.length:=by rw[j];simp
 refine .inr (.inl ⟨[A],fun _=>⟨rfl,I,rfl,Ck (f.length+1) 24⟩,?_⟩);intro (G:List (el (.sl AJ))) a7 F;have H:G=(f:List (el (.sl AJ)))++([A]:List (el (.sl AJ))):=F.1;have J:a7=List.length (α:=(el (.sl AJ))) G:=F.2;conv=>cbv
 refine⟨fun _=>J,?_⟩;rintro ad ⟨Q,f35⟩;conv=>cbv
 have d:G=tw (r::u):=by rw[H,j,P,P8,U,em,hr];rfl
 refine AB V (mT h' d (AZ.of (Q.trans (congrArg _ Z))) hB) ?_;exact AN ⟨⟨rfl,congrArg _ (by rw[W,d]),trivial⟩,t2,t2,trivial⟩
def mV {R s:Nat} (h:BT R u) (j:T=tw u) (F:A=em u x) (G:El u s x) (d:Fv u.length R s) (I:In u v) (t:0<=v) (D:v*v=x) (H:B=em u v):CF 107 [BF T,AQ A] (.BI [(false,[Ao T]),(false,[AT B]),(false,[.int .i64 0])]):=by
 refine AL Tryz.func107 fun E f=>?_
 refine AB f (Yu h j d.vR d.qR) ?_;refine BG ?_;refine AB f (QR h j F G d.s) ?_;refine BG ?_;refine AB f (lz h j F G d I t D H) ?_;exact AN AK
def mW {R s:Nat} (h:BT R u) (j:T=tw u) (G:A=em u x) (H:El u s x) (d:Fv u.length R s) (I:u.length<8) (F:0<=x) (D:¬Sq u x) (M:r=co u x) (h':BT R' (r::u)) (t:T2=tw (r::u)) (J:B=em (r::u) (rt u r)):CF 107 [BF T,AQ A] (.BI [(false,[Ao T2]),(false,[AT B]),(false,[.int .i64 0])]):=by
 refine AL Tryz.func107 fun E f=>?_
 refine AB f (Yu h j d.vR d.qR) ?_;refine BG ?_;refine AB f (QR h j G H d.s) ?_;refine BG ?_;refine AB f (mC h j G H d I F D M h' t J) ?_;exact AN AK
def Yl {R s:Nat} (h:BT R u) (h':BT R' (Bb u v)) (H:(Bb u v).length<=8) (D:T=tw u) (I:A=em u v) (G:El u s v) (J:Fv u.length R s) (t:0<=v) (d:T2=tw (Bb u v)) (f:B=em (Bb u v) (Re.sqrt v)):
  CF 107 [BF T,AQ A] (.BI [(false,[Ao T2]),(false,[AT B]),(false,[.int .i64 0])]):=by
 by_cases j:Sq u v
 ·rw[FF j] at d f;have F:T2=T:=d.trans D.symm;subst F;exact mV h D I G J ((N3 t).1 j) (Re.N4 v) (Re.JH t) f
 rw[Ei j] at h' H d f;rw[<-Mg G.mem] at f;exact mW h D I G J (by rw[List.length_cons] at H;omega) t j rfl h' d f
end
section
variable {R i:Nat} {c:Bool} {u w:AG}
def jY {α:Type} {X Y:List α} {x y:α} (d:X[i]? =some x) (f:Y[i]? =some y) (h:X.take i=Y.take i) (e:x=y):X.take (i+1)=Y.take (i+1):=by
 rw[EM d,EM f,h,e]
def jZ {α:Type} {X Y:List α} {n:Nat} {x y:α} (j:X[i]? =some x) (s:Y[i]? =some y) (f:i<n) (e:x≠y):X.take n≠Y.take n:=by
 intro h;apply e;have d:(X.take n)[i]? =(Y.take n)[i]? :=by rw[h]
 rw[List.getElem?_take,List.getElem?_take,if_pos f,if_pos f,j,s] at d;exact Option.some.inj d
def nN {X Y:LR} {xs ys:List Rat} (hX:X=BV xs) (hY:Y=BV ys) (hs:FO xs) (ht:FO ys) (I:c=decide (X=Y)):CF 266 [AQ X,AQ Y] (.one (.bool c)):=by
 refine AL Tryz.func266 fun E hE=>?_
 rintro n7 ⟨e7,f7⟩ n9 ⟨e9,f9⟩;refine HY (fun O=>?_) fun O=>?_
 ·exact AO (by rw[I,decide_eq_false];intro e;have:=congrArg List.length e;omega)
 refine BX [] [0,1,5] [] (fun vs bl k=>∃(i':Nat) (i:Int),vs=[AQ X,AQ Y,AH i]/\(AZ i i'/\i'<=Y.length/\Y.length<=X.length)/\X.take i'=Y.take i'/\k=Y.length-i') (Y.length-0) ⟨0,0,rfl,⟨BM 0,AA,AA⟩,rfl,rfl⟩ ?_;rintro J0 G vs bl aa ⟨i',i,rfl,⟨hi,a5,H⟩,hinv,a6⟩;have ei:=hi.eq;refine Af ?_;rintro ab ⟨a1,f13⟩;refine Bi (fun P=>?_) fun P=>?_
 ·have hl:X.length=Y.length:=AA
  exact AO (by rw[I,decide_eq_true];have:=hinv;rwa [List.take_of_length_le AA,List.take_of_length_le AA] at this)
 refine .inr ?_;refine BA i' fun D f=>?_
 try conv=>cbv
 refine BA i' fun F h=>?_
 try conv=>cbv
 obtain⟨p,Z,a7,M⟩:=KK hX hs f;obtain⟨q,hq,a8,N⟩:=KK hY ht h;have s:D=rp p:=Z.rp.symm;have t:F=rp q:=hq.rp.symm;obtain⟨W,d⟩:=xI (IT p q);refine AB hE (mM Z hq M N d) ?_;intro V j;cases V <;> conv=>cbv
 ·have Q:=Ib j;refine AM ?_;intro U a2;exact Bj G ⟨i'+1,U,rfl,⟨⟨AA⟩,AA,H⟩,jY f h hinv (by rw[s,t];congr 1;have:=VB p q;rw[<-d,(AA:W=0)] at this;exact of_decide_eq_true this),rfl⟩
 have Q:=Ic j;have J:D≠F:=fun e=>by have e2:=JE (s.symm.trans (e.trans t));have:=VB p q;rw[decide_eq_true e2,<-d] at this;simp at this;omega
 exact AO (by rw[I,decide_eq_false];intro e;exact jZ (n:=i'+1) f h AA J (by rw[e]))
def mY {X Y:List LR} (hu:BT R u) (hw:BT R w) (hX:X=tw u) (hY:Y=tw w) (G:c=(decide (Y.length<=X.length)&&decide (X.take Y.length=Y))):CF 210 [BF X,BF Y] (.one (.bool c)):=by
 refine AL Tryz.func210 fun E hE=>?_
 rintro n7 ⟨e7,f7⟩ n9 ⟨e9,f9⟩;refine Eb (fun M=>?_) fun M=>?_
 ·exact AO (by rw[G,decide_eq_false (AA:¬Y.length<=X.length)];rfl)
 refine BX [] [0,1,5] [] (fun vs V k=>∃(i':Nat) (i:Int),vs=[BF X,BF Y,AH i]/\(AZ i i'/\i'<=Y.length/\Y.length<=X.length)/\X.take i'=Y.take i'/\k=Y.length-i') (Y.length-0) ⟨0,0,rfl,⟨BM 0,AA,AA⟩,rfl,rfl⟩ ?_;rintro J0 D vs V a5 ⟨i',i,rfl,⟨hi,a1,F⟩,hinv,a2⟩;have ei:=hi.eq;refine Af ?_;rintro a6 ⟨W,f13⟩;refine Bi (fun N=>?_) fun N=>?_
 ·exact AO (by rw[G,decide_eq_true (AA:Y.length<=X.length),decide_eq_true];rfl;rw[(AA:Y.length=i'),hinv,List.take_of_length_le AA])
 refine .inr ?_;refine BA i' fun s f=>?_
 try conv=>cbv
 refine BA i' fun t h=>?_
 try conv=>cbv
 obtain⟨p,hp,I⟩:=MG hX f;obtain⟨q,hq,J⟩:=MG hY h;obtain⟨U,d⟩:=xB (decide (s=t));refine AB hE (nN hp hq ((hu.tb p (List.mem_reverse.1 (List.mem_of_getElem? I))).Cy hu.hR) ((hw.tb q (List.mem_reverse.1 (List.mem_of_getElem? J))).Cy hw.hR) d) ?_;intro Q j;cases Q <;> conv=>cbv
 ·have O:=Hp j;refine AM ?_;intro P Z;exact Bj D ⟨i'+1,P,rfl,⟨⟨AA⟩,AA,F⟩,jY f h hinv (of_decide_eq_true (by rw[<-d];exact Hp j)),rfl⟩
 have O:=Hq j;have H:s≠t:=of_decide_eq_false (by rw[<-d];exact Hq j);exact AO (by rw[G,decide_eq_false (p:=X.take Y.length=Y),Bool.and_false];intro e;exact jZ (n:=Y.length) f h AA H (by rw[e,List.take_length]))
def QY {X Y:List LR} (hu:BT R u) (hw:BT R w) (d:X=tw u) (f:Y=tw w) (h:c=true↔w<:+u):CF 210 [BF X,BF Y] (.one (.bool c)):=
 mY hu hw d f (by rw[Bool.eq_iff_iff,h,Xs,Bool.and_eq_true,decide_eq_true_eq,decide_eq_true_eq,d,f])
def UZ {T:List LR} {A C:LR} {x:Re} (h:BT R w) (hT:T=tw w) (hA:A=em u x) (hx:In u x) (hu:u<:+w) (hC:C=em w x):CF 212 [BF T,AQ A] (AQ C):=by
 have Z:T.length=w.length:=by rw[hT,Cq]
 have ad:=h.ht;have ab:A.length=2^u.length:=by rw[hA,B9 hx]
 have a5:=hu.length_le;have hle:2^u.length<=2^w.length:=DF a5;have a8:=Ea h.ht;have M:=bH hu h.red hx;refine AL Tryz.func212 fun E hE=>?_
 refine⟨[],fun _=>⟨rfl,AD,rfl,trivial⟩,.inl ?_⟩;try conv=>cbv
 refine .inl ⟨A,fun _=>⟨rfl,rfl,rfl,Ck (0+A.length) 64⟩,?_⟩;intro (P:LR) n8 O;have H:P=([]:LR)++(A:LR):=O.1;have a2:n8=List.length (α:=(el AJ)) P:=O.2;conv=>cbv
 refine BX [] [0,5] [6] (fun vs bl k=>∃(o:LR) (mm j:Nat),vs=[BF T,.one (.Aj AJ 6 0 0 mm)]/\bl=[.arr 0 AJ o]/\(mm=o.length/\o.length=2^u.length+j/\o.length<=2^w.length)/\o=A++List.replicate j (rp 0)/\k=2^w.length-o.length) (2^w.length-P.length) ⟨P,n8,0,rfl,rfl,⟨a2,by rw[H];simp;omega,by rw[H];simp;omega⟩,by rw[H];simp,rfl⟩ ?_;rintro J0 W vs bl ah ⟨o,mm,j,rfl,rfl,⟨I,af,ag⟩,hinv,ae⟩;conv=>cbv
 intro ai U;have aa:=U.eq;refine AM ?_;rintro aj ⟨Q,f12⟩ ak V;have a7:=(Gf V (Q.trans (congrArg _ Z))).eq;refine Bi (fun a6=>?_) fun a6=>?_
 ·exact AN ⟨⟨rfl,.inl ⟨_,rfl,AA,congrArg _ (by rw[hC,I,List.drop_zero,List.take_length,hinv,M,hA,(AA:j=2^w.length-2^u.length)])⟩,trivial⟩,trivial⟩
 refine .inr ?_;obtain⟨s,t,d,f,IX⟩:=Ca (((0:Int):Rat));refine AB hE (Ff AA rfl IX) ?_;refine⟨[((s,t),(d,f))],Cj,.inr ?_⟩;try conv=>cbv
 refine .inl ⟨[((s,t),(d,f))],fun _=>⟨rfl,I,rfl,Ck (o.length+1) 64⟩,?_⟩;intro (D:LR) N G;have F:D=(o:LR)++([((s,t),(d,f))]:LR):=G.1;have J:N=List.length (α:=(el AJ)) D:=G.2;conv=>cbv
 have a1:D.length=o.length+1:=by rw[F];simp
 exact Bj W ⟨D,N,j+1,rfl,rfl,⟨J,AA,AA⟩,by rw[F,hinv,List.replicate_succ',List.append_assoc,<-IX.rp];rfl,rfl⟩
end
section
structure EA (T:AG->Prop) (R C S:Nat):Prop extends Gam T R C S where
 Jb:∀{u},T u->Fv u.length R (S+C)
def Yn (S:Nat) (w u:AG):Prop:=∀{T RL:List LR} {A C:LR} {x:Re},T=tw w->HJ w RL u->A=em u x->El u S x->C=em w x->
 CF 213 [BF T,BF RL,AQ A] (AQ C)
def Yo (S:Nat) (w u:AG):Prop:=∀{T RL:List LR} {A C:LR} {x:Re} {mm:Nat},T=tw w->HJ w RL u->mm=RL.length->A=em u x->El u S x->C=em w x->
 Cz Tryz.prog 213 [BF T,.one (.Aj (.sl AJ) 0 0 0 mm),AQ A] (.arr 0 (.sl AJ) RL) (AQ C)
variable {A C:LR} {K R S mm:Nat} {RL T:List LR} {TT:AG->Prop} {p x:Re} {q:Rat} {r:List Rat} {u w:AG}
def mc {u:AG} {x:Re} (G:Gam TT R K S) (hw:TT w) (H:T=tw w) (s:A=em [] (Re.ofRat q)) (M:Ch q) (D:C=em w (Re.ofRat q)):CF 213 [BF T,BF RL,AQ A] (AQ C):=by
 have d:A=[rp q]:=s.trans (E5 q);have t:A.length=1:=by rw[d];rfl
 refine AL Tryz.func213 fun E F=>?_
 rintro I ⟨j,f12⟩;refine Cw (fun h=>?_) fun h=>?_
 ·exact absurd h AA
 refine BA 0 fun J f=>?_
 try conv=>cbv
 refine AB F (IL (G.BW hw) H (Ge d f) D) ?_;exact AN ⟨t2,trivial⟩
def me (G:Gam TT R K S) (hw:TT w) (hT:T=tw w) {q:Re} (hu:TT (r::u)) (f:Br (r::u) w) (ih:Yn S w u) (hR:HJ w RL (r::u)) (hA:A=em (r::u) x) (hx:El (r::u) S x) (I:x=p+q*rt u r) (hp:El u S p) (W:El u S q) (hC:C=em w x):CF 213 [BF T,BF RL,AQ A] (AQ C):=by
 have H:=(G.BW hu).red;have J:A.length=2^u.length+2^u.length:=by rw[hA,B9 hx.mem,Cc]
 have aE:=D7 u.length;have aB:(r::u).length<=8:=G.ht hu;have al:(r::u).length=u.length+1:=rfl;have hmul:=G.mul hw;have d:El w K (rt u r):=by have:=G.Cr hu hw f (Kz H);rwa [Nat.zero_add] at this
 obtain⟨wk,ad,Z,O⟩:=hR.2;obtain⟨rk,a1⟩:=xR (em wk (rt u r));rw[<-a1] at O;refine AL Tryz.func213 fun E M=>?_
 rintro aI ⟨ar,f12⟩;refine BY (fun a2=>?_) fun a2=>?_
 ·exact absurd a2 AA
 rintro aJ ⟨au,f20⟩ ah ay;refine BX [] [0,1,2,7,8] [] (fun vs bl k=>∃(k':Nat) (hv kk:Int),vs=[BF T,BF RL,AQ A,AH hv,AH kk]/\bl=[]/\(AZ hv (A.length/2)/\AZ kk k'/\k'<=u.length)/\k=u.length-k') (u.length-0) ⟨0,ah,0,rfl,rfl,⟨⟨AA⟩,BM 0,AA⟩,rfl⟩ ?_;rintro J0 a8 vs bl aF ⟨k',hv,kk,rfl,rfl,⟨N,aa,aD⟩,aC⟩;have aw:=N.eq;have ax:=aa.eq;refine AM ?_;rintro aK az aL a7 aM ⟨av,f26⟩;have ao:=(Gf (k:=k'+1) a7 AA).eq;refine Dk (fun ae=>?_) fun ae=>?_
 ·refine .inr ?_;have ab:k'<u.length:=Na J (AA:2^(k'+1)<A.length);refine AM ?_;intro ai aA;exact Bj a8 ⟨k'+1,hv,ai,rfl,rfl,⟨N,⟨AA⟩,AA⟩,rfl⟩
 have ab:k'=u.length:=by have:=NZ J (AA:¬2^(k'+1)<A.length);omega
 refine AM ?_;intro aG an a6 ak af Q;have D:af=em u p:=by rw[Q,List.drop_zero,(AA:a6=A.length/2),hA,DX H hp.mem W.mem I]
 obtain⟨aN,h⟩:=xR (em w (p));refine AB M (ih hT hR.1 D hp h) ?_;rintro aH V a5 aq ⟨aj,P⟩ ag U;have F:ag=em u q:=by rw[U,(AA:a5=A.length/2),P,V,List.take_length,hA,DE H hp.mem W.mem I]
 obtain⟨aO,j⟩:=xR (em w (q));refine AB M (ih hT hR.1 F W j) ?_;refine CJ O ?_;obtain⟨aP,s⟩:=xR (em w (rt u r));refine AB M (UZ (G.BW hw) hT a1 Z ad s) ?_;obtain⟨aQ,t⟩:=xR (em w (q*rt u r));refine AB M (FP (G.BW hw) hT j s (G.Cr (G.sub hu) hw f.tail W) d AA t) ?_;refine AB (r:= .one (AT C)) M (Lz (G.BW hw) h t (G.Cr (G.sub hu) hw f.tail hp) ((G.Cr (G.sub hu) hw f.tail W).mul (G.BW hw) d) AA AA (by rw[hC,I])) ?_;exact AN ⟨t2,trivial⟩
def mf {u:AG} {x:Re} (I:mm=RL.length) (G:Gam TT R K S) (hw:TT w) (H:T=tw w) (s:A=em [] (Re.ofRat q)) (N:Ch q) (D:C=em w (Re.ofRat q)):Cz Tryz.prog 213 [BF T,.one (.Aj (.sl AJ) 0 0 0 mm),AQ A] (.arr 0 (.sl AJ) RL) (AQ C):=by
 have d:A=[rp q]:=s.trans (E5 q);have t:A.length=1:=by rw[d];rfl
 refine DW Tryz.func213 fun E F=>?_
 refine Af ?_;rintro J ⟨j,f12⟩;refine Cw (fun h=>?_) fun h=>?_
 ·exact absurd h AA
 refine BA 0 fun M f=>?_
 try conv=>cbv
 refine AB F (IL (G.BW hw) H (Ge d f) D) ?_;refine AK
def mg (a5:mm=RL.length) (G:Gam TT R K S) (hw:TT w) (hT:T=tw w) {q:Re} (hu:TT (r::u)) (f:Br (r::u) w) (ih:Yo S w u) (hR:HJ w RL (r::u)) (hA:A=em (r::u) x) (hx:El (r::u) S x) (O:x=p+q*rt u r) (hp:El u S p) (hq:El u S q) (hC:C=em w x):Cz Tryz.prog 213 [BF T,.one (.Aj (.sl AJ) 0 0 0 mm),AQ A] (.arr 0 (.sl AJ) RL) (AQ C):=by
 have M:=(G.BW hu).red;have Q:A.length=2^u.length+2^u.length:=by rw[hA,B9 hx.mem,Cc]
 have aL:=D7 u.length;have aI:(r::u).length<=8:=G.ht hu;have av:(r::u).length=u.length+1:=rfl;have hmul:=G.mul hw;have d:El w K (rt u r):=by have:=G.Cr hu hw f (Kz M);rwa [Nat.zero_add] at this
 obtain⟨wk,aj,a6,h⟩:=hR.2;obtain⟨rk,j⟩:=xR (em wk (rt u r));rw[<-j] at h;refine DW Tryz.func213 fun E U=>?_
 refine Af ?_;rintro aP ⟨aA,f12⟩;refine BY (fun a8=>?_) fun a8=>?_
 ·exact absurd a8 AA
 rintro aQ ⟨aB,f20⟩ al aF;refine BX [] [0,1,2,7,8] [0] (fun vs bl k=>∃(k':Nat) (hv kk:Int),vs=[BF T,.one (.Aj (.sl AJ) 0 0 0 mm),AQ A,AH hv,AH kk]/\bl=[.arr 0 (.sl AJ) RL]/\(AZ hv (A.length/2)/\AZ kk k'/\k'<=u.length)/\k=u.length-k') (u.length-0) ⟨0,al,0,rfl,rfl,⟨⟨AA⟩,BM 0,AA⟩,rfl⟩ ?_;rintro J0 ag vs bl aM ⟨k',hv,kk,rfl,rfl,⟨V,ah,aK⟩,aJ⟩;have aD:=V.eq;have aE:=ah.eq;refine AM ?_;rintro aR aG aS af aT ⟨aC,f26⟩;have ay:=(Gf (k:=k'+1) af AA).eq;refine Dk (fun ak=>?_) fun ak=>?_
 ·refine .inr ?_;have ai:k'<u.length:=Na Q (AA:2^(k'+1)<A.length);refine AM ?_;intro an aH;exact Bj ag ⟨k'+1,hv,an,rfl,rfl,⟨V,⟨AA⟩,AA⟩,rfl⟩
 have ai:k'=u.length:=by have:=NZ Q (AA:¬2^(k'+1)<A.length);omega
 refine AM ?_;intro aN ax ae au aa Z;have I:aa=em u p:=by rw[Z,List.drop_zero,(AA:ae=A.length/2),hA,DX M hp.mem hq.mem O]
 obtain⟨ao,s⟩:=xR (em w (p));refine .inr (.inr (.inl ⟨0,.arr 0 (.sl AJ) RL,[BF T,.one (.Aj (.sl AJ) 0 0 0 mm),AQ aa],AQ ao,AK,fun _=>G3 U (ih hT hR.1 a5 I hp s),?_⟩));refine AM ?_;rintro aO a2 ad az ⟨ar,W⟩ ab a1;have J:ab=em u q:=by rw[a1,(AA:ad=A.length/2),W,a2,List.take_length,hA,DE M hp.mem hq.mem O]
 obtain⟨aq,t⟩:=xR (em w (q));refine .inr (.inr (.inl ⟨0,.arr 0 (.sl AJ) RL,[BF T,.one (.Aj (.sl AJ) 0 0 0 mm),AQ ab],AQ aq,AK,fun _=>G3 U (ih hT hR.1 a5 J hq t),?_⟩));try conv=>cbv
 refine g2 rfl ?_;refine⟨fun _=>⟨AA,by have:=H6 h;omega⟩,?_⟩;intro a7 aw;conv=>cbv
 obtain⟨P,H⟩:=CE (l:=RL) (i:=a7) (by have:=H6 h;omega);refine⟨P,fun _=>H,?_⟩;try conv=>cbv
 have N:P=rk:=by have:=H;rw[(AA:a7=u.length),h] at this;exact (Option.some.inj this).symm
 have j:P=em wk (rt u r):=N.trans j;obtain⟨aU,D⟩:=xR (em w (rt u r));refine AB U (UZ (G.BW hw) hT j a6 aj D) ?_;obtain⟨aV,F⟩:=xR (em w (q*rt u r));refine AB U (FP (G.BW hw) hT t D (G.Cr (G.sub hu) hw f.tail hq) d AA F) ?_;refine AB (r:= .one (AT C)) U (Lz (G.BW hw) s F (G.Cr (G.sub hu) hw f.tail hp) ((G.Cr (G.sub hu) hw f.tail hq).mul (G.BW hw) d) AA AA (by rw[hC,O])) ?_;refine AK
def ma (G:Gam TT R K S) (hw:TT w):∀{u:AG},TT u->Br u w->Yn S w u:=by
 intro u
 induction u with
 | nil=>
  intro hu s T RL A C x t hR h d j;obtain⟨q,rfl⟩:=DZ.1 d.mem;have f:=d.Cy (by have:=G.mul hw;omega);rw[D5] at f;exact mc (u:=[]) (x:=0) G hw t h (f q List.mem_cons_self) j
 | cons r u H=>
  intro hu s T RL A C x t hR h d j;obtain⟨p,q,D,F,f⟩:=El.parts (G.BW hu).red d;exact me G hw t hu s (H (G.sub hu) s.tail) hR h d D F f j
def mb (G:Gam TT R K S) (hw:TT w):∀{u:AG},TT u->Br u w->Yo S w u:=by
 intro u
 induction u with
 | nil=>
  intro hu t T RL A C x mm D hR d j f s;obtain⟨q,rfl⟩:=DZ.1 f.mem;have h:=f.Cy (by have:=G.mul hw;omega);rw[D5] at h;exact mf (u:=[]) (x:=0) d G hw D j (h q List.mem_cons_self) s
 | cons r u I=>
  intro hu t T RL A C x mm D hR d j f s;obtain⟨p,q,F,H,h⟩:=El.parts (G.BW hu).red f;exact mg d G hw D hu t (I (G.sub hu) t.tail) hR j f F H h s
def UX {U T2:List LR} {t:AG} (G:EA TT R K S) (ht:TT t) (hu:TT u) (hT:T=tw t) (hU:U=tw u) (ae:T2=tw (ext t u)) (ab:RL=GD t u):CF 211 [BF T,BF U] (.BI [(false,[Ao T2]),(false,[Ao RL]),(false,[.int .i64 0])]):=by
 have ao:U.length=u.length:=by rw[hU,Cq]
 have av:=G.ht hu;have ad:=G.RS;refine AL Tryz.func211 fun E hE=>?_
 refine BX [(7,.sl AJ,true)] [0,1,7,8] [7] (fun vs bl k=>∃(Ti o:List LR) (mm i':Nat) (i:Int),vs=[BF Ti,BF U,.one (.Aj (.sl AJ) 7 0 0 mm),AH i]/\bl=[.arr 0 (.sl AJ) o]/\(AZ i i'/\i'<=U.length/\mm=o.length)/\Ti=tw (ext t (pre u i'))/\o=GD t (pre u i')/\k=U.length-i') U.length ⟨T,[],0,0,0,rfl,rfl,⟨BM 0,Nat.zero_le _,rfl⟩,by rw[Pe];exact hT,by rw[Pe];rfl,rfl⟩ ?_;rintro J0 aa vs bl aw ⟨Ti,o,mm,i',i,rfl,rfl,⟨hi,aq,M⟩,I,hinv,ar⟩;conv=>cbv
 have ei:=hi.eq;have au:o.length<=U.length:=by rw[hinv,Pp,LV AA];omega
 rintro ax ⟨al,f14⟩;conv=>cbv
 refine Bi (fun ai=>?_) fun ai=>?_
 ·have V:pre u i'=u:=by rw[(AA:i'=u.length)];exact fh u
  exact AN ⟨⟨rfl,congrArg _ (by rw[ae,I,V]),trivial⟩,⟨rfl,.inl ⟨_,rfl,AA,congrArg _ (by rw[ab,M,List.drop_zero,List.take_length,hinv,V])⟩,trivial⟩,t2,trivial⟩
 refine .inr ?_;refine BA i' fun a8 a5=>?_
 try conv=>cbv
 obtain⟨r,N,a1⟩:=MZ (u:=u) (i:=i') AA;have d:TT (pre u i'):=G.Kb (Nt u i') hu;have f:TT (r::pre u i'):=N ▸ G.Kb (Nt u (i'+1)) hu;have Z:=(G.BW f).red;have ah:a8=em (pre u i') (AU (pre u i') r):=by rw[<-hU,a5] at a1;exact (Option.some.inj a1).trans (F2 Z)
 have h:TT (ext t (pre u i')):=G.ext ht d;have J:=(KX (G.BW ht).red (G.BW d).red).2;have W:El (pre u i') S (AU (pre u i') r):=(El.D9 (G.BW f)).mono ad;have a2:TT (Bb (ext t (pre u i')) (AU (pre u i') r)):=G.Bb h f J;have af:ext t (pre u (i'+1))=Bb (ext t (pre u i')) (AU (pre u i') r):=by rw[N];rfl
 have ag:GD t (pre u (i'+1))=GD t (pre u i')++[em (Bb (ext t (pre u i')) (AU (pre u i') r)) (Re.sqrt (AU (pre u i') r))]:=by rw[N];rfl
 obtain⟨ak,s⟩:=xR (em (ext t (pre u i')) (AU (pre u i') r));refine .inr (.inr (.inl ⟨7,.arr 0 (.sl AJ) o,[BF Ti,.one (.Aj (.sl AJ) 0 0 0 mm),AQ a8],AQ ak,AK,fun _=>G3 hE (mb G.toGam h d J I (by rw[hinv];exact Pq (G.BW ht).red (G.BW d).red) M ah W s),?_⟩));try conv=>cbv
 obtain⟨a7,D⟩:=xV (tw (Bb (ext t (pre u i')) (AU (pre u i') r)));obtain⟨j,F⟩:=xR (em (Bb (ext t (pre u i')) (AU (pre u i') r)) (Re.sqrt (AU (pre u i') r)));refine AB (r:= .BI [(false,[Ao a7]),(false,[AT j]),(false,[.int .i64 0])]) hE (Yl (G.BW h) (G.BW a2) (G.ht a2) I s (G.Cr d h J W) (G.Jb h) (by have:=Z.2.2.1;grind) D F) ?_;refine BG ?_;refine⟨[j],Cj,.inr ?_⟩;try conv=>cbv
 refine .inl ⟨[j],fun _=>⟨rfl,M,rfl,Ck (o.length+1) 24⟩,?_⟩;intro (O:List (el (.sl AJ))) a6 H;have P:O=(o:List (el (.sl AJ)))++([j]:List (el (.sl AJ))):=H.1;have Q:a6=List.length (α:=(el (.sl AJ))) O:=H.2;refine AM ?_;intro aj an;exact Bj aa ⟨a7,O,a6,i'+1,aj,rfl,rfl,⟨⟨AA⟩,AA,Q⟩,by rw[D,af],by rw[P,hinv,ag,F],rfl⟩
end
end Go.Abs
