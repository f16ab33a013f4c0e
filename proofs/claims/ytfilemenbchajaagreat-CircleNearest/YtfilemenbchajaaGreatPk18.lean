/- Part 19 of a proof. Conditions: each theorem's own. -/
import Derived.Test.YtfilemenbchajaaGreatPk17
set_option linter.all false
set_option maxHeartbeats 8000000
set_option maxRecDepth 20000
open Go.Proofs
namespace Go.Abs
open Go.RowKit
variable {b b1 b2 b3 c:Bool} {l l1 l2 l3 z:List UInt32} {x y:Int}
theorem gl {i:Nat} {x:UInt32} {n:Int} (g:l[i]? =some x) (h:i+1=l.length) (f:n=x.toNat):Fw b l=(n !=0):=by
 have d:l.getLast? =some x:=by rw[List.getLast?_eq_getElem?,<-g];congr 1;omega
 unfold Fw;rw[d,f]
 show (x !=0)=_
 rw[Bool.eq_iff_iff];simp only[bne_iff_ne,ne_eq];rw[<-UInt32.toNat_inj]
 show ¬x.toNat=0↔_
 omega
theorem W8 (o:x=if b=true then -(AB l:Int) else AB l) (m:l.length<=17592186044416) (k:Ag x c z):CF 290 [.agg [.bool b,.sl .u32 l]] (.agg [.bool c,.sl .u32 z]):=by
 refine AH Tryz.func290 (by kernel_rfl) rfl fun E h=>?_
 conv=>cbv
 obtain⟨t,d⟩:=xU (AR (AB l));refine cL h (Dx rfl d) t1 ?_;try conv=>cbv
 obtain⟨u,g⟩:=xU t;refine cL (r:= .one (.sl .u32 u)) h (IP g (by rw[d,<-Kl];exact Nat.le_trans (Px l) m)) t1 ?_;try conv=>cbv
 obtain⟨i,j,f⟩:=Ac (x);refine cL (r:= .agg [.bool i,.sl .u32 j]) h (EI (by rw[g,d,BB];exact o) f) t2 ?_;try conv=>cbv
 refine g2 rfl ?_;exact fA ⟨⟨rfl,congrArg _ ((f.uniq k rfl).1.symm),congrArg _ ((f.uniq k rfl).2.symm),trivial⟩,trivial⟩ rfl (by simp)
theorem QT (k:Ag x b l) (t:l.length<=17592186044416) (m:Ag (-x) c z):CF 330 [.agg [.bool b,.sl .u32 l]] (.agg [.bool c,.sl .u32 z]):=by
 refine AH Tryz.func330 (by kernel_rfl) rfl fun E j=>?_
 conv=>cbv
 intro w o;conv=>cbv
 obtain⟨u,f⟩:=xU (AR (AB l));refine cL j (Dx rfl f) t1 ?_;try conv=>cbv
 have t8:u=l:=by rw[f];exact k.trim
 obtain⟨v,g⟩:=xU l;refine cL (r:= .one (.sl .u32 v)) j (IP (g.trans t8.symm) (by rw[t8];exact t)) t1 ?_;try conv=>cbv
 obtain⟨h,i,d⟩:=Ac (-x);refine cL (r:= .agg [.bool h,.sl .u32 i]) j (EI (by rw[g,o];exact Vh k.ER) d) t2 ?_;try conv=>cbv
 refine g2 rfl ?_;exact fA ⟨⟨rfl,congrArg _ ((d.uniq m rfl).1.symm),congrArg _ ((d.uniq m rfl).2.symm),trivial⟩,trivial⟩ rfl (by simp)
theorem XO {c:Int} (j:x=if b=true then -(AB l:Int) else AB l) (i:c=Bu x):CF 327 [.agg [.bool b,.sl .u32 l]] (.one (.int .i64 c)):=by
 refine AH Tryz.func327 (by kernel_rfl) rfl fun E k=>?_
 conv=>cbv
 refine .inr ?_;obtain⟨t,d⟩:=xU (AR (AB l));refine cL k (Dx rfl d) t1 ?_;try conv=>cbv
 rintro r ⟨f,f7⟩;conv=>cbv
 intro o h;conv=>cbv
 cases o <;> conv=>cbv
 ·have m:=Au h;cases b <;> conv=>cbv
  ·have g:AB l≠0:=fun e=>by rw[d,e] at f;exact (Au h) f
   exact fA ⟨⟨rfl,congrArg _ (by rw[i,Mp j g];rfl),trivial⟩,trivial⟩ rfl (by simp)
  have g:AB l≠0:=fun e=>by rw[d,e] at f;exact (Au h) f
  exact fA ⟨⟨rfl,congrArg _ (by rw[i,Mp j g];rfl),trivial⟩,trivial⟩ rfl (by simp)
 have m:=Av h;have g:AB l=0:=by rw[d] at f;exact EL.1 (List.length_eq_zero_iff.1 (by omega))
 exact fA ⟨⟨rfl,congrArg _ (by rw[i,j,g];unfold Bu;simp),trivial⟩,trivial⟩ rfl (by simp)
theorem JY {c:Int} (f:Ag x b l) (d:c=Bu x):CF 327 [.agg [.bool b,.sl .u32 l]] (.one (.int .i64 c)):=XO f.ER d
theorem QV (f:Ag x b l) (d:l.length<=17592186044416) (g:Ag x c z):CF 290 [.agg [.bool b,.sl .u32 l]] (.agg [.bool c,.sl .u32 z]):=W8 f.ER d g
theorem QH {c:Int} (t:Ag x b1 l1) (u:Ag y b2 l2) (C:c=BT x y):CF 296 [.agg [.bool b1,.sl .u32 l1],.agg [.bool b2,.sl .u32 l2]] (.one (.int .i64 c)):=by
 refine AH Tryz.func296 (by kernel_rfl) rfl fun E m=>?_
 conv=>cbv
 obtain⟨H,f⟩:=xI (Bu x);refine cL m (JY t f) ⟨t2,trivial⟩ ?_;try conv=>cbv
 obtain⟨w,d⟩:=xI (Bu y);refine cL m (JY u d) ⟨t2,trivial⟩ ?_;try conv=>cbv
 refine g2 rfl ?_;intro v o;conv=>cbv
 cases v <;> conv=>cbv
 ·have k:=Dg o;obtain⟨A,i⟩:=xU (AR (AB l1));refine cL m (Dx rfl i) t1 ?_;try conv=>cbv
  have t20:A=l1:=by rw[i];exact t.trim
  obtain⟨B,j⟩:=xU (AR (AB l2));refine cL m (Dx rfl j) t1 ?_;try conv=>cbv
  have t23:B=l2:=by rw[j];exact u.trim
  obtain⟨G,g⟩:=xI (BT x.natAbs y.natAbs);refine cL m (LY (t20.trans t.BI) (t23.trans u.BI) g) t2 ?_;try conv=>cbv
  intro D r;conv=>cbv
  refine⟨fun _=>by rw[r,f,g];exact eu _ _ _,?_⟩;refine g2 rfl ?_;exact fA ⟨⟨rfl,congrArg _ (by rw[C,r,f,g];exact ZX (by rw[<-f,<-d];exact k)),trivial⟩,trivial⟩ rfl (by simp)
 have k:=Dh o;obtain⟨F,h⟩:=xI (BT H w);refine cL m (QI h) t2 ?_;try conv=>cbv
 exact fA ⟨⟨rfl,congrArg _ (by rw[C,h,f,d];exact ZW (by rw[<-f,<-d];exact k)),trivial⟩,trivial⟩ rfl (by simp)
theorem M9 (v:Ag x b1 l1) (w:Ag y b2 l2) (A:Ag (x+y) b3 l3) (s1:l1.length<=17592186044416) (s2:l2.length<=17592186044416):CF 359 [.agg [.bool b1,.sl .u32 l1],.agg [.bool b2,.sl .u32 l2]] (.agg [.bool b3,.sl .u32 l3]):=by
 refine AH Tryz.func359 (by kernel_rfl) rfl fun E j=>?_
 conv=>cbv
 obtain⟨S,D⟩:=xU (AR (AB l1));refine cL j (Dx rfl D) t1 ?_;try conv=>cbv
 have t9:S=l1:=by rw[D];exact v.trim
 obtain⟨N,m⟩:=xU (AR (AB l2));refine cL j (Dx rfl m) t1 ?_;try conv=>cbv
 have t12:N=l2:=by rw[m];exact w.trim
 refine g2 rfl ?_;intro L B;conv=>cbv
 cases L <;> conv=>cbv
 ·have k:=Rl B;obtain⟨R,f⟩:=xI (BT x.natAbs y.natAbs);refine cL j (LY (t9.trans v.BI) (t12.trans w.BI) f) t2 ?_;try conv=>cbv
  intro M C;conv=>cbv
  cases M <;> conv=>cbv
  ·have d:=Ad C;obtain⟨Q,u⟩:=xU (AR (x.natAbs-y.natAbs));refine cL (r:= .one (.sl .u32 Q)) j (Od (t9.trans v.BI) (t12.trans w.BI) u (by rw[f] at d;have:=G8 d;omega) (by rw[t9];exact s1)) t2 ?_;try conv=>cbv
   obtain⟨H,K,i⟩:=Ac (x+y);refine cL (r:= .agg [.bool H,.sl .u32 K]) j (EI (by rw[u,BB,Int.add_comm];rw[f] at d;exact LD w.neg v.neg (Ne.symm k) (by have:=G8 d;omega)) i) t2 ?_;try conv=>cbv
   refine g2 rfl ?_;exact fA ⟨⟨rfl,congrArg _ ((i.uniq A rfl).1.symm),congrArg _ ((i.uniq A rfl).2.symm),trivial⟩,trivial⟩ rfl (by simp)
  have d:=Ae C;obtain⟨P,t⟩:=xU (AR (y.natAbs-x.natAbs));refine cL (r:= .one (.sl .u32 P)) j (Od (t12.trans w.BI) (t9.trans v.BI) t (by rw[f] at d;have:=G9 d;omega) (by rw[t12];exact s2)) t2 ?_;try conv=>cbv
  obtain⟨G,J,h⟩:=Ac (x+y);refine cL (r:= .agg [.bool G,.sl .u32 J]) j (EI (by rw[t,BB];rw[f] at d;exact LD v.neg w.neg k (by have:=G9 d;omega)) h) t2 ?_;try conv=>cbv
  refine g2 rfl ?_;exact fA ⟨⟨rfl,congrArg _ ((h.uniq A rfl).1.symm),congrArg _ ((h.uniq A rfl).2.symm),trivial⟩,trivial⟩ rfl (by simp)
 have k:=Ro B;obtain⟨O,o⟩:=xU (AR (x.natAbs+y.natAbs));refine cL (r:= .one (.sl .u32 O)) j (Ua (t9.trans v.BI) (t12.trans w.BI) o (by rw[t9];exact s1) (by rw[t12];exact s2)) t2 ?_;try conv=>cbv
 obtain⟨F,I,g⟩:=Ac (x+y);refine cL (r:= .agg [.bool F,.sl .u32 I]) j (EI (by rw[o,BB];exact add_same v.neg (k.trans w.neg)) g) t2 ?_;try conv=>cbv
 refine g2 rfl ?_;exact fA ⟨⟨rfl,congrArg _ ((g.uniq A rfl).1.symm),congrArg _ ((g.uniq A rfl).2.symm),trivial⟩,trivial⟩ rfl (by simp)
theorem EJ (m:Ag x b1 l1) (o:Ag y b2 l2) (w:Ag (x*y) b3 l3) (s1:l1.length<=17592186044416) (s2:l2.length<=17592186044416):CF 297 [.agg [.bool b1,.sl .u32 l1],.agg [.bool b2,.sl .u32 l2]] (.agg [.bool b3,.sl .u32 l3]):=by
 refine AH Tryz.func297 (by kernel_rfl) rfl fun E k=>?_
 conv=>cbv
 intro B A;conv=>cbv
 obtain⟨t,f⟩:=xU (AR (AB l1));refine cL k (Dx rfl f) t1 ?_;try conv=>cbv
 have t12:t=l1:=by rw[f];exact m.trim
 obtain⟨u,g⟩:=xU (AR (AB l2));refine cL k (Dx rfl g) t1 ?_;try conv=>cbv
 have t15:u=l2:=by rw[g];exact o.trim
 obtain⟨v,h⟩:=xU (AR (x.natAbs*y.natAbs));refine cL (r:= .one (.sl .u32 v)) k (gL (t12.trans m.BI) (t15.trans o.BI) h (by rw[t12];exact s1) (by rw[t15];exact s2)) t2 ?_;try conv=>cbv
 obtain⟨i,j,d⟩:=Ac (x*y);refine cL (r:= .agg [.bool i,.sl .u32 j]) k (EI (by rw[h,BB,A];exact To m.neg o.neg) d) t2 ?_;try conv=>cbv
 refine g2 rfl ?_;exact fA ⟨⟨rfl,congrArg _ ((d.uniq w rfl).1.symm),congrArg _ ((d.uniq w rfl).2.symm),trivial⟩,trivial⟩ rfl (by simp)
theorem Qg (w:c=Fw b l):CF 350 [.agg [.bool b,.sl .u32 l]] (.one (.bool c)):=by
 refine AH Tryz.func350 (by kernel_rfl) rfl fun E I=>?_
 conv=>cbv
 rintro J ⟨H,f6⟩;conv=>cbv
 intro G D;conv=>cbv
 cases G <;> conv=>cbv
 ·have F:=Au D;intro k f;conv=>cbv
  cases k <;> conv=>cbv
  ·have j:=CA f
   exfalso;omega
  have j:=CB f;intro m v;conv=>cbv
  refine g1 (by omega) ?_;obtain⟨o,d⟩:=AG (l:=l) (i:=(m).toNat) (by omega);refine⟨o,fun _=>⟨by omega,d⟩,?_⟩;try conv=>cbv
  intro B g;have r:=g.eq;have f23:=g.lt;conv=>cbv
  intro C u;conv=>cbv
  exact fA ⟨⟨rfl,congrArg _ (by rw[w,u];exact gl d (by omega) r),trivial⟩,trivial⟩ rfl (by simp)
 have F:=Av D;intro A t;conv=>cbv
 cases A <;> conv=>cbv
 ·have h:=CJ t;intro k f;conv=>cbv
  cases k <;> conv=>cbv
  ·have j:=CA f;exact fA ⟨⟨rfl,congrArg _ (by rw[w,List.eq_nil_of_length_eq_zero (by omega:l.length=0),h];rfl),trivial⟩,trivial⟩ rfl (by simp)
  have j:=CB f;intro m v;conv=>cbv
  refine g1 (by omega) ?_;obtain⟨o,d⟩:=AG (l:=l) (i:=(m).toNat) (by omega);refine⟨o,fun _=>⟨by omega,d⟩,?_⟩;try conv=>cbv
  intro B g;have r:=g.eq;have f23:=g.lt;conv=>cbv
  intro C u;conv=>cbv
  exfalso;omega
 have h:=CK t;exact fA ⟨⟨rfl,congrArg _ (by rw[w,List.eq_nil_of_length_eq_zero (by omega:l.length=0),h];rfl),trivial⟩,trivial⟩ rfl (by simp)
end Go.Abs
namespace Go.Abs
open Go.RowKit
variable {a b n:Int} {e p q:Nat}
theorem Pk (h:n=IntKind.u64.wrap (a*2^min b.toNat IntKind.u64.bits)) (ha:a=p) (hb:b=e) (he:e<=64):n=((p*2^e%18446744073709551616:Nat):Int):=by
 have d:min b.toNat IntKind.u64.bits=e:=by rw[hb];show min e 64=e;omega
 have f:=wrap_u64 h;rw[f,d,ha];simp
theorem Pj (h:n=IntKind.u32.wrap (a*2^min b.toNat IntKind.u32.bits)) (ha:a=p) (hb:b=e) (he:e<=32):n=((p*2^e%4294967296:Nat):Int):=by
 have d:min b.toNat IntKind.u32.bits=e:=by rw[hb];show min e 32=e;omega
 have f:=wrap_u32 h;rw[f,d,ha];simp
theorem shr_var {m:Nat} (h:n=a.fdiv (2^min b.toNat m)) (ha:a=p) (hb:b=e) (he:e<=m):n=((p/2^e:Nat):Int):=by
 have d:min b.toNat m=e:=by rw[hb];simp;omega
 rw[h,d,ha,Int.fdiv_eq_ediv_of_nonneg _ (by have:=Int.pow_pos (n:=2) (m:=e) (by decide);omega)];simp
theorem MQ (h:n=IntKind.u32.wrap (BitVec.ofInt IntKind.u32.bits a ||| BitVec.ofInt IntKind.u32.bits b).toNat) (ha:a=p) (hb:b=q) (g:p<4294967296) (i:q<4294967296):n=((p ||| q:Nat):Int):=by
 have f:=wrap_u32 h;rw[f,ha,hb]
 have d:(BitVec.ofInt IntKind.u32.bits (p:Int) ||| BitVec.ofInt IntKind.u32.bits (q:Int)).toNat=p ||| q:=by
  rw[BitVec.toNat_or,BitVec.toNat_ofInt,BitVec.toNat_ofInt]
  show ((p:Int)%4294967296).toNat ||| ((q:Int)%4294967296).toNat=_
  congr 1 <;> omega
 rw[d];have:p ||| q<2^32:=Nat.or_lt_two_pow g i
 omega
theorem UX (h:n=IntKind.u64.wrap (BitVec.ofInt IntKind.u64.bits a ||| BitVec.ofInt IntKind.u64.bits b).toNat) (ha:a=p) (hb:b=q) (g:p<18446744073709551616) (i:q<18446744073709551616):n=((p ||| q:Nat):Int):=by
 have f:=wrap_u64 h;rw[f,ha,hb]
 have d:(BitVec.ofInt IntKind.u64.bits (p:Int) ||| BitVec.ofInt IntKind.u64.bits (q:Int)).toNat=p ||| q:=by
  rw[BitVec.toNat_or,BitVec.toNat_ofInt,BitVec.toNat_ofInt]
  show ((p:Int)%18446744073709551616).toNat ||| ((q:Int)%18446744073709551616).toNat=_
  congr 1 <;> omega
 rw[d];have:p ||| q<2^64:=Nat.or_lt_two_pow g i
 omega
theorem H8 (h:n=IntKind.u64.wrap (BitVec.ofInt IntKind.u64.bits a ||| BitVec.ofInt IntKind.u64.bits b).toNat) (ha:a=((p*4294967296:Nat):Int)) (hb:b=q) (g:p<4294967296) (f:q<4294967296):n=((q+4294967296*p:Nat):Int):=by
 rw[UX h ha hb (by omega) (by omega),Nat.or_comm,Nat.mul_comm];have:=I9 (a:=q) (b:=p) (d:=32) f;exact congrArg _ this
end Go.Abs
namespace Go.Abs
open Go.RowKit
variable {l z:List UInt32} {n zn:Nat} {s:Int}
theorem Vj (hs:AS s n) (hn:n<=31) (aQ:z.length=l.length) (ah:AB z=AB l/2^n) (aR:zn=z.length) (sl:l.length<=17592186044416):CF 368 [.one (.sl .u32 l),.one (.int .i64 s)] (.one (.own .u32 z zn)):=by
 have es:=hs.eq;refine AH Tryz.func368 (by kernel_rfl) rfl fun E hE=>?_
 conv=>cbv
 rintro n9 ⟨e9,f9⟩;conv=>cbv
 refine⟨fun _=>⟨by omega,by omega,by show _*4<=140737488355328;omega⟩,?_⟩;intro N (O:List UInt32) H;have aF:=H.1;have u:O=List.replicate N (0:el .u32):=H.2;have az:O.length=N:=by rw[u,List.length_replicate]
 conv=>cbv
 intro ak I;have aH:=I.eq;have f12:=I.le;conv=>cbv
 refine .inr ?_
 obtain⟨J0,C⟩:∃J:List AV->List AM->Nat->Prop,J=fun vs bl k=>∃(o:List UInt32) (m i':Nat) (L i:Int),vs=[.one (.sl .u32 l),.one (.int .i64 s),.one (.AT .u32 10 0 0 m),.one (.sl .u32 l),.one (.int .i64 L),.one (.int .i64 i)]/\
  bl=[.arr 0 .u32 o]/\(o.length=l.length/\m=o.length/\Cb L l.length/\AS i i'/\i'<=l.length)/\
  AB (o.take i')=AB l/2^n%2^(32*i')/\k=l.length-i':=⟨_,rfl⟩
 refine⟨[0,1,5,11,12,13],[10],J0,⟨l.length-0,by rw[C];exact⟨O,N,0,ak,0,rfl,rfl,⟨by rw[u,List.length_replicate];omega,by rw[u,List.length_replicate],I,BC 0,by omega⟩,by simp[AB,Nat.mod_one],rfl⟩⟩,?_⟩;intro vs bl aS hj;rw[C] at hj;obtain⟨o,m,i',L,i,rfl,rfl,⟨ho,hm,hL,hi,aO⟩,hinv,aP⟩:=hj;conv=>cbv
 have eL:=hL.eq;have ei:=hi.eq;intro al U;conv=>cbv
 cases al <;> conv=>cbv
 ·have ai:=Ad U;have hk:i'=l.length:=by omega
  have a6:AB o=AB l/2^n:=by rw[hk,<-ho,List.take_length,ho] at hinv;rw[hinv];exact Nat.mod_eq_of_lt (Nat.lt_of_le_of_lt (Nat.div_le_self _ _) (CL l))
  exact fA ⟨⟨rfl,.inr (.inl ⟨_,_,by decide,rfl,rfl,hm,rfl,C2 (KI (by omega) (by rw[ah,a6])) (by omega)⟩),trivial⟩,trivial⟩ rfl (by simp)
 have ai:=Ae U;refine .inr ?_;obtain⟨j,A⟩:=AG (l:=l) (i:=i') (by omega);refine⟨j,fun _=>⟨by omega,by rw[show (i).toNat=i' by omega];exact A⟩,?_⟩;try conv=>cbv
 intro aT V;have aI:=V.eq;have f17:=V.lt;conv=>cbv
 intro ab W;conv=>cbv
 refine g2 (by omega) ?_;obtain⟨au,g,W⟩:∃q:Nat,q=j.toNat/2^n/\ab=q:=⟨_,rfl,shr_var W (by omega) (by omega) (by show n<=32;omega)⟩
 have aG:au<=j.toNat:=by rw[g];exact Nat.div_le_self _ _
 refine g2 (by omega) ?_;intro D aC;conv=>cbv
 obtain⟨F,v⟩:=Bm (n:=ab) (by omega);have av:=v.eq;have ax:=v.lt;refine⟨F,fun _=>⟨by show _<List.length (α:=UInt32) o;(first | omega | (simp;omega)),Bl v⟩,?_⟩;intro (h:List UInt32) (d:h=List.set (α:=UInt32) o D F);have aA:h.length=o.length:=by rw[d,List.length_set]
 conv=>cbv
 intro aU aL;conv=>cbv
 refine g1 (by omega) ?_;rintro aV ⟨aJ,f27⟩;conv=>cbv
 intro an X;conv=>cbv
 refine .inr ?_;cases an <;> conv=>cbv
 ·have aj:=Ad X;intro S af;conv=>cbv
  refine g1 (by omega) ?_;refine⟨l.length-(i'+1),?_,?_⟩
  ·omega
  rw[C]
  have ew:(F.toNat)=j.toNat/2^n+0*2^(32-n)%4294967296:=by
   rw[Nat.zero_mul,<-g];omega
  refine⟨h,m,i'+1,L,S,rfl,rfl,⟨by rw[d,List.length_set];exact ho,by rw[d,List.length_set];exact hm,hL,⟨by omega⟩,by omega⟩,?_,rfl⟩;rw[d,show D=i' by omega,D5 (by omega),DX,List.length_take,Nat.min_eq_left (by omega),hinv,Mv,ew];rw[Nat.div_div_eq_div_mul,Nat.mul_comm (2^n),<-Nat.div_div_eq_div_mul,Lc (by omega:i'<=l.length),DE A,List.drop_eq_nil_of_le (by omega:l.length<=i'+1)];rw[<-Vl (y:=0) (r:=0) (by omega) hn];simp[AB]
 have aj:=Ae X;refine g2 (by omega) ?_;intro a8 aD;conv=>cbv
 obtain⟨ad,B⟩:=AG (l:=h) (i:=a8) (by omega);refine⟨ad,fun _=>B,?_⟩;try conv=>cbv
 intro aW Y;have ae:=Y.eq;have f32:=Y.lt;conv=>cbv
 intro ao aM;conv=>cbv
 refine g1 (by omega) ?_;obtain⟨f,G⟩:=AG (l:=l) (i:=(i'+1)) (by omega);refine⟨f,fun _=>⟨by omega,by rw[show (ao).toNat=(i'+1) by omega];exact G⟩,?_⟩;try conv=>cbv
 intro aX Z;have aK:=Z.eq;have f37:=Z.lt;conv=>cbv
 intro aY a1;conv=>cbv
 have a1:=wrap_u64 a1;intro aZ aN;conv=>cbv
 refine g1 (by omega) ?_;intro aq K;conv=>cbv
 refine g2 (by omega) ?_;obtain⟨b0,a7,K⟩:∃q:Nat,q=f.toNat*2^(32-n)%18446744073709551616/\aq=q:=⟨_,rfl,Pk K (by omega) (by omega) (by omega)⟩
 intro ar M;conv=>cbv
 have M:=wrap_u32 M;intro R a2;conv=>cbv
 have bo:0<=R/\R<4294967296:=by rw[wrap_u32 a2];omega
 have ex:ad=F:=by rw[d,show a8=D by omega,List.getElem?_set_self (by omega)] at B;exact (Option.some.inj B).symm
 refine g2 (by omega) ?_;intro aa aE;conv=>cbv
 obtain⟨T,w⟩:=Bm (n:=R) (by omega);have aw:=w.eq;have ay:=w.lt;refine⟨T,fun _=>⟨by show _<List.length (α:=UInt32) h;(first | omega | (simp;omega)),Bl w⟩,?_⟩;intro (P:List UInt32) (t:P=List.set (α:=UInt32) h aa T);have aB:P.length=h.length:=by rw[t,List.length_set]
 conv=>cbv
 refine g2 rfl ?_;intro S af;conv=>cbv
 refine g1 (by omega) ?_;refine⟨l.length-(i'+1),?_,?_⟩
 ·omega
 rw[C]
 have ew:(T.toNat)=j.toNat/2^n+f.toNat*2^(32-n)%4294967296:=by
  have hq:2^n*2^(32-n)=4294967296:=by rw[<-Nat.pow_add,show n+(32-n)=32 by omega]
  have ag:j.toNat/2^n<2^(32-n):=Nat.div_lt_of_lt_mul (by rw[hq];omega);have a5:f.toNat*2^(32-n)%4294967296=2^(32-n)*(f.toNat%2^n):=by rw[<-hq,Nat.mul_comm f.toNat,Nat.mul_comm (2^n),Nat.mul_mod_mul_left]
  have h5:ar=((f.toNat*2^(32-n)%4294967296:Nat):Int):=by rw[M,K,a7];generalize f.toNat*2^(32-n)=Q;omega
  have h6:=MQ a2 (p:=j.toNat/2^n) (q:=f.toNat*2^(32-n)%4294967296) (by rw[ae,ex,<-g];omega) h5 (by rw[<-g];omega) (by omega);rw[a5,I9 ag,<-a5,<-g] at h6;rw[<-g]
  generalize f.toNat*2^(32-n)%4294967296=Q at*
  omega
 refine⟨P,m,i'+1,L,S,rfl,rfl,⟨by rw[t,d,List.length_set,List.length_set];exact ho,by rw[t,d,List.length_set,List.length_set];exact hm,hL,⟨by omega⟩,by omega⟩,?_,rfl⟩;rw[t,show aa=i' by omega,D5 (by rw[d,List.length_set];omega),d,show D=i' by omega,GO (Nat.le_refl _),DX,List.length_take,Nat.min_eq_left (by omega),hinv,Mv,ew];rw[Nat.div_div_eq_div_mul,Nat.mul_comm (2^n),<-Nat.div_div_eq_div_mul,Lc (by omega:i'<=l.length),DE A,DE (show l[i'+1]? =some f from G)];rw[Vl (by omega) hn]
theorem Vi (hs:AS s n) (hn:n<=31) (aH:z.length=l.length+1) (ad:AB z=AB l*2^n) (aI:zn=z.length) (sl:l.length<=17592186044416):CF 365 [.one (.sl .u32 l),.one (.int .i64 s)] (.one (.own .u32 z zn)):=by
 have es:=hs.eq;refine AH Tryz.func365 (by kernel_rfl) rfl fun E hE=>?_
 conv=>cbv
 rintro aK ⟨az,f10⟩;conv=>cbv
 intro aL aC;conv=>cbv
 refine g1 (by omega) ?_;refine⟨fun _=>⟨by omega,by omega,by show _*4<=140737488355328;omega⟩,?_⟩;intro H (I:List UInt32) C;have ay:=C.1;have f:I=List.replicate H (0:el .u32):=C.2;have aq:I.length=H:=by rw[f,List.length_replicate]
 conv=>cbv
 intro af D;have aA:=D.eq;have f14:=D.le;conv=>cbv
 refine .inr ?_
 obtain⟨J0,F⟩:∃J:List AV->List AM->Nat->Prop,J=fun vs bl k=>∃(o:List UInt32) (c:UInt32) (m i':Nat) (L i:Int),vs=[.one (.sl .u32 l),.one (.int .i64 s),.one (.AT .u32 12 0 0 m),.one (.sl .u32 l),.one (.int .i64 L),.one (.int .i64 i)]/\
  bl=[.arr 0 .u32 o]/\(o.length=l.length+1/\m=o.length/\Cb L l.length/\AS i i'/\i'<=l.length)/\(o[i']? =some c/\c.toNat<2^n)/\
  AB (o.take i')+2^(32*i')*c.toNat=AB (l.take i')*2^n/\k=l.length-i':=⟨_,rfl⟩
 refine⟨[0,1,5,13,14,15],[12],J0,⟨l.length-0,by rw[F];exact⟨I,0,H,0,af,0,rfl,rfl,⟨by rw[f,List.length_replicate];omega,by rw[f,List.length_replicate],D,BC 0,by omega⟩,⟨by rw[f,List.getElem?_replicate,if_pos (by omega)],Nat.two_pow_pos n⟩,by simp[AB],rfl⟩⟩,?_⟩;intro vs bl aJ hj;rw[F] at hj;obtain⟨o,c,m,i',L,i,rfl,rfl,⟨ho,hm,hL,hi,aF⟩,⟨hc,aa⟩,hinv,aG⟩:=hj;conv=>cbv
 have eL:=hL.eq;have ei:=hi.eq;intro ag Q;conv=>cbv
 cases ag <;> conv=>cbv
 ·have ae:=Ad Q;have hk:i'=l.length:=by omega
  have Z:AB o=AB l*2^n:=by rw[hk,List.take_length,<-B6 (l:=o) (by rw[<-hk];exact hc),List.take_of_length_le (by omega)] at hinv;exact hinv
  exact fA ⟨⟨rfl,.inr (.inl ⟨_,_,by decide,rfl,rfl,hm,rfl,C2 (KI (by omega) (by rw[ad,Z])) (by omega)⟩),trivial⟩,trivial⟩ rfl (by simp)
 have ae:=Ae Q;refine .inr ?_;obtain⟨d,B⟩:=AG (l:=l) (i:=i') (by omega);refine⟨d,fun _=>⟨by omega,by rw[show (i).toNat=i' by omega];exact B⟩,?_⟩;try conv=>cbv
 intro aM R;have aB:=R.eq;have f19:=R.lt;conv=>cbv
 intro aN S;conv=>cbv
 have S:=wrap_u64 S;intro ah T;conv=>cbv
 refine g2 (by omega) ?_;have a7:d.toNat*2^n<9223372036854775808:=Nat.mul_lt_mul_of_lt_of_le (by omega:d.toNat<4294967296) (Nat.pow_le_pow_right (by decide) hn:2^n<=2^31) (by decide);obtain⟨O,g,T⟩:∃q:Nat,q=d.toNat*2^n/\ah=q:=⟨_,rfl,(Pk (p:=d.toNat) (e:=n) T (by omega) (by omega) (by omega)).trans (by congr 1;exact Nat.mod_eq_of_lt (by omega))⟩
 rw[<-g] at a7;refine g2 (by omega) ?_;intro a2 av;conv=>cbv
 obtain⟨a6,u⟩:=AG (l:=o) (i:=a2) (by omega);refine⟨a6,fun _=>u,?_⟩;try conv=>cbv
 intro aO U;have a8:=U.eq;have f27:=U.lt;conv=>cbv
 intro aP V;conv=>cbv
 have V:=wrap_u32 V;intro M W;conv=>cbv
 have bo:0<=M/\M<4294967296:=by rw[wrap_u32 W];omega
 refine g2 (by omega) ?_;intro a5 aw;conv=>cbv
 obtain⟨w,r⟩:=Bm (n:=M) (by omega);have ak:=r.eq;have an:=r.lt;refine⟨w,fun _=>⟨by show _<List.length (α:=UInt32) o;(first | omega | (simp;omega)),Bl r⟩,?_⟩;intro (v:List UInt32) (A:v=List.set (α:=UInt32) o a5 w);have ar:v.length=o.length:=by rw[A,List.length_set]
 conv=>cbv
 intro aQ aD;conv=>cbv
 refine g1 (by omega) ?_;intro aR X;conv=>cbv
 refine g2 (by omega) ?_;have X:=Da (p:=4294967296) X rfl;intro ai Y;conv=>cbv
 have Y:=wrap_u32 Y;refine g2 (by omega) ?_;intro G ax;conv=>cbv
 obtain⟨h,t⟩:=Bm (n:=ai) (by omega);have al:=t.eq;have ao:=t.lt;refine⟨h,fun _=>⟨by show _<List.length (α:=UInt32) v;(first | omega | (simp;omega)),Bl t⟩,?_⟩;intro (K:List UInt32) (j:K=List.set (α:=UInt32) v G h);have au:K.length=v.length:=by rw[j,List.length_set]
 conv=>cbv
 intro aj aE;conv=>cbv
 refine g1 (by omega) ?_;refine⟨l.length-(i'+1),?_,?_⟩
 ·omega
 rw[F];have hq:2^n*2^(32-n)=4294967296:=by rw[<-Nat.pow_add,show n+(32-n)=32 by omega]
 have ec:a6=c:=by rw[show a2=i' by omega,hc] at u;exact (Option.some.inj u).symm
 have a1:O%4294967296=2^n*(d.toNat%2^(32-n)):=by rw[g,Nat.mul_comm d.toNat,<-hq,Nat.mul_mod_mul_left]
 have h6:=MQ W (p:=c.toNat) (q:=O%4294967296) (by rw[a8,ec]) (by omega) (by have:=c.toNat_lt;omega) (by omega);rw[a1,I9 aa,<-a1] at h6
 have ab:h.toNat<2^n:=by
  have:O/4294967296<2^n:=Nat.div_lt_of_lt_mul (by rw[g];exact (Nat.mul_lt_mul_right (Nat.two_pow_pos n)).2 (by omega));omega
 refine⟨K,h,m,i'+1,L,aj,rfl,rfl,⟨by omega,by omega,hL,⟨by omega⟩,by omega⟩,⟨by rw[j,show G=i'+1 by omega,List.getElem?_set_self (by omega)],ab⟩,?_,rfl⟩;rw[j,show G=i'+1 by omega,GO (Nat.le_refl _),A,show a5=i' by omega,D5 (by omega),DX,List.length_take,Nat.min_eq_left (by omega),B6 B,DR,Nat.add_mul,<-hinv];have e1:w.toNat+4294967296*h.toNat=c.toNat+d.toNat*2^n:=by rw[<-g];omega
 have e2:2^(32*i')*(w.toNat+4294967296*h.toNat)=2^(32*i')*(c.toNat+d.toNat*2^n):=by rw[e1]
 generalize 2^(32*i')=P at*
 generalize 2^n=N at*
 grind
theorem Zl {z1 z2:List UInt32} {d:Int} {b:Nat} (hd:AS d b) (hb:0<b) (aD:b<4294967296) (aa:z1=AR (AB l/b)) (ab:z2=AR (AB l%b)) (sl:l.length<=17592186044416):CF 363 [.one (.sl .u32 l),.one (.int .u32 d)] (.AE [(false,[.sl .u32 z1]),(false,[.sl .u32 z2])]):=by
 have ed:=hd.eq;refine AH Tryz.func363 (by kernel_rfl) rfl fun E hE=>?_
 conv=>cbv
 rintro aI ⟨ay,f10⟩;conv=>cbv
 refine⟨fun _=>⟨by omega,by omega,by show _*4<=140737488355328;omega⟩,?_⟩;intro P (S:List UInt32) H;have ax:=H.1;have h:S=List.replicate P (0:el .u32):=H.2;have au:S.length=P:=by rw[h,List.length_replicate]
 conv=>cbv
 rintro aJ ⟨az,f13⟩;conv=>cbv
 intro af aB;conv=>cbv
 refine g1 (by omega) ?_;refine .inr ?_
 obtain⟨J0,M⟩:∃J:List AV->List AM->Nat->Prop,J=fun vs bl k=>∃(o:List UInt32) (m g A:Nat) (r j:Int),vs=[.one (.sl .u32 l),.one (.int .u32 d),.one (.AT .u32 11 0 0 m),.one (.int .u64 r),.one (.int .i64 j)]/\
  bl=[.arr 0 .u32 o]/\(o.length=l.length/\m=o.length/\AS (j+1) A/\A<=l.length/\AS r g/\g<b)/\
  AB (l.drop A)=AB (o.drop A)*b+g/\k=A:=⟨_,rfl⟩
 refine⟨[0,1,6,7,8],[11],J0,⟨l.length,by rw[M];exact⟨S,P,0,l.length,0,af,rfl,rfl,⟨by rw[h,List.length_replicate];omega,by rw[h,List.length_replicate],⟨by omega⟩,by omega,BC 0,hb⟩,by rw[List.drop_length,List.drop_eq_nil_of_le (by rw[h,List.length_replicate];omega)];simp[AB],rfl⟩⟩,?_⟩;intro vs bl aH Z;rw[M] at Z;obtain⟨o,m,g,A,r,j,rfl,rfl,⟨ho,hm,Z,aE,hr,N⟩,hinv,aF⟩:=Z;conv=>cbv
 have ej:=Z.eq;have er:=hr.eq;intro ag U;conv=>cbv
 cases ag <;> conv=>cbv
 ·have ad:=EC U;have t:m<=(o).length:=by omega
  obtain⟨ae,D⟩:=xN ((Bk ((o).take m)).length);obtain⟨a7,O⟩:=Dl t D;refine .inr (.inr (.inl ⟨[],.one (.AT .u32 0 0 0 ae),.arr 0 .u32 o,fun _=>⟨by first | decide | simp[Bw,B4],trivial⟩,fun _=>⟨DS hE (JO t (by omega) D),rfl,rfl⟩,?_⟩));try conv=>cbv
  obtain⟨aN,F⟩:=xU (AR g);refine cL hE (Is hr (by omega) F) t1 ?_;try conv=>cbv
  have hk:A=0:=by omega
  rw[hk,List.drop_zero,List.drop_zero] at hinv;have hq:AB o=AB l/b:=by rw[hinv,Nat.add_comm,Nat.add_mul_div_right _ _ hb,Nat.div_eq_of_lt N,Nat.zero_add]
  have a8:g=AB l%b:=by rw[hinv,Nat.add_comm,Nat.add_mul_mod_self_right,Nat.mod_eq_of_lt N]
  exact fA ⟨⟨rfl,.inl ⟨_,rfl,by omega,congrArg _ (by rw[List.drop_zero,O,aa,hm,List.take_length,hq])⟩,trivial⟩,⟨rfl,congrArg _ (by rw[ab,F,a8]),trivial⟩,trivial⟩ rfl (by simp)
 have ad:=ED U;refine .inr ?_;intro ai I;conv=>cbv
 refine g2 (by omega) ?_;have I:=ID (p:=4294967296) I rfl;have I:ai=((g*4294967296:Nat):Int):=by clear hinv;omega
 obtain⟨i',rfl⟩:∃i',A=i'+1:=⟨A-1,by omega⟩
 obtain⟨f,G⟩:=AG (l:=l) (i:=i') (by omega);refine⟨f,fun _=>⟨by omega,by rw[show (j).toNat=i' by omega];exact G⟩,?_⟩;try conv=>cbv
 intro aK V;have aA:=V.eq;have f24:=V.lt;conv=>cbv
 intro aL W;conv=>cbv
 have W:=wrap_u64 W;intro aM w;conv=>cbv
 have w:=H8 (p:=g) (q:=f.toNat) w (by omega) (by omega) (by omega) (by omega);intro aj X;conv=>cbv
 have X:=wrap_u64 X;intro ak K;conv=>cbv
 refine g2 (by omega) ?_;have K:=wrap_u64 K;intro al L;conv=>cbv
 have L:=wrap_u32 L;have a1:aj=(b:Int):=by omega
 have a2:ak=(((f.toNat+4294967296*g)/b:Nat):Int):=by rw[K,w,a1,<-Int.natCast_ediv];have:=Nat.div_le_self (f.toNat+4294967296*g) b;generalize (f.toNat+4294967296*g)/b=Q at *;clear hinv;omega
 refine g2 (by omega) ?_;intro B aw;conv=>cbv
 obtain⟨v,u⟩:=Bm (n:=al) (by omega);have aq:=u.eq;have ar:=u.lt;refine⟨v,fun _=>⟨by show _<List.length (α:=UInt32) o;(first | omega | (simp;omega)),Bl u⟩,?_⟩;intro (T:List UInt32) (C:T=List.set (α:=UInt32) o B v);have av:T.length=o.length:=by rw[C,List.length_set]
 conv=>cbv
 intro an Y;conv=>cbv
 have Y:=wrap_u64 Y;intro ao a6;conv=>cbv
 refine g2 (by omega) ?_;intro ah aC;conv=>cbv
 refine g1 (by omega) ?_;refine⟨i',?_,?_⟩
 ·omega
 rw[M];have a5:an=(b:Int):=by omega
 have h5:=Nat.div_add_mod (f.toNat+4294967296*g) b;refine⟨T,m,(f.toNat+4294967296*g)%b,i',ao,ah,rfl,rfl,⟨by omega,by omega,⟨by omega⟩,by omega,⟨by rw[a6,w,a5];simp⟩,Nat.mod_lt _ hb⟩,?_,rfl⟩
 have aG:(f.toNat+4294967296*g)/b<4294967296:=Nat.div_lt_of_lt_mul (by
  have:4294967296*(g+1)<=4294967296*b:=Nat.mul_le_mul_left _ N;rw[Nat.mul_comm b];omega)
 have ew:v.toNat=(f.toNat+4294967296*g)/b:=by
  rw[a2] at L
  generalize (f.toNat+4294967296*g)/b=Q at*
  clear hinv
  omega
 rw[DE G,hinv,C,DE (l:=o.set B v) (i:=i') (x:=v) (by rw[show B=i' by omega,List.getElem?_set_self (by omega)]),show B=i' by omega,List.drop_set_of_lt (by omega),ew]
 generalize (f.toNat+4294967296*g)/b=Q at*
 generalize (f.toNat+4294967296*g)%b=R at*
 grind
end Go.Abs
