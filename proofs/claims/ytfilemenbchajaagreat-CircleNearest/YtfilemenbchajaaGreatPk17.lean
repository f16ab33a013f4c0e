/- Part 18 of a proof. Conditions: each theorem's own. -/
import Derived.Test.YtfilemenbchajaaGreatPk16
set_option linter.all false
set_option maxHeartbeats 8000000
set_option maxRecDepth 20000
open Go.Proofs
namespace Go.Abs
open Go.RowKit
variable {a b n:Nat} {c y:Int} {l m z:List UInt32}
theorem Dx (P:AB l=n) (B:z=AR n):CF 328 [.one (.sl .u32 l)] (.one (.sl .u32 z)):=by
 have B:Bk l=z:=by rw[B,<-P,Kl]
 refine AH Tryz.func328 (by kernel_rfl) rfl fun E Z=>?_
 conv=>cbv
 refine .inr ?_;obtain⟨I,p⟩:=xJ fun vs J k=>∃m:List UInt32,vs=[.one (.sl .u32 m)]/\Bk m=z/\k=m.length
 refine⟨[0],[],I,⟨l.length,by rw[p];exact⟨l,rfl,B,rfl⟩⟩,?_⟩;intro vs J R G;rw[p] at G;obtain⟨m,rfl,q,O⟩:=G;conv=>cbv
 rintro n4 ⟨X,f4⟩;conv=>cbv
 intro W D;conv=>cbv
 cases W <;> conv=>cbv
 ·have Q:=CA D;have w:m=[]:=List.eq_nil_of_length_eq_zero (by omega);exact fA ⟨⟨rfl,congrArg _ (by rw[<-q,w];rfl),trivial⟩,trivial⟩ rfl (by simp)
 have Q:=CB D;rintro n9 ⟨Y,f9⟩;conv=>cbv
 intro f M;conv=>cbv
 refine g1 (by omega) ?_;obtain⟨g,d⟩:=AG (l:=m) (i:=(f).toNat) (by omega);refine⟨g,fun _=>⟨by omega,d⟩,?_⟩;try conv=>cbv
 intro T o;have K:=o.eq;have f12:=o.lt;conv=>cbv
 intro C s;conv=>cbv
 cases C <;> conv=>cbv
 ·have t:=Au s;have A:g≠0:=fun h=>by subst h;exact t o.eq
  have v:m=m.take (f).toNat++[g]:=by have:=Bi d;rw[List.take_of_length_le (by omega)] at this;exact this
  exact fA ⟨⟨rfl,congrArg _ (by rw[<-q,v,JM A]),trivial⟩,trivial⟩ rfl (by simp)
 have t:=Av s;refine .inr ?_;rintro U ⟨L,f17⟩;conv=>cbv
 intro V N;conv=>cbv
 refine g1 (by omega) ?_;intro S H;conv=>cbv
 refine g2 (by omega) ?_;intro u F;conv=>cbv
 intro r j;conv=>cbv
 refine⟨r.length,?_,?_⟩
 ·rw[j];simp;omega
 rw[p];have el:r=m.take (f).toNat:=by rw[j,show u=(f).toNat by omega];simp
 refine⟨r,rfl,?_,rfl⟩;obtain rfl:g=0:=UInt32.toNat_inj.1 (by show _=0;omega)
 have v:m=m.take (f).toNat++[0]:=by
  have:=Bi d;rw[List.take_of_length_le (by omega)] at this;exact this
 rw[el,<-q];conv=>rhs;rw[v]
 rw[IF]
theorem TG (x:Int):CF 357 [.one (.int .i64 x)] (.one (.bool false)):=by
 refine AH Tryz.func357 (by kernel_rfl) rfl fun E f=>?_
 conv=>cbv
 intro g d;conv=>cbv
 exact fA ⟨⟨rfl,congrArg _ (by rw[d];simp),trivial⟩,trivial⟩ rfl (by simp)
theorem TH (x:Int):CF 372 [.one (.int .u32 x)] (.one (.bool false)):=by
 refine AH Tryz.func372 (by kernel_rfl) rfl fun E f=>?_
 conv=>cbv
 intro g d;conv=>cbv
 exact fA ⟨⟨rfl,congrArg _ (by rw[d];simp),trivial⟩,trivial⟩ rfl (by simp)
theorem QI {x:Int} (g:c=BT x y):CF 332 [.one (.int .i64 x),.one (.int .i64 y)] (.one (.int .i64 c)):=by
 refine AH Tryz.func332 (by kernel_rfl) rfl fun E p=>?_
 conv=>cbv
 refine cL p (TG _) t1 ?_;try conv=>cbv
 refine cL p (TG _) t1 ?_;try conv=>cbv
 intro k d;conv=>cbv
 cases k <;> conv=>cbv
 ·have h:=Ad d;intro o f;conv=>cbv
  cases o <;> conv=>cbv
  ·have j:=CA f;exact fA ⟨⟨rfl,congrArg _ (by rw[g];unfold BT;split <;> (try split) <;> omega),trivial⟩,trivial⟩ rfl (by simp)
  have j:=CB f;exact fA ⟨⟨rfl,congrArg _ (by rw[g];unfold BT;split <;> (try split) <;> omega),trivial⟩,trivial⟩ rfl (by simp)
 have h:=Ae d;exact fA ⟨⟨rfl,congrArg _ (by rw[g];unfold BT;split <;> (try split) <;> omega),trivial⟩,trivial⟩ rfl (by simp)
theorem Wo {x:Int} (g:c=BT x y):CF 358 [.one (.int .u32 x),.one (.int .u32 y)] (.one (.int .i64 c)):=by
 refine AH Tryz.func358 (by kernel_rfl) rfl fun E p=>?_
 conv=>cbv
 refine cL p (TH _) t1 ?_;try conv=>cbv
 refine cL p (TH _) t1 ?_;try conv=>cbv
 intro k d;conv=>cbv
 cases k <;> conv=>cbv
 ·have h:=Ad d;intro o f;conv=>cbv
  cases o <;> conv=>cbv
  ·have j:=CA f;exact fA ⟨⟨rfl,congrArg _ (by rw[g];unfold BT;split <;> (try split) <;> omega),trivial⟩,trivial⟩ rfl (by simp)
  have j:=CB f;exact fA ⟨⟨rfl,congrArg _ (by rw[g];unfold BT;split <;> (try split) <;> omega),trivial⟩,trivial⟩ rfl (by simp)
 have h:=Ae d;exact fA ⟨⟨rfl,congrArg _ (by rw[g];unfold BT;split <;> (try split) <;> omega),trivial⟩,trivial⟩ rfl (by simp)
theorem JO {m:Nat} (S:n<=l.length) (hl:l.length<=140737488355328) (hm:m=(Bk (l.take n)).length):GQ Tryz.prog 328 (.AT .u32 0 0 0 n) (.arr 0 .u32 l) [] (.one (.AT .u32 0 0 0 m)) (.arr 0 .u32 l):=by
 refine Jk Tryz.func328 (by kernel_rfl) rfl fun E hE=>?_
 conv=>cbv
 refine .inr ?_;obtain⟨J,j⟩:=xJ fun vs B k=>∃q:Nat,vs=[.one (.AT .u32 0 0 0 q)]/\B=[.arr 0 .u32 l]/\q<=l.length/\m=(Bk (l.take q)).length/\k=q
 refine⟨[0],[0],J,⟨n,by rw[j];exact⟨n,rfl,rfl,S,hm,rfl⟩⟩,?_⟩;intro vs B U G;rw[j] at G;obtain⟨q,rfl,rfl,hq,o,R⟩:=G;conv=>cbv
 intro n4 P;have e4:=P.eq;conv=>cbv
 intro Z C;conv=>cbv
 cases Z <;> conv=>cbv
 ·have T:=CA C;refine⟨fun _=>⟨⟨⟨rfl,.inr (.inr ⟨rfl,rfl,congrArg (AC.AT .u32 0 0 0) (by rw[o,show q=0 by omega];rfl)⟩),trivial⟩,trivial⟩,rfl,by simp⟩,fun _=>rfl⟩
 have T:=CB C;intro n9 Q;have e9:=Q.eq;conv=>cbv
 intro V N;conv=>cbv
 refine g1 (by omega) ?_;refine g2 (by omega) ?_;intro p H;conv=>cbv
 obtain⟨r,d⟩:=AG (l:=l) (i:=p) (by omega);refine⟨r,fun _=>d,?_⟩;try conv=>cbv
 intro W g;have L:=g.eq;have f12:=g.lt;conv=>cbv
 intro w s;conv=>cbv
 cases w <;> conv=>cbv
 ·have t:=Au s;have v:r≠0:=fun h=>by subst h;exact t g.eq
  refine⟨fun _=>⟨⟨⟨rfl,.inr (.inr ⟨rfl,rfl,congrArg (AC.AT .u32 0 0 0) (by rw[o,show q=p+1 by omega,Bi d,JM v,List.length_append,List.length_take];simp;omega)⟩),trivial⟩,trivial⟩,rfl,by simp⟩,fun _=>rfl⟩
 have t:=Av s;refine .inr ?_;intro X u;have M:=u.eq;conv=>cbv
 intro Y O;conv=>cbv
 refine g1 (by omega) ?_;refine g2 (by omega) ?_;intro K D;conv=>cbv
 rintro A f ⟨I,F⟩;conv=>cbv
 refine⟨f,?_,?_⟩
 ·omega
 rw[j];obtain rfl:A=0:=by omega
 refine⟨f,rfl,rfl,by omega,?_,rfl⟩;obtain rfl:r=0:=UInt32.toNat_inj.1 (by show _=0;omega);rw[o,show q=f+1 by omega,Bi (x:=0) (by rw[show f=p by omega];exact d),IF]
theorem Ub {zn:Nat} (hl:l=AR a) (hm:m=AR b) (hz:z=AR (a+b)) (aj:zn=z.length) (sl:l.length<=17592186044416) (sm:m.length<=17592186044416):CF 370 [.one (.sl .u32 l),.one (.sl .u32 m)] (.one (.own .u32 z zn)):=by
 refine AH Tryz.func370 (by kernel_rfl) rfl fun E hE=>?_
 conv=>cbv
 rintro aT ⟨aH,f10⟩;conv=>cbv
 rintro aU ⟨aI,f12⟩;conv=>cbv
 intro ay a2;conv=>cbv
 obtain⟨aq,D⟩:=xK fun vs bl=>∃(p q:Nat) (x y:List UInt32),vs=[.one (.sl .u32 x),.one (.sl .u32 y)]/\x=AR p/\y=AR q/\p+q=a+b/\y.length<=x.length/\x.length<=17592186044416
 refine .inl ⟨[0,1],[],aq,?_,?_⟩
 ·intro vs bl hj;rw[D] at hj;obtain⟨p,q,x,y,rfl,hx,hy,M,ai,aR⟩:=hj;conv=>cbv
  rintro aV ⟨aJ,f17⟩;conv=>cbv
  intro aW aO;conv=>cbv
  refine g1 (by omega) ?_;refine⟨fun _=>⟨by omega,by omega,by show _*4<=140737488355328;omega⟩,?_⟩;intro T (U:List UInt32) Q;have N:=Q.1;have v:U=List.replicate T (0:el .u32):=Q.2;have aG:U.length=T:=by rw[v,List.length_replicate]
  conv=>cbv
  intro az S;have aK:=S.eq;have f21:=S.le;conv=>cbv
  refine .inr ?_
  obtain⟨J0,K⟩:∃J:List AV->List AM->Nat->Prop,J=fun vs bl k=>∃(o:List UInt32) (n Y i':Nat) (c L i:Int),vs=[.one (.sl .u32 x),.one (.sl .u32 y),.one (.AT .u32 19 0 0 n),.one (.int .u64 c),.one (.sl .u32 x),.one (.int .i64 L),.one (.int .i64 i)]/\
   bl=[.arr 0 .u32 o]/\(n=o.length/\o.length=i'/\Cb L x.length/\AS i i'/\i'<=x.length/\AS c Y/\Y<=1)/\
   AB o+2^(32*i')*Y=AB (x.take i')+AB (y.take i')/\k=x.length-i':=⟨_,rfl⟩
  refine⟨[0,1,5,6,20,21,22],[19],J0,⟨x.length-0,by rw[K];exact⟨U,T,0,0,0,az,0,rfl,rfl,⟨by rw[v,List.length_replicate],by rw[v,List.length_replicate,N];rfl,S,BC 0,by omega,BC 0,by omega⟩,by rw[v,N];simp[AB],rfl⟩⟩,?_⟩;intro vs bl aS hj;rw[K] at hj;obtain⟨o,n,Y,i',c,L,i,rfl,rfl,⟨hn,ho,hL,hi,aQ,hc,aP⟩,hinv,r⟩:=hj;conv=>cbv
  have eL:=hL.eq;have ei:=hi.eq;have ec:=hc.eq;intro aA a5;conv=>cbv
  cases aA <;> conv=>cbv
  ·have av:=Ad a5;intro C1 af;conv=>cbv
   refine .inr ?_;cases C1 <;> conv=>cbv
   ·have ax:=CA af;have r:i'=x.length:=by omega
    have g:AB o=p+q:=by rw[r,C5 (Nat.le_refl _),C5 ai,hx,hy,BB,BB,show Y=0 by omega] at hinv;omega
    exact fA ⟨⟨rfl,.inr (.inl ⟨_,_,by decide,rfl,rfl,hn,rfl,C2 (by rw[hz,<-M];exact (R3 g (by rw[ho,r,hx])).symm) (by rw[aj,hz,<-M,<-R3 g (by rw[ho,r,hx])])⟩),trivial⟩,trivial⟩ rfl (by simp)
   have ax:=CB af;intro aC ag;conv=>cbv
   have ag:=wrap_u32 ag;obtain⟨A,G⟩:=Bm (n:=aC) (by omega);have aE:=G.eq;have aF:=G.lt;refine⟨[A],fun _=>⟨rfl,by decide,rfl,⟨rfl,Bl G,trivial⟩⟩,.inl ?_⟩;try conv=>cbv
   refine .inl ⟨[A],fun _=>⟨rfl,by (first | rfl | omega),⟨_,rfl,by simp <;> omega,by simp⟩,by show (o.length+1)*4<=140737488355328;(try simp only[List.length_take,List.length_drop]);omega⟩,?_⟩;intro (ak:List UInt32) aD R;have O:ak=(o:List UInt32)++([A]:List UInt32):=R.1;have ah:aD=List.length (α:=UInt32) ak:=R.2;conv=>cbv
   have r:i'=x.length:=by omega
   have g:AB (o++[A])=p+q:=by rw[DX,show A.toNat=Y by omega,ho,<-BB p,<-BB q,<-hx,<-hy];rw[r,C5 (Nat.le_refl _),C5 ai] at hinv;rw[r];exact hinv
   have hw:A.toNat≠0:=by omega
   exact fA ⟨⟨rfl,.inr (.inl ⟨_,_,by decide,rfl,rfl,ah,rfl,C2 (by rw[hz,<-M,<-g,Nt hw,O]) (by rw[aj,hz,<-M,<-g,Nt hw,O])⟩),trivial⟩,trivial⟩ rfl (by simp)
  have av:=Ae a5;refine .inr ?_;obtain⟨X,H⟩:=AG (l:=x) (i:=i') (by omega);refine⟨X,fun _=>⟨by omega,by rw[show (i).toNat=i' by omega];exact H⟩,?_⟩;try conv=>cbv
  intro aX a6;have aL:=a6.eq;have f26:=a6.lt;conv=>cbv
  intro aY a7;conv=>cbv
  have a7:=wrap_u64 a7;intro al a8;conv=>cbv
  have a8:=wrap_u64 a8;rintro aZ ⟨aM,f33⟩;conv=>cbv
  intro aB aa;conv=>cbv
  refine .inr ?_;cases aB <;> conv=>cbv
  ·have aw:=Ad aa;intro V B;conv=>cbv
   have B:=wrap_u32 B;obtain⟨f,d⟩:=Bm (n:=V) (by omega);have Z:=d.eq;have a1:=d.lt;refine⟨[f],fun _=>⟨rfl,by decide,rfl,⟨rfl,Bl d,trivial⟩⟩,.inl ?_⟩;try conv=>cbv
   refine .inl ⟨[f],fun _=>⟨rfl,by (first | rfl | omega),⟨_,rfl,by simp <;> omega,by simp⟩,by show (o.length+1)*4<=140737488355328;(try simp only[List.length_take,List.length_drop]);omega⟩,?_⟩;intro (t:List UInt32) I j;have h:t=(o:List UInt32)++([f]:List UInt32):=j.1;have F:I=List.length (α:=UInt32) t:=j.2;conv=>cbv
   intro u C;conv=>cbv
   refine g2 (by omega) ?_;have C:=Da (p:=4294967296) C rfl;intro W ar;conv=>cbv
   refine g1 (by omega) ?_;refine⟨x.length-(i'+1),?_,?_⟩
   ·omega
   rw[K];refine⟨t,I,u.toNat,i'+1,u,L,W,rfl,rfl,⟨F,by rw[h];simp;omega,hL,⟨by omega⟩,by omega,⟨by omega⟩,by omega⟩,?_,rfl⟩;rw[h,B6 H,C5 (l:=y) (i:=i'+1) (by omega)];have hs:=LV (xi:=X.toNat) (yi:=0) (s:=al.toNat) (w:=f) ho hinv (by omega) (by omega);rw[show u.toNat=al.toNat/4294967296 by omega];rw[hs];rw[C5 (l:=y) (i:=i') (by omega)];omega
  have aw:=Ae aa;obtain⟨ao,P⟩:=AG (l:=y) (i:=i') (by omega);refine⟨ao,fun _=>⟨by omega,by rw[show (i).toNat=i' by omega];exact P⟩,?_⟩;try conv=>cbv
  intro b0 ab;have aN:=ab.eq;have f39:=ab.lt;conv=>cbv
  intro b1 ad;conv=>cbv
  have ad:=wrap_u64 ad;intro an ae;conv=>cbv
  have ae:=wrap_u64 ae;intro V B;conv=>cbv
  have B:=wrap_u32 B;obtain⟨f,d⟩:=Bm (n:=V) (by omega);have Z:=d.eq;have a1:=d.lt;refine⟨[f],fun _=>⟨rfl,by decide,rfl,⟨rfl,Bl d,trivial⟩⟩,.inl ?_⟩;try conv=>cbv
  refine .inl ⟨[f],fun _=>⟨rfl,by (first | rfl | omega),⟨_,rfl,by simp <;> omega,by simp⟩,by show (o.length+1)*4<=140737488355328;(try simp only[List.length_take,List.length_drop]);omega⟩,?_⟩;intro (t:List UInt32) I j;have h:t=(o:List UInt32)++([f]:List UInt32):=j.1;have F:I=List.length (α:=UInt32) t:=j.2;conv=>cbv
  intro u C;conv=>cbv
  refine g2 (by omega) ?_;have C:=Da (p:=4294967296) C rfl;intro W ar;conv=>cbv
  refine g1 (by omega) ?_;refine⟨x.length-(i'+1),?_,?_⟩
  ·omega
  rw[K];refine⟨t,I,u.toNat,i'+1,u,L,W,rfl,rfl,⟨F,by rw[h];simp;omega,hL,⟨by omega⟩,by omega,⟨by omega⟩,by omega⟩,?_,rfl⟩;rw[h,B6 H,B6 P];have hs:=LV (xi:=X.toNat) (yi:=ao.toNat) (s:=an.toNat) (w:=f) ho hinv (by omega) (by omega);rw[show u.toNat=an.toNat/4294967296 by omega];rw[hs]
 cases ay <;> conv=>cbv
 ·have au:=Ad a2;rw[D];exact⟨a,b,_,_,rfl,hl,hm,rfl,by omega,by omega⟩
 have au:=Ae a2;rw[D];exact⟨b,a,_,_,rfl,hm,hl,Nat.add_comm _ _,by omega,by omega⟩
theorem Ua (d:l=AR a) (hm:m=AR b) (f:z=AR (a+b)) (sl:l.length<=17592186044416) (g:m.length<=17592186044416):CF 370 [.one (.sl .u32 l),.one (.sl .u32 m)] (.one (.sl .u32 z)):=Cl (Ub d hm f rfl sl g)
end Go.Abs
namespace Go.Abs
open Go.RowKit
variable {b:Bool} {l z:List UInt32} {x:Int}
theorem EI {n:Bool} (o:x=if n=true then -(AB l:Int) else AB l) (h:Ag x b z):CF 293 [.one (.bool n),.one (.sl .u32 l)] (.agg [.bool b,.sl .u32 z]):=by
 refine AH Tryz.func293 (by kernel_rfl) rfl fun E q=>?_
 conv=>cbv
 obtain⟨s,d⟩:=xU (AR (AB l));refine cL q (Dx rfl d) t1 ?_;try conv=>cbv
 intro u g;have t:=g.eq;have f8:=g.le;conv=>cbv
 intro r k;conv=>cbv
 cases r <;> conv=>cbv
 ·have p:=Au k;have j:AB l≠0:=fun e=>p (by have:=g.eq;rw[d,e] at this;exact this)
  have f:Ag x n s:= .val d.symm o (fun e=>absurd e j);exact fA ⟨⟨rfl,congrArg _ ((f.uniq h rfl).1.symm),congrArg _ ((f.uniq h rfl).2.symm),trivial⟩,trivial⟩ rfl (by simp)
 have p:=Av k;have j:AB l=0:=by have e:=g.eq;rw[d] at e;exact EL.1 (List.length_eq_zero_iff.1 (by omega))
 have f:Ag x false []:= .val (n:=0) rfl (by rw[o,j];simp) (fun _=>rfl);exact fA ⟨⟨rfl,congrArg _ ((f.uniq h rfl).1.symm),.inr (.inl ⟨_,congrArg _ ((f.uniq h rfl).2.symm)⟩),trivial⟩,trivial⟩ rfl (by simp)
theorem Is {n:Int} {k:Nat} (C:AS n k) (I:k<18446744073709551616) (D:z=AR k):CF 294 [.one (.int .u64 n)] (.one (.sl .u32 z)):=by
 have H:=C.eq;refine AH Tryz.func294 (by kernel_rfl) rfl fun E B=>?_
 conv=>cbv
 intro n4 u;conv=>cbv
 have u:=wrap_u32 u;intro J v;conv=>cbv
 refine g2 (by omega) ?_;have v:=Da (p:=4294967296) v rfl;intro G w;conv=>cbv
 have w:=wrap_u32 w;obtain⟨g,d⟩:=Bm (n:=n4) (by omega);have q:=d.eq;have s:=d.lt;obtain⟨h,f⟩:=Bm (n:=G) (by omega);have r:=f.eq;have t:=f.lt;refine⟨[g,h],fun _=>⟨rfl,by decide,rfl,⟨rfl,Bl d,⟨rfl,Bl f,trivial⟩⟩⟩,.inl ?_⟩;try conv=>cbv
 obtain⟨F,j⟩:=xN ((Bk ([g,h].take 2)).length);obtain⟨A,o⟩:=Dl (by simp) j;refine .inr (.inr (.inl ⟨[],.one (.AT .u32 0 0 0 F),.arr 0 .u32 [g,h],fun _=>⟨by first | decide | simp[Bw,B4],trivial⟩,fun _=>⟨DS B (JO (by simp) (by simp) j),rfl,rfl⟩,?_⟩));try conv=>cbv
 exact fA ⟨⟨rfl,.inl ⟨_,rfl,by simp;omega,congrArg _ (by rw[List.drop_zero,o,D];congr 1;simp[AB];omega)⟩,trivial⟩,trivial⟩ rfl (by simp)
theorem IP (j:z=l) (s:l.length<=17592186044416):CF 289 [.one (.sl .u32 l)] (.one (.sl .u32 z)):=by
 refine AH Tryz.func289 (by kernel_rfl) rfl fun E r=>?_
 conv=>cbv
 intro n4 p;conv=>cbv
 refine⟨fun o=>?_,?_⟩
 ·conv=>cbv
  have g:l=[]:=by rw[p] at o;simpa using o
  exact fA ⟨⟨rfl,.inr (.inl ⟨_,congrArg _ (by rw[j,g])⟩),trivial⟩,trivial⟩ rfl (by simp)
 refine⟨[],fun _=>⟨rfl,by decide,rfl,trivial⟩,.inl ?_⟩;try conv=>cbv
 refine .inl ⟨l,fun _=>⟨rfl,by (first | rfl | omega),rfl,by show (0+l.length)*4<=140737488355328;(try simp only[List.length_take,List.length_drop]);omega⟩,?_⟩;intro (k:List UInt32) q f;have h:k=([]:List UInt32)++(l:List UInt32):=f.1;have d:q=List.length (α:=UInt32) k:=f.2;conv=>cbv
 exact fA ⟨⟨rfl,.inl ⟨_,rfl,by rw[d];simp,congrArg _ (by rw[j,d,h];simp)⟩,trivial⟩,trivial⟩ rfl (by simp)
theorem Kq (B: -9223372036854775808<=x/\x<9223372036854775808) (p:Ag x b z):CF 244 [.one (.int .i64 x)] (.agg [.bool b,.sl .u32 z]):=by
 refine AH Tryz.func244 (by kernel_rfl) rfl fun E o=>?_
 conv=>cbv
 intro C t;conv=>cbv
 have t:=wrap_u64 t;intro A u;conv=>cbv
 refine .inr ?_;cases A <;> conv=>cbv
 ·have w:=Ad u;intro q j;conv=>cbv
  obtain⟨s,f⟩:=xU (AR x.natAbs);refine cL o (Is (AS.of (k:=x.natAbs) (by omega)) (by omega) f) t1 ?_;try conv=>cbv
  obtain⟨g,h,d⟩:=Ac (x);refine cL (r:= .agg [.bool g,.sl .u32 h]) o (EI (by rw[f,BB,j];simp;omega) d) t2 ?_;try conv=>cbv
  exact fA ⟨⟨rfl,congrArg _ ((d.uniq p rfl).1.symm),congrArg _ ((d.uniq p rfl).2.symm),trivial⟩,trivial⟩ rfl (by simp)
 have w:=Ae u;intro D v;conv=>cbv
 have v:=wrap_u64 v;intro q j;conv=>cbv
 obtain⟨s,f⟩:=xU (AR x.natAbs);refine cL o (Is (AS.of (k:=x.natAbs) (by omega)) (by omega) f) t1 ?_;try conv=>cbv
 obtain⟨g,h,d⟩:=Ac (x);refine cL (r:= .agg [.bool g,.sl .u32 h]) o (EI (by rw[f,BB,j];simp;omega) d) t2 ?_;try conv=>cbv
 exact fA ⟨⟨rfl,congrArg _ ((d.uniq p rfl).1.symm),congrArg _ ((d.uniq p rfl).2.symm),trivial⟩,trivial⟩ rfl (by simp)
end Go.Abs
namespace Go.Abs
open Go.RowKit
variable {a b i:Nat} {l m z:List UInt32}
theorem Nz {x y:UInt32} (h:l[i]? =some x) (o:m[i]? =some y) (r:l.length=m.length) (he:AB (l.drop (i+1))=AB (m.drop (i+1))) (f:x≠y):
  BT x.toNat y.toNat=BT (AB l) (AB m):=by
 have q:=E0 h;have j:=Es l (i+1) (by omega);have g:=Es m (i+1) (by omega);rw[B6 h] at j;rw[B6 o] at g;have b1:=CL (l.take i);have b2:=CL (m.take i);rw[List.length_take,Nat.min_eq_left (by omega)] at b1 b2;rw[<-he] at g
 generalize AB (l.drop (i+1))=D at*
 generalize AB (l.take i)=A at*
 generalize AB (m.take i)=B at*
 generalize 2^(32*(i+1))*D=Q at*
 generalize p:2^(32*i)=P at*
 have k:x.toNat≠y.toNat:=fun e=>f (UInt32.toNat_inj.1 e)
 by_cases d:x.toNat<y.toNat
 ·have:P*(x.toNat+1)<=P*y.toNat:=Nat.mul_le_mul_left _ d;rw[Nat.mul_add] at this;have:AB l<AB m:=by omega
  unfold BT;rw[if_pos (by omega),if_pos (by omega)]
 have:P*(y.toNat+1)<=P*x.toNat:=Nat.mul_le_mul_left _ (by omega);rw[Nat.mul_add] at this;have:AB m<AB l:=by omega
 unfold BT;rw[if_neg (by omega),if_pos (by omega),if_neg (by omega),if_pos (by omega)]
theorem Ny (h:(AR a).length≠(AR b).length):BT (AR a).length (AR b).length=BT a b:=by
 by_cases d:(AR a).length<(AR b).length
 ·have:a<b:=by
   apply Classical.byContradiction;intro f;have:=DW (a:=b) (b:=a) (by omega);omega
  unfold BT;rw[if_pos (by omega),if_pos (by omega)]
 have:b<a:=by
  apply Classical.byContradiction;intro f;have:=DW (a:=a) (b:=b) (by omega);omega
 unfold BT;rw[if_neg (by omega),if_pos (by omega),if_neg (by omega),if_pos (by omega)]
theorem drop_eq {x:UInt32} (d:l[i]? =some x) (f:m[i]? =some x) (he:AB (l.drop (i+1))=AB (m.drop (i+1))):AB (l.drop i)=AB (m.drop i):=by
 have g:=E0 d;have h:=E0 f;rw[List.drop_eq_getElem_cons g,List.drop_eq_getElem_cons h,AB,AB,he];rw[List.getElem?_eq_getElem g] at d;rw[List.getElem?_eq_getElem h] at f;rw[Option.some.inj d,Option.some.inj f]
theorem LY {c:Int} (O:l=AR a) (hm:m=AR b) (P:c=BT a b):CF 333 [.one (.sl .u32 l),.one (.sl .u32 m)] (.one (.int .i64 c)):=by
 refine AH Tryz.func333 (by kernel_rfl) rfl fun E hE=>?_
 conv=>cbv
 rintro n7 ⟨e7,f7⟩;conv=>cbv
 rintro n9 ⟨e9,f9⟩;conv=>cbv
 intro S D;conv=>cbv
 cases S <;> conv=>cbv
 ·have K:=Dg D;rintro ah ⟨a6,f17⟩;conv=>cbv
  intro V ab;conv=>cbv
  refine g1 (by omega) ?_;refine .inr ?_;obtain⟨J0,B⟩:=xJ fun vs bl k=>∃(j:Int) (k':Nat),vs=[.one (.sl .u32 l),.one (.sl .u32 m),.one (.int .i64 j)]/\(AS (j+1) k'/\k'<=l.length/\l.length=m.length/\AB (l.drop k')=AB (m.drop k'))/\k=k'
  refine⟨[0,1,5],[],J0,⟨l.length,by rw[B];exact⟨V,l.length,rfl,⟨⟨by omega⟩,by omega,by omega,by rw[List.drop_length,show l.length=m.length by omega,List.drop_length]⟩,rfl⟩⟩,?_⟩;intro vs bl ag N;rw[B] at N;obtain⟨j,k',rfl,⟨N,ae,J,M⟩,af⟩:=N;conv=>cbv
  have ej:=N.eq;intro W F;conv=>cbv
  cases W <;> conv=>cbv
  ·have R:=EC F;have hk:k'=0:=by omega
   have he:a=b:=by rw[hk] at M;simpa [O,hm,BB] using M
   exact fA ⟨⟨rfl,congrArg _ (by rw[P,he];simp[BT]),trivial⟩,trivial⟩ rfl (by simp)
  have R:=ED F;refine .inr ?_;obtain⟨g,d⟩:=AG (l:=l) (i:=(j).toNat) (by omega);refine⟨g,fun _=>⟨by omega,d⟩,?_⟩;try conv=>cbv
  intro ai G;have C:=G.eq;have f26:=G.lt;conv=>cbv
  obtain⟨h,f⟩:=AG (l:=m) (i:=(j).toNat) (by omega);refine⟨h,fun _=>⟨by omega,f⟩,?_⟩;try conv=>cbv
  intro aj H;have a7:=H.eq;have f30:=H.lt;conv=>cbv
  intro Y I;conv=>cbv
  refine g2 rfl ?_;cases Y <;> conv=>cbv
  ·have L:=Dg I;intro X ad;conv=>cbv
   refine g1 (by omega) ?_;refine⟨k'-1,?_,?_⟩
   ·omega
   rw[B];obtain⟨i',rfl⟩:∃i',k'=i'+1:=⟨k'-1,by omega⟩
   refine⟨X,i',rfl,⟨⟨by omega⟩,by omega,J,?_⟩,by omega⟩;have C:g=h:=UInt32.toNat_inj.1 (by omega);subst C;exact drop_eq (i:=i') (by rw[<-d];congr 1;omega) (by rw[<-f];congr 1;omega) M
  have L:=Dh I;obtain⟨o,s⟩:=AG (l:=l) (i:=(j).toNat) (by omega);refine⟨o,fun _=>⟨by omega,s⟩,?_⟩;try conv=>cbv
  intro Z w;have a8:=w.eq;have f35:=w.lt;conv=>cbv
  obtain⟨p,t⟩:=AG (l:=m) (i:=(j).toNat) (by omega);refine⟨p,fun _=>⟨by omega,t⟩,?_⟩;try conv=>cbv
  intro a1 A;have aa:=A.eq;have f39:=A.lt;conv=>cbv
  obtain⟨al,r⟩:=xI (BT Z a1);refine cL hE (Wo r) t2 ?_;try conv=>cbv
  refine g2 rfl ?_;obtain⟨i',rfl⟩:∃i',k'=i'+1:=⟨k'-1,by omega⟩
  have e1:l[i']? =some o:=by rw[<-s];congr 1;omega
  have e2:m[i']? =some p:=by rw[<-t];congr 1;omega
  have e3:l[i']? =some g:=by rw[<-d];congr 1;omega
  have e4:m[i']? =some h:=by rw[<-f];congr 1;omega
  obtain rfl:o=g:=Option.some.inj (e1.symm.trans e3);obtain rfl:p=h:=Option.some.inj (e2.symm.trans e4);have Q:o≠p:=fun e=>by subst e;exact L (by omega)
  exact fA ⟨⟨rfl,congrArg _ (by rw[r,P,w.eq,A.eq,Nz e1 e2 J M Q,O,hm,BB,BB]),trivial⟩,trivial⟩ rfl (by simp)
 have K:=Dh D;intro T u;have a2:=u.eq;have f12:=u.le;conv=>cbv
 intro U v;have a5:=v.eq;have f14:=v.le;conv=>cbv
 obtain⟨ak,q⟩:=xI (BT T U);refine cL hE (QI q) t2 ?_;try conv=>cbv
 exact fA ⟨⟨rfl,congrArg _ (by rw[q,P,u.eq,v.eq,O,hm,Ny (by rw[<-O,<-hm];intro e;exact K (by omega))]),trivial⟩,trivial⟩ rfl (by simp)
theorem Od (hl:l=AR a) (hm:m=AR b) (hz:z=AR (a-b)) (a8:b<=a) (sl:l.length<=17592186044416):CF 371 [.one (.sl .u32 l),.one (.sl .u32 m)] (.one (.sl .u32 z)):=by
 have ab:m.length<=l.length:=by rw[hl,hm];exact DW a8
 refine AH Tryz.func371 (by kernel_rfl) rfl fun E hE=>?_
 conv=>cbv
 rintro az ⟨al,f11⟩;conv=>cbv
 refine⟨fun _=>⟨by omega,by omega,by show _*4<=140737488355328;omega⟩,?_⟩;intro I (K:List UInt32) F;have ak:=F.1;have s:K=List.replicate I (0:el .u32):=F.2;have aj:K.length=I:=by rw[s,List.length_replicate]
 conv=>cbv
 intro ag G;have an:=G.eq;have f14:=G.le;conv=>cbv
 refine .inr ?_
 obtain⟨J0,A⟩:∃J:List AV->List AM->Nat->Prop,J=fun vs bl k=>∃(o:List UInt32) (n B i':Nat) (c L i:Int),vs=[.one (.sl .u32 l),.one (.sl .u32 m),.one (.AT .u32 12 0 0 n),.one (.int .u64 c),.one (.sl .u32 l),.one (.int .i64 L),.one (.int .i64 i)]/\
  bl=[.arr 0 .u32 o]/\(o.length=l.length/\n=o.length/\Cb L l.length/\AS i i'/\i'<=l.length/\AS c B/\B<=1)/\
  AB (o.take i')+AB (m.take i')=AB (l.take i')+2^(32*i')*B/\k=l.length-i':=⟨_,rfl⟩
 refine⟨[0,1,5,6,13,14,15],[12],J0,⟨l.length-0,by rw[A];exact⟨K,I,0,0,0,ag,0,rfl,rfl,⟨by rw[s,List.length_replicate];omega,by rw[s,List.length_replicate],G,BC 0,by omega,BC 0,by omega⟩,by simp[AB],rfl⟩⟩,?_⟩;intro vs bl ay hj;rw[A] at hj;obtain⟨o,n,B,i',c,L,i,rfl,rfl,⟨ho,hn,hL,hi,av,hc,au⟩,hinv,aw⟩:=hj;conv=>cbv
 have eL:=hL.eq;have ei:=hi.eq;have ec:=hc.eq;intro ah T;conv=>cbv
 cases ah <;> conv=>cbv
 ·have ad:=Ad T;have t:n<=(o).length:=by omega
  obtain⟨af,C⟩:=xN ((Bk ((o).take n)).length);obtain⟨aa,H⟩:=Dl t C;refine .inr (.inr (.inl ⟨[],.one (.AT .u32 0 0 0 af),.arr 0 .u32 o,fun _=>⟨by first | decide | simp[Bw,B4],trivial⟩,fun _=>⟨DS hE (JO t (by omega) C),rfl,rfl⟩,?_⟩));try conv=>cbv
  have hk:i'=l.length:=by omega
  have a2:AB (o.take n)=a-b:=by rw[hk,C5 ab,C5 (Nat.le_refl _),hm,hl,BB,BB,<-hl,<-ho,List.take_length] at hinv;have ax:=CL o;generalize 2^(32*o.length)=P at *;rw[hn,List.take_length];rcases (by omega:B=0\/B=1) with e | e <;> rw[e] at hinv <;> omega
  exact fA ⟨⟨rfl,.inl ⟨_,rfl,by omega,congrArg _ (by rw[List.drop_zero,H,a2,hz])⟩,trivial⟩,trivial⟩ rfl (by simp)
 have ad:=Ae T;refine .inr ?_;obtain⟨O,u⟩:=AG (l:=l) (i:=i') (by omega);refine⟨O,fun _=>⟨by omega,by rw[show (i).toNat=i' by omega];exact u⟩,?_⟩;try conv=>cbv
 intro aA U;have ao:=U.eq;have f19:=U.lt;conv=>cbv
 intro aB V;conv=>cbv
 have V:=wrap_u64 V;intro aC W;conv=>cbv
 have W:=wrap_u64 W;rintro aD ⟨aq,f26⟩;conv=>cbv
 intro ai X;conv=>cbv
 refine .inr ?_;cases ai <;> conv=>cbv
 ·have ae:=Ad X;intro M q;conv=>cbv
  have q:=wrap_u32 q;refine g2 (by omega) ?_;intro v a5;conv=>cbv
  obtain⟨j,f⟩:=Bm (n:=M) (by omega);have Q:=f.eq;have R:=f.lt;refine⟨j,fun _=>⟨by show _<List.length (α:=UInt32) o;(first | omega | (simp;omega)),Bl f⟩,?_⟩;intro (g:List UInt32) (d:g=List.set (α:=UInt32) o v j);have S:g.length=o.length:=by rw[d,List.length_set]
  conv=>cbv
  intro h r;conv=>cbv
  refine g2 (by omega) ?_;have r:=Da (p:=9223372036854775808) r rfl;intro N a7;conv=>cbv
  refine g1 (by omega) ?_;refine⟨l.length-(i'+1),?_,?_⟩
  ·omega
  rw[A];refine⟨g,n,h.toNat,i'+1,h,L,N,rfl,rfl,⟨by rw[d,List.length_set];exact ho,by rw[d,List.length_set];exact hn,hL,⟨by omega⟩,by omega,⟨by omega⟩,by omega⟩,?_,rfl⟩;have hs:=I5 (w:=j) (o:=o) (i:=i') (xi:=O.toNat) (yi:=0) (Em:=B) (En:=h.toNat) (by omega) hinv (by omega);rw[d,show v=i' by omega,B6 u,<-hs,C5 (l:=m) (i:=i'+1) (by omega),C5 (l:=m) (i:=i') (by omega),Nat.mul_zero]
  rfl
 have ae:=Ae X;obtain⟨a6,D⟩:=AG (l:=m) (i:=i') (by omega);refine⟨a6,fun _=>⟨by omega,by rw[show (i).toNat=i' by omega];exact D⟩,?_⟩;try conv=>cbv
 intro aE Y;have ar:=Y.eq;have f32:=Y.lt;conv=>cbv
 intro aF Z;conv=>cbv
 have Z:=wrap_u64 Z;intro aG a1;conv=>cbv
 have a1:=wrap_u64 a1;intro M q;conv=>cbv
 have q:=wrap_u32 q;refine g2 (by omega) ?_;intro v a5;conv=>cbv
 obtain⟨j,f⟩:=Bm (n:=M) (by omega);have Q:=f.eq;have R:=f.lt;refine⟨j,fun _=>⟨by show _<List.length (α:=UInt32) o;(first | omega | (simp;omega)),Bl f⟩,?_⟩;intro (g:List UInt32) (d:g=List.set (α:=UInt32) o v j);have S:g.length=o.length:=by rw[d,List.length_set]
 conv=>cbv
 intro h r;conv=>cbv
 refine g2 (by omega) ?_;have r:=Da (p:=9223372036854775808) r rfl;intro N a7;conv=>cbv
 refine g1 (by omega) ?_;refine⟨l.length-(i'+1),?_,?_⟩
 ·omega
 rw[A];refine⟨g,n,h.toNat,i'+1,h,L,N,rfl,rfl,⟨by rw[d,List.length_set];exact ho,by rw[d,List.length_set];exact hn,hL,⟨by omega⟩,by omega,⟨by omega⟩,by omega⟩,?_,rfl⟩;have hs:=I5 (w:=j) (o:=o) (i:=i') (xi:=O.toNat) (yi:=a6.toNat) (Em:=B) (En:=h.toNat) (by omega) hinv (by omega);rw[d,show v=i' by omega,B6 u,<-hs,B6 D]
theorem gL (hl:l=AR a) (hm:m=AR b) (hz:z=AR (a*b)) (sl:l.length<=17592186044416) (sm:m.length<=17592186044416):CF 334 [.one (.sl .u32 l),.one (.sl .u32 m)] (.one (.sl .u32 z)):=by
 refine AH Tryz.func334 (by kernel_rfl) rfl fun E hE=>?_
 conv=>cbv
 rintro n12 ⟨e12,f12⟩;conv=>cbv
 intro n13 h13;conv=>cbv
 cases n13 <;> conv=>cbv
 ·have k13:=Au h13;rintro n16 ⟨e16,f16⟩;conv=>cbv
  intro n17 h17;conv=>cbv
  cases n17 <;> conv=>cbv
  ·have k17:=Au h17;rintro n20 ⟨e20,f20⟩;conv=>cbv
   rintro n22 ⟨e22,f22⟩;conv=>cbv
   intro n23 h23;conv=>cbv
   refine g1 (by omega) ?_;refine⟨fun _=>⟨by omega,by omega,by show _*4<=140737488355328;omega⟩,?_⟩;intro k24 (l24:List UInt32) ql24;have hk24:=ql24.1;have hl24:l24=List.replicate k24 (0:el .u32):=ql24.2;have gl24:l24.length=k24:=by rw[hl24,List.length_replicate]
   conv=>cbv
   intro n26 h26;have e26:=h26.eq;have f26:=h26.le;conv=>cbv
   refine .inr ?_
   obtain⟨J0,hJ0⟩:∃J:List AV->List AM->Nat->Prop,J=fun vs bl k=>∃(o:List UInt32) (n i':Nat) (L i:Int),vs=[.one (.sl .u32 l),.one (.sl .u32 m),.one (.AT .u32 24 0 0 n),.one (.sl .u32 l),.one (.int .i64 L),.one (.int .i64 i)]/\
    bl=[.arr 0 .u32 o]/\(o.length=l.length+m.length/\n=o.length/\Cb L l.length/\AS i i'/\i'<=l.length)/\
    AB (o.take (i'+m.length))=AB (l.take i')*AB m/\k=l.length-i':=⟨_,rfl⟩
   refine⟨[0,1,5,25,26,27],[24],J0,⟨l.length-0,by rw[hJ0];exact⟨l24,k24,0,n26,0,rfl,rfl,⟨by rw[hl24,List.length_replicate];omega,by rw[hl24,List.length_replicate],h26,BC 0,by omega⟩,by rw[hl24,List.take_replicate,Gh];simp[AB],rfl⟩⟩,?_⟩;intro vs bl kk0 hj;rw[hJ0] at hj;obtain⟨o,n,i',L,i,rfl,rfl,⟨ho,hn,hL,hi,hiL⟩,hinv,hk0⟩:=hj;conv=>cbv
   have eL:=hL.eq;have ei:=hi.eq;intro n28 h28;conv=>cbv
   cases n28 <;> conv=>cbv
   ·have k28:=Ad h28;have hnl74:n<=(o).length:=by omega
    obtain⟨m74,hm74⟩:=xN ((Bk ((o).take n)).length);obtain⟨hle74,htk74⟩:=Dl hnl74 hm74;refine .inr (.inr (.inl ⟨[],.one (.AT .u32 0 0 0 m74),.arr 0 .u32 o,fun _=>⟨by first | decide | simp[Bw,B4],trivial⟩,fun _=>⟨DS hE (JO hnl74 (by omega) hm74),rfl,rfl⟩,?_⟩));try conv=>cbv
    have hfin:AB (o.take n)=a*b:=by rw[show i'=l.length by omega,List.take_length,hl,hm,BB,BB,<-hl,<-hm,<-ho,List.take_length] at hinv;rw[hn,List.take_length,hinv]
    exact fA ⟨⟨rfl,.inl ⟨_,rfl,by omega,congrArg _ (by rw[List.drop_zero,htk74,hfin,hz])⟩,trivial⟩,trivial⟩ rfl (by simp)
   have k28:=Ae h28;refine .inr ?_;obtain⟨x30,hx30⟩:=AG (l:=l) (i:=i') (by omega);refine⟨x30,fun _=>⟨by omega,by rw[show (i).toNat=i' by omega];exact hx30⟩,?_⟩;try conv=>cbv
   intro n31 h31;have e31:=h31.eq;have f31:=h31.lt;conv=>cbv
   intro n33 h33;have e33:=h33.eq;have f33:=h33.le;conv=>cbv
   refine .inr ?_
   obtain⟨J1,hJ1⟩:∃J:List AV->List AM->Nat->Prop,J=fun vs bl k=>∃(o1:List UInt32) (n1 c' k':Nat) (c L1 i1:Int),vs=[.one (.sl .u32 l),.one (.sl .u32 m),.one (.AT .u32 24 0 0 n1),.one (.int .i64 i),.one (.int .u32 n31),.one (.int .u64 c),.one (.sl .u32 l),.one (.int .i64 L),.one (.int .i64 i),.one (.sl .u32 m),.one (.int .i64 L1),.one (.int .i64 i1)]/\
    bl=[.arr 0 .u32 o1]/\(o1.length=l.length+m.length/\n1=o1.length/\Cb L1 m.length/\AS i1 k'/\k'<=m.length/\AS c c'/\c'<4294967296)/\
    AB (o1.take (i'+m.length))+2^(32*(i'+k'))*c'=AB (l.take i')*AB m+x30.toNat*2^(32*i')*AB (m.take k')/\k=m.length-k':=⟨_,rfl⟩
   refine⟨[0,1,5,6,7,8,25,26,27,32,33,34],[24],J1,⟨m.length-0,by rw[hJ1];exact⟨o,n,0,0,0,n33,0,rfl,rfl,⟨ho,hn,h33,BC 0,by omega,BC 0,by omega⟩,by rw[hinv];simp[AB],rfl⟩⟩,?_⟩;intro vs bl kk1 hj;rw[hJ1] at hj;obtain⟨o1,n1,c',k',c,L1,i1,rfl,rfl,⟨ho1,hn1,hL1,hi1,hiL1,hc,hc1⟩,hinv1,hk1⟩:=hj;conv=>cbv
   have eL1:=hL1.eq;have ei1:=hi1.eq;have ec:=hc.eq;intro n35 h35;conv=>cbv
   cases n35 <;> conv=>cbv
   ·have k35:=Ad h35;rintro n67 ⟨e67,f67⟩;conv=>cbv
    intro n68 h68;conv=>cbv
    refine g1 (by omega) ?_;intro n70 h70;conv=>cbv
    have h70:=wrap_u32 h70;refine g2 (by omega) ?_;intro j71 hj71;conv=>cbv
    obtain⟨w71,hw71⟩:=Bm (n:=n70) (by omega);have ew71:=hw71.eq;have fw71:=hw71.lt;refine⟨w71,fun _=>⟨by show _<List.length (α:=UInt32) o1;(first | omega | (simp;omega)),Bl hw71⟩,?_⟩;intro (l71:List UInt32) (hl71:l71=List.set (α:=UInt32) o1 j71 w71);have gl71:l71.length=o1.length:=by rw[hl71,List.length_set]
    conv=>cbv
    intro n72 h72;conv=>cbv
    refine g1 (by omega) ?_;refine⟨l.length-(i'+1),?_,?_⟩
    ·omega
    rw[hJ0];refine⟨l71,n1,i'+1,L,n72,rfl,rfl,⟨by rw[hl71,List.length_set];exact ho1,by rw[hl71,List.length_set];exact hn1,hL,⟨by omega⟩,by omega⟩,?_,rfl⟩;have hk:k'=m.length:=by omega
    have hlen:i'+m.length<o1.length:=by omega
    rw[hl71,show i'+1+m.length=i'+m.length+1 by omega,show j71=i'+m.length by omega,D5 hlen,DX,List.length_take,Nat.min_eq_left (by omega),show w71.toNat=c' by omega];rw[hk] at hinv1;rw[hinv1,List.take_length,B6 hx30]
    grind
   have k35:=Ae h35;refine .inr ?_;obtain⟨x37,hx37⟩:=AG (l:=m) (i:=k') (by omega);refine⟨x37,fun _=>⟨by omega,by rw[show (i1).toNat=k' by omega];exact hx37⟩,?_⟩;try conv=>cbv
   intro n38 h38;have e38:=h38.eq;have f38:=h38.lt;conv=>cbv
   intro n41 h41;conv=>cbv
   have h41:=wrap_u64 h41;intro n43 h43;conv=>cbv
   have h43:=wrap_u64 h43;have ep:n41*n43=((x30.toNat*x37.toNat:Nat):Int):=by rw[Int.natCast_mul];congr 1 <;> omega
   have bp:x30.toNat*x37.toNat<=4294967295*4294967295:=Nat.mul_le_mul (by omega) (by omega);intro n44 h44;conv=>cbv
   have h44:=wrap_u64 h44;intro n48 h48;conv=>cbv
   refine g1 (by omega) ?_;refine g2 (by omega) ?_;intro j49 hj49;conv=>cbv
   obtain⟨x50,hx50⟩:=AG (l:=o1) (i:=j49) (by omega);refine⟨x50,fun _=>hx50,?_⟩;try conv=>cbv
   intro n50 h50;have e50:=h50.eq;have f50:=h50.lt;conv=>cbv
   intro C1 h51;conv=>cbv
   have h51:=wrap_u64 h51;intro n52 h52;conv=>cbv
   have h52:=wrap_u64 h52;intro Cg h53;conv=>cbv
   have h53:=wrap_u64 h53;intro n57 h57;conv=>cbv
   refine g1 (by omega) ?_;intro n59 h59;conv=>cbv
   have h59:=wrap_u32 h59;refine g2 (by omega) ?_;intro j60 hj60;conv=>cbv
   obtain⟨w60,hw60⟩:=Bm (n:=n59) (by omega);have ew60:=hw60.eq;have fw60:=hw60.lt;refine⟨w60,fun _=>⟨by show _<List.length (α:=UInt32) o1;(first | omega | (simp;omega)),Bl hw60⟩,?_⟩;intro (l60:List UInt32) (hl60:l60=List.set (α:=UInt32) o1 j60 w60);have gl60:l60.length=o1.length:=by rw[hl60,List.length_set]
   conv=>cbv
   intro n62 h62;conv=>cbv
   refine g2 (by omega) ?_;have h62:=Da (p:=4294967296) h62 rfl;intro n63 h63;conv=>cbv
   refine g1 (by omega) ?_;refine⟨m.length-(k'+1),?_,?_⟩
   ·omega
   rw[hJ1];refine⟨l60,n1,n62.toNat,k'+1,n62,L1,n63,rfl,rfl,⟨by rw[hl60,List.length_set];exact ho1,by rw[hl60,List.length_set];exact hn1,hL1,⟨by omega⟩,by omega,⟨by omega⟩,by omega⟩,?_,rfl⟩;have hj:j60=i'+k':=by omega
   have hj2:j49=i'+k':=by omega
   rw[hj2] at hx50;rw[hl60,hj,B6 hx37,show i'+(k'+1)=i'+k'+1 by omega];refine Pw (q:=x50) (xi:=x30.toNat) (yk:=x37.toNat) (old:=x50.toNat) (c:=c') rfl (by omega) hx50 rfl hinv1 ?_ rfl;rw[ep] at h44;omega
  have k17:=Av h17;have h0:b=0:=EL.1 (by rw[<-hm];exact List.length_eq_zero_iff.1 (by omega));exact fA ⟨⟨rfl,.inr (.inl ⟨_,congrArg _ (by rw[hz,h0];rfl)⟩),trivial⟩,trivial⟩ rfl (by simp)
 have k13:=Av h13;have h0:a=0:=EL.1 (by rw[<-hl];exact List.length_eq_zero_iff.1 (by have k13:=Av h13;omega));exact fA ⟨⟨rfl,.inr (.inl ⟨_,congrArg _ (by rw[hz,h0,Nat.zero_mul];rfl)⟩),trivial⟩,trivial⟩ rfl (by simp)
end Go.Abs
