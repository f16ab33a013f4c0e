/- Part 12 of a proof. Conditions: each theorem's own. -/
import Derived.Test.YtmhbikooakmagaaGreatQk10
set_option linter.all false
set_option maxHeartbeats 8000000
set_option maxRecDepth 20000
open Go.Proofs
namespace Go.Abs
open Go.RowKit
variable {a b n:Nat} {c y:Int} {l m z:List UInt32}
theorem Dr (R:AE l=n) (D:z=AP n):CF 358 [.one (.sl .u32 l)] (.one (.sl .u32 z)):=by
 have D:BZ l=z:=by rw[D,<-R,KO]
 refine AJ Tryz.func358 fun E Z=>?_
 conv=>cbv
 refine .inr ?_;obtain⟨K,r⟩:=xJ fun vs L k=>∃m:List UInt32,vs=[.one (.sl .u32 m)]/\BZ m=z/\k=m.length
 refine⟨[],[0],[],K,⟨l.length,by rw[r];exact⟨l,rfl,D,rfl⟩⟩,?_⟩;intro vs L T I;rw[r] at I;obtain⟨m,rfl,s,Q⟩:=I;conv=>cbv
 rintro n4 ⟨X,f4⟩;conv=>cbv
 intro W G;conv=>cbv
 cases W <;> conv=>cbv
 ·have S:=Bh G;have B:m=[]:=List.eq_nil_of_length_eq_zero (by omega);exact AD ⟨⟨rfl,congrArg _ (by rw[<-s,B];rfl),trivial⟩,trivial⟩
 have S:=Bi G;rintro n9 ⟨Y,f9⟩;conv=>cbv
 intro f O;conv=>cbv
 refine AH ?_;obtain⟨g,d⟩:=AL (l:=m) (i:=(f).toNat) (by omega);refine⟨g,fun _=>⟨by omega,d⟩,?_⟩;try conv=>cbv
 intro V o;have M:=o.eq;have f12:=o.lt;conv=>cbv
 intro F u;conv=>cbv
 cases F <;> conv=>cbv
 ·have v:=Ac u;have C:g≠0:=fun h=>by subst h;exact v o.eq
  have A:m=m.take (f).toNat++[g]:=by have:=CE d;rw[List.take_of_length_le (by omega)] at this;exact this
  exact AD ⟨⟨rfl,congrArg _ (by rw[<-s,A,I1 C]),trivial⟩,trivial⟩
 have v:=Ae u;refine .inr ?_;rintro n17 ⟨N,f17⟩;conv=>cbv
 intro n18 P;conv=>cbv
 refine AH ?_;intro U J;conv=>cbv
 refine AG ?_;intro w H;conv=>cbv
 intro t j;conv=>cbv
 refine⟨t.length,?_,?_⟩
 ·rw[j];simp;omega
 rw[r];have el:t=m.take (f).toNat:=by rw[j,show w=(f).toNat by omega];simp
 refine⟨t,rfl,?_,rfl⟩;obtain rfl:g=0:=UInt32.toNat_inj.1 (by show _=0;omega)
 have A:m=m.take (f).toNat++[0]:=by
  have:=CE d;rw[List.take_of_length_le (by omega)] at this;exact this
 rw[el,<-s];conv=>rhs;rw[A]
 rw[Hq]
theorem Sp (x:Int):CF 395 [.one (.int .i64 x)] (.one (.bool false)):=by
 refine AJ Tryz.func395 fun E f=>?_
 conv=>cbv
 intro g d;conv=>cbv
 exact AD ⟨⟨rfl,congrArg _ (by rw[d];simp),trivial⟩,trivial⟩
theorem Sr (x:Int):CF 408 [.one (.int .u32 x)] (.one (.bool false)):=by
 refine AJ Tryz.func408 fun E f=>?_
 conv=>cbv
 intro g d;conv=>cbv
 exact AD ⟨⟨rfl,congrArg _ (by rw[d];simp),trivial⟩,trivial⟩
theorem Pe {x:Int} (g:c=BF x y):CF 383 [.one (.int .i64 x),.one (.int .i64 y)] (.one (.int .i64 c)):=by
 refine AJ Tryz.func383 fun E k=>?_
 conv=>cbv
 refine AB k (Sp _) ?_;conv=>cbv
 refine AB k (Sp _) ?_;conv=>cbv
 intro n16 d;conv=>cbv
 cases n16 <;> conv=>cbv
 ·have h:=AW d;intro n19 f;conv=>cbv
  cases n19 <;> conv=>cbv
  ·have j:=Bh f;exact AD ⟨⟨rfl,congrArg _ (by rw[g];unfold BF;split <;> (try split) <;> omega),trivial⟩,trivial⟩
  have j:=Bi f;exact AD ⟨⟨rfl,congrArg _ (by rw[g];unfold BF;split <;> (try split) <;> omega),trivial⟩,trivial⟩
 have h:=AY d;exact AD ⟨⟨rfl,congrArg _ (by rw[g];unfold BF;split <;> (try split) <;> omega),trivial⟩,trivial⟩
theorem WK {x:Int} (g:c=BF x y):CF 396 [.one (.int .u32 x),.one (.int .u32 y)] (.one (.int .i64 c)):=by
 refine AJ Tryz.func396 fun E k=>?_
 conv=>cbv
 refine AB k (Sr _) ?_;conv=>cbv
 refine AB k (Sr _) ?_;conv=>cbv
 intro n16 d;conv=>cbv
 cases n16 <;> conv=>cbv
 ·have h:=AW d;intro n19 f;conv=>cbv
  cases n19 <;> conv=>cbv
  ·have j:=Bh f;exact AD ⟨⟨rfl,congrArg _ (by rw[g];unfold BF;split <;> (try split) <;> omega),trivial⟩,trivial⟩
  have j:=Bi f;exact AD ⟨⟨rfl,congrArg _ (by rw[g];unfold BF;split <;> (try split) <;> omega),trivial⟩,trivial⟩
 have h:=AY d;exact AD ⟨⟨rfl,congrArg _ (by rw[g];unfold BF;split <;> (try split) <;> omega),trivial⟩,trivial⟩
theorem I3 {m:Nat} (T:n<=l.length) (hl:l.length<=140737488355328) (hm:m=(BZ (l.take n)).length):FF Tryz.prog 358 (.AN .u32 0 0 0 n) (.arr 0 .u32 l) [] (.one (.AN .u32 0 0 0 m)) (.arr 0 .u32 l):=by
 refine JN Tryz.func358 (by kernel_rfl) rfl fun E hE=>?_
 conv=>cbv
 refine .inr ?_;obtain⟨K,j⟩:=xJ fun vs C k=>∃q:Nat,vs=[.one (.AN .u32 0 0 0 q)]/\C=[.arr 0 .u32 l]/\q<=l.length/\m=(BZ (l.take q)).length/\k=q
 refine⟨[],[0],[0],K,⟨n,by rw[j];exact⟨n,rfl,rfl,T,hm,rfl⟩⟩,?_⟩;intro vs C V H;rw[j] at H;obtain⟨q,rfl,rfl,hq,o,S⟩:=H;conv=>cbv
 intro n4 Q;have Z:=Q.eq;conv=>cbv
 intro Y D;conv=>cbv
 cases Y <;> conv=>cbv
 ·have U:=Bh D;refine⟨fun _=>⟨⟨⟨rfl,.inr (.inr ⟨rfl,rfl,congrArg (AC.AN .u32 0 0 0) (by rw[o,show q=0 by omega];rfl)⟩),trivial⟩,trivial⟩,rfl,by simp⟩,fun _=>rfl⟩
 have U:=Bi D;intro n9 R;have e9:=R.eq;conv=>cbv
 intro W O;conv=>cbv
 refine AH ?_;refine AG ?_;intro r I;conv=>cbv
 obtain⟨s,d⟩:=AL (l:=l) (i:=r) (by omega);refine⟨s,fun _=>d,?_⟩;try conv=>cbv
 intro X g;have M:=g.eq;have f12:=g.lt;conv=>cbv
 intro A t;conv=>cbv
 cases A <;> conv=>cbv
 ·have u:=Ac t;have w:s≠0:=fun h=>by subst h;exact u g.eq
  refine⟨fun _=>⟨⟨⟨rfl,.inr (.inr ⟨rfl,rfl,congrArg (AC.AN .u32 0 0 0) (by rw[o,show q=r+1 by omega,CE d,I1 w,List.length_append,List.length_take];simp;omega)⟩),trivial⟩,trivial⟩,rfl,by simp⟩,fun _=>rfl⟩
 have u:=Ae t;refine .inr ?_;intro n17 v;have N:=v.eq;conv=>cbv
 intro n18 P;conv=>cbv
 refine AH ?_;refine AG ?_;intro L F;conv=>cbv
 rintro B f ⟨J,G⟩;conv=>cbv
 refine⟨f,?_,?_⟩
 ·omega
 rw[j];obtain rfl:B=0:=by omega
 refine⟨f,rfl,rfl,by omega,?_,rfl⟩;obtain rfl:s=0:=UInt32.toNat_inj.1 (by show _=0;omega);rw[o,show q=f+1 by omega,CE (x:=0) (by rw[show f=r by omega];exact d),Hq]
theorem UC {zn:Nat} (hl:l=AP a) (hm:m=AP b) (hz:z=AP (a+b)) (aj:zn=z.length) (sl:l.length<=17592186044416) (sm:m.length<=17592186044416):CF 393 [.one (.sl .u32 l),.one (.sl .u32 m)] (.one (.own .u32 z zn)):=by
 refine AJ Tryz.func393 fun E hE=>?_
 conv=>cbv
 rintro aP ⟨aD,f10⟩;conv=>cbv
 rintro aQ ⟨aE,f12⟩;conv=>cbv
 intro ax a2;conv=>cbv
 obtain⟨ao,D⟩:=xK fun vs bl=>∃(p q:Nat) (x y:List UInt32),vs=[.one (.sl .u32 x),.one (.sl .u32 y)]/\x=AP p/\y=AP q/\p+q=a+b/\y.length<=x.length/\x.length<=17592186044416
 refine .inl ⟨[0,1],[],ao,?_,?_⟩
 ·intro vs bl hj;rw[D] at hj;obtain⟨p,q,x,y,rfl,hx,hy,M,ai,aN⟩:=hj;conv=>cbv
  rintro n17 ⟨aF,f17⟩;conv=>cbv
  intro n18 aK;conv=>cbv
  refine AH ?_;refine⟨fun _=>⟨by omega,by omega,by show _*4<=140737488355328;omega⟩,?_⟩;intro T (U:List UInt32) Q;have N:=Q.1;have v:U=List.replicate T (0:el .u32):=Q.2;have aC:U.length=T:=by rw[v,List.length_replicate]
  conv=>cbv
  intro n21 S;have aG:=S.eq;have f21:=S.le;conv=>cbv
  refine .inr ?_
  obtain⟨J0,K⟩:∃J:List AV->List AK->Nat->Prop,J=fun vs bl k=>∃(o:List UInt32) (n Y i':Nat) (c L i:Int),vs=[.one (.sl .u32 x),.one (.sl .u32 y),.one (.AN .u32 19 0 0 n),.one (.int .u64 c),.one (.sl .u32 x),.one (.int .i64 L),.one (.int .i64 i)]/\
   bl=[.arr 0 .u32 o]/\(n=o.length/\o.length=i'/\CM L x.length/\AQ i i'/\i'<=x.length/\AQ c Y/\Y<=1)/\
   AE o+2^(32*i')*Y=AE (x.take i')+AE (y.take i')/\k=x.length-i':=⟨_,rfl⟩
  refine⟨[],[0,1,5,6,20,21,22],[19],J0,⟨x.length-0,by rw[K];exact⟨U,T,0,0,0,n21,0,rfl,rfl,⟨by rw[v,List.length_replicate],by rw[v,List.length_replicate,N];rfl,S,An 0,by omega,An 0,by omega⟩,by rw[v,N];simp[AE],rfl⟩⟩,?_⟩;intro vs bl aO hj;rw[K] at hj;obtain⟨o,n,Y,i',c,L,i,rfl,rfl,⟨hn,ho,hL,hi,aM,hc,aL⟩,hinv,r⟩:=hj;conv=>cbv
  have eL:=hL.eq;have ei:=hi.eq;have ec:=hc.eq;intro n23 a5;conv=>cbv
  cases n23 <;> conv=>cbv
  ·have au:=AW a5;intro C6 af;conv=>cbv
   refine .inr ?_;cases C6 <;> conv=>cbv
   ·have aw:=Bh af;have r:i'=x.length:=by omega
    have g:AE o=p+q:=by rw[r,Ch (Nat.le_refl _),Ch ai,hx,hy,Am,Am,show Y=0 by omega] at hinv;omega
    exact AD ⟨⟨rfl,.inr (.inl ⟨_,_,by decide,rfl,rfl,hn,rfl,CX (by rw[hz,<-M];exact (RI g (by rw[ho,r,hx])).symm) (by rw[aj,hz,<-M,<-RI g (by rw[ho,r,hx])])⟩),trivial⟩,trivial⟩
   have aw:=Bi af;intro ay ag;conv=>cbv
   have ag:=wrap_u32 ag;obtain⟨A,G⟩:=Bb (n:=ay) (by omega);have aA:=G.eq;have aB:=G.lt;refine⟨[A],fun _=>⟨rfl,by decide,rfl,⟨rfl,Ba G,trivial⟩⟩,.inl ?_⟩;try conv=>cbv
   refine .inl ⟨[A],fun _=>⟨rfl,by (first | rfl | omega),⟨_,rfl,by simp <;> omega,by simp⟩,by show (o.length+1)*4<=140737488355328;(try simp only[List.length_take,List.length_drop]);omega⟩,?_⟩;intro (ak:List UInt32) az R;have O:ak=(o:List UInt32)++([A]:List UInt32):=R.1;have ah:az=List.length (α:=UInt32) ak:=R.2;conv=>cbv
   have r:i'=x.length:=by omega
   have g:AE (o++[A])=p+q:=by rw[DH,show A.toNat=Y by omega,ho,<-Am p,<-Am q,<-hx,<-hy];rw[r,Ch (Nat.le_refl _),Ch ai] at hinv;rw[r];exact hinv
   have hw:A.toNat≠0:=by omega
   exact AD ⟨⟨rfl,.inr (.inl ⟨_,_,by decide,rfl,rfl,ah,rfl,CX (by rw[hz,<-M,<-g,NG hw,O]) (by rw[aj,hz,<-M,<-g,NG hw,O])⟩),trivial⟩,trivial⟩
  have au:=AY a5;refine .inr ?_;obtain⟨X,H⟩:=AL (l:=x) (i:=i') (by omega);refine⟨X,fun _=>⟨by omega,by rw[show (i).toNat=i' by omega];exact H⟩,?_⟩;try conv=>cbv
  intro n26 a6;have aH:=a6.eq;have f26:=a6.lt;conv=>cbv
  intro n29 a7;conv=>cbv
  have a7:=wrap_u64 a7;intro n30 a8;conv=>cbv
  have a8:=wrap_u64 a8;rintro n33 ⟨aI,f33⟩;conv=>cbv
  intro n34 aa;conv=>cbv
  refine .inr ?_;cases n34 <;> conv=>cbv
  ·have av:=AW aa;intro V B;conv=>cbv
   have B:=wrap_u32 B;obtain⟨f,d⟩:=Bb (n:=V) (by omega);have Z:=d.eq;have a1:=d.lt;refine⟨[f],fun _=>⟨rfl,by decide,rfl,⟨rfl,Ba d,trivial⟩⟩,.inl ?_⟩;try conv=>cbv
   refine .inl ⟨[f],fun _=>⟨rfl,by (first | rfl | omega),⟨_,rfl,by simp <;> omega,by simp⟩,by show (o.length+1)*4<=140737488355328;(try simp only[List.length_take,List.length_drop]);omega⟩,?_⟩;intro (t:List UInt32) I j;have h:t=(o:List UInt32)++([f]:List UInt32):=j.1;have F:I=List.length (α:=UInt32) t:=j.2;conv=>cbv
   intro u C;conv=>cbv
   refine AG ?_;have C:=DM (p:=4294967296) C rfl;intro W aq;conv=>cbv
   refine AH ?_;refine⟨x.length-(i'+1),?_,?_⟩
   ·omega
   rw[K];refine⟨t,I,u.toNat,i'+1,u,L,W,rfl,rfl,⟨F,by rw[h];simp;omega,hL,⟨by omega⟩,by omega,⟨by omega⟩,by omega⟩,?_,rfl⟩;rw[h,Bq H,Ch (l:=y) (i:=i'+1) (by omega)];have hs:=K5 (xi:=X.toNat) (yi:=0) (s:=n30.toNat) (w:=f) ho hinv (by omega) (by omega);rw[show u.toNat=n30.toNat/4294967296 by omega];rw[hs];rw[Ch (l:=y) (i:=i') (by omega)];omega
  have av:=AY aa;obtain⟨an,P⟩:=AL (l:=y) (i:=i') (by omega);refine⟨an,fun _=>⟨by omega,by rw[show (i).toNat=i' by omega];exact P⟩,?_⟩;try conv=>cbv
  intro n39 ab;have aJ:=ab.eq;have f39:=ab.lt;conv=>cbv
  intro aR ad;conv=>cbv
  have ad:=wrap_u64 ad;intro al ae;conv=>cbv
  have ae:=wrap_u64 ae;intro V B;conv=>cbv
  have B:=wrap_u32 B;obtain⟨f,d⟩:=Bb (n:=V) (by omega);have Z:=d.eq;have a1:=d.lt;refine⟨[f],fun _=>⟨rfl,by decide,rfl,⟨rfl,Ba d,trivial⟩⟩,.inl ?_⟩;try conv=>cbv
  refine .inl ⟨[f],fun _=>⟨rfl,by (first | rfl | omega),⟨_,rfl,by simp <;> omega,by simp⟩,by show (o.length+1)*4<=140737488355328;(try simp only[List.length_take,List.length_drop]);omega⟩,?_⟩;intro (t:List UInt32) I j;have h:t=(o:List UInt32)++([f]:List UInt32):=j.1;have F:I=List.length (α:=UInt32) t:=j.2;conv=>cbv
  intro u C;conv=>cbv
  refine AG ?_;have C:=DM (p:=4294967296) C rfl;intro W aq;conv=>cbv
  refine AH ?_;refine⟨x.length-(i'+1),?_,?_⟩
  ·omega
  rw[K];refine⟨t,I,u.toNat,i'+1,u,L,W,rfl,rfl,⟨F,by rw[h];simp;omega,hL,⟨by omega⟩,by omega,⟨by omega⟩,by omega⟩,?_,rfl⟩;rw[h,Bq H,Bq P];have hs:=K5 (xi:=X.toNat) (yi:=an.toNat) (s:=al.toNat) (w:=f) ho hinv (by omega) (by omega);rw[show u.toNat=al.toNat/4294967296 by omega];rw[hs]
 cases ax <;> conv=>cbv
 ·have ar:=AW a2;rw[D];exact⟨a,b,_,_,rfl,hl,hm,rfl,by omega,by omega⟩
 have ar:=AY a2;rw[D];exact⟨b,a,_,_,rfl,hm,hl,Nat.add_comm _ _,by omega,by omega⟩
theorem UB (d:l=AP a) (hm:m=AP b) (f:z=AP (a+b)) (sl:l.length<=17592186044416) (g:m.length<=17592186044416):CF 393 [.one (.sl .u32 l),.one (.sl .u32 m)] (.one (.sl .u32 z)):=CP (UC d hm f rfl sl g)
end Go.Abs
namespace Go.Abs
open Go.RowKit
variable {b:Bool} {l z:List UInt32} {x:Int}
theorem EB {n:Bool} (o:x=if n=true then -(AE l:Int) else AE l) (h:AU x b z):CF 353 [.one (.bool n),.one (.sl .u32 l)] (.agg (At b z)):=by
 refine AJ Tryz.func353 fun E s=>?_
 conv=>cbv
 obtain⟨u,d⟩:=xU (AP (AE l));refine AB s (Dr rfl d) ?_;conv=>cbv
 intro w g;have v:=g.eq;have f8:=g.le;conv=>cbv
 intro t k;conv=>cbv
 cases t <;> conv=>cbv
 ·have r:=Ac k;have j:AE l≠0:=fun e=>r (by have:=g.eq;rw[d,e] at this;exact this)
  have f:AU x n u:= .val d.symm o (fun e=>absurd e j);exact AD ⟨⟨rfl,congrArg _ ((f.uniq h rfl).1.symm),congrArg _ ((f.uniq h rfl).2.symm),trivial⟩,trivial⟩
 have r:=Ae k;have j:AE l=0:=by have e:=g.eq;rw[d] at e;exact EI.1 (List.length_eq_zero_iff.1 (by omega))
 have f:AU x false []:= .val (n:=0) rfl (by rw[o,j];simp) (fun _=>rfl);exact AD ⟨⟨rfl,congrArg _ ((f.uniq h rfl).1.symm),.inr (.inl ⟨_,congrArg _ ((f.uniq h rfl).2.symm)⟩),trivial⟩,trivial⟩
theorem IL {n:Int} {k:Nat} (D:AQ n k) (I:k<18446744073709551616) (F:z=AP k):CF 354 [.one (.int .u64 n)] (.one (.sl .u32 z)):=by
 have en:=D.eq;refine AJ Tryz.func354 fun E C=>?_
 conv=>cbv
 intro n4 v;conv=>cbv
 have v:=wrap_u32 v;intro J w;conv=>cbv
 refine AG ?_;have w:=DM (p:=4294967296) w rfl;intro H A;conv=>cbv
 have A:=wrap_u32 A;obtain⟨g,d⟩:=Bb (n:=n4) (by omega);have r:=d.eq;have t:=d.lt;obtain⟨h,f⟩:=Bb (n:=H) (by omega);have s:=f.eq;have u:=f.lt;refine⟨[g,h],fun _=>⟨rfl,by decide,rfl,⟨rfl,Ba d,⟨rfl,Ba f,trivial⟩⟩⟩,.inl ?_⟩;try conv=>cbv
 obtain⟨G,j⟩:=xN ((BZ ([g,h].take 2)).length);obtain⟨B,o⟩:=DV (by simp) j;refine .inr (.inr (.inl ⟨[],.one (.AN .u32 0 0 0 G),.arr 0 .u32 [g,h],fun _=>⟨by first | decide | simp[BR,BY],trivial⟩,fun _=>⟨C3 C (I3 (by simp) (by simp) j),rfl,rfl⟩,?_⟩));try conv=>cbv
 exact AD ⟨⟨rfl,.inl ⟨_,rfl,by simp;omega,congrArg _ (by rw[List.drop_zero,o,F];congr 1;simp[AE];omega)⟩,trivial⟩,trivial⟩
theorem Hv (j:z=l) (u:l.length<=17592186044416):CF 254 [.one (.sl .u32 l)] (.one (.sl .u32 z)):=by
 refine AJ Tryz.func254 fun E t=>?_
 conv=>cbv
 intro n4 r;conv=>cbv
 refine⟨fun o=>?_,?_⟩
 ·conv=>cbv
  have g:l=[]:=by rw[r] at o;simpa using o
  exact AD ⟨⟨rfl,.inr (.inl ⟨_,congrArg _ (by rw[j,g])⟩),trivial⟩,trivial⟩
 refine⟨[],fun _=>⟨rfl,by decide,rfl,trivial⟩,.inl ?_⟩;try conv=>cbv
 refine .inl ⟨l,fun _=>⟨rfl,by (first | rfl | omega),rfl,by show (0+l.length)*4<=140737488355328;(try simp only[List.length_take,List.length_drop]);omega⟩,?_⟩;intro (k:List UInt32) s f;have h:k=([]:List UInt32)++(l:List UInt32):=f.1;have d:s=List.length (α:=UInt32) k:=f.2;conv=>cbv
 exact AD ⟨⟨rfl,.inl ⟨_,rfl,by rw[d];simp,congrArg _ (by rw[j,d,h];simp)⟩,trivial⟩,trivial⟩
theorem KS (D: -9223372036854775808<=x/\x<9223372036854775808) (s:AU x b z):CF 302 [.one (.int .i64 x)] (.agg (At b z)):=by
 refine AJ Tryz.func302 fun E o=>?_
 conv=>cbv
 intro F v;conv=>cbv
 have v:=wrap_u64 v;intro C w;conv=>cbv
 refine .inr ?_;cases C <;> conv=>cbv
 ·have B:=AW w;intro t j;conv=>cbv
  obtain⟨u,f⟩:=xU (AP x.natAbs);refine AB o (IL (AQ.of (k:=x.natAbs) (by omega)) (by omega) f) ?_;conv=>cbv
  obtain⟨g,h,d⟩:=AT (x);refine AB (r:= .agg [.bool g,.sl .u32 h]) o (EB (by rw[f,Am,j];simp;omega) d) ?_;try conv=>cbv
  exact AD ⟨⟨rfl,congrArg _ ((d.uniq s rfl).1.symm),congrArg _ ((d.uniq s rfl).2.symm),trivial⟩,trivial⟩
 have B:=AY w;intro G A;conv=>cbv
 have A:=wrap_u64 A;intro t j;conv=>cbv
 obtain⟨u,f⟩:=xU (AP x.natAbs);refine AB o (IL (AQ.of (k:=x.natAbs) (by omega)) (by omega) f) ?_;conv=>cbv
 obtain⟨g,h,d⟩:=AT (x);refine AB (r:= .agg [.bool g,.sl .u32 h]) o (EB (by rw[f,Am,j];simp;omega) d) ?_;try conv=>cbv
 exact AD ⟨⟨rfl,congrArg _ ((d.uniq s rfl).1.symm),congrArg _ ((d.uniq s rfl).2.symm),trivial⟩,trivial⟩
end Go.Abs
namespace Go.Abs
open Go.RowKit
variable {a b i:Nat} {l m z:List UInt32}
theorem NL {x y:UInt32} (h:l[i]? =some x) (o:m[i]? =some y) (t:l.length=m.length) (he:AE (l.drop (i+1))=AE (m.drop (i+1))) (f:x≠y):
  BF x.toNat y.toNat=BF (AE l) (AE m):=by
 have s:=Ew h;have j:=Em l (i+1) (by omega);have g:=Em m (i+1) (by omega);rw[Bq h] at j;rw[Bq o] at g;have b1:=Bx (l.take i);have b2:=Bx (m.take i);rw[List.length_take,Nat.min_eq_left (by omega)] at b1 b2;rw[<-he] at g
 generalize AE (l.drop (i+1))=D at*
 generalize AE (l.take i)=A at*
 generalize AE (m.take i)=B at*
 generalize 2^(32*(i+1))*D=Q at*
 generalize r:2^(32*i)=P at*
 have k:x.toNat≠y.toNat:=fun e=>f (UInt32.toNat_inj.1 e)
 by_cases d:x.toNat<y.toNat
 ·have:P*(x.toNat+1)<=P*y.toNat:=Nat.mul_le_mul_left _ d;rw[Nat.mul_add] at this;have:AE l<AE m:=by omega
  unfold BF;rw[if_pos (by omega),if_pos (by omega)]
 have:P*(y.toNat+1)<=P*x.toNat:=Nat.mul_le_mul_left _ (by omega);rw[Nat.mul_add] at this;have:AE m<AE l:=by omega
 unfold BF;rw[if_neg (by omega),if_pos (by omega),if_neg (by omega),if_pos (by omega)]
theorem NK (h:(AP a).length≠(AP b).length):BF (AP a).length (AP b).length=BF a b:=by
 by_cases d:(AP a).length<(AP b).length
 ·have:a<b:=by
   apply Classical.byContradiction;intro f;have:=DG (a:=b) (b:=a);omega
  unfold BF;rw[if_pos (by omega),if_pos (by omega)]
 have:b<a:=by
  apply Classical.byContradiction;intro f;have:=DG (a:=a) (b:=b);omega
 unfold BF;rw[if_neg (by omega),if_pos (by omega),if_neg (by omega),if_pos (by omega)]
theorem drop_eq {x:UInt32} (d:l[i]? =some x) (f:m[i]? =some x) (he:AE (l.drop (i+1))=AE (m.drop (i+1))):AE (l.drop i)=AE (m.drop i):=by
 have g:=Ew d;have h:=Ew f;rw[List.drop_eq_getElem_cons g,List.drop_eq_getElem_cons h,AE,AE,he];rw[List.getElem?_eq_getElem g] at d;rw[List.getElem?_eq_getElem h] at f;rw[Option.some.inj d,Option.some.inj f]
theorem K6 {c:Int} (Q:l=AP a) (hm:m=AP b) (R:c=BF a b):CF 384 [.one (.sl .u32 l),.one (.sl .u32 m)] (.one (.int .i64 c)):=by
 refine AJ Tryz.func384 fun E Z=>?_
 conv=>cbv
 rintro n7 ⟨e7,f7⟩;conv=>cbv
 rintro n9 ⟨e9,f9⟩;conv=>cbv
 intro U G;conv=>cbv
 cases U <;> conv=>cbv
 ·have M:=Cr G;rintro n17 ⟨a5,f17⟩;conv=>cbv
  intro n18 aa;conv=>cbv
  refine AH ?_;refine .inr ?_;obtain⟨J0,D⟩:=xJ fun vs bl k=>∃(j:Int) (k':Nat),vs=[.one (.sl .u32 l),.one (.sl .u32 m),.one (.int .i64 j)]/\(AQ (j+1) k'/\k'<=l.length/\l.length=m.length/\AE (l.drop k')=AE (m.drop k'))/\k=k'
  refine⟨[],[0,1,5],[],J0,⟨l.length,by rw[D];exact⟨n18,l.length,rfl,⟨⟨by omega⟩,by omega,by omega,by rw[List.drop_length,show l.length=m.length by omega,List.drop_length]⟩,rfl⟩⟩,?_⟩;intro vs bl af P;rw[D] at P;obtain⟨j,k',rfl,⟨P,ad,L,O⟩,ae⟩:=P;conv=>cbv
  have ej:=P.eq;intro n20 H;conv=>cbv
  cases n20 <;> conv=>cbv
  ·have T:=Dm H;have hk:k'=0:=by omega
   have he:a=b:=by rw[hk] at O;simpa [Q,hm,Am] using O
   exact AD ⟨⟨rfl,congrArg _ (by rw[R,he];simp[BF]),trivial⟩,trivial⟩
  have T:=Dn H;refine .inr ?_;obtain⟨g,d⟩:=AL (l:=l) (i:=(j).toNat) (by omega);refine⟨g,fun _=>⟨by omega,d⟩,?_⟩;try conv=>cbv
  intro n26 I;have F:=I.eq;have f26:=I.lt;conv=>cbv
  obtain⟨h,f⟩:=AL (l:=m) (i:=(j).toNat) (by omega);refine⟨h,fun _=>⟨by omega,f⟩,?_⟩;try conv=>cbv
  intro n30 J;have a6:=J.eq;have f30:=J.lt;conv=>cbv
  intro n31 K;conv=>cbv
  refine g2 rfl ?_;cases n31 <;> conv=>cbv
  ·have N:=Cr K;intro n22 ab;conv=>cbv
   refine AH ?_;refine⟨k'-1,?_,?_⟩
   ·omega
   rw[D];obtain⟨i',rfl⟩:∃i',k'=i'+1:=⟨k'-1,by omega⟩
   refine⟨n22,i',rfl,⟨⟨by omega⟩,by omega,L,?_⟩,by omega⟩;have F:g=h:=UInt32.toNat_inj.1 (by omega);subst F;exact drop_eq (i:=i') (by rw[<-d];congr 1;omega) (by rw[<-f];congr 1;omega) O
  have N:=Cs K;obtain⟨o,u⟩:=AL (l:=l) (i:=(j).toNat) (by omega);refine⟨o,fun _=>⟨by omega,u⟩,?_⟩;try conv=>cbv
  intro n35 B;have a7:=B.eq;have f35:=B.lt;conv=>cbv
  obtain⟨r,v⟩:=AL (l:=m) (i:=(j).toNat) (by omega);refine⟨r,fun _=>⟨by omega,v⟩,?_⟩;try conv=>cbv
  intro n39 C;have a8:=C.eq;have f39:=C.lt;conv=>cbv
  obtain⟨ah,t⟩:=xI (BF n35 n39);refine AB Z (WK t) ?_;conv=>cbv
  refine g2 rfl ?_;obtain⟨i',rfl⟩:∃i',k'=i'+1:=⟨k'-1,by omega⟩
  have X:l[i']? =some o:=by rw[<-u];congr 1;omega
  have Y:m[i']? =some r:=by rw[<-v];congr 1;omega
  have e3:l[i']? =some g:=by rw[<-d];congr 1;omega
  have e4:m[i']? =some h:=by rw[<-f];congr 1;omega
  obtain rfl:o=g:=Option.some.inj (X.symm.trans e3);obtain rfl:r=h:=Option.some.inj (Y.symm.trans e4);have S:o≠r:=fun e=>by subst e;exact N (by omega)
  exact AD ⟨⟨rfl,congrArg _ (by rw[t,R,B.eq,C.eq,NL X Y L O S,Q,hm,Am,Am]),trivial⟩,trivial⟩
 have M:=Cs G;intro V w;have a1:=w.eq;have f12:=w.le;conv=>cbv
 intro W A;have a2:=A.eq;have f14:=A.le;conv=>cbv
 obtain⟨ag,s⟩:=xI (BF V W);refine AB Z (Pe s) ?_;conv=>cbv
 exact AD ⟨⟨rfl,congrArg _ (by rw[s,R,w.eq,A.eq,Q,hm,NK (by rw[<-Q,<-hm];intro e;exact M (by omega))]),trivial⟩,trivial⟩
theorem OC (hl:l=AP a) (hm:m=AP b) (hz:z=AP (a-b)) (a8:b<=a) (sl:l.length<=17592186044416):CF 394 [.one (.sl .u32 l),.one (.sl .u32 m)] (.one (.sl .u32 z)):=by
 have ab:m.length<=l.length:=by rw[hl,hm];exact DG a8
 refine AJ Tryz.func394 fun E hE=>?_
 conv=>cbv
 rintro ax ⟨aj,f11⟩;conv=>cbv
 refine⟨fun _=>⟨by omega,by omega,by show _*4<=140737488355328;omega⟩,?_⟩;intro K (M:List UInt32) G;have ai:=G.1;have t:M=List.replicate K (0:el .u32):=G.2;have ah:M.length=K:=by rw[t,List.length_replicate]
 conv=>cbv
 intro ag H;have ak:=H.eq;have f14:=H.le;conv=>cbv
 refine .inr ?_
 obtain⟨J0,B⟩:∃J:List AV->List AK->Nat->Prop,J=fun vs bl k=>∃(o:List UInt32) (n C i':Nat) (c L i:Int),vs=[.one (.sl .u32 l),.one (.sl .u32 m),.one (.AN .u32 12 0 0 n),.one (.int .u64 c),.one (.sl .u32 l),.one (.int .i64 L),.one (.int .i64 i)]/\
  bl=[.arr 0 .u32 o]/\(o.length=l.length/\n=o.length/\CM L l.length/\AQ i i'/\i'<=l.length/\AQ c C/\C<=1)/\
  AE (o.take i')+AE (m.take i')=AE (l.take i')+2^(32*i')*C/\k=l.length-i':=⟨_,rfl⟩
 refine⟨[],[0,1,5,6,13,14,15],[12],J0,⟨l.length-0,by rw[B];exact⟨M,K,0,0,0,ag,0,rfl,rfl,⟨by rw[t,List.length_replicate];omega,by rw[t,List.length_replicate],H,An 0,by omega,An 0,by omega⟩,by simp[AE],rfl⟩⟩,?_⟩;intro vs bl aw hj;rw[B] at hj;obtain⟨o,n,C,i',c,L,i,rfl,rfl,⟨ho,hn,hL,hi,ar,hc,aq⟩,hinv,au⟩:=hj;conv=>cbv
 have eL:=hL.eq;have ei:=hi.eq;have ec:=hc.eq;intro n16 T;conv=>cbv
 cases n16 <;> conv=>cbv
 ·have ad:=AW T;have u:n<=(o).length:=by omega
  obtain⟨af,D⟩:=xN ((BZ ((o).take n)).length);obtain⟨aa,I⟩:=DV u D;refine .inr (.inr (.inl ⟨[],.one (.AN .u32 0 0 0 af),.arr 0 .u32 o,fun _=>⟨by first | decide | simp[BR,BY],trivial⟩,fun _=>⟨C3 hE (I3 u (by omega) D),rfl,rfl⟩,?_⟩));try conv=>cbv
  have hk:i'=l.length:=by omega
  have a2:AE (o.take n)=a-b:=by rw[hk,Ch ab,Ch (Nat.le_refl _),hm,hl,Am,Am,<-hl,<-ho,List.take_length] at hinv;have av:=Bx o;generalize 2^(32*o.length)=P at *;rw[hn,List.take_length];rcases (by omega:C=0\/C=1) with e | e <;> rw[e] at hinv <;> omega
  exact AD ⟨⟨rfl,.inl ⟨_,rfl,by omega,congrArg _ (by rw[List.drop_zero,I,a2,hz])⟩,trivial⟩,trivial⟩
 have ad:=AY T;refine .inr ?_;obtain⟨O,v⟩:=AL (l:=l) (i:=i') (by omega);refine⟨O,fun _=>⟨by omega,by rw[show (i).toNat=i' by omega];exact v⟩,?_⟩;try conv=>cbv
 intro n19 U;have al:=U.eq;have f19:=U.lt;conv=>cbv
 intro n21 V;conv=>cbv
 have V:=wrap_u64 V;intro n23 W;conv=>cbv
 have W:=wrap_u64 W;rintro n26 ⟨an,f26⟩;conv=>cbv
 intro n27 X;conv=>cbv
 refine .inr ?_;cases n27 <;> conv=>cbv
 ·have ae:=AW X;intro n38 r;conv=>cbv
  have r:=wrap_u32 r;refine AG ?_;intro A a5;conv=>cbv
  obtain⟨j,f⟩:=Bb (n:=n38) (by omega);have Q:=f.eq;have R:=f.lt;refine⟨j,fun _=>⟨by show _<List.length (α:=UInt32) o;(first | omega | (simp;omega)),Ba f⟩,?_⟩;intro (g:List UInt32) (d:g=List.set (α:=UInt32) o A j);have S:g.length=o.length:=by rw[d,List.length_set]
  conv=>cbv
  intro h s;conv=>cbv
  refine AG ?_;have s:=DM (p:=9223372036854775808) s rfl;intro N a7;conv=>cbv
  refine AH ?_;refine⟨l.length-(i'+1),?_,?_⟩
  ·omega
  rw[B];refine⟨g,n,h.toNat,i'+1,h,L,N,rfl,rfl,⟨by rw[d,List.length_set];exact ho,by rw[d,List.length_set];exact hn,hL,⟨by omega⟩,by omega,⟨by omega⟩,by omega⟩,?_,rfl⟩;have hs:=Ic (w:=j) (o:=o) (i:=i') (xi:=O.toNat) (yi:=0) (Ef:=C) (Eg:=h.toNat) (by omega) hinv (by omega);rw[d,show A=i' by omega,Bq v,<-hs,Ch (l:=m) (i:=i'+1) (by omega),Ch (l:=m) (i:=i') (by omega),Nat.mul_zero]
  rfl
 have ae:=AY X;obtain⟨a6,F⟩:=AL (l:=m) (i:=i') (by omega);refine⟨a6,fun _=>⟨by omega,by rw[show (i).toNat=i' by omega];exact F⟩,?_⟩;try conv=>cbv
 intro n32 Y;have ao:=Y.eq;have f32:=Y.lt;conv=>cbv
 intro n33 Z;conv=>cbv
 have Z:=wrap_u64 Z;intro n34 a1;conv=>cbv
 have a1:=wrap_u64 a1;intro n38 r;conv=>cbv
 have r:=wrap_u32 r;refine AG ?_;intro A a5;conv=>cbv
 obtain⟨j,f⟩:=Bb (n:=n38) (by omega);have Q:=f.eq;have R:=f.lt;refine⟨j,fun _=>⟨by show _<List.length (α:=UInt32) o;(first | omega | (simp;omega)),Ba f⟩,?_⟩;intro (g:List UInt32) (d:g=List.set (α:=UInt32) o A j);have S:g.length=o.length:=by rw[d,List.length_set]
 conv=>cbv
 intro h s;conv=>cbv
 refine AG ?_;have s:=DM (p:=9223372036854775808) s rfl;intro N a7;conv=>cbv
 refine AH ?_;refine⟨l.length-(i'+1),?_,?_⟩
 ·omega
 rw[B];refine⟨g,n,h.toNat,i'+1,h,L,N,rfl,rfl,⟨by rw[d,List.length_set];exact ho,by rw[d,List.length_set];exact hn,hL,⟨by omega⟩,by omega,⟨by omega⟩,by omega⟩,?_,rfl⟩;have hs:=Ic (w:=j) (o:=o) (i:=i') (xi:=O.toNat) (yi:=a6.toNat) (Ef:=C) (Eg:=h.toNat) (by omega) hinv (by omega);rw[d,show A=i' by omega,Bq v,<-hs,Bq F]
theorem eX (hl:l=AP a) (hm:m=AP b) (hz:z=AP (a*b)) (sl:l.length<=17592186044416) (sm:m.length<=17592186044416):CF 385 [.one (.sl .u32 l),.one (.sl .u32 m)] (.one (.sl .u32 z)):=by
 refine AJ Tryz.func385 fun E hE=>?_
 conv=>cbv
 rintro n12 ⟨e12,f12⟩;conv=>cbv
 intro n13 h13;conv=>cbv
 cases n13 <;> conv=>cbv
 ·have k13:=Ac h13;rintro n16 ⟨e16,f16⟩;conv=>cbv
  intro n17 h17;conv=>cbv
  cases n17 <;> conv=>cbv
  ·have k17:=Ac h17;rintro n20 ⟨e20,f20⟩;conv=>cbv
   rintro n22 ⟨e22,f22⟩;conv=>cbv
   intro n23 h23;conv=>cbv
   refine AH ?_;refine⟨fun _=>⟨by omega,by omega,by show _*4<=140737488355328;omega⟩,?_⟩;intro k24 (l24:List UInt32) ql24;have hk24:=ql24.1;have hl24:l24=List.replicate k24 (0:el .u32):=ql24.2;have gl24:l24.length=k24:=by rw[hl24,List.length_replicate]
   conv=>cbv
   intro n26 h26;have e26:=h26.eq;have f26:=h26.le;conv=>cbv
   refine .inr ?_
   obtain⟨J0,hJ0⟩:∃J:List AV->List AK->Nat->Prop,J=fun vs bl k=>∃(o:List UInt32) (n i':Nat) (L i:Int),vs=[.one (.sl .u32 l),.one (.sl .u32 m),.one (.AN .u32 24 0 0 n),.one (.sl .u32 l),.one (.int .i64 L),.one (.int .i64 i)]/\
    bl=[.arr 0 .u32 o]/\(o.length=l.length+m.length/\n=o.length/\CM L l.length/\AQ i i'/\i'<=l.length)/\
    AE (o.take (i'+m.length))=AE (l.take i')*AE m/\k=l.length-i':=⟨_,rfl⟩
   refine⟨[],[0,1,5,25,26,27],[24],J0,⟨l.length-0,by rw[hJ0];exact⟨l24,k24,0,n26,0,rfl,rfl,⟨by rw[hl24,List.length_replicate];omega,by rw[hl24,List.length_replicate],h26,An 0,by omega⟩,by rw[hl24,List.take_replicate,Ga];simp[AE],rfl⟩⟩,?_⟩;intro vs bl kk0 hj;rw[hJ0] at hj;obtain⟨o,n,i',L,i,rfl,rfl,⟨ho,hn,hL,hi,hiL⟩,hinv,hk0⟩:=hj;conv=>cbv
   have eL:=hL.eq;have ei:=hi.eq;intro n28 h28;conv=>cbv
   cases n28 <;> conv=>cbv
   ·have k28:=AW h28;have hnl74:n<=(o).length:=by omega
    obtain⟨m74,hm74⟩:=xN ((BZ ((o).take n)).length);obtain⟨hle74,htk74⟩:=DV hnl74 hm74;refine .inr (.inr (.inl ⟨[],.one (.AN .u32 0 0 0 m74),.arr 0 .u32 o,fun _=>⟨by first | decide | simp[BR,BY],trivial⟩,fun _=>⟨C3 hE (I3 hnl74 (by omega) hm74),rfl,rfl⟩,?_⟩));try conv=>cbv
    have hfin:AE (o.take n)=a*b:=by rw[show i'=l.length by omega,List.take_length,hl,hm,Am,Am,<-hl,<-hm,<-ho,List.take_length] at hinv;rw[hn,List.take_length,hinv]
    exact AD ⟨⟨rfl,.inl ⟨_,rfl,by omega,congrArg _ (by rw[List.drop_zero,htk74,hfin,hz])⟩,trivial⟩,trivial⟩
   have k28:=AY h28;refine .inr ?_;obtain⟨x30,hx30⟩:=AL (l:=l) (i:=i') (by omega);refine⟨x30,fun _=>⟨by omega,by rw[show (i).toNat=i' by omega];exact hx30⟩,?_⟩;try conv=>cbv
   intro n31 h31;have e31:=h31.eq;have f31:=h31.lt;conv=>cbv
   intro n33 h33;have e33:=h33.eq;have f33:=h33.le;conv=>cbv
   refine .inr ?_
   obtain⟨J1,hJ1⟩:∃J:List AV->List AK->Nat->Prop,J=fun vs bl k=>∃(o1:List UInt32) (n1 c' k':Nat) (c L1 i1:Int),vs=[.one (.sl .u32 l),.one (.sl .u32 m),.one (.AN .u32 24 0 0 n1),.one (.int .i64 i),.one (.int .u32 n31),.one (.int .u64 c),.one (.sl .u32 l),.one (.int .i64 L),.one (.int .i64 i),.one (.sl .u32 m),.one (.int .i64 L1),.one (.int .i64 i1)]/\
    bl=[.arr 0 .u32 o1]/\(o1.length=l.length+m.length/\n1=o1.length/\CM L1 m.length/\AQ i1 k'/\k'<=m.length/\AQ c c'/\c'<4294967296)/\
    AE (o1.take (i'+m.length))+2^(32*(i'+k'))*c'=AE (l.take i')*AE m+x30.toNat*2^(32*i')*AE (m.take k')/\k=m.length-k':=⟨_,rfl⟩
   refine⟨[],[0,1,5,6,7,8,25,26,27,32,33,34],[24],J1,⟨m.length-0,by rw[hJ1];exact⟨o,n,0,0,0,n33,0,rfl,rfl,⟨ho,hn,h33,An 0,by omega,An 0,by omega⟩,by rw[hinv];simp[AE],rfl⟩⟩,?_⟩;intro vs bl kk1 hj;rw[hJ1] at hj;obtain⟨o1,n1,c',k',c,L1,i1,rfl,rfl,⟨ho1,hn1,hL1,hi1,hiL1,hc,hc1⟩,hinv1,hk1⟩:=hj;conv=>cbv
   have eL1:=hL1.eq;have ei1:=hi1.eq;have ec:=hc.eq;intro n35 h35;conv=>cbv
   cases n35 <;> conv=>cbv
   ·have k35:=AW h35;rintro n67 ⟨e67,f67⟩;conv=>cbv
    intro n68 h68;conv=>cbv
    refine AH ?_;intro n70 h70;conv=>cbv
    have h70:=wrap_u32 h70;refine AG ?_;intro j71 hj71;conv=>cbv
    obtain⟨w71,hw71⟩:=Bb (n:=n70) (by omega);have ew71:=hw71.eq;have fw71:=hw71.lt;refine⟨w71,fun _=>⟨by show _<List.length (α:=UInt32) o1;(first | omega | (simp;omega)),Ba hw71⟩,?_⟩;intro (l71:List UInt32) (hl71:l71=List.set (α:=UInt32) o1 j71 w71);have gl71:l71.length=o1.length:=by rw[hl71,List.length_set]
    conv=>cbv
    intro n72 h72;conv=>cbv
    refine AH ?_;refine⟨l.length-(i'+1),?_,?_⟩
    ·omega
    rw[hJ0];refine⟨l71,n1,i'+1,L,n72,rfl,rfl,⟨by rw[hl71,List.length_set];exact ho1,by rw[hl71,List.length_set];exact hn1,hL,⟨by omega⟩,by omega⟩,?_,rfl⟩;have hk:k'=m.length:=by omega
    have hlen:i'+m.length<o1.length:=by omega
    rw[hl71,show i'+1+m.length=i'+m.length+1 by omega,show j71=i'+m.length by omega,Dz hlen,DH,List.length_take,Nat.min_eq_left (by omega),show w71.toNat=c' by omega];rw[hk] at hinv1;rw[hinv1,List.take_length,Bq hx30]
    grind
   have k35:=AY h35;refine .inr ?_;obtain⟨x37,hx37⟩:=AL (l:=m) (i:=k') (by omega);refine⟨x37,fun _=>⟨by omega,by rw[show (i1).toNat=k' by omega];exact hx37⟩,?_⟩;try conv=>cbv
   intro n38 h38;have e38:=h38.eq;have f38:=h38.lt;conv=>cbv
   intro n41 h41;conv=>cbv
   have h41:=wrap_u64 h41;intro n43 h43;conv=>cbv
   have h43:=wrap_u64 h43;have ep:n41*n43=((x30.toNat*x37.toNat:Nat):Int):=by rw[Int.natCast_mul];congr 1 <;> omega
   have bp:x30.toNat*x37.toNat<=4294967295*4294967295:=Nat.mul_le_mul (by omega) (by omega);intro n44 h44;conv=>cbv
   have h44:=wrap_u64 h44;intro n48 h48;conv=>cbv
   refine AH ?_;refine AG ?_;intro j49 hj49;conv=>cbv
   obtain⟨x50,hx50⟩:=AL (l:=o1) (i:=j49) (by omega);refine⟨x50,fun _=>hx50,?_⟩;try conv=>cbv
   intro n50 h50;have e50:=h50.eq;have f50:=h50.lt;conv=>cbv
   intro C6 h51;conv=>cbv
   have h51:=wrap_u64 h51;intro n52 h52;conv=>cbv
   have h52:=wrap_u64 h52;intro CW h53;conv=>cbv
   have h53:=wrap_u64 h53;intro n57 h57;conv=>cbv
   refine AH ?_;intro n59 h59;conv=>cbv
   have h59:=wrap_u32 h59;refine AG ?_;intro j60 hj60;conv=>cbv
   obtain⟨w60,hw60⟩:=Bb (n:=n59) (by omega);have ew60:=hw60.eq;have fw60:=hw60.lt;refine⟨w60,fun _=>⟨by show _<List.length (α:=UInt32) o1;(first | omega | (simp;omega)),Ba hw60⟩,?_⟩;intro (l60:List UInt32) (hl60:l60=List.set (α:=UInt32) o1 j60 w60);have gl60:l60.length=o1.length:=by rw[hl60,List.length_set]
   conv=>cbv
   intro n62 h62;conv=>cbv
   refine AG ?_;have h62:=DM (p:=4294967296) h62 rfl;intro n63 h63;conv=>cbv
   refine AH ?_;refine⟨m.length-(k'+1),?_,?_⟩
   ·omega
   rw[hJ1];refine⟨l60,n1,n62.toNat,k'+1,n62,L1,n63,rfl,rfl,⟨by rw[hl60,List.length_set];exact ho1,by rw[hl60,List.length_set];exact hn1,hL1,⟨by omega⟩,by omega,⟨by omega⟩,by omega⟩,?_,rfl⟩;have hj:j60=i'+k':=by omega
   have hj2:j49=i'+k':=by omega
   rw[hj2] at hx50;rw[hl60,hj,Bq hx37,show i'+(k'+1)=i'+k'+1 by omega];refine PF (q:=x50) (xi:=x30.toNat) (yk:=x37.toNat) (old:=x50.toNat) (c:=c') rfl (by omega) hx50 rfl hinv1 ?_ rfl;rw[ep] at h44;omega
  have k17:=Ae h17;have h0:b=0:=EI.1 (by rw[<-hm];exact List.length_eq_zero_iff.1 (by omega));exact AD ⟨⟨rfl,.inr (.inl ⟨_,congrArg _ (by rw[hz,h0];rfl)⟩),trivial⟩,trivial⟩
 have k13:=Ae h13;have h0:a=0:=EI.1 (by rw[<-hl];exact List.length_eq_zero_iff.1 (by have k13:=Ae h13;omega));exact AD ⟨⟨rfl,.inr (.inl ⟨_,congrArg _ (by rw[hz,h0,Nat.zero_mul];rfl)⟩),trivial⟩,trivial⟩
end Go.Abs
namespace Go.Abs
open Go.RowKit
variable {b b1 b2 b3 c:Bool} {l l1 l2 l3 z:List UInt32} {x y:Int}
theorem fL {i:Nat} {x:UInt32} {n:Int} (g:l[i]? =some x) (h:i+1=l.length) (f:n=x.toNat):Fl b l=(n !=0):=by
 have d:l.getLast? =some x:=by rw[List.getLast?_eq_getElem?,<-g];congr 1;omega
 unfold Fl;rw[d,f]
 show (x !=0)=_
 rw[Bool.eq_iff_iff];simp only[bne_iff_ne,ne_eq];rw[<-UInt32.toNat_inj]
 show ¬x.toNat=0↔_
 omega
theorem We (t:x=if b=true then -(AE l:Int) else AE l) (s:l.length<=17592186044416) (o:AU x c z):CF 391 [.agg (At b l)] (.agg (At c z)):=by
 refine AJ Tryz.func391 fun E h=>?_
 conv=>cbv
 obtain⟨u,d⟩:=xU (AP (AE l));refine AB h (Dr rfl d) ?_;conv=>cbv
 obtain⟨v,g⟩:=xU u;refine AB (r:= .one (.sl .u32 v)) h (Hv g (by rw[d,<-KO];exact Nat.le_trans (PG l) s)) ?_;try conv=>cbv
 obtain⟨j,k,f⟩:=AT (x);refine AB (r:= .agg [.bool j,.sl .u32 k]) h (EB (by rw[g,d,Am];exact t) f) ?_;try conv=>cbv
 refine g2 rfl ?_;exact AD ⟨⟨rfl,congrArg _ ((f.uniq o rfl).1.symm),congrArg _ ((f.uniq o rfl).2.symm),trivial⟩,trivial⟩
theorem Pq (o:AU x b l) (u:l.length<=17592186044416) (s:AU (-x) c z):CF 390 [.agg (At b l)] (.agg (At c z)):=by
 refine AJ Tryz.func390 fun E k=>?_
 conv=>cbv
 intro A t;conv=>cbv
 obtain⟨v,f⟩:=xU (AP (AE l));refine AB k (Dr rfl f) ?_;conv=>cbv
 have t8:v=l:=by rw[f];exact o.trim
 obtain⟨w,g⟩:=xU l;refine AB (r:= .one (.sl .u32 w)) k (Hv (g.trans t8.symm) (by rw[t8];exact u)) ?_;try conv=>cbv
 obtain⟨h,j,d⟩:=AT (-x);refine AB (r:= .agg [.bool h,.sl .u32 j]) k (EB (by rw[g,t];exact VD o.EK) d) ?_;try conv=>cbv
 refine g2 rfl ?_;exact AD ⟨⟨rfl,congrArg _ ((d.uniq s rfl).1.symm),congrArg _ ((d.uniq s rfl).2.symm),trivial⟩,trivial⟩
theorem Wu {c:Int} (k:x=if b=true then -(AE l:Int) else AE l) (j:c=Bn x):CF 316 [.agg (At b l)] (.one (.int .i64 c)):=by
 refine AJ Tryz.func316 fun E o=>?_
 conv=>cbv
 refine .inr ?_;obtain⟨u,d⟩:=xU (AP (AE l));refine AB o (Dr rfl d) ?_;conv=>cbv
 rintro t ⟨f,f7⟩;conv=>cbv
 intro s h;conv=>cbv
 cases s <;> conv=>cbv
 ·have r:=Ac h;cases b <;> conv=>cbv
  ·have g:AE l≠0:=fun e=>by rw[d,e] at f;exact (Ac h) f
   exact AD ⟨⟨rfl,congrArg _ (by rw[j,MI k g];rfl),trivial⟩,trivial⟩
  have g:AE l≠0:=fun e=>by rw[d,e] at f;exact (Ac h) f
  exact AD ⟨⟨rfl,congrArg _ (by rw[j,MI k g];rfl),trivial⟩,trivial⟩
 have r:=Ae h;have g:AE l=0:=by rw[d] at f;exact EI.1 (List.length_eq_zero_iff.1 (by omega))
 exact AD ⟨⟨rfl,congrArg _ (by rw[j,k,g];unfold Bn;simp),trivial⟩,trivial⟩
theorem JC {c:Int} (f:AU x b l) (d:c=Bn x):CF 316 [.agg (At b l)] (.one (.int .i64 c)):=Wu f.EK d
theorem Ps (f:AU x b l) (d:l.length<=17592186044416) (g:AU x c z):CF 391 [.agg (At b l)] (.agg (At c z)):=We f.EK d g
theorem Pd {c:Int} (u:AU x b1 l1) (v:AU y b2 l2) (D:c=BF x y):CF 356 [.agg (At b1 l1),.agg (At b2 l2)] (.one (.int .i64 c)):=by
 refine AJ Tryz.func356 fun E r=>?_
 conv=>cbv
 obtain⟨H,f⟩:=xI (Bn x);refine AB r (JC u f) ?_;conv=>cbv
 obtain⟨A,d⟩:=xI (Bn y);refine AB r (JC v d) ?_;conv=>cbv
 refine g2 rfl ?_;intro w s;conv=>cbv
 cases w <;> conv=>cbv
 ·have o:=Cr s;obtain⟨B,j⟩:=xU (AP (AE l1));refine AB r (Dr rfl j) ?_;conv=>cbv
  have t20:B=l1:=by rw[j];exact u.trim
  obtain⟨C,k⟩:=xU (AP (AE l2));refine AB r (Dr rfl k) ?_;conv=>cbv
  have t23:C=l2:=by rw[k];exact v.trim
  obtain⟨G,g⟩:=xI (BF x.natAbs y.natAbs);refine AB r (K6 (t20.trans u.Au) (t23.trans v.Au) g) ?_;conv=>cbv
  intro n25 t;conv=>cbv
  refine⟨fun _=>by rw[t,f,g];exact dR _ _ _,?_⟩;refine g2 rfl ?_;exact AD ⟨⟨rfl,congrArg _ (by rw[D,t,f,g];exact ZL (by rw[<-f,<-d];exact o)),trivial⟩,trivial⟩
 have o:=Cs s;obtain⟨F,h⟩:=xI (BF H A);refine AB r (Pe h) ?_;conv=>cbv
 exact AD ⟨⟨rfl,congrArg _ (by rw[D,h,f,d];exact ZK (by rw[<-f,<-d];exact o)),trivial⟩,trivial⟩
theorem MY (w:AU x b1 l1) (A:AU y b2 l2) (B:AU (x+y) b3 l3) (s1:l1.length<=17592186044416) (s2:l2.length<=17592186044416):CF 382 [.agg (At b1 l1),.agg (At b2 l2)] (.agg (At b3 l3)):=by
 refine AJ Tryz.func382 fun E k=>?_
 conv=>cbv
 obtain⟨R,F⟩:=xU (AP (AE l1));refine AB k (Dr rfl F) ?_;conv=>cbv
 have t9:R=l1:=by rw[F];exact w.trim
 obtain⟨M,s⟩:=xU (AP (AE l2));refine AB k (Dr rfl s) ?_;conv=>cbv
 have t12:M=l2:=by rw[s];exact A.trim
 refine g2 rfl ?_;intro n17 C;conv=>cbv
 cases n17 <;> conv=>cbv
 ·have o:=NA C;obtain⟨Q,f⟩:=xI (BF x.natAbs y.natAbs);refine AB k (K6 (t9.trans w.Au) (t12.trans A.Au) f) ?_;conv=>cbv
  intro n27 D;conv=>cbv
  cases n27 <;> conv=>cbv
  ·have d:=AW D;obtain⟨P,v⟩:=xU (AP (x.natAbs-y.natAbs));refine AB (r:= .one (.sl .u32 P)) k (OC (t9.trans w.Au) (t12.trans A.Au) v (by rw[f] at d;have:=Gt d;omega) (by rw[t9];exact s1)) ?_;try conv=>cbv
   obtain⟨I,L,j⟩:=AT (x+y);refine AB (r:= .agg [.bool I,.sl .u32 L]) k (EB (by rw[v,Am,Int.add_comm];rw[f] at d;exact Kn A.neg w.neg (Ne.symm o) (by have:=Gt d;omega)) j) ?_;try conv=>cbv
   refine g2 rfl ?_;exact AD ⟨⟨rfl,congrArg _ ((j.uniq B rfl).1.symm),congrArg _ ((j.uniq B rfl).2.symm),trivial⟩,trivial⟩
  have d:=AY D;obtain⟨O,u⟩:=xU (AP (y.natAbs-x.natAbs));refine AB (r:= .one (.sl .u32 O)) k (OC (t12.trans A.Au) (t9.trans w.Au) u (by rw[f] at d;have:=Gu d;omega) (by rw[t12];exact s2)) ?_;try conv=>cbv
  obtain⟨H,K,h⟩:=AT (x+y);refine AB (r:= .agg [.bool H,.sl .u32 K]) k (EB (by rw[u,Am];rw[f] at d;exact Kn w.neg A.neg o (by have:=Gu d;omega)) h) ?_;try conv=>cbv
  refine g2 rfl ?_;exact AD ⟨⟨rfl,congrArg _ ((h.uniq B rfl).1.symm),congrArg _ ((h.uniq B rfl).2.symm),trivial⟩,trivial⟩
 have o:=NB C;obtain⟨N,t⟩:=xU (AP (x.natAbs+y.natAbs));refine AB (r:= .one (.sl .u32 N)) k (UB (t9.trans w.Au) (t12.trans A.Au) t (by rw[t9];exact s1) (by rw[t12];exact s2)) ?_;try conv=>cbv
 obtain⟨G,J,g⟩:=AT (x+y);refine AB (r:= .agg [.bool G,.sl .u32 J]) k (EB (by rw[t,Am];exact add_same w.neg (o.trans A.neg)) g) ?_;try conv=>cbv
 refine g2 rfl ?_;exact AD ⟨⟨rfl,congrArg _ ((g.uniq B rfl).1.symm),congrArg _ ((g.uniq B rfl).2.symm),trivial⟩,trivial⟩
theorem ED (s:AU x b1 l1) (t:AU y b2 l2) (A:AU (x*y) b3 l3) (s1:l1.length<=17592186044416) (s2:l2.length<=17592186044416):CF 357 [.agg (At b1 l1),.agg (At b2 l2)] (.agg (At b3 l3)):=by
 refine AJ Tryz.func357 fun E o=>?_
 conv=>cbv
 intro C B;conv=>cbv
 obtain⟨u,f⟩:=xU (AP (AE l1));refine AB o (Dr rfl f) ?_;conv=>cbv
 have t12:u=l1:=by rw[f];exact s.trim
 obtain⟨v,g⟩:=xU (AP (AE l2));refine AB o (Dr rfl g) ?_;conv=>cbv
 have t15:v=l2:=by rw[g];exact t.trim
 obtain⟨w,h⟩:=xU (AP (x.natAbs*y.natAbs));refine AB (r:= .one (.sl .u32 w)) o (eX (t12.trans s.Au) (t15.trans t.Au) h (by rw[t12];exact s1) (by rw[t15];exact s2)) ?_;try conv=>cbv
 obtain⟨j,k,d⟩:=AT (x*y);refine AB (r:= .agg [.bool j,.sl .u32 k]) o (EB (by rw[h,Am,B];exact TN s.neg t.neg) d) ?_;try conv=>cbv
 refine g2 rfl ?_;exact AD ⟨⟨rfl,congrArg _ ((d.uniq A rfl).1.symm),congrArg _ ((d.uniq A rfl).2.symm),trivial⟩,trivial⟩
theorem P7 (u:c=Fl b l):CF 366 [.agg (At b l)] (.one (.bool c)):=by
 refine AJ Tryz.func366 fun E D=>?_
 conv=>cbv
 rintro F ⟨C,f6⟩;conv=>cbv
 intro B w;conv=>cbv
 cases B <;> conv=>cbv
 ·have A:=Ac w;intro n16 f;conv=>cbv
  cases n16 <;> conv=>cbv
  ·have j:=Bh f
   exfalso;omega
  have j:=Bi f;intro n21 t;conv=>cbv
  refine AH ?_;obtain⟨k,d⟩:=AL (l:=l) (i:=(n21).toNat) (by omega);refine⟨k,fun _=>⟨by omega,d⟩,?_⟩;try conv=>cbv
  intro n23 g;have o:=g.eq;have f23:=g.lt;conv=>cbv
  intro n24 s;conv=>cbv
  exact AD ⟨⟨rfl,congrArg _ (by rw[u,s];exact fL d (by omega) o),trivial⟩,trivial⟩
 have A:=Ae w;intro v r;conv=>cbv
 cases v <;> conv=>cbv
 ·have h:=C1 r;intro n16 f;conv=>cbv
  cases n16 <;> conv=>cbv
  ·have j:=Bh f;exact AD ⟨⟨rfl,congrArg _ (by rw[u,List.eq_nil_of_length_eq_zero (by omega:l.length=0),h];rfl),trivial⟩,trivial⟩
  have j:=Bi f;intro n21 t;conv=>cbv
  refine AH ?_;obtain⟨k,d⟩:=AL (l:=l) (i:=(n21).toNat) (by omega);refine⟨k,fun _=>⟨by omega,d⟩,?_⟩;try conv=>cbv
  intro n23 g;have o:=g.eq;have f23:=g.lt;conv=>cbv
  intro n24 s;conv=>cbv
  exfalso;omega
 have h:=C2 r;exact AD ⟨⟨rfl,congrArg _ (by rw[u,List.eq_nil_of_length_eq_zero (by omega:l.length=0),h];rfl),trivial⟩,trivial⟩
end Go.Abs
namespace Go.Abs
open Go.RowKit
variable {a b n:Int} {e p q:Nat}
theorem O5 (h:n=IntKind.u64.wrap (a*2^min b.toNat IntKind.u64.bits)) (ha:a=p) (hb:b=e) (he:e<=64:=by omega):n=((p*2^e%18446744073709551616:Nat):Int):=by
 have d:min b.toNat IntKind.u64.bits=e:=by rw[hb];show min e 64=e;omega
 have f:=wrap_u64 h;rw[f,d,ha];simp
theorem O4 (h:n=IntKind.u32.wrap (a*2^min b.toNat IntKind.u32.bits)) (ha:a=p) (hb:b=e) (he:e<=32:=by omega):n=((p*2^e%4294967296:Nat):Int):=by
 have d:min b.toNat IntKind.u32.bits=e:=by rw[hb];show min e 32=e;omega
 have f:=wrap_u32 h;rw[f,d,ha];simp
theorem shr_var {m:Nat} (h:n=a.fdiv (2^min b.toNat m)) (ha:a=p) (hb:b=e) (he:e<=m):n=((p/2^e:Nat):Int):=by
 have d:min b.toNat m=e:=by rw[hb];simp;omega
 rw[h,d,ha,Int.fdiv_eq_ediv_of_nonneg _ (by have:=Int.pow_pos (n:=2) (m:=e) (by decide);omega)];simp
theorem Ly (h:n=IntKind.u32.wrap (BitVec.ofInt IntKind.u32.bits a ||| BitVec.ofInt IntKind.u32.bits b).toNat) (ha:a=p) (hb:b=q) (g:p<4294967296) (j:q<4294967296):n=((p ||| q:Nat):Int):=by
 have f:=wrap_u32 h;rw[f,ha,hb]
 have d:(BitVec.ofInt IntKind.u32.bits (p:Int) ||| BitVec.ofInt IntKind.u32.bits (q:Int)).toNat=p ||| q:=by
  rw[BitVec.toNat_or,BitVec.toNat_ofInt,BitVec.toNat_ofInt]
  show ((p:Int)%4294967296).toNat ||| ((q:Int)%4294967296).toNat=_
  congr 1 <;> omega
 rw[d];have:p ||| q<2^32:=Nat.or_lt_two_pow g j
 omega
theorem Ty (h:n=IntKind.u64.wrap (BitVec.ofInt IntKind.u64.bits a ||| BitVec.ofInt IntKind.u64.bits b).toNat) (ha:a=p) (hb:b=q) (g:p<18446744073709551616) (j:q<18446744073709551616):n=((p ||| q:Nat):Int):=by
 have f:=wrap_u64 h;rw[f,ha,hb]
 have d:(BitVec.ofInt IntKind.u64.bits (p:Int) ||| BitVec.ofInt IntKind.u64.bits (q:Int)).toNat=p ||| q:=by
  rw[BitVec.toNat_or,BitVec.toNat_ofInt,BitVec.toNat_ofInt]
  show ((p:Int)%18446744073709551616).toNat ||| ((q:Int)%18446744073709551616).toNat=_
  congr 1 <;> omega
 rw[d];have:p ||| q<2^64:=Nat.or_lt_two_pow g j
 omega
theorem Hi (h:n=IntKind.u64.wrap (BitVec.ofInt IntKind.u64.bits a ||| BitVec.ofInt IntKind.u64.bits b).toNat) (ha:a=((p*4294967296:Nat):Int)) (hb:b=q) (g:p<4294967296) (f:q<4294967296):n=((q+4294967296*p:Nat):Int):=by
 rw[Ty h ha hb (by omega) (by omega),Nat.or_comm,Nat.mul_comm];have:=Ik (a:=q) (b:=p) (d:=32) f;exact congrArg _ this
end Go.Abs
