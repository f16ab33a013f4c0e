/- Part 12 of a proof. Conditions: each theorem's own. -/
import Derived.Test.YtmhbikooakmagaaGreatRk10
set_option linter.all false
set_option maxHeartbeats 8000000
set_option maxRecDepth 20000
open Go.Proofs
namespace Go.Abs
open Go.RowKit
variable {a b n:Nat} {c y:Int} {l m z:List UInt32}
theorem Ea (R:AE l=n) (D:z=AP n):CF 358 [.one (.sl .u32 l)] (.one (.sl .u32 z)):=by
 have D:B4 l=z:=by rw[D,<-R,Ky]
 refine AJ Tryz.func358 fun E Z=>?_
 conv=>cbv
 refine .inr ?_;obtain⟨K,r⟩:=xJ fun vs L k=>∃m:List UInt32,vs=[.one (.sl .u32 m)]/\B4 m=z/\k=m.length
 refine⟨[],[0],[],K,⟨l.length,by rw[r];exact⟨l,rfl,D,rfl⟩⟩,?_⟩;intro vs L T I;rw[r] at I;obtain⟨m,rfl,s,Q⟩:=I;conv=>cbv
 rintro n4 ⟨X,f4⟩;conv=>cbv
 intro W G;conv=>cbv
 cases W <;> conv=>cbv
 ·have S:=Bq G;have B:m=[]:=List.eq_nil_of_length_eq_zero (by omega);exact AD ⟨⟨rfl,congrArg _ (by rw[<-s,B];rfl),trivial⟩,trivial⟩
 have S:=Br G;rintro n9 ⟨Y,f9⟩;conv=>cbv
 intro f O;conv=>cbv
 refine AI ?_;obtain⟨g,d⟩:=AK (l:=m) (i:=(f).toNat) (by omega);refine⟨g,fun _=>⟨by omega,d⟩,?_⟩;try conv=>cbv
 intro V o;have M:=o.eq;have f12:=o.lt;conv=>cbv
 intro F u;conv=>cbv
 cases F <;> conv=>cbv
 ·have v:=Ah u;have C:g≠0:=fun h=>by subst h;exact v o.eq
  have A:m=m.take (f).toNat++[g]:=by have:=Cg d;rw[List.take_of_length_le (by omega)] at this;exact this
  exact AD ⟨⟨rfl,congrArg _ (by rw[<-s,A,JV C]),trivial⟩,trivial⟩
 have v:=Aj u;refine .inr ?_;rintro n17 ⟨N,f17⟩;conv=>cbv
 intro n18 P;conv=>cbv
 refine AI ?_;intro U J;conv=>cbv
 refine AH ?_;intro w H;conv=>cbv
 intro t j;conv=>cbv
 refine⟨t.length,?_,?_⟩
 ·rw[j];simp;omega
 rw[r];have el:t=m.take (f).toNat:=by rw[j,show w=(f).toNat by omega];simp
 refine⟨t,rfl,?_,rfl⟩;obtain rfl:g=0:=UInt32.toNat_inj.1 (by show _=0;omega)
 have A:m=m.take (f).toNat++[0]:=by
  have:=Cg d;rw[List.take_of_length_le (by omega)] at this;exact this
 rw[el,<-s];conv=>rhs;rw[A]
 rw[Is]
theorem Wx (x:Int):CF 395 [.one (.int .i64 x)] (.one (.bool false)):=by
 refine AJ Tryz.func395 fun E f=>?_
 conv=>cbv
 intro g d;conv=>cbv
 exact AD ⟨⟨rfl,congrArg _ (by rw[d];simp),trivial⟩,trivial⟩
theorem Wy (x:Int):CF 408 [.one (.int .u32 x)] (.one (.bool false)):=by
 refine AJ Tryz.func408 fun E f=>?_
 conv=>cbv
 intro g d;conv=>cbv
 exact AD ⟨⟨rfl,congrArg _ (by rw[d];simp),trivial⟩,trivial⟩
theorem TA {x:Int} (g:c=BV x y):CF 383 [.one (.int .i64 x),.one (.int .i64 y)] (.one (.int .i64 c)):=by
 refine AJ Tryz.func383 fun E k=>?_
 conv=>cbv
 refine AB k (Wx _) ?_;conv=>cbv
 refine AB k (Wx _) ?_;conv=>cbv
 intro n16 d;conv=>cbv
 cases n16 <;> conv=>cbv
 ·have h:=AW d;intro n19 f;conv=>cbv
  cases n19 <;> conv=>cbv
  ·have j:=Bq f;exact AD ⟨⟨rfl,congrArg _ (by rw[g];unfold BV;split <;> (try split) <;> omega),trivial⟩,trivial⟩
  have j:=Br f;exact AD ⟨⟨rfl,congrArg _ (by rw[g];unfold BV;split <;> (try split) <;> omega),trivial⟩,trivial⟩
 have h:=AY d;exact AD ⟨⟨rfl,congrArg _ (by rw[g];unfold BV;split <;> (try split) <;> omega),trivial⟩,trivial⟩
theorem bB {x:Int} (g:c=BV x y):CF 396 [.one (.int .u32 x),.one (.int .u32 y)] (.one (.int .i64 c)):=by
 refine AJ Tryz.func396 fun E k=>?_
 conv=>cbv
 refine AB k (Wy _) ?_;conv=>cbv
 refine AB k (Wy _) ?_;conv=>cbv
 intro n16 d;conv=>cbv
 cases n16 <;> conv=>cbv
 ·have h:=AW d;intro n19 f;conv=>cbv
  cases n19 <;> conv=>cbv
  ·have j:=Bq f;exact AD ⟨⟨rfl,congrArg _ (by rw[g];unfold BV;split <;> (try split) <;> omega),trivial⟩,trivial⟩
  have j:=Br f;exact AD ⟨⟨rfl,congrArg _ (by rw[g];unfold BV;split <;> (try split) <;> omega),trivial⟩,trivial⟩
 have h:=AY d;exact AD ⟨⟨rfl,congrArg _ (by rw[g];unfold BV;split <;> (try split) <;> omega),trivial⟩,trivial⟩
theorem Kz {m:Nat} (T:n<=l.length) (hl:l.length<=140737488355328) (hm:m=(B4 (l.take n)).length):GN Tryz.prog 358 (.AN .u32 0 0 0 n) (.arr 0 .u32 l) [] (.one (.AN .u32 0 0 0 m)) (.arr 0 .u32 l):=by
 refine LS Tryz.func358 (by kernel_rfl) rfl fun E hE=>?_
 conv=>cbv
 refine .inr ?_;obtain⟨K,j⟩:=xJ fun vs C k=>∃q:Nat,vs=[.one (.AN .u32 0 0 0 q)]/\C=[.arr 0 .u32 l]/\q<=l.length/\m=(B4 (l.take q)).length/\k=q
 refine⟨[],[0],[0],K,⟨n,by rw[j];exact⟨n,rfl,rfl,T,hm,rfl⟩⟩,?_⟩;intro vs C V H;rw[j] at H;obtain⟨q,rfl,rfl,hq,o,S⟩:=H;conv=>cbv
 intro n4 Q;have Z:=Q.eq;conv=>cbv
 intro Y D;conv=>cbv
 cases Y <;> conv=>cbv
 ·have U:=Bq D;refine⟨fun _=>⟨⟨⟨rfl,.inr (.inr ⟨rfl,rfl,congrArg (AC.AN .u32 0 0 0) (by rw[o,show q=0 by omega];rfl)⟩),trivial⟩,trivial⟩,rfl,by simp⟩,fun _=>rfl⟩
 have U:=Br D;intro n9 R;have e9:=R.eq;conv=>cbv
 intro W O;conv=>cbv
 refine AI ?_;refine AH ?_;intro r I;conv=>cbv
 obtain⟨s,d⟩:=AK (l:=l) (i:=r) (by omega);refine⟨s,fun _=>d,?_⟩;try conv=>cbv
 intro X g;have M:=g.eq;have f12:=g.lt;conv=>cbv
 intro A t;conv=>cbv
 cases A <;> conv=>cbv
 ·have u:=Ah t;have w:s≠0:=fun h=>by subst h;exact u g.eq
  refine⟨fun _=>⟨⟨⟨rfl,.inr (.inr ⟨rfl,rfl,congrArg (AC.AN .u32 0 0 0) (by rw[o,show q=r+1 by omega,Cg d,JV w,List.length_append,List.length_take];simp;omega)⟩),trivial⟩,trivial⟩,rfl,by simp⟩,fun _=>rfl⟩
 have u:=Aj t;refine .inr ?_;intro n17 v;have N:=v.eq;conv=>cbv
 intro n18 P;conv=>cbv
 refine AI ?_;refine AH ?_;intro L F;conv=>cbv
 rintro B f ⟨J,G⟩;conv=>cbv
 refine⟨f,?_,?_⟩
 ·omega
 rw[j];obtain rfl:B=0:=by omega
 refine⟨f,rfl,rfl,by omega,?_,rfl⟩;obtain rfl:s=0:=UInt32.toNat_inj.1 (by show _=0;omega);rw[o,show q=f+1 by omega,Cg (x:=0) (by rw[show f=r by omega];exact d),Is]
theorem YW {zn:Nat} (hl:l=AP a) (hm:m=AP b) (hz:z=AP (a+b)) (ag:zn=z.length) (sl:l.length<=17592186044416) (sm:m.length<=17592186044416):CF 393 [.one (.sl .u32 l),.one (.sl .u32 m)] (.one (.own .u32 z zn)):=by
 refine AJ Tryz.func393 fun E hE=>?_
 conv=>cbv
 rintro aL ⟨az,f10⟩;conv=>cbv
 rintro aM ⟨aA,f12⟩;conv=>cbv
 intro ar Y;conv=>cbv
 obtain⟨aj,D⟩:=xK fun vs bl=>∃(p q:Nat) (x y:List UInt32),vs=[.one (.sl .u32 x),.one (.sl .u32 y)]/\x=AP p/\y=AP q/\p+q=a+b/\y.length<=x.length/\x.length<=17592186044416
 refine .inl ⟨[0,1],[],aj,?_,?_⟩
 ·intro vs bl hj;rw[D] at hj;obtain⟨p,q,x,y,rfl,hx,hy,K,af,aJ⟩:=hj;conv=>cbv
  rintro n17 ⟨aB,f17⟩;conv=>cbv
  intro n18 aG;conv=>cbv
  refine AI ?_;refine⟨fun _=>⟨by omega,by omega,by show _*4<=140737488355328;omega⟩,?_⟩;intro S (T:List UInt32) P;have M:=P.1;have v:T=List.replicate S (0:el .u32):=P.2;have ay:T.length=S:=by rw[v,List.length_replicate]
  conv=>cbv
  intro n21 R;have aC:=R.eq;have f21:=R.le;conv=>cbv
  refine .inr ?_
  obtain⟨J0,I⟩:∃J:List AV->List AL->Nat->Prop,J=fun vs bl k=>∃(o:List UInt32) (n V i':Nat) (c L i:Int),vs=[.one (.sl .u32 x),.one (.sl .u32 y),.one (.AN .u32 19 0 0 n),.one (.int .u64 c),.one (.sl .u32 x),.one (.int .i64 L),.one (.int .i64 i)]/\
   bl=[.arr 0 .u32 o]/\(n=o.length/\o.length=i'/\CT L x.length/\AO i i'/\i'<=x.length/\AO c V/\V<=1)/\
   AE o+2^(32*i')*V=AE (x.take i')+AE (y.take i')/\k=x.length-i':=⟨_,rfl⟩
  refine⟨[],[0,1,5,6,20,21,22],[19],J0,⟨x.length-0,by rw[I];exact⟨T,S,0,0,0,n21,0,rfl,rfl,⟨by rw[v,List.length_replicate],by rw[v,List.length_replicate,M];rfl,R,Al 0,by omega,Al 0,by omega⟩,by rw[v,M];simp[AE],rfl⟩⟩,?_⟩;intro vs bl aK hj;rw[I] at hj;obtain⟨o,n,V,i',c,L,i,rfl,rfl,⟨hn,ho,hL,hi,aI,hc,aH⟩,hinv,r⟩:=hj;conv=>cbv
  have eL:=hL.eq;have ei:=hi.eq;have ec:=hc.eq;intro n23 Z;conv=>cbv
  cases n23 <;> conv=>cbv
  ·have an:=AW Z;intro n51 ab;conv=>cbv
   refine .inr ?_;cases n51 <;> conv=>cbv
   ·have aq:=Bq ab;have r:i'=x.length:=by omega
    have g:AE o=p+q:=by rw[r,DP (Nat.le_refl _),DP af,hx,hy,Az,Az,show V=0 by omega] at hinv;omega
    exact AD ⟨⟨rfl,.inr (.inl ⟨_,_,by decide,rfl,rfl,hn,rfl,C5 (by rw[hz,<-K];exact (U2 g (by rw[ho,r,hx])).symm) (by rw[ag,hz,<-K,<-U2 g (by rw[ho,r,hx])])⟩),trivial⟩,trivial⟩
   have aq:=Br ab;intro au ad;conv=>cbv
   have ad:=wrap_u32 ad;obtain⟨A,G⟩:=B7 (n:=au) (by omega);have aw:=G.eq;have ax:=G.lt;refine⟨[A],fun _=>⟨rfl,by decide,rfl,⟨rfl,B5 G,trivial⟩⟩,.inl ?_⟩;try conv=>cbv
   refine .inl ⟨[A],fun _=>⟨rfl,by (first | rfl | omega),⟨_,rfl,by simp <;> omega,by simp⟩,by show (o.length+1)*4<=140737488355328;(try simp only[List.length_take,List.length_drop]);omega⟩,?_⟩;intro (ah:List UInt32) av Q;have N:ah=(o:List UInt32)++([A]:List UInt32):=Q.1;have ae:av=List.length (α:=UInt32) ah:=Q.2;conv=>cbv
   have r:i'=x.length:=by omega
   have g:AE (o++[A])=p+q:=by rw[D2,show A.toNat=V by omega,ho,<-Az p,<-Az q,<-hx,<-hy];rw[r,DP (Nat.le_refl _),DP af] at hinv;rw[r];exact hinv
   have hw:A.toNat≠0:=by omega
   exact AD ⟨⟨rfl,.inr (.inl ⟨_,_,by decide,rfl,rfl,ae,rfl,C5 (by rw[hz,<-K,<-g,QL hw,N]) (by rw[ag,hz,<-K,<-g,QL hw,N])⟩),trivial⟩,trivial⟩
  have an:=AY Z;refine .inr ?_;obtain⟨U,H⟩:=AK (l:=x) (i:=i') (by omega);refine⟨U,fun _=>⟨by omega,by rw[show (i).toNat=i' by omega];exact H⟩,?_⟩;try conv=>cbv
  intro n26 a1;have aD:=a1.eq;have f26:=a1.lt;conv=>cbv
  intro n29 a2;conv=>cbv
  have a2:=wrap_u64 a2;intro n30 a5;conv=>cbv
  have a5:=wrap_u64 a5;rintro n33 ⟨aE,f33⟩;conv=>cbv
  intro n34 a6;conv=>cbv
  refine .inr ?_;cases n34 <;> conv=>cbv
  ·have ao:=AW a6;intro n44 B;conv=>cbv
   have B:=wrap_u32 B;obtain⟨f,d⟩:=B7 (n:=n44) (by omega);have W:=d.eq;have X:=d.lt;refine⟨[f],fun _=>⟨rfl,by decide,rfl,⟨rfl,B5 d,trivial⟩⟩,.inl ?_⟩;try conv=>cbv
   refine .inl ⟨[f],fun _=>⟨rfl,by (first | rfl | omega),⟨_,rfl,by simp <;> omega,by simp⟩,by show (o.length+1)*4<=140737488355328;(try simp only[List.length_take,List.length_drop]);omega⟩,?_⟩;intro (t:List UInt32) n46 j;have h:t=(o:List UInt32)++([f]:List UInt32):=j.1;have F:n46=List.length (α:=UInt32) t:=j.2;conv=>cbv
   intro u C;conv=>cbv
   refine AH ?_;have C:=D8 (p:=4294967296) C rfl;intro n49 ak;conv=>cbv
   refine AI ?_;refine⟨x.length-(i'+1),?_,?_⟩
   ·omega
   rw[I];refine⟨t,n46,u.toNat,i'+1,u,L,n49,rfl,rfl,⟨F,by rw[h];simp;omega,hL,⟨by omega⟩,by omega,⟨by omega⟩,by omega⟩,?_,rfl⟩;rw[h,CK H,DP (l:=y) (i:=i'+1) (by omega)];have hs:=NZ (xi:=U.toNat) (yi:=0) (s:=n30.toNat) (w:=f) ho hinv (by omega) (by omega);rw[show u.toNat=n30.toNat/4294967296 by omega];rw[hs];rw[DP (l:=y) (i:=i') (by omega)];omega
  have ao:=AY a6;obtain⟨ai,O⟩:=AK (l:=y) (i:=i') (by omega);refine⟨ai,fun _=>⟨by omega,by rw[show (i).toNat=i' by omega];exact O⟩,?_⟩;try conv=>cbv
  intro n39 a7;have aF:=a7.eq;have f39:=a7.lt;conv=>cbv
  intro n40 a8;conv=>cbv
  have a8:=wrap_u64 a8;intro n41 aa;conv=>cbv
  have aa:=wrap_u64 aa;intro n44 B;conv=>cbv
  have B:=wrap_u32 B;obtain⟨f,d⟩:=B7 (n:=n44) (by omega);have W:=d.eq;have X:=d.lt;refine⟨[f],fun _=>⟨rfl,by decide,rfl,⟨rfl,B5 d,trivial⟩⟩,.inl ?_⟩;try conv=>cbv
  refine .inl ⟨[f],fun _=>⟨rfl,by (first | rfl | omega),⟨_,rfl,by simp <;> omega,by simp⟩,by show (o.length+1)*4<=140737488355328;(try simp only[List.length_take,List.length_drop]);omega⟩,?_⟩;intro (t:List UInt32) n46 j;have h:t=(o:List UInt32)++([f]:List UInt32):=j.1;have F:n46=List.length (α:=UInt32) t:=j.2;conv=>cbv
  intro u C;conv=>cbv
  refine AH ?_;have C:=D8 (p:=4294967296) C rfl;intro n49 ak;conv=>cbv
  refine AI ?_;refine⟨x.length-(i'+1),?_,?_⟩
  ·omega
  rw[I];refine⟨t,n46,u.toNat,i'+1,u,L,n49,rfl,rfl,⟨F,by rw[h];simp;omega,hL,⟨by omega⟩,by omega,⟨by omega⟩,by omega⟩,?_,rfl⟩;rw[h,CK H,CK O];have hs:=NZ (xi:=U.toNat) (yi:=ai.toNat) (s:=n41.toNat) (w:=f) ho hinv (by omega) (by omega);rw[show u.toNat=n41.toNat/4294967296 by omega];rw[hs]
 cases ar <;> conv=>cbv
 ·have al:=AW Y;rw[D];exact⟨a,b,_,_,rfl,hl,hm,rfl,by omega,by omega⟩
 have al:=AY Y;rw[D];exact⟨b,a,_,_,rfl,hm,hl,Nat.add_comm _ _,by omega,by omega⟩
theorem YV (d:l=AP a) (hm:m=AP b) (f:z=AP (a+b)) (sl:l.length<=17592186044416) (sm:m.length<=17592186044416):CF 393 [.one (.sl .u32 l),.one (.sl .u32 m)] (.one (.sl .u32 z)):=C8 (YW d hm f rfl sl sm)
end Go.Abs
namespace Go.Abs
open Go.RowKit
variable {b:Bool} {l z:List UInt32} {x:Int}
theorem Et {n:Bool} (o:x=if n=true then -(AE l:Int) else AE l) (h:Ad x b z):CF 353 [.one (.bool n),.one (.sl .u32 l)] (.agg (BD b z)):=by
 refine AJ Tryz.func353 fun E s=>?_
 conv=>cbv
 obtain⟨u,d⟩:=xU (AP (AE l));refine AB s (Ea rfl d) ?_;conv=>cbv
 intro w g;have v:=g.eq;have f8:=g.le;conv=>cbv
 intro t k;conv=>cbv
 cases t <;> conv=>cbv
 ·have r:=Ah k;have j:AE l≠0:=fun e=>r (by have:=g.eq;rw[d,e] at this;exact this)
  have f:Ad x n u:= .val d.symm o (fun e=>absurd e j);exact AD ⟨⟨rfl,congrArg _ ((f.uniq h rfl).1.symm),congrArg _ ((f.uniq h rfl).2.symm),trivial⟩,trivial⟩
 have r:=Aj k;have j:AE l=0:=by have e:=g.eq;rw[d] at e;exact Er.1 (List.length_eq_zero_iff.1 (by omega))
 have f:Ad x false []:= .val (n:=0) rfl (by rw[o,j];simp) (fun _=>rfl);exact AD ⟨⟨rfl,congrArg _ ((f.uniq h rfl).1.symm),.inr (.inl ⟨_,congrArg _ ((f.uniq h rfl).2.symm)⟩),trivial⟩,trivial⟩
theorem KJ {n:Int} {k:Nat} (D:AO n k) (J:k<18446744073709551616) (F:z=AP k):CF 354 [.one (.int .u64 n)] (.one (.sl .u32 z)):=by
 have I:=D.eq;refine AJ Tryz.func354 fun E C=>?_
 conv=>cbv
 intro n4 v;conv=>cbv
 have v:=wrap_u32 v;intro K w;conv=>cbv
 refine AH ?_;have w:=D8 (p:=4294967296) w rfl;intro H A;conv=>cbv
 have A:=wrap_u32 A;obtain⟨g,d⟩:=B7 (n:=n4) (by omega);have r:=d.eq;have t:=d.lt;obtain⟨h,f⟩:=B7 (n:=H) (by omega);have s:=f.eq;have u:=f.lt;refine⟨[g,h],fun _=>⟨rfl,by decide,rfl,⟨rfl,B5 d,⟨rfl,B5 f,trivial⟩⟩⟩,.inl ?_⟩;try conv=>cbv
 obtain⟨G,j⟩:=xN ((B4 ([g,h].take 2)).length);obtain⟨B,o⟩:=ER (by simp) j;refine .inr (.inr (.inl ⟨[],.one (.AN .u32 0 0 0 G),.arr 0 .u32 [g,h],fun _=>⟨by first | decide | simp[Bt,B3],trivial⟩,fun _=>⟨Dm C (Kz (by simp) (by simp) j),rfl,rfl⟩,?_⟩));try conv=>cbv
 exact AD ⟨⟨rfl,.inl ⟨_,rfl,by simp;omega,congrArg _ (by rw[List.drop_zero,o,F];congr 1;simp[AE];omega)⟩,trivial⟩,trivial⟩
theorem Hz (j:z=l) (u:l.length<=17592186044416):CF 254 [.one (.sl .u32 l)] (.one (.sl .u32 z)):=by
 refine AJ Tryz.func254 fun E t=>?_
 conv=>cbv
 intro n4 r;conv=>cbv
 refine⟨fun o=>?_,?_⟩
 ·conv=>cbv
  have g:l=[]:=by rw[r] at o;simpa using o
  exact AD ⟨⟨rfl,.inr (.inl ⟨_,congrArg _ (by rw[j,g])⟩),trivial⟩,trivial⟩
 refine⟨[],fun _=>⟨rfl,by decide,rfl,trivial⟩,.inl ?_⟩;try conv=>cbv
 refine .inl ⟨l,fun _=>⟨rfl,by (first | rfl | omega),rfl,by show (0+l.length)*4<=140737488355328;(try simp only[List.length_take,List.length_drop]);omega⟩,?_⟩;intro (k:List UInt32) s f;have h:k=([]:List UInt32)++(l:List UInt32):=f.1;have d:s=List.length (α:=UInt32) k:=f.2;conv=>cbv
 exact AD ⟨⟨rfl,.inl ⟨_,rfl,by rw[d];simp,congrArg _ (by rw[j,d,h];simp)⟩,trivial⟩,trivial⟩
theorem Mu (D: -9223372036854775808<=x/\x<9223372036854775808) (s:Ad x b z):CF 302 [.one (.int .i64 x)] (.agg (BD b z)):=by
 refine AJ Tryz.func302 fun E o=>?_
 conv=>cbv
 intro F v;conv=>cbv
 have v:=wrap_u64 v;intro C w;conv=>cbv
 refine .inr ?_;cases C <;> conv=>cbv
 ·have B:=AW w;intro t j;conv=>cbv
  obtain⟨u,f⟩:=xU (AP x.natAbs);refine AB o (KJ (AO.of (k:=x.natAbs) (by omega)) (by omega) f) ?_;conv=>cbv
  obtain⟨g,h,d⟩:=Ac (x);refine AB (r:= .agg [.bool g,.sl .u32 h]) o (Et (by rw[f,Az,j];simp;omega) d) ?_;try conv=>cbv
  exact AD ⟨⟨rfl,congrArg _ ((d.uniq s rfl).1.symm),congrArg _ ((d.uniq s rfl).2.symm),trivial⟩,trivial⟩
 have B:=AY w;intro G A;conv=>cbv
 have A:=wrap_u64 A;intro t j;conv=>cbv
 obtain⟨u,f⟩:=xU (AP x.natAbs);refine AB o (KJ (AO.of (k:=x.natAbs) (by omega)) (by omega) f) ?_;conv=>cbv
 obtain⟨g,h,d⟩:=Ac (x);refine AB (r:= .agg [.bool g,.sl .u32 h]) o (Et (by rw[f,Az,j];simp;omega) d) ?_;try conv=>cbv
 exact AD ⟨⟨rfl,congrArg _ ((d.uniq s rfl).1.symm),congrArg _ ((d.uniq s rfl).2.symm),trivial⟩,trivial⟩
end Go.Abs
namespace Go.Abs
open Go.RowKit
variable {a b i:Nat} {l m z:List UInt32}
theorem QS {x y:UInt32} (h:l[i]? =some x) (o:m[i]? =some y) (s:l.length=m.length) (he:AE (l.drop (i+1))=AE (m.drop (i+1))) (f:x≠y):
  BV x.toNat y.toNat=BV (AE l) (AE m):=by
 have hi:=FY h;have j:=Fc l (i+1) (by omega);have g:=Fc m (i+1) (by omega);rw[CK h] at j;rw[CK o] at g;have b1:=CR (l.take i);have b2:=CR (m.take i);rw[List.length_take,Nat.min_eq_left (by omega)] at b1 b2;rw[<-he] at g
 generalize AE (l.drop (i+1))=D at*
 generalize AE (l.take i)=A at*
 generalize AE (m.take i)=B at*
 generalize 2^(32*(i+1))*D=Q at*
 generalize r:2^(32*i)=P at*
 have k:x.toNat≠y.toNat:=fun e=>f (UInt32.toNat_inj.1 e)
 by_cases d:x.toNat<y.toNat
 ·have:P*(x.toNat+1)<=P*y.toNat:=Nat.mul_le_mul_left _ d;rw[Nat.mul_add] at this;have:AE l<AE m:=by omega
  unfold BV;rw[if_pos (by omega),if_pos (by omega)]
 have:P*(y.toNat+1)<=P*x.toNat:=Nat.mul_le_mul_left _ (by omega);rw[Nat.mul_add] at this;have:AE m<AE l:=by omega
 unfold BV;rw[if_neg (by omega),if_pos (by omega),if_neg (by omega),if_pos (by omega)]
theorem QR (h:(AP a).length≠(AP b).length):BV (AP a).length (AP b).length=BV a b:=by
 by_cases d:(AP a).length<(AP b).length
 ·have:a<b:=by
   apply Classical.byContradiction;intro f;have:=D1 (a:=b) (b:=a);omega
  unfold BV;rw[if_pos (by omega),if_pos (by omega)]
 have:b<a:=by
  apply Classical.byContradiction;intro f;have:=D1 (a:=a) (b:=b);omega
 unfold BV;rw[if_neg (by omega),if_pos (by omega),if_neg (by omega),if_pos (by omega)]
theorem drop_eq {x:UInt32} (d:l[i]? =some x) (f:m[i]? =some x) (he:AE (l.drop (i+1))=AE (m.drop (i+1))):AE (l.drop i)=AE (m.drop i):=by
 have g:=FY d;have h:=FY f;rw[List.drop_eq_getElem_cons g,List.drop_eq_getElem_cons h,AE,AE,he];rw[List.getElem?_eq_getElem g] at d;rw[List.getElem?_eq_getElem h] at f;rw[Option.some.inj d,Option.some.inj f]
theorem Ni {c:Int} (Q:l=AP a) (hm:m=AP b) (R:c=BV a b):CF 384 [.one (.sl .u32 l),.one (.sl .u32 m)] (.one (.int .i64 c)):=by
 refine AJ Tryz.func384 fun E Z=>?_
 conv=>cbv
 rintro n7 ⟨e7,f7⟩;conv=>cbv
 rintro n9 ⟨e9,f9⟩;conv=>cbv
 intro U G;conv=>cbv
 cases U <;> conv=>cbv
 ·have M:=Co G;rintro n17 ⟨a5,f17⟩;conv=>cbv
  intro n18 aa;conv=>cbv
  refine AI ?_;refine .inr ?_;obtain⟨J0,D⟩:=xJ fun vs bl k=>∃(j:Int) (k':Nat),vs=[.one (.sl .u32 l),.one (.sl .u32 m),.one (.int .i64 j)]/\(AO (j+1) k'/\k'<=l.length/\l.length=m.length/\AE (l.drop k')=AE (m.drop k'))/\k=k'
  refine⟨[],[0,1,5],[],J0,⟨l.length,by rw[D];exact⟨n18,l.length,rfl,⟨⟨by omega⟩,by omega,by omega,by rw[List.drop_length,show l.length=m.length by omega,List.drop_length]⟩,rfl⟩⟩,?_⟩;intro vs bl af P;rw[D] at P;obtain⟨j,k',rfl,⟨P,ad,L,O⟩,ae⟩:=P;conv=>cbv
  have ej:=P.eq;intro n20 H;conv=>cbv
  cases n20 <;> conv=>cbv
  ·have T:=EI H;have hk:k'=0:=by omega
   have he:a=b:=by rw[hk] at O;simpa [Q,hm,Az] using O
   exact AD ⟨⟨rfl,congrArg _ (by rw[R,he];simp[BV]),trivial⟩,trivial⟩
  have T:=EJ H;refine .inr ?_;obtain⟨g,d⟩:=AK (l:=l) (i:=(j).toNat) (by omega);refine⟨g,fun _=>⟨by omega,d⟩,?_⟩;try conv=>cbv
  intro n26 I;have F:=I.eq;have f26:=I.lt;conv=>cbv
  obtain⟨h,f⟩:=AK (l:=m) (i:=(j).toNat) (by omega);refine⟨h,fun _=>⟨by omega,f⟩,?_⟩;try conv=>cbv
  intro n30 J;have a6:=J.eq;have f30:=J.lt;conv=>cbv
  intro n31 K;conv=>cbv
  refine g2 rfl ?_;cases n31 <;> conv=>cbv
  ·have N:=Co K;intro n22 ab;conv=>cbv
   refine AI ?_;refine⟨k'-1,?_,?_⟩
   ·omega
   rw[D];obtain⟨i',rfl⟩:∃i',k'=i'+1:=⟨k'-1,by omega⟩
   refine⟨n22,i',rfl,⟨⟨by omega⟩,by omega,L,?_⟩,by omega⟩;have F:g=h:=UInt32.toNat_inj.1 (by omega);subst F;exact drop_eq (i:=i') (by rw[<-d];congr 1;omega) (by rw[<-f];congr 1;omega) O
  have N:=Cp K;obtain⟨o,u⟩:=AK (l:=l) (i:=(j).toNat) (by omega);refine⟨o,fun _=>⟨by omega,u⟩,?_⟩;try conv=>cbv
  intro n35 B;have a7:=B.eq;have f35:=B.lt;conv=>cbv
  obtain⟨r,v⟩:=AK (l:=m) (i:=(j).toNat) (by omega);refine⟨r,fun _=>⟨by omega,v⟩,?_⟩;try conv=>cbv
  intro n39 C;have a8:=C.eq;have f39:=C.lt;conv=>cbv
  obtain⟨ah,t⟩:=xI (BV n35 n39);refine AB Z (bB t) ?_;conv=>cbv
  refine g2 rfl ?_;obtain⟨i',rfl⟩:∃i',k'=i'+1:=⟨k'-1,by omega⟩
  have X:l[i']? =some o:=by rw[<-u];congr 1;omega
  have Y:m[i']? =some r:=by rw[<-v];congr 1;omega
  have e3:l[i']? =some g:=by rw[<-d];congr 1;omega
  have e4:m[i']? =some h:=by rw[<-f];congr 1;omega
  obtain rfl:o=g:=Option.some.inj (X.symm.trans e3);obtain rfl:r=h:=Option.some.inj (Y.symm.trans e4);have S:o≠r:=fun e=>by subst e;exact N (by omega)
  exact AD ⟨⟨rfl,congrArg _ (by rw[t,R,B.eq,C.eq,QS X Y L O S,Q,hm,Az,Az]),trivial⟩,trivial⟩
 have M:=Cp G;intro V w;have a1:=w.eq;have f12:=w.le;conv=>cbv
 intro W A;have a2:=A.eq;have f14:=A.le;conv=>cbv
 obtain⟨ag,s⟩:=xI (BV V W);refine AB Z (TA s) ?_;conv=>cbv
 exact AD ⟨⟨rfl,congrArg _ (by rw[s,R,w.eq,A.eq,Q,hm,QR (by rw[<-Q,<-hm];intro e;exact M (by omega))]),trivial⟩,trivial⟩
theorem RK (hl:l=AP a) (hm:m=AP b) (hz:z=AP (a-b)) (a6:b<=a) (sl:l.length<=17592186044416):CF 394 [.one (.sl .u32 l),.one (.sl .u32 m)] (.one (.sl .u32 z)):=by
 have a8:m.length<=l.length:=by rw[hl,hm];exact D1 a6
 refine AJ Tryz.func394 fun E hE=>?_
 conv=>cbv
 rintro av ⟨ah,f11⟩;conv=>cbv
 refine⟨fun _=>⟨by omega,by omega,by show _*4<=140737488355328;omega⟩,?_⟩;intro I (K:List UInt32) F;have ag:=F.1;have s:K=List.replicate I (0:el .u32):=F.2;have af:K.length=I:=by rw[s,List.length_replicate]
 conv=>cbv
 intro ae G;have ai:=G.eq;have f14:=G.le;conv=>cbv
 refine .inr ?_
 obtain⟨J0,A⟩:∃J:List AV->List AL->Nat->Prop,J=fun vs bl k=>∃(o:List UInt32) (n B i':Nat) (c L i:Int),vs=[.one (.sl .u32 l),.one (.sl .u32 m),.one (.AN .u32 12 0 0 n),.one (.int .u64 c),.one (.sl .u32 l),.one (.int .i64 L),.one (.int .i64 i)]/\
  bl=[.arr 0 .u32 o]/\(o.length=l.length/\n=o.length/\CT L l.length/\AO i i'/\i'<=l.length/\AO c B/\B<=1)/\
  AE (o.take i')+AE (m.take i')=AE (l.take i')+2^(32*i')*B/\k=l.length-i':=⟨_,rfl⟩
 refine⟨[],[0,1,5,6,13,14,15],[12],J0,⟨l.length-0,by rw[A];exact⟨K,I,0,0,0,ae,0,rfl,rfl,⟨by rw[s,List.length_replicate];omega,by rw[s,List.length_replicate],G,Al 0,by omega,Al 0,by omega⟩,by simp[AE],rfl⟩⟩,?_⟩;intro vs bl au hj;rw[A] at hj;obtain⟨o,n,B,i',c,L,i,rfl,rfl,⟨ho,hn,hL,hi,ao,hc,an⟩,hinv,aq⟩:=hj;conv=>cbv
 have eL:=hL.eq;have ei:=hi.eq;have ec:=hc.eq;intro n16 R;conv=>cbv
 cases n16 <;> conv=>cbv
 ·have aa:=AW R;have t:n<=(o).length:=by omega
  obtain⟨ad,C⟩:=xN ((B4 ((o).take n)).length);obtain⟨a7,H⟩:=ER t C;refine .inr (.inr (.inl ⟨[],.one (.AN .u32 0 0 0 ad),.arr 0 .u32 o,fun _=>⟨by first | decide | simp[Bt,B3],trivial⟩,fun _=>⟨Dm hE (Kz t (by omega) C),rfl,rfl⟩,?_⟩));try conv=>cbv
  have hk:i'=l.length:=by omega
  have Z:AE (o.take n)=a-b:=by rw[hk,DP a8,DP (Nat.le_refl _),hm,hl,Az,Az,<-hl,<-ho,List.take_length] at hinv;have ar:=CR o;generalize 2^(32*o.length)=P at *;rw[hn,List.take_length];rcases (by omega:B=0\/B=1) with e | e <;> rw[e] at hinv <;> omega
  exact AD ⟨⟨rfl,.inl ⟨_,rfl,by omega,congrArg _ (by rw[List.drop_zero,H,Z,hz])⟩,trivial⟩,trivial⟩
 have aa:=AY R;refine .inr ?_;obtain⟨M,u⟩:=AK (l:=l) (i:=i') (by omega);refine⟨M,fun _=>⟨by omega,by rw[show (i).toNat=i' by omega];exact u⟩,?_⟩;try conv=>cbv
 intro n19 S;have aj:=S.eq;have f19:=S.lt;conv=>cbv
 intro n21 T;conv=>cbv
 have T:=wrap_u64 T;intro n23 U;conv=>cbv
 have U:=wrap_u64 U;rintro n26 ⟨ak,f26⟩;conv=>cbv
 intro n27 V;conv=>cbv
 refine .inr ?_;cases n27 <;> conv=>cbv
 ·have ab:=AW V;intro n38 j;conv=>cbv
  have j:=wrap_u32 j;refine AH ?_;intro v a1;conv=>cbv
  obtain⟨h,f⟩:=B7 (n:=n38) (by omega);have N:=f.eq;have O:=f.lt;refine⟨h,fun _=>⟨by show _<List.length (α:=UInt32) o;(first | omega | (simp;omega)),B5 f⟩,?_⟩;intro (g:List UInt32) (d:g=List.set (α:=UInt32) o v h);have Q:g.length=o.length:=by rw[d,List.length_set]
  conv=>cbv
  intro n41 r;conv=>cbv
  refine AH ?_;have r:=D8 (p:=9223372036854775808) r rfl;intro n42 a5;conv=>cbv
  refine AI ?_;refine⟨l.length-(i'+1),?_,?_⟩
  ·omega
  rw[A];refine⟨g,n,n41.toNat,i'+1,n41,L,n42,rfl,rfl,⟨by rw[d,List.length_set];exact ho,by rw[d,List.length_set];exact hn,hL,⟨by omega⟩,by omega,⟨by omega⟩,by omega⟩,?_,rfl⟩;have hs:=KZ (w:=h) (o:=o) (i:=i') (xi:=M.toNat) (yi:=0) (FW:=B) (FX:=n41.toNat) (by omega) hinv (by omega);rw[d,show v=i' by omega,CK u,<-hs,DP (l:=m) (i:=i'+1) (by omega),DP (l:=m) (i:=i') (by omega),Nat.mul_zero]
  rfl
 have ab:=AY V;obtain⟨a2,D⟩:=AK (l:=m) (i:=i') (by omega);refine⟨a2,fun _=>⟨by omega,by rw[show (i).toNat=i' by omega];exact D⟩,?_⟩;try conv=>cbv
 intro n32 W;have al:=W.eq;have f32:=W.lt;conv=>cbv
 intro n33 X;conv=>cbv
 have X:=wrap_u64 X;intro n34 Y;conv=>cbv
 have Y:=wrap_u64 Y;intro n38 j;conv=>cbv
 have j:=wrap_u32 j;refine AH ?_;intro v a1;conv=>cbv
 obtain⟨h,f⟩:=B7 (n:=n38) (by omega);have N:=f.eq;have O:=f.lt;refine⟨h,fun _=>⟨by show _<List.length (α:=UInt32) o;(first | omega | (simp;omega)),B5 f⟩,?_⟩;intro (g:List UInt32) (d:g=List.set (α:=UInt32) o v h);have Q:g.length=o.length:=by rw[d,List.length_set]
 conv=>cbv
 intro n41 r;conv=>cbv
 refine AH ?_;have r:=D8 (p:=9223372036854775808) r rfl;intro n42 a5;conv=>cbv
 refine AI ?_;refine⟨l.length-(i'+1),?_,?_⟩
 ·omega
 rw[A];refine⟨g,n,n41.toNat,i'+1,n41,L,n42,rfl,rfl,⟨by rw[d,List.length_set];exact ho,by rw[d,List.length_set];exact hn,hL,⟨by omega⟩,by omega,⟨by omega⟩,by omega⟩,?_,rfl⟩;have hs:=KZ (w:=h) (o:=o) (i:=i') (xi:=M.toNat) (yi:=a2.toNat) (FW:=B) (FX:=n41.toNat) (by omega) hinv (by omega);rw[d,show v=i' by omega,CK u,<-hs,CK D]
theorem nr (hl:l=AP a) (hm:m=AP b) (hz:z=AP (a*b)) (sl:l.length<=17592186044416) (sm:m.length<=17592186044416):CF 385 [.one (.sl .u32 l),.one (.sl .u32 m)] (.one (.sl .u32 z)):=by
 refine AJ Tryz.func385 fun E hE=>?_
 conv=>cbv
 rintro bj ⟨aQ,f12⟩;conv=>cbv
 intro aA F;conv=>cbv
 cases aA <;> conv=>cbv
 ·have ao:=Ah F;rintro n16 ⟨aR,f16⟩;conv=>cbv
  intro n17 X;conv=>cbv
  cases n17 <;> conv=>cbv
  ·have aw:=Ah X;rintro n20 ⟨aS,f20⟩;conv=>cbv
   rintro n22 ⟨aT,f22⟩;conv=>cbv
   intro n23 b5;conv=>cbv
   refine AI ?_;refine⟨fun _=>⟨by omega,by omega,by show _*4<=140737488355328;omega⟩,?_⟩;intro P (Q:List UInt32) D;have aP:=D.1;have f:Q=List.replicate P (0:el .u32):=D.2;have aI:Q.length=P:=by rw[f,List.length_replicate]
   conv=>cbv
   intro n26 G;have aU:=G.eq;have f26:=G.le;conv=>cbv
   refine .inr ?_
   obtain⟨J0,K⟩:∃J:List AV->List AL->Nat->Prop,J=fun vs W k=>∃(o:List UInt32) (n i':Nat) (L i:Int),vs=[.one (.sl .u32 l),.one (.sl .u32 m),.one (.AN .u32 24 0 0 n),.one (.sl .u32 l),.one (.int .i64 L),.one (.int .i64 i)]/\
    W=[.arr 0 .u32 o]/\(o.length=l.length+m.length/\n=o.length/\CT L l.length/\AO i i'/\i'<=l.length)/\
    AE (o.take (i'+m.length))=AE (l.take i')*AE m/\k=l.length-i':=⟨_,rfl⟩
   refine⟨[],[0,1,5,25,26,27],[24],J0,⟨l.length-0,by rw[K];exact⟨Q,P,0,n26,0,rfl,rfl,⟨by rw[f,List.length_replicate];omega,by rw[f,List.length_replicate],G,Al 0,by omega⟩,by rw[f,List.take_replicate,Hp];simp[AE],rfl⟩⟩,?_⟩;intro vs W bg N;rw[K] at N;obtain⟨o,n,i',L,i,rfl,rfl,⟨ho,hn,hL,hi,bc⟩,hinv,bd⟩:=N;conv=>cbv
   have eL:=hL.eq;have ei:=hi.eq;intro n28 Y;conv=>cbv
   cases n28 <;> conv=>cbv
   ·have ax:=AW Y;have r:n<=(o).length:=by omega
    obtain⟨az,A⟩:=xN ((B4 ((o).take n)).length);obtain⟨av,O⟩:=ER r A;refine .inr (.inr (.inl ⟨[],.one (.AN .u32 0 0 0 az),.arr 0 .u32 o,fun _=>⟨by first | decide | simp[Bt,B3],trivial⟩,fun _=>⟨Dm hE (Kz r (by omega) A),rfl,rfl⟩,?_⟩));try conv=>cbv
    have ah:AE (o.take n)=a*b:=by rw[show i'=l.length by omega,List.take_length,hl,hm,Az,Az,<-hl,<-hm,<-ho,List.take_length] at hinv;rw[hn,List.take_length,hinv]
    exact AD ⟨⟨rfl,.inl ⟨_,rfl,by omega,congrArg _ (by rw[List.drop_zero,O,ah,hz])⟩,trivial⟩,trivial⟩
   have ax:=AY Y;refine .inr ?_;obtain⟨v,B⟩:=AK (l:=l) (i:=i') (by omega);refine⟨v,fun _=>⟨by omega,by rw[show (i).toNat=i' by omega];exact B⟩,?_⟩;try conv=>cbv
   intro n31 Z;have aV:=Z.eq;have f31:=Z.lt;conv=>cbv
   intro n33 H;have aW:=H.eq;have f33:=H.le;conv=>cbv
   refine .inr ?_
   obtain⟨J1,M⟩:∃J:List AV->List AL->Nat->Prop,J=fun vs W k=>∃(j:List UInt32) (n1 V k':Nat) (c L1 i1:Int),vs=[.one (.sl .u32 l),.one (.sl .u32 m),.one (.AN .u32 24 0 0 n1),.one (.int .i64 i),.one (.int .u32 n31),.one (.int .u64 c),.one (.sl .u32 l),.one (.int .i64 L),.one (.int .i64 i),.one (.sl .u32 m),.one (.int .i64 L1),.one (.int .i64 i1)]/\
    W=[.arr 0 .u32 j]/\(j.length=l.length+m.length/\n1=j.length/\CT L1 m.length/\AO i1 k'/\k'<=m.length/\AO c V/\V<4294967296)/\
    AE (j.take (i'+m.length))+2^(32*(i'+k'))*V=AE (l.take i')*AE m+v.toNat*2^(32*i')*AE (m.take k')/\k=m.length-k':=⟨_,rfl⟩
   refine⟨[],[0,1,5,6,7,8,25,26,27,32,33,34],[24],J1,⟨m.length-0,by rw[M];exact⟨o,n,0,0,0,n33,0,rfl,rfl,⟨ho,hn,H,Al 0,by omega,Al 0,by omega⟩,by rw[hinv];simp[AE],rfl⟩⟩,?_⟩;intro vs W bh N;rw[M] at N;obtain⟨j,n1,V,k',c,L1,i1,rfl,rfl,⟨aj,ai,ag,ar,aL,hc,bb⟩,d,bf⟩:=N;conv=>cbv
   have b0:=ag.eq;have b4:=ar.eq;have ec:=hc.eq;intro n35 a1;conv=>cbv
   cases n35 <;> conv=>cbv
   ·have ay:=AW a1;rintro bn ⟨aZ,f67⟩;conv=>cbv
    intro n68 b9;conv=>cbv
    refine AI ?_;intro aC af;conv=>cbv
    have af:=wrap_u32 af;refine AH ?_;intro an aO;conv=>cbv
    obtain⟨T,t⟩:=B7 (n:=aC) (by omega);have aF:=t.eq;have aH:=t.lt;refine⟨T,fun _=>⟨by show _<List.length (α:=UInt32) j;(first | omega | (simp;omega)),B5 t⟩,?_⟩;intro (S:List UInt32) (h:S=List.set (α:=UInt32) j an T);have aK:S.length=j.length:=by rw[h,List.length_set]
    conv=>cbv
    intro aD ba;conv=>cbv
    refine AI ?_;refine⟨l.length-(i'+1),?_,?_⟩
    ·omega
    rw[K];refine⟨S,n1,i'+1,L,aD,rfl,rfl,⟨by rw[h,List.length_set];exact aj,by rw[h,List.length_set];exact ai,hL,⟨by omega⟩,by omega⟩,?_,rfl⟩;have hk:k'=m.length:=by omega
    have hlen:i'+m.length<j.length:=by omega
    rw[h,show i'+1+m.length=i'+m.length+1 by omega,show an=i'+m.length by omega,Ei hlen,D2,List.length_take,Nat.min_eq_left (by omega),show T.toNat=V by omega];rw[hk] at d;rw[d,List.take_length,CK B]
    grind
   have ay:=AY a1;refine .inr ?_;obtain⟨w,C⟩:=AK (l:=m) (i:=k') (by omega);refine⟨w,fun _=>⟨by omega,by rw[show (i1).toNat=k' by omega];exact C⟩,?_⟩;try conv=>cbv
   intro n38 a2;have aX:=a2.eq;have f38:=a2.lt;conv=>cbv
   intro n41 a5;conv=>cbv
   have a5:=wrap_u64 a5;intro n43 a6;conv=>cbv
   have a6:=wrap_u64 a6;have ep:n41*n43=((v.toNat*w.toNat:Nat):Int):=by rw[Int.natCast_mul];congr 1 <;> omega
   have bp:v.toNat*w.toNat<=4294967295*4294967295:=Nat.mul_le_mul (by omega) (by omega);intro n44 I;conv=>cbv
   have I:=wrap_u64 I;intro bk b6;conv=>cbv
   refine AI ?_;refine AH ?_;intro ak aM;conv=>cbv
   obtain⟨U,u⟩:=AK (l:=j) (i:=ak) (by omega);refine⟨U,fun _=>u,?_⟩;try conv=>cbv
   intro bl a7;have aY:=a7.eq;have f50:=a7.lt;conv=>cbv
   intro n51 a8;conv=>cbv
   have a8:=wrap_u64 a8;intro n52 aa;conv=>cbv
   have aa:=wrap_u64 aa;intro C1 ab;conv=>cbv
   have ab:=wrap_u64 ab;intro bm b7;conv=>cbv
   refine AI ?_;intro n59 ad;conv=>cbv
   have ad:=wrap_u32 ad;refine AH ?_;intro al aN;conv=>cbv
   obtain⟨aq,s⟩:=B7 (n:=n59) (by omega);have aE:=s.eq;have aG:=s.lt;refine⟨aq,fun _=>⟨by show _<List.length (α:=UInt32) j;(first | omega | (simp;omega)),B5 s⟩,?_⟩;intro (R:List UInt32) (g:R=List.set (α:=UInt32) j al aq);have aJ:R.length=j.length:=by rw[g,List.length_set]
   conv=>cbv
   intro n62 ae;conv=>cbv
   refine AH ?_;have ae:=D8 (p:=4294967296) ae rfl;intro aB b8;conv=>cbv
   refine AI ?_;refine⟨m.length-(k'+1),?_,?_⟩
   ·omega
   rw[M];refine⟨R,n1,n62.toNat,k'+1,n62,L1,aB,rfl,rfl,⟨by rw[g,List.length_set];exact aj,by rw[g,List.length_set];exact ai,ag,⟨by omega⟩,by omega,⟨by omega⟩,by omega⟩,?_,rfl⟩;have N:al=i'+k':=by omega
   have au:ak=i'+k':=by omega
   rw[au] at u;rw[g,N,CK C,show i'+(k'+1)=i'+k'+1 by omega];refine Sk (q:=U) (xi:=v.toNat) (yk:=w.toNat) (old:=U.toNat) (c:=V) rfl (by omega) u rfl d ?_ rfl;rw[ep] at I;omega
  have aw:=Aj X;have h0:b=0:=Er.1 (by rw[<-hm];exact List.length_eq_zero_iff.1 (by omega));exact AD ⟨⟨rfl,.inr (.inl ⟨_,congrArg _ (by rw[hz,h0];rfl)⟩),trivial⟩,trivial⟩
 have ao:=Aj F;have h0:a=0:=Er.1 (by rw[<-hl];exact List.length_eq_zero_iff.1 (by have ao:=Aj F;omega));exact AD ⟨⟨rfl,.inr (.inl ⟨_,congrArg _ (by rw[hz,h0,Nat.zero_mul];rfl)⟩),trivial⟩,trivial⟩
end Go.Abs
namespace Go.Abs
open Go.RowKit
variable {b b1 b2 b3 c:Bool} {l l1 l2 l3 z:List UInt32} {x y:Int}
theorem oO {i:Nat} {x:UInt32} {n:Int} (g:l[i]? =some x) (hi:i+1=l.length) (f:n=x.toNat):E7 b l=(n !=0):=by
 have d:l.getLast? =some x:=by rw[List.getLast?_eq_getElem?,<-g];congr 1;omega
 unfold E7;rw[d,f]
 show (x !=0)=_
 rw[Bool.eq_iff_iff];simp only[bne_iff_ne,ne_eq];rw[<-UInt32.toNat_inj]
 show ¬x.toNat=0↔_
 omega
theorem bX (t:x=if b=true then -(AE l:Int) else AE l) (s:l.length<=17592186044416) (o:Ad x c z):CF 391 [.agg (BD b l)] (.agg (BD c z)):=by
 refine AJ Tryz.func391 fun E h=>?_
 conv=>cbv
 obtain⟨u,d⟩:=xU (AP (AE l));refine AB h (Ea rfl d) ?_;conv=>cbv
 obtain⟨v,g⟩:=xU u;refine AB (r:= .one (.sl .u32 v)) h (Hz g (by rw[d,<-Ky];exact Nat.le_trans (O8 l) s)) ?_;try conv=>cbv
 obtain⟨j,k,f⟩:=Ac (x);refine AB (r:= .agg [.bool j,.sl .u32 k]) h (Et (by rw[g,d,Az];exact t) f) ?_;try conv=>cbv
 refine g2 rfl ?_;exact AD ⟨⟨rfl,congrArg _ ((f.uniq o rfl).1.symm),congrArg _ ((f.uniq o rfl).2.symm),trivial⟩,trivial⟩
theorem TO (o:Ad x b l) (u:l.length<=17592186044416) (s:Ad (-x) c z):CF 390 [.agg (BD b l)] (.agg (BD c z)):=by
 refine AJ Tryz.func390 fun E k=>?_
 conv=>cbv
 intro A t;conv=>cbv
 obtain⟨v,f⟩:=xU (AP (AE l));refine AB k (Ea rfl f) ?_;conv=>cbv
 have t8:v=l:=by rw[f];exact o.trim
 obtain⟨w,g⟩:=xU l;refine AB (r:= .one (.sl .u32 w)) k (Hz (g.trans t8.symm) (by rw[t8];exact u)) ?_;try conv=>cbv
 obtain⟨h,j,d⟩:=Ac (-x);refine AB (r:= .agg [.bool h,.sl .u32 j]) k (Et (by rw[g,t];exact Zf o.E3) d) ?_;try conv=>cbv
 refine g2 rfl ?_;exact AD ⟨⟨rfl,congrArg _ ((d.uniq s rfl).1.symm),congrArg _ ((d.uniq s rfl).2.symm),trivial⟩,trivial⟩
theorem cA {c:Int} (k:x=if b=true then -(AE l:Int) else AE l) (j:c=CE x):CF 316 [.agg (BD b l)] (.one (.int .i64 c)):=by
 refine AJ Tryz.func316 fun E o=>?_
 conv=>cbv
 refine .inr ?_;obtain⟨u,d⟩:=xU (AP (AE l));refine AB o (Ea rfl d) ?_;conv=>cbv
 rintro t ⟨f,f7⟩;conv=>cbv
 intro s h;conv=>cbv
 cases s <;> conv=>cbv
 ·have r:=Ah h;cases b <;> conv=>cbv
  ·have g:AE l≠0:=fun e=>by rw[d,e] at f;exact (Ah h) f
   exact AD ⟨⟨rfl,congrArg _ (by rw[j,Ow k g];rfl),trivial⟩,trivial⟩
  have g:AE l≠0:=fun e=>by rw[d,e] at f;exact (Ah h) f
  exact AD ⟨⟨rfl,congrArg _ (by rw[j,Ow k g];rfl),trivial⟩,trivial⟩
 have r:=Aj h;have g:AE l=0:=by rw[d] at f;exact Er.1 (List.length_eq_zero_iff.1 (by omega))
 exact AD ⟨⟨rfl,congrArg _ (by rw[j,k,g];unfold CE;simp),trivial⟩,trivial⟩
theorem LB {c:Int} (f:Ad x b l) (d:c=CE x):CF 316 [.agg (BD b l)] (.one (.int .i64 c)):=cA f.E3 d
theorem TR (f:Ad x b l) (d:l.length<=17592186044416) (g:Ad x c z):CF 391 [.agg (BD b l)] (.agg (BD c z)):=bX f.E3 d g
theorem S9 {c:Int} (u:Ad x b1 l1) (v:Ad y b2 l2) (D:c=BV x y):CF 356 [.agg (BD b1 l1),.agg (BD b2 l2)] (.one (.int .i64 c)):=by
 refine AJ Tryz.func356 fun E r=>?_
 conv=>cbv
 obtain⟨H,f⟩:=xI (CE x);refine AB r (LB u f) ?_;conv=>cbv
 obtain⟨A,d⟩:=xI (CE y);refine AB r (LB v d) ?_;conv=>cbv
 refine g2 rfl ?_;intro w s;conv=>cbv
 cases w <;> conv=>cbv
 ·have o:=Co s;obtain⟨B,j⟩:=xU (AP (AE l1));refine AB r (Ea rfl j) ?_;conv=>cbv
  have t20:B=l1:=by rw[j];exact u.trim
  obtain⟨C,k⟩:=xU (AP (AE l2));refine AB r (Ea rfl k) ?_;conv=>cbv
  have t23:C=l2:=by rw[k];exact v.trim
  obtain⟨G,g⟩:=xI (BV x.natAbs y.natAbs);refine AB r (Ni (t20.trans u.BC) (t23.trans v.BC) g) ?_;conv=>cbv
  intro n25 t;conv=>cbv
  refine⟨fun _=>by rw[t,f,g];exact mO _ _ _,?_⟩;refine g2 rfl ?_;exact AD ⟨⟨rfl,congrArg _ (by rw[D,t,f,g];exact fv (by rw[<-f,<-d];exact o)),trivial⟩,trivial⟩
 have o:=Cp s;obtain⟨F,h⟩:=xI (BV H A);refine AB r (TA h) ?_;conv=>cbv
 exact AD ⟨⟨rfl,congrArg _ (by rw[D,h,f,d];exact fu (by rw[<-f,<-d];exact o)),trivial⟩,trivial⟩
theorem PM (w:Ad x b1 l1) (A:Ad y b2 l2) (B:Ad (x+y) b3 l3) (s1:l1.length<=17592186044416) (s2:l2.length<=17592186044416):CF 382 [.agg (BD b1 l1),.agg (BD b2 l2)] (.agg (BD b3 l3)):=by
 refine AJ Tryz.func382 fun E k=>?_
 conv=>cbv
 obtain⟨R,F⟩:=xU (AP (AE l1));refine AB k (Ea rfl F) ?_;conv=>cbv
 have t9:R=l1:=by rw[F];exact w.trim
 obtain⟨M,s⟩:=xU (AP (AE l2));refine AB k (Ea rfl s) ?_;conv=>cbv
 have t12:M=l2:=by rw[s];exact A.trim
 refine g2 rfl ?_;intro n17 C;conv=>cbv
 cases n17 <;> conv=>cbv
 ·have o:=Up C;obtain⟨Q,f⟩:=xI (BV x.natAbs y.natAbs);refine AB k (Ni (t9.trans w.BC) (t12.trans A.BC) f) ?_;conv=>cbv
  intro n27 D;conv=>cbv
  cases n27 <;> conv=>cbv
  ·have d:=AW D;obtain⟨P,v⟩:=xU (AP (x.natAbs-y.natAbs));refine AB (r:= .one (.sl .u32 P)) k (RK (t9.trans w.BC) (t12.trans A.BC) v (by rw[f] at d;have:=IE d;omega) (by rw[t9];exact s1)) ?_;try conv=>cbv
   obtain⟨I,L,j⟩:=Ac (x+y);refine AB (r:= .agg [.bool I,.sl .u32 L]) k (Et (by rw[v,Az,Int.add_comm];rw[f] at d;exact NL A.neg w.neg (Ne.symm o) (by have:=IE d;omega)) j) ?_;try conv=>cbv
   refine g2 rfl ?_;exact AD ⟨⟨rfl,congrArg _ ((j.uniq B rfl).1.symm),congrArg _ ((j.uniq B rfl).2.symm),trivial⟩,trivial⟩
  have d:=AY D;obtain⟨O,u⟩:=xU (AP (y.natAbs-x.natAbs));refine AB (r:= .one (.sl .u32 O)) k (RK (t12.trans A.BC) (t9.trans w.BC) u (by rw[f] at d;have:=IF d;omega) (by rw[t12];exact s2)) ?_;try conv=>cbv
  obtain⟨H,K,h⟩:=Ac (x+y);refine AB (r:= .agg [.bool H,.sl .u32 K]) k (Et (by rw[u,Az];rw[f] at d;exact NL w.neg A.neg o (by have:=IF d;omega)) h) ?_;try conv=>cbv
  refine g2 rfl ?_;exact AD ⟨⟨rfl,congrArg _ ((h.uniq B rfl).1.symm),congrArg _ ((h.uniq B rfl).2.symm),trivial⟩,trivial⟩
 have o:=Uq C;obtain⟨N,t⟩:=xU (AP (x.natAbs+y.natAbs));refine AB (r:= .one (.sl .u32 N)) k (YV (t9.trans w.BC) (t12.trans A.BC) t (by rw[t9];exact s1) (by rw[t12];exact s2)) ?_;try conv=>cbv
 obtain⟨G,J,g⟩:=Ac (x+y);refine AB (r:= .agg [.bool G,.sl .u32 J]) k (Et (by rw[t,Az];exact add_same w.neg (o.trans A.neg)) g) ?_;try conv=>cbv
 refine g2 rfl ?_;exact AD ⟨⟨rfl,congrArg _ ((g.uniq B rfl).1.symm),congrArg _ ((g.uniq B rfl).2.symm),trivial⟩,trivial⟩
theorem Ex (s:Ad x b1 l1) (t:Ad y b2 l2) (A:Ad (x*y) b3 l3) (s1:l1.length<=17592186044416) (s2:l2.length<=17592186044416):CF 357 [.agg (BD b1 l1),.agg (BD b2 l2)] (.agg (BD b3 l3)):=by
 refine AJ Tryz.func357 fun E o=>?_
 conv=>cbv
 intro C B;conv=>cbv
 obtain⟨u,f⟩:=xU (AP (AE l1));refine AB o (Ea rfl f) ?_;conv=>cbv
 have t12:u=l1:=by rw[f];exact s.trim
 obtain⟨v,g⟩:=xU (AP (AE l2));refine AB o (Ea rfl g) ?_;conv=>cbv
 have t15:v=l2:=by rw[g];exact t.trim
 obtain⟨w,h⟩:=xU (AP (x.natAbs*y.natAbs));refine AB (r:= .one (.sl .u32 w)) o (nr (t12.trans s.BC) (t15.trans t.BC) h (by rw[t12];exact s1) (by rw[t15];exact s2)) ?_;try conv=>cbv
 obtain⟨j,k,d⟩:=Ac (x*y);refine AB (r:= .agg [.bool j,.sl .u32 k]) o (Et (by rw[h,Az,B];exact XZ s.neg t.neg) d) ?_;try conv=>cbv
 refine g2 rfl ?_;exact AD ⟨⟨rfl,congrArg _ ((d.uniq A rfl).1.symm),congrArg _ ((d.uniq A rfl).2.symm),trivial⟩,trivial⟩
theorem Te (u:c=E7 b l):CF 366 [.agg (BD b l)] (.one (.bool c)):=by
 refine AJ Tryz.func366 fun E D=>?_
 conv=>cbv
 rintro F ⟨C,f6⟩;conv=>cbv
 intro B w;conv=>cbv
 cases B <;> conv=>cbv
 ·have A:=Ah w;intro n16 f;conv=>cbv
  cases n16 <;> conv=>cbv
  ·have j:=Bq f
   exfalso;omega
  have j:=Br f;intro n21 t;conv=>cbv
  refine AI ?_;obtain⟨k,d⟩:=AK (l:=l) (i:=(n21).toNat) (by omega);refine⟨k,fun _=>⟨by omega,d⟩,?_⟩;try conv=>cbv
  intro n23 g;have o:=g.eq;have f23:=g.lt;conv=>cbv
  intro n24 s;conv=>cbv
  exact AD ⟨⟨rfl,congrArg _ (by rw[u,s];exact oO d (by omega) o),trivial⟩,trivial⟩
 have A:=Aj w;intro v r;conv=>cbv
 cases v <;> conv=>cbv
 ·have h:=C3 r;intro n16 f;conv=>cbv
  cases n16 <;> conv=>cbv
  ·have j:=Bq f;exact AD ⟨⟨rfl,congrArg _ (by rw[u,List.eq_nil_of_length_eq_zero (by omega:l.length=0),h];rfl),trivial⟩,trivial⟩
  have j:=Br f;intro n21 t;conv=>cbv
  refine AI ?_;obtain⟨k,d⟩:=AK (l:=l) (i:=(n21).toNat) (by omega);refine⟨k,fun _=>⟨by omega,d⟩,?_⟩;try conv=>cbv
  intro n23 g;have o:=g.eq;have f23:=g.lt;conv=>cbv
  intro n24 s;conv=>cbv
  exfalso;omega
 have h:=C4 r;exact AD ⟨⟨rfl,congrArg _ (by rw[u,List.eq_nil_of_length_eq_zero (by omega:l.length=0),h];rfl),trivial⟩,trivial⟩
end Go.Abs
namespace Go.Abs
open Go.RowKit
variable {a b n:Int} {e p q:Nat}
theorem SV (h:n=IntKind.u64.wrap (a*2^min b.toNat IntKind.u64.bits)) (ha:a=p) (hb:b=e) (he:e<=64:=by omega):n=((p*2^e%18446744073709551616:Nat):Int):=by
 have d:min b.toNat IntKind.u64.bits=e:=by rw[hb];show min e 64=e;omega
 have f:=wrap_u64 h;rw[f,d,ha];simp
theorem SU (h:n=IntKind.u32.wrap (a*2^min b.toNat IntKind.u32.bits)) (ha:a=p) (hb:b=e) (he:e<=32:=by omega):n=((p*2^e%4294967296:Nat):Int):=by
 have d:min b.toNat IntKind.u32.bits=e:=by rw[hb];show min e 32=e;omega
 have f:=wrap_u32 h;rw[f,d,ha];simp
theorem shr_var {m:Nat} (h:n=a.fdiv (2^min b.toNat m)) (ha:a=p) (hb:b=e) (he:e<=m):n=((p/2^e:Nat):Int):=by
 have d:min b.toNat m=e:=by rw[hb];simp;omega
 rw[h,d,ha,Int.fdiv_eq_ediv_of_nonneg _ (by have:=Int.pow_pos (n:=2) (m:=e) (by decide);omega)];simp
theorem Od (h:n=IntKind.u32.wrap (BitVec.ofInt IntKind.u32.bits a ||| BitVec.ofInt IntKind.u32.bits b).toNat) (ha:a=p) (hb:b=q) (g:p<4294967296) (j:q<4294967296):n=((p ||| q:Nat):Int):=by
 have f:=wrap_u32 h;rw[f,ha,hb]
 have d:(BitVec.ofInt IntKind.u32.bits (p:Int) ||| BitVec.ofInt IntKind.u32.bits (q:Int)).toNat=p ||| q:=by
  rw[BitVec.toNat_or,BitVec.toNat_ofInt,BitVec.toNat_ofInt]
  show ((p:Int)%4294967296).toNat ||| ((q:Int)%4294967296).toNat=_
  congr 1 <;> omega
 rw[d];have:p ||| q<2^32:=Nat.or_lt_two_pow g j
 omega
theorem YP (h:n=IntKind.u64.wrap (BitVec.ofInt IntKind.u64.bits a ||| BitVec.ofInt IntKind.u64.bits b).toNat) (ha:a=p) (hb:b=q) (g:p<18446744073709551616) (j:q<18446744073709551616):n=((p ||| q:Nat):Int):=by
 have f:=wrap_u64 h;rw[f,ha,hb]
 have d:(BitVec.ofInt IntKind.u64.bits (p:Int) ||| BitVec.ofInt IntKind.u64.bits (q:Int)).toNat=p ||| q:=by
  rw[BitVec.toNat_or,BitVec.toNat_ofInt,BitVec.toNat_ofInt]
  show ((p:Int)%18446744073709551616).toNat ||| ((q:Int)%18446744073709551616).toNat=_
  congr 1 <;> omega
 rw[d];have:p ||| q<2^64:=Nat.or_lt_two_pow g j
 omega
theorem JK (h:n=IntKind.u64.wrap (BitVec.ofInt IntKind.u64.bits a ||| BitVec.ofInt IntKind.u64.bits b).toNat) (ha:a=((p*4294967296:Nat):Int)) (hb:b=q) (g:p<4294967296) (f:q<4294967296):n=((q+4294967296*p:Nat):Int):=by
 rw[YP h ha hb (by omega) (by omega),Nat.or_comm,Nat.mul_comm];have:=Kg (a:=q) (b:=p) (d:=32) f;exact congrArg _ this
end Go.Abs
