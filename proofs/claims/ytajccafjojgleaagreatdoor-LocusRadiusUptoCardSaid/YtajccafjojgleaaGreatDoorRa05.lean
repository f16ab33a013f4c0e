/- Part 6 of a proof. Conditions: each theorem's own. -/
import Derived.RangeFuncBox
import Derived.RangeFuncLeaves
import Derived.Shelf.Abstract
import Derived.WalkKit
import Derived.OwnWalkIn
import Derived.TacticsInMore
import Derived.LoopNIn
import Derived.LoopIn
import Derived.Test.YtajccafjojgleaaGreatDoorRa00
import Derived.Test.YtajccafjojgleaaGreatDoorRa04
set_option linter.all false
set_option maxHeartbeats 80000000
set_option maxRecDepth 20000
open Go.Proofs
namespace Go.Abs
open Go.RowKit
section
variable {a b m n p:Int} {e i:Nat}
theorem Oh.lt {x:UInt8} (_:Oh n x):x.toNat<256:=x.toNat_lt
theorem Mz.lt {x:UInt32} (_:Mz n x):x.toNat<4294967296:=x.toNat_lt
theorem BD (k:Nat):AR k k:=⟨rfl⟩
theorem AR.of {k:Nat} (h:n=k):AR n k:=⟨h⟩
theorem Bv (h:true=(a==b)):a=b:=by simpa using h.symm
theorem Bu (h:false=(a==b)):a≠b:=by simpa using h.symm
theorem Jj (h:true=(a !=b)):a≠b:=by simpa using h.symm
theorem Ji (h:false=(a !=b)):a=b:=by simpa using h.symm
theorem EH (h:true=decide (a<b)):a<b:=by simpa using h.symm
theorem EG (h:false=decide (a<b)):b<=a:=by simpa using h.symm
theorem No (h:true=decide (a<=b)):a<=b:=by simpa using h.symm
theorem Nn (h:false=decide (a<=b)):b<a:=by simpa using h.symm
theorem Fj (h:true=decide (a>b)):b<a:=by simpa using h.symm
theorem Fi (h:false=decide (a>b)):a<=b:=by simpa using h.symm
theorem Lr (h:true=decide (a >= b)):b<=a:=by simpa using h.symm
theorem Lq (h:false=decide (a >= b)):a<b:=by simpa using h.symm
theorem Gh {a:Bool} (h:true= !a):a=false:=by simpa using h.symm
theorem Gg {a:Bool} (h:false= !a):a=true:=by simpa using h.symm
theorem SN {a b:Bool} (h:true=(a==b)):a=b:=by simpa using h.symm
theorem SM {a b:Bool} (h:false=(a==b)):a≠b:=by simpa using h.symm
theorem PD {a b:Bool} (h:true=(a !=b)):a≠b:=by simpa using h.symm
theorem PC {a b:Bool} (h:false=(a !=b)):a=b:=by simpa using h.symm
theorem wrap_u8 (h:n=IntKind.u8.wrap m):n=m%256:=h
theorem wrap_u32 (h:n=IntKind.u32.wrap m):n=m%4294967296:=h
theorem wrap_u64 (h:n=IntKind.u64.wrap m):n=m%18446744073709551616:=h
theorem wrap_i64 (h:n=IntKind.i64.wrap m):n=(m+9223372036854775808)%18446744073709551616-9223372036854775808:=by
 have e:IntKind.i64.wrap m=if (true&&decide (m%18446744073709551616 >= 9223372036854775808))=true then m%18446744073709551616-18446744073709551616 else m%18446744073709551616:=rfl
 rw[h,e]
 split
 ·rename_i d
  simp only[Bool.true_and,decide_eq_true_eq] at d;omega
 rename_i d
 simp only[Bool.true_and,decide_eq_true_eq] at d;omega
theorem Es (h:n=a.fdiv (2^e)) (d:2^e=p):n=a/p:=by
 rw[h,<-d,Int.fdiv_eq_ediv_of_nonneg _ (by have:=Int.pow_pos (n:=2) (m:=e) AE;omega)]
theorem K5 (h:n=IntKind.u64.wrap (a*2^e)) (d:2^e=p):n=(a*p)%18446744073709551616:=by rw[<-d];exact h
theorem Bj {α:Type} {l:List α} (h:i<l.length):∃x,l[i]? =some x:=⟨l[i],by simp[h]⟩
theorem CX (h:0<=n/\n<4294967296):∃w:UInt32,Mz n w:=⟨UInt32.ofNat n.toNat,⟨by rw[UInt32.toNat_ofNat'];omega⟩⟩
theorem CW {w:UInt32} (h:Mz n w):EB FV [.int .u32 n] (cells .u32 w):=by
 refine⟨?_,trivial⟩
 show AC.int .u32 _=AC.int .u32 n
 rw[h.eq]
theorem Gs {α:Type} {l:List α} {x:α} (h:l[i]? =some x):i<l.length:=by
 apply Classical.byContradiction;intro d;rw[List.getElem?_eq_none AA] at h;exact absurd h Ai
theorem DU {α:Type} {l:List α} {x:α} (h:l[i]? =some x):l.take (i+1)=l.take i++[x]:=by
 have d:=Gs h;rw[List.take_succ_eq_append_getElem d];rw[List.getElem?_eq_getElem d] at h;rw[Option.some.inj h]
theorem C3 {t:T} {l m:List (el t)} {n k:Nat} (h:l=m) (d:n=k):AC.own t l n=AC.own t m k:=by rw[h,d]
end
section
variable {a b n:Nat} {c y:Int} {l m z:List UInt32}
theorem FM (P:AF l=n) (G:z=AT n):CF 285 [.one (.sl .u32 l)] (.one (.sl .u32 z)):=by
 have G:CR l=z:=by rw[G,<-P,Ma]
 refine AM Tryz.func285 fun E Z=>?_
 refine BI [] [0] [] (fun vs J k=>∃m:List UInt32,vs=[.one (.sl .u32 m)]/\CR m=z/\k=m.length) l.length ⟨l,rfl,G,rfl⟩ ?_;rintro W C vs J R ⟨m,rfl,r,O⟩;refine AW ?_;rintro n4 ⟨X,f4⟩;refine FC (fun Q=>?_) fun Q=>?_
 ·have D:m=[]:=List.eq_nil_of_length_eq_zero AA;exact AL (by rw[<-r,D];rfl)
 rintro n9 ⟨Y,f9⟩ d M;refine Ae ((d).toNat) fun u g=>?_
 refine AW ?_;intro T j;have K:=j.eq;have f12:=j.lt;refine CN (fun A=>?_) fun A=>?_
 ·have F:u≠0:=fun h=>by subst h;exact A j.eq
  have e2:m=m.take (d).toNat++[u]:=by have:=DU g;rw[List.take_of_length_le AA] at this;exact this
  exact AL (by rw[<-r,e2,LA F])
 refine .inr ?_;refine AK ?_;rintro U ⟨L,f17⟩ V N S I B H t f;refine⟨t.length,?_,?_⟩
 ·rw[f];simp;omega
 rw[C];have el:t=m.take (d).toNat:=by rw[f,(AA:B=(d).toNat)];simp
 refine⟨t,rfl,?_,rfl⟩;obtain rfl:u=0:=UInt32.toNat_inj.1 (by show _=0;omega)
 have e2:m=m.take (d).toNat++[0]:=by
  have:=DU g;rw[List.take_of_length_le AA] at this;exact this
 rw[el,<-r];conv=>rhs;rw[e2]
 rw[J8]
theorem ZP (x:Int):CF 331 [AH x] (.one (.bool false)):=by
 refine AM Tryz.func331 fun E f=>?_
 intro g d;exact AL (by rw[d];simp)
theorem ZQ (x:Int):CF 332 [.one (.int .u32 x)] (.one (.bool false)):=by
 refine AM Tryz.func332 fun E f=>?_
 intro g d;exact AL (by rw[d];simp)
theorem Vx {x:Int} (d:c=Bp x y):CF 319 [AH x,AH y] (AH c):=by
 refine AM Tryz.func319 fun E h=>?_
 refine AB h (ZP _) ?_;refine AB h (ZP _) ?_;refine DF (fun f=>?_) fun f=>?_
 ·exact AL (by rw[d];unfold Bp;split <;> (try split) <;> omega)
 refine FC (fun g=>?_) fun g=>?_
 ·exact AL (by rw[d];unfold Bp;split <;> (try split) <;> omega)
 exact AL (by rw[d];unfold Bp;split <;> (try split) <;> omega)
theorem fW {x:Int} (d:c=Bp x y):CF 320 [.one (.int .u32 x),.one (.int .u32 y)] (AH c):=by
 refine AM Tryz.func320 fun E h=>?_
 refine AB h (ZQ _) ?_;refine AB h (ZQ _) ?_;refine DF (fun f=>?_) fun f=>?_
 ·exact AL (by rw[d];unfold Bp;split <;> (try split) <;> omega)
 refine FC (fun g=>?_) fun g=>?_
 ·exact AL (by rw[d];unfold Bp;split <;> (try split) <;> omega)
 exact AL (by rw[d];unfold Bp;split <;> (try split) <;> omega)
theorem Mc {m:Nat} (S:n<=l.length) (hl:l.length<=140737488355328) (hm:m=(CR (l.take n)).length):JA Tryz.prog 285 (.AU .u32 0 0 0 n) (.arr 0 .u32 l) [] (.one (.AU .u32 0 0 0 m)) (.arr 0 .u32 l):=by
 refine ND Tryz.func285 (by kernel_rfl) rfl fun E hE=>?_
 conv=>cbv
 refine BI [] [0] [0] (fun vs F k=>∃q:Nat,vs=[.one (.AU .u32 0 0 0 q)]/\F=[.arr 0 .u32 l]/\q<=l.length/\m=(CR (l.take q)).length/\k=q) n ⟨n,rfl,rfl,S,hm,rfl⟩ ?_;rintro Z B vs F U ⟨q,rfl,rfl,hq,j,R⟩;conv=>cbv
 intro n4 P;have e4:=P.eq;conv=>cbv
 refine FC (fun T=>?_) fun T=>?_
 ·refine⟨fun _=>⟨⟨⟨rfl,.inr (.inr ⟨rfl,rfl,congrArg (AC.AU .u32 0 0 0) (by rw[j,(AA:q=0)];rfl)⟩),trivial⟩,trivial⟩,rfl,Ai⟩,fun _=>rfl⟩
 intro n9 Q;have e9:=Q.eq;refine AK ?_;intro V N r I;obtain⟨t,d⟩:=Bj (l:=l) (i:=r) AA;refine⟨t,fun _=>d,?_⟩;refine AW ?_;intro W g;have L:=g.eq;have f12:=g.lt;refine CN (fun u=>?_) fun u=>?_
 ·have C:t≠0:=fun h=>by subst h;exact u g.eq
  refine⟨fun _=>⟨⟨⟨rfl,.inr (.inr ⟨rfl,rfl,congrArg (AC.AU .u32 0 0 0) (by rw[j,(AA:q=r+1),DU d,LA C,List.length_append,List.length_take];simp;omega)⟩),trivial⟩,trivial⟩,rfl,Ai⟩,fun _=>rfl⟩
 refine .inr ?_;intro X A;have M:=A.eq;refine AK ?_;rintro Y O K G D f ⟨J,H⟩;refine⟨f,?_,?_⟩
 ·omega
 rw[B];obtain rfl:D=0:=AA
 refine⟨f,rfl,rfl,AA,?_,rfl⟩;obtain rfl:t=0:=UInt32.toNat_inj.1 (by show _=0;omega);rw[j,(AA:q=f+1),DU (x:=0) (by rw[(AA:f=r)];exact d),J8]
theorem bC {zn:Nat} (hl:l=AT a) (hm:m=AT b) (hz:z=AT (a+b)) (ah:zn=z.length) (sl:l.length<=17592186044416) (sm:m.length<=17592186044416):CF 309 [.one (.sl .u32 l),.one (.sl .u32 m)] (.one (.own .u32 z zn)):=by
 refine AM Tryz.func309 fun E hE=>?_
 rintro aR ⟨aF,f10⟩ aS ⟨aG,f12⟩ aw Y;obtain⟨an,F⟩:=xK fun vs bl=>∃(p q:Nat) (x y:List UInt32),vs=[.one (.sl .u32 x),.one (.sl .u32 y)]/\x=AT p/\y=AT q/\p+q=a+b/\y.length<=x.length/\x.length<=17592186044416
 refine .inl ⟨[0,1],[],an,?_,?_⟩
 ·intro vs bl hj;rw[F] at hj;obtain⟨p,q,x,y,rfl,hx,hy,J,ag,aP⟩:=hj;refine AK ?_;rintro aT ⟨aH,f17⟩ aU aM;refine⟨fun _=>⟨AA,AA,by show _*4<=140737488355328;omega⟩,?_⟩;intro R (S:List UInt32) O;have K:=O.1;have A:S=List.replicate R (0:el .u32):=O.2;have aE:S.length=R:=by rw[A,List.length_replicate]
  refine AW ?_;intro ax Q;have aI:=Q.eq;have f21:=Q.le;refine BI [] [0,1,5,6,20,21,22] [19] (fun vs bl k=>∃(o:List UInt32) (n V i':Nat) (c L i:Int),vs=[.one (.sl .u32 x),.one (.sl .u32 y),.one (.AU .u32 19 0 0 n),.one (.int .u64 c),.one (.sl .u32 x),AH L,AH i]/\bl=[.arr 0 .u32 o]/\(n=o.length/\o.length=i'/\DX L x.length/\AR i i'/\i'<=x.length/\AR c V/\V<=1)/\AF o+2^(32*i')*V=AF (x.take i')+AF (y.take i')/\k=x.length-i') (x.length-0) ⟨S,R,0,0,0,ax,0,rfl,rfl,⟨by rw[A,List.length_replicate],by rw[A,List.length_replicate,K];rfl,Q,BD 0,AA,BD 0,AA⟩,by rw[A,K];simp[AF],rfl⟩ ?_;rintro J0 ad vs bl aQ ⟨o,n,V,i',c,L,i,rfl,rfl,⟨hn,ho,hL,hi,aO,hc,aN⟩,hinv,r⟩;conv=>cbv
  have eL:=hL.eq;have ei:=hi.eq;have ec:=hc.eq;refine BQ (fun ar=>?_) fun ar=>?_
  ·intro Du aa;refine .inr ?_;cases Du <;> conv=>cbv
   ·have av:=Fi aa;have r:i'=x.length:=AA
    have g:AF o=p+q:=by rw[r,Dv (Nat.le_refl _),Dv ag,hx,hy,BU,BU,(AA:V=0)] at hinv;omega
    exact AN ⟨⟨rfl,.inr (.inl ⟨_,_,AE,rfl,rfl,hn,rfl,C3 (by rw[hz,<-J];exact (Xr g (by rw[ho,r,hx])).symm) (by rw[ah,hz,<-J,<-Xr g (by rw[ho,r,hx])])⟩),trivial⟩,trivial⟩
   have av:=Fj aa;intro az ab;conv=>cbv
   have ab:=wrap_u32 ab;obtain⟨B,H⟩:=CX (n:=az) AA;have aC:=H.eq;have aD:=H.lt;refine⟨[B],fun _=>⟨rfl,AE,rfl,⟨rfl,CW H,trivial⟩⟩,.inl ?_⟩;try conv=>cbv
   refine .inl ⟨[B],fun _=>⟨rfl,by (first | rfl | omega),⟨_,rfl,by simp <;> omega,Ai⟩,B5 (o.length+1) 4⟩,?_⟩;intro (ai:List UInt32) aA P;have M:ai=(o:List UInt32)++([B]:List UInt32):=P.1;have ae:aA=List.length (α:=UInt32) ai:=P.2;conv=>cbv
   have r:i'=x.length:=AA
   have g:AF (o++[B])=p+q:=by rw[Ei,(AA:B.toNat=V),ho,<-BU p,<-BU q,<-hx,<-hy];rw[r,Dv (Nat.le_refl _),Dv ag] at hinv;rw[r];exact hinv
   have hw:B.toNat≠0:=AA
   exact AN ⟨⟨rfl,.inr (.inl ⟨_,_,AE,rfl,rfl,ae,rfl,C3 (by rw[hz,<-J,<-g,SR hw,M]) (by rw[ah,hz,<-J,<-g,SR hw,M])⟩),trivial⟩,trivial⟩
  refine .inr ?_;refine Ae i' fun al N=>?_
  refine AW ?_;intro aV Z aW a1;have aJ:=Z.eq;have f26:=Z.lt;have a1:=wrap_u64 a1;intro aj a2;conv=>cbv
  have a2:=wrap_u64 a2;refine AW ?_;rintro aX ⟨aK,f33⟩ ay a5;refine .inr ?_;cases ay <;> conv=>cbv
  ·have au:=EG a5;intro T C;conv=>cbv
   have C:=wrap_u32 C;obtain⟨f,d⟩:=CX (n:=T) AA;have W:=d.eq;have X:=d.lt;refine⟨[f],fun _=>⟨rfl,AE,rfl,⟨rfl,CW d,trivial⟩⟩,.inl ?_⟩;try conv=>cbv
   refine .inl ⟨[f],fun _=>⟨rfl,by (first | rfl | omega),⟨_,rfl,by simp <;> omega,Ai⟩,B5 (o.length+1) 4⟩,?_⟩;intro (t:List UInt32) I j;have h:t=(o:List UInt32)++([f]:List UInt32):=j.1;have G:I=List.length (α:=UInt32) t:=j.2;refine AK ?_;intro u D;have D:=Es (p:=4294967296) D rfl;refine AK ?_;intro U ao;refine⟨x.length-(i'+1),?_,?_⟩
   ·omega
   rw[ad];refine⟨t,I,u.toNat,i'+1,u,L,U,rfl,rfl,⟨G,by rw[h];simp;omega,hL,⟨AA⟩,AA,⟨AA⟩,AA⟩,?_,rfl⟩;rw[h,Cu N,Dv (l:=y) (i:=i'+1) AA];have hs:=PL (xi:=al.toNat) (yi:=0) (s:=aj.toNat) (w:=f) ho hinv AA AA;rw[(AA:u.toNat=aj.toNat/4294967296)];rw[hs];rw[Dv (l:=y) (i:=i') AA];omega
  have au:=EH a5;refine Ae i' fun aB af=>?_
  refine AW ?_;intro aY a6 aZ a7;have aL:=a6.eq;have f39:=a6.lt;have a7:=wrap_u64 a7;intro ak a8;conv=>cbv
  have a8:=wrap_u64 a8;intro T C;conv=>cbv
  have C:=wrap_u32 C;obtain⟨f,d⟩:=CX (n:=T) AA;have W:=d.eq;have X:=d.lt;refine⟨[f],fun _=>⟨rfl,AE,rfl,⟨rfl,CW d,trivial⟩⟩,.inl ?_⟩;try conv=>cbv
  refine .inl ⟨[f],fun _=>⟨rfl,by (first | rfl | omega),⟨_,rfl,by simp <;> omega,Ai⟩,B5 (o.length+1) 4⟩,?_⟩;intro (t:List UInt32) I j;have h:t=(o:List UInt32)++([f]:List UInt32):=j.1;have G:I=List.length (α:=UInt32) t:=j.2;refine AK ?_;intro u D;have D:=Es (p:=4294967296) D rfl;refine AK ?_;intro U ao;refine⟨x.length-(i'+1),?_,?_⟩
  ·omega
  rw[ad];refine⟨t,I,u.toNat,i'+1,u,L,U,rfl,rfl,⟨G,by rw[h];simp;omega,hL,⟨AA⟩,AA,⟨AA⟩,AA⟩,?_,rfl⟩;rw[h,Cu N,Cu af];have hs:=PL (xi:=al.toNat) (yi:=aB.toNat) (s:=ak.toNat) (w:=f) ho hinv AA AA;rw[(AA:u.toNat=ak.toNat/4294967296)];rw[hs]
 cases aw <;> conv=>cbv
 ·have aq:=EG Y;rw[F];exact⟨a,b,_,_,rfl,hl,hm,rfl,AA,AA⟩
 have aq:=EH Y;rw[F];exact⟨b,a,_,_,rfl,hm,hl,Nat.add_comm _ _,AA,AA⟩
theorem bB (d:l=AT a) (hm:m=AT b) (f:z=AT (a+b)) (sl:l.length<=17592186044416) (g:m.length<=17592186044416):CF 309 [.one (.sl .u32 l),.one (.sl .u32 m)] (.one (.sl .u32 z)):=Df (bC d hm f rfl sl g)
end
section
variable {b:Bool} {l z:List UInt32} {x:Int}
theorem Fp {n:Bool} (r:x=if n=true then -(AF l:Int) else AF l) (h:BB x b z):CF 245 [.one (.bool n),.one (.sl .u32 l)] (.agg (BZ b z)):=by
 refine AM Tryz.func245 fun E u=>?_
 obtain⟨A,d⟩:=xU (AT (AF l));refine AB u (FM rfl d) ?_;intro C g;have B:=g.eq;have f8:=g.le;refine CN (fun t=>?_) fun t=>?_
 ·have j:AF l≠0:=fun e=>t (by have:=g.eq;rw[d,e] at this;exact this)
  have f:BB x n A:= .val d.symm r (fun e=>absurd e j);exact Dk ((f.uniq h rfl).1.symm) ((f.uniq h rfl).2.symm)
 have j:AF l=0:=by have e:=g.eq;rw[d] at e;exact E3.1 (List.length_eq_zero_iff.1 AA)
 have f:BB x false []:= .val (n:=0) rfl (by rw[r,j];simp) (fun _=>rfl);exact AN ⟨⟨rfl,congrArg _ ((f.uniq h rfl).1.symm),.inr (.inl ⟨_,congrArg _ ((f.uniq h rfl).2.symm)⟩),trivial⟩,trivial⟩
theorem Lp {n:Int} {k:Nat} (I:AR n k) (N:k<18446744073709551616) (J:z=AT k):CF 246 [.one (.int .u64 n)] (.one (.sl .u32 z)):=by
 have M:=I.eq;refine AM Tryz.func246 fun E H=>?_
 intro n4 C;have C:=wrap_u32 C;refine AK ?_;intro O D;have D:=Es (p:=4294967296) D rfl;intro L F;conv=>cbv
 have F:=wrap_u32 F;obtain⟨g,d⟩:=CX (n:=n4) AA;have t:=d.eq;have A:=d.lt;obtain⟨h,f⟩:=CX (n:=L) AA;have u:=f.eq;have B:=f.lt;refine⟨[g,h],fun _=>⟨rfl,AE,rfl,⟨rfl,CW d,⟨rfl,CW f,trivial⟩⟩⟩,.inl ?_⟩;try conv=>cbv
 obtain⟨K,j⟩:=xN ((CR ([g,h].take 2)).length);obtain⟨G,r⟩:=FA Ai j;refine .inr (.inr (.inl ⟨[],.one (.AU .u32 0 0 0 K),.arr 0 .u32 [g,h],fun _=>⟨by first | decide | simp[Cq,Ch],trivial⟩,fun _=>⟨Ea H (Mc Ai Ai j),rfl,rfl⟩,?_⟩));try conv=>cbv
 exact AN ⟨⟨rfl,.inl ⟨_,rfl,by simp;omega,congrArg _ (by rw[List.drop_zero,r,J];congr 1;simp[AF];omega)⟩,trivial⟩,trivial⟩
theorem LG (j:z=l) (C:l.length<=17592186044416):CF 237 [.one (.sl .u32 l)] (.one (.sl .u32 z)):=by
 refine AM Tryz.func237 fun E B=>?_
 intro n4 u;refine⟨fun t=>?_,?_⟩
 ·conv=>cbv
  have g:l=[]:=by rw[u] at t;simpa using t
  exact AN ⟨⟨rfl,.inr (.inl ⟨_,congrArg _ (by rw[j,g])⟩),trivial⟩,trivial⟩
 refine⟨[],fun _=>⟨rfl,AE,rfl,trivial⟩,.inl ?_⟩;try conv=>cbv
 refine .inl ⟨l,fun _=>⟨rfl,by (first | rfl | omega),rfl,B5 (0+l.length) 4⟩,?_⟩;intro (r:List UInt32) A f;have h:r=([]:List UInt32)++(l:List UInt32):=f.1;have d:A=List.length (α:=UInt32) r:=f.2;conv=>cbv
 exact AN ⟨⟨rfl,.inl ⟨_,rfl,by rw[d];simp,congrArg _ (by rw[j,d,h];simp)⟩,trivial⟩,trivial⟩
theorem OY (I: -9223372036854775808<=x/\x<9223372036854775808) (u:BB x b z):CF 185 [AH x] (.agg (BZ b z)):=by
 refine AM Tryz.func185 fun E t=>?_
 intro J C;have C:=wrap_u64 C;intro H D;conv=>cbv
 refine .inr ?_;cases H <;> conv=>cbv
 ·have G:=EG D;intro A j;conv=>cbv
  obtain⟨B,f⟩:=xU (AT x.natAbs);refine AB t (Lp (AR.of (k:=x.natAbs) AA) AA f) ?_;obtain⟨g,h,d⟩:=Av (x);refine AB (r:= .agg [.bool g,.sl .u32 h]) t (Fp (by rw[f,BU,j];simp;omega) d) ?_;exact Dk ((d.uniq u rfl).1.symm) ((d.uniq u rfl).2.symm)
 have G:=EH D;intro K F;conv=>cbv
 have F:=wrap_u64 F;intro A j;conv=>cbv
 obtain⟨B,f⟩:=xU (AT x.natAbs);refine AB t (Lp (AR.of (k:=x.natAbs) AA) AA f) ?_;obtain⟨g,h,d⟩:=Av (x);refine AB (r:= .agg [.bool g,.sl .u32 h]) t (Fp (by rw[f,BU,j];simp;omega) d) ?_;exact Dk ((d.uniq u rfl).1.symm) ((d.uniq u rfl).2.symm)
end
section
variable {a b i:Nat} {l m z:List UInt32} {x:UInt32}
theorem SZ {y:UInt32} (h:l[i]? =some x) (t:m[i]? =some y) (F:l.length=m.length) (he:AF (l.drop (i+1))=AF (m.drop (i+1))) (f:x≠y):
  Bp x.toNat y.toNat=Bp (AF l) (AF m):=by
 have C:=Gs h;have j:=Gf l (i+1) AA;have g:=Gf m (i+1) AA;rw[Cu h] at j;rw[Cu t] at g;have b1:=C0 (l.take i);have b2:=C0 (m.take i);rw[List.length_take,Nat.min_eq_left AA] at b1 b2;rw[<-he] at g
 generalize AF (l.drop (i+1))=D at*
 generalize AF (l.take i)=A at*
 generalize AF (m.take i)=B at*
 generalize 2^(32*(i+1))*D=Q at*
 generalize u:2^(32*i)=P at*
 have r:x.toNat≠y.toNat:=fun e=>f (UInt32.toNat_inj.1 e)
 by_cases d:x.toNat<y.toNat
 ·have:P*(x.toNat+1)<=P*y.toNat:=Nat.mul_le_mul_left _ d;rw[Nat.mul_add] at this;have:AF l<AF m:=AA
  unfold Bp;rw[if_pos AA,if_pos AA]
 have:P*(y.toNat+1)<=P*x.toNat:=Nat.mul_le_mul_left _ AA;rw[Nat.mul_add] at this;have:AF m<AF l:=AA
 unfold Bp;rw[if_neg AA,if_pos AA,if_neg AA,if_pos AA]
theorem SY (h:(AT a).length≠(AT b).length):Bp (AT a).length (AT b).length=Bp a b:=by
 by_cases d:(AT a).length<(AT b).length
 ·have:a<b:=by
   apply Classical.byContradiction;intro f;have:=EV (a:=b) (b:=a);omega
  unfold Bp;rw[if_pos AA,if_pos AA]
 have:b<a:=by
  apply Classical.byContradiction;intro f;have:=EV (a:=a) (b:=b);omega
 unfold Bp;rw[if_neg AA,if_pos AA,if_neg AA,if_pos AA]
theorem drop_eq (d:l[i]? =some x) (f:m[i]? =some x) (he:AF (l.drop (i+1))=AF (m.drop (i+1))):AF (l.drop i)=AF (m.drop i):=by
 have g:=Gs d;have h:=Gs f;rw[List.drop_eq_getElem_cons g,List.drop_eq_getElem_cons h,AF,AF,he];rw[List.getElem?_eq_getElem g] at d;rw[List.getElem?_eq_getElem h] at f;rw[Option.some.inj d,Option.some.inj f]
theorem PS {c:Int} (Q:l=AT a) (hm:m=AT b) (S:c=Bp a b):CF 310 [.one (.sl .u32 l),.one (.sl .u32 m)] (AH c):=by
 refine AM Tryz.func310 fun E hE=>?_
 rintro n7 ⟨e7,f7⟩ n9 ⟨e9,f9⟩;refine Gn (fun N=>?_) fun N=>?_
 ·intro V r W t;have a5:=r.eq;have f12:=r.le;have a6:=t.eq;have f14:=t.le;obtain⟨al,d⟩:=xI (Bp V W);refine AB hE (Vx d) ?_;exact AL (by rw[d,S,r.eq,t.eq,Q,hm,SY (by rw[<-Q,<-hm];intro e;exact N AA)])
 rintro ai ⟨a7,f17⟩ X ad;refine BI [] [0,1,5] [] (fun vs bl k=>∃(j:Int) (k':Nat),vs=[.one (.sl .u32 l),.one (.sl .u32 m),AH j]/\(AR (j+1) k'/\k'<=l.length/\l.length=m.length/\AF (l.drop k')=AF (m.drop k'))/\k=k') l.length ⟨X,l.length,rfl,⟨⟨AA⟩,AA,AA,by rw[List.drop_length,(AA:l.length=m.length),List.drop_length]⟩,rfl⟩ ?_;rintro J0 R vs bl ah ⟨j,k',rfl,⟨hj,af,K,P⟩,ag⟩;conv=>cbv
 have ej:=hj.eq;refine I9 (fun U=>?_) fun U=>?_
 ·have hk:k'=0:=AA
  have he:a=b:=by rw[hk] at P;simpa [Q,hm,BU] using P
  exact AL (by rw[S,he];simp[Bp])
 refine .inr ?_;refine Ae ((j).toNat) fun B g=>?_
 refine AW ?_;intro aj H;have G:=H.eq;have f26:=H.lt;refine Ae ((j).toNat) fun C h=>?_
 refine AK ?_;intro ak I Z J;have a8:=I.eq;have f30:=I.lt;cases Z <;> conv=>cbv
 ·have O:=Ji J;refine AK ?_;intro Y ae;refine⟨k'-1,?_,?_⟩
  ·omega
  rw[R];obtain⟨i',rfl⟩:∃i',k'=i'+1:=⟨k'-1,AA⟩
  refine⟨Y,i',rfl,⟨⟨AA⟩,AA,K,?_⟩,AA⟩;have G:B=C:=UInt32.toNat_inj.1 AA;subst G;exact drop_eq (i:=i') (by rw[<-g];congr 1;omega) (by rw[<-h];congr 1;omega) P
 have O:=Jj J;refine Ae ((j).toNat) fun D L=>?_
 refine AW ?_;intro a1 u;have aa:=u.eq;have f35:=u.lt;refine Ae ((j).toNat) fun F M=>?_
 refine AW ?_;intro a2 A;have ab:=A.eq;have f39:=A.lt;obtain⟨an,f⟩:=xI (Bp a1 a2);refine AB hE (fW f) ?_;obtain⟨i',rfl⟩:∃i',k'=i'+1:=⟨k'-1,AA⟩
 have e1:l[i']? =some D:=by rw[<-L];congr 1;omega
 have e2:m[i']? =some F:=by rw[<-M];congr 1;omega
 have e3:l[i']? =some B:=by rw[<-g];congr 1;omega
 have e4:m[i']? =some C:=by rw[<-h];congr 1;omega
 obtain rfl:D=B:=Option.some.inj (e1.symm.trans e3);obtain rfl:F=C:=Option.some.inj (e2.symm.trans e4);have T:D≠F:=fun e=>by subst e;exact O AA
 exact AL (by rw[f,S,u.eq,A.eq,SZ e1 e2 K P T,Q,hm,BU,BU])
theorem Tv (hl:l=AT a) (hm:m=AT b) (hz:z=AT (a-b)) (a8:b<=a) (sl:l.length<=17592186044416):CF 311 [.one (.sl .u32 l),.one (.sl .u32 m)] (.one (.sl .u32 z)):=by
 have ab:m.length<=l.length:=by rw[hl,hm];exact EV a8
 refine AM Tryz.func311 fun E hE=>?_
 rintro az ⟨al,f11⟩;refine⟨fun _=>⟨AA,AA,by show _*4<=140737488355328;omega⟩,?_⟩;intro J (K:List UInt32) G;have ak:=G.1;have u:K=List.replicate J (0:el .u32):=G.2;have aj:K.length=J:=by rw[u,List.length_replicate]
 refine AW ?_;intro ag H;have an:=H.eq;have f14:=H.le;refine BI [] [0,1,5,6,13,14,15] [12] (fun vs bl k=>∃(o:List UInt32) (n C i':Nat) (c L i:Int),vs=[.one (.sl .u32 l),.one (.sl .u32 m),.one (.AU .u32 12 0 0 n),.one (.int .u64 c),.one (.sl .u32 l),AH L,AH i]/\bl=[.arr 0 .u32 o]/\(o.length=l.length/\n=o.length/\DX L l.length/\AR i i'/\i'<=l.length/\AR c C/\C<=1)/\AF (o.take i')+AF (m.take i')=AF (l.take i')+2^(32*i')*C/\k=l.length-i') (l.length-0) ⟨K,J,0,0,0,ag,0,rfl,rfl,⟨by rw[u,List.length_replicate];omega,by rw[u,List.length_replicate],H,BD 0,AA,BD 0,AA⟩,by simp[AF],rfl⟩ ?_;rintro J0 Z vs bl ay ⟨o,n,C,i',c,L,i,rfl,rfl,⟨ho,hn,hL,hi,av,hc,au⟩,hinv,aw⟩;conv=>cbv
 have eL:=hL.eq;have ei:=hi.eq;have ec:=hc.eq;refine BQ (fun ad=>?_) fun ad=>?_
 ·have A:n<=(o).length:=AA
  obtain⟨af,D⟩:=xN ((CR ((o).take n)).length);obtain⟨aa,I⟩:=FA A D;refine .inr (.inr (.inl ⟨[],.one (.AU .u32 0 0 0 af),.arr 0 .u32 o,fun _=>⟨by first | decide | simp[Cq,Ch],trivial⟩,fun _=>⟨Ea hE (Mc A AA D),rfl,rfl⟩,?_⟩));try conv=>cbv
  have hk:i'=l.length:=AA
  have a1:AF (o.take n)=a-b:=by rw[hk,Dv ab,Dv (Nat.le_refl _),hm,hl,BU,BU,<-hl,<-ho,List.take_length] at hinv;have ax:=C0 o;generalize 2^(32*o.length)=P at *;rw[hn,List.take_length];rcases (by omega:C=0\/C=1) with e | e <;> rw[e] at hinv <;> omega
  exact AN ⟨⟨rfl,.inl ⟨_,rfl,AA,congrArg _ (by rw[List.drop_zero,I,a1,hz])⟩,trivial⟩,trivial⟩
 refine .inr ?_;refine Ae i' fun a6 F=>?_
 refine AW ?_;intro aA S aB T;have ao:=S.eq;have f19:=S.lt;have T:=wrap_u64 T;intro aC U;conv=>cbv
 have U:=wrap_u64 U;refine AW ?_;rintro aD ⟨aq,f26⟩ ah V;refine .inr ?_;cases ah <;> conv=>cbv
 ·have ae:=EG V;intro M r;conv=>cbv
  have r:=wrap_u32 r;refine AK ?_;intro B a2;obtain⟨j,f⟩:=CX (n:=M) AA;have O:=f.eq;have Q:=f.lt;refine⟨j,fun _=>⟨by show _<List.length (α:=UInt32) o;(first | omega | (simp;omega)),CW f⟩,?_⟩;intro (g:List UInt32) (d:g=List.set (α:=UInt32) o B j);have R:g.length=o.length:=by rw[d,List.length_set]
  refine AK ?_;intro h t;have t:=Es (p:=9223372036854775808) t rfl;refine AK ?_;intro N a7;refine⟨l.length-(i'+1),?_,?_⟩
  ·omega
  rw[Z];refine⟨g,n,h.toNat,i'+1,h,L,N,rfl,rfl,⟨by rw[d,List.length_set];exact ho,by rw[d,List.length_set];exact hn,hL,⟨AA⟩,AA,⟨AA⟩,AA⟩,?_,rfl⟩;have hs:=L5 (w:=j) (o:=o) (i:=i') (xi:=a6.toNat) (yi:=0) (GQ:=C) (GR:=h.toNat) AA hinv AA;rw[d,(AA:B=i'),Cu F,<-hs,Dv (l:=m) (i:=i'+1) AA,Dv (l:=m) (i:=i') AA,Nat.mul_zero]
  rfl
 have ae:=EH V;refine Ae i' fun ai a5=>?_
 refine AW ?_;intro aE W aF X;have ar:=W.eq;have f32:=W.lt;have X:=wrap_u64 X;intro aG Y;conv=>cbv
 have Y:=wrap_u64 Y;intro M r;conv=>cbv
 have r:=wrap_u32 r;refine AK ?_;intro B a2;obtain⟨j,f⟩:=CX (n:=M) AA;have O:=f.eq;have Q:=f.lt;refine⟨j,fun _=>⟨by show _<List.length (α:=UInt32) o;(first | omega | (simp;omega)),CW f⟩,?_⟩;intro (g:List UInt32) (d:g=List.set (α:=UInt32) o B j);have R:g.length=o.length:=by rw[d,List.length_set]
 refine AK ?_;intro h t;have t:=Es (p:=9223372036854775808) t rfl;refine AK ?_;intro N a7;refine⟨l.length-(i'+1),?_,?_⟩
 ·omega
 rw[Z];refine⟨g,n,h.toNat,i'+1,h,L,N,rfl,rfl,⟨by rw[d,List.length_set];exact ho,by rw[d,List.length_set];exact hn,hL,⟨AA⟩,AA,⟨AA⟩,AA⟩,?_,rfl⟩;have hs:=L5 (w:=j) (o:=o) (i:=i') (xi:=a6.toNat) (yi:=ai.toNat) (GQ:=C) (GR:=h.toNat) AA hinv AA;rw[d,(AA:B=i'),Cu F,<-hs,Cu a5]
theorem rT (hl:l=AT a) (hm:m=AT b) (hz:z=AT (a*b)) (sl:l.length<=17592186044416) (sm:m.length<=17592186044416):CF 312 [.one (.sl .u32 l),.one (.sl .u32 m)] (.one (.sl .u32 z)):=by
 refine AM Tryz.func312 fun E hE=>?_
 rintro n12 ⟨e12,f12⟩ n13 h13;cases n13 <;> conv=>cbv
 ·have k13:=Bu h13;rintro n16 ⟨e16,f16⟩;conv=>cbv
  refine BS (fun k17=>?_) fun k17=>?_
  ·have h0:b=0:=E3.1 (by rw[<-hm];exact List.length_eq_zero_iff.1 AA);exact AN ⟨⟨rfl,.inr (.inl ⟨_,congrArg _ (by rw[hz,h0];rfl)⟩),trivial⟩,trivial⟩
  rintro n20 ⟨e20,f20⟩ n22 ⟨e22,f22⟩ n23 h23;refine⟨fun _=>⟨AA,AA,by show _*4<=140737488355328;omega⟩,?_⟩;intro k24 (l24:List UInt32) ql24;have hk24:=ql24.1;have hl24:l24=List.replicate k24 (0:el .u32):=ql24.2;have gl24:l24.length=k24:=by rw[hl24,List.length_replicate]
  refine AW ?_;intro n26 h26;have e26:=h26.eq;have f26:=h26.le;refine BI [] [0,1,5,25,26,27] [24] (fun vs bl k=>∃(o:List UInt32) (n i':Nat) (L i:Int),vs=[.one (.sl .u32 l),.one (.sl .u32 m),.one (.AU .u32 24 0 0 n),.one (.sl .u32 l),AH L,AH i]/\bl=[.arr 0 .u32 o]/\(o.length=l.length+m.length/\n=o.length/\DX L l.length/\AR i i'/\i'<=l.length)/\AF (o.take (i'+m.length))=AF (l.take i')*AF m/\k=l.length-i') (l.length-0) ⟨l24,k24,0,n26,0,rfl,rfl,⟨by rw[hl24,List.length_replicate];omega,by rw[hl24,List.length_replicate],h26,BD 0,AA⟩,by rw[hl24,List.take_replicate,Iv];simp[AF],rfl⟩ ?_;rintro J0 hJ0 vs bl kk0 ⟨o,n,i',L,i,rfl,rfl,⟨ho,hn,hL,hi,hiL⟩,hinv,hk0⟩;conv=>cbv
  have eL:=hL.eq;have ei:=hi.eq;refine BQ (fun k28=>?_) fun k28=>?_
  ·have hnl74:n<=(o).length:=AA
   obtain⟨m74,hm74⟩:=xN ((CR ((o).take n)).length);obtain⟨hle74,htk74⟩:=FA hnl74 hm74;refine .inr (.inr (.inl ⟨[],.one (.AU .u32 0 0 0 m74),.arr 0 .u32 o,fun _=>⟨by first | decide | simp[Cq,Ch],trivial⟩,fun _=>⟨Ea hE (Mc hnl74 AA hm74),rfl,rfl⟩,?_⟩));try conv=>cbv
   have hfin:AF (o.take n)=a*b:=by rw[(AA:i'=l.length),List.take_length,hl,hm,BU,BU,<-hl,<-hm,<-ho,List.take_length] at hinv;rw[hn,List.take_length,hinv]
   exact AN ⟨⟨rfl,.inl ⟨_,rfl,AA,congrArg _ (by rw[List.drop_zero,htk74,hfin,hz])⟩,trivial⟩,trivial⟩
  refine .inr ?_;refine Ae i' fun x30 hx30=>?_
  refine AW ?_;intro n31 h31 n33 h33;have e31:=h31.eq;have f31:=h31.lt;have e33:=h33.eq;have f33:=h33.le;refine BI [] [0,1,5,6,7,8,25,26,27,32,33,34] [24] (fun vs bl k=>∃(o1:List UInt32) (n1 c' k':Nat) (c L1 i1:Int),vs=[.one (.sl .u32 l),.one (.sl .u32 m),.one (.AU .u32 24 0 0 n1),AH i,.one (.int .u32 n31),.one (.int .u64 c),.one (.sl .u32 l),AH L,AH i,.one (.sl .u32 m),AH L1,AH i1]/\bl=[.arr 0 .u32 o1]/\(o1.length=l.length+m.length/\n1=o1.length/\DX L1 m.length/\AR i1 k'/\k'<=m.length/\AR c c'/\c'<4294967296)/\AF (o1.take (i'+m.length))+2^(32*(i'+k'))*c'=AF (l.take i')*AF m+x30.toNat*2^(32*i')*AF (m.take k')/\k=m.length-k') (m.length-0) ⟨o,n,0,0,0,n33,0,rfl,rfl,⟨ho,hn,h33,BD 0,AA,BD 0,AA⟩,by rw[hinv];simp[AF],rfl⟩ ?_;rintro J1 hJ1 vs bl kk1 ⟨o1,n1,c',k',c,L1,i1,rfl,rfl,⟨ho1,hn1,hL1,hi1,hiL1,hc,hc1⟩,hinv1,hk1⟩
  conv=>cbv
  have eL1:=hL1.eq;have ei1:=hi1.eq;have ec:=hc.eq;refine BQ (fun k35=>?_) fun k35=>?_
  ·rintro n67 ⟨e67,f67⟩ n68 h68 n70 h70;have h70:=wrap_u32 h70;refine AK ?_;intro j71 hj71;obtain⟨w71,hw71⟩:=CX (n:=n70) AA;have ew71:=hw71.eq;have fw71:=hw71.lt;refine⟨w71,fun _=>⟨by show _<List.length (α:=UInt32) o1;(first | omega | (simp;omega)),CW hw71⟩,?_⟩;intro (l71:List UInt32) (hl71:l71=List.set (α:=UInt32) o1 j71 w71);have gl71:l71.length=o1.length:=by rw[hl71,List.length_set]
   refine AK ?_;intro n72 h72;refine⟨l.length-(i'+1),?_,?_⟩
   ·omega
   rw[hJ0];refine⟨l71,n1,i'+1,L,n72,rfl,rfl,⟨by rw[hl71,List.length_set];exact ho1,by rw[hl71,List.length_set];exact hn1,hL,⟨AA⟩,AA⟩,?_,rfl⟩;have hk:k'=m.length:=AA
   have hlen:i'+m.length<o1.length:=AA
   rw[hl71,(AA:i'+1+m.length=i'+m.length+1),(AA:j71=i'+m.length),FZ hlen,Ei,List.length_take,Nat.min_eq_left AA,(AA:w71.toNat=c')];rw[hk] at hinv1;rw[hinv1,List.take_length,Cu hx30]
   grind
  refine .inr ?_;refine Ae k' fun x37 hx37=>?_
  refine AW ?_;intro n38 h38 n41 h41;have e38:=h38.eq;have f38:=h38.lt;have h41:=wrap_u64 h41;intro n43 h43;conv=>cbv
  have h43:=wrap_u64 h43;have ep:n41*n43=((x30.toNat*x37.toNat:Nat):Int):=by rw[Int.natCast_mul];congr 1 <;> omega
  have bp:x30.toNat*x37.toNat<=4294967295*4294967295:=Nat.mul_le_mul AA AA;intro n44 h44;conv=>cbv
  have h44:=wrap_u64 h44;refine AK ?_;intro n48 h48 j49 hj49;obtain⟨x50,hx50⟩:=Bj (l:=o1) (i:=j49) AA;refine⟨x50,fun _=>hx50,?_⟩;refine AW ?_;intro n50 h50 Du h51;have e50:=h50.eq;have f50:=h50.lt;have h51:=wrap_u64 h51;intro n52 h52;conv=>cbv
  have h52:=wrap_u64 h52;intro Dr h53;conv=>cbv
  have h53:=wrap_u64 h53;refine AK ?_;intro n57 h57 n59 h59;have h59:=wrap_u32 h59;refine AK ?_;intro j60 hj60;obtain⟨w60,hw60⟩:=CX (n:=n59) AA;have ew60:=hw60.eq;have fw60:=hw60.lt;refine⟨w60,fun _=>⟨by show _<List.length (α:=UInt32) o1;(first | omega | (simp;omega)),CW hw60⟩,?_⟩;intro (l60:List UInt32) (hl60:l60=List.set (α:=UInt32) o1 j60 w60);have gl60:l60.length=o1.length:=by rw[hl60,List.length_set]
  refine AK ?_;intro n62 h62;have h62:=Es (p:=4294967296) h62 rfl;refine AK ?_;intro n63 h63;refine⟨m.length-(k'+1),?_,?_⟩
  ·omega
  rw[hJ1];refine⟨l60,n1,n62.toNat,k'+1,n62,L1,n63,rfl,rfl,⟨by rw[hl60,List.length_set];exact ho1,by rw[hl60,List.length_set];exact hn1,hL1,⟨AA⟩,AA,⟨AA⟩,AA⟩,?_,rfl⟩;have hj:j60=i'+k':=AA
  have hj2:j49=i'+k':=AA
  rw[hj2] at hx50;rw[hl60,hj,Cu hx37,(AA:i'+(k'+1)=i'+k'+1)];refine VT (q:=x50) (xi:=x30.toNat) (yk:=x37.toNat) (old:=x50.toNat) (c:=c') rfl AA hx50 rfl hinv1 ?_ rfl;rw[ep] at h44;omega
 have k13:=Bv h13;have h0:a=0:=E3.1 (by rw[<-hl];exact List.length_eq_zero_iff.1 (by have k13:=Bv h13;omega));exact AN ⟨⟨rfl,.inr (.inl ⟨_,congrArg _ (by rw[hz,h0,Nat.zero_mul];rfl)⟩),trivial⟩,trivial⟩
end
section
variable {b b1 b2 b3 c:Bool} {l l1 l2 l3 z:List UInt32} {x y:Int}
theorem r1 {i:Nat} {x:UInt32} {n:Int} (g:l[i]? =some x) (h:i+1=l.length) (f:n=x.toNat):F7 b l=(n !=0):=by
 have d:l.getLast? =some x:=by rw[List.getLast?_eq_getElem?,<-g];congr 1;omega
 unfold F7;rw[d,f]
 show (x !=0)=_
 rw[Bool.eq_iff_iff];simp only[bne_iff_ne,ne_eq];rw[<-UInt32.toNat_inj]
 show ¬x.toNat=0↔_
 omega
theorem gA (B:x=if b=true then -(AF l:Int) else AF l) (A:l.length<=17592186044416) (u:BB x c z):CF 268 [.agg (BZ b l)] (.agg (BZ c z)):=by
 refine AM Tryz.func268 fun E h=>?_
 obtain⟨C,d⟩:=xU (AT (AF l));refine AB h (FM rfl d) ?_;obtain⟨D,g⟩:=xU C;refine AB (r:= .one (.sl .u32 D)) h (LG g (by rw[d,<-Ma];exact Nat.le_trans (RD l) A)) ?_;obtain⟨j,t,f⟩:=Av (x);refine AB (r:= .agg [.bool j,.sl .u32 t]) h (Fp (by rw[g,d,BU];exact B) f) ?_;exact Dk ((f.uniq u rfl).1.symm) ((f.uniq u rfl).2.symm)
theorem WC (u:BB x b l) (C:l.length<=17592186044416) (A:BB (-x) c z):CF 257 [.agg (BZ b l)] (.agg (BZ c z)):=by
 refine AM Tryz.func257 fun E t=>?_
 intro G B;obtain⟨D,f⟩:=xU (AT (AF l));refine AB t (FM rfl f) ?_;have t8:D=l:=by rw[f];exact u.trim
 obtain⟨F,g⟩:=xU l;refine AB (r:= .one (.sl .u32 F)) t (LG (g.trans t8.symm) (by rw[t8];exact C)) ?_;obtain⟨h,j,d⟩:=Av (-x);refine AB (r:= .agg [.bool h,.sl .u32 j]) t (Fp (by rw[g,B];exact dK u.Ep) d) ?_;exact Dk ((d.uniq A rfl).1.symm) ((d.uniq A rfl).2.symm)
theorem gR {c:Int} (r:x=if b=true then -(AF l:Int) else AF l) (j:c=Cd x):CF 252 [.agg (BZ b l)] (AH c):=by
 refine AM Tryz.func252 fun E t=>?_
 refine .inr ?_;obtain⟨C,d⟩:=xU (AT (AF l));refine AB t (FM rfl d) ?_;rintro B ⟨f,f7⟩ A h;cases A <;> conv=>cbv
 ·have u:=Bu h;cases b <;> conv=>cbv
  ·have g:AF l≠0:=fun e=>by rw[d,e] at f;exact (Bu h) f
   exact AL (by rw[j,Qy r g];rfl)
  have g:AF l≠0:=fun e=>by rw[d,e] at f;exact (Bu h) f
  exact AL (by rw[j,Qy r g];rfl)
 have u:=Bv h;have g:AF l=0:=by rw[d] at f;exact E3.1 (List.length_eq_zero_iff.1 AA)
 exact AL (by rw[j,r,g];unfold Cd;simp)
theorem Mx {c:Int} (f:BB x b l) (d:c=Cd x):CF 252 [.agg (BZ b l)] (AH c):=gR f.Ep d
theorem WE (f:BB x b l) (d:l.length<=17592186044416) (g:BB x c z):CF 268 [.agg (BZ b l)] (.agg (BZ c z)):=gA f.Ep d g
theorem Vw {c:Int} (B:BB x b1 l1) (C:BB y b2 l2) (H:c=Bp x y):CF 307 [.agg (BZ b1 l1),.agg (BZ b2 l2)] (AH c):=by
 refine AM Tryz.func307 fun E u=>?_
 obtain⟨L,f⟩:=xI (Cd x);refine AB u (Mx B f) ?_;obtain⟨D,d⟩:=xI (Cd y);refine AB u (Mx C d) ?_;refine Gn (fun t=>?_) fun t=>?_
 ·obtain⟨J,h⟩:=xI (Bp L D);refine AB u (Vx h) ?_;exact AL (by rw[H,h,f,d];exact kA (by rw[<-f,<-d];exact t))
 obtain⟨F,j⟩:=xU (AT (AF l1));refine AB u (FM rfl j) ?_;have t20:F=l1:=by rw[j];exact B.trim
 obtain⟨G,r⟩:=xU (AT (AF l2));refine AB u (FM rfl r) ?_;have t23:G=l2:=by rw[r];exact C.trim
 obtain⟨K,g⟩:=xI (Bp x.natAbs y.natAbs);refine AB u (PS (t20.trans B.Bb) (t23.trans C.Bb) g) ?_;intro I A;refine⟨fun _=>by rw[A,f,g];exact qX _ _ _,?_⟩;refine g2 rfl ?_;exact AL (by rw[H,A,f,g];exact kB (by rw[<-f,<-d];exact t))
theorem RX (F:BB x b1 l1) (G:BB y b2 l2) (H:BB (x+y) b3 l3) (s1:l1.length<=17592186044416) (s2:l2.length<=17592186044416):CF 287 [.agg (BZ b1 l1),.agg (BZ b2 l2)] (.agg (BZ b3 l3)):=by
 refine AM Tryz.func287 fun E t=>?_
 obtain⟨W,J⟩:=xU (AT (AF l1));refine AB t (FM rfl J) ?_;have t9:W=l1:=by rw[J];exact F.trim
 obtain⟨R,A⟩:=xU (AT (AF l2));refine AB t (FM rfl A) ?_;have t12:R=l2:=by rw[A];exact G.trim
 refine AK ?_;intro Q I;cases Q <;> conv=>cbv
 ·have u:=SM I;obtain⟨V,f⟩:=xI (Bp x.natAbs y.natAbs);refine AB t (PS (t9.trans F.Bb) (t12.trans G.Bb) f) ?_;refine BQ (fun d=>?_) fun d=>?_
  ·obtain⟨U,D⟩:=xU (AT (x.natAbs-y.natAbs));refine AB (r:= .one (.sl .u32 U)) t (Tv (t9.trans F.Bb) (t12.trans G.Bb) D (by rw[f] at d;have:=JP d;omega) (by rw[t9];exact s1)) ?_;obtain⟨M,P,j⟩:=Av (x+y);refine AB (r:= .agg [.bool M,.sl .u32 P]) t (Fp (by rw[D,BU,Int.add_comm];rw[f] at d;exact Ox G.neg F.neg (Ne.symm u) (by have:=JP d;omega)) j) ?_;exact Dk ((j.uniq H rfl).1.symm) ((j.uniq H rfl).2.symm)
  obtain⟨T,C⟩:=xU (AT (y.natAbs-x.natAbs));refine AB (r:= .one (.sl .u32 T)) t (Tv (t12.trans G.Bb) (t9.trans F.Bb) C (by rw[f] at d;have:=JQ d;omega) (by rw[t12];exact s2)) ?_;obtain⟨L,O,h⟩:=Av (x+y);refine AB (r:= .agg [.bool L,.sl .u32 O]) t (Fp (by rw[C,BU];rw[f] at d;exact Ox F.neg G.neg u (by have:=JQ d;omega)) h) ?_;exact Dk ((h.uniq H rfl).1.symm) ((h.uniq H rfl).2.symm)
 have u:=SN I;obtain⟨S,B⟩:=xU (AT (x.natAbs+y.natAbs));refine AB (r:= .one (.sl .u32 S)) t (bB (t9.trans F.Bb) (t12.trans G.Bb) B (by rw[t9];exact s1) (by rw[t12];exact s2)) ?_;obtain⟨K,N,g⟩:=Av (x+y);refine AB (r:= .agg [.bool K,.sl .u32 N]) t (Fp (by rw[B,BU];exact add_same F.neg (u.trans G.neg)) g) ?_;exact Dk ((g.uniq H rfl).1.symm) ((g.uniq H rfl).2.symm)
theorem Fu (A:BB x b1 l1) (B:BB y b2 l2) (G:BB (x*y) b3 l3) (s1:l1.length<=17592186044416) (s2:l2.length<=17592186044416):CF 288 [.agg (BZ b1 l1),.agg (BZ b2 l2)] (.agg (BZ b3 l3)):=by
 refine AM Tryz.func288 fun E u=>?_
 intro I H;obtain⟨C,f⟩:=xU (AT (AF l1));refine AB u (FM rfl f) ?_;have t12:C=l1:=by rw[f];exact A.trim
 obtain⟨D,g⟩:=xU (AT (AF l2));refine AB u (FM rfl g) ?_;have t15:D=l2:=by rw[g];exact B.trim
 obtain⟨F,h⟩:=xU (AT (x.natAbs*y.natAbs));refine AB (r:= .one (.sl .u32 F)) u (rT (t12.trans A.Bb) (t15.trans B.Bb) h (by rw[t12];exact s1) (by rw[t15];exact s2)) ?_;obtain⟨j,t,d⟩:=Av (x*y);refine AB (r:= .agg [.bool j,.sl .u32 t]) u (Fp (by rw[h,BU,H];exact Z2 A.neg B.neg) d) ?_;exact Dk ((d.uniq G rfl).1.symm) ((d.uniq G rfl).2.symm)
theorem WT (A:c=F7 b l):CF 293 [.agg (BZ b l)] (.one (.bool c)):=by
 refine AM Tryz.func293 fun E H=>?_
 rintro I ⟨G,f6⟩;refine CN (fun F=>?_) fun F=>?_
 ·refine FC (fun h=>?_) fun h=>?_
  ·exfalso;omega
  intro j u;refine Ae ((j).toNat) fun D f=>?_
  refine AW ?_;intro B d C t;have r:=d.eq;have f23:=d.lt;exact AL (by rw[A,t];exact r1 f AA r)
 refine G5 (fun g=>?_) fun g=>?_
 ·exact AL (by rw[A,List.eq_nil_of_length_eq_zero (by omega:l.length=0),g];rfl)
 refine FC (fun h=>?_) fun h=>?_
 ·exact AL (by rw[A,List.eq_nil_of_length_eq_zero (by omega:l.length=0),g];rfl)
 intro j u;refine Ae ((j).toNat) fun D f=>?_
 refine AW ?_;intro B d C t;have r:=d.eq;have f23:=d.lt
 exfalso;omega
end
section
variable {a b n:Int} {e p q:Nat}
theorem VC (h:n=IntKind.u64.wrap (a*2^min b.toNat IntKind.u64.bits)) (ha:a=p) (hb:b=e) (he:e<=64:=by omega):n=((p*2^e%18446744073709551616:Nat):Int):=by
 have d:min b.toNat IntKind.u64.bits=e:=by rw[hb];show min e 64=e;omega
 have f:=wrap_u64 h;rw[f,d,ha];simp
theorem VB (h:n=IntKind.u32.wrap (a*2^min b.toNat IntKind.u32.bits)) (ha:a=p) (hb:b=e) (he:e<=32:=by omega):n=((p*2^e%4294967296:Nat):Int):=by
 have d:min b.toNat IntKind.u32.bits=e:=by rw[hb];show min e 32=e;omega
 have f:=wrap_u32 h;rw[f,d,ha];simp
theorem shr_var {m:Nat} (h:n=a.fdiv (2^min b.toNat m)) (ha:a=p) (hb:b=e) (he:e<=m):n=((p/2^e:Nat):Int):=by
 have d:min b.toNat m=e:=by rw[hb];simp;omega
 rw[h,d,ha,Int.fdiv_eq_ediv_of_nonneg _ (by have:=Int.pow_pos (n:=2) (m:=e) AE;omega)];simp
theorem Qc (h:n=IntKind.u32.wrap (BitVec.ofInt IntKind.u32.bits a ||| BitVec.ofInt IntKind.u32.bits b).toNat) (ha:a=p) (hb:b=q) (f:p<4294967296) (g:q<4294967296):n=((p ||| q:Nat):Int):=by
 have d:=wrap_u32 h;rw[d,ha,hb]
 have e1:(BitVec.ofInt IntKind.u32.bits (p:Int) ||| BitVec.ofInt IntKind.u32.bits (q:Int)).toNat=p ||| q:=by
  rw[BitVec.toNat_or,BitVec.toNat_ofInt,BitVec.toNat_ofInt]
  show ((p:Int)%4294967296).toNat ||| ((q:Int)%4294967296).toNat=_
  congr 1 <;> omega
 rw[e1];have:p ||| q<2^32:=Nat.or_lt_two_pow f g
 omega
theorem ak (h:n=IntKind.u64.wrap (BitVec.ofInt IntKind.u64.bits a ||| BitVec.ofInt IntKind.u64.bits b).toNat) (ha:a=p) (hb:b=q) (f:p<18446744073709551616) (g:q<18446744073709551616):n=((p ||| q:Nat):Int):=by
 have d:=wrap_u64 h;rw[d,ha,hb]
 have e1:(BitVec.ofInt IntKind.u64.bits (p:Int) ||| BitVec.ofInt IntKind.u64.bits (q:Int)).toNat=p ||| q:=by
  rw[BitVec.toNat_or,BitVec.toNat_ofInt,BitVec.toNat_ofInt]
  show ((p:Int)%18446744073709551616).toNat ||| ((q:Int)%18446744073709551616).toNat=_
  congr 1 <;> omega
 rw[e1];have:p ||| q<2^64:=Nat.or_lt_two_pow f g
 omega
theorem Ko (h:n=IntKind.u64.wrap (BitVec.ofInt IntKind.u64.bits a ||| BitVec.ofInt IntKind.u64.bits b).toNat) (ha:a=((p*4294967296:Nat):Int)) (hb:b=q) (g:p<4294967296) (f:q<4294967296):n=((q+4294967296*p:Nat):Int):=by
 rw[ak h ha hb AA AA,Nat.or_comm,Nat.mul_comm];have:=MG (a:=q) (b:=p) (d:=32) f;exact congrArg _ this
end
section
variable {l z:List UInt32} {n zn:Nat} {s:Int}
theorem dN (hs:AR s n) (hn:n<=31) (aO:z.length=l.length) (ah:AF z=AF l/2^n) (aP:zn=z.length) (sl:l.length<=17592186044416):CF 326 [.one (.sl .u32 l),AH s] (.one (.own .u32 z zn)):=by
 have es:=hs.eq;refine AM Tryz.func326 fun E hE=>?_
 rintro n9 ⟨e9,f9⟩;refine⟨fun _=>⟨AA,AA,by show _*4<=140737488355328;omega⟩,?_⟩;intro M (N:List UInt32) H;have aD:=H.1;have u:N=List.replicate M (0:el .u32):=H.2;have ax:N.length=M:=by rw[u,List.length_replicate]
 refine AW ?_;intro ak I;have aF:=I.eq;have f12:=I.le;refine BI [] [0,1,5,11,12,13] [10] (fun vs bl k=>∃(o:List UInt32) (m i':Nat) (L i:Int),vs=[.one (.sl .u32 l),AH s,.one (.AU .u32 10 0 0 m),.one (.sl .u32 l),AH L,AH i]/\bl=[.arr 0 .u32 o]/\(o.length=l.length/\m=o.length/\DX L l.length/\AR i i'/\i'<=l.length)/\AF (o.take i')=AF l/2^n%2^(32*i')/\k=l.length-i') (l.length-0) ⟨N,M,0,ak,0,rfl,rfl,⟨by rw[u,List.length_replicate];omega,by rw[u,List.length_replicate],I,BD 0,AA⟩,by simp[AF,Nat.mod_one],rfl⟩ ?_;rintro J0 a1 vs bl aQ ⟨o,m,i',L,i,rfl,rfl,⟨ho,hm,hL,hi,aM⟩,hinv,aN⟩;conv=>cbv
 have eL:=hL.eq;have ei:=hi.eq;refine BQ (fun ai=>?_) fun ai=>?_
 ·have hk:i'=l.length:=AA
  have a5:AF o=AF l/2^n:=by rw[hk,<-ho,List.take_length,ho] at hinv;rw[hinv];exact Nat.mod_eq_of_lt (Nat.lt_of_le_of_lt (Nat.div_le_self _ _) (C0 l))
  exact AN ⟨⟨rfl,.inr (.inl ⟨_,_,AE,rfl,rfl,hm,rfl,C3 (Ny AA (by rw[ah,a5])) AA⟩),trivial⟩,trivial⟩
 refine .inr ?_;refine Ae i' fun t G=>?_
 refine AK ?_;intro aR T ab U;have aG:=T.eq;have f17:=T.lt;obtain⟨aq,g,U⟩:∃q:Nat,q=t.toNat/2^n/\ab=q:=⟨_,rfl,shr_var U AA AA (by show n<=32;omega)⟩
 have aE:aq<=t.toNat:=by rw[g];exact Nat.div_le_self _ _
 refine AK ?_;intro D aA;obtain⟨F,A⟩:=CX (n:=ab) AA;have ar:=A.eq;have av:=A.lt;refine⟨F,fun _=>⟨by show _<List.length (α:=UInt32) o;(first | omega | (simp;omega)),CW A⟩,?_⟩;intro (h:List UInt32) (d:h=List.set (α:=UInt32) o D F);have ay:h.length=o.length:=by rw[d,List.length_set]
 refine AK ?_;rintro aS aJ aT ⟨aH,f27⟩ al V;refine .inr ?_;cases al <;> conv=>cbv
 ·have aj:=EG V;refine AK ?_;intro R af;refine⟨l.length-(i'+1),?_,?_⟩
  ·omega
  rw[a1]
  have ew:(F.toNat)=t.toNat/2^n+0*2^(32-n)%4294967296:=by
   rw[Nat.zero_mul,<-g];omega
  refine⟨h,m,i'+1,L,R,rfl,rfl,⟨by rw[d,List.length_set];exact ho,by rw[d,List.length_set];exact hm,hL,⟨AA⟩,AA⟩,?_,rfl⟩;rw[d,(AA:D=i'),FZ AA,Ei,List.length_take,Nat.min_eq_left AA,hinv,RE,ew];rw[Nat.div_div_eq_div_mul,Nat.mul_comm (2^n),<-Nat.div_div_eq_div_mul,Pc (by omega:i'<=l.length),EC G,List.drop_eq_nil_of_le (by omega:l.length<=i'+1)];rw[<-dP (y:=0) (r:=0) AA hn];simp[AF]
 have aj:=EH V;refine AK ?_;intro a8 aB;obtain⟨ad,C⟩:=Bj (l:=h) (i:=a8) AA;refine⟨ad,fun _=>C,?_⟩;refine AK ?_;intro aU W aV aK;have ae:=W.eq;have f32:=W.lt;refine Ae ((i'+1)) fun f a7=>?_
 refine AW ?_;intro aW X aX Y;have aI:=X.eq;have f37:=X.lt;have Y:=wrap_u64 Y;refine AK ?_;intro aY aL an J;obtain⟨aZ,a6,J⟩:∃q:Nat,q=f.toNat*2^(32-n)%18446744073709551616/\an=q:=⟨_,rfl,VC J AA AA⟩
 intro ao K;conv=>cbv
 have K:=wrap_u32 K;intro P Z;conv=>cbv
 have bo:0<=P/\P<4294967296:=by rw[wrap_u32 Z];omega
 have ex:ad=F:=by rw[d,(AA:a8=D),List.getElem?_set_self AA] at C;exact (Option.some.inj C).symm
 refine AK ?_;intro aa aC;obtain⟨S,B⟩:=CX (n:=P) AA;have au:=B.eq;have aw:=B.lt;refine⟨S,fun _=>⟨by show _<List.length (α:=UInt32) h;(first | omega | (simp;omega)),CW B⟩,?_⟩;intro (O:List UInt32) (j:O=List.set (α:=UInt32) h aa S);have az:O.length=h.length:=by rw[j,List.length_set]
 refine AK ?_;intro R af;refine⟨l.length-(i'+1),?_,?_⟩
 ·omega
 rw[a1]
 have ew:(S.toNat)=t.toNat/2^n+f.toNat*2^(32-n)%4294967296:=by
  have hq:2^n*2^(32-n)=4294967296:=by rw[<-Nat.pow_add,(AA:n+(32-n)=32)]
  have ag:t.toNat/2^n<2^(32-n):=Nat.div_lt_of_lt_mul (by rw[hq];omega);have a2:f.toNat*2^(32-n)%4294967296=2^(32-n)*(f.toNat%2^n):=by rw[<-hq,Nat.mul_comm f.toNat,Nat.mul_comm (2^n),Nat.mul_mod_mul_left]
  have h5:ao=((f.toNat*2^(32-n)%4294967296:Nat):Int):=by rw[K,J,a6];generalize f.toNat*2^(32-n)=Q;omega
  have h6:=Qc Z (p:=t.toNat/2^n) (q:=f.toNat*2^(32-n)%4294967296) (by rw[ae,ex,<-g];omega) h5 (by rw[<-g];omega) AA;rw[a2,MG ag,<-a2,<-g] at h6;rw[<-g]
  generalize f.toNat*2^(32-n)%4294967296=Q at*
  omega
 refine⟨O,m,i'+1,L,R,rfl,rfl,⟨by rw[j,d,List.length_set,List.length_set];exact ho,by rw[j,d,List.length_set,List.length_set];exact hm,hL,⟨AA⟩,AA⟩,?_,rfl⟩;rw[j,(AA:aa=i'),FZ (by rw[d,List.length_set];omega),d,(AA:D=i'),IQ (Nat.le_refl _),Ei,List.length_take,Nat.min_eq_left AA,hinv,RE,ew];rw[Nat.div_div_eq_div_mul,Nat.mul_comm (2^n),<-Nat.div_div_eq_div_mul,Pc (by omega:i'<=l.length),EC G,EC (show l[i'+1]? =some f from a7)];rw[dP AA hn]
theorem dM (hs:AR s n) (hn:n<=31) (aG:z.length=l.length+1) (ad:AF z=AF l*2^n) (aH:zn=z.length) (sl:l.length<=17592186044416):CF 323 [.one (.sl .u32 l),AH s] (.one (.own .u32 z zn)):=by
 have es:=hs.eq;refine AM Tryz.func323 fun E hE=>?_
 rintro aJ ⟨ay,f10⟩ aK aB;refine⟨fun _=>⟨AA,AA,by show _*4<=140737488355328;omega⟩,?_⟩;intro H (I:List UInt32) D;have ax:=D.1;have f:I=List.replicate H (0:el .u32):=D.2;have ao:I.length=H:=by rw[f,List.length_replicate]
 refine AW ?_;intro af F;have az:=F.eq;have f14:=F.le;refine BI [] [0,1,5,13,14,15] [12] (fun vs bl k=>∃(o:List UInt32) (c:UInt32) (m i':Nat) (L i:Int),vs=[.one (.sl .u32 l),AH s,.one (.AU .u32 12 0 0 m),.one (.sl .u32 l),AH L,AH i]/\bl=[.arr 0 .u32 o]/\(o.length=l.length+1/\m=o.length/\DX L l.length/\AR i i'/\i'<=l.length)/\(o[i']? =some c/\c.toNat<2^n)/\AF (o.take i')+2^(32*i')*c.toNat=AF (l.take i')*2^n/\k=l.length-i') (l.length-0) ⟨I,0,H,0,af,0,rfl,rfl,⟨by rw[f,List.length_replicate];omega,by rw[f,List.length_replicate],F,BD 0,AA⟩,⟨by rw[f,List.getElem?_replicate,if_pos AA],Nat.two_pow_pos n⟩,by simp[AF],rfl⟩ ?_;rintro J0 a8 vs bl aI ⟨o,c,m,i',L,i,rfl,rfl,⟨ho,hm,hL,hi,aE⟩,⟨hc,aa⟩,hinv,aF⟩;conv=>cbv
 have eL:=hL.eq;have ei:=hi.eq;refine BQ (fun ae=>?_) fun ae=>?_
 ·have hk:i'=l.length:=AA
  have X:AF o=AF l*2^n:=by rw[hk,List.take_length,<-Cu (l:=o) (by rw[<-hk];exact hc),List.take_of_length_le AA] at hinv;exact hinv
  exact AN ⟨⟨rfl,.inr (.inl ⟨_,_,AE,rfl,rfl,hm,rfl,C3 (Ny AA (by rw[ad,X])) AA⟩),trivial⟩,trivial⟩
 refine .inr ?_;refine Ae i' fun d Z=>?_
 refine AW ?_;intro aL O aM Q;have aA:=O.eq;have f19:=O.lt;have Q:=wrap_u64 Q;refine AK ?_;intro ag R;have a6:d.toNat*2^n<9223372036854775808:=Nat.mul_lt_mul_of_lt_of_le (by omega:d.toNat<4294967296) (Nat.pow_le_pow_right AE hn:2^n<=2^31) AE;obtain⟨M,g,R⟩:∃q:Nat,q=d.toNat*2^n/\ag=q:=⟨_,rfl,(VC (p:=d.toNat) (e:=n) R AA AA).trans (by congr 1;exact Nat.mod_eq_of_lt AA)⟩
 rw[<-g] at a6;refine AK ?_;intro a1 au;obtain⟨a5,u⟩:=Bj (l:=o) (i:=a1) AA;refine⟨a5,fun _=>u,?_⟩;refine AW ?_;intro aN S aO T;have a7:=S.eq;have f27:=S.lt;have T:=wrap_u32 T;intro K U;conv=>cbv
 have bo:0<=K/\K<4294967296:=by rw[wrap_u32 U];omega
 refine AK ?_;intro a2 av;obtain⟨B,r⟩:=CX (n:=K) AA;have aj:=r.eq;have al:=r.lt;refine⟨B,fun _=>⟨by show _<List.length (α:=UInt32) o;(first | omega | (simp;omega)),CW r⟩,?_⟩;intro (A:List UInt32) (C:A=List.set (α:=UInt32) o a2 B);have aq:A.length=o.length:=by rw[C,List.length_set]
 refine AK ?_;intro aP aC aQ V;have V:=Es (p:=4294967296) V rfl;intro ah W;conv=>cbv
 have W:=wrap_u32 W;refine AK ?_;intro G aw;obtain⟨h,t⟩:=CX (n:=ah) AA;have ak:=t.eq;have an:=t.lt;refine⟨h,fun _=>⟨by show _<List.length (α:=UInt32) A;(first | omega | (simp;omega)),CW t⟩,?_⟩;intro (J:List UInt32) (j:J=List.set (α:=UInt32) A G h);have ar:J.length=A.length:=by rw[j,List.length_set]
 refine AK ?_;intro ai aD;refine⟨l.length-(i'+1),?_,?_⟩
 ·omega
 rw[a8];have hq:2^n*2^(32-n)=4294967296:=by rw[<-Nat.pow_add,(AA:n+(32-n)=32)]
 have ec:a5=c:=by rw[(AA:a1=i'),hc] at u;exact (Option.some.inj u).symm
 have Y:M%4294967296=2^n*(d.toNat%2^(32-n)):=by rw[g,Nat.mul_comm d.toNat,<-hq,Nat.mul_mod_mul_left]
 have h6:=Qc U (p:=c.toNat) (q:=M%4294967296) (by rw[a7,ec]) AA (by have:=c.toNat_lt;omega) AA;rw[Y,MG aa,<-Y] at h6
 have ab:h.toNat<2^n:=by
  have:M/4294967296<2^n:=Nat.div_lt_of_lt_mul (by rw[g];exact (Nat.mul_lt_mul_right (Nat.two_pow_pos n)).2 AA);omega
 refine⟨J,h,m,i'+1,L,ai,rfl,rfl,⟨AA,AA,hL,⟨AA⟩,AA⟩,⟨by rw[j,(AA:G=i'+1),List.getElem?_set_self AA],ab⟩,?_,rfl⟩;rw[j,(AA:G=i'+1),IQ (Nat.le_refl _),C,(AA:a2=i'),FZ AA,Ei,List.length_take,Nat.min_eq_left AA,Cu Z,EX,Nat.add_mul,<-hinv];have e1:B.toNat+4294967296*h.toNat=c.toNat+d.toNat*2^n:=by rw[<-g];omega
 have e2:2^(32*i')*(B.toNat+4294967296*h.toNat)=2^(32*i')*(c.toNat+d.toNat*2^n):=by rw[e1]
 generalize 2^(32*i')=P at*
 generalize 2^n=N at*
 grind
theorem kl {z1 z2:List UInt32} {d:Int} {b:Nat} (hd:AR d b) (hb:0<b) (aB:b<4294967296) (a8:z1=AT (AF l/b)) (aa:z2=AT (AF l%b)) (sl:l.length<=17592186044416):CF 321 [.one (.sl .u32 l),.one (.int .u32 d)] (.Aj [(false,[.sl .u32 z1]),(false,[.sl .u32 z2])]):=by
 have ed:=hd.eq;refine AM Tryz.func321 fun E hE=>?_
 rintro aG ⟨aw,f10⟩;refine⟨fun _=>⟨AA,AA,by show _*4<=140737488355328;omega⟩,?_⟩;intro O (P:List UInt32) I;have av:=I.1;have h:P=List.replicate O (0:el .u32):=I.2;have aq:P.length=O:=by rw[h,List.length_replicate]
 refine AK ?_;rintro aH ⟨ax,f13⟩ ae az;refine BI [] [0,1,6,7,8] [11] (fun vs bl k=>∃(o:List UInt32) (m g C:Nat) (r j:Int),vs=[.one (.sl .u32 l),.one (.int .u32 d),.one (.AU .u32 11 0 0 m),.one (.int .u64 r),AH j]/\bl=[.arr 0 .u32 o]/\(o.length=l.length/\m=o.length/\AR (j+1) C/\C<=l.length/\AR r g/\g<b)/\AF (l.drop C)=AF (o.drop C)*b+g/\k=C) l.length ⟨P,O,0,l.length,0,ae,rfl,rfl,⟨by rw[h,List.length_replicate];omega,by rw[h,List.length_replicate],⟨AA⟩,AA,BD 0,hb⟩,by rw[List.drop_length,List.drop_eq_nil_of_le (by rw[h,List.length_replicate];omega)];simp[AF],rfl⟩ ?_;rintro J0 a5 vs bl aF ⟨o,m,g,C,r,j,rfl,rfl,⟨ho,hm,hj,aC,hr,M⟩,hinv,aD⟩;conv=>cbv
 have ej:=hj.eq;have er:=hr.eq;refine I9 (fun ab=>?_) fun ab=>?_
 ·have t:m<=(o).length:=AA
  obtain⟨ad,G⟩:=xN ((CR ((o).take m)).length);obtain⟨a6,N⟩:=FA t G;refine .inr (.inr (.inl ⟨[],.one (.AU .u32 0 0 0 ad),.arr 0 .u32 o,fun _=>⟨by first | decide | simp[Cq,Ch],trivial⟩,fun _=>⟨Ea hE (Mc t AA G),rfl,rfl⟩,?_⟩));try conv=>cbv
  obtain⟨aL,H⟩:=xU (AT g);refine AB hE (Lp hr AA H) ?_;have hk:C=0:=AA
  rw[hk,List.drop_zero,List.drop_zero] at hinv;have hq:AF o=AF l/b:=by rw[hinv,Nat.add_comm,Nat.add_mul_div_right _ _ hb,Nat.div_eq_of_lt M,Nat.zero_add]
  have a7:g=AF l%b:=by rw[hinv,Nat.add_comm,Nat.add_mul_mod_self_right,Nat.mod_eq_of_lt M]
  exact AN ⟨⟨rfl,.inl ⟨_,rfl,AA,congrArg _ (by rw[List.drop_zero,N,a8,hm,List.take_length,hq])⟩,trivial⟩,⟨rfl,congrArg _ (by rw[aa,H,a7]),trivial⟩,trivial⟩
 refine .inr ?_;refine AK ?_;intro ag J;have J:=K5 (p:=4294967296) J rfl;have J:ag=((g*4294967296:Nat):Int):=by clear hinv;omega
 obtain⟨i',rfl⟩:∃i',C=i'+1:=⟨C-1,AA⟩
 refine Ae i' fun f X=>?_
 refine AW ?_;intro aI T aJ U;have ay:=T.eq;have f24:=T.lt;have U:=wrap_u64 U;intro aK B;conv=>cbv
 have B:=Ko (p:=g) (q:=f.toNat) B AA AA AA AA;intro ah V;conv=>cbv
 have V:=wrap_u64 V;refine AK ?_;intro ai K;have K:=wrap_u64 K;intro aj L;conv=>cbv
 have L:=wrap_u32 L;have Y:ah=(b:Int):=AA
 have Z:ai=(((f.toNat+4294967296*g)/b:Nat):Int):=by rw[K,B,Y,<-Int.natCast_ediv];have:=Nat.div_le_self (f.toNat+4294967296*g) b;generalize (f.toNat+4294967296*g)/b=Q at *;clear hinv;omega
 refine AK ?_;intro D au;obtain⟨A,u⟩:=CX (n:=aj) AA;have an:=u.eq;have ao:=u.lt;refine⟨A,fun _=>⟨by show _<List.length (α:=UInt32) o;(first | omega | (simp;omega)),CW u⟩,?_⟩;intro (S:List UInt32) (F:S=List.set (α:=UInt32) o D A);have ar:S.length=o.length:=by rw[F,List.length_set]
 refine AW ?_;intro ak W;have W:=wrap_u64 W;refine AK ?_;intro al a2 af aA;refine⟨i',?_,?_⟩
 ·omega
 rw[a5];have a1:ak=(b:Int):=AA
 have h5:=Nat.div_add_mod (f.toNat+4294967296*g) b;refine⟨S,m,(f.toNat+4294967296*g)%b,i',al,af,rfl,rfl,⟨AA,AA,⟨AA⟩,AA,⟨by rw[a2,B,a1];simp⟩,Nat.mod_lt _ hb⟩,?_,rfl⟩
 have aE:(f.toNat+4294967296*g)/b<4294967296:=Nat.div_lt_of_lt_mul (by
  have:4294967296*(g+1)<=4294967296*b:=Nat.mul_le_mul_left _ M;rw[Nat.mul_comm b];omega)
 have ew:A.toNat=(f.toNat+4294967296*g)/b:=by
  rw[Z] at L
  generalize (f.toNat+4294967296*g)/b=Q at*
  clear hinv
  omega
 rw[EC X,hinv,F,EC (l:=o.set D A) (i:=i') (x:=A) (by rw[(AA:D=i'),List.getElem?_set_self AA]),(AA:D=i'),List.drop_set_of_lt AA,ew]
 generalize (f.toNat+4294967296*g)/b=Q at*
 generalize (f.toNat+4294967296*g)%b=R at*
 grind
end
section
variable {b:Bool} {c w:Int} {i len off:Nat} {l o v z:List UInt32} {x:UInt32}
theorem ck (g:o.length=z.length) (d:o.take off=z.take off) (f:o.drop (off+len)=z.drop (off+len)) (hlen:off+len<=o.length) (h3:AF ((o.drop off).take len)=AF ((z.drop off).take len)):o=z:=by
 have e1:(o.drop off).take len=(z.drop off).take len:=Ny (by simp;omega) h3;rw[<-List.take_append_drop off o,<-List.take_append_drop off z,d,<-List.take_append_drop len (o.drop off),<-List.take_append_drop len (z.drop off),e1,List.drop_drop,List.drop_drop,f]
theorem Pw:(l.drop off)[i]? =l[off+i]? :=by rw[List.getElem?_drop]
theorem RB (h:l[i]? =some x):AF (l.take (i+1))=AF (l.take i)+2^(32*i)*x.toNat:=Cu h
theorem Pe (h:o.drop i=l.drop i) (d:o[i]? =some x):l[i]? =some x:=by
 have:(o.drop i)[0]? =(l.drop i)[0]? :=by rw[h]
 rw[List.getElem?_drop,List.getElem?_drop] at this;simpa [d] using this.symm
theorem rN {x p h g f d j t r u A:Int} (S:0<=x/\x<4294967296) (R:0<=p/\p<=18446744065119617025) (Q:0<=c/\c<=4294967296) (F:h=(p+c)%18446744073709551616)
  (H:g=h%4294967296) (I:f=g%18446744073709551616) (G:d=x%18446744073709551616) (B:j=(d-f)%18446744073709551616) (C:t=j%4294967296) (hw:t=w)
  (J:r=h/4294967296) (D:u=j/9223372036854775808) (K:A=(r+u)%18446744073709551616):(0<=A/\A<=4294967296)/\w+p+c=x+4294967296*A:=by
 have M:h=p+c:=AA
 have N:0<=g/\g<4294967296:=AA
 have a3:f=g:=AA
 have a4:d=x:=AA
 have O:h=g+4294967296*r:=AA
 have P:0<=r/\r<=4294967295:=AA
 clear F H J I G
 subst a3 a4
 by_cases L:d<f
 ·have b1:j=d-f+18446744073709551616:=AA
  have b2:u=1:=AA
  have b3:t=d-f+4294967296:=AA
  clear B C D
  omega
 have b1:j=d-f:=AA
 have b2:u=0:=AA
 have b3:t=d-f:=AA
 clear B C D
 omega
theorem nI {x Du Dr d f:Int} (A:0<=x/\x<4294967296) (u:0<=c/\c<=4294967296) (g:Du=x%18446744073709551616) (h:Dr=(Du-c)%18446744073709551616) (j:d=Dr%4294967296) (hw:d=w)
  (r:f=Dr/9223372036854775808) (hb:b=(f==1)):w+c=x+4294967296*(b.toNat:Int):=by
 have a4:Du=x:=AA
 subst a4
 clear g
 by_cases t:Du<c
 ·have b1:Dr=Du-c+18446744073709551616:=AA
  have b2:f=1:=AA
  have b3:d=Du-c+4294967296:=AA
  rw[hb,b2]
  show w+c=Du+4294967296*1
  omega
 have b1:Dr=Du-c:=AA
 have b2:f=0:=AA
 have b3:d=Du-c:=AA
 rw[hb,b2]
 show w+c=Du+4294967296*0
 omega
theorem ri {d S2 W T M:Nat} {c:Bool} (f:d+W=T+M*b.toNat) (g:S2+W=T+M*c.toNat) (l1:d<M) (l2:S2<M):d=S2/\b=c:=by
 cases b <;> cases c <;> simp at f g ⊢ <;> omega
theorem Pg (h:o.drop i=l.drop i):o.drop (i+1)=l.drop (i+1):=by
 rw[<-List.drop_drop,<-List.drop_drop,h]
theorem rO {d:Nat} {g:Int} (hlen:len=v.length+1) (aT:off+len<=l.length) (hg:AR g d) (hd:d<4294967296) (b5:l.length<=140737488355328) (b6:z.length=l.length) (aB:z.take off=l.take off) (aC:z.drop (off+len)=l.drop (off+len)) (an:AF ((z.drop off).take len)+AF v*d=AF ((l.drop off).take len)+2^(32*len)*b.toNat):JA Tryz.prog 324 (.AU .u32 0 0 off len) (.arr 0 .u32 l) [.one (.sl .u32 v),.one (.int .u64 g)] (.one (.bool b)) (.arr 0 .u32 z):=by
 have eg:=hg.eq;refine ND Tryz.func324 (by kernel_rfl) rfl fun E hE=>?_
 refine AW ?_;intro aF R;have aU:=R.eq;have f14:=R.le;refine BI [] [0,1,2,7,13,14,15] [0] (fun vs bl k=>∃(o:List UInt32) (H i':Nat) (c L i:Int),vs=[.one (.AU .u32 0 0 off len),.one (.sl .u32 v),.one (.int .u64 g),.one (.int .u64 c),.one (.sl .u32 v),AH L,AH i]/\bl=[.arr 0 .u32 o]/\(o.length=l.length/\DX L v.length/\AR i i'/\i'<=v.length/\AR c H/\H<=4294967296)/\(o.take off=l.take off/\o.drop (off+i')=l.drop (off+i'))/\AF ((o.drop off).take i')+AF (v.take i')*d=AF ((l.drop off).take i')+2^(32*i')*H/\k=v.length-i') (v.length-0) ⟨l,0,0,0,aF,0,rfl,rfl,⟨rfl,R,BD 0,AA,BD 0,AA⟩,⟨rfl,rfl⟩,by simp[AF],rfl⟩ ?_;rintro J0 az vs bl b7 ⟨o,H,i',c,L,i,rfl,rfl,⟨ho,hL,hi,b0,hc,aZ⟩,⟨ht,I⟩,hinv,b4⟩;conv=>cbv
 have eL:=hL.eq;have ei:=hi.eq;have ec:=hc.eq;refine BQ (fun aE=>?_) fun aE=>?_
 ·rintro bj ⟨aW,f48⟩ ar aR;obtain⟨M,A⟩:=Bj (l:=o) (i:=ar) AA;refine⟨M,fun _=>A,?_⟩;refine AW ?_;intro bk ai Du a2;have ax:=ai.eq;have f50:=ai.lt;have a2:=wrap_u64 a2;intro Dr a5;conv=>cbv
  have a5:=wrap_u64 a5;refine AW ?_;rintro bm ⟨aX,f56⟩ aK a6;have a6:=wrap_u32 a6;refine AK ?_;intro au aS;obtain⟨F,t⟩:=CX (n:=aK) AA;have ae:=t.eq;have aM:=t.lt;refine⟨F,fun _=>⟨by show _<List.length (α:=UInt32) o;(first | omega | (simp;omega)),CW t⟩,?_⟩;intro (B:List UInt32) (h:B=List.set (α:=UInt32) o au F);have aO:B.length=o.length:=by rw[h,List.length_set]
  refine AK ?_;intro bn a7;have a7:=Es (p:=9223372036854775808) a7 rfl;intro ab ay;conv=>cbv
  have hk:i'=v.length:=AA
  subst hk;have O:au=off+v.length:=AA
  have Q:ar=off+v.length:=AA
  rw[Q] at A;have hx:=Pe I A;have aA:=nI (Du:=Du) (Dr:=Dr) (x:=M.toNat) (c:=H) (w:=F.toNat) AA AA (by rw[<-ax];exact a2) (by rw[<-ec];exact a5) a6 ae a7 ay
  have aj:AF ((B.drop off).take len)+AF v*d=AF ((l.drop off).take len)+2^(32*len)*ab.toNat:=by
   rw[hlen,RB (l:=l.drop off) (by rw[Pw];exact hx),h,O,Pf,FZ (by rw[List.length_drop];omega),Ei,List.length_take,List.length_drop,Nat.min_eq_left AA,EX];rw[List.take_length] at hinv;have N:F.toNat+H=M.toNat+4294967296*ab.toNat:=AA
   generalize 2^(32*v.length)=P at*
   have e:P*(F.toNat+H)=P*(M.toNat+4294967296*ab.toNat):=by rw[N]
   clear aA N an
   grind
  have ak:∀y:List UInt32,AF ((y.drop off).take len)<2^(32*len):=fun y=>Nat.lt_of_lt_of_le (C0 _) (Nat.pow_le_pow_right AE (by rw[List.length_take];omega))
  obtain⟨q1,q2⟩:=ri aj an (ak _) (ak _);have aD:B=z:=ck (off:=off) (len:=len) AA (by rw[aB,h,O,IQ,ht]) (by rw[aC,h,O,List.drop_set_of_lt AA,hlen,<-Nat.add_assoc];exact Pg I) AA q1;refine⟨fun _=>⟨⟨⟨rfl,congrArg _ (q2.symm),trivial⟩,trivial⟩,rfl,Ai⟩,fun _=>by show some (Af.arr 0 .u32 B)=_;rw[aD]⟩
 refine .inr ?_;refine Ae i' fun G al=>?_
 refine AW ?_;intro b8 af aG ag;have aV:=af.eq;have f19:=af.lt;have ag:=wrap_u64 ag;intro aH j;conv=>cbv
 have j:=wrap_u64 j;obtain⟨av,ep,j⟩:∃p:Nat,p=G.toNat*d/\aH=p:=⟨_,rfl,by rw[j,(by omega:aG=(G.toNat:Int)),eg,<-Int.natCast_mul];have:=Nat.mul_le_mul (by omega:G.toNat<=4294967295) (by omega:d<=4294967295);clear hinv;omega⟩
 have bp:av<=4294967295*4294967295:=by rw[ep];exact Nat.mul_le_mul AA AA
 intro b9 S;conv=>cbv
 have S:=wrap_u64 S;refine AK ?_;intro ao aP;obtain⟨K,u⟩:=Bj (l:=o) (i:=ao) AA;refine⟨K,fun _=>u,?_⟩;refine AW ?_;intro ba ah bb T;have aw:=ah.eq;have f29:=ah.lt;have T:=wrap_u64 T;intro bc U;conv=>cbv
 have U:=wrap_u32 U;intro bd V;conv=>cbv
 have V:=wrap_u64 V;intro bf W;conv=>cbv
 have W:=wrap_u64 W;intro aI X;conv=>cbv
 have X:=wrap_u32 X;refine AK ?_;intro aq aQ;obtain⟨C,r⟩:=CX (n:=aI) AA;have ad:=r.eq;have aL:=r.lt;refine⟨C,fun _=>⟨by show _<List.length (α:=UInt32) o;(first | omega | (simp;omega)),CW r⟩,?_⟩;intro (aa:List UInt32) (f:aa=List.set (α:=UInt32) o aq C);have aN:aa.length=o.length:=by rw[f,List.length_set]
 refine AK ?_;intro bg Y;have Y:=Es (p:=4294967296) Y rfl;refine AK ?_;intro bh Z;have Z:=Es (p:=9223372036854775808) Z rfl;intro J a1;conv=>cbv
 have a1:=wrap_u64 a1;refine AK ?_;intro aJ aY;refine⟨v.length-(i'+1),?_,?_⟩
 ·omega
 rw[az];have O:aq=off+i':=AA
 have Q:ao=off+i':=AA
 rw[Q] at u;have hx:=Pe I u;have a8:=rN (x:=K.toNat) (p:=av) (c:=H) (w:=C.toNat) AA AA AA (by rw[S,j,ec]) U V (by rw[T,aw]) W X ad Y Z a1;have hw:C.toNat+G.toNat*d+H=K.toNat+4294967296*J.toNat:=by rw[<-ep];obtain⟨h1,h2⟩:=a8;clear hinv;omega
 refine⟨aa,J.toNat,i'+1,J,L,aJ,rfl,rfl,⟨AA,hL,⟨AA⟩,AA,⟨by have:=a8.1;omega⟩,by have:=a8.1;omega⟩,⟨by rw[f,O,IQ];exact ht,by rw[f,O,List.drop_set_of_lt AA];exact Pg I⟩,?_,rfl⟩;have hs:=rL (o:=o.drop off) (w:=C) (i:=i') (xi:=K.toNat) (yi:=G.toNat) (D:=d) (GQ:=H) (GR:=J.toNat) (by rw[List.length_drop];omega) hinv hw;rw[f,O,Pf,Cu al,RB (l:=l.drop off) (by rw[Pw];exact hx)];exact hs
theorem pX (hlen:len=v.length+1) (az:off+len<=l.length) (aI:l.length<=140737488355328) (aJ:z.length=l.length) (ae:z.take off=l.take off) (af:z.drop (off+len)=l.drop (off+len)) (I:AF ((z.drop off).take len)=(AF ((l.drop off).take len)+AF v)%2^(32*len)):JA Tryz.prog 325 (.AU .u32 0 0 off len) (.arr 0 .u32 l) [.one (.sl .u32 v)] (.Aj []) (.arr 0 .u32 z):=by
 refine ND Tryz.func325 (by kernel_rfl) rfl fun E hE=>?_
 refine AW ?_;intro n8 h8;have e8:=h8.eq;have f8:=h8.le;refine BI [] [0,1,4,7,8,9] [0] (fun vs bl k=>∃(o:List UInt32) (j i':Nat) (c L i:Int),vs=[.one (.AU .u32 0 0 off len),.one (.sl .u32 v),.one (.int .u64 c),.one (.sl .u32 v),AH L,AH i]/\bl=[.arr 0 .u32 o]/\(o.length=l.length/\DX L v.length/\AR i i'/\i'<=v.length/\AR c j/\j<=1)/\(o.take off=l.take off/\o.drop (off+i')=l.drop (off+i'))/\AF ((o.drop off).take i')+2^(32*i')*j=AF ((l.drop off).take i')+AF (v.take i')/\k=v.length-i') (v.length-0) ⟨l,0,0,0,n8,0,rfl,rfl,⟨rfl,h8,BD 0,AA,BD 0,AA⟩,⟨rfl,rfl⟩,by simp[AF],rfl⟩ ?_;rintro J0 ad vs bl aK ⟨o,j,i',c,L,i,rfl,rfl,⟨ho,hL,hi,aG,hc,aF⟩,⟨ht,B⟩,hinv,aH⟩;conv=>cbv
 have eL:=hL.eq;have ei:=hi.eq;have ec:=hc.eq;refine BQ (fun ah=>?_) fun ah=>?_
 ·rintro aR ⟨aC,f34⟩ a8 ax;obtain⟨h,A⟩:=Bj (l:=o) (i:=a8) AA;refine⟨h,fun _=>A,?_⟩;refine AW ?_;intro aS W aT X;have aD:=W.eq;have f36:=W.lt;have X:=wrap_u32 X;intro ak Y;conv=>cbv
  have Y:=wrap_u32 Y;refine AK ?_;intro aa ay;obtain⟨F,t⟩:=CX (n:=ak) AA;have an:=t.eq;have aq:=t.lt;refine⟨F,fun _=>⟨by show _<List.length (α:=UInt32) o;(first | omega | (simp;omega)),CW t⟩,?_⟩;intro (d:List UInt32) (g:d=List.set (α:=UInt32) o aa F);have au:d.length=o.length:=by rw[g,List.length_set]
  conv=>cbv
  have hk:i'=v.length:=AA
  subst hk;have G:aa=off+v.length:=AA
  have H:a8=off+v.length:=AA
  rw[H] at A;have hx:=Pe B A;have a2:F.toNat=(h.toNat+j)%4294967296:=by clear hinv I;omega
  have a1:∀y:List UInt32,AF ((y.drop off).take len)<2^(32*len):=fun y=>Nat.lt_of_lt_of_le (C0 _) (Nat.pow_le_pow_right AE (by rw[List.length_take];omega))
  have Z:AF ((d.drop off).take len)=(AF ((l.drop off).take len)+AF v)%2^(32*len):=by
   have h0:=a1 d
   have e1:AF ((d.drop off).take len)+2^(32*len)*((h.toNat+j)/4294967296)=AF ((l.drop off).take len)+AF v:=by
    rw[hlen,RB (l:=l.drop off) (by rw[Pw];exact hx),g,G,Pf,FZ (by rw[List.length_drop];omega),Ei,List.length_take,List.length_drop,Nat.min_eq_left AA,EX];rw[List.take_length] at hinv;have hd:=Nat.div_add_mod (h.toNat+j) 4294967296;rw[<-a2] at hd
    generalize (h.toNat+j)/4294967296=Q at*
    generalize 2^(32*v.length)=P at*
    have e:P*(4294967296*Q+F.toNat)=P*(h.toNat+j):=by rw[hd]
    clear a2 I h0 a1
    grind
   rw[<-e1,Nat.add_mul_mod_self_left,Nat.mod_eq_of_lt h0]
  have ag:d=z:=ck (off:=off) (len:=len) AA (by rw[ae,g,G,IQ,ht]) (by rw[af,g,G,List.drop_set_of_lt AA,hlen,<-Nat.add_assoc];exact Pg B) AA (by rw[Z,I]);refine⟨fun _=>⟨trivial,rfl,Ai⟩,fun _=>by show some (Af.arr 0 .u32 d)=_;rw[ag]⟩
 refine .inr ?_;refine Ae i' fun ab a5=>?_
 refine AK ?_;intro aL M a6 av;have aA:=M.eq;have f13:=M.lt;obtain⟨K,u⟩:=Bj (l:=o) (i:=a6) AA;refine⟨K,fun _=>u,?_⟩;refine AW ?_;intro aM N aN O;have aB:=N.eq;have f18:=N.lt;have O:=wrap_u64 O;intro aO R;conv=>cbv
 have R:=wrap_u64 R;intro aP S;conv=>cbv
 have S:=wrap_u64 S;intro aQ T;conv=>cbv
 have T:=wrap_u64 T;intro ai U;conv=>cbv
 have U:=wrap_u32 U;refine AK ?_;intro a7 aw;obtain⟨D,r⟩:=CX (n:=ai) AA;have al:=r.eq;have ao:=r.lt;refine⟨D,fun _=>⟨by show _<List.length (α:=UInt32) o;(first | omega | (simp;omega)),CW r⟩,?_⟩;intro (J:List UInt32) (f:J=List.set (α:=UInt32) o a7 D);have ar:J.length=o.length:=by rw[f,List.length_set]
 refine AK ?_;intro C V;have V:=Es (p:=4294967296) V rfl;refine AK ?_;intro aj aE;refine⟨v.length-(i'+1),?_,?_⟩
 ·omega
 rw[ad];have G:a7=off+i':=AA
 have H:a6=off+i':=AA
 rw[H] at u;have hx:=Pe B u;have hw:D.toNat+4294967296*C.toNat=K.toNat+ab.toNat+j:=by clear hinv;omega
 refine⟨J,C.toNat,i'+1,C,L,aj,rfl,rfl,⟨AA,hL,⟨AA⟩,AA,⟨AA⟩,AA⟩,⟨by rw[f,G,IQ];exact ht,by rw[f,G,List.drop_set_of_lt AA];exact Pg B⟩,?_,rfl⟩;have hs:=jT (o:=o.drop off) (w:=D) (i:=i') (xi:=K.toNat) (yi:=ab.toNat) (PJ:=j) (PK:=C.toNat) (by rw[List.length_drop];omega) hinv hw;rw[f,G,Pf,Cu a5,RB (l:=l.drop off) (by rw[Pw];exact hx)];exact hs
end
section
open Go.RowKit Go.Shelf Go.Proofs
attribute [local go_sem] Oper.semAt_some
def upto {α:Type} (f:Nat->α) (k:Nat):List α:=(List.range k).map f
theorem eU {α:Type} (f:Nat->α) (k:Nat):upto f (k+1)=upto f k++[f k]:=by simp[upto,List.range_succ]
theorem rn {α:Type} (f:Nat->α) (k:Nat):(upto f k).length=k:=by simp[upto]
def bk (l:List UInt32) (k:Nat):Int×UInt32:=((l.length:Int)-1-k,l[l.length-1-k]?.getD 0)
structure HR (n b:Nat) (A B:World):Prop where
 below:Below n A B
 block:B.heap[b]? =A.heap[b]?
theorem HR.refl (n b:Nat) (A:World):HR n b A A:=⟨Below.refl _ _,rfl⟩
theorem HR.trans {n b:Nat} {A B C:World} (h:HR n b A B) (k:HR n b B C):HR n b A C:=⟨h.1.trans k.1,k.2.trans h.2⟩
theorem jc (F:Fence) (n:Nat) (h7:F.fn 334) (hro:F.round=none) (hn:1<=n) (l Bs n₀ b off cap:Nat) (zs:List UInt32) (hreach:zs.length<=140737488351232) (hb:b<n₀) (J Jx:List (Int×UInt32)->World->Prop)
  (hY:∀pre x W,J pre W->pre.length<zs.length->YieldAt F (n-1) Tryz.prog l #[.int .i64 x.1,.int .u32 (x.2.toNat:Int)] W fun e W'=>
   (e= .returned (.bool true)/\J (pre++[x]) W'/\HR n₀ Bs W W')\/(e= .returned (.bool false)/\Jx (pre++[x]) W'))
  (W:World) (hBs:W.cell? ⟨Bs,0,none⟩=some (.slice (some ⟨b,off,none⟩) zs.length cap)) (hc:∀j,j<zs.length->W.cell? ⟨b,off+j,none⟩=some (.int .u32 ((zs[j]?.getD 0).toNat:Int))) (h0:J [] W):
  CallsIn F n Tryz.prog 334 #[.func (.yield l) #[] #[],.pointer (some ⟨Bs,0,none⟩)] W fun e W'=>(∃v,e= .returned v)/\
   ((∃ys,ys=upto (bk zs) zs.length/\J ys W')\/(∃pre,(∃k,k<=zs.length/\pre=upto (bk zs) k)/\Jx pre W')):=by
 refine callsIn_of_wp Tryz.func334 rfl h7 ?_ hro;simp only[Tryz.ntmps334,List.size_toArray,List.length_cons,List.length_nil,Nat.reduceAdd,Nat.reduceSub,Array.replicate_succ,Array.replicate_zero,List.push_toArray,List.append_toArray,List.nil_append,List.cons_append]
 gi_wp2
 gi_loopw [3] (fun i wr=>∃k:Nat,k<=zs.length/\i= .int .i64 ((zs.length:Int)-1-k)/\J (upto (bk zs) k) wr/\HR n₀ Bs W wr)
  (fun i _=>(intOf i+1).toNat)
 case atStart=>exact⟨0,Nat.zero_le _,Ai,h0,HR.refl _ _ _⟩
 case round=>
  obtain⟨k,hk,rfl,hJs,hnx⟩:=hrel
  by_cases hlt:k<zs.length
  ·obtain⟨j,ej,hjl,ex⟩:∃j:Nat,(zs.length:Int)-1-k=(j:Int)/\j<zs.length/\bk zs k=((j:Int),zs[j]?.getD 0):=
    ⟨zs.length-1-k,AA,AA,by unfold bk;rw[(AA:((zs.length:Int)-1-k)=((zs.length-1-k:Nat):Int))]⟩
   have hcx:wr.cell? ⟨b,off+j,none⟩=some (.int .u32 ((zs[j]?.getD 0).toNat:Int)):=(hnx.below.cell (p:=⟨b,off+j,none⟩) hb).trans (hc j hjl);have hbx:wr.cell? ⟨Bs,0,none⟩=some (.slice (some ⟨b,off,none⟩) zs.length cap):=(World.cell?_of_block (a:=⟨Bs,0,none⟩) hnx.block).trans hBs;obtain⟨fn,tmps,assign,body,hy,hR⟩:=hY _ (bk zs k) wr hJs (by rw[rn];exact hlt);rw[ex] at hy hR;have eg:zs[j]?.getD 0=zs[j]:=by simp[hjl]
   rw[eg] at hy hcx
   dsimp only at hy
   rw[ej];have hmz:((j:Int):Int)-1+1=j:=AA
   gi_wp2
   refine hR.mono ?_;rintro e W3 (⟨rfl,hJ3,hk3⟩ |⟨rfl,hJx3⟩)
   ·gi_wp2
    go_roundw
    case rel=>exact⟨k+1,AA,by congr 1;omega,by rw[eU,ex];exact hJ3,hnx.trans hk3⟩
    case measure=>simp[intOf]
   gi_wp2
   refine bodyPost_ret (results_none rfl _ _ _) rfl ?_;exact⟨⟨_,rfl⟩,.inr ⟨_,⟨k+1,AA,by rw[eU,ex]⟩,hJx3⟩⟩
  obtain rfl:k=zs.length:=AA
  rw[(AA:(zs.length:Int)-1-zs.length= -1)]
  gi_wp2
  go_end0
  exact⟨⟨_,rfl⟩,.inl ⟨_,rfl,hJs⟩⟩
theorem jd (F:Fence) (n:Nat) (h7:F.fn 334) (hro:F.round=none) (l Bs:Nat) (base:Option Addr) (cap:Nat) (J:List (Int×UInt32)->World->Prop) (W:World) (hBs:W.cell? ⟨Bs,0,none⟩=some (.slice base 0 cap)) (h0:J [] W):
  CallsIn F n Tryz.prog 334 #[.func (.yield l) #[] #[],.pointer (some ⟨Bs,0,none⟩)] W fun e W'=>(∃v,e= .returned v)/\J [] W':=by
 refine callsIn_of_wp Tryz.func334 rfl h7 ?_ hro;simp only[Tryz.ntmps334,List.size_toArray,List.length_cons,List.length_nil,Nat.reduceAdd,Nat.reduceSub,Array.replicate_succ,Array.replicate_zero,List.push_toArray,List.append_toArray,List.nil_append,List.cons_append]
 gi_wp2
 gi_loopw [3] (fun i wr=>i= .int .i64 (-1)/\J [] wr) (fun _ _=>0)
 case atStart=>exact⟨Ai,h0⟩
 case round=>
  obtain⟨rfl,hJs⟩:=hrel
  gi_wp2
  go_end0
  exact⟨⟨_,rfl⟩,hJs⟩
theorem je (F:Fence) (n:Nat) (h5:F.fn 327) (hro:F.round=none) (a:Option Addr) (len cap:Nat) (w:World):
  CallsIn F n Tryz.prog 327 #[.slice a len cap] w fun e w'=>e= .returned (.func (.func 334) #[] #[.pointer (some ⟨w.heap.size,0,none⟩)])/\w'=w.alloc (.cells #[.slice a len cap] 52):=by
 refine callsIn_of_wp Tryz.func327 rfl h5 ?_ hro;simp only[Tryz.ntmps327,List.size_toArray,List.length_cons,List.length_nil,Nat.reduceAdd,Nat.reduceSub,Array.replicate_succ,Array.replicate_zero,List.push_toArray,List.append_toArray,List.nil_append,List.cons_append]
 gi_wp2
 go_ret
 exact⟨rfl,rfl⟩
def Words (n:Nat) (W:World) (sv:Value) (zs:List UInt32):Prop:=
 (∃base cap,sv= .slice base 0 cap/\zs=[])\/∃b off cap,sv= .slice (some ⟨b,off,none⟩) zs.length cap/\b<n/\∀j,j<zs.length->W.cell? ⟨b,off+j,none⟩=some (.int .u32 ((zs[j]?.getD 0).toNat:Int))
theorem Words.below {n:Nat} {A B:World} (h:Below n A B) {d:Value} {f:List UInt32}:Words n A d f->Words n B d f
 | .inl e=> .inl e
 | .inr ⟨b,off,cap,e,hb,g⟩=> .inr ⟨b,off,cap,e,hb,fun j r=>(h.cell (p:=⟨b,off+j,none⟩) hb).trans (g j r)⟩
theorem jf (F:Fence) (n:Nat) (C:F.fn 334) (t:F.round=none) (N:1<=n) (h d:Nat) (G:Value) (g:List UInt32) (f:g.length<=140737488351232) (w:World) (u:h<w.heap.size) (j:d<=w.heap.size)
  (L:w.cell? ⟨h,0,none⟩=some G) (I:Words d w G g):
  SeqStopsK F n Tryz.prog 334 #[.pointer (some ⟨h,0,none⟩)] (fun x:Int×UInt32=> #[Value.int .i64 x.1,Value.int .u32 (x.2.toNat:Int)]) (HR d h) (fun ys=>ys=upto (bk g) g.length)
   (fun pre=>∃k,k<=g.length/\pre=upto (bk g) k) g.length w:=fun l J H W D _ _ K B=>by
 have r:=(D.cell (p:=⟨h,0,none⟩) u).trans L;rcases I.below (D.mono j) with⟨base,cap,rfl,rfl⟩ |⟨b,off,cap,rfl,hb,A⟩
 ·exact (jd F n C t l h base cap J W r B).mono fun e O ⟨he,M⟩=>⟨he,.inl ⟨_,rfl,M⟩⟩
 exact jc F n C t N l h d b off cap g f hb J H K W r A B
def LN (s:Int) (x:Int×UInt32):Int:=bits BinOp.or IntKind.u64 (IntKind.u64.wrap (s*4294967296)) (IntKind.u64.wrap (x.2.toNat:Int))
def Lo (pre:List (Int×UInt32)):Int:=pre.foldl LN 0
theorem lY (pre:List (Int×UInt32)) (x:Int×UInt32):Lo (pre++[x])=LN (Lo pre) x:=by simp[Lo]
theorem rV (F:Fence) (n:Nat) (h3:F.fn 314) (h5:F.fn 327) (h7:F.fn 334) (hro:F.round=none) (hn:3<=n) (a:Option Addr) (len cap:Nat) (zs:List UInt32) (hreach:zs.length<=140737488351232) (w:World) (hI:Words w.heap.size w (.slice a len cap) zs):
  CallsIn F n Tryz.prog 314 #[.slice a len cap] w fun e W'=>e= .returned (.int .u64 (Lo (upto (bk zs) zs.length)))/\Below w.heap.size w W':=by
 have h1:1<=n:=AA
 refine callsIn_of_wp_marks Tryz.func314 rfl h3 ?_ hro;simp only[Tryz.ntmps314,List.size_toArray,List.length_cons,List.length_nil,Nat.reduceAdd,Nat.reduceSub,Array.replicate_succ,Array.replicate_zero,List.push_toArray,List.append_toArray,List.nil_append,List.cons_append]
 gi_wp2_with (gi_at_call 327;refine (je F (n-1) h5 hro _ _ _ _).mono ?_;rintro e w' ⟨rfl,rfl⟩)
 have bS:=Boxed.new w 154 (.int .u64 0);have bN:=Boxed.new (w.alloc (.cells #[.int .u64 0] 154)) 52 (.slice a len cap);rw[World.size_alloc] at bN;have hB0:Below w.heap.size w ((w.alloc (.cells #[.int .u64 0] 154)).alloc (.cells #[.slice a len cap] 52)):=((Below.refl _ w).alloc (Nat.le_refl _) _).alloc Ai _
 refine wpIn_rangeFunc_ownG hro h1 (gf:=334) (lb:= #[.pointer (some ⟨w.heap.size+1,0,none⟩)]) rfl h7 (enters_of Tryz.func334 (by kernel_rfl) rfl)
  (jf F (n-1) h7 hro AA (w.heap.size+1) w.heap.size _ zs hreach _ Ai (by simp;omega) bN.cell (hI.below hB0)) HR.trans (fun W l o o' hl h hc hw=>⟨belowK_b (by simp;omega) W l o o' hl h hc hw,World.putObj_heap_other (by simp at hl;omega)⟩) (Below.refl _ _) (fun _=>rfl)
  (fun pre W=>(W.cell? ⟨w.heap.size,0,none⟩=some (.int .u64 (Lo pre))/\W.frozen? ⟨w.heap.size,0,none⟩=false)/\Below w.heap.size w W)
  (fun _ _ _=>False)
  (OwnFrom.and (Own.from (fun s A B row hs hg hr=>⟨cell_kept hs.1 hg hr,(frozen_kept hs.1 hg hr).trans hs.2⟩) _) (ownFrom_below (Nat.le_refl _) (by simp;omega)))
  (fun _ _ _ _ _ hs _ _=>hs)
  ⟨⟨(bS.alloc _).cell,(bS.alloc _).frozen⟩,hB0⟩
  (fun x=>{tmps:= #[.slice a len cap,undef,.int .u64 0,.pointer (some ⟨w.heap.size,0,none⟩),undef,.int .u32 (x.2.toNat:Int),.slice a len cap,.func (.func 334) #[] #[.pointer (some ⟨w.heap.size+1,0,none⟩)],.int .i64 x.1,.int .u32 (x.2.toNat:Int),undef,undef,undef,undef,undef,undef],defers:=[]}) ?assign ?body ?done ?stop
 case assign=>
  intro l x W K hK
  gi_wp2
  exact hK
 case body=>
  rintro l pre x W ⟨⟨hc,hf⟩,hB⟩ _
  gi_wp2
  exact⟨(KeepsOthers.setCell _ _ _).from _,⟨(Below.refl w.heap.size W).setCell (p:=⟨w.heap.size,0,none⟩) (Nat.le_refl _) _,Below.heap_setCell W _ _ _ Ai⟩,⟨by rw[lY];exact World.cell?_setCell_same' _ _ _ (by rw[hc];rfl),by rw[World.frozen?_setCell];exact hf⟩,hB.setCell (p:=⟨w.heap.size,0,none⟩) (Nat.le_refl _) _⟩
 case done=>
  rintro D ys W hD rfl ⟨⟨hc,_⟩,hB⟩ hK
  gi_wp2
  refine⟨Ai,.inl ⟨_,_,rfl,run_takeDeferred hK,?_⟩⟩;exact⟨_,results_tmp rfl _ _ _,rfl,hB.trans (belowK_b (w:=w) (Nat.le_refl _) W D _ _ (by simp at hD;omega) hK rfl rfl)⟩
 case stop=>
  rintro D c pre W _ _ h _;exact h.elim
theorem R6 {s:Int} {p:Nat} (x:Int×UInt32) (f:s=p) (d:p<4294967296):LN s x=((x.2.toNat+4294967296*p:Nat):Int):=by
 have g:=x.2.toNat_lt;refine Ko (a:=IntKind.u64.wrap (s*4294967296)) (b:=IntKind.u64.wrap (x.2.toNat:Int)) rfl ?_ ?_ d g
 ·rw[wrap_u64 (rfl:IntKind.u64.wrap (s*4294967296)=_),f];omega
 rw[wrap_u64 (rfl:IntKind.u64.wrap (x.2.toNat:Int)=_)];omega
theorem lZ:∀(l:List UInt32),l.length<=2->Lo (upto (bk l) l.length)=(AF l:Int)
 | [],_=>rfl
 | [x],_=>by
  show LN 0 (bk [x] 0)=_
  refine (R6 (p:=0) _ rfl AE).trans ?_;simp[bk,AF]
 | [x,y],_=>by
  show LN (LN 0 (bk [x,y] 0)) (bk [x,y] 1)=_
  have d:=R6 (p:=0) (bk [x,y] 0) rfl AE;have f:=y.toNat_lt;rw[R6 (p:=y.toNat) _ (by simpa [bk] using d) f];simp[bk,AF]
 | _::_::_::_,h=>by simp at h
theorem RC {l:List UInt32} {n:Int} {k:Nat} (A:AF l=k) (B:l.length<=2) (C:AR n k):CF 314 [.one (.sl .u32 l)] (.one (.int .u64 n)):=by
 obtain⟨c,u⟩:∃c,Tryz.f314.body=some c:=⟨_,rfl⟩
 refine .mk ⟨Tryz.f314,c,by kernel_rfl,by rfl,u⟩ ⟨rfl,rfl⟩ fun w I vs t f=>?_
 match vs,f with
 | [v],.cons g _=>
  rcases g with d |⟨base,cap,G,H,J,h3⟩
  ·cases d
  obtain rfl:v= .slice base l.length cap:=by simpa using G
  have hw:Words w.heap.size w (.slice base l.length cap) l:=by
   rcases h3 with rfl |⟨b,off,rfl,hb,h⟩
   ·exact .inl ⟨base,cap,rfl,rfl⟩
   refine .inr ⟨b,off,cap,rfl,t _ b hb,fun j d=>?_⟩;obtain⟨us,hu,D⟩:=h j l[j] (by simp[d]);have hu:us=[.int .u32 (l[j].toNat:Int)]:=hu;have:=D 0 (.int .u32 (l[j].toNat:Int)) (by rw[hu];rfl);have e:l[j]?.getD 0=l[j]:=by simp[d]
   rw[e];have F:T.u32.size=1:=rfl;rw[F] at this;have this:w.cell? ⟨b,off+j*1+0,none⟩=_:=this;simpa using this
  refine (callsIn_wide.1 (rV Fence.wide 3 trivial trivial trivial rfl (Nat.le_refl _) base l.length cap l AA w hw)).mono ?_;rintro e w' ⟨rfl,r⟩;refine⟨_,none,rfl,r,.inr ?_⟩
  show _=_
  rw[lZ l B,A,C.eq]
end
section
open Go.RowKit Go.Shelf Go.Proofs
theorem bitLen_spec {x:Nat} (h:x<4294967296) (g:x≠0):2^(Lib.bitLen x-1)<=x/\x<2^Lib.bitLen x/\1<=Lib.bitLen x/\Lib.bitLen x<=32:=by
 have key:∀(f x:Nat),x<2^f->x≠0->2^(Lib.bitLenAux f x-1)<=x/\x<2^Lib.bitLenAux f x/\1<=Lib.bitLenAux f x/\Lib.bitLenAux f x<=f:=by
  intro f
  induction f with
  | zero=>intro x h g;simp at h;exact absurd h g
  | succ f r=>
   intro x h g;simp only[Lib.bitLenAux,if_neg g]
   by_cases j:x/2=0
   ·rw[j];have:Lib.bitLenAux f 0=0:=by cases f <;> simp[Lib.bitLenAux]
    rw[this];simp;omega
   obtain⟨a,b,c,d⟩:=r (x/2) (by rw[Nat.pow_succ] at h;omega) j
   generalize Lib.bitLenAux f (x/2)=m at*
   obtain⟨m,rfl⟩:∃k,m=k+1:=⟨m-1,AA⟩
   rw[(AA:1+(m+1)=m+1+1),Nat.pow_succ];simp only[Nat.add_sub_cancel] at a ⊢;rw[Nat.pow_succ] at b ⊢;omega
 have e:Lib.bitLen x=Lib.bitLenAux 32 x:=Lib.bitLenAux_fuel 32 x (by simpa using h) 64 AE;rw[e];exact key 32 x (by simpa using h) g
theorem V7 {x c:Int} {k:Nat} (f:AR x k) (u:k<4294967296) (h:AR c (Lib.bitLen k)):CF 333 [.one (.int .u32 x)] (AH c):=by
 obtain⟨b,hb⟩:∃b,Tryz.f333.body=some b:=⟨_,rfl⟩
 refine .mk ⟨Tryz.f333,b,by kernel_rfl,by rfl,hb⟩ ⟨rfl,rfl⟩ fun w I vs t d=>?_
 match vs,d with
 | [v],.cons g _=>
  rcases g with j | r
  ·cases j
  obtain rfl:v= .int .u32 x:=r;have:=f.eq;refine (nM x w).mono ?_;rintro e w' ⟨rfl,rfl⟩;refine⟨_,none,rfl,Below.refl _ _,.inr ?_⟩
  show _=_
  rw[h.eq,f.eq];rfl
end
section
theorem ft {x c:Int} {k:Nat} (t:AR x k) (f:k≠0) (g:k<4294967296) (r:AR c (32-Lib.bitLen k)):CF 322 [.one (.int .u32 x)] (AH c):=by
 refine AM Tryz.func322 fun E j=>?_
 obtain⟨B,d⟩:∃n:Int,AR n (Lib.bitLen k):=⟨_,⟨rfl⟩⟩
 have h:=d.eq;refine AB j (V7 t g d) ?_;have hb:=bitLen_spec g f;refine AK ?_;intro A u;exact AL (by rw[r.eq];omega)
theorem Pd {l m z1 z2:List UInt32} {a b:Nat} (hl:l=AT a) (hm:m=AT b) (hb:0<b) (hz1:z1=AT (a/b)) (hz2:z2=AT (a%b)) (sl:l.length<=17592186044000):CF 313 [.one (.sl .u32 l),.one (.sl .u32 m)] (.Aj [(false,[.sl .u32 z1]),(false,[.sl .u32 z2])]):=by
 refine H0 Tryz.func313 fun E hE=>?_
 conv=>cbv
 refine .inr ?_;obtain⟨r22,hr22⟩:=xI (Bp a b);refine BO hE (PS hl hm hr22) ?_;refine AW ?_;intro n23 h23;cases n23 <;> conv=>cbv
 ·have k23:=EG h23;have hba:b<=a:=by rw[hr22] at k23;have:=JP k23;omega
  have hml:m.length<=l.length:=by rw[hl,hm];exact EV hba
  refine AW ?_;intro n28 h28 n29 h29;have e28:=h28.eq;have f28:=h28.le;cases n29 <;> conv=>cbv
  ·have k29:=Nn h29;refine AW ?_;intro n44 h44 n45 h45;have e44:=h44.eq;have f44:=h44.le;cases n45 <;> conv=>cbv
   ·have k45:=Bu h45;have hm0:m.length≠0:=fun e=>by have e2:=List.eq_nil_of_length_eq_zero e;rw[hm] at e2;have:=E3.1 e2;omega
    obtain⟨n,hn⟩:∃n,n=m.length:=⟨_,rfl⟩
    have hn2:2<=n:=AA
    refine AW ?_;intro n55 h55 n56 h56;have e55:=h55.eq;have f55:=h55.le;refine DI ?_;refine Ae ((n-1)) fun x57 hx57=>?_
    try conv=>cbv
    have hx57b:=hx57;rw[hm] at hx57b;have hx570:x57.toNat≠0:=NM hx57b (by rw[<-hm];omega);intro n58 h58;have e58:=h58.eq;have f58:=h58.lt;conv=>cbv
    obtain⟨s,hs⟩:∃s,s=32-Lib.bitLen x57.toNat:=⟨_,rfl⟩
    have hbl:=bitLen_spec (x:=x57.toNat) AA hx570;obtain⟨r59,hr59⟩:∃n:Int,AR n s:=⟨_,⟨rfl⟩⟩
    have er59:=hr59.eq;refine BO hE (ft (k:=x57.toNat) (AR.of AA) hx570 AA (hs ▸ hr59)) ?_;conv=>cbv
    obtain⟨z62,hz621,hz622⟩:=Kq (N:=AF l*2^s) (k:=l.length+1) (Qz l);obtain⟨zn62,hzn62⟩:∃k,k=z62.length:=⟨_,rfl⟩
    refine BO hE (dM hr59 AA hz621 hz622 hzn62 AA) ?_;conv=>cbv
    obtain⟨z65,hz651,hz652⟩:=Kq (N:=AF m*2^s) (k:=m.length+1) (Qz m);refine BO hE (Df (dM hr59 AA hz651 hz652 rfl AA)) ?_;conv=>cbv
    obtain⟨w66,hw66⟩:=xU (AT (AF m*2^s));refine BO hE (FM hz652 hw66) ?_;conv=>cbv
    obtain⟨hwl,hwV⟩:=dO (b:=b) (n:=n) (s:=s) (x:=x57) (k:=Lib.bitLen x57.toNat) (by rw[<-hm,hn]) AA hx57b hbl.1 hbl.2.1 hbl.2.2.1 hbl.2.2.2 hs;have hV:AF w66=b*2^s:=by rw[hw66,BU,hm,BU]
    have hwn:w66.length=n:=by rw[hw66,hm,BU];exact hwl
    rw[<-hV] at hwV;intro n68 h68;have e68:=h68.eq;have f68:=h68.le;conv=>cbv
    intro n70 h70;have e70:=h70.eq;refine AW ?_;intro n72 h72;refine DI ?_;refine⟨fun _=>⟨AA,AA,by show _*4<=140737488355328;omega⟩,?_⟩;intro k73 (l73:List UInt32) ql73;have hk73:=ql73.1;have hl73:l73=List.replicate k73 (0:el .u32):=ql73.2;have gl73:l73.length=k73:=by rw[hl73,List.length_replicate]
    refine AW ?_;intro n76 h76;refine DI ?_;refine Ae ((n-1)) fun x77 hx77=>?_
    refine AW ?_;intro n78 h78 n79 h79;have e78:=h78.eq;have f78:=h78.lt;have h79:=wrap_u64 h79;intro n82 h82;conv=>cbv
    refine DI ?_;refine Ae ((n-2)) fun x83 hx83=>?_
    refine AW ?_;intro n84 h84 n85 h85;have e84:=h84.eq;have f84:=h84.lt;have h85:=wrap_u64 h85;refine g2 rfl ?_;obtain⟨A,hA⟩:∃A,A=AF z62:=⟨_,rfl⟩
    obtain⟨high,hhigh⟩:∃k,k=x77.toNat:=⟨_,rfl⟩
    obtain⟨next,hnext⟩:∃k,k=x83.toNat:=⟨_,rfl⟩
    obtain⟨hVf,hVf2⟩:=rY hwn hx77 hx83 hn2;rw[<-hhigh,<-hnext] at hVf;rw[<-hhigh] at hVf2;have hV0:=MZ (l:=w66) (n:=n-2);have hV1:=MZ (l:=w66) (n:=n-1);have hhi:=mB hwV hVf2 hV1;have hstart:AF (z62.drop k73)<AF w66:=eA hz622 AA hz621 AA AA hwV;have hwlt:=C0 w66;rw[hwn] at hwlt;have hVpos:0<AF w66:=AA
    have hk73n:k73+n=l.length+1:=AA
    have hzl:zn62=l.length+1/\z62.length=l.length+1:=AA
    have hs31:s<=31:=AA
    have e79:n79=(high:Int):=AA
    have e85:n85=(next:Int):=AA
    have hhl:high<4294967296:=AA
    have hnl:next<4294967296:=AA
    have hn68:n68=(n:Int):=AA
    have hVpos:0<AF w66:=AA
    have hk73n:k73+n=l.length+1:=AA
    have hzl:zn62=l.length+1/\z62.length=l.length+1:=AA
    have hs31:s<=31:=AA
    have e79:n79=(high:Int):=AA
    have e85:n85=(next:Int):=AA
    have hhl:high<4294967296:=AA
    have hnl:next<4294967296:=AA
    have hn68:n68=(n:Int):=AA
    have hVM:AF w66<=2^(32*(n+1)):=by rw[EX];omega
    intro n87 h87;have e87:=h87.eq;refine AW ?_;intro n88 h88;refine DI ?_;refine BI [] [8,9,10,11,12,13,14,15] [62,73] (fun vs bl k=>∃(u q:List UInt32) (j':Nat) (i:Int),vs=[AH r59,.one (.AU .u32 62 0 0 zn62),.one (.sl .u32 w66),AH n68,.one (.AU .u32 73 0 0 k73),.one (.int .u64 n79),.one (.int .u64 n85),AH i]/\bl=[.arr 0 .u32 u,.arr 0 .u32 q]/\(u.length=z62.length/\q.length=k73/\AR (i+1) j'/\j'<=k73)/\AF (u.drop j')<AF w66/\A=AF u+2^(32*j')*AF (q.drop j')*AF w66/\k=j') k73 ⟨z62,l73,k73,n88,rfl,rfl,⟨rfl,by rw[hl73,List.length_replicate],⟨AA⟩,AA⟩,hstart,by rw[List.drop_eq_nil_of_le (by rw[hl73,List.length_replicate];omega)];simp[AF,hA],rfl⟩ ?_;rintro J0 hJ0 vs bl kk0 ⟨u,q,j',i,rfl,rfl,⟨hul,hql,hi,hjl⟩,hlt,hinv,hk0⟩;conv=>cbv
    clear hr22 h23 k23 hba hml h28 e28 f28 h29 k29 h44 e44 f44 h45 k45 hm0 hn h55 e55 f55 h56 hx57 hx57b hx570 h58 e58 f58 hs hbl hz621 hzn62 hz651 hz652 hw66 hwl h68 e68 f68 h70 e70 h72 hk73 hl73 gl73 h76 hx77 h78 e78 f78 h79 h82 hx83 h84 e84 f84 h85 hhigh hnext hstart h87 e87 h88
    have ei:=hi.eq;refine LU ?_ ?_ <;> intro k90 <;> conv=>cbv
    ·have hnl169:k73<=(q).length:=AA
     obtain⟨m169,hm169⟩:=xN ((CR ((q).take k73)).length);obtain⟨hle169,htk169⟩:=FA hnl169 hm169;refine .inr (.inr (.inl ⟨[],.one (.AU .u32 0 0 0 m169),.arr 0 .u32 q,fun _=>⟨by first | decide | simp[Cq,Ch],trivial⟩,fun _=>⟨Ea hE (Mc hnl169 AA hm169),rfl,rfl⟩,?_⟩));try conv=>cbv
     refine FI ?_;intro b172 hb172;conv=>cbv
     rintro o172 c172 ⟨ho172,hc172⟩;conv=>cbv
     have ho172:o172=0:=AA
     subst ho172;have hnl173:c172<=u.length:=AA
     obtain⟨m173,hm173⟩:=xN ((CR (u.take c172)).length);obtain⟨hle173,htk173⟩:=FA hnl173 hm173;refine .inr (.inr (.inl ⟨[],.one (.AU .u32 0 0 0 m173),.arr 0 .u32 u,fun _=>⟨by first | decide | simp[Cq,Ch],trivial⟩,fun _=>⟨Ea hE (Mc hnl173 AA hm173),rfl,rfl⟩,?_⟩));try conv=>cbv
     have hl175:(u.take m173).length<=u.length:=by rw[List.length_take];omega
     obtain⟨z175,hz1751,hz1752⟩:=Kq (N:=AF (u.take m173)/2^s) (k:=(u.take m173).length) (Nat.lt_of_le_of_lt (Nat.div_le_self _ _) (C0 _));refine .inr (.inl ⟨[.one (.sl .u32 ((u).take m173)),AH r59],.one (.sl .u32 z175),fun _=>⟨⟨_,rfl,by simp <;> omega,Ai⟩,rfl,trivial⟩,fun _=>Gl hE (Df (M8 rfl (dN hr59 AA hz1751 hz1752 rfl AA))),?_⟩);try conv=>cbv
     obtain⟨w176,hw176⟩:=xU (AT (AF (u.take m173)/2^s));refine BO hE (FM hz1752 hw176) ?_;conv=>cbv
     refine g2 rfl ?_;have hj0:j'=0:=AA
     rw[hj0,List.drop_zero] at hlt;have hinv2:A=AF u+AF q*AF w66:=by rw[hj0] at hinv;simpa using hinv
     have hA2:A=a*2^s:=by rw[hA,hz622,hl,BU]
     obtain⟨e1,e2⟩:=YS hA2 hV hinv2 hlt hb;have hcn:c172=n:=AA
     have hun:AF (u.take c172)=AF u:=by rw[hcn];have h1:=Gf u n AA;rw[TL AA AA] at h1;omega
     have hum:AF (u.take m173)=AF u:=by rw[htk173,BU,hun]
     exact AN ⟨⟨rfl,.inl ⟨_,rfl,AA,congrArg _ (by rw[List.drop_zero,htk169,<-hql,List.take_length,e1,hz1])⟩,trivial⟩,⟨rfl,congrArg _ (by rw[hz2,hw176,hum,e2]),trivial⟩,trivial⟩
    refine .inr ?_;obtain⟨i',rfl⟩:∃i',j'=i'+1:=⟨j'-1,AA⟩
    intro n96 h96;conv=>cbv
    refine DI ?_;refine FI ?_;intro j97 hj97;conv=>cbv
    obtain⟨x98,hx98⟩:=Bj (l:=u) (i:=j97) AA;refine⟨x98,fun _=>hx98,?_⟩;refine AW ?_;intro n98 h98 n99 h99;have e98:=h98.eq;have f98:=h98.lt;have h99:=wrap_u64 h99;intro n100 h100;conv=>cbv
    refine FI ?_;have h100:=K5 (p:=4294967296) h100 rfl;intro n104 h104;conv=>cbv
    refine DI ?_;intro n105 h105;conv=>cbv
    refine DI ?_;refine FI ?_;intro j106 hj106;conv=>cbv
    obtain⟨x107,hx107⟩:=Bj (l:=u) (i:=j106) AA;refine⟨x107,fun _=>hx107,?_⟩;refine AW ?_;intro n107 h107 n108 h108;have e107:=h107.eq;have f107:=h107.lt;have h108:=wrap_u64 h108;intro n109 h109;conv=>cbv
    have h109:=Ko (p:=x98.toNat) (q:=x107.toNat) h109 AA AA AA AA;refine g2 rfl ?_;obtain⟨x130y,hy130⟩:=Bj (l:=u) (i:=i'+n-2) AA;obtain⟨u3,hu3⟩:∃k,k=x130y.toNat:=⟨_,rfl⟩
    obtain⟨R,hRd⟩:∃R,R=AF (u.drop i'):=⟨_,rfl⟩
    obtain⟨top,htop⟩:∃t,t=x107.toNat+4294967296*x98.toNat:=⟨_,rfl⟩
    have h0:AF (u.drop (i'+n+1))=0:=by have:=TL (l:=u.drop (i'+1)) (n:=n) AA (by rw[List.length_drop];omega);rwa [List.drop_drop,(AA:i'+1+n=i'+n+1)] at this
    have hx97:u[i'+n]? =some x98:=by rw[<-hx98];congr 1;omega
    have hx106:u[i'+n-1]? =some x107:=by rw[<-hx107];congr 1;omega
    have hRf:=rZ hx97 hx106 hy130 hn2 h0;have hRf2:=rh hx97 hx106 AA h0;rw[<-htop,<-hu3,<-hRd] at hRf;rw[<-htop,<-hRd] at hRf2;have hR0:=MZ (l:=u.drop i') (n:=n-2);have hR1:=MZ (l:=u.drop i') (n:=n-1);have hRV:R<4294967296*AF w66:=by obtain⟨xi,hxi⟩:=Bj (l:=u) (i:=i') AA;rw[hRd,EC hxi];have:=xi.toNat_lt;omega
    have hRM:R<2^(32*(n+1)):=by rw[EX];omega
    have htl:=rX hRf2 hVf2 hV1 hRV;have hg0:=ly hRf2 hR1 hVf2 hhi AA htl;have hqw:R/AF w66<4294967296:=(Nat.div_lt_iff_lt_mul hVpos).2 hRV;have hbig:top<18446744073709551616:=by have:=x107.toNat_lt;have:=x98.toNat_lt;omega
    intro n112 h112;conv=>cbv
    refine FI ?_;have h112:=wrap_u64 h112;have e112:n112=((top/high:Nat):Int):=by rw[h112,h109,e79,<-htop,<-Int.natCast_ediv];have:=Nat.div_le_self top high;generalize top/high=Q at *;omega
    intro n115 h115;conv=>cbv
    refine FI ?_;have e115:n115=((top%high:Nat):Int):=by rw[h115,h109,e79,<-htop];exact (Int.natCast_emod _ _).symm
    refine g2 rfl ?_;obtain⟨K3,hK3⟩:=xK fun vs bl=>∃(Dd:Nat) (d:Int),vs=[AH r59,.one (.AU .u32 62 0 0 zn62),.one (.sl .u32 w66),AH n68,.one (.AU .u32 73 0 0 k73),.one (.int .u64 n79),.one (.int .u64 n85),AH i,.one (.int .u64 d)]/\bl=[.arr 0 .u32 u,.arr 0 .u32 q]/\AR d Dd/\Mv R (AF w66) Dd
    refine .inl ⟨[8,9,10,11,12,13,14,15,17],[62,73],K3,?_,?_⟩
    ·intro vs bl hj;rw[hK3] at hj;obtain⟨Dd,d,rfl,rfl,hDd,hnear⟩:=hj;conv=>cbv
     clear k90 h96 hj97 hx98 h98 e98 f98 h99 h100 h104 h105 hj106 hx107 h107 e107 f107 h108 h109 hy130 hu3 htop hx97 hx106 hRf hRf2 hR0 hR1 hRV htl hg0 hbig h112 e112 h115 e115
     have eDd:=hDd.eq;intro n146 h146;conv=>cbv
     refine DI ?_;intro n147 h147;conv=>cbv
     refine DI ?_;refine⟨fun _=>⟨AA,AA,AA⟩,?_⟩;rintro a148 b148 ⟨ha148,hb148⟩;conv=>cbv
     rintro o148 c148 ⟨ho148,hc148⟩;conv=>cbv
     have hDw:=hnear.word;have hseg:AF ((u.drop i').take (n+1))=R:=by rw[hRd];exact cm AA h0
     obtain⟨b151,S151,hS151,hSl151⟩:=rM (M:=2^(32*(n+1))) hnear hVpos hRM hVM;have ho148:i'=o148:=AA
     have hc148:n+1=c148:=AA
     subst ho148 hc148;obtain⟨z151,hz1511,hz1512,hz1513,hz1514⟩:=cl (u:=u) (off:=i') (len:=n+1) hSl151 AA;refine .inr (.inr (.inl ⟨[.one (.sl .u32 w66),.one (.int .u64 d)],.one (.bool b151),.arr 0 .u32 z151,fun _=>⟨by first | decide | simp[Cq,Ch],t2⟩,fun _=>⟨Ea hE (rO (d:=Dd) AA AA hDd hnear.word AA hz1511 hz1512 hz1513 (by rw[hz1514,hseg];exact hS151)),rfl,rfl⟩,?_⟩));try conv=>cbv
     obtain⟨J151,hJ151⟩:=xK fun vs bl=>∃(z:List UInt32) (q0:Nat) (d:Int),vs=[AH r59,.one (.AU .u32 62 0 0 zn62),.one (.sl .u32 w66),AH n68,.one (.AU .u32 73 0 0 k73),.one (.int .u64 n79),.one (.int .u64 n85),AH i,.one (.int .u64 d)]/\bl=[.arr 0 .u32 z,.arr 0 .u32 q]/\AR d q0/\(q0=R/AF w66/\q0<4294967296)/\(z.length=u.length/\z.take i'=u.take i'/\z.drop (i'+(n+1))=u.drop (i'+(n+1)))/\AF ((z.drop i').take (n+1))=R%AF w66
     refine .inl ⟨[8,9,10,11,12,13,14,15,17],[62,73],J151,?_,?_⟩
     ·intro vs bl hj;rw[hJ151] at hj;obtain⟨z,q0,d,rfl,rfl,hq0,⟨hqR,hqlt⟩,⟨hzl1,hzt,hzd⟩,hzv⟩:=hj;conv=>cbv
      have eq0:=hq0.eq;intro n166 h166;conv=>cbv
      have h166:=wrap_u32 h166;refine FI ?_;intro j167 hj167;conv=>cbv
      obtain⟨w167,hw167⟩:=CX (n:=n166) AA;have ew167:=hw167.eq;have fw167:=hw167.lt;refine⟨w167,fun _=>⟨by show _<List.length (α:=UInt32) q;(first | omega | (simp;omega)),CW hw167⟩,?_⟩;intro (l167:List UInt32) (hl167:l167=List.set (α:=UInt32) q j167 w167);have gl167:l167.length=q.length:=by rw[hl167,List.length_set]
      refine AW ?_;intro n92 h92;refine DI ?_;refine⟨i',?_,?_⟩
      ·omega
      rw[hJ0];have hwq:w167.toNat=R/AF w66:=by rw[<-hqR];omega
      obtain⟨g1,g2⟩:=bw (u:=u) (z:=z) (A:=A) (V:=AF w66) (i:=i') (n:=n) (Q:=AF (q.drop (i'+1))) (q:=w167.toNat) hzl1 hzt hzd AA h0 (by rw[hwq,hRd]) (by rw[hzv,hRd]) hinv;refine⟨z,l167,i',n92,rfl,rfl,⟨AA,AA,⟨AA⟩,AA⟩,?_,?_,rfl⟩
      ·rw[g1];exact Nat.mod_lt _ hVpos
      rw[hl167,(AA:j167=i'),EC (l:=q.set i' w167) (i:=i') (x:=w167) (by rw[List.getElem?_set_self AA]),List.drop_set_of_lt AA];exact g2
     cases b151 <;> conv=>cbv
     ·rw[hJ151];obtain⟨e1,e2⟩:=(Z8 hnear hVpos hS151 hSl151).1 rfl;exact⟨z151,Dd,_,rfl,rfl,hDd,⟨e1,hDw⟩,⟨hz1511,hz1512,hz1513⟩,by rw[hz1514,e2]⟩
     intro n153 h153;conv=>cbv
     have h153:=wrap_u64 h153;intro n158 h158;conv=>cbv
     refine DI ?_;intro n159 h159;conv=>cbv
     refine DI ?_;refine⟨fun _=>⟨AA,AA,AA⟩,?_⟩;rintro a160 b160 ⟨ha160,hb160⟩;conv=>cbv
     rintro o160 c160 ⟨ho160,hc160⟩;conv=>cbv
     have ho160:i'=o160:=AA
     have hc160:n+1=c160:=AA
     subst ho160 hc160;obtain⟨z162,hz1621,hz1622,hz1623,hz1624⟩:=cl (u:=z151) (off:=i') (len:=n+1) (S:=(S151+AF w66)%2^(32*(n+1))) (Nat.mod_lt _ (Nat.two_pow_pos _)) AA;refine .inr (.inr (.inl ⟨[.one (.sl .u32 w66)],.Aj [],.arr 0 .u32 z162,fun _=>⟨by first | decide | simp[Cq,Ch],t1⟩,fun _=>⟨Ea hE (pX AA AA AA hz1621 hz1622 hz1623 (by rw[hz1624,hz1514])),rfl,rfl⟩,?_⟩));try conv=>cbv
     rw[hJ151];obtain⟨e1,e2,e3⟩:=(Z8 hnear hVpos hS151 hSl151).2 rfl;exact⟨z162,Dd-1,_,rfl,rfl,⟨AA⟩,⟨e1,AA⟩,⟨hz1621.trans hz1511,hz1622.trans hz1512,hz1623.trans hz1513⟩,by rw[hz1624,e3 (Nat.lt_of_le_of_lt (Nat.mod_le _ _) hRM)]⟩
    obtain⟨J1,hJ1⟩:=xJ fun vs bl k=>∃(D r':Nat) (d r:Int),vs=[AH r59,.one (.AU .u32 62 0 0 zn62),.one (.sl .u32 w66),AH n68,.one (.AU .u32 73 0 0 k73),.one (.int .u64 n79),.one (.int .u64 n85),AH i,.one (.int .u64 d),.one (.int .u64 r)]/\bl=[.arr 0 .u32 u,.arr 0 .u32 q]/\(AR d D/\AR r r')/\JC R (AF w66) top high D r'/\k=D
    refine⟨[],[8,9,10,11,12,13,14,15,17,18],[62,73],J1,⟨top/high,by rw[hJ1];exact⟨top/high,top%high,n112,n115,rfl,rfl,⟨⟨e112⟩,⟨e115⟩⟩,hg0,rfl⟩⟩,?_⟩;intro vs bl kk1 hj;rw[hJ1] at hj;obtain⟨D,r',d,r,rfl,rfl,⟨hd,hr⟩,hg,hk1⟩:=hj;conv=>cbv
    clear k90 h96 hj97 hx98 h98 e98 f98 h99 h100 h104 h105 hj106 hx107 h107 e107 f107 h108 h109 h112 e112 h115 e115
    have ed:=hd.eq;have er:=hr.eq;refine kn ?_ ?_ <;> intro k117 <;> conv=>cbv
    ·refine .inr ?_;have hgm:=hg.QN;have hgr:=hg.rest;have hq1:R/AF w66<=D-1:=by first | exact Y8 hg hqw | exact Y9 hg hRf hR0 hVf AA
     have hDp:0<D:=by first | omega | (apply Nat.pos_of_ne_zero;intro e;rw[e,Nat.zero_mul] at hp121;omega)
     intro n136 h136;conv=>cbv
     have h136:=wrap_u64 h136;have e136:n136=((D-1:Nat):Int):=AA
     intro n139 h139;conv=>cbv
     have h139:=wrap_u64 h139;have e139:n139=((r'+high:Nat):Int):=AA
     refine LU ?_ ?_ <;> intro k141 <;> conv=>cbv
     ·exact BT hJ1 ⟨D-1,r'+high,n136,n139,rfl,rfl,⟨⟨e136⟩,⟨e139⟩⟩,ZA hg hq1 hDp AA,rfl⟩
     rw[hK3]
     first
      | exact⟨D-1,_,rfl,rfl,⟨e136⟩,UJ hg hq1 hDp hRf hVf hV0 hhi AA htl⟩
      | exact⟨D,_,rfl,rfl,hd,UK hg hRf hVf hV0 hhi AA⟩
    intro n121 h121;conv=>cbv
    have h121:=wrap_u64 h121;obtain⟨p121,hp121,h121⟩:∃p:Nat,p=D*next/\n121=p:=⟨_,rfl,by rw[h121,ed,e85,<-Int.natCast_mul];have:=Nat.mul_le_mul (by omega:D<=4294967295) (by omega:next<=4294967295);omega⟩
    intro n123 h123;conv=>cbv
    refine FI ?_;have h123:=K5 (p:=4294967296) h123 rfl;intro n127 h127;conv=>cbv
    refine DI ?_;intro n128 h128;conv=>cbv
    refine DI ?_;refine FI ?_;intro j129 hj129;conv=>cbv
    obtain⟨x130,hx130⟩:=Bj (l:=u) (i:=j129) AA;refine⟨x130,fun _=>hx130,?_⟩;refine AW ?_;intro n130 h130 n131 h131;have e130:=h130.eq;have f130:=h130.lt;have h131:=wrap_u64 h131;intro n132 h132;conv=>cbv
    have x130e:x130=x130y:=by rw[(AA:j129=i'+n-2),hy130] at hx130;exact (Option.some.inj hx130).symm
    have hrr:=hg.rest;have h132:=Ko (p:=r') (q:=x130.toNat) h132 AA AA hrr AA;rw[x130e,<-hu3] at h132;refine PY ?_ ?_ <;> intro k133 <;> conv=>cbv
    ·rw[hK3]
     first
      | exact⟨D-1,_,rfl,rfl,⟨e136⟩,UJ hg hq1 hDp hRf hVf hV0 hhi AA htl⟩
      | exact⟨D,_,rfl,rfl,hd,UK hg hRf hVf hV0 hhi AA⟩
    refine .inr ?_;have hgm:=hg.QN;have hgr:=hg.rest;have hq1:R/AF w66<=D-1:=by first | exact Y8 hg hqw | exact Y9 hg hRf hR0 hVf AA
    have hDp:0<D:=by first | omega | (apply Nat.pos_of_ne_zero;intro e;rw[e,Nat.zero_mul] at hp121;omega)
    intro n136 h136;conv=>cbv
    have h136:=wrap_u64 h136;have e136:n136=((D-1:Nat):Int):=AA
    intro n139 h139;conv=>cbv
    have h139:=wrap_u64 h139;have e139:n139=((r'+high:Nat):Int):=AA
    refine LU ?_ ?_ <;> intro k141 <;> conv=>cbv
    ·exact BT hJ1 ⟨D-1,r'+high,n136,n139,rfl,rfl,⟨⟨e136⟩,⟨e139⟩⟩,ZA hg hq1 hDp AA,rfl⟩
    rw[hK3]
    first
     | exact⟨D-1,_,rfl,rfl,⟨e136⟩,UJ hg hq1 hDp hRf hVf hV0 hhi AA htl⟩
     | exact⟨D,_,rfl,rfl,hd,UK hg hRf hVf hV0 hhi AA⟩
   have k45:=Bv h45;refine Ae 0 fun x48 hx48=>?_
   refine AW ?_;intro n49 h49;have e49:=h49.eq;have f49:=h49.lt;have hb48:b=x48.toNat:=by have:=Cu hx48;rw[(AA:0+1=m.length),List.take_length,hm,BU] at this;simpa [AF] using this
   obtain⟨w50,hw50⟩:=xU (AT (AF l/b));obtain⟨v50,hv50⟩:=xU (AT (AF l%b));refine BO hE (kl (d:=n49) (b:=b) (AR.of AA) hb AA hw50 hv50 AA) ?_;conv=>cbv
   exact AN ⟨⟨rfl,congrArg _ (by rw[hz1,hw50,hl,BU]),trivial⟩,⟨rfl,congrArg _ (by rw[hz2,hv50,hl,BU]),trivial⟩,trivial⟩
  have k29:=No h29;obtain⟨r31,hr31⟩:∃n:Int,AR n (a):=⟨_,⟨rfl⟩⟩
  have er31:=hr31.eq;refine BO (r:= .one (.int .u64 r31)) hE (RC (by rw[hl,BU]) AA hr31) ?_;conv=>cbv
  obtain⟨r33,hr33⟩:∃n:Int,AR n (b):=⟨_,⟨rfl⟩⟩
  have er33:=hr33.eq;refine BO (r:= .one (.int .u64 r33)) hE (RC (by rw[hm,BU]) AA hr33) ?_;conv=>cbv
  have ha64:a<18446744073709551616:=by have:=C0 l;rw[hl,BU] at this;exact Nat.lt_of_lt_of_le this (Nat.pow_le_pow_right AE (by rw[<-hl];omega:32*(AT a).length<=64))
  intro n36 h36;conv=>cbv
  refine FI ?_;have h36:=wrap_u64 h36;have bq:=Nat.div_le_self a b;have h36:n36=((a/b:Nat):Int):=by rw[h36,er31,er33,<-Int.natCast_ediv];generalize a/b=Q at *;omega
  obtain⟨w37,hw37⟩:=xU (AT (a/b));refine BO (r:= .one (.sl .u32 w37)) hE (Lp (AR.of (k:=a/b) h36) (by generalize a/b=Q at *;omega) hw37) ?_;refine AW ?_;intro n40 h40;refine FI ?_;have br:=Nat.mod_lt a hb;have h40:n40=((a%b:Nat):Int):=by rw[h40,er31,er33];exact (Int.natCast_emod _ _).symm
  obtain⟨w41,hw41⟩:=xU (AT (a%b));refine BO (r:= .one (.sl .u32 w41)) hE (Lp (AR.of (k:=a%b) h40) (by generalize a%b=Q at *;omega) hw41) ?_;try conv=>cbv
  refine g2 rfl ?_;exact AN ⟨⟨rfl,congrArg _ (by rw[hz1,hw37]),trivial⟩,⟨rfl,congrArg _ (by rw[hz2,hw41]),trivial⟩,trivial⟩
 have k23:=EH h23;obtain⟨w25,hw25⟩:=xU l;refine BO hE (LG hw25 AA) ?_;conv=>cbv
 have hlt:a<b:=by rw[hr22] at k23;have:=JQ k23;omega
 exact AN ⟨⟨rfl,.inr (.inl ⟨_,congrArg _ (by rw[hz1,Nat.div_eq_of_lt hlt];rfl)⟩),trivial⟩,⟨rfl,congrArg _ (by rw[hz2,Nat.mod_eq_of_lt hlt,hw25,hl]),trivial⟩,trivial⟩
end
section
variable {c:Int} {k n:Nat} {l z:List UInt32}
theorem lz {a:Nat} (j:l=AT a) (r:z=AT (a/2)) (sl:l.length<=17592186044416):CF 330 [.one (.sl .u32 l)] (.one (.sl .u32 z)):=by
 refine AM Tryz.func330 fun E h=>?_
 obtain⟨z4,g,d⟩:=Kq (N:=AF l/2^1) (k:=l.length) (Nat.lt_of_le_of_lt (Nat.div_le_self _ _) (C0 _));refine AB h (Df (dN (n:=1) ⟨rfl⟩ AA g d rfl sl)) ?_;obtain⟨t,f⟩:=xU (AT (AF l/2^1));refine AB h (FM d f) ?_;exact AL (by rw[r,f,j,BU])
def DM (n:Nat):Nat:=if n=0 then 0 else Nat.log2 n+1
theorem oF (f:2^k<=n) (g:n<2^(k+1)):DM n=k+1:=by
 have d:n≠0:=by have:=Nat.two_pow_pos k;omega
 unfold DM;rw[if_neg d];have a:k<=Nat.log2 n:=(Nat.le_log2 d).2 f;have b:Nat.log2 n<k+1:=(Nat.log2_lt d).2 g;omega
theorem SO {i:Nat} {x:UInt32} (h:(AT n)[i]? =some x) (g:i+1=(AT n).length) (d:2^(k-1)<=x.toNat) (f:x.toNat<2^k) (t:1<=k):DM n=32*i+k:=by
 have h3:=Cu h;rw[g,List.take_length,BU] at h3;have r:=MZ (l:=AT n) (n:=i);obtain⟨j,rfl⟩:∃j,k=j+1:=⟨k-1,AA⟩
 simp only[Nat.add_sub_cancel] at d;have e1:2^(32*i+j)=2^(32*i)*2^j:=Nat.pow_add _ _ _;have e2:2^(32*i+j+1)=2^(32*i)*2^(j+1):=by rw[<-Nat.pow_add,Nat.add_assoc]
 refine oF (k:=32*i+j) ?_ ?_
 ·rw[e1,h3];have:=Nat.mul_le_mul_left (2^(32*i)) d;omega
 rw[e2,h3];have:=Nat.mul_le_mul_left (2^(32*i)) (show x.toNat+1<=2^(j+1) from f);rw[Nat.mul_add] at this;omega
theorem fV {x:Int} {b:Bool} (r:BB x b l) (H:AR c (DM x.natAbs)) (sl:l.length<=17592186044416):CF 328 [.agg (BZ b l)] (AH c):=by
 refine AM Tryz.func328 fun E G=>?_
 obtain⟨D,j⟩:=xU (AT (AF l));refine AB G (FM rfl j) ?_;have t6:D=l:=by rw[j];exact r.trim
 have Y:D.length=l.length:=by rw[t6]
 rintro n8 ⟨Z,f8⟩;conv=>cbv
 refine BS (fun P=>?_) fun P=>?_
 ·exact AL (by rw[H.eq];have K:x=0:=r.F1.1 (by rw[<-t6];omega);rw[K];rfl)
 rintro Q ⟨I,f11⟩ R L S M T ⟨J,f16⟩ U N;refine Ae ((D.length-1)) fun A t=>?_
 try conv=>cbv
 have d:=t;rw[t6,r.Bb] at d;have u:(AT x.natAbs).length-1+1=(AT x.natAbs).length:=by rw[<-r.Bb,<-t6];omega
 have g:=NM d u;intro V h;have B:=h.eq;have f19:=h.lt;conv=>cbv
 obtain⟨X,f⟩:∃n:Int,AR n (Lib.bitLen A.toNat):=⟨_,⟨rfl⟩⟩
 have F:=f.eq;refine AB G (V7 ⟨B⟩ f19 f) ?_;have hb:=bitLen_spec (x:=A.toNat) f19 g;have C:=SO d u hb.1 hb.2.1 hb.2.2.1;refine AK ?_;intro W O;exact AL (by rw[H.eq,C,<-r.Bb,<-t6];omega)
theorem qa (R:AR c n) (hn:n<=1125899906000000) (U:z=AT (2^n)):CF 329 [AH c] (.one (.sl .u32 z)):=by
 have X:=R.eq;refine AM Tryz.func329 fun E hE=>?_
 intro n5 Y n6 Z;refine⟨fun _=>⟨AA,AA,by show _*4<=140737488355328;omega⟩,?_⟩;intro G (t:List UInt32) F;have T:=F.1;have g:t=List.replicate G (0:el .u32):=F.2;have N:t.length=G:=by rw[g,List.length_replicate]
 refine AK ?_;intro V P W Q C u;obtain⟨D,r,u⟩:∃q:Nat,q=2^(n%32)/\C=q:=⟨_,rfl,by have:=VB (p:=1) (e:=n%32) u rfl AA;rw[this,Nat.one_mul];congr 1;exact Nat.mod_eq_of_lt (Nat.lt_of_le_of_lt (Nat.pow_le_pow_right AE (by omega:n%32<=31)) AE)⟩
 have K:D<4294967296:=by rw[r];exact Nat.lt_of_le_of_lt (Nat.pow_le_pow_right AE (by omega:n%32<=31)) AE
 refine AK ?_;intro B L;obtain⟨j,h⟩:=CX (n:=C) AA;have H:=h.eq;have I:=h.lt;refine⟨j,fun _=>⟨by show _<List.length (α:=UInt32) t;(first | omega | (simp;omega)),CW h⟩,?_⟩;intro (d:List UInt32) (f:d=List.set (α:=UInt32) t B j);have J:d.length=t.length:=by rw[f,List.length_set]
 conv=>cbv
 have S:G=n/32+1:=AA
 have M:AF d=2^n:=by
  have O:t[n/32]? =some 0:=by rw[g,List.getElem?_replicate,if_pos AA]
  have:=UI (w:=j) O;rw[f,(AA:B=n/32)];rw[g,Iv] at this;rw[g];have e:2^n=2^(32*(n/32))*2^(n%32):=by rw[<-Nat.pow_add];congr 1;omega
  rw[e,<-r,(AA:D=j.toNat)];simpa using this
 have hlen:d.length=n/32+1:=by rw[f,List.length_set,g,List.length_replicate,S]
 have A:AT (AF d)=d:=Tk (.inr (by rw[M,hlen];exact Nat.pow_le_pow_right AE AA));exact AN ⟨⟨rfl,.inl ⟨_,rfl,AA,congrArg _ (by rw[U,<-M,A,List.drop_zero,List.take_of_length_le AA])⟩,trivial⟩,trivial⟩
end
end Go.Abs
