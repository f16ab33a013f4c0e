/- Part 6 of a proof. Conditions: each theorem's own. -/
import Derived.RangeFuncBox
import Derived.RangeFuncLeaves
import Derived.Shelf.Abstract
import Derived.WalkKit
import Derived.OwnWalkIn
import Derived.TacticsInMore
import Derived.LoopNIn
import Derived.LoopIn
import Derived.Test.YthegappccffcjaaGreatDoorCr00
import Derived.Test.YthegappccffcjaaGreatDoorCr04
set_option linter.all false
set_option maxHeartbeats 80000000
set_option maxRecDepth 20000
open Go.Proofs
namespace Go.Abs
open Go.RowKit
section
variable {a b m n p:Int} {e i:Nat}
theorem PM.lt {x:UInt8} (_:PM n x):x.toNat<256:=x.toNat_lt
theorem NV.lt {x:UInt32} (_:NV n x):x.toNat<4294967296:=x.toNat_lt
theorem BJ (k:Nat):Ah k k:=⟨rfl⟩
theorem Ah.of {k:Nat} (h:n=k):Ah n k:=⟨h⟩
theorem Bp (h:true=(a==b)):a=b:=by simpa using h.symm
theorem Bm (h:false=(a==b)):a≠b:=by simpa using h.symm
theorem HM (h:true=(a !=b)):a≠b:=by simpa using h.symm
theorem HK (h:false=(a !=b)):a=b:=by simpa using h.symm
theorem ET (h:true=decide (a<b)):a<b:=by simpa using h.symm
theorem ES (h:false=decide (a<b)):b<=a:=by simpa using h.symm
theorem OL (h:true=decide (a<=b)):a<=b:=by simpa using h.symm
theorem OK (h:false=decide (a<=b)):b<a:=by simpa using h.symm
theorem HD (h:true=decide (a>b)):b<a:=by simpa using h.symm
theorem HC (h:false=decide (a>b)):a<=b:=by simpa using h.symm
theorem MV (h:true=decide (a >= b)):b<=a:=by simpa using h.symm
theorem MU (h:false=decide (a >= b)):a<b:=by simpa using h.symm
theorem HO {a:Bool} (h:true= !a):a=false:=by simpa using h.symm
theorem HN {a:Bool} (h:false= !a):a=true:=by simpa using h.symm
theorem TA {a b:Bool} (h:true=(a==b)):a=b:=by simpa using h.symm
theorem Sz {a b:Bool} (h:false=(a==b)):a≠b:=by simpa using h.symm
theorem MB {a b:Bool} (h:true=(a !=b)):a≠b:=by simpa using h.symm
theorem MA {a b:Bool} (h:false=(a !=b)):a=b:=by simpa using h.symm
theorem wrap_u8 (h:n=IntKind.u8.wrap m):n=m%256:=h
theorem wrap_u32 (h:n=IntKind.u32.wrap m):n=m%4294967296:=h
theorem wrap_u64 (h:n=IntKind.u64.wrap m):n=m%18446744073709551616:=h
theorem wrap_i64 (h:n=IntKind.i64.wrap m):n=(m+9223372036854775808)%18446744073709551616-9223372036854775808:=by
 have e:IntKind.i64.wrap m=if (true&&decide (m%18446744073709551616 >= 9223372036854775808))=true then m%18446744073709551616-18446744073709551616 else m%18446744073709551616:=rfl
 rw[h,e]
 split
 ·rename_i d
  simp only[Bool.true_and,decide_eq_true_eq] at d;omega
 rename_i d
 simp only[Bool.true_and,decide_eq_true_eq] at d;omega
theorem Fb (h:n=a.fdiv (2^e)) (d:2^e=p):n=a/p:=by
 rw[h,<-d,Int.fdiv_eq_ediv_of_nonneg _ (by have:=Int.pow_pos (n:=2) (m:=e) AF;omega)]
theorem Ll (h:n=IntKind.u64.wrap (a*2^e)) (d:2^e=p):n=(a*p)%18446744073709551616:=by rw[<-d];exact h
theorem Cq {α:Type} {l:List α} (h:i<l.length):∃x,l[i]? =some x:=⟨l[i],by simp[h]⟩
theorem DF (h:0<=n/\n<4294967296):∃w:UInt32,NV n w:=⟨UInt32.ofNat n.toNat,⟨by rw[UInt32.toNat_ofNat'];omega⟩⟩
theorem DE {w:UInt32} (h:NV n w):Et Ge [.int .u32 n] (cells .u32 w):=by
 refine⟨?_,trivial⟩
 show AC.int .u32 _=AC.int .u32 n
 rw[h.eq]
theorem Hd {α:Type} {l:List α} {x:α} (h:l[i]? =some x):i<l.length:=by
 apply Classical.byContradiction;intro d;rw[List.getElem?_eq_none AA] at h;exact absurd h AZ
theorem EI {α:Type} {l:List α} {x:α} (h:l[i]? =some x):l.take (i+1)=l.take i++[x]:=by
 have d:=Hd h;rw[List.take_succ_eq_append_getElem d];rw[List.getElem?_eq_getElem d] at h;rw[Option.some.inj h]
theorem De {t:T} {l m:List (el t)} {n k:Nat} (h:l=m) (d:n=k):AC.own t l n=AC.own t m k:=by rw[h,d]
end
section
variable {a b n:Nat} {c y:Int} {l m z:List UInt32}
theorem GD (P:AJ l=n) (G:z=BB n):CF 327 [.one (.sl .u32 l)] (.one (.sl .u32 z)):=by
 have G:DB l=z:=by rw[G,<-P,M7]
 refine AN Tryz.func327 fun E Z=>?_
 refine Bc [] [0] [] (fun vs J k=>∃m:List UInt32,vs=[.one (.sl .u32 m)]/\DB m=z/\k=m.length) l.length ⟨l,rfl,G,rfl⟩ ?_;rintro W C vs J R ⟨m,rfl,r,O⟩;refine Ak ?_;rintro n4 ⟨X,f4⟩;refine Fw (fun Q=>?_) fun Q=>?_
 ·have D:m=[]:=List.eq_nil_of_length_eq_zero AA;exact AO (by rw[<-r,D];rfl)
 rintro n9 ⟨Y,f9⟩ d M;refine BH ((d).toNat) fun u g=>?_
 refine Ak ?_;intro T j;have K:=j.eq;have f12:=j.lt;refine CU (fun A=>?_) fun A=>?_
 ·have F:u≠0:=fun h=>by subst h;exact A j.eq
  have e2:m=m.take (d).toNat++[u]:=by have:=EI g;rw[List.take_of_length_le AA] at this;exact this
  exact AO (by rw[<-r,e2,Lo F])
 refine .inr ?_;refine AP ?_;rintro U ⟨L,f17⟩ V N S I B H t f;refine⟨t.length,?_,?_⟩
 ·rw[f];simp;omega
 rw[C];have el:t=m.take (d).toNat:=by rw[f,(AA:B=(d).toNat)];simp
 refine⟨t,rfl,?_,rfl⟩;obtain rfl:u=0:=UInt32.toNat_inj.1 (by show _=0;omega)
 have e2:m=m.take (d).toNat++[0]:=by
  have:=EI g;rw[List.take_of_length_le AA] at this;exact this
 rw[el,<-r];conv=>rhs;rw[e2]
 rw[Kk]
theorem Zm (x:Int):CF 371 [AD x] (.one (.bool false)):=by
 refine AN Tryz.func371 fun E f=>?_
 intro g d;exact AO (by rw[d];simp)
theorem Zn (x:Int):CF 377 [.one (.int .u32 x)] (.one (.bool false)):=by
 refine AN Tryz.func377 fun E f=>?_
 intro g d;exact AO (by rw[d];simp)
theorem Wg {x:Int} (d:c=CR x y):CF 361 [AD x,AD y] (AD c):=by
 refine AN Tryz.func361 fun E h=>?_
 refine AB h (Zm _) ?_;refine AB h (Zm _) ?_;refine C6 (fun f=>?_) fun f=>?_
 ·exact AO (by rw[d];unfold CR;split <;> (try split) <;> omega)
 refine Fw (fun g=>?_) fun g=>?_
 ·exact AO (by rw[d];unfold CR;split <;> (try split) <;> omega)
 exact AO (by rw[d];unfold CR;split <;> (try split) <;> omega)
theorem gE {x:Int} (d:c=CR x y):CF 370 [.one (.int .u32 x),.one (.int .u32 y)] (AD c):=by
 refine AN Tryz.func370 fun E h=>?_
 refine AB h (Zn _) ?_;refine AB h (Zn _) ?_;refine C6 (fun f=>?_) fun f=>?_
 ·exact AO (by rw[d];unfold CR;split <;> (try split) <;> omega)
 refine Fw (fun g=>?_) fun g=>?_
 ·exact AO (by rw[d];unfold CR;split <;> (try split) <;> omega)
 exact AO (by rw[d];unfold CR;split <;> (try split) <;> omega)
theorem NA {m:Nat} (S:n<=l.length) (hl:l.length<=140737488355328) (hm:m=(DB (l.take n)).length):J4 Tryz.prog 327 (.BK .u32 0 0 0 n) (.arr 0 .u32 l) [] (.one (.BK .u32 0 0 0 m)) (.arr 0 .u32 l):=by
 refine Nh Tryz.func327 (by kernel_rfl) rfl fun E hE=>?_
 conv=>cbv
 refine Bc [] [0] [0] (fun vs F k=>∃q:Nat,vs=[.one (.BK .u32 0 0 0 q)]/\F=[.arr 0 .u32 l]/\q<=l.length/\m=(DB (l.take q)).length/\k=q) n ⟨n,rfl,rfl,S,hm,rfl⟩ ?_;rintro Z B vs F U ⟨q,rfl,rfl,hq,j,R⟩;conv=>cbv
 intro n4 P;have e4:=P.eq;conv=>cbv
 refine Fw (fun T=>?_) fun T=>?_
 ·refine⟨fun _=>⟨⟨⟨rfl,.inr (.inr ⟨rfl,rfl,congrArg (AC.BK .u32 0 0 0) (by rw[j,(AA:q=0)];rfl)⟩),trivial⟩,trivial⟩,rfl,AZ⟩,fun _=>rfl⟩
 intro n9 Q;have e9:=Q.eq;refine AP ?_;intro V N r I;obtain⟨t,d⟩:=Cq (l:=l) (i:=r) AA;refine⟨t,fun _=>d,?_⟩;refine Ak ?_;intro W g;have L:=g.eq;have f12:=g.lt;refine CU (fun u=>?_) fun u=>?_
 ·have C:t≠0:=fun h=>by subst h;exact u g.eq
  refine⟨fun _=>⟨⟨⟨rfl,.inr (.inr ⟨rfl,rfl,congrArg (AC.BK .u32 0 0 0) (by rw[j,(AA:q=r+1),EI d,Lo C,List.length_append,List.length_take];simp;omega)⟩),trivial⟩,trivial⟩,rfl,AZ⟩,fun _=>rfl⟩
 refine .inr ?_;intro X A;have M:=A.eq;refine AP ?_;rintro Y O K G D f ⟨J,H⟩;refine⟨f,?_,?_⟩
 ·omega
 rw[B];obtain rfl:D=0:=AA
 refine⟨f,rfl,rfl,AA,?_,rfl⟩;obtain rfl:t=0:=UInt32.toNat_inj.1 (by show _=0;omega);rw[j,(AA:q=f+1),EI (x:=0) (by rw[(AA:f=r)];exact d),Kk]
theorem bT {zn:Nat} (hl:l=BB a) (hm:m=BB b) (hz:z=BB (a+b)) (ah:zn=z.length) (sl:l.length<=17592186044416) (sm:m.length<=17592186044416):CF 356 [.one (.sl .u32 l),.one (.sl .u32 m)] (.one (.own .u32 z zn)):=by
 refine AN Tryz.func356 fun E hE=>?_
 rintro aR ⟨aF,f10⟩ aS ⟨aG,f12⟩ aw Y;obtain⟨an,F⟩:=xK fun vs bl=>∃(p q:Nat) (x y:List UInt32),vs=[.one (.sl .u32 x),.one (.sl .u32 y)]/\x=BB p/\y=BB q/\p+q=a+b/\y.length<=x.length/\x.length<=17592186044416
 refine .inl ⟨[0,1],[],an,?_,?_⟩
 ·intro vs bl hj;rw[F] at hj;obtain⟨p,q,x,y,rfl,hx,hy,J,ag,aP⟩:=hj;refine AP ?_;rintro aT ⟨aH,f17⟩ aU aM;refine⟨fun _=>⟨AA,AA,by show _*4<=140737488355328;omega⟩,?_⟩;intro R (S:List UInt32) O;have K:=O.1;have A:S=List.replicate R (0:el .u32):=O.2;have aE:S.length=R:=by rw[A,List.length_replicate]
  refine Ak ?_;intro ax Q;have aI:=Q.eq;have f21:=Q.le;refine Bc [] [0,1,5,6,20,21,22] [19] (fun vs bl k=>∃(o:List UInt32) (n V i':Nat) (c L i:Int),vs=[.one (.sl .u32 x),.one (.sl .u32 y),.one (.BK .u32 19 0 0 n),.one (.int .u64 c),.one (.sl .u32 x),AD L,AD i]/\bl=[.arr 0 .u32 o]/\(n=o.length/\o.length=i'/\EJ L x.length/\Ah i i'/\i'<=x.length/\Ah c V/\V<=1)/\AJ o+2^(32*i')*V=AJ (x.take i')+AJ (y.take i')/\k=x.length-i') (x.length-0) ⟨S,R,0,0,0,ax,0,rfl,rfl,⟨by rw[A,List.length_replicate],by rw[A,List.length_replicate,K];rfl,Q,BJ 0,AA,BJ 0,AA⟩,by rw[A,K];simp[AJ],rfl⟩ ?_;rintro J0 ad vs bl aQ ⟨o,n,V,i',c,L,i,rfl,rfl,⟨hn,ho,hL,hi,aO,hc,aN⟩,hinv,r⟩;conv=>cbv
  have eL:=hL.eq;have ei:=hi.eq;have ec:=hc.eq;refine Bt (fun ar=>?_) fun ar=>?_
  ·intro Eh aa;refine .inr ?_;cases Eh <;> conv=>cbv
   ·have av:=HC aa;have r:i'=x.length:=AA
    have g:AJ o=p+q:=by rw[r,Ei (Nat.le_refl _),Ei ag,hx,hy,Bn,Bn,(AA:V=0)] at hinv;omega
    exact AM ⟨⟨rfl,.inr (.inl ⟨_,_,AF,rfl,rfl,hn,rfl,De (by rw[hz,<-J];exact (YK g (by rw[ho,r,hx])).symm) (by rw[ah,hz,<-J,<-YK g (by rw[ho,r,hx])])⟩),trivial⟩,trivial⟩
   have av:=HD aa;intro az ab;conv=>cbv
   have ab:=wrap_u32 ab;obtain⟨B,H⟩:=DF (n:=az) AA;have aC:=H.eq;have aD:=H.lt;refine⟨[B],fun _=>⟨rfl,AF,rfl,⟨rfl,DE H,trivial⟩⟩,.inl ?_⟩;try conv=>cbv
   refine .inl ⟨[B],fun _=>⟨rfl,by (first | rfl | omega),⟨_,rfl,by simp <;> omega,AZ⟩,C2 (o.length+1) 4⟩,?_⟩;intro (ai:List UInt32) aA P;have M:ai=(o:List UInt32)++([B]:List UInt32):=P.1;have ae:aA=List.length (α:=UInt32) ai:=P.2;conv=>cbv
   have r:i'=x.length:=AA
   have g:AJ (o++[B])=p+q:=by rw[FW,(AA:B.toNat=V),ho,<-Bn p,<-Bn q,<-hx,<-hy];rw[r,Ei (Nat.le_refl _),Ei ag] at hinv;rw[r];exact hinv
   have hw:B.toNat≠0:=AA
   exact AM ⟨⟨rfl,.inr (.inl ⟨_,_,AF,rfl,rfl,ae,rfl,De (by rw[hz,<-J,<-g,TF hw,M]) (by rw[ah,hz,<-J,<-g,TF hw,M])⟩),trivial⟩,trivial⟩
  refine .inr ?_;refine BH i' fun al N=>?_
  refine Ak ?_;intro aV Z aW a1;have aJ:=Z.eq;have f26:=Z.lt;have a1:=wrap_u64 a1;intro aj a2;conv=>cbv
  have a2:=wrap_u64 a2;refine Ak ?_;rintro aX ⟨aK,f33⟩ ay a5;refine .inr ?_;cases ay <;> conv=>cbv
  ·have au:=ES a5;intro T C;conv=>cbv
   have C:=wrap_u32 C;obtain⟨f,d⟩:=DF (n:=T) AA;have W:=d.eq;have X:=d.lt;refine⟨[f],fun _=>⟨rfl,AF,rfl,⟨rfl,DE d,trivial⟩⟩,.inl ?_⟩;try conv=>cbv
   refine .inl ⟨[f],fun _=>⟨rfl,by (first | rfl | omega),⟨_,rfl,by simp <;> omega,AZ⟩,C2 (o.length+1) 4⟩,?_⟩;intro (t:List UInt32) I j;have h:t=(o:List UInt32)++([f]:List UInt32):=j.1;have G:I=List.length (α:=UInt32) t:=j.2;refine AP ?_;intro u D;have D:=Fb (p:=4294967296) D rfl;refine AP ?_;intro U ao;refine⟨x.length-(i'+1),?_,?_⟩
   ·omega
   rw[ad];refine⟨t,I,u.toNat,i'+1,u,L,U,rfl,rfl,⟨G,by rw[h];simp;omega,hL,⟨AA⟩,AA,⟨AA⟩,AA⟩,?_,rfl⟩;rw[h,DS N,Ei (l:=y) (i:=i'+1) AA];have hs:=Pw (xi:=al.toNat) (yi:=0) (s:=aj.toNat) (w:=f) ho hinv AA AA;rw[(AA:u.toNat=aj.toNat/4294967296)];rw[hs];rw[Ei (l:=y) (i:=i') AA];omega
  have au:=ET a5;refine BH i' fun aB af=>?_
  refine Ak ?_;intro aY a6 aZ a7;have aL:=a6.eq;have f39:=a6.lt;have a7:=wrap_u64 a7;intro ak a8;conv=>cbv
  have a8:=wrap_u64 a8;intro T C;conv=>cbv
  have C:=wrap_u32 C;obtain⟨f,d⟩:=DF (n:=T) AA;have W:=d.eq;have X:=d.lt;refine⟨[f],fun _=>⟨rfl,AF,rfl,⟨rfl,DE d,trivial⟩⟩,.inl ?_⟩;try conv=>cbv
  refine .inl ⟨[f],fun _=>⟨rfl,by (first | rfl | omega),⟨_,rfl,by simp <;> omega,AZ⟩,C2 (o.length+1) 4⟩,?_⟩;intro (t:List UInt32) I j;have h:t=(o:List UInt32)++([f]:List UInt32):=j.1;have G:I=List.length (α:=UInt32) t:=j.2;refine AP ?_;intro u D;have D:=Fb (p:=4294967296) D rfl;refine AP ?_;intro U ao;refine⟨x.length-(i'+1),?_,?_⟩
  ·omega
  rw[ad];refine⟨t,I,u.toNat,i'+1,u,L,U,rfl,rfl,⟨G,by rw[h];simp;omega,hL,⟨AA⟩,AA,⟨AA⟩,AA⟩,?_,rfl⟩;rw[h,DS N,DS af];have hs:=Pw (xi:=al.toNat) (yi:=aB.toNat) (s:=ak.toNat) (w:=f) ho hinv AA AA;rw[(AA:u.toNat=ak.toNat/4294967296)];rw[hs]
 cases aw <;> conv=>cbv
 ·have aq:=ES Y;rw[F];exact⟨a,b,_,_,rfl,hl,hm,rfl,AA,AA⟩
 have aq:=ET Y;rw[F];exact⟨b,a,_,_,rfl,hm,hl,Nat.add_comm _ _,AA,AA⟩
theorem bR (d:l=BB a) (hm:m=BB b) (f:z=BB (a+b)) (sl:l.length<=17592186044416) (g:m.length<=17592186044416):CF 356 [.one (.sl .u32 l),.one (.sl .u32 m)] (.one (.sl .u32 z)):=ER (bT d hm f rfl sl g)
end
section
variable {b:Bool} {l z:List UInt32} {x:Int}
theorem GW {n:Bool} (r:x=if n=true then -(AJ l:Int) else AJ l) (h:BR x b z):CF 289 [.one (.bool n),.one (.sl .u32 l)] (.agg (B8 b z)):=by
 refine AN Tryz.func289 fun E u=>?_
 obtain⟨A,d⟩:=xU (BB (AJ l));refine AB u (GD rfl d) ?_;intro C g;have B:=g.eq;have f8:=g.le;refine CU (fun t=>?_) fun t=>?_
 ·have j:AJ l≠0:=fun e=>t (by have:=g.eq;rw[d,e] at this;exact this)
  have f:BR x n A:= .val d.symm r (fun e=>absurd e j);exact Eg ((f.uniq h rfl).1.symm) ((f.uniq h rfl).2.symm)
 have j:AJ l=0:=by have e:=g.eq;rw[d] at e;exact Fo.1 (List.length_eq_zero_iff.1 AA)
 have f:BR x false []:= .val (n:=0) rfl (by rw[r,j];simp) (fun _=>rfl);exact AM ⟨⟨rfl,congrArg _ ((f.uniq h rfl).1.symm),.inr (.inl ⟨_,congrArg _ ((f.uniq h rfl).2.symm)⟩),trivial⟩,trivial⟩
theorem MR {n:Int} {k:Nat} (I:Ah n k) (N:k<18446744073709551616) (J:z=BB k):CF 290 [.one (.int .u64 n)] (.one (.sl .u32 z)):=by
 have M:=I.eq;refine AN Tryz.func290 fun E H=>?_
 intro n4 C;have C:=wrap_u32 C;refine AP ?_;intro O D;have D:=Fb (p:=4294967296) D rfl;intro L F;conv=>cbv
 have F:=wrap_u32 F;obtain⟨g,d⟩:=DF (n:=n4) AA;have t:=d.eq;have A:=d.lt;obtain⟨h,f⟩:=DF (n:=L) AA;have u:=f.eq;have B:=f.lt;refine⟨[g,h],fun _=>⟨rfl,AF,rfl,⟨rfl,DE d,⟨rfl,DE f,trivial⟩⟩⟩,.inl ?_⟩;try conv=>cbv
 obtain⟨K,j⟩:=xN ((DB ([g,h].take 2)).length);obtain⟨G,r⟩:=Fv AZ j;refine .inr (.inr (.inl ⟨[],.one (.BK .u32 0 0 0 K),.arr 0 .u32 [g,h],fun _=>⟨by first | decide | simp[DR,DQ],trivial⟩,fun _=>⟨FN H (NA AZ AZ j),rfl,rfl⟩,?_⟩));try conv=>cbv
 exact AM ⟨⟨rfl,.inl ⟨_,rfl,by simp;omega,congrArg _ (by rw[List.drop_zero,r,J];congr 1;simp[AJ];omega)⟩,trivial⟩,trivial⟩
theorem Lv (j:z=l) (C:l.length<=17592186044416):CF 277 [.one (.sl .u32 l)] (.one (.sl .u32 z)):=by
 refine AN Tryz.func277 fun E B=>?_
 intro n4 u;refine⟨fun t=>?_,?_⟩
 ·conv=>cbv
  have g:l=[]:=by rw[u] at t;simpa using t
  exact AM ⟨⟨rfl,.inr (.inl ⟨_,congrArg _ (by rw[j,g])⟩),trivial⟩,trivial⟩
 refine⟨[],fun _=>⟨rfl,AF,rfl,trivial⟩,.inl ?_⟩;try conv=>cbv
 refine .inl ⟨l,fun _=>⟨rfl,by (first | rfl | omega),rfl,C2 (0+l.length) 4⟩,?_⟩;intro (r:List UInt32) A f;have h:r=([]:List UInt32)++(l:List UInt32):=f.1;have d:A=List.length (α:=UInt32) r:=f.2;conv=>cbv
 exact AM ⟨⟨rfl,.inl ⟨_,rfl,by rw[d];simp,congrArg _ (by rw[j,d,h];simp)⟩,trivial⟩,trivial⟩
theorem PB (I: -9223372036854775808<=x/\x<9223372036854775808) (u:BR x b z):CF 224 [AD x] (.agg (B8 b z)):=by
 refine AN Tryz.func224 fun E t=>?_
 intro J C;have C:=wrap_u64 C;intro H D;conv=>cbv
 refine .inr ?_;cases H <;> conv=>cbv
 ·have G:=ES D;intro A j;conv=>cbv
  obtain⟨B,f⟩:=xU (BB x.natAbs);refine AB t (MR (Ah.of (k:=x.natAbs) AA) AA f) ?_;obtain⟨g,h,d⟩:=BQ (x);refine AB (r:= .agg [.bool g,.sl .u32 h]) t (GW (by rw[f,Bn,j];simp;omega) d) ?_;exact Eg ((d.uniq u rfl).1.symm) ((d.uniq u rfl).2.symm)
 have G:=ET D;intro K F;conv=>cbv
 have F:=wrap_u64 F;intro A j;conv=>cbv
 obtain⟨B,f⟩:=xU (BB x.natAbs);refine AB t (MR (Ah.of (k:=x.natAbs) AA) AA f) ?_;obtain⟨g,h,d⟩:=BQ (x);refine AB (r:= .agg [.bool g,.sl .u32 h]) t (GW (by rw[f,Bn,j];simp;omega) d) ?_;exact Eg ((d.uniq u rfl).1.symm) ((d.uniq u rfl).2.symm)
end
section
variable {a b i:Nat} {l m z:List UInt32} {x:UInt32}
theorem TN {y:UInt32} (h:l[i]? =some x) (t:m[i]? =some y) (F:l.length=m.length) (he:AJ (l.drop (i+1))=AJ (m.drop (i+1))) (f:x≠y):
  CR x.toNat y.toNat=CR (AJ l) (AJ m):=by
 have C:=Hd h;have j:=HJ l (i+1) AA;have g:=HJ m (i+1) AA;rw[DS h] at j;rw[DS t] at g;have b1:=DZ (l.take i);have b2:=DZ (m.take i);rw[List.length_take,Nat.min_eq_left AA] at b1 b2;rw[<-he] at g
 generalize AJ (l.drop (i+1))=D at*
 generalize AJ (l.take i)=A at*
 generalize AJ (m.take i)=B at*
 generalize 2^(32*(i+1))*D=Q at*
 generalize u:2^(32*i)=P at*
 have r:x.toNat≠y.toNat:=fun e=>f (UInt32.toNat_inj.1 e)
 by_cases d:x.toNat<y.toNat
 ·have:P*(x.toNat+1)<=P*y.toNat:=Nat.mul_le_mul_left _ d;rw[Nat.mul_add] at this;have:AJ l<AJ m:=AA
  unfold CR;rw[if_pos AA,if_pos AA]
 have:P*(y.toNat+1)<=P*x.toNat:=Nat.mul_le_mul_left _ AA;rw[Nat.mul_add] at this;have:AJ m<AJ l:=AA
 unfold CR;rw[if_neg AA,if_pos AA,if_neg AA,if_pos AA]
theorem TM (h:(BB a).length≠(BB b).length):CR (BB a).length (BB b).length=CR a b:=by
 by_cases d:(BB a).length<(BB b).length
 ·have:a<b:=by
   apply Classical.byContradiction;intro f;have:=FG (a:=b) (b:=a);omega
  unfold CR;rw[if_pos AA,if_pos AA]
 have:b<a:=by
  apply Classical.byContradiction;intro f;have:=FG (a:=a) (b:=b);omega
 unfold CR;rw[if_neg AA,if_pos AA,if_neg AA,if_pos AA]
theorem drop_eq (d:l[i]? =some x) (f:m[i]? =some x) (he:AJ (l.drop (i+1))=AJ (m.drop (i+1))):AJ (l.drop i)=AJ (m.drop i):=by
 have g:=Hd d;have h:=Hd f;rw[List.drop_eq_getElem_cons g,List.drop_eq_getElem_cons h,AJ,AJ,he];rw[List.getElem?_eq_getElem g] at d;rw[List.getElem?_eq_getElem h] at f;rw[Option.some.inj d,Option.some.inj f]
theorem P8 {c:Int} (Q:l=BB a) (hm:m=BB b) (S:c=CR a b):CF 357 [.one (.sl .u32 l),.one (.sl .u32 m)] (AD c):=by
 refine AN Tryz.func357 fun E hE=>?_
 rintro n7 ⟨e7,f7⟩ n9 ⟨e9,f9⟩;refine E2 (fun N=>?_) fun N=>?_
 ·intro V r W t;have a5:=r.eq;have f12:=r.le;have a6:=t.eq;have f14:=t.le;obtain⟨al,d⟩:=xI (CR V W);refine AB hE (Wg d) ?_;exact AO (by rw[d,S,r.eq,t.eq,Q,hm,TM (by rw[<-Q,<-hm];intro e;exact N AA)])
 rintro ai ⟨a7,f17⟩ X ad;refine Bc [] [0,1,5] [] (fun vs bl k=>∃(j:Int) (k':Nat),vs=[.one (.sl .u32 l),.one (.sl .u32 m),AD j]/\(Ah (j+1) k'/\k'<=l.length/\l.length=m.length/\AJ (l.drop k')=AJ (m.drop k'))/\k=k') l.length ⟨X,l.length,rfl,⟨⟨AA⟩,AA,AA,by rw[List.drop_length,(AA:l.length=m.length),List.drop_length]⟩,rfl⟩ ?_;rintro J0 R vs bl ah ⟨j,k',rfl,⟨hj,af,K,P⟩,ag⟩;conv=>cbv
 have ej:=hj.eq;refine J3 (fun U=>?_) fun U=>?_
 ·have hk:k'=0:=AA
  have he:a=b:=by rw[hk] at P;simpa [Q,hm,Bn] using P
  exact AO (by rw[S,he];simp[CR])
 refine .inr ?_;refine BH ((j).toNat) fun B g=>?_
 refine Ak ?_;intro aj H;have G:=H.eq;have f26:=H.lt;refine BH ((j).toNat) fun C h=>?_
 refine AP ?_;intro ak I Z J;have a8:=I.eq;have f30:=I.lt;cases Z <;> conv=>cbv
 ·have O:=HK J;refine AP ?_;intro Y ae;refine⟨k'-1,?_,?_⟩
  ·omega
  rw[R];obtain⟨i',rfl⟩:∃i',k'=i'+1:=⟨k'-1,AA⟩
  refine⟨Y,i',rfl,⟨⟨AA⟩,AA,K,?_⟩,AA⟩;have G:B=C:=UInt32.toNat_inj.1 AA;subst G;exact drop_eq (i:=i') (by rw[<-g];congr 1;omega) (by rw[<-h];congr 1;omega) P
 have O:=HM J;refine BH ((j).toNat) fun D L=>?_
 refine Ak ?_;intro a1 u;have aa:=u.eq;have f35:=u.lt;refine BH ((j).toNat) fun F M=>?_
 refine Ak ?_;intro a2 A;have ab:=A.eq;have f39:=A.lt;obtain⟨an,f⟩:=xI (CR a1 a2);refine AB hE (gE f) ?_;obtain⟨i',rfl⟩:∃i',k'=i'+1:=⟨k'-1,AA⟩
 have e1:l[i']? =some D:=by rw[<-L];congr 1;omega
 have e2:m[i']? =some F:=by rw[<-M];congr 1;omega
 have e3:l[i']? =some B:=by rw[<-g];congr 1;omega
 have e4:m[i']? =some C:=by rw[<-h];congr 1;omega
 obtain rfl:D=B:=Option.some.inj (e1.symm.trans e3);obtain rfl:F=C:=Option.some.inj (e2.symm.trans e4);have T:D≠F:=fun e=>by subst e;exact O AA
 exact AO (by rw[f,S,u.eq,A.eq,TN e1 e2 K P T,Q,hm,Bn,Bn])
theorem Ul (hl:l=BB a) (hm:m=BB b) (hz:z=BB (a-b)) (a8:b<=a) (sl:l.length<=17592186044416):CF 358 [.one (.sl .u32 l),.one (.sl .u32 m)] (.one (.sl .u32 z)):=by
 have ab:m.length<=l.length:=by rw[hl,hm];exact FG a8
 refine AN Tryz.func358 fun E hE=>?_
 rintro az ⟨al,f11⟩;refine⟨fun _=>⟨AA,AA,by show _*4<=140737488355328;omega⟩,?_⟩;intro J (K:List UInt32) G;have ak:=G.1;have u:K=List.replicate J (0:el .u32):=G.2;have aj:K.length=J:=by rw[u,List.length_replicate]
 refine Ak ?_;intro ag H;have an:=H.eq;have f14:=H.le;refine Bc [] [0,1,5,6,13,14,15] [12] (fun vs bl k=>∃(o:List UInt32) (n C i':Nat) (c L i:Int),vs=[.one (.sl .u32 l),.one (.sl .u32 m),.one (.BK .u32 12 0 0 n),.one (.int .u64 c),.one (.sl .u32 l),AD L,AD i]/\bl=[.arr 0 .u32 o]/\(o.length=l.length/\n=o.length/\EJ L l.length/\Ah i i'/\i'<=l.length/\Ah c C/\C<=1)/\AJ (o.take i')+AJ (m.take i')=AJ (l.take i')+2^(32*i')*C/\k=l.length-i') (l.length-0) ⟨K,J,0,0,0,ag,0,rfl,rfl,⟨by rw[u,List.length_replicate];omega,by rw[u,List.length_replicate],H,BJ 0,AA,BJ 0,AA⟩,by simp[AJ],rfl⟩ ?_;rintro J0 Z vs bl ay ⟨o,n,C,i',c,L,i,rfl,rfl,⟨ho,hn,hL,hi,av,hc,au⟩,hinv,aw⟩;conv=>cbv
 have eL:=hL.eq;have ei:=hi.eq;have ec:=hc.eq;refine Bt (fun ad=>?_) fun ad=>?_
 ·have A:n<=(o).length:=AA
  obtain⟨af,D⟩:=xN ((DB ((o).take n)).length);obtain⟨aa,I⟩:=Fv A D;refine .inr (.inr (.inl ⟨[],.one (.BK .u32 0 0 0 af),.arr 0 .u32 o,fun _=>⟨by first | decide | simp[DR,DQ],trivial⟩,fun _=>⟨FN hE (NA A AA D),rfl,rfl⟩,?_⟩));try conv=>cbv
  have hk:i'=l.length:=AA
  have a1:AJ (o.take n)=a-b:=by rw[hk,Ei ab,Ei (Nat.le_refl _),hm,hl,Bn,Bn,<-hl,<-ho,List.take_length] at hinv;have ax:=DZ o;generalize 2^(32*o.length)=P at *;rw[hn,List.take_length];rcases (by omega:C=0\/C=1) with e | e <;> rw[e] at hinv <;> omega
  exact AM ⟨⟨rfl,.inl ⟨_,rfl,AA,congrArg _ (by rw[List.drop_zero,I,a1,hz])⟩,trivial⟩,trivial⟩
 refine .inr ?_;refine BH i' fun a6 F=>?_
 refine Ak ?_;intro aA S aB T;have ao:=S.eq;have f19:=S.lt;have T:=wrap_u64 T;intro aC U;conv=>cbv
 have U:=wrap_u64 U;refine Ak ?_;rintro aD ⟨aq,f26⟩ ah V;refine .inr ?_;cases ah <;> conv=>cbv
 ·have ae:=ES V;intro M r;conv=>cbv
  have r:=wrap_u32 r;refine AP ?_;intro B a2;obtain⟨j,f⟩:=DF (n:=M) AA;have O:=f.eq;have Q:=f.lt;refine⟨j,fun _=>⟨by show _<List.length (α:=UInt32) o;(first | omega | (simp;omega)),DE f⟩,?_⟩;intro (g:List UInt32) (d:g=List.set (α:=UInt32) o B j);have R:g.length=o.length:=by rw[d,List.length_set]
  refine AP ?_;intro h t;have t:=Fb (p:=9223372036854775808) t rfl;refine AP ?_;intro N a7;refine⟨l.length-(i'+1),?_,?_⟩
  ·omega
  rw[Z];refine⟨g,n,h.toNat,i'+1,h,L,N,rfl,rfl,⟨by rw[d,List.length_set];exact ho,by rw[d,List.length_set];exact hn,hL,⟨AA⟩,AA,⟨AA⟩,AA⟩,?_,rfl⟩;have hs:=Mg (w:=j) (o:=o) (i:=i') (xi:=a6.toNat) (yi:=0) (G8:=C) (G9:=h.toNat) AA hinv AA;rw[d,(AA:B=i'),DS F,<-hs,Ei (l:=m) (i:=i'+1) AA,Ei (l:=m) (i:=i') AA,Nat.mul_zero]
  rfl
 have ae:=ET V;refine BH i' fun ai a5=>?_
 refine Ak ?_;intro aE W aF X;have ar:=W.eq;have f32:=W.lt;have X:=wrap_u64 X;intro aG Y;conv=>cbv
 have Y:=wrap_u64 Y;intro M r;conv=>cbv
 have r:=wrap_u32 r;refine AP ?_;intro B a2;obtain⟨j,f⟩:=DF (n:=M) AA;have O:=f.eq;have Q:=f.lt;refine⟨j,fun _=>⟨by show _<List.length (α:=UInt32) o;(first | omega | (simp;omega)),DE f⟩,?_⟩;intro (g:List UInt32) (d:g=List.set (α:=UInt32) o B j);have R:g.length=o.length:=by rw[d,List.length_set]
 refine AP ?_;intro h t;have t:=Fb (p:=9223372036854775808) t rfl;refine AP ?_;intro N a7;refine⟨l.length-(i'+1),?_,?_⟩
 ·omega
 rw[Z];refine⟨g,n,h.toNat,i'+1,h,L,N,rfl,rfl,⟨by rw[d,List.length_set];exact ho,by rw[d,List.length_set];exact hn,hL,⟨AA⟩,AA,⟨AA⟩,AA⟩,?_,rfl⟩;have hs:=Mg (w:=j) (o:=o) (i:=i') (xi:=a6.toNat) (yi:=ai.toNat) (G8:=C) (G9:=h.toNat) AA hinv AA;rw[d,(AA:B=i'),DS F,<-hs,DS a5]
theorem th (hl:l=BB a) (hm:m=BB b) (hz:z=BB (a*b)) (sl:l.length<=17592186044416) (sm:m.length<=17592186044416):CF 359 [.one (.sl .u32 l),.one (.sl .u32 m)] (.one (.sl .u32 z)):=by
 refine AN Tryz.func359 fun E hE=>?_
 rintro n12 ⟨e12,f12⟩ n13 h13;cases n13 <;> conv=>cbv
 ·have k13:=Bm h13;rintro n16 ⟨e16,f16⟩;conv=>cbv
  refine BV (fun k17=>?_) fun k17=>?_
  ·have h0:b=0:=Fo.1 (by rw[<-hm];exact List.length_eq_zero_iff.1 AA);exact AM ⟨⟨rfl,.inr (.inl ⟨_,congrArg _ (by rw[hz,h0];rfl)⟩),trivial⟩,trivial⟩
  rintro n20 ⟨e20,f20⟩ n22 ⟨e22,f22⟩ n23 h23;refine⟨fun _=>⟨AA,AA,by show _*4<=140737488355328;omega⟩,?_⟩;intro k24 (l24:List UInt32) ql24;have hk24:=ql24.1;have hl24:l24=List.replicate k24 (0:el .u32):=ql24.2;have gl24:l24.length=k24:=by rw[hl24,List.length_replicate]
  refine Ak ?_;intro n26 h26;have e26:=h26.eq;have f26:=h26.le;refine Bc [] [0,1,5,25,26,27] [24] (fun vs bl k=>∃(o:List UInt32) (n i':Nat) (L i:Int),vs=[.one (.sl .u32 l),.one (.sl .u32 m),.one (.BK .u32 24 0 0 n),.one (.sl .u32 l),AD L,AD i]/\bl=[.arr 0 .u32 o]/\(o.length=l.length+m.length/\n=o.length/\EJ L l.length/\Ah i i'/\i'<=l.length)/\AJ (o.take (i'+m.length))=AJ (l.take i')*AJ m/\k=l.length-i') (l.length-0) ⟨l24,k24,0,n26,0,rfl,rfl,⟨by rw[hl24,List.length_replicate];omega,by rw[hl24,List.length_replicate],h26,BJ 0,AA⟩,by rw[hl24,List.take_replicate,Jj];simp[AJ],rfl⟩ ?_;rintro J0 hJ0 vs bl kk0 ⟨o,n,i',L,i,rfl,rfl,⟨ho,hn,hL,hi,hiL⟩,hinv,hk0⟩;conv=>cbv
  have eL:=hL.eq;have ei:=hi.eq;refine Bt (fun k28=>?_) fun k28=>?_
  ·have hnl74:n<=(o).length:=AA
   obtain⟨m74,hm74⟩:=xN ((DB ((o).take n)).length);obtain⟨hle74,htk74⟩:=Fv hnl74 hm74;refine .inr (.inr (.inl ⟨[],.one (.BK .u32 0 0 0 m74),.arr 0 .u32 o,fun _=>⟨by first | decide | simp[DR,DQ],trivial⟩,fun _=>⟨FN hE (NA hnl74 AA hm74),rfl,rfl⟩,?_⟩));try conv=>cbv
   have hfin:AJ (o.take n)=a*b:=by rw[(AA:i'=l.length),List.take_length,hl,hm,Bn,Bn,<-hl,<-hm,<-ho,List.take_length] at hinv;rw[hn,List.take_length,hinv]
   exact AM ⟨⟨rfl,.inl ⟨_,rfl,AA,congrArg _ (by rw[List.drop_zero,htk74,hfin,hz])⟩,trivial⟩,trivial⟩
  refine .inr ?_;refine BH i' fun x30 hx30=>?_
  refine Ak ?_;intro n31 h31 n33 h33;have e31:=h31.eq;have f31:=h31.lt;have e33:=h33.eq;have f33:=h33.le;refine Bc [] [0,1,5,6,7,8,25,26,27,32,33,34] [24] (fun vs bl k=>∃(o1:List UInt32) (n1 c' k':Nat) (c L1 i1:Int),vs=[.one (.sl .u32 l),.one (.sl .u32 m),.one (.BK .u32 24 0 0 n1),AD i,.one (.int .u32 n31),.one (.int .u64 c),.one (.sl .u32 l),AD L,AD i,.one (.sl .u32 m),AD L1,AD i1]/\bl=[.arr 0 .u32 o1]/\(o1.length=l.length+m.length/\n1=o1.length/\EJ L1 m.length/\Ah i1 k'/\k'<=m.length/\Ah c c'/\c'<4294967296)/\AJ (o1.take (i'+m.length))+2^(32*(i'+k'))*c'=AJ (l.take i')*AJ m+x30.toNat*2^(32*i')*AJ (m.take k')/\k=m.length-k') (m.length-0) ⟨o,n,0,0,0,n33,0,rfl,rfl,⟨ho,hn,h33,BJ 0,AA,BJ 0,AA⟩,by rw[hinv];simp[AJ],rfl⟩ ?_;rintro J1 hJ1 vs bl kk1 ⟨o1,n1,c',k',c,L1,i1,rfl,rfl,⟨ho1,hn1,hL1,hi1,hiL1,hc,hc1⟩,hinv1,hk1⟩
  conv=>cbv
  have eL1:=hL1.eq;have ei1:=hi1.eq;have ec:=hc.eq;refine Bt (fun k35=>?_) fun k35=>?_
  ·rintro n67 ⟨e67,f67⟩ n68 h68 n70 h70;have h70:=wrap_u32 h70;refine AP ?_;intro j71 hj71;obtain⟨w71,hw71⟩:=DF (n:=n70) AA;have ew71:=hw71.eq;have fw71:=hw71.lt;refine⟨w71,fun _=>⟨by show _<List.length (α:=UInt32) o1;(first | omega | (simp;omega)),DE hw71⟩,?_⟩;intro (l71:List UInt32) (hl71:l71=List.set (α:=UInt32) o1 j71 w71);have gl71:l71.length=o1.length:=by rw[hl71,List.length_set]
   refine AP ?_;intro n72 h72;refine⟨l.length-(i'+1),?_,?_⟩
   ·omega
   rw[hJ0];refine⟨l71,n1,i'+1,L,n72,rfl,rfl,⟨by rw[hl71,List.length_set];exact ho1,by rw[hl71,List.length_set];exact hn1,hL,⟨AA⟩,AA⟩,?_,rfl⟩;have hk:k'=m.length:=AA
   have hlen:i'+m.length<o1.length:=AA
   rw[hl71,(AA:i'+1+m.length=i'+m.length+1),(AA:j71=i'+m.length),GQ hlen,FW,List.length_take,Nat.min_eq_left AA,(AA:w71.toNat=c')];rw[hk] at hinv1;rw[hinv1,List.take_length,DS hx30]
   grind
  refine .inr ?_;refine BH k' fun x37 hx37=>?_
  refine Ak ?_;intro n38 h38 n41 h41;have e38:=h38.eq;have f38:=h38.lt;have h41:=wrap_u64 h41;intro n43 h43;conv=>cbv
  have h43:=wrap_u64 h43;have ep:n41*n43=((x30.toNat*x37.toNat:Nat):Int):=by rw[Int.natCast_mul];congr 1 <;> omega
  have bp:x30.toNat*x37.toNat<=4294967295*4294967295:=Nat.mul_le_mul AA AA;intro n44 h44;conv=>cbv
  have h44:=wrap_u64 h44;refine AP ?_;intro n48 h48 j49 hj49;obtain⟨x50,hx50⟩:=Cq (l:=o1) (i:=j49) AA;refine⟨x50,fun _=>hx50,?_⟩;refine Ak ?_;intro n50 h50 Eh h51;have e50:=h50.eq;have f50:=h50.lt;have h51:=wrap_u64 h51;intro n52 h52;conv=>cbv
  have h52:=wrap_u64 h52;intro DY h53;conv=>cbv
  have h53:=wrap_u64 h53;refine AP ?_;intro n57 h57 n59 h59;have h59:=wrap_u32 h59;refine AP ?_;intro j60 hj60;obtain⟨w60,hw60⟩:=DF (n:=n59) AA;have ew60:=hw60.eq;have fw60:=hw60.lt;refine⟨w60,fun _=>⟨by show _<List.length (α:=UInt32) o1;(first | omega | (simp;omega)),DE hw60⟩,?_⟩;intro (l60:List UInt32) (hl60:l60=List.set (α:=UInt32) o1 j60 w60);have gl60:l60.length=o1.length:=by rw[hl60,List.length_set]
  refine AP ?_;intro n62 h62;have h62:=Fb (p:=4294967296) h62 rfl;refine AP ?_;intro n63 h63;refine⟨m.length-(k'+1),?_,?_⟩
  ·omega
  rw[hJ1];refine⟨l60,n1,n62.toNat,k'+1,n62,L1,n63,rfl,rfl,⟨by rw[hl60,List.length_set];exact ho1,by rw[hl60,List.length_set];exact hn1,hL1,⟨AA⟩,AA,⟨AA⟩,AA⟩,?_,rfl⟩;have hj:j60=i'+k':=AA
  have hj2:j49=i'+k':=AA
  rw[hj2] at hx50;rw[hl60,hj,DS hx37,(AA:i'+(k'+1)=i'+k'+1)];refine WH (q:=x50) (xi:=x30.toNat) (yk:=x37.toNat) (old:=x50.toNat) (c:=c') rfl AA hx50 rfl hinv1 ?_ rfl;rw[ep] at h44;omega
 have k13:=Bp h13;have h0:a=0:=Fo.1 (by rw[<-hl];exact List.length_eq_zero_iff.1 (by have k13:=Bp h13;omega));exact AM ⟨⟨rfl,.inr (.inl ⟨_,congrArg _ (by rw[hz,h0,Nat.zero_mul];rfl)⟩),trivial⟩,trivial⟩
end
section
variable {b b1 b2 b3 c:Bool} {l l1 l2 l3 z:List UInt32} {x y:Int}
theorem uK {i:Nat} {x:UInt32} {n:Int} (g:l[i]? =some x) (h:i+1=l.length) (f:n=x.toNat):Gp b l=(n !=0):=by
 have d:l.getLast? =some x:=by rw[List.getLast?_eq_getElem?,<-g];congr 1;omega
 unfold Gp;rw[d,f]
 show (x !=0)=_
 rw[Bool.eq_iff_iff];simp only[bne_iff_ne,ne_eq];rw[<-UInt32.toNat_inj]
 show ¬x.toNat=0↔_
 omega
theorem gb (B:x=if b=true then -(AJ l:Int) else AJ l) (A:l.length<=17592186044416) (u:BR x c z):CF 286 [.agg (B8 b l)] (.agg (B8 c z)):=by
 refine AN Tryz.func286 fun E h=>?_
 obtain⟨C,d⟩:=xU (BB (AJ l));refine AB h (GD rfl d) ?_;obtain⟨D,g⟩:=xU C;refine AB (r:= .one (.sl .u32 D)) h (Lv g (by rw[d,<-M7];exact Nat.le_trans (Ru l) A)) ?_;obtain⟨j,t,f⟩:=BQ (x);refine AB (r:= .agg [.bool j,.sl .u32 t]) h (GW (by rw[g,d,Bn];exact B) f) ?_;exact Eg ((f.uniq u rfl).1.symm) ((f.uniq u rfl).2.symm)
theorem Ws (u:BR x b l) (C:l.length<=17592186044416) (A:BR (-x) c z):CF 311 [.agg (B8 b l)] (.agg (B8 c z)):=by
 refine AN Tryz.func311 fun E t=>?_
 intro G B;obtain⟨D,f⟩:=xU (BB (AJ l));refine AB t (GD rfl f) ?_;have t8:D=l:=by rw[f];exact u.trim
 obtain⟨F,g⟩:=xU l;refine AB (r:= .one (.sl .u32 F)) t (Lv (g.trans t8.symm) (by rw[t8];exact C)) ?_;obtain⟨h,j,d⟩:=BQ (-x);refine AB (r:= .agg [.bool h,.sl .u32 j]) t (GW (by rw[g,B];exact di u.Fa) d) ?_;exact Eg ((d.uniq A rfl).1.symm) ((d.uniq A rfl).2.symm)
theorem iD {c:Int} (r:x=if b=true then -(AJ l:Int) else AJ l) (j:c=DM x):CF 307 [.agg (B8 b l)] (AD c):=by
 refine AN Tryz.func307 fun E t=>?_
 refine .inr ?_;obtain⟨C,d⟩:=xU (BB (AJ l));refine AB t (GD rfl d) ?_;rintro B ⟨f,f7⟩ A h;cases A <;> conv=>cbv
 ·have u:=Bm h;cases b <;> conv=>cbv
  ·have g:AJ l≠0:=fun e=>by rw[d,e] at f;exact (Bm h) f
   exact AO (by rw[j,Rg r g];rfl)
  have g:AJ l≠0:=fun e=>by rw[d,e] at f;exact (Bm h) f
  exact AO (by rw[j,Rg r g];rfl)
 have u:=Bp h;have g:AJ l=0:=by rw[d] at f;exact Fo.1 (List.length_eq_zero_iff.1 AA)
 exact AO (by rw[j,r,g];unfold DM;simp)
theorem NT {c:Int} (f:BR x b l) (d:c=DM x):CF 307 [.agg (B8 b l)] (AD c):=iD f.Fa d
theorem Wu (f:BR x b l) (d:l.length<=17592186044416) (g:BR x c z):CF 286 [.agg (B8 b l)] (.agg (B8 c z)):=gb f.Fa d g
theorem Wf {c:Int} (B:BR x b1 l1) (C:BR y b2 l2) (H:c=CR x y):CF 347 [.agg (B8 b1 l1),.agg (B8 b2 l2)] (AD c):=by
 refine AN Tryz.func347 fun E u=>?_
 obtain⟨L,f⟩:=xI (DM x);refine AB u (NT B f) ?_;obtain⟨D,d⟩:=xI (DM y);refine AB u (NT C d) ?_;refine E2 (fun t=>?_) fun t=>?_
 ·obtain⟨J,h⟩:=xI (CR L D);refine AB u (Wg h) ?_;exact AO (by rw[H,h,f,d];exact lG (by rw[<-f,<-d];exact t))
 obtain⟨F,j⟩:=xU (BB (AJ l1));refine AB u (GD rfl j) ?_;have t20:F=l1:=by rw[j];exact B.trim
 obtain⟨G,r⟩:=xU (BB (AJ l2));refine AB u (GD rfl r) ?_;have t23:G=l2:=by rw[r];exact C.trim
 obtain⟨K,g⟩:=xI (CR x.natAbs y.natAbs);refine AB u (P8 (t20.trans B.B9) (t23.trans C.B9) g) ?_;intro I A;refine⟨fun _=>by rw[A,f,g];exact sj _ _ _,?_⟩;refine g2 rfl ?_;exact AO (by rw[H,A,f,g];exact lH (by rw[<-f,<-d];exact t))
theorem SE (F:BR x b1 l1) (G:BR y b2 l2) (H:BR (x+y) b3 l3) (s1:l1.length<=17592186044416) (s2:l2.length<=17592186044416):CF 338 [.agg (B8 b1 l1),.agg (B8 b2 l2)] (.agg (B8 b3 l3)):=by
 refine AN Tryz.func338 fun E t=>?_
 obtain⟨W,J⟩:=xU (BB (AJ l1));refine AB t (GD rfl J) ?_;have t9:W=l1:=by rw[J];exact F.trim
 obtain⟨R,A⟩:=xU (BB (AJ l2));refine AB t (GD rfl A) ?_;have t12:R=l2:=by rw[A];exact G.trim
 refine AP ?_;intro Q I;cases Q <;> conv=>cbv
 ·have u:=Sz I;obtain⟨V,f⟩:=xI (CR x.natAbs y.natAbs);refine AB t (P8 (t9.trans F.B9) (t12.trans G.B9) f) ?_;refine Bt (fun d=>?_) fun d=>?_
  ·obtain⟨U,D⟩:=xU (BB (x.natAbs-y.natAbs));refine AB (r:= .one (.sl .u32 U)) t (Ul (t9.trans F.B9) (t12.trans G.B9) D (by rw[f] at d;have:=KF d;omega) (by rw[t9];exact s1)) ?_;obtain⟨M,P,j⟩:=BQ (x+y);refine AB (r:= .agg [.bool M,.sl .u32 P]) t (GW (by rw[D,Bn,Int.add_comm];rw[f] at d;exact PZ G.neg F.neg (Ne.symm u) (by have:=KF d;omega)) j) ?_;exact Eg ((j.uniq H rfl).1.symm) ((j.uniq H rfl).2.symm)
  obtain⟨T,C⟩:=xU (BB (y.natAbs-x.natAbs));refine AB (r:= .one (.sl .u32 T)) t (Ul (t12.trans G.B9) (t9.trans F.B9) C (by rw[f] at d;have:=KG d;omega) (by rw[t12];exact s2)) ?_;obtain⟨L,O,h⟩:=BQ (x+y);refine AB (r:= .agg [.bool L,.sl .u32 O]) t (GW (by rw[C,Bn];rw[f] at d;exact PZ F.neg G.neg u (by have:=KG d;omega)) h) ?_;exact Eg ((h.uniq H rfl).1.symm) ((h.uniq H rfl).2.symm)
 have u:=TA I;obtain⟨S,B⟩:=xU (BB (x.natAbs+y.natAbs));refine AB (r:= .one (.sl .u32 S)) t (bR (t9.trans F.B9) (t12.trans G.B9) B (by rw[t9];exact s1) (by rw[t12];exact s2)) ?_;obtain⟨K,N,g⟩:=BQ (x+y);refine AB (r:= .agg [.bool K,.sl .u32 N]) t (GW (by rw[B,Bn];exact add_same F.neg (u.trans G.neg)) g) ?_;exact Eg ((g.uniq H rfl).1.symm) ((g.uniq H rfl).2.symm)
theorem Ga (A:BR x b1 l1) (B:BR y b2 l2) (G:BR (x*y) b3 l3) (s1:l1.length<=17592186044416) (s2:l2.length<=17592186044416):CF 339 [.agg (B8 b1 l1),.agg (B8 b2 l2)] (.agg (B8 b3 l3)):=by
 refine AN Tryz.func339 fun E u=>?_
 intro I H;obtain⟨C,f⟩:=xU (BB (AJ l1));refine AB u (GD rfl f) ?_;have t12:C=l1:=by rw[f];exact A.trim
 obtain⟨D,g⟩:=xU (BB (AJ l2));refine AB u (GD rfl g) ?_;have t15:D=l2:=by rw[g];exact B.trim
 obtain⟨F,h⟩:=xU (BB (x.natAbs*y.natAbs));refine AB (r:= .one (.sl .u32 F)) u (th (t12.trans A.B9) (t15.trans B.B9) h (by rw[t12];exact s1) (by rw[t15];exact s2)) ?_;obtain⟨j,t,d⟩:=BQ (x*y);refine AB (r:= .agg [.bool j,.sl .u32 t]) u (GW (by rw[h,Bn,H];exact aR A.neg B.neg) d) ?_;exact Eg ((d.uniq G rfl).1.symm) ((d.uniq G rfl).2.symm)
theorem XB (A:c=Gp b l):CF 341 [.agg (B8 b l)] (.one (.bool c)):=by
 refine AN Tryz.func341 fun E H=>?_
 rintro I ⟨G,f6⟩;refine CU (fun F=>?_) fun F=>?_
 ·refine Fw (fun h=>?_) fun h=>?_
  ·exfalso;omega
  intro j u;refine BH ((j).toNat) fun D f=>?_
  refine Ak ?_;intro B d C t;have r:=d.eq;have f23:=d.lt;exact AO (by rw[A,t];exact uK f AA r)
 refine HT (fun g=>?_) fun g=>?_
 ·exact AO (by rw[A,List.eq_nil_of_length_eq_zero (by omega:l.length=0),g];rfl)
 refine Fw (fun h=>?_) fun h=>?_
 ·exact AO (by rw[A,List.eq_nil_of_length_eq_zero (by omega:l.length=0),g];rfl)
 intro j u;refine BH ((j).toNat) fun D f=>?_
 refine Ak ?_;intro B d C t;have r:=d.eq;have f23:=d.lt
 exfalso;omega
end
section
variable {a b n:Int} {e p q:Nat}
theorem Vy (h:n=IntKind.u64.wrap (a*2^min b.toNat IntKind.u64.bits)) (ha:a=p) (hb:b=e) (he:e<=64:=by omega):n=((p*2^e%18446744073709551616:Nat):Int):=by
 have d:min b.toNat IntKind.u64.bits=e:=by rw[hb];show min e 64=e;omega
 have f:=wrap_u64 h;rw[f,d,ha];simp
theorem Vx (h:n=IntKind.u32.wrap (a*2^min b.toNat IntKind.u32.bits)) (ha:a=p) (hb:b=e) (he:e<=32:=by omega):n=((p*2^e%4294967296:Nat):Int):=by
 have d:min b.toNat IntKind.u32.bits=e:=by rw[hb];show min e 32=e;omega
 have f:=wrap_u32 h;rw[f,d,ha];simp
theorem shr_var {m:Nat} (h:n=a.fdiv (2^min b.toNat m)) (ha:a=p) (hb:b=e) (he:e<=m):n=((p/2^e:Nat):Int):=by
 have d:min b.toNat m=e:=by rw[hb];simp;omega
 rw[h,d,ha,Int.fdiv_eq_ediv_of_nonneg _ (by have:=Int.pow_pos (n:=2) (m:=e) AF;omega)];simp
theorem RG (h:n=IntKind.u32.wrap (BitVec.ofInt IntKind.u32.bits a ||| BitVec.ofInt IntKind.u32.bits b).toNat) (ha:a=p) (hb:b=q) (f:p<4294967296) (g:q<4294967296):n=((p ||| q:Nat):Int):=by
 have d:=wrap_u32 h;rw[d,ha,hb]
 have e1:(BitVec.ofInt IntKind.u32.bits (p:Int) ||| BitVec.ofInt IntKind.u32.bits (q:Int)).toNat=p ||| q:=by
  rw[BitVec.toNat_or,BitVec.toNat_ofInt,BitVec.toNat_ofInt]
  show ((p:Int)%4294967296).toNat ||| ((q:Int)%4294967296).toNat=_
  congr 1 <;> omega
 rw[e1];have:p ||| q<2^32:=Nat.or_lt_two_pow f g
 omega
theorem bJ (h:n=IntKind.u64.wrap (BitVec.ofInt IntKind.u64.bits a ||| BitVec.ofInt IntKind.u64.bits b).toNat) (ha:a=p) (hb:b=q) (f:p<18446744073709551616) (g:q<18446744073709551616):n=((p ||| q:Nat):Int):=by
 have d:=wrap_u64 h;rw[d,ha,hb]
 have e1:(BitVec.ofInt IntKind.u64.bits (p:Int) ||| BitVec.ofInt IntKind.u64.bits (q:Int)).toNat=p ||| q:=by
  rw[BitVec.toNat_or,BitVec.toNat_ofInt,BitVec.toNat_ofInt]
  show ((p:Int)%18446744073709551616).toNat ||| ((q:Int)%18446744073709551616).toNat=_
  congr 1 <;> omega
 rw[e1];have:p ||| q<2^64:=Nat.or_lt_two_pow f g
 omega
theorem La (h:n=IntKind.u64.wrap (BitVec.ofInt IntKind.u64.bits a ||| BitVec.ofInt IntKind.u64.bits b).toNat) (ha:a=((p*4294967296:Nat):Int)) (hb:b=q) (g:p<4294967296) (f:q<4294967296):n=((q+4294967296*p:Nat):Int):=by
 rw[bJ h ha hb AA AA,Nat.or_comm,Nat.mul_comm];have:=Mo (a:=q) (b:=p) (d:=32) f;exact congrArg _ this
end
section
variable {l z:List UInt32} {n zn:Nat} {s:Int}
theorem dk (hs:Ah s n) (hn:n<=31) (aO:z.length=l.length) (ah:AJ z=AJ l/2^n) (aP:zn=z.length) (sl:l.length<=17592186044416):CF 367 [.one (.sl .u32 l),AD s] (.one (.own .u32 z zn)):=by
 have es:=hs.eq;refine AN Tryz.func367 fun E hE=>?_
 rintro n9 ⟨e9,f9⟩;refine⟨fun _=>⟨AA,AA,by show _*4<=140737488355328;omega⟩,?_⟩;intro M (N:List UInt32) H;have aD:=H.1;have u:N=List.replicate M (0:el .u32):=H.2;have ax:N.length=M:=by rw[u,List.length_replicate]
 refine Ak ?_;intro ak I;have aF:=I.eq;have f12:=I.le;refine Bc [] [0,1,5,11,12,13] [10] (fun vs bl k=>∃(o:List UInt32) (m i':Nat) (L i:Int),vs=[.one (.sl .u32 l),AD s,.one (.BK .u32 10 0 0 m),.one (.sl .u32 l),AD L,AD i]/\bl=[.arr 0 .u32 o]/\(o.length=l.length/\m=o.length/\EJ L l.length/\Ah i i'/\i'<=l.length)/\AJ (o.take i')=AJ l/2^n%2^(32*i')/\k=l.length-i') (l.length-0) ⟨N,M,0,ak,0,rfl,rfl,⟨by rw[u,List.length_replicate];omega,by rw[u,List.length_replicate],I,BJ 0,AA⟩,by simp[AJ,Nat.mod_one],rfl⟩ ?_;rintro J0 a1 vs bl aQ ⟨o,m,i',L,i,rfl,rfl,⟨ho,hm,hL,hi,aM⟩,hinv,aN⟩;conv=>cbv
 have eL:=hL.eq;have ei:=hi.eq;refine Bt (fun ai=>?_) fun ai=>?_
 ·have hk:i'=l.length:=AA
  have a5:AJ o=AJ l/2^n:=by rw[hk,<-ho,List.take_length,ho] at hinv;rw[hinv];exact Nat.mod_eq_of_lt (Nat.lt_of_le_of_lt (Nat.div_le_self _ _) (DZ l))
  exact AM ⟨⟨rfl,.inr (.inl ⟨_,_,AF,rfl,rfl,hm,rfl,De (OU AA (by rw[ah,a5])) AA⟩),trivial⟩,trivial⟩
 refine .inr ?_;refine BH i' fun t G=>?_
 refine AP ?_;intro aR T ab U;have aG:=T.eq;have f17:=T.lt;obtain⟨aq,g,U⟩:∃q:Nat,q=t.toNat/2^n/\ab=q:=⟨_,rfl,shr_var U AA AA (by show n<=32;omega)⟩
 have aE:aq<=t.toNat:=by rw[g];exact Nat.div_le_self _ _
 refine AP ?_;intro D aA;obtain⟨F,A⟩:=DF (n:=ab) AA;have ar:=A.eq;have av:=A.lt;refine⟨F,fun _=>⟨by show _<List.length (α:=UInt32) o;(first | omega | (simp;omega)),DE A⟩,?_⟩;intro (h:List UInt32) (d:h=List.set (α:=UInt32) o D F);have ay:h.length=o.length:=by rw[d,List.length_set]
 refine AP ?_;rintro aS aJ aT ⟨aH,f27⟩ al V;refine .inr ?_;cases al <;> conv=>cbv
 ·have aj:=ES V;refine AP ?_;intro R af;refine⟨l.length-(i'+1),?_,?_⟩
  ·omega
  rw[a1]
  have ew:(F.toNat)=t.toNat/2^n+0*2^(32-n)%4294967296:=by
   rw[Nat.zero_mul,<-g];omega
  refine⟨h,m,i'+1,L,R,rfl,rfl,⟨by rw[d,List.length_set];exact ho,by rw[d,List.length_set];exact hm,hL,⟨AA⟩,AA⟩,?_,rfl⟩;rw[d,(AA:D=i'),GQ AA,FW,List.length_take,Nat.min_eq_left AA,hinv,Rv,ew];rw[Nat.div_div_eq_div_mul,Nat.mul_comm (2^n),<-Nat.div_div_eq_div_mul,QF (by omega:i'<=l.length),Eu G,List.drop_eq_nil_of_le (by omega:l.length<=i'+1)];rw[<-du (y:=0) (r:=0) AA hn];simp[AJ]
 have aj:=ET V;refine AP ?_;intro a8 aB;obtain⟨ad,C⟩:=Cq (l:=h) (i:=a8) AA;refine⟨ad,fun _=>C,?_⟩;refine AP ?_;intro aU W aV aK;have ae:=W.eq;have f32:=W.lt;refine BH ((i'+1)) fun f a7=>?_
 refine Ak ?_;intro aW X aX Y;have aI:=X.eq;have f37:=X.lt;have Y:=wrap_u64 Y;refine AP ?_;intro aY aL an J;obtain⟨aZ,a6,J⟩:∃q:Nat,q=f.toNat*2^(32-n)%18446744073709551616/\an=q:=⟨_,rfl,Vy J AA AA⟩
 intro ao K;conv=>cbv
 have K:=wrap_u32 K;intro P Z;conv=>cbv
 have bo:0<=P/\P<4294967296:=by rw[wrap_u32 Z];omega
 have ex:ad=F:=by rw[d,(AA:a8=D),List.getElem?_set_self AA] at C;exact (Option.some.inj C).symm
 refine AP ?_;intro aa aC;obtain⟨S,B⟩:=DF (n:=P) AA;have au:=B.eq;have aw:=B.lt;refine⟨S,fun _=>⟨by show _<List.length (α:=UInt32) h;(first | omega | (simp;omega)),DE B⟩,?_⟩;intro (O:List UInt32) (j:O=List.set (α:=UInt32) h aa S);have az:O.length=h.length:=by rw[j,List.length_set]
 refine AP ?_;intro R af;refine⟨l.length-(i'+1),?_,?_⟩
 ·omega
 rw[a1]
 have ew:(S.toNat)=t.toNat/2^n+f.toNat*2^(32-n)%4294967296:=by
  have hq:2^n*2^(32-n)=4294967296:=by rw[<-Nat.pow_add,(AA:n+(32-n)=32)]
  have ag:t.toNat/2^n<2^(32-n):=Nat.div_lt_of_lt_mul (by rw[hq];omega);have a2:f.toNat*2^(32-n)%4294967296=2^(32-n)*(f.toNat%2^n):=by rw[<-hq,Nat.mul_comm f.toNat,Nat.mul_comm (2^n),Nat.mul_mod_mul_left]
  have h5:ao=((f.toNat*2^(32-n)%4294967296:Nat):Int):=by rw[K,J,a6];generalize f.toNat*2^(32-n)=Q;omega
  have h6:=RG Z (p:=t.toNat/2^n) (q:=f.toNat*2^(32-n)%4294967296) (by rw[ae,ex,<-g];omega) h5 (by rw[<-g];omega) AA;rw[a2,Mo ag,<-a2,<-g] at h6;rw[<-g]
  generalize f.toNat*2^(32-n)%4294967296=Q at*
  omega
 refine⟨O,m,i'+1,L,R,rfl,rfl,⟨by rw[j,d,List.length_set,List.length_set];exact ho,by rw[j,d,List.length_set,List.length_set];exact hm,hL,⟨AA⟩,AA⟩,?_,rfl⟩;rw[j,(AA:aa=i'),GQ (by rw[d,List.length_set];omega),d,(AA:D=i'),JC (Nat.le_refl _),FW,List.length_take,Nat.min_eq_left AA,hinv,Rv,ew];rw[Nat.div_div_eq_div_mul,Nat.mul_comm (2^n),<-Nat.div_div_eq_div_mul,QF (by omega:i'<=l.length),Eu G,Eu (show l[i'+1]? =some f from a7)];rw[du AA hn]
theorem dj (hs:Ah s n) (hn:n<=31) (aG:z.length=l.length+1) (ad:AJ z=AJ l*2^n) (aH:zn=z.length) (sl:l.length<=17592186044416):CF 364 [.one (.sl .u32 l),AD s] (.one (.own .u32 z zn)):=by
 have es:=hs.eq;refine AN Tryz.func364 fun E hE=>?_
 rintro aJ ⟨ay,f10⟩ aK aB;refine⟨fun _=>⟨AA,AA,by show _*4<=140737488355328;omega⟩,?_⟩;intro H (I:List UInt32) D;have ax:=D.1;have f:I=List.replicate H (0:el .u32):=D.2;have ao:I.length=H:=by rw[f,List.length_replicate]
 refine Ak ?_;intro af F;have az:=F.eq;have f14:=F.le;refine Bc [] [0,1,5,13,14,15] [12] (fun vs bl k=>∃(o:List UInt32) (c:UInt32) (m i':Nat) (L i:Int),vs=[.one (.sl .u32 l),AD s,.one (.BK .u32 12 0 0 m),.one (.sl .u32 l),AD L,AD i]/\bl=[.arr 0 .u32 o]/\(o.length=l.length+1/\m=o.length/\EJ L l.length/\Ah i i'/\i'<=l.length)/\(o[i']? =some c/\c.toNat<2^n)/\AJ (o.take i')+2^(32*i')*c.toNat=AJ (l.take i')*2^n/\k=l.length-i') (l.length-0) ⟨I,0,H,0,af,0,rfl,rfl,⟨by rw[f,List.length_replicate];omega,by rw[f,List.length_replicate],F,BJ 0,AA⟩,⟨by rw[f,List.getElem?_replicate,if_pos AA],Nat.two_pow_pos n⟩,by simp[AJ],rfl⟩ ?_;rintro J0 a8 vs bl aI ⟨o,c,m,i',L,i,rfl,rfl,⟨ho,hm,hL,hi,aE⟩,⟨hc,aa⟩,hinv,aF⟩;conv=>cbv
 have eL:=hL.eq;have ei:=hi.eq;refine Bt (fun ae=>?_) fun ae=>?_
 ·have hk:i'=l.length:=AA
  have X:AJ o=AJ l*2^n:=by rw[hk,List.take_length,<-DS (l:=o) (by rw[<-hk];exact hc),List.take_of_length_le AA] at hinv;exact hinv
  exact AM ⟨⟨rfl,.inr (.inl ⟨_,_,AF,rfl,rfl,hm,rfl,De (OU AA (by rw[ad,X])) AA⟩),trivial⟩,trivial⟩
 refine .inr ?_;refine BH i' fun d Z=>?_
 refine Ak ?_;intro aL O aM Q;have aA:=O.eq;have f19:=O.lt;have Q:=wrap_u64 Q;refine AP ?_;intro ag R;have a6:d.toNat*2^n<9223372036854775808:=Nat.mul_lt_mul_of_lt_of_le (by omega:d.toNat<4294967296) (Nat.pow_le_pow_right AF hn:2^n<=2^31) AF;obtain⟨M,g,R⟩:∃q:Nat,q=d.toNat*2^n/\ag=q:=⟨_,rfl,(Vy (p:=d.toNat) (e:=n) R AA AA).trans (by congr 1;exact Nat.mod_eq_of_lt AA)⟩
 rw[<-g] at a6;refine AP ?_;intro a1 au;obtain⟨a5,u⟩:=Cq (l:=o) (i:=a1) AA;refine⟨a5,fun _=>u,?_⟩;refine Ak ?_;intro aN S aO T;have a7:=S.eq;have f27:=S.lt;have T:=wrap_u32 T;intro K U;conv=>cbv
 have bo:0<=K/\K<4294967296:=by rw[wrap_u32 U];omega
 refine AP ?_;intro a2 av;obtain⟨B,r⟩:=DF (n:=K) AA;have aj:=r.eq;have al:=r.lt;refine⟨B,fun _=>⟨by show _<List.length (α:=UInt32) o;(first | omega | (simp;omega)),DE r⟩,?_⟩;intro (A:List UInt32) (C:A=List.set (α:=UInt32) o a2 B);have aq:A.length=o.length:=by rw[C,List.length_set]
 refine AP ?_;intro aP aC aQ V;have V:=Fb (p:=4294967296) V rfl;intro ah W;conv=>cbv
 have W:=wrap_u32 W;refine AP ?_;intro G aw;obtain⟨h,t⟩:=DF (n:=ah) AA;have ak:=t.eq;have an:=t.lt;refine⟨h,fun _=>⟨by show _<List.length (α:=UInt32) A;(first | omega | (simp;omega)),DE t⟩,?_⟩;intro (J:List UInt32) (j:J=List.set (α:=UInt32) A G h);have ar:J.length=A.length:=by rw[j,List.length_set]
 refine AP ?_;intro ai aD;refine⟨l.length-(i'+1),?_,?_⟩
 ·omega
 rw[a8];have hq:2^n*2^(32-n)=4294967296:=by rw[<-Nat.pow_add,(AA:n+(32-n)=32)]
 have ec:a5=c:=by rw[(AA:a1=i'),hc] at u;exact (Option.some.inj u).symm
 have Y:M%4294967296=2^n*(d.toNat%2^(32-n)):=by rw[g,Nat.mul_comm d.toNat,<-hq,Nat.mul_mod_mul_left]
 have h6:=RG U (p:=c.toNat) (q:=M%4294967296) (by rw[a7,ec]) AA (by have:=c.toNat_lt;omega) AA;rw[Y,Mo aa,<-Y] at h6
 have ab:h.toNat<2^n:=by
  have:M/4294967296<2^n:=Nat.div_lt_of_lt_mul (by rw[g];exact (Nat.mul_lt_mul_right (Nat.two_pow_pos n)).2 AA);omega
 refine⟨J,h,m,i'+1,L,ai,rfl,rfl,⟨AA,AA,hL,⟨AA⟩,AA⟩,⟨by rw[j,(AA:G=i'+1),List.getElem?_set_self AA],ab⟩,?_,rfl⟩;rw[j,(AA:G=i'+1),JC (Nat.le_refl _),C,(AA:a2=i'),GQ AA,FW,List.length_take,Nat.min_eq_left AA,DS Z,FI,Nat.add_mul,<-hinv];have e1:B.toNat+4294967296*h.toNat=c.toNat+d.toNat*2^n:=by rw[<-g];omega
 have e2:2^(32*i')*(B.toNat+4294967296*h.toNat)=2^(32*i')*(c.toNat+d.toNat*2^n):=by rw[e1]
 generalize 2^(32*i')=P at*
 generalize 2^n=N at*
 grind
theorem lx {z1 z2:List UInt32} {d:Int} {b:Nat} (hd:Ah d b) (hb:0<b) (aB:b<4294967296) (a8:z1=BB (AJ l/b)) (aa:z2=BB (AJ l%b)) (sl:l.length<=17592186044416):CF 362 [.one (.sl .u32 l),.one (.int .u32 d)] (.BN [(false,[.sl .u32 z1]),(false,[.sl .u32 z2])]):=by
 have ed:=hd.eq;refine AN Tryz.func362 fun E hE=>?_
 rintro aG ⟨aw,f10⟩;refine⟨fun _=>⟨AA,AA,by show _*4<=140737488355328;omega⟩,?_⟩;intro O (P:List UInt32) I;have av:=I.1;have h:P=List.replicate O (0:el .u32):=I.2;have aq:P.length=O:=by rw[h,List.length_replicate]
 refine AP ?_;rintro aH ⟨ax,f13⟩ ae az;refine Bc [] [0,1,6,7,8] [11] (fun vs bl k=>∃(o:List UInt32) (m g C:Nat) (r j:Int),vs=[.one (.sl .u32 l),.one (.int .u32 d),.one (.BK .u32 11 0 0 m),.one (.int .u64 r),AD j]/\bl=[.arr 0 .u32 o]/\(o.length=l.length/\m=o.length/\Ah (j+1) C/\C<=l.length/\Ah r g/\g<b)/\AJ (l.drop C)=AJ (o.drop C)*b+g/\k=C) l.length ⟨P,O,0,l.length,0,ae,rfl,rfl,⟨by rw[h,List.length_replicate];omega,by rw[h,List.length_replicate],⟨AA⟩,AA,BJ 0,hb⟩,by rw[List.drop_length,List.drop_eq_nil_of_le (by rw[h,List.length_replicate];omega)];simp[AJ],rfl⟩ ?_;rintro J0 a5 vs bl aF ⟨o,m,g,C,r,j,rfl,rfl,⟨ho,hm,hj,aC,hr,M⟩,hinv,aD⟩;conv=>cbv
 have ej:=hj.eq;have er:=hr.eq;refine J3 (fun ab=>?_) fun ab=>?_
 ·have t:m<=(o).length:=AA
  obtain⟨ad,G⟩:=xN ((DB ((o).take m)).length);obtain⟨a6,N⟩:=Fv t G;refine .inr (.inr (.inl ⟨[],.one (.BK .u32 0 0 0 ad),.arr 0 .u32 o,fun _=>⟨by first | decide | simp[DR,DQ],trivial⟩,fun _=>⟨FN hE (NA t AA G),rfl,rfl⟩,?_⟩));try conv=>cbv
  obtain⟨aL,H⟩:=xU (BB g);refine AB hE (MR hr AA H) ?_;have hk:C=0:=AA
  rw[hk,List.drop_zero,List.drop_zero] at hinv;have hq:AJ o=AJ l/b:=by rw[hinv,Nat.add_comm,Nat.add_mul_div_right _ _ hb,Nat.div_eq_of_lt M,Nat.zero_add]
  have a7:g=AJ l%b:=by rw[hinv,Nat.add_comm,Nat.add_mul_mod_self_right,Nat.mod_eq_of_lt M]
  exact AM ⟨⟨rfl,.inl ⟨_,rfl,AA,congrArg _ (by rw[List.drop_zero,N,a8,hm,List.take_length,hq])⟩,trivial⟩,⟨rfl,congrArg _ (by rw[aa,H,a7]),trivial⟩,trivial⟩
 refine .inr ?_;refine AP ?_;intro ag J;have J:=Ll (p:=4294967296) J rfl;have J:ag=((g*4294967296:Nat):Int):=by clear hinv;omega
 obtain⟨i',rfl⟩:∃i',C=i'+1:=⟨C-1,AA⟩
 refine BH i' fun f X=>?_
 refine Ak ?_;intro aI T aJ U;have ay:=T.eq;have f24:=T.lt;have U:=wrap_u64 U;intro aK B;conv=>cbv
 have B:=La (p:=g) (q:=f.toNat) B AA AA AA AA;intro ah V;conv=>cbv
 have V:=wrap_u64 V;refine AP ?_;intro ai K;have K:=wrap_u64 K;intro aj L;conv=>cbv
 have L:=wrap_u32 L;have Y:ah=(b:Int):=AA
 have Z:ai=(((f.toNat+4294967296*g)/b:Nat):Int):=by rw[K,B,Y,<-Int.natCast_ediv];have:=Nat.div_le_self (f.toNat+4294967296*g) b;generalize (f.toNat+4294967296*g)/b=Q at *;clear hinv;omega
 refine AP ?_;intro D au;obtain⟨A,u⟩:=DF (n:=aj) AA;have an:=u.eq;have ao:=u.lt;refine⟨A,fun _=>⟨by show _<List.length (α:=UInt32) o;(first | omega | (simp;omega)),DE u⟩,?_⟩;intro (S:List UInt32) (F:S=List.set (α:=UInt32) o D A);have ar:S.length=o.length:=by rw[F,List.length_set]
 refine Ak ?_;intro ak W;have W:=wrap_u64 W;refine AP ?_;intro al a2 af aA;refine⟨i',?_,?_⟩
 ·omega
 rw[a5];have a1:ak=(b:Int):=AA
 have h5:=Nat.div_add_mod (f.toNat+4294967296*g) b;refine⟨S,m,(f.toNat+4294967296*g)%b,i',al,af,rfl,rfl,⟨AA,AA,⟨AA⟩,AA,⟨by rw[a2,B,a1];simp⟩,Nat.mod_lt _ hb⟩,?_,rfl⟩
 have aE:(f.toNat+4294967296*g)/b<4294967296:=Nat.div_lt_of_lt_mul (by
  have:4294967296*(g+1)<=4294967296*b:=Nat.mul_le_mul_left _ M;rw[Nat.mul_comm b];omega)
 have ew:A.toNat=(f.toNat+4294967296*g)/b:=by
  rw[Z] at L
  generalize (f.toNat+4294967296*g)/b=Q at*
  clear hinv
  omega
 rw[Eu X,hinv,F,Eu (l:=o.set D A) (i:=i') (x:=A) (by rw[(AA:D=i'),List.getElem?_set_self AA]),(AA:D=i'),List.drop_set_of_lt AA,ew]
 generalize (f.toNat+4294967296*g)/b=Q at*
 generalize (f.toNat+4294967296*g)%b=R at*
 grind
end
section
variable {b:Bool} {c w:Int} {i len off:Nat} {l o v z:List UInt32} {x:UInt32}
theorem dO (g:o.length=z.length) (d:o.take off=z.take off) (f:o.drop (off+len)=z.drop (off+len)) (hlen:off+len<=o.length) (h3:AJ ((o.drop off).take len)=AJ ((z.drop off).take len)):o=z:=by
 have e1:(o.drop off).take len=(z.drop off).take len:=OU (by simp;omega) h3;rw[<-List.take_append_drop off o,<-List.take_append_drop off z,d,<-List.take_append_drop len (o.drop off),<-List.take_append_drop len (z.drop off),e1,List.drop_drop,List.drop_drop,f]
theorem QZ:(l.drop off)[i]? =l[off+i]? :=by rw[List.getElem?_drop]
theorem Rq (h:l[i]? =some x):AJ (l.take (i+1))=AJ (l.take i)+2^(32*i)*x.toNat:=DS h
theorem QH (h:o.drop i=l.drop i) (d:o[i]? =some x):l[i]? =some x:=by
 have:(o.drop i)[0]? =(l.drop i)[0]? :=by rw[h]
 rw[List.getElem?_drop,List.getElem?_drop] at this;simpa [d] using this.symm
theorem tZ {x p h g f d j t r u A:Int} (S:0<=x/\x<4294967296) (R:0<=p/\p<=18446744065119617025) (Q:0<=c/\c<=4294967296) (F:h=(p+c)%18446744073709551616)
  (H:g=h%4294967296) (I:f=g%18446744073709551616) (G:d=x%18446744073709551616) (B:j=(d-f)%18446744073709551616) (C:t=j%4294967296) (hw:t=w)
  (J:r=h/4294967296) (D:u=j/9223372036854775808) (K:A=(r+u)%18446744073709551616):(0<=A/\A<=4294967296)/\w+p+c=x+4294967296*A:=by
 have M:h=p+c:=AA
 have N:0<=g/\g<4294967296:=AA
 have a3:f=g:=AA
 have a4:d=x:=AA
 have O:h=g+4294967296*r:=AA
 have P:0<=r/\r<=4294967295:=AA
 clear F H J I G
 subst a3 a4
 by_cases L:d<f
 ·have b1:j=d-f+18446744073709551616:=AA
  have b2:u=1:=AA
  have b3:t=d-f+4294967296:=AA
  clear B C D
  omega
 have b1:j=d-f:=AA
 have b2:u=0:=AA
 have b3:t=d-f:=AA
 clear B C D
 omega
theorem oS {x Eh DY d f:Int} (A:0<=x/\x<4294967296) (u:0<=c/\c<=4294967296) (g:Eh=x%18446744073709551616) (h:DY=(Eh-c)%18446744073709551616) (j:d=DY%4294967296) (hw:d=w)
  (r:f=DY/9223372036854775808) (hb:b=(f==1)):w+c=x+4294967296*(b.toNat:Int):=by
 have a4:Eh=x:=AA
 subst a4
 clear g
 by_cases t:Eh<c
 ·have b1:DY=Eh-c+18446744073709551616:=AA
  have b2:f=1:=AA
  have b3:d=Eh-c+4294967296:=AA
  rw[hb,b2]
  show w+c=Eh+4294967296*1
  omega
 have b1:DY=Eh-c:=AA
 have b2:f=0:=AA
 have b3:d=Eh-c:=AA
 rw[hb,b2]
 show w+c=Eh+4294967296*0
 omega
theorem uA {d S2 W T M:Nat} {c:Bool} (f:d+W=T+M*b.toNat) (g:S2+W=T+M*c.toNat) (l1:d<M) (l2:S2<M):d=S2/\b=c:=by
 cases b <;> cases c <;> simp at f g ⊢ <;> omega
theorem QJ (h:o.drop i=l.drop i):o.drop (i+1)=l.drop (i+1):=by
 rw[<-List.drop_drop,<-List.drop_drop,h]
theorem ta {d:Nat} {g:Int} (hlen:len=v.length+1) (aT:off+len<=l.length) (hg:Ah g d) (hd:d<4294967296) (b5:l.length<=140737488355328) (b6:z.length=l.length) (aB:z.take off=l.take off) (aC:z.drop (off+len)=l.drop (off+len)) (an:AJ ((z.drop off).take len)+AJ v*d=AJ ((l.drop off).take len)+2^(32*len)*b.toNat):J4 Tryz.prog 365 (.BK .u32 0 0 off len) (.arr 0 .u32 l) [.one (.sl .u32 v),.one (.int .u64 g)] (.one (.bool b)) (.arr 0 .u32 z):=by
 have eg:=hg.eq;refine Nh Tryz.func365 (by kernel_rfl) rfl fun E hE=>?_
 refine Ak ?_;intro aF R;have aU:=R.eq;have f14:=R.le;refine Bc [] [0,1,2,7,13,14,15] [0] (fun vs bl k=>∃(o:List UInt32) (H i':Nat) (c L i:Int),vs=[.one (.BK .u32 0 0 off len),.one (.sl .u32 v),.one (.int .u64 g),.one (.int .u64 c),.one (.sl .u32 v),AD L,AD i]/\bl=[.arr 0 .u32 o]/\(o.length=l.length/\EJ L v.length/\Ah i i'/\i'<=v.length/\Ah c H/\H<=4294967296)/\(o.take off=l.take off/\o.drop (off+i')=l.drop (off+i'))/\AJ ((o.drop off).take i')+AJ (v.take i')*d=AJ ((l.drop off).take i')+2^(32*i')*H/\k=v.length-i') (v.length-0) ⟨l,0,0,0,aF,0,rfl,rfl,⟨rfl,R,BJ 0,AA,BJ 0,AA⟩,⟨rfl,rfl⟩,by simp[AJ],rfl⟩ ?_;rintro J0 az vs bl b7 ⟨o,H,i',c,L,i,rfl,rfl,⟨ho,hL,hi,b0,hc,aZ⟩,⟨ht,I⟩,hinv,b4⟩;conv=>cbv
 have eL:=hL.eq;have ei:=hi.eq;have ec:=hc.eq;refine Bt (fun aE=>?_) fun aE=>?_
 ·rintro bj ⟨aW,f48⟩ ar aR;obtain⟨M,A⟩:=Cq (l:=o) (i:=ar) AA;refine⟨M,fun _=>A,?_⟩;refine Ak ?_;intro bk ai Eh a2;have ax:=ai.eq;have f50:=ai.lt;have a2:=wrap_u64 a2;intro DY a5;conv=>cbv
  have a5:=wrap_u64 a5;refine Ak ?_;rintro bm ⟨aX,f56⟩ aK a6;have a6:=wrap_u32 a6;refine AP ?_;intro au aS;obtain⟨F,t⟩:=DF (n:=aK) AA;have ae:=t.eq;have aM:=t.lt;refine⟨F,fun _=>⟨by show _<List.length (α:=UInt32) o;(first | omega | (simp;omega)),DE t⟩,?_⟩;intro (B:List UInt32) (h:B=List.set (α:=UInt32) o au F);have aO:B.length=o.length:=by rw[h,List.length_set]
  refine AP ?_;intro bn a7;have a7:=Fb (p:=9223372036854775808) a7 rfl;intro ab ay;conv=>cbv
  have hk:i'=v.length:=AA
  subst hk;have O:au=off+v.length:=AA
  have Q:ar=off+v.length:=AA
  rw[Q] at A;have hx:=QH I A;have aA:=oS (Eh:=Eh) (DY:=DY) (x:=M.toNat) (c:=H) (w:=F.toNat) AA AA (by rw[<-ax];exact a2) (by rw[<-ec];exact a5) a6 ae a7 ay
  have aj:AJ ((B.drop off).take len)+AJ v*d=AJ ((l.drop off).take len)+2^(32*len)*ab.toNat:=by
   rw[hlen,Rq (l:=l.drop off) (by rw[QZ];exact hx),h,O,QI,GQ (by rw[List.length_drop];omega),FW,List.length_take,List.length_drop,Nat.min_eq_left AA,FI];rw[List.take_length] at hinv;have N:F.toNat+H=M.toNat+4294967296*ab.toNat:=AA
   generalize 2^(32*v.length)=P at*
   have e:P*(F.toNat+H)=P*(M.toNat+4294967296*ab.toNat):=by rw[N]
   clear aA N an
   grind
  have ak:∀y:List UInt32,AJ ((y.drop off).take len)<2^(32*len):=fun y=>Nat.lt_of_lt_of_le (DZ _) (Nat.pow_le_pow_right AF (by rw[List.length_take];omega))
  obtain⟨q1,q2⟩:=uA aj an (ak _) (ak _);have aD:B=z:=dO (off:=off) (len:=len) AA (by rw[aB,h,O,JC,ht]) (by rw[aC,h,O,List.drop_set_of_lt AA,hlen,<-Nat.add_assoc];exact QJ I) AA q1;refine⟨fun _=>⟨⟨⟨rfl,congrArg _ (q2.symm),trivial⟩,trivial⟩,rfl,AZ⟩,fun _=>by show some (BM.arr 0 .u32 B)=_;rw[aD]⟩
 refine .inr ?_;refine BH i' fun G al=>?_
 refine Ak ?_;intro b8 af aG ag;have aV:=af.eq;have f19:=af.lt;have ag:=wrap_u64 ag;intro aH j;conv=>cbv
 have j:=wrap_u64 j;obtain⟨av,ep,j⟩:∃p:Nat,p=G.toNat*d/\aH=p:=⟨_,rfl,by rw[j,(by omega:aG=(G.toNat:Int)),eg,<-Int.natCast_mul];have:=Nat.mul_le_mul (by omega:G.toNat<=4294967295) (by omega:d<=4294967295);clear hinv;omega⟩
 have bp:av<=4294967295*4294967295:=by rw[ep];exact Nat.mul_le_mul AA AA
 intro b9 S;conv=>cbv
 have S:=wrap_u64 S;refine AP ?_;intro ao aP;obtain⟨K,u⟩:=Cq (l:=o) (i:=ao) AA;refine⟨K,fun _=>u,?_⟩;refine Ak ?_;intro ba ah bb T;have aw:=ah.eq;have f29:=ah.lt;have T:=wrap_u64 T;intro bc U;conv=>cbv
 have U:=wrap_u32 U;intro bd V;conv=>cbv
 have V:=wrap_u64 V;intro bf W;conv=>cbv
 have W:=wrap_u64 W;intro aI X;conv=>cbv
 have X:=wrap_u32 X;refine AP ?_;intro aq aQ;obtain⟨C,r⟩:=DF (n:=aI) AA;have ad:=r.eq;have aL:=r.lt;refine⟨C,fun _=>⟨by show _<List.length (α:=UInt32) o;(first | omega | (simp;omega)),DE r⟩,?_⟩;intro (aa:List UInt32) (f:aa=List.set (α:=UInt32) o aq C);have aN:aa.length=o.length:=by rw[f,List.length_set]
 refine AP ?_;intro bg Y;have Y:=Fb (p:=4294967296) Y rfl;refine AP ?_;intro bh Z;have Z:=Fb (p:=9223372036854775808) Z rfl;intro J a1;conv=>cbv
 have a1:=wrap_u64 a1;refine AP ?_;intro aJ aY;refine⟨v.length-(i'+1),?_,?_⟩
 ·omega
 rw[az];have O:aq=off+i':=AA
 have Q:ao=off+i':=AA
 rw[Q] at u;have hx:=QH I u;have a8:=tZ (x:=K.toNat) (p:=av) (c:=H) (w:=C.toNat) AA AA AA (by rw[S,j,ec]) U V (by rw[T,aw]) W X ad Y Z a1;have hw:C.toNat+G.toNat*d+H=K.toNat+4294967296*J.toNat:=by rw[<-ep];obtain⟨h1,h2⟩:=a8;clear hinv;omega
 refine⟨aa,J.toNat,i'+1,J,L,aJ,rfl,rfl,⟨AA,hL,⟨AA⟩,AA,⟨by have:=a8.1;omega⟩,by have:=a8.1;omega⟩,⟨by rw[f,O,JC];exact ht,by rw[f,O,List.drop_set_of_lt AA];exact QJ I⟩,?_,rfl⟩;have hs:=tX (o:=o.drop off) (w:=C) (i:=i') (xi:=K.toNat) (yi:=G.toNat) (D:=d) (G8:=H) (G9:=J.toNat) (by rw[List.length_drop];omega) hinv hw;rw[f,O,QI,DS al,Rq (l:=l.drop off) (by rw[QZ];exact hx)];exact hs
theorem qt (hlen:len=v.length+1) (az:off+len<=l.length) (aI:l.length<=140737488355328) (aJ:z.length=l.length) (ae:z.take off=l.take off) (af:z.drop (off+len)=l.drop (off+len)) (I:AJ ((z.drop off).take len)=(AJ ((l.drop off).take len)+AJ v)%2^(32*len)):J4 Tryz.prog 366 (.BK .u32 0 0 off len) (.arr 0 .u32 l) [.one (.sl .u32 v)] (.BN []) (.arr 0 .u32 z):=by
 refine Nh Tryz.func366 (by kernel_rfl) rfl fun E hE=>?_
 refine Ak ?_;intro n8 h8;have e8:=h8.eq;have f8:=h8.le;refine Bc [] [0,1,4,7,8,9] [0] (fun vs bl k=>∃(o:List UInt32) (j i':Nat) (c L i:Int),vs=[.one (.BK .u32 0 0 off len),.one (.sl .u32 v),.one (.int .u64 c),.one (.sl .u32 v),AD L,AD i]/\bl=[.arr 0 .u32 o]/\(o.length=l.length/\EJ L v.length/\Ah i i'/\i'<=v.length/\Ah c j/\j<=1)/\(o.take off=l.take off/\o.drop (off+i')=l.drop (off+i'))/\AJ ((o.drop off).take i')+2^(32*i')*j=AJ ((l.drop off).take i')+AJ (v.take i')/\k=v.length-i') (v.length-0) ⟨l,0,0,0,n8,0,rfl,rfl,⟨rfl,h8,BJ 0,AA,BJ 0,AA⟩,⟨rfl,rfl⟩,by simp[AJ],rfl⟩ ?_;rintro J0 ad vs bl aK ⟨o,j,i',c,L,i,rfl,rfl,⟨ho,hL,hi,aG,hc,aF⟩,⟨ht,B⟩,hinv,aH⟩;conv=>cbv
 have eL:=hL.eq;have ei:=hi.eq;have ec:=hc.eq;refine Bt (fun ah=>?_) fun ah=>?_
 ·rintro aR ⟨aC,f34⟩ a8 ax;obtain⟨h,A⟩:=Cq (l:=o) (i:=a8) AA;refine⟨h,fun _=>A,?_⟩;refine Ak ?_;intro aS W aT X;have aD:=W.eq;have f36:=W.lt;have X:=wrap_u32 X;intro ak Y;conv=>cbv
  have Y:=wrap_u32 Y;refine AP ?_;intro aa ay;obtain⟨F,t⟩:=DF (n:=ak) AA;have an:=t.eq;have aq:=t.lt;refine⟨F,fun _=>⟨by show _<List.length (α:=UInt32) o;(first | omega | (simp;omega)),DE t⟩,?_⟩;intro (d:List UInt32) (g:d=List.set (α:=UInt32) o aa F);have au:d.length=o.length:=by rw[g,List.length_set]
  conv=>cbv
  have hk:i'=v.length:=AA
  subst hk;have G:aa=off+v.length:=AA
  have H:a8=off+v.length:=AA
  rw[H] at A;have hx:=QH B A;have a2:F.toNat=(h.toNat+j)%4294967296:=by clear hinv I;omega
  have a1:∀y:List UInt32,AJ ((y.drop off).take len)<2^(32*len):=fun y=>Nat.lt_of_lt_of_le (DZ _) (Nat.pow_le_pow_right AF (by rw[List.length_take];omega))
  have Z:AJ ((d.drop off).take len)=(AJ ((l.drop off).take len)+AJ v)%2^(32*len):=by
   have h0:=a1 d
   have e1:AJ ((d.drop off).take len)+2^(32*len)*((h.toNat+j)/4294967296)=AJ ((l.drop off).take len)+AJ v:=by
    rw[hlen,Rq (l:=l.drop off) (by rw[QZ];exact hx),g,G,QI,GQ (by rw[List.length_drop];omega),FW,List.length_take,List.length_drop,Nat.min_eq_left AA,FI];rw[List.take_length] at hinv;have hd:=Nat.div_add_mod (h.toNat+j) 4294967296;rw[<-a2] at hd
    generalize (h.toNat+j)/4294967296=Q at*
    generalize 2^(32*v.length)=P at*
    have e:P*(4294967296*Q+F.toNat)=P*(h.toNat+j):=by rw[hd]
    clear a2 I h0 a1
    grind
   rw[<-e1,Nat.add_mul_mod_self_left,Nat.mod_eq_of_lt h0]
  have ag:d=z:=dO (off:=off) (len:=len) AA (by rw[ae,g,G,JC,ht]) (by rw[af,g,G,List.drop_set_of_lt AA,hlen,<-Nat.add_assoc];exact QJ B) AA (by rw[Z,I]);refine⟨fun _=>⟨trivial,rfl,AZ⟩,fun _=>by show some (BM.arr 0 .u32 d)=_;rw[ag]⟩
 refine .inr ?_;refine BH i' fun ab a5=>?_
 refine AP ?_;intro aL M a6 av;have aA:=M.eq;have f13:=M.lt;obtain⟨K,u⟩:=Cq (l:=o) (i:=a6) AA;refine⟨K,fun _=>u,?_⟩;refine Ak ?_;intro aM N aN O;have aB:=N.eq;have f18:=N.lt;have O:=wrap_u64 O;intro aO R;conv=>cbv
 have R:=wrap_u64 R;intro aP S;conv=>cbv
 have S:=wrap_u64 S;intro aQ T;conv=>cbv
 have T:=wrap_u64 T;intro ai U;conv=>cbv
 have U:=wrap_u32 U;refine AP ?_;intro a7 aw;obtain⟨D,r⟩:=DF (n:=ai) AA;have al:=r.eq;have ao:=r.lt;refine⟨D,fun _=>⟨by show _<List.length (α:=UInt32) o;(first | omega | (simp;omega)),DE r⟩,?_⟩;intro (J:List UInt32) (f:J=List.set (α:=UInt32) o a7 D);have ar:J.length=o.length:=by rw[f,List.length_set]
 refine AP ?_;intro C V;have V:=Fb (p:=4294967296) V rfl;refine AP ?_;intro aj aE;refine⟨v.length-(i'+1),?_,?_⟩
 ·omega
 rw[ad];have G:a7=off+i':=AA
 have H:a6=off+i':=AA
 rw[H] at u;have hx:=QH B u;have hw:D.toNat+4294967296*C.toNat=K.toNat+ab.toNat+j:=by clear hinv;omega
 refine⟨J,C.toNat,i'+1,C,L,aj,rfl,rfl,⟨AA,hL,⟨AA⟩,AA,⟨AA⟩,AA⟩,⟨by rw[f,G,JC];exact ht,by rw[f,G,List.drop_set_of_lt AA];exact QJ B⟩,?_,rfl⟩;have hs:=j7 (o:=o.drop off) (w:=D) (i:=i') (xi:=K.toNat) (yi:=ab.toNat) (Pu:=j) (Pv:=C.toNat) (by rw[List.length_drop];omega) hinv hw;rw[f,G,QI,DS a5,Rq (l:=l.drop off) (by rw[QZ];exact hx)];exact hs
end
section
open Go.RowKit Go.Shelf Go.Proofs
attribute [local go_sem] Oper.semAt_some
def upto {α:Type} (f:Nat->α) (k:Nat):List α:=(List.range k).map f
theorem fO {α:Type} (f:Nat->α) (k:Nat):upto f (k+1)=upto f k++[f k]:=by simp[upto,List.range_succ]
theorem uG {α:Type} (f:Nat->α) (k:Nat):(upto f k).length=k:=by simp[upto]
def bk (l:List UInt32) (k:Nat):Int×UInt32:=((l.length:Int)-1-k,l[l.length-1-k]?.getD 0)
structure ID (n b:Nat) (A B:World):Prop where
 below:Below n A B
 block:B.heap[b]? =A.heap[b]?
theorem ID.refl (n b:Nat) (A:World):ID n b A A:=⟨Below.refl _ _,rfl⟩
theorem ID.trans {n b:Nat} {A B C:World} (h:ID n b A B) (k:ID n b B C):ID n b A C:=⟨h.1.trans k.1,k.2.trans h.2⟩
theorem kJ (F:Fence) (n:Nat) (h7:F.fn 373) (hro:F.round=none) (hn:1<=n) (l Bs n₀ b off cap:Nat) (zs:List UInt32) (hreach:zs.length<=140737488351232) (hb:b<n₀) (J Jx:List (Int×UInt32)->World->Prop)
  (hY:∀pre x W,J pre W->pre.length<zs.length->YieldAt F (n-1) Tryz.prog l #[.int .i64 x.1,.int .u32 (x.2.toNat:Int)] W fun e W'=>
   (e= .returned (.bool true)/\J (pre++[x]) W'/\ID n₀ Bs W W')\/(e= .returned (.bool false)/\Jx (pre++[x]) W'))
  (W:World) (hBs:W.cell? ⟨Bs,0,none⟩=some (.slice (some ⟨b,off,none⟩) zs.length cap)) (hc:∀j,j<zs.length->W.cell? ⟨b,off+j,none⟩=some (.int .u32 ((zs[j]?.getD 0).toNat:Int))) (h0:J [] W):
  CallsIn F n Tryz.prog 373 #[.func (.yield l) #[] #[],.pointer (some ⟨Bs,0,none⟩)] W fun e W'=>(∃v,e= .returned v)/\
   ((∃ys,ys=upto (bk zs) zs.length/\J ys W')\/(∃pre,(∃k,k<=zs.length/\pre=upto (bk zs) k)/\Jx pre W')):=by
 refine callsIn_of_wp Tryz.func373 rfl h7 ?_ hro;simp only[Tryz.ntmps373,List.size_toArray,List.length_cons,List.length_nil,Nat.reduceAdd,Nat.reduceSub,Array.replicate_succ,Array.replicate_zero,List.push_toArray,List.append_toArray,List.nil_append,List.cons_append]
 gi_wp2
 gi_loopw [3] (fun i wr=>∃k:Nat,k<=zs.length/\i= .int .i64 ((zs.length:Int)-1-k)/\J (upto (bk zs) k) wr/\ID n₀ Bs W wr)
  (fun i _=>(intOf i+1).toNat)
 case atStart=>exact⟨0,Nat.zero_le _,AZ,h0,ID.refl _ _ _⟩
 case round=>
  obtain⟨k,hk,rfl,hJs,hnx⟩:=hrel
  by_cases hlt:k<zs.length
  ·obtain⟨j,ej,hjl,ex⟩:∃j:Nat,(zs.length:Int)-1-k=(j:Int)/\j<zs.length/\bk zs k=((j:Int),zs[j]?.getD 0):=
    ⟨zs.length-1-k,AA,AA,by unfold bk;rw[(AA:((zs.length:Int)-1-k)=((zs.length-1-k:Nat):Int))]⟩
   have hcx:wr.cell? ⟨b,off+j,none⟩=some (.int .u32 ((zs[j]?.getD 0).toNat:Int)):=(hnx.below.cell (p:=⟨b,off+j,none⟩) hb).trans (hc j hjl);have hbx:wr.cell? ⟨Bs,0,none⟩=some (.slice (some ⟨b,off,none⟩) zs.length cap):=(World.cell?_of_block (a:=⟨Bs,0,none⟩) hnx.block).trans hBs;obtain⟨fn,tmps,assign,body,hy,hR⟩:=hY _ (bk zs k) wr hJs (by rw[uG];exact hlt);rw[ex] at hy hR;have eg:zs[j]?.getD 0=zs[j]:=by simp[hjl]
   rw[eg] at hy hcx
   dsimp only at hy
   rw[ej];have hmz:((j:Int):Int)-1+1=j:=AA
   gi_wp2
   refine hR.mono ?_;rintro e W3 (⟨rfl,hJ3,hk3⟩ |⟨rfl,hJx3⟩)
   ·gi_wp2
    go_roundw
    case rel=>exact⟨k+1,AA,by congr 1;omega,by rw[fO,ex];exact hJ3,hnx.trans hk3⟩
    case measure=>simp[intOf]
   gi_wp2
   refine bodyPost_ret (results_none rfl _ _ _) rfl ?_;exact⟨⟨_,rfl⟩,.inr ⟨_,⟨k+1,AA,by rw[fO,ex]⟩,hJx3⟩⟩
  obtain rfl:k=zs.length:=AA
  rw[(AA:(zs.length:Int)-1-zs.length= -1)]
  gi_wp2
  go_end0
  exact⟨⟨_,rfl⟩,.inl ⟨_,rfl,hJs⟩⟩
theorem kK (F:Fence) (n:Nat) (h7:F.fn 373) (hro:F.round=none) (l Bs:Nat) (base:Option Addr) (cap:Nat) (J:List (Int×UInt32)->World->Prop) (W:World) (hBs:W.cell? ⟨Bs,0,none⟩=some (.slice base 0 cap)) (h0:J [] W):
  CallsIn F n Tryz.prog 373 #[.func (.yield l) #[] #[],.pointer (some ⟨Bs,0,none⟩)] W fun e W'=>(∃v,e= .returned v)/\J [] W':=by
 refine callsIn_of_wp Tryz.func373 rfl h7 ?_ hro;simp only[Tryz.ntmps373,List.size_toArray,List.length_cons,List.length_nil,Nat.reduceAdd,Nat.reduceSub,Array.replicate_succ,Array.replicate_zero,List.push_toArray,List.append_toArray,List.nil_append,List.cons_append]
 gi_wp2
 gi_loopw [3] (fun i wr=>i= .int .i64 (-1)/\J [] wr) (fun _ _=>0)
 case atStart=>exact⟨AZ,h0⟩
 case round=>
  obtain⟨rfl,hJs⟩:=hrel
  gi_wp2
  go_end0
  exact⟨⟨_,rfl⟩,hJs⟩
theorem kL (F:Fence) (n:Nat) (h5:F.fn 368) (hro:F.round=none) (a:Option Addr) (len cap:Nat) (w:World):
  CallsIn F n Tryz.prog 368 #[.slice a len cap] w fun e w'=>e= .returned (.func (.func 373) #[] #[.pointer (some ⟨w.heap.size,0,none⟩)])/\w'=w.alloc (.cells #[.slice a len cap] 62):=by
 refine callsIn_of_wp Tryz.func368 rfl h5 ?_ hro;simp only[Tryz.ntmps368,List.size_toArray,List.length_cons,List.length_nil,Nat.reduceAdd,Nat.reduceSub,Array.replicate_succ,Array.replicate_zero,List.push_toArray,List.append_toArray,List.nil_append,List.cons_append]
 gi_wp2
 go_ret
 exact⟨rfl,rfl⟩
def Words (n:Nat) (W:World) (sv:Value) (zs:List UInt32):Prop:=
 (∃base cap,sv= .slice base 0 cap/\zs=[])\/∃b off cap,sv= .slice (some ⟨b,off,none⟩) zs.length cap/\b<n/\∀j,j<zs.length->W.cell? ⟨b,off+j,none⟩=some (.int .u32 ((zs[j]?.getD 0).toNat:Int))
theorem Words.below {n:Nat} {A B:World} (h:Below n A B) {d:Value} {f:List UInt32}:Words n A d f->Words n B d f
 | .inl e=> .inl e
 | .inr ⟨b,off,cap,e,hb,g⟩=> .inr ⟨b,off,cap,e,hb,fun j r=>(h.cell (p:=⟨b,off+j,none⟩) hb).trans (g j r)⟩
theorem kM (F:Fence) (n:Nat) (C:F.fn 373) (t:F.round=none) (N:1<=n) (h d:Nat) (G:Value) (g:List UInt32) (f:g.length<=140737488351232) (w:World) (u:h<w.heap.size) (j:d<=w.heap.size)
  (L:w.cell? ⟨h,0,none⟩=some G) (I:Words d w G g):
  SeqStopsK F n Tryz.prog 373 #[.pointer (some ⟨h,0,none⟩)] (fun x:Int×UInt32=> #[Value.int .i64 x.1,Value.int .u32 (x.2.toNat:Int)]) (ID d h) (fun ys=>ys=upto (bk g) g.length)
   (fun pre=>∃k,k<=g.length/\pre=upto (bk g) k) g.length w:=fun l J H W D _ _ K B=>by
 have r:=(D.cell (p:=⟨h,0,none⟩) u).trans L;rcases I.below (D.mono j) with⟨base,cap,rfl,rfl⟩ |⟨b,off,cap,rfl,hb,A⟩
 ·exact (kK F n C t l h base cap J W r B).mono fun e O ⟨he,M⟩=>⟨he,.inl ⟨_,rfl,M⟩⟩
 exact kJ F n C t N l h d b off cap g f hb J H K W r A B
def L5 (s:Int) (x:Int×UInt32):Int:=bits BinOp.or IntKind.u64 (IntKind.u64.wrap (s*4294967296)) (IntKind.u64.wrap (x.2.toNat:Int))
def MQ (pre:List (Int×UInt32)):Int:=pre.foldl L5 0
theorem mY (pre:List (Int×UInt32)) (x:Int×UInt32):MQ (pre++[x])=L5 (MQ pre) x:=by simp[MQ]
theorem tl (F:Fence) (n:Nat) (h3:F.fn 351) (h5:F.fn 368) (h7:F.fn 373) (hro:F.round=none) (hn:3<=n) (a:Option Addr) (len cap:Nat) (zs:List UInt32) (hreach:zs.length<=140737488351232) (w:World) (hI:Words w.heap.size w (.slice a len cap) zs):
  CallsIn F n Tryz.prog 351 #[.slice a len cap] w fun e W'=>e= .returned (.int .u64 (MQ (upto (bk zs) zs.length)))/\Below w.heap.size w W':=by
 have h1:1<=n:=AA
 refine callsIn_of_wp_marks Tryz.func351 rfl h3 ?_ hro;simp only[Tryz.ntmps351,List.size_toArray,List.length_cons,List.length_nil,Nat.reduceAdd,Nat.reduceSub,Array.replicate_succ,Array.replicate_zero,List.push_toArray,List.append_toArray,List.nil_append,List.cons_append]
 gi_wp2_with (gi_at_call 368;refine (kL F (n-1) h5 hro _ _ _ _).mono ?_;rintro e w' ⟨rfl,rfl⟩)
 have bS:=Boxed.new w 176 (.int .u64 0);have bN:=Boxed.new (w.alloc (.cells #[.int .u64 0] 176)) 62 (.slice a len cap);rw[World.size_alloc] at bN;have hB0:Below w.heap.size w ((w.alloc (.cells #[.int .u64 0] 176)).alloc (.cells #[.slice a len cap] 62)):=((Below.refl _ w).alloc (Nat.le_refl _) _).alloc AZ _
 refine wpIn_rangeFunc_ownG hro h1 (gf:=373) (lb:= #[.pointer (some ⟨w.heap.size+1,0,none⟩)]) rfl h7 (enters_of Tryz.func373 (by kernel_rfl) rfl)
  (kM F (n-1) h7 hro AA (w.heap.size+1) w.heap.size _ zs hreach _ AZ (by simp;omega) bN.cell (hI.below hB0)) ID.trans (fun W l o o' hl h hc hw=>⟨belowK_b (by simp;omega) W l o o' hl h hc hw,World.putObj_heap_other (by simp at hl;omega)⟩) (Below.refl _ _) (fun _=>rfl)
  (fun pre W=>(W.cell? ⟨w.heap.size,0,none⟩=some (.int .u64 (MQ pre))/\W.frozen? ⟨w.heap.size,0,none⟩=false)/\Below w.heap.size w W)
  (fun _ _ _=>False)
  (OwnFrom.and (Own.from (fun s A B row hs hg hr=>⟨cell_kept hs.1 hg hr,(frozen_kept hs.1 hg hr).trans hs.2⟩) _) (ownFrom_below (Nat.le_refl _) (by simp;omega)))
  (fun _ _ _ _ _ hs _ _=>hs)
  ⟨⟨(bS.alloc _).cell,(bS.alloc _).frozen⟩,hB0⟩
  (fun x=>{tmps:= #[.slice a len cap,undef,.int .u64 0,.pointer (some ⟨w.heap.size,0,none⟩),undef,.int .u32 (x.2.toNat:Int),.slice a len cap,.func (.func 373) #[] #[.pointer (some ⟨w.heap.size+1,0,none⟩)],.int .i64 x.1,.int .u32 (x.2.toNat:Int),undef,undef,undef,undef,undef,undef],defers:=[]}) ?assign ?body ?done ?stop
 case assign=>
  intro l x W K hK
  gi_wp2
  exact hK
 case body=>
  rintro l pre x W ⟨⟨hc,hf⟩,hB⟩ _
  gi_wp2
  exact⟨(KeepsOthers.setCell _ _ _).from _,⟨(Below.refl w.heap.size W).setCell (p:=⟨w.heap.size,0,none⟩) (Nat.le_refl _) _,Below.heap_setCell W _ _ _ AZ⟩,⟨by rw[mY];exact World.cell?_setCell_same' _ _ _ (by rw[hc];rfl),by rw[World.frozen?_setCell];exact hf⟩,hB.setCell (p:=⟨w.heap.size,0,none⟩) (Nat.le_refl _) _⟩
 case done=>
  rintro D ys W hD rfl ⟨⟨hc,_⟩,hB⟩ hK
  gi_wp2
  refine⟨AZ,.inl ⟨_,_,rfl,run_takeDeferred hK,?_⟩⟩;exact⟨_,results_tmp rfl _ _ _,rfl,hB.trans (belowK_b (w:=w) (Nat.le_refl _) W D _ _ (by simp at hD;omega) hK rfl rfl)⟩
 case stop=>
  rintro D c pre W _ _ h _;exact h.elim
theorem Sf {s:Int} {p:Nat} (x:Int×UInt32) (f:s=p) (d:p<4294967296):L5 s x=((x.2.toNat+4294967296*p:Nat):Int):=by
 have g:=x.2.toNat_lt;refine La (a:=IntKind.u64.wrap (s*4294967296)) (b:=IntKind.u64.wrap (x.2.toNat:Int)) rfl ?_ ?_ d g
 ·rw[wrap_u64 (rfl:IntKind.u64.wrap (s*4294967296)=_),f];omega
 rw[wrap_u64 (rfl:IntKind.u64.wrap (x.2.toNat:Int)=_)];omega
theorem mZ:∀(l:List UInt32),l.length<=2->MQ (upto (bk l) l.length)=(AJ l:Int)
 | [],_=>rfl
 | [x],_=>by
  show L5 0 (bk [x] 0)=_
  refine (Sf (p:=0) _ rfl AF).trans ?_;simp[bk,AJ]
 | [x,y],_=>by
  show L5 (L5 0 (bk [x,y] 0)) (bk [x,y] 1)=_
  have d:=Sf (p:=0) (bk [x,y] 0) rfl AF;have f:=y.toNat_lt;rw[Sf (p:=y.toNat) _ (by simpa [bk] using d) f];simp[bk,AJ]
 | _::_::_::_,h=>by simp at h
theorem Rs {l:List UInt32} {n:Int} {k:Nat} (A:AJ l=k) (B:l.length<=2) (C:Ah n k):CF 351 [.one (.sl .u32 l)] (.one (.int .u64 n)):=by
 obtain⟨c,u⟩:∃c,Tryz.f351.body=some c:=⟨_,rfl⟩
 refine .mk ⟨Tryz.f351,c,by kernel_rfl,by rfl,u⟩ ⟨rfl,rfl⟩ fun w I vs t f=>?_
 match vs,f with
 | [v],.cons g _=>
  rcases g with d |⟨base,cap,G,H,J,h3⟩
  ·cases d
  obtain rfl:v= .slice base l.length cap:=by simpa using G
  have hw:Words w.heap.size w (.slice base l.length cap) l:=by
   rcases h3 with rfl |⟨b,off,rfl,hb,h⟩
   ·exact .inl ⟨base,cap,rfl,rfl⟩
   refine .inr ⟨b,off,cap,rfl,t b hb,fun j d=>?_⟩;obtain⟨us,hu,D⟩:=h j l[j] (by simp[d]);have hu:us=[.int .u32 (l[j].toNat:Int)]:=hu;have:=D 0 (.int .u32 (l[j].toNat:Int)) (by rw[hu];rfl);have e:l[j]?.getD 0=l[j]:=by simp[d]
   rw[e];have F:T.u32.size=1:=rfl;rw[F] at this;have this:w.cell? ⟨b,off+j*1+0,none⟩=_:=this;simpa using this
  refine (callsIn_wide.1 (tl Fence.wide 3 trivial trivial trivial rfl (Nat.le_refl _) base l.length cap l AA w hw)).mono ?_;rintro e w' ⟨rfl,r⟩;refine⟨_,none,rfl,r,.inr ?_⟩
  show _=_
  rw[mZ l B,A,C.eq]
end
section
open Go.RowKit Go.Shelf Go.Proofs
theorem bitLen_spec {x:Nat} (h:x<4294967296) (g:x≠0):2^(Lib.bitLen x-1)<=x/\x<2^Lib.bitLen x/\1<=Lib.bitLen x/\Lib.bitLen x<=32:=by
 have key:∀(f x:Nat),x<2^f->x≠0->2^(Lib.bitLenAux f x-1)<=x/\x<2^Lib.bitLenAux f x/\1<=Lib.bitLenAux f x/\Lib.bitLenAux f x<=f:=by
  intro f
  induction f with
  | zero=>intro x h g;simp at h;exact absurd h g
  | succ f r=>
   intro x h g;simp only[Lib.bitLenAux,if_neg g]
   by_cases j:x/2=0
   ·rw[j];have:Lib.bitLenAux f 0=0:=by cases f <;> simp[Lib.bitLenAux]
    rw[this];simp;omega
   obtain⟨a,b,c,d⟩:=r (x/2) (by rw[Nat.pow_succ] at h;omega) j
   generalize Lib.bitLenAux f (x/2)=m at*
   obtain⟨m,rfl⟩:∃k,m=k+1:=⟨m-1,AA⟩
   rw[(AA:1+(m+1)=m+1+1),Nat.pow_succ];simp only[Nat.add_sub_cancel] at a ⊢;rw[Nat.pow_succ] at b ⊢;omega
 have e:Lib.bitLen x=Lib.bitLenAux 32 x:=Lib.bitLenAux_fuel 32 x (by simpa using h) 64 AF;rw[e];exact key 32 x (by simpa using h) g
theorem Wo {x c:Int} {k:Nat} (f:Ah x k) (u:k<4294967296) (h:Ah c (Lib.bitLen k)):CF 372 [.one (.int .u32 x)] (AD c):=by
 obtain⟨b,hb⟩:∃b,Tryz.f372.body=some b:=⟨_,rfl⟩
 refine .mk ⟨Tryz.f372,b,by kernel_rfl,by rfl,hb⟩ ⟨rfl,rfl⟩ fun w I vs t d=>?_
 match vs,d with
 | [v],.cons g _=>
  rcases g with j | r
  ·cases j
  obtain rfl:v= .int .u32 x:=r;have:=f.eq;refine (oX x w).mono ?_;rintro e w' ⟨rfl,rfl⟩;refine⟨_,none,rfl,Below.refl _ _,.inr ?_⟩
  show _=_
  rw[h.eq,f.eq];rfl
end
section
theorem gU {x c:Int} {k:Nat} (t:Ah x k) (f:k≠0) (g:k<4294967296) (r:Ah c (32-Lib.bitLen k)):CF 363 [.one (.int .u32 x)] (AD c):=by
 refine AN Tryz.func363 fun E j=>?_
 obtain⟨B,d⟩:∃n:Int,Ah n (Lib.bitLen k):=⟨_,⟨rfl⟩⟩
 have h:=d.eq;refine AB j (Wo t g d) ?_;have hb:=bitLen_spec g f;refine AP ?_;intro A u;exact AO (by rw[r.eq];omega)
theorem QG {l m z1 z2:List UInt32} {a b:Nat} (hl:l=BB a) (hm:m=BB b) (hb:0<b) (hz1:z1=BB (a/b)) (hz2:z2=BB (a%b)) (sl:l.length<=17592186044000):CF 350 [.one (.sl .u32 l),.one (.sl .u32 m)] (.BN [(false,[.sl .u32 z1]),(false,[.sl .u32 z2])]):=by
 refine Gc Tryz.func350 fun E hE=>?_
 conv=>cbv
 refine .inr ?_;obtain⟨r22,hr22⟩:=xI (CR a b);refine Be hE (P8 hl hm hr22) ?_;refine Ak ?_;intro n23 h23;cases n23 <;> conv=>cbv
 ·have k23:=ES h23;have hba:b<=a:=by rw[hr22] at k23;have:=KF k23;omega
  have hml:m.length<=l.length:=by rw[hl,hm];exact FG hba
  refine Ak ?_;intro n28 h28 n29 h29;have e28:=h28.eq;have f28:=h28.le;cases n29 <;> conv=>cbv
  ·have k29:=OK h29;refine Ak ?_;intro n44 h44 n45 h45;have e44:=h44.eq;have f44:=h44.le;cases n45 <;> conv=>cbv
   ·have k45:=Bm h45;have hm0:m.length≠0:=fun e=>by have e2:=List.eq_nil_of_length_eq_zero e;rw[hm] at e2;have:=Fo.1 e2;omega
    obtain⟨n,hn⟩:∃n,n=m.length:=⟨_,rfl⟩
    have hn2:2<=n:=AA
    refine Ak ?_;intro n55 h55 n56 h56;have e55:=h55.eq;have f55:=h55.le;refine Dx ?_;refine BH ((n-1)) fun x57 hx57=>?_
    try conv=>cbv
    have hx57b:=hx57;rw[hm] at hx57b;have hx570:x57.toNat≠0:=Nr hx57b (by rw[<-hm];omega);intro n58 h58;have e58:=h58.eq;have f58:=h58.lt;conv=>cbv
    obtain⟨s,hs⟩:∃s,s=32-Lib.bitLen x57.toNat:=⟨_,rfl⟩
    have hbl:=bitLen_spec (x:=x57.toNat) AA hx570;obtain⟨r59,hr59⟩:∃n:Int,Ah n s:=⟨_,⟨rfl⟩⟩
    have er59:=hr59.eq;refine Be hE (gU (k:=x57.toNat) (Ah.of AA) hx570 AA (hs ▸ hr59)) ?_;conv=>cbv
    obtain⟨z62,hz621,hz622⟩:=Lc (N:=AJ l*2^s) (k:=l.length+1) (Rh l);obtain⟨zn62,hzn62⟩:∃k,k=z62.length:=⟨_,rfl⟩
    refine Be hE (dj hr59 AA hz621 hz622 hzn62 AA) ?_;conv=>cbv
    obtain⟨z65,hz651,hz652⟩:=Lc (N:=AJ m*2^s) (k:=m.length+1) (Rh m);refine Be hE (ER (dj hr59 AA hz651 hz652 rfl AA)) ?_;conv=>cbv
    obtain⟨w66,hw66⟩:=xU (BB (AJ m*2^s));refine Be hE (GD hz652 hw66) ?_;conv=>cbv
    obtain⟨hwl,hwV⟩:=dr (b:=b) (n:=n) (s:=s) (x:=x57) (k:=Lib.bitLen x57.toNat) (by rw[<-hm,hn]) AA hx57b hbl.1 hbl.2.1 hbl.2.2.1 hbl.2.2.2 hs;have hV:AJ w66=b*2^s:=by rw[hw66,Bn,hm,Bn]
    have hwn:w66.length=n:=by rw[hw66,hm,Bn];exact hwl
    rw[<-hV] at hwV;intro n68 h68;have e68:=h68.eq;have f68:=h68.le;conv=>cbv
    intro n70 h70;have e70:=h70.eq;refine Ak ?_;intro n72 h72;refine Dx ?_;refine⟨fun _=>⟨AA,AA,by show _*4<=140737488355328;omega⟩,?_⟩;intro k73 (l73:List UInt32) ql73;have hk73:=ql73.1;have hl73:l73=List.replicate k73 (0:el .u32):=ql73.2;have gl73:l73.length=k73:=by rw[hl73,List.length_replicate]
    refine Ak ?_;intro n76 h76;refine Dx ?_;refine BH ((n-1)) fun x77 hx77=>?_
    refine Ak ?_;intro n78 h78 n79 h79;have e78:=h78.eq;have f78:=h78.lt;have h79:=wrap_u64 h79;intro n82 h82;conv=>cbv
    refine Dx ?_;refine BH ((n-2)) fun x83 hx83=>?_
    refine Ak ?_;intro n84 h84 n85 h85;have e84:=h84.eq;have f84:=h84.lt;have h85:=wrap_u64 h85;refine g2 rfl ?_;obtain⟨A,hA⟩:∃A,A=AJ z62:=⟨_,rfl⟩
    obtain⟨high,hhigh⟩:∃k,k=x77.toNat:=⟨_,rfl⟩
    obtain⟨next,hnext⟩:∃k,k=x83.toNat:=⟨_,rfl⟩
    obtain⟨hVf,hVf2⟩:=tq hwn hx77 hx83 hn2;rw[<-hhigh,<-hnext] at hVf;rw[<-hhigh] at hVf2;have hV0:=M6 (l:=w66) (n:=n-2);have hV1:=M6 (l:=w66) (n:=n-1);have hhi:=nK hwV hVf2 hV1;have hstart:AJ (z62.drop k73)<AJ w66:=ee hz622 AA hz621 AA AA hwV;have hwlt:=DZ w66;rw[hwn] at hwlt;have hVpos:0<AJ w66:=AA
    have hk73n:k73+n=l.length+1:=AA
    have hzl:zn62=l.length+1/\z62.length=l.length+1:=AA
    have hs31:s<=31:=AA
    have e79:n79=(high:Int):=AA
    have e85:n85=(next:Int):=AA
    have hhl:high<4294967296:=AA
    have hnl:next<4294967296:=AA
    have hn68:n68=(n:Int):=AA
    have hVpos:0<AJ w66:=AA
    have hk73n:k73+n=l.length+1:=AA
    have hzl:zn62=l.length+1/\z62.length=l.length+1:=AA
    have hs31:s<=31:=AA
    have e79:n79=(high:Int):=AA
    have e85:n85=(next:Int):=AA
    have hhl:high<4294967296:=AA
    have hnl:next<4294967296:=AA
    have hn68:n68=(n:Int):=AA
    have hVM:AJ w66<=2^(32*(n+1)):=by rw[FI];omega
    intro n87 h87;have e87:=h87.eq;refine Ak ?_;intro n88 h88;refine Dx ?_;refine Bc [] [8,9,10,11,12,13,14,15] [62,73] (fun vs bl k=>∃(u q:List UInt32) (j':Nat) (i:Int),vs=[AD r59,.one (.BK .u32 62 0 0 zn62),.one (.sl .u32 w66),AD n68,.one (.BK .u32 73 0 0 k73),.one (.int .u64 n79),.one (.int .u64 n85),AD i]/\bl=[.arr 0 .u32 u,.arr 0 .u32 q]/\(u.length=z62.length/\q.length=k73/\Ah (i+1) j'/\j'<=k73)/\AJ (u.drop j')<AJ w66/\A=AJ u+2^(32*j')*AJ (q.drop j')*AJ w66/\k=j') k73 ⟨z62,l73,k73,n88,rfl,rfl,⟨rfl,by rw[hl73,List.length_replicate],⟨AA⟩,AA⟩,hstart,by rw[List.drop_eq_nil_of_le (by rw[hl73,List.length_replicate];omega)];simp[AJ,hA],rfl⟩ ?_;rintro J0 hJ0 vs bl kk0 ⟨u,q,j',i,rfl,rfl,⟨hul,hql,hi,hjl⟩,hlt,hinv,hk0⟩;conv=>cbv
    clear hr22 h23 k23 hba hml h28 e28 f28 h29 k29 h44 e44 f44 h45 k45 hm0 hn h55 e55 f55 h56 hx57 hx57b hx570 h58 e58 f58 hs hbl hz621 hzn62 hz651 hz652 hw66 hwl h68 e68 f68 h70 e70 h72 hk73 hl73 gl73 h76 hx77 h78 e78 f78 h79 h82 hx83 h84 e84 f84 h85 hhigh hnext hstart h87 e87 h88
    have ei:=hi.eq;refine MF ?_ ?_ <;> intro k90 <;> conv=>cbv
    ·have hnl169:k73<=(q).length:=AA
     obtain⟨m169,hm169⟩:=xN ((DB ((q).take k73)).length);obtain⟨hle169,htk169⟩:=Fv hnl169 hm169;refine .inr (.inr (.inl ⟨[],.one (.BK .u32 0 0 0 m169),.arr 0 .u32 q,fun _=>⟨by first | decide | simp[DR,DQ],trivial⟩,fun _=>⟨FN hE (NA hnl169 AA hm169),rfl,rfl⟩,?_⟩));try conv=>cbv
     refine F7 ?_;intro b172 hb172;conv=>cbv
     rintro o172 c172 ⟨ho172,hc172⟩;conv=>cbv
     have ho172:o172=0:=AA
     subst ho172;have hnl173:c172<=u.length:=AA
     obtain⟨m173,hm173⟩:=xN ((DB (u.take c172)).length);obtain⟨hle173,htk173⟩:=Fv hnl173 hm173;refine .inr (.inr (.inl ⟨[],.one (.BK .u32 0 0 0 m173),.arr 0 .u32 u,fun _=>⟨by first | decide | simp[DR,DQ],trivial⟩,fun _=>⟨FN hE (NA hnl173 AA hm173),rfl,rfl⟩,?_⟩));try conv=>cbv
     have hl175:(u.take m173).length<=u.length:=by rw[List.length_take];omega
     obtain⟨z175,hz1751,hz1752⟩:=Lc (N:=AJ (u.take m173)/2^s) (k:=(u.take m173).length) (Nat.lt_of_le_of_lt (Nat.div_le_self _ _) (DZ _));refine .inr (.inl ⟨[.one (.sl .u32 ((u).take m173)),AD r59],.one (.sl .u32 z175),fun _=>⟨⟨_,rfl,by simp <;> omega,AZ⟩,rfl,trivial⟩,fun _=>GX hE (ER (PY rfl (dk hr59 AA hz1751 hz1752 rfl AA))),?_⟩);try conv=>cbv
     obtain⟨w176,hw176⟩:=xU (BB (AJ (u.take m173)/2^s));refine Be hE (GD hz1752 hw176) ?_;conv=>cbv
     refine g2 rfl ?_;have hj0:j'=0:=AA
     rw[hj0,List.drop_zero] at hlt;have hinv2:A=AJ u+AJ q*AJ w66:=by rw[hj0] at hinv;simpa using hinv
     have hA2:A=a*2^s:=by rw[hA,hz622,hl,Bn]
     obtain⟨e1,e2⟩:=Yy hA2 hV hinv2 hlt hb;have hcn:c172=n:=AA
     have hun:AJ (u.take c172)=AJ u:=by rw[hcn];have h1:=HJ u n AA;rw[UQ AA AA] at h1;omega
     have hum:AJ (u.take m173)=AJ u:=by rw[htk173,Bn,hun]
     exact AM ⟨⟨rfl,.inl ⟨_,rfl,AA,congrArg _ (by rw[List.drop_zero,htk169,<-hql,List.take_length,e1,hz1])⟩,trivial⟩,⟨rfl,congrArg _ (by rw[hz2,hw176,hum,e2]),trivial⟩,trivial⟩
    refine .inr ?_;obtain⟨i',rfl⟩:∃i',j'=i'+1:=⟨j'-1,AA⟩
    intro n96 h96;conv=>cbv
    refine Dx ?_;refine F7 ?_;intro j97 hj97;conv=>cbv
    obtain⟨x98,hx98⟩:=Cq (l:=u) (i:=j97) AA;refine⟨x98,fun _=>hx98,?_⟩;refine Ak ?_;intro n98 h98 n99 h99;have e98:=h98.eq;have f98:=h98.lt;have h99:=wrap_u64 h99;intro n100 h100;conv=>cbv
    refine F7 ?_;have h100:=Ll (p:=4294967296) h100 rfl;intro n104 h104;conv=>cbv
    refine Dx ?_;intro n105 h105;conv=>cbv
    refine Dx ?_;refine F7 ?_;intro j106 hj106;conv=>cbv
    obtain⟨x107,hx107⟩:=Cq (l:=u) (i:=j106) AA;refine⟨x107,fun _=>hx107,?_⟩;refine Ak ?_;intro n107 h107 n108 h108;have e107:=h107.eq;have f107:=h107.lt;have h108:=wrap_u64 h108;intro n109 h109;conv=>cbv
    have h109:=La (p:=x98.toNat) (q:=x107.toNat) h109 AA AA AA AA;refine g2 rfl ?_;obtain⟨x130y,hy130⟩:=Cq (l:=u) (i:=i'+n-2) AA;obtain⟨u3,hu3⟩:∃k,k=x130y.toNat:=⟨_,rfl⟩
    obtain⟨R,hRd⟩:∃R,R=AJ (u.drop i'):=⟨_,rfl⟩
    obtain⟨top,htop⟩:∃t,t=x107.toNat+4294967296*x98.toNat:=⟨_,rfl⟩
    have h0:AJ (u.drop (i'+n+1))=0:=by have:=UQ (l:=u.drop (i'+1)) (n:=n) AA (by rw[List.length_drop];omega);rwa [List.drop_drop,(AA:i'+1+n=i'+n+1)] at this
    have hx97:u[i'+n]? =some x98:=by rw[<-hx98];congr 1;omega
    have hx106:u[i'+n-1]? =some x107:=by rw[<-hx107];congr 1;omega
    have hRf:=tt hx97 hx106 hy130 hn2 h0;have hRf2:=tu hx97 hx106 AA h0;rw[<-htop,<-hu3,<-hRd] at hRf;rw[<-htop,<-hRd] at hRf2;have hR0:=M6 (l:=u.drop i') (n:=n-2);have hR1:=M6 (l:=u.drop i') (n:=n-1);have hRV:R<4294967296*AJ w66:=by obtain⟨xi,hxi⟩:=Cq (l:=u) (i:=i') AA;rw[hRd,Eu hxi];have:=xi.toNat_lt;omega
    have hRM:R<2^(32*(n+1)):=by rw[FI];omega
    have htl:=tp hRf2 hVf2 hV1 hRV;have hg0:=nH hRf2 hR1 hVf2 hhi AA htl;have hqw:R/AJ w66<4294967296:=(Nat.div_lt_iff_lt_mul hVpos).2 hRV;have hbig:top<18446744073709551616:=by have:=x107.toNat_lt;have:=x98.toNat_lt;omega
    intro n112 h112;conv=>cbv
    refine F7 ?_;have h112:=wrap_u64 h112;have e112:n112=((top/high:Nat):Int):=by rw[h112,h109,e79,<-htop,<-Int.natCast_ediv];have:=Nat.div_le_self top high;generalize top/high=Q at *;omega
    intro n115 h115;conv=>cbv
    refine F7 ?_;have e115:n115=((top%high:Nat):Int):=by rw[h115,h109,e79,<-htop];exact (Int.natCast_emod _ _).symm
    refine g2 rfl ?_;obtain⟨K3,hK3⟩:=xK fun vs bl=>∃(Dd:Nat) (d:Int),vs=[AD r59,.one (.BK .u32 62 0 0 zn62),.one (.sl .u32 w66),AD n68,.one (.BK .u32 73 0 0 k73),.one (.int .u64 n79),.one (.int .u64 n85),AD i,.one (.int .u64 d)]/\bl=[.arr 0 .u32 u,.arr 0 .u32 q]/\Ah d Dd/\NR R (AJ w66) Dd
    refine .inl ⟨[8,9,10,11,12,13,14,15,17],[62,73],K3,?_,?_⟩
    ·intro vs bl hj;rw[hK3] at hj;obtain⟨Dd,d,rfl,rfl,hDd,hnear⟩:=hj;conv=>cbv
     clear k90 h96 hj97 hx98 h98 e98 f98 h99 h100 h104 h105 hj106 hx107 h107 e107 f107 h108 h109 hy130 hu3 htop hx97 hx106 hRf hRf2 hR0 hR1 hRV htl hg0 hbig h112 e112 h115 e115
     have eDd:=hDd.eq;intro n146 h146;conv=>cbv
     refine Dx ?_;intro n147 h147;conv=>cbv
     refine Dx ?_;refine⟨fun _=>⟨AA,AA,AA⟩,?_⟩;rintro a148 b148 ⟨ha148,hb148⟩;conv=>cbv
     rintro o148 c148 ⟨ho148,hc148⟩;conv=>cbv
     have hDw:=hnear.word;have hseg:AJ ((u.drop i').take (n+1))=R:=by rw[hRd];exact dQ AA h0
     obtain⟨b151,S151,hS151,hSl151⟩:=tY (M:=2^(32*(n+1))) hnear hVpos hRM hVM;have ho148:i'=o148:=AA
     have hc148:n+1=c148:=AA
     subst ho148 hc148;obtain⟨z151,hz1511,hz1512,hz1513,hz1514⟩:=dP (u:=u) (off:=i') (len:=n+1) hSl151 AA;refine .inr (.inr (.inl ⟨[.one (.sl .u32 w66),.one (.int .u64 d)],.one (.bool b151),.arr 0 .u32 z151,fun _=>⟨by first | decide | simp[DR,DQ],t2⟩,fun _=>⟨FN hE (ta (d:=Dd) AA AA hDd hnear.word AA hz1511 hz1512 hz1513 (by rw[hz1514,hseg];exact hS151)),rfl,rfl⟩,?_⟩));try conv=>cbv
     obtain⟨J151,hJ151⟩:=xK fun vs bl=>∃(z:List UInt32) (q0:Nat) (d:Int),vs=[AD r59,.one (.BK .u32 62 0 0 zn62),.one (.sl .u32 w66),AD n68,.one (.BK .u32 73 0 0 k73),.one (.int .u64 n79),.one (.int .u64 n85),AD i,.one (.int .u64 d)]/\bl=[.arr 0 .u32 z,.arr 0 .u32 q]/\Ah d q0/\(q0=R/AJ w66/\q0<4294967296)/\(z.length=u.length/\z.take i'=u.take i'/\z.drop (i'+(n+1))=u.drop (i'+(n+1)))/\AJ ((z.drop i').take (n+1))=R%AJ w66
     refine .inl ⟨[8,9,10,11,12,13,14,15,17],[62,73],J151,?_,?_⟩
     ·intro vs bl hj;rw[hJ151] at hj;obtain⟨z,q0,d,rfl,rfl,hq0,⟨hqR,hqlt⟩,⟨hzl1,hzt,hzd⟩,hzv⟩:=hj;conv=>cbv
      have eq0:=hq0.eq;intro n166 h166;conv=>cbv
      have h166:=wrap_u32 h166;refine F7 ?_;intro j167 hj167;conv=>cbv
      obtain⟨w167,hw167⟩:=DF (n:=n166) AA;have ew167:=hw167.eq;have fw167:=hw167.lt;refine⟨w167,fun _=>⟨by show _<List.length (α:=UInt32) q;(first | omega | (simp;omega)),DE hw167⟩,?_⟩;intro (l167:List UInt32) (hl167:l167=List.set (α:=UInt32) q j167 w167);have gl167:l167.length=q.length:=by rw[hl167,List.length_set]
      refine Ak ?_;intro n92 h92;refine Dx ?_;refine⟨i',?_,?_⟩
      ·omega
      rw[hJ0];have hwq:w167.toNat=R/AJ w66:=by rw[<-hqR];omega
      obtain⟨g1,g2⟩:=cO (u:=u) (z:=z) (A:=A) (V:=AJ w66) (i:=i') (n:=n) (Q:=AJ (q.drop (i'+1))) (q:=w167.toNat) hzl1 hzt hzd AA h0 (by rw[hwq,hRd]) (by rw[hzv,hRd]) hinv;refine⟨z,l167,i',n92,rfl,rfl,⟨AA,AA,⟨AA⟩,AA⟩,?_,?_,rfl⟩
      ·rw[g1];exact Nat.mod_lt _ hVpos
      rw[hl167,(AA:j167=i'),Eu (l:=q.set i' w167) (i:=i') (x:=w167) (by rw[List.getElem?_set_self AA]),List.drop_set_of_lt AA];exact g2
     cases b151 <;> conv=>cbv
     ·rw[hJ151];obtain⟨e1,e2⟩:=(aW hnear hVpos hS151 hSl151).1 rfl;exact⟨z151,Dd,_,rfl,rfl,hDd,⟨e1,hDw⟩,⟨hz1511,hz1512,hz1513⟩,by rw[hz1514,e2]⟩
     intro n153 h153;conv=>cbv
     have h153:=wrap_u64 h153;intro n158 h158;conv=>cbv
     refine Dx ?_;intro n159 h159;conv=>cbv
     refine Dx ?_;refine⟨fun _=>⟨AA,AA,AA⟩,?_⟩;rintro a160 b160 ⟨ha160,hb160⟩;conv=>cbv
     rintro o160 c160 ⟨ho160,hc160⟩;conv=>cbv
     have ho160:i'=o160:=AA
     have hc160:n+1=c160:=AA
     subst ho160 hc160;obtain⟨z162,hz1621,hz1622,hz1623,hz1624⟩:=dP (u:=z151) (off:=i') (len:=n+1) (S:=(S151+AJ w66)%2^(32*(n+1))) (Nat.mod_lt _ (Nat.two_pow_pos _)) AA;refine .inr (.inr (.inl ⟨[.one (.sl .u32 w66)],.BN [],.arr 0 .u32 z162,fun _=>⟨by first | decide | simp[DR,DQ],t1⟩,fun _=>⟨FN hE (qt AA AA AA hz1621 hz1622 hz1623 (by rw[hz1624,hz1514])),rfl,rfl⟩,?_⟩));try conv=>cbv
     rw[hJ151];obtain⟨e1,e2,e3⟩:=(aW hnear hVpos hS151 hSl151).2 rfl;exact⟨z162,Dd-1,_,rfl,rfl,⟨AA⟩,⟨e1,AA⟩,⟨hz1621.trans hz1511,hz1622.trans hz1512,hz1623.trans hz1513⟩,by rw[hz1624,e3 (Nat.lt_of_le_of_lt (Nat.mod_le _ _) hRM)]⟩
    obtain⟨J1,hJ1⟩:=xJ fun vs bl k=>∃(D r':Nat) (d r:Int),vs=[AD r59,.one (.BK .u32 62 0 0 zn62),.one (.sl .u32 w66),AD n68,.one (.BK .u32 73 0 0 k73),.one (.int .u64 n79),.one (.int .u64 n85),AD i,.one (.int .u64 d),.one (.int .u64 r)]/\bl=[.arr 0 .u32 u,.arr 0 .u32 q]/\(Ah d D/\Ah r r')/\J6 R (AJ w66) top high D r'/\k=D
    refine⟨[],[8,9,10,11,12,13,14,15,17,18],[62,73],J1,⟨top/high,by rw[hJ1];exact⟨top/high,top%high,n112,n115,rfl,rfl,⟨⟨e112⟩,⟨e115⟩⟩,hg0,rfl⟩⟩,?_⟩;intro vs bl kk1 hj;rw[hJ1] at hj;obtain⟨D,r',d,r,rfl,rfl,⟨hd,hr⟩,hg,hk1⟩:=hj;conv=>cbv
    clear k90 h96 hj97 hx98 h98 e98 f98 h99 h100 h104 h105 hj106 hx107 h107 e107 f107 h108 h109 h112 e112 h115 e115
    have ed:=hd.eq;have er:=hr.eq;refine lz ?_ ?_ <;> intro k117 <;> conv=>cbv
    ·refine .inr ?_;have hgm:=hg.Qy;have hgr:=hg.rest;have hq1:R/AJ w66<=D-1:=by first | exact ZU hg hqw | exact ZV hg hRf hR0 hVf AA
     have hDp:0<D:=by first | omega | (apply Nat.pos_of_ne_zero;intro e;rw[e,Nat.zero_mul] at hp121;omega)
     intro n136 h136;conv=>cbv
     have h136:=wrap_u64 h136;have e136:n136=((D-1:Nat):Int):=AA
     intro n139 h139;conv=>cbv
     have h139:=wrap_u64 h139;have e139:n139=((r'+high:Nat):Int):=AA
     refine MF ?_ ?_ <;> intro k141 <;> conv=>cbv
     ·exact Bz hJ1 ⟨D-1,r'+high,n136,n139,rfl,rfl,⟨⟨e136⟩,⟨e139⟩⟩,ZW hg hq1 hDp AA,rfl⟩
     rw[hK3]
     first
      | exact⟨D-1,_,rfl,rfl,⟨e136⟩,Uv hg hq1 hDp hRf hVf hV0 hhi AA htl⟩
      | exact⟨D,_,rfl,rfl,hd,Uw hg hRf hVf hV0 hhi AA⟩
    intro n121 h121;conv=>cbv
    have h121:=wrap_u64 h121;obtain⟨p121,hp121,h121⟩:∃p:Nat,p=D*next/\n121=p:=⟨_,rfl,by rw[h121,ed,e85,<-Int.natCast_mul];have:=Nat.mul_le_mul (by omega:D<=4294967295) (by omega:next<=4294967295);omega⟩
    intro n123 h123;conv=>cbv
    refine F7 ?_;have h123:=Ll (p:=4294967296) h123 rfl;intro n127 h127;conv=>cbv
    refine Dx ?_;intro n128 h128;conv=>cbv
    refine Dx ?_;refine F7 ?_;intro j129 hj129;conv=>cbv
    obtain⟨x130,hx130⟩:=Cq (l:=u) (i:=j129) AA;refine⟨x130,fun _=>hx130,?_⟩;refine Ak ?_;intro n130 h130 n131 h131;have e130:=h130.eq;have f130:=h130.lt;have h131:=wrap_u64 h131;intro n132 h132;conv=>cbv
    have x130e:x130=x130y:=by rw[(AA:j129=i'+n-2),hy130] at hx130;exact (Option.some.inj hx130).symm
    have hrr:=hg.rest;have h132:=La (p:=r') (q:=x130.toNat) h132 AA AA hrr AA;rw[x130e,<-hu3] at h132;refine QB ?_ ?_ <;> intro k133 <;> conv=>cbv
    ·rw[hK3]
     first
      | exact⟨D-1,_,rfl,rfl,⟨e136⟩,Uv hg hq1 hDp hRf hVf hV0 hhi AA htl⟩
      | exact⟨D,_,rfl,rfl,hd,Uw hg hRf hVf hV0 hhi AA⟩
    refine .inr ?_;have hgm:=hg.Qy;have hgr:=hg.rest;have hq1:R/AJ w66<=D-1:=by first | exact ZU hg hqw | exact ZV hg hRf hR0 hVf AA
    have hDp:0<D:=by first | omega | (apply Nat.pos_of_ne_zero;intro e;rw[e,Nat.zero_mul] at hp121;omega)
    intro n136 h136;conv=>cbv
    have h136:=wrap_u64 h136;have e136:n136=((D-1:Nat):Int):=AA
    intro n139 h139;conv=>cbv
    have h139:=wrap_u64 h139;have e139:n139=((r'+high:Nat):Int):=AA
    refine MF ?_ ?_ <;> intro k141 <;> conv=>cbv
    ·exact Bz hJ1 ⟨D-1,r'+high,n136,n139,rfl,rfl,⟨⟨e136⟩,⟨e139⟩⟩,ZW hg hq1 hDp AA,rfl⟩
    rw[hK3]
    first
     | exact⟨D-1,_,rfl,rfl,⟨e136⟩,Uv hg hq1 hDp hRf hVf hV0 hhi AA htl⟩
     | exact⟨D,_,rfl,rfl,hd,Uw hg hRf hVf hV0 hhi AA⟩
   have k45:=Bp h45;refine BH 0 fun x48 hx48=>?_
   refine Ak ?_;intro n49 h49;have e49:=h49.eq;have f49:=h49.lt;have hb48:b=x48.toNat:=by have:=DS hx48;rw[(AA:0+1=m.length),List.take_length,hm,Bn] at this;simpa [AJ] using this
   obtain⟨w50,hw50⟩:=xU (BB (AJ l/b));obtain⟨v50,hv50⟩:=xU (BB (AJ l%b));refine Be hE (lx (d:=n49) (b:=b) (Ah.of AA) hb AA hw50 hv50 AA) ?_;conv=>cbv
   exact AM ⟨⟨rfl,congrArg _ (by rw[hz1,hw50,hl,Bn]),trivial⟩,⟨rfl,congrArg _ (by rw[hz2,hv50,hl,Bn]),trivial⟩,trivial⟩
  have k29:=OL h29;obtain⟨r31,hr31⟩:∃n:Int,Ah n (a):=⟨_,⟨rfl⟩⟩
  have er31:=hr31.eq;refine Be (r:= .one (.int .u64 r31)) hE (Rs (by rw[hl,Bn]) AA hr31) ?_;conv=>cbv
  obtain⟨r33,hr33⟩:∃n:Int,Ah n (b):=⟨_,⟨rfl⟩⟩
  have er33:=hr33.eq;refine Be (r:= .one (.int .u64 r33)) hE (Rs (by rw[hm,Bn]) AA hr33) ?_;conv=>cbv
  have ha64:a<18446744073709551616:=by have:=DZ l;rw[hl,Bn] at this;exact Nat.lt_of_lt_of_le this (Nat.pow_le_pow_right AF (by rw[<-hl];omega:32*(BB a).length<=64))
  intro n36 h36;conv=>cbv
  refine F7 ?_;have h36:=wrap_u64 h36;have bq:=Nat.div_le_self a b;have h36:n36=((a/b:Nat):Int):=by rw[h36,er31,er33,<-Int.natCast_ediv];generalize a/b=Q at *;omega
  obtain⟨w37,hw37⟩:=xU (BB (a/b));refine Be (r:= .one (.sl .u32 w37)) hE (MR (Ah.of (k:=a/b) h36) (by generalize a/b=Q at *;omega) hw37) ?_;refine Ak ?_;intro n40 h40;refine F7 ?_;have br:=Nat.mod_lt a hb;have h40:n40=((a%b:Nat):Int):=by rw[h40,er31,er33];exact (Int.natCast_emod _ _).symm
  obtain⟨w41,hw41⟩:=xU (BB (a%b));refine Be (r:= .one (.sl .u32 w41)) hE (MR (Ah.of (k:=a%b) h40) (by generalize a%b=Q at *;omega) hw41) ?_;try conv=>cbv
  refine g2 rfl ?_;exact AM ⟨⟨rfl,congrArg _ (by rw[hz1,hw37]),trivial⟩,⟨rfl,congrArg _ (by rw[hz2,hw41]),trivial⟩,trivial⟩
 have k23:=ET h23;obtain⟨w25,hw25⟩:=xU l;refine Be hE (Lv hw25 AA) ?_;conv=>cbv
 have hlt:a<b:=by rw[hr22] at k23;have:=KG k23;omega
 exact AM ⟨⟨rfl,.inr (.inl ⟨_,congrArg _ (by rw[hz1,Nat.div_eq_of_lt hlt];rfl)⟩),trivial⟩,⟨rfl,congrArg _ (by rw[hz2,Nat.mod_eq_of_lt hlt,hw25,hl]),trivial⟩,trivial⟩
end
section
variable {c:Int} {k n:Nat} {l z:List UInt32}
theorem nI {a:Nat} (j:l=BB a) (r:z=BB (a/2)) (sl:l.length<=17592186044416):CF 376 [.one (.sl .u32 l)] (.one (.sl .u32 z)):=by
 refine AN Tryz.func376 fun E h=>?_
 obtain⟨z4,g,d⟩:=Lc (N:=AJ l/2^1) (k:=l.length) (Nat.lt_of_le_of_lt (Nat.div_le_self _ _) (DZ _));refine AB h (ER (dk (n:=1) ⟨rfl⟩ AA g d rfl sl)) ?_;obtain⟨t,f⟩:=xU (BB (AJ l/2^1));refine AB h (GD d f) ?_;exact AO (by rw[r,f,j,Bn])
def EC (n:Nat):Nat:=if n=0 then 0 else Nat.log2 n+1
theorem pH (f:2^k<=n) (g:n<2^(k+1)):EC n=k+1:=by
 have d:n≠0:=by have:=Nat.two_pow_pos k;omega
 unfold EC;rw[if_neg d];have a:k<=Nat.log2 n:=(Nat.le_log2 d).2 f;have b:Nat.log2 n<k+1:=(Nat.log2_lt d).2 g;omega
theorem TD {i:Nat} {x:UInt32} (h:(BB n)[i]? =some x) (g:i+1=(BB n).length) (d:2^(k-1)<=x.toNat) (f:x.toNat<2^k) (t:1<=k):EC n=32*i+k:=by
 have h3:=DS h;rw[g,List.take_length,Bn] at h3;have r:=M6 (l:=BB n) (n:=i);obtain⟨j,rfl⟩:∃j,k=j+1:=⟨k-1,AA⟩
 simp only[Nat.add_sub_cancel] at d;have e1:2^(32*i+j)=2^(32*i)*2^j:=Nat.pow_add _ _ _;have e2:2^(32*i+j+1)=2^(32*i)*2^(j+1):=by rw[<-Nat.pow_add,Nat.add_assoc]
 refine pH (k:=32*i+j) ?_ ?_
 ·rw[e1,h3];have:=Nat.mul_le_mul_left (2^(32*i)) d;omega
 rw[e2,h3];have:=Nat.mul_le_mul_left (2^(32*i)) (show x.toNat+1<=2^(j+1) from f);rw[Nat.mul_add] at this;omega
theorem gD {x:Int} {b:Bool} (r:BR x b l) (H:Ah c (EC x.natAbs)) (sl:l.length<=17592186044416):CF 374 [.agg (B8 b l)] (AD c):=by
 refine AN Tryz.func374 fun E G=>?_
 obtain⟨D,j⟩:=xU (BB (AJ l));refine AB G (GD rfl j) ?_;have t6:D=l:=by rw[j];exact r.trim
 have Y:D.length=l.length:=by rw[t6]
 rintro n8 ⟨Z,f8⟩;conv=>cbv
 refine BV (fun P=>?_) fun P=>?_
 ·exact AO (by rw[H.eq];have K:x=0:=r.Gf.1 (by rw[<-t6];omega);rw[K];rfl)
 rintro Q ⟨I,f11⟩ R L S M T ⟨J,f16⟩ U N;refine BH ((D.length-1)) fun A t=>?_
 try conv=>cbv
 have d:=t;rw[t6,r.B9] at d;have u:(BB x.natAbs).length-1+1=(BB x.natAbs).length:=by rw[<-r.B9,<-t6];omega
 have g:=Nr d u;intro V h;have B:=h.eq;have f19:=h.lt;conv=>cbv
 obtain⟨X,f⟩:∃n:Int,Ah n (Lib.bitLen A.toNat):=⟨_,⟨rfl⟩⟩
 have F:=f.eq;refine AB G (Wo ⟨B⟩ f19 f) ?_;have hb:=bitLen_spec (x:=A.toNat) f19 g;have C:=TD d u hb.1 hb.2.1 hb.2.2.1;refine AP ?_;intro W O;exact AO (by rw[H.eq,C,<-r.B9,<-t6];omega)
theorem so (R:Ah c n) (hn:n<=1125899906000000) (U:z=BB (2^n)):CF 375 [AD c] (.one (.sl .u32 z)):=by
 have X:=R.eq;refine AN Tryz.func375 fun E hE=>?_
 intro n5 Y n6 Z;refine⟨fun _=>⟨AA,AA,by show _*4<=140737488355328;omega⟩,?_⟩;intro G (t:List UInt32) F;have T:=F.1;have g:t=List.replicate G (0:el .u32):=F.2;have N:t.length=G:=by rw[g,List.length_replicate]
 refine AP ?_;intro V P W Q C u;obtain⟨D,r,u⟩:∃q:Nat,q=2^(n%32)/\C=q:=⟨_,rfl,by have:=Vx (p:=1) (e:=n%32) u rfl AA;rw[this,Nat.one_mul];congr 1;exact Nat.mod_eq_of_lt (Nat.lt_of_le_of_lt (Nat.pow_le_pow_right AF (by omega:n%32<=31)) AF)⟩
 have K:D<4294967296:=by rw[r];exact Nat.lt_of_le_of_lt (Nat.pow_le_pow_right AF (by omega:n%32<=31)) AF
 refine AP ?_;intro B L;obtain⟨j,h⟩:=DF (n:=C) AA;have H:=h.eq;have I:=h.lt;refine⟨j,fun _=>⟨by show _<List.length (α:=UInt32) t;(first | omega | (simp;omega)),DE h⟩,?_⟩;intro (d:List UInt32) (f:d=List.set (α:=UInt32) t B j);have J:d.length=t.length:=by rw[f,List.length_set]
 conv=>cbv
 have S:G=n/32+1:=AA
 have M:AJ d=2^n:=by
  have O:t[n/32]? =some 0:=by rw[g,List.getElem?_replicate,if_pos AA]
  have:=Uu (w:=j) O;rw[f,(AA:B=n/32)];rw[g,Jj] at this;rw[g];have e:2^n=2^(32*(n/32))*2^(n%32):=by rw[<-Nat.pow_add];congr 1;omega
  rw[e,<-r,(AA:D=j.toNat)];simpa using this
 have hlen:d.length=n/32+1:=by rw[f,List.length_set,g,List.length_replicate,S]
 have A:BB (AJ d)=d:=Uh (.inr (by rw[M,hlen];exact Nat.pow_le_pow_right AF AA));exact AM ⟨⟨rfl,.inl ⟨_,rfl,AA,congrArg _ (by rw[U,<-M,A,List.drop_zero,List.take_of_length_le AA])⟩,trivial⟩,trivial⟩
end
end Go.Abs
