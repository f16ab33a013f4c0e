/- Part 6 of a proof. Conditions: each theorem's own. -/
import Derived.RangeFuncBox
import Derived.RangeFuncLeaves
import Derived.Shelf.Abstract
import Derived.WalkKit
import Derived.OwnWalkIn
import Derived.TacticsInMore
import Derived.LoopNIn
import Derived.LoopIn
import Derived.Test.YtmifleedghiimaaGreatDoorRb00
import Derived.Test.YtmifleedghiimaaGreatDoorRb04
set_option linter.all false
set_option maxHeartbeats 80000000
set_option maxRecDepth 20000
open Go.Proofs
namespace Go.Abs
open Go.RowKit
section
variable {a b m n p:Int} {e i:Nat}
def QP.lt {x:UInt8} (_:QP n x):x.toNat<256:=x.toNat_lt
def OV.lt {x:UInt32} (_:OV n x):x.toNat<4294967296:=x.toNat_lt
def BM (k:Nat):AZ k k:=⟨rfl⟩
def AZ.of {k:Nat} (h:n=k):AZ n k:=⟨h⟩
def CL (h:true=(a==b)):a=b:=by simpa using h.symm
def CI (h:false=(a==b)):a≠b:=by simpa using h.symm
def Ic (h:true=(a !=b)):a≠b:=by simpa using h.symm
def Ib (h:false=(a !=b)):a=b:=by simpa using h.symm
def EZ (h:true=decide (a<b)):a<b:=by simpa using h.symm
def EY (h:false=decide (a<b)):b<=a:=by simpa using h.symm
def PR (h:true=decide (a<=b)):a<=b:=by simpa using h.symm
def PQ (h:false=decide (a<=b)):b<a:=by simpa using h.symm
def Gt (h:true=decide (a>b)):b<a:=by simpa using h.symm
def Gs (h:false=decide (a>b)):a<=b:=by simpa using h.symm
def NU (h:true=decide (a >= b)):b<=a:=by simpa using h.symm
def NT (h:false=decide (a >= b)):a<b:=by simpa using h.symm
def Hq {a:Bool} (h:true= !a):a=false:=by simpa using h.symm
def Hp {a:Bool} (h:false= !a):a=true:=by simpa using h.symm
def Uu {a b:Bool} (h:true=(a==b)):a=b:=by simpa using h.symm
def Ut {a b:Bool} (h:false=(a==b)):a≠b:=by simpa using h.symm
def Qs {a b:Bool} (h:true=(a !=b)):a≠b:=by simpa using h.symm
def Qr {a b:Bool} (h:false=(a !=b)):a=b:=by simpa using h.symm
def wrap_u8 (h:n=IntKind.u8.wrap m):n=m%256:=h
def wrap_u32 (h:n=IntKind.u32.wrap m):n=m%4294967296:=h
def wrap_u64 (h:n=IntKind.u64.wrap m):n=m%18446744073709551616:=h
def wrap_i64 (h:n=IntKind.i64.wrap m):n=(m+9223372036854775808)%18446744073709551616-9223372036854775808:=by
 have e:IntKind.i64.wrap m=if (true&&decide (m%18446744073709551616 >= 9223372036854775808))=true then m%18446744073709551616-18446744073709551616 else m%18446744073709551616:=rfl
 rw[h,e]
 split
 ·rename_i d
  simp only[Bool.true_and,decide_eq_true_eq] at d;omega
 rename_i d
 simp only[Bool.true_and,decide_eq_true_eq] at d;omega
def Fs (h:n=a.fdiv (2^e)) (d:2^e=p):n=a/p:=by
 rw[h,<-d,Int.fdiv_eq_ediv_of_nonneg _ (by have:=Int.pow_pos (n:=2) (m:=e) AD;omega)]
def Mk (h:n=IntKind.u64.wrap (a*2^e)) (d:2^e=p):n=(a*p)%18446744073709551616:=by rw[<-d];exact h
def CE {α:Type} {l:List α} (h:i<l.length):∃x,l[i]? =some x:=⟨l[i],by simp[h]⟩
def DD (h:0<=n/\n<4294967296):∃w:UInt32,OV n w:=⟨UInt32.ofNat n.toNat,⟨by rw[UInt32.toNat_ofNat'];omega⟩⟩
def DC {w:UInt32} (h:OV n w):E2 Gc [.int .u32 n] (cells .u32 w):=by
 refine⟨?_,trivial⟩
 show AC.int .u32 _=AC.int .u32 n
 rw[h.eq]
def H6 {α:Type} {l:List α} {x:α} (h:l[i]? =some x):i<l.length:=by
 apply Classical.byContradiction;intro d;rw[List.getElem?_eq_none AA] at h;exact absurd h AS
def EM {α:Type} {l:List α} {x:α} (h:l[i]? =some x):l.take (i+1)=l.take i++[x]:=by
 have d:=H6 h;rw[List.take_succ_eq_append_getElem d];rw[List.getElem?_eq_getElem d] at h;rw[Option.some.inj h]
def Dm {t:T} {l m:List (el t)} {n k:Nat} (h:l=m) (d:n=k):AC.own t l n=AC.own t m k:=by rw[h,d]
end
section
variable {a b n:Nat} {c y:Int} {l m z:List UInt32}
def GU (P:AI l=n) (G:z=Ah n):CF 296 [.one (.sl .u32 l)] (.one (.sl .u32 z)):=by
 have G:C7 l=z:=by rw[G,<-P,N8]
 refine AL Tryz.func296 fun E Z=>?_
 refine BX [] [0] [] (fun vs J k=>∃m:List UInt32,vs=[.one (.sl .u32 m)]/\C7 m=z/\k=m.length) l.length ⟨l,rfl,G,rfl⟩ ?_;rintro W C vs J R ⟨m,rfl,r,O⟩;refine Af ?_;rintro n4 ⟨X,f4⟩;refine Fu (fun Q=>?_) fun Q=>?_
 ·have D:m=[]:=List.eq_nil_of_length_eq_zero AA;exact AO (by rw[<-r,D];rfl)
 rintro n9 ⟨Y,f9⟩ d M;refine BA ((d).toNat) fun u g=>?_
 refine Af ?_;intro T j;have K:=j.eq;have f12:=j.lt;refine Cw (fun A=>?_) fun A=>?_
 ·have F:u≠0:=fun h=>by subst h;exact A j.eq
  have e2:m=m.take (d).toNat++[u]:=by have:=EM g;rw[List.take_of_length_le AA] at this;exact this
  exact AO (by rw[<-r,e2,Mm F])
 refine .inr ?_;refine AM ?_;rintro U ⟨L,f17⟩ V N S I B H t f;refine⟨t.length,?_,?_⟩
 ·rw[f];simp;omega
 rw[C];have el:t=m.take (d).toNat:=by rw[f,(AA:B=(d).toNat)];simp
 refine⟨t,rfl,?_,rfl⟩;obtain rfl:u=0:=UInt32.toNat_inj.1 (by show _=0;omega)
 have e2:m=m.take (d).toNat++[0]:=by
  have:=EM g;rw[List.take_of_length_le AA] at this;exact this
 rw[el,<-r];conv=>rhs;rw[e2]
 rw[Lj]
def dB (x:Int):CF 342 [AH x] (.one (.bool false)):=by
 refine AL Tryz.func342 fun E f=>?_
 intro g d;exact AO (by rw[d];simp)
def dC (x:Int):CF 349 [.one (.int .u32 x)] (.one (.bool false)):=by
 refine AL Tryz.func349 fun E f=>?_
 intro g d;exact AO (by rw[d];simp)
def YK {x:Int} (d:c=CO x y):CF 332 [AH x,AH y] (AH c):=by
 refine AL Tryz.func332 fun E h=>?_
 refine AB h (dB _) ?_;refine AB h (dB _) ?_;refine Dk (fun f=>?_) fun f=>?_
 ·exact AO (by rw[d];unfold CO;split <;> (try split) <;> omega)
 refine Fu (fun g=>?_) fun g=>?_
 ·exact AO (by rw[d];unfold CO;split <;> (try split) <;> omega)
 exact AO (by rw[d];unfold CO;split <;> (try split) <;> omega)
def kV {x:Int} (d:c=CO x y):CF 341 [.one (.int .u32 x),.one (.int .u32 y)] (AH c):=by
 refine AL Tryz.func341 fun E h=>?_
 refine AB h (dC _) ?_;refine AB h (dC _) ?_;refine Dk (fun f=>?_) fun f=>?_
 ·exact AO (by rw[d];unfold CO;split <;> (try split) <;> omega)
 refine Fu (fun g=>?_) fun g=>?_
 ·exact AO (by rw[d];unfold CO;split <;> (try split) <;> omega)
 exact AO (by rw[d];unfold CO;split <;> (try split) <;> omega)
def OA {m:Nat} (S:n<=l.length) (hl:l.length<=140737488355328) (hm:m=(C7 (l.take n)).length):Kg Tryz.prog 296 (.Aj .u32 0 0 0 n) (.arr 0 .u32 l) [] (.one (.Aj .u32 0 0 0 m)) (.arr 0 .u32 l):=by
 refine Og Tryz.func296 (by kernel_rfl) rfl fun E hE=>?_
 conv=>cbv
 refine BX [] [0] [0] (fun vs F k=>∃q:Nat,vs=[.one (.Aj .u32 0 0 0 q)]/\F=[.arr 0 .u32 l]/\q<=l.length/\m=(C7 (l.take q)).length/\k=q) n ⟨n,rfl,rfl,S,hm,rfl⟩ ?_;rintro Z B vs F U ⟨q,rfl,rfl,hq,j,R⟩;conv=>cbv
 intro n4 P;have e4:=P.eq;conv=>cbv
 refine Fu (fun T=>?_) fun T=>?_
 ·refine⟨fun _=>⟨⟨⟨rfl,.inr (.inr ⟨rfl,rfl,congrArg (AC.Aj .u32 0 0 0) (by rw[j,(AA:q=0)];rfl)⟩),trivial⟩,trivial⟩,rfl,AS⟩,fun _=>rfl⟩
 intro n9 Q;have e9:=Q.eq;refine AM ?_;intro V N r I;obtain⟨t,d⟩:=CE (l:=l) (i:=r) AA;refine⟨t,fun _=>d,?_⟩;refine Af ?_;intro W g;have L:=g.eq;have f12:=g.lt;refine Cw (fun u=>?_) fun u=>?_
 ·have C:t≠0:=fun h=>by subst h;exact u g.eq
  refine⟨fun _=>⟨⟨⟨rfl,.inr (.inr ⟨rfl,rfl,congrArg (AC.Aj .u32 0 0 0) (by rw[j,(AA:q=r+1),EM d,Mm C,List.length_append,List.length_take];simp;omega)⟩),trivial⟩,trivial⟩,rfl,AS⟩,fun _=>rfl⟩
 refine .inr ?_;intro X A;have M:=A.eq;refine AM ?_;rintro Y O K G D f ⟨J,H⟩;refine⟨f,?_,?_⟩
 ·omega
 rw[B];obtain rfl:D=0:=AA
 refine⟨f,rfl,rfl,AA,?_,rfl⟩;obtain rfl:t=0:=UInt32.toNat_inj.1 (by show _=0;omega);rw[j,(AA:q=f+1),EM (x:=0) (by rw[(AA:f=r)];exact d),Lj]
def fW {zn:Nat} (hl:l=Ah a) (hm:m=Ah b) (hz:z=Ah (a+b)) (ah:zn=z.length) (sl:l.length<=17592186044416) (sm:m.length<=17592186044416):CF 328 [.one (.sl .u32 l),.one (.sl .u32 m)] (.one (.own .u32 z zn)):=by
 refine AL Tryz.func328 fun E hE=>?_
 rintro aR ⟨aF,f10⟩ aS ⟨aG,f12⟩ aw Y;obtain⟨an,F⟩:=xK fun vs bl=>∃(p q:Nat) (x y:List UInt32),vs=[.one (.sl .u32 x),.one (.sl .u32 y)]/\x=Ah p/\y=Ah q/\p+q=a+b/\y.length<=x.length/\x.length<=17592186044416
 refine .inl ⟨[0,1],[],an,?_,?_⟩
 ·intro vs bl hj;rw[F] at hj;obtain⟨p,q,x,y,rfl,hx,hy,J,ag,aP⟩:=hj;refine AM ?_;rintro aT ⟨aH,f17⟩ aU aM;refine⟨fun _=>⟨AA,AA,by show _*4<=140737488355328;omega⟩,?_⟩;intro R (S:List UInt32) O;have K:=O.1;have A:S=List.replicate R (0:el .u32):=O.2;have aE:S.length=R:=by rw[A,List.length_replicate]
  refine Af ?_;intro ax Q;have aI:=Q.eq;have f21:=Q.le;refine BX [] [0,1,5,6,20,21,22] [19] (fun vs bl k=>∃(o:List UInt32) (n V i':Nat) (c L i:Int),vs=[.one (.sl .u32 x),.one (.sl .u32 y),.one (.Aj .u32 19 0 0 n),.one (.int .u64 c),.one (.sl .u32 x),AH L,AH i]/\bl=[.arr 0 .u32 o]/\(n=o.length/\o.length=i'/\EN L x.length/\AZ i i'/\i'<=x.length/\AZ c V/\V<=1)/\AI o+2^(32*i')*V=AI (x.take i')+AI (y.take i')/\k=x.length-i') (x.length-0) ⟨S,R,0,0,0,ax,0,rfl,rfl,⟨by rw[A,List.length_replicate],by rw[A,List.length_replicate,K];rfl,Q,BM 0,AA,BM 0,AA⟩,by rw[A,K];simp[AI],rfl⟩ ?_;rintro J0 ad vs bl aQ ⟨o,n,V,i',c,L,i,rfl,rfl,⟨hn,ho,hL,hi,aO,hc,aN⟩,hinv,r⟩;conv=>cbv
  have eL:=hL.eq;have ei:=hi.eq;have ec:=hc.eq;refine Bi (fun ar=>?_) fun ar=>?_
  ·intro E7 aa;refine .inr ?_;cases E7 <;> conv=>cbv
   ·have av:=Gs aa;have r:i'=x.length:=AA
    have g:AI o=p+q:=by rw[r,Ev (Nat.le_refl _),Ev ag,hx,hy,Bk,Bk,(AA:V=0)] at hinv;omega
    exact AN ⟨⟨rfl,.inr (.inl ⟨_,_,AD,rfl,rfl,hn,rfl,Dm (by rw[hz,<-J];exact (Z5 g (by rw[ho,r,hx])).symm) (by rw[ah,hz,<-J,<-Z5 g (by rw[ho,r,hx])])⟩),trivial⟩,trivial⟩
   have av:=Gt aa;intro az ab;conv=>cbv
   have ab:=wrap_u32 ab;obtain⟨B,H⟩:=DD (n:=az) AA;have aC:=H.eq;have aD:=H.lt;refine⟨[B],fun _=>⟨rfl,AD,rfl,⟨rfl,DC H,trivial⟩⟩,.inl ?_⟩;try conv=>cbv
   refine .inl ⟨[B],fun _=>⟨rfl,by (first | rfl | omega),⟨_,rfl,by simp <;> omega,AS⟩,Ck (o.length+1) 4⟩,?_⟩;intro (ai:List UInt32) aA P;have M:ai=(o:List UInt32)++([B]:List UInt32):=P.1;have ae:aA=List.length (α:=UInt32) ai:=P.2;conv=>cbv
   have r:i'=x.length:=AA
   have g:AI (o++[B])=p+q:=by rw[Fj,(AA:B.toNat=V),ho,<-Bk p,<-Bk q,<-hx,<-hy];rw[r,Ev (Nat.le_refl _),Ev ag] at hinv;rw[r];exact hinv
   have hw:B.toNat≠0:=AA
   exact AN ⟨⟨rfl,.inr (.inl ⟨_,_,AD,rfl,rfl,ae,rfl,Dm (by rw[hz,<-J,<-g,Uy hw,M]) (by rw[ah,hz,<-J,<-g,Uy hw,M])⟩),trivial⟩,trivial⟩
  refine .inr ?_;refine BA i' fun al N=>?_
  refine Af ?_;intro aV Z aW a1;have aJ:=Z.eq;have f26:=Z.lt;have a1:=wrap_u64 a1;intro aj a2;conv=>cbv
  have a2:=wrap_u64 a2;refine Af ?_;rintro aX ⟨aK,f33⟩ ay a5;refine .inr ?_;cases ay <;> conv=>cbv
  ·have au:=EY a5;intro T C;conv=>cbv
   have C:=wrap_u32 C;obtain⟨f,d⟩:=DD (n:=T) AA;have W:=d.eq;have X:=d.lt;refine⟨[f],fun _=>⟨rfl,AD,rfl,⟨rfl,DC d,trivial⟩⟩,.inl ?_⟩;try conv=>cbv
   refine .inl ⟨[f],fun _=>⟨rfl,by (first | rfl | omega),⟨_,rfl,by simp <;> omega,AS⟩,Ck (o.length+1) 4⟩,?_⟩;intro (t:List UInt32) I j;have h:t=(o:List UInt32)++([f]:List UInt32):=j.1;have G:I=List.length (α:=UInt32) t:=j.2;refine AM ?_;intro u D;have D:=Fs (p:=4294967296) D rfl;refine AM ?_;intro U ao;refine⟨x.length-(i'+1),?_,?_⟩
   ·omega
   rw[ad];refine⟨t,I,u.toNat,i'+1,u,L,U,rfl,rfl,⟨G,by rw[h];simp;omega,hL,⟨AA⟩,AA,⟨AA⟩,AA⟩,?_,rfl⟩;rw[h,DV N,Ev (l:=y) (i:=i'+1) AA];have hs:=Q5 (xi:=al.toNat) (yi:=0) (s:=aj.toNat) (w:=f) ho hinv AA AA;rw[(AA:u.toNat=aj.toNat/4294967296)];rw[hs];rw[Ev (l:=y) (i:=i') AA];omega
  have au:=EZ a5;refine BA i' fun aB af=>?_
  refine Af ?_;intro aY a6 aZ a7;have aL:=a6.eq;have f39:=a6.lt;have a7:=wrap_u64 a7;intro ak a8;conv=>cbv
  have a8:=wrap_u64 a8;intro T C;conv=>cbv
  have C:=wrap_u32 C;obtain⟨f,d⟩:=DD (n:=T) AA;have W:=d.eq;have X:=d.lt;refine⟨[f],fun _=>⟨rfl,AD,rfl,⟨rfl,DC d,trivial⟩⟩,.inl ?_⟩;try conv=>cbv
  refine .inl ⟨[f],fun _=>⟨rfl,by (first | rfl | omega),⟨_,rfl,by simp <;> omega,AS⟩,Ck (o.length+1) 4⟩,?_⟩;intro (t:List UInt32) I j;have h:t=(o:List UInt32)++([f]:List UInt32):=j.1;have G:I=List.length (α:=UInt32) t:=j.2;refine AM ?_;intro u D;have D:=Fs (p:=4294967296) D rfl;refine AM ?_;intro U ao;refine⟨x.length-(i'+1),?_,?_⟩
  ·omega
  rw[ad];refine⟨t,I,u.toNat,i'+1,u,L,U,rfl,rfl,⟨G,by rw[h];simp;omega,hL,⟨AA⟩,AA,⟨AA⟩,AA⟩,?_,rfl⟩;rw[h,DV N,DV af];have hs:=Q5 (xi:=al.toNat) (yi:=aB.toNat) (s:=ak.toNat) (w:=f) ho hinv AA AA;rw[(AA:u.toNat=ak.toNat/4294967296)];rw[hs]
 cases aw <;> conv=>cbv
 ·have aq:=EY Y;rw[F];exact⟨a,b,_,_,rfl,hl,hm,rfl,AA,AA⟩
 have aq:=EZ Y;rw[F];exact⟨b,a,_,_,rfl,hm,hl,Nat.add_comm _ _,AA,AA⟩
def fV (d:l=Ah a) (hm:m=Ah b) (f:z=Ah (a+b)) (sl:l.length<=17592186044416) (g:m.length<=17592186044416):CF 328 [.one (.sl .u32 l),.one (.sl .u32 m)] (.one (.sl .u32 z)):=EW (fW d hm f rfl sl g)
end
section
variable {b:Bool} {l z:List UInt32} {x:Int}
def G1 {n:Bool} (r:x=if n=true then -(AI l:Int) else AI l) (h:BQ x b z):CF 257 [.one (.bool n),.one (.sl .u32 l)] (.agg (Bu b z)):=by
 refine AL Tryz.func257 fun E u=>?_
 obtain⟨A,d⟩:=xU (Ah (AI l));refine AB u (GU rfl d) ?_;intro C g;have B:=g.eq;have f8:=g.le;refine Cw (fun t=>?_) fun t=>?_
 ·have j:AI l≠0:=fun e=>t (by have:=g.eq;rw[d,e] at this;exact this)
  have f:BQ x n A:= .val d.symm r (fun e=>absurd e j);exact Ed ((f.uniq h rfl).1.symm) ((f.uniq h rfl).2.symm)
 have j:AI l=0:=by have e:=g.eq;rw[d] at e;exact F8.1 (List.length_eq_zero_iff.1 AA)
 have f:BQ x false []:= .val (n:=0) rfl (by rw[r,j];simp) (fun _=>rfl);exact AN ⟨⟨rfl,congrArg _ ((f.uniq h rfl).1.symm),.inr (.inl ⟨_,congrArg _ ((f.uniq h rfl).2.symm)⟩),trivial⟩,trivial⟩
def NS {n:Int} {k:Nat} (I:AZ n k) (N:k<18446744073709551616) (J:z=Ah k):CF 258 [.one (.int .u64 n)] (.one (.sl .u32 z)):=by
 have M:=I.eq;refine AL Tryz.func258 fun E H=>?_
 intro n4 C;have C:=wrap_u32 C;refine AM ?_;intro O D;have D:=Fs (p:=4294967296) D rfl;intro L F;conv=>cbv
 have F:=wrap_u32 F;obtain⟨g,d⟩:=DD (n:=n4) AA;have t:=d.eq;have A:=d.lt;obtain⟨h,f⟩:=DD (n:=L) AA;have u:=f.eq;have B:=f.lt;refine⟨[g,h],fun _=>⟨rfl,AD,rfl,⟨rfl,DC d,⟨rfl,DC f,trivial⟩⟩⟩,.inl ?_⟩;try conv=>cbv
 obtain⟨K,j⟩:=xN ((C7 ([g,h].take 2)).length);obtain⟨G,r⟩:=GF AS j;refine .inr (.inr (.inl ⟨[],.one (.Aj .u32 0 0 0 K),.arr 0 .u32 [g,h],fun _=>⟨by first | decide | simp[DS,DJ],trivial⟩,fun _=>⟨Fb H (OA AS AS j),rfl,rfl⟩,?_⟩));try conv=>cbv
 exact AN ⟨⟨rfl,.inl ⟨_,rfl,by simp;omega,congrArg _ (by rw[List.drop_zero,r,J];congr 1;simp[AI];omega)⟩,trivial⟩,trivial⟩
def Mt (j:z=l) (C:l.length<=17592186044416):CF 244 [.one (.sl .u32 l)] (.one (.sl .u32 z)):=by
 refine AL Tryz.func244 fun E B=>?_
 intro n4 u;refine⟨fun t=>?_,?_⟩
 ·conv=>cbv
  have g:l=[]:=by rw[u] at t;simpa using t
  exact AN ⟨⟨rfl,.inr (.inl ⟨_,congrArg _ (by rw[j,g])⟩),trivial⟩,trivial⟩
 refine⟨[],fun _=>⟨rfl,AD,rfl,trivial⟩,.inl ?_⟩;try conv=>cbv
 refine .inl ⟨l,fun _=>⟨rfl,by (first | rfl | omega),rfl,Ck (0+l.length) 4⟩,?_⟩;intro (r:List UInt32) A f;have h:r=([]:List UInt32)++(l:List UInt32):=f.1;have d:A=List.length (α:=UInt32) r:=f.2;conv=>cbv
 exact AN ⟨⟨rfl,.inl ⟨_,rfl,by rw[d];simp,congrArg _ (by rw[j,d,h];simp)⟩,trivial⟩,trivial⟩
def QG (I: -9223372036854775808<=x/\x<9223372036854775808) (u:BQ x b z):CF 192 [AH x] (.agg (Bu b z)):=by
 refine AL Tryz.func192 fun E t=>?_
 intro J C;have C:=wrap_u64 C;intro H D;conv=>cbv
 refine .inr ?_;cases H <;> conv=>cbv
 ·have G:=EY D;intro A j;conv=>cbv
  obtain⟨B,f⟩:=xU (Ah x.natAbs);refine AB t (NS (AZ.of (k:=x.natAbs) AA) AA f) ?_;obtain⟨g,h,d⟩:=BO (x);refine AB (r:= .agg [.bool g,.sl .u32 h]) t (G1 (by rw[f,Bk,j];simp;omega) d) ?_;exact Ed ((d.uniq u rfl).1.symm) ((d.uniq u rfl).2.symm)
 have G:=EZ D;intro K F;conv=>cbv
 have F:=wrap_u64 F;intro A j;conv=>cbv
 obtain⟨B,f⟩:=xU (Ah x.natAbs);refine AB t (NS (AZ.of (k:=x.natAbs) AA) AA f) ?_;obtain⟨g,h,d⟩:=BO (x);refine AB (r:= .agg [.bool g,.sl .u32 h]) t (G1 (by rw[f,Bk,j];simp;omega) d) ?_;exact Ed ((d.uniq u rfl).1.symm) ((d.uniq u rfl).2.symm)
end
section
variable {a b i:Nat} {l m z:List UInt32} {x:UInt32}
def VD {y:UInt32} (h:l[i]? =some x) (t:m[i]? =some y) (F:l.length=m.length) (he:AI (l.drop (i+1))=AI (m.drop (i+1))) (f:x≠y):
  CO x.toNat y.toNat=CO (AI l) (AI m):=by
 have C:=H6 h;have j:=Ho l (i+1) AA;have g:=Ho m (i+1) AA;rw[DV h] at j;rw[DV t] at g;have b1:=Dj (l.take i);have b2:=Dj (m.take i);rw[List.length_take,Nat.min_eq_left AA] at b1 b2;rw[<-he] at g
 generalize AI (l.drop (i+1))=D at*
 generalize AI (l.take i)=A at*
 generalize AI (m.take i)=B at*
 generalize 2^(32*(i+1))*D=Q at*
 generalize u:2^(32*i)=P at*
 have r:x.toNat≠y.toNat:=fun e=>f (UInt32.toNat_inj.1 e)
 by_cases d:x.toNat<y.toNat
 ·have:P*(x.toNat+1)<=P*y.toNat:=Nat.mul_le_mul_left _ d;rw[Nat.mul_add] at this;have:AI l<AI m:=AA
  unfold CO;rw[if_pos AA,if_pos AA]
 have:P*(y.toNat+1)<=P*x.toNat:=Nat.mul_le_mul_left _ AA;rw[Nat.mul_add] at this;have:AI m<AI l:=AA
 unfold CO;rw[if_neg AA,if_pos AA,if_neg AA,if_pos AA]
def VC (h:(Ah a).length≠(Ah b).length):CO (Ah a).length (Ah b).length=CO a b:=by
 by_cases d:(Ah a).length<(Ah b).length
 ·have:a<b:=by
   apply Classical.byContradiction;intro f;have:=FW (a:=b) (b:=a);omega
  unfold CO;rw[if_pos AA,if_pos AA]
 have:b<a:=by
  apply Classical.byContradiction;intro f;have:=FW (a:=a) (b:=b);omega
 unfold CO;rw[if_neg AA,if_pos AA,if_neg AA,if_pos AA]
def drop_eq (d:l[i]? =some x) (f:m[i]? =some x) (he:AI (l.drop (i+1))=AI (m.drop (i+1))):AI (l.drop i)=AI (m.drop i):=by
 have g:=H6 d;have h:=H6 f;rw[List.drop_eq_getElem_cons g,List.drop_eq_getElem_cons h,AI,AI,he];rw[List.getElem?_eq_getElem g] at d;rw[List.getElem?_eq_getElem h] at f;rw[Option.some.inj d,Option.some.inj f]
def RC {c:Int} (Q:l=Ah a) (hm:m=Ah b) (S:c=CO a b):CF 329 [.one (.sl .u32 l),.one (.sl .u32 m)] (AH c):=by
 refine AL Tryz.func329 fun E hE=>?_
 rintro n7 ⟨e7,f7⟩ n9 ⟨e9,f9⟩;refine HY (fun N=>?_) fun N=>?_
 ·intro V r W t;have a5:=r.eq;have f12:=r.le;have a6:=t.eq;have f14:=t.le;obtain⟨al,d⟩:=xI (CO V W);refine AB hE (YK d) ?_;exact AO (by rw[d,S,r.eq,t.eq,Q,hm,VC (by rw[<-Q,<-hm];intro e;exact N AA)])
 rintro ai ⟨a7,f17⟩ X ad;refine BX [] [0,1,5] [] (fun vs bl k=>∃(j:Int) (k':Nat),vs=[.one (.sl .u32 l),.one (.sl .u32 m),AH j]/\(AZ (j+1) k'/\k'<=l.length/\l.length=m.length/\AI (l.drop k')=AI (m.drop k'))/\k=k') l.length ⟨X,l.length,rfl,⟨⟨AA⟩,AA,AA,by rw[List.drop_length,(AA:l.length=m.length),List.drop_length]⟩,rfl⟩ ?_;rintro J0 R vs bl ah ⟨j,k',rfl,⟨hj,af,K,P⟩,ag⟩;conv=>cbv
 have ej:=hj.eq;refine Kf (fun U=>?_) fun U=>?_
 ·have hk:k'=0:=AA
  have he:a=b:=by rw[hk] at P;simpa [Q,hm,Bk] using P
  exact AO (by rw[S,he];simp[CO])
 refine .inr ?_;refine BA ((j).toNat) fun B g=>?_
 refine Af ?_;intro aj H;have G:=H.eq;have f26:=H.lt;refine BA ((j).toNat) fun C h=>?_
 refine AM ?_;intro ak I Z J;have a8:=I.eq;have f30:=I.lt;cases Z <;> conv=>cbv
 ·have O:=Ib J;refine AM ?_;intro Y ae;refine⟨k'-1,?_,?_⟩
  ·omega
  rw[R];obtain⟨i',rfl⟩:∃i',k'=i'+1:=⟨k'-1,AA⟩
  refine⟨Y,i',rfl,⟨⟨AA⟩,AA,K,?_⟩,AA⟩;have G:B=C:=UInt32.toNat_inj.1 AA;subst G;exact drop_eq (i:=i') (by rw[<-g];congr 1;omega) (by rw[<-h];congr 1;omega) P
 have O:=Ic J;refine BA ((j).toNat) fun D L=>?_
 refine Af ?_;intro a1 u;have aa:=u.eq;have f35:=u.lt;refine BA ((j).toNat) fun F M=>?_
 refine Af ?_;intro a2 A;have ab:=A.eq;have f39:=A.lt;obtain⟨an,f⟩:=xI (CO a1 a2);refine AB hE (kV f) ?_;obtain⟨i',rfl⟩:∃i',k'=i'+1:=⟨k'-1,AA⟩
 have e1:l[i']? =some D:=by rw[<-L];congr 1;omega
 have e2:m[i']? =some F:=by rw[<-M];congr 1;omega
 have e3:l[i']? =some B:=by rw[<-g];congr 1;omega
 have e4:m[i']? =some C:=by rw[<-h];congr 1;omega
 obtain rfl:D=B:=Option.some.inj (e1.symm.trans e3);obtain rfl:F=C:=Option.some.inj (e2.symm.trans e4);have T:D≠F:=fun e=>by subst e;exact O AA
 exact AO (by rw[f,S,u.eq,A.eq,VD e1 e2 K P T,Q,hm,Bk,Bk])
def WK (hl:l=Ah a) (hm:m=Ah b) (hz:z=Ah (a-b)) (a8:b<=a) (sl:l.length<=17592186044416):CF 330 [.one (.sl .u32 l),.one (.sl .u32 m)] (.one (.sl .u32 z)):=by
 have ab:m.length<=l.length:=by rw[hl,hm];exact FW a8
 refine AL Tryz.func330 fun E hE=>?_
 rintro az ⟨al,f11⟩;refine⟨fun _=>⟨AA,AA,by show _*4<=140737488355328;omega⟩,?_⟩;intro J (K:List UInt32) G;have ak:=G.1;have u:K=List.replicate J (0:el .u32):=G.2;have aj:K.length=J:=by rw[u,List.length_replicate]
 refine Af ?_;intro ag H;have an:=H.eq;have f14:=H.le;refine BX [] [0,1,5,6,13,14,15] [12] (fun vs bl k=>∃(o:List UInt32) (n C i':Nat) (c L i:Int),vs=[.one (.sl .u32 l),.one (.sl .u32 m),.one (.Aj .u32 12 0 0 n),.one (.int .u64 c),.one (.sl .u32 l),AH L,AH i]/\bl=[.arr 0 .u32 o]/\(o.length=l.length/\n=o.length/\EN L l.length/\AZ i i'/\i'<=l.length/\AZ c C/\C<=1)/\AI (o.take i')+AI (m.take i')=AI (l.take i')+2^(32*i')*C/\k=l.length-i') (l.length-0) ⟨K,J,0,0,0,ag,0,rfl,rfl,⟨by rw[u,List.length_replicate];omega,by rw[u,List.length_replicate],H,BM 0,AA,BM 0,AA⟩,by simp[AI],rfl⟩ ?_;rintro J0 Z vs bl ay ⟨o,n,C,i',c,L,i,rfl,rfl,⟨ho,hn,hL,hi,av,hc,au⟩,hinv,aw⟩;conv=>cbv
 have eL:=hL.eq;have ei:=hi.eq;have ec:=hc.eq;refine Bi (fun ad=>?_) fun ad=>?_
 ·have A:n<=(o).length:=AA
  obtain⟨af,D⟩:=xN ((C7 ((o).take n)).length);obtain⟨aa,I⟩:=GF A D;refine .inr (.inr (.inl ⟨[],.one (.Aj .u32 0 0 0 af),.arr 0 .u32 o,fun _=>⟨by first | decide | simp[DS,DJ],trivial⟩,fun _=>⟨Fb hE (OA A AA D),rfl,rfl⟩,?_⟩));try conv=>cbv
  have hk:i'=l.length:=AA
  have a1:AI (o.take n)=a-b:=by rw[hk,Ev ab,Ev (Nat.le_refl _),hm,hl,Bk,Bk,<-hl,<-ho,List.take_length] at hinv;have ax:=Dj o;generalize 2^(32*o.length)=P at *;rw[hn,List.take_length];rcases (by omega:C=0\/C=1) with e | e <;> rw[e] at hinv <;> omega
  exact AN ⟨⟨rfl,.inl ⟨_,rfl,AA,congrArg _ (by rw[List.drop_zero,I,a1,hz])⟩,trivial⟩,trivial⟩
 refine .inr ?_;refine BA i' fun a6 F=>?_
 refine Af ?_;intro aA S aB T;have ao:=S.eq;have f19:=S.lt;have T:=wrap_u64 T;intro aC U;conv=>cbv
 have U:=wrap_u64 U;refine Af ?_;rintro aD ⟨aq,f26⟩ ah V;refine .inr ?_;cases ah <;> conv=>cbv
 ·have ae:=EY V;intro M r;conv=>cbv
  have r:=wrap_u32 r;refine AM ?_;intro B a2;obtain⟨j,f⟩:=DD (n:=M) AA;have O:=f.eq;have Q:=f.lt;refine⟨j,fun _=>⟨by show _<List.length (α:=UInt32) o;(first | omega | (simp;omega)),DC f⟩,?_⟩;intro (g:List UInt32) (d:g=List.set (α:=UInt32) o B j);have R:g.length=o.length:=by rw[d,List.length_set]
  refine AM ?_;intro h t;have t:=Fs (p:=9223372036854775808) t rfl;refine AM ?_;intro N a7;refine⟨l.length-(i'+1),?_,?_⟩
  ·omega
  rw[Z];refine⟨g,n,h.toNat,i'+1,h,L,N,rfl,rfl,⟨by rw[d,List.length_set];exact ho,by rw[d,List.length_set];exact hn,hL,⟨AA⟩,AA,⟨AA⟩,AA⟩,?_,rfl⟩;have hs:=Ng (w:=j) (o:=o) (i:=i') (xi:=a6.toNat) (yi:=0) (He:=C) (Hf:=h.toNat) AA hinv AA;rw[d,(AA:B=i'),DV F,<-hs,Ev (l:=m) (i:=i'+1) AA,Ev (l:=m) (i:=i') AA,Nat.mul_zero]
  rfl
 have ae:=EZ V;refine BA i' fun ai a5=>?_
 refine Af ?_;intro aE W aF X;have ar:=W.eq;have f32:=W.lt;have X:=wrap_u64 X;intro aG Y;conv=>cbv
 have Y:=wrap_u64 Y;intro M r;conv=>cbv
 have r:=wrap_u32 r;refine AM ?_;intro B a2;obtain⟨j,f⟩:=DD (n:=M) AA;have O:=f.eq;have Q:=f.lt;refine⟨j,fun _=>⟨by show _<List.length (α:=UInt32) o;(first | omega | (simp;omega)),DC f⟩,?_⟩;intro (g:List UInt32) (d:g=List.set (α:=UInt32) o B j);have R:g.length=o.length:=by rw[d,List.length_set]
 refine AM ?_;intro h t;have t:=Fs (p:=9223372036854775808) t rfl;refine AM ?_;intro N a7;refine⟨l.length-(i'+1),?_,?_⟩
 ·omega
 rw[Z];refine⟨g,n,h.toNat,i'+1,h,L,N,rfl,rfl,⟨by rw[d,List.length_set];exact ho,by rw[d,List.length_set];exact hn,hL,⟨AA⟩,AA,⟨AA⟩,AA⟩,?_,rfl⟩;have hs:=Ng (w:=j) (o:=o) (i:=i') (xi:=a6.toNat) (yi:=ai.toNat) (He:=C) (Hf:=h.toNat) AA hinv AA;rw[d,(AA:B=i'),DV F,<-hs,DV a5]
def yD (hl:l=Ah a) (hm:m=Ah b) (hz:z=Ah (a*b)) (sl:l.length<=17592186044416) (sm:m.length<=17592186044416):CF 331 [.one (.sl .u32 l),.one (.sl .u32 m)] (.one (.sl .u32 z)):=by
 refine AL Tryz.func331 fun E hE=>?_
 rintro bm ⟨aS,f12⟩ aw D;cases aw <;> conv=>cbv
 ·have ag:=CI D;rintro bn ⟨aT,f16⟩;conv=>cbv
  refine BY (fun aq=>?_) fun aq=>?_
  ·have h0:b=0:=F8.1 (by rw[<-hm];exact List.length_eq_zero_iff.1 AA);exact AN ⟨⟨rfl,.inr (.inl ⟨_,congrArg _ (by rw[hz,h0];rfl)⟩),trivial⟩,trivial⟩
  rintro bo ⟨aU,f20⟩ bq ⟨aV,f22⟩ br b7;refine⟨fun _=>⟨AA,AA,by show _*4<=140737488355328;omega⟩,?_⟩;intro J (K:List UInt32) C;have aR:=C.1;have f:K=List.replicate J (0:el .u32):=C.2;have aK:K.length=J:=by rw[f,List.length_replicate]
  refine Af ?_;intro ax F;have aW:=F.eq;have f26:=F.le;refine BX [] [0,1,5,25,26,27] [24] (fun vs bl k=>∃(o:List UInt32) (n i':Nat) (L i:Int),vs=[.one (.sl .u32 l),.one (.sl .u32 m),.one (.Aj .u32 24 0 0 n),.one (.sl .u32 l),AH L,AH i]/\bl=[.arr 0 .u32 o]/\(o.length=l.length+m.length/\n=o.length/\EN L l.length/\AZ i i'/\i'<=l.length)/\AI (o.take (i'+m.length))=AI (l.take i')*AI m/\k=l.length-i') (l.length-0) ⟨K,J,0,ax,0,rfl,rfl,⟨by rw[f,List.length_replicate];omega,by rw[f,List.length_replicate],F,BM 0,AA⟩,by rw[f,List.take_replicate,KQ];simp[AI],rfl⟩ ?_;rintro J0 aj vs bl bj ⟨o,n,i',L,i,rfl,rfl,⟨ho,hn,hL,hi,bf⟩,hinv,bg⟩;conv=>cbv
  have eL:=hL.eq;have ei:=hi.eq;refine Bi (fun ar=>?_) fun ar=>?_
  ·have j:n<=(o).length:=AA
   obtain⟨av,B⟩:=xN ((C7 ((o).take n)).length);obtain⟨ao,I⟩:=GF j B;refine .inr (.inr (.inl ⟨[],.one (.Aj .u32 0 0 0 av),.arr 0 .u32 o,fun _=>⟨by first | decide | simp[DS,DJ],trivial⟩,fun _=>⟨Fb hE (OA j AA B),rfl,rfl⟩,?_⟩));try conv=>cbv
   have a6:AI (o.take n)=a*b:=by rw[(AA:i'=l.length),List.take_length,hl,hm,Bk,Bk,<-hl,<-hm,<-ho,List.take_length] at hinv;rw[hn,List.take_length,hinv]
   exact AN ⟨⟨rfl,.inl ⟨_,rfl,AA,congrArg _ (by rw[List.drop_zero,I,a6,hz])⟩,trivial⟩,trivial⟩
  refine .inr ?_;refine BA i' fun A aa=>?_
  refine Af ?_;intro ay R az G;have aX:=R.eq;have f31:=R.lt;have aY:=G.eq;have f33:=G.le;refine BX [] [0,1,5,6,7,8,25,26,27,32,33,34] [24] (fun vs bl k=>∃(o1:List UInt32) (n1 c' k':Nat) (c L1 i1:Int),vs=[.one (.sl .u32 l),.one (.sl .u32 m),.one (.Aj .u32 24 0 0 n1),AH i,.one (.int .u32 ay),.one (.int .u64 c),.one (.sl .u32 l),AH L,AH i,.one (.sl .u32 m),AH L1,AH i1]/\bl=[.arr 0 .u32 o1]/\(o1.length=l.length+m.length/\n1=o1.length/\EN L1 m.length/\AZ i1 k'/\k'<=m.length/\AZ c c'/\c'<4294967296)/\AI (o1.take (i'+m.length))+2^(32*(i'+k'))*c'=AI (l.take i')*AI m+A.toNat*2^(32*i')*AI (m.take k')/\k=m.length-k') (m.length-0) ⟨o,n,0,0,0,az,0,rfl,rfl,⟨ho,hn,G,BM 0,AA,BM 0,AA⟩,by rw[hinv];simp[AI],rfl⟩ ?_;rintro J1 ak vs bl bk ⟨o1,n1,c',k',c,L1,i1,rfl,rfl,⟨a8,a7,a5,al,aN,hc,bd⟩,d,bh⟩
  conv=>cbv
  have b5:=a5.eq;have b6:=al.eq;have ec:=hc.eq;refine Bi (fun au=>?_) fun au=>?_
  ·rintro bA ⟨b4,f67⟩ bB bb aE a2;have a2:=wrap_u32 a2;refine AM ?_;intro af aQ;obtain⟨O,t⟩:=DD (n:=aE) AA;have aH:=t.eq;have aJ:=t.lt;refine⟨O,fun _=>⟨by show _<List.length (α:=UInt32) o1;(first | omega | (simp;omega)),DC t⟩,?_⟩;intro (N:List UInt32) (h:N=List.set (α:=UInt32) o1 af O);have aM:N.length=o1.length:=by rw[h,List.length_set]
   refine AM ?_;intro aF bc;refine⟨l.length-(i'+1),?_,?_⟩
   ·omega
   rw[aj];refine⟨N,n1,i'+1,L,aF,rfl,rfl,⟨by rw[h,List.length_set];exact a8,by rw[h,List.length_set];exact a7,hL,⟨AA⟩,AA⟩,?_,rfl⟩;have hk:k'=m.length:=AA
   have hlen:i'+m.length<o1.length:=AA
   rw[h,(AA:i'+1+m.length=i'+m.length+1),(AA:af=i'+m.length),Gg hlen,Fj,List.length_take,Nat.min_eq_left AA,(AA:O.toNat=c')];rw[hk] at d;rw[d,List.take_length,DV aa]
   grind
  refine .inr ?_;refine BA k' fun P ab=>?_
  refine Af ?_;intro bs S aA T;have aZ:=S.eq;have f38:=S.lt;have T:=wrap_u64 T;intro aB U;conv=>cbv
  have U:=wrap_u64 U;have ep:aA*aB=((A.toNat*P.toNat:Nat):Int):=by rw[Int.natCast_mul];congr 1 <;> omega
  have bp:A.toNat*P.toNat<=4294967295*4294967295:=Nat.mul_le_mul AA AA;intro bt H;conv=>cbv
  have H:=wrap_u64 H;refine AM ?_;intro bu b8 ad aO;obtain⟨Q,u⟩:=CE (l:=o1) (i:=ad) AA;refine⟨Q,fun _=>u,?_⟩;refine Af ?_;intro bw V E7 W;have b0:=V.eq;have f50:=V.lt;have W:=wrap_u64 W;intro bx X;conv=>cbv
  have X:=wrap_u64 X;intro Eu Y;conv=>cbv
  have Y:=wrap_u64 Y;refine AM ?_;intro bz b9 aC Z;have Z:=wrap_u32 Z;refine AM ?_;intro ae aP;obtain⟨ai,r⟩:=DD (n:=aC) AA;have aG:=r.eq;have aI:=r.lt;refine⟨ai,fun _=>⟨by show _<List.length (α:=UInt32) o1;(first | omega | (simp;omega)),DC r⟩,?_⟩;intro (M:List UInt32) (g:M=List.set (α:=UInt32) o1 ae ai);have aL:M.length=o1.length:=by rw[g,List.length_set]
  refine AM ?_;intro ah a1;have a1:=Fs (p:=4294967296) a1 rfl;refine AM ?_;intro aD ba;refine⟨m.length-(k'+1),?_,?_⟩
  ·omega
  rw[ak];refine⟨M,n1,ah.toNat,k'+1,ah,L1,aD,rfl,rfl,⟨by rw[g,List.length_set];exact a8,by rw[g,List.length_set];exact a7,a5,⟨AA⟩,AA,⟨AA⟩,AA⟩,?_,rfl⟩;have hj:ae=i'+k':=AA
  have an:ad=i'+k':=AA
  rw[an] at u;rw[g,hj,DV ab,(AA:i'+(k'+1)=i'+k'+1)];refine Xx (q:=Q) (xi:=A.toNat) (yk:=P.toNat) (old:=Q.toNat) (c:=c') rfl AA u rfl d ?_ rfl;rw[ep] at H;omega
 have ag:=CL D;have h0:a=0:=F8.1 (by rw[<-hl];exact List.length_eq_zero_iff.1 (by have ag:=CL D;omega));exact AN ⟨⟨rfl,.inr (.inl ⟨_,congrArg _ (by rw[hz,h0,Nat.zero_mul];rfl)⟩),trivial⟩,trivial⟩
end
section
variable {b b1 b2 b3 c:Bool} {l l1 l2 l3 z:List UInt32} {x y:Int}
def yV {i:Nat} {x:UInt32} {n:Int} (g:l[i]? =some x) (h:i+1=l.length) (f:n=x.toNat):HH b l=(n !=0):=by
 have d:l.getLast? =some x:=by rw[List.getLast?_eq_getElem?,<-g];congr 1;omega
 unfold HH;rw[d,f]
 show (x !=0)=_
 rw[Bool.eq_iff_iff];simp only[bne_iff_ne,ne_eq];rw[<-UInt32.toNat_inj]
 show ¬x.toNat=0↔_
 omega
def lI (A:x=if b=true then -(AI l:Int) else AI l) (u:l.length<=17592186044416) (t:BQ x c z):CF 254 [.agg (Bu b l)] (.agg (Bu c z)):=by
 refine AL Tryz.func254 fun E g=>?_
 obtain⟨B,d⟩:=xU (Ah (AI l));refine AB g (GU rfl d) ?_;obtain⟨C,f⟩:=xU B;refine AB (r:= .one (.sl .u32 C)) g (Mt f (by rw[d,<-N8];exact Nat.le_trans (TO l) u)) ?_;obtain⟨h,j,EI⟩:=BO (x);refine AB (r:= .agg [.bool h,.sl .u32 j]) g (G1 (by rw[f,d,Bk];exact A) EI) ?_;exact Ed ((EI.uniq t rfl).1.symm) ((EI.uniq t rfl).2.symm)
def YV (t:BQ x b l) (B:l.length<=17592186044416) (u:BQ (-x) c z):CF 298 [.agg (Bu b l)] (.agg (Bu c z)):=by
 refine AL Tryz.func298 fun E j=>?_
 intro F A;obtain⟨C,d⟩:=xU (Ah (AI l));refine AB j (GU rfl d) ?_;have t8:C=l:=by rw[d];exact t.trim
 obtain⟨D,f⟩:=xU l;refine AB (r:= .one (.sl .u32 D)) j (Mt (f.trans t8.symm) (by rw[t8];exact B)) ?_;obtain⟨g,h,PJ⟩:=BO (-x);refine AB (r:= .agg [.bool g,.sl .u32 h]) j (G1 (by rw[f,A];exact iT t.Fq) PJ) ?_;exact Ed ((PJ.uniq u rfl).1.symm) ((PJ.uniq u rfl).2.symm)
def lZ {c:Int} (r:x=if b=true then -(AI l:Int) else AI l) (j:c=DI x):CF 279 [.agg (Bu b l)] (AH c):=by
 refine AL Tryz.func279 fun E t=>?_
 refine .inr ?_;obtain⟨C,d⟩:=xU (Ah (AI l));refine AB t (GU rfl d) ?_;rintro B ⟨f,f7⟩ A h;cases A <;> conv=>cbv
 ·have u:=CI h;cases b <;> conv=>cbv
  ·have g:AI l≠0:=fun e=>by rw[d,e] at f;exact (CI h) f
   exact AO (by rw[j,TA r g];rfl)
  have g:AI l≠0:=fun e=>by rw[d,e] at f;exact (CI h) f
  exact AO (by rw[j,TA r g];rfl)
 have u:=CL h;have g:AI l=0:=by rw[d] at f;exact F8.1 (List.length_eq_zero_iff.1 AA)
 exact AO (by rw[j,r,g];unfold DI;simp)
def OT {c:Int} (f:BQ x b l) (d:c=DI x):CF 279 [.agg (Bu b l)] (AH c):=lZ f.Fq d
def YX (f:BQ x b l) (d:l.length<=17592186044416) (g:BQ x c z):CF 254 [.agg (Bu b l)] (.agg (Bu c z)):=lI f.Fq d g
def YJ {c:Int} (B:BQ x b1 l1) (C:BQ y b2 l2) (H:c=CO x y):CF 314 [.agg (Bu b1 l1),.agg (Bu b2 l2)] (AH c):=by
 refine AL Tryz.func314 fun E u=>?_
 obtain⟨L,f⟩:=xI (DI x);refine AB u (OT B f) ?_;obtain⟨D,d⟩:=xI (DI y);refine AB u (OT C d) ?_;refine HY (fun t=>?_) fun t=>?_
 ·obtain⟨J,h⟩:=xI (CO L D);refine AB u (YK h) ?_;exact AO (by rw[H,h,f,d];exact ov (by rw[<-f,<-d];exact t))
 obtain⟨F,j⟩:=xU (Ah (AI l1));refine AB u (GU rfl j) ?_;have t20:F=l1:=by rw[j];exact B.trim
 obtain⟨G,r⟩:=xU (Ah (AI l2));refine AB u (GU rfl r) ?_;have t23:G=l2:=by rw[r];exact C.trim
 obtain⟨K,g⟩:=xI (CO x.natAbs y.natAbs);refine AB u (RC (t20.trans B.Bx) (t23.trans C.Bx) g) ?_;intro I A;refine⟨fun _=>by rw[A,f,g];exact wi _ _ _,?_⟩;refine g2 rfl ?_;exact AO (by rw[H,A,f,g];exact ow (by rw[<-f,<-d];exact t))
def UD (F:BQ x b1 l1) (G:BQ y b2 l2) (H:BQ (x+y) b3 l3) (s1:l1.length<=17592186044416) (s2:l2.length<=17592186044416):CF 311 [.agg (Bu b1 l1),.agg (Bu b2 l2)] (.agg (Bu b3 l3)):=by
 refine AL Tryz.func311 fun E t=>?_
 obtain⟨W,J⟩:=xU (Ah (AI l1));refine AB t (GU rfl J) ?_;have t9:W=l1:=by rw[J];exact F.trim
 obtain⟨R,A⟩:=xU (Ah (AI l2));refine AB t (GU rfl A) ?_;have t12:R=l2:=by rw[A];exact G.trim
 refine AM ?_;intro Q I;cases Q <;> conv=>cbv
 ·have u:=Ut I;obtain⟨V,f⟩:=xI (CO x.natAbs y.natAbs);refine AB t (RC (t9.trans F.Bx) (t12.trans G.Bx) f) ?_;refine Bi (fun d=>?_) fun d=>?_
  ·obtain⟨U,D⟩:=xU (Ah (x.natAbs-y.natAbs));refine AB (r:= .one (.sl .u32 U)) t (WK (t9.trans F.Bx) (t12.trans G.Bx) D (by rw[f] at d;have:=Kv d;omega) (by rw[t9];exact s1)) ?_;obtain⟨M,P,j⟩:=BO (x+y);refine AB (r:= .agg [.bool M,.sl .u32 P]) t (G1 (by rw[D,Bk,Int.add_comm];rw[f] at d;exact Qe G.neg F.neg (Ne.symm u) (by have:=Kv d;omega)) j) ?_;exact Ed ((j.uniq H rfl).1.symm) ((j.uniq H rfl).2.symm)
  obtain⟨T,C⟩:=xU (Ah (y.natAbs-x.natAbs));refine AB (r:= .one (.sl .u32 T)) t (WK (t12.trans G.Bx) (t9.trans F.Bx) C (by rw[f] at d;have:=Kw d;omega) (by rw[t12];exact s2)) ?_;obtain⟨L,O,h⟩:=BO (x+y);refine AB (r:= .agg [.bool L,.sl .u32 O]) t (G1 (by rw[C,Bk];rw[f] at d;exact Qe F.neg G.neg u (by have:=Kw d;omega)) h) ?_;exact Ed ((h.uniq H rfl).1.symm) ((h.uniq H rfl).2.symm)
 have u:=Uu I;obtain⟨S,B⟩:=xU (Ah (x.natAbs+y.natAbs));refine AB (r:= .one (.sl .u32 S)) t (fV (t9.trans F.Bx) (t12.trans G.Bx) B (by rw[t9];exact s1) (by rw[t12];exact s2)) ?_;obtain⟨K,N,g⟩:=BO (x+y);refine AB (r:= .agg [.bool K,.sl .u32 N]) t (G1 (by rw[B,Bk];exact add_same F.neg (u.trans G.neg)) g) ?_;exact Ed ((g.uniq H rfl).1.symm) ((g.uniq H rfl).2.symm)
def G5 (u:BQ x b1 l1) (A:BQ y b2 l2) (F:BQ (x*y) b3 l3) (s1:l1.length<=17592186044416) (s2:l2.length<=17592186044416):CF 312 [.agg (Bu b1 l1),.agg (Bu b2 l2)] (.agg (Bu b3 l3)):=by
 refine AL Tryz.func312 fun E t=>?_
 intro H G;obtain⟨B,d⟩:=xU (Ah (AI l1));refine AB t (GU rfl d) ?_;have t12:B=l1:=by rw[d];exact u.trim
 obtain⟨C,f⟩:=xU (Ah (AI l2));refine AB t (GU rfl f) ?_;have t15:C=l2:=by rw[f];exact A.trim
 obtain⟨D,g⟩:=xU (Ah (x.natAbs*y.natAbs));refine AB (r:= .one (.sl .u32 D)) t (yD (t12.trans u.Bx) (t15.trans A.Bx) g (by rw[t12];exact s1) (by rw[t15];exact s2)) ?_;obtain⟨h,j,F5⟩:=BO (x*y);refine AB (r:= .agg [.bool h,.sl .u32 j]) t (G1 (by rw[g,Bk,G];exact dy u.neg A.neg) F5) ?_;exact Ed ((F5.uniq F rfl).1.symm) ((F5.uniq F rfl).2.symm)
def Yk (A:c=HH b l):CF 325 [.agg (Bu b l)] (.one (.bool c)):=by
 refine AL Tryz.func325 fun E H=>?_
 rintro I ⟨G,f6⟩;refine Cw (fun F=>?_) fun F=>?_
 ·refine Fu (fun h=>?_) fun h=>?_
  ·exfalso;omega
  intro j u;refine BA ((j).toNat) fun D f=>?_
  refine Af ?_;intro B d C t;have r:=d.eq;have f23:=d.lt;exact AO (by rw[A,t];exact yV f AA r)
 refine IH (fun g=>?_) fun g=>?_
 ·exact AO (by rw[A,List.eq_nil_of_length_eq_zero (by omega:l.length=0),g];rfl)
 refine Fu (fun h=>?_) fun h=>?_
 ·exact AO (by rw[A,List.eq_nil_of_length_eq_zero (by omega:l.length=0),g];rfl)
 intro j u;refine BA ((j).toNat) fun D f=>?_
 refine Af ?_;intro B d C t;have r:=d.eq;have f23:=d.lt
 exfalso;omega
end
section
variable {a b n:Int} {e p q:Nat}
def Xj (h:n=IntKind.u64.wrap (a*2^min b.toNat IntKind.u64.bits)) (ha:a=p) (hb:b=e) (he:e<=64:=by omega):n=((p*2^e%18446744073709551616:Nat):Int):=by
 have d:min b.toNat IntKind.u64.bits=e:=by rw[hb];show min e 64=e;omega
 have f:=wrap_u64 h;rw[f,d,ha];simp
def Xi (h:n=IntKind.u32.wrap (a*2^min b.toNat IntKind.u32.bits)) (ha:a=p) (hb:b=e) (he:e<=32:=by omega):n=((p*2^e%4294967296:Nat):Int):=by
 have d:min b.toNat IntKind.u32.bits=e:=by rw[hb];show min e 32=e;omega
 have f:=wrap_u32 h;rw[f,d,ha];simp
def shr_var {m:Nat} (h:n=a.fdiv (2^min b.toNat m)) (ha:a=p) (hb:b=e) (he:e<=m):n=((p/2^e:Nat):Int):=by
 have d:min b.toNat m=e:=by rw[hb];simp;omega
 rw[h,d,ha,Int.fdiv_eq_ediv_of_nonneg _ (by have:=Int.pow_pos (n:=2) (m:=e) AD;omega)];simp
def Sh (h:n=IntKind.u32.wrap (BitVec.ofInt IntKind.u32.bits a ||| BitVec.ofInt IntKind.u32.bits b).toNat) (ha:a=p) (hb:b=q) (f:p<4294967296) (g:q<4294967296):n=((p ||| q:Nat):Int):=by
 have d:=wrap_u32 h;rw[d,ha,hb]
 have e1:(BitVec.ofInt IntKind.u32.bits (p:Int) ||| BitVec.ofInt IntKind.u32.bits (q:Int)).toNat=p ||| q:=by
  rw[BitVec.toNat_or,BitVec.toNat_ofInt,BitVec.toNat_ofInt]
  show ((p:Int)%4294967296).toNat ||| ((q:Int)%4294967296).toNat=_
  congr 1 <;> omega
 rw[e1];have:p ||| q<2^32:=Nat.or_lt_two_pow f g
 omega
def fL (h:n=IntKind.u64.wrap (BitVec.ofInt IntKind.u64.bits a ||| BitVec.ofInt IntKind.u64.bits b).toNat) (ha:a=p) (hb:b=q) (f:p<18446744073709551616) (g:q<18446744073709551616):n=((p ||| q:Nat):Int):=by
 have d:=wrap_u64 h;rw[d,ha,hb]
 have e1:(BitVec.ofInt IntKind.u64.bits (p:Int) ||| BitVec.ofInt IntKind.u64.bits (q:Int)).toNat=p ||| q:=by
  rw[BitVec.toNat_or,BitVec.toNat_ofInt,BitVec.toNat_ofInt]
  show ((p:Int)%18446744073709551616).toNat ||| ((q:Int)%18446744073709551616).toNat=_
  congr 1 <;> omega
 rw[e1];have:p ||| q<2^64:=Nat.or_lt_two_pow f g
 omega
def MV (h:n=IntKind.u64.wrap (BitVec.ofInt IntKind.u64.bits a ||| BitVec.ofInt IntKind.u64.bits b).toNat) (ha:a=((p*4294967296:Nat):Int)) (hb:b=q) (g:p<4294967296) (f:q<4294967296):n=((q+4294967296*p:Nat):Int):=by
 rw[fL h ha hb AA AA,Nat.or_comm,Nat.mul_comm];have:=No (a:=q) (b:=p) (d:=32) f;exact congrArg _ this
end
section
variable {l z:List UInt32} {n zn:Nat} {s:Int}
def iV (hs:AZ s n) (hn:n<=31) (Et:z.length=l.length) (EB:AI z=AI l/2^n) (aN:zn=z.length) (sl:l.length<=17592186044416):CF 339 [.one (.sl .u32 l),AH s] (.one (.own .u32 z zn)):=by
 have es:=hs.eq;refine AL Tryz.func339 fun E hE=>?_
 rintro n9 ⟨e9,f9⟩;refine⟨fun _=>⟨AA,AA,by show _*4<=140737488355328;omega⟩,?_⟩;intro M (N:List UInt32) H;have aC:=H.1;have u:N=List.replicate M (0:el .u32):=H.2;have aw:N.length=M:=by rw[u,List.length_replicate]
 refine Af ?_;intro aj I;have aE:=I.eq;have f12:=I.le;refine BX [] [0,1,5,11,12,13] [10] (fun vs bl k=>∃(o:List UInt32) (m i':Nat) (L i:Int),vs=[.one (.sl .u32 l),AH s,.one (.Aj .u32 10 0 0 m),.one (.sl .u32 l),AH L,AH i]/\bl=[.arr 0 .u32 o]/\(o.length=l.length/\m=o.length/\EN L l.length/\AZ i i'/\i'<=l.length)/\AI (o.take i')=AI l/2^n%2^(32*i')/\k=l.length-i') (l.length-0) ⟨N,M,0,aj,0,rfl,rfl,⟨by rw[u,List.length_replicate];omega,by rw[u,List.length_replicate],I,BM 0,AA⟩,by simp[AI,Nat.mod_one],rfl⟩ ?_;rintro J0 a1 vs bl aO ⟨o,m,i',L,i,rfl,rfl,⟨ho,hm,hL,hi,aL⟩,hinv,aM⟩;conv=>cbv
 have eL:=hL.eq;have ei:=hi.eq;refine Bi (fun ah=>?_) fun ah=>?_
 ·have hk:i'=l.length:=AA
  have a5:AI o=AI l/2^n:=by rw[hk,<-ho,List.take_length,ho] at hinv;rw[hinv];exact Nat.mod_eq_of_lt (Nat.lt_of_le_of_lt (Nat.div_le_self _ _) (Dj l))
  exact AN ⟨⟨rfl,.inr (.inl ⟨_,_,AD,rfl,rfl,hm,rfl,Dm (Pb AA (by rw[EB,a5])) AA⟩),trivial⟩,trivial⟩
 refine .inr ?_;refine BA i' fun t G=>?_
 refine AM ?_;intro aP T ab U;have aF:=T.eq;have f17:=T.lt;obtain⟨ao,g,U⟩:∃q:Nat,q=t.toNat/2^n/\ab=q:=⟨_,rfl,shr_var U AA AA (by show n<=32;omega)⟩
 have aD:ao<=t.toNat:=by rw[g];exact Nat.div_le_self _ _
 refine AM ?_;intro D az;obtain⟨F,A⟩:=DD (n:=ab) AA;have aq:=A.eq;have au:=A.lt;refine⟨F,fun _=>⟨by show _<List.length (α:=UInt32) o;(first | omega | (simp;omega)),DC A⟩,?_⟩;intro (h:List UInt32) (d:h=List.set (α:=UInt32) o D F);have ax:h.length=o.length:=by rw[d,List.length_set]
 refine AM ?_;rintro aQ aI aR ⟨aG,f27⟩ ak V;refine .inr ?_;cases ak <;> conv=>cbv
 ·have ai:=EY V;refine AM ?_;intro R af;refine⟨l.length-(i'+1),?_,?_⟩
  ·omega
  rw[a1]
  have ew:(F.toNat)=t.toNat/2^n+0*2^(32-n)%4294967296:=by
   rw[Nat.zero_mul,<-g];omega
  refine⟨h,m,i'+1,L,R,rfl,rfl,⟨by rw[d,List.length_set];exact ho,by rw[d,List.length_set];exact hm,hL,⟨AA⟩,AA⟩,?_,rfl⟩;rw[d,(AA:D=i'),Gg AA,Fj,List.length_take,Nat.min_eq_left AA,hinv,TP,ew];rw[Nat.div_div_eq_div_mul,Nat.mul_comm (2^n),<-Nat.div_div_eq_div_mul,RJ (by omega:i'<=l.length),E3 G,List.drop_eq_nil_of_le (by omega:l.length<=i'+1)];rw[<-iZ (y:=0) (r:=0) AA hn];simp[AI]
 have ai:=EZ V;refine AM ?_;intro a8 aA;obtain⟨ad,C⟩:=CE (l:=h) (i:=a8) AA;refine⟨ad,fun _=>C,?_⟩;refine AM ?_;intro aS W aT aJ;have ae:=W.eq;have f32:=W.lt;refine BA ((i'+1)) fun f a7=>?_
 refine Af ?_;intro aU X aV Y;have aH:=X.eq;have f37:=X.lt;have Y:=wrap_u64 Y;refine AM ?_;intro aW aK al J;obtain⟨aX,a6,J⟩:∃q:Nat,q=f.toNat*2^(32-n)%18446744073709551616/\al=q:=⟨_,rfl,Xj J AA AA⟩
 intro an K;conv=>cbv
 have K:=wrap_u32 K;intro P Z;conv=>cbv
 have bo:0<=P/\P<4294967296:=by rw[wrap_u32 Z];omega
 have ex:ad=F:=by rw[d,(AA:a8=D),List.getElem?_set_self AA] at C;exact (Option.some.inj C).symm
 refine AM ?_;intro aa aB;obtain⟨S,B⟩:=DD (n:=P) AA;have ar:=B.eq;have av:=B.lt;refine⟨S,fun _=>⟨by show _<List.length (α:=UInt32) h;(first | omega | (simp;omega)),DC B⟩,?_⟩;intro (O:List UInt32) (j:O=List.set (α:=UInt32) h aa S);have ay:O.length=h.length:=by rw[j,List.length_set]
 refine AM ?_;intro R af;refine⟨l.length-(i'+1),?_,?_⟩
 ·omega
 rw[a1]
 have ew:(S.toNat)=t.toNat/2^n+f.toNat*2^(32-n)%4294967296:=by
  have hq:2^n*2^(32-n)=4294967296:=by rw[<-Nat.pow_add,(AA:n+(32-n)=32)]
  have ag:t.toNat/2^n<2^(32-n):=Nat.div_lt_of_lt_mul (by rw[hq];omega);have a2:f.toNat*2^(32-n)%4294967296=2^(32-n)*(f.toNat%2^n):=by rw[<-hq,Nat.mul_comm f.toNat,Nat.mul_comm (2^n),Nat.mul_mod_mul_left]
  have h5:an=((f.toNat*2^(32-n)%4294967296:Nat):Int):=by rw[K,J,a6];generalize f.toNat*2^(32-n)=Q;omega
  have h6:=Sh Z (p:=t.toNat/2^n) (q:=f.toNat*2^(32-n)%4294967296) (by rw[ae,ex,<-g];omega) h5 (by rw[<-g];omega) AA;rw[a2,No ag,<-a2,<-g] at h6;rw[<-g]
  generalize f.toNat*2^(32-n)%4294967296=Q at*
  omega
 refine⟨O,m,i'+1,L,R,rfl,rfl,⟨by rw[j,d,List.length_set,List.length_set];exact ho,by rw[j,d,List.length_set,List.length_set];exact hm,hL,⟨AA⟩,AA⟩,?_,rfl⟩;rw[j,(AA:aa=i'),Gg (by rw[d,List.length_set];omega),d,(AA:D=i'),Jq (Nat.le_refl _),Fj,List.length_take,Nat.min_eq_left AA,hinv,TP,ew];rw[Nat.div_div_eq_div_mul,Nat.mul_comm (2^n),<-Nat.div_div_eq_div_mul,RJ (by omega:i'<=l.length),E3 G,E3 (show l[i'+1]? =some f from a7)];rw[iZ AA hn]
def iU (hs:AZ s n) (hn:n<=31) (Et:z.length=l.length+1) (EB:AI z=AI l*2^n) (aF:zn=z.length) (sl:l.length<=17592186044416):CF 336 [.one (.sl .u32 l),AH s] (.one (.own .u32 z zn)):=by
 have es:=hs.eq;refine AL Tryz.func336 fun E hE=>?_
 rintro aH ⟨ax,f10⟩ aI aA;refine⟨fun _=>⟨AA,AA,by show _*4<=140737488355328;omega⟩,?_⟩;intro H (I:List UInt32) D;have aw:=D.1;have f:I=List.replicate H (0:el .u32):=D.2;have an:I.length=H:=by rw[f,List.length_replicate]
 refine Af ?_;intro ae F;have ay:=F.eq;have f14:=F.le;refine BX [] [0,1,5,13,14,15] [12] (fun vs bl k=>∃(o:List UInt32) (c:UInt32) (m i':Nat) (L i:Int),vs=[.one (.sl .u32 l),AH s,.one (.Aj .u32 12 0 0 m),.one (.sl .u32 l),AH L,AH i]/\bl=[.arr 0 .u32 o]/\(o.length=l.length+1/\m=o.length/\EN L l.length/\AZ i i'/\i'<=l.length)/\(o[i']? =some c/\c.toNat<2^n)/\AI (o.take i')+2^(32*i')*c.toNat=AI (l.take i')*2^n/\k=l.length-i') (l.length-0) ⟨I,0,H,0,ae,0,rfl,rfl,⟨by rw[f,List.length_replicate];omega,by rw[f,List.length_replicate],F,BM 0,AA⟩,⟨by rw[f,List.getElem?_replicate,if_pos AA],Nat.two_pow_pos n⟩,by simp[AI],rfl⟩ ?_;rintro J0 a8 vs bl aG ⟨o,c,m,i',L,i,rfl,rfl,⟨ho,hm,hL,hi,aD⟩,⟨hc,aa⟩,hinv,aE⟩;conv=>cbv
 have eL:=hL.eq;have ei:=hi.eq;refine Bi (fun ad=>?_) fun ad=>?_
 ·have hk:i'=l.length:=AA
  have X:AI o=AI l*2^n:=by rw[hk,List.take_length,<-DV (l:=o) (by rw[<-hk];exact hc),List.take_of_length_le AA] at hinv;exact hinv
  exact AN ⟨⟨rfl,.inr (.inl ⟨_,_,AD,rfl,rfl,hm,rfl,Dm (Pb AA (by rw[EB,X])) AA⟩),trivial⟩,trivial⟩
 refine .inr ?_;refine BA i' fun d Z=>?_
 refine Af ?_;intro aJ O aK Q;have az:=O.eq;have f19:=O.lt;have Q:=wrap_u64 Q;refine AM ?_;intro af R;have a6:d.toNat*2^n<9223372036854775808:=Nat.mul_lt_mul_of_lt_of_le (by omega:d.toNat<4294967296) (Nat.pow_le_pow_right AD hn:2^n<=2^31) AD;obtain⟨M,g,R⟩:∃q:Nat,q=d.toNat*2^n/\af=q:=⟨_,rfl,(Xj (p:=d.toNat) (e:=n) R AA AA).trans (by congr 1;exact Nat.mod_eq_of_lt AA)⟩
 rw[<-g] at a6;refine AM ?_;intro a1 ar;obtain⟨a5,u⟩:=CE (l:=o) (i:=a1) AA;refine⟨a5,fun _=>u,?_⟩;refine Af ?_;intro aL S aM T;have a7:=S.eq;have f27:=S.lt;have T:=wrap_u32 T;intro K U;conv=>cbv
 have bo:0<=K/\K<4294967296:=by rw[wrap_u32 U];omega
 refine AM ?_;intro a2 au;obtain⟨B,r⟩:=DD (n:=K) AA;have ai:=r.eq;have ak:=r.lt;refine⟨B,fun _=>⟨by show _<List.length (α:=UInt32) o;(first | omega | (simp;omega)),DC r⟩,?_⟩;intro (A:List UInt32) (C:A=List.set (α:=UInt32) o a2 B);have ao:A.length=o.length:=by rw[C,List.length_set]
 refine AM ?_;intro aN aB aO V;have V:=Fs (p:=4294967296) V rfl;intro ag W;conv=>cbv
 have W:=wrap_u32 W;refine AM ?_;intro G av;obtain⟨h,t⟩:=DD (n:=ag) AA;have aj:=t.eq;have al:=t.lt;refine⟨h,fun _=>⟨by show _<List.length (α:=UInt32) A;(first | omega | (simp;omega)),DC t⟩,?_⟩;intro (J:List UInt32) (j:J=List.set (α:=UInt32) A G h);have aq:J.length=A.length:=by rw[j,List.length_set]
 refine AM ?_;intro ah aC;refine⟨l.length-(i'+1),?_,?_⟩
 ·omega
 rw[a8];have hq:2^n*2^(32-n)=4294967296:=by rw[<-Nat.pow_add,(AA:n+(32-n)=32)]
 have ec:a5=c:=by rw[(AA:a1=i'),hc] at u;exact (Option.some.inj u).symm
 have Y:M%4294967296=2^n*(d.toNat%2^(32-n)):=by rw[g,Nat.mul_comm d.toNat,<-hq,Nat.mul_mod_mul_left]
 have h6:=Sh U (p:=c.toNat) (q:=M%4294967296) (by rw[a7,ec]) AA (by have:=c.toNat_lt;omega) AA;rw[Y,No aa,<-Y] at h6
 have ab:h.toNat<2^n:=by
  have:M/4294967296<2^n:=Nat.div_lt_of_lt_mul (by rw[g];exact (Nat.mul_lt_mul_right (Nat.two_pow_pos n)).2 AA);omega
 refine⟨J,h,m,i'+1,L,ah,rfl,rfl,⟨AA,AA,hL,⟨AA⟩,AA⟩,⟨by rw[j,(AA:G=i'+1),List.getElem?_set_self AA],ab⟩,?_,rfl⟩;rw[j,(AA:G=i'+1),Jq (Nat.le_refl _),C,(AA:a2=i'),Gg AA,Fj,List.length_take,Nat.min_eq_left AA,DV Z,FX,Nat.add_mul,<-hinv];have e1:B.toNat+4294967296*h.toNat=c.toNat+d.toNat*2^n:=by rw[<-g];omega
 have e2:2^(32*i')*(B.toNat+4294967296*h.toNat)=2^(32*i')*(c.toNat+d.toNat*2^n):=by rw[e1]
 generalize 2^(32*i')=P at*
 generalize 2^n=N at*
 grind
def pU {z1 z2:List UInt32} {d:Int} {b:Nat} (hd:AZ d b) (hb:0<b) (az:b<4294967296) (Et:z1=Ah (AI l/b)) (EB:z2=Ah (AI l%b)) (sl:l.length<=17592186044416):CF 334 [.one (.sl .u32 l),.one (.int .u32 d)] (.BI [(false,[.sl .u32 z1]),(false,[.sl .u32 z2])]):=by
 have ed:=hd.eq;refine AL Tryz.func334 fun E hE=>?_
 rintro aE ⟨au,f10⟩;refine⟨fun _=>⟨AA,AA,by show _*4<=140737488355328;omega⟩,?_⟩;intro O (P:List UInt32) I;have ar:=I.1;have h:P=List.replicate O (0:el .u32):=I.2;have an:P.length=O:=by rw[h,List.length_replicate]
 refine AM ?_;rintro aF ⟨av,f13⟩ ab ax;refine BX [] [0,1,6,7,8] [11] (fun vs bl k=>∃(o:List UInt32) (m g C:Nat) (r j:Int),vs=[.one (.sl .u32 l),.one (.int .u32 d),.one (.Aj .u32 11 0 0 m),.one (.int .u64 r),AH j]/\bl=[.arr 0 .u32 o]/\(o.length=l.length/\m=o.length/\AZ (j+1) C/\C<=l.length/\AZ r g/\g<b)/\AI (l.drop C)=AI (o.drop C)*b+g/\k=C) l.length ⟨P,O,0,l.length,0,ab,rfl,rfl,⟨by rw[h,List.length_replicate];omega,by rw[h,List.length_replicate],⟨AA⟩,AA,BM 0,hb⟩,by rw[List.drop_length,List.drop_eq_nil_of_le (by rw[h,List.length_replicate];omega)];simp[AI],rfl⟩ ?_;rintro J0 a5 vs bl aD ⟨o,m,g,C,r,j,rfl,rfl,⟨ho,hm,hj,aA,hr,M⟩,hinv,aB⟩;conv=>cbv
 have ej:=hj.eq;have er:=hr.eq;refine Kf (fun a8=>?_) fun a8=>?_
 ·have t:m<=(o).length:=AA
  obtain⟨aa,G⟩:=xN ((C7 ((o).take m)).length);obtain⟨a6,N⟩:=GF t G;refine .inr (.inr (.inl ⟨[],.one (.Aj .u32 0 0 0 aa),.arr 0 .u32 o,fun _=>⟨by first | decide | simp[DS,DJ],trivial⟩,fun _=>⟨Fb hE (OA t AA G),rfl,rfl⟩,?_⟩));try conv=>cbv
  obtain⟨aJ,H⟩:=xU (Ah g);refine AB hE (NS hr AA H) ?_;have hk:C=0:=AA
  rw[hk,List.drop_zero,List.drop_zero] at hinv;have hq:AI o=AI l/b:=by rw[hinv,Nat.add_comm,Nat.add_mul_div_right _ _ hb,Nat.div_eq_of_lt M,Nat.zero_add]
  have a7:g=AI l%b:=by rw[hinv,Nat.add_comm,Nat.add_mul_mod_self_right,Nat.mod_eq_of_lt M]
  exact AN ⟨⟨rfl,.inl ⟨_,rfl,AA,congrArg _ (by rw[List.drop_zero,N,Et,hm,List.take_length,hq])⟩,trivial⟩,⟨rfl,congrArg _ (by rw[EB,H,a7]),trivial⟩,trivial⟩
 refine .inr ?_;refine AM ?_;intro ae J;have J:=Mk (p:=4294967296) J rfl;have J:ae=((g*4294967296:Nat):Int):=by clear hinv;omega
 obtain⟨i',rfl⟩:∃i',C=i'+1:=⟨C-1,AA⟩
 refine BA i' fun f X=>?_
 refine Af ?_;intro aG T aH U;have aw:=T.eq;have f24:=T.lt;have U:=wrap_u64 U;intro aI B;conv=>cbv
 have B:=MV (p:=g) (q:=f.toNat) B AA AA AA AA;intro af V;conv=>cbv
 have V:=wrap_u64 V;refine AM ?_;intro ag K;have K:=wrap_u64 K;intro ah L;conv=>cbv
 have L:=wrap_u32 L;have Y:af=(b:Int):=AA
 have Z:ag=(((f.toNat+4294967296*g)/b:Nat):Int):=by rw[K,B,Y,<-Int.natCast_ediv];have:=Nat.div_le_self (f.toNat+4294967296*g) b;generalize (f.toNat+4294967296*g)/b=Q at *;clear hinv;omega
 refine AM ?_;intro D aq;obtain⟨A,u⟩:=DD (n:=ah) AA;have ak:=u.eq;have al:=u.lt;refine⟨A,fun _=>⟨by show _<List.length (α:=UInt32) o;(first | omega | (simp;omega)),DC u⟩,?_⟩;intro (S:List UInt32) (F:S=List.set (α:=UInt32) o D A);have ao:S.length=o.length:=by rw[F,List.length_set]
 refine Af ?_;intro ai W;have W:=wrap_u64 W;refine AM ?_;intro aj a2 ad ay;refine⟨i',?_,?_⟩
 ·omega
 rw[a5];have a1:ai=(b:Int):=AA
 have h5:=Nat.div_add_mod (f.toNat+4294967296*g) b;refine⟨S,m,(f.toNat+4294967296*g)%b,i',aj,ad,rfl,rfl,⟨AA,AA,⟨AA⟩,AA,⟨by rw[a2,B,a1];simp⟩,Nat.mod_lt _ hb⟩,?_,rfl⟩
 have aC:(f.toNat+4294967296*g)/b<4294967296:=Nat.div_lt_of_lt_mul (by
  have:4294967296*(g+1)<=4294967296*b:=Nat.mul_le_mul_left _ M;rw[Nat.mul_comm b];omega)
 have ew:A.toNat=(f.toNat+4294967296*g)/b:=by
  rw[Z] at L
  generalize (f.toNat+4294967296*g)/b=Q at*
  clear hinv
  omega
 rw[E3 X,hinv,F,E3 (l:=o.set D A) (i:=i') (x:=A) (by rw[(AA:D=i'),List.getElem?_set_self AA]),(AA:D=i'),List.drop_set_of_lt AA,ew]
 generalize (f.toNat+4294967296*g)/b=Q at*
 generalize (f.toNat+4294967296*g)%b=R at*
 grind
end
section
variable {b:Bool} {c w:Int} {i len off:Nat} {l o v z:List UInt32} {x:UInt32}
def g8 (g:o.length=z.length) (d:o.take off=z.take off) (f:o.drop (off+len)=z.drop (off+len)) (hlen:off+len<=o.length) (h3:AI ((o.drop off).take len)=AI ((z.drop off).take len)):o=z:=by
 have e1:(o.drop off).take len=(z.drop off).take len:=Pb (by simp;omega) h3;rw[<-List.take_append_drop off o,<-List.take_append_drop off z,d,<-List.take_append_drop len (o.drop off),<-List.take_append_drop len (z.drop off),e1,List.drop_drop,List.drop_drop,f]
def Ry:(l.drop off)[i]? =l[off+i]? :=by rw[List.getElem?_drop]
def TM (h:l[i]? =some x):AI (l.take (i+1))=AI (l.take i)+2^(32*i)*x.toNat:=DV h
def RM (h:o.drop i=l.drop i) (d:o[i]? =some x):l[i]? =some x:=by
 have:(o.drop i)[0]? =(l.drop i)[0]? :=by rw[h]
 rw[List.getElem?_drop,List.getElem?_drop] at this;simpa [d] using this.symm
def x5 {x p h g f d j t r u A:Int} (S:0<=x/\x<4294967296) (R:0<=p/\p<=18446744065119617025) (Q:0<=c/\c<=4294967296) (F:h=(p+c)%18446744073709551616)
  (H:g=h%4294967296) (I:f=g%18446744073709551616) (G:d=x%18446744073709551616) (B:j=(d-f)%18446744073709551616) (C:t=j%4294967296) (hw:t=w)
  (J:r=h/4294967296) (D:u=j/9223372036854775808) (K:A=(r+u)%18446744073709551616):(0<=A/\A<=4294967296)/\w+p+c=x+4294967296*A:=by
 have M:h=p+c:=AA
 have N:0<=g/\g<4294967296:=AA
 have a3:f=g:=AA
 have a4:d=x:=AA
 have O:h=g+4294967296*r:=AA
 have P:0<=r/\r<=4294967295:=AA
 clear F H J I G
 subst a3 a4
 by_cases L:d<f
 ·have b1:j=d-f+18446744073709551616:=AA
  have b2:u=1:=AA
  have b3:t=d-f+4294967296:=AA
  clear B C D
  omega
 have b1:j=d-f:=AA
 have b2:u=0:=AA
 have b3:t=d-f:=AA
 clear B C D
 omega
def sN {x E7 Eu d f:Int} (A:0<=x/\x<4294967296) (u:0<=c/\c<=4294967296) (g:E7=x%18446744073709551616) (h:Eu=(E7-c)%18446744073709551616) (j:d=Eu%4294967296) (hw:d=w)
  (r:f=Eu/9223372036854775808) (hb:b=(f==1)):w+c=x+4294967296*(b.toNat:Int):=by
 have a4:E7=x:=AA
 subst a4
 clear g
 by_cases t:E7<c
 ·have b1:Eu=E7-c+18446744073709551616:=AA
  have b2:f=1:=AA
  have b3:d=E7-c+4294967296:=AA
  rw[hb,b2]
  show w+c=E7+4294967296*1
  omega
 have b1:Eu=E7-c:=AA
 have b2:f=0:=AA
 have b3:d=E7-c:=AA
 rw[hb,b2]
 show w+c=E7+4294967296*0
 omega
def yN {d S2 W T M:Nat} {c:Bool} (f:d+W=T+M*b.toNat) (g:S2+W=T+M*c.toNat) (l1:d<M) (l2:S2<M):d=S2/\b=c:=by
 cases b <;> cases c <;> simp at f g ⊢ <;> omega
def RO (h:o.drop i=l.drop i):o.drop (i+1)=l.drop (i+1):=by
 rw[<-List.drop_drop,<-List.drop_drop,h]
def x6 {d:Nat} {g:Int} (hlen:len=v.length+1) (aQ:off+len<=l.length) (hg:AZ g d) (hd:d<4294967296) (aZ:l.length<=140737488355328) (Et:z.length=l.length) (EB:z.take off=l.take off) (IY:z.drop (off+len)=l.drop (off+len)) (FU:AI ((z.drop off).take len)+AI v*d=AI ((l.drop off).take len)+2^(32*len)*b.toNat):Kg Tryz.prog 337 (.Aj .u32 0 0 off len) (.arr 0 .u32 l) [.one (.sl .u32 v),.one (.int .u64 g)] (.one (.bool b)) (.arr 0 .u32 z):=by
 have eg:=hg.eq;refine Og Tryz.func337 (by kernel_rfl) rfl fun E hE=>?_
 refine Af ?_;intro aC R;have aR:=R.eq;have f14:=R.le;refine BX [] [0,1,2,7,13,14,15] [0] (fun vs bl k=>∃(o:List UInt32) (H i':Nat) (c L i:Int),vs=[.one (.Aj .u32 0 0 off len),.one (.sl .u32 v),.one (.int .u64 g),.one (.int .u64 c),.one (.sl .u32 v),AH L,AH i]/\bl=[.arr 0 .u32 o]/\(o.length=l.length/\EN L v.length/\AZ i i'/\i'<=v.length/\AZ c H/\H<=4294967296)/\(o.take off=l.take off/\o.drop (off+i')=l.drop (off+i'))/\AI ((o.drop off).take i')+AI (v.take i')*d=AI ((l.drop off).take i')+2^(32*i')*H/\k=v.length-i') (v.length-0) ⟨l,0,0,0,aC,0,rfl,rfl,⟨rfl,R,BM 0,AA,BM 0,AA⟩,⟨rfl,rfl⟩,by simp[AI],rfl⟩ ?_;rintro J0 ay vs bl b0 ⟨o,H,i',c,L,i,rfl,rfl,⟨ho,hL,hi,aX,hc,aW⟩,⟨ht,I⟩,hinv,aY⟩;conv=>cbv
 have eL:=hL.eq;have ei:=hi.eq;have ec:=hc.eq;refine Bi (fun aB=>?_) fun aB=>?_
 ·rintro bd ⟨aT,f48⟩ aq aO;obtain⟨M,A⟩:=CE (l:=o) (i:=aq) AA;refine⟨M,fun _=>A,?_⟩;refine Af ?_;intro bf ai E7 a2;have aw:=ai.eq;have f50:=ai.lt;have a2:=wrap_u64 a2;intro Eu a5;conv=>cbv
  have a5:=wrap_u64 a5;refine Af ?_;rintro bg ⟨aU,f56⟩ aH a6;have a6:=wrap_u32 a6;refine AM ?_;intro ar aP;obtain⟨F,t⟩:=DD (n:=aH) AA;have ae:=t.eq;have aJ:=t.lt;refine⟨F,fun _=>⟨by show _<List.length (α:=UInt32) o;(first | omega | (simp;omega)),DC t⟩,?_⟩;intro (B:List UInt32) (h:B=List.set (α:=UInt32) o ar F);have aL:B.length=o.length:=by rw[h,List.length_set]
  refine AM ?_;intro bh a7;have a7:=Fs (p:=9223372036854775808) a7 rfl;intro ab ax;conv=>cbv
  have hk:i'=v.length:=AA
  subst hk;have O:ar=off+v.length:=AA
  have Q:aq=off+v.length:=AA
  rw[Q] at A;have hx:=RM I A;have az:=sN (E7:=E7) (Eu:=Eu) (x:=M.toNat) (c:=H) (w:=F.toNat) AA AA (by rw[<-aw];exact a2) (by rw[<-ec];exact a5) a6 ae a7 ax
  have aj:AI ((B.drop off).take len)+AI v*d=AI ((l.drop off).take len)+2^(32*len)*ab.toNat:=by
   rw[hlen,TM (l:=l.drop off) (by rw[Ry];exact hx),h,O,RN,Gg (by rw[List.length_drop];omega),Fj,List.length_take,List.length_drop,Nat.min_eq_left AA,FX];rw[List.take_length] at hinv;have N:F.toNat+H=M.toNat+4294967296*ab.toNat:=AA
   generalize 2^(32*v.length)=P at*
   have e:P*(F.toNat+H)=P*(M.toNat+4294967296*ab.toNat):=by rw[N]
   clear az N FU
   grind
  have ak:∀y:List UInt32,AI ((y.drop off).take len)<2^(32*len):=fun y=>Nat.lt_of_lt_of_le (Dj _) (Nat.pow_le_pow_right AD (by rw[List.length_take];omega))
  obtain⟨q1,q2⟩:=yN aj FU (ak _) (ak _);have aA:B=z:=g8 (off:=off) (len:=len) AA (by rw[EB,h,O,Jq,ht]) (by rw[IY,h,O,List.drop_set_of_lt AA,hlen,<-Nat.add_assoc];exact RO I) AA q1;refine⟨fun _=>⟨⟨⟨rfl,congrArg _ (q2.symm),trivial⟩,trivial⟩,rfl,AS⟩,fun _=>by show some (BD.arr 0 .u32 B)=_;rw[aA]⟩
 refine .inr ?_;refine BA i' fun G al=>?_
 refine Af ?_;intro b4 af aD ag;have aS:=af.eq;have f19:=af.lt;have ag:=wrap_u64 ag;intro aE j;conv=>cbv
 have j:=wrap_u64 j;obtain⟨au,ep,j⟩:∃p:Nat,p=G.toNat*d/\aE=p:=⟨_,rfl,by rw[j,(by omega:aD=(G.toNat:Int)),eg,<-Int.natCast_mul];have:=Nat.mul_le_mul (by omega:G.toNat<=4294967295) (by omega:d<=4294967295);clear hinv;omega⟩
 have bp:au<=4294967295*4294967295:=by rw[ep];exact Nat.mul_le_mul AA AA
 intro b5 S;conv=>cbv
 have S:=wrap_u64 S;refine AM ?_;intro an aM;obtain⟨K,u⟩:=CE (l:=o) (i:=an) AA;refine⟨K,fun _=>u,?_⟩;refine Af ?_;intro b6 ah b7 T;have av:=ah.eq;have f29:=ah.lt;have T:=wrap_u64 T;intro b8 U;conv=>cbv
 have U:=wrap_u32 U;intro b9 V;conv=>cbv
 have V:=wrap_u64 V;intro ba W;conv=>cbv
 have W:=wrap_u64 W;intro aF X;conv=>cbv
 have X:=wrap_u32 X;refine AM ?_;intro ao aN;obtain⟨C,r⟩:=DD (n:=aF) AA;have ad:=r.eq;have aI:=r.lt;refine⟨C,fun _=>⟨by show _<List.length (α:=UInt32) o;(first | omega | (simp;omega)),DC r⟩,?_⟩;intro (aa:List UInt32) (f:aa=List.set (α:=UInt32) o ao C);have aK:aa.length=o.length:=by rw[f,List.length_set]
 refine AM ?_;intro bb Y;have Y:=Fs (p:=4294967296) Y rfl;refine AM ?_;intro bc Z;have Z:=Fs (p:=9223372036854775808) Z rfl;intro J a1;conv=>cbv
 have a1:=wrap_u64 a1;refine AM ?_;intro aG aV;refine⟨v.length-(i'+1),?_,?_⟩
 ·omega
 rw[ay];have O:ao=off+i':=AA
 have Q:an=off+i':=AA
 rw[Q] at u;have hx:=RM I u;have a8:=x5 (x:=K.toNat) (p:=au) (c:=H) (w:=C.toNat) AA AA AA (by rw[S,j,ec]) U V (by rw[T,av]) W X ad Y Z a1;have hw:C.toNat+G.toNat*d+H=K.toNat+4294967296*J.toNat:=by rw[<-ep];obtain⟨h1,h2⟩:=a8;clear hinv;omega
 refine⟨aa,J.toNat,i'+1,J,L,aG,rfl,rfl,⟨AA,hL,⟨AA⟩,AA,⟨by have:=a8.1;omega⟩,by have:=a8.1;omega⟩,⟨by rw[f,O,Jq];exact ht,by rw[f,O,List.drop_set_of_lt AA];exact RO I⟩,?_,rfl⟩;have hs:=x3 (o:=o.drop off) (w:=C) (i:=i') (xi:=K.toNat) (yi:=G.toNat) (D:=d) (He:=H) (Hf:=J.toNat) (by rw[List.length_drop];omega) hinv hw;rw[f,O,RN,DV al,TM (l:=l.drop off) (by rw[Ry];exact hx)];exact hs
def vB (hlen:len=v.length+1) (aw:off+len<=l.length) (aF:l.length<=140737488355328) (Et:z.length=l.length) (EB:z.take off=l.take off) (IY:z.drop (off+len)=l.drop (off+len)) (FU:AI ((z.drop off).take len)=(AI ((l.drop off).take len)+AI v)%2^(32*len)):Kg Tryz.prog 338 (.Aj .u32 0 0 off len) (.arr 0 .u32 l) [.one (.sl .u32 v)] (.BI []) (.arr 0 .u32 z):=by
 refine Og Tryz.func338 (by kernel_rfl) rfl fun E hE=>?_
 refine Af ?_;intro n8 h8;have e8:=h8.eq;have f8:=h8.le;refine BX [] [0,1,4,7,8,9] [0] (fun vs bl k=>∃(o:List UInt32) (j i':Nat) (c L i:Int),vs=[.one (.Aj .u32 0 0 off len),.one (.sl .u32 v),.one (.int .u64 c),.one (.sl .u32 v),AH L,AH i]/\bl=[.arr 0 .u32 o]/\(o.length=l.length/\EN L v.length/\AZ i i'/\i'<=v.length/\AZ c j/\j<=1)/\(o.take off=l.take off/\o.drop (off+i')=l.drop (off+i'))/\AI ((o.drop off).take i')+2^(32*i')*j=AI ((l.drop off).take i')+AI (v.take i')/\k=v.length-i') (v.length-0) ⟨l,0,0,0,n8,0,rfl,rfl,⟨rfl,h8,BM 0,AA,BM 0,AA⟩,⟨rfl,rfl⟩,by simp[AI],rfl⟩ ?_;rintro J0 ab vs bl aG ⟨o,j,i',c,L,i,rfl,rfl,⟨ho,hL,hi,aD,hc,aC⟩,⟨ht,B⟩,hinv,aE⟩;conv=>cbv
 have eL:=hL.eq;have ei:=hi.eq;have ec:=hc.eq;refine Bi (fun ae=>?_) fun ae=>?_
 ·rintro aN ⟨az,f34⟩ a7 au;obtain⟨h,A⟩:=CE (l:=o) (i:=a7) AA;refine⟨h,fun _=>A,?_⟩;refine Af ?_;intro aO V aP W;have aA:=V.eq;have f36:=V.lt;have W:=wrap_u32 W;intro ah X;conv=>cbv
  have X:=wrap_u32 X;refine AM ?_;intro a8 av;obtain⟨F,t⟩:=DD (n:=ah) AA;have aj:=t.eq;have al:=t.lt;refine⟨F,fun _=>⟨by show _<List.length (α:=UInt32) o;(first | omega | (simp;omega)),DC t⟩,?_⟩;intro (d:List UInt32) (g:d=List.set (α:=UInt32) o a8 F);have ao:d.length=o.length:=by rw[g,List.length_set]
  conv=>cbv
  have hk:i'=v.length:=AA
  subst hk;have G:a8=off+v.length:=AA
  have H:a7=off+v.length:=AA
  rw[H] at A;have hx:=RM B A;have a1:F.toNat=(h.toNat+j)%4294967296:=by clear hinv FU;omega
  have Z:∀y:List UInt32,AI ((y.drop off).take len)<2^(32*len):=fun y=>Nat.lt_of_lt_of_le (Dj _) (Nat.pow_le_pow_right AD (by rw[List.length_take];omega))
  have Y:AI ((d.drop off).take len)=(AI ((l.drop off).take len)+AI v)%2^(32*len):=by
   have h0:=Z d
   have e1:AI ((d.drop off).take len)+2^(32*len)*((h.toNat+j)/4294967296)=AI ((l.drop off).take len)+AI v:=by
    rw[hlen,TM (l:=l.drop off) (by rw[Ry];exact hx),g,G,RN,Gg (by rw[List.length_drop];omega),Fj,List.length_take,List.length_drop,Nat.min_eq_left AA,FX];rw[List.take_length] at hinv;have hd:=Nat.div_add_mod (h.toNat+j) 4294967296;rw[<-a1] at hd
    generalize (h.toNat+j)/4294967296=Q at*
    generalize 2^(32*v.length)=P at*
    have e:P*(4294967296*Q+F.toNat)=P*(h.toNat+j):=by rw[hd]
    clear a1 FU h0 Z
    grind
   rw[<-e1,Nat.add_mul_mod_self_left,Nat.mod_eq_of_lt h0]
  have ad:d=z:=g8 (off:=off) (len:=len) AA (by rw[EB,g,G,Jq,ht]) (by rw[IY,g,G,List.drop_set_of_lt AA,hlen,<-Nat.add_assoc];exact RO B) AA (by rw[Y,FU]);refine⟨fun _=>⟨trivial,rfl,AS⟩,fun _=>by show some (BD.arr 0 .u32 d)=_;rw[ad]⟩
 refine .inr ?_;refine BA i' fun aa a2=>?_
 refine AM ?_;intro aH K a5 aq;have ax:=K.eq;have f13:=K.lt;obtain⟨J,u⟩:=CE (l:=o) (i:=a5) AA;refine⟨J,fun _=>u,?_⟩;refine Af ?_;intro aI M aJ N;have ay:=M.eq;have f18:=M.lt;have N:=wrap_u64 N;intro aK O;conv=>cbv
 have O:=wrap_u64 O;intro aL R;conv=>cbv
 have R:=wrap_u64 R;intro aM S;conv=>cbv
 have S:=wrap_u64 S;intro af T;conv=>cbv
 have T:=wrap_u32 T;refine AM ?_;intro a6 ar;obtain⟨D,r⟩:=DD (n:=af) AA;have ai:=r.eq;have ak:=r.lt;refine⟨D,fun _=>⟨by show _<List.length (α:=UInt32) o;(first | omega | (simp;omega)),DC r⟩,?_⟩;intro (I:List UInt32) (f:I=List.set (α:=UInt32) o a6 D);have an:I.length=o.length:=by rw[f,List.length_set]
 refine AM ?_;intro C U;have U:=Fs (p:=4294967296) U rfl;refine AM ?_;intro ag aB;refine⟨v.length-(i'+1),?_,?_⟩
 ·omega
 rw[ab];have G:a6=off+i':=AA
 have H:a5=off+i':=AA
 rw[H] at u;have hx:=RM B u;have hw:D.toNat+4294967296*C.toNat=J.toNat+aa.toNat+j:=by clear hinv;omega
 refine⟨I,C.toNat,i'+1,C,L,ag,rfl,rfl,⟨AA,hL,⟨AA⟩,AA,⟨AA⟩,AA⟩,⟨by rw[f,G,Jq];exact ht,by rw[f,G,List.drop_set_of_lt AA];exact RO B⟩,?_,rfl⟩;have hs:=nk (o:=o.drop off) (w:=D) (i:=i') (xi:=J.toNat) (yi:=aa.toNat) (Qz:=j) (Q0:=C.toNat) (by rw[List.length_drop];omega) hinv hw;rw[f,G,RN,DV a2,TM (l:=l.drop off) (by rw[Ry];exact hx)];exact hs
end
section
open Go.RowKit Go.Shelf Go.Proofs
attribute [local go_sem] Oper.semAt_some
def upto {α:Type} (f:Nat->α) (k:Nat):List α:=(List.range k).map f
def jo {α:Type} (f:Nat->α) (k:Nat):upto f (k+1)=upto f k++[f k]:=by simp[upto,List.range_succ]
def yR {α:Type} (f:Nat->α) (k:Nat):(upto f k).length=k:=by simp[upto]
def bk (l:List UInt32) (k:Nat):Int×UInt32:=((l.length:Int)-1-k,l[l.length-1-k]?.getD 0)
structure Iq (n b:Nat) (A B:World):Prop where
 below:Below n A B
 block:B.heap[b]? =A.heap[b]?
def Iq.refl (n b:Nat) (A:World):Iq n b A A:=⟨Below.refl _ _,rfl⟩
def Iq.trans {n b:Nat} {A B C:World} (h:Iq n b A B) (k:Iq n b B C):Iq n b A C:=⟨h.1.trans k.1,k.2.trans h.2⟩
def oA (F:Fence) (n:Nat) (h7:F.fn 348) (hro:F.round=none) (hn:1<=n) (l Bs n₀ b off cap:Nat) (zs:List UInt32) (hreach:zs.length<=140737488351232) (hb:b<n₀) (J Jx:List (Int×UInt32)->World->Prop)
  (hY:∀pre x W,J pre W->pre.length<zs.length->YieldAt F (n-1) Tryz.prog l #[.int .i64 x.1,.int .u32 (x.2.toNat:Int)] W fun e W'=>
   (e= .returned (.bool true)/\J (pre++[x]) W'/\Iq n₀ Bs W W')\/(e= .returned (.bool false)/\Jx (pre++[x]) W'))
  (W:World) (hBs:W.cell? ⟨Bs,0,none⟩=some (.slice (some ⟨b,off,none⟩) zs.length cap)) (hc:∀j,j<zs.length->W.cell? ⟨b,off+j,none⟩=some (.int .u32 ((zs[j]?.getD 0).toNat:Int))) (h0:J [] W):
  CallsIn F n Tryz.prog 348 #[.func (.yield l) #[] #[],.pointer (some ⟨Bs,0,none⟩)] W fun e W'=>(∃v,e= .returned v)/\
   ((∃ys,ys=upto (bk zs) zs.length/\J ys W')\/(∃pre,(∃k,k<=zs.length/\pre=upto (bk zs) k)/\Jx pre W')):=by
 refine callsIn_of_wp Tryz.func348 rfl h7 ?_ hro;simp only[Tryz.ntmps348,List.size_toArray,List.length_cons,List.length_nil,Nat.reduceAdd,Nat.reduceSub,Array.replicate_succ,Array.replicate_zero,List.push_toArray,List.append_toArray,List.nil_append,List.cons_append]
 gi_wp2
 gi_loopw [3] (fun i wr=>∃k:Nat,k<=zs.length/\i= .int .i64 ((zs.length:Int)-1-k)/\J (upto (bk zs) k) wr/\Iq n₀ Bs W wr)
  (fun i _=>(intOf i+1).toNat)
 case atStart=>exact⟨0,Nat.zero_le _,AS,h0,Iq.refl _ _ _⟩
 case round=>
  obtain⟨k,hk,rfl,hJs,hnx⟩:=hrel
  by_cases hlt:k<zs.length
  ·obtain⟨j,ej,hjl,ex⟩:∃j:Nat,(zs.length:Int)-1-k=(j:Int)/\j<zs.length/\bk zs k=((j:Int),zs[j]?.getD 0):=
    ⟨zs.length-1-k,AA,AA,by unfold bk;rw[(AA:((zs.length:Int)-1-k)=((zs.length-1-k:Nat):Int))]⟩
   have hcx:wr.cell? ⟨b,off+j,none⟩=some (.int .u32 ((zs[j]?.getD 0).toNat:Int)):=(hnx.below.cell (p:=⟨b,off+j,none⟩) hb).trans (hc j hjl);have hbx:wr.cell? ⟨Bs,0,none⟩=some (.slice (some ⟨b,off,none⟩) zs.length cap):=(World.cell?_of_block (a:=⟨Bs,0,none⟩) hnx.block).trans hBs;obtain⟨fn,tmps,assign,body,hy,hR⟩:=hY _ (bk zs k) wr hJs (by rw[yR];exact hlt);rw[ex] at hy hR;have eg:zs[j]?.getD 0=zs[j]:=by simp[hjl]
   rw[eg] at hy hcx
   dsimp only at hy
   rw[ej];have hmz:((j:Int):Int)-1+1=j:=AA
   gi_wp2
   refine hR.mono ?_;rintro e W3 (⟨rfl,hJ3,hk3⟩ |⟨rfl,hJx3⟩)
   ·gi_wp2
    go_roundw
    case rel=>exact⟨k+1,AA,by congr 1;omega,by rw[jo,ex];exact hJ3,hnx.trans hk3⟩
    case measure=>simp[intOf]
   gi_wp2
   refine bodyPost_ret (results_none rfl _ _ _) rfl ?_;exact⟨⟨_,rfl⟩,.inr ⟨_,⟨k+1,AA,by rw[jo,ex]⟩,hJx3⟩⟩
  obtain rfl:k=zs.length:=AA
  rw[(AA:(zs.length:Int)-1-zs.length= -1)]
  gi_wp2
  go_end0
  exact⟨⟨_,rfl⟩,.inl ⟨_,rfl,hJs⟩⟩
def oB (F:Fence) (n:Nat) (h7:F.fn 348) (hro:F.round=none) (l Bs:Nat) (base:Option Addr) (cap:Nat) (J:List (Int×UInt32)->World->Prop) (W:World) (hBs:W.cell? ⟨Bs,0,none⟩=some (.slice base 0 cap)) (h0:J [] W):
  CallsIn F n Tryz.prog 348 #[.func (.yield l) #[] #[],.pointer (some ⟨Bs,0,none⟩)] W fun e W'=>(∃v,e= .returned v)/\J [] W':=by
 refine callsIn_of_wp Tryz.func348 rfl h7 ?_ hro;simp only[Tryz.ntmps348,List.size_toArray,List.length_cons,List.length_nil,Nat.reduceAdd,Nat.reduceSub,Array.replicate_succ,Array.replicate_zero,List.push_toArray,List.append_toArray,List.nil_append,List.cons_append]
 gi_wp2
 gi_loopw [3] (fun i wr=>i= .int .i64 (-1)/\J [] wr) (fun _ _=>0)
 case atStart=>exact⟨AS,h0⟩
 case round=>
  obtain⟨rfl,hJs⟩:=hrel
  gi_wp2
  go_end0
  exact⟨⟨_,rfl⟩,hJs⟩
def oD (F:Fence) (n:Nat) (h5:F.fn 340) (hro:F.round=none) (a:Option Addr) (len cap:Nat) (w:World):
  CallsIn F n Tryz.prog 340 #[.slice a len cap] w fun e w'=>e= .returned (.func (.func 348) #[] #[.pointer (some ⟨w.heap.size,0,none⟩)])/\w'=w.alloc (.cells #[.slice a len cap] 64):=by
 refine callsIn_of_wp Tryz.func340 rfl h5 ?_ hro;simp only[Tryz.ntmps340,List.size_toArray,List.length_cons,List.length_nil,Nat.reduceAdd,Nat.reduceSub,Array.replicate_succ,Array.replicate_zero,List.push_toArray,List.append_toArray,List.nil_append,List.cons_append]
 gi_wp2
 go_ret
 exact⟨rfl,rfl⟩
def Words (n:Nat) (W:World) (sv:Value) (zs:List UInt32):Prop:=
 (∃base cap,sv= .slice base 0 cap/\zs=[])\/∃b off cap,sv= .slice (some ⟨b,off,none⟩) zs.length cap/\b<n/\∀j,j<zs.length->W.cell? ⟨b,off+j,none⟩=some (.int .u32 ((zs[j]?.getD 0).toNat:Int))
def Words.below {n:Nat} {A B:World} (h:Below n A B) {d:Value} {f:List UInt32}:Words n A d f->Words n B d f
 | .inl e=> .inl e
 | .inr ⟨b,off,cap,e,hb,g⟩=> .inr ⟨b,off,cap,e,hb,fun j r=>(h.cell (p:=⟨b,off+j,none⟩) hb).trans (g j r)⟩
def oE (F:Fence) (n:Nat) (C:F.fn 348) (t:F.round=none) (N:1<=n) (h d:Nat) (G:Value) (g:List UInt32) (f:g.length<=140737488351232) (w:World) (u:h<w.heap.size) (j:d<=w.heap.size)
  (L:w.cell? ⟨h,0,none⟩=some G) (I:Words d w G g):
  SeqStopsK F n Tryz.prog 348 #[.pointer (some ⟨h,0,none⟩)] (fun x:Int×UInt32=> #[Value.int .i64 x.1,Value.int .u32 (x.2.toNat:Int)]) (Iq d h) (fun ys=>ys=upto (bk g) g.length)
   (fun pre=>∃k,k<=g.length/\pre=upto (bk g) k) g.length w:=fun l J H W D _ _ K B=>by
 have r:=(D.cell (p:=⟨h,0,none⟩) u).trans L;rcases I.below (D.mono j) with⟨base,cap,rfl,rfl⟩ |⟨b,off,cap,rfl,hb,A⟩
 ·exact (oB F n C t l h base cap J W r B).mono fun e O ⟨he,M⟩=>⟨he,.inl ⟨_,rfl,M⟩⟩
 exact oA F n C t N l h d b off cap g f hb J H K W r A B
def M3 (s:Int) (x:Int×UInt32):Int:=bits BinOp.or IntKind.u64 (IntKind.u64.wrap (s*4294967296)) (IntKind.u64.wrap (x.2.toNat:Int))
def NR (pre:List (Int×UInt32)):Int:=pre.foldl M3 0
def qZ (pre:List (Int×UInt32)) (x:Int×UInt32):NR (pre++[x])=M3 (NR pre) x:=by simp[NR]
def yF (F:Fence) (n:Nat) (h3:F.fn 322) (h5:F.fn 340) (h7:F.fn 348) (hro:F.round=none) (hn:3<=n) (a:Option Addr) (len cap:Nat) (zs:List UInt32) (hreach:zs.length<=140737488351232) (w:World) (hI:Words w.heap.size w (.slice a len cap) zs):
  CallsIn F n Tryz.prog 322 #[.slice a len cap] w fun e W'=>e= .returned (.int .u64 (NR (upto (bk zs) zs.length)))/\Below w.heap.size w W':=by
 have h1:1<=n:=AA
 refine callsIn_of_wp_marks Tryz.func322 rfl h3 ?_ hro;simp only[Tryz.ntmps322,List.size_toArray,List.length_cons,List.length_nil,Nat.reduceAdd,Nat.reduceSub,Array.replicate_succ,Array.replicate_zero,List.push_toArray,List.append_toArray,List.nil_append,List.cons_append]
 gi_wp2_with (gi_at_call 340;refine (oD F (n-1) h5 hro _ _ _ _).mono ?_;rintro e w' ⟨rfl,rfl⟩)
 have bS:=Boxed.new w 179 (.int .u64 0);have bN:=Boxed.new (w.alloc (.cells #[.int .u64 0] 179)) 64 (.slice a len cap);rw[World.size_alloc] at bN;have hB0:Below w.heap.size w ((w.alloc (.cells #[.int .u64 0] 179)).alloc (.cells #[.slice a len cap] 64)):=((Below.refl _ w).alloc (Nat.le_refl _) _).alloc AS _
 refine wpIn_rangeFunc_ownG hro h1 (gf:=348) (lb:= #[.pointer (some ⟨w.heap.size+1,0,none⟩)]) rfl h7 (enters_of Tryz.func348 (by kernel_rfl) rfl)
  (oE F (n-1) h7 hro AA (w.heap.size+1) w.heap.size _ zs hreach _ AS (by simp;omega) bN.cell (hI.below hB0)) Iq.trans (fun W l o o' hl h hc hw=>⟨belowK_b (by simp;omega) W l o o' hl h hc hw,World.putObj_heap_other (by simp at hl;omega)⟩) (Below.refl _ _) (fun _=>rfl)
  (fun pre W=>(W.cell? ⟨w.heap.size,0,none⟩=some (.int .u64 (NR pre))/\W.frozen? ⟨w.heap.size,0,none⟩=false)/\Below w.heap.size w W)
  (fun _ _ _=>False)
  (OwnFrom.and (Own.from (fun s A B row hs hg hr=>⟨cell_kept hs.1 hg hr,(frozen_kept hs.1 hg hr).trans hs.2⟩) _) (ownFrom_below (Nat.le_refl _) (by simp;omega)))
  (fun _ _ _ _ _ hs _ _=>hs)
  ⟨⟨(bS.alloc _).cell,(bS.alloc _).frozen⟩,hB0⟩
  (fun x=>{tmps:= #[.slice a len cap,undef,.int .u64 0,.pointer (some ⟨w.heap.size,0,none⟩),undef,.int .u32 (x.2.toNat:Int),.slice a len cap,.func (.func 348) #[] #[.pointer (some ⟨w.heap.size+1,0,none⟩)],.int .i64 x.1,.int .u32 (x.2.toNat:Int),undef,undef,undef,undef,undef,undef],defers:=[]}) ?assign ?body ?done ?stop
 case assign=>
  intro l x W K hK
  gi_wp2
  exact hK
 case body=>
  rintro l pre x W ⟨⟨hc,hf⟩,hB⟩ _
  gi_wp2
  exact⟨(KeepsOthers.setCell _ _ _).from _,⟨(Below.refl w.heap.size W).setCell (p:=⟨w.heap.size,0,none⟩) (Nat.le_refl _) _,Below.heap_setCell W _ _ _ AS⟩,⟨by rw[qZ];exact World.cell?_setCell_same' _ _ _ (by rw[hc];rfl),by rw[World.frozen?_setCell];exact hf⟩,hB.setCell (p:=⟨w.heap.size,0,none⟩) (Nat.le_refl _) _⟩
 case done=>
  rintro D ys W hD rfl ⟨⟨hc,_⟩,hB⟩ hK
  gi_wp2
  refine⟨AS,.inl ⟨_,_,rfl,run_takeDeferred hK,?_⟩⟩;exact⟨_,results_tmp rfl _ _ _,rfl,hB.trans (belowK_b (w:=w) (Nat.le_refl _) W D _ _ (by simp at hD;omega) hK rfl rfl)⟩
 case stop=>
  rintro D c pre W _ _ h _;exact h.elim
def Uc {s:Int} {p:Nat} (x:Int×UInt32) (f:s=p) (d:p<4294967296):M3 s x=((x.2.toNat+4294967296*p:Nat):Int):=by
 have g:=x.2.toNat_lt;refine MV (a:=IntKind.u64.wrap (s*4294967296)) (b:=IntKind.u64.wrap (x.2.toNat:Int)) rfl ?_ ?_ d g
 ·rw[wrap_u64 (rfl:IntKind.u64.wrap (s*4294967296)=_),f];omega
 rw[wrap_u64 (rfl:IntKind.u64.wrap (x.2.toNat:Int)=_)];omega
def qa:∀(l:List UInt32),l.length<=2->NR (upto (bk l) l.length)=(AI l:Int)
 | [],_=>rfl
 | [x],_=>by
  show M3 0 (bk [x] 0)=_
  refine (Uc (p:=0) _ rfl AD).trans ?_;simp[bk,AI]
 | [x,y],_=>by
  show M3 (M3 0 (bk [x,y] 0)) (bk [x,y] 1)=_
  have d:=Uc (p:=0) (bk [x,y] 0) rfl AD;have f:=y.toNat_lt;rw[Uc (p:=y.toNat) _ (by simpa [bk] using d) f];simp[bk,AI]
 | _::_::_::_,h=>by simp at h
def TN {l:List UInt32} {n:Int} {k:Nat} (A:AI l=k) (B:l.length<=2) (C:AZ n k):CF 322 [.one (.sl .u32 l)] (.one (.int .u64 n)):=by
 obtain⟨c,u⟩:∃c,Tryz.f322.body=some c:=⟨_,rfl⟩
 refine .mk ⟨Tryz.f322,c,by kernel_rfl,by rfl,u⟩ ⟨rfl,rfl⟩ fun w I vs t f=>?_
 match vs,f with
 | [v],.cons g _=>
  rcases g with d |⟨base,cap,G,H,J,h3⟩
  ·cases d
  obtain rfl:v= .slice base l.length cap:=by simpa using G
  have hw:Words w.heap.size w (.slice base l.length cap) l:=by
   rcases h3 with rfl |⟨b,off,rfl,hb,h⟩
   ·exact .inl ⟨base,cap,rfl,rfl⟩
   refine .inr ⟨b,off,cap,rfl,t _ b hb,fun j d=>?_⟩;obtain⟨us,hu,D⟩:=h j l[j] (by simp[d]);have hu:us=[.int .u32 (l[j].toNat:Int)]:=hu;have:=D 0 (.int .u32 (l[j].toNat:Int)) (by rw[hu];rfl);have e:l[j]?.getD 0=l[j]:=by simp[d]
   rw[e];have F:T.u32.size=1:=rfl;rw[F] at this;have this:w.cell? ⟨b,off+j*1+0,none⟩=_:=this;simpa using this
  refine (callsIn_wide.1 (yF Fence.wide 3 trivial trivial trivial rfl (Nat.le_refl _) base l.length cap l AA w hw)).mono ?_;rintro e w' ⟨rfl,r⟩;refine⟨_,none,rfl,r,.inr ?_⟩
  show _=_
  rw[qa l B,A,C.eq]
end
section
open Go.RowKit Go.Shelf Go.Proofs
def bitLen_spec {x:Nat} (h:x<4294967296) (g:x≠0):2^(Lib.bitLen x-1)<=x/\x<2^Lib.bitLen x/\1<=Lib.bitLen x/\Lib.bitLen x<=32:=by
 have key:∀(f x:Nat),x<2^f->x≠0->2^(Lib.bitLenAux f x-1)<=x/\x<2^Lib.bitLenAux f x/\1<=Lib.bitLenAux f x/\Lib.bitLenAux f x<=f:=by
  intro f
  induction f with
  | zero=>intro x h g;simp at h;exact absurd h g
  | succ f r=>
   intro x h g;simp only[Lib.bitLenAux,if_neg g]
   by_cases j:x/2=0
   ·rw[j];have:Lib.bitLenAux f 0=0:=by cases f <;> simp[Lib.bitLenAux]
    rw[this];simp;omega
   obtain⟨a,b,c,d⟩:=r (x/2) (by rw[Nat.pow_succ] at h;omega) j
   generalize Lib.bitLenAux f (x/2)=m at*
   obtain⟨m,rfl⟩:∃k,m=k+1:=⟨m-1,AA⟩
   rw[(AA:1+(m+1)=m+1+1),Nat.pow_succ];simp only[Nat.add_sub_cancel] at a ⊢;rw[Nat.pow_succ] at b ⊢;omega
 have e:Lib.bitLen x=Lib.bitLenAux 32 x:=Lib.bitLenAux_fuel 32 x (by simpa using h) 64 AD;rw[e];exact key 32 x (by simpa using h) g
def YS {x c:Int} {k:Nat} (f:AZ x k) (u:k<4294967296) (h:AZ c (Lib.bitLen k)):CF 347 [.one (.int .u32 x)] (AH c):=by
 obtain⟨b,hb⟩:∃b,Tryz.f347.body=some b:=⟨_,rfl⟩
 refine .mk ⟨Tryz.f347,b,by kernel_rfl,by rfl,hb⟩ ⟨rfl,rfl⟩ fun w I vs t d=>?_
 match vs,d with
 | [v],.cons g _=>
  rcases g with j | r
  ·cases j
  obtain rfl:v= .int .u32 x:=r;have:=f.eq;refine (sS x w).mono ?_;rintro e w' ⟨rfl,rfl⟩;refine⟨_,none,rfl,Below.refl _ _,.inr ?_⟩
  show _=_
  rw[h.eq,f.eq];rfl
end
section
def lB {x c:Int} {k:Nat} (t:AZ x k) (f:k≠0) (g:k<4294967296) (r:AZ c (32-Lib.bitLen k)):CF 335 [.one (.int .u32 x)] (AH c):=by
 refine AL Tryz.func335 fun E j=>?_
 obtain⟨B,d⟩:∃n:Int,AZ n (Lib.bitLen k):=⟨_,⟨rfl⟩⟩
 have h:=d.eq;refine AB j (YS t g d) ?_;have hb:=bitLen_spec g f;refine AM ?_;intro A u;exact AO (by rw[r.eq];omega)
def RK {l m z1 z2:List UInt32} {a b:Nat} (hl:l=Ah a) (hm:m=Ah b) (hb:0<b) (Et:z1=Ah (a/b)) (EB:z2=Ah (a%b)) (sl:l.length<=17592186044000):CF 321 [.one (.sl .u32 l),.one (.sl .u32 m)] (.BI [(false,[.sl .u32 z1]),(false,[.sl .u32 z2])]):=by
 refine IN Tryz.func321 fun E hE=>?_
 conv=>cbv
 refine .inr ?_;obtain⟨fV,aC⟩:=xI (CO a b);refine Be hE (RC hl hm aC) ?_;refine Af ?_;intro ep c8;cases ep <;> conv=>cbv
 ·have aP:=EY c8;have cP:b<=a:=by rw[aC] at aP;have:=Kv aP;omega
  have e6:m.length<=l.length:=by rw[hl,hm];exact FW cP
  refine Af ?_;intro fG c9 et ca;have du:=c9.eq;have f28:=c9.le;cases et <;> conv=>cbv
  ·have dg:=PQ ca;refine Af ?_;intro fH cc ew cd;have dv:=cc.eq;have f44:=cc.le;cases ew <;> conv=>cbv
   ·have dh:=CI cd;have e5:m.length≠0:=fun e=>by have e2:=List.eq_nil_of_length_eq_zero e;rw[hm] at e2;have:=F8.1 e2;omega
    obtain⟨n,hn⟩:∃n,n=m.length:=⟨_,rfl⟩
    have cU:2<=n:=AA
    refine Af ?_;intro fI cf fJ dG;have dw:=cf.eq;have f55:=cf.le;refine D6 ?_;refine BA ((n-1)) fun aT bY=>?_
    try conv=>cbv
    have O:=bY;rw[hm] at O;have ah:aT.toNat≠0:=Oo O (by rw[<-hm];omega);intro fK cg;have dx:=cg.eq;have f58:=cg.lt;conv=>cbv
    obtain⟨s,hs⟩:∃s,s=32-Lib.bitLen aT.toNat:=⟨_,rfl⟩
    have b0:=bitLen_spec (x:=aT.toNat) AA ah;obtain⟨bp,a1⟩:∃n:Int,AZ n s:=⟨_,⟨rfl⟩⟩
    have eP:=a1.eq;refine Be hE (lB (k:=aT.toNat) (AZ.of AA) ah AA (hs ▸ a1)) ?_;conv=>cbv
    obtain⟨an,aj,ak⟩:=MY (N:=AI l*2^s) (k:=l.length+1) (TC l);obtain⟨I,bn⟩:∃k,k=an.length:=⟨_,rfl⟩
    refine Be hE (iU a1 AA aj ak bn AA) ?_;conv=>cbv
    obtain⟨fZ,bm,al⟩:=MY (N:=AI m*2^s) (k:=m.length+1) (TC m);refine Be hE (EW (iU a1 AA bm al rfl AA)) ?_;conv=>cbv
    obtain⟨f,aE⟩:=xU (Ah (AI m*2^s));refine Be hE (GU al aE) ?_;conv=>cbv
    obtain⟨cZ,cv⟩:=iW (b:=b) (n:=n) (s:=s) (x:=aT) (k:=Lib.bitLen aT.toNat) (by rw[<-hm,hn]) AA O b0.1 b0.2.1 b0.2.2.1 b0.2.2.2 hs;have hV:AI f=b*2^s:=by rw[aE,Bk,hm,Bk]
    have db:f.length=n:=by rw[aE,hm,Bk];exact cZ
    rw[<-hV] at cv;intro aQ ch;have dy:=ch.eq;have f68:=ch.le;conv=>cbv
    intro fL cG;have dz:=cG.eq;refine Af ?_;intro fM dH;refine D6 ?_;refine⟨fun _=>⟨AA,AA,by show _*4<=140737488355328;omega⟩,?_⟩;intro g (cw:List UInt32) c5;have cT:=c5.1;have az:cw=List.replicate g (0:el .u32):=c5.2;have cE:cw.length=g:=by rw[az,List.length_replicate]
    refine Af ?_;intro fN dI;refine D6 ?_;refine BA ((n-1)) fun eG bZ=>?_
    refine Af ?_;intro fO cj aR ck;have dA:=cj.eq;have f78:=cj.lt;have ck:=wrap_u64 ck;intro fP dJ;conv=>cbv
    refine D6 ?_;refine BA ((n-2)) fun eI c0=>?_
    refine Af ?_;intro fQ cl aS cm;have dB:=cl.eq;have f84:=cl.lt;have cm:=wrap_u64 cm;refine g2 rfl ?_;obtain⟨A,hA⟩:∃A,A=AI an:=⟨_,rfl⟩
    obtain⟨high,ad⟩:∃k,k=eG.toNat:=⟨_,rfl⟩
    obtain⟨next,bb⟩:∃k,k=eI.toNat:=⟨_,rfl⟩
    obtain⟨K,ay⟩:=yI db bZ c0 cU;rw[<-ad,<-bb] at K;rw[<-ad] at ay;have aN:=N7 (l:=f) (n:=n-2);have cN:=N7 (l:=f) (n:=n-1);have ab:=qv cv ay cN;have aD:AI (an.drop g)<AI f:=jU ak AA aj AA AA cv;have da:=Dj f;rw[db] at da;have h:0<AI f:=AA
    have ct:g+n=l.length+1:=AA
    have ej:I=l.length+1/\an.length=l.length+1:=AA
    have cX:s<=31:=AA
    have c7:aR=(high:Int):=AA
    have cC:aS=(next:Int):=AA
    have dY:high<4294967296:=AA
    have e7:next<4294967296:=AA
    have cV:aQ=(n:Int):=AA
    have h:0<AI f:=AA
    have ct:g+n=l.length+1:=AA
    have ej:I=l.length+1/\an.length=l.length+1:=AA
    have cX:s<=31:=AA
    have c7:aR=(high:Int):=AA
    have cC:aS=(next:Int):=AA
    have dY:high<4294967296:=AA
    have e7:next<4294967296:=AA
    have cV:aQ=(n:Int):=AA
    have dO:AI f<=2^(32*(n+1)):=by rw[FX];omega
    intro fR cH;have dC:=cH.eq;refine Af ?_;intro ez dK;refine D6 ?_;refine BX [] [8,9,10,11,12,13,14,15] [62,73] (fun vs bl k=>∃(u q:List UInt32) (j':Nat) (i:Int),vs=[AH bp,.one (.Aj .u32 62 0 0 I),.one (.sl .u32 f),AH aQ,.one (.Aj .u32 73 0 0 g),.one (.int .u64 aR),.one (.int .u64 aS),AH i]/\bl=[.arr 0 .u32 u,.arr 0 .u32 q]/\(u.length=an.length/\q.length=g/\AZ (i+1) j'/\j'<=g)/\AI (u.drop j')<AI f/\A=AI u+2^(32*j')*AI (q.drop j')*AI f/\k=j') g ⟨an,cw,g,ez,rfl,rfl,⟨rfl,by rw[az,List.length_replicate],⟨AA⟩,AA⟩,aD,by rw[List.drop_eq_nil_of_le (by rw[az,List.length_replicate];omega)];simp[AI,hA],rfl⟩ ?_;rintro J0 dN vs bl fE ⟨u,q,j',i,rfl,rfl,⟨fD,ea,hi,fA⟩,b8,hinv,fB⟩;conv=>cbv
    clear aC c8 aP cP e6 c9 du f28 ca dg cc dv f44 cd dh e5 hn cf dw f55 dG bY O ah cg dx f58 hs b0 aj bn bm al aE cZ ch dy f68 cG dz dH cT az cE dI bZ cj dA f78 ck dJ c0 cl dB f84 cm ad bb aD cH dC dK
    have ei:=hi.eq;refine M8 ?_ ?_ <;> intro di <;> conv=>cbv
    ·have aA:g<=(q).length:=AA
     obtain⟨dj,b9⟩:=xN ((C7 ((q).take g)).length);obtain⟨ds,bC⟩:=GF aA b9;refine .inr (.inr (.inl ⟨[],.one (.Aj .u32 0 0 0 dj),.arr 0 .u32 q,fun _=>⟨by first | decide | simp[DS,DJ],trivial⟩,fun _=>⟨Fb hE (OA aA AA b9),rfl,rfl⟩,?_⟩));try conv=>cbv
     refine GL ?_;intro eN dT;conv=>cbv
     rintro dq ao ⟨bf,dU⟩;conv=>cbv
     have bf:dq=0:=AA
     subst bf;have aB:ao<=u.length:=AA
     obtain⟨B,ba⟩:=xN ((C7 (u.take ao)).length);obtain⟨dt,bD⟩:=GF aB ba;refine .inr (.inr (.inl ⟨[],.one (.Aj .u32 0 0 0 B),.arr 0 .u32 u,fun _=>⟨by first | decide | simp[DS,DJ],trivial⟩,fun _=>⟨Fb hE (OA aB AA ba),rfl,rfl⟩,?_⟩));try conv=>cbv
     have e4:(u.take B).length<=u.length:=by rw[List.length_take];omega
     obtain⟨dr,bE,aK⟩:=MY (N:=AI (u.take B)/2^s) (k:=(u.take B).length) (Nat.lt_of_le_of_lt (Nat.div_le_self _ _) (Dj _));refine .inr (.inl ⟨[.one (.sl .u32 ((u).take B)),AH bp],.one (.sl .u32 dr),fun _=>⟨⟨_,rfl,by simp <;> omega,AS⟩,rfl,trivial⟩,fun _=>Im hE (EW (Qc rfl (iV a1 AA bE aK rfl AA))),?_⟩);try conv=>cbv
     obtain⟨fv,bj⟩:=xU (Ah (AI (u.take B)/2^s));refine Be hE (GU aK bj) ?_;conv=>cbv
     refine g2 rfl ?_;have cS:j'=0:=AA
     rw[cS,List.drop_zero] at b8;have cr:A=AI u+AI q*AI f:=by rw[cS] at hinv;simpa using hinv
     have dL:A=a*2^s:=by rw[hA,ak,hl,Bk]
     obtain⟨e1,e2⟩:=ax dL hV cr b8 hb;have dV:ao=n:=AA
     have ee:AI (u.take ao)=AI u:=by rw[dV];have h1:=Ho u n AA;rw[Vu AA AA] at h1;omega
     have ec:AI (u.take B)=AI u:=by rw[bD,Bk,ee]
     exact AN ⟨⟨rfl,.inl ⟨_,rfl,AA,congrArg _ (by rw[List.drop_zero,bC,<-ea,List.take_length,e1,Et])⟩,trivial⟩,⟨rfl,congrArg _ (by rw[EB,bj,ec,e2]),trivial⟩,trivial⟩
    refine .inr ?_;obtain⟨i',rfl⟩:∃i',j'=i'+1:=⟨j'-1,AA⟩
    intro fS cI;conv=>cbv
    refine D6 ?_;refine GL ?_;intro eo bQ;conv=>cbv
    obtain⟨bu,aF⟩:=CE (l:=u) (i:=eo) AA;refine⟨bu,fun _=>aF,?_⟩;refine Af ?_;intro fT bx fU bz;have cD:=bx.eq;have f98:=bx.lt;have bz:=wrap_u64 bz;intro fb aq;conv=>cbv
    refine GL ?_;have aq:=Mk (p:=4294967296) aq rfl;intro fc bJ;conv=>cbv
    refine D6 ?_;intro fe bK;conv=>cbv
    refine D6 ?_;refine GL ?_;intro de b6;conv=>cbv
    obtain⟨a7,L⟩:=CE (l:=u) (i:=de) AA;refine⟨a7,fun _=>L,?_⟩;refine Af ?_;intro ff ar fg au;have bG:=ar.eq;have f107:=ar.lt;have au:=wrap_u64 au;intro fh G;conv=>cbv
    have G:=MV (p:=bu.toNat) (q:=a7.toNat) G AA AA AA AA;refine g2 rfl ?_;obtain⟨bt,ai⟩:=CE (l:=u) (i:=i'+n-2) AA;obtain⟨u3,cu⟩:∃k,k=bt.toNat:=⟨_,rfl⟩
    obtain⟨R,aM⟩:∃R,R=AI (u.drop i'):=⟨_,rfl⟩
    obtain⟨top,a2⟩:∃t,t=a7.toNat+4294967296*bu.toNat:=⟨_,rfl⟩
    have h0:AI (u.drop (i'+n+1))=0:=by have:=Vu (l:=u.drop (i'+1)) (n:=n) AA (by rw[List.length_drop];omega);rwa [List.drop_drop,(AA:i'+1+n=i'+n+1)] at this
    have bk:u[i'+n]? =some bu:=by rw[<-aF];congr 1;omega
    have af:u[i'+n-1]? =some a7:=by rw[<-L];congr 1;omega
    have C:=yJ bk af ai cU h0;have aw:=yK bk af AA h0;rw[<-a2,<-cu,<-aM] at C;rw[<-a2,<-aM] at aw;have cp:=N7 (l:=u.drop i') (n:=n-2);have cL:=N7 (l:=u.drop i') (n:=n-1);have cq:R<4294967296*AI f:=by obtain⟨xi,eg⟩:=CE (l:=u) (i:=i') AA;rw[aM,E3 eg];have:=xi.toNat_lt;omega
    have cM:R<2^(32*(n+1)):=by rw[FX];omega
    have bh:=yH aw ay cN cq;have cR:=qo aw cL ay ab AA bh;have cW:R/AI f<4294967296:=(Nat.div_lt_iff_lt_mul h).2 cq;have cQ:top<18446744073709551616:=by have:=a7.toNat_lt;have:=bu.toNat_lt;omega
    intro c3 X;conv=>cbv
    refine GL ?_;have X:=wrap_u64 X;have aU:c3=((top/high:Nat):Int):=by rw[X,G,c7,<-a2,<-Int.natCast_ediv];have:=Nat.div_le_self top high;generalize top/high=Q at *;omega
    intro c4 aX;conv=>cbv
    refine GL ?_;have aV:c4=((top%high:Nat):Int):=by rw[aX,G,c7,<-a2];exact (Int.natCast_emod _ _).symm
    refine g2 rfl ?_;obtain⟨K3,bB⟩:=xK fun vs bl=>∃(Dd:Nat) (d:Int),vs=[AH bp,.one (.Aj .u32 62 0 0 I),.one (.sl .u32 f),AH aQ,.one (.Aj .u32 73 0 0 g),.one (.int .u64 aR),.one (.int .u64 aS),AH i,.one (.int .u64 d)]/\bl=[.arr 0 .u32 u,.arr 0 .u32 q]/\AZ d Dd/\OR R (AI f) Dd
    refine .inl ⟨[8,9,10,11,12,13,14,15,17],[62,73],K3,?_,?_⟩
    ·intro vs bl hj;rw[bB] at hj;obtain⟨Dd,d,rfl,rfl,cn,j⟩:=hj;conv=>cbv
     clear di cI bQ aF bx cD f98 bz aq bJ bK b6 L ar bG f107 au G ai cu a2 bk af C aw cp cL cq bh cR cQ X aU aX aV
     have fx:=cn.eq;intro fp eS;conv=>cbv
     refine D6 ?_;intro fq eT;conv=>cbv
     refine D6 ?_;refine⟨fun _=>⟨AA,AA,AA⟩,?_⟩;rintro eJ eL ⟨dP,dR⟩;conv=>cbv
     rintro dn cA ⟨bc,b4⟩;conv=>cbv
     have dM:=j.word;have cY:AI ((u.drop i').take (n+1))=R:=by rw[aM];exact iC AA h0
     obtain⟨bF,cz,aa,J⟩:=x4 (M:=2^(32*(n+1))) j h cM dO;have bc:i'=dn:=AA
     have b4:n+1=cA:=AA
     subst bc b4;obtain⟨bw,P,T,U,W⟩:=g9 (u:=u) (off:=i') (len:=n+1) J AA;refine .inr (.inr (.inl ⟨[.one (.sl .u32 f),.one (.int .u64 d)],.one (.bool bF),.arr 0 .u32 bw,fun _=>⟨by first | decide | simp[DS,DJ],t2⟩,fun _=>⟨Fb hE (x6 (d:=Dd) AA AA cn j.word AA P T U (by rw[W,cY];exact aa)),rfl,rfl⟩,?_⟩));try conv=>cbv
     obtain⟨cy,a8⟩:=xK fun vs bl=>∃(z:List UInt32) (q0:Nat) (d:Int),vs=[AH bp,.one (.Aj .u32 62 0 0 I),.one (.sl .u32 f),AH aQ,.one (.Aj .u32 73 0 0 g),.one (.int .u64 aR),.one (.int .u64 aS),AH i,.one (.int .u64 d)]/\bl=[.arr 0 .u32 z,.arr 0 .u32 q]/\AZ d q0/\(q0=R/AI f/\q0<4294967296)/\(z.length=u.length/\z.take i'=u.take i'/\z.drop (i'+(n+1))=u.drop (i'+(n+1)))/\AI ((z.drop i').take (n+1))=R%AI f
     refine .inl ⟨[8,9,10,11,12,13,14,15,17],[62,73],cy,?_,?_⟩
     ·intro vs bl hj;rw[a8] at hj;obtain⟨z,q0,d,rfl,rfl,e8,⟨e9,eY⟩,⟨dd,ek,eh⟩,en⟩:=hj;conv=>cbv
      have fy:=e8.eq;intro dm bP;conv=>cbv
      have bP:=wrap_u32 bP;refine GL ?_;intro c2 e0;conv=>cbv
      obtain⟨H,ae⟩:=DD (n:=dm) AA;have dD:=ae.eq;have dE:=ae.lt;refine⟨H,fun _=>⟨by show _<List.length (α:=UInt32) q;(first | omega | (simp;omega)),DC ae⟩,?_⟩;intro (bo:List UInt32) (b7:bo=List.set (α:=UInt32) q c2 H);have dF:bo.length=q.length:=by rw[b7,List.length_set]
      refine Af ?_;intro eA fz;refine D6 ?_;refine⟨i',?_,?_⟩
      ·omega
      rw[dN];have ef:H.toNat=R/AI f:=by rw[<-e9];omega
      obtain⟨g1,g2⟩:=gM (u:=u) (z:=z) (A:=A) (V:=AI f) (i:=i') (n:=n) (Q:=AI (q.drop (i'+1))) (q:=H.toNat) dd ek eh AA h0 (by rw[ef,aM]) (by rw[en,aM]) hinv;refine⟨z,bo,i',eA,rfl,rfl,⟨AA,AA,⟨AA⟩,AA⟩,?_,?_,rfl⟩
      ·rw[g1];exact Nat.mod_lt _ h
      rw[b7,(AA:c2=i'),E3 (l:=q.set i' H) (i:=i') (x:=H) (by rw[List.getElem?_set_self AA]),List.drop_set_of_lt AA];exact g2
     cases bF <;> conv=>cbv
     ·rw[a8];obtain⟨e1,e2⟩:=(eH j h aa J).1 rfl;exact⟨bw,Dd,_,rfl,rfl,cn,⟨e1,dM⟩,⟨P,T,U⟩,by rw[W,e2]⟩
     intro fr bO;conv=>cbv
     have bO:=wrap_u64 bO;intro fs eU;conv=>cbv
     refine D6 ?_;intro ft eV;conv=>cbv
     refine D6 ?_;refine⟨fun _=>⟨AA,AA,AA⟩,?_⟩;rintro eK eM ⟨dQ,dS⟩;conv=>cbv
     rintro dp cB ⟨bd,b5⟩;conv=>cbv
     have bd:i'=dp:=AA
     have b5:n+1=cB:=AA
     subst bd b5;obtain⟨c6,aG,aH,aI,aJ⟩:=g9 (u:=bw) (off:=i') (len:=n+1) (S:=(cz+AI f)%2^(32*(n+1))) (Nat.mod_lt _ (Nat.two_pow_pos _)) AA;refine .inr (.inr (.inl ⟨[.one (.sl .u32 f)],.BI [],.arr 0 .u32 c6,fun _=>⟨by first | decide | simp[DS,DJ],t1⟩,fun _=>⟨Fb hE (vB AA AA AA aG aH aI (by rw[aJ,W])),rfl,rfl⟩,?_⟩));try conv=>cbv
     rw[a8];obtain⟨e1,e2,e3⟩:=(eH j h aa J).2 rfl;exact⟨c6,Dd-1,_,rfl,rfl,⟨AA⟩,⟨e1,AA⟩,⟨aG.trans P,aH.trans T,aI.trans U⟩,by rw[aJ,e3 (Nat.lt_of_le_of_lt (Nat.mod_le _ _) cM)]⟩
    obtain⟨J1,bA⟩:=xJ fun vs bl k=>∃(D r':Nat) (d r:Int),vs=[AH bp,.one (.Aj .u32 62 0 0 I),.one (.sl .u32 f),AH aQ,.one (.Aj .u32 73 0 0 g),.one (.int .u64 aR),.one (.int .u64 aS),AH i,.one (.int .u64 d),.one (.int .u64 r)]/\bl=[.arr 0 .u32 u,.arr 0 .u32 q]/\(AZ d D/\AZ r r')/\Ki R (AI f) top high D r'/\k=D
    refine⟨[],[8,9,10,11,12,13,14,15,17,18],[62,73],J1,⟨top/high,by rw[bA];exact⟨top/high,top%high,c3,c4,rfl,rfl,⟨⟨aU⟩,⟨aV⟩⟩,cR,rfl⟩⟩,?_⟩;intro vs bl fF hj;rw[bA] at hj;obtain⟨D,r',d,r,rfl,rfl,⟨hd,hr⟩,hg,fC⟩:=hj;conv=>cbv
    clear di cI bQ aF bx cD f98 bz aq bJ bK b6 L ar bG f107 au G X aU aX aV
    have ed:=hd.eq;have er:=hr.eq;refine pX ?_ ?_ <;> intro eZ <;> conv=>cbv
    ·refine .inr ?_;have dW:=hg.SR;have dX:=hg.rest;have aO:R/AI f<=D-1:=by first | exact cJ hg cW | exact cK hg C cp K AA
     have aL:0<D:=by first | omega | (apply Nat.pos_of_ne_zero;intro e;rw[e,Nat.zero_mul] at bg;omega)
     intro a5 Y;conv=>cbv
     have Y:=wrap_u64 Y;have F:a5=((D-1:Nat):Int):=AA
     intro a6 Z;conv=>cbv
     have Z:=wrap_u64 Z;have aW:a6=((r'+high:Nat):Int):=AA
     refine M8 ?_ ?_ <;> intro df <;> conv=>cbv
     ·exact Bj bA ⟨D-1,r'+high,a5,a6,rfl,rfl,⟨⟨F⟩,⟨aW⟩⟩,cO hg aO aL AA,rfl⟩
     rw[bB]
     first
      | exact⟨D-1,_,rfl,rfl,⟨F⟩,WY hg aO aL C K aN ab AA bh⟩
      | exact⟨D,_,rfl,rfl,hd,WZ hg C K aN ab AA⟩
    intro dk av;conv=>cbv
    have av:=wrap_u64 av;obtain⟨fu,bg,av⟩:∃p:Nat,p=D*next/\dk=p:=⟨_,rfl,by rw[av,ed,cC,<-Int.natCast_mul];have:=Nat.mul_le_mul (by omega:D<=4294967295) (by omega:next<=4294967295);omega⟩
    intro fi bL;conv=>cbv
    refine GL ?_;have bL:=Mk (p:=4294967296) bL rfl;intro fj eQ;conv=>cbv
    refine D6 ?_;intro fk eR;conv=>cbv
    refine D6 ?_;refine GL ?_;intro c1 dZ;conv=>cbv
    obtain⟨bs,ag⟩:=CE (l:=u) (i:=c1) AA;refine⟨bs,fun _=>ag,?_⟩;refine Af ?_;intro fl bM fm bN;have eO:=bM.eq;have f130:=bM.lt;have bN:=wrap_u64 bN;intro fo aY;conv=>cbv
    have cx:bs=bt:=by rw[(AA:c1=i'+n-2),ai] at ag;exact (Option.some.inj ag).symm
    have eb:=hg.rest;have aY:=MV (p:=r') (q:=bs.toNat) aY AA AA eb AA;rw[cx,<-cu] at aY;refine RF ?_ ?_ <;> intro fa <;> conv=>cbv
    ·rw[bB]
     first
      | exact⟨D-1,_,rfl,rfl,⟨F⟩,WY hg aO aL C K aN ab AA bh⟩
      | exact⟨D,_,rfl,rfl,hd,WZ hg C K aN ab AA⟩
    refine .inr ?_;have dW:=hg.SR;have dX:=hg.rest;have aO:R/AI f<=D-1:=by first | exact cJ hg cW | exact cK hg C cp K AA
    have aL:0<D:=by first | omega | (apply Nat.pos_of_ne_zero;intro e;rw[e,Nat.zero_mul] at bg;omega)
    intro a5 Y;conv=>cbv
    have Y:=wrap_u64 Y;have F:a5=((D-1:Nat):Int):=AA
    intro a6 Z;conv=>cbv
    have Z:=wrap_u64 Z;have aW:a6=((r'+high:Nat):Int):=AA
    refine M8 ?_ ?_ <;> intro df <;> conv=>cbv
    ·exact Bj bA ⟨D-1,r'+high,a5,a6,rfl,rfl,⟨⟨F⟩,⟨aW⟩⟩,cO hg aO aL AA,rfl⟩
    rw[bB]
    first
     | exact⟨D-1,_,rfl,rfl,⟨F⟩,WY hg aO aL C K aN ab AA bh⟩
     | exact⟨D,_,rfl,rfl,hd,WZ hg C K aN ab AA⟩
   have dh:=CL cd;refine BA 0 fun eF dc=>?_
   refine Af ?_;intro ey cF;have fw:=cF.eq;have f49:=cF.lt;have eX:b=eF.toNat:=by have:=DV dc;rw[(AA:0+1=m.length),List.take_length,hm,Bk] at this;simpa [AI] using this
   obtain⟨fY,bX⟩:=xU (Ah (AI l/b));obtain⟨fW,bT⟩:=xU (Ah (AI l%b));refine Be hE (pU (d:=ey) (b:=b) (AZ.of AA) hb AA bX bT AA) ?_;conv=>cbv
   exact AN ⟨⟨rfl,congrArg _ (by rw[Et,bX,hl,Bk]),trivial⟩,⟨rfl,congrArg _ (by rw[EB,bT,hl,Bk]),trivial⟩,trivial⟩
  have dg:=PR ca;obtain⟨eB,bR⟩:∃n:Int,AZ n (a):=⟨_,⟨rfl⟩⟩
  have bH:=bR.eq;refine Be (r:= .one (.int .u64 eB)) hE (TN (by rw[hl,Bk]) AA bR) ?_;conv=>cbv
  obtain⟨eC,bS⟩:∃n:Int,AZ n (b):=⟨_,⟨rfl⟩⟩
  have bI:=bS.eq;refine Be (r:= .one (.int .u64 eC)) hE (TN (by rw[hm,Bk]) AA bS) ?_;conv=>cbv
  have eW:a<18446744073709551616:=by have:=Dj l;rw[hl,Bk] at this;exact Nat.lt_of_lt_of_le this (Nat.pow_le_pow_right AD (by rw[<-hl];omega:32*(Ah a).length<=64))
  intro eu aZ;conv=>cbv
  refine GL ?_;have aZ:=wrap_u64 aZ;have bq:=Nat.div_le_self a b;have aZ:eu=((a/b:Nat):Int):=by rw[aZ,bH,bI,<-Int.natCast_ediv];generalize a/b=Q at *;omega
  obtain⟨eD,bV⟩:=xU (Ah (a/b));refine Be (r:= .one (.sl .u32 eD)) hE (NS (AZ.of (k:=a/b) aZ) (by generalize a/b=Q at *;omega) bV) ?_;refine Af ?_;intro ev cb;refine GL ?_;have br:=Nat.mod_lt a hb;have cb:ev=((a%b:Nat):Int):=by rw[cb,bH,bI];exact (Int.natCast_emod _ _).symm
  obtain⟨eE,bW⟩:=xU (Ah (a%b));refine Be (r:= .one (.sl .u32 eE)) hE (NS (AZ.of (k:=a%b) cb) (by generalize a%b=Q at *;omega) bW) ?_;try conv=>cbv
  refine g2 rfl ?_;exact AN ⟨⟨rfl,congrArg _ (by rw[Et,bV]),trivial⟩,⟨rfl,congrArg _ (by rw[EB,bW]),trivial⟩,trivial⟩
 have aP:=EZ c8;obtain⟨fX,bU⟩:=xU l;refine Be hE (Mt bU AA) ?_;conv=>cbv
 have b8:a<b:=by rw[aC] at aP;have:=Kw aP;omega
 exact AN ⟨⟨rfl,.inr (.inl ⟨_,congrArg _ (by rw[Et,Nat.div_eq_of_lt b8];rfl)⟩),trivial⟩,⟨rfl,congrArg _ (by rw[EB,Nat.mod_eq_of_lt b8,bU,hl]),trivial⟩,trivial⟩
end
section
variable {c:Int} {k n:Nat} {l z:List UInt32}
def qp {a:Nat} (j:l=Ah a) (r:z=Ah (a/2)) (sl:l.length<=17592186044416):CF 355 [.one (.sl .u32 l)] (.one (.sl .u32 z)):=by
 refine AL Tryz.func355 fun E h=>?_
 obtain⟨z4,g,d⟩:=MY (N:=AI l/2^1) (k:=l.length) (Nat.lt_of_le_of_lt (Nat.div_le_self _ _) (Dj _));refine AB h (EW (iV (n:=1) ⟨rfl⟩ AA g d rfl sl)) ?_;obtain⟨t,f⟩:=xU (Ah (AI l/2^1));refine AB h (GU d f) ?_;exact AO (by rw[r,f,j,Bk])
def EC (n:Nat):Nat:=if n=0 then 0 else Nat.log2 n+1
def tJ (f:2^k<=n) (g:n<2^(k+1)):EC n=k+1:=by
 have d:n≠0:=by have:=Nat.two_pow_pos k;omega
 unfold EC;rw[if_neg d];have a:k<=Nat.log2 n:=(Nat.le_log2 d).2 f;have b:Nat.log2 n<k+1:=(Nat.log2_lt d).2 g;omega
def Uv {i:Nat} {x:UInt32} (h:(Ah n)[i]? =some x) (g:i+1=(Ah n).length) (d:2^(k-1)<=x.toNat) (f:x.toNat<2^k) (t:1<=k):EC n=32*i+k:=by
 have h3:=DV h;rw[g,List.take_length,Bk] at h3;have r:=N7 (l:=Ah n) (n:=i);obtain⟨j,rfl⟩:∃j,k=j+1:=⟨k-1,AA⟩
 simp only[Nat.add_sub_cancel] at d;have e1:2^(32*i+j)=2^(32*i)*2^j:=Nat.pow_add _ _ _;have e2:2^(32*i+j+1)=2^(32*i)*2^(j+1):=by rw[<-Nat.pow_add,Nat.add_assoc]
 refine tJ (k:=32*i+j) ?_ ?_
 ·rw[e1,h3];have:=Nat.mul_le_mul_left (2^(32*i)) d;omega
 rw[e2,h3];have:=Nat.mul_le_mul_left (2^(32*i)) (show x.toNat+1<=2^(j+1) from f);rw[Nat.mul_add] at this;omega
def kU {x:Int} {b:Bool} (r:BQ x b l) (H:AZ c (EC x.natAbs)) (sl:l.length<=17592186044416):CF 353 [.agg (Bu b l)] (AH c):=by
 refine AL Tryz.func353 fun E G=>?_
 obtain⟨D,j⟩:=xU (Ah (AI l));refine AB G (GU rfl j) ?_;have t6:D=l:=by rw[j];exact r.trim
 have Y:D.length=l.length:=by rw[t6]
 rintro n8 ⟨Z,f8⟩;conv=>cbv
 refine BY (fun P=>?_) fun P=>?_
 ·exact AO (by rw[H.eq];have K:x=0:=r.G9.1 (by rw[<-t6];omega);rw[K];rfl)
 rintro Q ⟨I,f11⟩ R L S M T ⟨J,f16⟩ U N;refine BA ((D.length-1)) fun A t=>?_
 try conv=>cbv
 have d:=t;rw[t6,r.Bx] at d;have u:(Ah x.natAbs).length-1+1=(Ah x.natAbs).length:=by rw[<-r.Bx,<-t6];omega
 have g:=Oo d u;intro V h;have B:=h.eq;have f19:=h.lt;conv=>cbv
 obtain⟨X,f⟩:∃n:Int,AZ n (Lib.bitLen A.toNat):=⟨_,⟨rfl⟩⟩
 have F:=f.eq;refine AB G (YS ⟨B⟩ f19 f) ?_;have hb:=bitLen_spec (x:=A.toNat) f19 g;have C:=Uv d u hb.1 hb.2.1 hb.2.2.1;refine AM ?_;intro W O;exact AO (by rw[H.eq,C,<-r.Bx,<-t6];omega)
def wo (R:AZ c n) (hn:n<=1125899906000000) (U:z=Ah (2^n)):CF 354 [AH c] (.one (.sl .u32 z)):=by
 have X:=R.eq;refine AL Tryz.func354 fun E hE=>?_
 intro n5 Y n6 Z;refine⟨fun _=>⟨AA,AA,by show _*4<=140737488355328;omega⟩,?_⟩;intro G (t:List UInt32) F;have T:=F.1;have g:t=List.replicate G (0:el .u32):=F.2;have N:t.length=G:=by rw[g,List.length_replicate]
 refine AM ?_;intro V P W Q C u;obtain⟨D,r,u⟩:∃q:Nat,q=2^(n%32)/\C=q:=⟨_,rfl,by have:=Xi (p:=1) (e:=n%32) u rfl AA;rw[this,Nat.one_mul];congr 1;exact Nat.mod_eq_of_lt (Nat.lt_of_le_of_lt (Nat.pow_le_pow_right AD (by omega:n%32<=31)) AD)⟩
 have K:D<4294967296:=by rw[r];exact Nat.lt_of_le_of_lt (Nat.pow_le_pow_right AD (by omega:n%32<=31)) AD
 refine AM ?_;intro B L;obtain⟨j,h⟩:=DD (n:=C) AA;have H:=h.eq;have I:=h.lt;refine⟨j,fun _=>⟨by show _<List.length (α:=UInt32) t;(first | omega | (simp;omega)),DC h⟩,?_⟩;intro (d:List UInt32) (f:d=List.set (α:=UInt32) t B j);have J:d.length=t.length:=by rw[f,List.length_set]
 conv=>cbv
 have S:G=n/32+1:=AA
 have M:AI d=2^n:=by
  have O:t[n/32]? =some 0:=by rw[g,List.getElem?_replicate,if_pos AA]
  have:=WW (w:=j) O;rw[f,(AA:B=n/32)];rw[g,KQ] at this;rw[g];have e:2^n=2^(32*(n/32))*2^(n%32):=by rw[<-Nat.pow_add];congr 1;omega
  rw[e,<-r,(AA:D=j.toNat)];simpa using this
 have hlen:d.length=n/32+1:=by rw[f,List.length_set,g,List.length_replicate,S]
 have A:Ah (AI d)=d:=WG (.inr (by rw[M,hlen];exact Nat.pow_le_pow_right AD AA));exact AN ⟨⟨rfl,.inl ⟨_,rfl,AA,congrArg _ (by rw[U,<-M,A,List.drop_zero,List.take_of_length_le AA])⟩,trivial⟩,trivial⟩
end
end Go.Abs
