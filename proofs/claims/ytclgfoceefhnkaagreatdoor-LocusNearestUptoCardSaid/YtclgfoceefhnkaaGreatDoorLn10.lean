/- Part 11 of a proof. Conditions: each theorem's own. -/
import Derived.RangeFuncBox
import Derived.RangeFuncLeaves
import Derived.Shelf.Abstract
import Derived.WalkKit
import Derived.OwnWalkIn
import Derived.TacticsInMore
import Derived.LoopNIn
import Derived.LoopIn
import Derived.Test.YtclgfoceefhnkaaGreatDoorLn00
import Derived.Test.YtclgfoceefhnkaaGreatDoorLn09
set_option linter.all false
set_option maxHeartbeats 80000000
set_option maxRecDepth 20000
open Go.Proofs
namespace Go.Abs
section
open Go.RowKit
variable {l z:List UInt32} {n zn:Nat} {s:Int}
theorem aR (hs:AO s n) (hn:n<=31) (aM:z.length=l.length) (af:AD z=AD l/2^n) (aN:zn=z.length) (sl:l.length<=17592186044416):CF 410 [.one (.sl .u32 l),.one (.int .i64 s)] (.one (.own .u32 z zn)):=by
 have es:=hs.eq;refine AG Tryz.func410 fun E hE=>?_
 rintro n9 ⟨e9,f9⟩;refine⟨fun _=>⟨by omega,by omega,by show _*4<=140737488355328;omega⟩,?_⟩;intro J (K:List UInt32) F;have aB:=F.1;have t:K=List.replicate J (0:el .u32):=F.2;have av:K.length=J:=by rw[t,List.length_replicate]
 refine AS ?_;intro ai G;have aD:=G.eq;have f12:=G.le;refine BN [] [0,1,5,11,12,13] [10] (fun vs bl k=>∃(o:List UInt32) (m i':Nat) (L i:Int),vs=[.one (.sl .u32 l),.one (.int .i64 s),.one (.AZ .u32 10 0 0 m),.one (.sl .u32 l),.one (.int .i64 L),.one (.int .i64 i)]/\bl=[.arr 0 .u32 o]/\(o.length=l.length/\m=o.length/\DP L l.length/\AO i i'/\i'<=l.length)/\AD (o.take i')=AD l/2^n%2^(32*i')/\k=l.length-i') (l.length-0) ⟨K,J,0,ai,0,rfl,rfl,⟨by rw[t,List.length_replicate];omega,by rw[t,List.length_replicate],G,BD 0,by omega⟩,by simp[AD,Nat.mod_one],rfl⟩ ?_;rintro J0 Y vs bl aO ⟨o,m,i',L,i,rfl,rfl,⟨ho,hm,hL,hi,aK⟩,hinv,aL⟩;conv=>cbv
 have eL:=hL.eq;have ei:=hi.eq;refine BW (fun ag=>?_) fun ag=>?_
 ·have hk:i'=l.length:=by omega
  have a1:AD o=AD l/2^n:=by rw[hk,<-ho,List.take_length,ho] at hinv;rw[hinv];exact Nat.mod_eq_of_lt (Nat.lt_of_le_of_lt (Nat.div_le_self _ _) (Cv l))
  exact AE ⟨⟨rfl,.inr (.inl ⟨_,_,by decide,rfl,rfl,hm,rfl,Dm (NA (by omega) (by rw[af,a1])) (by omega)⟩),trivial⟩,trivial⟩
 refine .inr ?_;refine AW i' fun j D=>?_
 refine AK ?_;intro aP R a8 S;have aE:=R.eq;have f17:=R.lt;obtain⟨an,f,S⟩:∃q:Nat,q=j.toNat/2^n/\a8=q:=⟨_,rfl,shr_var S (by omega) (by omega) (by show n<=32;omega)⟩
 have aC:an<=j.toNat:=by rw[f];exact Nat.div_le_self _ _
 refine AK ?_;intro B ay;obtain⟨C,u⟩:=CZ (n:=a8) (by omega);have ao:=u.eq;have ar:=u.lt;refine⟨C,fun _=>⟨by show _<List.length (α:=UInt32) o;(first | omega | (simp;omega)),CY u⟩,?_⟩;intro (g:List UInt32) (a:g=List.set (α:=UInt32) o B C);have aw:g.length=o.length:=by rw[a,List.length_set]
 refine AK ?_;rintro aQ aH aS ⟨aF,f27⟩ aj T;refine .inr ?_;cases aj <;> conv=>cbv
 ·have ah:=Dw T;refine AK ?_;intro O ad;refine⟨l.length-(i'+1),?_,?_⟩
  ·omega
  rw[Y]
  have ew:(C.toNat)=j.toNat/2^n+0*2^(32-n)%4294967296:=by
   rw[Nat.zero_mul,<-f];omega
  refine⟨g,m,i'+1,L,O,rfl,rfl,⟨by rw[a,List.length_set];exact ho,by rw[a,List.length_set];exact hm,hL,⟨by omega⟩,by omega⟩,?_,rfl⟩;rw[a,show B=i' by omega,FB (by omega),ET,List.length_take,Nat.min_eq_left (by omega),hinv,QE,ew];rw[Nat.div_div_eq_div_mul,Nat.mul_comm (2^n),<-Nat.div_div_eq_div_mul,Oj (by omega:i'<=l.length),Ds D,List.drop_eq_nil_of_le (by omega:l.length<=i'+1)];rw[<-aU (y:=0) (r:=0) (by omega) hn];simp[AD]
 have ah:=Dx T;refine AK ?_;intro a6 az;obtain⟨aa,A⟩:=CM (l:=g) (i:=a6) (by omega);refine⟨aa,fun _=>A,?_⟩;refine AK ?_;intro aT U aV aI;have ab:=U.eq;have f32:=U.lt;refine AW ((i'+1)) fun d a5=>?_
 refine AS ?_;intro aW V aX W;have aG:=V.eq;have f37:=V.lt;have W:=wrap_u64 W;refine AK ?_;intro aY aJ ak H;obtain⟨aZ,a2,H⟩:∃q:Nat,q=d.toNat*2^(32-n)%18446744073709551616/\ak=q:=⟨_,rfl,TW H (by omega) (by omega)⟩
 intro al I;conv=>cbv
 have I:=wrap_u32 I;intro N X;conv=>cbv
 have bo:0<=N/\N<4294967296:=by rw[wrap_u32 X];omega
 have ex:aa=C:=by rw[a,show a6=B by omega,List.getElem?_set_self (by omega)] at A;exact (Option.some.inj A).symm
 refine AK ?_;intro a7 aA;obtain⟨P,x⟩:=CZ (n:=N) (by omega);have aq:=x.eq;have au:=x.lt;refine⟨P,fun _=>⟨by show _<List.length (α:=UInt32) g;(first | omega | (simp;omega)),CY x⟩,?_⟩;intro (M:List UInt32) (h:M=List.set (α:=UInt32) g a7 P);have ax:M.length=g.length:=by rw[h,List.length_set]
 refine AK ?_;intro O ad;refine⟨l.length-(i'+1),?_,?_⟩
 ·omega
 rw[Y]
 have ew:(P.toNat)=j.toNat/2^n+d.toNat*2^(32-n)%4294967296:=by
  have hq:2^n*2^(32-n)=4294967296:=by rw[<-Nat.pow_add,show n+(32-n)=32 by omega]
  have ae:j.toNat/2^n<2^(32-n):=Nat.div_lt_of_lt_mul (by rw[hq];omega);have Z:d.toNat*2^(32-n)%4294967296=2^(32-n)*(d.toNat%2^n):=by rw[<-hq,Nat.mul_comm d.toNat,Nat.mul_comm (2^n),Nat.mul_mod_mul_left]
  have h5:al=((d.toNat*2^(32-n)%4294967296:Nat):Int):=by rw[I,H,a2];generalize d.toNat*2^(32-n)=Q;omega
  have h6:=Ph X (p:=j.toNat/2^n) (q:=d.toNat*2^(32-n)%4294967296) (by rw[ab,ex,<-f];omega) h5 (by rw[<-f];omega) (by omega);rw[Z,LX ae,<-Z,<-f] at h6;rw[<-f]
  generalize d.toNat*2^(32-n)%4294967296=Q at*
  omega
 refine⟨M,m,i'+1,L,O,rfl,rfl,⟨by rw[h,a,List.length_set,List.length_set];exact ho,by rw[h,a,List.length_set,List.length_set];exact hm,hL,⟨by omega⟩,by omega⟩,?_,rfl⟩;rw[h,show a7=i' by omega,FB (by rw[a,List.length_set];omega),a,show B=i' by omega,H2 (Nat.le_refl _),ET,List.length_take,Nat.min_eq_left (by omega),hinv,QE,ew];rw[Nat.div_div_eq_div_mul,Nat.mul_comm (2^n),<-Nat.div_div_eq_div_mul,Oj (by omega:i'<=l.length),Ds D,Ds (show l[i'+1]? =some d from a5)];rw[aU (by omega) hn]
theorem aQ (hs:AO s n) (hn:n<=31) (aD:z.length=l.length+1) (a8:AD z=AD l*2^n) (aE:zn=z.length) (sl:l.length<=17592186044416):CF 407 [.one (.sl .u32 l),.one (.int .i64 s)] (.one (.own .u32 z zn)):=by
 have es:=hs.eq;refine AG Tryz.func407 fun E hE=>?_
 rintro aG ⟨av,f10⟩ aH ay;refine⟨fun _=>⟨by omega,by omega,by show _*4<=140737488355328;omega⟩,?_⟩;intro D (F:List UInt32) A;have au:=A.1;have d:F=List.replicate D (0:el .u32):=A.2;have ak:F.length=D:=by rw[d,List.length_replicate]
 refine AS ?_;intro ab B;have aw:=B.eq;have f14:=B.le;refine BN [] [0,1,5,13,14,15] [12] (fun vs bl k=>∃(o:List UInt32) (c:UInt32) (m i':Nat) (L i:Int),vs=[.one (.sl .u32 l),.one (.int .i64 s),.one (.AZ .u32 12 0 0 m),.one (.sl .u32 l),.one (.int .i64 L),.one (.int .i64 i)]/\bl=[.arr 0 .u32 o]/\(o.length=l.length+1/\m=o.length/\DP L l.length/\AO i i'/\i'<=l.length)/\(o[i']? =some c/\c.toNat<2^n)/\AD (o.take i')+2^(32*i')*c.toNat=AD (l.take i')*2^n/\k=l.length-i') (l.length-0) ⟨F,0,D,0,ab,0,rfl,rfl,⟨by rw[d,List.length_replicate];omega,by rw[d,List.length_replicate],B,BD 0,by omega⟩,⟨by rw[d,List.getElem?_replicate,if_pos (by omega)],Nat.two_pow_pos n⟩,by simp[AD],rfl⟩ ?_;rintro J0 a5 vs bl aF ⟨o,c,m,i',L,i,rfl,rfl,⟨ho,hm,hL,hi,aB⟩,⟨hc,a6⟩,hinv,aC⟩;conv=>cbv
 have eL:=hL.eq;have ei:=hi.eq;refine BW (fun aa=>?_) fun aa=>?_
 ·have hk:i'=l.length:=by omega
  have U:AD o=AD l*2^n:=by rw[hk,List.take_length,<-Cq (l:=o) (by rw[<-hk];exact hc),List.take_of_length_le (by omega)] at hinv;exact hinv
  exact AE ⟨⟨rfl,.inr (.inl ⟨_,_,by decide,rfl,rfl,hm,rfl,Dm (NA (by omega) (by rw[a8,U])) (by omega)⟩),trivial⟩,trivial⟩
 refine .inr ?_;refine AW i' fun a W=>?_
 refine AS ?_;intro aI J aJ K;have ax:=J.eq;have f19:=J.lt;have K:=wrap_u64 K;refine AK ?_;intro ad M;have a1:a.toNat*2^n<9223372036854775808:=Nat.mul_lt_mul_of_lt_of_le (by omega:a.toNat<4294967296) (Nat.pow_le_pow_right (by decide) hn:2^n<=2^31) (by decide);obtain⟨I,f,M⟩:∃q:Nat,q=a.toNat*2^n/\ad=q:=⟨_,rfl,(TW (p:=a.toNat) (e:=n) M (by omega) (by omega)).trans (by congr 1;exact Nat.mod_eq_of_lt (by omega))⟩
 rw[<-f] at a1;refine AK ?_;intro X ao;obtain⟨Z,t⟩:=CM (l:=o) (i:=X) (by omega);refine⟨Z,fun _=>t,?_⟩;refine AS ?_;intro aK O aL Q;have a2:=O.eq;have f27:=O.lt;have Q:=wrap_u32 Q;intro H R;conv=>cbv
 have bo:0<=H/\H<4294967296:=by rw[wrap_u32 R];omega
 refine AK ?_;intro Y aq;obtain⟨x,j⟩:=CZ (n:=H) (by omega);have ag:=j.eq;have ai:=j.lt;refine⟨x,fun _=>⟨by show _<List.length (α:=UInt32) o;(first | omega | (simp;omega)),CY j⟩,?_⟩;intro (u:List UInt32) (y:u=List.set (α:=UInt32) o Y x);have al:u.length=o.length:=by rw[y,List.length_set]
 refine AK ?_;intro aM az aN S;have S:=EW (p:=4294967296) S rfl;intro ae T;conv=>cbv
 have T:=wrap_u32 T;refine AK ?_;intro C ar;obtain⟨g,r⟩:=CZ (n:=ae) (by omega);have ah:=r.eq;have aj:=r.lt;refine⟨g,fun _=>⟨by show _<List.length (α:=UInt32) u;(first | omega | (simp;omega)),CY r⟩,?_⟩;intro (G:List UInt32) (h:G=List.set (α:=UInt32) u C g);have an:G.length=u.length:=by rw[h,List.length_set]
 refine AK ?_;intro af aA;refine⟨l.length-(i'+1),?_,?_⟩
 ·omega
 rw[a5];have hq:2^n*2^(32-n)=4294967296:=by rw[<-Nat.pow_add,show n+(32-n)=32 by omega]
 have ec:Z=c:=by rw[show X=i' by omega,hc] at t;exact (Option.some.inj t).symm
 have V:I%4294967296=2^n*(a.toNat%2^(32-n)):=by rw[f,Nat.mul_comm a.toNat,<-hq,Nat.mul_mod_mul_left]
 have h6:=Ph R (p:=c.toNat) (q:=I%4294967296) (by rw[a2,ec]) (by omega) (by have:=c.toNat_lt;omega) (by omega);rw[V,LX a6,<-V] at h6
 have a7:g.toNat<2^n:=by
  have:I/4294967296<2^n:=Nat.div_lt_of_lt_mul (by rw[f];exact (Nat.mul_lt_mul_right (Nat.two_pow_pos n)).2 (by omega));omega
 refine⟨G,g,m,i'+1,L,af,rfl,rfl,⟨by omega,by omega,hL,⟨by omega⟩,by omega⟩,⟨by rw[h,show C=i'+1 by omega,List.getElem?_set_self (by omega)],a7⟩,?_,rfl⟩;rw[h,show C=i'+1 by omega,H2 (Nat.le_refl _),y,show Y=i' by omega,FB (by omega),ET,List.length_take,Nat.min_eq_left (by omega),Cq W,EG,Nat.add_mul,<-hinv];have e1:x.toNat+4294967296*g.toNat=c.toNat+a.toNat*2^n:=by rw[<-f];omega
 have e2:2^(32*i')*(x.toNat+4294967296*g.toNat)=2^(32*i')*(c.toNat+a.toNat*2^n):=by rw[e1]
 generalize 2^(32*i')=P at*
 generalize 2^n=N at*
 grind
theorem iz {z1 z2:List UInt32} {d:Int} {b:Nat} (hd:AO d b) (hb:0<b) (az:b<4294967296) (a6:z1=AP (AD l/b)) (a7:z2=AP (AD l%b)) (sl:l.length<=17592186044416):CF 405 [.one (.sl .u32 l),.one (.int .u32 d)] (.AI [(false,[.sl .u32 z1]),(false,[.sl .u32 z2])]):=by
 have ed:=hd.eq;refine AG Tryz.func405 fun E hE=>?_
 rintro aE ⟨au,f10⟩;refine⟨fun _=>⟨by omega,by omega,by show _*4<=140737488355328;omega⟩,?_⟩;intro M (N:List UInt32) G;have ar:=G.1;have g:N=List.replicate M (0:el .u32):=G.2;have an:N.length=M:=by rw[g,List.length_replicate]
 refine AK ?_;rintro aF ⟨av,f13⟩ ab ax;refine BN [] [0,1,6,7,8] [11] (fun vs bl k=>∃(o:List UInt32) (m f A:Nat) (r j:Int),vs=[.one (.sl .u32 l),.one (.int .u32 d),.one (.AZ .u32 11 0 0 m),.one (.int .u64 r),.one (.int .i64 j)]/\bl=[.arr 0 .u32 o]/\(o.length=l.length/\m=o.length/\AO (j+1) A/\A<=l.length/\AO r f/\f<b)/\AD (l.drop A)=AD (o.drop A)*b+f/\k=A) l.length ⟨N,M,0,l.length,0,ab,rfl,rfl,⟨by rw[g,List.length_replicate];omega,by rw[g,List.length_replicate],⟨by omega⟩,by omega,BD 0,hb⟩,by rw[List.drop_length,List.drop_eq_nil_of_le (by rw[g,List.length_replicate];omega)];simp[AD],rfl⟩ ?_;rintro J0 a1 vs bl aD ⟨o,m,f,A,r,j,rfl,rfl,⟨ho,hm,hj,aA,hr,K⟩,hinv,aB⟩;conv=>cbv
 have ej:=hj.eq;have er:=hr.eq;refine Ir (fun a8=>?_) fun a8=>?_
 ·have h:m<=(o).length:=by omega
  obtain⟨aa,D⟩:=xN ((CV ((o).take m)).length);obtain⟨a2,L⟩:=Ei h D;refine .inr (.inr (.inl ⟨[],.one (.AZ .u32 0 0 0 aa),.arr 0 .u32 o,fun _=>⟨by first | decide | simp[Ck,Cj],trivial⟩,fun _=>⟨EK hE (Ls h (by omega) D),rfl,rfl⟩,?_⟩));try conv=>cbv
  obtain⟨aJ,F⟩:=xU (AP f);refine AB hE (K7 hr (by omega) F) ?_;have hk:A=0:=by omega
  rw[hk,List.drop_zero,List.drop_zero] at hinv;have hq:AD o=AD l/b:=by rw[hinv,Nat.add_comm,Nat.add_mul_div_right _ _ hb,Nat.div_eq_of_lt K,Nat.zero_add]
  have a5:f=AD l%b:=by rw[hinv,Nat.add_comm,Nat.add_mul_mod_self_right,Nat.mod_eq_of_lt K]
  exact AE ⟨⟨rfl,.inl ⟨_,rfl,by omega,congrArg _ (by rw[List.drop_zero,L,a6,hm,List.take_length,hq])⟩,trivial⟩,⟨rfl,congrArg _ (by rw[a7,F,a5]),trivial⟩,trivial⟩
 refine .inr ?_;refine AK ?_;intro ae H;have H:=KP (p:=4294967296) H rfl;have H:ae=((f*4294967296:Nat):Int):=by clear hinv;omega
 obtain⟨i',rfl⟩:∃i',A=i'+1:=⟨A-1,by omega⟩
 refine AW i' fun a V=>?_
 refine AS ?_;intro aG P aH S;have aw:=P.eq;have f24:=P.lt;have S:=wrap_u64 S;intro aI y;conv=>cbv
 have y:=KE (p:=f) (q:=a.toNat) y (by omega) (by omega) (by omega) (by omega);intro af T;conv=>cbv
 have T:=wrap_u64 T;refine AK ?_;intro ag I;have I:=wrap_u64 I;intro ah J;conv=>cbv
 have J:=wrap_u32 J;have W:af=(b:Int):=by omega
 have X:ag=(((a.toNat+4294967296*f)/b:Nat):Int):=by rw[I,y,W,<-Int.natCast_ediv];have:=Nat.div_le_self (a.toNat+4294967296*f) b;generalize (a.toNat+4294967296*f)/b=Q at *;clear hinv;omega
 refine AK ?_;intro B aq;obtain⟨u,t⟩:=CZ (n:=ah) (by omega);have ak:=t.eq;have al:=t.lt;refine⟨u,fun _=>⟨by show _<List.length (α:=UInt32) o;(first | omega | (simp;omega)),CY t⟩,?_⟩;intro (O:List UInt32) (C:O=List.set (α:=UInt32) o B u);have ao:O.length=o.length:=by rw[C,List.length_set]
 refine AS ?_;intro ai U;have U:=wrap_u64 U;refine AK ?_;intro aj Z ad ay;refine⟨i',?_,?_⟩
 ·omega
 rw[a1];have Y:ai=(b:Int):=by omega
 have h5:=Nat.div_add_mod (a.toNat+4294967296*f) b;refine⟨O,m,(a.toNat+4294967296*f)%b,i',aj,ad,rfl,rfl,⟨by omega,by omega,⟨by omega⟩,by omega,⟨by rw[Z,y,Y];simp⟩,Nat.mod_lt _ hb⟩,?_,rfl⟩
 have aC:(a.toNat+4294967296*f)/b<4294967296:=Nat.div_lt_of_lt_mul (by
  have:4294967296*(f+1)<=4294967296*b:=Nat.mul_le_mul_left _ K;rw[Nat.mul_comm b];omega)
 have ew:u.toNat=(a.toNat+4294967296*f)/b:=by
  rw[X] at J
  generalize (a.toNat+4294967296*f)/b=Q at*
  clear hinv
  omega
 rw[Ds V,hinv,C,Ds (l:=o.set B u) (i:=i') (x:=u) (by rw[show B=i' by omega,List.getElem?_set_self (by omega)]),show B=i' by omega,List.drop_set_of_lt (by omega),ew]
 generalize (a.toNat+4294967296*f)/b=Q at*
 generalize (a.toNat+4294967296*f)%b=R at*
 grind
end
section
open Go.RowKit
variable {b:Bool} {c w:Int} {i len off:Nat} {l o v z:List UInt32}
theorem Z7 (f:o.length=z.length) (a:o.take off=z.take off) (d:o.drop (off+len)=z.drop (off+len)) (hlen:off+len<=o.length) (h3:AD ((o.drop off).take len)=AD ((z.drop off).take len)):o=z:=by
 have e1:(o.drop off).take len=(z.drop off).take len:=NA (by simp;omega) h3;rw[<-List.take_append_drop off o,<-List.take_append_drop off z,a,<-List.take_append_drop len (o.drop off),<-List.take_append_drop len (z.drop off),e1,List.drop_drop,List.drop_drop,d]
theorem O5:(l.drop off)[i]? =l[off+i]? :=by rw[List.getElem?_drop]
theorem QA {x:UInt32} (h:l[i]? =some x):AD (l.take (i+1))=AD (l.take i)+2^(32*i)*x.toNat:=Cq h
theorem Ol {x:UInt32} (h:o.drop i=l.drop i) (a:o[i]? =some x):l[i]? =some x:=by
 have:(o.drop i)[0]? =(l.drop i)[0]? :=by rw[h]
 rw[List.getElem?_drop,List.getElem?_drop] at this;simpa [a] using this.symm
theorem pJ {x p g f d a h k j m q:Int} (N:0<=x/\x<4294967296) (M:0<=p/\p<=18446744065119617025) (L:0<=c/\c<=4294967296) (y:g=(p+c)%18446744073709551616)
  (B:f=g%4294967296) (C:d=f%18446744073709551616) (A:a=x%18446744073709551616) (r:h=(a-d)%18446744073709551616) (t:k=h%4294967296) (hw:k=w)
  (D:j=g/4294967296) (u:m=h/9223372036854775808) (F:q=(j+m)%18446744073709551616):(0<=q/\q<=4294967296)/\w+p+c=x+4294967296*q:=by
 have H:g=p+c:=by omega
 have I:0<=f/\f<4294967296:=by omega
 have a3:d=f:=by omega
 have a4:a=x:=by omega
 have J:g=f+4294967296*j:=by omega
 have K:0<=j/\j<=4294967295:=by omega
 clear y B D C A
 subst a3 a4
 by_cases G:a<d
 ·have b1:h=a-d+18446744073709551616:=by omega
  have b2:m=1:=by omega
  have b3:k=a-d+4294967296:=by omega
  clear r t u
  omega
 have b1:h=a-d:=by omega
 have b2:m=0:=by omega
 have b3:k=a-d:=by omega
 clear r t u
 omega
theorem kr {x Dy Dj a d:Int} (p:0<=x/\x<4294967296) (m:0<=c/\c<=4294967296) (f:Dy=x%18446744073709551616) (g:Dj=(Dy-c)%18446744073709551616) (h:a=Dj%4294967296) (hw:a=w)
  (j:d=Dj/9223372036854775808) (hb:b=(d==1)):w+c=x+4294967296*(b.toNat:Int):=by
 have a4:Dy=x:=by omega
 subst a4
 clear f
 by_cases k:Dy<c
 ·have b1:Dj=Dy-c+18446744073709551616:=by omega
  have b2:d=1:=by omega
  have b3:a=Dy-c+4294967296:=by omega
  rw[hb,b2]
  show w+c=Dy+4294967296*1
  omega
 have b1:Dj=Dy-c:=by omega
 have b2:d=0:=by omega
 have b3:a=Dy-c:=by omega
 rw[hb,b2]
 show w+c=Dy+4294967296*0
 omega
theorem pY {a S2 W T M:Nat} {c:Bool} (d:a+W=T+M*b.toNat) (f:S2+W=T+M*c.toNat) (l1:a<M) (l2:S2<M):a=S2/\b=c:=by
 cases b <;> cases c <;> simp at d f ⊢ <;> omega
theorem On (h:o.drop i=l.drop i):o.drop (i+1)=l.drop (i+1):=by
 rw[<-List.drop_drop,<-List.drop_drop,h]
theorem pK {d:Nat} {g:Int} (hlen:len=v.length+1) (aQ:off+len<=l.length) (hg:AO g d) (hd:d<4294967296) (aZ:l.length<=140737488355328) (b0:z.length=l.length) (ay:z.take off=l.take off) (az:z.drop (off+len)=l.drop (off+len)) (aj:AD ((z.drop off).take len)+AD v*d=AD ((l.drop off).take len)+2^(32*len)*b.toNat):Is Tryz.prog 408 (.AZ .u32 0 0 off len) (.arr 0 .u32 l) [.one (.sl .u32 v),.one (.int .u64 g)] (.one (.bool b)) (.arr 0 .u32 z):=by
 have eg:=hg.eq;refine ML Tryz.func408 (by kernel_rfl) rfl fun E hE=>?_
 refine AS ?_;intro aC N;have aR:=N.eq;have f14:=N.le;refine BN [] [0,1,2,7,13,14,15] [0] (fun vs bl k=>∃(o:List UInt32) (C i':Nat) (c L i:Int),vs=[.one (.AZ .u32 0 0 off len),.one (.sl .u32 v),.one (.int .u64 g),.one (.int .u64 c),.one (.sl .u32 v),.one (.int .i64 L),.one (.int .i64 i)]/\bl=[.arr 0 .u32 o]/\(o.length=l.length/\DP L v.length/\AO i i'/\i'<=v.length/\AO c C/\C<=4294967296)/\(o.take off=l.take off/\o.drop (off+i')=l.drop (off+i'))/\AD ((o.drop off).take i')+AD (v.take i')*d=AD ((l.drop off).take i')+2^(32*i')*C/\k=v.length-i') (v.length-0) ⟨l,0,0,0,aC,0,rfl,rfl,⟨rfl,N,BD 0,by omega,BD 0,by omega⟩,⟨rfl,rfl⟩,by simp[AD],rfl⟩ ?_;rintro J0 aw vs bl b1 ⟨o,C,i',c,L,i,rfl,rfl,⟨ho,hL,hi,aX,hc,aW⟩,⟨ht,F⟩,hinv,aY⟩;conv=>cbv
 have eL:=hL.eq;have ei:=hi.eq;have ec:=hc.eq;refine BW (fun aB=>?_) fun aB=>?_
 ·rintro bb ⟨aT,f48⟩ an aO;obtain⟨I,r⟩:=CM (l:=o) (i:=an) (by omega);refine⟨I,fun _=>r,?_⟩;refine AS ?_;intro bc af Dy Y;have au:=af.eq;have f50:=af.lt;have Y:=wrap_u64 Y;intro Dj Z;conv=>cbv
  have Z:=wrap_u64 Z;refine AS ?_;rintro bd ⟨aU,f56⟩ aH a1;have a1:=wrap_u32 a1;refine AK ?_;intro ao aP;obtain⟨A,m⟩:=CZ (n:=aH) (by omega);have aa:=m.eq;have aJ:=m.lt;refine⟨A,fun _=>⟨by show _<List.length (α:=UInt32) o;(first | omega | (simp;omega)),CY m⟩,?_⟩;intro (t:List UInt32) (f:t=List.set (α:=UInt32) o ao A);have aL:t.length=o.length:=by rw[f,List.length_set]
  refine AK ?_;intro bf a2;have a2:=EW (p:=9223372036854775808) a2 rfl;intro a7 av;conv=>cbv
  have hk:i'=v.length:=by omega
  subst hk;have K:ao=off+v.length:=by omega
  have M:an=off+v.length:=by omega
  rw[M] at r;have hx:=Ol F r;have ax:=kr (Dy:=Dy) (Dj:=Dj) (x:=I.toNat) (c:=C) (w:=A.toNat) (by omega) (by omega) (by rw[<-au];exact Y) (by rw[<-ec];exact Z) a1 aa a2 av
  have ag:AD ((t.drop off).take len)+AD v*d=AD ((l.drop off).take len)+2^(32*len)*a7.toNat:=by
   rw[hlen,QA (l:=l.drop off) (by rw[O5];exact hx),f,K,Om,FB (by rw[List.length_drop];omega),ET,List.length_take,List.length_drop,Nat.min_eq_left (by omega),EG];rw[List.take_length] at hinv;have J:A.toNat+C=I.toNat+4294967296*a7.toNat:=by omega
   generalize 2^(32*v.length)=P at*
   have e:P*(A.toNat+C)=P*(I.toNat+4294967296*a7.toNat):=by rw[J]
   clear ax J aj
   grind
  have ah:∀y:List UInt32,AD ((y.drop off).take len)<2^(32*len):=fun y=>Nat.lt_of_lt_of_le (Cv _) (Nat.pow_le_pow_right (by decide) (by rw[List.length_take];omega))
  obtain⟨q1,q2⟩:=pY ag aj (ah _) (ah _);have aA:t=z:=Z7 (off:=off) (len:=len) (by omega) (by rw[ay,f,K,H2,ht]) (by rw[az,f,K,List.drop_set_of_lt (by omega),hlen,<-Nat.add_assoc];exact On F) (by omega) q1;refine⟨fun _=>⟨⟨⟨rfl,congrArg _ (q2.symm),trivial⟩,trivial⟩,rfl,by simp⟩,fun _=>by show some (Af.arr 0 .u32 t)=_;rw[aA]⟩
 refine .inr ?_;refine AW i' fun B ai=>?_
 refine AS ?_;intro b2 ab aD ad;have aS:=ab.eq;have f19:=ab.lt;have ad:=wrap_u64 ad;intro aE h;conv=>cbv
 have h:=wrap_u64 h;obtain⟨aq,ep,h⟩:∃p:Nat,p=B.toNat*d/\aE=p:=⟨_,rfl,by rw[h,(by omega:aD=(B.toNat:Int)),eg,<-Int.natCast_mul];have:=Nat.mul_le_mul (by omega:B.toNat<=4294967295) (by omega:d<=4294967295);clear hinv;omega⟩
 have bp:aq<=4294967295*4294967295:=by rw[ep];exact Nat.mul_le_mul (by omega) (by omega)
 intro b3 O;conv=>cbv
 have O:=wrap_u64 O;refine AK ?_;intro ak aM;obtain⟨H,q⟩:=CM (l:=o) (i:=ak) (by omega);refine⟨H,fun _=>q,?_⟩;refine AS ?_;intro b4 ae b5 Q;have ar:=ae.eq;have f29:=ae.lt;have Q:=wrap_u64 Q;intro b6 R;conv=>cbv
 have R:=wrap_u32 R;intro b7 S;conv=>cbv
 have S:=wrap_u64 S;intro b8 T;conv=>cbv
 have T:=wrap_u64 T;intro aF U;conv=>cbv
 have U:=wrap_u32 U;refine AK ?_;intro al aN;obtain⟨u,j⟩:=CZ (n:=aF) (by omega);have a8:=j.eq;have aI:=j.lt;refine⟨u,fun _=>⟨by show _<List.length (α:=UInt32) o;(first | omega | (simp;omega)),CY j⟩,?_⟩;intro (a6:List UInt32) (a:a6=List.set (α:=UInt32) o al u);have aK:a6.length=o.length:=by rw[a,List.length_set]
 refine AK ?_;intro b9 V;have V:=EW (p:=4294967296) V rfl;refine AK ?_;intro ba W;have W:=EW (p:=9223372036854775808) W rfl;intro G X;conv=>cbv
 have X:=wrap_u64 X;refine AK ?_;intro aG aV;refine⟨v.length-(i'+1),?_,?_⟩
 ·omega
 rw[aw];have K:al=off+i':=by omega
 have M:ak=off+i':=by omega
 rw[M] at q;have hx:=Ol F q;have a5:=pJ (x:=H.toNat) (p:=aq) (c:=C) (w:=u.toNat) (by omega) (by omega) (by omega) (by rw[O,h,ec]) R S (by rw[Q,ar]) T U a8 V W X;have hw:u.toNat+B.toNat*d+C=H.toNat+4294967296*G.toNat:=by rw[<-ep];obtain⟨h1,h2⟩:=a5;clear hinv;omega
 refine⟨a6,G.toNat,i'+1,G,L,aG,rfl,rfl,⟨by omega,hL,⟨by omega⟩,by omega,⟨by have:=a5.1;omega⟩,by have:=a5.1;omega⟩,⟨by rw[a,K,H2];exact ht,by rw[a,K,List.drop_set_of_lt (by omega)];exact On F⟩,?_,rfl⟩;have hs:=pH (o:=o.drop off) (w:=u) (i:=i') (xi:=H.toNat) (yi:=B.toNat) (D:=d) (Fy:=C) (F1:=G.toNat) (by rw[List.length_drop];omega) hinv hw;rw[a,K,Om,Cq ai,QA (l:=l.drop off) (by rw[O5];exact hx)];exact hs
theorem nY (hlen:len=v.length+1) (av:off+len<=l.length) (aE:l.length<=140737488355328) (aF:z.length=l.length) (a8:z.take off=l.take off) (aa:z.drop (off+len)=l.drop (off+len)) (D:AD ((z.drop off).take len)=(AD ((l.drop off).take len)+AD v)%2^(32*len)):Is Tryz.prog 409 (.AZ .u32 0 0 off len) (.arr 0 .u32 l) [.one (.sl .u32 v)] (.AI []) (.arr 0 .u32 z):=by
 refine ML Tryz.func409 (by kernel_rfl) rfl fun E hE=>?_
 refine AS ?_;intro n8 h8;have e8:=h8.eq;have f8:=h8.le;refine BN [] [0,1,4,7,8,9] [0] (fun vs bl k=>∃(o:List UInt32) (h i':Nat) (c L i:Int),vs=[.one (.AZ .u32 0 0 off len),.one (.sl .u32 v),.one (.int .u64 c),.one (.sl .u32 v),.one (.int .i64 L),.one (.int .i64 i)]/\bl=[.arr 0 .u32 o]/\(o.length=l.length/\DP L v.length/\AO i i'/\i'<=v.length/\AO c h/\h<=1)/\(o.take off=l.take off/\o.drop (off+i')=l.drop (off+i'))/\AD ((o.drop off).take i')+2^(32*i')*h=AD ((l.drop off).take i')+AD (v.take i')/\k=v.length-i') (v.length-0) ⟨l,0,0,0,n8,0,rfl,rfl,⟨rfl,h8,BD 0,by omega,BD 0,by omega⟩,⟨rfl,rfl⟩,by simp[AD],rfl⟩ ?_;rintro J0 a7 vs bl aG ⟨o,h,i',c,L,i,rfl,rfl,⟨ho,hL,hi,aC,hc,aB⟩,⟨ht,t⟩,hinv,aD⟩;conv=>cbv
 have eL:=hL.eq;have ei:=hi.eq;have ec:=hc.eq;refine BW (fun ad=>?_) fun ad=>?_
 ·rintro aN ⟨ay,f34⟩ a2 ar;obtain⟨g,r⟩:=CM (l:=o) (i:=a2) (by omega);refine⟨g,fun _=>r,?_⟩;refine AS ?_;intro aO S aP T;have az:=S.eq;have f36:=S.lt;have T:=wrap_u32 T;intro ag U;conv=>cbv
  have U:=wrap_u32 U;refine AK ?_;intro a5 au;obtain⟨A,m⟩:=CZ (n:=ag) (by omega);have ai:=m.eq;have ak:=m.lt;refine⟨A,fun _=>⟨by show _<List.length (α:=UInt32) o;(first | omega | (simp;omega)),CY m⟩,?_⟩;intro (a:List UInt32) (f:a=List.set (α:=UInt32) o a5 A);have an:a.length=o.length:=by rw[f,List.length_set]
  conv=>cbv
  have hk:i'=v.length:=by omega
  subst hk;have B:a5=off+v.length:=by omega
  have C:a2=off+v.length:=by omega
  rw[C] at r;have hx:=Ol t r;have X:A.toNat=(g.toNat+h)%4294967296:=by clear hinv D;omega
  have W:∀y:List UInt32,AD ((y.drop off).take len)<2^(32*len):=fun y=>Nat.lt_of_lt_of_le (Cv _) (Nat.pow_le_pow_right (by decide) (by rw[List.length_take];omega))
  have V:AD ((a.drop off).take len)=(AD ((l.drop off).take len)+AD v)%2^(32*len):=by
   have h0:=W a
   have e1:AD ((a.drop off).take len)+2^(32*len)*((g.toNat+h)/4294967296)=AD ((l.drop off).take len)+AD v:=by
    rw[hlen,QA (l:=l.drop off) (by rw[O5];exact hx),f,B,Om,FB (by rw[List.length_drop];omega),ET,List.length_take,List.length_drop,Nat.min_eq_left (by omega),EG];rw[List.take_length] at hinv;have hd:=Nat.div_add_mod (g.toNat+h) 4294967296;rw[<-X] at hd
    generalize (g.toNat+h)/4294967296=Q at*
    generalize 2^(32*v.length)=P at*
    have e:P*(4294967296*Q+A.toNat)=P*(g.toNat+h):=by rw[hd]
    clear X D h0 W
    grind
   rw[<-e1,Nat.add_mul_mod_self_left,Nat.mod_eq_of_lt h0]
  have ab:a=z:=Z7 (off:=off) (len:=len) (by omega) (by rw[a8,f,B,H2,ht]) (by rw[aa,f,B,List.drop_set_of_lt (by omega),hlen,<-Nat.add_assoc];exact On t) (by omega) (by rw[V,D]);refine⟨fun _=>⟨trivial,rfl,by simp⟩,fun _=>by show some (Af.arr 0 .u32 a)=_;rw[ab]⟩
 refine .inr ?_;refine AW i' fun a6 Y=>?_
 refine AK ?_;intro aH H Z ao;have aw:=H.eq;have f13:=H.lt;obtain⟨G,q⟩:=CM (l:=o) (i:=Z) (by omega);refine⟨G,fun _=>q,?_⟩;refine AS ?_;intro aI I aJ J;have ax:=I.eq;have f18:=I.lt;have J:=wrap_u64 J;intro aK K;conv=>cbv
 have K:=wrap_u64 K;intro aL M;conv=>cbv
 have M:=wrap_u64 M;intro aM N;conv=>cbv
 have N:=wrap_u64 N;intro ae O;conv=>cbv
 have O:=wrap_u32 O;refine AK ?_;intro a1 aq;obtain⟨x,j⟩:=CZ (n:=ae) (by omega);have ah:=j.eq;have aj:=j.lt;refine⟨x,fun _=>⟨by show _<List.length (α:=UInt32) o;(first | omega | (simp;omega)),CY j⟩,?_⟩;intro (F:List UInt32) (d:F=List.set (α:=UInt32) o a1 x);have al:F.length=o.length:=by rw[d,List.length_set]
 refine AK ?_;intro u R;have R:=EW (p:=4294967296) R rfl;refine AK ?_;intro af aA;refine⟨v.length-(i'+1),?_,?_⟩
 ·omega
 rw[a7];have B:a1=off+i':=by omega
 have C:Z=off+i':=by omega
 rw[C] at q;have hx:=Ol t q;have hw:x.toNat+4294967296*u.toNat=G.toNat+a6.toNat+h:=by clear hinv;omega
 refine⟨F,u.toNat,i'+1,u,L,af,rfl,rfl,⟨by omega,hL,⟨by omega⟩,by omega,⟨by omega⟩,by omega⟩,⟨by rw[d,B,H2];exact ht,by rw[d,B,List.drop_set_of_lt (by omega)];exact On t⟩,?_,rfl⟩;have hs:=gG (o:=o.drop off) (w:=x) (i:=i') (xi:=G.toNat) (yi:=a6.toNat) (OW:=h) (OX:=u.toNat) (by rw[List.length_drop];omega) hinv hw;rw[d,B,Om,Cq Y,QA (l:=l.drop off) (by rw[O5];exact hx)];exact hs
end
section
open Go.RowKit Go.Shelf Go.Proofs
attribute [local go_sem] Oper.semAt_some
def upto {α:Type} (f:Nat->α) (k:Nat):List α:=(List.range k).map f
theorem bZ {α:Type} (f:Nat->α) (k:Nat):upto f (k+1)=upto f k++[f k]:=by simp[upto,List.range_succ]
theorem pf {α:Type} (f:Nat->α) (k:Nat):(upto f k).length=k:=by simp[upto]
def bk (l:List UInt32) (k:Nat):Int×UInt32:=((l.length:Int)-1-k,l[l.length-1-k]?.getD 0)
structure G8 (n b:Nat) (A B:World):Prop where
 below:Below n A B
 block:B.heap[b]? =A.heap[b]?
theorem G8.refl (n b:Nat) (A:World):G8 n b A A:=⟨Below.refl _ _,rfl⟩
theorem G8.trans {n b:Nat} {A B C:World} (h:G8 n b A B) (k:G8 n b B C):G8 n b A C:=⟨h.1.trans k.1,k.2.trans h.2⟩
theorem gP (F:Fence) (n:Nat) (h7:F.fn 417) (hro:F.round=none) (hn:1<=n) (l Bs n₀ b off cap:Nat) (zs:List UInt32) (hreach:zs.length<=140737488351232) (hb:b<n₀) (J Jx:List (Int×UInt32)->World->Prop)
  (hY:∀pre x W,J pre W->pre.length<zs.length->YieldAt F (n-1) Tryz.prog l #[.int .i64 x.1,.int .u32 (x.2.toNat:Int)] W fun e W'=>
   (e= .returned (.bool true)/\J (pre++[x]) W'/\G8 n₀ Bs W W')\/(e= .returned (.bool false)/\Jx (pre++[x]) W'))
  (W:World) (hBs:W.cell? ⟨Bs,0,none⟩=some (.slice (some ⟨b,off,none⟩) zs.length cap)) (hc:∀j,j<zs.length->W.cell? ⟨b,off+j,none⟩=some (.int .u32 ((zs[j]?.getD 0).toNat:Int))) (h0:J [] W):
  CallsIn F n Tryz.prog 417 #[.func (.yield l) #[] #[],.pointer (some ⟨Bs,0,none⟩)] W fun e W'=>(∃v,e= .returned v)/\
   ((∃ys,ys=upto (bk zs) zs.length/\J ys W')\/(∃pre,(∃k,k<=zs.length/\pre=upto (bk zs) k)/\Jx pre W')):=by
 refine callsIn_of_wp Tryz.func417 rfl h7 ?_ hro;simp only[Tryz.ntmps417,List.size_toArray,List.length_cons,List.length_nil,Nat.reduceAdd,Nat.reduceSub,Array.replicate_succ,Array.replicate_zero,List.push_toArray,List.append_toArray,List.nil_append,List.cons_append]
 gi_wp2
 gi_loopw [3] (fun i wr=>∃k:Nat,k<=zs.length/\i= .int .i64 ((zs.length:Int)-1-k)/\J (upto (bk zs) k) wr/\G8 n₀ Bs W wr)
  (fun i _=>(intOf i+1).toNat)
 case atStart=>exact⟨0,Nat.zero_le _,by simp,h0,G8.refl _ _ _⟩
 case round=>
  obtain⟨k,hk,rfl,hJs,hnx⟩:=hrel
  by_cases hlt:k<zs.length
  ·obtain⟨j,ej,hjl,ex⟩:∃j:Nat,(zs.length:Int)-1-k=(j:Int)/\j<zs.length/\bk zs k=((j:Int),zs[j]?.getD 0):=
    ⟨zs.length-1-k,by omega,by omega,by unfold bk;rw[show ((zs.length:Int)-1-k)=((zs.length-1-k:Nat):Int) by omega]⟩
   have hcx:wr.cell? ⟨b,off+j,none⟩=some (.int .u32 ((zs[j]?.getD 0).toNat:Int)):=(hnx.below.cell (p:=⟨b,off+j,none⟩) hb).trans (hc j hjl);have hbx:wr.cell? ⟨Bs,0,none⟩=some (.slice (some ⟨b,off,none⟩) zs.length cap):=(World.cell?_of_block (a:=⟨Bs,0,none⟩) hnx.block).trans hBs;obtain⟨fn,tmps,assign,body,hy,hR⟩:=hY _ (bk zs k) wr hJs (by rw[pf];exact hlt);rw[ex] at hy hR;have eg:zs[j]?.getD 0=zs[j]:=by simp[hjl]
   rw[eg] at hy hcx
   dsimp only at hy
   rw[ej];have hmz:((j:Int):Int)-1+1=j:=by omega
   gi_wp2
   refine hR.mono ?_;rintro e W3 (⟨rfl,hJ3,hk3⟩ |⟨rfl,hJx3⟩)
   ·gi_wp2
    go_roundw
    case rel=>exact⟨k+1,by omega,by congr 1;omega,by rw[bZ,ex];exact hJ3,hnx.trans hk3⟩
    case measure=>simp[intOf]
   gi_wp2
   refine bodyPost_ret (results_none rfl _ _ _) rfl ?_;exact⟨⟨_,rfl⟩,.inr ⟨_,⟨k+1,by omega,by rw[bZ,ex]⟩,hJx3⟩⟩
  obtain rfl:k=zs.length:=by omega
  rw[show (zs.length:Int)-1-zs.length= -1 by omega]
  gi_wp2
  go_end0
  exact⟨⟨_,rfl⟩,.inl ⟨_,rfl,hJs⟩⟩
theorem gQ (F:Fence) (n:Nat) (h7:F.fn 417) (hro:F.round=none) (l Bs:Nat) (base:Option Addr) (cap:Nat) (J:List (Int×UInt32)->World->Prop) (W:World) (hBs:W.cell? ⟨Bs,0,none⟩=some (.slice base 0 cap)) (h0:J [] W):
  CallsIn F n Tryz.prog 417 #[.func (.yield l) #[] #[],.pointer (some ⟨Bs,0,none⟩)] W fun e W'=>(∃v,e= .returned v)/\J [] W':=by
 refine callsIn_of_wp Tryz.func417 rfl h7 ?_ hro;simp only[Tryz.ntmps417,List.size_toArray,List.length_cons,List.length_nil,Nat.reduceAdd,Nat.reduceSub,Array.replicate_succ,Array.replicate_zero,List.push_toArray,List.append_toArray,List.nil_append,List.cons_append]
 gi_wp2
 gi_loopw [3] (fun i wr=>i= .int .i64 (-1)/\J [] wr) (fun _ _=>0)
 case atStart=>exact⟨by simp,h0⟩
 case round=>
  obtain⟨rfl,hJs⟩:=hrel
  gi_wp2
  go_end0
  exact⟨⟨_,rfl⟩,hJs⟩
theorem gR (F:Fence) (n:Nat) (h5:F.fn 411) (hro:F.round=none) (a:Option Addr) (len cap:Nat) (w:World):
  CallsIn F n Tryz.prog 411 #[.slice a len cap] w fun e w'=>e= .returned (.func (.func 417) #[] #[.pointer (some ⟨w.heap.size,0,none⟩)])/\w'=w.alloc (.cells #[.slice a len cap] 75):=by
 refine callsIn_of_wp Tryz.func411 rfl h5 ?_ hro;simp only[Tryz.ntmps411,List.size_toArray,List.length_cons,List.length_nil,Nat.reduceAdd,Nat.reduceSub,Array.replicate_succ,Array.replicate_zero,List.push_toArray,List.append_toArray,List.nil_append,List.cons_append]
 gi_wp2
 go_ret
 exact⟨rfl,rfl⟩
def Words (n:Nat) (W:World) (sv:Value) (zs:List UInt32):Prop:=
 (∃base cap,sv= .slice base 0 cap/\zs=[])\/∃b off cap,sv= .slice (some ⟨b,off,none⟩) zs.length cap/\b<n/\∀j,j<zs.length->W.cell? ⟨b,off+j,none⟩=some (.int .u32 ((zs[j]?.getD 0).toNat:Int))
theorem Words.below {n:Nat} {A B:World} (h:Below n A B) {a:Value} {d:List UInt32}:Words n A a d->Words n B a d
 | .inl e=> .inl e
 | .inr ⟨b,off,cap,e,hb,f⟩=> .inr ⟨b,off,cap,e,hb,fun j g=>(h.cell (p:=⟨b,off+j,none⟩) hb).trans (f j g)⟩
theorem gS (F:Fence) (n:Nat) (u:F.fn 417) (m:F.round=none) (I:1<=n) (g a:Nat) (A:Value) (f:List UInt32) (d:f.length<=140737488351232) (w:World) (q:g<w.heap.size) (h:a<=w.heap.size)
  (G:w.cell? ⟨g,0,none⟩=some A) (C:Words a w A f):
  SeqStopsK F n Tryz.prog 417 #[.pointer (some ⟨g,0,none⟩)] (fun x:Int×UInt32=> #[Value.int .i64 x.1,Value.int .u32 (x.2.toNat:Int)]) (G8 a g) (fun ys=>ys=upto (bk f) f.length)
   (fun pre=>∃k,k<=f.length/\pre=upto (bk f) k) f.length w:=fun l J B W y _ _ D t=>by
 have j:=(y.cell (p:=⟨g,0,none⟩) q).trans G;rcases C.below (y.mono h) with⟨base,cap,rfl,rfl⟩ |⟨b,off,cap,rfl,hb,r⟩
 ·exact (gQ F n u m l g base cap J W j t).mono fun e K ⟨he,H⟩=>⟨he,.inl ⟨_,rfl,H⟩⟩
 exact gP F n u m I l g a b off cap f d hb J B D W j r t
def Kh (s:Int) (x:Int×UInt32):Int:=bits BinOp.or IntKind.u64 (IntKind.u64.wrap (s*4294967296)) (IntKind.u64.wrap (x.2.toNat:Int))
def K6 (pre:List (Int×UInt32)):Int:=pre.foldl Kh 0
theorem jY (pre:List (Int×UInt32)) (x:Int×UInt32):K6 (pre++[x])=Kh (K6 pre) x:=by simp[K6]
theorem pR (F:Fence) (n:Nat) (h3:F.fn 398) (h5:F.fn 411) (h7:F.fn 417) (hro:F.round=none) (hn:3<=n) (a:Option Addr) (len cap:Nat) (zs:List UInt32) (hreach:zs.length<=140737488351232) (w:World) (hI:Words w.heap.size w (.slice a len cap) zs):
  CallsIn F n Tryz.prog 398 #[.slice a len cap] w fun e W'=>e= .returned (.int .u64 (K6 (upto (bk zs) zs.length)))/\Below w.heap.size w W':=by
 have h1:1<=n:=by omega
 refine callsIn_of_wp_marks Tryz.func398 rfl h3 ?_ hro;simp only[Tryz.ntmps398,List.size_toArray,List.length_cons,List.length_nil,Nat.reduceAdd,Nat.reduceSub,Array.replicate_succ,Array.replicate_zero,List.push_toArray,List.append_toArray,List.nil_append,List.cons_append]
 gi_wp2_with (gi_at_call 411;refine (gR F (n-1) h5 hro _ _ _ _).mono ?_;rintro e w' ⟨rfl,rfl⟩)
 have bS:=Boxed.new w 216 (.int .u64 0);have bN:=Boxed.new (w.alloc (.cells #[.int .u64 0] 216)) 75 (.slice a len cap);rw[World.size_alloc] at bN;have hB0:Below w.heap.size w ((w.alloc (.cells #[.int .u64 0] 216)).alloc (.cells #[.slice a len cap] 75)):=((Below.refl _ w).alloc (Nat.le_refl _) _).alloc (by simp) _
 refine wpIn_rangeFunc_ownG hro h1 (gf:=417) (lb:= #[.pointer (some ⟨w.heap.size+1,0,none⟩)]) rfl h7 (enters_of Tryz.func417 (by kernel_rfl) rfl)
  (gS F (n-1) h7 hro (by omega) (w.heap.size+1) w.heap.size _ zs hreach _ (by simp) (by simp;omega) bN.cell (hI.below hB0)) G8.trans (fun W l o o' hl h hc hw=>⟨belowK_b (by simp;omega) W l o o' hl h hc hw,World.putObj_heap_other (by simp at hl;omega)⟩) (Below.refl _ _) (fun _=>rfl)
  (fun pre W=>(W.cell? ⟨w.heap.size,0,none⟩=some (.int .u64 (K6 pre))/\W.frozen? ⟨w.heap.size,0,none⟩=false)/\Below w.heap.size w W)
  (fun _ _ _=>False)
  (OwnFrom.and (Own.from (fun s A B row hs hg hr=>⟨cell_kept hs.1 hg hr,(frozen_kept hs.1 hg hr).trans hs.2⟩) _) (ownFrom_below (Nat.le_refl _) (by simp;omega)))
  (fun _ _ _ _ _ hs _ _=>hs)
  ⟨⟨(bS.alloc _).cell,(bS.alloc _).frozen⟩,hB0⟩
  (fun x=>{tmps:= #[.slice a len cap,undef,.int .u64 0,.pointer (some ⟨w.heap.size,0,none⟩),undef,.int .u32 (x.2.toNat:Int),.slice a len cap,.func (.func 417) #[] #[.pointer (some ⟨w.heap.size+1,0,none⟩)],.int .i64 x.1,.int .u32 (x.2.toNat:Int),undef,undef,undef,undef,undef,undef],defers:=[]}) ?assign ?body ?done ?stop
 case assign=>
  intro l x W K hK
  gi_wp2
  exact hK
 case body=>
  rintro l pre x W ⟨⟨hc,hf⟩,hB⟩ _
  gi_wp2
  exact⟨(KeepsOthers.setCell _ _ _).from _,⟨(Below.refl w.heap.size W).setCell (p:=⟨w.heap.size,0,none⟩) (Nat.le_refl _) _,Below.heap_setCell W _ _ _ (by simp)⟩,⟨by rw[jY];exact World.cell?_setCell_same' _ _ _ (by rw[hc];rfl),by rw[World.frozen?_setCell];exact hf⟩,hB.setCell (p:=⟨w.heap.size,0,none⟩) (Nat.le_refl _) _⟩
 case done=>
  rintro D ys W hD rfl ⟨⟨hc,_⟩,hB⟩ hK
  gi_wp2
  refine⟨by simp,.inl ⟨_,_,rfl,run_takeDeferred hK,?_⟩⟩;exact⟨_,results_tmp rfl _ _ _,rfl,hB.trans (belowK_b (w:=w) (Nat.le_refl _) W D _ _ (by simp at hD;omega) hK rfl rfl)⟩
 case stop=>
  rintro D c pre W _ _ h _;exact h.elim
theorem Qt {s:Int} {p:Nat} (x:Int×UInt32) (f:s=p) (d:p<4294967296):Kh s x=((x.2.toNat+4294967296*p:Nat):Int):=by
 have g:=x.2.toNat_lt;refine KE (a:=IntKind.u64.wrap (s*4294967296)) (b:=IntKind.u64.wrap (x.2.toNat:Int)) rfl ?_ ?_ d g
 ·rw[wrap_u64 (rfl:IntKind.u64.wrap (s*4294967296)=_),f];omega
 rw[wrap_u64 (rfl:IntKind.u64.wrap (x.2.toNat:Int)=_)];omega
theorem jZ:∀(l:List UInt32),l.length<=2->K6 (upto (bk l) l.length)=(AD l:Int)
 | [],_=>rfl
 | [x],_=>by
  show Kh 0 (bk [x] 0)=_
  refine (Qt (p:=0) _ rfl (by decide)).trans ?_;simp[bk,AD]
 | [x,y],_=>by
  show Kh (Kh 0 (bk [x,y] 0)) (bk [x,y] 1)=_
  have a:=Qt (p:=0) (bk [x,y] 0) rfl (by decide);have d:=y.toNat_lt;rw[Qt (p:=y.toNat) _ (by simpa [bk] using a) d];simp[bk,AD]
 | _::_::_::_,h=>by simp at h
theorem QC {l:List UInt32} {n:Int} {k:Nat} (q:AD l=k) (r:l.length<=2) (t:AO n k):CF 398 [.one (.sl .u32 l)] (.one (.int .u64 n)):=by
 obtain⟨c,p⟩:∃c,Tryz.f398.body=some c:=⟨_,rfl⟩
 refine .mk ⟨Tryz.f398,c,by kernel_rfl,by rfl,p⟩ ⟨rfl,rfl⟩ fun w I vs m d=>?_
 match vs,d with
 | [v],.cons f _=>
  rcases f with a |⟨base,cap,y,A,B,h3⟩
  ·cases a
  obtain rfl:v= .slice base l.length cap:=by simpa using y
  have hw:Words w.heap.size w (.slice base l.length cap) l:=by
   rcases h3 with rfl |⟨b,off,rfl,hb,g⟩
   ·exact .inl ⟨base,cap,rfl,rfl⟩
   refine .inr ⟨b,off,cap,rfl,m b hb,fun j a=>?_⟩;obtain⟨us,hu,u⟩:=g j l[j] (by simp[a]);have hu:us=[.int .u32 (l[j].toNat:Int)]:=hu;have:=u 0 (.int .u32 (l[j].toNat:Int)) (by rw[hu];rfl);have e:l[j]?.getD 0=l[j]:=by simp[a]
   rw[e];have x:T.u32.size=1:=rfl;rw[x] at this;have this:w.cell? ⟨b,off+j*1+0,none⟩=_:=this;simpa using this
  refine (callsIn_wide.1 (pR Fence.wide 3 trivial trivial trivial rfl (Nat.le_refl _) base l.length cap l (by omega) w hw)).mono ?_;rintro e w' ⟨rfl,h⟩;refine⟨_,none,rfl,h,.inr ?_⟩
  show _=_
  rw[jZ l r,q,t.eq]
end
section
open Go.RowKit Go.Shelf Go.Proofs
theorem bitLen_spec {x:Nat} (h:x<4294967296) (g:x≠0):2^(Lib.bitLen x-1)<=x/\x<2^Lib.bitLen x/\1<=Lib.bitLen x/\Lib.bitLen x<=32:=by
 have key:∀(f x:Nat),x<2^f->x≠0->2^(Lib.bitLenAux f x-1)<=x/\x<2^Lib.bitLenAux f x/\1<=Lib.bitLenAux f x/\Lib.bitLenAux f x<=f:=by
  intro f
  induction f with
  | zero=>intro x h g;simp at h;exact absurd h g
  | succ f p=>
   intro x h g;simp only[Lib.bitLenAux,if_neg g]
   by_cases j:x/2=0
   ·rw[j];have:Lib.bitLenAux f 0=0:=by cases f <;> simp[Lib.bitLenAux]
    rw[this];simp;omega
   obtain⟨a,b,c,d⟩:=p (x/2) (by rw[Nat.pow_succ] at h;omega) j
   generalize Lib.bitLenAux f (x/2)=m at*
   obtain⟨m,rfl⟩:∃k,m=k+1:=⟨m-1,by omega⟩
   rw[show 1+(m+1)=m+1+1 by omega,Nat.pow_succ];simp only[Nat.add_sub_cancel] at a ⊢;rw[Nat.pow_succ] at b ⊢;omega
 have e:Lib.bitLen x=Lib.bitLenAux 32 x:=Lib.bitLenAux_fuel 32 x (by simpa using h) 64 (by decide);rw[e];exact key 32 x (by simpa using h) g
theorem Uj {x c:Int} {k:Nat} (d:AO x k) (p:k<4294967296) (g:AO c (Lib.bitLen k)):CF 416 [.one (.int .u32 x)] (.one (.int .i64 c)):=by
 obtain⟨b,hb⟩:∃b,Tryz.f416.body=some b:=⟨_,rfl⟩
 refine .mk ⟨Tryz.f416,b,by kernel_rfl,by rfl,hb⟩ ⟨rfl,rfl⟩ fun w I vs m a=>?_
 match vs,a with
 | [v],.cons f _=>
  rcases f with h | j
  ·cases h
  obtain rfl:v= .int .u32 x:=j;have:=d.eq;refine (kz x w).mono ?_;rintro e w' ⟨rfl,rfl⟩;refine⟨_,none,rfl,Below.refl _ _,.inr ?_⟩
  show _=_
  rw[g.eq,d.eq];rfl
end
end Go.Abs
