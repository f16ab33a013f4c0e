/- Part 13 of a proof. Conditions: each theorem's own. -/
import Derived.RangeFuncBox
import Derived.RangeFuncLeaves
import Derived.Shelf.Abstract
import Derived.WalkKit
import Derived.OwnWalkIn
import Derived.TacticsInMore
import Derived.LoopNIn
import Derived.LoopIn
import Derived.Test.YtmhbikooakmagaaGreatRk00
import Derived.Test.YtmhbikooakmagaaGreatRk11
set_option linter.all false
set_option maxHeartbeats 8000000
set_option maxRecDepth 20000
open Go.Proofs
namespace Go.Abs
open Go.RowKit
variable {l z:List UInt32} {n zn:Nat} {s:Int}
theorem Zh (hs:AO s n) (hn:n<=31) (aJ:z.length=l.length) (ae:AE z=AE l/2^n) (aK:zn=z.length) (sl:l.length<=17592186044416):CF 402 [.one (.sl .u32 l),.one (.int .i64 s)] (.one (.own .u32 z zn)):=by
 have es:=hs.eq;refine AJ Tryz.func402 fun E hE=>?_
 conv=>cbv
 rintro n9 ⟨e9,f9⟩;conv=>cbv
 refine⟨fun _=>⟨by omega,by omega,by show _*4<=140737488355328;omega⟩,?_⟩;intro N (O:List UInt32) H;have ay:=H.1;have t:O=List.replicate N (0:el .u32):=H.2;have aq:O.length=N:=by rw[t,List.length_replicate]
 conv=>cbv
 intro ah I;have aA:=I.eq;have f12:=I.le;conv=>cbv
 refine .inr ?_
 obtain⟨J0,C⟩:∃J:List AV->List AL->Nat->Prop,J=fun vs bl k=>∃(o:List UInt32) (m i':Nat) (L i:Int),vs=[.one (.sl .u32 l),.one (.int .i64 s),.one (.AN .u32 10 0 0 m),.one (.sl .u32 l),.one (.int .i64 L),.one (.int .i64 i)]/\
  bl=[.arr 0 .u32 o]/\(o.length=l.length/\m=o.length/\CT L l.length/\AO i i'/\i'<=l.length)/\
  AE (o.take i')=AE l/2^n%2^(32*i')/\k=l.length-i':=⟨_,rfl⟩
 refine⟨[],[0,1,5,11,12,13],[10],J0,⟨l.length-0,by rw[C];exact⟨O,N,0,ah,0,rfl,rfl,⟨by rw[t,List.length_replicate];omega,by rw[t,List.length_replicate],I,Al 0,by omega⟩,by simp[AE,Nat.mod_one],rfl⟩⟩,?_⟩;intro vs bl aL hj;rw[C] at hj;obtain⟨o,m,i',L,i,rfl,rfl,⟨ho,hm,hL,hi,aH⟩,hinv,aI⟩:=hj;conv=>cbv
 have eL:=hL.eq;have ei:=hi.eq;intro ai S;conv=>cbv
 cases ai <;> conv=>cbv
 ·have af:=AW S;have hk:i'=l.length:=by omega
  have a2:AE o=AE l/2^n:=by rw[hk,<-ho,List.take_length,ho] at hinv;rw[hinv];exact Nat.mod_eq_of_lt (Nat.lt_of_le_of_lt (Nat.div_le_self _ _) (CR l))
  exact AD ⟨⟨rfl,.inr (.inl ⟨_,_,by decide,rfl,rfl,hm,rfl,C5 (L2 (by omega) (by rw[ae,a2])) (by omega)⟩),trivial⟩,trivial⟩
 have af:=AY S;refine .inr ?_;obtain⟨h,A⟩:=AK (l:=l) (i:=i') (by omega);refine⟨h,fun _=>⟨by omega,by rw[show (i).toNat=i' by omega];exact A⟩,?_⟩;try conv=>cbv
 intro n17 T;have aB:=T.eq;have f17:=T.lt;conv=>cbv
 intro n22 U;conv=>cbv
 refine AH ?_;obtain⟨aj,f,U⟩:∃q:Nat,q=h.toNat/2^n/\n22=q:=⟨_,rfl,shr_var U (by omega) (by omega) (by show n<=32;omega)⟩
 have az:aj<=h.toNat:=by rw[f];exact Nat.div_le_self _ _
 refine AH ?_;intro D av;conv=>cbv
 obtain⟨F,u⟩:=B7 (n:=n22) (by omega);have ak:=u.eq;have an:=u.lt;refine⟨F,fun _=>⟨by show _<List.length (α:=UInt32) o;(first | omega | (simp;omega)),B5 u⟩,?_⟩;intro (g:List UInt32) (a:g=List.set (α:=UInt32) o D F);have ar:g.length=o.length:=by rw[a,List.length_set]
 conv=>cbv
 intro n25 aE;conv=>cbv
 refine AI ?_;rintro n27 ⟨aC,f27⟩;conv=>cbv
 intro n28 V;conv=>cbv
 refine .inr ?_;cases n28 <;> conv=>cbv
 ·have ag:=AW V;intro n45 ab;conv=>cbv
  refine AI ?_;refine⟨l.length-(i'+1),?_,?_⟩
  ·omega
  rw[C]
  have ew:(F.toNat)=h.toNat/2^n+0*2^(32-n)%4294967296:=by
   rw[Nat.zero_mul,<-f];omega
  refine⟨g,m,i'+1,L,n45,rfl,rfl,⟨by rw[a,List.length_set];exact ho,by rw[a,List.length_set];exact hm,hL,⟨by omega⟩,by omega⟩,?_,rfl⟩;rw[a,show D=i' by omega,Ei (by omega),D2,List.length_take,Nat.min_eq_left (by omega),hinv,PB,ew];rw[Nat.div_div_eq_div_mul,Nat.mul_comm (2^n),<-Nat.div_div_eq_div_mul,No (by omega:i'<=l.length),DZ A,List.drop_eq_nil_of_le (by omega:l.length<=i'+1)];rw[<-Zj (y:=0) (r:=0) (by omega) hn];simp[AE]
 have ag:=AY V;refine AH ?_;intro a6 aw;conv=>cbv
 obtain⟨a8,B⟩:=AK (l:=g) (i:=a6) (by omega);refine⟨a8,fun _=>B,?_⟩;try conv=>cbv
 intro n32 W;have aa:=W.eq;have f32:=W.lt;conv=>cbv
 intro n35 aF;conv=>cbv
 refine AI ?_;obtain⟨d,G⟩:=AK (l:=l) (i:=(i'+1)) (by omega);refine⟨d,fun _=>⟨by omega,by rw[show (n35).toNat=(i'+1) by omega];exact G⟩,?_⟩;try conv=>cbv
 intro n37 X;have aD:=X.eq;have f37:=X.lt;conv=>cbv
 intro n38 Y;conv=>cbv
 have Y:=wrap_u64 Y;intro n40 aG;conv=>cbv
 refine AI ?_;intro n41 K;conv=>cbv
 refine AH ?_;obtain⟨aM,a5,K⟩:∃q:Nat,q=d.toNat*2^(32-n)%18446744073709551616/\n41=q:=⟨_,rfl,SV K (by omega) (by omega)⟩
 intro n42 M;conv=>cbv
 have M:=wrap_u32 M;intro n43 Z;conv=>cbv
 have bo:0<=n43/\n43<4294967296:=by rw[wrap_u32 Z];omega
 have ex:a8=F:=by rw[a,show a6=D by omega,List.getElem?_set_self (by omega)] at B;exact (Option.some.inj B).symm
 refine AH ?_;intro a7 ax;conv=>cbv
 obtain⟨R,x⟩:=B7 (n:=n43) (by omega);have al:=x.eq;have ao:=x.lt;refine⟨R,fun _=>⟨by show _<List.length (α:=UInt32) g;(first | omega | (simp;omega)),B5 x⟩,?_⟩;intro (P:List UInt32) (j:P=List.set (α:=UInt32) g a7 R);have au:P.length=g.length:=by rw[j,List.length_set]
 conv=>cbv
 refine g2 rfl ?_;intro n45 ab;conv=>cbv
 refine AI ?_;refine⟨l.length-(i'+1),?_,?_⟩
 ·omega
 rw[C]
 have ew:(R.toNat)=h.toNat/2^n+d.toNat*2^(32-n)%4294967296:=by
  have hq:2^n*2^(32-n)=4294967296:=by rw[<-Nat.pow_add,show n+(32-n)=32 by omega]
  have ad:h.toNat/2^n<2^(32-n):=Nat.div_lt_of_lt_mul (by rw[hq];omega);have a1:d.toNat*2^(32-n)%4294967296=2^(32-n)*(d.toNat%2^n):=by rw[<-hq,Nat.mul_comm d.toNat,Nat.mul_comm (2^n),Nat.mul_mod_mul_left]
  have h5:n42=((d.toNat*2^(32-n)%4294967296:Nat):Int):=by rw[M,K,a5];generalize d.toNat*2^(32-n)=Q;omega
  have h6:=Od Z (p:=h.toNat/2^n) (q:=d.toNat*2^(32-n)%4294967296) (by rw[aa,ex,<-f];omega) h5 (by rw[<-f];omega) (by omega);rw[a1,Kg ad,<-a1,<-f] at h6;rw[<-f]
  generalize d.toNat*2^(32-n)%4294967296=Q at*
  omega
 refine⟨P,m,i'+1,L,n45,rfl,rfl,⟨by rw[j,a,List.length_set,List.length_set];exact ho,by rw[j,a,List.length_set,List.length_set];exact hm,hL,⟨by omega⟩,by omega⟩,?_,rfl⟩;rw[j,show a7=i' by omega,Ei (by rw[a,List.length_set];omega),a,show D=i' by omega,HV (Nat.le_refl _),D2,List.length_take,Nat.min_eq_left (by omega),hinv,PB,ew];rw[Nat.div_div_eq_div_mul,Nat.mul_comm (2^n),<-Nat.div_div_eq_div_mul,No (by omega:i'<=l.length),DZ A,DZ (show l[i'+1]? =some d from G)];rw[Zj (by omega) hn]
theorem Zg (hs:AO s n) (hn:n<=31) (aB:z.length=l.length+1) (aa:AE z=AE l*2^n) (aC:zn=z.length) (sl:l.length<=17592186044416):CF 399 [.one (.sl .u32 l),.one (.int .i64 s)] (.one (.own .u32 z zn)):=by
 have es:=hs.eq;refine AJ Tryz.func399 fun E hE=>?_
 conv=>cbv
 rintro aE ⟨ar,f10⟩;conv=>cbv
 intro aF aw;conv=>cbv
 refine AI ?_;refine⟨fun _=>⟨by omega,by omega,by show _*4<=140737488355328;omega⟩,?_⟩;intro G (H:List UInt32) B;have aq:=B.1;have d:H=List.replicate G (0:el .u32):=B.2;have ai:H.length=G:=by rw[d,List.length_replicate]
 conv=>cbv
 intro ad C;have au:=C.eq;have f14:=C.le;conv=>cbv
 refine .inr ?_
 obtain⟨J0,D⟩:∃J:List AV->List AL->Nat->Prop,J=fun vs bl k=>∃(o:List UInt32) (c:UInt32) (m i':Nat) (L i:Int),vs=[.one (.sl .u32 l),.one (.int .i64 s),.one (.AN .u32 12 0 0 m),.one (.sl .u32 l),.one (.int .i64 L),.one (.int .i64 i)]/\
  bl=[.arr 0 .u32 o]/\(o.length=l.length+1/\m=o.length/\CT L l.length/\AO i i'/\i'<=l.length)/\(o[i']? =some c/\c.toNat<2^n)/\
  AE (o.take i')+2^(32*i')*c.toNat=AE (l.take i')*2^n/\k=l.length-i':=⟨_,rfl⟩
 refine⟨[],[0,1,5,13,14,15],[12],J0,⟨l.length-0,by rw[D];exact⟨H,0,G,0,ad,0,rfl,rfl,⟨by rw[d,List.length_replicate];omega,by rw[d,List.length_replicate],C,Al 0,by omega⟩,⟨by rw[d,List.getElem?_replicate,if_pos (by omega)],Nat.two_pow_pos n⟩,by simp[AE],rfl⟩⟩,?_⟩;intro vs bl aD hj;rw[D] at hj;obtain⟨o,c,m,i',L,i,rfl,rfl,⟨ho,hm,hL,hi,az⟩,⟨hc,a7⟩,hinv,aA⟩:=hj;conv=>cbv
 have eL:=hL.eq;have ei:=hi.eq;intro n16 M;conv=>cbv
 cases n16 <;> conv=>cbv
 ·have ab:=AW M;have hk:i'=l.length:=by omega
  have X:AE o=AE l*2^n:=by rw[hk,List.take_length,<-CK (l:=o) (by rw[<-hk];exact hc),List.take_of_length_le (by omega)] at hinv;exact hinv
  exact AD ⟨⟨rfl,.inr (.inl ⟨_,_,by decide,rfl,rfl,hm,rfl,C5 (L2 (by omega) (by rw[aa,X])) (by omega)⟩),trivial⟩,trivial⟩
 have ab:=AY M;refine .inr ?_;obtain⟨a,A⟩:=AK (l:=l) (i:=i') (by omega);refine⟨a,fun _=>⟨by omega,by rw[show (i).toNat=i' by omega];exact A⟩,?_⟩;try conv=>cbv
 intro n19 O;have av:=O.eq;have f19:=O.lt;conv=>cbv
 intro n21 Q;conv=>cbv
 have Q:=wrap_u64 Q;intro n23 R;conv=>cbv
 refine AH ?_;have a5:a.toNat*2^n<9223372036854775808:=Nat.mul_lt_mul_of_lt_of_le (by omega:a.toNat<4294967296) (Nat.pow_le_pow_right (by decide) hn:2^n<=2^31) (by decide);obtain⟨K,f,R⟩:∃q:Nat,q=a.toNat*2^n/\n23=q:=⟨_,rfl,(SV (p:=a.toNat) (e:=n) R (by omega) (by omega)).trans (by congr 1;exact Nat.mod_eq_of_lt (by omega))⟩
 rw[<-f] at a5;refine AH ?_;intro Z al;conv=>cbv
 obtain⟨a2,t⟩:=AK (l:=o) (i:=Z) (by omega);refine⟨a2,fun _=>t,?_⟩;try conv=>cbv
 intro n27 S;have a6:=S.eq;have f27:=S.lt;conv=>cbv
 intro n29 T;conv=>cbv
 have T:=wrap_u32 T;intro n30 U;conv=>cbv
 have bo:0<=n30/\n30<4294967296:=by rw[wrap_u32 U];omega
 refine AH ?_;intro a1 an;conv=>cbv
 obtain⟨x,j⟩:=B7 (n:=n30) (by omega);have ae:=j.eq;have ag:=j.lt;refine⟨x,fun _=>⟨by show _<List.length (α:=UInt32) o;(first | omega | (simp;omega)),B5 j⟩,?_⟩;intro (u:List UInt32) (y:u=List.set (α:=UInt32) o a1 x);have aj:u.length=o.length:=by rw[y,List.length_set]
 conv=>cbv
 intro n34 ax;conv=>cbv
 refine AI ?_;intro n36 V;conv=>cbv
 refine AH ?_;have V:=D8 (p:=4294967296) V rfl;intro n37 W;conv=>cbv
 have W:=wrap_u32 W;refine AH ?_;intro F ao;conv=>cbv
 obtain⟨g,r⟩:=B7 (n:=n37) (by omega);have af:=r.eq;have ah:=r.lt;refine⟨g,fun _=>⟨by show _<List.length (α:=UInt32) u;(first | omega | (simp;omega)),B5 r⟩,?_⟩;intro (I:List UInt32) (h:I=List.set (α:=UInt32) u F g);have ak:I.length=u.length:=by rw[h,List.length_set]
 conv=>cbv
 intro n39 ay;conv=>cbv
 refine AI ?_;refine⟨l.length-(i'+1),?_,?_⟩
 ·omega
 rw[D];have hq:2^n*2^(32-n)=4294967296:=by rw[<-Nat.pow_add,show n+(32-n)=32 by omega]
 have ec:a2=c:=by rw[show Z=i' by omega,hc] at t;exact (Option.some.inj t).symm
 have Y:K%4294967296=2^n*(a.toNat%2^(32-n)):=by rw[f,Nat.mul_comm a.toNat,<-hq,Nat.mul_mod_mul_left]
 have h6:=Od U (p:=c.toNat) (q:=K%4294967296) (by rw[a6,ec]) (by omega) (by have:=c.toNat_lt;omega) (by omega);rw[Y,Kg a7,<-Y] at h6
 have a8:g.toNat<2^n:=by
  have:K/4294967296<2^n:=Nat.div_lt_of_lt_mul (by rw[f];exact (Nat.mul_lt_mul_right (Nat.two_pow_pos n)).2 (by omega));omega
 refine⟨I,g,m,i'+1,L,n39,rfl,rfl,⟨by omega,by omega,hL,⟨by omega⟩,by omega⟩,⟨by rw[h,show F=i'+1 by omega,List.getElem?_set_self (by omega)],a8⟩,?_,rfl⟩;rw[h,show F=i'+1 by omega,HV (Nat.le_refl _),y,show a1=i' by omega,Ei (by omega),D2,List.length_take,Nat.min_eq_left (by omega),CK A,Ds,Nat.add_mul,<-hinv];have e1:x.toNat+4294967296*g.toNat=c.toNat+a.toNat*2^n:=by rw[<-f];omega
 have e2:2^(32*i')*(x.toNat+4294967296*g.toNat)=2^(32*i')*(c.toNat+a.toNat*2^n):=by rw[e1]
 generalize 2^(32*i')=P at*
 generalize 2^n=N at*
 grind
theorem gL {z1 z2:List UInt32} {d:Int} {b:Nat} (hd:AO d b) (hb:0<b) (av:b<4294967296) (aa:z1=AP (AE l/b)) (ab:z2=AP (AE l%b)) (sl:l.length<=17592186044416):CF 397 [.one (.sl .u32 l),.one (.int .u32 d)] (.AG [(false,[.sl .u32 z1]),(false,[.sl .u32 z2])]):=by
 have ed:=hd.eq;refine AJ Tryz.func397 fun E hE=>?_
 conv=>cbv
 rintro aA ⟨an,f10⟩;conv=>cbv
 refine⟨fun _=>⟨by omega,by omega,by show _*4<=140737488355328;omega⟩,?_⟩;intro P (S:List UInt32) H;have al:=H.1;have g:S=List.replicate P (0:el .u32):=H.2;have ai:S.length=P:=by rw[g,List.length_replicate]
 conv=>cbv
 rintro aB ⟨ao,f13⟩;conv=>cbv
 intro af ar;conv=>cbv
 refine AI ?_;refine .inr ?_
 obtain⟨J0,M⟩:∃J:List AV->List AL->Nat->Prop,J=fun vs bl k=>∃(o:List UInt32) (m f A:Nat) (r j:Int),vs=[.one (.sl .u32 l),.one (.int .u32 d),.one (.AN .u32 11 0 0 m),.one (.int .u64 r),.one (.int .i64 j)]/\
  bl=[.arr 0 .u32 o]/\(o.length=l.length/\m=o.length/\AO (j+1) A/\A<=l.length/\AO r f/\f<b)/\
  AE (l.drop A)=AE (o.drop A)*b+f/\k=A:=⟨_,rfl⟩
 refine⟨[],[0,1,6,7,8],[11],J0,⟨l.length,by rw[M];exact⟨S,P,0,l.length,0,af,rfl,rfl,⟨by rw[g,List.length_replicate];omega,by rw[g,List.length_replicate],⟨by omega⟩,by omega,Al 0,hb⟩,by rw[List.drop_length,List.drop_eq_nil_of_le (by rw[g,List.length_replicate];omega)];simp[AE],rfl⟩⟩,?_⟩;intro vs bl az Z;rw[M] at Z;obtain⟨o,m,f,A,r,j,rfl,rfl,⟨ho,hm,Z,aw,hr,N⟩,hinv,ax⟩:=Z;conv=>cbv
 have ej:=Z.eq;have er:=hr.eq;intro n16 U;conv=>cbv
 cases n16 <;> conv=>cbv
 ·have ad:=EI U;have h:m<=(o).length:=by omega
  obtain⟨ae,D⟩:=xN ((B4 ((o).take m)).length);obtain⟨a7,O⟩:=ER h D;refine .inr (.inr (.inl ⟨[],.one (.AN .u32 0 0 0 ae),.arr 0 .u32 o,fun _=>⟨by first | decide | simp[Bt,B3],trivial⟩,fun _=>⟨Dm hE (Kz h (by omega) D),rfl,rfl⟩,?_⟩));try conv=>cbv
  obtain⟨aC,F⟩:=xU (AP f);refine AB hE (KJ hr (by omega) F) ?_;conv=>cbv
  have hk:A=0:=by omega
  rw[hk,List.drop_zero,List.drop_zero] at hinv;have hq:AE o=AE l/b:=by rw[hinv,Nat.add_comm,Nat.add_mul_div_right _ _ hb,Nat.div_eq_of_lt N,Nat.zero_add]
  have a8:f=AE l%b:=by rw[hinv,Nat.add_comm,Nat.add_mul_mod_self_right,Nat.mod_eq_of_lt N]
  exact AD ⟨⟨rfl,.inl ⟨_,rfl,by omega,congrArg _ (by rw[List.drop_zero,O,aa,hm,List.take_length,hq])⟩,trivial⟩,⟨rfl,congrArg _ (by rw[ab,F,a8]),trivial⟩,trivial⟩
 have ad:=EJ U;refine .inr ?_;intro n20 I;conv=>cbv
 refine AH ?_;have I:=JT (p:=4294967296) I rfl;have I:n20=((f*4294967296:Nat):Int):=by clear hinv;omega
 obtain⟨i',rfl⟩:∃i',A=i'+1:=⟨A-1,by omega⟩
 obtain⟨a,G⟩:=AK (l:=l) (i:=i') (by omega);refine⟨a,fun _=>⟨by omega,by rw[show (j).toNat=i' by omega];exact G⟩,?_⟩;try conv=>cbv
 intro n24 V;have aq:=V.eq;have f24:=V.lt;conv=>cbv
 intro n25 W;conv=>cbv
 have W:=wrap_u64 W;intro n26 y;conv=>cbv
 have y:=JK (p:=f) (q:=a.toNat) y (by omega) (by omega) (by omega) (by omega);intro n31 X;conv=>cbv
 have X:=wrap_u64 X;intro n32 K;conv=>cbv
 refine AH ?_;have K:=wrap_u64 K;intro n33 L;conv=>cbv
 have L:=wrap_u32 L;have a1:n31=(b:Int):=by omega
 have a2:n32=(((a.toNat+4294967296*f)/b:Nat):Int):=by rw[K,y,a1,<-Int.natCast_ediv];have:=Nat.div_le_self (a.toNat+4294967296*f) b;generalize (a.toNat+4294967296*f)/b=Q at *;clear hinv;omega
 refine AH ?_;intro B ak;conv=>cbv
 obtain⟨u,t⟩:=B7 (n:=n33) (by omega);have ag:=t.eq;have ah:=t.lt;refine⟨u,fun _=>⟨by show _<List.length (α:=UInt32) o;(first | omega | (simp;omega)),B5 t⟩,?_⟩;intro (T:List UInt32) (C:T=List.set (α:=UInt32) o B u);have aj:T.length=o.length:=by rw[C,List.length_set]
 conv=>cbv
 intro n37 Y;conv=>cbv
 have Y:=wrap_u64 Y;intro n38 a6;conv=>cbv
 refine AH ?_;intro n18 au;conv=>cbv
 refine AI ?_;refine⟨i',?_,?_⟩
 ·omega
 rw[M];have a5:n37=(b:Int):=by omega
 have h5:=Nat.div_add_mod (a.toNat+4294967296*f) b;refine⟨T,m,(a.toNat+4294967296*f)%b,i',n38,n18,rfl,rfl,⟨by omega,by omega,⟨by omega⟩,by omega,⟨by rw[a6,y,a5];simp⟩,Nat.mod_lt _ hb⟩,?_,rfl⟩
 have ay:(a.toNat+4294967296*f)/b<4294967296:=Nat.div_lt_of_lt_mul (by
  have:4294967296*(f+1)<=4294967296*b:=Nat.mul_le_mul_left _ N;rw[Nat.mul_comm b];omega)
 have ew:u.toNat=(a.toNat+4294967296*f)/b:=by
  rw[a2] at L
  generalize (a.toNat+4294967296*f)/b=Q at*
  clear hinv
  omega
 rw[DZ G,hinv,C,DZ (l:=o.set B u) (i:=i') (x:=u) (by rw[show B=i' by omega,List.getElem?_set_self (by omega)]),show B=i' by omega,List.drop_set_of_lt (by omega),ew]
 generalize (a.toNat+4294967296*f)/b=Q at*
 generalize (a.toNat+4294967296*f)%b=R at*
 grind
end Go.Abs
namespace Go.Abs
open Go.RowKit
variable {b:Bool} {c w:Int} {i len off:Nat} {l o v z:List UInt32}
theorem ZU (g:o.length=z.length) (d:o.take off=z.take off) (f:o.drop (off+len)=z.drop (off+len)) (hlen:off+len<=o.length) (h3:AE ((o.drop off).take len)=AE ((z.drop off).take len)):o=z:=by
 have a:(o.drop off).take len=(z.drop off).take len:=L2 (by simp;omega) h3;rw[<-List.take_append_drop off o,<-List.take_append_drop off z,d,<-List.take_append_drop len (o.drop off),<-List.take_append_drop len (z.drop off),a,List.drop_drop,List.drop_drop,f]
theorem N8:(l.drop off)[i]? =l[off+i]? :=by rw[List.getElem?_drop]
theorem O6 {x:UInt32} (h:l[i]? =some x):AE (l.take (i+1))=AE (l.take i)+2^(32*i)*x.toNat:=CK h
theorem Nq {x:UInt32} (h:o.drop i=l.drop i) (a:o[i]? =some x):l[i]? =some x:=by
 have:(o.drop i)[0]? =(l.drop i)[0]? :=by rw[h]
 rw[List.getElem?_drop,List.getElem?_drop] at this;simpa [a] using this.symm
theorem nf {x p n25 n32 n33 n30 n34 n38 n41 n43 n44:Int} (D:0<=x/\x<4294967296) (C:0<=p/\p<=18446744065119617025) (B:0<=c/\c<=4294967296) (g:n25=(p+c)%18446744073709551616)
  (j:n32=n25%4294967296) (k:n33=n32%18446744073709551616) (h:n30=x%18446744073709551616) (a:n34=(n30-n33)%18446744073709551616) (d:n38=n34%4294967296) (hw:n38=w)
  (m:n41=n25/4294967296) (f:n43=n34/9223372036854775808) (q:n44=(n41+n43)%18446744073709551616):(0<=n44/\n44<=4294967296)/\w+p+c=x+4294967296*n44:=by
 have t:n25=p+c:=by omega
 have u:0<=n32/\n32<4294967296:=by omega
 have a3:n33=n32:=by omega
 have a4:n30=x:=by omega
 have y:n25=n32+4294967296*n41:=by omega
 have A:0<=n41/\n41<=4294967295:=by omega
 clear g j m k h
 subst a3 a4
 by_cases r:n30<n33
 ·have b1:n34=n30-n33+18446744073709551616:=by omega
  have b2:n43=1:=by omega
  have b3:n38=n30-n33+4294967296:=by omega
  clear a d f
  omega
 have b1:n34=n30-n33:=by omega
 have b2:n43=0:=by omega
 have b3:n38=n30-n33:=by omega
 clear a d f
 omega
theorem jG {x n51 C1 a n61:Int} (m:0<=x/\x<4294967296) (k:0<=c/\c<=4294967296) (d:n51=x%18446744073709551616) (f:C1=(n51-c)%18446744073709551616) (g:a=C1%4294967296) (hw:a=w)
  (h:n61=C1/9223372036854775808) (hb:b=(n61==1)):w+c=x+4294967296*(b.toNat:Int):=by
 have a4:n51=x:=by omega
 subst a4
 clear d
 by_cases j:n51<c
 ·have b1:C1=n51-c+18446744073709551616:=by omega
  have b2:n61=1:=by omega
  have b3:a=n51-c+4294967296:=by omega
  rw[hb,b2]
  show w+c=n51+4294967296*1
  omega
 have b1:C1=n51-c:=by omega
 have b2:n61=0:=by omega
 have b3:a=n51-c:=by omega
 rw[hb,b2]
 show w+c=n51+4294967296*0
 omega
theorem oE {a S2 W T M:Nat} {c:Bool} (d:a+W=T+M*b.toNat) (f:S2+W=T+M*c.toNat) (l1:a<M) (l2:S2<M):a=S2/\b=c:=by
 cases b <;> cases c <;> simp at d f ⊢ <;> omega
theorem Ns (h:o.drop i=l.drop i):o.drop (i+1)=l.drop (i+1):=by
 rw[<-List.drop_drop,<-List.drop_drop,h]
theorem nh {d:Nat} {g:Int} (hlen:len=v.length+1) (aM:off+len<=l.length) (hg:AO g d) (hd:d<4294967296) (aV:l.length<=140737488355328) (aW:z.length=l.length) (ay:z.take off=l.take off) (az:z.drop (off+len)=l.drop (off+len)) (ak:AE ((z.drop off).take len)+AE v*d=AE ((l.drop off).take len)+2^(32*len)*b.toNat):GN Tryz.prog 400 (.AN .u32 0 0 off len) (.arr 0 .u32 l) [.one (.sl .u32 v),.one (.int .u64 g)] (.one (.bool b)) (.arr 0 .u32 z):=by
 have eg:=hg.eq;refine LS Tryz.func400 (by kernel_rfl) rfl fun E hE=>?_
 conv=>cbv
 intro aC O;have aN:=O.eq;have f14:=O.le;conv=>cbv
 refine .inr ?_
 obtain⟨J0,a6⟩:∃J:List AV->List AL->Nat->Prop,J=fun vs bl k=>∃(o:List UInt32) (C i':Nat) (c L i:Int),vs=[.one (.AN .u32 0 0 off len),.one (.sl .u32 v),.one (.int .u64 g),.one (.int .u64 c),.one (.sl .u32 v),.one (.int .i64 L),.one (.int .i64 i)]/\
  bl=[.arr 0 .u32 o]/\(o.length=l.length/\CT L v.length/\AO i i'/\i'<=v.length/\AO c C/\C<=4294967296)/\(o.take off=l.take off/\o.drop (off+i')=l.drop (off+i'))/\
  AE ((o.drop off).take i')+AE (v.take i')*d=AE ((l.drop off).take i')+2^(32*i')*C/\k=v.length-i':=⟨_,rfl⟩
 refine⟨[],[0,1,2,7,13,14,15],[0],J0,⟨v.length-0,by rw[a6];exact⟨l,0,0,0,aC,0,rfl,rfl,⟨rfl,O,Al 0,by omega,Al 0,by omega⟩,⟨rfl,rfl⟩,by simp[AE],rfl⟩⟩,?_⟩;intro vs bl aX hj;rw[a6] at hj;obtain⟨o,C,i',c,L,i,rfl,rfl,⟨ho,hL,hi,aT,hc,aS⟩,⟨ht,F⟩,hinv,aU⟩:=hj;conv=>cbv
 have eL:=hL.eq;have ei:=hi.eq;have ec:=hc.eq;intro n16 ad;conv=>cbv
 cases n16 <;> conv=>cbv
 ·have aB:=AW ad;rintro aY ⟨aP,f48⟩;conv=>cbv
  refine AH ?_;intro ao aK;conv=>cbv
  obtain⟨H,t⟩:=AK (l:=o) (i:=ao) (by omega);refine⟨H,fun _=>t,?_⟩;try conv=>cbv
  intro aZ ah;have av:=ah.eq;have f50:=ah.lt;conv=>cbv
  intro n51 Z;conv=>cbv
  have Z:=wrap_u64 Z;intro C1 a1;conv=>cbv
  have a1:=wrap_u64 a1;rintro b0 ⟨aQ,f56⟩;conv=>cbv
  intro aD a2;conv=>cbv
  have a2:=wrap_u32 a2;refine AH ?_;intro aq aL;conv=>cbv
  obtain⟨B,q⟩:=B7 (n:=aD) (by omega);have ab:=q.eq;have aF:=q.lt;refine⟨B,fun _=>⟨by show _<List.length (α:=UInt32) o;(first | omega | (simp;omega)),B5 q⟩,?_⟩;intro (u:List UInt32) (f:u=List.set (α:=UInt32) o aq B);have aH:u.length=o.length:=by rw[f,List.length_set]
  conv=>cbv
  intro n61 a5;conv=>cbv
  refine AH ?_;have a5:=D8 (p:=9223372036854775808) a5 rfl;intro n62 aw;conv=>cbv
  have hk:i'=v.length:=by omega
  subst hk;have M:aq=off+v.length:=by omega
  have N:ao=off+v.length:=by omega
  rw[N] at t;have hx:=Nq F t;have ax:=jG (n51:=n51) (C1:=C1) (x:=H.toNat) (c:=C) (w:=B.toNat) (by omega) (by omega) (by rw[<-av];exact Z) (by rw[<-ec];exact a1) a2 ab a5 aw
  have ai:AE ((u.drop off).take len)+AE v*d=AE ((l.drop off).take len)+2^(32*len)*n62.toNat:=by
   rw[hlen,O6 (l:=l.drop off) (by rw[N8];exact hx),f,M,Nr,Ei (by rw[List.length_drop];omega),D2,List.length_take,List.length_drop,Nat.min_eq_left (by omega),Ds];rw[List.take_length] at hinv;have I:B.toNat+C=H.toNat+4294967296*n62.toNat:=by omega
   generalize 2^(32*v.length)=P at*
   have e:P*(B.toNat+C)=P*(H.toNat+4294967296*n62.toNat):=by rw[I]
   clear ax I ak
   grind
  have aj:∀y:List UInt32,AE ((y.drop off).take len)<2^(32*len):=fun y=>Nat.lt_of_lt_of_le (CR _) (Nat.pow_le_pow_right (by decide) (by rw[List.length_take];omega))
  obtain⟨q1,q2⟩:=oE ai ak (aj _) (aj _);have aA:u=z:=ZU (off:=off) (len:=len) (by omega) (by rw[ay,f,M,HV,ht]) (by rw[az,f,M,List.drop_set_of_lt (by omega),hlen,<-Nat.add_assoc];exact Ns F) (by omega) q1;refine⟨fun _=>⟨⟨⟨rfl,congrArg _ (q2.symm),trivial⟩,trivial⟩,rfl,by simp⟩,fun _=>by show some (AL.arr 0 .u32 u)=_;rw[aA]⟩
 have aB:=AY ad;refine .inr ?_;obtain⟨h,K⟩:=AK (l:=v) (i:=i') (by omega);refine⟨h,fun _=>⟨by omega,by rw[show (i).toNat=i' by omega];exact K⟩,?_⟩;try conv=>cbv
 intro n19 ae;have aO:=ae.eq;have f19:=ae.lt;conv=>cbv
 intro n21 af;conv=>cbv
 have af:=wrap_u64 af;intro n23 j;conv=>cbv
 have j:=wrap_u64 j;obtain⟨ar,ep,j⟩:∃p:Nat,p=h.toNat*d/\n23=p:=⟨_,rfl,by rw[j,(by omega:n21=(h.toNat:Int)),eg,<-Int.natCast_mul];have:=Nat.mul_le_mul (by omega:h.toNat<=4294967295) (by omega:d<=4294967295);clear hinv;omega⟩
 have bp:ar<=4294967295*4294967295:=by rw[ep];exact Nat.mul_le_mul (by omega) (by omega)
 intro n25 Q;conv=>cbv
 have Q:=wrap_u64 Q;refine AH ?_;intro al aI;conv=>cbv
 obtain⟨G,r⟩:=AK (l:=o) (i:=al) (by omega);refine⟨G,fun _=>r,?_⟩;try conv=>cbv
 intro n29 ag;have au:=ag.eq;have f29:=ag.lt;conv=>cbv
 intro n30 R;conv=>cbv
 have R:=wrap_u64 R;intro n32 S;conv=>cbv
 have S:=wrap_u32 S;intro n33 T;conv=>cbv
 have T:=wrap_u64 T;intro n34 U;conv=>cbv
 have U:=wrap_u64 U;intro n38 V;conv=>cbv
 have V:=wrap_u32 V;refine AH ?_;intro an aJ;conv=>cbv
 obtain⟨A,m⟩:=B7 (n:=n38) (by omega);have aa:=m.eq;have aE:=m.lt;refine⟨A,fun _=>⟨by show _<List.length (α:=UInt32) o;(first | omega | (simp;omega)),B5 m⟩,?_⟩;intro (a8:List UInt32) (a:a8=List.set (α:=UInt32) o an A);have aG:a8.length=o.length:=by rw[a,List.length_set]
 conv=>cbv
 intro n41 W;conv=>cbv
 refine AH ?_;have W:=D8 (p:=4294967296) W rfl;intro n43 X;conv=>cbv
 refine AH ?_;have X:=D8 (p:=9223372036854775808) X rfl;intro n44 Y;conv=>cbv
 have Y:=wrap_u64 Y;intro n45 aR;conv=>cbv
 refine AI ?_;refine⟨v.length-(i'+1),?_,?_⟩
 ·omega
 rw[a6];have M:an=off+i':=by omega
 have N:al=off+i':=by omega
 rw[N] at r;have hx:=Nq F r;have a7:=nf (x:=G.toNat) (p:=ar) (c:=C) (w:=A.toNat) (by omega) (by omega) (by omega) (by rw[Q,j,ec]) S T (by rw[R,au]) U V aa W X Y;have hw:A.toNat+h.toNat*d+C=G.toNat+4294967296*n44.toNat:=by rw[<-ep];obtain⟨h1,h2⟩:=a7;clear hinv;omega
 refine⟨a8,n44.toNat,i'+1,n44,L,n45,rfl,rfl,⟨by omega,hL,⟨by omega⟩,by omega,⟨by have:=a7.1;omega⟩,by have:=a7.1;omega⟩,⟨by rw[a,M,HV];exact ht,by rw[a,M,List.drop_set_of_lt (by omega)];exact Ns F⟩,?_,rfl⟩;have hs:=nb (o:=o.drop off) (w:=A) (i:=i') (xi:=G.toNat) (yi:=h.toNat) (D:=d) (FW:=C) (FX:=n44.toNat) (by rw[List.length_drop];omega) hinv hw;rw[a,M,Nr,CK K,O6 (l:=l.drop off) (by rw[N8];exact hx)];exact hs
theorem la (hlen:len=v.length+1) (au:off+len<=l.length) (aD:l.length<=140737488355328) (aE:z.length=l.length) (aa:z.take off=l.take off) (ab:z.drop (off+len)=l.drop (off+len)) (F:AE ((z.drop off).take len)=(AE ((l.drop off).take len)+AE v)%2^(32*len)):GN Tryz.prog 401 (.AN .u32 0 0 off len) (.arr 0 .u32 l) [.one (.sl .u32 v)] (.AG []) (.arr 0 .u32 z):=by
 refine LS Tryz.func401 (by kernel_rfl) rfl fun E hE=>?_
 conv=>cbv
 intro n8 h8;have e8:=h8.eq;have f8:=h8.le;conv=>cbv
 refine .inr ?_
 obtain⟨J0,D⟩:∃J:List AV->List AL->Nat->Prop,J=fun vs bl k=>∃(o:List UInt32) (h i':Nat) (c L i:Int),vs=[.one (.AN .u32 0 0 off len),.one (.sl .u32 v),.one (.int .u64 c),.one (.sl .u32 v),.one (.int .i64 L),.one (.int .i64 i)]/\
  bl=[.arr 0 .u32 o]/\(o.length=l.length/\CT L v.length/\AO i i'/\i'<=v.length/\AO c h/\h<=1)/\(o.take off=l.take off/\o.drop (off+i')=l.drop (off+i'))/\
  AE ((o.drop off).take i')+2^(32*i')*h=AE ((l.drop off).take i')+AE (v.take i')/\k=v.length-i':=⟨_,rfl⟩
 refine⟨[],[0,1,4,7,8,9],[0],J0,⟨v.length-0,by rw[D];exact⟨l,0,0,0,n8,0,rfl,rfl,⟨rfl,h8,Al 0,by omega,Al 0,by omega⟩,⟨rfl,rfl⟩,by simp[AE],rfl⟩⟩,?_⟩;intro vs bl aF hj;rw[D] at hj;obtain⟨o,h,i',c,L,i,rfl,rfl,⟨ho,hL,hi,aB,hc,aA⟩,⟨ht,t⟩,hinv,aC⟩:=hj;conv=>cbv
 have eL:=hL.eq;have ei:=hi.eq;have ec:=hc.eq;intro af K;conv=>cbv
 cases af <;> conv=>cbv
 ·have ae:=AW K;rintro n34 ⟨ax,f34⟩;conv=>cbv
  refine AH ?_;intro a7 aq;conv=>cbv
  obtain⟨g,r⟩:=AK (l:=o) (i:=a7) (by omega);refine⟨g,fun _=>r,?_⟩;try conv=>cbv
  intro n36 W;have ay:=W.eq;have f36:=W.lt;conv=>cbv
  intro n38 X;conv=>cbv
  have X:=wrap_u32 X;intro n39 Y;conv=>cbv
  have Y:=wrap_u32 Y;refine AH ?_;intro a8 ar;conv=>cbv
  obtain⟨x,m⟩:=B7 (n:=n39) (by omega);have ah:=m.eq;have aj:=m.lt;refine⟨x,fun _=>⟨by show _<List.length (α:=UInt32) o;(first | omega | (simp;omega)),B5 m⟩,?_⟩;intro (a:List UInt32) (f:a=List.set (α:=UInt32) o a8 x);have al:a.length=o.length:=by rw[f,List.length_set]
  conv=>cbv
  have hk:i'=v.length:=by omega
  subst hk;have B:a8=off+v.length:=by omega
  have C:a7=off+v.length:=by omega
  rw[C] at r;have hx:=Nq t r;have a2:x.toNat=(g.toNat+h)%4294967296:=by clear hinv F;omega
  have a1:∀y:List UInt32,AE ((y.drop off).take len)<2^(32*len):=fun y=>Nat.lt_of_lt_of_le (CR _) (Nat.pow_le_pow_right (by decide) (by rw[List.length_take];omega))
  have Z:AE ((a.drop off).take len)=(AE ((l.drop off).take len)+AE v)%2^(32*len):=by
   have h0:=a1 a
   have e1:AE ((a.drop off).take len)+2^(32*len)*((g.toNat+h)/4294967296)=AE ((l.drop off).take len)+AE v:=by
    rw[hlen,O6 (l:=l.drop off) (by rw[N8];exact hx),f,B,Nr,Ei (by rw[List.length_drop];omega),D2,List.length_take,List.length_drop,Nat.min_eq_left (by omega),Ds];rw[List.take_length] at hinv;have hd:=Nat.div_add_mod (g.toNat+h) 4294967296;rw[<-a2] at hd
    generalize (g.toNat+h)/4294967296=Q at*
    generalize 2^(32*v.length)=P at*
    have e:P*(4294967296*Q+x.toNat)=P*(g.toNat+h):=by rw[hd]
    clear a2 F h0 a1
    grind
   rw[<-e1,Nat.add_mul_mod_self_left,Nat.mod_eq_of_lt h0]
  have ad:a=z:=ZU (off:=off) (len:=len) (by omega) (by rw[aa,f,B,HV,ht]) (by rw[ab,f,B,List.drop_set_of_lt (by omega),hlen,<-Nat.add_assoc];exact Ns t) (by omega) (by rw[Z,F]);refine⟨fun _=>⟨trivial,rfl,by simp⟩,fun _=>by show some (AL.arr 0 .u32 a)=_;rw[ad]⟩
 have ae:=AY K;refine .inr ?_;obtain⟨H,A⟩:=AK (l:=v) (i:=i') (by omega);refine⟨H,fun _=>⟨by omega,by rw[show (i).toNat=i' by omega];exact A⟩,?_⟩;try conv=>cbv
 intro aG M;have av:=M.eq;have f13:=M.lt;conv=>cbv
 refine AH ?_;intro a5 an;conv=>cbv
 obtain⟨I,q⟩:=AK (l:=o) (i:=a5) (by omega);refine⟨I,fun _=>q,?_⟩;try conv=>cbv
 intro n18 N;have aw:=N.eq;have f18:=N.lt;conv=>cbv
 intro n19 O;conv=>cbv
 have O:=wrap_u64 O;intro n21 R;conv=>cbv
 have R:=wrap_u64 R;intro n22 S;conv=>cbv
 have S:=wrap_u64 S;intro n23 T;conv=>cbv
 have T:=wrap_u64 T;intro n27 U;conv=>cbv
 have U:=wrap_u32 U;refine AH ?_;intro a6 ao;conv=>cbv
 obtain⟨u,j⟩:=B7 (n:=n27) (by omega);have ag:=j.eq;have ai:=j.lt;refine⟨u,fun _=>⟨by show _<List.length (α:=UInt32) o;(first | omega | (simp;omega)),B5 j⟩,?_⟩;intro (G:List UInt32) (d:G=List.set (α:=UInt32) o a6 u);have ak:G.length=o.length:=by rw[d,List.length_set]
 conv=>cbv
 intro n30 V;conv=>cbv
 refine AH ?_;have V:=D8 (p:=4294967296) V rfl;intro n31 az;conv=>cbv
 refine AI ?_;refine⟨v.length-(i'+1),?_,?_⟩
 ·omega
 rw[D];have B:a6=off+i':=by omega
 have C:a5=off+i':=by omega
 rw[C] at q;have hx:=Nq t q;have hw:u.toNat+4294967296*n30.toNat=I.toNat+H.toNat+h:=by clear hinv;omega
 refine⟨G,n30.toNat,i'+1,n30,L,n31,rfl,rfl,⟨by omega,hL,⟨by omega⟩,by omega,⟨by omega⟩,by omega⟩,⟨by rw[d,B,HV];exact ht,by rw[d,B,List.drop_set_of_lt (by omega)];exact Ns t⟩,?_,rfl⟩;have hs:=eF (o:=o.drop off) (w:=u) (i:=i') (xi:=I.toNat) (yi:=H.toNat) (NX:=h) (NY:=n30.toNat) (by rw[List.length_drop];omega) hinv hw;rw[d,B,Nr,CK A,O6 (l:=l.drop off) (by rw[N8];exact hx)];exact hs
end Go.Abs
namespace Go.Abs
open Go.RowKit Go.Shelf Go.Proofs
attribute [local go_sem] Oper.semAt_some
def upto {α:Type} (f:Nat->α) (k:Nat):List α:=(List.range k).map f
theorem aS {α:Type} (f:Nat->α) (k:Nat):upto f (k+1)=upto f k++[f k]:=by simp[upto,List.range_succ]
theorem oJ {α:Type} (f:Nat->α) (k:Nat):(upto f k).length=k:=by simp[upto]
def bk (l:List UInt32) (k:Nat):Int×UInt32:=((l.length:Int)-1-k,l[l.length-1-k]?.getD 0)
structure GP (n b:Nat) (A B:World):Prop where
 below:Below n A B
 block:B.heap[b]? =A.heap[b]?
theorem GP.refl (n b:Nat) (A:World):GP n b A A:=⟨Below.refl _ _,rfl⟩
theorem GP.trans {n b:Nat} {A B C:World} (h:GP n b A B) (k:GP n b B C):GP n b A C:=⟨h.1.trans k.1,k.2.trans h.2⟩
theorem eX (F:Fence) (n:Nat) (h7:F.fn 410) (hro:F.round=none) (hn:1<=n) (l Bs n₀ b off cap:Nat) (zs:List UInt32) (hreach:zs.length<=140737488351232) (hb:b<n₀) (J Jx:List (Int×UInt32)->World->Prop)
  (hY:∀pre x W,J pre W->pre.length<zs.length->YieldAt F (n-1) Tryz.prog l #[.int .i64 x.1,.int .u32 (x.2.toNat:Int)] W fun e W'=>
   (e= .returned (.bool true)/\J (pre++[x]) W'/\GP n₀ Bs W W')\/(e= .returned (.bool false)/\Jx (pre++[x]) W'))
  (W:World) (hBs:W.cell? ⟨Bs,0,none⟩=some (.slice (some ⟨b,off,none⟩) zs.length cap)) (hc:∀j,j<zs.length->W.cell? ⟨b,off+j,none⟩=some (.int .u32 ((zs[j]?.getD 0).toNat:Int))) (h0:J [] W):
  CallsIn F n Tryz.prog 410 #[.func (.yield l) #[] #[],.pointer (some ⟨Bs,0,none⟩)] W fun e W'=>(∃v,e= .returned v)/\
   ((∃ys,ys=upto (bk zs) zs.length/\J ys W')\/(∃pre,(∃k,k<=zs.length/\pre=upto (bk zs) k)/\Jx pre W')):=by
 refine callsIn_of_wp Tryz.func410 rfl h7 ?_ hro;simp only[Tryz.ntmps410,List.size_toArray,List.length_cons,List.length_nil,Nat.reduceAdd,Nat.reduceSub,Array.replicate_succ,Array.replicate_zero,List.push_toArray,List.append_toArray,List.nil_append,List.cons_append]
 gi_wp2
 gi_loopw [3] (fun i wr=>∃k:Nat,k<=zs.length/\i= .int .i64 ((zs.length:Int)-1-k)/\J (upto (bk zs) k) wr/\GP n₀ Bs W wr)
  (fun i _=>(intOf i+1).toNat)
 case atStart=>exact⟨0,Nat.zero_le _,by simp,h0,GP.refl _ _ _⟩
 case round=>
  obtain⟨k,hk,rfl,hJs,hnx⟩:=hrel
  by_cases hlt:k<zs.length
  ·obtain⟨j,ej,hjl,ex⟩:∃j:Nat,(zs.length:Int)-1-k=(j:Int)/\j<zs.length/\bk zs k=((j:Int),zs[j]?.getD 0):=
    ⟨zs.length-1-k,by omega,by omega,by unfold bk;rw[show ((zs.length:Int)-1-k)=((zs.length-1-k:Nat):Int) by omega]⟩
   have hcx:wr.cell? ⟨b,off+j,none⟩=some (.int .u32 ((zs[j]?.getD 0).toNat:Int)):=(hnx.below.cell (p:=⟨b,off+j,none⟩) hb).trans (hc j hjl);have hbx:wr.cell? ⟨Bs,0,none⟩=some (.slice (some ⟨b,off,none⟩) zs.length cap):=(World.cell?_of_block (a:=⟨Bs,0,none⟩) hnx.block).trans hBs;obtain⟨fn,tmps,assign,body,hy,hR⟩:=hY _ (bk zs k) wr hJs (by rw[oJ];exact hlt);rw[ex] at hy hR;have eg:zs[j]?.getD 0=zs[j]:=by simp[hjl]
   rw[eg] at hy hcx
   dsimp only at hy
   rw[ej];have hmz:((j:Int):Int)-1+1=j:=by omega
   gi_wp2
   refine hR.mono ?_;rintro e W3 (⟨rfl,hJ3,hk3⟩ |⟨rfl,hJx3⟩)
   ·gi_wp2
    go_roundw
    case rel=>exact⟨k+1,by omega,by congr 1;omega,by rw[aS,ex];exact hJ3,hnx.trans hk3⟩
    case measure=>simp[intOf]
   gi_wp2
   refine bodyPost_ret (results_none rfl _ _ _) rfl ?_;exact⟨⟨_,rfl⟩,.inr ⟨_,⟨k+1,by omega,by rw[aS,ex]⟩,hJx3⟩⟩
  obtain rfl:k=zs.length:=by omega
  rw[show (zs.length:Int)-1-zs.length= -1 by omega]
  gi_wp2
  go_end0
  exact⟨⟨_,rfl⟩,.inl ⟨_,rfl,hJs⟩⟩
theorem eY (F:Fence) (n:Nat) (h7:F.fn 410) (hro:F.round=none) (l Bs:Nat) (base:Option Addr) (cap:Nat) (J:List (Int×UInt32)->World->Prop) (W:World) (hBs:W.cell? ⟨Bs,0,none⟩=some (.slice base 0 cap)) (h0:J [] W):
  CallsIn F n Tryz.prog 410 #[.func (.yield l) #[] #[],.pointer (some ⟨Bs,0,none⟩)] W fun e W'=>(∃v,e= .returned v)/\J [] W':=by
 refine callsIn_of_wp Tryz.func410 rfl h7 ?_ hro;simp only[Tryz.ntmps410,List.size_toArray,List.length_cons,List.length_nil,Nat.reduceAdd,Nat.reduceSub,Array.replicate_succ,Array.replicate_zero,List.push_toArray,List.append_toArray,List.nil_append,List.cons_append]
 gi_wp2
 gi_loopw [3] (fun i wr=>i= .int .i64 (-1)/\J [] wr) (fun _ _=>0)
 case atStart=>exact⟨by simp,h0⟩
 case round=>
  obtain⟨rfl,hJs⟩:=hrel
  gi_wp2
  go_end0
  exact⟨⟨_,rfl⟩,hJs⟩
theorem eZ (F:Fence) (n:Nat) (h5:F.fn 403) (hro:F.round=none) (a:Option Addr) (len cap:Nat) (w:World):
  CallsIn F n Tryz.prog 403 #[.slice a len cap] w fun e w'=>e= .returned (.func (.func 410) #[] #[.pointer (some ⟨w.heap.size,0,none⟩)])/\w'=w.alloc (.cells #[.slice a len cap] 65):=by
 refine callsIn_of_wp Tryz.func403 rfl h5 ?_ hro;simp only[Tryz.ntmps403,List.size_toArray,List.length_cons,List.length_nil,Nat.reduceAdd,Nat.reduceSub,Array.replicate_succ,Array.replicate_zero,List.push_toArray,List.append_toArray,List.nil_append,List.cons_append]
 gi_wp2
 go_ret
 exact⟨rfl,rfl⟩
def Words (n:Nat) (W:World) (sv:Value) (zs:List UInt32):Prop:=
 (∃base cap,sv= .slice base 0 cap/\zs=[])\/∃b off cap,sv= .slice (some ⟨b,off,none⟩) zs.length cap/\b<n/\∀j,j<zs.length->W.cell? ⟨b,off+j,none⟩=some (.int .u32 ((zs[j]?.getD 0).toNat:Int))
theorem Words.below {n:Nat} {A B:World} (h:Below n A B) {a:Value} {d:List UInt32}:Words n A a d->Words n B a d
 | .inl e=> .inl e
 | .inr ⟨b,off,cap,e,hb,f⟩=> .inr ⟨b,off,cap,e,hb,fun j g=>(h.cell (p:=⟨b,off+j,none⟩) hb).trans (f j g)⟩
theorem ee (F:Fence) (n:Nat) (u:F.fn 410) (m:F.round=none) (I:1<=n) (g a:Nat) (A:Value) (f:List UInt32) (d:f.length<=140737488351232) (w:World) (q:g<w.heap.size) (h:a<=w.heap.size)
  (G:w.cell? ⟨g,0,none⟩=some A) (C:Words a w A f):
  SeqStopsK F n Tryz.prog 410 #[.pointer (some ⟨g,0,none⟩)] (fun x:Int×UInt32=> #[Value.int .i64 x.1,Value.int .u32 (x.2.toNat:Int)]) (GP a g) (fun ys=>ys=upto (bk f) f.length)
   (fun pre=>∃k,k<=f.length/\pre=upto (bk f) k) f.length w:=fun l J B W y _ _ D t=>by
 have j:=(y.cell (p:=⟨g,0,none⟩) q).trans G;rcases C.below (y.mono h) with⟨base,cap,rfl,rfl⟩ |⟨b,off,cap,rfl,hb,r⟩
 ·exact (eY F n u m l g base cap J W j t).mono fun e K ⟨he,H⟩=>⟨he,.inl ⟨_,rfl,H⟩⟩
 exact eX F n u m I l g a b off cap f d hb J B D W j r t
def Jr (s:Int) (x:Int×UInt32):Int:=bits BinOp.or IntKind.u64 (IntKind.u64.wrap (s*4294967296)) (IntKind.u64.wrap (x.2.toNat:Int))
def KI (pre:List (Int×UInt32)):Int:=pre.foldl Jr 0
theorem gj (pre:List (Int×UInt32)) (x:Int×UInt32):KI (pre++[x])=Jr (KI pre) x:=by simp[KI]
theorem nv (F:Fence) (n:Nat) (h3:F.fn 388) (h5:F.fn 403) (h7:F.fn 410) (hro:F.round=none) (hn:3<=n) (a:Option Addr) (len cap:Nat) (zs:List UInt32) (hreach:zs.length<=140737488351232) (w:World) (hI:Words w.heap.size w (.slice a len cap) zs):
  CallsIn F n Tryz.prog 388 #[.slice a len cap] w fun e W'=>e= .returned (.int .u64 (KI (upto (bk zs) zs.length)))/\Below w.heap.size w W':=by
 have h1:1<=n:=by omega
 refine callsIn_of_wp_marks Tryz.func388 rfl h3 ?_ hro;simp only[Tryz.ntmps388,List.size_toArray,List.length_cons,List.length_nil,Nat.reduceAdd,Nat.reduceSub,Array.replicate_succ,Array.replicate_zero,List.push_toArray,List.append_toArray,List.nil_append,List.cons_append]
 gi_wp2_with (gi_at_call 403;refine (eZ F (n-1) h5 hro _ _ _ _).mono ?_;rintro e w' ⟨rfl,rfl⟩)
 have bS:=Boxed.new w 248 (.int .u64 0);have bN:=Boxed.new (w.alloc (.cells #[.int .u64 0] 248)) 65 (.slice a len cap);rw[World.size_alloc] at bN;have hB0:Below w.heap.size w ((w.alloc (.cells #[.int .u64 0] 248)).alloc (.cells #[.slice a len cap] 65)):=((Below.refl _ w).alloc (Nat.le_refl _) _).alloc (by simp) _
 refine wpIn_rangeFunc_ownG hro h1 (gf:=410) (lb:= #[.pointer (some ⟨w.heap.size+1,0,none⟩)]) rfl h7 (enters_of Tryz.func410 (by kernel_rfl) rfl)
  (ee F (n-1) h7 hro (by omega) (w.heap.size+1) w.heap.size _ zs hreach _ (by simp) (by simp;omega) bN.cell (hI.below hB0)) GP.trans (fun W l o o' hl h hc hw=>⟨belowK_b (by simp;omega) W l o o' hl h hc hw,World.putObj_heap_other (by simp at hl;omega)⟩) (Below.refl _ _) (fun _=>rfl)
  (fun pre W=>(W.cell? ⟨w.heap.size,0,none⟩=some (.int .u64 (KI pre))/\W.frozen? ⟨w.heap.size,0,none⟩=false)/\Below w.heap.size w W)
  (fun _ _ _=>False)
  (OwnFrom.and (Own.from (fun s A B row hs hg hr=>⟨cell_kept hs.1 hg hr,(frozen_kept hs.1 hg hr).trans hs.2⟩) _) (ownFrom_below (Nat.le_refl _) (by simp;omega)))
  (fun _ _ _ _ _ hs _ _=>hs)
  ⟨⟨(bS.alloc _).cell,(bS.alloc _).frozen⟩,hB0⟩
  (fun x=>{tmps:= #[.slice a len cap,undef,.int .u64 0,.pointer (some ⟨w.heap.size,0,none⟩),undef,.int .u32 (x.2.toNat:Int),.slice a len cap,.func (.func 410) #[] #[.pointer (some ⟨w.heap.size+1,0,none⟩)],.int .i64 x.1,.int .u32 (x.2.toNat:Int),undef,undef,undef,undef,undef,undef],defers:=[]}) ?assign ?body ?done ?stop
 case assign=>
  intro l x W K hK
  gi_wp2
  exact hK
 case body=>
  rintro l pre x W ⟨⟨hc,hf⟩,hB⟩ _
  gi_wp2
  exact⟨(KeepsOthers.setCell _ _ _).from _,⟨(Below.refl w.heap.size W).setCell (p:=⟨w.heap.size,0,none⟩) (Nat.le_refl _) _,Below.heap_setCell W _ _ _ (by simp)⟩,⟨by rw[gj];exact World.cell?_setCell_same' _ _ _ (by rw[hc];rfl),by rw[World.frozen?_setCell];exact hf⟩,hB.setCell (p:=⟨w.heap.size,0,none⟩) (Nat.le_refl _) _⟩
 case done=>
  rintro D ys W hD rfl ⟨⟨hc,_⟩,hB⟩ hK
  gi_wp2
  refine⟨by simp,.inl ⟨_,_,rfl,run_takeDeferred hK,?_⟩⟩;exact⟨_,results_tmp rfl _ _ _,rfl,hB.trans (belowK_b (w:=w) (Nat.le_refl _) W D _ _ (by simp at hD;omega) hK rfl rfl)⟩
 case stop=>
  rintro D c pre W _ _ h _;exact h.elim
theorem Pw {s:Int} {p:Nat} (x:Int×UInt32) (hs:s=p) (d:p<4294967296):Jr s x=((x.2.toNat+4294967296*p:Nat):Int):=by
 have f:=x.2.toNat_lt;refine JK (a:=IntKind.u64.wrap (s*4294967296)) (b:=IntKind.u64.wrap (x.2.toNat:Int)) rfl ?_ ?_ d f
 ·rw[wrap_u64 (rfl:IntKind.u64.wrap (s*4294967296)=_),hs];omega
 rw[wrap_u64 (rfl:IntKind.u64.wrap (x.2.toNat:Int)=_)];omega
theorem gk:∀(l:List UInt32),l.length<=2->KI (upto (bk l) l.length)=(AE l:Int)
 | [],_=>rfl
 | [x],_=>by
  show Jr 0 (bk [x] 0)=_
  refine (Pw (p:=0) _ rfl (by decide)).trans ?_;simp[bk,AE]
 | [x,y],_=>by
  show Jr (Jr 0 (bk [x,y] 0)) (bk [x,y] 1)=_
  have a:=Pw (p:=0) (bk [x,y] 0) rfl (by decide);have d:=y.toNat_lt;rw[Pw (p:=y.toNat) _ (by simpa [bk] using a) d];simp[bk,AE]
 | _::_::_::_,h=>by simp at h
theorem O7 {l:List UInt32} {n:Int} {k:Nat} (p:AE l=k) (q:l.length<=2) (r:AO n k):CF 388 [.one (.sl .u32 l)] (.one (.int .u64 n)):=by
 obtain⟨c,m⟩:∃c,Tryz.f388.body=some c:=⟨_,rfl⟩
 refine⟨⟨Tryz.f388,c,by kernel_rfl,by rfl,m⟩,⟨rfl,rfl⟩,fun w I vs h a=>?_⟩
 match vs,a with
 | [v],a=>
  rcases a.1 with d |⟨base,cap,u,x,y,h3⟩
  ·cases d
  obtain rfl:v= .slice base l.length cap:=by simpa using u
  have hw:Words w.heap.size w (.slice base l.length cap) l:=by
   rcases h3 with rfl |⟨b,off,rfl,hb,f⟩
   ·exact .inl ⟨base,cap,rfl,rfl⟩
   refine .inr ⟨b,off,cap,rfl,h b hb,fun j d=>?_⟩;obtain⟨us,hu,t⟩:=f j l[j] (by simp[d]);have hu:us=[.int .u32 (l[j].toNat:Int)]:=hu;have:=t 0 (.int .u32 (l[j].toNat:Int)) (by rw[hu];rfl);have e:l[j]?.getD 0=l[j]:=by simp[d]
   rw[e];have hs:T.u32.size=1:=rfl;rw[hs] at this;have this:w.cell? ⟨b,off+j*1+0,none⟩=_:=this;simpa using this
  refine (callsIn_wide.1 (nv Fence.wide 3 trivial trivial trivial rfl (Nat.le_refl _) base l.length cap l (by omega) w hw)).mono ?_;rintro e w' ⟨rfl,g⟩;refine⟨_,none,rfl,g,.inr ?_⟩
  show _=_
  rw[gk l q,p,r.eq]
 | [],a=>exact a.elim
 | _::_::_,a=>exact a.2.elim
end Go.Abs
namespace Go.Abs
open Go.RowKit Go.Shelf Go.Proofs
theorem bitLen_spec {x:Nat} (h:x<4294967296) (g:x≠0):2^(Lib.bitLen x-1)<=x/\x<2^Lib.bitLen x/\1<=Lib.bitLen x/\Lib.bitLen x<=32:=by
 have key:∀(f x:Nat),x<2^f->x≠0->2^(Lib.bitLenAux f x-1)<=x/\x<2^Lib.bitLenAux f x/\1<=Lib.bitLenAux f x/\Lib.bitLenAux f x<=f:=by
  intro f
  induction f with
  | zero=>intro x h g;simp at h;exact absurd h g
  | succ f p=>
   intro x h g;simp only[Lib.bitLenAux,if_neg g]
   by_cases j:x/2=0
   ·rw[j];have:Lib.bitLenAux f 0=0:=by cases f <;> simp[Lib.bitLenAux]
    rw[this];simp;omega
   obtain⟨a,b,c,d⟩:=p (x/2) (by rw[Nat.pow_succ] at h;omega) j
   generalize Lib.bitLenAux f (x/2)=m at*
   obtain⟨m,rfl⟩:∃k,m=k+1:=⟨m-1,by omega⟩
   rw[show 1+(m+1)=m+1+1 by omega,Nat.pow_succ];simp only[Nat.add_sub_cancel] at a ⊢;rw[Nat.pow_succ] at b ⊢;omega
 have e:Lib.bitLen x=Lib.bitLenAux 32 x:=Lib.bitLenAux_fuel 32 x (by simpa using h) 64 (by decide);rw[e];exact key 32 x (by simpa using h) g
theorem TF {x c:Int} {k:Nat} (d:AO x k) (m:k<4294967296) (f:AO c (Lib.bitLen k)):CF 409 [.one (.int .u32 x)] (.one (.int .i64 c)):=by
 obtain⟨b,hb⟩:∃b,Tryz.f409.body=some b:=⟨_,rfl⟩
 refine⟨⟨Tryz.f409,b,by kernel_rfl,by rfl,hb⟩,⟨rfl,rfl⟩,fun w I vs j a=>?_⟩
 match vs,a with
 | [v],a=>
  rcases a.1 with g | h
  ·cases g
  obtain rfl:v= .int .u32 x:=h;have:=d.eq;refine (jL x w).mono ?_;rintro e w' ⟨rfl,rfl⟩;refine⟨_,none,rfl,Below.refl _ _,.inr ?_⟩
  show _=_
  rw[f.eq,d.eq];rfl
 | [],a=>exact a.elim
 | _::_::_,a=>exact a.2.elim
end Go.Abs
