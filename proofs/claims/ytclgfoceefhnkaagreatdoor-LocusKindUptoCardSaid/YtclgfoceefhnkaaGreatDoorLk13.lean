/- Part 14 of a proof. Conditions: each theorem's own. -/
import Derived.RangeFuncBox
import Derived.RangeFuncLeaves
import Derived.Shelf.Abstract
import Derived.WalkKit
import Derived.OwnWalkIn
import Derived.TacticsInMore
import Derived.LoopNIn
import Derived.LoopIn
import Derived.Test.YtclgfoceefhnkaaGreatDoorLk00
import Derived.Test.YtclgfoceefhnkaaGreatDoorLk12
set_option linter.all false
set_option maxHeartbeats 80000000
set_option maxRecDepth 20000
open Go.Proofs
namespace Go.Abs
open Go.RowKit
variable {l z:List UInt32} {n zn:Nat} {s:Int}
theorem WS (hs:AR s n) (hn:n<=31) (aQ:z.length=l.length) (ah:AE z=AE l/2^n) (aR:zn=z.length) (sl:l.length<=17592186044416):CF 410 [.one (.sl .u32 l),.one (.int .i64 s)] (.one (.own .u32 z zn)):=by
 have es:=hs.eq;refine AM Tryz.func410 fun E hE=>?_
 conv=>cbv
 rintro n9 ⟨e9,f9⟩;conv=>cbv
 refine⟨fun _=>⟨by omega,by omega,by show _*4<=140737488355328;omega⟩,?_⟩;intro N (O:List UInt32) H;have aF:=H.1;have t:O=List.replicate N (0:el .u32):=H.2;have az:O.length=N:=by rw[t,List.length_replicate]
 conv=>cbv
 intro ak I;have aH:=I.eq;have f12:=I.le;conv=>cbv
 refine .inr ?_
 obtain⟨J0,C⟩:∃J:List AV->List AG->Nat->Prop,J=fun vs bl k=>∃(o:List UInt32) (m i':Nat) (L i:Int),vs=[.one (.sl .u32 l),.one (.int .i64 s),.one (.AQ .u32 10 0 0 m),.one (.sl .u32 l),.one (.int .i64 L),.one (.int .i64 i)]/\
  bl=[.arr 0 .u32 o]/\(o.length=l.length/\m=o.length/\Cl L l.length/\AR i i'/\i'<=l.length)/\
  AE (o.take i')=AE l/2^n%2^(32*i')/\k=l.length-i':=⟨_,rfl⟩
 refine⟨[],[0,1,5,11,12,13],[10],J0,⟨l.length-0,by rw[C];exact⟨O,N,0,ak,0,rfl,rfl,⟨by rw[t,List.length_replicate];omega,by rw[t,List.length_replicate],I,Ak 0,by omega⟩,by simp[AE,Nat.mod_one],rfl⟩⟩,?_⟩;intro vs bl aS hj;rw[C] at hj;obtain⟨o,m,i',L,i,rfl,rfl,⟨ho,hm,hL,hi,aO⟩,hinv,aP⟩:=hj;conv=>cbv
 have eL:=hL.eq;have ei:=hi.eq;intro al U;conv=>cbv
 cases al <;> conv=>cbv
 ·have ai:=AY U;have hk:i'=l.length:=by omega
  have a6:AE o=AE l/2^n:=by rw[hk,<-ho,List.take_length,ho] at hinv;rw[hinv];exact Nat.mod_eq_of_lt (Nat.lt_of_le_of_lt (Nat.div_le_self _ _) (CI l))
  exact AD ⟨⟨rfl,.inr (.inl ⟨_,_,by decide,rfl,rfl,hm,rfl,DB (KZ (by omega) (by rw[ah,a6])) (by omega)⟩),trivial⟩,trivial⟩
 have ai:=AZ U;refine .inr ?_;obtain⟨h,A⟩:=AL (l:=l) (i:=i') (by omega);refine⟨h,fun _=>⟨by omega,by rw[show (i).toNat=i' by omega];exact A⟩,?_⟩;try conv=>cbv
 intro aT V;have aI:=V.eq;have f17:=V.lt;conv=>cbv
 intro ab W;conv=>cbv
 refine AH ?_;obtain⟨au,f,W⟩:∃q:Nat,q=h.toNat/2^n/\ab=q:=⟨_,rfl,shr_var W (by omega) (by omega) (by show n<=32;omega)⟩
 have aG:au<=h.toNat:=by rw[f];exact Nat.div_le_self _ _
 refine AH ?_;intro D aC;conv=>cbv
 obtain⟨F,u⟩:=B4 (n:=ab) (by omega);have av:=u.eq;have ax:=u.lt;refine⟨F,fun _=>⟨by show _<List.length (α:=UInt32) o;(first | omega | (simp;omega)),B3 u⟩,?_⟩;intro (g:List UInt32) (a:g=List.set (α:=UInt32) o D F);have aA:g.length=o.length:=by rw[a,List.length_set]
 conv=>cbv
 intro aU aL;conv=>cbv
 refine AI ?_;rintro aV ⟨aJ,f27⟩;conv=>cbv
 intro an X;conv=>cbv
 refine .inr ?_;cases an <;> conv=>cbv
 ·have aj:=AY X;intro S af;conv=>cbv
  refine AI ?_;refine⟨l.length-(i'+1),?_,?_⟩
  ·omega
  rw[C]
  have ew:(F.toNat)=h.toNat/2^n+0*2^(32-n)%4294967296:=by
   rw[Nat.zero_mul,<-f];omega
  refine⟨g,m,i'+1,L,S,rfl,rfl,⟨by rw[a,List.length_set];exact ho,by rw[a,List.length_set];exact hm,hL,⟨by omega⟩,by omega⟩,?_,rfl⟩;rw[a,show D=i' by omega,EI (by omega),Dp,List.length_take,Nat.min_eq_left (by omega),hinv,M9,ew];rw[Nat.div_div_eq_div_mul,Nat.mul_comm (2^n),<-Nat.div_div_eq_div_mul,Lr (by omega:i'<=l.length),DH A,List.drop_eq_nil_of_le (by omega:l.length<=i'+1)];rw[<-WU (y:=0) (r:=0) (by omega) hn];simp[AE]
 have aj:=AZ X;refine AH ?_;intro a8 aD;conv=>cbv
 obtain⟨ad,B⟩:=AL (l:=g) (i:=a8) (by omega);refine⟨ad,fun _=>B,?_⟩;try conv=>cbv
 intro aW Y;have ae:=Y.eq;have f32:=Y.lt;conv=>cbv
 intro ao aM;conv=>cbv
 refine AI ?_;obtain⟨d,G⟩:=AL (l:=l) (i:=(i'+1)) (by omega);refine⟨d,fun _=>⟨by omega,by rw[show (ao).toNat=(i'+1) by omega];exact G⟩,?_⟩;try conv=>cbv
 intro aX Z;have aK:=Z.eq;have f37:=Z.lt;conv=>cbv
 intro aY a1;conv=>cbv
 have a1:=wrap_u64 a1;intro aZ aN;conv=>cbv
 refine AI ?_;intro aq K;conv=>cbv
 refine AH ?_;obtain⟨b0,a7,K⟩:∃q:Nat,q=d.toNat*2^(32-n)%18446744073709551616/\aq=q:=⟨_,rfl,Pp K (by omega) (by omega)⟩
 intro ar M;conv=>cbv
 have M:=wrap_u32 M;intro R a2;conv=>cbv
 have bo:0<=R/\R<4294967296:=by rw[wrap_u32 a2];omega
 have ex:ad=F:=by rw[a,show a8=D by omega,List.getElem?_set_self (by omega)] at B;exact (Option.some.inj B).symm
 refine AH ?_;intro aa aE;conv=>cbv
 obtain⟨T,x⟩:=B4 (n:=R) (by omega);have aw:=x.eq;have ay:=x.lt;refine⟨T,fun _=>⟨by show _<List.length (α:=UInt32) g;(first | omega | (simp;omega)),B3 x⟩,?_⟩;intro (P:List UInt32) (j:P=List.set (α:=UInt32) g aa T);have aB:P.length=g.length:=by rw[j,List.length_set]
 conv=>cbv
 refine g2 rfl ?_;intro S af;conv=>cbv
 refine AI ?_;refine⟨l.length-(i'+1),?_,?_⟩
 ·omega
 rw[C]
 have ew:(T.toNat)=h.toNat/2^n+d.toNat*2^(32-n)%4294967296:=by
  have hq:2^n*2^(32-n)=4294967296:=by rw[<-Nat.pow_add,show n+(32-n)=32 by omega]
  have ag:h.toNat/2^n<2^(32-n):=Nat.div_lt_of_lt_mul (by rw[hq];omega);have a5:d.toNat*2^(32-n)%4294967296=2^(32-n)*(d.toNat%2^n):=by rw[<-hq,Nat.mul_comm d.toNat,Nat.mul_comm (2^n),Nat.mul_mod_mul_left]
  have h5:ar=((d.toNat*2^(32-n)%4294967296:Nat):Int):=by rw[M,K,a7];generalize d.toNat*2^(32-n)=Q;omega
  have h6:=Mf a2 (p:=h.toNat/2^n) (q:=d.toNat*2^(32-n)%4294967296) (by rw[ae,ex,<-f];omega) h5 (by rw[<-f];omega) (by omega);rw[a5,JF ag,<-a5,<-f] at h6;rw[<-f]
  generalize d.toNat*2^(32-n)%4294967296=Q at*
  omega
 refine⟨P,m,i'+1,L,S,rfl,rfl,⟨by rw[j,a,List.length_set,List.length_set];exact ho,by rw[j,a,List.length_set,List.length_set];exact hm,hL,⟨by omega⟩,by omega⟩,?_,rfl⟩;rw[j,show aa=i' by omega,EI (by rw[a,List.length_set];omega),a,show D=i' by omega,Gi (Nat.le_refl _),Dp,List.length_take,Nat.min_eq_left (by omega),hinv,M9,ew];rw[Nat.div_div_eq_div_mul,Nat.mul_comm (2^n),<-Nat.div_div_eq_div_mul,Lr (by omega:i'<=l.length),DH A,DH (show l[i'+1]? =some d from G)];rw[WU (by omega) hn]
theorem WR (hs:AR s n) (hn:n<=31) (aG:z.length=l.length+1) (ab:AE z=AE l*2^n) (aH:zn=z.length) (sl:l.length<=17592186044416):CF 407 [.one (.sl .u32 l),.one (.int .i64 s)] (.one (.own .u32 z zn)):=by
 have es:=hs.eq;refine AM Tryz.func407 fun E hE=>?_
 conv=>cbv
 rintro aJ ⟨ay,f10⟩;conv=>cbv
 intro aK aB;conv=>cbv
 refine AI ?_;refine⟨fun _=>⟨by omega,by omega,by show _*4<=140737488355328;omega⟩,?_⟩;intro G (H:List UInt32) B;have ax:=B.1;have d:H=List.replicate G (0:el .u32):=B.2;have ao:H.length=G:=by rw[d,List.length_replicate]
 conv=>cbv
 intro ae C;have az:=C.eq;have f14:=C.le;conv=>cbv
 refine .inr ?_
 obtain⟨J0,D⟩:∃J:List AV->List AG->Nat->Prop,J=fun vs bl k=>∃(o:List UInt32) (c:UInt32) (m i':Nat) (L i:Int),vs=[.one (.sl .u32 l),.one (.int .i64 s),.one (.AQ .u32 12 0 0 m),.one (.sl .u32 l),.one (.int .i64 L),.one (.int .i64 i)]/\
  bl=[.arr 0 .u32 o]/\(o.length=l.length+1/\m=o.length/\Cl L l.length/\AR i i'/\i'<=l.length)/\(o[i']? =some c/\c.toNat<2^n)/\
  AE (o.take i')+2^(32*i')*c.toNat=AE (l.take i')*2^n/\k=l.length-i':=⟨_,rfl⟩
 refine⟨[],[0,1,5,13,14,15],[12],J0,⟨l.length-0,by rw[D];exact⟨H,0,G,0,ae,0,rfl,rfl,⟨by rw[d,List.length_replicate];omega,by rw[d,List.length_replicate],C,Ak 0,by omega⟩,⟨by rw[d,List.getElem?_replicate,if_pos (by omega)],Nat.two_pow_pos n⟩,by simp[AE],rfl⟩⟩,?_⟩;intro vs bl aI hj;rw[D] at hj;obtain⟨o,c,m,i',L,i,rfl,rfl,⟨ho,hm,hL,hi,aE⟩,⟨hc,a8⟩,hinv,aF⟩:=hj;conv=>cbv
 have eL:=hL.eq;have ei:=hi.eq;intro af O;conv=>cbv
 cases af <;> conv=>cbv
 ·have ad:=AY O;have hk:i'=l.length:=by omega
  have Y:AE o=AE l*2^n:=by rw[hk,List.take_length,<-CB (l:=o) (by rw[<-hk];exact hc),List.take_of_length_le (by omega)] at hinv;exact hinv
  exact AD ⟨⟨rfl,.inr (.inl ⟨_,_,by decide,rfl,rfl,hm,rfl,DB (KZ (by omega) (by rw[ab,Y])) (by omega)⟩),trivial⟩,trivial⟩
 have ad:=AZ O;refine .inr ?_;obtain⟨a,A⟩:=AL (l:=l) (i:=i') (by omega);refine⟨a,fun _=>⟨by omega,by rw[show (i).toNat=i' by omega];exact A⟩,?_⟩;try conv=>cbv
 intro aL Q;have aA:=Q.eq;have f19:=Q.lt;conv=>cbv
 intro aM R;conv=>cbv
 have R:=wrap_u64 R;intro ag S;conv=>cbv
 refine AH ?_;have a6:a.toNat*2^n<9223372036854775808:=Nat.mul_lt_mul_of_lt_of_le (by omega:a.toNat<4294967296) (Nat.pow_le_pow_right (by decide) hn:2^n<=2^31) (by decide);obtain⟨M,f,S⟩:∃q:Nat,q=a.toNat*2^n/\ag=q:=⟨_,rfl,(Pp (p:=a.toNat) (e:=n) S (by omega) (by omega)).trans (by congr 1;exact Nat.mod_eq_of_lt (by omega))⟩
 rw[<-f] at a6;refine AH ?_;intro a1 au;conv=>cbv
 obtain⟨a5,t⟩:=AL (l:=o) (i:=a1) (by omega);refine⟨a5,fun _=>t,?_⟩;try conv=>cbv
 intro aN T;have a7:=T.eq;have f27:=T.lt;conv=>cbv
 intro aO U;conv=>cbv
 have U:=wrap_u32 U;intro K V;conv=>cbv
 have bo:0<=K/\K<4294967296:=by rw[wrap_u32 V];omega
 refine AH ?_;intro a2 av;conv=>cbv
 obtain⟨x,j⟩:=B4 (n:=K) (by omega);have aj:=j.eq;have al:=j.lt;refine⟨x,fun _=>⟨by show _<List.length (α:=UInt32) o;(first | omega | (simp;omega)),B3 j⟩,?_⟩;intro (u:List UInt32) (y:u=List.set (α:=UInt32) o a2 x);have aq:u.length=o.length:=by rw[y,List.length_set]
 conv=>cbv
 intro aP aC;conv=>cbv
 refine AI ?_;intro aQ W;conv=>cbv
 refine AH ?_;have W:=Dt (p:=4294967296) W rfl;intro ah X;conv=>cbv
 have X:=wrap_u32 X;refine AH ?_;intro F aw;conv=>cbv
 obtain⟨g,r⟩:=B4 (n:=ah) (by omega);have ak:=r.eq;have an:=r.lt;refine⟨g,fun _=>⟨by show _<List.length (α:=UInt32) u;(first | omega | (simp;omega)),B3 r⟩,?_⟩;intro (I:List UInt32) (h:I=List.set (α:=UInt32) u F g);have ar:I.length=u.length:=by rw[h,List.length_set]
 conv=>cbv
 intro ai aD;conv=>cbv
 refine AI ?_;refine⟨l.length-(i'+1),?_,?_⟩
 ·omega
 rw[D];have hq:2^n*2^(32-n)=4294967296:=by rw[<-Nat.pow_add,show n+(32-n)=32 by omega]
 have ec:a5=c:=by rw[show a1=i' by omega,hc] at t;exact (Option.some.inj t).symm
 have Z:M%4294967296=2^n*(a.toNat%2^(32-n)):=by rw[f,Nat.mul_comm a.toNat,<-hq,Nat.mul_mod_mul_left]
 have h6:=Mf V (p:=c.toNat) (q:=M%4294967296) (by rw[a7,ec]) (by omega) (by have:=c.toNat_lt;omega) (by omega);rw[Z,JF a8,<-Z] at h6
 have aa:g.toNat<2^n:=by
  have:M/4294967296<2^n:=Nat.div_lt_of_lt_mul (by rw[f];exact (Nat.mul_lt_mul_right (Nat.two_pow_pos n)).2 (by omega));omega
 refine⟨I,g,m,i'+1,L,ai,rfl,rfl,⟨by omega,by omega,hL,⟨by omega⟩,by omega⟩,⟨by rw[h,show F=i'+1 by omega,List.getElem?_set_self (by omega)],aa⟩,?_,rfl⟩;rw[h,show F=i'+1 by omega,Gi (Nat.le_refl _),y,show a2=i' by omega,EI (by omega),Dp,List.length_take,Nat.min_eq_left (by omega),CB A,Dg,Nat.add_mul,<-hinv];have e1:x.toNat+4294967296*g.toNat=c.toNat+a.toNat*2^n:=by rw[<-f];omega
 have e2:2^(32*i')*(x.toNat+4294967296*g.toNat)=2^(32*i')*(c.toNat+a.toNat*2^n):=by rw[e1]
 generalize 2^(32*i')=P at*
 generalize 2^n=N at*
 grind
theorem al {z1 z2:List UInt32} {d:Int} {b:Nat} (hd:AR d b) (hb:0<b) (aE:b<4294967296) (aa:z1=AS (AE l/b)) (ab:z2=AS (AE l%b)) (sl:l.length<=17592186044416):CF 405 [.one (.sl .u32 l),.one (.int .u32 d)] (.AJ [(false,[.sl .u32 z1]),(false,[.sl .u32 z2])]):=by
 have ed:=hd.eq;refine AM Tryz.func405 fun E hE=>?_
 conv=>cbv
 rintro aJ ⟨az,f10⟩;conv=>cbv
 refine⟨fun _=>⟨by omega,by omega,by show _*4<=140737488355328;omega⟩,?_⟩;intro P (S:List UInt32) H;have ay:=H.1;have g:S=List.replicate P (0:el .u32):=H.2;have av:S.length=P:=by rw[g,List.length_replicate]
 conv=>cbv
 rintro aK ⟨aA,f13⟩;conv=>cbv
 intro af aC;conv=>cbv
 refine AI ?_;refine .inr ?_
 obtain⟨J0,M⟩:∃J:List AV->List AG->Nat->Prop,J=fun vs bl k=>∃(o:List UInt32) (m f A:Nat) (r j:Int),vs=[.one (.sl .u32 l),.one (.int .u32 d),.one (.AQ .u32 11 0 0 m),.one (.int .u64 r),.one (.int .i64 j)]/\
  bl=[.arr 0 .u32 o]/\(o.length=l.length/\m=o.length/\AR (j+1) A/\A<=l.length/\AR r f/\f<b)/\
  AE (l.drop A)=AE (o.drop A)*b+f/\k=A:=⟨_,rfl⟩
 refine⟨[],[0,1,6,7,8],[11],J0,⟨l.length,by rw[M];exact⟨S,P,0,l.length,0,af,rfl,rfl,⟨by rw[g,List.length_replicate];omega,by rw[g,List.length_replicate],⟨by omega⟩,by omega,Ak 0,hb⟩,by rw[List.drop_length,List.drop_eq_nil_of_le (by rw[g,List.length_replicate];omega)];simp[AE],rfl⟩⟩,?_⟩;intro vs bl aI Z;rw[M] at Z;obtain⟨o,m,f,A,r,j,rfl,rfl,⟨ho,hm,Z,aF,hr,N⟩,hinv,aG⟩:=Z;conv=>cbv
 have ej:=Z.eq;have er:=hr.eq;intro ag U;conv=>cbv
 cases ag <;> conv=>cbv
 ·have ad:=DI U;have h:m<=(o).length:=by omega
  obtain⟨ae,D⟩:=xN ((B1 ((o).take m)).length);obtain⟨a7,O⟩:=D1 h D;refine .inr (.inr (.inl ⟨[],.one (.AQ .u32 0 0 0 ae),.arr 0 .u32 o,fun _=>⟨by first | decide | simp[Be,Bk],trivial⟩,fun _=>⟨Di hE (Jb h (by omega) D),rfl,rfl⟩,?_⟩));try conv=>cbv
  obtain⟨aO,F⟩:=xU (AS f);refine AB hE (Iv hr (by omega) F) ?_;conv=>cbv
  have hk:A=0:=by omega
  rw[hk,List.drop_zero,List.drop_zero] at hinv;have hq:AE o=AE l/b:=by rw[hinv,Nat.add_comm,Nat.add_mul_div_right _ _ hb,Nat.div_eq_of_lt N,Nat.zero_add]
  have a8:f=AE l%b:=by rw[hinv,Nat.add_comm,Nat.add_mul_mod_self_right,Nat.mod_eq_of_lt N]
  exact AD ⟨⟨rfl,.inl ⟨_,rfl,by omega,congrArg _ (by rw[List.drop_zero,O,aa,hm,List.take_length,hq])⟩,trivial⟩,⟨rfl,congrArg _ (by rw[ab,F,a8]),trivial⟩,trivial⟩
 have ad:=DJ U;refine .inr ?_;intro ai I;conv=>cbv
 refine AH ?_;have I:=IM (p:=4294967296) I rfl;have I:ai=((f*4294967296:Nat):Int):=by clear hinv;omega
 obtain⟨i',rfl⟩:∃i',A=i'+1:=⟨A-1,by omega⟩
 obtain⟨a,G⟩:=AL (l:=l) (i:=i') (by omega);refine⟨a,fun _=>⟨by omega,by rw[show (j).toNat=i' by omega];exact G⟩,?_⟩;try conv=>cbv
 intro aL V;have aB:=V.eq;have f24:=V.lt;conv=>cbv
 intro aM W;conv=>cbv
 have W:=wrap_u64 W;intro aN y;conv=>cbv
 have y:=IE (p:=f) (q:=a.toNat) y (by omega) (by omega) (by omega) (by omega);intro aj X;conv=>cbv
 have X:=wrap_u64 X;intro ak K;conv=>cbv
 refine AH ?_;have K:=wrap_u64 K;intro an L;conv=>cbv
 have L:=wrap_u32 L;have a1:aj=(b:Int):=by omega
 have a2:ak=(((a.toNat+4294967296*f)/b:Nat):Int):=by rw[K,y,a1,<-Int.natCast_ediv];have:=Nat.div_le_self (a.toNat+4294967296*f) b;generalize (a.toNat+4294967296*f)/b=Q at *;clear hinv;omega
 refine AH ?_;intro B ax;conv=>cbv
 obtain⟨u,t⟩:=B4 (n:=an) (by omega);have ar:=t.eq;have au:=t.lt;refine⟨u,fun _=>⟨by show _<List.length (α:=UInt32) o;(first | omega | (simp;omega)),B3 t⟩,?_⟩;intro (T:List UInt32) (C:T=List.set (α:=UInt32) o B u);have aw:T.length=o.length:=by rw[C,List.length_set]
 conv=>cbv
 intro ao Y;conv=>cbv
 have Y:=wrap_u64 Y;intro aq a6;conv=>cbv
 refine AH ?_;intro ah aD;conv=>cbv
 refine AI ?_;refine⟨i',?_,?_⟩
 ·omega
 rw[M];have a5:ao=(b:Int):=by omega
 have h5:=Nat.div_add_mod (a.toNat+4294967296*f) b;refine⟨T,m,(a.toNat+4294967296*f)%b,i',aq,ah,rfl,rfl,⟨by omega,by omega,⟨by omega⟩,by omega,⟨by rw[a6,y,a5];simp⟩,Nat.mod_lt _ hb⟩,?_,rfl⟩
 have aH:(a.toNat+4294967296*f)/b<4294967296:=Nat.div_lt_of_lt_mul (by
  have:4294967296*(f+1)<=4294967296*b:=Nat.mul_le_mul_left _ N;rw[Nat.mul_comm b];omega)
 have ew:u.toNat=(a.toNat+4294967296*f)/b:=by
  rw[a2] at L
  generalize (a.toNat+4294967296*f)/b=Q at*
  clear hinv
  omega
 rw[DH G,hinv,C,DH (l:=o.set B u) (i:=i') (x:=u) (by rw[show B=i' by omega,List.getElem?_set_self (by omega)]),show B=i' by omega,List.drop_set_of_lt (by omega),ew]
 generalize (a.toNat+4294967296*f)/b=Q at*
 generalize (a.toNat+4294967296*f)%b=R at*
 grind
end Go.Abs
namespace Go.Abs
open Go.RowKit
variable {b:Bool} {c w:Int} {i len off:Nat} {l o v z:List UInt32}
theorem WA (g:o.length=z.length) (a:o.take off=z.take off) (d:o.drop (off+len)=z.drop (off+len)) (hlen:off+len<=o.length) (f:AE ((o.drop off).take len)=AE ((z.drop off).take len)):o=z:=by
 have e1:(o.drop off).take len=(z.drop off).take len:=KZ (by simp;omega) f;rw[<-List.take_append_drop off o,<-List.take_append_drop off z,a,<-List.take_append_drop len (o.drop off),<-List.take_append_drop len (z.drop off),e1,List.drop_drop,List.drop_drop,d]
theorem L8:(l.drop off)[i]? =l[off+i]? :=by rw[List.getElem?_drop]
theorem M5 {x:UInt32} (h:l[i]? =some x):AE (l.take (i+1))=AE (l.take i)+2^(32*i)*x.toNat:=CB h
theorem Lt {x:UInt32} (h:o.drop i=l.drop i) (a:o[i]? =some x):l[i]? =some x:=by
 have:(o.drop i)[0]? =(l.drop i)[0]? :=by rw[h]
 rw[List.getElem?_drop,List.getElem?_drop] at this;simpa [a] using this.symm
theorem gP {x p g f d a h k j m q:Int} (N:0<=x/\x<4294967296) (M:0<=p/\p<=18446744065119617025) (L:0<=c/\c<=4294967296) (y:g=(p+c)%18446744073709551616)
  (B:f=g%4294967296) (C:d=f%18446744073709551616) (A:a=x%18446744073709551616) (r:h=(a-d)%18446744073709551616) (t:k=h%4294967296) (hw:k=w)
  (D:j=g/4294967296) (u:m=h/9223372036854775808) (F:q=(j+m)%18446744073709551616):(0<=q/\q<=4294967296)/\w+p+c=x+4294967296*q:=by
 have H:g=p+c:=by omega
 have I:0<=f/\f<4294967296:=by omega
 have a3:d=f:=by omega
 have a4:a=x:=by omega
 have J:g=f+4294967296*j:=by omega
 have K:0<=j/\j<=4294967295:=by omega
 clear y B D C A
 subst a3 a4
 by_cases G:a<d
 ·have b1:h=a-d+18446744073709551616:=by omega
  have b2:m=1:=by omega
  have b3:k=a-d+4294967296:=by omega
  clear r t u
  omega
 have b1:h=a-d:=by omega
 have b2:m=0:=by omega
 have b3:k=a-d:=by omega
 clear r t u
 omega
theorem cM {x C9 C3 a d:Int} (q:0<=x/\x<4294967296) (p:0<=c/\c<=4294967296) (f:C9=x%18446744073709551616) (h:C3=(C9-c)%18446744073709551616) (j:a=C3%4294967296) (hw:a=w)
  (k:d=C3/9223372036854775808) (g:b=(d==1)):w+c=x+4294967296*(b.toNat:Int):=by
 have a4:C9=x:=by omega
 subst a4
 clear f
 by_cases m:C9<c
 ·have b1:C3=C9-c+18446744073709551616:=by omega
  have b2:d=1:=by omega
  have b3:a=C9-c+4294967296:=by omega
  rw[g,b2]
  show w+c=C9+4294967296*1
  omega
 have b1:C3=C9-c:=by omega
 have b2:d=0:=by omega
 have b3:a=C9-c:=by omega
 rw[g,b2]
 show w+c=C9+4294967296*0
 omega
theorem gh {a S2 W T M:Nat} {c:Bool} (d:a+W=T+M*b.toNat) (f:S2+W=T+M*c.toNat) (l1:a<M) (l2:S2<M):a=S2/\b=c:=by
 cases b <;> cases c <;> simp at d f ⊢ <;> omega
theorem Lv (h:o.drop i=l.drop i):o.drop (i+1)=l.drop (i+1):=by
 rw[<-List.drop_drop,<-List.drop_drop,h]
theorem gQ {d:Nat} {g:Int} (hlen:len=v.length+1) (aT:off+len<=l.length) (hg:AR g d) (hd:d<4294967296) (b2:l.length<=140737488355328) (b3:z.length=l.length) (aA:z.take off=l.take off) (aB:z.drop (off+len)=l.drop (off+len)) (an:AE ((z.drop off).take len)+AE v*d=AE ((l.drop off).take len)+2^(32*len)*b.toNat):Gk Tryz.prog 408 (.AQ .u32 0 0 off len) (.arr 0 .u32 l) [.one (.sl .u32 v),.one (.int .u64 g)] (.one (.bool b)) (.arr 0 .u32 z):=by
 have eg:=hg.eq;refine J6 Tryz.func408 (by kernel_rfl) rfl fun E hE=>?_
 conv=>cbv
 intro aE Q;have aU:=Q.eq;have f14:=Q.le;conv=>cbv
 refine .inr ?_
 obtain⟨J0,a7⟩:∃J:List AV->List AG->Nat->Prop,J=fun vs bl k=>∃(o:List UInt32) (C i':Nat) (c L i:Int),vs=[.one (.AQ .u32 0 0 off len),.one (.sl .u32 v),.one (.int .u64 g),.one (.int .u64 c),.one (.sl .u32 v),.one (.int .i64 L),.one (.int .i64 i)]/\
  bl=[.arr 0 .u32 o]/\(o.length=l.length/\Cl L v.length/\AR i i'/\i'<=v.length/\AR c C/\C<=4294967296)/\(o.take off=l.take off/\o.drop (off+i')=l.drop (off+i'))/\
  AE ((o.drop off).take i')+AE (v.take i')*d=AE ((l.drop off).take i')+2^(32*i')*C/\k=v.length-i':=⟨_,rfl⟩
 refine⟨[],[0,1,2,7,13,14,15],[0],J0,⟨v.length-0,by rw[a7];exact⟨l,0,0,0,aE,0,rfl,rfl,⟨rfl,Q,Ak 0,by omega,Ak 0,by omega⟩,⟨rfl,rfl⟩,by simp[AE],rfl⟩⟩,?_⟩;intro vs bl b4 hj;rw[a7] at hj;obtain⟨o,C,i',c,L,i,rfl,rfl,⟨ho,hL,hi,b0,hc,aZ⟩,⟨ht,F⟩,hinv,b1⟩:=hj;conv=>cbv
 have eL:=hL.eq;have ei:=hi.eq;have ec:=hc.eq;intro aF af;conv=>cbv
 cases aF <;> conv=>cbv
 ·have aD:=AY af;rintro bf ⟨aW,f48⟩;conv=>cbv
  refine AH ?_;intro ar aR;conv=>cbv
  obtain⟨I,t⟩:=AL (l:=o) (i:=ar) (by omega);refine⟨I,fun _=>t,?_⟩;try conv=>cbv
  intro bg aj;have ax:=aj.eq;have f50:=aj.lt;conv=>cbv
  intro C9 a1;conv=>cbv
  have a1:=wrap_u64 a1;intro C3 a2;conv=>cbv
  have a2:=wrap_u64 a2;rintro bh ⟨aX,f56⟩;conv=>cbv
  intro aK a5;conv=>cbv
  have a5:=wrap_u32 a5;refine AH ?_;intro au aS;conv=>cbv
  obtain⟨B,q⟩:=B4 (n:=aK) (by omega);have ae:=q.eq;have aM:=q.lt;refine⟨B,fun _=>⟨by show _<List.length (α:=UInt32) o;(first | omega | (simp;omega)),B3 q⟩,?_⟩;intro (u:List UInt32) (f:u=List.set (α:=UInt32) o au B);have aO:u.length=o.length:=by rw[f,List.length_set]
  conv=>cbv
  intro bj a6;conv=>cbv
  refine AH ?_;have a6:=Dt (p:=9223372036854775808) a6 rfl;intro ab ay;conv=>cbv
  have hk:i'=v.length:=by omega
  subst hk;have N:au=off+v.length:=by omega
  have O:ar=off+v.length:=by omega
  rw[O] at t;have hx:=Lt F t;have az:=cM (C9:=C9) (C3:=C3) (x:=I.toNat) (c:=C) (w:=B.toNat) (by omega) (by omega) (by rw[<-ax];exact a1) (by rw[<-ec];exact a2) a5 ae a6 ay
  have ak:AE ((u.drop off).take len)+AE v*d=AE ((l.drop off).take len)+2^(32*len)*ab.toNat:=by
   rw[hlen,M5 (l:=l.drop off) (by rw[L8];exact hx),f,N,Lu,EI (by rw[List.length_drop];omega),Dp,List.length_take,List.length_drop,Nat.min_eq_left (by omega),Dg];rw[List.take_length] at hinv;have K:B.toNat+C=I.toNat+4294967296*ab.toNat:=by omega
   generalize 2^(32*v.length)=P at*
   have e:P*(B.toNat+C)=P*(I.toNat+4294967296*ab.toNat):=by rw[K]
   clear az K an
   grind
  have al:∀y:List UInt32,AE ((y.drop off).take len)<2^(32*len):=fun y=>Nat.lt_of_lt_of_le (CI _) (Nat.pow_le_pow_right (by decide) (by rw[List.length_take];omega))
  obtain⟨q1,q2⟩:=gh ak an (al _) (al _);have aC:u=z:=WA (off:=off) (len:=len) (by omega) (by rw[aA,f,N,Gi,ht]) (by rw[aB,f,N,List.drop_set_of_lt (by omega),hlen,<-Nat.add_assoc];exact Lv F) (by omega) q1;refine⟨fun _=>⟨⟨⟨rfl,congrArg _ (q2.symm),trivial⟩,trivial⟩,rfl,by simp⟩,fun _=>by show some (AG.arr 0 .u32 u)=_;rw[aC]⟩
 have aD:=AZ af;refine .inr ?_;obtain⟨h,M⟩:=AL (l:=v) (i:=i') (by omega);refine⟨h,fun _=>⟨by omega,by rw[show (i).toNat=i' by omega];exact M⟩,?_⟩;try conv=>cbv
 intro b5 ag;have aV:=ag.eq;have f19:=ag.lt;conv=>cbv
 intro aG ah;conv=>cbv
 have ah:=wrap_u64 ah;intro aH j;conv=>cbv
 have j:=wrap_u64 j;obtain⟨av,ep,j⟩:∃p:Nat,p=h.toNat*d/\aH=p:=⟨_,rfl,by rw[j,(by omega:aG=(h.toNat:Int)),eg,<-Int.natCast_mul];have:=Nat.mul_le_mul (by omega:h.toNat<=4294967295) (by omega:d<=4294967295);clear hinv;omega⟩
 have bp:av<=4294967295*4294967295:=by rw[ep];exact Nat.mul_le_mul (by omega) (by omega)
 intro b6 R;conv=>cbv
 have R:=wrap_u64 R;refine AH ?_;intro ao aP;conv=>cbv
 obtain⟨H,r⟩:=AL (l:=o) (i:=ao) (by omega);refine⟨H,fun _=>r,?_⟩;try conv=>cbv
 intro b7 ai;have aw:=ai.eq;have f29:=ai.lt;conv=>cbv
 intro b8 S;conv=>cbv
 have S:=wrap_u64 S;intro b9 T;conv=>cbv
 have T:=wrap_u32 T;intro ba U;conv=>cbv
 have U:=wrap_u64 U;intro bb V;conv=>cbv
 have V:=wrap_u64 V;intro aI W;conv=>cbv
 have W:=wrap_u32 W;refine AH ?_;intro aq aQ;conv=>cbv
 obtain⟨A,m⟩:=B4 (n:=aI) (by omega);have ad:=m.eq;have aL:=m.lt;refine⟨A,fun _=>⟨by show _<List.length (α:=UInt32) o;(first | omega | (simp;omega)),B3 m⟩,?_⟩;intro (aa:List UInt32) (a:aa=List.set (α:=UInt32) o aq A);have aN:aa.length=o.length:=by rw[a,List.length_set]
 conv=>cbv
 intro bc X;conv=>cbv
 refine AH ?_;have X:=Dt (p:=4294967296) X rfl;intro bd Y;conv=>cbv
 refine AH ?_;have Y:=Dt (p:=9223372036854775808) Y rfl;intro G Z;conv=>cbv
 have Z:=wrap_u64 Z;intro aJ aY;conv=>cbv
 refine AI ?_;refine⟨v.length-(i'+1),?_,?_⟩
 ·omega
 rw[a7];have N:aq=off+i':=by omega
 have O:ao=off+i':=by omega
 rw[O] at r;have hx:=Lt F r;have a8:=gP (x:=H.toNat) (p:=av) (c:=C) (w:=A.toNat) (by omega) (by omega) (by omega) (by rw[R,j,ec]) T U (by rw[S,aw]) V W ad X Y Z;have hw:A.toNat+h.toNat*d+C=H.toNat+4294967296*G.toNat:=by rw[<-ep];obtain⟨h1,h2⟩:=a8;clear hinv;omega
 refine⟨aa,G.toNat,i'+1,G,L,aJ,rfl,rfl,⟨by omega,hL,⟨by omega⟩,by omega,⟨by have:=a8.1;omega⟩,by have:=a8.1;omega⟩,⟨by rw[a,N,Gi];exact ht,by rw[a,N,List.drop_set_of_lt (by omega)];exact Lv F⟩,?_,rfl⟩;have hs:=gN (o:=o.drop off) (w:=A) (i:=i') (xi:=H.toNat) (yi:=h.toNat) (D:=d) (Ew:=C) (Ey:=G.toNat) (by rw[List.length_drop];omega) hinv hw;rw[a,N,Lu,CB M,M5 (l:=l.drop off) (by rw[L8];exact hx)];exact hs
theorem eH (hlen:len=v.length+1) (ay:off+len<=l.length) (aH:l.length<=140737488355328) (aI:z.length=l.length) (ab:z.take off=l.take off) (ad:z.drop (off+len)=l.drop (off+len)) (G:AE ((z.drop off).take len)=(AE ((l.drop off).take len)+AE v)%2^(32*len)):Gk Tryz.prog 409 (.AQ .u32 0 0 off len) (.arr 0 .u32 l) [.one (.sl .u32 v)] (.AJ []) (.arr 0 .u32 z):=by
 refine J6 Tryz.func409 (by kernel_rfl) rfl fun E hE=>?_
 conv=>cbv
 intro n8 h8;have e8:=h8.eq;have f8:=h8.le;conv=>cbv
 refine .inr ?_
 obtain⟨J0,F⟩:∃J:List AV->List AG->Nat->Prop,J=fun vs bl k=>∃(o:List UInt32) (h i':Nat) (c L i:Int),vs=[.one (.AQ .u32 0 0 off len),.one (.sl .u32 v),.one (.int .u64 c),.one (.sl .u32 v),.one (.int .i64 L),.one (.int .i64 i)]/\
  bl=[.arr 0 .u32 o]/\(o.length=l.length/\Cl L v.length/\AR i i'/\i'<=v.length/\AR c h/\h<=1)/\(o.take off=l.take off/\o.drop (off+i')=l.drop (off+i'))/\
  AE ((o.drop off).take i')+2^(32*i')*h=AE ((l.drop off).take i')+AE (v.take i')/\k=v.length-i':=⟨_,rfl⟩
 refine⟨[],[0,1,4,7,8,9],[0],J0,⟨v.length-0,by rw[F];exact⟨l,0,0,0,n8,0,rfl,rfl,⟨rfl,h8,Ak 0,by omega,Ak 0,by omega⟩,⟨rfl,rfl⟩,by simp[AE],rfl⟩⟩,?_⟩;intro vs bl aJ hj;rw[F] at hj;obtain⟨o,h,i',c,L,i,rfl,rfl,⟨ho,hL,hi,aF,hc,aE⟩,⟨ht,t⟩,hinv,aG⟩:=hj;conv=>cbv
 have eL:=hL.eq;have ei:=hi.eq;have ec:=hc.eq;intro ag M;conv=>cbv
 cases ag <;> conv=>cbv
 ·have af:=AY M;rintro aQ ⟨aB,f34⟩;conv=>cbv
  refine AH ?_;intro a8 aw;conv=>cbv
  obtain⟨g,r⟩:=AL (l:=o) (i:=a8) (by omega);refine⟨g,fun _=>r,?_⟩;try conv=>cbv
  intro aR X;have aC:=X.eq;have f36:=X.lt;conv=>cbv
  intro aS Y;conv=>cbv
  have Y:=wrap_u32 Y;intro aj Z;conv=>cbv
  have Z:=wrap_u32 Z;refine AH ?_;intro aa ax;conv=>cbv
  obtain⟨A,m⟩:=B4 (n:=aj) (by omega);have al:=m.eq;have ao:=m.lt;refine⟨A,fun _=>⟨by show _<List.length (α:=UInt32) o;(first | omega | (simp;omega)),B3 m⟩,?_⟩;intro (a:List UInt32) (f:a=List.set (α:=UInt32) o aa A);have ar:a.length=o.length:=by rw[f,List.length_set]
  conv=>cbv
  have hk:i'=v.length:=by omega
  subst hk;have C:aa=off+v.length:=by omega
  have D:a8=off+v.length:=by omega
  rw[D] at r;have hx:=Lt t r;have a5:A.toNat=(g.toNat+h)%4294967296:=by clear hinv G;omega
  have a2:∀y:List UInt32,AE ((y.drop off).take len)<2^(32*len):=fun y=>Nat.lt_of_lt_of_le (CI _) (Nat.pow_le_pow_right (by decide) (by rw[List.length_take];omega))
  have a1:AE ((a.drop off).take len)=(AE ((l.drop off).take len)+AE v)%2^(32*len):=by
   have h0:=a2 a
   have e1:AE ((a.drop off).take len)+2^(32*len)*((g.toNat+h)/4294967296)=AE ((l.drop off).take len)+AE v:=by
    rw[hlen,M5 (l:=l.drop off) (by rw[L8];exact hx),f,C,Lu,EI (by rw[List.length_drop];omega),Dp,List.length_take,List.length_drop,Nat.min_eq_left (by omega),Dg];rw[List.take_length] at hinv;have hd:=Nat.div_add_mod (g.toNat+h) 4294967296;rw[<-a5] at hd
    generalize (g.toNat+h)/4294967296=Q at*
    generalize 2^(32*v.length)=P at*
    have e:P*(4294967296*Q+A.toNat)=P*(g.toNat+h):=by rw[hd]
    clear a5 G h0 a2
    grind
   rw[<-e1,Nat.add_mul_mod_self_left,Nat.mod_eq_of_lt h0]
  have ae:a=z:=WA (off:=off) (len:=len) (by omega) (by rw[ab,f,C,Gi,ht]) (by rw[ad,f,C,List.drop_set_of_lt (by omega),hlen,<-Nat.add_assoc];exact Lv t) (by omega) (by rw[a1,G]);refine⟨fun _=>⟨trivial,rfl,by simp⟩,fun _=>by show some (AG.arr 0 .u32 a)=_;rw[ae]⟩
 have af:=AZ M;refine .inr ?_;obtain⟨I,B⟩:=AL (l:=v) (i:=i') (by omega);refine⟨I,fun _=>⟨by omega,by rw[show (i).toNat=i' by omega];exact B⟩,?_⟩;try conv=>cbv
 intro aK N;have az:=N.eq;have f13:=N.lt;conv=>cbv
 refine AH ?_;intro a6 au;conv=>cbv
 obtain⟨K,q⟩:=AL (l:=o) (i:=a6) (by omega);refine⟨K,fun _=>q,?_⟩;try conv=>cbv
 intro aL O;have aA:=O.eq;have f18:=O.lt;conv=>cbv
 intro aM R;conv=>cbv
 have R:=wrap_u64 R;intro aN S;conv=>cbv
 have S:=wrap_u64 S;intro aO T;conv=>cbv
 have T:=wrap_u64 T;intro aP U;conv=>cbv
 have U:=wrap_u64 U;intro ah V;conv=>cbv
 have V:=wrap_u32 V;refine AH ?_;intro a7 av;conv=>cbv
 obtain⟨x,j⟩:=B4 (n:=ah) (by omega);have ak:=j.eq;have an:=j.lt;refine⟨x,fun _=>⟨by show _<List.length (α:=UInt32) o;(first | omega | (simp;omega)),B3 j⟩,?_⟩;intro (H:List UInt32) (d:H=List.set (α:=UInt32) o a7 x);have aq:H.length=o.length:=by rw[d,List.length_set]
 conv=>cbv
 intro u W;conv=>cbv
 refine AH ?_;have W:=Dt (p:=4294967296) W rfl;intro ai aD;conv=>cbv
 refine AI ?_;refine⟨v.length-(i'+1),?_,?_⟩
 ·omega
 rw[F];have C:a7=off+i':=by omega
 have D:a6=off+i':=by omega
 rw[D] at q;have hx:=Lt t q;have hw:x.toNat+4294967296*u.toNat=K.toNat+I.toNat+h:=by clear hinv;omega
 refine⟨H,u.toNat,i'+1,u,L,ai,rfl,rfl,⟨by omega,hL,⟨by omega⟩,by omega,⟨by omega⟩,by omega⟩,⟨by rw[d,C,Gi];exact ht,by rw[d,C,List.drop_set_of_lt (by omega)];exact Lv t⟩,?_,rfl⟩;have hs:=ZW (o:=o.drop off) (w:=x) (i:=i') (xi:=K.toNat) (yi:=I.toNat) (Le:=h) (Lf:=u.toNat) (by rw[List.length_drop];omega) hinv hw;rw[d,C,Lu,CB B,M5 (l:=l.drop off) (by rw[L8];exact hx)];exact hs
end Go.Abs
namespace Go.Abs
open Go.RowKit Go.Shelf Go.Proofs
attribute [local go_sem] Oper.semAt_some
def upto {α:Type} (f:Nat->α) (k:Nat):List α:=(List.range k).map f
theorem W9 {α:Type} (f:Nat->α) (k:Nat):upto f (k+1)=upto f k++[f k]:=by simp[upto,List.range_succ]
theorem gm {α:Type} (f:Nat->α) (k:Nat):(upto f k).length=k:=by simp[upto]
def bk (l:List UInt32) (k:Nat):Int×UInt32:=((l.length:Int)-1-k,l[l.length-1-k]?.getD 0)
structure Fl (n b:Nat) (A B:World):Prop where
 below:Below n A B
 block:B.heap[b]? =A.heap[b]?
theorem Fl.refl (n b:Nat) (A:World):Fl n b A A:=⟨Below.refl _ _,rfl⟩
theorem Fl.trans {n b:Nat} {A B C:World} (h:Fl n b A B) (k:Fl n b B C):Fl n b A C:=⟨h.1.trans k.1,k.2.trans h.2⟩
theorem Zm (F:Fence) (n:Nat) (h7:F.fn 417) (hro:F.round=none) (hn:1<=n) (l Bs n₀ b off cap:Nat) (zs:List UInt32) (hreach:zs.length<=140737488351232) (hb:b<n₀) (J Jx:List (Int×UInt32)->World->Prop)
  (hY:∀pre x W,J pre W->pre.length<zs.length->YieldAt F (n-1) Tryz.prog l #[.int .i64 x.1,.int .u32 (x.2.toNat:Int)] W fun e W'=>
   (e= .returned (.bool true)/\J (pre++[x]) W'/\Fl n₀ Bs W W')\/(e= .returned (.bool false)/\Jx (pre++[x]) W'))
  (W:World) (hBs:W.cell? ⟨Bs,0,none⟩=some (.slice (some ⟨b,off,none⟩) zs.length cap)) (hc:∀j,j<zs.length->W.cell? ⟨b,off+j,none⟩=some (.int .u32 ((zs[j]?.getD 0).toNat:Int))) (h0:J [] W):
  CallsIn F n Tryz.prog 417 #[.func (.yield l) #[] #[],.pointer (some ⟨Bs,0,none⟩)] W fun e W'=>(∃v,e= .returned v)/\
   ((∃ys,ys=upto (bk zs) zs.length/\J ys W')\/(∃pre,(∃k,k<=zs.length/\pre=upto (bk zs) k)/\Jx pre W')):=by
 refine callsIn_of_wp Tryz.func417 rfl h7 ?_ hro;simp only[Tryz.ntmps417,List.size_toArray,List.length_cons,List.length_nil,Nat.reduceAdd,Nat.reduceSub,Array.replicate_succ,Array.replicate_zero,List.push_toArray,List.append_toArray,List.nil_append,List.cons_append]
 gi_wp2
 gi_loopw [3] (fun i wr=>∃k:Nat,k<=zs.length/\i= .int .i64 ((zs.length:Int)-1-k)/\J (upto (bk zs) k) wr/\Fl n₀ Bs W wr)
  (fun i _=>(intOf i+1).toNat)
 case atStart=>exact⟨0,Nat.zero_le _,by simp,h0,Fl.refl _ _ _⟩
 case round=>
  obtain⟨k,hk,rfl,hJs,hnx⟩:=hrel
  by_cases hlt:k<zs.length
  ·obtain⟨j,ej,hjl,ex⟩:∃j:Nat,(zs.length:Int)-1-k=(j:Int)/\j<zs.length/\bk zs k=((j:Int),zs[j]?.getD 0):=
    ⟨zs.length-1-k,by omega,by omega,by unfold bk;rw[show ((zs.length:Int)-1-k)=((zs.length-1-k:Nat):Int) by omega]⟩
   have hcx:wr.cell? ⟨b,off+j,none⟩=some (.int .u32 ((zs[j]?.getD 0).toNat:Int)):=(hnx.below.cell (p:=⟨b,off+j,none⟩) hb).trans (hc j hjl);have hbx:wr.cell? ⟨Bs,0,none⟩=some (.slice (some ⟨b,off,none⟩) zs.length cap):=(World.cell?_of_block (a:=⟨Bs,0,none⟩) hnx.block).trans hBs;obtain⟨fn,tmps,assign,body,hy,hR⟩:=hY _ (bk zs k) wr hJs (by rw[gm];exact hlt);rw[ex] at hy hR;have eg:zs[j]?.getD 0=zs[j]:=by simp[hjl]
   rw[eg] at hy hcx
   dsimp only at hy
   rw[ej];have hmz:((j:Int):Int)-1+1=j:=by omega
   gi_wp2
   refine hR.mono ?_;rintro e W3 (⟨rfl,hJ3,hk3⟩ |⟨rfl,hJx3⟩)
   ·gi_wp2
    go_roundw
    case rel=>exact⟨k+1,by omega,by congr 1;omega,by rw[W9,ex];exact hJ3,hnx.trans hk3⟩
    case measure=>simp[intOf]
   gi_wp2
   refine bodyPost_ret (results_none rfl _ _ _) rfl ?_;exact⟨⟨_,rfl⟩,.inr ⟨_,⟨k+1,by omega,by rw[W9,ex]⟩,hJx3⟩⟩
  obtain rfl:k=zs.length:=by omega
  rw[show (zs.length:Int)-1-zs.length= -1 by omega]
  gi_wp2
  go_end0
  exact⟨⟨_,rfl⟩,.inl ⟨_,rfl,hJs⟩⟩
theorem Zn (F:Fence) (n:Nat) (h7:F.fn 417) (hro:F.round=none) (l Bs:Nat) (base:Option Addr) (cap:Nat) (J:List (Int×UInt32)->World->Prop) (W:World) (hBs:W.cell? ⟨Bs,0,none⟩=some (.slice base 0 cap)) (h0:J [] W):
  CallsIn F n Tryz.prog 417 #[.func (.yield l) #[] #[],.pointer (some ⟨Bs,0,none⟩)] W fun e W'=>(∃v,e= .returned v)/\J [] W':=by
 refine callsIn_of_wp Tryz.func417 rfl h7 ?_ hro;simp only[Tryz.ntmps417,List.size_toArray,List.length_cons,List.length_nil,Nat.reduceAdd,Nat.reduceSub,Array.replicate_succ,Array.replicate_zero,List.push_toArray,List.append_toArray,List.nil_append,List.cons_append]
 gi_wp2
 gi_loopw [3] (fun i wr=>i= .int .i64 (-1)/\J [] wr) (fun _ _=>0)
 case atStart=>exact⟨by simp,h0⟩
 case round=>
  obtain⟨rfl,hJs⟩:=hrel
  gi_wp2
  go_end0
  exact⟨⟨_,rfl⟩,hJs⟩
theorem Zo (F:Fence) (n:Nat) (h5:F.fn 411) (hro:F.round=none) (a:Option Addr) (len cap:Nat) (w:World):
  CallsIn F n Tryz.prog 411 #[.slice a len cap] w fun e w'=>e= .returned (.func (.func 417) #[] #[.pointer (some ⟨w.heap.size,0,none⟩)])/\w'=w.alloc (.cells #[.slice a len cap] 75):=by
 refine callsIn_of_wp Tryz.func411 rfl h5 ?_ hro;simp only[Tryz.ntmps411,List.size_toArray,List.length_cons,List.length_nil,Nat.reduceAdd,Nat.reduceSub,Array.replicate_succ,Array.replicate_zero,List.push_toArray,List.append_toArray,List.nil_append,List.cons_append]
 gi_wp2
 go_ret
 exact⟨rfl,rfl⟩
def Words (n:Nat) (W:World) (sv:Value) (zs:List UInt32):Prop:=
 (∃base cap,sv= .slice base 0 cap/\zs=[])\/∃b off cap,sv= .slice (some ⟨b,off,none⟩) zs.length cap/\b<n/\∀j,j<zs.length->W.cell? ⟨b,off+j,none⟩=some (.int .u32 ((zs[j]?.getD 0).toNat:Int))
theorem Words.below {n:Nat} {A B:World} (h:Below n A B) {d:Value} {f:List UInt32}:Words n A d f->Words n B d f
 | .inl e=> .inl e
 | .inr ⟨b,off,cap,e,a,g⟩=> .inr ⟨b,off,cap,e,a,fun j k=>(h.cell (p:=⟨b,off+j,none⟩) a).trans (g j k)⟩
theorem Zp (F:Fence) (n:Nat) (u:F.fn 417) (m:F.round=none) (K:1<=n) (g a:Nat) (A:Value) (f:List UInt32) (d:f.length<=140737488351232) (w:World) (q:g<w.heap.size) (h:a<=w.heap.size)
  (H:w.cell? ⟨g,0,none⟩=some A) (C:Words a w A f):
  SeqStopsK F n Tryz.prog 417 #[.pointer (some ⟨g,0,none⟩)] (fun x:Int×UInt32=> #[Value.int .i64 x.1,Value.int .u32 (x.2.toNat:Int)]) (Fl a g) (fun ys=>ys=upto (bk f) f.length)
   (fun pre=>∃k,k<=f.length/\pre=upto (bk f) k) f.length w:=fun l J B W y _ _ D t=>by
 have j:=(y.cell (p:=⟨g,0,none⟩) q).trans H;rcases C.below (y.mono h) with⟨base,cap,rfl,rfl⟩ |⟨b,off,cap,rfl,G,r⟩
 ·exact (Zn F n u m l g base cap J W j t).mono fun e L ⟨he,I⟩=>⟨he,.inl ⟨_,rfl,I⟩⟩
 exact Zm F n u m K l g a b off cap f d G J B D W j r t
def Ic (s:Int) (x:Int×UInt32):Int:=bits BinOp.or IntKind.u64 (IntKind.u64.wrap (s*4294967296)) (IntKind.u64.wrap (x.2.toNat:Int))
def Iu (pre:List (Int×UInt32)):Int:=pre.foldl Ic 0
theorem bF (pre:List (Int×UInt32)) (x:Int×UInt32):Iu (pre++[x])=Ic (Iu pre) x:=by simp[Iu]
theorem gX (F:Fence) (n:Nat) (h3:F.fn 398) (h5:F.fn 411) (h7:F.fn 417) (hro:F.round=none) (hn:3<=n) (a:Option Addr) (len cap:Nat) (zs:List UInt32) (hreach:zs.length<=140737488351232) (w:World) (hI:Words w.heap.size w (.slice a len cap) zs):
  CallsIn F n Tryz.prog 398 #[.slice a len cap] w fun e W'=>e= .returned (.int .u64 (Iu (upto (bk zs) zs.length)))/\Below w.heap.size w W':=by
 have h1:1<=n:=by omega
 refine callsIn_of_wp_marks Tryz.func398 rfl h3 ?_ hro;simp only[Tryz.ntmps398,List.size_toArray,List.length_cons,List.length_nil,Nat.reduceAdd,Nat.reduceSub,Array.replicate_succ,Array.replicate_zero,List.push_toArray,List.append_toArray,List.nil_append,List.cons_append]
 gi_wp2_with (gi_at_call 411;refine (Zo F (n-1) h5 hro _ _ _ _).mono ?_;rintro e w' ⟨rfl,rfl⟩)
 have bS:=Boxed.new w 216 (.int .u64 0);have bN:=Boxed.new (w.alloc (.cells #[.int .u64 0] 216)) 75 (.slice a len cap);rw[World.size_alloc] at bN;have hB0:Below w.heap.size w ((w.alloc (.cells #[.int .u64 0] 216)).alloc (.cells #[.slice a len cap] 75)):=((Below.refl _ w).alloc (Nat.le_refl _) _).alloc (by simp) _
 refine wpIn_rangeFunc_ownG hro h1 (gf:=417) (lb:= #[.pointer (some ⟨w.heap.size+1,0,none⟩)]) rfl h7 (enters_of Tryz.func417 (by kernel_rfl) rfl)
  (Zp F (n-1) h7 hro (by omega) (w.heap.size+1) w.heap.size _ zs hreach _ (by simp) (by simp;omega) bN.cell (hI.below hB0)) Fl.trans (fun W l o o' hl h hc hw=>⟨belowK_b (by simp;omega) W l o o' hl h hc hw,World.putObj_heap_other (by simp at hl;omega)⟩) (Below.refl _ _) (fun _=>rfl)
  (fun pre W=>(W.cell? ⟨w.heap.size,0,none⟩=some (.int .u64 (Iu pre))/\W.frozen? ⟨w.heap.size,0,none⟩=false)/\Below w.heap.size w W)
  (fun _ _ _=>False)
  (OwnFrom.and (Own.from (fun s A B row hs hg hr=>⟨cell_kept hs.1 hg hr,(frozen_kept hs.1 hg hr).trans hs.2⟩) _) (ownFrom_below (Nat.le_refl _) (by simp;omega)))
  (fun _ _ _ _ _ hs _ _=>hs)
  ⟨⟨(bS.alloc _).cell,(bS.alloc _).frozen⟩,hB0⟩
  (fun x=>{tmps:= #[.slice a len cap,undef,.int .u64 0,.pointer (some ⟨w.heap.size,0,none⟩),undef,.int .u32 (x.2.toNat:Int),.slice a len cap,.func (.func 417) #[] #[.pointer (some ⟨w.heap.size+1,0,none⟩)],.int .i64 x.1,.int .u32 (x.2.toNat:Int),undef,undef,undef,undef,undef,undef],defers:=[]}) ?assign ?body ?done ?stop
 case assign=>
  intro l x W K hK
  gi_wp2
  exact hK
 case body=>
  rintro l pre x W ⟨⟨hc,hf⟩,hB⟩ _
  gi_wp2
  exact⟨(KeepsOthers.setCell _ _ _).from _,⟨(Below.refl w.heap.size W).setCell (p:=⟨w.heap.size,0,none⟩) (Nat.le_refl _) _,Below.heap_setCell W _ _ _ (by simp)⟩,⟨by rw[bF];exact World.cell?_setCell_same' _ _ _ (by rw[hc];rfl),by rw[World.frozen?_setCell];exact hf⟩,hB.setCell (p:=⟨w.heap.size,0,none⟩) (Nat.le_refl _) _⟩
 case done=>
  rintro D ys W hD rfl ⟨⟨hc,_⟩,hB⟩ hK
  gi_wp2
  refine⟨by simp,.inl ⟨_,_,rfl,run_takeDeferred hK,?_⟩⟩;exact⟨_,results_tmp rfl _ _ _,rfl,hB.trans (belowK_b (w:=w) (Nat.le_refl _) W D _ _ (by simp at hD;omega) hK rfl rfl)⟩
 case stop=>
  rintro D c pre W _ _ h _;exact h.elim
theorem Nf {s:Int} {p:Nat} (x:Int×UInt32) (f:s=p) (d:p<4294967296):Ic s x=((x.2.toNat+4294967296*p:Nat):Int):=by
 have g:=x.2.toNat_lt;refine IE (a:=IntKind.u64.wrap (s*4294967296)) (b:=IntKind.u64.wrap (x.2.toNat:Int)) rfl ?_ ?_ d g
 ·rw[wrap_u64 (rfl:IntKind.u64.wrap (s*4294967296)=_),f];omega
 rw[wrap_u64 (rfl:IntKind.u64.wrap (x.2.toNat:Int)=_)];omega
theorem bG:∀(l:List UInt32),l.length<=2->Iu (upto (bk l) l.length)=(AE l:Int)
 | [],_=>rfl
 | [x],_=>by
  show Ic 0 (bk [x] 0)=_
  refine (Nf (p:=0) _ rfl (by decide)).trans ?_;simp[bk,AE]
 | [x,y],_=>by
  show Ic (Ic 0 (bk [x,y] 0)) (bk [x,y] 1)=_
  have a:=Nf (p:=0) (bk [x,y] 0) rfl (by decide);have d:=y.toNat_lt;rw[Nf (p:=y.toNat) _ (by simpa [bk] using a) d];simp[bk,AE]
 | _::_::_::_,h=>by simp at h
theorem M7 {l:List UInt32} {n:Int} {k:Nat} (r:AE l=k) (t:l.length<=2) (u:AR n k):CF 398 [.one (.sl .u32 l)] (.one (.int .u64 n)):=by
 obtain⟨c,q⟩:∃c,Tryz.f398.body=some c:=⟨_,rfl⟩
 refine⟨⟨Tryz.f398,c,by kernel_rfl,by rfl,q⟩,⟨rfl,rfl⟩,fun w I vs m _ a=>?_⟩
 match vs,a with
 | [v],a=>
  rcases a.1 with d |⟨base,cap,A,B,C,f⟩
  ·cases d
  obtain rfl:v= .slice base l.length cap:=by simpa using A
  have hw:Words w.heap.size w (.slice base l.length cap) l:=by
   rcases f with rfl |⟨b,off,rfl,p,g⟩
   ·exact .inl ⟨base,cap,rfl,rfl⟩
   refine .inr ⟨b,off,cap,rfl,m b p,fun j d=>?_⟩;obtain⟨us,hu,x⟩:=g j l[j] (by simp[d]);have hu:us=[.int .u32 (l[j].toNat:Int)]:=hu;have:=x 0 (.int .u32 (l[j].toNat:Int)) (by rw[hu];rfl);have e:l[j]?.getD 0=l[j]:=by simp[d]
   rw[e];have y:T.u32.size=1:=rfl;rw[y] at this;have this:w.cell? ⟨b,off+j*1+0,none⟩=_:=this;simpa using this
  refine (callsIn_wide.1 (gX Fence.wide 3 trivial trivial trivial rfl (Nat.le_refl _) base l.length cap l (by omega) w hw)).mono ?_;rintro e w' ⟨rfl,h⟩;refine⟨_,none,rfl,h,.inr ?_⟩
  show _=_
  rw[bG l t,r,u.eq]
 | [],a=>exact a.elim
 | _::_::_,a=>exact a.2.elim
end Go.Abs
namespace Go.Abs
open Go.RowKit Go.Shelf Go.Proofs
theorem bitLen_spec {x:Nat} (h:x<4294967296) (g:x≠0):2^(Lib.bitLen x-1)<=x/\x<2^Lib.bitLen x/\1<=Lib.bitLen x/\Lib.bitLen x<=32:=by
 have key:∀(f x:Nat),x<2^f->x≠0->2^(Lib.bitLenAux f x-1)<=x/\x<2^Lib.bitLenAux f x/\1<=Lib.bitLenAux f x/\Lib.bitLenAux f x<=f:=by
  intro f
  induction f with
  | zero=>intro x h g;simp at h;exact absurd h g
  | succ f p=>
   intro x h g;simp only[Lib.bitLenAux,if_neg g]
   by_cases j:x/2=0
   ·rw[j];have:Lib.bitLenAux f 0=0:=by cases f <;> simp[Lib.bitLenAux]
    rw[this];simp;omega
   obtain⟨a,b,c,d⟩:=p (x/2) (by rw[Nat.pow_succ] at h;omega) j
   generalize Lib.bitLenAux f (x/2)=m at*
   obtain⟨m,rfl⟩:∃k,m=k+1:=⟨m-1,by omega⟩
   rw[show 1+(m+1)=m+1+1 by omega,Nat.pow_succ];simp only[Nat.add_sub_cancel] at a ⊢;rw[Nat.pow_succ] at b ⊢;omega
 have e:Lib.bitLen x=Lib.bitLenAux 32 x:=Lib.bitLenAux_fuel 32 x (by simpa using h) 64 (by decide);rw[e];exact key 32 x (by simpa using h) g
theorem QX {x c:Int} {k:Nat} (d:AR x k) (p:k<4294967296) (g:AR c (Lib.bitLen k)):CF 416 [.one (.int .u32 x)] (.one (.int .i64 c)):=by
 obtain⟨b,f⟩:∃b,Tryz.f416.body=some b:=⟨_,rfl⟩
 refine⟨⟨Tryz.f416,b,by kernel_rfl,by rfl,f⟩,⟨rfl,rfl⟩,fun w I vs m _ a=>?_⟩
 match vs,a with
 | [v],a=>
  rcases a.1 with h | j
  ·cases h
  obtain rfl:v= .int .u32 x:=j;have:=d.eq;refine (cQ x w).mono ?_;rintro e w' ⟨rfl,rfl⟩;refine⟨_,none,rfl,Below.refl _ _,.inr ?_⟩
  show _=_
  rw[g.eq,d.eq];rfl
 | [],a=>exact a.elim
 | _::_::_,a=>exact a.2.elim
end Go.Abs
