/- Part 24 of a proof. Conditions: each theorem's own. -/
import Derived.Test.YtfilemenbchajaaGreatPk20
import Derived.Test.YtfilemenbchajaaGreatPk22
set_option linter.all false
set_option maxHeartbeats 8000000
set_option maxRecDepth 20000
open Go.Proofs
namespace Go.Abs
open Go.RowKit
variable {c:Int} {l:List UInt32} {n x:Nat}
theorem cF (h:0<x):CW x=CW (x/2)+1:=by
 by_cases g:x=1
 ·subst g;decide
 have f:x/2≠0:=by omega
 unfold CW;rw[if_neg (by omega),if_neg f];have a:=Nat.log2_self_le f;have b:=Nat.lt_log2_self (n:=x/2);have c:Nat.log2 (x/2)+1<=Nat.log2 x:=(Nat.le_log2 (by omega)).2 (by rw[Nat.pow_succ];omega);have d:Nat.log2 x<Nat.log2 (x/2)+2:=(Nat.log2_lt (by omega)).2 (by rw[Nat.pow_succ,Nat.pow_succ];rw[Nat.pow_succ] at b;omega);omega
theorem MM (h:0<x):2^(CW x-1)<=x/\x<2^CW x/\1<=CW x:=by
 unfold CW;rw[if_neg (by omega)];exact⟨by rw[Nat.add_sub_cancel];exact Nat.log2_self_le (by omega),Nat.lt_log2_self,by omega⟩
theorem Tu (h:x<4294967296):CW x<=32:=by
 unfold CW
 split
 ·omega
 rename_i a
 have:=(Nat.log2_lt a).2 (show x<2^32 by omega);omega
theorem Yr {y r:Nat} (b:n<=32):(x+4294967296*(y+4294967296*r))/2^n%4294967296=(x+4294967296*y)/2^n%4294967296:=by
 have a:2^n*2^(32-n)=4294967296:=by rw[<-Nat.pow_add,show n+(32-n)=32 by omega]
 have e:x+4294967296*(y+4294967296*r)=x+4294967296*y+2^n*(2^(32-n)*r*4294967296):=by
  rw[<-Nat.mul_assoc,<-Nat.mul_assoc,a];grind
 rw[e,Nat.add_mul_div_left _ _ (Nat.two_pow_pos n),Nat.add_mul_mod_self_right]
theorem cm {n a b:Int} {p q:Nat} (h:n=IntKind.u64.wrap (BitVec.ofInt IntKind.u64.bits a ||| BitVec.ofInt IntKind.u64.bits b).toNat) (ha:a=q) (hb:b=((p*4294967296:Nat):Int)) (g:p<4294967296) (f:q<4294967296):n=((q+4294967296*p:Nat):Int):=by
 rw[UX h ha hb (by omega) (by omega),Nat.mul_comm];have:=I9 (a:=q) (b:=p) (d:=32) f;exact congrArg _ this
theorem gO {X V top high P R0 V0:Nat} (f:X=top*P+R0) (hR:R0<P) (hV:V=high*P+V0) (g:0<high):X/V<=top/high:=by
 have b:0<P:=by omega
 have a:X/V<=X/(high*P):=Nat.div_le_div_left (by omega) (Nat.mul_pos g b);have d:X/(high*P)=X/P/high:=by rw[Nat.mul_comm,Nat.div_div_eq_div_mul]
 have h3:X/P=top:=by rw[f,Nat.mul_comm,Nat.mul_add_div b,Nat.div_eq_of_lt hR,Nat.add_zero]
 rw[d,h3] at a;exact a
theorem Q6 (Z:l.length<=2) (K:AS c (AB l)):CF 339 [.one (.sl .u32 l)] (.one (.int .u64 c)):=by
 refine AH Tryz.func339 (by kernel_rfl) rfl fun E Y=>?_
 conv=>cbv
 rintro n6 ⟨V,f6⟩;conv=>cbv
 intro T X;conv=>cbv
 refine g1 (by omega) ?_;refine .inr ?_;obtain⟨F,f⟩:=xJ fun vs G k=>∃(b g:Nat) (r j:Int),vs=[.one (.sl .u32 l),.one (.int .u64 r),.one (.int .i64 j)]/\(AS (j+1) b/\b<=l.length/\AS r g)/\g=AB (l.drop b)/\k=b
 refine⟨[0,3,4],[],F,⟨l.length,by rw[f];exact⟨l.length,0,0,T,rfl,⟨⟨by omega⟩,by omega,BC 0⟩,by rw[List.drop_length];rfl,rfl⟩⟩,?_⟩;intro vs G Q v;rw[f] at v;obtain⟨b,g,r,j,rfl,⟨v,L,O⟩,hinv,N⟩:=v;conv=>cbv
 have W:=v.eq;have I:=O.eq;intro U C;conv=>cbv
 cases U <;> conv=>cbv
 ·have P:=EC C;have M:b=0:=by omega
  rw[M,List.drop_zero] at hinv;exact fA ⟨⟨rfl,congrArg _ (by rw[K.eq,I,hinv]),trivial⟩,trivial⟩ rfl (by simp)
 have P:=ED C;refine .inr ?_;intro y h;conv=>cbv
 refine g2 (by omega) ?_;have h:=ID (p:=4294967296) h rfl;obtain⟨i',rfl⟩:∃i',b=i'+1:=⟨b-1,by omega⟩
 have D:g<4294967296:=by have:=CL (l.drop (i'+1));rw[<-hinv] at this;exact Nat.lt_of_lt_of_le this (Nat.pow_le_pow_right (by decide) (by rw[List.length_drop];omega:32*(l.drop (i'+1)).length<=32))
 obtain⟨t,a⟩:=AG (l:=l) (i:=i') (by omega);refine⟨t,fun _=>⟨by omega,by rw[show (j).toNat=i' by omega];exact a⟩,?_⟩;try conv=>cbv
 intro R m;have H:=m.eq;have f17:=m.lt;conv=>cbv
 intro S s;conv=>cbv
 have s:=wrap_u64 s;intro A d;conv=>cbv
 have B:y=((g*4294967296:Nat):Int):=by clear hinv;omega
 have d:=H8 (p:=g) (q:=t.toNat) d (by omega) (by omega) (by omega) (by omega);intro w J;conv=>cbv
 refine g1 (by omega) ?_;refine⟨i',?_,?_⟩
 ·omega
 rw[f];refine⟨i',_,A,w,rfl,⟨⟨by omega⟩,by omega,⟨d⟩⟩,?_,rfl⟩;rw[DE a,hinv]
theorem Xt {z1:List UInt32} {d:Int} {b:Nat} (hd:AS d b) (hb:0<b) (aA:b<4294967296) (a7:z1=AR (AB l/b)) (hc:AS c (AB l%b)) (sl:l.length<=17592186044416):CF 340 [.one (.sl .u32 l),.one (.int .u32 d)] (.AE [(false,[.sl .u32 z1]),(false,[.int .u32 c])]):=by
 have ed:=hd.eq;refine AH Tryz.func340 (by kernel_rfl) rfl fun E hE=>?_
 conv=>cbv
 rintro aF ⟨av,f10⟩;conv=>cbv
 refine⟨fun _=>⟨by omega,by omega,by show _*4<=140737488355328;omega⟩,?_⟩;intro M (N:List UInt32) D;have au:=D.1;have g:N=List.replicate M (0:el .u32):=D.2;have ao:N.length=M:=by rw[g,List.length_replicate]
 conv=>cbv
 rintro aG ⟨aw,f13⟩;conv=>cbv
 intro ab ay;conv=>cbv
 refine g1 (by omega) ?_;refine .inr ?_
 obtain⟨J0,I⟩:∃J:List AV->List AM->Nat->Prop,J=fun vs bl k=>∃(o:List UInt32) (m f w:Nat) (r j:Int),vs=[.one (.sl .u32 l),.one (.int .u32 d),.one (.AT .u32 11 0 0 m),.one (.int .u64 r),.one (.int .i64 j)]/\
  bl=[.arr 0 .u32 o]/\(o.length=l.length/\m=o.length/\AS (j+1) w/\w<=l.length/\AS r f/\f<b)/\
  AB (l.drop w)=AB (o.drop w)*b+f/\k=w:=⟨_,rfl⟩
 refine⟨[0,1,6,7,8],[11],J0,⟨l.length,by rw[I];exact⟨N,M,0,l.length,0,ab,rfl,rfl,⟨by rw[g,List.length_replicate];omega,by rw[g,List.length_replicate],⟨by omega⟩,by omega,BC 0,hb⟩,by rw[List.drop_length,List.drop_eq_nil_of_le (by rw[g,List.length_replicate];omega)];simp[AB],rfl⟩⟩,?_⟩;intro vs bl aE X;rw[I] at X;obtain⟨o,m,f,w,r,j,rfl,rfl,⟨ho,hm,X,aB,hr,K⟩,hinv,aC⟩:=X;conv=>cbv
 have ej:=X.eq;have er:=hr.eq;intro ad P;conv=>cbv
 cases ad <;> conv=>cbv
 ·have a8:=EC P;have h:m<=(o).length:=by omega
  obtain⟨aa,B⟩:=xN ((Bk ((o).take m)).length);obtain⟨a5,L⟩:=Dl h B;refine .inr (.inr (.inl ⟨[],.one (.AT .u32 0 0 0 aa),.arr 0 .u32 o,fun _=>⟨by first | decide | simp[Bw,B4],trivial⟩,fun _=>⟨DS hE (FE h (by omega) B),rfl,rfl⟩,?_⟩));try conv=>cbv
  intro aK W;conv=>cbv
  have W:=wrap_u32 W;have hk:w=0:=by omega
  rw[hk,List.drop_zero,List.drop_zero] at hinv;have hq:AB o=AB l/b:=by rw[hinv,Nat.add_comm,Nat.add_mul_div_right _ _ hb,Nat.div_eq_of_lt K,Nat.zero_add]
  have a6:f=AB l%b:=by rw[hinv,Nat.add_comm,Nat.add_mul_mod_self_right,Nat.mod_eq_of_lt K]
  exact fA ⟨⟨rfl,.inl ⟨_,rfl,by omega,congrArg _ (by rw[List.drop_zero,L,a7,hm,List.take_length,hq])⟩,trivial⟩,⟨rfl,congrArg _ (by rw[hc.eq,<-a6];omega),trivial⟩,trivial⟩ rfl (by simp)
 have a8:=ED P;refine .inr ?_;intro af F;conv=>cbv
 refine g2 (by omega) ?_;have F:=ID (p:=4294967296) F rfl;have F:af=((f*4294967296:Nat):Int):=by clear hinv;omega
 obtain⟨i',rfl⟩:∃i',w=i'+1:=⟨w-1,by omega⟩
 obtain⟨a,C⟩:=AG (l:=l) (i:=i') (by omega);refine⟨a,fun _=>⟨by omega,by rw[show (j).toNat=i' by omega];exact C⟩,?_⟩;try conv=>cbv
 intro aH S;have ax:=S.eq;have f24:=S.lt;conv=>cbv
 intro aI T;conv=>cbv
 have T:=wrap_u64 T;intro aJ v;conv=>cbv
 have v:=H8 (p:=f) (q:=a.toNat) v (by omega) (by omega) (by omega) (by omega);intro ag U;conv=>cbv
 have U:=wrap_u64 U;intro ah G;conv=>cbv
 refine g2 (by omega) ?_;have G:=wrap_u64 G;intro ai H;conv=>cbv
 have H:=wrap_u32 H;have Y:ag=(b:Int):=by omega
 have Z:ah=(((a.toNat+4294967296*f)/b:Nat):Int):=by rw[G,v,Y,<-Int.natCast_ediv];have:=Nat.div_le_self (a.toNat+4294967296*f) b;generalize (a.toNat+4294967296*f)/b=Q at *;clear hinv;omega
 refine g2 (by omega) ?_;intro y ar;conv=>cbv
 obtain⟨t,s⟩:=Bm (n:=ai) (by omega);have al:=s.eq;have an:=s.lt;refine⟨t,fun _=>⟨by show _<List.length (α:=UInt32) o;(first | omega | (simp;omega)),Bl s⟩,?_⟩;intro (O:List UInt32) (A:O=List.set (α:=UInt32) o y t);have aq:O.length=o.length:=by rw[A,List.length_set]
 conv=>cbv
 intro aj V;conv=>cbv
 have V:=wrap_u64 V;intro ak a2;conv=>cbv
 refine g2 (by omega) ?_;intro ae az;conv=>cbv
 refine g1 (by omega) ?_;refine⟨i',?_,?_⟩
 ·omega
 rw[I];have a1:aj=(b:Int):=by omega
 have h5:=Nat.div_add_mod (a.toNat+4294967296*f) b;refine⟨O,m,(a.toNat+4294967296*f)%b,i',ak,ae,rfl,rfl,⟨by omega,by omega,⟨by omega⟩,by omega,⟨by rw[a2,v,a1];simp⟩,Nat.mod_lt _ hb⟩,?_,rfl⟩
 have aD:(a.toNat+4294967296*f)/b<4294967296:=Nat.div_lt_of_lt_mul (by
  have:4294967296*(f+1)<=4294967296*b:=Nat.mul_le_mul_left _ K;rw[Nat.mul_comm b];omega)
 have ew:t.toNat=(a.toNat+4294967296*f)/b:=by
  rw[Z] at H
  generalize (a.toNat+4294967296*f)/b=Q at*
  clear hinv
  omega
 rw[DE C,hinv,A,DE (l:=o.set y t) (i:=i') (x:=t) (by rw[show y=i' by omega,List.getElem?_set_self (by omega)]),show y=i' by omega,List.drop_set_of_lt (by omega),ew]
 generalize (a.toNat+4294967296*f)/b=Q at*
 generalize (a.toNat+4294967296*f)%b=R at*
 grind
theorem Q1 {a:Nat} (t:l=AR a) (I:AS c (CW a)) (sl:l.length<=17592186044416):CF 341 [.one (.sl .u32 l)] (.one (.int .i64 c)):=by
 refine AH Tryz.func341 (by kernel_rfl) rfl fun E hE=>?_
 conv=>cbv
 rintro n6 ⟨e6,f6⟩;conv=>cbv
 intro n7 H;conv=>cbv
 cases n7 <;> conv=>cbv
 ·have Z:=Au H;rintro a2 ⟨N,f10⟩;conv=>cbv
  intro B Q;conv=>cbv
  refine g1 (by omega) ?_;obtain⟨d,f⟩:=AG (l:=l) (i:=(l.length-1)) (by omega);refine⟨d,fun _=>⟨by omega,by rw[show (B).toNat=(l.length-1) by omega];exact f⟩,?_⟩;try conv=>cbv
  intro C j;have O:=j.eq;have f13:=j.lt;conv=>cbv
  refine .inr ?_;obtain⟨L,g⟩:=xJ fun vs M k=>∃(s x':Nat) (n x:Int),vs=[.one (.sl .u32 l),.one (.int .i64 n),.one (.int .u32 x)]/\(AS n s/\AS x x'/\x'<4294967296)/\s+CW x'=CW d.toNat/\k=x'
  refine⟨[0,3,4],[],L,⟨d.toNat,by rw[g];exact⟨0,d.toNat,0,C,rfl,⟨BC 0,⟨by omega⟩,by omega⟩,Nat.zero_add _,rfl⟩⟩,?_⟩;intro vs M a1 J;rw[g] at J;obtain⟨s,x',n,x,rfl,⟨X,Y,K⟩,hinv,W⟩:=J;conv=>cbv
  have en:=X.eq;have ex:=Y.eq;have V:=Tu (x:=d.toNat) (by omega);intro D m;conv=>cbv
  cases D <;> conv=>cbv
  ·have A:=CA m;rintro a5 ⟨P,f21⟩;conv=>cbv
   intro a6 S;conv=>cbv
   refine g1 (by omega) ?_;intro a7 T;conv=>cbv
   refine g1 (by omega) ?_;intro a8 U;conv=>cbv
   refine g1 (by omega) ?_;have b:=f;rw[t] at b;have r:(AR a).length-1+1=(AR a).length:=by rw[<-t];omega
   have y:=Jp b r;have w:=MM (x:=d.toNat) (by omega);have q:=Np b r w.1 w.2.1 w.2.2;have h:x'=0:=by omega
   have v:CW 0=0:=rfl;rw[h,v] at hinv;rw[<-t] at q;exact fA ⟨⟨rfl,congrArg _ (by rw[I.eq,q];omega),trivial⟩,trivial⟩ rfl (by simp)
  have A:=CB m;refine .inr ?_;intro G R;conv=>cbv
  refine g1 (by omega) ?_;intro F p;conv=>cbv
  refine g2 (by omega) ?_;have p:=wrap_u32 p;have h:0<x':=by omega
  refine⟨x'/2,?_,?_⟩
  ·omega
  rw[g];refine⟨s+1,x'/2,G,F,rfl,⟨⟨by omega⟩,⟨by omega⟩,by omega⟩,?_,rfl⟩;have:=cF h;omega
 have Z:=Av H;have v:a=0:=EL.1 (by rw[<-t];exact List.eq_nil_of_length_eq_zero (by omega));exact fA ⟨⟨rfl,congrArg _ (by rw[I.eq,v];rfl),trivial⟩,trivial⟩ rfl (by simp)
theorem Q5 {z:List UInt32} {s:Int} {zn:Nat} (hs:AS s n) (hn:n<=31) (aB:z.length=l.length+1) (a7:AB z=AB l*2^n) (aC:zn=z.length) (sl:l.length<=17592186044416):CF 342 [.one (.sl .u32 l),.one (.int .i64 s)] (.one (.own .u32 z zn)):=by
 have es:=hs.eq;refine AH Tryz.func342 (by kernel_rfl) rfl fun E hE=>?_
 conv=>cbv
 rintro n9 ⟨e9,f9⟩;conv=>cbv
 intro aE aw;conv=>cbv
 refine g1 (by omega) ?_;refine⟨fun _=>⟨by omega,by omega,by show _*4<=140737488355328;omega⟩,?_⟩;intro D (F:List UInt32) A;have ar:=A.1;have b:F=List.replicate D (0:el .u32):=A.2;have aj:F.length=D:=by rw[b,List.length_replicate]
 conv=>cbv
 refine .inr ?_
 obtain⟨J0,B⟩:∃J:List AV->List AM->Nat->Prop,J=fun vs bl k=>∃(o:List UInt32) (c:UInt32) (m i':Nat) (i:Int),vs=[.one (.sl .u32 l),.one (.int .i64 s),.one (.AT .u32 11 0 0 m),.one (.int .i64 i)]/\
  bl=[.arr 0 .u32 o]/\(o.length=l.length+1/\m=o.length/\AS i i'/\i'<=l.length)/\(o[i']? =some c/\c.toNat<2^n)/\
  AB (o.take i')+2^(32*i')*c.toNat=AB (l.take i')*2^n/\k=l.length-i':=⟨_,rfl⟩
 refine⟨[0,1,5,6],[11],J0,⟨l.length-0,by rw[B];exact⟨F,0,D,0,0,rfl,rfl,⟨by rw[b,List.length_replicate];omega,by rw[b,List.length_replicate],BC 0,by omega⟩,⟨by rw[b,List.getElem?_replicate,if_pos (by omega)],Nat.two_pow_pos n⟩,by simp[AB],rfl⟩⟩,?_⟩;intro vs bl aD hj;rw[B] at hj;obtain⟨o,c,m,i',i,rfl,rfl,⟨ho,hm,hi,az⟩,⟨hc,a5⟩,hinv,aA⟩:=hj;conv=>cbv
 have ei:=hi.eq;rintro aF ⟨au,f14⟩;conv=>cbv
 intro aa K;conv=>cbv
 cases aa <;> conv=>cbv
 ·have a8:=Ad K;have hk:i'=l.length:=by omega
  have V:AB o=AB l*2^n:=by rw[hk,List.take_length,<-B6 (l:=o) (by rw[<-hk];exact hc),List.take_of_length_le (by omega)] at hinv;exact hinv
  exact fA ⟨⟨rfl,.inr (.inl ⟨_,_,by decide,rfl,rfl,hm,rfl,C2 (KI (by omega) (by rw[a7,V])) (by omega)⟩),trivial⟩,trivial⟩ rfl (by simp)
 have a8:=Ae K;refine .inr ?_;obtain⟨a,y⟩:=AG (l:=l) (i:=i') (by omega);refine⟨a,fun _=>⟨by omega,by rw[show (i).toNat=i' by omega];exact y⟩,?_⟩;try conv=>cbv
 intro aG L;have av:=L.eq;have f21:=L.lt;conv=>cbv
 intro aH M;conv=>cbv
 have M:=wrap_u64 M;intro ad O;conv=>cbv
 refine g2 (by omega) ?_;have a1:a.toNat*2^n<9223372036854775808:=Nat.mul_lt_mul_of_lt_of_le (by omega:a.toNat<4294967296) (Nat.pow_le_pow_right (by decide) hn:2^n<=2^31) (by decide);obtain⟨I,d,O⟩:∃q:Nat,q=a.toNat*2^n/\ad=q:=⟨_,rfl,(Pk (p:=a.toNat) (e:=n) O (by omega) (by omega) (by omega)).trans (by congr 1;exact Nat.mod_eq_of_lt (by omega))⟩
 rw[<-d] at a1;refine g2 (by omega) ?_;intro X an;conv=>cbv
 obtain⟨Z,r⟩:=AG (l:=o) (i:=X) (by omega);refine⟨Z,fun _=>r,?_⟩;try conv=>cbv
 intro aI Q;have a2:=Q.eq;have f30:=Q.lt;conv=>cbv
 intro aJ R;conv=>cbv
 have R:=wrap_u32 R;intro H S;conv=>cbv
 have bo:0<=H/\H<4294967296:=by rw[wrap_u32 S];omega
 refine g2 (by omega) ?_;intro Y ao;conv=>cbv
 obtain⟨v,h⟩:=Bm (n:=H) (by omega);have af:=h.eq;have ah:=h.lt;refine⟨v,fun _=>⟨by show _<List.length (α:=UInt32) o;(first | omega | (simp;omega)),Bl h⟩,?_⟩;intro (t:List UInt32) (w:t=List.set (α:=UInt32) o Y v);have ak:t.length=o.length:=by rw[w,List.length_set]
 conv=>cbv
 intro aK ay;conv=>cbv
 refine g1 (by omega) ?_;intro aL T;conv=>cbv
 refine g2 (by omega) ?_;have T:=Da (p:=4294967296) T rfl;intro ae U;conv=>cbv
 have U:=wrap_u32 U;refine g2 (by omega) ?_;intro C aq;conv=>cbv
 obtain⟨f,j⟩:=Bm (n:=ae) (by omega);have ag:=j.eq;have ai:=j.lt;refine⟨f,fun _=>⟨by show _<List.length (α:=UInt32) t;(first | omega | (simp;omega)),Bl j⟩,?_⟩;intro (G:List UInt32) (g:G=List.set (α:=UInt32) t C f);have al:G.length=t.length:=by rw[g,List.length_set]
 conv=>cbv
 intro ab ax;conv=>cbv
 refine g1 (by omega) ?_;refine⟨l.length-(i'+1),?_,?_⟩
 ·omega
 rw[B];have hq:2^n*2^(32-n)=4294967296:=by rw[<-Nat.pow_add,show n+(32-n)=32 by omega]
 have ec:Z=c:=by rw[show X=i' by omega,hc] at r;exact (Option.some.inj r).symm
 have W:I%4294967296=2^n*(a.toNat%2^(32-n)):=by rw[d,Nat.mul_comm a.toNat,<-hq,Nat.mul_mod_mul_left]
 have h6:=MQ S (p:=c.toNat) (q:=I%4294967296) (by rw[a2,ec]) (by omega) (by have:=c.toNat_lt;omega) (by omega);rw[W,I9 a5,<-W] at h6
 have a6:f.toNat<2^n:=by
  have:I/4294967296<2^n:=Nat.div_lt_of_lt_mul (by rw[d];exact (Nat.mul_lt_mul_right (Nat.two_pow_pos n)).2 (by omega));omega
 refine⟨G,f,m,i'+1,ab,rfl,rfl,⟨by omega,by omega,⟨by omega⟩,by omega⟩,⟨by rw[g,show C=i'+1 by omega,List.getElem?_set_self (by omega)],a6⟩,?_,rfl⟩;rw[g,show C=i'+1 by omega,GO (Nat.le_refl _),w,show Y=i' by omega,D5 (by omega),DX,List.length_take,Nat.min_eq_left (by omega),B6 y,DR,Nat.add_mul,<-hinv];have e1:v.toNat+4294967296*f.toNat=c.toNat+a.toNat*2^n:=by rw[<-d];omega
 have e2:2^(32*i')*(v.toNat+4294967296*f.toNat)=2^(32*i')*(c.toNat+a.toNat*2^n):=by rw[e1]
 generalize 2^(32*i')=P at*
 generalize 2^n=N at*
 grind
end Go.Abs
namespace Go.Abs
open Go.RowKit
variable {c n o:Nat} {l u z:List UInt32}
theorem VX {i k:Nat} {w:UInt32} (h:i+k<z.length):((z.set (i+k) w).drop i).take (k+1)=(z.drop i).take k++[w]:=by
 rw[List.drop_set,if_neg (by omega),Nat.add_sub_cancel_left,D5 (by rw[List.length_drop];omega)]
theorem Q8 {m:Nat} (S:o+n<=l.length) (hl:l.length<=140737488355328) (hm:m=(Bk ((l.drop o).take n)).length):GQ Tryz.prog 310 (.AT .u32 0 0 o n) (.arr 0 .u32 l) [] (.one (.AT .u32 0 0 o m)) (.arr 0 .u32 l):=by
 refine Jk Tryz.func310 (by kernel_rfl) rfl fun E hE=>?_
 conv=>cbv
 refine .inr ?_;obtain⟨J,g⟩:=xJ fun vs B k=>∃q:Nat,vs=[.one (.AT .u32 0 0 o q)]/\B=[.arr 0 .u32 l]/\o+q<=l.length/\m=(Bk ((l.drop o).take q)).length/\k=q
 refine⟨[0],[0],J,⟨n,by rw[g];exact⟨n,rfl,rfl,S,hm,rfl⟩⟩,?_⟩;intro vs B U G;rw[g] at G;obtain⟨q,rfl,rfl,hq,j,R⟩:=G;conv=>cbv
 intro n4 P;have e4:=P.eq;conv=>cbv
 intro Z C;conv=>cbv
 cases Z <;> conv=>cbv
 ·have T:=CA C;refine⟨fun _=>⟨⟨⟨rfl,.inr (.inr ⟨rfl,rfl,congrArg (AC.AT .u32 0 0 o) (by rw[j,show q=0 by omega];rfl)⟩),trivial⟩,trivial⟩,rfl,by simp⟩,fun _=>rfl⟩
 have T:=CB C;intro n9 Q;have e9:=Q.eq;conv=>cbv
 intro V N;conv=>cbv
 refine g1 (by omega) ?_;refine g2 (by omega) ?_;intro r H;conv=>cbv
 obtain⟨d,a⟩:=AG (l:=l) (i:=r) (by omega);refine⟨d,fun _=>a,?_⟩;try conv=>cbv
 intro W f;have L:=f.eq;have f12:=f.lt;conv=>cbv
 intro A s;conv=>cbv
 cases A <;> conv=>cbv
 ·have t:=Au s;have y:d≠0:=fun h=>by subst h;exact t f.eq
  have p:(l.drop o)[q-1]? =some d:=by rw[List.getElem?_drop,show o+(q-1)=r by omega];exact a
  refine⟨fun _=>⟨⟨⟨rfl,.inr (.inr ⟨rfl,rfl,congrArg (AC.AT .u32 0 0 o) (by rw[j,show q=q-1+1 by omega,Bi p,JM y,List.length_append,List.length_take,List.length_drop];simp;omega)⟩),trivial⟩,trivial⟩,rfl,by simp⟩,fun _=>rfl⟩
 have t:=Av s;refine .inr ?_;intro X w;have M:=w.eq;conv=>cbv
 intro Y O;conv=>cbv
 refine g1 (by omega) ?_;refine g2 (by omega) ?_;intro K D;conv=>cbv
 rintro v b ⟨I,F⟩;conv=>cbv
 refine⟨b,?_,?_⟩
 ·omega
 rw[g];obtain rfl:v=o:=by omega
 refine⟨b,rfl,rfl,by omega,?_,rfl⟩;obtain rfl:d=0:=UInt32.toNat_inj.1 (by show _=0;omega);rw[j,show q=b+1 by omega,Bi (x:=0) (by rw[List.getElem?_drop,show v+b=r by omega];exact a),IF]
theorem Xu {y p:List UInt32} {q:Int} {X V n':Nat} (hX:AB ((u.drop o).take c)=X) (b8:o+c<=u.length) (bb:u.length<=17592186044400) (U:y=AR V) (aI:y.length=n'+1) (b6:c=n'+2) (aD:X<4294967296*V) (hq:AS q (X/V)) (hp:p=AR (X/V*V)):BW Tryz.prog 343 [.one (.AT .u32 0 0 o c),.one (.sl .u32 y)] (.arr 0 .u32 u) (.AE [(false,[.int .u32 q]),(false,[.sl .u32 p])]):=by
 obtain⟨x,hx⟩:=xU ((u.drop o).take c);have bc:x.length=n'+2:=by rw[hx,List.length_take,List.length_drop];omega
 have ak:∀i,i<c->x[i]? =u[o+i]? :=fun i h=>by rw[hx,List.getElem?_take,if_pos h,List.getElem?_drop]
 rw[<-hx] at hX;refine Gc Tryz.func343 (by kernel_rfl) rfl fun E hE=>?_
 conv=>cbv
 rintro bf ⟨aZ,f10⟩;conv=>cbv
 refine g2 (by omega) ?_;intro ar aX;conv=>cbv
 obtain⟨A,L⟩:=AG (l:=u) (i:=ar) (by omega);refine⟨A,fun _=>L,?_⟩;try conv=>cbv
 intro bg Y;have b0:=Y.eq;have f14:=Y.lt;conv=>cbv
 intro bh Z;conv=>cbv
 have Z:=wrap_u64 Z;intro aK a1;conv=>cbv
 refine g2 (by omega) ?_;have a1:=ID (p:=4294967296) a1 rfl;have aW:aK=((A.toNat*4294967296:Nat):Int):=by omega
 intro bj b4;conv=>cbv
 refine g1 (by omega) ?_;refine g2 (by omega) ?_;intro au aY;conv=>cbv
 obtain⟨C,M⟩:=AG (l:=u) (i:=au) (by omega);refine⟨C,fun _=>M,?_⟩;try conv=>cbv
 intro bk a2;have b1:=a2.eq;have f21:=a2.lt;conv=>cbv
 intro bl a5;conv=>cbv
 have a5:=wrap_u64 a5;intro bm N;conv=>cbv
 have N:=H8 (p:=A.toNat) (q:=C.toNat) N (by omega) (by omega) (by omega) (by omega);intro aL b5;conv=>cbv
 refine g1 (by omega) ?_;obtain⟨f,v⟩:=AG (l:=y) (i:=n') (by omega);refine⟨f,fun _=>⟨by omega,by rw[show (aL).toNat=n' by omega];exact v⟩,?_⟩;try conv=>cbv
 intro bn a6;have b2:=a6.eq;have f28:=a6.lt;conv=>cbv
 intro aM a7;conv=>cbv
 have a7:=wrap_u64 a7;have ao:x[n'+1]? =some A:=by rw[ak _ (by omega),show o+(n'+1)=ar by omega];exact L
 have aq:x[n']? =some C:=by rw[ak _ (by omega),show o+n'=au by omega];exact M
 have aH:f.toNat≠0:=Jp (by rw[<-U];exact v) (by rw[<-U];omega);obtain⟨top,I⟩:∃t,t=C.toNat+4294967296*A.toNat:=⟨_,rfl⟩
 have aE:X=top*2^(32*n')+AB (x.take n'):=by have F:=B6 ao;have h2:=B6 aq;rw[List.take_of_length_le (by omega),hX] at F;rw[F,h2,DR,I];grind
 have aC:V=f.toNat*2^(32*n')+AB (y.take n'):=by have F:=B6 v;rw[List.take_of_length_le (by omega),U,BB,<-U] at F;rw[F];grind
 have hg:=gO aE (JK (l:=x) (n:=n')) aC (by omega);have R:0<V:=by have:=Nat.mul_pos (show 0<f.toNat by omega) (Nat.two_pow_pos (32*n'));omega
 have b9:X/V<4294967296:=(Nat.div_lt_iff_lt_mul R).2 aD;have ba:top<18446744073709551616:=by omega
 intro aN O;conv=>cbv
 refine g2 (by omega) ?_;have O:=wrap_u64 O;have a8:aN=((top/f.toNat:Nat):Int):=by rw[O,N,show aM=(f.toNat:Int) by omega,<-I,<-Int.natCast_ediv];have:=Nat.div_le_self top f.toNat;generalize top/f.toNat=Q at *;omega
 refine g2 rfl ?_;intro aO aa;conv=>cbv
 obtain⟨ay,j⟩:=xK fun vs W=>∃(G:Nat) (g:Int),vs=[.one (.AT .u32 0 0 o c),.one (.sl .u32 y),.one (.int .u64 g)]/\W=[.arr 0 .u32 u]/\AS g G/\X/V<=G/\G<4294967296
 refine .inl ⟨[0,1,7],[0],ay,?_,?_⟩
 ·intro vs W hj;rw[j] at hj;obtain⟨G,g,rfl,rfl,aj,aB,ai⟩:=hj;conv=>cbv
  have b3:=aj.eq;intro aP ab;conv=>cbv
  have ab:=wrap_u32 ab;obtain⟨aT,s⟩:=Bm (n:=aP) (by omega);have aU:=s.eq;have aV:=s.lt;refine⟨[aT],fun _=>⟨rfl,by decide,rfl,⟨rfl,Bl s,trivial⟩⟩,.inr ?_⟩;try conv=>cbv
  obtain⟨aw,J⟩:=xU (AR (V*G));refine cL (r:= .one (.sl .u32 aw)) hE (Q7 (a:=V) (b:=G) (by rw[U,BB]) (by simp[AB];omega) J (by omega) (by simp)) t2 ?_;try conv=>cbv
  refine .inr ?_;obtain⟨J0,P⟩:=xJ fun vs W k=>∃(D:Nat) (d:Int) (pp:List UInt32),vs=[.one (.AT .u32 0 0 o c),.one (.sl .u32 y),.one (.int .u64 d),.one (.sl .u32 pp)]/\W=[.arr 0 .u32 u]/\(AS d D/\D<4294967296/\X/V<=D)/\pp=AR (V*D)/\k=D
  refine⟨[0,1,7,8],[0],J0,⟨G,by rw[P];exact⟨G,g,aw,rfl,rfl,⟨aj,ai,aB⟩,J,rfl⟩⟩,?_⟩;intro vs W bd hj;rw[P] at hj;obtain⟨D,d,pp,rfl,rfl,⟨hd,ag,aA⟩,B,b7⟩:=hj;conv=>cbv
  have ed:=hd.eq;have S:c<=(u.drop o).length:=by rw[List.length_drop];omega
  obtain⟨av,H⟩:=xN ((Bk ((u.drop o).take c)).length);obtain⟨aG,T⟩:=Dl S H;refine .inr (.inr (.inl ⟨[],.one (.AT .u32 0 0 o av),.arr 0 .u32 u,fun _=>⟨by first | decide | simp[Bw,B4],trivial⟩,fun _=>⟨DS hE (Q8 (by omega) (by omega) H),rfl,rfl⟩,?_⟩));try conv=>cbv
  obtain⟨aS,m⟩:=xI (BT X (V*D:Nat));refine .inr (.inl ⟨[.one (.sl .u32 (((u).drop o).take av)),.one (.sl .u32 pp)],.one (.int .i64 aS),fun _=>⟨⟨_,rfl,by omega,rfl⟩,rfl,trivial⟩,fun _=>Fu hE (NX rfl (LA (by rw[T,<-hx,hX]) B m)),?_⟩);try conv=>cbv
  intro aQ ad;conv=>cbv
  cases aQ <;> conv=>cbv
  ·have w:=Ad ad;intro bo af;conv=>cbv
   have af:=wrap_u32 af;have aF:V*D<=X:=by rw[m] at w;have:=G8 w;omega
   have ah:D=X/V:=Nat.le_antisymm ((Nat.le_div_iff_mul_le R).2 (by rw[Nat.mul_comm];exact aF)) aA;refine fun _=>⟨⟨⟨⟨rfl,congrArg _ (by rw[hq.eq,<-ah];omega),trivial⟩,⟨rfl,congrArg _ (by rw[hp,B,<-ah,Nat.mul_comm]),trivial⟩,trivial⟩,rfl,by simp⟩,rfl⟩
  have w:=Ae ad;have al:X<V*D:=by rw[m] at w;have:=G9 w;omega
  have az:1<=D:=by apply Nat.pos_of_ne_zero;intro e;rw[e,Nat.mul_zero] at al;omega
  have an:pp.length<=17592186044416:=by rw[B];refine Nat.le_trans (E2 (k:=n'+2) ?_) (by omega);have F:=CL y;rw[aI,U,BB] at F;have h2:2^(32*(n'+2))=4294967296*2^(32*(n'+1)):=DR (n'+1);rw[h2,Nat.mul_comm];exact Nat.mul_lt_mul_of_lt_of_le ag (Nat.le_of_lt F) (by omega)
  refine .inr ?_;intro aR ae;conv=>cbv
  have ae:=wrap_u64 ae;obtain⟨ax,K⟩:=xU (AR (V*D-V));refine cL (r:= .one (.sl .u32 ax)) hE (NV B U K (by have:=Nat.mul_le_mul_left V az;omega) an) t2 ?_;try conv=>cbv
  refine⟨D-1,?_,?_⟩
  ·omega
  rw[P];exact⟨D-1,aR,ax,rfl,rfl,⟨⟨by omega⟩,by omega,by have:=(Nat.div_lt_iff_lt_mul R).2 (show X<D*V by rw[Nat.mul_comm];exact al);omega⟩,by rw[K,Nat.mul_sub,Nat.mul_one],rfl⟩
 cases aO <;> conv=>cbv
 ·have aJ:=CA aa;rw[j];exact⟨_,_,rfl,rfl,⟨a8⟩,hg,by omega⟩
 have aJ:=CB aa;rw[j];exact⟨4294967295,_,rfl,rfl,⟨rfl⟩,by omega,by omega⟩
theorem YB {m:List UInt32} {a b:Nat} (ae:l=(u.drop o).take c) (aN:o+c<=u.length) (hl:l=AR a) (hm:m=AR b) (hz:z=AR (a-b)) (ak:b<=a) (sl:u.length<=17592186044416):BW Tryz.prog 319 [.one (.AT .u32 0 0 o c),.one (.sl .u32 m)] (.arr 0 .u32 u) (.one (.sl .u32 z)):=by
 have an:m.length<=l.length:=by rw[hl,hm];exact DW ak
 have aL:l.length=c:=by rw[ae,List.length_take,List.length_drop];omega
 have aa:∀i,i<c->l[i]? =u[o+i]? :=fun i h=>by rw[ae,List.getElem?_take,if_pos h,List.getElem?_drop]
 refine Gc Tryz.func319 (by kernel_rfl) rfl fun E hE=>?_
 conv=>cbv
 intro aP ah;have aE:=ah.eq;conv=>cbv
 refine⟨fun _=>⟨by omega,by omega,by show _*4<=140737488355328;omega⟩,?_⟩;intro U (V:List UInt32) S;have aD:=S.1;have H:V=List.replicate U (0:el .u32):=S.2;have aC:V.length=U:=by rw[H,List.length_replicate]
 conv=>cbv
 refine .inr ?_
 obtain⟨J0,N⟩:∃J:List AV->List AM->Nat->Prop,J=fun vs bl k=>∃(q:List UInt32) (n O i':Nat) (cc i:Int),vs=[.one (.AT .u32 0 0 o c),.one (.sl .u32 m),.one (.AT .u32 12 0 0 n),.one (.int .u64 cc),.one (.int .i64 i)]/\
  bl=[.arr 0 .u32 u,.arr 0 .u32 q]/\(q.length=l.length/\n=q.length/\AS i i'/\i'<=l.length/\AS cc O/\O<=1)/\
  AB (q.take i')+AB (m.take i')=AB (l.take i')+2^(32*i')*O/\k=l.length-i':=⟨_,rfl⟩
 refine⟨[0,1,5,6,7],[0,12],J0,⟨l.length-0,by rw[N];exact⟨V,U,0,0,0,0,rfl,rfl,⟨by rw[H,List.length_replicate];omega,by rw[H,List.length_replicate],BC 0,by omega,BC 0,by omega⟩,by simp[AB],rfl⟩⟩,?_⟩;intro vs bl aO hj;rw[N] at hj;obtain⟨q,n,O,i',cc,i,rfl,rfl,⟨hq,hn,hi,aJ,hc,aI⟩,hinv,aK⟩:=hj;conv=>cbv
 have ei:=hi.eq;have ec:=hc.eq;intro aQ ai;have aF:=ai.eq;conv=>cbv
 intro au a2;conv=>cbv
 cases au <;> conv=>cbv
 ·have ao:=Ad a2;have I:n<=(q).length:=by omega
  obtain⟨ar,Q⟩:=xN ((Bk ((q).take n)).length);obtain⟨al,T⟩:=Dl I Q;refine .inr (.inr (.inl ⟨[],.one (.AT .u32 0 0 0 ar),.arr 0 .u32 q,fun _=>⟨by first | decide | simp[Bw,B4],trivial⟩,fun _=>⟨DS hE (FE I (by omega) Q),rfl,rfl⟩,?_⟩));try conv=>cbv
  have hk:i'=l.length:=by omega
  have a8:AB (q.take n)=a-b:=by rw[hk,C5 an,C5 (Nat.le_refl _),hm,hl,BB,BB,<-hl,<-hq,List.take_length] at hinv;have aM:=CL q;generalize 2^(32*q.length)=P at *;rw[hn,List.take_length];rcases (by omega:O=0\/O=1) with e | e <;> rw[e] at hinv <;> omega
  refine fun _=>⟨⟨⟨⟨rfl,.inl ⟨_,rfl,by omega,congrArg _ (by rw[List.drop_zero,T,a8,hz])⟩,trivial⟩,trivial⟩,rfl,by simp⟩,rfl⟩
 have ao:=Ae a2;refine .inr ?_;rintro aR ⟨aG,f21⟩;conv=>cbv
 intro av a5;conv=>cbv
 refine .inr ?_;cases av <;> conv=>cbv
 ·have aq:=Ad a5;refine g2 (by omega) ?_;intro L ab;conv=>cbv
  obtain⟨t,g⟩:=AG (l:=u) (i:=L) (by omega);refine⟨t,fun _=>g,?_⟩;try conv=>cbv
  intro aw v;have ag:=v.eq;have f31:=v.lt;conv=>cbv
  intro ax y;conv=>cbv
  have y:=wrap_u64 y;intro ay A;conv=>cbv
  have A:=wrap_u64 A;intro az B;conv=>cbv
  have B:=wrap_u64 B;intro aA C;conv=>cbv
  have C:=wrap_u64 C;intro X D;conv=>cbv
  have D:=wrap_u32 D;refine g2 (by omega) ?_;intro M ad;conv=>cbv
  obtain⟨s,f⟩:=Bm (n:=X) (by omega);have Y:=f.eq;have Z:=f.lt;refine⟨s,fun _=>⟨by show _<List.length (α:=UInt32) q;(first | omega | (simp;omega)),Bl f⟩,?_⟩;intro (j:List UInt32) (d:j=List.set (α:=UInt32) q M s);have a1:j.length=q.length:=by rw[d,List.length_set]
  conv=>cbv
  intro aB F;conv=>cbv
  refine g2 (by omega) ?_;have F:=Da (p:=4294967296) F rfl;intro r G;conv=>cbv
  have G:=wrap_u64 G;intro W aj;conv=>cbv
  refine g1 (by omega) ?_;refine⟨l.length-(i'+1),?_,?_⟩
  ·omega
  rw[N];have K:l[i']? =some t:=by rw[aa _ (by omega),show o+i'=L by omega];exact g
  refine⟨j,n,r.toNat,i'+1,r,W,rfl,rfl,⟨by rw[d,List.length_set];exact hq,by rw[d,List.length_set];exact hn,⟨by omega⟩,by omega,⟨by omega⟩,by omega⟩,?_,rfl⟩;have hs:=I5 (w:=s) (o:=q) (i:=i') (xi:=t.toNat) (yi:=0) (Em:=O) (En:=r.toNat) (by omega) hinv (by omega);rw[d,show M=i' by omega,B6 K,<-hs,C5 (l:=m) (i:=i'+1) (by omega),C5 (l:=m) (i:=i') (by omega),Nat.mul_zero]
  rfl
 have aq:=Ae a5;obtain⟨af,R⟩:=AG (l:=m) (i:=i') (by omega);refine⟨af,fun _=>⟨by omega,by rw[show (i).toNat=i' by omega];exact R⟩,?_⟩;try conv=>cbv
 intro aS a6;have aH:=a6.eq;have f26:=a6.lt;conv=>cbv
 intro aT a7;conv=>cbv
 have a7:=wrap_u64 a7;refine g2 (by omega) ?_;intro L ab;conv=>cbv
 obtain⟨t,g⟩:=AG (l:=u) (i:=L) (by omega);refine⟨t,fun _=>g,?_⟩;try conv=>cbv
 intro aw v;have ag:=v.eq;have f31:=v.lt;conv=>cbv
 intro ax y;conv=>cbv
 have y:=wrap_u64 y;intro ay A;conv=>cbv
 have A:=wrap_u64 A;intro az B;conv=>cbv
 have B:=wrap_u64 B;intro aA C;conv=>cbv
 have C:=wrap_u64 C;intro X D;conv=>cbv
 have D:=wrap_u32 D;refine g2 (by omega) ?_;intro M ad;conv=>cbv
 obtain⟨s,f⟩:=Bm (n:=X) (by omega);have Y:=f.eq;have Z:=f.lt;refine⟨s,fun _=>⟨by show _<List.length (α:=UInt32) q;(first | omega | (simp;omega)),Bl f⟩,?_⟩;intro (j:List UInt32) (d:j=List.set (α:=UInt32) q M s);have a1:j.length=q.length:=by rw[d,List.length_set]
 conv=>cbv
 intro aB F;conv=>cbv
 refine g2 (by omega) ?_;have F:=Da (p:=4294967296) F rfl;intro r G;conv=>cbv
 have G:=wrap_u64 G;intro W aj;conv=>cbv
 refine g1 (by omega) ?_;refine⟨l.length-(i'+1),?_,?_⟩
 ·omega
 rw[N];have K:l[i']? =some t:=by rw[aa _ (by omega),show o+i'=L by omega];exact g
 refine⟨j,n,r.toNat,i'+1,r,W,rfl,rfl,⟨by rw[d,List.length_set];exact hq,by rw[d,List.length_set];exact hn,⟨by omega⟩,by omega,⟨by omega⟩,by omega⟩,?_,rfl⟩;have hs:=I5 (w:=s) (o:=q) (i:=i') (xi:=t.toNat) (yi:=af.toNat) (Em:=O) (En:=r.toNat) (by omega) hinv (by omega);rw[d,show M=i' by omega,B6 K,<-hs,B6 R]
theorem Xr {s:Int} (aB:c<=u.length) (sl:u.length<=17592186044416) (hs:AS s n) (hn:n<=31) (hz:z=AR (AB (u.take c)/2^n)):BW Tryz.prog 344 [.one (.AT .u32 0 0 0 c),.one (.int .i64 s)] (.arr 0 .u32 u) (.one (.sl .u32 z)):=by
 have es:=hs.eq;obtain⟨l,hl⟩:=xU (u.take c);have aE:l.length=c:=by rw[hl,List.length_take];omega
 have I:∀i,i<c->l[i]? =u[i]? :=fun i h=>by rw[hl,List.getElem?_take,if_pos h]
 rw[<-hl] at hz;refine Gc Tryz.func344 (by kernel_rfl) rfl fun E hE=>?_
 conv=>cbv
 intro n9 h9;have e9:=h9.eq;conv=>cbv
 refine⟨fun _=>⟨by omega,by omega,by show _*4<=140737488355328;omega⟩,?_⟩;intro M (N:List UInt32) H;have ar:=H.1;have r:N=List.replicate M (0:el .u32):=H.2;have an:N.length=M:=by rw[r,List.length_replicate]
 conv=>cbv
 refine .inr ?_
 obtain⟨J0,D⟩:∃J:List AV->List AM->Nat->Prop,J=fun vs bl k=>∃(o:List UInt32) (m i':Nat) (i:Int),vs=[.one (.AT .u32 0 0 0 c),.one (.int .i64 s),.one (.AT .u32 10 0 0 m),.one (.int .i64 i)]/\
  bl=[.arr 0 .u32 u,.arr 0 .u32 o]/\(o.length=l.length/\m=o.length/\AS i i'/\i'<=l.length)/\
  AB (o.take i')=AB l/2^n%2^(32*i')/\k=l.length-i':=⟨_,rfl⟩
 refine⟨[0,1,5,6],[0,10],J0,⟨l.length-0,by rw[D];exact⟨N,M,0,0,rfl,rfl,⟨by rw[r,List.length_replicate];omega,by rw[r,List.length_replicate],BC 0,by omega⟩,by simp[AB,Nat.mod_one],rfl⟩⟩,?_⟩;intro vs bl aF hj;rw[D] at hj;obtain⟨o,m,i',i,rfl,rfl,⟨ho,hm,hi,aC⟩,hinv,aD⟩:=hj;conv=>cbv
 have ei:=hi.eq;intro aG a8;have au:=a8.eq;conv=>cbv
 intro ai V;conv=>cbv
 cases ai <;> conv=>cbv
 ·have af:=Ad V;have t:m<=(o).length:=by omega
  obtain⟨ah,F⟩:=xN ((Bk ((o).take m)).length);obtain⟨ae,K⟩:=Dl t F;refine .inr (.inr (.inl ⟨[],.one (.AT .u32 0 0 0 ah),.arr 0 .u32 o,fun _=>⟨by first | decide | simp[Bw,B4],trivial⟩,fun _=>⟨DS hE (FE t (by omega) F),rfl,rfl⟩,?_⟩));try conv=>cbv
  have hk:i'=l.length:=by omega
  have a5:AB o=AB l/2^n:=by rw[hk,<-ho,List.take_length,ho] at hinv;rw[hinv];exact Nat.mod_eq_of_lt (Nat.lt_of_le_of_lt (Nat.div_le_self _ _) (CL l))
  refine fun _=>⟨⟨⟨⟨rfl,.inl ⟨_,rfl,by omega,congrArg _ (by rw[List.drop_zero,K,hz,hm,List.take_length,a5])⟩,trivial⟩,trivial⟩,rfl,by simp⟩,rfl⟩
 have af:=Ae V;refine .inr ?_;refine g2 (by omega) ?_;intro L ao;conv=>cbv
 obtain⟨C,A⟩:=AG (l:=u) (i:=L) (by omega);refine⟨C,fun _=>A,?_⟩;try conv=>cbv
 intro aH W;have av:=W.eq;have f20:=W.lt;conv=>cbv
 intro aI X;conv=>cbv
 have X:=wrap_u64 X;intro aJ az;conv=>cbv
 refine g1 (by omega) ?_;intro aK ab;have aw:=ab.eq;conv=>cbv
 intro aj Y;conv=>cbv
 refine .inr ?_;cases aj <;> conv=>cbv
 ·have ag:=Ad Y;intro P d;conv=>cbv
  refine g2 (by omega) ?_;obtain⟨v,hv⟩:=xN C.toNat;obtain⟨al,w,d⟩:∃q:Nat,q=v/2^n/\P=q:=⟨_,rfl,shr_var d (by omega) (by omega) (by show n<=64;omega)⟩
  rw[w] at d;intro Q j;conv=>cbv
  have j:=wrap_u32 j;refine g2 (by omega) ?_;intro B a6;conv=>cbv
  obtain⟨g,b⟩:=Bm (n:=Q) (by omega);have S:=b.eq;have T:=b.lt;refine⟨g,fun _=>⟨by show _<List.length (α:=UInt32) o;(first | omega | (simp;omega)),Bl b⟩,?_⟩;intro (f:List UInt32) (a:f=List.set (α:=UInt32) o B g);have U:f.length=o.length:=by rw[a,List.length_set]
  conv=>cbv
  intro O aa;conv=>cbv
  refine g1 (by omega) ?_;refine⟨l.length-(i'+1),?_,?_⟩
  ·omega
  rw[D];have ew:g.toNat=v/2^n%4294967296:=by omega
  have y:l[i']? =some C:=by rw[I _ (by omega),show i'=L by omega];exact A
  refine⟨f,m,i'+1,O,rfl,rfl,⟨by rw[a,List.length_set];exact ho,by rw[a,List.length_set];exact hm,⟨by omega⟩,by omega⟩,?_,rfl⟩;rw[a,show B=i' by omega,D5 (by omega),DX,List.length_take,Nat.min_eq_left (by omega),hinv,Mv,ew];rw[Nat.div_div_eq_div_mul,Nat.mul_comm (2^n),<-Nat.div_div_eq_div_mul,Lc (by omega:i'<=l.length),DE y,List.drop_eq_nil_of_le (by omega:l.length<=i'+1),hv,AB,Nat.mul_zero,Nat.add_zero]
 have ag:=Ae Y;intro aL aA;conv=>cbv
 refine g1 (by omega) ?_;refine g2 (by omega) ?_;intro a7 aq;conv=>cbv
 obtain⟨R,G⟩:=AG (l:=u) (i:=a7) (by omega);refine⟨R,fun _=>G,?_⟩;try conv=>cbv
 intro aM Z;have ax:=Z.eq;have f32:=Z.lt;conv=>cbv
 intro aN a1;conv=>cbv
 have a1:=wrap_u64 a1;intro aO a2;conv=>cbv
 refine g2 (by omega) ?_;have a2:=ID (p:=4294967296) a2 rfl;intro ak ad;conv=>cbv
 obtain⟨v,hv,ay⟩:∃v:Nat,v=C.toNat+4294967296*R.toNat/\ak=v:=⟨_,rfl,cm ad (by omega) (by omega) (by omega) (by omega)⟩
 intro P d;conv=>cbv
 refine g2 (by omega) ?_;obtain⟨al,w,d⟩:∃q:Nat,q=v/2^n/\P=q:=⟨_,rfl,shr_var d (by omega) (by omega) (by show n<=64;omega)⟩
 rw[w] at d;intro Q j;conv=>cbv
 have j:=wrap_u32 j;refine g2 (by omega) ?_;intro B a6;conv=>cbv
 obtain⟨g,b⟩:=Bm (n:=Q) (by omega);have S:=b.eq;have T:=b.lt;refine⟨g,fun _=>⟨by show _<List.length (α:=UInt32) o;(first | omega | (simp;omega)),Bl b⟩,?_⟩;intro (f:List UInt32) (a:f=List.set (α:=UInt32) o B g);have U:f.length=o.length:=by rw[a,List.length_set]
 conv=>cbv
 intro O aa;conv=>cbv
 refine g1 (by omega) ?_;refine⟨l.length-(i'+1),?_,?_⟩
 ·omega
 rw[D];have ew:g.toNat=v/2^n%4294967296:=by omega
 have y:l[i']? =some C:=by rw[I _ (by omega),show i'=L by omega];exact A
 refine⟨f,m,i'+1,O,rfl,rfl,⟨by rw[a,List.length_set];exact ho,by rw[a,List.length_set];exact hm,⟨by omega⟩,by omega⟩,?_,rfl⟩;rw[a,show B=i' by omega,D5 (by omega),DX,List.length_take,Nat.min_eq_left (by omega),hinv,Mv,ew];rw[Nat.div_div_eq_div_mul,Nat.mul_comm (2^n),<-Nat.div_div_eq_div_mul,Lc (by omega:i'<=l.length),DE y,DE (show l[i'+1]? =some R from (by rw[I _ (by omega),show i'+1=a7 by omega];exact G)),Yr (by omega),hv]
end Go.Abs
