/- Part 20 of a proof. Conditions: each theorem's own. -/
import Derived.RangeFuncBox
import Derived.RangeFuncLeaves
import Derived.Shelf.Abstract
import Derived.WalkKit
import Derived.OwnWalkIn
import Derived.TacticsInMore
import Derived.LoopNIn
import Derived.LoopIn
import Derived.Test.YtfilemenbchajaaGreatPk00
import Derived.Test.YtfilemenbchajaaGreatPk18
set_option linter.all false
set_option maxHeartbeats 8000000
set_option maxRecDepth 20000
open Go.Proofs
namespace Go.Abs
open Go.RowKit
variable {b:Bool} {c w:Int} {i len off:Nat} {l o v z:List UInt32}
theorem VT (g:o.length=z.length) (d:o.take off=z.take off) (f:o.drop (off+len)=z.drop (off+len)) (hlen:off+len<=o.length) (h3:AB ((o.drop off).take len)=AB ((z.drop off).take len)):o=z:=by
 have a:(o.drop off).take len=(z.drop off).take len:=KI (by simp;omega) h3;rw[<-List.take_append_drop off o,<-List.take_append_drop off z,d,<-List.take_append_drop len (o.drop off),<-List.take_append_drop len (z.drop off),a,List.drop_drop,List.drop_drop,f]
theorem Lu:(l.drop off)[i]? =l[off+i]? :=by rw[List.getElem?_drop]
theorem Mt {x:UInt32} (h:l[i]? =some x):AB (l.take (i+1))=AB (l.take i)+2^(32*i)*x.toNat:=B6 h
theorem Le {x:UInt32} (h:o.drop i=l.drop i) (a:o[i]? =some x):l[i]? =some x:=by
 have:(o.drop i)[0]? =(l.drop i)[0]? :=by rw[h]
 rw[List.getElem?_drop,List.getElem?_drop] at this;simpa [a] using this.symm
theorem gC {x p g f d a h k j m n:Int} (L:0<=x/\x<4294967296) (K:0<=p/\p<=18446744065119617025) (J:0<=c/\c<=4294967296) (t:g=(p+c)%18446744073709551616)
  (y:f=g%4294967296) (A:d=f%18446744073709551616) (u:a=x%18446744073709551616) (q:h=(a-d)%18446744073709551616) (r:k=h%4294967296) (hw:k=w)
  (B:j=g/4294967296) (s:m=h/9223372036854775808) (C:n=(j+m)%18446744073709551616):(0<=n/\n<=4294967296)/\w+p+c=x+4294967296*n:=by
 have F:g=p+c:=by omega
 have G:0<=f/\f<4294967296:=by omega
 have a3:d=f:=by omega
 have a4:a=x:=by omega
 have H:g=f+4294967296*j:=by omega
 have I:0<=j/\j<=4294967295:=by omega
 clear t y B A u
 subst a3 a4
 by_cases D:a<d
 ·have b1:h=a-d+18446744073709551616:=by omega
  have b2:m=1:=by omega
  have b3:k=a-d+4294967296:=by omega
  clear q r s
  omega
 have b1:h=a-d:=by omega
 have b2:m=0:=by omega
 have b3:k=a-d:=by omega
 clear q r s
 omega
theorem bA {x C1 Cg a d:Int} (n:0<=x/\x<4294967296) (m:0<=c/\c<=4294967296) (f:C1=x%18446744073709551616) (g:Cg=(C1-c)%18446744073709551616) (h:a=Cg%4294967296) (hw:a=w)
  (j:d=Cg/9223372036854775808) (hb:b=(d==1)):w+c=x+4294967296*(b.toNat:Int):=by
 have a4:C1=x:=by omega
 subst a4
 clear f
 by_cases k:C1<c
 ·have b1:Cg=C1-c+18446744073709551616:=by omega
  have b2:d=1:=by omega
  have b3:a=C1-c+4294967296:=by omega
  rw[hb,b2]
  show w+c=C1+4294967296*1
  omega
 have b1:Cg=C1-c:=by omega
 have b2:d=0:=by omega
 have b3:a=C1-c:=by omega
 rw[hb,b2]
 show w+c=C1+4294967296*0
 omega
theorem gT {a S2 W T M:Nat} {c:Bool} (d:a+W=T+M*b.toNat) (f:S2+W=T+M*c.toNat) (l1:a<M) (l2:S2<M):a=S2/\b=c:=by
 cases b <;> cases c <;> simp at d f ⊢ <;> omega
theorem Lg (h:o.drop i=l.drop i):o.drop (i+1)=l.drop (i+1):=by
 rw[<-List.drop_drop,<-List.drop_drop,h]
theorem gD {d:Nat} {g:Int} (hlen:len=v.length+1) (aS:off+len<=l.length) (hg:AS g d) (hd:d<4294967296) (b1:l.length<=140737488355328) (b2:z.length=l.length) (az:z.take off=l.take off) (aA:z.drop (off+len)=l.drop (off+len)) (al:AB ((z.drop off).take len)+AB v*d=AB ((l.drop off).take len)+2^(32*len)*b.toNat):GQ Tryz.prog 366 (.AT .u32 0 0 off len) (.arr 0 .u32 l) [.one (.sl .u32 v),.one (.int .u64 g)] (.one (.bool b)) (.arr 0 .u32 z):=by
 have eg:=hg.eq;refine Jk Tryz.func366 (by kernel_rfl) rfl fun E hE=>?_
 conv=>cbv
 intro aD O;have aT:=O.eq;have f14:=O.le;conv=>cbv
 refine .inr ?_
 obtain⟨J0,a6⟩:∃J:List AV->List AM->Nat->Prop,J=fun vs bl k=>∃(o:List UInt32) (B i':Nat) (c L i:Int),vs=[.one (.AT .u32 0 0 off len),.one (.sl .u32 v),.one (.int .u64 g),.one (.int .u64 c),.one (.sl .u32 v),.one (.int .i64 L),.one (.int .i64 i)]/\
  bl=[.arr 0 .u32 o]/\(o.length=l.length/\Cb L v.length/\AS i i'/\i'<=v.length/\AS c B/\B<=4294967296)/\(o.take off=l.take off/\o.drop (off+i')=l.drop (off+i'))/\
  AB ((o.drop off).take i')+AB (v.take i')*d=AB ((l.drop off).take i')+2^(32*i')*B/\k=v.length-i':=⟨_,rfl⟩
 refine⟨[0,1,2,7,13,14,15],[0],J0,⟨v.length-0,by rw[a6];exact⟨l,0,0,0,aD,0,rfl,rfl,⟨rfl,O,BC 0,by omega,BC 0,by omega⟩,⟨rfl,rfl⟩,by simp[AB],rfl⟩⟩,?_⟩;intro vs bl b3 hj;rw[a6] at hj;obtain⟨o,B,i',c,L,i,rfl,rfl,⟨ho,hL,hi,aZ,hc,aY⟩,⟨ht,C⟩,hinv,b0⟩:=hj;conv=>cbv
 have eL:=hL.eq;have ei:=hi.eq;have ec:=hc.eq;intro aE ae;conv=>cbv
 cases aE <;> conv=>cbv
 ·have aC:=Ad ae;rintro bd ⟨aV,f48⟩;conv=>cbv
  refine g2 (by omega) ?_;intro aq aQ;conv=>cbv
  obtain⟨H,s⟩:=AG (l:=o) (i:=aq) (by omega);refine⟨H,fun _=>s,?_⟩;try conv=>cbv
  intro bf ai;have aw:=ai.eq;have f50:=ai.lt;conv=>cbv
  intro C1 Z;conv=>cbv
  have Z:=wrap_u64 Z;intro Cg a1;conv=>cbv
  have a1:=wrap_u64 a1;rintro bg ⟨aW,f56⟩;conv=>cbv
  intro aJ a2;conv=>cbv
  have a2:=wrap_u32 a2;refine g2 (by omega) ?_;intro ar aR;conv=>cbv
  obtain⟨A,q⟩:=Bm (n:=aJ) (by omega);have ad:=q.eq;have aL:=q.lt;refine⟨A,fun _=>⟨by show _<List.length (α:=UInt32) o;(first | omega | (simp;omega)),Bl q⟩,?_⟩;intro (t:List UInt32) (f:t=List.set (α:=UInt32) o ar A);have aN:t.length=o.length:=by rw[f,List.length_set]
  conv=>cbv
  intro bh a5;conv=>cbv
  refine g2 (by omega) ?_;have a5:=Da (p:=9223372036854775808) a5 rfl;intro aa ax;conv=>cbv
  have hk:i'=v.length:=by omega
  subst hk;have M:ar=off+v.length:=by omega
  have N:aq=off+v.length:=by omega
  rw[N] at s;have hx:=Le C s;have ay:=bA (C1:=C1) (Cg:=Cg) (x:=H.toNat) (c:=B) (w:=A.toNat) (by omega) (by omega) (by rw[<-aw];exact Z) (by rw[<-ec];exact a1) a2 ad a5 ax
  have aj:AB ((t.drop off).take len)+AB v*d=AB ((l.drop off).take len)+2^(32*len)*aa.toNat:=by
   rw[hlen,Mt (l:=l.drop off) (by rw[Lu];exact hx),f,M,Lf,D5 (by rw[List.length_drop];omega),DX,List.length_take,List.length_drop,Nat.min_eq_left (by omega),DR];rw[List.take_length] at hinv;have I:A.toNat+B=H.toNat+4294967296*aa.toNat:=by omega
   generalize 2^(32*v.length)=P at*
   have e:P*(A.toNat+B)=P*(H.toNat+4294967296*aa.toNat):=by rw[I]
   clear ay I al
   grind
  have ak:∀y:List UInt32,AB ((y.drop off).take len)<2^(32*len):=fun y=>Nat.lt_of_lt_of_le (CL _) (Nat.pow_le_pow_right (by decide) (by rw[List.length_take];omega))
  obtain⟨q1,q2⟩:=gT aj al (ak _) (ak _);have aB:t=z:=VT (off:=off) (len:=len) (by omega) (by rw[az,f,M,GO (by omega),ht]) (by rw[aA,f,M,List.drop_set_of_lt (by omega),hlen,<-Nat.add_assoc];exact Lg C) (by omega) q1;refine⟨fun _=>⟨⟨⟨rfl,congrArg _ (q2.symm),trivial⟩,trivial⟩,rfl,by simp⟩,fun _=>by show some (AM.arr 0 .u32 t)=_;rw[aB]⟩
 have aC:=Ae ae;refine .inr ?_;obtain⟨h,K⟩:=AG (l:=v) (i:=i') (by omega);refine⟨h,fun _=>⟨by omega,by rw[show (i).toNat=i' by omega];exact K⟩,?_⟩;try conv=>cbv
 intro b4 af;have aU:=af.eq;have f19:=af.lt;conv=>cbv
 intro aF ag;conv=>cbv
 have ag:=wrap_u64 ag;intro aG j;conv=>cbv
 have j:=wrap_u64 j;obtain⟨au,ep,j⟩:∃p:Nat,p=h.toNat*d/\aG=p:=⟨_,rfl,by rw[j,(by omega:aF=(h.toNat:Int)),eg,<-Int.natCast_mul];have:=Nat.mul_le_mul (by omega:h.toNat<=4294967295) (by omega:d<=4294967295);clear hinv;omega⟩
 have bp:au<=4294967295*4294967295:=by rw[ep];exact Nat.mul_le_mul (by omega) (by omega)
 intro b5 Q;conv=>cbv
 have Q:=wrap_u64 Q;refine g2 (by omega) ?_;intro an aO;conv=>cbv
 obtain⟨G,r⟩:=AG (l:=o) (i:=an) (by omega);refine⟨G,fun _=>r,?_⟩;try conv=>cbv
 intro b6 ah;have av:=ah.eq;have f29:=ah.lt;conv=>cbv
 intro b7 R;conv=>cbv
 have R:=wrap_u64 R;intro b8 S;conv=>cbv
 have S:=wrap_u32 S;intro b9 T;conv=>cbv
 have T:=wrap_u64 T;intro ba U;conv=>cbv
 have U:=wrap_u64 U;intro aH V;conv=>cbv
 have V:=wrap_u32 V;refine g2 (by omega) ?_;intro ao aP;conv=>cbv
 obtain⟨u,m⟩:=Bm (n:=aH) (by omega);have ab:=m.eq;have aK:=m.lt;refine⟨u,fun _=>⟨by show _<List.length (α:=UInt32) o;(first | omega | (simp;omega)),Bl m⟩,?_⟩;intro (a8:List UInt32) (a:a8=List.set (α:=UInt32) o ao u);have aM:a8.length=o.length:=by rw[a,List.length_set]
 conv=>cbv
 intro bb W;conv=>cbv
 refine g2 (by omega) ?_;have W:=Da (p:=4294967296) W rfl;intro bc X;conv=>cbv
 refine g2 (by omega) ?_;have X:=Da (p:=9223372036854775808) X rfl;intro F Y;conv=>cbv
 have Y:=wrap_u64 Y;intro aI aX;conv=>cbv
 refine g1 (by omega) ?_;refine⟨v.length-(i'+1),?_,?_⟩
 ·omega
 rw[a6];have M:ao=off+i':=by omega
 have N:an=off+i':=by omega
 rw[N] at r;have hx:=Le C r;have a7:=gC (x:=G.toNat) (p:=au) (c:=B) (w:=u.toNat) (by omega) (by omega) (by omega) (by rw[Q,j,ec]) S T (by rw[R,av]) U V ab W X Y;have hw:u.toNat+h.toNat*d+B=G.toNat+4294967296*F.toNat:=by rw[<-ep];obtain⟨h1,h2⟩:=a7;clear hinv;omega
 refine⟨a8,F.toNat,i'+1,F,L,aI,rfl,rfl,⟨by omega,hL,⟨by omega⟩,by omega,⟨by have:=a7.1;omega⟩,by have:=a7.1;omega⟩,⟨by rw[a,M,GO (by omega)];exact ht,by rw[a,M,List.drop_set_of_lt (by omega)];exact Lg C⟩,?_,rfl⟩;have hs:=gA (o:=o.drop off) (w:=u) (i:=i') (xi:=G.toNat) (yi:=h.toNat) (D:=d) (Em:=B) (En:=F.toNat) (by rw[List.length_drop];omega) hinv hw;rw[a,M,Lf,B6 K,Mt (l:=l.drop off) (by rw[Lu];exact hx)];exact hs
theorem eE (hlen:len=v.length+1) (ax:off+len<=l.length) (aG:l.length<=140737488355328) (aH:z.length=l.length) (aa:z.take off=l.take off) (ab:z.drop (off+len)=l.drop (off+len)) (F:AB ((z.drop off).take len)=(AB ((l.drop off).take len)+AB v)%2^(32*len)):GQ Tryz.prog 367 (.AT .u32 0 0 off len) (.arr 0 .u32 l) [.one (.sl .u32 v)] (.AE []) (.arr 0 .u32 z):=by
 refine Jk Tryz.func367 (by kernel_rfl) rfl fun E hE=>?_
 conv=>cbv
 intro n8 h8;have e8:=h8.eq;have f8:=h8.le;conv=>cbv
 refine .inr ?_
 obtain⟨J0,D⟩:∃J:List AV->List AM->Nat->Prop,J=fun vs bl k=>∃(o:List UInt32) (h i':Nat) (c L i:Int),vs=[.one (.AT .u32 0 0 off len),.one (.sl .u32 v),.one (.int .u64 c),.one (.sl .u32 v),.one (.int .i64 L),.one (.int .i64 i)]/\
  bl=[.arr 0 .u32 o]/\(o.length=l.length/\Cb L v.length/\AS i i'/\i'<=v.length/\AS c h/\h<=1)/\(o.take off=l.take off/\o.drop (off+i')=l.drop (off+i'))/\
  AB ((o.drop off).take i')+2^(32*i')*h=AB ((l.drop off).take i')+AB (v.take i')/\k=v.length-i':=⟨_,rfl⟩
 refine⟨[0,1,4,7,8,9],[0],J0,⟨v.length-0,by rw[D];exact⟨l,0,0,0,n8,0,rfl,rfl,⟨rfl,h8,BC 0,by omega,BC 0,by omega⟩,⟨rfl,rfl⟩,by simp[AB],rfl⟩⟩,?_⟩;intro vs bl aI hj;rw[D] at hj;obtain⟨o,h,i',c,L,i,rfl,rfl,⟨ho,hL,hi,aE,hc,aD⟩,⟨ht,s⟩,hinv,aF⟩:=hj;conv=>cbv
 have eL:=hL.eq;have ei:=hi.eq;have ec:=hc.eq;intro af K;conv=>cbv
 cases af <;> conv=>cbv
 ·have ae:=Ad K;rintro aP ⟨aA,f34⟩;conv=>cbv
  refine g2 (by omega) ?_;intro a7 av;conv=>cbv
  obtain⟨g,r⟩:=AG (l:=o) (i:=a7) (by omega);refine⟨g,fun _=>r,?_⟩;try conv=>cbv
  intro aQ W;have aB:=W.eq;have f36:=W.lt;conv=>cbv
  intro aR X;conv=>cbv
  have X:=wrap_u32 X;intro ai Y;conv=>cbv
  have Y:=wrap_u32 Y;refine g2 (by omega) ?_;intro a8 aw;conv=>cbv
  obtain⟨x,m⟩:=Bm (n:=ai) (by omega);have ak:=m.eq;have an:=m.lt;refine⟨x,fun _=>⟨by show _<List.length (α:=UInt32) o;(first | omega | (simp;omega)),Bl m⟩,?_⟩;intro (a:List UInt32) (f:a=List.set (α:=UInt32) o a8 x);have aq:a.length=o.length:=by rw[f,List.length_set]
  conv=>cbv
  have hk:i'=v.length:=by omega
  subst hk;have B:a8=off+v.length:=by omega
  have C:a7=off+v.length:=by omega
  rw[C] at r;have hx:=Le s r;have a2:x.toNat=(g.toNat+h)%4294967296:=by clear hinv F;omega
  have a1:∀y:List UInt32,AB ((y.drop off).take len)<2^(32*len):=fun y=>Nat.lt_of_lt_of_le (CL _) (Nat.pow_le_pow_right (by decide) (by rw[List.length_take];omega))
  have Z:AB ((a.drop off).take len)=(AB ((l.drop off).take len)+AB v)%2^(32*len):=by
   have h0:=a1 a
   have e1:AB ((a.drop off).take len)+2^(32*len)*((g.toNat+h)/4294967296)=AB ((l.drop off).take len)+AB v:=by
    rw[hlen,Mt (l:=l.drop off) (by rw[Lu];exact hx),f,B,Lf,D5 (by rw[List.length_drop];omega),DX,List.length_take,List.length_drop,Nat.min_eq_left (by omega),DR];rw[List.take_length] at hinv;have hd:=Nat.div_add_mod (g.toNat+h) 4294967296;rw[<-a2] at hd
    generalize (g.toNat+h)/4294967296=Q at*
    generalize 2^(32*v.length)=P at*
    have e:P*(4294967296*Q+x.toNat)=P*(g.toNat+h):=by rw[hd]
    clear a2 F h0 a1
    grind
   rw[<-e1,Nat.add_mul_mod_self_left,Nat.mod_eq_of_lt h0]
  have ad:a=z:=VT (off:=off) (len:=len) (by omega) (by rw[aa,f,B,GO (by omega),ht]) (by rw[ab,f,B,List.drop_set_of_lt (by omega),hlen,<-Nat.add_assoc];exact Lg s) (by omega) (by rw[Z,F]);refine⟨fun _=>⟨trivial,rfl,by simp⟩,fun _=>by show some (AM.arr 0 .u32 a)=_;rw[ad]⟩
 have ae:=Ae K;refine .inr ?_;obtain⟨H,A⟩:=AG (l:=v) (i:=i') (by omega);refine⟨H,fun _=>⟨by omega,by rw[show (i).toNat=i' by omega];exact A⟩,?_⟩;try conv=>cbv
 intro aJ M;have ay:=M.eq;have f13:=M.lt;conv=>cbv
 refine g2 (by omega) ?_;intro a5 ar;conv=>cbv
 obtain⟨I,q⟩:=AG (l:=o) (i:=a5) (by omega);refine⟨I,fun _=>q,?_⟩;try conv=>cbv
 intro aK N;have az:=N.eq;have f18:=N.lt;conv=>cbv
 intro aL O;conv=>cbv
 have O:=wrap_u64 O;intro aM R;conv=>cbv
 have R:=wrap_u64 R;intro aN S;conv=>cbv
 have S:=wrap_u64 S;intro aO T;conv=>cbv
 have T:=wrap_u64 T;intro ag U;conv=>cbv
 have U:=wrap_u32 U;refine g2 (by omega) ?_;intro a6 au;conv=>cbv
 obtain⟨u,j⟩:=Bm (n:=ag) (by omega);have aj:=j.eq;have al:=j.lt;refine⟨u,fun _=>⟨by show _<List.length (α:=UInt32) o;(first | omega | (simp;omega)),Bl j⟩,?_⟩;intro (G:List UInt32) (d:G=List.set (α:=UInt32) o a6 u);have ao:G.length=o.length:=by rw[d,List.length_set]
 conv=>cbv
 intro t V;conv=>cbv
 refine g2 (by omega) ?_;have V:=Da (p:=4294967296) V rfl;intro ah aC;conv=>cbv
 refine g1 (by omega) ?_;refine⟨v.length-(i'+1),?_,?_⟩
 ·omega
 rw[D];have B:a6=off+i':=by omega
 have C:a5=off+i':=by omega
 rw[C] at q;have hx:=Le s q;have hw:u.toNat+4294967296*t.toNat=I.toNat+H.toNat+h:=by clear hinv;omega
 refine⟨G,t.toNat,i'+1,t,L,ah,rfl,rfl,⟨by omega,hL,⟨by omega⟩,by omega,⟨by omega⟩,by omega⟩,⟨by rw[d,B,GO (by omega)];exact ht,by rw[d,B,List.drop_set_of_lt (by omega)];exact Lg s⟩,?_,rfl⟩;have hs:=Yf (o:=o.drop off) (w:=u) (i:=i') (xi:=I.toNat) (yi:=H.toNat) (LS:=h) (LU:=t.toNat) (by rw[List.length_drop];omega) hinv hw;rw[d,B,Lf,B6 A,Mt (l:=l.drop off) (by rw[Lu];exact hx)];exact hs
end Go.Abs
namespace Go.Abs
open Go.RowKit Go.Shelf Go.Proofs
attribute [local go_sem] Oper.semAt_some
def upto {α:Type} (f:Nat->α) (k:Nat):List α:=(List.range k).map f
theorem WQ {α:Type} (f:Nat->α) (k:Nat):upto f (k+1)=upto f k++[f k]:=by simp[upto,List.range_succ]
theorem gb {α:Type} (f:Nat->α) (k:Nat):(upto f k).length=k:=by simp[upto]
def bk (l:List UInt32) (k:Nat):Int×UInt32:=((l.length:Int)-1-k,l[l.length-1-k]?.getD 0)
structure FO (n b:Nat) (A B:World):Prop where
 below:Below n A B
 block:B.heap[b]? =A.heap[b]?
theorem FO.refl (n b:Nat) (A:World):FO n b A A:=⟨Below.refl _ _,rfl⟩
theorem FO.trans {n b:Nat} {A B C:World} (h:FO n b A B) (k:FO n b B C):FO n b A C:=⟨h.1.trans k.1,k.2.trans h.2⟩
theorem Ys (F:Fence) (n:Nat) (h7:F.fn 377) (hro:F.round=none) (hn:1<=n) (l Bs n₀ b off cap:Nat) (zs:List UInt32) (hreach:zs.length<=140737488351232) (hb:b<n₀) (J Jx:List (Int×UInt32)->World->Prop)
  (hY:∀pre x W,J pre W->pre.length<zs.length->YieldAt F (n-1) Tryz.prog l #[.int .i64 x.1,.int .u32 (x.2.toNat:Int)] W fun e W'=>
   (e= .returned (.bool true)/\J (pre++[x]) W'/\FO n₀ Bs W W')\/(e= .returned (.bool false)/\Jx (pre++[x]) W'))
  (W:World) (hBs:W.cell? ⟨Bs,0,none⟩=some (.slice (some ⟨b,off,none⟩) zs.length cap)) (hc:∀j,j<zs.length->W.cell? ⟨b,off+j,none⟩=some (.int .u32 ((zs[j]?.getD 0).toNat:Int))) (h0:J [] W):
  CallsIn F n Tryz.prog 377 #[.func (.yield l) #[] #[],.pointer (some ⟨Bs,0,none⟩)] W fun e W'=>(∃v,e= .returned v)/\
   ((∃ys,ys=upto (bk zs) zs.length/\J ys W')\/(∃pre,(∃k,k<=zs.length/\pre=upto (bk zs) k)/\Jx pre W')):=by
 refine callsIn_of_wp Tryz.func377 rfl h7 ?_ hro;simp only[Tryz.ntmps377,List.size_toArray,List.length_cons,List.length_nil,Nat.reduceAdd,Nat.reduceSub,Array.replicate_succ,Array.replicate_zero,List.push_toArray,List.append_toArray,List.nil_append,List.cons_append]
 gi_wp2
 gi_loopw [3] (fun i wr=>∃k:Nat,k<=zs.length/\i= .int .i64 ((zs.length:Int)-1-k)/\J (upto (bk zs) k) wr/\FO n₀ Bs W wr)
  (fun i _=>(intOf i+1).toNat)
 case atStart=>exact⟨0,Nat.zero_le _,by simp,h0,FO.refl _ _ _⟩
 case round=>
  obtain⟨k,hk,rfl,hJs,hnx⟩:=hrel
  by_cases hlt:k<zs.length
  ·obtain⟨j,ej,hjl,ex⟩:∃j:Nat,(zs.length:Int)-1-k=(j:Int)/\j<zs.length/\bk zs k=((j:Int),zs[j]?.getD 0):=
    ⟨zs.length-1-k,by omega,by omega,by unfold bk;rw[show ((zs.length:Int)-1-k)=((zs.length-1-k:Nat):Int) by omega]⟩
   have hcx:wr.cell? ⟨b,off+j,none⟩=some (.int .u32 ((zs[j]?.getD 0).toNat:Int)):=(hnx.below.cell (p:=⟨b,off+j,none⟩) hb).trans (hc j hjl);have hbx:wr.cell? ⟨Bs,0,none⟩=some (.slice (some ⟨b,off,none⟩) zs.length cap):=(World.cell?_of_block (a:=⟨Bs,0,none⟩) hnx.block).trans hBs;obtain⟨fn,tmps,assign,body,hy,hR⟩:=hY _ (bk zs k) wr hJs (by rw[gb];exact hlt);rw[ex] at hy hR;have eg:zs[j]?.getD 0=zs[j]:=by simp[hjl]
   rw[eg] at hy hcx
   dsimp only at hy
   rw[ej];have hmz:((j:Int):Int)-1+1=j:=by omega
   gi_wp2
   refine hR.mono ?_;rintro e W3 (⟨rfl,hJ3,hk3⟩ |⟨rfl,hJx3⟩)
   ·gi_wp2
    go_roundw
    case rel=>exact⟨k+1,by omega,by congr 1;omega,by rw[WQ,ex];exact hJ3,hnx.trans hk3⟩
    case measure=>simp[intOf]
   gi_wp2
   refine bodyPost_ret (results_none rfl _ _ _) rfl ?_;exact⟨⟨_,rfl⟩,.inr ⟨_,⟨k+1,by omega,by rw[WQ,ex]⟩,hJx3⟩⟩
  obtain rfl:k=zs.length:=by omega
  rw[show (zs.length:Int)-1-zs.length= -1 by omega]
  gi_wp2
  go_end0
  exact⟨⟨_,rfl⟩,.inl ⟨_,rfl,hJs⟩⟩
theorem Yt (F:Fence) (n:Nat) (h7:F.fn 377) (hro:F.round=none) (l Bs:Nat) (base:Option Addr) (cap:Nat) (J:List (Int×UInt32)->World->Prop) (W:World) (hBs:W.cell? ⟨Bs,0,none⟩=some (.slice base 0 cap)) (h0:J [] W):
  CallsIn F n Tryz.prog 377 #[.func (.yield l) #[] #[],.pointer (some ⟨Bs,0,none⟩)] W fun e W'=>(∃v,e= .returned v)/\J [] W':=by
 refine callsIn_of_wp Tryz.func377 rfl h7 ?_ hro;simp only[Tryz.ntmps377,List.size_toArray,List.length_cons,List.length_nil,Nat.reduceAdd,Nat.reduceSub,Array.replicate_succ,Array.replicate_zero,List.push_toArray,List.append_toArray,List.nil_append,List.cons_append]
 gi_wp2
 gi_loopw [3] (fun i wr=>i= .int .i64 (-1)/\J [] wr) (fun _ _=>0)
 case atStart=>exact⟨by simp,h0⟩
 case round=>
  obtain⟨rfl,hJs⟩:=hrel
  gi_wp2
  go_end0
  exact⟨⟨_,rfl⟩,hJs⟩
theorem Yu (F:Fence) (n:Nat) (h5:F.fn 369) (hro:F.round=none) (a:Option Addr) (len cap:Nat) (w:World):
  CallsIn F n Tryz.prog 369 #[.slice a len cap] w fun e w'=>e= .returned (.func (.func 377) #[] #[.pointer (some ⟨w.heap.size,0,none⟩)])/\w'=w.alloc (.cells #[.slice a len cap] 119):=by
 refine callsIn_of_wp Tryz.func369 rfl h5 ?_ hro;simp only[Tryz.ntmps369,List.size_toArray,List.length_cons,List.length_nil,Nat.reduceAdd,Nat.reduceSub,Array.replicate_succ,Array.replicate_zero,List.push_toArray,List.append_toArray,List.nil_append,List.cons_append]
 gi_wp2
 go_ret
 exact⟨rfl,rfl⟩
def Words (n:Nat) (W:World) (sv:Value) (zs:List UInt32):Prop:=
 (∃base cap,sv= .slice base 0 cap/\zs=[])\/∃b off cap,sv= .slice (some ⟨b,off,none⟩) zs.length cap/\b<n/\∀j,j<zs.length->W.cell? ⟨b,off+j,none⟩=some (.int .u32 ((zs[j]?.getD 0).toNat:Int))
theorem Words.below {n:Nat} {A B:World} (h:Below n A B) {a:Value} {d:List UInt32}:Words n A a d->Words n B a d
 | .inl e=> .inl e
 | .inr ⟨b,off,cap,e,hb,f⟩=> .inr ⟨b,off,cap,e,hb,fun j g=>(h.cell (p:=⟨b,off+j,none⟩) hb).trans (f j g)⟩
theorem Yv (F:Fence) (n:Nat) (t:F.fn 377) (m:F.round=none) (H:1<=n) (g a:Nat) (y:Value) (f:List UInt32) (d:f.length<=140737488351232) (w:World) (q:g<w.heap.size) (h:a<=w.heap.size)
  (D:w.cell? ⟨g,0,none⟩=some y) (B:Words a w y f):
  SeqStopsK F n Tryz.prog 377 #[.pointer (some ⟨g,0,none⟩)] (fun x:Int×UInt32=> #[Value.int .i64 x.1,Value.int .u32 (x.2.toNat:Int)]) (FO a g) (fun ys=>ys=upto (bk f) f.length)
   (fun pre=>∃k,k<=f.length/\pre=upto (bk f) k) f.length w:=fun l J A W u _ _ C s=>by
 have j:=(u.cell (p:=⟨g,0,none⟩) q).trans D;rcases B.below (u.mono h) with⟨base,cap,rfl,rfl⟩ |⟨b,off,cap,rfl,hb,r⟩
 ·exact (Yt F n t m l g base cap J W j s).mono fun e I ⟨he,G⟩=>⟨he,.inl ⟨_,rfl,G⟩⟩
 exact Ys F n t m H l g a b off cap f d hb J A C W j r s
def IY (s:Int) (x:Int×UInt32):Int:=bits BinOp.or IntKind.u64 (IntKind.u64.wrap (s*4294967296)) (IntKind.u64.wrap (x.2.toNat:Int))
def Ir (pre:List (Int×UInt32)):Int:=pre.foldl IY 0
theorem Z2 (pre:List (Int×UInt32)) (x:Int×UInt32):Ir (pre++[x])=IY (Ir pre) x:=by simp[Ir]
theorem gN (F:Fence) (n:Nat) (h3:F.fn 355) (h5:F.fn 369) (h7:F.fn 377) (hro:F.round=none) (hn:3<=n) (a:Option Addr) (len cap:Nat) (zs:List UInt32) (hreach:zs.length<=140737488351232) (w:World) (hI:Words w.heap.size w (.slice a len cap) zs):
  CallsIn F n Tryz.prog 355 #[.slice a len cap] w fun e W'=>e= .returned (.int .u64 (Ir (upto (bk zs) zs.length)))/\Below w.heap.size w W':=by
 have h1:1<=n:=by omega
 refine callsIn_of_wp_marks Tryz.func355 rfl h3 ?_ hro;simp only[Tryz.ntmps355,List.size_toArray,List.length_cons,List.length_nil,Nat.reduceAdd,Nat.reduceSub,Array.replicate_succ,Array.replicate_zero,List.push_toArray,List.append_toArray,List.nil_append,List.cons_append]
 gi_wp2_with (gi_at_call 369;refine (Yu F (n-1) h5 hro _ _ _ _).mono ?_;rintro e w' ⟨rfl,rfl⟩)
 have bS:=Boxed.new w 219 (.int .u64 0);have bN:=Boxed.new (w.alloc (.cells #[.int .u64 0] 219)) 119 (.slice a len cap);rw[World.size_alloc] at bN;have hB0:Below w.heap.size w ((w.alloc (.cells #[.int .u64 0] 219)).alloc (.cells #[.slice a len cap] 119)):=((Below.refl _ w).alloc (Nat.le_refl _) _).alloc (by simp) _
 refine wpIn_rangeFunc_ownG hro h1 (gf:=377) (lb:= #[.pointer (some ⟨w.heap.size+1,0,none⟩)]) rfl h7 (enters_of Tryz.func377 (by kernel_rfl) rfl)
  (Yv F (n-1) h7 hro (by omega) (w.heap.size+1) w.heap.size _ zs hreach _ (by simp) (by simp;omega) bN.cell (hI.below hB0)) FO.trans (fun W l o o' hl h hc hw=>⟨belowK_b (by simp;omega) W l o o' hl h hc hw,World.putObj_heap_other (by simp at hl;omega)⟩) (Below.refl _ _) (fun _=>rfl)
  (fun pre W=>(W.cell? ⟨w.heap.size,0,none⟩=some (.int .u64 (Ir pre))/\W.frozen? ⟨w.heap.size,0,none⟩=false)/\Below w.heap.size w W)
  (fun _ _ _=>False)
  (OwnFrom.and (Own.from (fun s A B row hs hg hr=>⟨cell_kept hs.1 hg hr,(frozen_kept hs.1 hg hr).trans hs.2⟩) _) (ownFrom_below (Nat.le_refl _) (by simp;omega)))
  (fun _ _ _ _ _ hs _ _=>hs)
  ⟨⟨(bS.alloc _).cell,(bS.alloc _).frozen⟩,hB0⟩
  (fun x=>{tmps:= #[.slice a len cap,undef,.int .u64 0,.pointer (some ⟨w.heap.size,0,none⟩),undef,.int .u32 (x.2.toNat:Int),.slice a len cap,.func (.func 377) #[] #[.pointer (some ⟨w.heap.size+1,0,none⟩)],.int .i64 x.1,.int .u32 (x.2.toNat:Int),undef,undef,undef,undef,undef,undef],defers:=[]}) ?assign ?body ?done ?stop
 case assign=>
  intro l x W K hK
  gi_wp2
  exact hK
 case body=>
  rintro l pre x W ⟨⟨hc,hf⟩,hB⟩ _
  gi_wp2
  exact⟨(KeepsOthers.setCell _ _ _).from _,⟨(Below.refl w.heap.size W).setCell (p:=⟨w.heap.size,0,none⟩) (Nat.le_refl _) _,Below.heap_setCell W _ _ _ (by simp)⟩,⟨by rw[Z2];exact World.cell?_setCell_same' _ _ _ (by rw[hc];rfl),by rw[World.frozen?_setCell];exact hf⟩,hB.setCell (p:=⟨w.heap.size,0,none⟩) (Nat.le_refl _) _⟩
 case done=>
  rintro D ys W hD rfl ⟨⟨hc,_⟩,hB⟩ hK
  gi_wp2
  refine⟨by simp,.inl ⟨_,_,rfl,run_takeDeferred hK,?_⟩⟩;exact⟨_,results_tmp rfl _ _ _,rfl,hB.trans (belowK_b (w:=w) (Nat.le_refl _) W D _ _ (by simp at hD;omega) hK rfl rfl)⟩
 case stop=>
  rintro D c pre W _ _ h _;exact h.elim
theorem NY {s:Int} {p:Nat} (x:Int×UInt32) (f:s=p) (d:p<4294967296):IY s x=((x.2.toNat+4294967296*p:Nat):Int):=by
 have g:=x.2.toNat_lt;refine H8 (a:=IntKind.u64.wrap (s*4294967296)) (b:=IntKind.u64.wrap (x.2.toNat:Int)) rfl ?_ ?_ d g
 ·rw[wrap_u64 (rfl:IntKind.u64.wrap (s*4294967296)=_),f];omega
 rw[wrap_u64 (rfl:IntKind.u64.wrap (x.2.toNat:Int)=_)];omega
theorem Z3:∀(l:List UInt32),l.length<=2->Ir (upto (bk l) l.length)=(AB l:Int)
 | [],_=>rfl
 | [x],_=>by
  show IY 0 (bk [x] 0)=_
  refine (NY (p:=0) _ rfl (by decide)).trans ?_;simp[bk,AB]
 | [x,y],_=>by
  show IY (IY 0 (bk [x,y] 0)) (bk [x,y] 1)=_
  have a:=NY (p:=0) (bk [x,y] 0) rfl (by decide);have d:=y.toNat_lt;rw[NY (p:=y.toNat) _ (by simpa [bk] using a) d];simp[bk,AB]
 | _::_::_::_,h=>by simp at h
theorem Mu {l:List UInt32} {n:Int} {k:Nat} (p:AB l=k) (q:l.length<=2) (r:AS n k):CF 355 [.one (.sl .u32 l)] (.one (.int .u64 n)):=by
 obtain⟨c,m⟩:∃c,Tryz.f355.body=some c:=⟨_,rfl⟩
 refine⟨⟨Tryz.f355,c,by kernel_rfl,by rfl,m⟩,⟨rfl,rfl⟩,fun w I vs h a=>?_⟩
 match vs,a with
 | [v],a=>
  rcases a.1 with d |⟨base,cap,u,x,y,h3⟩
  ·cases d
  obtain rfl:v= .slice base l.length cap:=by simpa using u
  have hw:Words w.heap.size w (.slice base l.length cap) l:=by
   rcases h3 with rfl |⟨b,off,rfl,hb,f⟩
   ·exact .inl ⟨base,cap,rfl,rfl⟩
   refine .inr ⟨b,off,cap,rfl,h b hb,fun j d=>?_⟩;obtain⟨us,hu,s⟩:=f j l[j] (by simp[d]);have hu:us=[.int .u32 (l[j].toNat:Int)]:=hu;have:=s 0 (.int .u32 (l[j].toNat:Int)) (by rw[hu];rfl);have e:l[j]?.getD 0=l[j]:=by simp[d]
   rw[e];have t:T.u32.size=1:=rfl;rw[t] at this;have this:w.cell? ⟨b,off+j*1+0,none⟩=_:=this;simpa using this
  refine (callsIn_wide.1 (gN Fence.wide 3 trivial trivial trivial rfl (Nat.le_refl _) base l.length cap l (by omega) w hw)).mono ?_;rintro e w' ⟨rfl,g⟩;refine⟨_,none,rfl,g,.inr ?_⟩
  show _=_
  rw[Z3 l q,p,r.eq]
 | [],a=>exact a.elim
 | _::_::_,a=>exact a.2.elim
end Go.Abs
namespace Go.Abs
open Go.RowKit Go.Shelf Go.Proofs
theorem bitLen_spec {x:Nat} (h:x<4294967296) (g:x≠0):2^(Lib.bitLen x-1)<=x/\x<2^Lib.bitLen x/\1<=Lib.bitLen x/\Lib.bitLen x<=32:=by
 have key:∀(f x:Nat),x<2^f->x≠0->2^(Lib.bitLenAux f x-1)<=x/\x<2^Lib.bitLenAux f x/\1<=Lib.bitLenAux f x/\Lib.bitLenAux f x<=f:=by
  intro f
  induction f with
  | zero=>intro x h g;simp at h;exact absurd h g
  | succ f n=>
   intro x h g;simp only[Lib.bitLenAux,if_neg g]
   by_cases j:x/2=0
   ·rw[j];have:Lib.bitLenAux f 0=0:=by cases f <;> simp[Lib.bitLenAux]
    rw[this];simp;omega
   obtain⟨a,b,c,d⟩:=n (x/2) (by rw[Nat.pow_succ] at h;omega) j
   generalize Lib.bitLenAux f (x/2)=m at*
   obtain⟨m,rfl⟩:∃k,m=k+1:=⟨m-1,by omega⟩
   rw[show 1+(m+1)=m+1+1 by omega,Nat.pow_succ];simp only[Nat.add_sub_cancel] at a ⊢;rw[Nat.pow_succ] at b ⊢;omega
 have e:Lib.bitLen x=Lib.bitLenAux 32 x:=Lib.bitLenAux_fuel 32 x (by simpa using h) 64 (by decide);rw[e];exact key 32 x (by simpa using h) g
theorem QO {x c:Int} {k:Nat} (d:AS x k) (m:k<4294967296) (f:AS c (Lib.bitLen k)):CF 376 [.one (.int .u32 x)] (.one (.int .i64 c)):=by
 obtain⟨b,hb⟩:∃b,Tryz.f376.body=some b:=⟨_,rfl⟩
 refine⟨⟨Tryz.f376,b,by kernel_rfl,by rfl,hb⟩,⟨rfl,rfl⟩,fun w I vs j a=>?_⟩
 match vs,a with
 | [v],a=>
  rcases a.1 with g | h
  ·cases g
  obtain rfl:v= .int .u32 x:=h;have:=d.eq;refine (bE x w (by omega) (by omega)).mono ?_;rintro e w' ⟨rfl,rfl⟩;refine⟨_,none,rfl,Below.refl _ _,.inr ?_⟩
  show _=_
  rw[f.eq,d.eq];rfl
 | [],a=>exact a.elim
 | _::_::_,a=>exact a.2.elim
end Go.Abs
