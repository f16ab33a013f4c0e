/- Part 19 of a proof. Conditions: each theorem's own. -/
import Derived.RangeFuncBox
import Derived.RangeFuncLeaves
import Derived.Shelf.Abstract
import Derived.WalkKit
import Derived.OwnWalkIn
import Derived.TacticsInMore
import Derived.LoopNIn
import Derived.LoopIn
import Derived.Test.YtoonaidhfikkeaaGreatPk00
import Derived.Test.YtoonaidhfikkeaaGreatPk17
set_option linter.all false
set_option maxHeartbeats 8000000
open Go.Proofs
namespace Go.Abs
open Go.RowKit
variable {b:Bool} {c w:Int} {i len off:Nat} {l o v z:List UInt32}
theorem SY (h:o.length=z.length) (d:o.take off=z.take off) (f:o.drop (off+len)=z.drop (off+len)) (hlen:off+len<=o.length) (g:AB ((o.drop off).take len)=AB ((z.drop off).take len)):o=z:=by
 have a:(o.drop off).take len=(z.drop off).take len:=Ip (by simp;omega) g;rw[<-List.take_append_drop off o,<-List.take_append_drop off z,d,<-List.take_append_drop len (o.drop off),<-List.take_append_drop len (z.drop off),a,List.drop_drop,List.drop_drop,f]
theorem J7:(l.drop off)[i]? =l[off+i]? :=by rw[List.getElem?_drop]
theorem Ky {x:UInt32} (h:l[i]? =some x):AB (l.take (i+1))=AB (l.take i)+2^(32*i)*x.toNat:=Ba h
theorem Jn {x:UInt32} (h:o.drop i=l.drop i) (a:o[i]? =some x):l[i]? =some x:=by
 have:(o.drop i)[0]? =(l.drop i)[0]? :=by rw[h]
 rw[List.getElem?_drop,List.getElem?_drop] at this;simpa [a] using this.symm
theorem Zt {x p g f d a h k j m n:Int} (L:0<=x/\x<4294967296) (K:0<=p/\p<=18446744065119617025) (J:0<=c/\c<=4294967296) (t:g=(p+c)%18446744073709551616)
  (y:f=g%4294967296) (A:d=f%18446744073709551616) (u:a=x%18446744073709551616) (q:h=(a-d)%18446744073709551616) (r:k=h%4294967296) (hw:k=w)
  (B:j=g/4294967296) (s:m=h/9223372036854775808) (C:n=(j+m)%18446744073709551616):(0<=n/\n<=4294967296)/\w+p+c=x+4294967296*n:=by
 have F:g=p+c:=by omega
 have G:0<=f/\f<4294967296:=by omega
 have a3:d=f:=by omega
 have a4:a=x:=by omega
 have H:g=f+4294967296*j:=by omega
 have I:0<=j/\j<=4294967295:=by omega
 clear t y B A u
 subst a3 a4
 by_cases D:a<d
 ·have b1:h=a-d+18446744073709551616:=by omega
  have b2:m=1:=by omega
  have b3:k=a-d+4294967296:=by omega
  clear q r s
  omega
 have b1:h=a-d:=by omega
 have b2:m=0:=by omega
 have b3:k=a-d:=by omega
 clear q r s
 omega
theorem XZ {x CL CQ a d:Int} (n:0<=x/\x<4294967296) (m:0<=c/\c<=4294967296) (f:CL=x%18446744073709551616) (g:CQ=(CL-c)%18446744073709551616) (h:a=CQ%4294967296) (hw:a=w)
  (j:d=CQ/9223372036854775808) (hb:b=(d==1)):w+c=x+4294967296*(b.toNat:Int):=by
 have a4:CL=x:=by omega
 subst a4
 clear f
 by_cases k:CL<c
 ·have b1:CQ=CL-c+18446744073709551616:=by omega
  have b2:d=1:=by omega
  have b3:a=CL-c+4294967296:=by omega
  rw[hb,b2]
  show w+c=CL+4294967296*1
  omega
 have b1:CQ=CL-c:=by omega
 have b2:d=0:=by omega
 have b3:a=CL-c:=by omega
 rw[hb,b2]
 show w+c=CL+4294967296*0
 omega
theorem Z7 {a S2 W T M:Nat} {c:Bool} (d:a+W=T+M*b.toNat) (f:S2+W=T+M*c.toNat) (l1:a<M) (l2:S2<M):a=S2/\b=c:=by
 cases b <;> cases c <;> simp at d f ⊢ <;> omega
theorem Jp (h:o.drop i=l.drop i):o.drop (i+1)=l.drop (i+1):=by
 rw[<-List.drop_drop,<-List.drop_drop,h]
theorem Zu {d:Nat} {g:Int} (hlen:len=v.length+1) (aS:off+len<=l.length) (hg:AK g d) (hd:d<4294967296) (b1:l.length<=140737488355328) (b2:z.length=l.length) (az:z.take off=l.take off) (aA:z.drop (off+len)=l.drop (off+len)) (al:AB ((z.drop off).take len)+AB v*d=AB ((l.drop off).take len)+2^(32*len)*b.toNat):FU Tryz.prog 296 (.AM .u32 0 0 off len) (.arr 0 .u32 l) [.one (.sl .u32 v),.one (.int .u64 g)] (.one (.bool b)) (.arr 0 .u32 z):=by
 have eg:=hg.eq;refine IH Tryz.func296 (by kernel_rfl) rfl fun E hE=>?_
 conv=>cbv
 intro aD O;have aT:=O.eq;have f14:=O.le;conv=>cbv
 refine .inr ?_
 obtain⟨J0,a6⟩:∃J:List AV->List AH->Nat->Prop,J=fun vs bl k=>∃(o:List UInt32) (B i':Nat) (c L i:Int),vs=[.one (.AM .u32 0 0 off len),.one (.sl .u32 v),.one (.int .u64 g),.one (.int .u64 c),.one (.sl .u32 v),.one (.int .i64 L),.one (.int .i64 i)]/\
  bl=[.arr 0 .u32 o]/\(o.length=l.length/\B1 L v.length/\AK i i'/\i'<=v.length/\AK c B/\B<=4294967296)/\(o.take off=l.take off/\o.drop (off+i')=l.drop (off+i'))/\
  AB ((o.drop off).take i')+AB (v.take i')*d=AB ((l.drop off).take i')+2^(32*i')*B/\k=v.length-i':=⟨_,rfl⟩
 refine⟨[0,1,2,7,13,14,15],[0],J0,⟨v.length-0,by rw[a6];exact⟨l,0,0,0,aD,0,rfl,rfl,⟨rfl,O,Ah 0,by omega,Ah 0,by omega⟩,⟨rfl,rfl⟩,by simp[AB],rfl⟩⟩,?_⟩;intro vs bl b3 hj;rw[a6] at hj;obtain⟨o,B,i',c,L,i,rfl,rfl,⟨ho,hL,hi,aZ,hc,aY⟩,⟨ht,C⟩,hinv,b0⟩:=hj;conv=>cbv
 have eL:=hL.eq;have ei:=hi.eq;have ec:=hc.eq;intro aE ae;conv=>cbv
 cases aE <;> conv=>cbv
 ·have aC:=AR ae;rintro bd ⟨aV,f48⟩;conv=>cbv
  refine g2 (by omega) ?_;intro aq aQ;conv=>cbv
  obtain⟨H,s⟩:=AG (l:=o) (i:=aq) (by omega);refine⟨H,fun _=>s,?_⟩;try conv=>cbv
  intro bf ai;have aw:=ai.eq;have f50:=ai.lt;conv=>cbv
  intro CL Z;conv=>cbv
  have Z:=wrap_u64 Z;intro CQ a1;conv=>cbv
  have a1:=wrap_u64 a1;rintro bg ⟨aW,f56⟩;conv=>cbv
  intro aJ a2;conv=>cbv
  have a2:=wrap_u32 a2;refine g2 (by omega) ?_;intro ar aR;conv=>cbv
  obtain⟨A,q⟩:=BN (n:=aJ) (by omega);have ad:=q.eq;have aL:=q.lt;refine⟨A,fun _=>⟨by show _<List.length (α:=UInt32) o;(first | omega | (simp;omega)),BM q⟩,?_⟩;intro (t:List UInt32) (f:t=List.set (α:=UInt32) o ar A);have aN:t.length=o.length:=by rw[f,List.length_set]
  conv=>cbv
  intro bh a5;conv=>cbv
  refine g2 (by omega) ?_;have a5:=Cv (p:=9223372036854775808) a5 rfl;intro aa ax;conv=>cbv
  have hk:i'=v.length:=by omega
  subst hk;have M:ar=off+v.length:=by omega
  have N:aq=off+v.length:=by omega
  rw[N] at s;have hx:=Jn C s;have ay:=XZ (CL:=CL) (CQ:=CQ) (x:=H.toNat) (c:=B) (w:=A.toNat) (by omega) (by omega) (by rw[<-aw];exact Z) (by rw[<-ec];exact a1) a2 ad a5 ax
  have aj:AB ((t.drop off).take len)+AB v*d=AB ((l.drop off).take len)+2^(32*len)*aa.toNat:=by
   rw[hlen,Ky (l:=l.drop off) (by rw[J7];exact hx),f,M,Jo,DH (by rw[List.length_drop];omega),Cq,List.length_take,List.length_drop,Nat.min_eq_left (by omega),Cj];rw[List.take_length] at hinv;have I:A.toNat+B=H.toNat+4294967296*aa.toNat:=by omega
   generalize 2^(32*v.length)=P at*
   have e:P*(A.toNat+B)=P*(H.toNat+4294967296*aa.toNat):=by rw[I]
   clear ay I al
   grind
  have ak:∀y:List UInt32,AB ((y.drop off).take len)<2^(32*len):=fun y=>Nat.lt_of_lt_of_le (Bk _) (Nat.pow_le_pow_right (by decide) (by rw[List.length_take];omega))
  obtain⟨q1,q2⟩:=Z7 aj al (ak _) (ak _);have aB:t=z:=SY (off:=off) (len:=len) (by omega) (by rw[az,f,M,FR (by omega),ht]) (by rw[aA,f,M,List.drop_set_of_lt (by omega),hlen,<-Nat.add_assoc];exact Jp C) (by omega) q1;refine⟨fun _=>⟨⟨⟨rfl,congrArg _ (q2.symm),trivial⟩,trivial⟩,rfl,by simp⟩,fun _=>by show some (AH.arr 0 .u32 t)=_;rw[aB]⟩
 have aC:=AS ae;refine .inr ?_;obtain⟨h,K⟩:=AG (l:=v) (i:=i') (by omega);refine⟨h,fun _=>⟨by omega,by rw[show (i).toNat=i' by omega];exact K⟩,?_⟩;try conv=>cbv
 intro b4 af;have aU:=af.eq;have f19:=af.lt;conv=>cbv
 intro aF ag;conv=>cbv
 have ag:=wrap_u64 ag;intro aG j;conv=>cbv
 have j:=wrap_u64 j;obtain⟨au,ep,j⟩:∃p:Nat,p=h.toNat*d/\aG=p:=⟨_,rfl,by rw[j,(by omega:aF=(h.toNat:Int)),eg,<-Int.natCast_mul];have:=Nat.mul_le_mul (by omega:h.toNat<=4294967295) (by omega:d<=4294967295);clear hinv;omega⟩
 have bp:au<=4294967295*4294967295:=by rw[ep];exact Nat.mul_le_mul (by omega) (by omega)
 intro b5 Q;conv=>cbv
 have Q:=wrap_u64 Q;refine g2 (by omega) ?_;intro an aO;conv=>cbv
 obtain⟨G,r⟩:=AG (l:=o) (i:=an) (by omega);refine⟨G,fun _=>r,?_⟩;try conv=>cbv
 intro b6 ah;have av:=ah.eq;have f29:=ah.lt;conv=>cbv
 intro b7 R;conv=>cbv
 have R:=wrap_u64 R;intro b8 S;conv=>cbv
 have S:=wrap_u32 S;intro b9 T;conv=>cbv
 have T:=wrap_u64 T;intro ba U;conv=>cbv
 have U:=wrap_u64 U;intro aH V;conv=>cbv
 have V:=wrap_u32 V;refine g2 (by omega) ?_;intro ao aP;conv=>cbv
 obtain⟨u,m⟩:=BN (n:=aH) (by omega);have ab:=m.eq;have aK:=m.lt;refine⟨u,fun _=>⟨by show _<List.length (α:=UInt32) o;(first | omega | (simp;omega)),BM m⟩,?_⟩;intro (a8:List UInt32) (a:a8=List.set (α:=UInt32) o ao u);have aM:a8.length=o.length:=by rw[a,List.length_set]
 conv=>cbv
 intro bb W;conv=>cbv
 refine g2 (by omega) ?_;have W:=Cv (p:=4294967296) W rfl;intro bc X;conv=>cbv
 refine g2 (by omega) ?_;have X:=Cv (p:=9223372036854775808) X rfl;intro F Y;conv=>cbv
 have Y:=wrap_u64 Y;intro aI aX;conv=>cbv
 refine g1 (by omega) ?_;refine⟨v.length-(i'+1),?_,?_⟩
 ·omega
 rw[a6];have M:ao=off+i':=by omega
 have N:an=off+i':=by omega
 rw[N] at r;have hx:=Jn C r;have a7:=Zt (x:=G.toNat) (p:=au) (c:=B) (w:=u.toNat) (by omega) (by omega) (by omega) (by rw[Q,j,ec]) S T (by rw[R,av]) U V ab W X Y;have hw:u.toNat+h.toNat*d+B=G.toNat+4294967296*F.toNat:=by rw[<-ep];obtain⟨h1,h2⟩:=a7;clear hinv;omega
 refine⟨a8,F.toNat,i'+1,F,L,aI,rfl,rfl,⟨by omega,hL,⟨by omega⟩,by omega,⟨by have:=a7.1;omega⟩,by have:=a7.1;omega⟩,⟨by rw[a,M,FR (by omega)];exact ht,by rw[a,M,List.drop_set_of_lt (by omega)];exact Jp C⟩,?_,rfl⟩;have hs:=Zr (o:=o.drop off) (w:=u) (i:=i') (xi:=G.toNat) (yi:=h.toNat) (D:=d) (Dx:=B) (Dy:=F.toNat) (by rw[List.length_drop];omega) hinv hw;rw[a,M,Jo,Ba K,Ky (l:=l.drop off) (by rw[J7];exact hx)];exact hs
theorem Ys (hlen:len=v.length+1) (ax:off+len<=l.length) (aG:l.length<=140737488355328) (aH:z.length=l.length) (aa:z.take off=l.take off) (ab:z.drop (off+len)=l.drop (off+len)) (F:AB ((z.drop off).take len)=(AB ((l.drop off).take len)+AB v)%2^(32*len)):FU Tryz.prog 297 (.AM .u32 0 0 off len) (.arr 0 .u32 l) [.one (.sl .u32 v)] (.AF []) (.arr 0 .u32 z):=by
 refine IH Tryz.func297 (by kernel_rfl) rfl fun E hE=>?_
 conv=>cbv
 intro n8 h8;have e8:=h8.eq;have f8:=h8.le;conv=>cbv
 refine .inr ?_
 obtain⟨J0,D⟩:∃J:List AV->List AH->Nat->Prop,J=fun vs bl k=>∃(o:List UInt32) (h i':Nat) (c L i:Int),vs=[.one (.AM .u32 0 0 off len),.one (.sl .u32 v),.one (.int .u64 c),.one (.sl .u32 v),.one (.int .i64 L),.one (.int .i64 i)]/\
  bl=[.arr 0 .u32 o]/\(o.length=l.length/\B1 L v.length/\AK i i'/\i'<=v.length/\AK c h/\h<=1)/\(o.take off=l.take off/\o.drop (off+i')=l.drop (off+i'))/\
  AB ((o.drop off).take i')+2^(32*i')*h=AB ((l.drop off).take i')+AB (v.take i')/\k=v.length-i':=⟨_,rfl⟩
 refine⟨[0,1,4,7,8,9],[0],J0,⟨v.length-0,by rw[D];exact⟨l,0,0,0,n8,0,rfl,rfl,⟨rfl,h8,Ah 0,by omega,Ah 0,by omega⟩,⟨rfl,rfl⟩,by simp[AB],rfl⟩⟩,?_⟩;intro vs bl aI hj;rw[D] at hj;obtain⟨o,h,i',c,L,i,rfl,rfl,⟨ho,hL,hi,aE,hc,aD⟩,⟨ht,s⟩,hinv,aF⟩:=hj;conv=>cbv
 have eL:=hL.eq;have ei:=hi.eq;have ec:=hc.eq;intro af K;conv=>cbv
 cases af <;> conv=>cbv
 ·have ae:=AR K;rintro aP ⟨aA,f34⟩;conv=>cbv
  refine g2 (by omega) ?_;intro a7 av;conv=>cbv
  obtain⟨g,r⟩:=AG (l:=o) (i:=a7) (by omega);refine⟨g,fun _=>r,?_⟩;try conv=>cbv
  intro aQ W;have aB:=W.eq;have f36:=W.lt;conv=>cbv
  intro aR X;conv=>cbv
  have X:=wrap_u32 X;intro ai Y;conv=>cbv
  have Y:=wrap_u32 Y;refine g2 (by omega) ?_;intro a8 aw;conv=>cbv
  obtain⟨x,m⟩:=BN (n:=ai) (by omega);have ak:=m.eq;have an:=m.lt;refine⟨x,fun _=>⟨by show _<List.length (α:=UInt32) o;(first | omega | (simp;omega)),BM m⟩,?_⟩;intro (a:List UInt32) (f:a=List.set (α:=UInt32) o a8 x);have aq:a.length=o.length:=by rw[f,List.length_set]
  conv=>cbv
  have hk:i'=v.length:=by omega
  subst hk;have B:a8=off+v.length:=by omega
  have C:a7=off+v.length:=by omega
  rw[C] at r;have hx:=Jn s r;have a2:x.toNat=(g.toNat+h)%4294967296:=by clear hinv F;omega
  have a1:∀y:List UInt32,AB ((y.drop off).take len)<2^(32*len):=fun y=>Nat.lt_of_lt_of_le (Bk _) (Nat.pow_le_pow_right (by decide) (by rw[List.length_take];omega))
  have Z:AB ((a.drop off).take len)=(AB ((l.drop off).take len)+AB v)%2^(32*len):=by
   have h0:=a1 a
   have e1:AB ((a.drop off).take len)+2^(32*len)*((g.toNat+h)/4294967296)=AB ((l.drop off).take len)+AB v:=by
    rw[hlen,Ky (l:=l.drop off) (by rw[J7];exact hx),f,B,Jo,DH (by rw[List.length_drop];omega),Cq,List.length_take,List.length_drop,Nat.min_eq_left (by omega),Cj];rw[List.take_length] at hinv;have hd:=Nat.div_add_mod (g.toNat+h) 4294967296;rw[<-a2] at hd
    generalize (g.toNat+h)/4294967296=Q at*
    generalize 2^(32*v.length)=P at*
    have e:P*(4294967296*Q+x.toNat)=P*(g.toNat+h):=by rw[hd]
    clear a2 F h0 a1
    grind
   rw[<-e1,Nat.add_mul_mod_self_left,Nat.mod_eq_of_lt h0]
  have ad:a=z:=SY (off:=off) (len:=len) (by omega) (by rw[aa,f,B,FR (by omega),ht]) (by rw[ab,f,B,List.drop_set_of_lt (by omega),hlen,<-Nat.add_assoc];exact Jp s) (by omega) (by rw[Z,F]);refine⟨fun _=>⟨trivial,rfl,by simp⟩,fun _=>by show some (AH.arr 0 .u32 a)=_;rw[ad]⟩
 have ae:=AS K;refine .inr ?_;obtain⟨H,A⟩:=AG (l:=v) (i:=i') (by omega);refine⟨H,fun _=>⟨by omega,by rw[show (i).toNat=i' by omega];exact A⟩,?_⟩;try conv=>cbv
 intro aJ M;have ay:=M.eq;have f13:=M.lt;conv=>cbv
 refine g2 (by omega) ?_;intro a5 ar;conv=>cbv
 obtain⟨I,q⟩:=AG (l:=o) (i:=a5) (by omega);refine⟨I,fun _=>q,?_⟩;try conv=>cbv
 intro aK N;have az:=N.eq;have f18:=N.lt;conv=>cbv
 intro aL O;conv=>cbv
 have O:=wrap_u64 O;intro aM R;conv=>cbv
 have R:=wrap_u64 R;intro aN S;conv=>cbv
 have S:=wrap_u64 S;intro aO T;conv=>cbv
 have T:=wrap_u64 T;intro ag U;conv=>cbv
 have U:=wrap_u32 U;refine g2 (by omega) ?_;intro a6 au;conv=>cbv
 obtain⟨u,j⟩:=BN (n:=ag) (by omega);have aj:=j.eq;have al:=j.lt;refine⟨u,fun _=>⟨by show _<List.length (α:=UInt32) o;(first | omega | (simp;omega)),BM j⟩,?_⟩;intro (G:List UInt32) (d:G=List.set (α:=UInt32) o a6 u);have ao:G.length=o.length:=by rw[d,List.length_set]
 conv=>cbv
 intro t V;conv=>cbv
 refine g2 (by omega) ?_;have V:=Cv (p:=4294967296) V rfl;intro ah aC;conv=>cbv
 refine g1 (by omega) ?_;refine⟨v.length-(i'+1),?_,?_⟩
 ·omega
 rw[D];have B:a6=off+i':=by omega
 have C:a5=off+i':=by omega
 rw[C] at q;have hx:=Jn s q;have hw:u.toNat+4294967296*t.toNat=I.toNat+H.toNat+h:=by clear hinv;omega
 refine⟨G,t.toNat,i'+1,t,L,ah,rfl,rfl,⟨by omega,hL,⟨by omega⟩,by omega,⟨by omega⟩,by omega⟩,⟨by rw[d,B,FR (by omega)];exact ht,by rw[d,B,List.drop_set_of_lt (by omega)];exact Jp s⟩,?_,rfl⟩;have hs:=Vp (o:=o.drop off) (w:=u) (i:=i') (xi:=I.toNat) (yi:=H.toNat) (Jd:=h) (Je:=t.toNat) (by rw[List.length_drop];omega) hinv hw;rw[d,B,Jo,Ba A,Ky (l:=l.drop off) (by rw[J7];exact hx)];exact hs
end Go.Abs
namespace Go.Abs
open Go.RowKit Go.Shelf Go.Proofs
attribute [local go_sem] Oper.semAt_some
def upto {α:Type} (f:Nat->α) (k:Nat):List α:=(List.range k).map f
theorem TU {α:Type} (f:Nat->α) (k:Nat):upto f (k+1)=upto f k++[f k]:=by simp[upto,List.range_succ]
theorem aC {α:Type} (f:Nat->α) (k:Nat):(upto f k).length=k:=by simp[upto]
def bk (l:List UInt32) (k:Nat):Int×UInt32:=((l.length:Int)-1-k,l[l.length-1-k]?.getD 0)
structure EY (n b:Nat) (A B:World):Prop where
 below:Below n A B
 block:B.heap[b]? =A.heap[b]?
theorem EY.refl (n b:Nat) (A:World):EY n b A A:=⟨Below.refl _ _,rfl⟩
theorem EY.trans {n b:Nat} {A B C:World} (h:EY n b A B) (k:EY n b B C):EY n b A C:=⟨h.1.trans k.1,k.2.trans h.2⟩
set_option maxRecDepth 100000 in
theorem V4 (F:Fence) (n:Nat) (h7:F.fn 303) (hro:F.round=none) (hn:1<=n) (l Bs n₀ b off cap:Nat) (zs:List UInt32) (hreach:zs.length<=140737488351232) (hb:b<n₀) (J Jx:List (Int×UInt32)->World->Prop)
  (hY:∀pre x W,J pre W->pre.length<zs.length->YieldAt F (n-1) Tryz.prog l #[.int .i64 x.1,.int .u32 (x.2.toNat:Int)] W fun e W'=>
   (e= .returned (.bool true)/\J (pre++[x]) W'/\EY n₀ Bs W W')\/(e= .returned (.bool false)/\Jx (pre++[x]) W'))
  (W:World) (hBs:W.cell? ⟨Bs,0,none⟩=some (.slice (some ⟨b,off,none⟩) zs.length cap)) (hc:∀j,j<zs.length->W.cell? ⟨b,off+j,none⟩=some (.int .u32 ((zs[j]?.getD 0).toNat:Int))) (h0:J [] W):
  CallsIn F n Tryz.prog 303 #[.func (.yield l) #[] #[],.pointer (some ⟨Bs,0,none⟩)] W fun e W'=>(∃v,e= .returned v)/\
   ((∃ys,ys=upto (bk zs) zs.length/\J ys W')\/(∃pre,(∃k,k<=zs.length/\pre=upto (bk zs) k)/\Jx pre W')):=by
 refine callsIn_of_wp Tryz.func303 rfl h7 ?_ hro;simp only[Tryz.ntmps303,List.size_toArray,List.length_cons,List.length_nil,Nat.reduceAdd,Nat.reduceSub,Array.replicate_succ,Array.replicate_zero,List.push_toArray,List.append_toArray,List.nil_append,List.cons_append]
 gi_wp2
 gi_loopw [3] (fun i wr=>∃k:Nat,k<=zs.length/\i= .int .i64 ((zs.length:Int)-1-k)/\J (upto (bk zs) k) wr/\EY n₀ Bs W wr)
  (fun i _=>(intOf i+1).toNat)
 case atStart=>exact⟨0,Nat.zero_le _,by simp,h0,EY.refl _ _ _⟩
 case round=>
  obtain⟨k,hk,rfl,hJs,hnx⟩:=hrel
  by_cases hlt:k<zs.length
  ·obtain⟨j,ej,hjl,ex⟩:∃j:Nat,(zs.length:Int)-1-k=(j:Int)/\j<zs.length/\bk zs k=((j:Int),zs[j]?.getD 0):=
    ⟨zs.length-1-k,by omega,by omega,by unfold bk;rw[show ((zs.length:Int)-1-k)=((zs.length-1-k:Nat):Int) by omega]⟩
   have hcx:wr.cell? ⟨b,off+j,none⟩=some (.int .u32 ((zs[j]?.getD 0).toNat:Int)):=(hnx.below.cell (p:=⟨b,off+j,none⟩) hb).trans (hc j hjl);have hbx:wr.cell? ⟨Bs,0,none⟩=some (.slice (some ⟨b,off,none⟩) zs.length cap):=(World.cell?_of_block (a:=⟨Bs,0,none⟩) hnx.block).trans hBs;obtain⟨fn,tmps,assign,body,hy,hR⟩:=hY _ (bk zs k) wr hJs (by rw[aC];exact hlt);rw[ex] at hy hR;have eg:zs[j]?.getD 0=zs[j]:=by simp[hjl]
   rw[eg] at hy hcx
   dsimp only at hy
   rw[ej];have hmz:((j:Int):Int)-1+1=j:=by omega
   gi_wp2
   refine hR.mono ?_;rintro e W3 (⟨rfl,hJ3,hk3⟩ |⟨rfl,hJx3⟩)
   ·gi_wp2
    go_roundw
    case rel=>exact⟨k+1,by omega,by congr 1;omega,by rw[TU,ex];exact hJ3,hnx.trans hk3⟩
    case measure=>simp[intOf]
   gi_wp2
   refine bodyPost_ret (results_none rfl _ _ _) rfl ?_;exact⟨⟨_,rfl⟩,.inr ⟨_,⟨k+1,by omega,by rw[TU,ex]⟩,hJx3⟩⟩
  obtain rfl:k=zs.length:=by omega
  rw[show (zs.length:Int)-1-zs.length= -1 by omega]
  gi_wp2
  go_end0
  exact⟨⟨_,rfl⟩,.inl ⟨_,rfl,hJs⟩⟩
set_option maxRecDepth 100000 in
theorem V5 (F:Fence) (n:Nat) (h7:F.fn 303) (hro:F.round=none) (l Bs:Nat) (base:Option Addr) (cap:Nat) (J:List (Int×UInt32)->World->Prop) (W:World) (hBs:W.cell? ⟨Bs,0,none⟩=some (.slice base 0 cap)) (h0:J [] W):
  CallsIn F n Tryz.prog 303 #[.func (.yield l) #[] #[],.pointer (some ⟨Bs,0,none⟩)] W fun e W'=>(∃v,e= .returned v)/\J [] W':=by
 refine callsIn_of_wp Tryz.func303 rfl h7 ?_ hro;simp only[Tryz.ntmps303,List.size_toArray,List.length_cons,List.length_nil,Nat.reduceAdd,Nat.reduceSub,Array.replicate_succ,Array.replicate_zero,List.push_toArray,List.append_toArray,List.nil_append,List.cons_append]
 gi_wp2
 gi_loopw [3] (fun i wr=>i= .int .i64 (-1)/\J [] wr) (fun _ _=>0)
 case atStart=>exact⟨by simp,h0⟩
 case round=>
  obtain⟨rfl,hJs⟩:=hrel
  gi_wp2
  go_end0
  exact⟨⟨_,rfl⟩,hJs⟩
theorem V6 (F:Fence) (n:Nat) (h5:F.fn 299) (hro:F.round=none) (a:Option Addr) (len cap:Nat) (w:World):
  CallsIn F n Tryz.prog 299 #[.slice a len cap] w fun e w'=>e= .returned (.func (.func 303) #[] #[.pointer (some ⟨w.heap.size,0,none⟩)])/\w'=w.alloc (.cells #[.slice a len cap] 109):=by
 refine callsIn_of_wp Tryz.func299 rfl h5 ?_ hro;simp only[Tryz.ntmps299,List.size_toArray,List.length_cons,List.length_nil,Nat.reduceAdd,Nat.reduceSub,Array.replicate_succ,Array.replicate_zero,List.push_toArray,List.append_toArray,List.nil_append,List.cons_append]
 gi_wp2
 go_ret
 exact⟨rfl,rfl⟩
def Words (n:Nat) (W:World) (sv:Value) (zs:List UInt32):Prop:=
 (∃base cap,sv= .slice base 0 cap/\zs=[])\/∃b off cap,sv= .slice (some ⟨b,off,none⟩) zs.length cap/\b<n/\∀j,j<zs.length->W.cell? ⟨b,off+j,none⟩=some (.int .u32 ((zs[j]?.getD 0).toNat:Int))
theorem Words.below {n:Nat} {A B:World} (h:Below n A B) {a:Value} {d:List UInt32}:Words n A a d->Words n B a d
 | .inl e=> .inl e
 | .inr ⟨b,off,cap,e,hb,f⟩=> .inr ⟨b,off,cap,e,hb,fun j g=>(h.cell (p:=⟨b,off+j,none⟩) hb).trans (f j g)⟩
theorem V7 (F:Fence) (n:Nat) (t:F.fn 303) (m:F.round=none) (H:1<=n) (g a:Nat) (y:Value) (f:List UInt32) (d:f.length<=140737488351232) (w:World) (q:g<w.heap.size) (h:a<=w.heap.size)
  (D:w.cell? ⟨g,0,none⟩=some y) (B:Words a w y f):
  SeqStopsK F n Tryz.prog 303 #[.pointer (some ⟨g,0,none⟩)] (fun x:Int×UInt32=> #[Value.int .i64 x.1,Value.int .u32 (x.2.toNat:Int)]) (EY a g) (fun ys=>ys=upto (bk f) f.length)
   (fun pre=>∃k,k<=f.length/\pre=upto (bk f) k) f.length w:=fun l J A W u _ _ C s=>by
 have j:=(u.cell (p:=⟨g,0,none⟩) q).trans D;rcases B.below (u.mono h) with⟨base,cap,rfl,rfl⟩ |⟨b,off,cap,rfl,hb,r⟩
 ·exact (V5 F n t m l g base cap J W j s).mono fun e I ⟨he,G⟩=>⟨he,.inl ⟨_,rfl,G⟩⟩
 exact V4 F n t m H l g a b off cap f d hb J A C W j r s
def HE (s:Int) (x:Int×UInt32):Int:=bits BinOp.or IntKind.u64 (IntKind.u64.wrap (s*4294967296)) (IntKind.u64.wrap (x.2.toNat:Int))
def HS (pre:List (Int×UInt32)):Int:=pre.foldl HE 0
theorem Wt (pre:List (Int×UInt32)) (x:Int×UInt32):HS (pre++[x])=HE (HS pre) x:=by simp[HS]
set_option maxRecDepth 100000 in
theorem Z1 (F:Fence) (n:Nat) (h3:F.fn 284) (h5:F.fn 299) (h7:F.fn 303) (hro:F.round=none) (hn:3<=n) (a:Option Addr) (len cap:Nat) (zs:List UInt32) (hreach:zs.length<=140737488351232) (w:World) (hI:Words w.heap.size w (.slice a len cap) zs):
  CallsIn F n Tryz.prog 284 #[.slice a len cap] w fun e W'=>e= .returned (.int .u64 (HS (upto (bk zs) zs.length)))/\Below w.heap.size w W':=by
 have h1:1<=n:=by omega
 refine callsIn_of_wp_marks Tryz.func284 rfl h3 ?_ hro;simp only[Tryz.ntmps284,List.size_toArray,List.length_cons,List.length_nil,Nat.reduceAdd,Nat.reduceSub,Array.replicate_succ,Array.replicate_zero,List.push_toArray,List.append_toArray,List.nil_append,List.cons_append]
 gi_wp2_with (gi_at_call 299;refine (V6 F (n-1) h5 hro _ _ _ _).mono ?_;rintro e w' ⟨rfl,rfl⟩)
 have bS:=Boxed.new w 176 (.int .u64 0);have bN:=Boxed.new (w.alloc (.cells #[.int .u64 0] 176)) 109 (.slice a len cap);rw[World.size_alloc] at bN;have hB0:Below w.heap.size w ((w.alloc (.cells #[.int .u64 0] 176)).alloc (.cells #[.slice a len cap] 109)):=((Below.refl _ w).alloc (Nat.le_refl _) _).alloc (by simp) _
 refine wpIn_rangeFunc_ownG hro h1 (gf:=303) (lb:= #[.pointer (some ⟨w.heap.size+1,0,none⟩)]) rfl h7 (enters_of Tryz.func303 (by kernel_rfl) rfl)
  (V7 F (n-1) h7 hro (by omega) (w.heap.size+1) w.heap.size _ zs hreach _ (by simp) (by simp;omega) bN.cell (hI.below hB0)) EY.trans (fun W l o o' hl h hc hw=>⟨belowK_b (by simp;omega) W l o o' hl h hc hw,World.putObj_heap_other (by simp at hl;omega)⟩) (Below.refl _ _) (fun _=>rfl)
  (fun pre W=>(W.cell? ⟨w.heap.size,0,none⟩=some (.int .u64 (HS pre))/\W.frozen? ⟨w.heap.size,0,none⟩=false)/\Below w.heap.size w W)
  (fun _ _ _=>False)
  (OwnFrom.and (Own.from (fun s A B row hs hg hr=>⟨cell_kept hs.1 hg hr,(frozen_kept hs.1 hg hr).trans hs.2⟩) _) (ownFrom_below (Nat.le_refl _) (by simp;omega)))
  (fun _ _ _ _ _ hs _ _=>hs)
  ⟨⟨(bS.alloc _).cell,(bS.alloc _).frozen⟩,hB0⟩
  (fun x=>{tmps:= #[.slice a len cap,undef,.int .u64 0,.pointer (some ⟨w.heap.size,0,none⟩),undef,.int .u32 (x.2.toNat:Int),.slice a len cap,.func (.func 303) #[] #[.pointer (some ⟨w.heap.size+1,0,none⟩)],.int .i64 x.1,.int .u32 (x.2.toNat:Int),undef,undef,undef,undef,undef,undef],defers:=[]}) ?assign ?body ?done ?stop
 case assign=>
  intro l x W K hK
  gi_wp2
  exact hK
 case body=>
  rintro l pre x W ⟨⟨hc,hf⟩,hB⟩ _
  gi_wp2
  exact⟨(KeepsOthers.setCell _ _ _).from _,⟨(Below.refl w.heap.size W).setCell (p:=⟨w.heap.size,0,none⟩) (Nat.le_refl _) _,Below.heap_setCell W _ _ _ (by simp)⟩,⟨by rw[Wt];exact World.cell?_setCell_same' _ _ _ (by rw[hc];rfl),by rw[World.frozen?_setCell];exact hf⟩,hB.setCell (p:=⟨w.heap.size,0,none⟩) (Nat.le_refl _) _⟩
 case done=>
  rintro D ys W hD rfl ⟨⟨hc,_⟩,hB⟩ hK
  gi_wp2
  refine⟨by simp,.inl ⟨_,_,rfl,run_takeDeferred hK,?_⟩⟩;exact⟨_,results_tmp rfl _ _ _,rfl,hB.trans (belowK_b (w:=w) (Nat.le_refl _) W D _ _ (by simp at hD;omega) hK rfl rfl)⟩
 case stop=>
  rintro D c pre W _ _ h _;exact h.elim
theorem Lk {s:Int} {p:Nat} (x:Int×UInt32) (f:s=p) (d:p<4294967296):HE s x=((x.2.toNat+4294967296*p:Nat):Int):=by
 have g:=x.2.toNat_lt;refine Gt (a:=IntKind.u64.wrap (s*4294967296)) (b:=IntKind.u64.wrap (x.2.toNat:Int)) rfl ?_ ?_ d g
 ·rw[wrap_u64 (rfl:IntKind.u64.wrap (s*4294967296)=_),f];omega
 rw[wrap_u64 (rfl:IntKind.u64.wrap (x.2.toNat:Int)=_)];omega
theorem Wu:∀(l:List UInt32),l.length<=2->HS (upto (bk l) l.length)=(AB l:Int)
 | [],_=>rfl
 | [x],_=>by
  show HE 0 (bk [x] 0)=_
  refine (Lk (p:=0) _ rfl (by decide)).trans ?_;simp[bk,AB]
 | [x,y],_=>by
  show HE (HE 0 (bk [x,y] 0)) (bk [x,y] 1)=_
  have a:=Lk (p:=0) (bk [x,y] 0) rfl (by decide);have d:=y.toNat_lt;rw[Lk (p:=y.toNat) _ (by simpa [bk] using a) d];simp[bk,AB]
 | _::_::_::_,h=>by simp at h
theorem K4 {l:List UInt32} {n:Int} {k:Nat} (q:AB l=k) (r:l.length<=2) (s:AK n k):CF 284 [.one (.sl .u32 l)] (.one (.int .u64 n)):=by
 obtain⟨c,p⟩:∃c,Tryz.f284.body=some c:=⟨_,rfl⟩
 refine⟨⟨Tryz.f284,c,by kernel_rfl,by rfl,p⟩,⟨rfl,rfl⟩,fun w I y m a=>?_⟩
 match y,a with
 | [v],a=>
  rcases a.1 with d |⟨base,cap,x,A,B,f⟩
  ·cases d
  obtain rfl:v= .slice base l.length cap:=by simpa using x
  have hw:Words w.heap.size w (.slice base l.length cap) l:=by
   rcases f with rfl |⟨b,off,rfl,hb,g⟩
   ·exact .inl ⟨base,cap,rfl,rfl⟩
   refine .inr ⟨b,off,cap,rfl,m b hb,fun j d=>?_⟩;obtain⟨us,hu,t⟩:=g j l[j] (by simp[d]);have hu:us=[.int .u32 (l[j].toNat:Int)]:=hu;have:=t 0 (.int .u32 (l[j].toNat:Int)) (by rw[hu];rfl);have e:l[j]?.getD 0=l[j]:=by simp[d]
   rw[e];have u:T.u32.size=1:=rfl;rw[u] at this;have this:w.cell? ⟨b,off+j*1+0,none⟩=_:=this;simpa using this
  refine (callsIn_wide.1 (Z1 Fence.wide 3 trivial trivial trivial rfl (Nat.le_refl _) base l.length cap l (by omega) w hw)).mono ?_;rintro e w' ⟨rfl,h⟩;refine⟨_,none,rfl,h,.inr ?_⟩
  show _=_
  rw[Wu l r,q,s.eq]
 | [],a=>exact a.elim
 | _::_::_,a=>exact a.2.elim
end Go.Abs
namespace Go.Abs
open Go.RowKit Go.Shelf Go.Proofs
theorem bitLen_spec {x:Nat} (h:x<4294967296) (g:x≠0):2^(Lib.bitLen x-1)<=x/\x<2^Lib.bitLen x/\1<=Lib.bitLen x/\Lib.bitLen x<=32:=by
 have key:∀(f x:Nat),x<2^f->x≠0->2^(Lib.bitLenAux f x-1)<=x/\x<2^Lib.bitLenAux f x/\1<=Lib.bitLenAux f x/\Lib.bitLenAux f x<=f:=by
  intro f
  induction f with
  | zero=>intro x h g;simp at h;exact absurd h g
  | succ f n=>
   intro x h g;simp only[Lib.bitLenAux,if_neg g]
   by_cases j:x/2=0
   ·rw[j];have:Lib.bitLenAux f 0=0:=by cases f <;> simp[Lib.bitLenAux]
    rw[this];simp;omega
   obtain⟨a,b,c,d⟩:=n (x/2) (by rw[Nat.pow_succ] at h;omega) j
   generalize Lib.bitLenAux f (x/2)=m at*
   obtain⟨m,rfl⟩:∃k,m=k+1:=⟨m-1,by omega⟩
   rw[show 1+(m+1)=m+1+1 by omega,Nat.pow_succ];simp only[Nat.add_sub_cancel] at a ⊢;rw[Nat.pow_succ] at b ⊢;omega
 have e:Lib.bitLen x=Lib.bitLenAux 32 x:=Lib.bitLenAux_fuel 32 x (by simpa using h) 64 (by decide);rw[e];exact key 32 x (by simpa using h) g
theorem OC {x c:Int} {k:Nat} (d:AK x k) (n:k<4294967296) (f:AK c (Lib.bitLen k)):CF 302 [.one (.int .u32 x)] (.one (.int .i64 c)):=by
 obtain⟨b,hb⟩:∃b,Tryz.f302.body=some b:=⟨_,rfl⟩
 refine⟨⟨Tryz.f302,b,by kernel_rfl,by rfl,hb⟩,⟨rfl,rfl⟩,fun w I j m a=>?_⟩
 match j,a with
 | [v],a=>
  rcases a.1 with g | h
  ·cases g
  obtain rfl:v= .int .u32 x:=h;have:=d.eq;refine (Xd x w (by omega) (by omega)).mono ?_;rintro e w' ⟨rfl,rfl⟩;refine⟨_,none,rfl,Below.refl _ _,.inr ?_⟩
  show _=_
  rw[f.eq,d.eq];rfl
 | [],a=>exact a.elim
 | _::_::_,a=>exact a.2.elim
end Go.Abs
