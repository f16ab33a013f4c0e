/- Part 16 of a proof. Conditions: each theorem's own. -/
import Derived.Test.YtclgfoceefhnkaaGreatDoorLk14
set_option linter.all false
set_option maxHeartbeats 80000000
set_option maxRecDepth 20000
open Go.Proofs
namespace Go.Abs
open Go.RowKit
variable {a n:Nat} {b c:Bool} {l m z:List UInt32} {x:Int}
theorem fO {w:List UInt32} (j:x= -(AE l:Int)) (hw:w=AS (AE l)) (i:c=true↔0<w.length):Af x c w:=by
 by_cases d:AE l=0
 ·have h:w=[]:=by rw[hw,Dx.2 d]
  have f:c=false:=by
   cases c with
   | false=>rfl
   | true=>have:=i.1 rfl;rw[h] at this;simp at this
  subst f;exact .val hw.symm (by rw[j,d];simp) (fun _=>rfl)
 have g:c=true:=i.2 (List.length_pos_iff.2 (fun e=>d (Dx.1 (by rw[<-hw];exact e))));subst g;exact .val hw.symm (by rw[j];rfl) (fun e=>absurd e d)
theorem Hw (P:AE l=n) (B:z=AS n):CF 268 [.one (.sl .u32 l)] (.one (.sl .u32 z)):=by
 have B:B1 l=z:=by rw[B,<-P,JZ]
 refine AM Tryz.func268 fun E Z=>?_
 conv=>cbv
 refine .inr ?_;obtain⟨I,p⟩:=xJ fun vs J k=>∃m:List UInt32,vs=[.one (.sl .u32 m)]/\B1 m=z/\k=m.length
 refine⟨[],[0],[],I,⟨l.length,by rw[p];exact⟨l,rfl,B,rfl⟩⟩,?_⟩;intro vs J R G;rw[p] at G;obtain⟨m,rfl,q,O⟩:=G;conv=>cbv
 rintro n4 ⟨X,f4⟩;conv=>cbv
 intro W D;conv=>cbv
 cases W <;> conv=>cbv
 ·have Q:=Bf D;have w:m=[]:=List.eq_nil_of_length_eq_zero (by omega);exact AD ⟨⟨rfl,congrArg _ (by rw[<-q,w];rfl),trivial⟩,trivial⟩
 have Q:=Bg D;rintro n9 ⟨Y,f9⟩;conv=>cbv
 intro f M;conv=>cbv
 refine AI ?_;obtain⟨g,d⟩:=AL (l:=m) (i:=(f).toNat) (by omega);refine⟨g,fun _=>⟨by omega,d⟩,?_⟩;try conv=>cbv
 intro T o;have K:=o.eq;have f12:=o.lt;conv=>cbv
 intro C s;conv=>cbv
 cases C <;> conv=>cbv
 ·have t:=AN s;have A:g≠0:=fun h=>by subst h;exact t o.eq
  have v:m=m.take (f).toNat++[g]:=by have:=Ck d;rw[List.take_of_length_le (by omega)] at this;exact this
  exact AD ⟨⟨rfl,congrArg _ (by rw[<-q,v,IQ A]),trivial⟩,trivial⟩
 have t:=AO s;refine .inr ?_;rintro U ⟨L,f17⟩;conv=>cbv
 intro V N;conv=>cbv
 refine AI ?_;intro S H;conv=>cbv
 refine AH ?_;intro u F;conv=>cbv
 intro r j;conv=>cbv
 refine⟨r.length,?_,?_⟩
 ·rw[j];simp;omega
 rw[p];have el:r=m.take (f).toNat:=by rw[j,show u=(f).toNat by omega];simp
 refine⟨r,rfl,?_,rfl⟩;obtain rfl:g=0:=UInt32.toNat_inj.1 (by show _=0;omega)
 have v:m=m.take (f).toNat++[0]:=by
  have:=Ck d;rw[List.take_of_length_le (by omega)] at this;exact this
 rw[el,<-q];conv=>rhs;rw[v]
 rw[Hl]
theorem FP {m:Nat} (S:n<=l.length) (hl:l.length<=140737488355328) (hm:m=(B1 (l.take n)).length):Gk Tryz.prog 268 (.AQ .u32 0 0 0 n) (.arr 0 .u32 l) [] (.one (.AQ .u32 0 0 0 m)) (.arr 0 .u32 l):=by
 refine J6 Tryz.func268 (by kernel_rfl) rfl fun E hE=>?_
 conv=>cbv
 refine .inr ?_;obtain⟨J,j⟩:=xJ fun vs B k=>∃q:Nat,vs=[.one (.AQ .u32 0 0 0 q)]/\B=[.arr 0 .u32 l]/\q<=l.length/\m=(B1 (l.take q)).length/\k=q
 refine⟨[],[0],[0],J,⟨n,by rw[j];exact⟨n,rfl,rfl,S,hm,rfl⟩⟩,?_⟩;intro vs B U G;rw[j] at G;obtain⟨q,rfl,rfl,hq,o,R⟩:=G;conv=>cbv
 intro n4 P;have e4:=P.eq;conv=>cbv
 intro Z C;conv=>cbv
 cases Z <;> conv=>cbv
 ·have T:=Bf C;refine⟨fun _=>⟨⟨⟨rfl,.inr (.inr ⟨rfl,rfl,congrArg (AC.AQ .u32 0 0 0) (by rw[o,show q=0 by omega];rfl)⟩),trivial⟩,trivial⟩,rfl,by simp⟩,fun _=>rfl⟩
 have T:=Bg C;intro n9 Q;have e9:=Q.eq;conv=>cbv
 intro V N;conv=>cbv
 refine AI ?_;refine AH ?_;intro p H;conv=>cbv
 obtain⟨r,d⟩:=AL (l:=l) (i:=p) (by omega);refine⟨r,fun _=>d,?_⟩;try conv=>cbv
 intro W g;have L:=g.eq;have f12:=g.lt;conv=>cbv
 intro w s;conv=>cbv
 cases w <;> conv=>cbv
 ·have t:=AN s;have v:r≠0:=fun h=>by subst h;exact t g.eq
  refine⟨fun _=>⟨⟨⟨rfl,.inr (.inr ⟨rfl,rfl,congrArg (AC.AQ .u32 0 0 0) (by rw[o,show q=p+1 by omega,Ck d,IQ v,List.length_append,List.length_take];simp;omega)⟩),trivial⟩,trivial⟩,rfl,by simp⟩,fun _=>rfl⟩
 have t:=AO s;refine .inr ?_;intro X u;have M:=u.eq;conv=>cbv
 intro Y O;conv=>cbv
 refine AI ?_;refine AH ?_;intro K D;conv=>cbv
 rintro A f ⟨I,F⟩;conv=>cbv
 refine⟨f,?_,?_⟩
 ·omega
 rw[j];obtain rfl:A=0:=by omega
 refine⟨f,rfl,rfl,by omega,?_,rfl⟩;obtain rfl:r=0:=UInt32.toNat_inj.1 (by show _=0;omega);rw[o,show q=f+1 by omega,Ck (x:=0) (by rw[show f=p by omega];exact d),Hl]
theorem Fs {n:Bool} (j:x=if n=true then -(AE l:Int) else AE l) (g:Af x b z):CF 200 [.one (.bool n),.one (.sl .u32 l)] (.agg (BC b z)):=by
 refine AM Tryz.func200 fun E p=>?_
 conv=>cbv
 obtain⟨k,d⟩:=xU (AS (AE l));refine AB p (Hw rfl d) ?_;conv=>cbv
 cases n <;> conv=>cbv
 ·have f:Af x false k:= .val d.symm j (fun _=>rfl);exact AD ⟨⟨rfl,congrArg _ ((f.uniq g rfl).1.symm),congrArg _ ((f.uniq g rfl).2.symm),trivial⟩,trivial⟩
 rintro q ⟨o,f10⟩;conv=>cbv
 intro i h;conv=>cbv
 have f:Af x i k:=fO (by rw[j];rfl) d (by rw[h,decide_eq_true_eq];omega);exact AD ⟨⟨rfl,congrArg _ ((f.uniq g rfl).1.symm),congrArg _ ((f.uniq g rfl).2.symm),trivial⟩,trivial⟩
theorem Jw {n:Int} {k:Nat} (B:AR n k) (H:k<18446744073709551616) (C:z=AS k):CF 201 [.one (.int .u64 n)] (.one (.sl .u32 z)):=by
 have G:=B.eq;refine AM Tryz.func201 fun E A=>?_
 conv=>cbv
 intro n4 t;conv=>cbv
 have t:=wrap_u32 t;intro I u;conv=>cbv
 refine AH ?_;have u:=Dt (p:=4294967296) u rfl;intro F v;conv=>cbv
 have v:=wrap_u32 v;obtain⟨g,d⟩:=B4 (n:=n4) (by omega);have o:=d.eq;have r:=d.lt;obtain⟨h,f⟩:=B4 (n:=F) (by omega);have q:=f.eq;have s:=f.lt;refine⟨[g,h],fun _=>⟨rfl,by decide,rfl,⟨rfl,B3 d,⟨rfl,B3 f,trivial⟩⟩⟩,.inl ?_⟩;try conv=>cbv
 obtain⟨D,i⟩:=xN ((B1 ([g,h].take 2)).length);obtain⟨w,j⟩:=D1 (by simp) i;refine .inr (.inr (.inl ⟨[],.one (.AQ .u32 0 0 0 D),.arr 0 .u32 [g,h],fun _=>⟨by first | decide | simp[Be,Bk],trivial⟩,fun _=>⟨Di A (FP (by simp) (by simp) i),rfl,rfl⟩,?_⟩));try conv=>cbv
 exact AD ⟨⟨rfl,.inl ⟨_,rfl,by simp;omega,congrArg _ (by rw[List.drop_zero,j,C];congr 1;simp[AE];omega)⟩,trivial⟩,trivial⟩
theorem Jr (D: -9223372036854775808<=x/\x<9223372036854775808) (q:Af x b z):CF 99 [.one (.int .i64 x)] (.agg (BC b z)):=by
 refine AM Tryz.func99 fun E p=>?_
 conv=>cbv
 intro n4 u;conv=>cbv
 cases n4 <;> conv=>cbv
 ·have A:=AY u;intro B h;conv=>cbv
  have h:=wrap_u64 h;obtain⟨C,f⟩:=xU (AS x.natAbs);refine AB p (Jw (AR.of (k:=x.natAbs) (by omega)) (by omega) f) ?_;conv=>cbv
  obtain⟨j,o,d⟩:=AW (x);refine AB (r:= .agg [.bool j,.sl .u32 o]) p (Fs (n:=false) (by rw[f,Aw];simp;omega) d) ?_;try conv=>cbv
  exact AD ⟨⟨rfl,congrArg _ ((d.uniq q rfl).1.symm),congrArg _ ((d.uniq q rfl).2.symm),trivial⟩,trivial⟩
 have A:=AZ u;intro F v;conv=>cbv
 have v:=wrap_u64 v;intro G w;conv=>cbv
 have w:=wrap_u64 w;obtain⟨H,i⟩:=xU (AS x.natAbs);refine AB p (Jw (AR.of (k:=x.natAbs) (by omega)) (by omega) i) ?_;conv=>cbv
 obtain⟨s,t,g⟩:=AW (x);refine AB (r:= .agg [.bool s,.sl .u32 t]) p (Fs (n:=true) (by rw[i,Aw];simp;omega) g) ?_;try conv=>cbv
 exact AD ⟨⟨rfl,congrArg _ ((g.uniq q rfl).1.symm),congrArg _ ((g.uniq q rfl).2.symm),trivial⟩,trivial⟩
theorem YX (h:x=if b=true then -(AE l:Int) else AE l) (f:Af x c z):CF 269 [.agg (BC b l)] (.agg (BC c z)):=by
 refine AM Tryz.func269 fun E g=>?_
 conv=>cbv
 obtain⟨i,j,d⟩:=AW (x);refine AB g (Fs h d) ?_;conv=>cbv
 exact AD ⟨⟨rfl,congrArg _ ((d.uniq f rfl).1.symm),congrArg _ ((d.uniq f rfl).2.symm),trivial⟩,trivial⟩
theorem Gr (d:Af x b l):CF 269 [.agg (BC b l)] (.agg (BC b l)):=YX d.Dz d
theorem Ju (k:Af x b l) (h:Af (-x) c z):CF 271 [.agg (BC b l)] (.agg (BC c z)):=by
 refine AM Tryz.func271 fun E j=>?_
 conv=>cbv
 intro o i;conv=>cbv
 obtain⟨f,g,d⟩:=AW (-x);refine AB (r:= .agg [.bool f,.sl .u32 g]) j (Fs (by rw[i];exact WQ k.Dz) d) ?_;try conv=>cbv
 exact AD ⟨⟨rfl,congrArg _ ((d.uniq h rfl).1.symm),congrArg _ ((d.uniq h rfl).2.symm),trivial⟩,trivial⟩
theorem Hu {c:Int} (d:Af x b l) (h:c=B7 x):CF 196 [.agg (BC b l)] (.one (.int .i64 c)):=by
 refine AM Tryz.func196 fun E k=>?_
 conv=>cbv
 refine AB k (Gr d) ?_;conv=>cbv
 rintro p ⟨f,f7⟩;conv=>cbv
 intro o j;conv=>cbv
 cases o <;> conv=>cbv
 ·have i:=AN j;cases b <;> conv=>cbv
  ·have g:AE l≠0:=fun e=>by rw[d.BD] at f;have:=d.nat;rw[e] at this;rw[<-this] at f;exact i f
   exact AD ⟨⟨rfl,congrArg _ (by rw[h,Mw d.Dz g];rfl),trivial⟩,trivial⟩
  have g:AE l≠0:=fun e=>by rw[d.BD] at f;have:=d.nat;rw[e] at this;rw[<-this] at f;exact i f
  exact AD ⟨⟨rfl,congrArg _ (by rw[h,Mw d.Dz g];rfl),trivial⟩,trivial⟩
 have i:=AO j;have g:AE l=0:=by rw[List.eq_nil_of_length_eq_zero (by omega:l.length=0)];rfl
 exact AD ⟨⟨rfl,congrArg _ (by rw[h,d.Dz,g];unfold B7;simp),trivial⟩,trivial⟩
theorem Jv {b:Nat} {c:Int} (t:l=AS a) (hm:m=AS b) (M:c=BQ a b):CF 322 [.one (.sl .u32 l),.one (.sl .u32 m)] (.one (.int .i64 c)):=by
 refine AM Tryz.func322 fun E hE=>?_
 conv=>cbv
 rintro n7 ⟨e7,f7⟩;conv=>cbv
 rintro n9 ⟨e9,f9⟩;conv=>cbv
 intro U C;conv=>cbv
 cases U <;> conv=>cbv
 ·have P:=BY C;rintro aj ⟨a6,f17⟩;conv=>cbv
  intro W ab;conv=>cbv
  refine AI ?_;refine .inr ?_;obtain⟨J0,s⟩:=xJ fun vs bl k=>∃(j:Int) (k':Nat),vs=[.one (.sl .u32 l),.one (.sl .u32 m),.one (.int .i64 j)]/\(AR (j+1) k'/\k'<=l.length/\l.length=m.length/\AE (l.drop k')=AE (m.drop k'))/\k=k'
  refine⟨[],[0,1,5],[],J0,⟨l.length,by rw[s];exact⟨W,l.length,rfl,⟨⟨by omega⟩,by omega,by omega,by rw[List.drop_length,show l.length=m.length by omega,List.drop_length]⟩,rfl⟩⟩,?_⟩;intro vs bl ag O;rw[s] at O;obtain⟨j,k',rfl,⟨O,ae,u,N⟩,af⟩:=O;conv=>cbv
  have ej:=O.eq;intro X F;conv=>cbv
  cases X <;> conv=>cbv
  ·have R:=DI F;have hk:k'=0:=by omega
   have he:a=b:=by rw[hk] at N;simpa [t,hm,Aw] using N
   exact AD ⟨⟨rfl,congrArg _ (by rw[M,he];simp[BQ]),trivial⟩,trivial⟩
  have R:=DJ F;refine .inr ?_;obtain⟨g,o⟩:=AL (l:=l) (i:=(j).toNat) (by omega);refine⟨g,fun _=>⟨by omega,o⟩,?_⟩;try conv=>cbv
  intro ak G;have B:=G.eq;have f26:=G.lt;conv=>cbv
  obtain⟨h,p⟩:=AL (l:=m) (i:=(j).toNat) (by omega);refine⟨h,fun _=>⟨by omega,p⟩,?_⟩;try conv=>cbv
  intro al H;have a7:=H.eq;have f30:=H.lt;conv=>cbv
  intro Z I;conv=>cbv
  refine g2 rfl ?_;cases Z <;> conv=>cbv
  ·have S:=AY I;obtain⟨d,q⟩:=AL (l:=l) (i:=(j).toNat) (by omega);refine⟨d,fun _=>⟨by omega,q⟩,?_⟩;try conv=>cbv
   intro an J;have a8:=J.eq;have f35:=J.lt;conv=>cbv
   obtain⟨f,r⟩:=AL (l:=m) (i:=(j).toNat) (by omega);refine⟨f,fun _=>⟨by omega,r⟩,?_⟩;try conv=>cbv
   intro ao K;have aa:=K.eq;have f39:=K.lt;conv=>cbv
   intro a1 L;conv=>cbv
   refine g2 rfl ?_;cases a1 <;> conv=>cbv
   ·have T:=Bf L;intro Y ad;conv=>cbv
    refine AI ?_;refine⟨k'-1,?_,?_⟩
    ·omega
    rw[s];obtain⟨i',rfl⟩:∃i',k'=i'+1:=⟨k'-1,by omega⟩
    have e3:l[i']? =some g:=by rw[<-o];congr 1;omega
    have e4:m[i']? =some h:=by rw[<-p];congr 1;omega
    have e1:l[i']? =some d:=by rw[<-q];congr 1;omega
    have A:m[i']? =some f:=by rw[<-r];congr 1;omega
    obtain rfl:d=g:=Option.some.inj (e1.symm.trans e3);obtain rfl:f=h:=Option.some.inj (A.symm.trans e4);refine⟨Y,i',rfl,⟨⟨by omega⟩,by omega,u,?_⟩,by omega⟩;have B:d=f:=UInt32.toNat_inj.1 (by omega);subst B;exact drop_eq (i:=i') e1 A N
   have T:=Bg L;obtain⟨i',rfl⟩:∃i',k'=i'+1:=⟨k'-1,by omega⟩
   have e1:l[i']? =some d:=by rw[<-q];congr 1;omega
   have A:m[i']? =some f:=by rw[<-r];congr 1;omega
   have v:f.toNat<d.toNat:=by omega
   have w:d≠f:=fun e=>by rw[e] at v;omega
   exact AD ⟨⟨rfl,congrArg _ (by rw[M,<-Aw a,<-Aw b,<-t,<-hm,<-N5 e1 A u N w];unfold BQ;rw[if_neg (by omega),if_pos (by omega)]),trivial⟩,trivial⟩
  have S:=AZ I;obtain⟨i',rfl⟩:∃i',k'=i'+1:=⟨k'-1,by omega⟩
  have e1:l[i']? =some g:=by rw[<-o];congr 1;omega
  have A:m[i']? =some h:=by rw[<-p];congr 1;omega
  have v:g.toNat<h.toNat:=by omega
  have w:g≠h:=fun e=>by rw[e] at v;omega
  exact AD ⟨⟨rfl,congrArg _ (by rw[M,<-Aw a,<-Aw b,<-t,<-hm,<-N5 e1 A u N w];unfold BQ;rw[if_pos (by omega)]),trivial⟩,trivial⟩
 have P:=BZ C;rintro ah ⟨a2,f12⟩;conv=>cbv
 rintro ai ⟨a5,f14⟩;conv=>cbv
 intro V D;conv=>cbv
 cases V <;> conv=>cbv
 ·have Q:=AY D;exact AD ⟨⟨rfl,congrArg _ (by rw[M,<-N4 (by rw[<-t,<-hm];omega),<-t,<-hm];unfold BQ;rw[if_neg (by omega),if_pos (by omega)]),trivial⟩,trivial⟩
 have Q:=AZ D;exact AD ⟨⟨rfl,congrArg _ (by rw[M,<-N4 (by rw[<-t,<-hm];omega),<-t,<-hm];unfold BQ;rw[if_pos (by omega)]),trivial⟩,trivial⟩
theorem Na {b:Nat} (hl:l=AS a) (hm:m=AS b) (hz:z=AS (a-b)) (aa:b<=a) (sl:l.length<=17592186044416):CF 328 [.one (.sl .u32 l),.one (.sl .u32 m)] (.one (.sl .u32 z)):=by
 have ad:m.length<=l.length:=by rw[hl,hm];exact Df aa
 refine AM Tryz.func328 fun E hE=>?_
 conv=>cbv
 rintro aE ⟨av,f11⟩;conv=>cbv
 refine⟨fun _=>⟨by omega,by omega,by show _*4<=140737488355328;omega⟩,?_⟩;intro Q (R:List UInt32) N;have au:=N.1;have D:R=List.replicate Q (0:el .u32):=N.2;have ar:R.length=Q:=by rw[D,List.length_replicate]
 conv=>cbv
 refine .inr ?_
 obtain⟨J0,I⟩:∃J:List AV->List AG->Nat->Prop,J=fun vs bl k=>∃(o:List UInt32) (n K i':Nat) (c i:Int),vs=[.one (.sl .u32 l),.one (.sl .u32 m),.one (.AQ .u32 12 0 0 n),.one (.int .u64 c),.one (.int .i64 i)]/\
  bl=[.arr 0 .u32 o]/\(o.length=l.length/\n=o.length/\AR i i'/\i'<=l.length/\AR c K/\K<=1)/\
  AE (o.take i')+AE (m.take i')=AE (l.take i')+2^(32*i')*K/\k=l.length-i':=⟨_,rfl⟩
 refine⟨[],[0,1,5,6,7],[12],J0,⟨l.length-0,by rw[I];exact⟨R,Q,0,0,0,0,rfl,rfl,⟨by rw[D,List.length_replicate];omega,by rw[D,List.length_replicate],Ak 0,by omega,Ak 0,by omega⟩,by simp[AE],rfl⟩⟩,?_⟩;intro vs bl aD hj;rw[I] at hj;obtain⟨o,n,K,i',c,i,rfl,rfl,⟨ho,hn,hi,aA,hc,az⟩,hinv,aB⟩:=hj;conv=>cbv
 have ei:=hi.eq;have ec:=hc.eq;rintro aF ⟨aw,f15⟩;conv=>cbv
 intro ah X;conv=>cbv
 cases ah <;> conv=>cbv
 ·have ae:=AY X;have F:n<=(o).length:=by omega
  obtain⟨ag,L⟩:=xN ((B1 ((o).take n)).length);obtain⟨ab,O⟩:=D1 F L;refine .inr (.inr (.inl ⟨[],.one (.AQ .u32 0 0 0 ag),.arr 0 .u32 o,fun _=>⟨by first | decide | simp[Be,Bk],trivial⟩,fun _=>⟨Di hE (FP F (by omega) L),rfl,rfl⟩,?_⟩));try conv=>cbv
  have hk:i'=l.length:=by omega
  have a2:AE (o.take n)=a-b:=by rw[hk,DA ad,DA (Nat.le_refl _),hm,hl,Aw,Aw,<-hl,<-ho,List.take_length] at hinv;have aC:=CI o;generalize 2^(32*o.length)=P at *;rw[hn,List.take_length];rcases (by omega:K=0\/K=1) with e | e <;> rw[e] at hinv <;> omega
  exact AD ⟨⟨rfl,.inl ⟨_,rfl,by omega,congrArg _ (by rw[List.drop_zero,O,a2,hz])⟩,trivial⟩,trivial⟩
 have ae:=AZ X;refine .inr ?_;rintro aG ⟨ax,f21⟩;conv=>cbv
 intro ai Y;conv=>cbv
 refine .inr ?_;cases ai <;> conv=>cbv
 ·have af:=AY Y;obtain⟨H,g⟩:=AL (l:=l) (i:=i') (by omega);refine⟨H,fun _=>⟨by omega,by rw[show (i).toNat=i' by omega];exact g⟩,?_⟩;try conv=>cbv
  intro aj r;have a7:=r.eq;have f31:=r.lt;conv=>cbv
  intro ak s;conv=>cbv
  have s:=wrap_u64 s;intro al t;conv=>cbv
  have t:=wrap_u64 t;intro an u;conv=>cbv
  have u:=wrap_u64 u;intro ao v;conv=>cbv
  have v:=wrap_u64 v;intro T A;conv=>cbv
  have A:=wrap_u32 A;refine AH ?_;intro G a5;conv=>cbv
  obtain⟨q,f⟩:=B4 (n:=T) (by omega);have U:=f.eq;have V:=f.lt;refine⟨q,fun _=>⟨by show _<List.length (α:=UInt32) o;(first | omega | (simp;omega)),B3 f⟩,?_⟩;intro (h:List UInt32) (d:h=List.set (α:=UInt32) o G q);have W:h.length=o.length:=by rw[d,List.length_set]
  conv=>cbv
  intro aq B;conv=>cbv
  refine AH ?_;have B:=Dt (p:=4294967296) B rfl;intro j C;conv=>cbv
  have C:=wrap_u64 C;intro S a8;conv=>cbv
  refine AI ?_;refine⟨l.length-(i'+1),?_,?_⟩
  ·omega
  rw[I];refine⟨h,n,j.toNat,i'+1,j,S,rfl,rfl,⟨by rw[d,List.length_set];exact ho,by rw[d,List.length_set];exact hn,⟨by omega⟩,by omega,⟨by omega⟩,by omega⟩,?_,rfl⟩;have hs:=I8 (w:=q) (o:=o) (i:=i') (xi:=H.toNat) (yi:=0) (Ew:=K) (Ey:=j.toNat) (by omega) hinv (by omega);rw[d,show G=i' by omega,CB g,<-hs,DA (l:=m) (i:=i'+1) (by omega),DA (l:=m) (i:=i') (by omega),Nat.mul_zero]
  rfl
 have af:=AZ Y;obtain⟨a6,M⟩:=AL (l:=m) (i:=i') (by omega);refine⟨a6,fun _=>⟨by omega,by rw[show (i).toNat=i' by omega];exact M⟩,?_⟩;try conv=>cbv
 intro aH Z;have ay:=Z.eq;have f26:=Z.lt;conv=>cbv
 intro aI a1;conv=>cbv
 have a1:=wrap_u64 a1;obtain⟨H,g⟩:=AL (l:=l) (i:=i') (by omega);refine⟨H,fun _=>⟨by omega,by rw[show (i).toNat=i' by omega];exact g⟩,?_⟩;try conv=>cbv
 intro aj r;have a7:=r.eq;have f31:=r.lt;conv=>cbv
 intro ak s;conv=>cbv
 have s:=wrap_u64 s;intro al t;conv=>cbv
 have t:=wrap_u64 t;intro an u;conv=>cbv
 have u:=wrap_u64 u;intro ao v;conv=>cbv
 have v:=wrap_u64 v;intro T A;conv=>cbv
 have A:=wrap_u32 A;refine AH ?_;intro G a5;conv=>cbv
 obtain⟨q,f⟩:=B4 (n:=T) (by omega);have U:=f.eq;have V:=f.lt;refine⟨q,fun _=>⟨by show _<List.length (α:=UInt32) o;(first | omega | (simp;omega)),B3 f⟩,?_⟩;intro (h:List UInt32) (d:h=List.set (α:=UInt32) o G q);have W:h.length=o.length:=by rw[d,List.length_set]
 conv=>cbv
 intro aq B;conv=>cbv
 refine AH ?_;have B:=Dt (p:=4294967296) B rfl;intro j C;conv=>cbv
 have C:=wrap_u64 C;intro S a8;conv=>cbv
 refine AI ?_;refine⟨l.length-(i'+1),?_,?_⟩
 ·omega
 rw[I];refine⟨h,n,j.toNat,i'+1,j,S,rfl,rfl,⟨by rw[d,List.length_set];exact ho,by rw[d,List.length_set];exact hn,⟨by omega⟩,by omega,⟨by omega⟩,by omega⟩,?_,rfl⟩;have hs:=I8 (w:=q) (o:=o) (i:=i') (xi:=H.toNat) (yi:=a6.toNat) (Ew:=K) (Ey:=j.toNat) (by omega) hinv (by omega);rw[d,show G=i' by omega,CB g,<-hs,CB M]
theorem Y8 {b:Nat} (hl:l=AS a) (hm:m=AS b) (hz:z=AS (a+b)) (sl:l.length<=17592186044416) (sm:m.length<=17592186044416):CF 333 [.one (.sl .u32 l),.one (.sl .u32 m)] (.one (.sl .u32 z)):=by
 refine AM Tryz.func333 fun E hE=>?_
 conv=>cbv
 rintro n9 ⟨e9,f9⟩;conv=>cbv
 rintro aS ⟨aG,f11⟩;conv=>cbv
 intro aw X;conv=>cbv
 obtain⟨aj,v⟩:=xK fun vs bl=>∃(p q:Nat) (x y:List UInt32),vs=[.one (.sl .u32 x),.one (.sl .u32 y)]/\x=AS p/\y=AS q/\p+q=a+b/\y.length<=x.length/\x.length<=17592186044416
 refine .inl ⟨[0,1],[],aj,?_,?_⟩
 ·intro vs bl hj;rw[v] at hj;obtain⟨p,q,x,y,rfl,hx,hy,an,ao,aQ⟩:=hj;conv=>cbv
  rintro aT ⟨aH,f16⟩;conv=>cbv
  intro aU aN;conv=>cbv
  refine AI ?_;refine⟨fun _=>⟨by omega,by omega,by show _*4<=140737488355328;omega⟩,?_⟩;intro N (O:List UInt32) L;have aF:=L.1;have A:O=List.replicate N (0:el .u32):=L.2;have aC:O.length=N:=by rw[A,List.length_replicate]
  conv=>cbv
  refine .inr ?_
  obtain⟨J0,G⟩:∃J:List AV->List AG->Nat->Prop,J=fun vs bl k=>∃(o:List UInt32) (n T i':Nat) (c i:Int),vs=[.one (.sl .u32 x),.one (.sl .u32 y),.one (.AQ .u32 18 0 0 n),.one (.int .u64 c),.one (.int .i64 i)]/\
   bl=[.arr 0 .u32 o]/\(o.length=x.length+1/\n=o.length/\AR i i'/\i'<=x.length/\AR c T/\T<=1)/\
   AE (o.take i')+2^(32*i')*T=AE (x.take i')+AE (y.take i')/\k=x.length-i':=⟨_,rfl⟩
  refine⟨[],[0,1,5,6,7],[18],J0,⟨x.length-0,by rw[G];exact⟨O,N,0,0,0,0,rfl,rfl,⟨by rw[A,List.length_replicate];omega,by rw[A,List.length_replicate],Ak 0,by omega,Ak 0,by omega⟩,by simp[AE],rfl⟩⟩,?_⟩;intro vs bl aR hj;rw[G] at hj;obtain⟨o,n,T,i',c,i,rfl,rfl,⟨ho,hn,hi,aP,hc,aO⟩,hinv,ae⟩:=hj;conv=>cbv
  have ei:=hi.eq;have ec:=hc.eq;rintro aV ⟨aI,f21⟩;conv=>cbv
  intro ax Y;conv=>cbv
  cases ax <;> conv=>cbv
  ·have ar:=AY Y;rintro b4 ⟨aM,f52⟩;conv=>cbv
   intro az aa;conv=>cbv
   have aa:=wrap_u32 aa;refine AH ?_;intro af aE;conv=>cbv
   obtain⟨R,C⟩:=B4 (n:=az) (by omega);have aA:=C.eq;have aB:=C.lt;refine⟨R,fun _=>⟨by show _<List.length (α:=UInt32) o;(first | omega | (simp;omega)),B3 C⟩,?_⟩;intro (r:List UInt32) (H:r=List.set (α:=UInt32) o af R);have aD:r.length=o.length:=by rw[H,List.length_set]
   conv=>cbv
   have B:n<=(r).length:=by omega
   obtain⟨av,I⟩:=xN ((B1 ((r).take n)).length);obtain⟨al,M⟩:=D1 B I;refine .inr (.inr (.inl ⟨[],.one (.AQ .u32 0 0 0 av),.arr 0 .u32 r,fun _=>⟨by first | decide | simp[Be,Bk],trivial⟩,fun _=>⟨Di hE (FP B (by omega) I),rfl,rfl⟩,?_⟩));try conv=>cbv
   have ae:i'=x.length:=by omega
   have ab:AE (r.take n)=p+q:=by rw[H,hn,show af=x.length by omega,show o.length=x.length+1 by omega,EI (by omega),Dp,List.length_take,Nat.min_eq_left (by omega),show R.toNat=T by omega];rw[ae,DA (Nat.le_refl _),DA ao,hx,hy,Aw,Aw,<-hx] at hinv;exact hinv
   exact AD ⟨⟨rfl,.inl ⟨_,rfl,by omega,congrArg _ (by rw[List.drop_zero,M,ab,an,hz])⟩,trivial⟩,trivial⟩
  have ar:=AZ Y;refine .inr ?_;obtain⟨S,D⟩:=AL (l:=x) (i:=i') (by omega);refine⟨S,fun _=>⟨by omega,by rw[show (i).toNat=i' by omega];exact D⟩,?_⟩;try conv=>cbv
  intro aW Z;have aJ:=Z.eq;have f29:=Z.lt;conv=>cbv
  intro aX a1;conv=>cbv
  have a1:=wrap_u64 a1;intro ag a2;conv=>cbv
  have a2:=wrap_u64 a2;rintro aY ⟨aK,f34⟩;conv=>cbv
  intro ay a5;conv=>cbv
  refine .inr ?_;cases ay <;> conv=>cbv
  ·have au:=AY a5;intro Q t;conv=>cbv
   have t:=wrap_u32 t;refine AH ?_;intro F ad;conv=>cbv
   obtain⟨j,f⟩:=B4 (n:=Q) (by omega);have U:=f.eq;have V:=f.lt;refine⟨j,fun _=>⟨by show _<List.length (α:=UInt32) o;(first | omega | (simp;omega)),B3 f⟩,?_⟩;intro (g:List UInt32) (d:g=List.set (α:=UInt32) o F j);have W:g.length=o.length:=by rw[d,List.length_set]
   conv=>cbv
   intro h u;conv=>cbv
   refine AH ?_;have u:=Dt (p:=4294967296) u rfl;intro P ak;conv=>cbv
   refine AI ?_;refine⟨x.length-(i'+1),?_,?_⟩
   ·omega
   rw[G];refine⟨g,n,h.toNat,i'+1,h,P,rfl,rfl,⟨by rw[d,List.length_set];exact ho,by rw[d,List.length_set];exact hn,⟨by omega⟩,by omega,⟨by omega⟩,by omega⟩,?_,rfl⟩;have hs:=Lg (o:=o.take i') (i:=i') (xi:=S.toNat) (yi:=0) (s:=ag.toNat) (w:=j) (by rw[List.length_take];omega) hinv (by omega) (by omega);rw[d,show F=i' by omega,EI (by omega),CB D,DA (l:=y) (i:=i'+1) (by omega)];rw[show h.toNat=ag.toNat/4294967296 by omega];rw[hs];rw[DA (l:=y) (i:=i') (by omega)];omega
  have au:=AZ a5;obtain⟨ai,K⟩:=AL (l:=y) (i:=i') (by omega);refine⟨ai,fun _=>⟨by omega,by rw[show (i).toNat=i' by omega];exact K⟩,?_⟩;try conv=>cbv
  intro aZ a6;have aL:=a6.eq;have f40:=a6.lt;conv=>cbv
  intro b0 a7;conv=>cbv
  have a7:=wrap_u64 a7;intro ah a8;conv=>cbv
  have a8:=wrap_u64 a8;intro Q t;conv=>cbv
  have t:=wrap_u32 t;refine AH ?_;intro F ad;conv=>cbv
  obtain⟨j,f⟩:=B4 (n:=Q) (by omega);have U:=f.eq;have V:=f.lt;refine⟨j,fun _=>⟨by show _<List.length (α:=UInt32) o;(first | omega | (simp;omega)),B3 f⟩,?_⟩;intro (g:List UInt32) (d:g=List.set (α:=UInt32) o F j);have W:g.length=o.length:=by rw[d,List.length_set]
  conv=>cbv
  intro h u;conv=>cbv
  refine AH ?_;have u:=Dt (p:=4294967296) u rfl;intro P ak;conv=>cbv
  refine AI ?_;refine⟨x.length-(i'+1),?_,?_⟩
  ·omega
  rw[G];refine⟨g,n,h.toNat,i'+1,h,P,rfl,rfl,⟨by rw[d,List.length_set];exact ho,by rw[d,List.length_set];exact hn,⟨by omega⟩,by omega,⟨by omega⟩,by omega⟩,?_,rfl⟩;have hs:=Lg (o:=o.take i') (i:=i') (xi:=S.toNat) (yi:=ai.toNat) (s:=ah.toNat) (w:=j) (by rw[List.length_take];omega) hinv (by omega) (by omega);rw[d,show F=i' by omega,EI (by omega),CB D,CB K];rw[show h.toNat=ah.toNat/4294967296 by omega];rw[hs]
 cases aw <;> conv=>cbv
 ·have aq:=AY X;rw[v];exact⟨a,b,_,_,rfl,hl,hm,rfl,by omega,by omega⟩
 have aq:=AZ X;rw[v];exact⟨b,a,_,_,rfl,hm,hl,Nat.add_comm _ _,by omega,by omega⟩
end Go.Abs
namespace Go.Abs
open Go.RowKit
variable {b1 b2 b3:Bool} {l l1 l2 l3:List UInt32} {x y:Int}
theorem Iw {i:Nat} {x:UInt32} (h:l[i]? =some x):l.getD i 0=x:=by rw[List.getD_eq_getElem?_getD,h];rfl
theorem aH:B7 (x-y)=BQ x y:=by
 unfold BQ B7
 split <;> split <;> (try split) <;> (try split) <;> omega
theorem RQ {m z:List UInt32} {a b:Nat} (hl:AE l=a) (hm:AE m=b) (hz:z=AS (a*b)) (sl:l.length<=17592186044416) (sm:m.length<=17592186044416):CF 331 [.one (.sl .u32 l),.one (.sl .u32 m)] (.one (.sl .u32 z)):=by
 refine AM Tryz.func331 fun E hE=>?_
 conv=>cbv
 rintro n10 ⟨e10,f10⟩;conv=>cbv
 rintro n12 ⟨e12,f12⟩;conv=>cbv
 intro n13 h13;conv=>cbv
 refine AI ?_;refine⟨fun _=>⟨by omega,by omega,by show _*4<=140737488355328;omega⟩,?_⟩;intro k14 (l14:List UInt32) ql14;have hk14:=ql14.1;have hl14:l14=List.replicate k14 (0:el .u32):=ql14.2;have gl14:l14.length=k14:=by rw[hl14,List.length_replicate]
 conv=>cbv
 refine .inr ?_
 obtain⟨J0,hJ0⟩:∃J:List AV->List AG->Nat->Prop,J=fun vs bl k=>∃(o:List UInt32) (n i':Nat) (i:Int),vs=[.one (.sl .u32 l),.one (.sl .u32 m),.one (.AQ .u32 14 0 0 n),.one (.int .i64 i)]/\
  bl=[.arr 0 .u32 o]/\(o.length=l.length+m.length/\n=o.length/\AR i i'/\i'<=l.length)/\
  AE (o.take (i'+m.length))=AE (l.take i')*AE m/\k=l.length-i':=⟨_,rfl⟩
 refine⟨[],[0,1,5,6],[14],J0,⟨l.length-0,by rw[hJ0];exact⟨l14,k14,0,0,rfl,rfl,⟨by rw[hl14,List.length_replicate];omega,by rw[hl14,List.length_replicate],Ak 0,by omega⟩,by rw[hl14,List.take_replicate,HC];simp[AE],rfl⟩⟩,?_⟩;intro vs bl kk0 hj;rw[hJ0] at hj;obtain⟨o,n,i',i,rfl,rfl,⟨ho,hn,hi,hiL⟩,hinv,hk0⟩:=hj;conv=>cbv
 have ei:=hi.eq;rintro n17 ⟨e17,f17⟩;conv=>cbv
 intro n18 h18;conv=>cbv
 cases n18 <;> conv=>cbv
 ·have k18:=AY h18;have hnl66:n<=(o).length:=by omega
  obtain⟨m66,hm66⟩:=xN ((B1 ((o).take n)).length);obtain⟨hle66,htk66⟩:=D1 hnl66 hm66;refine .inr (.inr (.inl ⟨[],.one (.AQ .u32 0 0 0 m66),.arr 0 .u32 o,fun _=>⟨by first | decide | simp[Be,Bk],trivial⟩,fun _=>⟨Di hE (FP hnl66 (by omega) hm66),rfl,rfl⟩,?_⟩));try conv=>cbv
  have hfin:AE (o.take n)=a*b:=by rw[show i'=l.length by omega,List.take_length,hl,hm,<-ho,List.take_length] at hinv;rw[hn,List.take_length,hinv]
  exact AD ⟨⟨rfl,.inl ⟨_,rfl,by omega,congrArg _ (by rw[List.drop_zero,htk66,hfin,hz])⟩,trivial⟩,trivial⟩
 have k18:=AZ h18;refine .inr ?_;refine .inr ?_
 obtain⟨J1,hJ1⟩:∃J:List AV->List AG->Nat->Prop,J=fun vs bl k=>∃(o1:List UInt32) (n1 c' k':Nat) (c i1:Int),vs=[.one (.sl .u32 l),.one (.sl .u32 m),.one (.AQ .u32 14 0 0 n1),.one (.int .i64 i),.one (.int .u64 c),.one (.int .i64 i1)]/\
  bl=[.arr 0 .u32 o1]/\(o1.length=l.length+m.length/\n1=o1.length/\AR i1 k'/\k'<=m.length/\AR c c'/\c'<4294967296)/\
  AE (o1.take (i'+m.length))+2^(32*(i'+k'))*c'=AE (l.take i')*AE m+(l.getD i' 0).toNat*2^(32*i')*AE (m.take k')/\k=m.length-k':=⟨_,rfl⟩
 refine⟨[],[0,1,5,6,7,8],[14],J1,⟨m.length-0,by rw[hJ1];exact⟨o,n,0,0,0,0,rfl,rfl,⟨ho,hn,Ak 0,by omega,Ak 0,by omega⟩,by rw[hinv];simp[AE],rfl⟩⟩,?_⟩;intro vs bl kk1 hj;rw[hJ1] at hj;obtain⟨o1,n1,c',k',c,i1,rfl,rfl,⟨ho1,hn1,hi1,hiL1,hc,hc1⟩,hinv1,hk1⟩:=hj;conv=>cbv
 have ei1:=hi1.eq;have ec:=hc.eq;rintro n23 ⟨e23,f23⟩;conv=>cbv
 intro n24 h24;conv=>cbv
 cases n24 <;> conv=>cbv
 ·have k24:=AY h24;rintro n60 ⟨e60,f60⟩;conv=>cbv
  intro n61 h61;conv=>cbv
  refine AI ?_;intro n63 h63;conv=>cbv
  have h63:=wrap_u32 h63;refine AH ?_;intro j64 hj64;conv=>cbv
  obtain⟨w64,hw64⟩:=B4 (n:=n63) (by omega);have ew64:=hw64.eq;have fw64:=hw64.lt;refine⟨w64,fun _=>⟨by show _<List.length (α:=UInt32) o1;(first | omega | (simp;omega)),B3 hw64⟩,?_⟩;intro (l64:List UInt32) (hl64:l64=List.set (α:=UInt32) o1 j64 w64);have gl64:l64.length=o1.length:=by rw[hl64,List.length_set]
  conv=>cbv
  intro n20 h20;conv=>cbv
  refine AI ?_;refine⟨l.length-(i'+1),?_,?_⟩
  ·omega
  rw[hJ0];refine⟨l64,n1,i'+1,n20,rfl,rfl,⟨by rw[hl64,List.length_set];exact ho1,by rw[hl64,List.length_set];exact hn1,⟨by omega⟩,by omega⟩,?_,rfl⟩;obtain⟨ai,hai⟩:=AL (l:=l) (i:=i') (by omega);have hk:k'=m.length:=by omega
  have hlen:i'+m.length<o1.length:=by omega
  rw[hl64,show i'+1+m.length=i'+m.length+1 by omega,show j64=i'+m.length by omega,EI hlen,Dp,List.length_take,Nat.min_eq_left (by omega),show w64.toNat=c' by omega];rw[hk,Iw hai] at hinv1;rw[hinv1,List.take_length,CB hai]
  grind
 have k24:=AZ h24;refine .inr ?_;intro n31 h31;conv=>cbv
 refine AI ?_;refine AH ?_;intro j32 hj32;conv=>cbv
 obtain⟨x33,hx33⟩:=AL (l:=o1) (i:=j32) (by omega);refine⟨x33,fun _=>hx33,?_⟩;try conv=>cbv
 intro n33 h33;have e33:=h33.eq;have f33:=h33.lt;conv=>cbv
 intro n34 h34;conv=>cbv
 have h34:=wrap_u64 h34;intro n35 h35;conv=>cbv
 have h35:=wrap_u64 h35;obtain⟨x38,hx38⟩:=AL (l:=l) (i:=i') (by omega);refine⟨x38,fun _=>⟨by omega,by rw[show (i).toNat=i' by omega];exact hx38⟩,?_⟩;try conv=>cbv
 intro n39 h39;have e39:=h39.eq;have f39:=h39.lt;conv=>cbv
 intro n40 h40;conv=>cbv
 have h40:=wrap_u64 h40;obtain⟨x43,hx43⟩:=AL (l:=m) (i:=k') (by omega);refine⟨x43,fun _=>⟨by omega,by rw[show (i1).toNat=k' by omega];exact hx43⟩,?_⟩;try conv=>cbv
 intro n44 h44;have e44:=h44.eq;have f44:=h44.lt;conv=>cbv
 intro n45 h45;conv=>cbv
 have h45:=wrap_u64 h45;have ep:n40*n45=((x38.toNat*x43.toNat:Nat):Int):=by rw[Int.natCast_mul];congr 1 <;> omega
 have bp:x38.toNat*x43.toNat<=4294967295*4294967295:=Nat.mul_le_mul (by omega) (by omega);intro n46 h46;conv=>cbv
 have h46:=wrap_u64 h46;intro n47 h47;conv=>cbv
 have h47:=wrap_u64 h47;refine g2 rfl ?_;intro C9 h51;conv=>cbv
 refine AI ?_;intro C3 h53;conv=>cbv
 have h53:=wrap_u32 h53;refine AH ?_;intro j54 hj54;conv=>cbv
 obtain⟨w54,hw54⟩:=B4 (n:=C3) (by omega);have ew54:=hw54.eq;have fw54:=hw54.lt;refine⟨w54,fun _=>⟨by show _<List.length (α:=UInt32) o1;(first | omega | (simp;omega)),B3 hw54⟩,?_⟩;intro (l54:List UInt32) (hl54:l54=List.set (α:=UInt32) o1 j54 w54);have gl54:l54.length=o1.length:=by rw[hl54,List.length_set]
 conv=>cbv
 intro n56 h56;conv=>cbv
 refine AH ?_;have h56:=Dt (p:=4294967296) h56 rfl;intro n26 h26;conv=>cbv
 refine AI ?_;refine⟨m.length-(k'+1),?_,?_⟩
 ·omega
 rw[hJ1];refine⟨l54,n1,n56.toNat,k'+1,n56,n26,rfl,rfl,⟨by rw[hl54,List.length_set];exact ho1,by rw[hl54,List.length_set];exact hn1,⟨by omega⟩,by omega,⟨by omega⟩,by omega⟩,?_,rfl⟩;have hj:j54=i'+k':=by omega
 have hj2:j32=i'+k':=by omega
 rw[hj2] at hx33;rw[Iw hx38] at hinv1;rw[hl54,hj,CB hx43,show i'+(k'+1)=i'+k'+1 by omega,Iw hx38];refine Pz (q:=x33) (xi:=x38.toNat) (yk:=x43.toNat) (old:=x33.toNat) (c:=c') rfl (by omega) hx33 rfl hinv1 ?_ rfl;rw[ep] at h46;omega
theorem DF (k:Af x b1 l1) (o:Af y b2 l2) (p:Af (x*y) b3 l3) (s1:l1.length<=17592186044416) (s2:l2.length<=17592186044416):CF 276 [.agg (BC b1 l1),.agg (BC b2 l2)] (.agg (BC b3 l3)):=by
 refine AM Tryz.func276 fun E i=>?_
 conv=>cbv
 refine AB i (Gr k) ?_;conv=>cbv
 refine AB i (Gr o) ?_;conv=>cbv
 refine g2 rfl ?_;intro q j;conv=>cbv
 obtain⟨s,f⟩:=xU (AS (x.natAbs*y.natAbs));refine AB i (RQ k.nat o.nat f s1 s2) ?_;conv=>cbv
 obtain⟨g,h,d⟩:=AW (x*y);refine AB (r:= .agg [.bool g,.sl .u32 h]) i (Fs (by rw[f,Aw,j];exact Uj k.neg o.neg) d) ?_;try conv=>cbv
 refine g2 rfl ?_;exact AD ⟨⟨rfl,congrArg _ ((d.uniq p rfl).1.symm),congrArg _ ((d.uniq p rfl).2.symm),trivial⟩,trivial⟩
theorem IY (s:Af x b1 l1) (t:Af y b2 l2) (u:Af (x+y) b3 l3) (s1:l1.length<=17592186044416) (s2:l2.length<=17592186044416):CF 278 [.agg (BC b1 l1),.agg (BC b2 l2)] (.agg (BC b3 l3)):=by
 refine AM Tryz.func278 fun E j=>?_
 conv=>cbv
 refine AB j (Gr s) ?_;conv=>cbv
 refine AB j (Gr t) ?_;conv=>cbv
 refine g2 rfl ?_;intro H v;conv=>cbv
 cases H <;> conv=>cbv
 ·have k:=Nv v;obtain⟨L,f⟩:=xI (BQ x.natAbs y.natAbs);refine AB j (Jv s.BD t.BD f) ?_;conv=>cbv
  intro I w;conv=>cbv
  cases I <;> conv=>cbv
  ·have d:=DI w;obtain⟨K,q⟩:=xU (AS (y.natAbs-x.natAbs));refine AB (r:= .one (.sl .u32 K)) j (Na t.BD s.BD q (by rw[f] at d;have:=HU d;omega) s2) ?_;try conv=>cbv
   obtain⟨C,G,i⟩:=AW (x+y);refine AB (r:= .agg [.bool C,.sl .u32 G]) j (Fs (by rw[q,Aw];rw[f] at d;exact LQ s.neg t.neg k (by have:=HU d;omega)) i) ?_;try conv=>cbv
   refine g2 rfl ?_;exact AD ⟨⟨rfl,congrArg _ ((i.uniq u rfl).1.symm),congrArg _ ((i.uniq u rfl).2.symm),trivial⟩,trivial⟩
  have d:=DJ w;obtain⟨J,p⟩:=xU (AS (x.natAbs-y.natAbs));refine AB (r:= .one (.sl .u32 J)) j (Na s.BD t.BD p (by rw[f] at d;have:=HT d;omega) s1) ?_;try conv=>cbv
  obtain⟨B,F,h⟩:=AW (x+y);refine AB (r:= .agg [.bool B,.sl .u32 F]) j (Fs (by rw[p,Aw,Int.add_comm];rw[f] at d;exact LQ t.neg s.neg (Ne.symm k) (by have:=HT d;omega)) h) ?_;try conv=>cbv
  refine g2 rfl ?_;exact AD ⟨⟨rfl,congrArg _ ((h.uniq u rfl).1.symm),congrArg _ ((h.uniq u rfl).2.symm),trivial⟩,trivial⟩
 have k:=Nw v;obtain⟨M,o⟩:=xU (AS (x.natAbs+y.natAbs));refine AB j (Y8 s.BD t.BD o s1 s2) ?_;conv=>cbv
 obtain⟨A,D,g⟩:=AW (x+y);refine AB (r:= .agg [.bool A,.sl .u32 D]) j (Fs (by rw[o,Aw];exact add_same s.neg (k.trans t.neg)) g) ?_;try conv=>cbv
 refine g2 rfl ?_;exact AD ⟨⟨rfl,congrArg _ ((g.uniq u rfl).1.symm),congrArg _ ((g.uniq u rfl).2.symm),trivial⟩,trivial⟩
theorem Q8 (o:Af x b1 l1) (j:Af y b2 l2) (k:Af (x-y) b3 l3) (s1:l1.length<=17592186044416) (s2:l2.length<=17592186044416):CF 365 [.agg (BC b1 l1),.agg (BC b2 l2)] (.agg (BC b3 l3)):=by
 refine AM Tryz.func365 fun E i=>?_
 conv=>cbv
 obtain⟨p,q,d⟩:=AW (-y);refine AB i (Ju j d) ?_;conv=>cbv
 obtain⟨g,h,f⟩:=AW (x-y);refine AB (r:= .agg [.bool g,.sl .u32 h]) i (IY o d f s1 (by rw[d.BD,Int.natAbs_neg,<-j.BD];exact s2)) ?_;try conv=>cbv
 refine g2 rfl ?_;exact AD ⟨⟨rfl,congrArg _ ((f.uniq k rfl).1.symm),congrArg _ ((f.uniq k rfl).2.symm),trivial⟩,trivial⟩
theorem YI (i:Af x b1 l1) (j:Af y b2 l2) {c:Int} (h:c=BQ x y) (s1:l1.length<=17592186044416) (s2:l2.length<=17592186044416):CF 389 [.agg (BC b1 l1),.agg (BC b2 l2)] (.one (.int .i64 c)):=by
 refine AM Tryz.func389 fun E g=>?_
 conv=>cbv
 obtain⟨k,o,f⟩:=AW (x-y);refine AB g (Q8 i j f s1 s2) ?_;conv=>cbv
 obtain⟨p,d⟩:=xI (B7 (x-y));refine AB g (Hu f d) ?_;conv=>cbv
 exact AD ⟨⟨rfl,congrArg _ (by rw[h,d,aH]),trivial⟩,trivial⟩
end Go.Abs
namespace Go.Abs
open Go.RowKit
variable {c:Int} {l:List UInt32} {n x:Nat}
theorem c9 (h:0<x):Ce x=Ce (x/2)+1:=by
 by_cases g:x=1
 ·subst g;decide
 have f:x/2≠0:=by omega
 unfold Ce;rw[if_neg (by omega),if_neg f];have a:=Nat.log2_self_le f;have b:=Nat.lt_log2_self (n:=x/2);have c:Nat.log2 (x/2)+1<=Nat.log2 x:=(Nat.le_log2 (by omega)).2 (by rw[Nat.pow_succ];omega);have d:Nat.log2 x<Nat.log2 (x/2)+2:=(Nat.log2_lt (by omega)).2 (by rw[Nat.pow_succ,Nat.pow_succ];rw[Nat.pow_succ] at b;omega);omega
theorem MY (h:0<x):2^(Ce x-1)<=x/\x<2^Ce x/\1<=Ce x:=by
 unfold Ce;rw[if_neg (by omega)];exact⟨by rw[Nat.add_sub_cancel];exact Nat.log2_self_le (by omega),Nat.lt_log2_self,by omega⟩
theorem Um (h:x<4294967296):Ce x<=32:=by
 unfold Ce
 split
 ·omega
 rename_i d
 have:=(Nat.log2_lt d).2 (show x<2^32 by omega);omega
theorem Zl {y r:Nat} (f:n<=32:=by omega):(x+4294967296*(y+4294967296*r))/2^n%4294967296=(x+4294967296*y)/2^n%4294967296:=by
 have d:2^n*2^(32-n)=4294967296:=by rw[<-Nat.pow_add,show n+(32-n)=32 by omega]
 have e:x+4294967296*(y+4294967296*r)=x+4294967296*y+2^n*(2^(32-n)*r*4294967296):=by
  rw[<-Nat.mul_assoc,<-Nat.mul_assoc,d];grind
 rw[e,Nat.add_mul_div_left _ _ (Nat.two_pow_pos n),Nat.add_mul_mod_self_right]
theorem dW {n a b:Int} {p q:Nat} (h:n=IntKind.u64.wrap (BitVec.ofInt IntKind.u64.bits a ||| BitVec.ofInt IntKind.u64.bits b).toNat) (f:a=q) (g:b=((p*4294967296:Nat):Int)) (j:p<4294967296) (i:q<4294967296):n=((q+4294967296*p:Nat):Int):=by
 rw[VG h f g (by omega) (by omega),Nat.mul_comm];have:=JF (a:=q) (b:=p) (d:=32) i;exact congrArg _ this
theorem gY {X V top high P R0 V0:Nat} (i:X=top*P+R0) (hR:R0<P) (k:V=high*P+V0) (j:0<high):X/V<=top/high:=by
 have f:0<P:=by omega
 have d:X/V<=X/(high*P):=Nat.div_le_div_left (by omega) (Nat.mul_pos j f);have g:X/(high*P)=X/P/high:=by rw[Nat.mul_comm,Nat.div_div_eq_div_mul]
 have h:X/P=top:=by rw[i,Nat.mul_comm,Nat.mul_add_div f,Nat.div_eq_of_lt hR,Nat.add_zero]
 rw[g,h] at d;exact d
theorem RP (hl:l.length<=2) (M:AR c (AE l)):CF 323 [.one (.sl .u32 l)] (.one (.int .u64 c)):=by
 refine AM Tryz.func323 fun E hE=>?_
 conv=>cbv
 rintro n6 ⟨X,f6⟩;conv=>cbv
 intro V Z;conv=>cbv
 refine AI ?_;refine .inr ?_;obtain⟨H,h⟩:=xJ fun vs I k=>∃(f o:Nat) (r j:Int),vs=[.one (.sl .u32 l),.one (.int .u64 r),.one (.int .i64 j)]/\(AR (j+1) f/\f<=l.length/\AR r o)/\o=AE (l.drop f)/\k=f
 refine⟨[],[0,3,4],[],H,⟨l.length,by rw[h];exact⟨l.length,0,0,V,rfl,⟨⟨by omega⟩,by omega,Ak 0⟩,by rw[List.drop_length];rfl,rfl⟩⟩,?_⟩;intro vs I S w;rw[h] at w;obtain⟨f,o,r,j,rfl,⟨w,N,Q⟩,hinv,P⟩:=w;conv=>cbv
 have Y:=w.eq;have K:=Q.eq;intro W F;conv=>cbv
 cases W <;> conv=>cbv
 ·have R:=DI F;have O:f=0:=by omega
  rw[O,List.drop_zero] at hinv;exact AD ⟨⟨rfl,congrArg _ (by rw[M.eq,K,hinv]),trivial⟩,trivial⟩
 have R:=DJ F;refine .inr ?_;intro B s;conv=>cbv
 refine AH ?_;have s:=IM (p:=4294967296) s rfl;obtain⟨i',rfl⟩:∃i',f=i'+1:=⟨f-1,by omega⟩
 have G:o<4294967296:=by have:=CI (l.drop (i'+1));rw[<-hinv] at this;exact Nat.lt_of_lt_of_le this (Nat.pow_le_pow_right (by decide) (by rw[List.length_drop];omega:32*(l.drop (i'+1)).length<=32))
 obtain⟨v,d⟩:=AL (l:=l) (i:=i') (by omega);refine⟨v,fun _=>⟨by omega,by rw[show (j).toNat=i' by omega];exact d⟩,?_⟩;try conv=>cbv
 intro T t;have J:=t.eq;have f17:=t.lt;conv=>cbv
 intro U u;conv=>cbv
 have u:=wrap_u64 u;intro C g;conv=>cbv
 have D:B=((o*4294967296:Nat):Int):=by clear hinv;omega
 have g:=IE (p:=o) (q:=v.toNat) g (by omega) (by omega) (by omega) (by omega);intro A L;conv=>cbv
 refine AI ?_;refine⟨i',?_,?_⟩
 ·omega
 rw[h];refine⟨i',_,C,A,rfl,⟨⟨by omega⟩,by omega,⟨g⟩⟩,?_,rfl⟩;rw[DH d,hinv]
theorem RG {z1:List UInt32} {d:Int} {b:Nat} (hd:AR d b) (hb:0<b) (aB:b<4294967296) (a8:z1=AS (AE l/b)) (hc:AR c (AE l%b)) (sl:l.length<=17592186044416):CF 324 [.one (.sl .u32 l),.one (.int .u32 d)] (.AJ [(false,[.sl .u32 z1]),(false,[.int .u32 c])]):=by
 have ed:=hd.eq;refine AM Tryz.func324 fun E hE=>?_
 conv=>cbv
 rintro aG ⟨aw,f10⟩;conv=>cbv
 refine⟨fun _=>⟨by omega,by omega,by show _*4<=140737488355328;omega⟩,?_⟩;intro N (O:List UInt32) F;have av:=F.1;have h:O=List.replicate N (0:el .u32):=F.2;have aq:O.length=N:=by rw[h,List.length_replicate]
 conv=>cbv
 rintro aH ⟨ax,f13⟩;conv=>cbv
 intro ad az;conv=>cbv
 refine AI ?_;refine .inr ?_
 obtain⟨J0,K⟩:∃J:List AV->List AG->Nat->Prop,J=fun vs bl k=>∃(o:List UInt32) (m g w:Nat) (r j:Int),vs=[.one (.sl .u32 l),.one (.int .u32 d),.one (.AQ .u32 11 0 0 m),.one (.int .u64 r),.one (.int .i64 j)]/\
  bl=[.arr 0 .u32 o]/\(o.length=l.length/\m=o.length/\AR (j+1) w/\w<=l.length/\AR r g/\g<b)/\
  AE (l.drop w)=AE (o.drop w)*b+g/\k=w:=⟨_,rfl⟩
 refine⟨[],[0,1,6,7,8],[11],J0,⟨l.length,by rw[K];exact⟨O,N,0,l.length,0,ad,rfl,rfl,⟨by rw[h,List.length_replicate];omega,by rw[h,List.length_replicate],⟨by omega⟩,by omega,Ak 0,hb⟩,by rw[List.drop_length,List.drop_eq_nil_of_le (by rw[h,List.length_replicate];omega)];simp[AE],rfl⟩⟩,?_⟩;intro vs bl aF Y;rw[K] at Y;obtain⟨o,m,g,w,r,j,rfl,rfl,⟨ho,hm,Y,aC,hr,L⟩,hinv,aD⟩:=Y;conv=>cbv
 have ej:=Y.eq;have er:=hr.eq;intro ae S;conv=>cbv
 cases ae <;> conv=>cbv
 ·have aa:=DI S;have s:m<=(o).length:=by omega
  obtain⟨ab,C⟩:=xN ((B1 ((o).take m)).length);obtain⟨a6,M⟩:=D1 s C;refine .inr (.inr (.inl ⟨[],.one (.AQ .u32 0 0 0 ab),.arr 0 .u32 o,fun _=>⟨by first | decide | simp[Be,Bk],trivial⟩,fun _=>⟨Di hE (FP s (by omega) C),rfl,rfl⟩,?_⟩));try conv=>cbv
  intro aL X;conv=>cbv
  have X:=wrap_u32 X;have hk:w=0:=by omega
  rw[hk,List.drop_zero,List.drop_zero] at hinv;have hq:AE o=AE l/b:=by rw[hinv,Nat.add_comm,Nat.add_mul_div_right _ _ hb,Nat.div_eq_of_lt L,Nat.zero_add]
  have a7:g=AE l%b:=by rw[hinv,Nat.add_comm,Nat.add_mul_mod_self_right,Nat.mod_eq_of_lt L]
  exact AD ⟨⟨rfl,.inl ⟨_,rfl,by omega,congrArg _ (by rw[List.drop_zero,M,a8,hm,List.take_length,hq])⟩,trivial⟩,⟨rfl,congrArg _ (by rw[hc.eq,<-a7];omega),trivial⟩,trivial⟩
 have aa:=DJ S;refine .inr ?_;intro ag G;conv=>cbv
 refine AH ?_;have G:=IM (p:=4294967296) G rfl;have G:ag=((g*4294967296:Nat):Int):=by clear hinv;omega
 obtain⟨i',rfl⟩:∃i',w=i'+1:=⟨w-1,by omega⟩
 obtain⟨f,D⟩:=AL (l:=l) (i:=i') (by omega);refine⟨f,fun _=>⟨by omega,by rw[show (j).toNat=i' by omega];exact D⟩,?_⟩;try conv=>cbv
 intro aI T;have ay:=T.eq;have f24:=T.lt;conv=>cbv
 intro aJ U;conv=>cbv
 have U:=wrap_u64 U;intro aK v;conv=>cbv
 have v:=IE (p:=g) (q:=f.toNat) v (by omega) (by omega) (by omega) (by omega);intro ah V;conv=>cbv
 have V:=wrap_u64 V;intro ai H;conv=>cbv
 refine AH ?_;have H:=wrap_u64 H;intro aj I;conv=>cbv
 have I:=wrap_u32 I;have Z:ah=(b:Int):=by omega
 have a1:ai=(((f.toNat+4294967296*g)/b:Nat):Int):=by rw[H,v,Z,<-Int.natCast_ediv];have:=Nat.div_le_self (f.toNat+4294967296*g) b;generalize (f.toNat+4294967296*g)/b=Q at *;clear hinv;omega
 refine AH ?_;intro A au;conv=>cbv
 obtain⟨u,t⟩:=B4 (n:=aj) (by omega);have an:=t.eq;have ao:=t.lt;refine⟨u,fun _=>⟨by show _<List.length (α:=UInt32) o;(first | omega | (simp;omega)),B3 t⟩,?_⟩;intro (P:List UInt32) (B:P=List.set (α:=UInt32) o A u);have ar:P.length=o.length:=by rw[B,List.length_set]
 conv=>cbv
 intro ak W;conv=>cbv
 have W:=wrap_u64 W;intro al a5;conv=>cbv
 refine AH ?_;intro af aA;conv=>cbv
 refine AI ?_;refine⟨i',?_,?_⟩
 ·omega
 rw[K];have a2:ak=(b:Int):=by omega
 have h5:=Nat.div_add_mod (f.toNat+4294967296*g) b;refine⟨P,m,(f.toNat+4294967296*g)%b,i',al,af,rfl,rfl,⟨by omega,by omega,⟨by omega⟩,by omega,⟨by rw[a5,v,a2];simp⟩,Nat.mod_lt _ hb⟩,?_,rfl⟩
 have aE:(f.toNat+4294967296*g)/b<4294967296:=Nat.div_lt_of_lt_mul (by
  have:4294967296*(g+1)<=4294967296*b:=Nat.mul_le_mul_left _ L;rw[Nat.mul_comm b];omega)
 have ew:u.toNat=(f.toNat+4294967296*g)/b:=by
  rw[a1] at I
  generalize (f.toNat+4294967296*g)/b=Q at*
  clear hinv
  omega
 rw[DH D,hinv,B,DH (l:=o.set A u) (i:=i') (x:=u) (by rw[show A=i' by omega,List.getElem?_set_self (by omega)]),show A=i' by omega,List.drop_set_of_lt (by omega),ew]
 generalize (f.toNat+4294967296*g)/b=Q at*
 generalize (f.toNat+4294967296*g)%b=R at*
 grind
theorem RJ {a:Nat} (v:l=AS a) (K:AR c (Ce a)) (sl:l.length<=17592186044416):CF 325 [.one (.sl .u32 l)] (.one (.int .i64 c)):=by
 refine AM Tryz.func325 fun E hE=>?_
 conv=>cbv
 rintro n6 ⟨e6,f6⟩;conv=>cbv
 intro n7 J;conv=>cbv
 cases n7 <;> conv=>cbv
 ·have k7:=AN J;rintro a2 ⟨P,f10⟩;conv=>cbv
  intro D S;conv=>cbv
  refine AI ?_;obtain⟨f,h⟩:=AL (l:=l) (i:=(l.length-1)) (by omega);refine⟨f,fun _=>⟨by omega,by rw[show (D).toNat=(l.length-1) by omega];exact h⟩,?_⟩;try conv=>cbv
  intro F p;have Q:=p.eq;have f13:=p.lt;conv=>cbv
  refine .inr ?_;obtain⟨N,j⟩:=xJ fun vs O k=>∃(u g:Nat) (n x:Int),vs=[.one (.sl .u32 l),.one (.int .i64 n),.one (.int .u32 x)]/\(AR n u/\AR x g/\g<4294967296)/\u+Ce g=Ce f.toNat/\k=g
  refine⟨[],[0,3,4],[],N,⟨f.toNat,by rw[j];exact⟨0,f.toNat,0,F,rfl,⟨Ak 0,⟨by omega⟩,by omega⟩,Nat.zero_add _,rfl⟩⟩,?_⟩;intro vs O a1 L;rw[j] at L;obtain⟨u,g,n,x,rfl,⟨Z,hx,M⟩,hinv,Y⟩:=L;conv=>cbv
  have en:=Z.eq;have ex:=hx.eq;have X:=Um (x:=f.toNat) (by omega);intro G q;conv=>cbv
  cases G <;> conv=>cbv
  ·have C:=Bf q;rintro a5 ⟨R,f21⟩;conv=>cbv
   intro a6 U;conv=>cbv
   refine AI ?_;intro a7 V;conv=>cbv
   refine AI ?_;intro a8 W;conv=>cbv
   refine AI ?_;have d:=h;rw[v] at d;have t:(AS a).length-1+1=(AS a).length:=by rw[<-v];omega
   have B:=KC d t;have A:=MY (x:=f.toNat) (by omega);have s:=Nx d t A.1 A.2.1 A.2.2;have o:g=0:=by omega
   have w:Ce 0=0:=rfl;rw[o,w] at hinv;rw[<-v] at s;exact AD ⟨⟨rfl,congrArg _ (by rw[K.eq,s];omega),trivial⟩,trivial⟩
  have C:=Bg q;refine .inr ?_;intro I T;conv=>cbv
  refine AI ?_;intro H r;conv=>cbv
  refine AH ?_;have r:=wrap_u32 r;have o:0<g:=by omega
  refine⟨g/2,?_,?_⟩
  ·omega
  rw[j];refine⟨u+1,g/2,I,H,rfl,⟨⟨by omega⟩,⟨by omega⟩,by omega⟩,?_,rfl⟩;have:=c9 o;omega
 have k7:=AO J;have w:a=0:=Dx.1 (by rw[<-v];exact List.eq_nil_of_length_eq_zero (by omega));exact AD ⟨⟨rfl,congrArg _ (by rw[K.eq,w];rfl),trivial⟩,trivial⟩
theorem RO {z:List UInt32} {s:Int} {zn:Nat} (hs:AR s n) (hn:n<=31) (aD:z.length=l.length+1) (aa:AE z=AE l*2^n) (aE:zn=z.length) (sl:l.length<=17592186044416):CF 326 [.one (.sl .u32 l),.one (.int .i64 s)] (.one (.own .u32 z zn)):=by
 have es:=hs.eq;refine AM Tryz.func326 fun E hE=>?_
 conv=>cbv
 rintro n9 ⟨e9,f9⟩;conv=>cbv
 intro aG ay;conv=>cbv
 refine AI ?_;refine⟨fun _=>⟨by omega,by omega,by show _*4<=140737488355328;omega⟩,?_⟩;intro G (H:List UInt32) C;have av:=C.1;have f:H=List.replicate G (0:el .u32):=C.2;have al:H.length=G:=by rw[f,List.length_replicate]
 conv=>cbv
 refine .inr ?_
 obtain⟨J0,D⟩:∃J:List AV->List AG->Nat->Prop,J=fun vs bl k=>∃(o:List UInt32) (c:UInt32) (m i':Nat) (i:Int),vs=[.one (.sl .u32 l),.one (.int .i64 s),.one (.AQ .u32 11 0 0 m),.one (.int .i64 i)]/\
  bl=[.arr 0 .u32 o]/\(o.length=l.length+1/\m=o.length/\AR i i'/\i'<=l.length)/\(o[i']? =some c/\c.toNat<2^n)/\
  AE (o.take i')+2^(32*i')*c.toNat=AE (l.take i')*2^n/\k=l.length-i':=⟨_,rfl⟩
 refine⟨[],[0,1,5,6],[11],J0,⟨l.length-0,by rw[D];exact⟨H,0,G,0,0,rfl,rfl,⟨by rw[f,List.length_replicate];omega,by rw[f,List.length_replicate],Ak 0,by omega⟩,⟨by rw[f,List.getElem?_replicate,if_pos (by omega)],Nat.two_pow_pos n⟩,by simp[AE],rfl⟩⟩,?_⟩;intro vs bl aF hj;rw[D] at hj;obtain⟨o,c,m,i',i,rfl,rfl,⟨ho,hm,hi,aB⟩,⟨hc,a7⟩,hinv,aC⟩:=hj;conv=>cbv
 have ei:=hi.eq;rintro aH ⟨aw,f14⟩;conv=>cbv
 intro ad M;conv=>cbv
 cases ad <;> conv=>cbv
 ·have ab:=AY M;have hk:i'=l.length:=by omega
  have X:AE o=AE l*2^n:=by rw[hk,List.take_length,<-CB (l:=o) (by rw[<-hk];exact hc),List.take_of_length_le (by omega)] at hinv;exact hinv
  exact AD ⟨⟨rfl,.inr (.inl ⟨_,_,by decide,rfl,rfl,hm,rfl,DB (KZ (by omega) (by rw[aa,X])) (by omega)⟩),trivial⟩,trivial⟩
 have ab:=AZ M;refine .inr ?_;obtain⟨d,B⟩:=AL (l:=l) (i:=i') (by omega);refine⟨d,fun _=>⟨by omega,by rw[show (i).toNat=i' by omega];exact B⟩,?_⟩;try conv=>cbv
 intro aI O;have ax:=O.eq;have f21:=O.lt;conv=>cbv
 intro aJ Q;conv=>cbv
 have Q:=wrap_u64 Q;intro af R;conv=>cbv
 refine AH ?_;have a5:d.toNat*2^n<9223372036854775808:=Nat.mul_lt_mul_of_lt_of_le (by omega:d.toNat<4294967296) (Nat.pow_le_pow_right (by decide) hn:2^n<=2^31) (by decide);obtain⟨L,g,R⟩:∃q:Nat,q=d.toNat*2^n/\af=q:=⟨_,rfl,(Pp (p:=d.toNat) (e:=n) R (by omega) (by omega)).trans (by congr 1;exact Nat.mod_eq_of_lt (by omega))⟩
 rw[<-g] at a5;refine AH ?_;intro Z aq;conv=>cbv
 obtain⟨a2,u⟩:=AL (l:=o) (i:=Z) (by omega);refine⟨a2,fun _=>u,?_⟩;try conv=>cbv
 intro aK S;have a6:=S.eq;have f30:=S.lt;conv=>cbv
 intro aL T;conv=>cbv
 have T:=wrap_u32 T;intro K U;conv=>cbv
 have bo:0<=K/\K<4294967296:=by rw[wrap_u32 U];omega
 refine AH ?_;intro a1 ar;conv=>cbv
 obtain⟨w,r⟩:=B4 (n:=K) (by omega);have ah:=r.eq;have aj:=r.lt;refine⟨w,fun _=>⟨by show _<List.length (α:=UInt32) o;(first | omega | (simp;omega)),B3 r⟩,?_⟩;intro (v:List UInt32) (A:v=List.set (α:=UInt32) o a1 w);have an:v.length=o.length:=by rw[A,List.length_set]
 conv=>cbv
 intro aM aA;conv=>cbv
 refine AI ?_;intro aN V;conv=>cbv
 refine AH ?_;have V:=Dt (p:=4294967296) V rfl;intro ag W;conv=>cbv
 have W:=wrap_u32 W;refine AH ?_;intro F au;conv=>cbv
 obtain⟨h,t⟩:=B4 (n:=ag) (by omega);have ai:=t.eq;have ak:=t.lt;refine⟨h,fun _=>⟨by show _<List.length (α:=UInt32) v;(first | omega | (simp;omega)),B3 t⟩,?_⟩;intro (I:List UInt32) (j:I=List.set (α:=UInt32) v F h);have ao:I.length=v.length:=by rw[j,List.length_set]
 conv=>cbv
 intro ae az;conv=>cbv
 refine AI ?_;refine⟨l.length-(i'+1),?_,?_⟩
 ·omega
 rw[D];have hq:2^n*2^(32-n)=4294967296:=by rw[<-Nat.pow_add,show n+(32-n)=32 by omega]
 have ec:a2=c:=by rw[show Z=i' by omega,hc] at u;exact (Option.some.inj u).symm
 have Y:L%4294967296=2^n*(d.toNat%2^(32-n)):=by rw[g,Nat.mul_comm d.toNat,<-hq,Nat.mul_mod_mul_left]
 have h6:=Mf U (p:=c.toNat) (q:=L%4294967296) (by rw[a6,ec]) (by omega) (by have:=c.toNat_lt;omega) (by omega);rw[Y,JF a7,<-Y] at h6
 have a8:h.toNat<2^n:=by
  have:L/4294967296<2^n:=Nat.div_lt_of_lt_mul (by rw[g];exact (Nat.mul_lt_mul_right (Nat.two_pow_pos n)).2 (by omega));omega
 refine⟨I,h,m,i'+1,ae,rfl,rfl,⟨by omega,by omega,⟨by omega⟩,by omega⟩,⟨by rw[j,show F=i'+1 by omega,List.getElem?_set_self (by omega)],a8⟩,?_,rfl⟩;rw[j,show F=i'+1 by omega,Gi (Nat.le_refl _),A,show a1=i' by omega,EI (by omega),Dp,List.length_take,Nat.min_eq_left (by omega),CB B,Dg,Nat.add_mul,<-hinv];have e1:w.toNat+4294967296*h.toNat=c.toNat+d.toNat*2^n:=by rw[<-g];omega
 have e2:2^(32*i')*(w.toNat+4294967296*h.toNat)=2^(32*i')*(c.toNat+d.toNat*2^n):=by rw[e1]
 generalize 2^(32*i')=P at*
 generalize 2^n=N at*
 grind
end Go.Abs
