/- Part 23 of a proof. Conditions: each theorem's own. -/
import Derived.Test.YtfilemenbchajaaGreatPk19
set_option linter.all false
set_option maxHeartbeats 8000000
set_option maxRecDepth 20000
open Go.Proofs
namespace Go.Abs
open Go.RowKit
variable {a n:Nat} {b c:Bool} {l m z:List UInt32} {x:Int}
theorem fE {w:List UInt32} (j:x= -(AB l:Int)) (hw:w=AR (AB l)) (i:c=true↔0<w.length):Ag x c w:=by
 by_cases d:AB l=0
 ·have h:w=[]:=by rw[hw,EL.2 d]
  have f:c=false:=by
   cases c with
   | false=>rfl
   | true=>have:=i.1 rfl;rw[h] at this;simp at this
  subst f;exact .val hw.symm (by rw[j,d];simp) (fun _=>rfl)
 have g:c=true:=i.2 (List.length_pos_iff.2 (fun e=>d (EL.1 (by rw[<-hw];exact e))));subst g;exact .val hw.symm (by rw[j];rfl) (fun e=>absurd e d)
theorem IW (P:AB l=n) (B:z=AR n):CF 310 [.one (.sl .u32 l)] (.one (.sl .u32 z)):=by
 have B:Bk l=z:=by rw[B,<-P,Kl]
 refine AH Tryz.func310 (by kernel_rfl) rfl fun E Z=>?_
 conv=>cbv
 refine .inr ?_;obtain⟨I,p⟩:=xJ fun vs J k=>∃m:List UInt32,vs=[.one (.sl .u32 m)]/\Bk m=z/\k=m.length
 refine⟨[0],[],I,⟨l.length,by rw[p];exact⟨l,rfl,B,rfl⟩⟩,?_⟩;intro vs J R G;rw[p] at G;obtain⟨m,rfl,q,O⟩:=G;conv=>cbv
 rintro n4 ⟨X,f4⟩;conv=>cbv
 intro W D;conv=>cbv
 cases W <;> conv=>cbv
 ·have Q:=CA D;have w:m=[]:=List.eq_nil_of_length_eq_zero (by omega);exact fA ⟨⟨rfl,congrArg _ (by rw[<-q,w];rfl),trivial⟩,trivial⟩ rfl (by simp)
 have Q:=CB D;rintro n9 ⟨Y,f9⟩;conv=>cbv
 intro f M;conv=>cbv
 refine g1 (by omega) ?_;obtain⟨g,d⟩:=AG (l:=m) (i:=(f).toNat) (by omega);refine⟨g,fun _=>⟨by omega,d⟩,?_⟩;try conv=>cbv
 intro T o;have K:=o.eq;have f12:=o.lt;conv=>cbv
 intro C s;conv=>cbv
 cases C <;> conv=>cbv
 ·have t:=Au s;have A:g≠0:=fun h=>by subst h;exact t o.eq
  have v:m=m.take (f).toNat++[g]:=by have:=Bi d;rw[List.take_of_length_le (by omega)] at this;exact this
  exact fA ⟨⟨rfl,congrArg _ (by rw[<-q,v,JM A]),trivial⟩,trivial⟩ rfl (by simp)
 have t:=Av s;refine .inr ?_;rintro U ⟨L,f17⟩;conv=>cbv
 intro V N;conv=>cbv
 refine g1 (by omega) ?_;intro S H;conv=>cbv
 refine g2 (by omega) ?_;intro u F;conv=>cbv
 intro r j;conv=>cbv
 refine⟨r.length,?_,?_⟩
 ·rw[j];simp;omega
 rw[p];have el:r=m.take (f).toNat:=by rw[j,show u=(f).toNat by omega];simp
 refine⟨r,rfl,?_,rfl⟩;obtain rfl:g=0:=UInt32.toNat_inj.1 (by show _=0;omega)
 have v:m=m.take (f).toNat++[0]:=by
  have:=Bi d;rw[List.take_of_length_le (by omega)] at this;exact this
 rw[el,<-q];conv=>rhs;rw[v]
 rw[IF]
theorem FE {m:Nat} (S:n<=l.length) (hl:l.length<=140737488355328) (hm:m=(Bk (l.take n)).length):GQ Tryz.prog 310 (.AT .u32 0 0 0 n) (.arr 0 .u32 l) [] (.one (.AT .u32 0 0 0 m)) (.arr 0 .u32 l):=by
 refine Jk Tryz.func310 (by kernel_rfl) rfl fun E hE=>?_
 conv=>cbv
 refine .inr ?_;obtain⟨J,j⟩:=xJ fun vs B k=>∃q:Nat,vs=[.one (.AT .u32 0 0 0 q)]/\B=[.arr 0 .u32 l]/\q<=l.length/\m=(Bk (l.take q)).length/\k=q
 refine⟨[0],[0],J,⟨n,by rw[j];exact⟨n,rfl,rfl,S,hm,rfl⟩⟩,?_⟩;intro vs B U G;rw[j] at G;obtain⟨q,rfl,rfl,hq,o,R⟩:=G;conv=>cbv
 intro n4 P;have e4:=P.eq;conv=>cbv
 intro Z C;conv=>cbv
 cases Z <;> conv=>cbv
 ·have T:=CA C;refine⟨fun _=>⟨⟨⟨rfl,.inr (.inr ⟨rfl,rfl,congrArg (AC.AT .u32 0 0 0) (by rw[o,show q=0 by omega];rfl)⟩),trivial⟩,trivial⟩,rfl,by simp⟩,fun _=>rfl⟩
 have T:=CB C;intro n9 Q;have e9:=Q.eq;conv=>cbv
 intro V N;conv=>cbv
 refine g1 (by omega) ?_;refine g2 (by omega) ?_;intro p H;conv=>cbv
 obtain⟨r,d⟩:=AG (l:=l) (i:=p) (by omega);refine⟨r,fun _=>d,?_⟩;try conv=>cbv
 intro W g;have L:=g.eq;have f12:=g.lt;conv=>cbv
 intro w s;conv=>cbv
 cases w <;> conv=>cbv
 ·have t:=Au s;have v:r≠0:=fun h=>by subst h;exact t g.eq
  refine⟨fun _=>⟨⟨⟨rfl,.inr (.inr ⟨rfl,rfl,congrArg (AC.AT .u32 0 0 0) (by rw[o,show q=p+1 by omega,Bi d,JM v,List.length_append,List.length_take];simp;omega)⟩),trivial⟩,trivial⟩,rfl,by simp⟩,fun _=>rfl⟩
 have t:=Av s;refine .inr ?_;intro X u;have M:=u.eq;conv=>cbv
 intro Y O;conv=>cbv
 refine g1 (by omega) ?_;refine g2 (by omega) ?_;intro K D;conv=>cbv
 rintro A f ⟨I,F⟩;conv=>cbv
 refine⟨f,?_,?_⟩
 ·omega
 rw[j];obtain rfl:A=0:=by omega
 refine⟨f,rfl,rfl,by omega,?_,rfl⟩;obtain rfl:r=0:=UInt32.toNat_inj.1 (by show _=0;omega);rw[o,show q=f+1 by omega,Bi (x:=0) (by rw[show f=p by omega];exact d),IF]
theorem FR {n:Bool} (j:x=if n=true then -(AB l:Int) else AB l) (g:Ag x b z):CF 272 [.one (.bool n),.one (.sl .u32 l)] (.agg [.bool b,.sl .u32 z]):=by
 refine AH Tryz.func272 (by kernel_rfl) rfl fun E p=>?_
 conv=>cbv
 obtain⟨k,d⟩:=xU (AR (AB l));refine cL p (IW rfl d) t1 ?_;try conv=>cbv
 cases n <;> conv=>cbv
 ·have f:Ag x false k:= .val d.symm j (fun _=>rfl);exact fA ⟨⟨rfl,congrArg _ ((f.uniq g rfl).1.symm),congrArg _ ((f.uniq g rfl).2.symm),trivial⟩,trivial⟩ rfl (by simp)
 rintro q ⟨o,f10⟩;conv=>cbv
 intro i h;conv=>cbv
 have f:Ag x i k:=fE (by rw[j];rfl) d (by rw[h,decide_eq_true_eq];omega);exact fA ⟨⟨rfl,congrArg _ ((f.uniq g rfl).1.symm),congrArg _ ((f.uniq g rfl).2.symm),trivial⟩,trivial⟩ rfl (by simp)
theorem Jf {n:Int} {k:Nat} (B:AS n k) (H:k<18446744073709551616) (C:z=AR k):CF 273 [.one (.int .u64 n)] (.one (.sl .u32 z)):=by
 have G:=B.eq;refine AH Tryz.func273 (by kernel_rfl) rfl fun E A=>?_
 conv=>cbv
 intro n4 t;conv=>cbv
 have t:=wrap_u32 t;intro I u;conv=>cbv
 refine g2 (by omega) ?_;have u:=Da (p:=4294967296) u rfl;intro F v;conv=>cbv
 have v:=wrap_u32 v;obtain⟨g,d⟩:=Bm (n:=n4) (by omega);have o:=d.eq;have r:=d.lt;obtain⟨h,f⟩:=Bm (n:=F) (by omega);have q:=f.eq;have s:=f.lt;refine⟨[g,h],fun _=>⟨rfl,by decide,rfl,⟨rfl,Bl d,⟨rfl,Bl f,trivial⟩⟩⟩,.inl ?_⟩;try conv=>cbv
 obtain⟨D,i⟩:=xN ((Bk ([g,h].take 2)).length);obtain⟨w,j⟩:=Dl (by simp) i;refine .inr (.inr (.inl ⟨[],.one (.AT .u32 0 0 0 D),.arr 0 .u32 [g,h],fun _=>⟨by first | decide | simp[Bw,B4],trivial⟩,fun _=>⟨DS A (FE (by simp) (by simp) i),rfl,rfl⟩,?_⟩));try conv=>cbv
 exact fA ⟨⟨rfl,.inl ⟨_,rfl,by simp;omega,congrArg _ (by rw[List.drop_zero,j,C];congr 1;simp[AB];omega)⟩,trivial⟩,trivial⟩ rfl (by simp)
theorem K5 (D: -9223372036854775808<=x/\x<9223372036854775808) (q:Ag x b z):CF 226 [.one (.int .i64 x)] (.agg [.bool b,.sl .u32 z]):=by
 refine AH Tryz.func226 (by kernel_rfl) rfl fun E p=>?_
 conv=>cbv
 intro n4 u;conv=>cbv
 cases n4 <;> conv=>cbv
 ·have A:=Ad u;intro B h;conv=>cbv
  have h:=wrap_u64 h;obtain⟨C,f⟩:=xU (AR x.natAbs);refine cL p (Jf (AS.of (k:=x.natAbs) (by omega)) (by omega) f) t1 ?_;try conv=>cbv
  obtain⟨j,o,d⟩:=Ac (x);refine cL (r:= .agg [.bool j,.sl .u32 o]) p (FR (n:=false) (by rw[f,BB];simp;omega) d) t2 ?_;try conv=>cbv
  exact fA ⟨⟨rfl,congrArg _ ((d.uniq q rfl).1.symm),congrArg _ ((d.uniq q rfl).2.symm),trivial⟩,trivial⟩ rfl (by simp)
 have A:=Ae u;intro F v;conv=>cbv
 have v:=wrap_u64 v;intro G w;conv=>cbv
 have w:=wrap_u64 w;obtain⟨H,i⟩:=xU (AR x.natAbs);refine cL p (Jf (AS.of (k:=x.natAbs) (by omega)) (by omega) i) t1 ?_;try conv=>cbv
 obtain⟨s,t,g⟩:=Ac (x);refine cL (r:= .agg [.bool s,.sl .u32 t]) p (FR (n:=true) (by rw[i,BB];simp;omega) g) t2 ?_;try conv=>cbv
 exact fA ⟨⟨rfl,congrArg _ ((g.uniq q rfl).1.symm),congrArg _ ((g.uniq q rfl).2.symm),trivial⟩,trivial⟩ rfl (by simp)
theorem Xg (h:x=if b=true then -(AB l:Int) else AB l) (f:Ag x c z):CF 308 [.agg [.bool b,.sl .u32 l]] (.agg [.bool c,.sl .u32 z]):=by
 refine AH Tryz.func308 (by kernel_rfl) rfl fun E g=>?_
 conv=>cbv
 obtain⟨i,j,d⟩:=Ac (x);refine cL g (FR h d) t2 ?_;try conv=>cbv
 exact fA ⟨⟨rfl,congrArg _ ((d.uniq f rfl).1.symm),congrArg _ ((d.uniq f rfl).2.symm),trivial⟩,trivial⟩ rfl (by simp)
theorem Gz (d:Ag x b l):CF 308 [.agg [.bool b,.sl .u32 l]] (.agg [.bool b,.sl .u32 l]):=Xg d.ER d
theorem Je (k:Ag x b l) (h:Ag (-x) c z):CF 250 [.agg [.bool b,.sl .u32 l]] (.agg [.bool c,.sl .u32 z]):=by
 refine AH Tryz.func250 (by kernel_rfl) rfl fun E j=>?_
 conv=>cbv
 intro o i;conv=>cbv
 obtain⟨f,g,d⟩:=Ac (-x);refine cL (r:= .agg [.bool f,.sl .u32 g]) j (FR (by rw[i];exact Vh k.ER) d) t2 ?_;try conv=>cbv
 exact fA ⟨⟨rfl,congrArg _ ((d.uniq h rfl).1.symm),congrArg _ ((d.uniq h rfl).2.symm),trivial⟩,trivial⟩ rfl (by simp)
theorem IT {c:Int} (d:Ag x b l) (h:c=Bu x):CF 285 [.agg [.bool b,.sl .u32 l]] (.one (.int .i64 c)):=by
 refine AH Tryz.func285 (by kernel_rfl) rfl fun E k=>?_
 conv=>cbv
 refine cL k (Gz d) ⟨t2,trivial⟩ ?_;try conv=>cbv
 rintro p ⟨f,f7⟩;conv=>cbv
 intro o j;conv=>cbv
 cases o <;> conv=>cbv
 ·have i:=Au j;cases b <;> conv=>cbv
  ·have g:AB l≠0:=fun e=>by rw[d.BI] at f;have:=d.nat;rw[e] at this;rw[<-this] at f;exact i f
   exact fA ⟨⟨rfl,congrArg _ (by rw[h,Mp d.ER g];rfl),trivial⟩,trivial⟩ rfl (by simp)
  have g:AB l≠0:=fun e=>by rw[d.BI] at f;have:=d.nat;rw[e] at this;rw[<-this] at f;exact i f
  exact fA ⟨⟨rfl,congrArg _ (by rw[h,Mp d.ER g];rfl),trivial⟩,trivial⟩ rfl (by simp)
 have i:=Av j;have g:AB l=0:=by rw[List.eq_nil_of_length_eq_zero (by omega:l.length=0)];rfl
 exact fA ⟨⟨rfl,congrArg _ (by rw[h,d.ER,g];unfold Bu;simp),trivial⟩,trivial⟩ rfl (by simp)
theorem LA {b:Nat} {c:Int} (t:l=AR a) (hm:m=AR b) (N:c=BT a b):CF 318 [.one (.sl .u32 l),.one (.sl .u32 m)] (.one (.int .i64 c)):=by
 refine AH Tryz.func318 (by kernel_rfl) rfl fun E hE=>?_
 conv=>cbv
 rintro n7 ⟨e7,f7⟩;conv=>cbv
 rintro n9 ⟨e9,f9⟩;conv=>cbv
 intro V D;conv=>cbv
 cases V <;> conv=>cbv
 ·have Q:=Dg D;rintro ak ⟨a7,f17⟩;conv=>cbv
  intro X ad;conv=>cbv
  refine g1 (by omega) ?_;refine .inr ?_;obtain⟨J0,s⟩:=xJ fun vs bl k=>∃(j:Int) (k':Nat),vs=[.one (.sl .u32 l),.one (.sl .u32 m),.one (.int .i64 j)]/\(AS (j+1) k'/\k'<=l.length/\l.length=m.length/\AB (l.drop k')=AB (m.drop k'))/\k=k'
  refine⟨[0,1,5],[],J0,⟨l.length,by rw[s];exact⟨X,l.length,rfl,⟨⟨by omega⟩,by omega,by omega,by rw[List.drop_length,show l.length=m.length by omega,List.drop_length]⟩,rfl⟩⟩,?_⟩;intro vs bl ah P;rw[s] at P;obtain⟨j,k',rfl,⟨P,af,u,O⟩,ag⟩:=P;conv=>cbv
  have ej:=P.eq;intro Y G;conv=>cbv
  cases Y <;> conv=>cbv
  ·have S:=EC G;have hk:k'=0:=by omega
   have he:a=b:=by rw[hk] at O;simpa [t,hm,BB] using O
   exact fA ⟨⟨rfl,congrArg _ (by rw[N,he];simp[BT]),trivial⟩,trivial⟩ rfl (by simp)
  have S:=ED G;refine .inr ?_;obtain⟨g,o⟩:=AG (l:=l) (i:=(j).toNat) (by omega);refine⟨g,fun _=>⟨by omega,o⟩,?_⟩;try conv=>cbv
  intro al H;have C:=H.eq;have f26:=H.lt;conv=>cbv
  obtain⟨h,p⟩:=AG (l:=m) (i:=(j).toNat) (by omega);refine⟨h,fun _=>⟨by omega,p⟩,?_⟩;try conv=>cbv
  intro an I;have a8:=I.eq;have f30:=I.lt;conv=>cbv
  intro a1 J;conv=>cbv
  refine g2 rfl ?_;cases a1 <;> conv=>cbv
  ·have T:=Ad J;obtain⟨d,q⟩:=AG (l:=l) (i:=(j).toNat) (by omega);refine⟨d,fun _=>⟨by omega,q⟩,?_⟩;try conv=>cbv
   intro ao K;have aa:=K.eq;have f35:=K.lt;conv=>cbv
   obtain⟨f,r⟩:=AG (l:=m) (i:=(j).toNat) (by omega);refine⟨f,fun _=>⟨by omega,r⟩,?_⟩;try conv=>cbv
   intro aq L;have ab:=L.eq;have f39:=L.lt;conv=>cbv
   intro a2 M;conv=>cbv
   refine g2 rfl ?_;cases a2 <;> conv=>cbv
   ·have U:=CA M;intro Z ae;conv=>cbv
    refine g1 (by omega) ?_;refine⟨k'-1,?_,?_⟩
    ·omega
    rw[s];obtain⟨i',rfl⟩:∃i',k'=i'+1:=⟨k'-1,by omega⟩
    have e3:l[i']? =some g:=by rw[<-o];congr 1;omega
    have e4:m[i']? =some h:=by rw[<-p];congr 1;omega
    have A:l[i']? =some d:=by rw[<-q];congr 1;omega
    have B:m[i']? =some f:=by rw[<-r];congr 1;omega
    obtain rfl:d=g:=Option.some.inj (A.symm.trans e3);obtain rfl:f=h:=Option.some.inj (B.symm.trans e4);refine⟨Z,i',rfl,⟨⟨by omega⟩,by omega,u,?_⟩,by omega⟩;have C:d=f:=UInt32.toNat_inj.1 (by omega);subst C;exact drop_eq (i:=i') A B O
   have U:=CB M;obtain⟨i',rfl⟩:∃i',k'=i'+1:=⟨k'-1,by omega⟩
   have A:l[i']? =some d:=by rw[<-q];congr 1;omega
   have B:m[i']? =some f:=by rw[<-r];congr 1;omega
   have v:f.toNat<d.toNat:=by omega
   have w:d≠f:=fun e=>by rw[e] at v;omega
   exact fA ⟨⟨rfl,congrArg _ (by rw[N,<-BB a,<-BB b,<-t,<-hm,<-Nz A B u O w];unfold BT;rw[if_neg (by omega),if_pos (by omega)]),trivial⟩,trivial⟩ rfl (by simp)
  have T:=Ae J;obtain⟨i',rfl⟩:∃i',k'=i'+1:=⟨k'-1,by omega⟩
  have A:l[i']? =some g:=by rw[<-o];congr 1;omega
  have B:m[i']? =some h:=by rw[<-p];congr 1;omega
  have v:g.toNat<h.toNat:=by omega
  have w:g≠h:=fun e=>by rw[e] at v;omega
  exact fA ⟨⟨rfl,congrArg _ (by rw[N,<-BB a,<-BB b,<-t,<-hm,<-Nz A B u O w];unfold BT;rw[if_pos (by omega)]),trivial⟩,trivial⟩ rfl (by simp)
 have Q:=Dh D;rintro ai ⟨a5,f12⟩;conv=>cbv
 rintro aj ⟨a6,f14⟩;conv=>cbv
 intro W F;conv=>cbv
 cases W <;> conv=>cbv
 ·have R:=Ad F;exact fA ⟨⟨rfl,congrArg _ (by rw[N,<-Ny (by rw[<-t,<-hm];omega),<-t,<-hm];unfold BT;rw[if_neg (by omega),if_pos (by omega)]),trivial⟩,trivial⟩ rfl (by simp)
 have R:=Ae F;exact fA ⟨⟨rfl,congrArg _ (by rw[N,<-Ny (by rw[<-t,<-hm];omega),<-t,<-hm];unfold BT;rw[if_pos (by omega)]),trivial⟩,trivial⟩ rfl (by simp)
theorem NV {b:Nat} (hl:l=AR a) (hm:m=AR b) (hz:z=AR (a-b)) (aa:b<=a) (sl:l.length<=17592186044416):CF 319 [.one (.sl .u32 l),.one (.sl .u32 m)] (.one (.sl .u32 z)):=by
 have ad:m.length<=l.length:=by rw[hl,hm];exact DW aa
 refine AH Tryz.func319 (by kernel_rfl) rfl fun E hE=>?_
 conv=>cbv
 rintro aE ⟨av,f11⟩;conv=>cbv
 refine⟨fun _=>⟨by omega,by omega,by show _*4<=140737488355328;omega⟩,?_⟩;intro Q (R:List UInt32) N;have au:=N.1;have D:R=List.replicate Q (0:el .u32):=N.2;have ar:R.length=Q:=by rw[D,List.length_replicate]
 conv=>cbv
 refine .inr ?_
 obtain⟨J0,I⟩:∃J:List AV->List AM->Nat->Prop,J=fun vs bl k=>∃(o:List UInt32) (n K i':Nat) (c i:Int),vs=[.one (.sl .u32 l),.one (.sl .u32 m),.one (.AT .u32 12 0 0 n),.one (.int .u64 c),.one (.int .i64 i)]/\
  bl=[.arr 0 .u32 o]/\(o.length=l.length/\n=o.length/\AS i i'/\i'<=l.length/\AS c K/\K<=1)/\
  AB (o.take i')+AB (m.take i')=AB (l.take i')+2^(32*i')*K/\k=l.length-i':=⟨_,rfl⟩
 refine⟨[0,1,5,6,7],[12],J0,⟨l.length-0,by rw[I];exact⟨R,Q,0,0,0,0,rfl,rfl,⟨by rw[D,List.length_replicate];omega,by rw[D,List.length_replicate],BC 0,by omega,BC 0,by omega⟩,by simp[AB],rfl⟩⟩,?_⟩;intro vs bl aD hj;rw[I] at hj;obtain⟨o,n,K,i',c,i,rfl,rfl,⟨ho,hn,hi,aA,hc,az⟩,hinv,aB⟩:=hj;conv=>cbv
 have ei:=hi.eq;have ec:=hc.eq;rintro aF ⟨aw,f15⟩;conv=>cbv
 intro ah X;conv=>cbv
 cases ah <;> conv=>cbv
 ·have ae:=Ad X;have F:n<=(o).length:=by omega
  obtain⟨ag,L⟩:=xN ((Bk ((o).take n)).length);obtain⟨ab,O⟩:=Dl F L;refine .inr (.inr (.inl ⟨[],.one (.AT .u32 0 0 0 ag),.arr 0 .u32 o,fun _=>⟨by first | decide | simp[Bw,B4],trivial⟩,fun _=>⟨DS hE (FE F (by omega) L),rfl,rfl⟩,?_⟩));try conv=>cbv
  have hk:i'=l.length:=by omega
  have a2:AB (o.take n)=a-b:=by rw[hk,C5 ad,C5 (Nat.le_refl _),hm,hl,BB,BB,<-hl,<-ho,List.take_length] at hinv;have aC:=CL o;generalize 2^(32*o.length)=P at *;rw[hn,List.take_length];rcases (by omega:K=0\/K=1) with e | e <;> rw[e] at hinv <;> omega
  exact fA ⟨⟨rfl,.inl ⟨_,rfl,by omega,congrArg _ (by rw[List.drop_zero,O,a2,hz])⟩,trivial⟩,trivial⟩ rfl (by simp)
 have ae:=Ae X;refine .inr ?_;rintro aG ⟨ax,f21⟩;conv=>cbv
 intro ai Y;conv=>cbv
 refine .inr ?_;cases ai <;> conv=>cbv
 ·have af:=Ad Y;obtain⟨H,g⟩:=AG (l:=l) (i:=i') (by omega);refine⟨H,fun _=>⟨by omega,by rw[show (i).toNat=i' by omega];exact g⟩,?_⟩;try conv=>cbv
  intro aj r;have a7:=r.eq;have f31:=r.lt;conv=>cbv
  intro ak s;conv=>cbv
  have s:=wrap_u64 s;intro al t;conv=>cbv
  have t:=wrap_u64 t;intro an u;conv=>cbv
  have u:=wrap_u64 u;intro ao v;conv=>cbv
  have v:=wrap_u64 v;intro T A;conv=>cbv
  have A:=wrap_u32 A;refine g2 (by omega) ?_;intro G a5;conv=>cbv
  obtain⟨q,f⟩:=Bm (n:=T) (by omega);have U:=f.eq;have V:=f.lt;refine⟨q,fun _=>⟨by show _<List.length (α:=UInt32) o;(first | omega | (simp;omega)),Bl f⟩,?_⟩;intro (h:List UInt32) (d:h=List.set (α:=UInt32) o G q);have W:h.length=o.length:=by rw[d,List.length_set]
  conv=>cbv
  intro aq B;conv=>cbv
  refine g2 (by omega) ?_;have B:=Da (p:=4294967296) B rfl;intro j C;conv=>cbv
  have C:=wrap_u64 C;intro S a8;conv=>cbv
  refine g1 (by omega) ?_;refine⟨l.length-(i'+1),?_,?_⟩
  ·omega
  rw[I];refine⟨h,n,j.toNat,i'+1,j,S,rfl,rfl,⟨by rw[d,List.length_set];exact ho,by rw[d,List.length_set];exact hn,⟨by omega⟩,by omega,⟨by omega⟩,by omega⟩,?_,rfl⟩;have hs:=I5 (w:=q) (o:=o) (i:=i') (xi:=H.toNat) (yi:=0) (Em:=K) (En:=j.toNat) (by omega) hinv (by omega);rw[d,show G=i' by omega,B6 g,<-hs,C5 (l:=m) (i:=i'+1) (by omega),C5 (l:=m) (i:=i') (by omega),Nat.mul_zero]
  rfl
 have af:=Ae Y;obtain⟨a6,M⟩:=AG (l:=m) (i:=i') (by omega);refine⟨a6,fun _=>⟨by omega,by rw[show (i).toNat=i' by omega];exact M⟩,?_⟩;try conv=>cbv
 intro aH Z;have ay:=Z.eq;have f26:=Z.lt;conv=>cbv
 intro aI a1;conv=>cbv
 have a1:=wrap_u64 a1;obtain⟨H,g⟩:=AG (l:=l) (i:=i') (by omega);refine⟨H,fun _=>⟨by omega,by rw[show (i).toNat=i' by omega];exact g⟩,?_⟩;try conv=>cbv
 intro aj r;have a7:=r.eq;have f31:=r.lt;conv=>cbv
 intro ak s;conv=>cbv
 have s:=wrap_u64 s;intro al t;conv=>cbv
 have t:=wrap_u64 t;intro an u;conv=>cbv
 have u:=wrap_u64 u;intro ao v;conv=>cbv
 have v:=wrap_u64 v;intro T A;conv=>cbv
 have A:=wrap_u32 A;refine g2 (by omega) ?_;intro G a5;conv=>cbv
 obtain⟨q,f⟩:=Bm (n:=T) (by omega);have U:=f.eq;have V:=f.lt;refine⟨q,fun _=>⟨by show _<List.length (α:=UInt32) o;(first | omega | (simp;omega)),Bl f⟩,?_⟩;intro (h:List UInt32) (d:h=List.set (α:=UInt32) o G q);have W:h.length=o.length:=by rw[d,List.length_set]
 conv=>cbv
 intro aq B;conv=>cbv
 refine g2 (by omega) ?_;have B:=Da (p:=4294967296) B rfl;intro j C;conv=>cbv
 have C:=wrap_u64 C;intro S a8;conv=>cbv
 refine g1 (by omega) ?_;refine⟨l.length-(i'+1),?_,?_⟩
 ·omega
 rw[I];refine⟨h,n,j.toNat,i'+1,j,S,rfl,rfl,⟨by rw[d,List.length_set];exact ho,by rw[d,List.length_set];exact hn,⟨by omega⟩,by omega,⟨by omega⟩,by omega⟩,?_,rfl⟩;have hs:=I5 (w:=q) (o:=o) (i:=i') (xi:=H.toNat) (yi:=a6.toNat) (Em:=K) (En:=j.toNat) (by omega) hinv (by omega);rw[d,show G=i' by omega,B6 g,<-hs,B6 M]
theorem YH {b:Nat} (hl:l=AR a) (hm:m=AR b) (hz:z=AR (a+b)) (sl:l.length<=17592186044416) (sm:m.length<=17592186044416):CF 317 [.one (.sl .u32 l),.one (.sl .u32 m)] (.one (.sl .u32 z)):=by
 refine AH Tryz.func317 (by kernel_rfl) rfl fun E hE=>?_
 conv=>cbv
 rintro n9 ⟨e9,f9⟩;conv=>cbv
 rintro aS ⟨aG,f11⟩;conv=>cbv
 intro aw X;conv=>cbv
 obtain⟨aj,v⟩:=xK fun vs bl=>∃(p q:Nat) (x y:List UInt32),vs=[.one (.sl .u32 x),.one (.sl .u32 y)]/\x=AR p/\y=AR q/\p+q=a+b/\y.length<=x.length/\x.length<=17592186044416
 refine .inl ⟨[0,1],[],aj,?_,?_⟩
 ·intro vs bl hj;rw[v] at hj;obtain⟨p,q,x,y,rfl,hx,hy,an,ao,aQ⟩:=hj;conv=>cbv
  rintro aT ⟨aH,f16⟩;conv=>cbv
  intro aU aN;conv=>cbv
  refine g1 (by omega) ?_;refine⟨fun _=>⟨by omega,by omega,by show _*4<=140737488355328;omega⟩,?_⟩;intro N (O:List UInt32) L;have aF:=L.1;have A:O=List.replicate N (0:el .u32):=L.2;have aC:O.length=N:=by rw[A,List.length_replicate]
  conv=>cbv
  refine .inr ?_
  obtain⟨J0,G⟩:∃J:List AV->List AM->Nat->Prop,J=fun vs bl k=>∃(o:List UInt32) (n T i':Nat) (c i:Int),vs=[.one (.sl .u32 x),.one (.sl .u32 y),.one (.AT .u32 18 0 0 n),.one (.int .u64 c),.one (.int .i64 i)]/\
   bl=[.arr 0 .u32 o]/\(o.length=x.length+1/\n=o.length/\AS i i'/\i'<=x.length/\AS c T/\T<=1)/\
   AB (o.take i')+2^(32*i')*T=AB (x.take i')+AB (y.take i')/\k=x.length-i':=⟨_,rfl⟩
  refine⟨[0,1,5,6,7],[18],J0,⟨x.length-0,by rw[G];exact⟨O,N,0,0,0,0,rfl,rfl,⟨by rw[A,List.length_replicate];omega,by rw[A,List.length_replicate],BC 0,by omega,BC 0,by omega⟩,by simp[AB],rfl⟩⟩,?_⟩;intro vs bl aR hj;rw[G] at hj;obtain⟨o,n,T,i',c,i,rfl,rfl,⟨ho,hn,hi,aP,hc,aO⟩,hinv,ae⟩:=hj;conv=>cbv
  have ei:=hi.eq;have ec:=hc.eq;rintro aV ⟨aI,f21⟩;conv=>cbv
  intro ax Y;conv=>cbv
  cases ax <;> conv=>cbv
  ·have ar:=Ad Y;rintro b4 ⟨aM,f52⟩;conv=>cbv
   intro az aa;conv=>cbv
   have aa:=wrap_u32 aa;refine g2 (by omega) ?_;intro af aE;conv=>cbv
   obtain⟨R,C⟩:=Bm (n:=az) (by omega);have aA:=C.eq;have aB:=C.lt;refine⟨R,fun _=>⟨by show _<List.length (α:=UInt32) o;(first | omega | (simp;omega)),Bl C⟩,?_⟩;intro (r:List UInt32) (H:r=List.set (α:=UInt32) o af R);have aD:r.length=o.length:=by rw[H,List.length_set]
   conv=>cbv
   have B:n<=(r).length:=by omega
   obtain⟨av,I⟩:=xN ((Bk ((r).take n)).length);obtain⟨al,M⟩:=Dl B I;refine .inr (.inr (.inl ⟨[],.one (.AT .u32 0 0 0 av),.arr 0 .u32 r,fun _=>⟨by first | decide | simp[Bw,B4],trivial⟩,fun _=>⟨DS hE (FE B (by omega) I),rfl,rfl⟩,?_⟩));try conv=>cbv
   have ae:i'=x.length:=by omega
   have ab:AB (r.take n)=p+q:=by rw[H,hn,show af=x.length by omega,show o.length=x.length+1 by omega,D5 (by omega),DX,List.length_take,Nat.min_eq_left (by omega),show R.toNat=T by omega];rw[ae,C5 (Nat.le_refl _),C5 ao,hx,hy,BB,BB,<-hx] at hinv;exact hinv
   exact fA ⟨⟨rfl,.inl ⟨_,rfl,by omega,congrArg _ (by rw[List.drop_zero,M,ab,an,hz])⟩,trivial⟩,trivial⟩ rfl (by simp)
  have ar:=Ae Y;refine .inr ?_;obtain⟨S,D⟩:=AG (l:=x) (i:=i') (by omega);refine⟨S,fun _=>⟨by omega,by rw[show (i).toNat=i' by omega];exact D⟩,?_⟩;try conv=>cbv
  intro aW Z;have aJ:=Z.eq;have f29:=Z.lt;conv=>cbv
  intro aX a1;conv=>cbv
  have a1:=wrap_u64 a1;intro ag a2;conv=>cbv
  have a2:=wrap_u64 a2;rintro aY ⟨aK,f34⟩;conv=>cbv
  intro ay a5;conv=>cbv
  refine .inr ?_;cases ay <;> conv=>cbv
  ·have au:=Ad a5;intro Q t;conv=>cbv
   have t:=wrap_u32 t;refine g2 (by omega) ?_;intro F ad;conv=>cbv
   obtain⟨j,f⟩:=Bm (n:=Q) (by omega);have U:=f.eq;have V:=f.lt;refine⟨j,fun _=>⟨by show _<List.length (α:=UInt32) o;(first | omega | (simp;omega)),Bl f⟩,?_⟩;intro (g:List UInt32) (d:g=List.set (α:=UInt32) o F j);have W:g.length=o.length:=by rw[d,List.length_set]
   conv=>cbv
   intro h u;conv=>cbv
   refine g2 (by omega) ?_;have u:=Da (p:=4294967296) u rfl;intro P ak;conv=>cbv
   refine g1 (by omega) ?_;refine⟨x.length-(i'+1),?_,?_⟩
   ·omega
   rw[G];refine⟨g,n,h.toNat,i'+1,h,P,rfl,rfl,⟨by rw[d,List.length_set];exact ho,by rw[d,List.length_set];exact hn,⟨by omega⟩,by omega,⟨by omega⟩,by omega⟩,?_,rfl⟩;have hs:=LV (o:=o.take i') (i:=i') (xi:=S.toNat) (yi:=0) (s:=ag.toNat) (w:=j) (by rw[List.length_take];omega) hinv (by omega) (by omega);rw[d,show F=i' by omega,D5 (by omega),B6 D,C5 (l:=y) (i:=i'+1) (by omega)];rw[show h.toNat=ag.toNat/4294967296 by omega];rw[hs];rw[C5 (l:=y) (i:=i') (by omega)];omega
  have au:=Ae a5;obtain⟨ai,K⟩:=AG (l:=y) (i:=i') (by omega);refine⟨ai,fun _=>⟨by omega,by rw[show (i).toNat=i' by omega];exact K⟩,?_⟩;try conv=>cbv
  intro aZ a6;have aL:=a6.eq;have f40:=a6.lt;conv=>cbv
  intro b0 a7;conv=>cbv
  have a7:=wrap_u64 a7;intro ah a8;conv=>cbv
  have a8:=wrap_u64 a8;intro Q t;conv=>cbv
  have t:=wrap_u32 t;refine g2 (by omega) ?_;intro F ad;conv=>cbv
  obtain⟨j,f⟩:=Bm (n:=Q) (by omega);have U:=f.eq;have V:=f.lt;refine⟨j,fun _=>⟨by show _<List.length (α:=UInt32) o;(first | omega | (simp;omega)),Bl f⟩,?_⟩;intro (g:List UInt32) (d:g=List.set (α:=UInt32) o F j);have W:g.length=o.length:=by rw[d,List.length_set]
  conv=>cbv
  intro h u;conv=>cbv
  refine g2 (by omega) ?_;have u:=Da (p:=4294967296) u rfl;intro P ak;conv=>cbv
  refine g1 (by omega) ?_;refine⟨x.length-(i'+1),?_,?_⟩
  ·omega
  rw[G];refine⟨g,n,h.toNat,i'+1,h,P,rfl,rfl,⟨by rw[d,List.length_set];exact ho,by rw[d,List.length_set];exact hn,⟨by omega⟩,by omega,⟨by omega⟩,by omega⟩,?_,rfl⟩;have hs:=LV (o:=o.take i') (i:=i') (xi:=S.toNat) (yi:=ai.toNat) (s:=ah.toNat) (w:=j) (by rw[List.length_take];omega) hinv (by omega) (by omega);rw[d,show F=i' by omega,D5 (by omega),B6 D,B6 K];rw[show h.toNat=ah.toNat/4294967296 by omega];rw[hs]
 cases aw <;> conv=>cbv
 ·have aq:=Ad X;rw[v];exact⟨a,b,_,_,rfl,hl,hm,rfl,by omega,by omega⟩
 have aq:=Ae X;rw[v];exact⟨b,a,_,_,rfl,hm,hl,Nat.add_comm _ _,by omega,by omega⟩
end Go.Abs
namespace Go.Abs
open Go.RowKit
variable {b1 b2 b3:Bool} {l l1 l2 l3:List UInt32} {x y:Int}
theorem Iu {i:Nat} {x:UInt32} (h:l[i]? =some x):l.getD i 0=x:=by rw[List.getD_eq_getElem?_getD,h];rfl
theorem ZY:Bu (x-y)=BT x y:=by
 unfold BT Bu
 split <;> split <;> (try split) <;> (try split) <;> omega
theorem Q7 {m z:List UInt32} {a b:Nat} (hl:AB l=a) (hm:AB m=b) (hz:z=AR (a*b)) (sl:l.length<=17592186044416) (sm:m.length<=17592186044416):CF 309 [.one (.sl .u32 l),.one (.sl .u32 m)] (.one (.sl .u32 z)):=by
 refine AH Tryz.func309 (by kernel_rfl) rfl fun E hE=>?_
 conv=>cbv
 rintro n10 ⟨e10,f10⟩;conv=>cbv
 rintro n12 ⟨e12,f12⟩;conv=>cbv
 intro n13 h13;conv=>cbv
 refine g1 (by omega) ?_;refine⟨fun _=>⟨by omega,by omega,by show _*4<=140737488355328;omega⟩,?_⟩;intro k14 (l14:List UInt32) ql14;have hk14:=ql14.1;have hl14:l14=List.replicate k14 (0:el .u32):=ql14.2;have gl14:l14.length=k14:=by rw[hl14,List.length_replicate]
 conv=>cbv
 refine .inr ?_
 obtain⟨J0,hJ0⟩:∃J:List AV->List AM->Nat->Prop,J=fun vs bl k=>∃(o:List UInt32) (n i':Nat) (i:Int),vs=[.one (.sl .u32 l),.one (.sl .u32 m),.one (.AT .u32 14 0 0 n),.one (.int .i64 i)]/\
  bl=[.arr 0 .u32 o]/\(o.length=l.length+m.length/\n=o.length/\AS i i'/\i'<=l.length)/\
  AB (o.take (i'+m.length))=AB (l.take i')*AB m/\k=l.length-i':=⟨_,rfl⟩
 refine⟨[0,1,5,6],[14],J0,⟨l.length-0,by rw[hJ0];exact⟨l14,k14,0,0,rfl,rfl,⟨by rw[hl14,List.length_replicate];omega,by rw[hl14,List.length_replicate],BC 0,by omega⟩,by rw[hl14,List.take_replicate,Gh];simp[AB],rfl⟩⟩,?_⟩;intro vs bl kk0 hj;rw[hJ0] at hj;obtain⟨o,n,i',i,rfl,rfl,⟨ho,hn,hi,hiL⟩,hinv,hk0⟩:=hj;conv=>cbv
 have ei:=hi.eq;rintro n17 ⟨e17,f17⟩;conv=>cbv
 intro n18 h18;conv=>cbv
 cases n18 <;> conv=>cbv
 ·have k18:=Ad h18;have hnl66:n<=(o).length:=by omega
  obtain⟨m66,hm66⟩:=xN ((Bk ((o).take n)).length);obtain⟨hle66,htk66⟩:=Dl hnl66 hm66;refine .inr (.inr (.inl ⟨[],.one (.AT .u32 0 0 0 m66),.arr 0 .u32 o,fun _=>⟨by first | decide | simp[Bw,B4],trivial⟩,fun _=>⟨DS hE (FE hnl66 (by omega) hm66),rfl,rfl⟩,?_⟩));try conv=>cbv
  have hfin:AB (o.take n)=a*b:=by rw[show i'=l.length by omega,List.take_length,hl,hm,<-ho,List.take_length] at hinv;rw[hn,List.take_length,hinv]
  exact fA ⟨⟨rfl,.inl ⟨_,rfl,by omega,congrArg _ (by rw[List.drop_zero,htk66,hfin,hz])⟩,trivial⟩,trivial⟩ rfl (by simp)
 have k18:=Ae h18;refine .inr ?_;refine .inr ?_
 obtain⟨J1,hJ1⟩:∃J:List AV->List AM->Nat->Prop,J=fun vs bl k=>∃(o1:List UInt32) (n1 c' k':Nat) (c i1:Int),vs=[.one (.sl .u32 l),.one (.sl .u32 m),.one (.AT .u32 14 0 0 n1),.one (.int .i64 i),.one (.int .u64 c),.one (.int .i64 i1)]/\
  bl=[.arr 0 .u32 o1]/\(o1.length=l.length+m.length/\n1=o1.length/\AS i1 k'/\k'<=m.length/\AS c c'/\c'<4294967296)/\
  AB (o1.take (i'+m.length))+2^(32*(i'+k'))*c'=AB (l.take i')*AB m+(l.getD i' 0).toNat*2^(32*i')*AB (m.take k')/\k=m.length-k':=⟨_,rfl⟩
 refine⟨[0,1,5,6,7,8],[14],J1,⟨m.length-0,by rw[hJ1];exact⟨o,n,0,0,0,0,rfl,rfl,⟨ho,hn,BC 0,by omega,BC 0,by omega⟩,by rw[hinv];simp[AB],rfl⟩⟩,?_⟩;intro vs bl kk1 hj;rw[hJ1] at hj;obtain⟨o1,n1,c',k',c,i1,rfl,rfl,⟨ho1,hn1,hi1,hiL1,hc,hc1⟩,hinv1,hk1⟩:=hj;conv=>cbv
 have ei1:=hi1.eq;have ec:=hc.eq;rintro n23 ⟨e23,f23⟩;conv=>cbv
 intro n24 h24;conv=>cbv
 cases n24 <;> conv=>cbv
 ·have k24:=Ad h24;rintro n60 ⟨e60,f60⟩;conv=>cbv
  intro n61 h61;conv=>cbv
  refine g1 (by omega) ?_;intro n63 h63;conv=>cbv
  have h63:=wrap_u32 h63;refine g2 (by omega) ?_;intro j64 hj64;conv=>cbv
  obtain⟨w64,hw64⟩:=Bm (n:=n63) (by omega);have ew64:=hw64.eq;have fw64:=hw64.lt;refine⟨w64,fun _=>⟨by show _<List.length (α:=UInt32) o1;(first | omega | (simp;omega)),Bl hw64⟩,?_⟩;intro (l64:List UInt32) (hl64:l64=List.set (α:=UInt32) o1 j64 w64);have gl64:l64.length=o1.length:=by rw[hl64,List.length_set]
  conv=>cbv
  intro n20 h20;conv=>cbv
  refine g1 (by omega) ?_;refine⟨l.length-(i'+1),?_,?_⟩
  ·omega
  rw[hJ0];refine⟨l64,n1,i'+1,n20,rfl,rfl,⟨by rw[hl64,List.length_set];exact ho1,by rw[hl64,List.length_set];exact hn1,⟨by omega⟩,by omega⟩,?_,rfl⟩;obtain⟨ai,hai⟩:=AG (l:=l) (i:=i') (by omega);have hk:k'=m.length:=by omega
  have hlen:i'+m.length<o1.length:=by omega
  rw[hl64,show i'+1+m.length=i'+m.length+1 by omega,show j64=i'+m.length by omega,D5 hlen,DX,List.length_take,Nat.min_eq_left (by omega),show w64.toNat=c' by omega];rw[hk,Iu hai] at hinv1;rw[hinv1,List.take_length,B6 hai]
  grind
 have k24:=Ae h24;refine .inr ?_;intro n31 h31;conv=>cbv
 refine g1 (by omega) ?_;refine g2 (by omega) ?_;intro j32 hj32;conv=>cbv
 obtain⟨x33,hx33⟩:=AG (l:=o1) (i:=j32) (by omega);refine⟨x33,fun _=>hx33,?_⟩;try conv=>cbv
 intro n33 h33;have e33:=h33.eq;have f33:=h33.lt;conv=>cbv
 intro n34 h34;conv=>cbv
 have h34:=wrap_u64 h34;intro n35 h35;conv=>cbv
 have h35:=wrap_u64 h35;obtain⟨x38,hx38⟩:=AG (l:=l) (i:=i') (by omega);refine⟨x38,fun _=>⟨by omega,by rw[show (i).toNat=i' by omega];exact hx38⟩,?_⟩;try conv=>cbv
 intro n39 h39;have e39:=h39.eq;have f39:=h39.lt;conv=>cbv
 intro n40 h40;conv=>cbv
 have h40:=wrap_u64 h40;obtain⟨x43,hx43⟩:=AG (l:=m) (i:=k') (by omega);refine⟨x43,fun _=>⟨by omega,by rw[show (i1).toNat=k' by omega];exact hx43⟩,?_⟩;try conv=>cbv
 intro n44 h44;have e44:=h44.eq;have f44:=h44.lt;conv=>cbv
 intro n45 h45;conv=>cbv
 have h45:=wrap_u64 h45;have ep:n40*n45=((x38.toNat*x43.toNat:Nat):Int):=by rw[Int.natCast_mul];congr 1 <;> omega
 have bp:x38.toNat*x43.toNat<=4294967295*4294967295:=Nat.mul_le_mul (by omega) (by omega);intro n46 h46;conv=>cbv
 have h46:=wrap_u64 h46;intro n47 h47;conv=>cbv
 have h47:=wrap_u64 h47;refine g2 rfl ?_;intro C1 h51;conv=>cbv
 refine g1 (by omega) ?_;intro Cg h53;conv=>cbv
 have h53:=wrap_u32 h53;refine g2 (by omega) ?_;intro j54 hj54;conv=>cbv
 obtain⟨w54,hw54⟩:=Bm (n:=Cg) (by omega);have ew54:=hw54.eq;have fw54:=hw54.lt;refine⟨w54,fun _=>⟨by show _<List.length (α:=UInt32) o1;(first | omega | (simp;omega)),Bl hw54⟩,?_⟩;intro (l54:List UInt32) (hl54:l54=List.set (α:=UInt32) o1 j54 w54);have gl54:l54.length=o1.length:=by rw[hl54,List.length_set]
 conv=>cbv
 intro n56 h56;conv=>cbv
 refine g2 (by omega) ?_;have h56:=Da (p:=4294967296) h56 rfl;intro n26 h26;conv=>cbv
 refine g1 (by omega) ?_;refine⟨m.length-(k'+1),?_,?_⟩
 ·omega
 rw[hJ1];refine⟨l54,n1,n56.toNat,k'+1,n56,n26,rfl,rfl,⟨by rw[hl54,List.length_set];exact ho1,by rw[hl54,List.length_set];exact hn1,⟨by omega⟩,by omega,⟨by omega⟩,by omega⟩,?_,rfl⟩;have hj:j54=i'+k':=by omega
 have hj2:j32=i'+k':=by omega
 rw[hj2] at hx33;rw[Iu hx38] at hinv1;rw[hl54,hj,B6 hx43,show i'+(k'+1)=i'+k'+1 by omega,Iu hx38];refine Pw (q:=x33) (xi:=x38.toNat) (yk:=x43.toNat) (old:=x33.toNat) (c:=c') rfl (by omega) hx33 rfl hinv1 ?_ rfl;rw[ep] at h46;omega
theorem DC (k:Ag x b1 l1) (o:Ag y b2 l2) (p:Ag (x*y) b3 l3) (s1:l1.length<=17592186044416) (s2:l2.length<=17592186044416):CF 269 [.agg [.bool b1,.sl .u32 l1],.agg [.bool b2,.sl .u32 l2]] (.agg [.bool b3,.sl .u32 l3]):=by
 refine AH Tryz.func269 (by kernel_rfl) rfl fun E i=>?_
 conv=>cbv
 refine cL i (Gz k) ⟨t2,trivial⟩ ?_;try conv=>cbv
 refine cL i (Gz o) ⟨t2,trivial⟩ ?_;try conv=>cbv
 refine g2 rfl ?_;intro q j;conv=>cbv
 obtain⟨s,f⟩:=xU (AR (x.natAbs*y.natAbs));refine cL i (Q7 k.nat o.nat f s1 s2) t2 ?_;try conv=>cbv
 obtain⟨g,h,d⟩:=Ac (x*y);refine cL (r:= .agg [.bool g,.sl .u32 h]) i (FR (by rw[f,BB,j];exact To k.neg o.neg) d) t2 ?_;try conv=>cbv
 refine g2 rfl ?_;exact fA ⟨⟨rfl,congrArg _ ((d.uniq p rfl).1.symm),congrArg _ ((d.uniq p rfl).2.symm),trivial⟩,trivial⟩ rfl (by simp)
theorem IS (s:Ag x b1 l1) (t:Ag y b2 l2) (u:Ag (x+y) b3 l3) (s1:l1.length<=17592186044416) (s2:l2.length<=17592186044416):CF 280 [.agg [.bool b1,.sl .u32 l1],.agg [.bool b2,.sl .u32 l2]] (.agg [.bool b3,.sl .u32 l3]):=by
 refine AH Tryz.func280 (by kernel_rfl) rfl fun E j=>?_
 conv=>cbv
 refine cL j (Gz s) ⟨t2,trivial⟩ ?_;try conv=>cbv
 refine cL j (Gz t) ⟨t2,trivial⟩ ?_;try conv=>cbv
 refine g2 rfl ?_;intro H v;conv=>cbv
 cases H <;> conv=>cbv
 ·have k:=Rl v;obtain⟨L,f⟩:=xI (BT x.natAbs y.natAbs);refine cL j (LA s.BI t.BI f) t2 ?_;try conv=>cbv
  intro I w;conv=>cbv
  cases I <;> conv=>cbv
  ·have d:=EC w;obtain⟨K,q⟩:=xU (AR (y.natAbs-x.natAbs));refine cL (r:= .one (.sl .u32 K)) j (NV t.BI s.BI q (by rw[f] at d;have:=G9 d;omega) s2) t2 ?_;try conv=>cbv
   obtain⟨C,G,i⟩:=Ac (x+y);refine cL (r:= .agg [.bool C,.sl .u32 G]) j (FR (by rw[q,BB];rw[f] at d;exact LD s.neg t.neg k (by have:=G9 d;omega)) i) t2 ?_;try conv=>cbv
   refine g2 rfl ?_;exact fA ⟨⟨rfl,congrArg _ ((i.uniq u rfl).1.symm),congrArg _ ((i.uniq u rfl).2.symm),trivial⟩,trivial⟩ rfl (by simp)
  have d:=ED w;obtain⟨J,p⟩:=xU (AR (x.natAbs-y.natAbs));refine cL (r:= .one (.sl .u32 J)) j (NV s.BI t.BI p (by rw[f] at d;have:=G8 d;omega) s1) t2 ?_;try conv=>cbv
  obtain⟨B,F,h⟩:=Ac (x+y);refine cL (r:= .agg [.bool B,.sl .u32 F]) j (FR (by rw[p,BB,Int.add_comm];rw[f] at d;exact LD t.neg s.neg (Ne.symm k) (by have:=G8 d;omega)) h) t2 ?_;try conv=>cbv
  refine g2 rfl ?_;exact fA ⟨⟨rfl,congrArg _ ((h.uniq u rfl).1.symm),congrArg _ ((h.uniq u rfl).2.symm),trivial⟩,trivial⟩ rfl (by simp)
 have k:=Ro v;obtain⟨M,o⟩:=xU (AR (x.natAbs+y.natAbs));refine cL j (YH s.BI t.BI o s1 s2) t2 ?_;try conv=>cbv
 obtain⟨A,D,g⟩:=Ac (x+y);refine cL (r:= .agg [.bool A,.sl .u32 D]) j (FR (by rw[o,BB];exact add_same s.neg (k.trans t.neg)) g) t2 ?_;try conv=>cbv
 refine g2 rfl ?_;exact fA ⟨⟨rfl,congrArg _ ((g.uniq u rfl).1.symm),congrArg _ ((g.uniq u rfl).2.symm),trivial⟩,trivial⟩ rfl (by simp)
theorem Qs (o:Ag x b1 l1) (j:Ag y b2 l2) (k:Ag (x-y) b3 l3) (s1:l1.length<=17592186044416) (s2:l2.length<=17592186044416):CF 345 [.agg [.bool b1,.sl .u32 l1],.agg [.bool b2,.sl .u32 l2]] (.agg [.bool b3,.sl .u32 l3]):=by
 refine AH Tryz.func345 (by kernel_rfl) rfl fun E i=>?_
 conv=>cbv
 obtain⟨p,q,d⟩:=Ac (-y);refine cL i (Je j d) ⟨t2,trivial⟩ ?_;try conv=>cbv
 obtain⟨g,h,f⟩:=Ac (x-y);refine cL (r:= .agg [.bool g,.sl .u32 h]) i (IS o d f s1 (by rw[d.BI,Int.natAbs_neg,<-j.BI];exact s2)) ⟨t2,t2,trivial⟩ ?_;try conv=>cbv
 refine g2 rfl ?_;exact fA ⟨⟨rfl,congrArg _ ((f.uniq k rfl).1.symm),congrArg _ ((f.uniq k rfl).2.symm),trivial⟩,trivial⟩ rfl (by simp)
theorem XU (i:Ag x b1 l1) (j:Ag y b2 l2) {c:Int} (h:c=BT x y) (s1:l1.length<=17592186044416) (s2:l2.length<=17592186044416):CF 360 [.agg [.bool b1,.sl .u32 l1],.agg [.bool b2,.sl .u32 l2]] (.one (.int .i64 c)):=by
 refine AH Tryz.func360 (by kernel_rfl) rfl fun E g=>?_
 conv=>cbv
 obtain⟨k,o,f⟩:=Ac (x-y);refine cL g (Qs i j f s1 s2) ⟨t2,t2,trivial⟩ ?_;try conv=>cbv
 obtain⟨p,d⟩:=xI (Bu (x-y));refine cL g (IT f d) ⟨t2,trivial⟩ ?_;try conv=>cbv
 exact fA ⟨⟨rfl,congrArg _ (by rw[h,d,ZY]),trivial⟩,trivial⟩ rfl (by simp)
end Go.Abs
