/- Part 15 of a proof. Conditions: each theorem's own. -/
import Derived.Test.YtmhbikooakmagaaGreatRk13
set_option linter.all false
set_option maxHeartbeats 8000000
set_option maxRecDepth 20000
open Go.Proofs
namespace Go.Abs
open Go.RowKit
variable {a n:Nat} {b c:Bool} {l m z:List UInt32} {x:Int}
theorem mT {w:List UInt32} (j:x= -(AE l:Int)) (hw:w=AP (AE l)) (i:c=true↔0<w.length):Ad x c w:=by
 by_cases d:AE l=0
 ·have h:w=[]:=by rw[hw,Er.2 d]
  have f:c=false:=by
   cases c with
   | false=>rfl
   | true=>have:=i.1 rfl;rw[h] at this;simp at this
  subst f;exact .val hw.symm (by rw[j,d];simp) (fun _=>rfl)
 have g:c=true:=i.2 (List.length_pos_iff.2 (fun e=>d (Er.1 (by rw[<-hw];exact e))));subst g;exact .val hw.symm (by rw[j];rfl) (fun e=>absurd e d)
theorem I5 (P:AE l=n) (B:z=AP n):CF 323 [.one (.sl .u32 l)] (.one (.sl .u32 z)):=by
 have B:B4 l=z:=by rw[B,<-P,Ky]
 refine AJ Tryz.func323 fun E X=>?_
 conv=>cbv
 refine .inr ?_;obtain⟨I,p⟩:=xJ fun vs J k=>∃m:List UInt32,vs=[.one (.sl .u32 m)]/\B4 m=z/\k=m.length
 refine⟨[],[0],[],I,⟨l.length,by rw[p];exact⟨l,rfl,B,rfl⟩⟩,?_⟩;intro vs J R G;rw[p] at G;obtain⟨m,rfl,q,O⟩:=G;conv=>cbv
 rintro n4 ⟨V,f4⟩;conv=>cbv
 intro U D;conv=>cbv
 cases U <;> conv=>cbv
 ·have Q:=Bq D;have w:m=[]:=List.eq_nil_of_length_eq_zero (by omega);exact AD ⟨⟨rfl,congrArg _ (by rw[<-q,w];rfl),trivial⟩,trivial⟩
 have Q:=Br D;rintro Y ⟨W,f9⟩;conv=>cbv
 intro f M;conv=>cbv
 refine AI ?_;obtain⟨g,d⟩:=AK (l:=m) (i:=(f).toNat) (by omega);refine⟨g,fun _=>⟨by omega,d⟩,?_⟩;try conv=>cbv
 intro T o;have K:=o.eq;have f12:=o.lt;conv=>cbv
 intro C s;conv=>cbv
 cases C <;> conv=>cbv
 ·have t:=Ah s;have A:g≠0:=fun h=>by subst h;exact t o.eq
  have v:m=m.take (f).toNat++[g]:=by have:=Cg d;rw[List.take_of_length_le (by omega)] at this;exact this
  exact AD ⟨⟨rfl,congrArg _ (by rw[<-q,v,JV A]),trivial⟩,trivial⟩
 have t:=Aj s;refine .inr ?_;rintro n17 ⟨L,f17⟩;conv=>cbv
 intro n18 N;conv=>cbv
 refine AI ?_;intro S H;conv=>cbv
 refine AH ?_;intro u F;conv=>cbv
 intro r j;conv=>cbv
 refine⟨r.length,?_,?_⟩
 ·rw[j];simp;omega
 rw[p];have el:r=m.take (f).toNat:=by rw[j,show u=(f).toNat by omega];simp
 refine⟨r,rfl,?_,rfl⟩;obtain rfl:g=0:=UInt32.toNat_inj.1 (by show _=0;omega)
 have v:m=m.take (f).toNat++[0]:=by
  have:=Cg d;rw[List.take_of_length_le (by omega)] at this;exact this
 rw[el,<-q];conv=>rhs;rw[v]
 rw[Is]
theorem F6 {m:Nat} (S:n<=l.length) (hl:l.length<=140737488355328) (hm:m=(B4 (l.take n)).length):GN Tryz.prog 323 (.AN .u32 0 0 0 n) (.arr 0 .u32 l) [] (.one (.AN .u32 0 0 0 m)) (.arr 0 .u32 l):=by
 refine LS Tryz.func323 (by kernel_rfl) rfl fun E hE=>?_
 conv=>cbv
 refine .inr ?_;obtain⟨J,j⟩:=xJ fun vs B k=>∃q:Nat,vs=[.one (.AN .u32 0 0 0 q)]/\B=[.arr 0 .u32 l]/\q<=l.length/\m=(B4 (l.take q)).length/\k=q
 refine⟨[],[0],[0],J,⟨n,by rw[j];exact⟨n,rfl,rfl,S,hm,rfl⟩⟩,?_⟩;intro vs B U G;rw[j] at G;obtain⟨q,rfl,rfl,hq,o,R⟩:=G;conv=>cbv
 intro n4 P;have Y:=P.eq;conv=>cbv
 intro X C;conv=>cbv
 cases X <;> conv=>cbv
 ·have T:=Bq C;refine⟨fun _=>⟨⟨⟨rfl,.inr (.inr ⟨rfl,rfl,congrArg (AC.AN .u32 0 0 0) (by rw[o,show q=0 by omega];rfl)⟩),trivial⟩,trivial⟩,rfl,by simp⟩,fun _=>rfl⟩
 have T:=Br C;intro n9 Q;have Z:=Q.eq;conv=>cbv
 intro V N;conv=>cbv
 refine AI ?_;refine AH ?_;intro p H;conv=>cbv
 obtain⟨r,d⟩:=AK (l:=l) (i:=p) (by omega);refine⟨r,fun _=>d,?_⟩;try conv=>cbv
 intro W g;have L:=g.eq;have f12:=g.lt;conv=>cbv
 intro w s;conv=>cbv
 cases w <;> conv=>cbv
 ·have t:=Ah s;have v:r≠0:=fun h=>by subst h;exact t g.eq
  refine⟨fun _=>⟨⟨⟨rfl,.inr (.inr ⟨rfl,rfl,congrArg (AC.AN .u32 0 0 0) (by rw[o,show q=p+1 by omega,Cg d,JV v,List.length_append,List.length_take];simp;omega)⟩),trivial⟩,trivial⟩,rfl,by simp⟩,fun _=>rfl⟩
 have t:=Aj s;refine .inr ?_;intro n17 u;have M:=u.eq;conv=>cbv
 intro n18 O;conv=>cbv
 refine AI ?_;refine AH ?_;intro K D;conv=>cbv
 rintro A f ⟨I,F⟩;conv=>cbv
 refine⟨f,?_,?_⟩
 ·omega
 rw[j];obtain rfl:A=0:=by omega
 refine⟨f,rfl,rfl,by omega,?_,rfl⟩;obtain rfl:r=0:=UInt32.toNat_inj.1 (by show _=0;omega);rw[o,show q=f+1 by omega,Cg (x:=0) (by rw[show f=p by omega];exact d),Is]
theorem GU {n:Bool} (j:x=if n=true then -(AE l:Int) else AE l) (g:Ad x b z):CF 251 [.one (.bool n),.one (.sl .u32 l)] (.agg (BD b z)):=by
 refine AJ Tryz.func251 fun E p=>?_
 conv=>cbv
 obtain⟨k,d⟩:=xU (AP (AE l));refine AB p (I5 rfl d) ?_;conv=>cbv
 cases n <;> conv=>cbv
 ·have f:Ad x false k:= .val d.symm j (fun _=>rfl);exact AD ⟨⟨rfl,congrArg _ ((f.uniq g rfl).1.symm),congrArg _ ((f.uniq g rfl).2.symm),trivial⟩,trivial⟩
 rintro q ⟨o,f10⟩;conv=>cbv
 intro i h;conv=>cbv
 have f:Ad x i k:=mT (by rw[j];rfl) d (by rw[h,decide_eq_true_eq];omega);exact AD ⟨⟨rfl,congrArg _ ((f.uniq g rfl).1.symm),congrArg _ ((f.uniq g rfl).2.symm),trivial⟩,trivial⟩
theorem LJ {n:Int} {k:Nat} (B:AO n k) (H:k<18446744073709551616) (C:z=AP k):CF 299 [.one (.int .u64 n)] (.one (.sl .u32 z)):=by
 have G:=B.eq;refine AJ Tryz.func299 fun E A=>?_
 conv=>cbv
 intro n4 t;conv=>cbv
 have t:=wrap_u32 t;intro I u;conv=>cbv
 refine AH ?_;have u:=D8 (p:=4294967296) u rfl;intro F v;conv=>cbv
 have v:=wrap_u32 v;obtain⟨g,d⟩:=B7 (n:=n4) (by omega);have o:=d.eq;have r:=d.lt;obtain⟨h,f⟩:=B7 (n:=F) (by omega);have q:=f.eq;have s:=f.lt;refine⟨[g,h],fun _=>⟨rfl,by decide,rfl,⟨rfl,B5 d,⟨rfl,B5 f,trivial⟩⟩⟩,.inl ?_⟩;try conv=>cbv
 obtain⟨D,i⟩:=xN ((B4 ([g,h].take 2)).length);obtain⟨w,j⟩:=ER (by simp) i;refine .inr (.inr (.inl ⟨[],.one (.AN .u32 0 0 0 D),.arr 0 .u32 [g,h],fun _=>⟨by first | decide | simp[Bt,B3],trivial⟩,fun _=>⟨Dm A (F6 (by simp) (by simp) i),rfl,rfl⟩,?_⟩));try conv=>cbv
 exact AD ⟨⟨rfl,.inl ⟨_,rfl,by simp;omega,congrArg _ (by rw[List.drop_zero,j,C];congr 1;simp[AE];omega)⟩,trivial⟩,trivial⟩
theorem M9 (D: -9223372036854775808<=x/\x<9223372036854775808) (q:Ad x b z):CF 225 [.one (.int .i64 x)] (.agg (BD b z)):=by
 refine AJ Tryz.func225 fun E p=>?_
 conv=>cbv
 intro n4 u;conv=>cbv
 cases n4 <;> conv=>cbv
 ·have A:=AW u;intro B h;conv=>cbv
  have h:=wrap_u64 h;obtain⟨C,f⟩:=xU (AP x.natAbs);refine AB p (LJ (AO.of (k:=x.natAbs) (by omega)) (by omega) f) ?_;conv=>cbv
  obtain⟨j,o,d⟩:=Ac (x);refine AB (r:= .agg [.bool j,.sl .u32 o]) p (GU (n:=false) (by rw[f,Az];simp;omega) d) ?_;try conv=>cbv
  exact AD ⟨⟨rfl,congrArg _ ((d.uniq q rfl).1.symm),congrArg _ ((d.uniq q rfl).2.symm),trivial⟩,trivial⟩
 have A:=AY u;intro F v;conv=>cbv
 have v:=wrap_u64 v;intro G w;conv=>cbv
 have w:=wrap_u64 w;obtain⟨H,i⟩:=xU (AP x.natAbs);refine AB p (LJ (AO.of (k:=x.natAbs) (by omega)) (by omega) i) ?_;conv=>cbv
 obtain⟨s,t,g⟩:=Ac (x);refine AB (r:= .agg [.bool s,.sl .u32 t]) p (GU (n:=true) (by rw[i,Az];simp;omega) g) ?_;try conv=>cbv
 exact AD ⟨⟨rfl,congrArg _ ((g.uniq q rfl).1.symm),congrArg _ ((g.uniq q rfl).2.symm),trivial⟩,trivial⟩
theorem cW (h:x=if b=true then -(AE l:Int) else AE l) (f:Ad x c z):CF 250 [.agg (BD b l)] (.agg (BD c z)):=by
 refine AJ Tryz.func250 fun E g=>?_
 conv=>cbv
 obtain⟨i,j,d⟩:=Ac (x);refine AB g (GU h d) ?_;conv=>cbv
 exact AD ⟨⟨rfl,congrArg _ ((d.uniq f rfl).1.symm),congrArg _ ((d.uniq f rfl).2.symm),trivial⟩,trivial⟩
theorem H6 (d:Ad x b l):CF 250 [.agg (BD b l)] (.agg (BD b l)):=cW d.E3 d
theorem LH (k:Ad x b l) (h:Ad (-x) c z):CF 297 [.agg (BD b l)] (.agg (BD c z)):=by
 refine AJ Tryz.func297 fun E j=>?_
 conv=>cbv
 intro o i;conv=>cbv
 obtain⟨f,g,d⟩:=Ac (-x);refine AB (r:= .agg [.bool f,.sl .u32 g]) j (GU (by rw[i];exact Zf k.E3) d) ?_;try conv=>cbv
 exact AD ⟨⟨rfl,congrArg _ ((d.uniq h rfl).1.symm),congrArg _ ((d.uniq h rfl).2.symm),trivial⟩,trivial⟩
theorem I3 {c:Int} (d:Ad x b l) (h:c=CE x):CF 248 [.agg (BD b l)] (.one (.int .i64 c)):=by
 refine AJ Tryz.func248 fun E k=>?_
 conv=>cbv
 refine AB k (H6 d) ?_;conv=>cbv
 rintro p ⟨f,f7⟩;conv=>cbv
 intro o j;conv=>cbv
 cases o <;> conv=>cbv
 ·have i:=Ah j;cases b <;> conv=>cbv
  ·have g:AE l≠0:=fun e=>by rw[d.BC] at f;have:=d.nat;rw[e] at this;rw[<-this] at f;exact i f
   exact AD ⟨⟨rfl,congrArg _ (by rw[h,Ow d.E3 g];rfl),trivial⟩,trivial⟩
  have g:AE l≠0:=fun e=>by rw[d.BC] at f;have:=d.nat;rw[e] at this;rw[<-this] at f;exact i f
  exact AD ⟨⟨rfl,congrArg _ (by rw[h,Ow d.E3 g];rfl),trivial⟩,trivial⟩
 have i:=Aj j;have g:AE l=0:=by rw[List.eq_nil_of_length_eq_zero (by omega:l.length=0)];rfl
 exact AD ⟨⟨rfl,congrArg _ (by rw[h,d.E3,g];unfold CE;simp),trivial⟩,trivial⟩
theorem NH {b:Nat} {c:Int} (t:l=AP a) (hm:m=AP b) (N:c=BV a b):CF 363 [.one (.sl .u32 l),.one (.sl .u32 m)] (.one (.int .i64 c)):=by
 refine AJ Tryz.func363 fun E hE=>?_
 conv=>cbv
 rintro n7 ⟨e7,f7⟩;conv=>cbv
 rintro n9 ⟨e9,f9⟩;conv=>cbv
 intro V D;conv=>cbv
 cases V <;> conv=>cbv
 ·have Q:=Co D;rintro n17 ⟨a1,f17⟩;conv=>cbv
  intro n18 a7;conv=>cbv
  refine AI ?_;refine .inr ?_;obtain⟨W,s⟩:=xJ fun vs X k=>∃(j:Int) (k':Nat),vs=[.one (.sl .u32 l),.one (.sl .u32 m),.one (.int .i64 j)]/\(AO (j+1) k'/\k'<=l.length/\l.length=m.length/\AE (l.drop k')=AE (m.drop k'))/\k=k'
  refine⟨[],[0,1,5],[],W,⟨l.length,by rw[s];exact⟨n18,l.length,rfl,⟨⟨by omega⟩,by omega,by omega,by rw[List.drop_length,show l.length=m.length by omega,List.drop_length]⟩,rfl⟩⟩,?_⟩;intro vs X ad P;rw[s] at P;obtain⟨j,k',rfl,⟨P,aa,u,O⟩,ab⟩:=P;conv=>cbv
  have ej:=P.eq;intro n20 G;conv=>cbv
  cases n20 <;> conv=>cbv
  ·have S:=EI G;have hk:k'=0:=by omega
   have he:a=b:=by rw[hk] at O;simpa [t,hm,Az] using O
   exact AD ⟨⟨rfl,congrArg _ (by rw[N,he];simp[BV]),trivial⟩,trivial⟩
  have S:=EJ G;refine .inr ?_;obtain⟨g,o⟩:=AK (l:=l) (i:=(j).toNat) (by omega);refine⟨g,fun _=>⟨by omega,o⟩,?_⟩;try conv=>cbv
  intro n26 H;have C:=H.eq;have f26:=H.lt;conv=>cbv
  obtain⟨h,p⟩:=AK (l:=m) (i:=(j).toNat) (by omega);refine⟨h,fun _=>⟨by omega,p⟩,?_⟩;try conv=>cbv
  intro n30 I;have a2:=I.eq;have f30:=I.lt;conv=>cbv
  intro n31 J;conv=>cbv
  refine g2 rfl ?_;cases n31 <;> conv=>cbv
  ·have T:=AW J;obtain⟨d,q⟩:=AK (l:=l) (i:=(j).toNat) (by omega);refine⟨d,fun _=>⟨by omega,q⟩,?_⟩;try conv=>cbv
   intro n35 K;have a5:=K.eq;have f35:=K.lt;conv=>cbv
   obtain⟨f,r⟩:=AK (l:=m) (i:=(j).toNat) (by omega);refine⟨f,fun _=>⟨by omega,r⟩,?_⟩;try conv=>cbv
   intro n39 L;have a6:=L.eq;have f39:=L.lt;conv=>cbv
   intro n40 M;conv=>cbv
   refine g2 rfl ?_;cases n40 <;> conv=>cbv
   ·have U:=Bq M;intro n22 a8;conv=>cbv
    refine AI ?_;refine⟨k'-1,?_,?_⟩
    ·omega
    rw[s];obtain⟨i',rfl⟩:∃i',k'=i'+1:=⟨k'-1,by omega⟩
    have e3:l[i']? =some g:=by rw[<-o];congr 1;omega
    have e4:m[i']? =some h:=by rw[<-p];congr 1;omega
    have A:l[i']? =some d:=by rw[<-q];congr 1;omega
    have B:m[i']? =some f:=by rw[<-r];congr 1;omega
    obtain rfl:d=g:=Option.some.inj (A.symm.trans e3);obtain rfl:f=h:=Option.some.inj (B.symm.trans e4);refine⟨n22,i',rfl,⟨⟨by omega⟩,by omega,u,?_⟩,by omega⟩;have C:d=f:=UInt32.toNat_inj.1 (by omega);subst C;exact drop_eq (i:=i') A B O
   have U:=Br M;obtain⟨i',rfl⟩:∃i',k'=i'+1:=⟨k'-1,by omega⟩
   have A:l[i']? =some d:=by rw[<-q];congr 1;omega
   have B:m[i']? =some f:=by rw[<-r];congr 1;omega
   have v:f.toNat<d.toNat:=by omega
   have w:d≠f:=fun e=>by rw[e] at v;omega
   exact AD ⟨⟨rfl,congrArg _ (by rw[N,<-Az a,<-Az b,<-t,<-hm,<-QS A B u O w];unfold BV;rw[if_neg (by omega),if_pos (by omega)]),trivial⟩,trivial⟩
  have T:=AY J;obtain⟨i',rfl⟩:∃i',k'=i'+1:=⟨k'-1,by omega⟩
  have A:l[i']? =some g:=by rw[<-o];congr 1;omega
  have B:m[i']? =some h:=by rw[<-p];congr 1;omega
  have v:g.toNat<h.toNat:=by omega
  have w:g≠h:=fun e=>by rw[e] at v;omega
  exact AD ⟨⟨rfl,congrArg _ (by rw[N,<-Az a,<-Az b,<-t,<-hm,<-QS A B u O w];unfold BV;rw[if_pos (by omega)]),trivial⟩,trivial⟩
 have Q:=Cp D;rintro ae ⟨Y,f12⟩;conv=>cbv
 rintro af ⟨Z,f14⟩;conv=>cbv
 intro n15 F;conv=>cbv
 cases n15 <;> conv=>cbv
 ·have R:=AW F;exact AD ⟨⟨rfl,congrArg _ (by rw[N,<-QR (by rw[<-t,<-hm];omega),<-t,<-hm];unfold BV;rw[if_neg (by omega),if_pos (by omega)]),trivial⟩,trivial⟩
 have R:=AY F;exact AD ⟨⟨rfl,congrArg _ (by rw[N,<-QR (by rw[<-t,<-hm];omega),<-t,<-hm];unfold BV;rw[if_pos (by omega)]),trivial⟩,trivial⟩
theorem Ps {b:Nat} (hl:l=AP a) (hm:m=AP b) (hz:z=AP (a-b)) (a6:b<=a) (sl:l.length<=17592186044416):CF 364 [.one (.sl .u32 l),.one (.sl .u32 m)] (.one (.sl .u32 z)):=by
 have a8:m.length<=l.length:=by rw[hl,hm];exact D1 a6
 refine AJ Tryz.func364 fun E hE=>?_
 conv=>cbv
 rintro ar ⟨ag,f11⟩;conv=>cbv
 refine⟨fun _=>⟨by omega,by omega,by show _*4<=140737488355328;omega⟩,?_⟩;intro O (Q:List UInt32) M;have af:=M.1;have C:Q=List.replicate O (0:el .u32):=M.2;have ae:Q.length=O:=by rw[C,List.length_replicate]
 conv=>cbv
 refine .inr ?_
 obtain⟨J0,H⟩:∃J:List AV->List AL->Nat->Prop,J=fun vs bl k=>∃(o:List UInt32) (n I i':Nat) (c i:Int),vs=[.one (.sl .u32 l),.one (.sl .u32 m),.one (.AN .u32 12 0 0 n),.one (.int .u64 c),.one (.int .i64 i)]/\
  bl=[.arr 0 .u32 o]/\(o.length=l.length/\n=o.length/\AO i i'/\i'<=l.length/\AO c I/\I<=1)/\
  AE (o.take i')+AE (m.take i')=AE (l.take i')+2^(32*i')*I/\k=l.length-i':=⟨_,rfl⟩
 refine⟨[],[0,1,5,6,7],[12],J0,⟨l.length-0,by rw[H];exact⟨Q,O,0,0,0,0,rfl,rfl,⟨by rw[C,List.length_replicate];omega,by rw[C,List.length_replicate],Al 0,by omega,Al 0,by omega⟩,by simp[AE],rfl⟩⟩,?_⟩;intro vs bl aq hj;rw[H] at hj;obtain⟨o,n,I,i',c,i,rfl,rfl,⟨ho,hn,hi,al,hc,ak⟩,hinv,an⟩:=hj;conv=>cbv
 have ei:=hi.eq;have ec:=hc.eq;rintro n15 ⟨ah,f15⟩;conv=>cbv
 intro n16 U;conv=>cbv
 cases n16 <;> conv=>cbv
 ·have aa:=AW U;have D:n<=(o).length:=by omega
  obtain⟨ad,K⟩:=xN ((B4 ((o).take n)).length);obtain⟨a7,N⟩:=ER D K;refine .inr (.inr (.inl ⟨[],.one (.AN .u32 0 0 0 ad),.arr 0 .u32 o,fun _=>⟨by first | decide | simp[Bt,B3],trivial⟩,fun _=>⟨Dm hE (F6 D (by omega) K),rfl,rfl⟩,?_⟩));try conv=>cbv
  have hk:i'=l.length:=by omega
  have Y:AE (o.take n)=a-b:=by rw[hk,DP a8,DP (Nat.le_refl _),hm,hl,Az,Az,<-hl,<-ho,List.take_length] at hinv;have ao:=CR o;generalize 2^(32*o.length)=P at *;rw[hn,List.take_length];rcases (by omega:I=0\/I=1) with e | e <;> rw[e] at hinv <;> omega
  exact AD ⟨⟨rfl,.inl ⟨_,rfl,by omega,congrArg _ (by rw[List.drop_zero,N,Y,hz])⟩,trivial⟩,trivial⟩
 have aa:=AY U;refine .inr ?_;rintro n21 ⟨ai,f21⟩;conv=>cbv
 intro n22 V;conv=>cbv
 refine .inr ?_;cases n22 <;> conv=>cbv
 ·have ab:=AW V;obtain⟨G,g⟩:=AK (l:=l) (i:=i') (by omega);refine⟨G,fun _=>⟨by omega,by rw[show (i).toNat=i' by omega];exact g⟩,?_⟩;try conv=>cbv
  intro n31 q;have a2:=q.eq;have f31:=q.lt;conv=>cbv
  intro n32 r;conv=>cbv
  have r:=wrap_u64 r;intro n33 s;conv=>cbv
  have s:=wrap_u64 s;intro n35 t;conv=>cbv
  have t:=wrap_u64 t;intro n37 u;conv=>cbv
  have u:=wrap_u64 u;intro n41 v;conv=>cbv
  have v:=wrap_u32 v;refine AH ?_;intro F Z;conv=>cbv
  obtain⟨j,f⟩:=B7 (n:=n41) (by omega);have R:=f.eq;have S:=f.lt;refine⟨j,fun _=>⟨by show _<List.length (α:=UInt32) o;(first | omega | (simp;omega)),B5 f⟩,?_⟩;intro (h:List UInt32) (d:h=List.set (α:=UInt32) o F j);have T:h.length=o.length:=by rw[d,List.length_set]
  conv=>cbv
  intro n44 A;conv=>cbv
  refine AH ?_;have A:=D8 (p:=4294967296) A rfl;intro n45 B;conv=>cbv
  have B:=wrap_u64 B;intro n18 a5;conv=>cbv
  refine AI ?_;refine⟨l.length-(i'+1),?_,?_⟩
  ·omega
  rw[H];refine⟨h,n,n45.toNat,i'+1,n45,n18,rfl,rfl,⟨by rw[d,List.length_set];exact ho,by rw[d,List.length_set];exact hn,⟨by omega⟩,by omega,⟨by omega⟩,by omega⟩,?_,rfl⟩;have hs:=KZ (w:=j) (o:=o) (i:=i') (xi:=G.toNat) (yi:=0) (FW:=I) (FX:=n45.toNat) (by omega) hinv (by omega);rw[d,show F=i' by omega,CK g,<-hs,DP (l:=m) (i:=i'+1) (by omega),DP (l:=m) (i:=i') (by omega),Nat.mul_zero]
  rfl
 have ab:=AY V;obtain⟨a1,L⟩:=AK (l:=m) (i:=i') (by omega);refine⟨a1,fun _=>⟨by omega,by rw[show (i).toNat=i' by omega];exact L⟩,?_⟩;try conv=>cbv
 intro n26 W;have aj:=W.eq;have f26:=W.lt;conv=>cbv
 intro n27 X;conv=>cbv
 have X:=wrap_u64 X;obtain⟨G,g⟩:=AK (l:=l) (i:=i') (by omega);refine⟨G,fun _=>⟨by omega,by rw[show (i).toNat=i' by omega];exact g⟩,?_⟩;try conv=>cbv
 intro n31 q;have a2:=q.eq;have f31:=q.lt;conv=>cbv
 intro n32 r;conv=>cbv
 have r:=wrap_u64 r;intro n33 s;conv=>cbv
 have s:=wrap_u64 s;intro n35 t;conv=>cbv
 have t:=wrap_u64 t;intro n37 u;conv=>cbv
 have u:=wrap_u64 u;intro n41 v;conv=>cbv
 have v:=wrap_u32 v;refine AH ?_;intro F Z;conv=>cbv
 obtain⟨j,f⟩:=B7 (n:=n41) (by omega);have R:=f.eq;have S:=f.lt;refine⟨j,fun _=>⟨by show _<List.length (α:=UInt32) o;(first | omega | (simp;omega)),B5 f⟩,?_⟩;intro (h:List UInt32) (d:h=List.set (α:=UInt32) o F j);have T:h.length=o.length:=by rw[d,List.length_set]
 conv=>cbv
 intro n44 A;conv=>cbv
 refine AH ?_;have A:=D8 (p:=4294967296) A rfl;intro n45 B;conv=>cbv
 have B:=wrap_u64 B;intro n18 a5;conv=>cbv
 refine AI ?_;refine⟨l.length-(i'+1),?_,?_⟩
 ·omega
 rw[H];refine⟨h,n,n45.toNat,i'+1,n45,n18,rfl,rfl,⟨by rw[d,List.length_set];exact ho,by rw[d,List.length_set];exact hn,⟨by omega⟩,by omega,⟨by omega⟩,by omega⟩,?_,rfl⟩;have hs:=KZ (w:=j) (o:=o) (i:=i') (xi:=G.toNat) (yi:=a1.toNat) (FW:=I) (FX:=n45.toNat) (by omega) hinv (by omega);rw[d,show F=i' by omega,CK g,<-hs,CK L]
theorem da {b:Nat} (hl:l=AP a) (hm:m=AP b) (hz:z=AP (a+b)) (sl:l.length<=17592186044416) (sm:m.length<=17592186044416):CF 362 [.one (.sl .u32 l),.one (.sl .u32 m)] (.one (.sl .u32 z)):=by
 refine AJ Tryz.func362 fun E hE=>?_
 conv=>cbv
 rintro n9 ⟨e9,f9⟩;conv=>cbv
 rintro aL ⟨az,f11⟩;conv=>cbv
 intro ao U;conv=>cbv
 obtain⟨ae,u⟩:=xK fun vs bl=>∃(p q:Nat) (x y:List UInt32),vs=[.one (.sl .u32 x),.one (.sl .u32 y)]/\x=AP p/\y=AP q/\p+q=a+b/\y.length<=x.length/\x.length<=17592186044416
 refine .inl ⟨[0,1],[],ae,?_,?_⟩
 ·intro vs bl hj;rw[u] at hj;obtain⟨p,q,x,y,rfl,hx,hy,ah,ai,aJ⟩:=hj;conv=>cbv
  rintro n16 ⟨aA,f16⟩;conv=>cbv
  intro n17 aG;conv=>cbv
  refine AI ?_;refine⟨fun _=>⟨by omega,by omega,by show _*4<=140737488355328;omega⟩,?_⟩;intro M (N:List UInt32) K;have ay:=K.1;have v:N=List.replicate M (0:el .u32):=K.2;have av:N.length=M:=by rw[v,List.length_replicate]
  conv=>cbv
  refine .inr ?_
  obtain⟨J0,F⟩:∃J:List AV->List AL->Nat->Prop,J=fun vs bl k=>∃(o:List UInt32) (n Q i':Nat) (c i:Int),vs=[.one (.sl .u32 x),.one (.sl .u32 y),.one (.AN .u32 18 0 0 n),.one (.int .u64 c),.one (.int .i64 i)]/\
   bl=[.arr 0 .u32 o]/\(o.length=x.length+1/\n=o.length/\AO i i'/\i'<=x.length/\AO c Q/\Q<=1)/\
   AE (o.take i')+2^(32*i')*Q=AE (x.take i')+AE (y.take i')/\k=x.length-i':=⟨_,rfl⟩
  refine⟨[],[0,1,5,6,7],[18],J0,⟨x.length-0,by rw[F];exact⟨N,M,0,0,0,0,rfl,rfl,⟨by rw[v,List.length_replicate];omega,by rw[v,List.length_replicate],Al 0,by omega,Al 0,by omega⟩,by simp[AE],rfl⟩⟩,?_⟩;intro vs bl aK hj;rw[F] at hj;obtain⟨o,n,Q,i',c,i,rfl,rfl,⟨ho,hn,hi,aI,hc,aH⟩,hinv,aa⟩:=hj;conv=>cbv
  have ei:=hi.eq;have ec:=hc.eq;rintro n21 ⟨aB,f21⟩;conv=>cbv
  intro n22 V;conv=>cbv
  cases n22 <;> conv=>cbv
  ·have ak:=AW V;rintro n52 ⟨aF,f52⟩;conv=>cbv
   intro aq a6;conv=>cbv
   have a6:=wrap_u32 a6;refine AH ?_;intro ab ax;conv=>cbv
   obtain⟨O,B⟩:=B7 (n:=aq) (by omega);have ar:=B.eq;have au:=B.lt;refine⟨O,fun _=>⟨by show _<List.length (α:=UInt32) o;(first | omega | (simp;omega)),B5 B⟩,?_⟩;intro (j:List UInt32) (G:j=List.set (α:=UInt32) o ab O);have aw:j.length=o.length:=by rw[G,List.length_set]
   conv=>cbv
   have A:n<=(j).length:=by omega
   obtain⟨an,H⟩:=xN ((B4 ((j).take n)).length);obtain⟨ag,L⟩:=ER A H;refine .inr (.inr (.inl ⟨[],.one (.AN .u32 0 0 0 an),.arr 0 .u32 j,fun _=>⟨by first | decide | simp[Bt,B3],trivial⟩,fun _=>⟨Dm hE (F6 A (by omega) H),rfl,rfl⟩,?_⟩));try conv=>cbv
   have aa:i'=x.length:=by omega
   have a7:AE (j.take n)=p+q:=by rw[G,hn,show ab=x.length by omega,show o.length=x.length+1 by omega,Ei (by omega),D2,List.length_take,Nat.min_eq_left (by omega),show O.toNat=Q by omega];rw[aa,DP (Nat.le_refl _),DP ai,hx,hy,Az,Az,<-hx] at hinv;exact hinv
   exact AD ⟨⟨rfl,.inl ⟨_,rfl,by omega,congrArg _ (by rw[List.drop_zero,L,a7,ah,hz])⟩,trivial⟩,trivial⟩
  have ak:=AY V;refine .inr ?_;obtain⟨P,C⟩:=AK (l:=x) (i:=i') (by omega);refine⟨P,fun _=>⟨by omega,by rw[show (i).toNat=i' by omega];exact C⟩,?_⟩;try conv=>cbv
  intro n29 W;have aC:=W.eq;have f29:=W.lt;conv=>cbv
  intro n30 X;conv=>cbv
  have X:=wrap_u64 X;intro n31 Y;conv=>cbv
  have Y:=wrap_u64 Y;rintro n34 ⟨aD,f34⟩;conv=>cbv
  intro n35 Z;conv=>cbv
  refine .inr ?_;cases n35 <;> conv=>cbv
  ·have al:=AW Z;intro n46 r;conv=>cbv
   have r:=wrap_u32 r;refine AH ?_;intro D a8;conv=>cbv
   obtain⟨h,f⟩:=B7 (n:=n46) (by omega);have R:=f.eq;have S:=f.lt;refine⟨h,fun _=>⟨by show _<List.length (α:=UInt32) o;(first | omega | (simp;omega)),B5 f⟩,?_⟩;intro (g:List UInt32) (d:g=List.set (α:=UInt32) o D h);have T:g.length=o.length:=by rw[d,List.length_set]
   conv=>cbv
   intro n49 t;conv=>cbv
   refine AH ?_;have t:=D8 (p:=4294967296) t rfl;intro n24 af;conv=>cbv
   refine AI ?_;refine⟨x.length-(i'+1),?_,?_⟩
   ·omega
   rw[F];refine⟨g,n,n49.toNat,i'+1,n49,n24,rfl,rfl,⟨by rw[d,List.length_set];exact ho,by rw[d,List.length_set];exact hn,⟨by omega⟩,by omega,⟨by omega⟩,by omega⟩,?_,rfl⟩;have hs:=NZ (o:=o.take i') (i:=i') (xi:=P.toNat) (yi:=0) (s:=n31.toNat) (w:=h) (by rw[List.length_take];omega) hinv (by omega) (by omega);rw[d,show D=i' by omega,Ei (by omega),CK C,DP (l:=y) (i:=i'+1) (by omega)];rw[show n49.toNat=n31.toNat/4294967296 by omega];rw[hs];rw[DP (l:=y) (i:=i') (by omega)];omega
  have al:=AY Z;obtain⟨ad,I⟩:=AK (l:=y) (i:=i') (by omega);refine⟨ad,fun _=>⟨by omega,by rw[show (i).toNat=i' by omega];exact I⟩,?_⟩;try conv=>cbv
  intro n40 a1;have aE:=a1.eq;have f40:=a1.lt;conv=>cbv
  intro n41 a2;conv=>cbv
  have a2:=wrap_u64 a2;intro n42 a5;conv=>cbv
  have a5:=wrap_u64 a5;intro n46 r;conv=>cbv
  have r:=wrap_u32 r;refine AH ?_;intro D a8;conv=>cbv
  obtain⟨h,f⟩:=B7 (n:=n46) (by omega);have R:=f.eq;have S:=f.lt;refine⟨h,fun _=>⟨by show _<List.length (α:=UInt32) o;(first | omega | (simp;omega)),B5 f⟩,?_⟩;intro (g:List UInt32) (d:g=List.set (α:=UInt32) o D h);have T:g.length=o.length:=by rw[d,List.length_set]
  conv=>cbv
  intro n49 t;conv=>cbv
  refine AH ?_;have t:=D8 (p:=4294967296) t rfl;intro n24 af;conv=>cbv
  refine AI ?_;refine⟨x.length-(i'+1),?_,?_⟩
  ·omega
  rw[F];refine⟨g,n,n49.toNat,i'+1,n49,n24,rfl,rfl,⟨by rw[d,List.length_set];exact ho,by rw[d,List.length_set];exact hn,⟨by omega⟩,by omega,⟨by omega⟩,by omega⟩,?_,rfl⟩;have hs:=NZ (o:=o.take i') (i:=i') (xi:=P.toNat) (yi:=ad.toNat) (s:=n42.toNat) (w:=h) (by rw[List.length_take];omega) hinv (by omega) (by omega);rw[d,show D=i' by omega,Ei (by omega),CK C,CK I];rw[show n49.toNat=n42.toNat/4294967296 by omega];rw[hs]
 cases ao <;> conv=>cbv
 ·have aj:=AW U;rw[u];exact⟨a,b,_,_,rfl,hl,hm,rfl,by omega,by omega⟩
 have aj:=AY U;rw[u];exact⟨b,a,_,_,rfl,hm,hl,Nat.add_comm _ _,by omega,by omega⟩
end Go.Abs
namespace Go.Abs
open Go.RowKit
variable {b1 b2 b3:Bool} {l l1 l2 l3:List UInt32} {x y:Int}
theorem KL {i:Nat} {x:UInt32} (h:l[i]? =some x):l.getD i 0=x:=by rw[List.getD_eq_getElem?_getD,h];rfl
theorem fw:CE (x-y)=BV x y:=by
 unfold BV CE
 split <;> split <;> (try split) <;> (try split) <;> omega
theorem UG {m z:List UInt32} {a b:Nat} (hl:AE l=a) (hm:AE m=b) (hz:z=AP (a*b)) (sl:l.length<=17592186044416) (sm:m.length<=17592186044416):CF 252 [.one (.sl .u32 l),.one (.sl .u32 m)] (.one (.sl .u32 z)):=by
 refine AJ Tryz.func252 fun E hE=>?_
 conv=>cbv
 rintro n10 ⟨e10,f10⟩;conv=>cbv
 rintro n12 ⟨e12,f12⟩;conv=>cbv
 intro n13 h13;conv=>cbv
 refine AI ?_;refine⟨fun _=>⟨by omega,by omega,by show _*4<=140737488355328;omega⟩,?_⟩;intro k14 (l14:List UInt32) ql14;have hk14:=ql14.1;have hl14:l14=List.replicate k14 (0:el .u32):=ql14.2;have gl14:l14.length=k14:=by rw[hl14,List.length_replicate]
 conv=>cbv
 refine .inr ?_
 obtain⟨J0,hJ0⟩:∃J:List AV->List AL->Nat->Prop,J=fun vs bl k=>∃(o:List UInt32) (n i':Nat) (i:Int),vs=[.one (.sl .u32 l),.one (.sl .u32 m),.one (.AN .u32 14 0 0 n),.one (.int .i64 i)]/\
  bl=[.arr 0 .u32 o]/\(o.length=l.length+m.length/\n=o.length/\AO i i'/\i'<=l.length)/\
  AE (o.take (i'+m.length))=AE (l.take i')*AE m/\k=l.length-i':=⟨_,rfl⟩
 refine⟨[],[0,1,5,6],[14],J0,⟨l.length-0,by rw[hJ0];exact⟨l14,k14,0,0,rfl,rfl,⟨by rw[hl14,List.length_replicate];omega,by rw[hl14,List.length_replicate],Al 0,by omega⟩,by rw[hl14,List.take_replicate,Hp];simp[AE],rfl⟩⟩,?_⟩;intro vs bl kk0 hj;rw[hJ0] at hj;obtain⟨o,n,i',i,rfl,rfl,⟨ho,hn,hi,hiL⟩,hinv,hk0⟩:=hj;conv=>cbv
 have ei:=hi.eq;rintro n17 ⟨e17,f17⟩;conv=>cbv
 intro n18 h18;conv=>cbv
 cases n18 <;> conv=>cbv
 ·have k18:=AW h18;have hnl66:n<=(o).length:=by omega
  obtain⟨m66,hm66⟩:=xN ((B4 ((o).take n)).length);obtain⟨hle66,htk66⟩:=ER hnl66 hm66;refine .inr (.inr (.inl ⟨[],.one (.AN .u32 0 0 0 m66),.arr 0 .u32 o,fun _=>⟨by first | decide | simp[Bt,B3],trivial⟩,fun _=>⟨Dm hE (F6 hnl66 (by omega) hm66),rfl,rfl⟩,?_⟩));try conv=>cbv
  have hfin:AE (o.take n)=a*b:=by rw[show i'=l.length by omega,List.take_length,hl,hm,<-ho,List.take_length] at hinv;rw[hn,List.take_length,hinv]
  exact AD ⟨⟨rfl,.inl ⟨_,rfl,by omega,congrArg _ (by rw[List.drop_zero,htk66,hfin,hz])⟩,trivial⟩,trivial⟩
 have k18:=AY h18;refine .inr ?_;refine .inr ?_
 obtain⟨J1,hJ1⟩:∃J:List AV->List AL->Nat->Prop,J=fun vs bl k=>∃(o1:List UInt32) (n1 c' k':Nat) (c i1:Int),vs=[.one (.sl .u32 l),.one (.sl .u32 m),.one (.AN .u32 14 0 0 n1),.one (.int .i64 i),.one (.int .u64 c),.one (.int .i64 i1)]/\
  bl=[.arr 0 .u32 o1]/\(o1.length=l.length+m.length/\n1=o1.length/\AO i1 k'/\k'<=m.length/\AO c c'/\c'<4294967296)/\
  AE (o1.take (i'+m.length))+2^(32*(i'+k'))*c'=AE (l.take i')*AE m+(l.getD i' 0).toNat*2^(32*i')*AE (m.take k')/\k=m.length-k':=⟨_,rfl⟩
 refine⟨[],[0,1,5,6,7,8],[14],J1,⟨m.length-0,by rw[hJ1];exact⟨o,n,0,0,0,0,rfl,rfl,⟨ho,hn,Al 0,by omega,Al 0,by omega⟩,by rw[hinv];simp[AE],rfl⟩⟩,?_⟩;intro vs bl kk1 hj;rw[hJ1] at hj;obtain⟨o1,n1,c',k',c,i1,rfl,rfl,⟨ho1,hn1,hi1,hiL1,hc,hc1⟩,hinv1,hk1⟩:=hj;conv=>cbv
 have ei1:=hi1.eq;have ec:=hc.eq;rintro n23 ⟨e23,f23⟩;conv=>cbv
 intro n24 h24;conv=>cbv
 cases n24 <;> conv=>cbv
 ·have k24:=AW h24;rintro n60 ⟨e60,f60⟩;conv=>cbv
  intro n61 h61;conv=>cbv
  refine AI ?_;intro n63 h63;conv=>cbv
  have h63:=wrap_u32 h63;refine AH ?_;intro j64 hj64;conv=>cbv
  obtain⟨w64,hw64⟩:=B7 (n:=n63) (by omega);have ew64:=hw64.eq;have fw64:=hw64.lt;refine⟨w64,fun _=>⟨by show _<List.length (α:=UInt32) o1;(first | omega | (simp;omega)),B5 hw64⟩,?_⟩;intro (l64:List UInt32) (hl64:l64=List.set (α:=UInt32) o1 j64 w64);have gl64:l64.length=o1.length:=by rw[hl64,List.length_set]
  conv=>cbv
  intro n20 h20;conv=>cbv
  refine AI ?_;refine⟨l.length-(i'+1),?_,?_⟩
  ·omega
  rw[hJ0];refine⟨l64,n1,i'+1,n20,rfl,rfl,⟨by rw[hl64,List.length_set];exact ho1,by rw[hl64,List.length_set];exact hn1,⟨by omega⟩,by omega⟩,?_,rfl⟩;obtain⟨ai,hai⟩:=AK (l:=l) (i:=i') (by omega);have hk:k'=m.length:=by omega
  have hlen:i'+m.length<o1.length:=by omega
  rw[hl64,show i'+1+m.length=i'+m.length+1 by omega,show j64=i'+m.length by omega,Ei hlen,D2,List.length_take,Nat.min_eq_left (by omega),show w64.toNat=c' by omega];rw[hk,KL hai] at hinv1;rw[hinv1,List.take_length,CK hai]
  grind
 have k24:=AY h24;refine .inr ?_;intro n31 h31;conv=>cbv
 refine AI ?_;refine AH ?_;intro j32 hj32;conv=>cbv
 obtain⟨x33,hx33⟩:=AK (l:=o1) (i:=j32) (by omega);refine⟨x33,fun _=>hx33,?_⟩;try conv=>cbv
 intro n33 h33;have e33:=h33.eq;have f33:=h33.lt;conv=>cbv
 intro n34 h34;conv=>cbv
 have h34:=wrap_u64 h34;intro n35 h35;conv=>cbv
 have h35:=wrap_u64 h35;obtain⟨x38,hx38⟩:=AK (l:=l) (i:=i') (by omega);refine⟨x38,fun _=>⟨by omega,by rw[show (i).toNat=i' by omega];exact hx38⟩,?_⟩;try conv=>cbv
 intro n39 h39;have e39:=h39.eq;have f39:=h39.lt;conv=>cbv
 intro n40 h40;conv=>cbv
 have h40:=wrap_u64 h40;obtain⟨x43,hx43⟩:=AK (l:=m) (i:=k') (by omega);refine⟨x43,fun _=>⟨by omega,by rw[show (i1).toNat=k' by omega];exact hx43⟩,?_⟩;try conv=>cbv
 intro n44 h44;have e44:=h44.eq;have f44:=h44.lt;conv=>cbv
 intro n45 h45;conv=>cbv
 have h45:=wrap_u64 h45;have ep:n40*n45=((x38.toNat*x43.toNat:Nat):Int):=by rw[Int.natCast_mul];congr 1 <;> omega
 have bp:x38.toNat*x43.toNat<=4294967295*4294967295:=Nat.mul_le_mul (by omega) (by omega);intro n46 h46;conv=>cbv
 have h46:=wrap_u64 h46;intro n47 h47;conv=>cbv
 have h47:=wrap_u64 h47;refine g2 rfl ?_;intro n51 h51;conv=>cbv
 refine AI ?_;intro C1 h53;conv=>cbv
 have h53:=wrap_u32 h53;refine AH ?_;intro j54 hj54;conv=>cbv
 obtain⟨w54,hw54⟩:=B7 (n:=C1) (by omega);have ew54:=hw54.eq;have fw54:=hw54.lt;refine⟨w54,fun _=>⟨by show _<List.length (α:=UInt32) o1;(first | omega | (simp;omega)),B5 hw54⟩,?_⟩;intro (l54:List UInt32) (hl54:l54=List.set (α:=UInt32) o1 j54 w54);have gl54:l54.length=o1.length:=by rw[hl54,List.length_set]
 conv=>cbv
 intro n56 h56;conv=>cbv
 refine AH ?_;have h56:=D8 (p:=4294967296) h56 rfl;intro n26 h26;conv=>cbv
 refine AI ?_;refine⟨m.length-(k'+1),?_,?_⟩
 ·omega
 rw[hJ1];refine⟨l54,n1,n56.toNat,k'+1,n56,n26,rfl,rfl,⟨by rw[hl54,List.length_set];exact ho1,by rw[hl54,List.length_set];exact hn1,⟨by omega⟩,by omega,⟨by omega⟩,by omega⟩,?_,rfl⟩;have hj:j54=i'+k':=by omega
 have hj2:j32=i'+k':=by omega
 rw[hj2] at hx33;rw[KL hx38] at hinv1;rw[hl54,hj,CK hx43,show i'+(k'+1)=i'+k'+1 by omega,KL hx38];refine Sk (q:=x33) (xi:=x38.toNat) (yk:=x43.toNat) (old:=x33.toNat) (c:=c') rfl (by omega) hx33 rfl hinv1 ?_ rfl;rw[ep] at h46;omega
theorem DX (k:Ad x b1 l1) (o:Ad y b2 l2) (p:Ad (x*y) b3 l3) (s1:l1.length<=17592186044416) (s2:l2.length<=17592186044416):CF 134 [.agg (BD b1 l1),.agg (BD b2 l2)] (.agg (BD b3 l3)):=by
 refine AJ Tryz.func134 fun E i=>?_
 conv=>cbv
 refine AB i (H6 k) ?_;conv=>cbv
 refine AB i (H6 o) ?_;conv=>cbv
 refine g2 rfl ?_;intro q j;conv=>cbv
 obtain⟨s,f⟩:=xU (AP (x.natAbs*y.natAbs));refine AB i (UG k.nat o.nat f s1 s2) ?_;conv=>cbv
 obtain⟨g,h,d⟩:=Ac (x*y);refine AB (r:= .agg [.bool g,.sl .u32 h]) i (GU (by rw[f,Az,j];exact XZ k.neg o.neg) d) ?_;try conv=>cbv
 refine g2 rfl ?_;exact AD ⟨⟨rfl,congrArg _ ((d.uniq p rfl).1.symm),congrArg _ ((d.uniq p rfl).2.symm),trivial⟩,trivial⟩
theorem Jm (s:Ad x b1 l1) (t:Ad y b2 l2) (u:Ad (x+y) b3 l3) (s1:l1.length<=17592186044416) (s2:l2.length<=17592186044416):CF 322 [.agg (BD b1 l1),.agg (BD b2 l2)] (.agg (BD b3 l3)):=by
 refine AJ Tryz.func322 fun E j=>?_
 conv=>cbv
 refine AB j (H6 s) ?_;conv=>cbv
 refine AB j (H6 t) ?_;conv=>cbv
 refine g2 rfl ?_;intro H v;conv=>cbv
 cases H <;> conv=>cbv
 ·have k:=Up v;obtain⟨K,f⟩:=xI (BV x.natAbs y.natAbs);refine AB j (NH s.BC t.BC f) ?_;conv=>cbv
  intro n27 w;conv=>cbv
  cases n27 <;> conv=>cbv
  ·have d:=EI w;obtain⟨J,q⟩:=xU (AP (y.natAbs-x.natAbs));refine AB (r:= .one (.sl .u32 J)) j (Ps t.BC s.BC q (by rw[f] at d;have:=IF d;omega) s2) ?_;try conv=>cbv
   obtain⟨C,G,i⟩:=Ac (x+y);refine AB (r:= .agg [.bool C,.sl .u32 G]) j (GU (by rw[q,Az];rw[f] at d;exact NL s.neg t.neg k (by have:=IF d;omega)) i) ?_;try conv=>cbv
   refine g2 rfl ?_;exact AD ⟨⟨rfl,congrArg _ ((i.uniq u rfl).1.symm),congrArg _ ((i.uniq u rfl).2.symm),trivial⟩,trivial⟩
  have d:=EJ w;obtain⟨I,p⟩:=xU (AP (x.natAbs-y.natAbs));refine AB (r:= .one (.sl .u32 I)) j (Ps s.BC t.BC p (by rw[f] at d;have:=IE d;omega) s1) ?_;try conv=>cbv
  obtain⟨B,F,h⟩:=Ac (x+y);refine AB (r:= .agg [.bool B,.sl .u32 F]) j (GU (by rw[p,Az,Int.add_comm];rw[f] at d;exact NL t.neg s.neg (Ne.symm k) (by have:=IE d;omega)) h) ?_;try conv=>cbv
  refine g2 rfl ?_;exact AD ⟨⟨rfl,congrArg _ ((h.uniq u rfl).1.symm),congrArg _ ((h.uniq u rfl).2.symm),trivial⟩,trivial⟩
 have k:=Uq v;obtain⟨L,o⟩:=xU (AP (x.natAbs+y.natAbs));refine AB j (da s.BC t.BC o s1 s2) ?_;conv=>cbv
 obtain⟨A,D,g⟩:=Ac (x+y);refine AB (r:= .agg [.bool A,.sl .u32 D]) j (GU (by rw[o,Az];exact add_same s.neg (k.trans t.neg)) g) ?_;try conv=>cbv
 refine g2 rfl ?_;exact AD ⟨⟨rfl,congrArg _ ((g.uniq u rfl).1.symm),congrArg _ ((g.uniq u rfl).2.symm),trivial⟩,trivial⟩
theorem Ts (o:Ad x b1 l1) (j:Ad y b2 l2) (k:Ad (x-y) b3 l3) (s1:l1.length<=17592186044416) (s2:l2.length<=17592186044416):CF 249 [.agg (BD b1 l1),.agg (BD b2 l2)] (.agg (BD b3 l3)):=by
 refine AJ Tryz.func249 fun E i=>?_
 conv=>cbv
 obtain⟨p,q,d⟩:=Ac (-y);refine AB i (LH j d) ?_;conv=>cbv
 obtain⟨g,h,f⟩:=Ac (x-y);refine AB (r:= .agg [.bool g,.sl .u32 h]) i (Jm o d f s1 (by rw[d.BC,Int.natAbs_neg,<-j.BC];exact s2)) ?_;try conv=>cbv
 refine g2 rfl ?_;exact AD ⟨⟨rfl,congrArg _ ((f.uniq k rfl).1.symm),congrArg _ ((f.uniq k rfl).2.symm),trivial⟩,trivial⟩
theorem cJ (i:Ad x b1 l1) (j:Ad y b2 l2) {c:Int} (h:c=BV x y) (s1:l1.length<=17592186044416) (s2:l2.length<=17592186044416):CF 133 [.agg (BD b1 l1),.agg (BD b2 l2)] (.one (.int .i64 c)):=by
 refine AJ Tryz.func133 fun E g=>?_
 conv=>cbv
 obtain⟨k,o,f⟩:=Ac (x-y);refine AB g (Ts i j f s1 s2) ?_;conv=>cbv
 obtain⟨p,d⟩:=xI (CE (x-y));refine AB g (I3 f d) ?_;conv=>cbv
 exact AD ⟨⟨rfl,congrArg _ (by rw[h,d,fw]),trivial⟩,trivial⟩
end Go.Abs
namespace Go.Abs
open Go.RowKit
variable {c:Int} {l:List UInt32} {n x:Nat}
theorem jh (h:0<x):Cl x=Cl (x/2)+1:=by
 by_cases g:x=1
 ·subst g;decide
 have f:x/2≠0:=by omega
 unfold Cl;rw[if_neg (by omega),if_neg f];have a:=Nat.log2_self_le f;have b:=Nat.lt_log2_self (n:=x/2);have c:Nat.log2 (x/2)+1<=Nat.log2 x:=(Nat.le_log2 (by omega)).2 (by rw[Nat.pow_succ];omega);have d:Nat.log2 x<Nat.log2 (x/2)+2:=(Nat.log2_lt (by omega)).2 (by rw[Nat.pow_succ,Nat.pow_succ];rw[Nat.pow_succ] at b;omega);omega
theorem OX (h:0<x):2^(Cl x-1)<=x/\x<2^Cl x/\1<=Cl x:=by
 unfold Cl;rw[if_neg (by omega)];exact⟨by rw[Nat.add_sub_cancel];exact Nat.log2_self_le (by omega),Nat.lt_log2_self,by omega⟩
theorem Xf (h:x<4294967296):Cl x<=32:=by
 unfold Cl
 split
 ·omega
 rename_i d
 have:=(Nat.log2_lt d).2 (show x<2^32 by omega);omega
theorem eW {y r:Nat} (f:n<=32:=by omega):(x+4294967296*(y+4294967296*r))/2^n%4294967296=(x+4294967296*y)/2^n%4294967296:=by
 have d:2^n*2^(32-n)=4294967296:=by rw[<-Nat.pow_add,show n+(32-n)=32 by omega]
 have e:x+4294967296*(y+4294967296*r)=x+4294967296*y+2^n*(2^(32-n)*r*4294967296):=by
  rw[<-Nat.mul_assoc,<-Nat.mul_assoc,d];grind
 rw[e,Nat.add_mul_div_left _ _ (Nat.two_pow_pos n),Nat.add_mul_mod_self_right]
theorem kM {n a b:Int} {p q:Nat} (h:n=IntKind.u64.wrap (BitVec.ofInt IntKind.u64.bits a ||| BitVec.ofInt IntKind.u64.bits b).toNat) (ha:a=q) (hb:b=((p*4294967296:Nat):Int)) (g:p<4294967296) (f:q<4294967296):n=((q+4294967296*p:Nat):Int):=by
 rw[YP h ha hb (by omega) (by omega),Nat.mul_comm];have:=Kg (a:=q) (b:=p) (d:=32) f;exact congrArg _ this
theorem nw {X V top high P R0 V0:Nat} (h:X=top*P+R0) (hR:R0<P) (hV:V=high*P+V0) (i:0<high):X/V<=top/high:=by
 have f:0<P:=by omega
 have d:X/V<=X/(high*P):=Nat.div_le_div_left (by omega) (Nat.mul_pos i f);have g:X/(high*P)=X/P/high:=by rw[Nat.mul_comm,Nat.div_div_eq_div_mul]
 have h3:X/P=top:=by rw[h,Nat.mul_comm,Nat.mul_add_div f,Nat.div_eq_of_lt hR,Nat.add_zero]
 rw[g,h3] at d;exact d
theorem UF (Y:l.length<=2) (L:AO c (AE l)):CF 376 [.one (.sl .u32 l)] (.one (.int .u64 c)):=by
 refine AJ Tryz.func376 fun E X=>?_
 conv=>cbv
 rintro Z ⟨U,f6⟩;conv=>cbv
 intro S W;conv=>cbv
 refine AI ?_;refine .inr ?_;obtain⟨G,h⟩:=xJ fun vs H k=>∃(f o:Nat) (r j:Int),vs=[.one (.sl .u32 l),.one (.int .u64 r),.one (.int .i64 j)]/\(AO (j+1) f/\f<=l.length/\AO r o)/\o=AE (l.drop f)/\k=f
 refine⟨[],[0,3,4],[],G,⟨l.length,by rw[h];exact⟨l.length,0,0,S,rfl,⟨⟨by omega⟩,by omega,Al 0⟩,by rw[List.drop_length];rfl,rfl⟩⟩,?_⟩;intro vs H R w;rw[h] at w;obtain⟨f,o,r,j,rfl,⟨w,M,P⟩,hinv,O⟩:=w;conv=>cbv
 have V:=w.eq;have J:=P.eq;intro T D;conv=>cbv
 cases T <;> conv=>cbv
 ·have Q:=EI D;have N:f=0:=by omega
  rw[N,List.drop_zero] at hinv;exact AD ⟨⟨rfl,congrArg _ (by rw[L.eq,J,hinv]),trivial⟩,trivial⟩
 have Q:=EJ D;refine .inr ?_;intro B s;conv=>cbv
 refine AH ?_;have s:=JT (p:=4294967296) s rfl;obtain⟨i',rfl⟩:∃i',f=i'+1:=⟨f-1,by omega⟩
 have F:o<4294967296:=by have:=CR (l.drop (i'+1));rw[<-hinv] at this;exact Nat.lt_of_lt_of_le this (Nat.pow_le_pow_right (by decide) (by rw[List.length_drop];omega:32*(l.drop (i'+1)).length<=32))
 obtain⟨v,d⟩:=AK (l:=l) (i:=i') (by omega);refine⟨v,fun _=>⟨by omega,by rw[show (j).toNat=i' by omega];exact d⟩,?_⟩;try conv=>cbv
 intro n17 t;have I:=t.eq;have f17:=t.lt;conv=>cbv
 intro n18 u;conv=>cbv
 have u:=wrap_u64 u;intro n19 g;conv=>cbv
 have C:B=((o*4294967296:Nat):Int):=by clear hinv;omega
 have g:=JK (p:=o) (q:=v.toNat) g (by omega) (by omega) (by omega) (by omega);intro A K;conv=>cbv
 refine AI ?_;refine⟨i',?_,?_⟩
 ·omega
 rw[h];refine⟨i',_,n19,A,rfl,⟨⟨by omega⟩,by omega,⟨g⟩⟩,?_,rfl⟩;rw[DZ d,hinv]
theorem dE {z1:List UInt32} {d:Int} {b:Nat} (hd:AO d b) (hb:0<b) (ar:b<4294967296) (a8:z1=AP (AE l/b)) (hc:AO c (AE l%b)) (sl:l.length<=17592186044416):CF 377 [.one (.sl .u32 l),.one (.int .u32 d)] (.AG [(false,[.sl .u32 z1]),(false,[.int .u32 c])]):=by
 have ed:=hd.eq;refine AJ Tryz.func377 fun E hE=>?_
 conv=>cbv
 rintro ay ⟨ak,f10⟩;conv=>cbv
 refine⟨fun _=>⟨by omega,by omega,by show _*4<=140737488355328;omega⟩,?_⟩;intro N (O:List UInt32) F;have aj:=F.1;have h:O=List.replicate N (0:el .u32):=F.2;have ag:O.length=N:=by rw[h,List.length_replicate]
 conv=>cbv
 rintro az ⟨al,f13⟩;conv=>cbv
 intro ad ao;conv=>cbv
 refine AI ?_;refine .inr ?_
 obtain⟨J0,K⟩:∃J:List AV->List AL->Nat->Prop,J=fun vs bl k=>∃(o:List UInt32) (m g w:Nat) (r j:Int),vs=[.one (.sl .u32 l),.one (.int .u32 d),.one (.AN .u32 11 0 0 m),.one (.int .u64 r),.one (.int .i64 j)]/\
  bl=[.arr 0 .u32 o]/\(o.length=l.length/\m=o.length/\AO (j+1) w/\w<=l.length/\AO r g/\g<b)/\
  AE (l.drop w)=AE (o.drop w)*b+g/\k=w:=⟨_,rfl⟩
 refine⟨[],[0,1,6,7,8],[11],J0,⟨l.length,by rw[K];exact⟨O,N,0,l.length,0,ad,rfl,rfl,⟨by rw[h,List.length_replicate];omega,by rw[h,List.length_replicate],⟨by omega⟩,by omega,Al 0,hb⟩,by rw[List.drop_length,List.drop_eq_nil_of_le (by rw[h,List.length_replicate];omega)];simp[AE],rfl⟩⟩,?_⟩;intro vs bl ax Y;rw[K] at Y;obtain⟨o,m,g,w,r,j,rfl,rfl,⟨ho,hm,Y,au,hr,L⟩,hinv,av⟩:=Y;conv=>cbv
 have ej:=Y.eq;have er:=hr.eq;intro n16 S;conv=>cbv
 cases n16 <;> conv=>cbv
 ·have aa:=EI S;have s:m<=(o).length:=by omega
  obtain⟨ab,C⟩:=xN ((B4 ((o).take m)).length);obtain⟨a6,M⟩:=ER s C;refine .inr (.inr (.inl ⟨[],.one (.AN .u32 0 0 0 ab),.arr 0 .u32 o,fun _=>⟨by first | decide | simp[Bt,B3],trivial⟩,fun _=>⟨Dm hE (F6 s (by omega) C),rfl,rfl⟩,?_⟩));try conv=>cbv
  intro n42 X;conv=>cbv
  have X:=wrap_u32 X;have hk:w=0:=by omega
  rw[hk,List.drop_zero,List.drop_zero] at hinv;have hq:AE o=AE l/b:=by rw[hinv,Nat.add_comm,Nat.add_mul_div_right _ _ hb,Nat.div_eq_of_lt L,Nat.zero_add]
  have a7:g=AE l%b:=by rw[hinv,Nat.add_comm,Nat.add_mul_mod_self_right,Nat.mod_eq_of_lt L]
  exact AD ⟨⟨rfl,.inl ⟨_,rfl,by omega,congrArg _ (by rw[List.drop_zero,M,a8,hm,List.take_length,hq])⟩,trivial⟩,⟨rfl,congrArg _ (by rw[hc.eq,<-a7];omega),trivial⟩,trivial⟩
 have aa:=EJ S;refine .inr ?_;intro n20 G;conv=>cbv
 refine AH ?_;have G:=JT (p:=4294967296) G rfl;have G:n20=((g*4294967296:Nat):Int):=by clear hinv;omega
 obtain⟨i',rfl⟩:∃i',w=i'+1:=⟨w-1,by omega⟩
 obtain⟨f,D⟩:=AK (l:=l) (i:=i') (by omega);refine⟨f,fun _=>⟨by omega,by rw[show (j).toNat=i' by omega];exact D⟩,?_⟩;try conv=>cbv
 intro n24 T;have an:=T.eq;have f24:=T.lt;conv=>cbv
 intro n25 U;conv=>cbv
 have U:=wrap_u64 U;intro n26 v;conv=>cbv
 have v:=JK (p:=g) (q:=f.toNat) v (by omega) (by omega) (by omega) (by omega);intro n31 V;conv=>cbv
 have V:=wrap_u64 V;intro n32 H;conv=>cbv
 refine AH ?_;have H:=wrap_u64 H;intro n33 I;conv=>cbv
 have I:=wrap_u32 I;have Z:n31=(b:Int):=by omega
 have a1:n32=(((f.toNat+4294967296*g)/b:Nat):Int):=by rw[H,v,Z,<-Int.natCast_ediv];have:=Nat.div_le_self (f.toNat+4294967296*g) b;generalize (f.toNat+4294967296*g)/b=Q at *;clear hinv;omega
 refine AH ?_;intro A ai;conv=>cbv
 obtain⟨u,t⟩:=B7 (n:=n33) (by omega);have ae:=t.eq;have af:=t.lt;refine⟨u,fun _=>⟨by show _<List.length (α:=UInt32) o;(first | omega | (simp;omega)),B5 t⟩,?_⟩;intro (P:List UInt32) (B:P=List.set (α:=UInt32) o A u);have ah:P.length=o.length:=by rw[B,List.length_set]
 conv=>cbv
 intro n37 W;conv=>cbv
 have W:=wrap_u64 W;intro n38 a5;conv=>cbv
 refine AH ?_;intro n18 aq;conv=>cbv
 refine AI ?_;refine⟨i',?_,?_⟩
 ·omega
 rw[K];have a2:n37=(b:Int):=by omega
 have h5:=Nat.div_add_mod (f.toNat+4294967296*g) b;refine⟨P,m,(f.toNat+4294967296*g)%b,i',n38,n18,rfl,rfl,⟨by omega,by omega,⟨by omega⟩,by omega,⟨by rw[a5,v,a2];simp⟩,Nat.mod_lt _ hb⟩,?_,rfl⟩
 have aw:(f.toNat+4294967296*g)/b<4294967296:=Nat.div_lt_of_lt_mul (by
  have:4294967296*(g+1)<=4294967296*b:=Nat.mul_le_mul_left _ L;rw[Nat.mul_comm b];omega)
 have ew:u.toNat=(f.toNat+4294967296*g)/b:=by
  rw[a1] at I
  generalize (f.toNat+4294967296*g)/b=Q at*
  clear hinv
  omega
 rw[DZ D,hinv,B,DZ (l:=o.set A u) (i:=i') (x:=u) (by rw[show A=i' by omega,List.getElem?_set_self (by omega)]),show A=i' by omega,List.drop_set_of_lt (by omega),ew]
 generalize (f.toNat+4294967296*g)/b=Q at*
 generalize (f.toNat+4294967296*g)%b=R at*
 grind
theorem T9 {a:Nat} (u:l=AP a) (F:AO c (Cl a)) (sl:l.length<=17592186044416):CF 378 [.one (.sl .u32 l)] (.one (.int .i64 c)):=by
 refine AJ Tryz.func378 fun E hE=>?_
 conv=>cbv
 rintro n6 ⟨e6,f6⟩;conv=>cbv
 intro Z D;conv=>cbv
 cases Z <;> conv=>cbv
 ·have W:=Ah D;rintro Y ⟨K,f10⟩;conv=>cbv
  intro B N;conv=>cbv
  refine AI ?_;obtain⟨f,g⟩:=AK (l:=l) (i:=(l.length-1)) (by omega);refine⟨f,fun _=>⟨by omega,by rw[show (B).toNat=(l.length-1) by omega];exact g⟩,?_⟩;try conv=>cbv
  intro C o;have L:=o.eq;have f13:=o.lt;conv=>cbv
  refine .inr ?_;obtain⟨I,h⟩:=xJ fun vs J k=>∃(t x':Nat) (n x:Int),vs=[.one (.sl .u32 l),.one (.int .i64 n),.one (.int .u32 x)]/\(AO n t/\AO x x'/\x'<4294967296)/\t+Cl x'=Cl f.toNat/\k=x'
  refine⟨[],[0,3,4],[],I,⟨f.toNat,by rw[h];exact⟨0,f.toNat,0,C,rfl,⟨Al 0,⟨by omega⟩,by omega⟩,Nat.zero_add _,rfl⟩⟩,?_⟩;intro vs J X G;rw[h] at G;obtain⟨t,x',n,x,rfl,⟨U,V,H⟩,hinv,T⟩:=G;conv=>cbv
  have en:=U.eq;have ex:=V.eq;have S:=Xf (x:=f.toNat) (by omega);intro n15 p;conv=>cbv
  cases n15 <;> conv=>cbv
  ·have A:=Bq p;rintro n21 ⟨M,f21⟩;conv=>cbv
   intro n22 P;conv=>cbv
   refine AI ?_;intro n23 Q;conv=>cbv
   refine AI ?_;intro n25 R;conv=>cbv
   refine AI ?_;have d:=g;rw[u] at d;have s:(AP a).length-1+1=(AP a).length:=by rw[<-u];omega
   have w:=Lb d s;have hs:=OX (x:=f.toNat) (by omega);have r:=QF d s hs.1 hs.2.1 hs.2.2;have j:x'=0:=by omega
   have v:Cl 0=0:=rfl;rw[j,v] at hinv;rw[<-u] at r;exact AD ⟨⟨rfl,congrArg _ (by rw[F.eq,r];omega),trivial⟩,trivial⟩
  have A:=Br p;refine .inr ?_;intro n19 O;conv=>cbv
  refine AI ?_;intro n17 q;conv=>cbv
  refine AH ?_;have q:=wrap_u32 q;have j:0<x':=by omega
  refine⟨x'/2,?_,?_⟩
  ·omega
  rw[h];refine⟨t+1,x'/2,n19,n17,rfl,⟨⟨by omega⟩,⟨by omega⟩,by omega⟩,?_,rfl⟩;have:=jh j;omega
 have W:=Aj D;have v:a=0:=Er.1 (by rw[<-u];exact List.eq_nil_of_length_eq_zero (by omega));exact AD ⟨⟨rfl,congrArg _ (by rw[F.eq,v];rfl),trivial⟩,trivial⟩
theorem UE {z:List UInt32} {s:Int} {zn:Nat} (hs:AO s n) (hn:n<=31) (ay:z.length=l.length+1) (a8:AE z=AE l*2^n) (az:zn=z.length) (sl:l.length<=17592186044416):CF 379 [.one (.sl .u32 l),.one (.int .i64 s)] (.one (.own .u32 z zn)):=by
 have es:=hs.eq;refine AJ Tryz.func379 fun E hE=>?_
 conv=>cbv
 rintro n9 ⟨e9,f9⟩;conv=>cbv
 intro aB ar;conv=>cbv
 refine AI ?_;refine⟨fun _=>⟨by omega,by omega,by show _*4<=140737488355328;omega⟩,?_⟩;intro G (H:List UInt32) C;have an:=C.1;have f:H=List.replicate G (0:el .u32):=C.2;have ag:H.length=G:=by rw[f,List.length_replicate]
 conv=>cbv
 refine .inr ?_
 obtain⟨J0,D⟩:∃J:List AV->List AL->Nat->Prop,J=fun vs bl k=>∃(o:List UInt32) (c:UInt32) (m i':Nat) (i:Int),vs=[.one (.sl .u32 l),.one (.int .i64 s),.one (.AN .u32 11 0 0 m),.one (.int .i64 i)]/\
  bl=[.arr 0 .u32 o]/\(o.length=l.length+1/\m=o.length/\AO i i'/\i'<=l.length)/\(o[i']? =some c/\c.toNat<2^n)/\
  AE (o.take i')+2^(32*i')*c.toNat=AE (l.take i')*2^n/\k=l.length-i':=⟨_,rfl⟩
 refine⟨[],[0,1,5,6],[11],J0,⟨l.length-0,by rw[D];exact⟨H,0,G,0,0,rfl,rfl,⟨by rw[f,List.length_replicate];omega,by rw[f,List.length_replicate],Al 0,by omega⟩,⟨by rw[f,List.getElem?_replicate,if_pos (by omega)],Nat.two_pow_pos n⟩,by simp[AE],rfl⟩⟩,?_⟩;intro vs bl aA hj;rw[D] at hj;obtain⟨o,c,m,i',i,rfl,rfl,⟨ho,hm,hi,aw⟩,⟨hc,a6⟩,hinv,ax⟩:=hj;conv=>cbv
 have ei:=hi.eq;rintro aC ⟨ao,f14⟩;conv=>cbv
 intro n15 L;conv=>cbv
 cases n15 <;> conv=>cbv
 ·have aa:=AW L;have hk:i'=l.length:=by omega
  have W:AE o=AE l*2^n:=by rw[hk,List.take_length,<-CK (l:=o) (by rw[<-hk];exact hc),List.take_of_length_le (by omega)] at hinv;exact hinv
  exact AD ⟨⟨rfl,.inr (.inl ⟨_,_,by decide,rfl,rfl,hm,rfl,C5 (L2 (by omega) (by rw[a8,W])) (by omega)⟩),trivial⟩,trivial⟩
 have aa:=AY L;refine .inr ?_;obtain⟨d,B⟩:=AK (l:=l) (i:=i') (by omega);refine⟨d,fun _=>⟨by omega,by rw[show (i).toNat=i' by omega];exact B⟩,?_⟩;try conv=>cbv
 intro n21 M;have aq:=M.eq;have f21:=M.lt;conv=>cbv
 intro n22 O;conv=>cbv
 have O:=wrap_u64 O;intro n24 Q;conv=>cbv
 refine AH ?_;have a2:d.toNat*2^n<9223372036854775808:=Nat.mul_lt_mul_of_lt_of_le (by omega:d.toNat<4294967296) (Nat.pow_le_pow_right (by decide) hn:2^n<=2^31) (by decide);obtain⟨K,g,Q⟩:∃q:Nat,q=d.toNat*2^n/\n24=q:=⟨_,rfl,(SV (p:=d.toNat) (e:=n) Q (by omega) (by omega)).trans (by congr 1;exact Nat.mod_eq_of_lt (by omega))⟩
 rw[<-g] at a2;refine AH ?_;intro Y aj;conv=>cbv
 obtain⟨a1,u⟩:=AK (l:=o) (i:=Y) (by omega);refine⟨a1,fun _=>u,?_⟩;try conv=>cbv
 intro n30 R;have a5:=R.eq;have f30:=R.lt;conv=>cbv
 intro n32 S;conv=>cbv
 have S:=wrap_u32 S;intro n33 T;conv=>cbv
 have bo:0<=n33/\n33<4294967296:=by rw[wrap_u32 T];omega
 refine AH ?_;intro Z ak;conv=>cbv
 obtain⟨w,r⟩:=B7 (n:=n33) (by omega);have ab:=r.eq;have ae:=r.lt;refine⟨w,fun _=>⟨by show _<List.length (α:=UInt32) o;(first | omega | (simp;omega)),B5 r⟩,?_⟩;intro (v:List UInt32) (A:v=List.set (α:=UInt32) o Z w);have ah:v.length=o.length:=by rw[A,List.length_set]
 conv=>cbv
 intro n37 av;conv=>cbv
 refine AI ?_;intro n39 U;conv=>cbv
 refine AH ?_;have U:=D8 (p:=4294967296) U rfl;intro n40 V;conv=>cbv
 have V:=wrap_u32 V;refine AH ?_;intro F al;conv=>cbv
 obtain⟨h,t⟩:=B7 (n:=n40) (by omega);have ad:=t.eq;have af:=t.lt;refine⟨h,fun _=>⟨by show _<List.length (α:=UInt32) v;(first | omega | (simp;omega)),B5 t⟩,?_⟩;intro (I:List UInt32) (j:I=List.set (α:=UInt32) v F h);have ai:I.length=v.length:=by rw[j,List.length_set]
 conv=>cbv
 intro n17 au;conv=>cbv
 refine AI ?_;refine⟨l.length-(i'+1),?_,?_⟩
 ·omega
 rw[D];have hq:2^n*2^(32-n)=4294967296:=by rw[<-Nat.pow_add,show n+(32-n)=32 by omega]
 have ec:a1=c:=by rw[show Y=i' by omega,hc] at u;exact (Option.some.inj u).symm
 have X:K%4294967296=2^n*(d.toNat%2^(32-n)):=by rw[g,Nat.mul_comm d.toNat,<-hq,Nat.mul_mod_mul_left]
 have h6:=Od T (p:=c.toNat) (q:=K%4294967296) (by rw[a5,ec]) (by omega) (by have:=c.toNat_lt;omega) (by omega);rw[X,Kg a6,<-X] at h6
 have a7:h.toNat<2^n:=by
  have:K/4294967296<2^n:=Nat.div_lt_of_lt_mul (by rw[g];exact (Nat.mul_lt_mul_right (Nat.two_pow_pos n)).2 (by omega));omega
 refine⟨I,h,m,i'+1,n17,rfl,rfl,⟨by omega,by omega,⟨by omega⟩,by omega⟩,⟨by rw[j,show F=i'+1 by omega,List.getElem?_set_self (by omega)],a7⟩,?_,rfl⟩;rw[j,show F=i'+1 by omega,HV (Nat.le_refl _),A,show Z=i' by omega,Ei (by omega),D2,List.length_take,Nat.min_eq_left (by omega),CK B,Ds,Nat.add_mul,<-hinv];have e1:w.toNat+4294967296*h.toNat=c.toNat+d.toNat*2^n:=by rw[<-g];omega
 have e2:2^(32*i')*(w.toNat+4294967296*h.toNat)=2^(32*i')*(c.toNat+d.toNat*2^n):=by rw[e1]
 generalize 2^(32*i')=P at*
 generalize 2^n=N at*
 grind
end Go.Abs
