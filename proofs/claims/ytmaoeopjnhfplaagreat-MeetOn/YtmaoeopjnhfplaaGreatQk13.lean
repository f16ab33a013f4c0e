/- Part 14 of a proof. Conditions: each theorem's own. -/
import Derived.Test.YtmaoeopjnhfplaaGreatQk12
set_option linter.all false
set_option maxHeartbeats 8000000
set_option maxRecDepth 20000
open Go.Proofs
namespace Go.Abs
open Go.RowKit
variable {a n:Nat} {b c:Bool} {l m z:List UInt32} {x:Int}
theorem mS {w:List UInt32} (i:x= -(AI l:Int)) (hw:w=AW (AI l)) (hc:c=true↔0<w.length):BH x c w:=by
 by_cases d:AI l=0
 ·have h:w=[]:=by rw[hw,GB.2 d]
  have f:c=false:=by
   cases c with
   | false=>rfl
   | true=>have:=hc.1 rfl;rw[h] at this;simp at this
  subst f;exact .val hw.symm (by rw[i,d];simp) (fun _=>rfl)
 have g:c=true:=hc.2 (List.length_pos_iff.2 (fun e=>d (GB.1 (by rw[<-hw];exact e))));subst g;exact .val hw.symm (by rw[i];rfl) (fun e=>absurd e d)
theorem Kb (O:AI l=n) (A:z=AW n):CF 309 [.one (.sl .u32 l)] (.one (.sl .u32 z)):=by
 have A:CR l=z:=by rw[A,<-O,NL]
 refine AO Tryz.func309 fun E Y=>?_
 conv=>cbv
 refine .inr ?_;obtain⟨H,p⟩:=xJ fun vs I k=>∃m:List UInt32,vs=[.one (.sl .u32 m)]/\CR m=z/\k=m.length
 refine⟨[],[0],[],H,⟨l.length,by rw[p];exact⟨l,rfl,A,rfl⟩⟩,?_⟩;intro vs I Q F;rw[p] at F;obtain⟨m,rfl,q,N⟩:=F;conv=>cbv
 rintro n4 ⟨W,f4⟩;conv=>cbv
 intro V C;conv=>cbv
 cases V <;> conv=>cbv
 ·have P:=Cc C;have v:m=[]:=List.eq_nil_of_length_eq_zero (by omega);exact AF ⟨⟨rfl,congrArg _ (by rw[<-q,v];rfl),trivial⟩,trivial⟩
 have P:=Cd C;rintro Z ⟨X,f9⟩;conv=>cbv
 intro f L;conv=>cbv
 refine AQ ?_;obtain⟨g,d⟩:=AS (l:=m) (i:=(f).toNat) (by omega);refine⟨g,fun _=>⟨by omega,d⟩,?_⟩;try conv=>cbv
 intro S o;have J:=o.eq;have f12:=o.lt;conv=>cbv
 intro B s;conv=>cbv
 cases B <;> conv=>cbv
 ·have t:=BR s;have w:g≠0:=fun h=>by subst h;exact t o.eq
  have e2:m=m.take (f).toNat++[g]:=by have:=C7 d;rw[List.take_of_length_le (by omega)] at this;exact this
  exact AF ⟨⟨rfl,congrArg _ (by rw[<-q,e2,Lj w]),trivial⟩,trivial⟩
 have t:=BS s;refine .inr ?_;rintro T ⟨K,f17⟩;conv=>cbv
 intro U M;conv=>cbv
 refine AQ ?_;intro R G;conv=>cbv
 refine AM ?_;intro u D;conv=>cbv
 intro r j;conv=>cbv
 refine⟨r.length,?_,?_⟩
 ·rw[j];simp;omega
 rw[p];have el:r=m.take (f).toNat:=by rw[j,show u=(f).toNat by omega];simp
 refine⟨r,rfl,?_,rfl⟩;obtain rfl:g=0:=UInt32.toNat_inj.1 (by show _=0;omega)
 have e2:m=m.take (f).toNat++[0]:=by
  have:=C7 d;rw[List.take_of_length_le (by omega)] at this;exact this
 rw[el,<-q];conv=>rhs;rw[e2]
 rw[KR]
theorem G6 {m:Nat} (S:n<=l.length) (hl:l.length<=140737488355328) (hm:m=(CR (l.take n)).length):IE Tryz.prog 309 (.AZ .u32 0 0 0 n) (.arr 0 .u32 l) [] (.one (.AZ .u32 0 0 0 m)) (.arr 0 .u32 l):=by
 refine L6 Tryz.func309 (by kernel_rfl) rfl fun E hE=>?_
 conv=>cbv
 refine .inr ?_;obtain⟨J,j⟩:=xJ fun vs B k=>∃q:Nat,vs=[.one (.AZ .u32 0 0 0 q)]/\B=[.arr 0 .u32 l]/\q<=l.length/\m=(CR (l.take q)).length/\k=q
 refine⟨[],[0],[0],J,⟨n,by rw[j];exact⟨n,rfl,rfl,S,hm,rfl⟩⟩,?_⟩;intro vs B U G;rw[j] at G;obtain⟨q,rfl,rfl,hq,o,R⟩:=G;conv=>cbv
 intro n4 P;have e4:=P.eq;conv=>cbv
 intro Z C;conv=>cbv
 cases Z <;> conv=>cbv
 ·have T:=Cc C;refine⟨fun _=>⟨⟨⟨rfl,.inr (.inr ⟨rfl,rfl,congrArg (AC.AZ .u32 0 0 0) (by rw[o,show q=0 by omega];rfl)⟩),trivial⟩,trivial⟩,rfl,by simp⟩,fun _=>rfl⟩
 have T:=Cd C;intro n9 Q;have e9:=Q.eq;conv=>cbv
 intro V N;conv=>cbv
 refine AQ ?_;refine AM ?_;intro p H;conv=>cbv
 obtain⟨r,d⟩:=AS (l:=l) (i:=p) (by omega);refine⟨r,fun _=>d,?_⟩;try conv=>cbv
 intro W g;have L:=g.eq;have f12:=g.lt;conv=>cbv
 intro w s;conv=>cbv
 cases w <;> conv=>cbv
 ·have t:=BR s;have v:r≠0:=fun h=>by subst h;exact t g.eq
  refine⟨fun _=>⟨⟨⟨rfl,.inr (.inr ⟨rfl,rfl,congrArg (AC.AZ .u32 0 0 0) (by rw[o,show q=p+1 by omega,C7 d,Lj v,List.length_append,List.length_take];simp;omega)⟩),trivial⟩,trivial⟩,rfl,by simp⟩,fun _=>rfl⟩
 have t:=BS s;refine .inr ?_;intro X u;have M:=u.eq;conv=>cbv
 intro Y O;conv=>cbv
 refine AQ ?_;refine AM ?_;intro K D;conv=>cbv
 rintro A f ⟨I,F⟩;conv=>cbv
 refine⟨f,?_,?_⟩
 ·omega
 rw[j];obtain rfl:A=0:=by omega
 refine⟨f,rfl,rfl,by omega,?_,rfl⟩;obtain rfl:r=0:=UInt32.toNat_inj.1 (by show _=0;omega);rw[o,show q=f+1 by omega,C7 (x:=0) (by rw[show f=p by omega];exact d),KR]
theorem HM {n:Bool} (j:x=if n=true then -(AI l:Int) else AI l) (g:BH x b z):CF 263 [.one (.bool n),.one (.sl .u32 l)] (.agg (Bi b z)):=by
 refine AO Tryz.func263 fun E p=>?_
 conv=>cbv
 obtain⟨k,d⟩:=xU (AW (AI l));refine AB p (Kb rfl d) ?_;conv=>cbv
 cases n <;> conv=>cbv
 ·have f:BH x false k:= .val d.symm j (fun _=>rfl);exact AF ⟨⟨rfl,congrArg _ ((f.uniq g rfl).1.symm),congrArg _ ((f.uniq g rfl).2.symm),trivial⟩,trivial⟩
 rintro q ⟨o,f10⟩;conv=>cbv
 intro i h;conv=>cbv
 have f:BH x i k:=mS (by rw[j];rfl) d (by rw[h,decide_eq_true_eq];omega);exact AF ⟨⟨rfl,congrArg _ ((f.uniq g rfl).1.symm),congrArg _ ((f.uniq g rfl).2.symm),trivial⟩,trivial⟩
theorem Lz {n:Int} {k:Nat} (B:Ag n k) (H:k<18446744073709551616) (C:z=AW k):CF 264 [.one (.int .u64 n)] (.one (.sl .u32 z)):=by
 have G:=B.eq;refine AO Tryz.func264 fun E A=>?_
 conv=>cbv
 intro n4 t;conv=>cbv
 have t:=wrap_u32 t;intro I u;conv=>cbv
 refine AM ?_;have u:=FI (p:=4294967296) u rfl;intro F v;conv=>cbv
 have v:=wrap_u32 v;obtain⟨g,d⟩:=CU (n:=n4) (by omega);have o:=d.eq;have r:=d.lt;obtain⟨h,f⟩:=CU (n:=F) (by omega);have q:=f.eq;have s:=f.lt;refine⟨[g,h],fun _=>⟨rfl,by decide,rfl,⟨rfl,CT d,⟨rfl,CT f,trivial⟩⟩⟩,.inl ?_⟩;try conv=>cbv
 obtain⟨D,i⟩:=xN ((CR ([g,h].take 2)).length);obtain⟨w,j⟩:=FR (by simp) i;refine .inr (.inr (.inl ⟨[],.one (.AZ .u32 0 0 0 D),.arr 0 .u32 [g,h],fun _=>⟨by first | decide | simp[Ci,Co],trivial⟩,fun _=>⟨E7 A (G6 (by simp) (by simp) i),rfl,rfl⟩,?_⟩));try conv=>cbv
 exact AF ⟨⟨rfl,.inl ⟨_,rfl,by simp;omega,congrArg _ (by rw[List.drop_zero,j,C];congr 1;simp[AI];omega)⟩,trivial⟩,trivial⟩
theorem NZ (D: -9223372036854775808<=x/\x<9223372036854775808) (q:BH x b z):CF 218 [.one (.int .i64 x)] (.agg (Bi b z)):=by
 refine AO Tryz.func218 fun E p=>?_
 conv=>cbv
 intro n4 u;conv=>cbv
 cases n4 <;> conv=>cbv
 ·have A:=BK u;intro B h;conv=>cbv
  have h:=wrap_u64 h;obtain⟨C,f⟩:=xU (AW x.natAbs);refine AB p (Lz (Ag.of (k:=x.natAbs) (by omega)) (by omega) f) ?_;conv=>cbv
  obtain⟨j,o,d⟩:=BE (x);refine AB (r:= .agg [.bool j,.sl .u32 o]) p (HM (n:=false) (by rw[f,BW];simp;omega) d) ?_;try conv=>cbv
  exact AF ⟨⟨rfl,congrArg _ ((d.uniq q rfl).1.symm),congrArg _ ((d.uniq q rfl).2.symm),trivial⟩,trivial⟩
 have A:=BL u;intro F v;conv=>cbv
 have v:=wrap_u64 v;intro G w;conv=>cbv
 have w:=wrap_u64 w;obtain⟨H,i⟩:=xU (AW x.natAbs);refine AB p (Lz (Ag.of (k:=x.natAbs) (by omega)) (by omega) i) ?_;conv=>cbv
 obtain⟨s,t,g⟩:=BE (x);refine AB (r:= .agg [.bool s,.sl .u32 t]) p (HM (n:=true) (by rw[i,BW];simp;omega) g) ?_;try conv=>cbv
 exact AF ⟨⟨rfl,congrArg _ ((g.uniq q rfl).1.symm),congrArg _ ((g.uniq q rfl).2.symm),trivial⟩,trivial⟩
theorem dS (h:x=if b=true then -(AI l:Int) else AI l) (f:BH x c z):CF 340 [.agg (Bi b l)] (.agg (Bi c z)):=by
 refine AO Tryz.func340 fun E g=>?_
 conv=>cbv
 obtain⟨i,j,d⟩:=BE (x);refine AB g (HM h d) ?_;conv=>cbv
 exact AF ⟨⟨rfl,congrArg _ ((d.uniq f rfl).1.symm),congrArg _ ((d.uniq f rfl).2.symm),trivial⟩,trivial⟩
theorem I4 (d:BH x b l):CF 340 [.agg (Bi b l)] (.agg (Bi b l)):=dS d.E5 d
theorem Ly (k:BH x b l) (h:BH (-x) c z):CF 248 [.agg (Bi b l)] (.agg (Bi c z)):=by
 refine AO Tryz.func248 fun E j=>?_
 conv=>cbv
 intro o i;conv=>cbv
 obtain⟨f,g,d⟩:=BE (-x);refine AB (r:= .agg [.bool f,.sl .u32 g]) j (HM (by rw[i];exact aD k.E5) d) ?_;try conv=>cbv
 exact AF ⟨⟨rfl,congrArg _ ((d.uniq h rfl).1.symm),congrArg _ ((d.uniq h rfl).2.symm),trivial⟩,trivial⟩
theorem KY {c:Int} (d:BH x b l) (hc:c=Cg x):CF 306 [.agg (Bi b l)] (.one (.int .i64 c)):=by
 refine AO Tryz.func306 fun E j=>?_
 conv=>cbv
 refine AB j (I4 d) ?_;conv=>cbv
 rintro o ⟨f,f7⟩;conv=>cbv
 intro k i;conv=>cbv
 cases k <;> conv=>cbv
 ·have h:=BR i;cases b <;> conv=>cbv
  ·have g:AI l≠0:=fun e=>by rw[d.Bj] at f;have:=d.nat;rw[e] at this;rw[<-this] at f;exact h f
   exact AF ⟨⟨rfl,congrArg _ (by rw[hc,PK d.E5 g];rfl),trivial⟩,trivial⟩
  have g:AI l≠0:=fun e=>by rw[d.Bj] at f;have:=d.nat;rw[e] at this;rw[<-this] at f;exact h f
  exact AF ⟨⟨rfl,congrArg _ (by rw[hc,PK d.E5 g];rfl),trivial⟩,trivial⟩
 have h:=BS i;have g:AI l=0:=by rw[List.eq_nil_of_length_eq_zero (by omega:l.length=0)];rfl
 exact AF ⟨⟨rfl,congrArg _ (by rw[hc,d.E5,g];unfold Cg;simp),trivial⟩,trivial⟩
theorem Nh {b:Nat} {c:Int} (t:l=AW a) (hm:m=AW b) (hc:c=Bv a b):CF 356 [.one (.sl .u32 l),.one (.sl .u32 m)] (.one (.int .i64 c)):=by
 refine AO Tryz.func356 fun E hE=>?_
 conv=>cbv
 rintro n7 ⟨e7,f7⟩;conv=>cbv
 rintro n9 ⟨e9,f9⟩;conv=>cbv
 intro T C;conv=>cbv
 cases T <;> conv=>cbv
 ·have O:=DQ C;rintro ai ⟨a5,f17⟩;conv=>cbv
  intro V aa;conv=>cbv
  refine AQ ?_;refine .inr ?_;obtain⟨J0,s⟩:=xJ fun vs bl k=>∃(j:Int) (k':Nat),vs=[.one (.sl .u32 l),.one (.sl .u32 m),.one (.int .i64 j)]/\(Ag (j+1) k'/\k'<=l.length/\l.length=m.length/\AI (l.drop k')=AI (m.drop k'))/\k=k'
  refine⟨[],[0,1,5],[],J0,⟨l.length,by rw[s];exact⟨V,l.length,rfl,⟨⟨by omega⟩,by omega,by omega,by rw[List.drop_length,show l.length=m.length by omega,List.drop_length]⟩,rfl⟩⟩,?_⟩;intro vs bl af N;rw[s] at N;obtain⟨j,k',rfl,⟨N,ad,u,M⟩,ae⟩:=N;conv=>cbv
  have ej:=N.eq;intro W F;conv=>cbv
  cases W <;> conv=>cbv
  ·have Q:=F0 F;have hk:k'=0:=by omega
   have he:a=b:=by rw[hk] at M;simpa [t,hm,BW] using M
   exact AF ⟨⟨rfl,congrArg _ (by rw[hc,he];simp[Bv]),trivial⟩,trivial⟩
  have Q:=F1 F;refine .inr ?_;obtain⟨g,o⟩:=AS (l:=l) (i:=(j).toNat) (by omega);refine⟨g,fun _=>⟨by omega,o⟩,?_⟩;try conv=>cbv
  intro aj G;have B:=G.eq;have f26:=G.lt;conv=>cbv
  obtain⟨h,p⟩:=AS (l:=m) (i:=(j).toNat) (by omega);refine⟨h,fun _=>⟨by omega,p⟩,?_⟩;try conv=>cbv
  intro ak H;have a6:=H.eq;have f30:=H.lt;conv=>cbv
  intro Y I;conv=>cbv
  refine g2 rfl ?_;cases Y <;> conv=>cbv
  ·have R:=BK I;obtain⟨d,q⟩:=AS (l:=l) (i:=(j).toNat) (by omega);refine⟨d,fun _=>⟨by omega,q⟩,?_⟩;try conv=>cbv
   intro al J;have a7:=J.eq;have f35:=J.lt;conv=>cbv
   obtain⟨f,r⟩:=AS (l:=m) (i:=(j).toNat) (by omega);refine⟨f,fun _=>⟨by omega,r⟩,?_⟩;try conv=>cbv
   intro an K;have a8:=K.eq;have f39:=K.lt;conv=>cbv
   intro Z L;conv=>cbv
   refine g2 rfl ?_;cases Z <;> conv=>cbv
   ·have S:=Cc L;intro X ab;conv=>cbv
    refine AQ ?_;refine⟨k'-1,?_,?_⟩
    ·omega
    rw[s];obtain⟨i',rfl⟩:∃i',k'=i'+1:=⟨k'-1,by omega⟩
    have e3:l[i']? =some g:=by rw[<-o];congr 1;omega
    have e4:m[i']? =some h:=by rw[<-p];congr 1;omega
    have A:l[i']? =some d:=by rw[<-q];congr 1;omega
    have e2:m[i']? =some f:=by rw[<-r];congr 1;omega
    obtain rfl:d=g:=Option.some.inj (A.symm.trans e3);obtain rfl:f=h:=Option.some.inj (e2.symm.trans e4);refine⟨X,i',rfl,⟨⟨by omega⟩,by omega,u,?_⟩,by omega⟩;have B:d=f:=UInt32.toNat_inj.1 (by omega);subst B;exact drop_eq (i:=i') A e2 M
   have S:=Cd L;obtain⟨i',rfl⟩:∃i',k'=i'+1:=⟨k'-1,by omega⟩
   have A:l[i']? =some d:=by rw[<-q];congr 1;omega
   have e2:m[i']? =some f:=by rw[<-r];congr 1;omega
   have v:f.toNat<d.toNat:=by omega
   have w:d≠f:=fun e=>by rw[e] at v;omega
   exact AF ⟨⟨rfl,congrArg _ (by rw[hc,<-BW a,<-BW b,<-t,<-hm,<-Ql A e2 u M w];unfold Bv;rw[if_neg (by omega),if_pos (by omega)]),trivial⟩,trivial⟩
  have R:=BL I;obtain⟨i',rfl⟩:∃i',k'=i'+1:=⟨k'-1,by omega⟩
  have A:l[i']? =some g:=by rw[<-o];congr 1;omega
  have e2:m[i']? =some h:=by rw[<-p];congr 1;omega
  have v:g.toNat<h.toNat:=by omega
  have w:g≠h:=fun e=>by rw[e] at v;omega
  exact AF ⟨⟨rfl,congrArg _ (by rw[hc,<-BW a,<-BW b,<-t,<-hm,<-Ql A e2 u M w];unfold Bv;rw[if_pos (by omega)]),trivial⟩,trivial⟩
 have O:=DR C;rintro ag ⟨a1,f12⟩;conv=>cbv
 rintro ah ⟨a2,f14⟩;conv=>cbv
 intro U D;conv=>cbv
 cases U <;> conv=>cbv
 ·have P:=BK D;exact AF ⟨⟨rfl,congrArg _ (by rw[hc,<-Qk (by rw[<-t,<-hm];omega),<-t,<-hm];unfold Bv;rw[if_neg (by omega),if_pos (by omega)]),trivial⟩,trivial⟩
 have P:=BL D;exact AF ⟨⟨rfl,congrArg _ (by rw[hc,<-Qk (by rw[<-t,<-hm];omega),<-t,<-hm];unfold Bv;rw[if_pos (by omega)]),trivial⟩,trivial⟩
theorem QA {b:Nat} (hl:l=AW a) (hm:m=AW b) (hz:z=AW (a-b)) (aa:b<=a) (sl:l.length<=17592186044416):CF 357 [.one (.sl .u32 l),.one (.sl .u32 m)] (.one (.sl .u32 z)):=by
 have ad:m.length<=l.length:=by rw[hl,hm];exact FB aa
 refine AO Tryz.func357 fun E hE=>?_
 conv=>cbv
 rintro aE ⟨av,f11⟩;conv=>cbv
 refine⟨fun _=>⟨by omega,by omega,by show _*4<=140737488355328;omega⟩,?_⟩;intro Q (R:List UInt32) N;have au:=N.1;have D:R=List.replicate Q (0:el .u32):=N.2;have ar:R.length=Q:=by rw[D,List.length_replicate]
 conv=>cbv
 refine .inr ?_
 obtain⟨J0,I⟩:∃J:List AV->List AR->Nat->Prop,J=fun vs bl k=>∃(o:List UInt32) (n K i':Nat) (c i:Int),vs=[.one (.sl .u32 l),.one (.sl .u32 m),.one (.AZ .u32 12 0 0 n),.one (.int .u64 c),.one (.int .i64 i)]/\
  bl=[.arr 0 .u32 o]/\(o.length=l.length/\n=o.length/\Ag i i'/\i'<=l.length/\Ag c K/\K<=1)/\
  AI (o.take i')+AI (m.take i')=AI (l.take i')+2^(32*i')*K/\k=l.length-i':=⟨_,rfl⟩
 refine⟨[],[0,1,5,6,7],[12],J0,⟨l.length-0,by rw[I];exact⟨R,Q,0,0,0,0,rfl,rfl,⟨by rw[D,List.length_replicate];omega,by rw[D,List.length_replicate],Bf 0,by omega,Bf 0,by omega⟩,by simp[AI],rfl⟩⟩,?_⟩;intro vs bl aD hj;rw[I] at hj;obtain⟨o,n,K,i',c,i,rfl,rfl,⟨ho,hn,hi,aA,hc,az⟩,hinv,aB⟩:=hj;conv=>cbv
 have ei:=hi.eq;have ec:=hc.eq;rintro aF ⟨aw,f15⟩;conv=>cbv
 intro ah X;conv=>cbv
 cases ah <;> conv=>cbv
 ·have ae:=BK X;have F:n<=(o).length:=by omega
  obtain⟨ag,L⟩:=xN ((CR ((o).take n)).length);obtain⟨ab,O⟩:=FR F L;refine .inr (.inr (.inl ⟨[],.one (.AZ .u32 0 0 0 ag),.arr 0 .u32 o,fun _=>⟨by first | decide | simp[Ci,Co],trivial⟩,fun _=>⟨E7 hE (G6 F (by omega) L),rfl,rfl⟩,?_⟩));try conv=>cbv
  have hk:i'=l.length:=by omega
  have a2:AI (o.take n)=a-b:=by rw[hk,EJ ad,EJ (Nat.le_refl _),hm,hl,BW,BW,<-hl,<-ho,List.take_length] at hinv;have aC:=Cy o;generalize 2^(32*o.length)=P at *;rw[hn,List.take_length];rcases (by omega:K=0\/K=1) with e | e <;> rw[e] at hinv <;> omega
  exact AF ⟨⟨rfl,.inl ⟨_,rfl,by omega,congrArg _ (by rw[List.drop_zero,O,a2,hz])⟩,trivial⟩,trivial⟩
 have ae:=BL X;refine .inr ?_;rintro aG ⟨ax,f21⟩;conv=>cbv
 intro ai Y;conv=>cbv
 refine .inr ?_;cases ai <;> conv=>cbv
 ·have af:=BK Y;obtain⟨H,g⟩:=AS (l:=l) (i:=i') (by omega);refine⟨H,fun _=>⟨by omega,by rw[show (i).toNat=i' by omega];exact g⟩,?_⟩;try conv=>cbv
  intro aj r;have a7:=r.eq;have f31:=r.lt;conv=>cbv
  intro ak s;conv=>cbv
  have s:=wrap_u64 s;intro al t;conv=>cbv
  have t:=wrap_u64 t;intro an u;conv=>cbv
  have u:=wrap_u64 u;intro ao v;conv=>cbv
  have v:=wrap_u64 v;intro T A;conv=>cbv
  have A:=wrap_u32 A;refine AM ?_;intro G a5;conv=>cbv
  obtain⟨q,f⟩:=CU (n:=T) (by omega);have U:=f.eq;have V:=f.lt;refine⟨q,fun _=>⟨by show _<List.length (α:=UInt32) o;(first | omega | (simp;omega)),CT f⟩,?_⟩;intro (h:List UInt32) (d:h=List.set (α:=UInt32) o G q);have W:h.length=o.length:=by rw[d,List.length_set]
  conv=>cbv
  intro aq B;conv=>cbv
  refine AM ?_;have B:=FI (p:=4294967296) B rfl;intro j C;conv=>cbv
  have C:=wrap_u64 C;intro S a8;conv=>cbv
  refine AQ ?_;refine⟨l.length-(i'+1),?_,?_⟩
  ·omega
  rw[I];refine⟨h,n,j.toNat,i'+1,j,S,rfl,rfl,⟨by rw[d,List.length_set];exact ho,by rw[d,List.length_set];exact hn,⟨by omega⟩,by omega,⟨by omega⟩,by omega⟩,?_,rfl⟩;have hs:=K7 (w:=q) (o:=o) (i:=i') (xi:=H.toNat) (yi:=0) (Gd:=K) (Ge:=j.toNat) (by omega) hinv (by omega);rw[d,show G=i' by omega,Cq g,<-hs,EJ (l:=m) (i:=i'+1) (by omega),EJ (l:=m) (i:=i') (by omega),Nat.mul_zero]
  rfl
 have af:=BL Y;obtain⟨a6,M⟩:=AS (l:=m) (i:=i') (by omega);refine⟨a6,fun _=>⟨by omega,by rw[show (i).toNat=i' by omega];exact M⟩,?_⟩;try conv=>cbv
 intro aH Z;have ay:=Z.eq;have f26:=Z.lt;conv=>cbv
 intro aI a1;conv=>cbv
 have a1:=wrap_u64 a1;obtain⟨H,g⟩:=AS (l:=l) (i:=i') (by omega);refine⟨H,fun _=>⟨by omega,by rw[show (i).toNat=i' by omega];exact g⟩,?_⟩;try conv=>cbv
 intro aj r;have a7:=r.eq;have f31:=r.lt;conv=>cbv
 intro ak s;conv=>cbv
 have s:=wrap_u64 s;intro al t;conv=>cbv
 have t:=wrap_u64 t;intro an u;conv=>cbv
 have u:=wrap_u64 u;intro ao v;conv=>cbv
 have v:=wrap_u64 v;intro T A;conv=>cbv
 have A:=wrap_u32 A;refine AM ?_;intro G a5;conv=>cbv
 obtain⟨q,f⟩:=CU (n:=T) (by omega);have U:=f.eq;have V:=f.lt;refine⟨q,fun _=>⟨by show _<List.length (α:=UInt32) o;(first | omega | (simp;omega)),CT f⟩,?_⟩;intro (h:List UInt32) (d:h=List.set (α:=UInt32) o G q);have W:h.length=o.length:=by rw[d,List.length_set]
 conv=>cbv
 intro aq B;conv=>cbv
 refine AM ?_;have B:=FI (p:=4294967296) B rfl;intro j C;conv=>cbv
 have C:=wrap_u64 C;intro S a8;conv=>cbv
 refine AQ ?_;refine⟨l.length-(i'+1),?_,?_⟩
 ·omega
 rw[I];refine⟨h,n,j.toNat,i'+1,j,S,rfl,rfl,⟨by rw[d,List.length_set];exact ho,by rw[d,List.length_set];exact hn,⟨by omega⟩,by omega,⟨by omega⟩,by omega⟩,?_,rfl⟩;have hs:=K7 (w:=q) (o:=o) (i:=i') (xi:=H.toNat) (yi:=a6.toNat) (Gd:=K) (Ge:=j.toNat) (by omega) hinv (by omega);rw[d,show G=i' by omega,Cq g,<-hs,Cq M]
theorem eJ {b:Nat} (hl:l=AW a) (hm:m=AW b) (hz:z=AW (a+b)) (sl:l.length<=17592186044416) (sm:m.length<=17592186044416):CF 355 [.one (.sl .u32 l),.one (.sl .u32 m)] (.one (.sl .u32 z)):=by
 refine AO Tryz.func355 fun E hE=>?_
 conv=>cbv
 rintro n9 ⟨e9,f9⟩;conv=>cbv
 rintro aS ⟨aG,f11⟩;conv=>cbv
 intro aw X;conv=>cbv
 obtain⟨aj,v⟩:=xK fun vs bl=>∃(p q:Nat) (x y:List UInt32),vs=[.one (.sl .u32 x),.one (.sl .u32 y)]/\x=AW p/\y=AW q/\p+q=a+b/\y.length<=x.length/\x.length<=17592186044416
 refine .inl ⟨[0,1],[],aj,?_,?_⟩
 ·intro vs bl hj;rw[v] at hj;obtain⟨p,q,x,y,rfl,hx,hy,an,ao,aQ⟩:=hj;conv=>cbv
  rintro aT ⟨aH,f16⟩;conv=>cbv
  intro aU aN;conv=>cbv
  refine AQ ?_;refine⟨fun _=>⟨by omega,by omega,by show _*4<=140737488355328;omega⟩,?_⟩;intro N (O:List UInt32) L;have aF:=L.1;have A:O=List.replicate N (0:el .u32):=L.2;have aC:O.length=N:=by rw[A,List.length_replicate]
  conv=>cbv
  refine .inr ?_
  obtain⟨J0,G⟩:∃J:List AV->List AR->Nat->Prop,J=fun vs bl k=>∃(o:List UInt32) (n T i':Nat) (c i:Int),vs=[.one (.sl .u32 x),.one (.sl .u32 y),.one (.AZ .u32 18 0 0 n),.one (.int .u64 c),.one (.int .i64 i)]/\
   bl=[.arr 0 .u32 o]/\(o.length=x.length+1/\n=o.length/\Ag i i'/\i'<=x.length/\Ag c T/\T<=1)/\
   AI (o.take i')+2^(32*i')*T=AI (x.take i')+AI (y.take i')/\k=x.length-i':=⟨_,rfl⟩
  refine⟨[],[0,1,5,6,7],[18],J0,⟨x.length-0,by rw[G];exact⟨O,N,0,0,0,0,rfl,rfl,⟨by rw[A,List.length_replicate];omega,by rw[A,List.length_replicate],Bf 0,by omega,Bf 0,by omega⟩,by simp[AI],rfl⟩⟩,?_⟩;intro vs bl aR hj;rw[G] at hj;obtain⟨o,n,T,i',c,i,rfl,rfl,⟨ho,hn,hi,aP,hc,aO⟩,hinv,ae⟩:=hj;conv=>cbv
  have ei:=hi.eq;have ec:=hc.eq;rintro aV ⟨aI,f21⟩;conv=>cbv
  intro ax Y;conv=>cbv
  cases ax <;> conv=>cbv
  ·have ar:=BK Y;rintro b4 ⟨aM,f52⟩;conv=>cbv
   intro az aa;conv=>cbv
   have aa:=wrap_u32 aa;refine AM ?_;intro af aE;conv=>cbv
   obtain⟨R,C⟩:=CU (n:=az) (by omega);have aA:=C.eq;have aB:=C.lt;refine⟨R,fun _=>⟨by show _<List.length (α:=UInt32) o;(first | omega | (simp;omega)),CT C⟩,?_⟩;intro (r:List UInt32) (H:r=List.set (α:=UInt32) o af R);have aD:r.length=o.length:=by rw[H,List.length_set]
   conv=>cbv
   have B:n<=(r).length:=by omega
   obtain⟨av,I⟩:=xN ((CR ((r).take n)).length);obtain⟨al,M⟩:=FR B I;refine .inr (.inr (.inl ⟨[],.one (.AZ .u32 0 0 0 av),.arr 0 .u32 r,fun _=>⟨by first | decide | simp[Ci,Co],trivial⟩,fun _=>⟨E7 hE (G6 B (by omega) I),rfl,rfl⟩,?_⟩));try conv=>cbv
   have ae:i'=x.length:=by omega
   have ab:AI (r.take n)=p+q:=by rw[H,hn,show af=x.length by omega,show o.length=x.length+1 by omega,Fu (by omega),FC,List.length_take,Nat.min_eq_left (by omega),show R.toNat=T by omega];rw[ae,EJ (Nat.le_refl _),EJ ao,hx,hy,BW,BW,<-hx] at hinv;exact hinv
   exact AF ⟨⟨rfl,.inl ⟨_,rfl,by omega,congrArg _ (by rw[List.drop_zero,M,ab,an,hz])⟩,trivial⟩,trivial⟩
  have ar:=BL Y;refine .inr ?_;obtain⟨S,D⟩:=AS (l:=x) (i:=i') (by omega);refine⟨S,fun _=>⟨by omega,by rw[show (i).toNat=i' by omega];exact D⟩,?_⟩;try conv=>cbv
  intro aW Z;have aJ:=Z.eq;have f29:=Z.lt;conv=>cbv
  intro aX a1;conv=>cbv
  have a1:=wrap_u64 a1;intro ag a2;conv=>cbv
  have a2:=wrap_u64 a2;rintro aY ⟨aK,f34⟩;conv=>cbv
  intro ay a5;conv=>cbv
  refine .inr ?_;cases ay <;> conv=>cbv
  ·have au:=BK a5;intro Q t;conv=>cbv
   have t:=wrap_u32 t;refine AM ?_;intro F ad;conv=>cbv
   obtain⟨j,f⟩:=CU (n:=Q) (by omega);have U:=f.eq;have V:=f.lt;refine⟨j,fun _=>⟨by show _<List.length (α:=UInt32) o;(first | omega | (simp;omega)),CT f⟩,?_⟩;intro (g:List UInt32) (d:g=List.set (α:=UInt32) o F j);have W:g.length=o.length:=by rw[d,List.length_set]
   conv=>cbv
   intro h u;conv=>cbv
   refine AM ?_;have u:=FI (p:=4294967296) u rfl;intro P ak;conv=>cbv
   refine AQ ?_;refine⟨x.length-(i'+1),?_,?_⟩
   ·omega
   rw[G];refine⟨g,n,h.toNat,i'+1,h,P,rfl,rfl,⟨by rw[d,List.length_set];exact ho,by rw[d,List.length_set];exact hn,⟨by omega⟩,by omega,⟨by omega⟩,by omega⟩,?_,rfl⟩;have hs:=N0 (o:=o.take i') (i:=i') (xi:=S.toNat) (yi:=0) (s:=ag.toNat) (w:=j) (by rw[List.length_take];omega) hinv (by omega) (by omega);rw[d,show F=i' by omega,Fu (by omega),Cq D,EJ (l:=y) (i:=i'+1) (by omega)];rw[show h.toNat=ag.toNat/4294967296 by omega];rw[hs];rw[EJ (l:=y) (i:=i') (by omega)];omega
  have au:=BL a5;obtain⟨ai,K⟩:=AS (l:=y) (i:=i') (by omega);refine⟨ai,fun _=>⟨by omega,by rw[show (i).toNat=i' by omega];exact K⟩,?_⟩;try conv=>cbv
  intro aZ a6;have aL:=a6.eq;have f40:=a6.lt;conv=>cbv
  intro b0 a7;conv=>cbv
  have a7:=wrap_u64 a7;intro ah a8;conv=>cbv
  have a8:=wrap_u64 a8;intro Q t;conv=>cbv
  have t:=wrap_u32 t;refine AM ?_;intro F ad;conv=>cbv
  obtain⟨j,f⟩:=CU (n:=Q) (by omega);have U:=f.eq;have V:=f.lt;refine⟨j,fun _=>⟨by show _<List.length (α:=UInt32) o;(first | omega | (simp;omega)),CT f⟩,?_⟩;intro (g:List UInt32) (d:g=List.set (α:=UInt32) o F j);have W:g.length=o.length:=by rw[d,List.length_set]
  conv=>cbv
  intro h u;conv=>cbv
  refine AM ?_;have u:=FI (p:=4294967296) u rfl;intro P ak;conv=>cbv
  refine AQ ?_;refine⟨x.length-(i'+1),?_,?_⟩
  ·omega
  rw[G];refine⟨g,n,h.toNat,i'+1,h,P,rfl,rfl,⟨by rw[d,List.length_set];exact ho,by rw[d,List.length_set];exact hn,⟨by omega⟩,by omega,⟨by omega⟩,by omega⟩,?_,rfl⟩;have hs:=N0 (o:=o.take i') (i:=i') (xi:=S.toNat) (yi:=ai.toNat) (s:=ah.toNat) (w:=j) (by rw[List.length_take];omega) hinv (by omega) (by omega);rw[d,show F=i' by omega,Fu (by omega),Cq D,Cq K];rw[show h.toNat=ah.toNat/4294967296 by omega];rw[hs]
 cases aw <;> conv=>cbv
 ·have aq:=BK X;rw[v];exact⟨a,b,_,_,rfl,hl,hm,rfl,by omega,by omega⟩
 have aq:=BL X;rw[v];exact⟨b,a,_,_,rfl,hm,hl,Nat.add_comm _ _,by omega,by omega⟩
end Go.Abs
namespace Go.Abs
open Go.RowKit
variable {b1 b2 b3:Bool} {l l1 l2 l3:List UInt32} {x y:Int}
theorem Ks {i:Nat} {x:UInt32} (h:l[i]? =some x):l.getD i 0=x:=by rw[List.getD_eq_getElem?_getD,h];rfl
theorem gN:Cg (x-y)=Bv x y:=by
 unfold Bv Cg
 split <;> split <;> (try split) <;> (try split) <;> omega
theorem VX {m z:List UInt32} {a b:Nat} (hl:AI l=a) (hm:AI m=b) (hz:z=AW (a*b)) (sl:l.length<=17592186044416) (sm:m.length<=17592186044416):CF 358 [.one (.sl .u32 l),.one (.sl .u32 m)] (.one (.sl .u32 z)):=by
 refine AO Tryz.func358 fun E hE=>?_
 conv=>cbv
 rintro n10 ⟨e10,f10⟩;conv=>cbv
 rintro n12 ⟨e12,f12⟩;conv=>cbv
 intro n13 h13;conv=>cbv
 refine AQ ?_;refine⟨fun _=>⟨by omega,by omega,by show _*4<=140737488355328;omega⟩,?_⟩;intro k14 (l14:List UInt32) ql14;have hk14:=ql14.1;have hl14:l14=List.replicate k14 (0:el .u32):=ql14.2;have gl14:l14.length=k14:=by rw[hl14,List.length_replicate]
 conv=>cbv
 refine .inr ?_
 obtain⟨J0,hJ0⟩:∃J:List AV->List AR->Nat->Prop,J=fun vs bl k=>∃(o:List UInt32) (n i':Nat) (i:Int),vs=[.one (.sl .u32 l),.one (.sl .u32 m),.one (.AZ .u32 14 0 0 n),.one (.int .i64 i)]/\
  bl=[.arr 0 .u32 o]/\(o.length=l.length+m.length/\n=o.length/\Ag i i'/\i'<=l.length)/\
  AI (o.take (i'+m.length))=AI (l.take i')*AI m/\k=l.length-i':=⟨_,rfl⟩
 refine⟨[],[0,1,5,6],[14],J0,⟨l.length-0,by rw[hJ0];exact⟨l14,k14,0,0,rfl,rfl,⟨by rw[hl14,List.length_replicate];omega,by rw[hl14,List.length_replicate],Bf 0,by omega⟩,by rw[hl14,List.take_replicate,Ij];simp[AI],rfl⟩⟩,?_⟩;intro vs bl kk0 hj;rw[hJ0] at hj;obtain⟨o,n,i',i,rfl,rfl,⟨ho,hn,hi,hiL⟩,hinv,hk0⟩:=hj;conv=>cbv
 have ei:=hi.eq;rintro n17 ⟨e17,f17⟩;conv=>cbv
 intro n18 h18;conv=>cbv
 cases n18 <;> conv=>cbv
 ·have k18:=BK h18;have hnl66:n<=(o).length:=by omega
  obtain⟨m66,hm66⟩:=xN ((CR ((o).take n)).length);obtain⟨hle66,htk66⟩:=FR hnl66 hm66;refine .inr (.inr (.inl ⟨[],.one (.AZ .u32 0 0 0 m66),.arr 0 .u32 o,fun _=>⟨by first | decide | simp[Ci,Co],trivial⟩,fun _=>⟨E7 hE (G6 hnl66 (by omega) hm66),rfl,rfl⟩,?_⟩));try conv=>cbv
  have hfin:AI (o.take n)=a*b:=by rw[show i'=l.length by omega,List.take_length,hl,hm,<-ho,List.take_length] at hinv;rw[hn,List.take_length,hinv]
  exact AF ⟨⟨rfl,.inl ⟨_,rfl,by omega,congrArg _ (by rw[List.drop_zero,htk66,hfin,hz])⟩,trivial⟩,trivial⟩
 have k18:=BL h18;refine .inr ?_;refine .inr ?_
 obtain⟨J1,hJ1⟩:∃J:List AV->List AR->Nat->Prop,J=fun vs bl k=>∃(o1:List UInt32) (n1 c' k':Nat) (c i1:Int),vs=[.one (.sl .u32 l),.one (.sl .u32 m),.one (.AZ .u32 14 0 0 n1),.one (.int .i64 i),.one (.int .u64 c),.one (.int .i64 i1)]/\
  bl=[.arr 0 .u32 o1]/\(o1.length=l.length+m.length/\n1=o1.length/\Ag i1 k'/\k'<=m.length/\Ag c c'/\c'<4294967296)/\
  AI (o1.take (i'+m.length))+2^(32*(i'+k'))*c'=AI (l.take i')*AI m+(l.getD i' 0).toNat*2^(32*i')*AI (m.take k')/\k=m.length-k':=⟨_,rfl⟩
 refine⟨[],[0,1,5,6,7,8],[14],J1,⟨m.length-0,by rw[hJ1];exact⟨o,n,0,0,0,0,rfl,rfl,⟨ho,hn,Bf 0,by omega,Bf 0,by omega⟩,by rw[hinv];simp[AI],rfl⟩⟩,?_⟩;intro vs bl kk1 hj;rw[hJ1] at hj;obtain⟨o1,n1,c',k',c,i1,rfl,rfl,⟨ho1,hn1,hi1,hiL1,hc,hc1⟩,hinv1,hk1⟩:=hj;conv=>cbv
 have ei1:=hi1.eq;have ec:=hc.eq;rintro n23 ⟨e23,f23⟩;conv=>cbv
 intro n24 h24;conv=>cbv
 cases n24 <;> conv=>cbv
 ·have k24:=BK h24;rintro n60 ⟨e60,f60⟩;conv=>cbv
  intro n61 h61;conv=>cbv
  refine AQ ?_;intro n63 h63;conv=>cbv
  have h63:=wrap_u32 h63;refine AM ?_;intro j64 hj64;conv=>cbv
  obtain⟨w64,hw64⟩:=CU (n:=n63) (by omega);have ew64:=hw64.eq;have fw64:=hw64.lt;refine⟨w64,fun _=>⟨by show _<List.length (α:=UInt32) o1;(first | omega | (simp;omega)),CT hw64⟩,?_⟩;intro (l64:List UInt32) (hl64:l64=List.set (α:=UInt32) o1 j64 w64);have gl64:l64.length=o1.length:=by rw[hl64,List.length_set]
  conv=>cbv
  intro n20 h20;conv=>cbv
  refine AQ ?_;refine⟨l.length-(i'+1),?_,?_⟩
  ·omega
  rw[hJ0];refine⟨l64,n1,i'+1,n20,rfl,rfl,⟨by rw[hl64,List.length_set];exact ho1,by rw[hl64,List.length_set];exact hn1,⟨by omega⟩,by omega⟩,?_,rfl⟩;obtain⟨ai,hai⟩:=AS (l:=l) (i:=i') (by omega);have hk:k'=m.length:=by omega
  have hlen:i'+m.length<o1.length:=by omega
  rw[hl64,show i'+1+m.length=i'+m.length+1 by omega,show j64=i'+m.length by omega,Fu hlen,FC,List.length_take,Nat.min_eq_left (by omega),show w64.toNat=c' by omega];rw[hk,Ks hai] at hinv1;rw[hinv1,List.take_length,Cq hai]
  grind
 have k24:=BL h24;refine .inr ?_;intro n31 h31;conv=>cbv
 refine AQ ?_;refine AM ?_;intro j32 hj32;conv=>cbv
 obtain⟨x33,hx33⟩:=AS (l:=o1) (i:=j32) (by omega);refine⟨x33,fun _=>hx33,?_⟩;try conv=>cbv
 intro n33 h33;have e33:=h33.eq;have f33:=h33.lt;conv=>cbv
 intro n34 h34;conv=>cbv
 have h34:=wrap_u64 h34;intro n35 h35;conv=>cbv
 have h35:=wrap_u64 h35;obtain⟨x38,hx38⟩:=AS (l:=l) (i:=i') (by omega);refine⟨x38,fun _=>⟨by omega,by rw[show (i).toNat=i' by omega];exact hx38⟩,?_⟩;try conv=>cbv
 intro n39 h39;have e39:=h39.eq;have f39:=h39.lt;conv=>cbv
 intro n40 h40;conv=>cbv
 have h40:=wrap_u64 h40;obtain⟨x43,hx43⟩:=AS (l:=m) (i:=k') (by omega);refine⟨x43,fun _=>⟨by omega,by rw[show (i1).toNat=k' by omega];exact hx43⟩,?_⟩;try conv=>cbv
 intro n44 h44;have e44:=h44.eq;have f44:=h44.lt;conv=>cbv
 intro n45 h45;conv=>cbv
 have h45:=wrap_u64 h45;have ep:n40*n45=((x38.toNat*x43.toNat:Nat):Int):=by rw[Int.natCast_mul];congr 1 <;> omega
 have bp:x38.toNat*x43.toNat<=4294967295*4294967295:=Nat.mul_le_mul (by omega) (by omega);intro n46 h46;conv=>cbv
 have h46:=wrap_u64 h46;intro n47 h47;conv=>cbv
 have h47:=wrap_u64 h47;refine g2 rfl ?_;intro E2 h51;conv=>cbv
 refine AQ ?_;intro EI h53;conv=>cbv
 have h53:=wrap_u32 h53;refine AM ?_;intro j54 hj54;conv=>cbv
 obtain⟨w54,hw54⟩:=CU (n:=EI) (by omega);have ew54:=hw54.eq;have fw54:=hw54.lt;refine⟨w54,fun _=>⟨by show _<List.length (α:=UInt32) o1;(first | omega | (simp;omega)),CT hw54⟩,?_⟩;intro (l54:List UInt32) (hl54:l54=List.set (α:=UInt32) o1 j54 w54);have gl54:l54.length=o1.length:=by rw[hl54,List.length_set]
 conv=>cbv
 intro n56 h56;conv=>cbv
 refine AM ?_;have h56:=FI (p:=4294967296) h56 rfl;intro n26 h26;conv=>cbv
 refine AQ ?_;refine⟨m.length-(k'+1),?_,?_⟩
 ·omega
 rw[hJ1];refine⟨l54,n1,n56.toNat,k'+1,n56,n26,rfl,rfl,⟨by rw[hl54,List.length_set];exact ho1,by rw[hl54,List.length_set];exact hn1,⟨by omega⟩,by omega,⟨by omega⟩,by omega⟩,?_,rfl⟩;have hj:j54=i'+k':=by omega
 have hj2:j32=i'+k':=by omega
 rw[hj2] at hx33;rw[Ks hx38] at hinv1;rw[hl54,hj,Cq hx43,show i'+(k'+1)=i'+k'+1 by omega,Ks hx38];refine UB (q:=x33) (xi:=x38.toNat) (yk:=x43.toNat) (old:=x33.toNat) (c:=c') rfl (by omega) hx33 rfl hinv1 ?_ rfl;rw[ep] at h46;omega
theorem EN (k:BH x b1 l1) (o:BH y b2 l2) (p:BH (x*y) b3 l3) (s1:l1.length<=17592186044416) (s2:l2.length<=17592186044416):CF 335 [.agg (Bi b1 l1),.agg (Bi b2 l2)] (.agg (Bi b3 l3)):=by
 refine AO Tryz.func335 fun E i=>?_
 conv=>cbv
 refine AB i (I4 k) ?_;conv=>cbv
 refine AB i (I4 o) ?_;conv=>cbv
 refine g2 rfl ?_;intro q j;conv=>cbv
 obtain⟨s,f⟩:=xU (AW (x.natAbs*y.natAbs));refine AB i (VX k.nat o.nat f s1 s2) ?_;conv=>cbv
 obtain⟨g,h,d⟩:=BE (x*y);refine AB (r:= .agg [.bool g,.sl .u32 h]) i (HM (by rw[f,BW,j];exact YT k.neg o.neg) d) ?_;try conv=>cbv
 refine g2 rfl ?_;exact AF ⟨⟨rfl,congrArg _ ((d.uniq p rfl).1.symm),congrArg _ ((d.uniq p rfl).2.symm),trivial⟩,trivial⟩
theorem KX (s:BH x b1 l1) (t:BH y b2 l2) (u:BH (x+y) b3 l3) (s1:l1.length<=17592186044416) (s2:l2.length<=17592186044416):CF 334 [.agg (Bi b1 l1),.agg (Bi b2 l2)] (.agg (Bi b3 l3)):=by
 refine AO Tryz.func334 fun E j=>?_
 conv=>cbv
 refine AB j (I4 s) ?_;conv=>cbv
 refine AB j (I4 t) ?_;conv=>cbv
 refine g2 rfl ?_;intro H v;conv=>cbv
 cases H <;> conv=>cbv
 ·have k:=WB v;obtain⟨L,f⟩:=xI (Bv x.natAbs y.natAbs);refine AB j (Nh s.Bj t.Bj f) ?_;conv=>cbv
  intro I w;conv=>cbv
  cases I <;> conv=>cbv
  ·have d:=F0 w;obtain⟨K,q⟩:=xU (AW (y.natAbs-x.natAbs));refine AB (r:= .one (.sl .u32 K)) j (QA t.Bj s.Bj q (by rw[f] at d;have:=JD d;omega) s2) ?_;try conv=>cbv
   obtain⟨C,G,i⟩:=BE (x+y);refine AB (r:= .agg [.bool C,.sl .u32 G]) j (HM (by rw[q,BW];rw[f] at d;exact Nk s.neg t.neg k (by have:=JD d;omega)) i) ?_;try conv=>cbv
   refine g2 rfl ?_;exact AF ⟨⟨rfl,congrArg _ ((i.uniq u rfl).1.symm),congrArg _ ((i.uniq u rfl).2.symm),trivial⟩,trivial⟩
  have d:=F1 w;obtain⟨J,p⟩:=xU (AW (x.natAbs-y.natAbs));refine AB (r:= .one (.sl .u32 J)) j (QA s.Bj t.Bj p (by rw[f] at d;have:=JC d;omega) s1) ?_;try conv=>cbv
  obtain⟨B,F,h⟩:=BE (x+y);refine AB (r:= .agg [.bool B,.sl .u32 F]) j (HM (by rw[p,BW,Int.add_comm];rw[f] at d;exact Nk t.neg s.neg (Ne.symm k) (by have:=JC d;omega)) h) ?_;try conv=>cbv
  refine g2 rfl ?_;exact AF ⟨⟨rfl,congrArg _ ((h.uniq u rfl).1.symm),congrArg _ ((h.uniq u rfl).2.symm),trivial⟩,trivial⟩
 have k:=WC v;obtain⟨M,o⟩:=xU (AW (x.natAbs+y.natAbs));refine AB j (eJ s.Bj t.Bj o s1 s2) ?_;conv=>cbv
 obtain⟨A,D,g⟩:=BE (x+y);refine AB (r:= .agg [.bool A,.sl .u32 D]) j (HM (by rw[o,BW];exact add_same s.neg (k.trans t.neg)) g) ?_;try conv=>cbv
 refine g2 rfl ?_;exact AF ⟨⟨rfl,congrArg _ ((g.uniq u rfl).1.symm),congrArg _ ((g.uniq u rfl).2.symm),trivial⟩,trivial⟩
theorem VH (o:BH x b1 l1) (j:BH y b2 l2) (k:BH (x-y) b3 l3) (s1:l1.length<=17592186044416) (s2:l2.length<=17592186044416):CF 370 [.agg (Bi b1 l1),.agg (Bi b2 l2)] (.agg (Bi b3 l3)):=by
 refine AO Tryz.func370 fun E i=>?_
 conv=>cbv
 obtain⟨p,q,d⟩:=BE (-y);refine AB i (Ly j d) ?_;conv=>cbv
 obtain⟨g,h,f⟩:=BE (x-y);refine AB (r:= .agg [.bool g,.sl .u32 h]) i (KX o d f s1 (by rw[d.Bj,Int.natAbs_neg,<-j.Bj];exact s2)) ?_;try conv=>cbv
 refine g2 rfl ?_;exact AF ⟨⟨rfl,congrArg _ ((f.uniq k rfl).1.symm),congrArg _ ((f.uniq k rfl).2.symm),trivial⟩,trivial⟩
theorem dE (h:BH x b1 l1) (i:BH y b2 l2) {c:Int} (hc:c=Bv x y) (s1:l1.length<=17592186044416) (s2:l2.length<=17592186044416):CF 389 [.agg (Bi b1 l1),.agg (Bi b2 l2)] (.one (.int .i64 c)):=by
 refine AO Tryz.func389 fun E g=>?_
 conv=>cbv
 obtain⟨j,k,f⟩:=BE (x-y);refine AB g (VH h i f s1 s2) ?_;conv=>cbv
 obtain⟨o,d⟩:=xI (Cg (x-y));refine AB g (KY f d) ?_;conv=>cbv
 exact AF ⟨⟨rfl,congrArg _ (by rw[hc,d,gN]),trivial⟩,trivial⟩
end Go.Abs
namespace Go.Abs
open Go.RowKit
variable {c:Int} {l:List UInt32} {n x:Nat}
theorem kE (h:0<x):DF x=DF (x/2)+1:=by
 by_cases g:x=1
 ·subst g;decide
 have f:x/2≠0:=by omega
 unfold DF;rw[if_neg (by omega),if_neg f];have a:=Nat.log2_self_le f;have b:=Nat.lt_log2_self (n:=x/2);have c:Nat.log2 (x/2)+1<=Nat.log2 x:=(Nat.le_log2 (by omega)).2 (by rw[Nat.pow_succ];omega);have d:Nat.log2 x<Nat.log2 (x/2)+2:=(Nat.log2_lt (by omega)).2 (by rw[Nat.pow_succ,Nat.pow_succ];rw[Nat.pow_succ] at b;omega);omega
theorem Oo (h:0<x):2^(DF x-1)<=x/\x<2^DF x/\1<=DF x:=by
 unfold DF;rw[if_neg (by omega)];exact⟨by rw[Nat.add_sub_cancel];exact Nat.log2_self_le (by omega),Nat.lt_log2_self,by omega⟩
theorem YX (h:x<4294967296):DF x<=32:=by
 unfold DF
 split
 ·omega
 rename_i d
 have:=(Nat.log2_lt d).2 (show x<2^32 by omega);omega
theorem fR {y r:Nat} (f:n<=32:=by omega):(x+4294967296*(y+4294967296*r))/2^n%4294967296=(x+4294967296*y)/2^n%4294967296:=by
 have d:2^n*2^(32-n)=4294967296:=by rw[<-Nat.pow_add,show n+(32-n)=32 by omega]
 have e:x+4294967296*(y+4294967296*r)=x+4294967296*y+2^n*(2^(32-n)*r*4294967296):=by
  rw[<-Nat.mul_assoc,<-Nat.mul_assoc,d];grind
 rw[e,Nat.add_mul_div_left _ _ (Nat.two_pow_pos n),Nat.add_mul_mod_self_right]
theorem kj {n a b:Int} {p q:Nat} (h:n=IntKind.u64.wrap (BitVec.ofInt IntKind.u64.bits a ||| BitVec.ofInt IntKind.u64.bits b).toNat) (ha:a=q) (hb:b=((p*4294967296:Nat):Int)) (g:p<4294967296) (f:q<4294967296):n=((q+4294967296*p:Nat):Int):=by
 rw[Y5 h ha hb (by omega) (by omega),Nat.mul_comm];have:=LH (a:=q) (b:=p) (d:=32) f;exact congrArg _ this
theorem nU {X V top high P R0 V0:Nat} (h:X=top*P+R0) (hR:R0<P) (hV:V=high*P+V0) (i:0<high):X/V<=top/high:=by
 have f:0<P:=by omega
 have d:X/V<=X/(high*P):=Nat.div_le_div_left (by omega) (Nat.mul_pos i f);have g:X/(high*P)=X/P/high:=by rw[Nat.mul_comm,Nat.div_div_eq_div_mul]
 have h3:X/P=top:=by rw[h,Nat.mul_comm,Nat.mul_add_div f,Nat.div_eq_of_lt hR,Nat.add_zero]
 rw[g,h3] at d;exact d
theorem VW (hl:l.length<=2) (hc:Ag c (AI l)):CF 364 [.one (.sl .u32 l)] (.one (.int .u64 c)):=by
 refine AO Tryz.func364 fun E Z=>?_
 conv=>cbv
 rintro n6 ⟨W,f6⟩;conv=>cbv
 intro U Y;conv=>cbv
 refine AQ ?_;refine .inr ?_;obtain⟨H,h⟩:=xJ fun vs I k=>∃(f o:Nat) (r j:Int),vs=[.one (.sl .u32 l),.one (.int .u64 r),.one (.int .i64 j)]/\(Ag (j+1) f/\f<=l.length/\Ag r o)/\o=AI (l.drop f)/\k=f
 refine⟨[],[0,3,4],[],H,⟨l.length,by rw[h];exact⟨l.length,0,0,U,rfl,⟨⟨by omega⟩,by omega,Bf 0⟩,by rw[List.drop_length];rfl,rfl⟩⟩,?_⟩;intro vs I R w;rw[h] at w;obtain⟨f,o,r,j,rfl,⟨w,M,P⟩,hinv,O⟩:=w;conv=>cbv
 have X:=w.eq;have K:=P.eq;intro V F;conv=>cbv
 cases V <;> conv=>cbv
 ·have Q:=F0 F;have N:f=0:=by omega
  rw[N,List.drop_zero] at hinv;exact AF ⟨⟨rfl,congrArg _ (by rw[hc.eq,K,hinv]),trivial⟩,trivial⟩
 have Q:=F1 F;refine .inr ?_;intro B s;conv=>cbv
 refine AM ?_;have s:=KN (p:=4294967296) s rfl;obtain⟨i',rfl⟩:∃i',f=i'+1:=⟨f-1,by omega⟩
 have G:o<4294967296:=by have:=Cy (l.drop (i'+1));rw[<-hinv] at this;exact Nat.lt_of_lt_of_le this (Nat.pow_le_pow_right (by decide) (by rw[List.length_drop];omega:32*(l.drop (i'+1)).length<=32))
 obtain⟨v,d⟩:=AS (l:=l) (i:=i') (by omega);refine⟨v,fun _=>⟨by omega,by rw[show (j).toNat=i' by omega];exact d⟩,?_⟩;try conv=>cbv
 intro S t;have J:=t.eq;have f17:=t.lt;conv=>cbv
 intro T u;conv=>cbv
 have u:=wrap_u64 u;intro C g;conv=>cbv
 have D:B=((o*4294967296:Nat):Int):=by clear hinv;omega
 have g:=KE (p:=o) (q:=v.toNat) g (by omega) (by omega) (by omega) (by omega);intro A L;conv=>cbv
 refine AQ ?_;refine⟨i',?_,?_⟩
 ·omega
 rw[h];refine⟨i',_,C,A,rfl,⟨⟨by omega⟩,by omega,⟨g⟩⟩,?_,rfl⟩;rw[EP d,hinv]
theorem dh {z1:List UInt32} {d:Int} {b:Nat} (hd:Ag d b) (hb:0<b) (aB:b<4294967296) (a8:z1=AW (AI l/b)) (hc:Ag c (AI l%b)) (sl:l.length<=17592186044416):CF 365 [.one (.sl .u32 l),.one (.int .u32 d)] (.AG [(false,[.sl .u32 z1]),(false,[.int .u32 c])]):=by
 have ed:=hd.eq;refine AO Tryz.func365 fun E hE=>?_
 conv=>cbv
 rintro aG ⟨aw,f10⟩;conv=>cbv
 refine⟨fun _=>⟨by omega,by omega,by show _*4<=140737488355328;omega⟩,?_⟩;intro N (O:List UInt32) F;have av:=F.1;have h:O=List.replicate N (0:el .u32):=F.2;have aq:O.length=N:=by rw[h,List.length_replicate]
 conv=>cbv
 rintro aH ⟨ax,f13⟩;conv=>cbv
 intro ad az;conv=>cbv
 refine AQ ?_;refine .inr ?_
 obtain⟨J0,K⟩:∃J:List AV->List AR->Nat->Prop,J=fun vs bl k=>∃(o:List UInt32) (m g w:Nat) (r j:Int),vs=[.one (.sl .u32 l),.one (.int .u32 d),.one (.AZ .u32 11 0 0 m),.one (.int .u64 r),.one (.int .i64 j)]/\
  bl=[.arr 0 .u32 o]/\(o.length=l.length/\m=o.length/\Ag (j+1) w/\w<=l.length/\Ag r g/\g<b)/\
  AI (l.drop w)=AI (o.drop w)*b+g/\k=w:=⟨_,rfl⟩
 refine⟨[],[0,1,6,7,8],[11],J0,⟨l.length,by rw[K];exact⟨O,N,0,l.length,0,ad,rfl,rfl,⟨by rw[h,List.length_replicate];omega,by rw[h,List.length_replicate],⟨by omega⟩,by omega,Bf 0,hb⟩,by rw[List.drop_length,List.drop_eq_nil_of_le (by rw[h,List.length_replicate];omega)];simp[AI],rfl⟩⟩,?_⟩;intro vs bl aF Y;rw[K] at Y;obtain⟨o,m,g,w,r,j,rfl,rfl,⟨ho,hm,Y,aC,hr,L⟩,hinv,aD⟩:=Y;conv=>cbv
 have ej:=Y.eq;have er:=hr.eq;intro ae S;conv=>cbv
 cases ae <;> conv=>cbv
 ·have aa:=F0 S;have s:m<=(o).length:=by omega
  obtain⟨ab,C⟩:=xN ((CR ((o).take m)).length);obtain⟨a6,M⟩:=FR s C;refine .inr (.inr (.inl ⟨[],.one (.AZ .u32 0 0 0 ab),.arr 0 .u32 o,fun _=>⟨by first | decide | simp[Ci,Co],trivial⟩,fun _=>⟨E7 hE (G6 s (by omega) C),rfl,rfl⟩,?_⟩));try conv=>cbv
  intro aL X;conv=>cbv
  have X:=wrap_u32 X;have hk:w=0:=by omega
  rw[hk,List.drop_zero,List.drop_zero] at hinv;have hq:AI o=AI l/b:=by rw[hinv,Nat.add_comm,Nat.add_mul_div_right _ _ hb,Nat.div_eq_of_lt L,Nat.zero_add]
  have a7:g=AI l%b:=by rw[hinv,Nat.add_comm,Nat.add_mul_mod_self_right,Nat.mod_eq_of_lt L]
  exact AF ⟨⟨rfl,.inl ⟨_,rfl,by omega,congrArg _ (by rw[List.drop_zero,M,a8,hm,List.take_length,hq])⟩,trivial⟩,⟨rfl,congrArg _ (by rw[hc.eq,<-a7];omega),trivial⟩,trivial⟩
 have aa:=F1 S;refine .inr ?_;intro ag G;conv=>cbv
 refine AM ?_;have G:=KN (p:=4294967296) G rfl;have G:ag=((g*4294967296:Nat):Int):=by clear hinv;omega
 obtain⟨i',rfl⟩:∃i',w=i'+1:=⟨w-1,by omega⟩
 obtain⟨f,D⟩:=AS (l:=l) (i:=i') (by omega);refine⟨f,fun _=>⟨by omega,by rw[show (j).toNat=i' by omega];exact D⟩,?_⟩;try conv=>cbv
 intro aI T;have ay:=T.eq;have f24:=T.lt;conv=>cbv
 intro aJ U;conv=>cbv
 have U:=wrap_u64 U;intro aK v;conv=>cbv
 have v:=KE (p:=g) (q:=f.toNat) v (by omega) (by omega) (by omega) (by omega);intro ah V;conv=>cbv
 have V:=wrap_u64 V;intro ai H;conv=>cbv
 refine AM ?_;have H:=wrap_u64 H;intro aj I;conv=>cbv
 have I:=wrap_u32 I;have Z:ah=(b:Int):=by omega
 have a1:ai=(((f.toNat+4294967296*g)/b:Nat):Int):=by rw[H,v,Z,<-Int.natCast_ediv];have:=Nat.div_le_self (f.toNat+4294967296*g) b;generalize (f.toNat+4294967296*g)/b=Q at *;clear hinv;omega
 refine AM ?_;intro A au;conv=>cbv
 obtain⟨u,t⟩:=CU (n:=aj) (by omega);have an:=t.eq;have ao:=t.lt;refine⟨u,fun _=>⟨by show _<List.length (α:=UInt32) o;(first | omega | (simp;omega)),CT t⟩,?_⟩;intro (P:List UInt32) (B:P=List.set (α:=UInt32) o A u);have ar:P.length=o.length:=by rw[B,List.length_set]
 conv=>cbv
 intro ak W;conv=>cbv
 have W:=wrap_u64 W;intro al a5;conv=>cbv
 refine AM ?_;intro af aA;conv=>cbv
 refine AQ ?_;refine⟨i',?_,?_⟩
 ·omega
 rw[K];have a2:ak=(b:Int):=by omega
 have h5:=Nat.div_add_mod (f.toNat+4294967296*g) b;refine⟨P,m,(f.toNat+4294967296*g)%b,i',al,af,rfl,rfl,⟨by omega,by omega,⟨by omega⟩,by omega,⟨by rw[a5,v,a2];simp⟩,Nat.mod_lt _ hb⟩,?_,rfl⟩
 have aE:(f.toNat+4294967296*g)/b<4294967296:=Nat.div_lt_of_lt_mul (by
  have:4294967296*(g+1)<=4294967296*b:=Nat.mul_le_mul_left _ L;rw[Nat.mul_comm b];omega)
 have ew:u.toNat=(f.toNat+4294967296*g)/b:=by
  rw[a1] at I
  generalize (f.toNat+4294967296*g)/b=Q at*
  clear hinv
  omega
 rw[EP D,hinv,B,EP (l:=o.set A u) (i:=i') (x:=u) (by rw[show A=i' by omega,List.getElem?_set_self (by omega)]),show A=i' by omega,List.drop_set_of_lt (by omega),ew]
 generalize (f.toNat+4294967296*g)/b=Q at*
 generalize (f.toNat+4294967296*g)%b=R at*
 grind
theorem VQ {a:Nat} (u:l=AW a) (hc:Ag c (DF a)) (sl:l.length<=17592186044416):CF 366 [.one (.sl .u32 l)] (.one (.int .i64 c)):=by
 refine AO Tryz.func366 fun E hE=>?_
 conv=>cbv
 rintro n6 ⟨e6,f6⟩;conv=>cbv
 intro n7 I;conv=>cbv
 cases n7 <;> conv=>cbv
 ·have Z:=BR I;rintro a2 ⟨N,f10⟩;conv=>cbv
  intro C Q;conv=>cbv
  refine AQ ?_;obtain⟨f,g⟩:=AS (l:=l) (i:=(l.length-1)) (by omega);refine⟨f,fun _=>⟨by omega,by rw[show (C).toNat=(l.length-1) by omega];exact g⟩,?_⟩;try conv=>cbv
  intro D o;have O:=o.eq;have f13:=o.lt;conv=>cbv
  refine .inr ?_;obtain⟨L,h⟩:=xJ fun vs M k=>∃(t x':Nat) (n x:Int),vs=[.one (.sl .u32 l),.one (.int .i64 n),.one (.int .u32 x)]/\(Ag n t/\Ag x x'/\x'<4294967296)/\t+DF x'=DF f.toNat/\k=x'
  refine⟨[],[0,3,4],[],L,⟨f.toNat,by rw[h];exact⟨0,f.toNat,0,D,rfl,⟨Bf 0,⟨by omega⟩,by omega⟩,Nat.zero_add _,rfl⟩⟩,?_⟩;intro vs M a1 J;rw[h] at J;obtain⟨t,x',n,x,rfl,⟨X,Y,K⟩,hinv,W⟩:=J;conv=>cbv
  have en:=X.eq;have ex:=Y.eq;have V:=YX (x:=f.toNat) (by omega);intro F p;conv=>cbv
  cases F <;> conv=>cbv
  ·have B:=Cc p;rintro a5 ⟨P,f21⟩;conv=>cbv
   intro a6 S;conv=>cbv
   refine AQ ?_;intro a7 T;conv=>cbv
   refine AQ ?_;intro a8 U;conv=>cbv
   refine AQ ?_;have d:=g;rw[u] at d;have s:(AW a).length-1+1=(AW a).length:=by rw[<-u];omega
   have A:=MF d s;have w:=Oo (x:=f.toNat) (by omega);have r:=QW d s w.1 w.2.1 w.2.2;have j:x'=0:=by omega
   have v:DF 0=0:=rfl;rw[j,v] at hinv;rw[<-u] at r;exact AF ⟨⟨rfl,congrArg _ (by rw[hc.eq,r];omega),trivial⟩,trivial⟩
  have B:=Cd p;refine .inr ?_;intro H R;conv=>cbv
  refine AQ ?_;intro G q;conv=>cbv
  refine AM ?_;have q:=wrap_u32 q;have j:0<x':=by omega
  refine⟨x'/2,?_,?_⟩
  ·omega
  rw[h];refine⟨t+1,x'/2,H,G,rfl,⟨⟨by omega⟩,⟨by omega⟩,by omega⟩,?_,rfl⟩;have:=kE j;omega
 have Z:=BS I;have v:a=0:=GB.1 (by rw[<-u];exact List.eq_nil_of_length_eq_zero (by omega));exact AF ⟨⟨rfl,congrArg _ (by rw[hc.eq,v];rfl),trivial⟩,trivial⟩
theorem VU {z:List UInt32} {s:Int} {zn:Nat} (hs:Ag s n) (hn:n<=31) (aD:z.length=l.length+1) (aa:AI z=AI l*2^n) (aE:zn=z.length) (sl:l.length<=17592186044416):CF 367 [.one (.sl .u32 l),.one (.int .i64 s)] (.one (.own .u32 z zn)):=by
 have es:=hs.eq;refine AO Tryz.func367 fun E hE=>?_
 conv=>cbv
 rintro n9 ⟨e9,f9⟩;conv=>cbv
 intro aG ay;conv=>cbv
 refine AQ ?_;refine⟨fun _=>⟨by omega,by omega,by show _*4<=140737488355328;omega⟩,?_⟩;intro G (H:List UInt32) C;have av:=C.1;have f:H=List.replicate G (0:el .u32):=C.2;have al:H.length=G:=by rw[f,List.length_replicate]
 conv=>cbv
 refine .inr ?_
 obtain⟨J0,D⟩:∃J:List AV->List AR->Nat->Prop,J=fun vs bl k=>∃(o:List UInt32) (c:UInt32) (m i':Nat) (i:Int),vs=[.one (.sl .u32 l),.one (.int .i64 s),.one (.AZ .u32 11 0 0 m),.one (.int .i64 i)]/\
  bl=[.arr 0 .u32 o]/\(o.length=l.length+1/\m=o.length/\Ag i i'/\i'<=l.length)/\(o[i']? =some c/\c.toNat<2^n)/\
  AI (o.take i')+2^(32*i')*c.toNat=AI (l.take i')*2^n/\k=l.length-i':=⟨_,rfl⟩
 refine⟨[],[0,1,5,6],[11],J0,⟨l.length-0,by rw[D];exact⟨H,0,G,0,0,rfl,rfl,⟨by rw[f,List.length_replicate];omega,by rw[f,List.length_replicate],Bf 0,by omega⟩,⟨by rw[f,List.getElem?_replicate,if_pos (by omega)],Nat.two_pow_pos n⟩,by simp[AI],rfl⟩⟩,?_⟩;intro vs bl aF hj;rw[D] at hj;obtain⟨o,c,m,i',i,rfl,rfl,⟨ho,hm,hi,aB⟩,⟨hc,a7⟩,hinv,aC⟩:=hj;conv=>cbv
 have ei:=hi.eq;rintro aH ⟨aw,f14⟩;conv=>cbv
 intro ad M;conv=>cbv
 cases ad <;> conv=>cbv
 ·have ab:=BK M;have hk:i'=l.length:=by omega
  have X:AI o=AI l*2^n:=by rw[hk,List.take_length,<-Cq (l:=o) (by rw[<-hk];exact hc),List.take_of_length_le (by omega)] at hinv;exact hinv
  exact AF ⟨⟨rfl,.inr (.inl ⟨_,_,by decide,rfl,rfl,hm,rfl,EK (Mn (by omega) (by rw[aa,X])) (by omega)⟩),trivial⟩,trivial⟩
 have ab:=BL M;refine .inr ?_;obtain⟨d,B⟩:=AS (l:=l) (i:=i') (by omega);refine⟨d,fun _=>⟨by omega,by rw[show (i).toNat=i' by omega];exact B⟩,?_⟩;try conv=>cbv
 intro aI O;have ax:=O.eq;have f21:=O.lt;conv=>cbv
 intro aJ Q;conv=>cbv
 have Q:=wrap_u64 Q;intro af R;conv=>cbv
 refine AM ?_;have a5:d.toNat*2^n<9223372036854775808:=Nat.mul_lt_mul_of_lt_of_le (by omega:d.toNat<4294967296) (Nat.pow_le_pow_right (by decide) hn:2^n<=2^31) (by decide);obtain⟨L,g,R⟩:∃q:Nat,q=d.toNat*2^n/\af=q:=⟨_,rfl,(TW (p:=d.toNat) (e:=n) R (by omega) (by omega)).trans (by congr 1;exact Nat.mod_eq_of_lt (by omega))⟩
 rw[<-g] at a5;refine AM ?_;intro Z aq;conv=>cbv
 obtain⟨a2,u⟩:=AS (l:=o) (i:=Z) (by omega);refine⟨a2,fun _=>u,?_⟩;try conv=>cbv
 intro aK S;have a6:=S.eq;have f30:=S.lt;conv=>cbv
 intro aL T;conv=>cbv
 have T:=wrap_u32 T;intro K U;conv=>cbv
 have bo:0<=K/\K<4294967296:=by rw[wrap_u32 U];omega
 refine AM ?_;intro a1 ar;conv=>cbv
 obtain⟨w,r⟩:=CU (n:=K) (by omega);have ah:=r.eq;have aj:=r.lt;refine⟨w,fun _=>⟨by show _<List.length (α:=UInt32) o;(first | omega | (simp;omega)),CT r⟩,?_⟩;intro (v:List UInt32) (A:v=List.set (α:=UInt32) o a1 w);have an:v.length=o.length:=by rw[A,List.length_set]
 conv=>cbv
 intro aM aA;conv=>cbv
 refine AQ ?_;intro aN V;conv=>cbv
 refine AM ?_;have V:=FI (p:=4294967296) V rfl;intro ag W;conv=>cbv
 have W:=wrap_u32 W;refine AM ?_;intro F au;conv=>cbv
 obtain⟨h,t⟩:=CU (n:=ag) (by omega);have ai:=t.eq;have ak:=t.lt;refine⟨h,fun _=>⟨by show _<List.length (α:=UInt32) v;(first | omega | (simp;omega)),CT t⟩,?_⟩;intro (I:List UInt32) (j:I=List.set (α:=UInt32) v F h);have ao:I.length=v.length:=by rw[j,List.length_set]
 conv=>cbv
 intro ae az;conv=>cbv
 refine AQ ?_;refine⟨l.length-(i'+1),?_,?_⟩
 ·omega
 rw[D];have hq:2^n*2^(32-n)=4294967296:=by rw[<-Nat.pow_add,show n+(32-n)=32 by omega]
 have ec:a2=c:=by rw[show Z=i' by omega,hc] at u;exact (Option.some.inj u).symm
 have Y:L%4294967296=2^n*(d.toNat%2^(32-n)):=by rw[g,Nat.mul_comm d.toNat,<-hq,Nat.mul_mod_mul_left]
 have h6:=Ox U (p:=c.toNat) (q:=L%4294967296) (by rw[a6,ec]) (by omega) (by have:=c.toNat_lt;omega) (by omega);rw[Y,LH a7,<-Y] at h6
 have a8:h.toNat<2^n:=by
  have:L/4294967296<2^n:=Nat.div_lt_of_lt_mul (by rw[g];exact (Nat.mul_lt_mul_right (Nat.two_pow_pos n)).2 (by omega));omega
 refine⟨I,h,m,i'+1,ae,rfl,rfl,⟨by omega,by omega,⟨by omega⟩,by omega⟩,⟨by rw[j,show F=i'+1 by omega,List.getElem?_set_self (by omega)],a8⟩,?_,rfl⟩;rw[j,show F=i'+1 by omega,H9 (Nat.le_refl _),A,show a1=i' by omega,Fu (by omega),FC,List.length_take,Nat.min_eq_left (by omega),Cq B,E3,Nat.add_mul,<-hinv];have e1:w.toNat+4294967296*h.toNat=c.toNat+d.toNat*2^n:=by rw[<-g];omega
 have e2:2^(32*i')*(w.toNat+4294967296*h.toNat)=2^(32*i')*(c.toNat+d.toNat*2^n):=by rw[e1]
 generalize 2^(32*i')=P at*
 generalize 2^n=N at*
 grind
end Go.Abs
