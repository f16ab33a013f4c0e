/- Part 13 of a proof. Conditions: each theorem's own. -/
import Derived.Test.YtclgfoceefhnkaaGreatDoorLn11
set_option linter.all false
set_option maxHeartbeats 80000000
set_option maxRecDepth 20000
open Go.Proofs
namespace Go.Abs
section
open Go.RowKit
variable {a n:Nat} {b c:Bool} {l m z:List UInt32} {x:Int}
theorem oa {w:List UInt32} (j:x= -(AD l:Int)) (hw:w=AP (AD l)) (i:c=true↔0<w.length):BA x c w:=by
 by_cases d:AD l=0
 ·have h:w=[]:=by rw[hw,Ec.2 d]
  have f:c=false:=by
   cases c with
   | false=>rfl
   | true=>have:=i.1 rfl;rw[h] at this;simp at this
  subst f;exact .val hw.symm (by rw[j,d];simp) (fun _=>rfl)
 have g:c=true:=i.2 (List.length_pos_iff.2 (fun e=>d (Ec.1 (by rw[<-hw];exact e))));subst g;exact .val hw.symm (by rw[j];rfl) (fun e=>absurd e d)
theorem Jj (J:AD l=n) (w:z=AP n):CF 268 [.one (.sl .u32 l)] (.one (.sl .u32 z)):=by
 have w:CV l=z:=by rw[w,<-J,Lq]
 refine AG Tryz.func268 fun E T=>?_
 refine BN [] [0] [] (fun vs C k=>∃m:List UInt32,vs=[.one (.sl .u32 m)]/\CV m=z/\k=m.length) l.length ⟨l,rfl,w,rfl⟩ ?_;rintro Q t vs C L ⟨m,rfl,j,I⟩;refine AS ?_;rintro n4 ⟨R,f4⟩;refine E0 (fun K=>?_) fun K=>?_
 ·have u:m=[]:=List.eq_nil_of_length_eq_zero (by omega);exact AF (by rw[<-j,u];rfl)
 rintro U ⟨S,f9⟩ d G;refine AW ((d).toNat) fun p g=>?_
 refine AS ?_;intro N i;have D:=i.eq;have f12:=i.lt;refine CH (fun q=>?_) fun q=>?_
 ·have v:p≠0:=fun h=>by subst h;exact q i.eq
  have s:m=m.take (d).toNat++[p]:=by have:=DO g;rw[List.take_of_length_le (by omega)] at this;exact this
  exact AF (by rw[<-j,s,KT v])
 refine .inr ?_;refine AK ?_;rintro O ⟨F,f17⟩ P H M B r A o f;refine⟨o.length,?_,?_⟩
 ·rw[f];simp;omega
 rw[t];have el:o=m.take (d).toNat:=by rw[f,show r=(d).toNat by omega];simp
 refine⟨o,rfl,?_,rfl⟩;obtain rfl:p=0:=UInt32.toNat_inj.1 (by show _=0;omega)
 have s:m=m.take (d).toNat++[0]:=by
  have:=DO g;rw[List.take_of_length_le (by omega)] at this;exact this
 rw[el,<-j];conv=>rhs;rw[s]
 rw[JW]
theorem Gr {m:Nat} (N:n<=l.length) (Y:l.length<=140737488355328) (hm:m=(CV (l.take n)).length):Is Tryz.prog 268 (.AZ .u32 0 0 0 n) (.arr 0 .u32 l) [] (.one (.AZ .u32 0 0 0 m)) (.arr 0 .u32 l):=by
 refine ML Tryz.func268 (by kernel_rfl) rfl fun E X=>?_
 conv=>cbv
 refine BN [] [0] [0] (fun vs w k=>∃q:Nat,vs=[.one (.AZ .u32 0 0 0 q)]/\w=[.arr 0 .u32 l]/\q<=l.length/\m=(CV (l.take q)).length/\k=q) n ⟨n,rfl,rfl,N,hm,rfl⟩ ?_;rintro U t vs w P ⟨q,rfl,rfl,Z,j,M⟩;conv=>cbv
 intro n4 K;have V:=K.eq;conv=>cbv
 refine E0 (fun O=>?_) fun O=>?_
 ·refine⟨fun _=>⟨⟨⟨rfl,.inr (.inr ⟨rfl,rfl,congrArg (AC.AZ .u32 0 0 0) (by rw[j,show q=0 by omega];rfl)⟩),trivial⟩,trivial⟩,rfl,by simp⟩,fun _=>rfl⟩
 intro n9 L;have W:=L.eq;refine AK ?_;intro Q I o C;obtain⟨p,d⟩:=CM (l:=l) (i:=o) (by omega);refine⟨p,fun _=>d,?_⟩;refine AS ?_;intro R g;have G:=g.eq;have f12:=g.lt;refine CH (fun r=>?_) fun r=>?_
 ·have u:p≠0:=fun h=>by subst h;exact r g.eq
  refine⟨fun _=>⟨⟨⟨rfl,.inr (.inr ⟨rfl,rfl,congrArg (AC.AZ .u32 0 0 0) (by rw[j,show q=o+1 by omega,DO d,KT u,List.length_append,List.length_take];simp;omega)⟩),trivial⟩,trivial⟩,rfl,by simp⟩,fun _=>rfl⟩
 refine .inr ?_;intro S s;have H:=s.eq;refine AK ?_;rintro T J F A v f ⟨D,B⟩;refine⟨f,?_,?_⟩
 ·omega
 rw[t];obtain rfl:v=0:=by omega
 refine⟨f,rfl,rfl,by omega,?_,rfl⟩;obtain rfl:p=0:=UInt32.toNat_inj.1 (by show _=0;omega);rw[j,show q=f+1 by omega,DO (x:=0) (by rw[show f=o by omega];exact d),JW]
theorem HC {n:Bool} (j:x=if n=true then -(AD l:Int) else AD l) (g:BA x b z):CF 200 [.one (.bool n),.one (.sl .u32 l)] (.agg (BX b z)):=by
 refine AG Tryz.func200 fun E p=>?_
 obtain⟨k,d⟩:=xU (AP (AD l));refine AB p (Jj rfl d) ?_;cases n <;> conv=>cbv
 ·have f:BA x false k:= .val d.symm j (fun _=>rfl);exact Di ((f.uniq g rfl).1.symm) ((f.uniq g rfl).2.symm)
 refine AS ?_;rintro q ⟨o,f10⟩ i h;have f:BA x i k:=oa (by rw[j];rfl) d (by rw[h,decide_eq_true_eq];omega);exact Di ((f.uniq g rfl).1.symm) ((f.uniq g rfl).2.symm)
theorem MH {n:Int} {k:Nat} (B:AO n k) (H:k<18446744073709551616) (C:z=AP k):CF 201 [.one (.int .u64 n)] (.one (.sl .u32 z)):=by
 have G:=B.eq;refine AG Tryz.func201 fun E A=>?_
 intro n4 t;have t:=wrap_u32 t;refine AK ?_;intro I u;have u:=EW (p:=4294967296) u rfl;intro F v;conv=>cbv
 have v:=wrap_u32 v;obtain⟨g,d⟩:=CZ (n:=n4) (by omega);have o:=d.eq;have r:=d.lt;obtain⟨h,f⟩:=CZ (n:=F) (by omega);have q:=f.eq;have s:=f.lt;refine⟨[g,h],fun _=>⟨rfl,by decide,rfl,⟨rfl,CY d,⟨rfl,CY f,trivial⟩⟩⟩,.inl ?_⟩;try conv=>cbv
 obtain⟨D,i⟩:=xN ((CV ([g,h].take 2)).length);obtain⟨w,j⟩:=Ei (by simp) i;refine .inr (.inr (.inl ⟨[],.one (.AZ .u32 0 0 0 D),.arr 0 .u32 [g,h],fun _=>⟨by first | decide | simp[Ck,Cj],trivial⟩,fun _=>⟨EK A (Gr (by simp) (by simp) i),rfl,rfl⟩,?_⟩));try conv=>cbv
 exact AE ⟨⟨rfl,.inl ⟨_,rfl,by simp;omega,congrArg _ (by rw[List.drop_zero,j,C];congr 1;simp[AD];omega)⟩,trivial⟩,trivial⟩
theorem MD (C: -9223372036854775808<=x/\x<9223372036854775808) (q:BA x b z):CF 99 [.one (.int .i64 x)] (.agg (BX b z)):=by
 refine AG Tryz.func99 fun E p=>?_
 refine BW (fun w=>?_) fun w=>?_
 ·intro A h;have h:=wrap_u64 h;obtain⟨B,f⟩:=xU (AP x.natAbs);refine AB p (MH (AO.of (k:=x.natAbs) (by omega)) (by omega) f) ?_;obtain⟨j,o,d⟩:=Ak (x);refine AB (r:= .agg [.bool j,.sl .u32 o]) p (HC (n:=false) (by rw[f,BS];simp;omega) d) ?_;exact Di ((d.uniq q rfl).1.symm) ((d.uniq q rfl).2.symm)
 intro D u;have u:=wrap_u64 u;intro F v;conv=>cbv
 have v:=wrap_u64 v;obtain⟨G,i⟩:=xU (AP x.natAbs);refine AB p (MH (AO.of (k:=x.natAbs) (by omega)) (by omega) i) ?_;obtain⟨s,t,g⟩:=Ak (x);refine AB (r:= .agg [.bool s,.sl .u32 t]) p (HC (n:=true) (by rw[i,BS];simp;omega) g) ?_;exact Di ((g.uniq q rfl).1.symm) ((g.uniq q rfl).2.symm)
theorem eT (h:x=if b=true then -(AD l:Int) else AD l) (f:BA x c z):CF 269 [.agg (BX b l)] (.agg (BX c z)):=by
 refine AG Tryz.func269 fun E g=>?_
 obtain⟨i,j,d⟩:=Ak (x);refine AB g (HC h d) ?_;exact Di ((d.uniq f rfl).1.symm) ((d.uniq f rfl).2.symm)
theorem IA (d:BA x b l):CF 269 [.agg (BX b l)] (.agg (BX b l)):=eT d.Eg d
theorem MF (k:BA x b l) (h:BA (-x) c z):CF 271 [.agg (BX b l)] (.agg (BX c z)):=by
 refine AG Tryz.func271 fun E j=>?_
 intro o i;obtain⟨f,g,d⟩:=Ak (-x);refine AB (r:= .agg [.bool f,.sl .u32 g]) j (HC (by rw[i];exact aP k.Eg) d) ?_;exact Di ((d.uniq h rfl).1.symm) ((d.uniq h rfl).2.symm)
theorem Jh {c:Int} (d:BA x b l) (h:c=Cg x):CF 196 [.agg (BX b l)] (.one (.int .i64 c)):=by
 refine AG Tryz.func196 fun E j=>?_
 refine AB j (IA d) ?_;rintro k ⟨f,f7⟩;refine BO (fun i=>?_) fun i=>?_
 ·have g:AD l=0:=by rw[List.eq_nil_of_length_eq_zero (by omega:l.length=0)];rfl
  exact AF (by rw[h,d.Eg,g];unfold Cg;simp)
 cases b <;> conv=>cbv
 ·have g:AD l≠0:=fun e=>by rw[d.Bb] at f;have:=d.nat;rw[e] at this;rw[<-this] at f;exact i f
  exact AF (by rw[h,Py d.Eg g];rfl)
 have g:AD l≠0:=fun e=>by rw[d.Bb] at f;have:=d.nat;rw[e] at this;rw[<-this] at f;exact i f
 exact AF (by rw[h,Py d.Eg g];rfl)
theorem MG {b:Nat} {c:Int} (s:l=AP a) (hm:m=AP b) (I:c=Bu a b):CF 322 [.one (.sl .u32 l),.one (.sl .u32 m)] (.one (.int .i64 c)):=by
 refine AG Tryz.func322 fun E hE=>?_
 rintro n7 ⟨e7,f7⟩ n9 ⟨e9,f9⟩;refine Fa (fun L=>?_) fun L=>?_
 ·rintro ab ⟨V,f12⟩ ad ⟨W,f14⟩;refine BW (fun M=>?_) fun M=>?_
  ·exact AF (by rw[I,<-RM (by rw[<-s,<-hm];omega),<-s,<-hm];unfold Bu;rw[if_neg (by omega),if_pos (by omega)])
  exact AF (by rw[I,<-RM (by rw[<-s,<-hm];omega),<-s,<-hm];unfold Bu;rw[if_pos (by omega)])
 rintro ae ⟨X,f17⟩ Q a5;refine BN [] [0,1,5] [] (fun vs U k=>∃(j:Int) (k':Nat),vs=[.one (.sl .u32 l),.one (.sl .u32 m),.one (.int .i64 j)]/\(AO (j+1) k'/\k'<=l.length/\l.length=m.length/\AD (l.drop k')=AD (m.drop k'))/\k=k') l.length ⟨Q,l.length,rfl,⟨⟨by omega⟩,by omega,by omega,by rw[List.drop_length,show l.length=m.length by omega,List.drop_length]⟩,rfl⟩ ?_;rintro J0 K vs U aa ⟨j,k',rfl,⟨hj,a7,t,J⟩,a8⟩;conv=>cbv
 have ej:=hj.eq;refine Ir (fun N=>?_) fun N=>?_
 ·have hk:k'=0:=by omega
  have he:a=b:=by rw[hk] at J;simpa [s,hm,BS] using J
  exact AF (by rw[I,he];simp[Bu])
 refine .inr ?_;refine AW ((j).toNat) fun g o=>?_
 refine AS ?_;intro af B;have A:=B.eq;have f26:=B.lt;refine AW ((j).toNat) fun h p=>?_
 refine AK ?_;intro ag C S D;have Z:=C.eq;have f30:=C.lt;cases S <;> conv=>cbv
 ·have O:=Dw D;refine AW ((j).toNat) fun d q=>?_
  refine AS ?_;intro ah F;have a1:=F.eq;have f35:=F.lt;refine AW ((j).toNat) fun f r=>?_
  refine AK ?_;intro ai G T H;have a2:=G.eq;have f39:=G.lt;cases T <;> conv=>cbv
  ·have P:=GX H;refine AK ?_;intro R a6;refine⟨k'-1,?_,?_⟩
   ·omega
   rw[K];obtain⟨i',rfl⟩:∃i',k'=i'+1:=⟨k'-1,by omega⟩
   have Y:l[i']? =some g:=by rw[<-o];congr 1;omega
   have e4:m[i']? =some h:=by rw[<-p];congr 1;omega
   have e1:l[i']? =some d:=by rw[<-q];congr 1;omega
   have w:m[i']? =some f:=by rw[<-r];congr 1;omega
   obtain rfl:d=g:=Option.some.inj (e1.symm.trans Y);obtain rfl:f=h:=Option.some.inj (w.symm.trans e4);refine⟨R,i',rfl,⟨⟨by omega⟩,by omega,t,?_⟩,by omega⟩;have A:d=f:=UInt32.toNat_inj.1 (by omega);subst A;exact drop_eq (i:=i') e1 w J
  have P:=GY H;obtain⟨i',rfl⟩:∃i',k'=i'+1:=⟨k'-1,by omega⟩
  have e1:l[i']? =some d:=by rw[<-q];congr 1;omega
  have w:m[i']? =some f:=by rw[<-r];congr 1;omega
  have u:f.toNat<d.toNat:=by omega
  have v:d≠f:=fun e=>by rw[e] at u;omega
  exact AF (by rw[I,<-BS a,<-BS b,<-s,<-hm,<-RN e1 w t J v];unfold Bu;rw[if_neg (by omega),if_pos (by omega)])
 have O:=Dx D;obtain⟨i',rfl⟩:∃i',k'=i'+1:=⟨k'-1,by omega⟩
 have e1:l[i']? =some g:=by rw[<-o];congr 1;omega
 have w:m[i']? =some h:=by rw[<-p];congr 1;omega
 have u:g.toNat<h.toNat:=by omega
 have v:g≠h:=fun e=>by rw[e] at u;omega
 exact AF (by rw[I,<-BS a,<-BS b,<-s,<-hm,<-RN e1 w t J v];unfold Bu;rw[if_pos (by omega)])
theorem Qr {b:Nat} (hl:l=AP a) (hm:m=AP b) (hz:z=AP (a-b)) (a6:b<=a) (sl:l.length<=17592186044416):CF 328 [.one (.sl .u32 l),.one (.sl .u32 m)] (.one (.sl .u32 z)):=by
 have a8:m.length<=l.length:=by rw[hl,hm];exact EF a6
 refine AG Tryz.func328 fun E hE=>?_
 rintro aB ⟨aq,f11⟩;refine⟨fun _=>⟨by omega,by omega,by show _*4<=140737488355328;omega⟩,?_⟩;intro L (M:List UInt32) J;have ao:=J.1;have C:M=List.replicate L (0:el .u32):=J.2;have an:M.length=L:=by rw[C,List.length_replicate]
 conv=>cbv
 refine BN [] [0,1,5,6,7] [12] (fun vs bl k=>∃(o:List UInt32) (n H i':Nat) (c i:Int),vs=[.one (.sl .u32 l),.one (.sl .u32 m),.one (.AZ .u32 12 0 0 n),.one (.int .u64 c),.one (.int .i64 i)]/\bl=[.arr 0 .u32 o]/\(o.length=l.length/\n=o.length/\AO i i'/\i'<=l.length/\AO c H/\H<=1)/\AD (o.take i')+AD (m.take i')=AD (l.take i')+2^(32*i')*H/\k=l.length-i') (l.length-0) ⟨M,L,0,0,0,0,rfl,rfl,⟨by rw[C,List.length_replicate];omega,by rw[C,List.length_replicate],BD 0,by omega,BD 0,by omega⟩,by simp[AD],rfl⟩ ?_;rintro J0 X vs bl aA ⟨o,n,H,i',c,i,rfl,rfl,⟨ho,hn,hi,ax,hc,aw⟩,hinv,ay⟩;have ei:=hi.eq;have ec:=hc.eq;refine AS ?_;rintro aC ⟨ar,f15⟩;refine BW (fun aa=>?_) fun aa=>?_
 ·have D:n<=(o).length:=by omega
  obtain⟨ad,I⟩:=xN ((CV ((o).take n)).length);obtain⟨a7,K⟩:=Ei D I;refine .inr (.inr (.inl ⟨[],.one (.AZ .u32 0 0 0 ad),.arr 0 .u32 o,fun _=>⟨by first | decide | simp[Ck,Cj],trivial⟩,fun _=>⟨EK hE (Gr D (by omega) I),rfl,rfl⟩,?_⟩));try conv=>cbv
  have hk:i'=l.length:=by omega
  have Y:AD (o.take n)=a-b:=by rw[hk,Dk a8,Dk (Nat.le_refl _),hm,hl,BS,BS,<-hl,<-ho,List.take_length] at hinv;have az:=Cv o;generalize 2^(32*o.length)=P at *;rw[hn,List.take_length];rcases (by omega:H=0\/H=1) with e | e <;> rw[e] at hinv <;> omega
  exact AE ⟨⟨rfl,.inl ⟨_,rfl,by omega,congrArg _ (by rw[List.drop_zero,K,Y,hz])⟩,trivial⟩,trivial⟩
 refine .inr ?_;refine AS ?_;rintro aD ⟨au,f21⟩ ae U;refine .inr ?_;cases ae <;> conv=>cbv
 ·have ab:=Dw U;refine AW i' fun Q F=>?_
  refine AS ?_;intro af q ag r;have a2:=q.eq;have f31:=q.lt;have r:=wrap_u64 r;intro ah s;conv=>cbv
  have s:=wrap_u64 s;intro ai t;conv=>cbv
  have t:=wrap_u64 t;intro aj u;conv=>cbv
  have u:=wrap_u64 u;intro O v;conv=>cbv
  have v:=wrap_u32 v;refine AK ?_;intro G Z;obtain⟨j,f⟩:=CZ (n:=O) (by omega);have R:=f.eq;have S:=f.lt;refine⟨j,fun _=>⟨by show _<List.length (α:=UInt32) o;(first | omega | (simp;omega)),CY f⟩,?_⟩;intro (g:List UInt32) (d:g=List.set (α:=UInt32) o G j);have T:g.length=o.length:=by rw[d,List.length_set]
  refine AK ?_;intro ak A;have A:=EW (p:=4294967296) A rfl;intro h B;conv=>cbv
  have B:=wrap_u64 B;refine AK ?_;intro N a5;refine⟨l.length-(i'+1),?_,?_⟩
  ·omega
  rw[X];refine⟨g,n,h.toNat,i'+1,h,N,rfl,rfl,⟨by rw[d,List.length_set];exact ho,by rw[d,List.length_set];exact hn,⟨by omega⟩,by omega,⟨by omega⟩,by omega⟩,?_,rfl⟩;have hs:=LO (w:=j) (o:=o) (i:=i') (xi:=Q.toNat) (yi:=0) (Fy:=H) (F1:=h.toNat) (by omega) hinv (by omega);rw[d,show G=i' by omega,Cq F,<-hs,Dk (l:=m) (i:=i'+1) (by omega),Dk (l:=m) (i:=i') (by omega),Nat.mul_zero]
  rfl
 have ab:=Dx U;refine AW i' fun al a1=>?_
 refine AS ?_;intro aE V aF W;have av:=V.eq;have f26:=V.lt;have W:=wrap_u64 W;refine AW i' fun Q F=>?_
 refine AS ?_;intro af q ag r;have a2:=q.eq;have f31:=q.lt;have r:=wrap_u64 r;intro ah s;conv=>cbv
 have s:=wrap_u64 s;intro ai t;conv=>cbv
 have t:=wrap_u64 t;intro aj u;conv=>cbv
 have u:=wrap_u64 u;intro O v;conv=>cbv
 have v:=wrap_u32 v;refine AK ?_;intro G Z;obtain⟨j,f⟩:=CZ (n:=O) (by omega);have R:=f.eq;have S:=f.lt;refine⟨j,fun _=>⟨by show _<List.length (α:=UInt32) o;(first | omega | (simp;omega)),CY f⟩,?_⟩;intro (g:List UInt32) (d:g=List.set (α:=UInt32) o G j);have T:g.length=o.length:=by rw[d,List.length_set]
 refine AK ?_;intro ak A;have A:=EW (p:=4294967296) A rfl;intro h B;conv=>cbv
 have B:=wrap_u64 B;refine AK ?_;intro N a5;refine⟨l.length-(i'+1),?_,?_⟩
 ·omega
 rw[X];refine⟨g,n,h.toNat,i'+1,h,N,rfl,rfl,⟨by rw[d,List.length_set];exact ho,by rw[d,List.length_set];exact hn,⟨by omega⟩,by omega,⟨by omega⟩,by omega⟩,?_,rfl⟩;have hs:=LO (w:=j) (o:=o) (i:=i') (xi:=Q.toNat) (yi:=al.toNat) (Fy:=H) (F1:=h.toNat) (by omega) hinv (by omega);rw[d,show G=i' by omega,Cq F,<-hs,Cq a1]
theorem fX {b:Nat} (hl:l=AP a) (hm:m=AP b) (hz:z=AP (a+b)) (sl:l.length<=17592186044416) (sm:m.length<=17592186044416):CF 333 [.one (.sl .u32 l),.one (.sl .u32 m)] (.one (.sl .u32 z)):=by
 refine AG Tryz.func333 fun E hE=>?_
 rintro n9 ⟨e9,f9⟩ aP ⟨aD,f11⟩ ar T;obtain⟨ag,v⟩:=xK fun vs bl=>∃(p q:Nat) (x y:List UInt32),vs=[.one (.sl .u32 x),.one (.sl .u32 y)]/\x=AP p/\y=AP q/\p+q=a+b/\y.length<=x.length/\x.length<=17592186044416
 refine .inl ⟨[0,1],[],ag,?_,?_⟩
 ·intro vs bl hj;rw[v] at hj;obtain⟨p,q,x,y,rfl,hx,hy,aj,ak,aN⟩:=hj;refine AK ?_;rintro aQ ⟨aE,f16⟩ aR aK;refine⟨fun _=>⟨by omega,by omega,by show _*4<=140737488355328;omega⟩,?_⟩;intro K (L:List UInt32) I;have aC:=I.1;have A:L=List.replicate K (0:el .u32):=I.2;have az:L.length=K:=by rw[A,List.length_replicate]
  conv=>cbv
  refine BN [] [0,1,5,6,7] [18] (fun vs bl k=>∃(o:List UInt32) (n P i':Nat) (c i:Int),vs=[.one (.sl .u32 x),.one (.sl .u32 y),.one (.AZ .u32 18 0 0 n),.one (.int .u64 c),.one (.int .i64 i)]/\bl=[.arr 0 .u32 o]/\(o.length=x.length+1/\n=o.length/\AO i i'/\i'<=x.length/\AO c P/\P<=1)/\AD (o.take i')+2^(32*i')*P=AD (x.take i')+AD (y.take i')/\k=x.length-i') (x.length-0) ⟨L,K,0,0,0,0,rfl,rfl,⟨by rw[A,List.length_replicate];omega,by rw[A,List.length_replicate],BD 0,by omega,BD 0,by omega⟩,by simp[AD],rfl⟩ ?_;rintro J0 a5 vs bl aO ⟨o,n,P,i',c,i,rfl,rfl,⟨ho,hn,hi,aM,hc,aL⟩,hinv,a8⟩;have ei:=hi.eq;have ec:=hc.eq;refine AS ?_;rintro aS ⟨aF,f21⟩;refine BW (fun an=>?_) fun an=>?_
  ·rintro aY ⟨aJ,f52⟩ av a2;have a2:=wrap_u32 a2;refine AK ?_;intro ab aB;obtain⟨O,C⟩:=CZ (n:=av) (by omega);have ax:=C.eq;have ay:=C.lt;refine⟨O,fun _=>⟨by show _<List.length (α:=UInt32) o;(first | omega | (simp;omega)),CY C⟩,?_⟩;intro (r:List UInt32) (F:r=List.set (α:=UInt32) o ab O);have aA:r.length=o.length:=by rw[F,List.length_set]
   conv=>cbv
   have B:n<=(r).length:=by omega
   obtain⟨aq,G⟩:=xN ((CV ((r).take n)).length);obtain⟨ai,J⟩:=Ei B G;refine .inr (.inr (.inl ⟨[],.one (.AZ .u32 0 0 0 aq),.arr 0 .u32 r,fun _=>⟨by first | decide | simp[Ck,Cj],trivial⟩,fun _=>⟨EK hE (Gr B (by omega) G),rfl,rfl⟩,?_⟩));try conv=>cbv
   have a8:i'=x.length:=by omega
   have a6:AD (r.take n)=p+q:=by rw[F,hn,show ab=x.length by omega,show o.length=x.length+1 by omega,FB (by omega),ET,List.length_take,Nat.min_eq_left (by omega),show O.toNat=P by omega];rw[a8,Dk (Nat.le_refl _),Dk ak,hx,hy,BS,BS,<-hx] at hinv;exact hinv
   exact AE ⟨⟨rfl,.inl ⟨_,rfl,by omega,congrArg _ (by rw[List.drop_zero,J,a6,aj,hz])⟩,trivial⟩,trivial⟩
  refine .inr ?_;refine AW i' fun af H=>?_
  refine AS ?_;intro aT U aU V;have aG:=U.eq;have f29:=U.lt;have V:=wrap_u64 V;intro ad W;conv=>cbv
  have W:=wrap_u64 W;refine AS ?_;rintro aV ⟨aH,f34⟩ au X;refine .inr ?_;cases au <;> conv=>cbv
  ·have ao:=Dw X;intro N t;conv=>cbv
   have t:=wrap_u32 t;refine AK ?_;intro D a7;obtain⟨j,f⟩:=CZ (n:=N) (by omega);have Q:=f.eq;have R:=f.lt;refine⟨j,fun _=>⟨by show _<List.length (α:=UInt32) o;(first | omega | (simp;omega)),CY f⟩,?_⟩;intro (g:List UInt32) (d:g=List.set (α:=UInt32) o D j);have S:g.length=o.length:=by rw[d,List.length_set]
   refine AK ?_;intro h u;have u:=EW (p:=4294967296) u rfl;refine AK ?_;intro M ah;refine⟨x.length-(i'+1),?_,?_⟩
   ·omega
   rw[a5];refine⟨g,n,h.toNat,i'+1,h,M,rfl,rfl,⟨by rw[d,List.length_set];exact ho,by rw[d,List.length_set];exact hn,⟨by omega⟩,by omega,⟨by omega⟩,by omega⟩,?_,rfl⟩;have hs:=OY (o:=o.take i') (i:=i') (xi:=af.toNat) (yi:=0) (s:=ad.toNat) (w:=j) (by rw[List.length_take];omega) hinv (by omega) (by omega);rw[d,show D=i' by omega,FB (by omega),Cq H,Dk (l:=y) (i:=i'+1) (by omega)];rw[show h.toNat=ad.toNat/4294967296 by omega];rw[hs];rw[Dk (l:=y) (i:=i') (by omega)];omega
  have ao:=Dx X;refine AW i' fun aw aa=>?_
  refine AS ?_;intro aW Y aX Z;have aI:=Y.eq;have f40:=Y.lt;have Z:=wrap_u64 Z;intro ae a1;conv=>cbv
  have a1:=wrap_u64 a1;intro N t;conv=>cbv
  have t:=wrap_u32 t;refine AK ?_;intro D a7;obtain⟨j,f⟩:=CZ (n:=N) (by omega);have Q:=f.eq;have R:=f.lt;refine⟨j,fun _=>⟨by show _<List.length (α:=UInt32) o;(first | omega | (simp;omega)),CY f⟩,?_⟩;intro (g:List UInt32) (d:g=List.set (α:=UInt32) o D j);have S:g.length=o.length:=by rw[d,List.length_set]
  refine AK ?_;intro h u;have u:=EW (p:=4294967296) u rfl;refine AK ?_;intro M ah;refine⟨x.length-(i'+1),?_,?_⟩
  ·omega
  rw[a5];refine⟨g,n,h.toNat,i'+1,h,M,rfl,rfl,⟨by rw[d,List.length_set];exact ho,by rw[d,List.length_set];exact hn,⟨by omega⟩,by omega,⟨by omega⟩,by omega⟩,?_,rfl⟩;have hs:=OY (o:=o.take i') (i:=i') (xi:=af.toNat) (yi:=aw.toNat) (s:=ae.toNat) (w:=j) (by rw[List.length_take];omega) hinv (by omega) (by omega);rw[d,show D=i' by omega,FB (by omega),Cq H,Cq aa];rw[show h.toNat=ae.toNat/4294967296 by omega];rw[hs]
 cases ar <;> conv=>cbv
 ·have al:=Dw T;rw[v];exact⟨a,b,_,_,rfl,hl,hm,rfl,by omega,by omega⟩
 have al:=Dx T;rw[v];exact⟨b,a,_,_,rfl,hm,hl,Nat.add_comm _ _,by omega,by omega⟩
end
section
open Go.RowKit
variable {b1 b2 b3:Bool} {l l1 l2 l3:List UInt32} {x y:Int}
theorem LB {i:Nat} {x:UInt32} (h:l[i]? =some x):l.getD i 0=x:=by rw[List.getD_eq_getElem?_getD,h];rfl
theorem iJ:Cg (x-y)=Bu x y:=by
 unfold Bu Cg
 split <;> split <;> (try split) <;> (try split) <;> omega
theorem Vb {m z:List UInt32} {a b:Nat} (hl:AD l=a) (hm:AD m=b) (hz:z=AP (a*b)) (sl:l.length<=17592186044416) (sm:m.length<=17592186044416):CF 331 [.one (.sl .u32 l),.one (.sl .u32 m)] (.one (.sl .u32 z)):=by
 refine AG Tryz.func331 fun E hE=>?_
 rintro n10 ⟨e10,f10⟩ n12 ⟨e12,f12⟩ n13 h13;refine⟨fun _=>⟨by omega,by omega,by show _*4<=140737488355328;omega⟩,?_⟩;intro k14 (l14:List UInt32) ql14;have hk14:=ql14.1;have hl14:l14=List.replicate k14 (0:el .u32):=ql14.2;have gl14:l14.length=k14:=by rw[hl14,List.length_replicate]
 conv=>cbv
 refine BN [] [0,1,5,6] [14] (fun vs bl k=>∃(o:List UInt32) (n i':Nat) (i:Int),vs=[.one (.sl .u32 l),.one (.sl .u32 m),.one (.AZ .u32 14 0 0 n),.one (.int .i64 i)]/\bl=[.arr 0 .u32 o]/\(o.length=l.length+m.length/\n=o.length/\AO i i'/\i'<=l.length)/\AD (o.take (i'+m.length))=AD (l.take i')*AD m/\k=l.length-i') (l.length-0) ⟨l14,k14,0,0,rfl,rfl,⟨by rw[hl14,List.length_replicate];omega,by rw[hl14,List.length_replicate],BD 0,by omega⟩,by rw[hl14,List.take_replicate,IX];simp[AD],rfl⟩ ?_;rintro J0 hJ0 vs bl kk0 ⟨o,n,i',i,rfl,rfl,⟨ho,hn,hi,hiL⟩,hinv,hk0⟩;have ei:=hi.eq;refine AS ?_;rintro n17 ⟨e17,f17⟩;refine BW (fun k18=>?_) fun k18=>?_
 ·have hnl66:n<=(o).length:=by omega
  obtain⟨m66,hm66⟩:=xN ((CV ((o).take n)).length);obtain⟨hle66,htk66⟩:=Ei hnl66 hm66;refine .inr (.inr (.inl ⟨[],.one (.AZ .u32 0 0 0 m66),.arr 0 .u32 o,fun _=>⟨by first | decide | simp[Ck,Cj],trivial⟩,fun _=>⟨EK hE (Gr hnl66 (by omega) hm66),rfl,rfl⟩,?_⟩));try conv=>cbv
  have hfin:AD (o.take n)=a*b:=by rw[show i'=l.length by omega,List.take_length,hl,hm,<-ho,List.take_length] at hinv;rw[hn,List.take_length,hinv]
  exact AE ⟨⟨rfl,.inl ⟨_,rfl,by omega,congrArg _ (by rw[List.drop_zero,htk66,hfin,hz])⟩,trivial⟩,trivial⟩
 refine .inr ?_;refine BN [] [0,1,5,6,7,8] [14] (fun vs bl k=>∃(o1:List UInt32) (n1 c' k':Nat) (c i1:Int),vs=[.one (.sl .u32 l),.one (.sl .u32 m),.one (.AZ .u32 14 0 0 n1),.one (.int .i64 i),.one (.int .u64 c),.one (.int .i64 i1)]/\bl=[.arr 0 .u32 o1]/\(o1.length=l.length+m.length/\n1=o1.length/\AO i1 k'/\k'<=m.length/\AO c c'/\c'<4294967296)/\AD (o1.take (i'+m.length))+2^(32*(i'+k'))*c'=AD (l.take i')*AD m+(l.getD i' 0).toNat*2^(32*i')*AD (m.take k')/\k=m.length-k') (m.length-0) ⟨o,n,0,0,0,0,rfl,rfl,⟨ho,hn,BD 0,by omega,BD 0,by omega⟩,by rw[hinv];simp[AD],rfl⟩ ?_;rintro J1 hJ1 vs bl kk1 ⟨o1,n1,c',k',c,i1,rfl,rfl,⟨ho1,hn1,hi1,hiL1,hc,hc1⟩,hinv1,hk1⟩;have ei1:=hi1.eq;have ec:=hc.eq;refine AS ?_;rintro n23 ⟨e23,f23⟩;refine BW (fun k24=>?_) fun k24=>?_
 ·rintro n60 ⟨e60,f60⟩ n61 h61 n63 h63;have h63:=wrap_u32 h63;refine AK ?_;intro j64 hj64;obtain⟨w64,hw64⟩:=CZ (n:=n63) (by omega);have ew64:=hw64.eq;have fw64:=hw64.lt;refine⟨w64,fun _=>⟨by show _<List.length (α:=UInt32) o1;(first | omega | (simp;omega)),CY hw64⟩,?_⟩;intro (l64:List UInt32) (hl64:l64=List.set (α:=UInt32) o1 j64 w64);have gl64:l64.length=o1.length:=by rw[hl64,List.length_set]
  refine AK ?_;intro n20 h20;refine⟨l.length-(i'+1),?_,?_⟩
  ·omega
  rw[hJ0];refine⟨l64,n1,i'+1,n20,rfl,rfl,⟨by rw[hl64,List.length_set];exact ho1,by rw[hl64,List.length_set];exact hn1,⟨by omega⟩,by omega⟩,?_,rfl⟩;obtain⟨ai,hai⟩:=CM (l:=l) (i:=i') (by omega);have hk:k'=m.length:=by omega
  have hlen:i'+m.length<o1.length:=by omega
  rw[hl64,show i'+1+m.length=i'+m.length+1 by omega,show j64=i'+m.length by omega,FB hlen,ET,List.length_take,Nat.min_eq_left (by omega),show w64.toNat=c' by omega];rw[hk,LB hai] at hinv1;rw[hinv1,List.take_length,Cq hai]
  grind
 refine .inr ?_;refine AK ?_;intro n31 h31 j32 hj32;obtain⟨x33,hx33⟩:=CM (l:=o1) (i:=j32) (by omega);refine⟨x33,fun _=>hx33,?_⟩;refine AS ?_;intro n33 h33 n34 h34;have e33:=h33.eq;have f33:=h33.lt;have h34:=wrap_u64 h34;intro n35 h35;conv=>cbv
 have h35:=wrap_u64 h35;refine AW i' fun x38 hx38=>?_
 refine AS ?_;intro n39 h39 n40 h40;have e39:=h39.eq;have f39:=h39.lt;have h40:=wrap_u64 h40;refine AW k' fun x43 hx43=>?_
 refine AS ?_;intro n44 h44 n45 h45;have e44:=h44.eq;have f44:=h44.lt;have h45:=wrap_u64 h45;have ep:n40*n45=((x38.toNat*x43.toNat:Nat):Int):=by rw[Int.natCast_mul];congr 1 <;> omega
 have bp:x38.toNat*x43.toNat<=4294967295*4294967295:=Nat.mul_le_mul (by omega) (by omega);intro n46 h46;conv=>cbv
 have h46:=wrap_u64 h46;intro n47 h47;conv=>cbv
 have h47:=wrap_u64 h47;refine AK ?_;intro Dy h51 Dj h53;have h53:=wrap_u32 h53;refine AK ?_;intro j54 hj54;obtain⟨w54,hw54⟩:=CZ (n:=Dj) (by omega);have ew54:=hw54.eq;have fw54:=hw54.lt;refine⟨w54,fun _=>⟨by show _<List.length (α:=UInt32) o1;(first | omega | (simp;omega)),CY hw54⟩,?_⟩;intro (l54:List UInt32) (hl54:l54=List.set (α:=UInt32) o1 j54 w54);have gl54:l54.length=o1.length:=by rw[hl54,List.length_set]
 refine AK ?_;intro n56 h56;have h56:=EW (p:=4294967296) h56 rfl;refine AK ?_;intro n26 h26;refine⟨m.length-(k'+1),?_,?_⟩
 ·omega
 rw[hJ1];refine⟨l54,n1,n56.toNat,k'+1,n56,n26,rfl,rfl,⟨by rw[hl54,List.length_set];exact ho1,by rw[hl54,List.length_set];exact hn1,⟨by omega⟩,by omega,⟨by omega⟩,by omega⟩,?_,rfl⟩;have hj:j54=i'+k':=by omega
 have hj2:j32=i'+k':=by omega
 rw[hj2] at hx33;rw[LB hx38] at hinv1;rw[hl54,hj,Cq hx43,show i'+(k'+1)=i'+k'+1 by omega,LB hx38];refine UH (q:=x33) (xi:=x38.toNat) (yk:=x43.toNat) (old:=x33.toNat) (c:=c') rfl (by omega) hx33 rfl hinv1 ?_ rfl;rw[ep] at h46;omega
theorem Dr (k:BA x b1 l1) (o:BA y b2 l2) (p:BA (x*y) b3 l3) (s1:l1.length<=17592186044416) (s2:l2.length<=17592186044416):CF 276 [.agg (BX b1 l1),.agg (BX b2 l2)] (.agg (BX b3 l3)):=by
 refine AG Tryz.func276 fun E i=>?_
 refine AB i (IA k) ?_;refine AB i (IA o) ?_;intro q j;obtain⟨s,f⟩:=xU (AP (x.natAbs*y.natAbs));refine AB i (Vb k.nat o.nat f s1 s2) ?_;obtain⟨g,h,d⟩:=Ak (x*y);refine AB (r:= .agg [.bool g,.sl .u32 h]) i (HC (by rw[f,BS,j];exact YY k.neg o.neg) d) ?_;exact Di ((d.uniq p rfl).1.symm) ((d.uniq p rfl).2.symm)
theorem Kb (s:BA x b1 l1) (t:BA y b2 l2) (u:BA (x+y) b3 l3) (s1:l1.length<=17592186044416) (s2:l2.length<=17592186044416):CF 278 [.agg (BX b1 l1),.agg (BX b2 l2)] (.agg (BX b3 l3)):=by
 refine AG Tryz.func278 fun E j=>?_
 refine AB j (IA s) ?_;refine AB j (IA t) ?_;intro G v;cases G <;> conv=>cbv
 ·have k:=RB v;obtain⟨J,f⟩:=xI (Bu x.natAbs y.natAbs);refine AB j (MG s.Bb t.Bb f) ?_;refine Ir (fun d=>?_) fun d=>?_
  ·obtain⟨I,q⟩:=xU (AP (y.natAbs-x.natAbs));refine AB (r:= .one (.sl .u32 I)) j (Qr t.Bb s.Bb q (by rw[f] at d;have:=I4 d;omega) s2) ?_;obtain⟨B,F,i⟩:=Ak (x+y);refine AB (r:= .agg [.bool B,.sl .u32 F]) j (HC (by rw[q,BS];rw[f] at d;exact OD s.neg t.neg k (by have:=I4 d;omega)) i) ?_;exact Di ((i.uniq u rfl).1.symm) ((i.uniq u rfl).2.symm)
  obtain⟨H,p⟩:=xU (AP (x.natAbs-y.natAbs));refine AB (r:= .one (.sl .u32 H)) j (Qr s.Bb t.Bb p (by rw[f] at d;have:=I3 d;omega) s1) ?_;obtain⟨A,D,h⟩:=Ak (x+y);refine AB (r:= .agg [.bool A,.sl .u32 D]) j (HC (by rw[p,BS,Int.add_comm];rw[f] at d;exact OD t.neg s.neg (Ne.symm k) (by have:=I3 d;omega)) h) ?_;exact Di ((h.uniq u rfl).1.symm) ((h.uniq u rfl).2.symm)
 have k:=RC v;obtain⟨K,o⟩:=xU (AP (x.natAbs+y.natAbs));refine AB j (fX s.Bb t.Bb o s1 s2) ?_;obtain⟨w,C,g⟩:=Ak (x+y);refine AB (r:= .agg [.bool w,.sl .u32 C]) j (HC (by rw[o,BS];exact add_same s.neg (k.trans t.neg)) g) ?_;exact Di ((g.uniq u rfl).1.symm) ((g.uniq u rfl).2.symm)
theorem VJ (o:BA x b1 l1) (j:BA y b2 l2) (k:BA (x-y) b3 l3) (s1:l1.length<=17592186044416) (s2:l2.length<=17592186044416):CF 365 [.agg (BX b1 l1),.agg (BX b2 l2)] (.agg (BX b3 l3)):=by
 refine AG Tryz.func365 fun E i=>?_
 obtain⟨p,q,d⟩:=Ak (-y);refine AB i (MF j d) ?_;obtain⟨g,h,f⟩:=Ak (x-y);refine AB (r:= .agg [.bool g,.sl .u32 h]) i (Kb o d f s1 (by rw[d.Bb,Int.natAbs_neg,<-j.Bb];exact s2)) ?_;exact Di ((f.uniq k rfl).1.symm) ((f.uniq k rfl).2.symm)
theorem eD (i:BA x b1 l1) (j:BA y b2 l2) {c:Int} (h:c=Bu x y) (s1:l1.length<=17592186044416) (s2:l2.length<=17592186044416):CF 389 [.agg (BX b1 l1),.agg (BX b2 l2)] (.one (.int .i64 c)):=by
 refine AG Tryz.func389 fun E g=>?_
 obtain⟨k,o,f⟩:=Ak (x-y);refine AB g (VJ i j f s1 s2) ?_;obtain⟨p,d⟩:=xI (Cg (x-y));refine AB g (Jh f d) ?_;exact AF (by rw[h,d,iJ])
end
section
open Go.RowKit
variable {c:Int} {l:List UInt32} {n x:Nat}
theorem la (h:0<x):DL x=DL (x/2)+1:=by
 by_cases g:x=1
 ·subst g;decide
 have f:x/2≠0:=by omega
 unfold DL;rw[if_neg (by omega),if_neg f];have a:=Nat.log2_self_le f;have b:=Nat.lt_log2_self (n:=x/2);have c:Nat.log2 (x/2)+1<=Nat.log2 x:=(Nat.le_log2 (by omega)).2 (by rw[Nat.pow_succ];omega);have d:Nat.log2 x<Nat.log2 (x/2)+2:=(Nat.log2_lt (by omega)).2 (by rw[Nat.pow_succ,Nat.pow_succ];rw[Nat.pow_succ] at b;omega);omega
theorem Pa (h:0<x):2^(DL x-1)<=x/\x<2^DL x/\1<=DL x:=by
 unfold DL;rw[if_neg (by omega)];exact⟨by rw[Nat.add_sub_cancel];exact Nat.log2_self_le (by omega),Nat.lt_log2_self,by omega⟩
theorem Yc (h:x<4294967296):DL x<=32:=by
 unfold DL
 split
 ·omega
 rename_i d
 have:=(Nat.log2_lt d).2 (show x<2^32 by omega);omega
theorem gO {y r:Nat} (f:n<=32:=by omega):(x+4294967296*(y+4294967296*r))/2^n%4294967296=(x+4294967296*y)/2^n%4294967296:=by
 have d:2^n*2^(32-n)=4294967296:=by rw[<-Nat.pow_add,show n+(32-n)=32 by omega]
 have e:x+4294967296*(y+4294967296*r)=x+4294967296*y+2^n*(2^(32-n)*r*4294967296):=by
  rw[<-Nat.mul_assoc,<-Nat.mul_assoc,d];grind
 rw[e,Nat.add_mul_div_left _ _ (Nat.two_pow_pos n),Nat.add_mul_mod_self_right]
theorem mN {n a b:Int} {p q:Nat} (h:n=IntKind.u64.wrap (BitVec.ofInt IntKind.u64.bits a ||| BitVec.ofInt IntKind.u64.bits b).toNat) (ha:a=q) (hb:b=((p*4294967296:Nat):Int)) (g:p<4294967296) (f:q<4294967296):n=((q+4294967296*p:Nat):Int):=by
 rw[ZA h ha hb (by omega) (by omega),Nat.mul_comm];have:=LX (a:=q) (b:=p) (d:=32) f;exact congrArg _ this
theorem pS {X V top high P R0 V0:Nat} (h:X=top*P+R0) (hR:R0<P) (hV:V=high*P+V0) (i:0<high):X/V<=top/high:=by
 have f:0<P:=by omega
 have d:X/V<=X/(high*P):=Nat.div_le_div_left (by omega) (Nat.mul_pos i f);have g:X/(high*P)=X/P/high:=by rw[Nat.mul_comm,Nat.div_div_eq_div_mul]
 have h3:X/P=top:=by rw[h,Nat.mul_comm,Nat.mul_add_div f,Nat.div_eq_of_lt hR,Nat.add_zero]
 rw[g,h3] at d;exact d
theorem Va (Y:l.length<=2) (I:AO c (AD l)):CF 323 [.one (.sl .u32 l)] (.one (.int .u64 c)):=by
 refine AG Tryz.func323 fun E X=>?_
 rintro Z ⟨U,f6⟩ S W;refine BN [] [0,3,4] [] (fun vs D k=>∃(d g:Nat) (r j:Int),vs=[.one (.sl .u32 l),.one (.int .u64 r),.one (.int .i64 j)]/\(AO (j+1) d/\d<=l.length/\AO r g)/\g=AD (l.drop d)/\k=d) l.length ⟨l.length,0,0,S,rfl,⟨⟨by omega⟩,by omega,BD 0⟩,by rw[List.drop_length];rfl,rfl⟩ ?_;rintro T t vs D P ⟨d,g,r,j,rfl,⟨J,K,N⟩,hinv,M⟩;conv=>cbv
 have V:=J.eq;have G:=N.eq;refine Ir (fun O=>?_) fun O=>?_
 ·have L:d=0:=by omega
  rw[L,List.drop_zero] at hinv;exact AF (by rw[I.eq,G,hinv])
 refine .inr ?_;refine AK ?_;intro v h;have h:=KP (p:=4294967296) h rfl;obtain⟨i',rfl⟩:∃i',d=i'+1:=⟨d-1,by omega⟩
 have C:g<4294967296:=by have:=Cv (l.drop (i'+1));rw[<-hinv] at this;exact Nat.lt_of_lt_of_le this (Nat.pow_le_pow_right (by decide) (by rw[List.length_drop];omega:32*(l.drop (i'+1)).length<=32))
 refine AW i' fun A s=>?_
 refine AS ?_;intro Q i R o;have F:=i.eq;have f17:=i.lt;have o:=wrap_u64 o;intro w f;conv=>cbv
 have B:v=((g*4294967296:Nat):Int):=by clear hinv;omega
 have f:=KE (p:=g) (q:=A.toNat) f (by omega) (by omega) (by omega) (by omega);refine AK ?_;intro u H;refine⟨i',?_,?_⟩
 ·omega
 rw[t];refine⟨i',_,w,u,rfl,⟨⟨by omega⟩,by omega,⟨f⟩⟩,?_,rfl⟩;rw[Ds s,hinv]
theorem VR {z1:List UInt32} {d:Int} {b:Nat} (hd:AO d b) (hb:0<b) (ax:b<4294967296) (a5:z1=AP (AD l/b)) (hc:AO c (AD l%b)) (sl:l.length<=17592186044416):CF 324 [.one (.sl .u32 l),.one (.int .u32 d)] (.AI [(false,[.sl .u32 z1]),(false,[.int .u32 c])]):=by
 have ed:=hd.eq;refine AG Tryz.func324 fun E hE=>?_
 rintro aC ⟨aq,f10⟩;refine⟨fun _=>⟨by omega,by omega,by show _*4<=140737488355328;omega⟩,?_⟩;intro K (L:List UInt32) D;have ao:=D.1;have h:L=List.replicate K (0:el .u32):=D.2;have ak:L.length=K:=by rw[h,List.length_replicate]
 refine AK ?_;rintro aD ⟨ar,f13⟩ a8 av;refine BN [] [0,1,6,7,8] [11] (fun vs bl k=>∃(o:List UInt32) (m g w:Nat) (r j:Int),vs=[.one (.sl .u32 l),.one (.int .u32 d),.one (.AZ .u32 11 0 0 m),.one (.int .u64 r),.one (.int .i64 j)]/\bl=[.arr 0 .u32 o]/\(o.length=l.length/\m=o.length/\AO (j+1) w/\w<=l.length/\AO r g/\g<b)/\AD (l.drop w)=AD (o.drop w)*b+g/\k=w) l.length ⟨L,K,0,l.length,0,a8,rfl,rfl,⟨by rw[h,List.length_replicate];omega,by rw[h,List.length_replicate],⟨by omega⟩,by omega,BD 0,hb⟩,by rw[List.drop_length,List.drop_eq_nil_of_le (by rw[h,List.length_replicate];omega)];simp[AD],rfl⟩ ?_;rintro J0 Z vs bl aB ⟨o,m,g,w,r,j,rfl,rfl,⟨ho,hm,hj,ay,hr,I⟩,hinv,az⟩;conv=>cbv
 have ej:=hj.eq;have er:=hr.eq;refine Ir (fun a6=>?_) fun a6=>?_
 ·have s:m<=(o).length:=by omega
  obtain⟨a7,C⟩:=xN ((CV ((o).take m)).length);obtain⟨a1,J⟩:=Ei s C;refine .inr (.inr (.inl ⟨[],.one (.AZ .u32 0 0 0 a7),.arr 0 .u32 o,fun _=>⟨by first | decide | simp[Ck,Cj],trivial⟩,fun _=>⟨EK hE (Gr s (by omega) C),rfl,rfl⟩,?_⟩));refine AS ?_;intro aH T;have T:=wrap_u32 T;have hk:w=0:=by omega
  rw[hk,List.drop_zero,List.drop_zero] at hinv;have hq:AD o=AD l/b:=by rw[hinv,Nat.add_comm,Nat.add_mul_div_right _ _ hb,Nat.div_eq_of_lt I,Nat.zero_add]
  have a2:g=AD l%b:=by rw[hinv,Nat.add_comm,Nat.add_mul_mod_self_right,Nat.mod_eq_of_lt I]
  exact AE ⟨⟨rfl,.inl ⟨_,rfl,by omega,congrArg _ (by rw[List.drop_zero,J,a5,hm,List.take_length,hq])⟩,trivial⟩,⟨rfl,congrArg _ (by rw[hc.eq,<-a2];omega),trivial⟩,trivial⟩
 refine .inr ?_;refine AK ?_;intro ab F;have F:=KP (p:=4294967296) F rfl;have F:ab=((g*4294967296:Nat):Int):=by clear hinv;omega
 obtain⟨i',rfl⟩:∃i',w=i'+1:=⟨w-1,by omega⟩
 refine AW i' fun f U=>?_
 refine AS ?_;intro aE N aF O;have au:=N.eq;have f24:=N.lt;have O:=wrap_u64 O;intro aG v;conv=>cbv
 have v:=KE (p:=g) (q:=f.toNat) v (by omega) (by omega) (by omega) (by omega);intro ad P;conv=>cbv
 have P:=wrap_u64 P;refine AK ?_;intro ae G;have G:=wrap_u64 G;intro af H;conv=>cbv
 have H:=wrap_u32 H;have V:ad=(b:Int):=by omega
 have W:ae=(((f.toNat+4294967296*g)/b:Nat):Int):=by rw[G,v,V,<-Int.natCast_ediv];have:=Nat.div_le_self (f.toNat+4294967296*g) b;generalize (f.toNat+4294967296*g)/b=Q at *;clear hinv;omega
 refine AK ?_;intro A an;obtain⟨u,t⟩:=CZ (n:=af) (by omega);have ai:=t.eq;have aj:=t.lt;refine⟨u,fun _=>⟨by show _<List.length (α:=UInt32) o;(first | omega | (simp;omega)),CY t⟩,?_⟩;intro (M:List UInt32) (B:M=List.set (α:=UInt32) o A u);have al:M.length=o.length:=by rw[B,List.length_set]
 refine AS ?_;intro ag S;have S:=wrap_u64 S;refine AK ?_;intro ah Y aa aw;refine⟨i',?_,?_⟩
 ·omega
 rw[Z];have X:ag=(b:Int):=by omega
 have h5:=Nat.div_add_mod (f.toNat+4294967296*g) b;refine⟨M,m,(f.toNat+4294967296*g)%b,i',ah,aa,rfl,rfl,⟨by omega,by omega,⟨by omega⟩,by omega,⟨by rw[Y,v,X];simp⟩,Nat.mod_lt _ hb⟩,?_,rfl⟩
 have aA:(f.toNat+4294967296*g)/b<4294967296:=Nat.div_lt_of_lt_mul (by
  have:4294967296*(g+1)<=4294967296*b:=Nat.mul_le_mul_left _ I;rw[Nat.mul_comm b];omega)
 have ew:u.toNat=(f.toNat+4294967296*g)/b:=by
  rw[W] at H
  generalize (f.toNat+4294967296*g)/b=Q at*
  clear hinv
  omega
 rw[Ds U,hinv,B,Ds (l:=o.set A u) (i:=i') (x:=u) (by rw[show A=i' by omega,List.getElem?_set_self (by omega)]),show A=i' by omega,List.drop_set_of_lt (by omega),ew]
 generalize (f.toNat+4294967296*g)/b=Q at*
 generalize (f.toNat+4294967296*g)%b=R at*
 grind
theorem VU {a:Nat} (r:l=AP a) (D:AO c (DL a)) (sl:l.length<=17592186044416):CF 325 [.one (.sl .u32 l)] (.one (.int .i64 c)):=by
 refine AG Tryz.func325 fun E hE=>?_
 rintro n6 ⟨e6,f6⟩;refine BO (fun T=>?_) fun T=>?_
 ·have s:a=0:=Ec.1 (by rw[<-r];exact List.eq_nil_of_length_eq_zero (by omega));exact AF (by rw[D.eq,s];rfl)
 rintro V ⟨H,f10⟩ W K;refine AW ((l.length-1)) fun f o=>?_
 refine AS ?_;intro A h;have I:=h.eq;have f13:=h.lt;refine BN [] [0,3,4] [] (fun vs G k=>∃(q x':Nat) (n x:Int),vs=[.one (.sl .u32 l),.one (.int .i64 n),.one (.int .u32 x)]/\(AO n q/\AO x x'/\x'<4294967296)/\q+DL x'=DL f.toNat/\k=x') f.toNat ⟨0,f.toNat,0,A,rfl,⟨BD 0,⟨by omega⟩,by omega⟩,Nat.zero_add _,rfl⟩ ?_;rintro J0 t vs G U ⟨q,x',n,x,rfl,⟨R,S,F⟩,hinv,Q⟩;conv=>cbv
 have en:=R.eq;have ex:=S.eq;have P:=Yc (x:=f.toNat) (by omega);refine FJ (fun w=>?_) fun w=>?_
 ·refine .inr ?_;refine AK ?_;intro C L B i;have i:=wrap_u32 i;have g:0<x':=by omega
  refine⟨x'/2,?_,?_⟩
  ·omega
  rw[t];refine⟨q+1,x'/2,C,B,rfl,⟨⟨by omega⟩,⟨by omega⟩,by omega⟩,?_,rfl⟩;have:=la g;omega
 rintro X ⟨J,f21⟩ Y M Z N a1 O;have d:=o;rw[r] at d;have p:(AP a).length-1+1=(AP a).length:=by rw[<-r];omega
 have v:=MU d p;have u:=Pa (x:=f.toNat) (by omega);have j:=RD d p u.1 u.2.1 u.2.2;have g:x'=0:=by omega
 have s:DL 0=0:=rfl;rw[g,s] at hinv;rw[<-r] at j;exact AF (by rw[D.eq,j];omega)
theorem VZ {z:List UInt32} {s:Int} {zn:Nat} (hs:AO s n) (hn:n<=31) (aA:z.length=l.length+1) (a7:AD z=AD l*2^n) (aB:zn=z.length) (sl:l.length<=17592186044416):CF 326 [.one (.sl .u32 l),.one (.int .i64 s)] (.one (.own .u32 z zn)):=by
 have es:=hs.eq;refine AG Tryz.func326 fun E hE=>?_
 rintro n9 ⟨e9,f9⟩ aD av;refine⟨fun _=>⟨by omega,by omega,by show _*4<=140737488355328;omega⟩,?_⟩;intro D (F:List UInt32) B;have aq:=B.1;have f:F=List.replicate D (0:el .u32):=B.2;have ai:F.length=D:=by rw[f,List.length_replicate]
 conv=>cbv
 refine BN [] [0,1,5,6] [11] (fun vs bl k=>∃(o:List UInt32) (c:UInt32) (m i':Nat) (i:Int),vs=[.one (.sl .u32 l),.one (.int .i64 s),.one (.AZ .u32 11 0 0 m),.one (.int .i64 i)]/\bl=[.arr 0 .u32 o]/\(o.length=l.length+1/\m=o.length/\AO i i'/\i'<=l.length)/\(o[i']? =some c/\c.toNat<2^n)/\AD (o.take i')+2^(32*i')*c.toNat=AD (l.take i')*2^n/\k=l.length-i') (l.length-0) ⟨F,0,D,0,0,rfl,rfl,⟨by rw[f,List.length_replicate];omega,by rw[f,List.length_replicate],BD 0,by omega⟩,⟨by rw[f,List.getElem?_replicate,if_pos (by omega)],Nat.two_pow_pos n⟩,by simp[AD],rfl⟩ ?_;rintro J0 a2 vs bl aC ⟨o,c,m,i',i,rfl,rfl,⟨ho,hm,hi,ay⟩,⟨hc,a5⟩,hinv,az⟩;have ei:=hi.eq;refine AS ?_;rintro aE ⟨ar,f14⟩;refine BW (fun a8=>?_) fun a8=>?_
 ·have hk:i'=l.length:=by omega
  have T:AD o=AD l*2^n:=by rw[hk,List.take_length,<-Cq (l:=o) (by rw[<-hk];exact hc),List.take_of_length_le (by omega)] at hinv;exact hinv
  exact AE ⟨⟨rfl,.inr (.inl ⟨_,_,by decide,rfl,rfl,hm,rfl,Dm (NA (by omega) (by rw[a7,T])) (by omega)⟩),trivial⟩,trivial⟩
 refine .inr ?_;refine AW i' fun d V=>?_
 refine AS ?_;intro aF J aG K;have au:=J.eq;have f21:=J.lt;have K:=wrap_u64 K;refine AK ?_;intro ab L;have Z:d.toNat*2^n<9223372036854775808:=Nat.mul_lt_mul_of_lt_of_le (by omega:d.toNat<4294967296) (Nat.pow_le_pow_right (by decide) hn:2^n<=2^31) (by decide);obtain⟨I,g,L⟩:∃q:Nat,q=d.toNat*2^n/\ab=q:=⟨_,rfl,(TW (p:=d.toNat) (e:=n) L (by omega) (by omega)).trans (by congr 1;exact Nat.mod_eq_of_lt (by omega))⟩
 rw[<-g] at Z;refine AK ?_;intro W al;obtain⟨Y,u⟩:=CM (l:=o) (i:=W) (by omega);refine⟨Y,fun _=>u,?_⟩;refine AS ?_;intro aH M aI O;have a1:=M.eq;have f30:=M.lt;have O:=wrap_u32 O;intro H Q;conv=>cbv
 have bo:0<=H/\H<4294967296:=by rw[wrap_u32 Q];omega
 refine AK ?_;intro X an;obtain⟨w,r⟩:=CZ (n:=H) (by omega);have ae:=r.eq;have ag:=r.lt;refine⟨w,fun _=>⟨by show _<List.length (α:=UInt32) o;(first | omega | (simp;omega)),CY r⟩,?_⟩;intro (v:List UInt32) (A:v=List.set (α:=UInt32) o X w);have aj:v.length=o.length:=by rw[A,List.length_set]
 refine AK ?_;intro aJ ax aK R;have R:=EW (p:=4294967296) R rfl;intro ad S;conv=>cbv
 have S:=wrap_u32 S;refine AK ?_;intro C ao;obtain⟨h,t⟩:=CZ (n:=ad) (by omega);have af:=t.eq;have ah:=t.lt;refine⟨h,fun _=>⟨by show _<List.length (α:=UInt32) v;(first | omega | (simp;omega)),CY t⟩,?_⟩;intro (G:List UInt32) (j:G=List.set (α:=UInt32) v C h);have ak:G.length=v.length:=by rw[j,List.length_set]
 refine AK ?_;intro aa aw;refine⟨l.length-(i'+1),?_,?_⟩
 ·omega
 rw[a2];have hq:2^n*2^(32-n)=4294967296:=by rw[<-Nat.pow_add,show n+(32-n)=32 by omega]
 have ec:Y=c:=by rw[show W=i' by omega,hc] at u;exact (Option.some.inj u).symm
 have U:I%4294967296=2^n*(d.toNat%2^(32-n)):=by rw[g,Nat.mul_comm d.toNat,<-hq,Nat.mul_mod_mul_left]
 have h6:=Ph Q (p:=c.toNat) (q:=I%4294967296) (by rw[a1,ec]) (by omega) (by have:=c.toNat_lt;omega) (by omega);rw[U,LX a5,<-U] at h6
 have a6:h.toNat<2^n:=by
  have:I/4294967296<2^n:=Nat.div_lt_of_lt_mul (by rw[g];exact (Nat.mul_lt_mul_right (Nat.two_pow_pos n)).2 (by omega));omega
 refine⟨G,h,m,i'+1,aa,rfl,rfl,⟨by omega,by omega,⟨by omega⟩,by omega⟩,⟨by rw[j,show C=i'+1 by omega,List.getElem?_set_self (by omega)],a6⟩,?_,rfl⟩;rw[j,show C=i'+1 by omega,H2 (Nat.le_refl _),A,show X=i' by omega,FB (by omega),ET,List.length_take,Nat.min_eq_left (by omega),Cq V,EG,Nat.add_mul,<-hinv];have e1:w.toNat+4294967296*h.toNat=c.toNat+d.toNat*2^n:=by rw[<-g];omega
 have e2:2^(32*i')*(w.toNat+4294967296*h.toNat)=2^(32*i')*(c.toNat+d.toNat*2^n):=by rw[e1]
 generalize 2^(32*i')=P at*
 generalize 2^n=N at*
 grind
end
end Go.Abs
