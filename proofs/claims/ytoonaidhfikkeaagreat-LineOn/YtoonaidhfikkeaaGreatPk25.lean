/- Part 26 of a proof. Conditions: each theorem's own. -/
import Derived.Test.YtoonaidhfikkeaaGreatPk24
set_option linter.all false
set_option maxHeartbeats 8000000
open Go.Proofs
namespace Go.Abs
open Go.RowKit
variable {B X Z o:LR} {i n zn:Nat} {xs ys:List Rat}
theorem W1 {A:LR} (r:A=X.take (X.length/2)) (u:B=X.drop (X.length/2)):CF 220 [.one (.sl AA X)] (.AF [(false,[.sl AA A]),(false,[.sl AA B])]):=by
 refine AE Tryz.func220 (by kernel_rfl) rfl fun E J=>?_
 conv=>cbv
 rintro M ⟨H,f6⟩;conv=>cbv
 intro N I;conv=>cbv
 refine g2 ⟨by omega,by omega,i64 (by omega)⟩ ?_;intro L w;conv=>cbv
 refine g2 (by omega) ?_;intro l v;conv=>cbv
 intro K h;conv=>cbv
 rintro F ⟨m,f11⟩;conv=>cbv
 intro G q;conv=>cbv
 refine g2 ⟨by omega,by omega,i64 (by omega)⟩ ?_;intro D d;conv=>cbv
 refine g2 (by omega) ?_;rintro f k ⟨j,a⟩;conv=>cbv
 intro z b;conv=>cbv
 refine g2 rfl ?_;exact fA ⟨⟨rfl,congrArg _ (by rw[r,h,List.drop_zero,show l=X.length/2 by omega]),trivial⟩,⟨rfl,congrArg _ (by rw[u,b,a,d,List.take_length,show f=X.length/2 by omega]),trivial⟩,trivial⟩ rfl (by simp)
theorem Zd {X A:List LR} (k:X≠[]) (q:A=X.take (X.length-1)) (r:X[X.length-1]? =some B):CF 218 [.one (.sl (.sl AA) X)] (.AF [(false,[.sl (.sl AA) A]),(false,[.sl AA B])]):=by
 refine AE Tryz.func218 (by kernel_rfl) rfl fun E G=>?_
 conv=>cbv
 rintro J ⟨z,f6⟩;conv=>cbv
 have D:0<X.length:=List.length_pos_iff.2 k;intro K F;conv=>cbv
 refine g1 (by omega) ?_;intro I v;conv=>cbv
 refine g2 (by omega) ?_;intro h u;conv=>cbv
 intro H d;conv=>cbv
 rintro w ⟨j,f11⟩;conv=>cbv
 intro b m;conv=>cbv
 refine g1 (by omega) ?_;obtain⟨f,a⟩:=AG (l:=X) (i:=(b).toNat) (by omega);refine⟨f,fun _=>⟨by omega,a⟩,?_⟩;try conv=>cbv
 refine g2 rfl ?_;exact fA ⟨⟨rfl,congrArg _ (by rw[q,d,List.drop_zero,show h=X.length-1 by omega]),trivial⟩,⟨rfl,congrArg _ (by rw[show b.toNat=X.length-1 by omega] at a;exact (Option.some.inj (r.symm.trans a))),trivial⟩,trivial⟩ rfl (by simp)
theorem W4 {Z:Nat->LR} (h:o.take i=Z i) (e:i=n):o.take n=Z n:=by rw[<-e];exact h
theorem Kx {α:Type} {o:List α} {w:α} (h:i<o.length):(o.set i w).take (i+1)=o.take i++[w]:=by
 rw[List.take_succ_eq_append_getElem (by rw[List.length_set];exact h),List.take_set_of_le (Nat.le_refl _),List.getElem_set_self]
theorem aa {a:Int} (ha:AK a n) (hn:n<=1000000) (hX:X=AW (List.replicate n 0)) (F:zn=X.length):CF 247 [.one (.int .i64 a)] (.one (.own AA X zn)):=by
 have ea:=ha.eq;refine AE Tryz.func247 (by kernel_rfl) rfl fun E hE=>?_
 conv=>cbv
 refine⟨fun _=>⟨by omega,by omega,by show _*64<=140737488355328;omega⟩,?_⟩;intro H (I:LR) z;have a5:=z.1;have D:I=List.replicate H (((false,[]),(false,[])):el AA):=z.2;have V:I.length=H:=by rw[D,List.length_replicate]
 conv=>cbv
 intro n8 h8;have e8:=h8.eq;conv=>cbv
 refine .inr ?_;obtain⟨U,r⟩:=xJ fun S M k=>∃(o:LR) (m i':Nat) (L i:Int),S=[.one (.AM AA 6 0 0 m),.one (.int .i64 L),.one (.int .i64 i)]/\M=[.arr 0 AA o]/\(o.length=n/\m=n/\B1 L n/\AK i i'/\i'<=n)/\o.take i'=AW (List.replicate i' 0)/\k=n-i'
 refine⟨[3,8,9],[6],U,⟨n-0,by rw[r];exact⟨I,H,0,n8,0,rfl,rfl,⟨by omega,by omega,⟨by omega,by omega⟩,Ah 0,by omega⟩,rfl,rfl⟩⟩,?_⟩;intro S M a6 P;rw[r] at P;obtain⟨o,m,i',L,i,rfl,rfl,⟨ho,hm,O,hi,a1⟩,hinv,a2⟩:=P;conv=>cbv
 have eL:=O.eq;have ei:=hi.eq;intro J v;conv=>cbv
 cases J <;> conv=>cbv
 ·have G:=AR v;have b:o=X:=by rw[hX,<-W4 (Z:=fun i=>AW (List.replicate i 0)) hinv (by omega),List.take_of_length_le (by omega)]
  exact fA ⟨⟨rfl,.inr (.inl ⟨_,_,by decide,rfl,rfl,by omega,rfl,CM (b.symm) (by rw[F,<-b])⟩),trivial⟩,trivial⟩ rfl (by simp)
 have G:=AS v;refine .inr ?_;obtain⟨l,q,h,j,f⟩:=BD (((0:Int):Rat));refine cL hE (EZ (by omega) rfl f) t1 ?_;try conv=>cbv
 refine g2 (by omega) ?_;intro w Q;conv=>cbv
 refine⟨((l,q),(h,j)),fun _=>⟨by show _<List.length (α:=(el AA)) o;(first | omega | (simp;omega)),by first | exact t1 | exact t2 | exact t4 | simp[Ac,Ak,cells]⟩,?_⟩;intro (u:LR) (d:u=List.set (α:=(el AA)) o w (((l,q),(h,j))));have N:u.length=o.length:=by rw[d,List.length_set]
 conv=>cbv
 intro K W;conv=>cbv
 refine g1 (by omega) ?_;refine⟨n-(i'+1),?_,?_⟩
 ·omega
 rw[r];refine⟨u,m,i'+1,L,K,rfl,rfl,⟨by omega,by omega,O,⟨by omega⟩,by omega⟩,?_,rfl⟩;rw[d,show w=i' by omega,Kx (by omega),hinv,List.replicate_succ',AW,AW,List.map_append,<-f.rp];rfl
theorem Ej {x:el AA} (b:X=AW xs) (d:Cf xs) (a:X[i]? =some x):∃q,Ap q x.1.1 x.1.2 x.2.1 x.2.2/\xs[i]? =some q/\BK q:=by
 rw[b,AW,List.getElem?_map] at a;cases h:xs[i]? with
 | none=>rw[h] at a;simp at a
 | some q=>
  rw[h] at a;have e:x=rp q:=(Option.some.inj a).symm;exact⟨q,by rw[e];exact EB q,rfl,d q (List.mem_of_getElem? h)⟩
theorem SJ (h:o.take i=AW (ys.take i)) (b:i=n) (a:o.length=n) (d:ys.length=n):AW ys=o.take n:=by
 rw[b] at h;rw[h,<-d,List.take_length]
theorem SL {l:LR} {j:Nat} {q:Rat} {w:el AA} (h:o.take i=AW (ys.take i)) (b:i<o.length) (d:j=i) (f:l=o.set j w) (a:ys[i]? =some q) (hw:rp q=w):l.take (i+1)=AW (ys.take (i+1)):=by
 have k:i<ys.length:=D9 a;rw[f,d,Kx b,h,List.take_succ,a,AW,AW,List.map_append,<-hw];rfl
theorem X1 (W:X=AW xs) (hs:Cf xs) (hn:xs.length<=1000000) (hZ:Z=AW (xs.map (- ·))):CF 175 [.one (.sl AA X)] (.one (.sl AA Z)):=by
 refine AE Tryz.func175 (by kernel_rfl) rfl fun E hE=>?_
 conv=>cbv
 have a7:X.length=xs.length:=by rw[W,List.length_map]
 rintro n7 ⟨e7,f7⟩;conv=>cbv
 refine⟨fun _=>⟨by omega,by omega,by show _*64<=140737488355328;omega⟩,?_⟩;intro K (M:LR) D;have ab:=D.1;have F:M=List.replicate K (((false,[]),(false,[])):el AA):=D.2;have a5:M.length=K:=by rw[F,List.length_replicate]
 conv=>cbv
 intro N u;have a2:=u.eq;have f10:=u.le;conv=>cbv
 refine .inr ?_;obtain⟨J0,v⟩:=xJ fun vs S k=>∃(o:LR) (m i':Nat) (L i:Int),vs=[.one (.AM AA 8 0 0 m),.one (.sl AA X),.one (.int .i64 L),.one (.int .i64 i)]/\S=[.arr 0 AA o]/\(o.length=X.length/\m=X.length/\B1 L X.length/\AK i i'/\i'<=X.length)/\o.take i'=AW ((xs.map (- ·)).take i')/\k=X.length-i'
 refine⟨[3,9,10,11],[8],J0,⟨X.length-0,by rw[v];exact⟨M,K,0,N,0,rfl,rfl,⟨by omega,by omega,u,Ah 0,by omega⟩,rfl,rfl⟩⟩,?_⟩;intro vs S ad hj;rw[v] at hj;obtain⟨o,m,i',L,i,rfl,rfl,⟨ho,hm,V,hi,a8⟩,hinv,aa⟩:=hj;conv=>cbv
 have eL:=V.eq;have ei:=hi.eq;intro O z;conv=>cbv
 cases O <;> conv=>cbv
 ·have J:=AR z;exact fA ⟨⟨rfl,.inl ⟨_,rfl,by omega,congrArg _ (by rw[hZ,hm,List.drop_zero];exact SJ hinv (by omega) (by omega) (by rw[List.length_map];omega))⟩,trivial⟩,trivial⟩ rfl (by simp)
 have J:=AS z;refine .inr ?_;obtain⟨Q,b⟩:=AG (l:=X) (i:=i') (by omega);refine⟨Q,fun _=>⟨by omega,by rw[show (i).toNat=i' by omega];exact b⟩,?_⟩;try conv=>cbv
 obtain⟨q,hq,G,H⟩:=Ej W hs b;obtain⟨j,r,f,h,d⟩:=BD (-q);refine cL hE (UN hq H rfl d) ⟨t4,trivial⟩ ?_;try conv=>cbv
 refine g2 (by omega) ?_;intro I a1;conv=>cbv
 refine⟨((j,r),(f,h)),fun _=>⟨by show _<List.length (α:=(el AA)) o;(first | omega | (simp;omega)),by first | exact t1 | exact t2 | exact t4 | simp[Ac,Ak,cells]⟩,?_⟩;intro (w:LR) (a:w=List.set (α:=(el AA)) o I (((j,r),(f,h))));have U:w.length=o.length:=by rw[a,List.length_set]
 conv=>cbv
 intro P a6;conv=>cbv
 refine g1 (by omega) ?_;refine⟨X.length-(i'+1),?_,?_⟩
 ·omega
 rw[v];refine⟨w,m,i'+1,L,P,rfl,rfl,⟨by omega,by omega,V,⟨by omega⟩,by omega⟩,?_,rfl⟩;exact SL hinv (by omega) (by omega) a (by rw[List.getElem?_map,G];rfl) d.rp
theorem Vo {Y:LR} (hX:X=AW xs) (hY:Y=AW ys) (hs:Cf xs) (ht:Cf ys) (O:ys.length=xs.length) (hn:xs.length<=1000000) (hZ:Z=AW (List.zipWith (· + ·) xs ys)) (P:zn=Z.length):CF 205 [.one (.sl AA X),.one (.sl AA Y)] (.one (.own AA Z zn)):=by
 refine AE Tryz.func205 (by kernel_rfl) rfl fun E hE=>?_
 conv=>cbv
 have ae:X.length=xs.length:=by rw[hX,List.length_map]
 have af:Y.length=xs.length:=by rw[hY,List.length_map,O]
 rintro n8 ⟨e8,f8⟩;conv=>cbv
 refine⟨fun _=>⟨by omega,by omega,by show _*64<=140737488355328;omega⟩,?_⟩;intro U (V:LR) G;have ai:=G.1;have I:V=List.replicate U (((false,[]),(false,[])):el AA):=G.2;have ab:V.length=U:=by rw[I,List.length_replicate]
 conv=>cbv
 intro W H;have aa:=H.eq;conv=>cbv
 refine .inr ?_;obtain⟨J0,w⟩:=xJ fun vs bl k=>∃(o:LR) (m i':Nat) (L i:Int),vs=[.one (.sl AA X),.one (.sl AA Y),.one (.AM AA 9 0 0 m),.one (.int .i64 L),.one (.int .i64 i)]/\bl=[.arr 0 AA o]/\(o.length=X.length/\m=X.length/\AK L X.length/\AK i i'/\i'<=X.length)/\o.take i'=AW ((List.zipWith (· + ·) xs ys).take i')/\k=X.length-i'
 refine⟨[0,1,5,11,12],[9],J0,⟨X.length-0,by rw[w];exact⟨V,U,0,W,0,rfl,rfl,⟨by omega,by omega,⟨by omega⟩,Ah 0,by omega⟩,rfl,rfl⟩⟩,?_⟩;intro vs bl aj hj;rw[w] at hj;obtain⟨o,m,i',L,i,rfl,rfl,⟨ho,hm,hL,hi,ag⟩,hinv,ah⟩:=hj;conv=>cbv
 have eL:=hL.eq;have ei:=hi.eq;intro a1 D;conv=>cbv
 cases a1 <;> conv=>cbv
 ·have S:=AR D;have F:AW (List.zipWith (· + ·) xs ys)=o.take X.length:=SJ hinv (by omega) (by omega) (by rw[List.length_zipWith];omega);have a:Z=o:=by rw[hZ,F,List.take_of_length_le (by omega)]
  exact fA ⟨⟨rfl,.inr (.inl ⟨_,_,by decide,rfl,rfl,by omega,rfl,CM (a) (by rw[P,a])⟩),trivial⟩,trivial⟩ rfl (by simp)
 have S:=AS D;refine .inr ?_;obtain⟨a5,d⟩:=AG (l:=X) (i:=i') (by omega);refine⟨a5,fun _=>⟨by omega,by rw[show (i).toNat=i' by omega];exact d⟩,?_⟩;try conv=>cbv
 obtain⟨a6,f⟩:=AG (l:=Y) (i:=i') (by omega);refine⟨a6,fun _=>⟨by omega,by rw[show (i).toNat=i' by omega];exact f⟩,?_⟩;try conv=>cbv
 obtain⟨p,hp,J,M⟩:=Ej hX hs d;obtain⟨q,hq,K,N⟩:=Ej hY ht f;obtain⟨u,v,j,r,h⟩:=BD (p+q);refine cL hE (UI hp hq M N rfl h) ⟨t4,t4,trivial⟩ ?_;try conv=>cbv
 refine g2 (by omega) ?_;intro Q a8;conv=>cbv
 refine⟨((u,v),(j,r)),fun _=>⟨by show _<List.length (α:=(el AA)) o;(first | omega | (simp;omega)),by first | exact t1 | exact t2 | exact t4 | simp[Ac,Ak,cells]⟩,?_⟩;intro (z:LR) (b:z=List.set (α:=(el AA)) o Q (((u,v),(j,r))));have a7:z.length=o.length:=by rw[b,List.length_set]
 conv=>cbv
 refine g2 rfl ?_;intro a2 ad;conv=>cbv
 refine g1 (by omega) ?_;refine⟨X.length-(i'+1),?_,?_⟩
 ·omega
 rw[w];refine⟨z,m,i'+1,L,a2,rfl,rfl,⟨by omega,by omega,hL,⟨by omega⟩,by omega⟩,?_,rfl⟩;exact SL hinv (by omega) (by omega) b (by rw[List.getElem?_zipWith,J,K]) h.rp
end Go.Abs
namespace Go.Abs
open Go.RowKit
def Ek (p:el AA->Bool):Nat->LR->Int
 | _,[]=> -1
 | i,x::l=>if p x=true then i else Ek p (i+1) l
variable {Y:LR} {b1 b2 c:Bool} {g:FuncId} {i:Nat} {l1 l2:List UInt32} {ys:List Rat}
theorem Qf {X:LR} {x:el AA} (h:X[i]? =some x):X.drop i=x::X.drop (i+1):=by
 have a:=D9 h;rw[List.drop_eq_getElem_cons a];rw[List.getElem?_eq_getElem a] at h;rw[Option.some.inj h]
theorem W6 {X:LR} {p:el AA->Bool} {x:el AA} (h:X[i]? =some x) (a:p x=false):Ek p i (X.drop i)=Ek p (i+1) (X.drop (i+1)):=by
 rw[Qf h,Ek,a];rfl
theorem W5 {X:LR} {p:el AA->Bool} {x:el AA} (h:X[i]? =some x) (a:p x=true):Ek p i (X.drop i)=i:=by
 rw[Qf h,Ek,if_pos a]
theorem Tu {X:LR} {p:el AA->Bool} {r:Int} (H:∀x∈X,CF g [.agg (cells AA x)] (.one (.bool (p x)))) (M:r=Ek p 0 X):CF 277 [.one (.sl AA X),.one (.fn g)] (.one (.int .i64 r)):=by
 refine AE Tryz.func277 (by kernel_rfl) rfl fun E G=>?_
 conv=>cbv
 intro P j;have S:=j.eq;have f7:=j.le;conv=>cbv
 refine .inr ?_;obtain⟨z,f⟩:=xJ fun w D k=>∃(i':Nat) (L i:Int),w=[.one (.sl AA X),.one (.fn g),.one (.int .i64 L),.one (.int .i64 i)]/\(B1 L X.length/\AK i i'/\i'<=X.length)/\r=Ek p i' (X.drop i')/\k=X.length-i'
 refine⟨[0,1,7,8],[],z,⟨X.length-0,by rw[f];exact⟨0,P,0,rfl,⟨j,Ah 0,by omega⟩,M,rfl⟩⟩,?_⟩;intro w D O v;rw[f] at v;obtain⟨i',L,i,rfl,⟨u,I,J⟩,hinv,K⟩:=v;conv=>cbv
 have U:=u.eq;have V:=I.eq;intro Q q;conv=>cbv
 cases Q <;> conv=>cbv
 ·have N:=AR q;exact fA ⟨⟨rfl,congrArg _ (by rw[hinv,List.drop_eq_nil_of_le (by omega)];rfl),trivial⟩,trivial⟩ rfl (by simp)
 have N:=AS q;refine .inr ?_;obtain⟨a,b⟩:=AG (l:=X) (i:=i') (by omega);refine⟨a,fun _=>⟨by omega,by rw[show (i).toNat=i' by omega];exact b⟩,?_⟩;try conv=>cbv
 obtain⟨h,d⟩:=xB (p a);refine .inl ⟨[.agg [.bool a.1.1,.sl .u32 a.1.2,.bool a.2.1,.sl .u32 a.2.2]],.one (.bool h),fun _=>⟨t4,trivial⟩,fun _=>E3 G ((by rw[d];exact H a (List.mem_of_getElem? b))),?_⟩;try conv=>cbv
 cases h <;> conv=>cbv
 ·intro m F;conv=>cbv
  refine g1 (by omega) ?_;refine⟨X.length-(i'+1),?_,?_⟩
  ·omega
  rw[f];refine⟨i'+1,L,m,rfl,⟨u,⟨by omega⟩,by omega⟩,?_,rfl⟩;rw[hinv,W6 b d.symm]
 exact fA ⟨⟨rfl,congrArg _ (by rw[hinv,W5 b d.symm];omega),trivial⟩,trivial⟩ rfl (by simp)
theorem Qe (p:el AA->Bool):∀(X:LR) (i:Nat),decide (Ek p i X >= 0)=X.any p
 | [],i=>rfl
 | x::X,i=>by
  rw[Ek,List.any_cons]
  split
  ·rename_i h;rw[h,Bool.true_or];exact decide_eq_true (by omega)
  rename_i h;rw[Bool.eq_false_iff.2 h,Bool.false_or];exact Qe p X (i+1)
theorem N7 {X:LR} {p:el AA->Bool} (h:∀x∈X,CF g [.agg (cells AA x)] (.one (.bool (p x)))) (f:c=X.any p):CF 251 [.one (.sl AA X),.one (.fn g)] (.one (.bool c)):=by
 refine AE Tryz.func251 (by kernel_rfl) rfl fun E d=>?_
 conv=>cbv
 obtain⟨k,a⟩:=xI (Ek p 0 X);refine cL d (Tu h a) t2 ?_;try conv=>cbv
 intro j b;conv=>cbv
 exact fA ⟨⟨rfl,congrArg _ (by rw[f,b,a];exact (Qe p X 0).symm),trivial⟩,trivial⟩ rfl (by simp)
theorem Y9 (q:Rat):decide (q≠0)=(C0 q !=0):=by
 have h:= @Rat.num_eq_zero q;rw[Bool.eq_iff_iff,decide_eq_true_eq,bne_iff_ne];rcases NW q with⟨a,e⟩ |⟨a,e⟩ |⟨a,e⟩ <;> rw[e]
 ·exact⟨fun _=>by decide,fun _ b=>by rw[h.2 b] at a;omega⟩
 ·exact⟨fun b=>absurd (h.1 a) b,fun b=>absurd rfl b⟩
 exact⟨fun _=>by decide,fun _ b=>by rw[h.2 b] at a;omega⟩
theorem X5 {q:Rat} (h:Ap q b1 l1 b2 l2) (f:c=decide (q≠0)):CF 274 [.agg [.bool b1,.sl .u32 l1,.bool b2,.sl .u32 l2]] (.one (.bool c)):=by
 refine AE Tryz.func274 (by kernel_rfl) rfl fun E d=>?_
 conv=>cbv
 obtain⟨k,a⟩:=xI (C0 q);refine cL d (JH h a) ⟨t4,trivial⟩ ?_;try conv=>cbv
 intro j b;conv=>cbv
 exact fA ⟨⟨rfl,congrArg _ (by rw[f,b,a];exact Y9 q),trivial⟩,trivial⟩ rfl (by simp)
theorem SI (q:Rat):decide (q≠0)= !(rp q).1.2.isEmpty:=by
 have h:(rp q).1.2=AJ q.num.natAbs:=rfl;rw[h,Bool.eq_iff_iff,decide_eq_true_eq,Bool.not_eq_true',List.isEmpty_eq_false_iff,Ne,Ne,DX,<-Rat.num_eq_zero];omega
theorem Yu (xs:List Rat):(AW xs).any (fun x=> !x.1.2.isEmpty)= !decide (∀q∈xs,q=0):=by
 induction xs with
 | nil=>rfl
 | cons q xs a=>
  rw[AW,List.map_cons,List.any_cons,<-SI,<-AW,a]
  by_cases h:q=0 <;> simp[h]
theorem Zy {X:LR} {xs:List Rat} (b:X=AW xs):∀x∈X,CF 274 [.agg (cells AA x)] (.one (.bool (!x.1.2.isEmpty))):=by
 intro x a;rw[b] at a;obtain⟨q,_,rfl⟩:=List.mem_map.1 a;exact X5 (EB q) (SI q).symm
theorem O0 {X:LR} {xs:List Rat} (b:X=AW xs) (h:c=decide (∀q∈xs,q=0)):CF 244 [.one (.sl AA X)] (.one (.bool c)):=by
 refine AE Tryz.func244 (by kernel_rfl) rfl fun E f=>?_
 conv=>cbv
 obtain⟨j,a⟩:=xB (X.any (fun x=> !x.1.2.isEmpty));refine cL f (N7 (Zy b) a) t2 ?_;try conv=>cbv
 intro k d;conv=>cbv
 exact fA ⟨⟨rfl,congrArg _ (by rw[h,d,a,b,Yu,Bool.not_not]),trivial⟩,trivial⟩ rfl (by simp)
theorem XP (f:c= !FT b1 l1 b2 l2) (s1:l1.length<=17592186042000) (s2:l2.length<=17592186042000):CF 252 [.agg [.bool b1,.sl .u32 l1,.bool b2,.sl .u32 l2]] (.one (.bool c)):=by
 refine AE Tryz.func252 (by kernel_rfl) rfl fun E d=>?_
 conv=>cbv
 obtain⟨h,a⟩:=xB (FT b1 l1 b2 l2);refine cL d (OK a s1 s2) ⟨t4,trivial⟩ ?_;try conv=>cbv
 intro j b;conv=>cbv
 exact fA ⟨⟨rfl,congrArg _ (by rw[f,b,a]),trivial⟩,trivial⟩ rfl (by simp)
theorem V8 {X:LR} {xs:List Rat} (b:X=AW xs) (f:Cf xs):∀x∈X,CF 252 [.agg (cells AA x)] (.one (.bool false)):=by
 intro x a;rw[b] at a;obtain⟨q,d,rfl⟩:=List.mem_map.1 a;have h:=(EB q).small (f q d);exact XP (by rw[Nt.2 ⟨q,EB q⟩];rfl) (by omega) (by omega)
theorem any_false (X:LR):false=X.any (fun _=>false):=by
 induction X with
 | nil=>rfl
 | cons x X a=>rw[List.any_cons,<-a];rfl
theorem My {X:LR} {xs:List Rat} {k:Int} {n:Nat} (b:X=AW xs) (m:Cf xs) (l:AK k n) (h:c=decide (xs.length=n)):CF 216 [.one (.sl AA X),.one (.int .i64 k)] (.one (.bool c)):=by
 have w:=l.eq;refine AE Tryz.func216 (by kernel_rfl) rfl fun E j=>?_
 conv=>cbv
 rintro z ⟨v,f6⟩;conv=>cbv
 intro u f;conv=>cbv
 cases u <;> conv=>cbv
 ·have q:=Ab f;exact fA ⟨⟨rfl,congrArg _ (by have d:X.length=xs.length:=(by rw[b,List.length_map]);rw[h];exact decide_eq_false (by omega)),trivial⟩,trivial⟩ rfl (by simp)
 have q:=Ad f;refine cL j (N7 (p:=fun _=>false) (V8 b m) (any_false X)) t2 ?_;try conv=>cbv
 intro r a;conv=>cbv
 exact fA ⟨⟨rfl,congrArg _ (by have d:X.length=xs.length:=(by rw[b,List.length_map]);rw[h,a];exact decide_eq_true (by omega)),trivial⟩,trivial⟩ rfl (by simp)
theorem DF {n i:Int} {k:Nat} (h:n=IntKind.i64.wrap (1*2^min i.toNat IntKind.i64.bits)) (e:i=k) (a:k<=20):AK n (2^k):=by
 have b:=wrap_i64 h;have f:2^k<=2^20:=Nat.pow_le_pow_right (by decide) a
 have d:((2:Int)^min i.toNat IntKind.i64.bits)=((2^k:Nat):Int):=by
  rw[e,Int.toNat_natCast,Nat.min_eq_left (Nat.le_trans a (by decide))];simp
 rw[d,Int.one_mul] at b
 generalize 2^k=Q at*
 exact⟨by omega⟩
theorem Gl {X:List LR} {xs:List (List Rat)} {x:LR} (b:X=xs.map AW) (a:X[i]? =some x):∃y,x=AW y/\xs[i]? =some y:=by
 rw[b,List.getElem?_map] at a;cases h:xs[i]? with
 | none=>rw[h] at a;simp at a
 | some q=>rw[h] at a;exact⟨q,(Option.some.inj a).symm,rfl⟩
theorem ND {X:List LR} {xs:List (List Rat)} (F:X=xs.map AW) (ht:JK xs) (P:c=true):CF 215 [.one (.sl (.sl AA) X)] (.one (.bool c)):=by
 refine AE Tryz.func215 (by kernel_rfl) rfl fun E N=>?_
 conv=>cbv
 have O:X.length=xs.length:=by rw[F,List.length_map]
 have hl:=ht.MQ;intro n6 m;have e6:=m.eq;have f6:=m.le;conv=>cbv
 refine .inr ?_;obtain⟨I,b⟩:=xJ fun H J k=>∃(i':Nat) (L i:Int),H=[.one (.sl (.sl AA) X),.one (.int .i64 L),.one (.int .i64 i)]/\(B1 L X.length/\AK i i'/\i'<=X.length)/\k=X.length-i'
 refine⟨[5,6,7],[],I,⟨X.length-0,by rw[b];exact⟨0,n6,0,rfl,⟨m,Ah 0,by omega⟩,rfl⟩⟩,?_⟩;intro H J W G;rw[b] at G;obtain⟨i',L,i,rfl,⟨D,Q,S⟩,U⟩:=G;conv=>cbv
 have eL:=D.eq;have K:=Q.eq;intro n8 z;conv=>cbv
 cases n8 <;> conv=>cbv
 ·have V:=AR z;exact fA ⟨⟨rfl,congrArg _ (P),trivial⟩,trivial⟩ rfl (by simp)
 have V:=AS z;refine .inr ?_;obtain⟨w,a⟩:=AG (l:=X) (i:=i') (by omega);refine⟨w,fun _=>⟨by omega,by rw[show (i).toNat=i' by omega];exact a⟩,?_⟩;try conv=>cbv
 intro a1 j;conv=>cbv
 refine g2 (by omega) ?_;obtain⟨x,q,f⟩:=Gl F a;refine cL (r:= .one (.bool true)) N (My q (ht.small x (List.mem_of_getElem? f)) (DF j K (by omega)) (by rw[ht.form i' x f];exact (decide_eq_true rfl).symm)) t2 ?_;try conv=>cbv
 intro u d;conv=>cbv
 cases u <;> conv=>cbv
 ·have h:=Cr d;intro v M;conv=>cbv
  refine g1 (by omega) ?_;refine⟨X.length-(i'+1),?_,?_⟩
  ·omega
  rw[b];exact⟨i'+1,L,v,rfl,⟨D,⟨by omega⟩,by omega⟩,rfl⟩
 have h:=Cs d;exact absurd h (by decide)
theorem EX {X:List LR} {xs:List (List Rat)} (j:X=xs.map AW) (ht:JK xs) (l:Y=AW ys) (q:Cf ys) (m:c=decide (ys.length=2^xs.length)):CF 171 [.one (.sl (.sl AA) X),.one (.sl AA Y)] (.one (.bool c)):=by
 refine AE Tryz.func171 (by kernel_rfl) rfl fun E h=>?_
 conv=>cbv
 have f:X.length=xs.length:=by rw[j,List.length_map]
 have v:=ht.MQ;refine cL h (ND j ht rfl) t1 ?_;try conv=>cbv
 rintro r ⟨b,f10⟩;conv=>cbv
 intro u d;conv=>cbv
 refine g2 (by omega) ?_;obtain⟨k,a⟩:=xB (decide (ys.length=2^xs.length));refine cL h (My l q (DF d (b.trans (congrArg _ f)) (by omega)) a) t2 ?_;try conv=>cbv
 exact fA ⟨⟨rfl,congrArg _ (m.trans a.symm),trivial⟩,trivial⟩ rfl (by simp)
theorem MK {X:List LR} {Z:LR} {xs:List (List Rat)} {k:List Rat} (m:X=xs.map AW) (ht:JK xs) (q:Y=AW ys) (u:Cf ys) (h:ys.length=2^xs.length) (r:Z=AW k) (f:Cf k) (j:k.length=2^xs.length):CF 204 [.one (.sl (.sl AA) X),.one (.sl AA Y),.one (.sl AA Z)] (.one (.bool true)):=by
 refine AE Tryz.func204 (by kernel_rfl) rfl fun E l=>?_
 conv=>cbv
 have d:X.length=xs.length:=by rw[m,List.length_map]
 have z:=ht.MQ;refine cL l (EX m ht q u (decide_eq_true h).symm) t2 ?_;try conv=>cbv
 rintro v ⟨a,f13⟩;conv=>cbv
 intro w b;conv=>cbv
 refine g2 (by omega) ?_;refine cL l (My r f (DF b (a.trans (congrArg _ d)) (by omega)) (decide_eq_true j).symm) t2 ?_;try conv=>cbv
 exact fA ⟨t2,trivial⟩ rfl (by simp)
end Go.Abs
namespace Go.Abs
open Go.RowKit
variable {A B C X Y Z:LR} {R s t zn:Nat} {T:List LR} {p:Rat} {x y:Re}
theorem Gg {u:List (List Rat)} (h:AQ u) (d:In u x) (b:X=em u x) (a:x=0):CF 244 [.one (.sl AA X)] (.one (.bool true)):=
 O0 b (decide_eq_true ((IQ h d).2 a)).symm
theorem Fc {u:List (List Rat)} (h:AQ u) (d:In u x) (b:X=em u x) (a:x≠0):CF 244 [.one (.sl AA X)] (.one (.bool false)):=
 O0 b (decide_eq_false (fun k=>a ((IQ h d).1 k))).symm
theorem KA {u:List (List Rat)} {r:List Rat} {p q:Re} (h:AQ (r::u)) (b:In u p) (d:In u q) (f:x=p+q*rt u r) (a:X=em (r::u) x) (j:A=em u p) (k:B=em u q):
  CF 220 [.one (.sl AA X)] (.AF [(false,[.sl AA A]),(false,[.sl AA B])]):=
 W1 (by rw[a,j,Bb h b d f]) (by rw[a,k,BO h b d f])
theorem Gz (r:List Rat) (u:List (List Rat)):tw (r::u)≠[]:=by rw[JA];simp
theorem Kw {X A:List LR} {u:List (List Rat)} {r:List Rat} (a:X=tw (r::u)) (b:A=tw u) (d:B=AW r):
  CF 218 [.one (.sl (.sl AA) X)] (.AF [(false,[.sl (.sl AA) A]),(false,[.sl AA B])]):=
 Zd (by rw[a];exact Gz r u) (by rw[a,b,CV]) (by rw[a,d,Da])
theorem GP {n:Nat} (h:n<=16):2^n<=1000000:=Nat.le_trans (CA h) (by decide)
theorem O5 {u:List (List Rat)} (h:AU R u) (f:X=em u x) (j:Y=em u y) (a:El u s x) (b:El u t y) (l:s<=60000000000000) (ht:t<=60000000000000) (k:Z=em u (x+y)) (d:zn=Z.length):
  CF 205 [.one (.sl AA X),.one (.sl AA Y)] (.one (.own AA Z zn)):=
 Vo f j (a.BE l) (b.BE ht) (by rw[a.len,b.len]) (by rw[a.len];exact GP h.ht) (by rw[k,QE h.red a.mem b.mem]) d
theorem JW {u:List (List Rat)} (h:AU R u) (a:X=em u x) (b:Y=em u y) (j:El u s x) (k:El u t y) (f:s<=60000000000000) (ht:t<=60000000000000) (d:Z=em u (x+y)):
 CF 205 [.one (.sl AA X),.one (.sl AA Y)] (.one (.sl AA Z)):=B8 (O5 h a b j k f ht d rfl)
theorem KV {u:List (List Rat)} (h:AU R u) (b:X=em u x) (a:El u s x) (f:s<=60000000000000) (d:Z=em u (-x)):
  CF 175 [.one (.sl AA X)] (.one (.sl AA Z)):=
 X1 b (a.BE f) (by rw[a.len];exact GP h.ht) (by rw[d,QF h.red a.mem])
theorem LG {a:Int} {u:List (List Rat)} (h:AU R u) (f:AK a (2^u.length)) (d:Z=em u 0) (b:zn=Z.length):
  CF 247 [.one (.int .i64 a)] (.one (.own AA Z zn)):=
 aa f (GP h.ht) (by rw[d,MF h.red]) b
theorem C8 {x:el AA} (b:A=[rp p]) (a:A[0]? =some x):Ap p x.1.1 x.1.2 x.2.1 x.2.2:=by
 rw[b] at a;rw[<-Option.some.inj a];exact EB p
theorem Xp {q:Rat} (L:T=[]) (F:A=[rp p]) (G:B=[rp q]) (O:BK p) (ht:BK q) (H:C=[rp (p*q)]) (v:zn=C.length):CF 206 [.one (.sl (.sl AA) T),.one (.sl AA A),.one (.sl AA B)] (.one (.own AA C zn)):=by
 refine AE Tryz.func206 (by kernel_rfl) rfl fun E K=>?_
 conv=>cbv
 refine .inr ?_;rintro P ⟨u,f16⟩;conv=>cbv
 intro w f;conv=>cbv
 cases w <;> conv=>cbv
 ·have h:=Ab f;exact absurd (by rw[u,L];rfl) h
 have h:=Ad f;have I:A.length=1:=by rw[F];rfl
 have J:B.length=1:=by rw[G];rfl
 obtain⟨z,a⟩:=AG (l:=A) (i:=0) (by omega);refine⟨z,fun _=>⟨by omega,a⟩,?_⟩;try conv=>cbv
 obtain⟨D,b⟩:=AG (l:=B) (i:=0) (by omega);refine⟨D,fun _=>⟨by omega,b⟩,?_⟩;try conv=>cbv
 have M:=C8 F a;have N:=C8 G b;obtain⟨m,r,j,k,d⟩:=BD (p*q);refine cL K (UM M N O ht rfl d) ⟨t4,t4,trivial⟩ ?_;try conv=>cbv
 refine⟨[((m,r),(j,k))],fun _=>⟨rfl,by decide,rfl,⟨rfl,by first | exact t1 | exact t2 | exact t4 | simp[Ac,Ak,cells],trivial⟩⟩,.inl ?_⟩;try conv=>cbv
 refine g2 rfl ?_;exact fA ⟨⟨rfl,.inr (.inl ⟨_,_,by decide,rfl,rfl,rfl,rfl,CM (by rw[H,d.rp]) (by rw[v,H];rfl)⟩),trivial⟩,trivial⟩ rfl (by simp)
theorem Xt {u:List (List Rat)} (h:AU R u) (I:T≠[]) (w:A=em u x) (L:B=em u y) (F:In u x) (M:In u y) (H:x=0) (z:C=em u 0) (m:zn=C.length):CF 206 [.one (.sl (.sl AA) T),.one (.sl AA A),.one (.sl AA B)] (.one (.own AA C zn)):=by
 refine AE Tryz.func206 (by kernel_rfl) rfl fun E D=>?_
 conv=>cbv
 refine .inr ?_;rintro J ⟨G,f16⟩;conv=>cbv
 intro v d;conv=>cbv
 cases v <;> conv=>cbv
 ·have q:=Ab d;refine cL D (Gg h.red F w H) t1 ?_;try conv=>cbv
  have l:A.length=2^u.length:=by rw[w,Ao F]
  rintro K ⟨k,f34⟩;conv=>cbv
  obtain⟨f,a⟩:=xR (em u (0));obtain⟨j,b⟩:=xN f.length;refine cL (r:= .one (.own AA f j)) D (LG h (AK.of (by rw[k,l])) a b) t1 ?_;try conv=>cbv
  exact fA ⟨⟨rfl,.inr (.inl ⟨_,_,by decide,rfl,rfl,b,rfl,CM (by rw[z,a]) (by rw[m,z,<-a])⟩),trivial⟩,trivial⟩ rfl (by simp)
 have q:=Ad d;exact absurd (List.length_eq_zero_iff.1 (by omega)) I
theorem Xu {u:List (List Rat)} (h:AU R u) (K:T≠[]) (z:A=em u x) (J:B=em u y) (F:In u x) (L:In u y) (H:y=0) (I:x≠0) (D:C=em u 0) (q:zn=C.length):CF 206 [.one (.sl (.sl AA) T),.one (.sl AA A),.one (.sl AA B)] (.one (.own AA C zn)):=by
 refine AE Tryz.func206 (by kernel_rfl) rfl fun E m=>?_
 conv=>cbv
 refine .inr ?_;rintro M ⟨G,f16⟩;conv=>cbv
 intro w d;conv=>cbv
 cases w <;> conv=>cbv
 ·have v:=Ab d;refine cL m (Fc h.red F z I) t1 ?_;try conv=>cbv
  refine cL m (Gg h.red L J H) t1 ?_;try conv=>cbv
  have l:A.length=2^u.length:=by rw[z,Ao F]
  rintro N ⟨k,f34⟩;conv=>cbv
  obtain⟨f,a⟩:=xR (em u (0));obtain⟨j,b⟩:=xN f.length;refine cL (r:= .one (.own AA f j)) m (LG h (AK.of (by rw[k,l])) a b) t1 ?_;try conv=>cbv
  exact fA ⟨⟨rfl,.inr (.inl ⟨_,_,by decide,rfl,rfl,b,rfl,CM (by rw[D,a]) (by rw[q,D,<-a])⟩),trivial⟩,trivial⟩ rfl (by simp)
 have v:=Ad d;exact absurd (List.length_eq_zero_iff.1 (by omega)) K
def OD (f:FuncId) (R:Nat) (u:List (List Rat)):Prop:=∀{T:List LR} {A B C:LR} {zn s t:Nat} {x y:Re},T=tw u->A=em u x->B=em u y->El u s x->El u t y->s+t+EE u.length R<=60000000000000->C=em u (x*y)->zn=C.length->
 CF f [.one (.sl (.sl AA) T),.one (.sl AA A),.one (.sl AA B)] (.one (.own AA C zn))
theorem Xs {u:List (List Rat)} {r:List Rat} (h:AU R (r::u)) (V:OD 206 R u) (hT:T=tw (r::u)) (hA:A=em (r::u) x) (hB:B=em (r::u) y) (hx:El (r::u) s x) (hy:El (r::u) t y) (ak:s+t+EE (r::u).length R<=60000000000000) (h0:x≠0) (h1:y≠0) (hC:C=em (r::u) (x*y)) (a7:zn=C.length):CF 206 [.one (.sl (.sl AA) T),.one (.sl AA A),.one (.sl AA B)] (.one (.own AA C zn)):=by
 obtain⟨p,q,a5,G,D⟩:=El.parts h.red hx;obtain⟨a,b,a6,F,hb⟩:=El.parts h.red hy;have ai:EE (r::u).length R=2*EE u.length R+R+2:=rfl;have H:=El.Bz h;have hR:=h.hR;have aj:=Bg h.red;refine AE Tryz.func206 (by kernel_rfl) rfl fun E f=>?_
 conv=>cbv
 refine .inr ?_;rintro al ⟨ah,f16⟩;conv=>cbv
 intro aa W;conv=>cbv
 cases aa <;> conv=>cbv
 ·have a8:=Ab W;refine cL f (Fc h.red hx.mem hA h0) t1 ?_;try conv=>cbv
  refine cL f (Fc h.red hy.mem hB h1) t1 ?_;try conv=>cbv
  obtain⟨an,d⟩:=xV (tw u);obtain⟨ao,L⟩:=xR (AW r);refine cL f (Kw hT d L) t1 ?_;try conv=>cbv
  obtain⟨aq,j⟩:=xR (em u p);obtain⟨ar,k⟩:=xR (em u q);refine cL f (KA h.red G.mem D.mem a5 hA j k) t1 ?_;try conv=>cbv
  obtain⟨au,l⟩:=xR (em u a);obtain⟨av,m⟩:=xR (em u b);refine cL f (KA h.red F.mem hb.mem a6 hB l m) t1 ?_;try conv=>cbv
  obtain⟨aw,M⟩:=xR (em u (p*a));refine cL f (B8 (V d j l G F (by omega) M rfl)) t3 ?_;try conv=>cbv
  obtain⟨ax,N⟩:=xR (em u (q*b));refine cL f (B8 (V d k m D hb (by omega) N rfl)) t3 ?_;try conv=>cbv
  obtain⟨ay,O⟩:=xR (em u (q*b*AI u r));refine cL f (B8 (V d N (L.trans (Cn h.red)) (D.mul h.tail hb) H (by omega) O rfl)) t3 ?_;try conv=>cbv
  obtain⟨I,v⟩:=xR (em u (p*a+q*b*AI u r));obtain⟨ag,w⟩:=xN I.length;refine cL f (O5 h.tail M O (G.mul h.tail F) ((D.mul h.tail hb).mul h.tail H) (by omega) (by omega) v w) t2 ?_;try conv=>cbv
  obtain⟨az,P⟩:=xR (em u (p*b));refine cL f (B8 (V d j m G hb (by omega) P rfl)) t3 ?_;try conv=>cbv
  obtain⟨aA,Q⟩:=xR (em u (q*a));refine cL f (B8 (V d k l D F (by omega) Q rfl)) t3 ?_;try conv=>cbv
  obtain⟨J,z⟩:=xR (em u (p*b+q*a));refine cL f (JW h.tail P Q (G.mul h.tail hb) (D.mul h.tail F) (by omega) (by omega) z) t2 ?_;try conv=>cbv
  have ad:I.length=2^u.length:=by rw[v,Ao (B6 (G.mul h.tail F).mem ((D.mul h.tail hb).mul h.tail H).mem)]
  have ae:J.length=2^u.length:=by rw[z,Ao (B6 (G.mul h.tail hb).mem (D.mul h.tail F).mem)]
  have af:=CA h.tail.ht;refine .inl ⟨J,fun _=>⟨rfl,w,rfl,by show (I.length+J.length)*64<=140737488355328;(try simp only[List.length_take,List.length_drop]);omega⟩,?_⟩;intro (U:LR) ab S;have a1:U=(I:LR)++(J:LR):=S.1;have a2:ab=List.length (α:=(el AA)) U:=S.2;conv=>cbv
  have K:C=U:=by rw[hC,a1,v,z];exact DL h.red (B6 (G.mul h.tail F).mem ((D.mul h.tail hb).mul h.tail H).mem) (B6 (G.mul h.tail hb).mem (D.mul h.tail F).mem) (by rw[a5,a6];clear V;grind)
  exact fA ⟨⟨rfl,.inr (.inl ⟨_,_,by decide,rfl,rfl,a2,rfl,CM (K) (by rw[a7,K])⟩),trivial⟩,trivial⟩ rfl (by simp)
 have a8:=Ad W;exact absurd (List.length_eq_zero_iff.1 (by omega)) (hT ▸ Gz r u)
theorem mulC {u:List (List Rat)} (h:AU R u):OD 206 R u:=by
 induction u with
 | nil=>
  intro T A B C zn s t x y l b d j k m f a;obtain⟨p,rfl⟩:=Bj.1 j.mem;obtain⟨q,rfl⟩:=Bj.1 k.mem;rw[Ci] at b d;rw[<-Re.ofRat_mul,Ci] at f;have z:=j.BE (by omega);have D:=k.BE (by omega);rw[Bv] at z D;exact Xp l b d (z _ List.mem_cons_self) (D _ List.mem_cons_self) f a
 | cons r u F=>
  intro T A B C zn s t x y l b d j k m f a
  by_cases v:x=0
  ·refine Xt h (l ▸ Gz r u) b d j.mem k.mem v ?_ a;rw[f,v];congr 1;grind
  by_cases w:y=0
  ·refine Xu h (l ▸ Gz r u) b d j.mem k.mem w v ?_ a;rw[f,w];congr 1;grind
  exact Xs h (F h.tail) l b d j k m v w f a
theorem Io {u:List (List Rat)} (h:AU R u) (j:T=tw u) (b:A=em u x) (d:B=em u y) (k:El u s x) (l:El u t y) (a:s+t+EE u.length R<=60000000000000) (f:C=em u (x*y)):
 CF 206 [.one (.sl (.sl AA) T),.one (.sl AA A),.one (.sl AA B)] (.one (.sl AA C)):=B8 (mulC h j b d k l a f rfl)
end Go.Abs
