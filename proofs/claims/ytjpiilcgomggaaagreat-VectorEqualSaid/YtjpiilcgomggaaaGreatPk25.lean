/- Part 26 of a proof. Conditions: each theorem's own. -/
import Derived.Test.YtjpiilcgomggaaaGreatPk24
set_option linter.all false
set_option maxHeartbeats 8000000
open Go.Proofs
namespace Go.Abs
open Go.RowKit
variable {B X Z o:LR} {i n zn:Nat} {xs ys:List Rat}
theorem W4 {A:LR} (hA:A=X.take (X.length/2)) (r:B=X.drop (X.length/2)):CF 220 [.one (.sl AA X)] (.AG [(false,[.sl AA A]),(false,[.sl AA B])]):=by
 refine AE Tryz.func220 (by kernel_rfl) rfl fun E I=>?_
 conv=>cbv
 rintro L ⟨G,f6⟩;conv=>cbv
 intro M H;conv=>cbv
 refine g2 ⟨by omega,by omega,i64 (by omega)⟩ ?_;intro K v;conv=>cbv
 refine g2 (by omega) ?_;intro l u;conv=>cbv
 intro J h;conv=>cbv
 rintro D ⟨m,f11⟩;conv=>cbv
 intro F q;conv=>cbv
 refine g2 ⟨by omega,by omega,i64 (by omega)⟩ ?_;intro z d;conv=>cbv
 refine g2 (by omega) ?_;rintro f k ⟨j,a⟩;conv=>cbv
 intro w b;conv=>cbv
 refine g2 rfl ?_;exact fA ⟨⟨rfl,congrArg _ (by rw[hA,h,List.drop_zero,show l=X.length/2 by omega]),trivial⟩,⟨rfl,congrArg _ (by rw[r,b,a,d,List.take_length,show f=X.length/2 by omega]),trivial⟩,trivial⟩ rfl (by simp)
theorem ZV {X A:List LR} (k:X≠[]) (hA:A=X.take (X.length-1)) (q:X[X.length-1]? =some B):CF 218 [.one (.sl (.sl AA) X)] (.AG [(false,[.sl (.sl AA) A]),(false,[.sl AA B])]):=by
 refine AE Tryz.func218 (by kernel_rfl) rfl fun E F=>?_
 conv=>cbv
 rintro I ⟨w,f6⟩;conv=>cbv
 have z:0<X.length:=List.length_pos_iff.2 k;intro J D;conv=>cbv
 refine g1 (by omega) ?_;intro H u;conv=>cbv
 refine g2 (by omega) ?_;intro h r;conv=>cbv
 intro G d;conv=>cbv
 rintro v ⟨j,f11⟩;conv=>cbv
 intro b m;conv=>cbv
 refine g1 (by omega) ?_;obtain⟨f,a⟩:=AF (l:=X) (i:=(b).toNat) (by omega);refine⟨f,fun _=>⟨by omega,a⟩,?_⟩;try conv=>cbv
 refine g2 rfl ?_;exact fA ⟨⟨rfl,congrArg _ (by rw[hA,d,List.drop_zero,show h=X.length-1 by omega]),trivial⟩,⟨rfl,congrArg _ (by rw[show b.toNat=X.length-1 by omega] at a;exact (Option.some.inj (q.symm.trans a))),trivial⟩,trivial⟩ rfl (by simp)
theorem W6 {Z:Nat->LR} (h:o.take i=Z i) (e:i=n):o.take n=Z n:=by rw[<-e];exact h
theorem Kz {α:Type} {o:List α} {w:α} (h:i<o.length):(o.set i w).take (i+1)=o.take i++[w]:=by
 rw[List.take_succ_eq_append_getElem (by rw[List.length_set];exact h),List.take_set_of_le (Nat.le_refl _),List.getElem_set_self]
theorem aI {a:Int} (ha:AK a n) (hn:n<=1000000) (hX:X=AW (List.replicate n 0)) (F:zn=X.length):CF 198 [.one (.int .i64 a)] (.one (.own AA X zn)):=by
 have ea:=ha.eq;refine AE Tryz.func198 (by kernel_rfl) rfl fun E hE=>?_
 conv=>cbv
 refine⟨fun _=>⟨by omega,by omega,by show _*64<=140737488355328;omega⟩,?_⟩;intro H (I:LR) z;have a5:=z.1;have D:I=List.replicate H (((false,[]),(false,[])):el AA):=z.2;have V:I.length=H:=by rw[D,List.length_replicate]
 conv=>cbv
 intro n8 h8;have e8:=h8.eq;conv=>cbv
 refine .inr ?_;obtain⟨U,r⟩:=xJ fun S M k=>∃(o:LR) (m i':Nat) (L i:Int),S=[.one (.AL AA 6 0 0 m),.one (.int .i64 L),.one (.int .i64 i)]/\M=[.arr 0 AA o]/\(o.length=n/\m=n/\Bu L n/\AK i i'/\i'<=n)/\o.take i'=AW (List.replicate i' 0)/\k=n-i'
 refine⟨[3,8,9],[6],U,⟨n-0,by rw[r];exact⟨I,H,0,n8,0,rfl,rfl,⟨by omega,by omega,⟨by omega,by omega⟩,Ai 0,by omega⟩,rfl,rfl⟩⟩,?_⟩;intro S M a6 P;rw[r] at P;obtain⟨o,m,i',L,i,rfl,rfl,⟨ho,hm,O,hi,a1⟩,hinv,a2⟩:=P;conv=>cbv
 have eL:=O.eq;have ei:=hi.eq;intro J v;conv=>cbv
 cases J <;> conv=>cbv
 ·have G:=AR v;have b:o=X:=by rw[hX,<-W6 (Z:=fun i=>AW (List.replicate i 0)) hinv (by omega),List.take_of_length_le (by omega)]
  exact fA ⟨⟨rfl,.inr (.inl ⟨_,_,by decide,rfl,rfl,by omega,rfl,CH (b.symm) (by rw[F,<-b])⟩),trivial⟩,trivial⟩ rfl (by simp)
 have G:=AS v;refine .inr ?_;obtain⟨l,q,h,j,f⟩:=A9 (((0:Int):Rat));refine cL hE (EZ (by omega) rfl f) t1 ?_;try conv=>cbv
 refine g2 (by omega) ?_;intro w Q;conv=>cbv
 refine⟨((l,q),(h,j)),fun _=>⟨by show _<List.length (α:=(el AA)) o;(first | omega | (simp;omega)),by first | exact t1 | exact t2 | exact t4 | simp[Ae,Ak,cells]⟩,?_⟩;intro (u:LR) (d:u=List.set (α:=(el AA)) o w (((l,q),(h,j))));have N:u.length=o.length:=by rw[d,List.length_set]
 conv=>cbv
 intro K W;conv=>cbv
 refine g1 (by omega) ?_;refine⟨n-(i'+1),?_,?_⟩
 ·omega
 rw[r];refine⟨u,m,i'+1,L,K,rfl,rfl,⟨by omega,by omega,O,⟨by omega⟩,by omega⟩,?_,rfl⟩;rw[d,show w=i' by omega,Kz (by omega),hinv,List.replicate_succ',AW,AW,List.map_append,<-f.rp];rfl
theorem Ek {x:el AA} (a:X=AW xs) (b:Cd xs) (hx:X[i]? =some x):∃q,Aq q x.1.1 x.1.2 x.2.1 x.2.2/\xs[i]? =some q/\BF q:=by
 rw[a,AW,List.getElem?_map] at hx;cases h:xs[i]? with
 | none=>rw[h] at hx;simp at hx
 | some q=>
  rw[h] at hx;have e:x=rp q:=(Option.some.inj hx).symm;exact⟨q,by rw[e];exact D8 q,rfl,b q (List.mem_of_getElem? h)⟩
theorem SD (h:o.take i=AW (ys.take i)) (b:i=n) (a:o.length=n) (d:ys.length=n):AW ys=o.take n:=by
 rw[b] at h;rw[h,<-d,List.take_length]
theorem SF {l:LR} {j:Nat} {q:Rat} {w:el AA} (h:o.take i=AW (ys.take i)) (b:i<o.length) (d:j=i) (f:l=o.set j w) (a:ys[i]? =some q) (hw:rp q=w):l.take (i+1)=AW (ys.take (i+1)):=by
 have k:i<ys.length:=D6 a;rw[f,d,Kz b,h,List.take_succ,a,AW,AW,List.map_append,<-hw];rfl
theorem Xy (W:X=AW xs) (hs:Cd xs) (hn:xs.length<=1000000) (hZ:Z=AW (xs.map (- ·))):CF 213 [.one (.sl AA X)] (.one (.sl AA Z)):=by
 refine AE Tryz.func213 (by kernel_rfl) rfl fun E hE=>?_
 conv=>cbv
 have a7:X.length=xs.length:=by rw[W,List.length_map]
 rintro n7 ⟨e7,f7⟩;conv=>cbv
 refine⟨fun _=>⟨by omega,by omega,by show _*64<=140737488355328;omega⟩,?_⟩;intro K (M:LR) D;have ab:=D.1;have F:M=List.replicate K (((false,[]),(false,[])):el AA):=D.2;have a5:M.length=K:=by rw[F,List.length_replicate]
 conv=>cbv
 intro N u;have a2:=u.eq;have f10:=u.le;conv=>cbv
 refine .inr ?_;obtain⟨J0,v⟩:=xJ fun vs S k=>∃(o:LR) (m i':Nat) (L i:Int),vs=[.one (.AL AA 8 0 0 m),.one (.sl AA X),.one (.int .i64 L),.one (.int .i64 i)]/\S=[.arr 0 AA o]/\(o.length=X.length/\m=X.length/\Bu L X.length/\AK i i'/\i'<=X.length)/\o.take i'=AW ((xs.map (- ·)).take i')/\k=X.length-i'
 refine⟨[3,9,10,11],[8],J0,⟨X.length-0,by rw[v];exact⟨M,K,0,N,0,rfl,rfl,⟨by omega,by omega,u,Ai 0,by omega⟩,rfl,rfl⟩⟩,?_⟩;intro vs S ad hj;rw[v] at hj;obtain⟨o,m,i',L,i,rfl,rfl,⟨ho,hm,V,hi,a8⟩,hinv,aa⟩:=hj;conv=>cbv
 have eL:=V.eq;have ei:=hi.eq;intro O z;conv=>cbv
 cases O <;> conv=>cbv
 ·have J:=AR z;exact fA ⟨⟨rfl,.inl ⟨_,rfl,by omega,congrArg _ (by rw[hZ,hm,List.drop_zero];exact SD hinv (by omega) (by omega) (by rw[List.length_map];omega))⟩,trivial⟩,trivial⟩ rfl (by simp)
 have J:=AS z;refine .inr ?_;obtain⟨Q,b⟩:=AF (l:=X) (i:=i') (by omega);refine⟨Q,fun _=>⟨by omega,by rw[show (i).toNat=i' by omega];exact b⟩,?_⟩;try conv=>cbv
 obtain⟨q,hq,G,H⟩:=Ek W hs b;obtain⟨j,r,f,h,d⟩:=A9 (-q);refine cL hE (UD hq H rfl d) ⟨t4,trivial⟩ ?_;try conv=>cbv
 refine g2 (by omega) ?_;intro I a1;conv=>cbv
 refine⟨((j,r),(f,h)),fun _=>⟨by show _<List.length (α:=(el AA)) o;(first | omega | (simp;omega)),by first | exact t1 | exact t2 | exact t4 | simp[Ae,Ak,cells]⟩,?_⟩;intro (w:LR) (a:w=List.set (α:=(el AA)) o I (((j,r),(f,h))));have U:w.length=o.length:=by rw[a,List.length_set]
 conv=>cbv
 intro P a6;conv=>cbv
 refine g1 (by omega) ?_;refine⟨X.length-(i'+1),?_,?_⟩
 ·omega
 rw[v];refine⟨w,m,i'+1,L,P,rfl,rfl,⟨by omega,by omega,V,⟨by omega⟩,by omega⟩,?_,rfl⟩;exact SF hinv (by omega) (by omega) a (by rw[List.getElem?_map,G];rfl) d.rp
theorem Ve {Y:LR} (hX:X=AW xs) (hY:Y=AW ys) (hs:Cd xs) (ht:Cd ys) (O:ys.length=xs.length) (hn:xs.length<=1000000) (hZ:Z=AW (List.zipWith (· + ·) xs ys)) (P:zn=Z.length):CF 189 [.one (.sl AA X),.one (.sl AA Y)] (.one (.own AA Z zn)):=by
 refine AE Tryz.func189 (by kernel_rfl) rfl fun E hE=>?_
 conv=>cbv
 have ae:X.length=xs.length:=by rw[hX,List.length_map]
 have af:Y.length=xs.length:=by rw[hY,List.length_map,O]
 rintro n8 ⟨e8,f8⟩;conv=>cbv
 refine⟨fun _=>⟨by omega,by omega,by show _*64<=140737488355328;omega⟩,?_⟩;intro U (V:LR) G;have ai:=G.1;have I:V=List.replicate U (((false,[]),(false,[])):el AA):=G.2;have ab:V.length=U:=by rw[I,List.length_replicate]
 conv=>cbv
 intro W H;have aa:=H.eq;conv=>cbv
 refine .inr ?_;obtain⟨J0,w⟩:=xJ fun vs bl k=>∃(o:LR) (m i':Nat) (L i:Int),vs=[.one (.sl AA X),.one (.sl AA Y),.one (.AL AA 9 0 0 m),.one (.int .i64 L),.one (.int .i64 i)]/\bl=[.arr 0 AA o]/\(o.length=X.length/\m=X.length/\AK L X.length/\AK i i'/\i'<=X.length)/\o.take i'=AW ((List.zipWith (· + ·) xs ys).take i')/\k=X.length-i'
 refine⟨[0,1,5,11,12],[9],J0,⟨X.length-0,by rw[w];exact⟨V,U,0,W,0,rfl,rfl,⟨by omega,by omega,⟨by omega⟩,Ai 0,by omega⟩,rfl,rfl⟩⟩,?_⟩;intro vs bl aj hj;rw[w] at hj;obtain⟨o,m,i',L,i,rfl,rfl,⟨ho,hm,hL,hi,ag⟩,hinv,ah⟩:=hj;conv=>cbv
 have eL:=hL.eq;have ei:=hi.eq;intro a1 D;conv=>cbv
 cases a1 <;> conv=>cbv
 ·have S:=AR D;have F:AW (List.zipWith (· + ·) xs ys)=o.take X.length:=SD hinv (by omega) (by omega) (by rw[List.length_zipWith];omega);have a:Z=o:=by rw[hZ,F,List.take_of_length_le (by omega)]
  exact fA ⟨⟨rfl,.inr (.inl ⟨_,_,by decide,rfl,rfl,by omega,rfl,CH (a) (by rw[P,a])⟩),trivial⟩,trivial⟩ rfl (by simp)
 have S:=AS D;refine .inr ?_;obtain⟨a5,d⟩:=AF (l:=X) (i:=i') (by omega);refine⟨a5,fun _=>⟨by omega,by rw[show (i).toNat=i' by omega];exact d⟩,?_⟩;try conv=>cbv
 obtain⟨a6,f⟩:=AF (l:=Y) (i:=i') (by omega);refine⟨a6,fun _=>⟨by omega,by rw[show (i).toNat=i' by omega];exact f⟩,?_⟩;try conv=>cbv
 obtain⟨p,hp,J,M⟩:=Ek hX hs d;obtain⟨q,hq,K,N⟩:=Ek hY ht f;obtain⟨u,v,j,r,h⟩:=A9 (p+q);refine cL hE (T6 hp hq M N rfl h) ⟨t4,t4,trivial⟩ ?_;try conv=>cbv
 refine g2 (by omega) ?_;intro Q a8;conv=>cbv
 refine⟨((u,v),(j,r)),fun _=>⟨by show _<List.length (α:=(el AA)) o;(first | omega | (simp;omega)),by first | exact t1 | exact t2 | exact t4 | simp[Ae,Ak,cells]⟩,?_⟩;intro (z:LR) (b:z=List.set (α:=(el AA)) o Q (((u,v),(j,r))));have a7:z.length=o.length:=by rw[b,List.length_set]
 conv=>cbv
 refine g2 rfl ?_;intro a2 ad;conv=>cbv
 refine g1 (by omega) ?_;refine⟨X.length-(i'+1),?_,?_⟩
 ·omega
 rw[w];refine⟨z,m,i'+1,L,a2,rfl,rfl,⟨by omega,by omega,hL,⟨by omega⟩,by omega⟩,?_,rfl⟩;exact SF hinv (by omega) (by omega) b (by rw[List.getElem?_zipWith,J,K]) h.rp
end Go.Abs
namespace Go.Abs
open Go.RowKit
def Em (p:el AA->Bool):Nat->LR->Int
 | _,[]=> -1
 | i,x::l=>if p x=true then i else Em p (i+1) l
variable {Y:LR} {b1 b2 c:Bool} {g:FuncId} {i:Nat} {l1 l2:List UInt32} {ys:List Rat}
theorem Qa {X:LR} {x:el AA} (h:X[i]? =some x):X.drop i=x::X.drop (i+1):=by
 have a:=D6 h;rw[List.drop_eq_getElem_cons a];rw[List.getElem?_eq_getElem a] at h;rw[Option.some.inj h]
theorem W8 {X:LR} {p:el AA->Bool} {x:el AA} (h:X[i]? =some x) (a:p x=false):Em p i (X.drop i)=Em p (i+1) (X.drop (i+1)):=by
 rw[Qa h,Em,a];rfl
theorem W7 {X:LR} {p:el AA->Bool} {x:el AA} (h:X[i]? =some x) (a:p x=true):Em p i (X.drop i)=i:=by
 rw[Qa h,Em,if_pos a]
theorem To {X:LR} {p:el AA->Bool} {r:Int} (H:∀x∈X,CF g [.agg (cells AA x)] (.one (.bool (p x)))) (M:r=Em p 0 X):CF 237 [.one (.sl AA X),.one (.fn g)] (.one (.int .i64 r)):=by
 refine AE Tryz.func237 (by kernel_rfl) rfl fun E G=>?_
 conv=>cbv
 intro P j;have S:=j.eq;have f7:=j.le;conv=>cbv
 refine .inr ?_;obtain⟨z,f⟩:=xJ fun w D k=>∃(i':Nat) (L i:Int),w=[.one (.sl AA X),.one (.fn g),.one (.int .i64 L),.one (.int .i64 i)]/\(Bu L X.length/\AK i i'/\i'<=X.length)/\r=Em p i' (X.drop i')/\k=X.length-i'
 refine⟨[0,1,7,8],[],z,⟨X.length-0,by rw[f];exact⟨0,P,0,rfl,⟨j,Ai 0,by omega⟩,M,rfl⟩⟩,?_⟩;intro w D O v;rw[f] at v;obtain⟨i',L,i,rfl,⟨u,I,J⟩,hinv,K⟩:=v;conv=>cbv
 have U:=u.eq;have V:=I.eq;intro Q q;conv=>cbv
 cases Q <;> conv=>cbv
 ·have N:=AR q;exact fA ⟨⟨rfl,congrArg _ (by rw[hinv,List.drop_eq_nil_of_le (by omega)];rfl),trivial⟩,trivial⟩ rfl (by simp)
 have N:=AS q;refine .inr ?_;obtain⟨a,b⟩:=AF (l:=X) (i:=i') (by omega);refine⟨a,fun _=>⟨by omega,by rw[show (i).toNat=i' by omega];exact b⟩,?_⟩;try conv=>cbv
 obtain⟨h,d⟩:=xB (p a);refine .inl ⟨[.agg [.bool a.1.1,.sl .u32 a.1.2,.bool a.2.1,.sl .u32 a.2.2]],.one (.bool h),fun _=>⟨t4,trivial⟩,fun _=>Ez G ((by rw[d];exact H a (List.mem_of_getElem? b))),?_⟩;try conv=>cbv
 cases h <;> conv=>cbv
 ·intro m F;conv=>cbv
  refine g1 (by omega) ?_;refine⟨X.length-(i'+1),?_,?_⟩
  ·omega
  rw[f];refine⟨i'+1,L,m,rfl,⟨u,⟨by omega⟩,by omega⟩,?_,rfl⟩;rw[hinv,W8 b d.symm]
 exact fA ⟨⟨rfl,congrArg _ (by rw[hinv,W7 b d.symm];omega),trivial⟩,trivial⟩ rfl (by simp)
theorem QZ (p:el AA->Bool):∀(X:LR) (i:Nat),decide (Em p i X >= 0)=X.any p
 | [],i=>rfl
 | x::X,i=>by
  rw[Em,List.any_cons]
  split
  ·rename_i h;rw[h,Bool.true_or];exact decide_eq_true (by omega)
  rename_i h;rw[Bool.eq_false_iff.2 h,Bool.false_or];exact QZ p X (i+1)
theorem Nz {X:LR} {p:el AA->Bool} (h:∀x∈X,CF g [.agg (cells AA x)] (.one (.bool (p x)))) (f:c=X.any p):CF 203 [.one (.sl AA X),.one (.fn g)] (.one (.bool c)):=by
 refine AE Tryz.func203 (by kernel_rfl) rfl fun E d=>?_
 conv=>cbv
 obtain⟨k,a⟩:=xI (Em p 0 X);refine cL d (To h a) t2 ?_;try conv=>cbv
 intro j b;conv=>cbv
 exact fA ⟨⟨rfl,congrArg _ (by rw[f,b,a];exact (QZ p X 0).symm),trivial⟩,trivial⟩ rfl (by simp)
theorem Y2 (q:Rat):decide (q≠0)=(C1 q !=0):=by
 have h:= @Rat.num_eq_zero q;rw[Bool.eq_iff_iff,decide_eq_true_eq,bne_iff_ne];rcases NS q with⟨a,e⟩ |⟨a,e⟩ |⟨a,e⟩ <;> rw[e]
 ·exact⟨fun _=>by decide,fun _ b=>by rw[h.2 b] at a;omega⟩
 ·exact⟨fun b=>absurd (h.1 a) b,fun b=>absurd rfl b⟩
 exact⟨fun _=>by decide,fun _ b=>by rw[h.2 b] at a;omega⟩
theorem X0 {q:Rat} (hx:Aq q b1 l1 b2 l2) (f:c=decide (q≠0)):CF 204 [.agg [.bool b1,.sl .u32 l1,.bool b2,.sl .u32 l2]] (.one (.bool c)):=by
 refine AE Tryz.func204 (by kernel_rfl) rfl fun E d=>?_
 conv=>cbv
 obtain⟨j,a⟩:=xI (C1 q);refine cL d (JI hx a) ⟨t4,trivial⟩ ?_;try conv=>cbv
 intro h b;conv=>cbv
 exact fA ⟨⟨rfl,congrArg _ (by rw[f,b,a];exact Y2 q),trivial⟩,trivial⟩ rfl (by simp)
theorem SC (q:Rat):decide (q≠0)= !(rp q).1.2.isEmpty:=by
 have h:(rp q).1.2=AJ q.num.natAbs:=rfl;rw[h,Bool.eq_iff_iff,decide_eq_true_eq,Bool.not_eq_true',List.isEmpty_eq_false_iff,Ne,Ne,DS,<-Rat.num_eq_zero];omega
theorem Yn (xs:List Rat):(AW xs).any (fun x=> !x.1.2.isEmpty)= !decide (∀q∈xs,q=0):=by
 induction xs with
 | nil=>rfl
 | cons q xs a=>
  rw[AW,List.map_cons,List.any_cons,<-SC,<-AW,a]
  by_cases h:q=0 <;> simp[h]
theorem Zs {X:LR} {xs:List Rat} (a:X=AW xs):∀x∈X,CF 204 [.agg (cells AA x)] (.one (.bool (!x.1.2.isEmpty))):=by
 intro x hx;rw[a] at hx;obtain⟨q,_,rfl⟩:=List.mem_map.1 hx;exact X0 (D8 q) (SC q).symm
theorem Lf {X:LR} {xs:List Rat} (b:X=AW xs) (h:c=decide (∀q∈xs,q=0)):CF 160 [.one (.sl AA X)] (.one (.bool c)):=by
 refine AE Tryz.func160 (by kernel_rfl) rfl fun E f=>?_
 conv=>cbv
 obtain⟨j,a⟩:=xB (X.any (fun x=> !x.1.2.isEmpty));refine cL f (Nz (Zs b) a) t2 ?_;try conv=>cbv
 intro k d;conv=>cbv
 exact fA ⟨⟨rfl,congrArg _ (by rw[h,d,a,b,Yn,Bool.not_not]),trivial⟩,trivial⟩ rfl (by simp)
theorem XP (f:c= !FM b1 l1 b2 l2) (s1:l1.length<=17592186042000) (s2:l2.length<=17592186042000):CF 227 [.agg [.bool b1,.sl .u32 l1,.bool b2,.sl .u32 l2]] (.one (.bool c)):=by
 refine AE Tryz.func227 (by kernel_rfl) rfl fun E d=>?_
 conv=>cbv
 obtain⟨h,a⟩:=xB (FM b1 l1 b2 l2);refine cL d (OC a s1 s2) ⟨t4,trivial⟩ ?_;try conv=>cbv
 intro j b;conv=>cbv
 exact fA ⟨⟨rfl,congrArg _ (by rw[f,b,a]),trivial⟩,trivial⟩ rfl (by simp)
theorem Vu {X:LR} {xs:List Rat} (a:X=AW xs) (d:Cd xs):∀x∈X,CF 227 [.agg (cells AA x)] (.one (.bool false)):=by
 intro x hx;rw[a] at hx;obtain⟨q,b,rfl⟩:=List.mem_map.1 hx;have h:=(D8 q).small (d q b);exact XP (by rw[Nm.2 ⟨q,D8 q⟩];rfl) (by omega) (by omega)
theorem any_false (X:LR):false=X.any (fun _=>false):=by
 induction X with
 | nil=>rfl
 | cons x X a=>rw[List.any_cons,<-a];rfl
theorem Mu {X:LR} {xs:List Rat} {k:Int} {n:Nat} (b:X=AW xs) (m:Cd xs) (l:AK k n) (h:c=decide (xs.length=n)):CF 196 [.one (.sl AA X),.one (.int .i64 k)] (.one (.bool c)):=by
 have w:=l.eq;refine AE Tryz.func196 (by kernel_rfl) rfl fun E j=>?_
 conv=>cbv
 rintro z ⟨v,f6⟩;conv=>cbv
 intro u f;conv=>cbv
 cases u <;> conv=>cbv
 ·have q:=Ac f;exact fA ⟨⟨rfl,congrArg _ (by have d:X.length=xs.length:=(by rw[b,List.length_map]);rw[h];exact decide_eq_false (by omega)),trivial⟩,trivial⟩ rfl (by simp)
 have q:=Ad f;refine cL j (Nz (p:=fun _=>false) (Vu b m) (any_false X)) t2 ?_;try conv=>cbv
 intro r a;conv=>cbv
 exact fA ⟨⟨rfl,congrArg _ (by have d:X.length=xs.length:=(by rw[b,List.length_map]);rw[h,a];exact decide_eq_true (by omega)),trivial⟩,trivial⟩ rfl (by simp)
theorem DE {n i:Int} {k:Nat} (h:n=IntKind.i64.wrap (1*2^min i.toNat IntKind.i64.bits)) (e:i=k) (a:k<=20):AK n (2^k):=by
 have b:=wrap_i64 h;have f:2^k<=2^20:=Nat.pow_le_pow_right (by decide) a
 have d:((2:Int)^min i.toNat IntKind.i64.bits)=((2^k:Nat):Int):=by
  rw[e,Int.toNat_natCast,Nat.min_eq_left (Nat.le_trans a (by decide))];simp
 rw[d,Int.one_mul] at b
 generalize 2^k=Q at*
 exact⟨by omega⟩
theorem Gj {X:List LR} {xs:List (List Rat)} {x:LR} (a:X=xs.map AW) (hx:X[i]? =some x):∃y,x=AW y/\xs[i]? =some y:=by
 rw[a,List.getElem?_map] at hx;cases h:xs[i]? with
 | none=>rw[h] at hx;simp at hx
 | some q=>rw[h] at hx;exact⟨q,(Option.some.inj hx).symm,rfl⟩
theorem M9 {X:List LR} {xs:List (List Rat)} (F:X=xs.map AW) (ht:JL xs) (P:c=true):CF 195 [.one (.sl (.sl AA) X)] (.one (.bool c)):=by
 refine AE Tryz.func195 (by kernel_rfl) rfl fun E N=>?_
 conv=>cbv
 have O:X.length=xs.length:=by rw[F,List.length_map]
 have hl:=ht.MN;intro n6 m;have e6:=m.eq;have f6:=m.le;conv=>cbv
 refine .inr ?_;obtain⟨I,b⟩:=xJ fun H J k=>∃(i':Nat) (L i:Int),H=[.one (.sl (.sl AA) X),.one (.int .i64 L),.one (.int .i64 i)]/\(Bu L X.length/\AK i i'/\i'<=X.length)/\k=X.length-i'
 refine⟨[5,6,7],[],I,⟨X.length-0,by rw[b];exact⟨0,n6,0,rfl,⟨m,Ai 0,by omega⟩,rfl⟩⟩,?_⟩;intro H J W G;rw[b] at G;obtain⟨i',L,i,rfl,⟨D,Q,S⟩,U⟩:=G;conv=>cbv
 have eL:=D.eq;have K:=Q.eq;intro n8 z;conv=>cbv
 cases n8 <;> conv=>cbv
 ·have V:=AR z;exact fA ⟨⟨rfl,congrArg _ (P),trivial⟩,trivial⟩ rfl (by simp)
 have V:=AS z;refine .inr ?_;obtain⟨w,a⟩:=AF (l:=X) (i:=i') (by omega);refine⟨w,fun _=>⟨by omega,by rw[show (i).toNat=i' by omega];exact a⟩,?_⟩;try conv=>cbv
 intro a1 j;conv=>cbv
 refine g2 (by omega) ?_;obtain⟨x,q,f⟩:=Gj F a;refine cL (r:= .one (.bool true)) N (Mu q (ht.small x (List.mem_of_getElem? f)) (DE j K (by omega)) (by rw[ht.form i' x f];exact (decide_eq_true rfl).symm)) t2 ?_;try conv=>cbv
 intro u d;conv=>cbv
 cases u <;> conv=>cbv
 ·have h:=Co d;intro v M;conv=>cbv
  refine g1 (by omega) ?_;refine⟨X.length-(i'+1),?_,?_⟩
  ·omega
  rw[b];exact⟨i'+1,L,v,rfl,⟨D,⟨by omega⟩,by omega⟩,rfl⟩
 have h:=Cp d;exact absurd h (by decide)
theorem EX {X:List LR} {xs:List (List Rat)} (j:X=xs.map AW) (ht:JL xs) (l:Y=AW ys) (q:Cd ys) (m:c=decide (ys.length=2^xs.length)):CF 144 [.one (.sl (.sl AA) X),.one (.sl AA Y)] (.one (.bool c)):=by
 refine AE Tryz.func144 (by kernel_rfl) rfl fun E h=>?_
 conv=>cbv
 have f:X.length=xs.length:=by rw[j,List.length_map]
 have v:=ht.MN;refine cL h (M9 j ht rfl) t1 ?_;try conv=>cbv
 rintro r ⟨b,f10⟩;conv=>cbv
 intro u d;conv=>cbv
 refine g2 (by omega) ?_;obtain⟨k,a⟩:=xB (decide (ys.length=2^xs.length));refine cL h (Mu l q (DE d (b.trans (congrArg _ f)) (by omega)) a) t2 ?_;try conv=>cbv
 exact fA ⟨⟨rfl,congrArg _ (m.trans a.symm),trivial⟩,trivial⟩ rfl (by simp)
theorem MH {X:List LR} {Z:LR} {xs:List (List Rat)} {k:List Rat} (m:X=xs.map AW) (ht:JL xs) (q:Y=AW ys) (u:Cd ys) (h:ys.length=2^xs.length) (r:Z=AW k) (f:Cd k) (j:k.length=2^xs.length):CF 186 [.one (.sl (.sl AA) X),.one (.sl AA Y),.one (.sl AA Z)] (.one (.bool true)):=by
 refine AE Tryz.func186 (by kernel_rfl) rfl fun E l=>?_
 conv=>cbv
 have d:X.length=xs.length:=by rw[m,List.length_map]
 have z:=ht.MN;refine cL l (EX m ht q u (decide_eq_true h).symm) t2 ?_;try conv=>cbv
 rintro v ⟨a,f13⟩;conv=>cbv
 intro w b;conv=>cbv
 refine g2 (by omega) ?_;refine cL l (Mu r f (DE b (a.trans (congrArg _ d)) (by omega)) (decide_eq_true j).symm) t2 ?_;try conv=>cbv
 exact fA ⟨t2,trivial⟩ rfl (by simp)
end Go.Abs
namespace Go.Abs
open Go.RowKit
variable {A B C X Y Z:LR} {R s t zn:Nat} {T:List LR} {p:Rat} {x y:Re}
theorem Ge {u:List (List Rat)} (h:AQ u) (hx:In u x) (b:X=em u x) (a:x=0):CF 160 [.one (.sl AA X)] (.one (.bool true)):=
 Lf b (decide_eq_true ((IQ h hx).2 a)).symm
theorem FW {u:List (List Rat)} (h:AQ u) (hx:In u x) (b:X=em u x) (a:x≠0):CF 160 [.one (.sl AA X)] (.one (.bool false)):=
 Lf b (decide_eq_false (fun k=>a ((IQ h hx).1 k))).symm
theorem KC {u:List (List Rat)} {r:List Rat} {p q:Re} (h:AQ (r::u)) (b:In u p) (d:In u q) (hx:x=p+q*rt u r) (a:X=em (r::u) x) (hA:A=em u p) (f:B=em u q):
  CF 220 [.one (.sl AA X)] (.AG [(false,[.sl AA A]),(false,[.sl AA B])]):=
 W4 (by rw[a,hA,BY h b d hx]) (by rw[a,f,BL h b d hx])
theorem Gv (r:List Rat) (u:List (List Rat)):tw (r::u)≠[]:=by rw[I9];simp
theorem Ky {X A:List LR} {u:List (List Rat)} {r:List Rat} (a:X=tw (r::u)) (hA:A=tw u) (b:B=AW r):
  CF 218 [.one (.sl (.sl AA) X)] (.AG [(false,[.sl (.sl AA) A]),(false,[.sl AA B])]):=
 ZV (by rw[a];exact Gv r u) (by rw[a,hA,CO]) (by rw[a,b,DY])
theorem GN {n:Nat} (h:n<=16):2^n<=1000000:=Nat.le_trans (B5 h) (by decide)
theorem Ow {u:List (List Rat)} (h:AU R u) (d:X=em u x) (f:Y=em u y) (hx:El u s x) (a:El u t y) (k:s<=60000000000000) (ht:t<=60000000000000) (j:Z=em u (x+y)) (b:zn=Z.length):
  CF 189 [.one (.sl AA X),.one (.sl AA Y)] (.one (.own AA Z zn)):=
 Ve d f (hx.BC k) (a.BC ht) (by rw[hx.len,a.len]) (by rw[hx.len];exact GN h.ht) (by rw[j,P8 h.red hx.mem a.mem]) b
theorem JX {u:List (List Rat)} (h:AU R u) (a:X=em u x) (b:Y=em u y) (hx:El u s x) (j:El u t y) (f:s<=60000000000000) (ht:t<=60000000000000) (d:Z=em u (x+y)):
 CF 189 [.one (.sl AA X),.one (.sl AA Y)] (.one (.sl AA Z)):=B0 (Ow h a b hx j f ht d rfl)
theorem KY {u:List (List Rat)} (h:AU R u) (a:X=em u x) (hx:El u s x) (d:s<=60000000000000) (b:Z=em u (-x)):
  CF 213 [.one (.sl AA X)] (.one (.sl AA Z)):=
 Xy a (hx.BC d) (by rw[hx.len];exact GN h.ht) (by rw[b,P9 h.red hx.mem])
theorem LJ {a:Int} {u:List (List Rat)} (h:AU R u) (f:AK a (2^u.length)) (d:Z=em u 0) (b:zn=Z.length):
  CF 198 [.one (.int .i64 a)] (.one (.own AA Z zn)):=
 aI f (GN h.ht) (by rw[d,MD h.red]) b
theorem C8 {x:el AA} (hA:A=[rp p]) (hx:A[0]? =some x):Aq p x.1.1 x.1.2 x.2.1 x.2.2:=by
 rw[hA] at hx;rw[<-Option.some.inj hx];exact D8 p
theorem Xl {q:Rat} (hT:T=[]) (hA:A=[rp p]) (F:B=[rp q]) (M:BF p) (ht:BF q) (G:C=[rp (p*q)]) (v:zn=C.length):CF 187 [.one (.sl (.sl AA) T),.one (.sl AA A),.one (.sl AA B)] (.one (.own AA C zn)):=by
 refine AE Tryz.func187 (by kernel_rfl) rfl fun E J=>?_
 conv=>cbv
 refine .inr ?_;rintro N ⟨u,f16⟩;conv=>cbv
 intro w f;conv=>cbv
 cases w <;> conv=>cbv
 ·have h:=Ac f;exact absurd (by rw[u,hT];rfl) h
 have h:=Ad f;have H:A.length=1:=by rw[hA];rfl
 have I:B.length=1:=by rw[F];rfl
 obtain⟨z,a⟩:=AF (l:=A) (i:=0) (by omega);refine⟨z,fun _=>⟨by omega,a⟩,?_⟩;try conv=>cbv
 obtain⟨D,b⟩:=AF (l:=B) (i:=0) (by omega);refine⟨D,fun _=>⟨by omega,b⟩,?_⟩;try conv=>cbv
 have K:=C8 hA a;have L:=C8 F b;obtain⟨m,r,j,k,d⟩:=A9 (p*q);refine cL J (UC K L M ht rfl d) ⟨t4,t4,trivial⟩ ?_;try conv=>cbv
 refine⟨[((m,r),(j,k))],fun _=>⟨rfl,by decide,rfl,⟨rfl,by first | exact t1 | exact t2 | exact t4 | simp[Ae,Ak,cells],trivial⟩⟩,.inl ?_⟩;try conv=>cbv
 refine g2 rfl ?_;exact fA ⟨⟨rfl,.inr (.inl ⟨_,_,by decide,rfl,rfl,rfl,rfl,CH (by rw[G,d.rp]) (by rw[v,G];rfl)⟩),trivial⟩,trivial⟩ rfl (by simp)
theorem Xq {u:List (List Rat)} (h:AU R u) (hT:T≠[]) (hA:A=em u x) (I:B=em u y) (hx:In u x) (J:In u y) (F:x=0) (w:C=em u 0) (m:zn=C.length):CF 187 [.one (.sl (.sl AA) T),.one (.sl AA A),.one (.sl AA B)] (.one (.own AA C zn)):=by
 refine AE Tryz.func187 (by kernel_rfl) rfl fun E z=>?_
 conv=>cbv
 refine .inr ?_;rintro G ⟨D,f16⟩;conv=>cbv
 intro v d;conv=>cbv
 cases v <;> conv=>cbv
 ·have q:=Ac d;refine cL z (Ge h.red hx hA F) t1 ?_;try conv=>cbv
  have l:A.length=2^u.length:=by rw[hA,Ap hx]
  rintro H ⟨k,f34⟩;conv=>cbv
  obtain⟨f,a⟩:=xR (em u (0));obtain⟨j,b⟩:=xN f.length;refine cL (r:= .one (.own AA f j)) z (LJ h (AK.of (by rw[k,l])) a b) t1 ?_;try conv=>cbv
  exact fA ⟨⟨rfl,.inr (.inl ⟨_,_,by decide,rfl,rfl,b,rfl,CH (by rw[w,a]) (by rw[m,w,<-a])⟩),trivial⟩,trivial⟩ rfl (by simp)
 have q:=Ad d;exact absurd (List.length_eq_zero_iff.1 (by omega)) hT
theorem Xr {u:List (List Rat)} (h:AU R u) (hT:T≠[]) (hA:A=em u x) (H:B=em u y) (hx:In u x) (I:In u y) (F:y=0) (G:x≠0) (z:C=em u 0) (q:zn=C.length):CF 187 [.one (.sl (.sl AA) T),.one (.sl AA A),.one (.sl AA B)] (.one (.own AA C zn)):=by
 refine AE Tryz.func187 (by kernel_rfl) rfl fun E m=>?_
 conv=>cbv
 refine .inr ?_;rintro J ⟨D,f16⟩;conv=>cbv
 intro w d;conv=>cbv
 cases w <;> conv=>cbv
 ·have v:=Ac d;refine cL m (FW h.red hx hA G) t1 ?_;try conv=>cbv
  refine cL m (Ge h.red I H F) t1 ?_;try conv=>cbv
  have l:A.length=2^u.length:=by rw[hA,Ap hx]
  rintro K ⟨k,f34⟩;conv=>cbv
  obtain⟨f,a⟩:=xR (em u (0));obtain⟨j,b⟩:=xN f.length;refine cL (r:= .one (.own AA f j)) m (LJ h (AK.of (by rw[k,l])) a b) t1 ?_;try conv=>cbv
  exact fA ⟨⟨rfl,.inr (.inl ⟨_,_,by decide,rfl,rfl,b,rfl,CH (by rw[z,a]) (by rw[q,z,<-a])⟩),trivial⟩,trivial⟩ rfl (by simp)
 have v:=Ad d;exact absurd (List.length_eq_zero_iff.1 (by omega)) hT
def N5 (f:FuncId) (R:Nat) (u:List (List Rat)):Prop:=∀{T:List LR} {A B C:LR} {zn s t:Nat} {x y:Re},T=tw u->A=em u x->B=em u y->El u s x->El u t y->s+t+EE u.length R<=60000000000000->C=em u (x*y)->zn=C.length->
 CF f [.one (.sl (.sl AA) T),.one (.sl AA A),.one (.sl AA B)] (.one (.own AA C zn))
theorem Xp {u:List (List Rat)} {r:List Rat} (h:AU R (r::u)) (W:N5 187 R u) (hT:T=tw (r::u)) (hA:A=em (r::u) x) (hB:B=em (r::u) y) (hx:El (r::u) s x) (hy:El (r::u) t y) (al:s+t+EE (r::u).length R<=60000000000000) (h0:x≠0) (h1:y≠0) (hC:C=em (r::u) (x*y)) (a8:zn=C.length):CF 187 [.one (.sl (.sl AA) T),.one (.sl AA A),.one (.sl AA B)] (.one (.own AA C zn)):=by
 obtain⟨p,q,a6,H,F⟩:=El.parts h.red hx;obtain⟨a,b,a7,G,D⟩:=El.parts h.red hy;have aj:EE (r::u).length R=2*EE u.length R+R+2:=rfl;have I:=El.Br h;have hR:=h.hR;have ak:=Bk h.red;refine AE Tryz.func187 (by kernel_rfl) rfl fun E f=>?_
 conv=>cbv
 refine .inr ?_;rintro an ⟨ai,f16⟩;conv=>cbv
 intro ab a1;conv=>cbv
 cases ab <;> conv=>cbv
 ·have aa:=Ac a1;refine cL f (FW h.red hx.mem hA h0) t1 ?_;try conv=>cbv
  refine cL f (FW h.red hy.mem hB h1) t1 ?_;try conv=>cbv
  obtain⟨ao,d⟩:=xV (tw u);obtain⟨aq,M⟩:=xR (AW r);refine cL f (Ky hT d M) t1 ?_;try conv=>cbv
  obtain⟨ar,j⟩:=xR (em u p);obtain⟨au,k⟩:=xR (em u q);refine cL f (KC h.red H.mem F.mem a6 hA j k) t1 ?_;try conv=>cbv
  obtain⟨av,l⟩:=xR (em u a);obtain⟨aw,m⟩:=xR (em u b);refine cL f (KC h.red G.mem D.mem a7 hB l m) t1 ?_;try conv=>cbv
  obtain⟨ax,N⟩:=xR (em u (p*a));refine cL f (B0 (W d j l H G (by omega) N rfl)) t3 ?_;try conv=>cbv
  obtain⟨ay,O⟩:=xR (em u (q*b));refine cL f (B0 (W d k m F D (by omega) O rfl)) t3 ?_;try conv=>cbv
  obtain⟨az,P⟩:=xR (em u (q*b*AI u r));refine cL f (B0 (W d O (M.trans (Cj h.red)) (F.mul h.tail D) I (by omega) P rfl)) t3 ?_;try conv=>cbv
  obtain⟨J,v⟩:=xR (em u (p*a+q*b*AI u r));obtain⟨ah,w⟩:=xN J.length;refine cL f (Ow h.tail N P (H.mul h.tail G) ((F.mul h.tail D).mul h.tail I) (by omega) (by omega) v w) t2 ?_;try conv=>cbv
  obtain⟨aA,Q⟩:=xR (em u (p*b));refine cL f (B0 (W d j m H D (by omega) Q rfl)) t3 ?_;try conv=>cbv
  obtain⟨aB,S⟩:=xR (em u (q*a));refine cL f (B0 (W d k l F G (by omega) S rfl)) t3 ?_;try conv=>cbv
  obtain⟨K,z⟩:=xR (em u (p*b+q*a));refine cL f (JX h.tail Q S (H.mul h.tail D) (F.mul h.tail G) (by omega) (by omega) z) t2 ?_;try conv=>cbv
  have ae:J.length=2^u.length:=by rw[v,Ap (B3 (H.mul h.tail G).mem ((F.mul h.tail D).mul h.tail I).mem)]
  have af:K.length=2^u.length:=by rw[z,Ap (B3 (H.mul h.tail D).mem (F.mul h.tail G).mem)]
  have ag:=B5 h.tail.ht;refine .inl ⟨K,fun _=>⟨rfl,w,rfl,by show (J.length+K.length)*64<=140737488355328;(try simp only[List.length_take,List.length_drop]);omega⟩,?_⟩;intro (V:LR) ad U;have a2:V=(J:LR)++(K:LR):=U.1;have a5:ad=List.length (α:=(el AA)) V:=U.2;conv=>cbv
  have L:C=V:=by rw[hC,a2,v,z];exact DI h.red (B3 (H.mul h.tail G).mem ((F.mul h.tail D).mul h.tail I).mem) (B3 (H.mul h.tail D).mem (F.mul h.tail G).mem) (by rw[a6,a7];clear W;grind)
  exact fA ⟨⟨rfl,.inr (.inl ⟨_,_,by decide,rfl,rfl,a5,rfl,CH (L) (by rw[a8,L])⟩),trivial⟩,trivial⟩ rfl (by simp)
 have aa:=Ad a1;exact absurd (List.length_eq_zero_iff.1 (by omega)) (hT ▸ Gv r u)
theorem mulC {u:List (List Rat)} (h:AU R u):N5 187 R u:=by
 induction u with
 | nil=>
  intro T A B C zn s t x y hT hA b hx f j d a;obtain⟨p,rfl⟩:=Bb.1 hx.mem;obtain⟨q,rfl⟩:=Bb.1 f.mem;rw[Cg] at hA b;rw[<-Re.ofRat_mul,Cg] at d;have m:=hx.BC (by omega);have v:=f.BC (by omega);rw[Bn] at m v;exact Xl hT hA b (m _ List.mem_cons_self) (v _ List.mem_cons_self) d a
 | cons r u w=>
  intro T A B C zn s t x y hT hA b hx f j d a
  by_cases k:x=0
  ·refine Xq h (hT ▸ Gv r u) hA b hx.mem f.mem k ?_ a;rw[d,k];congr 1;grind
  by_cases l:y=0
  ·refine Xr h (hT ▸ Gv r u) hA b hx.mem f.mem l k ?_ a;rw[d,l];congr 1;grind
  exact Xp h (w h.tail) hT hA b hx f j k l d a
theorem Ik {u:List (List Rat)} (h:AU R u) (hT:T=tw u) (hA:A=em u x) (b:B=em u y) (hx:El u s x) (f:El u t y) (a:s+t+EE u.length R<=60000000000000) (d:C=em u (x*y)):
 CF 187 [.one (.sl (.sl AA) T),.one (.sl AA A),.one (.sl AA B)] (.one (.sl AA C)):=B0 (mulC h hT hA b hx f a d rfl)
end Go.Abs
