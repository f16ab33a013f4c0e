/- Part 27 of a proof. Conditions: each theorem's own. -/
import Derived.Test.YtfilemenbchajaaGreatPk25
set_option linter.all false
set_option maxHeartbeats 8000000
set_option maxRecDepth 20000
open Go.Proofs
namespace Go.Abs
open Go.RowKit
variable {B X Z o:LR} {i n zn:Nat} {xs ys:List Rat}
theorem aE {A:LR} (r:A=X.take (X.length/2)) (u:B=X.drop (X.length/2)):CF 305 [.one (.sl AA X)] (.AE [(false,[.sl AA A]),(false,[.sl AA B])]):=by
 refine AH Tryz.func305 (by kernel_rfl) rfl fun E J=>?_
 conv=>cbv
 rintro M ⟨H,f6⟩;conv=>cbv
 intro N I;conv=>cbv
 refine g2 ⟨by omega,by omega,i64 (by omega)⟩ ?_;intro L w;conv=>cbv
 refine g2 (by omega) ?_;intro l v;conv=>cbv
 intro K h;conv=>cbv
 rintro F ⟨m,f11⟩;conv=>cbv
 intro G q;conv=>cbv
 refine g2 ⟨by omega,by omega,i64 (by omega)⟩ ?_;intro D d;conv=>cbv
 refine g2 (by omega) ?_;rintro f k ⟨j,a⟩;conv=>cbv
 intro z b;conv=>cbv
 refine g2 rfl ?_;exact fA ⟨⟨rfl,congrArg _ (by rw[r,h,List.drop_zero,show l=X.length/2 by omega]),trivial⟩,⟨rfl,congrArg _ (by rw[u,b,a,d,List.take_length,show f=X.length/2 by omega]),trivial⟩,trivial⟩ rfl (by simp)
theorem fa {X A:List LR} (k:X≠[]) (q:A=X.take (X.length-1)) (r:X[X.length-1]? =some B):CF 303 [.one (.sl (.sl AA) X)] (.AE [(false,[.sl (.sl AA) A]),(false,[.sl AA B])]):=by
 refine AH Tryz.func303 (by kernel_rfl) rfl fun E G=>?_
 conv=>cbv
 rintro J ⟨z,f6⟩;conv=>cbv
 have D:0<X.length:=List.length_pos_iff.2 k;intro K F;conv=>cbv
 refine g1 (by omega) ?_;intro I v;conv=>cbv
 refine g2 (by omega) ?_;intro h u;conv=>cbv
 intro H d;conv=>cbv
 rintro w ⟨j,f11⟩;conv=>cbv
 intro b m;conv=>cbv
 refine g1 (by omega) ?_;obtain⟨f,a⟩:=AG (l:=X) (i:=(b).toNat) (by omega);refine⟨f,fun _=>⟨by omega,a⟩,?_⟩;try conv=>cbv
 refine g2 rfl ?_;exact fA ⟨⟨rfl,congrArg _ (by rw[q,d,List.drop_zero,show h=X.length-1 by omega]),trivial⟩,⟨rfl,congrArg _ (by rw[show b.toNat=X.length-1 by omega] at a;exact (Option.some.inj (r.symm.trans a))),trivial⟩,trivial⟩ rfl (by simp)
theorem aG {Z:Nat->LR} (h:o.take i=Z i) (e:i=n):o.take n=Z n:=by rw[<-e];exact h
theorem Ms {α:Type} {o:List α} {w:α} (h:i<o.length):(o.set i w).take (i+1)=o.take i++[w]:=by
 rw[List.take_succ_eq_append_getElem (by rw[List.length_set];exact h),List.take_set_of_le (Nat.le_refl _),List.getElem_set_self]
theorem iB {a:Int} (ha:AS a n) (hn:n<=1000000) (hX:X=Ao (List.replicate n 0)) (F:zn=X.length):CF 284 [.one (.int .i64 a)] (.one (.own AA X zn)):=by
 have ea:=ha.eq;refine AH Tryz.func284 (by kernel_rfl) rfl fun E hE=>?_
 conv=>cbv
 refine⟨fun _=>⟨by omega,by omega,by show _*64<=140737488355328;omega⟩,?_⟩;intro H (I:LR) z;have a5:=z.1;have D:I=List.replicate H (((false,[]),(false,[])):el AA):=z.2;have U:I.length=H:=by rw[D,List.length_replicate]
 conv=>cbv
 intro n8 W;have e8:=W.eq;conv=>cbv
 refine .inr ?_;obtain⟨S,r⟩:=xJ fun vs M k=>∃(o:LR) (m i':Nat) (L i:Int),vs=[.one (.AT AA 6 0 0 m),.one (.int .i64 L),.one (.int .i64 i)]/\M=[.arr 0 AA o]/\(o.length=n/\m=n/\Cb L n/\AS i i'/\i'<=n)/\o.take i'=Ao (List.replicate i' 0)/\k=n-i'
 refine⟨[3,8,9],[6],S,⟨n-0,by rw[r];exact⟨I,H,0,n8,0,rfl,rfl,⟨by omega,by omega,⟨by omega,by omega⟩,BC 0,by omega⟩,rfl,rfl⟩⟩,?_⟩;intro vs M a6 P;rw[r] at P;obtain⟨o,m,i',L,i,rfl,rfl,⟨ho,hm,O,hi,a1⟩,hinv,a2⟩:=P;conv=>cbv
 have eL:=O.eq;have ei:=hi.eq;intro J v;conv=>cbv
 cases J <;> conv=>cbv
 ·have G:=Ad v;have b:o=X:=by rw[hX,<-aG (Z:=fun i=>Ao (List.replicate i 0)) hinv (by omega),List.take_of_length_le (by omega)]
  exact fA ⟨⟨rfl,.inr (.inl ⟨_,_,by decide,rfl,rfl,by omega,rfl,C2 (b.symm) (by rw[F,<-b])⟩),trivial⟩,trivial⟩ rfl (by simp)
 have G:=Ae v;refine .inr ?_;obtain⟨l,q,h,j,f⟩:=Bb (((0:Int):Rat));refine cL hE (F1 (by omega) rfl f) t1 ?_;try conv=>cbv
 refine g2 (by omega) ?_;intro w Q;conv=>cbv
 refine⟨((l,q),(h,j)),fun _=>⟨by show _<List.length (α:=(el AA)) o;(first | omega | (simp;omega)),by first | exact t1 | exact t2 | exact t4 | simp[Aw,BF,cells]⟩,?_⟩;intro (u:LR) (d:u=List.set (α:=(el AA)) o w (((l,q),(h,j))));have N:u.length=o.length:=by rw[d,List.length_set]
 conv=>cbv
 intro K V;conv=>cbv
 refine g1 (by omega) ?_;refine⟨n-(i'+1),?_,?_⟩
 ·omega
 rw[r];refine⟨u,m,i'+1,L,K,rfl,rfl,⟨by omega,by omega,O,⟨by omega⟩,by omega⟩,?_,rfl⟩;rw[d,show w=i' by omega,Ms (by omega),hinv,List.replicate_succ',Ao,Ao,List.map_append,<-f.rp];rfl
theorem Fa {x:el AA} (b:X=Ao xs) (d:DL xs) (a:X[i]? =some x):∃q,BM q x.1.1 x.1.2 x.2.1 x.2.2/\xs[i]? =some q/\Bj q:=by
 rw[b,Ao,List.getElem?_map] at a;cases h:xs[i]? with
 | none=>rw[h] at a;simp at a
 | some q=>
  rw[h] at a;have e:x=rp q:=(Option.some.inj a).symm;exact⟨q,by rw[e];exact E1 q,rfl,d q (List.mem_of_getElem? h)⟩
theorem VH (h:o.take i=Ao (ys.take i)) (b:i=n) (a:o.length=n) (d:ys.length=n):Ao ys=o.take n:=by
 rw[b] at h;rw[h,<-d,List.take_length]
theorem VJ {l:LR} {j:Nat} {q:Rat} {w:el AA} (h:o.take i=Ao (ys.take i)) (b:i<o.length) (d:j=i) (f:l=o.set j w) (a:ys[i]? =some q) (hw:rp q=w):l.take (i+1)=Ao (ys.take (i+1)):=by
 have k:i<ys.length:=E0 a;rw[f,d,Ms b,h,List.take_succ,a,Ao,Ao,List.map_append,<-hw];rfl
theorem cJ (W:X=Ao xs) (hs:DL xs) (hn:xs.length<=1000000) (hZ:Z=Ao (xs.map (- ·))):CF 245 [.one (.sl AA X)] (.one (.sl AA Z)):=by
 refine AH Tryz.func245 (by kernel_rfl) rfl fun E hE=>?_
 conv=>cbv
 have a7:X.length=xs.length:=by rw[W,List.length_map]
 rintro n7 ⟨e7,f7⟩;conv=>cbv
 refine⟨fun _=>⟨by omega,by omega,by show _*64<=140737488355328;omega⟩,?_⟩;intro K (M:LR) D;have ab:=D.1;have F:M=List.replicate K (((false,[]),(false,[])):el AA):=D.2;have a5:M.length=K:=by rw[F,List.length_replicate]
 conv=>cbv
 intro N u;have a2:=u.eq;have f10:=u.le;conv=>cbv
 refine .inr ?_;obtain⟨J0,v⟩:=xJ fun vs S k=>∃(o:LR) (m i':Nat) (L i:Int),vs=[.one (.AT AA 8 0 0 m),.one (.sl AA X),.one (.int .i64 L),.one (.int .i64 i)]/\S=[.arr 0 AA o]/\(o.length=X.length/\m=X.length/\Cb L X.length/\AS i i'/\i'<=X.length)/\o.take i'=Ao ((xs.map (- ·)).take i')/\k=X.length-i'
 refine⟨[3,9,10,11],[8],J0,⟨X.length-0,by rw[v];exact⟨M,K,0,N,0,rfl,rfl,⟨by omega,by omega,u,BC 0,by omega⟩,rfl,rfl⟩⟩,?_⟩;intro vs S ad hj;rw[v] at hj;obtain⟨o,m,i',L,i,rfl,rfl,⟨ho,hm,V,hi,a8⟩,hinv,aa⟩:=hj;conv=>cbv
 have eL:=V.eq;have ei:=hi.eq;intro O z;conv=>cbv
 cases O <;> conv=>cbv
 ·have J:=Ad z;exact fA ⟨⟨rfl,.inl ⟨_,rfl,by omega,congrArg _ (by rw[hZ,hm,List.drop_zero];exact VH hinv (by omega) (by omega) (by rw[List.length_map];omega))⟩,trivial⟩,trivial⟩ rfl (by simp)
 have J:=Ae z;refine .inr ?_;obtain⟨Q,b⟩:=AG (l:=X) (i:=i') (by omega);refine⟨Q,fun _=>⟨by omega,by rw[show (i).toNat=i' by omega];exact b⟩,?_⟩;try conv=>cbv
 obtain⟨q,hq,G,H⟩:=Fa W hs b;obtain⟨j,r,f,h,d⟩:=Bb (-q);refine cL hE (XG hq H rfl d) ⟨t4,trivial⟩ ?_;try conv=>cbv
 refine g2 (by omega) ?_;intro I a1;conv=>cbv
 refine⟨((j,r),(f,h)),fun _=>⟨by show _<List.length (α:=(el AA)) o;(first | omega | (simp;omega)),by first | exact t1 | exact t2 | exact t4 | simp[Aw,BF,cells]⟩,?_⟩;intro (w:LR) (a:w=List.set (α:=(el AA)) o I (((j,r),(f,h))));have U:w.length=o.length:=by rw[a,List.length_set]
 conv=>cbv
 intro P a6;conv=>cbv
 refine g1 (by omega) ?_;refine⟨X.length-(i'+1),?_,?_⟩
 ·omega
 rw[v];refine⟨w,m,i'+1,L,P,rfl,rfl,⟨by omega,by omega,V,⟨by omega⟩,by omega⟩,?_,rfl⟩;exact VJ hinv (by omega) (by omega) a (by rw[List.getElem?_map,G];rfl) d.rp
theorem Ye {Y:LR} (hX:X=Ao xs) (hY:Y=Ao ys) (hs:DL xs) (ht:DL ys) (O:ys.length=xs.length) (hn:xs.length<=1000000) (hZ:Z=Ao (List.zipWith (· + ·) xs ys)) (P:zn=Z.length):CF 301 [.one (.sl AA X),.one (.sl AA Y)] (.one (.own AA Z zn)):=by
 refine AH Tryz.func301 (by kernel_rfl) rfl fun E hE=>?_
 conv=>cbv
 have ae:X.length=xs.length:=by rw[hX,List.length_map]
 have af:Y.length=xs.length:=by rw[hY,List.length_map,O]
 rintro n8 ⟨e8,f8⟩;conv=>cbv
 refine⟨fun _=>⟨by omega,by omega,by show _*64<=140737488355328;omega⟩,?_⟩;intro U (V:LR) G;have ai:=G.1;have I:V=List.replicate U (((false,[]),(false,[])):el AA):=G.2;have ab:V.length=U:=by rw[I,List.length_replicate]
 conv=>cbv
 intro W H;have aa:=H.eq;conv=>cbv
 refine .inr ?_;obtain⟨J0,w⟩:=xJ fun vs bl k=>∃(o:LR) (m i':Nat) (L i:Int),vs=[.one (.sl AA X),.one (.sl AA Y),.one (.AT AA 9 0 0 m),.one (.int .i64 L),.one (.int .i64 i)]/\bl=[.arr 0 AA o]/\(o.length=X.length/\m=X.length/\AS L X.length/\AS i i'/\i'<=X.length)/\o.take i'=Ao ((List.zipWith (· + ·) xs ys).take i')/\k=X.length-i'
 refine⟨[0,1,5,11,12],[9],J0,⟨X.length-0,by rw[w];exact⟨V,U,0,W,0,rfl,rfl,⟨by omega,by omega,⟨by omega⟩,BC 0,by omega⟩,rfl,rfl⟩⟩,?_⟩;intro vs bl aj hj;rw[w] at hj;obtain⟨o,m,i',L,i,rfl,rfl,⟨ho,hm,hL,hi,ag⟩,hinv,ah⟩:=hj;conv=>cbv
 have eL:=hL.eq;have ei:=hi.eq;intro a1 D;conv=>cbv
 cases a1 <;> conv=>cbv
 ·have S:=Ad D;have F:Ao (List.zipWith (· + ·) xs ys)=o.take X.length:=VH hinv (by omega) (by omega) (by rw[List.length_zipWith];omega);have a:Z=o:=by rw[hZ,F,List.take_of_length_le (by omega)]
  exact fA ⟨⟨rfl,.inr (.inl ⟨_,_,by decide,rfl,rfl,by omega,rfl,C2 (a) (by rw[P,a])⟩),trivial⟩,trivial⟩ rfl (by simp)
 have S:=Ae D;refine .inr ?_;obtain⟨a5,d⟩:=AG (l:=X) (i:=i') (by omega);refine⟨a5,fun _=>⟨by omega,by rw[show (i).toNat=i' by omega];exact d⟩,?_⟩;try conv=>cbv
 obtain⟨a6,f⟩:=AG (l:=Y) (i:=i') (by omega);refine⟨a6,fun _=>⟨by omega,by rw[show (i).toNat=i' by omega];exact f⟩,?_⟩;try conv=>cbv
 obtain⟨p,hp,J,M⟩:=Fa hX hs d;obtain⟨q,hq,K,N⟩:=Fa hY ht f;obtain⟨u,v,j,r,h⟩:=Bb (p+q);refine cL hE (XC hp hq M N rfl h) ⟨t4,t4,trivial⟩ ?_;try conv=>cbv
 refine g2 (by omega) ?_;intro Q a8;conv=>cbv
 refine⟨((u,v),(j,r)),fun _=>⟨by show _<List.length (α:=(el AA)) o;(first | omega | (simp;omega)),by first | exact t1 | exact t2 | exact t4 | simp[Aw,BF,cells]⟩,?_⟩;intro (z:LR) (b:z=List.set (α:=(el AA)) o Q (((u,v),(j,r))));have a7:z.length=o.length:=by rw[b,List.length_set]
 conv=>cbv
 refine g2 rfl ?_;intro a2 ad;conv=>cbv
 refine g1 (by omega) ?_;refine⟨X.length-(i'+1),?_,?_⟩
 ·omega
 rw[w];refine⟨z,m,i'+1,L,a2,rfl,rfl,⟨by omega,by omega,hL,⟨by omega⟩,by omega⟩,?_,rfl⟩;exact VJ hinv (by omega) (by omega) b (by rw[List.getElem?_zipWith,J,K]) h.rp
end Go.Abs
namespace Go.Abs
open Go.RowKit
def Fb (p:el AA->Bool):Nat->LR->Int
 | _,[]=> -1
 | i,x::l=>if p x=true then i else Fb p (i+1) l
variable {Y:LR} {b1 b2 c:Bool} {g:FuncId} {i:Nat} {l1 l2:List UInt32} {ys:List Rat}
theorem TA {X:LR} {x:el AA} (h:X[i]? =some x):X.drop i=x::X.drop (i+1):=by
 have a:=E0 h;rw[List.drop_eq_getElem_cons a];rw[List.getElem?_eq_getElem a] at h;rw[Option.some.inj h]
theorem aI {X:LR} {p:el AA->Bool} {x:el AA} (h:X[i]? =some x) (a:p x=false):Fb p i (X.drop i)=Fb p (i+1) (X.drop (i+1)):=by
 rw[TA h,Fb,a];rfl
theorem aH {X:LR} {p:el AA->Bool} {x:el AA} (h:X[i]? =some x) (a:p x=true):Fb p i (X.drop i)=i:=by
 rw[TA h,Fb,if_pos a]
theorem Wx {X:LR} {p:el AA->Bool} {r:Int} (G:∀x∈X,CF g [.agg (cells AA x)] (.one (.bool (p x)))) (K:r=Fb p 0 X):CF 349 [.one (.sl AA X),.one (.fn g)] (.one (.int .i64 r)):=by
 refine AH Tryz.func349 (by kernel_rfl) rfl fun E F=>?_
 conv=>cbv
 intro O j;have Q:=j.eq;have f7:=j.le;conv=>cbv
 refine .inr ?_;obtain⟨w,f⟩:=xJ fun vs z k=>∃(i':Nat) (L i:Int),vs=[.one (.sl AA X),.one (.fn g),.one (.int .i64 L),.one (.int .i64 i)]/\(Cb L X.length/\AS i i'/\i'<=X.length)/\r=Fb p i' (X.drop i')/\k=X.length-i'
 refine⟨[0,1,7,8],[],w,⟨X.length-0,by rw[f];exact⟨0,O,0,rfl,⟨j,BC 0,by omega⟩,K,rfl⟩⟩,?_⟩;intro vs z N v;rw[f] at v;obtain⟨i',L,i,rfl,⟨u,H,I⟩,hinv,J⟩:=v;conv=>cbv
 have S:=u.eq;have U:=H.eq;intro P q;conv=>cbv
 cases P <;> conv=>cbv
 ·have M:=Ad q;exact fA ⟨⟨rfl,congrArg _ (by rw[hinv,List.drop_eq_nil_of_le (by omega)];rfl),trivial⟩,trivial⟩ rfl (by simp)
 have M:=Ae q;refine .inr ?_;obtain⟨a,b⟩:=AG (l:=X) (i:=i') (by omega);refine⟨a,fun _=>⟨by omega,by rw[show (i).toNat=i' by omega];exact b⟩,?_⟩;try conv=>cbv
 obtain⟨h,d⟩:=xB (p a);refine .inl ⟨[.agg [.bool a.1.1,.sl .u32 a.1.2,.bool a.2.1,.sl .u32 a.2.2]],.one (.bool h),fun _=>⟨t4,trivial⟩,fun _=>Fu F ((by rw[d];exact G a (List.mem_of_getElem? b))),?_⟩;try conv=>cbv
 cases h <;> conv=>cbv
 ·intro m D;conv=>cbv
  refine g1 (by omega) ?_;refine⟨X.length-(i'+1),?_,?_⟩
  ·omega
  rw[f];refine⟨i'+1,L,m,rfl,⟨u,⟨by omega⟩,by omega⟩,?_,rfl⟩;rw[hinv,aI b d.symm]
 exact fA ⟨⟨rfl,congrArg _ (by rw[hinv,aH b d.symm];omega),trivial⟩,trivial⟩ rfl (by simp)
theorem S9 (p:el AA->Bool):∀(X:LR) (i:Nat),decide (Fb p i X >= 0)=X.any p
 | [],i=>rfl
 | x::X,i=>by
  rw[Fb,List.any_cons]
  split
  ·rename_i h;rw[h,Bool.true_or];exact decide_eq_true (by omega)
  rename_i h;rw[Bool.eq_false_iff.2 h,Bool.false_or];exact S9 p X (i+1)
theorem QJ {X:LR} {p:el AA->Bool} (h:∀x∈X,CF g [.agg (cells AA x)] (.one (.bool (p x)))) (f:c=X.any p):CF 320 [.one (.sl AA X),.one (.fn g)] (.one (.bool c)):=by
 refine AH Tryz.func320 (by kernel_rfl) rfl fun E d=>?_
 conv=>cbv
 obtain⟨k,a⟩:=xI (Fb p 0 X);refine cL d (Wx h a) t2 ?_;try conv=>cbv
 intro j b;conv=>cbv
 exact fA ⟨⟨rfl,congrArg _ (by rw[f,b,a];exact (S9 p X 0).symm),trivial⟩,trivial⟩ rfl (by simp)
theorem eh (q:Rat):decide (q≠0)=(Dk q !=0):=by
 have h:= @Rat.num_eq_zero q;rw[Bool.eq_iff_iff,decide_eq_true_eq,bne_iff_ne];rcases Ph q with⟨a,e⟩ |⟨a,e⟩ |⟨a,e⟩ <;> rw[e]
 ·exact⟨fun _=>by decide,fun _ b=>by rw[h.2 b] at a;omega⟩
 ·exact⟨fun b=>absurd (h.1 a) b,fun b=>absurd rfl b⟩
 exact⟨fun _=>by decide,fun _ b=>by rw[h.2 b] at a;omega⟩
theorem cK {q:Rat} (h:BM q b1 l1 b2 l2) (f:c=decide (q≠0)):CF 335 [.agg [.bool b1,.sl .u32 l1,.bool b2,.sl .u32 l2]] (.one (.bool c)):=by
 refine AH Tryz.func335 (by kernel_rfl) rfl fun E d=>?_
 conv=>cbv
 obtain⟨k,a⟩:=xI (Dk q);refine cL d (Kw h a) ⟨t4,trivial⟩ ?_;try conv=>cbv
 intro j b;conv=>cbv
 exact fA ⟨⟨rfl,congrArg _ (by rw[f,b,a];exact eh q),trivial⟩,trivial⟩ rfl (by simp)
theorem VG (q:Rat):decide (q≠0)= !(rp q).1.2.isEmpty:=by
 have h:(rp q).1.2=AR q.num.natAbs:=rfl;rw[h,Bool.eq_iff_iff,decide_eq_true_eq,Bool.not_eq_true',List.isEmpty_eq_false_iff,Ne,Ne,EL,<-Rat.num_eq_zero];omega
theorem eK (xs:List Rat):(Ao xs).any (fun x=> !x.1.2.isEmpty)= !decide (∀q∈xs,q=0):=by
 induction xs with
 | nil=>rfl
 | cons q xs a=>
  rw[Ao,List.map_cons,List.any_cons,<-VG,<-Ao,a]
  by_cases h:q=0 <;> simp[h]
theorem gH {X:LR} {xs:List Rat} (b:X=Ao xs):∀x∈X,CF 335 [.agg (cells AA x)] (.one (.bool (!x.1.2.isEmpty))):=by
 intro x a;rw[b] at a;obtain⟨q,_,rfl⟩:=List.mem_map.1 a;exact cK (E1 q) (VG q).symm
theorem RB {X:LR} {xs:List Rat} (b:X=Ao xs) (h:c=decide (∀q∈xs,q=0)):CF 299 [.one (.sl AA X)] (.one (.bool c)):=by
 refine AH Tryz.func299 (by kernel_rfl) rfl fun E f=>?_
 conv=>cbv
 obtain⟨j,a⟩:=xB (X.any (fun x=> !x.1.2.isEmpty));refine cL f (QJ (gH b) a) t2 ?_;try conv=>cbv
 intro k d;conv=>cbv
 exact fA ⟨⟨rfl,congrArg _ (by rw[h,d,a,b,eK,Bool.not_not]),trivial⟩,trivial⟩ rfl (by simp)
theorem ah (f:c= !GP b1 l1 b2 l2) (s1:l1.length<=17592186042000) (s2:l2.length<=17592186042000):CF 321 [.agg [.bool b1,.sl .u32 l1,.bool b2,.sl .u32 l2]] (.one (.bool c)):=by
 refine AH Tryz.func321 (by kernel_rfl) rfl fun E d=>?_
 conv=>cbv
 obtain⟨h,a⟩:=xB (GP b1 l1 b2 l2);refine cL d (QX a s1 s2) ⟨t4,trivial⟩ ?_;try conv=>cbv
 intro j b;conv=>cbv
 exact fA ⟨⟨rfl,congrArg _ (by rw[f,b,a]),trivial⟩,trivial⟩ rfl (by simp)
theorem Yw {X:LR} {xs:List Rat} (b:X=Ao xs) (f:DL xs):∀x∈X,CF 321 [.agg (cells AA x)] (.one (.bool false)):=by
 intro x a;rw[b] at a;obtain⟨q,d,rfl⟩:=List.mem_map.1 a;have h:=(E1 q).small (f q d);exact ah (by rw[P6.2 ⟨q,E1 q⟩];rfl) (by omega) (by omega)
theorem any_false (X:LR):false=X.any (fun _=>false):=by
 induction X with
 | nil=>rfl
 | cons x X a=>rw[List.any_cons,<-a];rfl
theorem Ov {X:LR} {xs:List Rat} {k:Int} {n:Nat} (b:X=Ao xs) (m:DL xs) (l:AS k n) (h:c=decide (xs.length=n)):CF 282 [.one (.sl AA X),.one (.int .i64 k)] (.one (.bool c)):=by
 have w:=l.eq;refine AH Tryz.func282 (by kernel_rfl) rfl fun E j=>?_
 conv=>cbv
 rintro z ⟨v,f6⟩;conv=>cbv
 intro u f;conv=>cbv
 cases u <;> conv=>cbv
 ·have q:=Au f;exact fA ⟨⟨rfl,congrArg _ (by have d:X.length=xs.length:=(by rw[b,List.length_map]);rw[h];exact decide_eq_false (by omega)),trivial⟩,trivial⟩ rfl (by simp)
 have q:=Av f;refine cL j (QJ (p:=fun _=>false) (Yw b m) (any_false X)) t2 ?_;try conv=>cbv
 intro r a;conv=>cbv
 exact fA ⟨⟨rfl,congrArg _ (by have d:X.length=xs.length:=(by rw[b,List.length_map]);rw[h,a];exact decide_eq_true (by omega)),trivial⟩,trivial⟩ rfl (by simp)
theorem D3 {n i:Int} {k:Nat} (h:n=IntKind.i64.wrap (1*2^min i.toNat IntKind.i64.bits)) (e:i=k) (a:k<=20):AS n (2^k):=by
 have b:=wrap_i64 h;have d:2^k<=2^20:=Nat.pow_le_pow_right (by decide) a
 have h3:((2:Int)^min i.toNat IntKind.i64.bits)=((2^k:Nat):Int):=by
  rw[e,Int.toNat_natCast,Nat.min_eq_left (Nat.le_trans a (by decide))];simp
 rw[h3,Int.one_mul] at b
 generalize 2^k=Q at*
 exact⟨by omega⟩
theorem Hy {X:List LR} {xs:List (List Rat)} {x:LR} (b:X=xs.map Ao) (a:X[i]? =some x):∃y,x=Ao y/\xs[i]? =some y:=by
 rw[b,List.getElem?_map] at a;cases h:xs[i]? with
 | none=>rw[h] at a;simp at a
 | some q=>rw[h] at a;exact⟨q,(Option.some.inj a).symm,rfl⟩
theorem PF {X:List LR} {xs:List (List Rat)} (F:X=xs.map Ao) (ht:Kz xs) (O:c=true):CF 281 [.one (.sl (.sl AA) X)] (.one (.bool c)):=by
 refine AH Tryz.func281 (by kernel_rfl) rfl fun E M=>?_
 conv=>cbv
 have N:X.length=xs.length:=by rw[F,List.length_map]
 have hl:=ht.OM;intro n6 m;have e6:=m.eq;have f6:=m.le;conv=>cbv
 refine .inr ?_;obtain⟨H,b⟩:=xJ fun vs I k=>∃(i':Nat) (L i:Int),vs=[.one (.sl (.sl AA) X),.one (.int .i64 L),.one (.int .i64 i)]/\(Cb L X.length/\AS i i'/\i'<=X.length)/\k=X.length-i'
 refine⟨[5,6,7],[],H,⟨X.length-0,by rw[b];exact⟨0,n6,0,rfl,⟨m,BC 0,by omega⟩,rfl⟩⟩,?_⟩;intro vs I V G;rw[b] at G;obtain⟨i',L,i,rfl,⟨D,P,Q⟩,S⟩:=G;conv=>cbv
 have eL:=D.eq;have J:=P.eq;intro n8 z;conv=>cbv
 cases n8 <;> conv=>cbv
 ·have U:=Ad z;exact fA ⟨⟨rfl,congrArg _ (O),trivial⟩,trivial⟩ rfl (by simp)
 have U:=Ae z;refine .inr ?_;obtain⟨w,a⟩:=AG (l:=X) (i:=i') (by omega);refine⟨w,fun _=>⟨by omega,by rw[show (i).toNat=i' by omega];exact a⟩,?_⟩;try conv=>cbv
 intro W j;conv=>cbv
 refine g2 (by omega) ?_;obtain⟨x,q,f⟩:=Hy F a;refine cL (r:= .one (.bool true)) M (Ov q (ht.small x (List.mem_of_getElem? f)) (D3 j J (by omega)) (by rw[ht.form i' x f];exact (decide_eq_true rfl).symm)) t2 ?_;try conv=>cbv
 intro u d;conv=>cbv
 cases u <;> conv=>cbv
 ·have h:=CJ d;intro v K;conv=>cbv
  refine g1 (by omega) ?_;refine⟨X.length-(i'+1),?_,?_⟩
  ·omega
  rw[b];exact⟨i'+1,L,v,rfl,⟨D,⟨by omega⟩,by omega⟩,rfl⟩
 have h:=CK d;exact absurd h (by decide)
theorem GR {X:List LR} {xs:List (List Rat)} (j:X=xs.map Ao) (ht:Kz xs) (l:Y=Ao ys) (q:DL ys) (m:c=decide (ys.length=2^xs.length)):CF 231 [.one (.sl (.sl AA) X),.one (.sl AA Y)] (.one (.bool c)):=by
 refine AH Tryz.func231 (by kernel_rfl) rfl fun E h=>?_
 conv=>cbv
 have f:X.length=xs.length:=by rw[j,List.length_map]
 have v:=ht.OM;refine cL h (PF j ht rfl) t1 ?_;try conv=>cbv
 rintro r ⟨b,f10⟩;conv=>cbv
 intro u d;conv=>cbv
 refine g2 (by omega) ?_;obtain⟨k,a⟩:=xB (decide (ys.length=2^xs.length));refine cL h (Ov l q (D3 d (b.trans (congrArg _ f)) (by omega)) a) t2 ?_;try conv=>cbv
 exact fA ⟨⟨rfl,congrArg _ (m.trans a.symm),trivial⟩,trivial⟩ rfl (by simp)
theorem OF {X:List LR} {Z:LR} {xs:List (List Rat)} {k:List Rat} (m:X=xs.map Ao) (ht:Kz xs) (q:Y=Ao ys) (u:DL ys) (h:ys.length=2^xs.length) (r:Z=Ao k) (f:DL k) (j:k.length=2^xs.length):CF 300 [.one (.sl (.sl AA) X),.one (.sl AA Y),.one (.sl AA Z)] (.one (.bool true)):=by
 refine AH Tryz.func300 (by kernel_rfl) rfl fun E l=>?_
 conv=>cbv
 have d:X.length=xs.length:=by rw[m,List.length_map]
 have z:=ht.OM;refine cL l (GR m ht q u (decide_eq_true h).symm) t2 ?_;try conv=>cbv
 rintro v ⟨a,f13⟩;conv=>cbv
 intro w b;conv=>cbv
 refine g2 (by omega) ?_;refine cL l (Ov r f (D3 b (a.trans (congrArg _ d)) (by omega)) (decide_eq_true j).symm) t2 ?_;try conv=>cbv
 exact fA ⟨t2,trivial⟩ rfl (by simp)
end Go.Abs
namespace Go.Abs
open Go.RowKit
variable {A B C X Y Z:LR} {R s t zn:Nat} {T:List LR} {p:Rat} {x y:Re}
theorem Hn {u:List (List Rat)} (h:Ab u) (d:In u x) (b:X=em u x) (a:x=0):CF 299 [.one (.sl AA X)] (.one (.bool true)):=
 RB b (decide_eq_true ((Ju h d).2 a)).symm
theorem Ga {u:List (List Rat)} (h:Ab u) (d:In u x) (b:X=em u x) (a:x≠0):CF 299 [.one (.sl AA X)] (.one (.bool false)):=
 RB b (decide_eq_false (fun k=>a ((Ju h d).1 k))).symm
theorem Lx {u:List (List Rat)} {r:List Rat} {p q:Re} (h:Ab (r::u)) (b:In u p) (d:In u q) (f:x=p+q*rt u r) (a:X=em (r::u) x) (j:A=em u p) (k:B=em u q):
  CF 305 [.one (.sl AA X)] (.AE [(false,[.sl AA A]),(false,[.sl AA B])]):=
 aE (by rw[a,j,B9 h b d f]) (by rw[a,k,Bo h b d f])
theorem JP (r:List Rat) (u:List (List Rat)):tw (r::u)≠[]:=by rw[Km];simp
theorem Pq {X A:List LR} {u:List (List Rat)} {r:List Rat} (a:X=tw (r::u)) (b:A=tw u) (d:B=Ao r):
  CF 303 [.one (.sl (.sl AA) X)] (.AE [(false,[.sl (.sl AA) A]),(false,[.sl AA B])]):=
 fa (by rw[a];exact JP r u) (by rw[a,b,DA]) (by rw[a,d,ES])
theorem HQ {n:Nat} (h:n<=16):2^n<=1000000:=Nat.le_trans (Cq h) (by decide)
theorem RG {u:List (List Rat)} (h:Al R u) (f:X=em u x) (j:Y=em u y) (a:El u s x) (b:El u t y) (l:s<=60000000000000) (ht:t<=60000000000000) (k:Z=em u (x+y)) (d:zn=Z.length):
  CF 301 [.one (.sl AA X),.one (.sl AA Y)] (.one (.own AA Z zn)):=
 Ye f j (a.Bh l) (b.Bh ht) (by rw[a.len,b.len]) (by rw[a.len];exact HQ h.ht) (by rw[k,Se h.red a.mem b.mem]) d
theorem LH {u:List (List Rat)} (h:Al R u) (a:X=em u x) (b:Y=em u y) (j:El u s x) (k:El u t y) (f:s<=60000000000000) (ht:t<=60000000000000) (d:Z=em u (x+y)):
 CF 301 [.one (.sl AA X),.one (.sl AA Y)] (.one (.sl AA Z)):=Cl (RG h a b j k f ht d rfl)
theorem MN {u:List (List Rat)} (h:Al R u) (b:X=em u x) (a:El u s x) (f:s<=60000000000000) (d:Z=em u (-x)):
  CF 245 [.one (.sl AA X)] (.one (.sl AA Z)):=
 cJ b (a.Bh f) (by rw[a.len];exact HQ h.ht) (by rw[d,Sf h.red a.mem])
theorem M8 {a:Int} {u:List (List Rat)} (h:Al R u) (ha:AS a (2^u.length)) (d:Z=em u 0) (b:zn=Z.length):
  CF 284 [.one (.int .i64 a)] (.one (.own AA Z zn)):=
 iB ha (HQ h.ht) (by rw[d,N9 h.red]) b
theorem D2 {x:el AA} (b:A=[rp p]) (a:A[0]? =some x):BM p x.1.1 x.1.2 x.2.1 x.2.2:=by
 rw[b] at a;rw[<-Option.some.inj a];exact E1 p
theorem bn {q:Rat} (L:T=[]) (F:A=[rp p]) (G:B=[rp q]) (O:Bj p) (ht:Bj q) (H:C=[rp (p*q)]) (v:zn=C.length):CF 306 [.one (.sl (.sl AA) T),.one (.sl AA A),.one (.sl AA B)] (.one (.own AA C zn)):=by
 refine AH Tryz.func306 (by kernel_rfl) rfl fun E K=>?_
 conv=>cbv
 refine .inr ?_;rintro P ⟨u,f16⟩;conv=>cbv
 intro w f;conv=>cbv
 cases w <;> conv=>cbv
 ·have h:=Au f;exact absurd (by rw[u,L];rfl) h
 have h:=Av f;have I:A.length=1:=by rw[F];rfl
 have J:B.length=1:=by rw[G];rfl
 obtain⟨z,a⟩:=AG (l:=A) (i:=0) (by omega);refine⟨z,fun _=>⟨by omega,a⟩,?_⟩;try conv=>cbv
 obtain⟨D,b⟩:=AG (l:=B) (i:=0) (by omega);refine⟨D,fun _=>⟨by omega,b⟩,?_⟩;try conv=>cbv
 have M:=D2 F a;have N:=D2 G b;obtain⟨m,r,j,k,d⟩:=Bb (p*q);refine cL K (XF M N O ht rfl d) ⟨t4,t4,trivial⟩ ?_;try conv=>cbv
 refine⟨[((m,r),(j,k))],fun _=>⟨rfl,by decide,rfl,⟨rfl,by first | exact t1 | exact t2 | exact t4 | simp[Aw,BF,cells],trivial⟩⟩,.inl ?_⟩;try conv=>cbv
 refine g2 rfl ?_;exact fA ⟨⟨rfl,.inr (.inl ⟨_,_,by decide,rfl,rfl,rfl,rfl,C2 (by rw[H,d.rp]) (by rw[v,H];rfl)⟩),trivial⟩,trivial⟩ rfl (by simp)
theorem cA {u:List (List Rat)} (h:Al R u) (I:T≠[]) (w:A=em u x) (L:B=em u y) (F:In u x) (M:In u y) (H:x=0) (z:C=em u 0) (m:zn=C.length):CF 306 [.one (.sl (.sl AA) T),.one (.sl AA A),.one (.sl AA B)] (.one (.own AA C zn)):=by
 refine AH Tryz.func306 (by kernel_rfl) rfl fun E D=>?_
 conv=>cbv
 refine .inr ?_;rintro J ⟨G,f16⟩;conv=>cbv
 intro v d;conv=>cbv
 cases v <;> conv=>cbv
 ·have q:=Au d;refine cL D (Hn h.red F w H) t1 ?_;try conv=>cbv
  have l:A.length=2^u.length:=by rw[w,BL F]
  rintro K ⟨k,f34⟩;conv=>cbv
  obtain⟨f,a⟩:=xR (em u (0));obtain⟨j,b⟩:=xN f.length;refine cL (r:= .one (.own AA f j)) D (M8 h (AS.of (by rw[k,l])) a b) t1 ?_;try conv=>cbv
  exact fA ⟨⟨rfl,.inr (.inl ⟨_,_,by decide,rfl,rfl,b,rfl,C2 (by rw[z,a]) (by rw[m,z,<-a])⟩),trivial⟩,trivial⟩ rfl (by simp)
 have q:=Av d;exact absurd (List.length_eq_zero_iff.1 (by omega)) I
theorem cB {u:List (List Rat)} (h:Al R u) (K:T≠[]) (z:A=em u x) (J:B=em u y) (F:In u x) (L:In u y) (H:y=0) (I:x≠0) (D:C=em u 0) (q:zn=C.length):CF 306 [.one (.sl (.sl AA) T),.one (.sl AA A),.one (.sl AA B)] (.one (.own AA C zn)):=by
 refine AH Tryz.func306 (by kernel_rfl) rfl fun E m=>?_
 conv=>cbv
 refine .inr ?_;rintro M ⟨G,f16⟩;conv=>cbv
 intro w d;conv=>cbv
 cases w <;> conv=>cbv
 ·have v:=Au d;refine cL m (Ga h.red F z I) t1 ?_;try conv=>cbv
  refine cL m (Hn h.red L J H) t1 ?_;try conv=>cbv
  have l:A.length=2^u.length:=by rw[z,BL F]
  rintro N ⟨k,f34⟩;conv=>cbv
  obtain⟨f,a⟩:=xR (em u (0));obtain⟨j,b⟩:=xN f.length;refine cL (r:= .one (.own AA f j)) m (M8 h (AS.of (by rw[k,l])) a b) t1 ?_;try conv=>cbv
  exact fA ⟨⟨rfl,.inr (.inl ⟨_,_,by decide,rfl,rfl,b,rfl,C2 (by rw[D,a]) (by rw[q,D,<-a])⟩),trivial⟩,trivial⟩ rfl (by simp)
 have v:=Av d;exact absurd (List.length_eq_zero_iff.1 (by omega)) K
def QP (f:FuncId) (R:Nat) (u:List (List Rat)):Prop:=∀{T:List LR} {A B C:LR} {zn s t:Nat} {x y:Re},T=tw u->A=em u x->B=em u y->El u s x->El u t y->s+t+EE u.length R<=60000000000000->C=em u (x*y)->zn=C.length->
 CF f [.one (.sl (.sl AA) T),.one (.sl AA A),.one (.sl AA B)] (.one (.own AA C zn))
theorem bz {u:List (List Rat)} {r:List Rat} (h:Al R (r::u)) (U:QP 306 R u) (hT:T=tw (r::u)) (hA:A=em (r::u) x) (hB:B=em (r::u) y) (hx:El (r::u) s x) (hy:El (r::u) t y) (aj:s+t+EE (r::u).length R<=60000000000000) (h0:x≠0) (h1:y≠0) (hC:C=em (r::u) (x*y)) (a6:zn=C.length):CF 306 [.one (.sl (.sl AA) T),.one (.sl AA A),.one (.sl AA B)] (.one (.own AA C zn)):=by
 obtain⟨p,q,a2,F,D⟩:=El.parts h.red hx;obtain⟨a,b,a5,ha,hb⟩:=El.parts h.red hy;have ah:EE (r::u).length R=2*EE u.length R+R+2:=rfl;have G:=El.Ca h;have hR:=h.hR;have ai:=CO h.red;refine AH Tryz.func306 (by kernel_rfl) rfl fun E f=>?_
 conv=>cbv
 refine .inr ?_;rintro ak ⟨ag,f16⟩;conv=>cbv
 intro a8 V;conv=>cbv
 cases a8 <;> conv=>cbv
 ·have a7:=Au V;refine cL f (Ga h.red hx.mem hA h0) t1 ?_;try conv=>cbv
  refine cL f (Ga h.red hy.mem hB h1) t1 ?_;try conv=>cbv
  obtain⟨al,d⟩:=xV (tw u);obtain⟨an,K⟩:=xR (Ao r);refine cL f (Pq hT d K) t1 ?_;try conv=>cbv
  obtain⟨ao,j⟩:=xR (em u p);obtain⟨aq,k⟩:=xR (em u q);refine cL f (Lx h.red F.mem D.mem a2 hA j k) t1 ?_;try conv=>cbv
  obtain⟨ar,l⟩:=xR (em u a);obtain⟨au,m⟩:=xR (em u b);refine cL f (Lx h.red ha.mem hb.mem a5 hB l m) t1 ?_;try conv=>cbv
  obtain⟨av,L⟩:=xR (em u (p*a));refine cL f (Cl (U d j l F ha (by omega) L rfl)) t3 ?_;try conv=>cbv
  obtain⟨aw,M⟩:=xR (em u (q*b));refine cL f (Cl (U d k m D hb (by omega) M rfl)) t3 ?_;try conv=>cbv
  obtain⟨ax,N⟩:=xR (em u (q*b*AN u r));refine cL f (Cl (U d M (K.trans (DU h.red)) (D.mul h.tail hb) G (by omega) N rfl)) t3 ?_;try conv=>cbv
  obtain⟨H,v⟩:=xR (em u (p*a+q*b*AN u r));obtain⟨af,w⟩:=xN H.length;refine cL f (RG h.tail L N (F.mul h.tail ha) ((D.mul h.tail hb).mul h.tail G) (by omega) (by omega) v w) t2 ?_;try conv=>cbv
  obtain⟨ay,O⟩:=xR (em u (p*b));refine cL f (Cl (U d j m F hb (by omega) O rfl)) t3 ?_;try conv=>cbv
  obtain⟨az,P⟩:=xR (em u (q*a));refine cL f (Cl (U d k l D ha (by omega) P rfl)) t3 ?_;try conv=>cbv
  obtain⟨I,z⟩:=xR (em u (p*b+q*a));refine cL f (LH h.tail O P (F.mul h.tail hb) (D.mul h.tail ha) (by omega) (by omega) z) t2 ?_;try conv=>cbv
  have ab:H.length=2^u.length:=by rw[v,BL (Cp (F.mul h.tail ha).mem ((D.mul h.tail hb).mul h.tail G).mem)]
  have ad:I.length=2^u.length:=by rw[z,BL (Cp (F.mul h.tail hb).mem (D.mul h.tail ha).mem)]
  have ae:=Cq h.tail.ht;refine .inl ⟨I,fun _=>⟨rfl,w,rfl,by show (H.length+I.length)*64<=140737488355328;(try simp only[List.length_take,List.length_drop]);omega⟩,?_⟩;intro (S:LR) aa Q;have W:S=(H:LR)++(I:LR):=Q.1;have a1:aa=List.length (α:=(el AA)) S:=Q.2;conv=>cbv
  have J:C=S:=by rw[hC,W,v,z];exact EA h.red (Cp (F.mul h.tail ha).mem ((D.mul h.tail hb).mul h.tail G).mem) (Cp (F.mul h.tail hb).mem (D.mul h.tail ha).mem) (by rw[a2,a5];clear U;grind)
  exact fA ⟨⟨rfl,.inr (.inl ⟨_,_,by decide,rfl,rfl,a1,rfl,C2 (J) (by rw[a6,J])⟩),trivial⟩,trivial⟩ rfl (by simp)
 have a7:=Av V;exact absurd (List.length_eq_zero_iff.1 (by omega)) (hT ▸ JP r u)
theorem mulC {u:List (List Rat)} (h:Al R u):QP 306 R u:=by
 induction u with
 | nil=>
  intro T A B C zn s t x y l b d j k m f a;obtain⟨p,rfl⟩:=CI.1 j.mem;obtain⟨q,rfl⟩:=CI.1 k.mem;rw[DT] at b d;rw[<-Re.ofRat_mul,DT] at f;have z:=j.Bh (by omega);have D:=k.Bh (by omega);rw[Co] at z D;exact bn l b d (z _ List.mem_cons_self) (D _ List.mem_cons_self) f a
 | cons r u F=>
  intro T A B C zn s t x y l b d j k m f a
  by_cases v:x=0
  ·refine cA h (l ▸ JP r u) b d j.mem k.mem v ?_ a;rw[f,v];congr 1;grind
  by_cases w:y=0
  ·refine cB h (l ▸ JP r u) b d j.mem k.mem w v ?_ a;rw[f,w];congr 1;grind
  exact bz h (F h.tail) l b d j k m v w f a
theorem KH {u:List (List Rat)} (h:Al R u) (j:T=tw u) (b:A=em u x) (d:B=em u y) (k:El u s x) (l:El u t y) (a:s+t+EE u.length R<=60000000000000) (f:C=em u (x*y)):
 CF 306 [.one (.sl (.sl AA) T),.one (.sl AA A),.one (.sl AA B)] (.one (.sl AA C)):=Cl (mulC h j b d k l a f rfl)
end Go.Abs
