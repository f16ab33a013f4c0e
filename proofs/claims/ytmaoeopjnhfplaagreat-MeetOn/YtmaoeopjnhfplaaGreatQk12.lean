/- Part 13 of a proof. Conditions: each theorem's own. -/
import Derived.RangeFuncBox
import Derived.RangeFuncLeaves
import Derived.Shelf.Abstract
import Derived.WalkKit
import Derived.OwnWalkIn
import Derived.TacticsInMore
import Derived.LoopNIn
import Derived.LoopIn
import Derived.Test.YtmaoeopjnhfplaaGreatQk00
import Derived.Test.YtmaoeopjnhfplaaGreatQk11
set_option linter.all false
set_option maxHeartbeats 8000000
set_option maxRecDepth 20000
open Go.Proofs
namespace Go.Abs
open Go.RowKit Go.Shelf Go.Proofs
attribute [local go_sem] Oper.semAt_some
def upto {α:Type} (f:Nat->α) (k:Nat):List α:=(List.range k).map f
theorem bC {α:Type} (f:Nat->α) (k:Nat):upto f (k+1)=upto f k++[f k]:=by simp[upto,List.range_succ]
theorem ng {α:Type} (f:Nat->α) (k:Nat):(upto f k).length=k:=by simp[upto]
def bk (l:List UInt32) (k:Nat):Int×UInt32:=((l.length:Int)-1-k,l[l.length-1-k]?.getD 0)
structure HI (n b:Nat) (A B:World):Prop where
 below:Below n A B
 block:B.heap[b]? =A.heap[b]?
theorem HI.refl (n b:Nat) (A:World):HI n b A A:=⟨Below.refl _ _,rfl⟩
theorem HI.trans {n b:Nat} {A B C:World} (h:HI n b A B) (k:HI n b B C):HI n b A C:=⟨h.1.trans k.1,k.2.trans h.2⟩
theorem fS (F:Fence) (n:Nat) (h7:F.fn 393) (hro:F.round=none) (hn:1<=n) (l Bs n₀ b off cap:Nat) (zs:List UInt32) (hreach:zs.length<=140737488351232) (hb:b<n₀) (J Jx:List (Int×UInt32)->World->Prop)
  (hY:∀pre x W,J pre W->pre.length<zs.length->YieldAt F (n-1) Tryz.prog l #[.int .i64 x.1,.int .u32 (x.2.toNat:Int)] W fun e W'=>
   (e= .returned (.bool true)/\J (pre++[x]) W'/\HI n₀ Bs W W')\/(e= .returned (.bool false)/\Jx (pre++[x]) W'))
  (W:World) (hBs:W.cell? ⟨Bs,0,none⟩=some (.slice (some ⟨b,off,none⟩) zs.length cap)) (hc:∀j,j<zs.length->W.cell? ⟨b,off+j,none⟩=some (.int .u32 ((zs[j]?.getD 0).toNat:Int))) (h0:J [] W):
  CallsIn F n Tryz.prog 393 #[.func (.yield l) #[] #[],.pointer (some ⟨Bs,0,none⟩)] W fun e W'=>(∃v,e= .returned v)/\
   ((∃ys,ys=upto (bk zs) zs.length/\J ys W')\/(∃pre,(∃k,k<=zs.length/\pre=upto (bk zs) k)/\Jx pre W')):=by
 refine callsIn_of_wp Tryz.func393 rfl h7 ?_ hro;simp only[Tryz.ntmps393,List.size_toArray,List.length_cons,List.length_nil,Nat.reduceAdd,Nat.reduceSub,Array.replicate_succ,Array.replicate_zero,List.push_toArray,List.append_toArray,List.nil_append,List.cons_append]
 gi_wp2
 gi_loopw [3] (fun i wr=>∃k:Nat,k<=zs.length/\i= .int .i64 ((zs.length:Int)-1-k)/\J (upto (bk zs) k) wr/\HI n₀ Bs W wr)
  (fun i _=>(intOf i+1).toNat)
 case atStart=>exact⟨0,Nat.zero_le _,by simp,h0,HI.refl _ _ _⟩
 case round=>
  obtain⟨k,hk,rfl,hJs,hnx⟩:=hrel
  by_cases hlt:k<zs.length
  ·obtain⟨j,ej,hjl,ex⟩:∃j:Nat,(zs.length:Int)-1-k=(j:Int)/\j<zs.length/\bk zs k=((j:Int),zs[j]?.getD 0):=
    ⟨zs.length-1-k,by omega,by omega,by unfold bk;rw[show ((zs.length:Int)-1-k)=((zs.length-1-k:Nat):Int) by omega]⟩
   have hcx:wr.cell? ⟨b,off+j,none⟩=some (.int .u32 ((zs[j]?.getD 0).toNat:Int)):=(hnx.below.cell (p:=⟨b,off+j,none⟩) hb).trans (hc j hjl);have hbx:wr.cell? ⟨Bs,0,none⟩=some (.slice (some ⟨b,off,none⟩) zs.length cap):=(World.cell?_of_block (a:=⟨Bs,0,none⟩) hnx.block).trans hBs;obtain⟨fn,tmps,assign,body,hy,hR⟩:=hY _ (bk zs k) wr hJs (by rw[ng];exact hlt);rw[ex] at hy hR;have eg:zs[j]?.getD 0=zs[j]:=by simp[hjl]
   rw[eg] at hy hcx
   dsimp only at hy
   rw[ej];have hmz:((j:Int):Int)-1+1=j:=by omega
   gi_wp2
   refine hR.mono ?_;rintro e W3 (⟨rfl,hJ3,hk3⟩ |⟨rfl,hJx3⟩)
   ·gi_wp2
    go_roundw
    case rel=>exact⟨k+1,by omega,by congr 1;omega,by rw[bC,ex];exact hJ3,hnx.trans hk3⟩
    case measure=>simp[intOf]
   gi_wp2
   refine bodyPost_ret (results_none rfl _ _ _) rfl ?_;exact⟨⟨_,rfl⟩,.inr ⟨_,⟨k+1,by omega,by rw[bC,ex]⟩,hJx3⟩⟩
  obtain rfl:k=zs.length:=by omega
  rw[show (zs.length:Int)-1-zs.length= -1 by omega]
  gi_wp2
  go_end0
  exact⟨⟨_,rfl⟩,.inl ⟨_,rfl,hJs⟩⟩
theorem fT (F:Fence) (n:Nat) (h7:F.fn 393) (hro:F.round=none) (l Bs:Nat) (base:Option Addr) (cap:Nat) (J:List (Int×UInt32)->World->Prop) (W:World) (hBs:W.cell? ⟨Bs,0,none⟩=some (.slice base 0 cap)) (h0:J [] W):
  CallsIn F n Tryz.prog 393 #[.func (.yield l) #[] #[],.pointer (some ⟨Bs,0,none⟩)] W fun e W'=>(∃v,e= .returned v)/\J [] W':=by
 refine callsIn_of_wp Tryz.func393 rfl h7 ?_ hro;simp only[Tryz.ntmps393,List.size_toArray,List.length_cons,List.length_nil,Nat.reduceAdd,Nat.reduceSub,Array.replicate_succ,Array.replicate_zero,List.push_toArray,List.append_toArray,List.nil_append,List.cons_append]
 gi_wp2
 gi_loopw [3] (fun i wr=>i= .int .i64 (-1)/\J [] wr) (fun _ _=>0)
 case atStart=>exact⟨by simp,h0⟩
 case round=>
  obtain⟨rfl,hJs⟩:=hrel
  gi_wp2
  go_end0
  exact⟨⟨_,rfl⟩,hJs⟩
theorem fU (F:Fence) (n:Nat) (h5:F.fn 388) (hro:F.round=none) (a:Option Addr) (len cap:Nat) (w:World):
  CallsIn F n Tryz.prog 388 #[.slice a len cap] w fun e w'=>e= .returned (.func (.func 393) #[] #[.pointer (some ⟨w.heap.size,0,none⟩)])/\w'=w.alloc (.cells #[.slice a len cap] 167):=by
 refine callsIn_of_wp Tryz.func388 rfl h5 ?_ hro;simp only[Tryz.ntmps388,List.size_toArray,List.length_cons,List.length_nil,Nat.reduceAdd,Nat.reduceSub,Array.replicate_succ,Array.replicate_zero,List.push_toArray,List.append_toArray,List.nil_append,List.cons_append]
 gi_wp2
 go_ret
 exact⟨rfl,rfl⟩
def Words (n:Nat) (W:World) (sv:Value) (zs:List UInt32):Prop:=
 (∃base cap,sv= .slice base 0 cap/\zs=[])\/∃b off cap,sv= .slice (some ⟨b,off,none⟩) zs.length cap/\b<n/\∀j,j<zs.length->W.cell? ⟨b,off+j,none⟩=some (.int .u32 ((zs[j]?.getD 0).toNat:Int))
theorem Words.below {n:Nat} {A B:World} (h:Below n A B) {a:Value} {d:List UInt32}:Words n A a d->Words n B a d
 | .inl e=> .inl e
 | .inr ⟨b,off,cap,e,hb,hc⟩=> .inr ⟨b,off,cap,e,hb,fun j f=>(h.cell (p:=⟨b,off+j,none⟩) hb).trans (hc j f)⟩
theorem fV (F:Fence) (n:Nat) (r:F.fn 393) (j:F.round=none) (C:1<=n) (g a:Nat) (t:Value) (f:List UInt32) (d:f.length<=140737488351232) (w:World) (m:g<w.heap.size) (h:a<=w.heap.size)
  (hc:w.cell? ⟨g,0,none⟩=some t) (v:Words a w t f):
  SeqStopsK F n Tryz.prog 393 #[.pointer (some ⟨g,0,none⟩)] (fun x:Int×UInt32=> #[Value.int .i64 x.1,Value.int .u32 (x.2.toNat:Int)]) (HI a g) (fun ys=>ys=upto (bk f) f.length)
   (fun pre=>∃k,k<=f.length/\pre=upto (bk f) k) f.length w:=fun l J u W s _ _ A q=>by
 have i:=(s.cell (p:=⟨g,0,none⟩) m).trans hc;rcases v.below (s.mono h) with⟨base,cap,rfl,rfl⟩ |⟨b,off,cap,rfl,hb,o⟩
 ·exact (fT F n r j l g base cap J W i q).mono fun e D ⟨he,B⟩=>⟨he,.inl ⟨_,rfl,B⟩⟩
 exact fS F n r j C l g a b off cap f d hb J u A W i o q
def Kd (s:Int) (x:Int×UInt32):Int:=bits BinOp.or IntKind.u64 (IntKind.u64.wrap (s*4294967296)) (IntKind.u64.wrap (x.2.toNat:Int))
def Kq (pre:List (Int×UInt32)):Int:=pre.foldl Kd 0
theorem g7 (pre:List (Int×UInt32)) (x:Int×UInt32):Kq (pre++[x])=Kd (Kq pre) x:=by simp[Kq]
theorem nT (F:Fence) (n:Nat) (h3:F.fn 376) (h5:F.fn 388) (h7:F.fn 393) (hro:F.round=none) (hn:3<=n) (a:Option Addr) (len cap:Nat) (zs:List UInt32) (hreach:zs.length<=140737488351232) (w:World) (hI:Words w.heap.size w (.slice a len cap) zs):
  CallsIn F n Tryz.prog 376 #[.slice a len cap] w fun e W'=>e= .returned (.int .u64 (Kq (upto (bk zs) zs.length)))/\Below w.heap.size w W':=by
 have h1:1<=n:=by omega
 refine callsIn_of_wp_marks Tryz.func376 rfl h3 ?_ hro;simp only[Tryz.ntmps376,List.size_toArray,List.length_cons,List.length_nil,Nat.reduceAdd,Nat.reduceSub,Array.replicate_succ,Array.replicate_zero,List.push_toArray,List.append_toArray,List.nil_append,List.cons_append]
 gi_wp2_with (gi_at_call 388;refine (fU F (n-1) h5 hro _ _ _ _).mono ?_;rintro e w' ⟨rfl,rfl⟩)
 have bS:=Boxed.new w 253 (.int .u64 0);have bN:=Boxed.new (w.alloc (.cells #[.int .u64 0] 253)) 167 (.slice a len cap);rw[World.size_alloc] at bN;have hB0:Below w.heap.size w ((w.alloc (.cells #[.int .u64 0] 253)).alloc (.cells #[.slice a len cap] 167)):=((Below.refl _ w).alloc (Nat.le_refl _) _).alloc (by simp) _
 refine wpIn_rangeFunc_ownG hro h1 (gf:=393) (lb:= #[.pointer (some ⟨w.heap.size+1,0,none⟩)]) rfl h7 (enters_of Tryz.func393 (by kernel_rfl) rfl)
  (fV F (n-1) h7 hro (by omega) (w.heap.size+1) w.heap.size _ zs hreach _ (by simp) (by simp;omega) bN.cell (hI.below hB0)) HI.trans (fun W l o o' hl h hc hw=>⟨belowK_b (by simp;omega) W l o o' hl h hc hw,World.putObj_heap_other (by simp at hl;omega)⟩) (Below.refl _ _) (fun _=>rfl)
  (fun pre W=>(W.cell? ⟨w.heap.size,0,none⟩=some (.int .u64 (Kq pre))/\W.frozen? ⟨w.heap.size,0,none⟩=false)/\Below w.heap.size w W)
  (fun _ _ _=>False)
  (OwnFrom.and (Own.from (fun s A B row hs hg hr=>⟨cell_kept hs.1 hg hr,(frozen_kept hs.1 hg hr).trans hs.2⟩) _) (ownFrom_below (Nat.le_refl _) (by simp;omega)))
  (fun _ _ _ _ _ hs _ _=>hs)
  ⟨⟨(bS.alloc _).cell,(bS.alloc _).frozen⟩,hB0⟩
  (fun x=>{tmps:= #[.slice a len cap,undef,.int .u64 0,.pointer (some ⟨w.heap.size,0,none⟩),undef,.int .u32 (x.2.toNat:Int),.slice a len cap,.func (.func 393) #[] #[.pointer (some ⟨w.heap.size+1,0,none⟩)],.int .i64 x.1,.int .u32 (x.2.toNat:Int),undef,undef,undef,undef,undef,undef],defers:=[]}) ?assign ?body ?done ?stop
 case assign=>
  intro l x W K hK
  gi_wp2
  exact hK
 case body=>
  rintro l pre x W ⟨⟨hc,hf⟩,hB⟩ _
  gi_wp2
  exact⟨(KeepsOthers.setCell _ _ _).from _,⟨(Below.refl w.heap.size W).setCell (p:=⟨w.heap.size,0,none⟩) (Nat.le_refl _) _,Below.heap_setCell W _ _ _ (by simp)⟩,⟨by rw[g7];exact World.cell?_setCell_same' _ _ _ (by rw[hc];rfl),by rw[World.frozen?_setCell];exact hf⟩,hB.setCell (p:=⟨w.heap.size,0,none⟩) (Nat.le_refl _) _⟩
 case done=>
  rintro D ys W hD rfl ⟨⟨hc,_⟩,hB⟩ hK
  gi_wp2
  refine⟨by simp,.inl ⟨_,_,rfl,run_takeDeferred hK,?_⟩⟩;exact⟨_,results_tmp rfl _ _ _,rfl,hB.trans (belowK_b (w:=w) (Nat.le_refl _) W D _ _ (by simp at hD;omega) hK rfl rfl)⟩
 case stop=>
  rintro D c pre W _ _ h _;exact h.elim
theorem QD {s:Int} {p:Nat} (x:Int×UInt32) (f:s=p) (d:p<4294967296):Kd s x=((x.2.toNat+4294967296*p:Nat):Int):=by
 have g:=x.2.toNat_lt;refine KE (a:=IntKind.u64.wrap (s*4294967296)) (b:=IntKind.u64.wrap (x.2.toNat:Int)) rfl ?_ ?_ d g
 ·rw[wrap_u64 (rfl:IntKind.u64.wrap (s*4294967296)=_),f];omega
 rw[wrap_u64 (rfl:IntKind.u64.wrap (x.2.toNat:Int)=_)];omega
theorem g8:∀(l:List UInt32),l.length<=2->Kq (upto (bk l) l.length)=(AI l:Int)
 | [],_=>rfl
 | [x],_=>by
  show Kd 0 (bk [x] 0)=_
  refine (QD (p:=0) _ rfl (by decide)).trans ?_;simp[bk,AI]
 | [x,y],_=>by
  show Kd (Kd 0 (bk [x,y] 0)) (bk [x,y] 1)=_
  have a:=QD (p:=0) (bk [x,y] 0) rfl (by decide);have d:=y.toNat_lt;rw[QD (p:=y.toNat) _ (by simpa [bk] using a) d];simp[bk,AI]
 | _::_::_::_,h=>by simp at h
theorem PR {l:List UInt32} {n:Int} {k:Nat} (i:AI l=k) (m:l.length<=2) (o:Ag n k):CF 376 [.one (.sl .u32 l)] (.one (.int .u64 n)):=by
 obtain⟨c,hc⟩:∃c,Tryz.f376.body=some c:=⟨_,rfl⟩
 refine⟨⟨Tryz.f376,c,by kernel_rfl,by rfl,hc⟩,⟨rfl,rfl⟩,fun w I vs h a=>?_⟩
 match vs,a with
 | [v],a=>
  rcases a.1 with d |⟨base,cap,r,s,t,h3⟩
  ·cases d
  obtain rfl:v= .slice base l.length cap:=by simpa using r
  have hw:Words w.heap.size w (.slice base l.length cap) l:=by
   rcases h3 with rfl |⟨b,off,rfl,hb,f⟩
   ·exact .inl ⟨base,cap,rfl,rfl⟩
   refine .inr ⟨b,off,cap,rfl,h b hb,fun j d=>?_⟩;obtain⟨us,hu,p⟩:=f j l[j] (by simp[d]);have hu:us=[.int .u32 (l[j].toNat:Int)]:=hu;have:=p 0 (.int .u32 (l[j].toNat:Int)) (by rw[hu];rfl);have e:l[j]?.getD 0=l[j]:=by simp[d]
   rw[e];have q:T.u32.size=1:=rfl;rw[q] at this;have this:w.cell? ⟨b,off+j*1+0,none⟩=_:=this;simpa using this
  refine (callsIn_wide.1 (nT Fence.wide 3 trivial trivial trivial rfl (Nat.le_refl _) base l.length cap l (by omega) w hw)).mono ?_;rintro e w' ⟨rfl,g⟩;refine⟨_,none,rfl,g,.inr ?_⟩
  show _=_
  rw[g8 l m,i,o.eq]
 | [],a=>exact a.elim
 | _::_::_,a=>exact a.2.elim
end Go.Abs
namespace Go.Abs
open Go.RowKit Go.Shelf Go.Proofs
theorem bitLen_spec {x:Nat} (h:x<4294967296) (g:x≠0):2^(Lib.bitLen x-1)<=x/\x<2^Lib.bitLen x/\1<=Lib.bitLen x/\Lib.bitLen x<=32:=by
 have key:∀(f x:Nat),x<2^f->x≠0->2^(Lib.bitLenAux f x-1)<=x/\x<2^Lib.bitLenAux f x/\1<=Lib.bitLenAux f x/\Lib.bitLenAux f x<=f:=by
  intro f
  induction f with
  | zero=>intro x h g;simp at h;exact absurd h g
  | succ f j=>
   intro x h g;simp only[Lib.bitLenAux,if_neg g]
   by_cases i:x/2=0
   ·rw[i];have:Lib.bitLenAux f 0=0:=by cases f <;> simp[Lib.bitLenAux]
    rw[this];simp;omega
   obtain⟨a,b,c,d⟩:=j (x/2) (by rw[Nat.pow_succ] at h;omega) i
   generalize Lib.bitLenAux f (x/2)=m at*
   obtain⟨m,rfl⟩:∃k,m=k+1:=⟨m-1,by omega⟩
   rw[show 1+(m+1)=m+1+1 by omega,Nat.pow_succ];simp only[Nat.add_sub_cancel] at a ⊢;rw[Nat.pow_succ] at b ⊢;omega
 have e:Lib.bitLen x=Lib.bitLenAux 32 x:=Lib.bitLenAux_fuel 32 x (by simpa using h) 64 (by decide);rw[e];exact key 32 x (by simpa using h) g
theorem Un {x c:Int} {k:Nat} (d:Ag x k) (i:k<4294967296) (hc:Ag c (Lib.bitLen k)):CF 392 [.one (.int .u32 x)] (.one (.int .i64 c)):=by
 obtain⟨b,hb⟩:∃b,Tryz.f392.body=some b:=⟨_,rfl⟩
 refine⟨⟨Tryz.f392,b,by kernel_rfl,by rfl,hb⟩,⟨rfl,rfl⟩,fun w I vs h a=>?_⟩
 match vs,a with
 | [v],a=>
  rcases a.1 with f | g
  ·cases f
  obtain rfl:v= .int .u32 x:=g;have:=d.eq;refine (jR x w).mono ?_;rintro e w' ⟨rfl,rfl⟩;refine⟨_,none,rfl,Below.refl _ _,.inr ?_⟩
  show _=_
  rw[hc.eq,d.eq];rfl
 | [],a=>exact a.elim
 | _::_::_,a=>exact a.2.elim
end Go.Abs
namespace Go.Abs
open Go.RowKit
theorem bz {x c:Int} {k:Nat} (i:Ag x k) (d:k≠0) (f:k<4294967296) (hc:Ag c (32-Lib.bitLen k)):CF 383 [.one (.int .u32 x)] (.one (.int .i64 c)):=by
 refine AO Tryz.func383 fun E h=>?_
 conv=>cbv
 obtain⟨o,a⟩:∃n:Int,Ag n (Lib.bitLen k):=⟨_,⟨rfl⟩⟩
 have g:=a.eq;refine AB h (Un i f a) ?_;conv=>cbv
 have hb:=bitLen_spec f d;intro m j;conv=>cbv
 refine AQ ?_;exact AF ⟨⟨rfl,congrArg _ (by rw[hc.eq];omega),trivial⟩,trivial⟩
theorem OB {l m z1 z2:List UInt32} {a b:Nat} (hl:l=AW a) (hm:m=AW b) (hb:0<b) (hz1:z1=AW (a/b)) (hz2:z2=AW (a%b)) (sl:l.length<=17592186044000):CF 375 [.one (.sl .u32 l),.one (.sl .u32 m)] (.AG [(false,[.sl .u32 z1]),(false,[.sl .u32 z2])]):=by
 refine AO Tryz.func375 fun E hE=>?_
 conv=>cbv
 refine .inr ?_;obtain⟨r22,hr22⟩:=xI (Bv a b);refine AB hE (N4 hl hm hr22) ?_;conv=>cbv
 intro n23 h23;conv=>cbv
 cases n23 <;> conv=>cbv
 ·have k23:=BK h23;have hba:b<=a:=by rw[hr22] at k23;have:=JC k23;omega
  have hml:m.length<=l.length:=by rw[hl,hm];exact FB hba
  intro n28 h28;have e28:=h28.eq;have f28:=h28.le;conv=>cbv
  intro n29 h29;conv=>cbv
  cases n29 <;> conv=>cbv
  ·have k29:=Kz h29;intro n44 h44;have e44:=h44.eq;have f44:=h44.le;conv=>cbv
   intro n45 h45;conv=>cbv
   cases n45 <;> conv=>cbv
   ·have k45:=BR h45;have hm0:m.length≠0:=fun e=>by have e2:=List.eq_nil_of_length_eq_zero e;rw[hm] at e2;have:=GB.1 e2;omega
    obtain⟨n,hn⟩:∃n,n=m.length:=⟨_,rfl⟩
    have hn2:2<=n:=by omega
    intro n55 h55;have e55:=h55.eq;have f55:=h55.le;conv=>cbv
    intro n56 h56;conv=>cbv
    refine AQ ?_;obtain⟨x57,hx57⟩:=AS (l:=m) (i:=(n-1)) (by omega);refine⟨x57,fun _=>⟨by omega,by rw[show (n56).toNat=(n-1) by omega];exact hx57⟩,?_⟩;try conv=>cbv
    have hx57b:=hx57;rw[hm] at hx57b;have hx570:x57.toNat≠0:=MF hx57b (by rw[<-hm];omega);intro n58 h58;have e58:=h58.eq;have f58:=h58.lt;conv=>cbv
    obtain⟨s,hs⟩:∃s,s=32-Lib.bitLen x57.toNat:=⟨_,rfl⟩
    have hbl:=bitLen_spec (x:=x57.toNat) (by omega) hx570;obtain⟨r59,hr59⟩:∃n:Int,Ag n s:=⟨_,⟨rfl⟩⟩
    have er59:=hr59.eq;refine AB hE (bz (k:=x57.toNat) (Ag.of (by omega)) hx570 (by omega) (hs ▸ hr59)) ?_;conv=>cbv
    obtain⟨z62,hz621,hz622⟩:=KF (N:=AI l*2^s) (k:=l.length+1) (PL l);obtain⟨zn62,hzn62⟩:∃k,k=z62.length:=⟨_,rfl⟩
    refine AB hE (aE hr59 (by omega) hz621 hz622 hzn62 (by omega)) ?_;conv=>cbv
    obtain⟨z65,hz651,hz652⟩:=KF (N:=AI m*2^s) (k:=m.length+1) (PL m);refine AB hE (Dc (aE hr59 (by omega) hz651 hz652 rfl (by omega))) ?_;conv=>cbv
    obtain⟨w66,hw66⟩:=xU (AW (AI m*2^s));refine AB hE (Ff hz652 hw66) ?_;conv=>cbv
    obtain⟨hwl,hwV⟩:=aG (b:=b) (n:=n) (s:=s) (x:=x57) (k:=Lib.bitLen x57.toNat) (by rw[<-hm,hn]) (by omega) hx57b hbl.1 hbl.2.1 hbl.2.2.1 hbl.2.2.2 hs;have hV:AI w66=b*2^s:=by rw[hw66,BW,hm,BW]
    have hwn:w66.length=n:=by rw[hw66,hm,BW];exact hwl
    rw[<-hV] at hwV;intro n68 h68;have e68:=h68.eq;have f68:=h68.le;conv=>cbv
    intro n70 h70;have e70:=h70.eq;conv=>cbv
    intro n72 h72;conv=>cbv
    refine AQ ?_;refine⟨fun _=>⟨by omega,by omega,by show _*4<=140737488355328;omega⟩,?_⟩;intro k73 (l73:List UInt32) ql73;have hk73:=ql73.1;have hl73:l73=List.replicate k73 (0:el .u32):=ql73.2;have gl73:l73.length=k73:=by rw[hl73,List.length_replicate]
    conv=>cbv
    intro n76 h76;conv=>cbv
    refine AQ ?_;obtain⟨x77,hx77⟩:=AS (l:=w66) (i:=(n-1)) (by omega);refine⟨x77,fun _=>⟨by omega,by rw[show (n76).toNat=(n-1) by omega];exact hx77⟩,?_⟩;try conv=>cbv
    intro n78 h78;have e78:=h78.eq;have f78:=h78.lt;conv=>cbv
    intro n79 h79;conv=>cbv
    have h79:=wrap_u64 h79;intro n82 h82;conv=>cbv
    refine AQ ?_;obtain⟨x83,hx83⟩:=AS (l:=w66) (i:=(n-2)) (by omega);refine⟨x83,fun _=>⟨by omega,by rw[show (n82).toNat=(n-2) by omega];exact hx83⟩,?_⟩;try conv=>cbv
    intro n84 h84;have e84:=h84.eq;have f84:=h84.lt;conv=>cbv
    intro n85 h85;conv=>cbv
    have h85:=wrap_u64 h85;refine g2 rfl ?_;obtain⟨A,hA⟩:∃A,A=AI z62:=⟨_,rfl⟩
    obtain⟨high,hhigh⟩:∃k,k=x77.toNat:=⟨_,rfl⟩
    obtain⟨next,hnext⟩:∃k,k=x83.toNat:=⟨_,rfl⟩
    obtain⟨hVf,hVf2⟩:=nW hwn hx77 hx83 hn2;rw[<-hhigh,<-hnext] at hVf;rw[<-hhigh] at hVf2;have hV0:=Lh (l:=w66) (n:=n-2);have hV1:=Lh (l:=w66) (n:=n-1);have hhi:=iK hwV hVf2 hV1;have hstart:AI (z62.drop k73)<AI w66:=aj hz622 (by omega) hz621 (by omega) (by omega) hwV;have hwlt:=Cy w66;rw[hwn] at hwlt;have hVpos:0<AI w66:=by omega
    have hk73n:k73+n=l.length+1:=by omega
    have hzl:zn62=l.length+1/\z62.length=l.length+1:=by omega
    have hs31:s<=31:=by omega
    have e79:n79=(high:Int):=by omega
    have e85:n85=(next:Int):=by omega
    have hhl:high<4294967296:=by omega
    have hnl:next<4294967296:=by omega
    have hn68:n68=(n:Int):=by omega
    have hVpos:0<AI w66:=by omega
    have hk73n:k73+n=l.length+1:=by omega
    have hzl:zn62=l.length+1/\z62.length=l.length+1:=by omega
    have hs31:s<=31:=by omega
    have e79:n79=(high:Int):=by omega
    have e85:n85=(next:Int):=by omega
    have hhl:high<4294967296:=by omega
    have hnl:next<4294967296:=by omega
    have hn68:n68=(n:Int):=by omega
    have hVM:AI w66<=2^(32*(n+1)):=by rw[E3];omega
    intro n87 h87;have e87:=h87.eq;conv=>cbv
    intro n88 h88;conv=>cbv
    refine AQ ?_;refine .inr ?_
    obtain⟨J0,hJ0⟩:∃J:List AV->List AR->Nat->Prop,J=fun vs bl k=>∃(u q:List UInt32) (j':Nat) (i:Int),vs=[.one (.int .i64 r59),.one (.AZ .u32 62 0 0 zn62),.one (.sl .u32 w66),.one (.int .i64 n68),.one (.AZ .u32 73 0 0 k73),.one (.int .u64 n79),.one (.int .u64 n85),.one (.int .i64 i)]/\
     bl=[.arr 0 .u32 u,.arr 0 .u32 q]/\(u.length=z62.length/\q.length=k73/\Ag (i+1) j'/\j'<=k73)/\AI (u.drop j')<AI w66/\A=AI u+2^(32*j')*AI (q.drop j')*AI w66/\k=j':=⟨_,rfl⟩
    refine⟨[],[8,9,10,11,12,13,14,15],[62,73],J0,⟨k73,by rw[hJ0];exact⟨z62,l73,k73,n88,rfl,rfl,⟨rfl,by rw[hl73,List.length_replicate],⟨by omega⟩,by omega⟩,hstart,by rw[List.drop_eq_nil_of_le (by rw[hl73,List.length_replicate];omega)];simp[AI,hA],rfl⟩⟩,?_⟩;intro vs bl kk0 hj;rw[hJ0] at hj;obtain⟨u,q,j',i,rfl,rfl,⟨hul,hql,hi,hjl⟩,hlt,hinv,hk0⟩:=hj;conv=>cbv
    clear hr22 h23 k23 hba hml h28 e28 f28 h29 k29 h44 e44 f44 h45 k45 hm0 hn h55 e55 f55 h56 hx57 hx57b hx570 h58 e58 f58 hs hbl hz621 hzn62 hz651 hz652 hw66 hwl h68 e68 f68 h70 e70 h72 hk73 hl73 gl73 h76 hx77 h78 e78 f78 h79 h82 hx83 h84 e84 f84 h85 hhigh hnext hstart h87 e87 h88
    have ei:=hi.eq;intro n90 h90;conv=>cbv
    cases n90 <;> conv=>cbv
    ·have k90:=F0 h90;have hnl169:k73<=(q).length:=by omega
     obtain⟨m169,hm169⟩:=xN ((CR ((q).take k73)).length);obtain⟨hle169,htk169⟩:=FR hnl169 hm169;refine .inr (.inr (.inl ⟨[],.one (.AZ .u32 0 0 0 m169),.arr 0 .u32 q,fun _=>⟨by first | decide | simp[Ci,Co],trivial⟩,fun _=>⟨E7 hE (Ll hnl169 (by omega) hm169),rfl,rfl⟩,?_⟩));try conv=>cbv
     refine AM ?_;intro b172 hb172;conv=>cbv
     rintro o172 c172 ⟨ho172,hc172⟩;conv=>cbv
     have ho172:o172=0:=by omega
     subst ho172;have hnl173:c172<=u.length:=by omega
     obtain⟨m173,hm173⟩:=xN ((CR (u.take c172)).length);obtain⟨hle173,htk173⟩:=FR hnl173 hm173;refine .inr (.inr (.inl ⟨[],.one (.AZ .u32 0 0 0 m173),.arr 0 .u32 u,fun _=>⟨by first | decide | simp[Ci,Co],trivial⟩,fun _=>⟨E7 hE (Ll hnl173 (by omega) hm173),rfl,rfl⟩,?_⟩));try conv=>cbv
     have hl175:(u.take m173).length<=u.length:=by rw[List.length_take];omega
     obtain⟨z175,hz1751,hz1752⟩:=KF (N:=AI (u.take m173)/2^s) (k:=(u.take m173).length) (Nat.lt_of_le_of_lt (Nat.div_le_self _ _) (Cy _));refine .inr (.inl ⟨[.one (.sl .u32 ((u).take m173)),.one (.int .i64 r59)],.one (.sl .u32 z175),fun _=>⟨⟨_,rfl,by simp <;> omega,by simp⟩,rfl,trivial⟩,fun _=>HG hE (Dc (QC rfl (aF hr59 (by omega) hz1751 hz1752 rfl (by omega)))),?_⟩);try conv=>cbv
     obtain⟨w176,hw176⟩:=xU (AW (AI (u.take m173)/2^s));refine AB hE (Ff hz1752 hw176) ?_;conv=>cbv
     refine g2 rfl ?_;have hj0:j'=0:=by omega
     rw[hj0,List.drop_zero] at hlt;have hinv2:A=AI u+AI q*AI w66:=by rw[hj0] at hinv;simpa using hinv
     have hA2:A=a*2^s:=by rw[hA,hz622,hl,BW]
     obtain⟨e1,e2⟩:=Wy hA2 hV hinv2 hlt hb;have hcn:c172=n:=by omega
     have hun:AI (u.take c172)=AI u:=by rw[hcn];have h1:=Gj u n (by omega);rw[RE (by omega) (by omega)] at h1;omega
     have hum:AI (u.take m173)=AI u:=by rw[htk173,BW,hun]
     exact AF ⟨⟨rfl,.inl ⟨_,rfl,by omega,congrArg _ (by rw[List.drop_zero,htk169,<-hql,List.take_length,e1,hz1])⟩,trivial⟩,⟨rfl,congrArg _ (by rw[hz2,hw176,hum,e2]),trivial⟩,trivial⟩
    have k90:=F1 h90;refine .inr ?_;obtain⟨i',rfl⟩:∃i',j'=i'+1:=⟨j'-1,by omega⟩
    intro n96 h96;conv=>cbv
    refine AQ ?_;refine AM ?_;intro j97 hj97;conv=>cbv
    obtain⟨x98,hx98⟩:=AS (l:=u) (i:=j97) (by omega);refine⟨x98,fun _=>hx98,?_⟩;try conv=>cbv
    intro n98 h98;have e98:=h98.eq;have f98:=h98.lt;conv=>cbv
    intro n99 h99;conv=>cbv
    have h99:=wrap_u64 h99;intro n100 h100;conv=>cbv
    refine AM ?_;have h100:=KN (p:=4294967296) h100 rfl;intro n104 h104;conv=>cbv
    refine AQ ?_;intro n105 h105;conv=>cbv
    refine AQ ?_;refine AM ?_;intro j106 hj106;conv=>cbv
    obtain⟨x107,hx107⟩:=AS (l:=u) (i:=j106) (by omega);refine⟨x107,fun _=>hx107,?_⟩;try conv=>cbv
    intro n107 h107;have e107:=h107.eq;have f107:=h107.lt;conv=>cbv
    intro n108 h108;conv=>cbv
    have h108:=wrap_u64 h108;intro n109 h109;conv=>cbv
    have h109:=KE (p:=x98.toNat) (q:=x107.toNat) h109 (by omega) (by omega) (by omega) (by omega);refine g2 rfl ?_;obtain⟨x130y,hy130⟩:=AS (l:=u) (i:=i'+n-2) (by omega);obtain⟨u3,hu3⟩:∃k,k=x130y.toNat:=⟨_,rfl⟩
    obtain⟨R,hRd⟩:∃R,R=AI (u.drop i'):=⟨_,rfl⟩
    obtain⟨top,htop⟩:∃t,t=x107.toNat+4294967296*x98.toNat:=⟨_,rfl⟩
    have h0:AI (u.drop (i'+n+1))=0:=by have:=RE (l:=u.drop (i'+1)) (n:=n) (by omega) (by rw[List.length_drop];omega);rwa [List.drop_drop,show i'+1+n=i'+n+1 by omega] at this
    have hx97:u[i'+n]? =some x98:=by rw[<-hx98];congr 1;omega
    have hx106:u[i'+n-1]? =some x107:=by rw[<-hx107];congr 1;omega
    have hRf:=nX hx97 hx106 hy130 hn2 h0;have hRf2:=nY hx97 hx106 (by omega) h0;rw[<-htop,<-hu3,<-hRd] at hRf;rw[<-htop,<-hRd] at hRf2;have hR0:=Lh (l:=u.drop i') (n:=n-2);have hR1:=Lh (l:=u.drop i') (n:=n-1);have hRV:R<4294967296*AI w66:=by obtain⟨xi,hxi⟩:=AS (l:=u) (i:=i') (by omega);rw[hRd,EP hxi];have:=xi.toNat_lt;omega
    have hRM:R<2^(32*(n+1)):=by rw[E3];omega
    have htl:=nV hRf2 hVf2 hV1 hRV;have hg0:=iH hRf2 hR1 hVf2 hhi (by omega) htl;have hqw:R/AI w66<4294967296:=(Nat.div_lt_iff_lt_mul hVpos).2 hRV;have hbig:top<18446744073709551616:=by have:=x107.toNat_lt;have:=x98.toNat_lt;omega
    intro n112 h112;conv=>cbv
    refine AM ?_;have h112:=wrap_u64 h112;have e112:n112=((top/high:Nat):Int):=by rw[h112,h109,e79,<-htop,<-Int.natCast_ediv];have:=Nat.div_le_self top high;generalize top/high=Q at *;omega
    intro n115 h115;conv=>cbv
    refine AM ?_;have e115:n115=((top%high:Nat):Int):=by rw[h115,h109,e79,<-htop];exact (Int.natCast_emod _ _).symm
    refine g2 rfl ?_;obtain⟨K3,hK3⟩:=xK fun vs bl=>∃(Dd:Nat) (d:Int),vs=[.one (.int .i64 r59),.one (.AZ .u32 62 0 0 zn62),.one (.sl .u32 w66),.one (.int .i64 n68),.one (.AZ .u32 73 0 0 k73),.one (.int .u64 n79),.one (.int .u64 n85),.one (.int .i64 i),.one (.int .u64 d)]/\bl=[.arr 0 .u32 u,.arr 0 .u32 q]/\Ag d Dd/\Lq R (AI w66) Dd
    refine .inl ⟨[8,9,10,11,12,13,14,15,17],[62,73],K3,?_,?_⟩
    ·intro vs bl hj;rw[hK3] at hj;obtain⟨Dd,d,rfl,rfl,hDd,hnear⟩:=hj;conv=>cbv
     clear k90 h96 hj97 hx98 h98 e98 f98 h99 h100 h104 h105 hj106 hx107 h107 e107 f107 h108 h109 hy130 hu3 htop hx97 hx106 hRf hRf2 hR0 hR1 hRV htl hg0 hbig h112 e112 h115 e115
     have eDd:=hDd.eq;intro n146 h146;conv=>cbv
     refine AQ ?_;intro n147 h147;conv=>cbv
     refine AQ ?_;refine⟨fun _=>⟨by omega,by omega,by omega⟩,?_⟩;rintro a148 b148 ⟨ha148,hb148⟩;conv=>cbv
     rintro o148 c148 ⟨ho148,hc148⟩;conv=>cbv
     have hDw:=hnear.word;have hseg:AI ((u.drop i').take (n+1))=R:=by rw[hRd];exact Z5 (by omega) h0
     obtain⟨b151,S151,hS151,hSl151⟩:=nK (M:=2^(32*(n+1))) hnear hVpos hRM hVM;have ho148:i'=o148:=by omega
     have hc148:n+1=c148:=by omega
     subst ho148 hc148;obtain⟨z151,hz1511,hz1512,hz1513,hz1514⟩:=Z4 (u:=u) (off:=i') (len:=n+1) hSl151 (by omega);refine .inr (.inr (.inl ⟨[.one (.sl .u32 w66),.one (.int .u64 d)],.one (.bool b151),.arr 0 .u32 z151,fun _=>⟨by first | decide | simp[Ci,Co],t2⟩,fun _=>⟨E7 hE (nM (d:=Dd) (by omega) (by omega) hDd hnear.word (by omega) hz1511 hz1512 hz1513 (by rw[hz1514,hseg];exact hS151)),rfl,rfl⟩,?_⟩));try conv=>cbv
     obtain⟨J151,hJ151⟩:=xK fun vs bl=>∃(z:List UInt32) (q0:Nat) (d:Int),vs=[.one (.int .i64 r59),.one (.AZ .u32 62 0 0 zn62),.one (.sl .u32 w66),.one (.int .i64 n68),.one (.AZ .u32 73 0 0 k73),.one (.int .u64 n79),.one (.int .u64 n85),.one (.int .i64 i),.one (.int .u64 d)]/\bl=[.arr 0 .u32 z,.arr 0 .u32 q]/\Ag d q0/\(q0=R/AI w66/\q0<4294967296)/\(z.length=u.length/\z.take i'=u.take i'/\z.drop (i'+(n+1))=u.drop (i'+(n+1)))/\AI ((z.drop i').take (n+1))=R%AI w66
     refine .inl ⟨[8,9,10,11,12,13,14,15,17],[62,73],J151,?_,?_⟩
     ·intro vs bl hj;rw[hJ151] at hj;obtain⟨z,q0,d,rfl,rfl,hq0,⟨hqR,hqlt⟩,⟨hzl1,hzt,hzd⟩,hzv⟩:=hj;conv=>cbv
      have eq0:=hq0.eq;intro n166 h166;conv=>cbv
      have h166:=wrap_u32 h166;refine AM ?_;intro j167 hj167;conv=>cbv
      obtain⟨w167,hw167⟩:=CU (n:=n166) (by omega);have ew167:=hw167.eq;have fw167:=hw167.lt;refine⟨w167,fun _=>⟨by show _<List.length (α:=UInt32) q;(first | omega | (simp;omega)),CT hw167⟩,?_⟩;intro (l167:List UInt32) (hl167:l167=List.set (α:=UInt32) q j167 w167);have gl167:l167.length=q.length:=by rw[hl167,List.length_set]
      conv=>cbv
      intro n92 h92;conv=>cbv
      refine AQ ?_;refine⟨i',?_,?_⟩
      ·omega
      rw[hJ0];have hwq:w167.toNat=R/AI w66:=by rw[<-hqR];omega
      obtain⟨g1,g2⟩:=Zo (u:=u) (z:=z) (A:=A) (V:=AI w66) (i:=i') (n:=n) (Q:=AI (q.drop (i'+1))) (q:=w167.toNat) hzl1 hzt hzd (by omega) h0 (by rw[hwq,hRd]) (by rw[hzv,hRd]) hinv;refine⟨z,l167,i',n92,rfl,rfl,⟨by omega,by omega,⟨by omega⟩,by omega⟩,?_,?_,rfl⟩
      ·rw[g1];exact Nat.mod_lt _ hVpos
      rw[hl167,show j167=i' by omega,EP (l:=q.set i' w167) (i:=i') (x:=w167) (by rw[List.getElem?_set_self (by omega)]),List.drop_set_of_lt (by omega)];exact g2
     cases b151 <;> conv=>cbv
     ·rw[hJ151];obtain⟨e1,e2⟩:=(YY hnear hVpos hS151 hSl151).1 rfl;exact⟨z151,Dd,_,rfl,rfl,hDd,⟨e1,hDw⟩,⟨hz1511,hz1512,hz1513⟩,by rw[hz1514,e2]⟩
     intro n153 h153;conv=>cbv
     have h153:=wrap_u64 h153;intro n158 h158;conv=>cbv
     refine AQ ?_;intro n159 h159;conv=>cbv
     refine AQ ?_;refine⟨fun _=>⟨by omega,by omega,by omega⟩,?_⟩;rintro a160 b160 ⟨ha160,hb160⟩;conv=>cbv
     rintro o160 c160 ⟨ho160,hc160⟩;conv=>cbv
     have ho160:i'=o160:=by omega
     have hc160:n+1=c160:=by omega
     subst ho160 hc160;obtain⟨z162,hz1621,hz1622,hz1623,hz1624⟩:=Z4 (u:=z151) (off:=i') (len:=n+1) (S:=(S151+AI w66)%2^(32*(n+1))) (Nat.mod_lt _ (Nat.two_pow_pos _)) (by omega);refine .inr (.inr (.inl ⟨[.one (.sl .u32 w66)],.AG [],.arr 0 .u32 z162,fun _=>⟨by first | decide | simp[Ci,Co],t1⟩,fun _=>⟨E7 hE (lv (by omega) (by omega) (by omega) hz1621 hz1622 hz1623 (by rw[hz1624,hz1514])),rfl,rfl⟩,?_⟩));try conv=>cbv
     rw[hJ151];obtain⟨e1,e2,e3⟩:=(YY hnear hVpos hS151 hSl151).2 rfl;exact⟨z162,Dd-1,_,rfl,rfl,⟨by omega⟩,⟨e1,by omega⟩,⟨hz1621.trans hz1511,hz1622.trans hz1512,hz1623.trans hz1513⟩,by rw[hz1624,e3 (Nat.lt_of_le_of_lt (Nat.mod_le _ _) hRM)]⟩
    obtain⟨J1,hJ1⟩:∃J:List AV->List AR->Nat->Prop,J=fun vs bl k=>∃(D r':Nat) (d r:Int),vs=[.one (.int .i64 r59),.one (.AZ .u32 62 0 0 zn62),.one (.sl .u32 w66),.one (.int .i64 n68),.one (.AZ .u32 73 0 0 k73),.one (.int .u64 n79),.one (.int .u64 n85),.one (.int .i64 i),.one (.int .u64 d),.one (.int .u64 r)]/\
     bl=[.arr 0 .u32 u,.arr 0 .u32 q]/\(Ag d D/\Ag r r')/\I0 R (AI w66) top high D r'/\k=D:=⟨_,rfl⟩
    refine⟨[],[8,9,10,11,12,13,14,15,17,18],[62,73],J1,⟨top/high,by rw[hJ1];exact⟨top/high,top%high,n112,n115,rfl,rfl,⟨⟨e112⟩,⟨e115⟩⟩,hg0,rfl⟩⟩,?_⟩;intro vs bl kk1 hj;rw[hJ1] at hj;obtain⟨D,r',d,r,rfl,rfl,⟨hd,hr⟩,hg,hk1⟩:=hj;conv=>cbv
    clear k90 h96 hj97 hx98 h98 e98 f98 h99 h100 h104 h105 hj106 hx107 h107 e107 f107 h108 h109 h112 e112 h115 e115
    have ed:=hd.eq;have er:=hr.eq;intro n117 h117;conv=>cbv
    cases n117 <;> conv=>cbv
    ·have k117:=F0 h117;intro n121 h121;conv=>cbv
     have h121:=wrap_u64 h121;obtain⟨p121,hp121,h121⟩:∃p:Nat,p=D*next/\n121=p:=⟨_,rfl,by rw[h121,ed,e85,<-Int.natCast_mul];have:=Nat.mul_le_mul (by omega:D<=4294967295) (by omega:next<=4294967295);omega⟩
     intro n123 h123;conv=>cbv
     refine AM ?_;have h123:=KN (p:=4294967296) h123 rfl;intro n127 h127;conv=>cbv
     refine AQ ?_;intro n128 h128;conv=>cbv
     refine AQ ?_;refine AM ?_;intro j129 hj129;conv=>cbv
     obtain⟨x130,hx130⟩:=AS (l:=u) (i:=j129) (by omega);refine⟨x130,fun _=>hx130,?_⟩;try conv=>cbv
     intro n130 h130;have e130:=h130.eq;have f130:=h130.lt;conv=>cbv
     intro n131 h131;conv=>cbv
     have h131:=wrap_u64 h131;intro n132 h132;conv=>cbv
     have x130e:x130=x130y:=by rw[show j129=i'+n-2 by omega,hy130] at hx130;exact (Option.some.inj hx130).symm
     have hrr:=hg.rest;have h132:=KE (p:=r') (q:=x130.toNat) h132 (by omega) (by omega) hrr (by omega);rw[x130e,<-hu3] at h132;intro n133 h133;conv=>cbv
     cases n133 <;> conv=>cbv
     ·have k133:=Cc h133;rw[hK3]
      first
       | exact⟨D-1,_,rfl,rfl,⟨e136⟩,SB hg hq1 hDp hRf hVf hV0 hhi (by omega) htl⟩
       | exact⟨D,_,rfl,rfl,hd,SC hg hRf hVf hV0 hhi (by omega)⟩
     have k133:=Cd h133;refine .inr ?_;have hgm:=hg.Oj;have hgr:=hg.rest;have hq1:R/AI w66<=D-1:=by first | exact XX hg hqw | exact XY hg hRf hR0 hVf (by omega)
     have hDp:0<D:=by first | omega | (apply Nat.pos_of_ne_zero;intro e;rw[e,Nat.zero_mul] at hp121;omega)
     intro n136 h136;conv=>cbv
     have h136:=wrap_u64 h136;have e136:n136=((D-1:Nat):Int):=by omega
     intro n139 h139;conv=>cbv
     have h139:=wrap_u64 h139;have e139:n139=((r'+high:Nat):Int):=by omega
     intro n141 h141;conv=>cbv
     cases n141 <;> conv=>cbv
     ·have k141:=F0 h141;refine⟨D-1,?_,?_⟩
      ·omega
      rw[hJ1];exact⟨D-1,r'+high,n136,n139,rfl,rfl,⟨⟨e136⟩,⟨e139⟩⟩,XZ hg hq1 hDp (by omega),rfl⟩
     have k141:=F1 h141;rw[hK3]
     first
      | exact⟨D-1,_,rfl,rfl,⟨e136⟩,SB hg hq1 hDp hRf hVf hV0 hhi (by omega) htl⟩
      | exact⟨D,_,rfl,rfl,hd,SC hg hRf hVf hV0 hhi (by omega)⟩
    have k117:=F1 h117;refine .inr ?_;have hgm:=hg.Oj;have hgr:=hg.rest;have hq1:R/AI w66<=D-1:=by first | exact XX hg hqw | exact XY hg hRf hR0 hVf (by omega)
    have hDp:0<D:=by first | omega | (apply Nat.pos_of_ne_zero;intro e;rw[e,Nat.zero_mul] at hp121;omega)
    intro n136 h136;conv=>cbv
    have h136:=wrap_u64 h136;have e136:n136=((D-1:Nat):Int):=by omega
    intro n139 h139;conv=>cbv
    have h139:=wrap_u64 h139;have e139:n139=((r'+high:Nat):Int):=by omega
    intro n141 h141;conv=>cbv
    cases n141 <;> conv=>cbv
    ·have k141:=F0 h141;refine⟨D-1,?_,?_⟩
     ·omega
     rw[hJ1];exact⟨D-1,r'+high,n136,n139,rfl,rfl,⟨⟨e136⟩,⟨e139⟩⟩,XZ hg hq1 hDp (by omega),rfl⟩
    have k141:=F1 h141;rw[hK3]
    first
     | exact⟨D-1,_,rfl,rfl,⟨e136⟩,SB hg hq1 hDp hRf hVf hV0 hhi (by omega) htl⟩
     | exact⟨D,_,rfl,rfl,hd,SC hg hRf hVf hV0 hhi (by omega)⟩
   have k45:=BS h45;obtain⟨x48,hx48⟩:=AS (l:=m) (i:=0) (by omega);refine⟨x48,fun _=>⟨by omega,hx48⟩,?_⟩;try conv=>cbv
   intro n49 h49;have e49:=h49.eq;have f49:=h49.lt;conv=>cbv
   have hb48:b=x48.toNat:=by have:=Cq hx48;rw[show 0+1=m.length by omega,List.take_length,hm,BW] at this;simpa [AI] using this
   obtain⟨w50,hw50⟩:=xU (AW (AI l/b));obtain⟨v50,hv50⟩:=xU (AW (AI l%b));refine AB hE (gY (d:=n49) (b:=b) (Ag.of (by omega)) hb (by omega) hw50 hv50 (by omega)) ?_;conv=>cbv
   exact AF ⟨⟨rfl,congrArg _ (by rw[hz1,hw50,hl,BW]),trivial⟩,⟨rfl,congrArg _ (by rw[hz2,hv50,hl,BW]),trivial⟩,trivial⟩
  have k29:=K4 h29;obtain⟨r31,hr31⟩:∃n:Int,Ag n (a):=⟨_,⟨rfl⟩⟩
  have er31:=hr31.eq;refine AB (r:= .one (.int .u64 r31)) hE (PR (by rw[hl,BW]) (by omega) hr31) ?_;conv=>cbv
  obtain⟨r33,hr33⟩:∃n:Int,Ag n (b):=⟨_,⟨rfl⟩⟩
  have er33:=hr33.eq;refine AB (r:= .one (.int .u64 r33)) hE (PR (by rw[hm,BW]) (by omega) hr33) ?_;conv=>cbv
  have ha64:a<18446744073709551616:=by have:=Cy l;rw[hl,BW] at this;exact Nat.lt_of_lt_of_le this (Nat.pow_le_pow_right (by decide) (by rw[<-hl];omega:32*(AW a).length<=64))
  intro n36 h36;conv=>cbv
  refine AM ?_;have h36:=wrap_u64 h36;have bq:=Nat.div_le_self a b;have h36:n36=((a/b:Nat):Int):=by rw[h36,er31,er33,<-Int.natCast_ediv];generalize a/b=Q at *;omega
  obtain⟨w37,hw37⟩:=xU (AW (a/b));refine AB (r:= .one (.sl .u32 w37)) hE (Kr (Ag.of (k:=a/b) h36) (by generalize a/b=Q at *;omega) hw37) ?_;try conv=>cbv
  intro n40 h40;conv=>cbv
  refine AM ?_;have br:=Nat.mod_lt a hb;have h40:n40=((a%b:Nat):Int):=by rw[h40,er31,er33];exact (Int.natCast_emod _ _).symm
  obtain⟨w41,hw41⟩:=xU (AW (a%b));refine AB (r:= .one (.sl .u32 w41)) hE (Kr (Ag.of (k:=a%b) h40) (by generalize a%b=Q at *;omega) hw41) ?_;try conv=>cbv
  refine g2 rfl ?_;exact AF ⟨⟨rfl,congrArg _ (by rw[hz1,hw37]),trivial⟩,⟨rfl,congrArg _ (by rw[hz2,hw41]),trivial⟩,trivial⟩
 have k23:=BL h23;obtain⟨w25,hw25⟩:=xU l;refine AB hE (KV hw25 (by omega)) ?_;conv=>cbv
 have hlt:a<b:=by rw[hr22] at k23;have:=JD k23;omega
 exact AF ⟨⟨rfl,.inr (.inl ⟨_,congrArg _ (by rw[hz1,Nat.div_eq_of_lt hlt];rfl)⟩),trivial⟩,⟨rfl,congrArg _ (by rw[hz2,Nat.mod_eq_of_lt hlt,hw25,hl]),trivial⟩,trivial⟩
end Go.Abs
namespace Go.Abs
open Go.RowKit
variable {c:Int} {k n:Nat} {l z:List UInt32}
theorem iI {a:Nat} (i:l=AW a) (j:z=AW (a/2)) (sl:l.length<=17592186044416):CF 396 [.one (.sl .u32 l)] (.one (.sl .u32 z)):=by
 refine AO Tryz.func396 fun E h=>?_
 conv=>cbv
 obtain⟨z4,g,d⟩:=KF (N:=AI l/2^1) (k:=l.length) (Nat.lt_of_le_of_lt (Nat.div_le_self _ _) (Cy _));refine AB h (Dc (aF (n:=1) ⟨rfl⟩ (by omega) g d rfl sl)) ?_;conv=>cbv
 obtain⟨m,f⟩:=xU (AW (AI l/2^1));refine AB h (Ff d f) ?_;conv=>cbv
 exact AF ⟨⟨rfl,congrArg _ (by rw[j,f,i,BW]),trivial⟩,trivial⟩
def DF (n:Nat):Nat:=if n=0 then 0 else Nat.log2 n+1
theorem kG (f:2^k<=n) (g:n<2^(k+1)):DF n=k+1:=by
 have d:n≠0:=by have:=Nat.two_pow_pos k;omega
 unfold DF;rw[if_neg d];have a:k<=Nat.log2 n:=(Nat.le_log2 d).2 f;have b:Nat.log2 n<k+1:=(Nat.log2_lt d).2 g;omega
theorem QW {i:Nat} {x:UInt32} (h:(AW n)[i]? =some x) (g:i+1=(AW n).length) (a:2^(k-1)<=x.toNat) (f:x.toNat<2^k) (o:1<=k):DF n=32*i+k:=by
 have h3:=Cq h;rw[g,List.take_length,BW] at h3;have m:=Lh (l:=AW n) (n:=i);obtain⟨j,rfl⟩:∃j,k=j+1:=⟨k-1,by omega⟩
 simp only[Nat.add_sub_cancel] at a;have d:2^(32*i+j)=2^(32*i)*2^j:=Nat.pow_add _ _ _;have e2:2^(32*i+j+1)=2^(32*i)*2^(j+1):=by rw[<-Nat.pow_add,Nat.add_assoc]
 refine kG (k:=32*i+j) ?_ ?_
 ·rw[d,h3];have:=Nat.mul_le_mul_left (2^(32*i)) a;omega
 rw[e2,h3];have:=Nat.mul_le_mul_left (2^(32*i)) (show x.toNat+1<=2^(j+1) from f);rw[Nat.mul_add] at this;omega
theorem bZ {x:Int} {b:Bool} (o:BH x b l) (hc:Ag c (DF x.natAbs)) (sl:l.length<=17592186044416):CF 394 [.agg (Bi b l)] (.one (.int .i64 c)):=by
 refine AO Tryz.func394 fun E w=>?_
 conv=>cbv
 obtain⟨q,m⟩:=xU (AW (AI l));refine AB w (Ff rfl m) ?_;conv=>cbv
 have t6:q=l:=by rw[m];exact o.trim
 have R:q.length=l.length:=by rw[t6]
 rintro T ⟨S,f8⟩;conv=>cbv
 intro P v;conv=>cbv
 cases P <;> conv=>cbv
 ·have I:=BR v;rintro J ⟨A,f11⟩;conv=>cbv
  intro K D;conv=>cbv
  refine AQ ?_;intro L F;conv=>cbv
  refine AQ ?_;rintro M ⟨B,f16⟩;conv=>cbv
  intro t G;conv=>cbv
  refine AQ ?_;obtain⟨h,f⟩:=AS (l:=q) (i:=(q.length-1)) (by omega);refine⟨h,fun _=>⟨by omega,by rw[show (t).toNat=(q.length-1) by omega];exact f⟩,?_⟩;try conv=>cbv
  have a:=f;rw[t6,o.Bj] at a;have p:(AW x.natAbs).length-1+1=(AW x.natAbs).length:=by rw[<-o.Bj,<-t6];omega
  have g:=MF a p;intro N j;have r:=j.eq;have f19:=j.lt;conv=>cbv
  obtain⟨Q,d⟩:∃n:Int,Ag n (Lib.bitLen h.toNat):=⟨_,⟨rfl⟩⟩
  have u:=d.eq;refine AB w (Un ⟨r⟩ f19 d) ?_;conv=>cbv
  have hb:=bitLen_spec (x:=h.toNat) f19 g;have s:=QW a p hb.1 hb.2.1 hb.2.2.1;intro O H;conv=>cbv
  refine AQ ?_;exact AF ⟨⟨rfl,congrArg _ (by rw[hc.eq,s,<-o.Bj,<-t6];omega),trivial⟩,trivial⟩
 have I:=BS v;exact AF ⟨⟨rfl,congrArg _ (by rw[hc.eq];have C:x=0:=o.GU.1 (by rw[<-t6];omega);rw[C];rfl),trivial⟩,trivial⟩
theorem mP (hc:Ag c n) (U:n<=1125899906000000) (N:z=AW (2^n)):CF 395 [.one (.int .i64 c)] (.one (.sl .u32 z)):=by
 have Q:=hc.eq;refine AO Tryz.func395 fun E T=>?_
 conv=>cbv
 intro V R;conv=>cbv
 refine g2 ⟨by omega,by omega,i64 (by omega)⟩ ?_;intro W S;conv=>cbv
 refine AQ ?_;refine⟨fun _=>⟨by omega,by omega,by show _*4<=140737488355328;omega⟩,?_⟩;intro v (j:List UInt32) u;have M:=u.1;have f:j=List.replicate v (0:el .u32):=u.2;have H:j.length=v:=by rw[f,List.length_replicate]
 conv=>cbv
 intro O J;conv=>cbv
 refine g2 ⟨by omega,by omega,i64 (by omega)⟩ ?_;intro P K;conv=>cbv
 refine AM ?_;intro s m;conv=>cbv
 refine AM ?_;obtain⟨t,i,m⟩:∃q:Nat,q=2^(n%32)/\s=q:=⟨_,rfl,by have:=TV (p:=1) (e:=n%32) m rfl (by omega);rw[this,Nat.one_mul];congr 1;exact Nat.mod_eq_of_lt (Nat.lt_of_le_of_lt (Nat.pow_le_pow_right (by decide) (by omega:n%32<=31)) (by decide))⟩
 have D:t<4294967296:=by rw[i];exact Nat.lt_of_le_of_lt (Nat.pow_le_pow_right (by decide) (by omega:n%32<=31)) (by decide)
 refine AM ?_;intro r F;conv=>cbv
 obtain⟨h,g⟩:=CU (n:=s) (by omega);have A:=g.eq;have B:=g.lt;refine⟨h,fun _=>⟨by show _<List.length (α:=UInt32) j;(first | omega | (simp;omega)),CT g⟩,?_⟩;intro (a:List UInt32) (d:a=List.set (α:=UInt32) j r h);have C:a.length=j.length:=by rw[d,List.length_set]
 conv=>cbv
 have L:v=n/32+1:=by omega
 have G:AI a=2^n:=by
  have I:j[n/32]? =some 0:=by rw[f,List.getElem?_replicate,if_pos (by omega)]
  have:=SA (w:=h) I;rw[d,show r=n/32 by omega];rw[f,Ij] at this;rw[f];have e:2^n=2^(32*(n/32))*2^(n%32):=by rw[<-Nat.pow_add];congr 1;omega
  rw[e,<-i,show t=h.toNat by omega];simpa using this
 have hlen:a.length=n/32+1:=by rw[d,List.length_set,f,List.length_replicate,L]
 have o:AW (AI a)=a:=Rh (.inr (by rw[G,hlen];exact Nat.pow_le_pow_right (by decide) (by omega)));exact AF ⟨⟨rfl,.inl ⟨_,rfl,by omega,congrArg _ (by rw[N,<-G,o,List.drop_zero,List.take_of_length_le (by omega)])⟩,trivial⟩,trivial⟩
end Go.Abs
namespace Go.Abs
open Go.RowKit
variable {b b1 b2 b3:Bool} {l l1 l2 l3:List UInt32} {x y:Int}
theorem bj {b4:Bool} {l4:List UInt32} (O:BH x b1 l1) (M:BH y b2 l2) (s:y≠0) (H:BH (Cb x y) b3 l3) (I:BH (HW x y) b4 l4) (s1:l1.length<=17592186043000) (s2:l2.length<=17592186043000):CF 378 [.agg (Bi b1 l1),.agg (Bi b2 l2)] (.AG [(true,(Bi b3 l3)),(true,(Bi b4 l4)),(false,[.int .i64 0])]):=by
 refine AO Tryz.func378 fun E v=>?_
 conv=>cbv
 obtain⟨W,B⟩:=xU (AW (AI l2));refine AB v (Ff rfl B) ?_;conv=>cbv
 have t12:W=l2:=by rw[B];exact M.trim
 rintro a6 ⟨a1,f14⟩;conv=>cbv
 intro S J;conv=>cbv
 cases S <;> conv=>cbv
 ·have Q:=BR J;obtain⟨X,C⟩:=xU (AW (AI l1));refine AB v (Ff rfl C) ?_;conv=>cbv
  have t21:X=l1:=by rw[C];exact O.trim
  obtain⟨N,i⟩:=xU (AW (x.natAbs/y.natAbs));obtain⟨V,f⟩:=xU (AW (x.natAbs%y.natAbs));refine AB (r:= .AG [(false,[.sl .u32 N]),(false,[.sl .u32 V])]) v (OB (t21.trans O.Bj) (t12.trans M.Bj) (by omega) i f (by rw[t21];omega)) ?_;try conv=>cbv
  have P:0<y.natAbs:=by omega
  have a2:=Nat.div_add_mod x.natAbs y.natAbs;have a5:=Nat.mod_lt x.natAbs P;have t:=O.neg;have h:=M.neg;intro T K;conv=>cbv
  cases T <;> conv=>cbv
  ·have g:=WH K;refine .inr ?_;intro A u;conv=>cbv
   obtain⟨j,o,a⟩:=BE (Cb x y);refine AB (r:= .agg [.bool j,.sl .u32 o]) v (F4 (by rw[i,BW,u,g,Wt s (by rw[<-t,<-h];exact g)];simp) a) ?_;try conv=>cbv
   obtain⟨m,p,d⟩:=BE (HW x y);refine AB (r:= .agg [.bool m,.sl .u32 p]) v (F4 (by rw[f,BW];exact jz h s (by rw[<-t,<-h];exact g)) d) ?_;try conv=>cbv
   refine g2 rfl ?_;exact AF ⟨⟨rfl,congrArg _ ((a.uniq H rfl).1.symm),congrArg _ ((a.uniq H rfl).2.symm),trivial⟩,⟨rfl,congrArg _ ((d.uniq I rfl).1.symm),congrArg _ ((d.uniq I rfl).2.symm),trivial⟩,t2,trivial⟩
  have g:=WI K;rintro a7 ⟨w,f33⟩;conv=>cbv
  intro U L;conv=>cbv
  refine .inr ?_;cases U <;> conv=>cbv
  ·have R:=Cc L;intro A u;conv=>cbv
   obtain⟨j,o,a⟩:=BE (Cb x y);refine AB (r:= .agg [.bool j,.sl .u32 o]) v (F4 (by have q:decide (x<0)≠decide (y<0):=(by rw[<-t,<-h];exact g);have G:A=true:=(by rw[u];simpa using g);rw[i,BW,G,if_pos rfl];exact Wq s q (GB.1 (by rw[<-f];exact List.eq_nil_of_length_eq_zero (by omega)))) a) ?_;try conv=>cbv
   obtain⟨m,p,d⟩:=BE (HW x y);refine AB (r:= .agg [.bool m,.sl .u32 p]) v (F4 (by have q:decide (x<0)≠decide (y<0):=(by rw[<-t,<-h];exact g);rw[f,BW];exact jx s q (GB.1 (by rw[<-f];exact List.eq_nil_of_length_eq_zero (by omega)))) d) ?_;try conv=>cbv
   refine g2 rfl ?_;exact AF ⟨⟨rfl,congrArg _ ((a.uniq H rfl).1.symm),congrArg _ ((a.uniq H rfl).2.symm),trivial⟩,⟨rfl,congrArg _ ((d.uniq I rfl).1.symm),congrArg _ ((d.uniq I rfl).2.symm),trivial⟩,t2,trivial⟩
  have R:=Cd L;refine⟨[(1:UInt32)],fun _=>⟨rfl,by decide,rfl,⟨rfl,t1,trivial⟩⟩,.inl ?_⟩;try conv=>cbv
  obtain⟨Y,D⟩:=xU (AW (x.natAbs/y.natAbs+1));refine .inr (.inl ⟨[.one (.sl .u32 N),.one (.sl .u32 [(1:UInt32)])],.one (.sl .u32 Y),fun _=>⟨rfl,⟨_,rfl,by simp <;> omega,by simp⟩,trivial⟩,fun _=>HG v (Dc (QC rfl (ZA i (rfl:[(1:UInt32)]=AW 1) D rfl (by rw[i];have h1:=FB (Nat.div_le_self x.natAbs y.natAbs);rw[<-O.Bj] at h1;omega) (by decide)))),?_⟩);try conv=>cbv
  obtain⟨Z,F⟩:=xU (AW (y.natAbs-x.natAbs%y.natAbs));refine AB (r:= .one (.sl .u32 Z)) v (Rx (t12.trans M.Bj) f F (Nat.le_of_lt (Nat.mod_lt _ (by omega))) (by rw[t12];omega)) ?_;try conv=>cbv
  intro A u;conv=>cbv
  obtain⟨j,o,a⟩:=BE (Cb x y);refine AB (r:= .agg [.bool j,.sl .u32 o]) v (F4 (by have q:decide (x<0)≠decide (y<0):=(by rw[<-t,<-h];exact g);have G:A=true:=(by rw[u];simpa using g);rw[D,BW,G,if_pos rfl];exact Wr s q (fun e=>by rw[e,Gx] at f;rw[f] at w;simp at w;omega)) a) ?_;try conv=>cbv
  obtain⟨m,p,d⟩:=BE (HW x y);refine AB (r:= .agg [.bool m,.sl .u32 p]) v (F4 (by have q:decide (x<0)≠decide (y<0):=(by rw[<-t,<-h];exact g);rw[F,BW];exact jy h s q (fun e=>by rw[e,Gx] at f;rw[f] at w;simp at w;omega)) d) ?_;try conv=>cbv
  refine g2 rfl ?_;exact AF ⟨⟨rfl,congrArg _ ((a.uniq H rfl).1.symm),congrArg _ ((a.uniq H rfl).2.symm),trivial⟩,⟨rfl,congrArg _ ((d.uniq I rfl).1.symm),congrArg _ ((d.uniq I rfl).2.symm),trivial⟩,t2,trivial⟩
 have Q:=BS J
 exfalso;exact s (M.GU.1 (by rw[<-t12];omega))
theorem Ul (hx:BH x b1 l1) (hy:BH y b2 l2) (hz:BH ((Nat.gcd x.natAbs y.natAbs:Nat):Int) b3 l3) (s1:l1.length<=17592186043000) (s2:l2.length<=17592186043000):CF 352 [.agg (Bi b1 l1),.agg (Bi b2 l2)] (.agg (Bi b3 l3)):=by
 refine AO Tryz.func352 fun E s=>?_
 conv=>cbv
 obtain⟨a6,C⟩:=xU (AW (AI l1));refine AB s (Ff rfl C) ?_;conv=>cbv
 have t13:a6=l1:=by rw[C];exact hx.trim
 obtain⟨a7,D⟩:=xU (AW (AI l2));refine AB s (Ff rfl D) ?_;conv=>cbv
 have t16:a7=l2:=by rw[D];exact hy.trim
 refine g2 rfl ?_;obtain⟨K0,J⟩:=xK fun vs A=>∃(u v:List UInt32) (P Q:Nat),vs=[.one (.As 4 0 0),.one (.sl .u32 u),.one (.sl .u32 v)]/\A=[.var 0 [.bool false,.nil]]/\(u=AW P/\v=AW Q/\Nat.gcd P Q=Nat.gcd x.natAbs y.natAbs/\u.length<=17592186043000)/\v.length<=2/\(2<u.length->v.length=0)
 refine .inl ⟨[4,5,6],[4],K0,?_,?_⟩
 ·intro vs A B;rw[J] at B;obtain⟨u,v,P,Q,rfl,rfl,⟨hu,d,H,K⟩,aG,aF⟩:=B;conv=>cbv
  rintro aM ⟨aE,f39⟩;conv=>cbv
  intro ar R;conv=>cbv
  cases ar <;> conv=>cbv
  ·have ak:=BR R;have az:u.length<=2:=by omega
   have aA:v.length<=2:=by omega
   have T:P<18446744073709551616:=by have:=Cy u;rw[hu,BW] at this;exact Nat.lt_of_lt_of_le this (Nat.pow_le_pow_right (by decide) (by rw[<-hu];omega:32*(AW P).length<=64))
   have V:Q<18446744073709551616:=by have:=Cy v;rw[d,BW] at this;exact Nat.lt_of_lt_of_le this (Nat.pow_le_pow_right (by decide) (by rw[<-d];omega:32*(AW Q).length<=64))
   obtain⟨a2,h⟩:∃n:Int,Ag n (P):=⟨_,⟨rfl⟩⟩
   have aw:=h.eq;refine AB (r:= .one (.int .u64 a2)) s (PR (by rw[hu,BW]) (by omega) h) ?_;conv=>cbv
   obtain⟨a5,i⟩:∃n:Int,Ag n (Q):=⟨_,⟨rfl⟩⟩
   have ax:=i.eq;refine AB (r:= .one (.int .u64 a5)) s (PR (by rw[d,BW]) (by omega) i) ?_;conv=>cbv
   refine .inr ?_;obtain⟨J1,I⟩:=xJ fun vs A k=>∃(w g:Nat) (p q:Int),vs=[.one (.As 4 0 0),.one (.int .u64 p),.one (.int .u64 q)]/\A=[.var 0 [.bool false,.nil]]/\(Ag p w/\Ag q g/\w<18446744073709551616/\g<18446744073709551616)/\Nat.gcd w g=Nat.gcd P Q/\k=g
   refine⟨[],[4,9,10],[4],J1,⟨Q,by rw[I];exact⟨P,Q,a2,a5,rfl,rfl,⟨h,i,T,V⟩,rfl,rfl⟩⟩,?_⟩;intro vs A aI B;rw[I] at B;obtain⟨w,g,p,q,rfl,rfl,⟨hp,hq,ay,Z⟩,X,ag⟩:=B;conv=>cbv
   have ep:=hp.eq;have eq:=hq.eq;intro au S;conv=>cbv
   cases au <;> conv=>cbv
   ·have al:=DQ S;obtain⟨aO,G⟩:=xU (AW w);refine AB s (Kr hp (by omega) G) ?_;conv=>cbv
    obtain⟨aa,ad,o⟩:=BE (((Nat.gcd x.natAbs y.natAbs:Nat):Int));refine AB (r:= .agg [.bool aa,.sl .u32 ad]) s (F4 (by rw[G,BW,<-H,<-X,show g=0 by omega,Nat.gcd_zero_right];rfl) o) ?_;try conv=>cbv
    exact AF ⟨⟨rfl,congrArg _ ((o.uniq hz rfl).1.symm),congrArg _ ((o.uniq hz rfl).2.symm),trivial⟩,trivial⟩
   have al:=DR S;refine .inr ?_;have Y:0<g:=by omega
   intro EI af;conv=>cbv
   refine AM ?_;have ae:EI=((w%g:Nat):Int):=by rw[af,ep,eq];exact (Int.natCast_emod _ _).symm
   refine g2 rfl ?_;refine⟨w%g,?_,?_⟩
   ·rw[ag];exact Nat.mod_lt _ Y
   rw[I];exact⟨g,w%g,_,_,rfl,rfl,⟨hq,⟨ae⟩,Z,by have:=Nat.mod_lt w Y;omega⟩,by rw[<-X,Nat.gcd_comm g,<-Nat.gcd_rec,Nat.gcd_comm],rfl⟩
  have ak:=BS R;have U:Q=0:=GB.1 (by rw[<-d];exact List.eq_nil_of_length_eq_zero (by omega));obtain⟨aN,F⟩:=xU u;refine AB s (KV F (by omega)) ?_;conv=>cbv
  obtain⟨a8,ab,m⟩:=BE (((Nat.gcd x.natAbs y.natAbs:Nat):Int));refine AB (r:= .agg [.bool a8,.sl .u32 ab]) s (F4 (by rw[F,hu,BW,<-H,U,Nat.gcd_zero_right];rfl) m) ?_;try conv=>cbv
  exact AF ⟨⟨rfl,congrArg _ ((m.uniq hz rfl).1.symm),congrArg _ ((m.uniq hz rfl).2.symm),trivial⟩,trivial⟩
 obtain⟨J0,t⟩:=xJ fun vs A k=>∃(u v:List UInt32) (P Q:Nat),vs=[.one (.As 4 0 0),.one (.sl .u32 u),.one (.sl .u32 v)]/\A=[.var 0 [.bool false,.nil]]/\(u=AW P/\v=AW Q/\Nat.gcd P Q=Nat.gcd x.natAbs y.natAbs/\u.length<=17592186043000/\v.length<=17592186043000)/\k=Q
 refine⟨[],[4,5,6],[4],J0,⟨y.natAbs,by rw[t];exact⟨a6,a7,x.natAbs,y.natAbs,rfl,rfl,⟨t13.trans hx.Bj,t16.trans hy.Bj,rfl,by rw[t13];exact s1,by rw[t16];exact s2⟩,rfl⟩⟩,?_⟩;intro vs A aH B;rw[t] at B;obtain⟨u,v,P,Q,rfl,rfl,⟨hu,d,H,K,a1⟩,W⟩:=B;conv=>cbv
 rintro aJ ⟨aB,f18⟩;conv=>cbv
 intro an M;conv=>cbv
 cases an <;> conv=>cbv
 ·have ah:=Cc M;rintro aK ⟨aC,f22⟩;conv=>cbv
  intro ao N;conv=>cbv
  cases ao <;> conv=>cbv
  ·have ai:=Cc N;rw[J];exact⟨u,v,P,Q,rfl,rfl,⟨hu,d,H,K⟩,by omega,by omega⟩
  have ai:=Cd N;rintro aL ⟨aD,f26⟩;conv=>cbv
  intro aq O;conv=>cbv
  cases aq <;> conv=>cbv
  ·have aj:=Cc O;rw[J];exact⟨u,v,P,Q,rfl,rfl,⟨hu,d,H,K⟩,by omega,by omega⟩
  have aj:=Cd O;refine .inr ?_;have f:0<Q:=by apply Nat.pos_of_ne_zero;intro e;rw[e,Gx] at d;rw[d] at *;simp at *;omega
  obtain⟨av,j⟩:=xU (AW (P/Q));obtain⟨L,a⟩:=xU (AW (P%Q));refine AB s (OB hu d f j a (by omega)) ?_;conv=>cbv
  refine⟨P%Q,?_,?_⟩
  ·rw[W];exact Nat.mod_lt _ f
  rw[t];exact⟨v,L,Q,P%Q,rfl,rfl,⟨d,a,by rw[<-H,Nat.gcd_comm Q,<-Nat.gcd_rec,Nat.gcd_comm],a1,by have:=FB (Nat.le_of_lt (Nat.mod_lt P f));rw[<-a,<-d] at this;omega⟩,rfl⟩
 have ah:=Cd M;refine .inr ?_;have f:0<Q:=by apply Nat.pos_of_ne_zero;intro e;rw[e,Gx] at d;rw[d] at *;simp at *;omega
 obtain⟨av,j⟩:=xU (AW (P/Q));obtain⟨L,a⟩:=xU (AW (P%Q));refine AB s (OB hu d f j a (by omega)) ?_;conv=>cbv
 refine⟨P%Q,?_,?_⟩
 ·rw[W];exact Nat.mod_lt _ f
 rw[t];exact⟨v,L,Q,P%Q,rfl,rfl,⟨d,a,by rw[<-H,Nat.gcd_comm Q,<-Nat.gcd_rec,Nat.gcd_comm],a1,by have:=FB (Nat.le_of_lt (Nat.mod_lt P f));rw[<-a,<-d] at this;omega⟩,rfl⟩
theorem kv {u:List UInt32} {X:Nat} (hu:u=AW X) (f:u.length<=l.length+1) (g:BH x b l) (s1:l.length<=17592186042000):(AW (X+x.natAbs/X)).length<=17592186044416:=by
 refine Nat.le_trans (Gw (k:=l.length+2) ?_) (by omega);have a:=Cy u;rw[hu,BW] at a;have d:=Cy l;rw[g.nat] at d;have h3:=Nat.div_le_self x.natAbs X;have h:2^(32*(AW X).length)<=2^(32*(l.length+1)):=Nat.pow_le_pow_right (by decide) (by rw[<-hu];omega);have i:2^(32*l.length)<=2^(32*(l.length+1)):=Nat.pow_le_pow_right (by decide) (by omega);have j:2^(32*(l.length+2))=4294967296*2^(32*(l.length+1)):=E3 (l.length+1);omega
theorem kF (f:BH x b l) (a:x.natAbs≠0):DF x.natAbs<=32*l.length/\DF x.natAbs=Nat.log2 x.natAbs+1:=by
 have d:=Cy l;rw[f.nat] at d;have g:=(Nat.log2_lt a).2 d;unfold DF;rw[if_neg a];exact⟨by omega,rfl⟩
theorem cu {e:Int} (B:BH x b1 l1) (v:BH ((Br x.toNat:Nat):Int) b3 l3) (he:e=if x<0 then 7 else 0) (s1:l1.length<=17592186042000):CF 390 [.agg (Bi b1 l1)] (.AG [(true,(Bi b3 l3)),(false,[.int .i64 e])]):=by
 refine AO Tryz.func390 fun E o=>?_
 conv=>cbv
 obtain⟨ag,J⟩:=xI (Cg x);refine AB o (Ls B J) ?_;conv=>cbv
 refine .inr ?_;intro V D;conv=>cbv
 cases V <;> conv=>cbv
 ·have T:=BR D;intro W F;conv=>cbv
  cases W <;> conv=>cbv
  ·have U:=BR F;have C:0<x:=by rcases GY x with⟨m,q⟩ |⟨m,q⟩ |⟨m,q⟩ <;> omega
   have H:x.natAbs≠0:=by omega
   have R:=kF B H;have ab:0<Br x.natAbs:=by apply Nat.pos_of_ne_zero;intro e;have:=Oe x.natAbs;rw[e] at this;omega
   obtain⟨ai,s⟩:∃n:Int,Ag n (DF x.natAbs):=⟨_,⟨rfl⟩⟩
   have a7:=s.eq;refine AB o (bZ B s (by omega)) ?_;conv=>cbv
   intro ae a8;conv=>cbv
   refine g2 ⟨by omega,by omega,i64 (by omega)⟩ ?_;intro af aa;conv=>cbv
   refine AQ ?_;obtain⟨a1,f⟩:=xU (AW (2^(DF x.natAbs/2+1)));refine AB o (mP (n:=DF x.natAbs/2+1) ⟨by omega⟩ (by omega) f) ?_;conv=>cbv
   refine .inr ?_;obtain⟨J0,w⟩:=xJ fun vs bl k=>∃(u:List UInt32) (X:Nat),vs=[.one (.As 1 0 0),.one (.As 2 0 0),.one (.sl .u32 u)]/\bl=[.var 0 [.bool b1,.sl .u32 l1],.var 0 [.bool false,.nil]]/\(u=AW X/\Br x.natAbs<=X/\0<X/\u.length<=l1.length+1)/\k=X
   refine⟨[],[1,2,5],[1,2],J0,⟨2^(DF x.natAbs/2+1),by rw[w];exact⟨a1,_,rfl,rfl,⟨f,by rw[R.2];exact nH H,Nat.two_pow_pos _,by rw[f];exact Gw (Nat.pow_lt_pow_right (by decide) (by omega))⟩,rfl⟩⟩,?_⟩;intro vs bl ad hj;rw[w] at hj;obtain⟨u,X,rfl,rfl,⟨hu,A,p,S⟩,Q⟩:=hj;conv=>cbv
   refine .inr ?_;obtain⟨a2,t⟩:=xU (AW (AI l1));refine AB o (Ff rfl t) ?_;conv=>cbv
   have t26:a2=l1:=by rw[t];exact B.trim
   obtain⟨a5,g⟩:=xU (AW (x.natAbs/X));obtain⟨Z,K⟩:=xU (AW (x.natAbs%X));refine AB (r:= .AG [(false,[.sl .u32 a5]),(false,[.sl .u32 Z])]) o (OB (t26.trans B.Bj) hu p g K (by rw[t26];omega)) ?_;try conv=>cbv
   obtain⟨a6,h⟩:=xU (AW (X+x.natAbs/X));refine AB (r:= .one (.sl .u32 a6)) o (Y9 hu g h (by omega) (by rw[g];have m:=FB (Nat.div_le_self x.natAbs X);rw[<-B.Bj] at m;omega)) ?_;try conv=>cbv
   obtain⟨L,a⟩:=xU (AW ((X+x.natAbs/X)/2));refine AB (r:= .one (.sl .u32 L)) o (iI h a (by rw[h];exact kv hu S B s1)) ?_;try conv=>cbv
   obtain⟨aj,d⟩:=xI (Bv ((X+x.natAbs/X)/2:Nat) X);refine AB o (N4 a hu d) ?_;conv=>cbv
   intro Y G;conv=>cbv
   cases Y <;> conv=>cbv
   ·have j:=F0 G;have I:(X+x.natAbs/X)/2<X:=by rw[d] at j;have:=JD j;omega
    refine⟨(X+x.natAbs/X)/2,?_,?_⟩
    ·rw[Q];exact I
    rw[w];exact⟨L,_,rfl,rfl,⟨a,ah A p,by have:=ah A p;omega,by rw[a];have:=FB (Nat.le_of_lt I);rw[<-hu] at this;omega⟩,rfl⟩
   have j:=F1 G;obtain⟨M,N,i⟩:=BE (((X:Nat):Int));refine AB (r:= .agg [.bool M,.sl .u32 N]) o (F4 (by rw[hu,BW];rfl) i) ?_;try conv=>cbv
   have P:X<=(X+x.natAbs/X)/2:=by rw[d] at j;have:=JC j;omega
   have hX:=nG A p P;exact AF ⟨⟨rfl,congrArg _ ((i.uniq v (by rw[<-hX];congr 2;omega)).1.symm),congrArg _ ((i.uniq v (by rw[<-hX];congr 2;omega)).2.symm),trivial⟩,⟨rfl,congrArg _ (by rw[he,if_neg (by omega)]),trivial⟩,trivial⟩
  have U:=BS F;have C:x=0:=by rcases GY x with⟨m,q⟩ |⟨m,q⟩ |⟨m,q⟩ <;> omega
  have O:((Br x.toNat:Nat):Int)=0:=by rw[show x.toNat=0 by omega];rfl
  rw[O] at v;exact AF ⟨⟨rfl,congrArg _ (v.neg.trans rfl),.inr (.inl ⟨_,congrArg _ (v.Bj.trans rfl)⟩),trivial⟩,⟨rfl,congrArg _ (by rw[he,if_neg (by omega)]),trivial⟩,trivial⟩
 have T:=BS D;have C:x<0:=by rcases GY x with⟨m,q⟩ |⟨m,q⟩ |⟨m,q⟩ <;> omega
 have O:((Br x.toNat:Nat):Int)=0:=by rw[show x.toNat=0 by omega];rfl
 rw[O] at v;exact AF ⟨⟨rfl,congrArg _ (v.neg.trans rfl),.inr (.inl ⟨_,congrArg _ (v.Bj.trans rfl)⟩),trivial⟩,⟨rfl,congrArg _ (by rw[he,if_pos C]),trivial⟩,trivial⟩
end Go.Abs
