/- Part 23 of a proof. Conditions: each theorem's own. -/
import Derived.Test.YtclgfoceefhnkaaGreatDoorLn21
set_option linter.all false
set_option maxHeartbeats 80000000
set_option maxRecDepth 20000
open Go.Proofs
namespace Go.Abs
open Go.RowKit
theorem Bo {ops:List Oper} {tr:Tr} {C:Prop} (h:C) (d:Sn ops tr=true:=by kernel_rfl):(Unit->JJ ops tr=true)/\C:=⟨fun _=>mG d,h⟩
end Go.Abs
namespace Go.Abs
theorem dL {E:Env} {g:FuncId} {args:List AV} {r:AV} {B:Nat->Af->List AV->Prop} {S:Af->Af} {K:Nat->AV->Prop} {d f l m:Prop} (id:Nat) (b:Af) (n:env Tryz.prog=E) (h:Bv Tryz.prog g args (S b) r) (hb:B id b args) (o:K id r):
 d\/f\/l\/(∃(id:Nat) (b:Af) (a:List AV) (r:AV),(Unit->B id b a)/\(Unit->E.D g a (S b) r)/\K id r)\/m:= .inr (.inr (.inr (.inl ⟨id,b,args,r,fun _=>hb,fun _=>CW n h,o⟩)))
end Go.Abs

namespace Go.Abs
open Go.RowKit
abbrev Lo:T:=(.pr .str (.pr .i64 (.pr .i64 (.pr .i64 (.pr .i64 (.pr .i64 .bool))))))
def NT:List (el Lo):=[(⟨#[102,105,120]⟩,1,0,2,1,2,false),(⟨#[100,105,115,116,97,110,99,101]⟩,2,0,1,2,1,false),(⟨#[105,110,99,105,100,101,110,116]⟩,3,0,0,0,1,false),(⟨#[111,102,102,115,101,116]⟩,3,0,1,2,1,true),(⟨#[97,110,103,108,101]⟩,4,0,1,3,1,false),(⟨#[112,97,114,97,108,108,101,108]⟩,4,0,0,0,1,false),(⟨#[112,101,114,112,101,110,100,105,99,117,108,97,114]⟩,4,0,0,0,1,false),(⟨#[101,113,117,97,108]⟩,4,0,0,0,1,false),(⟨#[109,105,100,112,111,105,110,116]⟩,3,0,0,0,2,false),(⟨#[115,121,109,109,101,116,114,105,99]⟩,4,0,0,0,2,false),(⟨#[104,111,114,105,122,111,110,116,97,108]⟩,2,0,0,0,1,false),(⟨#[118,101,114,116,105,99,97,108]⟩,2,0,0,0,1,false),(⟨#[111,110,99,105,114,99,108,101]⟩,1,1,0,0,1,false),(⟨#[114,97,100,105,117,115]⟩,0,1,1,2,1,false),(⟨#[115,97,109,101,114,97,100,105,117,115]⟩,0,2,0,0,1,false),(⟨#[116,97,110,103,101,110,116,108,105,110,101]⟩,2,1,0,0,1,true),(⟨#[116,97,110,103,101,110,116,99,105,114,99,108,101]⟩,0,2,0,0,1,true)]
def Cr (k:Int):el Lo:=if 1<=k/\k<=17 then NT.getD (k-1).toNat (⟨#[]⟩,0,0,0,0,0,false) else (⟨#[]⟩,0,0,0,0,0,false)
variable {a b k x:Int} {c:Bool} {i j:Nat}
theorem Zr (h:¬(1<=k/\k<=17)):Cr k=(⟨#[]⟩,0,0,0,0,0,false):=if_neg h
theorem nr {x:el Lo} (h:1<=k/\k<=17) (d:NT[(k-1).toNat]? =some x):Cr k=x:=by
 unfold Cr;rw[if_pos h,List.getD_eq_getElem?_getD,d];rfl
def KC (k:Int):Bool:=decide (1<=k/\k<=17)
def dfB:List Int->Nat->Bool
 | l,0=>true
 | l,i+1=>dfB l i&& !((l.take i).contains (l.getD i 0))
def Dp (n:Int) (l:List Int):Bool:=l.all fun x=>decide (0<=x/\x<n)
def G7 (l:List Int):Prop:=∀(i j:Nat) (x y:Int),j<i->l[i]? =some x->l[j]? =some y->x≠y
theorem Qy {p:Int->Bool} {X:List Int} (h:X[i]? =some x):(X.drop i).all p=(p x&&(X.drop (i+1)).all p):=by
 have d:=C6 h;rw[List.drop_eq_getElem_cons d,List.all_cons];rw[List.getElem?_eq_getElem d] at h;rw[Option.some.inj h]
theorem OT {X:List Int} {y:Int} (d:X[i]? =some x) (f:X[i]? =some y):x=y:=Option.some.inj (d.symm.trans f)
theorem iq {X:List Int} (h:∀(q:Nat) (x y:Int),q<j->X[i]? =some x->X[q]? =some y->x≠y) (ha:X[i]? =some a) (hb:X[j]? =some b) (d:a≠b):∀(q:Nat) (x y:Int),q<j+1->X[i]? =some x->X[q]? =some y->x≠y:=fun q x y l f g=>by
 by_cases e:q=j
 ·subst e;rw[OT f ha,OT g hb];exact d
 exact h q x y (by omega) f g
theorem ir {X:List Int} (h:∀(p q:Nat) (x y:Int),p<i->q<p->X[p]? =some x->X[q]? =some y->x≠y) (m:i<=j) (g:∀(q:Nat) (x y:Int),q<j->X[i]? =some x->X[q]? =some y->x≠y):
  ∀(p q:Nat) (x y:Int),p<i+1->q<p->X[p]? =some x->X[q]? =some y->x≠y:=fun p q x y n l d f=>by
 by_cases e:p=i
 ·subst e;exact g q x y (by omega) d f
 exact h p q x y (by omega) l d f
theorem Uv:CF 192 [] (.one (.sl (.pr .str (.pr .i64 (.pr .i64 (.pr .i64 (.pr .i64 (.pr .i64 .bool)))))) NT)):=by
 refine AG Tryz.func192 fun E d=>?_
 refine⟨NT,fun _=>⟨rfl,by decide,rfl,⟨rfl,⟨rfl,rfl,rfl,rfl,rfl,rfl,rfl,trivial⟩,⟨rfl,⟨rfl,rfl,rfl,rfl,rfl,rfl,rfl,trivial⟩,⟨rfl,⟨rfl,rfl,rfl,rfl,rfl,rfl,rfl,trivial⟩,⟨rfl,⟨rfl,rfl,rfl,rfl,rfl,rfl,rfl,trivial⟩,⟨rfl,⟨rfl,rfl,rfl,rfl,rfl,rfl,rfl,trivial⟩,⟨rfl,⟨rfl,rfl,rfl,rfl,rfl,rfl,rfl,trivial⟩,⟨rfl,⟨rfl,rfl,rfl,rfl,rfl,rfl,rfl,trivial⟩,⟨rfl,⟨rfl,rfl,rfl,rfl,rfl,rfl,rfl,trivial⟩,⟨rfl,⟨rfl,rfl,rfl,rfl,rfl,rfl,rfl,trivial⟩,⟨rfl,⟨rfl,rfl,rfl,rfl,rfl,rfl,rfl,trivial⟩,⟨rfl,⟨rfl,rfl,rfl,rfl,rfl,rfl,rfl,trivial⟩,⟨rfl,⟨rfl,rfl,rfl,rfl,rfl,rfl,rfl,trivial⟩,⟨rfl,⟨rfl,rfl,rfl,rfl,rfl,rfl,rfl,trivial⟩,⟨rfl,⟨rfl,rfl,rfl,rfl,rfl,rfl,rfl,trivial⟩,⟨rfl,⟨rfl,rfl,rfl,rfl,rfl,rfl,rfl,trivial⟩,⟨rfl,⟨rfl,rfl,rfl,rfl,rfl,rfl,rfl,trivial⟩,⟨rfl,⟨rfl,rfl,rfl,rfl,rfl,rfl,rfl,trivial⟩,trivial⟩⟩⟩⟩⟩⟩⟩⟩⟩⟩⟩⟩⟩⟩⟩⟩⟩⟩,.inr ?_⟩;try conv=>cbv
 exact AE ⟨t2,trivial⟩
theorem Ur {nm:ByteArray} {d e f:Int} {g:Bool} (u:Du k) (p:(nm,a,b,d,e,f,g)=Cr k) (o:c=KC k):CF 92 [.one (.int .i64 k)] (.AI [(true,[.str nm,.int .i64 a,.int .i64 b,.int .i64 d,.int .i64 e,.int .i64 f,.bool g]),(false,[.bool c])]):=by
 unfold Du at u;obtain⟨RL,l⟩:∃z:List (el Lo),z=NT:=⟨_,rfl⟩
 have v:RL.length=17:=by rw[l];rfl
 refine AG Tryz.func92 fun E t=>?_
 refine Cw (fun w=>?_) fun w=>?_
 ·have h:=p.trans (Zr (by omega));simp only[Prod.mk.injEq] at h;exact AE ⟨⟨rfl,congrArg _ (h.1),congrArg _ (h.2.1),congrArg _ (h.2.2.1),congrArg _ (h.2.2.2.1),congrArg _ (h.2.2.2.2.1),congrArg _ (h.2.2.2.2.2.1),congrArg _ (h.2.2.2.2.2.2),trivial⟩,⟨rfl,congrArg _ (by rw[o];exact decide_eq_false (by omega)),trivial⟩,trivial⟩
 refine AB t (l ▸ Uv) ?_;rintro D ⟨C,f9⟩;refine FJ (fun q=>?_) fun q=>?_
 ·have h:=p.trans (Zr (by omega));simp only[Prod.mk.injEq] at h;exact AE ⟨⟨rfl,congrArg _ (h.1),congrArg _ (h.2.1),congrArg _ (h.2.2.1),congrArg _ (h.2.2.2.1),congrArg _ (h.2.2.2.2.1),congrArg _ (h.2.2.2.2.2.1),congrArg _ (h.2.2.2.2.2.2),trivial⟩,⟨rfl,congrArg _ (by rw[o];exact decide_eq_false (by omega)),trivial⟩,trivial⟩
 refine AB t (l ▸ Uv) ?_;intro r n;refine AW ((r).toNat) fun s m=>?_
 try conv=>cbv
 obtain⟨A,B,b1,d1,e1,f1,g1⟩:=s;have h:=p.trans (nr (by omega) (by rw[<-n,<-l];exact m));simp only[Prod.mk.injEq] at h;exact AE ⟨⟨rfl,congrArg _ (h.1),congrArg _ (h.2.1),congrArg _ (h.2.2.1),congrArg _ (h.2.2.2.1),congrArg _ (h.2.2.2.2.1),congrArg _ (h.2.2.2.2.2.1),congrArg _ (h.2.2.2.2.2.2),trivial⟩,⟨rfl,congrArg _ (by rw[o];exact decide_eq_true (by omega)),trivial⟩,trivial⟩
theorem bn {X:List Int} {n:Int} (r:c=Dp n X):CF 93 [.one (.sl .i64 X),.one (.int .i64 n)] (.one (.bool c)):=by
 refine AG Tryz.func93 fun E F=>?_
 refine BN [] [0,1,5] [] (fun vs o k=>∃(i':Nat) (i:Int),vs=[.one (.sl .i64 X),.one (.int .i64 n),.one (.int .i64 i)]/\(AO i i'/\i'<=X.length)/\c=Dp n (X.drop i')/\k=X.length-i') (X.length-0) ⟨0,0,rfl,⟨BD 0,by omega⟩,r,rfl⟩ ?_;rintro B g vs o w ⟨i',i,rfl,⟨s,t⟩,hinv,u⟩;have D:=s.eq;refine AS ?_;rintro G ⟨C,f8⟩;refine BW (fun v=>?_) fun v=>?_
 ·exact AF (by rw[hinv,List.drop_eq_nil_of_le (by omega)];rfl)
 refine .inr ?_;refine AW i' fun z d=>?_
 try conv=>cbv
 refine Cw (fun h=>?_) fun h=>?_
 ·exact AF (by rw[hinv];refine (Qy (p:=fun x=>decide (0<=x/\x<n)) d).trans ?_;rw[decide_eq_false (by omega)];rfl)
 refine AW i' fun A f=>?_
 try conv=>cbv
 refine Nh (fun l=>?_) fun l=>?_
 ·exact AF (by rw[hinv];refine (Qy (p:=fun x=>decide (0<=x/\x<n)) d).trans ?_;have e:=OT d f;rw[decide_eq_false (by omega)];rfl)
 intro m q;exact Ba g ⟨i'+1,m,rfl,⟨⟨by omega⟩,by omega⟩,hinv.trans ((Qy (p:=fun x=>decide (0<=x/\x<n)) d).trans (by have e:=OT d f;rw[decide_eq_true (by omega)];rfl)),rfl⟩
theorem Kt {X:List Int} (z:c=true↔G7 X):CF 95 [.one (.sl .i64 X)] (.one (.bool c)):=by
 refine AG Tryz.func95 fun E T=>?_
 refine BN [] [0,3] [] (fun vs o k=>∃(i':Nat) (i:Int),vs=[.one (.sl .i64 X),.one (.int .i64 i)]/\(AO i i'/\i'<=X.length)/\(∀(p q:Nat) (x y:Int),p<i'->q<p->X[p]? =some x->X[q]? =some y->x≠y)/\k=X.length-i') (X.length-0) ⟨0,0,rfl,⟨BD 0,by omega⟩,fun p q x y h=>absurd h (Nat.not_lt_zero p),rfl⟩ ?_;rintro O r vs o K ⟨i',i,rfl,⟨C,D⟩,hinv,H⟩;have R:=C.eq;refine AS ?_;rintro U ⟨Q,f7⟩;refine BW (fun J=>?_) fun J=>?_
 ·exact AF (z.2 fun p q x y h a b=>hinv p q x y (by have:=C6 a;omega) h a b)
 refine .inr ?_;refine BN [] [0,3,4] [] (fun vs o k=>∃(l:Nat) (j:Int),vs=[.one (.sl .i64 X),.one (.int .i64 i),.one (.int .i64 j)]/\(AO j l/\l<=i')/\(∀(q:Nat) (x y:Int),q<l->X[i']? =some x->X[q]? =some y->x≠y)/\k=i'-l) (i'-0) ⟨0,0,rfl,⟨BD 0,by omega⟩,fun q x y h=>absurd h (Nat.not_lt_zero q),rfl⟩ ?_;rintro P s vs o L ⟨l,j,rfl,⟨F,G⟩,d,I⟩;conv=>cbv
 have S:=F.eq;refine BW (fun t=>?_) fun t=>?_
 ·intro u A;exact Ba r ⟨i'+1,u,rfl,⟨⟨by omega⟩,by omega⟩,ir hinv (by omega) d,rfl⟩
 refine .inr ?_;refine AW i' fun M f=>?_
 try conv=>cbv
 refine AW l fun N g=>?_
 refine AK ?_;intro w n;cases w <;> conv=>cbv
 ·have m:=Bp n;refine AK ?_;intro v B;exact Ba s ⟨l+1,v,rfl,⟨⟨by omega⟩,by omega⟩,iq d f g m,rfl⟩
 have m:=Br n;exact AF (Bool.eq_false_iff.2 fun e=>z.1 e i' l _ _ (by omega) f g m)
end Go.Abs
namespace Go.Abs
open Go.RowKit
def FU (t:Int):List Int->Nat->List Int
 | [],_=>[]
 | p::r,i=>if p=t then (i:Int)::FU t r (i+1) else FU t r (i+1)
variable {c:Bool} {i i0:Nat} {kd sd x y:Int}
theorem ZE {t:Int}:∀(l:List Int) (i:Nat),FU t (l++[x]) i=FU t l i++(if x=t then [((i+l.length:Nat):Int)] else [])
 | [],i=>by simp[FU]
 | p::r,i=>by
  rw[List.cons_append,FU,FU,ZE r (i+1),List.length_cons,show i+1+r.length=i+(r.length+1) by omega]
  split <;> rfl
theorem ZD (t:Int):∀(l:List Int) (i:Nat),(FU t l i).length<=l.length
 | [],_=>Nat.le_refl _
 | p::r,i=>by
  have:=ZD t r (i+1);rw[FU];split <;> simp <;> omega
theorem ZF {t:Int} {l:List Int} (h:l[i]? =some x):FU t (l.take (i+1)) 0=FU t (l.take i) 0++(if x=t then [(i:Int)] else []):=by
 rw[List.take_add_one,h];have:=ZE (t:=t) (x:=x) (l.take i) 0;rw[show (some x).toList=[x] from rfl,this,List.length_take,Nat.min_eq_left (by have:=C6 h;omega),Nat.zero_add]
def Eo (AY C:List Int) (t:Int) (i:Nat):Bool:=AY.getD (C.getD i 0).toNat 0==t
def DZ (AY C:List Int) (i:Nat):Int:=AY.getD (C.getD i 0).toNat 0
theorem KV {n:Int} {l:List Int} (h:Dp n l=true) (d:l[i]? =some x):0<=x/\x<n:=of_decide_eq_true (List.all_eq_true.1 h x (List.mem_of_getElem? d))
theorem Mb {AY C:List Int} (d:C[i]? =some x) (f:AY[x.toNat]? =some y):DZ AY C i=y:=by
 unfold DZ;rw[List.getD_eq_getElem?_getD,List.getD_eq_getElem?_getD,d];show (AY[x.toNat]?).getD 0=y;rw[f];rfl
def hasB (P:List Int) (t:Int) (i:Nat):Bool:=(P.getD i 0==t)||(P.getD (i+1) 0==t)
def HM (P:List Int) (t:Int):Bool:=P.any fun p=>p==t
def D5 (t:Int):List Int->Nat->Int
 | [],_=> -1
 | p::r,i=>if t=p then (i:Int) else D5 t r (i+1)
theorem X2 {t:Int} {l:List Int} (h:l[i]? =some x):D5 t (l.drop i) i=if t=x then (i:Int) else D5 t (l.drop (i+1)) (i+1):=by
 have d:=C6 h;rw[List.drop_eq_getElem_cons d,D5];rw[List.getElem?_eq_getElem d] at h;rw[Option.some.inj h]
theorem X3 (t:Int):∀(l:List Int) (i:Nat),decide (D5 t l i >= 0)=HM l t
 | [],i=>rfl
 | p::r,i=>by
  rw[D5];unfold HM;rw[List.any_cons]
  by_cases e:t=p
  ·rw[if_pos e,e];simp
  rw[if_neg e,X3 t r (i+1),beq_eq_false_iff_ne.2 (Ne.symm e)];rfl
theorem Vu {α:Type} {p:α->Bool} {X:List α} {x:α} (h:X[i]? =some x):(X.drop i).any p=(p x||(X.drop (i+1)).any p):=by
 have d:=C6 h;rw[List.drop_eq_getElem_cons d,List.any_cons];rw[List.getElem?_eq_getElem d] at h;rw[Option.some.inj h]
theorem Mr {l:List Int} (h:l[i]? =some x):l.getD i 0=x:=by rw[List.getD_eq_getElem?_getD,h];rfl
theorem ZG {P C:List Int} {V:List Ex} {t:Int} {R:List Int} (N:P.length<=1000000) (hR:R=FU t P 0):CF 37 [.agg [.int .i64 kd,.sl .i64 P,.sl .i64 C,.sl .ex V,.int .i64 sd],.one (.int .i64 t)] (.one (.sl .i64 R)):=by
 refine AG Tryz.func37 fun E M=>?_
 rintro v ⟨B,f10⟩;refine BN [(5,.i64,true)] [1,5,9,10,11] [5] (fun vs A k=>∃(o:List Int) (m i':Nat) (i:Int),vs=[.one (.int .i64 t),.one (.AZ .i64 5 0 0 m),.one (.sl .i64 P),.one (.int .i64 v),.one (.int .i64 i)]/\A=[.arr 0 .i64 o]/\(AO i i'/\i'<=P.length/\m=o.length)/\o=FU t (P.take i') 0/\k=P.length-i') (P.length-0) ⟨[],0,0,0,rfl,rfl,⟨BD 0,by omega,rfl⟩,rfl,rfl⟩ ?_;rintro K p vs A I ⟨o,m,i',i,rfl,rfl,⟨D,F,hm⟩,hinv,G⟩;conv=>cbv
 have L:=D.eq;have H:o.length<=P.length:=by rw[hinv];exact Nat.le_trans (ZD _ _ _) (by rw[List.length_take];omega)
 refine BW (fun u=>?_) fun u=>?_
 ·exact AE ⟨⟨rfl,.inl ⟨_,rfl,by omega,congrArg _ (by rw[hR,show P=P.take i' from (List.take_of_length_le (by omega)).symm,<-hinv,List.drop_zero,hm,List.take_length])⟩,trivial⟩,trivial⟩
 refine .inr ?_;refine AW i' fun J d=>?_
 refine AS ?_;intro w n;refine .inr ?_;cases w <;> conv=>cbv
 ·have g:=Bp n;refine AK ?_;intro l s;exact Ba p ⟨o,m,i'+1,l,rfl,rfl,⟨⟨by omega⟩,by omega,hm⟩,by rw[hinv,ZF d,if_neg g,List.append_nil],rfl⟩
 have g:=Br n;refine⟨[i],fun _=>⟨rfl,by decide,rfl,⟨rfl,t1,trivial⟩⟩,.inr ?_⟩;try conv=>cbv
 refine .inl ⟨[i],fun _=>⟨rfl,by (first | rfl | omega),rfl,by show (o.length+1)*8<=140737488355328;(try simp only[List.length_take,List.length_drop]);omega⟩,?_⟩;intro (h:List (el .i64)) z f;have q:h=(o:List (el .i64))++([i]:List (el .i64)):=f.1;have r:z=List.length (α:=(el .i64)) h:=f.2;refine AK ?_;intro l s;exact Ba p ⟨h,_,i'+1,l,rfl,rfl,⟨⟨by omega⟩,by omega,r⟩,by rw[q,hinv,ZF d,if_pos g,show i=(i':Int) by omega],rfl⟩
theorem PE {P C:List Int} {V:List Ex} {AY:List Int} {i t:Int} (o:AO i i0) (p:i0<C.length) (m:Dp (AY.length:Nat) C=true) (n:c=Eo AY C t i0):CF 38 [.one (.int .i64 i),.one (.Co (.sl .i64) AY 0),.one (.Co (.pr .i64 (.pr (.sl .i64) (.pr (.sl .i64) (.pr (.sl .ex) .i64)))) (kd,P,C,V,sd) 0),.one (.Co .i64 t 0)] (.one (.bool c)):=by
 have s:=o.eq;refine AG Tryz.func38 fun E u=>?_
 obtain⟨h,d⟩:=CM (l:=(kd,P,C,V,sd).2.2.1) (i:=i0) (by omega);refine D6 d ?_;have hw:=KV m d;refine AW ((h).toNat) fun r f=>?_
 refine AK ?_;intro q g;have e1:=Mb d f;exact AF (by rw[n,g];show (DZ AY C i0==t)=_;rw[e1])
theorem Jq {P C:List Int} {V:List Ex} {AY:List Int} {i c:Int} (m:AO i i0) (n:i0<C.length) (h:Dp (AY.length:Nat) C=true) (l:c=DZ AY C i0):CF 43 [.agg [.int .i64 kd,.sl .i64 P,.sl .i64 C,.sl .ex V,.int .i64 sd],.one (.sl .i64 AY),.one (.int .i64 i)] (.one (.int .i64 c)):=by
 have p:=m.eq;refine AG Tryz.func43 fun E q=>?_
 refine AW i0 fun g d=>?_
 try conv=>cbv
 have hw:=KV h d;refine AW ((g).toNat) fun o f=>?_
 try conv=>cbv
 have e1:=Mb d f;exact AF (l.trans e1)
theorem kE {P C:List Int} {V:List Ex} {t:Int} (o:c=HM P t):CF 42 [.agg [.int .i64 kd,.sl .i64 P,.sl .i64 C,.sl .ex V,.int .i64 sd],.one (.int .i64 t)] (.one (.bool c)):=by
 refine AG Tryz.func42 fun E A=>?_
 refine BN [] [1,2,5] [2] (fun vs m k=>∃(i':Nat) (i:Int),vs=[.one (.int .i64 t),.one (.AR 2 0 0),.one (.int .i64 i)]/\m=[.var 0 [.int .i64 kd,.sl .i64 P,.sl .i64 C,.sl .ex V,.int .i64 sd]]/\(AO i i'/\i'<=P.length)/\c=HM (P.drop i') t/\k=P.length-i') (P.length-0) ⟨0,0,rfl,rfl,⟨BD 0,by omega⟩,o,rfl⟩ ?_;rintro v g vs m s ⟨i',i,rfl,rfl,⟨p,q⟩,hinv,r⟩;have z:=p.eq;refine AS ?_;rintro B ⟨w,f9⟩;refine BW (fun h=>?_) fun h=>?_
 ·exact AF (by rw[hinv,List.drop_eq_nil_of_le (by omega)];rfl)
 refine .inr ?_;refine AW i' fun u d=>?_
 try conv=>cbv
 refine BO (fun f=>?_) fun f=>?_
 ·exact AF (by rw[hinv];exact (Vu d).trans (by rw[beq_iff_eq.2 f];rfl))
 intro l n;exact Ba g ⟨i'+1,l,rfl,rfl,⟨⟨by omega⟩,by omega⟩,hinv.trans ((Vu d).trans (by rw[beq_eq_false_iff_ne.2 f];rfl)),rfl⟩
theorem Ms {P C:List Int} {V:List Ex} {i t:Int} (p:AO i i0) (q:i0+1<P.length) (w:P.length<=1000000) (n:c=hasB P t i0):CF 103 [.agg [.int .i64 kd,.sl .i64 P,.sl .i64 C,.sl .ex V,.int .i64 sd],.one (.int .i64 i),.one (.int .i64 t)] (.one (.bool c)):=by
 have u:=p.eq;refine AG Tryz.func103 fun E v=>?_
 refine AW i0 fun s d=>?_
 try conv=>cbv
 refine BO (fun f=>?_) fun f=>?_
 ·exact AF (by rw[n];unfold hasB;rw[Mr d,beq_iff_eq.2 f];rfl)
 intro h o;refine AW ((h).toNat) fun m g=>?_
 refine AS ?_;intro r l;exact AF (by rw[n];unfold hasB;rw[Mr d,beq_eq_false_iff_ne.2 f,Mr (show P[i0+1]? =some m by rw[<-show h.toNat=i0+1 by omega];exact g),l];rfl)
theorem Pj {P C:List Int} {V:List Ex} {t c:Int} (n:P.length=4) (h:c=if hasB P t 0=true/\hasB P t 2=true then y else if hasB P t 0=true\/hasB P t 2=true then x else 0):CF 102 [.agg [.int .i64 kd,.sl .i64 P,.sl .i64 C,.sl .ex V,.int .i64 sd],.one (.int .i64 t),.one (.int .i64 x),.one (.int .i64 y)] (.one (.int .i64 c)):=by
 refine AG Tryz.func102 fun E m=>?_
 obtain⟨l,d⟩:=xB (hasB P t 0);refine AB m (Ms (BD 0) (by omega) (by omega) d) ?_;obtain⟨g,f⟩:=xB (hasB P t 2);refine AB m (Ms (BD 2) (by omega) (by omega) f) ?_;cases l <;> conv=>cbv
 ·cases g <;> conv=>cbv
  ·exact AF (by rw[h,<-d,<-f];simp)
  exact AF (by rw[h,<-d,<-f];simp)
 cases g <;> conv=>cbv
 ·exact AF (by rw[h,<-d,<-f];simp)
 exact AF (by rw[h,<-d,<-f];simp)
theorem Uh {X:List Int} {t c:Int} (n:c=D5 t X 0):CF 40 [.one (.sl .i64 X),.one (.int .i64 t)] (.one (.int .i64 c)):=by
 refine AG Tryz.func40 fun E B=>?_
 rintro u ⟨z,f7⟩;refine BN [] [0,1,7,8] [] (fun vs l k=>∃(i':Nat) (i:Int),vs=[.one (.sl .i64 X),.one (.int .i64 t),.one (.int .i64 u),.one (.int .i64 i)]/\(AO i i'/\i'<=X.length)/\c=D5 t (X.drop i') i'/\k=X.length-i') (X.length-0) ⟨0,0,rfl,⟨BD 0,by omega⟩,n,rfl⟩ ?_;rintro w g vs l s ⟨i',i,rfl,⟨o,p⟩,hinv,q⟩;conv=>cbv
 have A:=o.eq;refine BW (fun r=>?_) fun r=>?_
 ·exact AF (by rw[hinv,List.drop_eq_nil_of_le (by omega)];rfl)
 refine .inr ?_;refine AW i' fun v d=>?_
 try conv=>cbv
 refine BO (fun f=>?_) fun f=>?_
 ·exact AF (by rw[hinv,X2 d,if_pos f];omega)
 intro h m;exact Ba g ⟨i'+1,h,rfl,⟨⟨by omega⟩,by omega⟩,hinv.trans ((X2 d).trans (if_neg f)),rfl⟩
theorem Ue {X:List Int} {t:Int} (h:c=HM X t):CF 41 [.one (.sl .i64 X),.one (.int .i64 t)] (.one (.bool c)):=by
 refine AG Tryz.func41 fun E g=>?_
 obtain⟨m,d⟩:=xI (D5 t X 0);refine AB g (Uh d) ?_;intro l f;exact AF (by rw[h,f,d,X3])
end Go.Abs
