/- Part 12 of a proof. Conditions: each theorem's own. -/
import Derived.Test.YthegappccffcjaaGreatDoorCr10
set_option linter.all false
set_option maxHeartbeats 80000000
set_option maxRecDepth 20000
open Go.Proofs
namespace Go.Abs
open Go.RowKit
theorem Bl {ops:List Oper} {tr:Tr} {C:Prop} (h:C) (f:VD ops tr=true:=by kernel_rfl):(Unit->KU ops tr=true)/\C:=⟨fun _=>pX f,h⟩
theorem vu {A1 A2 A3 A4 A5 X Q:Prop} {f:Nat->BM->Prop} {h o B:Nat->BM->List AV->AV->BM->Prop} {b:BM} {a:List AV} {r:AV} {b1:BM} (D:f 0 b) (h3:o 0 b a r b1) (F:h 0 b a r b1) (k:Q) (e:B 0 b a r b1=Q:=by exact DX):
  A1\/A2\/A3\/A4\/A5\/(∃(id:Nat) (b:BM) (a:List AV) (r:AV) (b1:BM),(Unit->f id b/\h id b a r b1)/\(Unit->o id b a r b1)/\B id b a r b1)\/X:=
 .inr (.inr (.inr (.inr (.inr (.inl ⟨0,b,a,r,b1,fun _=>⟨D,F⟩,fun _=>h3,e.mpr k⟩)))))
theorem vw {n:Nat}:n<=n:=Nat.le_refl n
end Go.Abs
namespace Go.Abs
theorem dL {E:Env} {g:FuncId} {args:List AV} {r:AV} {B:Nat->BM->List AV->Prop} {S:BM->BM} {K:Nat->AV->Prop} {f o F G:Prop} (id:Nat) (b:BM) (H:env Tryz.prog=E) (h:CY Tryz.prog g args (S b) r) (hb:B id b args) (I:K id r):
 f\/o\/F\/(∃(id:Nat) (b:BM) (a:List AV) (r:AV),(Unit->B id b a)/\(Unit->E.D g a (S b) r)/\K id r)\/G:= .inr (.inr (.inr (.inl ⟨id,b,args,r,fun _=>hb,fun _=>Hq H h,I⟩)))
end Go.Abs

namespace Go.Abs
abbrev M5:T:=(.pr .str (.pr .i64 (.pr .i64 (.pr .i64 (.pr .i64 (.pr .i64 .bool))))))
def Oh:List (el M5):=[(⟨#[102,105,120]⟩,1,0,2,1,2,false),(⟨#[100,105,115,116,97,110,99,101]⟩,2,0,1,2,1,false),(⟨#[105,110,99,105,100,101,110,116]⟩,3,0,0,0,1,false),(⟨#[111,102,102,115,101,116]⟩,3,0,1,2,1,true),(⟨#[97,110,103,108,101]⟩,4,0,1,3,1,false),(⟨#[112,97,114,97,108,108,101,108]⟩,4,0,0,0,1,false),(⟨#[112,101,114,112,101,110,100,105,99,117,108,97,114]⟩,4,0,0,0,1,false),(⟨#[101,113,117,97,108]⟩,4,0,0,0,1,false),(⟨#[109,105,100,112,111,105,110,116]⟩,3,0,0,0,2,false),(⟨#[115,121,109,109,101,116,114,105,99]⟩,4,0,0,0,2,false),(⟨#[104,111,114,105,122,111,110,116,97,108]⟩,2,0,0,0,1,false),(⟨#[118,101,114,116,105,99,97,108]⟩,2,0,0,0,1,false),(⟨#[111,110,99,105,114,99,108,101]⟩,1,1,0,0,1,false),(⟨#[114,97,100,105,117,115]⟩,0,1,1,2,1,false),(⟨#[115,97,109,101,114,97,100,105,117,115]⟩,0,2,0,0,1,false),(⟨#[116,97,110,103,101,110,116,108,105,110,101]⟩,2,1,0,0,1,true),(⟨#[116,97,110,103,101,110,116,99,105,114,99,108,101]⟩,0,2,0,0,1,true)]
def DA (k:Int):el M5:=if 1<=k/\k<=17 then Oh.getD (k-1).toNat (⟨#[]⟩,0,0,0,0,0,false) else (⟨#[]⟩,0,0,0,0,0,false)
variable {X:List Int} {a b k x:Int} {c:Bool} {i j:Nat}
theorem cP (h:¬(1<=k/\k<=17)):DA k=(⟨#[]⟩,0,0,0,0,0,false):=if_neg h
theorem q9 {x:el M5} (h:1<=k/\k<=17) (f:Oh[(k-1).toNat]? =some x):DA k=x:=by
 unfold DA;rw[if_pos h,List.getD_eq_getElem?_getD,f];rfl
def LY (k:Int):Bool:=decide (1<=k/\k<=17)
def dfB:List Int->Nat->Bool
 | l,0=>true
 | l,i+1=>dfB l i&& !((l.take i).contains (l.getD i 0))
def EW (n:Int) (l:List Int):Bool:=l.all fun x=>decide (0<=x/\x<n)
def IC (l:List Int):Prop:=∀(i j:Nat) (x y:Int),j<i->l[i]? =some x->l[j]? =some y->x≠y
theorem Sl {p:Int->Bool} (h:X[i]? =some x):(X.drop i).all p=(p x&&(X.drop (i+1)).all p):=by
 have f:=Dh h;rw[List.drop_eq_getElem_cons f,List.all_cons];rw[List.getElem?_eq_getElem f] at h;rw[Option.some.inj h]
theorem Pr {y:Int} (f:X[i]? =some x) (h:X[i]? =some y):x=y:=Option.some.inj (f.symm.trans h)
theorem lk (h:∀(q:Nat) (x y:Int),q<j->X[i]? =some x->X[q]? =some y->x≠y) (ha:X[i]? =some a) (hb:X[j]? =some b) (f:a≠b):∀(q:Nat) (x y:Int),q<j+1->X[i]? =some x->X[q]? =some y->x≠y:=fun q x y D o B=>by
 by_cases e:q=j
 ·subst e;rw[Pr o ha,Pr B hb];exact f
 exact h q x y AA o B
theorem ll (h:∀(p q:Nat) (x y:Int),p<i->q<p->X[p]? =some x->X[q]? =some y->x≠y) (F:i<=j) (B:∀(q:Nat) (x y:Int),q<j->X[i]? =some x->X[q]? =some y->x≠y):
  ∀(p q:Nat) (x y:Int),p<i+1->q<p->X[p]? =some x->X[q]? =some y->x≠y:=fun p q x y G D f o=>by
 by_cases e:p=i
 ·subst e;exact B q x y AA f o
 exact h p q x y AA D f o
theorem W4:CF 139 [] (.one (.sl (.pr .str (.pr .i64 (.pr .i64 (.pr .i64 (.pr .i64 (.pr .i64 .bool)))))) Oh)):=by
 refine AN Tryz.func139 fun E f=>?_
 refine⟨Oh,fun _=>⟨rfl,AF,rfl,AQ⟩,.inr ?_⟩;try conv=>cbv
 exact AM ⟨t2,trivial⟩
theorem Ww {nm:ByteArray} {d e f:Int} {g:Bool} (L:Ew k) (G:(nm,a,b,d,e,f,g)=DA k) (F:c=LY k):CF 62 [AD k] (.BN [(true,[.str nm,.int .i64 a,.int .i64 b,.int .i64 d,.int .i64 e,.int .i64 f,.bool g]),(false,[.bool c])]):=by
 unfold Ew at L;obtain⟨RL,o⟩:∃z:List (el M5),z=Oh:=⟨_,rfl⟩
 have N:RL.length=17:=by rw[o];rfl
 refine AN Tryz.func62 fun E K=>?_
 refine C6 (fun O=>?_) fun O=>?_
 ·have h:=G.trans (cP AA);simp only[Prod.mk.injEq] at h;exact AM ⟨⟨rfl,congrArg _ (h.1),congrArg _ (h.2.1),congrArg _ (h.2.2.1),congrArg _ (h.2.2.2.1),congrArg _ (h.2.2.2.2.1),congrArg _ (h.2.2.2.2.2.1),congrArg _ (h.2.2.2.2.2.2),trivial⟩,⟨rfl,congrArg _ (by rw[F];exact decide_eq_false AA),trivial⟩,trivial⟩
 refine AB K (o ▸ W4) ?_;rintro W ⟨U,f9⟩;refine EX (fun H=>?_) fun H=>?_
 ·have h:=G.trans (cP AA);simp only[Prod.mk.injEq] at h;exact AM ⟨⟨rfl,congrArg _ (h.1),congrArg _ (h.2.1),congrArg _ (h.2.2.1),congrArg _ (h.2.2.2.1),congrArg _ (h.2.2.2.2.1),congrArg _ (h.2.2.2.2.2.1),congrArg _ (h.2.2.2.2.2.2),trivial⟩,⟨rfl,congrArg _ (by rw[F];exact decide_eq_false AA),trivial⟩,trivial⟩
 refine AB K (o ▸ W4) ?_;intro I D;refine BH ((I).toNat) fun J B=>?_
 try conv=>cbv
 obtain⟨Q,S,b1,d1,e1,f1,g1⟩:=J;have h:=G.trans (q9 AA (by rw[<-D,<-o];exact B));simp only[Prod.mk.injEq] at h;exact AM ⟨⟨rfl,congrArg _ (h.1),congrArg _ (h.2.1),congrArg _ (h.2.2.1),congrArg _ (h.2.2.2.1),congrArg _ (h.2.2.2.2.1),congrArg _ (h.2.2.2.2.2.1),congrArg _ (h.2.2.2.2.2.2),trivial⟩,⟨rfl,congrArg _ (by rw[F];exact decide_eq_true AA),trivial⟩,trivial⟩
theorem fV {n:Int} (I:c=EW n X):CF 63 [.one (.sl .i64 X),AD n] (.one (.bool c)):=by
 refine AN Tryz.func63 fun E Z=>?_
 refine Bc [] [0,1,5] [] (fun vs G k=>∃(i':Nat) (i:Int),vs=[.one (.sl .i64 X),AD n,AD i]/\(Ah i i'/\i'<=X.length)/\c=EW n (X.drop i')/\k=X.length-i') (X.length-0) ⟨0,0,rfl,⟨BJ 0,AA⟩,I,rfl⟩ ?_;rintro U o vs G O ⟨i',i,rfl,⟨J,K⟩,hinv,L⟩;have Y:=J.eq;refine Ak ?_;rintro n8 ⟨W,f8⟩;refine Bt (fun N=>?_) fun N=>?_
 ·exact AO (by rw[hinv,List.drop_eq_nil_of_le AA];rfl)
 refine .inr ?_;refine BH i' fun Q f=>?_
 try conv=>cbv
 refine C6 (fun B=>?_) fun B=>?_
 ·exact AO (by rw[hinv];refine (Sl (p:=fun x=>decide (0<=x/\x<n)) f).trans ?_;rw[decide_eq_false AA];rfl)
 refine BH i' fun S h=>?_
 try conv=>cbv
 refine SA (fun D=>?_) fun D=>?_
 ·exact AO (by rw[hinv];refine (Sl (p:=fun x=>decide (0<=x/\x<n)) f).trans ?_;have e:=Pr f h;rw[decide_eq_false AA];rfl)
 intro F H;exact Bz o ⟨i'+1,F,rfl,⟨⟨AA⟩,AA⟩,hinv.trans ((Sl (p:=fun x=>decide (0<=x/\x<n)) f).trans (by have e:=Pr f h;rw[decide_eq_true AA];rfl)),rfl⟩
theorem MH (Q:c=true↔IC X):CF 65 [.one (.sl .i64 X)] (.one (.bool c)):=by
 refine AN Tryz.func65 fun E hE=>?_
 refine Bc [] [0,3] [] (fun vs H k=>∃(i':Nat) (i:Int),vs=[.one (.sl .i64 X),AD i]/\(Ah i i'/\i'<=X.length)/\(∀(p q:Nat) (x y:Int),p<i'->q<p->X[p]? =some x->X[q]? =some y->x≠y)/\k=X.length-i') (X.length-0) ⟨0,0,rfl,⟨BJ 0,AA⟩,fun p q x y h=>absurd h (Nat.not_lt_zero p),rfl⟩ ?_;rintro J0 I vs H a6 ⟨i',i,rfl,⟨W,Y⟩,hinv,a2⟩;have ei:=W.eq;refine Ak ?_;rintro n7 ⟨e7,f7⟩;refine Bt (fun k8=>?_) fun k8=>?_
 ·exact AO (Q.2 fun p q x y h a b=>hinv p q x y (by have:=Dh a;omega) h a b)
 refine .inr ?_;refine Bc [] [0,3,4] [] (fun vs H k=>∃(D:Nat) (j:Int),vs=[.one (.sl .i64 X),AD i,AD j]/\(Ah j D/\D<=i')/\(∀(q:Nat) (x y:Int),q<D->X[i']? =some x->X[q]? =some y->x≠y)/\k=i'-D) (i'-0) ⟨0,0,rfl,⟨BJ 0,AA⟩,fun q x y h=>absurd h (Nat.not_lt_zero q),rfl⟩ ?_;rintro J1 J vs H a7 ⟨D,j,rfl,⟨Z,a1⟩,f,a5⟩;conv=>cbv
 have ej:=Z.eq;refine Bt (fun K=>?_) fun K=>?_
 ·intro L S;exact Bz I ⟨i'+1,L,rfl,⟨⟨AA⟩,AA⟩,ll hinv AA f,rfl⟩
 refine .inr ?_;refine BH i' fun a8 o=>?_
 try conv=>cbv
 refine BH D fun aa B=>?_
 refine AP ?_;intro O G;cases O <;> conv=>cbv
 ·have F:=Bm G;refine AP ?_;intro N U;exact Bz J ⟨D+1,N,rfl,⟨⟨AA⟩,AA⟩,lk f o B F,rfl⟩
 have F:=Bp G;exact AO (Bool.eq_false_iff.2 fun e=>Q.1 e i' D _ _ AA o B F)
end Go.Abs
namespace Go.Abs
abbrev cC (kd:Int) (P C:List Int) (V:List Ex) (sd:Int):List AC:=[.int .i64 kd,.sl .i64 P,.sl .i64 C,.sl .ex V,.int .i64 sd]
abbrev Cu (k:Int) (t:Nat->List LR) (a:Nat->LR):List AC:=[.int .i64 k,.sl (.sl AL) (t 0),.sl AL (a 0),.sl (.sl AL) (t 1),.sl AL (a 1),.sl (.sl AL) (t 2),.sl AL (a 2),.sl (.sl AL) (t 3),.sl AL (a 3),.sl (.sl AL) (t 4),.sl AL (a 4),.sl (.sl AL) (t 5),.sl AL (a 5),.sl (.sl AL) (t 6),.sl AL (a 6),.sl (.sl AL) (t 7),.sl AL (a 7),.sl (.sl AL) (t 8),.sl AL (a 8),.sl (.sl AL) (t 9),.sl AL (a 9)]
abbrev Dr (k:Int) (t:Nat->List LR) (a:Nat->LR) (e:Int):AV:= .BN [(true,Cu k t a),(false,[.int .i64 e])]
def C3 (t:Int):List Int->Nat->List Int
 | [],_=>[]
 | p::r,i=>if p=t then (i:Int)::C3 t r (i+1) else C3 t r (i+1)
variable {C P X AE l:List Int} {V:List Ex} {c:Bool} {i i0:Nat} {kd sd x y:Int}
theorem bO {t:Int}:∀(l:List Int) (i:Nat),C3 t (l++[x]) i=C3 t l i++(if x=t then [((i+l.length:Nat):Int)] else [])
 | [],i=>by simp[C3]
 | p::r,i=>by
  rw[List.cons_append,C3,C3,bO r (i+1),List.length_cons,(AA:i+1+r.length=i+(r.length+1))]
  split <;> rfl
theorem bM (t:Int):∀(l:List Int) (i:Nat),(C3 t l i).length<=l.length
 | [],_=>Nat.le_refl _
 | p::r,i=>by
  have:=bM t r (i+1);rw[C3];split <;> simp <;> omega
theorem bP {t:Int} (h:l[i]? =some x):C3 t (l.take (i+1)) 0=C3 t (l.take i) 0++(if x=t then [(i:Int)] else []):=by
 rw[List.take_add_one,h];have:=bO (t:=t) (x:=x) (l.take i) 0;rw[show (some x).toList=[x] from rfl,this,List.length_take,Nat.min_eq_left (by have:=Dh h;omega),Nat.zero_add]
def E6 (AE C:List Int) (t:Int) (i:Nat):Bool:=AE.getD (C.getD i 0).toNat 0==t
def CG (AE C:List Int) (i:Nat):Int:=AE.getD (C.getD i 0).toNat 0
theorem Lq {n:Int} (h:EW n l=true) (f:l[i]? =some x):0<=x/\x<n:=of_decide_eq_true (List.all_eq_true.1 h x (List.mem_of_getElem? f))
theorem Ny (f:C[i]? =some x) (h:AE[x.toNat]? =some y):CG AE C i=y:=by
 unfold CG;rw[List.getD_eq_getElem?_getD,List.getD_eq_getElem?_getD,f];show (AE[x.toNat]?).getD 0=y;rw[h];rfl
def hasB (P:List Int) (t:Int) (i:Nat):Bool:=(P.getD i 0==t)||(P.getD (i+1) 0==t)
def By (P:List Int) (t:Int):Bool:=P.any fun p=>p==t
def Co (t:Int):List Int->Nat->Int
 | [],_=> -1
 | p::r,i=>if t=p then (i:Int) else Co t r (i+1)
theorem Zt {t:Int} (h:l[i]? =some x):Co t (l.drop i) i=if t=x then (i:Int) else Co t (l.drop (i+1)) (i+1):=by
 have f:=Dh h;rw[List.drop_eq_getElem_cons f,Co];rw[List.getElem?_eq_getElem f] at h;rw[Option.some.inj h]
theorem Zu (t:Int):∀(l:List Int) (i:Nat),decide (Co t l i >= 0)=By l t
 | [],i=>rfl
 | p::r,i=>by
  rw[Co];unfold By;rw[List.any_cons]
  by_cases e:t=p
  ·rw[if_pos e,e];simp
  rw[if_neg e,Zu t r (i+1),beq_eq_false_iff_ne.2 (Ne.symm e)];rfl
theorem Sr {α:Type} {p:α->Bool} {X:List α} {x:α} (h:X[i]? =some x):(X.drop i).any p=(p x||(X.drop (i+1)).any p):=by
 have f:=Dh h;rw[List.drop_eq_getElem_cons f,List.any_cons];rw[List.getElem?_eq_getElem f] at h;rw[Option.some.inj h]
theorem OC (h:l[i]? =some x):l.getD i 0=x:=by rw[List.getD_eq_getElem?_getD,h];rfl
theorem RI {t:Int} {R:List Int} (hP:P.length<=1000000) (hR:R=C3 t P 0):CF 73 [.agg (cC kd P C V sd),AD t] (.one (.sl .i64 R)):=by
 refine AN Tryz.func73 fun E hE=>?_
 rintro N ⟨U,f10⟩;refine Bc [(5,.i64,true)] [1,5,9,10,11] [5] (fun vs S k=>∃(o:List Int) (m i':Nat) (i:Int),vs=[AD t,.one (.BK .i64 5 0 0 m),.one (.sl .i64 P),AD N,AD i]/\S=[.arr 0 .i64 o]/\(Ah i i'/\i'<=P.length/\m=o.length)/\o=C3 t (P.take i') 0/\k=P.length-i') (P.length-0) ⟨[],0,0,0,rfl,rfl,⟨BJ 0,AA,rfl⟩,rfl,rfl⟩ ?_;rintro J0 H vs S a2 ⟨o,m,i',i,rfl,rfl,⟨W,Y,hm⟩,hinv,Z⟩;conv=>cbv
 have ei:=W.eq;have a1:o.length<=P.length:=by rw[hinv];exact Nat.le_trans (bM _ _ _) (by rw[List.length_take];omega)
 refine Bt (fun L=>?_) fun L=>?_
 ·exact AM ⟨⟨rfl,.inl ⟨_,rfl,AA,congrArg _ (by rw[hR,show P=P.take i' from (List.take_of_length_le AA).symm,<-hinv,List.drop_zero,hm,List.take_length])⟩,trivial⟩,trivial⟩
 refine .inr ?_;refine BH i' fun a5 f=>?_
 refine Ak ?_;intro O G;refine .inr ?_;cases O <;> conv=>cbv
 ·have B:=Bm G;refine AP ?_;intro F K;exact Bz H ⟨o,m,i'+1,F,rfl,rfl,⟨⟨AA⟩,AA,hm⟩,by rw[hinv,bP f,if_neg B,List.append_nil],rfl⟩
 have B:=Bp G;refine⟨[i],fun _=>⟨rfl,AF,rfl,⟨rfl,t1,trivial⟩⟩,.inr ?_⟩;try conv=>cbv
 refine .inl ⟨[i],fun _=>⟨rfl,by (first | rfl | omega),rfl,C2 (o.length+1) 8⟩,?_⟩;intro (D:List (el .i64)) Q h;have I:D=(o:List (el .i64))++([i]:List (el .i64)):=h.1;have J:Q=List.length (α:=(el .i64)) D:=h.2;refine AP ?_;intro F K;exact Bz H ⟨D,_,i'+1,F,rfl,rfl,⟨⟨AA⟩,AA,J⟩,by rw[I,hinv,bP f,if_pos B,(AA:i=(i':Int))],rfl⟩
theorem Qi {i t:Int} (G:Ah i i0) (H:i0<C.length) (D:EW (AE.length:Nat) C=true) (F:c=E6 AE C t i0):CF 74 [AD i,.one (.DL (.sl .i64) AE 0),.one (.DL (.pr .i64 (.pr (.sl .i64) (.pr (.sl .i64) (.pr (.sl .ex) .i64)))) (kd,P,C,V,sd) 0),.one (.DL .i64 t 0)] (.one (.bool c)):=by
 have K:=G.eq;refine AN Tryz.func74 fun E L=>?_
 obtain⟨B,f⟩:=Cq (l:=(kd,P,C,V,sd).2.2.1) (i:=i0) AA;refine Cj f ?_;have hw:=Lq D f;refine BH ((B).toNat) fun J h=>?_
 refine AP ?_;intro I o;have e1:=Ny f h;exact AO (by rw[F,o];show (CG AE C i0==t)=_;rw[e1])
theorem Gv {i c:Int} (F:Ah i i0) (G:i0<C.length) (B:EW (AE.length:Nat) C=true) (D:c=CG AE C i0):CF 44 [.agg (cC kd P C V sd),.one (.sl .i64 AE),AD i] (AD c):=by
 have I:=F.eq;refine AN Tryz.func44 fun E J=>?_
 refine BH i0 fun o f=>?_
 try conv=>cbv
 have hw:=Lq B f;refine BH ((o).toNat) fun H h=>?_
 try conv=>cbv
 have e1:=Ny f h;exact AO (D.trans e1)
theorem UT {t:Int} (H:c=By P t):CF 97 [.agg (cC kd P C V sd),AD t] (.one (.bool c)):=by
 refine AN Tryz.func97 fun E U=>?_
 refine Bc [] [1,2,5] [2] (fun vs F k=>∃(i':Nat) (i:Int),vs=[AD t,.one (.BX 2 0 0),AD i]/\F=[.var 0 (cC kd P C V sd)]/\(Ah i i'/\i'<=P.length)/\c=By (P.drop i') t/\k=P.length-i') (P.length-0) ⟨0,0,rfl,rfl,⟨BJ 0,AA⟩,H,rfl⟩ ?_;rintro O o vs F L ⟨i',i,rfl,rfl,⟨I,J⟩,hinv,K⟩;have S:=I.eq;refine Ak ?_;rintro W ⟨Q,f9⟩;refine Bt (fun B=>?_) fun B=>?_
 ·exact AO (by rw[hinv,List.drop_eq_nil_of_le AA];rfl)
 refine .inr ?_;refine BH i' fun N f=>?_
 try conv=>cbv
 refine BV (fun h=>?_) fun h=>?_
 ·exact AO (by rw[hinv];exact (Sr f).trans (by rw[beq_iff_eq.2 h];rfl))
 intro D G;exact Bz o ⟨i'+1,D,rfl,rfl,⟨⟨AA⟩,AA⟩,hinv.trans ((Sr f).trans (by rw[beq_eq_false_iff_ne.2 h];rfl)),rfl⟩
theorem OD {i t:Int} (I:Ah i i0) (J:i0+1<P.length) (Q:P.length<=1000000) (G:c=hasB P t i0):CF 99 [.agg (cC kd P C V sd),AD i,AD t] (.one (.bool c)):=by
 have N:=I.eq;refine AN Tryz.func99 fun E O=>?_
 refine BH i0 fun L f=>?_
 try conv=>cbv
 refine BV (fun h=>?_) fun h=>?_
 ·exact AO (by rw[G];unfold hasB;rw[OC f,beq_iff_eq.2 h];rfl)
 intro B H;refine BH ((B).toNat) fun F o=>?_
 refine Ak ?_;intro K D;exact AO (by rw[G];unfold hasB;rw[OC f,beq_eq_false_iff_ne.2 h,OC (show P[i0+1]? =some F by rw[<-show B.toNat=i0+1 by omega];exact o),D];rfl)
theorem RH {t c:Int} (G:P.length=4) (B:c=if hasB P t 0=true/\hasB P t 2=true then y else if hasB P t 0=true\/hasB P t 2=true then x else 0):CF 98 [.agg (cC kd P C V sd),AD t,AD x,AD y] (AD c):=by
 refine AN Tryz.func98 fun E F=>?_
 obtain⟨D,f⟩:=xB (hasB P t 0);refine AB F (OD (BJ 0) AA AA f) ?_;obtain⟨o,h⟩:=xB (hasB P t 2);refine AB F (OD (BJ 2) AA AA h) ?_;cases D <;> conv=>cbv
 ·cases o <;> conv=>cbv
  ·exact AO (by rw[B,<-f,<-h];simp)
  exact AO (by rw[B,<-f,<-h];simp)
 cases o <;> conv=>cbv
 ·exact AO (by rw[B,<-f,<-h];simp)
 exact AO (by rw[B,<-f,<-h];simp)
theorem PD {t c:Int} (G:c=Co t X 0):CF 48 [.one (.sl .i64 X),AD t] (AD c):=by
 refine AN Tryz.func48 fun E W=>?_
 rintro N ⟨S,f7⟩;refine Bc [] [0,1,7,8] [] (fun vs D k=>∃(i':Nat) (i:Int),vs=[.one (.sl .i64 X),AD t,AD N,AD i]/\(Ah i i'/\i'<=X.length)/\c=Co t (X.drop i') i'/\k=X.length-i') (X.length-0) ⟨0,0,rfl,⟨BJ 0,AA⟩,G,rfl⟩ ?_;rintro Q o vs D L ⟨i',i,rfl,⟨H,I⟩,hinv,J⟩;conv=>cbv
 have U:=H.eq;refine Bt (fun K=>?_) fun K=>?_
 ·exact AO (by rw[hinv,List.drop_eq_nil_of_le AA];rfl)
 refine .inr ?_;refine BH i' fun O f=>?_
 try conv=>cbv
 refine BV (fun h=>?_) fun h=>?_
 ·exact AO (by rw[hinv,Zt f,if_pos h];omega)
 intro B F;exact Bz o ⟨i'+1,B,rfl,⟨⟨AA⟩,AA⟩,hinv.trans ((Zt f).trans (if_neg h)),rfl⟩
theorem Wj {t:Int} (B:c=By X t):CF 75 [.one (.sl .i64 X),AD t] (.one (.bool c)):=by
 refine AN Tryz.func75 fun E o=>?_
 obtain⟨F,f⟩:=xI (Co t X 0);refine AB o (PD f) ?_;intro D h;exact AO (by rw[B,h,f,Zu])
end Go.Abs
namespace Go.Abs
variable {Aa Ab Ac Ad Ax Ay vl:LR} {C P X AE:List Int} {Ta Tb Tc Td Tx Ty:List LR} {V:List Ex} {Dc c e e1 f1 i kd AG r sd:Int} {cr:List (el AR)} {g:FuncId} {i0 p0:Nat} {x y:el AR}
theorem C8 {A1 A2 A3 A4 A5 X:Prop} {f:Nat->BM->Prop} {h o B:Nat->BM->List AV->AV->BM->Prop} (id:Nat) {b:BM} {a:List AV} {r:AV} {b1:BM} (D:f id b) (h3:o id b a r b1) (F:h id b a r b1) (G:B id b a r b1):
  A1\/A2\/A3\/A4\/A5\/(∃(id:Nat) (b:BM) (a:List AV) (r:AV) (b1:BM),(Unit->f id b/\h id b a r b1)/\(Unit->o id b a r b1)/\B id b a r b1)\/X:=
 .inr (.inr (.inr (.inr (.inr (.inl ⟨id,b,a,r,b1,fun _=>⟨D,F⟩,fun _=>h3,G⟩)))))
abbrev BI (kd:Int) (P C:List Int) (V:List Ex) (sd:Int) (vl:LR) (AE:List Int) (AG:Int) (cr:List (el AR)) (e:Int):List AC:=[.int .i64 kd,.sl .i64 P,.sl .i64 C,.sl .ex V,.int .i64 sd,.sl AL vl,.sl .i64 AE,.int .i64 AG,.sl AR cr,.int .i64 e]
abbrev Ie:T:= .pr eh (.pr (.sl AL) (.pr (.sl .i64) (.pr .i64 (.pr (.sl AR) .i64))))
theorem cy {p:Int} (B:Ah p p0) (hb:p0<=1000000) (D:cr[2*p0]? =some x) (F:cr[2*p0+1]? =some y):Bi Tryz.prog 154 [BT,AD p] (.var 0 (BI kd P C V sd vl AE AG cr e)) (.agg (AI x.1 x.2 y.1 y.2)) (.var 0 (BI kd P C V sd vl AE AG cr e)):=by
 have J:=B.eq;refine CI Tryz.func154 (by kernel_rfl) rfl fun E K=>?_
 refine AP ?_;intro G f;refine Cj D ?_;intro H h I o;refine Cj F ?_;refine AQ
theorem dH (o:Ah i i0) {p:Int} (B:Ah p p0) (hb:p0<=1000000) (D:cr[2*p0]? =some x) (F:cr[2*p0+1]? =some y) (h:P[i0]? =some p):Bi Tryz.prog 82 [BT,AD i] (.var 0 (BI kd P C V sd vl AE AG cr e)) (.agg (AI x.1 x.2 y.1 y.2)) (.var 0 (BI kd P C V sd vl AE AG cr e)):=by
 have G:=o.eq;refine CI Tryz.func82 (by kernel_rfl) rfl fun E f=>?_
 conv=>cbv
 refine Cj h ?_;refine vu rfl (BE f (cy B hb D F)) AQ ?_
 refine AQ
theorem rL (B:Ah i i0) {p:Int} (D:Ah p p0) (hb:p0<=1000000) (G:cr[2*p0]? =some x) (H:cr[2*p0+1]? =some y) (f:C[i0]? =some c) (o:0<=c) (F:AE[c.toNat]? =some p):Bi Tryz.prog 125 [BT,AD i] (.var 0 (BI kd P C V sd vl AE AG cr e)) (.agg (AI x.1 x.2 y.1 y.2)) (.var 0 (BI kd P C V sd vl AE AG cr e)):=by
 have I:=B.eq;refine CI Tryz.func125 (by kernel_rfl) rfl fun E h=>?_
 conv=>cbv
 refine Cj f ?_;refine Cj F ?_;refine vu rfl (BE h (cy D hb G H)) AQ ?_
 refine AQ
theorem sA (D:Ah i i0) (o:C[i0]? =some c) (B:0<=c/\c<=1000000) (F:0<=AG/\AG<=1000000) (G:cr[(2*AG+c).toNat]? =some x):Bi Tryz.prog 124 [BT,AD i] (.var 0 (BI kd P C V sd vl AE AG cr e)) (.agg (AK x.1 x.2)) (.var 0 (BI kd P C V sd vl AE AG cr e)):=by
 have J:=D.eq;refine CI Tryz.func124 (by kernel_rfl) rfl fun E K=>?_
 refine AP ?_;intro H f;refine Cj o ?_;intro I h;refine Cj G ?_;refine AQ
theorem dK {b1 b2:Bool} {l1 l2:List UInt32} {Tt:List LR} {At:LR} (o:Ah i i0) (B:vl[i0]? =some ((b1,l1),b2,l2)) (h:CF 153 [.agg (CT b1 l1 b2 l2)] (.agg (AK Tt At))):Bi Tryz.prog 84 [BT,AD i] (.var 0 (BI kd P C V sd vl AE AG cr e)) (.agg (AK Tt At)) (.var 0 (BI kd P C V sd vl AE AG cr e)):=by
 have D:=o.eq;refine CI Tryz.func84 (by kernel_rfl) rfl fun E f=>?_
 conv=>cbv
 refine⟨((b1,l1),b2,l2),fun _=>⟨AA,by rw[(AA:i.toNat=i0)];exact B⟩,?_⟩;try conv=>cbv
 refine AB f h ?_;refine AQ
theorem Oj (he:e1=if e=0 then f1 else e):Bi Tryz.prog 123 [BT,.agg (AK Ta Aa),AD f1] (.var 0 (BI kd P C V sd vl AE AG cr e)) (.agg (AK Ta Aa)) (.var 0 (BI kd P C V sd vl AE AG cr e1)):=by
 refine CI Tryz.func123 (by kernel_rfl) rfl fun E B=>?_
 refine Ak ?_;intro o h;refine .inr ?_;cases o <;> conv=>cbv
 ·have f:=Bm h;refine fun _=>⟨⟨⟨t3,trivial⟩,rfl,AZ⟩,by rw[he,if_neg f];rfl⟩
 have f:=Bp h;refine fun _=>⟨⟨⟨t3,trivial⟩,rfl,AZ⟩,by rw[he,if_pos f];rfl⟩
theorem Lk (he:e1=if e=0 then f1 else e):Bi Tryz.prog 152 [BT,.agg (AI Ta Aa Tb Ab),AD f1] (.var 0 (BI kd P C V sd vl AE AG cr e)) (.agg (AI Ta Aa Tb Ab)) (.var 0 (BI kd P C V sd vl AE AG cr e1)):=by
 refine CI Tryz.func152 (by kernel_rfl) rfl fun E B=>?_
 refine Ak ?_;intro o h;refine .inr ?_;cases o <;> conv=>cbv
 ·have f:=Bm h;refine fun _=>⟨⟨⟨⟨rfl,rfl,rfl,rfl,rfl,trivial⟩,trivial⟩,rfl,AZ⟩,by rw[he,if_neg f];rfl⟩
 have f:=Bp h;refine fun _=>⟨⟨⟨⟨rfl,rfl,rfl,rfl,rfl,trivial⟩,trivial⟩,rfl,AZ⟩,by rw[he,if_pos f];rfl⟩
theorem Lj (he:e1=if e=0 then f1 else e):Bi Tryz.prog 90 [BT,.agg (Bu Ta Aa Tb Ab Tc Ac),AD f1] (.var 0 (BI kd P C V sd vl AE AG cr e)) (.agg (Bu Ta Aa Tb Ab Tc Ac)) (.var 0 (BI kd P C V sd vl AE AG cr e1)):=by
 refine CI Tryz.func90 (by kernel_rfl) rfl fun E B=>?_
 refine Ak ?_;intro o h;refine .inr ?_;cases o <;> conv=>cbv
 ·have f:=Bm h;refine fun _=>⟨⟨⟨⟨rfl,rfl,rfl,rfl,rfl,rfl,rfl,trivial⟩,trivial⟩,rfl,AZ⟩,by rw[he,if_neg f];rfl⟩
 have f:=Bp h;refine fun _=>⟨⟨⟨⟨rfl,rfl,rfl,rfl,rfl,rfl,rfl,trivial⟩,trivial⟩,rfl,AZ⟩,by rw[he,if_pos f];rfl⟩
theorem rU (he:e1=if e=0 then f1 else e):Bi Tryz.prog 171 [BT,.agg (Bu Ta Aa Tb Ab Tc Ac),AD f1] (.var 0 (BI kd P C V sd vl AE AG cr e)) (.agg (Bu Ta Aa Tb Ab Tc Ac)) (.var 0 (BI kd P C V sd vl AE AG cr e1)):=by
 refine CI Tryz.func171 (by kernel_rfl) rfl fun E B=>?_
 refine Ak ?_;intro o h;refine .inr ?_;cases o <;> conv=>cbv
 ·have f:=Bm h;refine fun _=>⟨⟨⟨⟨rfl,rfl,rfl,rfl,rfl,rfl,rfl,trivial⟩,trivial⟩,rfl,AZ⟩,by rw[he,if_neg f];rfl⟩
 have f:=Bp h;refine fun _=>⟨⟨⟨⟨rfl,rfl,rfl,rfl,rfl,rfl,rfl,trivial⟩,trivial⟩,rfl,AZ⟩,by rw[he,if_pos f];rfl⟩
theorem H7 (he:e1=if e=0 then f1 else e) (h:CF 166 [.agg (AI Tc Ac Td Ad),.agg (AI Ta Aa Tb Ab)] (AS (AI Tx Ax Ty Ay) f1)):Bi Tryz.prog 158 [BT,.agg (AI Ta Aa Tb Ab),.agg (AI Tc Ac Td Ad)] (.var 0 (BI kd P C V sd vl AE AG cr e)) (.agg (AI Tx Ax Ty Ay)) (.var 0 (BI kd P C V sd vl AE AG cr e1)):=by
 refine CI Tryz.func158 (by kernel_rfl) rfl fun E f=>?_
 conv=>cbv
 refine AB f h ?_;refine vu rfl (BE f (Lk he)) AQ ?_
 refine AQ
theorem My (f:CF g [.agg (AK Ta Aa),.agg (AK Tb Ab)] (AS (AK Tx Ax) f1)):Bi Tryz.prog 127 [BT,.one (.fn g),.agg (AK Ta Aa),.agg (AK Tb Ab)] (.var 0 (BI kd P C V sd vl AE AG cr 0)) (.agg (AK Tx Ax)) (.var 0 (BI kd P C V sd vl AE AG cr f1)):=by
 refine CI Tryz.func127 (by kernel_rfl) rfl fun E h=>?_
 conv=>cbv
 refine AY ?_;refine AB h f ?_;refine vu rfl (BE h (Oj (e:=0) (e1:=f1) (f1:=f1) (by simp))) AQ ?_
 refine AQ
theorem Kf (f:CF 155 [.agg (AK Ta Aa),.agg (AK Ta Aa)] (AS (AK Tx Ax) f1)):Bi Tryz.prog 83 [BT,.agg (AK Ta Aa)] (.var 0 (BI kd P C V sd vl AE AG cr 0)) (.agg (AK Tx Ax)) (.var 0 (BI kd P C V sd vl AE AG cr f1)):=by
 refine CI Tryz.func83 (by kernel_rfl) rfl fun E h=>?_
 conv=>cbv
 refine vu rfl (BE h (My f)) AQ ?_
 refine AQ
theorem I9 {Ts:List LR} {As:LR} (he:e1=if r=0 then 6 else 0) (D:CF 49 [.agg (AK Ts As)] (AD r)):Bi Tryz.prog 81 [BT,.agg (AI Ta Aa Tb Ab),.agg (AK Ts As)] (.var 0 (BI kd P C V sd vl AE AG cr 0)) (.agg [.int .i64 2,BC,BD,BC,BD,BC,BD,BC,BD,BC,BD,BA Ta,AU Aa,BA Tb,AU Ab,BA Ts,AU As,BC,BD,BC,BD]) (.var 0 (BI kd P C V sd vl AE AG cr e1)):=by
 refine CI Tryz.func81 (by kernel_rfl) rfl fun E B=>?_
 conv=>cbv
 refine Bx ?_;refine AB B D ?_;intro o h;refine .inr ?_;cases o <;> conv=>cbv
 ·have f:=Bm h;refine fun _=>⟨⟨⟨⟨rfl,rfl,CN,CN,CN,CN,CN,CN,CN,CN,CN,CN,rfl,rfl,rfl,rfl,rfl,rfl,CN,CN,CN,CN,trivial⟩,trivial⟩,rfl,AZ⟩,by rw[he,if_neg f];rfl⟩
 have f:=Bp h;refine fun _=>⟨⟨⟨⟨rfl,rfl,CN,CN,CN,CN,CN,CN,CN,CN,CN,CN,rfl,rfl,rfl,rfl,rfl,rfl,CN,CN,CN,CN,trivial⟩,trivial⟩,rfl,AZ⟩,by rw[he,if_pos f];rfl⟩
theorem Vu {Tz:List LR} {Az:LR} {f2 e2:Int} (he:e1=if e=0 then f1 else e) (h:e2=if e1=0 then f2 else e1) (B:CF 166 [.agg (AI Tc Ac Td Ad),.agg (AI Ta Aa Tb Ab)] (AS (AI Tx Ax Ty Ay) f1)) (o:CF 194 [.agg (AI Tx Ax Ty Ay)] (AS (AK Tz Az) f2)):Bi Tryz.prog 122 [BT,.agg (AI Ta Aa Tb Ab),.agg (AI Tc Ac Td Ad)] (.var 0 (BI kd P C V sd vl AE AG cr e)) (.agg (AK Tz Az)) (.var 0 (BI kd P C V sd vl AE AG cr e2)):=by
 refine CI Tryz.func122 (by kernel_rfl) rfl fun E f=>?_
 conv=>cbv
 refine vu rfl (BE f (H7 he B)) AQ ?_
 refine AB f o ?_;refine vu rfl (BE f (Oj h)) AQ ?_
 refine AQ
abbrev Ra (kd:Int) (P C:List Int) (V:List Ex) (sd:Int) (vl:LR) (AE:List Int) (AG:Int) (cr:List (el AR)) (e:Int):el Ie:=((kd,P,C,V,sd),vl,AE,AG,cr,e)
def Jd (p:Int->Bool):Nat->List Int->Int
 | _,[]=> -1
 | i,x::r=>if p x=true then (i:Int) else Jd p (i+1) r
theorem Zb {p:Int->Bool} {i:Nat} {x:Int} (h:X[i]? =some x):Jd p i (X.drop i)=if p x=true then (i:Int) else Jd p (i+1) (X.drop (i+1)):=by
 have f:=Dh h;rw[List.drop_eq_getElem_cons f,Jd];rw[List.getElem?_eq_getElem f] at h;rw[Option.some.inj h]
theorem Za (p:Int->Bool):∀(l:List Int) (i:Nat),decide (Jd p i l >= 0)=l.any p
 | [],i=>rfl
 | x::r,i=>by
  rw[Jd,List.any_cons]
  by_cases e:p x=true
  ·rw[if_pos e,e];simp
  rw[if_neg e,Za p r (i+1),Bool.eq_false_iff.2 e];rfl
theorem gS {I:el Ie} {p:Int->Bool} (Q:∀x∈X,CF g [AD x,.one (.DL .i64 Dc 0),.one (.DL (.rf Ie) I 0)] (.one (.bool (p x)))) (Y:r=Jd p 0 X):CF 150 [.one (.sl .i64 X),.one (.Fp g [⟨.i64,Dc⟩,⟨(.rf Ie),I⟩])] (AD r):=by
 refine AN Tryz.func150 fun E O=>?_
 intro n7 F;have e7:=F.eq;have f7:=F.le;refine Bc [] [0,1,7,8] [] (fun vs K k=>∃(o:Nat) (L j:Int),vs=[.one (.sl .i64 X),.one (.Fp g [⟨.i64,Dc⟩,⟨.rf Ie,I⟩]),AD L,AD j]/\(EJ L X.length/\Ah j o/\o<=X.length)/\r=Jd p o (X.drop o)/\k=X.length-o) (X.length-0) ⟨0,n7,0,rfl,⟨F,BJ 0,AA⟩,Y,rfl⟩ ?_;rintro J0 G vs K a1 ⟨o,L,j,rfl,⟨J,S,U⟩,hinv,W⟩;conv=>cbv
 have eL:=J.eq;have ej:=S.eq;refine Bt (fun Z=>?_) fun Z=>?_
 ·exact AO (by rw[hinv,List.drop_eq_nil_of_le AA];rfl)
 refine .inr ?_;refine BH o fun D h=>?_
 try conv=>cbv
 obtain⟨B,f⟩:=xB (p D);refine AB (r:= .one (.bool B)) O ((by rw[f];exact Q D (List.mem_of_getElem? h))) ?_;cases B <;> conv=>cbv
 ·refine AP ?_;intro H N;exact Bz G ⟨o+1,L,H,rfl,⟨J,⟨AA⟩,AA⟩,hinv.trans ((Zb h).trans (by rw[<-f];rfl)),rfl⟩
 exact AO (by rw[hinv,Zb h,<-f,if_pos rfl];omega)
theorem Wh {h:el Ie} {p:Int->Bool} (F:∀x∈X,CF g [AD x,.one (.DL .i64 Dc 0),.one (.DL (.rf Ie) h 0)] (.one (.bool (p x)))) {c:Bool} (D:c=X.any p):CF 76 [.one (.sl .i64 X),.one (.Fp g [⟨.i64,Dc⟩,⟨(.rf Ie),h⟩])] (.one (.bool c)):=by
 refine AN Tryz.func76 fun E B=>?_
 obtain⟨H,f⟩:=xI (Jd p 0 X);refine AB B (gS F f) ?_;intro G o;exact AO (by rw[D,o,f];exact (Za p X 0).symm)
theorem Vv {q b:Bool} (Q:0<=AG/\AG<=1000000) (I:(cr.length:Int)=2*AG+(AE.length:Nat)->CF 76 [.one (.sl .i64 C),.one (.Fp 77 [⟨.i64,Dc⟩,⟨.rf Ie,(Ra kd P C V sd vl AE AG cr e)⟩])] (.one (.bool q))) (hb:b=(decide ((cr.length:Int)=2*AG+(AE.length:Nat))&& !q)):Bi Tryz.prog 25 [BT,AD Dc] (.var 0 (BI kd P C V sd vl AE AG cr e)) (.one (.bool b)) (.var 0 (BI kd P C V sd vl AE AG cr e)):=by
 refine CI Tryz.func25 (by kernel_rfl) rfl fun E H=>?_
 conv=>cbv
 rintro S ⟨O,f9⟩;conv=>cbv
 intro J F;conv=>cbv
 refine Dx ?_;rintro K ⟨D,f19⟩;conv=>cbv
 intro L G;conv=>cbv
 refine Dx ?_;intro B f;conv=>cbv
 refine Bl ?_;cases B <;> conv=>cbv
 ·have o:=HK f;refine .inr (.inr (.inr (.inr (.inr (.inl ⟨[0],[.one (.sl .i64 C),.one (.Fp 77 [⟨.i64,Dc⟩,⟨(.rf Ie),(Ra kd P C V sd vl AE AG cr e)⟩])],.one (.bool q),fun _=>⟨rfl,⟨[⟨.i64,Dc⟩,⟨(.rf Ie),(Ra kd P C V sd vl AE AG cr e)⟩],⟨rfl,⟨0,0,AZ,rfl,rfl⟩,trivial⟩,rfl⟩,trivial⟩,fun _=>GX H (PY rfl (I AA)),?_⟩)))));try conv=>cbv
  intro N h;conv=>cbv
  refine fun _=>⟨⟨⟨⟨rfl,congrArg _ (by rw[hb,decide_eq_true AA,h];rfl),trivial⟩,trivial⟩,rfl,AZ⟩,rfl⟩
 have o:=HM f;refine fun _=>⟨⟨⟨⟨rfl,congrArg _ (by rw[hb,decide_eq_false AA];rfl),trivial⟩,trivial⟩,rfl,AZ⟩,rfl⟩
end Go.Abs
namespace Go.Abs
variable {Aa Ab Ac Ad Al Am An Ax Ay vl:LR} {C P AE:List Int} {Ta Tb Tc Td Tl Tm Tn Tx Ty:List LR} {V:List Ex} {cr:List (el AR)} {f1 kd AG sd:Int}
theorem Ok {e:Int} {e1:Int} (he:e1=if e=0 then f1 else e):Bi Tryz.prog 157 [BT,.agg [.int .i64 0,.nil,.nil,.nil,.nil,.nil,.nil,.nil,.nil,.nil,.nil,.nil,.nil,.nil,.nil,.nil,.nil,.nil,.nil,.nil,.nil],AD f1] (.var 0 (BI kd P C V sd vl AE AG cr e)) (.agg (Cu 0 Bv Bv)) (.var 0 (BI kd P C V sd vl AE AG cr e1)):=by
 refine CI Tryz.func157 (by kernel_rfl) rfl fun E B=>?_
 refine Ak ?_;intro o h;refine .inr ?_;cases o <;> conv=>cbv
 ·have f:=Bm h;refine fun _=>⟨⟨⟨⟨rfl,rfl,CN,CN,CN,CN,CN,CN,CN,CN,CN,CN,CN,CN,CN,CN,CN,CN,CN,CN,CN,CN,trivial⟩,trivial⟩,rfl,AZ⟩,by rw[he,if_neg f];rfl⟩
 have f:=Bp h;refine fun _=>⟨⟨⟨⟨rfl,rfl,CN,CN,CN,CN,CN,CN,CN,CN,CN,CN,CN,CN,CN,CN,CN,CN,CN,CN,CN,CN,trivial⟩,trivial⟩,rfl,AZ⟩,by rw[he,if_pos f];rfl⟩
theorem Mx (h:CF 168 [.agg (AI Ta Aa Tb Ab),.agg (AI Tc Ac Td Ad)] (AS (Bu Tl Al Tm Am Tn An) f1)):Bi Tryz.prog 92 [BT,.agg (AI Ta Aa Tb Ab),.agg (AI Tc Ac Td Ad)] (.var 0 (BI kd P C V sd vl AE AG cr 0)) (.agg [.int .i64 1,BA Tl,AU Al,BA Tm,AU Am,BA Tn,AU An,BA Tc,AU Ac,BA Td,AU Ad,BC,BD,BC,BD,BC,BD,BC,BD,BC,BD]) (.var 0 (BI kd P C V sd vl AE AG cr f1)):=by
 refine CI Tryz.func92 (by kernel_rfl) rfl fun E f=>?_
 conv=>cbv
 refine AY ?_;refine AB f h ?_;refine vu rfl (BE f (Lj (e:=0) (e1:=f1) (f1:=f1) (by simp))) AQ ?_
 refine AQ
theorem dB (h:CF 156 [.agg (AI Ta Aa Tb Ab),.agg (AI Tc Ac Td Ad)] (.one (.bool true))):Bi Tryz.prog 85 [BT,.agg (AI Ta Aa Tb Ab),.agg (AI Tc Ac Td Ad)] (.var 0 (BI kd P C V sd vl AE AG cr 0)) (.agg (Cu 0 Bv Bv)) (.var 0 (BI kd P C V sd vl AE AG cr 11)):=by
 refine CI Tryz.func85 (by kernel_rfl) rfl fun E f=>?_
 conv=>cbv
 refine AB f h ?_;refine C8 0 rfl (BE f (Ok (e:=0) (e1:=11) (by simp))) ⟨⟨⟨rfl,rfl⟩,rfl⟩,⟨rfl,.inl rfl,.inl rfl,.inl rfl,.inl rfl,.inl rfl,.inl rfl,.inl rfl,.inl rfl,.inl rfl,.inl rfl,.inl rfl,.inl rfl,.inl rfl,.inl rfl,.inl rfl,.inl rfl,.inl rfl,.inl rfl,.inl rfl,.inl rfl,trivial⟩,rfl,trivial⟩ ?_;try conv=>cbv
 refine AQ
theorem dA (B:CF 156 [.agg (AI Ta Aa Tb Ab),.agg (AI Tc Ac Td Ad)] (.one (.bool false))) (o:CF 166 [.agg (AI Tc Ac Td Ad),.agg (AI Ta Aa Tb Ab)] (AS (AI Tx Ax Ty Ay) 0)) (h:CF 168 [.agg (AI Ta Aa Tb Ab),.agg (AI Tx Ax Ty Ay)] (AS (Bu Tl Al Tm Am Tn An) 0)):Bi Tryz.prog 85 [BT,.agg (AI Ta Aa Tb Ab),.agg (AI Tc Ac Td Ad)] (.var 0 (BI kd P C V sd vl AE AG cr 0)) (.agg [.int .i64 1,BA Tl,AU Al,BA Tm,AU Am,BA Tn,AU An,BA Tx,AU Ax,BA Ty,AU Ay,BC,BD,BC,BD,BC,BD,BC,BD,BC,BD]) (.var 0 (BI kd P C V sd vl AE AG cr 0)):=by
 refine CI Tryz.func85 (by kernel_rfl) rfl fun E f=>?_
 conv=>cbv
 refine AB f B ?_;refine vu rfl (BE f (H7 (e:=0) (e1:=0) (by simp) o)) AQ ?_
 refine vu rfl (BE f (Mx h)) AQ ?_
 refine AQ
theorem RZ:Bi Tryz.prog 79 [BT,.agg (AI Ta Aa Tb Ab),AD f1] (.var 0 (BI kd P C V sd vl AE AG cr 0)) (.agg [.int .i64 3,BC,BD,BC,BD,BC,BD,BC,BD,BC,BD,BC,BD,BC,BD,BC,BD,BA Ta,AU Aa,BA Tb,AU Ab]) (.var 0 (BI kd P C V sd vl AE AG cr f1)):=by
 refine CI Tryz.func79 (by kernel_rfl) rfl fun E f=>?_
 conv=>cbv
 refine vu rfl (BE f (Lk (e:=0) (e1:=f1) (f1:=f1) (by simp))) AQ ?_
 refine AQ
theorem dG {Tt:List LR} {At:LR} (h:CF 159 [.agg (AI Ta Aa Tb Ab),.agg (AI Tc Ac Td Ad),.agg (AK Tt At),AD sd] (AS (Bu Tl Al Tm Am Tn An) f1)) (o:CF 166 [.agg (AI Tc Ac Td Ad),.agg (AI Ta Aa Tb Ab)] (AS (AI Tx Ax Ty Ay) 0)):Bi Tryz.prog 86 [BT,.agg (AI Ta Aa Tb Ab),.agg (AI Tc Ac Td Ad),.agg (AK Tt At)] (.var 0 (BI kd P C V sd vl AE AG cr 0)) (.agg [.int .i64 1,BA Tl,AU Al,BA Tm,AU Am,BA Tn,AU An,BA Tx,AU Ax,BA Ty,AU Ay,BC,BD,BC,BD,BC,BD,BC,BD,BC,BD]) (.var 0 (BI kd P C V sd vl AE AG cr f1)):=by
 refine CI Tryz.func86 (by kernel_rfl) rfl fun E f=>?_
 conv=>cbv
 refine AB f h ?_;refine vu rfl (BE f (Lj (e:=0) (e1:=f1) (f1:=f1) (by simp))) AQ ?_
 refine vu rfl (BE f (H7 (e:=f1) (e1:=f1) (by split <;> omega) o)) AQ ?_
 refine AQ
theorem sU {Tp Tq:List LR} {Ap Aq:LR} (o:CF 166 [.agg (AI Ta Aa Tb Ab),.agg (AI Tc Ac Td Ad)] (AS (AI Tx Ax Ty Ay) 0)) (h:CF 160 [.agg (AI Ta Aa Tb Ab),.agg (AI Tx Ax Ty Ay)] (AS (AI Tp Ap Tq Aq) f1)):Bi Tryz.prog 88 [BT,.agg (AI Ta Aa Tb Ab),.agg (AI Tc Ac Td Ad)] (.var 0 (BI kd P C V sd vl AE AG cr 0)) (AS (AI Tp Ap Tq Aq) f1) (.var 0 (BI kd P C V sd vl AE AG cr 0)):=by
 refine CI Tryz.func88 (by kernel_rfl) rfl fun E f=>?_
 conv=>cbv
 refine vu rfl (BE f (H7 (e:=0) (e1:=0) (by simp) o)) AQ ?_
 refine AB f h ?_;refine AQ
end Go.Abs
namespace Go.Abs
section
variable {P:AH->Prop} {R0:Nat}
theorem oo {α:Type} {Q:α->Prop} {f:α->Nat} {m:Nat} (hm:∀a,Q a->f a<=m) {a:α} (ha:Q a):∃b,Q b/\∀c,Q c->f c<=f b:=by
 induction h:m-f a using Nat.strongRecOn generalizing a with
 | _ n F=>
  by_cases B:∀c,Q c->f c<=f a
  ·exact⟨a,ha,B⟩
  obtain⟨c,D⟩:=Classical.not_forall.1 B;obtain⟨o,h3⟩:=Classical.not_imp.1 D;have:=hm c o;exact F (m-f c) AA o rfl
theorem Tf.top (I:Ci P R0) {m:Nat} (hm:∀{u},Tf P u->u.length<=m):∃w,Tf P w/\∀{u},Tf P u->Br u w:=by
 obtain⟨w,hw,L⟩:=oo (Q:=Tf P) (f:=List.length) (fun u h=>hm h) Tf.nil;have G:=hw.red I
 have key:∀{u},P u->Br u w:=by
  intro u
  induction u with
  | nil=>exact fun _=>MN w
  | cons r u F=>
   intro o;have B:=F (I.sub o);have J:=I.red o;refine KI G B ?_
   have D:Sq w (AW u r):=by
    apply Classical.byContradiction;intro K;have:=L _ (Tf.BW hw o B);rw[Dv K,List.length_cons] at this;omega
   exact (Lm (by have:=J.2.2.1;grind)).1 D
 refine⟨w,hw,fun {u} h=>?_⟩
 induction h with
 | nil=>exact MN w
 | @BW u r0 H ht o B F=>
  by_cases D:Sq u (AW H r0)
  ·rw[Ec D];exact F
  rw[Dv D];refine KI G F ?_;rw[Jt (B _ (Ch (I.red o)))];exact key o _ (Je H r0)
end
theorem El.down {u:AH} {s:Nat} {x:Re} (B:In u x):∀{v:AH},BG (v++u)->El (v++u) s x->El u s x
 | [],_,h=>h
 | r::v,o,h=>by
  have f:In (v++u) x:=N7 v x B;refine El.down B (v:=v) o.1 ⟨f,?_⟩;obtain⟨D,d0,d1,d2,d3⟩:=h.bd;have e:co (r::(v++u)) x=co (v++u) x++co (v++u) 0:=Dq o f (Cs _) (by grind);rw[List.cons_append,e] at d2 d3;exact⟨D,d0,d1,(DN.app.1 d2).1,(MX.app.1 d3).1⟩
structure Fm (TT:AH->Prop) (w:AH) (R b c M q p:Nat):Prop where
 UM:∀{S},R<=S->S<=M*b->Dp TT R (c*b) S
 top:TT w
 all:∀{u},TT u->Br u w
 hR:R<=c*b
 hb:64<=b
 aS:∀{x y s t},El w s x->El w t y->El w (s+t+b) (x*y)
 nw:∀{x y s},El w s x->In w y->x*y=1->El w (q*s+p*b) y
 iu:∀{u},TT u->II u.length R (M*b)<=60000000000000
def Nm (TT:AH->Prop) (w:AH) (b k:Nat) (T:List (List (el AL))) (A:List (el AL)) (x:Re):Prop:=∃u,TT u/\T=tw u/\A=em u x/\In u x/\El w (k*b) x
section
variable {TT:AH->Prop} {w:AH} {R b c M q p k l:Nat} {T T1 T2:List (List (el AL))} {A A1 A2:List (el AL)} {x y:Re}
theorem Fm.g (F:Fm TT w R b c M q p) (h:k<=M) (f:c<=k):Dp TT R (c*b) (k*b):=F.UM (Nat.le_trans F.hR (Nat.mul_le_mul_right b f)) (Nat.mul_le_mul_right b h)
theorem Fm.own (F:Fm TT w R b c M q p) (K:c<=M) (h:Nm TT w b k T A x):∃u,TT u/\T=tw u/\A=em u x/\In u x/\El w (k*b) x/\El u ((k+c)*b) x:=by
 obtain⟨u,hu,L,J,H,he⟩:=h;refine⟨u,hu,L,J,H,he,?_⟩;have G:=(F.g K (Nat.le_refl c)).toGam;obtain⟨B,N,h3⟩:=G.CD hu F.top;have f:=G.Cp F.top B h3 he;rw[<-Nat.add_mul] at f;rw[nx] at B f;have o:=(G.Bb B).red;unfold Fk at f o
 split at f
 ·exact f
 rename_i I
 rw[if_neg I] at o
 split at f
 ·rename_i D
  obtain⟨v,rfl⟩:=D;exact El.down H (G.Bb F.top).red f
 rename_i D
 rw[if_neg D] at o;obtain⟨v,e⟩:=QU u w;rw[<-e] at f o;exact El.down H o f
theorem Nm.mono (h:Nm TT w b k T A x) (F:k<=l):Nm TT w b l T A x:=by
 obtain⟨u,f,o,h3,B,D⟩:=h;exact⟨u,f,o,h3,B,D.mono (Nat.mul_le_mul_right b F)⟩
theorem Nm.cast (h:Nm TT w b k T A x) (e:x=y):Nm TT w b k T A y:=e ▸ h
theorem Fm.two (F:Fm TT w R b c M q p) (ha:Nm TT w b k T1 A1 x) (hb:Nm TT w b l T2 A2 y) (S:k+c+1<=M) (U:l+c+1<=M):∃u v j,j<=M/\(j=k+c+1\/j=l+c+1)/\TT u/\TT v/\T1=tw u/\T2=tw v/\A1=em u x/\A2=em v y/\In u x/\In v y/\El w (k*b) x/\El w (l*b) y/\El u (j*b) x/\El v (j*b) y/\Dp TT R (c*b) (j*b)/\TT (CD u v)/\Br u (CD u v)/\Br v (CD u v):=by
 obtain⟨u,hu,B,f,W,I,H⟩:=F.own AA ha;obtain⟨v,N,D,o,Y,K,J⟩:=F.own AA hb
 have key:∀j,j<=M->(j=k+c+1\/j=l+c+1)->k+c+1<=j->l+c+1<=j->∃u v j,j<=M/\(j=k+c+1\/j=l+c+1)/\TT u/\TT v/\T1=tw u/\T2=tw v/\A1=em u x/\A2=em v y/\In u x/\In v y/\El w (k*b) x/\El w (l*b) y/\El u (j*b) x/\El v (j*b) y/\Dp TT R (c*b) (j*b)/\TT (CD u v)/\Br u (CD u v)/\Br v (CD u v):=by
  intro j L Q h3 Z;have G:=F.g L AA;obtain⟨g1,g2,O⟩:=G.toGam.CD hu N;exact⟨u,v,j,L,Q,hu,N,B,D,f,o,W,Y,I,K,H.mono (Nat.mul_le_mul_right b AA),J.mono (Nat.mul_le_mul_right b AA),G,g1,g2,O⟩
 by_cases h:k<=l
 ·exact key (l+c+1) U (.inr rfl) AA vw
 exact key (k+c+1) S (.inl rfl) vw AA
end
end Go.Abs
namespace Go.Abs
section
variable {TT:AH->Prop} {w:AH} {R b c M q p k l:Nat} {T1 T2:List LR} {A1 A2:LR} {x y:Re}
theorem Nm.data {A3:LR} (h:Nm TT w b k T1 A1 x) (B:Nm TT w b l T1 A3 y) (e:x=y):A1=A3:=by
 obtain⟨u,_,F,D,_⟩:=h;obtain⟨v,_,o,f,_⟩:=B;rw[D,f,e,Lp (F.symm.trans o)]
theorem Hi (F:Fm TT w R b c M q p) (ha:Nm TT w b k T1 A1 x) (hb:Nm TT w b l T2 A2 y) (N:k+c+1<=M:=by omega) (O:l+c+1<=M:=by omega):∃T A,Nm TT w b (k+l+1) T A (x+y)/\CF 151 [.agg (AK T1 A1),.agg (AK T2 A2)] (AS (AK T A) 0)/\CF 45 [.agg (AK T1 A1),.agg (AK T2 A2)] (AS (AK T A) 0):=by
 obtain⟨u,v,j,U,_,hu,K,o,B,f,h,Q,S,I,J,D,H,G,g1,g2,L⟩:=F.two ha hb N O;refine⟨_,_,⟨CD u v,g1,rfl,rfl,EM (g2 _ Q) (L _ S),(I.add (G.Bb F.top).red J).mono ?_⟩,gW G.toGam hu K o B f h D H rfl rfl,SR G hu K o B f h D H rfl rfl⟩;have:=F.hb;rw[Nat.add_mul,Nat.add_mul];omega
theorem Jl (F:Fm TT w R b c M q p) (ha:Nm TT w b k T1 A1 x) (hb:Nm TT w b l T2 A2 y) (N:k+c+1<=M:=by omega) (O:l+c+1<=M:=by omega):∃T A,Nm TT w b (k+l+1) T A (x-y)/\CF 128 [.agg (AK T1 A1),.agg (AK T2 A2)] (AS (AK T A) 0)/\CF 57 [.agg (AK T1 A1),.agg (AK T2 A2)] (AS (AK T A) 0):=by
 obtain⟨u,v,j,U,_,hu,K,o,B,f,h,Q,S,I,J,D,H,G,g1,g2,L⟩:=F.two ha hb N O;refine⟨_,_,⟨CD u v,g1,rfl,rfl,GM (g2 _ Q) (L _ S),(I.sub (G.Bb F.top).red J).mono ?_⟩,ga G.toGam hu K o B f h D H rfl rfl,SW G hu K o B f h D H rfl rfl⟩;have:=F.hb;rw[Nat.add_mul,Nat.add_mul];omega
theorem Ef (F:Fm TT w R b c M q p) (ha:Nm TT w b k T1 A1 x) (hb:Nm TT w b l T2 A2 y) (N:k+c+1<=M:=by omega) (O:l+c+1<=M:=by omega):∃T A,Nm TT w b (k+l+1) T A (x*y)/\CF 155 [.agg (AK T1 A1),.agg (AK T2 A2)] (AS (AK T A) 0)/\CF 32 [.agg (AK T1 A1),.agg (AK T2 A2)] (AS (AK T A) 0):=by
 obtain⟨u,v,j,U,_,hu,K,o,B,f,h,Q,S,I,J,D,H,G,g1,g2,L⟩:=F.two ha hb N O;refine⟨_,_,⟨CD u v,g1,rfl,rfl,BO (G.Bb g1).red (g2 _ Q) (L _ S),(F.aS I J).mono ?_⟩,SK G.toGam hu K o B f h D H rfl rfl,SU G hu K o B f h D H rfl rfl⟩;have:=F.hb;rw[Nat.add_mul,Nat.add_mul];omega
theorem Gh (F:Fm TT w R b c M q p) (ha:Nm TT w b k T1 A1 x) (H:k+c+1<=M:=by omega):∃A,Nm TT w b k T1 A (-x)/\CF 50 [.agg (AK T1 A1)] (.agg (AK T1 A))/\CF 17 [.agg (AK T1 A1)] (.agg (AK T1 A)):=by
 obtain⟨u,hu,h,o,I,D,B⟩:=F.own AA ha;have G:=F.g H AA;have f:=B.mono (Nat.mul_le_mul_right b (Nat.le_succ (k+c)));exact⟨_,⟨u,hu,h,rfl,HE I,D.neg (G.Bb F.top).red⟩,SL G.toGam hu h o f rfl,PS G hu h o f rfl⟩
theorem EN (F:Fm TT w R b c M q p) (ha:Nm TT w b k T1 A1 x) (D:k+c+1<=M:=by omega):∃s:Int,s=CA x/\CF 49 [.agg (AK T1 A1)] (AD s)/\CF 16 [.agg (AK T1 A1)] (AD s):=by
 obtain⟨u,hu,o,h,I,H,B⟩:=F.own AA ha;have G:=F.g D AA;have f:=B.mono (Nat.mul_le_mul_right b (Nat.le_succ (k+c)));exact⟨_,rfl,Wq G.toGam hu o h f rfl,Lz G hu o h f rfl⟩
theorem Fm.pair (F:Fm TT w R b c M q p) {j:Nat} (h:2*j+2*c+1<=M):Dp TT R (c*b) ((2*j+2*c+1)*b)/\2*(j*b+c*b)+1<=(2*j+2*c+1)*b:=by
 refine⟨F.g h AA,?_⟩;have:=F.hb;rw[Nat.add_mul,Nat.add_mul,Nat.mul_assoc,Nat.mul_assoc];omega
theorem RC (F:Fm TT w R b c M q p) (ha:Nm TT w b k T1 A1 x) (hb:Nm TT w b l T2 A2 y) (U:2*k+4*c+3<=M:=by omega) (W:2*l+4*c+3<=M:=by omega):∃e:Bool,(e=true↔x=y)/\CF 219 [.agg (AK T1 A1),.agg (AK T2 A2)] (.one (.bool e))/\CF 19 [.agg (AK T1 A1),.agg (AK T2 A2)] (.one (.bool e)):=by
 obtain⟨u,v,j,S,L,hu,I,o,B,f,h,Y,Z,N,O,D,H,G,g1,g2,Q⟩:=F.two ha hb AA AA;obtain⟨J,K⟩:=F.pair (j:=j) AA;obtain⟨e,he⟩:=FC (x=y);exact⟨e,he,gY G.toGam hu I o B f h D H he,XH G hu I o B f h D H J K he⟩
theorem G0 (F:Fm TT w R b c M q p) (ha:Nm TT w b k T1 A1 x) (hb:Nm TT w b l T2 A2 y) {d:Nat} (hd:q*l+p<=d) (O:y≠0) (hk:k+c+1<=M:=by omega) (hl:l+c+1<=M:=by omega) (hi:d+c+1<=M:=by omega):∃T A,Nm TT w b (k+d+1) T A (x*BU y)/\CF 220 [.agg (AK T1 A1),.agg (AK T2 A2)] (AS (AK T A) 0)/\CF 58 [.agg (AK T1 A1),.agg (AK T2 A2)] (AS (AK T A) 0):=by
 obtain⟨u,hu,H,o,hx,W,U⟩:=F.own AA ha;obtain⟨v,h,I,B,hy,Z,Y⟩:=F.own AA hb;have G:=F.g (Nat.le_refl M) AA;obtain⟨g1,g2,g3⟩:=G.toGam.CD hu h;have f:=Qe (G.Bb h).red hy O
 have K:El w (d*b) (BU y):=(F.nw Z (F.all h _ f) (Fj O)).mono (by
  have h2:=Nat.mul_le_mul_right b hd;rw[Nat.add_mul,Nat.mul_assoc] at h2;omega)
 obtain⟨v',a2,Q,a1,_,_,S⟩:=F.own AA (show Nm TT w b d (tw v) (em v (BU y)) (BU y) from⟨v,h,rfl,rfl,f,K⟩);have ev:v'=v:=(Lp Q).symm;subst ev;have D:II v'.length R (M*b)<=60000000000000:=F.iu h;have L:=U.mono (Nat.mul_le_mul_right b (AA:k+c<=M));have N:=Y.mono (Nat.mul_le_mul_right b (AA:l+c<=M));have J:=S.mono (Nat.mul_le_mul_right b (AA:d+c<=M));refine⟨_,_,⟨CD u v',g1,rfl,rfl,BO (G.Bb g1).red (g2 _ hx) (g3 _ f),(F.aS W K).mono ?_⟩,gX G.toGam hu h H I o B L N f (Fj O) J D rfl rfl,XG G hu h H I o B L N f (Fj O) J D rfl rfl⟩;rw[Nat.add_mul,Nat.add_mul,Nat.one_mul];omega
end
end Go.Abs
namespace Go.Abs
structure Vm (TT:AH->Prop) (w:AH) (b k k':Nat) (T1:List LR) (A1:LR) (T2:List LR) (A2:LR) (x y:Re):Prop where
 x:Nm TT w b k T1 A1 x
 y:Nm TT w b k' T2 A2 y
section
variable {TT:AH->Prop} {w:AH} {R b c M q p k k' l l':Nat} {T1 T2:List LR} {A1 A2:LR} {x y x' y':Re}
theorem Vm.mono (h:Vm TT w b k k' T1 A1 T2 A2 x y) (o:k<=l) (f:k'<=l'):Vm TT w b l l' T1 A1 T2 A2 x y:=⟨h.x.mono o,h.y.mono f⟩
theorem Vm.cast (h:Vm TT w b k k' T1 A1 T2 A2 x y) (e:x=x') (f:y=y'):Vm TT w b k k' T1 A1 T2 A2 x' y':=e ▸ f ▸ h
theorem GU (F:Fm TT w R b c M q p) (f:c<=M) {r:Rat} (h:Bd b [r]):Nm TT w b 1 [] (em [] (Re.ofRat r)) (Re.ofRat r):=by
 have G:=F.g f (Nat.le_refl c);exact⟨[],G.nil,rfl,rfl,IV r [],by rw[Nat.one_mul];exact El.rat (G.Bb F.top).red h⟩
theorem Fg {r:Rat} (h:C7 r) (hb:64<=b:=by omega):Bd b [r]:=(Nk (a:=[r]) (fun z f=>by rw[List.mem_singleton.1 f];exact h)).mono hb
end
theorem Pq {g:FuncId} {T1 T2 T3 T4 T5 T6:List LR} {A1 A2 A3 A4 A5 A6:LR} (h:CF g [.agg (AK T1 A1),.agg (AK T3 A3)] (AS (AK T5 A5) 0)) (o:CF g [.agg (AK T2 A2),.agg (AK T4 A4)] (AS (AK T6 A6) 0)):CF 222 [.agg (AI T1 A1 T2 A2),.agg (AI T3 A3 T4 A4),.one (.fn g)] (AS (AI T5 A5 T6 A6) 0):=by
 refine AN Tryz.func222 fun E f=>?_
 refine AB f h ?_;refine AY ?_;refine AB f o ?_;refine AY ?_;exact AM AQ
theorem Ox {TT:AH->Prop} {w:AH} {R b c M q p k k' l l':Nat} (F:Fm TT w R b c M q p) {T1 T2 T3 T4:List LR} {A1 A2 A3 A4:LR} {x1 y1 x2 y2:Re} (o:Vm TT w b k k' T1 A1 T2 A2 x1 y1) (B:Vm TT w b l l' T3 A3 T4 A4 x2 y2) (N:k+c+1<=M:=by omega) (K:k'+c+1<=M:=by omega) (O:l+c+1<=M:=by omega) (L:l'+c+1<=M:=by omega):∃T A h f,Vm TT w b (k+l+1) (k'+l'+1) T A h f (x1+x2) (y1+y2)/\CF 160 [.agg (AI T1 A1 T2 A2),.agg (AI T3 A3 T4 A4)] (AS (AI T A h f) 0):=by
 obtain⟨T5,A5,H,D,_⟩:=Hi F o.x B.x;obtain⟨T6,A6,I,G,_⟩:=Hi F o.y B.y;refine⟨T5,A5,T6,A6,⟨H,I⟩,?_⟩;refine AN Tryz.func160 fun E J=>?_
 refine AB J (Pq D G) ?_;exact AM AQ
theorem Gn {TT:AH->Prop} {w:AH} {R b c M q p k k' l l':Nat} (F:Fm TT w R b c M q p) {T1 T2 T3 T4:List LR} {A1 A2 A3 A4:LR} {x1 y1 x2 y2:Re} (o:Vm TT w b k k' T1 A1 T2 A2 x1 y1) (B:Vm TT w b l l' T3 A3 T4 A4 x2 y2) (N:k+c+1<=M:=by omega) (K:k'+c+1<=M:=by omega) (O:l+c+1<=M:=by omega) (L:l'+c+1<=M:=by omega):∃T A h f,Vm TT w b (k+l+1) (k'+l'+1) T A h f (x1-x2) (y1-y2)/\CF 166 [.agg (AI T1 A1 T2 A2),.agg (AI T3 A3 T4 A4)] (AS (AI T A h f) 0):=by
 obtain⟨T5,A5,H,D,_⟩:=Jl F o.x B.x;obtain⟨T6,A6,I,G,_⟩:=Jl F o.y B.y;refine⟨T5,A5,T6,A6,⟨H,I⟩,?_⟩;refine AN Tryz.func166 fun E J=>?_
 refine AB J (Pq D G) ?_;exact AM AQ
theorem Oy {TT:AH->Prop} {w:AH} {R b c M q p k k' j:Nat} (F:Fm TT w R b c M q p) {T1 T2 T3:List LR} {A1 A2 A3:LR} {x1 y1 n:Re} (B:Vm TT w b k k' T1 A1 T2 A2 x1 y1) (o:Nm TT w b j T3 A3 n) (L:k+c+1<=M:=by omega) (K:k'+c+1<=M:=by omega) (N:j+c+1<=M:=by omega):∃T A h f,Vm TT w b (k+j+1) (k'+j+1) T A h f (x1*n) (y1*n)/\CF 161 [.agg (AI T1 A1 T2 A2),.agg (AK T3 A3)] (AS (AI T A h f) 0):=by
 obtain⟨T5,A5,H,D,_⟩:=Ef F B.x o;obtain⟨T6,A6,I,G,_⟩:=Ef F B.y o;refine⟨T5,A5,T6,A6,⟨H,I⟩,?_⟩;refine AN Tryz.func161 fun E J=>?_
 refine AB J (Pq D G) ?_;exact AM AQ
theorem uL {TT:AH->Prop} {w:AH} {R b c M q p k:Nat} (F:Fm TT w R b c M q p) {T1:List LR} {A1:LR} {n:Re} (B:Nm TT w b k T1 A1 n) (o:k+c+1<=M):CF 236 [.agg (AK T1 A1)] (.agg (AK T1 A1)):=by
 obtain⟨A4,G,D,_⟩:=Gh F B o;obtain⟨A5,H,f,_⟩:=Gh F G o;have e:A5=A1:=Nm.data H B (by grind);rw[e] at f;refine AN Tryz.func236 fun E h=>?_
 refine AB h D ?_;refine AB h f ?_;exact AM ⟨t3,trivial⟩
theorem Rz {TT:AH->Prop} {w:AH} {R b c M q p k k':Nat} (F:Fm TT w R b c M q p) {T1 T2:List LR} {A1 A2:LR} {x1 y1:Re} (h:Vm TT w b k k' T1 A1 T2 A2 x1 y1) (G:k+c+1<=M:=by omega) (f:k'+c+1<=M:=by omega):∃A,Vm TT w b k' k T2 A T1 A1 (-y1) x1/\CF 173 [.agg (AI T1 A1 T2 A2)] (.agg (AI T2 A T1 A1)):=by
 obtain⟨A5,D,B,_⟩:=Gh F h.y f;refine⟨A5,⟨D,h.x⟩,?_⟩;refine AN Tryz.func173 fun E o=>?_
 refine AB o B ?_;refine AB o (uL F h.x G) ?_;exact AM AQ
theorem Ry {TT:AH->Prop} {w:AH} {R b c M q p k k' l l':Nat} (F:Fm TT w R b c M q p) {T1 T2 T3 T4:List LR} {A1 A2 A3 A4:LR} {x1 y1 x2 y2:Re} (h:Vm TT w b k k' T1 A1 T2 A2 x1 y1) (o:Vm TT w b l l' T3 A3 T4 A4 x2 y2) (L:k+l+c+2<=M:=by omega) (K:k'+l'+c+2<=M:=by omega):∃T A,Nm TT w b (k+k'+l+l'+3) T A (x1*x2+y1*y2)/\CF 225 [.agg (AI T1 A1 T2 A2),.agg (AI T3 A3 T4 A4)] (AS (AK T A) 0):=by
 obtain⟨T5,A5,H,B,_⟩:=Ef F h.x o.x;obtain⟨T6,A6,I,D,_⟩:=Ef F h.y o.y;obtain⟨T7,A7,J,G,_⟩:=Hi F H I;refine⟨T7,A7,J.mono AA,?_⟩;refine AN Tryz.func225 fun E f=>?_
 refine AB f (Pq B D) ?_;refine AY ?_;refine AB f G ?_;exact AM ⟨t3,t2,trivial⟩
theorem Kn {TT:AH->Prop} {w:AH} {R b c M q p k k':Nat} (F:Fm TT w R b c M q p) {T1 T2:List LR} {A1 A2:LR} {x1 y1:Re} (f:Vm TT w b k k' T1 A1 T2 A2 x1 y1) (G:2*k+c+2<=M:=by omega) (D:2*k'+c+2<=M:=by omega):∃T A,Nm TT w b (2*k+2*k'+3) T A (x1*x1+y1*y1)/\CF 194 [.agg (AI T1 A1 T2 A2)] (AS (AK T A) 0):=by
 obtain⟨T7,A7,o,h⟩:=Ry F f f;refine⟨T7,A7,o.mono AA,?_⟩;refine AN Tryz.func194 fun E B=>?_
 refine AB B h ?_;exact AM ⟨t3,t2,trivial⟩
theorem Hr {TT:AH->Prop} {w:AH} {R b c M q p k k' l l':Nat} (F:Fm TT w R b c M q p) {T1 T2 T3 T4:List LR} {A1 A2 A3 A4:LR} {x1 y1 x2 y2:Re} (G:Vm TT w b k k' T1 A1 T2 A2 x1 y1) (H:Vm TT w b l l' T3 A3 T4 A4 x2 y2) (O:2*k+4*c+3<=M) (L:2*k'+4*c+3<=M) (Q:2*l+4*c+3<=M) (N:2*l'+4*c+3<=M) {e:Bool} (he:e=true↔x1=x2/\y1=y2):CF 156 [.agg (AI T1 A1 T2 A2),.agg (AI T3 A3 T4 A4)] (.one (.bool e)):=by
 obtain⟨K,o,I,_⟩:=RC F G.x H.x;obtain⟨J,f,B,_⟩:=RC F G.y H.y;refine AN Tryz.func156 fun E D=>?_
 refine AB D I ?_;cases K <;> conv=>cbv
 ·exact AO (by cases e with | false=>rfl | true=>exact absurd (o.2 (he.1 rfl).1) AZ)
 refine AB D B ?_;exact AO (by rw[Bool.eq_iff_iff,f,he];exact⟨fun h=>h.2,fun h=>⟨o.1 rfl,h⟩⟩)
theorem IB {TT:AH->Prop} {w:AH} {R b c M q p k k' l l':Nat} (F:Fm TT w R b c M q p) {T1 T2 T3 T4:List LR} {A1 A2 A3 A4:LR} {x1 y1 x2 y2:Re} (G:Vm TT w b k k' T1 A1 T2 A2 x1 y1) (H:Vm TT w b l l' T3 A3 T4 A4 x2 y2) (O:2*k+4*c+3<=M) (L:2*k'+4*c+3<=M) (Q:2*l+4*c+3<=M) (N:2*l'+4*c+3<=M) {e:Bool} (he:e=true↔x1=x2/\y1=y2):CF 20 [.agg (AI T1 A1 T2 A2),.agg (AI T3 A3 T4 A4)] (.one (.bool e)):=by
 obtain⟨K,o,_,I⟩:=RC F G.x H.x;obtain⟨J,f,_,B⟩:=RC F G.y H.y;refine AN Tryz.func20 fun E D=>?_
 refine AB D I ?_;cases K <;> conv=>cbv
 ·exact AO (by cases e with | false=>rfl | true=>exact absurd (o.2 (he.1 rfl).1) AZ)
 refine AB D B ?_;exact AO (by rw[Bool.eq_iff_iff,f,he];exact⟨fun h=>h.2,fun h=>⟨o.1 rfl,h⟩⟩)
theorem WM {TT:AH->Prop} {w:AH} {R b c M q p k k':Nat} (F:Fm TT w R b c M q p) {T1 T2:List LR} {A1 A2:LR} {x1 y1:Re} (I:Vm TT w b k k' T1 A1 T2 A2 x1 y1) (O:k+c+1<=M) (K:k'+c+1<=M) {e:Bool} (he:e=true↔x1=0/\y1=0):CF 174 [.agg (AI T1 A1 T2 A2)] (.one (.bool e)):=by
 obtain⟨Q,o,J,_⟩:=EN F I.x;obtain⟨N,f,B,_⟩:=EN F I.y;refine AN Tryz.func174 fun E H=>?_
 refine AB H J ?_;refine CU (fun G=>?_) fun G=>?_
 ·exact AO (by cases e with | false=>rfl | true=>exact absurd (by rw[o];exact Fu.2 (he.1 rfl).1) G)
 refine AB H B ?_;intro L D;exact AO (by rw[Bool.eq_iff_iff,D,beq_iff_eq,f,Fu,he];exact⟨fun h=>h.2,fun h=>⟨Fu.1 (o.symm.trans G),h⟩⟩)
theorem SC {TT:AH->Prop} {w:AH} {R b c M q p k k':Nat} (F:Fm TT w R b c M q p) {T1 T2:List LR} {A1 A2:LR} {x1 y1:Re} (I:Vm TT w b k k' T1 A1 T2 A2 x1 y1) (O:k+c+1<=M) (K:k'+c+1<=M) {e:Bool} (he:e=true↔x1=0/\y1=0):CF 180 [.agg (AI T1 A1 T2 A2)] (.one (.bool e)):=by
 obtain⟨Q,o,_,J⟩:=EN F I.x;obtain⟨N,f,_,B⟩:=EN F I.y;refine AN Tryz.func180 fun E H=>?_
 refine AB H J ?_;refine CU (fun G=>?_) fun G=>?_
 ·exact AO (by cases e with | false=>rfl | true=>exact absurd (by rw[o];exact Fu.2 (he.1 rfl).1) G)
 refine AB H B ?_;intro L D;exact AO (by rw[Bool.eq_iff_iff,D,beq_iff_eq,f,Fu,he];exact⟨fun h=>h.2,fun h=>⟨Fu.1 (o.symm.trans G),h⟩⟩)
theorem uf {B D:Rat} {b1 c1 b2 c2:Bool} {l1 m1 l2 m2:List UInt32} (F:Bw B b1 l1 c1 m1) (G:Bw D b2 l2 c2 m2) {A1 A2:LR} (f:A1=em [] (Re.ofRat B)) (h:A2=em [] (Re.ofRat D)):CF 72 [.agg (CT b1 l1 c1 m1),.agg (CT b2 l2 c2 m2)] (.agg (AI [] A1 [] A2)):=by
 refine AN Tryz.func72 fun E o=>?_
 refine AB o (Ly F f) ?_;refine AB o (Ly G h) ?_;exact AM AQ
theorem fu {x y:Int} {A1 A2:LR} (F: -9223372036854775808<=x/\x<9223372036854775808) (G: -9223372036854775808<=y/\y<9223372036854775808) (f:A1=em [] (Re.ofRat x)) (h:A2=em [] (Re.ofRat y)):CF 21 [AD x,AD y] (.agg (AI [] A1 [] A2)):=by
 refine AN Tryz.func21 fun E o=>?_
 obtain⟨b1,l1,c1,m1,B⟩:=CZ (x:Rat);refine AB o (FT F rfl B) ?_;obtain⟨b2,l2,c2,m2,D⟩:=CZ (y:Rat);refine AB o (FT G rfl D) ?_;refine AB o (uf B D f h) ?_;exact AM AQ
theorem fv:CF 183 [AD 0,AD 0] (AD 0):=by
 refine AN Tryz.func183 fun E f=>?_
 refine AY ?_;exact AM ⟨t2,trivial⟩
theorem fx {T1 T2:List LR} {A1 A2:LR}:CF 182 [.agg (AK T1 A1),.agg (AK T2 A2),AD 0] (AS (AI T1 A1 T2 A2) 0):=by
 refine AN Tryz.func182 fun E f=>?_
 refine AY ?_;exact AM AQ
theorem SB {TT:AH->Prop} {w:AH} {R b c M q p k k' l l':Nat} (F:Fm TT w R b c M q p) {T1 T2 T3 T4:List LR} {A1 A2 A3 A4:LR} {x1 y1 x2 y2:Re} (B:Vm TT w b k k' T1 A1 T2 A2 x1 y1) (D:Vm TT w b l l' T3 A3 T4 A4 x2 y2) (N:k+c+1<=M:=by omega) (K:k'+c+1<=M:=by omega) (O:l+c+1<=M:=by omega) (L:l'+c+1<=M:=by omega):∃T A o h,Vm TT w b (k+l+1) (k'+l'+1) T A o h (x1+x2) (y1+y2)/\CF 110 [.agg (AI T1 A1 T2 A2),.agg (AI T3 A3 T4 A4)] (AS (AI T A o h) 0):=by
 obtain⟨T5,A5,I,_,G⟩:=Hi F B.x D.x;obtain⟨T6,A6,J,_,H⟩:=Hi F B.y D.y;refine⟨T5,A5,T6,A6,⟨I,J⟩,?_⟩;refine AN Tryz.func110 fun E f=>?_
 refine AB f G ?_;refine AB f H ?_;refine AB f fv ?_;refine AB f fx ?_;exact AM AQ
theorem Wa {TT:AH->Prop} {w:AH} {R b c M q p k k' j:Nat} (F:Fm TT w R b c M q p) {T1 T2 T3:List LR} {A1 A2 A3:LR} {x1 y1 n:Re} (D:Vm TT w b k k' T1 A1 T2 A2 x1 y1) (B:Nm TT w b j T3 A3 n) (L:k+c+1<=M:=by omega) (K:k'+c+1<=M:=by omega) (N:j+c+1<=M:=by omega):∃T A o h,Vm TT w b (k+j+1) (k'+j+1) T A o h (x1*n) (y1*n)/\CF 111 [.agg (AI T1 A1 T2 A2),.agg (AK T3 A3)] (AS (AI T A o h) 0):=by
 obtain⟨T5,A5,I,_,G⟩:=Ef F D.x B;obtain⟨T6,A6,J,_,H⟩:=Ef F D.y B;refine⟨T5,A5,T6,A6,⟨I,J⟩,?_⟩;refine AN Tryz.func111 fun E f=>?_
 refine AB f G ?_;refine AB f H ?_;refine AB f fv ?_;refine AB f fx ?_;exact AM AQ
theorem gA {TT:AH->Prop} {w:AH} {R b c M q p k k':Nat} (F:Fm TT w R b c M q p) {T1 T2:List LR} {A1 A2:LR} {x1 y1:Re} (B:Vm TT w b k k' T1 A1 T2 A2 x1 y1) (J:k+c+1<=M:=by omega) (f:k'+c+1<=M:=by omega):∃A h,Vm TT w b k k' T1 A T2 h (-x1) (-y1)/\CF 112 [.agg (AI T1 A1 T2 A2)] (.agg (AI T1 A T2 h)):=by
 obtain⟨A5,H,_,D⟩:=Gh F B.x J;obtain⟨A6,I,_,G⟩:=Gh F B.y f;refine⟨A5,A6,⟨H,I⟩,?_⟩;refine AN Tryz.func112 fun E o=>?_
 refine AB o D ?_;refine AB o G ?_;exact AM AQ
theorem Ls {TT:AH->Prop} {w:AH} {R b c M q p k k' l l':Nat} (F:Fm TT w R b c M q p) {T1 T2 T3 T4:List LR} {A1 A2 A3 A4:LR} {x1 y1 x2 y2:Re} (K:Vm TT w b k k' T1 A1 T2 A2 x1 y1) (L:Vm TT w b l l' T3 A3 T4 A4 x2 y2) (N:k+c+1<=M:=by omega) (I:k'+c+1<=M:=by omega) (O:l+c+1<=M:=by omega) (J:l'+c+1<=M:=by omega):∃T A h f,Vm TT w b (k+l+1) (k'+l'+1) T A h f (x1+ -x2) (y1+ -y2)/\CF 109 [.agg (AI T1 A1 T2 A2),.agg (AI T3 A3 T4 A4)] (AS (AI T A h f) 0):=by
 obtain⟨A7,A8,H,D⟩:=gA F L;obtain⟨T5,A5,T6,A6,G,B⟩:=SB F K H;refine⟨T5,A5,T6,A6,G,?_⟩;refine AN Tryz.func109 fun E o=>?_
 refine AB o D ?_;refine AB o B ?_;exact AM AQ
theorem O4 {TT:AH->Prop} {w:AH} {R b c M q p k k':Nat} (F:Fm TT w R b c M q p) {T1 T2:List LR} {A1 A2:LR} {x1 y1:Re} (h:Vm TT w b k k' T1 A1 T2 A2 x1 y1) (G:k+c+1<=M:=by omega) (f:k'+c+1<=M:=by omega):∃A,Vm TT w b k' k T2 A T1 A1 (-y1) x1/\CF 117 [.agg (AI T1 A1 T2 A2)] (.agg (AI T2 A T1 A1)):=by
 obtain⟨A5,B,_,o⟩:=Gh F h.y f;refine⟨A5,⟨B,h.x⟩,?_⟩;refine AN Tryz.func117 fun E D=>?_
 refine AB D o ?_;exact AM AQ
theorem vK {TT:AH->Prop} {w:AH} {R b c M q p k k' l l':Nat} (F:Fm TT w R b c M q p) {T1 T2 T3 T4:List LR} {A1 A2 A3 A4:LR} {x1 y1 x2 y2:Re} (h:Vm TT w b k k' T1 A1 T2 A2 x1 y1) (o:Vm TT w b l l' T3 A3 T4 A4 x2 y2) (L:k+l+c+2<=M:=by omega) (K:k'+l'+c+2<=M:=by omega):∃T A,Nm TT w b (k+k'+l+l'+3) T A (x1*x2+y1*y2)/\CF 192 [.agg (AI T1 A1 T2 A2),.agg (AI T3 A3 T4 A4)] (AS (AK T A) 0):=by
 obtain⟨T5,A5,H,_,B⟩:=Ef F h.x o.x;obtain⟨T6,A6,I,_,D⟩:=Ef F h.y o.y;obtain⟨T7,A7,J,_,G⟩:=Hi F H I;refine⟨T7,A7,J.mono AA,?_⟩;refine AN Tryz.func192 fun E f=>?_
 refine AB f B ?_;refine AB f D ?_;refine AY ?_;refine AY ?_;refine AB f G ?_;exact AM ⟨t3,t2,trivial⟩
theorem Wb {TT:AH->Prop} {w:AH} {R b c M q p k k':Nat} (F:Fm TT w R b c M q p) {T1 T2:List LR} {A1 A2:LR} {x1 y1:Re} (f:Vm TT w b k k' T1 A1 T2 A2 x1 y1) (G:2*k+c+2<=M:=by omega) (D:2*k'+c+2<=M:=by omega):∃T A,Nm TT w b (2*k+2*k'+3) T A (x1*x1+y1*y1)/\CF 119 [.agg (AI T1 A1 T2 A2)] (AS (AK T A) 0):=by
 obtain⟨T7,A7,o,h⟩:=vK F f f;refine⟨T7,A7,o.mono AA,?_⟩;refine AN Tryz.func119 fun E B=>?_
 refine AB B h ?_;exact AM ⟨t3,t2,trivial⟩
theorem fz {TT:AH->Prop} {w:AH} {R b c M q p k k' l l':Nat} (F:Fm TT w R b c M q p) {T1 T2 T3 T4:List LR} {A1 A2 A3 A4:LR} {x1 y1 x2 y2:Re} (N:Vm TT w b k k' T1 A1 T2 A2 x1 y1) (O:Vm TT w b l l' T3 A3 T4 A4 x2 y2) (W:k+l+c+2<=M) (L:k'+l'+c+2<=M):∃T A B o,Vm TT w b (k+l+3) (k'+l'+3) T A B o ((x1+x2)*Re.ofRat (1/2)) ((y1+y2)*Re.ofRat (1/2))/\CF 39 [.agg (AI T1 A1 T2 A2),.agg (AI T3 A3 T4 A4)] (AS (AI T A B o) 0):=by
 obtain⟨Q,fl,S,U,hf⟩:=CZ (1/2:Rat);have K:(1/2:Rat)=Rat.divInt 1 2:=by decide +kernel
 obtain⟨A7,f⟩:=Di (em [] (Re.ofRat (1/2)));have I:Nm TT w b 1 [] A7 (Re.ofRat (1/2)):=f ▸ GU F AA (Fg (by decide +kernel) F.hb);obtain⟨T8,A8,T9,A9,J,G⟩:=SB F N O;obtain⟨T5,A5,T6,A6,H,D⟩:=Wa F J I;refine⟨T5,A5,T6,A6,H.mono AA AA,?_⟩;refine AN Tryz.func39 fun E h=>?_
 refine AB h G ?_;refine AY ?_;refine AB h (PR AF AF AF K f) ?_;refine AB h D ?_;exact AM AQ
end Go.Abs
namespace Go.Abs
section
variable {α:Type} [Lean.Grind.CommRing α]
def Ck:Nat->(Nat->α)->α
 | 0,_=>0
 | n+1,f=>Ck n f+f n
theorem IA {f g:Nat->α}:∀{n:Nat},(∀i,i<n->f i=g i)->Ck n f=Ck n g
 | 0,_=>rfl
 | n+1,h=>by rw[Ck,Ck,IA (n:=n) (fun i o=>h i AA),h n AA]
theorem V4 (f:Nat->α) (m:Nat):∀n,Ck (m+n) f=Ck m f+Ck n (fun i=>f (m+i))
 | 0=>by rw[Ck,Nat.add_zero];grind
 | n+1=>by rw[<-Nat.add_assoc,Ck,Ck,V4 f m n];grind
theorem V5 (c:α) (f:Nat->α):∀n,c*Ck n f=Ck n (fun i=>c*f i)
 | 0=>by rw[Ck,Ck];grind
 | n+1=>by rw[Ck,Ck,<-V5 c f n];grind
theorem eD (f g:Nat->α):∀n,Ck n f+Ck n g=Ck n (fun i=>f i+g i)
 | 0=>by rw[Ck,Ck,Ck];grind
 | n+1=>by rw[Ck,Ck,Ck,<-eD f g n];grind
theorem V6:∀n,Ck n (fun _=>(0:α))=0
 | 0=>rfl
 | n+1=>by rw[Ck,V6 n];grind
theorem eC (f:Nat->Nat->α) (m:Nat):∀n,Ck n (fun i=>Ck m (fun k=>f i k))=Ck m (fun k=>Ck n (fun i=>f i k))
 | 0=>by rw[Ck];exact (V6 m).symm
 | n+1=>by
  rw[Ck,eC f m n,eD];rfl
end
noncomputable def cf (u:AH) (x:Re) (i:Nat):Rat:=(co u x).getD i 0
section
variable {u w:AH} {x y:Re}
theorem YQ (h:BG u) (f:In u x) (o:In u y) (i:Nat):cf u (x+y) i=cf u x i+cf u y i:=by
 unfold cf;rw[Nt h f o];have l1:=Dg f;have l2:=Dg o;simp only[List.getD_eq_getElem?_getD,List.getElem?_zipWith]
 by_cases B:i<2^u.length
 ·rw[List.getElem?_eq_getElem (by omega:i<(co u x).length),List.getElem?_eq_getElem (by omega:i<(co u y).length)];rfl
 rw[List.getElem?_eq_none (by omega:(co u x).length<=i),List.getElem?_eq_none (by omega:(co u y).length<=i)]
 show (0:Rat)=0+0
 grind
theorem YU (h:BG u) (f:In u x) (c:Rat) (i:Nat):cf u (Re.ofRat c*x) i=c*cf u x i:=by
 unfold cf;rw[TP h f];simp only[List.getD_eq_getElem?_getD,List.getElem?_map];cases (co u x)[i]? with
 | none=>show (0:Rat)=c*0;grind
 | some q=>rfl
theorem YV (h:BG u) (i:Nat):cf u 0 i=0:=by
 have:=YU h (Cs u) 0 i;rw[show Re.ofRat 0*0=(0:Re) by grind] at this;rw[this];grind
theorem Ha {r:List Rat} {p q:Re} (h:BG (r::u)) (f:In u p) (B:In u q) (e:x=p+q*rt u r) {i:Nat} (o:i<2^u.length):cf (r::u) x i=cf u p i:=by
 unfold cf;rw[Dq h f B e,List.getD_eq_getElem?_getD,List.getD_eq_getElem?_getD,List.getElem?_append_left (by rw[Dg f];exact o)]
theorem JT {r:List Rat} {p q:Re} (h:BG (r::u)) (f:In u p) (o:In u q) (e:x=p+q*rt u r) (i:Nat):cf (r::u) x (2^u.length+i)=cf u q i:=by
 unfold cf;rw[Dq h f o e,List.getD_eq_getElem?_getD,List.getD_eq_getElem?_getD,List.getElem?_append_right (by rw[Dg f];omega),Dg f,Nat.add_sub_cancel_left]
noncomputable def bb:AH->Nat->Re
 | [],_=>1
 | r::u,i=>if i<2^u.length then bb u i else bb u (i-2^u.length)*rt u r
theorem X4 {r:List Rat} {i:Nat} (f:i<2^u.length):bb (r::u) i=bb u i:=if_pos f
theorem X3 {r:List Rat} (i:Nat):bb (r::u) (2^u.length+i)=bb u i*rt u r:=by
 rw[bb,if_neg AA,Nat.add_sub_cancel_left]
theorem LM:∀{u:AH},BG u->∀i,In u (bb u i)
 | [],_,i=>LN []
 | r::u,h,i=>by
  rw[bb]
  split
  ·exact GN (LM h.1 i)
  exact BO h (GN (LM h.1 _)) (Je u r)
theorem Zh {f:Nat->Re} (hf:∀i,In u (f i)):∀n,In u (Ck n f)
 | 0=>Cs u
 | n+1=>EM (Zh hf n) (hf n)
theorem expand:∀{u:AH} {x:Re},BG u->In u x->x=Ck (2^u.length) (fun i=>Re.ofRat (cf u x i)*bb u i)
 | [],x,h,F=>by
  obtain⟨q,rfl⟩:=DV.1 F
  show _=Ck 1 _
  rw[Ck,Ck]
  show _=0+Re.ofRat (cf [] (Re.ofRat q) 0)*1
  rw[cf,Ed]
  show _=0+Re.ofRat q*1
  grind
 | r::u,x,h,F=>by
  obtain⟨p,q,B,D,e⟩:=DJ.1 F
  rw[Cg,V4,IA (g:=fun i=>Re.ofRat (cf u p i)*bb u i) (fun i o=>by rw[Ha h B D e o,X4 o]),
   IA (f:=fun i=>Re.ofRat (cf (r::u) x (2^u.length+i))*bb (r::u) (2^u.length+i)) (g:=fun i=>rt u r*(Re.ofRat (cf u q i)*bb u i)) (fun i o=>by rw[JT h B D e,X3];grind),<-V5,<-expand h.1 B,<-expand h.1 D,e]
  grind
theorem TJ (h:BG w) (c:Nat->Rat) {f:Nat->Re} (hf:∀i,In w (f i)) (k:Nat):∀n,cf w (Ck n (fun i=>Re.ofRat (c i)*f i)) k=Ck n (fun i=>c i*cf w (f i) k)
 | 0=>YV h k
 | n+1=>by
  rw[Ck,Ck,YQ h (Zh (fun i=>OE (hf i) (c i)) n) (OE (hf n) (c n)),TJ h c hf k n,YU h (hf n)]
noncomputable def tr (u:AH) (x:Re):Rat:=Ck (2^u.length) (fun i=>cf u (x*bb u i) i)
theorem fE (hu:BG u) (hw:BG w) (f:Br u w) (h:Br w u) (o:In u x):tr u x=tr w x:=by
 have e1:∀i,cf u (x*bb u i) i=Ck (2^w.length) (fun k=>cf w (x*bb u i) k*cf u (bb w k) i):=fun i=>by
  have D:=f _ (BO hu o (LM hu i))
  rw[show cf u (x*bb u i) i=cf u (Ck (2^w.length) (fun k=>Re.ofRat (cf w (x*bb u i) k)*bb w k)) i from congrArg (fun z=>cf u z i) (expand hw D),
   TJ hu _ (fun k=>h _ (LM hw k))]
 have e2:∀k,cf w (x*bb w k) k=Ck (2^u.length) (fun i=>cf u (bb w k) i*cf w (x*bb u i) k):=fun k=>by
  have F:=h _ (LM hw k)
  have B:x*bb w k=Ck (2^u.length) (fun i=>Re.ofRat (cf u (bb w k) i)*(x*bb u i)):=by
   rw[show x*bb w k=x*Ck (2^u.length) (fun i=>Re.ofRat (cf u (bb w k) i)*bb u i) from congrArg (x* ·) (expand hu F),V5];exact IA fun i _=>by grind
  rw[B,TJ hw _ (fun i=>f _ (BO hu o (LM hu i)))]
 unfold tr;rw[IA (fun i _=>e1 i),eC,IA (g:=fun k=>Ck (2^u.length) (fun i=>cf w (x*bb u i) k*cf u (bb w k) i)) (fun k _=>rfl),IA (fun k _=>e2 k)];exact IA fun k _=>IA fun i _=>by grind
theorem Ov:∀{u:AH} {x:Re},BG u->In u x->tr u x=((2^u.length:Nat):Rat)*cf u x 0
 | [],x,h,F=>by
  show Ck 1 _=_
  rw[Ck,Ck]
  show 0+cf [] (x*1) 0=((1:Nat):Rat)*cf [] x 0
  rw[show x*1=x by grind];grind
 | r::u,x,h,F=>by
  obtain⟨p,q,o,D,e⟩:=DJ.1 F;have H:=DW h;have G:=Ov h.1 o;have hb:=LM h.1;unfold tr at G ⊢
  rw[Cg,V4,IA (g:=fun i=>cf u (p*bb u i) i) (fun i B=>by
    rw[X4 B];exact Ha h (BO h.1 o (hb i)) (BO h.1 D (hb i)) (by rw[e];grind) B),
   IA (f:=fun i=>cf (r::u) (x*bb (r::u) (2^u.length+i)) (2^u.length+i)) (g:=fun i=>cf u (p*bb u i) i) (fun i B=>by
    rw[X3];exact JT h (BO h.1 (BO h.1 D (hb i)) (Ch h)) (BO h.1 o (hb i)) (by rw[e,<-H];grind) i),
   G,Ha h o D e (Dz _),Rat.natCast_add]
  grind
end
end Go.Abs
namespace Go.Abs
structure Ml (w:AH) (E:Nat):Prop where
 dn:∃K:Nat,0<K/\K<=2^E/\∀{x y:Re} {D D':Nat},In w x->In w y->DN D (co w x)->DN D' (co w y)->DN (D*D'*K) (co w (x*y))
 mx:∀{x y:Re} {B C:Nat},In w x->In w y->MX B (co w x)->MX C (co w y)->MX (B*C*2^E) (co w (x*y))
theorem Ml.of {w:AH} {R:Nat} (hw:BG w) (f:TB R w):Ml w (EE w.length R):=⟨LH hw f,I4 hw f⟩
section
variable {u:AH} {r:List Rat} {E R s t:Nat} {x y:Re}
theorem Ml.mono {f:Nat} (M:Ml u E) (h:E<=f):Ml u f:=by
 obtain⟨K,o,B,hm⟩:=M.dn;exact⟨⟨K,o,Nat.le_trans B (DI h),hm⟩,fun D F a b=>(M.mx D F a b).mono (Nat.mul_le_mul_left _ (DI h))⟩
theorem Ml.bd (M:Ml u E) (h:In u x) (o:In u y) (a:Bd s (co u x)) (b:Bd t (co u y)):Bd (s+t+E) (co u (x*y)):=by
 obtain⟨D,F,G,H,h3⟩:=a;obtain⟨B,k0,k1,k2,J⟩:=b;obtain⟨K,I,f,hm⟩:=M.dn;refine⟨D*B*K,Nat.mul_pos (Nat.mul_pos F k0) I,?_,hm h o H k2,?_⟩
 ·have:=Nat.mul_le_mul (Nat.mul_le_mul G k1) f;rwa [<-Nat.pow_add,<-Nat.pow_add] at this
 have:=M.mx h o h3 J;rwa [<-Nat.pow_add,<-Nat.pow_add] at this
theorem Ml.cons (h:BG (r::u)) (M:Ml u E) (Z:Bd R r):Ml (r::u) (2*E+R+2):=by
 obtain⟨K,hK,L,hm⟩:=M.dn;obtain⟨J,hE,U,Q,W⟩:=Z;refine⟨⟨K*K*J,Nat.mul_pos (Nat.mul_pos hK hK) hE,?_,fun {x y D D'} hx hy F G=>?_⟩,fun {x y B C} hx hy H I=>?_⟩
 ·have O:K*K*J<=2^E*2^E*2^R:=Nat.mul_le_mul (Nat.mul_le_mul L L) U;rw[<-Nat.pow_add,<-Nat.pow_add] at O;exact Nat.le_trans O (DI)
 ·obtain⟨a,b,ha,hb,rfl⟩:=DJ.1 hx;obtain⟨c,d,o,f,rfl⟩:=DJ.1 hy;rw[Dq h ha hb rfl,DN.app] at F;rw[Dq h o f rfl,DN.app] at G;rw[P7 h ha hb o f rfl rfl,DN.app];have Y:DN J (co u (AW u r)):=by rw[FU h];exact Q
  refine⟨DN.GY h.1 (BO h.1 ha o) (BO h.1 (BO h.1 hb f) (Ch h)) ((hm ha o F.1 G.1).dvd ⟨K*J,by grind⟩) ((hm (BO h.1 hb f) (Ch h) (hm hb f F.2 G.2) Y).dvd ⟨1,by grind⟩),
   DN.GY h.1 (BO h.1 ha f) (BO h.1 hb o) ((hm ha f F.1 G.2).dvd ⟨K*J,by grind⟩) ((hm hb o F.2 G.1).dvd ⟨K*J,by grind⟩)⟩
 have N:=fun {x y:Re} {B C:Nat}=>M.mx (x:=x) (y:=y) (B:=B) (C:=C)
 obtain⟨a,b,ha,hb,rfl⟩:=DJ.1 hx;obtain⟨c,d,o,f,rfl⟩:=DJ.1 hy;rw[Dq h ha hb rfl,MX.app] at H;rw[Dq h o f rfl,MX.app] at I;rw[P7 h ha hb o f rfl rfl,MX.app];have Y:MX (2^R) (co u (AW u r)):=by rw[FU h];exact W
 have e:2*E+R+2=E+E+R+2:=AA
 rw[e,Nat.pow_add,Nat.pow_add,Nat.pow_add];have O:=Dz E;have h2:=Dz R
 generalize 2^E=K at*
 generalize 2^R=S at*
 have k1:B*C*K<=B*C*(K*K*S):=Nat.mul_le_mul_left _ (by
  have:K*1<=K*(K*S):=Nat.mul_le_mul_left _ (Nat.mul_pos O h2);rw[Nat.mul_assoc];omega)
 have k2:B*C*K*S*K=B*C*(K*K*S):=by grind
 refine⟨(MX.GY h.1 (BO h.1 ha o) (BO h.1 (BO h.1 hb f) (Ch h)) (N ha o H.1 I.1) (N (BO h.1 hb f) (Ch h) (N hb f H.2 I.2) Y)).mono ?_,
  (MX.GY h.1 (BO h.1 ha f) (BO h.1 hb o) (N ha f H.1 I.2) (N hb o H.2 I.1)).mono ?_⟩
 ·rw[k2];grind
 grind
theorem Ml.inv {P:Nat->Nat} (h:BG (r::u)) (M:Ml u E) (Z:Bd R r) (hI:∀{x y:Re} {s:Nat},In u x->In u y->x*y=1->Bd s (co u x)->Bd (P s) (co u y)) (hx:In (r::u) x) (e:x*y=1) (hb:Bd s (co (r::u) x)):Bd (s+E+P (2*s+2*E+R+1)) (co (r::u) y):=by
 obtain⟨p,q,o,f,rfl⟩:=DJ.1 hx;have hr:=DW h;obtain⟨D,Q,S,h2,h3⟩:=hb;rw[Dq h o f rfl] at h2 h3;obtain⟨N,O⟩:=DN.app.1 h2;obtain⟨mp,mq⟩:=MX.app.1 h3;obtain⟨K,U,G,hm⟩:=M.dn;obtain⟨L,k0,k1,k2,k3⟩:=Z;have a1:DN L (co u (AW u r)):=by rw[FU h];exact k2
 have Y:MX (2^R) (co u (AW u r)):=by rw[FU h];exact k3
 have hN:Bd (2*s+2*E+R+1) (co u (p*p-q*q*AW u r)):=by
  refine⟨D*D*K*L*K,Nat.mul_pos (Nat.mul_pos (Nat.mul_pos (Nat.mul_pos Q Q) U) k0) U,?_,DN.Jz h.1 (BO h.1 o o) (BO h.1 (BO h.1 f f) (Ch h)) ((hm o o N N).dvd ⟨L*K,by grind⟩) (hm (BO h.1 f f) (Ch h) (hm f f O O) a1),
   (MX.Jz h.1 (BO h.1 o o) (BO h.1 (BO h.1 f f) (Ch h)) (M.mx o o mp mp) (M.mx (BO h.1 f f) (Ch h) (M.mx f f mq mq) Y)).mono ?_⟩
  ·have:=Nat.mul_le_mul (Nat.mul_le_mul (Nat.mul_le_mul (Nat.mul_le_mul S S) G) k1) G;rw[<-Nat.pow_add,<-Nat.pow_add,<-Nat.pow_add,<-Nat.pow_add] at this;exact Nat.le_trans this (DI)
  rw[<-Nat.pow_add,<-Nat.pow_add,<-Nat.pow_add,<-Nat.pow_add,Nat.pow_succ];have e1:2^(s+s+E)<=2^(2*s+2*E+R):=DI;have e2:2^(s+s+E+R+E)<=2^(2*s+2*E+R):=DI;omega
 have B:=GM (BO h.1 o o) (BO h.1 (BO h.1 f f) (Ch h));have a6:(0:Re)<1:=Re.Ia.2 (AF:(0:Rat)<1)
 have W:p*p-q*q*AW u r≠0:=by
  intro e0;have e1:(p+q*rt u r)*(p-q*rt u r)=0:=by grind
  rcases Re.Gx e1 with e2 | e2
  ·rw[e2] at e;grind
  obtain⟨e3,e4⟩:=indep h o (HE f) (Cs u) (Cs u) (show p+ -q*rt u r=0+0*rt u r by grind);have:p+q*rt u r=0:=by grind
  rw[this] at e;grind
 obtain⟨i,F,H⟩:=Ey h.1 B W;obtain⟨E',a2,a5,I,J⟩:=hI B F H hN
 have ey:y=p*i+ -(q*i)*rt u r:=by
  have:y=(p+q*rt u r)*y*((p-q*rt u r)*i):=by
   have:(p+q*rt u r)*y*((p-q*rt u r)*i)=y*((p*p-q*q*AW u r)*i):=by grind
   rw[this,H];grind
  rw[e] at this
  grind
 rw[ey,Dq h (BO h.1 o F) (HE (BO h.1 f F)) rfl,MD h.1 (BO h.1 f F)];have m1:=M.mx o F mp J;have m2:=M.mx f F mq J;rw[<-Nat.pow_add,<-Nat.pow_add] at m1 m2;refine⟨D*E'*K,Nat.mul_pos (Nat.mul_pos Q a2) U,?_,DN.app.2 ⟨hm o F N I,(hm f F O I).neg⟩,MX.app.2 ⟨m1.mono (DI),(m2.mono (DI)).neg⟩⟩;have:=Nat.mul_le_mul (Nat.mul_le_mul S a5) G;rw[<-Nat.pow_add,<-Nat.pow_add] at this;exact Nat.le_trans this (DI)
end
end Go.Abs
namespace Go.Abs
variable {E:Nat} {u w:AH} {x:Re}
theorem Y9 (hu:BG u) (hw:BG w) (h:Br u w):∀{v:AH},BG v->Br v w->Br (ext u v) w
 | [],_,_=>h
 | r::v,f,o=>by
  have D:=Y9 hu hw h f.1 o.tail;rw[ext]
  by_cases B:Sq (ext u v) (AW v r)
  ·rw[Ec B];exact D
  rw[Dv B];refine KI hw D ?_;rw[Jt ((Jr hu f.1).2 _ (Ch f))];exact o.root
theorem YT:∀(v:AH) {u:AH} {x:Re},BG (v++u)->In u x->cf (v++u) x 0=cf u x 0
 | [],_,_,_,_=>rfl
 | r::v,u,x,h,f=>by
  rw[List.cons_append,Ha (u:=v++u) h (N7 v _ f) (Cs _) (by grind) (Dz _)];exact YT v h.1 f
theorem YR (h:BG u):cf u 1 0=1:=by
 rw[cf,show (1:Re)=Re.ofRat 1 from rfl,It 1 h];rfl
theorem Np (hu:BG u) (hw:BG w) (h:Br u w) (D:In u x):cf u x 0=cf w x 0:=by
 obtain⟨ht,B⟩:=Jr hu hw;have f:=Y9 hu hw h hw (Br.refl w);have F:=QU u w;have o:=N8 F;obtain⟨v,e⟩:=F;have k1:=fE ht hw f B (LN _);rw[Ov ht (LN _),Ov hw (LN _),YR ht,YR hw] at k1;have k2:=fE ht hw f B (o _ D);rw[Ov ht (o _ D),Ov hw (h _ D)] at k2
 have H:((2^w.length:Nat):Rat)≠0:=fun e=>by
  have:=Rat.natCast_inj.1 (e.trans (show (0:Rat)=((0:Nat):Rat) from rfl));have:=Dz w.length;omega
 have G:cf (ext u w) x 0=cf w x 0:=by grind
 rw[<-G,<-e];exact (YT v (e ▸ ht) D).symm
def Rb (w:AH):AH->Nat->Prop
 | [],k=>k=0
 | r::u,k=>∃k1 k2,k=k1+k2/\Rb w u k1/\∃y,y*rt u r=1/\Bd k2 (co w y)
theorem bu (hw:BG w) (M:Ml w E):∀{u:AH} {k:Nat},BG u->Br u w->Rb w u k->∃Y:Nat->Re,(∀i,In u (Y i))/\(∀{x:Re},In u x->∀i,i<2^u.length->cf u x i=cf w (x*Y i) 0)/\
  ∃D:Nat,0<D/\D<=2^(k+u.length*E)/\∀i,i<2^u.length->DN D (co w (Y i))/\MX (2^(k+u.length*E)) (co w (Y i))
 | [],k,hu,o,J=>by
  have J:k=0:=J;subst J;refine⟨fun _=>1,fun _=>LN _,fun {x} L i G=>?_,1,AF,AZ,fun i _=>?_⟩
  ·have:i=0:=by have G:i<1:=G;omega
   subst this;rw[show x*1=x by grind];exact Np hu hw o L
  have e:co w (1:Re)=1::List.replicate (2^w.length-1) 0:=It 1 hw
  have hm:∀q∈co w (1:Re),q=1\/q=0:=fun q f=>by
   rw[e] at f;rcases List.mem_cons.1 f with h | h
   ·exact .inl h
   exact .inr (List.eq_of_mem_replicate h)
  refine⟨fun q f=>?_,fun q f=>?_⟩
  ·rcases hm q f with rfl | rfl
   ·exact⟨1,by decide +kernel⟩
   exact⟨0,by decide +kernel⟩
  rcases hm q f with rfl | rfl
  ·simp only[List.length_nil,Nat.zero_mul,Nat.add_zero,Nat.pow_zero];exact⟨by decide +kernel,by decide +kernel⟩
  simp only[List.length_nil,Nat.zero_mul,Nat.add_zero,Nat.pow_zero];exact⟨by decide +kernel,by decide +kernel⟩
 | r::u,k,hu,o,J=>by
  obtain⟨k1,k2,rfl,Q,y,hy,W,d1,d2,d3,d4⟩:=J;obtain⟨Y,y1,y2,D,e1,e2,Z⟩:=bu hw M hu.1 o.tail Q;obtain⟨K,K0,Kl,hK⟩:=M.dn;have hr:=DW hu;have U:AW u r≠0:=by have:=hu.2.2.1;grind
  obtain⟨s,hs,S⟩:=Ey hu.1 (Ch hu) U
  have ey:y=s*rt u r:=by
   have:y=y*(AW u r*s):=by rw[S];grind
   rw[this,<-hr];have:y*(rt u r*rt u r*s)=(y*rt u r)*(s*rt u r):=by grind
   rw[this,hy];grind
  have F:In (r::u) y:=by rw[ey];exact BO hu (GN hs) (Je u r)
  have N:=o _ F;have hlen:k1+k2+(r::u).length*E=(k1+u.length*E)+k2+E:=by rw[List.length_cons,Nat.succ_mul];omega
  refine⟨fun i=>if i<2^u.length then Y i else Y (i-2^u.length)*y,fun i=>?_,fun {x} L i G=>?_,D*W*K,Nat.mul_pos (Nat.mul_pos e1 d1) K0,?_,fun i G=>?_⟩
  ·show In (r::u) (if _ then _ else _)
   split
   ·exact GN (y1 i)
   exact BO hu (GN (y1 _)) F
  ·obtain⟨p,q,H,f,e⟩:=DJ.1 L
   show _=cf w (x*if _ then _ else _) 0
   split
   ·rename_i B
    rw[Ha hu H f e B,y2 H i B,<-Np hu.1 hw o.tail (BO hu.1 H (y1 i)),<-Np hu hw o (BO hu L (GN (y1 i)))];exact (Ha hu (BO hu.1 H (y1 i)) (BO hu.1 f (y1 i)) (by rw[e];grind) (Dz _)).symm
   rename_i O
   rw[Cg] at G;obtain⟨j,rfl⟩:∃j,i=2^u.length+j:=⟨i-2^u.length,AA⟩
   rw[Nat.add_sub_cancel_left,JT hu H f e,y2 f j AA,<-Np hu.1 hw o.tail (BO hu.1 f (y1 j)),<-Np hu hw o (BO hu L (BO hu (GN (y1 j)) F))];refine (Ha hu (BO hu.1 f (y1 j)) (BO hu.1 (BO hu.1 H (y1 j)) hs) ?_ (Dz _)).symm;have:x*(Y j*y)=p*Y j*y+q*Y j*(y*rt u r):=by rw[e];grind
   rw[this,hy,ey];grind
  ·rw[hlen];simp only[Nat.pow_add] at e2 ⊢;exact Nat.mul_le_mul (Nat.mul_le_mul e2 d2) Kl
  show DN _ (co w (if _ then _ else _))/\MX _ (co w (if _ then _ else _))
  split
  ·rename_i B
   obtain⟨f1,f2⟩:=Z i B;refine⟨(f1.mul_right (W*K)).dvd ⟨1,by grind⟩,f2.mono ?_⟩;rw[hlen];exact DI
  rename_i O
  rw[Cg] at G;obtain⟨f1,f2⟩:=Z (i-2^u.length) AA;have I:=o.tail _ (y1 (i-2^u.length));refine⟨hK I N f1 d3,?_⟩;have:=M.mx I N f2 d4;rw[hlen];simp only[Nat.pow_add] at this ⊢;exact this
theorem Pm {k s:Nat} (hw:BG w) (M:Ml w E) (hu:BG u) (o:Br u w) (W:Rb w u k) (H:In u x) (Z:Bd s (co w x)):Bd (s+k+(u.length+1)*E) (co u x):=by
 obtain⟨Y,y1,y2,D,e1,e2,I⟩:=bu hw M hu o W;obtain⟨K,N,O,U⟩:=M.dn;obtain⟨L,d1,d2,d3,d4⟩:=Z;have f:=o _ H;have J:s+k+(u.length+1)*E=s+(k+u.length*E)+E:=by rw[Nat.succ_mul];omega
 have key:∀q∈co u x,∃i,i<2^u.length/\q∈co w (x*Y i):=fun q G=>by
  obtain⟨i,h,rfl⟩:=List.mem_iff_getElem.1 G;have B:i<2^u.length:=by rw[<-Dg H];exact h
  refine⟨i,B,?_⟩;have Q:=y2 H i B;have hz:=BO hw f (o _ (y1 i));have F:0<(co w (x*Y i)).length:=by rw[Dg hz];exact Dz _
  have S:cf u x i=(co u x)[i]:=by rw[cf,List.getD_eq_getElem?_getD,List.getElem?_eq_getElem h];rfl
  have h3:cf w (x*Y i) 0=(co w (x*Y i))[0]:=by rw[cf,List.getD_eq_getElem?_getD,List.getElem?_eq_getElem F];rfl
  rw[<-S,Q,h3];exact List.getElem_mem F
 refine⟨L*D*K,Nat.mul_pos (Nat.mul_pos d1 e1) N,?_,fun q G=>?_,fun q G=>?_⟩
 ·rw[J];simp only[Nat.pow_add] at e2 ⊢;exact Nat.mul_le_mul (Nat.mul_le_mul d2 e2) O
 ·obtain⟨i,h,hm⟩:=key q G;exact U f (o _ (y1 i)) d3 (I i h).1 q hm
 obtain⟨i,h,hm⟩:=key q G;have:=M.mx f (o _ (y1 i)) d4 (I i h).2 q hm;rw[J];simp only[Nat.pow_add] at this ⊢;exact this
end Go.Abs
namespace Go.Abs
theorem Su {w:AH} {E σ:Nat} (hw:BG w) (M:Ml w E):∀{u:AH},BG u->Br u w->(∀v∈BS u,Bd σ (co w (Re.sqrt v)))->∃K:Nat,0<K/\K<=2^(u.length*(σ+E+1))/\
  ∀{x:Re} {D B:Nat},In u x->(DN D (co u x)->DN (D*K) (co w x))/\(MX B (co u x)->MX (B*2^(u.length*(σ+E+1))) (co w x))
 | [],_,_,_=>⟨1,AF,AZ,fun {x D B} hx=>by
  obtain⟨q,rfl⟩:=DV.1 hx;rw[Ed,It q hw,Nat.mul_one];refine⟨TX,fun h=>?_⟩;rw[(AZ:B*2^(([]:AH).length*(σ+E+1))=B)];exact Us h⟩
 | r::u,h,L,J=>by
  obtain⟨K,hK,Z,hb⟩:=Su hw M h.1 L.tail (fun v hv=>J v (List.mem_cons_of_mem _ hv));obtain⟨G,W,Y,hm⟩:=M.dn;obtain⟨F,hF,S,Q,U⟩:=J (AW u r) List.mem_cons_self;have o:In w (rt u r):=L.root;have e2:(r::u).length*(σ+E+1)=u.length*(σ+E+1)+(σ+E+1):=by rw[List.length_cons,Nat.succ_mul]
  refine⟨K*(F*G),Nat.mul_pos hK (Nat.mul_pos hF W),?_,fun {x D B} hx=>?_⟩
  ·have h1:=Nat.mul_le_mul Z (Nat.mul_le_mul S Y);simp only[<-Nat.pow_add] at h1;exact Nat.le_trans h1 (DI (by rw[e2];omega))
  obtain⟨p,q,N,O,rfl⟩:=DJ.1 hx;rw[Dq h N O rfl,DN.app,MX.app];have I:=L.tail _ N;have f:=L.tail _ O;refine⟨fun H=>?_,fun H=>?_⟩
  ·have k1:=(hb (B:=0) N).1 H.1;have k2:=(hb (B:=0) O).1 H.2;have k3:=hm f o k2 Q;exact DN.GY hw I (BO hw f o) (k1.dvd ⟨F*G,by grind⟩) (k3.dvd ⟨1,by grind⟩)
  have k1:=(hb (D:=0) N).2 H.1;have k2:=(hb (D:=0) O).2 H.2;have k3:=M.mx f o k2 U;refine (MX.GY hw I (BO hw f o) k1 k3).mono ?_
  have e:B*2^(u.length*(σ+E+1))*2^σ*2^E=B*2^(u.length*(σ+E+1)+σ+E):=by
   rw[Nat.mul_assoc,Nat.mul_assoc,<-Nat.pow_add,<-Nat.pow_add];congr 2;omega
  rw[e,<-Nat.mul_add];refine Nat.mul_le_mul_left B ?_;have h3:2^(u.length*(σ+E+1))<=2^(u.length*(σ+E+1)+σ+E):=DI;rw[e2,(AA:u.length*(σ+E+1)+(σ+E+1)=u.length*(σ+E+1)+σ+E+1),Nat.pow_succ];omega
structure Wv (w:AH) (σ κ ν:Nat) (v:Re):Prop where
 root:In w (Re.sqrt v)
 rb:Bd σ (co w (Re.sqrt v))
 inv:∃y,y*Re.sqrt v=1/\Bd κ (co w y)
 vb:Bd ν (co w v)
theorem RQ {w:AH} {σ κ ν:Nat}:∀{u:AH},(∀v∈BS u,Wv w σ κ ν v)->Rb w u (u.length*κ)
 | [],_=>by show _=0;simp
 | r::u,h=>by
  obtain⟨y,o,hb⟩:=(h (AW u r) List.mem_cons_self).inv;exact⟨u.length*κ,κ,by rw[List.length_cons,Nat.succ_mul],RQ (fun v f=>h v (List.mem_cons_of_mem _ f)),y,o,hb⟩
section
variable {w u:AH} {E σ κ ν m:Nat}
theorem JY (hw:BG w):∀{u:AH},BG u->(∀v∈BS u,In w (Re.sqrt v))->Br u w
 | [],_,_=>MN w
 | r::u,h,f=>KI hw (JY hw h.1 (fun v hm=>f v (List.mem_cons_of_mem _ hm))) (f (AW u r) List.mem_cons_self)
theorem WD (hw:BG w) (M:Ml w E):∀{u:AH},BG u->u.length<=m+1->(∀v∈BS u,Wv w σ κ ν v)->TB (ν+m*κ+(m+1)*E) u
 | [],_,_,_=>fun r G=>by simp at G
 | r::u,h,F,B=>fun s o=>by
  rw[List.length_cons] at F;have f:∀v∈BS u,Wv w σ κ ν v:=fun v hm=>B v (List.mem_cons_of_mem _ hm)
  rcases List.mem_cons.1 o with rfl | o
  ·have D:=JY hw h.1 (fun v hm=>(f v hm).root);have:=Pm hw M h.1 D (RQ f) (Ch h) (B _ List.mem_cons_self).vb;rw[FU h] at this;refine this.mono ?_;have H:=Nat.mul_le_mul_right κ (AA:u.length<=m);have I:=Nat.mul_le_mul_right E (AA:u.length+1<=m+1);omega
  exact WD hw M h.1 AA f s o
theorem mF {u v:AH} {s:Nat} {x:Re} (hw:BG w) (M:Ml w E) (hu:BG u) (H:BG v) (o:∀z∈BS u,Wv w σ κ ν z) (F:∀z∈BS v,Wv w σ κ ν z) (l1:u.length<=m) (l2:v.length<=m) (G:Br u v) (f:El u s x):El v (s+m*(σ+E+1)+m*κ+(m+1)*E) x:=by
 have e1:=JY hw hu (fun z h=>(o z h).root);have e2:=JY hw H (fun z h=>(F z h).root);obtain⟨K,k0,k1,k2⟩:=Su hw M hu e1 (fun z h=>(o z h).rb);obtain⟨D,d0,d1,d2,d3⟩:=f.bd
 have hb:Bd (s+u.length*(σ+E+1)) (co w x):=by
  refine⟨D*K,Nat.mul_pos d0 k0,?_,(k2 (B:=0) f.mem).1 d2,?_⟩
  ·rw[Nat.pow_add];exact Nat.mul_le_mul d1 k1
  rw[Nat.pow_add];exact (k2 (D:=0) f.mem).2 d3
 refine⟨G _ f.mem,(Pm hw M H e2 (RQ F) (G _ f.mem) hb).mono ?_⟩;have I:=Nat.mul_le_mul_right (σ+E+1) l1;have J:=Nat.mul_le_mul_right κ l2;have a3:=Nat.mul_le_mul_right E (AA:v.length+1<=m+1);omega
end
theorem Tf.all {P:AH->Prop} {R0:Nat} (I:Ci P R0) {B:Re->Prop} (G:∀{r u},P (r::u)->B (AW u r)) {u:AH} (h:Tf P u):∀v∈Go.Abs.BS u,B v:=by
 induction h with
 | nil=>intro v f;simp[Go.Abs.BS] at f
 | @BW u r0 J ht o H F=>
  by_cases D:Sq u (AW J r0)
  ·rw[Ec D];exact F
  rw[Dv D];intro v f;rcases List.mem_cons.1 f with rfl | f
  ·rw[FE (H _ (Ch (I.red o)))];exact G o
  exact F v f
end Go.Abs
namespace Go.Abs
def GA:AH->Nat->Re->Prop
 | [],_,_=>False
 | r::t,i,v=>(i<2^t.length/\GA t i v)\/(2^t.length<=i/\(v=AW t r\/GA t (i-2^t.length) v))
variable {i:Nat} {r:List Rat} {t u:AH} {v x:Re}
theorem UO:∀{t:AH} {i:Nat} {v:Re},GA t i v->v∈BS t
 | r::t,i,v,h=>by
  rw[BS];rcases h with⟨_,h⟩ |⟨_,h | h⟩
  ·exact List.mem_cons_of_mem _ (UO h)
  ·exact h ▸ List.mem_cons_self
  exact List.mem_cons_of_mem _ (UO h)
theorem Iz (f:i<2^t.length):GA (r::t) i v↔GA t i v:=
 ⟨fun h=>h.elim (·.2) fun h=>absurd h.1 AA,fun h=> .inl ⟨f,h⟩⟩
theorem Iy:GA (r::t) (2^t.length+i) v↔v=AW t r\/GA t i v:=
 ⟨fun h=>h.elim (fun h=>absurd h.1 AA) fun h=>by have:=h.2;rwa [Nat.add_sub_cancel_left] at this,fun h=> .inr ⟨AA,by rwa [Nat.add_sub_cancel_left]⟩⟩
theorem vM (h:BG u) (B:In u x) (f:∀i,i<2^u.length->cf u x i=0):x=0:=by
 rw[expand h B,IA (g:=fun _=>(0:Re)) (fun i o=>by rw[f i o,show Re.ofRat 0=(0:Re) from rfl];grind)];exact V6 _
theorem Uq:∀{t:AH} {v y:Re},BG t->v∈BS t->In t y->(∀i,i<2^t.length->GA t i v->cf t y i=0)->
  ∀i,i<2^t.length->(GA t i v->∃j,j<2^t.length/\¬GA t j v/\cf t (y*Re.sqrt v) i=cf t y j/\∀K,K≠v->GA t i K->GA t j K)/\(¬GA t i v->cf t (y*Re.sqrt v) i=0)
 | r::t,v,y,h,hv,hy,U,i,hi=>by
  obtain⟨p,q,F,I,e⟩:=DJ.1 hy;have S:=Hs h;rw[BS,List.nodup_cons] at S;rw[Cg] at U hi
  by_cases o:v=AW t r
  ·have Y:∀{j},¬GA t j v:=fun {j} B=>S.1 (o ▸ UO B)
   have W:q=0:=vM h.1 I fun j B=>by
    rw[<-JT h F I e j];exact U _ AA (Iy.2 (.inl o))
   have e2:y*Re.sqrt v=0+p*rt t r:=by
    show _=0+p*Re.sqrt (AW t r)
    rw[e,W,o];grind
   by_cases G:i<2^t.length
   ·exact⟨fun f=>absurd ((Iz G).1 f) Y,fun _=>by rw[Ha h (Cs t) F e2 G,YV h.1]⟩
   obtain⟨j,rfl⟩:∃j,i=2^t.length+j:=⟨i-2^t.length,AA⟩
   have B:j<2^t.length:=AA
   refine⟨fun _=>⟨j,by rw[Cg];omega,fun f=>Y ((Iz B).1 f),?_,fun K D f=>?_⟩,fun f=>absurd (Iy.2 (.inl o)) f⟩
   ·rw[JT h (Cs t) F e2,Ha h F I e B]
   rcases Iy.1 f with L | L
   ·exact absurd (L.trans o.symm) D
   exact (Iz B).2 L
  have Q:v∈BS t:=(List.mem_cons.1 (by rwa [BS] at hv)).resolve_left o;have Z:In t (Re.sqrt v):=NI Q;have e2:y*Re.sqrt v=p*Re.sqrt v+q*Re.sqrt v*rt t r:=by rw[e];grind
  have H:=BO h.1 F Z;have J:=BO h.1 I Z
  by_cases G:i<2^t.length
  ·obtain⟨k1,k2⟩:=Uq h.1 Q F (fun j B f=>by rw[<-Ha h F I e B];exact U j AA ((Iz B).2 f)) i G;refine⟨fun f=>?_,fun f=>?_⟩
   ·obtain⟨j,B,a,b,c⟩:=k1 ((Iz G).1 f);exact⟨j,by rw[Cg];omega,fun f=>a ((Iz B).1 f),by rw[Ha h H J e2 G,b,Ha h F I e B],fun K D O=>(Iz B).2 (c K D ((Iz G).1 O))⟩
   rw[Ha h H J e2 G];exact k2 fun N=>f ((Iz G).2 N)
  obtain⟨i,rfl⟩:∃j,i=2^t.length+j:=⟨i-2^t.length,AA⟩
  obtain⟨k1,k2⟩:=Uq h.1 Q I (fun j B f=>by rw[<-JT h F I e j];exact U _ AA (Iy.2 (.inr f))) i AA;refine⟨fun f=>?_,fun f=>?_⟩
  ·obtain⟨j,B,a,b,c⟩:=k1 ((Iy.1 f).resolve_left o);refine⟨2^t.length+j,by rw[Cg];omega,fun f=>(Iy.1 f).elim o a,by rw[JT h H J e2,b,JT h F I e],fun K D O=>?_⟩;rcases Iy.1 O with L | L
   ·exact Iy.2 (.inl L)
   exact Iy.2 (.inr (c K D L))
  rw[JT h H J e2];exact k2 fun N=>f (Iy.2 (.inr N))
theorem Tk (ht:BG t):∀{u:AH},(∀v∈BS u,v∈BS t)->Br u t
 | [],_=>MN t
 | r::u,h=>KI ht (Tk ht fun v f=>h v (by rw[BS];exact List.mem_cons_of_mem _ f)) (NI (h _ (by rw[BS];exact List.mem_cons_self)))
theorem TO (ht:BG t):∀{u:AH} {x:Re},BG u->(∀v∈BS u,v∈BS t)->In u x->∀i,i<2^t.length->(cf t x i=0\/cf t x i∈co u x)/\(cf t x i≠0->∀v,GA t i v->v∈BS u)
 | [],x,_,_,Q,i,B=>by
  obtain⟨q,rfl⟩:=DV.1 Q
  have e:cf t (Re.ofRat q) i=if i=0 then q else 0:=by
   rw[cf,It q ht,List.getD_eq_getElem?_getD];cases i with
   | zero=>rfl
   | succ i=>
    rw[if_neg AA,List.getElem?_cons_succ,List.getElem?_replicate]
    split <;> rfl
  have Y:∀{t:AH} {v:Re},¬GA t 0 v:=fun {t v}=>by
   induction t with
   | nil=>exact id
   | cons r t ih=>exact fun h=>ih ((Iz (Dz _)).1 h)
  rw[e]
  split
  ·rename_i h;subst h
   exact⟨.inr (by rw[Ed];exact List.mem_cons_self),fun _ v D=>absurd D Y⟩
  exact⟨.inl rfl,fun h=>absurd rfl h⟩
 | r::u,x,hu,hV,Q,i,B=>by
  obtain⟨p,q,O,J,e⟩:=DJ.1 Q;have G:=Hs hu;rw[BS,List.nodup_cons] at G;rw[BS] at hV ⊢;have o:∀v∈BS u,v∈BS t:=fun v D=>hV v (List.mem_cons_of_mem _ D)
  have K:=Tk ht o;have I:=hV _ List.mem_cons_self;have L:=TO ht hu.1 o O;have N:=TO ht hu.1 o J
  have W:∀{y:Re},(∀i,i<2^t.length->(cf t y i=0\/cf t y i∈co u y)/\(cf t y i≠0->∀v,GA t i v->v∈BS u))->∀i,i<2^t.length->GA t i (AW u r)->cf t y i=0:=fun hy i B F=>
   Classical.byContradiction fun f=>G.1 ((hy i B).2 f _ F)
  obtain⟨k1,k2⟩:=Uq ht I (K _ J) (W N) i B;have Z:In t (rt u r):=NI I
  have S:cf t x i=cf t p i+cf t (q*Re.sqrt (AW u r)) i:=by
   rw[show x=p+q*Re.sqrt (AW u r) from e];exact YQ ht (K _ O) (BO ht (K _ J) Z) i
  rw[Dq hu O J e]
  by_cases F:GA t i (AW u r)
  ·obtain⟨j,U,a,b,c⟩:=k1 F;rw[S,W L i B F,b,show (0:Rat)+cf t q j=cf t q j by grind];refine⟨(N j U).1.imp id fun h=>List.mem_append_right _ h,fun f v D=>?_⟩
   by_cases H:v=AW u r
   ·exact H ▸ List.mem_cons_self
   exact List.mem_cons_of_mem _ ((N j U).2 f v (c v H D))
  rw[S,k2 F,show cf t p i+(0:Rat)=cf t p i by grind];exact⟨(L i B).1.imp id fun h=>List.mem_append_left _ h,fun f v D=>List.mem_cons_of_mem _ ((L i B).2 f v D)⟩
theorem Sv {k:Nat} (ht:BG t) (hu:BG u) (hV:∀v∈BS u,v∈BS t) (F:In u x) (h:Bd k (co u x)):Bd k (co t x):=by
 obtain⟨D,d1,d2,d3,d4⟩:=h;have o:=Tk ht hV _ F
 have key:∀q∈co t x,q=0\/q∈co u x:=fun q f=>by
  obtain⟨i,B,rfl⟩:=List.mem_iff_getElem.1 f;have G:cf t x i=(co t x)[i]:=by rw[cf,List.getD_eq_getElem?_getD,List.getElem?_eq_getElem B];rfl
  rw[<-G];exact (TO ht hu hV F i (by rw[<-Dg o];exact B)).1
 refine⟨D,d1,d2,fun q f=>?_,fun q f=>?_⟩
 ·rcases key q f with rfl | h
  ·exact⟨0,by grind⟩
  exact d3 q h
 rcases key q f with rfl | h
 ·have:(0:Rat)<=((2^k:Nat):Rat):=Rat.natCast_nonneg
  constructor <;> grind
 exact d4 q h
end Go.Abs
namespace Go.Abs
section
variable {P:AH->Prop} {R0:Nat}
theorem Tf.fC (I:Ci P R0) {V:List Re} (hV:∀{u},P u->∀v∈Go.Abs.BS u,v∈V) (h3:V.length<=3) {u:AH} (h:Tf P u):(u.length<=1->TB R0 u)/\TB (R0+CC 1 R0 1 R0) u:=by
 induction h with
 | nil=>exact⟨fun _ r o=>absurd o AZ,fun r o=>absurd o AZ⟩
 | @BW u r0 B ht L D Q=>
  by_cases U:Sq u (AW B r0)
  ·rw[Ec U];exact Q
  have f:=I.red L;have hu:=ht.red I;have F:=Ch f;have hb:Bd R0 (co B (AW B r0)):=by rw[FU f];exact (I.tb L).head
  rw[Dv U]
  by_cases hA:∀v∈Go.Abs.BS B,v∈Go.Abs.BS u
  ·have S:=Sv hu f.1 hA F hb;refine⟨fun Y r o=>?_,fun r o=>?_⟩
   ·rw[List.length_cons] at Y;rcases List.mem_cons.1 o with rfl | o
    ·exact S
    exact Q.1 AA r o
   rcases List.mem_cons.1 o with rfl | o
   ·exact S.mono AA
   exact Q.2 r o
  obtain⟨v,hv⟩:=Classical.not_forall.1 hA;obtain⟨K,a2⟩:=Classical.not_imp.1 hv;have J:In u (Re.sqrt v):=D _ (NI K);have Z:AW B r0≠v:=fun e=>U ((Lm (by have:=f.2.2.1;grind)).2 (e ▸ J))
  have H:=Hs (Kc hu (D _ F) f.2.2.1 U);rw[Go.Abs.BS,FE (D _ F),List.nodup_cons] at H
  have hle:=Jk (l:=AW B r0::v::Go.Abs.BS u) (m:=V) (by
   rw[List.nodup_cons,List.nodup_cons];refine⟨fun hm=>?_,a2,H.2⟩;rcases List.mem_cons.1 hm with e | hm
   ·exact Z e
   ·exact H.1 hm) (fun x O=>by
   rcases List.mem_cons.1 O with rfl | O
   ·exact hV L _ (by rw[Go.Abs.BS];exact List.mem_cons_self)
   rcases List.mem_cons.1 O with rfl | O
   ·exact hV (I.sub L) _ K
   exact ht.BS I hV x O)
  rw[List.length_cons,List.length_cons,Jy] at hle;have G:=Jk (Hs f) (hV L);rw[Jy,List.length_cons] at G
  have N:u≠[]:=fun e=>by
   subst e;have:=Vf f.1 D;subst this;simp[Go.Abs.BS] at K
  have a1:u.length=1:=by
   have:0<u.length:=List.length_pos_iff.2 N;omega
  have hk:B.length<=1:=by
   match u,a1,hu,D with
   | [s],_,hu,D=>
    match B,f.1,D,G with
    | [],_,_,_=>exact Nat.zero_le _
    | [q],_,_,_=>exact Nat.le_refl 1
    | [q,r],h0,D,_=>exact (bx h0 hu D).elim
    | _::_::_::_,_,_,G=>simp only[List.length_cons] at G;omega
  have W:El B R0 (AW B r0):=⟨F,hb⟩;have S:=(W.Cp hu (Q.1 AA) f.1 (I.tb L).tail D).bd;have h2:=Kr (k:=B.length) (k':=1) (R0:=R0) (JI:=R0) (h:=u.length) (h':=1) (R:=R0) (R':=R0) hk vw AA vw;refine⟨fun Y=>absurd Y (by rw[List.length_cons];omega),fun r o=>?_⟩;rcases List.mem_cons.1 o with rfl | o
  ·exact S.mono AA
  exact Q.2 r o
theorem Tf.mi (I:Ci P R0) {V:List Re} (hV:∀{u},P u->∀v∈Go.Abs.BS u,v∈V) (h3:V.length<=3) {R C S:Nat} (hR:R0+CC 1 R0 1 R0<=R) (B:R<=S) (G:CC 3 R 3 R<=C) (D:∀h,h<=3->Fit h R (S+C)) (H:2*(S+C)+EE 3 R<=60000000000000):Gam (Tf P) R C S:=by
 have hm:∀{u},Tf P u->u.length<=3:=fun {u} h=>Nat.le_trans (h.len I hV) h3
 have f:∀{u},Tf P u->TB R u:=fun {u} h=>(h.fC I hV h3).2.mono hR
 refine⟨fun {u} h=>⟨h.red I,f h,AA,by have:=hm h;omega⟩,fun {u} h=>by have:=hm h;omega,.nil,fun {r u} h=>h.sub I,fun {t r u} ht h o=>ht.Pe I h o,fun {u w s x} hu hw o F=>?_,fun {u} h=>D _ (hm h),fun {u} h=>?_,B⟩
 ·refine (F.Cp (hw.red I) (f hw) (hu.red I) (f hu) o).mono ?_;have:=Kr (k:=u.length) (k':=3) (R0:=R) (JI:=R) (h:=w.length) (h':=3) (R:=R) (R':=R) (hm hu) vw (hm hw) vw;omega
 have:=G5 (h:=u.length) (h':=3) (R:=R) (R':=R) (hm h) vw;omega
end
end Go.Abs
namespace Go.Abs
abbrev Rn:Nat:=1540
abbrev Cn:Nat:=874000
theorem mS:∀h,h<=3->Fit h Rn (Sm+Cn)
 |0,_|1,_|2,_|3,_=>⟨by decide +kernel,by decide +kernel,by decide +kernel,by decide +kernel⟩
 | _+4,h=>absurd h AA
theorem mO:∀h,h<=3->FQ h Rn (Sm+Cn)
 |0,_|1,_|2,_|3,_=>⟨by decide +kernel,by decide +kernel,by decide +kernel,by decide +kernel⟩
 | _+4,h=>absurd h AA
theorem o7:2*(Sm+Cn)+EE 3 Rn<=60000000000000:=by decide +kernel
theorem ZQ {P:AH->Prop} (I:Ci P 256) {V:List Re} (hV:∀{u},P u->∀v∈BS u,v∈V) (h3:V.length<=3) {S:Nat} (f:Rn<=S) (B:S<=Sm):Dp (Tf P) Rn Cn S:=
 {Tf.mi I hV h3 (by decide +kernel:256+CC 1 256 1 256<=Rn) f (by decide +kernel:CC 3 Rn 3 Rn<=Cn) (fun h o=>(mS h o).mono AA) (Nat.le_trans AA o7) with IT:=fun {u} hu=>(mO _ (Nat.le_trans (hu.len I hV) h3)).mono AA}
end Go.Abs
namespace Go.Abs
section
variable {P:AH->Prop} {V:List Re}
theorem Tf.Ho (I:Ci P 256) (hV:∀{u},P u->∀v∈Go.Abs.BS u,v∈V) (h3:V.length<=3) {u:AH} (h:Tf P u):TB Rn u:=(h.fC I hV h3).2.mono (by decide +kernel)
abbrev Ce:Nat:=226506
theorem Tf.QO (I:Ci P 256) (hV:∀{u},P u->∀v∈Go.Abs.BS u,v∈V) (h3:V.length<=3) {u w:AH} {s:Nat} {x:Re} (hu:Tf P u) (hw:Tf P w) (o:Br u w) (f:El u s x):El w (s+Ce) x:=by
 by_cases B:w.length<=2
 ·refine (f.Cp (hw.red I) (hw.Ho I hV h3) (hu.red I) (hu.Ho I hV h3) o).mono ?_;have:=Kr (k:=u.length) (k':=3) (R0:=Rn) (JI:=Rn) (h:=w.length) (h':=2) (R:=Rn) (R':=Rn) (Nat.le_trans (hu.len I hV) h3) vw B vw;have G:CC 3 Rn 2 Rn=Ce:=by decide +kernel
  omega
 refine⟨o _ f.mem,(Sv (hw.red I) (hu.red I) (fun v F=>Classical.byContradiction fun D=>?_) f.mem f.bd).mono (Nat.le_add_right _ _)⟩
 have:=Jk (l:=v::Go.Abs.BS w) (m:=V) (List.nodup_cons.2 ⟨D,Hs (hw.red I)⟩) (fun x f=>by
  rcases List.mem_cons.1 f with rfl | f
  ·exact hu.BS I hV _ F
  exact hw.BS I hV x f)
 rw[List.length_cons,Jy] at this;omega
theorem mw (I:Ci P 256) (hV:∀{u},P u->∀v∈Go.Abs.BS u,v∈V) (h3:V.length<=3) {C S:Nat} (F:Ce<=C) (o:C<=Cn) (f:Rn<=S) (h:S<=Sm):Dp (Tf P) Rn C S:=
 have G:=ZQ I hV h3 f h
 {G with
  Cp:=fun hu hw B D=>(Tf.QO I hV h3 hu hw B D).mono AA
  fit:=fun hu=>(G.fit hu).mono AA
  mul:=fun hu=>by have:=G.mul hu;omega
  IT:=fun hu=>(G.IT hu).mono AA}
end
end Go.Abs
namespace Go.Abs
theorem El.BW {u:AH} {n x:Re} {s:Nat} (hu:BG u) (h:BG (BW u n)) (f:El u s x):El (BW u n) s x:=by
 by_cases B:Sq u n
 ·rw[Ec B];exact f
 rw[Dv B] at h ⊢;have o:El u 0 0:=El.rat hu HW;have:=Nj h f.mem o.mem f.bd o.bd;rw[show x+0*rt u (co u n)=x by grind] at this;exact⟨GN f.mem,this⟩
def P4 (P:AH->Prop) (n:Re) (u:AH):Prop:=P u\/∃u0,Tf P u0/\In u0 n/\u<:+BW u0 n
abbrev R4:Nat:=1920500
abbrev E4:Nat:=1942090
abbrev Rf:Nat:=150420000
section
variable {P:AH->Prop} {V:List Re} {w:AH} {n:Re}
theorem fj (I:Ci P 256) (hV:∀{u},P u->∀v∈Go.Abs.BS u,v∈V) (h3:V.length<=3) (hw:Tf P w) (ha:∀{u},Tf P u->Br u w) {z:AH} (N:BG z) (f:∀{s x},El w s x->El z s x) {r:List Rat} {u:AH} (h:Tf P (r::u)):Wv z 2032990 46909868 R4 (AW u r):=by
 have o:=h.red I;have e1:=Tf.QO I hV h3 h hw (ha h) (JX o);have F:In (r::u) (AW u r):=GN (Ch o);have H:AW u r≠0:=by have:=o.2.2.1;grind
 have G:rt u r≠0:=fun e=>H (by rw[<-DW o,e];grind)
 obtain⟨y,K,B⟩:=Ey (hw.red I) e1.mem G;have e2:=HX (hw.red I) (hw.Ho I hV h3) e1.mem K B e1.bd;have D:El w 46909868 y:=⟨K,e2.mono (Nat.le_trans (GZ (Nat.le_trans (hw.len I hV) h3) vw vw) (by decide +kernel))⟩
 have b3:El (r::u) (Rn+0) (AW u r):=by
  have J:El u 0 0:=El.rat o.1 HW;have hb:Bd Rn (co u (AW u r)):=by rw[FU o];exact (h.Ho I hV h3).head
  have:=Nj o (Ch o) J.mem hb J.bd;rw[show AW u r+0*rt u r=AW u r by grind] at this;exact⟨F,this⟩
 have L:=Tf.QO I hV h3 h hw (ha h) b3;exact⟨(f e1).mem,(f e1).bd.mono AF,⟨y,by rw[<-B];exact Re.mul_comm _ _,(f D).bd⟩,(f L).bd.mono AF⟩
theorem fh (I:Ci P 256) (hV:∀{u},P u->∀v∈Go.Abs.BS u,v∈V) (h3:V.length<=3) (hw:Tf P w) (f:El w R4 n) (U:0<n):Wv (BW w n) 2032990 46909868 R4 n:=by
 have o:=hw.red I;have K:=hw.Ho I hV h3;have N:w.length<=3:=Nat.le_trans (hw.len I hV) h3;have H:n≠0:=by grind
 have D:Re.sqrt n*Re.sqrt n=n:=Re.Hn (by grind);have O:Re.sqrt n≠0:=fun e=>H (by rw[<-D,e];grind)
 by_cases B:Sq w n
 ·rw[Ec B];have hm:=(Lm (by grind)).1 B;have b1:=Pn o K hm D f.bd
  have F:Bd 2032990 (co w (Re.sqrt n)):=b1.mono (by
   have:=PC (h:=w.length) (h':=3) (R:=Rn) (R':=Rn) N vw;have e:GG 3 Rn=112490:=by decide +kernel
   have Z:R4=1920500:=rfl;omega)
  obtain⟨y,Y,J⟩:=Ey o hm O;have b2:=HX o K hm Y J F;exact⟨hm,F,⟨y,by rw[<-J];exact Re.mul_comm _ _,b2.mono (Nat.le_trans (GZ N vw vw) (by decide +kernel))⟩,f.bd⟩
 have L:=Kc o f.mem U B;have Q:∀{s x},El w s x->El (BW w n) s x:=fun W=>El.BW o (by rw[Dv B];exact L) W
 have e1:=JX L;rw[Jt f.mem] at e1;obtain⟨i,S,G⟩:=Ey o f.mem H;have b2:=HX o K f.mem S G f.bd;have z0:El w 0 0:=El.rat o HW;have b3:=Nj L z0.mem S z0.bd b2;rw[Jt f.mem,show (0:Re)+i*Re.sqrt n=i*Re.sqrt n by grind] at b3;refine⟨by rw[Dv B];exact e1.mem,by rw[Dv B];exact e1.bd.mono AF,⟨i*Re.sqrt n,?_,?_⟩,(Q f).bd⟩
 ·have e2:i*Re.sqrt n*Re.sqrt n=i*(Re.sqrt n*Re.sqrt n):=by grind
  have:i*Re.sqrt n*Re.sqrt n=n*i:=by rw[e2,D];exact Re.mul_comm _ _
  rw[this,G]
 rw[Dv B];refine b3.mono (Nat.le_trans (Nat.add_le_add_left (GZ N vw vw) _) (by decide +kernel))
theorem Um (I:Ci P 256) (hV:∀{u},P u->∀v∈Go.Abs.BS u,v∈V) (h3:V.length<=3) (hw:Tf P w) (o:El w R4 n) (H:0<=n):Ml (BW w n) E4:=by
 have B:=hw.red I;have D:=hw.Ho I hV h3;have he:=G5 (h:=w.length) (h':=3) (R:=Rn) (R':=Rn) (Nat.le_trans (hw.len I hV) h3) vw;have G:EE 3 Rn=10794:=by decide +kernel
 have M:=Ml.of B D
 by_cases f:Sq w n
 ·rw[Ec f];exact M.mono (by show _<=1942090;omega)
 have F:=Kc B o.mem (by
  have:n≠0:=fun e=>f (by rw[e];exact⟨0,Cs w,by grind⟩)
  grind) f
 rw[Dv f];have J:R4=1920500:=rfl;exact (M.cons F o.bd).mono (by show _<=1942090;omega)
theorem ni (I:Ci P 256) (hV:∀{u},P u->∀v∈Go.Abs.BS u,v∈V) (h3:V.length<=3) (hw:Tf P w) (J:El w R4 n) (O:0<=n) {x y:Re} {s:Nat} (f:El (BW w n) s x) (o:In (BW w n) y) (e:x*y=1):El (BW w n) (47*s+44850000) y:=by
 have B:=hw.red I;have G:=hw.Ho I hV h3;have H:w.length<=3:=Nat.le_trans (hw.len I hV) h3;have he:=G5 (h:=w.length) (h':=3) (R:=Rn) (R':=Rn) H vw;have N:EE 3 Rn=10794:=by decide +kernel
 have F:∀s,II w.length Rn s<=23*s+151098:=fun s=>Nat.le_trans (GZ H vw vw) (by simp only[II,EE,Rn];omega)
 refine⟨o,?_⟩
 by_cases D:Sq w n
 ·rw[Ec D] at f o ⊢;exact (HX B G f.mem o e f.bd).mono (by have:=F s;omega)
 have L:=Kc B J.mem (by
  have:n≠0:=fun e=>D (by rw[e];exact⟨0,Cs w,by grind⟩)
  grind) D
 rw[Dv D] at f o ⊢;have:=Ml.inv (P:=fun s=>II w.length Rn s) L (Ml.of B G) J.bd (fun f o e hb=>HX B G f o e hb) f.mem e f.bd;refine this.mono ?_;have K:=F (2*s+2*EE w.length Rn+R4+1)
 show s+EE w.length Rn+II w.length Rn (2*s+2*EE w.length Rn+1920500+1)<=_
 have K:II w.length Rn (2*s+2*EE w.length Rn+1920500+1)<=23*(2*s+2*EE w.length Rn+1920500+1)+151098:=F _;omega
theorem Tf.Jw (I:Ci P 256) {u v:AH} (h:u<:+v) (f:Tf P v):Tf P u:=by
 obtain⟨t,rfl⟩:=h
 induction t with
 | nil=>exact f
 | cons r t o=>exact o (f.sub I)
theorem P4.sub (I:Ci P 256) {r:List Rat} {u:AH} (h:P4 P n (r::u)):P4 P n u:=by
 rcases h with h |⟨B,h,f,o⟩
 ·exact .inl (I.sub h)
 exact .inr ⟨B,h,f,(List.suffix_cons r u).trans o⟩
theorem P4.red (I:Ci P 256) (f:0<=n) {u:AH} (h:P4 P n u):BG u:=by
 rcases h with h |⟨D,h,o,B⟩
 ·exact I.red h
 exact Vg B (HQ (h.red I) o f)
theorem P4.top (I:Ci P 256) {r:List Rat} {u:AH} (h:P4 P n (r::u)):Tf P (r::u)\/(In u n/\¬Sq u n/\AW u r=n):=by
 rcases h with h |⟨D,h,B,f⟩
 ·exact .inl (Tf.of I h)
 by_cases o:Sq D n
 ·rw[Ec o] at f;exact .inl (h.Jw I f)
 rw[Dv o] at f;rcases List.suffix_cons_iff.1 f with e | f
 ·obtain⟨rfl,rfl⟩:=List.cons.inj e;exact .inr ⟨B,o,FE B⟩
 exact .inl (h.Jw I f)
theorem P4.len (I:Ci P 256) (hV:∀{u},P u->∀v∈Go.Abs.BS u,v∈V) {u:AH} (h:P4 P n u):∀v∈Go.Abs.BS u,v∈n::V:=by
 induction u with
 | nil=>intro v f;simp[Go.Abs.BS] at f
 | cons r u o=>
  intro v f;rcases List.mem_cons.1 f with rfl | f
  ·rcases h.top I with h |⟨_,_,e⟩
   ·exact List.mem_cons_of_mem _ (h.BS I hV _ List.mem_cons_self)
   rw[e];exact List.mem_cons_self
  exact o (h.sub I) v f
theorem WU (I:Ci P 256) (hV:∀{u},P u->∀v∈Go.Abs.BS u,v∈V) (h3:V.length<=3) (hw:Tf P w) (ha:∀{u},Tf P u->Br u w) (f:El w R4 n) (B:0<=n) {r:List Rat} {u:AH} (h:P4 P n (r::u)):Wv (BW w n) 2032990 46909868 R4 (AW u r):=by
 have o:BG (BW w n):=HQ (hw.red I) f.mem B;rcases h.top I with h |⟨G,D,e⟩
 ·exact fj I hV h3 hw ha o (fun F=>El.BW (hw.red I) o F) h
 rw[e]
 exact fh I hV h3 hw f (by
  have:n≠0:=fun e=>D (by rw[e];exact⟨0,Cs u,by grind⟩)
  grind)
theorem Zi (I:Ci P 256) (hV:∀{u},P u->∀v∈Go.Abs.BS u,v∈V) (h3:V.length<=3) (hw:Tf P w) (ha:∀{u},Tf P u->Br u w) (B:El w R4 n) (o:0<=n):Ci (P4 P n) Rf:=by
 have G:BG (BW w n):=HQ (hw.red I) B.mem o;have M:=Um I hV h3 hw B o;refine⟨fun h=>P4.red I o h,fun {u} h=>?_,fun h=>P4.sub I h⟩;have D:=P4.red I o h
 have F:u.length<=4:=by
  have:=Jk (Hs D) (P4.len I hV h);rw[Jy,List.length_cons] at this;omega
 have f:∀v∈Go.Abs.BS u,Wv (BW w n) 2032990 46909868 R4 v:=by
  clear F D
  induction u with
  | nil=>intro v f;simp[Go.Abs.BS] at f
  | cons r u H=>
   intro v f;rcases List.mem_cons.1 f with rfl | f
   ·exact WU I hV h3 hw ha B o h
   exact H (P4.sub I h) v f
 exact (WD (m:=3) G M D F f).mono AF
theorem Tf.KP (I:Ci P 256) (hV:∀{u},P u->∀v∈Go.Abs.BS u,v∈V) (h3:V.length<=3) (J:Ci (P4 P n) Rf) {u:AH} (h:Tf (P4 P n) u):u.length<=4:=by
 have:=h.len J (V:=n::V) (fun f=>P4.len I hV f);rw[List.length_cons] at this;omega
theorem Tf.VG (I:Ci P 256) {u:AH} (h:Tf P u):Tf (P4 P n) u:=by
 induction h with
 | nil=>exact .nil
 | BW _ o f B=>exact .BW B (.inl o) f
theorem Tf.Pd (I:Ci P 256) {u:AH} (h:Tf P u) (f:In u n):Tf (P4 P n) (Go.Abs.BW u n):=by
 by_cases o:Sq u n
 ·rw[Ec o];exact h.VG I
 have:=Tf.BW (h.VG I (n:=n)) (show P4 P n (co u n::u) from .inr ⟨u,h,f,by rw[Dv o];exact List.suffix_refl _⟩) (Br.refl u);rwa [FE f] at this
end
end Go.Abs
namespace Go.Abs
abbrev Cf:Nat:=214500000
abbrev Mf:Nat:=156000000000
theorem mQ:∀h,h<=4->Fit h Rf (Mf+Cf)
 |0,_|1,_|2,_|3,_|4,_=>⟨by decide +kernel,by decide +kernel,by decide +kernel,by decide +kernel⟩
 | _+5,h=>absurd h AA
theorem mM:∀h,h<=4->FQ h Rf (Mf+Cf)
 |0,_|1,_|2,_|3,_|4,_=>⟨by decide +kernel,by decide +kernel,by decide +kernel,by decide +kernel⟩
 | _+5,h=>absurd h AA
theorem o4:2*(Mf+Cf)+EE 4 Rf<=60000000000000:=by decide +kernel
theorem Ze:II 4 Rf Mf<=60000000000000:=by decide +kernel
theorem ZO {P:AH->Prop} {R0 S:Nat} (I:Ci P R0) (F:∀{u},Tf P u->TB Rf u) (f:∀{u},Tf P u->u.length<=4) (B:∀{u w s x},Tf P u->Tf P w->Br u w->El u s x->El w (s+Cf) x) (D:Rf<=S) (o:S<=Mf):Dp (Tf P) Rf Cf S where
 Bb:=fun {u} h=>⟨h.red I,F h,AF,by have:=f h;omega⟩
 ht:=fun {u} h=>by have:=f h;omega
 nil:= .nil
 sub:=fun {r u} h=>h.sub I
 BW:=fun {t r u} ht h B=>ht.Pe I h B
 Cp:=B
 fit:=fun {u} h=>(mQ _ (f h)).mono (Nat.add_le_add_right o Cf)
 mul:=fun {u} h=>Nat.le_trans (Nat.add_le_add (Nat.mul_le_mul_left 2 (Nat.add_le_add_right o Cf)) (G5 (h:=u.length) (h':=4) (R:=Rf) (R':=Rf) (f h) vw)) o4
 RS:=D
 IT:=fun {u} h=>(mM _ (f h)).mono (Nat.add_le_add_right o Cf)
section
variable {P:AH->Prop} {V:List Re} {w:AH} {n:Re}
theorem ml (I:Ci P 256) (hV:∀{u},P u->∀v∈Go.Abs.BS u,v∈V) (h3:V.length<=3) (hw:Tf P w) (ha:∀{u},Tf P u->Br u w) (B:El w R4 n) (o:0<=n) {S:Nat} (G:Rf<=S) (H:S<=Mf):Dp (Tf (P4 P n)) Rf Cf S:=by
 have J:=Zi I hV h3 hw ha B o;have F:BG (BW w n):=HQ (hw.red I) B.mem o;have M:=Um I hV h3 hw B o;have D:∀{u},Tf (P4 P n) u->∀v∈Go.Abs.BS u,Wv (BW w n) 2032990 46909868 R4 v:=fun {u} h=>Tf.all J (fun L=>WU I hV h3 hw ha B o L) h
 refine ZO J (fun {u} h=>(WD (m:=3) F M (h.red J) (h.KP I hV h3 J) (D h)).mono AF) (fun h=>h.KP I hV h3 J) (fun {u v s x} hu f K N=>(mF (m:=4) F M (hu.red J) (f.red J) (D hu) (D f) (hu.KP I hV h3 J) (f.KP I hV h3 J) K N).mono ?_) G H
 show s+4*(2032990+1942090+1)+4*46909868+(4+1)*1942090<=s+214500000
 omega
theorem mj (I:Ci P 256) (hV:∀{u},P u->∀v∈Go.Abs.BS u,v∈V) (h3:V.length<=3) {S:Nat} (f:Rf<=S) (o:S<=Mf):Dp (Tf P) Rf Cf S:=by
 refine ZO I (fun {u} h=>(h.Ho I hV h3).mono AF) (fun h=>Nat.le_trans (h.len I hV) AA) (fun {u v s x} hu D B F=>(Tf.QO I hV h3 hu D B F).mono ?_) f o
 show s+226506<=s+214500000
 omega
end
end Go.Abs
namespace Go.Abs
abbrev Ve:=Nu×Nu
noncomputable def vm (p:Ve):el CV:=(nm p.1,nm p.2)
noncomputable def qF (ns:List Nu) (W:List UInt8):List Ve:=(List.range (W.length/2)).map fun i=>(Ev ns (W.getD (2*i) 0).toNat,Ev ns (W.getD (2*i+1) 0).toNat)
abbrev Fe (TT:AH->Prop) (w:AH):Prop:=Fm TT w Rn 11500 20 43400000 23 14
abbrev Fd (TT:AH->Prop) (w:AH):Prop:=Fm TT w Rf 1950000 110 80000 47 23
abbrev Nd (TT:AH->Prop) (w:AH) (k:Nat) (T:List LR) (A:LR) (x:Re):Prop:=Nm TT w 1950000 k T A x
abbrev Vd (TT:AH->Prop) (w:AH) (k k':Nat) (T1:List LR) (A1:LR) (T2:List LR) (A2:LR) (x y:Re):Prop:=Vm TT w 1950000 k k' T1 A1 T2 A2 x y
theorem UR (t:Nat):II 3 Rn t<=23*t+14*11500:=by simp only[II,EE,Rn];omega
structure Pl (P:AH->Prop) (V:List Re) (w:AH):Prop where
 I:Ci P 256
 hV:∀{u},P u->∀v∈BS u,v∈V
 h3:V.length<=3
 hw:Tf P w
 ha:∀{u},Tf P u->Br u w
theorem pv {P:AH->Prop} {V:List Re} (I:Ci P 256) (hV:∀{u},P u->∀v∈BS u,v∈V) (h3:V.length<=3):∃w,Pl P V w:=by
 obtain⟨w,hw,ha⟩:=Tf.top I (fun {u} h=>Nat.le_trans (h.len I hV) h3);exact⟨w,I,hV,h3,hw,ha⟩
section
variable {P:AH->Prop} {V:List Re} {w:AH}
theorem Pl.len (L:Pl P V w) {u:AH} (h:Tf P u):u.length<=3:=Nat.le_trans (h.len L.I L.hV) L.h3
theorem Pl.mul (L:Pl P V w) {x y:Re} {s t:Nat} (f:El w s x) (h:El w t y):El w (s+t+10794) (x*y):=(f.mul ⟨L.hw.red L.I,L.hw.Ho L.I L.hV L.h3,AF,by have:=L.len L.hw;omega⟩ h).mono (by
 have:=G5 (L.len L.hw) (Nat.le_refl Rn);have e:EE 3 Rn=10794:=by decide +kernel
 omega)
theorem Pl.inv (L:Pl P V w) {x y:Re} {s:Nat} (f:El w s x) (h:In w y) (e:x*y=1):El w (23*s+14*11500) y:=(f.inv ⟨L.hw.red L.I,L.hw.Ho L.I L.hV L.h3,AF,by have:=L.len L.hw;omega⟩ h e).mono (Nat.le_trans (GZ (L.len L.hw) vw vw) (UR s))
theorem Pl.fe (L:Pl P V w):Fe (Tf P) w:=by
 refine⟨fun {S} o B=>mw L.I L.hV L.h3 AF AF o (Nat.le_trans B AF),L.hw,L.ha,AF,AF,fun f h=>(L.mul f h).mono AA,fun f h e=>L.inv f h e,fun {u} hu=>?_⟩;exact Nat.le_trans (GZ (L.len hu) vw vw) (Nat.le_trans (UR _) AF)
theorem Pl.fd (L:Pl P V w):Fd (Tf P) w:=by
 refine⟨fun {S} o B=>mj L.I L.hV L.h3 o (Nat.le_trans B AF),L.hw,L.ha,AF,AF,fun f h=>(L.mul f h).mono AA,fun f h e=>(L.inv f h e).mono AA,fun {u} hu=>?_⟩;exact Nat.le_trans (GZ (Nat.le_trans (L.len hu) (by decide:3<=4)) vw vw) Ze
theorem Pl.UF (L:Pl P V w) {n:Re} (f:El w R4 n) (h:0<=n):Fd (Tf (P4 P n)) (BW w n):=by
 have J:=Zi L.I L.hV L.h3 L.hw L.ha f h;have D:BG (BW w n):=HQ (L.hw.red L.I) f.mem h;have M:=Um L.I L.hV L.h3 L.hw f h;refine⟨fun {S} F G=>ml L.I L.hV L.h3 L.hw L.ha f h F (Nat.le_trans G AF),L.hw.Pd L.I f.mem,fun {u} hu=>JY D (hu.red J) (fun v K=>(Tf.all J (fun H=>WU L.I L.hV L.h3 L.hw L.ha f h H) hu v K).root),AF,AF,fun {x y s t} o B=>⟨BO D o.mem B.mem,(M.bd o.mem B.mem o.bd B.bd).mono (by show s+t+1942090<=s+t+1950000;omega)⟩,fun o B e=>(ni L.I L.hV L.h3 L.hw f h o B e).mono AA,fun {u} hu=>?_⟩;exact Nat.le_trans (GZ (hu.KP L.I L.hV L.h3 J) vw vw) Ze
theorem Pl.lift (L:Pl P V w) {n:Re} (H:In w n) (f:0<=n) {b k b' k':Nat} {T:List LR} {A:LR} {x:Re} (h:Nm (Tf P) w b k T A x) (G:k*b<=k'*b'):Nm (Tf (P4 P n)) (BW w n) b' k' T A x:=by
 obtain⟨u,o,B,h3,D,F⟩:=h;exact⟨u,o.VG L.I,B,h3,D,(El.BW (L.hw.red L.I) (HQ (L.hw.red L.I) H f) F).mono G⟩
end
theorem pw {V:List Re} {ns:List Nu} (hV:V.length<=3) (h:∀n∈ns,DG V n):∃w,Pl (PN ns) V w:=pv (PN.KL hV h) (fun f=>PN.BS h f) hV
noncomputable def vd (ns:List Nu) (W:List UInt8):List (el CV):=if W.length<=24 then (qF ns W).map vm else []
theorem RO {TT:AH->Prop} {w:AH} (F:Fd TT w) {p:Rat} (f:C7 p):∃A,A=em [] (Re.ofRat p)/\Nd TT w 1 [] A (Re.ofRat p):=⟨_,rfl,GU F AF (Fg f)⟩
end Go.Abs
namespace Go.Abs
open Classical in
noncomputable def fs (x y:Re):Re:=if x=0 then y else x
open Classical in
noncomputable def un (x:Re):Re:=if x=0 then 0 else 1
section
variable {x y z:Re}
theorem MS (h:x=0):fs x y=y:=if_pos h
theorem MT (h:x≠0):fs x y=x:=if_neg h
theorem ND (h:x=0):un x=0:=if_pos h
theorem NG (h:x≠0):un x=1:=if_neg h
theorem UK (h:¬(x=0/\y=0)):fs x y≠0:=by
 by_cases f:x=0
 ·rw[MS f];exact fun e=>h ⟨f,e⟩
 rw[MT f];exact f
theorem RT:(1:Re)≠0:=fun e=>absurd (Re.Jm.1 (show Re.ofRat 1=Re.ofRat 0 from e)) AF
theorem Qf {i:Re} (h:x*i=1):i=BU x:=by
 have f:x≠0:=fun e=>RT (by rw[<-h,e];grind)
 have:=Fj f;have e:i=i*(x*BU x):=by rw[this];grind
 rw[e,show i*(x*BU x)=(x*i)*BU x by grind,h];grind
theorem inv_neg (h:x≠0):BU (-x)= -BU x:=(Qf (by have:=Fj h;grind)).symm
theorem uE:un (-x)=un x:=by
 by_cases h:x=0
 ·rw[ND h,ND (by rw[h];grind)]
 rw[NG h,NG (fun e=>h (by grind))]
theorem mh:fs (-x) (-y)= -fs x y:=by
 by_cases h:x=0
 ·rw[MS h,MS (by rw[h];grind)]
 rw[MT h,MT (fun e=>h (by grind))]
theorem aD (h:¬(x=0/\y=0)): -z*BU (fs (-x) (-y))=z*BU (fs x y):=by
 rw[mh,inv_neg (UK h)];grind
theorem og (h:¬(x=0/\y=0)):un x=1\/un x=0/\y*BU (fs x y)=1:=by
 by_cases f:x=0
 ·exact .inr ⟨ND f,by rw[MS f];exact Fj (fun e=>h ⟨f,e⟩)⟩
 exact .inl (NG f)
end
structure E8 (TT:AH->Prop) (w:AH) (b k l:Nat) (T1:List LR) (A1:LR) (T2:List LR) (A2:LR) (T3:List LR) (A3:LR) (x y z:Re):Prop where
 x:Nm TT w b 1 T1 A1 x
 y:Nm TT w b k T2 A2 y
 z:Nm TT w b l T3 A3 z
section
variable {TT:AH->Prop} {w:AH} {R b c M q p k k' l l':Nat} {T1 T2:List LR} {A1 A2:LR} {x y:Re}
theorem Nm.shrink (h:Nm TT w b k T1 A1 x) (o:Nm TT w b l T2 A2 y) (e:x=y):Nm TT w b l T1 A1 x:=by
 obtain⟨u,f,F,D,G,_⟩:=h;obtain⟨_,_,_,_,_,B⟩:=o;exact⟨u,f,F,D,G,e ▸ B⟩
theorem RA (F:Fm TT w R b c M q p) (f:c<=M) {r:Rat} (o:C7 r) (h:Nm TT w b k T1 A1 x) (e:x=Re.ofRat r):Nm TT w b 1 T1 A1 (Re.ofRat r):=e ▸ h.shrink (GU F f (Fg o F.hb)) e
end
section
variable {x y z a d:Re}
theorem eU {x:Re} (h:x≠0):0<x*x:=by
 have f:=Re.Hm x;have o:=I3 h h
 grind
theorem Ic (h:¬(x=0/\y=0)):x*x+y*y≠0:=by
 have o:=Re.Hm x;have B:=Re.Hm y
 by_cases f:x=0
 ·have:=eU (fun e=>h ⟨f,e⟩)
  grind
 have:=eU f
 grind
end
section
variable {n m z n' m' z' x y x1 y1 x2 y2:Re}
theorem fL (h:¬(n=0/\m=0)):un n=n*BU (fs n m):=by
 by_cases f:n=0
 ·rw[ND f,f];grind
 rw[NG f,MT f,Fj f]
theorem rJ (h:¬(n=0/\m=0)) (f:n'= -n) (em:m'= -m) (o:z'= -z):un n=un n'/\m*BU (fs n m)=m'*BU (fs n' m')/\z*BU (fs n m)=z'*BU (fs n' m'):=by
 rw[f,em,o];exact⟨uE.symm,(aD h).symm,(aD h).symm⟩
end
end Go.Abs
