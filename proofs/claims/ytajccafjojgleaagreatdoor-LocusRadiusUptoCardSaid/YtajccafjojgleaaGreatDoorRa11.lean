/- Part 12 of a proof. Conditions: each theorem's own. -/
import Derived.Test.YtajccafjojgleaaGreatDoorRa10
set_option linter.all false
set_option maxHeartbeats 80000000
set_option maxRecDepth 20000
open Go.Proofs
namespace Go.Abs
open Go.RowKit
theorem Bn {ops:List Oper} {tr:Tr} {C:Prop} (h:C) (f:UT ops tr=true:=by kernel_rfl):(Unit->Jq ops tr=true)/\C:=⟨fun _=>oU f,h⟩
theorem Da {A1 A2 A3 A4 A5 X Q:Prop} {f:Nat->Af->Prop} {h o B:Nat->Af->List AV->AV->Af->Prop} {b:Af} {a:List AV} {r:AV} {b1:Af} (D:f 0 b) (h3:o 0 b a r b1) (F:h 0 b a r b1) (k:Q) (e:B 0 b a r b1=Q:=by exact Cw):
  A1\/A2\/A3\/A4\/A5\/(∃(id:Nat) (b:Af) (a:List AV) (r:AV) (b1:Af),(Unit->f id b/\h id b a r b1)/\(Unit->o id b a r b1)/\B id b a r b1)\/X:=
 .inr (.inr (.inr (.inr (.inr (.inl ⟨0,b,a,r,b1,fun _=>⟨D,F⟩,fun _=>h3,e.mpr k⟩)))))
theorem Bi {n:Nat}:n<=n:=Nat.le_refl n
end Go.Abs
namespace Go.Abs
theorem dL {E:Env} {g:FuncId} {args:List AV} {r:AV} {B:Nat->Af->List AV->Prop} {S:Af->Af} {K:Nat->AV->Prop} {f o F G:Prop} (id:Nat) (b:Af) (H:env Tryz.prog=E) (h:Dn Tryz.prog g args (S b) r) (hb:B id b args) (I:K id r):
 f\/o\/F\/(∃(id:Nat) (b:Af) (a:List AV) (r:AV),(Unit->B id b a)/\(Unit->E.D g a (S b) r)/\K id r)\/G:= .inr (.inr (.inr (.inl ⟨id,b,args,r,fun _=>hb,fun _=>Fq H h,I⟩)))
end Go.Abs

namespace Go.Abs
abbrev MY:T:=(.pr .str (.pr .i64 (.pr .i64 (.pr .i64 (.pr .i64 (.pr .i64 .bool))))))
def OF:List (el MY):=[(⟨#[102,105,120]⟩,1,0,2,1,2,false),(⟨#[100,105,115,116,97,110,99,101]⟩,2,0,1,2,1,false),(⟨#[105,110,99,105,100,101,110,116]⟩,3,0,0,0,1,false),(⟨#[111,102,102,115,101,116]⟩,3,0,1,2,1,true),(⟨#[97,110,103,108,101]⟩,4,0,1,3,1,false),(⟨#[112,97,114,97,108,108,101,108]⟩,4,0,0,0,1,false),(⟨#[112,101,114,112,101,110,100,105,99,117,108,97,114]⟩,4,0,0,0,1,false),(⟨#[101,113,117,97,108]⟩,4,0,0,0,1,false),(⟨#[109,105,100,112,111,105,110,116]⟩,3,0,0,0,2,false),(⟨#[115,121,109,109,101,116,114,105,99]⟩,4,0,0,0,2,false),(⟨#[104,111,114,105,122,111,110,116,97,108]⟩,2,0,0,0,1,false),(⟨#[118,101,114,116,105,99,97,108]⟩,2,0,0,0,1,false),(⟨#[111,110,99,105,114,99,108,101]⟩,1,1,0,0,1,false),(⟨#[114,97,100,105,117,115]⟩,0,1,1,2,1,false),(⟨#[115,97,109,101,114,97,100,105,117,115]⟩,0,2,0,0,1,false),(⟨#[116,97,110,103,101,110,116,108,105,110,101]⟩,2,1,0,0,1,true),(⟨#[116,97,110,103,101,110,116,99,105,114,99,108,101]⟩,0,2,0,0,1,true)]
def Co (k:Int):el MY:=if 1<=k/\k<=17 then OF.getD (k-1).toNat (⟨#[]⟩,0,0,0,0,0,false) else (⟨#[]⟩,0,0,0,0,0,false)
variable {X:List Int} {a b k x:Int} {c:Bool} {i j:Nat}
theorem bx (h:¬(1<=k/\k<=17)):Co k=(⟨#[]⟩,0,0,0,0,0,false):=if_neg h
theorem pg {x:el MY} (h:1<=k/\k<=17) (f:OF[(k-1).toNat]? =some x):Co k=x:=by
 unfold Co;rw[if_pos h,List.getD_eq_getElem?_getD,f];rfl
def Km (k:Int):Bool:=decide (1<=k/\k<=17)
def dfB:List Int->Nat->Bool
 | l,0=>true
 | l,i+1=>dfB l i&& !((l.take i).contains (l.getD i 0))
def Dy (n:Int) (l:List Int):Bool:=l.all fun x=>decide (0<=x/\x<n)
def HQ (l:List Int):Prop:=∀(i j:Nat) (x y:Int),j<i->l[i]? =some x->l[j]? =some y->x≠y
theorem SD {p:Int->Bool} (h:X[i]? =some x):(X.drop i).all p=(p x&&(X.drop (i+1)).all p):=by
 have f:=Dg h;rw[List.drop_eq_getElem_cons f,List.all_cons];rw[List.getElem?_eq_getElem f] at h;rw[Option.some.inj h]
theorem PG {y:Int} (f:X[i]? =some x) (h:X[i]? =some y):x=y:=Option.some.inj (f.symm.trans h)
theorem ke (h:∀(q:Nat) (x y:Int),q<j->X[i]? =some x->X[q]? =some y->x≠y) (ha:X[i]? =some a) (hb:X[j]? =some b) (f:a≠b):∀(q:Nat) (x y:Int),q<j+1->X[i]? =some x->X[q]? =some y->x≠y:=fun q x y D o B=>by
 by_cases e:q=j
 ·subst e;rw[PG o ha,PG B hb];exact f
 exact h q x y AA o B
theorem kf (h:∀(p q:Nat) (x y:Int),p<i->q<p->X[p]? =some x->X[q]? =some y->x≠y) (F:i<=j) (B:∀(q:Nat) (x y:Int),q<j->X[i]? =some x->X[q]? =some y->x≠y):
  ∀(p q:Nat) (x y:Int),p<i+1->q<p->X[p]? =some x->X[q]? =some y->x≠y:=fun p q x y G D f o=>by
 by_cases e:p=i
 ·subst e;exact B q x y AA f o
 exact h p q x y AA D f o
theorem WK:CF 96 [] (.one (.sl (.pr .str (.pr .i64 (.pr .i64 (.pr .i64 (.pr .i64 (.pr .i64 .bool)))))) OF)):=by
 refine AM Tryz.func96 fun E f=>?_
 refine⟨OF,fun _=>⟨rfl,AE,rfl,Ao⟩,.inr ?_⟩;try conv=>cbv
 exact AN ⟨t2,trivial⟩
theorem WG {nm:ByteArray} {d e f:Int} {g:Bool} (L:EF k) (G:(nm,a,b,d,e,f,g)=Co k) (F:c=Km k):CF 40 [AH k] (.Aj [(true,[.str nm,.int .i64 a,.int .i64 b,.int .i64 d,.int .i64 e,.int .i64 f,.bool g]),(false,[.bool c])]):=by
 unfold EF at L;obtain⟨RL,o⟩:∃z:List (el MY),z=OF:=⟨_,rfl⟩
 have N:RL.length=17:=by rw[o];rfl
 refine AM Tryz.func40 fun E K=>?_
 refine DF (fun O=>?_) fun O=>?_
 ·have h:=G.trans (bx AA);simp only[Prod.mk.injEq] at h;exact AN ⟨⟨rfl,congrArg _ (h.1),congrArg _ (h.2.1),congrArg _ (h.2.2.1),congrArg _ (h.2.2.2.1),congrArg _ (h.2.2.2.2.1),congrArg _ (h.2.2.2.2.2.1),congrArg _ (h.2.2.2.2.2.2),trivial⟩,⟨rfl,congrArg _ (by rw[F];exact decide_eq_false AA),trivial⟩,trivial⟩
 refine AB K (o ▸ WK) ?_;rintro W ⟨U,f9⟩;refine Ft (fun H=>?_) fun H=>?_
 ·have h:=G.trans (bx AA);simp only[Prod.mk.injEq] at h;exact AN ⟨⟨rfl,congrArg _ (h.1),congrArg _ (h.2.1),congrArg _ (h.2.2.1),congrArg _ (h.2.2.2.1),congrArg _ (h.2.2.2.2.1),congrArg _ (h.2.2.2.2.2.1),congrArg _ (h.2.2.2.2.2.2),trivial⟩,⟨rfl,congrArg _ (by rw[F];exact decide_eq_false AA),trivial⟩,trivial⟩
 refine AB K (o ▸ WK) ?_;intro I D;refine Ae ((I).toNat) fun J B=>?_
 try conv=>cbv
 obtain⟨Q,S,b1,d1,e1,f1,g1⟩:=J;have h:=G.trans (pg AA (by rw[<-D,<-o];exact B));simp only[Prod.mk.injEq] at h;exact AN ⟨⟨rfl,congrArg _ (h.1),congrArg _ (h.2.1),congrArg _ (h.2.2.1),congrArg _ (h.2.2.2.1),congrArg _ (h.2.2.2.2.1),congrArg _ (h.2.2.2.2.2.1),congrArg _ (h.2.2.2.2.2.2),trivial⟩,⟨rfl,congrArg _ (by rw[F];exact decide_eq_true AA),trivial⟩,trivial⟩
theorem fE {n:Int} (I:c=Dy n X):CF 41 [.one (.sl .i64 X),AH n] (.one (.bool c)):=by
 refine AM Tryz.func41 fun E Z=>?_
 refine BI [] [0,1,5] [] (fun vs G k=>∃(i':Nat) (i:Int),vs=[.one (.sl .i64 X),AH n,AH i]/\(AR i i'/\i'<=X.length)/\c=Dy n (X.drop i')/\k=X.length-i') (X.length-0) ⟨0,0,rfl,⟨BD 0,AA⟩,I,rfl⟩ ?_;rintro U o vs G O ⟨i',i,rfl,⟨J,K⟩,hinv,L⟩;have Y:=J.eq;refine AW ?_;rintro n8 ⟨W,f8⟩;refine BQ (fun N=>?_) fun N=>?_
 ·exact AL (by rw[hinv,List.drop_eq_nil_of_le AA];rfl)
 refine .inr ?_;refine Ae i' fun Q f=>?_
 try conv=>cbv
 refine DF (fun B=>?_) fun B=>?_
 ·exact AL (by rw[hinv];refine (SD (p:=fun x=>decide (0<=x/\x<n)) f).trans ?_;rw[decide_eq_false AA];rfl)
 refine Ae i' fun S h=>?_
 try conv=>cbv
 refine Mk (fun D=>?_) fun D=>?_
 ·exact AL (by rw[hinv];refine (SD (p:=fun x=>decide (0<=x/\x<n)) f).trans ?_;have e:=PG f h;rw[decide_eq_false AA];rfl)
 intro F H;exact BT o ⟨i'+1,F,rfl,⟨⟨AA⟩,AA⟩,hinv.trans ((SD (p:=fun x=>decide (0<=x/\x<n)) f).trans (by have e:=PG f h;rw[decide_eq_true AA];rfl)),rfl⟩
theorem LX (Q:c=true↔HQ X):CF 43 [.one (.sl .i64 X)] (.one (.bool c)):=by
 refine AM Tryz.func43 fun E hE=>?_
 refine BI [] [0,3] [] (fun vs H k=>∃(i':Nat) (i:Int),vs=[.one (.sl .i64 X),AH i]/\(AR i i'/\i'<=X.length)/\(∀(p q:Nat) (x y:Int),p<i'->q<p->X[p]? =some x->X[q]? =some y->x≠y)/\k=X.length-i') (X.length-0) ⟨0,0,rfl,⟨BD 0,AA⟩,fun p q x y h=>absurd h (Nat.not_lt_zero p),rfl⟩ ?_;rintro J0 I vs H a6 ⟨i',i,rfl,⟨W,Y⟩,hinv,a2⟩;have ei:=W.eq;refine AW ?_;rintro n7 ⟨e7,f7⟩;refine BQ (fun k8=>?_) fun k8=>?_
 ·exact AL (Q.2 fun p q x y h a b=>hinv p q x y (by have:=Dg a;omega) h a b)
 refine .inr ?_;refine BI [] [0,3,4] [] (fun vs H k=>∃(D:Nat) (j:Int),vs=[.one (.sl .i64 X),AH i,AH j]/\(AR j D/\D<=i')/\(∀(q:Nat) (x y:Int),q<D->X[i']? =some x->X[q]? =some y->x≠y)/\k=i'-D) (i'-0) ⟨0,0,rfl,⟨BD 0,AA⟩,fun q x y h=>absurd h (Nat.not_lt_zero q),rfl⟩ ?_;rintro J1 J vs H a7 ⟨D,j,rfl,⟨Z,a1⟩,f,a5⟩;conv=>cbv
 have ej:=Z.eq;refine BQ (fun K=>?_) fun K=>?_
 ·intro L S;exact BT I ⟨i'+1,L,rfl,⟨⟨AA⟩,AA⟩,kf hinv AA f,rfl⟩
 refine .inr ?_;refine Ae i' fun a8 o=>?_
 try conv=>cbv
 refine Ae D fun aa B=>?_
 refine AK ?_;intro O G;cases O <;> conv=>cbv
 ·have F:=Bu G;refine AK ?_;intro N U;exact BT J ⟨D+1,N,rfl,⟨⟨AA⟩,AA⟩,ke f o B F,rfl⟩
 have F:=Bv G;exact AL (Bool.eq_false_iff.2 fun e=>Q.1 e i' D _ _ AA o B F)
end Go.Abs
namespace Go.Abs
abbrev cC (kd:Int) (P C:List Int) (V:List Ex) (sd:Int):List AC:=[.int .i64 kd,.sl .i64 P,.sl .i64 C,.sl .ex V,.int .i64 sd]
abbrev QA (k:Int) (t:Nat->List LR) (a:Nat->LR):List AC:=[.int .i64 k,.sl (.sl AG) (t 0),.sl AG (a 0),.sl (.sl AG) (t 1),.sl AG (a 1),.sl (.sl AG) (t 2),.sl AG (a 2),.sl (.sl AG) (t 3),.sl AG (a 3),.sl (.sl AG) (t 4),.sl AG (a 4),.sl (.sl AG) (t 5),.sl AG (a 5),.sl (.sl AG) (t 6),.sl AG (a 6),.sl (.sl AG) (t 7),.sl AG (a 7),.sl (.sl AG) (t 8),.sl AG (a 8),.sl (.sl AG) (t 9),.sl AG (a 9)]
abbrev lcR (k:Int) (t:Nat->List LR) (a:Nat->LR) (e:Int):AV:= .Aj [(true,QA k t a),(false,[.int .i64 e])]
def F4 (t:Int):List Int->Nat->List Int
 | [],_=>[]
 | p::r,i=>if p=t then (i:Int)::F4 t r (i+1) else F4 t r (i+1)
variable {C P X AJ l:List Int} {V:List Ex} {c:Bool} {i:Nat} {kd sd x:Int}
theorem ay {t:Int}:∀(l:List Int) (i:Nat),F4 t (l++[x]) i=F4 t l i++(if x=t then [((i+l.length:Nat):Int)] else [])
 | [],i=>by simp[F4]
 | p::r,i=>by
  rw[List.cons_append,F4,F4,ay r (i+1),List.length_cons,(AA:i+1+r.length=i+(r.length+1))]
  split <;> rfl
theorem ax (t:Int):∀(l:List Int) (i:Nat),(F4 t l i).length<=l.length
 | [],_=>Nat.le_refl _
 | p::r,i=>by
  have:=ax t r (i+1);rw[F4];split <;> simp <;> omega
theorem az {t:Int} (h:l[i]? =some x):F4 t (l.take (i+1)) 0=F4 t (l.take i) 0++(if x=t then [(i:Int)] else []):=by
 rw[List.take_add_one,h];have:=ay (t:=t) (x:=x) (l.take i) 0;rw[show (some x).toList=[x] from rfl,this,List.length_take,Nat.min_eq_left (by have:=Dg h;omega),Nat.zero_add]
def KW (AJ C:List Int) (t:Int) (i:Nat):Bool:=AJ.getD (C.getD i 0).toNat 0==t
def CJ (AJ C:List Int) (i:Nat):Int:=AJ.getD (C.getD i 0).toNat 0
theorem Mj {n:Int} (h:Dy n l=true) (f:l[i]? =some x):0<=x/\x<n:=of_decide_eq_true (List.all_eq_true.1 h x (List.mem_of_getElem? f))
theorem PW {y:Int} (f:C[i]? =some x) (h:AJ[x.toNat]? =some y):CJ AJ C i=y:=by
 unfold CJ;rw[List.getD_eq_getElem?_getD,List.getD_eq_getElem?_getD,f];show (AJ[x.toNat]?).getD 0=y;rw[h];rfl
def hasB (P:List Int) (t:Int) (i:Nat):Bool:=(P.getD i 0==t)||(P.getD (i+1) 0==t)
def Cr (P:List Int) (t:Int):Bool:=P.any fun p=>p==t
def B9 (t:Int):List Int->Nat->Int
 | [],_=> -1
 | p::r,i=>if t=p then (i:Int) else B9 t r (i+1)
theorem ZX {t:Int} (h:l[i]? =some x):B9 t (l.drop i) i=if t=x then (i:Int) else B9 t (l.drop (i+1)) (i+1):=by
 have f:=Dg h;rw[List.drop_eq_getElem_cons f,B9];rw[List.getElem?_eq_getElem f] at h;rw[Option.some.inj h]
theorem ZY (t:Int):∀(l:List Int) (i:Nat),decide (B9 t l i >= 0)=Cr l t
 | [],i=>rfl
 | p::r,i=>by
  rw[B9];unfold Cr;rw[List.any_cons]
  by_cases e:t=p
  ·rw[if_pos e,e];simp
  rw[if_neg e,ZY t r (i+1),beq_eq_false_iff_ne.2 (Ne.symm e)];rfl
theorem Y5 (h:l[i]? =some x):l.getD i 0=x:=by rw[List.getD_eq_getElem?_getD,h];rfl
theorem a7 {t:Int} {R:List Int} (hP:P.length<=1000000) (hR:R=F4 t P 0):CF 53 [.agg (cC kd P C V sd),AH t] (.one (.sl .i64 R)):=by
 refine AM Tryz.func53 fun E hE=>?_
 rintro N ⟨U,f10⟩;refine BI [(5,.i64,true)] [1,5,9,10,11] [5] (fun vs S k=>∃(o:List Int) (m i':Nat) (i:Int),vs=[AH t,.one (.AU .i64 5 0 0 m),.one (.sl .i64 P),AH N,AH i]/\S=[.arr 0 .i64 o]/\(AR i i'/\i'<=P.length/\m=o.length)/\o=F4 t (P.take i') 0/\k=P.length-i') (P.length-0) ⟨[],0,0,0,rfl,rfl,⟨BD 0,AA,rfl⟩,rfl,rfl⟩ ?_;rintro J0 H vs S a2 ⟨o,m,i',i,rfl,rfl,⟨W,Y,hm⟩,hinv,Z⟩;conv=>cbv
 have ei:=W.eq;have a1:o.length<=P.length:=by rw[hinv];exact Nat.le_trans (ax _ _ _) (by rw[List.length_take];omega)
 refine BQ (fun L=>?_) fun L=>?_
 ·exact AN ⟨⟨rfl,.inl ⟨_,rfl,AA,congrArg _ (by rw[hR,show P=P.take i' from (List.take_of_length_le AA).symm,<-hinv,List.drop_zero,hm,List.take_length])⟩,trivial⟩,trivial⟩
 refine .inr ?_;refine Ae i' fun a5 f=>?_
 refine AW ?_;intro O G;refine .inr ?_;cases O <;> conv=>cbv
 ·have B:=Bu G;refine AK ?_;intro F K;exact BT H ⟨o,m,i'+1,F,rfl,rfl,⟨⟨AA⟩,AA,hm⟩,by rw[hinv,az f,if_neg B,List.append_nil],rfl⟩
 have B:=Bv G;refine⟨[i],fun _=>⟨rfl,AE,rfl,⟨rfl,t1,trivial⟩⟩,.inr ?_⟩;try conv=>cbv
 refine .inl ⟨[i],fun _=>⟨rfl,by (first | rfl | omega),rfl,B5 (o.length+1) 8⟩,?_⟩;intro (D:List (el .i64)) Q h;have I:D=(o:List (el .i64))++([i]:List (el .i64)):=h.1;have J:Q=List.length (α:=(el .i64)) D:=h.2;refine AK ?_;intro F K;exact BT H ⟨D,_,i'+1,F,rfl,rfl,⟨⟨AA⟩,AA,J⟩,by rw[I,hinv,az f,if_pos B,(AA:i=(i':Int))],rfl⟩
theorem P8 {i t:Int} {i0:Nat} (G:AR i i0) (H:i0<C.length) (D:Dy (AJ.length:Nat) C=true) (F:c=KW AJ C t i0):CF 54 [AH i,.one (.Ck (.sl .i64) AJ 0),.one (.Ck (.pr .i64 (.pr (.sl .i64) (.pr (.sl .i64) (.pr (.sl .ex) .i64)))) (kd,P,C,V,sd) 0),.one (.Ck .i64 t 0)] (.one (.bool c)):=by
 have K:=G.eq;refine AM Tryz.func54 fun E L=>?_
 obtain⟨B,f⟩:=Bj (l:=(kd,P,C,V,sd).2.2.1) (i:=i0) AA;refine Cj f ?_;have hw:=Mj D f;refine Ae ((B).toNat) fun J h=>?_
 refine AK ?_;intro I o;have e1:=PW f h;exact AL (by rw[F,o];show (CJ AJ C i0==t)=_;rw[e1])
theorem OZ {t c:Int} (G:c=B9 t X 0):CF 25 [.one (.sl .i64 X),AH t] (AH c):=by
 refine AM Tryz.func25 fun E W=>?_
 rintro N ⟨S,f7⟩;refine BI [] [0,1,7,8] [] (fun vs D k=>∃(i':Nat) (i:Int),vs=[.one (.sl .i64 X),AH t,AH N,AH i]/\(AR i i'/\i'<=X.length)/\c=B9 t (X.drop i') i'/\k=X.length-i') (X.length-0) ⟨0,0,rfl,⟨BD 0,AA⟩,G,rfl⟩ ?_;rintro Q o vs D L ⟨i',i,rfl,⟨H,I⟩,hinv,J⟩;conv=>cbv
 have U:=H.eq;refine BQ (fun K=>?_) fun K=>?_
 ·exact AL (by rw[hinv,List.drop_eq_nil_of_le AA];rfl)
 refine .inr ?_;refine Ae i' fun O f=>?_
 try conv=>cbv
 refine BS (fun h=>?_) fun h=>?_
 ·exact AL (by rw[hinv,ZX f,if_pos h];omega)
 intro B F;exact BT o ⟨i'+1,B,rfl,⟨⟨AA⟩,AA⟩,hinv.trans ((ZX f).trans (if_neg h)),rfl⟩
theorem V3 {t:Int} (B:c=Cr X t):CF 55 [.one (.sl .i64 X),AH t] (.one (.bool c)):=by
 refine AM Tryz.func55 fun E o=>?_
 obtain⟨F,f⟩:=xI (B9 t X 0);refine AB o (OZ f) ?_;intro D h;exact AL (by rw[B,h,f,ZY])
end Go.Abs
namespace Go.Abs
variable {Aa Ab Ac Ad Ax Ay vl:LR} {C P X AJ:List Int} {Ta Tb Tc Td Tx Ty:List LR} {V:List Ex} {Ee c e e1 f1 i kd AI r sd:Int} {cr:List (el AY)} {g:FuncId} {i0 p0:Nat} {x y:el AY}
theorem FG {A1 A2 A3 A4 A5 X:Prop} {f:Nat->Af->Prop} {h o B:Nat->Af->List AV->AV->Af->Prop} (id:Nat) {b:Af} {a:List AV} {r:AV} {b1:Af} (D:f id b) (h3:o id b a r b1) (F:h id b a r b1) (G:B id b a r b1):
  A1\/A2\/A3\/A4\/A5\/(∃(id:Nat) (b:Af) (a:List AV) (r:AV) (b1:Af),(Unit->f id b/\h id b a r b1)/\(Unit->o id b a r b1)/\B id b a r b1)\/X:=
 .inr (.inr (.inr (.inr (.inr (.inl ⟨id,b,a,r,b1,fun _=>⟨D,F⟩,fun _=>h3,G⟩)))))
abbrev Be (kd:Int) (P C:List Int) (V:List Ex) (sd:Int) (vl:LR) (AJ:List Int) (AI:Int) (cr:List (el AY)) (e:Int):List AC:=[.int .i64 kd,.sl .i64 P,.sl .i64 C,.sl .ex V,.int .i64 sd,.sl AG vl,.sl .i64 AJ,.int .i64 AI,.sl AY cr,.int .i64 e]
abbrev Hp:T:= .pr eB (.pr (.sl AG) (.pr (.sl .i64) (.pr .i64 (.pr (.sl AY) .i64))))
theorem cR {p:Int} (B:AR p p0) (hb:p0<=1000000) (D:cr[2*p0]? =some x) (F:cr[2*p0+1]? =some y):CI Tryz.prog 125 [CT,AH p] (.var 0 (Be kd P C V sd vl AJ AI cr e)) (.agg (Bl x.1 x.2 y.1 y.2)) (.var 0 (Be kd P C V sd vl AJ AI cr e)):=by
 have J:=B.eq;refine DV Tryz.func125 (by kernel_rfl) rfl fun E K=>?_
 refine AK ?_;intro G f;refine Cj D ?_;intro H h I o;refine Cj F ?_;refine Ao
theorem cY (o:AR i i0) {p:Int} (B:AR p p0) (hb:p0<=1000000) (D:cr[2*p0]? =some x) (F:cr[2*p0+1]? =some y) (h:P[i0]? =some p):CI Tryz.prog 65 [CT,AH i] (.var 0 (Be kd P C V sd vl AJ AI cr e)) (.agg (Bl x.1 x.2 y.1 y.2)) (.var 0 (Be kd P C V sd vl AJ AI cr e)):=by
 have G:=o.eq;refine DV Tryz.func65 (by kernel_rfl) rfl fun E f=>?_
 conv=>cbv
 refine Cj h ?_;refine Da rfl (CL f (cR B hb D F)) Ao ?_
 refine Ao
theorem p4 (B:AR i i0) {p:Int} (D:AR p p0) (hb:p0<=1000000) (G:cr[2*p0]? =some x) (H:cr[2*p0+1]? =some y) (f:C[i0]? =some c) (o:0<=c) (F:AJ[c.toNat]? =some p):CI Tryz.prog 64 [CT,AH i] (.var 0 (Be kd P C V sd vl AJ AI cr e)) (.agg (Bl x.1 x.2 y.1 y.2)) (.var 0 (Be kd P C V sd vl AJ AI cr e)):=by
 have I:=B.eq;refine DV Tryz.func64 (by kernel_rfl) rfl fun E h=>?_
 conv=>cbv
 refine Cj f ?_;refine Cj F ?_;refine Da rfl (CL h (cR D hb G H)) Ao ?_
 refine Ao
theorem qA (D:AR i i0) (o:C[i0]? =some c) (B:0<=c/\c<=1000000) (F:0<=AI/\AI<=1000000) (G:cr[(2*AI+c).toNat]? =some x):CI Tryz.prog 63 [CT,AH i] (.var 0 (Be kd P C V sd vl AJ AI cr e)) (.agg (AZ x.1 x.2)) (.var 0 (Be kd P C V sd vl AJ AI cr e)):=by
 have J:=D.eq;refine DV Tryz.func63 (by kernel_rfl) rfl fun E K=>?_
 refine AK ?_;intro H f;refine Cj o ?_;intro I h;refine Cj G ?_;refine Ao
theorem cd {b1 b2:Bool} {l1 l2:List UInt32} {f:List LR} {At:LR} (B:AR i i0) (D:vl[i0]? =some ((b1,l1),b2,l2)) (o:CF 124 [.agg (Br b1 l1 b2 l2)] (.agg (AZ f At))):CI Tryz.prog 62 [CT,AH i] (.var 0 (Be kd P C V sd vl AJ AI cr e)) (.agg (AZ f At)) (.var 0 (Be kd P C V sd vl AJ AI cr e)):=by
 have F:=B.eq;refine DV Tryz.func62 (by kernel_rfl) rfl fun E h=>?_
 conv=>cbv
 refine⟨((b1,l1),b2,l2),fun _=>⟨AA,by rw[(AA:i.toNat=i0)];exact D⟩,?_⟩;try conv=>cbv
 refine AB h o ?_;refine Ao
theorem OH (he:e1=if e=0 then f1 else e):CI Tryz.prog 61 [CT,.agg (AZ Ta Aa),AH f1] (.var 0 (Be kd P C V sd vl AJ AI cr e)) (.agg (AZ Ta Aa)) (.var 0 (Be kd P C V sd vl AJ AI cr e1)):=by
 refine DV Tryz.func61 (by kernel_rfl) rfl fun E B=>?_
 refine AW ?_;intro o h;refine .inr ?_;cases o <;> conv=>cbv
 ·have f:=Bu h;refine fun _=>⟨⟨⟨t3,trivial⟩,rfl,Ai⟩,by rw[he,if_neg f];rfl⟩
 have f:=Bv h;refine fun _=>⟨⟨⟨t3,trivial⟩,rfl,Ai⟩,by rw[he,if_pos f];rfl⟩
theorem p7 (he:e1=if e=0 then f1 else e):CI Tryz.prog 161 [CT,.agg (Bl Ta Aa Tb Ab),AH f1] (.var 0 (Be kd P C V sd vl AJ AI cr e)) (.agg (Bl Ta Aa Tb Ab)) (.var 0 (Be kd P C V sd vl AJ AI cr e1)):=by
 refine DV Tryz.func161 (by kernel_rfl) rfl fun E B=>?_
 refine AW ?_;intro o h;refine .inr ?_;cases o <;> conv=>cbv
 ·have f:=Bu h;refine fun _=>⟨⟨⟨⟨rfl,rfl,rfl,rfl,rfl,trivial⟩,trivial⟩,rfl,Ai⟩,by rw[he,if_neg f];rfl⟩
 have f:=Bv h;refine fun _=>⟨⟨⟨⟨rfl,rfl,rfl,rfl,rfl,trivial⟩,trivial⟩,rfl,Ai⟩,by rw[he,if_pos f];rfl⟩
theorem cT (he:e1=if e=0 then f1 else e):CI Tryz.prog 67 [CT,.agg (GH Ta Aa Tb Ab Tc Ac),AH f1] (.var 0 (Be kd P C V sd vl AJ AI cr e)) (.agg (GH Ta Aa Tb Ab Tc Ac)) (.var 0 (Be kd P C V sd vl AJ AI cr e1)):=by
 refine DV Tryz.func67 (by kernel_rfl) rfl fun E B=>?_
 refine AW ?_;intro o h;refine .inr ?_;cases o <;> conv=>cbv
 ·have f:=Bu h;refine fun _=>⟨⟨⟨⟨rfl,rfl,rfl,rfl,rfl,rfl,rfl,trivial⟩,trivial⟩,rfl,Ai⟩,by rw[he,if_neg f];rfl⟩
 have f:=Bv h;refine fun _=>⟨⟨⟨⟨rfl,rfl,rfl,rfl,rfl,rfl,rfl,trivial⟩,trivial⟩,rfl,Ai⟩,by rw[he,if_pos f];rfl⟩
theorem qI (he:e1=if e=0 then f1 else e) (h:CF 130 [.agg (Bl Tc Ac Td Ad),.agg (Bl Ta Aa Tb Ab)] (BY (Bl Tx Ax Ty Ay) f1)):CI Tryz.prog 123 [CT,.agg (Bl Ta Aa Tb Ab),.agg (Bl Tc Ac Td Ad)] (.var 0 (Be kd P C V sd vl AJ AI cr e)) (.agg (Bl Tx Ax Ty Ay)) (.var 0 (Be kd P C V sd vl AJ AI cr e1)):=by
 refine DV Tryz.func123 (by kernel_rfl) rfl fun E f=>?_
 conv=>cbv
 refine AB f h ?_;refine Da rfl (CL f (p7 he)) Ao ?_
 refine Ao
theorem cW (f:CF g [.agg (AZ Ta Aa),.agg (AZ Tb Ab)] (BY (AZ Tx Ax) f1)):CI Tryz.prog 70 [CT,.one (.fn g),.agg (AZ Ta Aa),.agg (AZ Tb Ab)] (.var 0 (Be kd P C V sd vl AJ AI cr 0)) (.agg (AZ Tx Ax)) (.var 0 (Be kd P C V sd vl AJ AI cr f1)):=by
 refine DV Tryz.func70 (by kernel_rfl) rfl fun E h=>?_
 conv=>cbv
 refine BM ?_;refine AB h f ?_;refine Da rfl (CL h (OH (e:=0) (e1:=f1) (f1:=f1) (by simp))) Ao ?_
 refine Ao
theorem qB (f:CF 162 [.agg (AZ Ta Aa),.agg (AZ Ta Aa)] (BY (AZ Tx Ax) f1)):CI Tryz.prog 110 [CT,.agg (AZ Ta Aa)] (.var 0 (Be kd P C V sd vl AJ AI cr 0)) (.agg (AZ Tx Ax)) (.var 0 (Be kd P C V sd vl AJ AI cr f1)):=by
 refine DV Tryz.func110 (by kernel_rfl) rfl fun E h=>?_
 conv=>cbv
 refine Da rfl (CL h (cW f)) Ao ?_
 refine Ao
theorem pz {B:List LR} {o:LR} (he:e1=if r=0 then 6 else 0) (G:CF 26 [.agg (AZ B o)] (AH r)):CI Tryz.prog 109 [CT,.agg (Bl Ta Aa Tb Ab),.agg (AZ B o)] (.var 0 (Be kd P C V sd vl AJ AI cr 0)) (.agg [.int .i64 2,Gc,Gd,Gc,Gd,Gc,Gd,Gc,Gd,Gc,Gd,BP Ta,Au Aa,BP Tb,Au Ab,BP B,Au o,Gc,Gd,Gc,Gd]) (.var 0 (Be kd P C V sd vl AJ AI cr e1)):=by
 refine DV Tryz.func109 (by kernel_rfl) rfl fun E F=>?_
 conv=>cbv
 refine DJ ?_;refine AB F G ?_;intro D h;refine .inr ?_;cases D <;> conv=>cbv
 ·have f:=Bu h;refine fun _=>⟨⟨⟨⟨rfl,rfl,DO,DO,DO,DO,DO,DO,DO,DO,DO,DO,rfl,rfl,rfl,rfl,rfl,rfl,DO,DO,DO,DO,trivial⟩,trivial⟩,rfl,Ai⟩,by rw[he,if_neg f];rfl⟩
 have f:=Bv h;refine fun _=>⟨⟨⟨⟨rfl,rfl,DO,DO,DO,DO,DO,DO,DO,DO,DO,DO,rfl,rfl,rfl,rfl,rfl,rfl,DO,DO,DO,DO,trivial⟩,trivial⟩,rfl,Ai⟩,by rw[he,if_pos f];rfl⟩
theorem p6 {Tz:List LR} {Az:LR} {f2 e2:Int} (he:e1=if e=0 then f1 else e) (h:e2=if e1=0 then f2 else e1) (B:CF 130 [.agg (Bl Tc Ac Td Ad),.agg (Bl Ta Aa Tb Ab)] (BY (Bl Tx Ax Ty Ay) f1)) (o:CF 122 [.agg (Bl Tx Ax Ty Ay)] (BY (AZ Tz Az) f2)):CI Tryz.prog 60 [CT,.agg (Bl Ta Aa Tb Ab),.agg (Bl Tc Ac Td Ad)] (.var 0 (Be kd P C V sd vl AJ AI cr e)) (.agg (AZ Tz Az)) (.var 0 (Be kd P C V sd vl AJ AI cr e2)):=by
 refine DV Tryz.func60 (by kernel_rfl) rfl fun E f=>?_
 conv=>cbv
 refine Da rfl (CL f (qI he B)) Ao ?_
 refine AB f o ?_;refine Da rfl (CL f (OH h)) Ao ?_
 refine Ao
abbrev Qv (kd:Int) (P C:List Int) (V:List Ex) (sd:Int) (vl:LR) (AJ:List Int) (AI:Int) (cr:List (el AY)) (e:Int):el Hp:=((kd,P,C,V,sd),vl,AJ,AI,cr,e)
def Ir (p:Int->Bool):Nat->List Int->Int
 | _,[]=> -1
 | i,x::r=>if p x=true then (i:Int) else Ir p (i+1) r
theorem ZE {p:Int->Bool} {i:Nat} {x:Int} (h:X[i]? =some x):Ir p i (X.drop i)=if p x=true then (i:Int) else Ir p (i+1) (X.drop (i+1)):=by
 have f:=Dg h;rw[List.drop_eq_getElem_cons f,Ir];rw[List.getElem?_eq_getElem f] at h;rw[Option.some.inj h]
theorem ZD (p:Int->Bool):∀(l:List Int) (i:Nat),decide (Ir p i l >= 0)=l.any p
 | [],i=>rfl
 | x::r,i=>by
  rw[Ir,List.any_cons]
  by_cases e:p x=true
  ·rw[if_pos e,e];simp
  rw[if_neg e,ZD p r (i+1),Bool.eq_false_iff.2 e];rfl
theorem fp {I:el Hp} {p:Int->Bool} (Q:∀x∈X,CF g [AH x,.one (.Ck .i64 Ee 0),.one (.Ck (.rf Hp) I 0)] (.one (.bool (p x)))) (Y:r=Ir p 0 X):CF 120 [.one (.sl .i64 X),.one (.E5 g [⟨.i64,Ee⟩,⟨(.rf Hp),I⟩])] (AH r):=by
 refine AM Tryz.func120 fun E O=>?_
 intro n7 F;have e7:=F.eq;have f7:=F.le;refine BI [] [0,1,7,8] [] (fun vs K k=>∃(o:Nat) (L j:Int),vs=[.one (.sl .i64 X),.one (.E5 g [⟨.i64,Ee⟩,⟨.rf Hp,I⟩]),AH L,AH j]/\(DX L X.length/\AR j o/\o<=X.length)/\r=Ir p o (X.drop o)/\k=X.length-o) (X.length-0) ⟨0,n7,0,rfl,⟨F,BD 0,AA⟩,Y,rfl⟩ ?_;rintro J0 G vs K a1 ⟨o,L,j,rfl,⟨J,S,U⟩,hinv,W⟩;conv=>cbv
 have eL:=J.eq;have ej:=S.eq;refine BQ (fun Z=>?_) fun Z=>?_
 ·exact AL (by rw[hinv,List.drop_eq_nil_of_le AA];rfl)
 refine .inr ?_;refine Ae o fun D h=>?_
 try conv=>cbv
 obtain⟨B,f⟩:=xB (p D);refine AB (r:= .one (.bool B)) O ((by rw[f];exact Q D (List.mem_of_getElem? h))) ?_;cases B <;> conv=>cbv
 ·refine AK ?_;intro H N;exact BT G ⟨o+1,L,H,rfl,⟨J,⟨AA⟩,AA⟩,hinv.trans ((ZE h).trans (by rw[<-f];rfl)),rfl⟩
 exact AL (by rw[hinv,ZE h,<-f,if_pos rfl];omega)
theorem Vy {h:el Hp} {p:Int->Bool} (F:∀x∈X,CF g [AH x,.one (.Ck .i64 Ee 0),.one (.Ck (.rf Hp) h 0)] (.one (.bool (p x)))) {c:Bool} (D:c=X.any p):CF 56 [.one (.sl .i64 X),.one (.E5 g [⟨.i64,Ee⟩,⟨(.rf Hp),h⟩])] (.one (.bool c)):=by
 refine AM Tryz.func56 fun E B=>?_
 obtain⟨H,f⟩:=xI (Ir p 0 X);refine AB B (fp F f) ?_;intro G o;exact AL (by rw[D,o,f];exact (ZD p X 0).symm)
theorem ca {q b:Bool} (Q:0<=AI/\AI<=1000000) (I:(cr.length:Int)=2*AI+(AJ.length:Nat)->CF 56 [.one (.sl .i64 C),.one (.E5 57 [⟨.i64,Ee⟩,⟨.rf Hp,(Qv kd P C V sd vl AJ AI cr e)⟩])] (.one (.bool q))) (hb:b=(decide ((cr.length:Int)=2*AI+(AJ.length:Nat))&& !q)):CI Tryz.prog 23 [CT,AH Ee] (.var 0 (Be kd P C V sd vl AJ AI cr e)) (.one (.bool b)) (.var 0 (Be kd P C V sd vl AJ AI cr e)):=by
 refine DV Tryz.func23 (by kernel_rfl) rfl fun E H=>?_
 conv=>cbv
 rintro S ⟨O,f9⟩;conv=>cbv
 intro J F;conv=>cbv
 refine DI ?_;rintro K ⟨D,f19⟩;conv=>cbv
 intro L G;conv=>cbv
 refine DI ?_;intro B f;conv=>cbv
 refine Bn ?_;cases B <;> conv=>cbv
 ·have o:=Ji f;refine .inr (.inr (.inr (.inr (.inr (.inl ⟨[0],[.one (.sl .i64 C),.one (.E5 57 [⟨.i64,Ee⟩,⟨(.rf Hp),(Qv kd P C V sd vl AJ AI cr e)⟩])],.one (.bool q),fun _=>⟨rfl,⟨[⟨.i64,Ee⟩,⟨(.rf Hp),(Qv kd P C V sd vl AJ AI cr e)⟩],⟨rfl,⟨0,0,Ai,rfl,rfl⟩,trivial⟩,rfl⟩,trivial⟩,fun _=>Gl H (M8 rfl (I AA)),?_⟩)))));try conv=>cbv
  intro N h;conv=>cbv
  refine fun _=>⟨⟨⟨⟨rfl,congrArg _ (by rw[hb,decide_eq_true AA,h];rfl),trivial⟩,trivial⟩,rfl,Ai⟩,rfl⟩
 have o:=Jj f;refine fun _=>⟨⟨⟨⟨rfl,congrArg _ (by rw[hb,decide_eq_false AA];rfl),trivial⟩,trivial⟩,rfl,Ai⟩,rfl⟩
end Go.Abs
namespace Go.Abs
end Go.Abs
namespace Go.Abs
section
variable {P:AD->Prop} {R0:Nat}
theorem nX {α:Type} {Q:α->Prop} {f:α->Nat} {m:Nat} (hm:∀a,Q a->f a<=m) {a:α} (ha:Q a):∃b,Q b/\∀c,Q c->f c<=f b:=by
 induction h:m-f a using Nat.strongRecOn generalizing a with
 | _ n F=>
  by_cases B:∀c,Q c->f c<=f a
  ·exact⟨a,ha,B⟩
  obtain⟨c,D⟩:=Classical.not_forall.1 B;obtain⟨o,h3⟩:=Classical.not_imp.1 D;have:=hm c o;exact F (m-f c) AA o rfl
theorem Tf.top (I:Cg P R0) {m:Nat} (hm:∀{u},Tf P u->u.length<=m):∃w,Tf P w/\∀{u},Tf P u->BW u w:=by
 obtain⟨w,hw,L⟩:=nX (Q:=Tf P) (f:=List.length) (fun u h=>hm h) Tf.nil;have G:=hw.red I
 have key:∀{u},P u->BW u w:=by
  intro u
  induction u with
  | nil=>exact fun _=>Ld w
  | cons r u F=>
   intro o;have B:=F (I.sub o);have J:=I.red o;refine JT G B ?_
   have D:Sq w (AQ u r):=by
    apply Classical.byContradiction;intro K;have:=L _ (Tf.BK hw o B);rw[Dp K,List.length_cons] at this;omega
   exact (MT (by have:=J.2.2.1;grind)).1 D
 refine⟨w,hw,fun {u} h=>?_⟩
 induction h with
 | nil=>exact Ld w
 | @BK u r0 H ht o B F=>
  by_cases D:Sq u (AQ H r0)
  ·rw[EK D];exact F
  rw[Dp D];refine JT G F ?_;rw[Ky (B _ (B0 (I.red o)))];exact key o _ (Is H r0)
end
theorem El.down {u:AD} {s:Nat} {x:Re} (B:In u x):∀{v:AD},Ag (v++u)->El (v++u) s x->El u s x
 | [],_,h=>h
 | r::v,o,h=>by
  have f:In (v++u) x:=NZ v x B;refine El.down B (v:=v) o.1 ⟨f,?_⟩;obtain⟨D,d0,d1,d2,d3⟩:=h.bd;have e:co (r::(v++u)) x=co (v++u) x++co (v++u) 0:=DE o f (CO _) (by grind);rw[List.cons_append,e] at d2 d3;exact⟨D,d0,d1,(DN.app.1 d2).1,(MX.app.1 d3).1⟩
structure Fm (TT:AD->Prop) (w:AD) (R b c M q p:Nat):Prop where
 TG:∀{S},R<=S->S<=M*b->DW TT R (c*b) S
 top:TT w
 all:∀{u},TT u->BW u w
 hR:R<=c*b
 hb:64<=b
 Z3:∀{x y s t},El w s x->El w t y->El w (s+t+b) (x*y)
 mg:∀{x y s},El w s x->In w y->x*y=1->El w (q*s+p*b) y
 iu:∀{u},TT u->II u.length R (M*b)<=60000000000000
def Nm (TT:AD->Prop) (w:AD) (b k:Nat) (T:List (List (el AG))) (A:List (el AG)) (x:Re):Prop:=∃u,TT u/\T=tw u/\A=em u x/\In u x/\El w (k*b) x
section
variable {TT:AD->Prop} {w:AD} {R b c M q p k l:Nat} {T T1 T2:List (List (el AG))} {A A1 A2:List (el AG)} {x y:Re}
theorem Fm.g (F:Fm TT w R b c M q p) (h:k<=M) (f:c<=k):DW TT R (c*b) (k*b):=F.TG (Nat.le_trans F.hR (Nat.mul_le_mul_right b f)) (Nat.mul_le_mul_right b h)
theorem Fm.own (F:Fm TT w R b c M q p) (K:c<=M) (h:Nm TT w b k T A x):∃u,TT u/\T=tw u/\A=em u x/\In u x/\El w (k*b) x/\El u ((k+c)*b) x:=by
 obtain⟨u,hu,L,J,H,he⟩:=h;refine⟨u,hu,L,J,H,he,?_⟩;have G:=(F.g K (Nat.le_refl c)).toGam;obtain⟨B,N,h3⟩:=G.Bc hu F.top;have f:=G.CK F.top B h3 he;rw[<-Nat.add_mul] at f;rw[mh] at B f;have o:=(G.BG B).red;unfold E2 at f o
 split at f
 ·exact f
 rename_i I
 rw[if_neg I] at o
 split at f
 ·rename_i D
  obtain⟨v,rfl⟩:=D;exact El.down H (G.BG F.top).red f
 rename_i D
 rw[if_neg D] at o;obtain⟨v,e⟩:=Pr u w;rw[<-e] at f o;exact El.down H o f
theorem Nm.mono (h:Nm TT w b k T A x) (F:k<=l):Nm TT w b l T A x:=by
 obtain⟨u,f,o,h3,B,D⟩:=h;exact⟨u,f,o,h3,B,D.mono (Nat.mul_le_mul_right b F)⟩
theorem Fm.two (F:Fm TT w R b c M q p) (ha:Nm TT w b k T1 A1 x) (hb:Nm TT w b l T2 A2 y) (S:k+c+1<=M) (U:l+c+1<=M):∃u v j,j<=M/\(j=k+c+1\/j=l+c+1)/\TT u/\TT v/\T1=tw u/\T2=tw v/\A1=em u x/\A2=em v y/\In u x/\In v y/\El w (k*b) x/\El w (l*b) y/\El u (j*b) x/\El v (j*b) y/\DW TT R (c*b) (j*b)/\TT (Bc u v)/\BW u (Bc u v)/\BW v (Bc u v):=by
 obtain⟨u,hu,B,f,W,I,H⟩:=F.own AA ha;obtain⟨v,N,D,o,Y,K,J⟩:=F.own AA hb
 have key:∀j,j<=M->(j=k+c+1\/j=l+c+1)->k+c+1<=j->l+c+1<=j->∃u v j,j<=M/\(j=k+c+1\/j=l+c+1)/\TT u/\TT v/\T1=tw u/\T2=tw v/\A1=em u x/\A2=em v y/\In u x/\In v y/\El w (k*b) x/\El w (l*b) y/\El u (j*b) x/\El v (j*b) y/\DW TT R (c*b) (j*b)/\TT (Bc u v)/\BW u (Bc u v)/\BW v (Bc u v):=by
  intro j L Q h3 Z;have G:=F.g L AA;obtain⟨g1,g2,O⟩:=G.toGam.Bc hu N;exact⟨u,v,j,L,Q,hu,N,B,D,f,o,W,Y,I,K,H.mono (Nat.mul_le_mul_right b AA),J.mono (Nat.mul_le_mul_right b AA),G,g1,g2,O⟩
 by_cases h:k<=l
 ·exact key (l+c+1) U (.inr rfl) AA Bi
 exact key (k+c+1) S (.inl rfl) Bi AA
end
end Go.Abs
namespace Go.Abs
section
variable {TT:AD->Prop} {w:AD} {R b c M q p k l:Nat} {T1 T2:List LR} {A1 A2:LR} {x y:Re}
theorem N2 (F:Fm TT w R b c M q p) (ha:Nm TT w b k T1 A1 x) (hb:Nm TT w b l T2 A2 y) (N:k+c+1<=M:=by omega) (O:l+c+1<=M:=by omega):∃T A,Nm TT w b (k+l+1) T A (x+y)/\CF 160 [.agg (AZ T1 A1),.agg (AZ T2 A2)] (BY (AZ T A) 0)/\CF 32 [.agg (AZ T1 A1),.agg (AZ T2 A2)] (BY (AZ T A) 0):=by
 obtain⟨u,v,j,U,_,hu,K,o,B,f,h,Q,S,I,J,D,H,G,g1,g2,L⟩:=F.two ha hb N O;refine⟨_,_,⟨Bc u v,g1,rfl,rfl,DZ (g2 _ Q) (L _ S),(I.add (G.BG F.top).red J).mono ?_⟩,fv G.toGam hu K o B f h D H rfl rfl,Rs G hu K o B f h D H rfl rfl⟩;have:=F.hb;rw[Nat.add_mul,Nat.add_mul];omega
theorem N3 (F:Fm TT w R b c M q p) (ha:Nm TT w b k T1 A1 x) (hb:Nm TT w b l T2 A2 y) (N:k+c+1<=M:=by omega) (O:l+c+1<=M:=by omega):∃T A,Nm TT w b (k+l+1) T A (x-y)/\CF 71 [.agg (AZ T1 A1),.agg (AZ T2 A2)] (BY (AZ T A) 0)/\CF 34 [.agg (AZ T1 A1),.agg (AZ T2 A2)] (BY (AZ T A) 0):=by
 obtain⟨u,v,j,U,_,hu,K,o,B,f,h,Q,S,I,J,D,H,G,g1,g2,L⟩:=F.two ha hb N O;refine⟨_,_,⟨Bc u v,g1,rfl,rfl,FT (g2 _ Q) (L _ S),(I.sub (G.BG F.top).red J).mono ?_⟩,fz G.toGam hu K o B f h D H rfl rfl,Rw G hu K o B f h D H rfl rfl⟩;have:=F.hb;rw[Nat.add_mul,Nat.add_mul];omega
theorem Gx (F:Fm TT w R b c M q p) (ha:Nm TT w b k T1 A1 x) (hb:Nm TT w b l T2 A2 y) (N:k+c+1<=M:=by omega) (O:l+c+1<=M:=by omega):∃T A,Nm TT w b (k+l+1) T A (x*y)/\CF 162 [.agg (AZ T1 A1),.agg (AZ T2 A2)] (BY (AZ T A) 0)/\CF 35 [.agg (AZ T1 A1),.agg (AZ T2 A2)] (BY (AZ T A) 0):=by
 obtain⟨u,v,j,U,_,hu,K,o,B,f,h,Q,S,I,J,D,H,G,g1,g2,L⟩:=F.two ha hb N O;refine⟨_,_,⟨Bc u v,g1,rfl,rfl,Ak (G.BG g1).red (g2 _ Q) (L _ S),(F.Z3 I J).mono ?_⟩,Ri G.toGam hu K o B f h D H rfl rfl,Ru G hu K o B f h D H rfl rfl⟩;have:=F.hb;rw[Nat.add_mul,Nat.add_mul];omega
theorem QY (F:Fm TT w R b c M q p) (ha:Nm TT w b k T1 A1 x) (H:k+c+1<=M:=by omega):∃A,Nm TT w b k T1 A (-x)/\CF 27 [.agg (AZ T1 A1)] (.agg (AZ T1 A))/\CF 14 [.agg (AZ T1 A1)] (.agg (AZ T1 A)):=by
 obtain⟨u,hu,h,o,I,D,B⟩:=F.own AA ha;have G:=F.g H AA;have f:=B.mono (Nat.mul_le_mul_right b (Nat.le_succ (k+c)));exact⟨_,⟨u,hu,h,rfl,GY I,D.neg (G.BG F.top).red⟩,Rj G.toGam hu h o f rfl,Ol G hu h o f rfl⟩
theorem MD (F:Fm TT w R b c M q p) (ha:Nm TT w b k T1 A1 x) (D:k+c+1<=M:=by omega):∃s:Int,s=Bg x/\CF 26 [.agg (AZ T1 A1)] (AH s)/\CF 7 [.agg (AZ T1 A1)] (AH s):=by
 obtain⟨u,hu,o,h,I,H,B⟩:=F.own AA ha;have G:=F.g D AA;have f:=B.mono (Nat.mul_le_mul_right b (Nat.le_succ (k+c)));exact⟨_,rfl,WB G.toGam hu o h f rfl,LJ G hu o h f rfl⟩
theorem Fm.pair (F:Fm TT w R b c M q p) {j:Nat} (h:2*j+2*c+1<=M):DW TT R (c*b) ((2*j+2*c+1)*b)/\2*(j*b+c*b)+1<=(2*j+2*c+1)*b:=by
 refine⟨F.g h AA,?_⟩;have:=F.hb;rw[Nat.add_mul,Nat.add_mul,Nat.mul_assoc,Nat.mul_assoc];omega
theorem aJ (F:Fm TT w R b c M q p) (ha:Nm TT w b k T1 A1 x) (hb:Nm TT w b l T2 A2 y) (U:2*k+4*c+3<=M:=by omega) (W:2*l+4*c+3<=M:=by omega):∃e:Bool,(e=true↔x=y)/\CF 182 [.agg (AZ T1 A1),.agg (AZ T2 A2)] (.one (.bool e))/\CF 18 [.agg (AZ T1 A1),.agg (AZ T2 A2)] (.one (.bool e)):=by
 obtain⟨u,v,j,S,L,hu,I,o,B,f,h,Y,Z,N,O,D,H,G,g1,g2,Q⟩:=F.two ha hb AA AA;obtain⟨J,K⟩:=F.pair (j:=j) AA;obtain⟨e,he⟩:=Ez (x=y);exact⟨e,he,fx G.toGam hu I o B f h D H he,Wa G hu I o B f h D H J K he⟩
theorem Jp (F:Fm TT w R b c M q p) (ha:Nm TT w b k T1 A1 x) (hb:Nm TT w b l T2 A2 y) {d:Nat} (hd:q*l+p<=d) (O:y≠0) (hk:k+c+1<=M:=by omega) (hl:l+c+1<=M:=by omega) (hi:d+c+1<=M:=by omega):∃T A,Nm TT w b (k+d+1) T A (x*Bm y)/\CF 183 [.agg (AZ T1 A1),.agg (AZ T2 A2)] (BY (AZ T A) 0)/\CF 36 [.agg (AZ T1 A1),.agg (AZ T2 A2)] (BY (AZ T A) 0):=by
 obtain⟨u,hu,H,o,hx,W,U⟩:=F.own AA ha;obtain⟨v,h,I,B,hy,Z,Y⟩:=F.own AA hb;have G:=F.g (Nat.le_refl M) AA;obtain⟨g1,g2,g3⟩:=G.toGam.Bc hu h;have f:=P0 (G.BG h).red hy O
 have K:El w (d*b) (Bm y):=(F.mg Z (F.all h _ f) (F0 O)).mono (by
  have h2:=Nat.mul_le_mul_right b hd;rw[Nat.add_mul,Nat.mul_assoc] at h2;omega)
 obtain⟨v',a2,Q,a1,_,_,S⟩:=F.own AA (show Nm TT w b d (tw v) (em v (Bm y)) (Bm y) from⟨v,h,rfl,rfl,f,K⟩);have ev:v'=v:=(OQ Q).symm;subst ev;have D:II v'.length R (M*b)<=60000000000000:=F.iu h;have L:=U.mono (Nat.mul_le_mul_right b (AA:k+c<=M));have N:=Y.mono (Nat.mul_le_mul_right b (AA:l+c<=M));have J:=S.mono (Nat.mul_le_mul_right b (AA:d+c<=M));refine⟨_,_,⟨Bc u v',g1,rfl,rfl,Ak (G.BG g1).red (g2 _ hx) (g3 _ f),(F.Z3 W K).mono ?_⟩,fw G.toGam hu h H I o B L N f (F0 O) J D rfl rfl,WZ G hu h H I o B L N f (F0 O) J D rfl rfl⟩;rw[Nat.add_mul,Nat.add_mul,Nat.one_mul];omega
end
end Go.Abs
namespace Go.Abs
structure Vm (TT:AD->Prop) (w:AD) (b k k':Nat) (T1:List LR) (A1:LR) (T2:List LR) (A2:LR) (x y:Re):Prop where
 x:Nm TT w b k T1 A1 x
 y:Nm TT w b k' T2 A2 y
section
variable {TT:AD->Prop} {w:AD} {R b c M q p k k' l l':Nat} {T1 T2:List LR} {A1 A2:LR} {x y x' y':Re}
theorem Vm.mono (h:Vm TT w b k k' T1 A1 T2 A2 x y) (o:k<=l) (f:k'<=l'):Vm TT w b l l' T1 A1 T2 A2 x y:=⟨h.x.mono o,h.y.mono f⟩
theorem MA (F:Fm TT w R b c M q p) (f:c<=M) {r:Rat} (h:Bd b [r]):Nm TT w b 1 [] (em [] (Re.ofRat r)) (Re.ofRat r):=by
 have G:=F.g f (Nat.le_refl c);exact⟨[],G.nil,rfl,rfl,Fy r [],by rw[Nat.one_mul];exact El.rat (G.BG F.top).red h⟩
theorem Ha {r:Rat} (h:Ct r) (hb:64<=b:=by omega):Bd b [r]:=(NH (a:=[r]) (fun z f=>by rw[List.mem_singleton.1 f];exact h)).mono hb
end
theorem SQ {g:FuncId} {T1 T2 T3 T4 T5 T6:List LR} {A1 A2 A3 A4 A5 A6:LR} (h:CF g [.agg (AZ T1 A1),.agg (AZ T3 A3)] (BY (AZ T5 A5) 0)) (o:CF g [.agg (AZ T2 A2),.agg (AZ T4 A4)] (BY (AZ T6 A6) 0)):CF 184 [.agg (Bl T1 A1 T2 A2),.agg (Bl T3 A3 T4 A4),.one (.fn g)] (BY (Bl T5 A5 T6 A6) 0):=by
 refine AM Tryz.func184 fun E f=>?_
 refine AB f h ?_;refine BM ?_;refine AB f o ?_;refine BM ?_;exact AN Ao
theorem Mg {TT:AD->Prop} {w:AD} {R b c M q p k k' l l':Nat} (F:Fm TT w R b c M q p) {T1 T2 T3 T4:List LR} {A1 A2 A3 A4:LR} {x1 y1 x2 y2:Re} (o:Vm TT w b k k' T1 A1 T2 A2 x1 y1) (B:Vm TT w b l l' T3 A3 T4 A4 x2 y2) (N:k+c+1<=M:=by omega) (K:k'+c+1<=M:=by omega) (O:l+c+1<=M:=by omega) (L:l'+c+1<=M:=by omega):∃T A h f,Vm TT w b (k+l+1) (k'+l'+1) T A h f (x1-x2) (y1-y2)/\CF 130 [.agg (Bl T1 A1 T2 A2),.agg (Bl T3 A3 T4 A4)] (BY (Bl T A h f) 0):=by
 obtain⟨T5,A5,H,D,_⟩:=N3 F o.x B.x;obtain⟨T6,A6,I,G,_⟩:=N3 F o.y B.y;refine⟨T5,A5,T6,A6,⟨H,I⟩,?_⟩;refine AM Tryz.func130 fun E J=>?_
 refine AB J (SQ D G) ?_;exact AN Ao
theorem rq {TT:AD->Prop} {w:AD} {R b c M q p k k' j:Nat} (F:Fm TT w R b c M q p) {T1 T2 T3:List LR} {A1 A2 A3:LR} {x1 y1 n:Re} (B:Vm TT w b k k' T1 A1 T2 A2 x1 y1) (o:Nm TT w b j T3 A3 n) (L:k+c+1<=M:=by omega) (K:k'+c+1<=M:=by omega) (N:j+c+1<=M:=by omega):∃T A h f,Vm TT w b (k+j+1) (k'+j+1) T A h f (x1*n) (y1*n)/\CF 166 [.agg (Bl T1 A1 T2 A2),.agg (AZ T3 A3)] (BY (Bl T A h f) 0):=by
 obtain⟨T5,A5,H,D,_⟩:=Gx F B.x o;obtain⟨T6,A6,I,G,_⟩:=Gx F B.y o;refine⟨T5,A5,T6,A6,⟨H,I⟩,?_⟩;refine AM Tryz.func166 fun E J=>?_
 refine AB J (SQ D G) ?_;exact AN Ao
theorem RG {TT:AD->Prop} {w:AD} {R b c M q p k k' l l':Nat} (F:Fm TT w R b c M q p) {T1 T2 T3 T4:List LR} {A1 A2 A3 A4:LR} {x1 y1 x2 y2:Re} (h:Vm TT w b k k' T1 A1 T2 A2 x1 y1) (o:Vm TT w b l l' T3 A3 T4 A4 x2 y2) (L:k+l+c+2<=M:=by omega) (K:k'+l'+c+2<=M:=by omega):∃T A,Nm TT w b (k+k'+l+l'+3) T A (x1*x2+y1*y2)/\CF 180 [.agg (Bl T1 A1 T2 A2),.agg (Bl T3 A3 T4 A4)] (BY (AZ T A) 0):=by
 obtain⟨T5,A5,H,B,_⟩:=Gx F h.x o.x;obtain⟨T6,A6,I,D,_⟩:=Gx F h.y o.y;obtain⟨T7,A7,J,G,_⟩:=N2 F H I;refine⟨T7,A7,J.mono AA,?_⟩;refine AM Tryz.func180 fun E f=>?_
 refine AB f (SQ B D) ?_;refine BM ?_;refine AB f G ?_;exact AN ⟨t3,t2,trivial⟩
theorem RH {TT:AD->Prop} {w:AD} {R b c M q p k k':Nat} (F:Fm TT w R b c M q p) {T1 T2:List LR} {A1 A2:LR} {x1 y1:Re} (f:Vm TT w b k k' T1 A1 T2 A2 x1 y1) (G:2*k+c+2<=M:=by omega) (D:2*k'+c+2<=M:=by omega):∃T A,Nm TT w b (2*k+2*k'+3) T A (x1*x1+y1*y1)/\CF 122 [.agg (Bl T1 A1 T2 A2)] (BY (AZ T A) 0):=by
 obtain⟨T7,A7,o,h⟩:=RG F f f;refine⟨T7,A7,o.mono AA,?_⟩;refine AM Tryz.func122 fun E B=>?_
 refine AB B h ?_;exact AN ⟨t3,t2,trivial⟩
theorem eV {TT:AD->Prop} {w:AD} {R b c M q p k k' l l':Nat} (F:Fm TT w R b c M q p) {T1 T2 T3 T4:List LR} {A1 A2 A3 A4:LR} {x1 y1 x2 y2:Re} (G:Vm TT w b k k' T1 A1 T2 A2 x1 y1) (H:Vm TT w b l l' T3 A3 T4 A4 x2 y2) (O:2*k+4*c+3<=M) (L:2*k'+4*c+3<=M) (Q:2*l+4*c+3<=M) (N:2*l'+4*c+3<=M) {e:Bool} (he:e=true↔x1=x2/\y1=y2):CF 126 [.agg (Bl T1 A1 T2 A2),.agg (Bl T3 A3 T4 A4)] (.one (.bool e)):=by
 obtain⟨K,o,I,_⟩:=aJ F G.x H.x;obtain⟨J,f,B,_⟩:=aJ F G.y H.y;refine AM Tryz.func126 fun E D=>?_
 refine AB D I ?_;cases K <;> conv=>cbv
 ·exact AL (by cases e with | false=>rfl | true=>exact absurd (o.2 (he.1 rfl).1) Ai)
 refine AB D B ?_;exact AL (by rw[Bool.eq_iff_iff,f,he];exact⟨fun h=>h.2,fun h=>⟨o.1 rfl,h⟩⟩)
end Go.Abs
namespace Go.Abs
section
variable {α:Type} [Lean.Grind.CommRing α]
def B6:Nat->(Nat->α)->α
 | 0,_=>0
 | n+1,f=>B6 n f+f n
theorem HO {f g:Nat->α}:∀{n:Nat},(∀i,i<n->f i=g i)->B6 n f=B6 n g
 | 0,_=>rfl
 | n+1,h=>by rw[B6,B6,HO (n:=n) (fun i o=>h i AA),h n AA]
theorem VG (f:Nat->α) (m:Nat):∀n,B6 (m+n) f=B6 m f+B6 n (fun i=>f (m+i))
 | 0=>by rw[B6,Nat.add_zero];grind
 | n+1=>by rw[<-Nat.add_assoc,B6,B6,VG f m n];grind
theorem VH (c:α) (f:Nat->α):∀n,c*B6 n f=B6 n (fun i=>c*f i)
 | 0=>by rw[B6,B6];grind
 | n+1=>by rw[B6,B6,<-VH c f n];grind
theorem dV (f g:Nat->α):∀n,B6 n f+B6 n g=B6 n (fun i=>f i+g i)
 | 0=>by rw[B6,B6,B6];grind
 | n+1=>by rw[B6,B6,B6,<-dV f g n];grind
theorem VI:∀n,B6 n (fun _=>(0:α))=0
 | 0=>rfl
 | n+1=>by rw[B6,VI n];grind
theorem dU (f:Nat->Nat->α) (m:Nat):∀n,B6 n (fun i=>B6 m (fun k=>f i k))=B6 m (fun k=>B6 n (fun i=>f i k))
 | 0=>by rw[B6];exact (VI m).symm
 | n+1=>by
  rw[B6,dU f m n,dV];rfl
end
noncomputable def cf (u:AD) (x:Re) (i:Nat):Rat:=(co u x).getD i 0
section
variable {u w:AD} {x y:Re}
theorem Xt (h:Ag u) (f:In u x) (o:In u y) (i:Nat):cf u (x+y) i=cf u x i+cf u y i:=by
 unfold cf;rw[NO h f o];have l1:=C4 f;have l2:=C4 o;simp only[List.getD_eq_getElem?_getD,List.getElem?_zipWith]
 by_cases B:i<2^u.length
 ·rw[List.getElem?_eq_getElem (by omega:i<(co u x).length),List.getElem?_eq_getElem (by omega:i<(co u y).length)];rfl
 rw[List.getElem?_eq_none (by omega:(co u x).length<=i),List.getElem?_eq_none (by omega:(co u y).length<=i)]
 show (0:Rat)=0+0
 grind
theorem Xw (h:Ag u) (f:In u x) (c:Rat) (i:Nat):cf u (Re.ofRat c*x) i=c*cf u x i:=by
 unfold cf;rw[Sd h f];simp only[List.getD_eq_getElem?_getD,List.getElem?_map];cases (co u x)[i]? with
 | none=>show (0:Rat)=c*0;grind
 | some q=>rfl
theorem Xx (h:Ag u) (i:Nat):cf u 0 i=0:=by
 have:=Xw h (CO u) 0 i;rw[show Re.ofRat 0*0=(0:Re) by grind] at this;rw[this];grind
theorem Gr {r:List Rat} {p q:Re} (h:Ag (r::u)) (f:In u p) (B:In u q) (e:x=p+q*rt u r) {i:Nat} (o:i<2^u.length):cf (r::u) x i=cf u p i:=by
 unfold cf;rw[DE h f B e,List.getD_eq_getElem?_getD,List.getD_eq_getElem?_getD,List.getElem?_append_left (by rw[C4 f];exact o)]
theorem Ik {r:List Rat} {p q:Re} (h:Ag (r::u)) (f:In u p) (o:In u q) (e:x=p+q*rt u r) (i:Nat):cf (r::u) x (2^u.length+i)=cf u q i:=by
 unfold cf;rw[DE h f o e,List.getD_eq_getElem?_getD,List.getD_eq_getElem?_getD,List.getElem?_append_right (by rw[C4 f];omega),C4 f,Nat.add_sub_cancel_left]
noncomputable def bb:AD->Nat->Re
 | [],_=>1
 | r::u,i=>if i<2^u.length then bb u i else bb u (i-2^u.length)*rt u r
theorem XX {r:List Rat} {i:Nat} (f:i<2^u.length):bb (r::u) i=bb u i:=if_pos f
theorem XW {r:List Rat} (i:Nat):bb (r::u) (2^u.length+i)=bb u i*rt u r:=by
 rw[bb,if_neg AA,Nat.add_sub_cancel_left]
theorem Kc:∀{u:AD},Ag u->∀i,In u (bb u i)
 | [],_,i=>Kd []
 | r::u,h,i=>by
  rw[bb]
  split
  ·exact FU (Kc h.1 i)
  exact Ak h (FU (Kc h.1 _)) (Is u r)
theorem ZJ {f:Nat->Re} (hf:∀i,In u (f i)):∀n,In u (B6 n f)
 | 0=>CO u
 | n+1=>DZ (ZJ hf n) (hf n)
theorem expand:∀{u:AD} {x:Re},Ag u->In u x->x=B6 (2^u.length) (fun i=>Re.ofRat (cf u x i)*bb u i)
 | [],x,h,F=>by
  obtain⟨q,rfl⟩:=Cy.1 F
  show _=B6 1 _
  rw[B6,B6]
  show _=0+Re.ofRat (cf [] (Re.ofRat q) 0)*1
  rw[cf,DH]
  show _=0+Re.ofRat q*1
  grind
 | r::u,x,h,F=>by
  obtain⟨p,q,B,D,e⟩:=Ci.1 F
  rw[Bz,VG,HO (g:=fun i=>Re.ofRat (cf u p i)*bb u i) (fun i o=>by rw[Gr h B D e o,XX o]),
   HO (f:=fun i=>Re.ofRat (cf (r::u) x (2^u.length+i))*bb (r::u) (2^u.length+i)) (g:=fun i=>rt u r*(Re.ofRat (cf u q i)*bb u i)) (fun i o=>by rw[Ik h B D e,XW];grind),<-VH,<-expand h.1 B,<-expand h.1 D,e]
  grind
theorem SV (h:Ag w) (c:Nat->Rat) {f:Nat->Re} (hf:∀i,In w (f i)) (k:Nat):∀n,cf w (B6 n (fun i=>Re.ofRat (c i)*f i)) k=B6 n (fun i=>c i*cf w (f i) k)
 | 0=>Xx h k
 | n+1=>by
  rw[B6,B6,Xt h (ZJ (fun i=>Nh (hf i) (c i)) n) (Nh (hf n) (c n)),SV h c hf k n,Xw h (hf n)]
noncomputable def tr (u:AD) (x:Re):Rat:=B6 (2^u.length) (fun i=>cf u (x*bb u i) i)
theorem eJ (hu:Ag u) (hw:Ag w) (f:BW u w) (h:BW w u) (o:In u x):tr u x=tr w x:=by
 have e1:∀i,cf u (x*bb u i) i=B6 (2^w.length) (fun k=>cf w (x*bb u i) k*cf u (bb w k) i):=fun i=>by
  have D:=f _ (Ak hu o (Kc hu i))
  rw[show cf u (x*bb u i) i=cf u (B6 (2^w.length) (fun k=>Re.ofRat (cf w (x*bb u i) k)*bb w k)) i from congrArg (fun z=>cf u z i) (expand hw D),
   SV hu _ (fun k=>h _ (Kc hw k))]
 have e2:∀k,cf w (x*bb w k) k=B6 (2^u.length) (fun i=>cf u (bb w k) i*cf w (x*bb u i) k):=fun k=>by
  have F:=h _ (Kc hw k)
  have B:x*bb w k=B6 (2^u.length) (fun i=>Re.ofRat (cf u (bb w k) i)*(x*bb u i)):=by
   rw[show x*bb w k=x*B6 (2^u.length) (fun i=>Re.ofRat (cf u (bb w k) i)*bb u i) from congrArg (x* ·) (expand hu F),VH];exact HO fun i _=>by grind
  rw[B,SV hw _ (fun i=>f _ (Ak hu o (Kc hu i)))]
 unfold tr;rw[HO (fun i _=>e1 i),dU,HO (g:=fun k=>B6 (2^u.length) (fun i=>cf w (x*bb u i) k*cf u (bb w k) i)) (fun k _=>rfl),HO (fun k _=>e2 k)];exact HO fun k _=>HO fun i _=>by grind
theorem OO:∀{u:AD} {x:Re},Ag u->In u x->tr u x=((2^u.length:Nat):Rat)*cf u x 0
 | [],x,h,F=>by
  show B6 1 _=_
  rw[B6,B6]
  show 0+cf [] (x*1) 0=((1:Nat):Rat)*cf [] x 0
  rw[show x*1=x by grind];grind
 | r::u,x,h,F=>by
  obtain⟨p,q,o,D,e⟩:=Ci.1 F;have H:=Cz h;have G:=OO h.1 o;have hb:=Kc h.1;unfold tr at G ⊢
  rw[Bz,VG,HO (g:=fun i=>cf u (p*bb u i) i) (fun i B=>by
    rw[XX B];exact Gr h (Ak h.1 o (hb i)) (Ak h.1 D (hb i)) (by rw[e];grind) B),
   HO (f:=fun i=>cf (r::u) (x*bb (r::u) (2^u.length+i)) (2^u.length+i)) (g:=fun i=>cf u (p*bb u i) i) (fun i B=>by
    rw[XW];exact Ik h (Ak h.1 (Ak h.1 D (hb i)) (B0 h)) (Ak h.1 o (hb i)) (by rw[e,<-H];grind) i),
   G,Gr h o D e (DK _),Rat.natCast_add]
  grind
end
end Go.Abs
namespace Go.Abs
structure Ml (w:AD) (E:Nat):Prop where
 dn:∃K:Nat,0<K/\K<=2^E/\∀{x y:Re} {D D':Nat},In w x->In w y->DN D (co w x)->DN D' (co w y)->DN (D*D'*K) (co w (x*y))
 mx:∀{x y:Re} {B C:Nat},In w x->In w y->MX B (co w x)->MX C (co w y)->MX (B*C*2^E) (co w (x*y))
theorem Ml.of {w:AD} {R:Nat} (hw:Ag w) (f:TB R w):Ml w (EE w.length R):=⟨KY hw f,IH hw f⟩
section
variable {u:AD} {r:List Rat} {E R s t:Nat} {x y:Re}
theorem Ml.mono {f:Nat} (M:Ml u E) (h:E<=f):Ml u f:=by
 obtain⟨K,o,B,hm⟩:=M.dn;exact⟨⟨K,o,Nat.le_trans B (Cb h),hm⟩,fun D F a b=>(M.mx D F a b).mono (Nat.mul_le_mul_left _ (Cb h))⟩
theorem Ml.bd (M:Ml u E) (h:In u x) (o:In u y) (a:Bd s (co u x)) (b:Bd t (co u y)):Bd (s+t+E) (co u (x*y)):=by
 obtain⟨D,F,G,H,h3⟩:=a;obtain⟨B,k0,k1,k2,J⟩:=b;obtain⟨K,I,f,hm⟩:=M.dn;refine⟨D*B*K,Nat.mul_pos (Nat.mul_pos F k0) I,?_,hm h o H k2,?_⟩
 ·have:=Nat.mul_le_mul (Nat.mul_le_mul G k1) f;rwa [<-Nat.pow_add,<-Nat.pow_add] at this
 have:=M.mx h o h3 J;rwa [<-Nat.pow_add,<-Nat.pow_add] at this
theorem Ml.cons (h:Ag (r::u)) (M:Ml u E) (Z:Bd R r):Ml (r::u) (2*E+R+2):=by
 obtain⟨K,hK,L,hm⟩:=M.dn;obtain⟨J,hE,U,Q,W⟩:=Z;refine⟨⟨K*K*J,Nat.mul_pos (Nat.mul_pos hK hK) hE,?_,fun {x y D D'} hx hy F G=>?_⟩,fun {x y B C} hx hy H I=>?_⟩
 ·have O:K*K*J<=2^E*2^E*2^R:=Nat.mul_le_mul (Nat.mul_le_mul L L) U;rw[<-Nat.pow_add,<-Nat.pow_add] at O;exact Nat.le_trans O (Cb)
 ·obtain⟨a,b,ha,hb,rfl⟩:=Ci.1 hx;obtain⟨c,d,o,f,rfl⟩:=Ci.1 hy;rw[DE h ha hb rfl,DN.app] at F;rw[DE h o f rfl,DN.app] at G;rw[PR h ha hb o f rfl rfl,DN.app];have Y:DN J (co u (AQ u r)):=by rw[E0 h];exact Q
  refine⟨DN.Fs h.1 (Ak h.1 ha o) (Ak h.1 (Ak h.1 hb f) (B0 h)) ((hm ha o F.1 G.1).dvd ⟨K*J,by grind⟩) ((hm (Ak h.1 hb f) (B0 h) (hm hb f F.2 G.2) Y).dvd ⟨1,by grind⟩),
   DN.Fs h.1 (Ak h.1 ha f) (Ak h.1 hb o) ((hm ha f F.1 G.2).dvd ⟨K*J,by grind⟩) ((hm hb o F.2 G.1).dvd ⟨K*J,by grind⟩)⟩
 have N:=fun {x y:Re} {B C:Nat}=>M.mx (x:=x) (y:=y) (B:=B) (C:=C)
 obtain⟨a,b,ha,hb,rfl⟩:=Ci.1 hx;obtain⟨c,d,o,f,rfl⟩:=Ci.1 hy;rw[DE h ha hb rfl,MX.app] at H;rw[DE h o f rfl,MX.app] at I;rw[PR h ha hb o f rfl rfl,MX.app];have Y:MX (2^R) (co u (AQ u r)):=by rw[E0 h];exact W
 have e:2*E+R+2=E+E+R+2:=AA
 rw[e,Nat.pow_add,Nat.pow_add,Nat.pow_add];have O:=DK E;have h2:=DK R
 generalize 2^E=K at*
 generalize 2^R=S at*
 have k1:B*C*K<=B*C*(K*K*S):=Nat.mul_le_mul_left _ (by
  have:K*1<=K*(K*S):=Nat.mul_le_mul_left _ (Nat.mul_pos O h2);rw[Nat.mul_assoc];omega)
 have k2:B*C*K*S*K=B*C*(K*K*S):=by grind
 refine⟨(MX.Fs h.1 (Ak h.1 ha o) (Ak h.1 (Ak h.1 hb f) (B0 h)) (N ha o H.1 I.1) (N (Ak h.1 hb f) (B0 h) (N hb f H.2 I.2) Y)).mono ?_,
  (MX.Fs h.1 (Ak h.1 ha f) (Ak h.1 hb o) (N ha f H.1 I.2) (N hb o H.2 I.1)).mono ?_⟩
 ·rw[k2];grind
 grind
theorem Ml.inv {P:Nat->Nat} (h:Ag (r::u)) (M:Ml u E) (Z:Bd R r) (hI:∀{x y:Re} {s:Nat},In u x->In u y->x*y=1->Bd s (co u x)->Bd (P s) (co u y)) (hx:In (r::u) x) (e:x*y=1) (hb:Bd s (co (r::u) x)):Bd (s+E+P (2*s+2*E+R+1)) (co (r::u) y):=by
 obtain⟨p,q,o,f,rfl⟩:=Ci.1 hx;have hr:=Cz h;obtain⟨D,Q,S,h2,h3⟩:=hb;rw[DE h o f rfl] at h2 h3;obtain⟨N,O⟩:=DN.app.1 h2;obtain⟨mp,mq⟩:=MX.app.1 h3;obtain⟨K,U,G,hm⟩:=M.dn;obtain⟨L,k0,k1,k2,k3⟩:=Z;have a1:DN L (co u (AQ u r)):=by rw[E0 h];exact k2
 have Y:MX (2^R) (co u (AQ u r)):=by rw[E0 h];exact k3
 have hN:Bd (2*s+2*E+R+1) (co u (p*p-q*q*AQ u r)):=by
  refine⟨D*D*K*L*K,Nat.mul_pos (Nat.mul_pos (Nat.mul_pos (Nat.mul_pos Q Q) U) k0) U,?_,DN.I7 h.1 (Ak h.1 o o) (Ak h.1 (Ak h.1 f f) (B0 h)) ((hm o o N N).dvd ⟨L*K,by grind⟩) (hm (Ak h.1 f f) (B0 h) (hm f f O O) a1),
   (MX.I7 h.1 (Ak h.1 o o) (Ak h.1 (Ak h.1 f f) (B0 h)) (M.mx o o mp mp) (M.mx (Ak h.1 f f) (B0 h) (M.mx f f mq mq) Y)).mono ?_⟩
  ·have:=Nat.mul_le_mul (Nat.mul_le_mul (Nat.mul_le_mul (Nat.mul_le_mul S S) G) k1) G;rw[<-Nat.pow_add,<-Nat.pow_add,<-Nat.pow_add,<-Nat.pow_add] at this;exact Nat.le_trans this (Cb)
  rw[<-Nat.pow_add,<-Nat.pow_add,<-Nat.pow_add,<-Nat.pow_add,Nat.pow_succ];have e1:2^(s+s+E)<=2^(2*s+2*E+R):=Cb;have e2:2^(s+s+E+R+E)<=2^(2*s+2*E+R):=Cb;omega
 have B:=FT (Ak h.1 o o) (Ak h.1 (Ak h.1 f f) (B0 h));have a6:(0:Re)<1:=Re.IJ.2 (AE:(0:Rat)<1)
 have W:p*p-q*q*AQ u r≠0:=by
  intro e0;have e1:(p+q*rt u r)*(p-q*rt u r)=0:=by grind
  rcases Re.GW e1 with e2 | e2
  ·rw[e2] at e;grind
  obtain⟨e3,e4⟩:=indep h o (GY f) (CO u) (CO u) (show p+ -q*rt u r=0+0*rt u r by grind);have:p+q*rt u r=0:=by grind
  rw[this] at e;grind
 obtain⟨i,F,H⟩:=EU h.1 B W;obtain⟨E',a2,a5,I,J⟩:=hI B F H hN
 have ey:y=p*i+ -(q*i)*rt u r:=by
  have:y=(p+q*rt u r)*y*((p-q*rt u r)*i):=by
   have:(p+q*rt u r)*y*((p-q*rt u r)*i)=y*((p*p-q*q*AQ u r)*i):=by grind
   rw[this,H];grind
  rw[e] at this
  grind
 rw[ey,DE h (Ak h.1 o F) (GY (Ak h.1 f F)) rfl,LQ h.1 (Ak h.1 f F)];have m1:=M.mx o F mp J;have m2:=M.mx f F mq J;rw[<-Nat.pow_add,<-Nat.pow_add] at m1 m2;refine⟨D*E'*K,Nat.mul_pos (Nat.mul_pos Q a2) U,?_,DN.app.2 ⟨hm o F N I,(hm f F O I).neg⟩,MX.app.2 ⟨m1.mono (Cb),(m2.mono (Cb)).neg⟩⟩;have:=Nat.mul_le_mul (Nat.mul_le_mul S a5) G;rw[<-Nat.pow_add,<-Nat.pow_add] at this;exact Nat.le_trans this (Cb)
end
end Go.Abs
namespace Go.Abs
variable {E:Nat} {u w:AD} {x:Re}
theorem Yd (hu:Ag u) (hw:Ag w) (h:BW u w):∀{v:AD},Ag v->BW v w->BW (ext u v) w
 | [],_,_=>h
 | r::v,f,o=>by
  have D:=Yd hu hw h f.1 o.tail;rw[ext]
  by_cases B:Sq (ext u v) (AQ v r)
  ·rw[EK B];exact D
  rw[Dp B];refine JT hw D ?_;rw[Ky ((I2 hu f.1).2 _ (B0 f))];exact o.root
theorem Xv:∀(v:AD) {u:AD} {x:Re},Ag (v++u)->In u x->cf (v++u) x 0=cf u x 0
 | [],_,_,_,_=>rfl
 | r::v,u,x,h,f=>by
  rw[List.cons_append,Gr (u:=v++u) h (NZ v _ f) (CO _) (by grind) (DK _)];exact Xv v h.1 f
theorem Xu (h:Ag u):cf u 1 0=1:=by
 rw[cf,show (1:Re)=Re.ofRat 1 from rfl,H4 1 h];rfl
theorem NL (hu:Ag u) (hw:Ag w) (h:BW u w) (D:In u x):cf u x 0=cf w x 0:=by
 obtain⟨ht,B⟩:=I2 hu hw;have f:=Yd hu hw h hw (BW.refl w);have F:=Pr u w;have o:=Na F;obtain⟨v,e⟩:=F;have k1:=eJ ht hw f B (Kd _);rw[OO ht (Kd _),OO hw (Kd _),Xu ht,Xu hw] at k1;have k2:=eJ ht hw f B (o _ D);rw[OO ht (o _ D),OO hw (h _ D)] at k2
 have H:((2^w.length:Nat):Rat)≠0:=fun e=>by
  have:=Rat.natCast_inj.1 (e.trans (show (0:Rat)=((0:Nat):Rat) from rfl));have:=DK w.length;omega
 have G:cf (ext u w) x 0=cf w x 0:=by grind
 rw[<-G,<-e];exact (Xv v (e ▸ ht) D).symm
def Rb (w:AD):AD->Nat->Prop
 | [],k=>k=0
 | r::u,k=>∃k1 k2,k=k1+k2/\Rb w u k1/\∃y,y*rt u r=1/\Bd k2 (co w y)
theorem bU (hw:Ag w) (M:Ml w E):∀{u:AD} {k:Nat},Ag u->BW u w->Rb w u k->∃Y:Nat->Re,(∀i,In u (Y i))/\(∀{x:Re},In u x->∀i,i<2^u.length->cf u x i=cf w (x*Y i) 0)/\
  ∃D:Nat,0<D/\D<=2^(k+u.length*E)/\∀i,i<2^u.length->DN D (co w (Y i))/\MX (2^(k+u.length*E)) (co w (Y i))
 | [],k,hu,o,J=>by
  have J:k=0:=J;subst J;refine⟨fun _=>1,fun _=>Kd _,fun {x} L i G=>?_,1,AE,Ai,fun i _=>?_⟩
  ·have:i=0:=by have G:i<1:=G;omega
   subst this;rw[show x*1=x by grind];exact NL hu hw o L
  have e:co w (1:Re)=1::List.replicate (2^w.length-1) 0:=H4 1 hw
  have hm:∀q∈co w (1:Re),q=1\/q=0:=fun q f=>by
   rw[e] at f;rcases List.mem_cons.1 f with h | h
   ·exact .inl h
   exact .inr (List.eq_of_mem_replicate h)
  refine⟨fun q f=>?_,fun q f=>?_⟩
  ·rcases hm q f with rfl | rfl
   ·exact⟨1,by decide +kernel⟩
   exact⟨0,by decide +kernel⟩
  rcases hm q f with rfl | rfl
  ·simp only[List.length_nil,Nat.zero_mul,Nat.add_zero,Nat.pow_zero];exact⟨by decide +kernel,by decide +kernel⟩
  simp only[List.length_nil,Nat.zero_mul,Nat.add_zero,Nat.pow_zero];exact⟨by decide +kernel,by decide +kernel⟩
 | r::u,k,hu,o,J=>by
  obtain⟨k1,k2,rfl,Q,y,hy,W,d1,d2,d3,d4⟩:=J;obtain⟨Y,y1,y2,D,e1,e2,Z⟩:=bU hw M hu.1 o.tail Q;obtain⟨K,K0,Kl,hK⟩:=M.dn;have hr:=Cz hu;have U:AQ u r≠0:=by have:=hu.2.2.1;grind
  obtain⟨s,hs,S⟩:=EU hu.1 (B0 hu) U
  have ey:y=s*rt u r:=by
   have:y=y*(AQ u r*s):=by rw[S];grind
   rw[this,<-hr];have:y*(rt u r*rt u r*s)=(y*rt u r)*(s*rt u r):=by grind
   rw[this,hy];grind
  have F:In (r::u) y:=by rw[ey];exact Ak hu (FU hs) (Is u r)
  have N:=o _ F;have hlen:k1+k2+(r::u).length*E=(k1+u.length*E)+k2+E:=by rw[List.length_cons,Nat.succ_mul];omega
  refine⟨fun i=>if i<2^u.length then Y i else Y (i-2^u.length)*y,fun i=>?_,fun {x} L i G=>?_,D*W*K,Nat.mul_pos (Nat.mul_pos e1 d1) K0,?_,fun i G=>?_⟩
  ·show In (r::u) (if _ then _ else _)
   split
   ·exact FU (y1 i)
   exact Ak hu (FU (y1 _)) F
  ·obtain⟨p,q,H,f,e⟩:=Ci.1 L
   show _=cf w (x*if _ then _ else _) 0
   split
   ·rename_i B
    rw[Gr hu H f e B,y2 H i B,<-NL hu.1 hw o.tail (Ak hu.1 H (y1 i)),<-NL hu hw o (Ak hu L (FU (y1 i)))];exact (Gr hu (Ak hu.1 H (y1 i)) (Ak hu.1 f (y1 i)) (by rw[e];grind) (DK _)).symm
   rename_i O
   rw[Bz] at G;obtain⟨j,rfl⟩:∃j,i=2^u.length+j:=⟨i-2^u.length,AA⟩
   rw[Nat.add_sub_cancel_left,Ik hu H f e,y2 f j AA,<-NL hu.1 hw o.tail (Ak hu.1 f (y1 j)),<-NL hu hw o (Ak hu L (Ak hu (FU (y1 j)) F))];refine (Gr hu (Ak hu.1 f (y1 j)) (Ak hu.1 (Ak hu.1 H (y1 j)) hs) ?_ (DK _)).symm;have:x*(Y j*y)=p*Y j*y+q*Y j*(y*rt u r):=by rw[e];grind
   rw[this,hy,ey];grind
  ·rw[hlen];simp only[Nat.pow_add] at e2 ⊢;exact Nat.mul_le_mul (Nat.mul_le_mul e2 d2) Kl
  show DN _ (co w (if _ then _ else _))/\MX _ (co w (if _ then _ else _))
  split
  ·rename_i B
   obtain⟨f1,f2⟩:=Z i B;refine⟨(f1.mul_right (W*K)).dvd ⟨1,by grind⟩,f2.mono ?_⟩;rw[hlen];exact Cb
  rename_i O
  rw[Bz] at G;obtain⟨f1,f2⟩:=Z (i-2^u.length) AA;have I:=o.tail _ (y1 (i-2^u.length));refine⟨hK I N f1 d3,?_⟩;have:=M.mx I N f2 d4;rw[hlen];simp only[Nat.pow_add] at this ⊢;exact this
theorem XY {k s:Nat} (hw:Ag w) (M:Ml w E) (hu:Ag u) (o:BW u w) (W:Rb w u k) (H:In u x) (Z:Bd s (co w x)):Bd (s+k+(u.length+1)*E) (co u x):=by
 obtain⟨Y,y1,y2,D,e1,e2,I⟩:=bU hw M hu o W;obtain⟨K,N,O,U⟩:=M.dn;obtain⟨L,d1,d2,d3,d4⟩:=Z;have f:=o _ H;have J:s+k+(u.length+1)*E=s+(k+u.length*E)+E:=by rw[Nat.succ_mul];omega
 have key:∀q∈co u x,∃i,i<2^u.length/\q∈co w (x*Y i):=fun q G=>by
  obtain⟨i,h,rfl⟩:=List.mem_iff_getElem.1 G;have B:i<2^u.length:=by rw[<-C4 H];exact h
  refine⟨i,B,?_⟩;have Q:=y2 H i B;have hz:=Ak hw f (o _ (y1 i));have F:0<(co w (x*Y i)).length:=by rw[C4 hz];exact DK _
  have S:cf u x i=(co u x)[i]:=by rw[cf,List.getD_eq_getElem?_getD,List.getElem?_eq_getElem h];rfl
  have h3:cf w (x*Y i) 0=(co w (x*Y i))[0]:=by rw[cf,List.getD_eq_getElem?_getD,List.getElem?_eq_getElem F];rfl
  rw[<-S,Q,h3];exact List.getElem_mem F
 refine⟨L*D*K,Nat.mul_pos (Nat.mul_pos d1 e1) N,?_,fun q G=>?_,fun q G=>?_⟩
 ·rw[J];simp only[Nat.pow_add] at e2 ⊢;exact Nat.mul_le_mul (Nat.mul_le_mul d2 e2) O
 ·obtain⟨i,h,hm⟩:=key q G;exact U f (o _ (y1 i)) d3 (I i h).1 q hm
 obtain⟨i,h,hm⟩:=key q G;have:=M.mx f (o _ (y1 i)) d4 (I i h).2 q hm;rw[J];simp only[Nat.pow_add] at this ⊢;exact this
end Go.Abs
namespace Go.Abs
theorem Xa {w:AD} {E σ:Nat} (hw:Ag w) (M:Ml w E):∀{u:AD},Ag u->BW u w->(∀v∈BH u,Bd σ (co w (Re.sqrt v)))->∃K:Nat,0<K/\K<=2^(u.length*(σ+E+1))/\
  ∀{x:Re} {D B:Nat},In u x->(DN D (co u x)->DN (D*K) (co w x))/\(MX B (co u x)->MX (B*2^(u.length*(σ+E+1))) (co w x))
 | [],_,_,_=>⟨1,AE,Ai,fun {x D B} hx=>by
  obtain⟨q,rfl⟩:=Cy.1 hx;rw[DH,H4 q hw,Nat.mul_one];refine⟨Sj,fun h=>?_⟩;rw[(Ai:B*2^(([]:AD).length*(σ+E+1))=B)];exact UG h⟩
 | r::u,h,L,J=>by
  obtain⟨K,hK,Z,hb⟩:=Xa hw M h.1 L.tail (fun v hv=>J v (List.mem_cons_of_mem _ hv));obtain⟨G,W,Y,hm⟩:=M.dn;obtain⟨F,hF,S,Q,U⟩:=J (AQ u r) List.mem_cons_self;have o:In w (rt u r):=L.root;have e2:(r::u).length*(σ+E+1)=u.length*(σ+E+1)+(σ+E+1):=by rw[List.length_cons,Nat.succ_mul]
  refine⟨K*(F*G),Nat.mul_pos hK (Nat.mul_pos hF W),?_,fun {x D B} hx=>?_⟩
  ·have h1:=Nat.mul_le_mul Z (Nat.mul_le_mul S Y);simp only[<-Nat.pow_add] at h1;exact Nat.le_trans h1 (Cb (by rw[e2];omega))
  obtain⟨p,q,N,O,rfl⟩:=Ci.1 hx;rw[DE h N O rfl,DN.app,MX.app];have I:=L.tail _ N;have f:=L.tail _ O;refine⟨fun H=>?_,fun H=>?_⟩
  ·have k1:=(hb (B:=0) N).1 H.1;have k2:=(hb (B:=0) O).1 H.2;have k3:=hm f o k2 Q;exact DN.Fs hw I (Ak hw f o) (k1.dvd ⟨F*G,by grind⟩) (k3.dvd ⟨1,by grind⟩)
  have k1:=(hb (D:=0) N).2 H.1;have k2:=(hb (D:=0) O).2 H.2;have k3:=M.mx f o k2 U;refine (MX.Fs hw I (Ak hw f o) k1 k3).mono ?_
  have e:B*2^(u.length*(σ+E+1))*2^σ*2^E=B*2^(u.length*(σ+E+1)+σ+E):=by
   rw[Nat.mul_assoc,Nat.mul_assoc,<-Nat.pow_add,<-Nat.pow_add];congr 2;omega
  rw[e,<-Nat.mul_add];refine Nat.mul_le_mul_left B ?_;have h3:2^(u.length*(σ+E+1))<=2^(u.length*(σ+E+1)+σ+E):=Cb;rw[e2,(AA:u.length*(σ+E+1)+(σ+E+1)=u.length*(σ+E+1)+σ+E+1),Nat.pow_succ];omega
structure Wv (w:AD) (σ κ ν:Nat) (v:Re):Prop where
 root:In w (Re.sqrt v)
 rb:Bd σ (co w (Re.sqrt v))
 inv:∃y,y*Re.sqrt v=1/\Bd κ (co w y)
 vb:Bd ν (co w v)
theorem bV {w:AD} {σ κ ν:Nat}:∀{u:AD},(∀v∈BH u,Wv w σ κ ν v)->Rb w u (u.length*κ)
 | [],_=>by show _=0;simp
 | r::u,h=>by
  obtain⟨y,o,hb⟩:=(h (AQ u r) List.mem_cons_self).inv;exact⟨u.length*κ,κ,by rw[List.length_cons,Nat.succ_mul],bV (fun v f=>h v (List.mem_cons_of_mem _ f)),y,o,hb⟩
section
variable {w u:AD} {E σ κ ν m:Nat}
theorem Nb (hw:Ag w):∀{u:AD},Ag u->(∀v∈BH u,In w (Re.sqrt v))->BW u w
 | [],_,_=>Ld w
 | r::u,h,f=>JT hw (Nb hw h.1 (fun v hm=>f v (List.mem_cons_of_mem _ hm))) (f (AQ u r) List.mem_cons_self)
end
theorem Tf.all {P:AD->Prop} {R0:Nat} (I:Cg P R0) {B:Re->Prop} (G:∀{r u},P (r::u)->B (AQ u r)) {u:AD} (h:Tf P u):∀v∈Go.Abs.BH u,B v:=by
 induction h with
 | nil=>intro v f;simp[Go.Abs.BH] at f
 | @BK u r0 J ht o H F=>
  by_cases D:Sq u (AQ J r0)
  ·rw[EK D];exact F
  rw[Dp D];intro v f;rcases List.mem_cons.1 f with rfl | f
  ·rw[ES (H _ (B0 (I.red o)))];exact G o
  exact F v f
end Go.Abs
namespace Go.Abs
def FK:AD->Nat->Re->Prop
 | [],_,_=>False
 | r::t,i,v=>(i<2^t.length/\FK t i v)\/(2^t.length<=i/\(v=AQ t r\/FK t (i-2^t.length) v))
variable {i:Nat} {r:List Rat} {t u:AD} {v x:Re}
theorem TJ:∀{t:AD} {i:Nat} {v:Re},FK t i v->v∈BH t
 | r::t,i,v,h=>by
  rw[BH];rcases h with⟨_,h⟩ |⟨_,h | h⟩
  ·exact List.mem_cons_of_mem _ (TJ h)
  ·exact h ▸ List.mem_cons_self
  exact List.mem_cons_of_mem _ (TJ h)
theorem IA (f:i<2^t.length):FK (r::t) i v↔FK t i v:=
 ⟨fun h=>h.elim (·.2) fun h=>absurd h.1 AA,fun h=> .inl ⟨f,h⟩⟩
theorem H9:FK (r::t) (2^t.length+i) v↔v=AQ t r\/FK t i v:=
 ⟨fun h=>h.elim (fun h=>absurd h.1 AA) fun h=>by have:=h.2;rwa [Nat.add_sub_cancel_left] at this,fun h=> .inr ⟨AA,by rwa [Nat.add_sub_cancel_left]⟩⟩
theorem sy (h:Ag u) (B:In u x) (f:∀i,i<2^u.length->cf u x i=0):x=0:=by
 rw[expand h B,HO (g:=fun _=>(0:Re)) (fun i o=>by rw[f i o,show Re.ofRat 0=(0:Re) from rfl];grind)];exact VI _
theorem UE:∀{t:AD} {v y:Re},Ag t->v∈BH t->In t y->(∀i,i<2^t.length->FK t i v->cf t y i=0)->
  ∀i,i<2^t.length->(FK t i v->∃j,j<2^t.length/\¬FK t j v/\cf t (y*Re.sqrt v) i=cf t y j/\∀K,K≠v->FK t i K->FK t j K)/\(¬FK t i v->cf t (y*Re.sqrt v) i=0)
 | r::t,v,y,h,hv,hy,U,i,hi=>by
  obtain⟨p,q,F,I,e⟩:=Ci.1 hy;have S:=HP h;rw[BH,List.nodup_cons] at S;rw[Bz] at U hi
  by_cases o:v=AQ t r
  ·have Y:∀{j},¬FK t j v:=fun {j} B=>S.1 (o ▸ TJ B)
   have W:q=0:=sy h.1 I fun j B=>by
    rw[<-Ik h F I e j];exact U _ AA (H9.2 (.inl o))
   have e2:y*Re.sqrt v=0+p*rt t r:=by
    show _=0+p*Re.sqrt (AQ t r)
    rw[e,W,o];grind
   by_cases G:i<2^t.length
   ·exact⟨fun f=>absurd ((IA G).1 f) Y,fun _=>by rw[Gr h (CO t) F e2 G,Xx h.1]⟩
   obtain⟨j,rfl⟩:∃j,i=2^t.length+j:=⟨i-2^t.length,AA⟩
   have B:j<2^t.length:=AA
   refine⟨fun _=>⟨j,by rw[Bz];omega,fun f=>Y ((IA B).1 f),?_,fun K D f=>?_⟩,fun f=>absurd (H9.2 (.inl o)) f⟩
   ·rw[Ik h (CO t) F e2,Gr h F I e B]
   rcases H9.1 f with L | L
   ·exact absurd (L.trans o.symm) D
   exact (IA B).2 L
  have Q:v∈BH t:=(List.mem_cons.1 (by rwa [BH] at hv)).resolve_left o;have Z:In t (Re.sqrt v):=Mi Q;have e2:y*Re.sqrt v=p*Re.sqrt v+q*Re.sqrt v*rt t r:=by rw[e];grind
  have H:=Ak h.1 F Z;have J:=Ak h.1 I Z
  by_cases G:i<2^t.length
  ·obtain⟨k1,k2⟩:=UE h.1 Q F (fun j B f=>by rw[<-Gr h F I e B];exact U j AA ((IA B).2 f)) i G;refine⟨fun f=>?_,fun f=>?_⟩
   ·obtain⟨j,B,a,b,c⟩:=k1 ((IA G).1 f);exact⟨j,by rw[Bz];omega,fun f=>a ((IA B).1 f),by rw[Gr h H J e2 G,b,Gr h F I e B],fun K D O=>(IA B).2 (c K D ((IA G).1 O))⟩
   rw[Gr h H J e2 G];exact k2 fun N=>f ((IA G).2 N)
  obtain⟨i,rfl⟩:∃j,i=2^t.length+j:=⟨i-2^t.length,AA⟩
  obtain⟨k1,k2⟩:=UE h.1 Q I (fun j B f=>by rw[<-Ik h F I e j];exact U _ AA (H9.2 (.inr f))) i AA;refine⟨fun f=>?_,fun f=>?_⟩
  ·obtain⟨j,B,a,b,c⟩:=k1 ((H9.1 f).resolve_left o);refine⟨2^t.length+j,by rw[Bz];omega,fun f=>(H9.1 f).elim o a,by rw[Ik h H J e2,b,Ik h F I e],fun K D O=>?_⟩;rcases H9.1 O with L | L
   ·exact H9.2 (.inl L)
   exact H9.2 (.inr (c K D L))
  rw[Ik h H J e2];exact k2 fun N=>f (H9.2 (.inr N))
theorem So (ht:Ag t):∀{u:AD},(∀v∈BH u,v∈BH t)->BW u t
 | [],_=>Ld t
 | r::u,h=>JT ht (So ht fun v f=>h v (by rw[BH];exact List.mem_cons_of_mem _ f)) (Mi (h _ (by rw[BH];exact List.mem_cons_self)))
theorem Sc (ht:Ag t):∀{u:AD} {x:Re},Ag u->(∀v∈BH u,v∈BH t)->In u x->∀i,i<2^t.length->(cf t x i=0\/cf t x i∈co u x)/\(cf t x i≠0->∀v,FK t i v->v∈BH u)
 | [],x,_,_,Q,i,B=>by
  obtain⟨q,rfl⟩:=Cy.1 Q
  have e:cf t (Re.ofRat q) i=if i=0 then q else 0:=by
   rw[cf,H4 q ht,List.getD_eq_getElem?_getD];cases i with
   | zero=>rfl
   | succ i=>
    rw[if_neg AA,List.getElem?_cons_succ,List.getElem?_replicate]
    split <;> rfl
  have Y:∀{t:AD} {v:Re},¬FK t 0 v:=fun {t v}=>by
   induction t with
   | nil=>exact id
   | cons r t ih=>exact fun h=>ih ((IA (DK _)).1 h)
  rw[e]
  split
  ·rename_i h;subst h
   exact⟨.inr (by rw[DH];exact List.mem_cons_self),fun _ v D=>absurd D Y⟩
  exact⟨.inl rfl,fun h=>absurd rfl h⟩
 | r::u,x,hu,hV,Q,i,B=>by
  obtain⟨p,q,O,J,e⟩:=Ci.1 Q;have G:=HP hu;rw[BH,List.nodup_cons] at G;rw[BH] at hV ⊢;have o:∀v∈BH u,v∈BH t:=fun v D=>hV v (List.mem_cons_of_mem _ D)
  have K:=So ht o;have I:=hV _ List.mem_cons_self;have L:=Sc ht hu.1 o O;have N:=Sc ht hu.1 o J
  have W:∀{y:Re},(∀i,i<2^t.length->(cf t y i=0\/cf t y i∈co u y)/\(cf t y i≠0->∀v,FK t i v->v∈BH u))->∀i,i<2^t.length->FK t i (AQ u r)->cf t y i=0:=fun hy i B F=>
   Classical.byContradiction fun f=>G.1 ((hy i B).2 f _ F)
  obtain⟨k1,k2⟩:=UE ht I (K _ J) (W N) i B;have Z:In t (rt u r):=Mi I
  have S:cf t x i=cf t p i+cf t (q*Re.sqrt (AQ u r)) i:=by
   rw[show x=p+q*Re.sqrt (AQ u r) from e];exact Xt ht (K _ O) (Ak ht (K _ J) Z) i
  rw[DE hu O J e]
  by_cases F:FK t i (AQ u r)
  ·obtain⟨j,U,a,b,c⟩:=k1 F;rw[S,W L i B F,b,show (0:Rat)+cf t q j=cf t q j by grind];refine⟨(N j U).1.imp id fun h=>List.mem_append_right _ h,fun f v D=>?_⟩
   by_cases H:v=AQ u r
   ·exact H ▸ List.mem_cons_self
   exact List.mem_cons_of_mem _ ((N j U).2 f v (c v H D))
  rw[S,k2 F,show cf t p i+(0:Rat)=cf t p i by grind];exact⟨(L i B).1.imp id fun h=>List.mem_append_left _ h,fun f v D=>List.mem_cons_of_mem _ ((L i B).2 f v D)⟩
theorem SH {k:Nat} (ht:Ag t) (hu:Ag u) (hV:∀v∈BH u,v∈BH t) (F:In u x) (h:Bd k (co u x)):Bd k (co t x):=by
 obtain⟨D,d1,d2,d3,d4⟩:=h;have o:=So ht hV _ F
 have key:∀q∈co t x,q=0\/q∈co u x:=fun q f=>by
  obtain⟨i,B,rfl⟩:=List.mem_iff_getElem.1 f;have G:cf t x i=(co t x)[i]:=by rw[cf,List.getD_eq_getElem?_getD,List.getElem?_eq_getElem B];rfl
  rw[<-G];exact (Sc ht hu hV F i (by rw[<-C4 o];exact B)).1
 refine⟨D,d1,d2,fun q f=>?_,fun q f=>?_⟩
 ·rcases key q f with rfl | h
  ·exact⟨0,by grind⟩
  exact d3 q h
 rcases key q f with rfl | h
 ·have:(0:Rat)<=((2^k:Nat):Rat):=Rat.natCast_nonneg
  constructor <;> grind
 exact d4 q h
end Go.Abs
namespace Go.Abs
section
variable {P:AD->Prop} {R0:Nat}
theorem Tf.eH (I:Cg P R0) {V:List Re} (hV:∀{u},P u->∀v∈Go.Abs.BH u,v∈V) (h3:V.length<=3) {u:AD} (h:Tf P u):(u.length<=1->TB R0 u)/\TB (R0+CC 1 R0 1 R0) u:=by
 induction h with
 | nil=>exact⟨fun _ r o=>absurd o Ai,fun r o=>absurd o Ai⟩
 | @BK u r0 B ht L D Q=>
  by_cases U:Sq u (AQ B r0)
  ·rw[EK U];exact Q
  have f:=I.red L;have hu:=ht.red I;have F:=B0 f;have hb:Bd R0 (co B (AQ B r0)):=by rw[E0 f];exact (I.tb L).head
  rw[Dp U]
  by_cases hA:∀v∈Go.Abs.BH B,v∈Go.Abs.BH u
  ·have S:=SH hu f.1 hA F hb;refine⟨fun Y r o=>?_,fun r o=>?_⟩
   ·rw[List.length_cons] at Y;rcases List.mem_cons.1 o with rfl | o
    ·exact S
    exact Q.1 AA r o
   rcases List.mem_cons.1 o with rfl | o
   ·exact S.mono AA
   exact Q.2 r o
  obtain⟨v,hv⟩:=Classical.not_forall.1 hA;obtain⟨K,a2⟩:=Classical.not_imp.1 hv;have J:In u (Re.sqrt v):=D _ (Mi K);have Z:AQ B r0≠v:=fun e=>U ((MT (by have:=f.2.2.1;grind)).2 (e ▸ J))
  have H:=HP (OB hu (D _ F) f.2.2.1 U);rw[Go.Abs.BH,ES (D _ F),List.nodup_cons] at H
  have hle:=Jl (l:=AQ B r0::v::Go.Abs.BH u) (m:=V) (by
   rw[List.nodup_cons,List.nodup_cons];refine⟨fun hm=>?_,a2,H.2⟩;rcases List.mem_cons.1 hm with e | hm
   ·exact Z e
   ·exact H.1 hm) (fun x O=>by
   rcases List.mem_cons.1 O with rfl | O
   ·exact hV L _ (by rw[Go.Abs.BH];exact List.mem_cons_self)
   rcases List.mem_cons.1 O with rfl | O
   ·exact hV (I.sub L) _ K
   exact ht.BH I hV x O)
  rw[List.length_cons,List.length_cons,KA] at hle;have G:=Jl (HP f) (hV L);rw[KA,List.length_cons] at G
  have N:u≠[]:=fun e=>by
   subst e;have:=Uw f.1 D;subst this;simp[Go.Abs.BH] at K
  have a1:u.length=1:=by
   have:0<u.length:=List.length_pos_iff.2 N;omega
  have hk:B.length<=1:=by
   match u,a1,hu,D with
   | [s],_,hu,D=>
    match B,f.1,D,G with
    | [],_,_,_=>exact Nat.zero_le _
    | [q],_,_,_=>exact Nat.le_refl 1
    | [q,r],h0,D,_=>exact (ba h0 hu D).elim
    | _::_::_::_,_,_,G=>simp only[List.length_cons] at G;omega
  have W:El B R0 (AQ B r0):=⟨F,hb⟩;have S:=(W.CK hu (Q.1 AA) f.1 (I.tb L).tail D).bd;have h2:=KE (k:=B.length) (k':=1) (R0:=R0) (IX:=R0) (h:=u.length) (h':=1) (R:=R0) (R':=R0) hk Bi AA Bi;refine⟨fun Y=>absurd Y (by rw[List.length_cons];omega),fun r o=>?_⟩;rcases List.mem_cons.1 o with rfl | o
  ·exact S.mono AA
  exact Q.2 r o
theorem Tf.lg (I:Cg P R0) {V:List Re} (hV:∀{u},P u->∀v∈Go.Abs.BH u,v∈V) (h3:V.length<=3) {R C S:Nat} (hR:R0+CC 1 R0 1 R0<=R) (B:R<=S) (G:CC 3 R 3 R<=C) (D:∀h,h<=3->Fit h R (S+C)) (H:2*(S+C)+EE 3 R<=60000000000000):Gam (Tf P) R C S:=by
 have hm:∀{u},Tf P u->u.length<=3:=fun {u} h=>Nat.le_trans (h.len I hV) h3
 have f:∀{u},Tf P u->TB R u:=fun {u} h=>(h.eH I hV h3).2.mono hR
 refine⟨fun {u} h=>⟨h.red I,f h,AA,by have:=hm h;omega⟩,fun {u} h=>by have:=hm h;omega,.nil,fun {r u} h=>h.sub I,fun {t r u} ht h o=>ht.R8 I h o,fun {u w s x} hu hw o F=>?_,fun {u} h=>D _ (hm h),fun {u} h=>?_,B⟩
 ·refine (F.CK (hw.red I) (f hw) (hu.red I) (f hu) o).mono ?_;have:=KE (k:=u.length) (k':=3) (R0:=R) (IX:=R) (h:=w.length) (h':=3) (R:=R) (R':=R) (hm hu) Bi (hm hw) Bi;omega
 have:=Ht (h:=u.length) (h':=3) (R:=R) (R':=R) (hm h) Bi;omega
end
end Go.Abs
namespace Go.Abs
abbrev Rn:Nat:=1540
abbrev Cn:Nat:=874000
theorem lQ:∀h,h<=3->Fit h Rn (Sm+Cn)
 |0,_|1,_|2,_|3,_=>⟨by decide +kernel,by decide +kernel,by decide +kernel,by decide +kernel⟩
 | _+4,h=>absurd h AA
theorem lN:∀h,h<=3->Ev h Rn (Sm+Cn)
 |0,_|1,_|2,_|3,_=>⟨by decide +kernel,by decide +kernel,by decide +kernel,by decide +kernel⟩
 | _+4,h=>absurd h AA
theorem nw:2*(Sm+Cn)+EE 3 Rn<=60000000000000:=by decide +kernel
theorem ll {P:AD->Prop} (I:Cg P 256) {V:List Re} (hV:∀{u},P u->∀v∈BH u,v∈V) (h3:V.length<=3) {S:Nat} (f:Rn<=S) (B:S<=Sm):DW (Tf P) Rn Cn S:=
 {Tf.lg I hV h3 (by decide +kernel:256+CC 1 256 1 256<=Rn) f (by decide +kernel:CC 3 Rn 3 Rn<=Cn) (fun h o=>(lQ h o).mono AA) (Nat.le_trans AA nw) with JY:=fun {u} hu=>(lN _ (Nat.le_trans (hu.len I hV) h3)).mono AA}
end Go.Abs
namespace Go.Abs
section
variable {P:AD->Prop} {V:List Re}
theorem Tf.K8 (I:Cg P 256) (hV:∀{u},P u->∀v∈Go.Abs.BH u,v∈V) (h3:V.length<=3) {u:AD} (h:Tf P u):TB Rn u:=(h.eH I hV h3).2.mono (by decide +kernel)
abbrev Ce:Nat:=226506
theorem Tf.Yc (I:Cg P 256) (hV:∀{u},P u->∀v∈Go.Abs.BH u,v∈V) (h3:V.length<=3) {u w:AD} {s:Nat} {x:Re} (hu:Tf P u) (hw:Tf P w) (o:BW u w) (f:El u s x):El w (s+Ce) x:=by
 by_cases B:w.length<=2
 ·refine (f.CK (hw.red I) (hw.K8 I hV h3) (hu.red I) (hu.K8 I hV h3) o).mono ?_;have:=KE (k:=u.length) (k':=3) (R0:=Rn) (IX:=Rn) (h:=w.length) (h':=2) (R:=Rn) (R':=Rn) (Nat.le_trans (hu.len I hV) h3) Bi B Bi;have G:CC 3 Rn 2 Rn=Ce:=by decide +kernel
  omega
 refine⟨o _ f.mem,(SH (hw.red I) (hu.red I) (fun v F=>Classical.byContradiction fun D=>?_) f.mem f.bd).mono (Nat.le_add_right _ _)⟩
 have:=Jl (l:=v::Go.Abs.BH w) (m:=V) (List.nodup_cons.2 ⟨D,HP (hw.red I)⟩) (fun x f=>by
  rcases List.mem_cons.1 f with rfl | f
  ·exact hu.BH I hV _ F
  exact hw.BH I hV x f)
 rw[List.length_cons,KA] at this;omega
end
end Go.Abs
namespace Go.Abs
theorem El.BK {u:AD} {n x:Re} {s:Nat} (hu:Ag u) (h:Ag (BK u n)) (f:El u s x):El (BK u n) s x:=by
 by_cases B:Sq u n
 ·rw[EK B];exact f
 rw[Dp B] at h ⊢;have o:El u 0 0:=El.rat hu G9;have:=O8 h f.mem o.mem f.bd o.bd;rw[show x+0*rt u (co u n)=x by grind] at this;exact⟨FU f.mem,this⟩
def P4 (P:AD->Prop) (n:Re) (u:AD):Prop:=P u\/∃u0,Tf P u0/\In u0 n/\u<:+BK u0 n
abbrev R4:Nat:=1920500
abbrev E4:Nat:=1942090
abbrev Rf:Nat:=150420000
section
variable {P:AD->Prop} {V:List Re} {w:AD} {n:Re}
theorem sa (I:Cg P 256) (hV:∀{u},P u->∀v∈Go.Abs.BH u,v∈V) (h3:V.length<=3) (hw:Tf P w) (ha:∀{u},Tf P u->BW u w) {z:AD} (N:Ag z) (f:∀{s x},El w s x->El z s x) {r:List Rat} {u:AD} (h:Tf P (r::u)):Wv z 2032990 46909868 R4 (AQ u r):=by
 have o:=h.red I;have e1:=Tf.Yc I hV h3 h hw (ha h) (JS o);have F:In (r::u) (AQ u r):=FU (B0 o);have H:AQ u r≠0:=by have:=o.2.2.1;grind
 have G:rt u r≠0:=fun e=>H (by rw[<-Cz o,e];grind)
 obtain⟨y,K,B⟩:=EU (hw.red I) e1.mem G;have e2:=Ij (hw.red I) (hw.K8 I hV h3) e1.mem K B e1.bd;have D:El w 46909868 y:=⟨K,e2.mono (Nat.le_trans (IV (Nat.le_trans (hw.len I hV) h3) Bi Bi) (by decide +kernel))⟩
 have b3:El (r::u) (Rn+0) (AQ u r):=by
  have J:El u 0 0:=El.rat o.1 G9;have hb:Bd Rn (co u (AQ u r)):=by rw[E0 o];exact (h.K8 I hV h3).head
  have:=O8 o (B0 o) J.mem hb J.bd;rw[show AQ u r+0*rt u r=AQ u r by grind] at this;exact⟨F,this⟩
 have L:=Tf.Yc I hV h3 h hw (ha h) b3;exact⟨(f e1).mem,(f e1).bd.mono AE,⟨y,by rw[<-B];exact Re.mul_comm _ _,(f D).bd⟩,(f L).bd.mono AE⟩
theorem Tf.I6 (I:Cg P 256) {u v:AD} (h:u<:+v) (f:Tf P v):Tf P u:=by
 obtain⟨t,rfl⟩:=h
 induction t with
 | nil=>exact f
 | cons r t o=>exact o (f.sub I)
theorem P4.sub (I:Cg P 256) {r:List Rat} {u:AD} (h:P4 P n (r::u)):P4 P n u:=by
 rcases h with h |⟨B,h,f,o⟩
 ·exact .inl (I.sub h)
 exact .inr ⟨B,h,f,(List.suffix_cons r u).trans o⟩
theorem P4.red (I:Cg P 256) (f:0<=n) {u:AD} (h:P4 P n u):Ag u:=by
 rcases h with h |⟨D,h,o,B⟩
 ·exact I.red h
 exact Ux B (I1 (h.red I) o f)
theorem P4.top (I:Cg P 256) {r:List Rat} {u:AD} (h:P4 P n (r::u)):Tf P (r::u)\/(In u n/\¬Sq u n/\AQ u r=n):=by
 rcases h with h |⟨D,h,B,f⟩
 ·exact .inl (Tf.of I h)
 by_cases o:Sq D n
 ·rw[EK o] at f;exact .inl (h.I6 I f)
 rw[Dp o] at f;rcases List.suffix_cons_iff.1 f with e | f
 ·obtain⟨rfl,rfl⟩:=List.cons.inj e;exact .inr ⟨B,o,ES B⟩
 exact .inl (h.I6 I f)
theorem P4.len (I:Cg P 256) (hV:∀{u},P u->∀v∈Go.Abs.BH u,v∈V) {u:AD} (h:P4 P n u):∀v∈Go.Abs.BH u,v∈n::V:=by
 induction u with
 | nil=>intro v f;simp[Go.Abs.BH] at f
 | cons r u o=>
  intro v f;rcases List.mem_cons.1 f with rfl | f
  ·rcases h.top I with h |⟨_,_,e⟩
   ·exact List.mem_cons_of_mem _ (h.BH I hV _ List.mem_cons_self)
   rw[e];exact List.mem_cons_self
  exact o (h.sub I) v f
theorem Tf.UW (I:Cg P 256) {u:AD} (h:Tf P u):Tf (P4 P n) u:=by
 induction h with
 | nil=>exact .nil
 | BK _ o f B=>exact .BK B (.inl o) f
theorem Tf.XE (I:Cg P 256) {u:AD} (h:Tf P u) (f:In u n):Tf (P4 P n) (Go.Abs.BK u n):=by
 by_cases o:Sq u n
 ·rw[EK o];exact h.UW I
 have:=Tf.BK (h.UW I (n:=n)) (show P4 P n (co u n::u) from .inr ⟨u,h,f,by rw[Dp o];exact List.suffix_refl _⟩) (BW.refl u);rwa [ES f] at this
end
end Go.Abs
namespace Go.Abs
abbrev Cf:Nat:=214500000
abbrev Mf:Nat:=156000000000
section
variable {P:AD->Prop} {V:List Re} {w:AD} {n:Re}
end
end Go.Abs
namespace Go.Abs
abbrev Ve:=Nu×Nu
noncomputable def vm (p:Ve):el K7:=(nm p.1,nm p.2)
noncomputable def pB (ns:List Nu) (W:List UInt8):List Ve:=(List.range (W.length/2)).map fun i=>(ED ns (W.getD (2*i) 0).toNat,ED ns (W.getD (2*i+1) 0).toNat)
abbrev Fe (TT:AD->Prop) (w:AD):Prop:=Fm TT w Rn 11500 20 43400000 23 14
abbrev Fd (TT:AD->Prop) (w:AD):Prop:=Fm TT w Rf 1950000 110 80000 47 23
abbrev Nd (TT:AD->Prop) (w:AD) (k:Nat) (T:List LR) (A:LR) (x:Re):Prop:=Nm TT w 1950000 k T A x
abbrev Vd (TT:AD->Prop) (w:AD) (k k':Nat) (T1:List LR) (A1:LR) (T2:List LR) (A2:LR) (x y:Re):Prop:=Vm TT w 1950000 k k' T1 A1 T2 A2 x y
theorem mG (t:Nat):II 3 Rn t<=23*t+14*11500:=by simp only[II,EE,Rn];omega
structure Pl (P:AD->Prop) (V:List Re) (w:AD):Prop where
 I:Cg P 256
 hV:∀{u},P u->∀v∈BH u,v∈V
 h3:V.length<=3
 hw:Tf P w
 ha:∀{u},Tf P u->BW u w
theorem ot {P:AD->Prop} {V:List Re} (I:Cg P 256) (hV:∀{u},P u->∀v∈BH u,v∈V) (h3:V.length<=3):∃w,Pl P V w:=by
 obtain⟨w,hw,ha⟩:=Tf.top I (fun {u} h=>Nat.le_trans (h.len I hV) h3);exact⟨w,I,hV,h3,hw,ha⟩
section
variable {P:AD->Prop} {V:List Re} {w:AD}
theorem Pl.len (L:Pl P V w) {u:AD} (h:Tf P u):u.length<=3:=Nat.le_trans (h.len L.I L.hV) L.h3
theorem Pl.lift (L:Pl P V w) {n:Re} (H:In w n) (f:0<=n) {b k b' k':Nat} {T:List LR} {A:LR} {x:Re} (h:Nm (Tf P) w b k T A x) (G:k*b<=k'*b'):Nm (Tf (P4 P n)) (BK w n) b' k' T A x:=by
 obtain⟨u,o,B,h3,D,F⟩:=h;exact⟨u,o.UW L.I,B,h3,D,(El.BK (L.hw.red L.I) (I1 (L.hw.red L.I) H f) F).mono G⟩
end
theorem ou {V:List Re} {ns:List Nu} (hV:V.length<=3) (h:∀n∈ns,CY V n):∃w,Pl (PN ns) V w:=ot (PN.Jb hV h) (fun f=>PN.BH h f) hV
noncomputable def tQ (ns:List Nu) (W:List UInt8):List (el K7):=if W.length<=24 then (pB ns W).map vm else []
end Go.Abs
namespace Go.Abs
open Classical in
noncomputable def fs (x y:Re):Re:=if x=0 then y else x
open Classical in
noncomputable def un (x:Re):Re:=if x=0 then 0 else 1
section
variable {x y z:Re}
theorem TD (h:x=0):fs x y=y:=if_pos h
theorem TE (h:x≠0):fs x y=x:=if_neg h
theorem VY (h:x=0):un x=0:=if_pos h
theorem VZ (h:x≠0):un x=1:=if_neg h
theorem Y2 (h:¬(x=0/\y=0)):fs x y≠0:=by
 by_cases f:x=0
 ·rw[TD f];exact fun e=>h ⟨f,e⟩
 rw[TE f];exact f
theorem Uu:(1:Re)≠0:=fun e=>absurd (Re.Kk.1 (show Re.ofRat 1=Re.ofRat 0 from e)) AE
theorem nT (h:¬(x=0/\y=0)):un x=1\/un x=0/\y*Bm (fs x y)=1:=by
 by_cases f:x=0
 ·exact .inr ⟨VY f,by rw[TD f];exact F0 (fun e=>h ⟨f,e⟩)⟩
 exact .inl (VZ f)
end
structure JD (TT:AD->Prop) (w:AD) (b k l:Nat) (T1:List LR) (A1:LR) (T2:List LR) (A2:LR) (T3:List LR) (A3:LR) (x y z:Re):Prop where
 x:Nm TT w b 1 T1 A1 x
 y:Nm TT w b k T2 A2 y
 z:Nm TT w b l T3 A3 z
section
variable {TT:AD->Prop} {w:AD} {R b c M q p k k' l l':Nat} {T1 T2:List LR} {A1 A2:LR} {x y:Re}
theorem Nm.shrink (h:Nm TT w b k T1 A1 x) (o:Nm TT w b l T2 A2 y) (e:x=y):Nm TT w b l T1 A1 x:=by
 obtain⟨u,f,F,D,G,_⟩:=h;obtain⟨_,_,_,_,_,B⟩:=o;exact⟨u,f,F,D,G,e ▸ B⟩
theorem aA (F:Fm TT w R b c M q p) (f:c<=M) {r:Rat} (o:Ct r) (h:Nm TT w b k T1 A1 x) (e:x=Re.ofRat r):Nm TT w b 1 T1 A1 (Re.ofRat r):=e ▸ h.shrink (MA F f (Ha o F.hb)) e
end
section
variable {x y z a d:Re}
theorem dk {x:Re} (h:x≠0):0<x*x:=by
 have f:=Re.IP x;have o:=Nw h h
 grind
theorem K6 (h:¬(x=0/\y=0)):x*x+y*y≠0:=by
 have o:=Re.IP x;have B:=Re.IP y
 by_cases f:x=0
 ·have:=dk (fun e=>h ⟨f,e⟩)
  grind
 have:=dk f
 grind
end
section
variable {n m z n' m' z' x y x1 y1 x2 y2:Re}
theorem eR (h:¬(n=0/\m=0)):un n=n*Bm (fs n m):=by
 by_cases f:n=0
 ·rw[VY f,f];grind
 rw[VZ f,TE f,F0 f]
end
end Go.Abs
namespace Go.Abs
variable {A1 A2:LR} {T1 T2:List LR}
theorem GV:Dn Tryz.prog 133 [CT,.agg (AZ T1 A1),AH 0] (.var 0 [.int .i64 0]) (.agg (AZ T1 A1)):=by
 refine Fx Tryz.func133 fun E f=>?_
 conv=>cbv
 refine DJ ?_;refine .inr ?_;refine BM ?_;refine Ao
theorem NV:Dn Tryz.prog 129 [CT,.agg (Bl T1 A1 T2 A2),AH 0] (.var 0 [.int .i64 0]) (.agg (Bl T1 A1 T2 A2)):=by
 refine Fx Tryz.func129 fun E f=>?_
 conv=>cbv
 refine DJ ?_;refine .inr ?_;refine BM ?_;refine Ao
theorem kV:Dn Tryz.prog 226 [CT,.agg (Bl T1 A1 T2 A2)] (.var 0 [.int .i64 0]) (BY (Bl T1 A1 T2 A2) 0):=by
 refine Fx Tryz.func226 fun E f=>?_
 conv=>cbv
 refine BM ?_;refine Ao
theorem Zc {T3:List LR} {A3:LR}:CF 227 [.agg (GH T1 A1 T2 A2 T3 A3)] (.agg (Bl T1 A1 T2 A2)):=by
 refine AM Tryz.func227 fun E f=>?_
 exact AN Ao
end Go.Abs
namespace Go.Abs
noncomputable def GX (α β γ x y:Re):Re:=(α*x+β*y-γ)*Bm (α*α+β*β)
variable {A1 A2 A3 A4 A5:LR} {M R b c d k l m m' p q:Nat} {T1 T2 T3 T4 T5:List LR} {TT:AD->Prop} {w:AD} {x y α β γ:Re}
theorem kR (F:Fm TT w R b c M q p) (h:JD TT w b k l T1 A1 T2 A2 T3 A3 α β γ) (ha:Vm TT w b m m' T4 A4 T5 A5 x y) (I:¬(α=0/\β=0)) (O:q*(2*k+5)+p<=d) (U:d+c+1<=M) (Q:k+l+m+m'+c+8<=M:=by omega) (S:2*k+c+8<=M:=by omega):∃T A,Nm TT w b (k+l+m+m'+d+6) T A (GX α β γ x y)/\Dn Tryz.prog 225 [CT,.agg (GH T1 A1 T2 A2 T3 A3),.agg (Bl T4 A4 T5 A5)] (.var 0 [.int .i64 0]) (.agg (AZ T A)):=by
 have o:Vm TT w b 1 k T1 A1 T2 A2 α β:=⟨h.x,h.y⟩;obtain⟨T6,A6,J,B⟩:=RG F o ha;obtain⟨T7,A7,K,D,_⟩:=N3 F J h.z;obtain⟨T8,A8,L,G⟩:=RH F o;obtain⟨T9,A9,N,H,_⟩:=Jp F K (L.mono (by omega:2*1+2*k+3<=2*k+5)) O (K6 I);refine⟨T9,A9,N.mono AA,?_⟩;refine Fx Tryz.func225 fun E f=>?_
 conv=>cbv
 refine AB f Zc ?_;refine AB f B ?_;refine Fc 0 0 f GV ?_;refine AB f D ?_;refine Fc 0 0 f GV ?_;refine AB f G ?_;refine Fc 0 0 f GV ?_;refine AB f H ?_;refine Fc 0 0 f GV ?_;refine Ao
theorem nF (F:Fm TT w R b c M q p) (J:JD TT w b k l T1 A1 T2 A2 T3 A3 α β γ) (ha:Vm TT w b m m' T4 A4 T5 A5 x y) (Y:¬(α=0/\β=0)) (hd:q*(2*k+5)+p<=d) (hi:d+c+1<=M) {t:Int} (ht: -9223372036854775808<=t/\t<9223372036854775808) (N:Ct (t:Rat)) (h3:2*k+l+m+m'+d+c+12<=M):∃T A L K,Vm TT w b (k+l+2*m+m'+d+11) (2*k+l+m+2*m'+d+10) T A L K (x-α*(GX α β γ x y*Re.ofRat (t:Rat))) (y-β*(GX α β γ x y*Re.ofRat (t:Rat)))/\CF 168 [.agg (GH T1 A1 T2 A2 T3 A3),.agg (Bl T4 A4 T5 A5),AH t] (BY (Bl T A L K) 0):=by
 obtain⟨A6,h⟩:=DP (em [] (Re.ofRat (t:Rat)));have Z:Nm TT w b 1 [] A6 (Re.ofRat (t:Rat)):=h ▸ MA F AA (Ha N F.hb);have hn:Vm TT w b 1 k T1 A1 T2 A2 α β:=⟨J.x,J.y⟩;obtain⟨T7,A7,h7,S⟩:=kR F J ha Y hd hi;obtain⟨T8,A8,h8,U,_⟩:=Gx F h7 Z;obtain⟨T9,A9,Q,O,h9,W⟩:=rq F hn h8;obtain⟨D,o,G,B,I,H⟩:=Mg F ha h9;refine⟨D,o,G,B,I.mono AA AA,?_⟩;refine H0 Tryz.func168 fun E f=>?_
 conv=>cbv
 refine LV 11 1 f S ?_;try conv=>cbv
 refine BO f (WA ht (Q0 N) h) ?_;conv=>cbv
 refine BO f U ?_;conv=>cbv
 refine LV 11 1 f GV ?_;try conv=>cbv
 refine BO f Zc ?_;conv=>cbv
 refine BO f W ?_;conv=>cbv
 refine LV 11 1 f NV ?_;try conv=>cbv
 refine BO f H ?_;conv=>cbv
 refine LV 11 1 f NV ?_;try conv=>cbv
 refine LV 11 1 f kV ?_;try conv=>cbv
 refine Bn ?_;exact AN Ao
theorem m0 (F:Fm TT w R b c M q p) (J:JD TT w b k l T1 A1 T2 A2 T3 A3 α β γ) (ha:Vm TT w b m m' T4 A4 T5 A5 x y) (B:¬(α=0/\β=0)) (H:q*(2*k+5)+p<=d) (I:d+c+1<=M:=by omega) (h3:2*k+l+m+m'+d+c+12<=M:=by omega):∃T A h f,Vm TT w b (k+l+2*m+m'+d+11) (2*k+l+m+2*m'+d+10) T A h f (x-α*(GX α β γ x y*Re.ofRat (((1:Int):Rat)))) (y-β*(GX α β γ x y*Re.ofRat (((1:Int):Rat))))/\CF 132 [.agg (GH T1 A1 T2 A2 T3 A3),.agg (Bl T4 A4 T5 A5)] (BY (Bl T A h f) 0):=by
 obtain⟨T7,A7,T8,A8,D,o⟩:=nF F J ha B H I (t:=1) AE (by decide +kernel) h3;refine⟨T7,A7,T8,A8,D,?_⟩;refine AM Tryz.func132 fun E G=>?_
 refine AB G o ?_;exact AN Ao
theorem nC (F:Fm TT w R b c M q p) (S:JD TT w b k l T1 A1 T2 A2 T3 A3 α β γ) (ha:Vm TT w b m m' T4 A4 T5 A5 x y) (K:¬(α=0/\β=0)) (O:q*(2*k+5)+p<=d) (Q:d+c+1<=M:=by omega) (h3:2*k+l+m+m'+d+c+12<=M:=by omega) (U:2*(k+l+3*m+m'+d+12)+c+2<=M:=by omega) (W:2*(2*k+l+m+3*m'+d+11)+c+2<=M:=by omega):∃T A,Nm TT w b (6*k+4*l+8*m+8*m'+4*d+49) T A ((x-(x-α*(GX α β γ x y*Re.ofRat (((1:Int):Rat)))))*(x-(x-α*(GX α β γ x y*Re.ofRat (((1:Int):Rat)))))+(y-(y-β*(GX α β γ x y*Re.ofRat (((1:Int):Rat)))))*(y-(y-β*(GX α β γ x y*Re.ofRat (((1:Int):Rat))))))/\CF 69 [.agg (GH T1 A1 T2 A2 T3 A3),.agg (Bl T4 A4 T5 A5)] (BY (AZ T A) 0):=by
 obtain⟨T7,A7,T8,A8,L,I⟩:=m0 F S ha K O Q h3;obtain⟨T9,A9,H,G,N,J⟩:=Mg F ha L;obtain⟨o,h,D,B⟩:=RH F N;refine⟨o,h,D.mono AA,?_⟩;refine AM Tryz.func69 fun E f=>?_
 refine AB f I ?_;refine Fc 10 1 f NV ?_;refine AB f J ?_;refine Fc 10 1 f NV ?_;refine AB f B ?_;refine Fc 10 1 f GV ?_;refine BM ?_;exact AN ⟨t3,t2,trivial⟩
end Go.Abs
namespace Go.Abs
theorem oO {TT:AD->Prop} {w:AD} {R b c M q p k l:Nat} (F:Fm TT w R b c M q p) {T1:List LR} {A1:LR} {x:Re} (ha:Nm TT w b k T1 A1 x) (S:k+c+1<=M) (o:∀u,TT u->T1=tw u->In u x->TT (BK u x)) (I:0<=x) (N:El w (l*b) (Re.sqrt x)) (hl:l+c+1<=M):∃U B,Nm TT w b l U B (Re.sqrt x)/\CF 59 [.agg (AZ T1 A1)] (BY (AZ U B) 0)/\CF 37 [.agg (AZ T1 A1)] (BY (AZ U B) 0):=by
 obtain⟨u,hu,f,h,O,W,L⟩:=F.own AA ha;have G:=F.g S AA;have hw:=o u hu f O;have D:=SA O I;obtain⟨v,hv,J,Q,_,_,K⟩:=F.own AA (show Nm TT w b l (tw (BK u x)) (em (BK u x) (Re.sqrt x)) (Re.sqrt x) from⟨_,hw,rfl,rfl,D,N⟩);have ev:v=BK u x:=(OQ J).symm;subst ev
 have hb:(l+c)*b<=60000000000000:=by
  have Y:=(F.g (Nat.le_refl M) AA).toGam.mul F.top;have Z:(l+c)*b<=M*b:=Nat.mul_le_mul_right b AA;omega
 have H:=L.mono (Nat.mul_le_mul_right b (Nat.le_succ (k+c)));exact⟨_,_,⟨_,hw,rfl,rfl,D,N⟩,fy G.toGam hu f h H hw I rfl rfl K hb,Rv G hu f h H hw I rfl rfl⟩
structure Rt (TT0:AD->Prop) (w0:AD) (b0 K:Nat) (TT:AD->Prop) (w:AD) (b l:Nat) (v:Re):Prop where
 get:∀{k:Nat} {T1:List LR} {A1:LR},k<=K->Nm TT0 w0 b0 k T1 A1 v->∃U B,Nm TT w b l U B (Re.sqrt v)/\CF 59 [.agg [BP T1,Au A1]] (BY [BP U,Au B] 0)/\CF 37 [.agg [BP T1,Au A1]] (BY [BP U,Au B] 0)
noncomputable def tP:List Nu:=[(BK [] (Re.ofRat (1/2)),Re.sqrt (Re.ofRat (1/2))),(BK [] (Re.ofRat 2),Re.sqrt (Re.ofRat 2))]
end Go.Abs
namespace Go.Abs
structure Up (TT0:AD->Prop) (w0:AD) (b0 K:Nat) (TT:AD->Prop) (w:AD) (b:Nat):Prop where
 up:∀{k:Nat} {T:List LR} {A:LR} {x:Re},k<=K->Nm TT0 w0 b0 k T A x->Nm TT w b 1 T A x
theorem ON (x y:Re):0<=x*x+y*y:=by
 have f:=Re.IP x;have h:=Re.IP y
 grind
end Go.Abs
namespace Go.Abs
abbrev R9:Nat:=46300000
abbrev E9:Nat:=46321590
abbrev S9:Nat:=46412490
abbrev K9:Nat:=1067638368
abbrev GA:Nat:=1440000000
abbrev C9:Nat:=1880000000
abbrev M9:Nat:=32430000000
def Wm (w:AD) (n:Re) (v:Re):Prop:=Wv w S9 46909868 R9 v\/(v=n/\Wv w S9 K9 R9 v)
theorem Wm.root {w:AD} {n v:Re} (h:Wm w n v):In w (Re.sqrt v):=h.elim (·.root) (·.2.root)
theorem Wm.rb {w:AD} {n v:Re} (h:Wm w n v):Bd S9 (co w (Re.sqrt v)):=h.elim (·.rb) (·.2.rb)
theorem Wm.vb {w:AD} {n v:Re} (h:Wm w n v):Bd R9 (co w v):=h.elim (·.vb) (·.2.vb)
theorem Us {w:AD} {n:Re}:∀{u:AD},(BH u).Nodup->(∀v∈BH u,Wm w n v)->∃k,k<=u.length*46909868+K9/\Rb w u k
 | [],_,_=>⟨0,Nat.zero_le _,rfl⟩
 | r::u,D,h=>by
  have f:=List.nodup_cons.1 D;have ht:∀v∈BH u,Wm w n v:=fun v o=>h v (List.mem_cons_of_mem _ o)
  rcases h (AQ u r) List.mem_cons_self with g |⟨e,g⟩
  ·obtain⟨k,H,G⟩:=Us f.2 ht;obtain⟨y,B,hb⟩:=g.inv;exact⟨k+46909868,by rw[List.length_cons];omega,⟨k,46909868,rfl,G,y,B,hb⟩⟩
  obtain⟨y,B,hb⟩:=g.inv;have F:∀v∈BH u,Wv w S9 46909868 R9 v:=fun v o=>(ht v o).resolve_right (fun q=>f.1 (by rw[e,<-q.1];exact o))
  exact⟨u.length*46909868+K9,by rw[List.length_cons];omega,⟨_,K9,rfl,bV F,y,B,hb⟩⟩
theorem VP {w:AD} {n:Re} (hw:Ag w) (M:Ml w E9):∀{u:AD},Ag u->u.length<=4->(∀v∈BH u,Wm w n v)->TB GA u
 | [],_,_,_=>fun r H=>by simp at H
 | r::u,h,G,D=>fun s o=>by
  rw[List.length_cons] at G;have f:∀v∈BH u,Wm w n v:=fun v hm=>D v (List.mem_cons_of_mem _ hm)
  rcases List.mem_cons.1 o with rfl | o
  ·have F:=Nb hw h.1 (fun v hm=>(f v hm).root);obtain⟨k,B,hR⟩:=Us (HP h.1) f;have:=XY hw M h.1 F hR (B0 h) (D _ List.mem_cons_self).vb;rw[E0 h] at this;refine this.mono ?_;have I:=Nat.mul_le_mul_right 46321590 (AA:u.length+1<=4);have h3:=Nat.mul_le_mul_right 46909868 (AA:u.length<=3);have B:k<=u.length*46909868+1067638368:=B
   show 46300000+k+(u.length+1)*46321590<=1440000000
   omega
  exact VP hw M h.1 AA f s o
theorem kq {w u v:AD} {n:Re} {s:Nat} {x:Re} (hw:Ag w) (M:Ml w E9) (hu:Ag u) (o:Ag v) (F:∀z∈BH u,Wm w n z) (G:∀z∈BH v,Wm w n z) (l1:u.length<=4) (l2:v.length<=4) (H:BW u v) (f:El u s x):El v (s+C9) x:=by
 have e1:=Nb hw hu (fun z h=>(F z h).root);have e2:=Nb hw o (fun z h=>(G z h).root);obtain⟨K,k0,k1,k2⟩:=Xa hw M hu e1 (fun z h=>(F z h).rb);obtain⟨D,d0,d1,d2,d3⟩:=f.bd
 have hb:Bd (s+u.length*(S9+E9+1)) (co w x):=by
  refine⟨D*K,Nat.mul_pos d0 k0,?_,(k2 (B:=0) f.mem).1 d2,?_⟩
  ·rw[Nat.pow_add];exact Nat.mul_le_mul d1 k1
  rw[Nat.pow_add];exact (k2 (D:=0) f.mem).2 d3
 obtain⟨k,I,hR⟩:=Us (HP o) G;refine⟨H _ f.mem,(XY hw M o e2 hR (H _ f.mem) hb).mono ?_⟩;have J:=Nat.mul_le_mul_right (46412490+46321590+1) l1;have L:=Nat.mul_le_mul_right 46909868 l2;have a3:=Nat.mul_le_mul_right 46321590 (AA:v.length+1<=5);have I:k<=v.length*46909868+1067638368:=I
 show s+u.length*(46412490+46321590+1)+k+(v.length+1)*46321590<=s+1880000000
 omega
section
variable {P:AD->Prop} {V:List Re} {w:AD} {n:Re}
theorem fO (I:Cg P 256) (hV:∀{u},P u->∀v∈Go.Abs.BH u,v∈V) (h3:V.length<=3) (hw:Tf P w) (f:El w R9 n) (U:0<n):Wv (BK w n) S9 K9 R9 n:=by
 have o:=hw.red I;have K:=hw.K8 I hV h3;have N:w.length<=3:=Nat.le_trans (hw.len I hV) h3;have H:n≠0:=by grind
 have D:Re.sqrt n*Re.sqrt n=n:=Re.G3 (by grind);have O:Re.sqrt n≠0:=fun e=>H (by rw[<-D,e];grind)
 by_cases B:Sq w n
 ·rw[EK B];have hm:=(MT (by grind)).1 B;have b1:=SJ o K hm D f.bd
  have F:Bd S9 (co w (Re.sqrt n)):=b1.mono (by
   have:=RZ (h:=w.length) (h':=3) (R:=Rn) (R':=Rn) N Bi;have e:GG 3 Rn=112490:=by decide +kernel
   have Z:R9=46300000:=rfl
   show _<=46412490
   omega)
  obtain⟨y,Y,J⟩:=EU o hm O;have b2:=Ij o K hm Y J F;exact⟨hm,F,⟨y,by rw[<-J];exact Re.mul_comm _ _,b2.mono (Nat.le_trans (IV N Bi Bi) (by decide +kernel))⟩,f.bd⟩
 have L:=OB o f.mem U B;have Q:∀{s x},El w s x->El (BK w n) s x:=fun W=>El.BK o (by rw[Dp B];exact L) W
 have e1:=JS L;rw[Ky f.mem] at e1;obtain⟨i,S,G⟩:=EU o f.mem H;have b2:=Ij o K f.mem S G f.bd;have z0:El w 0 0:=El.rat o G9;have b3:=O8 L z0.mem S z0.bd b2;rw[Ky f.mem,show (0:Re)+i*Re.sqrt n=i*Re.sqrt n by grind] at b3;refine⟨by rw[Dp B];exact e1.mem,by rw[Dp B];exact e1.bd.mono AE,⟨i*Re.sqrt n,?_,?_⟩,(Q f).bd⟩
 ·have e2:i*Re.sqrt n*Re.sqrt n=i*(Re.sqrt n*Re.sqrt n):=by grind
  have:i*Re.sqrt n*Re.sqrt n=n*i:=by rw[e2,D];exact Re.mul_comm _ _
  rw[this,G]
 rw[Dp B];refine b3.mono (Nat.le_trans (Nat.add_le_add_left (IV N Bi Bi) _) (by decide +kernel))
theorem Tw (I:Cg P 256) (hV:∀{u},P u->∀v∈Go.Abs.BH u,v∈V) (h3:V.length<=3) (hw:Tf P w) (o:El w R9 n) (H:0<=n):Ml (BK w n) E9:=by
 have B:=hw.red I;have D:=hw.K8 I hV h3;have he:=Ht (h:=w.length) (h':=3) (R:=Rn) (R':=Rn) (Nat.le_trans (hw.len I hV) h3) Bi;have G:EE 3 Rn=10794:=by decide +kernel
 have M:=Ml.of B D
 by_cases f:Sq w n
 ·rw[EK f];exact M.mono (by show _<=46321590;omega)
 have F:=OB B o.mem (by
  have:n≠0:=fun e=>f (by rw[e];exact⟨0,CO w,by grind⟩)
  grind) f
 rw[Dp f];have J:R9=46300000:=rfl;exact (M.cons F o.bd).mono (by show _<=46321590;omega)
theorem mY (I:Cg P 256) (hV:∀{u},P u->∀v∈Go.Abs.BH u,v∈V) (h3:V.length<=3) (hw:Tf P w) (J:El w R9 n) (N:0<=n) {x y:Re} {s:Nat} (f:El (BK w n) s x) (o:In (BK w n) y) (e:x*y=1):El (BK w n) (47*s+1066000000) y:=by
 have B:=hw.red I;have F:=hw.K8 I hV h3;have H:w.length<=3:=Nat.le_trans (hw.len I hV) h3;have he:=Ht (h:=w.length) (h':=3) (R:=Rn) (R':=Rn) H Bi;have L:EE 3 Rn=10794:=by decide +kernel
 have G:∀s,II w.length Rn s<=23*s+151098:=fun s=>Nat.le_trans (IV H Bi Bi) (by simp only[II,EE,Rn];omega)
 refine⟨o,?_⟩
 by_cases D:Sq w n
 ·rw[EK D] at f o ⊢;exact (Ij B F f.mem o e f.bd).mono (by have:=G s;omega)
 have K:=OB B J.mem (by
  have:n≠0:=fun e=>D (by rw[e];exact⟨0,CO w,by grind⟩)
  grind) D
 rw[Dp D] at f o ⊢;have:=Ml.inv (P:=fun s=>II w.length Rn s) K (Ml.of B F) J.bd (fun f o e hb=>Ij B F f o e hb) f.mem e f.bd;refine this.mono ?_
 show s+EE w.length Rn+II w.length Rn (2*s+2*EE w.length Rn+46300000+1)<=_
 have O:II w.length Rn (2*s+2*EE w.length Rn+46300000+1)<=23*(2*s+2*EE w.length Rn+46300000+1)+151098:=G _;omega
theorem Vk (I:Cg P 256) (hV:∀{u},P u->∀v∈Go.Abs.BH u,v∈V) (h3:V.length<=3) (hw:Tf P w) (ha:∀{u},Tf P u->BW u w) (f:El w R9 n) (B:0<=n) {r:List Rat} {u:AD} (h:P4 P n (r::u)):Wm (BK w n) n (AQ u r):=by
 have o:Ag (BK w n):=I1 (hw.red I) f.mem B;rcases h.top I with h |⟨H,D,e⟩
 ·have W:=sa I hV h3 hw ha o (fun F=>El.BK (hw.red I) o F) h;obtain⟨y,e,G⟩:=W.inv;exact .inl ⟨W.root,W.rb.mono AE,⟨y,e,G⟩,W.vb.mono AE⟩
 refine .inr ⟨e,?_⟩;rw[e]
 exact fO I hV h3 hw f (by
  have:n≠0:=fun e=>D (by rw[e];exact⟨0,CO u,by grind⟩)
  grind)
theorem ZK (I:Cg P 256) (hV:∀{u},P u->∀v∈Go.Abs.BH u,v∈V) (h3:V.length<=3) (hw:Tf P w) (ha:∀{u},Tf P u->BW u w) (B:El w R9 n) (o:0<=n):Cg (P4 P n) GA:=by
 have G:Ag (BK w n):=I1 (hw.red I) B.mem o;have M:=Tw I hV h3 hw B o;refine⟨fun h=>P4.red I o h,fun {u} h=>?_,fun h=>P4.sub I h⟩;have D:=P4.red I o h
 have F:u.length<=4:=by
  have:=Jl (HP D) (P4.len I hV h);rw[KA,List.length_cons] at this;omega
 have f:∀v∈Go.Abs.BH u,Wm (BK w n) n v:=by
  clear F D
  induction u with
  | nil=>intro v f;simp[Go.Abs.BH] at f
  | cons r u H=>
   intro v f;rcases List.mem_cons.1 f with rfl | f
   ·exact Vk I hV h3 hw ha B o h
   exact H (P4.sub I h) v f
 exact VP G M D F f
theorem Tf.Nl (I:Cg P 256) (hV:∀{u},P u->∀v∈Go.Abs.BH u,v∈V) (h3:V.length<=3) (J:Cg (P4 P n) GA) {u:AD} (h:Tf (P4 P n) u):u.length<=4:=by
 have:=h.len J (V:=n::V) (fun f=>P4.len I hV f);rw[List.length_cons] at this;omega
end
theorem lO:∀h,h<=4->Fit h GA (M9+C9)
 |0,_|1,_|2,_|3,_|4,_=>⟨by decide +kernel,by decide +kernel,by decide +kernel,by decide +kernel⟩
 | _+5,h=>absurd h AA
theorem lL:∀h,h<=4->Ev h GA (M9+C9)
 |0,_|1,_|2,_|3,_|4,_=>⟨by decide +kernel,by decide +kernel,by decide +kernel,by decide +kernel⟩
 | _+5,h=>absurd h AA
theorem nj:2*(M9+C9)+EE 4 GA<=60000000000000:=by decide +kernel
theorem mF:II 4 GA M9<=60000000000000:=by decide +kernel
theorem lj {P:AD->Prop} {R0 S:Nat} (I:Cg P R0) (F:∀{u},Tf P u->TB GA u) (f:∀{u},Tf P u->u.length<=4) (B:∀{u w s x},Tf P u->Tf P w->BW u w->El u s x->El w (s+C9) x) (D:GA<=S) (o:S<=M9):DW (Tf P) GA C9 S where
 BG:=fun {u} h=>⟨h.red I,F h,AE,by have:=f h;omega⟩
 ht:=fun {u} h=>by have:=f h;omega
 nil:= .nil
 sub:=fun {r u} h=>h.sub I
 BK:=fun {t r u} ht h B=>ht.R8 I h B
 CK:=B
 fit:=fun {u} h=>(lO _ (f h)).mono (Nat.add_le_add_right o C9)
 mul:=fun {u} h=>Nat.le_trans (Nat.add_le_add (Nat.mul_le_mul_left 2 (Nat.add_le_add_right o C9)) (Ht (h:=u.length) (h':=4) (R:=GA) (R':=GA) (f h) Bi)) nj
 RS:=D
 JY:=fun {u} h=>(lL _ (f h)).mono (Nat.add_le_add_right o C9)
section
variable {P:AD->Prop} {V:List Re} {w:AD} {n:Re}
theorem lh (I:Cg P 256) (hV:∀{u},P u->∀v∈Go.Abs.BH u,v∈V) (h3:V.length<=3) (hw:Tf P w) (ha:∀{u},Tf P u->BW u w) (B:El w R9 n) (o:0<=n) {S:Nat} (G:GA<=S) (H:S<=M9):DW (Tf (P4 P n)) GA C9 S:=by
 have J:=ZK I hV h3 hw ha B o;have F:Ag (BK w n):=I1 (hw.red I) B.mem o;have M:=Tw I hV h3 hw B o;have D:∀{u},Tf (P4 P n) u->∀v∈Go.Abs.BH u,Wm (BK w n) n v:=fun {u} h=>Tf.all J (fun L=>Vk I hV h3 hw ha B o L) h
 exact lj J (fun {u} h=>VP F M (h.red J) (h.Nl I hV h3 J) (D h)) (fun h=>h.Nl I hV h3 J) (fun {u v s x} hu f K N=>kq F M (hu.red J) (f.red J) (D hu) (D f) (hu.Nl I hV h3 J) (f.Nl I hV h3 J) K N) G H
end
end Go.Abs
namespace Go.Abs
abbrev F9 (TT:AD->Prop) (w:AD):Prop:=Fm TT w GA 47000000 40 690 47 23
theorem Pl.f9 {P:AD->Prop} {V:List Re} {w:AD} (L:Pl P V w) {n:Re} (f:El w R9 n) (h:0<=n):F9 (Tf (P4 P n)) (BK w n):=by
 have J:=ZK L.I L.hV L.h3 L.hw L.ha f h;have D:Ag (BK w n):=I1 (L.hw.red L.I) f.mem h;have M:=Tw L.I L.hV L.h3 L.hw f h;refine⟨fun {S} F G=>lh L.I L.hV L.h3 L.hw L.ha f h F (Nat.le_trans G AE),L.hw.XE L.I f.mem,fun {u} hu=>Nb D (hu.red J) (fun v K=>(Tf.all J (fun H=>Vk L.I L.hV L.h3 L.hw L.ha f h H) hu v K).root),AE,AE,fun {x y s t} o B=>⟨Ak D o.mem B.mem,(M.bd o.mem B.mem o.bd B.bd).mono (by show s+t+46321590<=s+t+47000000;omega)⟩,fun o B e=>(mY L.I L.hV L.h3 L.hw f h o B e).mono AA,fun {u} hu=>?_⟩;exact Nat.le_trans (IV (hu.Nl L.I L.hV L.h3 J) Bi Bi) mF
end Go.Abs
namespace Go.Abs
section
variable {P:AD->Prop} {V:List Re}
theorem jk {k n:Nat} {q:Rat} (h:Bd k [q]):Bd k (q::List.replicate n 0):=by
 obtain⟨D,f,o,B,h3⟩:=h;exact⟨D,f,o,Sj B,UG h3⟩
theorem Tf.VQ (I:Cg P 256) (G:∀{r u},P (r::u)->u=[]) {u:AD} (h:Tf P u):TB 256 u:=by
 induction h with
 | nil=>exact fun r H=>absurd H Ai
 | @BK u r0 K ht o J F=>
  obtain rfl:=G o
  by_cases D:Sq u (AQ [] r0)
  ·rw[EK D];exact F
  rw[Dp D];intro s f;rcases List.mem_cons.1 f with rfl | f
  ·obtain⟨q,B⟩:=Cy.1 (B0 (I.red o));have hb:Bd 256 (co [] (AQ [] r0)):=by rw[E0 (I.red o)];exact (I.tb o).head
   rw[B,DH] at hb;rw[B,H4 q (ht.red I)];exact jk hb
  exact F s f
abbrev Cl:Nat:=40000
theorem Tf.Ye (I:Cg P 256) (B:∀{r u},P (r::u)->u=[]) (hV:∀{u},P u->∀v∈Go.Abs.BH u,v∈V) (h3:V.length<=3) {u w:AD} {s:Nat} {x:Re} (hu:Tf P u) (hw:Tf P w) (o:BW u w) (f:El u s x):El w (s+Cl) x:=by
 by_cases D:w.length<=2
 ·refine (f.CK (hw.red I) (hw.VQ I B) (hu.red I) (hu.VQ I B) o).mono ?_;have:=KE (k:=u.length) (k':=3) (R0:=256) (IX:=256) (h:=w.length) (h':=2) (R:=256) (R':=256) (Nat.le_trans (hu.len I hV) h3) Bi D Bi;have H:CC 3 256 2 256<=Cl:=by decide +kernel
  omega
 refine⟨o _ f.mem,(SH (hw.red I) (hu.red I) (fun v G=>Classical.byContradiction fun F=>?_) f.mem f.bd).mono (Nat.le_add_right _ _)⟩
 have:=Jl (l:=v::Go.Abs.BH w) (m:=V) (List.nodup_cons.2 ⟨F,HP (hw.red I)⟩) (fun x f=>by
  rcases List.mem_cons.1 f with rfl | f
  ·exact hu.BH I hV _ G
  exact hw.BH I hV x f)
 rw[List.length_cons,KA] at this;omega
theorem lk (I:Cg P 256) (D:∀{r u},P (r::u)->u=[]) (hV:∀{u},P u->∀v∈Go.Abs.BH u,v∈V) (h3:V.length<=3) {C S:Nat} (H:Cl<=C) (o:C<=Cn) (f:Rn<=S) (h:S<=Sm):DW (Tf P) Rn C S:=
 have G:=ll I hV h3 f h
 {G with
  CK:=fun hu hw B F=>(Tf.Ye I D hV h3 hu hw B F).mono AA
  fit:=fun hu=>(G.fit hu).mono AA
  mul:=fun hu=>by have:=G.mul hu;omega
  JY:=fun hu=>(G.JY hu).mono AA}
end
end Go.Abs
namespace Go.Abs
abbrev Fl (TT:AD->Prop) (w:AD):Prop:=Fm TT w Rn 2100 20 43400000 23 14
variable {V:List Re} {ns:List Nu} {w:AD}
theorem Pl.fl {P:AD->Prop} (L:Pl P V w) (o:∀{r u},P (r::u)->u=[]):Fl (Tf P) w:=by
 have B:BC 256 w:=⟨L.hw.red L.I,L.hw.VQ L.I o,AE,by have:=L.len L.hw;omega⟩
 refine⟨fun {S} D F=>lk L.I o L.hV L.h3 AE AE D (Nat.le_trans F AE),L.hw,L.ha,AE,AE,fun {x y s t} f h=>(f.mul B h).mono (by
  have:=Ht (L.len L.hw) (Nat.le_refl 256);have e:EE 3 256<=2100:=by decide +kernel
  omega),fun {x y s} f h e=>(f.inv B h e).mono (Nat.le_trans (IV (L.len L.hw) Bi Bi) (by simp only[II,EE];omega)),fun {u} hu=>?_⟩
 exact Nat.le_trans (IV (L.len hu) Bi Bi) (Nat.le_trans (mG _) AE)
noncomputable def Jg (ns:List Nu):List Nu:=ns.filter (fun n=>decide (n.1.length<=1))
theorem Zs (h:∀n∈ns,CY V n):∀n∈Jg ns,CY V n:=fun n f=>h n (List.mem_filter.1 f).1
theorem To {r:List Rat} {u:AD} (h:PN (Jg ns) (r::u)):u=[]:=by
 obtain⟨n,o,B⟩:=h;have D:=of_decide_eq_true (List.mem_filter.1 o).2;have f:=B.length_le;rw[List.length_cons] at f;exact List.length_eq_zero_iff.1 AA
theorem oI (L:Pl (PN (Jg ns)) V w) (h:∀n∈ns,CY V n) {n:Nu} (f:n∈ns\/n=Mp) (o:(tw n.1).length<=1) {b k:Nat} (hb:40512<=k*b):Nm (Tf (PN (Jg ns))) w b k (tw n.1) (em n.1 n.2) n.2:=by
 rcases f with f | rfl
 ·have hm:n∈Jg ns:=List.mem_filter.2 ⟨f,decide_eq_true (by rw[tw,List.length_map,List.length_reverse] at o;exact o)⟩;have hu:=FH L.h3 (Zs h) hm;have he:=(h n f).el L.h3;exact⟨n.1,hu,rfl,rfl,he.mem,(Tf.Ye L.I To L.hV L.h3 hu L.hw (L.ha hu) he).mono (Nat.le_trans AE hb)⟩
 exact⟨[],.nil,rfl,rfl,Fy 0 [],(El.rat (L.hw.red L.I) (Ha (b:=64) (r:=0) (by decide +kernel) (Nat.le_refl 64))).mono (Nat.le_trans AE hb)⟩
theorem nV (hV:V.length<=3) (h:∀n∈ns,CY V n):∃w,Pl (PN (Jg ns)) V w:=ou hV (Zs h)
end Go.Abs
namespace Go.Abs
noncomputable def iX (xp yp xq yq t:Re):Re:=xp+(xq-xp)*Re.ofRat (1/2)+ -((yq-yp)*Re.ofRat (1/2))*(Re.ofRat ((1:Int):Rat)*Bm t)
noncomputable def iY (xp yp xq yq t:Re):Re:=yp+(yq-yp)*Re.ofRat (1/2)+(xq-xp)*Re.ofRat (1/2)*(Re.ofRat ((1:Int):Rat)*Bm t)
noncomputable def wX (xp yp xq yq xr yr:Re):Re:=((yr-yp)*((xq-xp)*(xq-xp)+(yq-yp)*(yq-yp))-(yq-yp)*((xr-xp)*(xr-xp)+(yr-yp)*(yr-yp)))*Bm ((xq-xp)*(yr-yp)-(yq-yp)*(xr-xp)+((xq-xp)*(yr-yp)-(yq-yp)*(xr-xp)))
noncomputable def wY (xp yp xq yq xr yr:Re):Re:=((xq-xp)*((xr-xp)*(xr-xp)+(yr-yp)*(yr-yp))-(xr-xp)*((xq-xp)*(xq-xp)+(yq-yp)*(yq-yp)))*Bm ((xq-xp)*(yr-yp)-(yq-yp)*(xr-xp)+((xq-xp)*(yr-yp)-(yq-yp)*(xr-xp)))
end Go.Abs
namespace Go.Abs
end Go.Abs
namespace Go.Abs
end Go.Abs
