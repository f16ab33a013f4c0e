/- Part 12 of a proof. Conditions: each theorem's own. -/
import Derived.Test.YtmifleedghiimaaGreatDoorRb10
set_option linter.all false
set_option maxHeartbeats 80000000
set_option maxRecDepth 20000
open Go.Proofs
namespace Go.Abs
open Go.RowKit
def B8 {ops:List Oper} {tr:Tr} {C:Prop} (h:C) (f:W6 ops tr=true:=by kernel_rfl):(Unit->LQ ops tr=true)/\C:=⟨fun _=>td f,h⟩
def BR {A1 A2 A3 A4 A5 X Q:Prop} {f:Nat->BD->Prop} {h o B:Nat->BD->List AV->AV->BD->Prop} {b:BD} {a:List AV} {r:AV} {b1:BD} (D:f 0 b) (h3:o 0 b a r b1) (F:h 0 b a r b1) (k:Q) (e:B 0 b a r b1=Q:=by exact DY):
  A1\/A2\/A3\/A4\/A5\/(∃(id:Nat) (b:BD) (a:List AV) (r:AV) (b1:BD),(Unit->f id b/\h id b a r b1)/\(Unit->o id b a r b1)/\B id b a r b1)\/X:=
 .inr (.inr (.inr (.inr (.inr (.inl ⟨0,b,a,r,b1,fun _=>⟨D,F⟩,fun _=>h3,e.mpr k⟩)))))
def Bg {n:Nat}:n<=n:=Nat.le_refl n
end Go.Abs
namespace Go.Abs
def dL {E:Env} {g:FuncId} {args:List AV} {r:AV} {B:Nat->BD->List AV->Prop} {S:BD->BD} {K:Nat->AV->Prop} {f o F G:Prop} (id:Nat) (b:BD) (H:env Tryz.prog=E) (h:Cz Tryz.prog g args (S b) r) (hb:B id b args) (I:K id r):
 f\/o\/F\/(∃(id:Nat) (b:BD) (a:List AV) (r:AV),(Unit->B id b a)/\(Unit->E.D g a (S b) r)/\K id r)\/G:= .inr (.inr (.inr (.inl ⟨id,b,args,r,fun _=>hb,fun _=>G3 H h,I⟩)))
end Go.Abs

namespace Go.Abs
abbrev N6:T:=(.pr .str (.pr .i64 (.pr .i64 (.pr .i64 (.pr .i64 (.pr .i64 .bool))))))
def Pr:List (el N6):=[(⟨#[102,105,120]⟩,1,0,2,1,2,false),(⟨#[100,105,115,116,97,110,99,101]⟩,2,0,1,2,1,false),(⟨#[105,110,99,105,100,101,110,116]⟩,3,0,0,0,1,false),(⟨#[111,102,102,115,101,116]⟩,3,0,1,2,1,true),(⟨#[97,110,103,108,101]⟩,4,0,1,3,1,false),(⟨#[112,97,114,97,108,108,101,108]⟩,4,0,0,0,1,false),(⟨#[112,101,114,112,101,110,100,105,99,117,108,97,114]⟩,4,0,0,0,1,false),(⟨#[101,113,117,97,108]⟩,4,0,0,0,1,false),(⟨#[109,105,100,112,111,105,110,116]⟩,3,0,0,0,2,false),(⟨#[115,121,109,109,101,116,114,105,99]⟩,4,0,0,0,2,false),(⟨#[104,111,114,105,122,111,110,116,97,108]⟩,2,0,0,0,1,false),(⟨#[118,101,114,116,105,99,97,108]⟩,2,0,0,0,1,false),(⟨#[111,110,99,105,114,99,108,101]⟩,1,1,0,0,1,false),(⟨#[114,97,100,105,117,115]⟩,0,1,1,2,1,false),(⟨#[115,97,109,101,114,97,100,105,117,115]⟩,0,2,0,0,1,false),(⟨#[116,97,110,103,101,110,116,108,105,110,101]⟩,2,1,0,0,1,true),(⟨#[116,97,110,103,101,110,116,99,105,114,99,108,101]⟩,0,2,0,0,1,true)]
def DO (k:Int):el N6:=if 1<=k/\k<=17 then Pr.getD (k-1).toNat (⟨#[]⟩,0,0,0,0,0,false) else (⟨#[]⟩,0,0,0,0,0,false)
variable {X:List Int} {a b k x:Int} {c:Bool} {i j:Nat}
def gN (h:¬(1<=k/\k<=17)):DO k=(⟨#[]⟩,0,0,0,0,0,false):=if_neg h
def vK {x:el N6} (h:1<=k/\k<=17) (f:Pr[(k-1).toNat]? =some x):DO k=x:=by
 unfold DO;rw[if_pos h,List.getD_eq_getElem?_getD,f];rfl
def MT (k:Int):Bool:=decide (1<=k/\k<=17)
def dfB:List Int->Nat->Bool
 | l,0=>true
 | l,i+1=>dfB l i&& !((l.take i).contains (l.getD i 0))
def Eg (n:Int) (l:List Int):Bool:=l.all fun x=>decide (0<=x/\x<n)
def Io (l:List Int):Prop:=∀(i j:Nat) (x y:Int),j<i->l[i]? =some x->l[j]? =some y->x≠y
def Uj {p:Int->Bool} (h:X[i]? =some x):(X.drop i).all p=(p x&&(X.drop (i+1)).all p):=by
 have f:=EX h;rw[List.drop_eq_getElem_cons f,List.all_cons];rw[List.getElem?_eq_getElem f] at h;rw[Option.some.inj h]
def Qw {y:Int} (f:X[i]? =some x) (h:X[i]? =some y):x=y:=Option.some.inj (f.symm.trans h)
def pP (h:∀(q:Nat) (x y:Int),q<j->X[i]? =some x->X[q]? =some y->x≠y) (ha:X[i]? =some a) (hb:X[j]? =some b) (f:a≠b):∀(q:Nat) (x y:Int),q<j+1->X[i]? =some x->X[q]? =some y->x≠y:=fun q x y D o B=>by
 by_cases e:q=j
 ·subst e;rw[Qw o ha,Qw B hb];exact f
 exact h q x y AA o B
def pQ (h:∀(p q:Nat) (x y:Int),p<i->q<p->X[p]? =some x->X[q]? =some y->x≠y) (F:i<=j) (B:∀(q:Nat) (x y:Int),q<j->X[i]? =some x->X[q]? =some y->x≠y):
  ∀(p q:Nat) (x y:Int),p<i+1->q<p->X[p]? =some x->X[q]? =some y->x≠y:=fun p q x y G D f o=>by
 by_cases e:p=i
 ·subst e;exact B q x y AA f o
 exact h p q x y AA D f o
def Yc:CF 110 [] (.one (.sl (.pr .str (.pr .i64 (.pr .i64 (.pr .i64 (.pr .i64 (.pr .i64 .bool)))))) Pr)):=by
 refine AL Tryz.func110 fun E f=>?_
 refine⟨Pr,fun _=>⟨rfl,AD,rfl,AK⟩,.inr ?_⟩;try conv=>cbv
 exact AN ⟨t2,trivial⟩
def YY {nm:ByteArray} {d e f:Int} {g:Bool} (L:Ej k) (G:(nm,a,b,d,e,f,g)=DO k) (F:c=MT k):CF 46 [AH k] (.BI [(true,[.str nm,.int .i64 a,.int .i64 b,.int .i64 d,.int .i64 e,.int .i64 f,.bool g]),(false,[.bool c])]):=by
 unfold Ej at L;obtain⟨RL,o⟩:∃z:List (el N6),z=Pr:=⟨_,rfl⟩
 have N:RL.length=17:=by rw[o];rfl
 refine AL Tryz.func46 fun E K=>?_
 refine Dk (fun O=>?_) fun O=>?_
 ·have h:=G.trans (gN AA);simp only[Prod.mk.injEq] at h;exact AN ⟨⟨rfl,congrArg _ (h.1),congrArg _ (h.2.1),congrArg _ (h.2.2.1),congrArg _ (h.2.2.2.1),congrArg _ (h.2.2.2.2.1),congrArg _ (h.2.2.2.2.2.1),congrArg _ (h.2.2.2.2.2.2),trivial⟩,⟨rfl,congrArg _ (by rw[F];exact decide_eq_false AA),trivial⟩,trivial⟩
 refine AB K (o ▸ Yc) ?_;rintro W ⟨U,f9⟩;refine Eb (fun H=>?_) fun H=>?_
 ·have h:=G.trans (gN AA);simp only[Prod.mk.injEq] at h;exact AN ⟨⟨rfl,congrArg _ (h.1),congrArg _ (h.2.1),congrArg _ (h.2.2.1),congrArg _ (h.2.2.2.1),congrArg _ (h.2.2.2.2.1),congrArg _ (h.2.2.2.2.2.1),congrArg _ (h.2.2.2.2.2.2),trivial⟩,⟨rfl,congrArg _ (by rw[F];exact decide_eq_false AA),trivial⟩,trivial⟩
 refine AB K (o ▸ Yc) ?_;intro I D;refine BA ((I).toNat) fun J B=>?_
 try conv=>cbv
 obtain⟨Q,S,b1,d1,e1,f1,g1⟩:=J;have h:=G.trans (vK AA (by rw[<-D,<-o];exact B));simp only[Prod.mk.injEq] at h;exact AN ⟨⟨rfl,congrArg _ (h.1),congrArg _ (h.2.1),congrArg _ (h.2.2.1),congrArg _ (h.2.2.2.1),congrArg _ (h.2.2.2.2.1),congrArg _ (h.2.2.2.2.2.1),congrArg _ (h.2.2.2.2.2.2),trivial⟩,⟨rfl,congrArg _ (by rw[F];exact decide_eq_true AA),trivial⟩,trivial⟩
def j5 {n:Int} (I:c=Eg n X):CF 47 [.one (.sl .i64 X),AH n] (.one (.bool c)):=by
 refine AL Tryz.func47 fun E Z=>?_
 refine BX [] [0,1,5] [] (fun vs G k=>∃(i':Nat) (i:Int),vs=[.one (.sl .i64 X),AH n,AH i]/\(AZ i i'/\i'<=X.length)/\c=Eg n (X.drop i')/\k=X.length-i') (X.length-0) ⟨0,0,rfl,⟨BM 0,AA⟩,I,rfl⟩ ?_;rintro U o vs G O ⟨i',i,rfl,⟨J,K⟩,hinv,L⟩;have Y:=J.eq;refine Af ?_;rintro n8 ⟨W,f8⟩;refine Bi (fun N=>?_) fun N=>?_
 ·exact AO (by rw[hinv,List.drop_eq_nil_of_le AA];rfl)
 refine .inr ?_;refine BA i' fun Q f=>?_
 try conv=>cbv
 refine Dk (fun B=>?_) fun B=>?_
 ·exact AO (by rw[hinv];refine (Uj (p:=fun x=>decide (0<=x/\x<n)) f).trans ?_;rw[decide_eq_false AA];rfl)
 refine BA i' fun S h=>?_
 try conv=>cbv
 refine OH (fun D=>?_) fun D=>?_
 ·exact AO (by rw[hinv];refine (Uj (p:=fun x=>decide (0<=x/\x<n)) f).trans ?_;have e:=Qw f h;rw[decide_eq_false AA];rfl)
 intro F H;exact Bj o ⟨i'+1,F,rfl,⟨⟨AA⟩,AA⟩,hinv.trans ((Uj (p:=fun x=>decide (0<=x/\x<n)) f).trans (by have e:=Qw f h;rw[decide_eq_true AA];rfl)),rfl⟩
def NB (Q:c=true↔Io X):CF 49 [.one (.sl .i64 X)] (.one (.bool c)):=by
 refine AL Tryz.func49 fun E hE=>?_
 refine BX [] [0,3] [] (fun vs H k=>∃(i':Nat) (i:Int),vs=[.one (.sl .i64 X),AH i]/\(AZ i i'/\i'<=X.length)/\(∀(p q:Nat) (x y:Int),p<i'->q<p->X[p]? =some x->X[q]? =some y->x≠y)/\k=X.length-i') (X.length-0) ⟨0,0,rfl,⟨BM 0,AA⟩,fun p q x y h=>absurd h (Nat.not_lt_zero p),rfl⟩ ?_;rintro J0 I vs H a6 ⟨i',i,rfl,⟨W,Y⟩,hinv,a2⟩;have ei:=W.eq;refine Af ?_;rintro n7 ⟨e7,f7⟩;refine Bi (fun k8=>?_) fun k8=>?_
 ·exact AO (Q.2 fun p q x y h a b=>hinv p q x y (by have:=EX a;omega) h a b)
 refine .inr ?_;refine BX [] [0,3,4] [] (fun vs H k=>∃(D:Nat) (j:Int),vs=[.one (.sl .i64 X),AH i,AH j]/\(AZ j D/\D<=i')/\(∀(q:Nat) (x y:Int),q<D->X[i']? =some x->X[q]? =some y->x≠y)/\k=i'-D) (i'-0) ⟨0,0,rfl,⟨BM 0,AA⟩,fun q x y h=>absurd h (Nat.not_lt_zero q),rfl⟩ ?_;rintro J1 J vs H a7 ⟨D,j,rfl,⟨Z,a1⟩,f,a5⟩;conv=>cbv
 have ej:=Z.eq;refine Bi (fun K=>?_) fun K=>?_
 ·intro L S;exact Bj I ⟨i'+1,L,rfl,⟨⟨AA⟩,AA⟩,pQ hinv AA f,rfl⟩
 refine .inr ?_;refine BA i' fun a8 o=>?_
 try conv=>cbv
 refine BA D fun aa B=>?_
 refine AM ?_;intro O G;cases O <;> conv=>cbv
 ·have F:=CI G;refine AM ?_;intro N U;exact Bj J ⟨D+1,N,rfl,⟨⟨AA⟩,AA⟩,pP f o B F,rfl⟩
 have F:=CL G;exact AO (Bool.eq_false_iff.2 fun e=>Q.1 e i' D _ _ AA o B F)
end Go.Abs
namespace Go.Abs
abbrev cC (kd:Int) (P C:List Int) (V:List Ex) (sd:Int):List AC:=[.int .i64 kd,.sl .i64 P,.sl .i64 C,.sl .ex V,.int .i64 sd]
abbrev Ct (k:Int) (t:Nat->List LR) (a:Nat->LR):List AC:=[.int .i64 k,.sl (.sl AJ) (t 0),.sl AJ (a 0),.sl (.sl AJ) (t 1),.sl AJ (a 1),.sl (.sl AJ) (t 2),.sl AJ (a 2),.sl (.sl AJ) (t 3),.sl AJ (a 3),.sl (.sl AJ) (t 4),.sl AJ (a 4),.sl (.sl AJ) (t 5),.sl AJ (a 5),.sl (.sl AJ) (t 6),.sl AJ (a 6),.sl (.sl AJ) (t 7),.sl AJ (a 7),.sl (.sl AJ) (t 8),.sl AJ (a 8),.sl (.sl AJ) (t 9),.sl AJ (a 9)]
abbrev lcR (k:Int) (t:Nat->List LR) (a:Nat->LR) (e:Int):AV:= .BI [(true,Ct k t a),(false,[.int .i64 e])]
def C1 (t:Int):List Int->Nat->List Int
 | [],_=>[]
 | p::r,i=>if p=t then (i:Int)::C1 t r (i+1) else C1 t r (i+1)
variable {C P X AF l:List Int} {V:List Ex} {c:Bool} {i:Nat} {kd sd x:Int}
def fR {t:Int}:∀(l:List Int) (i:Nat),C1 t (l++[x]) i=C1 t l i++(if x=t then [((i+l.length:Nat):Int)] else [])
 | [],i=>by simp[C1]
 | p::r,i=>by
  rw[List.cons_append,C1,C1,fR r (i+1),List.length_cons,(AA:i+1+r.length=i+(r.length+1))]
  split <;> rfl
def fQ (t:Int):∀(l:List Int) (i:Nat),(C1 t l i).length<=l.length
 | [],_=>Nat.le_refl _
 | p::r,i=>by
  have:=fQ t r (i+1);rw[C1];split <;> simp <;> omega
def fS {t:Int} (h:l[i]? =some x):C1 t (l.take (i+1)) 0=C1 t (l.take i) 0++(if x=t then [(i:Int)] else []):=by
 rw[List.take_add_one,h];have:=fR (t:=t) (x:=x) (l.take i) 0;rw[show (some x).toList=[x] from rfl,this,List.length_take,Nat.min_eq_left (by have:=EX h;omega),Nat.zero_add]
def FG (AF C:List Int) (t:Int) (i:Nat):Bool:=AF.getD (C.getD i 0).toNat 0==t
def CY (AF C:List Int) (i:Nat):Int:=AF.getD (C.getD i 0).toNat 0
def OG {n:Int} (h:Eg n l=true) (f:l[i]? =some x):0<=x/\x<n:=of_decide_eq_true (List.all_eq_true.1 h x (List.mem_of_getElem? f))
def RE {y:Int} (f:C[i]? =some x) (h:AF[x.toNat]? =some y):CY AF C i=y:=by
 unfold CY;rw[List.getD_eq_getElem?_getD,List.getD_eq_getElem?_getD,f];show (AF[x.toNat]?).getD 0=y;rw[h];rfl
def hasB (P:List Int) (t:Int) (i:Nat):Bool:=(P.getD i 0==t)||(P.getD (i+1) 0==t)
def Di (P:List Int) (t:Int):Bool:=P.any fun p=>p==t
def FI (t:Int):List Int->Nat->Int
 | [],_=> -1
 | p::r,i=>if t=p then (i:Int) else FI t r (i+1)
def dH {t:Int} (h:l[i]? =some x):FI t (l.drop i) i=if t=x then (i:Int) else FI t (l.drop (i+1)) (i+1):=by
 have f:=EX h;rw[List.drop_eq_getElem_cons f,FI];rw[List.getElem?_eq_getElem f] at h;rw[Option.some.inj h]
def dI (t:Int):∀(l:List Int) (i:Nat),decide (FI t l i >= 0)=Di l t
 | [],i=>rfl
 | p::r,i=>by
  rw[FI];unfold Di;rw[List.any_cons]
  by_cases e:t=p
  ·rw[if_pos e,e];simp
  rw[if_neg e,dI t r (i+1),beq_eq_false_iff_ne.2 (Ne.symm e)];rfl
def cF (h:l[i]? =some x):l.getD i 0=x:=by rw[List.getD_eq_getElem?_getD,h];rfl
def Sl {t:Int} {R:List Int} (hP:P.length<=1000000) (hR:R=C1 t P 0):CF 58 [.agg (cC kd P C V sd),AH t] (.one (.sl .i64 R)):=by
 refine AL Tryz.func58 fun E hE=>?_
 rintro N ⟨U,f10⟩;refine BX [(5,.i64,true)] [1,5,9,10,11] [5] (fun vs S k=>∃(o:List Int) (m i':Nat) (i:Int),vs=[AH t,.one (.Aj .i64 5 0 0 m),.one (.sl .i64 P),AH N,AH i]/\S=[.arr 0 .i64 o]/\(AZ i i'/\i'<=P.length/\m=o.length)/\o=C1 t (P.take i') 0/\k=P.length-i') (P.length-0) ⟨[],0,0,0,rfl,rfl,⟨BM 0,AA,rfl⟩,rfl,rfl⟩ ?_;rintro J0 H vs S a2 ⟨o,m,i',i,rfl,rfl,⟨W,Y,hm⟩,hinv,Z⟩;conv=>cbv
 have ei:=W.eq;have a1:o.length<=P.length:=by rw[hinv];exact Nat.le_trans (fQ _ _ _) (by rw[List.length_take];omega)
 refine Bi (fun L=>?_) fun L=>?_
 ·exact AN ⟨⟨rfl,.inl ⟨_,rfl,AA,congrArg _ (by rw[hR,show P=P.take i' from (List.take_of_length_le AA).symm,<-hinv,List.drop_zero,hm,List.take_length])⟩,trivial⟩,trivial⟩
 refine .inr ?_;refine BA i' fun a5 f=>?_
 refine Af ?_;intro O G;refine .inr ?_;cases O <;> conv=>cbv
 ·have B:=CI G;refine AM ?_;intro F K;exact Bj H ⟨o,m,i'+1,F,rfl,rfl,⟨⟨AA⟩,AA,hm⟩,by rw[hinv,fS f,if_neg B,List.append_nil],rfl⟩
 have B:=CL G;refine⟨[i],fun _=>⟨rfl,AD,rfl,⟨rfl,t1,trivial⟩⟩,.inr ?_⟩;try conv=>cbv
 refine .inl ⟨[i],fun _=>⟨rfl,by (first | rfl | omega),rfl,Ck (o.length+1) 8⟩,?_⟩;intro (D:List (el .i64)) Q h;have I:D=(o:List (el .i64))++([i]:List (el .i64)):=h.1;have J:Q=List.length (α:=(el .i64)) D:=h.2;refine AM ?_;intro F K;exact Bj H ⟨D,_,i'+1,F,rfl,rfl,⟨⟨AA⟩,AA,J⟩,by rw[I,hinv,fS f,if_pos B,(AA:i=(i':Int))],rfl⟩
def SC {i t:Int} {i0:Nat} (G:AZ i i0) (H:i0<C.length) (D:Eg (AF.length:Nat) C=true) (F:c=FG AF C t i0):CF 59 [AH i,.one (.DM (.sl .i64) AF 0),.one (.DM (.pr .i64 (.pr (.sl .i64) (.pr (.sl .i64) (.pr (.sl .ex) .i64)))) (kd,P,C,V,sd) 0),.one (.DM .i64 t 0)] (.one (.bool c)):=by
 have K:=G.eq;refine AL Tryz.func59 fun E L=>?_
 obtain⟨B,f⟩:=CE (l:=(kd,P,C,V,sd).2.2.1) (i:=i0) AA;refine CJ f ?_;have hw:=OG D f;refine BA ((B).toNat) fun J h=>?_
 refine AM ?_;intro I o;have e1:=RE f h;exact AO (by rw[F,o];show (CY AF C i0==t)=_;rw[e1])
def YQ {t c:Int} (G:c=FI t X 0):CF 60 [.one (.sl .i64 X),AH t] (AH c):=by
 refine AL Tryz.func60 fun E W=>?_
 rintro N ⟨S,f7⟩;refine BX [] [0,1,7,8] [] (fun vs D k=>∃(i':Nat) (i:Int),vs=[.one (.sl .i64 X),AH t,AH N,AH i]/\(AZ i i'/\i'<=X.length)/\c=FI t (X.drop i') i'/\k=X.length-i') (X.length-0) ⟨0,0,rfl,⟨BM 0,AA⟩,G,rfl⟩ ?_;rintro Q o vs D L ⟨i',i,rfl,⟨H,I⟩,hinv,J⟩;conv=>cbv
 have U:=H.eq;refine Bi (fun K=>?_) fun K=>?_
 ·exact AO (by rw[hinv,List.drop_eq_nil_of_le AA];rfl)
 refine .inr ?_;refine BA i' fun O f=>?_
 try conv=>cbv
 refine BY (fun h=>?_) fun h=>?_
 ·exact AO (by rw[hinv,dH f,if_pos h];omega)
 intro B F;exact Bj o ⟨i'+1,B,rfl,⟨⟨AA⟩,AA⟩,hinv.trans ((dH f).trans (if_neg h)),rfl⟩
def YN {t:Int} (B:c=Di X t):CF 61 [.one (.sl .i64 X),AH t] (.one (.bool c)):=by
 refine AL Tryz.func61 fun E o=>?_
 obtain⟨F,f⟩:=xI (FI t X 0);refine AB o (YQ f) ?_;intro D h;exact AO (by rw[B,h,f,dI])
end Go.Abs
namespace Go.Abs
variable {Aa Ab Ac Ad Ax Ay vl:LR} {C P X AF:List Int} {Ta Tb Tc Td Tx Ty:List LR} {V:List Ex} {Fg c e e1 f1 i kd AE r sd:Int} {cr:List (el Ae)} {g:FuncId} {i0 p0:Nat} {x y:el Ae}
def Dh {A1 A2 A3 A4 A5 X:Prop} {f:Nat->BD->Prop} {h o B:Nat->BD->List AV->AV->BD->Prop} (id:Nat) {b:BD} {a:List AV} {r:AV} {b1:BD} (D:f id b) (h3:o id b a r b1) (F:h id b a r b1) (G:B id b a r b1):
  A1\/A2\/A3\/A4\/A5\/(∃(id:Nat) (b:BD) (a:List AV) (r:AV) (b1:BD),(Unit->f id b/\h id b a r b1)/\(Unit->o id b a r b1)/\B id b a r b1)\/X:=
 .inr (.inr (.inr (.inr (.inr (.inl ⟨id,b,a,r,b1,fun _=>⟨D,F⟩,fun _=>h3,G⟩)))))
abbrev BN (kd:Int) (P C:List Int) (V:List Ex) (sd:Int) (vl:LR) (AF:List Int) (AE:Int) (cr:List (el Ae)) (e:Int):List AC:=[.int .i64 kd,.sl .i64 P,.sl .i64 C,.sl .ex V,.int .i64 sd,.sl AJ vl,.sl .i64 AF,.int .i64 AE,.sl Ae cr,.int .i64 e]
abbrev JI:T:= .pr jV (.pr (.sl AJ) (.pr (.sl .i64) (.pr .i64 (.pr (.sl Ae) .i64))))
def ga {p:Int} (B:AZ p p0) (hb:p0<=1000000) (D:cr[2*p0]? =some x) (F:cr[2*p0+1]? =some y):Bp Tryz.prog 130 [Bf,AH p] (.var 0 (BN kd P C V sd vl AF AE cr e)) (.agg (Ag x.1 x.2 y.1 y.2)) (.var 0 (BN kd P C V sd vl AF AE cr e)):=by
 have J:=B.eq;refine CM Tryz.func130 (by kernel_rfl) rfl fun E K=>?_
 refine AM ?_;intro G f;refine CJ D ?_;intro H h I o;refine CJ F ?_;refine AK
def gl (o:AZ i i0) {p:Int} (B:AZ p p0) (hb:p0<=1000000) (D:cr[2*p0]? =some x) (F:cr[2*p0+1]? =some y) (h:P[i0]? =some p):Bp Tryz.prog 69 [Bf,AH i] (.var 0 (BN kd P C V sd vl AF AE cr e)) (.agg (Ag x.1 x.2 y.1 y.2)) (.var 0 (BN kd P C V sd vl AF AE cr e)):=by
 have G:=o.eq;refine CM Tryz.func69 (by kernel_rfl) rfl fun E f=>?_
 conv=>cbv
 refine CJ h ?_;refine BR rfl (BJ f (ga B hb D F)) AK ?_
 refine AK
def vY (B:AZ i i0) {p:Int} (D:AZ p p0) (hb:p0<=1000000) (G:cr[2*p0]? =some x) (H:cr[2*p0+1]? =some y) (f:C[i0]? =some c) (o:0<=c) (F:AF[c.toNat]? =some p):Bp Tryz.prog 123 [Bf,AH i] (.var 0 (BN kd P C V sd vl AF AE cr e)) (.agg (Ag x.1 x.2 y.1 y.2)) (.var 0 (BN kd P C V sd vl AF AE cr e)):=by
 have I:=B.eq;refine CM Tryz.func123 (by kernel_rfl) rfl fun E h=>?_
 conv=>cbv
 refine CJ f ?_;refine CJ F ?_;refine BR rfl (BJ h (ga D hb G H)) AK ?_
 refine AK
def wK (D:AZ i i0) (o:C[i0]? =some c) (B:0<=c/\c<=1000000) (F:0<=AE/\AE<=1000000) (G:cr[(2*AE+c).toNat]? =some x):Bp Tryz.prog 124 [Bf,AH i] (.var 0 (BN kd P C V sd vl AF AE cr e)) (.agg (AY x.1 x.2)) (.var 0 (BN kd P C V sd vl AF AE cr e)):=by
 have J:=D.eq;refine CM Tryz.func124 (by kernel_rfl) rfl fun E K=>?_
 refine AM ?_;intro H f;refine CJ o ?_;intro I h;refine CJ G ?_;refine AK
def gx {b1 b2:Bool} {l1 l2:List UInt32} {Tt:List LR} {At:LR} (o:AZ i i0) (B:vl[i0]? =some ((b1,l1),b2,l2)) (h:CF 129 [.agg (CP b1 l1 b2 l2)] (.agg (AY Tt At))):Bp Tryz.prog 71 [Bf,AH i] (.var 0 (BN kd P C V sd vl AF AE cr e)) (.agg (AY Tt At)) (.var 0 (BN kd P C V sd vl AF AE cr e)):=by
 have D:=o.eq;refine CM Tryz.func71 (by kernel_rfl) rfl fun E f=>?_
 conv=>cbv
 refine⟨((b1,l1),b2,l2),fun _=>⟨AA,by rw[(AA:i.toNat=i0)];exact B⟩,?_⟩;try conv=>cbv
 refine AB f h ?_;refine AK
def gh (he:e1=if e=0 then f1 else e):Bp Tryz.prog 183 [Bf,.agg (AY Ta Aa),AH f1] (.var 0 (BN kd P C V sd vl AF AE cr e)) (.agg (AY Ta Aa)) (.var 0 (BN kd P C V sd vl AF AE cr e1)):=by
 refine CM Tryz.func183 (by kernel_rfl) rfl fun E B=>?_
 refine Af ?_;intro o h;refine .inr ?_;cases o <;> conv=>cbv
 ·have f:=CI h;refine fun _=>⟨⟨⟨t3,trivial⟩,rfl,AS⟩,by rw[he,if_neg f];rfl⟩
 have f:=CL h;refine fun _=>⟨⟨⟨t3,trivial⟩,rfl,AS⟩,by rw[he,if_pos f];rfl⟩
def Mj (he:e1=if e=0 then f1 else e):Bp Tryz.prog 128 [Bf,.agg (Ag Ta Aa Tb Ab),AH f1] (.var 0 (BN kd P C V sd vl AF AE cr e)) (.agg (Ag Ta Aa Tb Ab)) (.var 0 (BN kd P C V sd vl AF AE cr e1)):=by
 refine CM Tryz.func128 (by kernel_rfl) rfl fun E B=>?_
 refine Af ?_;intro o h;refine .inr ?_;cases o <;> conv=>cbv
 ·have f:=CI h;refine fun _=>⟨⟨⟨⟨rfl,rfl,rfl,rfl,rfl,trivial⟩,trivial⟩,rfl,AS⟩,by rw[he,if_neg f];rfl⟩
 have f:=CL h;refine fun _=>⟨⟨⟨⟨rfl,rfl,rfl,rfl,rfl,trivial⟩,trivial⟩,rfl,AS⟩,by rw[he,if_pos f];rfl⟩
def Pt (he:e1=if e=0 then f1 else e):Bp Tryz.prog 77 [Bf,.agg (DL Ta Aa Tb Ab Tc Ac),AH f1] (.var 0 (BN kd P C V sd vl AF AE cr e)) (.agg (DL Ta Aa Tb Ab Tc Ac)) (.var 0 (BN kd P C V sd vl AF AE cr e1)):=by
 refine CM Tryz.func77 (by kernel_rfl) rfl fun E B=>?_
 refine Af ?_;intro o h;refine .inr ?_;cases o <;> conv=>cbv
 ·have f:=CI h;refine fun _=>⟨⟨⟨⟨rfl,rfl,rfl,rfl,rfl,rfl,rfl,trivial⟩,trivial⟩,rfl,AS⟩,by rw[he,if_neg f];rfl⟩
 have f:=CL h;refine fun _=>⟨⟨⟨⟨rfl,rfl,rfl,rfl,rfl,rfl,rfl,trivial⟩,trivial⟩,rfl,AS⟩,by rw[he,if_pos f];rfl⟩
def vk (he:e1=if e=0 then f1 else e):Bp Tryz.prog 147 [Bf,.agg (DL Ta Aa Tb Ab Tc Ac),AH f1] (.var 0 (BN kd P C V sd vl AF AE cr e)) (.agg (DL Ta Aa Tb Ab Tc Ac)) (.var 0 (BN kd P C V sd vl AF AE cr e1)):=by
 refine CM Tryz.func147 (by kernel_rfl) rfl fun E B=>?_
 refine Af ?_;intro o h;refine .inr ?_;cases o <;> conv=>cbv
 ·have f:=CI h;refine fun _=>⟨⟨⟨⟨rfl,rfl,rfl,rfl,rfl,rfl,rfl,trivial⟩,trivial⟩,rfl,AS⟩,by rw[he,if_neg f];rfl⟩
 have f:=CL h;refine fun _=>⟨⟨⟨⟨rfl,rfl,rfl,rfl,rfl,rfl,rfl,trivial⟩,trivial⟩,rfl,AS⟩,by rw[he,if_pos f];rfl⟩
def Ih (he:e1=if e=0 then f1 else e) (h:CF 142 [.agg (Ag Tc Ac Td Ad),.agg (Ag Ta Aa Tb Ab)] (BK (Ag Tx Ax Ty Ay) f1)):Bp Tryz.prog 134 [Bf,.agg (Ag Ta Aa Tb Ab),.agg (Ag Tc Ac Td Ad)] (.var 0 (BN kd P C V sd vl AF AE cr e)) (.agg (Ag Tx Ax Ty Ay)) (.var 0 (BN kd P C V sd vl AF AE cr e1)):=by
 refine CM Tryz.func134 (by kernel_rfl) rfl fun E f=>?_
 conv=>cbv
 refine AB f h ?_;refine BR rfl (BJ f (Mj he)) AK ?_
 refine AK
def Pw (f:CF g [.agg (AY Ta Aa),.agg (AY Tb Ab)] (BK (AY Tx Ax) f1)):Bp Tryz.prog 127 [Bf,.one (.fn g),.agg (AY Ta Aa),.agg (AY Tb Ab)] (.var 0 (BN kd P C V sd vl AF AE cr 0)) (.agg (AY Tx Ax)) (.var 0 (BN kd P C V sd vl AF AE cr f1)):=by
 refine CM Tryz.func127 (by kernel_rfl) rfl fun E h=>?_
 conv=>cbv
 refine BG ?_;refine AB h f ?_;refine BR rfl (BJ h (gh (e:=0) (e1:=f1) (f1:=f1) (by simp))) AK ?_
 refine AK
def Ld (f:CF 131 [.agg (AY Ta Aa),.agg (AY Ta Aa)] (BK (AY Tx Ax) f1)):Bp Tryz.prog 70 [Bf,.agg (AY Ta Aa)] (.var 0 (BN kd P C V sd vl AF AE cr 0)) (.agg (AY Tx Ax)) (.var 0 (BN kd P C V sd vl AF AE cr f1)):=by
 refine CM Tryz.func70 (by kernel_rfl) rfl fun E h=>?_
 conv=>cbv
 refine BR rfl (BJ h (Pw f)) AK ?_
 refine AK
def Jp {Ts:List LR} {As:LR} (he:e1=if r=0 then 6 else 0) (D:CF 64 [.agg (AY Ts As)] (AH r)):Bp Tryz.prog 68 [Bf,.agg (Ag Ta Aa Tb Ab),.agg (AY Ts As)] (.var 0 (BN kd P C V sd vl AF AE cr 0)) (.agg [.int .i64 2,BB,BC,BB,BC,BB,BC,BB,BC,BB,BC,Ao Ta,AT Aa,Ao Tb,AT Ab,Ao Ts,AT As,BB,BC,BB,BC]) (.var 0 (BN kd P C V sd vl AF AE cr e1)):=by
 refine CM Tryz.func68 (by kernel_rfl) rfl fun E B=>?_
 conv=>cbv
 refine CN ?_;refine AB B D ?_;intro o h;refine .inr ?_;cases o <;> conv=>cbv
 ·have f:=CI h;refine fun _=>⟨⟨⟨⟨rfl,rfl,CG,CG,CG,CG,CG,CG,CG,CG,CG,CG,rfl,rfl,rfl,rfl,rfl,rfl,CG,CG,CG,CG,trivial⟩,trivial⟩,rfl,AS⟩,by rw[he,if_neg f];rfl⟩
 have f:=CL h;refine fun _=>⟨⟨⟨⟨rfl,rfl,CG,CG,CG,CG,CG,CG,CG,CG,CG,CG,rfl,rfl,rfl,rfl,rfl,rfl,CG,CG,CG,CG,trivial⟩,trivial⟩,rfl,AS⟩,by rw[he,if_pos f];rfl⟩
def gg {Tz:List LR} {Az:LR} {f2 e2:Int} (he:e1=if e=0 then f1 else e) (h:e2=if e1=0 then f2 else e1) (B:CF 142 [.agg (Ag Tc Ac Td Ad),.agg (Ag Ta Aa Tb Ab)] (BK (Ag Tx Ax Ty Ay) f1)) (o:CF 205 [.agg (Ag Tx Ax Ty Ay)] (BK (AY Tz Az) f2)):Bp Tryz.prog 150 [Bf,.agg (Ag Ta Aa Tb Ab),.agg (Ag Tc Ac Td Ad)] (.var 0 (BN kd P C V sd vl AF AE cr e)) (.agg (AY Tz Az)) (.var 0 (BN kd P C V sd vl AF AE cr e2)):=by
 refine CM Tryz.func150 (by kernel_rfl) rfl fun E f=>?_
 conv=>cbv
 refine BR rfl (BJ f (Ih he B)) AK ?_
 refine AB f o ?_;refine BR rfl (BJ f (gh h)) AK ?_
 refine AK
abbrev S5 (kd:Int) (P C:List Int) (V:List Ex) (sd:Int) (vl:LR) (AF:List Int) (AE:Int) (cr:List (el Ae)) (e:Int):el JI:=((kd,P,C,V,sd),vl,AF,AE,cr,e)
def KL (p:Int->Bool):Nat->List Int->Int
 | _,[]=> -1
 | i,x::r=>if p x=true then (i:Int) else KL p (i+1) r
def cW {p:Int->Bool} {i:Nat} {x:Int} (h:X[i]? =some x):KL p i (X.drop i)=if p x=true then (i:Int) else KL p (i+1) (X.drop (i+1)):=by
 have f:=EX h;rw[List.drop_eq_getElem_cons f,KL];rw[List.getElem?_eq_getElem f] at h;rw[Option.some.inj h]
def cU (p:Int->Bool):∀(l:List Int) (i:Nat),decide (KL p i l >= 0)=l.any p
 | [],i=>rfl
 | x::r,i=>by
  rw[KL,List.any_cons]
  by_cases e:p x=true
  ·rw[if_pos e,e];simp
  rw[if_neg e,cU p r (i+1),Bool.eq_false_iff.2 e];rfl
def kz {I:el JI} {p:Int->Bool} (Q:∀x∈X,CF g [AH x,.one (.DM .i64 Fg 0),.one (.DM (.rf JI) I 0)] (.one (.bool (p x)))) (Y:r=KL p 0 X):CF 121 [.one (.sl .i64 X),.one (.GA g [⟨.i64,Fg⟩,⟨(.rf JI),I⟩])] (AH r):=by
 refine AL Tryz.func121 fun E O=>?_
 intro n7 F;have e7:=F.eq;have f7:=F.le;refine BX [] [0,1,7,8] [] (fun vs K k=>∃(o:Nat) (L j:Int),vs=[.one (.sl .i64 X),.one (.GA g [⟨.i64,Fg⟩,⟨.rf JI,I⟩]),AH L,AH j]/\(EN L X.length/\AZ j o/\o<=X.length)/\r=KL p o (X.drop o)/\k=X.length-o) (X.length-0) ⟨0,n7,0,rfl,⟨F,BM 0,AA⟩,Y,rfl⟩ ?_;rintro J0 G vs K a1 ⟨o,L,j,rfl,⟨J,S,U⟩,hinv,W⟩;conv=>cbv
 have eL:=J.eq;have ej:=S.eq;refine Bi (fun Z=>?_) fun Z=>?_
 ·exact AO (by rw[hinv,List.drop_eq_nil_of_le AA];rfl)
 refine .inr ?_;refine BA o fun D h=>?_
 try conv=>cbv
 obtain⟨B,f⟩:=xB (p D);refine AB (r:= .one (.bool B)) O ((by rw[f];exact Q D (List.mem_of_getElem? h))) ?_;cases B <;> conv=>cbv
 ·refine AM ?_;intro H N;exact Bj G ⟨o+1,L,H,rfl,⟨J,⟨AA⟩,AA⟩,hinv.trans ((cW h).trans (by rw[<-f];rfl)),rfl⟩
 exact AO (by rw[hinv,cW h,<-f,if_pos rfl];omega)
def YL {h:el JI} {p:Int->Bool} (F:∀x∈X,CF g [AH x,.one (.DM .i64 Fg 0),.one (.DM (.rf JI) h 0)] (.one (.bool (p x)))) {c:Bool} (D:c=X.any p):CF 62 [.one (.sl .i64 X),.one (.GA g [⟨.i64,Fg⟩,⟨(.rf JI),h⟩])] (.one (.bool c)):=by
 refine AL Tryz.func62 fun E B=>?_
 obtain⟨H,f⟩:=xI (KL p 0 X);refine AB B (kz F f) ?_;intro G o;exact AO (by rw[D,o,f];exact (cU p X 0).symm)
def gm {q b:Bool} (Q:0<=AE/\AE<=1000000) (I:(cr.length:Int)=2*AE+(AF.length:Nat)->CF 62 [.one (.sl .i64 C),.one (.GA 63 [⟨.i64,Fg⟩,⟨.rf JI,(S5 kd P C V sd vl AF AE cr e)⟩])] (.one (.bool q))) (hb:b=(decide ((cr.length:Int)=2*AE+(AF.length:Nat))&& !q)):Bp Tryz.prog 25 [Bf,AH Fg] (.var 0 (BN kd P C V sd vl AF AE cr e)) (.one (.bool b)) (.var 0 (BN kd P C V sd vl AF AE cr e)):=by
 refine CM Tryz.func25 (by kernel_rfl) rfl fun E H=>?_
 conv=>cbv
 rintro S ⟨O,f9⟩;conv=>cbv
 intro J F;conv=>cbv
 refine D6 ?_;rintro K ⟨D,f19⟩;conv=>cbv
 intro L G;conv=>cbv
 refine D6 ?_;intro B f;conv=>cbv
 refine B8 ?_;cases B <;> conv=>cbv
 ·have o:=Ib f;refine .inr (.inr (.inr (.inr (.inr (.inl ⟨[0],[.one (.sl .i64 C),.one (.GA 63 [⟨.i64,Fg⟩,⟨(.rf JI),(S5 kd P C V sd vl AF AE cr e)⟩])],.one (.bool q),fun _=>⟨rfl,⟨[⟨.i64,Fg⟩,⟨(.rf JI),(S5 kd P C V sd vl AF AE cr e)⟩],⟨rfl,⟨0,0,AS,rfl,rfl⟩,trivial⟩,rfl⟩,trivial⟩,fun _=>Im H (Qc rfl (I AA)),?_⟩)))));try conv=>cbv
  intro N h;conv=>cbv
  refine fun _=>⟨⟨⟨⟨rfl,congrArg _ (by rw[hb,decide_eq_true AA,h];rfl),trivial⟩,trivial⟩,rfl,AS⟩,rfl⟩
 have o:=Ic f;refine fun _=>⟨⟨⟨⟨rfl,congrArg _ (by rw[hb,decide_eq_false AA];rfl),trivial⟩,trivial⟩,rfl,AS⟩,rfl⟩
end Go.Abs
namespace Go.Abs
variable {Aa Ab Ac Ad Al Am An Ax Ay vl:LR} {C P AF:List Int} {Ta Tb Tc Td Tl Tm Tn Tx Ty:List LR} {V:List Ex} {cr:List (el Ae)} {f1 kd AE sd:Int}
def Pu {e:Int} {e1:Int} (he:e1=if e=0 then f1 else e):Bp Tryz.prog 133 [Bf,.agg [.int .i64 0,.nil,.nil,.nil,.nil,.nil,.nil,.nil,.nil,.nil,.nil,.nil,.nil,.nil,.nil,.nil,.nil,.nil,.nil,.nil,.nil],AH f1] (.var 0 (BN kd P C V sd vl AF AE cr e)) (.agg (Ct 0 Da Da)) (.var 0 (BN kd P C V sd vl AF AE cr e1)):=by
 refine CM Tryz.func133 (by kernel_rfl) rfl fun E B=>?_
 refine Af ?_;intro o h;refine .inr ?_;cases o <;> conv=>cbv
 ·have f:=CI h;refine fun _=>⟨⟨⟨⟨rfl,rfl,CG,CG,CG,CG,CG,CG,CG,CG,CG,CG,CG,CG,CG,CG,CG,CG,CG,CG,CG,CG,trivial⟩,trivial⟩,rfl,AS⟩,by rw[he,if_neg f];rfl⟩
 have f:=CL h;refine fun _=>⟨⟨⟨⟨rfl,rfl,CG,CG,CG,CG,CG,CG,CG,CG,CG,CG,CG,CG,CG,CG,CG,CG,CG,CG,CG,CG,trivial⟩,trivial⟩,rfl,AS⟩,by rw[he,if_pos f];rfl⟩
def Mi (h:CF 144 [.agg (Ag Ta Aa Tb Ab),.agg (Ag Tc Ac Td Ad)] (BK (DL Tl Al Tm Am Tn An) f1)):Bp Tryz.prog 79 [Bf,.agg (Ag Ta Aa Tb Ab),.agg (Ag Tc Ac Td Ad)] (.var 0 (BN kd P C V sd vl AF AE cr 0)) (.agg [.int .i64 1,Ao Tl,AT Al,Ao Tm,AT Am,Ao Tn,AT An,Ao Tc,AT Ac,Ao Td,AT Ad,BB,BC,BB,BC,BB,BC,BB,BC,BB,BC]) (.var 0 (BN kd P C V sd vl AF AE cr f1)):=by
 refine CM Tryz.func79 (by kernel_rfl) rfl fun E f=>?_
 conv=>cbv
 refine BG ?_;refine AB f h ?_;refine BR rfl (BJ f (Pt (e:=0) (e1:=f1) (f1:=f1) (by simp))) AK ?_
 refine AK
def vX (h:CF 132 [.agg (Ag Ta Aa Tb Ab),.agg (Ag Tc Ac Td Ad)] (.one (.bool true))):Bp Tryz.prog 72 [Bf,.agg (Ag Ta Aa Tb Ab),.agg (Ag Tc Ac Td Ad)] (.var 0 (BN kd P C V sd vl AF AE cr 0)) (.agg (Ct 0 Da Da)) (.var 0 (BN kd P C V sd vl AF AE cr 11)):=by
 refine CM Tryz.func72 (by kernel_rfl) rfl fun E f=>?_
 conv=>cbv
 refine AB f h ?_;refine Dh 0 rfl (BJ f (Pu (e:=0) (e1:=11) (by simp))) ⟨⟨⟨rfl,rfl⟩,rfl⟩,⟨rfl,.inl rfl,.inl rfl,.inl rfl,.inl rfl,.inl rfl,.inl rfl,.inl rfl,.inl rfl,.inl rfl,.inl rfl,.inl rfl,.inl rfl,.inl rfl,.inl rfl,.inl rfl,.inl rfl,.inl rfl,.inl rfl,.inl rfl,.inl rfl,trivial⟩,rfl,trivial⟩ ?_;try conv=>cbv
 refine AK
def vW (B:CF 132 [.agg (Ag Ta Aa Tb Ab),.agg (Ag Tc Ac Td Ad)] (.one (.bool false))) (o:CF 142 [.agg (Ag Tc Ac Td Ad),.agg (Ag Ta Aa Tb Ab)] (BK (Ag Tx Ax Ty Ay) 0)) (h:CF 144 [.agg (Ag Ta Aa Tb Ab),.agg (Ag Tx Ax Ty Ay)] (BK (DL Tl Al Tm Am Tn An) 0)):Bp Tryz.prog 72 [Bf,.agg (Ag Ta Aa Tb Ab),.agg (Ag Tc Ac Td Ad)] (.var 0 (BN kd P C V sd vl AF AE cr 0)) (.agg [.int .i64 1,Ao Tl,AT Al,Ao Tm,AT Am,Ao Tn,AT An,Ao Tx,AT Ax,Ao Ty,AT Ay,BB,BC,BB,BC,BB,BC,BB,BC,BB,BC]) (.var 0 (BN kd P C V sd vl AF AE cr 0)):=by
 refine CM Tryz.func72 (by kernel_rfl) rfl fun E f=>?_
 conv=>cbv
 refine AB f B ?_;refine BR rfl (BJ f (Ih (e:=0) (e1:=0) (by simp) o)) AK ?_
 refine BR rfl (BJ f (Mi h)) AK ?_
 refine AK
def S4:Bp Tryz.prog 66 [Bf,.agg (Ag Ta Aa Tb Ab),AH f1] (.var 0 (BN kd P C V sd vl AF AE cr 0)) (.agg [.int .i64 3,BB,BC,BB,BC,BB,BC,BB,BC,BB,BC,BB,BC,BB,BC,BB,BC,Ao Ta,AT Aa,Ao Tb,AT Ab]) (.var 0 (BN kd P C V sd vl AF AE cr f1)):=by
 refine CM Tryz.func66 (by kernel_rfl) rfl fun E f=>?_
 conv=>cbv
 refine BR rfl (BJ f (Mj (e:=0) (e1:=f1) (f1:=f1) (by simp))) AK ?_
 refine AK
def gk {Tt:List LR} {At:LR} (h:CF 135 [.agg (Ag Ta Aa Tb Ab),.agg (Ag Tc Ac Td Ad),.agg (AY Tt At),AH sd] (BK (DL Tl Al Tm Am Tn An) f1)) (o:CF 142 [.agg (Ag Tc Ac Td Ad),.agg (Ag Ta Aa Tb Ab)] (BK (Ag Tx Ax Ty Ay) 0)):Bp Tryz.prog 73 [Bf,.agg (Ag Ta Aa Tb Ab),.agg (Ag Tc Ac Td Ad),.agg (AY Tt At)] (.var 0 (BN kd P C V sd vl AF AE cr 0)) (.agg [.int .i64 1,Ao Tl,AT Al,Ao Tm,AT Am,Ao Tn,AT An,Ao Tx,AT Ax,Ao Ty,AT Ay,BB,BC,BB,BC,BB,BC,BB,BC,BB,BC]) (.var 0 (BN kd P C V sd vl AF AE cr f1)):=by
 refine CM Tryz.func73 (by kernel_rfl) rfl fun E f=>?_
 conv=>cbv
 refine AB f h ?_;refine BR rfl (BJ f (Pt (e:=0) (e1:=f1) (f1:=f1) (by simp))) AK ?_
 refine BR rfl (BJ f (Ih (e:=f1) (e1:=f1) (by split <;> omega) o)) AK ?_
 refine AK
def wV {Tp Tq:List LR} {Ap Aq:LR} (o:CF 142 [.agg (Ag Ta Aa Tb Ab),.agg (Ag Tc Ac Td Ad)] (BK (Ag Tx Ax Ty Ay) 0)) (h:CF 136 [.agg (Ag Ta Aa Tb Ab),.agg (Ag Tx Ax Ty Ay)] (BK (Ag Tp Ap Tq Aq) f1)):Bp Tryz.prog 75 [Bf,.agg (Ag Ta Aa Tb Ab),.agg (Ag Tc Ac Td Ad)] (.var 0 (BN kd P C V sd vl AF AE cr 0)) (BK (Ag Tp Ap Tq Aq) f1) (.var 0 (BN kd P C V sd vl AF AE cr 0)):=by
 refine CM Tryz.func75 (by kernel_rfl) rfl fun E f=>?_
 conv=>cbv
 refine BR rfl (BJ f (Ih (e:=0) (e1:=0) (by simp) o)) AK ?_
 refine AB f h ?_;refine AK
end Go.Abs
namespace Go.Abs
section
variable {P:AG->Prop} {R0:Nat}
def sb {α:Type} {Q:α->Prop} {f:α->Nat} {m:Nat} (hm:∀a,Q a->f a<=m) {a:α} (ha:Q a):∃b,Q b/\∀c,Q c->f c<=f b:=by
 induction h:m-f a using Nat.strongRecOn generalizing a with
 | _ n F=>
  by_cases B:∀c,Q c->f c<=f a
  ·exact⟨a,ha,B⟩
  obtain⟨c,D⟩:=Classical.not_forall.1 B;obtain⟨o,h3⟩:=Classical.not_imp.1 D;have:=hm c o;exact F (m-f c) AA o rfl
def Tf.top (I:C8 P R0) {m:Nat} (hm:∀{u},Tf P u->u.length<=m):∃w,Tf P w/\∀{u},Tf P u->Br u w:=by
 obtain⟨w,hw,N⟩:=sb (Q:=Tf P) (f:=List.length) (fun u h=>hm h) Tf.nil;have G:=hw.red I
 have key:∀{u},P u->Br u w:=by
  intro u
  induction u with
  | nil=>exact fun _=>NK w
  | cons r u F=>
   intro o;have B:=F (I.sub o);have K:=I.red o;refine K4 G B ?_
   have D:Sq w (AU u r):=by
    apply Classical.byContradiction;intro L;have:=N _ (Tf.Bb hw o B);rw[Ei L,List.length_cons] at this;omega
   exact (N3 (by have:=K.2.2.1;grind)).1 D
 refine⟨w,hw,fun {u} h=>?_⟩
 induction h with
 | nil=>exact NK w
 | @Bb u H J ht o B F=>
  by_cases D:Sq u (AU J H)
  ·rw[FF D];exact F
  rw[Ei D];refine K4 G F ?_;rw[Mg (B _ (Ci (I.red o)))];exact key o _ (KM J H)
end
def El.down {u:AG} {s:Nat} {x:Re} (B:In u x):∀{v:AG},BE (v++u)->El (v++u) s x->El u s x
 | [],_,h=>h
 | r::v,o,h=>by
  have f:In (v++u) x:=O5 v x B;refine El.down B (v:=v) o.1 ⟨f,?_⟩;obtain⟨D,d0,d1,d2,d3⟩:=h.bd;have e:co (r::(v++u)) x=co (v++u) x++co (v++u) 0:=Dy o f (C0 _) (by grind);rw[List.cons_append,e] at d2 d3;exact⟨D,d0,d1,(DN.app.1 d2).1,(MX.app.1 d3).1⟩
structure Fm (TT:AG->Prop) (w:AG) (R b c M q p:Nat):Prop where
 Vo:∀{S},R<=S->S<=M*b->EA TT R (c*b) S
 top:TT w
 all:∀{u},TT u->Br u w
 hR:R<=c*b
 hb:64<=b
 dz:∀{x y s t},El w s x->El w t y->El w (s+t+b) (x*y)
 rU:∀{x y s},El w s x->In w y->x*y=1->El w (q*s+p*b) y
 iu:∀{u},TT u->II u.length R (M*b)<=60000000000000
def Nm (TT:AG->Prop) (w:AG) (b k:Nat) (T:List (List (el AJ))) (A:List (el AJ)) (x:Re):Prop:=∃u,TT u/\T=tw u/\A=em u x/\In u x/\El w (k*b) x
section
variable {TT:AG->Prop} {w:AG} {R b c M q p k l:Nat} {T T1 T2:List (List (el AJ))} {A A1 A2:List (el AJ)} {x y:Re}
def Fm.g (F:Fm TT w R b c M q p) (h:k<=M) (f:c<=k):EA TT R (c*b) (k*b):=F.Vo (Nat.le_trans F.hR (Nat.mul_le_mul_right b f)) (Nat.mul_le_mul_right b h)
def Fm.own (F:Fm TT w R b c M q p) (K:c<=M) (h:Nm TT w b k T A x):∃u,TT u/\T=tw u/\A=em u x/\In u x/\El w (k*b) x/\El u ((k+c)*b) x:=by
 obtain⟨u,hu,L,J,H,he⟩:=h;refine⟨u,hu,L,J,H,he,?_⟩;have G:=(F.g K (Nat.le_refl c)).toGam;obtain⟨B,N,h3⟩:=G.Bz hu F.top;have f:=G.Cr F.top B h3 he;rw[<-Nat.add_mul] at f;rw[rV] at B f;have o:=(G.BW B).red;unfold F7 at f o
 split at f
 ·exact f
 rename_i I
 rw[if_neg I] at o
 split at f
 ·rename_i D
  obtain⟨v,rfl⟩:=D;exact El.down H (G.BW F.top).red f
 rename_i D
 rw[if_neg D] at o;obtain⟨v,e⟩:=Rr u w;rw[<-e] at f o;exact El.down H o f
def Nm.mono (h:Nm TT w b k T A x) (F:k<=l):Nm TT w b l T A x:=by
 obtain⟨u,f,o,h3,B,D⟩:=h;exact⟨u,f,o,h3,B,D.mono (Nat.mul_le_mul_right b F)⟩
def Nm.cast (h:Nm TT w b k T A x) (e:x=y):Nm TT w b k T A y:=e ▸ h
def Fm.two (F:Fm TT w R b c M q p) (ha:Nm TT w b k T1 A1 x) (hb:Nm TT w b l T2 A2 y) (S:k+c+1<=M) (U:l+c+1<=M):∃u v j,j<=M/\(j=k+c+1\/j=l+c+1)/\TT u/\TT v/\T1=tw u/\T2=tw v/\A1=em u x/\A2=em v y/\In u x/\In v y/\El w (k*b) x/\El w (l*b) y/\El u (j*b) x/\El v (j*b) y/\EA TT R (c*b) (j*b)/\TT (Bz u v)/\Br u (Bz u v)/\Br v (Bz u v):=by
 obtain⟨u,hu,B,f,W,I,H⟩:=F.own AA ha;obtain⟨v,N,D,o,Y,K,J⟩:=F.own AA hb
 have key:∀j,j<=M->(j=k+c+1\/j=l+c+1)->k+c+1<=j->l+c+1<=j->∃u v j,j<=M/\(j=k+c+1\/j=l+c+1)/\TT u/\TT v/\T1=tw u/\T2=tw v/\A1=em u x/\A2=em v y/\In u x/\In v y/\El w (k*b) x/\El w (l*b) y/\El u (j*b) x/\El v (j*b) y/\EA TT R (c*b) (j*b)/\TT (Bz u v)/\Br u (Bz u v)/\Br v (Bz u v):=by
  intro j L Q h3 Z;have G:=F.g L AA;obtain⟨g1,g2,O⟩:=G.toGam.Bz hu N;exact⟨u,v,j,L,Q,hu,N,B,D,f,o,W,Y,I,K,H.mono (Nat.mul_le_mul_right b AA),J.mono (Nat.mul_le_mul_right b AA),G,g1,g2,O⟩
 by_cases h:k<=l
 ·exact key (l+c+1) U (.inr rfl) AA Bg
 exact key (k+c+1) S (.inl rfl) Bg AA
end
end Go.Abs
namespace Go.Abs
section
variable {TT:AG->Prop} {w:AG} {R b c M q p k l:Nat} {T1 T2:List LR} {A1 A2:LR} {x y:Re}
def Nm.data {A3:LR} (h:Nm TT w b k T1 A1 x) (B:Nm TT w b l T1 A3 y) (e:x=y):A1=A3:=by
 obtain⟨u,_,F,D,_⟩:=h;obtain⟨v,_,o,f,_⟩:=B;rw[D,f,e,OB (F.symm.trans o)]
def JC (F:Fm TT w R b c M q p) (ha:Nm TT w b k T1 A1 x) (hb:Nm TT w b l T2 A2 y) (N:k+c+1<=M:=by omega) (O:l+c+1<=M:=by omega):∃T A,Nm TT w b (k+l+1) T A (x+y)/\CF 125 [.agg (AY T1 A1),.agg (AY T2 A2)] (BK (AY T A) 0)/\CF 32 [.agg (AY T1 A1),.agg (AY T2 A2)] (BK (AY T A) 0):=by
 obtain⟨u,v,j,U,_,hu,K,o,B,f,h,Q,S,I,J,D,H,G,g1,g2,L⟩:=F.two ha hb N O;refine⟨_,_,⟨Bz u v,g1,rfl,rfl,EP (g2 _ Q) (L _ S),(I.add (G.BW F.top).red J).mono ?_⟩,lD G.toGam hu K o B f h D H rfl rfl,US G hu K o B f h D H rfl rfl⟩;have:=F.hb;rw[Nat.add_mul,Nat.add_mul];omega
def MR (F:Fm TT w R b c M q p) (ha:Nm TT w b k T1 A1 x) (hb:Nm TT w b l T2 A2 y) (N:k+c+1<=M:=by omega) (O:l+c+1<=M:=by omega):∃T A,Nm TT w b (k+l+1) T A (x-y)/\CF 126 [.agg (AY T1 A1),.agg (AY T2 A2)] (BK (AY T A) 0)/\CF 41 [.agg (AY T1 A1),.agg (AY T2 A2)] (BK (AY T A) 0):=by
 obtain⟨u,v,j,U,_,hu,K,o,B,f,h,Q,S,I,J,D,H,G,g1,g2,L⟩:=F.two ha hb N O;refine⟨_,_,⟨Bz u v,g1,rfl,rfl,Ga (g2 _ Q) (L _ S),(I.sub (G.BW F.top).red J).mono ?_⟩,lH G.toGam hu K o B f h D H rfl rfl,UW G hu K o B f h D H rfl rfl⟩;have:=F.hb;rw[Nat.add_mul,Nat.add_mul];omega
def Gv (F:Fm TT w R b c M q p) (ha:Nm TT w b k T1 A1 x) (hb:Nm TT w b l T2 A2 y) (N:k+c+1<=M:=by omega) (O:l+c+1<=M:=by omega):∃T A,Nm TT w b (k+l+1) T A (x*y)/\CF 131 [.agg (AY T1 A1),.agg (AY T2 A2)] (BK (AY T A) 0)/\CF 42 [.agg (AY T1 A1),.agg (AY T2 A2)] (BK (AY T A) 0):=by
 obtain⟨u,v,j,U,_,hu,K,o,B,f,h,Q,S,I,J,D,H,G,g1,g2,L⟩:=F.two ha hb N O;refine⟨_,_,⟨Bz u v,g1,rfl,rfl,BL (G.BW g1).red (g2 _ Q) (L _ S),(F.dz I J).mono ?_⟩,UL G.toGam hu K o B f h D H rfl rfl,UT G hu K o B f h D H rfl rfl⟩;have:=F.hb;rw[Nat.add_mul,Nat.add_mul];omega
def JD (F:Fm TT w R b c M q p) (ha:Nm TT w b k T1 A1 x) (H:k+c+1<=M:=by omega):∃A,Nm TT w b k T1 A (-x)/\CF 84 [.agg (AY T1 A1)] (.agg (AY T1 A))/\CF 17 [.agg (AY T1 A1)] (.agg (AY T1 A)):=by
 obtain⟨u,hu,h,o,I,D,B⟩:=F.own AA ha;have G:=F.g H AA;have f:=B.mono (Nat.mul_le_mul_right b (Nat.le_succ (k+c)));exact⟨_,⟨u,hu,h,rfl,Hi I,D.neg (G.BW F.top).red⟩,UM G.toGam hu h o f rfl,QU G hu h o f rfl⟩
def Gw (F:Fm TT w R b c M q p) (ha:Nm TT w b k T1 A1 x) (D:k+c+1<=M:=by omega):∃s:Int,s=Bv x/\CF 64 [.agg (AY T1 A1)] (AH s)/\CF 16 [.agg (AY T1 A1)] (AH s):=by
 obtain⟨u,hu,o,h,I,H,B⟩:=F.own AA ha;have G:=F.g D AA;have f:=B.mono (Nat.mul_le_mul_right b (Nat.le_succ (k+c)));exact⟨_,rfl,YU G.toGam hu o h f rfl,Mx G hu o h f rfl⟩
def Fm.pair (F:Fm TT w R b c M q p) {j:Nat} (h:2*j+2*c+1<=M):EA TT R (c*b) ((2*j+2*c+1)*b)/\2*(j*b+c*b)+1<=(2*j+2*c+1)*b:=by
 refine⟨F.g h AA,?_⟩;have:=F.hb;rw[Nat.add_mul,Nat.add_mul,Nat.mul_assoc,Nat.mul_assoc];omega
def Sd (F:Fm TT w R b c M q p) (ha:Nm TT w b k T1 A1 x) (hb:Nm TT w b l T2 A2 y) (U:2*k+4*c+3<=M:=by omega) (W:2*l+4*c+3<=M:=by omega):∃e:Bool,(e=true↔x=y)/\CF 186 [.agg (AY T1 A1),.agg (AY T2 A2)] (.one (.bool e))/\CF 20 [.agg (AY T1 A1),.agg (AY T2 A2)] (.one (.bool e)):=by
 obtain⟨u,v,j,S,L,hu,I,o,B,f,h,Y,Z,N,O,D,H,G,g1,g2,Q⟩:=F.two ha hb AA AA;obtain⟨J,K⟩:=F.pair (j:=j) AA;obtain⟨e,he⟩:=Es (x=y);exact⟨e,he,lF G.toGam hu I o B f h D H he,Yq G hu I o B f h D H J K he⟩
def IB (F:Fm TT w R b c M q p) (ha:Nm TT w b k T1 A1 x) (hb:Nm TT w b l T2 A2 y) {d:Nat} (hd:q*l+p<=d) (O:y≠0) (hk:k+c+1<=M:=by omega) (hl:l+c+1<=M:=by omega) (hi:d+c+1<=M:=by omega):∃T A,Nm TT w b (k+d+1) T A (x*Bl y)/\CF 188 [.agg (AY T1 A1),.agg (AY T2 A2)] (BK (AY T A) 0)/\CF 31 [.agg (AY T1 A1),.agg (AY T2 A2)] (BK (AY T A) 0):=by
 obtain⟨u,hu,H,o,hx,W,U⟩:=F.own AA ha;obtain⟨v,h,I,B,hy,Z,Y⟩:=F.own AA hb;have G:=F.g (Nat.le_refl M) AA;obtain⟨g1,g2,g3⟩:=G.toGam.Bz hu h;have f:=R6 (G.BW h).red hy O
 have K:El w (d*b) (Bl y):=(F.rU Z (F.all h _ f) (HQ O)).mono (by
  have h2:=Nat.mul_le_mul_right b hd;rw[Nat.add_mul,Nat.mul_assoc] at h2;omega)
 obtain⟨v',a2,Q,a1,_,_,S⟩:=F.own AA (show Nm TT w b d (tw v) (em v (Bl y)) (Bl y) from⟨v,h,rfl,rfl,f,K⟩);have ev:v'=v:=(OB Q).symm;subst ev;have D:II v'.length R (M*b)<=60000000000000:=F.iu h;have L:=U.mono (Nat.mul_le_mul_right b (AA:k+c<=M));have N:=Y.mono (Nat.mul_le_mul_right b (AA:l+c<=M));have J:=S.mono (Nat.mul_le_mul_right b (AA:d+c<=M));refine⟨_,_,⟨Bz u v',g1,rfl,rfl,BL (G.BW g1).red (g2 _ hx) (g3 _ f),(F.dz W K).mono ?_⟩,lE G.toGam hu h H I o B L N f (HQ O) J D rfl rfl,Yp G hu h H I o B L N f (HQ O) J D rfl rfl⟩;rw[Nat.add_mul,Nat.add_mul,Nat.one_mul];omega
end
end Go.Abs
namespace Go.Abs
structure Vm (TT:AG->Prop) (w:AG) (b k k':Nat) (T1:List LR) (A1:LR) (T2:List LR) (A2:LR) (x y:Re):Prop where
 x:Nm TT w b k T1 A1 x
 y:Nm TT w b k' T2 A2 y
section
variable {TT:AG->Prop} {w:AG} {R b c M q p k k' l l':Nat} {T1 T2:List LR} {A1 A2:LR} {x y x' y':Re}
def Vm.mono (h:Vm TT w b k k' T1 A1 T2 A2 x y) (o:k<=l) (f:k'<=l'):Vm TT w b l l' T1 A1 T2 A2 x y:=⟨h.x.mono o,h.y.mono f⟩
def Vm.cast (h:Vm TT w b k k' T1 A1 T2 A2 x y) (e:x=x') (f:y=y'):Vm TT w b k k' T1 A1 T2 A2 x' y':=e ▸ f ▸ h
def JB (F:Fm TT w R b c M q p) (f:c<=M) {r:Rat} (h:Bd b [r]):Nm TT w b 1 [] (em [] (Re.ofRat r)) (Re.ofRat r):=by
 have G:=F.g f (Nat.le_refl c);exact⟨[],G.nil,rfl,rfl,G8 r [],by rw[Nat.one_mul];exact El.rat (G.BW F.top).red h⟩
def Gm {r:Rat} (h:C4 r) (hb:64<=b:=by omega):Bd b [r]:=(Oi (a:=[r]) (fun z f=>by rw[List.mem_singleton.1 f];exact h)).mono hb
end
def Qv {g:FuncId} {T1 T2 T3 T4 T5 T6:List LR} {A1 A2 A3 A4 A5 A6:LR} (h:CF g [.agg (AY T1 A1),.agg (AY T3 A3)] (BK (AY T5 A5) 0)) (o:CF g [.agg (AY T2 A2),.agg (AY T4 A4)] (BK (AY T6 A6) 0)):CF 190 [.agg (Ag T1 A1 T2 A2),.agg (Ag T3 A3 T4 A4),.one (.fn g)] (BK (Ag T5 A5 T6 A6) 0):=by
 refine AL Tryz.func190 fun E f=>?_
 refine AB f h ?_;refine BG ?_;refine AB f o ?_;refine BG ?_;exact AN AK
def P9 {TT:AG->Prop} {w:AG} {R b c M q p k k' l l':Nat} (F:Fm TT w R b c M q p) {T1 T2 T3 T4:List LR} {A1 A2 A3 A4:LR} {x1 y1 x2 y2:Re} (o:Vm TT w b k k' T1 A1 T2 A2 x1 y1) (B:Vm TT w b l l' T3 A3 T4 A4 x2 y2) (N:k+c+1<=M:=by omega) (K:k'+c+1<=M:=by omega) (O:l+c+1<=M:=by omega) (L:l'+c+1<=M:=by omega):∃T A h f,Vm TT w b (k+l+1) (k'+l'+1) T A h f (x1+x2) (y1+y2)/\CF 136 [.agg (Ag T1 A1 T2 A2),.agg (Ag T3 A3 T4 A4)] (BK (Ag T A h f) 0):=by
 obtain⟨T5,A5,H,D,_⟩:=JC F o.x B.x;obtain⟨T6,A6,I,G,_⟩:=JC F o.y B.y;refine⟨T5,A5,T6,A6,⟨H,I⟩,?_⟩;refine AL Tryz.func136 fun E J=>?_
 refine AB J (Qv D G) ?_;exact AN AK
def JL {TT:AG->Prop} {w:AG} {R b c M q p k k' l l':Nat} (F:Fm TT w R b c M q p) {T1 T2 T3 T4:List LR} {A1 A2 A3 A4:LR} {x1 y1 x2 y2:Re} (o:Vm TT w b k k' T1 A1 T2 A2 x1 y1) (B:Vm TT w b l l' T3 A3 T4 A4 x2 y2) (N:k+c+1<=M:=by omega) (K:k'+c+1<=M:=by omega) (O:l+c+1<=M:=by omega) (L:l'+c+1<=M:=by omega):∃T A h f,Vm TT w b (k+l+1) (k'+l'+1) T A h f (x1-x2) (y1-y2)/\CF 142 [.agg (Ag T1 A1 T2 A2),.agg (Ag T3 A3 T4 A4)] (BK (Ag T A h f) 0):=by
 obtain⟨T5,A5,H,D,_⟩:=MR F o.x B.x;obtain⟨T6,A6,I,G,_⟩:=MR F o.y B.y;refine⟨T5,A5,T6,A6,⟨H,I⟩,?_⟩;refine AL Tryz.func142 fun E J=>?_
 refine AB J (Qv D G) ?_;exact AN AK
def QA {TT:AG->Prop} {w:AG} {R b c M q p k k' j:Nat} (F:Fm TT w R b c M q p) {T1 T2 T3:List LR} {A1 A2 A3:LR} {x1 y1 n:Re} (B:Vm TT w b k k' T1 A1 T2 A2 x1 y1) (o:Nm TT w b j T3 A3 n) (L:k+c+1<=M:=by omega) (K:k'+c+1<=M:=by omega) (N:j+c+1<=M:=by omega):∃T A h f,Vm TT w b (k+j+1) (k'+j+1) T A h f (x1*n) (y1*n)/\CF 137 [.agg (Ag T1 A1 T2 A2),.agg (AY T3 A3)] (BK (Ag T A h f) 0):=by
 obtain⟨T5,A5,H,D,_⟩:=Gv F B.x o;obtain⟨T6,A6,I,G,_⟩:=Gv F B.y o;refine⟨T5,A5,T6,A6,⟨H,I⟩,?_⟩;refine AL Tryz.func137 fun E J=>?_
 refine AB J (Qv D G) ?_;exact AN AK
def yW {TT:AG->Prop} {w:AG} {R b c M q p k:Nat} (F:Fm TT w R b c M q p) {T1:List LR} {A1:LR} {n:Re} (B:Nm TT w b k T1 A1 n) (o:k+c+1<=M):CF 204 [.agg (AY T1 A1)] (.agg (AY T1 A1)):=by
 obtain⟨A4,G,D,_⟩:=JD F B o;obtain⟨A5,H,f,_⟩:=JD F G o;have e:A5=A1:=Nm.data H B (by grind);rw[e] at f;refine AL Tryz.func204 fun E h=>?_
 refine AB h D ?_;refine AB h f ?_;exact AN ⟨t3,trivial⟩
def TV {TT:AG->Prop} {w:AG} {R b c M q p k k':Nat} (F:Fm TT w R b c M q p) {T1 T2:List LR} {A1 A2:LR} {x1 y1:Re} (h:Vm TT w b k k' T1 A1 T2 A2 x1 y1) (G:k+c+1<=M:=by omega) (f:k'+c+1<=M:=by omega):∃A,Vm TT w b k' k T2 A T1 A1 (-y1) x1/\CF 149 [.agg (Ag T1 A1 T2 A2)] (.agg (Ag T2 A T1 A1)):=by
 obtain⟨A5,D,B,_⟩:=JD F h.y f;refine⟨A5,⟨D,h.x⟩,?_⟩;refine AL Tryz.func149 fun E o=>?_
 refine AB o B ?_;refine AB o (yW F h.x G) ?_;exact AN AK
def TU {TT:AG->Prop} {w:AG} {R b c M q p k k' l l':Nat} (F:Fm TT w R b c M q p) {T1 T2 T3 T4:List LR} {A1 A2 A3 A4:LR} {x1 y1 x2 y2:Re} (h:Vm TT w b k k' T1 A1 T2 A2 x1 y1) (o:Vm TT w b l l' T3 A3 T4 A4 x2 y2) (L:k+l+c+2<=M:=by omega) (K:k'+l'+c+2<=M:=by omega):∃T A,Nm TT w b (k+k'+l+l'+3) T A (x1*x2+y1*y2)/\CF 193 [.agg (Ag T1 A1 T2 A2),.agg (Ag T3 A3 T4 A4)] (BK (AY T A) 0):=by
 obtain⟨T5,A5,H,B,_⟩:=Gv F h.x o.x;obtain⟨T6,A6,I,D,_⟩:=Gv F h.y o.y;obtain⟨T7,A7,J,G,_⟩:=JC F H I;refine⟨T7,A7,J.mono AA,?_⟩;refine AL Tryz.func193 fun E f=>?_
 refine AB f (Qv B D) ?_;refine BG ?_;refine AB f G ?_;exact AN ⟨t3,t2,trivial⟩
def QB {TT:AG->Prop} {w:AG} {R b c M q p k k':Nat} (F:Fm TT w R b c M q p) {T1 T2:List LR} {A1 A2:LR} {x1 y1:Re} (f:Vm TT w b k k' T1 A1 T2 A2 x1 y1) (G:2*k+c+2<=M:=by omega) (D:2*k'+c+2<=M:=by omega):∃T A,Nm TT w b (2*k+2*k'+3) T A (x1*x1+y1*y1)/\CF 205 [.agg (Ag T1 A1 T2 A2)] (BK (AY T A) 0):=by
 obtain⟨T7,A7,o,h⟩:=TU F f f;refine⟨T7,A7,o.mono AA,?_⟩;refine AL Tryz.func205 fun E B=>?_
 refine AB B h ?_;exact AN ⟨t3,t2,trivial⟩
def IG {TT:AG->Prop} {w:AG} {R b c M q p k k' l l':Nat} (F:Fm TT w R b c M q p) {T1 T2 T3 T4:List LR} {A1 A2 A3 A4:LR} {x1 y1 x2 y2:Re} (G:Vm TT w b k k' T1 A1 T2 A2 x1 y1) (H:Vm TT w b l l' T3 A3 T4 A4 x2 y2) (O:2*k+4*c+3<=M) (L:2*k'+4*c+3<=M) (Q:2*l+4*c+3<=M) (N:2*l'+4*c+3<=M) {e:Bool} (he:e=true↔x1=x2/\y1=y2):CF 132 [.agg (Ag T1 A1 T2 A2),.agg (Ag T3 A3 T4 A4)] (.one (.bool e)):=by
 obtain⟨K,o,I,_⟩:=Sd F G.x H.x;obtain⟨J,f,B,_⟩:=Sd F G.y H.y;refine AL Tryz.func132 fun E D=>?_
 refine AB D I ?_;cases K <;> conv=>cbv
 ·exact AO (by cases e with | false=>rfl | true=>exact absurd (o.2 (he.1 rfl).1) AS)
 refine AB D B ?_;exact AO (by rw[Bool.eq_iff_iff,f,he];exact⟨fun h=>h.2,fun h=>⟨o.1 rfl,h⟩⟩)
def zV {TT:AG->Prop} {w:AG} {R b c M q p k k' l l':Nat} (F:Fm TT w R b c M q p) {T1 T2 T3 T4:List LR} {A1 A2 A3 A4:LR} {x1 y1 x2 y2:Re} (G:Vm TT w b k k' T1 A1 T2 A2 x1 y1) (H:Vm TT w b l l' T3 A3 T4 A4 x2 y2) (O:2*k+4*c+3<=M) (L:2*k'+4*c+3<=M) (Q:2*l+4*c+3<=M) (N:2*l'+4*c+3<=M) {e:Bool} (he:e=true↔x1=x2/\y1=y2):CF 21 [.agg (Ag T1 A1 T2 A2),.agg (Ag T3 A3 T4 A4)] (.one (.bool e)):=by
 obtain⟨K,o,_,I⟩:=Sd F G.x H.x;obtain⟨J,f,_,B⟩:=Sd F G.y H.y;refine AL Tryz.func21 fun E D=>?_
 refine AB D I ?_;cases K <;> conv=>cbv
 ·exact AO (by cases e with | false=>rfl | true=>exact absurd (o.2 (he.1 rfl).1) AS)
 refine AB D B ?_;exact AO (by rw[Bool.eq_iff_iff,f,he];exact⟨fun h=>h.2,fun h=>⟨o.1 rfl,h⟩⟩)
def X4 {TT:AG->Prop} {w:AG} {R b c M q p k k':Nat} (F:Fm TT w R b c M q p) {T1 T2:List LR} {A1 A2:LR} {x1 y1:Re} (I:Vm TT w b k k' T1 A1 T2 A2 x1 y1) (O:k+c+1<=M) (K:k'+c+1<=M) {e:Bool} (he:e=true↔x1=0/\y1=0):CF 151 [.agg (Ag T1 A1 T2 A2)] (.one (.bool e)):=by
 obtain⟨Q,o,J,_⟩:=Gw F I.x;obtain⟨N,f,B,_⟩:=Gw F I.y;refine AL Tryz.func151 fun E H=>?_
 refine AB H J ?_;refine Cw (fun G=>?_) fun G=>?_
 ·exact AO (by cases e with | false=>rfl | true=>exact absurd (by rw[o];exact G0.2 (he.1 rfl).1) G)
 refine AB H B ?_;intro L D;exact AO (by rw[Bool.eq_iff_iff,D,beq_iff_eq,f,G0,he];exact⟨fun h=>h.2,fun h=>⟨G0.1 (o.symm.trans G),h⟩⟩)
def kH:CF 86 [AH 0,AH 0] (AH 0):=by
 refine AL Tryz.func86 fun E f=>?_
 refine BG ?_;exact AN ⟨t2,trivial⟩
def kJ {T1 T2:List LR} {A1 A2:LR}:CF 90 [.agg (AY T1 A1),.agg (AY T2 A2),AH 0] (BK (Ag T1 A1 T2 A2) 0):=by
 refine AL Tryz.func90 fun E f=>?_
 refine BG ?_;exact AN AK
def kK {TT:AG->Prop} {w:AG} {R b c M q p k k' l l':Nat} (F:Fm TT w R b c M q p) {T1 T2 T3 T4:List LR} {A1 A2 A3 A4:LR} {x1 y1 x2 y2:Re} (B:Vm TT w b k k' T1 A1 T2 A2 x1 y1) (D:Vm TT w b l l' T3 A3 T4 A4 x2 y2) (N:k+c+1<=M:=by omega) (K:k'+c+1<=M:=by omega) (O:l+c+1<=M:=by omega) (L:l'+c+1<=M:=by omega):∃T A o h,Vm TT w b (k+l+1) (k'+l'+1) T A o h (x1+x2) (y1+y2)/\CF 34 [.agg (Ag T1 A1 T2 A2),.agg (Ag T3 A3 T4 A4)] (BK (Ag T A o h) 0):=by
 obtain⟨T5,A5,I,_,G⟩:=JC F B.x D.x;obtain⟨T6,A6,J,_,H⟩:=JC F B.y D.y;refine⟨T5,A5,T6,A6,⟨I,J⟩,?_⟩;refine AL Tryz.func34 fun E f=>?_
 refine AB f G ?_;refine AB f H ?_;refine AB f kH ?_;refine AB f kJ ?_;exact AN AK
def zb {TT:AG->Prop} {w:AG} {R b c M q p k k' j:Nat} (F:Fm TT w R b c M q p) {T1 T2 T3:List LR} {A1 A2 A3:LR} {x1 y1 n:Re} (D:Vm TT w b k k' T1 A1 T2 A2 x1 y1) (B:Nm TT w b j T3 A3 n) (L:k+c+1<=M:=by omega) (K:k'+c+1<=M:=by omega) (N:j+c+1<=M:=by omega):∃T A o h,Vm TT w b (k+j+1) (k'+j+1) T A o h (x1*n) (y1*n)/\CF 33 [.agg (Ag T1 A1 T2 A2),.agg (AY T3 A3)] (BK (Ag T A o h) 0):=by
 obtain⟨T5,A5,I,_,G⟩:=Gv F D.x B;obtain⟨T6,A6,J,_,H⟩:=Gv F D.y B;refine⟨T5,A5,T6,A6,⟨I,J⟩,?_⟩;refine AL Tryz.func33 fun E f=>?_
 refine AB f G ?_;refine AB f H ?_;refine AB f kH ?_;refine AB f kJ ?_;exact AN AK
def zZ {TT:AG->Prop} {w:AG} {R b c M q p k k':Nat} (F:Fm TT w R b c M q p) {T1 T2:List LR} {A1 A2:LR} {x1 y1:Re} (B:Vm TT w b k k' T1 A1 T2 A2 x1 y1) (J:k+c+1<=M:=by omega) (f:k'+c+1<=M:=by omega):∃A h,Vm TT w b k k' T1 A T2 h (-x1) (-y1)/\CF 85 [.agg (Ag T1 A1 T2 A2)] (.agg (Ag T1 A T2 h)):=by
 obtain⟨A5,H,_,D⟩:=JD F B.x J;obtain⟨A6,I,_,G⟩:=JD F B.y f;refine⟨A5,A6,⟨H,I⟩,?_⟩;refine AL Tryz.func85 fun E o=>?_
 refine AB o D ?_;refine AB o G ?_;exact AN AK
def To {TT:AG->Prop} {w:AG} {R b c M q p k k' l l':Nat} (F:Fm TT w R b c M q p) {T1 T2 T3 T4:List LR} {A1 A2 A3 A4:LR} {x1 y1 x2 y2:Re} (K:Vm TT w b k k' T1 A1 T2 A2 x1 y1) (L:Vm TT w b l l' T3 A3 T4 A4 x2 y2) (N:k+c+1<=M:=by omega) (I:k'+c+1<=M:=by omega) (O:l+c+1<=M:=by omega) (J:l'+c+1<=M:=by omega):∃T A h f,Vm TT w b (k+l+1) (k'+l'+1) T A h f (x1+ -x2) (y1+ -y2)/\CF 28 [.agg (Ag T1 A1 T2 A2),.agg (Ag T3 A3 T4 A4)] (BK (Ag T A h f) 0):=by
 obtain⟨A7,A8,H,D⟩:=zZ F L;obtain⟨T5,A5,T6,A6,G,B⟩:=kK F K H;refine⟨T5,A5,T6,A6,G,?_⟩;refine AL Tryz.func28 fun E o=>?_
 refine AB o D ?_;refine AB o B ?_;exact AN AK
def kM {TT:AG->Prop} {w:AG} {R b c M q p k k' l l':Nat} (F:Fm TT w R b c M q p) {T1 T2 T3 T4:List LR} {A1 A2 A3 A4:LR} {x1 y1 x2 y2:Re} (h:Vm TT w b k k' T1 A1 T2 A2 x1 y1) (o:Vm TT w b l l' T3 A3 T4 A4 x2 y2) (L:k+l+c+2<=M:=by omega) (K:k'+l'+c+2<=M:=by omega):∃T A,Nm TT w b (k+k'+l+l'+3) T A (x1*x2+y1*y2)/\CF 29 [.agg (Ag T1 A1 T2 A2),.agg (Ag T3 A3 T4 A4)] (BK (AY T A) 0):=by
 obtain⟨T5,A5,H,_,B⟩:=Gv F h.x o.x;obtain⟨T6,A6,I,_,D⟩:=Gv F h.y o.y;obtain⟨T7,A7,J,_,G⟩:=JC F H I;refine⟨T7,A7,J.mono AA,?_⟩;refine AL Tryz.func29 fun E f=>?_
 refine AB f B ?_;refine AB f D ?_;refine BG ?_;refine BG ?_;refine AB f G ?_;exact AN ⟨t3,t2,trivial⟩
def kR {TT:AG->Prop} {w:AG} {R b c M q p k k':Nat} (F:Fm TT w R b c M q p) {T1 T2:List LR} {A1 A2:LR} {x1 y1:Re} (f:Vm TT w b k k' T1 A1 T2 A2 x1 y1) (G:2*k+c+2<=M:=by omega) (D:2*k'+c+2<=M:=by omega):∃T A,Nm TT w b (2*k+2*k'+3) T A (x1*x1+y1*y1)/\CF 30 [.agg (Ag T1 A1 T2 A2)] (BK (AY T A) 0):=by
 obtain⟨T7,A7,o,h⟩:=kM F f f;refine⟨T7,A7,o.mono AA,?_⟩;refine AL Tryz.func30 fun E B=>?_
 refine AB B h ?_;exact AN ⟨t3,t2,trivial⟩
end Go.Abs
namespace Go.Abs
section
variable {α:Type} [Lean.Grind.CommRing α]
def Cp:Nat->(Nat->α)->α
 | 0,_=>0
 | n+1,f=>Cp n f+f n
def Il {f g:Nat->α}:∀{n:Nat},(∀i,i<n->f i=g i)->Cp n f=Cp n g
 | 0,_=>rfl
 | n+1,h=>by rw[Cp,Cp,Il (n:=n) (fun i o=>h i AA),h n AA]
def Xl (f:Nat->α) (m:Nat):∀n,Cp (m+n) f=Cp m f+Cp n (fun i=>f (m+i))
 | 0=>by rw[Cp,Nat.add_zero];grind
 | n+1=>by rw[<-Nat.add_assoc,Cp,Cp,Xl f m n];grind
def Xm (c:α) (f:Nat->α):∀n,c*Cp n f=Cp n (fun i=>c*f i)
 | 0=>by rw[Cp,Cp];grind
 | n+1=>by rw[Cp,Cp,<-Xm c f n];grind
def iw (f g:Nat->α):∀n,Cp n f+Cp n g=Cp n (fun i=>f i+g i)
 | 0=>by rw[Cp,Cp,Cp];grind
 | n+1=>by rw[Cp,Cp,Cp,<-iw f g n];grind
def Xn:∀n,Cp n (fun _=>(0:α))=0
 | 0=>rfl
 | n+1=>by rw[Cp,Xn n];grind
def iv (f:Nat->Nat->α) (m:Nat):∀n,Cp n (fun i=>Cp m (fun k=>f i k))=Cp m (fun k=>Cp n (fun i=>f i k))
 | 0=>by rw[Cp];exact (Xn m).symm
 | n+1=>by
  rw[Cp,iv f m n,iw];rfl
end
noncomputable def cf (u:AG) (x:Re) (i:Nat):Rat:=(co u x).getD i 0
section
variable {u w:AG} {x y:Re}
def aB (h:BE u) (f:In u x) (o:In u y) (i:Nat):cf u (x+y) i=cf u x i+cf u y i:=by
 unfold cf;rw[Ot h f o];have l1:=Dp f;have l2:=Dp o;simp only[List.getD_eq_getElem?_getD,List.getElem?_zipWith]
 by_cases B:i<2^u.length
 ·rw[List.getElem?_eq_getElem (by omega:i<(co u x).length),List.getElem?_eq_getElem (by omega:i<(co u y).length)];rfl
 rw[List.getElem?_eq_none (by omega:(co u x).length<=i),List.getElem?_eq_none (by omega:(co u y).length<=i)]
 show (0:Rat)=0+0
 grind
def aE (h:BE u) (f:In u x) (c:Rat) (i:Nat):cf u (Re.ofRat c*x) i=c*cf u x i:=by
 unfold cf;rw[VG h f];simp only[List.getD_eq_getElem?_getD,List.getElem?_map];cases (co u x)[i]? with
 | none=>show (0:Rat)=c*0;grind
 | some q=>rfl
def aF (h:BE u) (i:Nat):cf u 0 i=0:=by
 have:=aE h (C0 u) 0 i;rw[show Re.ofRat 0*0=(0:Re) by grind] at this;rw[this];grind
def H3 {r:List Rat} {p q:Re} (h:BE (r::u)) (f:In u p) (B:In u q) (e:x=p+q*rt u r) {i:Nat} (o:i<2^u.length):cf (r::u) x i=cf u p i:=by
 unfold cf;rw[Dy h f B e,List.getD_eq_getElem?_getD,List.getD_eq_getElem?_getD,List.getElem?_append_left (by rw[Dp f];exact o)]
def KD {r:List Rat} {p q:Re} (h:BE (r::u)) (f:In u p) (o:In u q) (e:x=p+q*rt u r) (i:Nat):cf (r::u) x (2^u.length+i)=cf u q i:=by
 unfold cf;rw[Dy h f o e,List.getD_eq_getElem?_getD,List.getD_eq_getElem?_getD,List.getElem?_append_right (by rw[Dp f];omega),Dp f,Nat.add_sub_cancel_left]
noncomputable def bb:AG->Nat->Re
 | [],_=>1
 | r::u,i=>if i<2^u.length then bb u i else bb u (i-2^u.length)*rt u r
def Zk {r:List Rat} {i:Nat} (f:i<2^u.length):bb (r::u) i=bb u i:=if_pos f
def Zj {r:List Rat} (i:Nat):bb (r::u) (2^u.length+i)=bb u i*rt u r:=by
 rw[bb,if_neg AA,Nat.add_sub_cancel_left]
def MI:∀{u:AG},BE u->∀i,In u (bb u i)
 | [],_,i=>MJ []
 | r::u,h,i=>by
  rw[bb]
  split
  ·exact Gb (MI h.1 i)
  exact BL h (Gb (MI h.1 _)) (KM u r)
def ch {f:Nat->Re} (hf:∀i,In u (f i)):∀n,In u (Cp n f)
 | 0=>C0 u
 | n+1=>EP (ch hf n) (hf n)
def expand:∀{u:AG} {x:Re},BE u->In u x->x=Cp (2^u.length) (fun i=>Re.ofRat (cf u x i)*bb u i)
 | [],x,h,F=>by
  obtain⟨q,rfl⟩:=DZ.1 F
  show _=Cp 1 _
  rw[Cp,Cp]
  show _=0+Re.ofRat (cf [] (Re.ofRat q) 0)*1
  rw[cf,D5]
  show _=0+Re.ofRat q*1
  grind
 | r::u,x,h,F=>by
  obtain⟨p,q,B,D,e⟩:=DK.1 F
  rw[Cc,Xl,Il (g:=fun i=>Re.ofRat (cf u p i)*bb u i) (fun i o=>by rw[H3 h B D e o,Zk o]),
   Il (f:=fun i=>Re.ofRat (cf (r::u) x (2^u.length+i))*bb (r::u) (2^u.length+i)) (g:=fun i=>rt u r*(Re.ofRat (cf u q i)*bb u i)) (fun i o=>by rw[KD h B D e,Zj];grind),<-Xm,<-expand h.1 B,<-expand h.1 D,e]
  grind
def U9 (h:BE w) (c:Nat->Rat) {f:Nat->Re} (hf:∀i,In w (f i)) (k:Nat):∀n,cf w (Cp n (fun i=>Re.ofRat (c i)*f i)) k=Cp n (fun i=>c i*cf w (f i) k)
 | 0=>aF h k
 | n+1=>by
  rw[Cp,Cp,aB h (ch (fun i=>PK (hf i) (c i)) n) (PK (hf n) (c n)),U9 h c hf k n,aE h (hf n)]
noncomputable def tr (u:AG) (x:Re):Rat:=Cp (2^u.length) (fun i=>cf u (x*bb u i) i)
def je (hu:BE u) (hw:BE w) (f:Br u w) (h:Br w u) (o:In u x):tr u x=tr w x:=by
 have e1:∀i,cf u (x*bb u i) i=Cp (2^w.length) (fun k=>cf w (x*bb u i) k*cf u (bb w k) i):=fun i=>by
  have D:=f _ (BL hu o (MI hu i))
  rw[show cf u (x*bb u i) i=cf u (Cp (2^w.length) (fun k=>Re.ofRat (cf w (x*bb u i) k)*bb w k)) i from congrArg (fun z=>cf u z i) (expand hw D),
   U9 hu _ (fun k=>h _ (MI hw k))]
 have e2:∀k,cf w (x*bb w k) k=Cp (2^u.length) (fun i=>cf u (bb w k) i*cf w (x*bb u i) k):=fun k=>by
  have F:=h _ (MI hw k)
  have B:x*bb w k=Cp (2^u.length) (fun i=>Re.ofRat (cf u (bb w k) i)*(x*bb u i)):=by
   rw[show x*bb w k=x*Cp (2^u.length) (fun i=>Re.ofRat (cf u (bb w k) i)*bb u i) from congrArg (x* ·) (expand hu F),Xm];exact Il fun i _=>by grind
  rw[B,U9 hw _ (fun i=>f _ (BL hu o (MI hu i)))]
 unfold tr;rw[Il (fun i _=>e1 i),iv,Il (g:=fun k=>Cp (2^u.length) (fun i=>cf w (x*bb u i) k*cf u (bb w k) i)) (fun k _=>rfl),Il (fun k _=>e2 k)];exact Il fun k _=>Il fun i _=>by grind
def P7:∀{u:AG} {x:Re},BE u->In u x->tr u x=((2^u.length:Nat):Rat)*cf u x 0
 | [],x,h,F=>by
  show Cp 1 _=_
  rw[Cp,Cp]
  show 0+cf [] (x*1) 0=((1:Nat):Rat)*cf [] x 0
  rw[show x*1=x by grind];grind
 | r::u,x,h,F=>by
  obtain⟨p,q,o,D,e⟩:=DK.1 F;have H:=De h;have G:=P7 h.1 o;have hb:=MI h.1;unfold tr at G ⊢
  rw[Cc,Xl,Il (g:=fun i=>cf u (p*bb u i) i) (fun i B=>by
    rw[Zk B];exact H3 h (BL h.1 o (hb i)) (BL h.1 D (hb i)) (by rw[e];grind) B),
   Il (f:=fun i=>cf (r::u) (x*bb (r::u) (2^u.length+i)) (2^u.length+i)) (g:=fun i=>cf u (p*bb u i) i) (fun i B=>by
    rw[Zj];exact KD h (BL h.1 (BL h.1 D (hb i)) (Ci h)) (BL h.1 o (hb i)) (by rw[e,<-H];grind) i),
   G,H3 h o D e (D7 _),Rat.natCast_add]
  grind
end
end Go.Abs
namespace Go.Abs
structure Ml (w:AG) (E:Nat):Prop where
 dn:∃K:Nat,0<K/\K<=2^E/\∀{x y:Re} {D D':Nat},In w x->In w y->DN D (co w x)->DN D' (co w y)->DN (D*D'*K) (co w (x*y))
 mx:∀{x y:Re} {B C:Nat},In w x->In w y->MX B (co w x)->MX C (co w y)->MX (B*C*2^E) (co w (x*y))
def Ml.of {w:AG} {R:Nat} (hw:BE w) (f:TB R w):Ml w (EE w.length R):=⟨MD hw f,Jl hw f⟩
section
variable {u:AG} {r:List Rat} {E R s t:Nat} {x y:Re}
def Ml.mono {f:Nat} (M:Ml u E) (h:E<=f):Ml u f:=by
 obtain⟨K,o,B,hm⟩:=M.dn;exact⟨⟨K,o,Nat.le_trans B (DF h),hm⟩,fun D F a b=>(M.mx D F a b).mono (Nat.mul_le_mul_left _ (DF h))⟩
def Ml.bd (M:Ml u E) (h:In u x) (o:In u y) (a:Bd s (co u x)) (b:Bd t (co u y)):Bd (s+t+E) (co u (x*y)):=by
 obtain⟨D,F,G,H,h3⟩:=a;obtain⟨B,k0,k1,k2,J⟩:=b;obtain⟨K,I,f,hm⟩:=M.dn;refine⟨D*B*K,Nat.mul_pos (Nat.mul_pos F k0) I,?_,hm h o H k2,?_⟩
 ·have:=Nat.mul_le_mul (Nat.mul_le_mul G k1) f;rwa [<-Nat.pow_add,<-Nat.pow_add] at this
 have:=M.mx h o h3 J;rwa [<-Nat.pow_add,<-Nat.pow_add] at this
def Ml.cons (h:BE (r::u)) (M:Ml u E) (Z:Bd R r):Ml (r::u) (2*E+R+2):=by
 obtain⟨K,hK,L,hm⟩:=M.dn;obtain⟨J,hE,U,Q,W⟩:=Z;refine⟨⟨K*K*J,Nat.mul_pos (Nat.mul_pos hK hK) hE,?_,fun {x y D D'} hx hy F G=>?_⟩,fun {x y B C} hx hy H I=>?_⟩
 ·have O:K*K*J<=2^E*2^E*2^R:=Nat.mul_le_mul (Nat.mul_le_mul L L) U;rw[<-Nat.pow_add,<-Nat.pow_add] at O;exact Nat.le_trans O (DF)
 ·obtain⟨a,b,ha,hb,rfl⟩:=DK.1 hx;obtain⟨c,d,o,f,rfl⟩:=DK.1 hy;rw[Dy h ha hb rfl,DN.app] at F;rw[Dy h o f rfl,DN.app] at G;rw[RB h ha hb o f rfl rfl,DN.app];have Y:DN J (co u (AU u r)):=by rw[F1 h];exact Q
  refine⟨DN.G4 h.1 (BL h.1 ha o) (BL h.1 (BL h.1 hb f) (Ci h)) ((hm ha o F.1 G.1).dvd ⟨K*J,by grind⟩) ((hm (BL h.1 hb f) (Ci h) (hm hb f F.2 G.2) Y).dvd ⟨1,by grind⟩),
   DN.G4 h.1 (BL h.1 ha f) (BL h.1 hb o) ((hm ha f F.1 G.2).dvd ⟨K*J,by grind⟩) ((hm hb o F.2 G.1).dvd ⟨K*J,by grind⟩)⟩
 have N:=fun {x y:Re} {B C:Nat}=>M.mx (x:=x) (y:=y) (B:=B) (C:=C)
 obtain⟨a,b,ha,hb,rfl⟩:=DK.1 hx;obtain⟨c,d,o,f,rfl⟩:=DK.1 hy;rw[Dy h ha hb rfl,MX.app] at H;rw[Dy h o f rfl,MX.app] at I;rw[RB h ha hb o f rfl rfl,MX.app];have Y:MX (2^R) (co u (AU u r)):=by rw[F1 h];exact W
 have e:2*E+R+2=E+E+R+2:=AA
 rw[e,Nat.pow_add,Nat.pow_add,Nat.pow_add];have O:=D7 E;have h2:=D7 R
 generalize 2^E=K at*
 generalize 2^R=S at*
 have k1:B*C*K<=B*C*(K*K*S):=Nat.mul_le_mul_left _ (by
  have:K*1<=K*(K*S):=Nat.mul_le_mul_left _ (Nat.mul_pos O h2);rw[Nat.mul_assoc];omega)
 have k2:B*C*K*S*K=B*C*(K*K*S):=by grind
 refine⟨(MX.G4 h.1 (BL h.1 ha o) (BL h.1 (BL h.1 hb f) (Ci h)) (N ha o H.1 I.1) (N (BL h.1 hb f) (Ci h) (N hb f H.2 I.2) Y)).mono ?_,
  (MX.G4 h.1 (BL h.1 ha f) (BL h.1 hb o) (N ha f H.1 I.2) (N hb o H.2 I.1)).mono ?_⟩
 ·rw[k2];grind
 grind
def Ml.inv {P:Nat->Nat} (h:BE (r::u)) (M:Ml u E) (Z:Bd R r) (hI:∀{x y:Re} {s:Nat},In u x->In u y->x*y=1->Bd s (co u x)->Bd (P s) (co u y)) (hx:In (r::u) x) (e:x*y=1) (hb:Bd s (co (r::u) x)):Bd (s+E+P (2*s+2*E+R+1)) (co (r::u) y):=by
 obtain⟨p,q,o,f,rfl⟩:=DK.1 hx;have hr:=De h;obtain⟨D,Q,S,h2,h3⟩:=hb;rw[Dy h o f rfl] at h2 h3;obtain⟨N,O⟩:=DN.app.1 h2;obtain⟨mp,mq⟩:=MX.app.1 h3;obtain⟨K,U,G,hm⟩:=M.dn;obtain⟨L,k0,k1,k2,k3⟩:=Z;have a1:DN L (co u (AU u r)):=by rw[F1 h];exact k2
 have Y:MX (2^R) (co u (AU u r)):=by rw[F1 h];exact k3
 have hN:Bd (2*s+2*E+R+1) (co u (p*p-q*q*AU u r)):=by
  refine⟨D*D*K*L*K,Nat.mul_pos (Nat.mul_pos (Nat.mul_pos (Nat.mul_pos Q Q) U) k0) U,?_,DN.Ke h.1 (BL h.1 o o) (BL h.1 (BL h.1 f f) (Ci h)) ((hm o o N N).dvd ⟨L*K,by grind⟩) (hm (BL h.1 f f) (Ci h) (hm f f O O) a1),
   (MX.Ke h.1 (BL h.1 o o) (BL h.1 (BL h.1 f f) (Ci h)) (M.mx o o mp mp) (M.mx (BL h.1 f f) (Ci h) (M.mx f f mq mq) Y)).mono ?_⟩
  ·have:=Nat.mul_le_mul (Nat.mul_le_mul (Nat.mul_le_mul (Nat.mul_le_mul S S) G) k1) G;rw[<-Nat.pow_add,<-Nat.pow_add,<-Nat.pow_add,<-Nat.pow_add] at this;exact Nat.le_trans this (DF)
  rw[<-Nat.pow_add,<-Nat.pow_add,<-Nat.pow_add,<-Nat.pow_add,Nat.pow_succ];have e1:2^(s+s+E)<=2^(2*s+2*E+R):=DF;have e2:2^(s+s+E+R+E)<=2^(2*s+2*E+R):=DF;omega
 have B:=Ga (BL h.1 o o) (BL h.1 (BL h.1 f f) (Ci h));have a6:(0:Re)<1:=Re.KR.2 (AD:(0:Rat)<1)
 have W:p*p-q*q*AU u r≠0:=by
  intro e0;have e1:(p+q*rt u r)*(p-q*rt u r)=0:=by grind
  rcases Re.F3 e1 with e2 | e2
  ·rw[e2] at e;grind
  obtain⟨e3,e4⟩:=indep h o (Hi f) (C0 u) (C0 u) (show p+ -q*rt u r=0+0*rt u r by grind);have:p+q*rt u r=0:=by grind
  rw[this] at e;grind
 obtain⟨i,F,H⟩:=FV h.1 B W;obtain⟨E',a2,a5,I,J⟩:=hI B F H hN
 have ey:y=p*i+ -(q*i)*rt u r:=by
  have:y=(p+q*rt u r)*y*((p-q*rt u r)*i):=by
   have:(p+q*rt u r)*y*((p-q*rt u r)*i)=y*((p*p-q*q*AU u r)*i):=by grind
   rw[this,H];grind
  rw[e] at this
  grind
 rw[ey,Dy h (BL h.1 o F) (Hi (BL h.1 f F)) rfl,M6 h.1 (BL h.1 f F)];have m1:=M.mx o F mp J;have m2:=M.mx f F mq J;rw[<-Nat.pow_add,<-Nat.pow_add] at m1 m2;refine⟨D*E'*K,Nat.mul_pos (Nat.mul_pos Q a2) U,?_,DN.app.2 ⟨hm o F N I,(hm f F O I).neg⟩,MX.app.2 ⟨m1.mono (DF),(m2.mono (DF)).neg⟩⟩;have:=Nat.mul_le_mul (Nat.mul_le_mul S a5) G;rw[<-Nat.pow_add,<-Nat.pow_add] at this;exact Nat.le_trans this (DF)
end
end Go.Abs
namespace Go.Abs
variable {E:Nat} {u w:AG} {x:Re}
def bI (hu:BE u) (hw:BE w) (h:Br u w):∀{v:AG},BE v->Br v w->Br (ext u v) w
 | [],_,_=>h
 | r::v,f,o=>by
  have D:=bI hu hw h f.1 o.tail;rw[ext]
  by_cases B:Sq (ext u v) (AU v r)
  ·rw[FF B];exact D
  rw[Ei B];refine K4 hw D ?_;rw[Mg ((KX hu f.1).2 _ (Ci f))];exact o.root
def aD:∀(v:AG) {u:AG} {x:Re},BE (v++u)->In u x->cf (v++u) x 0=cf u x 0
 | [],_,_,_,_=>rfl
 | r::v,u,x,h,f=>by
  rw[List.cons_append,H3 (u:=v++u) h (O5 v _ f) (C0 _) (by grind) (D7 _)];exact aD v h.1 f
def aC (h:BE u):cf u 1 0=1:=by
 rw[cf,show (1:Re)=Re.ofRat 1 from rfl,JY 1 h];rfl
def On (hu:BE u) (hw:BE w) (h:Br u w) (D:In u x):cf u x 0=cf w x 0:=by
 obtain⟨ht,B⟩:=KX hu hw;have f:=bI hu hw h hw (Br.refl w);have F:=Rr u w;have o:=O6 F;obtain⟨v,e⟩:=F;have k1:=je ht hw f B (MJ _);rw[P7 ht (MJ _),P7 hw (MJ _),aC ht,aC hw] at k1;have k2:=je ht hw f B (o _ D);rw[P7 ht (o _ D),P7 hw (h _ D)] at k2
 have H:((2^w.length:Nat):Rat)≠0:=fun e=>by
  have:=Rat.natCast_inj.1 (e.trans (show (0:Rat)=((0:Nat):Rat) from rfl));have:=D7 w.length;omega
 have G:cf (ext u w) x 0=cf w x 0:=by grind
 rw[<-G,<-e];exact (aD v (e ▸ ht) D).symm
def Rb (w:AG):AG->Nat->Prop
 | [],k=>k=0
 | r::u,k=>∃k1 k2,k=k1+k2/\Rb w u k1/\∃y,y*rt u r=1/\Bd k2 (co w y)
def fw (hw:BE w) (M:Ml w E):∀{u:AG} {k:Nat},BE u->Br u w->Rb w u k->∃Y:Nat->Re,(∀i,In u (Y i))/\(∀{x:Re},In u x->∀i,i<2^u.length->cf u x i=cf w (x*Y i) 0)/\
  ∃D:Nat,0<D/\D<=2^(k+u.length*E)/\∀i,i<2^u.length->DN D (co w (Y i))/\MX (2^(k+u.length*E)) (co w (Y i))
 | [],k,hu,o,J=>by
  have J:k=0:=J;subst J;refine⟨fun _=>1,fun _=>MJ _,fun {x} L i G=>?_,1,AD,AS,fun i _=>?_⟩
  ·have:i=0:=by have G:i<1:=G;omega
   subst this;rw[show x*1=x by grind];exact On hu hw o L
  have e:co w (1:Re)=1::List.replicate (2^w.length-1) 0:=JY 1 hw
  have hm:∀q∈co w (1:Re),q=1\/q=0:=fun q f=>by
   rw[e] at f;rcases List.mem_cons.1 f with h | h
   ·exact .inl h
   exact .inr (List.eq_of_mem_replicate h)
  refine⟨fun q f=>?_,fun q f=>?_⟩
  ·rcases hm q f with rfl | rfl
   ·exact⟨1,by decide +kernel⟩
   exact⟨0,by decide +kernel⟩
  rcases hm q f with rfl | rfl
  ·simp only[List.length_nil,Nat.zero_mul,Nat.add_zero,Nat.pow_zero];exact⟨by decide +kernel,by decide +kernel⟩
  simp only[List.length_nil,Nat.zero_mul,Nat.add_zero,Nat.pow_zero];exact⟨by decide +kernel,by decide +kernel⟩
 | r::u,k,hu,o,J=>by
  obtain⟨k1,k2,rfl,Q,y,hy,W,d1,d2,d3,d4⟩:=J;obtain⟨Y,y1,y2,D,e1,e2,Z⟩:=fw hw M hu.1 o.tail Q;obtain⟨K,K0,Kl,hK⟩:=M.dn;have hr:=De hu;have U:AU u r≠0:=by have:=hu.2.2.1;grind
  obtain⟨s,hs,S⟩:=FV hu.1 (Ci hu) U
  have ey:y=s*rt u r:=by
   have:y=y*(AU u r*s):=by rw[S];grind
   rw[this,<-hr];have:y*(rt u r*rt u r*s)=(y*rt u r)*(s*rt u r):=by grind
   rw[this,hy];grind
  have F:In (r::u) y:=by rw[ey];exact BL hu (Gb hs) (KM u r)
  have N:=o _ F;have hlen:k1+k2+(r::u).length*E=(k1+u.length*E)+k2+E:=by rw[List.length_cons,Nat.succ_mul];omega
  refine⟨fun i=>if i<2^u.length then Y i else Y (i-2^u.length)*y,fun i=>?_,fun {x} L i G=>?_,D*W*K,Nat.mul_pos (Nat.mul_pos e1 d1) K0,?_,fun i G=>?_⟩
  ·show In (r::u) (if _ then _ else _)
   split
   ·exact Gb (y1 i)
   exact BL hu (Gb (y1 _)) F
  ·obtain⟨p,q,H,f,e⟩:=DK.1 L
   show _=cf w (x*if _ then _ else _) 0
   split
   ·rename_i B
    rw[H3 hu H f e B,y2 H i B,<-On hu.1 hw o.tail (BL hu.1 H (y1 i)),<-On hu hw o (BL hu L (Gb (y1 i)))];exact (H3 hu (BL hu.1 H (y1 i)) (BL hu.1 f (y1 i)) (by rw[e];grind) (D7 _)).symm
   rename_i O
   rw[Cc] at G;obtain⟨j,rfl⟩:∃j,i=2^u.length+j:=⟨i-2^u.length,AA⟩
   rw[Nat.add_sub_cancel_left,KD hu H f e,y2 f j AA,<-On hu.1 hw o.tail (BL hu.1 f (y1 j)),<-On hu hw o (BL hu L (BL hu (Gb (y1 j)) F))];refine (H3 hu (BL hu.1 f (y1 j)) (BL hu.1 (BL hu.1 H (y1 j)) hs) ?_ (D7 _)).symm;have:x*(Y j*y)=p*Y j*y+q*Y j*(y*rt u r):=by rw[e];grind
   rw[this,hy,ey];grind
  ·rw[hlen];simp only[Nat.pow_add] at e2 ⊢;exact Nat.mul_le_mul (Nat.mul_le_mul e2 d2) Kl
  show DN _ (co w (if _ then _ else _))/\MX _ (co w (if _ then _ else _))
  split
  ·rename_i B
   obtain⟨f1,f2⟩:=Z i B;refine⟨(f1.mul_right (W*K)).dvd ⟨1,by grind⟩,f2.mono ?_⟩;rw[hlen];exact DF
  rename_i O
  rw[Cc] at G;obtain⟨f1,f2⟩:=Z (i-2^u.length) AA;have I:=o.tail _ (y1 (i-2^u.length));refine⟨hK I N f1 d3,?_⟩;have:=M.mx I N f2 d4;rw[hlen];simp only[Nat.pow_add] at this ⊢;exact this
def Zl {k s:Nat} (hw:BE w) (M:Ml w E) (hu:BE u) (o:Br u w) (W:Rb w u k) (H:In u x) (Z:Bd s (co w x)):Bd (s+k+(u.length+1)*E) (co u x):=by
 obtain⟨Y,y1,y2,D,e1,e2,I⟩:=fw hw M hu o W;obtain⟨K,N,O,U⟩:=M.dn;obtain⟨L,d1,d2,d3,d4⟩:=Z;have f:=o _ H;have J:s+k+(u.length+1)*E=s+(k+u.length*E)+E:=by rw[Nat.succ_mul];omega
 have key:∀q∈co u x,∃i,i<2^u.length/\q∈co w (x*Y i):=fun q G=>by
  obtain⟨i,h,rfl⟩:=List.mem_iff_getElem.1 G;have B:i<2^u.length:=by rw[<-Dp H];exact h
  refine⟨i,B,?_⟩;have Q:=y2 H i B;have hz:=BL hw f (o _ (y1 i));have F:0<(co w (x*Y i)).length:=by rw[Dp hz];exact D7 _
  have S:cf u x i=(co u x)[i]:=by rw[cf,List.getD_eq_getElem?_getD,List.getElem?_eq_getElem h];rfl
  have h3:cf w (x*Y i) 0=(co w (x*Y i))[0]:=by rw[cf,List.getD_eq_getElem?_getD,List.getElem?_eq_getElem F];rfl
  rw[<-S,Q,h3];exact List.getElem_mem F
 refine⟨L*D*K,Nat.mul_pos (Nat.mul_pos d1 e1) N,?_,fun q G=>?_,fun q G=>?_⟩
 ·rw[J];simp only[Nat.pow_add] at e2 ⊢;exact Nat.mul_le_mul (Nat.mul_le_mul d2 e2) O
 ·obtain⟨i,h,hm⟩:=key q G;exact U f (o _ (y1 i)) d3 (I i h).1 q hm
 obtain⟨i,h,hm⟩:=key q G;have:=M.mx f (o _ (y1 i)) d4 (I i h).2 q hm;rw[J];simp only[Nat.pow_add] at this ⊢;exact this
end Go.Abs
namespace Go.Abs
def Zn {w:AG} {E σ:Nat} (hw:BE w) (M:Ml w E):∀{u:AG},BE u->Br u w->(∀v∈BZ u,Bd σ (co w (Re.sqrt v)))->∃K:Nat,0<K/\K<=2^(u.length*(σ+E+1))/\
  ∀{x:Re} {D B:Nat},In u x->(DN D (co u x)->DN (D*K) (co w x))/\(MX B (co u x)->MX (B*2^(u.length*(σ+E+1))) (co w x))
 | [],_,_,_=>⟨1,AD,AS,fun {x D B} hx=>by
  obtain⟨q,rfl⟩:=DZ.1 hx;rw[D5,JY q hw,Nat.mul_one];refine⟨VN,fun h=>?_⟩;rw[(AS:B*2^(([]:AG).length*(σ+E+1))=B)];exact WU h⟩
 | r::u,h,L,J=>by
  obtain⟨K,hK,Z,hb⟩:=Zn hw M h.1 L.tail (fun v hv=>J v (List.mem_cons_of_mem _ hv));obtain⟨G,W,Y,hm⟩:=M.dn;obtain⟨F,hF,S,Q,U⟩:=J (AU u r) List.mem_cons_self;have o:In w (rt u r):=L.root;have e2:(r::u).length*(σ+E+1)=u.length*(σ+E+1)+(σ+E+1):=by rw[List.length_cons,Nat.succ_mul]
  refine⟨K*(F*G),Nat.mul_pos hK (Nat.mul_pos hF W),?_,fun {x D B} hx=>?_⟩
  ·have h1:=Nat.mul_le_mul Z (Nat.mul_le_mul S Y);simp only[<-Nat.pow_add] at h1;exact Nat.le_trans h1 (DF (by rw[e2];omega))
  obtain⟨p,q,N,O,rfl⟩:=DK.1 hx;rw[Dy h N O rfl,DN.app,MX.app];have I:=L.tail _ N;have f:=L.tail _ O;refine⟨fun H=>?_,fun H=>?_⟩
  ·have k1:=(hb (B:=0) N).1 H.1;have k2:=(hb (B:=0) O).1 H.2;have k3:=hm f o k2 Q;exact DN.G4 hw I (BL hw f o) (k1.dvd ⟨F*G,by grind⟩) (k3.dvd ⟨1,by grind⟩)
  have k1:=(hb (D:=0) N).2 H.1;have k2:=(hb (D:=0) O).2 H.2;have k3:=M.mx f o k2 U;refine (MX.G4 hw I (BL hw f o) k1 k3).mono ?_
  have e:B*2^(u.length*(σ+E+1))*2^σ*2^E=B*2^(u.length*(σ+E+1)+σ+E):=by
   rw[Nat.mul_assoc,Nat.mul_assoc,<-Nat.pow_add,<-Nat.pow_add];congr 2;omega
  rw[e,<-Nat.mul_add];refine Nat.mul_le_mul_left B ?_;have h3:2^(u.length*(σ+E+1))<=2^(u.length*(σ+E+1)+σ+E):=DF;rw[e2,(AA:u.length*(σ+E+1)+(σ+E+1)=u.length*(σ+E+1)+σ+E+1),Nat.pow_succ];omega
structure Wv (w:AG) (σ κ ν:Nat) (v:Re):Prop where
 root:In w (Re.sqrt v)
 rb:Bd σ (co w (Re.sqrt v))
 inv:∃y,y*Re.sqrt v=1/\Bd κ (co w y)
 vb:Bd ν (co w v)
def XU {w:AG} {σ κ ν:Nat}:∀{u:AG},(∀v∈BZ u,Wv w σ κ ν v)->Rb w u (u.length*κ)
 | [],_=>by show _=0;simp
 | r::u,h=>by
  obtain⟨y,o,hb⟩:=(h (AU u r) List.mem_cons_self).inv;exact⟨u.length*κ,κ,by rw[List.length_cons,Nat.succ_mul],XU (fun v f=>h v (List.mem_cons_of_mem _ f)),y,o,hb⟩
section
variable {w u:AG} {E σ κ ν m:Nat}
def O7 (hw:BE w):∀{u:AG},BE u->(∀v∈BZ u,In w (Re.sqrt v))->Br u w
 | [],_,_=>NK w
 | r::u,h,f=>K4 hw (O7 hw h.1 (fun v hm=>f v (List.mem_cons_of_mem _ hm))) (f (AU u r) List.mem_cons_self)
def Xu (hw:BE w) (M:Ml w E):∀{u:AG},BE u->u.length<=m+1->(∀v∈BZ u,Wv w σ κ ν v)->TB (ν+m*κ+(m+1)*E) u
 | [],_,_,_=>fun r G=>by simp at G
 | r::u,h,F,B=>fun s o=>by
  rw[List.length_cons] at F;have f:∀v∈BZ u,Wv w σ κ ν v:=fun v hm=>B v (List.mem_cons_of_mem _ hm)
  rcases List.mem_cons.1 o with rfl | o
  ·have D:=O7 hw h.1 (fun v hm=>(f v hm).root);have:=Zl hw M h.1 D (XU f) (Ci h) (B _ List.mem_cons_self).vb;rw[F1 h] at this;refine this.mono ?_;have H:=Nat.mul_le_mul_right κ (AA:u.length<=m);have I:=Nat.mul_le_mul_right E (AA:u.length+1<=m+1);omega
  exact Xu hw M h.1 AA f s o
def pZ {u v:AG} {s:Nat} {x:Re} (hw:BE w) (M:Ml w E) (hu:BE u) (H:BE v) (o:∀z∈BZ u,Wv w σ κ ν z) (F:∀z∈BZ v,Wv w σ κ ν z) (l1:u.length<=m) (l2:v.length<=m) (G:Br u v) (f:El u s x):El v (s+m*(σ+E+1)+m*κ+(m+1)*E) x:=by
 have e1:=O7 hw hu (fun z h=>(o z h).root);have e2:=O7 hw H (fun z h=>(F z h).root);obtain⟨K,k0,k1,k2⟩:=Zn hw M hu e1 (fun z h=>(o z h).rb);obtain⟨D,d0,d1,d2,d3⟩:=f.bd
 have hb:Bd (s+u.length*(σ+E+1)) (co w x):=by
  refine⟨D*K,Nat.mul_pos d0 k0,?_,(k2 (B:=0) f.mem).1 d2,?_⟩
  ·rw[Nat.pow_add];exact Nat.mul_le_mul d1 k1
  rw[Nat.pow_add];exact (k2 (D:=0) f.mem).2 d3
 refine⟨G _ f.mem,(Zl hw M H e2 (XU F) (G _ f.mem) hb).mono ?_⟩;have I:=Nat.mul_le_mul_right (σ+E+1) l1;have J:=Nat.mul_le_mul_right κ l2;have a3:=Nat.mul_le_mul_right E (AA:v.length+1<=m+1);omega
end
def Tf.all {P:AG->Prop} {R0:Nat} (I:C8 P R0) {B:Re->Prop} (G:∀{r u},P (r::u)->B (AU u r)) {u:AG} (h:Tf P u):∀v∈Go.Abs.BZ u,B v:=by
 induction h with
 | nil=>intro v f;simp[Go.Abs.BZ] at f
 | @Bb u J K ht o H F=>
  by_cases D:Sq u (AU K J)
  ·rw[FF D];exact F
  rw[Ei D];intro v f;rcases List.mem_cons.1 f with rfl | f
  ·rw[FR (H _ (Ci (I.red o)))];exact G o
  exact F v f
end Go.Abs
namespace Go.Abs
def GN:AG->Nat->Re->Prop
 | [],_,_=>False
 | r::t,i,v=>(i<2^t.length/\GN t i v)\/(2^t.length<=i/\(v=AU t r\/GN t (i-2^t.length) v))
variable {i:Nat} {r:List Rat} {t u:AG} {v x:Re}
def Vs:∀{t:AG} {i:Nat} {v:Re},GN t i v->v∈BZ t
 | r::t,i,v,h=>by
  rw[BZ];rcases h with⟨_,h⟩ |⟨_,h | h⟩
  ·exact List.mem_cons_of_mem _ (Vs h)
  ·exact h ▸ List.mem_cons_self
  exact List.mem_cons_of_mem _ (Vs h)
def Jf (f:i<2^t.length):GN (r::t) i v↔GN t i v:=
 ⟨fun h=>h.elim (·.2) fun h=>absurd h.1 AA,fun h=> .inl ⟨f,h⟩⟩
def Je:GN (r::t) (2^t.length+i) v↔v=AU t r\/GN t i v:=
 ⟨fun h=>h.elim (fun h=>absurd h.1 AA) fun h=>by have:=h.2;rwa [Nat.add_sub_cancel_left] at this,fun h=> .inr ⟨AA,by rwa [Nat.add_sub_cancel_left]⟩⟩
def ze (h:BE u) (B:In u x) (f:∀i,i<2^u.length->cf u x i=0):x=0:=by
 rw[expand h B,Il (g:=fun _=>(0:Re)) (fun i o=>by rw[f i o,show Re.ofRat 0=(0:Re) from rfl];grind)];exact Xn _
def WR:∀{t:AG} {v y:Re},BE t->v∈BZ t->In t y->(∀i,i<2^t.length->GN t i v->cf t y i=0)->
  ∀i,i<2^t.length->(GN t i v->∃j,j<2^t.length/\¬GN t j v/\cf t (y*Re.sqrt v) i=cf t y j/\∀K,K≠v->GN t i K->GN t j K)/\(¬GN t i v->cf t (y*Re.sqrt v) i=0)
 | r::t,v,y,h,hv,hy,U,i,hi=>by
  obtain⟨p,q,F,I,e⟩:=DK.1 hy;have S:=Js h;rw[BZ,List.nodup_cons] at S;rw[Cc] at U hi
  by_cases o:v=AU t r
  ·have Y:∀{j},¬GN t j v:=fun {j} B=>S.1 (o ▸ Vs B)
   have W:q=0:=ze h.1 I fun j B=>by
    rw[<-KD h F I e j];exact U _ AA (Je.2 (.inl o))
   have e2:y*Re.sqrt v=0+p*rt t r:=by
    show _=0+p*Re.sqrt (AU t r)
    rw[e,W,o];grind
   by_cases G:i<2^t.length
   ·exact⟨fun f=>absurd ((Jf G).1 f) Y,fun _=>by rw[H3 h (C0 t) F e2 G,aF h.1]⟩
   obtain⟨j,rfl⟩:∃j,i=2^t.length+j:=⟨i-2^t.length,AA⟩
   have B:j<2^t.length:=AA
   refine⟨fun _=>⟨j,by rw[Cc];omega,fun f=>Y ((Jf B).1 f),?_,fun K D f=>?_⟩,fun f=>absurd (Je.2 (.inl o)) f⟩
   ·rw[KD h (C0 t) F e2,H3 h F I e B]
   rcases Je.1 f with L | L
   ·exact absurd (L.trans o.symm) D
   exact (Jf B).2 L
  have Q:v∈BZ t:=(List.mem_cons.1 (by rwa [BZ] at hv)).resolve_left o;have Z:In t (Re.sqrt v):=OF Q;have e2:y*Re.sqrt v=p*Re.sqrt v+q*Re.sqrt v*rt t r:=by rw[e];grind
  have H:=BL h.1 F Z;have J:=BL h.1 I Z
  by_cases G:i<2^t.length
  ·obtain⟨k1,k2⟩:=WR h.1 Q F (fun j B f=>by rw[<-H3 h F I e B];exact U j AA ((Jf B).2 f)) i G;refine⟨fun f=>?_,fun f=>?_⟩
   ·obtain⟨j,B,a,b,c⟩:=k1 ((Jf G).1 f);exact⟨j,by rw[Cc];omega,fun f=>a ((Jf B).1 f),by rw[H3 h H J e2 G,b,H3 h F I e B],fun K D O=>(Jf B).2 (c K D ((Jf G).1 O))⟩
   rw[H3 h H J e2 G];exact k2 fun N=>f ((Jf G).2 N)
  obtain⟨i,rfl⟩:∃j,i=2^t.length+j:=⟨i-2^t.length,AA⟩
  obtain⟨k1,k2⟩:=WR h.1 Q I (fun j B f=>by rw[<-KD h F I e j];exact U _ AA (Je.2 (.inr f))) i AA;refine⟨fun f=>?_,fun f=>?_⟩
  ·obtain⟨j,B,a,b,c⟩:=k1 ((Je.1 f).resolve_left o);refine⟨2^t.length+j,by rw[Cc];omega,fun f=>(Je.1 f).elim o a,by rw[KD h H J e2,b,KD h F I e],fun K D O=>?_⟩;rcases Je.1 O with L | L
   ·exact Je.2 (.inl L)
   exact Je.2 (.inr (c K D L))
  rw[KD h H J e2];exact k2 fun N=>f (Je.2 (.inr N))
def VT (ht:BE t):∀{u:AG},(∀v∈BZ u,v∈BZ t)->Br u t
 | [],_=>NK t
 | r::u,h=>K4 ht (VT ht fun v f=>h v (by rw[BZ];exact List.mem_cons_of_mem _ f)) (OF (h _ (by rw[BZ];exact List.mem_cons_self)))
def VE (ht:BE t):∀{u:AG} {x:Re},BE u->(∀v∈BZ u,v∈BZ t)->In u x->∀i,i<2^t.length->(cf t x i=0\/cf t x i∈co u x)/\(cf t x i≠0->∀v,GN t i v->v∈BZ u)
 | [],x,_,_,Q,i,B=>by
  obtain⟨q,rfl⟩:=DZ.1 Q
  have e:cf t (Re.ofRat q) i=if i=0 then q else 0:=by
   rw[cf,JY q ht,List.getD_eq_getElem?_getD];cases i with
   | zero=>rfl
   | succ i=>
    rw[if_neg AA,List.getElem?_cons_succ,List.getElem?_replicate]
    split <;> rfl
  have Y:∀{t:AG} {v:Re},¬GN t 0 v:=fun {t v}=>by
   induction t with
   | nil=>exact id
   | cons r t ih=>exact fun h=>ih ((Jf (D7 _)).1 h)
  rw[e]
  split
  ·rename_i h;subst h
   exact⟨.inr (by rw[D5];exact List.mem_cons_self),fun _ v D=>absurd D Y⟩
  exact⟨.inl rfl,fun h=>absurd rfl h⟩
 | r::u,x,hu,hV,Q,i,B=>by
  obtain⟨p,q,O,J,e⟩:=DK.1 Q;have G:=Js hu;rw[BZ,List.nodup_cons] at G;rw[BZ] at hV ⊢;have o:∀v∈BZ u,v∈BZ t:=fun v D=>hV v (List.mem_cons_of_mem _ D)
  have K:=VT ht o;have I:=hV _ List.mem_cons_self;have L:=VE ht hu.1 o O;have N:=VE ht hu.1 o J
  have W:∀{y:Re},(∀i,i<2^t.length->(cf t y i=0\/cf t y i∈co u y)/\(cf t y i≠0->∀v,GN t i v->v∈BZ u))->∀i,i<2^t.length->GN t i (AU u r)->cf t y i=0:=fun hy i B F=>
   Classical.byContradiction fun f=>G.1 ((hy i B).2 f _ F)
  obtain⟨k1,k2⟩:=WR ht I (K _ J) (W N) i B;have Z:In t (rt u r):=OF I
  have S:cf t x i=cf t p i+cf t (q*Re.sqrt (AU u r)) i:=by
   rw[show x=p+q*Re.sqrt (AU u r) from e];exact aB ht (K _ O) (BL ht (K _ J) Z) i
  rw[Dy hu O J e]
  by_cases F:GN t i (AU u r)
  ·obtain⟨j,U,a,b,c⟩:=k1 F;rw[S,W L i B F,b,show (0:Rat)+cf t q j=cf t q j by grind];refine⟨(N j U).1.imp id fun h=>List.mem_append_right _ h,fun f v D=>?_⟩
   by_cases H:v=AU u r
   ·exact H ▸ List.mem_cons_self
   exact List.mem_cons_of_mem _ ((N j U).2 f v (c v H D))
  rw[S,k2 F,show cf t p i+(0:Rat)=cf t p i by grind];exact⟨(L i B).1.imp id fun h=>List.mem_append_left _ h,fun f v D=>List.mem_cons_of_mem _ ((L i B).2 f v D)⟩
def Un {k:Nat} (ht:BE t) (hu:BE u) (hV:∀v∈BZ u,v∈BZ t) (F:In u x) (h:Bd k (co u x)):Bd k (co t x):=by
 obtain⟨D,d1,d2,d3,d4⟩:=h;have o:=VT ht hV _ F
 have key:∀q∈co t x,q=0\/q∈co u x:=fun q f=>by
  obtain⟨i,B,rfl⟩:=List.mem_iff_getElem.1 f;have G:cf t x i=(co t x)[i]:=by rw[cf,List.getD_eq_getElem?_getD,List.getElem?_eq_getElem B];rfl
  rw[<-G];exact (VE ht hu hV F i (by rw[<-Dp o];exact B)).1
 refine⟨D,d1,d2,fun q f=>?_,fun q f=>?_⟩
 ·rcases key q f with rfl | h
  ·exact⟨0,by grind⟩
  exact d3 q h
 rcases key q f with rfl | h
 ·have:(0:Rat)<=((2^k:Nat):Rat):=Rat.natCast_nonneg
  constructor <;> grind
 exact d4 q h
end Go.Abs
namespace Go.Abs
section
variable {P:AG->Prop} {R0:Nat}
def Tf.jc (I:C8 P R0) {V:List Re} (hV:∀{u},P u->∀v∈Go.Abs.BZ u,v∈V) (h3:V.length<=3) {u:AG} (h:Tf P u):(u.length<=1->TB R0 u)/\TB (R0+CC 1 R0 1 R0) u:=by
 induction h with
 | nil=>exact⟨fun _ r o=>absurd o AS,fun r o=>absurd o AS⟩
 | @Bb u S B ht L D Q=>
  by_cases W:Sq u (AU B S)
  ·rw[FF W];exact Q
  have f:=I.red L;have hu:=ht.red I;have F:=Ci f;have hb:Bd R0 (co B (AU B S)):=by rw[F1 f];exact (I.tb L).head
  rw[Ei W]
  by_cases hA:∀v∈Go.Abs.BZ B,v∈Go.Abs.BZ u
  ·have U:=Un hu f.1 hA F hb;refine⟨fun Z r o=>?_,fun r o=>?_⟩
   ·rw[List.length_cons] at Z;rcases List.mem_cons.1 o with rfl | o
    ·exact U
    exact Q.1 AA r o
   rcases List.mem_cons.1 o with rfl | o
   ·exact U.mono AA
   exact Q.2 r o
  obtain⟨v,hv⟩:=Classical.not_forall.1 hA;obtain⟨K,a5⟩:=Classical.not_imp.1 hv;have J:In u (Re.sqrt v):=D _ (OF K);have a1:AU B S≠v:=fun e=>W ((N3 (by have:=f.2.2.1;grind)).2 (e ▸ J))
  have H:=Js (Pn hu (D _ F) f.2.2.1 W);rw[Go.Abs.BZ,FR (D _ F),List.nodup_cons] at H
  have hle:=LM (l:=AU B S::v::Go.Abs.BZ u) (m:=V) (by
   rw[List.nodup_cons,List.nodup_cons];refine⟨fun hm=>?_,a5,H.2⟩;rcases List.mem_cons.1 hm with e | hm
   ·exact a1 e
   ·exact H.1 hm) (fun x O=>by
   rcases List.mem_cons.1 O with rfl | O
   ·exact hV L _ (by rw[Go.Abs.BZ];exact List.mem_cons_self)
   rcases List.mem_cons.1 O with rfl | O
   ·exact hV (I.sub L) _ K
   exact ht.BZ I hV x O)
  rw[List.length_cons,List.length_cons,Ll] at hle;have G:=LM (Js f) (hV L);rw[Ll,List.length_cons] at G
  have N:u≠[]:=fun e=>by
   subst e;have:=XX f.1 D;subst this;simp[Go.Abs.BZ] at K
  have a2:u.length=1:=by
   have:0<u.length:=List.length_pos_iff.2 N;omega
  have hk:B.length<=1:=by
   match u,a2,hu,D with
   | [s],_,hu,D=>
    match B,f.1,D,G with
    | [],_,_,_=>exact Nat.zero_le _
    | [q],_,_,_=>exact Nat.le_refl 1
    | [q,r],h0,D,_=>exact (gB h0 hu D).elim
    | _::_::_::_,_,_,G=>simp only[List.length_cons] at G;omega
  have Y:El B R0 (AU B S):=⟨F,hb⟩;have U:=(Y.Cr hu (Q.1 AA) f.1 (I.tb L).tail D).bd;have h2:=Lr (k:=B.length) (k':=1) (R0:=R0) (Jz:=R0) (h:=u.length) (h':=1) (R:=R0) (R':=R0) hk Bg AA Bg;refine⟨fun Z=>absurd Z (by rw[List.length_cons];omega),fun r o=>?_⟩;rcases List.mem_cons.1 o with rfl | o
  ·exact U.mono AA
  exact Q.2 r o
def Tf.qd (I:C8 P R0) {V:List Re} (hV:∀{u},P u->∀v∈Go.Abs.BZ u,v∈V) (h3:V.length<=3) {R C S:Nat} (hR:R0+CC 1 R0 1 R0<=R) (B:R<=S) (G:CC 3 R 3 R<=C) (D:∀h,h<=3->Fit h R (S+C)) (H:2*(S+C)+EE 3 R<=60000000000000):Gam (Tf P) R C S:=by
 have hm:∀{u},Tf P u->u.length<=3:=fun {u} h=>Nat.le_trans (h.len I hV) h3
 have f:∀{u},Tf P u->TB R u:=fun {u} h=>(h.jc I hV h3).2.mono hR
 refine⟨fun {u} h=>⟨h.red I,f h,AA,by have:=hm h;omega⟩,fun {u} h=>by have:=hm h;omega,.nil,fun {r u} h=>h.sub I,fun {t r u} ht h o=>ht.Uf I h o,fun {u w s x} hu hw o F=>?_,fun {u} h=>D _ (hm h),fun {u} h=>?_,B⟩
 ·refine (F.Cr (hw.red I) (f hw) (hu.red I) (f hu) o).mono ?_;have:=Lr (k:=u.length) (k':=3) (R0:=R) (Jz:=R) (h:=w.length) (h':=3) (R:=R) (R':=R) (hm hu) Bg (hm hw) Bg;omega
 have:=Ip (h:=u.length) (h':=3) (R:=R) (R':=R) (hm h) Bg;omega
end
end Go.Abs
namespace Go.Abs
abbrev Rn:Nat:=1540
abbrev Cn:Nat:=874000
def qQ:∀h,h<=3->Fit h Rn (Sm+Cn)
 |0,_|1,_|2,_|3,_=>⟨by decide +kernel,by decide +kernel,by decide +kernel,by decide +kernel⟩
 | _+4,h=>absurd h AA
def qN:∀h,h<=3->Fv h Rn (Sm+Cn)
 |0,_|1,_|2,_|3,_=>⟨by decide +kernel,by decide +kernel,by decide +kernel,by decide +kernel⟩
 | _+4,h=>absurd h AA
def tB:2*(Sm+Cn)+EE 3 Rn<=60000000000000:=by decide +kernel
def cD {P:AG->Prop} (I:C8 P 256) {V:List Re} (hV:∀{u},P u->∀v∈BZ u,v∈V) (h3:V.length<=3) {S:Nat} (f:Rn<=S) (B:S<=Sm):EA (Tf P) Rn Cn S:=
 {Tf.qd I hV h3 (by decide +kernel:256+CC 1 256 1 256<=Rn) f (by decide +kernel:CC 3 Rn 3 Rn<=Cn) (fun h o=>(qQ h o).mono AA) (Nat.le_trans AA tB) with Jb:=fun {u} hu=>(qN _ (Nat.le_trans (hu.len I hV) h3)).mono AA}
end Go.Abs
namespace Go.Abs
section
variable {P:AG->Prop} {V:List Re}
def Tf.Jr (I:C8 P 256) (hV:∀{u},P u->∀v∈Go.Abs.BZ u,v∈V) (h3:V.length<=3) {u:AG} (h:Tf P u):TB Rn u:=(h.jc I hV h3).2.mono (by decide +kernel)
abbrev Ce:Nat:=226506
def Tf.RU (I:C8 P 256) (hV:∀{u},P u->∀v∈Go.Abs.BZ u,v∈V) (h3:V.length<=3) {u w:AG} {s:Nat} {x:Re} (hu:Tf P u) (hw:Tf P w) (o:Br u w) (f:El u s x):El w (s+Ce) x:=by
 by_cases B:w.length<=2
 ·refine (f.Cr (hw.red I) (hw.Jr I hV h3) (hu.red I) (hu.Jr I hV h3) o).mono ?_;have:=Lr (k:=u.length) (k':=3) (R0:=Rn) (Jz:=Rn) (h:=w.length) (h':=2) (R:=Rn) (R':=Rn) (Nat.le_trans (hu.len I hV) h3) Bg B Bg;have G:CC 3 Rn 2 Rn=Ce:=by decide +kernel
  omega
 refine⟨o _ f.mem,(Un (hw.red I) (hu.red I) (fun v F=>Classical.byContradiction fun D=>?_) f.mem f.bd).mono (Nat.le_add_right _ _)⟩
 have:=LM (l:=v::Go.Abs.BZ w) (m:=V) (List.nodup_cons.2 ⟨D,Js (hw.red I)⟩) (fun x f=>by
  rcases List.mem_cons.1 f with rfl | f
  ·exact hu.BZ I hV _ F
  exact hw.BZ I hV x f)
 rw[List.length_cons,Ll] at this;omega
def qg (I:C8 P 256) (hV:∀{u},P u->∀v∈Go.Abs.BZ u,v∈V) (h3:V.length<=3) {C S:Nat} (F:Ce<=C) (o:C<=Cn) (f:Rn<=S) (h:S<=Sm):EA (Tf P) Rn C S:=
 have G:=cD I hV h3 f h
 {G with
  Cr:=fun hu hw B D=>(Tf.RU I hV h3 hu hw B D).mono AA
  fit:=fun hu=>(G.fit hu).mono AA
  mul:=fun hu=>by have:=G.mul hu;omega
  Jb:=fun hu=>(G.Jb hu).mono AA}
end
end Go.Abs
namespace Go.Abs
def El.Bb {u:AG} {n x:Re} {s:Nat} (hu:BE u) (h:BE (Bb u n)) (f:El u s x):El (Bb u n) s x:=by
 by_cases B:Sq u n
 ·rw[FF B];exact f
 rw[Ei B] at h ⊢;have o:El u 0 0:=El.rat hu IP;have:=Qo h f.mem o.mem f.bd o.bd;rw[show x+0*rt u (co u n)=x by grind] at this;exact⟨Gb f.mem,this⟩
def P4 (P:AG->Prop) (n:Re) (u:AG):Prop:=P u\/∃u0,Tf P u0/\In u0 n/\u<:+Bb u0 n
abbrev R4:Nat:=1920500
abbrev E4:Nat:=1942090
abbrev Rf:Nat:=150420000
section
variable {P:AG->Prop} {V:List Re} {w:AG} {n:Re}
def zP (I:C8 P 256) (hV:∀{u},P u->∀v∈Go.Abs.BZ u,v∈V) (h3:V.length<=3) (hw:Tf P w) (ha:∀{u},Tf P u->Br u w) {z:AG} (N:BE z) (f:∀{s x},El w s x->El z s x) {r:List Rat} {u:AG} (h:Tf P (r::u)):Wv z 2032990 46909868 R4 (AU u r):=by
 have o:=h.red I;have e1:=Tf.RU I hV h3 h hw (ha h) (Kz o);have F:In (r::u) (AU u r):=Gb (Ci o);have H:AU u r≠0:=by have:=o.2.2.1;grind
 have G:rt u r≠0:=fun e=>H (by rw[<-De o,e];grind)
 obtain⟨y,K,B⟩:=FV (hw.red I) e1.mem G;have e2:=KC (hw.red I) (hw.Jr I hV h3) e1.mem K B e1.bd;have D:El w 46909868 y:=⟨K,e2.mono (Nat.le_trans (IJ (Nat.le_trans (hw.len I hV) h3) Bg Bg) (by decide +kernel))⟩
 have b3:El (r::u) (Rn+0) (AU u r):=by
  have J:El u 0 0:=El.rat o.1 IP;have hb:Bd Rn (co u (AU u r)):=by rw[F1 o];exact (h.Jr I hV h3).head
  have:=Qo o (Ci o) J.mem hb J.bd;rw[show AU u r+0*rt u r=AU u r by grind] at this;exact⟨F,this⟩
 have L:=Tf.RU I hV h3 h hw (ha h) b3;exact⟨(f e1).mem,(f e1).bd.mono AD,⟨y,by rw[<-B];exact Re.mul_comm _ _,(f D).bd⟩,(f L).bd.mono AD⟩
def kG (I:C8 P 256) (hV:∀{u},P u->∀v∈Go.Abs.BZ u,v∈V) (h3:V.length<=3) (hw:Tf P w) (f:El w R4 n) (U:0<n):Wv (Bb w n) 2032990 46909868 R4 n:=by
 have o:=hw.red I;have K:=hw.Jr I hV h3;have N:w.length<=3:=Nat.le_trans (hw.len I hV) h3;have H:n≠0:=by grind
 have D:Re.sqrt n*Re.sqrt n=n:=Re.JH (by grind);have O:Re.sqrt n≠0:=fun e=>H (by rw[<-D,e];grind)
 by_cases B:Sq w n
 ·rw[FF B];have hm:=(N3 (by grind)).1 B;have b1:=Uq o K hm D f.bd
  have F:Bd 2032990 (co w (Re.sqrt n)):=b1.mono (by
   have:=UH (h:=w.length) (h':=3) (R:=Rn) (R':=Rn) N Bg;have e:GG 3 Rn=112490:=by decide +kernel
   have Z:R4=1920500:=rfl;omega)
  obtain⟨y,Y,J⟩:=FV o hm O;have b2:=KC o K hm Y J F;exact⟨hm,F,⟨y,by rw[<-J];exact Re.mul_comm _ _,b2.mono (Nat.le_trans (IJ N Bg Bg) (by decide +kernel))⟩,f.bd⟩
 have L:=Pn o f.mem U B;have Q:∀{s x},El w s x->El (Bb w n) s x:=fun W=>El.Bb o (by rw[Ei B];exact L) W
 have e1:=Kz L;rw[Mg f.mem] at e1;obtain⟨i,S,G⟩:=FV o f.mem H;have b2:=KC o K f.mem S G f.bd;have z0:El w 0 0:=El.rat o IP;have b3:=Qo L z0.mem S z0.bd b2;rw[Mg f.mem,show (0:Re)+i*Re.sqrt n=i*Re.sqrt n by grind] at b3;refine⟨by rw[Ei B];exact e1.mem,by rw[Ei B];exact e1.bd.mono AD,⟨i*Re.sqrt n,?_,?_⟩,(Q f).bd⟩
 ·have e2:i*Re.sqrt n*Re.sqrt n=i*(Re.sqrt n*Re.sqrt n):=by grind
  have:i*Re.sqrt n*Re.sqrt n=n*i:=by rw[e2,D];exact Re.mul_comm _ _
  rw[this,G]
 rw[Ei B];refine b3.mono (Nat.le_trans (Nat.add_le_add_left (IJ N Bg Bg) _) (by decide +kernel))
def WL (I:C8 P 256) (hV:∀{u},P u->∀v∈Go.Abs.BZ u,v∈V) (h3:V.length<=3) (hw:Tf P w) (o:El w R4 n) (H:0<=n):Ml (Bb w n) E4:=by
 have B:=hw.red I;have D:=hw.Jr I hV h3;have he:=Ip (h:=w.length) (h':=3) (R:=Rn) (R':=Rn) (Nat.le_trans (hw.len I hV) h3) Bg;have G:EE 3 Rn=10794:=by decide +kernel
 have M:=Ml.of B D
 by_cases f:Sq w n
 ·rw[FF f];exact M.mono (by show _<=1942090;omega)
 have F:=Pn B o.mem (by
  have:n≠0:=fun e=>f (by rw[e];exact⟨0,C0 w,by grind⟩)
  grind) f
 rw[Ei f];have J:R4=1920500:=rfl;exact (M.cons F o.bd).mono (by show _<=1942090;omega)
def rQ (I:C8 P 256) (hV:∀{u},P u->∀v∈Go.Abs.BZ u,v∈V) (h3:V.length<=3) (hw:Tf P w) (J:El w R4 n) (O:0<=n) {x y:Re} {s:Nat} (f:El (Bb w n) s x) (o:In (Bb w n) y) (e:x*y=1):El (Bb w n) (47*s+44850000) y:=by
 have B:=hw.red I;have G:=hw.Jr I hV h3;have H:w.length<=3:=Nat.le_trans (hw.len I hV) h3;have he:=Ip (h:=w.length) (h':=3) (R:=Rn) (R':=Rn) H Bg;have N:EE 3 Rn=10794:=by decide +kernel
 have F:∀s,II w.length Rn s<=23*s+151098:=fun s=>Nat.le_trans (IJ H Bg Bg) (by simp only[II,EE,Rn];omega)
 refine⟨o,?_⟩
 by_cases D:Sq w n
 ·rw[FF D] at f o ⊢;exact (KC B G f.mem o e f.bd).mono (by have:=F s;omega)
 have L:=Pn B J.mem (by
  have:n≠0:=fun e=>D (by rw[e];exact⟨0,C0 w,by grind⟩)
  grind) D
 rw[Ei D] at f o ⊢;have:=Ml.inv (P:=fun s=>II w.length Rn s) L (Ml.of B G) J.bd (fun f o e hb=>KC B G f o e hb) f.mem e f.bd;refine this.mono ?_;have K:=F (2*s+2*EE w.length Rn+R4+1)
 show s+EE w.length Rn+II w.length Rn (2*s+2*EE w.length Rn+1920500+1)<=_
 have K:II w.length Rn (2*s+2*EE w.length Rn+1920500+1)<=23*(2*s+2*EE w.length Rn+1920500+1)+151098:=F _;omega
def Tf.Kb (I:C8 P 256) {u v:AG} (h:u<:+v) (f:Tf P v):Tf P u:=by
 obtain⟨t,rfl⟩:=h
 induction t with
 | nil=>exact f
 | cons r t o=>exact o (f.sub I)
def P4.sub (I:C8 P 256) {r:List Rat} {u:AG} (h:P4 P n (r::u)):P4 P n u:=by
 rcases h with h |⟨B,h,f,o⟩
 ·exact .inl (I.sub h)
 exact .inr ⟨B,h,f,(List.suffix_cons r u).trans o⟩
def P4.red (I:C8 P 256) (f:0<=n) {u:AG} (h:P4 P n u):BE u:=by
 rcases h with h |⟨D,h,o,B⟩
 ·exact I.red h
 exact XY B (KW (h.red I) o f)
def P4.top (I:C8 P 256) {r:List Rat} {u:AG} (h:P4 P n (r::u)):Tf P (r::u)\/(In u n/\¬Sq u n/\AU u r=n):=by
 rcases h with h |⟨D,h,B,f⟩
 ·exact .inl (Tf.of I h)
 by_cases o:Sq D n
 ·rw[FF o] at f;exact .inl (h.Kb I f)
 rw[Ei o] at f;rcases List.suffix_cons_iff.1 f with e | f
 ·obtain⟨rfl,rfl⟩:=List.cons.inj e;exact .inr ⟨B,o,FR B⟩
 exact .inl (h.Kb I f)
def P4.len (I:C8 P 256) (hV:∀{u},P u->∀v∈Go.Abs.BZ u,v∈V) {u:AG} (h:P4 P n u):∀v∈Go.Abs.BZ u,v∈n::V:=by
 induction u with
 | nil=>intro v f;simp[Go.Abs.BZ] at f
 | cons r u o=>
  intro v f;rcases List.mem_cons.1 f with rfl | f
  ·rcases h.top I with h |⟨_,_,e⟩
   ·exact List.mem_cons_of_mem _ (h.BZ I hV _ List.mem_cons_self)
   rw[e];exact List.mem_cons_self
  exact o (h.sub I) v f
def YB (I:C8 P 256) (hV:∀{u},P u->∀v∈Go.Abs.BZ u,v∈V) (h3:V.length<=3) (hw:Tf P w) (ha:∀{u},Tf P u->Br u w) (f:El w R4 n) (B:0<=n) {r:List Rat} {u:AG} (h:P4 P n (r::u)):Wv (Bb w n) 2032990 46909868 R4 (AU u r):=by
 have o:BE (Bb w n):=KW (hw.red I) f.mem B;rcases h.top I with h |⟨G,D,e⟩
 ·exact zP I hV h3 hw ha o (fun F=>El.Bb (hw.red I) o F) h
 rw[e]
 exact kG I hV h3 hw f (by
  have:n≠0:=fun e=>D (by rw[e];exact⟨0,C0 u,by grind⟩)
  grind)
def ck (I:C8 P 256) (hV:∀{u},P u->∀v∈Go.Abs.BZ u,v∈V) (h3:V.length<=3) (hw:Tf P w) (ha:∀{u},Tf P u->Br u w) (B:El w R4 n) (o:0<=n):C8 (P4 P n) Rf:=by
 have G:BE (Bb w n):=KW (hw.red I) B.mem o;have M:=WL I hV h3 hw B o;refine⟨fun h=>P4.red I o h,fun {u} h=>?_,fun h=>P4.sub I h⟩;have D:=P4.red I o h
 have F:u.length<=4:=by
  have:=LM (Js D) (P4.len I hV h);rw[Ll,List.length_cons] at this;omega
 have f:∀v∈Go.Abs.BZ u,Wv (Bb w n) 2032990 46909868 R4 v:=by
  clear F D
  induction u with
  | nil=>intro v f;simp[Go.Abs.BZ] at f
  | cons r u H=>
   intro v f;rcases List.mem_cons.1 f with rfl | f
   ·exact YB I hV h3 hw ha B o h
   exact H (P4.sub I h) v f
 exact (Xu (m:=3) G M D F f).mono AD
def Tf.H9 (I:C8 P 256) (hV:∀{u},P u->∀v∈Go.Abs.BZ u,v∈V) (h3:V.length<=3) (J:C8 (P4 P n) Rf) {u:AG} (h:Tf (P4 P n) u):u.length<=4:=by
 have:=h.len J (V:=n::V) (fun f=>P4.len I hV f);rw[List.length_cons] at this;omega
def Tf.W8 (I:C8 P 256) {u:AG} (h:Tf P u):Tf (P4 P n) u:=by
 induction h with
 | nil=>exact .nil
 | Bb _ o f B=>exact .Bb B (.inl o) f
def Tf.ZP (I:C8 P 256) {u:AG} (h:Tf P u) (f:In u n):Tf (P4 P n) (Go.Abs.Bb u n):=by
 by_cases o:Sq u n
 ·rw[FF o];exact h.W8 I
 have:=Tf.Bb (h.W8 I (n:=n)) (show P4 P n (co u n::u) from .inr ⟨u,h,f,by rw[Ei o];exact List.suffix_refl _⟩) (Br.refl u);rwa [FR f] at this
end
end Go.Abs
namespace Go.Abs
abbrev Cf:Nat:=214500000
abbrev Mf:Nat:=156000000000
def qO:∀h,h<=4->Fit h Rf (Mf+Cf)
 |0,_|1,_|2,_|3,_|4,_=>⟨by decide +kernel,by decide +kernel,by decide +kernel,by decide +kernel⟩
 | _+5,h=>absurd h AA
def qL:∀h,h<=4->Fv h Rf (Mf+Cf)
 |0,_|1,_|2,_|3,_|4,_=>⟨by decide +kernel,by decide +kernel,by decide +kernel,by decide +kernel⟩
 | _+5,h=>absurd h AA
def sy:2*(Mf+Cf)+EE 4 Rf<=60000000000000:=by decide +kernel
def cZ:II 4 Rf Mf<=60000000000000:=by decide +kernel
def cA {P:AG->Prop} {R0 S:Nat} (I:C8 P R0) (F:∀{u},Tf P u->TB Rf u) (f:∀{u},Tf P u->u.length<=4) (B:∀{u w s x},Tf P u->Tf P w->Br u w->El u s x->El w (s+Cf) x) (D:Rf<=S) (o:S<=Mf):EA (Tf P) Rf Cf S where
 BW:=fun {u} h=>⟨h.red I,F h,AD,by have:=f h;omega⟩
 ht:=fun {u} h=>by have:=f h;omega
 nil:= .nil
 sub:=fun {r u} h=>h.sub I
 Bb:=fun {t r u} ht h B=>ht.Uf I h B
 Cr:=B
 fit:=fun {u} h=>(qO _ (f h)).mono (Nat.add_le_add_right o Cf)
 mul:=fun {u} h=>Nat.le_trans (Nat.add_le_add (Nat.mul_le_mul_left 2 (Nat.add_le_add_right o Cf)) (Ip (h:=u.length) (h':=4) (R:=Rf) (R':=Rf) (f h) Bg)) sy
 RS:=D
 Jb:=fun {u} h=>(qL _ (f h)).mono (Nat.add_le_add_right o Cf)
section
variable {P:AG->Prop} {V:List Re} {w:AG} {n:Re}
def qf (I:C8 P 256) (hV:∀{u},P u->∀v∈Go.Abs.BZ u,v∈V) (h3:V.length<=3) (hw:Tf P w) (ha:∀{u},Tf P u->Br u w) (B:El w R4 n) (o:0<=n) {S:Nat} (G:Rf<=S) (H:S<=Mf):EA (Tf (P4 P n)) Rf Cf S:=by
 have J:=ck I hV h3 hw ha B o;have F:BE (Bb w n):=KW (hw.red I) B.mem o;have M:=WL I hV h3 hw B o;have D:∀{u},Tf (P4 P n) u->∀v∈Go.Abs.BZ u,Wv (Bb w n) 2032990 46909868 R4 v:=fun {u} h=>Tf.all J (fun L=>YB I hV h3 hw ha B o L) h
 refine cA J (fun {u} h=>(Xu (m:=3) F M (h.red J) (h.H9 I hV h3 J) (D h)).mono AD) (fun h=>h.H9 I hV h3 J) (fun {u v s x} hu f K N=>(pZ (m:=4) F M (hu.red J) (f.red J) (D hu) (D f) (hu.H9 I hV h3 J) (f.H9 I hV h3 J) K N).mono ?_) G H
 show s+4*(2032990+1942090+1)+4*46909868+(4+1)*1942090<=s+214500000
 omega
def qe (I:C8 P 256) (hV:∀{u},P u->∀v∈Go.Abs.BZ u,v∈V) (h3:V.length<=3) {S:Nat} (f:Rf<=S) (o:S<=Mf):EA (Tf P) Rf Cf S:=by
 refine cA I (fun {u} h=>(h.Jr I hV h3).mono AD) (fun h=>Nat.le_trans (h.len I hV) AA) (fun {u v s x} hu D B F=>(Tf.RU I hV h3 hu D B F).mono ?_) f o
 show s+226506<=s+214500000
 omega
end
end Go.Abs
namespace Go.Abs
abbrev Ve:=Nu×Nu
noncomputable def vm (p:Ve):el Co:=(nm p.1,nm p.2)
noncomputable def ue (ns:List Nu) (W:List UInt8):List Ve:=(List.range (W.length/2)).map fun i=>(E6 ns (W.getD (2*i) 0).toNat,E6 ns (W.getD (2*i+1) 0).toNat)
abbrev Fe (TT:AG->Prop) (w:AG):Prop:=Fm TT w Rn 11500 20 43400000 23 14
abbrev Fd (TT:AG->Prop) (w:AG):Prop:=Fm TT w Rf 1950000 110 80000 47 23
abbrev Nd (TT:AG->Prop) (w:AG) (k:Nat) (T:List LR) (A:LR) (x:Re):Prop:=Nm TT w 1950000 k T A x
abbrev Vd (TT:AG->Prop) (w:AG) (k k':Nat) (T1:List LR) (A1:LR) (T2:List LR) (A2:LR) (x y:Re):Prop:=Vm TT w 1950000 k k' T1 A1 T2 A2 x y
def Vw (t:Nat):II 3 Rn t<=23*t+14*11500:=by simp only[II,EE,Rn];omega
structure Pl (P:AG->Prop) (V:List Re) (w:AG):Prop where
 I:C8 P 256
 hV:∀{u},P u->∀v∈BZ u,v∈V
 h3:V.length<=3
 hw:Tf P w
 ha:∀{u},Tf P u->Br u w
def uN {P:AG->Prop} {V:List Re} (I:C8 P 256) (hV:∀{u},P u->∀v∈BZ u,v∈V) (h3:V.length<=3):∃w,Pl P V w:=by
 obtain⟨w,hw,ha⟩:=Tf.top I (fun {u} h=>Nat.le_trans (h.len I hV) h3);exact⟨w,I,hV,h3,hw,ha⟩
section
variable {P:AG->Prop} {V:List Re} {w:AG}
def Pl.len (L:Pl P V w) {u:AG} (h:Tf P u):u.length<=3:=Nat.le_trans (h.len L.I L.hV) L.h3
def Pl.mul (L:Pl P V w) {x y:Re} {s t:Nat} (f:El w s x) (h:El w t y):El w (s+t+10794) (x*y):=(f.mul ⟨L.hw.red L.I,L.hw.Jr L.I L.hV L.h3,AD,by have:=L.len L.hw;omega⟩ h).mono (by
 have:=Ip (L.len L.hw) (Nat.le_refl Rn);have e:EE 3 Rn=10794:=by decide +kernel
 omega)
def Pl.inv (L:Pl P V w) {x y:Re} {s:Nat} (f:El w s x) (h:In w y) (e:x*y=1):El w (23*s+14*11500) y:=(f.inv ⟨L.hw.red L.I,L.hw.Jr L.I L.hV L.h3,AD,by have:=L.len L.hw;omega⟩ h e).mono (Nat.le_trans (IJ (L.len L.hw) Bg Bg) (Vw s))
def Pl.fe (L:Pl P V w):Fe (Tf P) w:=by
 refine⟨fun {S} o B=>qg L.I L.hV L.h3 AD AD o (Nat.le_trans B AD),L.hw,L.ha,AD,AD,fun f h=>(L.mul f h).mono AA,fun f h e=>L.inv f h e,fun {u} hu=>?_⟩;exact Nat.le_trans (IJ (L.len hu) Bg Bg) (Nat.le_trans (Vw _) AD)
def Pl.fd (L:Pl P V w):Fd (Tf P) w:=by
 refine⟨fun {S} o B=>qe L.I L.hV L.h3 o (Nat.le_trans B AD),L.hw,L.ha,AD,AD,fun f h=>(L.mul f h).mono AA,fun f h e=>(L.inv f h e).mono AA,fun {u} hu=>?_⟩;exact Nat.le_trans (IJ (Nat.le_trans (L.len hu) (by decide:3<=4)) Bg Bg) cZ
def Pl.Vc (L:Pl P V w) {n:Re} (f:El w R4 n) (h:0<=n):Fd (Tf (P4 P n)) (Bb w n):=by
 have J:=ck L.I L.hV L.h3 L.hw L.ha f h;have D:BE (Bb w n):=KW (L.hw.red L.I) f.mem h;have M:=WL L.I L.hV L.h3 L.hw f h;refine⟨fun {S} F G=>qf L.I L.hV L.h3 L.hw L.ha f h F (Nat.le_trans G AD),L.hw.ZP L.I f.mem,fun {u} hu=>O7 D (hu.red J) (fun v K=>(Tf.all J (fun H=>YB L.I L.hV L.h3 L.hw L.ha f h H) hu v K).root),AD,AD,fun {x y s t} o B=>⟨BL D o.mem B.mem,(M.bd o.mem B.mem o.bd B.bd).mono (by show s+t+1942090<=s+t+1950000;omega)⟩,fun o B e=>(rQ L.I L.hV L.h3 L.hw f h o B e).mono AA,fun {u} hu=>?_⟩;exact Nat.le_trans (IJ (hu.H9 L.I L.hV L.h3 J) Bg Bg) cZ
def Pl.lift (L:Pl P V w) {n:Re} (H:In w n) (f:0<=n) {b k b' k':Nat} {T:List LR} {A:LR} {x:Re} (h:Nm (Tf P) w b k T A x) (G:k*b<=k'*b'):Nm (Tf (P4 P n)) (Bb w n) b' k' T A x:=by
 obtain⟨u,o,B,h3,D,F⟩:=h;exact⟨u,o.W8 L.I,B,h3,D,(El.Bb (L.hw.red L.I) (KW (L.hw.red L.I) H f) F).mono G⟩
end
def uO {V:List Re} {ns:List Nu} (hV:V.length<=3) (h:∀n∈ns,DA V n):∃w,Pl (PN ns) V w:=uN (PN.LD hV h) (fun f=>PN.BZ h f) hV
noncomputable def zx (ns:List Nu) (W:List UInt8):List (el Co):=if W.length<=24 then (ue ns W).map vm else []
def ft {TT:AG->Prop} {w:AG} (F:Fd TT w) {p:Rat} (f:C4 p):∃A,A=em [] (Re.ofRat p)/\Nd TT w 1 [] A (Re.ofRat p):=⟨_,rfl,JB F AD (Gm f)⟩
end Go.Abs
namespace Go.Abs
open Classical in
noncomputable def fs (x y:Re):Re:=if x=0 then y else x
open Classical in
noncomputable def un (x:Re):Re:=if x=0 then 0 else 1
section
variable {x y z:Re}
def Vj (h:x=0):fs x y=y:=if_pos h
def Vk (h:x≠0):fs x y=x:=if_neg h
def X1 (h:x=0):un x=0:=if_pos h
def X2 (h:x≠0):un x=1:=if_neg h
def Rs (h:¬(x=0/\y=0)):fs x y≠0:=by
 by_cases f:x=0
 ·rw[Vj f];exact fun e=>h ⟨f,e⟩
 rw[Vk f];exact f
def Sw:(1:Re)≠0:=fun e=>absurd (Re.MS.1 (show Re.ofRat 1=Re.ofRat 0 from e)) AD
def dA {i:Re} (h:x*i=1):i=Bl x:=by
 have f:x≠0:=fun e=>Sw (by rw[<-h,e];grind)
 have:=HQ f;have e:i=i*(x*Bl x):=by rw[this];grind
 rw[e,show i*(x*Bl x)=(x*i)*Bl x by grind,h];grind
def sZ (h:¬(x=0/\y=0)):un x=1\/un x=0/\y*Bl (fs x y)=1:=by
 by_cases f:x=0
 ·exact .inr ⟨X1 f,by rw[Vj f];exact HQ (fun e=>h ⟨f,e⟩)⟩
 exact .inl (X2 f)
end
structure Hw (TT:AG->Prop) (w:AG) (b k l:Nat) (T1:List LR) (A1:LR) (T2:List LR) (A2:LR) (T3:List LR) (A3:LR) (x y z:Re):Prop where
 x:Nm TT w b 1 T1 A1 x
 y:Nm TT w b k T2 A2 y
 z:Nm TT w b l T3 A3 z
section
variable {TT:AG->Prop} {w:AG} {R b c M q p k k' l l':Nat} {T1 T2:List LR} {A1 A2:LR} {x y:Re}
def Nm.shrink (h:Nm TT w b k T1 A1 x) (o:Nm TT w b l T2 A2 y) (e:x=y):Nm TT w b l T1 A1 x:=by
 obtain⟨u,f,F,D,G,_⟩:=h;obtain⟨_,_,_,_,_,B⟩:=o;exact⟨u,f,F,D,G,e ▸ B⟩
def eJ (F:Fm TT w R b c M q p) (f:c<=M) {r:Rat} (o:C4 r) (h:Nm TT w b k T1 A1 x) (e:x=Re.ofRat r):Nm TT w b 1 T1 A1 (Re.ofRat r):=e ▸ h.shrink (JB F f (Gm o F.hb)) e
end
section
variable {x y z a d:Re}
def jM {x:Re} (h:x≠0):0<x*x:=by
 have f:=Re.Lg x;have o:=WQ h h
 grind
def TH (h:¬(x=0/\y=0)):x*x+y*y≠0:=by
 have o:=Re.Lg x;have B:=Re.Lg y
 by_cases f:x=0
 ·have:=jM (fun e=>h ⟨f,e⟩)
  grind
 have:=jM f
 grind
end
section
variable {n m z n' m' z' x y x1 y1 x2 y2:Re}
def TS (h:¬(n=0/\m=0)):un n=n*Bl (fs n m):=by
 by_cases f:n=0
 ·rw[X1 f,f];grind
 rw[X2 f,Vk f,HQ f]
end
end Go.Abs
namespace Go.Abs
variable {A1 A2:LR} {M R b c k l p q:Nat} {T1 T2:List LR} {TT:AG->Prop} {w:AG} {x y:Re}
def Gn:Cz Tryz.prog 187 [Bf,.agg (AY T1 A1),AH 0] (.var 0 [.int .i64 0]) (.agg (AY T1 A1)):=by
 refine DW Tryz.func187 fun E f=>?_
 conv=>cbv
 refine CN ?_;refine .inr ?_;refine BG ?_;refine AK
def I3:Cz Tryz.prog 141 [Bf,.agg (Ag T1 A1 T2 A2),AH 0] (.var 0 [.int .i64 0]) (.agg (Ag T1 A1 T2 A2)):=by
 refine DW Tryz.func141 fun E f=>?_
 conv=>cbv
 refine CN ?_;refine .inr ?_;refine BG ?_;refine AK
def pH:Cz Tryz.prog 195 [Bf,.agg (Ag T1 A1 T2 A2)] (.var 0 [.int .i64 0]) (BK (Ag T1 A1 T2 A2) 0):=by
 refine DW Tryz.func195 fun E f=>?_
 conv=>cbv
 refine BG ?_;refine AK
def Ux:Cz Tryz.prog 217 [Bf,.agg (AY T1 A1),AH 0] (.var 0 [.int .i64 0]) (.agg (AY T1 A1)):=by
 refine DW Tryz.func217 fun E f=>?_
 conv=>cbv
 refine CN ?_;refine .inr ?_;refine BG ?_;refine AK
def oW (F:Fm TT w R b c M q p) (ha:Nm TT w b k T1 A1 x) (hb:Nm TT w b l T2 A2 y) (B:k+c+1<=M:=by omega) (D:l+c+1<=M:=by omega):∃T A,Nm TT w b (k+l+1) T A (x+y)/\Cz Tryz.prog 161 [Bf,.agg (AY T1 A1),.agg (AY T2 A2)] (.var 0 [.int .i64 0]) (.agg (AY T A)):=by
 obtain⟨T5,A5,o,_,h⟩:=JC F ha hb;refine⟨T5,A5,o,?_⟩;refine DW Tryz.func161 fun E f=>?_
 conv=>cbv
 refine AB f h ?_;refine CK 0 0 f Ux ?_;refine AK
def oX (F:Fm TT w R b c M q p) (ha:Nm TT w b k T1 A1 x) (hb:Nm TT w b l T2 A2 y) (B:k+c+1<=M:=by omega) (D:l+c+1<=M:=by omega):∃T A,Nm TT w b (k+l+1) T A (x-y)/\Cz Tryz.prog 160 [Bf,.agg (AY T1 A1),.agg (AY T2 A2)] (.var 0 [.int .i64 0]) (.agg (AY T A)):=by
 obtain⟨T5,A5,o,_,h⟩:=MR F ha hb;refine⟨T5,A5,o,?_⟩;refine DW Tryz.func160 fun E f=>?_
 conv=>cbv
 refine AB f h ?_;refine CK 0 0 f Ux ?_;refine AK
def Z4 (F:Fm TT w R b c M q p) (ha:Nm TT w b k T1 A1 x) (hb:Nm TT w b l T2 A2 y) (B:k+c+1<=M:=by omega) (D:l+c+1<=M:=by omega):∃T A,Nm TT w b (k+l+1) T A (x*y)/\Cz Tryz.prog 162 [Bf,.agg (AY T1 A1),.agg (AY T2 A2)] (.var 0 [.int .i64 0]) (.agg (AY T A)):=by
 obtain⟨T5,A5,o,_,h⟩:=Gv F ha hb;refine⟨T5,A5,o,?_⟩;refine DW Tryz.func162 fun E f=>?_
 conv=>cbv
 refine AB f h ?_;refine CK 0 0 f Ux ?_;refine AK
def dO {T3:List LR} {A3:LR}:CF 196 [.agg (DL T1 A1 T2 A2 T3 A3)] (.agg (Ag T1 A1 T2 A2)):=by
 refine AL Tryz.func196 fun E f=>?_
 exact AN AK
end Go.Abs
namespace Go.Abs
noncomputable def K8 (α β γ x y:Re):Re:=(α*x+β*y-γ)*Bl (α*α+β*β)
variable {A1 A2 A3 A4 A5:LR} {M R b c d k l m m' p q:Nat} {T1 T2 T3 T4 T5:List LR} {TT:AG->Prop} {w:AG} {x y α β γ:Re}
def pE (F:Fm TT w R b c M q p) (h:Hw TT w b k l T1 A1 T2 A2 T3 A3 α β γ) (ha:Vm TT w b m m' T4 A4 T5 A5 x y) (I:¬(α=0/\β=0)) (O:q*(2*k+5)+p<=d) (U:d+c+1<=M) (Q:k+l+m+m'+c+8<=M:=by omega) (S:2*k+c+8<=M:=by omega):∃T A,Nm TT w b (k+l+m+m'+d+6) T A (K8 α β γ x y)/\Cz Tryz.prog 194 [Bf,.agg (DL T1 A1 T2 A2 T3 A3),.agg (Ag T4 A4 T5 A5)] (.var 0 [.int .i64 0]) (.agg (AY T A)):=by
 have o:Vm TT w b 1 k T1 A1 T2 A2 α β:=⟨h.x,h.y⟩;obtain⟨T6,A6,J,B⟩:=TU F o ha;obtain⟨T7,A7,K,D,_⟩:=MR F J h.z;obtain⟨T8,A8,L,G⟩:=QB F o;obtain⟨T9,A9,N,H,_⟩:=IB F K (L.mono (by omega:2*1+2*k+3<=2*k+5)) O (TH I);refine⟨T9,A9,N.mono AA,?_⟩;refine DW Tryz.func194 fun E f=>?_
 conv=>cbv
 refine AB f dO ?_;refine AB f B ?_;refine CK 0 0 f Gn ?_;refine AB f D ?_;refine CK 0 0 f Gn ?_;refine AB f G ?_;refine CK 0 0 f Gn ?_;refine AB f H ?_;refine CK 0 0 f Gn ?_;refine AK
def sK (F:Fm TT w R b c M q p) (J:Hw TT w b k l T1 A1 T2 A2 T3 A3 α β γ) (ha:Vm TT w b m m' T4 A4 T5 A5 x y) (Y:¬(α=0/\β=0)) (hd:q*(2*k+5)+p<=d) (hi:d+c+1<=M) {t:Int} (ht: -9223372036854775808<=t/\t<9223372036854775808) (N:C4 (t:Rat)) (h3:2*k+l+m+m'+d+c+12<=M):∃T A L K,Vm TT w b (k+l+2*m+m'+d+11) (2*k+l+m+2*m'+d+10) T A L K (x-α*(K8 α β γ x y*Re.ofRat (t:Rat))) (y-β*(K8 α β γ x y*Re.ofRat (t:Rat)))/\CF 143 [.agg (DL T1 A1 T2 A2 T3 A3),.agg (Ag T4 A4 T5 A5),AH t] (BK (Ag T A L K) 0):=by
 obtain⟨A6,h⟩:=D8 (em [] (Re.ofRat (t:Rat)));have Z:Nm TT w b 1 [] A6 (Re.ofRat (t:Rat)):=h ▸ JB F AA (Gm N F.hb);have hn:Vm TT w b 1 k T1 A1 T2 A2 α β:=⟨J.x,J.y⟩;obtain⟨T7,A7,h7,S⟩:=pE F J ha Y hd hi;obtain⟨T8,A8,h8,U,_⟩:=Gv F h7 Z;obtain⟨T9,A9,Q,O,h9,W⟩:=QA F hn h8;obtain⟨D,o,G,B,I,H⟩:=JL F ha h9;refine⟨D,o,G,B,I.mono AA AA,?_⟩;refine IN Tryz.func143 fun E f=>?_
 conv=>cbv
 refine KF 11 1 f S ?_;try conv=>cbv
 refine Be f (Mu ht (Ii N) h) ?_;conv=>cbv
 refine Be f U ?_;conv=>cbv
 refine KF 11 1 f Gn ?_;try conv=>cbv
 refine Be f dO ?_;conv=>cbv
 refine Be f W ?_;conv=>cbv
 refine KF 11 1 f I3 ?_;try conv=>cbv
 refine Be f H ?_;conv=>cbv
 refine KF 11 1 f I3 ?_;try conv=>cbv
 refine KF 11 1 f pH ?_;try conv=>cbv
 refine B8 ?_;exact AN AK
def uk (F:Fm TT w R b c M q p) (h:Hw TT w b k l T1 A1 T2 A2 T3 A3 α β γ) (ha:Vm TT w b m m' T4 A4 T5 A5 x y) (L:k+l+m+m'+c+8<=M:=by omega):∃T A,Nm TT w b (k+l+m+m'+5) T A (α*x+β*y-γ)/\Cz Tryz.prog 91 [Bf,.agg (DL T1 A1 T2 A2 T3 A3),.agg (Ag T4 A4 T5 A5)] (.var 0 [.int .i64 0]) (.agg (AY T A)):=by
 obtain⟨T6,A6,H,o⟩:=Z4 F h.x ha.x;obtain⟨T7,A7,I,B⟩:=Z4 F h.y ha.y;obtain⟨T8,A8,J,D⟩:=oW F H I;obtain⟨T9,A9,K,G⟩:=oX F J h.z;refine⟨T9,A9,K.mono AA,?_⟩;refine DW Tryz.func91 fun E f=>?_
 conv=>cbv
 refine CK 0 0 f o ?_;refine CK 0 0 f B ?_;refine CK 0 0 f D ?_;refine CK 0 0 f G ?_;refine AK
def rOn (F:Fm TT w R b c M q p) (I:Hw TT w b k l T1 A1 T2 A2 T3 A3 α β γ) (ha:Vm TT w b m m' T4 A4 T5 A5 x y) (K:k+l+m+m'+c+8<=M) {e:Bool} (he:e=true↔α*x+β*y=γ):CF 35 [.agg (DL T1 A1 T2 A2 T3 A3),.agg (Ag T4 A4 T5 A5)] (.one (.bool e)):=by
 obtain⟨T7,A7,H,D⟩:=uk F I ha;obtain⟨L,o,_,G⟩:=Gw F H;refine AL Tryz.func35 fun E B=>?_
 refine CK 8 1 B D ?_;refine CN ?_;refine AB B G ?_;intro J f;exact AO (by rw[Bool.eq_iff_iff,he,f,beq_iff_eq,o,G0];constructor <;> intro h <;> grind)
end Go.Abs
