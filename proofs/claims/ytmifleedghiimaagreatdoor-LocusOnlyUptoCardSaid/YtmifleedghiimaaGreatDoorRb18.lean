/- Part 19 of a proof. Conditions: each theorem's own. -/
import Derived.Test.YtmifleedghiimaaGreatDoorRb17
set_option linter.all false
set_option maxHeartbeats 80000000
set_option maxRecDepth 20000
open Go.Proofs
namespace Go.Abs
open Go.RowKit
section
def LF:List Int->Int->List Int
 | [],x=>[x]
 | y::r,x=>if y>x then y::LF r x else x::y::r
def H7 (l:List Int) (x:Int):List Int:=(LF l.reverse x).reverse
variable {A a:List Int} {b d i n:Nat} {y:Int}
def rI (x:Int):H7 [] x=[x]:=rfl
def rG {x:Int} (h:y>x):H7 (A++[y]) x=H7 A x++[y]:=by
 unfold H7;rw[List.reverse_append];show (LF (y::A.reverse) x).reverse=_;rw[LF,if_pos h,List.reverse_cons]
def rH {x:Int} (h:¬y>x):H7 (A++[y]) x=A++[y]++[x]:=by
 unfold H7;rw[List.reverse_append];show (LF (y::A.reverse) x).reverse=_;rw[LF,if_neg h,List.reverse_cons,List.reverse_cons,List.reverse_reverse]
def cl:∀(l:List Int) (x:Int),(LF l x).Perm (x::l)
 | [],_=>List.Perm.refl _
 | y::r,x=>by
  rw[LF]
  split
  ·exact ((cl r x).cons y).trans (List.Perm.swap x y r)
  exact List.Perm.refl _
def Vz (l:List Int) (x:Int):(H7 l x).Perm (l++[x]):=by
 refine (List.reverse_perm _).trans ((cl _ x).trans ?_);exact (((List.reverse_perm l).cons x).trans (List.perm_append_singleton x l).symm)
def DP (l:List Int):List Int:=l.foldl H7 []
def jT {l:List Int} {x:Int} (h:l[i]? =some x):DP (l.take (i+1))=H7 (DP (l.take i)) x:=by
 unfold DP;rw[List.take_add_one,h,List.foldl_append];rfl
def jS:∀(l acc:List Int),(l.foldl H7 acc).Perm (acc++l)
 | [],acc=>by rw[List.append_nil];exact List.Perm.refl _
 | x::l,acc=>by
  refine (jS l (H7 acc x)).trans ?_;have:=(Vz acc x).append_right l;rwa [List.append_assoc] at this
def P6 (l:List Int):(DP l).Perm l:=jS l []
def TJ (l:List Int):(DP l).length=l.length:=(P6 l).length_eq
def IQ:List Int->List Int->Int
 | x::a,y::b=>if x≠y then x-y else IQ a b
 | _,_=>0
def Hy (a b:List Int):Int:=if a.length≠b.length then a.length-b.length else IQ a b
def Zu:∀{a b:List Int},a.length=b.length->IQ a b=0->a=b
 | [],[],_,_=>rfl
 | x::a,y::b,h,e=>by
  rw[IQ] at e
  split at e
  ·omega
  rename_i g
  rw[Decidable.not_not.1 g,Zu (a:=a) (b:=b) (by simpa using h) e]
def oL {b:List Int} (h:Hy a b=0):a=b:=by
 unfold Hy at h
 split at h
 ·omega
 rename_i g;exact Zu (Decidable.not_not.1 g) h
def Zt {b:List Int} {x:Int} (ha:a[i]? =some x) (hb:b[i]? =some y):IQ (a.drop i) (b.drop i)=if x≠y then x-y else IQ (a.drop (i+1)) (b.drop (i+1)):=by
 have g:=EX ha;have h:=EX hb;rw[List.drop_eq_getElem_cons g,List.drop_eq_getElem_cons h,IQ,Option.some.inj ((List.getElem?_eq_getElem g).symm.trans ha),Option.some.inj ((List.getElem?_eq_getElem h).symm.trans hb)]
def HT (v:List Int):List Mo->Nat
 | []=>0
 | o::p=>if Hy o.2 v<0 then HT v p+1 else 0
def fU {v:List Int} {p:List Mo} {k:Nat} {o:Mo} (h:p[k]? =some o):HT v (p.drop k)=if Hy o.2 v<0 then HT v (p.drop (k+1))+1 else 0:=by
 have g:=EX h;rw[List.drop_eq_getElem_cons g,HT,Option.some.inj ((List.getElem?_eq_getElem g).symm.trans h)]
def GW (p:List Mo) (m:Mo):List Mo:=
 match p[HT (DP m.2) p]? with
 | some o=>if Hy o.2 (DP m.2)=0 then p.set (HT (DP m.2) p) (o.1+m.1,o.2) else p.take (HT (DP m.2) p)++(m.1,DP m.2)::p.drop (HT (DP m.2) p)
 | none=>p.take (HT (DP m.2) p)++(m.1,DP m.2)::p.drop (HT (DP m.2) p)
def Ud (p:List Mo) (m:Mo):(∃k c,p[k]? =some (c,DP m.2)/\GW p m=p.set k (c+m.1,DP m.2))\/∃k,GW p m=p.take k++(m.1,DP m.2)::p.drop k:=by
 unfold GW
 split
 ·rename_i o g
  split
  ·rename_i e
   have:=oL e;exact .inl ⟨_,o.1,by rw[g,<-this],by rw[<-this]⟩
  exact .inr ⟨_,rfl⟩
 exact .inr ⟨_,rfl⟩
def pk {ρ:Int->Re} (p:List Mo) (m:Mo):BS ρ (GW p m)=BS ρ p+Re.ofRat m.1*Ds ρ m.2:=by
 rcases Ud p m with⟨k,c,h,e⟩ |⟨k,e⟩
 ·rw[e,pq h,bV (P6 m.2)]
 rw[e,pn];show _+Re.ofRat m.1*Ds ρ (DP m.2)=_;rw[bV (P6 m.2)]
def Kc (l:List Mo):List Mo:=l.foldl GW []
def Kd (l:List Mo):List Mo:=(Kc l).filter fun m=>decide (m.1≠0)
def Xt {l:List Mo} {m:Mo} (h:l[i]? =some m):Kc (l.take (i+1))=GW (Kc (l.take i)) m:=by
 unfold Kc;rw[List.take_add_one,h,List.foldl_append];rfl
def bM {ρ:Int->Re}:∀(l acc:List Mo),BS ρ (l.foldl GW acc)=BS ρ acc+BS ρ l
 | [],acc=>by show _=_+0;show BS ρ acc=_;grind
 | m::l,acc=>by rw[List.foldl_cons,bM l,pk,IU];grind
def Rj {ρ:Int->Re} (l:List Mo):BS ρ (Kd l)=BS ρ l:=by
 unfold Kd;rw[bO];unfold Kc;rw[bM];show 0+_=_;grind
def uH {j:Nat} {p:List Mo} {m:Mo} (h:PB n d ((b+1)*j) p) (hm:Bd b [m.1]) (B:m.2.length<=d):PB (n+1) d ((b+1)*(j+1)) (GW p m):=by
 have D:∀x∈p,Bd ((b+1)*(j+1)) [x.1]:=fun x g=>(h.cb x g).mono (Nat.mul_le_mul_left _ (Nat.le_succ j))
 have one:Bd ((b+1)*(j+1)) [m.1]:=hm.mono (by rw[Nat.mul_add];omega);have F:=h.len;rcases Ud p m with⟨k,c,e1,e⟩ |⟨k,e⟩
 ·have z:=List.mem_of_getElem? e1;rw[e];refine⟨by rw[List.length_set];omega,fun x g=>?_,fun x g=>?_⟩
  ·rcases List.mem_or_eq_of_mem_set g with g | rfl
   ·exact h.Fh x g
   exact by show (DP m.2).length<=d;rw[TJ];exact B
  rcases List.mem_or_eq_of_mem_set g with g | rfl
  ·exact D x g
  exact (uj (h.cb _ z) hm).mono (by rw[Nat.mul_add];omega)
 have g:∀x∈GW p m,x∈p\/x=(m.1,DP m.2):=fun x g=>by
  rw[e,List.mem_append,List.mem_cons] at g;rcases g with g | rfl | g
  ·exact .inl (List.mem_of_mem_take g)
  ·exact .inr rfl
  exact .inl (List.mem_of_mem_drop g)
 refine⟨by rw[e,List.length_append,List.length_cons,List.length_take,List.length_drop];omega,fun x u=>?_,fun x u=>?_⟩
 ·rcases g x u with u | rfl
  ·exact h.Fh x u
  exact by show (DP m.2).length<=d;rw[TJ];exact B
 rcases g x u with u | rfl
 ·exact D x u
 exact one
def fO:∀(l acc:List Mo) (n:Nat),PB n d ((b+1)*n) acc->(∀m∈l,m.2.length<=d)->CB b l->PB (n+l.length) d ((b+1)*(n+l.length)) (l.foldl GW acc)
 | [],_,_,h,_,_=>h
 | m::l,acc,n,h,u,j=>by
  have:=fO l (GW acc m) (n+1) (uH h (j m List.mem_cons_self) (u m List.mem_cons_self)) (fun x g=>u x (List.mem_cons_of_mem _ g)) fun x g=>j x (List.mem_cons_of_mem _ g)
  rwa [show n+1+l.length=n+(m::l).length by rw[List.length_cons];omega] at this
def fP {l:List Mo} (h:PB n d b l):PB n d ((b+1)*n) (Kc l):=by
 have:=fO l [] 0 ⟨Nat.le_refl _,fun _ h=>by simp at h,fun _ h=>by simp at h⟩ h.Fh h.cb;rw[Nat.zero_add] at this;exact⟨Nat.le_trans this.len h.len,this.Fh,fun x g=>(this.cb x g).mono (Nat.mul_le_mul_left _ h.len)⟩
def Sk {l:List Mo} (h:PB n d b l):PB n d ((b+1)*n) (Kd l):=by
 have:=fP h;exact⟨Nat.le_trans (List.length_filter_le _ _) this.len,fun x g=>this.Fh x (List.mem_filter.1 g).1,fun x g=>this.cb x (List.mem_filter.1 g).1⟩
end
section
def Fo (p q:List Mo):List Mo:=Kd (p++q)
def LW (p:List Mo) (c:Rat):List Mo:=Kd (p.map fun m=>(m.1*c,m.2))
def CA (p q:List Mo):List Mo:=Fo p (LW q (-1))
def GB (m:Mo) (q:List Mo):List Mo:=q.map fun n=>(m.1*n.1,m.2++n.2)
def Dz (p q:List Mo):List Mo:=Kd (p.flatMap fun m=>GB m q)
def FL (c:Rat):List Mo:=Kd [(c,[])]
def DG (v:Int):List Mo:=[(1,[v])]
section
variable {ρ:Int->Re}
def PD (p q:List Mo):BS ρ (Fo p q)=BS ρ p+BS ρ q:=by unfold Fo;rw[Rj,NM]
def po (p:List Mo) (c:Rat):BS ρ (LW p c)=BS ρ p*Re.ofRat c:=by unfold LW;rw[Rj,bT]
def tX:Re.ofRat (-1)= -1:=by
 have h:Re.ofRat (-1)+Re.ofRat 1=Re.ofRat (-1+1):=(Re.ofRat_add _ _).symm;rw[show (-1+1:Rat)=0 by decide +kernel,show Re.ofRat 0=0 from rfl,show Re.ofRat 1=1 from rfl] at h
 grind
def G6 (p q:List Mo):BS ρ (CA p q)=BS ρ p-BS ρ q:=by unfold CA;rw[PD,po,tX];grind
def K5 (p q:List Mo):BS ρ (Dz p q)=BS ρ p*BS ρ q:=by unfold Dz;rw[Rj];exact bP p q
def PE (c:Rat):BS ρ (FL c)=Re.ofRat c:=by unfold FL;rw[Rj,bQ];show _*1=_;grind
def H4 (v:Int):BS ρ (DG v)=ρ v:=by unfold DG;rw[bQ];show Re.ofRat 1*(ρ v*1)=_;rw[show Re.ofRat 1=1 from rfl];grind
end
def PB.mono {n d b n' g b':Nat} {p:List Mo} (h:PB n d b p) (u:n<=n') (j:d<=g) (hb:b<=b'):PB n' g b' p:=⟨Nat.le_trans h.len u,fun m hm=>Nat.le_trans (h.Fh m hm) j,fun m hm=>(h.cb m hm).mono hb⟩
def XE {n m d b:Nat} {p q:List Mo} (h:PB n d b p) (k:PB m d b q):PB (n+m) d ((b+1)*(n+m)) (Fo p q):=by
 refine Sk ⟨by rw[List.length_append];exact Nat.add_le_add h.len k.len,fun x g=>?_,fun x g=>?_⟩ <;> rcases List.mem_append.1 g with g | g
 ·exact h.Fh x g
 ·exact k.Fh x g
 ·exact h.cb x g
 exact k.cb x g
def XF {n d b e:Nat} {p:List Mo} {c:Rat} (h:PB n d b p) (k:Bd e [c]):PB n d ((b+e+1)*n) (LW p c):=by
 refine Sk ⟨by rw[List.length_map];exact h.len,fun x g=>?_,fun x g=>?_⟩ <;> obtain⟨y,j,rfl⟩:=List.mem_map.1 g
 ·exact h.Fh y j
 exact Ss (h.cb y j) k
def Qp:Bd 1 [(-1:Rat)]:=⟨1,AD,AD,fun q g=>⟨-1,by rw[List.mem_singleton.1 g];decide +kernel⟩,fun q g=>by rw[List.mem_singleton.1 g];decide +kernel⟩
def uK {n m d b:Nat} {p q:List Mo} (h:PB n d b p) (k:PB m d b q):PB (n+m) d ((b+(b+2)*m+1)*(n+m)) (CA p q):=
 XE (h.mono Bg Bg (Nat.le_add_right _ _)) ((XF k Qp).mono Bg Bg (Nat.le_add_left _ _))
def uI {n m d e b c:Nat} {p q:List Mo} (h:PB n d b p) (k:PB m e c q):PB (n*m) (d+e) ((b+c+1)*(n*m)) (Dz p q):=by
 have g:∀x∈p.flatMap (fun m=>GB m q),∃y∈p,∃z∈q,x=(y.1*z.1,y.2++z.2):=fun x g=>by
  obtain⟨y,j,g⟩:=List.mem_flatMap.1 g;obtain⟨z,u,rfl⟩:=List.mem_map.1 g;exact⟨y,j,z,u,rfl⟩
 have D:∀p:List Mo,(p.flatMap fun m=>GB m q).length=p.length*q.length:=fun p=>by
  induction p with
  | nil=>simp
  | cons y p F=>rw[List.flatMap_cons,List.length_append,F,List.length_cons,Nat.succ_mul,GB,List.length_map];omega
 refine Sk ⟨by rw[D];exact Nat.mul_le_mul h.len k.len,fun x B=>?_,fun x B=>?_⟩ <;> obtain⟨y,j,z,u,rfl⟩:=g x B
 ·show (y.2++z.2).length<=_;rw[List.length_append];exact Nat.add_le_add (h.Fh y j) (k.Fh z u)
 exact Ss (h.cb y j) (k.cb z u)
def uJ {b:Nat} {c:Rat} (h:Bd b [c]):PB 1 0 (b+1) (FL c):=by
 have:=Sk (n:=1) (d:=0) (b:=b) (l:=[(c,[])]) ⟨Nat.le_refl _,fun m hm=>by rw[List.mem_singleton.1 hm];exact Nat.le_refl _,fun m hm=>by rw[List.mem_singleton.1 hm];exact h⟩;rwa [Nat.mul_one] at this
def uL (v:Int):PB 1 1 0 (DG v):=⟨Nat.le_refl _,fun m hm=>by rw[List.mem_singleton.1 hm];exact Nat.le_refl _,fun m hm=>by rw[List.mem_singleton.1 hm];exact Zo⟩
def VR (N:Int) (p:List Mo):Prop:=∀m∈p,∀v∈m.2,0<=v/\v<N
section
variable {N:Int}
def yZ {p:List Mo} {m:Mo} (h:VR N p) (hm:∀v∈m.2,0<=v/\v<N):VR N (GW p m):=fun x g v j=>by
 have u:∀v∈DP m.2,0<=v/\v<N:=fun v h=>hm v ((P6 m.2).mem_iff.1 h)
 rcases Ud p m with⟨k,c,e1,e⟩ |⟨k,e⟩ <;> rw[e] at g
 ·rcases List.mem_or_eq_of_mem_set g with g | rfl
  ·exact h x g v j
  exact u v j
 rw[List.mem_append,List.mem_cons] at g;rcases g with g | rfl | g
 ·exact h x (List.mem_of_mem_take g) v j
 ·exact u v j
 exact h x (List.mem_of_mem_drop g) v j
def X6:∀(l acc:List Mo),VR N acc->VR N l->VR N (l.foldl GW acc)
 | [],_,h,_=>h
 | m::l,acc,h,k=>X6 l (GW acc m) (yZ h (k m List.mem_cons_self)) fun x g=>k x (List.mem_cons_of_mem _ g)
def TY {l:List Mo} (h:VR N l):VR N (Kd l):=fun x g=>X6 l [] (fun _ h=>by simp at h) h x (List.mem_filter.1 g).1
def jy {p q:List Mo} (h:VR N p) (k:VR N q):VR N (Fo p q):=TY fun x g=>(List.mem_append.1 g).elim (h x) (k x)
def jz {p:List Mo} {c:Rat} (h:VR N p):VR N (LW p c):=TY fun x g=>by obtain⟨y,j,rfl⟩:=List.mem_map.1 g;exact h y j
def j4 {p q:List Mo} (h:VR N p) (k:VR N q):VR N (CA p q):=jy h (jz k)
def ye {p q:List Mo} (h:VR N p) (k:VR N q):VR N (Dz p q):=TY fun x j v g=>by
 obtain⟨y,u,j⟩:=List.mem_flatMap.1 j;obtain⟨z,B,rfl⟩:=List.mem_map.1 j;rcases List.mem_append.1 g with g | g
 ·exact h y u v g
 exact k z B v g
def yf (c:Rat):VR N (FL c):=TY fun x h v g=>by rw[List.mem_singleton.1 h] at g;simp at g
def yg {v:Int} (h:0<=v/\v<N):VR N (DG v):=fun x g u hu=>by rw[List.mem_singleton.1 g] at hu;rw[List.mem_singleton.1 hu];exact h
end
end
section
def wtV (r:Int) (o e:Nat) (v:List Int):Nat:=if r∈v then e else o
def wP (r:Int) (o e:Nat) (p:List Mo):Nat:=(p.map fun m=>wtV r o e m.2).sum
section
variable {r:Int} {o e:Nat}
end
def VR.mono {N M:Int} {p:List Mo} (h:VR N p) (k:N<=M):VR M p:=fun m hm v g=>⟨(h m hm v g).1,by have:=(h m hm v g).2;omega⟩
abbrev Ar:Type:=List Mo×List Mo
def AW (i k:Int):Ar:=(CA (DG (2*k)) (DG (2*i)),CA (DG (2*k+1)) (DG (2*i+1)))
def CD (a b:Ar):List Mo:=Fo (Dz a.1 b.1) (Dz a.2 b.2)
def Dc (a b:Ar):List Mo:=CA (Dz a.1 b.2) (Dz a.2 b.1)
def Cd (p:List Mo):List Mo:=Dz p p
section
variable {ρ:Int->Re}
def Du (i k:Int):BS ρ (AW i k).1=ρ (2*k)-ρ (2*i)/\BS ρ (AW i k).2=ρ (2*k+1)-ρ (2*i+1):=by unfold AW;rw[G6,G6];simp only[H4];exact⟨trivial,trivial⟩
def NN (a b:Ar):BS ρ (CD a b)=BS ρ a.1*BS ρ b.1+BS ρ a.2*BS ρ b.2:=by unfold CD;rw[PD,K5,K5]
def Rp (a b:Ar):BS ρ (Dc a b)=BS ρ a.1*BS ρ b.2-BS ρ a.2*BS ρ b.1:=by unfold Dc;rw[G6,K5,K5]
def K6 (p:List Mo):BS ρ (Cd p)=BS ρ p*BS ρ p:=K5 p p
end
structure PV (n d b:Nat) (N:Int) (p:List Mo):Prop where
 pb:PB n d b p
 vr:VR N p
def Ez (n d b:Nat) (N:Int) (a:Ar):Prop:=PV n d b N a.1/\PV n d b N a.2
section
variable {n m d e b c:Nat} {N:Int} {p q:List Mo}
def PV.mono {n' j b':Nat} {g:Int} (h:PV n d b N p) (B:n<=n') (z:d<=j) (hb:b<=b') (u:N<=g):PV n' j b' g p:=⟨h.pb.mono B z hb,h.vr.mono u⟩
def GS {v:Int} (h:0<=v/\v<N):PV 1 1 0 N (DG v):=⟨uL v,yg h⟩
def XN {x:Rat} (h:Bd b [x]):PV 1 0 (b+1) N (FL x):=⟨uJ h,yf x⟩
def Pg (h:PV n d b N p) (k:PV m d b N q):PV (n+m) d ((b+1)*(n+m)) N (Fo p q):=⟨XE h.pb k.pb,jy h.vr k.vr⟩
def HU (h:PV n d b N p) (k:PV m d b N q):PV (n+m) d ((b+(b+2)*m+1)*(n+m)) N (CA p q):=⟨uK h.pb k.pb,j4 h.vr k.vr⟩
def Gy (h:PV n d b N p) (k:PV m e c N q):PV (n*m) (d+e) ((b+c+1)*(n*m)) N (Dz p q):=⟨uI h.pb k.pb,ye h.vr k.vr⟩
def HE (h:PV n d b N p):PV (n*n) (d+d) ((b+b+1)*(n*n)) N (Cd p):=Gy h h
def Zf {i k AE:Int} (g:0<=i/\i<AE) (h:0<=k/\k<AE):Ez 2 1 6 (2*AE) (AW i k):=⟨HU (b:=0) (GS ⟨AA,AA⟩) (GS ⟨AA,AA⟩),HU (b:=0) (GS ⟨AA,AA⟩) (GS ⟨AA,AA⟩)⟩
def GR {a g:Ar} (h:Ez 2 1 6 N a) (k:Ez 2 1 6 N g):PV 8 2 424 N (CD a g):=(Pg (Gy h.1 k.1) (Gy h.2 k.2)).mono AD AD AD (Int.le_refl _)
def LZ {a g:Ar} (h:Ez 2 1 6 N a) (k:Ez 2 1 6 N g):PV 8 2 2152 N (Dc a g):=(HU (Gy h.1 k.2) (Gy h.2 k.1)).mono AD AD AD (Int.le_refl _)
end
end
section
def GJ (l out:List Int) (i k:Nat):Prop:=∃A B x,l[i]? =some x/\out=A++x::(B++l.drop (i+1))/\A.length=k/\H7 (DP (l.take i)) x=H7 A x++B
section
variable {l out:List Int} {i k:Nat}
def GJ.len (h:GJ l out i k):out.length=l.length/\k<out.length:=by
 obtain⟨A,B,x,g,rfl,rfl,e⟩:=h;have D:=EX g;have j:=congrArg List.length e;have u:=(Vz (DP (l.take i)) x).length_eq;have h3:=(Vz A x).length_eq;have z:=TJ (l.take i);simp only[List.length_append,List.length_cons,List.length_drop,List.length_take,List.length_nil] at*;omega
def GJ.start (h:out=DP (l.take i)++l.drop i) (g:i<l.length):GJ l out i i:=
 ⟨DP (l.take i),[],l[i],List.getElem?_eq_getElem g,by rw[h,List.drop_eq_getElem_cons g];rfl,by rw[TJ,List.length_take];omega,by rw[List.append_nil]⟩
def GJ.zero (h:GJ l out i 0):out=DP (l.take (i+1))++l.drop (i+1):=by
 obtain⟨A,B,x,j,rfl,g,e⟩:=h;obtain rfl:=List.eq_nil_of_length_eq_zero g;rw[jT j,e,rI];rfl
def GJ.le {a b:Int} (h:GJ l out i (k+1)) (ha:out[k]? =some a) (hb:out[k+1]? =some b) (g:¬a>b):out=DP (l.take (i+1))++l.drop (i+1):=by
 obtain⟨A,B,x,D,rfl,j,e⟩:=h;obtain⟨A,y,rfl⟩:∃z y,A=z++[y]:=⟨A.dropLast,A.getLast (by intro h;simp[h] at j),(List.dropLast_concat_getLast _).symm⟩
 rw[List.length_append,List.length_singleton] at j;have u:A.length=k:=AA
 have e1:(A++[y]++x::(B++l.drop (i+1)))[k]? =some y:=by rw[List.append_assoc,<-u,List.getElem?_append_right Bg,Nat.sub_self];rfl
 have e2:(A++[y]++x::(B++l.drop (i+1)))[k+1]? =some x:=by rw[List.getElem?_append_right (by simp;omega),List.length_append,List.length_singleton,u,Nat.sub_self];rfl
 obtain rfl:=Option.some.inj (e1.symm.trans ha);obtain rfl:=Option.some.inj (e2.symm.trans hb);rw[rH g] at e;rw[jT D,e];simp
def GJ.gt {a b:Int} (h:GJ l out i (k+1)) (ha:out[k]? =some a) (hb:out[k+1]? =some b) (j:a>b):GJ l ((out.set k b).set (k+1) a) i k:=by
 obtain⟨A,B,x,D,rfl,u,e⟩:=h;obtain⟨A,y,rfl⟩:∃z y,A=z++[y]:=⟨A.dropLast,A.getLast (by intro h;simp[h] at u),(List.dropLast_concat_getLast _).symm⟩
 rw[List.length_append,List.length_singleton] at u;have g:A.length=k:=AA
 have e1:(A++[y]++x::(B++l.drop (i+1)))[k]? =some y:=by rw[List.append_assoc,<-g,List.getElem?_append_right Bg,Nat.sub_self];rfl
 have e2:(A++[y]++x::(B++l.drop (i+1)))[k+1]? =some x:=by rw[List.getElem?_append_right (by simp;omega),List.length_append,List.length_singleton,g,Nat.sub_self];rfl
 obtain rfl:=Option.some.inj (e1.symm.trans ha);obtain rfl:=Option.some.inj (e2.symm.trans hb);rw[rG j] at e;refine⟨A,y::B,x,D,?_,g,by rw[e,List.append_assoc];rfl⟩;subst g;rw[List.append_assoc,List.set_append_right _ _ Bg,Nat.sub_self,List.set_append_right _ _ AA,(AA:A.length+1-A.length=1)];rfl
def xw (h:out=DP (l.take i)++l.drop i) (g:l.length<=i):out=DP l:=by rw[h,List.take_of_length_le g,List.drop_of_length_le g,List.append_nil]
def Ir (v:List Int) (o:List Mo) (k:Nat):Prop:=HT v o=k+HT v (o.drop k)
def Ir.zero {v:List Int} {o:List Mo}:Ir v o 0:=(Nat.zero_add _).symm
def Ir.up {v:List Int} {o:List Mo} {m:Mo} (h:Ir v o k) (hm:o[k]? =some m) (g:Hy m.2 v<0):Ir v o (k+1):=by
 unfold Ir at *;rw[h,fU hm,if_pos g];omega
def Ir.stop {v:List Int} {o:List Mo} (h:Ir v o k) (g:o.length<=k\/∃m,o[k]? =some m/\¬Hy m.2 v<0):HT v o=k:=by
 unfold Ir at h;rcases g with g |⟨m,hm,j⟩
 ·rw[h,List.drop_of_length_le g];rfl
 rw[h,fU hm,if_neg j];rfl
def ni {o:List Mo} {m:Mo} {k:Nat} {c:Mo} (h:HT (DP m.2) o=k) (j:o[k]? =some c) (g:Hy c.2 (DP m.2)=0):GW o m=o.set k (c.1+m.1,c.2):=by
 unfold GW;rw[h,j];exact if_pos g
def ZK {o:List Mo} {m:Mo} {k:Nat} (h:HT (DP m.2) o=k) (g:∀c,o[k]? =some c->Hy c.2 (DP m.2)≠0):GW o m=o.take k++(m.1,DP m.2)::o.drop k:=by
 unfold GW;rw[h];cases j:o[k]? with
 | none=>rfl
 | some c=>exact if_neg (g c j)
end
structure Is (l:List Mo):Prop where
 ex:∃n d b,PV n d b 1000 l/\n<=100000/\d<=100/\(b+1)*(n+1)<=60000000000000
def PB.take {n d b:Nat} {l:List Mo} (h:PB n d b l) (i:Nat):PB n d b (l.take i):=⟨Nat.le_trans (List.length_take_le' _ _) h.len,fun m hm=>h.Fh m (List.mem_of_mem_take hm),fun m hm=>h.cb m (List.mem_of_mem_take hm)⟩
def Is.pre {l:List Mo} (h:Is l) (i:Nat):(∀m∈Kc (l.take i),Ch m.1/\∀v∈m.2,0<=v/\v<1000)/\(Kc (l.take i)).length<=100000:=by
 obtain⟨n,d,b,g,u,h3,z⟩:=h.ex;have j:=fP (g.pb.take i);refine⟨fun m hm=>⟨Su (j.cb m hm) (by rw[Nat.mul_add] at z;omega),?_⟩,Nat.le_trans j.len u⟩;exact X6 _ [] (fun _ h=>by simp at h) (fun x B=>g.vr x (List.mem_of_mem_take B)) m hm
def Is.at {l:List Mo} (h:Is l) {m:Mo} (hm:m∈l):(Ch m.1/\∀v∈m.2,0<=v/\v<1000)/\m.2.length<=100:=by
 obtain⟨n,d,b,g,u,h3,j⟩:=h.ex;refine⟨⟨Su (g.pb.cb m hm) ?_,g.vr m hm⟩,Nat.le_trans (g.pb.Fh m hm) h3⟩;rw[Nat.mul_add] at j;omega
def Is.len {l:List Mo} (h:Is l):l.length<=100000:=let ⟨_,_,_,g,j,_⟩:=h.ex;Nat.le_trans g.pb.len j
section
variable {n m d e b c:Nat} {p q:List Mo}
def w3 {x:Rat} (h:Bd b [x]) (hb:b<=20000000000000):Is [(x,[])]:=
 ⟨1,0,b,⟨⟨Nat.le_refl _,fun m hm=>by rw[List.mem_singleton.1 hm];exact Nat.le_refl _,fun m hm=>by rw[List.mem_singleton.1 hm];exact h⟩,fun m hm v g=>by rw[List.mem_singleton.1 hm] at g;simp at g⟩,AD,AD,AA⟩
def wy (h:PV n d b 1000 p) (k:PV m d b 1000 q) (u:n+m<=100000) (j:d<=100) (hb:(b+1)*(n+m+1)<=60000000000000):Is (p++q):=
 ⟨n+m,d,b,⟨⟨by rw[List.length_append];exact Nat.add_le_add h.pb.len k.pb.len,fun x g=>(List.mem_append.1 g).elim (h.pb.Fh x) (k.pb.Fh x),fun x g=>(List.mem_append.1 g).elim (h.pb.cb x) (k.pb.cb x)⟩,fun x g=>(List.mem_append.1 g).elim (h.vr x) (k.vr x)⟩,u,j,hb⟩
def xC {x:Rat} (h:PV n d b 1000 p) (k:Bd c [x]) (B:n<=100000) (u:d<=100) (hb:(b+c+1)*(n+1)<=60000000000000):Is (p.map fun m=>(m.1*x,m.2)):=
 ⟨n,d,b+c,⟨⟨by rw[List.length_map];exact h.pb.len,fun z j=>by obtain⟨y,g,rfl⟩:=List.mem_map.1 j;exact h.pb.Fh y g,fun z j=>by obtain⟨y,g,rfl⟩:=List.mem_map.1 j;exact Ss (h.pb.cb y g) k⟩,fun z j=>by obtain⟨y,g,rfl⟩:=List.mem_map.1 j;exact h.vr y g⟩,B,u,hb⟩
def qV (p q:List Mo):(p.flatMap fun m=>GB m q).length=p.length*q.length:=by
 induction p with
 | nil=>simp
 | cons y p g=>rw[List.flatMap_cons,List.length_append,g,List.length_cons,Nat.succ_mul,GB,List.length_map];omega
def wz (h:PV n d b 1000 p) (k:PV m e c 1000 q) (F:n*m<=100000) (D:d+e<=100) (hb:(b+c+1)*(n*m+1)<=60000000000000):Is (p.flatMap fun m=>GB m q):=by
 have g:∀x∈p.flatMap (fun m=>GB m q),∃y∈p,∃z∈q,x=(y.1*z.1,y.2++z.2):=fun x g=>by
  obtain⟨y,j,g⟩:=List.mem_flatMap.1 g;obtain⟨z,u,rfl⟩:=List.mem_map.1 g;exact⟨y,j,z,u,rfl⟩
 refine⟨n*m,d+e,b+c,⟨⟨by rw[qV];exact Nat.mul_le_mul h.pb.len k.pb.len,fun x B=>?_,fun x B=>?_⟩,fun x B v G=>?_⟩,F,D,hb⟩ <;> obtain⟨y,j,z,u,rfl⟩:=g x B
 ·show (y.2++z.2).length<=_;rw[List.length_append];exact Nat.add_le_add (h.pb.Fh y j) (k.pb.Fh z u)
 ·exact Ss (h.pb.cb y j) (k.pb.cb z u)
 exact (List.mem_append.1 G).elim (h.vr y j v) (k.vr z u v)
end
def PV.at {n d b:Nat} {p:List Mo} (h:PV n d b 1000 p) (hb:b<=60000000000000) {m:Mo} (hm:m∈p):Ch m.1/\m.2.length<=d:=⟨Su (h.pb.cb m hm) hb,h.pb.Fh m hm⟩
def BH (p:List Mo):List (el (.pr AJ (.sl .i64))):=p.map fun m=>(rp m.1,m.2)
def moK (p:List Mo):∃z,z=BH p:=⟨_,rfl⟩
def Jk (p:List Mo):(BH p).length=p.length:=List.length_map _
def WN (p q:List Mo):BH (p++q)=BH p++BH q:=List.map_append
def Jj {p:List Mo} {i:Nat} {x:el (.pr AJ (.sl .i64))} (h:(BH p)[i]? =some x):∃m,p[i]? =some m/\x=(rp m.1,m.2):=by
 unfold BH at h;rw[List.getElem?_map] at h;cases e:p[i]? with
 | none=>rw[e] at h;cases h
 | some m=>rw[e] at h;exact⟨m,rfl,(Option.some.inj h).symm⟩
def so (p:List Mo) (i:Nat) (m:Mo):BH (p.set i m)=(BH p).set i (rp m.1,m.2):=List.map_set
def sj (p:List Mo) (i:Nat) (m:Mo):BH (p.take i++m::p.drop i)=(BH p).take i++((rp m.1,m.2)::(BH p).drop i):=by
 unfold BH;rw[List.map_append,List.map_cons,List.map_take,List.map_drop]
def GJ.le2 {l out:List Int} {i k:Nat} {a b:Int} (h:GJ l out i k) (u:0<k) (ha:out[k-1]? =some a) (hb:out[k]? =some b) (g:¬a>b):out=DP (l.take (i+1))++l.drop (i+1):=by
 obtain⟨j,rfl⟩:∃j,k=j+1:=⟨k-1,AA⟩
 exact h.le ha hb g
def GJ.gt2 {l out:List Int} {i k:Nat} {a b:Int} (h:GJ l out i k) (u:0<k) (ha:out[k-1]? =some a) (hb:out[k]? =some b) (g:a>b):GJ l ((out.set (k-1) b).set k a) i (k-1):=by
 obtain⟨j,rfl⟩:∃j,k=j+1:=⟨k-1,AA⟩
 exact h.gt ha hb g
abbrev AP:T:= .pr AJ (.sl .i64)
def ct {c l1 l2 l3:List (el AP)} {o:List Mo} {m:Mo} {x:el AP} {v:List Int} {k:Nat} (j:c=BH o) (z:x=(rp m.1,m.2)) (u:v=DP m.2) (g:l1=[]++c.take k) (h:l2=l1++[(x.1,v)]) (h3:l3=l2++c.drop k):l3=BH (o.take k++(m.1,DP m.2)::o.drop k):=by
 rw[h3,h,g,j,sj,z,u];simp
def wa {c l1:List (el AP)} {o:List Mo} {m:Mo} {k:Nat} {q:Rat} {b1 b2:Bool} {l2 l3:List UInt32} {v:List Int} (h:c=BH o) (u:Bn q b1 l2 b2 l3) (j:v=m.2) (g:l1=c.set k (((b1,l2),(b2,l3)),v)):l1=BH (o.set k (q,m.2)):=by
 rw[g,so,u.rp,h,j]
def Jh (o:List Mo) (j:Nat):List Mo:=(o.take j).filter fun m=>decide (m.1≠0)
def rq {o:List Mo} {j:Nat} {m:Mo} (h:o[j]? =some m) (g:m.1≠0):Jh o (j+1)=Jh o j++[m]:=by
 unfold Jh;rw[List.take_add_one,h,List.filter_append];simp[g]
def rm {o:List Mo} {j:Nat} {m:Mo} (h:o[j]? =some m) (g:m.1=0):Jh o (j+1)=Jh o j:=by
 unfold Jh;rw[List.take_add_one,h,List.filter_append];simp[g]
def rl {o:List Mo} {j:Nat} (h:o.length<=j):Jh o j=o.filter fun m=>decide (m.1≠0):=by unfold Jh;rw[List.take_of_length_le h]
def rn (o:List Mo) (j:Nat):(Jh o j).length<=o.length:=Nat.le_trans (List.length_filter_le _ _) (List.length_take_le' _ _)
def sq {c l1:List (el AP)} {o:List Mo} {m:Mo} {x:el AP} (h:c=BH o) (j:x=(rp m.1,m.2)) (g:l1=c++[x]):l1=BH (o++[m]):=by rw[g,h,j,WN];rfl
def iR {q:Rat} {r:Int} (h:r=Ef q):r=0↔q=0:=by
 rw[h];unfold Ef DI;rw[<-Rat.num_eq_zero]
 split
 ·omega
 split <;> omega
def qW {p q:List Mo} {i:Nat} {m:Mo} (h:p[i]? =some m):(p.take (i+1)).flatMap (fun m=>GB m q)=(p.take i).flatMap (fun m=>GB m q)++GB m q:=by
 rw[List.take_add_one,h,List.flatMap_append];simp
def ud {m:Mo} {q:List Mo} {i:Nat} {n:Mo} (h:q[i]? =some n):GB m (q.take (i+1))=GB m (q.take i)++[(m.1*n.1,m.2++n.2)]:=by
 unfold GB;rw[List.take_add_one,h,List.map_append];rfl
def uc {m:Mo} {q:List Mo} {i:Nat} (h:q.length<=i):GB m (q.take i)=GB m q:=by rw[List.take_of_length_le h]
def wW {p:List Mo} {c:Rat} {i:Nat} {m:Mo} (h:p[i]? =some m):(p.take (i+1)).map (fun m=>(m.1*c,m.2))=(p.take i).map (fun m=>(m.1*c,m.2))++[(m.1*c,m.2)]:=by
 rw[List.take_add_one,h,List.map_append];rfl
def du {c l1:List (el AP)} {o:List Mo} {q:Rat} {b1 b2:Bool} {l2 l3:List UInt32} {v u:List Int} (h:c=BH o) (z:Bn q b1 l2 b2 l3) (j:v=u) (g:l1=c++[(((b1,l2),(b2,l3)),v)]):l1=BH (o++[(q,u)]):=by rw[g,h,j,WN,<-z.rp];rfl
def wZ {bk:Nat->Option BD} {g:List Nat} {n:Nat} {t:T} {l:List (el t)} (h:n=l.length):Sc bk g (if n=l.length then .one (.sl t l) else .one .Cb)= .one (.sl t l):=by rw[if_pos h];rfl
def oK (b:List Int):IQ [] b=0:=by cases b <;> simp[IQ]
def Zv {a b:List Int} (h:a.length=b.length):Hy a b=IQ a b:=if_neg (Decidable.not_not.2 h)
def oM {a b:List Int} (h:a.length≠b.length):Hy a b=a.length-b.length:=if_pos h
end
section
section
variable {TT:AG->Prop} {w:AG} {R b c M q p:Nat} {cr:List (el Ae)} {ρ:Int->Re}
def OQ (cr:List (el Ae)) (vs:List Int) (x:Nat->el Ae):Prop:=∀(j:Nat) (v:Int) (y:el Ae),vs[j]? =some v->cr[v.toNat]? =some y->CF 42 [.agg (cN (x j)),.agg (cN y)] (BK (cN (x (j+1))) 0)
def dv (F:Fm TT w R b c M q p) {kk:Nat} (G:kk+c+1<=M):∀(vs:List Int) (g:el Ae) (c0:Re) (k:Nat),(∀v∈vs,∃y,cr[v.toNat]? =some y/\Nm TT w b kk y.1 y.2 (ρ v))->Nm TT w b k g.1 g.2 c0->k+vs.length*(kk+1)+c+1<=M->
  ∃x:Nat->el Ae,x 0=g/\OQ cr vs x/\Nm TT w b (k+vs.length*(kk+1)) (x vs.length).1 (x vs.length).2 (c0*Ds ρ vs)
 | [],g,c0,k,_,B,_=>⟨fun _=>g,rfl,fun j v y h=>by simp at h,by show Nm TT w b (k+0*(kk+1)) g.1 g.2 (c0*1);rw[Nat.zero_mul,Nat.add_zero,show c0*1=c0 by grind];exact B⟩
 | v::vs,g,c0,k,D,B,K=>by
  rw[List.length_cons,Nat.succ_mul] at K;obtain⟨y,hy,ny⟩:=D v List.mem_cons_self;obtain⟨T,A,J,_,c1⟩:=Gv F B ny AA G;obtain⟨x,I,W,O⟩:=dv F G vs (T,A) (c0*ρ v) (k+kk+1) (fun u hu=>D u (List.mem_cons_of_mem _ hu)) J AA;refine⟨fun | 0=>g | j+1=>x j,rfl,fun j u z hu H=>?_,?_⟩
  ·match j with
   | 0=>
    obtain rfl:v=u:=by simpa using hu
    obtain rfl:=Option.some.inj (hy.symm.trans H)
    show Eo _ false _ [.agg (cN g),.agg (cN y)] (BK (cN (x 0)) 0)
    rw[I];exact c1
   | j+1=>exact W j u z (by simpa using hu) H
  show Nm TT w b (k+(vs.length+1)*(kk+1)) (x vs.length).1 (x vs.length).2 (c0*(ρ v*Ds ρ vs))
  rw[Nat.succ_mul,show c0*(ρ v*Ds ρ vs)=c0*ρ v*Ds ρ vs by grind,(AA:k+(vs.length*(kk+1)+(kk+1))=k+kk+1+vs.length*(kk+1))];exact O
def YF (zs:List (el Ae)) (s:Nat->el Ae):Prop:=∀(i:Nat) (z:el Ae),zs[i]? =some z->CF 32 [.agg (cN (s i)),.agg (cN z)] (BK (cN (s (i+1))) 0)
def ZN (F:Fm TT w R b c M q p) {wt:Mo->Nat}:∀(P:List Mo) (u:List (el Ae)) (g:el Ae) (c0:Re) (k:Nat),u.length=P.length->(∀(i:Nat) (m:Mo) (z:el Ae),P[i]? =some m->u[i]? =some z->Nm TT w b (wt m) z.1 z.2 (Re.ofRat m.1*Ds ρ m.2))->Nm TT w b k g.1 g.2 c0->(P.map fun m=>wt m+1).sum+k+c+1<=M->
  ∃s:Nat->el Ae,s 0=g/\YF u s/\Nm TT w b (k+(P.map fun m=>wt m+1).sum) (s P.length).1 (s P.length).2 (c0+BS ρ P)
 | [],[],g,c0,k,_,_,D,_=>⟨fun _=>g,rfl,fun j z h=>by simp at h,by show Nm TT w b (k+0) g.1 g.2 (c0+0);rw[show c0+0=c0 by grind];exact D⟩
 | m::P,z::u,g,c0,k,O,H,D,K=>by
  rw[List.map_cons,List.sum_cons] at K;obtain⟨T,A,J,_,c1⟩:=JC F D (H 0 m z rfl rfl);obtain⟨s,I,W,G⟩:=ZN F P u (T,A) (c0+Re.ofRat m.1*Ds ρ m.2) (k+wt m+1) (by simpa using O) (fun i n y G B=>H (i+1) n y (by simpa using G) (by simpa using B)) J AA;refine⟨fun | 0=>g | j+1=>s j,rfl,fun j y B=>?_,?_⟩
  ·match j with
   | 0=>
    obtain rfl:z=y:=by simpa using B
    show Eo _ false _ [.agg (cN g),.agg (cN z)] (BK (cN (s 0)) 0)
    rw[I];exact c1
   | j+1=>exact W j y (by simpa using B)
  show Nm TT w b (k+((wt m+1)+(P.map fun m=>wt m+1).sum)) (s P.length).1 (s P.length).2 (c0+(Re.ofRat m.1*Ds ρ m.2+BS ρ P))
  rw[show c0+(Re.ofRat m.1*Ds ρ m.2+BS ρ P)=c0+Re.ofRat m.1*Ds ρ m.2+BS ρ P by grind,(AA:k+(wt m+1+(P.map fun m=>wt m+1).sum)=k+wt m+1+(P.map fun m=>wt m+1).sum)];exact G
end
end
section
def UF (cr:List (el Ae)) (p:List Mo) (z:el Ae):Prop:=∃(zs:List (el Ae)) (s:Nat->el Ae),zs.length=p.length/\(∀(i:Nat) (m:Mo) (y:el Ae),p[i]? =some m->zs[i]? =some y->∃x:Nat->el Ae,x 0=([],[rp m.1])/\OQ cr m.2 x/\x m.2.length=y)/\s 0=([],[rp 0])/\YF zs s/\s p.length=z
section
variable {TT:AG->Prop} {w:AG} {R b c M q p k:Nat}
def eK (F:Fm TT w R b c M q p) (j:c<=M) {r:Rat} (h:Bd (k*b) [r]):Nm TT w b k [] [rp r] (Re.ofRat r):=by
 have G:=F.g j (Nat.le_refl c);exact⟨[],G.nil,rfl,(E5 r).symm,G8 r [],El.rat (G.BW F.top).red h⟩
def qH (F:Fm TT w R b c M q p) {cr:List (el Ae)} {ρ:Int->Re} {wt:Mo->Nat} {P:List Mo} (h:∀m∈P,∃x:Nat->el Ae,x 0=([],[rp m.1])/\OQ cr m.2 x/\Nm TT w b (wt m) (x m.2.length).1 (x m.2.length).2 (Re.ofRat m.1*Ds ρ m.2)) (J:(P.map fun m=>wt m+1).sum+c+2<=M):∃z,UF cr P z/\Nm TT w b (1+(P.map fun m=>wt m+1).sum) z.1 z.2 (BS ρ P):=by
 have h':∀m:Mo,∃x:Nat->el Ae,m∈P->x 0=([],[rp m.1])/\OQ cr m.2 x/\Nm TT w b (wt m) (x m.2.length).1 (x m.2.length).2 (Re.ofRat m.1*Ds ρ m.2):=fun m=>by
  by_cases hm:m∈P
  ·obtain⟨x,H⟩:=h m hm;exact⟨x,fun _=>H⟩
  exact⟨fun _=>([],[]),fun h=>absurd h hm⟩
 have u:∀{i:Nat} {m:Mo} {y:el Ae},P[i]? =some m->(P.map fun m=>(h' m).choose m.2.length)[i]? =some y->m∈P/\(h' m).choose m.2.length=y:=fun {i m y} hm j=>by
  rw[List.getElem?_map,hm] at j;exact⟨List.mem_of_getElem? hm,Option.some.inj j⟩
 obtain⟨s,B,G,D⟩:=ZN F (ρ:=ρ) (wt:=wt) P (P.map fun m=>(h' m).choose m.2.length) ([],[rp 0]) 0 1 (List.length_map _) (fun i m z hm I=>by
  obtain⟨g,rfl⟩:=u hm I;exact ((h' m).choose_spec g).2.2) (eK F AA (Gm (b:=1*b) (r:=0) (by decide +kernel) (by have:=F.hb;omega))) AA
 refine⟨s P.length,⟨_,s,List.length_map _,fun i m y hm j=>?_,B,G,rfl⟩,?_⟩
 ·obtain⟨g,rfl⟩:=u hm j;exact⟨(h' m).choose,((h' m).choose_spec g).1,((h' m).choose_spec g).2.1,rfl⟩
 rwa [show (0:Re)+BS ρ P=BS ρ P by grind] at D
end
def qI {Q:AG->Prop} {w:AG} (F:Fl (Tf Q) w) {cr:List (el Ae)} {ρ:Int->Re} {N:Int} (old:∀v:Int,0<=v/\v<N->∃y,cr[v.toNat]? =some y/\NF Q w 20 y (ρ v)) {n b:Nat} {P:List Mo} (h:PV n 4 b N P) (hb:b<=21000000) (g:n<=1000):∃z,UF cr P z/\NF Q w 11000000 z (BS ρ P):=by
 have hw:∀l:List Mo,(l.map fun _=>10084+1).sum=10085*l.length:=fun l=>by
  induction l with
  | nil=>rfl
  | cons m l I=>rw[List.map_cons,List.sum_cons,I,List.length_cons];omega
 have K:=h.pb.len
 suffices H:∀m∈P,∃x:Nat->el Ae,x 0=([],[rp m.1])/\OQ cr m.2 x/\Nm (Tf Q) w 2100 10084 (x m.2.length).1 (x m.2.length).2 (Re.ofRat m.1*Ds ρ m.2) from by
  obtain⟨z,u,B⟩:=qH F (wt:=fun _=>10084) H (by rw[hw];omega);exact⟨z,u,B.mono (by rw[hw];omega)⟩
 intro m hm;have J:=h.pb.Fh m hm;obtain⟨x,j,G,g⟩:=dv (cr:=cr) (ρ:=ρ) F (kk:=20) AD m.2 ([],[rp m.1]) (Re.ofRat m.1) 10000 (fun v D=>old v (h.vr m hm v D)) (eK F AD (((h.pb.cb m hm).mono hb).mono AD)) AA;exact⟨x,j,G,g.mono AA⟩
end
section
def O8 (a c r:Int):List Mo:=CA (CD (AW c a) (AW c a)) (Cd (DG r))
def pe (r:Int) (v:Rat):List Mo:=CA (DG r) (FL v)
def pf (r s:Int):List Mo:=CA (DG r) (DG s)
def O9 (a e c r:Int):List Mo:=CA (Cd (Dc (AW a e) (AW a c))) (Dz (Cd (DG r)) (CD (AW a e) (AW a e)))
def PC (c d r s:Int):List Mo:=CA (CD (AW c d) (AW c d)) (Cd (Fo (DG r) (DG s)))
section
variable {ρ:Int->Re} {a c d e r s:Int}
def p4:BS ρ (O8 a c r)=(ρ (2*a)-ρ (2*c))*(ρ (2*a)-ρ (2*c))+(ρ (2*a+1)-ρ (2*c+1))*(ρ (2*a+1)-ρ (2*c+1))-ρ r*ρ r:=by unfold O8;rw[G6,NN,K6,H4,(Du c a).1,(Du c a).2]
def p5:BS ρ (O9 a e c r)=((ρ (2*e)-ρ (2*a))*(ρ (2*c+1)-ρ (2*a+1))-(ρ (2*e+1)-ρ (2*a+1))*(ρ (2*c)-ρ (2*a)))*((ρ (2*e)-ρ (2*a))*(ρ (2*c+1)-ρ (2*a+1))-(ρ (2*e+1)-ρ (2*a+1))*(ρ (2*c)-ρ (2*a)))-ρ r*ρ r*((ρ (2*e)-ρ (2*a))*(ρ (2*e)-ρ (2*a))+(ρ (2*e+1)-ρ (2*a+1))*(ρ (2*e+1)-ρ (2*a+1))):=by
 unfold O9;rw[G6,K6,Rp,K5,K6,H4,NN,(Du a e).1,(Du a e).2,(Du a c).1,(Du a c).2]
def p6:BS ρ (PC c d r s)=(ρ (2*d)-ρ (2*c))*(ρ (2*d)-ρ (2*c))+(ρ (2*d+1)-ρ (2*c+1))*(ρ (2*d+1)-ρ (2*c+1))-(ρ r+ρ s)*(ρ r+ρ s):=by unfold PC;rw[G6,NN,K6,PD,H4,H4,(Du c d).1,(Du c d).2]
end
section
variable {n m d b c:Nat} {N:Int} {p q:List Mo}
def XO (h:PV n d b N p) (k:PV m d c N q) (g:(c+2)*m<=b):PV (n+m) d ((b+1)*(n+m)) N (CA p q):=
 ⟨XE h.pb ((XF k.pb Qp).mono Bg Bg (by rw[(AA:c+1+1=c+2)];exact g)),j4 h.vr k.vr⟩
end
structure Wk (t N:Int) (p:List Mo):Prop where
 pv:∃n b,b<=21000000/\PV n 4 b N p
 w:wP t 2 46 p<=640
section
variable {AE N t:Int} {a c d e r s:Int}
end
end
section
def EqR (kd sd:Int) (Q C:List Int) (vl:LR) (AF:List Int) (AE t:Int) (p:List Mo):Prop:=
 (kd=13/\∃a,Q=[a]/\C=[t]/\p=O8 a (CY AF C 0) (2*AE+t))\/
 (kd=14/\C=[t]/\∃q,vl=[rp q]/\p=pe (2*AE+t) q)\/
 (kd=15/\∃c d,C=[c,d]/\p=pf (2*AE+c) (2*AE+d))\/
 (kd=16/\∃a e,Q=[a,e]/\C=[t]/\p=O9 a e (CY AF C 0) (2*AE+t))\/
 (kd=17/\sd=1/\∃c d,C=[c,d]/\p=PC (CY AF C 0) (CY AF C 1) (2*AE+c) (2*AE+d))
section
variable {TT:AG->Prop} {w:AG} {R b c M q p k l:Nat}
end
section
variable {P:AG->Prop} {V:List Re} {w:AG} {cr:List (el Ae)} {AE:Int} {nc:Nat}
def FA.ndp {AF:List Int} (H:FA P w cr AE AF.length) (F:Fl (Tf P) w) {kd sd:Int} {Q C:List Int} {X:List Ex} {vl:LR} {Fg:Int} (g:∀c∈C,0<=c/\c<(AF.length:Nat)):∃b:Bool,
  Bp Tryz.prog 25 [Bf,AH Fg] (.var 0 (BN kd Q C X sd vl AF AE cr 0)) (.one (.bool b)) (.var 0 (BN kd Q C X sd vl AF AE cr 0)):=by
 have u:=H.len;have hb:=H.b;obtain⟨s,z⟩:=H.sg F;refine⟨C.all (eF Fg s),gm (q:=C.any fun c=> !eF Fg s c) ⟨AA,AA⟩ (fun _=>YL (fun c j=>?_) rfl) ?_⟩
 ·have h:=g c j;obtain⟨_,_,_,c1,_⟩:=z c h;exact vD ⟨AA,AA⟩ ⟨AA,AA⟩ (H.rd h) c1 rfl
 rw[decide_eq_true u,Bool.true_and];exact List.all_eq_not_any_not
def EK {ρ:Int->Re} {N:Int} (g:∀i:Int,0<=i/\i<N->NF P w 20 (cr.getD i.toNat ([],[])) (ρ i)) (u:2*AE<=N) {p:Int} (z:0<=p/\p<AE):VF P w 20 (Ie cr p) (ρ (2*p)) (ρ (2*p+1)):=by
 have h:=g (2*p) ⟨AA,AA⟩;have j:=g (2*p+1) ⟨AA,AA⟩;rw[(AA:(2*p).toNat=2*p.toNat)] at h;rw[(AA:(2*p+1).toNat=2*p.toNat+1)] at j;exact⟨h,j⟩
end
end
section
def HD (a b:Ar):Ar:=(Fo a.1 b.1,Fo a.2 b.2)
def Ra (a:Int) (v:Rat):List Mo:=CA (DG (2*a)) (FL v)
def Rc (a:Int) (v:Rat):List Mo:=CA (DG (2*a+1)) (FL v)
def Rd (a b:Int) (v:Rat):List Mo:=CA (CD (AW a b) (AW a b)) (Cd (FL v))
def ME (a b c:Int):List Mo:=Dc (AW b c) (AW b a)
def Rg (a b c:Int) (v:Rat):List Mo:=CA (Cd (Dc (AW b c) (AW b a))) (Dz (Cd (FL v)) (CD (AW b c) (AW b c)))
def Rh (a b c d:Int) (v:Rat):List Mo:=CA (Dc (AW a b) (AW c d)) (Dz (FL v) (CD (AW a b) (AW c d)))
def NL (a b c d:Int):List Mo:=Dc (AW a b) (AW c d)
def I5 (a b c d:Int):List Mo:=CD (AW a b) (AW c d)
def VU (a b c d:Int):List Mo:=CA (CD (AW a b) (AW a b)) (CD (AW c d) (AW c d))
def KG (a b c:Int):Ar:=HD (AW b a) (AW c a)
def RW (a b c d:Int):List Mo:=Dc (HD (AW c a) (AW c b)) (AW c d)
def RX (a b:Int):List Mo:=CA (DG (2*a+1)) (DG (2*b+1))
def RY (a b:Int):List Mo:=CA (DG (2*a)) (DG (2*b))
def RZ (c d r s:Int):List Mo:=CA (CD (AW c d) (AW c d)) (Cd (CA (DG r) (DG s)))
section
variable {ρ:Int->Re} {a b c d r s:Int} {v:Rat}
def Rq (x y:Ar):BS ρ (HD x y).1=BS ρ x.1+BS ρ y.1/\BS ρ (HD x y).2=BS ρ x.2+BS ρ y.2:=⟨PD _ _,PD _ _⟩
def p9:BS ρ (Ra a v)=ρ (2*a)-Re.ofRat v:=by unfold Ra;rw[G6,H4,PE]
def qC:BS ρ (Rc a v)=ρ (2*a+1)-Re.ofRat v:=by unfold Rc;rw[G6,H4,PE]
def qD:BS ρ (Rd a b v)=(ρ (2*b)-ρ (2*a))*(ρ (2*b)-ρ (2*a))+(ρ (2*b+1)-ρ (2*a+1))*(ρ (2*b+1)-ρ (2*a+1))-Re.ofRat v*Re.ofRat v:=by unfold Rd;rw[G6,NN,K6,PE,(Du a b).1,(Du a b).2]
def bW:BS ρ (ME a b c)=(ρ (2*c)-ρ (2*b))*(ρ (2*a+1)-ρ (2*b+1))-(ρ (2*c+1)-ρ (2*b+1))*(ρ (2*a)-ρ (2*b)):=by unfold ME;rw[Rp,(Du b c).1,(Du b c).2,(Du b a).1,(Du b a).2]
def qE:BS ρ (Rg a b c v)=BS ρ (ME a b c)*BS ρ (ME a b c)-Re.ofRat v*Re.ofRat v*((ρ (2*c)-ρ (2*b))*(ρ (2*c)-ρ (2*b))+(ρ (2*c+1)-ρ (2*b+1))*(ρ (2*c+1)-ρ (2*b+1))):=by unfold Rg ME;rw[G6,K6,K5,K6,PE,NN,(Du b c).1,(Du b c).2]
def bX:BS ρ (NL a b c d)=(ρ (2*b)-ρ (2*a))*(ρ (2*d+1)-ρ (2*c+1))-(ρ (2*b+1)-ρ (2*a+1))*(ρ (2*d)-ρ (2*c)):=by unfold NL;rw[Rp,(Du a b).1,(Du a b).2,(Du c d).1,(Du c d).2]
def NO:BS ρ (I5 a b c d)=(ρ (2*b)-ρ (2*a))*(ρ (2*d)-ρ (2*c))+(ρ (2*b+1)-ρ (2*a+1))*(ρ (2*d+1)-ρ (2*c+1)):=by unfold I5;rw[NN,(Du a b).1,(Du a b).2,(Du c d).1,(Du c d).2]
def qF:BS ρ (Rh a b c d v)=BS ρ (NL a b c d)-Re.ofRat v*BS ρ (I5 a b c d):=by unfold Rh NL I5;rw[G6,K5,PE]
def qG:BS ρ (VU a b c d)=BS ρ (I5 a b a b)-BS ρ (I5 c d c d):=G6 _ _
def bY:BS ρ (KG a b c).1=ρ (2*a)-ρ (2*b)+(ρ (2*a)-ρ (2*c))/\BS ρ (KG a b c).2=ρ (2*a+1)-ρ (2*b+1)+(ρ (2*a+1)-ρ (2*c+1)):=by
 unfold KG;rw[(Rq _ _).1,(Rq _ _).2,(Du b a).1,(Du b a).2,(Du c a).1,(Du c a).2];exact⟨rfl,rfl⟩
def pw:BS ρ (RW a b c d)=(ρ (2*a)-ρ (2*c)+(ρ (2*b)-ρ (2*c)))*(ρ (2*d+1)-ρ (2*c+1))-(ρ (2*a+1)-ρ (2*c+1)+(ρ (2*b+1)-ρ (2*c+1)))*(ρ (2*d)-ρ (2*c)):=by
 unfold RW;rw[Rp,(Rq _ _).1,(Rq _ _).2,(Du c a).1,(Du c a).2,(Du c b).1,(Du c b).2,(Du c d).1,(Du c d).2]
def px:BS ρ (RX a b)=ρ (2*a+1)-ρ (2*b+1):=by unfold RX;rw[G6,H4,H4]
def pz:BS ρ (RY a b)=ρ (2*a)-ρ (2*b):=by unfold RY;rw[G6,H4,H4]
def p7:BS ρ (RZ c d r s)=BS ρ (I5 c d c d)-(ρ r-ρ s)*(ρ r-ρ s):=by unfold RZ I5;rw[G6,K6,G6,H4,H4]
end
def Wl (N:Int) (p:List Mo):Prop:=∃n b,n<=1000/\b<=21000000/\PV n 4 b N p
def Gj {n d b:Nat} {N:Int} {p:List Mo} (h:PV n d b N p) (j:n<=1000:=by decide) (g:d<=4:=by decide) (hb:b<=21000000:=by decide):Wl N p:=⟨n,b,j,hb,h.mono Bg g Bg (Int.le_refl _)⟩
section
variable {AE N:Int} {a b c d r s:Int} {v:Rat}
def Ez.mono {n e k:Nat} {M g:Int} {x:Ar} (h:Ez n e k M x) (j:M<=g):Ez n e k g x:=⟨h.1.mono Bg Bg Bg j,h.2.mono Bg Bg Bg j⟩
def Dn (g:2*AE<=N) (ha:0<=a/\a<AE) (hb:0<=b/\b<AE):Ez 2 1 6 N (AW a b):=(Zf ha hb).mono g
def Ph {e:Nat} (g:Bd 64 [v]):PV 1 e 65 N (FL v):=(XN g).mono Bg (Nat.zero_le _) Bg (Int.le_refl _)
def y8 (h:2*AE<=N) (ha:0<=a/\a<AE) (g:Bd 64 [v]):Wl N (Ra a v):=Gj (HU (b:=65) ((GS ⟨AA,AA⟩).mono Bg Bg AD (Int.le_refl _)) (Ph g))
def y9 (h:2*AE<=N) (ha:0<=a/\a<AE) (g:Bd 64 [v]):Wl N (Rc a v):=Gj (HU (b:=65) ((GS ⟨AA,AA⟩).mono Bg Bg AD (Int.le_refl _)) (Ph g))
def zA (g:2*AE<=N) (ha:0<=a/\a<AE) (hb:0<=b/\b<AE) (h:Bd 64 [v]):Wl N (Rd a b v):=
 Gj (HU (b:=424) (GR (Dn g ha hb) (Dn g ha hb)) ((HE (Ph (e:=1) h)).mono Bg Bg AD (Int.le_refl _)))
def zB (g:2*AE<=N) (ha:0<=a/\a<AE) (hb:0<=b/\b<AE) (h:0<=c/\c<AE):Wl N (ME a b c):=Gj (LZ (Dn g hb h) (Dn g hb ha))
def zD (g:2*AE<=N) (ha:0<=a/\a<AE) (hb:0<=b/\b<AE) (h:0<=c/\c<AE) (j:Bd 64 [v]):Wl N (Rg a b c v):=
 Gj (XO (HE (LZ (Dn g hb h) (Dn g hb ha))) (Gy (HE (Ph (e:=1) j)) (GR (Dn g hb h) (Dn g hb h))) AD)
def zF (g:2*AE<=N) (ha:0<=a/\a<AE) (hb:0<=b/\b<AE) (h:0<=c/\c<AE) (j:0<=d/\d<AE):Wl N (NL a b c d):=Gj (LZ (Dn g ha hb) (Dn g h j))
def j6 (g:2*AE<=N) (ha:0<=a/\a<AE) (hb:0<=b/\b<AE) (h:0<=c/\c<AE) (j:0<=d/\d<AE):Wl N (I5 a b c d):=Gj (GR (Dn g ha hb) (Dn g h j))
def zE (g:2*AE<=N) (ha:0<=a/\a<AE) (hb:0<=b/\b<AE) (h:0<=c/\c<AE) (j:0<=d/\d<AE) (u:Bd 64 [v]):Wl N (Rh a b c d v):=
 Gj (HU (b:=3920) ((LZ (Dn g ha hb) (Dn g h j)).mono Bg Bg AD (Int.le_refl _)) ((Gy (Ph (e:=0) u) (GR (Dn g ha hb) (Dn g h j))).mono Bg AD AD (Int.le_refl _)))
def zG (g:2*AE<=N) (ha:0<=a/\a<AE) (hb:0<=b/\b<AE) (h:0<=c/\c<AE) (j:0<=d/\d<AE):Wl N (VU a b c d):=Gj (HU (GR (Dn g ha hb) (Dn g ha hb)) (GR (Dn g h j) (Dn g h j)))
def Qn {n m e k:Nat} {x y:Ar} (h:Ez n e k N x) (g:Ez m e k N y):Ez (n+m) e ((k+1)*(n+m)) N (HD x y):=⟨Pg h.1 g.1,Pg h.2 g.2⟩
def zH (g:2*AE<=N) (ha:0<=a/\a<AE) (hb:0<=b/\b<AE) (j:0<=c/\c<AE):Wl N (KG a b c).1/\Wl N (KG a b c).2:=by
 have h:=Qn (Dn g hb ha) (Dn g j ha);exact⟨Gj h.1,Gj h.2⟩
def yw (j:2*AE<=N) (ha:0<=a/\a<AE) (hb:0<=b/\b<AE) (u:0<=c/\c<AE) (z:0<=d/\d<AE):Wl N (RW a b c d):=by
 have h:=Qn (Dn j u ha) (Dn j u hb);have g:=Dn j u z;exact Gj (HU (Gy h.1 g.2) (Gy h.2 g.1))
def yy (g:2*AE<=N) (ha:0<=a/\a<AE) (hb:0<=b/\b<AE):Wl N (RX a b):=Gj (HU (b:=0) (GS ⟨AA,AA⟩) (GS ⟨AA,AA⟩))
def y0 (g:2*AE<=N) (ha:0<=a/\a<AE) (hb:0<=b/\b<AE):Wl N (RY a b):=Gj (HU (b:=0) (GS ⟨AA,AA⟩) (GS ⟨AA,AA⟩))
def y7 (g:2*AE<=N) (h:0<=c/\c<AE) (j:0<=d/\d<AE) (u:0<=r/\r<N) (z:0<=s/\s<N):Wl N (RZ c d r s):=
 Gj (HU (GR (Dn g h j) (Dn g h j)) ((HE (HU (b:=0) (GS u) (GS z))).mono Bg Bg AD (Int.le_refl _)))
end
end
section
def TX (ql:List Rat):List Mo:=match ql with | []=>[] | q::_=>FL q
def Cv (AE:Int) (C:List Int) (i:Nat):List Mo:=match C[i]? with | none=>[] | some c=>DG (2*AE+c)
def HM (AF C:List Int) (i:Nat):Int:=match C[i]? with | none=>0 | some x=>AF.getD x.toNat 0
def DT (kd sd:Int) (p q r s:Int) (v:List Mo) (w:Rat) (R S:List Mo) (c d:Int):List (List Mo):=
 if kd=1 then [CA (DG (2*p)) v,CA (DG (2*p+1)) (FL w)]
 else if kd=2 then [CA (CD (AW p q) (AW p q)) (Cd v)]
 else if kd=3 then [Dc (AW q r) (AW q p)]
 else if kd=4 then [CA (Cd (Dc (AW q r) (AW q p))) (Dz (Cd v) (CD (AW q r) (AW q r)))]
 else if kd=5 then [CA (Dc (AW p q) (AW r s)) (Dz v (CD (AW p q) (AW r s)))]
 else if kd=6 then [Dc (AW p q) (AW r s)]
 else if kd=7 then [CD (AW p q) (AW r s)]
 else if kd=8 then [CA (CD (AW p q) (AW p q)) (CD (AW r s) (AW r s))]
 else if kd=9 then [(HD (AW q p) (AW r p)).1,(HD (AW q p) (AW r p)).2]
 else if kd=10 then [Dc (HD (AW r p) (AW r q)) (AW r s),CD (AW p q) (AW r s)]
 else if kd=11 then [CA (DG (2*p+1)) (DG (2*q+1))]
 else if kd=12 then [CA (DG (2*p)) (DG (2*q))]
 else if kd=13 then [CA (CD (AW c p) (AW c p)) (Cd R)]
 else if kd=14 then [CA R v]
 else if kd=15 then [CA R S]
 else if kd=16 then [CA (Cd (Dc (AW p q) (AW p c))) (Dz (Cd R) (CD (AW p q) (AW p q)))]
 else if sd=1 then [CA (CD (AW c d) (AW c d)) (Cd (Fo R S))]
 else [CA (CD (AW c d) (AW c d)) (Cd (CA R S))]
section
variable {sd p q r s:Int} {v:List Mo} {w:Rat} {R S:List Mo} {c d:Int}
def Wz:DT 13 sd p q r s v w R S c d=[CA (CD (AW c p) (AW c p)) (Cd R)]:=by simp only[DT];simp
def tU:DT 14 sd p q r s v w R S c d=[CA R v]:=by simp only[DT];simp
def tV:DT 15 sd p q r s v w R S c d=[CA R S]:=by simp only[DT];simp
def W4:DT 16 sd p q r s v w R S c d=[CA (Cd (Dc (AW p q) (AW p c))) (Dz (Cd R) (CD (AW p q) (AW p q)))]:=by simp only[DT];simp
def tW:DT 17 1 p q r s v w R S c d=[CA (CD (AW c d) (AW c d)) (Cd (Fo R S))]:=by simp only[DT];simp
end
section
variable {AE x:Int} {C AF Q:List Int} {i:Nat}
def fx (h:C[i]? =some x):Cv AE C i=DG (2*AE+x):=by unfold Cv;rw[h]
def fy (h:C.length<=i):Cv AE C i=[]:=by unfold Cv;rw[List.getElem?_eq_none h]
def aN {y:Int} (h:C[i]? =some x) (k:AF[x.toNat]? =some y):HM AF C i=y:=by unfold HM;rw[h];show AF.getD x.toNat 0=y;rw[List.getD_eq_getElem?_getD,k];rfl
def aP (h:C.length<=i):HM AF C i=0:=by unfold HM;rw[List.getElem?_eq_none h]
def fq {n d b:Nat} {N:Int}:PV n d b N []:=⟨⟨Nat.zero_le _,fun _ h=>by simp at h,fun _ h=>by simp at h⟩,fun _ h=>by simp at h⟩
def fz (g:∀c∈C,0<=c/\c<100) (j:0<=AE/\AE<=100):PV 1 1 4 1000 (Cv AE C i):=by
 unfold Cv
 split
 ·exact fq
 rename_i c h
 have:=g c (List.mem_of_getElem? h);exact (GS ⟨AA,AA⟩).mono AD AD AD (Int.le_refl _)
def aO (h:∀x∈AF,0<=x/\x<490):0<=HM AF C i/\HM AF C i<490:=by
 unfold HM
 split
 ·decide
 rename_i c _
 rw[List.getD_eq_getElem?_getD];cases e:AF[c.toNat]? with
 | none=>decide
 | some y=>exact h y (List.mem_of_getElem? e)
def Si (h:i<4):(Q++[0,0,0,0])[i]? =some (Q.getD i 0):=by
 rw[List.getD_eq_getElem?_getD];rcases Nat.lt_or_ge i Q.length with g | g
 ·rw[List.getElem?_append_left g,List.getElem?_eq_getElem g];rfl
 rw[List.getElem?_append_right g,List.getElem?_eq_none g];have:i-Q.length=0\/i-Q.length=1\/i-Q.length=2\/i-Q.length=3:=AA
 rcases this with e | e | e | e <;> rw[e] <;> rfl
def Sj (h:∀x∈Q,0<=x/\x<490):0<=Q.getD i 0/\Q.getD i 0<490:=by
 rw[List.getD_eq_getElem?_getD];cases e:Q[i]? with
 | none=>decide
 | some y=>exact h y (List.mem_of_getElem? e)
def Iy {j k:Int} (g:0<=j/\j<490) (h:0<=k/\k<490):Ez 2 1 6 1000 (AW j k):=(Zf g h).mono AD
end
def Kn (vl:List (el AJ)) (v:List Mo):Prop:=(vl=[]/\v=[])\/∃x l,vl=rp x::l/\Bd 2100 [x]/\v=FL x
def Kn.cons {vl:List (el AJ)} {v:List Mo} (h:Kn vl v) (g:0<vl.length):∃x l,vl=rp x::l/\Bd 2100 [x]/\v=FL x:=by
 rcases h with⟨rfl,_⟩ | h
 ·simp at g
 exact h
def Kn.nil {vl:List (el AJ)} {v:List Mo} (h:Kn vl v) (g:vl.length=0):v=[]:=by
 rcases h with⟨_,e⟩ |⟨x,l,e,_⟩
 ·exact e
 rw[e] at g;simp at g
def Kn.pv {vl:List (el AJ)} {v:List Mo} (h:Kn vl v):PV 1 1 2101 1000 v:=by
 rcases h with⟨_,rfl⟩ |⟨x,l,_,hb,rfl⟩
 ·exact fq
 exact (XN hb).mono Bg AD Bg (Int.le_refl _)
end
section
end
section
variable {L U X Y Z c d:List (el AP)} {N i:Int} {b e f m n:Nat} {b1 b2:Bool} {l1 l2:List UInt32} {x:Rat}
def kL {a b:List Int} {r:Int} (ha:(∀v∈a,0<=v/\v<1000)) (hb:(∀v∈b,0<=v/\v<1000)) (G:r=Hy a b):CF 222 [.one (.sl .i64 a),.one (.sl .i64 b)] (AH r):=by
 refine AL Tryz.func222 fun E hE=>?_
 rintro n7 ⟨e7,f7⟩ n9 ⟨e9,f9⟩;refine HY (fun H=>?_) fun H=>?_
 ·rintro ah ⟨a2,f12⟩ ai ⟨a5,f14⟩ aj a7;exact AO (by rw[G,oM AA];omega)
 refine BX [] [0,1,5] [] (fun vs bl k=>∃(i':Nat) (i:Int),vs=[.one (.sl .i64 a),.one (.sl .i64 b),AH i]/\bl=[]/\(AZ i i'/\i'<=a.length)/\IQ (a.drop i') (b.drop i')=IQ a b/\k=a.length-i') (a.length-0) ⟨0,0,rfl,rfl,⟨BM 0,AA⟩,rfl,rfl⟩ ?_;rintro J0 D vs bl ae ⟨i',i,rfl,rfl,⟨hi,ab⟩,F,ad⟩;have ei:=hi.eq;refine Af ?_;rintro ak ⟨a6,f18⟩;refine Bi (fun I=>?_) fun I=>?_
 ·exact AO (by rw[G,Zv AA,<-F,List.drop_of_length_le AA,oK])
 refine .inr ?_;refine BA i' fun O g=>?_
 try conv=>cbv
 refine BA i' fun T h=>?_
 try conv=>cbv
 have af:=ha _ (List.mem_of_getElem? g);have ag:=hb _ (List.mem_of_getElem? h);refine AM ?_;intro K j;cases K <;> conv=>cbv
 ·have B:=Ib j;refine AM ?_;intro J a8;exact Bj D ⟨i'+1,J,rfl,rfl,⟨⟨AA⟩,AA⟩,by rw[<-F,Zt (i:=i') g h,if_neg AA],rfl⟩
 have B:=Ic j;refine BA i' fun W u=>?_
 try conv=>cbv
 refine BA i' fun a1 z=>?_
 try conv=>cbv
 have an:@Eq Int W O:=Option.some.inj (u.symm.trans g);have ao:@Eq Int a1 T:=Option.some.inj (z.symm.trans h);refine AM ?_;intro al aa;exact AO (by rw[G,Zv AA,<-F,Zt (i:=i') g h,if_pos B];omega)
def zd {l L:List Int} (hl:l.length<=100000) (hL:L=DP l):CF 221 [.one (.sl .i64 l)] (.one (.sl .i64 L)):=by
 refine AL Tryz.func221 fun E hE=>?_
 refine⟨[],fun _=>⟨rfl,AD,rfl,trivial⟩,.inl ?_⟩;try conv=>cbv
 refine .inl ⟨l,fun _=>⟨rfl,by (first | rfl | omega),rfl,Ck (0+l.length) 8⟩,?_⟩;intro (l8:List (el .i64)) n8 aa;have I:l8=([]:List (el .i64))++(l:List (el .i64)):=aa.1;have ai:n8=List.length (α:=(el .i64)) l8:=aa.2;conv=>cbv
 refine BX [] [3,4] [6] (fun vs bl k=>∃(o:List Int) (i':Nat) (i:Int),vs=[.one (.Aj .i64 6 0 0 n8),AH i]/\bl=[.arr 0 .i64 o]/\(AZ i i'/\i'<=l.length/\o.length=l.length)/\o=DP (l.take i')++l.drop i'/\k=l.length-i') (l.length-0) ⟨l8,0,0,rfl,rfl,⟨BM 0,AA,by rw[I];rfl⟩,by rw[I];rfl,rfl⟩ ?_;rintro J0 a2 vs bl aO ⟨o,i',i,rfl,rfl,⟨hi,aI,aM⟩,ho,aJ⟩;conv=>cbv
 have ei:=hi.eq;have aL:n8=l.length:=by rw[ai,I];rfl
 intro aQ ae;have aC:=ae.eq;conv=>cbv
 refine Bi (fun aj=>?_) fun aj=>?_
 ·exact AN ⟨⟨rfl,.inl ⟨_,rfl,AA,congrArg _ (by rw[hL,List.drop_zero,List.take_of_length_le AA,xw ho AA])⟩,trivial⟩,trivial⟩
 refine .inr ?_;refine BX [] [3,4,5] [6] (fun vs bl k=>∃(g:List Int) (k':Nat) (kk:Int),vs=[.one (.Aj .i64 6 0 0 n8),AH i,AH kk]/\bl=[.arr 0 .i64 g]/\AZ kk k'/\GJ l g i' k'/\k=k') i' ⟨o,i',i,rfl,rfl,hi,GJ.start ho AA,rfl⟩ ?_;rintro J1 ag vs bl aP ⟨g,k',kk,rfl,rfl,ah,hS,aK⟩;conv=>cbv
 have aD:=ah.eq;obtain⟨a5,aN⟩:=hS.len;refine Fu (fun ak=>?_) fun ak=>?_
 ·intro W af;exact Bj a2 ⟨g,i'+1,W,rfl,rfl,⟨⟨AA⟩,AA,a5⟩,GJ.zero (by rw[<-show k'=0 by omega];exact hS),rfl⟩
 intro aR aE J aw;obtain⟨ab,h⟩:=CE (l:=g) (i:=J) AA;refine⟨ab,fun _=>h,?_⟩;refine AM ?_;intro K ax;obtain⟨ad,j⟩:=CE (l:=g) (i:=K) AA;refine⟨ad,fun _=>j,?_⟩;refine AM ?_;intro an a1;cases an <;> conv=>cbv
 ·have al:=Gs a1;refine AM ?_;intro W af;exact Bj a2 ⟨g,i'+1,W,rfl,rfl,⟨⟨AA⟩,AA,a5⟩,hS.le2 AA (by rw[(AA:k'-1=J)];exact h) (by rw[(AA:k'=K)];exact j) AA,rfl⟩
 have al:=Gt a1;refine .inr ?_;refine AM ?_;intro aS aG O ay;obtain⟨D,u⟩:=CE (l:=g) (i:=O) AA;refine⟨D,fun _=>u,?_⟩;refine AM ?_;intro aT aH T az;obtain⟨F,z⟩:=CE (l:=g) (i:=T) AA;refine⟨F,fun _=>z,?_⟩;try conv=>cbv
 have ar:F=ab:=Option.some.inj (z.symm.trans (by rw[(AA:T=J)];exact h));have aq:D=ad:=Option.some.inj (u.symm.trans (by rw[(AA:O=K)];exact j));refine AM ?_;intro a6 aA;refine⟨D,fun _=>⟨by show _<List.length (α:=(el .i64)) g;(first | omega | (simp;omega)),DB⟩,?_⟩;intro (B:List (el .i64)) (G:B=List.set (α:=(el .i64)) g a6 D);have au:B.length=g.length:=by rw[G,List.length_set]
 refine AM ?_;intro a7 aB;refine⟨F,fun _=>⟨by show _<List.length (α:=(el .i64)) B;(first | omega | (simp;omega)),DB⟩,?_⟩;intro (a8:List (el .i64)) (H:a8=List.set (α:=(el .i64)) B a7 F);have av:a8.length=B.length:=by rw[H,List.length_set]
 refine AM ?_;intro ao aF;exact Bj ag ⟨_,k'-1,ao,rfl,rfl,⟨AA⟩,by rw[H,G,(AA:a6=k'-1),(AA:a7=k')];exact hS.gt2 AA (by rw[(AA:k'-1=T)];exact z) (by rw[(AA:k'=O)];exact u) (by rw[aq,ar];omega),rfl⟩
def UA {l:List Mo} {lc:List (el AP)} {nl:Nat} (h:Is l) (hl:lc=BH l) (cj:nl=lc.length) (hL:L=BH (Kd l)):Cz Tryz.prog 165 [.one (.Aj AP 0 0 0 nl)] (.arr 0 AP lc) (.one (.sl AP L)):=by
 have cg:lc.length=l.length:=by rw[hl,Jk]
 have ch:=h.len;refine DW Tryz.func165 fun E hE=>?_
 conv=>cbv
 refine⟨[],fun _=>⟨rfl,AD,rfl,trivial⟩,.inl ?_⟩;try conv=>cbv
 refine BX [(3,AP,true)] [0,3,4] [0,3,68] (fun vs bl k=>∃(o:List Mo) (c:List (el AP)) (X:AV) (B3 aJ:BD) (m i':Nat) (i:Int),vs=[.one (.Aj AP 0 0 0 nl),X,AH i]/\bl=[.arr 0 AP lc,B3,aJ]/\(AZ i i'/\i'<=l.length/\m=c.length)/\(c=BH o/\o=Kc (l.take i'))/\((X= .one (.Aj AP 3 0 0 m)/\B3= .arr 0 AP c)\/(X= .one (.Aj AP 68 0 0 m)/\aJ= .arr 0 AP c/\∃c3,B3= .arr 0 AP c3))/\k=l.length-i') (l.length-0) ⟨[],[],_,_,_,0,0,0,rfl,rfl,⟨BM 0,AA,rfl⟩,⟨rfl,rfl⟩,.inl ⟨rfl,rfl⟩,rfl⟩ ?_;rintro J0 aN vs bl ck ⟨o,c,X,B3,aJ,m,i',i,rfl,rfl,⟨hi,c9,hm⟩,⟨hc,ho⟩,hX,cb⟩;conv=>cbv
 have ei:=hi.eq;obtain⟨af,bI⟩:=h.pre i';rw[<-ho] at af bI;have bG:c.length=o.length:=by rw[hc,Jk]
 intro cp bD;have c2:=bD.eq;conv=>cbv
 refine Bi (fun bL=>?_) fun bL=>?_
 ·refine⟨[],fun _=>⟨rfl,AD,rfl,trivial⟩,.inl ?_⟩;try conv=>cbv
  refine .inr ?_;obtain⟨J2,ay⟩:=xJ fun vs bl k=>∃(K:List (el AP)) (n j':Nat) (j:Int),vs=[.one (.sl AP c),.one (.Aj AP 88 0 0 n),AH j]/\bl=[.arr 0 AP lc,.arr 0 AP K]/\(AZ j j'/\j'<=c.length/\n=K.length)/\K=BH (Jh o j')/\k=c.length-j'
  refine⟨[(3,AP,false)],[3,8,9],[0,88],J2,⟨c.length-0,by rw[ay];exact (by rcases hX with⟨rfl,rfl⟩ |⟨rfl,rfl,c3,rfl⟩ <;> exact⟨[],0,0,0,congrArg (fun z:AV=>([z,.one (.Aj AP 88 0 0 0),AH 0]:List AV)) (wZ hm),rfl,⟨BM 0,AA,rfl⟩,rfl,rfl⟩)⟩,?_⟩;intro vs bl cm hj;rw[ay] at hj;obtain⟨K,n,j',j,rfl,rfl,⟨hj,ca,hn⟩,hK,cd⟩:=hj;conv=>cbv
  have ej:=hj.eq;have c8:K.length<=c.length:=by rw[hK,Jk,bG];exact rn _ _
  rintro cu ⟨c5,f91⟩;conv=>cbv
  refine Bi (fun bP=>?_) fun bP=>?_
  ·refine fun _=>⟨⟨⟨⟨rfl,.inl ⟨_,rfl,AA,congrArg _ (by rw[hL,List.drop_zero,hn,List.take_length,hK,rl AA,ho,List.take_of_length_le AA];rfl)⟩,trivial⟩,trivial⟩,rfl,AS⟩,rfl⟩
  refine .inr ?_;obtain⟨u,aj⟩:=CE (l:=c) (i:=j.toNat) AA;obtain⟨bo,ab,aD⟩:=Jj (by rw[<-hc];exact aj);rw[(AA:j.toNat=j')] at ab;obtain⟨c1,_⟩:=af bo (List.mem_of_getElem? ab);refine CJ aj ?_;obtain⟨bs,a5⟩:∃z,z=Ef bo.1:=⟨_,rfl⟩
  refine AB (r:= .one (.int .i64 bs)) hE (QW (by rw[aD];exact F6 _) a5) ?_;intro bp aB;refine .inr ?_;cases bp <;> conv=>cbv
  ·have bn:=Ib aB;refine AM ?_;intro aY bF;exact Bj ay ⟨K,n,j'+1,aY,rfl,rfl,⟨⟨AA⟩,AA,hn⟩,by rw[rm ab ((iR a5).1 AA)];exact hK,rfl⟩
  have bn:=Ic aB;refine CJ aj ?_;refine⟨[(((u.1.1.1,u.1.1.2),(u.1.2.1,u.1.2.2)),u.2)],fun _=>⟨rfl,AD,rfl,AK⟩,.inl ?_⟩;try conv=>cbv
  refine .inl ⟨[(((u.1.1.1,u.1.1.2),(u.1.2.1,u.1.2.2)),u.2)],fun _=>⟨rfl,by (first | rfl | omega),⟨_,rfl,by simp <;> omega,AS⟩,Ck (K.length+1) 88⟩,?_⟩;intro (al:List (el AP)) aI aq;have aP:al=(K:List (el AP))++([(((u.1.1.1,u.1.1.2),(u.1.2.1,u.1.2.2)),u.2)]:List (el AP)):=aq.1;have aQ:aI=List.length (α:=(el AP)) al:=aq.2;refine AM ?_;intro aY bF;exact Bj ay ⟨al,aI,j'+1,aY,rfl,rfl,⟨⟨AA⟩,AA,aQ⟩,by rw[rq ab (fun e=>by have:=(iR a5).2 e;omega)];exact sq hK aD aP,rfl⟩
 refine .inr ?_;obtain⟨g,O⟩:=CE (l:=lc) (i:=i') AA;obtain⟨az,aa,a8⟩:=Jj (by rw[<-hl];exact O);obtain⟨⟨bj,bh⟩,bS⟩:=h.at (List.mem_of_getElem? aa);have bq:g.2=az.2:=by rw[a8]
 refine AM ?_;intro bJ bU;refine⟨g,fun _=>(by rw[(AA:bJ=i')];exact O),?_⟩;try conv=>cbv
 obtain⟨D,aG⟩:∃z:List Int,z=DP g.2:=⟨_,rfl⟩
 have hv:D=DP az.2:=by rw[aG,bq]
 have bk:∀v∈D,0<=v/\v<1000:=fun v hm=>bh v ((P6 az.2).mem_iff.1 (by rw[<-hv];exact hm))
 refine AB (r:= .one (.sl .i64 D)) hE (zd (by show List.length (Prod.snd _)<=_;rw[bq];omega) aG) ?_;refine .inr ?_;obtain⟨J1,aO⟩:=xJ fun vs bl k=>∃(k':Nat) (kk:Int),vs=[.one (.Aj AP 0 0 0 nl),.one (.Aj AP 3 0 0 m),AH i,.one (.sl .i64 D),AH kk]/\bl=[.arr 0 AP lc,.arr 0 AP c]/\(AZ kk k'/\k'<=c.length)/\Ir D o k'/\k=c.length-k'
 refine⟨[(3,AP,true)],[0,3,4,5,6],[0,3],J1,⟨c.length-0,by rw[aO];exact (by rcases hX with⟨rfl,rfl⟩ |⟨rfl,rfl,c3,rfl⟩ <;> exact⟨0,0,rfl,rfl,⟨BM 0,AA⟩,Ir.zero,rfl⟩)⟩,?_⟩;intro vs bl cl hj;rw[aO] at hj;obtain⟨k',kk,rfl,rfl,⟨bH,cf⟩,hP,cc⟩:=hj;conv=>cbv
 have c6:=bH.eq;intro cq bE;have c4:=bE.eq;conv=>cbv
 refine Bi (fun bM=>?_) fun bM=>?_
 ·intro bR aM;have bB:=aM.eq;conv=>cbv
  refine Dk (fun ak=>?_) fun ak=>?_
  ·exact absurd ak AA
  refine⟨[],fun _=>⟨rfl,AD,rfl,trivial⟩,.inl ?_⟩;refine AM ?_;rintro bx b6 aZ aK ⟨bf,b8⟩;refine .inl ⟨c.take k',fun _=>⟨rfl,by (first | rfl | omega),⟨_,rfl,AA,by rw[(AA:aZ=0),(AA:aK=k')];rfl⟩,by show (0+(c.take k').length)*88<=140737488355328;(try simp only[List.length_take,List.length_drop]);omega⟩,?_⟩;intro (G:List (el AP)) aW W;have I:G=([]:List (el AP))++(c.take k':List (el AP)):=W.1;have bc:aW=List.length (α:=(el AP)) G:=W.2;refine AM ?_;intro aT bb;refine⟨g,fun _=>(by rw[(AA:aT=i')];exact O),?_⟩;try conv=>cbv
  refine⟨[(((g.1.1.1,g.1.1.2),(g.1.2.1,g.1.2.2)),D)],fun _=>⟨rfl,AD,rfl,AK⟩,.inl ?_⟩;try conv=>cbv
  have aL:G.length=k':=by rw[I,List.nil_append,List.length_take];omega
  refine .inl ⟨[(((g.1.1.1,g.1.1.2),(g.1.2.1,g.1.2.2)),D)],fun _=>⟨rfl,by (first | rfl | omega),⟨_,rfl,Nat.le_refl _,rfl⟩,Ck (G.length+1) 88⟩,?_⟩;intro (H:List (el AP)) aX a1;have J:H=(G:List (el AP))++([(((g.1.1.1,g.1.1.2),(g.1.2.1,g.1.2.2)),D)]:List (el AP)):=a1.1;have bd:aX=List.length (α:=(el AP)) H:=a1.2;refine AM ?_;rintro bw bz ⟨b5,b7⟩ b0 bA ⟨bg,b9⟩;have bC:H.length=k'+1:=by rw[J,List.length_append,aL];rfl
  refine .inl ⟨c.drop k',fun _=>⟨rfl,by (first | rfl | omega),⟨_,rfl,AA,by rw[(AA:b0=k'),List.take_of_length_le (by rw[List.length_drop];omega)];rfl⟩,by show (H.length+(c.drop k').length)*88<=140737488355328;(try simp only[List.length_take,List.length_drop]);omega⟩,?_⟩;intro (a6:List (el AP)) ao a2;have ad:a6=(H:List (el AP))++(c.drop k':List (el AP)):=a2.1;have ae:ao=List.length (α:=(el AP)) a6:=a2.2;refine AM ?_;intro an b4;exact Bj aN ⟨_,a6,_,_,_,ao,i'+1,an,rfl,rfl,⟨⟨AA⟩,AA,ae⟩,⟨ct hc a8 hv I J ad,by rw[ho,Xt aa,<-ho];exact (ZK (k:=k') (by rw[<-hv];exact hP.stop (.inl AA)) (fun z hz=>by have:=EX hz;omega)).symm⟩,.inr ⟨rfl,rfl,_,rfl⟩,rfl⟩
 intro T bV;obtain⟨aA,ag⟩:=CE (l:=c) (i:=T) AA;refine⟨aA,fun _=>ag,?_⟩;try conv=>cbv
 obtain⟨m32,B,ba⟩:=Jj (by rw[<-hc];exact ag);have a7:aA.2=m32.2:=by rw[ba]
 obtain⟨bt,F⟩:∃z,z=Hy aA.2 D:=⟨_,rfl⟩
 refine AB (r:= .one (.int .i64 bt)) hE (kL (by have q:=(af m32 (List.mem_of_getElem? B)).2;rw[<-a7]at q;exact q) bk F) ?_;refine Dk (fun bN=>?_) fun bN=>?_
 ·refine .inr ?_;refine AM ?_;intro bQ c7;exact Bj aO ⟨k'+1,bQ,rfl,rfl,⟨⟨AA⟩,AA⟩,hP.up (show o[k']? =some m32 by rw[(AA:k'=T)];exact B) (by rw[<-a7,<-F];omega),rfl⟩
 intro bR aM;have bB:=aM.eq;conv=>cbv
 refine Bi (fun ak=>?_) fun ak=>?_
 ·exact absurd ak AA
 intro bm bW;obtain⟨bu,ah⟩:=CE (l:=c) (i:=bm) AA;refine⟨bu,fun _=>ah,?_⟩;try conv=>cbv
 obtain⟨cn,c0,bT⟩:=Jj (by rw[<-hc];exact ah);refine AB (r:= .one (.int .i64 bt)) hE ((by rw[show bu=aA from Option.some.inj (ah.symm.trans (by rw[(AA:bm=T)];exact ag))];exact kL (by have q:=(af m32 (List.mem_of_getElem? B)).2;rw[<-a7]at q;exact q) bk F)) ?_;refine BY (fun bO=>?_) fun bO=>?_
 ·intro aR bX;obtain⟨ar,ai⟩:=CE (l:=c) (i:=aR) AA;refine⟨ar,fun _=>ai,?_⟩;refine AM ?_;intro bK bY;refine⟨g,fun _=>(by rw[(AA:bK=i')];exact O),?_⟩;try conv=>cbv
  obtain⟨aV,aF,aC⟩:=Jj (by rw[<-hc];exact ai);have br:aV=m32:=Option.some.inj (aF.symm.trans (by rw[(AA:aR=T)];exact B));obtain⟨aw,ax,au,av,aH⟩:=Ca (aV.1+az.1);refine AB (r:= .agg [.bool aw,.sl .u32 ax,.bool au,.sl .u32 av]) hE (Ys (by rw[aC];exact F6 _) (by rw[a8];exact F6 _) (af aV (List.mem_of_getElem? aF)).1 bj rfl aH) ?_;intro aS bZ;refine⟨ar,(((aw,ax),(au,av)),ar.2),fun _=>⟨(by rw[(AA:aS=aR)];exact ai),rfl,AK⟩,?_⟩;intro (aU:List (el AP)) (aE:aU=List.set (α:=(el AP)) c aS ((((aw,ax),(au,av)),ar.2)));have b3:aU.length=c.length:=by rw[aE,List.length_set]
  refine AM ?_;intro an b4;exact Bj aN ⟨_,aU,_,_,_,m,i'+1,an,rfl,rfl,⟨⟨AA⟩,AA,by rw[b3];exact hm⟩,⟨wa (m:=m32) hc aH (show ar.2=m32.2 by rw[aC,br]) (by rw[aE,(AA:aS=k')]),by rw[ho,Xt aa,<-ho,ni (k:=k') (by rw[<-hv];exact hP.stop (.inr ⟨m32,(show o[k']? =some m32 by rw[(AA:k'=T)];exact B),by rw[<-a7,<-F];omega⟩)) (show o[k']? =some m32 by rw[(AA:k'=T)];exact B) (by rw[<-hv,<-a7,<-F];omega),br]⟩,.inl ⟨rfl,rfl⟩,rfl⟩
 refine⟨[],fun _=>⟨rfl,AD,rfl,trivial⟩,.inl ?_⟩;refine AM ?_;rintro bx b6 aZ aK ⟨bf,b8⟩;refine .inl ⟨c.take k',fun _=>⟨rfl,by (first | rfl | omega),⟨_,rfl,AA,by rw[(AA:aZ=0),(AA:aK=k')];rfl⟩,by show (0+(c.take k').length)*88<=140737488355328;(try simp only[List.length_take,List.length_drop]);omega⟩,?_⟩;intro (G:List (el AP)) aW W;have I:G=([]:List (el AP))++(c.take k':List (el AP)):=W.1;have bc:aW=List.length (α:=(el AP)) G:=W.2;refine AM ?_;intro aT bb;refine⟨g,fun _=>(by rw[(AA:aT=i')];exact O),?_⟩;try conv=>cbv
 refine⟨[(((g.1.1.1,g.1.1.2),(g.1.2.1,g.1.2.2)),D)],fun _=>⟨rfl,AD,rfl,AK⟩,.inl ?_⟩;try conv=>cbv
 have aL:G.length=k':=by rw[I,List.nil_append,List.length_take];omega
 refine .inl ⟨[(((g.1.1.1,g.1.1.2),(g.1.2.1,g.1.2.2)),D)],fun _=>⟨rfl,by (first | rfl | omega),⟨_,rfl,Nat.le_refl _,rfl⟩,Ck (G.length+1) 88⟩,?_⟩;intro (H:List (el AP)) aX a1;have J:H=(G:List (el AP))++([(((g.1.1.1,g.1.1.2),(g.1.2.1,g.1.2.2)),D)]:List (el AP)):=a1.1;have bd:aX=List.length (α:=(el AP)) H:=a1.2;refine AM ?_;rintro bw bz ⟨b5,b7⟩ b0 bA ⟨bg,b9⟩;have bC:H.length=k'+1:=by rw[J,List.length_append,aL];rfl
 refine .inl ⟨c.drop k',fun _=>⟨rfl,by (first | rfl | omega),⟨_,rfl,AA,by rw[(AA:b0=k'),List.take_of_length_le (by rw[List.length_drop];omega)];rfl⟩,by show (H.length+(c.drop k').length)*88<=140737488355328;(try simp only[List.length_take,List.length_drop]);omega⟩,?_⟩;intro (a6:List (el AP)) ao a2;have ad:a6=(H:List (el AP))++(c.drop k':List (el AP)):=a2.1;have ae:ao=List.length (α:=(el AP)) a6:=a2.2;refine AM ?_;intro an b4;exact Bj aN ⟨_,a6,_,_,_,ao,i'+1,an,rfl,rfl,⟨⟨AA⟩,AA,ae⟩,⟨ct hc a8 hv I J ad,by rw[ho,Xt aa,<-ho];exact (ZK (k:=k') (by rw[<-hv];exact hP.stop (.inr ⟨m32,(show o[k']? =some m32 by rw[(AA:k'=T)];exact B),by rw[<-a7,<-F];omega⟩)) (fun z hz=>by rw[<-Option.some.inj ((show o[k']? =some m32 by rw[(AA:k'=T)];exact B).symm.trans hz),<-hv,<-a7,<-F];omega)).symm⟩,.inr ⟨rfl,rfl,_,rfl⟩,rfl⟩
def QD {p q:List Mo} (H:PV n e b 1000 p) (I:PV m e b 1000 q) (T:n+m<=100000) (he:e<=100) (hb:(b+1)*(n+m+1)<=60000000000000) (F:c=BH p) (G:d=BH q) (O:L=BH (Fo p q)):CF 103 [.one (.sl AP c),.one (.sl AP d)] (.one (.sl AP L)):=by
 have lc:c.length<=n:=by rw[F,Jk];exact H.pb.len
 have ld:d.length<=m:=by rw[G,Jk];exact I.pb.len
 refine AL Tryz.func103 fun E K=>?_
 refine⟨[],fun _=>⟨rfl,AD,rfl,trivial⟩,.inl ?_⟩;try conv=>cbv
 refine .inl ⟨c,fun _=>⟨rfl,by (first | rfl | omega),rfl,Ck (0+c.length) 88⟩,?_⟩;intro (h:List (el AP)) n7 j;have g:h=([]:List (el AP))++(c:List (el AP)):=j.1;have W:n7=List.length (α:=(el AP)) h:=j.2;conv=>cbv
 have g7:h.length=c.length:=by rw[g];rfl
 refine .inl ⟨d,fun _=>⟨rfl,by (first | rfl | omega),rfl,Ck (h.length+d.length) 88⟩,?_⟩;intro (D:List (el AP)) J u;have z:D=(h:List (el AP))++(d:List (el AP)):=u.1;have B:J=List.length (α:=(el AP)) D:=u.2;conv=>cbv
 refine .inr (.inr (.inr (.inl ⟨5,.arr 3 AP D,[.one (.Aj AP 0 0 0 J)],.one (.sl AP L),AK,fun _=>G3 K (UA (wy H I T he hb) (by rw[z,g,F,G,WN];rfl) B (by rw[O];rfl)),?_⟩)));try conv=>cbv
 exact AN ⟨t2,trivial⟩
def zc {p:List Mo} (hp:PV n e b 1000 p) (hx:Bn x b1 l1 b2 l2) (hf:Bd f [x]) (hn:n<=100000) (he:e<=100) (hb:(b+f+1)*(n+1)<=60000000000000) (hc:c=BH p) (hL:L=BH (LW p x)):CF 166 [.one (.sl AP c),.agg (CP b1 l1 b2 l2)] (.one (.sl AP L)):=by
 have lc:c.length=p.length:=by rw[hc,Jk]
 have lp:=hp.pb.len;have a8:b+f+1<=60000000000000:=Nat.le_trans (Nat.le_mul_of_pos_right _ (Nat.succ_pos n)) hb;refine AL Tryz.func166 fun E hE=>?_
 refine BX [(5,AP,true)] [0,3,5,6] [3,5] (fun vs bl k=>∃(D:List (el AP)) (m i':Nat) (i:Int),vs=[.one (.sl AP c),.one (.BU 3 0 0),.one (.Aj AP 5 0 0 m),AH i]/\bl=[.var 0 [.bool b1,.sl .u32 l1,.bool b2,.sl .u32 l2],.arr 0 AP D]/\(AZ i i'/\i'<=p.length/\m=D.length/\D.length=i')/\D=BH ((p.take i').map fun m=>(m.1*x,m.2))/\k=p.length-i') (p.length-0) ⟨[],0,0,0,rfl,rfl,⟨BM 0,AA,rfl,rfl⟩,rfl,rfl⟩ ?_;rintro J0 a1 vs bl ad ⟨D,m,i',i,rfl,rfl,⟨hi,aa,hm,W⟩,hD,ab⟩;have ei:=hi.eq;refine Af ?_;rintro n9 ⟨e9,f9⟩;refine Bi (fun a2=>?_) fun a2=>?_
 ·refine .inr (.inr (.inr (.inl ⟨5,.arr 0 AP D,[.one (.Aj AP 0 0 0 m)],.one (.sl AP L),AK,fun _=>G3 hE (UA (xC hp hf hn he hb) (by rw[hD,List.take_of_length_le AA]) hm (by rw[hL];rfl)),?_⟩)));try conv=>cbv
  exact AN ⟨t2,trivial⟩
 refine .inr ?_;obtain⟨K,B⟩:=CE (l:=c) (i:=i.toNat) AA;obtain⟨a5,z,F⟩:=Jj (by rw[<-hc];exact B);rw[(AA:i.toNat=i')] at z;refine CJ B ?_;obtain⟨j,u,g,h,H⟩:=Ca (a5.1*x);refine AB (r:= .agg [.bool j,.sl .u32 u,.bool g,.sl .u32 h]) hE (QV (by rw[F];exact F6 _) hx (hp.at AA (List.mem_of_getElem? z)).1 (Su hf AA) rfl H) ?_;refine CJ B ?_;refine⟨[(((j,u),(g,h)),K.2)],fun _=>⟨rfl,AD,rfl,AK⟩,.inl ?_⟩;try conv=>cbv
 refine .inl ⟨[(((j,u),(g,h)),K.2)],fun _=>⟨rfl,by (first | rfl | omega),⟨_,rfl,by simp <;> omega,AS⟩,Ck (D.length+1) 88⟩,?_⟩;intro (J:List (el AP)) T I;have G:J=(D:List (el AP))++([(((j,u),(g,h)),K.2)]:List (el AP)):=I.1;have O:T=List.length (α:=(el AP)) J:=I.2;refine AM ?_;intro a6 a7;exact Bj a1 ⟨J,T,i'+1,a6,rfl,rfl,⟨⟨AA⟩,AA,O,by rw[G,List.length_append,W];rfl⟩,by rw[wW z];exact du hD H (by rw[F]) G,rfl⟩
def Gk {p q:List Mo} (H:PV n e b 1000 p) (j:PV m e f 1000 q) (hf:(f+2)*m<=b) (G:n+m<=100000) (he:e<=100) (hb:(b+1)*(n+m+1)<=60000000000000) (F:(f+2)*(m+1)<=60000000000000) (B:c=BH p) (D:d=BH q) (z:L=BH (CA p q)):CF 96 [.one (.sl AP c),.one (.sl AP d)] (.one (.sl AP L)):=by
 refine AL Tryz.func96 fun E h=>?_
 obtain⟨K,O,I,J,EH⟩:=Ca (-1);refine AB h (Ff AA (by decide +kernel) EH) ?_;obtain⟨T,g⟩:=moK (LW q (-1))
 refine AB h (zc j EH Qp AA he F D g) ?_;have u:PV m e b 1000 (LW q (-1)):=⟨(XF j.pb Qp).mono Bg Bg hf,jz j.vr⟩;refine AB (r:= .one (.sl AP L)) h (QD H u G he hb B g (by rw[z];rfl)) ?_;exact AN ⟨t2,trivial⟩
def Lo {p q:List Mo} {g:Nat} (hp:PV n e b 1000 p) (hq:PV m f g 1000 q) (hn:n*m<=100000) (he:e+f<=100) (hb:(b+g+1)*(n*m+1)<=60000000000000) (hc:c=BH p) (hd:d=BH q) (hL:L=BH (Dz p q)):CF 101 [.one (.sl AP c),.one (.sl AP d)] (.one (.sl AP L)):=by
 have lc:c.length=p.length:=by rw[hc,Jk]
 have ld:d.length=q.length:=by rw[hd,Jk]
 have aL:b+g+1<=60000000000000:=Nat.le_trans (Nat.le_mul_of_pos_right _ (Nat.succ_pos _)) hb;have aw:p.length*q.length<=100000:=Nat.le_trans (Nat.mul_le_mul hp.pb.len hq.pb.len) hn;refine AL Tryz.func101 fun E hE=>?_
 refine BX [(5,AP,true)] [0,1,5,6] [5] (fun vs bl k=>∃(D:List (el AP)) (m1 i':Nat) (i:Int),vs=[.one (.sl AP c),.one (.sl AP d),.one (.Aj AP 5 0 0 m1),AH i]/\bl=[.arr 0 AP D]/\(AZ i i'/\i'<=p.length/\m1=D.length/\D.length=i'*q.length)/\D=BH ((p.take i').flatMap (fun m=>GB m q))/\k=p.length-i') (p.length-0) ⟨[],0,0,0,rfl,rfl,⟨BM 0,AA,rfl,AS⟩,rfl,rfl⟩ ?_;rintro J0 ar vs bl aQ ⟨D,m1,i',i,rfl,rfl,⟨hi,aM,ah,aq⟩,hD,aO⟩;have ei:=hi.eq;refine Af ?_;rintro aS ⟨aH,f11⟩;refine Bi (fun ax=>?_) fun ax=>?_
 ·refine .inr (.inr (.inr (.inl ⟨5,.arr 0 AP D,[.one (.Aj AP 0 0 0 m1)],.one (.sl AP L),AK,fun _=>G3 hE (UA (wz hp hq hn he hb) (by rw[hD,List.take_of_length_le AA]) ah (by rw[hL];rfl)),?_⟩)));try conv=>cbv
  exact AN ⟨t2,trivial⟩
 refine .inr ?_;obtain⟨a1,J⟩:=CE (l:=c) (i:=i.toNat) AA;obtain⟨W,H,F⟩:=Jj (by rw[<-hc];exact J);rw[(AA:i.toNat=i')] at H;have aE:=hp.at AA (List.mem_of_getElem? H);have an:a1.2=W.2:=by rw[F]
 have hmul:i'*q.length+q.length<=100000:=by rw[<-Nat.succ_mul];exact Nat.le_trans (Nat.mul_le_mul_right _ AA) aw
 refine BX [] [0,1,5,6,7] [5] (fun vs bl k=>∃(D2:List (el AP)) (m2 j':Nat) (j:Int),vs=[.one (.sl AP c),.one (.sl AP d),.one (.Aj AP 5 0 0 m2),AH i,AH j]/\bl=[.arr 0 AP D2]/\(AZ j j'/\j'<=q.length/\m2=D2.length/\D2.length=i'*q.length+j')/\D2=BH ((p.take i').flatMap (fun m=>GB m q)++GB W (q.take j'))/\k=q.length-j') (q.length-0) ⟨D,m1,0,0,rfl,rfl,⟨BM 0,AA,ah,aq⟩,by rw[show GB W (q.take 0)=[] from rfl,List.append_nil];exact hD,rfl⟩ ?_;rintro J1 au vs bl aR ⟨D2,m2,j',j,rfl,rfl,⟨hj,aN,av,a5⟩,af,aP⟩;have ej:=hj.eq;refine Af ?_;rintro aT ⟨aI,f17⟩;refine Bi (fun ay=>?_) fun ay=>?_
 ·intro az aJ;exact Bj ar ⟨D2,m2,i'+1,az,rfl,rfl,⟨⟨AA⟩,AA,av,by rw[a5,Nat.succ_mul,(AA:j'=q.length)]⟩,by rw[qW H,<-uc (m:=W) (i:=j') (q:=q) AA];exact af,rfl⟩
 refine .inr ?_;obtain⟨a2,K⟩:=CE (l:=d) (i:=j.toNat) AA;obtain⟨ak,I,G⟩:=Jj (by rw[<-hd];exact K);rw[(AA:j.toNat=j')] at I;have aF:=hq.at AA (List.mem_of_getElem? I);have aD:a2.2=ak.2:=by rw[G]
 refine⟨[],fun _=>⟨rfl,AD,rfl,trivial⟩,.inl ?_⟩;try conv=>cbv
 refine CJ J ?_;refine .inl ⟨a1.2,fun _=>⟨rfl,by (first | rfl | omega),rfl,by show (0+a1.2.length)*8<=140737488355328;rw[an];omega⟩,?_⟩;intro (O:List (el .i64)) aB aa;have a6:O=([]:List (el .i64))++(a1.2:List (el .i64)):=aa.1;have aG:aB=List.length (α:=(el .i64)) O:=aa.2;conv=>cbv
 refine CJ K ?_;have ao:O.length=a1.2.length:=by rw[a6];rfl
 refine .inr (.inl ⟨a2.2,fun _=>⟨rfl,by (first | rfl | omega),rfl,by show (O.length+a2.2.length)*8<=140737488355328;rw[ao,an,aD];omega⟩,?_⟩);intro (T:List (el .i64)) aC ab;have ag:T=(O:List (el .i64))++(a2.2:List (el .i64)):=ab.1;have ai:aC=List.length (α:=(el .i64)) T:=ab.2;conv=>cbv
 refine⟨fun _=>ai,?_⟩;refine B8 ?_;refine CJ J ?_;refine CJ K ?_;obtain⟨z,B,h,u,a8⟩:=Ca (W.1*ak.1);refine AB (r:= .agg [.bool z,.sl .u32 B,.bool h,.sl .u32 u]) hE (QV (by rw[F];exact F6 _) (by rw[G];exact F6 _) aE.1 aF.1 rfl a8) ?_;refine⟨[(((z,B),(h,u)),T)],fun _=>⟨rfl,AD,rfl,AK⟩,.inl ?_⟩;try conv=>cbv
 refine .inl ⟨[(((z,B),(h,u)),T)],fun _=>⟨rfl,by (first | rfl | omega),⟨_,rfl,by simp <;> omega,AS⟩,Ck (D2.length+1) 88⟩,?_⟩;intro (ae:List (el AP)) al ad;have a7:ae=(D2:List (el AP))++([(((z,B),(h,u)),T)]:List (el AP)):=ad.1;have aj:al=List.length (α:=(el AP)) ae:=ad.2;refine AM ?_;intro aA aK;exact Bj au ⟨ae,al,j'+1,aA,rfl,rfl,⟨⟨AA⟩,AA,aj,by rw[a7,List.length_append,a5];rfl⟩,by rw[ud I,<-List.append_assoc];exact du af a8 (by rw[ag,a6,F,G];rfl) a7,rfl⟩
def kO (j:Bn x b1 l1 b2 l2) (hf:Bd b [x]) (hb:b<=20000000000000) (h:L=BH (FL x)):CF 93 [.agg (CP b1 l1 b2 l2)] (.one (.sl AP L)):=by
 refine AL Tryz.func93 fun E g=>?_
 refine⟨[(((b1,l1),(b2,l2)),[])],fun _=>⟨rfl,AD,rfl,⟨rfl,⟨rfl,rfl,rfl,rfl,.inr ⟨_,rfl⟩,trivial⟩,trivial⟩⟩,.inl ?_⟩;try conv=>cbv
 refine .inr (.inr (.inr (.inl ⟨5,.arr 1 AP [(((b1,l1),(b2,l2)),[])],[.one (.Aj AP 0 0 0 1)],.one (.sl AP L),AK,fun _=>G3 g (UA (w3 hf hb) (by show _=[(rp x,[])];rw[j.rp]) rfl (by rw[h];rfl)),?_⟩)));try conv=>cbv
 exact AN ⟨t2,trivial⟩
def UB {v:Int} (B:L=BH (DG v)):CF 95 [AH v] (.one (.sl AP L)):=by
 refine AL Tryz.func95 fun E z=>?_
 obtain⟨j,u,g,h,IY⟩:=Ca (1);refine AB z (Ff AA (by decide +kernel) IY) ?_;refine⟨[v],fun _=>⟨rfl,AD,rfl,⟨rfl,t1,trivial⟩⟩,.inr ?_⟩;try conv=>cbv
 refine⟨[(((j,u),(g,h)),[v])],fun _=>⟨rfl,AD,rfl,AK⟩,.inl ?_⟩;try conv=>cbv
 exact AN ⟨⟨rfl,.inl ⟨_,rfl,AS,congrArg _ (by rw[B];show [(rp 1,[v])]=_;rw[IY.rp];rfl)⟩,trivial⟩,trivial⟩
def zY {p:List Mo} (h:VR N p) (hd:∀m∈p,m.2.length<=100000) (hc:c=BH p):CF 104 [.one (.sl AP c),AH N] (.one (.bool true)):=by
 have lc:c.length=p.length:=by rw[hc,Jk]
 refine AL Tryz.func104 fun E hE=>?_
 refine BX [] [0,1,5] [] (fun vs F k=>∃(i':Nat) (i:Int),vs=[.one (.sl AP c),AH N,AH i]/\F=[]/\(AZ i i'/\i'<=p.length)/\k=p.length-i') (p.length-0) ⟨0,0,rfl,rfl,⟨BM 0,AA⟩,rfl⟩ ?_;rintro J0 a1 vs F an ⟨i',i,rfl,rfl,⟨hi,ai⟩,ak⟩;have ei:=hi.eq;refine Af ?_;rintro n9 ⟨e9,f9⟩;refine Bi (fun a5=>?_) fun a5=>?_
 ·exact AN ⟨t2,trivial⟩
 refine .inr ?_;obtain⟨D,u⟩:=CE (l:=c) (i:=i.toNat) AA;obtain⟨g,I,G⟩:=Jj (by rw[<-hc];exact u);have H:=List.mem_of_getElem? I;have T:D.2=g.2:=by rw[G]
 have B:D.2.length=g.2.length:=by rw[T]
 have ad:=hd g H;refine BX [] [0,1,5,6] [] (fun vs F k=>∃(J:Nat) (j:Int),vs=[.one (.sl AP c),AH N,AH i,AH j]/\F=[]/\(AZ j J/\J<=g.2.length)/\k=g.2.length-J) (g.2.length-0) ⟨0,0,rfl,rfl,⟨BM 0,AA⟩,rfl⟩ ?_;rintro J1 a2 vs F ao ⟨J,j,rfl,rfl,⟨hj,aj⟩,al⟩;conv=>cbv
 have ej:=hj.eq;refine CJ u ?_;rintro a8 ⟨W,f19⟩;have af:a8=(g.2.length:Int):=W.trans (congrArg _ B);refine Bi (fun a6=>?_) fun a6=>?_
 ·intro a7 ag;exact Bj a1 ⟨i'+1,a7,rfl,rfl,⟨⟨AA⟩,AA⟩,rfl⟩
 refine .inr ?_;obtain⟨ab,z⟩:=CE (l:=D.2) (i:=j.toNat) (by rw[B];omega);have ae:=h g H ab (by rw[<-T];exact List.mem_of_getElem? z);refine CJ u ?_;refine CJ z ?_;refine Dk (fun K=>?_) fun K=>?_
 ·exact absurd K AA
 refine CJ u ?_;refine CJ z ?_;refine OH (fun O=>?_) fun O=>?_
 ·exact absurd O AA
 intro aa ah;exact Bj a2 ⟨J+1,aa,rfl,rfl,⟨⟨AA⟩,AA⟩,rfl⟩
def Em (i:Int):Ar:=(DG (2*i),DG (2*i+1))
def JV (h:0<=i/\i<490):Ez 1 1 2 1000 (Em i):=⟨(GS ⟨AA,AA⟩).mono AD AD AD (Int.le_refl _),(GS ⟨AA,AA⟩).mono AD AD AD (Int.le_refl _)⟩
def Ze (h:0<=i/\i<490):Ez 1 1 4 1000 (Em i):=⟨(JV h).1.mono AD AD AD (Int.le_refl _),(JV h).2.mono AD AD AD (Int.le_refl _)⟩
def Ez.to {n' g b':Nat} {A:Ar} (h:Ez n e b N A) (j:n<=n':=by decide) (u:e<=g:=by decide) (h3:b<=b':=by decide):Ez n' g b' N A:=⟨h.1.mono j u h3 (Int.le_refl _),h.2.mono j u h3 (Int.le_refl _)⟩
def Lp (I:0<=i/\i<490) (D:X=BH (Em i).1) (F:Y=BH (Em i).2):CF 97 [AH i] (.agg [.sl AP X,.sl AP Y]):=by
 refine AL Tryz.func97 fun E j=>?_
 intro n4 u;obtain⟨G,g⟩:=moK (DG (2*i))
 refine AB (r:= .one (.sl AP G)) j (UB (by rw[g,u])) ?_;intro J z K B;obtain⟨H,h⟩:=moK (DG (2*i+1))
 refine AB (r:= .one (.sl AP H)) j (UB (by rw[h,B,z])) ?_;exact Ed (by rw[D,g];rfl) (by rw[F,h];rfl)
def JO {j:Int} (D:0<=i/\i<490) (F:0<=j/\j<490) (G:X=BH (AW i j).1) (H:Y=BH (AW i j).2):CF 94 [AH i,AH j] (.agg [.sl AP X,.sl AP Y]):=by
 refine AL Tryz.func94 fun E B=>?_
 obtain⟨u8,u⟩:=moK (Em i).1
 obtain⟨J,z⟩:=moK (Em i).2
 refine AB B (Lp D u z) ?_;obtain⟨I,g⟩:=moK (Em j).1
 obtain⟨v10,h⟩:=moK (Em j).2
 refine AB B (Lp F g h) ?_;refine AB B (Gk (b:=4) (Ze F).1 (JV D).1 AD AD AD AD AD g u G) ?_;refine AB B (Gk (b:=4) (Ze F).2 (JV D).2 AD AD AD AD AD h z H) ?_;exact AN ⟨t3,trivial⟩
def kQ {A B:Ar} {M:List (el AP)} (g:Ez 4 1 28 1000 A) (h:Ez 4 1 28 1000 B) (F:X=BH A.1) (G:Y=BH A.2) (H:Z=BH B.1) (D:U=BH B.2) (u:L=BH (Fo A.1 B.1)) (z:M=BH (Fo A.2 B.2)):CF 102 [.agg [.sl AP X,.sl AP Y],.agg [.sl AP Z,.sl AP U]] (.agg [.sl AP L,.sl AP M]):=by
 refine AL Tryz.func102 fun E j=>?_
 refine AB j (QD g.1 h.1 AD AD AD F H u) ?_;refine AB j (QD g.2 h.2 AD AD AD G D z) ?_;exact AN ⟨t3,trivial⟩
def JN {A B:Ar} (j:Ez 4 1 28 1000 A) (u:Ez 4 1 28 1000 B) (G:X=BH A.1) (H:Y=BH A.2) (I:Z=BH B.1) (F:U=BH B.2) (D:L=BH (CD A B)):CF 98 [.agg [.sl AP X,.sl AP Y],.agg [.sl AP Z,.sl AP U]] (.one (.sl AP L)):=by
 refine AL Tryz.func98 fun E z=>?_
 obtain⟨K,h⟩:=moK (Dz A.1 B.1)
 refine AB z (Lo j.1 u.1 AD AD AD G I h) ?_;obtain⟨J,g⟩:=moK (Dz A.2 B.2)
 refine AB z (Lo j.2 u.2 AD AD AD H F g) ?_;refine AB (r:= .one (.sl AP L)) z (QD (Gy j.1 u.1) (Gy j.2 u.2) AD AD AD h g (by rw[D];rfl)) ?_;exact AN ⟨t2,trivial⟩
def OI {A B:Ar} (j:Ez 4 1 28 1000 A) (u:Ez 4 1 28 1000 B) (G:X=BH A.1) (H:Y=BH A.2) (I:Z=BH B.1) (F:U=BH B.2) (D:L=BH (Dc A B)):CF 100 [.agg [.sl AP X,.sl AP Y],.agg [.sl AP Z,.sl AP U]] (.one (.sl AP L)):=by
 refine AL Tryz.func100 fun E z=>?_
 obtain⟨K,h⟩:=moK (Dz A.1 B.2)
 refine AB z (Lo j.1 u.2 AD AD AD G F h) ?_;obtain⟨J,g⟩:=moK (Dz A.2 B.1)
 refine AB z (Lo j.2 u.1 AD AD AD H I g) ?_;refine AB (r:= .one (.sl AP L)) z (Gk (b:=100000) ((Gy j.1 u.2).mono Bg Bg AD (Int.le_refl _)) (Gy j.2 u.1) AD AD AD AD AD h g (by rw[D];rfl)) ?_;exact AN ⟨t2,trivial⟩
def Lq {p:List Mo} (h:PV n e b 1000 p) (z:n*n<=100000) (he:e+e<=100) (hb:(b+b+1)*(n*n+1)<=60000000000000) (g:c=BH p) (u:L=BH (Cd p)):CF 99 [.one (.sl AP c)] (.one (.sl AP L)):=by
 refine AL Tryz.func99 fun E j=>?_
 refine AB (r:= .one (.sl AP L)) j (Lo h h z he hb g g (by rw[u];rfl)) ?_;exact AN ⟨t2,trivial⟩
end
section
section
variable {sd p q r s:Int} {v:List Mo} {w:Rat} {R S:List Mo} {c d:Int}
def Wg:DT 1 sd p q r s v w R S c d=[CA (DG (2*p)) v,CA (DG (2*p+1)) (FL w)]:=by simp only[DT];simp
def Wp:DT 2 sd p q r s v w R S c d=[CA (CD (AW p q) (AW p q)) (Cd v)]:=by simp only[DT];simp
def Wq:DT 3 sd p q r s v w R S c d=[Dc (AW q r) (AW q p)]:=by simp only[DT];simp
def Ws:DT 4 sd p q r s v w R S c d=[CA (Cd (Dc (AW q r) (AW q p))) (Dz (Cd v) (CD (AW q r) (AW q r)))]:=by simp only[DT];simp
def Wt:DT 5 sd p q r s v w R S c d=[CA (Dc (AW p q) (AW r s)) (Dz v (CD (AW p q) (AW r s)))]:=by simp only[DT];simp
def Wu:DT 6 sd p q r s v w R S c d=[Dc (AW p q) (AW r s)]:=by simp only[DT];simp
def Ww:DT 7 sd p q r s v w R S c d=[CD (AW p q) (AW r s)]:=by simp only[DT];simp
def Wx:DT 8 sd p q r s v w R S c d=[CA (CD (AW p q) (AW p q)) (CD (AW r s) (AW r s))]:=by simp only[DT];simp
def Wy:DT 9 sd p q r s v w R S c d=[(HD (AW q p) (AW r p)).1,(HD (AW q p) (AW r p)).2]:=by simp only[DT];simp
def Wh:DT 10 sd p q r s v w R S c d=[Dc (HD (AW r p) (AW r q)) (AW r s),CD (AW p q) (AW r s)]:=by simp only[DT];simp
def Wi:DT 11 sd p q r s v w R S c d=[CA (DG (2*p+1)) (DG (2*q+1))]:=by simp only[DT];simp
def Wj:DT 12 sd p q r s v w R S c d=[CA (DG (2*p)) (DG (2*q))]:=by simp only[DT];simp
def Wn (h:sd=1):DT 17 sd p q r s v w R S c d=[CA (CD (AW c d) (AW c d)) (Cd (Fo R S))]:=by subst h;exact tW
def Wo (h:sd≠1):DT 17 sd p q r s v w R S c d=[CA (CD (AW c d) (AW c d)) (Cd (CA R S))]:=by simp only[DT];simp[h]
end
def za {kd sd AE p q r s c d:Int} {Q C AF:List Int} {X:List Ex} {vl:LR} {v:List Mo} {w:Rat} {L:List (el (.sl AP))} (hk:1<=kd/\kd<=17) (h1:kd=1->vl[1]? =some (rp w)/\Bd 2100 [w]) (db:0<=AE/\AE<=100) (hQ:(∀x∈Q,0<=x/\x<490)) (fh:Q.length<=4) (hC:(∀x∈C,0<=x/\x<(AF.length:Nat))) (fg:C.length<=2) (fi:AF.length<=3) (cY:(∀x∈AF,0<=x/\x<490)) (hv:Kn vl v) (hp:p=Q.getD 0 0) (hq:q=Q.getD 1 0) (hr:r=Q.getD 2 0) (hs:s=Q.getD 3 0) (hc:c=HM AF C 0) (hd:d=HM AF C 1) (hL:L=(DT kd sd p q r s v w (Cv AE C 0) (Cv AE C 1) c d).map BH):CF 37 [.agg (cC kd Q C X sd),AQ vl,.one (.sl .i64 AF),AH AE] (.one (.sl (.sl AP) L)):=by
 have ip:0<=p/\p<490:=hp ▸ Sj hQ;have iq:0<=q/\q<490:=hq ▸ Sj hQ;have ir:0<=r/\r<490:=hr ▸ Sj hQ;have is:0<=s/\s<490:=hs ▸ Sj hQ;have ic:0<=c/\c<490:=hc ▸ aO cY;have id:0<=d/\d<490:=hd ▸ aO cY;have gv:=hv.pv;have cX:∀x∈C,0<=x/\x<100:=fun x hx=>by have:=hC x hx;omega
 have gr:PV 1 1 4 1000 (Cv AE C 0):=fz cX db;have gs:PV 1 1 4 1000 (Cv AE C 1):=fz cX db;refine AL Tryz.func37 fun E hE=>?_
 refine⟨[],fun _=>⟨rfl,AD,rfl,trivial⟩,.inl ?_⟩;try conv=>cbv
 refine .inl ⟨Q,fun _=>⟨rfl,by (first | rfl | omega),rfl,Ck (0+Q.length) 8⟩,?_⟩;intro (bu:List (el .i64)) dV bS;have bM:bu=([]:List (el .i64))++(Q:List (el .i64)):=bS.1;have e4:dV=List.length (α:=(el .i64)) bu:=bS.2;conv=>cbv
 refine⟨[(0:Int),(0:Int),(0:Int),(0:Int)],fun _=>⟨rfl,AD,rfl,AK⟩,.inl ?_⟩;try conv=>cbv
 have ff:bu.length=Q.length:=by rw[bM];rfl
 refine .inr (.inl ⟨[(0:Int),(0:Int),(0:Int),(0:Int)],fun _=>⟨rfl,by (first | rfl | omega),⟨_,rfl,Nat.le_refl _,rfl⟩,Ck (bu.length+4) 8⟩,?_⟩);intro (H:List (el .i64)) dW bT;have cZ:H=(bu:List (el .i64))++([(0:Int),(0:Int),(0:Int),(0:Int)]:List (el .i64)):=bT.1;have da:dW=List.length (α:=(el .i64)) H:=bT.2;conv=>cbv
 refine⟨fun _=>da,?_⟩;have bw:H=Q++[0,0,0,0]:=by rw[cZ,bM];rfl
 have z0:H[0]? =some p:=by rw[bw,hp];exact Si AD
 have z1:H[1]? =some q:=by rw[bw,hq];exact Si AD
 have z2:H[2]? =some r:=by rw[bw,hr];exact Si AD
 have z3:H[3]? =some s:=by rw[bw,hs];exact Si AD
 refine⟨[],fun _=>⟨rfl,AD,rfl,trivial⟩,.inr ?_⟩;refine Af ?_;rintro fk ⟨fb,f30⟩ dX cU;obtain⟨dK,a6⟩:=xK fun vs bl=>∃(V9:List (el AP)),vs=[AQ vl,.one (.sl .i64 AF),AH AE,.one (.BU 4 0 0),.one (.sl .i64 H),.one (.sl AP V9)]/\bl=[.var 0 (cC kd Q C X sd)]/\V9=BH v
 refine .inl ⟨[1,2,3,4,9,10],[4],dK,?_,?_⟩
 ·intro vs bl hj;rw[a6] at hj;obtain⟨V9,rfl,rfl,aa⟩:=hj;conv=>cbv
  refine⟨p,fun _=>⟨AA,z0⟩,?_⟩;try conv=>cbv
  refine⟨q,fun _=>⟨AA,z1⟩,?_⟩;try conv=>cbv
  obtain⟨du,h⟩:=moK (AW p q).1
  obtain⟨dy,j⟩:=moK (AW p q).2
  have g:=Iy ip iq;refine AB hE (JO ip iq h j) ?_;refine⟨q,fun _=>⟨AA,z1⟩,?_⟩;try conv=>cbv
  refine⟨r,fun _=>⟨AA,z2⟩,?_⟩;try conv=>cbv
  obtain⟨dv,I⟩:=moK (AW q r).1
  obtain⟨dz,J⟩:=moK (AW q r).2
  have T:=Iy iq ir;refine AB hE (JO iq ir I J) ?_;refine⟨q,fun _=>⟨AA,z1⟩,?_⟩;try conv=>cbv
  refine⟨p,fun _=>⟨AA,z0⟩,?_⟩;try conv=>cbv
  obtain⟨dw,an⟩:=moK (AW q p).1
  obtain⟨dA,aB⟩:=moK (AW q p).2
  have ch:=Iy iq ip;refine AB hE (JO iq ip an aB) ?_;refine⟨r,fun _=>⟨AA,z2⟩,?_⟩;try conv=>cbv
  refine⟨s,fun _=>⟨AA,z3⟩,?_⟩;try conv=>cbv
  obtain⟨dx,u⟩:=moK (AW r s).1
  obtain⟨dB,z⟩:=moK (AW r s).2
  have D:=Iy ir is;refine AB hE (JO ir is u z) ?_;refine⟨[],fun _=>⟨rfl,AD,rfl,trivial⟩,.inr ?_⟩;try conv=>cbv
  refine⟨[],fun _=>⟨rfl,AD,rfl,trivial⟩,.inr ?_⟩;refine Af ?_;rintro fl ⟨fc,f68⟩ dY cV;obtain⟨dL,a7⟩:=xK fun vs bl=>∃(R9:List (el AP)) (c9:Int),vs=[AQ vl,.one (.sl .i64 AF),AH AE,.one (.BU 4 0 0),.one (.sl .i64 H),.one (.sl AP V9),.one (.BU 11 0 0),.one (.BU 12 0 0),.one (.BU 13 0 0),.one (.BU 14 0 0),.one (.sl AP R9),.one (.sl AP []),AH c9,AH 0]/\bl=[.var 0 (cC kd Q C X sd),.var 0 [.sl AP du,.sl AP dy],.var 0 [.sl AP dv,.sl AP dz],.var 0 [.sl AP dw,.sl AP dA],.var 0 [.sl AP dx,.sl AP dB]]/\R9=BH (Cv AE C 0)/\c9=c
  refine .inl ⟨[1,2,3,4,9,10,11,12,13,14,15,16,17,18],[4,11,12,13,14],dL,?_,?_⟩
  ·intro vs bl hj;rw[a7] at hj;obtain⟨R9,c9,rfl,rfl,a5,rfl⟩:=hj;refine Af ?_;rintro fp ⟨fe,f87⟩ dZ cW;obtain⟨dM,a8⟩:=xK fun vs bl=>∃(S9:List (el AP)) (d9:Int),vs=[AQ vl,.one (.sl .i64 AF),AH AE,.one (.BU 4 0 0),.one (.sl .i64 H),.one (.sl AP V9),.one (.BU 11 0 0),.one (.BU 12 0 0),.one (.BU 13 0 0),.one (.BU 14 0 0),.one (.sl AP R9),.one (.sl AP S9),AH c9,AH d9]/\bl=[.var 0 (cC kd Q C X sd),.var 0 [.sl AP du,.sl AP dy],.var 0 [.sl AP dv,.sl AP dz],.var 0 [.sl AP dw,.sl AP dA],.var 0 [.sl AP dx,.sl AP dB]]/\S9=BH (Cv AE C 1)/\d9=d
   refine .inl ⟨[1,2,3,4,9,10,11,12,13,14,15,16,17,18],[4,11,12,13,14],dM,?_,?_⟩
   ·intro vs bl hj;rw[a8] at hj;obtain⟨S9,d9,rfl,rfl,cj,rfl⟩:=hj;conv=>cbv
    refine .inr ?_;refine BY (fun bR=>?_) fun bR=>?_
    ·refine⟨p,fun _=>⟨AA,z0⟩,?_⟩;try conv=>cbv
     obtain⟨e5,ab⟩:=moK (Em p).1
     obtain⟨ej,cn⟩:=moK (Em p).2
     have cv:=JV ip;refine AB hE (Lp ip ab cn) ?_;have hw:=h1 bR;have fj:=EX hw.1;obtain⟨bW,aC⟩:=moK (CA ((Em p).1) (v))
     refine AB hE (Gk (cv.1.mono Bg AD AD (Int.le_refl _):PV 1 1 2103 1000 _) gv AD AD AD AD AD ab aa aC) ?_;refine⟨p,fun _=>⟨AA,z0⟩,?_⟩;try conv=>cbv
     obtain⟨e6,ck⟩:=moK (Em p).1
     obtain⟨ek,ao⟩:=moK (Em p).2
     have cw:=JV ip;refine AB hE (Lp ip ck ao) ?_;refine BA 1 fun dH cu=>?_
     try conv=>cbv
     obtain⟨dC,aD⟩:=moK (FL w)
     have cD:PV 1 1 2101 1000 (FL w):=(XN hw.2).mono Bg AD Bg (Int.le_refl _);refine AB (r:= .one (.sl AP dC)) hE (kO (by rw[show dH=rp w from Option.some.inj (cu.symm.trans hw.1)];exact F6 _) hw.2 AD aD) ?_;obtain⟨bX,aE⟩:=moK (CA ((Em p).2) (FL w))
     refine AB hE (Gk (cw.2.mono Bg AD AD (Int.le_refl _):PV 1 1 2103 1000 _) cD AD AD AD AD AD ao aD aE) ?_;refine⟨[bW,bX],fun _=>⟨rfl,AD,rfl,⟨rfl,DB,⟨rfl,DB,trivial⟩⟩⟩,.inl ?_⟩;try conv=>cbv
     refine B8 ?_;exact AN ⟨⟨rfl,.inl ⟨_,rfl,by exact Nat.le_refl _,congrArg _ (by rw[hL,(AA:kd=1),Wg];show _=[bW,bX];rw[aC,aE];rfl)⟩,trivial⟩,trivial⟩
    refine BY (fun dd=>?_) fun dd=>?_
    ·obtain⟨eC,aF⟩:=moK (CD (AW p q) (AW p q))
     have cE:PV 8 2 424 1000 (CD (AW p q) (AW p q)):=GR g g;refine AB hE (JN g.to g.to h j h j aF) ?_;obtain⟨eD,aG⟩:=moK (Cd (v))
     have cF:PV 1 2 4203 1000 (Cd (v)):=HE gv;refine AB hE (Lq gv AD AD AD aa aG) ?_;obtain⟨bY,aH⟩:=moK (CA (CD (AW p q) (AW p q)) (Cd (v)))
     refine AB hE (Gk (cE.mono Bg AD AD (Int.le_refl _):PV 8 2 4205 1000 _) cF AD AD AD AD AD aF aG aH) ?_;refine⟨[bY],Cj,.inl ?_⟩;try conv=>cbv
     exact AN ⟨⟨rfl,.inl ⟨_,rfl,by exact Nat.le_refl _,congrArg _ (by rw[hL,(AA:kd=2),Wp];show _=[bY];rw[aH];rfl)⟩,trivial⟩,trivial⟩
    refine BY (fun de=>?_) fun de=>?_
    ·obtain⟨bZ,aI⟩:=moK (Dc (AW q r) (AW q p))
     refine AB hE (OI T.to ch.to I J an aB aI) ?_;refine⟨[bZ],Cj,.inl ?_⟩;try conv=>cbv
     exact AN ⟨⟨rfl,.inl ⟨_,rfl,by exact Nat.le_refl _,congrArg _ (by rw[hL,(AA:kd=3),Wq];show _=[bZ];rw[aI];rfl)⟩,trivial⟩,trivial⟩
    refine BY (fun df=>?_) fun df=>?_
    ·obtain⟨eE,aJ⟩:=moK (Dc (AW q r) (AW q p))
     have bD:PV 8 2 2152 1000 (Dc (AW q r) (AW q p)):=LZ T ch;refine AB hE (OI T.to ch.to I J an aB aJ) ?_;obtain⟨eF,aK⟩:=moK (Cd (Dc (AW q r) (AW q p)))
     have cG:PV 64 4 275520 1000 (Cd (Dc (AW q r) (AW q p))):=HE bD;refine AB hE (Lq bD AD AD AD aJ aK) ?_;obtain⟨eG,aL⟩:=moK (Cd (v))
     have bE:PV 1 2 4203 1000 (Cd (v)):=HE gv;refine AB hE (Lq gv AD AD AD aa aL) ?_;obtain⟨eH,aM⟩:=moK (CD (AW q r) (AW q r))
     have bF:PV 8 2 424 1000 (CD (AW q r) (AW q r)):=GR T T;refine AB hE (JN T.to T.to I J I J aM) ?_;obtain⟨eI,aQ⟩:=moK (Dz (Cd (v)) (CD (AW q r) (AW q r)))
     have cH:PV 8 4 37024 1000 (Dz (Cd (v)) (CD (AW q r) (AW q r))):=Gy bE bF;refine AB hE (Lo bE bF AD AD AD aL aM aQ) ?_;obtain⟨c0,aR⟩:=moK (CA (Cd (Dc (AW q r) (AW q p))) (Dz (Cd (v)) (CD (AW q r) (AW q r))))
     refine AB hE (Gk (cG.mono Bg AD AD (Int.le_refl _):PV 64 4 296208 1000 _) cH AD AD AD AD AD aK aQ aR) ?_;refine⟨[c0],Cj,.inl ?_⟩;try conv=>cbv
     refine B8 ?_;exact AN ⟨⟨rfl,.inl ⟨_,rfl,by exact Nat.le_refl _,congrArg _ (by rw[hL,(AA:kd=4),Ws];show _=[c0];rw[aR];rfl)⟩,trivial⟩,trivial⟩
    refine BY (fun dg=>?_) fun dg=>?_
    ·obtain⟨eJ,aS⟩:=moK (Dc (AW p q) (AW r s))
     have cI:PV 8 2 2152 1000 (Dc (AW p q) (AW r s)):=LZ g D;refine AB hE (OI g.to D.to h j u z aS) ?_;obtain⟨eK,aT⟩:=moK (CD (AW p q) (AW r s))
     have bG:PV 8 2 424 1000 (CD (AW p q) (AW r s)):=GR g D;refine AB hE (JN g.to D.to h j u z aT) ?_;obtain⟨eL,aU⟩:=moK (Dz (v) (CD (AW p q) (AW r s)))
     have cJ:PV 8 3 20208 1000 (Dz (v) (CD (AW p q) (AW r s))):=Gy gv bG;refine AB hE (Lo gv bG AD AD AD aa aT aU) ?_;obtain⟨c1,aV⟩:=moK (CA (Dc (AW p q) (AW r s)) (Dz (v) (CD (AW p q) (AW r s))))
     refine AB hE (Gk (cI.mono Bg AD AD (Int.le_refl _):PV 8 3 161680 1000 _) cJ AD AD AD AD AD aS aU aV) ?_;refine⟨[c1],Cj,.inl ?_⟩;try conv=>cbv
     refine B8 ?_;exact AN ⟨⟨rfl,.inl ⟨_,rfl,by exact Nat.le_refl _,congrArg _ (by rw[hL,(AA:kd=5),Wt];show _=[c1];rw[aV];rfl)⟩,trivial⟩,trivial⟩
    refine BY (fun dh=>?_) fun dh=>?_
    ·obtain⟨c2,aW⟩:=moK (Dc (AW p q) (AW r s))
     refine AB hE (OI g.to D.to h j u z aW) ?_;refine⟨[c2],Cj,.inl ?_⟩;try conv=>cbv
     exact AN ⟨⟨rfl,.inl ⟨_,rfl,by exact Nat.le_refl _,congrArg _ (by rw[hL,(AA:kd=6),Wu];show _=[c2];rw[aW];rfl)⟩,trivial⟩,trivial⟩
    refine BY (fun di=>?_) fun di=>?_
    ·obtain⟨c3,aX⟩:=moK (CD (AW p q) (AW r s))
     refine AB hE (JN g.to D.to h j u z aX) ?_;refine⟨[c3],Cj,.inl ?_⟩;try conv=>cbv
     exact AN ⟨⟨rfl,.inl ⟨_,rfl,by exact Nat.le_refl _,congrArg _ (by rw[hL,(AA:kd=7),Ww];show _=[c3];rw[aX];rfl)⟩,trivial⟩,trivial⟩
    refine BY (fun dj=>?_) fun dj=>?_
    ·obtain⟨eM,aY⟩:=moK (CD (AW p q) (AW p q))
     have cK:PV 8 2 424 1000 (CD (AW p q) (AW p q)):=GR g g;refine AB hE (JN g.to g.to h j h j aY) ?_;obtain⟨eN,aZ⟩:=moK (CD (AW r s) (AW r s))
     have cL:PV 8 2 424 1000 (CD (AW r s) (AW r s)):=GR D D;refine AB hE (JN D.to D.to u z u z aZ) ?_;obtain⟨c4,b0⟩:=moK (CA (CD (AW p q) (AW p q)) (CD (AW r s) (AW r s)))
     refine AB hE (Gk (cK.mono Bg AD AD (Int.le_refl _):PV 8 2 3408 1000 _) cL AD AD AD AD AD aY aZ b0) ?_;refine⟨[c4],Cj,.inl ?_⟩;try conv=>cbv
     refine B8 ?_;exact AN ⟨⟨rfl,.inl ⟨_,rfl,by exact Nat.le_refl _,congrArg _ (by rw[hL,(AA:kd=8),Wx];show _=[c4];rw[b0];rfl)⟩,trivial⟩,trivial⟩
    refine BY (fun dk=>?_) fun dk=>?_
    ·refine⟨q,fun _=>⟨AA,z1⟩,?_⟩;try conv=>cbv
     refine⟨p,fun _=>⟨AA,z0⟩,?_⟩;try conv=>cbv
     obtain⟨e7,ad⟩:=moK (AW q p).1
     obtain⟨en,aq⟩:=moK (AW q p).2
     have bx:=Iy iq ip;refine AB hE (JO iq ip ad aq) ?_;refine⟨r,fun _=>⟨AA,z2⟩,?_⟩;try conv=>cbv
     refine⟨p,fun _=>⟨AA,z0⟩,?_⟩;try conv=>cbv
     obtain⟨e8,ae⟩:=moK (AW r p).1
     obtain⟨eo,ar⟩:=moK (AW r p).2
     have bz:=Iy ir ip;refine AB hE (JO ir ip ae ar) ?_;obtain⟨bU,af⟩:=moK (HD (AW q p) (AW r p)).1
     obtain⟨bV,au⟩:=moK (HD (AW q p) (AW r p)).2
     have e3:=Qn bx bz;refine AB hE (kQ bx.to bz.to ad aq ae ar af au) ?_;refine⟨[bU,bV],fun _=>⟨rfl,AD,rfl,⟨rfl,DB,⟨rfl,DB,trivial⟩⟩⟩,.inl ?_⟩;try conv=>cbv
     exact AN ⟨⟨rfl,.inl ⟨_,rfl,by exact Nat.le_refl _,congrArg _ (by rw[hL,(AA:kd=9),Wy];show _=[bU,bV];rw[af,au];rfl)⟩,trivial⟩,trivial⟩
    refine BY (fun dm=>?_) fun dm=>?_
    ·refine⟨r,fun _=>⟨AA,z2⟩,?_⟩;try conv=>cbv
     refine⟨p,fun _=>⟨AA,z0⟩,?_⟩;try conv=>cbv
     obtain⟨e9,ag⟩:=moK (AW r p).1
     obtain⟨ep,av⟩:=moK (AW r p).2
     have bA:=Iy ir ip;refine AB hE (JO ir ip ag av) ?_;refine⟨r,fun _=>⟨AA,z2⟩,?_⟩;try conv=>cbv
     refine⟨q,fun _=>⟨AA,z1⟩,?_⟩;try conv=>cbv
     obtain⟨ea,ah⟩:=moK (AW r q).1
     obtain⟨er,aw⟩:=moK (AW r q).2
     have bB:=Iy ir iq;refine AB hE (JO ir iq ah aw) ?_;obtain⟨eb,ai⟩:=moK (HD (AW r p) (AW r q)).1
     obtain⟨et,ax⟩:=moK (HD (AW r p) (AW r q)).2
     have cx:=Qn bA bB;refine AB hE (kQ bA.to bB.to ag av ah aw ai ax) ?_;obtain⟨c5,b3⟩:=moK (Dc (HD (AW r p) (AW r q)) (AW r s))
     refine AB hE (OI cx D.to ai ax u z b3) ?_;obtain⟨c6,b4⟩:=moK (CD (AW p q) (AW r s))
     refine AB hE (JN g.to D.to h j u z b4) ?_;refine⟨[c5,c6],fun _=>⟨rfl,AD,rfl,⟨rfl,DB,⟨rfl,DB,trivial⟩⟩⟩,.inl ?_⟩;try conv=>cbv
     refine B8 ?_;exact AN ⟨⟨rfl,.inl ⟨_,rfl,by exact Nat.le_refl _,congrArg _ (by rw[hL,(AA:kd=10),Wh];show _=[c5,c6];rw[b3,b4];rfl)⟩,trivial⟩,trivial⟩
    refine BY (fun dn=>?_) fun dn=>?_
    ·refine⟨p,fun _=>⟨AA,z0⟩,?_⟩;try conv=>cbv
     obtain⟨ec,cl⟩:=moK (Em p).1
     obtain⟨eu,ay⟩:=moK (Em p).2
     have cy:=JV ip;refine AB hE (Lp ip cl ay) ?_;refine⟨q,fun _=>⟨AA,z1⟩,?_⟩;try conv=>cbv
     obtain⟨ed,cm⟩:=moK (Em q).1
     obtain⟨ev,az⟩:=moK (Em q).2
     have cz:=JV iq;refine AB hE (Lp iq cm az) ?_;obtain⟨c7,b5⟩:=moK (CA ((Em p).2) ((Em q).2))
     refine AB hE (Gk (cy.2.mono Bg AD AD (Int.le_refl _):PV 1 1 4 1000 _) cz.2 AD AD AD AD AD ay az b5) ?_;refine⟨[c7],Cj,.inl ?_⟩;try conv=>cbv
     refine B8 ?_;exact AN ⟨⟨rfl,.inl ⟨_,rfl,by exact Nat.le_refl _,congrArg _ (by rw[hL,(AA:kd=11),Wi];show _=[c7];rw[b5];rfl)⟩,trivial⟩,trivial⟩
    refine BY (fun dp=>?_) fun dp=>?_
    ·refine⟨p,fun _=>⟨AA,z0⟩,?_⟩;try conv=>cbv
     obtain⟨ee,aj⟩:=moK (Em p).1
     obtain⟨ew,cp⟩:=moK (Em p).2
     have cA:=JV ip;refine AB hE (Lp ip aj cp) ?_;refine⟨q,fun _=>⟨AA,z1⟩,?_⟩;try conv=>cbv
     obtain⟨ef,ak⟩:=moK (Em q).1
     obtain⟨ey,cq⟩:=moK (Em q).2
     have cB:=JV iq;refine AB hE (Lp iq ak cq) ?_;obtain⟨c8,b6⟩:=moK (CA ((Em p).1) ((Em q).1))
     refine AB hE (Gk (cA.1.mono Bg AD AD (Int.le_refl _):PV 1 1 4 1000 _) cB.1 AD AD AD AD AD aj ak b6) ?_;refine⟨[c8],Cj,.inl ?_⟩;try conv=>cbv
     refine B8 ?_;exact AN ⟨⟨rfl,.inl ⟨_,rfl,by exact Nat.le_refl _,congrArg _ (by rw[hL,(AA:kd=12),Wj];show _=[c8];rw[b6];rfl)⟩,trivial⟩,trivial⟩
    refine BY (fun dq=>?_) fun dq=>?_
    ·refine⟨p,fun _=>⟨AA,z0⟩,?_⟩;try conv=>cbv
     obtain⟨eg,W⟩:=moK (AW c9 p).1
     obtain⟨ez,a1⟩:=moK (AW c9 p).2
     have a2:=Iy ic ip;refine AB hE (JO ic ip W a1) ?_;obtain⟨eO,b7⟩:=moK (CD (AW c9 p) (AW c9 p))
     have cM:PV 8 2 424 1000 (CD (AW c9 p) (AW c9 p)):=GR a2 a2;refine AB hE (JN a2.to a2.to W a1 W a1 b7) ?_;obtain⟨eP,b8⟩:=moK (Cd (Cv AE C 0))
     have cN:PV 1 2 9 1000 (Cd (Cv AE C 0)):=HE gr;refine AB hE (Lq gr AD AD AD a5 b8) ?_;obtain⟨ca,b9⟩:=moK (CA (CD (AW c9 p) (AW c9 p)) (Cd (Cv AE C 0)))
     refine AB hE (Gk cM cN AD AD AD AD AD b7 b8 b9) ?_;refine⟨[ca],Cj,.inl ?_⟩;try conv=>cbv
     exact AN ⟨⟨rfl,.inl ⟨_,rfl,by exact Nat.le_refl _,congrArg _ (by rw[hL,(AA:kd=13),Wz];show _=[ca];rw[b9];rfl)⟩,trivial⟩,trivial⟩
    refine BY (fun dr=>?_) fun dr=>?_
    ·obtain⟨cb,ba⟩:=moK (CA (Cv AE C 0) (v))
     refine AB hE (Gk (gr.mono Bg AD AD (Int.le_refl _):PV 1 1 2103 1000 _) gv AD AD AD AD AD a5 aa ba) ?_;refine⟨[cb],Cj,.inl ?_⟩;try conv=>cbv
     exact AN ⟨⟨rfl,.inl ⟨_,rfl,by exact Nat.le_refl _,congrArg _ (by rw[hL,(AA:kd=14),tU];show _=[cb];rw[ba];rfl)⟩,trivial⟩,trivial⟩
    refine BY (fun ds=>?_) fun ds=>?_
    ·obtain⟨cc,bb⟩:=moK (CA (Cv AE C 0) (Cv AE C 1))
     refine AB hE (Gk (gr.mono Bg AD AD (Int.le_refl _):PV 1 1 6 1000 _) gs AD AD AD AD AD a5 cj bb) ?_;refine⟨[cc],Cj,.inl ?_⟩;try conv=>cbv
     exact AN ⟨⟨rfl,.inl ⟨_,rfl,by exact Nat.le_refl _,congrArg _ (by rw[hL,(AA:kd=15),tV];show _=[cc];rw[bb];rfl)⟩,trivial⟩,trivial⟩
    refine BY (fun dt=>?_) fun dt=>?_
    ·refine⟨p,fun _=>⟨AA,z0⟩,?_⟩;try conv=>cbv
     obtain⟨eh,al⟩:=moK (AW p c9).1
     obtain⟨eA,aA⟩:=moK (AW p c9).2
     have bC:=Iy ip ic;refine AB hE (JO ip ic al aA) ?_;obtain⟨eQ,bc⟩:=moK (Dc (AW p q) (AW p c9))
     have bH:PV 8 2 2152 1000 (Dc (AW p q) (AW p c9)):=LZ g bC;refine AB hE (OI g.to bC.to h j al aA bc) ?_;obtain⟨eR,bd⟩:=moK (Cd (Dc (AW p q) (AW p c9)))
     have cO:PV 64 4 275520 1000 (Cd (Dc (AW p q) (AW p c9))):=HE bH;refine AB hE (Lq bH AD AD AD bc bd) ?_;obtain⟨eS,bf⟩:=moK (Cd (Cv AE C 0))
     have bI:PV 1 2 9 1000 (Cd (Cv AE C 0)):=HE gr;refine AB hE (Lq gr AD AD AD a5 bf) ?_;obtain⟨eT,bg⟩:=moK (CD (AW p q) (AW p q))
     have bJ:PV 8 2 424 1000 (CD (AW p q) (AW p q)):=GR g g;refine AB hE (JN g.to g.to h j h j bg) ?_;obtain⟨eU,bh⟩:=moK (Dz (Cd (Cv AE C 0)) (CD (AW p q) (AW p q)))
     have cP:PV 8 4 3472 1000 (Dz (Cd (Cv AE C 0)) (CD (AW p q) (AW p q))):=Gy bI bJ;refine AB hE (Lo bI bJ AD AD AD bf bg bh) ?_;obtain⟨cd,bj⟩:=moK (CA (Cd (Dc (AW p q) (AW p c9))) (Dz (Cd (Cv AE C 0)) (CD (AW p q) (AW p q))))
     refine AB hE (Gk cO cP AD AD AD AD AD bd bh bj) ?_;refine⟨[cd],Cj,.inl ?_⟩;try conv=>cbv
     refine B8 ?_;exact AN ⟨⟨rfl,.inl ⟨_,rfl,by exact Nat.le_refl _,congrArg _ (by rw[hL,(AA:kd=16),W4];show _=[cd];rw[bj];rfl)⟩,trivial⟩,trivial⟩
    obtain⟨ei,F⟩:=moK (AW c9 d9).1
    obtain⟨eB,G⟩:=moK (AW c9 d9).2
    have B:=Iy ic id;refine AB hE (JO ic id F G) ?_;refine Cw (fun bt=>?_) fun bt=>?_
    ·obtain⟨eY,bp⟩:=moK (CD (AW c9 d9) (AW c9 d9))
     have cS:PV 8 2 424 1000 (CD (AW c9 d9) (AW c9 d9)):=GR B B;refine AB hE (JN B.to B.to F G F G bp) ?_;obtain⟨eZ,bq⟩:=moK (CA (Cv AE C 0) (Cv AE C 1))
     have bL:PV 2 1 14 1000 (CA (Cv AE C 0) (Cv AE C 1)):=XO (gr.mono Bg AD AD (Int.le_refl _):PV 1 1 6 1000 _) gs AD;refine AB hE (Gk (gr.mono Bg AD AD (Int.le_refl _):PV 1 1 6 1000 _) gs AD AD AD AD AD a5 cj bq) ?_;obtain⟨fa,br⟩:=moK (Cd (CA (Cv AE C 0) (Cv AE C 1)))
     have cT:PV 4 2 116 1000 (Cd (CA (Cv AE C 0) (Cv AE C 1))):=HE bL;refine AB hE (Lq bL AD AD AD bq br) ?_;obtain⟨cg,bs⟩:=moK (CA (CD (AW c9 d9) (AW c9 d9)) (Cd (CA (Cv AE C 0) (Cv AE C 1))))
     refine AB hE (Gk (cS.mono Bg AD AD (Int.le_refl _):PV 8 2 472 1000 _) cT AD AD AD AD AD bp br bs) ?_;refine⟨[cg],Cj,.inl ?_⟩;try conv=>cbv
     exact AN ⟨⟨rfl,.inl ⟨_,rfl,by exact Nat.le_refl _,congrArg _ (by rw[hL,(AA:kd=17),Wo bt];show _=[cg];rw[bs];rfl)⟩,trivial⟩,trivial⟩
    obtain⟨eV,bk⟩:=moK (CD (AW c9 d9) (AW c9 d9))
    have cQ:PV 8 2 424 1000 (CD (AW c9 d9) (AW c9 d9)):=GR B B;refine AB hE (JN B.to B.to F G F G bk) ?_;obtain⟨eW,bm⟩:=moK (Fo (Cv AE C 0) (Cv AE C 1))
    have bK:PV 2 1 10 1000 (Fo (Cv AE C 0) (Cv AE C 1)):=Pg gr gs;refine AB hE (QD gr gs AD AD AD a5 cj bm) ?_;obtain⟨eX,bn⟩:=moK (Cd (Fo (Cv AE C 0) (Cv AE C 1)))
    have cR:PV 4 2 84 1000 (Cd (Fo (Cv AE C 0) (Cv AE C 1))):=HE bK;refine AB hE (Lq bK AD AD AD bm bn) ?_;obtain⟨cf,bo⟩:=moK (CA (CD (AW c9 d9) (AW c9 d9)) (Cd (Fo (Cv AE C 0) (Cv AE C 1))))
    refine AB hE (Gk cQ cR AD AD AD AD AD bk bn bo) ?_;refine⟨[cf],Cj,.inl ?_⟩;try conv=>cbv
    exact AN ⟨⟨rfl,.inl ⟨_,rfl,by exact Nat.le_refl _,congrArg _ (by rw[hL,(AA:kd=17),Wn bt];show _=[cf];rw[bo];rfl)⟩,trivial⟩,trivial⟩
   cases dZ <;> conv=>cbv
   ·have dU:=Gs cW;rw[a8];exact⟨[],0,rfl,rfl,by rw[fy AA];rfl,by rw[hd,aP AA]⟩
   have dU:=Gt cW;obtain⟨dJ,O⟩:=CE (l:=C) (i:=1) AA;have ft:=hC dJ (List.mem_of_getElem? O);refine AM ?_;intro fq dQ;refine CJ O ?_;intro fr dR;obtain⟨dF,bP⟩:=moK (Cv AE C 1)
   refine AB (r:= .one (.sl AP dF)) hE (UB (by rw[bP,fx O,dR,dQ])) ?_;refine CJ O ?_;refine BA ((dJ).toNat) fun dG ct=>?_
   try conv=>cbv
   refine B8 ?_;rw[a8];exact⟨dF,dG,rfl,rfl,bP,by rw[hd,aN O ct]⟩
  cases dY <;> conv=>cbv
  ·have dT:=Gs cV;rw[a7];exact⟨[],0,rfl,rfl,by rw[fy AA];rfl,by rw[hc,aP AA]⟩
  have dT:=Gt cV;obtain⟨dI,K⟩:=CE (l:=C) (i:=0) AA;have fs:=hC dI (List.mem_of_getElem? K);refine AM ?_;intro fm dO;refine CJ K ?_;intro fo dP;obtain⟨dE,bO⟩:=moK (Cv AE C 0)
  refine AB (r:= .one (.sl AP dE)) hE (UB (by rw[bO,fx K,dP,dO])) ?_;refine CJ K ?_;refine BA ((dI).toNat) fun e2 dc=>?_
  try conv=>cbv
  refine B8 ?_;rw[a7];exact⟨dE,e2,rfl,rfl,bO,by rw[hc,aN K dc]⟩
 cases dX <;> conv=>cbv
 ·have dS:=Gs cU;rw[a6];exact⟨[],rfl,rfl,by rw[hv.nil AA];rfl⟩
 have dS:=Gt cU;refine BA 0 fun e1 bQ=>?_
 try conv=>cbv
 obtain⟨xq,lq,KG,dN,rfl⟩:∃x l,vl=rp x::l/\Bd 2100 [x]/\v=FL x:=hv.cons AA
 have e0:e1=rp xq:=by rw[KG] at bQ;exact (Option.some.inj bQ).symm
 obtain⟨dD,bN⟩:=moK (FL xq)
 refine AB (r:= .one (.sl AP dD)) hE (kO (by rw[e0];exact F6 _) dN AD bN) ?_;rw[a6];exact⟨dD,rfl,rfl,bN⟩
end
end Go.Abs
