/- Part 20 of a proof. Conditions: each theorem's own. -/
import Derived.Test.YtmifleedghiimaaGreatDoorRb18
set_option linter.all false
set_option maxHeartbeats 80000000
set_option maxRecDepth 20000
open Go.Proofs
namespace Go.Abs
open Go.RowKit
section
def Hz (ρ:Int->Re) (kd sd:Int) (Q C:List Int) (ql:List Rat) (w:Rat) (AF:List Int) (AE:Int):Prop:=∀q∈DT kd sd (Q.getD 0 0) (Q.getD 1 0) (Q.getD 2 0) (Q.getD 3 0) (TX ql) w (Cv AE C 0) (Cv AE C 1) (HM AF C 0) (HM AF C 1),BS ρ q=0
section
variable {ρ:Int->Re} {sd a b c d AE:Int} {u v w:Rat} {C Q:List Int} {ql:List Rat} {AF:List Int}
def H5 {p:List Mo}:(∀q∈[p],BS ρ q=0)↔BS ρ p=0:=AS
def Vb {p r:List Mo}:(∀q∈[p,r],BS ρ q=0)↔BS ρ p=0/\BS ρ r=0:=AS
def Et:Hz ρ 1 sd [a] C [u,v] v AF AE↔ρ (2*a)-Re.ofRat u=0/\ρ (2*a+1)-Re.ofRat v=0:=by
 unfold Hz;rw[Wg,Vb]
 show BS ρ (Ra a u)=0/\BS ρ (Rc a v)=0↔_
 rw[p9,qC]
def EB:Hz ρ 2 sd [a,b] C [v] w AF AE↔(ρ (2*b)-ρ (2*a))*(ρ (2*b)-ρ (2*a))+(ρ (2*b+1)-ρ (2*a+1))*(ρ (2*b+1)-ρ (2*a+1))-Re.ofRat v*Re.ofRat v=0:=by
 unfold Hz;rw[Wp,H5]
 show BS ρ (Rd a b v)=0↔_
 rw[qD]
def IY:Hz ρ 3 sd [a,b,c] C ql w AF AE↔(ρ (2*c)-ρ (2*b))*(ρ (2*a+1)-ρ (2*b+1))-(ρ (2*c+1)-ρ (2*b+1))*(ρ (2*a)-ρ (2*b))=0:=by
 unfold Hz;rw[Wq,H5]
 show BS ρ (ME a b c)=0↔_
 rw[bW]
def FU:Hz ρ 4 sd [a,b,c] C [v] w AF AE↔((ρ (2*c)-ρ (2*b))*(ρ (2*a+1)-ρ (2*b+1))-(ρ (2*c+1)-ρ (2*b+1))*(ρ (2*a)-ρ (2*b)))*((ρ (2*c)-ρ (2*b))*(ρ (2*a+1)-ρ (2*b+1))-(ρ (2*c+1)-ρ (2*b+1))*(ρ (2*a)-ρ (2*b)))-Re.ofRat v*Re.ofRat v*((ρ (2*c)-ρ (2*b))*(ρ (2*c)-ρ (2*b))+(ρ (2*c+1)-ρ (2*b+1))*(ρ (2*c+1)-ρ (2*b+1)))=0:=by
 unfold Hz;rw[Ws,H5]
 show BS ρ (Rg a b c v)=0↔_
 rw[qE,bW]
def GQ:Hz ρ 5 sd [a,b,c,d] C [v] w AF AE↔(ρ (2*b)-ρ (2*a))*(ρ (2*d+1)-ρ (2*c+1))-(ρ (2*b+1)-ρ (2*a+1))*(ρ (2*d)-ρ (2*c))-Re.ofRat v*((ρ (2*b)-ρ (2*a))*(ρ (2*d)-ρ (2*c))+(ρ (2*b+1)-ρ (2*a+1))*(ρ (2*d+1)-ρ (2*c+1)))=0:=by
 unfold Hz;rw[Wt,H5]
 show BS ρ (Rh a b c d v)=0↔_
 rw[qF,bX,NO]
def Vv:Hz ρ 6 sd [a,b,c,d] C ql w AF AE↔(ρ (2*b)-ρ (2*a))*(ρ (2*d+1)-ρ (2*c+1))-(ρ (2*b+1)-ρ (2*a+1))*(ρ (2*d)-ρ (2*c))=0:=by
 unfold Hz;rw[Wu,H5]
 show BS ρ (NL a b c d)=0↔_
 rw[bX]
def EH:Hz ρ 7 sd [a,b,c,d] C ql w AF AE↔(ρ (2*b)-ρ (2*a))*(ρ (2*d)-ρ (2*c))+(ρ (2*b+1)-ρ (2*a+1))*(ρ (2*d+1)-ρ (2*c+1))=0:=by
 unfold Hz;rw[Ww,H5]
 show BS ρ (I5 a b c d)=0↔_
 rw[NO]
def DR:Hz ρ 8 sd [a,b,c,d] C ql w AF AE↔(ρ (2*b)-ρ (2*a))*(ρ (2*b)-ρ (2*a))+(ρ (2*b+1)-ρ (2*a+1))*(ρ (2*b+1)-ρ (2*a+1))-((ρ (2*d)-ρ (2*c))*(ρ (2*d)-ρ (2*c))+(ρ (2*d+1)-ρ (2*c+1))*(ρ (2*d+1)-ρ (2*c+1)))=0:=by
 unfold Hz;rw[Wx,H5]
 show BS ρ (VU a b c d)=0↔_
 rw[qG,NO,NO]
def EI:Hz ρ 9 sd [a,b,c] C ql w AF AE↔ρ (2*a)-ρ (2*b)+(ρ (2*a)-ρ (2*c))=0/\ρ (2*a+1)-ρ (2*b+1)+(ρ (2*a+1)-ρ (2*c+1))=0:=by
 unfold Hz;rw[Wy,Vb]
 show BS ρ (KG a b c).1=0/\BS ρ (KG a b c).2=0↔_
 rw[bY.1,bY.2]
def PJ:Hz ρ 10 sd [a,b,c,d] C ql w AF AE↔(ρ (2*a)-ρ (2*c)+(ρ (2*b)-ρ (2*c)))*(ρ (2*d+1)-ρ (2*c+1))-(ρ (2*a+1)-ρ (2*c+1)+(ρ (2*b+1)-ρ (2*c+1)))*(ρ (2*d)-ρ (2*c))=0/\(ρ (2*b)-ρ (2*a))*(ρ (2*d)-ρ (2*c))+(ρ (2*b+1)-ρ (2*a+1))*(ρ (2*d+1)-ρ (2*c+1))=0:=by
 unfold Hz;rw[Wh,Vb]
 show BS ρ (RW a b c d)=0/\BS ρ (I5 a b c d)=0↔_
 rw[pw,NO]
def GP:Hz ρ 11 sd [a,b] C ql w AF AE↔ρ (2*a+1)-ρ (2*b+1)=0:=by
 unfold Hz;rw[Wi,H5]
 show BS ρ (RX a b)=0↔_
 rw[px]
def HP:Hz ρ 12 sd [a,b] C ql w AF AE↔ρ (2*a)-ρ (2*b)=0:=by
 unfold Hz;rw[Wj,H5]
 show BS ρ (RY a b)=0↔_
 rw[pz]
def I6:Hz ρ 13 sd [a] [c] ql w AF AE↔(ρ (2*a)-ρ (2*CY AF [c] 0))*(ρ (2*a)-ρ (2*CY AF [c] 0))+(ρ (2*a+1)-ρ (2*CY AF [c] 0+1))*(ρ (2*a+1)-ρ (2*CY AF [c] 0+1))-ρ (2*AE+c)*ρ (2*AE+c)=0:=by
 unfold Hz;rw[Wz,H5]
 show BS ρ (O8 a (CY AF [c] 0) (2*AE+c))=0↔_
 rw[p4]
def IX:Hz ρ 16 sd [a,b] [c] ql w AF AE↔((ρ (2*b)-ρ (2*a))*(ρ (2*CY AF [c] 0+1)-ρ (2*a+1))-(ρ (2*b+1)-ρ (2*a+1))*(ρ (2*CY AF [c] 0)-ρ (2*a)))*((ρ (2*b)-ρ (2*a))*(ρ (2*CY AF [c] 0+1)-ρ (2*a+1))-(ρ (2*b+1)-ρ (2*a+1))*(ρ (2*CY AF [c] 0)-ρ (2*a)))-ρ (2*AE+c)*ρ (2*AE+c)*((ρ (2*b)-ρ (2*a))*(ρ (2*b)-ρ (2*a))+(ρ (2*b+1)-ρ (2*a+1))*(ρ (2*b+1)-ρ (2*a+1)))=0:=by
 unfold Hz;rw[W4,H5]
 show BS ρ (O9 a b (CY AF [c] 0) (2*AE+c))=0↔_
 rw[p5]
def F5 (h:sd=1):Hz ρ 17 sd Q [c,d] ql w AF AE↔(ρ (2*CY AF [c,d] 1)-ρ (2*CY AF [c,d] 0))*(ρ (2*CY AF [c,d] 1)-ρ (2*CY AF [c,d] 0))+(ρ (2*CY AF [c,d] 1+1)-ρ (2*CY AF [c,d] 0+1))*(ρ (2*CY AF [c,d] 1+1)-ρ (2*CY AF [c,d] 0+1))-(ρ (2*AE+c)+ρ (2*AE+d))*(ρ (2*AE+c)+ρ (2*AE+d))=0:=by
 unfold Hz;rw[Wn h,H5]
 show BS ρ (PC (CY AF [c,d] 0) (CY AF [c,d] 1) (2*AE+c) (2*AE+d))=0↔_
 rw[p6]
def FH (h:sd≠1):Hz ρ 17 sd Q [c,d] ql w AF AE↔(ρ (2*CY AF [c,d] 1)-ρ (2*CY AF [c,d] 0))*(ρ (2*CY AF [c,d] 1)-ρ (2*CY AF [c,d] 0))+(ρ (2*CY AF [c,d] 1+1)-ρ (2*CY AF [c,d] 0+1))*(ρ (2*CY AF [c,d] 1+1)-ρ (2*CY AF [c,d] 0+1))-(ρ (2*AE+c)-ρ (2*AE+d))*(ρ (2*AE+c)-ρ (2*AE+d))=0:=by
 unfold Hz;rw[Wo h,H5]
 show BS ρ (RZ (CY AF [c,d] 0) (CY AF [c,d] 1) (2*AE+c) (2*AE+d))=0↔_
 rw[p7,NO]
end
def ZG (ρ:Int->Re) (kd t:Int) (Q:List Int) (A:Prop) (G:Re->Re->Prop):Prop:=(kd≠4->kd≠16->(G (ρ (2*t)) (ρ (2*t+1))↔A))/\
 ∀p q,(kd=4/\p=Q.getD 1 0/\q=Q.getD 2 0\/kd=16/\p=Q.getD 0 0/\q=Q.getD 1 0)->¬(ρ (2*p)=ρ (2*q)/\ρ (2*p+1)=ρ (2*q+1))/\
  ∀k,(G (ρ (2*t)) (ρ (2*t+1))\/G (ρ (2*p)+((ρ (2*q)-ρ (2*p))*k-(ρ (2*t)-ρ (2*p)))) (ρ (2*p+1)+((ρ (2*q+1)-ρ (2*p+1))*k-(ρ (2*t+1)-ρ (2*p+1))))↔A)
def ZG.of {ρ:Int->Re} {kd t:Int} {Q:List Int} {A:Prop} {G:Re->Re->Prop} (i:kd≠4) (f:kd≠16) (h:G (ρ (2*t)) (ρ (2*t+1))↔A):ZG ρ kd t Q A G:=
 ⟨fun _ _=>h,fun _ _ h=>h.elim (fun h=>absurd h.1 i) fun h=>absurd h.1 f⟩
def Ol (P:AG->Prop) (w:AG) (W:List AC->Int->Prop) (Z:(Re->Re->Prop)->Prop):Prop:=(∃e k t a,e≠0/\W (Ct k t a) e)\/∃k t a G,W (Ct k t a) 0/\Dt k t a/\Lv P w G k t a/\Z G
def Fw.ol {P:AG->Prop} {w:AG} {W:List AC->Int->Prop} {G:Re->Re->Prop} {Z:(Re->Re->Prop)->Prop} (h:Fw P w W G) (z:Z G):Ol P w W Z:=h.imp id fun⟨k,t,a,f,i,h3⟩=>⟨k,t,a,G,f,i,h3,z⟩
section
variable {P:AG->Prop} {V:List Re} {w:AG} {cr:List (el Ae)} {AE:Int} {nc:Nat} {sd:Int} {X:List Ex} {AF:List Int}
def yM (L:Pl P V w) (F:Fl (Tf P) w) (H:FA P w cr AE nc) {ρ:Int->Re} (m:∀i:Int,0<=i/\i<2*AE+(nc:Nat)->NF P w 20 (cr.getD i.toNat ([],[])) (ρ i)) {kd t:Int} {a b c d:Int} {rv:Int} {w0:Rat} {ql:List Rat} (hk:kd=5\/kd=6\/kd=7\/kd=8) (Y:∀p∈[a,b,c,d],0<=p/\p<AE) (hv:FE rv (ql.map rp)) (h5:kd=5->∃v,ql=[v]) (a1:a≠b) (a2:c≠d)
  (h0:¬(hasB [a,b,c,d] t 0=false/\hasB [a,b,c,d] t 2=false)):Ol P w (WS kd [a,b,c,d] [] X sd (ql.map rp) AF AE cr 26 [AH t]) (ZG ρ kd t [a,b,c,d] (Hz ρ kd sd [a,b,c,d] [] ql w0 AF AE)):=by
 have ha:=Y a AS;have hb:=Y b AS;have hc:=Y c AS;have hd:=Y d AS;have J:2*AE<=2*AE+(nc:Nat):=AA
 have pA:=Nq (t:=t) ha hb;have pB:=Nq (t:=t) hc hd;have hA:=EK m J pA;have hB:=EK m J pB
 obtain⟨jA,nA,iA,eA⟩:∃(j:Int) (n:Nat),(Ep (if a=t then 0 else 1) j/\AZ j n)/\[a,b,c,d][n]? =some (if a=t then b else a):=by
  split
  ·exact⟨1,1,⟨.inl ⟨rfl,rfl⟩,BM 1⟩,rfl⟩
  exact⟨0,0,⟨.inr (.inl ⟨rfl,rfl⟩),BM 0⟩,rfl⟩
 obtain⟨jB,nB,iB,eB⟩:∃(j:Int) (n:Nat),(Ep (if c=t then 2 else 3) j/\AZ j n)/\[a,b,c,d][n]? =some (if c=t then d else c):=by
  split
  ·exact⟨3,3,⟨.inr (.inr (.inl ⟨rfl,rfl⟩)),BM 3⟩,rfl⟩
  exact⟨2,2,⟨.inr (.inr (.inr ⟨rfl,rfl⟩)),BM 2⟩,rfl⟩
 have mA:=fun kd=>H.ER (kd:=kd) (sd:=sd) (C:=[]) (X:=X) (vl:=ql.map rp) (AF:=AF) iA.2 eA pA
 have mB:=fun kd=>H.ER (kd:=kd) (sd:=sd) (C:=[]) (X:=X) (vl:=ql.map rp) (AF:=AF) iB.2 eB pB
 have B:(if a=t then (0:Int) else 1)<2:=by split <;> decide
 have D:¬(if c=t then (2:Int) else 3)<2:=by split <;> decide
 have A:=Sl (kd:=kd) (sd:=sd) (P:=[a,b,c,d]) (C:=[]) (V:=X) (t:=t) (AD:4<=1000000) (uM a1 a2).symm
 have qA:hasB [a,b,c,d] t 0=true->(a=t/\(if a=t then b else a)=b)\/(b=t/\(if a=t then b else a)=a):=fun h=>by
  have h:a=t\/b=t:=by unfold hasB at h;simpa using h
  by_cases e:a=t
  ·exact .inl ⟨e,if_pos e⟩
  exact .inr ⟨h.resolve_left e,if_neg e⟩
 have qB:hasB [a,b,c,d] t 2=true->(c=t/\(if c=t then d else c)=d)\/(d=t/\(if c=t then d else c)=c):=fun h=>by
  have h:c=t\/d=t:=by unfold hasB at h;simpa using h
  by_cases e:c=t
  ·exact .inl ⟨e,if_pos e⟩
  exact .inr ⟨h.resolve_left e,if_neg e⟩
 generalize (if a=t then b else a)=ka at*
 generalize (if c=t then d else c)=kb at*
 generalize (if a=t then (0:Int) else 1)=ia at*
 generalize (if c=t then (2:Int) else 3)=ib at*
 have kk:5<=kd/\kd<=8:=AA
 have y:kd≠4:=AA
 have f:kd≠16:=AA
 have q0:=EK m J ha;have q1:=EK m J hb;have q2:=EK m J hc;have q3:=EK m J hd;have m0:=fun kd=>H.ER (kd:=kd) (sd:=sd) (Q:=[a,b,c,d]) (C:=[]) (X:=X) (vl:=ql.map rp) (AF:=AF) (BM 0) rfl ha
 have m1:=fun kd=>H.ER (kd:=kd) (sd:=sd) (Q:=[a,b,c,d]) (C:=[]) (X:=X) (vl:=ql.map rp) (AF:=AF) (BM 1) rfl hb
 have m2:=fun kd=>H.ER (kd:=kd) (sd:=sd) (Q:=[a,b,c,d]) (C:=[]) (X:=X) (vl:=ql.map rp) (AF:=AF) (BM 2) rfl hc
 have m3:=fun kd=>H.ER (kd:=kd) (sd:=sd) (Q:=[a,b,c,d]) (C:=[]) (X:=X) (vl:=ql.map rp) (AF:=AF) (BM 3) rfl hd
 cases e1:hasB [a,b,c,d] t 0 <;> cases e2:hasB [a,b,c,d] t 2 <;> rw[e1] at A <;> rw[e2] at A
 ·exact absurd ⟨e1,e2⟩ h0
 ·obtain⟨S,T,U,R⟩:=ie L F iB.1 (if_neg D).symm (if_neg D).symm hB q0 q1 mB m0 m1;have Z:=fun (k:Int) (K:Nat->FB) (I:Nat->FC) (e:Int) r=>gi (t:=t) (vl:=ql.map rp) (AF:=AF) (AE:=AE) (cr:=cr) (k1:=k) (tg:=K) (ag:=I) (e1:=e) kk A rfl (AD:(1:Nat)≠2) r
  have q:=qB e2;rcases hk with rfl | rfl | rfl | rfl
  ·obtain⟨n,rfl⟩:=h5 rfl;obtain⟨x,ex,_,M,O⟩:=Mn (AE:=AE) (cr:=cr) F hv (BM 0) (v:=rp n) rfl;obtain rfl:=JE ex;refine (((R M (O _ _ _ _ _ _)).2 D).mono Z).ol (.of y f ?_);rw[GQ];rcases q with⟨rfl,rfl⟩ |⟨rfl,rfl⟩ <;> constructor <;> intro k <;> grind
  ·refine (S.mono Z).ol (.of y f ?_);rw[Vv];rcases q with⟨rfl,rfl⟩ |⟨rfl,rfl⟩ <;> constructor <;> intro k <;> grind
  ·refine (T.mono Z).ol (.of y f ?_);rw[EH];rcases q with⟨rfl,rfl⟩ |⟨rfl,rfl⟩ <;> constructor <;> intro k <;> grind
  refine (U.mono Z).ol (.of y f ?_);rw[DR];rcases q with⟨rfl,rfl⟩ |⟨rfl,rfl⟩ <;> constructor <;> intro k <;> grind
 ·obtain⟨S,T,U,R⟩:=ie L F iA.1 (if_pos B).symm (if_pos B).symm hA q2 q3 mA m2 m3;have Z:=fun (k:Int) (K:Nat->FB) (I:Nat->FC) (e:Int) r=>gi (t:=t) (vl:=ql.map rp) (AF:=AF) (AE:=AE) (cr:=cr) (k1:=k) (tg:=K) (ag:=I) (e1:=e) kk A rfl (AD:(1:Nat)≠2) r
  have q:=qA e1;rcases hk with rfl | rfl | rfl | rfl
  ·obtain⟨n,rfl⟩:=h5 rfl;obtain⟨x,ex,_,M,O⟩:=Mn (AE:=AE) (cr:=cr) F hv (BM 0) (v:=rp n) rfl;obtain rfl:=JE ex;refine (((R M (O _ _ _ _ _ _)).1 B).mono Z).ol (.of y f ?_);rw[GQ];rcases q with⟨rfl,rfl⟩ |⟨rfl,rfl⟩ <;> constructor <;> intro k <;> grind
  ·refine (S.mono Z).ol (.of y f ?_);rw[Vv];rcases q with⟨rfl,rfl⟩ |⟨rfl,rfl⟩ <;> constructor <;> intro k <;> grind
  ·refine (T.mono Z).ol (.of y f ?_);rw[EH];rcases q with⟨rfl,rfl⟩ |⟨rfl,rfl⟩ <;> constructor <;> intro k <;> grind
  refine (U.mono Z).ol (.of y f ?_);rw[DR];rcases q with⟨rfl,rfl⟩ |⟨rfl,rfl⟩ <;> constructor <;> intro k <;> grind
 obtain⟨S,T,U,R⟩:=pV L F iA.1 iB.1 hA hB mA mB;have Z:=fun (k:Int) (K:Nat->FB) (I:Nat->FC) (e:Int) (r:WS kd [a,b,c,d] [] X sd (ql.map rp) AF AE cr 81 [.one (.sl .i64 [ia,ib])] (Ct k K I) e)=>wD (t:=t) (vl:=ql.map rp) (AF:=AF) (AE:=AE) (cr:=cr) (k1:=k) (tg:=K) (ag:=I) (e1:=e) kk A rfl rfl r
 have q:=qA e1;have q':=qB e2;rcases hk with rfl | rfl | rfl | rfl
 ·obtain⟨n,rfl⟩:=h5 rfl;obtain⟨x,ex,_,M,O⟩:=Mn (AE:=AE) (cr:=cr) F hv (BM 0) (v:=rp n) rfl;obtain rfl:=JE ex;refine ((R M (O _ _ _ _ _ _)).mono Z).ol (.of y f ?_);rw[GQ];rcases q with⟨rfl,rfl⟩ |⟨rfl,rfl⟩ <;> rcases q' with⟨rfl,rfl⟩ |⟨rfl,rfl⟩ <;> constructor <;> intro k <;> grind
 ·refine (S.mono Z).ol (.of y f ?_);rw[Vv];rcases q with⟨rfl,rfl⟩ |⟨rfl,rfl⟩ <;> rcases q' with⟨rfl,rfl⟩ |⟨rfl,rfl⟩ <;> constructor <;> intro k <;> grind
 ·refine (T.mono Z).ol (.of y f ?_);rw[EH];rcases q with⟨rfl,rfl⟩ |⟨rfl,rfl⟩ <;> rcases q' with⟨rfl,rfl⟩ |⟨rfl,rfl⟩ <;> constructor <;> intro k <;> grind
 refine (U.mono Z).ol (.of y f ?_);rw[DR];rcases q with⟨rfl,rfl⟩ |⟨rfl,rfl⟩ <;> rcases q' with⟨rfl,rfl⟩ |⟨rfl,rfl⟩ <;> refine Iff.of_eq (congrArg (· =(0:Re)) ?_) <;> grind
end
end
section
def yL:Re.ofRat (((2:Int):Rat))=1+1:=by
 rw[show (((2:Int):Rat))=1+1 by decide +kernel,Re.ofRat_add];rfl
def se {X Y xa ya xc yc xd yd:Re} (h:¬(xc=xd/\yc=yd)):(X=xa-un (yd-yc)*(K8 (un (yd-yc)) (-(xd-xc)*Bl (fs (yd-yc) (-(xd-xc)))) ((xc*(yd-yc)+yc* -(xd-xc))*Bl (fs (yd-yc) (-(xd-xc)))) xa ya*Re.ofRat (((2:Int):Rat)))/\Y=ya- -(xd-xc)*Bl (fs (yd-yc) (-(xd-xc)))*(K8 (un (yd-yc)) (-(xd-xc)*Bl (fs (yd-yc) (-(xd-xc)))) ((xc*(yd-yc)+yc* -(xd-xc))*Bl (fs (yd-yc) (-(xd-xc)))) xa ya*Re.ofRat (((2:Int):Rat))))↔((X-xc+(xa-xc))*(yd-yc)-(Y-yc+(ya-yc))*(xd-xc)=0/\(X-xa)*(xd-xc)+(Y-ya)*(yd-yc)=0):=by
 have h':¬(yd-yc=0/\ -(xd-xc)=0):=fun⟨a,b⟩=>h ⟨by grind,by grind⟩
 have f:=R7 (Rs h');rw[TS h',yL];unfold K8
 generalize Bl (fs (yd-yc) (-(xd-xc)))=i at*
 have A:(yd-yc)*i*((yd-yc)*i)+ -(xd-xc)*i*(-(xd-xc)*i)≠0:=TH fun⟨a,b⟩=>h' ⟨(Re.F3 a).resolve_right f,(Re.F3 b).resolve_right f⟩
 have m:=HQ A
 generalize Bl ((yd-yc)*i*((yd-yc)*i)+ -(xd-xc)*i*(-(xd-xc)*i))=j at*
 have n:((xd-xc)*(xd-xc)+(yd-yc)*(yd-yc))*(i*i*j)=1:=by rw[<-m];grind
 refine Iff.trans ?_ (te (x:=xd-xc) (y:=yd-yc) (γ:=(yd-yc)*xc+ -(xd-xc)*yc) n rfl);refine and_congr (Iff.of_eq (congrArg (X= ·) ?_)) (Iff.of_eq (congrArg (Y= ·) ?_)) <;> grind
section
variable {P:AG->Prop} {V:List Re} {w:AG} {cr:List (el Ae)} {AE:Int}
def fi {z:el Co} {x y:Re} {m:Nat} (h:VF P w m z x y) (hm:m<=100000):Lv P w (fun X Y=>X=x/\Y=y) 3 (EL [[],[],[],[],[],[],[],[],z.1.1,z.2.1]) (EF [[],[],[],[],[],[],[],[],z.1.2,z.2.2]):= .pt h hm fun _ _=>⟨fun h=>⟨h.1.symm,h.2.symm⟩,fun h=>⟨h.1.symm,h.2.symm⟩⟩
def XI {z:el Co} {x y:Re} {m:Nat} {W:List AC->Int->Prop} {Z:(Re->Re->Prop)->Prop} (F:Fl (Tf P) w) (h:VF P w m z x y) (hm:m<=800) (f:W (Ct 3 (EL [[],[],[],[],[],[],[],[],z.1.1,z.2.1]) (EF [[],[],[],[],[],[],[],[],z.1.2,z.2.2])) 0) (i:Z fun X Y=>X=x/\Y=y):Ol P w W Z:=
 .inr ⟨3,_,_,_,f,a8 (Db F h.x AA) (Db F h.y AA),fi h AA,i⟩
def ZV {kd sd:Int} {Q C:List Int} {X:List Ex} {vl:LR} {AF:List Int} (F:Fl (Tf P) w) {p q:el Co} {xp yp xq yq:Re} {k l:Nat} (A:VF P w k p xp yp) (f:VF P w l q xq yq) (i:k<=200) (j:l<=200):Fw P w (WS kd Q C X sd vl AF AE cr 79 [.agg (cV p),.agg (cV q)]) (fun x y=>yq*(x-xp)-xq*(y-yp)=0):=by
 rcases Oe F A f i j with⟨l,m,n,c⟩ |⟨l,m,n,c,B⟩
 ·exact .inl ⟨6,1,EL [l.1,m.1,n.1,q.1.1,q.2.1],EF [l.2,m.2,n.2,q.1.2,q.2.2],AD,Mi c⟩
 exact .inr ⟨1,EL [l.1,m.1,n.1,q.1.1,q.2.1],EF [l.2,m.2,n.2,q.1.2,q.2.2],Mi c,Ky (Db F f.x AA) (Db F f.y AA),B⟩
def ta (L:Pl P V w) (F:Fl (Tf P) w) {AF:List Int} (H:FA P w cr AE AF.length) {ρ:Int->Re} (B:∀i:Int,0<=i/\i<2*AE+(AF.length:Nat)->NF P w 20 (cr.getD i.toNat ([],[])) (ρ i)) {kd sd t:Int} {Q C:List Int} {X:List Ex} {ql:List Rat} (S:Hx kd Q C X sd AE (AF.length:Nat)) (Z:FE (DO kd).2.2.2.2.1 (ql.map rp)/\(ql.map rp).length=X.length) (aa:Eg AE AF=true) {f:Int} (hf:f=kF kd (Di Q t) (Q.getD 0 0==t) (hasB Q t 0) (hasB Q t 2) (FG AF C t 0) (FG AF C t 1)) (f0:f≠0):
  Ol P w (WS kd Q C X sd (ql.map rp) AF AE cr 26 [AH t]) (ZG ρ kd t Q (Hz ρ kd sd Q C ql (ql.getD 1 0) AF AE)):=by
 have hk:=S.kk;obtain⟨⟨l1,l2,l3⟩,l4,l5,l6,l7,l8⟩:=S.ls;have O:∀p∈Q,0<=p/\p<AE:=fun p hp=>of_decide_eq_true (List.all_eq_true.1 S.wp p hp)
 have hC:∀c∈C,0<=c/\c<(AF.length:Nat):=fun p hp=>of_decide_eq_true (List.all_eq_true.1 S.wc p hp)
 have R:2*AE<=2*AE+(AF.length:Nat):=AA
 have hn:=S.np;have ab:=S.nc;have a5:=S.nv;have hs:=S.s1;have aj:ql.length=X.length:=by have:=Z.2;rwa [List.length_map] at this
 have a1:kd=1\/kd=2\/kd=3\/kd=9\/kd=11\/kd=12->Di Q t=true:=fun hk=>by
  cases h:Di Q t
  ·rw[h] at hf;exact absurd (by rcases hk with rfl | rfl | rfl | rfl | rfl | rfl <;> exact hf) f0
  rfl
 have nC: @Eq Int (DO kd).2.2.1 0->C=[]:=fun h=>List.eq_nil_of_length_eq_zero AA
 have K:=Sl (kd:=kd) (sd:=sd) (P:=Q) (C:=C) (V:=X) (t:=t) AA rfl
 have hr:∀c∈C,NF P w 20 (Hs cr AE c) (ρ (2*AE+c)):=fun c Y=>by
  have:=hC c Y;have hb:=H.b;exact B _ ⟨AA,AA⟩
 have ai:kd=1\/kd=2\/kd=3\/kd=4\/(kd=5\/kd=6\/kd=7\/kd=8)\/kd=9\/kd=10\/kd=11\/kd=12\/kd=13\/kd=14\/kd=15\/kd=16\/kd=17:=AA
 rcases ai with rfl | rfl | rfl | rfl | a2 | rfl | rfl | rfl | rfl | rfl | rfl | rfl | rfl | rfl
 ·obtain rfl:=nC rfl;obtain⟨a,rfl⟩:=Hl (l:=Q) (by have e:(Q.length:Int)=1:=hn;omega);obtain⟨u,v,rfl⟩:=HR (l:=ql) (by have e:(X.length:Int)=2:=a5;omega);obtain⟨x,ex,_,h1,_⟩:=Mn (AE:=AE) (cr:=cr) F Z.1 (v:=rp u) (BM 0) rfl;obtain rfl:=JE ex;obtain⟨y,ey,_,h2,_⟩:=Mn (AE:=AE) (cr:=cr) F Z.1 (v:=rp v) (BM 1) rfl;obtain rfl:=JE ey;obtain⟨_,i1,j1,k1,_⟩:=TD Z.1 (i:=0) (v:=rp u) rfl;obtain⟨_,i2,j2,k2,_⟩:=TD Z.1 (i:=1) (v:=rp v) rfl;have ha:a=t:=in_1 (a1 AD);refine XI (z:=(([],[rp u]),([],[rp v]))) F ⟨h1,h2⟩ AD (vo K (i:=0) (by simp[C1,ha]) rfl rfl (yS i1 i2 (Ii j1) (Ii j2) k1 k2)) (.of AD AD ?_);subst ha
  show _↔Hz ρ 1 sd [a] [] [u,v] v AF AE
  rw[Et]
  constructor <;> rintro⟨h,k⟩ <;> constructor <;> grind
 ·obtain rfl:=nC rfl;obtain⟨a,b,rfl⟩:=HR (l:=Q) (by have e:(Q.length:Int)=2:=hn;omega);obtain⟨v,rfl⟩:=Hl (l:=ql) (by have e:(X.length:Int)=1:=a5;omega);have M:=Nq (t:=t) (O a AS) (O b AS);have h1:=EK B R M;obtain⟨x,ex,_,h2,mv⟩:=Mn (AE:=AE) (cr:=cr) F Z.1 (v:=rp v) (BM 0) rfl;obtain rfl:=JE ex;have q:=(LC (a1 AD)).imp_right in_1;obtain⟨i,n,e1,e2,e3,e4⟩:=GO (t:=t) (l:=[]) q;obtain⟨T,A,h3,cp,cd⟩:=Gv F h2 h2;refine (Mp (s:=(T,A)) F h3 AD (NH (Db F h1.x AD) (Db F h1.y AD) (Db F h3 AD)) (MO L (s:=(T,A)) h1 h3 AD AD) fun e r er cs=>vx K e1 rfl (H.ER e3 e4 M) e2 (mv _ _ _ _ _ _) cp er cs).ol (.of AD AD ?_);rw[EB]
  by_cases e:a=t
  ·subst e;rw[if_pos rfl];constructor <;> intro k <;> grind
  obtain rfl:=q.resolve_left e;rw[if_neg e];constructor <;> intro k <;> grind
 ·obtain rfl:=nC rfl;obtain⟨a,b,c,rfl⟩:=LI (l:=Q) (by have e:(Q.length:Int)=3:=hn;omega);have pa:=O a AS;have pb:=O b AS;have J:=O c AS;have ha:=EK B R pa;have hb:=EK B R pb;have Y:=EK B R J
  by_cases I:a=t
  ·refine ((Qq F hb Y).mono fun k t' a' e r=>vy K (by simp[C1,I]) (H.ER (BM 1) rfl pb) (H.ER (BM 2) rfl J) r).ol (.of AD AD ?_);subst I;rw[IY];constructor <;> intro k <;> grind
  by_cases e1:b=t
  ·refine ((Qq F Y ha).mono fun k t' a' e r=>vz K (by simp[C1,I,e1]) (H.ER (BM 2) rfl J) (H.ER (BM 0) rfl pa) r).ol (.of AD AD ?_);subst e1;rw[IY];constructor <;> intro k <;> grind
  have e2:c=t:=in_1 ((LC ((LC (a1 AD)).resolve_left I)).resolve_left e1);refine ((Qq F hb ha).mono fun k t' a' e r=>v5 K (by simp[C1,I,e1,e2]) (H.ER (BM 1) rfl pb) (H.ER (BM 0) rfl pa) r).ol (.of AD AD ?_);subst e2;rw[IY];constructor <;> intro k <;> grind
 ·obtain rfl:=nC rfl;obtain⟨a,b,c,rfl⟩:=LI (l:=Q) (by have e:(Q.length:Int)=3:=hn;omega);obtain⟨v,rfl⟩:=Hl (l:=ql) (by have e:(X.length:Int)=1:=a5;omega);have pb:=O b AS;have J:=O c AS;have hb:=EK B R pb;have Y:=EK B R J;obtain⟨x,ex,_,h2,mv⟩:=Mn (AE:=AE) (cr:=cr) F Z.1 (v:=rp v) (BM 0) rfl;obtain rfl:=JE ex;have ha:a=t:=Classical.byContradiction fun e=>f0 (by rw[hf,show ([a,b,c].getD 0 0==t)=false from decide_eq_false e];rfl)
  obtain⟨g,l',m',n',u',a6,a7,D⟩:=eZ L F hb Y (h2.mono AD) (hs rfl);have W:=v7 (AF:=AF) (k1:=1) (tg:=EL [l'.1,m'.1,n'.1,u'.1.1,u'.2.1]) (ag:=EF [l'.2,m'.2,n'.2,u'.1.2,u'.2.2]) K (i:=0) (by simp[C1,ha]) (H.ER (BM 1) rfl pb) (H.ER (BM 2) rfl J) (mv _ _ _ _ _ _) (gk a6 a7)
  by_cases g0:g=0
  ·subst g0;obtain⟨d1,ne,δ,ad,lv⟩:=D rfl;refine .inr ⟨_,_,_,_,W,d1,lv,fun h=>absurd rfl h,fun p q h=>?_⟩;obtain⟨rfl,rfl⟩:p=b/\q=c:=h.elim (fun h=>h.2) fun h=>absurd h.1 AD
   refine⟨ne,fun k=>(eu ne ad).trans ?_⟩;subst ha;rw[FU]
  exact .inl ⟨g,_,_,_,g0,W⟩
 ·obtain rfl:=nC (by rcases a2 with rfl | rfl | rfl | rfl <;> rfl);obtain⟨a,b,c,d,rfl⟩:=H9 (l:=Q) (l7 a2);have pr:=(S.pr a2 a b c d rfl rfl rfl rfl).1;exact yM (sd:=sd) (X:=X) (AF:=AF) L F H B a2 O Z.1 (fun h=>by subst h;exact Hl (by have e:(X.length:Int)=1:=a5;omega)) pr.1 pr.2 fun h=>f0 (by rw[hf,h.1,h.2];rcases a2 with rfl | rfl | rfl | rfl <;> rfl)
 ·obtain rfl:=nC rfl;obtain⟨a,b,c,rfl⟩:=LI (l:=Q) (by have e:(Q.length:Int)=3:=hn;omega);have pa:=O a AS;have pb:=O b AS;have J:=O c AS;have ha:=EK B R pa;have hb:=EK B R pb;have Y:=EK B R J
  have tw:=fun {j:Int} {j0:Nat} {y:Int} (I:a≠t) (hj:1<=3-j/\3-j<=2) (hp:(C1 t [a,b,c] 0)[0]? =some (3-j)) (hi:AZ j j0) (hy:[a,b,c][j0]? =some y) (py:0<=y/\y<AE) (hz:(ρ (2*t)=ρ (2*a)+(ρ (2*a)-ρ (2*y))/\ρ (2*t+1)=ρ (2*a+1)+(ρ (2*a+1)-ρ (2*y+1)))↔Hz ρ 9 sd [a,b,c] [] ql (ql.getD 1 0) AF AE)=>(by
   have hq:=EK B R py;obtain⟨T1,A1,T2,A2,h1,c1⟩:=JL F ha hq;obtain⟨T3,A3,T4,A4,h2,c2⟩:=P9 F ha h1;exact XI (z:=((T3,A3),T4,A4)) F h2 AD (wA K hp hj (AA:j=3-(3-j)) (H.ER (BM 0) rfl pa) (H.ER hi hy py) (wV c1 c2)) (.of AD AD hz):Ol P w (WS 9 [a,b,c] [] X sd (ql.map rp) AF AE cr 26 [AH t]) (ZG ρ 9 t [a,b,c] (Hz ρ 9 sd [a,b,c] [] ql (ql.getD 1 0) AF AE)))
  by_cases I:a=t
  ·obtain⟨T3,A3,T4,A4,h2,c2⟩:=X3 F hb Y AD AD;refine XI (z:=((T3,A3),T4,A4)) F h2 AD (wB K (i:=0) (by simp[C1,I]) rfl (H.ER (BM 1) rfl pb) (H.ER (BM 2) rfl J) c2) (.of AD AD ?_)
   have ae:∀u v:Re,(u+v)*Re.ofRat (1/2)+(u+v)*Re.ofRat (1/2)=u+v:=fun u v=>by
    rw[show (u+v)*Re.ofRat (1/2)+(u+v)*Re.ofRat (1/2)=(u+v)*(Re.ofRat (1/2)+Re.ofRat (1/2)) by grind,Vq];grind
   subst I;rw[EI];exact and_congr (cP (ae _ _)) (cP (ae _ _))
  by_cases e1:b=t
  ·refine tw (j:=2) I AD (by simp[C1,I,e1]) (BM 2) rfl J ?_;subst e1;rw[EI];exact and_congr ji ji
  have e2:c=t:=in_1 ((LC ((LC (a1 AD)).resolve_left I)).resolve_left e1);refine tw (j:=1) I AD (by simp[C1,I,e1,e2]) (BM 1) rfl pb ?_;subst e2;rw[EI]
  constructor <;> rintro⟨h,k⟩ <;> constructor <;> grind
 ·obtain rfl:=nC rfl;obtain⟨a,b,c,d,rfl⟩:=H9 (l:=Q) (by have e:(Q.length:Int)=4:=hn;omega);have M:=Nq (t:=t) (O a AS) (O b AS);have J:=O c AS;have pd:=O d AS;have h1:=EK B R M;have Y:=EK B R J;have hd:=EK B R pd
  have q:a=t\/b=t:=by
   cases h:hasB [a,b,c,d] t 0
   ·exact absurd (by rw[hf,h];rfl) f0
   unfold hasB at h;simpa using h
  obtain⟨i,n,e1,e2,e3,e4⟩:=GO (a:=a) (b:=b) (t:=t) (l:=[c,d]) q
  by_cases I:ρ (2*c)=ρ (2*d)/\ρ (2*c+1)=ρ (2*d+1)
  ·exact .inl ⟨11,0,Da,Da,AD,vq K e1 (H.ER (BM 2) rfl J) (H.ER (BM 3) rfl pd) AD (sJ F Y hd AD AD AD AD I)⟩
  obtain⟨U3,B3,U4,B4,U5,B5,k2,d2⟩:=sI F Y hd AD AD AD AD I Bg Bg AD AD;obtain⟨U6,B6,U7,B7,k3,d3⟩:=r9 F k2 h1 (sY fun h=>I ⟨by grind,by grind⟩) Bg AD AD;refine .inr ⟨3,EL [[],[],[],[],[],[],[],[],U6,U7],EF [[],[],[],[],[],[],[],[],B6,B7],_,vp K e1 (H.ER (BM 2) rfl J) (H.ER (BM 3) rfl pd) d2 rfl (H.ER e3 e4 M) e2 d3,a8 (Db F k3.x AD) (Db F k3.y AD),fi (z:=((U6,B6),U7,B7)) (m:=90000) ⟨k3.x.mono AD,k3.y.mono AD⟩ AD,.of AD AD ((se I).trans ?_)⟩;rw[PJ]
  by_cases e:a=t
  ·subst e;rw[if_pos rfl]
   constructor <;> rintro⟨h,k⟩ <;> constructor <;> grind
  obtain rfl:=q.resolve_left e;rw[if_neg e]
  constructor <;> rintro⟨h,k⟩ <;> constructor <;> grind
 ·obtain rfl:=nC rfl;obtain⟨a,b,rfl⟩:=HR (l:=Q) (by have e:(Q.length:Int)=2:=hn;omega);have M:=Nq (t:=t) (O a AS) (O b AS);have h1:=EK B R M;have q:=(LC (a1 AD)).imp_right in_1;obtain⟨i,n,e1,e2,e3,e4⟩:=GO (t:=t) (l:=[]) q;have hv:VF P w 1 (([],_),([],_)) _ _:=⟨JB (r:=((1:Int):Rat)) F AD (Gm (by decide +kernel)),JB (r:=((0:Int):Rat)) F AD (Gm (by decide +kernel))⟩;refine ((ZV F h1 hv AD AD).mono fun k t' a' e r=>vu K e1 rfl (H.ER e3 e4 M) e2 (Mu AD (Ii (by decide +kernel)) rfl) (Mu AD (Ii (by decide +kernel)) rfl) r).ol (.of AD AD ?_);rw[GP,show Re.ofRat (((0:Int):Rat))=0 from rfl,show Re.ofRat (((1:Int):Rat))=1 from rfl]
  by_cases e:a=t
  ·subst e;rw[if_pos rfl];constructor <;> intro k <;> grind
  obtain rfl:=q.resolve_left e;rw[if_neg e];constructor <;> intro k <;> grind
 ·obtain rfl:=nC rfl;obtain⟨a,b,rfl⟩:=HR (l:=Q) (by have e:(Q.length:Int)=2:=hn;omega);have M:=Nq (t:=t) (O a AS) (O b AS);have h1:=EK B R M;have q:=(LC (a1 AD)).imp_right in_1;obtain⟨i,n,e1,e2,e3,e4⟩:=GO (t:=t) (l:=[]) q;have hv:VF P w 1 (([],_),([],_)) _ _:=⟨JB (r:=((0:Int):Rat)) F AD (Gm (by decide +kernel)),JB (r:=((1:Int):Rat)) F AD (Gm (by decide +kernel))⟩;refine ((ZV F h1 hv AD AD).mono fun k t' a' e r=>vw K e1 rfl (H.ER e3 e4 M) e2 (Mu AD (Ii (by decide +kernel)) rfl) (Mu AD (Ii (by decide +kernel)) rfl) r).ol (.of AD AD ?_);rw[HP,show Re.ofRat (((0:Int):Rat))=0 from rfl,show Re.ofRat (((1:Int):Rat))=1 from rfl]
  by_cases e:a=t
  ·subst e;rw[if_pos rfl];constructor <;> intro k <;> grind
  obtain rfl:=q.resolve_left e;rw[if_neg e];constructor <;> intro k <;> grind
 ·obtain⟨a,rfl⟩:=Hl (l:=Q) (by have e:(Q.length:Int)=1:=hn;omega);obtain⟨c,rfl⟩:=Hl (l:=C) (by have e:(C.length:Int)=1:=ab;omega);have cin:=MB (i:=0) aa hC (AD:0<1);have pa:=O a AS;have J:=hC c AS;have gc:AF[c.toNat]? =some (CY AF [c] 0):=getD_some AA;have ha:=EK B R pa;have Y:=EK B R cin;have hr:=hr c AS;obtain⟨T,A,h3,cp,cd⟩:=Gv F hr hr;have D:=fun {z:el Co} {x y:Re} (hz:VF P w 20 z x y)=>NH (k:=2) (Db F hz.x AD) (Db F hz.y AD) (Db F h3 AD)
  by_cases I:a=t
  ·refine (Mp (s:=(T,A)) F h3 AD (D Y) (MO L (s:=(T,A)) Y h3 AD AD) fun e r er cs=>Pv (C:=[c]) (AD:0<1) (wJ rfl I (H.WJ (BM 0) rfl J.1 gc cin) (H.PZ (BM 0) rfl J) cp er cs)).ol (.of AD AD ?_);subst I;rw[I6];constructor <;> intro k <;> grind
  have et:CY AF [c] 0=t:=Classical.byContradiction fun e=>f0 (by
   rw[hf,show Di [a] t=false by simp[Di,I],show FG AF [c] t 0=false from decide_eq_false e];rfl)
  refine (Mp (s:=(T,A)) F h3 AD (D ha) (MO L (s:=(T,A)) ha h3 AD AD) fun e r er cs=>Pv (C:=[c]) (AD:0<1) (wI rfl I (H.ER (BM 0) rfl pa) (H.PZ (BM 0) rfl J) cp er cs)).ol (.of AD AD ?_);rw[I6,et];constructor <;> intro k <;> grind
 ·exact absurd (by rw[hf];rfl) f0
 ·exact absurd (by rw[hf];rfl) f0
 ·obtain⟨a,b,rfl⟩:=HR (l:=Q) (by have e:(Q.length:Int)=2:=hn;omega);obtain⟨c,rfl⟩:=Hl (l:=C) (by have e:(C.length:Int)=1:=ab;omega);have pa:=O a AS;have pb:=O b AS;have J:=hC c AS;have ha:=EK B R pa;have hb:=EK B R pb;have hr:=hr c AS
  have et:CY AF [c] 0=t:=Classical.byContradiction fun e=>f0 (by
   rw[hf,show FG AF [c] t 0=false from decide_eq_false e];unfold kF;simp)
  obtain⟨g,l',m',n',u',a6,a7,D⟩:=eZ L F ha hb hr (hs rfl);have W:=Pv (t:=t) (P:=[a,b]) (V:=X) (AF:=AF) (C:=[c]) (k1:=1) (tg:=EL [l'.1,m'.1,n'.1,u'.1.1,u'.2.1]) (ag:=EF [l'.2,m'.2,n'.2,u'.1.2,u'.2.2]) (AD:0<1) (wU (P:=[a,b]) (C:=[c]) (V:=X) (AF:=AF) (vl:=ql.map rp) (H.ER (BM 0) rfl pa) (H.ER (BM 1) rfl pb) (H.PZ (BM 0) rfl J) a6 a7)
  by_cases g0:g=0
  ·subst g0;obtain⟨d1,ne,δ,ad,lv⟩:=D rfl;refine .inr ⟨_,_,_,_,W,d1,lv,fun _ h=>absurd rfl h,fun p q h=>?_⟩;obtain⟨rfl,rfl⟩:p=a/\q=b:=h.elim (fun h=>absurd h.1 AD) fun h=>h.2
   refine⟨ne,fun k=>(eu ne ad).trans ?_⟩;rw[IX,et]
  exact .inl ⟨g,_,_,_,g0,W⟩
 obtain⟨c,d,rfl⟩:=HR (l:=C) (by have e:(C.length:Int)=2:=ab;omega);have cin:=MB (i:=0) aa hC (AD:0<2);have af:=MB (i:=1) aa hC (AD:1<2);have J:=hC c AS;have pd:=hC d AS;have gc:AF[c.toNat]? =some (CY AF [c,d] 0):=getD_some AA;have gd:AF[d.toNat]? =some (CY AF [c,d] 1):=getD_some AA;have Y:=EK B R cin;have hd:=EK B R af;have h1:=hr c AS;have h2:=hr d AS;have m1:=H.PZ (kd:=17) (sd:=sd) (Q:=Q) (X:=X) (vl:=ql.map rp) (AF:=AF) (C:=[c,d]) (BM 0) rfl J;have m2:=H.PZ (kd:=17) (sd:=sd) (Q:=Q) (X:=X) (vl:=ql.map rp) (AF:=AF) (C:=[c,d]) (BM 1) rfl pd;have m3:=H.WJ (kd:=17) (sd:=sd) (Q:=Q) (X:=X) (vl:=ql.map rp) (C:=[c,d]) (BM 0) rfl J.1 gc cin;have m4:=H.WJ (kd:=17) (sd:=sd) (Q:=Q) (X:=X) (vl:=ql.map rp) (C:=[c,d]) (BM 1) rfl pd.1 gd af
 have et:CY AF [c,d] 0=t\/CY AF [c,d] 1=t:=Classical.byContradiction fun e=>f0 (by
  rw[hf,show FG AF [c,d] t 0=false from decide_eq_false fun h=>e (.inl h),show FG AF [c,d] t 1=false from decide_eq_false fun h=>e (.inr h)];rfl)
 have go:∀{u':el Ae} {U:Re},NF P w 41 u' U->(Hz ρ 17 sd Q [c,d] ql (ql.getD 1 0) AF AE↔(ρ (2*CY AF [c,d] 1)-ρ (2*CY AF [c,d] 0))*(ρ (2*CY AF [c,d] 1)-ρ (2*CY AF [c,d] 0))+(ρ (2*CY AF [c,d] 1+1)-ρ (2*CY AF [c,d] 0+1))*(ρ (2*CY AF [c,d] 1+1)-ρ (2*CY AF [c,d] 0+1))-U*U=0)->
   (sd=1->CF 125 [.agg (cN (Hs cr AE c)),.agg (cN (Hs cr AE d))] (BK (cN u') 0))->(sd≠1->CF 126 [.agg (cN (Hs cr AE c)),.agg (cN (Hs cr AE d))] (BK (cN u') 0))->
   Ol P w (WS 17 Q [c,d] X sd (ql.map rp) AF AE cr 26 [AH t]) (ZG ρ 17 t Q (Hz ρ 17 sd Q [c,d] ql (ql.getD 1 0) AF AE)):=fun {u' U} ah hE a3 a4=>by
  obtain⟨T,A,h4,cp,_⟩:=Gv F ah ah;have D:=fun {z:el Co} {x y:Re} (hz:VF P w 20 z x y)=>NH (k:=2) (Db F hz.x AD) (Db F hz.y AD) (Db F h4 AD)
  by_cases I:CY AF [c,d] 0=t
  ·refine (Mp (s:=(T,A)) F h4 AD (D hd) (MO L (s:=(T,A)) hd h4 AD AD) fun e r er cz=>Pv (C:=[c,d]) (AD:0<2) ?_).ol (.of AD AD ?_)
   ·by_cases e1:sd=1
    ·exact wR rfl J.1 gc I e1 m4 m1 m2 (a3 e1) cp er cz
    exact wS rfl J.1 gc I e1 m4 m1 m2 (a4 e1) cp er cz
   rw[hE,I]
   clear hE
   constructor <;> intro k <;> grind
  refine (Mp (s:=(T,A)) F h4 AD (D Y) (MO L (s:=(T,A)) Y h4 AD AD) fun e r er cz=>Pv (C:=[c,d]) (AD:0<2) ?_).ol (.of AD AD ?_)
  ·by_cases e1:sd=1
   ·exact wO rfl J.1 gc I e1 m3 m1 m2 (a3 e1) cp er cz
   exact wQ rfl J.1 gc I e1 m3 m1 m2 (a4 e1) cp er cz
  rw[hE,et.resolve_left I]
  clear hE
  constructor <;> intro k <;> grind
 by_cases e1:sd=1
 ·obtain⟨T,A,h3,c3,_⟩:=JC F h1 h2;exact go (u':=(T,A)) h3 (F5 e1) (fun _=>c3) fun h=>absurd e1 h
 obtain⟨T',A',h4,c4,_⟩:=MR F h1 h2;exact go (u':=(T',A')) h4 (FH e1) (fun h=>absurd h e1) fun _=>c4
end
end
section
section
variable {P:AG->Prop} {V:List Re} {w:AG} {cr:List (el Ae)} {AE:Int}
structure At (ρ ρ':Int->Re) (N r:Int) (v:Re):Prop where
 old:∀i,0<=i/\i<N->i≠r->ρ' i=ρ i
 new:ρ' r=v
end
end
section
section
variable {P:AG->Prop} {V:List Re} {w:AG} {cr:List (el Ae)} {AE:Int}
def FA.rho {nc:Nat} (H:FA P w cr AE nc):∃ρ:Int->Re,∀i:Int,0<=i/\i<2*AE+(nc:Nat)->NF P w 20 (cr.getD i.toNat ([],[])) (ρ i):=by
 have m:=H.len
 have h:∀i:Int,∃v:Re,0<=i/\i<2*AE+(nc:Nat)->NF P w 20 (cr.getD i.toNat ([],[])) v:=fun i=>by
  by_cases f:0<=i/\i<2*AE+(nc:Nat)
  ·obtain⟨v,j⟩:=H.nm _ _ (getD_some (d:=([],[])) (AA:i.toNat<cr.length));exact⟨v,fun _=>j⟩
  exact⟨0,fun h=>absurd h f⟩
 exact⟨fun i=>(h i).choose,fun i=>(h i).choose_spec⟩
end
end
section
end
section
def zX {p:List Mo} {N:Int} {cr:List (el Ae)} {c:List (el AP)} {z:el Ae} (h:UF cr p z) (hv:VR N p) (hN:N=(cr.length:Nat)) (hd:∀m∈p,m.2.length<=100000) (hc:c=BH p):CF 38 [.one (.sl AP c),.one (.sl Ae cr)] (BK (AY z.1 z.2) 0):=by
 obtain⟨zs,s,aA,ag,aa,ab,U⟩:=h;have lc:c.length=p.length:=by rw[hc,Jk]
 refine AL Tryz.func38 fun E S=>?_
 rintro aD ⟨a5,f13⟩;refine AB (r:= .one (.bool true)) S (zY (by rw[a5,<-hN];exact hv) hd hc) ?_;refine BG ?_;obtain⟨a2,F⟩:=xR (em [] (Re.ofRat ((0:Int):Rat)));refine AB S (Ko AD F) ?_;refine BX [] [0,1,4,6,7] [4,6] (fun vs R k=>∃(T1:List LR) (A1:LR) (i':Nat) (i:Int),vs=[.one (.sl AP c),.one (.sl Ae cr),.one (.BU 4 0 0),.one (.BU 6 0 0),AH i]/\R=[.var 0 [.nil,.nil],.var 0 [Ao T1,AT A1]]/\(AZ i i'/\i'<=p.length)/\s i'=(T1,A1)/\k=p.length-i') (p.length-0) ⟨[],a2,0,0,rfl,rfl,⟨BM 0,AA⟩,by rw[aa,F,E5];rfl,rfl⟩ ?_;rintro J0 a7 vs R aB ⟨T1,A1,i',i,rfl,rfl,⟨hi,aw⟩,M,ay⟩;have ei:=hi.eq;refine Af ?_;rintro aE ⟨aq,f20⟩;refine Bi (fun ah=>?_) fun ah=>?_
 ·exact AN ⟨⟨rfl,congrArg _ (by rw[<-U,(AA:p.length=i'),M]),congrArg _ (by rw[<-U,(AA:p.length=i'),M]),trivial⟩,t2,trivial⟩
 refine .inr ?_;obtain⟨n,x⟩:=CE (l:=c) (i:=i.toNat) AA;obtain⟨f,A,I⟩:=Jj (by rw[<-hc];exact x);rw[(AA:i.toNat=i')] at A;have T:=List.mem_of_getElem? A;have a1:n.2=f.2:=by rw[I]
 have L:n.2.length=f.2.length:=by rw[a1]
 have an:=hd f T;obtain⟨zi,Z⟩:=CE (l:=zs) (i:=i') AA;obtain⟨xf,ad,ae,af⟩:=ag i' f zi A Z;refine CJ x ?_;obtain⟨O,H⟩:=xR ([((n.1.1.1,n.1.1.2),n.1.2.1,n.1.2.2)]);refine AB (r:= .agg [.sl (.sl AJ) (([]:List LR)),AT O]) S ((by rw[H];exact yFR)) ?_;refine BX [] [0,1,4,6,7,8,9,10] [4,6,8] (fun vs R k=>∃(T2:List LR) (A2:LR) (B:Nat) (j:Int),vs=[.one (.sl AP c),.one (.sl Ae cr),.one (.BU 4 0 0),.one (.BU 6 0 0),AH i,.one (.BU 8 0 0),AH 0,AH j]/\R=[.var 0 [.nil,.nil],.var 0 [Ao T1,AT A1],.var 0 [Ao T2,AT A2]]/\(AZ j B/\B<=f.2.length)/\xf B=(T2,A2)/\k=f.2.length-B) (f.2.length-0) ⟨[],O,0,0,rfl,rfl,⟨BM 0,AA⟩,by rw[ad,H,I],rfl⟩ ?_;rintro J1 a8 vs R aC ⟨T2,A2,B,j,rfl,rfl,⟨hj,ax⟩,Y,az⟩;conv=>cbv
 have ej:=hj.eq;refine CJ x ?_;rintro ak ⟨a6,f36⟩;have ar:ak=(f.2.length:Int):=a6.trans (congrArg _ L);refine Bi (fun ai=>?_) fun ai=>?_
 ·obtain⟨⟨T4,A4⟩,h4⟩:∃z,z=s (i'+1):=⟨_,rfl⟩
  have EB:zi=(T2,A2):=by rw[<-af,<-Y,(AA:f.2.length=B)]
  refine AB (r:= .BI [(true,[Ao T4,AT A4]),(false,[.int .i64 0])]) S ((by have q:=ab i' zi Z;rw[M,<-h4,EB] at q;exact q)) ?_;refine BG ?_;intro aj au;exact Bj a7 ⟨T4,A4,i'+1,aj,rfl,rfl,⟨⟨AA⟩,AA⟩,h4.symm,rfl⟩
 refine .inr ?_;obtain⟨D,K⟩:=CE (l:=n.2) (i:=j.toNat) (by rw[L];omega);have J:f.2[B]? =some D:=by rw[<-a1,<-show j.toNat=B by omega];exact K
 have ao:=hv f T D (List.mem_of_getElem? J);obtain⟨y,hy⟩:=CE (l:=cr) (i:=D.toNat) AA;refine CJ x ?_;refine CJ K ?_;refine CJ hy ?_;obtain⟨⟨T3,A3⟩,h3⟩:∃z,z=xf (B+1):=⟨_,rfl⟩
 refine AB (r:= .BI [(true,[Ao T3,AT A3]),(false,[.int .i64 0])]) S ((by have q:=ae B D y J hy;rw[Y,<-h3] at q;exact q)) ?_;refine BG ?_;intro al av;exact Bj a8 ⟨T3,A3,B+1,al,rfl,rfl,⟨⟨AA⟩,AA⟩,h3.symm,rfl⟩
end
section
def jx {rv:Int}:∀{l:LR},FE rv l->∃ql:List Rat,l=ql.map rp/\∀q∈ql,C4 q
 | [],_=>⟨[],rfl,fun _ h=>by simp at h⟩
 | v::l,h=>by
  obtain⟨q,m,n,_⟩:=TD h (i:=0) rfl;obtain⟨ql,e,j⟩:=jx (l:=l) fun x f=>h x (List.mem_cons_of_mem _ f)
  refine⟨q::ql,by rw[List.map_cons,<-e,m.rp],fun x f=>?_⟩;rcases List.mem_cons.1 f with rfl | f
  ·exact n
  exact j x f
def yY {ql:List Rat} (h:∀q∈ql,C4 q):Kn (ql.map rp) (TX ql):=by
 cases ql with
 | nil=>exact .inl ⟨rfl,rfl⟩
 | cons q l=>exact .inr ⟨q,l.map rp,rfl,Gm (h q List.mem_cons_self),rfl⟩
def TZ {n:Int} {l:List Int} (h:Eg n l=true):∀x∈l,0<=x/\x<n:=fun x f=>of_decide_eq_true (List.all_eq_true.1 h x f)
end
section
def rz {kd sd AE:Int} {P C:List Int} {V:List Ex} {vl:LR} {AF:List Int} {X:List (el C2)} {W:List UInt8} {cr:List (el Ae)} {m:List (List (el AP))} {sg:List (el AP)->Int} {b:Bool} (hb:b=true↔∀q∈m,sg q=0) (T:CF 37 [.agg (cC kd P C V sd),AQ vl,.one (.sl .i64 AF),AH AE] (.one (.sl (.sl AP) m))) (F:∀q∈m,∃y:el Ae,CF 38 [.one (.sl AP q),.one (.sl Ae cr)] (BK (cN y) 0)/\CF 16 [.agg (cN y)] (AH (sg q))):CF 10 [.agg [.int .i64 kd,.sl .i64 P,.sl .i64 C,.sl .ex V,.int .i64 sd,AT vl,.sl .i64 AF,.int .i64 AE,.sl (.pr .u8 (.pr .u8 (.pr .u8 (.pr .i8 .u8)))) X,.sl .u8 W],.one (.sl Ae cr)] (.one (.bool b)):=by
 refine AL Tryz.func10 fun E D=>?_
 refine AB D T ?_;rintro J ⟨R,f18⟩;refine BX [] [1,17,18,19] [] (fun vs L k=>∃(i':Nat) (i:Int),vs=[.one (.sl Ae cr),.one (.sl (.sl AP) m),AH J,AH i]/\L=[]/\(AZ i i'/\i'<=m.length/\∀q∈m.take i',sg q=0)/\k=m.length-i') (m.length-0) ⟨0,0,rfl,rfl,⟨BM 0,AA,fun q j=>by simp at j⟩,rfl⟩ ?_;rintro J0 H vs L a1 ⟨i',i,rfl,rfl,⟨U,Y,x⟩,Z⟩;conv=>cbv
 have ei:=U.eq;refine Bi (fun I=>?_) fun I=>?_
 ·exact AO ((hb.2 fun q j=>x q (by rw[List.take_of_length_le AA];exact j)))
 refine .inr ?_;refine BA i' fun n f=>?_
 try conv=>cbv
 obtain⟨y,M,O⟩:=F n (List.mem_of_getElem? f);refine AB D M ?_;refine BG ?_;obtain⟨s0,A⟩:=xI (sg n);refine AB D (A ▸ O) ?_;refine HY (fun B=>?_) fun B=>?_
 ·exact AO ((Bool.eq_false_iff.2 fun e=>B (A.trans (hb.1 e n (List.mem_of_getElem? f)))))
 intro K S;refine⟨m.length-(i'+1),?_,?_⟩
 ·omega
 rw[H]
 exact⟨i'+1,K,rfl,rfl,⟨⟨AA⟩,AA,fun q j=>by
  rw[List.take_add_one,f] at j;rcases List.mem_append.1 j with j | j
  ·exact x q j
  rw[show q=n by simpa using j];exact A.symm.trans B⟩,rfl⟩
end
section
section
variable {AE N:Int} {a b c d r s sd:Int} {v:Rat}
def y4 (f:2*AE<=N) (ha:0<=a/\a<AE) (i:0<=c/\c<AE) (j:0<=r/\r<N):Wl N (O8 a c r):=
 Gj (HU (GR (Dn f i ha) (Dn f i ha)) ((HE (GS j)).mono Bg Bg AD (Int.le_refl _)))
def y5 (f:2*AE<=N) (ha:0<=a/\a<AE) (hb:0<=b/\b<AE) (i:0<=c/\c<AE) (j:0<=r/\r<N):Wl N (O9 a b c r):=
 Gj (XO (HE (LZ (Dn f ha hb) (Dn f ha i))) (Gy (HE (GS j)) (GR (Dn f ha hb) (Dn f ha hb))) AD)
def y6 (f:2*AE<=N) (i:0<=c/\c<AE) (j:0<=d/\d<AE) (m:0<=r/\r<N) (n:0<=s/\s<N):Wl N (PC c d r s):=
 Gj (HU (GR (Dn f i j) (Dn f i j)) ((HE (Pg (GS m) (GS n))).mono Bg Bg AD (Int.le_refl _)))
end
def Hh {N:Int} {p:List Mo} (h:Wl N p):∀q∈[p],Wl N q:=fun q f=>by rw[List.mem_singleton.1 f];exact h
def Vn {N:Int} {p r:List Mo} (h:Wl N p) (g:Wl N r):∀q∈[p,r],Wl N q:=fun q f=>by
 rcases List.mem_cons.1 f with rfl | f
 ·exact h
 exact Hh g q f
def tc {kd sd AE t:Int} {Q C AF:List Int} {X:List Ex} {ql:List Rat} (n:Hx kd Q C X sd AE (AF.length:Nat)) (K:∀q∈ql,C4 q) (R:ql.length=X.length) (y:Eg AE AF=true) {f:Int} (hf:f=kF kd (Di Q t) (Q.getD 0 0==t) (hasB Q t 0) (hasB Q t 2) (FG AF C t 0) (FG AF C t 1)) (f0:f≠0) (M:0<=AE):
  ∀q∈DT kd sd (Q.getD 0 0) (Q.getD 1 0) (Q.getD 2 0) (Q.getD 3 0) (TX ql) (ql.getD 1 0) (Cv AE C 0) (Cv AE C 1) (HM AF C 0) (HM AF C 1),Wl (2*AE+(AF.length:Nat)) q:=by
 have S:=n.kk;obtain⟨⟨l1,l2,l3⟩,T,U,Y,H,Z⟩:=n.ls;have j:∀p∈Q,0<=p/\p<AE:=fun p J=>of_decide_eq_true (List.all_eq_true.1 n.wp p J)
 have B:∀c∈C,0<=c/\c<(AF.length:Nat):=fun p J=>of_decide_eq_true (List.all_eq_true.1 n.wc p J)
 have m:2*AE<=2*AE+(AF.length:Nat):=AA
 have x:=n.np;have D:=n.nc;have A:=n.nv;have hb:∀q∈ql,Bd 64 [q]:=fun q O=>Gm (K q O)
 have I:kd=1\/kd=2\/kd=3\/kd=4\/kd=5\/kd=6\/kd=7\/kd=8\/kd=9\/kd=10\/kd=11\/kd=12\/kd=13\/kd=14\/kd=15\/kd=16\/kd=17:=AA
 rcases I with rfl | rfl | rfl | rfl | rfl | rfl | rfl | rfl | rfl | rfl | rfl | rfl | rfl | rfl | rfl | rfl | rfl
 ·obtain⟨a,rfl⟩:=Hl (l:=Q) (by have e:(Q.length:Int)=1:=x;omega);obtain⟨u,v,rfl⟩:=HR (l:=ql) (by have e:(X.length:Int)=2:=A;omega);rw[Wg];exact Vn (y8 m (j a AS) (hb u AS)) (y9 m (j a AS) (hb v AS))
 ·obtain⟨a,b,rfl⟩:=HR (l:=Q) (by have e:(Q.length:Int)=2:=x;omega);obtain⟨v,rfl⟩:=Hl (l:=ql) (by have e:(X.length:Int)=1:=A;omega);rw[Wp];exact Hh (zA m (j a AS) (j b AS) (hb v AS))
 ·obtain⟨a,b,c,rfl⟩:=LI (l:=Q) (by have e:(Q.length:Int)=3:=x;omega);rw[Wq];exact Hh (zB m (j a AS) (j b AS) (j c AS))
 ·obtain⟨a,b,c,rfl⟩:=LI (l:=Q) (by have e:(Q.length:Int)=3:=x;omega);obtain⟨v,rfl⟩:=Hl (l:=ql) (by have e:(X.length:Int)=1:=A;omega);rw[Ws];exact Hh (zD m (j a AS) (j b AS) (j c AS) (hb v AS))
 ·obtain⟨a,b,c,d,rfl⟩:=H9 (l:=Q) (H AD);obtain⟨v,rfl⟩:=Hl (l:=ql) (by have e:(X.length:Int)=1:=A;omega);rw[Wt];exact Hh (zE m (j a AS) (j b AS) (j c AS) (j d AS) (hb v AS))
 ·obtain⟨a,b,c,d,rfl⟩:=H9 (l:=Q) (H AD);rw[Wu];exact Hh (zF m (j a AS) (j b AS) (j c AS) (j d AS))
 ·obtain⟨a,b,c,d,rfl⟩:=H9 (l:=Q) (H AD);rw[Ww];exact Hh (j6 m (j a AS) (j b AS) (j c AS) (j d AS))
 ·obtain⟨a,b,c,d,rfl⟩:=H9 (l:=Q) (H AD);rw[Wx];exact Hh (zG m (j a AS) (j b AS) (j c AS) (j d AS))
 ·obtain⟨a,b,c,rfl⟩:=LI (l:=Q) (by have e:(Q.length:Int)=3:=x;omega);rw[Wy];have h:=zH m (j a AS) (j b AS) (j c AS);exact Vn h.1 h.2
 ·obtain⟨a,b,c,d,rfl⟩:=H9 (l:=Q) (by have e:(Q.length:Int)=4:=x;omega);rw[Wh];exact Vn (yw m (j a AS) (j b AS) (j c AS) (j d AS)) (j6 m (j a AS) (j b AS) (j c AS) (j d AS))
 ·obtain⟨a,b,rfl⟩:=HR (l:=Q) (by have e:(Q.length:Int)=2:=x;omega);rw[Wi];exact Hh (yy m (j a AS) (j b AS))
 ·obtain⟨a,b,rfl⟩:=HR (l:=Q) (by have e:(Q.length:Int)=2:=x;omega);rw[Wj];exact Hh (y0 m (j a AS) (j b AS))
 ·obtain⟨a,rfl⟩:=Hl (l:=Q) (by have e:(Q.length:Int)=1:=x;omega);obtain⟨c,rfl⟩:=Hl (l:=C) (by have e:(C.length:Int)=1:=D;omega);have L:=B c AS;rw[Wz];exact Hh (y4 (r:=2*AE+c) m (j a AS) (MB (i:=0) y B (AD:0<1)) ⟨AA,AA⟩)
 ·exact absurd (by rw[hf];rfl) f0
 ·exact absurd (by rw[hf];rfl) f0
 ·obtain⟨a,b,rfl⟩:=HR (l:=Q) (by have e:(Q.length:Int)=2:=x;omega);obtain⟨c,rfl⟩:=Hl (l:=C) (by have e:(C.length:Int)=1:=D;omega);have L:=B c AS;rw[W4];exact Hh (y5 (r:=2*AE+c) m (j a AS) (j b AS) (MB (i:=0) y B (AD:0<1)) ⟨AA,AA⟩)
 obtain⟨c,d,rfl⟩:=HR (l:=C) (by have e:(C.length:Int)=2:=D;omega);have L:=B c AS;have pd:=B d AS;have cin:=MB (i:=0) y B (AD:0<2);have F:=MB (i:=1) y B (AD:1<2)
 by_cases e:sd=1
 ·rw[Wn e];exact Hh (y6 (r:=2*AE+c) (s:=2*AE+d) m cin F ⟨AA,AA⟩ ⟨AA,AA⟩)
 rw[Wo e];exact Hh (y7 (r:=2*AE+c) (s:=2*AE+d) m cin F ⟨AA,AA⟩ ⟨AA,AA⟩)
def sk {p q:List Mo} (h:BH p=BH q):p=q:=by
 unfold BH at h;refine (List.map_inj_right fun x y e=>?_).1 h;exact Prod.ext (JE (Prod.mk.inj e).1) (Prod.mk.inj e).2
section
variable {P:AG->Prop} {V:List Re} {w:AG} {cr:List (el Ae)} {AE:Int}
def qx (F:Fl (Tf P) w) {AF:List Int} (H:FA P w cr AE AF.length) {ρ:Int->Re} (U:∀i:Int,0<=i/\i<2*AE+(AF.length:Nat)->NF P w 20 (cr.getD i.toNat ([],[])) (ρ i)) {kd sd t:Int} {Q C:List Int} {X:List Ex} {ql:List Rat} (y:Hx kd Q C X sd AE (AF.length:Nat)) (I:∀q∈ql,C4 q) (S:ql.length=X.length) (J:Eg AE AF=true) {f:Int} (hf:f=kF kd (Di Q t) (Q.getD 0 0==t) (hasB Q t 0) (hasB Q t 2) (FG AF C t 0) (FG AF C t 1)) (f0:f≠0) {Jw:List (el C2)} {By:List UInt8} {b:Bool} (hb:b=true↔Hz ρ kd sd Q C ql (ql.getD 1 0) AF AE):
  CF 10 [.agg [.int .i64 kd,.sl .i64 Q,.sl .i64 C,.sl .ex X,.int .i64 sd,AT (ql.map rp),.sl .i64 AF,.int .i64 AE,.sl C2 Jw,.sl .u8 By],.one (.sl Ae cr)] (.one (.bool b)):=by
 have hl:=H.len;obtain⟨⟨L,a1⟩,R⟩:=H.b;have hw:=tc y I S J hf f0 L;have K:=y.ls.1
 have hO:=za (vl:=ql.map rp) (w:=ql.getD 1 0) (X:=X) (sd:=sd) y.kk (fun h=>by
  subst h;obtain⟨u,v,rfl⟩:=HR (l:=ql) (by have e:(X.length:Int)=2:=y.nv;omega);exact⟨rfl,Gm (I v AS)⟩) ⟨L,AA⟩ (fun x T=>by have:=TZ y.wp x T;omega) K.1 (TZ y.wc) K.2.1 R (fun x T=>by have:=TZ J x T;omega) (yY I) rfl rfl rfl rfl rfl rfl rfl
 unfold Hz at hb
 generalize DT kd sd (Q.getD 0 0) (Q.getD 1 0) (Q.getD 2 0) (Q.getD 3 0) (TX ql) (ql.getD 1 0) (Cv AE C 0) (Cv AE C 1) (HM AF C 0) (HM AF C 1)=l at*
 have M:∀c:List (el AP),∃s:Int,∀q∈l,BH q=c->s=Bv (BS ρ q):=fun c=>by
  by_cases h:∃q∈l,BH q=c
  ·obtain⟨q,j,e⟩:=h;exact⟨Bv (BS ρ q),fun Y _ Z=>by rw[sk (Z.trans e.symm)]⟩
  exact⟨0,fun q j e=>absurd ⟨q,j,e⟩ h⟩
 have D:∀q∈l,(M (BH q)).choose=Bv (BS ρ q):=fun q j=>(M (BH q)).choose_spec q j rfl
 refine rz (sg:=fun c=>(M c).choose) (hb.trans ?_) hO fun Y B=>?_
 ·constructor
  ·intro h Y B;obtain⟨q,j,rfl⟩:=List.mem_map.1 B
   show (M (BH q)).choose=0
   rw[D q j,G0];exact h q j
  intro h q j;have:=h (BH q) (List.mem_map.2 ⟨q,j,rfl⟩);rw[D q j,G0] at this;exact this
 obtain⟨q,j,rfl⟩:=List.mem_map.1 B;obtain⟨n,b',hn,O,A⟩:=hw q j;obtain⟨z,hE,hz⟩:=qI F (cr:=cr) (ρ:=ρ) (fun i hi=>⟨_,getD_some AA,U i hi⟩) A O hn;obtain⟨g,hg,_,c2⟩:=Gw F hz;refine⟨z,zX hE A.vr AA (fun m hm=>Nat.le_trans (A.pb.Fh m hm) AD) rfl,?_⟩
 show Eo _ _ _ _ (.one (.int .i64 (M (BH q)).choose))
 rw[D q j,<-hg];exact c2
def tq (L:Pl P V w) (F:Fl (Tf P) w) {AF:List Int} (H:FA P w cr AE AF.length) {ρ:Int->Re} (A:∀i:Int,0<=i/\i<2*AE+(AF.length:Nat)->NF P w 20 (cr.getD i.toNat ([],[])) (ρ i)) {kd sd t:Int} {Q C:List Int} {X:List Ex} {ql:List Rat} (j:Hx kd Q C X sd AE (AF.length:Nat)) (y:FE (DO kd).2.2.2.2.1 (ql.map rp)/\(ql.map rp).length=X.length) (x:Eg AE AF=true) {f:Int} (hf:f=kF kd (Di Q t) (Q.getD 0 0==t) (hasB Q t 0) (hasB Q t 2) (FG AF C t 0) (FG AF C t 1)):
  (∃e,e≠0/\Er (CF 6 [.agg (cC kd Q C X sd),AQ (ql.map rp),.one (.sl .i64 AF),AH AE,AH t,.one (.sl Ae cr)]) e)\/
  (f≠0/\∃k tg ag G,CF 6 [.agg (cC kd Q C X sd),AQ (ql.map rp),.one (.sl .i64 AF),AH AE,AH t,.one (.sl Ae cr)] (BK (Ct k tg ag) 0)/\Lv P w G k tg ag/\ZG ρ kd t Q (Hz ρ kd sd Q C ql (ql.getD 1 0) AF AE) G):=by
 obtain⟨⟨l1,l2,l3⟩,M,O,T,U,Y⟩:=j.ls;have I:∀c∈C,0<=c/\c<(AF.length:Nat):=fun p K=>of_decide_eq_true (List.all_eq_true.1 j.wc p K)
 have m:=QI (sd:=sd) (V:=X) AA j.wc M O (rj j.kk j.np (t:=t) (c0:=FG AF C t 0) (c1:=FG AF C t 1) fun J a b c d e=>(j.pr J a b c d (by rw[e];rfl) (by rw[e];rfl) (by rw[e];rfl) (by rw[e];rfl)).1).symm;rw[<-hf] at m;have S:=rY hf
 by_cases f0:f=0
 ·subst f0;exact .inl ⟨1,AD,0,Da,Da,wG m rfl⟩
 have k0:kD f≠0:=by
  have:f=1\/f=2\/f=3:=AA
  rcases this with rfl | rfl | rfl <;> decide
 obtain⟨b,hR⟩:=H.ndp F (kd:=kd) (sd:=sd) (Q:=Q) (X:=X) (vl:=ql.map rp) (Fg:= -1) I;cases b
 ·exact .inl ⟨1,AD,0,Da,Da,wH m hR⟩
 rcases ta L F H A j y x hf f0 with⟨e,k,tg,ag,B,n⟩ |⟨k,tg,ag,G,n,D,R,z⟩
 ·exact .inl ⟨e,B,0,Da,Da,wE m k0 hR B n⟩
 exact .inr ⟨f0,k,tg,ag,G,gj m k0 hR n D,R,z⟩
end
end
section
def ym {TT:AG->Prop} {w:AG} (F:Fd TT w) {CT CU CX C5 Dg:List LR} {CQ CR CW C3 Df:LR} {B D vs xa ya:Re} {y L ka:Nat} {A:Int} (M:Vm TT w 1950000 y y CT CQ CU CR B D) (O:Nm TT w 1950000 L CX CW vs) (ha:Vm TT w 1950000 ka ka C5 C3 Dg Df xa ya) (x:A=Bv ((B-xa)*(B-xa)+(D-ya)*(D-ya)-vs)) (R:4*ka+4*y+L+119<=80000):CF 36 [.agg (DL CT CQ CU CR CX CW),.agg (Ag C5 C3 Dg Df)] (.BI [(false,[.int .i64 A]),(false,[.int .i64 0])]):=by
 obtain⟨I,H,m,i⟩:=um F M O ha AA;obtain⟨n,f,J,j⟩:=Gw F m;obtain rfl:A=n:=(x.symm).symm.trans f.symm;refine AL Tryz.func36 fun E K=>?_
 refine AB K i ?_;refine BG ?_;refine AB K j ?_;exact AN ⟨t2,t2,trivial⟩
def yj {TT:AG->Prop} {w:AG} {R b c M q p:Nat} (F:Fm TT w R b c M q p) {CT CU CX C5 Dg:List LR} {CQ CR CW C3 Df:LR} {va vb j m n:Re} {kb i f:Nat} {e:Bool} {T1 T2:List LR} {A1 A2:LR} (y:Hw TT w b kb i CT CQ CU CR CX CW va vb j) (A:Vm TT w b f f C5 C3 Dg Df m n) (he:e=true↔va*m+vb*n=j) (B:kb+i+f+f+c+8<=M):CF 9 [.agg [.int .i64 1,Ao CT,AT CQ,Ao CU,AT CR,Ao CX,AT CW,Ao T1,AT A1,Ao T2,AT A2,BB,BC,BB,BC,BB,BC,BB,BC,BB,BC],.agg (Ag C5 C3 Dg Df)] (.one (.bool e)):=by
 refine AL Tryz.func9 fun E x=>?_
 refine .inr ?_;refine CN ?_;refine AB x (rOn F y A AA he) ?_;exact AN ⟨t2,trivial⟩
def yh {TT:AG->Prop} {w:AG} (F:Fd TT w) {CT CU CX C5 Dg:List LR} {CQ CR CW C3 Df:LR} {i m vs j n:Re} {y B A:Nat} {e:Bool} (H:Vm TT w 1950000 y y CT CQ CU CR i m) (I:Nm TT w 1950000 B CX CW vs) (J:Vm TT w 1950000 A A C5 C3 Dg Df j n) (he:e=true↔(j-i)*(j-i)+(n-m)*(n-m)=vs) (L:4*y+B+4*A+119<=80000):CF 9 [.agg [.int .i64 2,BB,BC,BB,BC,BB,BC,BB,BC,BB,BC,Ao CT,AT CQ,Ao CU,AT CR,Ao CX,AT CW,BB,BC,BB,BC],.agg (Ag C5 C3 Dg Df)] (.one (.bool e)):=by
 obtain⟨M,f⟩:∃z,z=Bv ((i-j)*(i-j)+(m-n)*(m-n)-vs):=⟨_,rfl⟩
 refine AL Tryz.func9 fun E D=>?_
 refine .inr ?_;refine BG ?_;refine CN ?_;refine AB D (ym F H I J f AA) ?_;refine CN ?_;intro K x;exact AO (by rw[Bool.eq_iff_iff,he,x,beq_iff_eq,f,G0];constructor <;> intro h <;> grind)
def yl {TT:AG->Prop} {w:AG} {R b c M q p:Nat} (F:Fm TT w R b c M q p) {CT CU CX C5:List LR} {CQ CR CW C3:LR} {xp yp i j:Re} {kp f:Nat} {e:Bool} (n:Vm TT w b kp kp CT CQ CU CR xp yp) (x:Vm TT w b f f CX CW C5 C3 i j) (he:e=true↔xp=i/\yp=j) (y:2*kp+2*f+4*c+3<=M):CF 9 [.agg [.int .i64 3,BB,BC,BB,BC,BB,BC,BB,BC,BB,BC,BB,BC,BB,BC,BB,BC,Ao CT,AT CQ,Ao CU,AT CR],.agg (Ag CX CW C5 C3)] (.one (.bool e)):=by
 refine AL Tryz.func9 fun E m=>?_
 refine .inr ?_;refine BG ?_;refine BG ?_;refine CN ?_;refine AB m (zV F n x AA AA AA AA he) ?_;exact AN ⟨t2,trivial⟩
section
variable {P:AG->Prop} {w:AG} {G:Re->Re->Prop} {k:Int} {t:Nat->FB} {a:Nat->FC}
def fB (F:Fl (Tf P) w) (D:Lv P w G k t a) {z:el Co} {x y:Re} (i:VF P w 9500 z x y) {e:Bool} (he:e=true↔G x y):CF 9 [.agg (Ct k t a),.agg (cV z)] (.one (.bool e)):=by
 cases D with
 | ln j m up H f=>exact yj j m ⟨up i.x,up i.y⟩ (he.trans (f x y).symm) AA
 | ci j n B A m f=>exact yh j n B (i.to (b':=1950000) (k':=11) AD) (he.trans (f x y).symm) AA
 | pt h A f=>exact yl F h i (he.trans (f x y).symm) AA
end
end
section
section
variable {P:AG->Prop} {w:AG}
def rF (F:Fl (Tf P) w) {p q z:el Co} {xp yp xq yq x y:Re} (m:VF P w 20 p xp yp) (hq:VF P w 20 q xq yq) (hz:VF P w 20 z x y) (T:¬(xp=xq/\yp=yq)):∃(v o:el Co) (d s k l:el Ae) (u1 u2 u3:el Co) (K:Re),
  CF 28 [.agg (cV q),.agg (cV p)] (BK (cV v) 0)/\CF 28 [.agg (cV z),.agg (cV p)] (BK (cV o) 0)/\
  CF 29 [.agg (cV o),.agg (cV v)] (BK (cN d) 0)/\CF 30 [.agg (cV v)] (BK (cN s) 0)/\
  CF 31 [.agg (cN d),.agg (cN s)] (BK (cN k) 0)/\CF 32 [.agg (cN k),.agg (cN k)] (BK (cN l) 0)/\
  CF 33 [.agg (cV v),.agg (cN l)] (BK (cV u1) 0)/\CF 28 [.agg (cV u1),.agg (cV o)] (BK (cV u2) 0)/\
  CF 34 [.agg (cV p),.agg (cV u2)] (BK (cV u3) 0)/\VF P w 9500 u3 (xp+((xq-xp)*K-(x-xp))) (yp+((yq-yp)*K-(y-yp))):=by
 obtain⟨T1,A1,T2,A2,i,c1⟩:=To F hq m;obtain⟨T3,A3,T4,A4,n,c2⟩:=To F hz m;obtain⟨Td,Ad,h3,c3⟩:=kM F n i;obtain⟨Ts,As,U,J⟩:=kR F i;have hs:(xq+ -xp)*(xq+ -xp)+(yq+ -yp)*(yq+ -yp)≠0:=TH fun⟨a,b⟩=>T ⟨by grind,by grind⟩
 obtain⟨H,B,A,_,L⟩:=IB F h3 U Bg hs;obtain⟨Tl,Al,j,_,M⟩:=JC F A A;obtain⟨K,j⟩:∃K,NF P w 8050 (Tl,Al) K:=⟨_,j.mono AD⟩
 obtain⟨T5,A5,T6,A6,Y,O⟩:=zb F i j;obtain⟨T7,A7,T8,A8,Z,R⟩:=To F Y n;obtain⟨T9,A9,I,D,h9,S⟩:=kK F m Z;refine⟨((T1,A1),T2,A2),((T3,A3),T4,A4),(Td,Ad),(Ts,As),(H,B),(Tl,Al),((T5,A5),T6,A6),((T7,A7),T8,A8),((T9,A9),I,D),K,c1,c2,c3,J,L,M,O,R,S,?_⟩;have h:=h9.mono (l:=9500) (l':=9500) AD AD;rw[show ∀a b c e f:Re,a+((b+ -c)*e+ -(f+ -c))=a+((b-c)*e-(f-c)) by intro a b c e f;grind,show ∀a b c e f:Re,a+((b+ -c)*e+ -(f+ -c))=a+((b-c)*e-(f-c)) by intro a b c e f;grind] at h;exact h
end
end
section
variable {C P AF:List Int} {V:List Ex} {W:List UInt8} {X:List (el C2)} {cr:List (el Ae)} {d k l s:el Ae} {g h o u1 u2 u3 v z:el Co} {p AE q sd:Int} {vl:LR}
def r2 {kd:Int} (x:kd≠4) (m:kd≠16):CF 7 [.agg [.int .i64 kd,.sl .i64 P,.sl .i64 C,.sl .ex V,.int .i64 sd,AT vl,.sl .i64 AF,.int .i64 AE,.sl C2 X,.sl .u8 W],.one (.sl Ae cr),.agg (Ag z.1.1 z.1.2 z.2.1 z.2.2)] (.one (.sl Co [z])):=by
 refine AL Tryz.func7 fun E y=>?_
 intro n f;refine .inr ?_;cases n <;> conv=>cbv
 ·have i:=CI f;refine OK (fun j=>?_) fun j=>?_
  ·exact absurd j m
  refine⟨[((z.1.1,z.1.2),(z.2.1,z.2.2))],Cj,.inr ?_⟩;try conv=>cbv
  exact AN ⟨t2,trivial⟩
 have i:=CL f;exact absurd i x
def r6 (H:P[1]? =some p) (I:P[2]? =some q) (B:CF 8 [.one (.sl Ae cr),AH p] (.agg (cV g))) (D:CF 8 [.one (.sl Ae cr),AH q] (.agg (cV h))) (c1:CF 28 [.agg (cV h),.agg (cV g)] (BK (cV v) 0)) (c2:CF 28 [.agg (cV z),.agg (cV g)] (BK (cV o) 0)) (c3:CF 29 [.agg (cV o),.agg (cV v)] (BK (cN d) 0)) (j:CF 30 [.agg (cV v)] (BK (cN s) 0)) (m:CF 31 [.agg (cN d),.agg (cN s)] (BK (cN k) 0)) (n:CF 32 [.agg (cN k),.agg (cN k)] (BK (cN l) 0)) (x:CF 33 [.agg (cV v),.agg (cN l)] (BK (cV u1) 0)) (y:CF 28 [.agg (cV u1),.agg (cV o)] (BK (cV u2) 0)) (A:CF 34 [.agg (cV g),.agg (cV u2)] (BK (cV u3) 0)):CF 7 [.agg [.int .i64 4,.sl .i64 P,.sl .i64 C,.sl .ex V,.int .i64 sd,AT vl,.sl .i64 AF,.int .i64 AE,.sl C2 X,.sl .u8 W],.one (.sl Ae cr),.agg (Ag z.1.1 z.1.2 z.2.1 z.2.2)] (.one (.sl Co [z,u3])):=by
 refine AL Tryz.func7 fun E f=>?_
 refine CN ?_;refine .inr ?_;refine CJ H ?_;refine AB f B ?_;intro i F;refine⟨q,fun _=>⟨AA,(by rw[(AA:(i).toNat=2)];exact I)⟩,?_⟩;try conv=>cbv
 refine AB f D ?_;refine AB f c1 ?_;refine AB f c2 ?_;refine AB f c3 ?_;refine AB f j ?_;refine AB f m ?_;refine BG ?_;refine AB f n ?_;refine AB f x ?_;refine AB f y ?_;refine AB f A ?_;refine⟨[((z.1.1,z.1.2),(z.2.1,z.2.2)),((u3.1.1,u3.1.2),(u3.2.1,u3.2.2))],fun _=>⟨rfl,AD,rfl,⟨rfl,DB,⟨rfl,DB,trivial⟩⟩⟩,.inr ?_⟩;try conv=>cbv
 exact AN ⟨t2,trivial⟩
def r3 (H:P[0]? =some p) (I:P[1]? =some q) (B:CF 8 [.one (.sl Ae cr),AH p] (.agg (cV g))) (D:CF 8 [.one (.sl Ae cr),AH q] (.agg (cV h))) (c1:CF 28 [.agg (cV h),.agg (cV g)] (BK (cV v) 0)) (c2:CF 28 [.agg (cV z),.agg (cV g)] (BK (cV o) 0)) (c3:CF 29 [.agg (cV o),.agg (cV v)] (BK (cN d) 0)) (j:CF 30 [.agg (cV v)] (BK (cN s) 0)) (m:CF 31 [.agg (cN d),.agg (cN s)] (BK (cN k) 0)) (n:CF 32 [.agg (cN k),.agg (cN k)] (BK (cN l) 0)) (x:CF 33 [.agg (cV v),.agg (cN l)] (BK (cV u1) 0)) (y:CF 28 [.agg (cV u1),.agg (cV o)] (BK (cV u2) 0)) (A:CF 34 [.agg (cV g),.agg (cV u2)] (BK (cV u3) 0)):CF 7 [.agg [.int .i64 16,.sl .i64 P,.sl .i64 C,.sl .ex V,.int .i64 sd,AT vl,.sl .i64 AF,.int .i64 AE,.sl C2 X,.sl .u8 W],.one (.sl Ae cr),.agg (Ag z.1.1 z.1.2 z.2.1 z.2.2)] (.one (.sl Co [z,u3])):=by
 refine AL Tryz.func7 fun E f=>?_
 refine BG ?_;refine .inr ?_;refine BG ?_;refine CJ H ?_;refine AB f B ?_;intro i F;refine⟨q,fun _=>⟨AA,(by rw[(AA:(i).toNat=1)];exact I)⟩,?_⟩;try conv=>cbv
 refine AB f D ?_;refine AB f c1 ?_;refine AB f c2 ?_;refine AB f c3 ?_;refine AB f j ?_;refine AB f m ?_;refine BG ?_;refine AB f n ?_;refine AB f x ?_;refine AB f y ?_;refine AB f A ?_;refine⟨[((z.1.1,z.1.2),(z.2.1,z.2.2)),((u3.1.1,u3.1.2),(u3.2.1,u3.2.2))],fun _=>⟨rfl,AD,rfl,⟨rfl,DB,⟨rfl,DB,trivial⟩⟩⟩,.inr ?_⟩;try conv=>cbv
 exact AN ⟨t2,trivial⟩
end
section
variable {C AF:List Int} {Vr:List Re} {kd AE sd:Int} {ns:List Nu} {vl:LR}
def tp (hV:Vr.length<=3) (S:∀n∈ns,DA Vr n) {Q:List Int} {X:List Ex} {Jw:List (el C2)} {By:List UInt8} (h:ON ns kd sd AE Q C X vl AF By) {L:List (el Ae)} (hL:L=(HN ns AE By By.length).map nm) {t:Int} (ht:0<=t/\t<AE):
  ∃(k:Int) (tg:Nat->FB) (ag:Nat->FC) (e1:Int),CF 6 [.agg (cC kd Q C X sd),AQ vl,.one (.sl .i64 AF),AH AE,AH t,.one (.sl Ae L)] (BK (Ct k tg ag) e1)/\(e1=0->∃(l:List (el Co)) (os:List Bool) (b:Bool),CF 7 [.agg [.int .i64 kd,.sl .i64 Q,.sl .i64 C,.sl .ex X,.int .i64 sd,AT vl,.sl .i64 AF,.int .i64 AE,.sl C2 Jw,.sl .u8 By],.one (.sl Ae L),.agg (cV (Ie L t))] (.one (.sl Co l))/\os.length=l.length/\(∀(i:Nat) (p:el Co) (o:Bool),l[i]? =some p->os[i]? =some o->CF 9 [.agg (Ct k tg ag),.agg (cV p)] (.one (.bool o)))/\CF 10 [.agg [.int .i64 kd,.sl .i64 Q,.sl .i64 C,.sl .ex X,.int .i64 sd,AT vl,.sl .i64 AF,.int .i64 AE,.sl C2 Jw,.sl .u8 By],.one (.sl Ae L)] (.one (.bool b))/\b=os.any id):=by
 obtain⟨w,Z⟩:=dd hV S;have F:=Z.fl WH;have H:=aU Z S h;rw[<-hL] at H;obtain⟨ρ,I⟩:=H.rho;obtain⟨ql,e,hq⟩:=jx h.sh.1;subst e;have T:=h.sh;have a1:ql.length=X.length:=by have:=T.2;rwa [List.length_map] at this
 have hN:2*AE<=2*AE+(AF.length:Nat):=AA
 obtain⟨f,hf⟩:∃f,f=kF kd (Di Q t) (Q.getD 0 0==t) (hasB Q t 0) (hasB Q t 2) (FG AF C t 0) (FG AF C t 1):=⟨_,rfl⟩
 rcases tq Z F H I h.va T h.cw hf with⟨e,he,k,tg,ag,c⟩ |⟨f0,k,tg,ag,G,c,lv,zg⟩
 ·exact⟨k,tg,ag,e,c,fun h=>absurd h he⟩
 refine⟨k,tg,ag,0,c,fun _=>?_⟩;obtain⟨b,hb⟩:=Es (Hz ρ kd sd Q C ql (ql.getD 1 0) AF AE);have hH:=qx (Jw:=Jw) (By:=By) F H I h.va hq a1 h.cw hf f0 hb;have hz:=EK I hN ht;have EI:VF (PN (KP ns)) w 9500 (Ie L t) (ρ (2*t)) (ρ (2*t+1)):=hz.mono AD AD;obtain⟨o1,J⟩:=Es (G (ρ (2*t)) (ρ (2*t+1)));have d1:=fB F lv EI J
 have a2:∀a j:Int,(kd=4/\a=Q.getD 1 0/\j=Q.getD 2 0\/kd=16/\a=Q.getD 0 0/\j=Q.getD 1 0)->(0<=a/\a<AE)->(0<=j/\j<AE)->∃(u:el Co) (O:Bool),CF 7 [.agg [.int .i64 kd,.sl .i64 Q,.sl .i64 C,.sl .ex X,.int .i64 sd,AT (ql.map rp),.sl .i64 AF,.int .i64 AE,.sl C2 Jw,.sl .u8 By],.one (.sl Ae L),.agg (cV (Ie L t))] (.one (.sl Co [Ie L t,u]))/\CF 9 [.agg (Ct k tg ag),.agg (cV u)] (.one (.bool O))/\(b=true↔o1=true\/O=true):=fun a j Y ha B=>by
  obtain⟨ne,hG⟩:=zg.2 a j Y;obtain⟨v,o,d,s,k',l',u1,u2,u3,K,c1,c2,c3,c4,c5,c6,c7,c8,c9,hu⟩:=rF F (EK I hN ha) (EK I hN B) hz ne;obtain⟨O,R⟩:=Es (G (ρ (2*a)+((ρ (2*j)-ρ (2*a))*K-(ρ (2*t)-ρ (2*a)))) (ρ (2*a+1)+((ρ (2*j+1)-ρ (2*a+1))*K-(ρ (2*t+1)-ρ (2*a+1)))));refine⟨u3,O,?_,fB F lv hu R,hb.trans ((hG K).symm.trans (by rw[J,R]))⟩;rcases Y with⟨rfl,rfl,rfl⟩ |⟨rfl,rfl,rfl⟩
  ·obtain⟨x,y,z,rfl⟩:=LI (l:=Q) (by have e:(Q.length:Int)=3:=h.va.np;omega);exact r6 rfl rfl (H.at ha) (H.at B) c1 c2 c3 c4 c5 c6 c7 c8 c9
  obtain⟨x,y,rfl⟩:=HR (l:=Q) (by have e:(Q.length:Int)=2:=h.va.np;omega);exact r3 rfl rfl (H.at ha) (H.at B) c1 c2 c3 c4 c5 c6 c7 c8 c9
 have two:(∃a j:Int,(kd=4/\a=Q.getD 1 0/\j=Q.getD 2 0\/kd=16/\a=Q.getD 0 0/\j=Q.getD 1 0)/\(0<=a/\a<AE)/\(0<=j/\j<AE))->∃(l:List (el Co)) (os:List Bool) (b:Bool),CF 7 [.agg [.int .i64 kd,.sl .i64 Q,.sl .i64 C,.sl .ex X,.int .i64 sd,AT (ql.map rp),.sl .i64 AF,.int .i64 AE,.sl C2 Jw,.sl .u8 By],.one (.sl Ae L),.agg (cV (Ie L t))] (.one (.sl Co l))/\os.length=l.length/\(∀(i:Nat) (p:el Co) (o:Bool),l[i]? =some p->os[i]? =some o->CF 9 [.agg (Ct k tg ag),.agg (cV p)] (.one (.bool o)))/\CF 10 [.agg [.int .i64 kd,.sl .i64 Q,.sl .i64 C,.sl .ex X,.int .i64 sd,AT (ql.map rp),.sl .i64 AF,.int .i64 AE,.sl C2 Jw,.sl .u8 By],.one (.sl Ae L)] (.one (.bool b))/\b=os.any id:=fun⟨a,j,Y,ha,B⟩=>by
  obtain⟨u,O,m,d2,e⟩:=a2 a j Y ha B;refine⟨[Ie L t,u],[o1,O],b,m,rfl,fun i p o A D=>?_,hH,by rw[Bool.eq_iff_iff,e];simp⟩
  match i,A,D with
  | 0,A,D=>cases A;cases D;exact d1
  | 1,A,D=>cases A;cases D;exact d2
  | i+2,A,D=>simp at A
 have U:=TZ h.va.wp
 by_cases k4:kd=4
 ·subst k4;obtain⟨x,y,z,rfl⟩:=LI (l:=Q) (by have e:(Q.length:Int)=3:=h.va.np;omega);exact two ⟨y,z,.inl ⟨rfl,rfl,rfl⟩,U y AS,U z AS⟩
 by_cases M:kd=16
 ·subst M;obtain⟨x,y,rfl⟩:=HR (l:=Q) (by have e:(Q.length:Int)=2:=h.va.np;omega);exact two ⟨x,y,.inr ⟨rfl,rfl,rfl⟩,U x AS,U y AS⟩
 refine⟨[Ie L t],[o1],b,r2 k4 M,rfl,fun i p o A D=>?_,hH,by rw[Bool.eq_iff_iff,hb,<-zg.1 k4 M,<-J];simp⟩
 match i,A,D with
 | 0,A,D=>cases A;cases D;exact d1
 | i+1,A,D=>simp at A
def zk {M:Int} {P:List Int} {V:List Ex} {X:List (el C2)} {W:List UInt8} {N:Nat} (hk:Ej kd) (a2:Ej AE) (hN:N<=1048576) (hV:∀(i:Nat) (e:Ex),V[i]? =some e->Gl N e) (hs:∀v∈vl,v.1.2.length<=4000000/\v.2.2.length<=4000000) (a1:ns=(runN (X.take 24)).1) (m:Vr.length<=3) (j:∀n∈ns,DA Vr n):CF 3 [.agg [.int .i64 kd,.sl .i64 P,.sl .i64 C,.sl .ex V,.int .i64 sd,AT vl,.sl .i64 AF,.int .i64 AE,.sl C2 X,.sl .u8 W],AH M] (.one (.bool true)):=by
 refine AL Tryz.func3 fun E f=>?_
 obtain⟨b9,H⟩:=Es (ON ns kd sd AE P C V vl AF W);obtain⟨R,F⟩:∃z:List (el Ae),z=if b9=true then (HN ns AE W W.length).map nm else []:=⟨_,rfl⟩
 refine AB f (ke hk a2 hN hV hs a1 m j H F) ?_;refine AB f SP ?_;refine BG ?_;refine IH (fun A=>?_) fun A=>?_
 ·refine AB f SP ?_;exact AN ⟨t2,trivial⟩
 refine Dk (fun a5=>?_) fun a5=>?_
 ·refine AB f SP ?_;exact AN ⟨t2,trivial⟩
 refine OH (fun a6=>?_) fun a6=>?_
 ·refine AB f SP ?_;exact AN ⟨t2,trivial⟩
 have I:=H.1 A;have hL:R=(HN ns AE W W.length).map nm:=by rw[F,A];rfl
 obtain⟨k1,tg,ag,e1,S,Z⟩:=tp m j I hL (t:=M) ⟨AA,AA⟩;refine AB f S ?_;refine HY (fun K=>?_) fun K=>?_
 ·exact AN ⟨t2,trivial⟩
 obtain⟨L,os,b8,cM,hlen,cN,cH,Y⟩:=Z K;obtain⟨w9,L0⟩:=dd m j;have O:=aU L0 j I;rw[<-hL] at O;have cT:=O.at (p:=M) ⟨AA,AA⟩
 clear L0 O
 generalize Ie R M=z9 at cM cT
 refine AB f cT ?_;refine AB f cM ?_;rintro a8 ⟨ab,f56⟩;refine BX [] [2,5,7,9,55,56,57] [2,7] (fun vs bl k=>∃(i':Nat) (i:Int) (o:Bool),vs=[.one (.BU 2 0 0),.one (.sl Ae R),.one (.BU 7 0 0),.one (.bool o),.one (.sl Co L),AH a8,AH i]/\bl=[.var 0 [.int .i64 kd,.sl .i64 P,.sl .i64 C,.sl .ex V,.int .i64 sd,AT vl,.sl .i64 AF,.int .i64 AE,.sl C2 X,.sl .u8 W],.var 0 (Ct k1 tg ag)]/\(AZ i i'/\i'<=L.length/\o=(os.take i').any id)/\k=L.length-i') (L.length-0) ⟨0,0,false,rfl,rfl,⟨BM 0,AA,rfl⟩,rfl⟩ ?_;rintro J0 D vs bl af ⟨i',i,o,rfl,rfl,⟨hi,ad,x⟩,ae⟩;conv=>cbv
 have ei:=hi.eq;refine Bi (fun a7=>?_) fun a7=>?_
 ·refine AB f cH ?_;intro ah U;exact AO ((by rw[U,Y,x,List.take_of_length_le AA];simp))
 refine .inr ?_;refine BA i' fun aa J=>?_
 try conv=>cbv
 obtain⟨o9,y⟩:=CE (l:=os) (i:=i') AA;cases o <;> conv=>cbv
 ·refine AB f (cN i' aa o9 J y) ?_;intro B T;exact Bj D ⟨i'+1,B,_,rfl,rfl,⟨⟨AA⟩,AA,by rw[List.take_add_one,y,List.any_append,<-x];simp⟩,rfl⟩
 refine AM ?_;intro B T;exact Bj D ⟨i'+1,B,_,rfl,rfl,⟨⟨AA⟩,AA,by rw[List.take_add_one,y,List.any_append,<-x];simp⟩,rfl⟩
end
end Go.Abs
