/- Part 13 of a proof. Conditions: each theorem's own. -/
import Derived.Test.YtmifleedghiimaaGreatDoorRb11
set_option linter.all false
set_option maxHeartbeats 80000000
set_option maxRecDepth 20000
open Go.Proofs
namespace Go.Abs
open Go.RowKit
section
variable {w:AG}
def tS {TT:AG->Prop} {R b c M q p k l:Nat} (F:Fm TT w R b c M q p) {T1:List LR} {A1:LR} {x:Re} (ha:Nm TT w b k T1 A1 x) (z:k+c+1<=M) (f:∀u,TT u->T1=tw u->In u x->TT (Bb u x)) (j:0<=x) (s:El w (l*b) (Re.sqrt x)) (H:l+c+1<=M):∃U B,Nm TT w b l U B (Re.sqrt x)/\CF 253 [.agg (AY T1 A1)] (BK (AY U B) 0)/\CF 43 [.agg (AY T1 A1)] (BK (AY U B) 0):=by
 obtain⟨u,hu,a,d,t,A,r⟩:=F.own AA ha;have G:=F.g z AA;have hw:=f u hu a t;have h:=Ug t j;obtain⟨v,I,m,y,_,_,o⟩:=F.own AA (show Nm TT w b l (tw (Bb u x)) (em (Bb u x) (Re.sqrt x)) (Re.sqrt x) from⟨_,hw,rfl,rfl,h,s⟩);have ev:v=Bb u x:=(OB m).symm;subst ev
 have hb:(l+c)*b<=60000000000000:=by
  have C:=(F.g (Nat.le_refl M) AA).toGam.mul F.top;have D:(l+c)*b<=M*b:=Nat.mul_le_mul_right b AA;omega
 have i:=r.mono (Nat.mul_le_mul_right b (Nat.le_succ (k+c)));exact⟨_,_,⟨_,hw,rfl,rfl,h,s⟩,lG G.toGam hu a d i hw j rfl rfl o hb,UU G hu a d i hw j rfl rfl⟩
structure Rt (Fc:AG->Prop) (w0:AG) (b0 K:Nat) (TT:AG->Prop) (w:AG) (b l:Nat) (v:Re):Prop where
 get:∀{k:Nat} {T1:List LR} {A1:LR},k<=K->Nm Fc w0 b0 k T1 A1 v->∃U B,Nm TT w b l U B (Re.sqrt v)/\CF 253 [.agg [Ao T1,AT A1]] (BK [Ao U,AT B] 0)/\CF 43 [.agg [Ao T1,AT A1]] (BK [Ao U,AT B] 0)
def vN {P:AG->Prop} {V:List Re} (L:Pl P V w) {n:Re} (c:El w R4 n) (a:0<=n):Rt (Tf P) w 11500 167 (Tf (P4 P n)) (Bb w n) 1950000 2 n:=⟨fun {k T1 A1} i ha=>by
 have f:=L.lift c.mem a (b':=1950000) (k':=1) ha AA;obtain⟨u,hu,d,_,g,_⟩:=ha;refine tS (L.Vc c a) f AD (fun u' _ e _=>?_) a ?_ AD
 ·rw[<-OB (d.symm.trans e)];exact hu.ZP L.I g
 by_cases h:n=0
 ·have EB:Re.sqrt n=Re.ofRat 0:=by
   have:=Re.JH a;rcases Re.F3 (this.trans h) with e | e <;> exact e
  rw[EB];exact (El.rat (KW (L.hw.red L.I) c.mem a) (Gm (b:=64) (r:=0) (by decide +kernel) (Nat.le_refl 64))).mono AD
 have W:=kG L.I L.hV L.h3 L.hw c (by grind);exact⟨W.root,W.rb.mono AD⟩⟩
noncomputable def zw:List Nu:=[(Bb [] (Re.ofRat (1/2)),Re.sqrt (Re.ofRat (1/2))),(Bb [] (Re.ofRat 2),Re.sqrt (Re.ofRat 2))]
end
section
structure Up (Fc:AG->Prop) (w0:AG) (b0 K:Nat) (TT:AG->Prop) (w:AG) (b:Nat):Prop where
 up:∀{k:Nat} {T:List LR} {A:LR} {x:Re},k<=K->Nm Fc w0 b0 k T A x->Nm TT w b 1 T A x
def Up.v {Fc TT:AG->Prop} {w0 w:AG} {b0 K b k k':Nat} {T1 T2:List LR} {A1 A2:LR} {x y:Re} (U:Up Fc w0 b0 K TT w b) (c:k<=K) (a:k'<=K) (h:Vm Fc w0 b0 k k' T1 A1 T2 A2 x y):Vm TT w b 1 1 T1 A1 T2 A2 x y:=⟨U.up c h.x,U.up a h.y⟩
def xY {n:Re} (c:0<=n) (b:n≠0):Re.sqrt n≠0/\Re.sqrt n*(Re.sqrt n*Bl n)=1/\n*(Re.sqrt n*Bl n*(Re.sqrt n*Bl n))=1:=by
 have h:=Re.JH c;have a:=HQ b;refine⟨fun e=>b (by rw[<-h,e];grind),?_,?_⟩
 ·have:Re.sqrt n*(Re.sqrt n*Bl n)=Re.sqrt n*Re.sqrt n*Bl n:=by grind
  rw[this,h,a]
 have:n*(Re.sqrt n*Bl n*(Re.sqrt n*Bl n))=n*Bl n*(Re.sqrt n*Re.sqrt n*Bl n):=by grind
 rw[this,h,a];grind
def xT (x y:Re):0<=x*x+y*y:=by
 have a:=Re.Lg x;have b:=Re.Lg y
 grind
def R8 {x y i:Re} (h:y*i=1):x*Bl y=x*i:=by rw[<-dA h]
end
section
abbrev R9:Nat:=46300000
abbrev E9:Nat:=46321590
abbrev S9:Nat:=46412490
abbrev K9:Nat:=1067638368
abbrev Rn9:Nat:=1440000000
abbrev C9:Nat:=1880000000
abbrev M9:Nat:=32430000000
def Wm (w:AG) (n:Re) (v:Re):Prop:=Wv w S9 46909868 R9 v\/(v=n/\Wv w S9 K9 R9 v)
section
variable {P:AG->Prop} {V:List Re} {w:AG} {n:Re}
end
section
variable {P:AG->Prop} {V:List Re} {w:AG} {n:Re}
end
end
section
abbrev F9 (TT:AG->Prop) (w:AG):Prop:=Fm TT w Rn9 47000000 40 690 47 23
end
section
section
variable {P:AG->Prop} {V:List Re}
def oI {k n:Nat} {q:Rat} (h:Bd k [q]):Bd k (q::List.replicate n 0):=by
 obtain⟨D,a,b,c,h3⟩:=h;exact⟨D,a,b,VN c,WU h3⟩
def Tf.Xv (I:C8 P 256) (i:∀{r u},P (r::u)->u=[]) {u:AG} (h:Tf P u):TB 256 u:=by
 induction h with
 | nil=>exact fun r j=>absurd j AS
 | @Bb u g l ht b k f=>
  obtain rfl:=i b
  by_cases d:Sq u (AU [] g)
  ·rw[FF d];exact f
  rw[Ei d];intro s a;rcases List.mem_cons.1 a with rfl | a
  ·obtain⟨q,c⟩:=DZ.1 (Ci (I.red b));have hb:Bd 256 (co [] (AU [] g)):=by rw[F1 (I.red b)];exact (I.tb b).head
   rw[c,D5] at hb;rw[c,JY q (ht.red I)];exact oI hb
  exact f s a
abbrev Cl:Nat:=40000
def Tf.bJ (I:C8 P 256) (c:∀{r u},P (r::u)->u=[]) (hV:∀{u},P u->∀v∈Go.Abs.BZ u,v∈V) (h3:V.length<=3) {u w:AG} {s:Nat} {x:Re} (hu:Tf P u) (hw:Tf P w) (b:Br u w) (a:El u s x):El w (s+Cl) x:=by
 by_cases d:w.length<=2
 ·refine (a.Cr (hw.red I) (hw.Xv I c) (hu.red I) (hu.Xv I c) b).mono ?_;have:=Lr (k:=u.length) (k':=3) (R0:=256) (Jz:=256) (h:=w.length) (h':=2) (R:=256) (R':=256) (Nat.le_trans (hu.len I hV) h3) Bg d Bg;have i:CC 3 256 2 256<=Cl:=by decide +kernel
  omega
 refine⟨b _ a.mem,(Un (hw.red I) (hu.red I) (fun v g=>Classical.byContradiction fun f=>?_) a.mem a.bd).mono (Nat.le_add_right _ _)⟩
 have:=LM (l:=v::Go.Abs.BZ w) (m:=V) (List.nodup_cons.2 ⟨f,Js (hw.red I)⟩) (fun x a=>by
  rcases List.mem_cons.1 a with rfl | a
  ·exact hu.BZ I hV _ g
  exact hw.BZ I hV x a)
 rw[List.length_cons,Ll] at this;omega
def qh (I:C8 P 256) (f:∀{r u},P (r::u)->u=[]) (hV:∀{u},P u->∀v∈Go.Abs.BZ u,v∈V) (h3:V.length<=3) {C S:Nat} (h:Cl<=C) (c:C<=Cn) (a:Rn<=S) (b:S<=Sm):EA (Tf P) Rn C S:=
 have G:=cD I hV h3 a b
 {G with
  Cr:=fun hu hw d g=>(Tf.bJ I f hV h3 hu hw d g).mono AA
  fit:=fun hu=>(G.fit hu).mono AA
  mul:=fun hu=>by have:=G.mul hu;omega
  Jb:=fun hu=>(G.Jb hu).mono AA}
end
end
section
abbrev Fl (TT:AG->Prop) (w:AG):Prop:=Fm TT w Rn 2100 20 43400000 23 14
variable {V:List Re} {ns:List Nu} {w:AG}
def Pl.fl {P:AG->Prop} (L:Pl P V w) (c:∀{r u},P (r::u)->u=[]):Fl (Tf P) w:=by
 have d:BT 256 w:=⟨L.hw.red L.I,L.hw.Xv L.I c,AD,by have:=L.len L.hw;omega⟩
 refine⟨fun {S} f g=>qh L.I c L.hV L.h3 AD AD f (Nat.le_trans g AD),L.hw,L.ha,AD,AD,fun {x y s t} a b=>(a.mul d b).mono (by
  have:=Ip (L.len L.hw) (Nat.le_refl 256);have e:EE 3 256<=2100:=by decide +kernel
  omega),fun {x y s} a b e=>(a.inv d b e).mono (Nat.le_trans (IJ (L.len L.hw) Bg Bg) (by simp only[II,EE];omega)),fun {u} hu=>?_⟩
 exact Nat.le_trans (IJ (L.len hu) Bg Bg) (Nat.le_trans (Vw _) AD)
noncomputable def KP (ns:List Nu):List Nu:=ns.filter (fun n=>decide (n.1.length<=1))
def de (h:∀n∈ns,DA V n):∀n∈KP ns,DA V n:=fun n a=>h n (List.mem_filter.1 a).1
def WH {r:List Rat} {u:AG} (h:PN (KP ns) (r::u)):u=[]:=by
 obtain⟨n,b,c⟩:=h;have d:=of_decide_eq_true (List.mem_filter.1 b).2;have a:=c.length_le;rw[List.length_cons] at a;exact List.length_eq_zero_iff.1 AA
def tM (L:Pl (PN (KP ns)) V w) (h:∀n∈ns,DA V n) {n:Nu} (a:n∈ns\/n=OL) (c:(tw n.1).length<=1) {b k:Nat} (hb:40512<=k*b):Nm (Tf (PN (KP ns))) w b k (tw n.1) (em n.1 n.2) n.2:=by
 rcases a with a | rfl
 ·have hm:n∈KP ns:=List.mem_filter.2 ⟨a,decide_eq_true (by rw[tw,List.length_map,List.length_reverse] at c;exact c)⟩;have hu:=GK L.h3 (de h) hm;have he:=(h n a).el L.h3;exact⟨n.1,hu,rfl,rfl,he.mem,(Tf.bJ L.I WH L.hV L.h3 hu L.hw (L.ha hu) he).mono (Nat.le_trans AD hb)⟩
 exact⟨[],.nil,rfl,rfl,G8 0 [],(El.rat (L.hw.red L.I) (Gm (b:=64) (r:=0) (by decide +kernel) (Nat.le_refl 64))).mono (Nat.le_trans AD hb)⟩
def dd (hV:V.length<=3) (h:∀n∈ns,DA V n):∃w,Pl (PN (KP ns)) V w:=uO hV (de h)
end
section
noncomputable def iX (xp yp xq yq t:Re):Re:=xp+(xq-xp)*Re.ofRat (1/2)+ -((yq-yp)*Re.ofRat (1/2))*(Re.ofRat ((1:Int):Rat)*Bl t)
noncomputable def iY (xp yp xq yq t:Re):Re:=yp+(yq-yp)*Re.ofRat (1/2)+(xq-xp)*Re.ofRat (1/2)*(Re.ofRat ((1:Int):Rat)*Bl t)
noncomputable def wX (xp yp xq yq xr yr:Re):Re:=((yr-yp)*((xq-xp)*(xq-xp)+(yq-yp)*(yq-yp))-(yq-yp)*((xr-xp)*(xr-xp)+(yr-yp)*(yr-yp)))*Bl ((xq-xp)*(yr-yp)-(yq-yp)*(xr-xp)+((xq-xp)*(yr-yp)-(yq-yp)*(xr-xp)))
noncomputable def wY (xp yp xq yq xr yr:Re):Re:=((xq-xp)*((xr-xp)*(xr-xp)+(yr-yp)*(yr-yp))-(xr-xp)*((xq-xp)*(xq-xp)+(yq-yp)*(yq-yp)))*Bl ((xq-xp)*(yr-yp)-(yq-yp)*(xr-xp)+((xq-xp)*(yr-yp)-(yq-yp)*(xr-xp)))
variable {CQ CR CW C3 Df:LR} {CT CU CX C5 Dg:List LR} {TT:AG->Prop} {ka kb kp kq kt:Nat} {va vb vt xa xb xp xq ya yb yp yq:Re} {w:AG}
def od:Cz Tryz.prog 300 [Bf,AH 0] (.var 0 [.int .i64 0]) (.one (.bool true)):=by
 refine DW Tryz.func300 fun E a=>?_
 conv=>cbv
 refine CN ?_;refine .inr ?_;refine CN ?_;refine AK
def Q7 {g:FuncId} {T1:List LR} {A1:LR} {T2:List LR} {A2:LR} {T3:List LR} {A3:LR} (b:CF g [.agg (AY T1 A1),.agg (AY T2 A2)] (BK (AY T3 A3) 0)):Cz Tryz.prog 261 [Bf,.one (.fn g),.agg (AY T1 A1),.agg (AY T2 A2)] (.var 0 [.int .i64 0]) (.agg (AY T3 A3)):=by
 refine DW Tryz.func261 fun E a=>?_
 conv=>cbv
 refine BG ?_;refine AB a b ?_;refine CK 0 0 a od ?_;refine AK
def Uz (F:Fd TT w) (ha:Nm TT w 1950000 ka CT CQ va) (hb:Nm TT w 1950000 kb CU CR vb) (h:ka+kb+111<=80000):∃d c,Nm TT w 1950000 (ka+kb+1) d c (va+vb)/\Cz Tryz.prog 262 [Bf,.agg (AY CT CQ),.agg (AY CU CR)] (.var 0 [.int .i64 0]) (.agg (AY d c)):=by
 obtain⟨CX,CW,b,a,f⟩:=JC F ha hb;refine⟨CX,CW,b.mono AA,?_⟩;refine DW Tryz.func262 fun E g=>?_
 conv=>cbv
 refine CK 0 0 g (Q7 a) ?_;refine AK
def Z9 (F:Fd TT w) (ha:Nm TT w 1950000 ka CT CQ va) (hb:Nm TT w 1950000 kb CU CR vb) (h:ka+kb+111<=80000):∃d c,Nm TT w 1950000 (ka+kb+1) d c (va-vb)/\Cz Tryz.prog 260 [Bf,.agg (AY CT CQ),.agg (AY CU CR)] (.var 0 [.int .i64 0]) (.agg (AY d c)):=by
 obtain⟨CX,CW,b,a,f⟩:=MR F ha hb;refine⟨CX,CW,b.mono AA,?_⟩;refine DW Tryz.func260 fun E g=>?_
 conv=>cbv
 refine CK 0 0 g (Q7 a) ?_;refine AK
def Q6 (F:Fd TT w) (ha:Nm TT w 1950000 ka CT CQ va) (hb:Nm TT w 1950000 kb CU CR vb) (h:ka+kb+111<=80000):∃d c,Nm TT w 1950000 (ka+kb+1) d c (va*vb)/\Cz Tryz.prog 259 [Bf,.agg (AY CT CQ),.agg (AY CU CR)] (.var 0 [.int .i64 0]) (.agg (AY d c)):=by
 obtain⟨CX,CW,b,a,f⟩:=Gv F ha hb;refine⟨CX,CW,b.mono AA,?_⟩;refine DW Tryz.func259 fun E g=>?_
 conv=>cbv
 refine CK 0 0 g (Q7 a) ?_;refine AK
def oa (F:Fd TT w) (ha:Nm TT w 1950000 ka CT CQ va) (hb:Nm TT w 1950000 kb CU CR vb) (h:vb≠0) (j:ka+47*kb+134<=80000):∃f c,Nm TT w 1950000 (ka+47*kb+24) f c (va*Bl vb)/\Cz Tryz.prog 201 [Bf,.agg (AY CT CQ),.agg (AY CU CR)] (.var 0 [.int .i64 0]) (.agg (AY f c)):=by
 obtain⟨CX,CW,b,a,g⟩:=IB F ha hb (d:=47*kb+23) AA h;refine⟨CX,CW,b.mono AA,?_⟩;refine DW Tryz.func201 fun E i=>?_
 conv=>cbv
 refine CK 0 0 i (Q7 a) ?_;refine AK
def Z6 (F:Fd TT w) (ha:Vm TT w 1950000 ka ka CT CQ CU CR xa ya) (hb:Vm TT w 1950000 kb kb CX CW C5 C3 xb yb) (o:ka+kb+111<=80000):∃l k d c,Vm TT w 1950000 (ka+kb+1) (ka+kb+1) l k d c (xa-xb) (ya-yb)/\Cz Tryz.prog 199 [Bf,.agg (Ag CT CQ CU CR),.agg (Ag CX CW C5 C3)] (.var 0 [.int .i64 0]) (.agg (Ag l k d c)):=by
 obtain⟨Hb,HZ,h,f⟩:=Z9 F ha.x hb.x AA;obtain⟨b,a,i,g⟩:=Z9 F ha.y hb.y AA;have j:Vm _ w 1950000 (ka+kb+1) (ka+kb+1) Hb HZ b a _ _:=⟨h.mono AA,i.mono AA⟩;refine⟨Hb,HZ,b,a,j.mono AA AA,?_⟩;refine DW Tryz.func199 fun E m=>?_
 conv=>cbv
 refine CK 0 0 m f ?_;refine CK 0 0 m g ?_;refine AK
def Z7 (F:Fd TT w) (ha:Vm TT w 1950000 ka ka CT CQ CU CR xa ya) (hb:Vm TT w 1950000 kb kb CX CW C5 C3 xb yb) (o:ka+kb+111<=80000):∃l k d c,Vm TT w 1950000 (ka+kb+1) (ka+kb+1) l k d c (xa+xb) (ya+yb)/\Cz Tryz.prog 202 [Bf,.agg (Ag CT CQ CU CR),.agg (Ag CX CW C5 C3)] (.var 0 [.int .i64 0]) (.agg (Ag l k d c)):=by
 obtain⟨Hb,HZ,h,f⟩:=Uz F ha.x hb.x AA;obtain⟨b,a,i,g⟩:=Uz F ha.y hb.y AA;have j:Vm _ w 1950000 (ka+kb+1) (ka+kb+1) Hb HZ b a _ _:=⟨h.mono AA,i.mono AA⟩;refine⟨Hb,HZ,b,a,j.mono AA AA,?_⟩;refine DW Tryz.func202 fun E m=>?_
 conv=>cbv
 refine CK 0 0 m f ?_;refine CK 0 0 m g ?_;refine AK
def Z8 (F:Fd TT w) {l:Re} {c:Nat} (ha:Vm TT w 1950000 ka ka CT CQ CU CR xa ya) (q:Nm TT w 1950000 c CX CW l) (r:ka+c+111<=80000):∃o m f d,Vm TT w 1950000 (ka+c+1) (ka+c+1) o m f d (xa*l) (ya*l)/\Cz Tryz.prog 198 [Bf,.agg (Ag CT CQ CU CR),.agg (AY CX CW)] (.var 0 [.int .i64 0]) (.agg (Ag o m f d)):=by
 obtain⟨Dg,Df,i,g⟩:=Q6 F ha.x q AA;obtain⟨b,a,j,h⟩:=Q6 F ha.y q AA;have k:Vm _ w 1950000 (ka+c+1) (ka+c+1) Dg Df b a _ _:=⟨i.mono AA,j.mono AA⟩;refine⟨Dg,Df,b,a,k.mono AA AA,?_⟩;refine DW Tryz.func198 fun E p=>?_
 conv=>cbv
 refine CK 0 0 p g ?_;refine CK 0 0 p h ?_;refine AK
def oe (F:Fd TT w) (ha:Vm TT w 1950000 ka ka CT CQ CU CR xa ya) (m:4*ka+113<=80000):∃l k,Nm TT w 1950000 (4*ka+3) l k ((xa*xa)+(ya*ya))/\Cz Tryz.prog 203 [Bf,.agg (Ag CT CQ CU CR)] (.var 0 [.int .i64 0]) (.agg (AY l k)):=by
 obtain⟨C5,C3,g,c⟩:=Q6 F ha.x ha.x AA;obtain⟨Hb,HZ,h,d⟩:=Q6 F ha.y ha.y AA;obtain⟨b,a,i,f⟩:=Uz F g h AA;refine⟨b,a,i.mono AA,?_⟩;refine DW Tryz.func203 fun E j=>?_
 conv=>cbv
 refine CK 0 0 j c ?_;refine CK 0 0 j d ?_;refine CK 0 0 j f ?_;refine AK
def oS (F:Fd TT w):∃j,Nm TT w 1950000 (1) ([]:List LR) j (Re.ofRat (1/2))/\CF 200 [] (.agg (AY [] j)):=by
 obtain⟨f,h,g,i,a⟩:=Ca (1/2:Rat);have c:(1/2:Rat)=Rat.divInt 1 2:=by decide +kernel
 obtain⟨CQ,b,d⟩:=ft F (p:=(1/2:Rat)) (by decide +kernel);refine⟨CQ,d.mono AA,?_⟩;refine AL Tryz.func200 fun E k=>?_
 refine AB k (UG AD AD AD c a) ?_;refine AB k (Lu a (Ii (by decide +kernel:C4 (1/2:Rat))) b) ?_;exact AN ⟨t3,trivial⟩
def oT (F:Fd TT w) {Hb:List LR} {HZ:LR} {vi:Re} {ki:Nat} (hp:Vm TT w 1950000 kp kp CT CQ CU CR xp yp) (hq:Vm TT w 1950000 kq kq CX CW C5 C3 xq yq) (ht:Nm TT w 1950000 kt Dg Df vt) (hi:Nm TT w 1950000 ki Hb HZ vi) (h0:¬(xp=xq/\yp=yq)) (a2:vt≠0) (a7:vt*vi=1) (hM:4*ki+16*kp+8*kq+47*kt+443<=80000):∃U0 B0 v m U1 B1,Vm TT w 1950000 (ki+3*kp+2*kq+9) (ki+3*kp+2*kq+9) U0 B0 v m (iX xp yp xq yq vt) (iY xp yp xq yq vt)/\Nm TT w 1950000 (4*ki+16*kp+8*kq+43) U1 B1 (((xp-(iX xp yp xq yq vt))*(xp-(iX xp yp xq yq vt)))+((yp-(iY xp yp xq yq vt))*(yp-(iY xp yp xq yq vt))))/\CF 146 [.agg (Ag CT CQ CU CR),.agg (Ag CX CW C5 C3),.agg (AY Dg Df)] (BK (DL U0 B0 v m U1 B1) 0):=by
 obtain⟨a6,f,A,az⟩:=Gw F ht;have g:a6≠0:=fun z=>a2 (G0.1 (f.symm.trans z))
 obtain⟨a8,N,B⟩:=oS F;obtain⟨an,aa,ao,ab,O,C⟩:=Z6 F hq hp AA;obtain⟨o,h,q,ad,b,D⟩:=Z8 F O N AA;obtain⟨ae,d,Q⟩:=ft F (p:=((1:Int):Rat)) (by decide +kernel);obtain⟨aq,af,R,G⟩:=oa F Q ht a2 AA;have S:=R.shrink hi (by rw[dA a7,show Re.ofRat ((1:Int):Rat)=1 from rfl];grind);obtain⟨i,T,H,aA⟩:=JD F b.y;have U:Vm _ w 1950000 (kp+kq+3) (kp+kq+3) q i o h _ _:=⟨T.mono AA,b.x.mono AA⟩;obtain⟨ar,ag,au,ah,W,I⟩:=Z8 F U S AA;obtain⟨av,ai,aw,aj,X,J⟩:=Z7 F hp b AA;obtain⟨s,j,t,k,Y,K⟩:=Z7 F X W AA;have c:=Y.cast (x':=iX xp yp xq yq vt) (y':=iY xp yp xq yq vt) (rfl) (rfl);obtain⟨ax,ak,ay,al,Z,L⟩:=Z6 F hp c AA
 obtain⟨u,l,a1,M⟩:=oe F Z AA;refine⟨s,j,t,k,u,l,c.mono AA AA,a1.mono AA,?_⟩;refine AL Tryz.func146 fun E a=>?_
 refine .inr ?_;refine AB (r:= .one (.bool false)) a (IG F hp hq AA AA AA AA (e:=false) ⟨fun z=>(by cases z),fun z=>absurd z h0⟩) ?_;refine AB a A ?_;refine BY (fun a5=>?_) fun a5=>?_
 ·exact absurd a5 g
 refine CK 24 1 a C ?_;refine AB a B ?_;refine CK 24 1 a D ?_;refine AB a H ?_;refine AB a (Mu AD (Ii (by decide +kernel:C4 ((1:Int):Rat))) d) ?_;refine CK 24 1 a G ?_;refine CK 24 1 a I ?_;refine CK 24 1 a J ?_;refine CK 24 1 a K ?_;refine CK 24 1 a L ?_;refine CK 24 1 a M ?_;refine BG ?_;exact AN AK
def oU (F:Fd TT w) (c:Vm TT w 1950000 kp kp CT CQ CU CR xp yp) (d:Vm TT w 1950000 kq kq CX CW C5 C3 xq yq) (ht:Nm TT w 1950000 kt Dg Df vt) (a:xp=xq/\yp=yq) (f:2*kp+2*kq+443<=80000):CF 146 [.agg (Ag CT CQ CU CR),.agg (Ag CX CW C5 C3),.agg (AY Dg Df)] (BK (DL [] [] [] [] [] []) 11):=by
 refine AL Tryz.func146 fun E b=>?_
 refine .inr ?_;refine AB b (IG F c d AA AA AA AA (e:=true) ⟨fun _=>a,fun _=>rfl⟩) ?_;exact AN AK
def oV (F:Fd TT w) (i:Vm TT w 1950000 kp kp CT CQ CU CR xp yp) (j:Vm TT w 1950000 kq kq CX CW C5 C3 xq yq) (ht:Nm TT w 1950000 kt Dg Df vt) (h:¬(xp=xq/\yp=yq)) (d:vt=0) (k:2*kp+2*kq+kt+443<=80000):CF 146 [.agg (Ag CT CQ CU CR),.agg (Ag CX CW C5 C3),.agg (AY Dg Df)] (BK (DL [] [] [] [] [] []) 6):=by
 obtain⟨c,a,b,f⟩:=Gw F ht;obtain rfl:c=0:=a.trans (by rw[d];exact Ht);refine AL Tryz.func146 fun E g=>?_
 refine .inr ?_;refine AB (r:= .one (.bool false)) g (IG F i j AA AA AA AA (e:=false) ⟨fun z=>(by cases z),fun z=>absurd z h⟩) ?_;refine AB g b ?_;refine CN ?_;exact AN AK
end
section
variable {A1 CQ CR CW C3:LR} {T1 CT CU CX C5:List LR} {TT:AG->Prop} {ka kb:Nat} {w:AG} {xa xb ya yb:Re}
def gG:Cz Tryz.prog 270 [Bf,AH 0] (.var 0 [.int .i64 0]) (.BI []):=by
 refine DW Tryz.func270 fun E a=>?_
 conv=>cbv
 refine CN ?_;refine .inr ?_;refine AK
def gH:Cz Tryz.prog 218 [Bf,.agg (AY T1 A1),AH 0] (.var 0 [.int .i64 0]) (.agg (AY T1 A1)):=by
 refine DW Tryz.func218 fun E a=>?_
 conv=>cbv
 refine CK 0 0 a gG ?_;refine BG ?_;refine AK
def vI {T2:List LR} {A2:LR}:Cz Tryz.prog 271 [Bf,.agg (Ag T1 A1 T2 A2),AH 0] (.var 0 [.int .i64 0]) (.agg (Ag T1 A1 T2 A2)):=by
 refine DW Tryz.func271 fun E a=>?_
 conv=>cbv
 refine CK 0 0 a gG ?_;refine BG ?_;refine AK
def vH (F:Fd TT w) {va vb:Re} (ha:Nm TT w 1950000 ka CT CQ va) (hb:Nm TT w 1950000 kb CU CR vb) (h:ka+kb+111<=80000):∃d c,Nm TT w 1950000 (ka+kb+1) d c (va-vb)/\Cz Tryz.prog 163 [Bf,.agg (AY CT CQ),.agg (AY CU CR)] (.var 0 [.int .i64 0]) (.agg (AY d c)):=by
 obtain⟨CX,CW,b,f,a⟩:=MR F ha hb;refine⟨CX,CW,b.mono AA,?_⟩;refine DW Tryz.func163 fun E g=>?_
 conv=>cbv
 refine AB g a ?_;refine CK 0 0 g gH ?_;refine AK
def vF (F:Fd TT w) (ha:Vm TT w 1950000 ka ka CT CQ CU CR xa ya) (hb:Vm TT w 1950000 kb kb CX CW C5 C3 xb yb) (j:ka+kb+111<=80000):∃h g b a,Vm TT w 1950000 (ka+kb+1) (ka+kb+1) h g b a (xa-xb) (ya-yb)/\Cz Tryz.prog 220 [Bf,.agg (Ag CT CQ CU CR),.agg (Ag CX CW C5 C3)] (.var 0 [.int .i64 0]) (.agg (Ag h g b a)):=by
 obtain⟨Dg,Df,Hb,HZ,d,c⟩:=To F ha hb;have f:=d.cast (x':=xa-xb) (y':=ya-yb) (by grind) (by grind);refine⟨Dg,Df,Hb,HZ,f.mono AA AA,?_⟩;refine DW Tryz.func220 fun E i=>?_
 conv=>cbv
 refine AB i c ?_;refine CK 0 0 i vI ?_;refine AK
def vG (F:Fd TT w) (ha:Vm TT w 1950000 ka ka CT CQ CU CR xa ya) (g:2*ka+112<=80000):∃d c,Nm TT w 1950000 (4*ka+3) d c (xa*xa+ya*ya)/\Cz Tryz.prog 219 [Bf,.agg (Ag CT CQ CU CR)] (.var 0 [.int .i64 0]) (.agg (AY d c)):=by
 obtain⟨CX,CW,b,a⟩:=kR F ha;refine⟨CX,CW,b.mono AA,?_⟩;refine DW Tryz.func219 fun E f=>?_
 conv=>cbv
 refine AB f a ?_;refine CK 0 0 f gH ?_;refine AK
def vE (F:Fd TT w) (ha:Vm TT w 1950000 ka ka CT CQ CU CR xa ya) (hb:Vm TT w 1950000 kb kb CX CW C5 C3 xb yb) (m:2*ka+2*kb+114<=80000):∃k i,Nm TT w 1950000 (4*ka+4*kb+7) k i ((xa-xb)*(xa-xb)+(ya-yb)*(ya-yb))/\Cz Tryz.prog 164 [Bf,.agg (Ag CT CQ CU CR),.agg (Ag CX CW C5 C3)] (.var 0 [.int .i64 0]) (.agg (AY k i)):=by
 obtain⟨Hb,HZ,j,h,f,c⟩:=vF F ha hb AA;obtain⟨b,a,g,d⟩:=vG F f AA;refine⟨b,a,g.mono AA,?_⟩;refine DW Tryz.func164 fun E l=>?_
 conv=>cbv
 refine CK 0 0 l c ?_;refine CK 0 0 l d ?_;refine AK
def um (F:Fd TT w) {Dg:List LR} {Df:LR} {j k vs:Re} {h i:Nat} (r:Vm TT w 1950000 h h CT CQ CU CR j k) (s:Nm TT w 1950000 i CX CW vs) (ha:Vm TT w 1950000 ka ka C5 C3 Dg Df xa ya) (t:4*ka+4*h+i+118<=80000):∃p m,Nm TT w 1950000 (4*ka+4*h+i+8) p m (((j-xa)*(j-xa)+(k-ya)*(k-ya))-vs)/\CF 92 [.agg (DL CT CQ CU CR CX CW),.agg (Ag C5 C3 Dg Df)] (BK (AY p m) 0):=by
 obtain⟨o,l,f,c⟩:=vE F r ha AA;obtain⟨b,a,g,d⟩:=vH F f s AA;refine⟨b,a,g.mono AA,?_⟩;refine AL Tryz.func92 fun E q=>?_
 refine CK 9 1 q c ?_;refine CK 9 1 q d ?_;refine BG ?_;exact AN ⟨t3,t2,trivial⟩
end
section
end
end Go.Abs
