/- Part 19 of a proof. Conditions: each theorem's own. -/
import Derived.Test.YthegappccffcjaaGreatDoorCr17
set_option linter.all false
set_option maxHeartbeats 80000000
set_option maxRecDepth 20000
open Go.Proofs
namespace Go.Abs
open Go.RowKit
section
theorem pq {a b c d t:Int} (j:a≠b) (m:c≠d):C3 t [a,b,c,d] 0=(if hasB [a,b,c,d] t 0=true then [if a=t then 0 else 1] else [])++if hasB [a,b,c,d] t 2=true then [if c=t then (2:Int) else 3] else []:=by
 by_cases ha:a=t <;> by_cases hb:b=t <;> by_cases h:c=t <;> by_cases i:d=t <;> first | (exfalso;omega) | simp[C3,hasB,ha,hb,h,i]
section
variable {P:AH->Prop} {V:List Re} {w:AH} {cr:List (el AR)} {AG:Int} {nc:Nat} {sd:Int} {Q C:List Int} {X:List Ex} {vl:LR} {AE:List Int}
theorem dv (F:Fl (Tf P) w) {i j ja jb:Int} (H:Ep i j) (a:ja=if i<2 then 2 else 0) (d:jb=if i<2 then 3 else 1) {z p q u:el CV} {xz yz xp yp xq yq:Re} (o:VF P w 20 z xz yz) (hp:VF P w 20 p xp yp) (hq:VF P w 20 q xq yq) (hu:VF P w 41 u (xq+ -xp) (yq+ -yp))
  (J:∀kd,Bj 82 j (cV z) kd Q C X sd vl AE AG cr) (mp:∀kd,Bj 82 ja (cV p) kd Q C X sd vl AE AG cr) (I:∀kd,Bj 82 jb (cV q) kd Q C X sd vl AE AG cr):
  Bo (CF 43 [.agg (cV z),.agg (cV u)]) (WS 6 Q C X sd vl AE AG cr 95 [AD i])/\
  (∃l:el CV,CF 117 [.agg (cV u)] (.agg (cV l))/\Bo (CF 43 [.agg (cV z),.agg (cV l)]) (WS 7 Q C X sd vl AE AG cr 95 [AD i]))/\
  (∃s:el AR,CF 119 [.agg (cV u)] (AS (cN s) 0)/\Bo (CF 33 [.agg (cV z),.agg (cN s),AD 0]) (WS 8 Q C X sd vl AE AG cr 95 [AD i]))/\
  ∀{n:el AR} {t:Re},NF P w 1 n t->Bj 84 0 (cN n) 5 Q C X sd vl AE AG cr->(i<2->∃m:el AR,CF 17 [.agg (cN n)] (.agg (cN m))/\Bo (CF 118 [.agg (cV z),.agg (cV u),.agg (cN m)]) (WS 5 Q C X sd vl AE AG cr 95 [AD i]))/\
   (¬i<2->Bo (CF 118 [.agg (cV z),.agg (cV u),.agg (cN n)]) (WS 5 Q C X sd vl AE AG cr 95 [AD i])):=by
 rw[show xq+ -xp=xq-xp by grind,show yq+ -yp=yq-yp by grind] at hu;obtain⟨T1,A1,T2,A2,B,c1⟩:=Gn F hq hp;have hv:VF P w 41 ((T1,A1),T2,A2) (xq-xp) (yq-yp):=B;obtain⟨T,l3,c3⟩:=Rz F B;refine⟨?_,?_,?_,fun {n t} W S=>?_⟩
 ·obtain⟨l,m,n,c⟩:=L7 F o hv AF AF;exact⟨_,Sp F o hu AF AF,1,Df [l.1,m.1,n.1,T1,T2],Db [l.2,m.2,n.2,A1,A2],sH H a d (J 6) (mp 6) (I 6) c1 c,fun _=>JV (DD F B.x AF) (DD F B.y AF)⟩
 ·obtain⟨A4,Y,A⟩:=O4 F hu;obtain⟨l,m,n,c⟩:=L7 (q:=((T2,T),T1,A1)) F o l3 AF AF;exact⟨((_,A4),_,_),A,_,Sp F o Y AF AF,1,Df [l.1,m.1,n.1,T2,T1],Db [l.2,m.2,n.2,T,A1],sI H a d (J 7) (mp 7) (I 7) c1 c3 c,fun _=>JV (DD F l3.x AF) (DD F l3.y AF)⟩
 ·obtain⟨T4,A4,Y,A⟩:=Wb F hu;obtain⟨T5,A5,l5,K⟩:=Kn F B;obtain⟨r,er,cs⟩:=O6 (s:=(T5,A5)) F l5 AF;exact⟨(T4,A4),A,_,K7 F Y AF,2,Df [[],[],[],[],[],z.1.1,z.2.1,T5],Db [[],[],[],[],[],z.1.2,z.2.2,A5],sJ H a d (J 8) (mp 8) (I 8) c1 K er cs,fun _=>LI (DD F o.x AF) (DD F o.y AF) (DD F l5 AF)⟩
 have side:∀{m:el AR} {v:Re},NF P w 1 m v->∃T3 A3 T4 A4 T5 A5 T6 A6,CF 161 [.agg [BA T2,AU T,BA T1,AU A1],.agg (cN m)] (AS [BA T3,AU A3,BA T4,AU A4] 0)/\
   CF 160 [.agg [BA T1,AU A1,BA T2,AU A2],.agg [BA T3,AU A3,BA T4,AU A4]] (AS [BA T5,AU A5,BA T6,AU A6] 0)/\
   VF P w 85 ((T5,A5),T6,A6) (xq-xp+ -(yq-yp)*v) (yq-yp+(xq-xp)*v):=fun hm=>by
  obtain⟨T3,A3,T4,A4,h3,c3⟩:=Oy F l3 hm;obtain⟨T5,A5,T6,A6,h4,A⟩:=Ox F B h3;exact⟨T3,A3,T4,A4,T5,A5,T6,A6,c3,A,h4.mono AF AF⟩
 obtain⟨b0,G⟩:=FC (xq-xp=0/\yq-yp=0);have N:=WM F B AF AF G;obtain⟨Am,hm,Z,L⟩:=Gh F W;have O:=fG (n:=(_,Am)) F o hu hm;have dn:=fG F o hu W;cases b0
 ·have U:¬(xq-xp=0/\yq-yp=0):=fun e=>nomatch G.2 e
  rw[Hc U] at O dn;refine⟨fun h=>⟨(_,Am),L,0,O,?_⟩,fun h=>⟨0,dn,?_⟩⟩
  ·obtain⟨T3,A3,T4,A4,T5,A5,T6,A6,A,K,D⟩:=side (m:=(_,Am)) hm;obtain⟨l,m,n,c⟩:=L7 F o D AF AF;rw[Hc (Rw U)] at c;exact⟨1,Df [l.1,m.1,n.1,T5,T6],Db [l.2,m.2,n.2,A5,A6],sB H a d (J 5) (mp 5) (I 5) c1 S h Z N c3 A K c,fun _=>JV (DD F D.x AF) (DD F D.y AF)⟩
  obtain⟨T3,A3,T4,A4,T5,A5,T6,A6,A,K,D⟩:=side W;obtain⟨l,m,n,c⟩:=L7 F o D AF AF;rw[Hc (Rw U)] at c;exact⟨1,Df [l.1,m.1,n.1,T5,T6],Db [l.2,m.2,n.2,A5,A6],sC H a d (J 5) (mp 5) (I 5) c1 S h N c3 A K c,fun _=>JV (DD F D.x AF) (DD F D.y AF)⟩
 rw[JW (G.1 rfl)] at O dn;exact⟨fun h=>⟨(_,Am),L,6,O,0,Bv,Bv,sF H a d (J 5) (mp 5) (I 5) c1 S h Z N,Ca⟩,fun h=>⟨6,dn,0,Bv,Bv,sG H a d (J 5) (mp 5) (I 5) c1 S h N,Ca⟩⟩
theorem tz (L:Pl P V w) (F:Fl (Tf P) w) (H:Em P w cr AG nc) {kd t:Int} {a b c d:Int} {rv:Int} (hk:kd=5\/kd=6\/kd=7\/kd=8) (hP:∀p∈[a,b,c,d],0<=p/\p<AG) (hv:E5 rv vl) (h5:kd=5->∃v,vl=[v]) (a1:a≠b) (a2:c≠d)
  (h0:¬(hasB [a,b,c,d] t 0=false/\hasB [a,b,c,d] t 2=false)):Bo (CF 46 [.agg (cC kd [a,b,c,d] [] X sd),.one (.sl AR (vl.map fun v=>(([],[v]):el AR))),AD t,.one (.sl CV ([a,b,c,d].map (EH cr))),.one (.sl AR cr)])
   (WS kd [a,b,c,d] [] X sd vl AE AG cr 26 [AD t]):=by
 have ha:=hP a AZ;have hb:=hP b AZ;have hc:=hP c AZ;have hd:=hP d AZ;have c3:=NK (kd:=kd) (sd:=sd) (P:=[a,b,c,d]) (C:=[]) (V:=X) (t:=t) (BJ 0) AF rfl rfl rfl;have c4:=NK (kd:=kd) (sd:=sd) (P:=[a,b,c,d]) (C:=[]) (V:=X) (t:=t) (BJ 2) AF rfl rfl rfl;have pA:=KW (t:=t) ha hb;have pB:=KW (t:=t) hc hd;have c5:=H.at pA;have c6:=H.at pB;obtain⟨W,yA,i⟩:=H.pt pA;obtain⟨xB,yB,o⟩:=H.pt pB
 obtain⟨jA,nA,B,eA⟩:∃(j:Int) (n:Nat),(Ep (if a=t then 0 else 1) j/\Ah j n)/\[a,b,c,d][n]? =some (if a=t then b else a):=by
  split
  ·exact⟨1,1,⟨.inl ⟨rfl,rfl⟩,BJ 1⟩,rfl⟩
  exact⟨0,0,⟨.inr (.inl ⟨rfl,rfl⟩),BJ 0⟩,rfl⟩
 obtain⟨jB,nB,G,eB⟩:∃(j:Int) (n:Nat),(Ep (if c=t then 2 else 3) j/\Ah j n)/\[a,b,c,d][n]? =some (if c=t then d else c):=by
  split
  ·exact⟨3,3,⟨.inr (.inr (.inl ⟨rfl,rfl⟩)),BJ 3⟩,rfl⟩
  exact⟨2,2,⟨.inr (.inr (.inr ⟨rfl,rfl⟩)),BJ 2⟩,rfl⟩
 have N:=fun kd=>H.Dy (kd:=kd) (sd:=sd) (C:=[]) (X:=X) (vl:=vl) (AE:=AE) B.2 eA pA
 have O:=fun kd=>H.Dy (kd:=kd) (sd:=sd) (C:=[]) (X:=X) (vl:=vl) (AE:=AE) G.2 eB pB
 have J:(if a=t then (0:Int) else 1)<2:=by split <;> decide
 have K:¬(if c=t then (2:Int) else 3)<2:=by split <;> decide
 have z:=RI (kd:=kd) (sd:=sd) (P:=[a,b,c,d]) (C:=[]) (V:=X) (t:=t) (AF:4<=1000000) (pq a1 a2).symm
 generalize (if a=t then b else a)=ka at*
 generalize (if c=t then d else c)=kb at*
 generalize (if a=t then (0:Int) else 1)=ia at*
 generalize (if c=t then (2:Int) else 3)=ib at*
 have kk:5<=kd/\kd<=8:=AA
 have c1:=OD (kd:=kd) (sd:=sd) (P:=[a,b,c,d]) (C:=[]) (V:=X) (t:=t) (BJ 0) (AF:1<4) (AF:4<=1000000) rfl;have c2:=OD (kd:=kd) (sd:=sd) (P:=[a,b,c,d]) (C:=[]) (V:=X) (t:=t) (BJ 2) (AF:3<4) (AF:4<=1000000) rfl;obtain⟨_,_,q0⟩:=H.pt ha;obtain⟨_,_,q1⟩:=H.pt hb;obtain⟨_,_,q2⟩:=H.pt hc;obtain⟨_,_,q3⟩:=H.pt hd;have m0:=fun kd=>H.Dy (kd:=kd) (sd:=sd) (Q:=[a,b,c,d]) (C:=[]) (X:=X) (vl:=vl) (AE:=AE) (BJ 0) rfl ha
 have m1:=fun kd=>H.Dy (kd:=kd) (sd:=sd) (Q:=[a,b,c,d]) (C:=[]) (X:=X) (vl:=vl) (AE:=AE) (BJ 1) rfl hb
 have m2:=fun kd=>H.Dy (kd:=kd) (sd:=sd) (Q:=[a,b,c,d]) (C:=[]) (X:=X) (vl:=vl) (AE:=AE) (BJ 2) rfl hc
 have m3:=fun kd=>H.Dy (kd:=kd) (sd:=sd) (Q:=[a,b,c,d]) (C:=[]) (X:=X) (vl:=vl) (AE:=AE) (BJ 3) rfl hd
 obtain⟨u,hu,cu⟩:=R5 F q2 q3 AF AF;obtain⟨v,a5,cv⟩:=R5 F q0 q1 AF AF;cases e1:hasB [a,b,c,d] t 0 <;> cases e2:hasB [a,b,c,d] t 2 <;> rw[e1] at c1 z <;> rw[e2] at c2 z
 ·exact absurd ⟨e1,e2⟩ h0
 ·obtain⟨s6,⟨l,T,s7⟩,⟨s,cs,s8⟩,s5⟩:=dv F G.1 (if_neg K).symm (if_neg K).symm o q0 q1 a5 O m0 m1;have Y:=fun {k1 e:Int} {tg:Nat->F1} {ag:Nat->F2}=>vG (nl:=vl.map fun v=>(([],[v]):el AR)) (Q:=[a,b,c,d].map (EH cr)) (k1:=k1) (e:=e) (tg:=tg) (ag:=ag) kk c1 c2 c3 c4 c5 c6 rfl rfl rfl rfl cu cv
  have Z:=fun (k:Int) (t:Nat->F1) (a:Nat->F2) (e:Int) r=>dC (vl:=vl) (AE:=AE) (AG:=AG) (cr:=cr) (k1:=k) (tg:=t) (ag:=a) (e1:=e) kk z rfl (AF:(1:Nat)≠2) r
  rcases hk with rfl | rfl | rfl | rfl
  ·obtain⟨n,rfl⟩:=h5 rfl;obtain⟨tn,hn,_,mn⟩:=Ko F hv (BJ 0) rfl;exact ((s5 hn (mn _ _ _ _ _ _)).2 K).mono (fun k S I e r=>Y (fun _=>⟨_,rfl,r⟩) (Ca) (Ca) (Ca)) Z
  ·exact s6.mono (fun k S I e r=>Y (Ca) (fun _=>r) (Ca) (Ca)) Z
  ·exact s7.mono (fun k S I e r=>Y (Ca) (Ca) (fun _=>⟨_,_,_,_,T,r⟩) (Ca)) Z
  exact s8.mono (fun k S I e r=>Y (Ca) (Ca) (Ca) (fun _=>⟨_,_,_,cs,r⟩)) Z
 ·obtain⟨s6,⟨l,T,s7⟩,⟨s,cs,s8⟩,s5⟩:=dv F B.1 (if_pos J).symm (if_pos J).symm i q2 q3 hu N m2 m3;have Y:=fun {k1 e:Int} {tg:Nat->F1} {ag:Nat->F2}=>vF (nl:=vl.map fun v=>(([],[v]):el AR)) (Q:=[a,b,c,d].map (EH cr)) (k1:=k1) (e:=e) (tg:=tg) (ag:=ag) kk c1 c2 c3 c4 c5 c6 rfl rfl cu
  have Z:=fun (k:Int) (t:Nat->F1) (a:Nat->F2) (e:Int) r=>dC (vl:=vl) (AE:=AE) (AG:=AG) (cr:=cr) (k1:=k) (tg:=t) (ag:=a) (e1:=e) kk z rfl (AF:(1:Nat)≠2) r
  rcases hk with rfl | rfl | rfl | rfl
  ·obtain⟨n,rfl⟩:=h5 rfl;obtain⟨tn,hn,_,mn⟩:=Ko F hv (BJ 0) rfl;obtain⟨m,U,s9⟩:=(s5 hn (mn _ _ _ _ _ _)).1 J;exact s9.mono (fun k S I e r=>Y (fun _=>⟨_,_,_,rfl,U,r⟩) (Ca) (Ca) (Ca)) Z
  ·exact s6.mono (fun k S I e r=>Y (Ca) (fun _=>r) (Ca) (Ca)) Z
  ·exact s7.mono (fun k S I e r=>Y (Ca) (Ca) (fun _=>⟨_,_,_,_,T,r⟩) (Ca)) Z
  exact s8.mono (fun k S I e r=>Y (Ca) (Ca) (Ca) (fun _=>⟨_,_,_,cs,r⟩)) Z
 have Y:=fun {k1 e:Int} {tg:Nat->F1} {ag:Nat->F2}=>vE (nl:=vl.map fun v=>(([],[v]):el AR)) (Q:=[a,b,c,d].map (EH cr)) (k1:=k1) (e:=e) (tg:=tg) (ag:=ag) kk c1 c2 c3 c4 c5 c6
 have Z:=fun {k:Int} {t:Nat->F1} {a:Nat->F2} {e:Int} r=>ru (vl:=vl) (AE:=AE) (AG:=AG) (cr:=cr) (k1:=k) (tg:=t) (ag:=a) (e1:=e) kk z rfl rfl r
 obtain⟨b7,A⟩:=FC (W=xB/\yA=yB);have ce:=IB F i o AF AF AF AF A;have cq:=Hr F i o AF AF AF AF A;have n0:=fun {f:Int} (h:f≠0)=>(fun e=>absurd e h:f=0->Dt 0 (fun _=>[]) (fun _=>[]))
 rcases hk with rfl | rfl | rfl | rfl
 ·obtain⟨n,rfl⟩:=h5 rfl;obtain⟨tn,hn,_,mn⟩:=Ko F hv (BJ 0) rfl;obtain⟨f,⟨u,v,s,ci,k,t,a,r⟩,u',v',s',cj,D⟩:=nX L F i o hn;exact⟨f,⟨k,t,a,Y (fun _=>⟨_,_,_,_,_,_,_,_,rfl,ci,r⟩) (Ca) (Ca) (Ca)⟩,2,Df [[],[],[],[],[],u'.1,v'.1,s'.1],Db [[],[],[],[],[],u'.2,v'.2,s'.2],Z (rM B.1 G.1 (N 5) (O 5) (mn _ _ _ _ _ _) cj),fun _=>D⟩
 ·exact⟨_,(Rr F i o).mono fun k t a r=>Y (Ca) (fun _=>r) (Ca) (Ca),(TC F i o).mono fun k t a r=>Z (rN B.1 G.1 (N 6) (O 6) r)⟩
 ·obtain⟨T1,A1,T2,A2,m1,U⟩:=fz F i o AF AF;obtain⟨s,hs,cs⟩:=WA (q:=((T1,A1),T2,A2)) F i m1 AF AF;cases b7
  ·obtain⟨k,t,a,r⟩:=K7 (c:=((T1,A1),T2,A2)) F hs AF;obtain⟨T3,A3,T4,A4,m2,cn⟩:=WL F i o AF AF;obtain⟨T5,A5,T6,A6,m3,c7⟩:=Gn F i m2;obtain⟨T7,A7,m4,c8⟩:=Kn F m3;obtain⟨r7,er,c9⟩:=O6 (s:=(T7,A7)) F m4 AF;rw[mC (d:=(W-(W+xB)*Re.ofRat (1/2))*(W-(W+xB)*Re.ofRat (1/2))+(yA-(yA+yB)*Re.ofRat (1/2))*(yA-(yA+yB)*Re.ofRat (1/2))=0) (by constructor <;> intro h <;> grind)] at r;exact⟨_,⟨k,t,a,Y (Ca) (Ca) (Ca) (fun _=>⟨false,ce,nofun,fun _=>⟨_,_,_,_,_,_,_,_,U,cs,r⟩⟩)⟩,2,Df [[],[],[],[],[],T3,T4,T7],Db [[],[],[],[],[],A3,A4,A7],Z (rP B.1 G.1 (N 7) (O 7) cq cn c7 c8 er c9),fun _=>LI (DD F m2.x AF) (DD F m2.y AF) (DD F m4 AF)⟩
  exact⟨11,⟨0,Bv,Bv,Y (Ca) (Ca) (Ca) (fun _=>⟨true,ce,AQ,nofun⟩)⟩,0,Bv,Bv,Z (rQ B.1 G.1 (N 7) (O 7) cq),n0 AF⟩
 obtain⟨m,hm,U⟩:=R5 F i o AF AF;obtain⟨A1,l1,T⟩:=O4 F hm;cases b7
 ·have e0:¬(W=xB/\yA=yB):=fun e=>nomatch A.2 e
  obtain⟨T3,A3,T4,A4,T5,A5,h2,c2⟩:=qL F i o AF AF AF AF e0 vw vw AF AF;obtain⟨T6,A6,T7,A7,T8,A8,_,c7⟩:=oG F i o AF AF AF AF e0 vw vw AF AF;obtain⟨U1,B1,U2,B2,h8,c8⟩:=Gn F o i;obtain⟨B3,l3,c9⟩:=Rz F h8;exact⟨0,⟨1,Df [T3,T4,T5,_,_],Db [A3,A4,A5,_,_],Y (Ca) (Ca) (fun _=>⟨_,_,_,_,_,_,_,_,_,_,_,_,_,_,_,c2,U,T,NJ⟩) (Ca)⟩,1,Df [T6,T7,T8,U2,U1],Db [A6,A7,A8,B3,B1],Z (rR B.1 G.1 (N 8) (O 8) cq c7 c8 c9),fun _=>JV (DD F l3.x AF) (DD F l3.y AF)⟩
 exact⟨11,⟨0,Bv,Bv,Y (k1:=0) (e:=11) (tg:=fun _=>[]) (ag:=fun _=>[]) (Ca) (Ca) (fun _=>⟨_,_,_,_,_,_,_,_,_,_,_,_,_,_,_,qM F i o AF AF AF AF (A.1 rfl),U,T,O1 AF⟩) (Ca)⟩,0,Bv,Bv,Z (rS B.1 G.1 (N 8) (O 8) cq),n0 AF⟩
end
end
section
variable {Aa Ab Ac Ad Ag Al Am An Ao Ar As vl:LR} {C P AE:List Int} {Ta Tb Tc Td Tg Tl Tm Tn To Tr Ts:List LR} {V:List Ex} {c0 c1 e f g kd p AG q sd t:Int} {cr:List (el AR)} {r0:el AR}
theorem uo (hR:CF 59 [.agg (AK Ts As)] (AS (AK Tr Ar) 0)) (h:CF 57 [.agg (AK Tr Ar),.agg (AK Tl Al)] (AS (AK Td Ad) 0)) (i:CF 16 [.agg (AK Td Ad)] (AD g)) (j:g<0):CF 53 [.agg (AK Ts As),.agg (AK Tl Al),AD 0] (AS (AK [] []) 7):=by
 refine AN Tryz.func53 fun E a=>?_
 refine AY ?_;refine AB a hR ?_;refine AY ?_;refine AB a h ?_;refine AY ?_;refine AB a i ?_;refine Bt (fun d=>?_) fun d=>?_
 ·exact absurd j AA
 exact AM AQ
theorem ur (hR:CF 59 [.agg (AK Ts As)] (AS (AK Tr Ar) 0)) (j:CF 57 [.agg (AK Tr Ar),.agg (AK Tl Al)] (AS (AK Td Ad) 0)) (i:CF 16 [.agg (AK Td Ad)] (AD g)) (m:g=0):CF 53 [.agg (AK Ts As),.agg (AK Tl Al),AD 0] (AS (AK [] []) 6):=by
 refine AN Tryz.func53 fun E h=>?_
 refine AY ?_;refine AB h hR ?_;refine AY ?_;refine AB h j ?_;refine AY ?_;refine AB h i ?_;refine C6 (fun a=>?_) fun a=>?_
 ·exact absurd a AA
 refine AB h i ?_;refine CU (fun d=>?_) fun d=>?_
 ·exact absurd m d
 exact AM AQ
theorem uq (hR:CF 59 [.agg (AK Ts As)] (AS (AK Tr Ar) 0)) (j:CF 57 [.agg (AK Tr Ar),.agg (AK Tl Al)] (AS (AK Td Ad) 0)) (i:CF 16 [.agg (AK Td Ad)] (AD g)) (m:0<g):CF 53 [.agg (AK Ts As),.agg (AK Tl Al),AD 0] (AS (AK Td Ad) 0):=by
 refine AN Tryz.func53 fun E h=>?_
 refine AY ?_;refine AB h hR ?_;refine AY ?_;refine AB h j ?_;refine AY ?_;refine AB h i ?_;refine C6 (fun a=>?_) fun a=>?_
 ·exact absurd a AA
 refine AB h i ?_;refine CU (fun d=>?_) fun d=>?_
 ·exact AM ⟨t3,t2,trivial⟩
 exact absurd d AA
theorem u6 (u:(cr.length:Int)≠2*AG+(AE.length:Nat)) (hb:(0<=AG/\AG<=8)/\AE.length<=3):CF 10 (FH kd P C V sd vl AE AG t cr) (AS (AK [] []) 1):=by
 refine AN Tryz.func10 fun E s=>?_
 rintro m ⟨d,f25⟩ n i o ⟨h,f29⟩ r j;refine Ht (fun a=>?_) fun a=>?_
 ·exact absurd a AA
 exact AM AQ
theorem u9 (v:(cr.length:Int)=2*AG+(AE.length:Nat)) (hb:(0<=AG/\AG<=8)/\AE.length<=3) (n:CF 51 [.agg (cC kd P C V sd),.one (.sl .i64 AE),AD t] (.one (.bool false))):CF 10 (FH kd P C V sd vl AE AG t cr) (AS (AK [] []) 1):=by
 refine AN Tryz.func10 fun E m=>?_
 rintro o ⟨d,f25⟩ r i s ⟨h,f29⟩ u j;refine E2 (fun a=>?_) fun a=>?_
 ·exact absurd a AA
 refine AB m n ?_;refine Bx ?_;exact AM AQ
theorem u7 (x:(cr.length:Int)=2*AG+(AE.length:Nat)) (hb:(0<=AG/\AG<=8)/\AE.length<=3) (n:CF 51 [.agg (cC kd P C V sd),.one (.sl .i64 AE),AD t] (.one (.bool true))) (o:CF 29 [.agg (cC kd P C V sd),AD AG,AD t,.one (.sl AR cr)] (.one (.bool false))):CF 10 (FH kd P C V sd vl AE AG t cr) (AS (AK [] []) 1):=by
 refine AN Tryz.func10 fun E d=>?_
 rintro r ⟨h,f25⟩ s j u ⟨i,f29⟩ v m;refine E2 (fun a=>?_) fun a=>?_
 ·exact absurd a AA
 refine AB d n ?_;refine AY ?_;refine AB d o ?_;refine Bx ?_;exact AM AQ
theorem uw (H:(cr.length:Int)=2*AG+(AE.length:Nat)) (hb:(0<=AG/\AG<=8)/\AE.length<=3) (u:CF 51 [.agg (cC 14 P C V sd),.one (.sl .i64 AE),AD t] (.one (.bool true))) (y:CF 29 [.agg (cC 14 P C V sd),AD AG,AD t,.one (.sl AR cr)] (.one (.bool true))) (s:CF 6 [AD 0] (.agg (AK To Ao))) (x:C.length≠2) {v:el AL} (z:vl[0]? =some v) (hV:CF 24 [.agg [.bool v.1.1,.sl .u32 v.1.2,.bool v.2.1,.sl .u32 v.2.2]] (.agg (AK Tg Ag))):CF 10 (FH 14 P C V sd vl AE AG t cr) (AS (AK Tg Ag) 0):=by
 refine AN Tryz.func10 fun E i=>?_
 rintro A ⟨j,f25⟩ B o D ⟨m,f29⟩ F r;refine E2 (fun d=>?_) fun d=>?_
 ·exact absurd d AA
 refine AB i u ?_;refine AY ?_;refine AB i y ?_;refine AY ?_;refine AB i s ?_;rintro G ⟨n,f52⟩ DY a;refine .inr ?_;cases DY <;> conv=>cbv
 ·have h:=Bm a;refine .inr ?_;refine Bx ?_;refine Cj z ?_;refine AB i hV ?_;exact AM ⟨t3,t2,trivial⟩
 have h:=Bp a;exact absurd h AA
theorem ux (T:(cr.length:Int)=2*AG+(AE.length:Nat)) (hb:(0<=AG/\AG<=8)/\AE.length<=3) (G:CF 51 [.agg (cC 15 P C V sd),.one (.sl .i64 AE),AD t] (.one (.bool true))) (K:CF 29 [.agg (cC 15 P C V sd),AD AG,AD t,.one (.sl AR cr)] (.one (.bool true))) (F:CF 6 [AD 0] (.agg (AK To Ao))) (J:C.length=2) (g0:C[0]? =some c0) (g1:C[1]? =some c1) (H:0<=c0/\c0<=3) (I:0<=c1/\c1<=3) (x:cr[(2*AG+(if c0=t then c1 else c0)).toNat]? =some r0):CF 10 (FH 15 P C V sd vl AE AG t cr) (AS (AK r0.1 r0.2) 0):=by
 refine AN Tryz.func10 fun E r=>?_
 rintro L ⟨y,f25⟩ N B O ⟨z,f29⟩ S D;refine E2 (fun j=>?_) fun j=>?_
 ·exact absurd j AA
 refine AB r G ?_;refine AY ?_;refine AB r K ?_;refine AY ?_;refine AB r F ?_;rintro s ⟨A,f52⟩ DY h;refine .inr ?_;cases DY <;> conv=>cbv
 ·have m:=Bm h;exact absurd (by omega:s=2) m
 have m:=Bp h;refine⟨c0,fun _=>⟨AA,g0⟩,?_⟩;refine Ak ?_;intro u i;refine .inr ?_;cases u <;> conv=>cbv
 ·have a:=Bm i;refine AP ?_;intro v n d o;refine⟨r0,fun _=>⟨AA,by rw[show d=2*AG+(if c0=t then c1 else c0) by first | rw[if_pos a];omega | rw[if_neg a];omega];exact x⟩,?_⟩;try conv=>cbv
  refine .inr ?_;refine AY ?_;refine Bx ?_;exact AM ⟨t3,t2,trivial⟩
 have a:=Bp i;refine⟨c1,fun _=>⟨AA,g1⟩,?_⟩;refine AP ?_;intro v n d o;refine⟨r0,fun _=>⟨AA,by rw[show d=2*AG+(if c0=t then c1 else c0) by first | rw[if_pos a];omega | rw[if_neg a];omega];exact x⟩,?_⟩;try conv=>cbv
 refine .inr ?_;refine AY ?_;refine Bx ?_;exact AM ⟨t3,t2,trivial⟩
theorem uv (K:(cr.length:Int)=2*AG+(AE.length:Nat)) (hb:(0<=AG/\AG<=8)/\AE.length<=3) (z:CF 51 [.agg (cC 13 P C V sd),.one (.sl .i64 AE),AD t] (.one (.bool true))) (B:CF 29 [.agg (cC 13 P C V sd),AD AG,AD t,.one (.sl AR cr)] (.one (.bool true))) (x:CF 6 [AD 0] (.agg (AK To Ao))) (A:C.length≠2) (D:P[0]? =some p) (s:CF 30 [.one (.sl AR cr),AD p] (.agg (AI Ta Aa Tb Ab))) (v:CF 44 [.agg (cC 13 P C V sd),.one (.sl .i64 AE),AD 0] (AD q)) (u:CF 30 [.one (.sl AR cr),AD q] (.agg (AI Tc Ac Td Ad))) (y:CF 52 [.agg (AI Ta Aa Tb Ab),.agg (AI Tc Ac Td Ad)] (AS (AK Ts As) 0)) (hR:CF 53 [.agg (AK Ts As),.agg (AK To Ao),AD 0] (AS (AK Tg Ag) e)):CF 10 (FH 13 P C V sd vl AE AG t cr) (AS (AK Tg Ag) e):=by
 refine AN Tryz.func10 fun E a=>?_
 rintro F ⟨j,f25⟩ G o H ⟨m,f29⟩ I r;refine E2 (fun h=>?_) fun h=>?_
 ·exact absurd h AA
 refine AB a z ?_;refine AY ?_;refine AB a B ?_;refine AY ?_;refine AB a x ?_;rintro J ⟨n,f52⟩ DY d;refine .inr ?_;cases DY <;> conv=>cbv
 ·have i:=Bm d;refine .inr ?_;refine AY ?_;refine AY ?_;refine Bx ?_;refine Cj D ?_;refine AB a s ?_;refine AB a v ?_;refine AB a u ?_;refine AB a y ?_;refine AB a hR ?_;exact AM ⟨t3,t2,trivial⟩
 have i:=Bp d;exact absurd i AA
theorem u5 (hl:(cr.length:Int)=2*AG+(AE.length:Nat)) (hb:(0<=AG/\AG<=8)/\AE.length<=3) (L:CF 51 [.agg (cC 17 P C V sd),.one (.sl .i64 AE),AD t] (.one (.bool true))) (T:CF 29 [.agg (cC 17 P C V sd),AD AG,AD t,.one (.sl AR cr)] (.one (.bool true))) (K:CF 6 [AD 0] (.agg (AK To Ao))) (S:C.length=2) (g0:C[0]? =some c0) (g1:C[1]? =some c1) (N:0<=c0/\c0<=3) (O:0<=c1/\c1<=3) (D:cr[(2*AG+(if c0=t then c1 else c0)).toNat]? =some r0) (z:CF 44 [.agg (cC 17 P C V sd),.one (.sl .i64 AE),AD 0] (AD p)) (x:CF 30 [.one (.sl AR cr),AD p] (.agg (AI Ta Aa Tb Ab))) (A:CF 44 [.agg (cC 17 P C V sd),.one (.sl .i64 AE),AD 1] (AD q)) (y:CF 30 [.one (.sl AR cr),AD q] (.agg (AI Tc Ac Td Ad))) (B:CF 52 [.agg (AI Ta Aa Tb Ab),.agg (AI Tc Ac Td Ad)] (AS (AK Ts As) 0)) (hR:CF 53 [.agg (AK Ts As),.agg (AK r0.1 r0.2),AD 0] (AS (AK Tg Ag) e)):CF 10 (FH 17 P C V sd vl AE AG t cr) (AS (AK Tg Ag) e):=by
 refine AN Tryz.func10 fun E a=>?_
 rintro U ⟨F,f25⟩ W I Y ⟨G,f29⟩ Z J;refine E2 (fun m=>?_) fun m=>?_
 ·exact absurd m AA
 refine AB a L ?_;refine AY ?_;refine AB a T ?_;refine AY ?_;refine AB a K ?_;rintro s ⟨H,f52⟩ DY i;refine .inr ?_;cases DY <;> conv=>cbv
 ·have n:=Bm i;exact absurd (by omega:s=2) n
 have n:=Bp i;refine⟨c0,fun _=>⟨AA,g0⟩,?_⟩;refine Ak ?_;intro u j;refine .inr ?_;cases u <;> conv=>cbv
 ·have d:=Bm j;refine AP ?_;intro v o h r;refine⟨r0,fun _=>⟨AA,by rw[show h=2*AG+(if c0=t then c1 else c0) by first | rw[if_pos d];omega | rw[if_neg d];omega];exact D⟩,?_⟩;try conv=>cbv
  refine .inr ?_;refine AY ?_;refine AY ?_;refine AY ?_;refine Bx ?_;refine AB a z ?_;refine AB a x ?_;refine AB a A ?_;refine AB a y ?_;refine AB a B ?_;refine AB a hR ?_;exact AM ⟨t3,t2,trivial⟩
 have d:=Bp j;refine⟨c1,fun _=>⟨AA,g1⟩,?_⟩;refine AP ?_;intro v o h r;refine⟨r0,fun _=>⟨AA,by rw[show h=2*AG+(if c0=t then c1 else c0) by first | rw[if_pos d];omega | rw[if_neg d];omega];exact D⟩,?_⟩;try conv=>cbv
 refine .inr ?_;refine AY ?_;refine AY ?_;refine AY ?_;refine Bx ?_;refine AB a z ?_;refine AB a x ?_;refine AB a A ?_;refine AB a y ?_;refine AB a B ?_;refine AB a hR ?_;exact AM ⟨t3,t2,trivial⟩
theorem uz (L:(cr.length:Int)=2*AG+(AE.length:Nat)) (hb:(0<=AG/\AG<=8)/\AE.length<=3) (y:CF 51 [.agg (cC 16 P C V sd),.one (.sl .i64 AE),AD t] (.one (.bool true))) (B:CF 29 [.agg (cC 16 P C V sd),AD AG,AD t,.one (.sl AR cr)] (.one (.bool true))) (x:CF 6 [AD 0] (.agg (AK To Ao))) (A:C.length≠2) (D:P[0]? =some p) (F:P[1]? =some q) (hf:f≠0) (u:CF 30 [.one (.sl AR cr),AD p] (.agg (AI Ta Aa Tb Ab))) (v:CF 30 [.one (.sl AR cr),AD q] (.agg (AI Tc Ac Td Ad))) (z:CF 41 [.agg (AI Ta Aa Tb Ab),.agg (AI Tc Ac Td Ad)] (AS (Bu Tl Al Tm Am Tn An) f)):CF 10 (FH 16 P C V sd vl AE AG t cr) (AS (AK [] []) f):=by
 refine AN Tryz.func10 fun E d=>?_
 rintro G ⟨m,f25⟩ H r I ⟨n,f29⟩ J s;refine E2 (fun i=>?_) fun i=>?_
 ·exact absurd i AA
 refine AB d y ?_;refine AY ?_;refine AB d B ?_;refine AY ?_;refine AB d x ?_;rintro K ⟨o,f52⟩ DY h;refine .inr ?_;cases DY <;> conv=>cbv
 ·have j:=Bm h;refine .inr ?_;refine AY ?_;refine AY ?_;refine AY ?_;refine AY ?_;refine Cj D ?_;refine AB d u ?_;refine Cj F ?_;refine AB d v ?_;refine AB d z ?_;refine Ht (fun a=>?_) fun a=>?_
  ·exact absurd a hf
  exact AM AQ
 have j:=Bp h;exact absurd j AA
theorem uy (O:(cr.length:Int)=2*AG+(AE.length:Nat)) (hb:(0<=AG/\AG<=8)/\AE.length<=3) (z:CF 51 [.agg (cC 16 P C V sd),.one (.sl .i64 AE),AD t] (.one (.bool true))) (F:CF 29 [.agg (cC 16 P C V sd),AD AG,AD t,.one (.sl AR cr)] (.one (.bool true))) (x:CF 6 [AD 0] (.agg (AK To Ao))) (D:C.length≠2) {Tx Ty:List LR} {Ax Ay:LR} (G:P[0]? =some p) (H:P[1]? =some q) {c:Int} (s:CF 30 [.one (.sl AR cr),AD p] (.agg (AI Ta Aa Tb Ab))) (u:CF 30 [.one (.sl AR cr),AD q] (.agg (AI Tc Ac Td Ad))) (A:CF 41 [.agg (AI Ta Aa Tb Ab),.agg (AI Tc Ac Td Ad)] (AS (Bu Tl Al Tm Am Tn An) 0)) (v:CF 44 [.agg (cC 16 P C V sd),.one (.sl .i64 AE),AD 0] (AD c)) (B:CF 30 [.one (.sl AR cr),AD c] (.agg (AI Tx Ax Ty Ay))) (y:CF 54 [.agg (Bu Tl Al Tm Am Tn An),.agg (AI Tx Ax Ty Ay)] (AS (AK Ts As) 0)) (hR:CF 53 [.agg (AK Ts As),.agg (AK To Ao),AD 0] (AS (AK Tg Ag) e)):CF 10 (FH 16 P C V sd vl AE AG t cr) (AS (AK Tg Ag) e):=by
 refine AN Tryz.func10 fun E a=>?_
 rintro I ⟨j,f25⟩ J o K ⟨m,f29⟩ L r;refine E2 (fun h=>?_) fun h=>?_
 ·exact absurd h AA
 refine AB a z ?_;refine AY ?_;refine AB a F ?_;refine AY ?_;refine AB a x ?_;rintro N ⟨n,f52⟩ DY d;refine .inr ?_;cases DY <;> conv=>cbv
 ·have i:=Bm d;refine .inr ?_;refine AY ?_;refine AY ?_;refine AY ?_;refine AY ?_;refine Cj G ?_;refine AB a s ?_;refine Cj H ?_;refine AB a u ?_;refine AB a A ?_;refine AY ?_;refine AB a v ?_;refine AB a B ?_;refine AB a y ?_;refine AB a hR ?_;exact AM ⟨t3,t2,trivial⟩
 have i:=Bp d;exact absurd i AA
theorem uj (u:(cr.length:Int)≠2*AG+(AE.length:Nat)) (hb:(0<=AG/\AG<=8)/\AE.length<=3):CF 8 (FH kd P C V sd vl AE AG t cr) (AS (Cu 0 Bv Bv) 1):=by
 refine AN Tryz.func8 fun E s=>?_
 rintro m ⟨d,f36⟩ n i o ⟨h,f40⟩ r j;refine Ht (fun a=>?_) fun a=>?_
 ·exact absurd a AA
 exact AM AQ
theorem ui (y:(cr.length:Int)=2*AG+(AE.length:Nat)) (hb:(0<=AG/\AG<=8)/\AE.length<=3) (h:f≠0) (hf:CF 28 [.agg (cC kd P C V sd),.one (.sl .i64 AE),AD t] (AD f)) (r:CF 29 [.agg (cC kd P C V sd),AD AG,AD (-1),.one (.sl AR cr)] (.one (.bool false))):CF 8 (FH kd P C V sd vl AE AG t cr) (AS (Cu 0 Bv Bv) 1):=by
 refine AN Tryz.func8 fun E i=>?_
 rintro s ⟨j,f36⟩ u n v ⟨m,f40⟩ x o;refine E2 (fun a=>?_) fun a=>?_
 ·exact absurd a AA
 refine AB i hf ?_;refine BV (fun d=>?_) fun d=>?_
 ·exact absurd d h
 refine AB i r ?_;refine Bx ?_;exact AM AQ
end
section
variable {P:List Int} {kd t:Int}
theorem oE {c0 c1:Bool} (r:1<=kd/\kd<=17) (np:(P.length:Int)=(DA kd).2.1)
  (pr:(kd=5\/kd=6\/kd=7\/kd=8)->∀a b c d,P=[a,b,c,d]->a≠b/\c≠d):
  kP kd (C3 t P 0) c0 c1=kD (kF kd (By P t) (P.getD 0 0==t) (hasB P t 0) (hasB P t 2) c0 c1):=by
 have j:kd=1\/kd=2\/kd=3\/kd=4\/kd=5\/kd=6\/kd=7\/kd=8\/kd=9\/kd=10\/kd=11\/kd=12\/kd=13\/kd=14\/kd=15\/kd=16\/kd=17:=AA
 rcases j with rfl | rfl | rfl | rfl | rfl | rfl | rfl | rfl | rfl | rfl | rfl | rfl | rfl | rfl | rfl | rfl | rfl
 ·have i:P.length=1:=by have h:(P.length:Int)=1:=np;omega
  match P,i with
  | [a],_=>
  by_cases ha:a=t <;> simp[kP,kF,C3,By,hasB,EZ,kD,ha]
 ·have i:P.length=2:=by have h:(P.length:Int)=2:=np;omega
  match P,i with
  | [a,b],_=>
  by_cases ha:a=t <;> by_cases hb:b=t <;> simp[kP,kF,C3,By,hasB,EZ,kD,ha,hb]
 ·have i:P.length=3:=by have h:(P.length:Int)=3:=np;omega
  match P,i with
  | [a,b,c],_=>
  by_cases ha:a=t <;> by_cases hb:b=t <;> by_cases j:c=t <;> simp[kP,kF,C3,By,hasB,EZ,kD,ha,hb,j]
 ·have i:P.length=3:=by have h:(P.length:Int)=3:=np;omega
  match P,i with
  | [a,b,c],_=>
  by_cases ha:a=t <;> by_cases hb:b=t <;> by_cases j:c=t <;> simp[kP,kF,C3,By,hasB,EZ,kD,ha,hb,j]
 ·have i:P.length=4:=by have h:(P.length:Int)=4:=np;omega
  match P,i with
  | [a,b,c,d],_=>
  obtain⟨n,o⟩:=pr AA a b c d rfl
  by_cases ha:a=t <;> by_cases hb:b=t <;> by_cases j:c=t <;> by_cases m:d=t <;> first | (exfalso;omega) | simp[kP,kF,C3,By,hasB,EZ,kD,ha,hb,j,m]
 ·have i:P.length=4:=by have h:(P.length:Int)=4:=np;omega
  match P,i with
  | [a,b,c,d],_=>
  obtain⟨n,o⟩:=pr AA a b c d rfl
  by_cases ha:a=t <;> by_cases hb:b=t <;> by_cases j:c=t <;> by_cases m:d=t <;> first | (exfalso;omega) | simp[kP,kF,C3,By,hasB,EZ,kD,ha,hb,j,m]
 ·have i:P.length=4:=by have h:(P.length:Int)=4:=np;omega
  match P,i with
  | [a,b,c,d],_=>
  obtain⟨n,o⟩:=pr AA a b c d rfl
  by_cases ha:a=t <;> by_cases hb:b=t <;> by_cases j:c=t <;> by_cases m:d=t <;> first | (exfalso;omega) | simp[kP,kF,C3,By,hasB,EZ,kD,ha,hb,j,m]
 ·have i:P.length=4:=by have h:(P.length:Int)=4:=np;omega
  match P,i with
  | [a,b,c,d],_=>
  obtain⟨n,o⟩:=pr AA a b c d rfl
  by_cases ha:a=t <;> by_cases hb:b=t <;> by_cases j:c=t <;> by_cases m:d=t <;> first | (exfalso;omega) | simp[kP,kF,C3,By,hasB,EZ,kD,ha,hb,j,m]
 ·have i:P.length=3:=by have h:(P.length:Int)=3:=np;omega
  match P,i with
  | [a,b,c],_=>
  by_cases ha:a=t <;> by_cases hb:b=t <;> by_cases j:c=t <;> simp[kP,kF,C3,By,hasB,EZ,kD,ha,hb,j]
 ·have i:P.length=4:=by have h:(P.length:Int)=4:=np;omega
  match P,i with
  | [a,b,c,d],_=>
  by_cases ha:a=t <;> by_cases hb:b=t <;> by_cases j:c=t <;> by_cases m:d=t <;> simp[kP,kF,C3,By,hasB,EZ,kD,ha,hb,j,m]
 ·have i:P.length=2:=by have h:(P.length:Int)=2:=np;omega
  match P,i with
  | [a,b],_=>
  by_cases ha:a=t <;> by_cases hb:b=t <;> simp[kP,kF,C3,By,hasB,EZ,kD,ha,hb]
 ·have i:P.length=2:=by have h:(P.length:Int)=2:=np;omega
  match P,i with
  | [a,b],_=>
  by_cases ha:a=t <;> by_cases hb:b=t <;> simp[kP,kF,C3,By,hasB,EZ,kD,ha,hb]
 ·have i:P.length=1:=by have h:(P.length:Int)=1:=np;omega
  match P,i with
  | [a],_=>
  by_cases ha:a=t <;> cases c0 <;> simp[kP,kF,C3,By,hasB,EZ,kD,ha]
 ·have i:P.length=0:=by have h:(P.length:Int)=0:=np;omega
  match P,i with
  | [],_=>
  simp[kP,kF,C3,By,hasB,EZ,kD]
 ·have i:P.length=0:=by have h:(P.length:Int)=0:=np;omega
  match P,i with
  | [],_=>
  simp[kP,kF,C3,By,hasB,EZ,kD]
 ·have i:P.length=2:=by have h:(P.length:Int)=2:=np;omega
  match P,i with
  | [a,b],_=>
  by_cases ha:a=t <;> by_cases hb:b=t <;> cases c0 <;> simp[kP,kF,C3,By,hasB,EZ,kD,ha,hb]
 have i:P.length=0:=by have h:(P.length:Int)=0:=np;omega
 match P,i with
 | [],_=>
 cases c0 <;> cases c1 <;> simp[kP,kF,C3,By,hasB,EZ,kD]
theorem size_eq {sd:Int} {C AE:List Int} (j:1<=kd/\kd<=17) (nc:(C.length:Int)=(DA kd).2.2.1):
  sP kd sd (Co t C 0) (By P (AE.getD t.toNat 0)) (CG AE C 0) (CG AE C 1)=sD kd sd (By C t) (By P (CG AE C 0)) (CG AE C 0) (CG AE C 1):=by
 have i:kd=1\/kd=2\/kd=3\/kd=4\/kd=5\/kd=6\/kd=7\/kd=8\/kd=9\/kd=10\/kd=11\/kd=12\/kd=13\/kd=14\/kd=15\/kd=16\/kd=17:=AA
 rcases i with rfl | rfl | rfl | rfl | rfl | rfl | rfl | rfl | rfl | rfl | rfl | rfl | rfl | rfl | rfl | rfl | rfl
 ·have a:C.length=0:=by have h:(C.length:Int)=0:=nc;omega
  match C,a with
  | [],_=>
  simp[sP,sD,Co,By]
 ·have a:C.length=0:=by have h:(C.length:Int)=0:=nc;omega
  match C,a with
  | [],_=>
  simp[sP,sD,Co,By]
 ·have a:C.length=0:=by have h:(C.length:Int)=0:=nc;omega
  match C,a with
  | [],_=>
  simp[sP,sD,Co,By]
 ·have a:C.length=0:=by have h:(C.length:Int)=0:=nc;omega
  match C,a with
  | [],_=>
  simp[sP,sD,Co,By]
 ·have a:C.length=0:=by have h:(C.length:Int)=0:=nc;omega
  match C,a with
  | [],_=>
  simp[sP,sD,Co,By]
 ·have a:C.length=0:=by have h:(C.length:Int)=0:=nc;omega
  match C,a with
  | [],_=>
  simp[sP,sD,Co,By]
 ·have a:C.length=0:=by have h:(C.length:Int)=0:=nc;omega
  match C,a with
  | [],_=>
  simp[sP,sD,Co,By]
 ·have a:C.length=0:=by have h:(C.length:Int)=0:=nc;omega
  match C,a with
  | [],_=>
  simp[sP,sD,Co,By]
 ·have a:C.length=0:=by have h:(C.length:Int)=0:=nc;omega
  match C,a with
  | [],_=>
  simp[sP,sD,Co,By]
 ·have a:C.length=0:=by have h:(C.length:Int)=0:=nc;omega
  match C,a with
  | [],_=>
  simp[sP,sD,Co,By]
 ·have a:C.length=0:=by have h:(C.length:Int)=0:=nc;omega
  match C,a with
  | [],_=>
  simp[sP,sD,Co,By]
 ·have a:C.length=0:=by have h:(C.length:Int)=0:=nc;omega
  match C,a with
  | [],_=>
  simp[sP,sD,Co,By]
 ·have a:C.length=1:=by have h:(C.length:Int)=1:=nc;omega
  match C,a with
  | [x],_=>
  by_cases h:t=x
  ·subst h;simp[sP,sD,Co,By,CG]
  simp[sP,sD,Co,By,CG,h,Ne.symm h]
 ·have a:C.length=1:=by have h:(C.length:Int)=1:=nc;omega
  match C,a with
  | [x],_=>
  by_cases h:t=x
  ·subst h;simp[sP,sD,Co,By,CG]
  simp[sP,sD,Co,By,CG,h,Ne.symm h]
 ·have a:C.length=2:=by have h:(C.length:Int)=2:=nc;omega
  match C,a with
  | [x,y],_=>
  by_cases h:t=x
  ·subst h;simp[sP,sD,Co,By,CG]
  by_cases d:t=y
  ·subst d;simp[sP,sD,Co,By,CG,h]
  simp[sP,sD,Co,By,CG,h,d,Ne.symm h,Ne.symm d]
 ·have a:C.length=1:=by have h:(C.length:Int)=1:=nc;omega
  match C,a with
  | [x],_=>
  by_cases h:t=x
  ·subst h;simp[sP,sD,Co,By,CG]
  simp[sP,sD,Co,By,CG,h,Ne.symm h]
 have a:C.length=2:=by have h:(C.length:Int)=2:=nc;omega
 match C,a with
 | [x,y],_=>
 by_cases h:t=x
 ·subst h;simp[sP,sD,Co,By,CG]
 by_cases d:t=y
 ·subst d;simp[sP,sD,Co,By,CG,h]
 simp[sP,sD,Co,By,CG,h,d,Ne.symm h,Ne.symm d]
end
section
theorem uH {h i:Rat} {b1 c1 b2 c2:Bool} {l1 m1 l2 m2:List UInt32} (m:Bw h b1 l1 c1 m1) (n:Bw i b2 l2 c2 m2) (s1:Cw h) (s2:Cw i) {A1 A2:LR} (a:A1=em [] (Re.ofRat h)) (d:A2=em [] (Re.ofRat i)):CF 80 [.agg (CT b1 l1 c1 m1),.agg (CT b2 l2 c2 m2)] (.agg (AI [] A1 [] A2)):=by
 refine Gc Tryz.func80 fun E j=>?_
 conv=>cbv
 refine Be j (Kw m s1 a) ?_;conv=>cbv
 refine Be j (Kw n s2 d) ?_;conv=>cbv
 refine⟨fun _=>by kernel_rfl,?_⟩;exact AM AQ
theorem GB {a b t:Int} {l:List Int} (h:a=t\/b=t):∃(i:Int) (n:Nat),(C3 t (a::b::l) 0)[0]? =some i/\(0<=i/\i<=1)/\Ah (1-i) n/\(a::b::l)[n]? =some (if a=t then b else a):=by
 by_cases ha:a=t
 ·exact⟨0,1,by simp[C3,ha],AF,⟨AF⟩,by rw[if_pos ha];rfl⟩
 exact⟨1,0,by simp[C3,ha,h.resolve_left ha],AF,⟨AF⟩,by rw[if_neg ha];rfl⟩
theorem I0 {a t:Int} {l:List Int} (h:By (a::l) t=true):a=t\/By l t=true:=by
 unfold By at h ⊢;rw[List.any_cons,Bool.or_eq_true] at h;exact h.imp_left fun e=>by simpa using e
theorem in_1 {a t:Int} (h:By [a] t=true):a=t:=(I0 h).resolve_right nofun
section
variable {P:AH->Prop} {V:List Re} {w:AH} {cr:List (el AR)} {AG:Int}
theorem pV (L:Pl P V w) (F:Fl (Tf P) w) {AE:List Int} (H:Em P w cr AG AE.length) {kd sd t:Int} {Q C:List Int} {X:List Ex} {vl:LR} (hva:HV kd Q C X sd AG (AE.length:Nat)) (hsh:E5 (DA kd).2.2.2.2.1 vl/\vl.length=X.length) (hcw:EW AG AE=true) {f:Int} (hf:f=kF kd (By Q t) (Q.getD 0 0==t) (hasB Q t 0) (hasB Q t 2) (E6 AE C t 0) (E6 AE C t 1)) (f0:f≠0)
  (FM:CF 28 [.agg (cC kd Q C X sd),.one (.sl .i64 AE),AD t] (AD f))
  (hN:CF 29 [.agg (cC kd Q C X sd),AD AG,AD (-1),.one (.sl AR cr)] (.one (.bool true))):
  Bo (CF 8 [.agg (cC kd Q C X sd),AT vl,.one (.sl .i64 AE),AD AG,AD t,.one (.sl AR cr)]) (WS kd Q C X sd vl AE AG cr 26 [AD t]):=by
 have hk:=hva.kk;obtain⟨⟨l1,l2,l3⟩,l4,l5,l6,l7,l8⟩:=hva.ls;have hP:∀p∈Q,0<=p/\p<AG:=fun p hp=>of_decide_eq_true (List.all_eq_true.1 hva.wp p hp)
 have hC:∀c∈C,0<=c/\c<(AE.length:Nat):=fun p hp=>of_decide_eq_true (List.all_eq_true.1 hva.wc p hp)
 have Y:=fun {k1 e:Int} {tg:Nat->F1} {ag:Nat->F2}=>um (vl:=vl) (k1:=k1) (e:=e) (tg:=tg) (ag:=ag) H.len H.b hk ⟨fun h=>f0 (by rw[hf,h];rfl),fun h=>f0 (by rw[hf,h];rfl)⟩ hP l1 l2 (by have:=hsh.2;omega) hC rfl rfl rfl f0 FM hN
 have hn:=hva.np;have hnc:=hva.nc;have hnv:=hva.nv;have hs:=hva.s1;have hvl:=hsh.2
 have hin:kd=1\/kd=2\/kd=3\/kd=9\/kd=11\/kd=12->By Q t=true:=fun hk=>by
  cases h:By Q t
  ·rw[h] at hf;exact absurd (by rcases hk with rfl | rfl | rfl | rfl | rfl | rfl <;> exact hf) f0
  rfl
 have nC: @Eq Int (DA kd).2.2.1 0->C=[]:=fun h=>List.eq_nil_of_length_eq_zero AA
 have hpl:=RI (kd:=kd) (sd:=sd) (P:=Q) (C:=C) (V:=X) (t:=t) AA rfl;have hkc:kd=1\/kd=2\/kd=3\/kd=4\/(kd=5\/kd=6\/kd=7\/kd=8)\/kd=9\/kd=10\/kd=11\/kd=12\/kd=13\/kd=14\/kd=15\/kd=16\/kd=17:=AA
 rcases hkc with rfl | rfl | rfl | rfl | hk4 | rfl | rfl | rfl | rfl | rfl | rfl | rfl | rfl | rfl
 ·obtain rfl:=nC rfl;obtain⟨a,rfl⟩:=H4 (l:=Q) (by have e:(Q.length:Int)=1:=hn;omega);obtain⟨u,v,rfl⟩:=Jg (l:=vl) (by have e:(X.length:Int)=2:=hnv;omega);obtain⟨_,h1,_⟩:=Ko (AG:=AG) (cr:=cr) F hsh.1 (v:=u) (BJ 0) rfl;obtain⟨_,h2,_⟩:=Ko (AG:=AG) (cr:=cr) F hsh.1 (v:=v) (BJ 1) rfl;obtain⟨_,i1,j1,k1,_⟩:=Vz hsh.1 (i:=0) (v:=u) rfl;obtain⟨_,i2,j2,k2,_⟩:=Vz hsh.1 (i:=1) (v:=v) rfl;have ha:a=t:=in_1 (hin AF);exact⟨0,(OG (c:=(([],[u]),([],[v])))).mono fun k t' a' r=>Y (fun _ _=>⟨_,_,rfl,rfl,r⟩) BF BF BF BF BF BF BF BF BF BF BF,3,Df [[],[],[],[],[],[],[],[],[],[]],Db [[],[],[],[],[],[],[],[],[u],[v]],rV hpl (i:=0) (by simp[C3,ha]) rfl rfl (uH i1 i2 (Hk j1) (Hk j2) k1 k2),fun _=>QK (DD F h1 AF) (DD F h2 AF)⟩
 ·obtain rfl:=nC rfl;obtain⟨a,b,rfl⟩:=Jg (l:=Q) (by have e:(Q.length:Int)=2:=hn;omega);obtain⟨v,rfl⟩:=H4 (l:=vl) (by have e:(X.length:Int)=1:=hnv;omega);have pin:=KW (t:=t) (hP a AZ) (hP b AZ);obtain⟨_,_,h1⟩:=H.pt pin;obtain⟨_,h2,_,mv⟩:=Ko (AG:=AG) (cr:=cr) F hsh.1 (v:=v) (BJ 0) rfl;obtain⟨i,n,e1,e2,e3,e4⟩:=GB (t:=t) (l:=[]) ((I0 (hin AF)).imp_right in_1);obtain⟨T,A,h3,cp,cd⟩:=Ef F h2 h2;obtain⟨r,er,cs⟩:=O6 (s:=(T,A)) F h3 AF;exact⟨_,(K7 (s:=(T,A)) F h3 AF).mono fun k t' a' r=>Y BF (fun _ _=>⟨_,_,_,_,_,_,_,_,rfl,cd,NK (BJ 0) AF rfl rfl rfl,H.at pin,r⟩) BF BF BF BF BF BF BF BF BF BF,2,Df [[],[],[],[],[],_,_,T],Db [[],[],[],[],[],_,_,A],rh hpl e1 rfl (H.Dy e3 e4 pin) e2 (mv _ _ _ _ _ _) cp er cs,fun _=>LI (DD F h1.x AF) (DD F h1.y AF) (DD F h3 AF)⟩
 ·obtain rfl:=nC rfl;obtain⟨a,b,c,rfl⟩:=Ub (l:=Q) (by have e:(Q.length:Int)=3:=hn;omega);have pa:=hP a AZ;have pb:=hP b AZ;have pc:=hP c AZ;obtain⟨_,_,ha⟩:=H.pt pa;obtain⟨_,_,hb⟩:=H.pt pb;obtain⟨_,_,hc⟩:=H.pt pc
  by_cases e0:a=t
  ·exact⟨_,(Rr F hb hc).mono fun k t' a' r=>Y BF BF (fun _ _=>⟨_,_,_,_,_,rfl,rfl,rfl,rfl,rfl,fun _=>r,fun h=>absurd e0 h,fun h=>absurd e0 h⟩) BF BF BF BF BF BF BF BF BF,(TC F hb hc).mono fun k t' a' r=>ri hpl (by simp[C3,e0]) (H.Dy (BJ 1) rfl pb) (H.Dy (BJ 2) rfl pc) r⟩
  by_cases e1:b=t
  ·exact⟨_,(Rr F hc ha).mono fun k t' a' r=>Y BF BF (fun _ _=>⟨_,_,_,_,_,rfl,rfl,rfl,rfl,rfl,fun h=>absurd h e0,fun _ _=>r,fun _ h=>absurd e1 h⟩) BF BF BF BF BF BF BF BF BF,(TC F hc ha).mono fun k t' a' r=>rj hpl (by simp[C3,e0,e1]) (H.Dy (BJ 2) rfl pc) (H.Dy (BJ 0) rfl pa) r⟩
  have e2:c=t:=in_1 ((I0 ((I0 (hin AF)).resolve_left e0)).resolve_left e1);exact⟨_,(Rr F hb ha).mono fun k t' a' r=>Y BF BF (fun _ _=>⟨_,_,_,_,_,rfl,rfl,rfl,rfl,rfl,fun h=>absurd h e0,fun _ h=>absurd h e1,fun _ _=>r⟩) BF BF BF BF BF BF BF BF BF,(TC F hb ha).mono fun k t' a' r=>rl hpl (by simp[C3,e0,e1,e2]) (H.Dy (BJ 1) rfl pb) (H.Dy (BJ 0) rfl pa) r⟩
 ·obtain rfl:=nC rfl;obtain⟨a,b,c,rfl⟩:=Ub (l:=Q) (by have e:(Q.length:Int)=3:=hn;omega);obtain⟨v,rfl⟩:=H4 (l:=vl) (by have e:(X.length:Int)=1:=hnv;omega);have pb:=hP b AZ;have pc:=hP c AZ;obtain⟨_,_,hb⟩:=H.pt pb;obtain⟨_,_,hc⟩:=H.pt pc;obtain⟨_,h2,_,mv⟩:=Ko (AG:=AG) (cr:=cr) F hsh.1 (v:=v) (BJ 0) rfl;have ha:a=t:=Classical.byContradiction fun e=>f0 (by rw[hf,show ([a,b,c].getD 0 0==t)=false from decide_eq_false e];rfl)
  obtain⟨g,⟨l,m,n,u,co,cu,o⟩,l',m',n',u',co',cu',D⟩:=ax L F hb hc (h2.mono AF) (hs rfl);exact⟨g,o.mono fun k t' a' r=>Y BF BF BF (fun _ _=>⟨_,_,_,_,_,_,_,_,_,_,_,_,_,_,rfl,rfl,rfl,co,cu,r⟩) BF BF BF BF BF BF BF BF,1,Df [l'.1,m'.1,n'.1,u'.1.1,u'.2.1],Db [l'.2,m'.2,n'.2,u'.1.2,u'.2.2],rm hpl (i:=0) (by simp[C3,ha]) (H.Dy (BJ 1) rfl pb) (H.Dy (BJ 2) rfl pc) (mv _ _ _ _ _ _) (dG co' cu'),fun _=>D⟩
 ·obtain rfl:=nC (by rcases hk4 with rfl | rfl | rfl | rfl <;> rfl);obtain⟨a,b,c,d,rfl⟩:=KP (l:=Q) (l7 hk4);have pr:=(hva.pr hk4 a b c d rfl rfl rfl rfl).1;refine (tz (vl:=vl) (sd:=sd) (X:=X) (AE:=AE) L F H hk4 hP hsh.1 (fun h=>by subst h;exact H4 (by have e:(X.length:Int)=1:=hnv;omega)) pr.1 pr.2 fun h=>f0 (by rw[hf,h.1,h.2];rcases hk4 with rfl | rfl | rfl | rfl <;> rfl)).mono (fun k t' a' e r=>?_) fun _ _ _ _ r=>r
  rcases hk4 with rfl | rfl | rfl | rfl <;> exact Y BF BF BF BF BF BF BF BF BF BF BF (fun _ _=>r)
 ·obtain rfl:=nC rfl;obtain⟨a,b,c,rfl⟩:=Ub (l:=Q) (by have e:(Q.length:Int)=3:=hn;omega);have pa:=hP a AZ;have pb:=hP b AZ;have pc:=hP c AZ;obtain⟨_,_,ha⟩:=H.pt pa;obtain⟨_,_,hb⟩:=H.pt pb;obtain⟨_,_,hc⟩:=H.pt pc
  have tw:=fun {j:Int} {j0:Nat} {y:Int} (e0:a≠t) (hj:1<=3-j/\3-j<=2) (hp:(C3 t [a,b,c] 0)[0]? =some (3-j)) (hi:Ah j j0) (hy:[a,b,c][j0]? =some y) (py:0<=y/\y<AG)=>(by
   obtain⟨_,_,hq⟩:=H.pt py;obtain⟨T1,A1,T2,A2,h1,c1⟩:=Gn F ha hq;obtain⟨T3,A3,T4,A4,h2,c2⟩:=Ox F ha h1;exact⟨3,Df [[],[],[],[],[],[],[],[],T3,T4],Db [[],[],[],[],[],[],[],[],A3,A4],rn hpl hp hj (AA:j=3-(3-j)) (H.Dy (BJ 0) rfl pa) (H.Dy hi hy py) (sU c1 c2),fun _=>QK (DD F h2.x AF) (DD F h2.y AF)⟩:Wr (WS 9 [a,b,c] [] X sd vl AE AG cr 26 [AD t]) 0)
  by_cases e0:a=t
  ·obtain⟨T1,A1,T2,A2,h1,c1⟩:=fz F hb hc AF AF;obtain⟨T3,A3,T4,A4,h2,c2⟩:=WL F hb hc AF AF;exact⟨0,(OG (c:=((T1,A1),T2,A2))).mono fun k t' a' r=>Y BF BF BF BF (fun _ _=>⟨_,_,_,_,_,_,_,_,_,rfl,rfl,rfl,rfl,rfl,fun _=>c1,fun h=>absurd e0 h,fun h=>absurd e0 h,r⟩) BF BF BF BF BF BF BF,3,Df [[],[],[],[],[],[],[],[],T3,T4],Db [[],[],[],[],[],[],[],[],A3,A4],rq hpl (i:=0) (by simp[C3,e0]) rfl (H.Dy (BJ 1) rfl pb) (H.Dy (BJ 2) rfl pc) c2,fun _=>QK (DD F h2.x AF) (DD F h2.y AF)⟩
  by_cases e1:b=t
  ·obtain⟨u,_,_,h1,c1⟩:=Y1 F ha hc;exact⟨0,(OG (c:=u)).mono fun k t' a' r=>Y BF BF BF BF (fun _ _=>⟨_,_,_,_,_,_,_,_,_,rfl,rfl,rfl,rfl,rfl,fun h=>absurd h e0,fun _ _=>c1,fun _ h=>absurd e1 h,r⟩) BF BF BF BF BF BF BF,tw (j:=2) e0 AF (by simp[C3,e0,e1]) (BJ 2) rfl pc⟩
  have e2:c=t:=in_1 ((I0 ((I0 (hin AF)).resolve_left e0)).resolve_left e1);obtain⟨u,_,_,h1,c1⟩:=Y1 F ha hb;exact⟨0,(OG (c:=u)).mono fun k t' a' r=>Y BF BF BF BF (fun _ _=>⟨_,_,_,_,_,_,_,_,_,rfl,rfl,rfl,rfl,rfl,fun h=>absurd h e0,fun _ h=>absurd h e1,fun _ _=>c1,r⟩) BF BF BF BF BF BF BF,tw (j:=1) e0 AF (by simp[C3,e0,e1,e2]) (BJ 1) rfl pb⟩
 ·obtain rfl:=nC rfl;obtain⟨a,b,c,d,rfl⟩:=KP (l:=Q) (by have e:(Q.length:Int)=4:=hn;omega);have pin:=KW (t:=t) (hP a AZ) (hP b AZ);have pc:=hP c AZ;have pd:=hP d AZ;obtain⟨_,_,h1⟩:=H.pt pin;obtain⟨xc,yc,hc⟩:=H.pt pc;obtain⟨xd,yd,hd⟩:=H.pt pd
  obtain⟨i,n,e1,e2,e3,e4⟩:=GB (a:=a) (b:=b) (t:=t) (l:=[c,d]) (by
   cases h:hasB [a,b,c,d] t 0
   ·exact absurd (by rw[hf,h];rfl) f0
   unfold hasB at h;simpa using h)
  by_cases e0:xc=xd/\yc=yd
  ·exact⟨11,⟨0,Bv,Bv,Y BF BF BF BF BF (fun _ _=>⟨_,_,_,_,_,_,_,_,11,rfl,rfl,VT F hc hd AF AF AF AF e0,AQ,Ca⟩) BF BF BF BF BF BF⟩,0,Bv,Bv,rX hpl e1 (H.Dy (BJ 2) rfl pc) (H.Dy (BJ 3) rfl pd) AF (Z1 F hc hd AF AF AF AF e0),Ca⟩
  obtain⟨T3,A3,T4,A4,T5,A5,h2,c2⟩:=VS F hc hd AF AF AF AF e0 vw vw;obtain⟨T6,A6,T7,A7,h3,c3⟩:=qQ F h2 h1 (ON fun h=>e0 ⟨by grind,by grind⟩) vw AF AF;obtain⟨U3,B3,U4,B4,U5,B5,k2,d2⟩:=Z0 F hc hd AF AF AF AF e0 vw vw AF AF;obtain⟨U6,B6,U7,B7,k3,d3⟩:=oI F k2 h1 (ON fun h=>e0 ⟨by grind,by grind⟩) vw AF AF;exact⟨0,(OG (c:=((T6,A6),T7,A7))).mono fun k t' a' r=>Y BF BF BF BF BF (fun _ _=>⟨_,_,_,_,_,_,_,_,0,rfl,rfl,c2,fun h=>absurd rfl h,fun _=>⟨_,_,_,_,_,_,_,_,_,NK (BJ 0) AF rfl rfl rfl,H.at pin,c3,r⟩⟩) BF BF BF BF BF BF,3,Df [[],[],[],[],[],[],[],[],U6,U7],Db [[],[],[],[],[],[],[],[],B6,B7],rW hpl e1 (H.Dy (BJ 2) rfl pc) (H.Dy (BJ 3) rfl pd) d2 rfl (H.Dy e3 e4 pin) e2 d3,fun _=>QK (DD F k3.x AF) (DD F k3.y AF)⟩
 ·obtain rfl:=nC rfl;obtain⟨a,b,rfl⟩:=Jg (l:=Q) (by have e:(Q.length:Int)=2:=hn;omega);have pin:=KW (t:=t) (hP a AZ) (hP b AZ);obtain⟨_,_,h1⟩:=H.pt pin;obtain⟨i,n,e1,e2,e3,e4⟩:=GB (t:=t) (l:=[]) ((I0 (hin AF)).imp_right in_1);exact (Xr (q:=(([],_),([],_))) F h1 ⟨GU (r:=((1:Int):Rat)) F AF (Fg (by decide +kernel)),GU (r:=((0:Int):Rat)) F AF (Fg (by decide +kernel))⟩ AF AF).mono (fun k t' a' e r=>Y BF BF BF BF BF BF (fun _ _=>⟨_,_,_,_,_,_,_,_,_,NK (BJ 0) AF rfl rfl rfl,H.at pin,fu (x:=1) (y:=0) AF AF rfl rfl,r⟩) BF BF BF BF BF) fun k t' a' e r=>rY hpl e1 rfl (H.Dy e3 e4 pin) e2 (Kv AF (Hk (by decide +kernel)) rfl) (Kv AF (Hk (by decide +kernel)) rfl) r
 ·obtain rfl:=nC rfl;obtain⟨a,b,rfl⟩:=Jg (l:=Q) (by have e:(Q.length:Int)=2:=hn;omega);have pin:=KW (t:=t) (hP a AZ) (hP b AZ);obtain⟨_,_,h1⟩:=H.pt pin;obtain⟨i,n,e1,e2,e3,e4⟩:=GB (t:=t) (l:=[]) ((I0 (hin AF)).imp_right in_1);exact (Xr (q:=(([],_),([],_))) F h1 ⟨GU (r:=((0:Int):Rat)) F AF (Fg (by decide +kernel)),GU (r:=((1:Int):Rat)) F AF (Fg (by decide +kernel))⟩ AF AF).mono (fun k t' a' e r=>Y BF BF BF BF BF BF BF (fun _ _=>⟨_,_,_,_,_,_,_,_,_,NK (BJ 0) AF rfl rfl rfl,H.at pin,fu (x:=0) (y:=1) AF AF rfl rfl,r⟩) BF BF BF BF) fun k t' a' e r=>rZ hpl e1 rfl (H.Dy e3 e4 pin) e2 (Kv AF (Hk (by decide +kernel)) rfl) (Kv AF (Hk (by decide +kernel)) rfl) r
 ·obtain⟨a,rfl⟩:=H4 (l:=Q) (by have e:(Q.length:Int)=1:=hn;omega);obtain⟨c,rfl⟩:=H4 (l:=C) (by have e:(C.length:Int)=1:=hnc;omega);have cin:=LF (i:=0) hcw hC (AF:0<1);have pa:=hP a AZ;have pc:=hC c AZ;have gc:AE[c.toNat]? =some (CG AE [c] 0):=getD_some AA;obtain⟨_,_,ha⟩:=H.pt pa;obtain⟨_,_,hc⟩:=H.pt cin;obtain⟨_,hr⟩:=H.Da pc;obtain⟨T,A,h3,cp,cd⟩:=Ef F hr hr;obtain⟨r,er,cs⟩:=O6 (s:=(T,A)) F h3 AF;have ce:=Gv (kd:=13) (sd:=sd) (P:=[a]) (C:=[c]) (V:=X) (BJ 0) (AF:0<1) hva.wc rfl;have D:=fun {z:el CV} {x y:Re} (hz:VF P w 20 z x y)=>LI (k:=2) (DD F hz.x AF) (DD F hz.y AF) (DD F h3 AF)
  by_cases e0:a=t
  ·exact⟨_,(K7 (s:=(T,A)) F h3 AF).mono fun k t' a' r=>Y BF BF BF BF BF BF BF BF (fun _ _=>⟨_,_,_,_,_,_,_,_,_,_,rfl,rfl,rfl,ce,H.at cin,cd,fun h=>absurd e0 h,fun _=>r⟩) BF BF BF,2,Df [[],[],[],[],[],(EH cr (CG AE [c] 0)).1.1,(EH cr (CG AE [c] 0)).2.1,T],Db [[],[],[],[],[],(EH cr (CG AE [c] 0)).1.2,(EH cr (CG AE [c] 0)).2.2,A],Ol (C:=[c]) (AF:0<1) (r9 rfl e0 (H.LS (BJ 0) rfl pc.1 gc cin) (H.LV (BJ 0) rfl pc) cp er cs),fun _=>D hc⟩
  exact⟨_,(K7 (s:=(T,A)) F h3 AF).mono fun k t' a' r=>Y BF BF BF BF BF BF BF BF (fun _ _=>⟨_,_,_,_,_,_,_,_,_,_,rfl,rfl,rfl,ce,H.at cin,cd,fun _=>r,fun h=>absurd h e0⟩) BF BF BF,2,Df [[],[],[],[],[],(EH cr a).1.1,(EH cr a).2.1,T],Db [[],[],[],[],[],(EH cr a).1.2,(EH cr a).2.2,A],Ol (C:=[c]) (AF:0<1) (r6 rfl e0 (H.Dy (BJ 0) rfl pa) (H.LV (BJ 0) rfl pc) cp er cs),fun _=>D ha⟩
 ·exact absurd (by rw[hf];rfl) f0
 ·exact absurd (by rw[hf];rfl) f0
 ·obtain⟨a,b,rfl⟩:=Jg (l:=Q) (by have e:(Q.length:Int)=2:=hn;omega);obtain⟨c,rfl⟩:=H4 (l:=C) (by have e:(C.length:Int)=1:=hnc;omega);have pa:=hP a AZ;have pb:=hP b AZ;have pc:=hC c AZ;obtain⟨_,_,ha⟩:=H.pt pa;obtain⟨_,_,hb⟩:=H.pt pb;obtain⟨_,hr⟩:=H.Da pc;obtain⟨g,⟨l,m,n,u,co,cu,o⟩,l',m',n',u',co',cu',D⟩:=ax L F ha hb hr (hs rfl);exact⟨g,o.mono fun k t' a' r=>Y BF BF BF BF BF BF BF BF BF (fun _ _=>⟨_,_,_,_,_,_,_,_,_,_,_,_,_,_,rfl,rfl,rfl,co,cu,r⟩) BF BF,1,Df [l'.1,m'.1,n'.1,u'.1.1,u'.2.1],Db [l'.2,m'.2,n'.2,u'.1.2,u'.2.2],Ol (C:=[c]) (AF:0<1) (sT (H.Dy (BJ 0) rfl pa) (H.Dy (BJ 1) rfl pb) (H.LV (BJ 0) rfl pc) co' cu'),fun _=>D⟩
 obtain⟨c,d,rfl⟩:=Jg (l:=C) (by have e:(C.length:Int)=2:=hnc;omega);have cin:=LF (i:=0) hcw hC (AF:0<2);have din:=LF (i:=1) hcw hC (AF:1<2);have pc:=hC c AZ;have pd:=hC d AZ;have gc:AE[c.toNat]? =some (CG AE [c,d] 0):=getD_some AA;have gd:AE[d.toNat]? =some (CG AE [c,d] 1):=getD_some AA;obtain⟨_,_,hc⟩:=H.pt cin;obtain⟨_,_,hd⟩:=H.pt din;obtain⟨v1,h1⟩:=H.Da pc;obtain⟨v2,h2⟩:=H.Da pd;have ce:=Gv (kd:=17) (sd:=sd) (P:=Q) (C:=[c,d]) (V:=X) (BJ 0) (AF:0<2) hva.wc rfl;have de:=Gv (kd:=17) (sd:=sd) (P:=Q) (C:=[c,d]) (V:=X) (BJ 1) (AF:1<2) hva.wc rfl;have m1:=H.LV (kd:=17) (sd:=sd) (Q:=Q) (X:=X) (vl:=vl) (AE:=AE) (C:=[c,d]) (BJ 0) rfl pc;have m2:=H.LV (kd:=17) (sd:=sd) (Q:=Q) (X:=X) (vl:=vl) (AE:=AE) (C:=[c,d]) (BJ 1) rfl pd;have m3:=H.LS (kd:=17) (sd:=sd) (Q:=Q) (X:=X) (vl:=vl) (C:=[c,d]) (BJ 0) rfl pc.1 gc cin
 have m4:=H.LS (kd:=17) (sd:=sd) (Q:=Q) (X:=X) (vl:=vl) (C:=[c,d]) (BJ 1) rfl pd.1 gd din;obtain⟨Am,mm,_,cm⟩:=Gh F h2
 have go:∀{u u':el AR} {U:Re},NF P w 41 u U->NF P w 41 u' U->(sd≠1->CF 45 [.agg (cN (E0 cr AG c)),.agg [.sl (.sl AL) (E0 cr AG d).1,AU Am]] (AS (cN u) 0))->(sd=1->CF 45 [.agg (cN (E0 cr AG c)),.agg (cN (E0 cr AG d))] (AS (cN u) 0))->
   (sd=1->CF 151 [.agg (cN (E0 cr AG c)),.agg (cN (E0 cr AG d))] (AS (cN u') 0))->(sd≠1->CF 128 [.agg (cN (E0 cr AG c)),.agg (cN (E0 cr AG d))] (AS (cN u') 0))->
   Bo (CF 8 [.agg (cC 17 Q [c,d] X sd),AT vl,.one (.sl .i64 AE),AD AG,AD t,.one (.sl AR cr)]) (WS 17 Q [c,d] X sd vl AE AG cr 26 [AD t]):=fun {u u' U} hu hu' a1 a2 a3 a4=>by
  obtain⟨s,h3,cs⟩:=tO F hu AF;obtain⟨T,A,h4,cp,_⟩:=Ef F hu' hu';obtain⟨r,er,cz⟩:=O6 (s:=(T,A)) F h4 AF;have D:=fun {z:el CV} {x y:Re} (hz:VF P w 20 z x y)=>LI (k:=2) (DD F hz.x AF) (DD F hz.y AF) (DD F h4 AF)
  have doc:=fun {z0:el CV} (hsel:(CG AE [c,d] 0≠t/\z0=EH cr (CG AE [c,d] 0))\/(CG AE [c,d] 0=t/\z0=EH cr (CG AE [c,d] 1)))=>(K7 (c:=z0) F h3 AF).mono fun k t' a' r=>Y BF BF BF BF BF BF BF BF BF BF (fun _ _=>⟨_,_,_,_,_,_,_,_,_,_,_,_,_,_,_,_,_,_,rfl,rfl,de,H.at din,ce,H.at cin,fun _=>cm,a1,a2,cs,fun h=>hsel.elim (fun q=>q.2 ▸ r) fun q=>absurd q.1 h,fun h=>hsel.elim (fun q=>absurd h q.1) fun q=>q.2 ▸ r⟩) BF
  by_cases e0:CG AE [c,d] 0=t
  ·refine⟨_,doc (.inr ⟨e0,rfl⟩),2,Df [[],[],[],[],[],(EH cr (CG AE [c,d] 1)).1.1,(EH cr (CG AE [c,d] 1)).2.1,T],Db [[],[],[],[],[],(EH cr (CG AE [c,d] 1)).1.2,(EH cr (CG AE [c,d] 1)).2.2,A],Ol (C:=[c,d]) (AF:0<2) ?_,fun _=>D hd⟩
   by_cases e1:sd=1
   ·exact sR rfl pc.1 gc e0 e1 m4 m1 m2 (a3 e1) cp er cz
   exact sS rfl pc.1 gc e0 e1 m4 m1 m2 (a4 e1) cp er cz
  refine⟨_,doc (.inl ⟨e0,rfl⟩),2,Df [[],[],[],[],[],(EH cr (CG AE [c,d] 0)).1.1,(EH cr (CG AE [c,d] 0)).2.1,T],Db [[],[],[],[],[],(EH cr (CG AE [c,d] 0)).1.2,(EH cr (CG AE [c,d] 0)).2.2,A],Ol (C:=[c,d]) (AF:0<2) ?_,fun _=>D hc⟩
  by_cases e1:sd=1
  ·exact sO rfl pc.1 gc e0 e1 m3 m1 m2 (a3 e1) cp er cz
  exact sQ rfl pc.1 gc e0 e1 m3 m1 m2 (a4 e1) cp er cz
 by_cases e1:sd=1
 ·obtain⟨T,A,h3,c3,c4⟩:=Hi F h1 h2;exact go (u:=(T,A)) (u':=(T,A)) h3 h3 (fun h=>absurd e1 h) (fun _=>c4) (fun _=>c3) fun h=>absurd e1 h
 obtain⟨T,A,h3,_,c3⟩:=Hi F h1 mm;obtain⟨T',A',h4,c4,_⟩:=Jl F h1 h2;rw[show v1+ -v2=v1-v2 by grind] at h3;exact go (u:=(T,A)) (u':=(T',A')) h3 h4 (fun _=>c3) (fun h=>absurd h e1) (fun h=>absurd h e1) fun _=>c4
end
end
section
theorem qz {kd sd AG e:Int} {P C:List Int} {V:List Ex} {vl:LR} {AE:List Int} {cr:List (el AR)} {c Dc g:Int} {x:el AR} {b:Bool} (u:0<=c/\c<=1000000) (v:0<=AG/\AG<=1000000) (n:cr[(2*AG+c).toNat]? =some x) (m:CF 49 [.agg (cN x)] (AD g)) (hb:b= !(decide (c=Dc)||decide (0<g))):CF 77 [AD c,.one (.DL .i64 Dc 0),.one (.DL (.rf (.pr (.pr .i64 (.pr (.sl .i64) (.pr (.sl .i64) (.pr (.sl .ex) .i64)))) (.pr (.sl AL) (.pr (.sl .i64) (.pr .i64 (.pr (.sl AR) .i64)))))) (Ra kd P C V sd vl AE AG cr e) 0)] (.one (.bool b)):=by
 refine AN Tryz.func77 fun E j=>?_
 refine Ht (fun o=>?_) fun o=>?_
 ·exact AO (by rw[hb,decide_eq_true (AA:c=Dc)];rfl)
 intro r h d i;refine⟨x,fun _=>⟨AA,(by rw[(AA:d.toNat=(2*AG+c).toNat)];exact n)⟩,?_⟩;try conv=>cbv
 refine AB j m ?_;intro s a;exact AO (by rw[hb,decide_eq_false (AA:¬c=Dc),a];by_cases q:0<g <;> simp[q] <;> omega)
end
section
theorem oe {x y:Re} (h:¬(x=0/\y=0)):un x*un x+y*BU (fs x y)*(y*BU (fs x y))=(x*x+y*y)*(BU (fs x y)*BU (fs x y))/\un x*un x+y*BU (fs x y)*(y*BU (fs x y))≠0:=by
 have e:un x*un x+y*BU (fs x y)*(y*BU (fs x y))=(x*x+y*y)*(BU (fs x y)*BU (fs x y)):=by rw[fL h];grind
 refine⟨e,?_⟩;rw[e];have d:=Fj (UK h);have a:BU (fs x y)≠0:=fun z=>RT (by rw[<-d,z];grind)
 exact I3 (Ic h) (I3 a a)
end
section
section
variable {P:AH->Prop} {V:List Re} {w:AH} {cr:List (el AR)} {AG:Int} {nc:Nat}
theorem Em.sg (H:Em P w cr AG nc) (F:Fl (Tf P) w):∃s:Int->Int,∀c:Int,0<=c/\c<(nc:Nat)->∃v,NF P w 20 (E0 cr AG c) v/\s c=CA v/\CF 49 [.agg (cN (E0 cr AG c))] (AD (s c))/\CF 16 [.agg (cN (E0 cr AG c))] (AD (s c)):=by
 have h:∀c:Int,∃s:Int,0<=c/\c<(nc:Nat)->∃v,NF P w 20 (E0 cr AG c) v/\s=CA v/\CF 49 [.agg (cN (E0 cr AG c))] (AD s)/\CF 16 [.agg (cN (E0 cr AG c))] (AD s):=fun c=>by
  by_cases a:0<=c/\c<(nc:Nat)
  ·obtain⟨v,d⟩:=H.Da a;obtain⟨s,e,c1,c2⟩:=EN F d;exact⟨s,fun _=>⟨v,d,e,c1,c2⟩⟩
  exact⟨0,fun h=>absurd h a⟩
 exact⟨fun c=>(h c).choose,fun c=>(h c).choose_spec⟩
theorem Em.aX {AE:List Int} (H:Em P w cr AG AE.length) (F:Fl (Tf P) w) {kd sd:Int} {Q C:List Int} {X:List Ex} {vl:LR} {Dc:Int} (i:∀c∈C,0<=c/\c<(AE.length:Nat)):∃b:Bool,CF 29 [.agg (cC kd Q C X sd),AD AG,AD Dc,.one (.sl AR cr)] (.one (.bool b))/\
  Bi Tryz.prog 25 [BT,AD Dc] (.var 0 (BI kd Q C X sd vl AE AG cr 0)) (.one (.bool b)) (.var 0 (BI kd Q C X sd vl AE AG cr 0))/\(b=true->∀c∈C,c≠Dc->∃v,NF P w 20 (E0 cr AG c) v/\0<v):=by
 have m:=H.len;have hb:=H.b;obtain⟨s,j⟩:=H.sg F;refine⟨C.all (IZ Dc s),uh (s:=s) ⟨AA,AA⟩ (fun c d _=>?_) rfl,Vv (q:=C.any fun c=> !IZ Dc s c) ⟨AA,AA⟩ (fun _=>Wh (fun c d=>?_) rfl) ?_,fun h c d n=>?_⟩
 ·have h:=i c d;obtain⟨_,_,_,_,c2⟩:=j c h;exact⟨⟨AA,AA⟩,_,H.rd h,c2⟩
 ·have h:=i c d;obtain⟨_,_,_,c1,_⟩:=j c h;exact qz ⟨AA,AA⟩ ⟨AA,AA⟩ (H.rd h) c1 rfl
 ·rw[decide_eq_true m,Bool.true_and];exact List.all_eq_not_any_not
 obtain⟨v,o,e,_⟩:=j c (i c d);have:=List.all_eq_true.1 h c d;unfold IZ at this;rw[decide_eq_false n,Bool.false_or] at this;have:=of_decide_eq_true this;exact⟨v,o,by rcases Ft v with⟨_,b⟩ |⟨_,b⟩ |⟨a,_⟩ <;> first | exact a | omega⟩
theorem pU (L:Pl P V w) (F:Fl (Tf P) w) {AE:List Int} (H:Em P w cr AG AE.length) {kd sd t:Int} {Q C:List Int} {X:List Ex} {vl:LR} (h:HV kd Q C X sd AG (AE.length:Nat)) (n:E5 (DA kd).2.2.2.2.1 vl/\vl.length=X.length) (m:EW AG AE=true):
  ∃e,Er (CF 8 [.agg (cC kd Q C X sd),AT vl,.one (.sl .i64 AE),AD AG,AD t,.one (.sl AR cr)]) e/\Er (CF 7 [.agg (cC kd Q C X sd),AT vl,.one (.sl .i64 AE),AD AG,AD t,.one (.sl AR cr)]) e:=by
 obtain⟨⟨l1,l2,l3⟩,u,v,B,G,I⟩:=h.ls;have y:∀c∈C,0<=c/\c<(AE.length:Nat):=fun p A=>of_decide_eq_true (List.all_eq_true.1 h.wc p A)
 obtain⟨f,hf⟩:∃f,f=kF kd (By Q t) (Q.getD 0 0==t) (hasB Q t 0) (hasB Q t 2) (E6 AE C t 0) (E6 AE C t 1):=⟨_,rfl⟩
 have j:=mc (sd:=sd) (V:=X) AA h.wc u v B G I hf;have i:=NQ (sd:=sd) (V:=X) AA h.wc u v (oE h.kk h.np (t:=t) (c0:=E6 AE C t 0) (c1:=E6 AE C t 1) fun z a b c d e=>(h.pr z a b c d (by rw[e];rfl) (by rw[e];rfl) (by rw[e];rfl) (by rw[e];rfl)).1).symm;rw[<-hf] at i;have J:=n3 hf
 by_cases f0:f=0
 ·subst f0;exact⟨1,⟨0,Bv,Bv,uk H.len H.b j⟩,0,Bv,Bv,rz i rfl⟩
 have k0:kD f≠0:=by
  have:f=1\/f=2\/f=3:=AA
  rcases this with rfl | rfl | rfl <;> decide
 obtain⟨b,s,hR,_⟩:=H.aX F (kd:=kd) (sd:=sd) (Q:=Q) (X:=X) (vl:=vl) (Dc:= -1) y;cases b
 ·exact⟨1,⟨0,Bv,Bv,ui H.len H.b f0 j s⟩,0,Bv,Bv,dF i hR⟩
 obtain⟨e,x,k,tg,ag,r,D⟩:=pV L F H h n m hf f0 j s;refine⟨e,x,?_⟩
 by_cases o:e=0
 ·subst o;exact⟨k,tg,ag,dE i k0 hR r (D rfl)⟩
 exact⟨0,Bv,Bv,ry i k0 hR o r⟩
end
def En (C:AV->Prop) (e:Int):Prop:=∃T A,C (AS [BA T,AU A] e)
def sE (g:Int):Int:=if g=0 then 6 else if g<0 then 7 else 0
theorem ck {x:Re} (h:0<x):sE (CA x)=0:=by rw[H8 h];rfl
section
variable {TT:AH->Prop} {w:AH} {R b c M q p k l:Nat}
theorem Vl (F:Fm TT w R b c M q p) {s n:el AR} {U:F1} {B:F2} {x y:Re} (hR:CF 59 [.agg (cN s)] (AS (AK U B) 0)) (h:Nm TT w b k U B x) (i:Nm TT w b l n.1 n.2 y) (j:k+l+c+2<=M):En (CF 53 [.agg (cN s),.agg (cN n),AD 0]) (sE (CA (x-y))):=by
 obtain⟨T,A,d,_,c1⟩:=Jl F h i;obtain⟨g,a,_,c2⟩:=EN F d;rw[<-a];rcases Ft (x-y) with⟨_,e⟩ |⟨_,e⟩ |⟨_,e⟩ <;> obtain rfl:=a.trans e
 ·exact⟨[],[],uo hR c1 c2 AF⟩
 ·exact⟨[],[],ur hR c1 c2 rfl⟩
 exact⟨T,A,uq hR c1 c2 AF⟩
theorem Oq (F:Fm TT w R b c M q p) {kd sd t AG x:Int} {Q C:List Int} {X:List Ex} {vl:LR} {AE:List Int} {cr:List (el AR)} {r:el AR} {v:Re} (m:Nm TT w b k r.1 r.2 v) (d:k+c+1<=M)
  (h:CF 23 [.agg (cC kd Q C X sd),.one (.sl .i64 AE),AD t] (.one (.bool true))) (hR:Bi Tryz.prog 25 [BT,AD t] (.var 0 (BI kd Q C X sd vl AE AG cr 0)) (.one (.bool true)) (.var 0 (BI kd Q C X sd vl AE AG cr 0)))
  (s:x=Co t C 0) (i:Bi Tryz.prog 47 [BT,AD x] (.var 0 (BI kd Q C X sd vl AE AG cr 0)) (.agg (cN r)) (.var 0 (BI kd Q C X sd vl AE AG cr 0))):
  En (CF 9 [.agg (cC kd Q C X sd),AT vl,.one (.sl .i64 AE),AD AG,AD t,.one (.sl AR cr)]) (sE (CA v)):=by
 obtain⟨g,j,c2,_⟩:=EN F m d;obtain⟨B,o,c3,_⟩:=Gh F m d;obtain⟨D,_,n,_⟩:=Gh F o d;have a:=PD s;rw[<-j];rcases Ft v with⟨_,e⟩ |⟨_,e⟩ |⟨_,e⟩ <;> obtain rfl:=j.trans e
 ·exact⟨[],[],sM h hR a i c2 rfl⟩
 ·exact⟨[],[],sK h hR a i c2 rfl⟩
 exact⟨_,_,sN h hR a i c2 rfl c3 n⟩
end
section
variable {P:AH->Prop} {V:List Re} {w:AH} {cr:List (el AR)} {AG:Int}
theorem Uy (L:Pl P V w) {k:Nat} {T:F1} {A:F2} {n:Re} (v:Nm (Tf P) w 2100 k T A n) (m:k<=22000) (a:0<=n):∃TT w',F9 TT w'/\(∀{k':Nat} {j:F1} {i:F2} {x:Re},k'<=22000->Nm (Tf P) w 2100 k' j i x->Nm TT w' 47000000 1 j i x)/\Rt (Tf P) w 2100 22000 TT w' 47000000 1 n:=by
 obtain⟨_,_,_,_,_,he⟩:=v;have d:El w R9 n:=he.mono (by show k*2100<=46300000;omega);refine⟨_,_,L.f9 d a,fun m h=>L.lift d.mem a h AA,⟨fun {k T1 A1} m ha=>?_⟩⟩;have s:=L.lift d.mem a (b':=47000000) (k':=1) ha AA;obtain⟨u,hu,o,_,y,_⟩:=ha;refine al (L.f9 d a) s AF (fun u' _ e _=>?_) a ?_ AF
 ·rw[<-Lp (o.symm.trans e)];exact hu.Pd L.I y
 by_cases z:n=0
 ·rw[show Re.sqrt n=Re.ofRat 0 from (Re.Gx ((Re.Hn a).trans z)).elim id id];exact (El.rat (HQ (L.hw.red L.I) d.mem a) (Fg (b:=64) (r:=0) (by decide +kernel) (Nat.le_refl 64))).mono AF
 have W:=fi L.I L.hV L.h3 L.hw d (by grind);exact⟨W.root,W.rb.mono AF⟩
theorem ef (x:Re):x-Re.ofRat ((0:Int):Rat)=x:=by rw[show Re.ofRat ((0:Int):Rat)=0 from rfl];grind
theorem pK (x:Re): -x* -x=x*x:=by grind
theorem nk {x:Re} (h:0<=x) (a:x≠0):0<=BU x:=by
 have e:=Fj a;rw[show BU x=x*(BU x*BU x) by grind];exact Re.Q6 h (Re.Hm _)
theorem mb {x y α β γ:Re} (d:¬(α=0/\β=0)):(x-(x-α*(Fi α β γ x y*Re.ofRat ((1:Int):Rat))))*(x-(x-α*(Fi α β γ x y*Re.ofRat ((1:Int):Rat))))+(y-(y-β*(Fi α β γ x y*Re.ofRat ((1:Int):Rat))))*(y-(y-β*(Fi α β γ x y*Re.ofRat ((1:Int):Rat))))=(α*x+β*y-γ)*(α*x+β*y-γ)*BU (α*α+β*β):=by
 have a:=Fj (Ic d);rw[show Re.ofRat ((1:Int):Rat)=1 from rfl];unfold Fi
 generalize BU (α*α+β*β)=i at*
 have e:(x-(x-α*((α*x+β*y-γ)*i*1)))*(x-(x-α*((α*x+β*y-γ)*i*1)))+(y-(y-β*((α*x+β*y-γ)*i*1)))*(y-(y-β*((α*x+β*y-γ)*i*1)))=(α*x+β*y-γ)*(α*x+β*y-γ)*i*((α*α+β*β)*i):=by grind
 rw[e,a];grind
theorem Yq {a b z X Y:Re} (h:¬(a=0/\b=0)):(un a*X+b*BU (fs a b)*Y-z*BU (fs a b))*(un a*X+b*BU (fs a b)*Y-z*BU (fs a b))*BU (un a*un a+b*BU (fs a b)*(b*BU (fs a b)))=(a*X+b*Y-z)*(a*X+b*Y-z)*BU (a*a+b*b):=by
 obtain⟨e1,j⟩:=oe h;have e2:=Fj j;have d:=Fj (Ic h);have o:=Fj (UK h);rw[show un a*X+b*BU (fs a b)*Y-z*BU (fs a b)=(a*X+b*Y-z)*BU (fs a b) by rw[fL h];grind]
 generalize un a*un a+b*BU (fs a b)*(b*BU (fs a b))=N at*
 generalize a*X+b*Y-z=c at*
 generalize BU (fs a b)=i at*
 generalize BU N=n at*
 generalize BU (a*a+b*b)=m at*
 generalize a*a+b*b=S at*
 have:c*i*(c*i)*n=c*i*(c*i)*n*(S*m):=by rw[d];grind
 rw[this,show c*i*(c*i)*n*(S*m)=c*c*m*(S*(i*i)*n) by grind,<-e1,e2]
 grind
theorem Zr {c d t:Int} (h:c=t\/d=t):∃n:Nat,Co t [c,d] 0=(if c=t then 0 else 1)/\Ah (1-(if c=t then (0:Int) else 1)) n/\(0<=(if c=t then (0:Int) else 1)/\(if c=t then (0:Int) else 1)<=1)/\[c,d][n]? =some (if c=t then d else c):=by
 by_cases e:c=t
 ·exact⟨1,by simp[Co,e],by rw[if_pos e];exact⟨AF⟩,by rw[if_pos e];decide,by rw[if_pos e];rfl⟩
 exact⟨0,by simp[Co,(h.resolve_left e),e,Ne.symm e],by rw[if_neg e];exact⟨AF⟩,by rw[if_neg e];decide,by rw[if_neg e];rfl⟩
theorem su (L:Pl P V w) (F:Fl (Tf P) w) {AE:List Int} (H:Em P w cr AG AE.length) {kd sd t:Int} {Q C:List Int} {X:List Ex} {vl:LR} (j:HV kd Q C X sd AG (AE.length:Nat)) (a5:E5 (DA kd).2.2.2.2.1 vl/\vl.length=X.length) (W:EW AG AE=true):
  ∃e,En (CF 10 [.agg (cC kd Q C X sd),AT vl,.one (.sl .i64 AE),AD AG,AD t,.one (.sl AR cr)]) e/\En (CF 9 [.agg (cC kd Q C X sd),AT vl,.one (.sl .i64 AE),AD AG,AD t,.one (.sl AR cr)]) e:=by
 have hk:=j.kk;obtain⟨⟨l1,l2,l3⟩,l4,l5,l6,l7,l8⟩:=j.ls;have hP:∀p∈Q,0<=p/\p<AG:=fun p hp=>of_decide_eq_true (List.all_eq_true.1 j.wp p hp)
 have K:∀c∈C,0<=c/\c<(AE.length:Nat):=fun p hp=>of_decide_eq_true (List.all_eq_true.1 j.wc p hp)
 obtain⟨b,hb⟩:∃b,b=sD kd sd (By C t) (By Q (CG AE C 0)) (CG AE C 0) (CG AE C 1):=⟨_,rfl⟩
 have Z:=iz (sd:=sd) (V:=X) j.wc l4 l5 hb;have ZS:=PJ (sd:=sd) (V:=X) j.wc l5 (hb.trans (size_eq hk j.nc).symm);have hlen:=H.len;have z:=H.b;cases b
 ·exact⟨1,⟨_,_,u9 hlen z Z⟩,_,_,dJ ZS⟩
 obtain⟨b,hN,hR,S⟩:=H.aX F (kd:=kd) (sd:=sd) (Q:=Q) (X:=X) (vl:=vl) (Dc:=t) K;cases b
 ·exact⟨1,⟨_,_,u7 hlen z Z hN⟩,_,_,dI ZS hR⟩
 have S:=S rfl;have hn:=j.np;have N:=j.nc;have aa:=j.nv;have ae:=a5.2;have F0:=Gt (x:=0) AF rfl;have z0:NF P w 1 (([],em [] (Re.ofRat ((0:Int):Rat))):el AR) (Re.ofRat ((0:Int):Rat)):=GU F AF (Fg (by decide +kernel))
 have Y:By C t=true:=by
  cases h:By C t
  ·rw[h] at hb;exact absurd hb (by unfold sD;rw[if_pos rfl];decide)
  rfl
 have a8:kd=13\/kd=14\/kd=15\/kd=16\/kd=17:=by
  have hle:∀k:Int,1<=k->k<=12-> @Eq Int (DA k).2.2.1 0:=fun k h1 h2=>by
   have J:k=1\/k=2\/k=3\/k=4\/k=5\/k=6\/k=7\/k=8\/k=9\/k=10\/k=11\/k=12:=AA
   rcases J with rfl | rfl | rfl | rfl | rfl | rfl | rfl | rfl | rfl | rfl | rfl | rfl <;> decide
  by_cases a7:kd<=12
  ·have e:=hle kd hk.1 a7;rw[show C=[] from List.eq_nil_of_length_eq_zero AA] at Y;exact nomatch Y
  omega
 rcases a8 with rfl | rfl | rfl | rfl | rfl
 ·obtain⟨a,rfl⟩:=H4 (l:=Q) (by have e:(Q.length:Int)=1:=hn;omega);obtain⟨c,rfl⟩:=H4 (l:=C) (by have e:(C.length:Int)=1:=N;omega);have cin:=LF (i:=0) W K (AF:0<1);have pa:=hP a AZ;have T:=K c AZ;have gc:AE[c.toNat]? =some (CG AE [c] 0):=getD_some AA;obtain⟨xa,ya,ha⟩:=H.pt pa;obtain⟨o,u,J⟩:=H.pt cin;obtain⟨s,hs,cs⟩:=WA F ha J AF AF;obtain⟨T1,A1,T2,A2,h1,c1⟩:=Gn F ha J;obtain⟨T3,A3,h3,c3⟩:=Kn F h1;rw[show (o+ -xa)*(o+ -xa)+(u+ -ya)*(u+ -ya)=(xa-o)*(xa-o)+(ya-u)*(ya-u) by grind] at hs;obtain⟨TT,w9,m,U,rt⟩:=Uy L h3 AF (Rl _ _);obtain⟨_,_,r1,_,q1⟩:=rt.get AF hs;obtain⟨_,_,r2,q2,_⟩:=rt.get AF h3;obtain⟨G,D,e1⟩:=Vl (n:=([],_)) m q1 r1 (U AF z0) AF;rw[show Re.sqrt ((xa-o)*(xa-o)+(ya-u)*(ya-u))-Re.ofRat ((0:Int):Rat)=Re.sqrt ((xa-o)*(xa-o)+(ya-u)*(ya-u)) from ef _] at e1
  exact⟨_,⟨_,_,uv hlen z Z hN F0 (AF:1≠2) rfl (H.at pa) (Gv (BJ 0) (AF:0<1) j.wc rfl) (H.at cin) cs e1⟩,Oq (r:=(_,_)) m r2 AF ZS hR rfl (sV (H.LS (BJ 0) rfl T.1 gc cin) (H.Dy (BJ 0) rfl pa) c1 c3 q2)⟩
 ·obtain⟨c,rfl⟩:=H4 (l:=C) (by have e:(C.length:Int)=1:=N;omega);obtain⟨v,rfl⟩:=H4 (l:=vl) (by have e:(X.length:Int)=1:=aa;omega);obtain⟨x,h2,h0,mv⟩:=Ko (AG:=AG) (cr:=cr) F a5.1 (v:=v) (BJ 0) rfl;have:=Oq (r:=([],[v])) F h2 AF ZS hR rfl (sW (mv _ _ _ _ _ _));rw[ck (h0 rfl)] at this;exact⟨0,⟨_,_,uw hlen z Z hN F0 (AF:1≠2) rfl fq⟩,this⟩
 ·obtain⟨c,d,rfl⟩:=Jg (l:=C) (by have e:(C.length:Int)=2:=N;omega);have T:=K c AZ;have pd:=K d AZ;have ht:c=t\/d=t:=(I0 Y).imp_right in_1;have ad:d≠c:=(j.df (by unfold EK;decide)).2 1 0 d c AF rfl rfl;obtain⟨n,i1,i2,i3,i4⟩:=Zr ht;have I:=KW (t:=t) T pd;obtain⟨v,hv,h0⟩:=S (if c=t then d else c) (by split <;> simp) (by split <;> omega);have:=Oq (r:=E0 cr AG (if c=t then d else c)) F hv AF ZS hR i1.symm (sX rfl i3 (H.LV i2 i4 I));rw[ck h0] at this;exact⟨0,⟨_,_,ux hlen z Z hN F0 rfl rfl rfl ⟨T.1,AA⟩ ⟨pd.1,AA⟩ (H.rd I)⟩,this⟩
 ·obtain⟨a,e,rfl⟩:=Jg (l:=Q) (by have e:(Q.length:Int)=2:=hn;omega);obtain⟨c,rfl⟩:=H4 (l:=C) (by have e:(C.length:Int)=1:=N;omega);have cin:=LF (i:=0) W K (AF:0<1);have pa:=hP a AZ;have pe:=hP e AZ;have T:=K c AZ;have gc:AE[c.toNat]? =some (CG AE [c] 0):=getD_some AA;obtain⟨xa,ya,ha⟩:=H.pt pa;obtain⟨A,B,he⟩:=H.pt pe;obtain⟨o,u,J⟩:=H.pt cin;have ma:=H.Dy (kd:=16) (sd:=sd) (Q:=[a,e]) (C:=[c]) (X:=X) (vl:=vl) (AE:=AE) (BJ 0) rfl pa;have me:=H.Dy (kd:=16) (sd:=sd) (Q:=[a,e]) (C:=[c]) (X:=X) (vl:=vl) (AE:=AE) (BJ 1) rfl pe
  by_cases e0:xa=A/\ya=B
  ·exact⟨11,⟨_,_,uz hlen z Z hN F0 (AF:1≠2) rfl rfl AF (H.at pa) (H.at pe) (VT F ha he AF AF AF AF e0)⟩,_,_,sL ZS hR (PD rfl) AF (sZ ma me AF (Z1 F ha he AF AF AF AF e0) (Kv AF (Hk (by decide +kernel)) rfl))⟩
  have O:¬(B-ya=0/\ -(A-xa)=0):=fun h=>e0 ⟨by grind,by grind⟩
  have a1:¬(-(B+ -ya)=0/\A+ -xa=0):=fun h=>e0 ⟨by grind,by grind⟩
  obtain⟨T1,A1,T2,A2,T3,A3,h1,c1⟩:=VS F ha he AF AF AF AF e0 vw vw;obtain⟨T4,A4,h4,c4⟩:=qY F h1 J (ON a1) vw;obtain⟨U1,B1,U2,B2,U3,B3,k1,d1⟩:=Z0 F ha he AF AF AF AF e0 vw vw AF AF;obtain⟨U4,B4,k4,d4⟩:=oP F k1 J (ON O) vw;rw[mb (ON O),Yq O] at k4;rw[Yq a1,show (-(B+ -ya)*o+(A+ -xa)*u-(-(B+ -ya)*xa+(A+ -xa)*ya))= -((B-ya)*o+ -(A-xa)*u-(xa*(B-ya)+ya* -(A-xa))) by grind,show -(B+ -ya)* -(B+ -ya)+(A+ -xa)*(A+ -xa)=(B-ya)*(B-ya)+ -(A-xa)* -(A-xa) by grind,pK] at h4;obtain⟨T5,A5,T6,A6,w1,_⟩:=Gn F he ha
  obtain⟨A7,w2,_⟩:=Gh F w1.x;obtain⟨T7,ab,w3,_⟩:=Ef F w1.y J.x;obtain⟨T8,A8,w4,_⟩:=Ef F w2 J.y;obtain⟨T9,A9,w5,_⟩:=Hi F w3 w4;obtain⟨S1,D1,w6,_⟩:=Ef F ha.x w1.y;obtain⟨S2,D2,w7,_⟩:=Ef F ha.y w2;obtain⟨S3,D3,w8,_⟩:=Hi F w6 w7;obtain⟨S4,D4,w9,_⟩:=Jl F w5 w8;obtain⟨S5,D5,v1,_⟩:=Ef F w9 w9;obtain⟨S6,D6,v2,_⟩:=Ef F w1.y w1.y;obtain⟨S7,D7,v3,_⟩:=Ef F w2 w2;obtain⟨S8,D8,v4,_⟩:=Hi F v2 v3;obtain⟨S9,D9,v5,_⟩:=G0 F v1 v4 vw (Ic O);have k5:=k4.shrink v5 rfl;have h5:=h4.shrink v5 rfl;have nn:0<=((B-ya)*o+ -(A-xa)*u-(xa*(B-ya)+ya* -(A-xa)))*((B-ya)*o+ -(A-xa)*u-(xa*(B-ya)+ya* -(A-xa)))*BU ((B-ya)*(B-ya)+ -(A-xa)* -(A-xa)):=Re.Q6 (Re.Hm _) (nk (Rl _ _) (Ic O))
  obtain⟨TT,af,m,U,rt⟩:=Uy L k5 AF nn;obtain⟨_,_,r1,_,q1⟩:=rt.get AF h5;obtain⟨_,_,r2,q2,_⟩:=rt.get AF k5;obtain⟨G,D,e1⟩:=Vl (s:=(T4,A4)) (n:=([],_)) m q1 r1 (U AF z0) AF;rw[ef] at e1;exact⟨_,⟨_,_,uy hlen z Z hN F0 (AF:1≠2) rfl rfl (H.at pa) (H.at pe) c1 (Gv (BJ 0) (AF:0<1) j.wc rfl) (H.at cin) c4 e1⟩,Oq (r:=(_,_)) m r2 AF ZS hR rfl (sY ma me d1 (H.LS (BJ 0) rfl T.1 gc cin) d4 q2)⟩
 obtain⟨c,d,rfl⟩:=Jg (l:=C) (by have e:(C.length:Int)=2:=N;omega);have cin:=LF (i:=0) W K (AF:0<2);have a2:=LF (i:=1) W K (AF:1<2);have T:=K c AZ;have pd:=K d AZ;have gc:AE[c.toNat]? =some (CG AE [c,d] 0):=getD_some AA;have gd:AE[d.toNat]? =some (CG AE [c,d] 1):=getD_some AA;have ht:c=t\/d=t:=(I0 Y).imp_right in_1;obtain⟨n,i1,i2,i3,i4⟩:=Zr ht;have I:=KW (t:=t) T pd;obtain⟨v,hv⟩:=H.Da I;obtain⟨xa,ya,ha⟩:=H.pt cin;obtain⟨o,u,J⟩:=H.pt a2;obtain⟨s,hs,cs⟩:=WA F ha J AF AF;obtain⟨T1,A1,T2,A2,h1,c1⟩:=Gn F J ha;obtain⟨T3,A3,h3,c3⟩:=Kn F h1;rw[show (o+ -xa)*(o+ -xa)+(u+ -ya)*(u+ -ya)=(o-xa)*(o-xa)+(u-ya)*(u-ya) by grind] at hs;obtain⟨TT,w9,m,U,rt⟩:=Uy L h3 AF (Rl _ _)
 obtain⟨_,_,r1,_,q1⟩:=rt.get AF hs;obtain⟨_,_,r2,q2,_⟩:=rt.get AF h3;have a6:=U AF hv;obtain⟨_,_,r3,q3,_⟩:=Jl m r2 a6;obtain⟨G,D,e1⟩:=Vl (n:=E0 cr AG (if c=t then d else c)) m q1 r1 a6 AF;exact⟨_,⟨_,_,u5 hlen z Z hN F0 rfl rfl rfl ⟨T.1,AA⟩ ⟨pd.1,AA⟩ (H.rd I) (Gv (BJ 0) (AF:0<2) j.wc rfl) (H.at cin) (Gv (BJ 1) (AF:1<2) j.wc rfl) (H.at a2) cs e1⟩,Oq (r:=(_,_)) m r3 AF ZS hR i1.symm (sa (H.LS (BJ 0) rfl T.1 gc cin) (H.LS (BJ 1) rfl pd.1 gd a2) c1 c3 q2 rfl i3 (H.LV i2 i4 I) q3)⟩
structure JF (kd:Int) (Q C:List Int) (X:List Ex) (sd:Int) (vl:LR) (AE:List Int) (AG:Int) (cr:List (el AR)):Prop where
 of:∀t,∃e,Er (CF 8 [.agg (cC kd Q C X sd),AT vl,.one (.sl .i64 AE),AD AG,AD t,.one (.sl AR cr)]) e/\Er (CF 7 [.agg (cC kd Q C X sd),AT vl,.one (.sl .i64 AE),AD AG,AD t,.one (.sl AR cr)]) e
 size:∀t,∃e,En (CF 10 [.agg (cC kd Q C X sd),AT vl,.one (.sl .i64 AE),AD AG,AD t,.one (.sl AR cr)]) e/\En (CF 9 [.agg (cC kd Q C X sd),AT vl,.one (.sl .i64 AE),AD AG,AD t,.one (.sl AR cr)]) e
theorem j9 {kd sd:Int} {Q C:List Int} {X:List Ex} {vl:LR} {AE:List Int} (hb:(0<=AG/\AG<=8)/\AE.length<=3) (d:(cr.length:Int)≠2*AG+(AE.length:Nat)) (a:HV kd Q C X sd AG (AE.length:Nat)):JF kd Q C X sd vl AE AG cr:=by
 obtain⟨⟨l1,l2,l3⟩,j,i,m,n,o⟩:=a.ls;have hR:=fun Dc=>Vv (kd:=kd) (sd:=sd) (P:=Q) (C:=C) (V:=X) (vl:=vl) (e:=0) (Dc:=Dc) (q:=false) (b:=false) ⟨AA,AA⟩ (fun e=>absurd e d) (by rw[decide_eq_false d];rfl)
 refine⟨fun t=>⟨1,⟨0,Bv,Bv,uj d hb⟩,0,Bv,Bv,dF (NQ AA a.wc j i rfl) (hR _)⟩,fun t=>⟨1,⟨_,_,u6 d hb⟩,?_⟩⟩;obtain⟨b,hb⟩:∃b,b=sP kd sd (Co t C 0) (By Q (AE.getD t.toNat 0)) (CG AE C 0) (CG AE C 1):=⟨_,rfl⟩
 have h:=PJ (sd:=sd) (V:=X) a.wc i hb;cases b
 ·exact⟨_,_,dJ h⟩
 exact⟨_,_,dI h (hR _)⟩
theorem lN {ns:List Nu} {V:List Re} {w:AH} (L:Pl (PN (Ji ns)) V w) (j:∀n∈ns,DG V n) {kd sd AG:Int} {Q C:List Int} {X:List Ex} {vl:LR} {AE:List Int} {W:List UInt8} (h:O7 ns kd sd AG Q C X vl AE W):Em (PN (Ji ns)) w ((HA ns AG W W.length).map nm) AG AE.length:=by
 have s:=h.len;have F:=L.fl Ui;refine⟨by rw[List.length_map,QA];exact s,⟨⟨h.p0,h.p8⟩,h.c3⟩,fun i x m=>?_⟩;have o:i<W.length:=by have:=Dh m;rwa [List.length_map,QA] at this
 have d:=List.getElem?_eq_getElem o
 have e:x=nm (KH ns AG W i):=by
  rw[List.getElem?_map,HA,List.getElem?_map,List.getElem?_range o] at m;exact (Option.some.inj m).symm
 have r:=pM L j (.inl (QY h.ne (W[i]).toNat)) (by rw[tw,List.length_map,List.length_reverse];exact h.low i _ d) (b:=2100) (k:=20) AF;subst e
 by_cases a:(i:Int)<2*AG
 ·rw[Yh d a];exact⟨_,r⟩
 rw[Nw d a];unfold Lf
 split
 ·exact⟨_,(GU F AF (Fg (by decide +kernel))).mono AF⟩
 exact⟨_,pL r (L.hw.red L.I)⟩
theorem Si {ns:List Nu} {V:List Re} (hV:V.length<=3) (m:∀n∈ns,DG V n) {kd sd AG:Int} {Q C:List Int} {X:List Ex} {vl:LR} {AE:List Int} {W:List UInt8} (h:O7 ns kd sd AG Q C X vl AE W) {L a:List (el AR)} (u:L=(HA ns AG W W.length).map nm)
  (s:(∃x,a=L++[x])\/(∃(i:Nat) (r:Rat),C7 r/\a=L.set i ([],em [] (Re.ofRat r)))\/a=L):JF kd Q C X sd vl AE AG a:=by
 obtain⟨w,o⟩:=oh hV m;have F:=o.fl Ui;have H:=lN o m h;rw[<-u] at H;have v:=H.len;have go:Em (PN (Ji ns)) w a AG AE.length->JF kd Q C X sd vl AE AG a:=fun H=>⟨fun t=>pU o F H h.va h.sh h.cw,fun t=>su o F H h.va h.sh h.cw⟩
 rcases s with⟨x,rfl⟩ |⟨i,r,y,rfl⟩ | rfl
 ·exact j9 H.b (by rw[List.length_append,List.length_singleton];omega) h.va
 ·refine go ⟨by rw[List.length_set];exact v,H.b,fun j x d=>?_⟩;rw[List.getElem?_set] at d
  split at d
  ·split at d
   ·obtain rfl:=Option.some.inj d;exact⟨_,(GU F AF (Fg y)).mono AF⟩
   exact absurd d AZ
  exact H.nm j x d
 exact go H
end
end
section
theorem vP {kd sd AG:Int} {P C:List Int} {V:List Ex} {vl:LR} {AE:List Int} {X:List (el DT)} {W:List UInt8} {mo rd:Int} (hmo:0<=mo/\mo<256) {N:Nat} {ns:List Nu} {Vr:List Re} (hk:Ew kd) (hpt:Ew AG) (hN:N<=1048576) (hV:∀(i:Nat) (e:Ex),V[i]? =some e->Gb N e) (hs:∀v∈vl,v.1.2.length<=4000000/\v.2.2.length<=4000000) (hns:ns=(runN (X.take 24)).1) (hV3:Vr.length<=3) (hok:∀n∈ns,DG Vr n):CF 3 [.agg [.int .i64 kd,.sl .i64 P,.sl .i64 C,.sl .ex V,.int .i64 sd,AU vl,.sl .i64 AE,.int .i64 AG,.sl DT X,.sl .u8 W],.one (.int .u8 mo),.one (.int .i8 rd)] (.one (.bool true)):=by
 refine AN Tryz.func3 fun E hE=>?_
 obtain⟨b9,hb9⟩:=FC (O7 ns kd sd AG P C V vl AE W);obtain⟨L9,hL9⟩:∃z:List (el AR),z=if b9=true then (HA ns AG W W.length).map nm else []:=⟨_,rfl⟩
 obtain⟨ln9,hln9⟩:=xN L9.length;refine AB hE (gJ hk hpt hN hV hs hns hV3 hok hb9 hL9 hln9) ?_;refine AB hE aM ?_;refine AY ?_;refine HT (fun k28=>?_) fun k28=>?_
 ·refine AB hE aM ?_;exact AM ⟨t2,trivial⟩
 have hcc:=hb9.1 k28;have hL:L9=(HA ns AG W W.length).map nm:=by rw[hL9,k28];rfl
 have hLl:L9.length=W.length:=by rw[hL,List.length_map,QA]
 have q1:=hcc.len;have q2:=hcc.p0;have q3:=hcc.p8;have q4:=hcc.c3;refine AP ?_;intro n32 h32 n33 h33;refine .inr ?_;cases n33 <;> conv=>cbv
 ·have k33:=Bm h33;refine Ak ?_;rintro n40 ⟨e40,f40⟩ n41 h41;refine .inr ?_;cases n41 <;> conv=>cbv
  ·have k41:=HC h41;refine Bc [(7,AR,false)] [3,7,51,52] [3] (fun vs bl k=>∃(L1:List (el AR)) (i:Int),vs=[.one (.BX 3 0 0),.one (.sl AR L1),AD AG,AD i]/\bl=[.var 0 [.int .i64 kd,.sl .i64 P,.sl .i64 C,.sl .ex V,.int .i64 sd,AU vl,.sl .i64 AE,.int .i64 AG,.sl DT X,.sl .u8 W]]/\(JF kd P C V sd vl AE AG L1/\(0<=AG/\AG<=8/\AE.length<=3))/\(0<=i/\i<=AG)/\k=(AG-i).toNat) ((AG-0:Int).toNat) ⟨L9,0,congrArg (fun z:AV=>([.one (.BX 3 0 0),z,AD AG,AD 0]:List AV)) (Om hln9 rfl),rfl,⟨Si hV3 hok hcc hL (.inr (.inr rfl)),q2,q3,q4⟩,AA,rfl⟩ ?_;rintro J0 hJ0 vs bl kk0 ⟨L1,i,rfl,rfl,⟨hag,hp0,hp8,hc3⟩,⟨hi0,hi1⟩,hk0⟩;conv=>cbv
   refine C6 (fun k53=>?_) fun k53=>?_
   ·refine .inr ?_;obtain⟨e1,⟨k1,t1,a1,c1⟩,k2,t2,a2,c2⟩:=hag.of i;refine AB hE c2 ?_;refine AB hE c1 ?_;intro n85 h85;(have h85:=h85.trans (AZ:_=false));subst h85;refine AP ?_;intro n86 h86;refine⟨(AG-(i+1):Int).toNat,?_,?_⟩
    ·omega
    rw[hJ0];exact⟨L1,n86,rfl,rfl,⟨hag,hp0,hp8,hc3⟩,AA,by rw[h86]⟩
   intro n89 h89;have e89:=h89.eq;have f89:=h89.le;refine Bc [(7,AR,false)] [3,7,89,90] [3] (fun vs bl k=>∃(L1:List (el AR)) (i:Int),vs=[.one (.BX 3 0 0),.one (.sl AR L1),AD n89,AD i]/\bl=[.var 0 [.int .i64 kd,.sl .i64 P,.sl .i64 C,.sl .ex V,.int .i64 sd,AU vl,.sl .i64 AE,.int .i64 AG,.sl DT X,.sl .u8 W]]/\(JF kd P C V sd vl AE AG L1/\(0<=AG/\AG<=8/\AE.length<=3))/\(0<=i/\i<=n89)/\k=(n89-i).toNat) ((n89-0:Int).toNat) ⟨L1,0,rfl,rfl,⟨hag,hp0,hp8,hc3⟩,AA,rfl⟩ ?_;rintro J1 hJ1 vs bl kk1 ⟨L1,i,rfl,rfl,⟨hag,hp0,hp8,hc3⟩,⟨hi0,hi1⟩,hk1⟩;conv=>cbv
   refine Bt (fun k91=>?_) fun k91=>?_
   ·exact AM ⟨t2,trivial⟩
   refine .inr ?_;obtain⟨e1,⟨T1,A1,c1⟩,T2,A2,c2⟩:=hag.size i;refine AB hE c2 ?_;refine AB hE c1 ?_;intro n123 h123;(have h123:=h123.trans (AZ:_=false));subst h123;refine AP ?_;intro n124 h124;refine⟨(n89-(i+1):Int).toNat,?_,?_⟩
   ·omega
   rw[hJ1];exact⟨L1,n124,rfl,rfl,⟨hag,hp0,hp8,hc3⟩,AA,by rw[h124]⟩
  have k41:=HD h41;intro n44 h44;have e44:=h44.eq;refine AP ?_;intro n45 h45 n47 h47;have h47:=wrap_i64 h47;obtain⟨A48,hA48⟩:=xR (em [] (Re.ofRat ((n47:Int):Rat)));have ShQ47:C7 ((n47:Int):Rat):=⟨by show Int.natAbs n47<18446744073709551616;omega,by show 1<18446744073709551616;decide⟩;refine AB hE (Gt AA hA48) ?_;intro j49 hj49;refine⟨(([]:List LR),A48),fun _=>⟨by show _<List.length (α:=(el AR)) L9;(first | omega | (simp;omega)),Ds⟩,?_⟩;intro (l49:List (el AR)) (hl49:l49=List.set (α:=(el AR)) L9 j49 ((([]:List LR),A48)));have gl49:l49.length=L9.length:=by rw[hl49,List.length_set]
  conv=>cbv
  refine Bc [(7,AR,false)] [3,7,51,52] [3] (fun vs bl k=>∃(L1:List (el AR)) (i:Int),vs=[.one (.BX 3 0 0),.one (.sl AR L1),AD AG,AD i]/\bl=[.var 0 [.int .i64 kd,.sl .i64 P,.sl .i64 C,.sl .ex V,.int .i64 sd,AU vl,.sl .i64 AE,.int .i64 AG,.sl DT X,.sl .u8 W]]/\(JF kd P C V sd vl AE AG L1/\(0<=AG/\AG<=8/\AE.length<=3))/\(0<=i/\i<=AG)/\k=(AG-i).toNat) ((AG-0:Int).toNat) ⟨l49,0,congrArg (fun z:AV=>([.one (.BX 3 0 0),z,AD AG,AD 0]:List AV)) (Om (hln9.trans gl49.symm) rfl),rfl,⟨Si hV3 hok hcc hL (.inr (.inl ⟨j49,_,ShQ47,by rw[hl49,hA48]⟩)),q2,q3,q4⟩,AA,rfl⟩ ?_;rintro J0 hJ0 vs bl kk0 ⟨L1,i,rfl,rfl,⟨hag,hp0,hp8,hc3⟩,⟨hi0,hi1⟩,hk0⟩;conv=>cbv
  refine C6 (fun k53=>?_) fun k53=>?_
  ·refine .inr ?_;obtain⟨e1,⟨k1,t1,a1,c1⟩,k2,t2,a2,c2⟩:=hag.of i;refine AB hE c2 ?_;refine AB hE c1 ?_;intro n85 h85;(have h85:=h85.trans (AZ:_=false));subst h85;refine AP ?_;intro n86 h86;refine⟨(AG-(i+1):Int).toNat,?_,?_⟩
   ·omega
   rw[hJ0];exact⟨L1,n86,rfl,rfl,⟨hag,hp0,hp8,hc3⟩,AA,by rw[h86]⟩
  intro n89 h89;have e89:=h89.eq;have f89:=h89.le;refine Bc [(7,AR,false)] [3,7,89,90] [3] (fun vs bl k=>∃(L1:List (el AR)) (i:Int),vs=[.one (.BX 3 0 0),.one (.sl AR L1),AD n89,AD i]/\bl=[.var 0 [.int .i64 kd,.sl .i64 P,.sl .i64 C,.sl .ex V,.int .i64 sd,AU vl,.sl .i64 AE,.int .i64 AG,.sl DT X,.sl .u8 W]]/\(JF kd P C V sd vl AE AG L1/\(0<=AG/\AG<=8/\AE.length<=3))/\(0<=i/\i<=n89)/\k=(n89-i).toNat) ((n89-0:Int).toNat) ⟨L1,0,rfl,rfl,⟨hag,hp0,hp8,hc3⟩,AA,rfl⟩ ?_;rintro J1 hJ1 vs bl kk1 ⟨L1,i,rfl,rfl,⟨hag,hp0,hp8,hc3⟩,⟨hi0,hi1⟩,hk1⟩;conv=>cbv
  refine Bt (fun k91=>?_) fun k91=>?_
  ·exact AM ⟨t2,trivial⟩
  refine .inr ?_;obtain⟨e1,⟨T1,A1,c1⟩,T2,A2,c2⟩:=hag.size i;refine AB hE c2 ?_;refine AB hE c1 ?_;intro n123 h123;(have h123:=h123.trans (AZ:_=false));subst h123;refine AP ?_;intro n124 h124;refine⟨(n89-(i+1):Int).toNat,?_,?_⟩
  ·omega
  rw[hJ1];exact⟨L1,n124,rfl,rfl,⟨hag,hp0,hp8,hc3⟩,AA,by rw[h124]⟩
 have k33:=Bp h33;obtain⟨A35,hA35⟩:=xR (em [] (Re.ofRat ((1:Int):Rat)));refine AB hE (Gt AF hA35) ?_;refine⟨[(([]:List LR),A35)],DK,.inl ?_⟩;try conv=>cbv
 refine .inl ⟨[(([]:List LR),A35)],fun _=>⟨rfl,by (first | rfl | omega),⟨_,rfl,by simp <;> omega,AZ⟩,C2 (L9.length+1) 48⟩,?_⟩;intro (l37:List (el AR)) n37 ql37;have hl37:l37=(L9:List (el AR))++([(([]:List LR),A35)]:List (el AR)):=ql37.1;have hn37:n37=List.length (α:=(el AR)) l37:=ql37.2;conv=>cbv
 refine Bc [(7,AR,false)] [3,7,51,52] [3] (fun vs bl k=>∃(L1:List (el AR)) (i:Int),vs=[.one (.BX 3 0 0),.one (.sl AR L1),AD AG,AD i]/\bl=[.var 0 [.int .i64 kd,.sl .i64 P,.sl .i64 C,.sl .ex V,.int .i64 sd,AU vl,.sl .i64 AE,.int .i64 AG,.sl DT X,.sl .u8 W]]/\(JF kd P C V sd vl AE AG L1/\(0<=AG/\AG<=8/\AE.length<=3))/\(0<=i/\i<=AG)/\k=(AG-i).toNat) ((AG-0:Int).toNat) ⟨l37,0,congrArg (fun z:AV=>([.one (.BX 3 0 0),z,AD AG,AD 0]:List AV)) (Om hn37 rfl),rfl,⟨Si hV3 hok hcc hL (.inl ⟨_,hl37⟩),q2,q3,q4⟩,AA,rfl⟩ ?_;rintro J0 hJ0 vs bl kk0 ⟨L1,i,rfl,rfl,⟨hag,hp0,hp8,hc3⟩,⟨hi0,hi1⟩,hk0⟩;conv=>cbv
 refine C6 (fun k53=>?_) fun k53=>?_
 ·refine .inr ?_;obtain⟨e1,⟨k1,t1,a1,c1⟩,k2,t2,a2,c2⟩:=hag.of i;refine AB hE c2 ?_;refine AB hE c1 ?_;intro n85 h85;(have h85:=h85.trans (AZ:_=false));subst h85;refine AP ?_;intro n86 h86;refine⟨(AG-(i+1):Int).toNat,?_,?_⟩
  ·omega
  rw[hJ0];exact⟨L1,n86,rfl,rfl,⟨hag,hp0,hp8,hc3⟩,AA,by rw[h86]⟩
 intro n89 h89;have e89:=h89.eq;have f89:=h89.le;refine Bc [(7,AR,false)] [3,7,89,90] [3] (fun vs bl k=>∃(L1:List (el AR)) (i:Int),vs=[.one (.BX 3 0 0),.one (.sl AR L1),AD n89,AD i]/\bl=[.var 0 [.int .i64 kd,.sl .i64 P,.sl .i64 C,.sl .ex V,.int .i64 sd,AU vl,.sl .i64 AE,.int .i64 AG,.sl DT X,.sl .u8 W]]/\(JF kd P C V sd vl AE AG L1/\(0<=AG/\AG<=8/\AE.length<=3))/\(0<=i/\i<=n89)/\k=(n89-i).toNat) ((n89-0:Int).toNat) ⟨L1,0,rfl,rfl,⟨hag,hp0,hp8,hc3⟩,AA,rfl⟩ ?_;rintro J1 hJ1 vs bl kk1 ⟨L1,i,rfl,rfl,⟨hag,hp0,hp8,hc3⟩,⟨hi0,hi1⟩,hk1⟩;conv=>cbv
 refine Bt (fun k91=>?_) fun k91=>?_
 ·exact AM ⟨t2,trivial⟩
 refine .inr ?_;obtain⟨e1,⟨T1,A1,c1⟩,T2,A2,c2⟩:=hag.size i;refine AB hE c2 ?_;refine AB hE c1 ?_;intro n123 h123;(have h123:=h123.trans (AZ:_=false));subst h123;refine AP ?_;intro n124 h124;refine⟨(n89-(i+1):Int).toNat,?_,?_⟩
 ·omega
 rw[hJ1];exact⟨L1,n124,rfl,rfl,⟨hag,hp0,hp8,hc3⟩,AA,by rw[h124]⟩
end
end Go.Abs
