/- Part 29 of a proof. Conditions: each theorem's own. -/
import Derived.Test.YtmhbikooakmagaaGreatQk27
set_option linter.all false
set_option maxHeartbeats 8000000
set_option maxRecDepth 20000
open Go.Proofs
namespace Go.Abs
open Go.RowKit
noncomputable def DC (x1 y1 x2 y2:Re):Int:=if AZ (x1-x2)=0 then AZ (y1-y2) else AZ (x1-x2)
variable {DY DZ Da Db Dc EM:LR} {Dg Dh Di Dj EF EP:List LR} {TT:List (List Rat)->Prop} {e en:Bool} {kp kq kr kx:Nat} {sn:Int} {w:List (List Rat)} {xp xq xr xx yp yq yr yx:Re}
theorem Hh (F:Fd TT w) (y:Vm TT w 1950000 kp kp Dg DY Dh DZ xp yp) (z:Vm TT w 1950000 kq kq Di Da Dj Db xq yq) (A:Vm TT w 1950000 kr kr EF Dc EP EM xr yr) (l:sn=AZ (-(yq-yp)*(xr-xp)+(xq-xp)*(yr-yp))) (B:4*kp+2*kq+2*kr+118<=80000):CF 36 [.agg (BI Dg DY Dh DZ),.agg (BI Di Da Dj Db),.agg (BI EF Dc EP EM)] (.AI [(false,[.int .i64 sn]),(false,[.int .i64 0])]):=by
 obtain⟨r,m,s,n,g,b⟩:=KQ F z y;obtain⟨t,o,u,p,h,c⟩:=KQ F A y;obtain⟨v,q,i,d⟩:=Vy F g h;obtain⟨j,a,f,x⟩:=Jy F i;obtain rfl:sn=j:=l.trans a.symm;refine Ds Tryz.func36 fun E k=>?_
 conv=>cbv
 refine AB k b ?_;conv=>cbv
 refine Ai ?_;conv=>cbv
 refine AB k c ?_;conv=>cbv
 refine Ai ?_;conv=>cbv
 refine AB k d ?_;conv=>cbv
 refine Ai ?_;conv=>cbv
 refine AB k f ?_;conv=>cbv
 exact AD ⟨t2,t2,trivial⟩
theorem fW (F:Fd TT w) (t:Vm TT w 1950000 kp kp Dg DY Dh DZ xp yp) (P:Vm TT w 1950000 kq kq Di Da Dj Db xq yq) (Q:Vm TT w 1950000 kr kr EF Dc EP EM xr yr) (u:sn=AZ (-(yq-yp)*(xr-xp)+(xq-xp)*(yr-yp))) (R:4*kp+2*kq+2*kr+118<=80000):CF 154 [.agg (BI Dg DY Dh DZ),.agg (BI Di Da Dj Db),.agg (BI EF Dc EP EM)] (.AI [(false,[.int .i64 sn]),(false,[.int .i64 0])]):=by
 obtain⟨H,v,l,c⟩:=GQ F P.x t.x;obtain⟨I,z,m,d⟩:=GQ F Q.y t.y;obtain⟨J,A,n,f⟩:=Ky F l m;obtain⟨K,B,o,g⟩:=GQ F P.y t.y;obtain⟨L,C,p,h⟩:=GQ F Q.x t.x;obtain⟨M,D,q,i⟩:=Ky F o p;obtain⟨N,G,r,j⟩:=GQ F n q;obtain⟨s,b,O,k⟩:=Jy F r;obtain rfl:sn=s:=u.trans ((congrArg AZ (by grind)).trans b.symm);refine Ds Tryz.func154 fun E a=>?_
 conv=>cbv
 refine D5 13 1 a c ?_;try conv=>cbv
 refine D5 13 1 a d ?_;try conv=>cbv
 refine D5 13 1 a f ?_;try conv=>cbv
 refine BC ?_;refine D5 13 1 a g ?_;try conv=>cbv
 refine D5 13 1 a h ?_;try conv=>cbv
 refine D5 13 1 a i ?_;try conv=>cbv
 refine BC ?_;refine D5 13 1 a j ?_;try conv=>cbv
 refine AB a k ?_;conv=>cbv
 refine BC ?_;exact AD ⟨t2,t2,trivial⟩
theorem Jv (F:Fd TT w) (l:Vm TT w 1950000 kp kp Dg DY Dh DZ xp yp) (m:Vm TT w 1950000 kq kq Di Da Dj Db xq yq) (g:sn=DC xp yp xq yq) (o:2*kp+2*kq+443<=80000):CF 37 [.agg (BI Dg DY Dh DZ),.agg (BI Di Da Dj Db)] (.AI [(false,[.int .i64 sn]),(false,[.int .i64 0])]):=by
 obtain⟨r505,a,c,i⟩:=gL F l.x m.x (by omega) (by omega);obtain⟨n,b,d,j⟩:=gL F l.y m.y (by omega) (by omega);refine Ds Tryz.func37 fun E k=>?_
 conv=>cbv
 refine AB k c ?_;conv=>cbv
 intro n17 f;conv=>cbv
 cases n17 <;> conv=>cbv
 ·have h:=Cr f;refine Ai ?_;conv=>cbv
  refine AB k d ?_;conv=>cbv
  exact AD ⟨⟨rfl,congrArg _ (by rw[g,DC,<-a,if_pos (by omega),b]),trivial⟩,t2,trivial⟩
 have h:=Cs f;exact AD ⟨⟨rfl,congrArg _ (by rw[g,DC,<-a,if_neg (by omega)]),trivial⟩,t2,trivial⟩
theorem OQ (F:Fd TT w) (o:Vm TT w 1950000 kp kp Dg DY Dh DZ xp yp) (p:Vm TT w 1950000 kq kq Di Da Dj Db xq yq) (q:2*kp+2*kq+114<=80000):∃l j f c m k,Vm TT w 1950000 (kp+kq+1) (kp+kq+1) l j f c (xp-xq) (yp-yq)/\Nm TT w 1950000 (4*kp+4*kq+7) m k ((xp-xq)*(xp-xq)+(yp-yq)*(yp-yq))/\CF 159 [.agg (BI Dg DY Dh DZ),.agg (BI Di Da Dj Db)] (.AI [(true,(BI l j f c)),(true,(Ab m k)),(false,[.int .i64 0])]):=by
 obtain⟨EF,Dc,EP,EM,a,g⟩:=KQ F o p;obtain⟨d,b,i,h⟩:=fG F a;refine⟨EF,Dc,EP,EM,d,b,a.mono (by omega) (by omega),i.mono (by omega),?_⟩;refine Ds Tryz.func159 fun E n=>?_
 conv=>cbv
 refine AB n g ?_;conv=>cbv
 refine Ai ?_;conv=>cbv
 refine AB n h ?_;conv=>cbv
 refine BC ?_;exact AD ⟨⟨rfl,rfl,rfl,rfl,rfl,trivial⟩,t3,t2,trivial⟩
theorem OS (F:Fd TT w) {m:Re} {h:Nat} (n:Nm TT w 1950000 h Dg DY m) (o:Vm TT w 1950000 kp kp Dh DZ Di Da xp yp) (p:Vm TT w 1950000 kq kq Dj Db EF Dc xq yq) (q:h+2*kp+2*kq+114<=80000):∃j i,Nm TT w 1950000 (h+2*kp+2*kq+4) j i (m*(-yp*xq+xp*yq))/\CF 259 [.agg (Ab Dg DY),.agg (BI Dh DZ Di Da),.agg (BI Dj Db EF Dc)] (.AI [(true,(Ab j i)),(false,[.int .i64 0])]):=by
 obtain⟨EP,EM,f,c⟩:=Vy F o p;obtain⟨b,a,g,d,k⟩:=Ih F n f;refine⟨b,a,g.mono (by omega),?_⟩;refine Ds Tryz.func259 fun E l=>?_
 conv=>cbv
 refine AB l c ?_;conv=>cbv
 refine Ai ?_;conv=>cbv
 refine AB l d ?_;conv=>cbv
 exact AD ⟨t3,t2,trivial⟩
theorem bX (F:Fd TT w) (B:Vm TT w 1950000 kp kp Dg DY Dh DZ xp yp) (C:Vm TT w 1950000 kq kq Di Da Dj Db xq yq) (A:Vm TT w 1950000 kx kx EF Dc EP EM xx yx) (n:sn=AZ ((xp-xx)*(xq-xx)+(yp-yx)*(yq-yx))) (m:en=decide (sn<0)) (D:2*kp+2*kq+4*kx+118<=80000):CF 148 [.agg (BI Dg DY Dh DZ),.agg (BI Di Da Dj Db),.agg (BI EF Dc EP EM)] (.one (.bool en)):=by
 obtain⟨t,o,u,p,g,b⟩:=KQ F B A;obtain⟨v,q,x,r,h,c⟩:=KQ F C A;obtain⟨y,s,i,d⟩:=PO F g h;obtain⟨j,a,f,z⟩:=Jy F i;obtain rfl:sn=j:=n.trans a.symm;refine Ds Tryz.func148 fun E k=>?_
 conv=>cbv
 refine AB k b ?_;conv=>cbv
 refine AB k c ?_;conv=>cbv
 refine AB k d ?_;conv=>cbv
 refine AB k f ?_;conv=>cbv
 intro n33 l;conv=>cbv
 exact AD ⟨⟨rfl,congrArg _ (m.trans l.symm),trivial⟩,trivial⟩
def Ea (xp yp xq yq xx yx:Re):Prop:=(xp=xx/\yp=yx)\/(xq=xx/\yq=yx)\/(AZ (-(yq-yp)*(xx-xp)+(xq-xp)*(yx-yp))=0/\AZ ((xp-xx)*(xq-xx)+(yp-yx)*(yq-yx))<0)
theorem RH (he:e=true↔Ea xp yp xq yq xx yx) (h:(xp=xx/\yp=yx)\/(xq=xx/\yq=yx)):true=e:=(he.2 (h.imp id .inl)).symm
theorem Ys (he:e=true↔Ea xp yp xq yq xx yx) (a:¬(xp=xx/\yp=yx)) (b:¬(xq=xx/\yq=yx)) (h3:AZ (-(yq-yp)*(xx-xp)+(xq-xp)*(yx-yp))≠0):false=e:=by
 cases e
 ·rfl
 rcases he.1 rfl with h | h | h
 ·exact absurd h a
 ·exact absurd h b
 exact absurd h.1 h3
theorem Yt (he:e=true↔Ea xp yp xq yq xx yx) (a:¬(xp=xx/\yp=yx)) (b:¬(xq=xx/\yq=yx)) (h3:AZ (-(yq-yp)*(xx-xp)+(xq-xp)*(yx-yp))=0):decide (AZ ((xp-xx)*(xq-xx)+(yp-yx)*(yq-yx))<0)=e:=by
 rw[Bool.eq_iff_iff,he,decide_eq_true_eq];exact⟨fun h=> .inr (.inr ⟨h3,h⟩),fun h=>(h.resolve_left a).resolve_left b |>.2⟩
theorem Vb {a b:Re} (h:a*a+b*b=0):a=0/\b=0:=by
 have d:=Re.Fh a;have f:=Re.Fh b;have h3:a*a=0:=by grind
 have c:b*b=0:=by grind
 exact⟨(Re.EH h3).elim id id,(Re.EH c).elim id id⟩
theorem Kx:Ea xp yp xq yq xx yx↔AZ (-(yq-yp)*(xx-xp)+(xq-xp)*(yx-yp))=0/\((xp=xq/\yp=yq)/\(xp=xx/\yp=yx)\/¬(xp=xq/\yp=yq)/\AZ ((xp-xx)*(xq-xx)+(yp-yx)*(yq-yx))<=0):=by
 unfold Ea
 constructor
 ·rintro (⟨rfl,rfl⟩ |⟨rfl,rfl⟩ |⟨h,k⟩)
  ·refine⟨Dx.2 (by grind),?_⟩
   by_cases e:xp=xq/\yp=yq
   ·exact .inl ⟨e,rfl,rfl⟩
   exact .inr ⟨e,by rw[Dx.2 (by grind)];exact Int.le_refl _⟩
  ·refine⟨Dx.2 (by grind),?_⟩
   by_cases e:xp=xq/\yp=yq
   ·exact .inl ⟨e,e⟩
   exact .inr ⟨e,by rw[Dx.2 (by grind)];exact Int.le_refl _⟩
  refine⟨h,.inr ⟨?_,by omega⟩⟩
  rintro⟨rfl,rfl⟩
  have:=Re.Fh (xp-xx);have:=Re.Fh (yp-yx);rcases Cv ((xp-xx)*(xp-xx)+(yp-yx)*(yp-yx)) with⟨a,_⟩ |⟨_,b⟩ |⟨_,b⟩
  ·grind
  ·omega
  omega
 rintro⟨h,⟨_,k⟩ |⟨e,k⟩⟩
 ·exact .inl k
 by_cases k0:AZ ((xp-xx)*(xq-xx)+(yp-yx)*(yq-yx))<0
 ·exact .inr (.inr ⟨h,k0⟩)
 have f:=Dx.1 (show AZ ((xp-xx)*(xq-xx)+(yp-yx)*(yq-yx))=0 by omega);have i:=Dx.1 h
 by_cases d:xp=xx/\yp=yx
 ·exact .inl d
 refine .inr (.inl ?_);have g:(xp-xx)*(xp-xx)+(yp-yx)*(yp-yx)≠0:=fun z=>d ⟨by have:=(Vb z).1;grind,by have:=(Vb z).2;grind⟩
 have c:(xp-xx)*(yq-yx)-(yp-yx)*(xq-xx)=0:=by grind
 have k1:((xp-xx)*(xp-xx)+(yp-yx)*(yp-yx))*(xq-xx)=0:=by
  have:((xp-xx)*(xp-xx)+(yp-yx)*(yp-yx))*(xq-xx)=(xp-xx)*((xp-xx)*(xq-xx)+(yp-yx)*(yq-yx))-(yp-yx)*((xp-xx)*(yq-yx)-(yp-yx)*(xq-xx)):=by grind
  rw[this,f,c];grind
 have k2:((xp-xx)*(xp-xx)+(yp-yx)*(yp-yx))*(yq-yx)=0:=by
  have:((xp-xx)*(xp-xx)+(yp-yx)*(yp-yx))*(yq-yx)=(yp-yx)*((xp-xx)*(xq-xx)+(yp-yx)*(yq-yx))+(xp-xx)*((xp-xx)*(yq-yx)-(yp-yx)*(xq-xx)):=by grind
  rw[this,f,c];grind
 have j:=(Re.EH k1).resolve_left g;have l:=(Re.EH k2).resolve_left g;exact⟨by grind,by grind⟩
theorem Lu (F:Fd TT w) (l:Vm TT w 1950000 kp kp Dg DY Dh DZ xp yp) (m:Vm TT w 1950000 kq kq Di Da Dj Db xq yq) (k:Vm TT w 1950000 kx kx EF Dc EP EM xx yx) (c:en=true↔Ea xp yp xq yq xx yx) (n:4*kp+2*kq+4*kx+443<=80000):CF 42 [.agg (BI Dg DY Dh DZ),.agg (BI Di Da Dj Db),.agg (BI EF Dc EP EM)] (.one (.bool en)):=by
 obtain⟨b1,a⟩:=D4 (xp=xx/\yp=yx);obtain⟨b2,b⟩:=D4 (xq=xx/\yq=yx);obtain⟨s1,d⟩:∃z,z=AZ (-(yq-yp)*(xx-xp)+(xq-xp)*(yx-yp)):=⟨_,rfl⟩
 obtain⟨s2,i⟩:∃z,z=AZ ((xp-xx)*(xq-xx)+(yp-yx)*(yq-yx)):=⟨_,rfl⟩
 obtain⟨d1,h⟩:∃z,z=decide (s2<0):=⟨_,rfl⟩
 refine Ds Tryz.func42 fun E j=>?_
 conv=>cbv
 refine AB j (Vz F l k (by omega) (by omega) (by omega) (by omega) a) ?_;conv=>cbv
 cases b1 <;> conv=>cbv
 ·refine AB j (Vz F m k (by omega) (by omega) (by omega) (by omega) b) ?_;conv=>cbv
  cases b2 <;> conv=>cbv
  ·refine AB j (Hh F l m k d (by omega)) ?_;conv=>cbv
   refine Bu ?_;conv=>cbv
   intro n33 g;conv=>cbv
   cases n33 <;> conv=>cbv
   ·have f:=Ac g;exact AD ⟨⟨rfl,congrArg _ ((Ys c (fun z=>absurd (a.2 z) (by decide)) (fun z=>absurd (b.2 z) (by decide)) (by rw[<-d];exact f)).symm),trivial⟩,trivial⟩
   have f:=Ae g;refine AB j (bX F l m k i h (by omega)) ?_;conv=>cbv
   exact AD ⟨⟨rfl,congrArg _ (by rw[h,i];exact (Yt c (fun z=>absurd (a.2 z) (by decide)) (fun z=>absurd (b.2 z) (by decide)) (by rw[<-d];exact f)).symm),trivial⟩,trivial⟩
  exact AD ⟨⟨rfl,congrArg _ ((RH c (by first | exact .inl (a.1 rfl) | exact .inr (b.1 rfl))).symm),trivial⟩,trivial⟩
 exact AD ⟨⟨rfl,congrArg _ ((RH c (by first | exact .inl (a.1 rfl) | exact .inr (b.1 rfl))).symm),trivial⟩,trivial⟩
theorem Yx (he:e=true↔Ea xp yp xq yq xx yx) (h:AZ (-(yq-yp)*(xx-xp)+(xq-xp)*(yx-yp))≠0):false=e:=by
 cases e
 ·rfl
 exact absurd (Kx.1 (he.1 rfl)).1 h
theorem Yy {b:Bool} (he:e=true↔Ea xp yp xq yq xx yx) (h:AZ (-(yq-yp)*(xx-xp)+(xq-xp)*(yx-yp))=0) (a:xp=xq/\yp=yq) (hb:b=true↔xp=xx/\yp=yx):b=e:=by
 rw[Bool.eq_iff_iff,he,hb,Kx];exact⟨fun z=>⟨h,.inl ⟨a,z⟩⟩,fun z=>z.2.elim (·.2) fun y=>absurd a y.1⟩
theorem Yz (he:e=true↔Ea xp yp xq yq xx yx) (h:AZ (-(yq-yp)*(xx-xp)+(xq-xp)*(yx-yp))=0) (a:¬(xp=xq/\yp=yq)):decide (AZ ((xp-xx)*(xq-xx)+(yp-yx)*(yq-yx))<=0)=e:=by
 rw[Bool.eq_iff_iff,he,decide_eq_true_eq,Kx];exact⟨fun z=>⟨h,.inr ⟨a,z⟩⟩,fun z=>z.2.elim (fun y=>absurd y.1 a) (·.2)⟩
theorem fS (F:Fd TT w) (D:Vm TT w 1950000 kp kp Dg DY Dh DZ xp yp) (G:Vm TT w 1950000 kq kq Di Da Dj Db xq yq) (h:Vm TT w 1950000 kx kx EF Dc EP EM xx yx) (f:en=true↔Ea xp yp xq yq xx yx) (hM:4*kp+2*kq+4*kx+443<=80000):CF 43 [.agg (BI Dg DY Dh DZ),.agg (BI Di Da Dj Db),.agg (BI EF Dc EP EM)] (.one (.bool en)):=by
 obtain⟨s1,b⟩:∃z,z=AZ (-(yq-yp)*(xx-xp)+(xq-xp)*(yx-yp)):=⟨_,rfl⟩
 obtain⟨Q,J,r,i⟩:=GQ F D.x h.x;obtain⟨R,K,s,j⟩:=GQ F G.x h.x;obtain⟨S,L,t,k⟩:=Ky F r s;obtain⟨T,M,u,l⟩:=GQ F D.y h.y;obtain⟨U,N,v,m⟩:=GQ F G.y h.y;obtain⟨V,O,A,n⟩:=Ky F u v;obtain⟨W,P,B,o⟩:=Y3 F t A;obtain⟨Y,g,X,p⟩:=Jy F B;have I:=g;obtain⟨b1,d⟩:=D4 (xp=xq/\yp=yq);obtain⟨b2,C⟩:=D4 (xp=xx/\yp=yx);refine Ds Tryz.func43 fun E a=>?_
 conv=>cbv
 refine AB a (fW F D G h b (by omega)) ?_;conv=>cbv
 refine Ai ?_;conv=>cbv
 intro n22 q;conv=>cbv
 cases n22 <;> conv=>cbv
 ·have c:=Cr q;refine D5 25 1 a i ?_;try conv=>cbv
  refine D5 25 1 a j ?_;try conv=>cbv
  refine D5 25 1 a k ?_;try conv=>cbv
  refine D5 25 1 a l ?_;try conv=>cbv
  refine D5 25 1 a m ?_;try conv=>cbv
  refine D5 25 1 a n ?_;try conv=>cbv
  refine D5 25 1 a o ?_;try conv=>cbv
  refine BC ?_;refine AB a (MV F D G (by omega) (by omega) (by omega) (by omega) d) ?_;conv=>cbv
  cases b1 <;> conv=>cbv
  ·refine Bu ?_;conv=>cbv
   refine AB a p ?_;conv=>cbv
   intro Z H;conv=>cbv
   exact AD ⟨⟨rfl,congrArg _ (by rw[H,I];exact (Yz f (by rw[<-b];exact c) (fun z=>absurd (d.2 z) (by decide))).symm),trivial⟩,trivial⟩
  refine AB a (MV F D h (by omega) (by omega) (by omega) (by omega) C) ?_;conv=>cbv
  exact AD ⟨⟨rfl,congrArg _ ((Yy f (by rw[<-b];exact c) (d.1 rfl) C).symm),trivial⟩,trivial⟩
 have c:=Cs q;exact AD ⟨⟨rfl,congrArg _ ((Yx f (by rw[<-b];exact c)).symm),trivial⟩,trivial⟩
theorem OP (F:Fd TT w) {G H:List LR} {C D:LR} {y z:Re} {kd:Nat} (hp:Vm TT w 1950000 kp kp Dg DY Dh DZ xp yp) (hq:Vm TT w 1950000 kq kq Di Da Dj Db xq yq) (hr:Vm TT w 1950000 kr kr EF Dc EP EM xr yr) (hd:Vm TT w 1950000 kd kd G C H D y z) (h1:AZ (-(yq-yp)*(xr-xp)+(xq-xp)*(yr-yp))=1) (ao:sn=AZ (((xp-y)*(xp-y)+(yp-z)*(yp-z))*(-(yq-z)*(xr-y)+(xq-y)*(yr-z))+((xq-y)*(xq-y)+(yq-z)*(yq-z))*(-(yr-z)*(xp-y)+(xr-y)*(yp-z))+((xr-y)*(xr-y)+(yr-z)*(yr-z))*(-(yp-z)*(xq-y)+(xp-y)*(yq-z)))) (hM:24*kd+8*kp+8*kq+8*kr+160<=80000):CF 140 [.agg (BI Dg DY Dh DZ),.agg (BI Di Da Dj Db),.agg (BI EF Dc EP EM),.agg (BI G C H D)] (.AI [(false,[.int .i64 sn]),(false,[.int .i64 0])]):=by
 obtain⟨h,a,i,b,s,o,I,aa,W⟩:=OQ F hp hd (by omega);obtain⟨j,c,l,d,t,q,J,ab,X⟩:=OQ F hq hd (by omega);obtain⟨m,f,n,g,u,r,K,ad,Y⟩:=OQ F hr hd (by omega);obtain⟨O,L,ae⟩:=UP F (p:=((0:Int):Rat)) (by decide +kernel);obtain⟨aw,ar,af,Z⟩:=OS F aa J K (by omega);obtain⟨S,P,ag,a1,az⟩:=Hg F ae af;obtain⟨ax,au,ah,a2⟩:=OS F ab K I (by omega);obtain⟨T,Q,ai,a5,aA⟩:=Hg F ag ah;obtain⟨ay,av,aj,a6⟩:=OS F ad I J (by omega);obtain⟨U,R,ak,a7,aB⟩:=Hg F ai aj;obtain⟨al,N,a8,aC⟩:=Jy F ak;obtain rfl:sn=al:=ao.trans ((congrArg AZ (by rw[show Re.ofRat ((0:Int):Rat)=0 from Re.bc];grind)).trans N.symm);refine Ds Tryz.func140 fun E A=>?_
 conv=>cbv
 refine AB A (Hh F hp hq hr (sn:=1) h1.symm (by omega)) ?_;conv=>cbv
 refine Ai ?_;conv=>cbv
 refine Ai ?_;conv=>cbv
 refine AB A W ?_;conv=>cbv
 refine AB A X ?_;conv=>cbv
 refine AB A Y ?_;conv=>cbv
 refine Ai ?_;conv=>cbv
 refine Ai ?_;conv=>cbv
 refine Ai ?_;conv=>cbv
 refine AB A (Wb (by decide) (VH (by decide +kernel:CG ((0:Int):Rat))) L) ?_;conv=>cbv
 refine⟨[((s,o),(((j,c),(l,d)),((m,f),(n,g)))),((t,q),(((m,f),(n,g)),((h,a),(i,b)))),((u,r),(((h,a),(i,b)),((j,c),(l,d))))],fun _=>⟨rfl,by decide,rfl,⟨rfl,⟨rfl,rfl,rfl,rfl,rfl,rfl,rfl,rfl,rfl,rfl,trivial⟩,⟨rfl,⟨rfl,rfl,rfl,rfl,rfl,rfl,rfl,rfl,rfl,rfl,trivial⟩,⟨rfl,⟨rfl,rfl,rfl,rfl,rfl,rfl,rfl,rfl,rfl,rfl,trivial⟩,trivial⟩⟩⟩⟩,.inr ?_⟩;try conv=>cbv
 rintro aq ⟨an,f91⟩;conv=>cbv
 obtain rfl:aq=3:=an;refine .inr ?_;obtain⟨J0,B⟩:=xJ fun vs V k=>(vs=[.one (.sl (.pr Ap (.pr BL BL)) [((s,o),(((j,c),(l,d)),((m,f),(n,g)))),((t,q),(((m,f),(n,g)),((h,a),(i,b)))),((u,r),(((h,a),(i,b)),((j,c),(l,d))))]),.one (.int .i64 3),.one (.int .i64 0),.one (.Ak 21 0 0)]/\V=[.var 0 [.sl (.sl AA) ([]:List LR),.sl AA O]]/\k=3)\/(vs=[.one (.sl (.pr Ap (.pr BL BL)) [((s,o),(((j,c),(l,d)),((m,f),(n,g)))),((t,q),(((m,f),(n,g)),((h,a),(i,b)))),((u,r),(((h,a),(i,b)),((j,c),(l,d))))]),.one (.int .i64 3),.one (.int .i64 1),.one (.Ak 21 0 0)]/\V=[.var 0 [.sl (.sl AA) S,.sl AA P]]/\k=2)\/(vs=[.one (.sl (.pr Ap (.pr BL BL)) [((s,o),(((j,c),(l,d)),((m,f),(n,g)))),((t,q),(((m,f),(n,g)),((h,a),(i,b)))),((u,r),(((h,a),(i,b)),((j,c),(l,d))))]),.one (.int .i64 3),.one (.int .i64 2),.one (.Ak 21 0 0)]/\V=[.var 0 [.sl (.sl AA) T,.sl AA Q]]/\k=1)\/(vs=[.one (.sl (.pr Ap (.pr BL BL)) [((s,o),(((j,c),(l,d)),((m,f),(n,g)))),((t,q),(((m,f),(n,g)),((h,a),(i,b)))),((u,r),(((h,a),(i,b)),((j,c),(l,d))))]),.one (.int .i64 3),.one (.int .i64 3),.one (.Ak 21 0 0)]/\V=[.var 0 [.sl (.sl AA) U,.sl AA R]]/\k=0)
 refine⟨[],[90,91,92,21],[21],J0,⟨3,by rw[B];exact .inl ⟨rfl,rfl,rfl⟩⟩,?_⟩;intro vs V aD hj;rw[B] at hj;rcases hj with⟨rfl,rfl,M⟩ |⟨rfl,rfl,M⟩ |⟨rfl,rfl,M⟩ |⟨rfl,rfl,M⟩
 ·conv=>cbv
  refine Bu ?_;conv=>cbv
  refine .inr ?_;refine⟨((s,o),(((j,c),(l,d)),((m,f),(n,g)))),fun _=>⟨by omega,rfl⟩,?_⟩;try conv=>cbv
  refine AB A Z ?_;conv=>cbv
  refine Ai ?_;conv=>cbv
  refine AB A a1 ?_;conv=>cbv
  refine Ai ?_;conv=>cbv
  intro x v;conv=>cbv
  refine AH ?_;obtain rfl:x=1:=v;refine⟨2,?_,?_⟩
  ·omega
  rw[B];exact .inr (.inl ⟨rfl,rfl,rfl⟩)
 ·conv=>cbv
  refine Bu ?_;conv=>cbv
  refine .inr ?_;refine⟨((t,q),(((m,f),(n,g)),((h,a),(i,b)))),fun _=>⟨by omega,rfl⟩,?_⟩;try conv=>cbv
  refine AB A a2 ?_;conv=>cbv
  refine Ai ?_;conv=>cbv
  refine AB A a5 ?_;conv=>cbv
  refine Ai ?_;conv=>cbv
  intro x v;conv=>cbv
  refine AH ?_;obtain rfl:x=2:=v;refine⟨1,?_,?_⟩
  ·omega
  rw[B];exact .inr (.inr (.inl ⟨rfl,rfl,rfl⟩))
 ·conv=>cbv
  refine Bu ?_;conv=>cbv
  refine .inr ?_;refine⟨((u,r),(((h,a),(i,b)),((j,c),(l,d)))),fun _=>⟨by omega,rfl⟩,?_⟩;try conv=>cbv
  refine AB A a6 ?_;conv=>cbv
  refine Ai ?_;conv=>cbv
  refine AB A a7 ?_;conv=>cbv
  refine Ai ?_;conv=>cbv
  intro x v;conv=>cbv
  refine AH ?_;obtain rfl:x=3:=v;refine⟨0,?_,?_⟩
  ·omega
  rw[B];exact .inr (.inr (.inr ⟨rfl,rfl,rfl⟩))
 conv=>cbv
 refine Ai ?_;conv=>cbv
 refine AB A a8 ?_;conv=>cbv
 exact AD ⟨t2,t2,trivial⟩
end Go.Abs
