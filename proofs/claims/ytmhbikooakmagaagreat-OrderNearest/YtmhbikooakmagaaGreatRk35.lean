/- Part 36 of a proof. Conditions: each theorem's own. -/
import Derived.Test.YtmhbikooakmagaaGreatRk34
set_option linter.all false
set_option maxHeartbeats 8000000
set_option maxRecDepth 20000
open Go.Proofs
namespace Go.Abs
open Go.RowKit
noncomputable def GB (x1 y1 x2 y2:Re):Int:=if An (x1-x2)=0 then An (y1-y2) else An (x1-x2)
variable {As Au Ax BE BU BZ:LR} {Av Aw Ay BF BX Ba:List LR} {TT:List (List Rat)->Prop} {e:Bool} {kp kq kr:Nat} {sn:Int} {w:List (List Rat)} {xp xq xr xx yp yq yr yx:Re}
theorem Ri (F:Fd TT w) (y:Vm TT w 1950000 kp kp Av As Aw Au xp yp) (z:Vm TT w 1950000 kq kq Ay Ax BF BE xq yq) (A:Vm TT w 1950000 kr kr BX BU Ba BZ xr yr) (l:sn=An (-(yq-yp)*(xr-xp)+(xq-xp)*(yr-yp))) (B:4*kp+2*kq+2*kr+118<=80000):CF 36 [.agg (Af Av As Aw Au),.agg (Af Ay Ax BF BE),.agg (Af BX BU Ba BZ)] (.AG [(false,[.int .i64 sn]),(false,[.int .i64 0])]):=by
 obtain⟨r,m,s,n,g,b⟩:=Sw F z y;obtain⟨t,o,u,p,h,c⟩:=Sw F A y;obtain⟨v,q,i,d⟩:=aT F g h;obtain⟨j,a,f,x⟩:=Gn F i;obtain rfl:sn=j:=l.trans a.symm;refine CJ Tryz.func36 fun E k=>?_
 conv=>cbv
 refine AB k b ?_;conv=>cbv
 refine AU ?_;conv=>cbv
 refine AB k c ?_;conv=>cbv
 refine AU ?_;conv=>cbv
 refine AB k d ?_;conv=>cbv
 refine AU ?_;conv=>cbv
 refine AB k f ?_;conv=>cbv
 exact AD ⟨t2,t2,trivial⟩
theorem Mr (F:Fd TT w) (t:Vm TT w 1950000 kp kp Av As Aw Au xp yp) (P:Vm TT w 1950000 kq kq Ay Ax BF BE xq yq) (Q:Vm TT w 1950000 kr kr BX BU Ba BZ xr yr) (u:sn=An (-(yq-yp)*(xr-xp)+(xq-xp)*(yr-yp))) (R:4*kp+2*kq+2*kr+118<=80000):CF 154 [.agg (Af Av As Aw Au),.agg (Af Ay Ax BF BE),.agg (Af BX BU Ba BZ)] (.AG [(false,[.int .i64 sn]),(false,[.int .i64 0])]):=by
 obtain⟨H,v,l,c⟩:=F9 F P.x t.x;obtain⟨I,z,m,d⟩:=F9 F Q.y t.y;obtain⟨J,A,n,f⟩:=Jw F l m;obtain⟨K,B,o,g⟩:=F9 F P.y t.y;obtain⟨L,C,p,h⟩:=F9 F Q.x t.x;obtain⟨M,D,q,i⟩:=Jw F o p;obtain⟨N,G,r,j⟩:=F9 F n q;obtain⟨s,b,O,k⟩:=Gn F r;obtain rfl:sn=s:=u.trans ((congrArg An (by grind)).trans b.symm);refine CJ Tryz.func154 fun E a=>?_
 conv=>cbv
 refine Am 13 1 a c ?_;try conv=>cbv
 refine Am 13 1 a d ?_;try conv=>cbv
 refine Am 13 1 a f ?_;try conv=>cbv
 refine BG ?_;refine Am 13 1 a g ?_;try conv=>cbv
 refine Am 13 1 a h ?_;try conv=>cbv
 refine Am 13 1 a i ?_;try conv=>cbv
 refine BG ?_;refine Am 13 1 a j ?_;try conv=>cbv
 refine AB a k ?_;conv=>cbv
 refine BG ?_;exact AD ⟨t2,t2,trivial⟩
theorem jy (F:Fd TT w) (l:Vm TT w 1950000 kp kp Av As Aw Au xp yp) (m:Vm TT w 1950000 kq kq Ay Ax BF BE xq yq) (g:sn=GB xp yp xq yq) (o:2*kp+2*kq+443<=80000):CF 37 [.agg (Af Av As Aw Au),.agg (Af Ay Ax BF BE)] (.AG [(false,[.int .i64 sn]),(false,[.int .i64 0])]):=by
 obtain⟨r505,a,c,i⟩:=L4 F l.x m.x (by omega) (by omega);obtain⟨n,b,d,j⟩:=L4 F l.y m.y (by omega) (by omega);refine CJ Tryz.func37 fun E k=>?_
 conv=>cbv
 refine AB k c ?_;conv=>cbv
 intro n17 f;conv=>cbv
 cases n17 <;> conv=>cbv
 ·have h:=Co f;refine AU ?_;conv=>cbv
  refine AB k d ?_;conv=>cbv
  exact AD ⟨⟨rfl,congrArg _ (by rw[g,GB,<-a,if_pos (by omega),b]),trivial⟩,t2,trivial⟩
 have h:=Cp f;exact AD ⟨⟨rfl,congrArg _ (by rw[g,GB,<-a,if_neg (by omega)]),trivial⟩,t2,trivial⟩
theorem oZ (F:Fd TT w) (l:Vm TT w 1950000 kp kp Av As Aw Au xp yp) (m:Vm TT w 1950000 kq kq Ay Ax BF BE xq yq) (g:sn=GB xp yp xq yq) (o:2*kp+2*kq+443<=80000):CF 165 [.agg (Af Av As Aw Au),.agg (Af Ay Ax BF BE)] (.AG [(false,[.int .i64 sn]),(false,[.int .i64 0])]):=by
 obtain⟨r505,a,i,c⟩:=L4 F l.x m.x (by omega) (by omega);obtain⟨n,b,j,d⟩:=L4 F l.y m.y (by omega) (by omega);refine CJ Tryz.func165 fun E k=>?_
 conv=>cbv
 refine AB k c ?_;conv=>cbv
 refine AU ?_;conv=>cbv
 intro n20 f;conv=>cbv
 cases n20 <;> conv=>cbv
 ·have h:=Co f;refine AB k d ?_;conv=>cbv
  exact AD ⟨⟨rfl,congrArg _ (by rw[g,GB,<-a,if_pos (by omega),b]),trivial⟩,t2,trivial⟩
 have h:=Cp f;exact AD ⟨⟨rfl,congrArg _ (by rw[g,GB,<-a,if_neg (by omega)]),trivial⟩,t2,trivial⟩
theorem L6 (F:Fd TT w) (o:Vm TT w 1950000 kp kp Av As Aw Au xp yp) (p:Vm TT w 1950000 kq kq Ay Ax BF BE xq yq) (q:2*kp+2*kq+114<=80000):∃l j f c m k,Vm TT w 1950000 (kp+kq+1) (kp+kq+1) l j f c (xp-xq) (yp-yq)/\Nm TT w 1950000 (4*kp+4*kq+7) m k ((xp-xq)*(xp-xq)+(yp-yq)*(yp-yq))/\CF 159 [.agg (Af Av As Aw Au),.agg (Af Ay Ax BF BE)] (.AG [(true,(Af l j f c)),(true,(AR m k)),(false,[.int .i64 0])]):=by
 obtain⟨BX,BU,Ba,BZ,a,g⟩:=Sw F o p;obtain⟨d,b,i,h⟩:=oL F a;refine⟨BX,BU,Ba,BZ,d,b,a.mono (by omega) (by omega),i.mono (by omega),?_⟩;refine CJ Tryz.func159 fun E n=>?_
 conv=>cbv
 refine AB n g ?_;conv=>cbv
 refine AU ?_;conv=>cbv
 refine AB n h ?_;conv=>cbv
 refine BG ?_;exact AD ⟨⟨rfl,rfl,rfl,rfl,rfl,trivial⟩,t3,t2,trivial⟩
theorem Rj (F:Fd TT w) {m:Re} {h:Nat} (n:Nm TT w 1950000 h Av As m) (o:Vm TT w 1950000 kp kp Aw Au Ay Ax xp yp) (p:Vm TT w 1950000 kq kq BF BE BX BU xq yq) (q:h+2*kp+2*kq+114<=80000):∃j i,Nm TT w 1950000 (h+2*kp+2*kq+4) j i (m*(-yp*xq+xp*yq))/\CF 259 [.agg (AR Av As),.agg (Af Aw Au Ay Ax),.agg (Af BF BE BX BU)] (.AG [(true,(AR j i)),(false,[.int .i64 0])]):=by
 obtain⟨Ba,BZ,f,c⟩:=aT F o p;obtain⟨b,a,g,d,k⟩:=IZ F n f;refine⟨b,a,g.mono (by omega),?_⟩;refine CJ Tryz.func259 fun E l=>?_
 conv=>cbv
 refine AB l c ?_;conv=>cbv
 refine AU ?_;conv=>cbv
 refine AB l d ?_;conv=>cbv
 exact AD ⟨t3,t2,trivial⟩
def GO (xp yp xq yq xx yx:Re):Prop:=(xp=xx/\yp=yx)\/(xq=xx/\yq=yx)\/(An (-(yq-yp)*(xx-xp)+(xq-xp)*(yx-yp))=0/\An ((xp-xx)*(xq-xx)+(yp-yx)*(yq-yx))<0)
theorem Z3 {a b:Re} (h:a*a+b*b=0):a=0/\b=0:=by
 have d:=Re.Fi a;have f:=Re.Fi b;have h3:a*a=0:=by grind
 have c:b*b=0:=by grind
 exact⟨(Re.Cd h3).elim id id,(Re.Cd c).elim id id⟩
theorem QI:GO xp yp xq yq xx yx↔An (-(yq-yp)*(xx-xp)+(xq-xp)*(yx-yp))=0/\((xp=xq/\yp=yq)/\(xp=xx/\yp=yx)\/¬(xp=xq/\yp=yq)/\An ((xp-xx)*(xq-xx)+(yp-yx)*(yq-yx))<=0):=by
 unfold GO
 constructor
 ·rintro (⟨rfl,rfl⟩ |⟨rfl,rfl⟩ |⟨h,k⟩)
  ·refine⟨EP.2 (by grind),?_⟩
   by_cases e:xp=xq/\yp=yq
   ·exact .inl ⟨e,rfl,rfl⟩
   exact .inr ⟨e,by rw[EP.2 (by grind)];exact Int.le_refl _⟩
  ·refine⟨EP.2 (by grind),?_⟩
   by_cases e:xp=xq/\yp=yq
   ·exact .inl ⟨e,e⟩
   exact .inr ⟨e,by rw[EP.2 (by grind)];exact Int.le_refl _⟩
  refine⟨h,.inr ⟨?_,by omega⟩⟩
  rintro⟨rfl,rfl⟩
  have:=Re.Fi (xp-xx);have:=Re.Fi (yp-yx);rcases Df ((xp-xx)*(xp-xx)+(yp-yx)*(yp-yx)) with⟨a,_⟩ |⟨_,b⟩ |⟨_,b⟩
  ·grind
  ·omega
  omega
 rintro⟨h,⟨_,k⟩ |⟨e,k⟩⟩
 ·exact .inl k
 by_cases k0:An ((xp-xx)*(xq-xx)+(yp-yx)*(yq-yx))<0
 ·exact .inr (.inr ⟨h,k0⟩)
 have f:=EP.1 (show An ((xp-xx)*(xq-xx)+(yp-yx)*(yq-yx))=0 by omega);have i:=EP.1 h
 by_cases d:xp=xx/\yp=yx
 ·exact .inl d
 refine .inr (.inl ?_);have g:(xp-xx)*(xp-xx)+(yp-yx)*(yp-yx)≠0:=fun z=>d ⟨by have:=(Z3 z).1;grind,by have:=(Z3 z).2;grind⟩
 have c:(xp-xx)*(yq-yx)-(yp-yx)*(xq-xx)=0:=by grind
 have k1:((xp-xx)*(xp-xx)+(yp-yx)*(yp-yx))*(xq-xx)=0:=by
  have:((xp-xx)*(xp-xx)+(yp-yx)*(yp-yx))*(xq-xx)=(xp-xx)*((xp-xx)*(xq-xx)+(yp-yx)*(yq-yx))-(yp-yx)*((xp-xx)*(yq-yx)-(yp-yx)*(xq-xx)):=by grind
  rw[this,f,c];grind
 have k2:((xp-xx)*(xp-xx)+(yp-yx)*(yp-yx))*(yq-yx)=0:=by
  have:((xp-xx)*(xp-xx)+(yp-yx)*(yp-yx))*(yq-yx)=(yp-yx)*((xp-xx)*(xq-xx)+(yp-yx)*(yq-yx))+(xp-xx)*((xp-xx)*(yq-yx)-(yp-yx)*(xq-xx)):=by grind
  rw[this,f,c];grind
 have j:=(Re.Cd k1).resolve_left g;have l:=(Re.Cd k2).resolve_left g;exact⟨by grind,by grind⟩
theorem fP (he:e=true↔GO xp yp xq yq xx yx) (h:An (-(yq-yp)*(xx-xp)+(xq-xp)*(yx-yp))≠0):false=e:=by
 cases e
 ·rfl
 exact absurd (QI.1 (he.1 rfl)).1 h
theorem fQ {b:Bool} (he:e=true↔GO xp yp xq yq xx yx) (h:An (-(yq-yp)*(xx-xp)+(xq-xp)*(yx-yp))=0) (a:xp=xq/\yp=yq) (hb:b=true↔xp=xx/\yp=yx):b=e:=by
 rw[Bool.eq_iff_iff,he,hb,QI];exact⟨fun z=>⟨h,.inl ⟨a,z⟩⟩,fun z=>z.2.elim (·.2) fun y=>absurd a y.1⟩
theorem fR (he:e=true↔GO xp yp xq yq xx yx) (h:An (-(yq-yp)*(xx-xp)+(xq-xp)*(yx-yp))=0) (a:¬(xp=xq/\yp=yq)):decide (An ((xp-xx)*(xq-xx)+(yp-yx)*(yq-yx))<=0)=e:=by
 rw[Bool.eq_iff_iff,he,decide_eq_true_eq,QI];exact⟨fun z=>⟨h,.inr ⟨a,z⟩⟩,fun z=>z.2.elim (fun y=>absurd y.1 a) (·.2)⟩
theorem oX (F:Fd TT w) {J:Nat} {Z:Bool} (D:Vm TT w 1950000 kp kp Av As Aw Au xp yp) (G:Vm TT w 1950000 kq kq Ay Ax BF BE xq yq) (h:Vm TT w 1950000 J J BX BU Ba BZ xx yx) (f:Z=true↔GO xp yp xq yq xx yx) (hM:4*kp+2*kq+4*J+443<=80000):CF 43 [.agg (Af Av As Aw Au),.agg (Af Ay Ax BF BE),.agg (Af BX BU Ba BZ)] (.one (.bool Z)):=by
 obtain⟨s1,b⟩:∃z,z=An (-(yq-yp)*(xx-xp)+(xq-xp)*(yx-yp)):=⟨_,rfl⟩
 obtain⟨R,K,r,i⟩:=F9 F D.x h.x;obtain⟨S,L,s,j⟩:=F9 F G.x h.x;obtain⟨T,M,t,k⟩:=Jw F r s;obtain⟨U,N,u,l⟩:=F9 F D.y h.y;obtain⟨V,O,v,m⟩:=F9 F G.y h.y;obtain⟨W,P,A,n⟩:=Jw F u v;obtain⟨X,Q,B,o⟩:=Uz F t A;obtain⟨a1,g,Y,p⟩:=Gn F B;have I:=g;obtain⟨b1,d⟩:=Dv (xp=xq/\yp=yq);obtain⟨b2,C⟩:=Dv (xp=xx/\yp=yx);refine CJ Tryz.func43 fun E a=>?_
 conv=>cbv
 refine AB a (Mr F D G h b (by omega)) ?_;conv=>cbv
 refine AU ?_;conv=>cbv
 intro n22 q;conv=>cbv
 cases n22 <;> conv=>cbv
 ·have c:=Co q;refine Am 25 1 a i ?_;try conv=>cbv
  refine Am 25 1 a j ?_;try conv=>cbv
  refine Am 25 1 a k ?_;try conv=>cbv
  refine Am 25 1 a l ?_;try conv=>cbv
  refine Am 25 1 a m ?_;try conv=>cbv
  refine Am 25 1 a n ?_;try conv=>cbv
  refine Am 25 1 a o ?_;try conv=>cbv
  refine BG ?_;refine AB a (Jb F D G (by omega) (by omega) (by omega) (by omega) d) ?_;conv=>cbv
  cases b1 <;> conv=>cbv
  ·refine Bc ?_;conv=>cbv
   refine AB a p ?_;conv=>cbv
   intro a2 H;conv=>cbv
   exact AD ⟨⟨rfl,congrArg _ (by rw[H,I];exact (fR f (by rw[<-b];exact c) (fun z=>absurd (d.2 z) (by decide))).symm),trivial⟩,trivial⟩
  refine AB a (Jb F D h (by omega) (by omega) (by omega) (by omega) C) ?_;conv=>cbv
  exact AD ⟨⟨rfl,congrArg _ ((fQ f (by rw[<-b];exact c) (d.1 rfl) C).symm),trivial⟩,trivial⟩
 have c:=Cp q;exact AD ⟨⟨rfl,congrArg _ ((fP f (by rw[<-b];exact c)).symm),trivial⟩,trivial⟩
theorem Rh (F:Fd TT w) {G H:List LR} {C D:LR} {y z:Re} {kd:Nat} (hp:Vm TT w 1950000 kp kp Av As Aw Au xp yp) (hq:Vm TT w 1950000 kq kq Ay Ax BF BE xq yq) (hr:Vm TT w 1950000 kr kr BX BU Ba BZ xr yr) (hd:Vm TT w 1950000 kd kd G C H D y z) (h1:An (-(yq-yp)*(xr-xp)+(xq-xp)*(yr-yp))=1) (ao:sn=An (((xp-y)*(xp-y)+(yp-z)*(yp-z))*(-(yq-z)*(xr-y)+(xq-y)*(yr-z))+((xq-y)*(xq-y)+(yq-z)*(yq-z))*(-(yr-z)*(xp-y)+(xr-y)*(yp-z))+((xr-y)*(xr-y)+(yr-z)*(yr-z))*(-(yp-z)*(xq-y)+(xp-y)*(yq-z)))) (hM:24*kd+8*kp+8*kq+8*kr+160<=80000):CF 140 [.agg (Af Av As Aw Au),.agg (Af Ay Ax BF BE),.agg (Af BX BU Ba BZ),.agg (Af G C H D)] (.AG [(false,[.int .i64 sn]),(false,[.int .i64 0])]):=by
 obtain⟨h,a,i,b,s,o,I,aa,W⟩:=L6 F hp hd (by omega);obtain⟨j,c,l,d,t,q,J,ab,X⟩:=L6 F hq hd (by omega);obtain⟨m,f,n,g,u,r,K,ad,Y⟩:=L6 F hr hd (by omega);obtain⟨O,L,ae⟩:=Ii F (p:=((0:Int):Rat)) (by decide +kernel);obtain⟨aw,ar,af,Z⟩:=Rj F aa J K (by omega);obtain⟨S,P,ag,a1,az⟩:=HN F ae af;obtain⟨ax,au,ah,a2⟩:=Rj F ab K I (by omega);obtain⟨T,Q,ai,a5,aA⟩:=HN F ag ah;obtain⟨ay,av,aj,a6⟩:=Rj F ad I J (by omega);obtain⟨U,R,ak,a7,aB⟩:=HN F ai aj;obtain⟨al,N,a8,aC⟩:=Gn F ak;obtain rfl:sn=al:=ao.trans ((congrArg An (by rw[show Re.ofRat ((0:Int):Rat)=0 from Re.Kd];grind)).trans N.symm);refine CJ Tryz.func140 fun E A=>?_
 conv=>cbv
 refine AB A (Ri F hp hq hr (sn:=1) h1.symm (by omega)) ?_;conv=>cbv
 refine AU ?_;conv=>cbv
 refine AU ?_;conv=>cbv
 refine AB A W ?_;conv=>cbv
 refine AB A X ?_;conv=>cbv
 refine AB A Y ?_;conv=>cbv
 refine AU ?_;conv=>cbv
 refine AU ?_;conv=>cbv
 refine AU ?_;conv=>cbv
 refine AB A (Jg (by decide) (F1 (by decide +kernel:B9 ((0:Int):Rat))) L) ?_;conv=>cbv
 refine⟨[((s,o),(((j,c),(l,d)),((m,f),(n,g)))),((t,q),(((m,f),(n,g)),((h,a),(i,b)))),((u,r),(((h,a),(i,b)),((j,c),(l,d))))],fun _=>⟨rfl,by decide,rfl,⟨rfl,⟨rfl,rfl,rfl,rfl,rfl,rfl,rfl,rfl,rfl,rfl,trivial⟩,⟨rfl,⟨rfl,rfl,rfl,rfl,rfl,rfl,rfl,rfl,rfl,rfl,trivial⟩,⟨rfl,⟨rfl,rfl,rfl,rfl,rfl,rfl,rfl,rfl,rfl,rfl,trivial⟩,trivial⟩⟩⟩⟩,.inr ?_⟩;try conv=>cbv
 rintro aq ⟨an,f91⟩;conv=>cbv
 obtain rfl:aq=3:=an;refine .inr ?_;obtain⟨J0,B⟩:=xJ fun vs V k=>(vs=[.one (.sl (.pr At (.pr Ai Ai)) [((s,o),(((j,c),(l,d)),((m,f),(n,g)))),((t,q),(((m,f),(n,g)),((h,a),(i,b)))),((u,r),(((h,a),(i,b)),((j,c),(l,d))))]),.one (.int .i64 3),.one (.int .i64 0),.one (.Ab 21 0 0)]/\V=[.var 0 [.sl (.sl AA) ([]:List LR),.sl AA O]]/\k=3)\/(vs=[.one (.sl (.pr At (.pr Ai Ai)) [((s,o),(((j,c),(l,d)),((m,f),(n,g)))),((t,q),(((m,f),(n,g)),((h,a),(i,b)))),((u,r),(((h,a),(i,b)),((j,c),(l,d))))]),.one (.int .i64 3),.one (.int .i64 1),.one (.Ab 21 0 0)]/\V=[.var 0 [.sl (.sl AA) S,.sl AA P]]/\k=2)\/(vs=[.one (.sl (.pr At (.pr Ai Ai)) [((s,o),(((j,c),(l,d)),((m,f),(n,g)))),((t,q),(((m,f),(n,g)),((h,a),(i,b)))),((u,r),(((h,a),(i,b)),((j,c),(l,d))))]),.one (.int .i64 3),.one (.int .i64 2),.one (.Ab 21 0 0)]/\V=[.var 0 [.sl (.sl AA) T,.sl AA Q]]/\k=1)\/(vs=[.one (.sl (.pr At (.pr Ai Ai)) [((s,o),(((j,c),(l,d)),((m,f),(n,g)))),((t,q),(((m,f),(n,g)),((h,a),(i,b)))),((u,r),(((h,a),(i,b)),((j,c),(l,d))))]),.one (.int .i64 3),.one (.int .i64 3),.one (.Ab 21 0 0)]/\V=[.var 0 [.sl (.sl AA) U,.sl AA R]]/\k=0)
 refine⟨[],[90,91,92,21],[21],J0,⟨3,by rw[B];exact .inl ⟨rfl,rfl,rfl⟩⟩,?_⟩;intro vs V aD hj;rw[B] at hj;rcases hj with⟨rfl,rfl,M⟩ |⟨rfl,rfl,M⟩ |⟨rfl,rfl,M⟩ |⟨rfl,rfl,M⟩
 ·conv=>cbv
  refine Bc ?_;conv=>cbv
  refine .inr ?_;refine⟨((s,o),(((j,c),(l,d)),((m,f),(n,g)))),fun _=>⟨by omega,rfl⟩,?_⟩;try conv=>cbv
  refine AB A Z ?_;conv=>cbv
  refine AU ?_;conv=>cbv
  refine AB A a1 ?_;conv=>cbv
  refine AU ?_;conv=>cbv
  intro x v;conv=>cbv
  refine AI ?_;obtain rfl:x=1:=v;refine⟨2,?_,?_⟩
  ·omega
  rw[B];exact .inr (.inl ⟨rfl,rfl,rfl⟩)
 ·conv=>cbv
  refine Bc ?_;conv=>cbv
  refine .inr ?_;refine⟨((t,q),(((m,f),(n,g)),((h,a),(i,b)))),fun _=>⟨by omega,rfl⟩,?_⟩;try conv=>cbv
  refine AB A a2 ?_;conv=>cbv
  refine AU ?_;conv=>cbv
  refine AB A a5 ?_;conv=>cbv
  refine AU ?_;conv=>cbv
  intro x v;conv=>cbv
  refine AI ?_;obtain rfl:x=2:=v;refine⟨1,?_,?_⟩
  ·omega
  rw[B];exact .inr (.inr (.inl ⟨rfl,rfl,rfl⟩))
 ·conv=>cbv
  refine Bc ?_;conv=>cbv
  refine .inr ?_;refine⟨((u,r),(((h,a),(i,b)),((j,c),(l,d)))),fun _=>⟨by omega,rfl⟩,?_⟩;try conv=>cbv
  refine AB A a6 ?_;conv=>cbv
  refine AU ?_;conv=>cbv
  refine AB A a7 ?_;conv=>cbv
  refine AU ?_;conv=>cbv
  intro x v;conv=>cbv
  refine AI ?_;obtain rfl:x=3:=v;refine⟨0,?_,?_⟩
  ·omega
  rw[B];exact .inr (.inr (.inr ⟨rfl,rfl,rfl⟩))
 conv=>cbv
 refine AU ?_;conv=>cbv
 refine AB A a8 ?_;conv=>cbv
 exact AD ⟨t2,t2,trivial⟩
end Go.Abs
