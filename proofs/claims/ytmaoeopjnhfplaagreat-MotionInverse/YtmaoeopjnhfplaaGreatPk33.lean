/- Part 34 of a proof. Conditions: each theorem's own. -/
import Derived.Test.YtmaoeopjnhfplaaGreatPk31
import Derived.Test.YtmaoeopjnhfplaaGreatPk32
set_option linter.all false
set_option maxHeartbeats 8000000
set_option maxRecDepth 20000
open Go.Proofs
namespace Go.Abs
open Go.RowKit
variable {IS IT IU IV AK AN AO AT At BD BT BV Bj Bq Bp:LR} {P TT:List (List Rat)->Prop} {T21 Ia Ib Ic AL AM AP AU Aw BE Ba BW Bm Bw Bu:List LR} {V:List Re} {c f i j p q vi xa xb xp xq xw ya yb yp yq yw:Re} {ka kb ki kp kq kw:Nat} {mr:Bool} {w w0:List (List Rat)}
theorem oP {a b:Re} (h:(a*a+b*b)*j=1):(-b* -b-a*a)*j*((-b* -b-a*a)*j)+(-b*a+a* -b)*j*((-b*a+a* -b)*j)=1:=by
 have:(-b* -b-a*a)*j*((-b* -b-a*a)*j)+(-b*a+a* -b)*j*((-b*a+a* -b)*j)=(a*a+b*b)*j*((a*a+b*b)*j):=by grind
 rw[this,h];grind
theorem qp (L:Pl P V w0) (ha:∀{b k:Nat},227018<=k*b->Vm (Tf P) w0 b k k T21 IS Ia IT xa ya) (hb:∀{b k:Nat},227018<=k*b->Vm (Tf P) w0 b k k Ib IU Ic IV xb yb) (B:¬(xb=0/\yb=0)):∃n,0<n/\(∃k T A,k<=167/\Nm (Tf P) w0 11500 k T A n)/\∃T1 A1 T2 A2 T3 A3 T4 A4 xu yu xt yt,Vm (Tf (P4 P n)) (Aj w0 n) 1950000 27 27 T1 A1 T2 A2 xu yu/\Vm (Tf (P4 P n)) (Aj w0 n) 1950000 61 61 T3 A3 T4 A4 xt yt/\xu*xu+yu*yu=1/\CF 73 [.agg (AD T21 IS Ia IT),.agg (AD Ib IU Ic IV)] (.agg (BQ T1 A1 T2 A2 T3 A3 T4 A4 false)):=by
 have a:=hb (b:=11500) (k:=20) (by decide);have y:=L.fe;obtain⟨_,_,d,_⟩:=GF y a;obtain⟨n,h⟩:∃z,z=xb*xb+yb*yb:=⟨_,rfl⟩
 rw[<-h] at d;have g:0<=n:=by rw[h];exact SH xb yb
 have l:n≠0:=by rw[h];exact Jh B
 obtain⟨u,x,m⟩:=rv g l;have o:=d;obtain⟨F,U,C,s⟩:=Mc L d (by decide) g;obtain⟨G,D,s⟩:=s l;have t:=U.v (by decide) (by decide) (ha (b:=11500) (k:=20) (by decide));have r:=U.v (by decide) (by decide) a;obtain⟨T1,A1,T2,A2,T3,A3,T4,A4,hu,ht,c⟩:=qW F t r s y a h.symm C (by decide) (by decide) u x;refine⟨n,by grind,⟨_,_,_,by decide,o⟩,T1,A1,T2,A2,T3,A3,T4,A4,_,_,_,_,hu.mono (by omega) (by omega),ht.mono (by omega) (by omega),?_,c⟩;rw[h] at m ⊢;exact qs m
theorem RZ {b b' k l l':Nat} {T1 T2:List LR} {A1 A2:LR} {x y:Re} (h:Nm TT w b k T1 A1 x) (d:Nm TT w b' l T2 A2 y) (e:x=y) (o:l*b'<=l'*b:=by omega):Nm TT w b l' T1 A1 y:=by
 obtain⟨u,a,n,m,r,_⟩:=h;obtain⟨_,_,_,_,_,g⟩:=d;subst e;exact⟨u,a,n,m,r,g.mono o⟩
theorem ag (a:f*i=1):(-(q*i)* -(q*i)- -p*i*(-p*i))*(f*f*j)=(q*q-p*p)*j:=by
 have:(-(q*i)* -(q*i)- -p*i*(-p*i))*(f*f*j)=(q*q-p*p)*j*(f*i)*(f*i):=by grind
 rw[this,a];grind
theorem ah (a:f*i=1):(-(q*i)*(-p*i)+ -p*i* -(q*i))*(f*f*j)=(q*p+q*p)*j:=by
 have:(-(q*i)*(-p*i)+ -p*i* -(q*i))*(f*f*j)=(q*p+q*p)*j*(f*i)*(f*i):=by grind
 rw[this,a];grind
theorem oQ (b:f*i=1) (a:(-p*i*(-p*i)+q*i*(q*i))*(f*f*j)=1): -p*i*(f*f*j)*(i*c)-((-(q*i)* -(q*i)- -p*i*(-p*i))*(f*f*j)*(-p*i*(f*f*j)*(i*c))-(-(q*i)*(-p*i)+ -p*i* -(q*i))*(f*f*j)* -(q*i*(f*f*j)*(i*c)))=(-p*c+ -p*c)*j:=by
 rw[<-oS a (rfl:(1:Re)+1=1+1)];have:(1+1)*(f*f*j)*(-p*i*(i*c))=(-p*c+ -p*c)*j*(f*i)*(f*i):=by grind
 rw[this,b];grind
theorem oR (b:f*i=1) (a:(-p*i*(-p*i)+q*i*(q*i))*(f*f*j)=1):q*i*(f*f*j)*(i*c)-((-(q*i)* -(q*i)- -p*i*(-p*i))*(f*f*j)* -(q*i*(f*f*j)*(i*c))+(-(q*i)*(-p*i)+ -p*i* -(q*i))*(f*f*j)*(-p*i*(f*f*j)*(i*c)))=(q*c+q*c)*j:=by
 rw[<-oT a (rfl:(1:Re)+1=1+1)];have:(1+1)*(f*f*j)*(q*i*(i*c))=(q*c+q*c)*j*(f*i)*(f*i):=by grind
 rw[this,b];grind
theorem oM (L:Pl P V w0) (ha:∀{b k:Nat},227018<=k*b->Vm (Tf P) w0 b k k T21 IS Ia IT xa ya) (hb:∀{b k:Nat},227018<=k*b->Vm (Tf P) w0 b k k Ib IU Ic IV xb yb) (h:¬(xa=xb/\ya=yb)):∃T1 A1 T2 A2 T3 A3 T4 A4 xu yu xt yt,Vm (Tf P) w0 1950000 24 24 T1 A1 T2 A2 xu yu/\Vm (Tf P) w0 1950000 25 25 T3 A3 T4 A4 xt yt/\xu*xu+yu*yu=1/\∃T5 A5 T6 A6 T7 A7,CF 75 [.agg (AD T21 IS Ia IT),.agg (AD Ib IU Ic IV)] (.agg (AS T5 A5 T6 A6 T7 A7))/\CF 74 [.agg (AS T5 A5 T6 A6 T7 A7)] (.agg (BQ T1 A1 T2 A2 T3 A3 T4 A4 true)):=by
 have F:=L.fd;have a:=L.fe;have r:=ha (b:=1950000) (k:=1) (by decide);have s:=hb (b:=1950000) (k:=1) (by decide);have u:=ha (b:=11500) (k:=20) (by decide);have g1:=hb (b:=11500) (k:=20) (by decide);obtain⟨_,_,f,i,T5,A5,T6,A6,T7,A7,g,H,o,A,J⟩:=qO F r s h;have l: -(yb-ya)* -(yb-ya)+(xb-xa)*(xb-xa)≠0:=Jh (fun z=>h ⟨by grind,by grind⟩);obtain⟨_,_,_,_,O,_⟩:=Dm F s r;obtain⟨_,R,_⟩:=Nb F O;obtain⟨_,_,C,_⟩:=GF F R;obtain⟨_,_,B,_⟩:=CN F H H;obtain⟨_,_,Q,_⟩:=DE F B C (d:=728) (by omega) l;have n:=oN g (F6 l);have v:=oO n;obtain⟨T1,A1,T2,A2,T3,A3,T4,A4,hu,ht,K⟩:=qT F o.x o.y A Q v n;obtain⟨_,_,_,_,m,_⟩:=Dm a g1 u
 obtain⟨_,t,_⟩:=Nb a m;obtain⟨_,_,eq,_⟩:=GF a t;obtain⟨_,_,e1,_⟩:=CN a m.x m.x;obtain⟨_,_,e2,_⟩:=CN a m.y m.y;obtain⟨_,_,M,_⟩:=DM a e1 e2;obtain⟨_,_,U,_⟩:=DE a M eq (d:=3855) (by decide) l;obtain⟨_,_,G,_⟩:=CN a m.x m.y;obtain⟨_,_,N,_⟩:=EU a G G;obtain⟨_,_,W,_⟩:=DE a N eq (d:=3855) (by decide) l;obtain⟨_,_,c1,_⟩:=CN a t.x u.x;obtain⟨_,_,c2,_⟩:=CN a m.x u.y;obtain⟨_,_,D,_⟩:=EU a c1 c2;obtain⟨_,_,s1,_⟩:=CN a t.x D;obtain⟨_,_,s2,_⟩:=EU a s1 s1;obtain⟨_,_,T,_⟩:=DE a s2 eq (d:=3855) (by decide) l
 obtain⟨_,_,I,_⟩:=CN a m.x D;obtain⟨_,_,S,_⟩:=EU a I I;obtain⟨_,_,ty,_⟩:=DE a S eq (d:=3855) (by decide) l;have hc: -(yb-ya)*i*xa+(xb-xa)*i*ya=i*(-(yb-ya)*xa+(xb-xa)*ya):=by grind
 have v1:=RZ hu.x U (ag g) (l':=24);have v2:=RZ hu.y W (ah g) (l':=24);have v3:=RZ ht.x T (by rw[hc];exact oQ g n) (l':=25);have v4:=RZ ht.y ty (by rw[hc];exact oR g n) (l':=25);refine⟨T1,A1,T2,A2,T3,A3,T4,A4,_,_,_,_,⟨v1,v2⟩,⟨v3,v4⟩,?_,T5,A5,T6,A6,T7,A7,J,K⟩;rw[<-ag g,<-ah g];exact oP n
theorem aV (F:Fd TT w) (ha:Vm TT w 1950000 ka ka AL AK AM AN xa ya) (hb:Vm TT w 1950000 kb kb AP AO AU AT xb yb) (hp:Vm TT w 1950000 kp kp Aw At BE BD xp yp) (hq:Vm TT w 1950000 kq kq Ba BT BW BV xq yq) (hw:Vm TT w 1950000 kw kw Bm Bj Bw Bq xw yw) (hi:Nm TT w 1950000 ki Bu Bp vi) (ag:xq-xp=xw) (ah:yq-yp=yw) (hn:(xb-xa)*(xb-xa)+(yb-ya)*(yb-ya)≠0) (hf:(xb-xa)*(xb-xa)+(yb-ya)*(yb-ya)=(xq-xp)*(xq-xp)+(yq-yp)*(yq-yp)) (h:((xb-xa)*(xb-xa)+(yb-ya)*(yb-ya))*vi=1) (hM:190*ka+190*kb+2*ki+kp+kq+8*kw+468<=80000:=by omega):∃U0 B0 H B U1 B1 I C,Vm TT w 1950000 (2*ka+2*kb+ki+2*kw+6) (2*ka+2*kb+ki+2*kw+6) U0 B0 H B (((xb-xa)*(xq-xp)+(yb-ya)*(yq-yp))*vi) ((-(yb-ya)*(xq-xp)+(xb-xa)*(yq-yp))*vi)/\Vm TT w 1950000 (6*ka+4*kb+2*ki+kp+4*kw+16) (6*ka+4*kb+2*ki+kp+4*kw+16) U1 B1 I C (xp-(((((xb-xa)*(xq-xp)+(yb-ya)*(yq-yp))*vi)*xa)-(((-(yb-ya)*(xq-xp)+(xb-xa)*(yq-yp))*vi)*ya))) (yp-((((-(yb-ya)*(xq-xp)+(xb-xa)*(yq-yp))*vi)*xa)+((((xb-xa)*(xq-xp)+(yb-ya)*(yq-yp))*vi)*ya)))/\CF 22 [.agg (AD AL AK AM AN),.agg (AD AP AO AU AT),.agg (AD Aw At BE BD),.agg (AD Ba BT BW BV),.one (.bool false)] (.AI [(true,(BQ U0 B0 H B U1 B1 I C false)),(false,[.int .i64 0])]):=by
 obtain⟨ax,aj,ay,ak,a,K⟩:=Dm F hb ha;obtain⟨az,al,aA,an,Y,L⟩:=Dm F hq hp;have b:=Y.shrink hw (ag) (ah);obtain⟨aB,ao,d,M⟩:=GD F a a;obtain⟨aC,aq,Z,N⟩:=GD F b b;obtain⟨af,u,O,aJ⟩:=Ci F d;have v:af≠0:=fun z=>hn (FV.1 (u.symm.trans z))
 obtain⟨J,t,Q,aK⟩:=EK F d Z;obtain rfl:J=true:=t.2 hf;obtain⟨aD,ar,o,R⟩:=GD F a b;obtain⟨aE,au,a1,aH,aL⟩:=CN F o hi;obtain⟨m,k,a2,S⟩:=JY F o d hn;have a5:=a2.shrink a1 (F7 h);have a6:=a5.cast (y:=((xb-xa)*(xq-xp)+(yb-ya)*(yq-yp))*vi) (F7 h);obtain⟨aF,av,r,T⟩:=Na F a b;obtain⟨aG,aw,a7,aI,aM⟩:=CN F r hi;obtain⟨n,l,a8,U⟩:=JY F r d hn;have aa:=a8.shrink a7 (F7 h);have ab:=aa.cast (y:=(-(yb-ya)*(xq-xp)+(xb-xa)*(yq-yp))*vi) (F7 h);have s:Vm _ w 1950000 (2*ka+2*kb+ki+2*kw+6) (2*ka+2*kb+ki+2*kw+6) m k n l _ _:=⟨a6.mono (by omega),ab.mono (by omega)⟩;obtain⟨D,x,G,A,ad,W⟩:=RN F s ha hp
 refine⟨m,k,n,l,D,x,G,A,s.mono (by omega) (by omega),ad.mono (by omega) (by omega),?_⟩;refine AZ Tryz.func22 fun E g=>?_
 conv=>cbv
 refine AW 19 1 g (F8 K) ?_;try conv=>cbv
 refine AW 19 1 g (F8 L) ?_;try conv=>cbv
 refine BB ?_;refine AW 19 1 g (G5 M) ?_;try conv=>cbv
 refine AW 19 1 g (G5 N) ?_;try conv=>cbv
 refine BB ?_;refine AR ?_;conv=>cbv
 refine AB g O ?_;conv=>cbv
 intro ai X;conv=>cbv
 cases ai <;> conv=>cbv
 ·have ae:=BR X;refine AB g Q ?_;conv=>cbv
  refine AR ?_;conv=>cbv
  refine .inr ?_;refine AW 19 1 g (G5 R) ?_;try conv=>cbv
  refine AW 19 1 g S ?_;try conv=>cbv
  refine AW 19 1 g (G5 T) ?_;try conv=>cbv
  refine AW 19 1 g U ?_;try conv=>cbv
  refine BB ?_;refine AW 19 1 g W ?_;try conv=>cbv
  exact AF ⟨⟨rfl,rfl,rfl,rfl,rfl,rfl,rfl,rfl,rfl,rfl,trivial⟩,t2,trivial⟩
 have ae:=BS X;exact absurd ae v
theorem aW (F:Fd TT w) (ha:Vm TT w 1950000 ka ka AL AK AM AN xa ya) (hb:Vm TT w 1950000 kb kb AP AO AU AT xb yb) (hp:Vm TT w 1950000 kp kp Aw At BE BD xp yp) (hq:Vm TT w 1950000 kq kq Ba BT BW BV xq yq) (hw:Vm TT w 1950000 kw kw Bm Bj Bw Bq xw yw) (hi:Nm TT w 1950000 ki Bu Bp vi) (aq:xq-xp=xw) (ar:yq-yp=yw) (hn:(xb-xa)*(xb-xa)+(yb-ya)*(yb-ya)≠0) (hf:(xb-xa)*(xb-xa)+(yb-ya)*(yb-ya)=(xq-xp)*(xq-xp)+(yq-yp)*(yq-yp)) (h:((xb-xa)*(xb-xa)+(yb-ya)*(yb-ya))*vi=1) (hM:190*ka+190*kb+2*ki+kp+kq+8*kw+468<=80000:=by omega):∃U0 B0 N H U1 B1 O I,Vm TT w 1950000 (2*ka+2*kb+ki+2*kw+6) (2*ka+2*kb+ki+2*kw+6) U0 B0 N H (((xb-xa)*(xq-xp)+(-(yb-ya))*(yq-yp))*vi) ((-(-(yb-ya))*(xq-xp)+(xb-xa)*(yq-yp))*vi)/\Vm TT w 1950000 (6*ka+4*kb+2*ki+kp+4*kw+16) (6*ka+4*kb+2*ki+kp+4*kw+16) U1 B1 O I (xp-(((((xb-xa)*(xq-xp)+(-(yb-ya))*(yq-yp))*vi)*xa)-(((-(-(yb-ya))*(xq-xp)+(xb-xa)*(yq-yp))*vi)*(-ya)))) (yp-((((-(-(yb-ya))*(xq-xp)+(xb-xa)*(yq-yp))*vi)*xa)+((((xb-xa)*(xq-xp)+(-(yb-ya))*(yq-yp))*vi)*(-ya))))/\CF 22 [.agg (AD AL AK AM AN),.agg (AD AP AO AU AT),.agg (AD Aw At BE BD),.agg (AD Ba BT BW BV),.one (.bool true)] (.AI [(true,(BQ U0 B0 N H U1 B1 O I true)),(false,[.int .i64 0])]):=by
 obtain⟨J,B,K,av,a,R⟩:=Dm F hb ha;obtain⟨aE,aw,aF,ax,a8,S⟩:=Dm F hq hp;have b:=a8.shrink hw (aq) (ar);obtain⟨aG,ay,d,T⟩:=GD F a a;obtain⟨aH,az,aa,U⟩:=GD F b b;obtain⟨ao,v,W,aO⟩:=Ci F d;have A:ao≠0:=fun z=>hn (FV.1 (v.symm.trans z))
 obtain⟨Q,u,X,aP⟩:=EK F d aa;obtain rfl:Q=true:=u.2 hf;obtain⟨C,ab,Y,aQ⟩:=FK F a.y;have o:Vm _ w 1950000 (ka+kb+1) (ka+kb+1) J B K C _ _:=⟨a.x.mono (by omega),ab.mono (by omega)⟩;obtain⟨aI,aA,r,Z⟩:=GD F o b;obtain⟨aJ,aB,ad,aM,aR⟩:=CN F r hi;obtain⟨m,k,ae,a1⟩:=JY F r d hn;have af:=ae.shrink ad (F7 h);have ag:=af.cast (y:=((xb-xa)*(xq-xp)+(-(yb-ya))*(yq-yp))*vi) (F7 h);obtain⟨aK,aC,s,a2⟩:=Na F o b;obtain⟨aL,aD,ah,aN,aS⟩:=CN F s hi;obtain⟨n,l,ai,a5⟩:=JY F s d hn;have aj:=ai.shrink ah (F7 h);have ak:=aj.cast (y:=(-(-(yb-ya))*(xq-xp)+(xb-xa)*(yq-yp))*vi) (F7 h)
 have t:Vm _ w 1950000 (2*ka+2*kb+ki+2*kw+6) (2*ka+2*kb+ki+2*kw+6) m k n l _ _:=⟨ag.mono (by omega),ak.mono (by omega)⟩;obtain⟨L,D,M,G,al,a6⟩:=aX F t ha hp;refine⟨m,k,n,l,L,D,M,G,t.mono (by omega) (by omega),al.mono (by omega) (by omega),?_⟩;refine AZ Tryz.func22 fun E g=>?_
 conv=>cbv
 refine AW 19 1 g (F8 R) ?_;try conv=>cbv
 refine AW 19 1 g (F8 S) ?_;try conv=>cbv
 refine BB ?_;refine AW 19 1 g (G5 T) ?_;try conv=>cbv
 refine AW 19 1 g (G5 U) ?_;try conv=>cbv
 refine BB ?_;refine AR ?_;conv=>cbv
 refine AB g W ?_;conv=>cbv
 intro au a7;conv=>cbv
 cases au <;> conv=>cbv
 ·have an:=BR a7;refine AB g X ?_;conv=>cbv
  refine AR ?_;conv=>cbv
  refine .inr ?_;refine AB g Y ?_;conv=>cbv
  refine AW 19 1 g (G5 Z) ?_;try conv=>cbv
  refine AW 19 1 g a1 ?_;try conv=>cbv
  refine AW 19 1 g (G5 a2) ?_;try conv=>cbv
  refine AW 19 1 g a5 ?_;try conv=>cbv
  refine BB ?_;refine AW 19 1 g a6 ?_;try conv=>cbv
  exact AF ⟨⟨rfl,rfl,rfl,rfl,rfl,rfl,rfl,rfl,rfl,rfl,trivial⟩,t2,trivial⟩
 have an:=BS a7;exact absurd an A
theorem RM (F:Fd TT w) (ha:Vm TT w 1950000 ka ka AL AK AM AN xa ya) (hb:Vm TT w 1950000 kb kb AP AO AU AT xb yb) (L:Vm TT w 1950000 kp kp Aw At BE BD xp yp) (M:Vm TT w 1950000 kq kq Ba BT BW BV xq yq) (hw:Vm TT w 1950000 kw kw Bm Bj Bw Bq xw yw) (t:xq-xp=xw) (u:yq-yp=yw) (K:(xb-xa)*(xb-xa)+(yb-ya)*(yb-ya)=0) (N:4*ka+4*kb+kp+kq+2*kw+118<=80000:=by omega):CF 22 [.agg (AD AL AK AM AN),.agg (AD AP AO AU AT),.agg (AD Aw At BE BD),.agg (AD Ba BT BW BV),.one (.bool mr)] (.AI [(true,[.nil,.nil,.nil,.nil,.nil,.nil,.nil,.nil,.bool false]),(false,[.int .i64 1])]):=by
 obtain⟨Bu,Bp,B,v,a,g⟩:=Dm F hb ha;obtain⟨C,x,D,y,n,h⟩:=Dm F M L;have b:=n.shrink hw (t) (u);obtain⟨G,z,o,k⟩:=GD F a a;obtain⟨H,A,J,l⟩:=GD F b b;obtain⟨s,d,m,I⟩:=Ci F o;obtain rfl:s=0:=d.trans (by rw[K];exact GA);refine AZ Tryz.func22 fun E r=>?_
 conv=>cbv
 refine AW 19 1 r (F8 g) ?_;try conv=>cbv
 refine AW 19 1 r (F8 h) ?_;try conv=>cbv
 refine BB ?_;refine AW 19 1 r (G5 k) ?_;try conv=>cbv
 refine AW 19 1 r (G5 l) ?_;try conv=>cbv
 refine BB ?_;refine AR ?_;conv=>cbv
 refine AB r m ?_;conv=>cbv
 refine BM ?_;conv=>cbv
 exact AF ⟨⟨rfl,.inl rfl,.inl rfl,.inl rfl,.inl rfl,.inl rfl,.inl rfl,.inl rfl,.inl rfl,rfl,trivial⟩,t2,trivial⟩
theorem RK (F:Fd TT w) (ha:Vm TT w 1950000 ka ka AL AK AM AN xa ya) (hb:Vm TT w 1950000 kb kb AP AO AU AT xb yb) (X:Vm TT w 1950000 kp kp Aw At BE BD xp yp) (Y:Vm TT w 1950000 kq kq Ba BT BW BV xq yq) (hw:Vm TT w 1950000 kw kw Bm Bj Bw Bq xw yw) (C:xq-xp=xw) (D:yq-yp=yw) (W:(xb-xa)*(xb-xa)+(yb-ya)*(yb-ya)≠0) (U:¬((xb-xa)*(xb-xa)+(yb-ya)*(yb-ya)=(xq-xp)*(xq-xp)+(yq-yp)*(yq-yp))) (Z:8*ka+8*kb+kp+kq+8*kw+457<=80000:=by omega):CF 22 [.agg (AD AL AK AM AN),.agg (AD AP AO AU AT),.agg (AD Aw At BE BD),.agg (AD Ba BT BW BV),.one (.bool mr)] (.AI [(true,[.nil,.nil,.nil,.nil,.nil,.nil,.nil,.nil,.bool false]),(false,[.int .i64 1])]):=by
 obtain⟨Bu,Bp,M,H,a,n⟩:=Dm F hb ha;obtain⟨N,I,O,J,x,o⟩:=Dm F Y X;have b:=x.shrink hw (C) (D);obtain⟨Q,K,d,r⟩:=GD F a a;obtain⟨R,L,y,s⟩:=GD F b b;obtain⟨B,h,t,S⟩:=Ci F d;have k:B≠0:=fun z=>W (FV.1 (h.symm.trans z))
 obtain⟨m,g,u,T⟩:=EK F d y;obtain rfl:m=false:=Bool.eq_false_iff.2 fun z=>U (g.1 z)
 refine AZ Tryz.func22 fun E l=>?_
 conv=>cbv
 refine AW 19 1 l (F8 n) ?_;try conv=>cbv
 refine AW 19 1 l (F8 o) ?_;try conv=>cbv
 refine BB ?_;refine AW 19 1 l (G5 r) ?_;try conv=>cbv
 refine AW 19 1 l (G5 s) ?_;try conv=>cbv
 refine BB ?_;refine AR ?_;conv=>cbv
 refine AB l t ?_;conv=>cbv
 intro G v;conv=>cbv
 cases G <;> conv=>cbv
 ·have A:=BR v;refine AB l u ?_;conv=>cbv
  refine BM ?_;conv=>cbv
  exact AF ⟨⟨rfl,.inl rfl,.inl rfl,.inl rfl,.inl rfl,.inl rfl,.inl rfl,.inl rfl,.inl rfl,rfl,trivial⟩,t2,trivial⟩
 have A:=BS v;exact absurd A k
end Go.Abs
