/- Part 34 of a proof. Conditions: each theorem's own. -/
import Derived.Test.YtmhbikooakmagaaGreatRk30
import Derived.Test.YtmhbikooakmagaaGreatRk32
set_option linter.all false
set_option maxHeartbeats 8000000
set_option maxRecDepth 20000
open Go.Proofs
namespace Go.Abs
open Go.RowKit
theorem Mk {V:List Re} {ns:List Nu} (h:∀n∈ns,BP V n):∀n∈ns++ns.map DM,BP V n:=fun n a=>by
 rcases List.mem_append.1 a with a | a
 ·exact h n a
 obtain⟨m,hm,rfl⟩:=List.mem_map.1 a;exact (h m hm).trim
theorem aI {V:List Re} {ns:List Nu} {w:List (List Rat)} (L:Pl (PN (ns++ns.map DM)) V w) (h:∀n∈ns,BP V n) {n:Nu} (d:n∈ns\/n=F3):∃T A,(∀{b k:Nat},227018<=k*b->Nm (Tf (PN (ns++ns.map DM))) w b k T A n.2)/\
  CF 24 [.agg [.sl (.sl AA) (tw n.1),.sl AA (em n.1 n.2)]] (.agg [.sl (.sl AA) T,.sl AA A]):=by
 rcases d with d | rfl
 ·have a:=h n d;have i:=Nat.le_trans a.len L.h3;have ht:Ae 256 n.1:=⟨a.red,a.tb L.h3,by decide,by omega⟩;obtain⟨f,_,c⟩:=O9 a.red a.mem;have hm:DM n∈ns++ns.map DM:=List.mem_append_right _ (List.mem_map_of_mem d);refine⟨tw (DM n).1,em (DM n).1 (DM n).2,fun hb=>?_,?_⟩
  ·have:=IV L (Mk h) (.inl hm) hb;rw[c] at this;rw[c];exact this
  rw[c] at f;exact M0 ht (a.el L.h3) (by decide) (by omega) f rfl rfl rfl (by rw[c])
 refine⟨tw [],em [] 0,fun hb=>IV L (Mk h) (.inr rfl) hb,?_⟩;exact M0 (u:=[]) (wF:=[]) (x:=0) (R:=0) (s:=64) ⟨trivial,fun r g=>by simp at g,by decide,by decide⟩ (El.rat (q:=0) trivial (Ju (b:=64) (r:=0) (by decide +kernel) (Nat.le_refl 64))) (by decide) (by decide) rfl rfl rfl rfl rfl
theorem Rz {V:List Re} {ns:List Nu} {W:List UInt8} {w:List (List Rat)} (L:Pl (PN (ns++ns.map DM)) V w) (h:∀n∈ns,BP V n) {i:Nat} {x:el Ai} {Q:List (el Ai)} (c:Q=GK ns W) (a:Q[i]? =some x):∃X Y T1 A1 T2 A2,(∀{b k:Nat},227018<=k*b->Vm (Tf (PN (ns++ns.map DM))) w b k k x.1.1 x.1.2 x.2.1 x.2.2 X Y)/\
  (∀{b k:Nat},227018<=k*b->Vm (Tf (PN (ns++ns.map DM))) w b k k T1 A1 T2 A2 X Y)/\CF 24 [.agg [.sl (.sl AA) x.1.1,.sl AA x.1.2]] (.agg [.sl (.sl AA) T1,.sl AA A1])/\
  CF 24 [.agg [.sl (.sl AA) x.2.1,.sl AA x.2.2]] (.agg [.sl (.sl AA) T2,.sl AA A2]):=by
 unfold GK at c
 split at c
 ·rw[c,List.getElem?_map] at a;cases d:(FJ ns W)[i]? with
  | none=>rw[d] at a;simp at a
  | some p=>
   rw[d] at a;have e:vm p=x:=Option.some.inj a;obtain⟨m1,m2⟩:=Yl (List.mem_of_getElem? d);obtain⟨T1,A1,g1,c1⟩:=aI L h m1;obtain⟨T2,A2,g2,c2⟩:=aI L h m2;have z:∀{n:Nu},n∈ns\/n=F3->n∈ns++ns.map DM\/n=F3:=fun f=>f.imp (fun q=>List.mem_append_left _ q) (fun q=>q)
   rw[<-e];exact⟨p.1.2,p.2.2,T1,A1,T2,A2,fun hb=>⟨IV L (Mk h) (z m1) hb,IV L (Mk h) (z m2) hb⟩,fun hb=>⟨g1 hb,g2 hb⟩,c1,c2⟩
 subst c;simp at a
section
variable {x0 y0 x1 y1 x2 y2:Re}
theorem aH (f:(x1-x0)*(y2-y0)-(y1-y0)*(x2-x0)≠0):(x1-x0)*wX x0 y0 x1 y1 x2 y2+(y1-y0)*wY x0 y0 x1 y1 x2 y2+((x1-x0)*wX x0 y0 x1 y1 x2 y2+(y1-y0)*wY x0 y0 x1 y1 x2 y2)=(x1-x0)*(x1-x0)+(y1-y0)*(y1-y0)/\
  (x2-x0)*wX x0 y0 x1 y1 x2 y2+(y2-y0)*wY x0 y0 x1 y1 x2 y2+((x2-x0)*wX x0 y0 x1 y1 x2 y2+(y2-y0)*wY x0 y0 x1 y1 x2 y2)=(x2-x0)*(x2-x0)+(y2-y0)*(y2-y0):=by
 have hi:=Gh (JQ f);unfold wX wY
 generalize Ci ((x1-x0)*(y2-y0)-(y1-y0)*(x2-x0)+((x1-x0)*(y2-y0)-(y1-y0)*(x2-x0)))=i at*
 generalize x1-x0=a at*
 generalize y1-y0=b at*
 generalize x2-x0=c at*
 generalize y2-y0=d at*
 constructor
 ·have:a*a+b*b=(a*a+b*b)*((a*d-b*c+(a*d-b*c))*i):=by rw[hi];grind
  rw[this];grind
 have:c*c+d*d=(c*c+d*d)*((a*d-b*c+(a*d-b*c))*i):=by rw[hi];grind
 rw[this];grind
theorem aG (b:(x1-x0)*(y2-y0)-(y1-y0)*(x2-x0)≠0):x2+wX x2 y2 x0 y0 x1 y1=x0+wX x0 y0 x1 y1 x2 y2/\y2+wY x2 y2 x0 y0 x1 y1=y0+wY x0 y0 x1 y1 x2 y2:=by
 have hi:=Gh (JQ b);have e:(x0-x2)*(y1-y2)-(y0-y2)*(x1-x2)=(x1-x0)*(y2-y0)-(y1-y0)*(x2-x0):=by grind
 unfold wX wY;rw[e]
 generalize a:(x1-x0)*(y2-y0)-(y1-y0)*(x2-x0)=D at*
 generalize Ci (D+D)=i at*
 constructor
 ·have:x2=x0+(x2-x0)*((D+D)*i):=by rw[hi];grind
  rw[<-a] at this;grind
 have:y2=y0+(y2-y0)*((D+D)*i):=by rw[hi];grind
 rw[<-a] at this;grind
end
theorem fY {TT:List (List Rat)->Prop} {w:List (List Rat)} (F:Fd TT w) {Av Aw Ay BF BX Ba:List LR} {As Au Ax BE BU BZ:LR} {xp yp xq yq xr yr:Re} {kp kq kr:Nat} (x:Vm TT w 1950000 kp kp Av As Aw Au xp yp) (z:Vm TT w 1950000 kq kq Ay Ax BF BE xq yq) (A:Vm TT w 1950000 kr kr BX BU Ba BZ xr yr) (y:(xq-xp)*(yr-yp)-(yq-yp)*(xr-xp)=0) (B:4*kp+2*kq+2*kr+118<=80000):CF 53 [.agg (Af Av As Aw Au),.agg (Af Ay Ax BF BE),.agg (Af BX BU Ba BZ)] (.AG [(true,(EW [] [] [] [] [] [])),(false,[.int .i64 10])]):=by
 obtain⟨q,l,r,m,g,b⟩:=Hg F z x (by omega);obtain⟨s,n,t,o,h,c⟩:=Hg F A x (by omega);obtain⟨u,p,i,d⟩:=U7 F g h (by omega);obtain⟨j,a,f,v⟩:=Gn F i;obtain rfl:j=0:=a.trans (by rw[y];exact EZ);refine CJ Tryz.func53 fun E k=>?_
 conv=>cbv
 refine Am 17 1 k b ?_;try conv=>cbv
 refine Am 17 1 k c ?_;try conv=>cbv
 refine BG ?_;refine Am 17 1 k d ?_;try conv=>cbv
 refine AU ?_;conv=>cbv
 refine AB k f ?_;conv=>cbv
 refine Bc ?_;conv=>cbv
 exact AD ⟨⟨rfl,Bj,Bj,Bj,Bj,Bj,Bj,trivial⟩,t2,trivial⟩
theorem fS {TT:List (List Rat)->Prop} {w:List (List Rat)} (F:Fd TT w) {Av Aw Ay BF BX Ba:List LR} {As Au Ax BE BU BZ:LR} {xo yo xa ya u v:Re} {ko i q:Nat} (p:Vm TT w 1950000 ko ko Av As Aw Au xo yo) (ha:Vm TT w 1950000 i i Ay Ax BF BE xa ya) (ht:Vm TT w 1950000 q q BX BU Ba BZ u v) (t:¬(xo=xa/\yo=ya)) (cx:CF 24 [.agg (AR Av As)] (.agg (AR BX BU))) (s:CF 24 [.agg (AR Aw Au)] (.agg (AR Ba BZ))) (x:4*i+4*ko+443<=80000):∃o l,Nm TT w 1950000 (4*i+4*ko+7) o l (((xa-xo)*(xa-xo))+((ya-yo)*(ya-yo)))/\CF 55 [.agg (Af Av As Aw Au),.agg (Af Ay Ax BF BE)] (.AG [(true,(EW BX BU Ba BZ o l)),(false,[.int .i64 0])]):=by
 obtain⟨m,j,n,k,f,c⟩:=Hg F ha p (by omega);obtain⟨b,a,g,d⟩:=I8 F f (by omega);refine⟨b,a,g.mono (by omega),?_⟩;refine CJ Tryz.func55 fun E h=>?_
 conv=>cbv
 refine AB (r:= .one (.bool false)) h (PD F p ha (by omega) (by omega) (by omega) (by omega) (e:=false) ⟨fun z=>(by cases z),fun z=>absurd z t⟩) ?_;conv=>cbv
 refine AB h cx ?_;conv=>cbv
 refine AB h s ?_;conv=>cbv
 refine Am 13 1 h c ?_;try conv=>cbv
 refine Am 13 1 h d ?_;try conv=>cbv
 refine BG ?_;refine AU ?_;conv=>cbv
 exact AD ⟨⟨rfl,rfl,rfl,rfl,rfl,rfl,rfl,trivial⟩,t2,trivial⟩
theorem fT {TT:List (List Rat)->Prop} {w:List (List Rat)} (F:Fd TT w) {Av Aw Ay BF:List LR} {As Au Ax BE:LR} {xo yo xa ya:Re} {ko a:Nat} (d:Vm TT w 1950000 ko ko Av As Aw Au xo yo) (ha:Vm TT w 1950000 a a Ay Ax BF BE xa ya) (b:xo=xa/\yo=ya) (f:2*a+2*ko+443<=80000):CF 55 [.agg (Af Av As Aw Au),.agg (Af Ay Ax BF BE)] (.AG [(true,(EW [] [] [] [] [] [])),(false,[.int .i64 11])]):=by
 refine CJ Tryz.func55 fun E c=>?_
 conv=>cbv
 refine AB c (PD F d ha (by omega) (by omega) (by omega) (by omega) (e:=true) ⟨fun _=>b,fun _=>rfl⟩) ?_;conv=>cbv
 exact AD ⟨⟨rfl,Bj,Bj,Bj,Bj,Bj,Bj,trivial⟩,t2,trivial⟩
theorem eS {TT:List (List Rat)->Prop} {w:List (List Rat)} (F:Fd TT w) {Av Aw Ay BF BX Ba:List LR} {As Au Ax BE BU BZ:LR} {xo yo xa ya t u:Re} {ko r s:Nat} (q:Vm TT w 1950000 ko ko Av As Aw Au xo yo) (ha:Vm TT w 1950000 r r Ay Ax BF BE xa ya) (ht:Vm TT w 1950000 s s BX BU Ba BZ t u) (cx:CF 24 [.agg (AR Av As)] (.agg (AR BX BU))) (z:CF 24 [.agg (AR Aw Au)] (.agg (AR Ba BZ))) (A:4*r+4*ko+443<=80000):∃k b l d m f n g o i p j e,((e=0/\¬(xo=xa/\yo=ya)/\(Vm TT w 1950000 s s k b l d t u/\Nm TT w 1950000 (4*r+4*ko+7) m f (((xa-xo)*(xa-xo))+((ya-yo)*(ya-yo))))/\Vm TT w 1950000 ko ko n g o i xo yo/\Nm TT w 1950000 (4*r+4*ko+7) p j ((xo-xa)*(xo-xa)+(yo-ya)*(yo-ya)))\/(e=11/\xo=xa/\yo=ya))/\CF 55 [.agg (Af Av As Aw Au),.agg (Af Ay Ax BF BE)] (.AG [(true,(EW k b l d m f)),(false,[.int .i64 e])])/\CF 56 [.agg (Af Av As Aw Au),.agg (Af Ay Ax BF BE)] (.AG [(true,(EW n g o i p j)),(false,[.int .i64 e])]):=by
 by_cases a:xo=xa/\yo=ya
 ·exact⟨[],[],[],[],[],[],[],[],[],[],[],[],11,.inr ⟨rfl,a⟩,fT F q ha a (by omega),lI F q ha a (by omega)⟩
 obtain⟨U,B,h,c⟩:=fS F q ha ht a cx z (by omega);obtain⟨x,v,h',y⟩:=lH F q ha a (by omega);exact⟨_,_,_,_,U,B,_,_,_,_,x,v,0,.inl ⟨rfl,a,⟨ht,h⟩,q,h'⟩,c,y⟩
theorem nq {TT:List (List Rat)->Prop} {w:List (List Rat)} (F:Fd TT w) {Av Aw Ay BF BX Ba:List LR} {As Au Ax BE BU BZ:LR} {xp yp xq yq xr yr:Re} {kp kq kr:Nat} (s:Vm TT w 1950000 kp kp Av As Aw Au xp yp) (t:Vm TT w 1950000 kq kq Ay Ax BF BE xq yq) (u:Vm TT w 1950000 kr kr BX BU Ba BZ xr yr) (J:1544*kp+772*kq+772*kr+3105<=80000):∃m b n f o i p j q k r l e,((e=0/\(xq-xp)*(yr-yp)-(yq-yp)*(xr-xp)≠0/\(Vm TT w 1950000 (387*kp+193*kq+193*kr+749) (387*kp+193*kq+193*kr+749) m b n f (xp+(wX xp yp xq yq xr yr)) (yp+(wY xp yp xq yq xr yr))/\Nm TT w 1950000 (1544*kp+772*kq+772*kr+2995) o i (((wX xp yp xq yq xr yr)*(wX xp yp xq yq xr yr))+((wY xp yp xq yq xr yr)*(wY xp yp xq yq xr yr))))/\Vm TT w 1950000 (199*kp+99*kq+99*kr+467) (199*kp+99*kq+99*kr+467) p j q k (xp+(wX xp yp xq yq xr yr)) (yp+(wY xp yp xq yq xr yr))/\Nm TT w 1950000 (792*kp+396*kq+396*kr+1867) r l ((wX xp yp xq yq xr yr)*(wX xp yp xq yq xr yr)+(wY xp yp xq yq xr yr)*(wY xp yp xq yq xr yr)))\/(e=10/\(xq-xp)*(yr-yp)-(yq-yp)*(xr-xp)=0))/\CF 53 [.agg (Af Av As Aw Au),.agg (Af Ay Ax BF BE),.agg (Af BX BU Ba BZ)] (.AG [(true,(EW m b n f o i)),(false,[.int .i64 e])])/\CF 54 [.agg (Af Av As Aw Au),.agg (Af Ay Ax BF BE),.agg (Af BX BU Ba BZ)] (.AG [(true,(EW p j q k r l)),(false,[.int .i64 e])]):=by
 by_cases a:(xq-xp)*(yr-yp)-(yq-yp)*(xr-xp)=0
 ·exact⟨[],[],[],[],[],[],[],[],[],[],[],[],10,.inr ⟨rfl,a⟩,fY F s t u a (by omega),lK F s t u a (by omega)⟩
 obtain⟨U,B,G,A,y,v,h,h',c⟩:=NW F s t u a (by omega);obtain⟨V,D,H,C,z,x,g,I,d⟩:=lJ F s t u a (by omega);exact⟨U,B,G,A,y,v,V,D,H,C,z,x,0,.inl ⟨rfl,a,⟨h,h'⟩,g,I⟩,c,d⟩
theorem oz {X:List (el Bn)} {W:List UInt8} {ns:List Nu} (aA:ns=(runN (X.take 24)).1) {V:List Re} (aq:V.length<=3) (T:∀n∈ns,BP V n):CF 12 [.agg [.sl Bn X,.sl .u8 W]] (.one (.bool true)):=by
 obtain⟨w,L⟩:=ME aq (Mk T);have F:=L.fd;obtain⟨Q,hQ⟩:∃z,z=GK ns W:=⟨_,rfl⟩
 obtain⟨c,hc⟩:=xB (decide (3<=Q.length));refine CJ Tryz.func12 fun E C=>?_
 conv=>cbv
 refine AB C (a7 aA aq T hQ (i':=3) ⟨rfl⟩ (by decide) hc) ?_;conv=>cbv
 refine AB C U6 ?_;conv=>cbv
 refine AU ?_;conv=>cbv
 intro n28 an;conv=>cbv
 cases n28 <;> conv=>cbv
 ·have ar:=C3 an;have hl:3<=Q.length:=of_decide_eq_true (hc.symm.trans ar);obtain⟨x0,v⟩:=AK (l:=Q) (i:=0) (by omega);obtain⟨X0,Y0,aZ,b5,b0,b6,aB,aJ,aw,ax⟩:=Rz L T hQ v;have J:=aB (b:=1950000) (k:=1) (by decide);obtain⟨x1,y⟩:=AK (l:=Q) (i:=1) (by omega);obtain⟨X1,Y1,b1,b7,b2,b8,aC,br,bn,bp⟩:=Rz L T hQ y;have K:=aC (b:=1950000) (k:=1) (by decide);obtain⟨x2,I⟩:=AK (l:=Q) (i:=2) (by omega);obtain⟨X2,Y2,b3,b9,b4,ba,aD,bs,bo,bq⟩:=Rz L T hQ I;have U:=aD (b:=1950000) (k:=1) (by decide);have aI:=aJ (b:=1950000) (k:=1) (by decide);obtain⟨s,p,t,q,u,r,bb,aQ,bc,aR,bd,aS,e,hd,ca,cb⟩:=nq F J K U (by omega);obtain⟨bf,aT,bg,aU,bh,aV,bj,aW,bk,aX,bm,aY,f,hf,cd,ce⟩:=eS F J K aI aw ax (by omega);refine⟨x0,fun _=>⟨by omega,v⟩,?_⟩;try conv=>cbv
  refine⟨x1,fun _=>⟨by omega,y⟩,?_⟩;try conv=>cbv
  refine⟨x2,fun _=>⟨by omega,I⟩,?_⟩;try conv=>cbv
  refine AB C ca ?_;conv=>cbv
  refine BG ?_;refine⟨x0,fun _=>⟨by omega,v⟩,?_⟩;try conv=>cbv
  refine⟨x1,fun _=>⟨by omega,y⟩,?_⟩;try conv=>cbv
  refine⟨x2,fun _=>⟨by omega,I⟩,?_⟩;try conv=>cbv
  refine AB C cb ?_;conv=>cbv
  refine BG ?_;refine⟨x0,fun _=>⟨by omega,v⟩,?_⟩;try conv=>cbv
  refine⟨x1,fun _=>⟨by omega,y⟩,?_⟩;try conv=>cbv
  refine AB C cd ?_;conv=>cbv
  refine BG ?_;refine⟨x0,fun _=>⟨by omega,v⟩,?_⟩;try conv=>cbv
  refine⟨x1,fun _=>⟨by omega,y⟩,?_⟩;try conv=>cbv
  refine AB C ce ?_;conv=>cbv
  refine BG ?_;intro bt a6;(have a6:=a6.trans (show _=false by simp));subst a6;conv=>cbv
  intro bu a8;(have a8:=a8.trans (show _=false by simp));subst a8;conv=>cbv
  intro aO ao;conv=>cbv
  cases aO <;> conv=>cbv
  ·have aM:=Ah ao;intro ai P;conv=>cbv
   cases ai <;> conv=>cbv
   ·have Z:=Co P;obtain⟨_,G,⟨j,g⟩,ah,ag⟩:=hd.resolve_right (fun h=>by omega);have S:(X0-X2)*(Y1-Y2)-(Y0-Y2)*(X1-X2)≠0:=fun z=>G (by rw[<-z];grind)
    obtain⟨Ay,Ax,BF,BE,BX,BU,N,O,M⟩:=NW F U J K S (by omega);obtain⟨ex,ey⟩:=aG G;obtain⟨eu,ev⟩:=aH G;have s0:CF 58 [.agg [.sl (.sl AA) s,.sl AA p,.sl (.sl AA) t,.sl AA q,.sl (.sl AA) u,.sl AA r],.agg [.sl (.sl AA) x0.1.1,.sl AA x0.1.2,.sl (.sl AA) x0.2.1,.sl AA x0.2.2]] (.AG [(false,[.int .i64 0]),(false,[.int .i64 0])]):=Jv F j g J (by rw[<-EZ];congr 1;grind) (by omega);have s1:CF 58 [.agg [.sl (.sl AA) s,.sl AA p,.sl (.sl AA) t,.sl AA q,.sl (.sl AA) u,.sl AA r],.agg [.sl (.sl AA) x1.1.1,.sl AA x1.1.2,.sl (.sl AA) x1.2.1,.sl AA x1.2.2]] (.AG [(false,[.int .i64 0]),(false,[.int .i64 0])]):=Jv F j g K (by rw[<-EZ];congr 1;grind) (by omega);have s2:CF 58 [.agg [.sl (.sl AA) s,.sl AA p,.sl (.sl AA) t,.sl AA q,.sl (.sl AA) u,.sl AA r],.agg [.sl (.sl AA) x2.1.1,.sl AA x2.1.2,.sl (.sl AA) x2.2.1,.sl AA x2.2.2]] (.AG [(false,[.int .i64 0]),(false,[.int .i64 0])]):=Jv F j g U (by rw[<-EZ];congr 1;grind) (by omega)
    have ab:∀(i:Nat) (x:el Ai),i<3->Q[i]? =some x->CF 58 [.agg [.sl (.sl AA) s,.sl AA p,.sl (.sl AA) t,.sl AA q,.sl (.sl AA) u,.sl AA r],.agg [.sl (.sl AA) x.1.1,.sl AA x.1.2,.sl (.sl AA) x.2.1,.sl AA x.2.2]] (.AG [(false,[.int .i64 0]),(false,[.int .i64 0])]):=fun i x hi H=>by
     match i,hi,H with
     | 0,_,H=>rw[<-Option.some.inj (v.symm.trans H)];exact s0
     | 1,_,H=>rw[<-Option.some.inj (y.symm.trans H)];exact s1
     | 2,_,H=>rw[<-Option.some.inj (I.symm.trans H)];exact s2
    refine⟨x2,fun _=>⟨by omega,I⟩,?_⟩;try conv=>cbv
    refine⟨x0,fun _=>⟨by omega,v⟩,?_⟩;try conv=>cbv
    refine⟨x1,fun _=>⟨by omega,y⟩,?_⟩;try conv=>cbv
    refine AB C M ?_;conv=>cbv
    refine BG ?_;refine AU ?_;conv=>cbv
    refine AB C (JO F j g ah ag (e:=true) ⟨fun _=>⟨⟨rfl,rfl⟩,by grind⟩,fun _=>rfl⟩ (by omega)) ?_;conv=>cbv
    refine AU ?_;conv=>cbv
    refine AB C (JO F j g N O (e:=true) ⟨fun _=>⟨⟨ex.symm,ey.symm⟩,by grind⟩,fun _=>rfl⟩ (by omega)) ?_;conv=>cbv
    refine AU ?_;conv=>cbv
    intro au af;conv=>cbv
    refine AH ?_;intro aj ad;conv=>cbv
    intro a d;conv=>cbv
    have a5:a.length=3:=by rw[d,List.drop_zero,List.length_take];omega
    rintro a1 ⟨ak,f128⟩;conv=>cbv
    refine .inr ?_;obtain⟨J0,D⟩:=xJ fun vs bl k=>∃(i':Nat) (i:Int),vs=[.one (.Ab 5 0 0),.one (.sl Ai a),.one (.int .i64 a1),.one (.int .i64 i)]/\bl=[.var 0 [.sl (.sl AA) s,.sl AA p,.sl (.sl AA) t,.sl AA q,.sl (.sl AA) u,.sl AA r]]/\(AO i i'/\i'<=a.length)/\k=a.length-i'
    refine⟨[],[5,127,128,129],[5],J0,⟨a.length-0,by rw[D];exact⟨0,0,rfl,rfl,⟨Al 0,Nat.zero_le _⟩,rfl⟩⟩,?_⟩;intro vs bl aN hj;rw[D] at hj;obtain⟨i',i,rfl,rfl,⟨hi,ay⟩,az⟩:=hj;conv=>cbv
    have ei:=hi.eq;intro a2 B;conv=>cbv
    cases a2 <;> conv=>cbv
    ·have Y:=AW B;exact AD ⟨t2,trivial⟩
    have Y:=AY B;refine .inr ?_;obtain⟨o,m⟩:=AK (l:=a) (i:=i') (by omega);refine⟨o,fun _=>⟨by omega,by rw[show (i).toNat=i' by omega];exact m⟩,?_⟩;try conv=>cbv
    have A:Q[i']? =some o:=by rw[<-m,d,List.drop_zero,List.getElem?_take,if_pos (by omega)]
    have ae:i'<3:=by omega
    refine AB C (ab i' o ae A) ?_;conv=>cbv
    refine AU ?_;conv=>cbv
    refine AU ?_;conv=>cbv
    intro av al;conv=>cbv
    refine AI ?_;refine⟨a.length-(i'+1),?_,?_⟩
    ·omega
    rw[D];exact⟨i'+1,_,rfl,rfl,⟨⟨by omega⟩,by omega⟩,rfl⟩
   have Z:=Cp P;have R:e=10:=(hd.resolve_left fun h=>Z h.1).1;intro aP aa;conv=>cbv
   exact AD ⟨⟨rfl,congrArg _ ((aa.trans (by rw[R];rfl)).symm),trivial⟩,trivial⟩
  have aM:=Aj ao;obtain⟨_,_,⟨aK,aE⟩,aL,aF⟩:=hf.resolve_right (fun h=>by omega);refine AB C (JO F aK aE aL aF (e:=true) ⟨fun _=>⟨⟨rfl,rfl⟩,by grind⟩,fun _=>rfl⟩ (by omega)) ?_;conv=>cbv
  refine AU ?_;conv=>cbv
  intro ai P;conv=>cbv
  cases ai <;> conv=>cbv
  ·have Z:=Co P;obtain⟨_,G,⟨j,g⟩,ah,ag⟩:=hd.resolve_right (fun h=>by omega);have S:(X0-X2)*(Y1-Y2)-(Y0-Y2)*(X1-X2)≠0:=fun z=>G (by rw[<-z];grind)
   obtain⟨Ay,Ax,BF,BE,BX,BU,N,O,M⟩:=NW F U J K S (by omega);obtain⟨ex,ey⟩:=aG G;obtain⟨eu,ev⟩:=aH G;have s0:CF 58 [.agg [.sl (.sl AA) s,.sl AA p,.sl (.sl AA) t,.sl AA q,.sl (.sl AA) u,.sl AA r],.agg [.sl (.sl AA) x0.1.1,.sl AA x0.1.2,.sl (.sl AA) x0.2.1,.sl AA x0.2.2]] (.AG [(false,[.int .i64 0]),(false,[.int .i64 0])]):=Jv F j g J (by rw[<-EZ];congr 1;grind) (by omega);have s1:CF 58 [.agg [.sl (.sl AA) s,.sl AA p,.sl (.sl AA) t,.sl AA q,.sl (.sl AA) u,.sl AA r],.agg [.sl (.sl AA) x1.1.1,.sl AA x1.1.2,.sl (.sl AA) x1.2.1,.sl AA x1.2.2]] (.AG [(false,[.int .i64 0]),(false,[.int .i64 0])]):=Jv F j g K (by rw[<-EZ];congr 1;grind) (by omega);have s2:CF 58 [.agg [.sl (.sl AA) s,.sl AA p,.sl (.sl AA) t,.sl AA q,.sl (.sl AA) u,.sl AA r],.agg [.sl (.sl AA) x2.1.1,.sl AA x2.1.2,.sl (.sl AA) x2.2.1,.sl AA x2.2.2]] (.AG [(false,[.int .i64 0]),(false,[.int .i64 0])]):=Jv F j g U (by rw[<-EZ];congr 1;grind) (by omega)
   have ab:∀(i:Nat) (x:el Ai),i<3->Q[i]? =some x->CF 58 [.agg [.sl (.sl AA) s,.sl AA p,.sl (.sl AA) t,.sl AA q,.sl (.sl AA) u,.sl AA r],.agg [.sl (.sl AA) x.1.1,.sl AA x.1.2,.sl (.sl AA) x.2.1,.sl AA x.2.2]] (.AG [(false,[.int .i64 0]),(false,[.int .i64 0])]):=fun i x hi H=>by
    match i,hi,H with
    | 0,_,H=>rw[<-Option.some.inj (v.symm.trans H)];exact s0
    | 1,_,H=>rw[<-Option.some.inj (y.symm.trans H)];exact s1
    | 2,_,H=>rw[<-Option.some.inj (I.symm.trans H)];exact s2
   refine⟨x2,fun _=>⟨by omega,I⟩,?_⟩;try conv=>cbv
   refine⟨x0,fun _=>⟨by omega,v⟩,?_⟩;try conv=>cbv
   refine⟨x1,fun _=>⟨by omega,y⟩,?_⟩;try conv=>cbv
   refine AB C M ?_;conv=>cbv
   refine BG ?_;refine AU ?_;conv=>cbv
   refine AB C (JO F j g ah ag (e:=true) ⟨fun _=>⟨⟨rfl,rfl⟩,by grind⟩,fun _=>rfl⟩ (by omega)) ?_;conv=>cbv
   refine AU ?_;conv=>cbv
   refine AB C (JO F j g N O (e:=true) ⟨fun _=>⟨⟨ex.symm,ey.symm⟩,by grind⟩,fun _=>rfl⟩ (by omega)) ?_;conv=>cbv
   refine AU ?_;conv=>cbv
   intro au af;conv=>cbv
   refine AH ?_;intro aj ad;conv=>cbv
   intro a d;conv=>cbv
   have a5:a.length=3:=by rw[d,List.drop_zero,List.length_take];omega
   rintro a1 ⟨ak,f128⟩;conv=>cbv
   refine .inr ?_;obtain⟨J0,D⟩:=xJ fun vs bl k=>∃(i':Nat) (i:Int),vs=[.one (.Ab 5 0 0),.one (.sl Ai a),.one (.int .i64 a1),.one (.int .i64 i)]/\bl=[.var 0 [.sl (.sl AA) s,.sl AA p,.sl (.sl AA) t,.sl AA q,.sl (.sl AA) u,.sl AA r]]/\(AO i i'/\i'<=a.length)/\k=a.length-i'
   refine⟨[],[5,127,128,129],[5],J0,⟨a.length-0,by rw[D];exact⟨0,0,rfl,rfl,⟨Al 0,Nat.zero_le _⟩,rfl⟩⟩,?_⟩;intro vs bl aN hj;rw[D] at hj;obtain⟨i',i,rfl,rfl,⟨hi,ay⟩,az⟩:=hj;conv=>cbv
   have ei:=hi.eq;intro a2 B;conv=>cbv
   cases a2 <;> conv=>cbv
   ·have Y:=AW B;exact AD ⟨t2,trivial⟩
   have Y:=AY B;refine .inr ?_;obtain⟨o,m⟩:=AK (l:=a) (i:=i') (by omega);refine⟨o,fun _=>⟨by omega,by rw[show (i).toNat=i' by omega];exact m⟩,?_⟩;try conv=>cbv
   have A:Q[i']? =some o:=by rw[<-m,d,List.drop_zero,List.getElem?_take,if_pos (by omega)]
   have ae:i'<3:=by omega
   refine AB C (ab i' o ae A) ?_;conv=>cbv
   refine AU ?_;conv=>cbv
   refine AU ?_;conv=>cbv
   intro av al;conv=>cbv
   refine AI ?_;refine⟨a.length-(i'+1),?_,?_⟩
   ·omega
   rw[D];exact⟨i'+1,_,rfl,rfl,⟨⟨by omega⟩,by omega⟩,rfl⟩
  have Z:=Cp P;have R:e=10:=(hd.resolve_left fun h=>Z h.1).1;intro aP aa;conv=>cbv
  exact AD ⟨⟨rfl,congrArg _ ((aa.trans (by rw[R];rfl)).symm),trivial⟩,trivial⟩
 have ar:=C4 an;refine AB C U6 ?_;conv=>cbv
 exact AD ⟨t2,trivial⟩
end Go.Abs
