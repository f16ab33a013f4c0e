/- Part 33 of a proof. Conditions: each theorem's own. -/
import Derived.Test.YtmhbikooakmagaaGreatRk31
set_option linter.all false
set_option maxHeartbeats 8000000
set_option maxRecDepth 20000
open Go.Proofs
namespace Go.Abs
open Go.RowKit
noncomputable def iX (xp yp xq yq t:Re):Re:=xp+(xq-xp)*Re.ofRat (1/2)+ -((yq-yp)*Re.ofRat (1/2))*(Re.ofRat ((1:Int):Rat)*Ci t)
noncomputable def iY (xp yp xq yq t:Re):Re:=yp+(yq-yp)*Re.ofRat (1/2)+(xq-xp)*Re.ofRat (1/2)*(Re.ofRat ((1:Int):Rat)*Ci t)
noncomputable def wX (xp yp xq yq xr yr:Re):Re:=((yr-yp)*((xq-xp)*(xq-xp)+(yq-yp)*(yq-yp))-(yq-yp)*((xr-xp)*(xr-xp)+(yr-yp)*(yr-yp)))*Ci ((xq-xp)*(yr-yp)-(yq-yp)*(xr-xp)+((xq-xp)*(yr-yp)-(yq-yp)*(xr-xp)))
noncomputable def wY (xp yp xq yq xr yr:Re):Re:=((xq-xp)*((xr-xp)*(xr-xp)+(yr-yp)*(yr-yp))-(xr-xp)*((xq-xp)*(xq-xp)+(yq-yp)*(yq-yp)))*Ci ((xq-xp)*(yr-yp)-(yq-yp)*(xr-xp)+((xq-xp)*(yr-yp)-(yq-yp)*(xr-xp)))
variable {As Au Ax BE BU BZ:LR} {Av Aw Ay BF BX Ba:List LR} {TT:List (List Rat)->Prop} {ka kb ko kp kq kr ks:Nat} {va vb vs xa xb xo xp xq ya yb yo yp yq:Re} {w:List (List Rat)}
theorem JQ {x:Re} (h:x≠0):x+x≠0:=fun e=>h (by
 have a:(x+x)*Re.ofRat (1/2)=x*(Re.ofRat (1/2)*(1+1)):=by grind
 rw[iB,e] at a
 grind)
theorem U9:Bv Tryz.prog 268 [.one (.Ab 0 0 0),.one (.int .i64 0)] (.var 0 [.int .i64 0]) (.one (.bool true)):=by
 refine DA Tryz.func268 fun E a=>?_
 conv=>cbv
 refine Bc ?_;conv=>cbv
 refine .inr ?_;refine Bc ?_;conv=>cbv
 refine fun _=>⟨⟨⟨t2,trivial⟩,rfl,by simp⟩,rfl⟩
theorem Nf {g:FuncId} {T1:List LR} {A1:LR} {T2:List LR} {A2:LR} {b:List LR} {a:LR} (d:CF g [.agg (AR T1 A1),.agg (AR T2 A2)] (.AG [(true,(AR b a)),(false,[.int .i64 0])])):Bv Tryz.prog 269 [.one (.Ab 0 0 0),.one (.fn g),.agg (AR T1 A1),.agg (AR T2 A2)] (.var 0 [.int .i64 0]) (.agg (AR b a)):=by
 refine DA Tryz.func269 fun E c=>?_
 conv=>cbv
 refine AU ?_;conv=>cbv
 refine AB c d ?_;conv=>cbv
 refine Am 0 0 c U9 ?_;try conv=>cbv
 refine fun _=>⟨⟨⟨t3,trivial⟩,rfl,by simp⟩,rfl⟩
theorem Na (F:Fd TT w) (ha:Nm TT w 1950000 ka Av As va) (hb:Nm TT w 1950000 kb Aw Au vb) (h:ka+kb+111<=80000):∃d c,Nm TT w 1950000 (ka+kb+1) d c (va+vb)/\Bv Tryz.prog 172 [.one (.Ab 0 0 0),.agg (AR Av As),.agg (AR Aw Au)] (.var 0 [.int .i64 0]) (.agg (AR d c)):=by
 obtain⟨Ay,Ax,b,a,f⟩:=HN F ha hb;refine⟨Ay,Ax,b.mono (by omega),?_⟩;refine DA Tryz.func172 fun E g=>?_
 conv=>cbv
 refine Am 0 0 g (Nf a) ?_;try conv=>cbv
 refine fun _=>⟨⟨⟨t3,trivial⟩,rfl,by simp⟩,rfl⟩
theorem Jy (F:Fd TT w) (ha:Nm TT w 1950000 ka Av As va) (hb:Nm TT w 1950000 kb Aw Au vb) (h:ka+kb+111<=80000):∃d c,Nm TT w 1950000 (ka+kb+1) d c (va-vb)/\Bv Tryz.prog 175 [.one (.Ab 0 0 0),.agg (AR Av As),.agg (AR Aw Au)] (.var 0 [.int .i64 0]) (.agg (AR d c)):=by
 obtain⟨Ay,Ax,b,a,f⟩:=L7 F ha hb;refine⟨Ay,Ax,b.mono (by omega),?_⟩;refine DA Tryz.func175 fun E g=>?_
 conv=>cbv
 refine Am 0 0 g (Nf a) ?_;try conv=>cbv
 refine fun _=>⟨⟨⟨t3,trivial⟩,rfl,by simp⟩,rfl⟩
theorem HB (F:Fd TT w) (ha:Nm TT w 1950000 ka Av As va) (hb:Nm TT w 1950000 kb Aw Au vb) (h:ka+kb+111<=80000):∃d c,Nm TT w 1950000 (ka+kb+1) d c (va*vb)/\Bv Tryz.prog 176 [.one (.Ab 0 0 0),.agg (AR Av As),.agg (AR Aw Au)] (.var 0 [.int .i64 0]) (.agg (AR d c)):=by
 obtain⟨Ay,Ax,b,a,f⟩:=IZ F ha hb;refine⟨Ay,Ax,b.mono (by omega),?_⟩;refine DA Tryz.func176 fun E g=>?_
 conv=>cbv
 refine Am 0 0 g (Nf a) ?_;try conv=>cbv
 refine fun _=>⟨⟨⟨t3,trivial⟩,rfl,by simp⟩,rfl⟩
theorem Nb (F:Fd TT w) (ha:Nm TT w 1950000 ka Av As va) (hb:Nm TT w 1950000 kb Aw Au vb) (h:vb≠0) (j:ka+47*kb+134<=80000):∃f c,Nm TT w 1950000 (ka+47*kb+24) f c (va*Ci vb)/\Bv Tryz.prog 174 [.one (.Ab 0 0 0),.agg (AR Av As),.agg (AR Aw Au)] (.var 0 [.int .i64 0]) (.agg (AR f c)):=by
 obtain⟨Ay,Ax,b,a,g⟩:=Rg F ha hb (d:=47*kb+23) (by omega) h;refine⟨Ay,Ax,b.mono (by omega),?_⟩;refine DA Tryz.func174 fun E i=>?_
 conv=>cbv
 refine Am 0 0 i (Nf a) ?_;try conv=>cbv
 refine fun _=>⟨⟨⟨t3,trivial⟩,rfl,by simp⟩,rfl⟩
theorem Hg (F:Fd TT w) (ha:Vm TT w 1950000 ka ka Av As Aw Au xa ya) (hb:Vm TT w 1950000 kb kb Ay Ax BF BE xb yb) (n:ka+kb+111<=80000):∃l k d c,Vm TT w 1950000 (ka+kb+1) (ka+kb+1) l k d c (xa-xb) (ya-yb)/\Bv Tryz.prog 170 [.one (.Ab 0 0 0),.agg (Af Av As Aw Au),.agg (Af Ay Ax BF BE)] (.var 0 [.int .i64 0]) (.agg (Af l k d c)):=by
 obtain⟨Ba,BZ,h,f⟩:=Jy F ha.x hb.x (by omega);obtain⟨b,a,i,g⟩:=Jy F ha.y hb.y (by omega);have j:Vm _ w 1950000 (ka+kb+1) (ka+kb+1) Ba BZ b a _ _:=⟨h.mono (by omega),i.mono (by omega)⟩;refine⟨Ba,BZ,b,a,j.mono (by omega) (by omega),?_⟩;refine DA Tryz.func170 fun E m=>?_
 conv=>cbv
 refine Am 0 0 m f ?_;try conv=>cbv
 refine Am 0 0 m g ?_;try conv=>cbv
 refine BG ?_;refine fun _=>⟨⟨⟨⟨rfl,rfl,rfl,rfl,rfl,trivial⟩,trivial⟩,rfl,by simp⟩,rfl⟩
theorem Nc (F:Fd TT w) (ha:Vm TT w 1950000 ka ka Av As Aw Au xa ya) (hb:Vm TT w 1950000 kb kb Ay Ax BF BE xb yb) (n:ka+kb+111<=80000):∃l k d c,Vm TT w 1950000 (ka+kb+1) (ka+kb+1) l k d c (xa+xb) (ya+yb)/\Bv Tryz.prog 177 [.one (.Ab 0 0 0),.agg (Af Av As Aw Au),.agg (Af Ay Ax BF BE)] (.var 0 [.int .i64 0]) (.agg (Af l k d c)):=by
 obtain⟨Ba,BZ,h,f⟩:=Na F ha.x hb.x (by omega);obtain⟨b,a,i,g⟩:=Na F ha.y hb.y (by omega);have j:Vm _ w 1950000 (ka+kb+1) (ka+kb+1) Ba BZ b a _ _:=⟨h.mono (by omega),i.mono (by omega)⟩;refine⟨Ba,BZ,b,a,j.mono (by omega) (by omega),?_⟩;refine DA Tryz.func177 fun E m=>?_
 conv=>cbv
 refine Am 0 0 m f ?_;try conv=>cbv
 refine Am 0 0 m g ?_;try conv=>cbv
 refine BG ?_;refine fun _=>⟨⟨⟨⟨rfl,rfl,rfl,rfl,rfl,trivial⟩,trivial⟩,rfl,by simp⟩,rfl⟩
theorem QM (F:Fd TT w) {l:Re} {c:Nat} (ha:Vm TT w 1950000 ka ka Av As Aw Au xa ya) (p:Nm TT w 1950000 c Ay Ax l) (q:ka+c+111<=80000):∃n m f d,Vm TT w 1950000 (ka+c+1) (ka+c+1) n m f d (xa*l) (ya*l)/\Bv Tryz.prog 265 [.one (.Ab 0 0 0),.agg (Af Av As Aw Au),.agg (AR Ay Ax)] (.var 0 [.int .i64 0]) (.agg (Af n m f d)):=by
 obtain⟨BX,BU,i,g⟩:=HB F ha.x p (by omega);obtain⟨b,a,j,h⟩:=HB F ha.y p (by omega);have k:Vm _ w 1950000 (ka+c+1) (ka+c+1) BX BU b a _ _:=⟨i.mono (by omega),j.mono (by omega)⟩;refine⟨BX,BU,b,a,k.mono (by omega) (by omega),?_⟩;refine DA Tryz.func265 fun E o=>?_
 conv=>cbv
 refine Am 0 0 o g ?_;try conv=>cbv
 refine Am 0 0 o h ?_;try conv=>cbv
 refine BG ?_;refine fun _=>⟨⟨⟨⟨rfl,rfl,rfl,rfl,rfl,trivial⟩,trivial⟩,rfl,by simp⟩,rfl⟩
theorem I8 (F:Fd TT w) (ha:Vm TT w 1950000 ka ka Av As Aw Au xa ya) (m:4*ka+113<=80000):∃l k,Nm TT w 1950000 (4*ka+3) l k ((xa*xa)+(ya*ya))/\Bv Tryz.prog 173 [.one (.Ab 0 0 0),.agg (Af Av As Aw Au)] (.var 0 [.int .i64 0]) (.agg (AR l k)):=by
 obtain⟨BF,BE,g,c⟩:=HB F ha.x ha.x (by omega);obtain⟨Ba,BZ,h,d⟩:=HB F ha.y ha.y (by omega);obtain⟨b,a,i,f⟩:=Na F g h (by omega);refine⟨b,a,i.mono (by omega),?_⟩;refine DA Tryz.func173 fun E j=>?_
 conv=>cbv
 refine Am 0 0 j c ?_;try conv=>cbv
 refine Am 0 0 j d ?_;try conv=>cbv
 refine Am 0 0 j f ?_;try conv=>cbv
 refine BG ?_;refine fun _=>⟨⟨⟨t3,trivial⟩,rfl,by simp⟩,rfl⟩
theorem U7 (F:Fd TT w) (ha:Vm TT w 1950000 ka ka Av As Aw Au xa ya) (hb:Vm TT w 1950000 kb kb Ay Ax BF BE xb yb) (o:2*ka+2*kb+113<=80000):∃n l,Nm TT w 1950000 (2*ka+2*kb+3) n l ((xa*yb)-(ya*xb))/\Bv Tryz.prog 171 [.one (.Ab 0 0 0),.agg (Af Av As Aw Au),.agg (Af Ay Ax BF BE)] (.var 0 [.int .i64 0]) (.agg (AR n l)):=by
 obtain⟨Ba,BZ,g,c⟩:=HB F ha.x hb.y (by omega);obtain⟨m,k,h,d⟩:=HB F ha.y hb.x (by omega);obtain⟨b,a,i,f⟩:=Jy F g h (by omega);refine⟨b,a,i.mono (by omega),?_⟩;refine DA Tryz.func171 fun E j=>?_
 conv=>cbv
 refine Am 0 0 j c ?_;try conv=>cbv
 refine Am 0 0 j d ?_;try conv=>cbv
 refine Am 0 0 j f ?_;try conv=>cbv
 refine BG ?_;refine fun _=>⟨⟨⟨t3,trivial⟩,rfl,by simp⟩,rfl⟩
theorem fU (F:Fd TT w):∃j,Nm TT w 1950000 (1) ([]:List LR) j (Re.ofRat (1/2))/\CF 266 [] (.agg (AR [] j)):=by
 obtain⟨f,h,g,i,a⟩:=Be (1/2:Rat);have c:(1/2:Rat)=Rat.divInt 1 2:=by decide +kernel
 obtain⟨As,b,d⟩:=Ii F (p:=(1/2:Rat)) (by decide +kernel);refine⟨As,d.mono (by omega),?_⟩;refine CJ Tryz.func266 fun E k=>?_
 conv=>cbv
 refine AB k (TC (by decide) (by decide) (by decide) c a) ?_;conv=>cbv
 refine AB k (K6 a (F1 (by decide +kernel:B9 (1/2:Rat))) b) ?_;conv=>cbv
 exact AD ⟨t3,trivial⟩
theorem NW (F:Fd TT w) {xr yr:Re} (hp:Vm TT w 1950000 kp kp Av As Aw Au xp yp) (hq:Vm TT w 1950000 kq kq Ay Ax BF BE xq yq) (hr:Vm TT w 1950000 kr kr BX BU Ba BZ xr yr) (hd:(xq-xp)*(yr-yp)-(yq-yp)*(xr-xp)≠0) (hM:1544*kp+772*kq+772*kr+3105<=80000):∃U0 B0 A q U1 B1,Vm TT w 1950000 (387*kp+193*kq+193*kr+749) (387*kp+193*kq+193*kr+749) U0 B0 A q (xp+(wX xp yp xq yq xr yr)) (yp+(wY xp yp xq yq xr yr))/\Nm TT w 1950000 (1544*kp+772*kq+772*kr+2995) U1 B1 (((wX xp yp xq yq xr yr)*(wX xp yp xq yq xr yr))+((wY xp yp xq yq xr yr)*(wY xp yp xq yq xr yr)))/\CF 53 [.agg (Af Av As Aw Au),.agg (Af Ay Ax BF BE),.agg (Af BX BU Ba BZ)] (.AG [(true,(EW U0 B0 A q U1 B1)),(false,[.int .i64 0])]):=by
 obtain⟨av,ad,aw,ae,b,B⟩:=Hg F hq hp (by omega);obtain⟨ax,af,ay,ag,c,C⟩:=Hg F hr hp (by omega);obtain⟨az,ah,d,D⟩:=U7 F b c (by omega);obtain⟨ab,j,G,aJ⟩:=Gn F d;have k:ab≠0:=fun z=>hd (EP.1 (j.symm.trans z))
 obtain⟨aA,ai,f,H⟩:=Na F d d (by omega);obtain⟨aB,aj,g,I⟩:=I8 F b (by omega);obtain⟨aC,ak,h,J⟩:=I8 F c (by omega);obtain⟨aD,al,V,K⟩:=HB F c.y g (by omega);obtain⟨aE,an,W,L⟩:=HB F b.y h (by omega);obtain⟨aF,ao,X,M⟩:=Jy F V W (by omega);obtain⟨r,l,Y,N⟩:=Nb F X f (JQ hd) (by omega);obtain⟨aG,aq,Z,O⟩:=HB F b.x h (by omega);obtain⟨aH,ar,a1,P⟩:=HB F c.x g (by omega);obtain⟨aI,au,a2,Q⟩:=Jy F Z a1 (by omega);obtain⟨s,m,a5,R⟩:=Nb F a2 f (JQ hd) (by omega);have a6:Vm _ w 1950000 (386*kp+193*kq+193*kr+748) (386*kp+193*kq+193*kr+748) r l s m _ _:=⟨Y.mono (by omega),a5.mono (by omega)⟩;have i:=a6.cast (x':=wX xp yp xq yq xr yr) (y':=wY xp yp xq yq xr yr) (rfl) (rfl)
 obtain⟨t,n,u,o,a7,S⟩:=Nc F hp i (by omega);obtain⟨v,p,a8,T⟩:=I8 F i (by omega);refine⟨t,n,u,o,v,p,a7.mono (by omega) (by omega),a8.mono (by omega),?_⟩;refine CJ Tryz.func53 fun E a=>?_
 conv=>cbv
 refine Am 17 1 a B ?_;try conv=>cbv
 refine Am 17 1 a C ?_;try conv=>cbv
 refine BG ?_;refine Am 17 1 a D ?_;try conv=>cbv
 refine AU ?_;conv=>cbv
 refine AB a G ?_;conv=>cbv
 intro n42 U;conv=>cbv
 cases n42 <;> conv=>cbv
 ·have aa:=Ah U;refine Am 17 1 a H ?_;try conv=>cbv
  refine Am 17 1 a I ?_;try conv=>cbv
  refine Am 17 1 a J ?_;try conv=>cbv
  refine BG ?_;refine Am 17 1 a K ?_;try conv=>cbv
  refine Am 17 1 a L ?_;try conv=>cbv
  refine Am 17 1 a M ?_;try conv=>cbv
  refine Am 17 1 a N ?_;try conv=>cbv
  refine Am 17 1 a O ?_;try conv=>cbv
  refine Am 17 1 a P ?_;try conv=>cbv
  refine Am 17 1 a Q ?_;try conv=>cbv
  refine Am 17 1 a R ?_;try conv=>cbv
  refine BG ?_;refine Am 17 1 a S ?_;try conv=>cbv
  refine Am 17 1 a T ?_;try conv=>cbv
  refine BG ?_;refine AU ?_;conv=>cbv
  exact AD ⟨⟨rfl,rfl,rfl,rfl,rfl,rfl,rfl,trivial⟩,t2,trivial⟩
 have aa:=Aj U;exact absurd aa k
theorem fX (F:Fd TT w) (s:Vm TT w 1950000 ko ko Av As Aw Au xo yo) (hs:Nm TT w 1950000 ks Ay Ax vs) (ha:Vm TT w 1950000 ka ka BF BE BX BU xa ya) (t:4*ka+4*ko+ks+118<=80000):∃r n,Nm TT w 1950000 (4*ka+4*ko+ks+8) r n ((((xa-xo)*(xa-xo))+((ya-yo)*(ya-yo)))-vs)/\CF 180 [.agg (EW Av As Aw Au Ay Ax),.agg (Af BF BE BX BU)] (.AG [(true,(AR r n)),(false,[.int .i64 0])]):=by
 obtain⟨o,k,p,l,g,c⟩:=Hg F ha s (by omega);obtain⟨q,m,h,d⟩:=I8 F g (by omega);obtain⟨b,a,i,f⟩:=Jy F h hs (by omega);refine⟨b,a,i.mono (by omega),?_⟩;refine CJ Tryz.func180 fun E j=>?_
 conv=>cbv
 refine Am 9 1 j c ?_;try conv=>cbv
 refine Am 9 1 j d ?_;try conv=>cbv
 refine Am 9 1 j f ?_;try conv=>cbv
 refine BG ?_;refine AU ?_;conv=>cbv
 exact AD ⟨t3,t2,trivial⟩
theorem Jv (F:Fd TT w) {sn:Int} (l:Vm TT w 1950000 ko ko Av As Aw Au xo yo) (hs:Nm TT w 1950000 ks Ay Ax vs) (ha:Vm TT w 1950000 ka ka BF BE BX BU xa ya) (g:sn=An ((xa-xo)*(xa-xo)+(ya-yo)*(ya-yo)-vs)) (m:4*ka+4*ko+ks+119<=80000):CF 58 [.agg (EW Av As Aw Au Ay Ax),.agg (Af BF BE BX BU)] (.AG [(false,[.int .i64 sn]),(false,[.int .i64 0])]):=by
 obtain⟨i,h,d,b⟩:=fX F l hs ha (by omega);obtain⟨f,a,c,j⟩:=Gn F d;obtain rfl:sn=f:=g.trans a.symm;refine CJ Tryz.func58 fun E k=>?_
 conv=>cbv
 refine AB k b ?_;conv=>cbv
 refine AU ?_;conv=>cbv
 refine AB k c ?_;conv=>cbv
 exact AD ⟨t2,t2,trivial⟩
theorem fV (F:Fd TT w) {c vi:Re} {kt ki:Nat} (hp:Vm TT w 1950000 kp kp Av As Aw Au xp yp) (hq:Vm TT w 1950000 kq kq Ay Ax BF BE xq yq) (ht:Nm TT w 1950000 kt BX BU c) (hi:Nm TT w 1950000 ki Ba BZ vi) (h0:¬(xp=xq/\yp=yq)) (a1:c≠0) (a6:c*vi=1) (hM:4*ki+16*kp+8*kq+47*kt+443<=80000):∃U0 B0 v n U1 B1,Vm TT w 1950000 (ki+3*kp+2*kq+9) (ki+3*kp+2*kq+9) U0 B0 v n (iX xp yp xq yq c) (iY xp yp xq yq c)/\Nm TT w 1950000 (4*ki+16*kp+8*kq+43) U1 B1 (((xp-(iX xp yp xq yq c))*(xp-(iX xp yp xq yq c)))+((yp-(iY xp yp xq yq c))*(yp-(iY xp yp xq yq c))))/\CF 167 [.agg (Af Av As Aw Au),.agg (Af Ay Ax BF BE),.agg (AR BX BU)] (.AG [(true,(EW U0 B0 v n U1 B1)),(false,[.int .i64 0])]):=by
 obtain⟨a5,g,A,ay⟩:=Gn F ht;have h:a5≠0:=fun z=>a1 (EP.1 (g.symm.trans z))
 obtain⟨a7,O,B⟩:=fU F;obtain⟨al,a8,an,aa,P,C⟩:=Hg F hq hp (by omega);obtain⟨o,i,q,ab,b,D⟩:=QM F P O (by omega);obtain⟨ad,f,Q⟩:=Ii F (p:=((1:Int):Rat)) (by decide +kernel);obtain⟨ao,ae,R,G⟩:=Nb F Q ht a1 (by omega);have S:=R.shrink hi (by rw[Wu a6,show Re.ofRat ((1:Int):Rat)=1 from rfl];grind);obtain⟨j,T,H,az⟩:=JJ F b.y;have U:Vm _ w 1950000 (kp+kq+3) (kp+kq+3) q j o i _ _:=⟨T.mono (by omega),b.x.mono (by omega)⟩;obtain⟨aq,af,ar,ag,V,I⟩:=QM F U S (by omega);obtain⟨au,ah,av,ai,W,J⟩:=Nc F hp b (by omega);obtain⟨s,k,t,l,X,K⟩:=Nc F W V (by omega);have d:=X.cast (x':=iX xp yp xq yq c) (y':=iY xp yp xq yq c) (rfl) (rfl);obtain⟨aw,aj,ax,ak,Y,L⟩:=Hg F hp d (by omega)
 obtain⟨u,m,Z,M⟩:=I8 F Y (by omega);refine⟨s,k,t,l,u,m,d.mono (by omega) (by omega),Z.mono (by omega),?_⟩;refine CJ Tryz.func167 fun E a=>?_
 conv=>cbv
 refine .inr ?_;refine AB (r:= .one (.bool false)) a (PD F hp hq (by omega) (by omega) (by omega) (by omega) (e:=false) ⟨fun z=>(by cases z),fun z=>absurd z h0⟩) ?_;conv=>cbv
 refine AB a A ?_;conv=>cbv
 intro n21 N;conv=>cbv
 cases n21 <;> conv=>cbv
 ·have a2:=Ah N;refine Am 24 1 a C ?_;try conv=>cbv
  refine AB a B ?_;conv=>cbv
  refine Am 24 1 a D ?_;try conv=>cbv
  refine AB a H ?_;conv=>cbv
  refine AB a (Jg (by decide) (F1 (by decide +kernel:B9 ((1:Int):Rat))) f) ?_;conv=>cbv
  refine Am 24 1 a G ?_;try conv=>cbv
  refine Am 24 1 a I ?_;try conv=>cbv
  refine BG ?_;refine Am 24 1 a J ?_;try conv=>cbv
  refine Am 24 1 a K ?_;try conv=>cbv
  refine BG ?_;refine Am 24 1 a L ?_;try conv=>cbv
  refine Am 24 1 a M ?_;try conv=>cbv
  refine BG ?_;refine AU ?_;conv=>cbv
  exact AD ⟨⟨rfl,rfl,rfl,rfl,rfl,rfl,rfl,trivial⟩,t2,trivial⟩
 have a2:=Aj N;exact absurd a2 h
theorem fW (F:Fd TT w) {v:Re} (A:Vm TT w 1950000 ko ko Av As Aw Au xo yo) (hs:Nm TT w 1950000 ks Ay Ax vs) (ha:Vm TT w 1950000 ka ka BF BE BX BU xa ya) (U:¬(xo=xa/\yo=ya)) (V:(xa-xo)*(xa-xo)+(ya-yo)*(ya-yo)≠0) (X:vs*Ci ((xa-xo)*(xa-xo)+(ya-yo)*(ya-yo))=v) (W:Rt TT w 1950000 70000 TT w 1950000 kr v) (Y:188*ka+188*ko+kr+ks+10353<=80000):∃S K i f,Vm TT w 1950000 (ka+2*ko+kr+3) (ka+2*ko+kr+3) S K i f (xo+((xa-xo)*(Re.sqrt v))) (yo+((ya-yo)*(Re.sqrt v)))/\CF 169 [.agg (EW Av As Aw Au Ay Ax),.agg (Af BF BE BX BU)] (.AG [(true,(Af S K i f)),(false,[.int .i64 0])]):=by
 obtain⟨L,B,M,C,a,j⟩:=Hg F ha A (by omega);obtain⟨N,D,p,k⟩:=I8 F a (by omega);obtain⟨O,G,q,l⟩:=Nb F hs p V (by omega);have s:=q.cast (y:=v) (X);obtain⟨P,H,t,m,T⟩:=W.get (by omega) s;obtain⟨Q,I,R,J,u,n⟩:=QM F a t (by omega);obtain⟨g,c,h,d,x,o⟩:=Nc F A u (by omega);refine⟨g,c,h,d,x.mono (by omega) (by omega),?_⟩;refine CJ Tryz.func169 fun E b=>?_
 conv=>cbv
 refine AB (r:= .one (.bool false)) b (PD F A ha (by omega) (by omega) (by omega) (by omega) (e:=false) ⟨fun z=>(by cases z),fun z=>absurd z U⟩) ?_;conv=>cbv
 refine Am 18 1 b j ?_;try conv=>cbv
 refine Am 18 1 b k ?_;try conv=>cbv
 refine Am 18 1 b l ?_;try conv=>cbv
 refine BG ?_;refine AU ?_;conv=>cbv
 refine AB b m ?_;conv=>cbv
 refine Am 18 1 b U9 ?_;try conv=>cbv
 refine Am 18 1 b n ?_;try conv=>cbv
 refine Am 18 1 b o ?_;try conv=>cbv
 refine BG ?_;refine AU ?_;conv=>cbv
 exact AD ⟨⟨rfl,rfl,rfl,rfl,rfl,trivial⟩,t2,trivial⟩
end Go.Abs
namespace Go.Abs
open Go.RowKit
variable {A1 A2 As Au Ax BE BU BZ:LR} {T1 T2 Av Aw Ay BF BX Ba:List LR} {TT:List (List Rat)->Prop} {ka kb ko kp kq kr:Nat} {va vb xa xb xo xp xq xr ya yb yo yp yq yr:Re} {w:List (List Rat)}
theorem Y8:Bv Tryz.prog 276 [.one (.Ab 0 0 0),.one (.int .i64 0)] (.var 0 [.int .i64 0]) (.AG []):=by
 refine DA Tryz.func276 fun E a=>?_
 conv=>cbv
 refine Bc ?_;conv=>cbv
 refine .inr ?_;refine fun _=>⟨⟨trivial,rfl,by simp⟩,rfl⟩
theorem MU:Bv Tryz.prog 187 [.one (.Ab 0 0 0),.agg (AR T1 A1),.one (.int .i64 0)] (.var 0 [.int .i64 0]) (.agg (AR T1 A1)):=by
 refine DA Tryz.func187 fun E a=>?_
 conv=>cbv
 refine Am 0 0 a Y8 ?_;try conv=>cbv
 refine AU ?_;conv=>cbv
 refine fun _=>⟨⟨⟨t3,trivial⟩,rfl,by simp⟩,rfl⟩
theorem ZA:Bv Tryz.prog 188 [.one (.Ab 0 0 0),.agg (Af T1 A1 T2 A2),.one (.int .i64 0)] (.var 0 [.int .i64 0]) (.agg (Af T1 A1 T2 A2)):=by
 refine DA Tryz.func188 fun E a=>?_
 conv=>cbv
 refine Am 0 0 a Y8 ?_;try conv=>cbv
 refine AU ?_;conv=>cbv
 refine fun _=>⟨⟨⟨⟨rfl,rfl,rfl,rfl,rfl,trivial⟩,trivial⟩,rfl,by simp⟩,rfl⟩
theorem Y9 (F:Fd TT w) (ha:Nm TT w 1950000 ka Av As va) (hb:Nm TT w 1950000 kb Aw Au vb) (h:ka+kb+111<=80000):∃d c,Nm TT w 1950000 (ka+kb+1) d c (va-vb)/\Bv Tryz.prog 65 [.one (.Ab 0 0 0),.agg (AR Av As),.agg (AR Aw Au)] (.var 0 [.int .i64 0]) (.agg (AR d c)):=by
 obtain⟨Ay,Ax,b,f,a⟩:=L7 F ha hb;refine⟨Ay,Ax,b.mono (by omega),?_⟩;refine DA Tryz.func65 fun E g=>?_
 conv=>cbv
 refine AB g a ?_;conv=>cbv
 refine Am 0 0 g MU ?_;try conv=>cbv
 refine fun _=>⟨⟨⟨t3,trivial⟩,rfl,by simp⟩,rfl⟩
theorem Km (F:Fd TT w) (ha:Nm TT w 1950000 ka Av As va) (hb:Nm TT w 1950000 kb Aw Au vb) (h:ka+kb+111<=80000):∃d c,Nm TT w 1950000 (ka+kb+1) d c (va*vb)/\Bv Tryz.prog 66 [.one (.Ab 0 0 0),.agg (AR Av As),.agg (AR Aw Au)] (.var 0 [.int .i64 0]) (.agg (AR d c)):=by
 obtain⟨Ay,Ax,b,f,a⟩:=IZ F ha hb;refine⟨Ay,Ax,b.mono (by omega),?_⟩;refine DA Tryz.func66 fun E g=>?_
 conv=>cbv
 refine AB g a ?_;conv=>cbv
 refine Am 0 0 g MU ?_;try conv=>cbv
 refine fun _=>⟨⟨⟨t3,trivial⟩,rfl,by simp⟩,rfl⟩
theorem Y7 (F:Fd TT w) (ha:Nm TT w 1950000 ka Av As va) (hb:Nm TT w 1950000 kb Aw Au vb) (i:vb≠0) (j:ka+47*kb+134<=80000):∃f c,Nm TT w 1950000 (ka+47*kb+24) f c (va*Ci vb)/\Bv Tryz.prog 67 [.one (.Ab 0 0 0),.agg (AR Av As),.agg (AR Aw Au)] (.var 0 [.int .i64 0]) (.agg (AR f c)):=by
 obtain⟨Ay,Ax,b,g,a⟩:=Rg F ha hb (d:=47*kb+23) (by omega) i;refine⟨Ay,Ax,b.mono (by omega),?_⟩;refine DA Tryz.func67 fun E h=>?_
 conv=>cbv
 refine AB h a ?_;conv=>cbv
 refine Am 0 0 h MU ?_;try conv=>cbv
 refine fun _=>⟨⟨⟨t3,trivial⟩,rfl,by simp⟩,rfl⟩
theorem lk (F:Fd TT w) (ha:Vm TT w 1950000 ka ka Av As Aw Au xa ya) (hb:Vm TT w 1950000 kb kb Ay Ax BF BE xb yb) (i:ka+kb+111<=80000):∃g f b a,Vm TT w 1950000 (ka+kb+1) (ka+kb+1) g f b a (xa+xb) (ya+yb)/\Bv Tryz.prog 72 [.one (.Ab 0 0 0),.agg (Af Av As Aw Au),.agg (Af Ay Ax BF BE)] (.var 0 [.int .i64 0]) (.agg (Af g f b a)):=by
 obtain⟨BX,BU,Ba,BZ,d,c⟩:=au F ha hb;refine⟨BX,BU,Ba,BZ,d.mono (by omega) (by omega),?_⟩;refine DA Tryz.func72 fun E h=>?_
 conv=>cbv
 refine AB h c ?_;conv=>cbv
 refine Am 0 0 h ZA ?_;try conv=>cbv
 refine fun _=>⟨⟨⟨⟨rfl,rfl,rfl,rfl,rfl,trivial⟩,trivial⟩,rfl,by simp⟩,rfl⟩
theorem MT (F:Fd TT w) (ha:Vm TT w 1950000 ka ka Av As Aw Au xa ya) (hb:Vm TT w 1950000 kb kb Ay Ax BF BE xb yb) (j:ka+kb+111<=80000):∃h g b a,Vm TT w 1950000 (ka+kb+1) (ka+kb+1) h g b a (xa-xb) (ya-yb)/\Bv Tryz.prog 69 [.one (.Ab 0 0 0),.agg (Af Av As Aw Au),.agg (Af Ay Ax BF BE)] (.var 0 [.int .i64 0]) (.agg (Af h g b a)):=by
 obtain⟨BX,BU,Ba,BZ,d,c⟩:=ov F ha hb;have f:=d.cast (x':=xa-xb) (y':=ya-yb) (by grind) (by grind);refine⟨BX,BU,Ba,BZ,f.mono (by omega) (by omega),?_⟩;refine DA Tryz.func69 fun E i=>?_
 conv=>cbv
 refine AB i c ?_;conv=>cbv
 refine Am 0 0 i ZA ?_;try conv=>cbv
 refine fun _=>⟨⟨⟨⟨rfl,rfl,rfl,rfl,rfl,trivial⟩,trivial⟩,rfl,by simp⟩,rfl⟩
theorem Y6 (F:Fd TT w) (ha:Vm TT w 1950000 ka ka Av As Aw Au xa ya) (hb:Vm TT w 1950000 kb kb Ay Ax BF BE xb yb) (h:ka+kb+112<=80000):∃f d,Nm TT w 1950000 (2*ka+2*kb+3) f d (xa*yb-ya*xb)/\Bv Tryz.prog 178 [.one (.Ab 0 0 0),.agg (Af Av As Aw Au),.agg (Af Ay Ax BF BE)] (.var 0 [.int .i64 0]) (.agg (AR f d)):=by
 obtain⟨BX,BU,b,a⟩:=oc F ha hb;have c:=b.cast (y:=xa*yb-ya*xb) (by grind);refine⟨BX,BU,c.mono (by omega),?_⟩;refine DA Tryz.func178 fun E g=>?_
 conv=>cbv
 refine AB g a ?_;conv=>cbv
 refine Am 0 0 g MU ?_;try conv=>cbv
 refine fun _=>⟨⟨⟨t3,trivial⟩,rfl,by simp⟩,rfl⟩
theorem Oo (F:Fd TT w) (ha:Vm TT w 1950000 ka ka Av As Aw Au xa ya) (g:2*ka+112<=80000):∃d c,Nm TT w 1950000 (4*ka+3) d c (xa*xa+ya*ya)/\Bv Tryz.prog 70 [.one (.Ab 0 0 0),.agg (Af Av As Aw Au)] (.var 0 [.int .i64 0]) (.agg (AR d c)):=by
 obtain⟨Ay,Ax,b,a⟩:=ou F ha;refine⟨Ay,Ax,b.mono (by omega),?_⟩;refine DA Tryz.func70 fun E f=>?_
 conv=>cbv
 refine AB f a ?_;conv=>cbv
 refine Am 0 0 f MU ?_;try conv=>cbv
 refine fun _=>⟨⟨⟨t3,trivial⟩,rfl,by simp⟩,rfl⟩
theorem lj (F:Fd TT w) (ha:Vm TT w 1950000 ka ka Av As Aw Au xa ya) (hb:Vm TT w 1950000 kb kb Ay Ax BF BE xb yb) (m:2*ka+2*kb+114<=80000):∃k i,Nm TT w 1950000 (4*ka+4*kb+7) k i ((xa-xb)*(xa-xb)+(ya-yb)*(ya-yb))/\Bv Tryz.prog 78 [.one (.Ab 0 0 0),.agg (Af Av As Aw Au),.agg (Af Ay Ax BF BE)] (.var 0 [.int .i64 0]) (.agg (AR k i)):=by
 obtain⟨Ba,BZ,j,h,f,c⟩:=MT F ha hb (by omega);obtain⟨b,a,g,d⟩:=Oo F f (by omega);refine⟨b,a,g.mono (by omega),?_⟩;refine DA Tryz.func78 fun E l=>?_
 conv=>cbv
 refine Am 0 0 l c ?_;try conv=>cbv
 refine Am 0 0 l d ?_;try conv=>cbv
 refine fun _=>⟨⟨⟨t3,trivial⟩,rfl,by simp⟩,rfl⟩
theorem Y5 {b:List LR} {a:LR}:Bv Tryz.prog 179 [.one (.Ab 0 0 0),.agg (Af T1 A1 T2 A2),.agg (AR b a)] (.var 0 [.int .i64 0]) (.AG [(true,(EW T1 A1 T2 A2 b a)),(false,[.int .i64 0])]):=by
 refine DA Tryz.func179 fun E c=>?_
 conv=>cbv
 refine AU ?_;conv=>cbv
 refine fun _=>⟨⟨⟨⟨rfl,rfl,rfl,rfl,rfl,rfl,rfl,trivial⟩,t2,trivial⟩,rfl,by simp⟩,rfl⟩
theorem lH (F:Fd TT w) (g:Vm TT w 1950000 ko ko Av As Aw Au xo yo) (ha:Vm TT w 1950000 ka ka Ay Ax BF BE xa ya) (h:¬(xo=xa/\yo=ya)) (i:2*ka+2*ko+443<=80000):∃f d,Nm TT w 1950000 (4*ka+4*ko+7) f d ((xo-xa)*(xo-xa)+(yo-ya)*(yo-ya))/\CF 56 [.agg (Af Av As Aw Au),.agg (Af Ay Ax BF BE)] (.AG [(true,(EW Av As Aw Au f d)),(false,[.int .i64 0])]):=by
 obtain⟨Ba,BZ,b,a⟩:=lj F g ha (by omega);refine⟨Ba,BZ,b.mono (by omega),?_⟩;refine CJ Tryz.func56 fun E c=>?_
 conv=>cbv
 refine AB (r:= .one (.bool false)) c (Jb F g ha (by omega) (by omega) (by omega) (by omega) (e:=false) ⟨fun z=>(by cases z),fun z=>absurd z h⟩) ?_;conv=>cbv
 refine Am 12 1 c a ?_;try conv=>cbv
 refine Am 12 1 c Y5 ?_;try conv=>cbv
 refine BG ?_;exact AD ⟨⟨rfl,rfl,rfl,rfl,rfl,rfl,rfl,trivial⟩,t2,trivial⟩
theorem lI (F:Fd TT w) (c:Vm TT w 1950000 ko ko Av As Aw Au xo yo) (ha:Vm TT w 1950000 ka ka Ay Ax BF BE xa ya) (a:xo=xa/\yo=ya) (d:2*ka+2*ko+443<=80000):CF 56 [.agg (Af Av As Aw Au),.agg (Af Ay Ax BF BE)] (.AG [(true,(EW [] [] [] [] [] [])),(false,[.int .i64 11])]):=by
 refine CJ Tryz.func56 fun E b=>?_
 conv=>cbv
 refine AB b (Jb F c ha (by omega) (by omega) (by omega) (by omega) (e:=true) ⟨fun _=>a,fun _=>rfl⟩) ?_;conv=>cbv
 exact AD ⟨⟨rfl,Bj,Bj,Bj,Bj,Bj,Bj,trivial⟩,t2,trivial⟩
theorem lJ (F:Fd TT w) (hp:Vm TT w 1950000 kp kp Av As Aw Au xp yp) (hq:Vm TT w 1950000 kq kq Ay Ax BF BE xq yq) (hr:Vm TT w 1950000 kr kr BX BU Ba BZ xr yr) (hd:(xq-xp)*(yr-yp)-(yq-yp)*(xr-xp)≠0) (hM:396*kp+198*kq+198*kr+1044<=80000):∃U0 B0 B r U1 B1,Vm TT w 1950000 (199*kp+99*kq+99*kr+467) (199*kp+99*kq+99*kr+467) U0 B0 B r (xp+(wX xp yp xq yq xr yr)) (yp+(wY xp yp xq yq xr yr))/\Nm TT w 1950000 (792*kp+396*kq+396*kr+1867) U1 B1 ((wX xp yp xq yq xr yr)*(wX xp yp xq yq xr yr)+(wY xp yp xq yq xr yr)*(wY xp yp xq yq xr yr))/\CF 54 [.agg (Af Av As Aw Au),.agg (Af Ay Ax BF BE),.agg (Af BX BU Ba BZ)] (.AG [(true,(EW U0 B0 B r U1 B1)),(false,[.int .i64 0])]):=by
 obtain⟨aA,ah,aB,ai,b,C⟩:=MT F hq hp (by omega);obtain⟨aC,aj,aD,ak,c,D⟩:=MT F hr hp (by omega);obtain⟨aE,al,W,G⟩:=Y6 F b c (by omega);obtain⟨an,i,X⟩:=Ii F (p:=((2:Int):Rat)) (by decide +kernel);obtain⟨aF,ao,Y,H⟩:=Km F W X (by omega);have d:=Y.cast (y:=((xq-xp)*(yr-yp)-(yq-yp)*(xr-xp))+((xq-xp)*(yr-yp)-(yq-yp)*(xr-xp))) (by rw[aO];grind);obtain⟨ag,j,aP,U⟩:=Gn F d;have k:ag≠0:=fun z=>(JQ hd) (EP.1 (j.symm.trans z))
 obtain⟨aG,aq,f,I⟩:=Oo F b (by omega);obtain⟨aH,ar,g,J⟩:=Oo F c (by omega);obtain⟨aI,au,Z,K⟩:=Km F c.y f (by omega);obtain⟨aJ,av,a1,L⟩:=Km F b.y g (by omega);obtain⟨aK,aw,a2,M⟩:=Y9 F Z a1 (by omega);obtain⟨s,l,a5,N⟩:=Y7 F a2 d (JQ hd) (by omega);obtain⟨aL,ax,a6,O⟩:=Km F b.x g (by omega);obtain⟨aM,ay,a7,P⟩:=Km F c.x f (by omega);obtain⟨aN,az,a8,Q⟩:=Y9 F a6 a7 (by omega);obtain⟨t,m,aa,R⟩:=Y7 F a8 d (JQ hd) (by omega);have ab:Vm _ w 1950000 (198*kp+99*kq+99*kr+466) (198*kp+99*kq+99*kr+466) s l t m _ _:=⟨a5.mono (by omega),aa.mono (by omega)⟩;have h:=ab.cast (x':=wX xp yp xq yq xr yr) (y':=wY xp yp xq yq xr yr) (rfl) (rfl);obtain⟨u,n,v,o,ad,S⟩:=lk F hp h (by omega)
 obtain⟨A,q,ae,T⟩:=Oo F h (by omega);refine⟨u,n,v,o,A,q,ad.mono (by omega) (by omega),ae.mono (by omega),?_⟩;refine CJ Tryz.func54 fun E a=>?_
 conv=>cbv
 refine Am 16 1 a C ?_;try conv=>cbv
 refine Am 16 1 a D ?_;try conv=>cbv
 refine BG ?_;refine Am 16 1 a G ?_;try conv=>cbv
 refine AB a (HZ (by decide) i) ?_;conv=>cbv
 refine Am 16 1 a H ?_;try conv=>cbv
 refine Bc ?_;conv=>cbv
 refine AB a U ?_;conv=>cbv
 intro n40 V;conv=>cbv
 cases n40 <;> conv=>cbv
 ·have af:=Ah V;refine Am 16 1 a I ?_;try conv=>cbv
  refine Am 16 1 a J ?_;try conv=>cbv
  refine BG ?_;refine Am 16 1 a K ?_;try conv=>cbv
  refine Am 16 1 a L ?_;try conv=>cbv
  refine Am 16 1 a M ?_;try conv=>cbv
  refine Am 16 1 a N ?_;try conv=>cbv
  refine Am 16 1 a O ?_;try conv=>cbv
  refine Am 16 1 a P ?_;try conv=>cbv
  refine Am 16 1 a Q ?_;try conv=>cbv
  refine Am 16 1 a R ?_;try conv=>cbv
  refine BG ?_;refine Am 16 1 a S ?_;try conv=>cbv
  refine Am 16 1 a T ?_;try conv=>cbv
  refine Am 16 1 a Y5 ?_;try conv=>cbv
  refine BG ?_;exact AD ⟨⟨rfl,rfl,rfl,rfl,rfl,rfl,rfl,trivial⟩,t2,trivial⟩
 have af:=Aj V;exact absurd af k
theorem lK (F:Fd TT w) (H:Vm TT w 1950000 kp kp Av As Aw Au xp yp) (J:Vm TT w 1950000 kq kq Ay Ax BF BE xq yq) (K:Vm TT w 1950000 kr kr BX BU Ba BZ xr yr) (I:(xq-xp)*(yr-yp)-(yq-yp)*(xr-xp)=0) (L:4*kp+2*kq+2*kr+120<=80000):CF 54 [.agg (Af Av As Aw Au),.agg (Af Ay Ax BF BE),.agg (Af BX BU Ba BZ)] (.AG [(true,(EW [] [] [] [] [] [])),(false,[.int .i64 10])]):=by
 obtain⟨y,q,z,r,j,d⟩:=MT F J H (by omega);obtain⟨A,s,B,t,k,f⟩:=MT F K H (by omega);obtain⟨C,u,l,g⟩:=Y6 F j k (by omega);obtain⟨v,a,m⟩:=Ii F (p:=((2:Int):Rat)) (by decide +kernel);obtain⟨D,x,n,h⟩:=Km F l m (by omega);obtain⟨o,b,G,i⟩:=Gn F n;obtain rfl:o=0:=b.trans (by rw[I];exact (congrArg An (by grind)).trans EZ);refine CJ Tryz.func54 fun E c=>?_
 conv=>cbv
 refine Am 16 1 c d ?_;try conv=>cbv
 refine Am 16 1 c f ?_;try conv=>cbv
 refine BG ?_;refine Am 16 1 c g ?_;try conv=>cbv
 refine AB c (HZ (by decide) a) ?_;conv=>cbv
 refine Am 16 1 c h ?_;try conv=>cbv
 refine Bc ?_;conv=>cbv
 refine AB c i ?_;conv=>cbv
 refine Bc ?_;conv=>cbv
 exact AD ⟨⟨rfl,Bj,Bj,Bj,Bj,Bj,Bj,trivial⟩,t2,trivial⟩
theorem JO (F:Fd TT w) {vs j:Re} {ks i:Nat} {e:Bool} (l:Vm TT w 1950000 ko ko Av As Aw Au xo yo) (hs:Nm TT w 1950000 ks Ay Ax vs) (ha:Vm TT w 1950000 ka ka BF BE BX BU xa ya) (ht:Nm TT w 1950000 i Ba BZ j) (he:e=true↔(xo=xa/\yo=ya)/\vs=j) (m:2*ka+2*ko+2*ks+2*i+443<=80000):CF 57 [.agg (EW Av As Aw Au Ay Ax),.agg (EW BF BE BX BU Ba BZ)] (.one (.bool e)):=by
 obtain⟨k,b⟩:=Dv (xo=xa/\yo=ya);obtain⟨d,a,f,c⟩:=L5 F hs ht;refine CJ Tryz.func57 fun E g=>?_
 conv=>cbv
 refine AB g (Jb F l ha (by omega) (by omega) (by omega) (by omega) b) ?_;conv=>cbv
 cases k <;> conv=>cbv
 ·exact AD ⟨⟨rfl,congrArg _ (by cases e with | false=>rfl | true=>exact absurd (b.2 (he.1 rfl).1) (by simp)),trivial⟩,trivial⟩
 refine AB g c ?_;conv=>cbv
 exact AD ⟨⟨rfl,congrArg _ (by rw[Bool.eq_iff_iff,a,he];exact⟨fun h=>h.2,fun h=>⟨b.1 rfl,h⟩⟩),trivial⟩,trivial⟩
end Go.Abs
namespace Go.Abs
open Go.RowKit
theorem nR:Re.ofRat 2*Re.sqrt (Re.ofRat (1/2))=Re.sqrt (Re.ofRat 2):=by
 refine Re.Hv (Re.IU (JP (by decide +kernel)) (Re.Ev _)) (Re.Ev _) ?_;have a:=Re.DS (JP (q:=1/2) (by decide +kernel));have b:=Re.DS (JP (q:=2) (by decide +kernel));rw[b];have:Re.ofRat 2*Re.sqrt (Re.ofRat (1/2))*(Re.ofRat 2*Re.sqrt (Re.ofRat (1/2)))=Re.ofRat 2*Re.ofRat 2*(Re.sqrt (Re.ofRat (1/2))*Re.sqrt (Re.ofRat (1/2))):=by grind
 rw[this,a,<-Re.ofRat_mul,<-Re.ofRat_mul];exact congrArg Re.ofRat (by decide +kernel)
theorem jl:Re.ofRat 1+(Re.ofRat ((3:Int):Rat)-Re.ofRat 1)*Re.sqrt (Re.ofRat (1/2))=Re.sqrt (Re.ofRat 2)+Re.ofRat ((1:Int):Rat):=by
 rw[D9,show ((3:Int):Rat)-1=2 by decide +kernel,nR,show ((1:Int):Rat)=1 by decide +kernel];grind
theorem ID {x y:Int} {A1 A2:LR} (d: -9223372036854775808<=x/\x<9223372036854775808) (f: -9223372036854775808<=y/\y<9223372036854775808) (a:A1=em [] (Re.ofRat x)) (b:A2=em [] (Re.ofRat y)):CF 166 [.one (.int .i64 x),.one (.int .i64 y)] (.agg (Af [] A1 [] A2)):=by
 refine CJ Tryz.func166 fun E c=>?_
 conv=>cbv
 refine AB c (EC d f a b) ?_;conv=>cbv
 exact AD ⟨⟨rfl,rfl,rfl,rfl,rfl,trivial⟩,trivial⟩
theorem U6:CF 52 [] (.one (.bool true)):=by
 obtain⟨w,F,aA,az⟩:=gY;obtain⟨af,ag,⟨i,j⟩,S⟩:=FL F (p:=((0:Int):Rat)) (q:=((0:Int):Rat)) (by decide +kernel) (by decide +kernel);obtain⟨ah,ai,⟨k,l⟩,T⟩:=FL F (p:=((2:Int):Rat)) (q:=((0:Int):Rat)) (by decide +kernel) (by decide +kernel);obtain⟨aj,ak,⟨m,n⟩,U⟩:=FL F (p:=((0:Int):Rat)) (q:=((2:Int):Rat)) (by decide +kernel) (by decide +kernel);obtain⟨BX,BU,Ba,BZ,aK,aB,H,V,N⟩:=NW F S T U (by (try simp only[<-Re.ofRat_add,<-Re.ofRat_mul,<-Re.ofRat_neg,D9,GI]);exact fun h=>absurd (Re.E0.1 (h.trans Re.Kd.symm)) (by decide +kernel)) (by omega);obtain⟨al,an,⟨o,s⟩,W⟩:=FL F (p:=((-1:Int):Rat)) (q:=((0:Int):Rat)) (by decide +kernel) (by decide +kernel);obtain⟨ao,aq,⟨t,u⟩,X⟩:=FL F (p:=((1:Int):Rat)) (q:=((0:Int):Rat)) (by decide +kernel) (by decide +kernel)
 obtain⟨K,c,b⟩:=Ii F (p:=((1:Int):Rat)) (by decide +kernel);obtain⟨aL,aC,Y,aS,aV⟩:=Rg F b b (d:=70) (by omega) (by (try simp only[<-Re.ofRat_add,<-Re.ofRat_mul,<-Re.ofRat_neg,D9,GI]);exact fun h=>absurd (Re.E0.1 (h.trans Re.Kd.symm)) (by decide +kernel));obtain⟨aM,aD,aN,aE,aO,aF,Z,a1,O⟩:=fV F W X b Y (fun h=>absurd (Re.E0.1 h.1) (by decide +kernel)) (by (try simp only[<-Re.ofRat_add,<-Re.ofRat_mul,<-Re.ofRat_neg,D9,GI]);exact fun h=>absurd (Re.E0.1 (h.trans Re.Kd.symm)) (by decide +kernel)) (by simp only[GI,<-Re.ofRat_mul];exact congrArg Re.ofRat (by decide +kernel)) (by omega);obtain⟨aG,f,g⟩:=Ii F (p:=((2:Int):Rat)) (by decide +kernel);have I:Vm _ w 1950000 1 1 BX BU Ba BZ _ _:=⟨RV F (by decide) (r:=1) (by decide +kernel) H.x (by (try simp only[wX,wY,iX,iY,<-Re.ofRat_add,<-Re.ofRat_mul,<-Re.ofRat_neg,D9,GI]);exact congrArg Re.ofRat (by decide +kernel)),RV F (by decide) (r:=1) (by decide +kernel) H.y (by (try simp only[wX,wY,iX,iY,<-Re.ofRat_add,<-Re.ofRat_mul,<-Re.ofRat_neg,D9,GI]);exact congrArg Re.ofRat (by decide +kernel))⟩
 have J:=RV F (by decide) (r:=2) (by decide +kernel) V (by (try simp only[wX,wY,iX,iY,<-Re.ofRat_add,<-Re.ofRat_mul,<-Re.ofRat_neg,D9,GI]);exact congrArg Re.ofRat (by decide +kernel));obtain⟨ar,au,⟨z,A⟩,a2⟩:=FL F (p:=((1:Int):Rat)) (q:=((1:Int):Rat)) (by decide +kernel) (by decide +kernel);obtain⟨av,aw,⟨B,C⟩,a5⟩:=FL F (p:=((0:Int):Rat)) (q:=((1:Int):Rat)) (by decide +kernel) (by decide +kernel);obtain⟨ax,ay,⟨D,G⟩,a6⟩:=FL F (p:=((3:Int):Rat)) (q:=((1:Int):Rat)) (by decide +kernel) (by decide +kernel);obtain⟨aP,aH,aQ,aI,a7,P⟩:=fW F I J a6 (v:=Re.ofRat (1/2)) (kr:=1) (fun h=>absurd (Re.E0.1 h.1) (by decide +kernel)) (by (try simp only[<-Re.ofRat_add,<-Re.ofRat_mul,<-Re.ofRat_neg,D9,GI]);exact fun h=>absurd (Re.E0.1 (h.trans Re.Kd.symm)) (by decide +kernel)) (by (try simp only[wX,wY,iX,iY,<-Re.ofRat_add,<-Re.ofRat_mul,<-Re.ofRat_neg,D9,GI]);exact congrArg Re.ofRat (by decide +kernel)) aA (by omega)
 have a8:=g.cast (y:=Re.ofRat 2) (congrArg Re.ofRat (by decide +kernel));obtain⟨aR,aJ,aa,aT,Q⟩:=az.get (by omega) a8;obtain⟨M,L,ab,aU,R⟩:=HN F aa b;have ad:Vm _ w 1950000 3 3 M L ([]:List LR) K _ _:=⟨ab.mono (by omega),b.mono (by omega)⟩;have ae:=a7.cast (x':=(Re.ofRat (1))+(((Re.ofRat ((3:Int):Rat))-(Re.ofRat (1)))*(Re.sqrt (Re.ofRat (1/2))))) (y':=Re.ofRat 1) (rfl) (by rw[show Re.ofRat ((1:Int):Rat)=Re.ofRat 1 from congrArg Re.ofRat (by decide +kernel)];grind);refine CJ Tryz.func52 fun E a=>?_
 conv=>cbv
 refine AB a (ID (x:=0) (y:=0) (by decide) (by decide) i j) ?_;conv=>cbv
 refine AB a (ID (x:=2) (y:=0) (by decide) (by decide) k l) ?_;conv=>cbv
 refine AB a (ID (x:=0) (y:=2) (by decide) (by decide) m n) ?_;conv=>cbv
 refine AB a N ?_;conv=>cbv
 refine AB a (ID (x:= -1) (y:=0) (by decide) (by decide) o s) ?_;conv=>cbv
 refine AB a (ID (x:=1) (y:=0) (by decide) (by decide) t u) ?_;conv=>cbv
 refine AB a (HZ (by decide) c) ?_;conv=>cbv
 refine AB a O ?_;conv=>cbv
 refine AU ?_;conv=>cbv
 refine AU ?_;conv=>cbv
 refine AB a (ID (x:=1) (y:=1) (by decide) (by decide) z A) ?_;conv=>cbv
 refine AB a (HZ (by decide) f) ?_;conv=>cbv
 refine AB a (JO F I J a2 g (e:=true) ⟨fun _=>⟨⟨congrArg Re.ofRat (by decide +kernel),congrArg Re.ofRat (by decide +kernel)⟩,congrArg Re.ofRat (by decide +kernel)⟩,fun _=>rfl⟩ (by omega)) ?_;conv=>cbv
 refine AU ?_;conv=>cbv
 refine AB a (ID (x:=0) (y:=1) (by decide) (by decide) B C) ?_;conv=>cbv
 refine AB a (HZ (by decide) f) ?_;conv=>cbv
 refine AB a (JO F Z a1 a5 g (e:=true) ⟨fun _=>⟨⟨by (try simp only[wX,wY,iX,iY,<-Re.ofRat_add,<-Re.ofRat_mul,<-Re.ofRat_neg,D9,GI]);exact congrArg Re.ofRat (by decide +kernel),by (try simp only[wX,wY,iX,iY,<-Re.ofRat_add,<-Re.ofRat_mul,<-Re.ofRat_neg,D9,GI]);exact congrArg Re.ofRat (by decide +kernel)⟩,by (try simp only[wX,wY,iX,iY,<-Re.ofRat_add,<-Re.ofRat_mul,<-Re.ofRat_neg,D9,GI]);exact congrArg Re.ofRat (by decide +kernel)⟩,fun _=>rfl⟩ (by omega)) ?_;try conv=>cbv
 refine AU ?_;conv=>cbv
 refine BG ?_;refine AB a (ID (x:=3) (y:=1) (by decide) (by decide) D G) ?_;conv=>cbv
 refine AB a P ?_;conv=>cbv
 refine BG ?_;refine AB a (HZ (by decide) f) ?_;conv=>cbv
 refine AB a Q ?_;conv=>cbv
 refine AB a (HZ (by decide) c) ?_;conv=>cbv
 refine AB a R ?_;conv=>cbv
 refine BG ?_;refine Bc ?_;conv=>cbv
 refine AB a (HZ (by decide) c) ?_;conv=>cbv
 refine AB a (Jb F ae ad (by omega) (by omega) (by omega) (by omega) (e:=true) ⟨fun _=>⟨jl,congrArg Re.ofRat (by decide +kernel)⟩,fun _=>rfl⟩) ?_;conv=>cbv
 refine BG ?_;exact AD ⟨t2,trivial⟩
end Go.Abs
