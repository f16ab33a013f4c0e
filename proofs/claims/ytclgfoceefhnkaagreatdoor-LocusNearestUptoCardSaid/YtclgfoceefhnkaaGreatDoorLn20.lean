/- Part 21 of a proof. Conditions: each theorem's own. -/
import Derived.Test.YtclgfoceefhnkaaGreatDoorLn18
import Derived.Test.YtclgfoceefhnkaaGreatDoorLn19
set_option linter.all false
set_option maxHeartbeats 80000000
set_option maxRecDepth 20000
open Go.Proofs
namespace Go.Abs
section
open Go.RowKit
structure EM (h R s:Nat):Prop where
 q:SS h R s<=60000000000000
 v:VV h R (s+GG h R)<=60000000000000
 qR:SS h R R<=60000000000000
 vR:VV h R R<=60000000000000
variable {A B:LR} {R':Nat} {T T2:List LR} {r:List Rat} {u:List (List Rat)} {v x:Re}
theorem EM.v0 {h R s:Nat} (f:EM h R s):VV h R s<=60000000000000:=Nat.le_trans (H9 h R (by omega)) f.v
theorem EM.s {h R s:Nat} (f:EM h R s):s<=60000000000000:=Nat.le_trans (Ux h R s) f.q
theorem EM.mono {h R s t:Nat} (f:EM h R s) (ht:t<=s):EM h R t:=⟨Nat.le_trans (Nz h R ht) f.q,Nat.le_trans (H9 h R (by omega)) f.v,f.qR,f.vR⟩
theorem dk:∀(h R s:Nat),SS h R s<=SS (h+1) R s:=fun h R s=>Nat.le_trans (Nz h R (by unfold TQ;omega)) (Uw h R s)
theorem dj {i h:Nat} (a:i<=h) (R s:Nat):SS i R s<=SS h R s:=by
 induction a with
 | refl=>exact Nat.le_refl _
 | step _ b=>exact Nat.le_trans b (dk _ _ _)
theorem fa {R s:Nat} (h:BF R u) (D:T=tw u) (F:A=em u x) (H:El u s x) (n:EM u.length R s) {w:Re} (hw:In u w) (d:w*w=x) (I:IC u x w) (j:0<=v) (k:v*v=x) (z:B=em u v):CF 318 [.one (.sl (.sl AA) T),.one (.sl AA A)] (.AI [(false,[.sl AA B]),(false,[.bool true])]):=by
 have l:=H.sqrt h hw d;refine AG Tryz.func318 fun E m=>?_
 obtain⟨L,a⟩:=xR (em u w);refine AB m (I D F a) ?_;refine BH ?_;obtain⟨J,g⟩:=xI (Bm w);refine AB m (HB h D a l n.v (Nat.le_trans (Fw _ _ _) n.v) n.vR g) ?_;intro t f;refine .inr ?_;cases t <;> conv=>cbv
 ·have o:=Dw f;exact AE ⟨⟨rfl,congrArg _ (by rw[z,a];congr 1;have:¬w<0:=(fun G=>by have:=JF.2 G;omega);exact Re.Lk j (by grind) (k.trans d.symm)),trivial⟩,t2,trivial⟩
 have o:=Dx f;obtain⟨M,b⟩:=xR (em u (-w));refine AB m (Kf h a l b) ?_;exact AE ⟨⟨rfl,congrArg _ (by rw[z,b];congr 1;have:w<0:=JF.1 (by omega);exact Re.Lk j (by grind) (by rw[k,<-d];grind)),trivial⟩,t2,trivial⟩
theorem fZ {B:LR} {R s:Nat} (h:BF R u) (d:T=tw u) (a:A=em u x) (j:El u s x) (g:EM u.length R s) {l:LR} (f:IB u x l):CF 318 [.one (.sl (.sl AA) T),.one (.sl AA A)] (.AI [(false,[.sl AA (([]:LR))]),(false,[.bool false])]):=by
 refine AG Tryz.func318 fun E b=>?_
 refine AB b (f d a) ?_;refine CU ?_;exact AE ⟨⟨rfl,AL,trivial⟩,t2,trivial⟩
theorem ff {R s:Nat} (h:BF R u) (m:T=tw u) (k:A=em u x) (j:El u s x) (b:EM u.length R s) (n:In u v) (f:0<=v) (a:v*v=x) (l:B=em u v):CF 318 [.one (.sl (.sl AA) T),.one (.sl AA A)] (.AI [(false,[.sl AA B]),(false,[.bool true])]):=by
 rcases US h j b.q b.vR with⟨w,hw,g,o⟩ |⟨d,_⟩
 ·exact fa h m k j b hw g o f a l
 exact absurd ⟨v,n,a⟩ d
theorem fY {R s:Nat} (h:BF R u) (j:T=tw u) (g:A=em u x) (f:El u s x) (a:EM u.length R s) (b:¬Sq u x):CF 318 [.one (.sl (.sl AA) T),.one (.sl AA A)] (.AI [(false,[.sl AA []]),(false,[.bool false])]):=by
 rcases US h f a.q a.vR with⟨w,hw,d,m⟩ |⟨_,l,k⟩
 ·exact absurd ⟨w,hw,d⟩ b
 exact fZ (B:=[]) h j g f a k
theorem Qn {R:Nat} (h:BF R u) (D:T=tw u) (hv:VV u.length R R<=60000000000000) (hq:SS u.length R R<=60000000000000):CF 231 [.one (.sl (.sl AA) T)] (.one (.bool true)):=by
 have ai:T.length=u.length:=by rw[D,CG]
 have hR:=h.hR;refine AG Tryz.func231 fun E X=>?_
 refine BN [] [0,3] [] (fun vs bl k=>∃(i':Nat) (i:Int),vs=[.one (.sl (.sl AA) T),.one (.int .i64 i)]/\(AO i i'/\i'<=T.length)/\k=T.length-i') (T.length-0) ⟨0,0,rfl,⟨BD 0,by omega⟩,rfl⟩ ?_;rintro J0 Y vs bl al ⟨i',i,rfl,⟨hi,aj⟩,ak⟩;have ei:=hi.eq;refine AS ?_;rintro n8 ⟨e8,f8⟩;refine BW (fun k9=>?_) fun k9=>?_
 ·exact AE ⟨t2,trivial⟩
 refine .inr ?_;refine AK ?_;intro an ae Q aa a2 F;refine AW i' fun au M=>?_
 try conv=>cbv
 obtain⟨r,L,J⟩:=KI (u:=u) (i:=i') (by omega);have j:AU (r::pre u i'):=L ▸ (h.pre (i'+1)).red;have m:∀x,T[i']? =some x->x=em (pre u i') (AM (pre u i') r):=fun x hx=>by rw[<-D,hx] at J;exact (Option.some.inj J).trans (Ea j)
 have o:=m _ M;have g:El (pre u i') R (AM (pre u i') r):=El.Cz (L ▸ h.pre (i'+1));have b:a2=tw (pre u i'):=by rw[F,List.drop_zero,show Q=i' by omega,D,Ie]
 have I:(pre u i').length<=u.length:=by rw[JM (by omega)];omega
 have n:VV (pre u i').length R R<=60000000000000:=Nat.le_trans (MB I R R) hv;have Z:SS (pre u i').length R R<=60000000000000:=Nat.le_trans (dj I R R) hq;refine AB X (MC (h.pre i') b o g hR) ?_;refine BH ?_;intro ao af U ab a5 G;refine AW i' fun av N=>?_
 try conv=>cbv
 have d:a5=tw (pre u i'):=by rw[G,List.drop_zero,show U=i' by omega,D,Ie]
 have s:=m _ N;obtain⟨ar,a⟩:=xI (Bm (AM (pre u i') r));refine AB X (HB (h.pre i') d s g n hR n a) ?_;intro a8 z;cases a8 <;> conv=>cbv
 ·have P:=Mz z;refine AK ?_;intro aq ag W ad a6 H;refine AW i' fun aw O=>?_
  try conv=>cbv
  have f:a6=tw (pre u i'):=by rw[H,List.drop_zero,show W=i' by omega,D,Ie]
  have t:=m _ O;obtain⟨l,hn⟩:=((US (h.pre i') g Z n).resolve_left (fun⟨w,hw,a1,_⟩=>j.2.2.2 ⟨w,hw,a1⟩)).2;refine AB X (hn f t) ?_;intro a7 ah;exact Ba Y ⟨i'+1,a7,rfl,⟨⟨by omega⟩,by omega⟩,rfl⟩
 have P:=M0 z;exact absurd P (by rw[a,G1 j.2.2.1];omega)
theorem eF {R s:Nat} (h:BF R u) (m:T=tw u) (k:A=em u x) (n:El u s x) (f:EM u.length R s) (t:In u v) (g:0<=v) (b:v*v=x) (o:B=em u v):CF 266 [.one (.sl (.sl AA) T),.one (.sl AA A)] (.AI [(false,[.sl (.sl AA) T]),(false,[.sl AA B]),(false,[.int .i64 0])]):=by
 have j:0<=x:=by rw[<-b];exact Re.Ft v
 refine AG Tryz.func266 fun E l=>?_
 obtain⟨z,a⟩:=xI (Bm x);refine AB l (HB h m k n f.v0 f.s f.vR a) ?_;refine Cw (fun d=>?_) fun d=>?_
 ·exact (JH a d j).elim
 refine AB l (ff h m k n f t g b o) ?_;exact AE ⟨t2,t2,t2,trivial⟩
theorem eH {R s:Nat} (h:BF R u) (D:T=tw u) (G:A=em u x) (Q:El u s x) (z:EM u.length R s) (h8:u.length<8) (N:0<=x) (M:¬Sq u x) (Y:r=co u x) (h':BF R' (r::u)) (I:T2=tw (r::u)) (W:B=em (r::u) (rt u r)):CF 266 [.one (.sl (.sl AA) T),.one (.sl AA A)] (.AI [(false,[.sl (.sl AA) T2]),(false,[.sl AA B]),(false,[.int .i64 0])]):=by
 have J:T.length=u.length:=by rw[D,CG]
 have X:=h.ht;refine AG Tryz.func266 fun E H=>?_
 obtain⟨a2,f⟩:=xI (Bm x);refine AB H (HB h D G Q z.v0 z.s z.vR f) ?_;refine Cw (fun o=>?_) fun o=>?_
 ·exact (JH f o N).elim
 refine AB H (fY h D G Q z M) ?_;rintro Z ⟨U,f24⟩;refine Nh (fun t=>?_) fun t=>?_
 ·exact absurd t (by omega)
 refine⟨[],fun _=>⟨rfl,by decide,rfl,trivial⟩,.inl ?_⟩;try conv=>cbv
 refine .inl ⟨T,fun _=>⟨rfl,rfl,rfl,by show (0+T.length)*24<=140737488355328;(try simp only[List.length_take,List.length_drop]);omega⟩,?_⟩;intro (b:List (el (.sl AA))) O g;have d:b=([]:List (el (.sl AA)))++(T:List (el (.sl AA))):=g.1;have m:O=List.length (α:=(el (.sl AA))) b:=g.2;conv=>cbv
 refine⟨[A],fun _=>⟨rfl,by decide,rfl,⟨rfl,by first | exact t1 | exact t2 | exact t4 | simp[BR,BV,cells],trivial⟩⟩,.inr ?_⟩;try conv=>cbv
 have L:b.length=T.length:=by rw[d];simp
 refine .inr (.inl ⟨[A],fun _=>⟨rfl,m,rfl,by show (b.length+1)*24<=140737488355328;(try simp only[List.length_take,List.length_drop]);omega⟩,?_⟩);intro (k:List (el (.sl AA))) P j;have l:k=(b:List (el (.sl AA)))++([A]:List (el (.sl AA))):=j.1;have n:P=List.length (α:=(el (.sl AA))) k:=j.2;conv=>cbv
 refine⟨fun _=>n,?_⟩;rintro a1 ⟨F,f35⟩;conv=>cbv
 have a:k=tw (r::u):=by rw[l,d,D,Nc,G,em,Y];rfl
 refine AB H (eh h' a (AO.of (F.trans (congrArg _ J))) W) ?_;exact AE ⟨⟨rfl,congrArg _ (by rw[I,a]),trivial⟩,t2,t2,trivial⟩
theorem et {R s:Nat} (h:BF R u) (d:T=tw u) (j:A=em u x) (k:El u s x) (a:EM u.length R s) (m:In u v) (f:0<=v) (g:v*v=x) (l:B=em u v):CF 189 [.one (.sl (.sl AA) T),.one (.sl AA A)] (.AI [(false,[.sl (.sl AA) T]),(false,[.sl AA B]),(false,[.int .i64 0])]):=by
 refine AG Tryz.func189 fun E b=>?_
 refine AB b (Qn h d a.vR a.qR) ?_;refine BH ?_;refine AB b (MC h d j k a.s) ?_;refine BH ?_;refine AB b (eF h d j k a m f g l) ?_;exact AE ⟨t2,t2,t2,trivial⟩
theorem eu {R s:Nat} (h:BF R u) (d:T=tw u) (k:A=em u x) (l:El u s x) (a:EM u.length R s) (m:u.length<8) (j:0<=x) (g:¬Sq u x) (o:r=co u x) (h':BF R' (r::u)) (f:T2=tw (r::u)) (n:B=em (r::u) (rt u r)):CF 189 [.one (.sl (.sl AA) T),.one (.sl AA A)] (.AI [(false,[.sl (.sl AA) T2]),(false,[.sl AA B]),(false,[.int .i64 0])]):=by
 refine AG Tryz.func189 fun E b=>?_
 refine AB b (Qn h d a.vR a.qR) ?_;refine BH ?_;refine AB b (MC h d k l a.s) ?_;refine BH ?_;refine AB b (eH h d k l a m j g o h' f n) ?_;exact AE ⟨t2,t2,t2,trivial⟩
theorem U9 {R s:Nat} (h:BF R u) (h':BF R' (BC u v)) (l:(BC u v).length<=8) (g:T=tw u) (m:A=em u v) (k:El u s v) (n:EM u.length R s) (f:0<=v) (a:T2=tw (BC u v)) (b:B=em (BC u v) (Re.sqrt v)):
  CF 189 [.one (.sl (.sl AA) T),.one (.sl AA A)] (.AI [(false,[.sl (.sl AA) T2]),(false,[.sl AA B]),(false,[.int .i64 0])]):=by
 by_cases d:Sq u v
 ·rw[Df d] at a b;have j:T2=T:=a.trans g.symm;subst j;exact et h g m k n ((KQ f).1 d) (Re.Ll v) (Re.G5 f) b
 rw[DG d] at h' l a b;rw[<-Ik k.mem] at b;exact eu h g m k n (by rw[List.length_cons] at l;omega) f d rfl h' a b
end
section
open Go.RowKit
variable {R i:Nat} {c:Bool} {u w:List (List Rat)}
theorem bI {α:Type} {X Y:List α} {x y:α} (a:X[i]? =some x) (b:Y[i]? =some y) (h:X.take i=Y.take i) (e:x=y):X.take (i+1)=Y.take (i+1):=by
 rw[DO a,DO b,h,e]
theorem bJ {α:Type} {X Y:List α} {n:Nat} {x y:α} (d:X[i]? =some x) (f:Y[i]? =some y) (b:i<n) (e:x≠y):X.take n≠Y.take n:=by
 intro h;apply e;have a:(X.take n)[i]? =(Y.take n)[i]? :=by rw[h]
 rw[List.getElem?_take,List.getElem?_take,if_pos b,if_pos b,d,f] at a;exact Option.some.inj a
theorem fg {X Y:LR} {xs ys:List Rat} (Z:X=BI xs) (hY:Y=BI ys) (hs:D8 xs) (ht:D8 ys) (s:c=decide (X=Y)):CF 330 [.one (.sl AA X),.one (.sl AA Y)] (.one (.bool c)):=by
 refine AG Tryz.func330 fun E W=>?_
 rintro n7 ⟨e7,f7⟩ n9 ⟨e9,f9⟩;refine Fa (fun F=>?_) fun F=>?_
 ·exact AF (by rw[s,decide_eq_false];intro e;have:=congrArg List.length e;omega)
 refine BN [] [0,1,5] [] (fun vs O k=>∃(i':Nat) (i:Int),vs=[.one (.sl AA X),.one (.sl AA Y),.one (.int .i64 i)]/\(AO i i'/\i'<=Y.length/\Y.length<=X.length)/\X.take i'=Y.take i'/\k=Y.length-i') (Y.length-0) ⟨0,0,rfl,⟨BD 0,by omega,by omega⟩,rfl,rfl⟩ ?_;rintro J0 m vs O a7 ⟨i',i,rfl,⟨hi,a1,o⟩,hinv,a2⟩;have ei:=hi.eq;refine AS ?_;rintro a8 ⟨P,f13⟩;refine BW (fun G=>?_) fun G=>?_
 ·have hl:X.length=Y.length:=by omega
  exact AF (by rw[s,decide_eq_true];have:=hinv;rwa [List.take_of_length_le (by omega),List.take_of_length_le (by omega)] at this)
 refine .inr ?_;refine AW i' fun j b=>?_
 try conv=>cbv
 refine AW i' fun l d=>?_
 try conv=>cbv
 obtain⟨p,M,a5,z⟩:=IS Z hs b;obtain⟨q,N,a6,D⟩:=IS hY ht d;have g:j=rp p:=M.rp.symm;have h:l=rp q:=N.rp.symm;obtain⟨L,a⟩:=xI (Gu p q);refine AB W (eV M N z D a) ?_;intro J f;cases J <;> conv=>cbv
 ·have H:=Ht f;refine AK ?_;intro I U;exact Ba m ⟨i'+1,I,rfl,⟨⟨by omega⟩,by omega,o⟩,bI b d hinv (by rw[g,h];congr 1;have:=RK p q;rw[<-a,show L=0 by omega] at this;exact of_decide_eq_true this),rfl⟩
 have H:=Hu f;have t:j≠l:=fun e=>by have Q:=TP (g.symm.trans (e.trans h));have:=RK p q;rw[decide_eq_true Q,<-a] at this;simp at this;omega
 exact AF (by rw[s,decide_eq_false];intro e;exact bJ (n:=i'+1) b d (by omega) t (by rw[e]))
theorem fC {X Y:List LR} (hu:BF R u) (hw:BF R w) (O:X=tw u) (P:Y=tw w) (m:c=(decide (Y.length<=X.length)&&decide (X.take Y.length=Y))):CF 272 [.one (.sl (.sl AA) X),.one (.sl (.sl AA) Y)] (.one (.bool c)):=by
 refine AG Tryz.func272 fun E N=>?_
 rintro n7 ⟨e7,f7⟩ n9 ⟨e9,f9⟩;refine FJ (fun z=>?_) fun z=>?_
 ·exact AF (by rw[m,decide_eq_false (show ¬Y.length<=X.length by omega)];rfl)
 refine BN [] [0,1,5] [] (fun vs J k=>∃(i':Nat) (i:Int),vs=[.one (.sl (.sl AA) X),.one (.sl (.sl AA) Y),.one (.int .i64 i)]/\(AO i i'/\i'<=Y.length/\Y.length<=X.length)/\X.take i'=Y.take i'/\k=Y.length-i') (Y.length-0) ⟨0,0,rfl,⟨BD 0,by omega,by omega⟩,rfl,rfl⟩ ?_;rintro J0 j vs J a1 ⟨i',i,rfl,⟨Q,U,l⟩,hinv,W⟩;have ei:=Q.eq;refine AS ?_;rintro a2 ⟨L,f13⟩;refine BW (fun D=>?_) fun D=>?_
 ·exact AF (by rw[m,decide_eq_true (show Y.length<=X.length by omega),decide_eq_true];rfl;rw[show Y.length=i' by omega,hinv,List.take_of_length_le (by omega)])
 refine .inr ?_;refine AW i' fun g b=>?_
 try conv=>cbv
 refine AW i' fun h d=>?_
 try conv=>cbv
 obtain⟨p,Z,s⟩:=Jv O b;obtain⟨q,hq,t⟩:=Jv P d;obtain⟨I,a⟩:=xB (decide (g=h));refine AB N (fg Z hq ((hu.tb p (List.mem_reverse.1 (List.mem_of_getElem? s))).CT hu.hR) ((hw.tb q (List.mem_reverse.1 (List.mem_of_getElem? t))).CT hw.hR) a) ?_;intro H f;cases H <;> conv=>cbv
 ·have F:=GD f;refine AK ?_;intro G M;exact Ba j ⟨i'+1,G,rfl,⟨⟨by omega⟩,by omega,l⟩,bI b d hinv (of_decide_eq_true (by rw[<-a];exact GD f)),rfl⟩
 have F:=GF f;have o:g≠h:=of_decide_eq_false (by rw[<-a];exact GF f);exact AF (by rw[m,decide_eq_false (p:=X.take Y.length=Y),Bool.and_false];intro e;exact bJ (n:=Y.length) b d (by omega) o (by rw[e,List.take_length]))
theorem N8 {X Y:List LR} (hu:BF R u) (hw:BF R w) (a:X=tw u) (b:Y=tw w) (h:c=true↔w<:+u):CF 272 [.one (.sl (.sl AA) X),.one (.sl (.sl AA) Y)] (.one (.bool c)):=
 fC hu hw a b (by rw[Bool.eq_iff_iff,h,UC,Bool.and_eq_true,decide_eq_true_eq,decide_eq_true_eq,a,b])
theorem Qq {T:List LR} {A C:LR} {x:Re} (h:BF R w) (hT:T=tw w) (X:A=em u x) (hx:In u x) (hu:u<:+w) (hC:C=em w x):CF 274 [.one (.sl (.sl AA) T),.one (.sl AA A)] (.one (.sl AA C)):=by
 have N:T.length=w.length:=by rw[hT,CG]
 have a5:=h.ht;have a2:A.length=2^u.length:=by rw[X,Bn hx]
 have Q:=hu.length_le;have hle:2^u.length<=2^w.length:=Cb Q;have Z:=DX h.ht;have D:=XJ hu h.red hx;refine AG Tryz.func274 fun E hE=>?_
 refine⟨[],fun _=>⟨rfl,by decide,rfl,trivial⟩,.inl ?_⟩;try conv=>cbv
 refine .inl ⟨A,fun _=>⟨rfl,rfl,rfl,by show (0+A.length)*64<=140737488355328;(try simp only[List.length_take,List.length_drop]);omega⟩,?_⟩;intro (H:LR) n8 G;have s:H=([]:LR)++(A:LR):=G.1;have P:n8=List.length (α:=(el AA)) H:=G.2;conv=>cbv
 refine BN [] [0,5] [6] (fun vs W k=>∃(o:LR) (mm j:Nat),vs=[.one (.sl (.sl AA) T),.one (.AZ AA 6 0 0 mm)]/\W=[.arr 0 AA o]/\(mm=o.length/\o.length=2^u.length+j/\o.length<=2^w.length)/\o=A++List.replicate j (rp 0)/\k=2^w.length-o.length) (2^w.length-H.length) ⟨H,n8,0,rfl,rfl,⟨P,by rw[s];simp;omega,by rw[s];simp;omega⟩,by rw[s];simp,rfl⟩ ?_;rintro J0 M vs W aa ⟨o,mm,j,rfl,rfl,⟨t,a7,a8⟩,hinv,a6⟩;conv=>cbv
 intro ab J;have a1:=J.eq;refine AK ?_;rintro ad ⟨I,f12⟩ ae L;have Y:=(FA L (I.trans (congrArg _ N))).eq;refine BW (fun U=>?_) fun U=>?_
 ·exact AE ⟨⟨rfl,.inl ⟨_,rfl,by omega,congrArg _ (by rw[hC,t,List.drop_zero,List.take_length,hinv,D,X,show j=2^w.length-2^u.length by omega])⟩,trivial⟩,trivial⟩
 refine .inr ?_;obtain⟨d,f,a,b,m⟩:=CA (((0:Int):Rat));refine AB hE (EN (by omega) rfl m) ?_;refine⟨[((d,f),(a,b))],fun _=>⟨rfl,by decide,rfl,⟨rfl,by first | exact t1 | exact t2 | exact t4 | simp[BR,BV,cells],trivial⟩⟩,.inr ?_⟩;try conv=>cbv
 refine .inl ⟨[((d,f),(a,b))],fun _=>⟨rfl,t,rfl,by show (o.length+1)*64<=140737488355328;(try simp only[List.length_take,List.length_drop]);omega⟩,?_⟩;intro (g:LR) F n;have l:g=(o:LR)++([((d,f),(a,b))]:LR):=n.1;have z:F=List.length (α:=(el AA)) g:=n.2;conv=>cbv
 have O:g.length=o.length+1:=by rw[l];simp
 exact Ba M ⟨g,F,j+1,rfl,rfl,⟨z,by omega,by omega⟩,by rw[l,hinv,List.replicate_succ',List.append_assoc,<-m.rp];rfl,rfl⟩
end
section
open Go.RowKit
structure C3 (T:List (List Rat)->Prop) (R C S:Nat):Prop extends Gam T R C S where
 GV:∀{u},T u->EM u.length R (S+C)
def VB (S:Nat) (w u:List (List Rat)):Prop:=∀{T RL:List LR} {A C:LR} {x:Re},T=tw w->Fi w RL u->A=em u x->El u S x->C=em w x->
 CF 275 [.one (.sl (.sl AA) T),.one (.sl (.sl AA) RL),.one (.sl AA A)] (.one (.sl AA C))
def VC (S:Nat) (w u:List (List Rat)):Prop:=∀{T RL:List LR} {A C:LR} {x:Re} {mm:Nat},T=tw w->Fi w RL u->mm=RL.length->A=em u x->El u S x->C=em w x->
 Bv Tryz.prog 275 [.one (.sl (.sl AA) T),.one (.AZ (.sl AA) 0 0 0 mm),.one (.sl AA A)] (.arr 0 (.sl AA) RL) (.one (.sl AA C))
variable {A C:LR} {K R S mm:Nat} {RL T:List LR} {TT:List (List Rat)->Prop} {p x:Re} {q:Rat} {r:List Rat} {u w:List (List Rat)}
theorem fG {u:List (List Rat)} {x:Re} (G:Gam TT R K S) (hw:TT w) (l:T=tw w) (g:A=em [] (Re.ofRat q)) (o:CR q) (j:C=em w (Re.ofRat q)):CF 275 [.one (.sl (.sl AA) T),.one (.sl (.sl AA) RL),.one (.sl AA A)] (.one (.sl AA C)):=by
 have a:A=[rp q]:=g.trans (EB q);have h:A.length=1:=by rw[a];rfl
 refine AG Tryz.func275 fun E k=>?_
 rintro m ⟨f,f12⟩;refine CH (fun d=>?_) fun d=>?_
 ·exact absurd d (by omega)
 refine AW 0 fun n b=>?_
 try conv=>cbv
 refine AB k (Gp (G.BG hw) l (E7 a b) j) ?_;exact AE ⟨t2,trivial⟩
theorem fH (G:Gam TT R K S) (hw:TT w) (O:T=tw w) {q:Re} (hu:TT (r::u)) (b:BT (r::u) w) (ih:VB S w u) (hR:Fi w RL (r::u)) (Y:A=em (r::u) x) (hx:El (r::u) S x) (n:x=p+q*rt u r) (P:El u S p) (J:El u S q) (hC:C=em w x):CF 275 [.one (.sl (.sl AA) T),.one (.sl (.sl AA) RL),.one (.sl AA A)] (.one (.sl AA C)):=by
 have m:=(G.BG hu).red;have o:A.length=2^u.length+2^u.length:=by rw[Y,Bn hx.mem,B8]
 have ay:=DI u.length;have av:(r::u).length<=8:=G.ht hu;have af:(r::u).length=u.length+1:=rfl;have hmul:=G.mul hw;have a:El w K (rt u r):=by have:=G.CL hu hw b (IL m);rwa [Nat.zero_add] at this
 obtain⟨wk,a5,L,z⟩:=hR.2;obtain⟨rk,M⟩:=xR (em wk (rt u r));rw[<-M] at z;refine AG Tryz.func275 fun E s=>?_
 rintro aC ⟨aj,f12⟩;refine BO (fun N=>?_) fun N=>?_
 ·exact absurd N (by omega)
 rintro aD ⟨ak,f20⟩ aa aq;refine BN [] [0,1,2,7,8] [] (fun vs bl k=>∃(k':Nat) (Q kk:Int),vs=[.one (.sl (.sl AA) T),.one (.sl (.sl AA) RL),.one (.sl AA A),.one (.int .i64 Q),.one (.int .i64 kk)]/\bl=[]/\(AO Q (A.length/2)/\AO kk k'/\k'<=u.length)/\k=u.length-k') (u.length-0) ⟨0,aa,0,rfl,rfl,⟨⟨by omega⟩,BD 0,by omega⟩,rfl⟩ ?_;rintro J0 Z vs bl az ⟨k',Q,kk,rfl,rfl,⟨t,a1,ax⟩,aw⟩;have an:=t.eq;have ao:=a1.eq;refine AK ?_;rintro aE ar aF X aG ⟨al,f26⟩;have ah:=(FA (k:=k'+1) X (by omega)).eq;refine Cw (fun a6=>?_) fun a6=>?_
 ·refine .inr ?_;have a2:k'<u.length:=LI o (show 2^(k'+1)<A.length by omega);refine AK ?_;intro ab au;exact Ba Z ⟨k'+1,Q,ab,rfl,rfl,⟨t,⟨by omega⟩,by omega⟩,rfl⟩
 have a2:k'=u.length:=by have:=LH o (show ¬2^(k'+1)<A.length by omega);omega
 refine AK ?_;intro aA ag W ae a7 F;have j:a7=em u p:=by rw[F,List.drop_zero,show W=A.length/2 by omega,Y,Cs m P.mem J.mem n]
 obtain⟨aH,d⟩:=xR (em w (p));refine AB s (ih O hR.1 j P d) ?_;rintro aB I U ai ⟨ad,D⟩ a8 H;have l:a8=em u q:=by rw[H,show U=A.length/2 by omega,D,I,List.take_length,Y,Ca m P.mem J.mem n]
 obtain⟨aI,f⟩:=xR (em w (q));refine AB s (ih O hR.1 l J f) ?_;refine D6 z ?_;obtain⟨aJ,g⟩:=xR (em w (rt u r));refine AB s (Qq (G.BG hw) O M L a5 g) ?_;obtain⟨aK,h⟩:=xR (em w (q*rt u r));refine AB s (D9 (G.BG hw) O f g (G.CL (G.sub hu) hw b.tail J) a (by omega) h) ?_;refine AB (r:= .one (.sl AA C)) s (Ji (G.BG hw) d h (G.CL (G.sub hu) hw b.tail P) ((G.CL (G.sub hu) hw b.tail J).mul (G.BG hw) a) (by omega) (by omega) (by rw[hC,n])) ?_;exact AE ⟨t2,trivial⟩
theorem fI {u:List (List Rat)} {x:Re} (m:mm=RL.length) (G:Gam TT R K S) (hw:TT w) (l:T=tw w) (g:A=em [] (Re.ofRat q)) (s:CR q) (j:C=em w (Re.ofRat q)):Bv Tryz.prog 275 [.one (.sl (.sl AA) T),.one (.AZ (.sl AA) 0 0 0 mm),.one (.sl AA A)] (.arr 0 (.sl AA) RL) (.one (.sl AA C)):=by
 have a:A=[rp q]:=g.trans (EB q);have h:A.length=1:=by rw[a];rfl
 refine CK Tryz.func275 fun E k=>?_
 refine AS ?_;rintro n ⟨f,f12⟩;refine CH (fun d=>?_) fun d=>?_
 ·exact absurd d (by omega)
 refine AW 0 fun o b=>?_
 try conv=>cbv
 refine AB k (Gp (G.BG hw) l (E7 a b) j) ?_;refine fun _=>⟨⟨⟨t2,trivial⟩,rfl,by simp⟩,rfl⟩
theorem fJ (P:mm=RL.length) (G:Gam TT R K S) (hw:TT w) (hT:T=tw w) {q:Re} (hu:TT (r::u)) (b:BT (r::u) w) (ih:VC S w u) (hR:Fi w RL (r::u)) (hA:A=em (r::u) x) (hx:El (r::u) S x) (D:x=p+q*rt u r) (hp:El u S p) (Q:El u S q) (hC:C=em w x):Bv Tryz.prog 275 [.one (.sl (.sl AA) T),.one (.AZ (.sl AA) 0 0 0 mm),.one (.sl AA A)] (.arr 0 (.sl AA) RL) (.one (.sl AA C)):=by
 have t:=(G.BG hu).red;have H:A.length=2^u.length+2^u.length:=by rw[hA,Bn hx.mem,B8]
 have aD:=DI u.length;have aA:(r::u).length<=8:=G.ht hu;have aj:(r::u).length=u.length+1:=rfl;have hmul:=G.mul hw;have a:El w K (rt u r):=by have:=G.CL hu hw b (IL t);rwa [Nat.zero_add] at this
 obtain⟨wk,aa,U,d⟩:=hR.2;obtain⟨rk,f⟩:=xR (em wk (rt u r));rw[<-f] at d;refine CK Tryz.func275 fun E I=>?_
 refine AS ?_;rintro aH ⟨aq,f12⟩;refine BO (fun X=>?_) fun X=>?_
 ·exact absurd X (by omega)
 rintro aI ⟨ar,f20⟩ ad ax;refine BN [] [0,1,2,7,8] [0] (fun vs bl k=>∃(k':Nat) (hv kk:Int),vs=[.one (.sl (.sl AA) T),.one (.AZ (.sl AA) 0 0 0 mm),.one (.sl AA A),.one (.int .i64 hv),.one (.int .i64 kk)]/\bl=[.arr 0 (.sl AA) RL]/\(AO hv (A.length/2)/\AO kk k'/\k'<=u.length)/\k=u.length-k') (u.length-0) ⟨0,ad,0,rfl,rfl,⟨⟨by omega⟩,BD 0,by omega⟩,rfl⟩ ?_;rintro J0 a6 vs bl aE ⟨k',hv,kk,rfl,rfl,⟨J,a7,aC⟩,aB⟩;have av:=J.eq;have aw:=a7.eq;refine AK ?_;rintro aJ ay aK a5 aL ⟨au,f26⟩;have an:=(FA (k:=k'+1) a5 (by omega)).eq;refine Cw (fun ab=>?_) fun ab=>?_
 ·refine .inr ?_;have a8:k'<u.length:=LI H (show 2^(k'+1)<A.length by omega);refine AK ?_;intro ae az;exact Ba a6 ⟨k'+1,hv,ae,rfl,rfl,⟨J,⟨by omega⟩,by omega⟩,rfl⟩
 have a8:k'=u.length:=by have:=LH H (show ¬2^(k'+1)<A.length by omega);omega
 refine AK ?_;intro aF al a2 ai Y M;have o:Y=em u p:=by rw[M,List.drop_zero,show a2=A.length/2 by omega,hA,Cs t hp.mem Q.mem D]
 obtain⟨af,g⟩:=xR (em w (p));refine .inr (.inr (.inl ⟨0,.arr 0 (.sl AA) RL,[.one (.sl (.sl AA) T),.one (.AZ (.sl AA) 0 0 0 mm),.one (.sl AA Y)],.one (.sl AA af),fun _=>⟨rfl,⟨rfl,⟨⟨rfl,rfl⟩,rfl⟩,rfl,trivial⟩⟩,fun _=>CW I (ih hT hR.1 P o hp g),?_⟩));refine AK ?_;rintro aG O a1 ao ⟨ah,L⟩ Z N;have s:Z=em u q:=by rw[N,show a1=A.length/2 by omega,L,O,List.take_length,hA,Ca t hp.mem Q.mem D]
 obtain⟨ag,h⟩:=xR (em w (q));refine .inr (.inr (.inl ⟨0,.arr 0 (.sl AA) RL,[.one (.sl (.sl AA) T),.one (.AZ (.sl AA) 0 0 0 mm),.one (.sl AA Z)],.one (.sl AA ag),fun _=>⟨rfl,⟨rfl,⟨⟨rfl,rfl⟩,rfl⟩,rfl,trivial⟩⟩,fun _=>CW I (ih hT hR.1 P s Q h),?_⟩));try conv=>cbv
 refine g2 rfl ?_;refine⟨fun _=>⟨by omega,by have:=GW d;omega⟩,?_⟩;intro W ak;conv=>cbv
 obtain⟨F,n⟩:=CM (l:=RL) (i:=W) (by have:=GW d;omega);refine⟨F,fun _=>n,?_⟩;try conv=>cbv
 have z:F=rk:=by have:=n;rw[show W=u.length by omega,d] at this;exact (Option.some.inj this).symm
 have f:F=em wk (rt u r):=z.trans f;obtain⟨aM,j⟩:=xR (em w (rt u r));refine AB I (Qq (G.BG hw) hT f U aa j) ?_;obtain⟨aN,m⟩:=xR (em w (q*rt u r));refine AB I (D9 (G.BG hw) hT h j (G.CL (G.sub hu) hw b.tail Q) a (by omega) m) ?_;refine AB (r:= .one (.sl AA C)) I (Ji (G.BG hw) g m (G.CL (G.sub hu) hw b.tail hp) ((G.CL (G.sub hu) hw b.tail Q).mul (G.BG hw) a) (by omega) (by omega) (by rw[hC,D])) ?_;refine fun _=>⟨⟨⟨t2,trivial⟩,rfl,by simp⟩,rfl⟩
theorem fE (G:Gam TT R K S) (hw:TT w):∀{u:List (List Rat)},TT u->BT u w->VB S w u:=by
 intro u
 induction u with
 | nil=>
  intro hu g T RL A C x h hR d a f;obtain⟨q,rfl⟩:=Ct.1 a.mem;have b:=a.CT (by have:=G.mul hw;omega);rw[Dg] at b;exact fG (u:=[]) (x:=0) G hw h d (b q List.mem_cons_self) f
 | cons r u l=>
  intro hu g T RL A C x h hR d a f;obtain⟨p,q,j,k,b⟩:=El.parts (G.BG hu).red a;exact fH G hw h hu g (l (G.sub hu) g.tail) hR d a j k b f
theorem fF (G:Gam TT R K S) (hw:TT w):∀{u:List (List Rat)},TT u->BT u w->VC S w u:=by
 intro u
 induction u with
 | nil=>
  intro hu h T RL A C x mm j hR a f b g;obtain⟨q,rfl⟩:=Ct.1 b.mem;have d:=b.CT (by have:=G.mul hw;omega);rw[Dg] at d;exact fI (u:=[]) (x:=0) a G hw j f (d q List.mem_cons_self) g
 | cons r u m=>
  intro hu h T RL A C x mm j hR a f b g;obtain⟨p,q,k,l,d⟩:=El.parts (G.BG hu).red b;exact fJ a G hw j hu h (m (G.sub hu) h.tail) hR f b k l d g
theorem Qo {U T2:List LR} {t:List (List Rat)} (G:C3 TT R K S) (ht:TT t) (hu:TT u) (hT:T=tw t) (hU:U=tw u) (a2:T2=tw (ext t u)) (Z:RL=Ef t u):CF 273 [.one (.sl (.sl AA) T),.one (.sl (.sl AA) U)] (.AI [(false,[.sl (.sl AA) T2]),(false,[.sl (.sl AA) RL]),(false,[.int .i64 0])]):=by
 have af:U.length=u.length:=by rw[hU,CG]
 have aj:=G.ht hu;have a1:=G.RS;refine AG Tryz.func273 fun E hE=>?_
 refine BN [(7,.sl AA,true)] [0,1,7,8] [7] (fun vs bl k=>∃(X o:List LR) (mm i':Nat) (i:Int),vs=[.one (.sl (.sl AA) X),.one (.sl (.sl AA) U),.one (.AZ (.sl AA) 7 0 0 mm),.one (.int .i64 i)]/\bl=[.arr 0 (.sl AA) o]/\(AO i i'/\i'<=U.length/\mm=o.length)/\X=tw (ext t (pre u i'))/\o=Ef t (pre u i')/\k=U.length-i') U.length ⟨T,[],0,0,0,rfl,rfl,⟨BD 0,Nat.zero_le _,rfl⟩,by rw[NI];exact hT,by rw[NI];rfl,rfl⟩ ?_;rintro J0 Y vs bl ak ⟨X,o,mm,i',i,rfl,rfl,⟨hi,ag,s⟩,m,hinv,ah⟩;conv=>cbv
 have ei:=hi.eq;have ai:o.length<=U.length:=by rw[hinv,NQ,JM (by omega)];omega
 rintro al ⟨ad,f14⟩;conv=>cbv
 refine BW (fun a8=>?_) fun a8=>?_
 ·have I:pre u i'=u:=by rw[show i'=u.length by omega];exact ZQ u
  exact AE ⟨⟨rfl,congrArg _ (by rw[a2,m,I]),trivial⟩,⟨rfl,.inl ⟨_,rfl,by omega,congrArg _ (by rw[Z,s,List.drop_zero,List.take_length,hinv,I])⟩,trivial⟩,t2,trivial⟩
 refine .inr ?_;refine AW i' fun W O=>?_
 try conv=>cbv
 obtain⟨r,z,M⟩:=KI (u:=u) (i:=i') (by omega);have a:TT (pre u i'):=G.Io (Lc u i') hu;have b:TT (r::pre u i'):=z ▸ G.Io (Lc u (i'+1)) hu;have L:=(G.BG b).red;have a7:W=em (pre u i') (AM (pre u i') r):=by rw[<-hU,O] at M;exact (Option.some.inj M).trans (Ea L)
 have d:TT (ext t (pre u i')):=G.ext ht a;have n:=(Ii (G.BG ht).red (G.BG a).red).2;have J:El (pre u i') S (AM (pre u i') r):=(El.Cz (G.BG b)).mono a1;have N:TT (BC (ext t (pre u i')) (AM (pre u i') r)):=G.BC d b n;have a5:ext t (pre u (i'+1))=BC (ext t (pre u i')) (AM (pre u i') r):=by rw[z];rfl
 have a6:Ef t (pre u (i'+1))=Ef t (pre u i')++[em (BC (ext t (pre u i')) (AM (pre u i') r)) (Re.sqrt (AM (pre u i') r))]:=by rw[z];rfl
 obtain⟨ab,g⟩:=xR (em (ext t (pre u i')) (AM (pre u i') r));refine .inr (.inr (.inl ⟨7,.arr 0 (.sl AA) o,[.one (.sl (.sl AA) X),.one (.AZ (.sl AA) 0 0 0 mm),.one (.sl AA W)],.one (.sl AA ab),fun _=>⟨rfl,⟨rfl,⟨⟨rfl,rfl⟩,rfl⟩,rfl,trivial⟩⟩,fun _=>CW hE (fF G.toGam d a n m (by rw[hinv];exact NS (G.BG ht).red (G.BG a).red) s a7 J g),?_⟩));try conv=>cbv
 obtain⟨Q,h⟩:=xV (tw (BC (ext t (pre u i')) (AM (pre u i') r)));obtain⟨f,j⟩:=xR (em (BC (ext t (pre u i')) (AM (pre u i') r)) (Re.sqrt (AM (pre u i') r)));refine AB (r:= .AI [(false,[.sl (.sl AA) Q]),(false,[.sl AA f]),(false,[.int .i64 0])]) hE (U9 (G.BG d) (G.BG N) (G.ht N) m g (G.CL a d n J) (G.GV d) (by have:=L.2.2.1;grind) h j) ?_;refine BH ?_;refine⟨[f],fun _=>⟨rfl,by decide,rfl,⟨rfl,by first | exact t1 | exact t2 | exact t4 | simp[BR,BV,cells],trivial⟩⟩,.inr ?_⟩;try conv=>cbv
 refine .inl ⟨[f],fun _=>⟨rfl,s,rfl,by show (o.length+1)*24<=140737488355328;(try simp only[List.length_take,List.length_drop]);omega⟩,?_⟩;intro (D:List (el (.sl AA))) P l;have F:D=(o:List (el (.sl AA)))++([f]:List (el (.sl AA))):=l.1;have H:P=List.length (α:=(el (.sl AA))) D:=l.2;refine AK ?_;intro aa ae;exact Ba Y ⟨Q,D,P,i'+1,aa,rfl,rfl,⟨⟨by omega⟩,by omega,H⟩,by rw[h,a5],by rw[F,hinv,a6,j],rfl⟩
end
section
open Go.RowKit
theorem eK {TT:List (List Rat)->Prop} {R K S:Nat} (G:C3 TT R K S) {L:List (el AQ)} {ns:List (List (List Rat)×Re)} (W:∀n∈ns,TT n.1) (hL:L=ns.map nm) (av:∀n∈ns,El n.1 S n.2) (hlen:ns.length<=1000000) {O:List (el AQ)} (hO:O=ns.map (fun n=>nm (CO ns,n.2))):CF 202 [.one (.sl AQ L)] (.AI [(false,[.sl AQ O]),(false,[.int .i64 0])]):=by
 have b3:L.length=ns.length:=by rw[hL,List.length_map]
 have N:TT (CO ns):=G.CO W;refine AG Tryz.func202 fun E hE=>?_
 refine BN [(4,.sl AA,false)] [0,4,5] [] (fun vs bl k=>∃(Ti:List LR) (i':Nat) (i:Int),vs=[.one (.sl AQ L),.one (.sl (.sl AA) Ti),.one (.int .i64 i)]/\bl=[]/\(AO i i'/\i'<=L.length)/\Ti=tw (CO (ns.take i'))/\k=L.length-i') L.length ⟨[],0,0,rfl,rfl,⟨BD 0,by omega⟩,rfl,rfl⟩ ?_;rintro J0 U vs bl b7 ⟨Ti,i',i,rfl,rfl,⟨hi,aM⟩,h,b4⟩;conv=>cbv
 have ei:=hi.eq;have aN:(CO (ns.take i')).length=List.length (α:=LR) Ti:=by rw[h,CG]
 rintro b9 ⟨b1,f17⟩;conv=>cbv
 refine BW (fun aO=>?_) fun aO=>?_
 ·refine BN [(9,AQ,true)] [0,4,9,10] [9] (fun vs bl k=>∃(T:List LR) (o:List (el AQ)) (mm i':Nat) (i:Int),vs=[.one (.sl AQ L),.one (.sl (.sl AA) T),.one (.AZ AQ 9 0 0 mm),.one (.int .i64 i)]/\bl=[.arr 0 AQ o]/\(AO i i'/\i'<=L.length/\mm=o.length)/\T=tw (CO ns)/\o=(ns.take i').map (fun n=>nm (CO ns,n.2))/\k=L.length-i') L.length ⟨Ti,[],0,0,0,rfl,rfl,⟨BD 0,Nat.zero_le _,rfl⟩,by rw[h,List.take_of_length_le (show ns.length<=i' by omega)],rfl,rfl⟩ ?_;rintro J1 au vs bl b8 ⟨T,o,mm,i',i,rfl,rfl,⟨hi,aM,af⟩,hT,hinv,b5⟩;conv=>cbv
  have ei:=hi.eq;have b6:o.length<=L.length:=by rw[hinv,List.length_map,List.length_take];omega
  rintro ba ⟨b2,f69⟩;conv=>cbv
  refine BW (fun aQ=>?_) fun aQ=>?_
  ·exact AE ⟨⟨rfl,.inl ⟨_,rfl,by omega,congrArg _ (by rw[hO,af,hinv,List.drop_zero,List.take_length,List.take_of_length_le (show ns.length<=i' by omega)])⟩,trivial⟩,t2,trivial⟩
  refine .inr ?_;refine AW i' fun a6 J=>?_
  try conv=>cbv
  obtain⟨u,y,d,ah,M⟩:=IQ hL J;have P:=List.mem_of_getElem? M;have hu:TT u:=W _ P;have ai:El u S y:=av _ P;have ax:List.length (α:=LR) a6.1=u.length:=by rw[d,CG]
  have aw:BT u (CO ns):=Rg G.toGam W _ P;obtain⟨wC,a5⟩:=xR (em (CO ns) y);obtain⟨aE,a7⟩:=EO (u<:+CO ns);refine AB hE (N8 (G.BG N) (G.BG hu) hT d a7) ?_;refine .inr ?_;cases aE <;> conv=>cbv
  ·refine AW i' fun aY aC=>?_
   try conv=>cbv
   have aK:aY=a6:=Option.some.inj (aC.symm.trans J);obtain⟨aT,ay⟩:=xV (tw (CO ns));obtain⟨aU,aa⟩:=xV (Ef (CO ns) u);have a8:=Ro (G.BG N).red (G.BG hu).red aw;refine AB (r:= .AI [(false,[.sl (.sl AA) aT]),(false,[.sl (.sl AA) aU]),(false,[.int .i64 0])]) hE (Qo G N hu hT (by rw[aK];exact d) (by rw[a8];exact ay) aa) ?_;refine AW i' fun aD ag=>?_
   try conv=>cbv
   have ar:aD=a6:=Option.some.inj (ag.symm.trans J);refine AB (r:= .one (.sl AA wC)) hE (fE G.toGam N hu aw hT (by rw[aa];have:=NS (G.BG N).red (G.BG hu).red;rwa [a8] at this) (by rw[ar];exact ah) ai a5) ?_;refine⟨[(T,wC)],fun _=>⟨rfl,by decide,rfl,⟨rfl,by first | exact t1 | exact t2 | exact t4 | simp[BR,BV,cells],trivial⟩⟩,.inr ?_⟩;try conv=>cbv
   refine .inl ⟨[(T,wC)],fun _=>⟨rfl,af,rfl,by show (o.length+1)*48<=140737488355328;(try simp only[List.length_take,List.length_drop]);omega⟩,?_⟩;intro (f:List (el AQ)) s g;have t:f=(o:List (el AQ))++([(T,wC)]:List (el AQ)):=g.1;have z:s=List.length (α:=(el AQ)) f:=g.2;refine AK ?_;intro aj aL;exact Ba au ⟨T,f,s,i'+1,aj,rfl,rfl,⟨⟨by omega⟩,by omega,z⟩,hT,by rw[t,hinv,DO M,List.map_append];simp[nm,hT,a5],rfl⟩
  refine AW i' fun aX aB=>?_
  try conv=>cbv
  have aJ:aX=a6:=Option.some.inj (aB.symm.trans J);refine AB (r:= .one (.sl AA wC)) hE (Qq (G.BG N) hT (by rw[aJ];exact ah) ai.mem (a7.1 rfl) a5) ?_;refine⟨[(T,wC)],fun _=>⟨rfl,by decide,rfl,⟨rfl,by first | exact t1 | exact t2 | exact t4 | simp[BR,BV,cells],trivial⟩⟩,.inr ?_⟩;try conv=>cbv
  refine .inl ⟨[(T,wC)],fun _=>⟨rfl,af,rfl,by show (o.length+1)*48<=140737488355328;(try simp only[List.length_take,List.length_drop]);omega⟩,?_⟩;intro (f:List (el AQ)) s g;have t:f=(o:List (el AQ))++([(T,wC)]:List (el AQ)):=g.1;have z:s=List.length (α:=(el AQ)) f:=g.2;refine AK ?_;intro aj aL;exact Ba au ⟨T,f,s,i'+1,aj,rfl,rfl,⟨⟨by omega⟩,by omega,z⟩,hT,by rw[t,hinv,DO M,List.map_append];simp[nm,hT,a5],rfl⟩
 refine .inr ?_;refine AW i' fun H b=>?_
 try conv=>cbv
 obtain⟨u,y,d,ah,M⟩:=IQ hL b;have P:=List.mem_of_getElem? M;have hu:TT u:=W _ P;have ai:El u S y:=av _ P;have ax:List.length (α:=LR) H.1=u.length:=by rw[d,CG]
 have F:=X5 M;unfold Eb at F
 dsimp only at F
 have X:TT (CO (ns.take i')):=G.CO (fun n hn=>W n (List.mem_of_mem_take hn));rintro aR ⟨aF,f26⟩;conv=>cbv
 have b0:aR=(u.length:Int):=aF.trans (congrArg (fun n:Nat=>(n:Int)) ax);rintro aS ⟨aG,f28⟩;conv=>cbv
 have aZ:aS=((CO (ns.take i')).length:Int):=aG.trans (congrArg (fun n:Nat=>(n:Int)) aN.symm);refine E0 (fun aP=>?_) fun aP=>?_
 ·refine .inr ?_;refine AW i' fun an Z=>?_
  try conv=>cbv
  have ad:an=H:=Option.some.inj (Z.symm.trans b);obtain⟨ab,a⟩:=EO (u<:+(CO (ns.take i')));refine AB (r:= .one (.bool ab)) hE (N8 (G.BG X) (G.BG hu) h (by rw[ad];exact d) a) ?_;intro Dy Q;refine .inr ?_;cases Dy <;> conv=>cbv
  ·have j:=GD Q;refine AK ?_;intro l a2;exact Ba U ⟨_,i'+1,l,rfl,rfl,⟨⟨by omega⟩,by omega⟩,by rw[F,if_pos (a.1 j),<-h],rfl⟩
  have j:=GF Q;refine AW i' fun ao a1=>?_
  try conv=>cbv
  have ae:ao=H:=Option.some.inj (a1.symm.trans b);obtain⟨ak,m⟩:=xV (tw (ext (CO (ns.take i')) u));obtain⟨al,Y⟩:=xV (Ef (CO (ns.take i')) u);refine AB (r:= .AI [(false,[.sl (.sl AA) ak]),(false,[.sl (.sl AA) al]),(false,[.int .i64 0])]) hE (Qo G X hu h (by rw[ae];exact d) m Y) ?_;refine BH ?_;intro l a2;exact Ba U ⟨_,i'+1,l,rfl,rfl,⟨⟨by omega⟩,by omega⟩,by rw[F,if_neg (fun q=>by have:=a.2 q;rw[j] at this;cases this),if_neg (fun D=>by first | (have:=I.2 D;cases this) | exact absurd (show u<:+CO (List.take i' ns) from by rw[D.eq_of_length_le (by omega)];exact List.suffix_refl _) (fun q=>by have:=a.2 q;rw[j] at this;cases this)),m],rfl⟩
 refine AW i' fun aV az=>?_
 try conv=>cbv
 have aH:aV=H:=Option.some.inj (az.symm.trans b);obtain⟨aq,I⟩:=EO ((CO (ns.take i'))<:+u);refine AB (r:= .one (.bool aq)) hE (N8 (G.BG hu) (G.BG X) (by rw[aH];exact d) h I) ?_;refine .inr ?_;cases aq <;> conv=>cbv
 ·refine AW i' fun an Z=>?_
  try conv=>cbv
  have ad:an=H:=Option.some.inj (Z.symm.trans b);obtain⟨ab,a⟩:=EO (u<:+(CO (ns.take i')));refine AB (r:= .one (.bool ab)) hE (N8 (G.BG X) (G.BG hu) h (by rw[ad];exact d) a) ?_;intro Dy Q;refine .inr ?_;cases Dy <;> conv=>cbv
  ·have j:=GD Q;refine AK ?_;intro l a2;exact Ba U ⟨_,i'+1,l,rfl,rfl,⟨⟨by omega⟩,by omega⟩,by rw[F,if_pos (a.1 j),<-h],rfl⟩
  have j:=GF Q;refine AW i' fun ao a1=>?_
  try conv=>cbv
  have ae:ao=H:=Option.some.inj (a1.symm.trans b);obtain⟨ak,m⟩:=xV (tw (ext (CO (ns.take i')) u));obtain⟨al,Y⟩:=xV (Ef (CO (ns.take i')) u);refine AB (r:= .AI [(false,[.sl (.sl AA) ak]),(false,[.sl (.sl AA) al]),(false,[.int .i64 0])]) hE (Qo G X hu h (by rw[ae];exact d) m Y) ?_;refine BH ?_;intro l a2;exact Ba U ⟨_,i'+1,l,rfl,rfl,⟨⟨by omega⟩,by omega⟩,by rw[F,if_neg (fun q=>by have:=a.2 q;rw[j] at this;cases this),if_neg (fun D=>by first | (have:=I.2 D;cases this) | exact absurd (show u<:+CO (List.take i' ns) from by rw[D.eq_of_length_le (by omega)];exact List.suffix_refl _) (fun q=>by have:=a.2 q;rw[j] at this;cases this)),m],rfl⟩
 refine AW i' fun aW aA=>?_
 try conv=>cbv
 have aI:aW=H:=Option.some.inj (aA.symm.trans b);refine AK ?_;intro l a2;exact Ba U ⟨_,i'+1,l,rfl,rfl,⟨⟨by omega⟩,by omega⟩,by rw[F,if_neg (fun D=>by have:=D.length_le;omega),if_pos (I.1 rfl),aI];exact d,rfl⟩
end
section
abbrev Nu:=List (List Rat)×Re
def Cp (q:Rat):Prop:=q.num.natAbs<18446744073709551616/\q.den<18446744073709551616
theorem XA:∀{a:List Rat},(∀q∈a,Cp q)->∃D:Nat,0<D/\D<=2^(64*a.length)/\DN D a
 | [],_=>⟨1,by decide,by simp,fun q d=>by simp at d⟩
 | q::a,h=>by
  obtain⟨D,f,g,j⟩:=XA (a:=a) (fun x b=>h x (List.mem_cons_of_mem _ b));have d:=(h q List.mem_cons_self).2;refine⟨q.den*D,Nat.mul_pos q.den_pos f,?_,fun x b=>?_⟩
  ·have:=Nat.mul_le_mul (show q.den<=2^64 by omega) g;rw[<-Nat.pow_add] at this;rw[List.length_cons,show 64*(a.length+1)=64+64*a.length by omega];exact this
  rcases List.mem_cons.1 b with rfl | b
  ·refine⟨x.num*D,?_⟩;rw[Rat.intCast_mul,<-Le x,HE];have:((D:Int):Rat)=(D:Rat):=rfl
   grind
  exact j.dvd ⟨q.den,by grind⟩ x b
theorem lY {q:Rat} {B:Nat} (h:q.num.natAbs<=B): -(B:Rat)<=q/\q<=B:=by
 have g:1<=q.den:=q.den_pos;have j:B*1<=B*q.den:=Nat.mul_le_mul_left B g
 have key:q.num<=(B:Int)*q.den/\ -((B:Int)*q.den)<=q.num:=by
  have:((B*q.den:Nat):Int)=(B:Int)*q.den:=Int.natCast_mul _ _;omega
 have e:=Le q
 have d:(0:Rat)<q.den:=by
  have:((0:Nat):Rat)<(q.den:Rat):=Rat.natCast_lt_natCast.2 q.den_pos;simpa using this
 have k1:(q.num:Rat)<=(B:Rat)*q.den:=by
  have:=Rat.intCast_le_intCast.2 key.1;rw[Rat.intCast_mul] at this;exact this
 have k2: -((B:Rat)*q.den)<=(q.num:Rat):=by
  have:=Rat.intCast_le_intCast.2 key.2;rw[Rat.intCast_neg,Rat.intCast_mul] at this;exact this
 rw[<-e] at k1 k2
 constructor
 ·apply Classical.byContradiction;intro f;have:=Rat.mul_pos (a:= -(B:Rat)-q) (b:=q.den) (by grind) d
  grind
 apply Classical.byContradiction;intro f;have:=Rat.mul_pos (a:=q-(B:Rat)) (b:=q.den) (by grind) d
 grind
theorem MO {a:List Rat} (h:∀q∈a,Cp q):Bd (64*a.length) a:=by
 obtain⟨D,d,f,g⟩:=XA h;refine⟨D,d,f,g,fun q b=>?_⟩;have j:1<=a.length:=List.length_pos_of_mem b;exact lY (Nat.le_trans (Nat.le_of_lt (h q b).1) (show 2^64<=2^(64*a.length) from Cb))
structure Cc (V:List Re) (n:Nu):Prop where
 red:AU n.1
 mem:In n.1 n.2
 BB:∀v∈BB n.1,v∈V
 Ih:∀s∈n.1,∀q∈s,Cp q
 cos:∀q∈co n.1 n.2,Cp q
theorem Cc.mono {V a:List Re} {n:Nu} (h:Cc V n) (hV:∀v∈V,v∈a):Cc a n:=⟨h.red,h.mem,fun v b=>hV v (h.BB v b),h.Ih,h.cos⟩
theorem Cc.len {V:List Re} {n:Nu} (h:Cc V n):n.1.length<=V.length:=by rw[<-Ip];exact IZ (Gl h.red) h.BB
theorem S5:∀{u:List (List Rat)} {r:List Rat},AU u->r∈u->2*r.length<=2^u.length
 | [],_,_,h=>by simp at h
 | s::u,r,h,a=>by
  rw[B8];rcases List.mem_cons.1 a with rfl | a
  ·rw[h.2.1];omega
  have:=S5 h.1 a;omega
theorem bm {u w:List (List Rat)} (h:u<:+w):∀v∈BB u,v∈BB w:=by
 obtain⟨t,rfl⟩:=h
 induction t with
 | nil=>exact fun v a=>a
 | cons r t b=>exact fun v a=>List.mem_cons_of_mem _ (b v a)
def PN (ns:List Nu) (u:List (List Rat)):Prop:=∃n∈ns,u<:+n.1
section
variable {V:List Re} {ns:List Nu}
theorem ZO {k:Nat} (h:k<=3):2^k<=8:=Cb h
theorem PN.I9 (hV:V.length<=3) (h:∀n∈ns,Cc V n):CD (PN ns) 256:=by
 refine⟨fun {u} ⟨n,a,d⟩=>TG d (h n a).red,fun {u} ⟨n,a,d⟩=>fun r f=>?_,fun {r u} ⟨n,a,d⟩=>⟨n,a,(List.suffix_cons r u).trans d⟩⟩;have b:=d.subset f;have g:=S5 (h n a).red b;have j:=ZO (Nat.le_trans (h n a).len hV);exact (MO ((h n a).Ih r b)).mono (by omega)
theorem PN.BB (h:∀n∈ns,Cc V n) {u:List (List Rat)} (hu:PN ns u):∀v∈BB u,v∈V:=by
 obtain⟨n,a,b⟩:=hu;exact fun v d=>(h n a).BB v (bm b v d)
theorem PN.self {n:Nu} (a:n∈ns):PN ns n.1:=⟨n,a,List.suffix_refl _⟩
end
theorem Cc.el {V:List Re} {n:Nu} (h:Cc V n) (hV:V.length<=3):El n.1 512 n.2:=by
 refine⟨h.mem,(MO h.cos).mono ?_⟩;have a:=ZO (Nat.le_trans h.len hV);rw[C0 h.mem];omega
abbrev Rm:Nat:=93478
abbrev Cm:Nat:=53200000
abbrev Sm:Nat:=500000000000
theorem nw:RR 256 3<=Rm:=by decide +kernel
theorem gy:CC 3 Rm 3 Rm<=Cm:=by decide +kernel
theorem jR:∀h,h<=3->Fit h Rm (Sm+Cm)
 |0,_|1,_|2,_|3,_=>⟨by decide +kernel,by decide +kernel,by decide +kernel,by decide +kernel⟩
 | _+4,h=>absurd h (by omega)
theorem jN:∀h,h<=3->EM h Rm (Sm+Cm)
 |0,_|1,_|2,_|3,_=>⟨by decide +kernel,by decide +kernel,by decide +kernel,by decide +kernel⟩
 | _+4,h=>absurd h (by omega)
theorem lT:2*(Sm+Cm)+EE 3 Rm<=60000000000000:=by decide +kernel
theorem Xa {P:List (List Rat)->Prop} (I:CD P 256) (hm:∀{u},Tf P u->u.length<=3) {S:Nat} (a:Rm<=S) (d:S<=Sm):C3 (Tf P) Rm Cm S:=
 {Tf.Rw I hm nw a gy (fun h b=>(jR h b).mono (by omega)) (Nat.le_trans (by omega) lT) with GV:=fun {u} hu=>(jN _ (hm hu)).mono (by omega)}
open Classical in
noncomputable def BU (x:Re):Re:=if h:x≠0 then Classical.choose (Re.Mu h) else 0
theorem Ga {x:Re} (h:x≠0):x*BU x=1:=by
 unfold BU;rw[dif_pos h];exact Classical.choose_spec (Re.Mu h)
theorem O9 {u:List (List Rat)} {x:Re} (hu:AU u) (d:In u x) (a:x≠0):In u (BU x):=by
 obtain⟨y,f,e⟩:=Dv hu d a;have b:=Ga a
 rw[show BU x=y by
  have:BU x=BU x*(x*y):=by rw[e];grind
  rw[this];have:BU x*(x*y)=(x*BU x)*y:=by grind
  rw[this,b];grind]
 exact f
open Classical in
noncomputable def DF (x:Re):Re:=if x<0 then -x else x
theorem Kg (x:Re):0<=DF x:=by unfold DF;split <;> grind
theorem Xp {u:List (List Rat)} {x:Re} (a:In u x):In u (DF x):=by unfold DF;split;exact F5 a;exact a
open Classical in
noncomputable def GL (n:Nu):Nu:=if h:AU n.1/\In n.1 n.2 then (Classical.choose (UK h.1 h.2 (Nat.le_refl _)),n.2) else n
theorem UJ {n:Nu} (a:AU n.1) (b:In n.1 n.2):HW n.1.length (n.1.reverse,co n.1 n.2)=((GL n).1.reverse,co (GL n).1 (GL n).2)/\H8 n.1 n.2 (GL n).1/\(GL n).2=n.2:=by
 unfold GL;rw[dif_pos ⟨a,b⟩];have:=Classical.choose_spec (UK a b (Nat.le_refl _));exact⟨this.1,this.2,rfl⟩
def Iv (n:Nu):Prop:=(∃q∈co n.1 n.2,¬Cp q)\/∃s∈n.1,∃q∈s,¬Cp q
noncomputable def EU (k:Nat) (a b:Nu) (roots:Nat):Nu×Nat:=by
 classical
 exact if k=1 then ((Bk a.1 b.1,a.2+b.2),roots)
 else if k=2 then ((Bk a.1 b.1,a.2-b.2),roots)
 else if k=3 then ((Bk a.1 b.1,a.2*b.2),roots)
 else if k=4 then (if b.2=0 then a else (Bk a.1 b.1,a.2*BU b.2),roots)
 else if roots<3 then ((BC a.1 (DF a.2),Re.sqrt (DF a.2)),roots+1) else (a,roots)
def Lz:Nu:=([],0)
noncomputable def Dt (l:List Nu) (i:Nat):Nu:=l.getD (i%l.length) Lz
def KW (n:Int):Int:=(n+9223372036854775808)%18446744073709551616-9223372036854775808
theorem UO (n:Int): -9223372036854775808<=KW n/\KW n<9223372036854775808:=by unfold KW;omega
def G0 (o:el DC):Rat:=Rat.divInt (KW o.2.2.2.1) ((o.2.2.2.2.toNat%8+1:Nat):Int)
noncomputable def Db (st:List Nu×Nat) (o:el DC):Nu×Nat:=by
 classical
 exact if st.1=[]\/o.1.toNat%6=0 then (([],Re.ofRat (G0 o)),st.2) else EU (o.1.toNat%6) (Dt st.1 o.2.1.toNat) (Dt st.1 o.2.2.1.toNat) st.2
noncomputable def F6 (l:List Nu) (x:Nu):Nu:=by
 classical
 exact if l≠[]/\Iv x then l.getLastD Lz else x
noncomputable def Im (st:List Nu×Nat) (o:el DC):List Nu×Nat:=(st.1++[GL (F6 st.1 (Db st o).1)],(Db st o).2)
noncomputable def runN (xs:List (el DC)):List Nu×Nat:=xs.foldl Im ([],0)
theorem Zy (xs:List (el DC)) (o:el DC):runN (xs++[o])=Im (runN xs) o:=by rw[runN,List.foldl_append];rfl
def Ka (st:List Nu×Nat):Prop:=st.2<=3/\∃V:List Re,V.length<=st.2/\∀n∈st.1,Cc V n
theorem Cc.trim {V:List Re} {n:Nu} (h:Cc V n):Cc V (GL n):=by
 obtain⟨_,t,e⟩:=UJ h.red h.mem;refine⟨t.red,by rw[e];exact t.mem,fun v g=>h.BB v (t.BB v g),fun s f q a=>?_,fun q a=>?_⟩
 ·obtain⟨j,d,b⟩:=t.Ih s f;exact h.Ih j d q (b q a)
 rw[e] at a;exact h.cos q (t.cos q a)
theorem Cc.mF {V:List Re} {n:Nu} (d:AU n.1) (f:In n.1 n.2) (h3:∀v∈Go.Abs.BB n.1,v∈V) (h:¬Iv n):Cc V n:=
 ⟨d,f,h3,fun s g q b=>Classical.byContradiction fun a=>h (.inr ⟨s,g,q,b,a⟩),fun q b=>Classical.byContradiction fun a=>h (.inl ⟨q,b,a⟩)⟩
theorem O4 {l:List Nu} (h:l≠[]) (i:Nat):Dt l i∈l:=by
 have:i%l.length<l.length:=Nat.mod_lt _ (List.length_pos_iff.2 h);unfold Dt;rw[List.getD_eq_getElem?_getD,List.getElem?_eq_getElem this];exact List.getElem_mem this
theorem km {l:List Nu} (h:l≠[]):l.getLastD Lz∈l:=by
 cases l with
 | nil=>exact absurd rfl h
 | cons a l=>rw[List.getLastD_cons];cases l with
  | nil=>exact List.mem_cons_self
  | cons b l=>rw[List.getLastD_eq_getLast?];exact List.mem_cons_of_mem _ (by
   rw[List.getLast?_eq_some_getLast (by simp)];exact List.getLast_mem _)
section
variable {V:List Re} {ns:List Nu}
theorem Gv (hV:V.length<=3) (h:∀n∈ns,Cc V n) {S:Nat} (a:Rm<=S) (b:S<=Sm:=by first|omega|decide):C3 (Tf (PN ns)) Rm Cm S:=
 Xa (PN.I9 hV h) (fun {u} hu=>Nat.le_trans (hu.len (PN.I9 hV h) (fun d=>PN.BB h d)) hV) a b
theorem Ep (hV:V.length<=3) (h:∀n∈ns,Cc V n) {n:Nu} (a:n∈ns):Tf (PN ns) n.1:=Tf.of (PN.I9 hV h) (PN.self a)
structure L6 (V:List Re) (n:Nu):Prop where
 red:AU n.1
 mem:In n.1 n.2
 BB:∀v∈BB n.1,v∈V
theorem L6.Pe (hV:V.length<=3) (h:∀n∈ns,Cc V n) {n:Nu} (ht:Tf (PN ns) n.1) (hm:In n.1 n.2):L6 V n:=
 ⟨ht.red (PN.I9 hV h),hm,ht.BB (PN.I9 hV h) (fun a=>PN.BB h a)⟩
theorem Cc.Zm {n:Nu} (h:Cc V n):L6 V n:=⟨h.red,h.mem,h.BB⟩
theorem jJ (hV:V.length<=3) (h:∀n∈ns,Cc V n) {a b:Nu} (ha:a∈ns) (hb:b∈ns):Tf (PN ns) (Bk a.1 b.1)/\In (Bk a.1 b.1) a.2/\In (Bk a.1 b.1) b.2:=by
 have G:=(Gv hV h (Nat.le_refl Rm)).toGam;obtain⟨d,f,h3⟩:=G.Bk (Ep hV h ha) (Ep hV h hb);exact⟨d,f _ (h a ha).mem,h3 _ (h b hb).mem⟩
theorem bj {u:List (List Rat)} {v:Re} (d:In u v):∀x∈BB (BC u v),x=v\/x∈BB u:=by
 by_cases b:Sq u v
 ·rw[Df b];exact fun x a=> .inr a
 rw[DG b];intro x a;rcases List.mem_cons.1 a with rfl | a
 ·exact .inl (EC d)
 exact .inr a
theorem Gf {u:List (List Rat)} {v:Re} (h:AU u) (a:In u v) (d:0<=v):AU (BC u v):=by
 by_cases b:v=0
 ·subst b;rw[Df ⟨0,CN u,by grind⟩];exact h
 exact TE h a (by grind)
theorem NM {st:List Nu×Nat} (h:Ka st) (o:el DC):(Db st o).2<=3/\∃V,V.length<=(Db st o).2/\(∀n∈st.1,Cc V n)/\L6 V (Db st o).1:=by
 obtain⟨h3,V,hV,d⟩:=h;have f:=Nat.le_trans hV h3;unfold Db
 split
 ·exact⟨h3,V,hV,d,trivial,⟨[G0 o],rfl,rfl⟩,fun v j=>by simp[Go.Abs.BB] at j⟩
 rename_i D
 have k:st.1≠[]:=fun e=>D (.inl e)
 have ha:=O4 k o.2.1.toNat;have hb:=O4 k o.2.2.1.toNat
 generalize Dt st.1 o.2.1.toNat=a at*
 generalize Dt st.1 o.2.2.1.toNat=b at*
 obtain⟨l,m,s⟩:=jJ f d ha hb;have z:=l.red (PN.I9 f d);unfold EU
 split
 ·exact⟨h3,V,hV,d,.Pe f d l (DR m s)⟩
 split
 ·exact⟨h3,V,hV,d,.Pe f d l (E5 m s)⟩
 split
 ·exact⟨h3,V,hV,d,.Pe f d l (Ag z m s)⟩
 split
 ·refine⟨h3,V,hV,d,?_⟩
  dsimp only
  split
  ·exact (d a ha).Zm
  rename_i t
  exact .Pe f d l (Ag z m (O9 z s t))
 split
 ·rename_i F
  have g:=Xp (d a ha).mem;refine⟨by show st.2+1<=3;omega,DF a.2::V,by show _+1<=st.2+1;omega,fun n hm=>(d n hm).mono fun v j=>List.mem_cons_of_mem _ j,Gf (d a ha).red g (Kg _),Qv g (Kg _),fun v j=>?_⟩;rcases bj g v j with rfl | j
  ·exact List.mem_cons_self
  exact List.mem_cons_of_mem _ ((d a ha).BB v j)
 exact⟨h3,V,hV,d,(d a ha).Zm⟩
end
theorem oZ {n:Int} {d:Nat} (b:n.natAbs<18446744073709551616) (f:0<d) (a:d<18446744073709551616):Cp (Rat.divInt n d):=by
 have e:(Rat.divInt n d)=mkRat n d:=Rat.divInt_ofNat n d;rw[e]
 constructor
 ·have:=Rat.num_mkRat n d;rw[this]
  split
  ·simp
  refine Nat.lt_of_le_of_lt ?_ b;exact Int.natAbs_ediv_le_natAbs _ _
 have:=Rat.den_mkRat n d;rw[this]
 split
 ·decide
 exact Nat.lt_of_le_of_lt (Nat.div_le_self _ _) a
theorem SE {V:List Re} {l:List Nu} {x:Nu} (f:∀n∈l,Cc V n) (a:L6 V x) (d:l=[]->¬Iv x):Cc V (F6 l x):=by
 unfold F6
 split
 ·rename_i h;exact f _ (km h.1)
 rename_i h
 refine .mF a.red a.mem a.BB fun b=>?_
 by_cases he:l=[]
 ·exact d he b
 exact h ⟨he,b⟩
theorem S8 (o:el DC):¬Iv ([],Re.ofRat (G0 o)):=by
 have f:Cp (G0 o):=oZ (by have:=UO o.2.2.2.1;omega) (by omega) (by omega);rintro (⟨q,d,b⟩ |⟨s,a,_⟩)
 ·rw[Dg] at d;rw[List.mem_singleton.1 d] at b;exact b f
 simp at a
theorem pG {st:List Nu×Nat} (h:Ka st) (o:el DC):Ka (Im st o):=by
 obtain⟨b,V,d,h3,f⟩:=NM h o;refine⟨b,V,d,fun n a=>?_⟩;rcases List.mem_append.1 a with a | a
 ·exact h3 n a
 rw[List.mem_singleton.1 a];refine (SE h3 f fun he=>?_).trim;have:(Db st o).1=([],Re.ofRat (G0 o)):=by unfold Db;rw[if_pos (.inl he)]
 rw[this];exact S8 o
theorem Z3:∀{xs:List (el DC)} {st:List Nu×Nat},Ka st->Ka (xs.foldl Im st)
 | [],_,h=>h
 | o::xs,_,h=>Z3 (xs:=xs) (pG h o)
theorem TR (xs:List (el DC)):Ka (runN xs):=Z3 ⟨by decide,[],by simp,by simp⟩
end
section
open Go.RowKit
variable {A1 A2 C:LR} {K K2 R S S2:Nat} {T T1 T2:List LR} {TT:List (List Rat)->Prop} {c:Int} {q:Rat} {u v:List (List Rat)} {x y:Re}
theorem Vf (G:C3 TT R K S) (hu:TT u) (J:TT v) (l:T1=tw u) (m:T2=tw v) (j:A1=em u x) (k:A2=em v y) (L:El u S x) (M:El v S y) {A B:LR} (I:T=tw (Bk u v)) (t:A=em (Bk u v) x) (D:B=em (Bk u v) y):CF 104 [.agg (AJ T1 A1),.agg (AJ T2 A2)] (.AI [(true,(AJ T A)),(true,(AJ T B)),(false,[.int .i64 0])]):=by
 obtain⟨O,h⟩:∃z:List (el AQ),z=[(T,A),(T,B)]:=⟨_,rfl⟩
 have H:O.length=2:=by rw[h];rfl
 have o:O[0]? =some (T,A):=by rw[h];rfl
 have s:O[1]? =some (T,B):=by rw[h];rfl
 refine AG Tryz.func104 fun E F=>?_
 refine⟨[(T1,A1),(T2,A2)],fun _=>⟨rfl,by decide,rfl,⟨rfl,by first | exact t1 | exact t2 | exact t4 | simp[BR,BV,cells],⟨rfl,by first | exact t1 | exact t2 | exact t4 | simp[BR,BV,cells],trivial⟩⟩⟩,.inr ?_⟩;try conv=>cbv
 refine AB (r:= .AI [(false,[.sl AQ O]),(false,[.int .i64 0])]) F (eK (ns:=[(u,x),(v,y)]) G (by intro n d;simp at d;rcases d with rfl | rfl;exact hu;exact J) (by rw[l,m,j,k];rfl) (by intro n d;simp at d;rcases d with rfl | rfl;exact L;exact M) (by show 2<=1000000;decide) (by rw[h,I,t,D];rfl)) ?_;refine BH ?_;refine AW 0 fun N f=>?_
 try conv=>cbv
 refine AW 1 fun P g=>?_
 try conv=>cbv
 refine g2 rfl ?_;have a:=Option.some.inj (f.symm.trans o);have b:=Option.some.inj (g.symm.trans s);exact AE ⟨⟨rfl,congrArg _ (by rw[a]),congrArg _ (by rw[a]),trivial⟩,⟨rfl,congrArg _ (by rw[b]),congrArg _ (by rw[b]),trivial⟩,t2,trivial⟩
theorem Qi (G:C3 TT R K S) (hu:TT u) (k:TT v) (f:T1=tw u) (g:T2=tw v) (b:A1=em u x) (d:A2=em v y) (t:El u S x) (z:El v S y) (F:T=tw (Bk u v)) (D:C=em (Bk u v) (x+y)):CF 59 [.agg (AJ T1 A1),.agg (AJ T2 A2)] (.AI [(true,(AJ T C)),(false,[.int .i64 0])]):=by
 obtain⟨a,h,j⟩:=G.toGam.Bk hu k;have l:=G.CL hu a h t;have m:=G.CL k a j z;have hmul:=G.mul a;obtain⟨A,n⟩:=C8 (em (Bk u v) x);obtain⟨B,o⟩:=C8 (em (Bk u v) y);refine AG Tryz.func59 fun E s=>?_
 refine AB s (Vf G hu k f g b d t z F n o) ?_;refine BH ?_;refine AB s (Ji (G.BG a) n o l m (by omega) (by omega) D) ?_;exact AE ⟨t3,t2,trivial⟩
theorem Qj (G:C3 TT R K S) (hu:TT u) (k:TT v) (f:T1=tw u) (g:T2=tw v) (b:A1=em u x) (d:A2=em v y) (z:El u S x) (D:El v S y) (t:T=tw (Bk u v)) (F:C=em (Bk u v) (x*y)):CF 47 [.agg (AJ T1 A1),.agg (AJ T2 A2)] (.AI [(true,(AJ T C)),(false,[.int .i64 0])]):=by
 obtain⟨a,h,j⟩:=G.toGam.Bk hu k;have l:=G.CL hu a h z;have m:=G.CL k a j D;have hmul:=G.mul a;obtain⟨A,n⟩:=C8 (em (Bk u v) x);obtain⟨B,o⟩:=C8 (em (Bk u v) y);refine AG Tryz.func47 fun E s=>?_
 refine AB s (Vf G hu k f g b d z D t n o) ?_;refine BH ?_;refine AB s (D9 (G.BG a) t n o l m (by omega) F) ?_;exact AE ⟨t3,t2,trivial⟩
theorem N6 (G:C3 TT R K S) (hu:TT u) (f:T1=tw u) (a:A1=em u x) (g:El u S x) (b:C=em u (-x)):CF 33 [.agg (AJ T1 A1)] (.agg (AJ T1 C)):=by
 refine AG Tryz.func33 fun E d=>?_
 refine AB d (Kf (G.BG hu) a g b) ?_;exact AE ⟨t3,trivial⟩
theorem Ql (G:C3 TT R K S) (hu:TT u) (h:TT v) (g:T1=tw u) (a:T2=tw v) (d:A1=em u x) (f:A2=em v y) (n:El u S x) (k:El v S y) (m:T=tw (Bk u v)) (l:C=em (Bk u v) (x-y)):CF 88 [.agg (AJ T1 A1),.agg (AJ T2 A2)] (.AI [(true,(AJ T C)),(false,[.int .i64 0])]):=by
 refine AG Tryz.func88 fun E j=>?_
 obtain⟨o,b⟩:=C8 (em v (-y));refine AB j (N6 G h a f k b) ?_;refine AB j (Qi G hu h g a d b n (k.neg (G.BG h).red) m l) ?_;exact AE ⟨t3,t2,trivial⟩
theorem Kd (G:C3 TT R K S) (hu:TT u) (b:T1=tw u) (a:A1=em u x) (g:El u S x) (f:c=Bm x):CF 24 [.agg (AJ T1 A1)] (.one (.int .i64 c)):=by
 refine AG Tryz.func24 fun E d=>?_
 refine AB d (eI (G.BG hu) b a g ((G.GV hu).mono (Nat.le_add_right _ _)).v0 f) ?_;exact AE ⟨t2,trivial⟩
theorem Qk (G:C3 TT R K S) (hu:TT u) (b:T1=tw u) (a:A1=em u x) (j:El u S x) (hw:TT (BC u x)) (d:0<=x) (h:T=tw (BC u x)) (f:C=em (BC u x) (Re.sqrt x)):CF 89 [.agg (AJ T1 A1)] (.AI [(true,(AJ T C)),(false,[.int .i64 0])]):=by
 refine AG Tryz.func89 fun E g=>?_
 refine AB g (U9 (G.BG hu) (G.BG hw) (G.ht hw) b a j ((G.GV hu).mono (Nat.le_add_right _ _)) d h f) ?_;refine BH ?_;exact AE ⟨t3,t2,trivial⟩
theorem VD (G:C3 TT R K S) (hu:TT u) (m:TT v) (h:T1=tw u) (b:T2=tw v) (d:A1=em u x) (f:A2=em v y) (t:El u S x) (z:El v S y) {i:Re} (s:In v i) (k:y*i=1) (j:El v S i) (g:II v.length R S<=60000000000000) (o:T=tw (Bk u v)) (n:C=em (Bk u v) (x*i)):CF 81 [.agg (AJ T1 A1),.agg (AJ T2 A2)] (.AI [(true,(AJ T C)),(false,[.int .i64 0])]):=by
 refine AG Tryz.func81 fun E l=>?_
 obtain⟨D,a⟩:=C8 (em v i);refine AB l (N9 (G.BG m) b f z s k g a) ?_;refine BH ?_;refine AB l (Qj G hu m h b d a t j o n) ?_;exact AE ⟨t3,t2,trivial⟩
theorem eQ (G:C3 TT R K S) (hu:TT u) (j:TT v) (h:T1=tw u) (b:T2=tw v) (f:A1=em u x) (a:A2=em v y) (k:El u S x) (l:El v S y) (d:y=0):CF 81 [.agg (AJ T1 A1),.agg (AJ T2 A2)] (.AI [(true,(AJ [] [])),(false,[.int .i64 6])]):=by
 refine AG Tryz.func81 fun E g=>?_
 refine AB (r:= .AI [(false,[.sl AA []]),(false,[.int .i64 6])]) g (VT (G.BG j) b (a.trans (by rw[d]))) ?_;refine CU ?_;exact AE ⟨⟨rfl,AL,AL,trivial⟩,t2,trivial⟩
theorem eP (G:C3 TT R K S) (hu:TT u) (m:TT v) (h:T1=tw u) (j:T2=tw v) (f:A1=em u x) (g:A2=em v y) (t:El u S x) (z:El v S y) (D:C3 TT R K2 S2) (H:2*(S+K)+1<=S2) (F:c=Bm (x-y)):CF 100 [.agg (AJ T1 A1),.agg (AJ T2 A2)] (.AI [(false,[.int .i64 c]),(false,[.int .i64 0])]):=by
 obtain⟨a,k,l⟩:=G.toGam.Bk hu m;have n:=G.CL hu a k t;have o:=G.CL m a l z;have hmul:=G.mul a;refine AG Tryz.func100 fun E s=>?_
 obtain⟨J,d⟩:=Hx (tw (Bk u v));obtain⟨I,b⟩:=C8 (em (Bk u v) (x-y));refine AB s (Ql G hu m h j f g t z d b) ?_;refine BH ?_;refine AB s (Kd D a d b ((n.sub (G.BG a).red o).mono (by omega)) F) ?_;exact AE ⟨t2,t2,trivial⟩
theorem VE (G:C3 TT R K S) (hu:TT u) (o:TT v) (g:T1=tw u) (j:T2=tw v) (d:A1=em u x) (f:A2=em v y) (s:El u S x) (t:El v S y) (k:C3 TT R K2 S2) (m:2*(S+K)+1<=S2) {c:Bool} (n:c=true↔x=y):CF 35 [.agg (AJ T1 A1),.agg (AJ T2 A2)] (.one (.bool c)):=by
 refine AG Tryz.func35 fun E l=>?_
 obtain⟨D,a⟩:=xI (Bm (x-y));refine AB l (eP G hu o g j d f s t k m a) ?_;refine CU ?_;intro z b;exact AF (by rw[Bool.eq_iff_iff,n,b,beq_iff_eq,a,Gh];constructor <;> intro h <;> grind)
theorem eR (G:C3 TT R K S) (hu:TT u) (a:T1=tw u) (b:A1=em u x) (j:El u S x):CF 137 [.agg (AJ T1 A1)] (.one (.bool true)):=by
 have g:T1.length=u.length:=by rw[a,CG]
 have h:=G.ht hu;have hmul:=G.mul hu;refine AG Tryz.func137 fun E d=>?_
 rintro l ⟨k,f5⟩;refine UW (fun f=>?_) fun f=>?_
 ·exact absurd f (by omega)
 refine AB d (MC (G.BG hu) a b j) ?_;refine AB d (Qn (G.BG hu) a (G.GV hu).vR (G.GV hu).qR) ?_;exact AE ⟨t2,trivial⟩
theorem Kc {b1 b2:Bool} {l1 l2:List UInt32} (b:BY q b1 l1 b2 l2) (a:C=em [] (Re.ofRat q)):CF 45 [.agg (Bw b1 l1 b2 l2)] (.agg (AJ [] C)):=by
 refine AG Tryz.func45 fun E d=>?_
 refine⟨[((b1,l1),(b2,l2))],fun _=>⟨rfl,by decide,rfl,⟨rfl,by first | exact t1 | exact t2 | exact t4 | simp[BR,BV,cells],trivial⟩⟩,.inr ?_⟩;try conv=>cbv
 exact AE ⟨⟨rfl,AL,congrArg _ (by rw[a,EB,<-b.rp]),trivial⟩,trivial⟩
theorem Gq {x:Int} (f: -9223372036854775808<=x/\x<9223372036854775808) (d:C=em [] (Re.ofRat x)):CF 20 [.one (.int .i64 x)] (.agg (AJ [] C)):=by
 refine AG Tryz.func20 fun E b=>?_
 obtain⟨j,k,g,h,a⟩:=CA (x:Rat);refine AB b (EN f rfl a) ?_;refine AB b (Kc a d) ?_;exact AE ⟨t3,trivial⟩
theorem N5 {n d:Int} (j: -9223372036854775808<=n/\n<9223372036854775808) (h: -9223372036854775808<=d/\d<9223372036854775808) (f:d≠0) (k:q=Rat.divInt n d) (g:C=em [] (Re.ofRat q)):CF 86 [.one (.int .i64 n),.one (.int .i64 d)] (.agg (AJ [] C)):=by
 refine AG Tryz.func86 fun E b=>?_
 obtain⟨o,s,l,m,a⟩:=CA q;refine AB b (Qg j h f k a) ?_;refine AB b (Kc a g) ?_;exact AE ⟨t3,trivial⟩
end
end Go.Abs
