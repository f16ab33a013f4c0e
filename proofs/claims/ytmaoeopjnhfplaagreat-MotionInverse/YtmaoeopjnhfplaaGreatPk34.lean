/- Part 35 of a proof. Conditions: each theorem's own. -/
import Derived.Test.YtmaoeopjnhfplaaGreatPk33
set_option linter.all false
set_option maxHeartbeats 8000000
set_option maxRecDepth 20000
open Go.Proofs
namespace Go.Abs
open Go.RowKit
variable {A1 Pf Pg Ph A2 A3 A4 AK AN AO AT At BD BT BV:LR} {Q:List (el BL)} {T1 Pr Ps Pt T2 T3 T4 AL AM AP AU Aw BE Ba BW:List LR} {TT:List (List Rat)->Prop} {V:List Re} {X:List (el Bh)} {ka kb ks kt ku kv:Nat} {kk km kn:Int} {w:List (List Rat)} {xa xb xs xt xu xv ya yb ys yt yu yv:Re}
theorem Vn:Re.ofRat ((1:Int):Rat)=1:=rfl
theorem Vl:Re.ofRat ((0:Int):Rat)=0:=Re.Hj
theorem qY (F:Fd TT w) (hu:Vm TT w 1950000 ku ku AL AK AM AN xu yu) (ht:Vm TT w 1950000 kt kt AP AO AU AT xt yt) (v:Vm TT w 1950000 kv kv Aw At BE BD xv yv) (H:Vm TT w 1950000 ks ks Ba BT BW BV xs ys) (t:xu=1) (u:yu=0) (J:ks+2*kt+ku+2*kv+114<=80000:=by omega):∃D z j f G A k g,Vm TT w 1950000 (kv) (kv) D z j f (xv) (yv)/\Vm TT w 1950000 (ks+2*kt+2*kv+4) (ks+2*kt+2*kv+4) G A k g ((xv*xt-yv*yt)+xs) ((xv*yt+yv*xt)+ys)/\CF 33 [.agg (BQ AL AK AM AN AP AO AU AT false),.agg (BQ Aw At BE BD Ba BT BW BV false)] (.agg (BQ D z j f G A k g false)):=by
 obtain⟨Bw,Bq,Bu,Bp,o,l⟩:=HV F v hu;have p:=o.shrink v (by rw[t,u];grind) (by rw[t,u];grind);have q:=p.cast (x':=xv) (y':=yv) (by rw[t,u];grind) (by rw[t,u];grind);obtain⟨B,x,C,y,r,m⟩:=HV F v ht;obtain⟨h,c,i,d,s,n⟩:=Ot F r H;refine⟨Bw,Bq,Bu,Bp,h,c,i,d,q.mono (by omega) (by omega),s.mono (by omega) (by omega),?_⟩;refine AZ Tryz.func33 fun E b=>?_
 conv=>cbv
 refine AB b FB ?_;conv=>cbv
 refine AB b FB ?_;conv=>cbv
 refine .inr ?_;refine AB b l ?_;conv=>cbv
 refine AB b m ?_;conv=>cbv
 refine AB b n ?_;conv=>cbv
 intro I a;(have a:=a.trans (show _=false by simp));subst a;conv=>cbv
 refine AB b H3 ?_;conv=>cbv
 refine BB ?_;exact AF ⟨⟨rfl,rfl,rfl,rfl,rfl,rfl,rfl,rfl,rfl,rfl,trivial⟩,trivial⟩
theorem qZ (F:Fd TT w) (hu:Vm TT w 1950000 ku ku AL AK AM AN xu yu) (ht:Vm TT w 1950000 kt kt AP AO AU AT xt yt) (G:Vm TT w 1950000 kv kv Aw At BE BD xv yv) (U:Vm TT w 1950000 ks ks Ba BT BW BV xs ys) (C:xu=1) (D:yu=0) (Y:ks+2*kt+ku+2*kv+114<=80000:=by omega):∃S L n h T M o i,Vm TT w 1950000 (kv) (kv) S L n h (xv) (yv)/\Vm TT w 1950000 (ks+2*kt+2*kv+4) (ks+2*kt+2*kv+4) T M o i ((xv*xt-yv*(-yt))+xs) ((xv*(-yt)+yv*xt)+ys)/\CF 33 [.agg (BQ AL AK AM AN AP AO AU AT false),.agg (BQ Aw At BE BD Ba BT BW BV true)] (.agg (BQ S L n h T M o i true)):=by
 obtain⟨Bw,Bq,Bu,Bp,u,p⟩:=IH F hu;obtain⟨N,H,O,I,v,q⟩:=IH F ht;obtain⟨j,c,k,d,x,r⟩:=HV F G u;have y:=x.shrink G (by rw[C,D];grind) (by rw[C,D];grind);have z:=y.cast (x':=xv) (y':=yv) (by rw[C,D];grind) (by rw[C,D];grind);obtain⟨P,J,R,K,A,s⟩:=HV F G v;obtain⟨l,f,m,g,B,t⟩:=Ot F A U;refine⟨j,c,k,d,l,f,m,g,z.mono (by omega) (by omega),B.mono (by omega) (by omega),?_⟩;refine AZ Tryz.func33 fun E a=>?_
 conv=>cbv
 refine AB a FB ?_;conv=>cbv
 refine AB a FB ?_;conv=>cbv
 refine .inr ?_;refine AB a p ?_;conv=>cbv
 refine AB a q ?_;conv=>cbv
 refine BB ?_;refine AB a r ?_;conv=>cbv
 refine AB a s ?_;conv=>cbv
 refine AB a t ?_;conv=>cbv
 intro W b;(have b:=b.trans (show _=true by simp));subst b;conv=>cbv
 refine AB a H3 ?_;conv=>cbv
 refine BB ?_;exact AF ⟨⟨rfl,rfl,rfl,rfl,rfl,rfl,rfl,rfl,rfl,rfl,trivial⟩,trivial⟩
theorem py (F:Fd TT w) (ha:Vm TT w 1950000 ka ka AL AK AM AN xa ya) (hb:Vm TT w 1950000 kb kb AP AO AU AT xb yb) (t:0<=kk) (v:kk%5=0):∃q a,Vm TT w 1950000 (1) (1) ([]:List LR) q ([]:List LR) a (Re.ofRat ((1:Int):Rat)) (Re.ofRat ((0:Int):Rat))/\CF 21 [.one (.int .u8 kk),.agg (AD AL AK AM AN),.agg (AD AP AO AU AT)] (.agg (BQ [] q [] a AL AK AM AN false)):=by
 obtain⟨BD,BT,h,b⟩:=LK F ha;refine⟨BD,BT,h.mono (by omega) (by omega),?_⟩;refine AZ Tryz.func21 fun E s=>?_
 conv=>cbv
 refine AB s b ?_;conv=>cbv
 intro u r;conv=>cbv
 refine AY ?_;refine .inr ?_;intro m c;conv=>cbv
 refine .inr ?_;cases m <;> conv=>cbv
 ·have i:=BR c;intro n d;conv=>cbv
  cases n <;> conv=>cbv
  ·have j:=BR d;intro o f;conv=>cbv
   refine .inr ?_;cases o <;> conv=>cbv
   ·have k:=BR f;intro p g;conv=>cbv
    cases p <;> conv=>cbv
    ·have l:=BR g;exact AF ⟨⟨rfl,rfl,rfl,rfl,rfl,rfl,rfl,rfl,rfl,rfl,trivial⟩,trivial⟩
    have l:=BS g;exact False.elim (by omega)
   have k:=BS f;exact False.elim (by omega)
  have j:=BS d;exact False.elim (by omega)
 have i:=BS c;exact False.elim (by omega)
theorem qE (F:Fd TT w) (ha:Vm TT w 1950000 ka ka AL AK AM AN xa ya) (hb:Vm TT w 1950000 kb kb AP AO AU AT xb yb) (u:0<=kk) (y:kk%5=1\/kk%5=3) (r:xb=0/\yb=0) (x:kb+111<=80000:=by omega):∃p c q d,Vm TT w 1950000 (1) (1) ([]:List LR) p ([]:List LR) c (Re.ofRat ((1:Int):Rat)) (Re.ofRat ((0:Int):Rat))/\Vm TT w 1950000 (1) (1) ([]:List LR) q ([]:List LR) d (Re.ofRat ((0:Int):Rat)) (Re.ofRat ((0:Int):Rat))/\CF 21 [.one (.int .u8 kk),.agg (AD AL AK AM AN),.agg (AD AP AO AU AT)] (.agg (BQ [] p [] c [] q [] d false)):=by
 obtain⟨BD,BT,s,f⟩:=LK F ha;obtain⟨Bj,Bq,Bp,b,i,j,a⟩:=Rs F;refine⟨Bj,Bq,Bp,b,i.mono (by omega) (by omega),j.mono (by omega) (by omega),?_⟩;refine AZ Tryz.func21 fun E k=>?_
 conv=>cbv
 refine AB k f ?_;conv=>cbv
 intro v t;conv=>cbv
 refine AY ?_;refine .inr ?_;intro n g;conv=>cbv
 refine .inr ?_;cases n <;> conv=>cbv
 ·have l:=BR g;intro o h;conv=>cbv
  cases o <;> conv=>cbv
  ·have m:=BR h;exact False.elim (by omega)
  have m:=BS h;refine AB k (IQ F hb (by omega) (by omega) (e:=true) ⟨fun _=>r,fun _=>rfl⟩) ?_;conv=>cbv
  refine AB k a ?_;conv=>cbv
  exact AF ⟨⟨rfl,rfl,rfl,rfl,rfl,rfl,rfl,rfl,rfl,rfl,trivial⟩,trivial⟩
 have l:=BS g;refine AB k (IQ F hb (by omega) (by omega) (e:=true) ⟨fun _=>r,fun _=>rfl⟩) ?_;conv=>cbv
 refine AB k a ?_;conv=>cbv
 exact AF ⟨⟨rfl,rfl,rfl,rfl,rfl,rfl,rfl,rfl,rfl,rfl,trivial⟩,trivial⟩
theorem qD (F:Fd TT w) (ha:Vm TT w 1950000 ka ka AL AK AM AN xa ya) (hb:Vm TT w 1950000 kb kb AP AO AU AT xb yb) (B:0<=kk) (G:kk%5=2\/kk%5=4) (y:xa=xb/\ya=yb) (D:2*ka+2*kb+443<=80000:=by omega):∃v c x d,Vm TT w 1950000 (1) (1) ([]:List LR) v ([]:List LR) c (Re.ofRat ((1:Int):Rat)) (Re.ofRat ((0:Int):Rat))/\Vm TT w 1950000 (1) (1) ([]:List LR) x ([]:List LR) d (Re.ofRat ((0:Int):Rat)) (Re.ofRat ((0:Int):Rat))/\CF 21 [.one (.int .u8 kk),.agg (AD AL AK AM AN),.agg (AD AP AO AU AT)] (.agg (BQ [] v [] c [] x [] d false)):=by
 obtain⟨BD,BT,z,f⟩:=LK F ha;obtain⟨Bj,Bq,Bp,b,k,l,a⟩:=Rs F;refine⟨Bj,Bq,Bp,b,k.mono (by omega) (by omega),l.mono (by omega) (by omega),?_⟩;refine AZ Tryz.func21 fun E m=>?_
 conv=>cbv
 refine AB m f ?_;conv=>cbv
 intro C A;conv=>cbv
 refine AY ?_;refine .inr ?_;intro r g;conv=>cbv
 refine .inr ?_;cases r <;> conv=>cbv
 ·have n:=BR g;intro s h;conv=>cbv
  cases s <;> conv=>cbv
  ·have o:=BR h;intro t i;conv=>cbv
   refine .inr ?_;cases t <;> conv=>cbv
   ·have p:=BR i;intro u j;conv=>cbv
    cases u <;> conv=>cbv
    ·have q:=BR j;exact False.elim (by omega)
    have q:=BS j;refine AB m (CR F ha hb (by omega) (by omega) (by omega) (by omega) (e:=true) ⟨fun _=>y,fun _=>rfl⟩) ?_;conv=>cbv
    refine AB m a ?_;conv=>cbv
    exact AF ⟨⟨rfl,rfl,rfl,rfl,rfl,rfl,rfl,rfl,rfl,rfl,trivial⟩,trivial⟩
   have p:=BS i;refine AB m (CR F ha hb (by omega) (by omega) (by omega) (by omega) (e:=true) ⟨fun _=>y,fun _=>rfl⟩) ?_;conv=>cbv
   refine AB m a ?_;conv=>cbv
   exact AF ⟨⟨rfl,rfl,rfl,rfl,rfl,rfl,rfl,rfl,rfl,rfl,trivial⟩,trivial⟩
  have o:=BS h;exact False.elim (by omega)
 have n:=BS g;exact False.elim (by omega)
theorem pz (F:Fd TT w) (ha:Vm TT w 1950000 ka ka AL AK AM AN xa ya) (hb:Vm TT w 1950000 kb kb AP AO AU AT xb yb) (o:0<=kk) (t:kk%5=1) (l:¬(xb=0/\yb=0)) (k:CF 73 [.agg (AD AL AK AM AN),.agg (AD AP AO AU AT)] (.agg (BQ T1 A1 T2 A2 T3 A3 T4 A4 false))) (s:kb+111<=80000:=by omega):CF 21 [.one (.int .u8 kk),.agg (AD AL AK AM AN),.agg (AD AP AO AU AT)] (.agg (BQ T1 A1 T2 A2 T3 A3 T4 A4 false)):=by
 obtain⟨BD,BT,j,a⟩:=LK F ha;refine AZ Tryz.func21 fun E d=>?_
 conv=>cbv
 refine AB d a ?_;conv=>cbv
 intro p m;conv=>cbv
 refine AY ?_;refine .inr ?_;intro h b;conv=>cbv
 refine .inr ?_;cases h <;> conv=>cbv
 ·have f:=BR b;exact False.elim (by omega)
 have f:=BS b;refine AB (r:= .one (.bool false)) d (IQ F hb (by omega) (by omega) (e:=false) ⟨fun z=>(by cases z),fun z=>absurd z l⟩) ?_;conv=>cbv
 refine AB d k ?_;conv=>cbv
 intro q n;conv=>cbv
 refine AY ?_;intro i c;conv=>cbv
 cases i <;> conv=>cbv
 ·have g:=BR c;exact False.elim (by omega)
 have g:=BS c;exact AF ⟨⟨rfl,rfl,rfl,rfl,rfl,rfl,rfl,rfl,rfl,rfl,trivial⟩,trivial⟩
theorem qB (F:Fd TT w) (ha:Vm TT w 1950000 ka ka AL AK AM AN xa ya) (hb:Vm TT w 1950000 kb kb AP AO AU AT xb yb) (S:Vm TT w 1950000 kv kv Aw At BE BD xv yv) (R:Vm TT w 1950000 ks ks Ba BT BW BV xs ys) (P:0<=kk) (Y:kk%5=3) (M:¬(xb=0/\yb=0)) (L:CF 73 [.agg (AD AL AK AM AN),.agg (AD AP AO AU AT)] (.agg (BQ Aw At BE BD Ba BT BW BV false))) (W:2*ka+kb+ks+2*kv+115<=80000:=by omega):∃J H l f K I m g,Vm TT w 1950000 (kv) (kv) J H l f (xv) (yv)/\Vm TT w 1950000 (2*ka+ks+2*kv+4) (2*ka+ks+2*kv+4) K I m g ((xv*xa-yv*ya)+xs) ((xv*ya+yv*xa)+ys)/\CF 21 [.one (.int .u8 kk),.agg (AD AL AK AM AN),.agg (AD AP AO AU AT)] (.agg (BQ J H l f K I m g false)):=by
 obtain⟨Bq,Bp,t,n⟩:=LK F ha;obtain⟨h,a,i,b,j,c,k,d,u,v,o⟩:=qY F t ha S R Vn Vl;refine⟨h,a,i,b,j,c,k,d,u.mono (by omega) (by omega),v.mono (by omega) (by omega),?_⟩;refine AZ Tryz.func21 fun E x=>?_
 conv=>cbv
 refine AB x n ?_;conv=>cbv
 intro T N;conv=>cbv
 refine AY ?_;refine .inr ?_;intro C p;conv=>cbv
 refine .inr ?_;cases C <;> conv=>cbv
 ·have y:=BR p;intro D q;conv=>cbv
  cases D <;> conv=>cbv
  ·have A:=BR q;exact False.elim (by omega)
  have A:=BS q;refine AB (r:= .one (.bool false)) x (IQ F hb (by omega) (by omega) (e:=false) ⟨fun z=>(by cases z),fun z=>absurd z M⟩) ?_;conv=>cbv
  refine AB x L ?_;conv=>cbv
  intro U O;conv=>cbv
  refine AY ?_;intro G s;conv=>cbv
  cases G <;> conv=>cbv
  ·have B:=BR s;refine AB x o ?_;conv=>cbv
   exact AF ⟨⟨rfl,rfl,rfl,rfl,rfl,rfl,rfl,rfl,rfl,rfl,trivial⟩,trivial⟩
  have B:=BS s;exact False.elim (by omega)
 have y:=BS p;exact False.elim (by omega)
theorem qA (F:Fd TT w) (ha:Vm TT w 1950000 ka ka AL AK AM AN xa ya) (hb:Vm TT w 1950000 kb kb AP AO AU AT xb yb) (x:0<=kk) (C:kk%5=2) (t:¬(xa=xb/\ya=yb)) (q:CF 75 [.agg (AD AL AK AM AN),.agg (AD AP AO AU AT)] (.agg (AS Pr Pf Ps Pg Pt Ph))) (s:CF 74 [.agg (AS Pr Pf Ps Pg Pt Ph)] (.agg (BQ T1 A1 T2 A2 T3 A3 T4 A4 true))) (B:2*ka+2*kb+443<=80000:=by omega):CF 21 [.one (.int .u8 kk),.agg (AD AL AK AM AN),.agg (AD AP AO AU AT)] (.agg (BQ T1 A1 T2 A2 T3 A3 T4 A4 true)):=by
 obtain⟨BD,BT,p,a⟩:=LK F ha;refine AZ Tryz.func21 fun E g=>?_
 conv=>cbv
 refine AB g a ?_;conv=>cbv
 intro y u;conv=>cbv
 refine AY ?_;refine .inr ?_;intro l b;conv=>cbv
 refine .inr ?_;cases l <;> conv=>cbv
 ·have h:=BR b;intro m c;conv=>cbv
  cases m <;> conv=>cbv
  ·have i:=BR c;intro n d;conv=>cbv
   refine .inr ?_;cases n <;> conv=>cbv
   ·have j:=BR d;exact False.elim (by omega)
   have j:=BS d;refine AB (r:= .one (.bool false)) g (CR F ha hb (by omega) (by omega) (by omega) (by omega) (e:=false) ⟨fun z=>(by cases z),fun z=>absurd z t⟩) ?_;conv=>cbv
   refine AB g q ?_;conv=>cbv
   refine AB g s ?_;conv=>cbv
   intro A v;conv=>cbv
   refine AY ?_;intro o f;conv=>cbv
   cases o <;> conv=>cbv
   ·have k:=BR f;exact False.elim (by omega)
   have k:=BS f;exact AF ⟨⟨rfl,rfl,rfl,rfl,rfl,rfl,rfl,rfl,rfl,rfl,trivial⟩,trivial⟩
  have i:=BS c;exact False.elim (by omega)
 have h:=BS b;exact False.elim (by omega)
theorem qC (F:Fd TT w) (ha:Vm TT w 1950000 ka ka AL AK AM AN xa ya) (hb:Vm TT w 1950000 kb kb AP AO AU AT xb yb) (hv:Vm TT w 1950000 kv kv Aw At BE BD xv yv) (hs:Vm TT w 1950000 ks ks Ba BT BW BV xs ys) (Z:0<=kk) (hk:kk%5=4) (U:¬(xa=xb/\ya=yb)) (S:CF 75 [.agg (AD AL AK AM AN),.agg (AD AP AO AU AT)] (.agg (AS Pr Pf Ps Pg Pt Ph))) (T:CF 74 [.agg (AS Pr Pf Ps Pg Pt Ph)] (.agg (BQ Aw At BE BD Ba BT BW BV true))) (hM:2*ka+2*kb+ks+2*kv+443<=80000:=by omega):∃P N l f R O m g,Vm TT w 1950000 (kv) (kv) P N l f (xv) (yv)/\Vm TT w 1950000 (2*ka+ks+2*kv+4) (2*ka+ks+2*kv+4) R O m g ((xv*xa-yv*(-ya))+xs) ((xv*(-ya)+yv*xa)+ys)/\CF 21 [.one (.int .u8 kk),.agg (AD AL AK AM AN),.agg (AD AP AO AU AT)] (.agg (BQ P N l f R O m g true)):=by
 obtain⟨Bq,Bp,v,n⟩:=LK F ha;obtain⟨h,a,i,b,j,c,k,d,x,y,o⟩:=qZ F v ha hv hs Vn Vl;refine⟨h,a,i,b,j,c,k,d,x.mono (by omega) (by omega),y.mono (by omega) (by omega),?_⟩;refine AZ Tryz.func21 fun E A=>?_
 conv=>cbv
 refine AB A n ?_;conv=>cbv
 intro a1 W;conv=>cbv
 refine AY ?_;refine .inr ?_;intro I p;conv=>cbv
 refine .inr ?_;cases I <;> conv=>cbv
 ·have B:=BR p;intro J q;conv=>cbv
  cases J <;> conv=>cbv
  ·have C:=BR q;intro K s;conv=>cbv
   refine .inr ?_;cases K <;> conv=>cbv
   ·have D:=BR s;intro L t;conv=>cbv
    cases L <;> conv=>cbv
    ·have G:=BR t;exact False.elim (by omega)
    have G:=BS t;refine AB (r:= .one (.bool false)) A (CR F ha hb (by omega) (by omega) (by omega) (by omega) (e:=false) ⟨fun z=>(by cases z),fun z=>absurd z U⟩) ?_;conv=>cbv
    refine AB A S ?_;conv=>cbv
    refine AB A T ?_;conv=>cbv
    intro a2 Y;conv=>cbv
    refine AY ?_;intro M u;conv=>cbv
    cases M <;> conv=>cbv
    ·have H:=BR u;refine AB A o ?_;conv=>cbv
     exact AF ⟨⟨rfl,rfl,rfl,rfl,rfl,rfl,rfl,rfl,rfl,rfl,trivial⟩,trivial⟩
    have H:=BS u;exact False.elim (by omega)
   have D:=BS s;exact False.elim (by omega)
  have C:=BS q;exact False.elim (by omega)
 have B:=BS p;exact False.elim (by omega)
theorem QK {P:List (List Rat)->Prop} {w0:List (List Rat)} (L:Pl P V w0) {i Ia Ib Ic:List LR} {IS IT IU IV:LR} (ha:∀{b k:Nat},227018<=k*b->Vm (Tf P) w0 b k k i IS Ia IT xa ya) (hb:∀{b k:Nat},227018<=k*b->Vm (Tf P) w0 b k k Ib IU Ic IV xb yb) (d:0<=kk):∃n,0<n/\(∃k T A,k<=167/\Nm (Tf P) w0 11500 k T A n)/\∃T1 A1 T2 A2 T3 A3 T4 A4 mr xu yu xt yt,Vm (Tf (P4 P n)) (Aj w0 n) 1950000 27 27 T1 A1 T2 A2 xu yu/\Vm (Tf (P4 P n)) (Aj w0 n) 1950000 121 121 T3 A3 T4 A4 xt yt/\xu*xu+yu*yu=1/\CF 21 [.one (.int .u8 kk),.agg (AD i IS Ia IT),.agg (AD Ib IU Ic IV)] (.agg (BQ T1 A1 T2 A2 T3 A3 T4 A4 mr)):=by
 have key:∀n,0<n->(∃k T A,k<=167/\Nm (Tf P) w0 11500 k T A n)->Fd (Tf (P4 P n)) (Aj w0 n)/\Vm (Tf (P4 P n)) (Aj w0 n) 1950000 1 1 i IS Ia IT xa ya/\Vm (Tf (P4 P n)) (Aj w0 n) 1950000 1 1 Ib IU Ic IV xb yb:=by
  intro n g ⟨k,T,A,C,D⟩;obtain⟨F,U,_,_⟩:=Mc L D C (by grind);exact⟨F,U.v (by decide) (by decide) (ha (b:=11500) (k:=20) (by decide)),U.v (by decide) (by decide) (hb (b:=11500) (k:=20) (by decide))⟩
 have one:∃k T A,k<=167/\Nm (Tf P) w0 11500 k T A (1:Re):=⟨1,_,_,by decide,Gs L.fe (by decide) (r:=1) (F2 (by decide +kernel))⟩
 have h:(0:Re)<1:=by grind
 have u:Re.ofRat ((1:Int):Rat)*Re.ofRat ((1:Int):Rat)+Re.ofRat ((0:Int):Rat)*Re.ofRat ((0:Int):Rat)=1:=by rw[Vn,Vl];grind
 have a:kk%5=0\/(kk%5=1\/kk%5=3)\/(kk%5=2\/kk%5=4):=by omega
 rcases a with a | a | a
 ·obtain⟨F,ga,f⟩:=key 1 h one;obtain⟨_,_,hu,c⟩:=py F ga f d a;exact⟨1,h,one,_,_,_,_,_,_,_,_,_,_,_,_,_,hu.mono (by omega) (by omega),ga.mono (by omega) (by omega),u,c⟩
 ·by_cases g:xb=0/\yb=0
  ·obtain⟨F,ga,f⟩:=key 1 h one;obtain⟨_,_,_,_,hu,t,c⟩:=qE F ga f d a g;exact⟨1,h,one,_,_,_,_,_,_,_,_,_,_,_,_,_,hu.mono (by omega) (by omega),t.mono (by omega) (by omega),u,c⟩
  obtain⟨n,j,l,T1,A1,T2,A2,T3,A3,T4,A4,xu,yu,xt,yt,hu,ht,m,c⟩:=qp L ha hb g;obtain⟨F,ga,f⟩:=key n j l;rcases a with a | a
  ·exact⟨n,j,l,_,_,_,_,_,_,_,_,_,_,_,_,_,hu,ht.mono (by omega) (by omega),m,pz F ga f d a g c⟩
  obtain⟨_,_,_,_,_,_,_,_,hw,s,c2⟩:=qB F ga f hu ht d a g c;exact⟨n,j,l,_,_,_,_,_,_,_,_,_,_,_,_,_,hw.mono (by omega) (by omega),s.mono (by omega) (by omega),m,c2⟩
 by_cases g:xa=xb/\ya=yb
 ·obtain⟨F,ga,f⟩:=key 1 h one;obtain⟨_,_,_,_,hu,t,c⟩:=qD F ga f d a g;exact⟨1,h,one,_,_,_,_,_,_,_,_,_,_,_,_,_,hu.mono (by omega) (by omega),t.mono (by omega) (by omega),u,c⟩
 obtain⟨T1,A1,T2,A2,T3,A3,T4,A4,xu,yu,xt,yt,p,o,m,_,_,_,_,_,_,z,B⟩:=oM L ha hb g;obtain⟨F,ga,f⟩:=key 1 h one;have i1:In w0 (1:Re):=He 1 w0;have q:(0:Re)<=1:=by grind
 have hu:Vm (Tf (P4 P 1)) (Aj w0 1) 1950000 27 27 T1 A1 T2 A2 xu yu:=⟨L.lift i1 q p.x (by omega),L.lift i1 q p.y (by omega)⟩;have ht:Vm (Tf (P4 P 1)) (Aj w0 1) 1950000 61 61 T3 A3 T4 A4 xt yt:=⟨L.lift i1 q o.x (by omega),L.lift i1 q o.y (by omega)⟩;rcases a with a | a
 ·exact⟨1,h,one,_,_,_,_,_,_,_,_,_,_,_,_,_,hu,ht.mono (by omega) (by omega),m,qA F ga f d a g z B⟩
 obtain⟨_,_,_,_,_,_,_,_,hw,s,c2⟩:=qC F ga f hu ht d a g z B;exact⟨1,h,one,_,_,_,_,_,_,_,_,_,_,_,_,_,hw.mono (by omega) (by omega),s.mono (by omega) (by omega),m,c2⟩
theorem n3 {W:List UInt8} (a:CF 20 [.agg [.sl Bh X,.sl .u8 W],.one (.int .i64 5)] (.AI [(false,[.sl BL Q]),(false,[.bool false])])):CF 15 [.agg [.sl (.pr .u8 (.pr .u8 (.pr .u8 (.pr .i8 .u8)))) X,.sl .u8 W],.agg [.int .u8 km,.int .u8 kn]] (.AI [(true,[.nil,.nil,.nil,.nil,.nil,.nil,.nil,.nil,.bool false]),(true,[.nil,.nil,.nil,.nil,.nil,.nil,.nil,.nil,.bool false]),(true,[.nil,.nil,.nil,.nil]),(false,[.bool false])]):=by
 refine AZ Tryz.func15 fun E b=>?_
 conv=>cbv
 refine AB b a ?_;conv=>cbv
 refine BM ?_;conv=>cbv
 exact AF ⟨⟨rfl,.inl rfl,.inl rfl,.inl rfl,.inl rfl,.inl rfl,.inl rfl,.inl rfl,.inl rfl,rfl,trivial⟩,⟨rfl,.inl rfl,.inl rfl,.inl rfl,.inl rfl,.inl rfl,.inl rfl,.inl rfl,.inl rfl,rfl,trivial⟩,⟨rfl,.inl rfl,.inl rfl,.inl rfl,.inl rfl,trivial⟩,t2,trivial⟩
theorem oA {W:List UInt8} {T5 T6 T7 T8:List LR} {A5 A6 A7 A8:LR} {mr nr:Bool} (m:CF 20 [.agg [.sl Bh X,.sl .u8 W],.one (.int .i64 5)] (.AI [(false,[.sl BL Q]),(false,[.bool true])])) {a x1 x2 b c:el BL} (f:Q[0]? =some a) (g:Q[1]? =some x1) (h:Q[2]? =some x2) (i:Q[3]? =some b) (j:Q[4]? =some c) (k:CF 21 [.one (.int .u8 km),.agg (AD a.1.1 a.1.2 a.2.1 a.2.2),.agg (AD x1.1.1 x1.1.2 x1.2.1 x1.2.2)] (.agg (BQ T1 A1 T2 A2 T3 A3 T4 A4 mr))) (l:CF 21 [.one (.int .u8 kn),.agg (AD x2.1.1 x2.1.2 x2.2.1 x2.2.2),.agg (AD b.1.1 b.1.2 b.2.1 b.2.2)] (.agg (BQ T5 A5 T6 A6 T7 A7 T8 A8 nr))):CF 15 [.agg [.sl (.pr .u8 (.pr .u8 (.pr .u8 (.pr .i8 .u8)))) X,.sl .u8 W],.agg [.int .u8 km,.int .u8 kn]] (.AI [(true,(BQ T1 A1 T2 A2 T3 A3 T4 A4 mr)),(true,(BQ T5 A5 T6 A6 T7 A7 T8 A8 nr)),(true,(AD c.1.1 c.1.2 c.2.1 c.2.2)),(false,[.bool true])]):=by
 refine AZ Tryz.func15 fun E d=>?_
 conv=>cbv
 refine AB d m ?_;conv=>cbv
 refine AR ?_;conv=>cbv
 refine⟨a,fun _=>⟨by omega,f⟩,?_⟩;try conv=>cbv
 refine⟨x1,fun _=>⟨by omega,g⟩,?_⟩;try conv=>cbv
 refine AB d k ?_;conv=>cbv
 refine⟨x2,fun _=>⟨by omega,h⟩,?_⟩;try conv=>cbv
 refine⟨b,fun _=>⟨by omega,i⟩,?_⟩;try conv=>cbv
 refine AB d l ?_;conv=>cbv
 refine⟨c,fun _=>⟨by omega,j⟩,?_⟩;try conv=>cbv
 refine BB ?_;exact AF ⟨⟨rfl,rfl,rfl,rfl,rfl,rfl,rfl,rfl,rfl,rfl,trivial⟩,⟨rfl,rfl,rfl,rfl,rfl,rfl,rfl,rfl,rfl,rfl,trivial⟩,⟨rfl,rfl,rfl,rfl,rfl,trivial⟩,t2,trivial⟩
theorem Ut {W:List UInt8} {ns:List Nu} (g:ns=(runN (X.take 24)).1) (f:V.length<=3) (a:∀n∈ns,CL V n) (L:Pl (PN ns) V w) (q:0<=km) (r:0<=kn):CF 15 [.agg [.sl Bh X,.sl .u8 W],.agg [.int .u8 km,.int .u8 kn]] (.AI [(true,[.nil,.nil,.nil,.nil,.nil,.nil,.nil,.nil,.bool false]),(true,[.nil,.nil,.nil,.nil,.nil,.nil,.nil,.nil,.bool false]),(true,[.nil,.nil,.nil,.nil]),(false,[.bool false])])\/(∃n1 n2,0<n1/\0<n2/\(∃k T A,k<=167/\Nm (Tf (PN ns)) w 11500 k T A n1)/\(∃k T A,k<=167/\Nm (Tf (PN ns)) w 11500 k T A n2)/\∃T1 A1 T2 A2 T3 A3 T4 A4 mr xu yu xt yt T5 A5 T6 A6 T7 A7 T8 A8 nr xv yv xs ys,∃x:el BL,∃H I,Vm (Tf (P4 (PN ns) n1)) (Aj w n1) 1950000 27 27 T1 A1 T2 A2 xu yu/\Vm (Tf (P4 (PN ns) n1)) (Aj w n1) 1950000 121 121 T3 A3 T4 A4 xt yt/\xu*xu+yu*yu=1/\Vm (Tf (P4 (PN ns) n2)) (Aj w n2) 1950000 27 27 T5 A5 T6 A6 xv yv/\Vm (Tf (P4 (PN ns) n2)) (Aj w n2) 1950000 121 121 T7 A7 T8 A8 xs ys/\xv*xv+yv*yv=1/\(∀{b k:Nat},227018<=k*b->Vm (Tf (PN ns)) w b k k x.1.1 x.1.2 x.2.1 x.2.2 H I)/\CF 15 [.agg [.sl Bh X,.sl .u8 W],.agg [.int .u8 km,.int .u8 kn]] (.AI [(true,(BQ T1 A1 T2 A2 T3 A3 T4 A4 mr)),(true,(BQ T5 A5 T6 A6 T7 A7 T8 A8 nr)),(true,(AD x.1.1 x.1.2 x.2.1 x.2.2)),(false,[.bool true])])):=by
 obtain⟨Q,d⟩:∃z,z=IG ns W:=⟨_,rfl⟩
 by_cases G:5<=Q.length
 ·right
  have M:=IP g f a d (i:=5) (i':=5) ⟨rfl⟩ (by decide) (c:=true) (decide_eq_true G).symm;obtain⟨x0,h⟩:=Ao (l:=Q) (i:=0) (by omega);obtain⟨U,Y0,u⟩:=G7 L a d h;obtain⟨x1,j⟩:=Ao (l:=Q) (i:=1) (by omega);obtain⟨Y,Y1,v⟩:=G7 L a d j;obtain⟨x2,m⟩:=Ao (l:=Q) (i:=2) (by omega);obtain⟨Z,Y2,y⟩:=G7 L a d m;obtain⟨x3,o⟩:=Ao (l:=Q) (i:=3) (by omega);obtain⟨X3,Y3,B⟩:=G7 L a d o;obtain⟨S,p⟩:=Ao (l:=Q) (i:=4) (by omega);obtain⟨X4,Y4,C⟩:=G7 L a d p;obtain⟨n1,P,s,T1,A1,T2,A2,T3,A3,T4,A4,mr,xu,yu,xt,yt,hu,ht,D,J⟩:=QK L u v q;obtain⟨n2,R,t,T5,A5,T6,A6,T7,A7,T8,A8,nr,xv,yv,xs,ys,O,N,F,K⟩:=QK L y B r;exact⟨n1,n2,P,R,s,t,T1,A1,T2,A2,T3,A3,T4,A4,mr,xu,yu,xt,yt,T5,A5,T6,A6,T7,A7,T8,A8,nr,xv,yv,xs,ys,S,X4,Y4,hu,ht,D,O,N,F,C,oA M h j m o p J K⟩
 left
 exact n3 (IP g f a d (i:=5) (i':=5) ⟨rfl⟩ (by decide) (c:=false) (decide_eq_false G).symm)
end Go.Abs
