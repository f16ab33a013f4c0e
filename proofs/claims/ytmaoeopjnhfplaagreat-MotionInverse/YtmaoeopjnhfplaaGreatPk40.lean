/- Part 41 of a proof. Conditions: each theorem's own. -/
import Derived.Test.YtmaoeopjnhfplaaGreatPk34
import Derived.Test.YtmaoeopjnhfplaaGreatPk38
set_option linter.all false
set_option maxHeartbeats 8000000
set_option maxRecDepth 20000
open Go.Proofs
namespace Go.Abs
open Go.RowKit
variable {A1 A2 A3 A4 A5 AK AN AO AT At BD BT BV A6 A7 A8:LR} {T1 T2 T3 T4 T5 AL AM AP AU Aw BE Ba BW T6 T7 T8:List LR} {TT:List (List Rat)->Prop} {X:List (el Bh)} {a b xa xs xt xu xv ya ys yt yu yv:Re} {e e1 e2 mr nr:Bool} {ka ks kt ku kv:Nat} {km kn:Int} {w:List (List Rat)}
theorem nq (F:Fd TT w) (hu:Vm TT w 1950000 ku ku AL AK AM AN xu yu) (ht:Vm TT w 1950000 kt kt AP AO AU AT xt yt) (D:2*kt+2*ku+115<=80000:=by omega):∃A v n j B z o k,Vm TT w 1950000 (ku) (ku) A v n j (xu) (-yu)/\Vm TT w 1950000 (2*kt+2*ku+5) (2*kt+2*ku+5) B z o k ((Re.ofRat ((0:Int):Rat))-((xu*xt)-((-yu)*yt))) ((Re.ofRat ((0:Int):Rat))-(((-yu)*xt)+(xu*yt)))/\CF 34 [.agg (BQ AL AK AM AN AP AO AU AT false)] (.AI [(true,(BQ A v n j B z o k false)),(false,[.int .i64 0])]):=by
 obtain⟨BT,s,q,C⟩:=FK F hu.y;have d:Vm _ w 1950000 ku ku AL AK AM BT _ _:=⟨hu.x.mono (by omega),s.mono (by omega)⟩;obtain⟨Bj,c,f⟩:=H2 F (p:=((0:Int):Rat)) (by decide +kernel);have t:Vm _ w 1950000 1 1 ([]:List LR) Bj ([]:List LR) Bj _ _:=⟨f.mono (by omega),f.mono (by omega)⟩;obtain⟨l,h,m,i,u,r⟩:=RN F d ht t;refine⟨AL,AK,AM,BT,l,h,m,i,d.mono (by omega) (by omega),u.mono (by omega) (by omega),?_⟩;refine AZ Tryz.func34 fun E g=>?_
 conv=>cbv
 refine AB g (RI F hu.x) ?_;conv=>cbv
 refine AB g (RI F hu.y) ?_;conv=>cbv
 refine BB ?_;refine BM ?_;conv=>cbv
 refine .inr ?_;refine AB g q ?_;conv=>cbv
 refine AB g (MB (by decide) (NP (by decide +kernel:Co ((0:Int):Rat))) c) ?_;conv=>cbv
 refine AB g (MB (by decide) (NP (by decide +kernel:Co ((0:Int):Rat))) c) ?_;conv=>cbv
 refine AW 23 1 g r ?_;try conv=>cbv
 refine BB ?_;exact AF ⟨⟨rfl,rfl,rfl,rfl,rfl,rfl,rfl,rfl,rfl,rfl,trivial⟩,t2,trivial⟩
theorem qJ (F:Fd TT w) (hu:Vm TT w 1950000 ku ku AL AK AM AN xu yu) (ht:Vm TT w 1950000 kt kt AP AO AU AT xt yt) (t:2*kt+2*ku+114<=80000:=by omega):∃r p j h s q k i,Vm TT w 1950000 (ku) (ku) r p j h (xu) (-yu)/\Vm TT w 1950000 (2*kt+2*ku+3) (2*kt+2*ku+3) s q k i (-(xu*xt-(-yu)*yt)) (-(xu*yt+(-yu)*xt))/\CF 35 [.agg (BQ AL AK AM AN AP AO AU AT false)] (.agg (BQ r p j h s q k i false)):=by
 obtain⟨BE,BD,Ba,BT,d,c⟩:=IH F hu;obtain⟨Bm,Bj,Bw,Bq,n,l⟩:=HV F d ht;obtain⟨Bp,g,o,m⟩:=Jm F n;refine⟨BE,BD,Ba,BT,Bm,Bp,Bw,g,d.mono (by omega) (by omega),o.mono (by omega) (by omega),?_⟩;refine AZ Tryz.func35 fun E f=>?_
 conv=>cbv
 refine AB f FB ?_;conv=>cbv
 refine AB f c ?_;conv=>cbv
 refine AB f c ?_;conv=>cbv
 refine AB f l ?_;conv=>cbv
 refine AB f m ?_;conv=>cbv
 refine AB f H3 ?_;conv=>cbv
 refine BB ?_;exact AF ⟨⟨rfl,rfl,rfl,rfl,rfl,rfl,rfl,rfl,rfl,rfl,trivial⟩,trivial⟩
theorem oF (F:Fd TT w) (hu:Vm TT w 1950000 ku ku AL AK AM AN xu yu) (ht:Vm TT w 1950000 kt kt AP AO AU AT xt yt) (D:Vm TT w 1950000 kv kv Aw At BE BD xv yv) (t:Vm TT w 1950000 ks ks Ba BT BW BV xs ys) (H:ks+2*kt+2*ku+2*kv+114<=80000:=by omega):∃B x k g C y l h,Vm TT w 1950000 (2*ku+2*kv+3) (2*ku+2*kv+3) B x k g ((xv*xu)-(yv*yu)) ((yv*xu)+(xv*yu))/\Vm TT w 1950000 (ks+2*kt+2*kv+4) (ks+2*kt+2*kv+4) C y l h (((xv*xt)-(yv*yt))+xs) (((yv*xt)+(xv*yt))+ys)/\CF 32 [.agg (BQ AL AK AM AN AP AO AU AT false),.agg (BQ Aw At BE BD Ba BT BW BV false)] (.AI [(true,(BQ B x k g C y l h false)),(false,[.int .i64 0])]):=by
 obtain⟨Bw,Bq,Bu,Bp,p,m⟩:=Uo F D t hu;obtain⟨z,u,A,v,q,n⟩:=Uo F D t ht;obtain⟨i,d,j,f,r,o⟩:=Fw F q t;refine⟨Bw,Bq,Bu,Bp,i,d,j,f,p.mono (by omega) (by omega),r.mono (by omega) (by omega),?_⟩;refine AZ Tryz.func32 fun E s=>?_
 conv=>cbv
 refine AW 10 1 s m ?_;try conv=>cbv
 refine AW 10 1 s n ?_;try conv=>cbv
 refine AW 10 1 s (F8 o) ?_;try conv=>cbv
 refine BB ?_;intro G c;(have c:=c.trans (show _=false by simp));subst c;conv=>cbv
 refine AW 10 1 s KC ?_;try conv=>cbv
 exact AF ⟨⟨rfl,rfl,rfl,rfl,rfl,rfl,rfl,rfl,rfl,rfl,trivial⟩,t2,trivial⟩
theorem nt (F:Fd TT w) (hu:Vm TT w 1950000 ku ku AL AK AM AN xu yu) (ht:Vm TT w 1950000 kt kt AP AO AU AT xt yt) (n:2*kt+2*ku+115<=80000:=by omega):∃m l g f,Vm TT w 1950000 (2*kt+2*ku+5) (2*kt+2*ku+5) m l g f ((Re.ofRat ((0:Int):Rat))-((xu*xt)-(yu*(-yt)))) ((Re.ofRat ((0:Int):Rat))-((yu*xt)+(xu*(-yt))))/\CF 34 [.agg (BQ AL AK AM AN AP AO AU AT true)] (.AI [(true,(BQ AL AK AM AN m l g f true)),(false,[.int .i64 0])]):=by
 obtain⟨BT,c,d⟩:=H2 F (p:=((0:Int):Rat)) (by decide +kernel);have i:Vm _ w 1950000 1 1 ([]:List LR) BT ([]:List LR) BT _ _:=⟨d.mono (by omega),d.mono (by omega)⟩;obtain⟨Bw,Bq,Bu,Bp,j,h⟩:=aX F hu ht i;refine⟨Bw,Bq,Bu,Bp,j.mono (by omega) (by omega),?_⟩;refine AZ Tryz.func34 fun E k=>?_
 conv=>cbv
 refine AB k (RI F hu.x) ?_;conv=>cbv
 refine AB k (RI F hu.y) ?_;conv=>cbv
 refine BB ?_;refine AR ?_;conv=>cbv
 refine .inr ?_;refine AB k (MB (by decide) (NP (by decide +kernel:Co ((0:Int):Rat))) c) ?_;conv=>cbv
 refine AB k (MB (by decide) (NP (by decide +kernel:Co ((0:Int):Rat))) c) ?_;conv=>cbv
 refine AW 23 1 k h ?_;try conv=>cbv
 refine BB ?_;exact AF ⟨⟨rfl,rfl,rfl,rfl,rfl,rfl,rfl,rfl,rfl,rfl,trivial⟩,t2,trivial⟩
theorem qK (F:Fd TT w) (hu:Vm TT w 1950000 ku ku AL AK AM AN xu yu) (ht:Vm TT w 1950000 kt kt AP AO AU AT xt yt) (p:2*kt+2*ku+114<=80000:=by omega):∃o n f d,Vm TT w 1950000 (2*kt+2*ku+3) (2*kt+2*ku+3) o n f d (-(xu*xt-yu*(-yt))) (-(xu*(-yt)+yu*xt))/\CF 35 [.agg (BQ AL AK AM AN AP AO AU AT true)] (.agg (BQ AL AK AM AN o n f d true)):=by
 obtain⟨BE,BD,Ba,BT,j,g⟩:=IH F ht;obtain⟨Bm,Bj,Bw,Bq,k,h⟩:=HV F hu j;obtain⟨Bp,c,l,i⟩:=Jm F k;refine⟨Bm,Bp,Bw,c,l.mono (by omega) (by omega),?_⟩;refine AZ Tryz.func35 fun E m=>?_
 conv=>cbv
 refine AB m FB ?_;conv=>cbv
 refine AB m g ?_;conv=>cbv
 refine AB m h ?_;conv=>cbv
 refine AB m i ?_;conv=>cbv
 refine AB m H3 ?_;conv=>cbv
 refine BB ?_;exact AF ⟨⟨rfl,rfl,rfl,rfl,rfl,rfl,rfl,rfl,rfl,rfl,trivial⟩,trivial⟩
theorem oG (F:Fd TT w) (hu:Vm TT w 1950000 ku ku AL AK AM AN xu yu) (ht:Vm TT w 1950000 kt kt AP AO AU AT xt yt) (D:Vm TT w 1950000 kv kv Aw At BE BD xv yv) (t:Vm TT w 1950000 ks ks Ba BT BW BV xs ys) (H:ks+2*kt+2*ku+2*kv+114<=80000:=by omega):∃B x k g C y l h,Vm TT w 1950000 (2*ku+2*kv+3) (2*ku+2*kv+3) B x k g ((xv*xu)-(yv*(-yu))) ((yv*xu)+(xv*(-yu)))/\Vm TT w 1950000 (ks+2*kt+2*kv+4) (ks+2*kt+2*kv+4) C y l h (((xv*xt)-(yv*(-yt)))+xs) (((yv*xt)+(xv*(-yt)))+ys)/\CF 32 [.agg (BQ AL AK AM AN AP AO AU AT true),.agg (BQ Aw At BE BD Ba BT BW BV true)] (.AI [(true,(BQ B x k g C y l h false)),(false,[.int .i64 0])]):=by
 obtain⟨Bw,Bq,Bu,Bp,p,m⟩:=Uq F D t hu;obtain⟨z,u,A,v,q,n⟩:=Uq F D t ht;obtain⟨i,d,j,f,r,o⟩:=Fw F q t;refine⟨Bw,Bq,Bu,Bp,i,d,j,f,p.mono (by omega) (by omega),r.mono (by omega) (by omega),?_⟩;refine AZ Tryz.func32 fun E s=>?_
 conv=>cbv
 refine AW 10 1 s m ?_;try conv=>cbv
 refine AW 10 1 s n ?_;try conv=>cbv
 refine AW 10 1 s (F8 o) ?_;try conv=>cbv
 refine BB ?_;intro G c;(have c:=c.trans (show _=false by simp));subst c;conv=>cbv
 refine AW 10 1 s KC ?_;try conv=>cbv
 exact AF ⟨⟨rfl,rfl,rfl,rfl,rfl,rfl,rfl,rfl,rfl,rfl,trivial⟩,t2,trivial⟩
theorem np {d f:Bool} (c1:CF 80 [.agg (As T1 A1),.agg (As T5 A5)] (.one (.bool e1))) (c2:CF 80 [.agg (As T2 A2),.agg (As T6 A6)] (.one (.bool e2))) (h:CF 80 [.agg (As T3 A3),.agg (As T7 A7)] (.one (.bool d))) (i:CF 80 [.agg (As T4 A4),.agg (As T8 A8)] (.one (.bool f))) (he:e=(mr==nr&&e1&&e2&&d&&f)):CF 36 [.agg (BQ T1 A1 T2 A2 T3 A3 T4 A4 mr),.agg (BQ T5 A5 T6 A6 T7 A7 T8 A8 nr)] (.one (.bool e)):=by
 refine AZ Tryz.func36 fun E c=>?_
 conv=>cbv
 intro k g;conv=>cbv
 cases k <;> conv=>cbv
 ·have j:=QH g;exact AF ⟨⟨rfl,congrArg _ (by simp_all),trivial⟩,trivial⟩
 have j:=QI g;refine AB c c1 ?_;conv=>cbv
 cases e1 <;> conv=>cbv
 ·exact AF ⟨⟨rfl,congrArg _ (by simp_all),trivial⟩,trivial⟩
 refine AB c c2 ?_;conv=>cbv
 cases e2 <;> conv=>cbv
 ·exact AF ⟨⟨rfl,congrArg _ (by simp_all),trivial⟩,trivial⟩
 refine AB c h ?_;conv=>cbv
 cases d <;> conv=>cbv
 ·exact AF ⟨⟨rfl,congrArg _ (by simp_all),trivial⟩,trivial⟩
 refine AB c i ?_;conv=>cbv
 exact AF ⟨⟨rfl,congrArg _ (by simp_all),trivial⟩,trivial⟩
theorem qI (c1:CF 26 [.agg (AD T1 A1 T2 A2),.agg (AD T5 A5 T6 A6)] (.one (.bool e1))) (c2:CF 26 [.agg (AD T3 A3 T4 A4),.agg (AD T7 A7 T8 A8)] (.one (.bool e2))) (he:e=(mr==nr&&e1&&e2)):CF 38 [.agg (BQ T1 A1 T2 A2 T3 A3 T4 A4 mr),.agg (BQ T5 A5 T6 A6 T7 A7 T8 A8 nr)] (.one (.bool e)):=by
 refine AZ Tryz.func38 fun E d=>?_
 conv=>cbv
 refine AB d FB ?_;conv=>cbv
 refine AB d FB ?_;conv=>cbv
 intro g c;conv=>cbv
 cases g <;> conv=>cbv
 ·have f:=QH c;exact AF ⟨⟨rfl,congrArg _ (by simp_all),trivial⟩,trivial⟩
 have f:=QI c;refine AB d c1 ?_;conv=>cbv
 cases e1 <;> conv=>cbv
 ·exact AF ⟨⟨rfl,congrArg _ (by simp_all),trivial⟩,trivial⟩
 refine AB d c2 ?_;conv=>cbv
 exact AF ⟨⟨rfl,congrArg _ (by simp_all),trivial⟩,trivial⟩
theorem eqE (F:F5 TT w) (hu:Vm TT w 5900000 9 9 T1 A1 T2 A2 xu yu) (ht:Vm TT w 5900000 40 40 T3 A3 T4 A4 xt yt) (d:Vm TT w 5900000 28 28 T5 A5 T6 A6 xv yv) (c:Vm TT w 5900000 90 90 T7 A7 T8 A8 xs ys):∃e,CF 36 [.agg (BQ T1 A1 T2 A2 T3 A3 T4 A4 mr),.agg (BQ T5 A5 T6 A6 T7 A7 T8 A8 nr)] (.one (.bool e))/\CF 38 [.agg (BQ T1 A1 T2 A2 T3 A3 T4 A4 mr),.agg (BQ T5 A5 T6 A6 T7 A7 T8 A8 nr)] (.one (.bool e)):=by
 obtain⟨e1,j,c1,_⟩:=EK F hu.x d.x;obtain⟨e2,k,c2,_⟩:=EK F hu.y d.y;obtain⟨h,h3,f,_⟩:=EK F ht.x c.x;obtain⟨i,l,g,_⟩:=EK F ht.y c.y;refine⟨_,np c1 c2 f g rfl,qI (CR F hu d (by decide) (by decide) (by decide) (by decide) (e:=e1&&e2) (by rw[Bool.and_eq_true,j,k])) (CR F ht c (by decide) (by decide) (by decide) (by decide) (e:=h&&i) (by rw[Bool.and_eq_true,h3,l])) ?_⟩;simp only[Bool.and_assoc]
theorem RJ (F:Fd TT w) (hu:Vm TT w 1950000 ku ku AL AK AM AN xu yu) (ht:Vm TT w 1950000 kt kt AP AO AU AT xt yt) (z:Vm TT w 1950000 kv kv Aw At BE BD xv yv) (v:Vm TT w 1950000 ks ks Ba BT BW BV xs ys) (A:xu=xv) (B:yu=yv) (h3:xt=xs) (C:yt=ys) (D:2*ku+443<=80000/\2*kv+443<=80000/\2*kt+443<=80000/\2*ks+443<=80000):CF 36 [.agg (BQ AL AK AM AN AP AO AU AT mr),.agg (BQ Aw At BE BD Ba BT BW BV mr)] (.one (.bool true)):=by
 obtain⟨h,c,l,r⟩:=EK F hu.x z.x;obtain rfl:h=true:=c.2 A;obtain⟨i,d,m,s⟩:=EK F hu.y z.y;obtain rfl:i=true:=d.2 B;obtain⟨j,f,n,t⟩:=EK F ht.x v.x;obtain rfl:j=true:=f.2 h3;obtain⟨k,g,o,u⟩:=EK F ht.y v.y;obtain rfl:k=true:=g.2 C;refine AZ Tryz.func36 fun E p=>?_
 conv=>cbv
 intro G q;(have q:=q.trans (show _=true by simp));subst q;conv=>cbv
 refine AB p l ?_;conv=>cbv
 refine AB p m ?_;conv=>cbv
 refine AB p n ?_;conv=>cbv
 refine AB p o ?_;conv=>cbv
 exact AF ⟨t2,trivial⟩
theorem kX (h:a*a+b*b=1):a*a+ -b* -b=Re.ofRat ((1:Int):Rat):=by
 have:a*a+ -b* -b=a*a+b*b:=by grind
 rw[this,h];rfl
theorem mO (h:a*a+b*b=1):a*a- -b*b=Re.ofRat ((1:Int):Rat):=by
 have:a*a- -b*b=a*a+b*b:=by grind
 rw[this,h];rfl
theorem mP (h:a*a+b*b=1):a*a-b* -b=Re.ofRat ((1:Int):Rat):=by
 have:a*a-b* -b=a*a+b*b:=by grind
 rw[this,h];rfl
theorem sf (h:a*a+b*b=1):a*a+b*b=Re.ofRat ((1:Int):Rat):=h
theorem fw {W:List UInt8} (c:CF 15 [.agg [.sl Bh X,.sl .u8 W],.agg [.int .u8 km,.int .u8 kn]] (.AI [(true,[.nil,.nil,.nil,.nil,.nil,.nil,.nil,.nil,.bool false]),(true,[.nil,.nil,.nil,.nil,.nil,.nil,.nil,.nil,.bool false]),(true,[.nil,.nil,.nil,.nil]),(false,[.bool false])])):CF 7 [.agg [.sl (.pr .u8 (.pr .u8 (.pr .u8 (.pr .i8 .u8)))) X,.sl .u8 W],.agg [.int .u8 km,.int .u8 kn]] (.one (.bool true)):=by
 refine AZ Tryz.func7 fun E d=>?_
 conv=>cbv
 refine AB d c ?_;conv=>cbv
 refine AB d Ey ?_;conv=>cbv
 refine AR ?_;conv=>cbv
 refine BM ?_;conv=>cbv
 refine AB d Ey ?_;conv=>cbv
 exact AF ⟨t2,trivial⟩
theorem fu (F:Fd TT w) {W:List UInt8} (hu:Vm TT w 1950000 ku ku AL AK AM AN xu yu) (ht:Vm TT w 1950000 kt kt AP AO AU AT xt yt) (ha:Vm TT w 1950000 ka ka Aw At BE BD xa ya) (g:xu*xu+yu*yu=1) (z:CF 15 [.agg [.sl Bh X,.sl .u8 W],.agg [.int .u8 km,.int .u8 kn]] (.AI [(true,(BQ AL AK AM AN AP AO AU AT false)),(true,(BQ T5 A5 T6 A6 T7 A7 T8 A8 nr)),(true,(AD Aw At BE BD)),(false,[.bool true])])) (cE:CF 36 [.agg (BQ AL AK AM AN AP AO AU AT false),.agg (BQ T5 A5 T6 A6 T7 A7 T8 A8 nr)] (.one (.bool e))) (cR:CF 38 [.agg (BQ AL AK AM AN AP AO AU AT false),.agg (BQ T5 A5 T6 A6 T7 A7 T8 A8 nr)] (.one (.bool e))) (hM:8*ka+8*kt+18*ku+477<=80000:=by omega):CF 7 [.agg [.sl (.pr .u8 (.pr .u8 (.pr .u8 (.pr .i8 .u8)))) X,.sl .u8 W],.agg [.int .u8 km,.int .u8 kn]] (.one (.bool true)):=by
 obtain⟨BW,BV,Bm,Bj,Bw,Bq,Bu,Bp,d,f,j⟩:=nq F hu ht;obtain⟨S,A,T,B,U,C,V,D,p,q,k⟩:=qJ F hu ht;have i:Re.ofRat ((0:Int):Rat)=0:=Re.Hj;obtain⟨Y,G,Z,H,s,l⟩:=KJ F hu ht ha;obtain⟨a1,I,a2,J,t,m⟩:=KJ F d f s;obtain⟨a5,K,a6,L,a7,M,a8,N,u,v,n⟩:=oF F hu ht d f;obtain⟨O,P,Q,R,x,y,o⟩:=Rs F;refine AZ Tryz.func7 fun E c=>?_
 conv=>cbv
 refine AB c z ?_;conv=>cbv
 refine AB c Ey ?_;conv=>cbv
 refine AR ?_;conv=>cbv
 refine AR ?_;conv=>cbv
 refine AB c j ?_;conv=>cbv
 refine AB c k ?_;conv=>cbv
 refine AB (r:= .one (.bool true)) c (Mu F d f p q (mr:=false) (kX g) rfl rfl (by rw[i];grind) (by rw[i];grind)) ?_;try conv=>cbv
 refine AR ?_;conv=>cbv
 refine AB c l ?_;conv=>cbv
 refine AB c m ?_;conv=>cbv
 refine AB (r:= .one (.bool true)) c (CR F t ha (by omega) (by omega) (by omega) (by omega) (e:=true) ⟨fun _=>⟨(by rw[i];exact (show (xu*((xu*xa-yu*ya)+xt)-(-yu)*((xu*ya+yu*xa)+yt))+((0)-((xu*xt)-((-yu)*yt)))=(xu*xu+yu*yu)*xa by grind).trans (by rw[g];grind)),(by rw[i];exact (show (xu*((xu*ya+yu*xa)+yt)+(-yu)*((xu*xa-yu*ya)+xt))+((0)-(((-yu)*xt)+(xu*yt)))=(xu*xu+yu*yu)*ya by grind).trans (by rw[g];grind))⟩,fun _=>rfl⟩) ?_;try conv=>cbv
 refine AR ?_;conv=>cbv
 refine BB ?_;refine AB c n ?_;conv=>cbv
 refine BM ?_;conv=>cbv
 refine AB c o ?_;conv=>cbv
 refine AB (r:= .one (.bool true)) c (RJ F u v x y (mr:=false) (mO g) (by rw[i];grind) (by rw[i];grind) (by rw[i];grind) (by omega)) ?_;try conv=>cbv
 refine AB c cE ?_;conv=>cbv
 refine AB c cR ?_;conv=>cbv
 intro aa h;(have h:=h.trans (show _=true by simp));subst h;conv=>cbv
 refine AB c (RJ F hu ht hu ht (mr:=false) rfl rfl rfl rfl (by omega)) ?_;conv=>cbv
 refine BB ?_;exact AF ⟨t2,trivial⟩
theorem fv (F:Fd TT w) {W:List UInt8} (hu:Vm TT w 1950000 ku ku AL AK AM AN xu yu) (ht:Vm TT w 1950000 kt kt AP AO AU AT xt yt) (ha:Vm TT w 1950000 ka ka Aw At BE BD xa ya) (f:xu*xu+yu*yu=1) (x:CF 15 [.agg [.sl Bh X,.sl .u8 W],.agg [.int .u8 km,.int .u8 kn]] (.AI [(true,(BQ AL AK AM AN AP AO AU AT true)),(true,(BQ T5 A5 T6 A6 T7 A7 T8 A8 nr)),(true,(AD Aw At BE BD)),(false,[.bool true])])) (Y:CF 36 [.agg (BQ AL AK AM AN AP AO AU AT true),.agg (BQ T5 A5 T6 A6 T7 A7 T8 A8 nr)] (.one (.bool e))) (Z:CF 38 [.agg (BQ AL AK AM AN AP AO AU AT true),.agg (BQ T5 A5 T6 A6 T7 A7 T8 A8 nr)] (.one (.bool e))) (hM:8*ka+8*kt+18*ku+477<=80000:=by omega):CF 7 [.agg [.sl (.pr .u8 (.pr .u8 (.pr .u8 (.pr .i8 .u8)))) X,.sl .u8 W],.agg [.int .u8 km,.int .u8 kn]] (.one (.bool true)):=by
 obtain⟨BW,BV,Bm,Bj,d,i⟩:=nt F hu ht;obtain⟨Bu,Bp,N,y,o,j⟩:=qK F hu ht;have h:Re.ofRat ((0:Int):Rat)=0:=Re.Hj;obtain⟨O,z,P,A,p,k⟩:=KK F hu ht ha;obtain⟨Q,B,R,C,q,l⟩:=KK F hu d p;obtain⟨S,D,T,G,U,H,V,I,s,t,m⟩:=oG F hu ht hu d;obtain⟨J,K,L,M,u,v,n⟩:=Rs F;refine AZ Tryz.func7 fun E c=>?_
 conv=>cbv
 refine AB c x ?_;conv=>cbv
 refine AB c Ey ?_;conv=>cbv
 refine AR ?_;conv=>cbv
 refine AR ?_;conv=>cbv
 refine AB c i ?_;conv=>cbv
 refine AB c j ?_;conv=>cbv
 refine AB (r:= .one (.bool true)) c (Mu F hu d hu o (mr:=true) (sf f) rfl rfl (by rw[h];grind) (by rw[h];grind)) ?_;try conv=>cbv
 refine AR ?_;conv=>cbv
 refine AB c k ?_;conv=>cbv
 refine AB c l ?_;conv=>cbv
 refine AB (r:= .one (.bool true)) c (CR F q ha (by omega) (by omega) (by omega) (by omega) (e:=true) ⟨fun _=>⟨(by rw[h];exact (show (xu*((xu*xa-yu*(-ya))+xt)-yu*(-((xu*(-ya)+yu*xa)+yt)))+((0)-((xu*xt)-(yu*(-yt))))=(xu*xu+yu*yu)*xa by grind).trans (by rw[f];grind)),(by rw[h];exact (show (xu*(-((xu*(-ya)+yu*xa)+yt))+yu*((xu*xa-yu*(-ya))+xt))+((0)-((yu*xt)+(xu*(-yt))))=(xu*xu+yu*yu)*ya by grind).trans (by rw[f];grind))⟩,fun _=>rfl⟩) ?_;try conv=>cbv
 refine AR ?_;conv=>cbv
 refine BB ?_;refine AB c m ?_;conv=>cbv
 refine BM ?_;conv=>cbv
 refine AB c n ?_;conv=>cbv
 refine AB (r:= .one (.bool true)) c (RJ F s t u v (mr:=false) (mP f) (by rw[h];grind) (by rw[h];grind) (by rw[h];grind) (by omega)) ?_;try conv=>cbv
 refine AB c Y ?_;conv=>cbv
 refine AB c Z ?_;conv=>cbv
 intro a1 g;(have g:=g.trans (show _=true by simp));subst g;conv=>cbv
 refine AB c (RJ F hu ht hu ht (mr:=true) rfl rfl rfl rfl (by omega)) ?_;conv=>cbv
 refine BB ?_;exact AF ⟨t2,trivial⟩
theorem tG {W:List UInt8} {ns:List Nu} (z:ns=(runN (X.take 24)).1) {V:List Re} (l:V.length<=3) (p:∀n∈ns,CL V n) (r:0<=km) (s:0<=kn):CF 7 [.agg [.sl Bh X,.sl .u8 W],.agg [.int .u8 km,.int .u8 kn]] (.one (.bool true)):=by
 obtain⟨w,L⟩:=Jc l p;rcases Ut (W:=W) z l p L r s with c |⟨n1,n2,g,i,m,t,T1,A1,T2,A2,T3,A3,T4,A4,mr,xu,yu,xt,yt,T5,A5,T6,A6,T7,A7,T8,A8,nr,xv,yv,xs,ys,x,O,P,hu,ht,q,G,D,N,ha,j⟩
 ·exact fw c
 have o:=m;obtain⟨_,_,_,K,b1⟩:=m;obtain⟨_,_,_,M,b2⟩:=t;have Q:R4=1920500:=rfl;have d:El w R4 n1:=by obtain⟨_,_,_,_,_,h⟩:=b1;exact h.mono (by omega)
 have f:El w R4 n2:=by obtain⟨_,_,_,_,_,h⟩:=b2;exact h.mono (by omega)
 have F:=L.f5 d g f i;have H:Vm (Tf (P5 (PN ns) n1 n2)) (Aj (Aj w n1) n2) 5900000 9 9 T1 A1 T2 A2 xu yu:=⟨L.Kv d g f i hu.x (by decide),L.Kv d g f i hu.y (by decide)⟩;have gt:Vm (Tf (P5 (PN ns) n1 n2)) (Aj (Aj w n1) n2) 5900000 40 40 T3 A3 T4 A4 xt yt:=⟨L.Kv d g f i ht.x (by decide),L.Kv d g f i ht.y (by decide)⟩;have I:Vm (Tf (P5 (PN ns) n1 n2)) (Aj (Aj w n1) n2) 5900000 28 28 T5 A5 T6 A6 xv yv:=⟨L.Kw d g f i G.x (by decide),L.Kw d g f i G.y (by decide)⟩;have gs:Vm (Tf (P5 (PN ns) n1 n2)) (Aj (Aj w n1) n2) 5900000 90 90 T7 A7 T8 A8 xs ys:=⟨L.Kw d g f i D.x (by decide),L.Kw d g f i D.y (by decide)⟩;obtain⟨e,B,C⟩:=eqE (mr:=mr) (nr:=nr) F H gt I gs;obtain⟨_,_,_,J,u⟩:=o;obtain⟨A,U,_,_⟩:=Mc L u J (by grind);have ga:=U.v (by decide) (by decide) (ha (b:=11500) (k:=20) (by decide));cases mr
 ·exact fu A hu ht ga q j B C
 exact fv A hu ht ga q j B C
end Go.Abs
