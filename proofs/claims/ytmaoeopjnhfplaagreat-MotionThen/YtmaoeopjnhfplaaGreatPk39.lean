/- Part 40 of a proof. Conditions: each theorem's own. -/
import Derived.Test.YtmaoeopjnhfplaaGreatPk34
import Derived.Test.YtmaoeopjnhfplaaGreatPk38
set_option linter.all false
set_option maxHeartbeats 8000000
set_option maxRecDepth 20000
open Go.Proofs
namespace Go.Abs
open Go.RowKit
variable {AK AN AO AT At BD BT BV Bj Bq:LR} {AL AM AP AU Aw BE Ba BW Bm Bw:List LR} {TT:List (List Rat)->Prop} {X:List (el Bh)} {a b c d va vb xa xb xs xt xu xv ya yb ys yt yu yv:Re} {ka kb ks kt ku kv:Nat} {km kn:Int} {mr:Bool} {w:List (List Rat)}
theorem ph (F:F5 TT w) {p:Rat} (f:Co p):∃A,A=em [] (Re.ofRat p)/\Nm TT w 5900000 1 [] A (Re.ofRat p):=⟨_,rfl,Gs F (by decide) (F2 f)⟩
theorem aM (F:F5 TT w) (ha:Nm TT w 5900000 ka AL AK va) (hb:Nm TT w 5900000 kb AM AN vb) (l:ka+77<=1240/\kb+77<=1240):∃i h,Nm TT w 5900000 (ka+kb+1) i h (va+vb)/\Bk Tryz.prog 148 [.one (.BC 0 0 0),.agg (As AL AK),.agg (As AM AN)] (.var 0 [.int .i64 0]) (.agg (As i h)):=by
 obtain⟨AP,AO,g,f,j⟩:=EU F ha hb;refine⟨AP,AO,g.mono (by omega),?_⟩;refine Bx Tryz.func148 fun E k=>?_
 conv=>cbv
 refine AW 0 0 k (Lu f) ?_;try conv=>cbv
 refine fun _=>⟨⟨⟨t3,trivial⟩,rfl,by simp⟩,rfl⟩
theorem aN (F:F5 TT w) (ha:Nm TT w 5900000 ka AL AK va) (hb:Nm TT w 5900000 kb AM AN vb) (l:ka+77<=1240/\kb+77<=1240):∃i h,Nm TT w 5900000 (ka+kb+1) i h (va-vb)/\Bk Tryz.prog 149 [.one (.BC 0 0 0),.agg (As AL AK),.agg (As AM AN)] (.var 0 [.int .i64 0]) (.agg (As i h)):=by
 obtain⟨AP,AO,g,f,j⟩:=DM F ha hb;refine⟨AP,AO,g.mono (by omega),?_⟩;refine Bx Tryz.func149 fun E k=>?_
 conv=>cbv
 refine AW 0 0 k (Lu f) ?_;try conv=>cbv
 refine fun _=>⟨⟨⟨t3,trivial⟩,rfl,by simp⟩,rfl⟩
theorem Kz (F:F5 TT w) (ha:Nm TT w 5900000 ka AL AK va) (hb:Nm TT w 5900000 kb AM AN vb) (l:ka+77<=1240/\kb+77<=1240):∃i h,Nm TT w 5900000 (ka+kb+1) i h (va*vb)/\Bk Tryz.prog 147 [.one (.BC 0 0 0),.agg (As AL AK),.agg (As AM AN)] (.var 0 [.int .i64 0]) (.agg (As i h)):=by
 obtain⟨AP,AO,g,f,j⟩:=CN F ha hb;refine⟨AP,AO,g.mono (by omega),?_⟩;refine Bx Tryz.func147 fun E k=>?_
 conv=>cbv
 refine AW 0 0 k (Lu f) ?_;try conv=>cbv
 refine fun _=>⟨⟨⟨t3,trivial⟩,rfl,by simp⟩,rfl⟩
theorem RE (F:F5 TT w) (hu:Vm TT w 5900000 ku ku AL AK AM AN xu yu) (ht:Vm TT w 5900000 kt kt AP AO AU AT xt yt) (ha:Vm TT w 5900000 ka ka Aw At BE BD xa ya) (K:ka+ku+78<=1240:=by omega):∃J G l k,Vm TT w 5900000 (2*ka+2*ku+3) (2*ka+2*ku+3) J G l k ((xu*xa)-(yu*ya)) ((yu*xa)+(xu*ya))/\Bk Tryz.prog 64 [.one (.BC 0 0 0),.agg (BQ AL AK AM AN AP AO AU AT false),.agg (AD Aw At BE BD)] (.var 0 [.int .i64 0]) (.agg (AD J G l k)):=by
 obtain⟨BW,BV,s,m⟩:=Kz F hu.x ha.x (by omega);obtain⟨Bw,Bq,t,n⟩:=Kz F hu.y ha.y (by omega);obtain⟨h,f,u,o⟩:=aN F s t (by omega);obtain⟨H,C,v,p⟩:=Kz F hu.y ha.x (by omega);obtain⟨I,D,z,q⟩:=Kz F hu.x ha.y (by omega);obtain⟨i,g,A,r⟩:=aM F v z (by omega);have B:Vm _ w 5900000 (2*ka+2*ku+3) (2*ka+2*ku+3) h f i g _ _:=⟨u.mono (by omega),A.mono (by omega)⟩;refine⟨h,f,i,g,B.mono (by omega) (by omega),?_⟩;refine Bx Tryz.func64 fun E j=>?_
 conv=>cbv
 refine .inr ?_;refine AW 0 0 j m ?_;try conv=>cbv
 refine AW 0 0 j n ?_;try conv=>cbv
 refine AW 0 0 j o ?_;try conv=>cbv
 refine AW 0 0 j p ?_;try conv=>cbv
 refine AW 0 0 j q ?_;try conv=>cbv
 refine AW 0 0 j r ?_;try conv=>cbv
 refine BB ?_;refine fun _=>⟨⟨⟨⟨rfl,rfl,rfl,rfl,rfl,trivial⟩,trivial⟩,rfl,by simp⟩,rfl⟩
theorem RF (F:F5 TT w) (hu:Vm TT w 5900000 ku ku AL AK AM AN xu yu) (ht:Vm TT w 5900000 kt kt AP AO AU AT xt yt) (ha:Vm TT w 5900000 ka ka Aw At BE BD xa ya) (N:ka+ku+78<=1240:=by omega):∃L I m l,Vm TT w 5900000 (2*ka+2*ku+3) (2*ka+2*ku+3) L I m l ((xu*xa)-(yu*(-ya))) ((yu*xa)+(xu*(-ya)))/\Bk Tryz.prog 64 [.one (.BC 0 0 0),.agg (BQ AL AK AM AN AP AO AU AT true),.agg (AD Aw At BE BD)] (.var 0 [.int .i64 0]) (.agg (AD L I m l)):=by
 obtain⟨BT,j,n,M⟩:=FK F ha.y;obtain⟨Bm,Bj,u,o⟩:=Kz F hu.x ha.x (by omega);obtain⟨Bu,Bp,v,p⟩:=Kz F hu.y j (by omega);obtain⟨h,f,z,q⟩:=aN F u v (by omega);obtain⟨J,G,A,r⟩:=Kz F hu.y ha.x (by omega);obtain⟨K,H,B,s⟩:=Kz F hu.x j (by omega);obtain⟨i,g,C,t⟩:=aM F A B (by omega);have D:Vm _ w 5900000 (2*ka+2*ku+3) (2*ka+2*ku+3) h f i g _ _:=⟨z.mono (by omega),C.mono (by omega)⟩;refine⟨h,f,i,g,D.mono (by omega) (by omega),?_⟩;refine Bx Tryz.func64 fun E k=>?_
 conv=>cbv
 refine .inr ?_;refine AB k n ?_;conv=>cbv
 refine AW 0 0 k o ?_;try conv=>cbv
 refine AW 0 0 k p ?_;try conv=>cbv
 refine AW 0 0 k q ?_;try conv=>cbv
 refine AW 0 0 k r ?_;try conv=>cbv
 refine AW 0 0 k s ?_;try conv=>cbv
 refine AW 0 0 k t ?_;try conv=>cbv
 refine BB ?_;refine fun _=>⟨⟨⟨⟨rfl,rfl,rfl,rfl,rfl,trivial⟩,trivial⟩,rfl,by simp⟩,rfl⟩
theorem ng (F:F5 TT w) (hu:Vm TT w 5900000 ku ku AL AK AM AN xu yu) (ht:Vm TT w 5900000 kt kt AP AO AU AT xt yt) (H:Vm TT w 5900000 kv kv Aw At BE BD xv yv) (v:Vm TT w 5900000 ks ks Ba BT BW BV xs ys) (J:ku+kv+78<=1240/\2*kt+2*kv+80<=1240/\ks+77<=1240):∃D z m i G A n j,Vm TT w 5900000 (2*ku+2*kv+3) (2*ku+2*kv+3) D z m i ((xv*xu)-(yv*yu)) ((yv*xu)+(xv*yu))/\Vm TT w 5900000 (ks+2*kt+2*kv+4) (ks+2*kt+2*kv+4) G A n j (((xv*xt)-(yv*yt))+xs) (((yv*xt)+(xv*yt))+ys)/\CF 32 [.agg (BQ AL AK AM AN AP AO AU AT false),.agg (BQ Aw At BE BD Ba BT BW BV false)] (.AI [(true,(BQ D z m i G A n j false)),(false,[.int .i64 0])]):=by
 obtain⟨Bw,Bq,Bu,Bp,r,o⟩:=RE F H v hu;obtain⟨B,x,C,y,s,p⟩:=RE F H v ht;obtain⟨k,g,l,h,t,q⟩:=Fw F s v;refine⟨Bw,Bq,Bu,Bp,k,g,l,h,r.mono (by omega) (by omega),t.mono (by omega) (by omega),?_⟩;refine AZ Tryz.func32 fun E u=>?_
 conv=>cbv
 refine AW 10 1 u o ?_;try conv=>cbv
 refine AW 10 1 u p ?_;try conv=>cbv
 refine AW 10 1 u (F8 q) ?_;try conv=>cbv
 refine BB ?_;intro I f;(have f:=f.trans (show _=false by simp));subst f;conv=>cbv
 refine AW 10 1 u KC ?_;try conv=>cbv
 exact AF ⟨⟨rfl,rfl,rfl,rfl,rfl,rfl,rfl,rfl,rfl,rfl,trivial⟩,t2,trivial⟩
theorem nh (F:F5 TT w) (hu:Vm TT w 5900000 ku ku AL AK AM AN xu yu) (ht:Vm TT w 5900000 kt kt AP AO AU AT xt yt) (H:Vm TT w 5900000 kv kv Aw At BE BD xv yv) (v:Vm TT w 5900000 ks ks Ba BT BW BV xs ys) (J:ku+kv+78<=1240/\2*kt+2*kv+80<=1240/\ks+77<=1240):∃D z m i G A n j,Vm TT w 5900000 (2*ku+2*kv+3) (2*ku+2*kv+3) D z m i ((xv*xu)-(yv*(-yu))) ((yv*xu)+(xv*(-yu)))/\Vm TT w 5900000 (ks+2*kt+2*kv+4) (ks+2*kt+2*kv+4) G A n j (((xv*xt)-(yv*(-yt)))+xs) (((yv*xt)+(xv*(-yt)))+ys)/\CF 32 [.agg (BQ AL AK AM AN AP AO AU AT false),.agg (BQ Aw At BE BD Ba BT BW BV true)] (.AI [(true,(BQ D z m i G A n j true)),(false,[.int .i64 0])]):=by
 obtain⟨Bw,Bq,Bu,Bp,r,o⟩:=RF F H v hu;obtain⟨B,x,C,y,s,p⟩:=RF F H v ht;obtain⟨k,g,l,h,t,q⟩:=Fw F s v;refine⟨Bw,Bq,Bu,Bp,k,g,l,h,r.mono (by omega) (by omega),t.mono (by omega) (by omega),?_⟩;refine AZ Tryz.func32 fun E u=>?_
 conv=>cbv
 refine AW 10 1 u o ?_;try conv=>cbv
 refine AW 10 1 u p ?_;try conv=>cbv
 refine AW 10 1 u (F8 q) ?_;try conv=>cbv
 refine BB ?_;intro I f;(have f:=f.trans (show _=true by simp));subst f;conv=>cbv
 refine AW 10 1 u KC ?_;try conv=>cbv
 exact AF ⟨⟨rfl,rfl,rfl,rfl,rfl,rfl,rfl,rfl,rfl,rfl,trivial⟩,t2,trivial⟩
theorem nj (F:F5 TT w) (hu:Vm TT w 5900000 ku ku AL AK AM AN xu yu) (ht:Vm TT w 5900000 kt kt AP AO AU AT xt yt) (H:Vm TT w 5900000 kv kv Aw At BE BD xv yv) (v:Vm TT w 5900000 ks ks Ba BT BW BV xs ys) (J:ku+kv+78<=1240/\2*kt+2*kv+80<=1240/\ks+77<=1240):∃D z m i G A n j,Vm TT w 5900000 (2*ku+2*kv+3) (2*ku+2*kv+3) D z m i ((xv*xu)-(yv*yu)) ((yv*xu)+(xv*yu))/\Vm TT w 5900000 (ks+2*kt+2*kv+4) (ks+2*kt+2*kv+4) G A n j (((xv*xt)-(yv*yt))+xs) (((yv*xt)+(xv*yt))+ys)/\CF 32 [.agg (BQ AL AK AM AN AP AO AU AT true),.agg (BQ Aw At BE BD Ba BT BW BV false)] (.AI [(true,(BQ D z m i G A n j true)),(false,[.int .i64 0])]):=by
 obtain⟨Bw,Bq,Bu,Bp,r,o⟩:=RE F H v hu;obtain⟨B,x,C,y,s,p⟩:=RE F H v ht;obtain⟨k,g,l,h,t,q⟩:=Fw F s v;refine⟨Bw,Bq,Bu,Bp,k,g,l,h,r.mono (by omega) (by omega),t.mono (by omega) (by omega),?_⟩;refine AZ Tryz.func32 fun E u=>?_
 conv=>cbv
 refine AW 10 1 u o ?_;try conv=>cbv
 refine AW 10 1 u p ?_;try conv=>cbv
 refine AW 10 1 u (F8 q) ?_;try conv=>cbv
 refine BB ?_;intro I f;(have f:=f.trans (show _=true by simp));subst f;conv=>cbv
 refine AW 10 1 u KC ?_;try conv=>cbv
 exact AF ⟨⟨rfl,rfl,rfl,rfl,rfl,rfl,rfl,rfl,rfl,rfl,trivial⟩,t2,trivial⟩
theorem nk (F:F5 TT w) (hu:Vm TT w 5900000 ku ku AL AK AM AN xu yu) (ht:Vm TT w 5900000 kt kt AP AO AU AT xt yt) (H:Vm TT w 5900000 kv kv Aw At BE BD xv yv) (v:Vm TT w 5900000 ks ks Ba BT BW BV xs ys) (J:ku+kv+78<=1240/\2*kt+2*kv+80<=1240/\ks+77<=1240):∃D z m i G A n j,Vm TT w 5900000 (2*ku+2*kv+3) (2*ku+2*kv+3) D z m i ((xv*xu)-(yv*(-yu))) ((yv*xu)+(xv*(-yu)))/\Vm TT w 5900000 (ks+2*kt+2*kv+4) (ks+2*kt+2*kv+4) G A n j (((xv*xt)-(yv*(-yt)))+xs) (((yv*xt)+(xv*(-yt)))+ys)/\CF 32 [.agg (BQ AL AK AM AN AP AO AU AT true),.agg (BQ Aw At BE BD Ba BT BW BV true)] (.AI [(true,(BQ D z m i G A n j false)),(false,[.int .i64 0])]):=by
 obtain⟨Bw,Bq,Bu,Bp,r,o⟩:=RF F H v hu;obtain⟨B,x,C,y,s,p⟩:=RF F H v ht;obtain⟨k,g,l,h,t,q⟩:=Fw F s v;refine⟨Bw,Bq,Bu,Bp,k,g,l,h,r.mono (by omega) (by omega),t.mono (by omega) (by omega),?_⟩;refine AZ Tryz.func32 fun E u=>?_
 conv=>cbv
 refine AW 10 1 u o ?_;try conv=>cbv
 refine AW 10 1 u p ?_;try conv=>cbv
 refine AW 10 1 u (F8 q) ?_;try conv=>cbv
 refine BB ?_;intro I f;(have f:=f.trans (show _=false by simp));subst f;conv=>cbv
 refine AW 10 1 u KC ?_;try conv=>cbv
 exact AF ⟨⟨rfl,rfl,rfl,rfl,rfl,rfl,rfl,rfl,rfl,rfl,trivial⟩,t2,trivial⟩
theorem L0 (F:F5 TT w) (ha:Vm TT w 5900000 ka ka AL AK AM AN xa ya) (o:ka+77<=1240:=by omega):∃l k g f,Vm TT w 5900000 (ka) (ka) l k g f (xa) (-ya)/\CF 67 [.agg (AD AL AK AM AN)] (.agg (AD l k g f)):=by
 obtain⟨AO,i,m,h⟩:=FK F ha.y;have j:Vm _ w 5900000 ka ka AL AK AM AO _ _:=⟨ha.x.mono (by omega),i.mono (by omega)⟩;refine⟨AL,AK,AM,AO,j.mono (by omega) (by omega),?_⟩;refine AZ Tryz.func67 fun E n=>?_
 conv=>cbv
 refine AB n h ?_;conv=>cbv
 refine BB ?_;exact AF ⟨⟨rfl,rfl,rfl,rfl,rfl,trivial⟩,trivial⟩
theorem Jd (F:F5 TT w) (ha:Vm TT w 5900000 ka ka AL AK AM AN xa ya) (hb:Vm TT w 5900000 kb kb AP AO AU AT xb yb) (x:ka+kb+78<=1240:=by omega):∃v u i h,Vm TT w 5900000 (2*ka+2*kb+3) (2*ka+2*kb+3) v u i h (xa*xb-ya*yb) (xa*yb+ya*xb)/\CF 69 [.agg (AD AL AK AM AN),.agg (AD AP AO AU AT)] (.agg (AD v u i h)):=by
 obtain⟨BE,BD,Ba,BT,n,j⟩:=L0 F hb;obtain⟨BW,BV,o,k⟩:=KY F ha n;obtain⟨Bw,Bq,Bu,Bp,p,l⟩:=L0 F ha;obtain⟨g,f,q,m⟩:=KX F p hb;have r:Vm _ w 5900000 (2*ka+2*kb+3) (2*ka+2*kb+3) BW BV g f _ _:=⟨o.mono (by omega),q.mono (by omega)⟩;have s:=r.cast (x':=xa*xb-ya*yb) (y':=xa*yb+ya*xb) (by grind) (by grind);refine⟨BW,BV,g,f,s.mono (by omega) (by omega),?_⟩;refine AZ Tryz.func69 fun E t=>?_
 conv=>cbv
 refine AB t j ?_;conv=>cbv
 refine AB t k ?_;conv=>cbv
 refine BB ?_;refine AB t l ?_;conv=>cbv
 refine AB t m ?_;conv=>cbv
 refine BB ?_;exact AF ⟨⟨rfl,rfl,rfl,rfl,rfl,trivial⟩,trivial⟩
theorem NC (F:F5 TT w) (ha:Vm TT w 5900000 ka ka AL AK AM AN xa ya) (hb:Vm TT w 5900000 kb kb AP AO AU AT xb yb) (m:ka+77<=1240/\kb+77<=1240):∃k j g f,Vm TT w 5900000 (ka+kb+1) (ka+kb+1) k j g f (xa+xb) (ya+yb)/\CF 68 [.agg (AD AL AK AM AN),.agg (AD AP AO AU AT)] (.agg (AD k j g f)):=by
 obtain⟨Aw,At,BE,BD,i,h⟩:=Wj F ha hb;refine⟨Aw,At,BE,BD,i.mono (by omega) (by omega),?_⟩;refine AZ Tryz.func68 fun E l=>?_
 conv=>cbv
 refine AB l h ?_;conv=>cbv
 exact AF ⟨⟨rfl,rfl,rfl,rfl,rfl,trivial⟩,trivial⟩
theorem pv (F:F5 TT w) (ha:Vm TT w 5900000 ka ka AL AK AM AN xa ya) (k:2*ka+78<=1240:=by omega):∃i h,Nm TT w 5900000 (4*ka+3) i h (xa*xa+ya*ya)/\CF 86 [.agg (AD AL AK AM AN)] (.agg (As i h)):=by
 obtain⟨AP,AO,g,f⟩:=H9 F ha;refine⟨AP,AO,g.mono (by omega),?_⟩;refine AZ Tryz.func86 fun E j=>?_
 conv=>cbv
 refine AB j f ?_;conv=>cbv
 exact AF ⟨t3,trivial⟩
theorem pk (F:F5 TT w) (hu:Vm TT w 5900000 ku ku AL AK AM AN xu yu) (ht:Vm TT w 5900000 kt kt AP AO AU AT xt yt) (G:Vm TT w 5900000 kv kv Aw At BE BD xv yv) (H:Vm TT w 5900000 ks ks Ba BT BW BV xs ys) (J:ku+kv+78<=1240/\2*kt+2*kv+80<=1240/\ks+77<=1240):∃C y n j D z o k,Vm TT w 5900000 (2*ku+2*kv+3) (2*ku+2*kv+3) C y n j (xv*xu-yv*yu) (xv*yu+yv*xu)/\Vm TT w 5900000 (ks+2*kt+2*kv+4) (ks+2*kt+2*kv+4) D z o k ((xv*xt-yv*yt)+xs) ((xv*yt+yv*xt)+ys)/\CF 33 [.agg (BQ AL AK AM AN AP AO AU AT false),.agg (BQ Aw At BE BD Ba BT BW BV false)] (.agg (BQ C y n j D z o k false)):=by
 obtain⟨Bw,Bq,Bu,Bp,s,p⟩:=Jd F G hu;obtain⟨A,v,B,x,t,q⟩:=Jd F G ht;obtain⟨l,h,m,i,u,r⟩:=NC F t H (by omega);refine⟨Bw,Bq,Bu,Bp,l,h,m,i,s.mono (by omega) (by omega),u.mono (by omega) (by omega),?_⟩;refine AZ Tryz.func33 fun E g=>?_
 conv=>cbv
 refine AB g FB ?_;conv=>cbv
 refine AB g FB ?_;conv=>cbv
 refine .inr ?_;refine AB g p ?_;conv=>cbv
 refine AB g q ?_;conv=>cbv
 refine AB g r ?_;conv=>cbv
 intro I f;(have f:=f.trans (show _=false by simp));subst f;conv=>cbv
 refine AB g H3 ?_;conv=>cbv
 refine BB ?_;exact AF ⟨⟨rfl,rfl,rfl,rfl,rfl,rfl,rfl,rfl,rfl,rfl,trivial⟩,trivial⟩
theorem pn (F:F5 TT w) (hu:Vm TT w 5900000 ku ku AL AK AM AN xu yu) (ht:Vm TT w 5900000 kt kt AP AO AU AT xt yt) (S:Vm TT w 5900000 kv kv Aw At BE BD xv yv) (T:Vm TT w 5900000 ks ks Ba BT BW BV xs ys) (V:ku+kv+78<=1240/\2*kt+2*kv+80<=1240/\ks+77<=1240):∃Q K r l R L s m,Vm TT w 5900000 (2*ku+2*kv+3) (2*ku+2*kv+3) Q K r l (xv*xu-yv*(-yu)) (xv*(-yu)+yv*xu)/\Vm TT w 5900000 (ks+2*kt+2*kv+4) (ks+2*kt+2*kv+4) R L s m ((xv*xt-yv*(-yt))+xs) ((xv*(-yt)+yv*xt)+ys)/\CF 33 [.agg (BQ AL AK AM AN AP AO AU AT false),.agg (BQ Aw At BE BD Ba BT BW BV true)] (.agg (BQ Q K r l R L s m true)):=by
 obtain⟨Bw,Bq,Bu,Bp,z,t⟩:=L0 F hu;obtain⟨M,G,N,H,A,u⟩:=L0 F ht;obtain⟨n,h,o,i,B,v⟩:=Jd F S z;obtain⟨O,I,P,J,C,x⟩:=Jd F S A;obtain⟨p,j,q,k,D,y⟩:=NC F C T (by omega);refine⟨n,h,o,i,p,j,q,k,B.mono (by omega) (by omega),D.mono (by omega) (by omega),?_⟩;refine AZ Tryz.func33 fun E f=>?_
 conv=>cbv
 refine AB f FB ?_;conv=>cbv
 refine AB f FB ?_;conv=>cbv
 refine .inr ?_;refine AB f t ?_;conv=>cbv
 refine AB f u ?_;conv=>cbv
 refine BB ?_;refine AB f v ?_;conv=>cbv
 refine AB f x ?_;conv=>cbv
 refine AB f y ?_;conv=>cbv
 intro U g;(have g:=g.trans (show _=true by simp));subst g;conv=>cbv
 refine AB f H3 ?_;conv=>cbv
 refine BB ?_;exact AF ⟨⟨rfl,rfl,rfl,rfl,rfl,rfl,rfl,rfl,rfl,rfl,trivial⟩,trivial⟩
theorem po (F:F5 TT w) (hu:Vm TT w 5900000 ku ku AL AK AM AN xu yu) (ht:Vm TT w 5900000 kt kt AP AO AU AT xt yt) (G:Vm TT w 5900000 kv kv Aw At BE BD xv yv) (H:Vm TT w 5900000 ks ks Ba BT BW BV xs ys) (J:ku+kv+78<=1240/\2*kt+2*kv+80<=1240/\ks+77<=1240):∃C y n j D z o k,Vm TT w 5900000 (2*ku+2*kv+3) (2*ku+2*kv+3) C y n j (xv*xu-yv*yu) (xv*yu+yv*xu)/\Vm TT w 5900000 (ks+2*kt+2*kv+4) (ks+2*kt+2*kv+4) D z o k ((xv*xt-yv*yt)+xs) ((xv*yt+yv*xt)+ys)/\CF 33 [.agg (BQ AL AK AM AN AP AO AU AT true),.agg (BQ Aw At BE BD Ba BT BW BV false)] (.agg (BQ C y n j D z o k true)):=by
 obtain⟨Bw,Bq,Bu,Bp,s,p⟩:=Jd F G hu;obtain⟨A,v,B,x,t,q⟩:=Jd F G ht;obtain⟨l,h,m,i,u,r⟩:=NC F t H (by omega);refine⟨Bw,Bq,Bu,Bp,l,h,m,i,s.mono (by omega) (by omega),u.mono (by omega) (by omega),?_⟩;refine AZ Tryz.func33 fun E g=>?_
 conv=>cbv
 refine AB g FB ?_;conv=>cbv
 refine AB g FB ?_;conv=>cbv
 refine .inr ?_;refine AB g p ?_;conv=>cbv
 refine AB g q ?_;conv=>cbv
 refine AB g r ?_;conv=>cbv
 intro I f;(have f:=f.trans (show _=true by simp));subst f;conv=>cbv
 refine AB g H3 ?_;conv=>cbv
 refine BB ?_;exact AF ⟨⟨rfl,rfl,rfl,rfl,rfl,rfl,rfl,rfl,rfl,rfl,trivial⟩,trivial⟩
theorem pq (F:F5 TT w) (hu:Vm TT w 5900000 ku ku AL AK AM AN xu yu) (ht:Vm TT w 5900000 kt kt AP AO AU AT xt yt) (S:Vm TT w 5900000 kv kv Aw At BE BD xv yv) (T:Vm TT w 5900000 ks ks Ba BT BW BV xs ys) (V:ku+kv+78<=1240/\2*kt+2*kv+80<=1240/\ks+77<=1240):∃Q K r l R L s m,Vm TT w 5900000 (2*ku+2*kv+3) (2*ku+2*kv+3) Q K r l (xv*xu-yv*(-yu)) (xv*(-yu)+yv*xu)/\Vm TT w 5900000 (ks+2*kt+2*kv+4) (ks+2*kt+2*kv+4) R L s m ((xv*xt-yv*(-yt))+xs) ((xv*(-yt)+yv*xt)+ys)/\CF 33 [.agg (BQ AL AK AM AN AP AO AU AT true),.agg (BQ Aw At BE BD Ba BT BW BV true)] (.agg (BQ Q K r l R L s m false)):=by
 obtain⟨Bw,Bq,Bu,Bp,z,t⟩:=L0 F hu;obtain⟨M,G,N,H,A,u⟩:=L0 F ht;obtain⟨n,h,o,i,B,v⟩:=Jd F S z;obtain⟨O,I,P,J,C,x⟩:=Jd F S A;obtain⟨p,j,q,k,D,y⟩:=NC F C T (by omega);refine⟨n,h,o,i,p,j,q,k,B.mono (by omega) (by omega),D.mono (by omega) (by omega),?_⟩;refine AZ Tryz.func33 fun E f=>?_
 conv=>cbv
 refine AB f FB ?_;conv=>cbv
 refine AB f FB ?_;conv=>cbv
 refine .inr ?_;refine AB f t ?_;conv=>cbv
 refine AB f u ?_;conv=>cbv
 refine BB ?_;refine AB f v ?_;conv=>cbv
 refine AB f x ?_;conv=>cbv
 refine AB f y ?_;conv=>cbv
 intro U g;(have g:=g.trans (show _=false by simp));subst g;conv=>cbv
 refine AB f H3 ?_;conv=>cbv
 refine BB ?_;exact AF ⟨⟨rfl,rfl,rfl,rfl,rfl,rfl,rfl,rfl,rfl,rfl,trivial⟩,trivial⟩
theorem NA (F:F5 TT w) (hu:Vm TT w 5900000 ku ku AL AK AM AN xu yu) (ht:Vm TT w 5900000 kt kt AP AO AU AT xt yt) (ha:Vm TT w 5900000 ka ka Aw At BE BD xa ya) (q:2*ka+2*ku+80<=1240/\kt+77<=1240):∃p o i g,Vm TT w 5900000 (2*ka+kt+2*ku+4) (2*ka+kt+2*ku+4) p o i g ((xu*xa-yu*ya)+xt) ((xu*ya+yu*xa)+yt)/\CF 19 [.agg (BQ AL AK AM AN AP AO AU AT false),.agg (AD Aw At BE BD)] (.agg (AD p o i g)):=by
 obtain⟨BW,BV,Bm,Bj,l,j⟩:=Jd F hu ha;obtain⟨Bu,Bp,h,f,m,k⟩:=NC F l ht (by omega);refine⟨Bu,Bp,h,f,m.mono (by omega) (by omega),?_⟩;refine AZ Tryz.func19 fun E n=>?_
 conv=>cbv
 refine AB n FB ?_;conv=>cbv
 refine .inr ?_;refine AB n j ?_;conv=>cbv
 refine AB n k ?_;conv=>cbv
 refine BB ?_;exact AF ⟨⟨rfl,rfl,rfl,rfl,rfl,trivial⟩,trivial⟩
theorem NB (F:F5 TT w) (hu:Vm TT w 5900000 ku ku AL AK AM AN xu yu) (ht:Vm TT w 5900000 kt kt AP AO AU AT xt yt) (ha:Vm TT w 5900000 ka ka Aw At BE BD xa ya) (x:2*ka+2*ku+80<=1240/\kt+77<=1240):∃v t k h,Vm TT w 5900000 (2*ka+kt+2*ku+4) (2*ka+kt+2*ku+4) v t k h ((xu*xa-yu*(-ya))+xt) ((xu*(-ya)+yu*xa)+yt)/\CF 19 [.agg (BQ AL AK AM AN AP AO AU AT true),.agg (AD Aw At BE BD)] (.agg (AD v t k h)):=by
 obtain⟨BW,BV,Bm,Bj,o,l⟩:=L0 F ha;obtain⟨Bu,Bp,u,s,p,m⟩:=Jd F hu o;obtain⟨i,f,j,g,q,n⟩:=NC F p ht (by omega);refine⟨i,f,j,g,q.mono (by omega) (by omega),?_⟩;refine AZ Tryz.func19 fun E r=>?_
 conv=>cbv
 refine AB r FB ?_;conv=>cbv
 refine .inr ?_;refine AB r l ?_;conv=>cbv
 refine AB r m ?_;conv=>cbv
 refine AB r n ?_;conv=>cbv
 refine BB ?_;exact AF ⟨⟨rfl,rfl,rfl,rfl,rfl,trivial⟩,trivial⟩
theorem pt (F:F5 TT w) (hu:Vm TT w 5900000 ku ku AL AK AM AN xu yu) (ht:Vm TT w 5900000 kt kt AP AO AU AT xt yt) (n:xu*xu+yu*yu=Re.ofRat ((1:Int):Rat)) (q:kt+77<=1240/\8*ku+313<=1240):CF 87 [.agg (BQ AL AK AM AN AP AO AU AT mr)] (.one (.bool true)):=by
 obtain⟨BE,BD,l,j⟩:=pv F hu;obtain⟨BT,f,m⟩:=ph F (p:=((1:Int):Rat)) (by decide +kernel);obtain⟨i,g,o,k⟩:=EK F l m;obtain rfl:i=true:=g.2 n;refine AZ Tryz.func87 fun E h=>?_
 conv=>cbv
 refine AB h FB ?_;conv=>cbv
 refine AB h (Jn F hu) ?_;conv=>cbv
 refine AB h (Jn F ht) ?_;conv=>cbv
 refine AB h j ?_;conv=>cbv
 refine AB h (JL (by decide) f) ?_;conv=>cbv
 refine AB h k ?_;conv=>cbv
 exact AF ⟨t2,trivial⟩
theorem pj (F:F5 TT w) (hu:Vm TT w 5900000 ku ku AL AK AM AN xu yu) (ht:Vm TT w 5900000 kt kt AP AO AU AT xt yt) (l:Vm TT w 5900000 kv kv Aw At BE BD xv yv) (k:Vm TT w 5900000 ks ks Ba BT BW BV xs ys) (h:xu=xv) (i:yu=yv) (h3:xt=xs) (j:yt=ys) (n:2*ku+307<=1240/\2*kv+307<=1240/\2*kt+307<=1240/\2*ks+307<=1240):CF 38 [.agg (BQ AL AK AM AN AP AO AU AT mr),.agg (BQ Aw At BE BD Ba BT BW BV mr)] (.one (.bool true)):=by
 refine AZ Tryz.func38 fun E g=>?_
 conv=>cbv
 refine AB g FB ?_;conv=>cbv
 refine AB g FB ?_;conv=>cbv
 intro m f;(have f:=f.trans (show _=true by simp));subst f;conv=>cbv
 refine AB g (CR F hu l (by omega) (by omega) (by omega) (by omega) (e:=true) ⟨fun _=>⟨h,i⟩,fun _=>rfl⟩) ?_;conv=>cbv
 refine AB g (CR F ht k (by omega) (by omega) (by omega) (by omega) (e:=true) ⟨fun _=>⟨h3,j⟩,fun _=>rfl⟩) ?_;conv=>cbv
 exact AF ⟨t2,trivial⟩
theorem Rq (F:F5 TT w) (hu:Vm TT w 5900000 ku ku AL AK AM AN xu yu) (ht:Vm TT w 5900000 kt kt AP AO AU AT xt yt) (l:Vm TT w 5900000 kv kv Aw At BE BD xv yv) (k:Vm TT w 5900000 ks ks Ba BT BW BV xs ys) (f:xu*xu+yu*yu=Re.ofRat ((1:Int):Rat)) (h:xu=xv) (i:yu=yv) (h3:xt=xs) (j:yt=ys) (m:8*ku+313<=1240/\2*kv+307<=1240/\2*kt+307<=1240/\2*ks+307<=1240):CF 24 [.agg (BQ AL AK AM AN AP AO AU AT mr),.one (.int .i64 0),.agg (BQ Aw At BE BD Ba BT BW BV mr)] (.one (.bool true)):=by
 refine AZ Tryz.func24 fun E g=>?_
 conv=>cbv
 refine BM ?_;conv=>cbv
 refine AB g (pt F hu ht f (by omega)) ?_;conv=>cbv
 refine AB g (pj F hu ht l k h i h3 j (by omega)) ?_;conv=>cbv
 exact AF ⟨t2,trivial⟩
theorem eZ (h:a*a+b*b=1) (f:c*c+d*d=1):(c*a-d*b)*(c*a-d*b)+(d*a+c*b)*(d*a+c*b)=Re.ofRat ((1:Int):Rat):=by
 have:(c*a-d*b)*(c*a-d*b)+(d*a+c*b)*(d*a+c*b)=(a*a+b*b)*(c*c+d*d):=by grind
 rw[this,h,f];exact (show (1:Re)*1=1 by grind)
theorem ee (h:a*a+b*b=1) (f:c*c+d*d=1):(c*a-d* -b)*(c*a-d* -b)+(d*a+c* -b)*(d*a+c* -b)=Re.ofRat ((1:Int):Rat):=by
 have:(c*a-d* -b)*(c*a-d* -b)+(d*a+c* -b)*(d*a+c* -b)=(a*a+b*b)*(c*c+d*d):=by grind
 rw[this,h,f];exact (show (1:Re)*1=1 by grind)
theorem gL {W:List UInt8} (f:CF 15 [.agg [.sl Bh X,.sl .u8 W],.agg [.int .u8 km,.int .u8 kn]] (.AI [(true,[.nil,.nil,.nil,.nil,.nil,.nil,.nil,.nil,.bool false]),(true,[.nil,.nil,.nil,.nil,.nil,.nil,.nil,.nil,.bool false]),(true,[.nil,.nil,.nil,.nil]),(false,[.bool false])])):CF 6 [.agg [.sl (.pr .u8 (.pr .u8 (.pr .u8 (.pr .i8 .u8)))) X,.sl .u8 W],.agg [.int .u8 km,.int .u8 kn]] (.one (.bool true)):=by
 refine AZ Tryz.func6 fun E g=>?_
 conv=>cbv
 refine AB g f ?_;conv=>cbv
 refine AB g Ey ?_;conv=>cbv
 refine AR ?_;conv=>cbv
 refine BM ?_;conv=>cbv
 refine AB g Ey ?_;conv=>cbv
 exact AF ⟨t2,trivial⟩
theorem gH (F:F5 TT w) {W:List UInt8} (hu:Vm TT w 5900000 ku ku AL AK AM AN xu yu) (ht:Vm TT w 5900000 kt kt AP AO AU AT xt yt) (x:Vm TT w 5900000 kv kv Aw At BE BD xv yv) (u:Vm TT w 5900000 ks ks Ba BT BW BV xs ys) (ha:Vm TT w 5900000 ka ka Bm Bj Bw Bq xa ya) (v:xu*xu+yu*yu=1) (y:xv*xv+yv*yv=1) (t:CF 15 [.agg [.sl Bh X,.sl .u8 W],.agg [.int .u8 km,.int .u8 kn]] (.AI [(true,(BQ AL AK AM AN AP AO AU AT false)),(true,(BQ Aw At BE BD Ba BT BW BV false)),(true,(AD Bm Bj Bw Bq)),(false,[.bool true])])) (hM:16*ku+16*kv+337<=1240/\4*ka+2*ks+4*kt+8*ku+12*kv+335<=1240/\8*ka+2*ks+4*kt+8*ku+4*kv+331<=1240):CF 6 [.agg [.sl (.pr .u8 (.pr .u8 (.pr .u8 (.pr .i8 .u8)))) X,.sl .u8 W],.agg [.int .u8 km,.int .u8 kn]] (.one (.bool true)):=by
 obtain⟨P,z,Q,A,R,B,S,C,g,h,i⟩:=ng F hu ht x u (by omega);obtain⟨T,D,U,G,V,H,Y,I,n,o,j⟩:=pk F hu ht x u (by omega);obtain⟨Z,J,a1,K,p,k⟩:=NA F g h ha (by omega);obtain⟨a2,L,a5,M,q,l⟩:=NA F hu ht ha (by omega);obtain⟨a6,N,a7,O,s,m⟩:=NA F x u q (by omega);refine AZ Tryz.func6 fun E f=>?_
 conv=>cbv
 refine AB f t ?_;conv=>cbv
 refine AB f Ey ?_;conv=>cbv
 refine AR ?_;conv=>cbv
 refine AR ?_;conv=>cbv
 refine AB f i ?_;conv=>cbv
 refine AB f j ?_;conv=>cbv
 refine AB (r:= .one (.bool true)) f (Rq F g h n o (mr:=false) (eZ v y) (by grind) (by grind) (by grind) (by grind) (by omega)) ?_;conv=>cbv
 refine AB f k ?_;conv=>cbv
 refine AB f l ?_;conv=>cbv
 refine AB f m ?_;conv=>cbv
 refine AB f (CR F p s (by omega) (by omega) (by omega) (by omega) (e:=true) ⟨fun _=>⟨by grind,by grind⟩,fun _=>rfl⟩) ?_;conv=>cbv
 refine BB ?_;exact AF ⟨t2,trivial⟩
theorem gI (F:F5 TT w) {W:List UInt8} (hu:Vm TT w 5900000 ku ku AL AK AM AN xu yu) (ht:Vm TT w 5900000 kt kt AP AO AU AT xt yt) (x:Vm TT w 5900000 kv kv Aw At BE BD xv yv) (u:Vm TT w 5900000 ks ks Ba BT BW BV xs ys) (ha:Vm TT w 5900000 ka ka Bm Bj Bw Bq xa ya) (v:xu*xu+yu*yu=1) (y:xv*xv+yv*yv=1) (t:CF 15 [.agg [.sl Bh X,.sl .u8 W],.agg [.int .u8 km,.int .u8 kn]] (.AI [(true,(BQ AL AK AM AN AP AO AU AT false)),(true,(BQ Aw At BE BD Ba BT BW BV true)),(true,(AD Bm Bj Bw Bq)),(false,[.bool true])])) (hM:16*ku+16*kv+337<=1240/\4*ka+2*ks+4*kt+8*ku+12*kv+335<=1240/\8*ka+2*ks+4*kt+8*ku+4*kv+331<=1240):CF 6 [.agg [.sl (.pr .u8 (.pr .u8 (.pr .u8 (.pr .i8 .u8)))) X,.sl .u8 W],.agg [.int .u8 km,.int .u8 kn]] (.one (.bool true)):=by
 obtain⟨P,z,Q,A,R,B,S,C,g,h,i⟩:=nh F hu ht x u (by omega);obtain⟨T,D,U,G,V,H,Y,I,n,o,j⟩:=pn F hu ht x u (by omega);obtain⟨Z,J,a1,K,p,k⟩:=NB F g h ha (by omega);obtain⟨a2,L,a5,M,q,l⟩:=NA F hu ht ha (by omega);obtain⟨a6,N,a7,O,s,m⟩:=NB F x u q (by omega);refine AZ Tryz.func6 fun E f=>?_
 conv=>cbv
 refine AB f t ?_;conv=>cbv
 refine AB f Ey ?_;conv=>cbv
 refine AR ?_;conv=>cbv
 refine AR ?_;conv=>cbv
 refine AB f i ?_;conv=>cbv
 refine AB f j ?_;conv=>cbv
 refine AB (r:= .one (.bool true)) f (Rq F g h n o (mr:=true) (ee v y) (by grind) (by grind) (by grind) (by grind) (by omega)) ?_;conv=>cbv
 refine AB f k ?_;conv=>cbv
 refine AB f l ?_;conv=>cbv
 refine AB f m ?_;conv=>cbv
 refine AB f (CR F p s (by omega) (by omega) (by omega) (by omega) (e:=true) ⟨fun _=>⟨by grind,by grind⟩,fun _=>rfl⟩) ?_;conv=>cbv
 refine BB ?_;exact AF ⟨t2,trivial⟩
theorem gJ (F:F5 TT w) {W:List UInt8} (hu:Vm TT w 5900000 ku ku AL AK AM AN xu yu) (ht:Vm TT w 5900000 kt kt AP AO AU AT xt yt) (x:Vm TT w 5900000 kv kv Aw At BE BD xv yv) (u:Vm TT w 5900000 ks ks Ba BT BW BV xs ys) (ha:Vm TT w 5900000 ka ka Bm Bj Bw Bq xa ya) (v:xu*xu+yu*yu=1) (y:xv*xv+yv*yv=1) (t:CF 15 [.agg [.sl Bh X,.sl .u8 W],.agg [.int .u8 km,.int .u8 kn]] (.AI [(true,(BQ AL AK AM AN AP AO AU AT true)),(true,(BQ Aw At BE BD Ba BT BW BV false)),(true,(AD Bm Bj Bw Bq)),(false,[.bool true])])) (hM:16*ku+16*kv+337<=1240/\4*ka+2*ks+4*kt+8*ku+12*kv+335<=1240/\8*ka+2*ks+4*kt+8*ku+4*kv+331<=1240):CF 6 [.agg [.sl (.pr .u8 (.pr .u8 (.pr .u8 (.pr .i8 .u8)))) X,.sl .u8 W],.agg [.int .u8 km,.int .u8 kn]] (.one (.bool true)):=by
 obtain⟨P,z,Q,A,R,B,S,C,g,h,i⟩:=nj F hu ht x u (by omega);obtain⟨T,D,U,G,V,H,Y,I,n,o,j⟩:=po F hu ht x u (by omega);obtain⟨Z,J,a1,K,p,k⟩:=NB F g h ha (by omega);obtain⟨a2,L,a5,M,q,l⟩:=NB F hu ht ha (by omega);obtain⟨a6,N,a7,O,s,m⟩:=NA F x u q (by omega);refine AZ Tryz.func6 fun E f=>?_
 conv=>cbv
 refine AB f t ?_;conv=>cbv
 refine AB f Ey ?_;conv=>cbv
 refine AR ?_;conv=>cbv
 refine AR ?_;conv=>cbv
 refine AB f i ?_;conv=>cbv
 refine AB f j ?_;conv=>cbv
 refine AB (r:= .one (.bool true)) f (Rq F g h n o (mr:=true) (eZ v y) (by grind) (by grind) (by grind) (by grind) (by omega)) ?_;conv=>cbv
 refine AB f k ?_;conv=>cbv
 refine AB f l ?_;conv=>cbv
 refine AB f m ?_;conv=>cbv
 refine AB f (CR F p s (by omega) (by omega) (by omega) (by omega) (e:=true) ⟨fun _=>⟨by grind,by grind⟩,fun _=>rfl⟩) ?_;conv=>cbv
 refine BB ?_;exact AF ⟨t2,trivial⟩
theorem gK (F:F5 TT w) {W:List UInt8} (hu:Vm TT w 5900000 ku ku AL AK AM AN xu yu) (ht:Vm TT w 5900000 kt kt AP AO AU AT xt yt) (x:Vm TT w 5900000 kv kv Aw At BE BD xv yv) (u:Vm TT w 5900000 ks ks Ba BT BW BV xs ys) (ha:Vm TT w 5900000 ka ka Bm Bj Bw Bq xa ya) (v:xu*xu+yu*yu=1) (y:xv*xv+yv*yv=1) (t:CF 15 [.agg [.sl Bh X,.sl .u8 W],.agg [.int .u8 km,.int .u8 kn]] (.AI [(true,(BQ AL AK AM AN AP AO AU AT true)),(true,(BQ Aw At BE BD Ba BT BW BV true)),(true,(AD Bm Bj Bw Bq)),(false,[.bool true])])) (hM:16*ku+16*kv+337<=1240/\4*ka+2*ks+4*kt+8*ku+12*kv+335<=1240/\8*ka+2*ks+4*kt+8*ku+4*kv+331<=1240):CF 6 [.agg [.sl (.pr .u8 (.pr .u8 (.pr .u8 (.pr .i8 .u8)))) X,.sl .u8 W],.agg [.int .u8 km,.int .u8 kn]] (.one (.bool true)):=by
 obtain⟨P,z,Q,A,R,B,S,C,g,h,i⟩:=nk F hu ht x u (by omega);obtain⟨T,D,U,G,V,H,Y,I,n,o,j⟩:=pq F hu ht x u (by omega);obtain⟨Z,J,a1,K,p,k⟩:=NA F g h ha (by omega);obtain⟨a2,L,a5,M,q,l⟩:=NB F hu ht ha (by omega);obtain⟨a6,N,a7,O,s,m⟩:=NB F x u q (by omega);refine AZ Tryz.func6 fun E f=>?_
 conv=>cbv
 refine AB f t ?_;conv=>cbv
 refine AB f Ey ?_;conv=>cbv
 refine AR ?_;conv=>cbv
 refine AR ?_;conv=>cbv
 refine AB f i ?_;conv=>cbv
 refine AB f j ?_;conv=>cbv
 refine AB (r:= .one (.bool true)) f (Rq F g h n o (mr:=false) (ee v y) (by grind) (by grind) (by grind) (by grind) (by omega)) ?_;conv=>cbv
 refine AB f k ?_;conv=>cbv
 refine AB f l ?_;conv=>cbv
 refine AB f m ?_;conv=>cbv
 refine AB f (CR F p s (by omega) (by omega) (by omega) (by omega) (e:=true) ⟨fun _=>⟨by grind,by grind⟩,fun _=>rfl⟩) ?_;conv=>cbv
 refine BB ?_;exact AF ⟨t2,trivial⟩
theorem tJ {W:List UInt8} {ns:List Nu} (A:ns=(runN (X.take 24)).1) {V:List Re} (p:V.length<=3) (q:∀n∈ns,CL V n) (t:0<=km) (u:0<=kn):CF 6 [.agg [.sl Bh X,.sl .u8 W],.agg [.int .u8 km,.int .u8 kn]] (.one (.bool true)):=by
 obtain⟨w,L⟩:=Jc p q;rcases Ut (W:=W) A p q L t u with c |⟨n1,n2,i,j,v,z,T1,A1,T2,A2,T3,A3,T4,A4,mr,xu,yu,xt,yt,T5,A5,T6,A6,T7,A7,T8,A8,nr,xv,yv,xs,ys,x,D,G,hu,ht,m,C,B,o,ha,l⟩
 ·exact gL c
 obtain⟨_,_,_,H,b1⟩:=v;obtain⟨_,_,_,I,b2⟩:=z;have J:R4=1920500:=rfl;have f:El w R4 n1:=by obtain⟨_,_,_,_,_,h⟩:=b1;exact h.mono (by omega)
 have g:El w R4 n2:=by obtain⟨_,_,_,_,_,h⟩:=b2;exact h.mono (by omega)
 have F:=L.f5 f i g j;have r:Vm (Tf (P5 (PN ns) n1 n2)) (Aj (Aj w n1) n2) 5900000 9 9 T1 A1 T2 A2 xu yu:=⟨L.Kv f i g j hu.x (by decide),L.Kv f i g j hu.y (by decide)⟩;have gt:Vm (Tf (P5 (PN ns) n1 n2)) (Aj (Aj w n1) n2) 5900000 40 40 T3 A3 T4 A4 xt yt:=⟨L.Kv f i g j ht.x (by decide),L.Kv f i g j ht.y (by decide)⟩;have s:Vm (Tf (P5 (PN ns) n1 n2)) (Aj (Aj w n1) n2) 5900000 28 28 T5 A5 T6 A6 xv yv:=⟨L.Kw f i g j C.x (by decide),L.Kw f i g j C.y (by decide)⟩;have gs:Vm (Tf (P5 (PN ns) n1 n2)) (Aj (Aj w n1) n2) 5900000 90 90 T7 A7 T8 A8 xs ys:=⟨L.Kw f i g j B.x (by decide),L.Kw f i g j B.y (by decide)⟩
 have ga:Vm (Tf (P5 (PN ns) n1 n2)) (Aj (Aj w n1) n2) 5900000 1 1 x.1.1 x.1.2 x.2.1 x.2.2 D G:=by
  have h:=ha (b:=11500) (k:=20) (by decide);exact⟨L.aE f i g j h.x (by decide),L.aE f i g j h.y (by decide)⟩
 cases mr <;> cases nr
 ·exact gH F r gt s gs ga m o l (by decide)
 ·exact gI F r gt s gs ga m o l (by decide)
 ·exact gJ F r gt s gs ga m o l (by decide)
 exact gK F r gt s gs ga m o l (by decide)
end Go.Abs
