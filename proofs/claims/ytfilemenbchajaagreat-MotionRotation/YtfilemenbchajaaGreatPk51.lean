/- Part 52 of a proof. Conditions: each theorem's own. -/
import Derived.Test.YtfilemenbchajaaGreatPk45
import Derived.Test.YtfilemenbchajaaGreatPk46
set_option linter.all false
set_option maxHeartbeats 8000000
set_option maxRecDepth 20000
open Go.Proofs
namespace Go.Abs
open Go.RowKit
variable {A1 A2 A3 A4 AK AJ AO AZ Ah Aj Bq Ay:LR} {T1 T2 T3 T4 AL AI AQ Aa Ai Ak CD BA:List LR} {TT:List (List Rat)->Prop} {ka kb kc ki ks kt ku kv:Nat} {mr:Bool} {va vb vc vi xa xb xs xt xu xv ya yb ys yt yu yv:Re} {w:List (List Rat)}
theorem MW (F:Fd TT w) (ha:Vm TT w 1950000 ka ka AL AK AI AJ xa ya) (k:ka+111<=80000):∃h g b a,Vm TT w 1950000 (ka) (ka) h g b a (xa) (-ya)/\CF 155 [.agg [.sl (.sl AA) AL,.sl AA AK,.sl (.sl AA) AI,.sl AA AJ]] (.agg [.sl (.sl AA) h,.sl AA g,.sl (.sl AA) b,.sl AA a]):=by
 obtain⟨AO,d,i,c⟩:=Ec F ha.y (by omega);have f:Vm _ w 1950000 ka ka AL AK AI AO _ _:=⟨ha.x.mono (by omega),d.mono (by omega)⟩;refine⟨AL,AK,AI,AO,f.mono (by omega) (by omega),?_⟩;refine BP Tryz.func155 (by kernel_rfl) rfl fun E j=>?_
 conv=>cbv
 refine cL j c ⟨t2,trivial⟩ ?_;try conv=>cbv
 refine⟨fun _=>Aq (by kernel_rfl),?_⟩;exact fA ⟨⟨rfl,rfl,rfl,rfl,rfl,trivial⟩,trivial⟩ rfl (by simp)
theorem PB (F:Fd TT w) (ha:Vm TT w 1950000 ka ka AL AK AI AJ xa ya) (hb:Vm TT w 1950000 kb kb AQ AO Aa AZ xb yb) (x:ka+kb+112<=80000):∃v s d c,Vm TT w 1950000 (2*ka+2*kb+3) (2*ka+2*kb+3) v s d c (xa*xb-ya*yb) (xa*yb+ya*xb)/\CF 148 [.agg [.sl (.sl AA) AL,.sl AA AK,.sl (.sl AA) AI,.sl AA AJ],.agg [.sl (.sl AA) AQ,.sl AA AO,.sl (.sl AA) Aa,.sl AA AZ]] (.agg [.sl (.sl AA) v,.sl AA s,.sl (.sl AA) d,.sl AA c]):=by
 obtain⟨Ak,Aj,CD,Bq,j,f⟩:=MW F hb (by omega);obtain⟨BA,Ay,k,g⟩:=IM F ha j (by omega) (by omega);obtain⟨t,q,u,r,l,h⟩:=MW F ha (by omega);obtain⟨b,a,m,i⟩:=QC F l hb (by omega) (by omega);have n:Vm _ w 1950000 (2*ka+2*kb+3) (2*ka+2*kb+3) BA Ay b a _ _:=⟨k.mono (by omega),m.mono (by omega)⟩;have o:=n.cast (x':=xa*xb-ya*yb) (y':=xa*yb+ya*xb) (by grind) (by grind);refine⟨BA,Ay,b,a,o.mono (by omega) (by omega),?_⟩;refine BP Tryz.func148 (by kernel_rfl) rfl fun E p=>?_
 conv=>cbv
 refine cL p f ⟨t4,trivial⟩ ?_;try conv=>cbv
 refine cL p g ⟨t4,t4,trivial⟩ ?_;try conv=>cbv
 refine⟨fun _=>Aq (by kernel_rfl),?_⟩;refine cL p h ⟨t4,trivial⟩ ?_;try conv=>cbv
 refine cL p i ⟨t4,t4,trivial⟩ ?_;try conv=>cbv
 refine⟨fun _=>Aq (by kernel_rfl),?_⟩;exact fA ⟨⟨rfl,rfl,rfl,rfl,rfl,trivial⟩,trivial⟩ rfl (by simp)
theorem Un (F:Fd TT w) (ha:Vm TT w 1950000 ka ka AL AK AI AJ xa ya) (hb:Vm TT w 1950000 kb kb AQ AO Aa AZ xb yb) (i:ka+kb+111<=80000):∃g f b a,Vm TT w 1950000 (ka+kb+1) (ka+kb+1) g f b a (xa+xb) (ya+yb)/\CF 157 [.agg [.sl (.sl AA) AL,.sl AA AK,.sl (.sl AA) AI,.sl AA AJ],.agg [.sl (.sl AA) AQ,.sl AA AO,.sl (.sl AA) Aa,.sl AA AZ]] (.agg [.sl (.sl AA) g,.sl AA f,.sl (.sl AA) b,.sl AA a]):=by
 obtain⟨Ai,Ah,Ak,Aj,d,c⟩:=M6 F ha hb (by omega) (by omega) (by omega) (by omega);refine⟨Ai,Ah,Ak,Aj,d.mono (by omega) (by omega),?_⟩;refine BP Tryz.func157 (by kernel_rfl) rfl fun E h=>?_
 conv=>cbv
 refine cL h c ⟨t4,t4,trivial⟩ ?_;try conv=>cbv
 exact fA ⟨⟨rfl,rfl,rfl,rfl,rfl,trivial⟩,trivial⟩ rfl (by simp)
theorem PD (F:Fd TT w) (ha:Vm TT w 1950000 ka ka AL AK AI AJ xa ya) (hb:Vm TT w 1950000 kb kb AQ AO Aa AZ xb yb) (n:ka+kb+111<=80000):∃l k d b,Vm TT w 1950000 (ka+kb+1) (ka+kb+1) l k d b (xa-xb) (ya-yb)/\CF 147 [.agg [.sl (.sl AA) AL,.sl AA AK,.sl (.sl AA) AI,.sl AA AJ],.agg [.sl (.sl AA) AQ,.sl AA AO,.sl (.sl AA) Aa,.sl AA AZ]] (.agg [.sl (.sl AA) l,.sl AA k,.sl (.sl AA) d,.sl AA b]):=by
 obtain⟨Ah,Aj,h,f⟩:=Wh F hb (by omega) (by omega);obtain⟨BA,Ay,c,a,i,g⟩:=Un F ha h (by omega);have j:=i.cast (x':=xa-xb) (y':=ya-yb) (by grind) (by grind);refine⟨BA,Ay,c,a,j.mono (by omega) (by omega),?_⟩;refine BP Tryz.func147 (by kernel_rfl) rfl fun E m=>?_
 conv=>cbv
 refine cL m f ⟨t4,trivial⟩ ?_;try conv=>cbv
 refine cL m g ⟨t4,t4,trivial⟩ ?_;try conv=>cbv
 refine⟨fun _=>Aq (by kernel_rfl),?_⟩;exact fA ⟨⟨rfl,rfl,rfl,rfl,rfl,trivial⟩,trivial⟩ rfl (by simp)
theorem MY (F:Fd TT w) {u:Re} {t:Nat} (ha:Vm TT w 1950000 ka ka AL AK AI AJ xa ya) (B:Nm TT w 1950000 t AQ AO u) (A:Nm TT w 1950000 ki Aa AZ vi) (C:u≠0) (r:u*vi=1) (D:ka+ki+47*t+134<=80000):∃x v i f,Vm TT w 1950000 (ka+ki+1) (ka+ki+1) x v i f (xa*vi) (ya*vi)/\CF 145 [.agg [.sl (.sl AA) AL,.sl AA AK,.sl (.sl AA) AI,.sl AA AJ],.agg [.sl (.sl AA) AQ,.sl AA AO]] (.agg [.sl (.sl AA) x,.sl AA v,.sl (.sl AA) i,.sl AA f]):=by
 obtain⟨Ah,a,l⟩:=DK F (p:=((1:Int):Rat)) (by decide +kernel);obtain⟨Ak,Aj,m,z,k⟩:=D1 F l B (d:=47*t+23) (by omega) C (by omega) (by omega) (by omega);have n:=m.shrink A (by rw[H3 r,show Re.ofRat ((1:Int):Rat)=1 from rfl];grind);have o:=n.cast (y:=vi) (by rw[H3 r,show Re.ofRat ((1:Int):Rat)=1 from rfl];grind);obtain⟨g,b,h,c,q,j⟩:=M7 F ha o (by omega) (by omega) (by omega);refine⟨g,b,h,c,q.mono (by omega) (by omega),?_⟩;refine BP Tryz.func145 (by kernel_rfl) rfl fun E s=>?_
 conv=>cbv
 refine cL s (D6 (by decide) a) t1 ?_;try conv=>cbv
 refine cL s k ⟨t2,t2,trivial⟩ ?_;try conv=>cbv
 refine⟨fun _=>Aq (by kernel_rfl),?_⟩;refine cL s j ⟨t4,t2,trivial⟩ ?_;try conv=>cbv
 exact fA ⟨⟨rfl,rfl,rfl,rfl,rfl,trivial⟩,trivial⟩ rfl (by simp)
theorem PC (F:Fd TT w) (ha:Vm TT w 1950000 ka ka AL AK AI AJ xa ya) (g:2*ka+112<=80000):∃d c,Nm TT w 1950000 (4*ka+3) d c (xa*xa+ya*ya)/\CF 154 [.agg [.sl (.sl AA) AL,.sl AA AK,.sl (.sl AA) AI,.sl AA AJ]] (.agg [.sl (.sl AA) d,.sl AA c]):=by
 obtain⟨AQ,AO,b,a⟩:=Wj F ha (by omega) (by omega);refine⟨AQ,AO,b.mono (by omega),?_⟩;refine BP Tryz.func154 (by kernel_rfl) rfl fun E f=>?_
 conv=>cbv
 refine cL f a ⟨t4,trivial⟩ ?_;try conv=>cbv
 exact fA ⟨t3,trivial⟩ rfl (by simp)
theorem MZ:CF 156 [.agg [.sl (.sl AA) T1,.sl AA A1,.sl (.sl AA) T2,.sl AA A2,.sl (.sl AA) T3,.sl AA A3,.sl (.sl AA) T4,.sl AA A4,.bool mr]] (.AE [(true,[.sl (.sl AA) T1,.sl AA A1,.sl (.sl AA) T2,.sl AA A2]),(true,[.sl (.sl AA) T3,.sl AA A3,.sl (.sl AA) T4,.sl AA A4])]):=by
 refine BP Tryz.func156 (by kernel_rfl) rfl fun E a=>?_
 conv=>cbv
 refine⟨fun _=>Aq (by kernel_rfl),?_⟩;exact fA ⟨⟨rfl,rfl,rfl,rfl,rfl,trivial⟩,⟨rfl,rfl,rfl,rfl,rfl,trivial⟩,trivial⟩ rfl (by simp)
theorem Uq:CF 146 [.agg [.sl (.sl AA) T1,.sl AA A1,.sl (.sl AA) T2,.sl AA A2],.agg [.sl (.sl AA) T3,.sl AA A3,.sl (.sl AA) T4,.sl AA A4],.one (.bool mr)] (.agg [.sl (.sl AA) T1,.sl AA A1,.sl (.sl AA) T2,.sl AA A2,.sl (.sl AA) T3,.sl AA A3,.sl (.sl AA) T4,.sl AA A4,.bool mr]):=by
 refine BP Tryz.func146 (by kernel_rfl) rfl fun E a=>?_
 conv=>cbv
 exact fA ⟨⟨rfl,rfl,rfl,rfl,rfl,rfl,rfl,rfl,rfl,rfl,trivial⟩,trivial⟩ rfl (by simp)
theorem UpS (F:Fd TT w) {e:Bool} (hu:Vm TT w 1950000 ku ku AL AK AI AJ xu yu) (ht:Vm TT w 1950000 kt kt AQ AO Aa AZ xt yt) (he:e=true↔xu*xu+yu*yu=Re.ofRat ((1:Int):Rat)) (k:kt+8*ku+449<=80000):CF 59 [.agg [.sl (.sl AA) AL,.sl AA AK,.sl (.sl AA) AI,.sl AA AJ,.sl (.sl AA) AQ,.sl AA AO,.sl (.sl AA) Aa,.sl AA AZ,.bool mr]] (.one (.bool e)):=by
 obtain⟨Ak,Aj,h,f⟩:=PC F hu (by omega);obtain⟨Bq,a,i⟩:=DK F (p:=((1:Int):Rat)) (by decide +kernel);obtain⟨d,b,j,g⟩:=EM F h i (by omega) (by omega);obtain rfl:e=d:=Bool.eq_iff_iff.2 (he.trans b.symm);refine BP Tryz.func59 (by kernel_rfl) rfl fun E c=>?_
 conv=>cbv
 refine cL c MZ ⟨⟨rfl,rfl,rfl,rfl,rfl,rfl,rfl,rfl,rfl,trivial⟩,trivial⟩ ?_;try conv=>cbv
 refine cL c (Wl F hu (by omega) (by omega)) ⟨t4,trivial⟩ ?_;try conv=>cbv
 refine cL c (Wl F ht (by omega) (by omega)) ⟨t4,trivial⟩ ?_;try conv=>cbv
 refine cL c f ⟨t4,trivial⟩ ?_;try conv=>cbv
 refine cL c (D6 (by decide) a) t1 ?_;try conv=>cbv
 refine cL c g ⟨t2,t2,trivial⟩ ?_;try conv=>cbv
 exact fA ⟨t2,trivial⟩ rfl (by simp)
theorem Ur (F:Fd TT w) (j:Vm TT w 1950000 kv kv AL AK AI AJ xv yv):∃h f,Vm TT w 1950000 (1) (1) ([]:List LR) h ([]:List LR) f (Re.ofRat ((1:Int):Rat)) (Re.ofRat ((0:Int):Rat))/\CF 63 [.agg [.sl (.sl AA) AL,.sl AA AK,.sl (.sl AA) AI,.sl AA AJ]] (.agg [.sl (.sl AA) (([]:List LR)),.sl AA h,.sl (.sl AA) (([]:List LR)),.sl AA f,.sl (.sl AA) AL,.sl AA AK,.sl (.sl AA) AI,.sl AA AJ,.bool false]):=by
 obtain⟨c,d,⟨a,b⟩,g⟩:=EH F (p:=((1:Int):Rat)) (q:=((0:Int):Rat)) (by decide +kernel) (by decide +kernel);refine⟨c,d,g.mono (by omega) (by omega),?_⟩;refine BP Tryz.func63 (by kernel_rfl) rfl fun E i=>?_
 conv=>cbv
 refine cL i (Eh (x:=1) (y:=0) (by decide) (by decide) a b) t2 ?_;try conv=>cbv
 refine cL i Uq ⟨t4,t4,rfl,trivial⟩ ?_;try conv=>cbv
 refine⟨fun _=>Aq (by kernel_rfl),?_⟩;exact fA ⟨⟨rfl,rfl,rfl,rfl,rfl,rfl,rfl,rfl,rfl,rfl,trivial⟩,trivial⟩ rfl (by simp)
theorem dN (F:Fd TT w):∃k g l h,Vm TT w 1950000 (1) (1) ([]:List LR) k ([]:List LR) g (Re.ofRat ((1:Int):Rat)) (Re.ofRat ((0:Int):Rat))/\Vm TT w 1950000 (1) (1) ([]:List LR) l ([]:List LR) h (Re.ofRat ((0:Int):Rat)) (Re.ofRat ((0:Int):Rat))/\CF 61 [] (.agg [.sl (.sl AA) (([]:List LR)),.sl AA k,.sl (.sl AA) (([]:List LR)),.sl AA g,.sl (.sl AA) (([]:List LR)),.sl AA l,.sl (.sl AA) (([]:List LR)),.sl AA h,.bool false]):=by
 obtain⟨d,f,⟨a,b⟩,c⟩:=EH F (p:=((0:Int):Rat)) (q:=((0:Int):Rat)) (by decide +kernel) (by decide +kernel);obtain⟨AO,AZ,j,i⟩:=Ur F c;refine⟨AO,AZ,d,f,j.mono (by omega) (by omega),c.mono (by omega) (by omega),?_⟩;refine BP Tryz.func61 (by kernel_rfl) rfl fun E m=>?_
 conv=>cbv
 refine cL m (Eh (x:=0) (y:=0) (by decide) (by decide) a b) t2 ?_;try conv=>cbv
 refine cL m i ⟨t4,trivial⟩ ?_;try conv=>cbv
 exact fA ⟨⟨rfl,rfl,rfl,rfl,rfl,rfl,rfl,rfl,rfl,rfl,trivial⟩,trivial⟩ rfl (by simp)
theorem dK (F:Fd TT w) (hu:Vm TT w 1950000 ku ku AL AK AI AJ xu yu) (ht:Vm TT w 1950000 kt kt AQ AO Aa AZ xt yt) (ha:Vm TT w 1950000 ka ka Ai Ah Ak Aj xa ya) (x:2*ka+kt+2*ku+114<=80000):∃v r g c,Vm TT w 1950000 (2*ka+kt+2*ku+4) (2*ka+kt+2*ku+4) v r g c ((xu*xa-yu*(-ya))+xt) ((xu*(-ya)+yu*xa)+yt)/\CF 53 [.agg [.sl (.sl AA) AL,.sl AA AK,.sl (.sl AA) AI,.sl AA AJ,.sl (.sl AA) AQ,.sl AA AO,.sl (.sl AA) Aa,.sl AA AZ,.bool true],.agg [.sl (.sl AA) Ai,.sl AA Ah,.sl (.sl AA) Ak,.sl AA Aj]] (.agg [.sl (.sl AA) v,.sl AA r,.sl (.sl AA) g,.sl AA c]):=by
 obtain⟨BA,Ay,s,o,k,h⟩:=MW F ha (by omega);obtain⟨t,p,u,q,l,i⟩:=PB F hu k (by omega);obtain⟨d,a,f,b,m,j⟩:=Un F l ht (by omega);refine⟨d,a,f,b,m.mono (by omega) (by omega),?_⟩;refine BP Tryz.func53 (by kernel_rfl) rfl fun E n=>?_
 conv=>cbv
 refine cL n MZ ⟨⟨rfl,rfl,rfl,rfl,rfl,rfl,rfl,rfl,rfl,trivial⟩,trivial⟩ ?_;try conv=>cbv
 refine .inr ?_;refine cL n h ⟨t4,trivial⟩ ?_;try conv=>cbv
 refine cL n i ⟨t4,t4,trivial⟩ ?_;try conv=>cbv
 refine cL n j ⟨t4,t4,trivial⟩ ?_;try conv=>cbv
 refine⟨fun _=>Aq (by kernel_rfl),?_⟩;exact fA ⟨⟨rfl,rfl,rfl,rfl,rfl,trivial⟩,trivial⟩ rfl (by simp)
theorem dS (F:Fd TT w) (hu:Vm TT w 1950000 ku ku AL AK AI AJ xu yu) (ht:Vm TT w 1950000 kt kt AQ AO Aa AZ xt yt) (h:Vm TT w 1950000 kv kv Ai Ah Ak Aj xv yv) (g:Vm TT w 1950000 ks ks CD Bq BA Ay xs ys) (c:xu=xv) (d:yu=yv) (h3:xt=xs) (f:yt=ys) (j:2*ks+2*kt+2*ku+2*kv+443<=80000):CF 143 [.agg [.sl (.sl AA) AL,.sl AA AK,.sl (.sl AA) AI,.sl AA AJ,.sl (.sl AA) AQ,.sl AA AO,.sl (.sl AA) Aa,.sl AA AZ,.bool mr],.agg [.sl (.sl AA) Ai,.sl AA Ah,.sl (.sl AA) Ak,.sl AA Aj,.sl (.sl AA) CD,.sl AA Bq,.sl (.sl AA) BA,.sl AA Ay,.bool mr]] (.one (.bool true)):=by
 refine BP Tryz.func143 (by kernel_rfl) rfl fun E b=>?_
 conv=>cbv
 refine cL b MZ ⟨⟨rfl,rfl,rfl,rfl,rfl,rfl,rfl,rfl,rfl,trivial⟩,trivial⟩ ?_;try conv=>cbv
 refine cL b MZ ⟨⟨rfl,rfl,rfl,rfl,rfl,rfl,rfl,rfl,rfl,trivial⟩,trivial⟩ ?_;try conv=>cbv
 intro i a;(have a:=a.trans (show _=true by simp));subst a;conv=>cbv
 refine cL b (EU F hu h (by omega) (by omega) (by omega) (by omega) (e:=true) ⟨fun _=>⟨c,d⟩,fun _=>rfl⟩) ⟨t4,t4,trivial⟩ ?_;try conv=>cbv
 refine cL b (EU F ht g (by omega) (by omega) (by omega) (by omega) (e:=true) ⟨fun _=>⟨h3,f⟩,fun _=>rfl⟩) ⟨t4,t4,trivial⟩ ?_;try conv=>cbv
 exact fA ⟨t2,trivial⟩ rfl (by simp)
theorem dU (F:Fd TT w) (ha:Vm TT w 1950000 ka ka AL AK AI AJ xa ya) (hb:Vm TT w 1950000 kb kb AQ AO Aa AZ xb yb) (N:Nm TT w 1950000 ki Ai Ah vi) (M: -(yb-ya)≠0) (C: -(yb-ya)*vi=1) (O:48*ka+48*kb+ki+182<=80000):∃J H m i K I,Vm TT w 1950000 (ka+kb+ki+2) (ka+kb+ki+2) J H m i ((-(yb-ya))*vi) ((xb-xa)*vi)/\Nm TT w 1950000 (4*ka+2*kb+2*ki+7) K I (((-(yb-ya))*vi)*xa+((xb-xa)*vi)*ya)/\CF 50 [.agg [.sl (.sl AA) AL,.sl AA AK,.sl (.sl AA) AI,.sl AA AJ],.agg [.sl (.sl AA) AQ,.sl AA AO,.sl (.sl AA) Aa,.sl AA AZ]] (.agg [.sl (.sl AA) J,.sl AA H,.sl (.sl AA) m,.sl AA i,.sl (.sl AA) K,.sl AA I]):=by
 obtain⟨CD,Bq,BA,Ay,t,n⟩:=PD F hb ha (by omega);have u:=t.cast (x':=xb-xa) (y':=yb-ya) (rfl) (rfl);obtain⟨G,a,o⟩:=Kp F u (by omega) (by omega);obtain⟨B,c,L,r⟩:=DQ F a.x (by omega);have d:B≠0:=fun z=>M (Dv.1 (c.symm.trans z))
 obtain⟨j,f,k,g,b,p⟩:=MY F a a.x N M C (by omega);obtain⟨l,h,v,q⟩:=IM F b ha (by omega) (by omega);refine⟨j,f,k,g,l,h,b.mono (by omega) (by omega),v.mono (by omega),?_⟩;refine BP Tryz.func50 (by kernel_rfl) rfl fun E y=>?_
 conv=>cbv
 refine cL y n ⟨t4,t4,trivial⟩ ?_;try conv=>cbv
 refine cL y o ⟨t4,trivial⟩ ?_;try conv=>cbv
 refine cL y r ⟨t2,trivial⟩ ?_;try conv=>cbv
 intro D s;conv=>cbv
 refine .inr ?_;cases D <;> conv=>cbv
 ·have A:=Au s;refine cL y p ⟨t4,t2,trivial⟩ ?_;try conv=>cbv
  refine cL y q ⟨t4,t4,trivial⟩ ?_;try conv=>cbv
  exact fA ⟨⟨rfl,rfl,rfl,rfl,rfl,rfl,rfl,trivial⟩,trivial⟩ rfl (by simp)
 have A:=Av s;exact absurd A d
theorem dT (F:Fd TT w) (ha:Vm TT w 1950000 ka ka AL AK AI AJ xa ya) (hb:Vm TT w 1950000 kb kb AQ AO Aa AZ xb yb) (J:Nm TT w 1950000 ki Ai Ah vi) (K: -(yb-ya)=0) (L:xb-xa≠0) (A:(xb-xa)*vi=1) (N:48*ka+48*kb+ki+182<=80000):∃G C l h H D,Vm TT w 1950000 (ka+kb+ki+2) (ka+kb+ki+2) G C l h ((-(yb-ya))*vi) ((xb-xa)*vi)/\Nm TT w 1950000 (4*ka+2*kb+2*ki+7) H D (((-(yb-ya))*vi)*xa+((xb-xa)*vi)*ya)/\CF 50 [.agg [.sl (.sl AA) AL,.sl AA AK,.sl (.sl AA) AI,.sl AA AJ],.agg [.sl (.sl AA) AQ,.sl AA AO,.sl (.sl AA) Aa,.sl AA AZ]] (.agg [.sl (.sl AA) G,.sl AA C,.sl (.sl AA) l,.sl AA h,.sl (.sl AA) H,.sl AA D]):=by
 obtain⟨CD,Bq,BA,Ay,r,m⟩:=PD F hb ha (by omega);have s:=r.cast (x':=xb-xa) (y':=yb-ya) (rfl) (rfl);obtain⟨B,a,n⟩:=Kp F s (by omega) (by omega);obtain⟨v,c,I,q⟩:=DQ F a.x (by omega);obtain rfl:v=0:=c.trans (by rw[K];exact Dw);obtain⟨i,d,j,f,b,o⟩:=MY F a a.y J L A (by omega);obtain⟨k,g,t,p⟩:=IM F b ha (by omega) (by omega);refine⟨i,d,j,f,k,g,b.mono (by omega) (by omega),t.mono (by omega),?_⟩;refine BP Tryz.func50 (by kernel_rfl) rfl fun E u=>?_
 conv=>cbv
 refine cL u m ⟨t4,t4,trivial⟩ ?_;try conv=>cbv
 refine cL u n ⟨t4,trivial⟩ ?_;try conv=>cbv
 refine cL u q ⟨t2,trivial⟩ ?_;try conv=>cbv
 intro M z;cases z.trans (show _=true by decide);conv=>cbv
 refine .inr ?_;refine cL u o ⟨t4,t2,trivial⟩ ?_;try conv=>cbv
 refine cL u p ⟨t4,t4,trivial⟩ ?_;try conv=>cbv
 exact fA ⟨⟨rfl,rfl,rfl,rfl,rfl,rfl,rfl,trivial⟩,trivial⟩ rfl (by simp)
theorem dW (F:Fd TT w) {xp yp:Re} {kp:Nat} (ha:Nm TT w 1950000 ka AL AK va) (hb:Nm TT w 1950000 kb AI AJ vb) (l:Nm TT w 1950000 kc AQ AO vc) (m:Vm TT w 1950000 kp kp Aa AZ Ai Ah xp yp) (i:va*xp+vb*yp=vc) (o:4*ka+4*kb+2*kc+4*kp+449<=80000):CF 57 [.agg [.sl (.sl AA) AL,.sl AA AK,.sl (.sl AA) AI,.sl AA AJ,.sl (.sl AA) AQ,.sl AA AO],.agg [.sl (.sl AA) Aa,.sl AA AZ,.sl (.sl AA) Ai,.sl AA Ah]] (.one (.bool true)):=by
 have f:Vm _ w 1950000 (ka+kb) (ka+kb) AL AK AI AJ _ _:=⟨ha.mono (by omega),hb.mono (by omega)⟩;obtain⟨CD,Bq,g,c⟩:=IM F f m (by omega) (by omega);obtain⟨b,a,j,d⟩:=EM F g l (by omega) (by omega);obtain rfl:b=true:=a.2 i;refine BP Tryz.func57 (by kernel_rfl) rfl fun E k=>?_
 conv=>cbv
 refine cL k c ⟨t4,t4,trivial⟩ ?_;try conv=>cbv
 intro n h;cases h.trans (show _=true by decide);conv=>cbv
 refine cL k d ⟨t2,t2,trivial⟩ ?_;try conv=>cbv
 exact fA ⟨t2,trivial⟩ rfl (by simp)
theorem dV (F:Fd TT w) (ha:Nm TT w 1950000 ka AL AK va) (hb:Nm TT w 1950000 kb AI AJ vb) (hc:Nm TT w 1950000 kc AQ AO vc) (hi:Nm TT w 1950000 ki Aa AZ vi) (hn:va*va+vb*vb≠0) (O:(va*va+vb*vb)*vi=1) (hM:192*ka+192*kb+3*kc+5*ki+278<=80000):∃U0 B0 q k U1 B1 r l,Vm TT w 1950000 (4*ka+4*kb+ki+4) (4*ka+4*kb+ki+4) U0 B0 q k (((-vb)*(-vb)-va*va)*vi) (((-vb)*va+va*(-vb))*vi)/\Vm TT w 1950000 (11*ka+11*kb+3*kc+5*ki+18) (11*ka+11*kb+3*kc+5*ki+18) U1 B1 r l (((va*vi)*vc)-((((-vb)*(-vb)-va*va)*vi)*(((va*vi)*vc))-(((-vb)*va+va*(-vb))*vi)*(-((vb*vi)*vc)))) (((vb*vi)*vc)-((((-vb)*(-vb)-va*va)*vi)*(-((vb*vi)*vc))+(((-vb)*va+va*(-vb))*vi)*(((va*vi)*vc))))/\CF 52 [.agg [.sl (.sl AA) AL,.sl AA AK,.sl (.sl AA) AI,.sl AA AJ,.sl (.sl AA) AQ,.sl AA AO]] (.agg [.sl (.sl AA) U0,.sl AA B0,.sl (.sl AA) q,.sl AA k,.sl (.sl AA) U1,.sl AA B1,.sl (.sl AA) r,.sl AA l,.bool true]):=by
 have a:Vm _ w 1950000 (ka+kb) (ka+kb) AL AK AI AJ _ _:=⟨ha.mono (by omega),hb.mono (by omega)⟩;obtain⟨CD,Bq,G,s⟩:=PC F a (by omega);obtain⟨a2,P,a5,Q,H,t⟩:=MY F a G hi hn O (by omega);obtain⟨a6,R,a7,S,d,u⟩:=M7 F H hc (by omega) (by omega) (by omega);obtain⟨T,b,v⟩:=Kp F a (by omega) (by omega);obtain⟨a8,U,I,x⟩:=PC F b (by omega);have J:=I.cast (y:=va*va+vb*vb) (by grind);obtain⟨aa,V,ab,W,K,z⟩:=PB F b b (by omega);obtain⟨m,g,n,h,f,A⟩:=MY F K J hi hn O (by omega);obtain⟨ad,X,ae,Y,L,B⟩:=MW F d (by omega);obtain⟨af,Z,ag,a1,M,C⟩:=PB F f L (by omega);obtain⟨o,i,p,j,N,D⟩:=PD F d M (by omega);refine⟨m,g,n,h,o,i,p,j,f.mono (by omega) (by omega),N.mono (by omega) (by omega),?_⟩
 refine BP Tryz.func52 (by kernel_rfl) rfl fun E c=>?_
 conv=>cbv
 refine cL c s ⟨t4,trivial⟩ ?_;try conv=>cbv
 refine cL c t ⟨t4,t2,trivial⟩ ?_;try conv=>cbv
 refine cL c u ⟨t4,t2,trivial⟩ ?_;try conv=>cbv
 refine⟨fun _=>Aq (by kernel_rfl),?_⟩;refine cL c v ⟨t4,trivial⟩ ?_;try conv=>cbv
 refine cL c z ⟨t4,t4,trivial⟩ ?_;try conv=>cbv
 refine cL c x ⟨t4,trivial⟩ ?_;try conv=>cbv
 refine cL c A ⟨t4,t2,trivial⟩ ?_;try conv=>cbv
 refine⟨fun _=>Aq (by kernel_rfl),?_⟩;refine cL c B ⟨t4,trivial⟩ ?_;try conv=>cbv
 refine cL c C ⟨t4,t4,trivial⟩ ?_;try conv=>cbv
 refine cL c D ⟨t4,t4,trivial⟩ ?_;try conv=>cbv
 refine cL c Uq ⟨t4,t4,rfl,trivial⟩ ?_;try conv=>cbv
 refine⟨fun _=>Aq (by kernel_rfl),?_⟩;exact fA ⟨⟨rfl,rfl,rfl,rfl,rfl,rfl,rfl,rfl,rfl,rfl,trivial⟩,trivial⟩ rfl (by simp)
theorem Oc (F:Fd TT w) (hu:Vm TT w 1950000 ku ku AL AK AI AJ xu yu) (ht:Vm TT w 1950000 kt kt AQ AO Aa AZ xt yt) (i:Vm TT w 1950000 kv kv Ai Ah Ak Aj xv yv) (h:Vm TT w 1950000 ks ks CD Bq BA Ay xs ys) (a:xu*xu+yu*yu=Re.ofRat ((1:Int):Rat)) (c:xu=xv) (d:yu=yv) (h3:xt=xs) (f:yt=ys) (j:2*ks+2*kt+8*ku+2*kv+449<=80000):CF 48 [.agg [.sl (.sl AA) AL,.sl AA AK,.sl (.sl AA) AI,.sl AA AJ,.sl (.sl AA) AQ,.sl AA AO,.sl (.sl AA) Aa,.sl AA AZ,.bool mr],.one (.int .i64 0),.agg [.sl (.sl AA) Ai,.sl AA Ah,.sl (.sl AA) Ak,.sl AA Aj,.sl (.sl AA) CD,.sl AA Bq,.sl (.sl AA) BA,.sl AA Ay,.bool mr]] (.one (.bool true)):=by
 refine BP Tryz.func48 (by kernel_rfl) rfl fun E b=>?_
 conv=>cbv
 intro k g;cases g.trans (show _=true by decide);conv=>cbv
 refine cL b (UpS F hu ht (e:=true) ⟨fun _=>a,fun _=>rfl⟩ (by omega)) ⟨⟨rfl,rfl,rfl,rfl,rfl,rfl,rfl,rfl,rfl,trivial⟩,trivial⟩ ?_;try conv=>cbv
 refine cL b (dS F hu ht i h c d h3 f (by omega)) ⟨⟨rfl,rfl,rfl,rfl,rfl,rfl,rfl,rfl,rfl,trivial⟩,⟨rfl,rfl,rfl,rfl,rfl,rfl,rfl,rfl,rfl,trivial⟩,trivial⟩ ?_;try conv=>cbv
 exact fA ⟨t2,trivial⟩ rfl (by simp)
end Go.Abs
