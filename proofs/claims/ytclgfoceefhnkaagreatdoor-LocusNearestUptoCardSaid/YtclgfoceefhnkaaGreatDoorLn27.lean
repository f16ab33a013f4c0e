/- Part 28 of a proof. Conditions: each theorem's own. -/
import Derived.Test.YtclgfoceefhnkaaGreatDoorLn26
set_option linter.all false
set_option maxHeartbeats 80000000
set_option maxRecDepth 20000
open Go.Proofs
namespace Go.Abs
section
open Go.RowKit
variable {A1 A2 A3 A4 A5 Bc Be Bf B5 CI:LR} {M R b c d j k k' ka kb kp kq kt l l' p q:Nat} {T1 T2 T3 T4 T5 Bh Bi Bj B6 CJ:List LR} {TT:List (List Rat)->Prop} {t vt x1 x2 xa xb xp xq y1 y2 ya yb yp yq:Re} {w:List (List Rat)}
theorem ZV (F:Fl TT w) {p:Rat} (a:Cp p):∃A,A=em [] (Re.ofRat p)/\Nm TT w 2100 1 [] A (Re.ofRat p):=⟨_,rfl,GC F (by decide) (FP a)⟩
theorem UX (F:Fm TT w R b c M q p) (g:Vm TT w b k k' T1 A1 T2 A2 x1 y1) (h:k+c+1<=M:=by omega) (a:k'+c+1<=M:=by omega):CF 66 [.agg (AH T1 A1 T2 A2)] (.one (.bool true)):=by
 refine AG Tryz.func66 fun E f=>?_
 refine AB f (Yq F g.x h) ?_;refine AB f (Yq F g.y a) ?_;exact AE ⟨t2,trivial⟩
theorem nA {m m':Nat} (F:Fm TT w R b c M q p) {α β γ x y:Re} (s:Ff TT w b k l T1 A1 T2 A2 T3 A3 α β γ) (ha:Vm TT w b m m' T4 A4 T5 A5 x y) (h:¬(α=0/\β=0)) (o:q*(2*k+5)+p<=d) (r:d+c+1<=M) (h3:2*k+l+m+m'+d+c+12<=M):∃T A f a,Vm TT w b (k+l+2*m+m'+d+11) (2*k+l+m+2*m'+d+10) T A f a (x-HJ α β γ x y*Re.ofRat (((2:Int):Rat))*α) (y-HJ α β γ x y*Re.ofRat (((2:Int):Rat))*β)/\CF 57 [.agg (CQ T1 A1 T2 A2 T3 A3),.agg (AH T4 A4 T5 A5)] (.AI [(true,(AH T A f a)),(false,[.int .i64 0])]):=by
 obtain⟨T7,A7,T8,A8,i,g⟩:=ZY F s ha h o r (t:=2) (by decide) (by decide +kernel) h3;refine⟨T7,A7,T8,A8,i,?_⟩;refine AG Tryz.func57 fun E n=>?_
 refine AB n g ?_;exact AE ⟨⟨rfl,rfl,rfl,rfl,rfl,trivial⟩,t2,trivial⟩
theorem mr (F:Fm TT w R b c M q p) (g:Vm TT w b k k' T1 A1 T2 A2 x1 y1) (i:Vm TT w b l l' T3 A3 T4 A4 x2 y2) (hk:2*k+4*c+3<=M) (an:2*k'+4*c+3<=M) (hl:2*l+4*c+3<=M) (ao:2*l'+4*c+3<=M) (h0:¬(x1=x2/\y1=y2)) (hd:q*(l+k+3)+p<=d) (al:q*(l'+k'+3)+p<=d) (hi:d+c+1<=M) (h1:2*k+2*k'+2*l+2*l'+c+12<=M):∃T A T' A' J m,Ff TT w b (l'+k'+d+4) (2*k+2*k'+2*l+2*l'+d+8) T A T' A' J m (un (Re.ofRat ((2:Int):Rat)*(x2-x1))) (Re.ofRat ((2:Int):Rat)*(y2-y1)*BU (fs (Re.ofRat ((2:Int):Rat)*(x2-x1)) (Re.ofRat ((2:Int):Rat)*(y2-y1)))) ((x2*x2+y2*y2-(x1*x1+y1*y1))*BU (fs (Re.ofRat ((2:Int):Rat)*(x2-x1)) (Re.ofRat ((2:Int):Rat)*(y2-y1))))/\CF 117 [.agg (AH T1 A1 T2 A2),.agg (AH T3 A3 T4 A4)] (.AI [(true,(CQ T A T' A' J m)),(false,[.int .i64 0])]):=by
 obtain⟨A5,Z⟩:=C8 (em [] (Re.ofRat ((2:Int):Rat)));have h5:Nm TT w b 1 [] A5 (Re.ofRat ((2:Int):Rat)):=Z ▸ GC F (by omega) (FP (by decide +kernel) F.hb);have a1:Re.ofRat ((2:Int):Rat)≠0:=fun e=>absurd (Re.Ib.1 (show Re.ofRat ((2:Int):Rat)=Re.ofRat 0 from e)) (by decide)
 obtain⟨T6,A6,h6,c6⟩:=DY F i.x i.x;obtain⟨T7,A7,h7,c7⟩:=DY F i.y i.y;obtain⟨T8,A8,h8,c8⟩:=Hh F h6 h7;obtain⟨T9,A9,h9,c9⟩:=DY F g.x g.x;obtain⟨K,n,ae,a2⟩:=DY F g.y g.y;obtain⟨L,o,af,a5⟩:=Hh F h9 ae;obtain⟨N,s,ag,a6⟩:=GR F h8 af;obtain⟨O,u,ah,a7⟩:=GR F i.x g.x;obtain⟨Q,B,ai,a8⟩:=DY F h5 ah;obtain⟨S,C,aj,aa⟩:=GR F i.y g.y;obtain⟨U,D,ak,ab⟩:=DY F h5 aj;obtain⟨W,G,X,H,Y,I,f,ad⟩:=WR F (ai.mono (by omega:_<=l+k+3)) (ak.mono (by omega:_<=l'+k'+3)) ag hd al hi (by omega) (by omega) (by omega) (fun h=>h0 ⟨Classical.byContradiction fun h2=>J8 a1 (fun e=>h2 (by grind)) h.1,Classical.byContradiction fun h2=>J8 a1 (fun e=>h2 (by grind)) h.2⟩)
 refine⟨W,G,X,H,Y,I,⟨f.x,f.y.mono (by omega),f.z.mono (by omega)⟩,?_⟩;refine AG Tryz.func117 fun E a=>?_
 refine AB (r:= .one (.bool false)) a (FK F g i hk an hl ao (e:=false) ⟨fun h=>(by cases h),fun h=>absurd h h0⟩) ?_;refine AB a (Gq (by decide) Z) ?_;refine .inr (.inr (.inr (.inl ⟨14,.var 1 [.int .i64 0],[.one (.AR 0 0 0),.agg [.sl (.sl AA) T3,.sl AA A3],.agg [.sl (.sl AA) T3,.sl AA A3]],.agg [.sl (.sl AA) T6,.sl AA A6],fun _=>⟨rfl,⟨⟨⟨rfl,rfl⟩,rfl⟩,t2,t2,trivial⟩⟩,fun _=>CW a (c6),?_⟩)));try conv=>cbv
 refine .inr (.inr (.inr (.inl ⟨14,.var 1 [.int .i64 0],[.one (.AR 0 0 0),.agg [.sl (.sl AA) T4,.sl AA A4],.agg [.sl (.sl AA) T4,.sl AA A4]],.agg [.sl (.sl AA) T7,.sl AA A7],fun _=>⟨rfl,⟨⟨⟨rfl,rfl⟩,rfl⟩,t2,t2,trivial⟩⟩,fun _=>CW a (c7),?_⟩)));try conv=>cbv
 refine .inr (.inr (.inr (.inl ⟨14,.var 1 [.int .i64 0],[.one (.AR 0 0 0),.agg [.sl (.sl AA) T6,.sl AA A6],.agg [.sl (.sl AA) T7,.sl AA A7]],.agg [.sl (.sl AA) T8,.sl AA A8],fun _=>⟨rfl,⟨⟨⟨rfl,rfl⟩,rfl⟩,t2,t2,trivial⟩⟩,fun _=>CW a (c8),?_⟩)));try conv=>cbv
 refine .inr (.inr (.inr (.inl ⟨14,.var 1 [.int .i64 0],[.one (.AR 0 0 0),.agg [.sl (.sl AA) T1,.sl AA A1],.agg [.sl (.sl AA) T1,.sl AA A1]],.agg [.sl (.sl AA) T9,.sl AA A9],fun _=>⟨rfl,⟨⟨⟨rfl,rfl⟩,rfl⟩,t2,t2,trivial⟩⟩,fun _=>CW a (c9),?_⟩)));try conv=>cbv
 refine .inr (.inr (.inr (.inl ⟨14,.var 1 [.int .i64 0],[.one (.AR 0 0 0),.agg [.sl (.sl AA) T2,.sl AA A2],.agg [.sl (.sl AA) T2,.sl AA A2]],.agg [.sl (.sl AA) K,.sl AA n],fun _=>⟨rfl,⟨⟨⟨rfl,rfl⟩,rfl⟩,t2,t2,trivial⟩⟩,fun _=>CW a (a2),?_⟩)));try conv=>cbv
 refine .inr (.inr (.inr (.inl ⟨14,.var 1 [.int .i64 0],[.one (.AR 0 0 0),.agg [.sl (.sl AA) T9,.sl AA A9],.agg [.sl (.sl AA) K,.sl AA n]],.agg [.sl (.sl AA) L,.sl AA o],fun _=>⟨rfl,⟨⟨⟨rfl,rfl⟩,rfl⟩,t2,t2,trivial⟩⟩,fun _=>CW a (a5),?_⟩)));try conv=>cbv
 refine .inr (.inr (.inr (.inl ⟨14,.var 1 [.int .i64 0],[.one (.AR 0 0 0),.agg [.sl (.sl AA) T8,.sl AA A8],.agg [.sl (.sl AA) L,.sl AA o]],.agg [.sl (.sl AA) N,.sl AA s],fun _=>⟨rfl,⟨⟨⟨rfl,rfl⟩,rfl⟩,t2,t2,trivial⟩⟩,fun _=>CW a (a6),?_⟩)));try conv=>cbv
 refine Bo ?_;refine .inr (.inr (.inr (.inl ⟨14,.var 1 [.int .i64 0],[.one (.AR 0 0 0),.agg [.sl (.sl AA) T3,.sl AA A3],.agg [.sl (.sl AA) T1,.sl AA A1]],.agg [.sl (.sl AA) O,.sl AA u],fun _=>⟨rfl,⟨⟨⟨rfl,rfl⟩,rfl⟩,t2,t2,trivial⟩⟩,fun _=>CW a (a7),?_⟩)));try conv=>cbv
 refine .inr (.inr (.inr (.inl ⟨14,.var 1 [.int .i64 0],[.one (.AR 0 0 0),.agg [.sl (.sl AA) (([]:List LR)),.sl AA A5],.agg [.sl (.sl AA) O,.sl AA u]],.agg [.sl (.sl AA) Q,.sl AA B],fun _=>⟨rfl,⟨⟨⟨rfl,rfl⟩,rfl⟩,t2,t2,trivial⟩⟩,fun _=>CW a (a8),?_⟩)));try conv=>cbv
 refine .inr (.inr (.inr (.inl ⟨14,.var 1 [.int .i64 0],[.one (.AR 0 0 0),.agg [.sl (.sl AA) T4,.sl AA A4],.agg [.sl (.sl AA) T2,.sl AA A2]],.agg [.sl (.sl AA) S,.sl AA C],fun _=>⟨rfl,⟨⟨⟨rfl,rfl⟩,rfl⟩,t2,t2,trivial⟩⟩,fun _=>CW a (aa),?_⟩)));try conv=>cbv
 refine .inr (.inr (.inr (.inl ⟨14,.var 1 [.int .i64 0],[.one (.AR 0 0 0),.agg [.sl (.sl AA) (([]:List LR)),.sl AA A5],.agg [.sl (.sl AA) S,.sl AA C]],.agg [.sl (.sl AA) U,.sl AA D],fun _=>⟨rfl,⟨⟨⟨rfl,rfl⟩,rfl⟩,t2,t2,trivial⟩⟩,fun _=>CW a (ab),?_⟩)));try conv=>cbv
 refine .inr (.inr (.inr (.inl ⟨14,.var 1 [.int .i64 0],[.one (.AR 0 0 0),.agg [.sl (.sl AA) Q,.sl AA B],.agg [.sl (.sl AA) U,.sl AA D],.agg [.sl (.sl AA) N,.sl AA s]],.AI [(true,[.sl (.sl AA) W,.sl AA G,.sl (.sl AA) X,.sl AA H,.sl (.sl AA) Y,.sl AA I]),(false,[.int .i64 0])],fun _=>⟨rfl,⟨⟨⟨rfl,rfl⟩,rfl⟩,t2,t2,t2,trivial⟩⟩,fun _=>CW a (ad),?_⟩)));try conv=>cbv
 refine Bo ?_;exact AE ⟨⟨rfl,rfl,rfl,rfl,rfl,rfl,rfl,trivial⟩,t2,trivial⟩
theorem mu (F:Fm TT w R b c M q p) (n:Vm TT w b k k' T1 A1 T2 A2 x1 y1) (o:Vm TT w b l l' T3 A3 T4 A4 x2 y2) (i:2*k+4*c+3<=M) (a:2*k'+4*c+3<=M) (m:2*l+4*c+3<=M) (f:2*l'+4*c+3<=M) (g:x1=x2/\y1=y2):CF 117 [.agg (AH T1 A1 T2 A2),.agg (AH T3 A3 T4 A4)] (.AI [(true,(CQ [] [] [] [] [] [])),(false,[.int .i64 11])]):=by
 refine AG Tryz.func117 fun E h=>?_
 refine AB h (FK F n o i a m f (e:=true) ⟨fun _=>g,fun _=>rfl⟩) ?_;exact AE ⟨⟨rfl,AL,AL,AL,AL,AL,AL,trivial⟩,t2,trivial⟩
theorem nJ (F:Fm TT w R b c M q p) (Y:Vm TT w b k k' T1 A1 T2 A2 x1 y1) (m:Vm TT w b l l' T3 A3 T4 A4 x2 y2) (ht:Nm TT w b j T5 A5 t) (I:¬(x2=0/\y2=0)) (J:q*(l+l'+j+2)+p<=d) (X:d+c+1<=M) (Z:k+k'+2*l+2*l'+2*j+c+8<=M):∃T A H G i g,Ff TT w b (l+l'+j+d+3) (k+k'+2*l+2*l'+2*j+d+8) T A H G i g (un (-(y2+t*x2))) ((x2-t*y2)*BU (fs (-(y2+t*x2)) (x2-t*y2))) ((-(y2+t*x2)*x1+(x2-t*y2)*y1)*BU (fs (-(y2+t*x2)) (x2-t*y2)))/\CF 212 [.agg (AH T1 A1 T2 A2),.agg (AH T3 A3 T4 A4),.agg (AJ T5 A5)] (.AI [(true,(CQ T A H G i g)),(false,[.int .i64 0])]):=by
 obtain⟨T6,A6,Q,K⟩:=DY F ht m.y;obtain⟨T7,A7,S,L⟩:=GR F m.x Q;obtain⟨T8,A8,U,N⟩:=DY F ht m.x;obtain⟨T9,A9,W,O⟩:=Hh F m.y U;have hu:Vm TT w b (l+l'+j+2) (l+l'+j+2) T7 A7 T9 A9 (x2-t*y2) (y2+t*x2):=⟨S.mono (by omega),W.mono (by omega)⟩;obtain⟨u,n,B,o,C,s,a,D⟩:=NK F Y hu (by omega) (by omega) (fun h=>bQ (t:=t) I ⟨by grind,by grind⟩) J J X;refine⟨u,n,B,o,C,s,⟨a.x,a.y.mono (by omega),a.z.mono (by omega)⟩,?_⟩;refine AG Tryz.func212 fun E f=>?_
 refine AB (r:= .one (.bool false)) f (QR F m (by omega) (by omega) (e:=false) ⟨fun h=>(by cases h),fun h=>absurd h I⟩) ?_;refine .inr (.inr (.inr (.inl ⟨15,.var 1 [.int .i64 0],[.one (.AR 0 0 0),.agg [.sl (.sl AA) T5,.sl AA A5],.agg [.sl (.sl AA) T4,.sl AA A4]],.agg [.sl (.sl AA) T6,.sl AA A6],fun _=>⟨rfl,⟨⟨⟨rfl,rfl⟩,rfl⟩,t2,t2,trivial⟩⟩,fun _=>CW f (K),?_⟩)));try conv=>cbv
 refine .inr (.inr (.inr (.inl ⟨15,.var 1 [.int .i64 0],[.one (.AR 0 0 0),.agg [.sl (.sl AA) T3,.sl AA A3],.agg [.sl (.sl AA) T6,.sl AA A6]],.agg [.sl (.sl AA) T7,.sl AA A7],fun _=>⟨rfl,⟨⟨⟨rfl,rfl⟩,rfl⟩,t2,t2,trivial⟩⟩,fun _=>CW f (L),?_⟩)));try conv=>cbv
 refine .inr (.inr (.inr (.inl ⟨15,.var 1 [.int .i64 0],[.one (.AR 0 0 0),.agg [.sl (.sl AA) T5,.sl AA A5],.agg [.sl (.sl AA) T3,.sl AA A3]],.agg [.sl (.sl AA) T8,.sl AA A8],fun _=>⟨rfl,⟨⟨⟨rfl,rfl⟩,rfl⟩,t2,t2,trivial⟩⟩,fun _=>CW f (N),?_⟩)));try conv=>cbv
 refine .inr (.inr (.inr (.inl ⟨15,.var 1 [.int .i64 0],[.one (.AR 0 0 0),.agg [.sl (.sl AA) T4,.sl AA A4],.agg [.sl (.sl AA) T8,.sl AA A8]],.agg [.sl (.sl AA) T9,.sl AA A9],fun _=>⟨rfl,⟨⟨⟨rfl,rfl⟩,rfl⟩,t2,t2,trivial⟩⟩,fun _=>CW f (O),?_⟩)));try conv=>cbv
 refine .inr (.inr (.inr (.inl ⟨15,.var 1 [.int .i64 0],[.one (.AR 0 0 0),.agg [.sl (.sl AA) T7,.sl AA A7],.agg [.sl (.sl AA) T9,.sl AA A9]],.AI [(true,[.sl (.sl AA) T7,.sl AA A7,.sl (.sl AA) T9,.sl AA A9]),(false,[.int .i64 0])],fun _=>⟨rfl,⟨⟨⟨rfl,rfl⟩,rfl⟩,t2,t2,trivial⟩⟩,fun _=>CW f (OU),?_⟩)));try conv=>cbv
 refine Bo ?_;refine BH ?_;refine AB f D ?_;exact AE ⟨⟨rfl,rfl,rfl,rfl,rfl,rfl,rfl,trivial⟩,t2,trivial⟩
theorem nK (F:Fm TT w R b c M q p) (m:Vm TT w b k k' T1 A1 T2 A2 x1 y1) (i:Vm TT w b l l' T3 A3 T4 A4 x2 y2) (ht:Nm TT w b j T5 A5 t) (h:l+c+1<=M) (a:l'+c+1<=M) (f:x2=0/\y2=0):CF 212 [.agg (AH T1 A1 T2 A2),.agg (AH T3 A3 T4 A4),.agg (AJ T5 A5)] (.AI [(true,(CQ [] [] [] [] [] [])),(false,[.int .i64 6])]):=by
 refine AG Tryz.func212 fun E g=>?_
 refine AB g (QR F i h a (e:=true) ⟨fun _=>f,fun _=>rfl⟩) ?_;exact AE ⟨⟨rfl,AL,AL,AL,AL,AL,AL,trivial⟩,t2,trivial⟩
theorem na (F:Fl TT w) {va vb:Re} (ha:Nm TT w 2100 ka Bh Bc va) (hb:Nm TT w 2100 kb Bi Be vb) (n:vb≠0) (o:ka+23*kb+35<=43400000):∃h g,Nm TT w 2100 (ka+23*kb+15) h g (va*BU vb)/\Bv Tryz.prog 135 [.one (.AR 0 0 0),.agg (AJ Bh Bc),.agg (AJ Bi Be)] (.var 0 [.int .i64 0]) (.agg (AJ h g)):=by
 obtain⟨Bj,Bf,f,i,a⟩:=JI F ha hb (d:=23*kb+14) (by omega) n;refine⟨Bj,Bf,f.mono (by omega),?_⟩;refine CK Tryz.func135 fun E m=>?_
 conv=>cbv
 refine AB m a ?_;refine .inr (.inr (.inr (.inl ⟨0,.var 0 [.int .i64 0],[.one (.AR 0 0 0),.agg [.sl (.sl AA) Bj,.sl AA Bf],.one (.int .i64 0)],.agg [.sl (.sl AA) Bj,.sl AA Bf],fun _=>⟨rfl,⟨⟨⟨rfl,rfl⟩,rfl⟩,t2,rfl,trivial⟩⟩,fun _=>CW m (NP),?_⟩)));try conv=>cbv
 refine fun _=>⟨⟨⟨t3,trivial⟩,rfl,by simp⟩,rfl⟩
theorem Zj (F:Fl TT w) (ha:Vm TT w 2100 ka ka Bh Bc Bi Be xa ya) (hb:Vm TT w 2100 kb kb Bj Bf B6 B5 xb yb) (o:ka+kb+21<=43400000):∃m i f a,Vm TT w 2100 (ka+kb+1) (ka+kb+1) m i f a (xa+xb) (ya+yb)/\Bv Tryz.prog 132 [.one (.AR 0 0 0),.agg (AH Bh Bc Bi Be),.agg (AH Bj Bf B6 B5)] (.var 0 [.int .i64 0]) (.agg (AH m i f a)):=by
 obtain⟨CJ,CI,De,Dc,h,g⟩:=Nl F ha hb;refine⟨CJ,CI,De,Dc,h.mono (by omega) (by omega),?_⟩;refine CK Tryz.func132 fun E n=>?_
 conv=>cbv
 refine AB n g ?_;refine .inr (.inr (.inr (.inl ⟨0,.var 0 [.int .i64 0],[.one (.AR 0 0 0),.agg [.sl (.sl AA) CJ,.sl AA CI,.sl (.sl AA) De,.sl AA Dc],.one (.int .i64 0)],.agg [.sl (.sl AA) CJ,.sl AA CI,.sl (.sl AA) De,.sl AA Dc],fun _=>⟨rfl,⟨⟨⟨rfl,rfl⟩,rfl⟩,t4,rfl,trivial⟩⟩,fun _=>CW n (Lh),?_⟩)));try conv=>cbv
 refine fun _=>⟨⟨⟨⟨rfl,rfl,rfl,rfl,rfl,trivial⟩,trivial⟩,rfl,by simp⟩,rfl⟩
theorem Zi (F:Fl TT w) (ha:Vm TT w 2100 ka ka Bh Bc Bi Be xa ya) (hb:Vm TT w 2100 kb kb Bj Bf B6 B5 xb yb) (r:ka+kb+21<=43400000):∃n m f a,Vm TT w 2100 (ka+kb+1) (ka+kb+1) n m f a (xa-xb) (ya-yb)/\Bv Tryz.prog 130 [.one (.AR 0 0 0),.agg (AH Bh Bc Bi Be),.agg (AH Bj Bf B6 B5)] (.var 0 [.int .i64 0]) (.agg (AH n m f a)):=by
 obtain⟨CJ,CI,De,Dc,h,g⟩:=Ja F ha hb;have i:=h.cast (x':=xa-xb) (y':=ya-yb) (by grind) (by grind);refine⟨CJ,CI,De,Dc,i.mono (by omega) (by omega),?_⟩;refine CK Tryz.func130 fun E o=>?_
 conv=>cbv
 refine AB o g ?_;refine .inr (.inr (.inr (.inl ⟨0,.var 0 [.int .i64 0],[.one (.AR 0 0 0),.agg [.sl (.sl AA) CJ,.sl AA CI,.sl (.sl AA) De,.sl AA Dc],.one (.int .i64 0)],.agg [.sl (.sl AA) CJ,.sl AA CI,.sl (.sl AA) De,.sl AA Dc],fun _=>⟨rfl,⟨⟨⟨rfl,rfl⟩,rfl⟩,t4,rfl,trivial⟩⟩,fun _=>CW o (Lh),?_⟩)));try conv=>cbv
 refine fun _=>⟨⟨⟨⟨rfl,rfl,rfl,rfl,rfl,trivial⟩,trivial⟩,rfl,by simp⟩,rfl⟩
theorem Zk (F:Fl TT w) {vn:Re} {kn:Nat} (ha:Vm TT w 2100 ka ka Bh Bc Bi Be xa ya) (o:Nm TT w 2100 kn Bj Bf vn) (r:ka+kn+21<=43400000):∃m i f a,Vm TT w 2100 (ka+kn+1) (ka+kn+1) m i f a (xa*vn) (ya*vn)/\Bv Tryz.prog 133 [.one (.AR 0 0 0),.agg (AH Bh Bc Bi Be),.agg (AJ Bj Bf)] (.var 0 [.int .i64 0]) (.agg (AH m i f a)):=by
 obtain⟨B6,B5,CJ,CI,h,g⟩:=QO F ha o;refine⟨B6,B5,CJ,CI,h.mono (by omega) (by omega),?_⟩;refine CK Tryz.func133 fun E n=>?_
 conv=>cbv
 refine AB n g ?_;refine .inr (.inr (.inr (.inl ⟨0,.var 0 [.int .i64 0],[.one (.AR 0 0 0),.agg [.sl (.sl AA) B6,.sl AA B5,.sl (.sl AA) CJ,.sl AA CI],.one (.int .i64 0)],.agg [.sl (.sl AA) B6,.sl AA B5,.sl (.sl AA) CJ,.sl AA CI],fun _=>⟨rfl,⟨⟨⟨rfl,rfl⟩,rfl⟩,t4,rfl,trivial⟩⟩,fun _=>CW n (Lh),?_⟩)));try conv=>cbv
 refine fun _=>⟨⟨⟨⟨rfl,rfl,rfl,rfl,rfl,trivial⟩,trivial⟩,rfl,by simp⟩,rfl⟩
theorem nf (F:Fl TT w) (ha:Vm TT w 2100 ka ka Bh Bc Bi Be xa ya) (m:2*ka+22<=43400000):∃h g,Nm TT w 2100 (4*ka+3) h g (xa*xa+ya*ya)/\Bv Tryz.prog 136 [.one (.AR 0 0 0),.agg (AH Bh Bc Bi Be)] (.var 0 [.int .i64 0]) (.agg (AJ h g)):=by
 obtain⟨Bj,Bf,f,a⟩:=QP F ha;refine⟨Bj,Bf,f.mono (by omega),?_⟩;refine CK Tryz.func136 fun E i=>?_
 conv=>cbv
 refine AB i a ?_;refine .inr (.inr (.inr (.inl ⟨0,.var 0 [.int .i64 0],[.one (.AR 0 0 0),.agg [.sl (.sl AA) Bj,.sl AA Bf],.one (.int .i64 0)],.agg [.sl (.sl AA) Bj,.sl AA Bf],fun _=>⟨rfl,⟨⟨⟨rfl,rfl⟩,rfl⟩,t2,rfl,trivial⟩⟩,fun _=>CW i (NP),?_⟩)));try conv=>cbv
 refine fun _=>⟨⟨⟨t3,trivial⟩,rfl,by simp⟩,rfl⟩
theorem nd (F:Fl TT w) (ha:Vm TT w 2100 ka ka Bh Bc Bi Be xa ya) (hb:Vm TT w 2100 kb kb Bj Bf B6 B5 xb yb) (A:2*ka+2*kb+24<=43400000):∃s r,Nm TT w 2100 (4*ka+4*kb+7) s r ((xa-xb)*(xa-xb)+(ya-yb)*(ya-yb))/\Bv Tryz.prog 211 [.one (.AR 0 0 0),.agg (AH Bh Bc Bi Be),.agg (AH Bj Bf B6 B5)] (.var 0 [.int .i64 0]) (.agg (AJ s r)):=by
 obtain⟨De,Dc,g,a,n,i⟩:=Zi F ha hb (by omega);obtain⟨h,f,o,m⟩:=nf F n (by omega);refine⟨h,f,o.mono (by omega),?_⟩;refine CK Tryz.func211 fun E u=>?_
 conv=>cbv
 refine .inr (.inr (.inr (.inl ⟨0,.var 0 [.int .i64 0],[.one (.AR 0 0 0),.agg [.sl (.sl AA) Bh,.sl AA Bc,.sl (.sl AA) Bi,.sl AA Be],.agg [.sl (.sl AA) Bj,.sl AA Bf,.sl (.sl AA) B6,.sl AA B5]],.agg [.sl (.sl AA) De,.sl AA Dc,.sl (.sl AA) g,.sl AA a],fun _=>⟨rfl,⟨⟨⟨rfl,rfl⟩,rfl⟩,t4,t4,trivial⟩⟩,fun _=>CW u (i),?_⟩)));try conv=>cbv
 refine .inr (.inr (.inr (.inl ⟨0,.var 0 [.int .i64 0],[.one (.AR 0 0 0),.agg [.sl (.sl AA) De,.sl AA Dc,.sl (.sl AA) g,.sl AA a]],.agg [.sl (.sl AA) h,.sl AA f],fun _=>⟨rfl,⟨⟨⟨rfl,rfl⟩,rfl⟩,t4,trivial⟩⟩,fun _=>CW u (m),?_⟩)));try conv=>cbv
 refine fun _=>⟨⟨⟨t3,trivial⟩,rfl,by simp⟩,rfl⟩
theorem my (F:Fl TT w) {De:List LR} {Dc:LR} {vi:Re} {ki:Nat} (hp:Vm TT w 2100 kp kp Bh Bc Bi Be xp yp) (hq:Vm TT w 2100 kq kq Bj Bf B6 B5 xq yq) (ht:Nm TT w 2100 kt CJ CI vt) (hi:Nm TT w 2100 ki De Dc vi) (h0:¬(xp=xq/\yp=yq)) (az:vt≠0) (aH:vt*vi=1) (hM:2*ki+8*kp+4*kq+23*kt+83<=43400000):∃U0 B0 aa a8 U1 B1,Vm TT w 2100 (ki+3*kp+2*kq+9) (ki+3*kp+2*kq+9) U0 B0 aa a8 (iX xp yp xq yq vt) (iY xp yp xq yq vt)/\Nm TT w 2100 (4*ki+16*kp+8*kq+43) U1 B1 (((iX xp yp xq yq vt)-xp)*((iX xp yp xq yq vt)-xp)+((iY xp yp xq yq vt)-yp)*((iY xp yp xq yq vt)-yp))/\CF 116 [.agg (AH Bh Bc Bi Be),.agg (AH Bj Bf B6 B5),.agg (AJ CJ CI)] (.AI [(true,(CQ U0 B0 aa a8 U1 B1)),(false,[.int .i64 0])]):=by
 obtain⟨aB,a1,aI,ak⟩:=GH F ht;have a2:aB≠0:=fun z=>az (Gh.1 (a1.symm.trans z))
 obtain⟨K,A,L,B,al,ab⟩:=Zi F hq hp (by omega);obtain⟨aC,aE,aD,aF,aG⟩:=CA (1/2:Rat);have Z:(1/2:Rat)=Rat.divInt 1 2:=by decide +kernel
 obtain⟨a5,X,an⟩:=ZV F (p:=(1/2:Rat)) (by decide +kernel);obtain⟨s,o,u,C,U,ad⟩:=Zk F al an (by omega);obtain⟨N,D,O,G,ao,ae⟩:=Zj F hp U (by omega);obtain⟨a6,aq,af⟩:=Nn F U;obtain⟨a7,Y,ar⟩:=ZV F (p:=((1:Int):Rat)) (by decide +kernel);obtain⟨Q,H,au,ag⟩:=na F ar ht az (by omega);have av:=au.shrink hi (by rw[R8 aH,show Re.ofRat ((1:Int):Rat)=1 from rfl];grind);obtain⟨S,I,T,J,aw,ah⟩:=Zk F aq av (by omega);obtain⟨g,a,h,f,ax,ai⟩:=Zj F ao aw (by omega);have W:=ax.cast (x':=iX xp yp xq yq vt) (y':=iY xp yp xq yq vt) (rfl) (rfl);obtain⟨m,i,ay,aj⟩:=nd F W hp (by omega);refine⟨g,a,h,f,m,i,W.mono (by omega) (by omega),ay.mono (by omega),?_⟩;refine AG Tryz.func116 fun E n=>?_
 refine AB (r:= .one (.bool false)) n (FK F hp hq (by omega) (by omega) (by omega) (by omega) (e:=false) ⟨fun z=>(by cases z),fun z=>absurd z h0⟩) ?_;refine AB n ak ?_;refine BO (fun aA=>?_) fun aA=>?_
 ·exact absurd aA a2
 refine .inr (.inr (.inr (.inl ⟨20,.var 1 [.int .i64 0],[.one (.AR 0 0 0),.agg [.sl (.sl AA) Bj,.sl AA Bf,.sl (.sl AA) B6,.sl AA B5],.agg [.sl (.sl AA) Bh,.sl AA Bc,.sl (.sl AA) Bi,.sl AA Be]],.agg [.sl (.sl AA) K,.sl AA A,.sl (.sl AA) L,.sl AA B],fun _=>⟨rfl,⟨⟨⟨rfl,rfl⟩,rfl⟩,t4,t4,trivial⟩⟩,fun _=>CW n (ab),?_⟩)));try conv=>cbv
 refine AB n (N5 (by decide) (by decide) (by decide) Z X) ?_;refine .inr (.inr (.inr (.inl ⟨20,.var 1 [.int .i64 0],[.one (.AR 0 0 0),.agg [.sl (.sl AA) K,.sl AA A,.sl (.sl AA) L,.sl AA B],.agg [.sl (.sl AA) (([]:List LR)),.sl AA a5]],.agg [.sl (.sl AA) s,.sl AA o,.sl (.sl AA) u,.sl AA C],fun _=>⟨rfl,⟨⟨⟨rfl,rfl⟩,rfl⟩,t4,t2,trivial⟩⟩,fun _=>CW n (ad),?_⟩)));try conv=>cbv
 refine .inr (.inr (.inr (.inl ⟨20,.var 1 [.int .i64 0],[.one (.AR 0 0 0),.agg [.sl (.sl AA) Bh,.sl AA Bc,.sl (.sl AA) Bi,.sl AA Be],.agg [.sl (.sl AA) s,.sl AA o,.sl (.sl AA) u,.sl AA C]],.agg [.sl (.sl AA) N,.sl AA D,.sl (.sl AA) O,.sl AA G],fun _=>⟨rfl,⟨⟨⟨rfl,rfl⟩,rfl⟩,t4,t4,trivial⟩⟩,fun _=>CW n (ae),?_⟩)));try conv=>cbv
 refine AB n af ?_;refine AB n (Gq (by decide) Y) ?_;refine .inr (.inr (.inr (.inl ⟨20,.var 1 [.int .i64 0],[.one (.AR 0 0 0),.agg [.sl (.sl AA) (([]:List LR)),.sl AA a7],.agg [.sl (.sl AA) CJ,.sl AA CI]],.agg [.sl (.sl AA) Q,.sl AA H],fun _=>⟨rfl,⟨⟨⟨rfl,rfl⟩,rfl⟩,t2,t2,trivial⟩⟩,fun _=>CW n (ag),?_⟩)));try conv=>cbv
 refine .inr (.inr (.inr (.inl ⟨20,.var 1 [.int .i64 0],[.one (.AR 0 0 0),.agg [.sl (.sl AA) u,.sl AA a6,.sl (.sl AA) s,.sl AA o],.agg [.sl (.sl AA) Q,.sl AA H]],.agg [.sl (.sl AA) S,.sl AA I,.sl (.sl AA) T,.sl AA J],fun _=>⟨rfl,⟨⟨⟨rfl,rfl⟩,rfl⟩,t4,t2,trivial⟩⟩,fun _=>CW n (ah),?_⟩)));try conv=>cbv
 refine .inr (.inr (.inr (.inl ⟨20,.var 1 [.int .i64 0],[.one (.AR 0 0 0),.agg [.sl (.sl AA) N,.sl AA D,.sl (.sl AA) O,.sl AA G],.agg [.sl (.sl AA) S,.sl AA I,.sl (.sl AA) T,.sl AA J]],.agg [.sl (.sl AA) g,.sl AA a,.sl (.sl AA) h,.sl AA f],fun _=>⟨rfl,⟨⟨⟨rfl,rfl⟩,rfl⟩,t4,t4,trivial⟩⟩,fun _=>CW n (ai),?_⟩)));try conv=>cbv
 refine Bo ?_;refine .inr (.inr (.inr (.inl ⟨20,.var 1 [.int .i64 0],[.one (.AR 0 0 0),.agg [.sl (.sl AA) g,.sl AA a,.sl (.sl AA) h,.sl AA f],.agg [.sl (.sl AA) Bh,.sl AA Bc,.sl (.sl AA) Bi,.sl AA Be]],.agg [.sl (.sl AA) m,.sl AA i],fun _=>⟨rfl,⟨⟨⟨rfl,rfl⟩,rfl⟩,t4,t4,trivial⟩⟩,fun _=>CW n (aj),?_⟩)));try conv=>cbv
 refine .inr (.inr (.inr (.inl ⟨20,.var 1 [.int .i64 0],[.one (.AR 0 0 0),.agg [.sl (.sl AA) g,.sl AA a,.sl (.sl AA) h,.sl AA f],.agg [.sl (.sl AA) m,.sl AA i]],.AI [(true,[.sl (.sl AA) g,.sl AA a,.sl (.sl AA) h,.sl AA f,.sl (.sl AA) m,.sl AA i]),(false,[.int .i64 0])],fun _=>⟨rfl,⟨⟨⟨rfl,rfl⟩,rfl⟩,t4,t2,trivial⟩⟩,fun _=>CW n (ng),?_⟩)));try conv=>cbv
 refine Bo ?_;exact AE ⟨⟨rfl,rfl,rfl,rfl,rfl,rfl,rfl,trivial⟩,t2,trivial⟩
theorem mz (F:Fl TT w) (g:Vm TT w 2100 kp kp Bh Bc Bi Be xp yp) (h:Vm TT w 2100 kq kq Bj Bf B6 B5 xq yq) (ht:Nm TT w 2100 kt CJ CI vt) (a:xp=xq/\yp=yq) (i:2*kp+2*kq+83<=43400000):CF 116 [.agg (AH Bh Bc Bi Be),.agg (AH Bj Bf B6 B5),.agg (AJ CJ CI)] (.AI [(true,(CQ [] [] [] [] [] [])),(false,[.int .i64 11])]):=by
 refine AG Tryz.func116 fun E f=>?_
 refine AB f (FK F g h (by omega) (by omega) (by omega) (by omega) (e:=true) ⟨fun _=>a,fun _=>rfl⟩) ?_;exact AE ⟨⟨rfl,AL,AL,AL,AL,AL,AL,trivial⟩,t2,trivial⟩
theorem m0 (F:Fl TT w) (o:Vm TT w 2100 kp kp Bh Bc Bi Be xp yp) (s:Vm TT w 2100 kq kq Bj Bf B6 B5 xq yq) (ht:Nm TT w 2100 kt CJ CI vt) (n:¬(xp=xq/\yp=yq)) (h:vt=0) (u:2*kp+2*kq+kt+83<=43400000):CF 116 [.agg (AH Bh Bc Bi Be),.agg (AH Bj Bf B6 B5),.agg (AJ CJ CI)] (.AI [(true,(CQ [] [] [] [] [] [])),(false,[.int .i64 6])]):=by
 obtain⟨g,a,i,f⟩:=GH F ht;obtain rfl:g=0:=a.trans (by rw[h];exact GK);refine AG Tryz.func116 fun E m=>?_
 refine AB (r:= .one (.bool false)) m (FK F o s (by omega) (by omega) (by omega) (by omega) (e:=false) ⟨fun z=>(by cases z),fun z=>absurd z n⟩) ?_;refine AB m f ?_;refine CU ?_;exact AE ⟨⟨rfl,AL,AL,AL,AL,AL,AL,trivial⟩,t2,trivial⟩
end
section
open Go.RowKit
end
section
open Go.RowKit
variable {A1 A2 Bc Be Bf B5 CI Av:LR} {T1 T2 Bh Bi Bj B6 CJ Tv:List LR} {TT DE:List (List Rat)->Prop} {ka kb kn ko ks:Nat} {v va vb vn vs xa xb xo ya yb yo:Re} {w w0:List (List Rat)}
theorem iy {s d:Re} (i:0<s) (g:0<d):0<s*BU d:=by
 have a:d*BU d=1:=Ga (by grind)
 have h:0<BU d:=by
  rcases Ew (BU d) with⟨b,_⟩ |⟨b,_⟩ |⟨b,_⟩
  ·have f:=Re.mul_pos g (show 0< -BU d by grind);rw[show d* -BU d= -(d*BU d) by grind,a] at f
   grind
  ·rw[b] at a;grind
  exact b
 exact Re.mul_pos i h
theorem Yg {b b' k l:Nat} {x:Re} (h:Nm TT w b k T1 A1 x) (f:Nm TT w b' l T2 A2 x):Nm TT w b' l T1 A1 x:=by
 obtain⟨u,a,m,i,n,_⟩:=h;obtain⟨_,_,_,_,_,g⟩:=f;exact⟨u,a,m,i,n,g⟩
theorem gl (F:Fd TT w) (g:Vm TT w 1950000 ko ko Bh Bc Bi Be xo yo) (i:Nm TT w 1950000 ks Bj Bf vs) (ha:Vm TT w 1950000 ka ka B6 B5 CJ CI xa ya) (a:xo=xa/\yo=ya) (h:2*ka+2*ko+443<=80000):CF 63 [.agg (CQ Bh Bc Bi Be Bj Bf),.agg (AH B6 B5 CJ CI)] (.AI [(true,(AH [] [] [] [])),(false,[.int .i64 11])]):=by
 refine AG Tryz.func63 fun E f=>?_
 refine AB f (bc F g ha (by omega) (by omega) (by omega) (by omega) (e:=true) ⟨fun _=>a,fun _=>rfl⟩) ?_;exact AE ⟨⟨rfl,AL,AL,AL,AL,trivial⟩,t2,trivial⟩
theorem nC (F:Fd TT w) (g:Vm TT w 1950000 ko ko Bh Bc Bi Be xo yo) (i:Nm TT w 1950000 ks Bj Bf vs) (ha:Vm TT w 1950000 ka ka B6 B5 CJ CI xa ya) (a:xo=xa/\yo=ya) (h:2*ka+2*ko+443<=80000):CF 65 [.agg (CQ Bh Bc Bi Be Bj Bf),.agg (AH B6 B5 CJ CI)] (.AI [(true,(AH [] [] [] [])),(false,[.int .i64 11])]):=by
 refine AG Tryz.func65 fun E f=>?_
 refine AB f (FK F g ha (by omega) (by omega) (by omega) (by omega) (e:=true) ⟨fun _=>a,fun _=>rfl⟩) ?_;exact AE ⟨⟨rfl,AL,AL,AL,AL,trivial⟩,t2,trivial⟩
theorem nk (h:CF 89 [.agg (AJ T1 A1)] (.AI [(true,(AJ T2 A2)),(false,[.int .i64 0])])):Bv Tryz.prog 134 [.one (.AR 0 0 0),.agg (AJ T1 A1)] (.var 0 [.int .i64 0]) (.agg (AJ T2 A2)):=by
 refine CK Tryz.func134 fun E a=>?_
 conv=>cbv
 refine AB a h ?_;refine BZ 0 0 a NP ?_;refine fun _=>⟨⟨⟨t3,trivial⟩,rfl,by simp⟩,rfl⟩
theorem WO (F:F9 TT w) (ha:Nm TT w 47000000 ka Bh Bc va) (hb:Nm TT w 47000000 kb Bi Be vb) (n:ka+kb+41<=690):∃h g,Nm TT w 47000000 (ka+kb+1) h g (va+vb)/\Bv Tryz.prog 225 [.one (.AR 0 0 0),.agg (AJ Bh Bc),.agg (AJ Bi Be)] (.var 0 [.int .i64 0]) (.agg (AJ h g)):=by
 obtain⟨Bj,Bf,f,a,i⟩:=HS F ha hb;refine⟨Bj,Bf,f.mono (by omega),?_⟩;refine CK Tryz.func225 fun E m=>?_
 conv=>cbv
 refine BZ 0 0 m (Kn a) ?_;refine fun _=>⟨⟨⟨t3,trivial⟩,rfl,by simp⟩,rfl⟩
theorem WQ (F:F9 TT w) (ha:Nm TT w 47000000 ka Bh Bc va) (hb:Nm TT w 47000000 kb Bi Be vb) (n:ka+kb+41<=690):∃h g,Nm TT w 47000000 (ka+kb+1) h g (va*vb)/\Bv Tryz.prog 226 [.one (.AR 0 0 0),.agg (AJ Bh Bc),.agg (AJ Bi Be)] (.var 0 [.int .i64 0]) (.agg (AJ h g)):=by
 obtain⟨Bj,Bf,f,a,i⟩:=Eu F ha hb;refine⟨Bj,Bf,f.mono (by omega),?_⟩;refine CK Tryz.func226 fun E m=>?_
 conv=>cbv
 refine BZ 0 0 m (Kn a) ?_;refine fun _=>⟨⟨⟨t3,trivial⟩,rfl,by simp⟩,rfl⟩
theorem gi (F:F9 TT w) (ha:Vm TT w 47000000 ka ka Bh Bc Bi Be xa ya) (hb:Vm TT w 47000000 kb kb Bj Bf B6 B5 xb yb) (B:ka+kb+41<=690):∃u s h g,Vm TT w 47000000 (ka+kb+1) (ka+kb+1) u s h g (xa+xb) (ya+yb)/\Bv Tryz.prog 128 [.one (.AR 0 0 0),.agg (AH Bh Bc Bi Be),.agg (AH Bj Bf B6 B5)] (.var 0 [.int .i64 0]) (.agg (AH u s h g)):=by
 obtain⟨De,Dc,n,i⟩:=WO F ha.x hb.x (by omega);obtain⟨f,a,o,m⟩:=WO F ha.y hb.y (by omega);have r:Vm _ w 47000000 (ka+kb+1) (ka+kb+1) De Dc f a _ _:=⟨n.mono (by omega),o.mono (by omega)⟩;refine⟨De,Dc,f,a,r.mono (by omega) (by omega),?_⟩;refine CK Tryz.func128 fun E A=>?_
 conv=>cbv
 refine BZ 0 0 A i ?_;refine BZ 0 0 A m ?_;refine fun _=>⟨⟨⟨⟨rfl,rfl,rfl,rfl,rfl,trivial⟩,trivial⟩,rfl,by simp⟩,rfl⟩
theorem gj (F:F9 TT w) (ha:Vm TT w 47000000 ka ka Bh Bc Bi Be xa ya) (B:Nm TT w 47000000 kn Bj Bf vn) (C:ka+kn+41<=690):∃u s h g,Vm TT w 47000000 (ka+kn+1) (ka+kn+1) u s h g (xa*vn) (ya*vn)/\Bv Tryz.prog 129 [.one (.AR 0 0 0),.agg (AH Bh Bc Bi Be),.agg (AJ Bj Bf)] (.var 0 [.int .i64 0]) (.agg (AH u s h g)):=by
 obtain⟨CJ,CI,n,i⟩:=WQ F ha.x B (by omega);obtain⟨f,a,o,m⟩:=WQ F ha.y B (by omega);have r:Vm _ w 47000000 (ka+kn+1) (ka+kn+1) CJ CI f a _ _:=⟨n.mono (by omega),o.mono (by omega)⟩;refine⟨CJ,CI,f,a,r.mono (by omega) (by omega),?_⟩;refine CK Tryz.func129 fun E A=>?_
 conv=>cbv
 refine BZ 0 0 A i ?_;refine BZ 0 0 A m ?_;refine fun _=>⟨⟨⟨⟨rfl,rfl,rfl,rfl,rfl,trivial⟩,trivial⟩,rfl,by simp⟩,rfl⟩
theorem ml (F:F9 TT w) (ha:Vm TT w 47000000 ka ka Bh Bc Bi Be xa ya) (hb:Vm TT w 47000000 kb kb Bj Bf B6 B5 xb yb) (o:ka+kb+41<=690):∃m i f a,Vm TT w 47000000 (ka+kb+1) (ka+kb+1) m i f a (xa+xb) (ya+yb)/\Bv Tryz.prog 132 [.one (.AR 0 0 0),.agg (AH Bh Bc Bi Be),.agg (AH Bj Bf B6 B5)] (.var 0 [.int .i64 0]) (.agg (AH m i f a)):=by
 obtain⟨CJ,CI,De,Dc,h,g⟩:=Nl F ha hb;refine⟨CJ,CI,De,Dc,h.mono (by omega) (by omega),?_⟩;refine CK Tryz.func132 fun E n=>?_
 conv=>cbv
 refine AB n g ?_;refine BZ 0 0 n Lh ?_;refine fun _=>⟨⟨⟨⟨rfl,rfl,rfl,rfl,rfl,trivial⟩,trivial⟩,rfl,by simp⟩,rfl⟩
theorem mn (F:F9 TT w) (ha:Vm TT w 47000000 ka ka Bh Bc Bi Be xa ya) (o:Nm TT w 47000000 kn Bj Bf vn) (r:ka+kn+41<=690):∃m i f a,Vm TT w 47000000 (ka+kn+1) (ka+kn+1) m i f a (xa*vn) (ya*vn)/\Bv Tryz.prog 133 [.one (.AR 0 0 0),.agg (AH Bh Bc Bi Be),.agg (AJ Bj Bf)] (.var 0 [.int .i64 0]) (.agg (AH m i f a)):=by
 obtain⟨B6,B5,CJ,CI,h,g⟩:=QO F ha o;refine⟨B6,B5,CJ,CI,h.mono (by omega) (by omega),?_⟩;refine CK Tryz.func133 fun E n=>?_
 conv=>cbv
 refine AB n g ?_;refine BZ 0 0 n Lh ?_;refine fun _=>⟨⟨⟨⟨rfl,rfl,rfl,rfl,rfl,trivial⟩,trivial⟩,rfl,by simp⟩,rfl⟩
theorem gk (F:F9 TT w) (Y:Vm TT w 47000000 ko ko Bh Bc Bi Be xo yo) (hs:Nm TT w 47000000 ks Bj Bf vs) (ha:Vm TT w 47000000 ka ka B6 B5 CJ CI xa ya) (C:Fd DE w0) (I:Vm DE w0 1950000 1 1 Bh Bc Bi Be xo yo) (L:Nm DE w0 1950000 15 Bj Bf vs) (D:Vm DE w0 1950000 1 1 B6 B5 CJ CI xa ya) (N:Nm DE w0 11500 4026 Tv Av v) (hv:vs*BU ((xa-xo)*(xa-xo)+(ya-yo)*(ya-yo))=v) (U:Up DE w0 1950000 24 TT w 47000000) (hr:Rt DE w0 11500 4026 TT w 47000000 1 v) (h0:¬(xo=xa/\yo=ya)) (hn:(xa-xo)*(xa-xo)+(ya-yo)*(ya-yo)≠0) (hM:2*ka+2*ko+163<=690):∃X S n h,Vm TT w 47000000 (ko+4) (ko+4) X S n h (xo+((xa-xo)*(Re.sqrt v))) (yo+((ya-yo)*(Re.sqrt v)))/\CF 63 [.agg (CQ Bh Bc Bi Be Bj Bf),.agg (AH B6 B5 CJ CI)] (.AI [(true,(AH X S n h)),(false,[.int .i64 0])]):=by
 obtain⟨a2,Z,a5,a1,B,cw⟩:=gz C D I (by omega);have hw:=U.v (by decide) (by decide) B;obtain⟨Tq,Aq,J,cq⟩:=hH C B (by omega);obtain⟨Td,Ad,G,cd⟩:=gx C L J hn (by omega);have H:=Yg (G.cast hv) N;obtain⟨Tr,Ar,K,cr,er⟩:=hr.get (by decide) H;obtain⟨T,O,W,Q,u,o⟩:=gj F hw K (by omega);obtain⟨i,f,m,g,A,s⟩:=gi F Y u (by omega);refine⟨i,f,m,g,A.mono (by omega) (by omega),?_⟩;refine AG Tryz.func63 fun E a=>?_
 refine AB (r:= .one (.bool false)) a (bc F Y ha (by omega) (by omega) (by omega) (by omega) (e:=false) ⟨fun z=>(by cases z),fun z=>absurd z h0⟩) ?_;refine BZ 18 1 a cw ?_;refine BZ 18 1 a cq ?_;refine BZ 18 1 a cd ?_;refine BH ?_;refine AB a cr ?_;refine BZ 18 1 a WV ?_;refine BZ 18 1 a o ?_;refine BZ 18 1 a s ?_;refine BH ?_;exact AE ⟨⟨rfl,rfl,rfl,rfl,rfl,trivial⟩,t2,trivial⟩
theorem nB (F:F9 TT w) (Y:Vm TT w 47000000 ko ko Bh Bc Bi Be xo yo) (hs:Nm TT w 47000000 ks Bj Bf vs) (ha:Vm TT w 47000000 ka ka B6 B5 CJ CI xa ya) (C:Fd DE w0) (I:Vm DE w0 1950000 1 1 Bh Bc Bi Be xo yo) (L:Nm DE w0 1950000 15 Bj Bf vs) (D:Vm DE w0 1950000 1 1 B6 B5 CJ CI xa ya) (N:Nm DE w0 11500 4026 Tv Av v) (hv:vs*BU ((xa-xo)*(xa-xo)+(ya-yo)*(ya-yo))=v) (U:Up DE w0 1950000 24 TT w 47000000) (hr:Rt DE w0 11500 4026 TT w 47000000 1 v) (h0:¬(xo=xa/\yo=ya)) (hn:(xa-xo)*(xa-xo)+(ya-yo)*(ya-yo)≠0) (hM:2*ka+2*ko+163<=690):∃X S n h,Vm TT w 47000000 (ko+4) (ko+4) X S n h (xo+((xa-xo)*(Re.sqrt v))) (yo+((ya-yo)*(Re.sqrt v)))/\CF 65 [.agg (CQ Bh Bc Bi Be Bj Bf),.agg (AH B6 B5 CJ CI)] (.AI [(true,(AH X S n h)),(false,[.int .i64 0])]):=by
 obtain⟨a2,Z,a5,a1,B,cw⟩:=ni C D I (by omega);have hw:=U.v (by decide) (by decide) B;obtain⟨Tq,Aq,J,cq⟩:=nn C B (by omega);obtain⟨Td,Ad,G,cd⟩:=nh C L J hn (by omega);have H:=Yg (G.cast hv) N;obtain⟨Tr,Ar,K,cr,er⟩:=hr.get (by decide) H;obtain⟨T,O,W,Q,u,o⟩:=mn F hw K (by omega);obtain⟨i,f,m,g,A,s⟩:=ml F Y u (by omega);refine⟨i,f,m,g,A.mono (by omega) (by omega),?_⟩;refine AG Tryz.func65 fun E a=>?_
 refine AB (r:= .one (.bool false)) a (FK F Y ha (by omega) (by omega) (by omega) (by omega) (e:=false) ⟨fun z=>(by cases z),fun z=>absurd z h0⟩) ?_;refine BZ 14 1 a cw ?_;refine BZ 14 1 a cq ?_;refine BZ 14 1 a cd ?_;refine BZ 14 1 a (nk er) ?_;refine BZ 14 1 a o ?_;refine BZ 14 1 a s ?_;refine BZ 14 1 a nj ?_;exact AE ⟨⟨rfl,rfl,rfl,rfl,rfl,trivial⟩,t2,trivial⟩
end
section
open Go.RowKit
end
section
open Go.RowKit
noncomputable def oC (xp yp xq yq δ:Re):Re:=(xp+ -(yq-yp)*δ)*(yq-yp)+(yp+(xq-xp)*δ)* -(xq-xp)
variable {Bc Be Bf B5 CI Dc:LR} {Bh Bi Bj B6 CJ De:List LR} {TT DE:List (List Rat)->Prop} {ki kp kq kt:Nat} {v vi vt xp xq yp yq:Re} {w w0:List (List Rat)}
theorem Yw {δ:Re} (a:¬(xp=xq/\yp=yq)):un (yq-yp)=un (-(yq-yp))/\ -(xq-xp)*BU (fs (yq-yp) (-(xq-xp)))=(xq-xp)*BU (fs (-(yq-yp)) (xq-xp))/\oC xp yp xq yq δ*BU (fs (yq-yp) (-(xq-xp)))=(-(yq-yp)*(xp-δ*(yq-yp))+(xq-xp)*(yp+δ*(xq-xp)))*BU (fs (-(yq-yp)) (xq-xp)):=
 oE (fun z=>a ⟨by grind,by grind⟩) (by grind) (by grind) (by unfold oC;grind)
theorem Pw {x:Re} {r:Int} (h:0<=x) (e:r=Bm x):¬r<0:=by rcases Ew x with⟨a,b⟩ |⟨a,b⟩ |⟨a,b⟩ <;> first | omega | (exfalso;grind)
theorem WS {T1 T2:List LR} {A1 A2:LR} (h:CF 89 [.agg (AJ T1 A1)] (.AI [(true,(AJ T2 A2)),(false,[.int .i64 0])])):Bv Tryz.prog 108 [.one (.AR 0 0 0),.agg (AJ T1 A1)] (.var 0 [.int .i64 0]) (.agg (AJ T2 A2)):=by
 refine CK Tryz.func108 fun E a=>?_
 conv=>cbv
 refine AB a h ?_;refine BZ 0 0 a MT ?_;refine fun _=>⟨⟨⟨t3,trivial⟩,rfl,by simp⟩,rfl⟩
theorem lk:Re.ofRat ((-1:Int):Rat)= -1:=by rw[show ((-1:Int):Rat)= -1 by decide +kernel,Re.ofRat_neg];rfl
theorem nE (F:Fd TT w) (hp:Vm TT w 1950000 kp kp Bh Bc Bi Be xp yp) (hq:Vm TT w 1950000 kq kq Bj Bf B6 B5 xq yq) (ht:Nm TT w 1950000 kt CJ CI vt) (hi:Nm TT w 1950000 ki De Dc vi) (J:Fe DE w0) (ax:Vm DE w0 11500 20 20 Bh Bc Bi Be xp yp) (ay:Vm DE w0 11500 20 20 Bj Bf B6 B5 xq yq) (U:Up DE w0 11500 167 TT w 1950000) (hr:Rt DE w0 11500 167 TT w 1950000 2 v) (hv:(xq-xp)*(xq-xp)+(yq-yp)*(yq-yp)=v) (h0:¬(xp=xq/\yp=yq)) (aD:0<=vt) (hn:Re.sqrt v≠0) (az:Re.sqrt v*vi=1) (hM:2*ki+2*kp+2*kq+2*kt+443<=80000):∃U0 B0 U1 B1 U2 B2,Nm TT w 1950000 (1) U0 B0 (un (yq-yp))/\Nm TT w 1950000 (72) U1 B1 (-(xq-xp)*BU (fs (yq-yp) (-(xq-xp))))/\Nm TT w 1950000 (2*ki+2*kp+2*kt+88) U2 B2 (oC xp yp xq yq (vt*vi)*BU (fs (yq-yp) (-(xq-xp))))/\CF 51 [.agg (AH Bh Bc Bi Be),.agg (AH Bj Bf B6 B5),.agg (AJ CJ CI),.one (.int .i64 1)] (.AI [(true,(CQ U0 B0 U1 B1 U2 B2)),(false,[.int .i64 0])]):=by
 obtain⟨aY,C,aV,a8⟩:=GH F ht;have aB:=Pw aD C;obtain⟨K,D,f,Q⟩:=GR J ay.x ax.x;obtain⟨L,G,g,S⟩:=GR J ay.y ax.y;obtain⟨aN,aE,aa,T⟩:=DY J f f;obtain⟨aO,aF,ab,W⟩:=DY J g g;obtain⟨aP,aG,ad,X⟩:=Hh J aa ab;obtain⟨Tn,An,aC,_,cn⟩:=hr.get (by omega) (ad.cast hv);obtain⟨aQ,aH,ae,Y⟩:=IH F ht aC (d:=117) (by omega) hn;obtain⟨aR,aI,af,aW,aX⟩:=Eu F ht hi;have ag:=ae.shrink af (PB az);have ah:=ag.cast (y:=vt*vi) (PB az);obtain⟨aJ,B,ai⟩:=ZU F (p:=((1:Int):Rat)) (by decide +kernel);obtain⟨aS,aK,aj,Z⟩:=DY F ah ai
 have i:=aj.cast (y:=vt*vi) (by rw[show Re.ofRat ((1:Int):Rat)=1 from rfl];grind);obtain⟨aT,aL,ak,a1⟩:=DY F i (U.up (by omega) g);obtain⟨N,H,al,a2⟩:=GR F hp.x ak;obtain⟨aU,aM,an,a5⟩:=DY F i (U.up (by omega) f);obtain⟨O,I,ao,a6⟩:=Hh F hp.y an;have aq:Vm _ w 1950000 (ki+kp+kt+6) (ki+kp+kt+6) N H O I _ _:=⟨al.mono (by omega),ao.mono (by omega)⟩;have ar:Vm _ w 1950000 1 1 K D L G _ _:=⟨(U.up (by omega) f).mono (by omega),(U.up (by omega) g).mono (by omega)⟩;obtain⟨s,m,u,n,A,o,h,a7⟩:=NK F aq ar (by omega) (by omega) (fun z=>h0 ⟨by grind,by grind⟩) (d:=70) (by omega) (by omega) (by omega);obtain⟨e1,e2,e3⟩:=Yw (δ:=vt*vi) h0;have au:=h.x.cast (y:=un (yq-yp)) (e1.symm)
 have av:=h.y.cast (y:= -(xq-xp)*BU (fs (yq-yp) (-(xq-xp)))) (e2.symm);have aw:=h.z.cast (y:=oC xp yp xq yq (vt*vi)*BU (fs (yq-yp) (-(xq-xp)))) (e3.symm);refine⟨s,m,u,n,A,o,au.mono (by omega),av.mono (by omega),aw.mono (by omega),?_⟩;refine AG Tryz.func51 fun E a=>?_
 refine BH ?_;refine AB a a8 ?_;refine Cw (fun aA=>?_) fun aA=>?_
 ·exact absurd aA aB
 refine AB (r:= .one (.bool false)) a (FK F hp hq (by omega) (by omega) (by omega) (by omega) (e:=false) ⟨fun z=>(by cases z),fun z=>absurd z h0⟩) ?_;refine BZ 31 1 a Q ?_;refine BZ 31 1 a S ?_;refine BZ 31 1 a T ?_;refine BZ 31 1 a W ?_;refine BZ 31 1 a X ?_;refine BZ 31 1 a (WS cn) ?_;refine BZ 31 1 a Y ?_;refine AB a (Gq (by decide) B) ?_;refine BZ 31 1 a Z ?_;refine BZ 31 1 a a1 ?_;refine BZ 31 1 a a2 ?_;refine BZ 31 1 a a5 ?_;refine BZ 31 1 a a6 ?_;refine BZ 31 1 a OU ?_;refine BH ?_;refine AB a a7 ?_;exact AE ⟨⟨rfl,rfl,rfl,rfl,rfl,rfl,rfl,trivial⟩,t2,trivial⟩
theorem nD (F:Fd TT w) (hp:Vm TT w 1950000 kp kp Bh Bc Bi Be xp yp) (hq:Vm TT w 1950000 kq kq Bj Bf B6 B5 xq yq) (ht:Nm TT w 1950000 kt CJ CI vt) (hi:Nm TT w 1950000 ki De Dc vi) (J:Fe DE w0) (ax:Vm DE w0 11500 20 20 Bh Bc Bi Be xp yp) (ay:Vm DE w0 11500 20 20 Bj Bf B6 B5 xq yq) (U:Up DE w0 11500 167 TT w 1950000) (hr:Rt DE w0 11500 167 TT w 1950000 2 v) (hv:(xq-xp)*(xq-xp)+(yq-yp)*(yq-yp)=v) (h0:¬(xp=xq/\yp=yq)) (aD:0<=vt) (hn:Re.sqrt v≠0) (az:Re.sqrt v*vi=1) (hM:2*ki+2*kp+2*kq+2*kt+443<=80000):∃U0 B0 U1 B1 U2 B2,Nm TT w 1950000 (1) U0 B0 (un (yq-yp))/\Nm TT w 1950000 (72) U1 B1 (-(xq-xp)*BU (fs (yq-yp) (-(xq-xp))))/\Nm TT w 1950000 (2*ki+2*kp+2*kt+88) U2 B2 (oC xp yp xq yq (-(vt*vi))*BU (fs (yq-yp) (-(xq-xp))))/\CF 51 [.agg (AH Bh Bc Bi Be),.agg (AH Bj Bf B6 B5),.agg (AJ CJ CI),.one (.int .i64 (-1))] (.AI [(true,(CQ U0 B0 U1 B1 U2 B2)),(false,[.int .i64 0])]):=by
 obtain⟨aY,C,aV,a8⟩:=GH F ht;have aB:=Pw aD C;obtain⟨K,D,f,Q⟩:=GR J ay.x ax.x;obtain⟨L,G,g,S⟩:=GR J ay.y ax.y;obtain⟨aN,aE,aa,T⟩:=DY J f f;obtain⟨aO,aF,ab,W⟩:=DY J g g;obtain⟨aP,aG,ad,X⟩:=Hh J aa ab;obtain⟨Tn,An,aC,_,cn⟩:=hr.get (by omega) (ad.cast hv);obtain⟨aQ,aH,ae,Y⟩:=IH F ht aC (d:=117) (by omega) hn;obtain⟨aR,aI,af,aW,aX⟩:=Eu F ht hi;have ag:=ae.shrink af (PB az);have ah:=ag.cast (y:=vt*vi) (PB az);obtain⟨aJ,B,ai⟩:=ZU F (p:=((-1:Int):Rat)) (by decide +kernel);obtain⟨aS,aK,aj,Z⟩:=DY F ah ai
 have i:=aj.cast (y:= -(vt*vi)) (by rw[show Re.ofRat ((-1:Int):Rat)= -1 from lk];grind);obtain⟨aT,aL,ak,a1⟩:=DY F i (U.up (by omega) g);obtain⟨N,H,al,a2⟩:=GR F hp.x ak;obtain⟨aU,aM,an,a5⟩:=DY F i (U.up (by omega) f);obtain⟨O,I,ao,a6⟩:=Hh F hp.y an;have aq:Vm _ w 1950000 (ki+kp+kt+6) (ki+kp+kt+6) N H O I _ _:=⟨al.mono (by omega),ao.mono (by omega)⟩;have ar:Vm _ w 1950000 1 1 K D L G _ _:=⟨(U.up (by omega) f).mono (by omega),(U.up (by omega) g).mono (by omega)⟩;obtain⟨s,m,u,n,A,o,h,a7⟩:=NK F aq ar (by omega) (by omega) (fun z=>h0 ⟨by grind,by grind⟩) (d:=70) (by omega) (by omega) (by omega);obtain⟨e1,e2,e3⟩:=Yw (δ:= -(vt*vi)) h0
 have au:=h.x.cast (y:=un (yq-yp)) (e1.symm);have av:=h.y.cast (y:= -(xq-xp)*BU (fs (yq-yp) (-(xq-xp)))) (e2.symm);have aw:=h.z.cast (y:=oC xp yp xq yq (-(vt*vi))*BU (fs (yq-yp) (-(xq-xp)))) (e3.symm);refine⟨s,m,u,n,A,o,au.mono (by omega),av.mono (by omega),aw.mono (by omega),?_⟩;refine AG Tryz.func51 fun E a=>?_
 refine CU ?_;refine BH ?_;refine AB a a8 ?_;refine Cw (fun aA=>?_) fun aA=>?_
 ·exact absurd aA aB
 refine AB (r:= .one (.bool false)) a (FK F hp hq (by omega) (by omega) (by omega) (by omega) (e:=false) ⟨fun z=>(by cases z),fun z=>absurd z h0⟩) ?_;refine BZ 31 1 a Q ?_;refine BZ 31 1 a S ?_;refine BZ 31 1 a T ?_;refine BZ 31 1 a W ?_;refine BZ 31 1 a X ?_;refine BZ 31 1 a (WS cn) ?_;refine BZ 31 1 a Y ?_;refine AB a (Gq (by decide) B) ?_;refine BZ 31 1 a Z ?_;refine BZ 31 1 a a1 ?_;refine BZ 31 1 a a2 ?_;refine BZ 31 1 a a5 ?_;refine BZ 31 1 a a6 ?_;refine BZ 31 1 a OU ?_;refine BH ?_;refine AB a a7 ?_;exact AE ⟨⟨rfl,rfl,rfl,rfl,rfl,rfl,rfl,trivial⟩,t2,trivial⟩
theorem nI (F:Fd TT w) (o:Vm TT w 1950000 kp kp Bh Bc Bi Be xp yp) (r:Vm TT w 1950000 kq kq Bj Bf B6 B5 xq yq) (ht:Nm TT w 1950000 kt CJ CI vt) (h:vt<0) (n:kt+111<=80000):CF 51 [.agg (AH Bh Bc Bi Be),.agg (AH Bj Bf B6 B5),.agg (AJ CJ CI),.one (.int .i64 1)] (.AI [(true,(CQ [] [] [] [] [] [])),(false,[.int .i64 7])]):=by
 obtain⟨g,a,i,f⟩:=GH F ht;obtain rfl:g= -1:=a.trans (JU h);refine AG Tryz.func51 fun E m=>?_
 refine BH ?_;refine AB m f ?_;refine CU ?_;exact AE ⟨⟨rfl,AL,AL,AL,AL,AL,AL,trivial⟩,t2,trivial⟩
theorem nG (F:Fd TT w) (s:Vm TT w 1950000 kp kp Bh Bc Bi Be xp yp) (u:Vm TT w 1950000 kq kq Bj Bf B6 B5 xq yq) (ht:Nm TT w 1950000 kt CJ CI vt) (i:0<=vt) (r:xp=xq/\yp=yq) (A:2*kp+2*kq+kt+443<=80000):CF 51 [.agg (AH Bh Bc Bi Be),.agg (AH Bj Bf B6 B5),.agg (AJ CJ CI),.one (.int .i64 1)] (.AI [(true,(CQ [] [] [] [] [] [])),(false,[.int .i64 11])]):=by
 obtain⟨o,a,m,f⟩:=GH F ht;have h:=Pw i a;refine AG Tryz.func51 fun E n=>?_
 refine BH ?_;refine AB n f ?_;refine Cw (fun g=>?_) fun g=>?_
 ·exact absurd g h
 refine AB n (FK F s u (by omega) (by omega) (by omega) (by omega) (e:=true) ⟨fun _=>r,fun _=>rfl⟩) ?_;exact AE ⟨⟨rfl,AL,AL,AL,AL,AL,AL,trivial⟩,t2,trivial⟩
theorem nH (F:Fd TT w) (o:Vm TT w 1950000 kp kp Bh Bc Bi Be xp yp) (r:Vm TT w 1950000 kq kq Bj Bf B6 B5 xq yq) (ht:Nm TT w 1950000 kt CJ CI vt) (h:vt<0) (n:kt+111<=80000):CF 51 [.agg (AH Bh Bc Bi Be),.agg (AH Bj Bf B6 B5),.agg (AJ CJ CI),.one (.int .i64 (-1))] (.AI [(true,(CQ [] [] [] [] [] [])),(false,[.int .i64 7])]):=by
 obtain⟨g,a,i,f⟩:=GH F ht;obtain rfl:g= -1:=a.trans (JU h);refine AG Tryz.func51 fun E m=>?_
 refine CU ?_;refine BH ?_;refine AB m f ?_;refine CU ?_;exact AE ⟨⟨rfl,AL,AL,AL,AL,AL,AL,trivial⟩,t2,trivial⟩
theorem nF (F:Fd TT w) (s:Vm TT w 1950000 kp kp Bh Bc Bi Be xp yp) (u:Vm TT w 1950000 kq kq Bj Bf B6 B5 xq yq) (ht:Nm TT w 1950000 kt CJ CI vt) (i:0<=vt) (r:xp=xq/\yp=yq) (A:2*kp+2*kq+kt+443<=80000):CF 51 [.agg (AH Bh Bc Bi Be),.agg (AH Bj Bf B6 B5),.agg (AJ CJ CI),.one (.int .i64 (-1))] (.AI [(true,(CQ [] [] [] [] [] [])),(false,[.int .i64 11])]):=by
 obtain⟨o,a,m,f⟩:=GH F ht;have h:=Pw i a;refine AG Tryz.func51 fun E n=>?_
 refine CU ?_;refine BH ?_;refine AB n f ?_;refine Cw (fun g=>?_) fun g=>?_
 ·exact absurd g h
 refine AB n (FK F s u (by omega) (by omega) (by omega) (by omega) (e:=true) ⟨fun _=>r,fun _=>rfl⟩) ?_;exact AE ⟨⟨rfl,AL,AL,AL,AL,AL,AL,trivial⟩,t2,trivial⟩
end
section
open Go.RowKit
abbrev Fb:Type:=List LR
abbrev Fc:Type:=LR
abbrev cV (z:el Bz):List AC:=[.sl (.sl AA) z.1.1,.sl AA z.1.2,.sl (.sl AA) z.2.1,.sl AA z.2.2]
abbrev cN (z:el AQ):List AC:=[.sl (.sl AA) z.1,.sl AA z.2]
def NR (k:Int) (t:Nat->Fb) (a:Nat->Fc) (z:el Bz):Prop:=
 ∃(u v:el Bz) (f:Int),CF 16 [.agg (SF k t a),.agg (cV z)] (.AI [(true,cV u),(false,[.int .i64 f])])/\
  CF 17 [.agg (SF k t a),.agg (cV z)] (.AI [(true,cV v),(false,[.int .i64 f])])/\
  (f=0->CF 66 [.agg (cV u)] (.one (.bool true))/\CF 19 [.agg (cV u),.agg (cV v)] (.one (.bool true)))
def Out (z:el Bz) (C:AV->Prop):Prop:=∃k t a e,C (DK k t a e)/\NR k t a z
theorem Out.mono {z:el Bz} {C D:AV->Prop} (h:Out z C) (f:∀k t a e,C (DK k t a e)->D (DK k t a e)):Out z D:=let ⟨k,t,a,e,c,n⟩:=h;⟨k,t,a,e,f _ _ _ _ c,n⟩
theorem Nm.to {TT:List (List Rat)->Prop} {w:List (List Rat)} {b b' k k':Nat} {T:Fb} {A:Fc} {x:Re} (h:Nm TT w b k T A x) (e:k*b<=k'*b'):Nm TT w b' k' T A x:=by
 obtain⟨u,a,f,h3,g,i⟩:=h;exact⟨u,a,f,h3,g,i.mono e⟩
theorem Vm.to {TT:List (List Rat)->Prop} {w:List (List Rat)} {b b' k k':Nat} {T f:Fb} {A a:Fc} {x y:Re} (h:Vm TT w b k k T A f a x y) (e:k*b<=k'*b'):Vm TT w b' k' k' T A f a x y:=⟨h.x.to e,h.y.to e⟩
theorem HR {t:Nat->Fb} {a:Nat->Fc} {z:el Bz}:NR 0 t a z:=⟨(([],[]),[],[]),(([],[]),[],[]),1,kf,qK,fun h=>absurd h (by decide)⟩
theorem ND {TT:List (List Rat)->Prop} {w:List (List Rat)} {R b c M q p k l m:Nat} (F:Fm TT w R b c M q p) {t:Nat->Fb} {a:Nat->Fc} {z:el Bz} {α β γ X Y:Re} (i:Ff TT w b k l (t 0) (a 0) (t 1) (a 1) (t 2) (a 2) α β γ) (n:Vm TT w b m m z.1.1 z.1.2 z.2.1 z.2.2 X Y) (f:¬(α=0/\β=0))
  {d:Nat} (h:q*(2*k+5)+p<=d) (r:4*k+2*l+6*m+2*d+4*c+32<=M):NR 1 t a z:=by
 obtain⟨T1,A1,T2,A2,g,c1⟩:=kZ F i n f h;obtain⟨T3,A3,T4,A4,o,c2⟩:=mw F i n f h (by omega) (by omega);exact⟨((T1,A1),T2,A2),((T3,A3),T4,A4),0,ke c1,qJ c2,fun _=>⟨UX F g,FK F g o (by omega) (by omega) (by omega) (by omega) ⟨fun _=>⟨by grind,by grind⟩,fun _=>rfl⟩⟩⟩
theorem Yf {TT:List (List Rat)->Prop} {w:List (List Rat)} {R b c M q p k:Nat} (F:Fm TT w R b c M q p) {T:Fb} {A:Fc} {x:Re} (h:Nm TT w b k T A x) (a:k+c+1<=M):Em T A:=by
 obtain⟨B,f,c1,_⟩:=KB F h a;obtain⟨D,g,c2,_⟩:=KB F f a;obtain rfl:D=A:=g.data h (by grind);exact .inr ⟨B,c1,c2⟩
theorem mA {TT:List (List Rat)->Prop} {w:List (List Rat)} {R b c M q p k:Nat} (F:Fm TT w R b c M q p) {t:Nat->Fb} {a:Nat->Fc} {z:el Bz} {X Y:Re} (h:Vm TT w b k k (t 8) (a 8) (t 9) (a 9) X Y) (ha:∀i,3<=i->i<8->a i=[]) (m:2*k+4*c+3<=M):NR 3 t a z:=by
 have n:=fun i f g=>(ha i f g).symm ▸ NB (t i)
 exact⟨((t 8,a 8),t 9,a 9),((t 8,a 8),t 9,a 9),0,kg (YN (n 3 (by decide) (by decide)) (n 4 (by decide) (by decide)) (n 5 (by decide) (by decide)) (n 6 (by decide) (by decide)) (n 7 (by decide) (by decide)) (Yf F h.x (by omega)) (Yf F h.y (by omega))),qL,
  fun _=>⟨UX F h,FK F h h (by omega) (by omega) (by omega) (by omega) ⟨fun _=>⟨rfl,rfl⟩,fun _=>rfl⟩⟩⟩
section
variable {P:List (List Rat)->Prop} {V:List Re} {w:List (List Rat)}
abbrev VF (P:List (List Rat)->Prop) (w:List (List Rat)) (k:Nat) (z:el Bz) (x y:Re):Prop:=Vm (Tf P) w 2100 k k z.1.1 z.1.2 z.2.1 z.2.2 x y
abbrev NF (P:List (List Rat)->Prop) (w:List (List Rat)) (k:Nat) (z:el AQ) (x:Re):Prop:=Nm (Tf P) w 2100 k z.1 z.2 x
theorem lz (L:Pl P V w) (F:Fl (Tf P) w) (m:Fd (Tf P) w) {t:Nat->Fb} {a:Nat->Fc} {z:el Bz} {X Y S x y:Re} {s ks:Nat} (o:Vm (Tf P) w 2100 s s (t 5) (a 5) (t 6) (a 6) X Y) (B:Nm (Tf P) w 2100 ks (t 7) (a 7) S) (r:VF P w 20 z x y) (Q:0<S) (Z:s<=200) (hk:ks<=800):NR 2 t a z:=by
 have g:=o.to (b':=1950000) (k':=1) (by omega);have s1:=B.to (b':=1950000) (k':=15) (by omega);have i:=r.to (b':=1950000) (k':=1) (by omega)
 by_cases he:X=x/\Y=y
 ·exact⟨(([],[]),[],[]),(([],[]),[],[]),11,X7 (gl m g s1 i he (by decide)),cM (nC m g s1 i he (by decide)),fun h=>absurd h (by decide)⟩
 obtain⟨T1,A1,d1,_⟩:=Ia F r.x o.x;obtain⟨T2,A2,d2,_⟩:=Ia F r.y o.y;obtain⟨T3,A3,d3,_⟩:=Eu F d1 d1;obtain⟨T4,A4,d4,_⟩:=Eu F d2 d2;obtain⟨T5,A5,d5,_⟩:=HS F d3 d4;have n:(x-X)*(x-X)+(y-Y)*(y-Y)≠0:=NZ fun h=>he ⟨by grind,by grind⟩
 have hp:=Na (x-X) (y-Y);obtain⟨T6,A6,d6,_⟩:=JI F B d5 (Nat.le_refl _) n;have d7:=d6.to (b':=11500) (k':=4026) (by omega);obtain⟨TT,w9,f,U,u⟩:=ll L d7 (Nat.le_refl _) (iy Q (by grind));have up:=fun {k T A v} (h:Nm (Tf P) w 1950000 k T A v) (e:k<=24)=>U.up e h
 obtain⟨J,D,K,G,C,c1⟩:=gk f ⟨up g.x (by decide),up g.y (by decide)⟩ (up s1 (by decide)) ⟨up i.x (by decide),up i.y (by decide)⟩ m g s1 i d7 rfl U u he n (by decide);obtain⟨N,H,O,I,W,c2⟩:=nB f ⟨up g.x (by decide),up g.y (by decide)⟩ (up s1 (by decide)) ⟨up i.x (by decide),up i.y (by decide)⟩ m g s1 i d7 rfl U u he n (by decide);exact⟨((J,D),K,G),((N,H),O,I),0,X7 c1,cM c2,fun _=>⟨UX f C,FK f C W (by decide) (by decide) (by decide) (by decide) ⟨fun _=>⟨rfl,rfl⟩,fun _=>rfl⟩⟩⟩
end
end
section
open Go.RowKit
abbrev KR (l:List Fb) (i:Nat):Fb:=l.getD i []
abbrev Jl (l:List Fc) (i:Nat):Fc:=l.getD i []
theorem LM {x y:Re} (h:¬(x=0/\y=0)):¬(un x=0/\y*BU (fs x y)=0):=fun⟨a,b⟩=>by
 rcases lF h with e |⟨_,e⟩
 ·exact TD (e.symm.trans a)
 exact TD (e.symm.trans b)
section
variable {P:List (List Rat)->Prop} {V:List Re} {w:List (List Rat)} {z:el Bz} {x y:Re}
theorem QB (F:Fl (Tf P) w) {p q:el Bz} {xp yp xq yq:Re} (m:VF P w 20 z x y) (f:VF P w 20 p xp yp) (g:VF P w 20 q xq yq):Out z (CF 50 [.agg (cV p),.agg (cV q)]):=by
 obtain⟨T1,A1,T2,A2,n,c1⟩:=Ja F g f
 by_cases a:xp=xq/\yp=yq
 ·exact⟨0,fun _=>[],fun _=>[],11,qS (by decide) (ZX F f g (by decide) (by decide) (by decide) (by decide) a) c1,HR⟩
 obtain⟨T3,A3,T4,A4,T5,A5,i,c2⟩:=ZW F f g (by decide) (by decide) (by decide) (by decide) a (Nat.le_refl _) (Nat.le_refl _);exact⟨1,KR [T3,T4,T5,T1,T2],Jl [A3,A4,A5,A1,A2],0,qQ c2 c1,ND F i m (LM fun h=>a ⟨by grind,by grind⟩) (Nat.le_refl _) (by decide)⟩
theorem OL (F:Fl (Tf P) w) {p q:el Bz} {xp yp xq yq:Re} {k l:Nat} (m:VF P w 20 z x y) (f:VF P w k p xp yp) (g:VF P w l q xq yq) (n:k<=200) (o:l<=200):Out z (CF 58 [.agg (cV p),.agg (cV q)]):=by
 by_cases a:xq=0/\yq=0
 ·exact⟨0,fun _=>[],fun _=>[],6,qB (by decide) (mo F f g (by omega) (by omega) a),HR⟩
 obtain⟨T3,A3,T4,A4,T5,A5,i,c2⟩:=NK F f g (by omega) (by omega) a (Nat.le_refl _) (Nat.le_refl _) (by omega);exact⟨1,KR [T3,T4,T5,q.1.1,q.2.1],Jl [A3,A4,A5,q.1.2,q.2.2],0,qA c2,ND F i m (LM fun h=>a ⟨by grind,by grind⟩) (Nat.le_refl _) (by omega)⟩
theorem bP (F:Fl (Tf P) w) {p q:el Bz} {n:el AQ} {xp yp xq yq t:Re} (u:VF P w 20 z x y) (i:VF P w 20 p xp yp) (a:VF P w 41 q xq yq) (g:NF P w 1 n t):Out z (CF 119 [.agg (cV p),.agg (cV q),.agg (cN n)]):=by
 obtain⟨A1,o,c1⟩:=Nn F a;obtain⟨T2,A2,T3,A3,r,c2⟩:=QO F o g;obtain⟨T4,A4,T5,A5,h3,c3⟩:=Nl F a r
 by_cases f:xq=0/\yq=0
 ·exact⟨0,fun _=>[],fun _=>[],6,qU (by decide) (nK F i a g (by decide) (by decide) f) c1 c2 c3,HR⟩
 obtain⟨T6,A6,T7,A7,T8,A8,s,m⟩:=nJ F i a g f (Nat.le_refl _) (by decide) (by decide);exact⟨1,KR [T6,T7,T8,T4,T5],Jl [A6,A7,A8,A4,A5],0,qT m c1 c2 c3,ND F s u (LM fun h=>bQ (t:=t) f ⟨by grind,by grind⟩) (Nat.le_refl _) (by decide)⟩
theorem Jm (L:Pl P V w) (F:Fl (Tf P) w) {c:el Bz} {s:el AQ} {X Y S:Re} {g ks:Nat} (n:VF P w 20 z x y) (h:VF P w g c X Y) (f:NF P w ks s S) (o:0<=S) (i:g<=200) (m:ks<=800):Out z (CF 48 [.agg (cV c),.agg (cN s),.one (.int .i64 0)]):=by
 obtain⟨r,a,_,c1⟩:=GH F f
 by_cases e:S=0
 ·obtain rfl:r=0:=a.trans (Gh.2 e);exact⟨0,fun _=>[],fun _=>[],6,qE c1,HR⟩
 exact⟨2,KR [[],[],[],[],[],c.1.1,c.2.1,s.1],Jl [[],[],[],[],[],c.1.2,c.2.2,s.2],0,qD (fun q=>e (Gh.1 (a.symm.trans q))) c1,lz L F L.fd h f n (by grind) i m⟩
theorem Mv (F:Fl (Tf P) w) {c:el Bz} {X Y:Re} {k:Nat} (a:VF P w k c X Y) (h:k<=100000):Out z (CF 46 [.agg (cV c),.one (.int .i64 0)]):=
 ⟨3,KR [[],[],[],[],[],[],[],[],c.1.1,c.2.1],Jl [[],[],[],[],[],[],[],[],c.1.2,c.2.2],0,qG,mA F a (fun i f g=>by
  have:i=3\/i=4\/i=5\/i=6\/i=7:=by omega
  rcases this with rfl | rfl | rfl | rfl | rfl <;> rfl) (by omega)⟩
theorem QK (F:Fl (Tf P) w) {p q:el Bz} {xp yp xq yq:Re} {k l:Nat} (f:VF P w k p xp yp) (g:VF P w l q xq yq) (h:k<=200) (i:l<=200):∃u:el Bz,VF P w (l+k+1) u (xq+ -xp) (yq+ -yp)/\CF 53 [.agg (cV p),.agg (cV q)] (.agg (cV u)):=by
 obtain⟨T1,A1,T2,A2,a,c1⟩:=Ja F g f;exact⟨((T1,A1),T2,A2),a,Nk c1⟩
theorem pF (F:Fl (Tf P) w) {p q:el Bz} {xp yp xq yq:Re} {k l:Nat} (g:VF P w k p xp yp) (h:VF P w l q xq yq) (i:k<=200) (m:l<=200):∃u:el AQ,NF P w (4*(l+k+1)+3) u ((xq+ -xp)*(xq+ -xp)+(yq+ -yp)*(yq+ -yp))/\CF 72 [.agg (cV p),.agg (cV q)] (.AI [(true,cN u),(false,[.int .i64 0])]):=by
 obtain⟨T1,A1,T2,A2,a,c1⟩:=Ja F h g;obtain⟨T3,A3,f,c2⟩:=QP F a;exact⟨(T3,A3),f.mono (by omega),qP c1 c2⟩
theorem UB (F:Fl (Tf P) w) {n:el AQ} {v:Re} {k:Nat} (h:NF P w k n v) (f:k<=400):∃u:el AQ,NF P w (2*k+1) u (v*v)/\CF 47 [.agg (cN n),.agg (cN n)] (.AI [(true,cN u),(false,[.int .i64 0])]):=by
 obtain⟨T,A,a,_,c⟩:=Eu F h h;exact⟨(T,A),a.mono (by omega),c⟩
theorem XC (F:Fl (Tf P) w) {p q:el Bz} {xp yp xq yq:Re} (a:VF P w 20 p xp yp) (h:VF P w 20 q xq yq):∃(u:el Bz) (X Y:Re),VF P w 62 u X Y/\CF 55 [.agg (cV p),.agg (cV q)] (.AI [(true,cV u),(false,[.int .i64 0])]):=by
 obtain⟨T1,A1,T2,A2,f,c1⟩:=Ja F a h;obtain⟨A3,A4,g,c2⟩:=cU F a;obtain⟨T5,A5,T6,A6,h3,c3⟩:=Ja F f g;exact⟨((T5,A5),T6,A6),_,_,h3,qF c1 c2 c3⟩
end
end
end Go.Abs
