/- Part 61 of a proof. Conditions: each theorem's own. -/
import Derived.Test.YtfilemenbchajaaGreatPk57
set_option linter.all false
set_option maxHeartbeats 8000000
set_option maxRecDepth 20000
open Go.Proofs
namespace Go.Abs
open Go.RowKit
noncomputable def ig (α β γ x y:Re):Re:=(α*x+β*y-γ)*As (α*α+β*β)
variable {A1 A2 A3 A4 A5:LR} {M R b c d k k' l l' m m' p q:Nat} {T1 T2 T3 T4 T5:List LR} {TT:List (List Rat)->Prop} {t x x1 x2 y y1 y2 α β γ:Re} {w:List (List Rat)}
theorem lL (h:¬(x=0/\y=0)):¬(x+ -y*t=0/\y+x*t=0):=by
 rintro⟨f,g⟩
 have i:=Kh h;have ht:=Re.IE t;have h3:=Re.IE x;have j:=Re.IE y;have e:(x+ -y*t)*(x+ -y*t)+(y+x*t)*(y+x*t)=(x*x+y*y)*(1+t*t):=by grind
 have a:(1:Re)+t*t≠0:=fun e=>by
  have:(0:Re)<1:=by show Re.ofRat 0<Re.ofRat 1;exact Re.HO.2 (by decide)
  grind
 exact KG i a (by rw[<-e,f,g];grind)
theorem kB (F:Fm TT w R b c M q p) (f:Kt TT w b k l T1 A1 T2 A2 T3 A3 α β γ) (ha:Vm TT w b m m' T4 A4 T5 A5 x y) (s:¬(α=0/\β=0)) (C:q*(2*k+5)+p<=d) (L:d+c+1<=M) (J:k+l+m+m'+c+8<=M) (K:2*k+c+8<=M):∃T A,Nm TT w b (k+l+m+m'+d+6) T A (ig α β γ x y)/\BW Tryz.prog 219 [.one (.AD 0 0 0),.agg [.sl (.sl AA) T1,.sl AA A1,.sl (.sl AA) T2,.sl AA A2,.sl (.sl AA) T3,.sl AA A3],.agg [.sl (.sl AA) T4,.sl AA A4,.sl (.sl AA) T5,.sl AA A5]] (.var 0 [.int .i64 0]) (.agg [.sl (.sl AA) T,.sl AA A]):=by
 have g:Vm TT w b 1 k T1 A1 T2 A2 α β:=⟨f.x,f.y⟩;obtain⟨T6,A6,t,j⟩:=IG F g ha (by omega) (by omega);obtain⟨H,D,u,n,_⟩:=KM F t f.z (by omega) (by omega);obtain⟨I,G,v,o⟩:=WS F g (by omega) (by omega);obtain⟨i,h,B,r,_⟩:=D1 F u (v.mono (by omega:2*1+2*k+3<=2*k+5)) C (Kh s) (by omega) (by omega) (by omega);refine⟨i,h,B.mono (by omega),?_⟩;refine Bn Tryz.func219 (by kernel_rfl) rfl fun E a=>?_
 conv=>cbv
 refine cL a jI ⟨⟨rfl,rfl,rfl,rfl,rfl,rfl,trivial⟩,trivial⟩ ?_;try conv=>cbv
 refine cL a j ⟨t4,t4,trivial⟩ ?_;try conv=>cbv
 refine dL 0 (.var 0 [.int .i64 0]) a HA ⟨rfl,⟨⟨⟨rfl,rfl⟩,rfl⟩,t2,rfl,trivial⟩⟩ ?_;try conv=>cbv
 refine cL a n ⟨t2,t2,trivial⟩ ?_;try conv=>cbv
 refine dL 0 (.var 0 [.int .i64 0]) a HA ⟨rfl,⟨⟨⟨rfl,rfl⟩,rfl⟩,t2,rfl,trivial⟩⟩ ?_;try conv=>cbv
 refine⟨fun _=>Aq (by kernel_rfl),?_⟩;refine cL a o ⟨t4,trivial⟩ ?_;try conv=>cbv
 refine dL 0 (.var 0 [.int .i64 0]) a HA ⟨rfl,⟨⟨⟨rfl,rfl⟩,rfl⟩,t2,rfl,trivial⟩⟩ ?_;try conv=>cbv
 refine cL a r ⟨t2,t2,trivial⟩ ?_;try conv=>cbv
 refine dL 0 (.var 0 [.int .i64 0]) a HA ⟨rfl,⟨⟨⟨rfl,rfl⟩,rfl⟩,t2,rfl,trivial⟩⟩ ?_;try conv=>cbv
 refine⟨fun _=>Aq (by kernel_rfl),?_⟩;refine fun _=>⟨⟨⟨t3,trivial⟩,rfl,by simp⟩,rfl⟩
theorem jk (F:Fm TT w R b c M q p) (r:Kt TT w b k l T1 A1 T2 A2 T3 A3 α β γ) (ha:Vm TT w b m m' T4 A4 T5 A5 x y) (H:¬(α=0/\β=0)) (N:q*(2*k+5)+p<=d) (O:d+c+1<=M) {t:Int} (ht: -9223372036854775808<=t/\t<9223372036854775808) (v:Bz (t:Rat)) (h3:2*k+l+m+m'+d+c+12<=M):∃T A u s,Vm TT w b (k+l+2*m+m'+d+11) (2*k+l+m+2*m'+d+10) T A u s (x-α*(ig α β γ x y*Re.ofRat (t:Rat))) (y-β*(ig α β γ x y*Re.ofRat (t:Rat)))/\CF 165 [.agg [.sl (.sl AA) T1,.sl AA A1,.sl (.sl AA) T2,.sl AA A2,.sl (.sl AA) T3,.sl AA A3],.agg [.sl (.sl AA) T4,.sl AA A4,.sl (.sl AA) T5,.sl AA A5],.one (.int .i64 t)] (.AE [(true,[.sl (.sl AA) T,.sl AA A,.sl (.sl AA) u,.sl AA s]),(false,[.int .i64 0])]):=by
 obtain⟨A6,f⟩:=CY (em [] (Re.ofRat (t:Rat)));have I:Nm TT w b 1 [] A6 (Re.ofRat (t:Rat)):=f ▸ KK F (by omega) (IZ v F.hb);have P:Vm TT w b 1 k T1 A1 T2 A2 α β:=⟨r.x,r.y⟩;obtain⟨V,Q,J,C⟩:=kB F r ha H N O (by omega) (by omega);obtain⟨W,S,K,D,_⟩:=EN F J I (by omega) (by omega);obtain⟨X,U,B,z,L,G⟩:=iy F P K (by omega) (by omega) (by omega);obtain⟨i,g,j,h,o,n⟩:=JR F ha L (by omega) (by omega) (by omega) (by omega);refine⟨i,g,j,h,o.mono (by omega) (by omega),?_⟩;refine BP Tryz.func165 (by kernel_rfl) rfl fun E a=>?_
 conv=>cbv
 refine dL 11 (.var 1 [.int .i64 0]) a C ⟨rfl,⟨⟨⟨rfl,rfl⟩,rfl⟩,⟨rfl,rfl,rfl,rfl,rfl,rfl,trivial⟩,t4,trivial⟩⟩ ?_;try conv=>cbv
 refine cL a (Hi ht (Ha v) f) t1 ?_;try conv=>cbv
 refine cL a D ⟨t2,t2,trivial⟩ ?_;try conv=>cbv
 refine dL 11 (.var 1 [.int .i64 0]) a HA ⟨rfl,⟨⟨⟨rfl,rfl⟩,rfl⟩,t2,rfl,trivial⟩⟩ ?_;try conv=>cbv
 refine cL a jI ⟨⟨rfl,rfl,rfl,rfl,rfl,rfl,trivial⟩,trivial⟩ ?_;try conv=>cbv
 refine cL a G ⟨t4,t2,trivial⟩ ?_;try conv=>cbv
 refine dL 11 (.var 1 [.int .i64 0]) a iZ ⟨rfl,⟨⟨⟨rfl,rfl⟩,rfl⟩,t4,rfl,trivial⟩⟩ ?_;try conv=>cbv
 refine cL a n ⟨t4,t4,trivial⟩ ?_;try conv=>cbv
 refine dL 11 (.var 1 [.int .i64 0]) a iZ ⟨rfl,⟨⟨⟨rfl,rfl⟩,rfl⟩,t4,rfl,trivial⟩⟩ ?_;try conv=>cbv
 refine dL 11 (.var 1 [.int .i64 0]) a je ⟨rfl,⟨⟨⟨rfl,rfl⟩,rfl⟩,t4,trivial⟩⟩ ?_;try conv=>cbv
 refine⟨fun _=>Aq (by kernel_rfl),?_⟩;exact fA ⟨⟨rfl,rfl,rfl,rfl,rfl,trivial⟩,t2,trivial⟩ rfl (by simp)
theorem kM (F:Fm TT w R b c M q p) (z:Kt TT w b k l T1 A1 T2 A2 T3 A3 α β γ) (ha:Vm TT w b m m' T4 A4 T5 A5 x y) (o:¬(α=0/\β=0)) (u:q*(2*k+5)+p<=d) (v:d+c+1<=M) (h3:2*k+l+m+m'+d+c+12<=M):∃T A f a,Vm TT w b (k+l+2*m+m'+d+11) (2*k+l+m+2*m'+d+10) T A f a (x-α*(ig α β γ x y*Re.ofRat (((1:Int):Rat)))) (y-β*(ig α β γ x y*Re.ofRat (((1:Int):Rat))))/\CF 68 [.agg [.sl (.sl AA) T1,.sl AA A1,.sl (.sl AA) T2,.sl AA A2,.sl (.sl AA) T3,.sl AA A3],.agg [.sl (.sl AA) T4,.sl AA A4,.sl (.sl AA) T5,.sl AA A5]] (.AE [(true,[.sl (.sl AA) T,.sl AA A,.sl (.sl AA) f,.sl AA a]),(false,[.int .i64 0])]):=by
 obtain⟨i,g,j,h,r,n⟩:=jk F z ha o u v (t:=1) (by decide) (by decide +kernel) h3;refine⟨i,g,j,h,r,?_⟩;refine BP Tryz.func68 (by kernel_rfl) rfl fun E s=>?_
 conv=>cbv
 refine cL s n ⟨⟨rfl,rfl,rfl,rfl,rfl,rfl,trivial⟩,t4,rfl,trivial⟩ ?_;try conv=>cbv
 exact fA ⟨⟨rfl,rfl,rfl,rfl,rfl,trivial⟩,t2,trivial⟩ rfl (by simp)
theorem kN (F:Fm TT w R b c M q p) (z:Kt TT w b k l T1 A1 T2 A2 T3 A3 α β γ) (ha:Vm TT w b m m' T4 A4 T5 A5 x y) (o:¬(α=0/\β=0)) (u:q*(2*k+5)+p<=d) (v:d+c+1<=M) (h3:2*k+l+m+m'+d+c+12<=M):∃T A f a,Vm TT w b (k+l+2*m+m'+d+11) (2*k+l+m+2*m'+d+10) T A f a (x-α*(ig α β γ x y*Re.ofRat (((2:Int):Rat)))) (y-β*(ig α β γ x y*Re.ofRat (((2:Int):Rat))))/\CF 115 [.agg [.sl (.sl AA) T1,.sl AA A1,.sl (.sl AA) T2,.sl AA A2,.sl (.sl AA) T3,.sl AA A3],.agg [.sl (.sl AA) T4,.sl AA A4,.sl (.sl AA) T5,.sl AA A5]] (.AE [(true,[.sl (.sl AA) T,.sl AA A,.sl (.sl AA) f,.sl AA a]),(false,[.int .i64 0])]):=by
 obtain⟨i,g,j,h,r,n⟩:=jk F z ha o u v (t:=2) (by decide) (by decide +kernel) h3;refine⟨i,g,j,h,r,?_⟩;refine BP Tryz.func115 (by kernel_rfl) rfl fun E s=>?_
 conv=>cbv
 refine cL s n ⟨⟨rfl,rfl,rfl,rfl,rfl,rfl,trivial⟩,t4,rfl,trivial⟩ ?_;try conv=>cbv
 exact fA ⟨⟨rfl,rfl,rfl,rfl,rfl,trivial⟩,t2,trivial⟩ rfl (by simp)
theorem kL (F:Fm TT w R b c M q p) (B:Vm TT w b k k' T1 A1 T2 A2 x1 y1) (C:Vm TT w b l l' T3 A3 T4 A4 x2 y2) (U:2*k+4*c+3<=M) (u:2*k'+4*c+3<=M) (V:2*l+4*c+3<=M) (v:2*l'+4*c+3<=M) (H:¬(x1=x2/\y1=y2)) (Q:q*(l+k+1)+p<=d) (t:q*(l'+k'+1)+p<=d) (S:d+c+1<=M) (h1:2*k+2*k'+2*l+2*l'+c+12<=M):∃T A G D g f,Kt TT w b (l'+k'+d+2) (2*k+2*k'+2*l+2*l'+d+12) T A G D g f (un (x2-x1)) ((y2-y1)*As (fs (x2-x1) (y2-y1))) ((((x1+x2)*Re.ofRat (1/2))*(x2-x1)+((y1+y2)*Re.ofRat (1/2))*(y2-y1))*As (fs (x2-x1) (y2-y1)))/\CF 67 [.agg [.sl (.sl AA) T1,.sl AA A1,.sl (.sl AA) T2,.sl AA A2],.agg [.sl (.sl AA) T3,.sl AA A3,.sl (.sl AA) T4,.sl AA A4]] (.AE [(true,[.sl (.sl AA) T,.sl AA A,.sl (.sl AA) G,.sl AA D,.sl (.sl AA) g,.sl AA f]),(false,[.int .i64 0])]):=by
 obtain⟨T5,A5,T6,A6,O,K⟩:=jz F B C (by omega) (by omega);obtain⟨Y,W,Z,X,P,L⟩:=JR F C B (by omega) (by omega) (by omega) (by omega);obtain⟨J,I,n,i,o,j,s,N⟩:=Zg F O P Q t S (by omega) (fun h=>H ⟨by grind,by grind⟩);refine⟨J,I,n,i,o,j,⟨s.x,s.y.mono (by omega),s.z.mono (by omega)⟩,?_⟩;refine BP Tryz.func67 (by kernel_rfl) rfl fun E a=>?_
 conv=>cbv
 refine cL (r:= .one (.bool false)) a (IH F B C U u V v (e:=false) ⟨fun h=>(by cases h),fun h=>absurd h H⟩) ⟨t4,t4,trivial⟩ ?_;try conv=>cbv
 refine cL a K ⟨t4,t4,trivial⟩ ?_;try conv=>cbv
 refine dL 12 (.var 1 [.int .i64 0]) a iZ ⟨rfl,⟨⟨⟨rfl,rfl⟩,rfl⟩,t4,rfl,trivial⟩⟩ ?_;try conv=>cbv
 refine cL a L ⟨t4,t4,trivial⟩ ?_;try conv=>cbv
 refine dL 12 (.var 1 [.int .i64 0]) a iZ ⟨rfl,⟨⟨⟨rfl,rfl⟩,rfl⟩,t4,rfl,trivial⟩⟩ ?_;try conv=>cbv
 refine dL 12 (.var 1 [.int .i64 0]) a N ⟨rfl,⟨⟨⟨rfl,rfl⟩,rfl⟩,t4,t4,trivial⟩⟩ ?_;try conv=>cbv
 refine⟨fun _=>Aq (by kernel_rfl),?_⟩;exact fA ⟨⟨rfl,rfl,rfl,rfl,rfl,rfl,rfl,trivial⟩,t2,trivial⟩ rfl (by simp)
theorem kW {j:Nat} (F:Fm TT w R b c M q p) (Z:Vm TT w b k k' T1 A1 T2 A2 x1 y1) (H:Vm TT w b l l' T3 A3 T4 A4 x2 y2) (ht:Nm TT w b j T5 A5 t) (K:¬(x2=0/\y2=0)) (L:q*(l+l'+j+2)+p<=d) (Y:d+c+1<=M) (h1:k+k'+2*l+2*l'+2*j+c+8<=M):∃T A J I i g,Kt TT w b (l+l'+j+d+3) (k+k'+2*l+2*l'+2*j+d+8) T A J I i g (un (y2+x2*t)) (-(x2+ -y2*t)*As (fs (y2+x2*t) (-(x2+ -y2*t)))) ((x1*(y2+x2*t)+y1* -(x2+ -y2*t))*As (fs (y2+x2*t) (-(x2+ -y2*t))))/\CF 117 [.agg [.sl (.sl AA) T1,.sl AA A1,.sl (.sl AA) T2,.sl AA A2],.agg [.sl (.sl AA) T3,.sl AA A3,.sl (.sl AA) T4,.sl AA A4],.agg [.sl (.sl AA) T5,.sl AA A5]] (.AE [(true,[.sl (.sl AA) T,.sl AA A,.sl (.sl AA) J,.sl AA I,.sl (.sl AA) i,.sl AA g]),(false,[.int .i64 0])]):=by
 obtain⟨A6,V,Q⟩:=P5 F H (by omega) (by omega);obtain⟨T7,A7,T8,A8,W,S⟩:=iy F V ht (by omega) (by omega) (by omega);obtain⟨T9,A9,P,N,X,U⟩:=WR F H W (by omega) (by omega) (by omega) (by omega);obtain⟨O,G,C⟩:=az F X (by omega) (by omega);obtain⟨u,n,v,o,B,s,f,D⟩:=Zg F Z (G.mono (by omega:_<=l+l'+j+2) (by omega:_<=l+l'+j+2)) L L Y (by omega) (fun h=>lL (t:=t) K ⟨by grind,by grind⟩);refine⟨u,n,v,o,B,s,⟨f.x,f.y.mono (by omega),f.z.mono (by omega)⟩,?_⟩;refine BP Tryz.func117 (by kernel_rfl) rfl fun E a=>?_
 conv=>cbv
 refine cL (r:= .one (.bool false)) a (WT F H (by omega) (by omega) (e:=false) ⟨fun h=>(by cases h),fun h=>absurd h K⟩) ⟨t4,trivial⟩ ?_;try conv=>cbv
 refine cL a Q ⟨t4,trivial⟩ ?_;try conv=>cbv
 refine cL a S ⟨t4,t2,trivial⟩ ?_;try conv=>cbv
 refine dL 13 (.var 1 [.int .i64 0]) a iZ ⟨rfl,⟨⟨⟨rfl,rfl⟩,rfl⟩,t4,rfl,trivial⟩⟩ ?_;try conv=>cbv
 refine cL a U ⟨t4,t4,trivial⟩ ?_;try conv=>cbv
 refine dL 13 (.var 1 [.int .i64 0]) a iZ ⟨rfl,⟨⟨⟨rfl,rfl⟩,rfl⟩,t4,rfl,trivial⟩⟩ ?_;try conv=>cbv
 refine cL a C ⟨t4,trivial⟩ ?_;try conv=>cbv
 refine dL 13 (.var 1 [.int .i64 0]) a D ⟨rfl,⟨⟨⟨rfl,rfl⟩,rfl⟩,t4,t4,trivial⟩⟩ ?_;try conv=>cbv
 refine⟨fun _=>Aq (by kernel_rfl),?_⟩;exact fA ⟨⟨rfl,rfl,rfl,rfl,rfl,rfl,rfl,trivial⟩,t2,trivial⟩ rfl (by simp)
end Go.Abs
namespace Go.Abs
open Go.RowKit
variable {A1 A2 A3 A4 A5:LR} {M R b c k k' l p q:Nat} {T1 T2 T3 T4 T5:List LR} {TT:List (List Rat)->Prop} {r:Rat} {w:List (List Rat)} {x1 y1:Re}
theorem lN (F:Fm TT w R b c M q p) (o:Vm TT w b k k' T1 A1 T2 A2 x1 y1) (u:2*k+2*k'+c+4<=M) (s:Bz r) (i:(0:Re)<=Re.ofRat r) (e:x1*x1+y1*y1=Re.ofRat r*Re.ofRat r):∃T A,Nm TT w b (1) T A (Re.ofRat r)/\CF 123 [.agg [.sl (.sl AA) T1,.sl AA A1,.sl (.sl AA) T2,.sl AA A2]] (.AE [(true,[.sl (.sl AA) T,.sl AA A]),(false,[.int .i64 0])]):=by
 obtain⟨T5,A5,j,g⟩:=WS F o (by omega) (by omega);obtain⟨T6,A6,n,h⟩:=kf F j (by omega) s i e;refine⟨T6,A6,n,?_⟩;refine BP Tryz.func123 (by kernel_rfl) rfl fun E f=>?_
 conv=>cbv
 refine cL f g ⟨t4,trivial⟩ ?_;try conv=>cbv
 intro t a;cases a.trans (show _=false by decide);conv=>cbv
 refine cL f h ⟨t2,trivial⟩ ?_;try conv=>cbv
 exact fA ⟨t3,t2,trivial⟩ rfl (by simp)
theorem kO {l' j:Nat} (F:Fm TT w R b c M q p) {x2 y2 δ:Re} (X:Vm TT w b k k' T1 A1 T2 A2 x1 y1) (hq:Vm TT w b l l' T3 A3 T4 A4 x2 y2) (hn:Nm TT w b j T5 A5 δ) (h0:¬(x1=x2/\y1=y2)) (ai:0<=δ) (hr:Bz r) (Y:(0:Re)<=Re.ofRat r) (Z:Re.ofRat r≠0) (e:(x2-x1)*(x2-x1)+(y2-y1)*(y2-y1)=Re.ofRat r*Re.ofRat r) {d d':Nat} (hd:q*1+p<=d) (V:q*(l+k+1)+p<=d') (W:q*(l'+k'+1)+p<=d') (hM:8*(k+k'+l+l'+j+d+d')+4*c+100<=M):∃T A T' A' o n k1 k2,(k1<=8*(k+k'+l+l'+j+d+d')+20/\k2<=8*(k+k'+l+l'+j+d+d')+20)/\Kt TT w b k1 k2 T A T' A' o n (un (y2-y1)) (-(x2-x1)*As (fs (y2-y1) (-(x2-x1)))) (((x1+ -(y2-y1)*(δ*As (Re.ofRat r)))*(y2-y1)+(y1+(x2-x1)*(δ*As (Re.ofRat r)))* -(x2-x1))*As (fs (y2-y1) (-(x2-x1))))/\CF 42 [.agg [.sl (.sl AA) T1,.sl AA A1,.sl (.sl AA) T2,.sl AA A2],.agg [.sl (.sl AA) T3,.sl AA A3,.sl (.sl AA) T4,.sl AA A4],.agg [.sl (.sl AA) T5,.sl AA A5],.one (.int .i64 1)] (.AE [(true,[.sl (.sl AA) T,.sl AA A,.sl (.sl AA) T',.sl AA A',.sl (.sl AA) o,.sl AA n]),(false,[.int .i64 0])]):=by
 obtain⟨a2,a5,L,_⟩:=DQ F hn (by omega);have i:¬a2<0:=by rcases EP δ with⟨a,b⟩ |⟨a,b⟩ |⟨a,b⟩ <;> first | omega | (exfalso;grind)
 obtain⟨T6,A6,T7,A7,U,c6⟩:=JR F hq X (by omega) (by omega) (by omega) (by omega);obtain⟨T8,A8,h8,c8⟩:=lN F U (by omega) hr Y e;obtain⟨T9,A9,h9,c9,_⟩:=D1 F hn h8 hd Z (by omega) (by omega) (by omega);obtain⟨a6,N,G⟩:=P5 F U (by omega) (by omega);obtain⟨ae,a7,af,a8,O,H⟩:=iy F N h9 (by omega) (by omega) (by omega);obtain⟨ag,aa,ah,ab,P,I⟩:=WR F X O (by omega) (by omega) (by omega) (by omega);obtain⟨ad,g,J⟩:=az F U (by omega) (by omega);obtain⟨B,u,C,v,D,z,Q,K⟩:=Zg F P g W V (by omega) (by omega) (fun h=>h0 ⟨by grind,by grind⟩);refine⟨B,u,C,v,D,z,_,_,⟨?_,?_⟩,Q,?_⟩
 ·omega
 ·omega
 refine BP Tryz.func42 (by kernel_rfl) rfl fun E f=>?_
 conv=>cbv
 refine .inr ?_;intro aj g;cases g.trans (show _=false by decide);conv=>cbv
 refine cL f L ⟨t2,trivial⟩ ?_;try conv=>cbv
 intro a1 s;conv=>cbv
 cases a1 <;> conv=>cbv
 ·have t:=Ad s;refine cL (r:= .one (.bool false)) f (IH F X hq (by omega) (by omega) (by omega) (by omega) (e:=false) ⟨fun h=>(by cases h),fun h=>absurd h h0⟩) ⟨t4,t4,trivial⟩ ?_;try conv=>cbv
  refine cL f c6 ⟨t4,t4,trivial⟩ ?_;try conv=>cbv
  refine dL 32 (.var 1 [.int .i64 0]) f iZ ⟨rfl,⟨⟨⟨rfl,rfl⟩,rfl⟩,t4,rfl,trivial⟩⟩ ?_;try conv=>cbv
  refine cL f c8 ⟨t4,trivial⟩ ?_;try conv=>cbv
  refine dL 32 (.var 1 [.int .i64 0]) f HA ⟨rfl,⟨⟨⟨rfl,rfl⟩,rfl⟩,t2,rfl,trivial⟩⟩ ?_;try conv=>cbv
  refine cL f c9 ⟨t2,t2,trivial⟩ ?_;try conv=>cbv
  refine dL 32 (.var 1 [.int .i64 0]) f HA ⟨rfl,⟨⟨⟨rfl,rfl⟩,rfl⟩,t2,rfl,trivial⟩⟩ ?_;try conv=>cbv
  refine⟨fun _=>Aq (by kernel_rfl),?_⟩;intro Cg S;cases S.trans (show _=false by decide);conv=>cbv
  refine .inr ?_;refine cL f G ⟨t4,trivial⟩ ?_;try conv=>cbv
  refine cL f H ⟨t4,t2,trivial⟩ ?_;try conv=>cbv
  refine dL 32 (.var 1 [.int .i64 0]) f iZ ⟨rfl,⟨⟨⟨rfl,rfl⟩,rfl⟩,t4,rfl,trivial⟩⟩ ?_;try conv=>cbv
  refine cL f I ⟨t4,t4,trivial⟩ ?_;try conv=>cbv
  refine dL 32 (.var 1 [.int .i64 0]) f iZ ⟨rfl,⟨⟨⟨rfl,rfl⟩,rfl⟩,t4,rfl,trivial⟩⟩ ?_;try conv=>cbv
  refine cL f J ⟨t4,trivial⟩ ?_;try conv=>cbv
  refine dL 32 (.var 1 [.int .i64 0]) f K ⟨rfl,⟨⟨⟨rfl,rfl⟩,rfl⟩,t4,t4,trivial⟩⟩ ?_;try conv=>cbv
  refine⟨fun _=>Aq (by kernel_rfl),?_⟩;exact fA ⟨⟨rfl,rfl,rfl,rfl,rfl,rfl,rfl,trivial⟩,t2,trivial⟩ rfl (by simp)
 have t:=Ae s;exact absurd t i
theorem ic {n d:Int} {q:Rat} {A:LR} (j: -9223372036854775808<=n/\n<9223372036854775808) (i: -9223372036854775808<=d/\d<9223372036854775808) (g:d≠0) (o:q=Rat.divInt n d) (r:Bz q) (h:A=em [] (Re.ofRat q)):CF 116 [.one (.int .i64 n),.one (.int .i64 d)] (.agg [.sl (.sl AA) (([]:List LR)),.sl AA A]):=by
 refine BP Tryz.func116 (by kernel_rfl) rfl fun E a=>?_
 conv=>cbv
 obtain⟨s,u,t,v,f⟩:=Bb q;refine cL a (NK j i g o f) t2 ?_;try conv=>cbv
 refine cL a (QR f (Ha r) h) ⟨t4,trivial⟩ ?_;try conv=>cbv
 exact fA ⟨t3,trivial⟩ rfl (by simp)
theorem jJ (F:Fd TT w) {T6:List LR} {A6:LR} {x y z a b c:Re} (B:Kt TT w 1950000 k l T1 A1 T2 A2 T3 A3 x y z) (ha:Nm TT w 1950000 1 T4 A4 a) (hb:Nm TT w 1950000 1 T5 A5 b) (H:Nm TT w 1950000 1 T6 A6 c) (J:k<=39000) (I:l<=39000) (C:x=a) (D:y=b) (G:z=c):CF 118 [.agg [.sl (.sl AA) T1,.sl AA A1,.sl (.sl AA) T2,.sl AA A2,.sl (.sl AA) T3,.sl AA A3],.agg [.sl (.sl AA) T4,.sl AA A4],.agg [.sl (.sl AA) T5,.sl AA A5],.agg [.sl (.sl AA) T6,.sl AA A6]] (.one (.bool true)):=by
 obtain⟨t,o,f,_⟩:=EM F B.x ha (by omega) (by omega);have i:t=true:=o.2 C;rw[i] at f;obtain⟨u,r,g,_⟩:=EM F B.y hb (by omega) (by omega);have j:u=true:=r.2 D;rw[j] at g;obtain⟨v,s,h,_⟩:=EM F B.z H (by omega) (by omega);have n:v=true:=s.2 G;rw[n] at h;refine BP Tryz.func118 (by kernel_rfl) rfl fun E A=>?_
 conv=>cbv
 refine cL A f ⟨t2,t2,trivial⟩ ?_;try conv=>cbv
 refine cL A g ⟨t2,t2,trivial⟩ ?_;try conv=>cbv
 refine cL A h ⟨t2,t2,trivial⟩ ?_;try conv=>cbv
 exact fA ⟨t2,trivial⟩ rfl (by simp)
theorem jF:CF 41 [] (.one (.bool true)):=by
 obtain⟨w,F⟩:=Z1 (V:=[]) (ns:=[]) (by decide) (fun n hn=>by simp at hn);refine BP Tryz.func41 (by kernel_rfl) rfl fun E a=>?_
 conv=>cbv
 obtain⟨bb,bc,⟨D,G⟩,aC⟩:=EH F (p:=((0:Int):Rat)) (q:=((1:Int):Rat)) (by decide +kernel) (by decide +kernel);refine cL a (Eh (x:=0) (y:=1) (by decide) (by decide) D G) t2 ?_;try conv=>cbv
 obtain⟨bd,bf,⟨H,I⟩,aD⟩:=EH F (p:=((2:Int):Rat)) (q:=((5:Int):Rat)) (by decide +kernel) (by decide +kernel);refine cL a (Eh (x:=2) (y:=5) (by decide) (by decide) H I) t2 ?_;try conv=>cbv
 obtain⟨bL,bg,bM,bh,bN,bj,aE,av⟩:=kU F aC aD (by decide) (by decide) (by decide) (by decide) (fun h=>absurd (Re.Du.1 h.1) (by decide +kernel)) (d:=200) (by decide) (by decide) (by decide) (by decide);refine cL a av ⟨t4,t4,trivial⟩ ?_;try conv=>cbv
 obtain⟨bk,bl,⟨J,K⟩,aF⟩:=EH F (p:=((2:Int):Rat)) (q:=((0:Int):Rat)) (by decide +kernel) (by decide +kernel);refine cL a (Eh (x:=2) (y:=0) (by decide) (by decide) J K) t2 ?_;try conv=>cbv
 obtain⟨bm,bn,⟨L,N⟩,aG⟩:=EH F (p:=((1:Int):Rat)) (q:=((-1:Int):Rat)) (by decide +kernel) (by decide +kernel);refine cL a (Eh (x:=1) (y:= -1) (by decide) (by decide) L N) t2 ?_;try conv=>cbv
 obtain⟨bO,bo,bP,bp,bQ,bq,t,aw⟩:=ay F aF aG (by decide) (by decide) (fun h=>absurd (Re.Du.1 h.1) (by decide +kernel)) (d:=100) (by decide) (by decide) (by decide) (by decide);refine cL a aw ⟨t4,t4,trivial⟩ ?_;try conv=>cbv
 obtain⟨br,bs,⟨O,P⟩,aH⟩:=EH F (p:=((0:Int):Rat)) (q:=((0:Int):Rat)) (by decide +kernel) (by decide +kernel);refine cL a (Eh (x:=0) (y:=0) (by decide) (by decide) O P) t2 ?_;try conv=>cbv
 have s:¬(un (Re.ofRat ((-1:Int):Rat))=0/\ -Re.ofRat ((1:Int):Rat)*As (fs (Re.ofRat ((-1:Int):Rat)) (-Re.ofRat ((1:Int):Rat)))=0):=fun h=>absurd (Re.Du.1 ((show Re.ofRat 1=un (Re.ofRat ((-1:Int):Rat)) from (Ko (fun e=>absurd (Re.Du.1 e) (by decide +kernel))).symm).trans h.1)) (by decide)
 obtain⟨c9,bX,ca,bY,aI,ax⟩:=kM F t aH s (d:=12000) (by decide) (by decide) (by decide);refine cL a ax ⟨⟨rfl,rfl,rfl,rfl,rfl,rfl,trivial⟩,t4,trivial⟩ ?_;try conv=>cbv
 refine⟨fun _=>Aq (by kernel_rfl),?_⟩;obtain⟨bt,bu,⟨Q,S⟩,aJ⟩:=EH F (p:=((0:Int):Rat)) (q:=((0:Int):Rat)) (by decide +kernel) (by decide +kernel);refine cL a (Eh (x:=0) (y:=0) (by decide) (by decide) Q S) t2 ?_;try conv=>cbv
 obtain⟨cb,bZ,cc,c0,aK,az⟩:=kN F t aJ s (d:=12000) (by decide) (by decide) (by decide);refine cL a az ⟨⟨rfl,rfl,rfl,rfl,rfl,rfl,trivial⟩,t4,trivial⟩ ?_;try conv=>cbv
 refine⟨fun _=>Aq (by kernel_rfl),?_⟩;obtain⟨bw,bx,⟨T,U⟩,aL⟩:=EH F (p:=((0:Int):Rat)) (q:=((0:Int):Rat)) (by decide +kernel) (by decide +kernel);refine cL a (Eh (x:=0) (y:=0) (by decide) (by decide) T U) t2 ?_;try conv=>cbv
 obtain⟨bz,bA,⟨W,X⟩,aM⟩:=EH F (p:=((3:Int):Rat)) (q:=((4:Int):Rat)) (by decide +kernel) (by decide +kernel);refine cL a (Eh (x:=3) (y:=4) (by decide) (by decide) W X) t2 ?_;try conv=>cbv
 obtain⟨c1,af,aN⟩:=DK F (p:=Rat.divInt (5) 1) (by decide +kernel);refine cL a (ic (n:=5) (d:=1) (by decide) (by decide) (by decide) rfl (by decide +kernel) af) t2 ?_;try conv=>cbv
 have hle:∀{r:Rat},0<=r->(0:Re)<=Re.ofRat r:=fun h=>by rw[<-Re.GI];exact Re.Oy.2 h
 obtain⟨bR,bB,bS,bC,bT,bD,k1,k2,o,aO,aA⟩:=kO F aL aM aN (fun h=>absurd (Re.Du.1 h.1) (by decide +kernel)) (hle (by decide +kernel)) (r:=5) (by decide +kernel) (hle (by decide +kernel)) (fun e=>absurd (Re.Du.1 e) (by decide +kernel)) (by simp only[<-Re.ofRat_add,<-Re.ofRat_mul,<-Re.ofRat_neg,B7,ia,ib,CH];exact congrArg Re.ofRat (by decide +kernel)) (d:=100) (d':=200) (by decide) (by decide) (by decide) (by decide);refine cL a aA ⟨t4,t4,t2,rfl,trivial⟩ ?_;try conv=>cbv
 obtain⟨bE,bF,⟨Y,Z⟩,aP⟩:=EH F (p:=((0:Int):Rat)) (q:=((0:Int):Rat)) (by decide +kernel) (by decide +kernel);refine cL a (Eh (x:=0) (y:=0) (by decide) (by decide) Y Z) t2 ?_;try conv=>cbv
 obtain⟨bG,bH,⟨a1,a2⟩,aQ⟩:=EH F (p:=((1:Int):Rat)) (q:=((0:Int):Rat)) (by decide +kernel) (by decide +kernel);refine cL a (Eh (x:=1) (y:=0) (by decide) (by decide) a1 a2) t2 ?_;try conv=>cbv
 obtain⟨c2,ag,aR⟩:=DK F (p:=Rat.divInt (1) 1) (by decide +kernel);refine cL a (ic (n:=1) (d:=1) (by decide) (by decide) (by decide) rfl (by decide +kernel) ag) t2 ?_;try conv=>cbv
 obtain⟨bU,bI,bV,bJ,bW,bK,aS,aB⟩:=kW F aP aQ aR (fun h=>absurd (Re.Du.1 h.1) (by decide +kernel)) (d:=1000) (by decide) (by decide) (by decide);refine cL a aB ⟨t4,t4,t2,trivial⟩ ?_;try conv=>cbv
 intro cd aT;cases aT.trans (show _=true by decide);conv=>cbv
 intro cf aU;cases aU.trans (show _=true by decide);conv=>cbv
 intro cg aV;cases aV.trans (show _=true by decide);conv=>cbv
 intro ch aW;cases aW.trans (show _=true by decide);conv=>cbv
 intro cj aX;cases aX.trans (show _=true by decide);conv=>cbv
 intro ck aY;cases aY.trans (show _=true by decide);conv=>cbv
 obtain⟨c3,ah,aZ⟩:=DK F (p:=Rat.divInt (1) 1) (by decide +kernel);refine cL a (ic (n:=1) (d:=1) (by decide) (by decide) (by decide) rfl (by decide +kernel) ah) t2 ?_;try conv=>cbv
 obtain⟨c4,ai,b0⟩:=DK F (p:=Rat.divInt (-1) 2) (by decide +kernel);refine cL a (ic (n:= -1) (d:=2) (by decide) (by decide) (by decide) rfl (by decide +kernel) ai) t2 ?_;try conv=>cbv
 obtain⟨c5,aj,b1⟩:=DK F (p:=Rat.divInt (-1) 2) (by decide +kernel);refine cL a (ic (n:= -1) (d:=2) (by decide) (by decide) (by decide) rfl (by decide +kernel) aj) t2 ?_;try conv=>cbv
 refine cL (r:= .one (.bool true)) a (jJ F aE aZ b0 b1 (by decide) (by decide) (by simp only[<-Re.ofRat_add,<-Re.ofRat_mul,<-Re.ofRat_neg,B7,ia,ib,CH];exact congrArg Re.ofRat (by decide +kernel)) (by simp only[<-Re.ofRat_add,<-Re.ofRat_mul,<-Re.ofRat_neg,B7,ia,ib,CH];exact congrArg Re.ofRat (by decide +kernel)) (by simp only[<-Re.ofRat_add,<-Re.ofRat_mul,<-Re.ofRat_neg,B7,ia,ib,CH];exact congrArg Re.ofRat (by decide +kernel))) ⟨⟨rfl,rfl,rfl,rfl,rfl,rfl,trivial⟩,t2,t2,t2,trivial⟩ ?_;try conv=>cbv
 obtain⟨c6,ak,b2⟩:=DK F (p:=Rat.divInt (1) 1) (by decide +kernel);refine cL a (ic (n:=1) (d:=1) (by decide) (by decide) (by decide) rfl (by decide +kernel) ak) t2 ?_;try conv=>cbv
 obtain⟨c7,al,b3⟩:=DK F (p:=Rat.divInt (1) 1) (by decide +kernel);refine cL a (ic (n:=1) (d:=1) (by decide) (by decide) (by decide) rfl (by decide +kernel) al) t2 ?_;try conv=>cbv
 obtain⟨c8,an,b4⟩:=DK F (p:=Rat.divInt (2) 1) (by decide +kernel);refine cL a (ic (n:=2) (d:=1) (by decide) (by decide) (by decide) rfl (by decide +kernel) an) t2 ?_;try conv=>cbv
 refine cL (r:= .one (.bool true)) a (jJ F t b2 b3 b4 (by decide) (by decide) (by simp only[<-Re.ofRat_add,<-Re.ofRat_mul,<-Re.ofRat_neg,B7,ia,ib,CH];exact congrArg Re.ofRat (by decide +kernel)) (by simp only[<-Re.ofRat_add,<-Re.ofRat_mul,<-Re.ofRat_neg,B7,ia,ib,CH];exact congrArg Re.ofRat (by decide +kernel)) (by simp only[<-Re.ofRat_add,<-Re.ofRat_mul,<-Re.ofRat_neg,B7,ia,ib,CH];exact congrArg Re.ofRat (by decide +kernel))) ⟨⟨rfl,rfl,rfl,rfl,rfl,rfl,trivial⟩,t2,t2,t2,trivial⟩ ?_;try conv=>cbv
 obtain⟨ao,aq,⟨f,g⟩,a5⟩:=EH F (p:=((1:Int):Rat)) (q:=((1:Int):Rat)) (by decide +kernel) (by decide +kernel);refine cL a (Eh (x:=1) (y:=1) (by decide) (by decide) f g) t2 ?_;try conv=>cbv
 refine cL a (IH F aI a5 (by decide) (by decide) (by decide) (by decide) (e:=true) ⟨fun _=>⟨by simp only[ig,<-Re.ofRat_add,<-Re.ofRat_mul,<-Re.ofRat_neg,B7,ia,ib,CH];exact congrArg Re.ofRat (by decide +kernel),by simp only[ig,<-Re.ofRat_add,<-Re.ofRat_mul,<-Re.ofRat_neg,B7,ia,ib,CH];exact congrArg Re.ofRat (by decide +kernel)⟩,fun _=>rfl⟩) ⟨t4,t4,trivial⟩ ?_;try conv=>cbv
 obtain⟨ar,au,⟨i,j⟩,a6⟩:=EH F (p:=((2:Int):Rat)) (q:=((2:Int):Rat)) (by decide +kernel) (by decide +kernel);refine cL a (Eh (x:=2) (y:=2) (by decide) (by decide) i j) t2 ?_;try conv=>cbv
 refine cL a (IH F aK a6 (by decide) (by decide) (by decide) (by decide) (e:=true) ⟨fun _=>⟨by simp only[ig,<-Re.ofRat_add,<-Re.ofRat_mul,<-Re.ofRat_neg,B7,ia,ib,CH];exact congrArg Re.ofRat (by decide +kernel),by simp only[ig,<-Re.ofRat_add,<-Re.ofRat_mul,<-Re.ofRat_neg,B7,ia,ib,CH];exact congrArg Re.ofRat (by decide +kernel)⟩,fun _=>rfl⟩) ⟨t4,t4,trivial⟩ ?_;try conv=>cbv
 obtain⟨b5,u,a7⟩:=DK F (p:=Rat.divInt (1) 1) (by decide +kernel);refine cL a (ic (n:=1) (d:=1) (by decide) (by decide) (by decide) rfl (by decide +kernel) u) t2 ?_;try conv=>cbv
 obtain⟨b6,v,a8⟩:=DK F (p:=Rat.divInt (-3) 4) (by decide +kernel);refine cL a (ic (n:= -3) (d:=4) (by decide) (by decide) (by decide) rfl (by decide +kernel) v) t2 ?_;try conv=>cbv
 obtain⟨b7,z,aa⟩:=DK F (p:=Rat.divInt (-25) 4) (by decide +kernel);refine cL a (ic (n:= -25) (d:=4) (by decide) (by decide) (by decide) rfl (by decide +kernel) z) t2 ?_;try conv=>cbv
 refine cL (r:= .one (.bool true)) a (jJ F aO a7 a8 aa (Nat.le_trans o.1 (by decide)) (Nat.le_trans o.2 (by decide)) (by simp only[<-Re.ofRat_add,<-Re.ofRat_mul,<-Re.ofRat_neg,B7,ia,ib,CH];exact congrArg Re.ofRat (by decide +kernel)) (by simp only[<-Re.ofRat_add,<-Re.ofRat_mul,<-Re.ofRat_neg,B7,ia,ib,CH];exact congrArg Re.ofRat (by decide +kernel)) (by simp only[<-Re.ofRat_add,<-Re.ofRat_mul,<-Re.ofRat_neg,B7,ia,ib,CH];exact congrArg Re.ofRat (by decide +kernel))) ⟨⟨rfl,rfl,rfl,rfl,rfl,rfl,trivial⟩,t2,t2,t2,trivial⟩ ?_;try conv=>cbv
 obtain⟨b8,A,ab⟩:=DK F (p:=Rat.divInt (1) 1) (by decide +kernel);refine cL a (ic (n:=1) (d:=1) (by decide) (by decide) (by decide) rfl (by decide +kernel) A) t2 ?_;try conv=>cbv
 obtain⟨b9,B,ad⟩:=DK F (p:=Rat.divInt (-1) 1) (by decide +kernel);refine cL a (ic (n:= -1) (d:=1) (by decide) (by decide) (by decide) rfl (by decide +kernel) B) t2 ?_;try conv=>cbv
 obtain⟨ba,C,ae⟩:=DK F (p:=Rat.divInt (0) 1) (by decide +kernel);refine cL a (ic (n:=0) (d:=1) (by decide) (by decide) (by decide) rfl (by decide +kernel) C) t2 ?_;try conv=>cbv
 refine cL (r:= .one (.bool true)) a (jJ F aS ab ad ae (by decide) (by decide) (by simp only[<-Re.ofRat_add,<-Re.ofRat_mul,<-Re.ofRat_neg,B7,ia,ib,CH];exact congrArg Re.ofRat (by decide +kernel)) (by simp only[<-Re.ofRat_add,<-Re.ofRat_mul,<-Re.ofRat_neg,B7,ia,ib,CH];exact congrArg Re.ofRat (by decide +kernel)) (by simp only[<-Re.ofRat_add,<-Re.ofRat_mul,<-Re.ofRat_neg,B7,ia,ib,CH];exact congrArg Re.ofRat (by decide +kernel))) ⟨⟨rfl,rfl,rfl,rfl,rfl,rfl,trivial⟩,t2,t2,t2,trivial⟩ ?_;try conv=>cbv
 refine⟨fun _=>Aq (by kernel_rfl),?_⟩;exact fA ⟨t2,trivial⟩ rfl (by simp)
end Go.Abs
