/- Part 49 of a proof. Conditions: each theorem's own. -/
import Derived.Test.YtoonaidhfikkeaaGreatPk47
set_option linter.all false
set_option maxHeartbeats 8000000
open Go.Proofs
namespace Go.Abs
open Go.RowKit
section
variable {x y z a d:Re}
theorem dT {x:Re} (h:x≠0):0<x*x:=by
 have b:=Re.Ng x;have c:=Q5 h h
 grind
theorem cO (h:¬(x=0/\y=0)):x*x+y*y≠0:=by
 have c:=Re.Ng x;have f:=Re.Ng y
 by_cases b:x=0
 ·have:=dT (fun e=>h ⟨b,e⟩)
  grind
 have:=dT b
 grind
theorem eS {s:Re} (b:s≠0):un (s*x)=un x:=by
 by_cases h:x=0
 ·rw[cI h,cI (by rw[h];grind)]
 rw[cF h,cF (Q5 b h)]
theorem dg {s:Re} (b:s≠0):fs (s*x) (s*y)=s*fs x y:=by
 by_cases h:x=0
 ·rw[cG h,cG (by rw[h];grind)]
 rw[cH h,cH (Q5 b h)]
theorem inv_mul {s:Re} (f:s≠0) (h:x≠0):Dk (s*x)=Dk s*Dk x:=(cr (by
 have b:=HW f;have c:=HW h;have:s*x*(Dk s*Dk x)=(s*Dk s)*(x*Dk x):=by grind
 rw[this,b,c];grind)).symm
theorem dN {s:Re} (b:s≠0) (h:¬(x=0/\y=0)):s*z*Dk (fs (s*x) (s*y))=z*Dk (fs x y):=by
 rw[dg b,inv_mul b (dI h)];have c:=HW b;have:s*z*(Dk s*Dk (fs x y))=(s*Dk s)*(z*Dk (fs x y)):=by grind
 rw[this,c];grind
end
noncomputable def bm (α β γ x y:Re):Re:=(α*x+β*y-γ)*Dk (α*α+β*β)
theorem cm {x y t:Re} (h:¬(x=0/\y=0)):¬(x+ -y*t=0/\y+x*t=0):=by
 rintro⟨c,f⟩
 have g:=cO h;have ht:=Re.Ng t;have i:=Re.Ng x;have j:=Re.Ng y;have e:(x+ -y*t)*(x+ -y*t)+(y+x*t)*(y+x*t)=(x*x+y*y)*(1+t*t):=by grind
 have b:(1:Re)+t*t≠0:=fun e=>by
  have:(0:Re)<1:=by rw[<-Re.bA,<-Re.a8];exact Re.GN.2 (by decide)
  grind
 exact Q5 g b (by rw[<-e,c,f];grind)
theorem db {TT:List (List Rat)->Prop} {w:List (List Rat)} {R b c M q p k l m m':Nat} (F:Fm TT w R b c M q p) {T1 T2 T3 T4 T5:List LR} {A1 A2 A3 A4 A5:LR} {α β γ x y:Re} (i:bh TT w b k l T1 A1 T2 A2 T3 A3 α β γ) (L:Vm TT w b m m' T4 A4 T5 A5 x y) (G:¬(α=0/\β=0)) {d:Nat} (N:q*(2*k+5)+p<=d) (Q:d+c+1<=M) (O:k+l+m+m'+c+8<=M) (P:2*k+c+8<=M):∃T A,Nm TT w b (k+l+m+m'+d+6) T A (bm α β γ x y)/\Dc Tryz.prog 132 [.one (.Am 0 0 0),.agg [.sl (.sl AA) T1,.sl AA A1,.sl (.sl AA) T2,.sl AA A2,.sl (.sl AA) T3,.sl AA A3],.agg [.sl (.sl AA) T4,.sl AA A4,.sl (.sl AA) T5,.sl AA A5]] (.var 0 [.int .i64 0]) (.agg [.sl (.sl AA) T,.sl AA A]):=by
 have u:Vm TT w b 1 k T1 A1 T2 A2 α β:=⟨i.x,i.y⟩;obtain⟨r,j,H,v⟩:=aE F u L (by omega) (by omega);obtain⟨s,n,I,B,_⟩:=RO F H i.z (by omega) (by omega);obtain⟨t,o,J,C⟩:=bI F u (by omega) (by omega);obtain⟨h,g,K,D,_⟩:=a7 F I (J.mono (by omega:2*1+2*k+3<=2*k+5)) N (cO G) (by omega) (by omega) (by omega);refine⟨h,g,K.mono (by omega),?_⟩;refine cB Tryz.func132 (by kernel_rfl) rfl fun E f=>?_
 conv=>cbv
 refine cL f cS ⟨⟨rfl,rfl,rfl,rfl,rfl,rfl,trivial⟩,trivial⟩ ?_;try conv=>cbv
 refine cL f v ⟨t4,t4,trivial⟩ ?_;try conv=>cbv
 refine .inr (.inr (.inr (.inl ⟨0,.var 0 [.int .i64 0],[.one (.Am 0 0 0),.agg [.sl (.sl AA) r,.sl AA j],.one (.int .i64 0)],.agg [.sl (.sl AA) r,.sl AA j],fun _=>⟨rfl,⟨⟨⟨rfl,rfl⟩,rfl⟩,t2,rfl,trivial⟩⟩,fun _=>E4 f (bu),?_⟩)));try conv=>cbv
 refine cL f B ⟨t2,t2,trivial⟩ ?_;try conv=>cbv
 refine .inr (.inr (.inr (.inl ⟨0,.var 0 [.int .i64 0],[.one (.Am 0 0 0),.agg [.sl (.sl AA) s,.sl AA n],.one (.int .i64 0)],.agg [.sl (.sl AA) s,.sl AA n],fun _=>⟨rfl,⟨⟨⟨rfl,rfl⟩,rfl⟩,t2,rfl,trivial⟩⟩,fun _=>E4 f (bu),?_⟩)));try conv=>cbv
 refine⟨fun _=>Et (by kernel_rfl),?_⟩;refine cL f C ⟨t4,trivial⟩ ?_;try conv=>cbv
 refine .inr (.inr (.inr (.inl ⟨0,.var 0 [.int .i64 0],[.one (.Am 0 0 0),.agg [.sl (.sl AA) t,.sl AA o],.one (.int .i64 0)],.agg [.sl (.sl AA) t,.sl AA o],fun _=>⟨rfl,⟨⟨⟨rfl,rfl⟩,rfl⟩,t2,rfl,trivial⟩⟩,fun _=>E4 f (bu),?_⟩)));try conv=>cbv
 refine cL f D ⟨t2,t2,trivial⟩ ?_;try conv=>cbv
 refine .inr (.inr (.inr (.inl ⟨0,.var 0 [.int .i64 0],[.one (.Am 0 0 0),.agg [.sl (.sl AA) h,.sl AA g],.one (.int .i64 0)],.agg [.sl (.sl AA) h,.sl AA g],fun _=>⟨rfl,⟨⟨⟨rfl,rfl⟩,rfl⟩,t2,rfl,trivial⟩⟩,fun _=>E4 f (bu),?_⟩)));try conv=>cbv
 refine⟨fun _=>Et (by kernel_rfl),?_⟩;refine fun _=>⟨⟨⟨t3,trivial⟩,rfl,by simp⟩,rfl⟩
theorem dL {TT:List (List Rat)->Prop} {w:List (List Rat)} {R b c M q p k l m m':Nat} (F:Fm TT w R b c M q p) {T1 T2 T3 T4 T5:List LR} {A1 A2 A3 A4 A5:LR} {α β γ x y:Re} (v:bh TT w b k l T1 A1 T2 A2 T3 A3 α β γ) (J:Vm TT w b m m' T4 A4 T5 A5 x y) (U:¬(α=0/\β=0)) {d:Nat} (Z:q*(2*k+5)+p<=d) (hi:d+c+1<=M) {t:Int} (ht: -9223372036854775808<=t/\t<9223372036854775808) (K:Bq (t:Rat)) (h3:2*k+l+m+m'+d+c+12<=M):∃T A G B,Vm TT w b (k+l+2*m+m'+d+11) (2*k+l+m+2*m'+d+10) T A G B (x-α*(bm α β γ x y*Re.ofRat (t:Rat))) (y-β*(bm α β γ x y*Re.ofRat (t:Rat)))/\CF 78 [.agg [.sl (.sl AA) T1,.sl AA A1,.sl (.sl AA) T2,.sl AA A2,.sl (.sl AA) T3,.sl AA A3],.agg [.sl (.sl AA) T4,.sl AA A4,.sl (.sl AA) T5,.sl AA A5],.one (.int .i64 t)] (.AF [(true,[.sl (.sl AA) T,.sl AA A,.sl (.sl AA) G,.sl AA B]),(false,[.int .i64 0])]):=by
 obtain⟨L,r⟩:=Bu (em [] (Re.ofRat (t:Rat)));have V:Nm TT w b 1 [] L (Re.ofRat (t:Rat)):=r ▸ Hi F (by omega) (HF K F.hb);have hn:Vm TT w b 1 k T1 A1 T2 A2 α β:=⟨v.x,v.y⟩;obtain⟨O,N,W,P⟩:=db F v J U Z hi (by omega) (by omega);obtain⟨H,C,X,Q,_⟩:=GL F W V (by omega) (by omega);obtain⟨I,D,o,n,Y,S⟩:=aF F hn X (by omega) (by omega) (by omega);obtain⟨h,f,i,g,u,s⟩:=bJ F J Y (by omega) (by omega) (by omega) (by omega);refine⟨h,f,i,g,u.mono (by omega) (by omega),?_⟩;refine bj Tryz.func78 (by kernel_rfl) rfl fun E j=>?_
 conv=>cbv
 refine .inr (.inr (.inr (.inl ⟨11,.var 1 [.int .i64 0],[.one (.Am 0 0 0),.agg [.sl (.sl AA) T1,.sl AA A1,.sl (.sl AA) T2,.sl AA A2,.sl (.sl AA) T3,.sl AA A3],.agg [.sl (.sl AA) T4,.sl AA A4,.sl (.sl AA) T5,.sl AA A5]],.agg [.sl (.sl AA) O,.sl AA N],fun _=>⟨rfl,⟨⟨⟨rfl,rfl⟩,rfl⟩,⟨rfl,rfl,rfl,rfl,rfl,rfl,trivial⟩,t4,trivial⟩⟩,fun _=>E4 j (P),?_⟩)));try conv=>cbv
 refine cL j (ag ht (ZG K) r) t1 ?_;try conv=>cbv
 refine cL j Q ⟨t2,t2,trivial⟩ ?_;try conv=>cbv
 refine .inr (.inr (.inr (.inl ⟨11,.var 1 [.int .i64 0],[.one (.Am 0 0 0),.agg [.sl (.sl AA) H,.sl AA C],.one (.int .i64 0)],.agg [.sl (.sl AA) H,.sl AA C],fun _=>⟨rfl,⟨⟨⟨rfl,rfl⟩,rfl⟩,t2,rfl,trivial⟩⟩,fun _=>E4 j (bu),?_⟩)));try conv=>cbv
 refine cL j cS ⟨⟨rfl,rfl,rfl,rfl,rfl,rfl,trivial⟩,trivial⟩ ?_;try conv=>cbv
 refine cL j S ⟨t4,t2,trivial⟩ ?_;try conv=>cbv
 refine .inr (.inr (.inr (.inl ⟨11,.var 1 [.int .i64 0],[.one (.Am 0 0 0),.agg [.sl (.sl AA) I,.sl AA D,.sl (.sl AA) o,.sl AA n],.one (.int .i64 0)],.agg [.sl (.sl AA) I,.sl AA D,.sl (.sl AA) o,.sl AA n],fun _=>⟨rfl,⟨⟨⟨rfl,rfl⟩,rfl⟩,t4,rfl,trivial⟩⟩,fun _=>E4 j (cD),?_⟩)));try conv=>cbv
 refine cL j s ⟨t4,t4,trivial⟩ ?_;try conv=>cbv
 refine .inr (.inr (.inr (.inl ⟨11,.var 1 [.int .i64 0],[.one (.Am 0 0 0),.agg [.sl (.sl AA) h,.sl AA f,.sl (.sl AA) i,.sl AA g],.one (.int .i64 0)],.agg [.sl (.sl AA) h,.sl AA f,.sl (.sl AA) i,.sl AA g],fun _=>⟨rfl,⟨⟨⟨rfl,rfl⟩,rfl⟩,t4,rfl,trivial⟩⟩,fun _=>E4 j (cD),?_⟩)));try conv=>cbv
 refine .inr (.inr (.inr (.inl ⟨11,.var 1 [.int .i64 0],[.one (.Am 0 0 0),.agg [.sl (.sl AA) h,.sl AA f,.sl (.sl AA) i,.sl AA g]],.AF [(true,[.sl (.sl AA) h,.sl AA f,.sl (.sl AA) i,.sl AA g]),(false,[.int .i64 0])],fun _=>⟨rfl,⟨⟨⟨rfl,rfl⟩,rfl⟩,t4,trivial⟩⟩,fun _=>E4 j (de),?_⟩)));try conv=>cbv
 refine⟨fun _=>Et (by kernel_rfl),?_⟩;exact fA ⟨⟨rfl,rfl,rfl,rfl,rfl,trivial⟩,t2,trivial⟩ rfl (by simp)
theorem cV {TT:List (List Rat)->Prop} {w:List (List Rat)} {R b c M q p k l m m':Nat} (F:Fm TT w R b c M q p) {T1 T2 T3 T4 T5:List LR} {A1 A2 A3 A4 A5:LR} {α β γ x y:Re} (G:bh TT w b k l T1 A1 T2 A2 T3 A3 α β γ) (B:Vm TT w b m m' T4 A4 T5 A5 x y) (r:¬(α=0/\β=0)) {d:Nat} (C:q*(2*k+5)+p<=d) (D:d+c+1<=M) (s:2*k+l+m+m'+d+c+12<=M):∃T A g f,Vm TT w b (k+l+2*m+m'+d+11) (2*k+l+m+2*m'+d+10) T A g f (x-α*(bm α β γ x y*Re.ofRat (((1:Int):Rat)))) (y-β*(bm α β γ x y*Re.ofRat (((1:Int):Rat))))/\CF 20 [.agg [.sl (.sl AA) T1,.sl AA A1,.sl (.sl AA) T2,.sl AA A2,.sl (.sl AA) T3,.sl AA A3],.agg [.sl (.sl AA) T4,.sl AA A4,.sl (.sl AA) T5,.sl AA A5]] (.AF [(true,[.sl (.sl AA) T,.sl AA A,.sl (.sl AA) g,.sl AA f]),(false,[.int .i64 0])]):=by
 obtain⟨j,h,n,i,u,o⟩:=dL F G B r C D (t:=1) (by decide) (by decide +kernel) s;refine⟨j,h,n,i,u,?_⟩;refine bj Tryz.func20 (by kernel_rfl) rfl fun E v=>?_
 conv=>cbv
 refine cL v o ⟨⟨rfl,rfl,rfl,rfl,rfl,rfl,trivial⟩,t4,rfl,trivial⟩ ?_;try conv=>cbv
 exact fA ⟨⟨rfl,rfl,rfl,rfl,rfl,trivial⟩,t2,trivial⟩ rfl (by simp)
theorem cR {TT:List (List Rat)->Prop} {w:List (List Rat)} {R b c M q p k l m m':Nat} (F:Fm TT w R b c M q p) {T1 T2 T3 T4 T5:List LR} {A1 A2 A3 A4 A5:LR} {α β γ x y:Re} (G:bh TT w b k l T1 A1 T2 A2 T3 A3 α β γ) (B:Vm TT w b m m' T4 A4 T5 A5 x y) (r:¬(α=0/\β=0)) {d:Nat} (C:q*(2*k+5)+p<=d) (D:d+c+1<=M) (s:2*k+l+m+m'+d+c+12<=M):∃T A g f,Vm TT w b (k+l+2*m+m'+d+11) (2*k+l+m+2*m'+d+10) T A g f (x-α*(bm α β γ x y*Re.ofRat (((2:Int):Rat)))) (y-β*(bm α β γ x y*Re.ofRat (((2:Int):Rat))))/\CF 22 [.agg [.sl (.sl AA) T1,.sl AA A1,.sl (.sl AA) T2,.sl AA A2,.sl (.sl AA) T3,.sl AA A3],.agg [.sl (.sl AA) T4,.sl AA A4,.sl (.sl AA) T5,.sl AA A5]] (.AF [(true,[.sl (.sl AA) T,.sl AA A,.sl (.sl AA) g,.sl AA f]),(false,[.int .i64 0])]):=by
 obtain⟨j,h,n,i,u,o⟩:=dL F G B r C D (t:=2) (by decide) (by decide +kernel) s;refine⟨j,h,n,i,u,?_⟩;refine bj Tryz.func22 (by kernel_rfl) rfl fun E v=>?_
 conv=>cbv
 refine cL v o ⟨⟨rfl,rfl,rfl,rfl,rfl,rfl,trivial⟩,t4,rfl,trivial⟩ ?_;try conv=>cbv
 exact fA ⟨⟨rfl,rfl,rfl,rfl,rfl,trivial⟩,t2,trivial⟩ rfl (by simp)
theorem cy {TT:List (List Rat)->Prop} {w:List (List Rat)} {R b c M q p k l m m':Nat} (F:Fm TT w R b c M q p) {T1 T2 T3 T4 T5:List LR} {A1 A2 A3 A4 A5:LR} {α β γ x y:Re} (g:bh TT w b k l T1 A1 T2 A2 T3 A3 α β γ) (u:Vm TT w b m m' T4 A4 T5 A5 x y) (K:k+l+m+m'+c+8<=M):∃T A,Nm TT w b (k+l+m+m'+5) T A (α*x+β*y-γ)/\Dc Tryz.prog 81 [.one (.Am 0 0 0),.agg [.sl (.sl AA) T1,.sl AA A1,.sl (.sl AA) T2,.sl AA A2,.sl (.sl AA) T3,.sl AA A3],.agg [.sl (.sl AA) T4,.sl AA A4,.sl (.sl AA) T5,.sl AA A5]] (.var 0 [.int .i64 0]) (.agg [.sl (.sl AA) T,.sl AA A]):=by
 obtain⟨o,h,G,v⟩:=bn F g.x u.x (by omega) (by omega);obtain⟨r,i,H,B⟩:=bn F g.y u.y (by omega) (by omega);obtain⟨s,j,I,C⟩:=cM F G H (by omega) (by omega);obtain⟨t,n,J,D⟩:=cN F I g.z (by omega) (by omega);refine⟨t,n,J.mono (by omega),?_⟩;refine cB Tryz.func81 (by kernel_rfl) rfl fun E f=>?_
 conv=>cbv
 refine .inr (.inr (.inr (.inl ⟨0,.var 0 [.int .i64 0],[.one (.Am 0 0 0),.agg [.sl (.sl AA) T1,.sl AA A1],.agg [.sl (.sl AA) T4,.sl AA A4]],.agg [.sl (.sl AA) o,.sl AA h],fun _=>⟨rfl,⟨⟨⟨rfl,rfl⟩,rfl⟩,t2,t2,trivial⟩⟩,fun _=>E4 f (v),?_⟩)));try conv=>cbv
 refine .inr (.inr (.inr (.inl ⟨0,.var 0 [.int .i64 0],[.one (.Am 0 0 0),.agg [.sl (.sl AA) T2,.sl AA A2],.agg [.sl (.sl AA) T5,.sl AA A5]],.agg [.sl (.sl AA) r,.sl AA i],fun _=>⟨rfl,⟨⟨⟨rfl,rfl⟩,rfl⟩,t2,t2,trivial⟩⟩,fun _=>E4 f (B),?_⟩)));try conv=>cbv
 refine .inr (.inr (.inr (.inl ⟨0,.var 0 [.int .i64 0],[.one (.Am 0 0 0),.agg [.sl (.sl AA) o,.sl AA h],.agg [.sl (.sl AA) r,.sl AA i]],.agg [.sl (.sl AA) s,.sl AA j],fun _=>⟨rfl,⟨⟨⟨rfl,rfl⟩,rfl⟩,t2,t2,trivial⟩⟩,fun _=>E4 f (C),?_⟩)));try conv=>cbv
 refine .inr (.inr (.inr (.inl ⟨0,.var 0 [.int .i64 0],[.one (.Am 0 0 0),.agg [.sl (.sl AA) s,.sl AA j],.agg [.sl (.sl AA) T3,.sl AA A3]],.agg [.sl (.sl AA) t,.sl AA n],fun _=>⟨rfl,⟨⟨⟨rfl,rfl⟩,rfl⟩,t2,t2,trivial⟩⟩,fun _=>E4 f (D),?_⟩)));try conv=>cbv
 refine⟨fun _=>Et (by kernel_rfl),?_⟩;refine fun _=>⟨⟨⟨t3,trivial⟩,rfl,by simp⟩,rfl⟩
theorem dR {TT:List (List Rat)->Prop} {w:List (List Rat)} {R b c M q p k l m m':Nat} (F:Fm TT w R b c M q p) {T1 T2 T3 T4 T5:List LR} {A1 A2 A3 A4 A5:LR} {α β γ x y:Re} (r:bh TT w b k l T1 A1 T2 A2 T3 A3 α β γ) (ha:Vm TT w b m m' T4 A4 T5 A5 x y) (h0:¬(α=0/\β=0)) {d:Nat} (hd:q*(2*k+5)+p<=d) (hi:d+c+1<=M) {t:Int} (ht: -9223372036854775808<=t/\t<9223372036854775808) (hs:Bq (t:Rat)) (h3:2*k+l+m+m'+d+c+12<=M):∃T A T' A',Vm TT w b (k+l+2*m+m'+d+11) (2*k+l+m+2*m'+d+10) T A T' A' (x-bm α β γ x y*Re.ofRat (t:Rat)*α) (y-bm α β γ x y*Re.ofRat (t:Rat)*β)/\CF 79 [.agg [.sl (.sl AA) T1,.sl AA A1,.sl (.sl AA) T2,.sl AA A2,.sl (.sl AA) T3,.sl AA A3],.agg [.sl (.sl AA) T4,.sl AA A4,.sl (.sl AA) T5,.sl AA A5],.one (.int .i64 t)] (.AF [(true,[.sl (.sl AA) T,.sl AA A,.sl (.sl AA) T',.sl AA A']),(false,[.int .i64 0])]):=by
 obtain⟨A6,J⟩:=Bu (em [] (Re.ofRat (t:Rat)));have h6:Nm TT w b 1 [] A6 (Re.ofRat (t:Rat)):=J ▸ Hi F (by omega) (HF hs F.hb);obtain⟨T7,A7,h7,c7⟩:=cy F r ha (by omega);obtain⟨T8,A8,h8,c8⟩:=bn F r.x r.x (by omega) (by omega);obtain⟨T9,A9,h9,c9⟩:=bn F r.y r.y (by omega) (by omega);obtain⟨C,s,U,K⟩:=cM F h8 h9 (by omega) (by omega);obtain⟨D,u,V,L⟩:=cK F h7 (U.mono (by omega:_<=2*k+5)) hd (cO h0) (by omega) (by omega) (by omega);obtain⟨o,n,I,N⟩:=bn F V h6 (by omega) (by omega);obtain⟨G,v,W,O⟩:=bn F I r.x (by omega) (by omega);obtain⟨i,g,X,P⟩:=cN F ha.x W (by omega) (by omega);obtain⟨H,B,Y,Q⟩:=bn F I r.y (by omega) (by omega);obtain⟨j,h,Z,S⟩:=cN F ha.y Y (by omega) (by omega);refine⟨i,g,j,h,⟨X.mono (by omega),Z.mono (by omega)⟩,?_⟩;refine bj Tryz.func79 (by kernel_rfl) rfl fun E f=>?_
 conv=>cbv
 refine .inr (.inr (.inr (.inl ⟨11,.var 1 [.int .i64 0],[.one (.Am 0 0 0),.agg [.sl (.sl AA) T1,.sl AA A1,.sl (.sl AA) T2,.sl AA A2,.sl (.sl AA) T3,.sl AA A3],.agg [.sl (.sl AA) T4,.sl AA A4,.sl (.sl AA) T5,.sl AA A5]],.agg [.sl (.sl AA) T7,.sl AA A7],fun _=>⟨rfl,⟨⟨⟨rfl,rfl⟩,rfl⟩,⟨rfl,rfl,rfl,rfl,rfl,rfl,trivial⟩,t4,trivial⟩⟩,fun _=>E4 f (c7),?_⟩)));try conv=>cbv
 refine .inr (.inr (.inr (.inl ⟨11,.var 1 [.int .i64 0],[.one (.Am 0 0 0),.agg [.sl (.sl AA) T1,.sl AA A1],.agg [.sl (.sl AA) T1,.sl AA A1]],.agg [.sl (.sl AA) T8,.sl AA A8],fun _=>⟨rfl,⟨⟨⟨rfl,rfl⟩,rfl⟩,t2,t2,trivial⟩⟩,fun _=>E4 f (c8),?_⟩)));try conv=>cbv
 refine .inr (.inr (.inr (.inl ⟨11,.var 1 [.int .i64 0],[.one (.Am 0 0 0),.agg [.sl (.sl AA) T2,.sl AA A2],.agg [.sl (.sl AA) T2,.sl AA A2]],.agg [.sl (.sl AA) T9,.sl AA A9],fun _=>⟨rfl,⟨⟨⟨rfl,rfl⟩,rfl⟩,t2,t2,trivial⟩⟩,fun _=>E4 f (c9),?_⟩)));try conv=>cbv
 refine .inr (.inr (.inr (.inl ⟨11,.var 1 [.int .i64 0],[.one (.Am 0 0 0),.agg [.sl (.sl AA) T8,.sl AA A8],.agg [.sl (.sl AA) T9,.sl AA A9]],.agg [.sl (.sl AA) C,.sl AA s],fun _=>⟨rfl,⟨⟨⟨rfl,rfl⟩,rfl⟩,t2,t2,trivial⟩⟩,fun _=>E4 f (K),?_⟩)));try conv=>cbv
 refine .inr (.inr (.inr (.inl ⟨11,.var 1 [.int .i64 0],[.one (.Am 0 0 0),.agg [.sl (.sl AA) T7,.sl AA A7],.agg [.sl (.sl AA) C,.sl AA s]],.agg [.sl (.sl AA) D,.sl AA u],fun _=>⟨rfl,⟨⟨⟨rfl,rfl⟩,rfl⟩,t2,t2,trivial⟩⟩,fun _=>E4 f (L),?_⟩)));try conv=>cbv
 refine⟨fun _=>Et (by kernel_rfl),?_⟩;refine cL f (Um ht J) t1 ?_;try conv=>cbv
 refine .inr (.inr (.inr (.inl ⟨11,.var 1 [.int .i64 0],[.one (.Am 0 0 0),.agg [.sl (.sl AA) D,.sl AA u],.agg [.sl (.sl AA) (([]:List LR)),.sl AA A6]],.agg [.sl (.sl AA) o,.sl AA n],fun _=>⟨rfl,⟨⟨⟨rfl,rfl⟩,rfl⟩,t2,t2,trivial⟩⟩,fun _=>E4 f (N),?_⟩)));try conv=>cbv
 refine⟨fun _=>Et (by kernel_rfl),?_⟩;refine .inr (.inr (.inr (.inl ⟨11,.var 1 [.int .i64 0],[.one (.Am 0 0 0),.agg [.sl (.sl AA) o,.sl AA n],.agg [.sl (.sl AA) T1,.sl AA A1]],.agg [.sl (.sl AA) G,.sl AA v],fun _=>⟨rfl,⟨⟨⟨rfl,rfl⟩,rfl⟩,t2,t2,trivial⟩⟩,fun _=>E4 f (O),?_⟩)));try conv=>cbv
 refine .inr (.inr (.inr (.inl ⟨11,.var 1 [.int .i64 0],[.one (.Am 0 0 0),.agg [.sl (.sl AA) T4,.sl AA A4],.agg [.sl (.sl AA) G,.sl AA v]],.agg [.sl (.sl AA) i,.sl AA g],fun _=>⟨rfl,⟨⟨⟨rfl,rfl⟩,rfl⟩,t2,t2,trivial⟩⟩,fun _=>E4 f (P),?_⟩)));try conv=>cbv
 refine .inr (.inr (.inr (.inl ⟨11,.var 1 [.int .i64 0],[.one (.Am 0 0 0),.agg [.sl (.sl AA) o,.sl AA n],.agg [.sl (.sl AA) T2,.sl AA A2]],.agg [.sl (.sl AA) H,.sl AA B],fun _=>⟨rfl,⟨⟨⟨rfl,rfl⟩,rfl⟩,t2,t2,trivial⟩⟩,fun _=>E4 f (Q),?_⟩)));try conv=>cbv
 refine .inr (.inr (.inr (.inl ⟨11,.var 1 [.int .i64 0],[.one (.Am 0 0 0),.agg [.sl (.sl AA) T5,.sl AA A5],.agg [.sl (.sl AA) H,.sl AA B]],.agg [.sl (.sl AA) j,.sl AA h],fun _=>⟨rfl,⟨⟨⟨rfl,rfl⟩,rfl⟩,t2,t2,trivial⟩⟩,fun _=>E4 f (S),?_⟩)));try conv=>cbv
 refine .inr (.inr (.inr (.inl ⟨11,.var 1 [.int .i64 0],[.one (.Am 0 0 0),.agg [.sl (.sl AA) i,.sl AA g],.agg [.sl (.sl AA) j,.sl AA h]],.AF [(true,[.sl (.sl AA) i,.sl AA g,.sl (.sl AA) j,.sl AA h]),(false,[.int .i64 0])],fun _=>⟨rfl,⟨⟨⟨rfl,rfl⟩,rfl⟩,t2,t2,trivial⟩⟩,fun _=>E4 f (dE),?_⟩)));try conv=>cbv
 refine⟨fun _=>Et (by kernel_rfl),?_⟩;exact fA ⟨⟨rfl,rfl,rfl,rfl,rfl,trivial⟩,t2,trivial⟩ rfl (by simp)
theorem eC {TT:List (List Rat)->Prop} {w:List (List Rat)} {R b c M q p k l m m':Nat} (F:Fm TT w R b c M q p) {T1 T2 T3 T4 T5:List LR} {A1 A2 A3 A4 A5:LR} {α β γ x y:Re} (G:bh TT w b k l T1 A1 T2 A2 T3 A3 α β γ) (B:Vm TT w b m m' T4 A4 T5 A5 x y) (r:¬(α=0/\β=0)) {d:Nat} (C:q*(2*k+5)+p<=d) (D:d+c+1<=M) (s:2*k+l+m+m'+d+c+12<=M):∃T A g f,Vm TT w b (k+l+2*m+m'+d+11) (2*k+l+m+2*m'+d+10) T A g f (x-bm α β γ x y*Re.ofRat (((1:Int):Rat))*α) (y-bm α β γ x y*Re.ofRat (((1:Int):Rat))*β)/\CF 21 [.agg [.sl (.sl AA) T1,.sl AA A1,.sl (.sl AA) T2,.sl AA A2,.sl (.sl AA) T3,.sl AA A3],.agg [.sl (.sl AA) T4,.sl AA A4,.sl (.sl AA) T5,.sl AA A5]] (.AF [(true,[.sl (.sl AA) T,.sl AA A,.sl (.sl AA) g,.sl AA f]),(false,[.int .i64 0])]):=by
 obtain⟨j,h,n,i,u,o⟩:=dR F G B r C D (t:=1) (by decide) (by decide +kernel) s;refine⟨j,h,n,i,u,?_⟩;refine bj Tryz.func21 (by kernel_rfl) rfl fun E v=>?_
 conv=>cbv
 refine cL v o ⟨⟨rfl,rfl,rfl,rfl,rfl,rfl,trivial⟩,t4,rfl,trivial⟩ ?_;try conv=>cbv
 exact fA ⟨⟨rfl,rfl,rfl,rfl,rfl,trivial⟩,t2,trivial⟩ rfl (by simp)
theorem eD {TT:List (List Rat)->Prop} {w:List (List Rat)} {R b c M q p k l m m':Nat} (F:Fm TT w R b c M q p) {T1 T2 T3 T4 T5:List LR} {A1 A2 A3 A4 A5:LR} {α β γ x y:Re} (G:bh TT w b k l T1 A1 T2 A2 T3 A3 α β γ) (B:Vm TT w b m m' T4 A4 T5 A5 x y) (r:¬(α=0/\β=0)) {d:Nat} (C:q*(2*k+5)+p<=d) (D:d+c+1<=M) (s:2*k+l+m+m'+d+c+12<=M):∃T A g f,Vm TT w b (k+l+2*m+m'+d+11) (2*k+l+m+2*m'+d+10) T A g f (x-bm α β γ x y*Re.ofRat (((2:Int):Rat))*α) (y-bm α β γ x y*Re.ofRat (((2:Int):Rat))*β)/\CF 23 [.agg [.sl (.sl AA) T1,.sl AA A1,.sl (.sl AA) T2,.sl AA A2,.sl (.sl AA) T3,.sl AA A3],.agg [.sl (.sl AA) T4,.sl AA A4,.sl (.sl AA) T5,.sl AA A5]] (.AF [(true,[.sl (.sl AA) T,.sl AA A,.sl (.sl AA) g,.sl AA f]),(false,[.int .i64 0])]):=by
 obtain⟨j,h,n,i,u,o⟩:=dR F G B r C D (t:=2) (by decide) (by decide +kernel) s;refine⟨j,h,n,i,u,?_⟩;refine bj Tryz.func23 (by kernel_rfl) rfl fun E v=>?_
 conv=>cbv
 refine cL v o ⟨⟨rfl,rfl,rfl,rfl,rfl,rfl,trivial⟩,t4,rfl,trivial⟩ ?_;try conv=>cbv
 exact fA ⟨⟨rfl,rfl,rfl,rfl,rfl,trivial⟩,t2,trivial⟩ rfl (by simp)
theorem eE {TT:List (List Rat)->Prop} {w:List (List Rat)} {R b c M q p k l m m':Nat} (F:Fm TT w R b c M q p) {T1 T2 T3 T4 T5:List LR} {A1 A2 A3 A4 A5:LR} {α β γ x y:Re} (n:bh TT w b k l T1 A1 T2 A2 T3 A3 α β γ) (V:Vm TT w b m m' T4 A4 T5 A5 x y) (P:¬(α=0/\β=0)) {d:Nat} (W:q*(2*k+5)+p<=d) (Y:d+c+1<=M) (X:2*(k+l+m+m')+c+14<=M):∃T A,Nm TT w b (2*(k+l+m+m')+d+12) T A ((α*x+β*y-γ)*(α*x+β*y-γ)*Dk (α*α+β*β))/\CF 25 [.agg [.sl (.sl AA) T1,.sl AA A1,.sl (.sl AA) T2,.sl AA A2,.sl (.sl AA) T3,.sl AA A3],.agg [.sl (.sl AA) T4,.sl AA A4,.sl (.sl AA) T5,.sl AA A5]] (.AF [(true,[.sl (.sl AA) T,.sl AA A]),(false,[.int .i64 0])]):=by
 obtain⟨r,o,J,L⟩:=cy F n V (by omega);obtain⟨G,B,Q,K⟩:=bn F J J (by omega) (by omega);obtain⟨H,C,S,N⟩:=bn F n.x n.x (by omega) (by omega);obtain⟨I,D,U,O⟩:=bn F n.y n.y (by omega) (by omega);obtain⟨j,i,u,s⟩:=cM F S U (by omega) (by omega);obtain⟨g,f,v,t⟩:=cK F Q (u.mono (by omega:_<=2*k+5)) W (cO P) (by omega) (by omega) (by omega);refine⟨g,f,v.mono (by omega),?_⟩;refine bj Tryz.func25 (by kernel_rfl) rfl fun E h=>?_
 conv=>cbv
 refine .inr (.inr (.inr (.inl ⟨9,.var 1 [.int .i64 0],[.one (.Am 0 0 0),.agg [.sl (.sl AA) T1,.sl AA A1,.sl (.sl AA) T2,.sl AA A2,.sl (.sl AA) T3,.sl AA A3],.agg [.sl (.sl AA) T4,.sl AA A4,.sl (.sl AA) T5,.sl AA A5]],.agg [.sl (.sl AA) r,.sl AA o],fun _=>⟨rfl,⟨⟨⟨rfl,rfl⟩,rfl⟩,⟨rfl,rfl,rfl,rfl,rfl,rfl,trivial⟩,t4,trivial⟩⟩,fun _=>E4 h (L),?_⟩)));try conv=>cbv
 refine .inr (.inr (.inr (.inl ⟨9,.var 1 [.int .i64 0],[.one (.Am 0 0 0),.agg [.sl (.sl AA) r,.sl AA o],.agg [.sl (.sl AA) r,.sl AA o]],.agg [.sl (.sl AA) G,.sl AA B],fun _=>⟨rfl,⟨⟨⟨rfl,rfl⟩,rfl⟩,t2,t2,trivial⟩⟩,fun _=>E4 h (K),?_⟩)));try conv=>cbv
 refine .inr (.inr (.inr (.inl ⟨9,.var 1 [.int .i64 0],[.one (.Am 0 0 0),.agg [.sl (.sl AA) T1,.sl AA A1],.agg [.sl (.sl AA) T1,.sl AA A1]],.agg [.sl (.sl AA) H,.sl AA C],fun _=>⟨rfl,⟨⟨⟨rfl,rfl⟩,rfl⟩,t2,t2,trivial⟩⟩,fun _=>E4 h (N),?_⟩)));try conv=>cbv
 refine .inr (.inr (.inr (.inl ⟨9,.var 1 [.int .i64 0],[.one (.Am 0 0 0),.agg [.sl (.sl AA) T2,.sl AA A2],.agg [.sl (.sl AA) T2,.sl AA A2]],.agg [.sl (.sl AA) I,.sl AA D],fun _=>⟨rfl,⟨⟨⟨rfl,rfl⟩,rfl⟩,t2,t2,trivial⟩⟩,fun _=>E4 h (O),?_⟩)));try conv=>cbv
 refine .inr (.inr (.inr (.inl ⟨9,.var 1 [.int .i64 0],[.one (.Am 0 0 0),.agg [.sl (.sl AA) H,.sl AA C],.agg [.sl (.sl AA) I,.sl AA D]],.agg [.sl (.sl AA) j,.sl AA i],fun _=>⟨rfl,⟨⟨⟨rfl,rfl⟩,rfl⟩,t2,t2,trivial⟩⟩,fun _=>E4 h (s),?_⟩)));try conv=>cbv
 refine .inr (.inr (.inr (.inl ⟨9,.var 1 [.int .i64 0],[.one (.Am 0 0 0),.agg [.sl (.sl AA) G,.sl AA B],.agg [.sl (.sl AA) j,.sl AA i]],.agg [.sl (.sl AA) g,.sl AA f],fun _=>⟨rfl,⟨⟨⟨rfl,rfl⟩,rfl⟩,t2,t2,trivial⟩⟩,fun _=>E4 h (t),?_⟩)));try conv=>cbv
 refine .inr (.inr (.inr (.inl ⟨9,.var 1 [.int .i64 0],[.one (.Am 0 0 0),.agg [.sl (.sl AA) g,.sl AA f]],.AF [(true,[.sl (.sl AA) g,.sl AA f]),(false,[.int .i64 0])],fun _=>⟨rfl,⟨⟨⟨rfl,rfl⟩,rfl⟩,t2,trivial⟩⟩,fun _=>E4 h (da),?_⟩)));try conv=>cbv
 refine⟨fun _=>Et (by kernel_rfl),?_⟩;exact fA ⟨t3,t2,trivial⟩ rfl (by simp)
theorem dt {TT:List (List Rat)->Prop} {w:List (List Rat)} {R b c M q p k l m m':Nat} (F:Fm TT w R b c M q p) {T1 T2 T3 T4 T5:List LR} {A1 A2 A3 A4 A5:LR} {α β γ x y:Re} (P:bh TT w b k l T1 A1 T2 A2 T3 A3 α β γ) (D:Vm TT w b m m' T4 A4 T5 A5 x y) (I:¬(α=0/\β=0)) {d:Nat} (N:q*(2*k+5)+p<=d) (O:d+c+1<=M) (J:2*k+l+m+m'+d+c+12<=M) (S:2*(k+l+3*m+m'+d+12)+c+2<=M) (U:2*(2*k+l+m+3*m'+d+11)+c+2<=M):∃T A,Nm TT w b (6*k+4*l+8*m+8*m'+4*d+49) T A ((x-(x-α*(bm α β γ x y*Re.ofRat (((1:Int):Rat)))))*(x-(x-α*(bm α β γ x y*Re.ofRat (((1:Int):Rat)))))+(y-(y-β*(bm α β γ x y*Re.ofRat (((1:Int):Rat)))))*(y-(y-β*(bm α β γ x y*Re.ofRat (((1:Int):Rat))))))/\CF 24 [.agg [.sl (.sl AA) T1,.sl AA A1,.sl (.sl AA) T2,.sl AA A2,.sl (.sl AA) T3,.sl AA A3],.agg [.sl (.sl AA) T4,.sl AA A4,.sl (.sl AA) T5,.sl AA A5]] (.AF [(true,[.sl (.sl AA) T,.sl AA A]),(false,[.int .i64 0])]):=by
 obtain⟨v,s,B,t,K,G⟩:=cV F P D I N O J;obtain⟨C,u,j,i,L,H⟩:=bJ F D K (by omega) (by omega) (by omega) (by omega);obtain⟨g,f,o,n⟩:=bI F L (by omega) (by omega);refine⟨g,f,o.mono (by omega),?_⟩;refine bj Tryz.func24 (by kernel_rfl) rfl fun E h=>?_
 conv=>cbv
 refine cL h G ⟨⟨rfl,rfl,rfl,rfl,rfl,rfl,trivial⟩,t4,trivial⟩ ?_;try conv=>cbv
 refine .inr (.inr (.inr (.inl ⟨10,.var 1 [.int .i64 0],[.one (.Am 0 0 0),.agg [.sl (.sl AA) v,.sl AA s,.sl (.sl AA) B,.sl AA t],.one (.int .i64 0)],.agg [.sl (.sl AA) v,.sl AA s,.sl (.sl AA) B,.sl AA t],fun _=>⟨rfl,⟨⟨⟨rfl,rfl⟩,rfl⟩,t4,rfl,trivial⟩⟩,fun _=>E4 h (cD),?_⟩)));try conv=>cbv
 refine cL h H ⟨t4,t4,trivial⟩ ?_;try conv=>cbv
 refine .inr (.inr (.inr (.inl ⟨10,.var 1 [.int .i64 0],[.one (.Am 0 0 0),.agg [.sl (.sl AA) C,.sl AA u,.sl (.sl AA) j,.sl AA i],.one (.int .i64 0)],.agg [.sl (.sl AA) C,.sl AA u,.sl (.sl AA) j,.sl AA i],fun _=>⟨rfl,⟨⟨⟨rfl,rfl⟩,rfl⟩,t4,rfl,trivial⟩⟩,fun _=>E4 h (cD),?_⟩)));try conv=>cbv
 refine cL h n ⟨t4,trivial⟩ ?_;try conv=>cbv
 refine .inr (.inr (.inr (.inl ⟨10,.var 1 [.int .i64 0],[.one (.Am 0 0 0),.agg [.sl (.sl AA) g,.sl AA f],.one (.int .i64 0)],.agg [.sl (.sl AA) g,.sl AA f],fun _=>⟨rfl,⟨⟨⟨rfl,rfl⟩,rfl⟩,t2,rfl,trivial⟩⟩,fun _=>E4 h (bu),?_⟩)));try conv=>cbv
 intro Q r;cases r.trans (show _=false by decide);conv=>cbv
 exact fA ⟨t3,t2,trivial⟩ rfl (by simp)
theorem cW {TT:List (List Rat)->Prop} {w:List (List Rat)} {R b c M q p k l m m':Nat} (F:Fm TT w R b c M q p) {T1 T2 T3 T4 T5:List LR} {A1 A2 A3 A4 A5:LR} {α β γ x y:Re} (i:bh TT w b k l T1 A1 T2 A2 T3 A3 α β γ) (u:Vm TT w b m m' T4 A4 T5 A5 x y) (B:2*(k+m+m'+4)+4*c+3<=M) (C:2*l+4*c+3<=M) {e:Bool} (he:e=true↔α*x+β*y=γ):CF 41 [.agg [.sl (.sl AA) T1,.sl AA A1,.sl (.sl AA) T2,.sl AA A2,.sl (.sl AA) T3,.sl AA A3],.agg [.sl (.sl AA) T4,.sl AA A4,.sl (.sl AA) T5,.sl AA A5]] (.one (.bool e)):=by
 have v:Vm TT w b 1 k T1 A1 T2 A2 α β:=⟨i.x,i.y⟩;obtain⟨n,j,t,o⟩:=aE F v u (by omega) (by omega);obtain⟨s,h,r,_⟩:=KW F t i.z (by omega) (by omega);have ee:e=s:=by rw[Bool.eq_iff_iff,he,h]
 refine bj Tryz.func41 (by kernel_rfl) rfl fun E f=>?_
 conv=>cbv
 refine cL f cS ⟨⟨rfl,rfl,rfl,rfl,rfl,rfl,trivial⟩,trivial⟩ ?_;try conv=>cbv
 refine cL f o ⟨t4,t4,trivial⟩ ?_;try conv=>cbv
 refine .inr (.inr (.inr (.inl ⟨10,.var 1 [.int .i64 0],[.one (.Am 0 0 0),.agg [.sl (.sl AA) n,.sl AA j],.one (.int .i64 0)],.agg [.sl (.sl AA) n,.sl AA j],fun _=>⟨rfl,⟨⟨⟨rfl,rfl⟩,rfl⟩,t2,rfl,trivial⟩⟩,fun _=>E4 f (bu),?_⟩)));try conv=>cbv
 refine⟨fun _=>Et (by kernel_rfl),?_⟩;intro A g;cases g.trans (show _=true by decide);conv=>cbv
 refine cL f r ⟨t2,t2,trivial⟩ ?_;try conv=>cbv
 exact fA ⟨⟨rfl,congrArg _ (ee),trivial⟩,trivial⟩ rfl (by simp)
theorem dr {TT:List (List Rat)->Prop} {w:List (List Rat)} {R b c M q p k l m m':Nat} (F:Fm TT w R b c M q p) {T1 T2 T3 T4 T5:List LR} {A1 A2 A3 A4 A5:LR} {α β γ x y:Re} (g:bh TT w b k l T1 A1 T2 A2 T3 A3 α β γ) (u:Vm TT w b m m' T4 A4 T5 A5 x y) (B:k+m'+m+c+8<=M) (C:2*l+4*c+3<=M) (he:α*x+β*y=γ):CF 41 [.agg [.sl (.sl AA) T1,.sl AA A1,.sl (.sl AA) T2,.sl AA A2,.sl (.sl AA) T3,.sl AA A3],.agg [.sl (.sl AA) T4,.sl AA A4,.sl (.sl AA) T5,.sl AA A5]] (.one (.bool true)):=by
 have v:Vm TT w b 1 k T1 A1 T2 A2 α β:=⟨g.x,g.y⟩;obtain⟨n,j,t,r⟩:=aE F v u (by omega) (by omega);obtain⟨s,i,o,_⟩:=KW F (t.shrink g.z he) g.z (by omega) (by omega);have ee:s=true:=i.2 he;rw[ee] at o;refine bj Tryz.func41 (by kernel_rfl) rfl fun E f=>?_
 conv=>cbv
 refine cL f cS ⟨⟨rfl,rfl,rfl,rfl,rfl,rfl,trivial⟩,trivial⟩ ?_;try conv=>cbv
 refine cL f r ⟨t4,t4,trivial⟩ ?_;try conv=>cbv
 refine .inr (.inr (.inr (.inl ⟨10,.var 1 [.int .i64 0],[.one (.Am 0 0 0),.agg [.sl (.sl AA) n,.sl AA j],.one (.int .i64 0)],.agg [.sl (.sl AA) n,.sl AA j],fun _=>⟨rfl,⟨⟨⟨rfl,rfl⟩,rfl⟩,t2,rfl,trivial⟩⟩,fun _=>E4 f (bu),?_⟩)));try conv=>cbv
 refine⟨fun _=>Et (by kernel_rfl),?_⟩;intro A h;cases h.trans (show _=true by decide);conv=>cbv
 refine cL f o ⟨t2,t2,trivial⟩ ?_;try conv=>cbv
 exact fA ⟨t2,trivial⟩ rfl (by simp)
theorem rOn {TT:List (List Rat)->Prop} {w:List (List Rat)} {R b c M q p k l m m':Nat} (F:Fm TT w R b c M q p) {T1 T2 T3 T4 T5:List LR} {A1 A2 A3 A4 A5:LR} {α β γ x y:Re} (v:bh TT w b k l T1 A1 T2 A2 T3 A3 α β γ) (u:Vm TT w b m m' T4 A4 T5 A5 x y) (C:k+l+m+m'+c+8<=M) {e:Bool} (he:e=true↔α*x+β*y=γ):CF 43 [.agg [.sl (.sl AA) T1,.sl AA A1,.sl (.sl AA) T2,.sl AA A2,.sl (.sl AA) T3,.sl AA A3],.agg [.sl (.sl AA) T4,.sl AA A4,.sl (.sl AA) T5,.sl AA A5]] (.one (.bool e)):=by
 obtain⟨o,n,t,r⟩:=cy F v u (by omega);obtain⟨D,i,_,s⟩:=KX F t (by omega);refine bj Tryz.func43 (by kernel_rfl) rfl fun E j=>?_
 conv=>cbv
 refine .inr (.inr (.inr (.inl ⟨8,.var 1 [.int .i64 0],[.one (.Am 0 0 0),.agg [.sl (.sl AA) T1,.sl AA A1,.sl (.sl AA) T2,.sl AA A2,.sl (.sl AA) T3,.sl AA A3],.agg [.sl (.sl AA) T4,.sl AA A4,.sl (.sl AA) T5,.sl AA A5]],.agg [.sl (.sl AA) o,.sl AA n],fun _=>⟨rfl,⟨⟨⟨rfl,rfl⟩,rfl⟩,⟨rfl,rfl,rfl,rfl,rfl,rfl,trivial⟩,t4,trivial⟩⟩,fun _=>E4 j (r),?_⟩)));try conv=>cbv
 intro A f;cases f.trans (show _=true by decide);conv=>cbv
 refine cL j s ⟨t2,trivial⟩ ?_;try conv=>cbv
 intro B g;conv=>cbv
 exact fA ⟨⟨rfl,congrArg _ (by rw[Bool.eq_iff_iff,he,g,beq_iff_eq,i,Ez];constructor <;> intro h <;> grind),trivial⟩,trivial⟩ rfl (by simp)
theorem dm {TT:List (List Rat)->Prop} {w:List (List Rat)} {R b c M q p k l:Nat} (F:Fm TT w R b c M q p) {T1 T2 T3:List LR} {A1 A2 A3:LR} {α β γ:Re} (g:bh TT w b k l T1 A1 T2 A2 T3 A3 α β γ) (n:k+c+1<=M) (m:c+2<=M):∃A,Vm TT w b k 1 T2 A T1 A1 (-β) α/\CF 47 [.agg [.sl (.sl AA) T1,.sl AA A1,.sl (.sl AA) T2,.sl AA A2,.sl (.sl AA) T3,.sl AA A3]] (.agg [.sl (.sl AA) T2,.sl AA A,.sl (.sl AA) T1,.sl AA A1]):=by
 have j:Vm TT w b 1 k T1 A1 T2 A2 α β:=⟨g.x,g.y⟩;obtain⟨A5,i,h⟩:=bG F j (by omega) (by omega);refine⟨A5,i,?_⟩;refine bj Tryz.func47 (by kernel_rfl) rfl fun E f=>?_
 conv=>cbv
 refine cL f cS ⟨⟨rfl,rfl,rfl,rfl,rfl,rfl,trivial⟩,trivial⟩ ?_;try conv=>cbv
 refine cL f h ⟨t4,trivial⟩ ?_;try conv=>cbv
 exact fA ⟨⟨rfl,rfl,rfl,rfl,rfl,trivial⟩,trivial⟩ rfl (by simp)
theorem eB {TT:List (List Rat)->Prop} {w:List (List Rat)} {R b c M q p k l:Nat} (F:Fm TT w R b c M q p) {T1 T2 T3:List LR} {A1 A2 A3:LR} {α β γ:Re} (f:bh TT w b k l T1 A1 T2 A2 T3 A3 α β γ) (m:k+c+1<=M) (j:c+2<=M):∃A,Vm TT w b k 1 T2 A T1 A1 (-β) α/\CF 48 [.agg [.sl (.sl AA) T1,.sl AA A1,.sl (.sl AA) T2,.sl AA A2,.sl (.sl AA) T3,.sl AA A3]] (.agg [.sl (.sl AA) T2,.sl AA A,.sl (.sl AA) T1,.sl AA A1]):=by
 obtain⟨A5,h,_,g⟩:=Hk F f.y (by omega);refine⟨A5,⟨h,f.x⟩,?_⟩;refine bj Tryz.func48 (by kernel_rfl) rfl fun E i=>?_
 conv=>cbv
 refine cL i g ⟨t2,trivial⟩ ?_;try conv=>cbv
 refine⟨fun _=>Et (by kernel_rfl),?_⟩;exact fA ⟨⟨rfl,rfl,rfl,rfl,rfl,trivial⟩,trivial⟩ rfl (by simp)
theorem dj {TT:List (List Rat)->Prop} {w:List (List Rat)} {R b c M q p k k' l l':Nat} (F:Fm TT w R b c M q p) {T1 T2 T3 T4:List LR} {A1 A2 A3 A4:LR} {x1 y1 x2 y2:Re} (J:Vm TT w b k k' T1 A1 T2 A2 x1 y1) (K:Vm TT w b l l' T3 A3 T4 A4 x2 y2) (hk:2*k+4*c+3<=M) (H:2*k'+4*c+3<=M) (hl:2*l+4*c+3<=M) (I:2*l'+4*c+3<=M) (Q:¬(x1=x2/\y1=y2)) {d:Nat} (Y:q*(l+k+1)+p<=d) (G:q*(l'+k'+1)+p<=d) (Z:d+c+1<=M) (h1:2*k+2*k'+2*l+2*l'+c+12<=M):∃T A O L m g,bh TT w b (l'+k'+d+2) (2*k+2*k'+2*l+2*l'+d+12) T A O L m g (un (x2-x1)) ((y2-y1)*Dk (fs (x2-x1) (y2-y1))) ((((x1+x2)*Re.ofRat (1/2))*(x2-x1)+((y1+y2)*Re.ofRat (1/2))*(y2-y1))*Dk (fs (x2-x1) (y2-y1)))/\CF 32 [.agg [.sl (.sl AA) T1,.sl AA A1,.sl (.sl AA) T2,.sl AA A2],.agg [.sl (.sl AA) T3,.sl AA A3,.sl (.sl AA) T4,.sl AA A4]] (.AF [(true,[.sl (.sl AA) T,.sl AA A,.sl (.sl AA) O,.sl AA L,.sl (.sl AA) m,.sl AA g]),(false,[.int .i64 0])]):=by
 obtain⟨T5,A5,v,s,W,S⟩:=bH F J K (by omega) (by omega);obtain⟨B,t,C,u,X,U⟩:=bJ F K J (by omega) (by omega) (by omega) (by omega);obtain⟨P,N,n,i,o,j,D,V⟩:=cP F W X Y G Z (by omega) (fun h=>Q ⟨by grind,by grind⟩);refine⟨P,N,n,i,o,j,⟨D.x,D.y.mono (by omega),D.z.mono (by omega)⟩,?_⟩;refine bj Tryz.func32 (by kernel_rfl) rfl fun E f=>?_
 conv=>cbv
 refine cL (r:= .one (.bool false)) f (bF F J K hk H hl I (e:=false) ⟨fun h=>(by cases h),fun h=>absurd h Q⟩) ⟨t4,t4,trivial⟩ ?_;try conv=>cbv
 refine cL f S ⟨t4,t4,trivial⟩ ?_;try conv=>cbv
 refine .inr (.inr (.inr (.inl ⟨12,.var 1 [.int .i64 0],[.one (.Am 0 0 0),.agg [.sl (.sl AA) T5,.sl AA A5,.sl (.sl AA) v,.sl AA s],.one (.int .i64 0)],.agg [.sl (.sl AA) T5,.sl AA A5,.sl (.sl AA) v,.sl AA s],fun _=>⟨rfl,⟨⟨⟨rfl,rfl⟩,rfl⟩,t4,rfl,trivial⟩⟩,fun _=>E4 f (cD),?_⟩)));try conv=>cbv
 refine cL f U ⟨t4,t4,trivial⟩ ?_;try conv=>cbv
 refine .inr (.inr (.inr (.inl ⟨12,.var 1 [.int .i64 0],[.one (.Am 0 0 0),.agg [.sl (.sl AA) B,.sl AA t,.sl (.sl AA) C,.sl AA u],.one (.int .i64 0)],.agg [.sl (.sl AA) B,.sl AA t,.sl (.sl AA) C,.sl AA u],fun _=>⟨rfl,⟨⟨⟨rfl,rfl⟩,rfl⟩,t4,rfl,trivial⟩⟩,fun _=>E4 f (cD),?_⟩)));try conv=>cbv
 refine .inr (.inr (.inr (.inl ⟨12,.var 1 [.int .i64 0],[.one (.Am 0 0 0),.agg [.sl (.sl AA) T5,.sl AA A5,.sl (.sl AA) v,.sl AA s],.agg [.sl (.sl AA) B,.sl AA t,.sl (.sl AA) C,.sl AA u]],.AF [(true,[.sl (.sl AA) P,.sl AA N,.sl (.sl AA) n,.sl AA i,.sl (.sl AA) o,.sl AA j]),(false,[.int .i64 0])],fun _=>⟨rfl,⟨⟨⟨rfl,rfl⟩,rfl⟩,t4,t4,trivial⟩⟩,fun _=>E4 f (V),?_⟩)));try conv=>cbv
 refine⟨fun _=>Et (by kernel_rfl),?_⟩;exact fA ⟨⟨rfl,rfl,rfl,rfl,rfl,rfl,rfl,trivial⟩,t2,trivial⟩ rfl (by simp)
theorem dk {TT:List (List Rat)->Prop} {w:List (List Rat)} {R b c M q p k k' l l':Nat} (F:Fm TT w R b c M q p) {T1 T2 T3 T4:List LR} {A1 A2 A3 A4:LR} {x1 y1 x2 y2:Re} (n:Vm TT w b k k' T1 A1 T2 A2 x1 y1) (o:Vm TT w b l l' T3 A3 T4 A4 x2 y2) (j:2*k+4*c+3<=M) (f:2*k'+4*c+3<=M) (m:2*l+4*c+3<=M) (g:2*l'+4*c+3<=M) (h:x1=x2/\y1=y2):CF 32 [.agg [.sl (.sl AA) T1,.sl AA A1,.sl (.sl AA) T2,.sl AA A2],.agg [.sl (.sl AA) T3,.sl AA A3,.sl (.sl AA) T4,.sl AA A4]] (.AF [(true,[.sl (.sl AA) (([]:List LR)),.sl AA (([]:LR)),.sl (.sl AA) (([]:List LR)),.sl AA (([]:LR)),.sl (.sl AA) (([]:List LR)),.sl AA (([]:LR))]),(false,[.int .i64 11])]):=by
 refine bj Tryz.func32 (by kernel_rfl) rfl fun E i=>?_
 conv=>cbv
 refine cL i (bF F n o j f m g (e:=true) ⟨fun _=>h,fun _=>rfl⟩) ⟨t4,t4,trivial⟩ ?_;try conv=>cbv
 exact fA ⟨⟨rfl,.inr (.inl ⟨_,rfl⟩),.inr (.inl ⟨_,rfl⟩),.inr (.inl ⟨_,rfl⟩),.inr (.inl ⟨_,rfl⟩),.inr (.inl ⟨_,rfl⟩),.inr (.inl ⟨_,rfl⟩),trivial⟩,t2,trivial⟩ rfl (by simp)
theorem dz {TT:List (List Rat)->Prop} {w:List (List Rat)} {R b c M q p k k' l l':Nat} (F:Fm TT w R b c M q p) {T1 T2 T3 T4:List LR} {A1 A2 A3 A4:LR} {x1 y1 x2 y2:Re} (i:Vm TT w b k k' T1 A1 T2 A2 x1 y1) (j:Vm TT w b l l' T3 A3 T4 A4 x2 y2) (hk:2*k+4*c+3<=M) (ai:2*k'+4*c+3<=M) (hl:2*l+4*c+3<=M) (aj:2*l'+4*c+3<=M) (h0:¬(x1=x2/\y1=y2)) {d:Nat} (hd:q*(l+k+3)+p<=d) (ah:q*(l'+k'+3)+p<=d) (hi:d+c+1<=M) (h1:2*k+2*k'+2*l+2*l'+c+12<=M):∃T A T' A' H m,bh TT w b (l'+k'+d+4) (2*k+2*k'+2*l+2*l'+d+8) T A T' A' H m (un (Re.ofRat ((2:Int):Rat)*(x2-x1))) (Re.ofRat ((2:Int):Rat)*(y2-y1)*Dk (fs (Re.ofRat ((2:Int):Rat)*(x2-x1)) (Re.ofRat ((2:Int):Rat)*(y2-y1)))) ((x2*x2+y2*y2-(x1*x1+y1*y1))*Dk (fs (Re.ofRat ((2:Int):Rat)*(x2-x1)) (Re.ofRat ((2:Int):Rat)*(y2-y1))))/\CF 33 [.agg [.sl (.sl AA) T1,.sl AA A1,.sl (.sl AA) T2,.sl AA A2],.agg [.sl (.sl AA) T3,.sl AA A3,.sl (.sl AA) T4,.sl AA A4]] (.AF [(true,[.sl (.sl AA) T,.sl AA A,.sl (.sl AA) T',.sl AA A',.sl (.sl AA) H,.sl AA m]),(false,[.int .i64 0])]):=by
 obtain⟨A5,V⟩:=Bu (em [] (Re.ofRat ((2:Int):Rat)));have h5:Nm TT w b 1 [] A5 (Re.ofRat ((2:Int):Rat)):=V ▸ Hi F (by omega) (HF (by decide +kernel) F.hb);have W:Re.ofRat ((2:Int):Rat)≠0:=fun e=>absurd (Re.GM.1 (show Re.ofRat ((2:Int):Rat)=Re.ofRat 0 from e)) (by decide)
 obtain⟨T6,A6,h6,c6⟩:=bn F j.x j.x (by omega) (by omega);obtain⟨T7,A7,h7,c7⟩:=bn F j.y j.y (by omega) (by omega);obtain⟨T8,A8,h8,c8⟩:=cM F h6 h7 (by omega) (by omega);obtain⟨T9,A9,h9,c9⟩:=bn F i.x i.x (by omega) (by omega);obtain⟨I,n,a8,X⟩:=bn F i.y i.y (by omega) (by omega);obtain⟨J,o,aa,Y⟩:=cM F h9 a8 (by omega) (by omega);obtain⟨K,s,ab,Z⟩:=cN F h8 aa (by omega) (by omega);obtain⟨L,t,ad,a1⟩:=cN F j.x i.x (by omega) (by omega);obtain⟨N,u,ae,a2⟩:=bn F h5 ad (by omega) (by omega);obtain⟨O,v,af,a5⟩:=cN F j.y i.y (by omega) (by omega);obtain⟨P,B,ag,a6⟩:=bn F h5 af (by omega) (by omega);obtain⟨Q,C,S,D,U,G,g,a7⟩:=dD F (ae.mono (by omega:_<=l+k+3)) (ag.mono (by omega:_<=l'+k'+3)) ab hd ah hi (by omega) (by omega) (by omega) (fun h=>h0 ⟨Classical.byContradiction fun h2=>Q5 W (fun e=>h2 (by grind)) h.1,Classical.byContradiction fun h2=>Q5 W (fun e=>h2 (by grind)) h.2⟩)
 refine⟨Q,C,S,D,U,G,⟨g.x,g.y.mono (by omega),g.z.mono (by omega)⟩,?_⟩;refine bj Tryz.func33 (by kernel_rfl) rfl fun E f=>?_
 conv=>cbv
 refine cL (r:= .one (.bool false)) f (bM F i j hk ai hl aj (e:=false) ⟨fun h=>(by cases h),fun h=>absurd h h0⟩) ⟨t4,t4,trivial⟩ ?_;try conv=>cbv
 refine cL f (Um (by decide) V) t1 ?_;try conv=>cbv
 refine .inr (.inr (.inr (.inl ⟨14,.var 1 [.int .i64 0],[.one (.Am 0 0 0),.agg [.sl (.sl AA) T3,.sl AA A3],.agg [.sl (.sl AA) T3,.sl AA A3]],.agg [.sl (.sl AA) T6,.sl AA A6],fun _=>⟨rfl,⟨⟨⟨rfl,rfl⟩,rfl⟩,t2,t2,trivial⟩⟩,fun _=>E4 f (c6),?_⟩)));try conv=>cbv
 refine .inr (.inr (.inr (.inl ⟨14,.var 1 [.int .i64 0],[.one (.Am 0 0 0),.agg [.sl (.sl AA) T4,.sl AA A4],.agg [.sl (.sl AA) T4,.sl AA A4]],.agg [.sl (.sl AA) T7,.sl AA A7],fun _=>⟨rfl,⟨⟨⟨rfl,rfl⟩,rfl⟩,t2,t2,trivial⟩⟩,fun _=>E4 f (c7),?_⟩)));try conv=>cbv
 refine .inr (.inr (.inr (.inl ⟨14,.var 1 [.int .i64 0],[.one (.Am 0 0 0),.agg [.sl (.sl AA) T6,.sl AA A6],.agg [.sl (.sl AA) T7,.sl AA A7]],.agg [.sl (.sl AA) T8,.sl AA A8],fun _=>⟨rfl,⟨⟨⟨rfl,rfl⟩,rfl⟩,t2,t2,trivial⟩⟩,fun _=>E4 f (c8),?_⟩)));try conv=>cbv
 refine .inr (.inr (.inr (.inl ⟨14,.var 1 [.int .i64 0],[.one (.Am 0 0 0),.agg [.sl (.sl AA) T1,.sl AA A1],.agg [.sl (.sl AA) T1,.sl AA A1]],.agg [.sl (.sl AA) T9,.sl AA A9],fun _=>⟨rfl,⟨⟨⟨rfl,rfl⟩,rfl⟩,t2,t2,trivial⟩⟩,fun _=>E4 f (c9),?_⟩)));try conv=>cbv
 refine .inr (.inr (.inr (.inl ⟨14,.var 1 [.int .i64 0],[.one (.Am 0 0 0),.agg [.sl (.sl AA) T2,.sl AA A2],.agg [.sl (.sl AA) T2,.sl AA A2]],.agg [.sl (.sl AA) I,.sl AA n],fun _=>⟨rfl,⟨⟨⟨rfl,rfl⟩,rfl⟩,t2,t2,trivial⟩⟩,fun _=>E4 f (X),?_⟩)));try conv=>cbv
 refine .inr (.inr (.inr (.inl ⟨14,.var 1 [.int .i64 0],[.one (.Am 0 0 0),.agg [.sl (.sl AA) T9,.sl AA A9],.agg [.sl (.sl AA) I,.sl AA n]],.agg [.sl (.sl AA) J,.sl AA o],fun _=>⟨rfl,⟨⟨⟨rfl,rfl⟩,rfl⟩,t2,t2,trivial⟩⟩,fun _=>E4 f (Y),?_⟩)));try conv=>cbv
 refine .inr (.inr (.inr (.inl ⟨14,.var 1 [.int .i64 0],[.one (.Am 0 0 0),.agg [.sl (.sl AA) T8,.sl AA A8],.agg [.sl (.sl AA) J,.sl AA o]],.agg [.sl (.sl AA) K,.sl AA s],fun _=>⟨rfl,⟨⟨⟨rfl,rfl⟩,rfl⟩,t2,t2,trivial⟩⟩,fun _=>E4 f (Z),?_⟩)));try conv=>cbv
 refine⟨fun _=>Et (by kernel_rfl),?_⟩;refine .inr (.inr (.inr (.inl ⟨14,.var 1 [.int .i64 0],[.one (.Am 0 0 0),.agg [.sl (.sl AA) T3,.sl AA A3],.agg [.sl (.sl AA) T1,.sl AA A1]],.agg [.sl (.sl AA) L,.sl AA t],fun _=>⟨rfl,⟨⟨⟨rfl,rfl⟩,rfl⟩,t2,t2,trivial⟩⟩,fun _=>E4 f (a1),?_⟩)));try conv=>cbv
 refine .inr (.inr (.inr (.inl ⟨14,.var 1 [.int .i64 0],[.one (.Am 0 0 0),.agg [.sl (.sl AA) (([]:List LR)),.sl AA A5],.agg [.sl (.sl AA) L,.sl AA t]],.agg [.sl (.sl AA) N,.sl AA u],fun _=>⟨rfl,⟨⟨⟨rfl,rfl⟩,rfl⟩,t2,t2,trivial⟩⟩,fun _=>E4 f (a2),?_⟩)));try conv=>cbv
 refine .inr (.inr (.inr (.inl ⟨14,.var 1 [.int .i64 0],[.one (.Am 0 0 0),.agg [.sl (.sl AA) T4,.sl AA A4],.agg [.sl (.sl AA) T2,.sl AA A2]],.agg [.sl (.sl AA) O,.sl AA v],fun _=>⟨rfl,⟨⟨⟨rfl,rfl⟩,rfl⟩,t2,t2,trivial⟩⟩,fun _=>E4 f (a5),?_⟩)));try conv=>cbv
 refine .inr (.inr (.inr (.inl ⟨14,.var 1 [.int .i64 0],[.one (.Am 0 0 0),.agg [.sl (.sl AA) (([]:List LR)),.sl AA A5],.agg [.sl (.sl AA) O,.sl AA v]],.agg [.sl (.sl AA) P,.sl AA B],fun _=>⟨rfl,⟨⟨⟨rfl,rfl⟩,rfl⟩,t2,t2,trivial⟩⟩,fun _=>E4 f (a6),?_⟩)));try conv=>cbv
 refine .inr (.inr (.inr (.inl ⟨14,.var 1 [.int .i64 0],[.one (.Am 0 0 0),.agg [.sl (.sl AA) N,.sl AA u],.agg [.sl (.sl AA) P,.sl AA B],.agg [.sl (.sl AA) K,.sl AA s]],.AF [(true,[.sl (.sl AA) Q,.sl AA C,.sl (.sl AA) S,.sl AA D,.sl (.sl AA) U,.sl AA G]),(false,[.int .i64 0])],fun _=>⟨rfl,⟨⟨⟨rfl,rfl⟩,rfl⟩,t2,t2,t2,trivial⟩⟩,fun _=>E4 f (a7),?_⟩)));try conv=>cbv
 refine⟨fun _=>Et (by kernel_rfl),?_⟩;exact fA ⟨⟨rfl,rfl,rfl,rfl,rfl,rfl,rfl,trivial⟩,t2,trivial⟩ rfl (by simp)
theorem eA {TT:List (List Rat)->Prop} {w:List (List Rat)} {R b c M q p k k' l l':Nat} (F:Fm TT w R b c M q p) {T1 T2 T3 T4:List LR} {A1 A2 A3 A4:LR} {x1 y1 x2 y2:Re} (n:Vm TT w b k k' T1 A1 T2 A2 x1 y1) (o:Vm TT w b l l' T3 A3 T4 A4 x2 y2) (j:2*k+4*c+3<=M) (f:2*k'+4*c+3<=M) (m:2*l+4*c+3<=M) (g:2*l'+4*c+3<=M) (h:x1=x2/\y1=y2):CF 33 [.agg [.sl (.sl AA) T1,.sl AA A1,.sl (.sl AA) T2,.sl AA A2],.agg [.sl (.sl AA) T3,.sl AA A3,.sl (.sl AA) T4,.sl AA A4]] (.AF [(true,[.sl (.sl AA) (([]:List LR)),.sl AA (([]:LR)),.sl (.sl AA) (([]:List LR)),.sl AA (([]:LR)),.sl (.sl AA) (([]:List LR)),.sl AA (([]:LR))]),(false,[.int .i64 11])]):=by
 refine bj Tryz.func33 (by kernel_rfl) rfl fun E i=>?_
 conv=>cbv
 refine cL i (bM F n o j f m g (e:=true) ⟨fun _=>h,fun _=>rfl⟩) ⟨t4,t4,trivial⟩ ?_;try conv=>cbv
 exact fA ⟨⟨rfl,.inr (.inl ⟨_,rfl⟩),.inr (.inl ⟨_,rfl⟩),.inr (.inl ⟨_,rfl⟩),.inr (.inl ⟨_,rfl⟩),.inr (.inl ⟨_,rfl⟩),.inr (.inl ⟨_,rfl⟩),trivial⟩,t2,trivial⟩ rfl (by simp)
theorem dM {TT:List (List Rat)->Prop} {w:List (List Rat)} {R b c M q p k k' l l' j:Nat} (F:Fm TT w R b c M q p) {T1 T2 T3 T4 T5:List LR} {A1 A2 A3 A4 A5:LR} {x1 y1 x2 y2 t:Re} (hp:Vm TT w b k k' T1 A1 T2 A2 x1 y1) (L:Vm TT w b l l' T3 A3 T4 A4 x2 y2) (ht:Nm TT w b j T5 A5 t) (W:¬(x2=0/\y2=0)) {d:Nat} (X:q*(l+l'+j+2)+p<=d) (hi:d+c+1<=M) (h1:k+k'+2*l+2*l'+2*j+c+8<=M):∃T A S N v n,bh TT w b (l+l'+j+d+3) (k+k'+2*l+2*l'+2*j+d+8) T A S N v n (un (y2+x2*t)) (-(x2+ -y2*t)*Dk (fs (y2+x2*t) (-(x2+ -y2*t)))) ((x1*(y2+x2*t)+y1* -(x2+ -y2*t))*Dk (fs (y2+x2*t) (-(x2+ -y2*t))))/\CF 17 [.agg [.sl (.sl AA) T1,.sl AA A1,.sl (.sl AA) T2,.sl AA A2],.agg [.sl (.sl AA) T3,.sl AA A3,.sl (.sl AA) T4,.sl AA A4],.agg [.sl (.sl AA) T5,.sl AA A5]] (.AF [(true,[.sl (.sl AA) T,.sl AA A,.sl (.sl AA) S,.sl AA N,.sl (.sl AA) v,.sl AA n]),(false,[.int .i64 0])]):=by
 obtain⟨A6,h6,Y⟩:=bG F L (by omega) (by omega);obtain⟨U,O,V,P,h7,Z⟩:=aF F h6 ht (by omega) (by omega) (by omega);obtain⟨H,Q,i,g,h9,c9⟩:=aD F L h7 (by omega) (by omega) (by omega) (by omega);obtain⟨G,K,I⟩:=cX F h9 (by omega) (by omega);obtain⟨B,o,C,s,D,u,m,J⟩:=cP F hp (K.mono (by omega:_<=l+l'+j+2) (by omega:_<=l+l'+j+2)) X X hi (by omega) (fun h=>cm (t:=t) W ⟨by grind,by grind⟩);refine⟨B,o,C,s,D,u,⟨m.x,m.y.mono (by omega),m.z.mono (by omega)⟩,?_⟩;refine bj Tryz.func17 (by kernel_rfl) rfl fun E f=>?_
 conv=>cbv
 refine cL (r:= .one (.bool false)) f (bK F L (by omega) (by omega) (e:=false) ⟨fun h=>(by cases h),fun h=>absurd h W⟩) ⟨t4,trivial⟩ ?_;try conv=>cbv
 refine cL f Y ⟨t4,trivial⟩ ?_;try conv=>cbv
 refine cL f Z ⟨t4,t2,trivial⟩ ?_;try conv=>cbv
 refine .inr (.inr (.inr (.inl ⟨13,.var 1 [.int .i64 0],[.one (.Am 0 0 0),.agg [.sl (.sl AA) U,.sl AA O,.sl (.sl AA) V,.sl AA P],.one (.int .i64 0)],.agg [.sl (.sl AA) U,.sl AA O,.sl (.sl AA) V,.sl AA P],fun _=>⟨rfl,⟨⟨⟨rfl,rfl⟩,rfl⟩,t4,rfl,trivial⟩⟩,fun _=>E4 f (cD),?_⟩)));try conv=>cbv
 refine cL f c9 ⟨t4,t4,trivial⟩ ?_;try conv=>cbv
 refine .inr (.inr (.inr (.inl ⟨13,.var 1 [.int .i64 0],[.one (.Am 0 0 0),.agg [.sl (.sl AA) H,.sl AA Q,.sl (.sl AA) i,.sl AA g],.one (.int .i64 0)],.agg [.sl (.sl AA) H,.sl AA Q,.sl (.sl AA) i,.sl AA g],fun _=>⟨rfl,⟨⟨⟨rfl,rfl⟩,rfl⟩,t4,rfl,trivial⟩⟩,fun _=>E4 f (cD),?_⟩)));try conv=>cbv
 refine cL f I ⟨t4,trivial⟩ ?_;try conv=>cbv
 refine .inr (.inr (.inr (.inl ⟨13,.var 1 [.int .i64 0],[.one (.Am 0 0 0),.agg [.sl (.sl AA) T1,.sl AA A1,.sl (.sl AA) T2,.sl AA A2],.agg [.sl (.sl AA) i,.sl AA g,.sl (.sl AA) H,.sl AA G]],.AF [(true,[.sl (.sl AA) B,.sl AA o,.sl (.sl AA) C,.sl AA s,.sl (.sl AA) D,.sl AA u]),(false,[.int .i64 0])],fun _=>⟨rfl,⟨⟨⟨rfl,rfl⟩,rfl⟩,t4,t4,trivial⟩⟩,fun _=>E4 f (J),?_⟩)));try conv=>cbv
 refine⟨fun _=>Et (by kernel_rfl),?_⟩;exact fA ⟨⟨rfl,rfl,rfl,rfl,rfl,rfl,rfl,trivial⟩,t2,trivial⟩ rfl (by simp)
theorem dv {TT:List (List Rat)->Prop} {w:List (List Rat)} {R b c M q p k k' l l' j:Nat} (F:Fm TT w R b c M q p) {T1 T2 T3 T4 T5:List LR} {A1 A2 A3 A4 A5:LR} {x1 y1 x2 y2 t:Re} (n:Vm TT w b k k' T1 A1 T2 A2 x1 y1) (m:Vm TT w b l l' T3 A3 T4 A4 x2 y2) (ht:Nm TT w b j T5 A5 t) (i:l+c+1<=M) (f:l'+c+1<=M) (g:x2=0/\y2=0):CF 17 [.agg [.sl (.sl AA) T1,.sl AA A1,.sl (.sl AA) T2,.sl AA A2],.agg [.sl (.sl AA) T3,.sl AA A3,.sl (.sl AA) T4,.sl AA A4],.agg [.sl (.sl AA) T5,.sl AA A5]] (.AF [(true,[.sl (.sl AA) (([]:List LR)),.sl AA (([]:LR)),.sl (.sl AA) (([]:List LR)),.sl AA (([]:LR)),.sl (.sl AA) (([]:List LR)),.sl AA (([]:LR))]),(false,[.int .i64 6])]):=by
 refine bj Tryz.func17 (by kernel_rfl) rfl fun E h=>?_
 conv=>cbv
 refine cL h (bK F m i f (e:=true) ⟨fun _=>g,fun _=>rfl⟩) ⟨t4,trivial⟩ ?_;try conv=>cbv
 exact fA ⟨⟨rfl,.inr (.inl ⟨_,rfl⟩),.inr (.inl ⟨_,rfl⟩),.inr (.inl ⟨_,rfl⟩),.inr (.inl ⟨_,rfl⟩),.inr (.inl ⟨_,rfl⟩),.inr (.inl ⟨_,rfl⟩),trivial⟩,t2,trivial⟩ rfl (by simp)
theorem eI {TT:List (List Rat)->Prop} {w:List (List Rat)} {R b c M q p k k' l l' j:Nat} (F:Fm TT w R b c M q p) {T1 T2 T3 T4 T5:List LR} {A1 A2 A3 A4 A5:LR} {x1 y1 x2 y2 t:Re} (hp:Vm TT w b k k' T1 A1 T2 A2 x1 y1) (n:Vm TT w b l l' T3 A3 T4 A4 x2 y2) (ht:Nm TT w b j T5 A5 t) (U:¬(x2=0/\y2=0)) {d:Nat} (V:q*(l+l'+j+2)+p<=d) (hi:d+c+1<=M) (h1:k+k'+2*l+2*l'+2*j+c+8<=M):∃T A P L m i,bh TT w b (l+l'+j+d+3) (k+k'+2*l+2*l'+2*j+d+8) T A P L m i (un (-(y2+t*x2))) ((x2-t*y2)*Dk (fs (-(y2+t*x2)) (x2-t*y2))) ((-(y2+t*x2)*x1+(x2-t*y2)*y1)*Dk (fs (-(y2+t*x2)) (x2-t*y2)))/\CF 18 [.agg [.sl (.sl AA) T1,.sl AA A1,.sl (.sl AA) T2,.sl AA A2],.agg [.sl (.sl AA) T3,.sl AA A3,.sl (.sl AA) T4,.sl AA A4],.agg [.sl (.sl AA) T5,.sl AA A5]] (.AF [(true,[.sl (.sl AA) T,.sl AA A,.sl (.sl AA) P,.sl AA L,.sl (.sl AA) m,.sl AA i]),(false,[.int .i64 0])]):=by
 obtain⟨Q,N,h6,W⟩:=bn F ht n.y (by omega) (by omega);obtain⟨u,o,h7,X⟩:=cN F n.x h6 (by omega) (by omega);obtain⟨S,O,h8,Y⟩:=bn F ht n.x (by omega) (by omega);obtain⟨v,s,h9,Z⟩:=cM F n.y h8 (by omega) (by omega);have hu:Vm TT w b (l+l'+j+2) (l+l'+j+2) u o v s (x2-t*y2) (y2+t*x2):=⟨h7.mono (by omega),h9.mono (by omega)⟩;obtain⟨G,B,H,C,I,D,f,J⟩:=cw F hp hu (by omega) (by omega) (fun h=>cm (t:=t) U ⟨by grind,by grind⟩) V V hi (by omega);refine⟨G,B,H,C,I,D,⟨f.x,f.y.mono (by omega),f.z.mono (by omega)⟩,?_⟩;refine bj Tryz.func18 (by kernel_rfl) rfl fun E g=>?_
 conv=>cbv
 refine cL (r:= .one (.bool false)) g (bW F n (by omega) (by omega) (e:=false) ⟨fun h=>(by cases h),fun h=>absurd h U⟩) ⟨t4,trivial⟩ ?_;try conv=>cbv
 refine .inr (.inr (.inr (.inl ⟨15,.var 1 [.int .i64 0],[.one (.Am 0 0 0),.agg [.sl (.sl AA) T5,.sl AA A5],.agg [.sl (.sl AA) T4,.sl AA A4]],.agg [.sl (.sl AA) Q,.sl AA N],fun _=>⟨rfl,⟨⟨⟨rfl,rfl⟩,rfl⟩,t2,t2,trivial⟩⟩,fun _=>E4 g (W),?_⟩)));try conv=>cbv
 refine .inr (.inr (.inr (.inl ⟨15,.var 1 [.int .i64 0],[.one (.Am 0 0 0),.agg [.sl (.sl AA) T3,.sl AA A3],.agg [.sl (.sl AA) Q,.sl AA N]],.agg [.sl (.sl AA) u,.sl AA o],fun _=>⟨rfl,⟨⟨⟨rfl,rfl⟩,rfl⟩,t2,t2,trivial⟩⟩,fun _=>E4 g (X),?_⟩)));try conv=>cbv
 refine .inr (.inr (.inr (.inl ⟨15,.var 1 [.int .i64 0],[.one (.Am 0 0 0),.agg [.sl (.sl AA) T5,.sl AA A5],.agg [.sl (.sl AA) T3,.sl AA A3]],.agg [.sl (.sl AA) S,.sl AA O],fun _=>⟨rfl,⟨⟨⟨rfl,rfl⟩,rfl⟩,t2,t2,trivial⟩⟩,fun _=>E4 g (Y),?_⟩)));try conv=>cbv
 refine .inr (.inr (.inr (.inl ⟨15,.var 1 [.int .i64 0],[.one (.Am 0 0 0),.agg [.sl (.sl AA) T4,.sl AA A4],.agg [.sl (.sl AA) S,.sl AA O]],.agg [.sl (.sl AA) v,.sl AA s],fun _=>⟨rfl,⟨⟨⟨rfl,rfl⟩,rfl⟩,t2,t2,trivial⟩⟩,fun _=>E4 g (Z),?_⟩)));try conv=>cbv
 refine .inr (.inr (.inr (.inl ⟨15,.var 1 [.int .i64 0],[.one (.Am 0 0 0),.agg [.sl (.sl AA) u,.sl AA o],.agg [.sl (.sl AA) v,.sl AA s]],.AF [(true,[.sl (.sl AA) u,.sl AA o,.sl (.sl AA) v,.sl AA s]),(false,[.int .i64 0])],fun _=>⟨rfl,⟨⟨⟨rfl,rfl⟩,rfl⟩,t2,t2,trivial⟩⟩,fun _=>E4 g (dE),?_⟩)));try conv=>cbv
 refine⟨fun _=>Et (by kernel_rfl),?_⟩;intro a1 K;cases K.trans (show _=false by decide);conv=>cbv
 refine cL g J ⟨t4,t4,trivial⟩ ?_;try conv=>cbv
 exact fA ⟨⟨rfl,rfl,rfl,rfl,rfl,rfl,rfl,trivial⟩,t2,trivial⟩ rfl (by simp)
theorem eJ {TT:List (List Rat)->Prop} {w:List (List Rat)} {R b c M q p k k' l l' j:Nat} (F:Fm TT w R b c M q p) {T1 T2 T3 T4 T5:List LR} {A1 A2 A3 A4 A5:LR} {x1 y1 x2 y2 t:Re} (n:Vm TT w b k k' T1 A1 T2 A2 x1 y1) (m:Vm TT w b l l' T3 A3 T4 A4 x2 y2) (ht:Nm TT w b j T5 A5 t) (i:l+c+1<=M) (f:l'+c+1<=M) (g:x2=0/\y2=0):CF 18 [.agg [.sl (.sl AA) T1,.sl AA A1,.sl (.sl AA) T2,.sl AA A2],.agg [.sl (.sl AA) T3,.sl AA A3,.sl (.sl AA) T4,.sl AA A4],.agg [.sl (.sl AA) T5,.sl AA A5]] (.AF [(true,[.sl (.sl AA) (([]:List LR)),.sl AA (([]:LR)),.sl (.sl AA) (([]:List LR)),.sl AA (([]:LR)),.sl (.sl AA) (([]:List LR)),.sl AA (([]:LR))]),(false,[.int .i64 6])]):=by
 refine bj Tryz.func18 (by kernel_rfl) rfl fun E h=>?_
 conv=>cbv
 refine cL h (bW F m i f (e:=true) ⟨fun _=>g,fun _=>rfl⟩) ⟨t4,trivial⟩ ?_;try conv=>cbv
 exact fA ⟨⟨rfl,.inr (.inl ⟨_,rfl⟩),.inr (.inl ⟨_,rfl⟩),.inr (.inl ⟨_,rfl⟩),.inr (.inl ⟨_,rfl⟩),.inr (.inl ⟨_,rfl⟩),.inr (.inl ⟨_,rfl⟩),trivial⟩,t2,trivial⟩ rfl (by simp)
end Go.Abs
