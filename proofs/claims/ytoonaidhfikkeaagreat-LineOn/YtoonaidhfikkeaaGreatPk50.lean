/- Part 51 of a proof. Conditions: each theorem's own. -/
import Derived.Test.YtoonaidhfikkeaaGreatPk49
set_option linter.all false
set_option maxHeartbeats 8000000
open Go.Proofs
namespace Go.Abs
open Go.RowKit
section
variable {n m z n' m' z' x y x1 y1 x2 y2:Re}
theorem eR (h:¬(n=0/\m=0)):un n=n*Dk (fs n m):=by
 by_cases a:n=0
 ·rw[cI a,a];grind
 rw[cF a,cH a,HW a]
theorem cl (h:¬(n=0/\m=0)) (a:n'= -n) (em:m'= -m) (b:z'= -z):un n=un n'/\m*Dk (fs n m)=m'*Dk (fs n' m')/\z*Dk (fs n m)=z'*Dk (fs n' m'):=by
 rw[a,em,b];exact⟨eT.symm,(dO h).symm,(dO h).symm⟩
theorem dS {s:Re} (a:s≠0) (h:¬(n=0/\m=0)) (b:n'=s*n) (em:m'=s*m) (c:z'=s*z):un n=un n'/\m*Dk (fs n m)=m'*Dk (fs n' m')/\z*Dk (fs n m)=z'*Dk (fs n' m'):=by
 rw[b,em,c];exact⟨(eS a).symm,(dN a h).symm,(dN a h).symm⟩
noncomputable def tA (y1 y2:Re):Re:=un (y2-y1)
noncomputable def tB (x1 y1 x2 y2:Re):Re:= -(x2-x1)*Dk (fs (y2-y1) (-(x2-x1)))
noncomputable def tC (x1 y1 x2 y2:Re):Re:=(x1*(y2-y1)+y1* -(x2-x1))*Dk (fs (y2-y1) (-(x2-x1)))
theorem cQ (h:¬(x1=x2/\y1=y2)):¬(y2-y1=0/\ -(x2-x1)=0):=fun k=>h ⟨by grind,by grind⟩
theorem dU (h:¬(x1=x2/\y1=y2)):tA y1 y2=1\/tA y1 y2=0/\tB x1 y1 x2 y2=1:=cZ (cQ h)
theorem cz (h:¬(x1=x2/\y1=y2)):¬(tA y1 y2=0/\tB x1 y1 x2 y2=0):=fun⟨a,b⟩=>by
 rcases dU h with c |⟨_,c⟩
 ·exact cj (c.symm.trans a)
 exact cj (c.symm.trans b)
theorem dA (h:¬(x1=x2/\y1=y2)):tA y1 y2*x1+tB x1 y1 x2 y2*y1=tC x1 y1 x2 y2/\tA y1 y2*x2+tB x1 y1 x2 y2*y2=tC x1 y1 x2 y2:=by
 unfold tA tB tC;rw[eR (cQ h)]
 generalize Dk (fs (y2-y1) (-(x2-x1)))=i
 constructor <;> grind
end
abbrev LnD (TT:List (List Rat)->Prop) (w:List (List Rat)) (k l:Nat) (T1:List LR) (A1:LR) (T2:List LR) (A2:LR) (T3:List LR) (A3:LR) (x y z:Re):Prop:=bh TT w 700000 k l T1 A1 T2 A2 T3 A3 x y z
theorem bh.cast {TT:List (List Rat)->Prop} {w:List (List Rat)} {b k l:Nat} {T1 T2 T3:List LR} {A1 A2 A3:LR} {x y z x' y' z':Re} (h:bh TT w b k l T1 A1 T2 A2 T3 A3 x y z) (e:x=x'/\y=y'/\z=z'):bh TT w b k l T1 A1 T2 A2 T3 A3 x' y' z':=by obtain⟨rfl,rfl,rfl⟩:=e;exact h
theorem bh.mono {TT:List (List Rat)->Prop} {w:List (List Rat)} {b k l k' l':Nat} {T1 T2 T3:List LR} {A1 A2 A3:LR} {x y z:Re} (h:bh TT w b k l T1 A1 T2 A2 T3 A3 x y z) (a:k<=k') (c:l<=l'):bh TT w b k' l' T1 A1 T2 A2 T3 A3 x y z:=⟨h.x,h.y.mono a,h.z.mono c⟩
section
variable {α β γ x y i t h:Re}
theorem dF (a:¬(α=0/\β=0)):∃i,(α*α+β*β)*i=1/\∀x y,bm α β γ x y=(α*x+β*y-γ)*i:=⟨_,HW (cO a),fun _ _=>rfl⟩
theorem cn:Re.ofRat ((2:Int):Rat)=1+1:=by rw[show ((2:Int):Rat)=1+1 by decide +kernel,Re.ofRat_add];rfl
theorem cq:Re.ofRat (1/2)*(1+1)=1:=by rw[<-cn,<-Re.ofRat_mul,show (1/2:Rat)*((2:Int):Rat)=1 by decide +kernel];rfl
theorem dH (b:¬(α=0/\β=0)):(x-(x-α*(bm α β γ x y*Re.ofRat ((1:Int):Rat))))*(x-(x-α*(bm α β γ x y*Re.ofRat ((1:Int):Rat))))+(y-(y-β*(bm α β γ x y*Re.ofRat ((1:Int):Rat))))*(y-(y-β*(bm α β γ x y*Re.ofRat ((1:Int):Rat))))=(α*x+β*y-γ)*(α*x+β*y-γ)*Dk (α*α+β*β):=by
 have a:=HW (cO b);rw[show Re.ofRat ((1:Int):Rat)=1 from rfl];unfold bm
 generalize Dk (α*α+β*β)=i at*
 have e:(x-(x-α*((α*x+β*y-γ)*i*1)))*(x-(x-α*((α*x+β*y-γ)*i*1)))+(y-(y-β*((α*x+β*y-γ)*i*1)))*(y-(y-β*((α*x+β*y-γ)*i*1)))=(α*x+β*y-γ)*(α*x+β*y-γ)*i*((α*α+β*β)*i):=by grind
 rw[e,a];grind
theorem cf (b:¬(α=0/\β=0)):∀z s:Re,z-s*(bm α β γ (x-α*(bm α β γ x y*Re.ofRat ((2:Int):Rat))) (y-β*(bm α β γ x y*Re.ofRat ((2:Int):Rat)))*Re.ofRat ((2:Int):Rat))=z+s*(bm α β γ x y*Re.ofRat ((2:Int):Rat)):=fun z s=>by
 obtain⟨i,a,he⟩:=dF (γ:=γ) b;rw[cn,he,he];have e:(α*(x-α*((α*x+β*y-γ)*i*(1+1)))+β*(y-β*((α*x+β*y-γ)*i*(1+1)))-γ)*i=(α*x+β*y-γ)*i-(α*x+β*y-γ)*i*(1+1)*((α*α+β*β)*i):=by grind
 rw[e,a];grind
theorem df (b:¬(α=0/\β=0)):α*(x-α*(bm α β γ x y*Re.ofRat ((1:Int):Rat)))+β*(y-β*(bm α β γ x y*Re.ofRat ((1:Int):Rat)))=γ:=by
 obtain⟨i,a,he⟩:=dF (γ:=γ) b;rw[show Re.ofRat ((1:Int):Rat)=1 from rfl,he];have e:α*(x-α*((α*x+β*y-γ)*i*1))+β*(y-β*((α*x+β*y-γ)*i*1))=α*x+β*y-(α*x+β*y-γ)*((α*α+β*β)*i):=by grind
 rw[e,a];grind
theorem dG (h:α*x+β*y=γ):bm α β γ x y=0:=by unfold bm;rw[h];grind
end
theorem ck {T1 T2 T3 T4 T5 k:List LR} {A1 A2 A3 A4 A5 j:LR} {e:Int} (he:e≠0):CF 16 [.agg [.sl (.sl AA) T1,.sl AA A1,.sl (.sl AA) T2,.sl AA A2,.sl (.sl AA) T3,.sl AA A3],.one (.int .i64 e),.agg [.sl (.sl AA) T4,.sl AA A4,.sl (.sl AA) T5,.sl AA A5,.sl (.sl AA) k,.sl AA j],.one (.int .i64 e)] (.one (.bool true)):=by
 refine bj Tryz.func16 (by kernel_rfl) rfl fun E l=>?_
 conv=>cbv
 intro f a;conv=>cbv
 cases f <;> conv=>cbv
 ·have c:=Ab a;exact absurd rfl c
 have c:=Ad a;intro g b;conv=>cbv
 cases g <;> conv=>cbv
 ·have d:=DR b;exact absurd d he
 have d:=DS b;exact fA ⟨t2,trivial⟩ rfl (by simp)
theorem cd {TT:List (List Rat)->Prop} {w:List (List Rat)} (F:Fd TT w) {T1 T2 T3 T4 T5 d:List LR} {A1 A2 A3 A4 A5 c:LR} {x y z x' y' z':Re} {k l k' l':Nat} (g:bh TT w 700000 k l T1 A1 T2 A2 T3 A3 x y z) (hm:bh TT w 700000 k' l' T4 A4 T5 A5 d c x' y' z') (q:k<=300000) (r:l<=300000) (s:k'<=300000) (u:l'<=300000) (j:x=1\/x=0/\y=1) (he:x=x'/\y=y'/\z=z'):CF 16 [.agg [.sl (.sl AA) T1,.sl AA A1,.sl (.sl AA) T2,.sl AA A2,.sl (.sl AA) T3,.sl AA A3],.one (.int .i64 0),.agg [.sl (.sl AA) T4,.sl AA A4,.sl (.sl AA) T5,.sl AA A5,.sl (.sl AA) d,.sl AA c],.one (.int .i64 0)] (.one (.bool true)):=by
 refine bj Tryz.func16 (by kernel_rfl) rfl fun E f=>?_
 conv=>cbv
 intro o a;cases a.trans (show _=true by decide);conv=>cbv
 intro p b;cases b.trans (show _=false by decide);conv=>cbv
 refine cL f (eK F g (by omega) (by omega) (by decide) j) ⟨⟨rfl,rfl,rfl,rfl,rfl,rfl,trivial⟩,trivial⟩ ?_;try conv=>cbv
 refine cL f (dP F g hm (by omega) (by omega) (by omega) (by omega) (by decide) (e:=true) ⟨fun _=>⟨⟨he.1,he.2.1⟩,he.2.2⟩,fun _=>rfl⟩) ⟨⟨rfl,rfl,rfl,rfl,rfl,rfl,trivial⟩,⟨rfl,rfl,rfl,rfl,rfl,rfl,trivial⟩,trivial⟩ ?_;try conv=>cbv
 exact fA ⟨t2,trivial⟩ rfl (by simp)
theorem cu {TT:List (List Rat)->Prop} {w:List (List Rat)} (F:Fd TT w) {T1 T2 T3 T4:List LR} {A1 A2 A3 A4:LR} {x y x' y':Re} {k k' l l':Nat} (d:Vm TT w 700000 k k' T1 A1 T2 A2 x y) (j:Vm TT w 700000 l l' T3 A3 T4 A4 x' y') (q:k<=350000) (r:k'<=350000) (s:l<=350000) (u:l'<=350000) (f:x=x') (g:y=y'):CF 26 [.agg [.sl (.sl AA) T1,.sl AA A1,.sl (.sl AA) T2,.sl AA A2],.one (.int .i64 0),.agg [.sl (.sl AA) T3,.sl AA A3,.sl (.sl AA) T4,.sl AA A4],.one (.int .i64 0)] (.one (.bool true)):=by
 refine bj Tryz.func26 (by kernel_rfl) rfl fun E c=>?_
 conv=>cbv
 intro o a;cases a.trans (show _=true by decide);conv=>cbv
 intro p b;cases b.trans (show _=true by decide);conv=>cbv
 refine cL c (bV F d (by omega) (by omega)) ⟨t4,trivial⟩ ?_;try conv=>cbv
 refine cL c (bM F d j (by omega) (by omega) (by omega) (by omega) (e:=true) ⟨fun _=>⟨f,g⟩,fun _=>rfl⟩) ⟨t4,t4,trivial⟩ ?_;try conv=>cbv
 exact fA ⟨t2,trivial⟩ rfl (by simp)
theorem ct {TT:List (List Rat)->Prop} {w:List (List Rat)} (F:Fd TT w) {T1 T2 T3 T4:List LR} {A1 A2 A3 A4:LR} {x1 y1 x2 y2:Re} {k:Nat} (u:k<=400) (p:Vm TT w 700000 k k T1 A1 T2 A2 x1 y1) (q:Vm TT w 700000 k k T3 A3 T4 A4 x2 y2) {d:Nat} (s:23*(k+k+1)+14<=d) (r:d<=100000):∃g a j b l f e,((e=0/\¬(x1=x2/\y1=y2)/\bh TT w 700000 (2*k+d+2) (6*k+d+6) g a j b l f (tA y1 y2) (tB x1 y1 x2 y2) (tC x1 y1 x2 y2))\/(e=11/\x1=x2/\y1=y2))/\CF 29 [.agg [.sl (.sl AA) T1,.sl AA A1,.sl (.sl AA) T2,.sl AA A2],.agg [.sl (.sl AA) T3,.sl AA A3,.sl (.sl AA) T4,.sl AA A4]] (.AF [(true,[.sl (.sl AA) g,.sl AA a,.sl (.sl AA) j,.sl AA b,.sl (.sl AA) l,.sl AA f]),(false,[.int .i64 e])]):=by
 by_cases o:x1=x2/\y1=y2
 ·exact⟨[],[],[],[],[],[],11,.inr ⟨rfl,o⟩,du F p q (by omega) (by omega) (by omega) (by omega) o⟩
 obtain⟨_,_,_,_,_,_,h,c⟩:=cY F p q (by omega) (by omega) (by omega) (by omega) o (d:=d) (by omega) (by omega) (by omega) (by omega);exact⟨_,_,_,_,_,_,0,.inl ⟨rfl,o,(h.mono (by omega) (by omega)).cast ⟨rfl,rfl,rfl⟩⟩,c⟩
theorem ch {TT:List (List Rat)->Prop} {w:List (List Rat)} (F:Fd TT w) {T1 T2 T3 T4:List LR} {A1 A2 A3 A4:LR} {x1 y1 x2 y2:Re} {k:Nat} (A:k<=400) (r:Vm TT w 700000 k k T1 A1 T2 A2 x1 y1) (s:Vm TT w 700000 k k T3 A3 T4 A4 x2 y2) {d:Nat} (v:23*(k+k+1)+14<=d) (u:d<=100000):∃l f o g p j e,((e=0/\¬(x1=x2/\y1=y2)/\bh TT w 700000 (2*k+d+2) (6*k+d+6) l f o g p j (tA y1 y2) (tB x1 y1 x2 y2) (tC x1 y1 x2 y2))\/(e=11/\x1=x2/\y1=y2))/\CF 19 [.agg [.sl (.sl AA) T1,.sl AA A1,.sl (.sl AA) T2,.sl AA A2],.agg [.sl (.sl AA) T3,.sl AA A3,.sl (.sl AA) T4,.sl AA A4]] (.AF [(true,[.sl (.sl AA) l,.sl AA f,.sl (.sl AA) o,.sl AA g,.sl (.sl AA) p,.sl AA j]),(false,[.int .i64 e])]):=by
 by_cases q:x1=x2/\y1=y2
 ·exact⟨[],[],[],[],[],[],11,.inr ⟨rfl,q⟩,eH F r s (by omega) (by omega) (by omega) (by omega) q⟩
 obtain⟨_,_,_,_,_,_,h,c⟩:=eF F r s (by omega) (by omega) (by omega) (by omega) q (d:=d) (by omega) (by omega) (by omega) (by omega)
 exact⟨_,_,_,_,_,_,0,.inl ⟨rfl,q,(h.mono (by omega) (by omega)).cast (by
  obtain⟨a,b,c⟩:=cl (cQ q) (n':= -(y2+ -y1)) (m':=x2+ -x1) (z:=x1*(y2-y1)+y1* -(x2-x1)) (z':= -(y2+ -y1)*x1+(x2+ -x1)*y1) (by grind) (by grind) (by grind);exact⟨a.symm,b.symm,c.symm⟩)⟩,c⟩
theorem dW {TT:List (List Rat)->Prop} {w:List (List Rat)} (F:Fd TT w) {T1 T2 T3 T4:List LR} {A1 A2 A3 A4:LR} {x1 y1 x2 y2:Re} {k:Nat} (G:k<=400) (B:Vm TT w 700000 k k T1 A1 T2 A2 x1 y1) (C:Vm TT w 700000 k k T3 A3 T4 A4 x2 y2):∃q b r g s j e u l v o A p f,CF 30 [.agg [.sl (.sl AA) T1,.sl AA A1,.sl (.sl AA) T2,.sl AA A2],.agg [.sl (.sl AA) T3,.sl AA A3,.sl (.sl AA) T4,.sl AA A4]] (.AF [(true,[.sl (.sl AA) q,.sl AA b,.sl (.sl AA) r,.sl AA g,.sl (.sl AA) s,.sl AA j]),(false,[.int .i64 e])])/\CF 31 [.agg [.sl (.sl AA) T1,.sl AA A1,.sl (.sl AA) T2,.sl AA A2],.agg [.sl (.sl AA) T3,.sl AA A3,.sl (.sl AA) T4,.sl AA A4]] (.AF [(true,[.sl (.sl AA) u,.sl AA l,.sl (.sl AA) v,.sl AA o,.sl (.sl AA) A,.sl AA p]),(false,[.int .i64 f])])/\CF 16 [.agg [.sl (.sl AA) q,.sl AA b,.sl (.sl AA) r,.sl AA g,.sl (.sl AA) s,.sl AA j],.one (.int .i64 e),.agg [.sl (.sl AA) u,.sl AA l,.sl (.sl AA) v,.sl AA o,.sl (.sl AA) A,.sl AA p],.one (.int .i64 f)] (.one (.bool true)):=by
 by_cases a:x2=0/\y2=0
 ·exact⟨[],[],[],[],[],[],6,[],[],[],[],[],[],6,di F B C (by omega) (by omega) a,dy F B C (by omega) (by omega) a,ck (by decide)⟩
 obtain⟨_,_,_,_,_,_,h,c⟩:=dJ F B C (by omega) (by omega) a (d:=20000) (by omega) (by omega) (by omega) (by omega);obtain⟨_,_,_,_,_,_,h',D⟩:=cw F B C (by omega) (by omega) a (d:=20000) (by omega) (by omega) (by omega) (by omega);exact⟨_,_,_,_,_,_,0,_,_,_,_,_,_,0,c,D,cd F h h' (by omega) (by omega) (by omega) (by omega) (cZ (fun k=>a ⟨by grind,by grind⟩)) (cl (fun k=>a ⟨by grind,by grind⟩) (by grind) (by grind) (by grind))⟩
theorem dX {TT:List (List Rat)->Prop} {w:List (List Rat)} (F:Fd TT w) {T1 T2 T3 T4:List LR} {A1 A2 A3 A4:LR} {x1 y1 x2 y2:Re} {k:Nat} (I:k<=400) (C:Vm TT w 700000 k k T1 A1 T2 A2 x1 y1) (D:Vm TT w 700000 k k T3 A3 T4 A4 x2 y2):∃q b r g u j e v l A o B p f,CF 32 [.agg [.sl (.sl AA) T1,.sl AA A1,.sl (.sl AA) T2,.sl AA A2],.agg [.sl (.sl AA) T3,.sl AA A3,.sl (.sl AA) T4,.sl AA A4]] (.AF [(true,[.sl (.sl AA) q,.sl AA b,.sl (.sl AA) r,.sl AA g,.sl (.sl AA) u,.sl AA j]),(false,[.int .i64 e])])/\CF 33 [.agg [.sl (.sl AA) T1,.sl AA A1,.sl (.sl AA) T2,.sl AA A2],.agg [.sl (.sl AA) T3,.sl AA A3,.sl (.sl AA) T4,.sl AA A4]] (.AF [(true,[.sl (.sl AA) v,.sl AA l,.sl (.sl AA) A,.sl AA o,.sl (.sl AA) B,.sl AA p]),(false,[.int .i64 f])])/\CF 16 [.agg [.sl (.sl AA) q,.sl AA b,.sl (.sl AA) r,.sl AA g,.sl (.sl AA) u,.sl AA j],.one (.int .i64 e),.agg [.sl (.sl AA) v,.sl AA l,.sl (.sl AA) A,.sl AA o,.sl (.sl AA) B,.sl AA p],.one (.int .i64 f)] (.one (.bool true)):=by
 by_cases a:x1=x2/\y1=y2
 ·exact⟨[],[],[],[],[],[],11,[],[],[],[],[],[],11,dk F C D (by omega) (by omega) (by omega) (by omega) a,eA F C D (by omega) (by omega) (by omega) (by omega) a,ck (by decide)⟩
 obtain⟨_,_,_,_,_,_,h,c⟩:=dj F C D (by omega) (by omega) (by omega) (by omega) a (d:=20000) (by omega) (by omega) (by omega) (by omega);obtain⟨_,_,_,_,_,_,h',G⟩:=dz F C D (by omega) (by omega) (by omega) (by omega) a (d:=20000) (by omega) (by omega) (by omega) (by omega)
 exact⟨_,_,_,_,_,_,0,_,_,_,_,_,_,0,c,G,cd F h h' (by omega) (by omega) (by omega) (by omega) (cZ (fun k=>a ⟨by grind,by grind⟩)) (dS (s:=Re.ofRat ((2:Int):Rat)) (fun e=>absurd (Re.GM.1 (show Re.ofRat ((2:Int):Rat)=Re.ofRat 0 from e)) (by decide)) (fun k=>a ⟨by grind,by grind⟩) rfl rfl (by
  have H:Re.ofRat ((2:Int):Rat)*Re.ofRat (1/2)=1:=by rw[<-Re.ofRat_mul,show ((2:Int):Rat)*(1/2)=1 by decide +kernel];rfl
  generalize Re.ofRat ((2:Int):Rat)=s at*
  generalize Re.ofRat (1/2)=t at*
  grind))⟩
theorem eP {TT:List (List Rat)->Prop} {w:List (List Rat)} (F:Fd TT w) {T1 T2 T3 T4:List LR} {A1 A2 A3 A4:LR} {x1 y1 x2 y2:Re} {k:Nat} (D:k<=400) (G:Vm TT w 700000 k k T1 A1 T2 A2 x1 y1) (H:Vm TT w 700000 k k T3 A3 T4 A4 x2 y2) {d:Nat} (C:23*(k+k+1)+14<=d) (A:d<=100000):∃p a q b r g e s j u l v o f,CF 29 [.agg [.sl (.sl AA) T1,.sl AA A1,.sl (.sl AA) T2,.sl AA A2],.agg [.sl (.sl AA) T3,.sl AA A3,.sl (.sl AA) T4,.sl AA A4]] (.AF [(true,[.sl (.sl AA) p,.sl AA a,.sl (.sl AA) q,.sl AA b,.sl (.sl AA) r,.sl AA g]),(false,[.int .i64 e])])/\CF 19 [.agg [.sl (.sl AA) T1,.sl AA A1,.sl (.sl AA) T2,.sl AA A2],.agg [.sl (.sl AA) T3,.sl AA A3,.sl (.sl AA) T4,.sl AA A4]] (.AF [(true,[.sl (.sl AA) s,.sl AA j,.sl (.sl AA) u,.sl AA l,.sl (.sl AA) v,.sl AA o]),(false,[.int .i64 f])])/\CF 16 [.agg [.sl (.sl AA) p,.sl AA a,.sl (.sl AA) q,.sl AA b,.sl (.sl AA) r,.sl AA g],.one (.int .i64 e),.agg [.sl (.sl AA) s,.sl AA j,.sl (.sl AA) u,.sl AA l,.sl (.sl AA) v,.sl AA o],.one (.int .i64 f)] (.one (.bool true)):=by
 obtain⟨p,a,q,b,r,g,e,h,c⟩:=ct F D G H C A;obtain⟨s,j,u,l,v,o,f,h',I⟩:=ch F D G H C A;refine⟨p,a,q,b,r,g,e,s,j,u,l,v,o,f,c,I,?_⟩;rcases h with⟨rfl,B,h⟩ |⟨rfl,B⟩
 ·obtain⟨rfl,_,h'⟩:=h'.resolve_right (fun k=>B k.2);exact cd F h h' (by omega) (by omega) (by omega) (by omega) (dU B) ⟨rfl,rfl,rfl⟩
 obtain⟨rfl,_⟩:=h'.resolve_left (fun k=>k.2.1 B);exact ck (by decide)
theorem eQ {TT:List (List Rat)->Prop} {w:List (List Rat)} (F:Fd TT w) {T1 T2 T3 T4 T5:List LR} {A1 A2 A3 A4 A5:LR} {x1 y1 x2 y2 t:Re} {k:Nat} (G:k<=400) (B:Vm TT w 700000 k k T1 A1 T2 A2 x1 y1) (C:Vm TT w 700000 k k T3 A3 T4 A4 x2 y2) (ht:Nm TT w 700000 k T5 A5 t):∃q b r g s j e u l v o A p f,CF 17 [.agg [.sl (.sl AA) T1,.sl AA A1,.sl (.sl AA) T2,.sl AA A2],.agg [.sl (.sl AA) T3,.sl AA A3,.sl (.sl AA) T4,.sl AA A4],.agg [.sl (.sl AA) T5,.sl AA A5]] (.AF [(true,[.sl (.sl AA) q,.sl AA b,.sl (.sl AA) r,.sl AA g,.sl (.sl AA) s,.sl AA j]),(false,[.int .i64 e])])/\CF 18 [.agg [.sl (.sl AA) T1,.sl AA A1,.sl (.sl AA) T2,.sl AA A2],.agg [.sl (.sl AA) T3,.sl AA A3,.sl (.sl AA) T4,.sl AA A4],.agg [.sl (.sl AA) T5,.sl AA A5]] (.AF [(true,[.sl (.sl AA) u,.sl AA l,.sl (.sl AA) v,.sl AA o,.sl (.sl AA) A,.sl AA p]),(false,[.int .i64 f])])/\CF 16 [.agg [.sl (.sl AA) q,.sl AA b,.sl (.sl AA) r,.sl AA g,.sl (.sl AA) s,.sl AA j],.one (.int .i64 e),.agg [.sl (.sl AA) u,.sl AA l,.sl (.sl AA) v,.sl AA o,.sl (.sl AA) A,.sl AA p],.one (.int .i64 f)] (.one (.bool true)):=by
 by_cases a:x2=0/\y2=0
 ·exact⟨[],[],[],[],[],[],6,[],[],[],[],[],[],6,dv F B C ht (by omega) (by omega) a,eJ F B C ht (by omega) (by omega) a,ck (by decide)⟩
 obtain⟨_,_,_,_,_,_,h,c⟩:=dM F B C ht a (d:=30000) (by omega) (by omega) (by omega);obtain⟨_,_,_,_,_,_,h',D⟩:=eI F B C ht a (d:=30000) (by omega) (by omega) (by omega);exact⟨_,_,_,_,_,_,0,_,_,_,_,_,_,0,c,D,cd F h h' (by omega) (by omega) (by omega) (by omega) (cZ (fun k=>cm (t:=t) a ⟨by grind,by grind⟩)) (cl (fun k=>cm (t:=t) a ⟨by grind,by grind⟩) (by grind) (by grind) (by grind))⟩
theorem eZ {X:List (el Bi)} {W:List UInt8} {ns:List Nu} (L:ns=(runN (X.take 24)).1) {V:List Re} (k:V.length<=3) (o:∀n∈ns,BG V n):CF 6 [.agg [.sl Bi X,.sl .u8 W]] (.one (.bool true)):=by
 obtain⟨w,F⟩:=aq k o;obtain⟨Q,K⟩:∃z,z=Ke ns W:=⟨_,rfl⟩
 obtain⟨c,N⟩:=xB (decide (2<=Q.length));refine bj Tryz.func6 (by kernel_rfl) rfl fun E j=>?_
 conv=>cbv
 refine cL j (bR L k o K (i':=2) ⟨rfl⟩ (by decide) N) ⟨t2,rfl,trivial⟩ ?_;try conv=>cbv
 refine cL j cE trivial ?_;try conv=>cbv
 intro aC J;cases J.trans (rfl:_=false);conv=>cbv
 intro M v;conv=>cbv
 cases M <;> conv=>cbv
 ·have A:=Cr v;have hl:2<=Q.length:=of_decide_eq_true (N.symm.trans A);obtain⟨f,a⟩:=AG (l:=Q) (i:=0) (by omega);refine⟨f,fun _=>⟨by omega,a⟩,?_⟩;try conv=>cbv
  obtain⟨g,b⟩:=AG (l:=Q) (i:=1) (by omega);refine⟨g,fun _=>⟨by omega,b⟩,?_⟩;try conv=>cbv
  obtain⟨X0,Y0,s⟩:=bB F k o K a;obtain⟨X1,Y1,u⟩:=bB F k o K b;obtain⟨af,O,ag,P,ah,R,ea,ai,S,aj,T,ak,U,eb,B,C,p⟩:=eP F (by decide) s u (d:=3600) (by decide) (by decide);obtain⟨al,Y,an,Z,ao,a1,ec,ar,a2,au,a5,av,a6,ed,D,G,q⟩:=dW F (by decide) s u;obtain⟨aw,a7,ax,a8,ay,aa,ef,az,ab,aA,ad,aB,ae,eg,H,I,r⟩:=dX F (by decide) s u;refine cL j B ⟨t4,t4,trivial⟩ ?_;try conv=>cbv
  refine⟨fun _=>Et (by kernel_rfl),?_⟩;refine⟨f,fun _=>⟨by omega,a⟩,?_⟩;try conv=>cbv
  refine⟨g,fun _=>⟨by omega,b⟩,?_⟩;try conv=>cbv
  refine cL j C ⟨t4,t4,trivial⟩ ?_;try conv=>cbv
  refine⟨fun _=>Et (by kernel_rfl),?_⟩;refine⟨f,fun _=>⟨by omega,a⟩,?_⟩;try conv=>cbv
  refine⟨g,fun _=>⟨by omega,b⟩,?_⟩;try conv=>cbv
  refine cL j D ⟨t4,t4,trivial⟩ ?_;try conv=>cbv
  refine⟨fun _=>Et (by kernel_rfl),?_⟩;refine⟨f,fun _=>⟨by omega,a⟩,?_⟩;try conv=>cbv
  refine⟨g,fun _=>⟨by omega,b⟩,?_⟩;try conv=>cbv
  refine cL j G ⟨t4,t4,trivial⟩ ?_;try conv=>cbv
  refine⟨fun _=>Et (by kernel_rfl),?_⟩;refine⟨f,fun _=>⟨by omega,a⟩,?_⟩;try conv=>cbv
  refine⟨g,fun _=>⟨by omega,b⟩,?_⟩;try conv=>cbv
  refine cL j H ⟨t4,t4,trivial⟩ ?_;try conv=>cbv
  refine⟨fun _=>Et (by kernel_rfl),?_⟩;refine⟨f,fun _=>⟨by omega,a⟩,?_⟩;try conv=>cbv
  refine⟨g,fun _=>⟨by omega,b⟩,?_⟩;try conv=>cbv
  refine cL j I ⟨t4,t4,trivial⟩ ?_;try conv=>cbv
  refine⟨fun _=>Et (by kernel_rfl),?_⟩;refine cL j p ⟨⟨rfl,rfl,rfl,rfl,rfl,rfl,trivial⟩,rfl,⟨rfl,rfl,rfl,rfl,rfl,rfl,trivial⟩,rfl,trivial⟩ ?_;try conv=>cbv
  refine cL j q ⟨⟨rfl,rfl,rfl,rfl,rfl,rfl,trivial⟩,rfl,⟨rfl,rfl,rfl,rfl,rfl,rfl,trivial⟩,rfl,trivial⟩ ?_;try conv=>cbv
  refine cL j r ⟨⟨rfl,rfl,rfl,rfl,rfl,rfl,trivial⟩,rfl,⟨rfl,rfl,rfl,rfl,rfl,rfl,trivial⟩,rfl,trivial⟩ ?_;try conv=>cbv
  exact fA ⟨t2,trivial⟩ rfl (by simp)
 have A:=Cs v;refine cL j cE trivial ?_;try conv=>cbv
 exact fA ⟨t2,trivial⟩ rfl (by simp)
theorem eh {X:List (el Bi)} {W:List UInt8} {ns:List Nu} (o:ns=(runN (X.take 24)).1) {V:List Re} (a:V.length<=3) (b:∀n∈ns,BG V n):CF 4 [.agg [.sl Bi X,.sl .u8 W]] (.one (.bool true)):=by
 obtain⟨w,F⟩:=aq a b;obtain⟨Q,A⟩:∃z,z=Ke ns W:=⟨_,rfl⟩
 obtain⟨c,G⟩:=xB (decide (2<=Q.length));refine bj Tryz.func4 (by kernel_rfl) rfl fun E j=>?_
 conv=>cbv
 refine cL j (bR o a b A (i':=2) ⟨rfl⟩ (by decide) G) ⟨t2,rfl,trivial⟩ ?_;try conv=>cbv
 refine cL j cE trivial ?_;try conv=>cbv
 intro Z v;cases v.trans (rfl:_=false);conv=>cbv
 intro D k;conv=>cbv
 cases D <;> conv=>cbv
 ·have p:=Cr k;have hl:2<=Q.length:=of_decide_eq_true (G.symm.trans p);obtain⟨T5,A5,t5,Y,U⟩:=bQ (W:=W) o a b F;refine cL j U ⟨t2,trivial⟩ ?_;try conv=>cbv
  obtain⟨q,d⟩:=AG (l:=Q) (i:=0) (by omega);refine⟨q,fun _=>⟨by omega,d⟩,?_⟩;try conv=>cbv
  obtain⟨r,f⟩:=AG (l:=Q) (i:=1) (by omega);refine⟨r,fun _=>⟨by omega,f⟩,?_⟩;try conv=>cbv
  obtain⟨X0,Y0,B⟩:=bB F a b A d;obtain⟨X1,Y1,C⟩:=bB F a b A f;obtain⟨N,H,O,I,P,J,ea,R,K,S,L,T,M,eb,s,u,g⟩:=eQ F (by decide) B C Y;refine cL j s ⟨t4,t4,t2,trivial⟩ ?_;try conv=>cbv
  refine⟨fun _=>Et (by kernel_rfl),?_⟩;refine⟨q,fun _=>⟨by omega,d⟩,?_⟩;try conv=>cbv
  refine⟨r,fun _=>⟨by omega,f⟩,?_⟩;try conv=>cbv
  refine cL j u ⟨t4,t4,t2,trivial⟩ ?_;try conv=>cbv
  refine⟨fun _=>Et (by kernel_rfl),?_⟩;refine cL j g ⟨⟨rfl,rfl,rfl,rfl,rfl,rfl,trivial⟩,rfl,⟨rfl,rfl,rfl,rfl,rfl,rfl,trivial⟩,rfl,trivial⟩ ?_;try conv=>cbv
  exact fA ⟨t2,trivial⟩ rfl (by simp)
 have p:=Cs k;refine cL j cE trivial ?_;try conv=>cbv
 exact fA ⟨t2,trivial⟩ rfl (by simp)
theorem eW {X:List (el Bi)} {W:List UInt8} {ns:List Nu} (a7:ns=(runN (X.take 24)).1) {V:List Re} (j:V.length<=3) (k:∀n∈ns,BG V n):CF 5 [.agg [.sl Bi X,.sl .u8 W]] (.one (.bool true)):=by
 obtain⟨w,F⟩:=aq j k;obtain⟨Q,M⟩:∃z,z=Ke ns W:=⟨_,rfl⟩
 obtain⟨c,hc⟩:=xB (decide (3<=Q.length));refine bj Tryz.func5 (by kernel_rfl) rfl fun E b=>?_
 conv=>cbv
 refine cL b (bR a7 j k M (i':=3) ⟨rfl⟩ (by decide) hc) ⟨t2,rfl,trivial⟩ ?_;try conv=>cbv
 refine cL b cE trivial ?_;try conv=>cbv
 intro aO Y;cases Y.trans (rfl:_=false);conv=>cbv
 intro ad H;conv=>cbv
 cases ad <;> conv=>cbv
 ·have L:=Cr H;have B:3<=Q.length:=of_decide_eq_true (hc.symm.trans L);obtain⟨af,s⟩:=AG (l:=Q) (i:=0) (by omega);refine⟨af,fun _=>⟨by omega,s⟩,?_⟩;try conv=>cbv
  obtain⟨ag,u⟩:=AG (l:=Q) (i:=1) (by omega);refine⟨ag,fun _=>⟨by omega,u⟩,?_⟩;try conv=>cbv
  obtain⟨X0,Y0,a8⟩:=bB F j k M s;obtain⟨X1,Y1,aa⟩:=bB F j k M u;obtain⟨aL,ay,aM,az,aN,aA,ea,K,U⟩:=ch F (by decide) a8 aa (d:=3600) (by decide) (by decide);refine cL b U ⟨t4,t4,trivial⟩ ?_;try conv=>cbv
  refine⟨fun _=>Et (by kernel_rfl),?_⟩;intro ae I;conv=>cbv
  cases ae <;> conv=>cbv
  ·have ab:=DR I;obtain⟨_,h0,B⟩:=K.resolve_right (fun h=>absurd h.1 (by omega));have q:=cz h0;obtain⟨g,a⟩:=AG (l:=Q) (i:=2) (by omega);refine⟨g,fun _=>⟨by omega,a⟩,?_⟩;try conv=>cbv
   obtain⟨X2,Y2,f⟩:=bB F j k M a;obtain⟨aB,aj,aC,ak,Z,N⟩:=cV F B f q (d:=173000) (by decide) (by decide) (by decide);refine cL b N ⟨⟨rfl,rfl,rfl,rfl,rfl,rfl,trivial⟩,t4,trivial⟩ ?_;try conv=>cbv
   refine⟨fun _=>Et (by kernel_rfl),?_⟩;refine⟨g,fun _=>⟨by omega,a⟩,?_⟩;try conv=>cbv
   obtain⟨aD,al,aE,an,a1,O⟩:=eC F B f q (d:=173000) (by decide) (by decide) (by decide);refine cL b O ⟨⟨rfl,rfl,rfl,rfl,rfl,rfl,trivial⟩,t4,trivial⟩ ?_;try conv=>cbv
   refine⟨fun _=>Et (by kernel_rfl),?_⟩;refine⟨g,fun _=>⟨by omega,a⟩,?_⟩;try conv=>cbv
   obtain⟨aF,ao,aG,ar,a2,P⟩:=cR F B f q (d:=173000) (by decide) (by decide) (by decide);refine cL b P ⟨⟨rfl,rfl,rfl,rfl,rfl,rfl,trivial⟩,t4,trivial⟩ ?_;try conv=>cbv
   refine⟨fun _=>Et (by kernel_rfl),?_⟩;refine⟨g,fun _=>⟨by omega,a⟩,?_⟩;try conv=>cbv
   obtain⟨aH,au,aI,av,a5,R⟩:=eD F B f q (d:=173000) (by decide) (by decide) (by decide);refine cL b R ⟨⟨rfl,rfl,rfl,rfl,rfl,rfl,trivial⟩,t4,trivial⟩ ?_;try conv=>cbv
   refine⟨fun _=>Et (by kernel_rfl),?_⟩;refine⟨g,fun _=>⟨by omega,a⟩,?_⟩;try conv=>cbv
   obtain⟨aJ,aw,a6,S⟩:=dt F B f q (d:=173000) (by decide) (by decide) (by decide) (by decide) (by decide);refine cL b S ⟨⟨rfl,rfl,rfl,rfl,rfl,rfl,trivial⟩,t4,trivial⟩ ?_;try conv=>cbv
   refine⟨fun _=>Et (by kernel_rfl),?_⟩;refine⟨g,fun _=>⟨by omega,a⟩,?_⟩;try conv=>cbv
   obtain⟨aK,ax,J,T⟩:=eE F B f q (d:=173000) (by decide) (by decide) (by decide);have p:=a6.shrink J (dH q);refine cL b T ⟨⟨rfl,rfl,rfl,rfl,rfl,rfl,trivial⟩,t4,trivial⟩ ?_;try conv=>cbv
   refine⟨fun _=>Et (by kernel_rfl),?_⟩;refine cL (r:= .one (.bool true)) b (cu F Z a1 (by decide) (by decide) (by decide) (by decide) (by grind) (by grind)) ⟨t4,rfl,t4,rfl,trivial⟩ ?_;try conv=>cbv
   refine cL (r:= .one (.bool true)) b (cu F a2 a5 (by decide) (by decide) (by decide) (by decide) (by grind) (by grind)) ⟨t4,rfl,t4,rfl,trivial⟩ ?_;try conv=>cbv
   intro ah D;cases D.trans (show _=true by decide);conv=>cbv
   intro ai G;cases G.trans (show _=true by decide);conv=>cbv
   refine cL b (RP F p (by decide)) ⟨t2,trivial⟩ ?_;try conv=>cbv
   obtain⟨C,A,_,o⟩:=KW F p J (by decide) (by decide);have v:C=true:=A.2 (dH q);rw[v] at o;refine cL b o ⟨t2,t2,trivial⟩ ?_;try conv=>cbv
   exact fA ⟨t2,trivial⟩ rfl (by simp)
  have ab:=DS I;exact fA ⟨t2,trivial⟩ rfl (by simp)
 have L:=Cs H;refine cL b cE trivial ?_;try conv=>cbv
 exact fA ⟨t2,trivial⟩ rfl (by simp)
theorem eX {X:List (el Bi)} {W:List UInt8} {ns:List Nu} (a7:ns=(runN (X.take 24)).1) {V:List Re} (g:V.length<=3) (j:∀n∈ns,BG V n):CF 8 [.agg [.sl Bi X,.sl .u8 W]] (.one (.bool true)):=by
 obtain⟨w,F⟩:=aq g j;obtain⟨Q,K⟩:∃z,z=Ke ns W:=⟨_,rfl⟩
 obtain⟨c,hc⟩:=xB (decide (3<=Q.length));refine bj Tryz.func8 (by kernel_rfl) rfl fun E f=>?_
 conv=>cbv
 refine cL f (bR a7 g j K (i':=3) ⟨rfl⟩ (by decide) hc) ⟨t2,rfl,trivial⟩ ?_;try conv=>cbv
 refine cL f cE trivial ?_;try conv=>cbv
 intro aK S;cases S.trans (rfl:_=false);conv=>cbv
 intro ab A;conv=>cbv
 cases ab <;> conv=>cbv
 ·have J:=Cr A;have v:3<=Q.length:=of_decide_eq_true (hc.symm.trans J);obtain⟨u,b⟩:=AG (l:=Q) (i:=0) (by omega);refine⟨u,fun _=>⟨by omega,b⟩,?_⟩;try conv=>cbv
  obtain⟨ae,q⟩:=AG (l:=Q) (i:=1) (by omega);refine⟨ae,fun _=>⟨by omega,q⟩,?_⟩;try conv=>cbv
  obtain⟨X0,Y0,s⟩:=bB F g j K b;obtain⟨X1,Y1,a8⟩:=bB F g j K q;obtain⟨aH,au,aI,av,aJ,aw,ea,H,R⟩:=ct F (by decide) s a8 (d:=3600) (by decide) (by decide);refine cL f R ⟨t4,t4,trivial⟩ ?_;try conv=>cbv
  refine⟨fun _=>Et (by kernel_rfl),?_⟩;intro ad B;conv=>cbv
  cases ad <;> conv=>cbv
  ·have aa:=DR B;obtain⟨_,h0,v⟩:=H.resolve_right (fun h=>absurd h.1 (by omega));have o:=cz h0;have I:=dA h0;obtain⟨p,a⟩:=AG (l:=Q) (i:=2) (by omega);refine⟨p,fun _=>⟨by omega,a⟩,?_⟩;try conv=>cbv
   obtain⟨X2,Y2,k⟩:=bB F g j K a;obtain⟨ax,af,ay,ag,C,L⟩:=cR F v k o (d:=173000) (by decide) (by decide) (by decide);refine cL f L ⟨⟨rfl,rfl,rfl,rfl,rfl,rfl,trivial⟩,t4,trivial⟩ ?_;try conv=>cbv
   refine⟨fun _=>Et (by kernel_rfl),?_⟩;obtain⟨az,ah,aA,ai,T,M⟩:=cR F v C o (d:=173000) (by decide) (by decide) (by decide);have D:=T.shrink k ((cf o _ _).trans (by grind)) ((cf o _ _).trans (by grind));refine cL f M ⟨⟨rfl,rfl,rfl,rfl,rfl,rfl,trivial⟩,t4,trivial⟩ ?_;try conv=>cbv
   refine⟨p,fun _=>⟨by omega,a⟩,?_⟩;try conv=>cbv
   obtain⟨aB,aj,aC,ak,G,N⟩:=cV F v k o (d:=173000) (by decide) (by decide) (by decide);refine cL f N ⟨⟨rfl,rfl,rfl,rfl,rfl,rfl,trivial⟩,t4,trivial⟩ ?_;try conv=>cbv
   refine⟨fun _=>Et (by kernel_rfl),?_⟩;refine⟨p,fun _=>⟨by omega,a⟩,?_⟩;try conv=>cbv
   obtain⟨aD,al,aE,an,U,O⟩:=bP F k C (by decide) (by decide);refine cL f O ⟨t4,t4,trivial⟩ ?_;try conv=>cbv
   refine⟨fun _=>Et (by kernel_rfl),?_⟩;refine⟨u,fun _=>⟨by omega,b⟩,?_⟩;try conv=>cbv
   obtain⟨aF,ao,aG,ar,Y,P⟩:=cR F v s o (d:=173000) (by decide) (by decide) (by decide);refine cL f P ⟨⟨rfl,rfl,rfl,rfl,rfl,rfl,trivial⟩,t4,trivial⟩ ?_;try conv=>cbv
   refine⟨fun _=>Et (by kernel_rfl),?_⟩;intro aL Z;cases Z.trans (show _=true by decide);conv=>cbv
   intro aM a1;cases a1.trans (show _=true by decide);conv=>cbv
   intro aN a2;cases a2.trans (show _=true by decide);conv=>cbv
   intro aO a5;cases a5.trans (show _=true by decide);conv=>cbv
   intro aP a6;cases a6.trans (show _=true by decide);conv=>cbv
   refine⟨p,fun _=>⟨by omega,a⟩,?_⟩;try conv=>cbv
   refine cL (r:= .one (.bool true)) f (bM F D k (by decide) (by decide) (by decide) (by decide) (e:=true) ⟨fun _=>⟨(cf o _ _).trans (by grind),(cf o _ _).trans (by grind)⟩,fun _=>rfl⟩) ⟨t4,t4,trivial⟩ ?_;try conv=>cbv
   refine cL f (bM F G U (by decide) (by decide) (by decide) (by decide) (e:=true) ⟨fun _=>⟨by rw[cn,show Re.ofRat ((1:Int):Rat)=1 from rfl];have:=cq;grind,by rw[cn,show Re.ofRat ((1:Int):Rat)=1 from rfl];have:=cq;grind⟩,fun _=>rfl⟩) ⟨t4,t4,trivial⟩ ?_;try conv=>cbv
   refine⟨u,fun _=>⟨by omega,b⟩,?_⟩;try conv=>cbv
   refine cL f (bM F Y s (by decide) (by decide) (by decide) (by decide) (e:=true) ⟨fun _=>⟨by rw[dG I.1];grind,by rw[dG I.1];grind⟩,fun _=>rfl⟩) ⟨t4,t4,trivial⟩ ?_;try conv=>cbv
   refine cL f (dr F v G (by decide) (by decide) (df o)) ⟨⟨rfl,rfl,rfl,rfl,rfl,rfl,trivial⟩,t4,trivial⟩ ?_;try conv=>cbv
   refine⟨fun _=>Et (by kernel_rfl),?_⟩;exact fA ⟨t2,trivial⟩ rfl (by simp)
  have aa:=DS B;exact fA ⟨t2,trivial⟩ rfl (by simp)
 have J:=Cs A;refine cL f cE trivial ?_;try conv=>cbv
 exact fA ⟨t2,trivial⟩ rfl (by simp)
theorem dw {x1 y1 x2 y2:Re} (d:¬(x1=x2/\y1=y2)):¬((x1+x2)*Re.ofRat (1/2)=x2/\(y1+y2)*Re.ofRat (1/2)=y2)/\
  (tA y1 y2=tA ((y1+y2)*Re.ofRat (1/2)) y2/\tB x1 y1 x2 y2=tB ((x1+x2)*Re.ofRat (1/2)) ((y1+y2)*Re.ofRat (1/2)) x2 y2/\tC x1 y1 x2 y2=tC ((x1+x2)*Re.ofRat (1/2)) ((y1+y2)*Re.ofRat (1/2)) x2 y2)/\
  tA y1 y2*((x1+x2)*Re.ofRat (1/2))+tB x1 y1 x2 y2*((y1+y2)*Re.ofRat (1/2))=tC x1 y1 x2 y2:=by
 have c:=cq;have f:=dA d;have l:Re.ofRat (1/2)≠0:=fun e=>absurd (Re.GM.1 (show Re.ofRat (1/2)=Re.ofRat 0 from e)) (by decide +kernel)
 generalize Re.ofRat (1/2)=h at*
 refine⟨fun⟨a,b⟩=>d ⟨?_,?_⟩,dS l (cQ d) ?_ ?_ ?_,?_⟩
 ·have:x1=(x1+x2)*h*(1+1)-x2:=by have:(x1+x2)*h*(1+1)=(x1+x2)*(h*(1+1)):=by grind
                                 rw[this,c];grind
  rw[a] at this;grind
 ·have:y1=(y1+y2)*h*(1+1)-y2:=by have:(y1+y2)*h*(1+1)=(y1+y2)*(h*(1+1)):=by grind
                                 rw[this,c];grind
  rw[b] at this;grind
 ·have:y2=y2*(h*(1+1)):=by rw[c];grind
  grind
 ·have:x2=x2*(h*(1+1)):=by rw[c];grind
  grind
 ·have j:y2-(y1+y2)*h=h*(y2-y1):=by
   have:y2=y2*(h*(1+1)):=by rw[c];grind
   grind
  have k:x2-(x1+x2)*h=h*(x2-x1):=by
   have:x2=x2*(h*(1+1)):=by rw[c];grind
   grind
  rw[j,k];have:x1*(y2-y1)+y1* -(x2-x1)=(h*(1+1))*(x1*(y2-y1)+y1* -(x2-x1)):=by rw[c];grind
  rw[this];grind
 generalize tA y1 y2=a at*
 generalize tB x1 y1 x2 y2=b at*
 generalize tC x1 y1 x2 y2=g at*
 have e:a*((x1+x2)*h)+b*((y1+y2)*h)=((a*x1+b*y1)+(a*x2+b*y2))*h:=by grind
 rw[e,f.1,f.2,show (g+g)*h=g*(h*(1+1)) by grind,c];grind
theorem cp {x1 y1 x2 y2:Re} (a:¬(x1=x2/\y1=y2)):tA y1 y2=tA y2 y1/\tB x1 y1 x2 y2=tB x2 y2 x1 y1/\tC x1 y1 x2 y2=tC x2 y2 x1 y1:=
 cl (cQ a) (by grind) (by grind) (by grind)
theorem eV {X:List (el Bi)} {W:List UInt8} {ns:List Nu} (U:ns=(runN (X.take 24)).1) {V:List Re} (p:V.length<=3) (q:∀n∈ns,BG V n):CF 9 [.agg [.sl Bi X,.sl .u8 W]] (.one (.bool true)):=by
 obtain⟨w,F⟩:=aq p q;obtain⟨Q,R⟩:∃z,z=Ke ns W:=⟨_,rfl⟩
 obtain⟨c,hc⟩:=xB (decide (2<=Q.length));refine bj Tryz.func9 (by kernel_rfl) rfl fun E f=>?_
 conv=>cbv
 refine cL f (bR U p q R (i':=2) ⟨rfl⟩ (by decide) hc) ⟨t2,rfl,trivial⟩ ?_;try conv=>cbv
 refine cL f cE trivial ?_;try conv=>cbv
 intro ax M;cases M.trans (rfl:_=false);conv=>cbv
 intro Y v;conv=>cbv
 cases Y <;> conv=>cbv
 ·have G:=Cr v;have u:2<=Q.length:=of_decide_eq_true (hc.symm.trans G);obtain⟨o,b⟩:=AG (l:=Q) (i:=0) (by omega);refine⟨o,fun _=>⟨by omega,b⟩,?_⟩;try conv=>cbv
  obtain⟨j,a⟩:=AG (l:=Q) (i:=1) (by omega);refine⟨j,fun _=>⟨by omega,a⟩,?_⟩;try conv=>cbv
  obtain⟨X0,Y0,k⟩:=bB F p q R b;obtain⟨X1,Y1,g⟩:=bB F p q R a;obtain⟨aj,a6,ak,a7,al,a8,ea,r,K⟩:=ct F (by decide) k g (d:=3600) (by decide) (by decide);refine cL f K ⟨t4,t4,trivial⟩ ?_;try conv=>cbv
  refine⟨fun _=>Et (by kernel_rfl),?_⟩;intro Z A;conv=>cbv
  cases Z <;> conv=>cbv
  ·have H:=DR A;obtain⟨_,s,u⟩:=r.resolve_right (fun h=>absurd h.1 (by omega));have hm:=dw s;have D:=dA s;refine⟨o,fun _=>⟨by omega,b⟩,?_⟩;try conv=>cbv
   refine⟨j,fun _=>⟨by omega,a⟩,?_⟩;try conv=>cbv
   obtain⟨ah,a2,ai,a5,C,J⟩:=bP F k g (by decide) (by decide);refine cL f J ⟨t4,t4,trivial⟩ ?_;try conv=>cbv
   refine⟨fun _=>Et (by kernel_rfl),?_⟩;refine⟨j,fun _=>⟨by omega,a⟩,?_⟩;try conv=>cbv
   obtain⟨an,aa,ao,ab,ar,ad,S,cb⟩:=cY F C g (by decide) (by decide) (by decide) (by decide) hm.1 (d:=10000) (by decide) (by decide) (by decide) (by decide);refine cL f cb ⟨t4,t4,trivial⟩ ?_;try conv=>cbv
   refine⟨fun _=>Et (by kernel_rfl),?_⟩;refine⟨j,fun _=>⟨by omega,a⟩,?_⟩;try conv=>cbv
   refine⟨o,fun _=>⟨by omega,b⟩,?_⟩;try conv=>cbv
   obtain⟨au,ae,av,af,aw,ag,T,cc⟩:=cY F g k (by decide) (by decide) (by decide) (by decide) (fun h=>s ⟨h.1.symm,h.2.symm⟩) (d:=10000) (by decide) (by decide) (by decide) (by decide);refine cL f cc ⟨t4,t4,trivial⟩ ?_;try conv=>cbv
   refine⟨fun _=>Et (by kernel_rfl),?_⟩;intro ay N;cases N.trans (show _=true by decide);conv=>cbv
   intro az O;cases O.trans (show _=true by decide);conv=>cbv
   intro aA P;cases P.trans (show _=true by decide);conv=>cbv
   refine⟨o,fun _=>⟨by omega,b⟩,?_⟩;try conv=>cbv
   refine cL f (cW F u k (by decide) (by decide) (e:=true) ⟨fun _=>D.1,fun _=>rfl⟩) ⟨⟨rfl,rfl,rfl,rfl,rfl,rfl,trivial⟩,t4,trivial⟩ ?_;try conv=>cbv
   refine⟨j,fun _=>⟨by omega,a⟩,?_⟩;try conv=>cbv
   refine cL f (cW F u g (by decide) (by decide) (e:=true) ⟨fun _=>D.2,fun _=>rfl⟩) ⟨⟨rfl,rfl,rfl,rfl,rfl,rfl,trivial⟩,t4,trivial⟩ ?_;try conv=>cbv
   refine cL f (cW F u C (by decide) (by decide) (e:=true) ⟨fun _=>hm.2.2,fun _=>rfl⟩) ⟨⟨rfl,rfl,rfl,rfl,rfl,rfl,trivial⟩,t4,trivial⟩ ?_;try conv=>cbv
   refine cL f (cU F u S (by decide) (by decide) (by decide) (by decide) (by decide) (e:=true) ⟨fun _=>⟨⟨hm.2.1.1,hm.2.1.2.1⟩,hm.2.1.2.2⟩,fun _=>rfl⟩) ⟨⟨rfl,rfl,rfl,rfl,rfl,rfl,trivial⟩,⟨rfl,rfl,rfl,rfl,rfl,rfl,trivial⟩,trivial⟩ ?_;try conv=>cbv
   refine cL f (cU F u T (by decide) (by decide) (by decide) (by decide) (by decide) (e:=true) ⟨fun _=>⟨⟨(cp s).1,(cp s).2.1⟩,(cp s).2.2⟩,fun _=>rfl⟩) ⟨⟨rfl,rfl,rfl,rfl,rfl,rfl,trivial⟩,⟨rfl,rfl,rfl,rfl,rfl,rfl,trivial⟩,trivial⟩ ?_;try conv=>cbv
   refine⟨fun _=>Et (by kernel_rfl),?_⟩;exact fA ⟨t2,trivial⟩ rfl (by simp)
  have H:=DS A;obtain⟨L,heq⟩:=r.resolve_left (fun h=>H h.1);intro a1 B;conv=>cbv
  cases a1 <;> conv=>cbv
  ·have I:=Ab B;exact absurd L I
  have I:=Ad B;refine⟨o,fun _=>⟨by omega,b⟩,?_⟩;try conv=>cbv
  refine⟨j,fun _=>⟨by omega,a⟩,?_⟩;try conv=>cbv
  refine cL f (bM F k g (by decide) (by decide) (by decide) (by decide) (e:=true) ⟨fun _=>heq,fun _=>rfl⟩) ⟨t4,t4,trivial⟩ ?_;try conv=>cbv
  refine⟨fun _=>Et (by kernel_rfl),?_⟩;exact fA ⟨t2,trivial⟩ rfl (by simp)
 have G:=Cs v;refine cL f cE trivial ?_;try conv=>cbv
 exact fA ⟨t2,trivial⟩ rfl (by simp)
theorem eY {X:List (el Bi)} {W:List UInt8} {ns:List Nu} (an:ns=(runN (X.take 24)).1) {V:List Re} (b:V.length<=3) (f:∀n∈ns,BG V n):CF 10 [.agg [.sl Bi X,.sl .u8 W]] (.one (.bool true)):=by
 obtain⟨w,F⟩:=aq b f;obtain⟨Q,C⟩:∃z,z=Ke ns W:=⟨_,rfl⟩
 obtain⟨c,hc⟩:=xB (decide (4<=Q.length));refine bj Tryz.func10 (by kernel_rfl) rfl fun E a=>?_
 conv=>cbv
 refine cL a (bR an b f C (i':=4) ⟨rfl⟩ (by decide) hc) ⟨t2,rfl,trivial⟩ ?_;try conv=>cbv
 refine cL a cE trivial ?_;try conv=>cbv
 intro aX aj;cases aj.trans (rfl:_=false);conv=>cbv
 intro az D;conv=>cbv
 cases az <;> conv=>cbv
 ·have O:=Cr D;have g:4<=Q.length:=of_decide_eq_true (hc.symm.trans O);obtain⟨aH,r⟩:=AG (l:=Q) (i:=0) (by omega);refine⟨aH,fun _=>⟨by omega,r⟩,?_⟩;try conv=>cbv
  obtain⟨aI,s⟩:=AG (l:=Q) (i:=1) (by omega);refine⟨aI,fun _=>⟨by omega,s⟩,?_⟩;try conv=>cbv
  obtain⟨X0,Y0,ao⟩:=bB F b f C r;obtain⟨X1,Y1,ar⟩:=bB F b f C s;obtain⟨a5,T,a6,U,a7,Y,ea,M,ah⟩:=ch F (by decide) ao ar (d:=3600) (by decide) (by decide);refine cL a ah ⟨t4,t4,trivial⟩ ?_;try conv=>cbv
  refine⟨fun _=>Et (by kernel_rfl),?_⟩;obtain⟨aJ,u⟩:=AG (l:=Q) (i:=2) (by omega);refine⟨aJ,fun _=>⟨by omega,u⟩,?_⟩;try conv=>cbv
  obtain⟨aK,v⟩:=AG (l:=Q) (i:=3) (by omega);refine⟨aK,fun _=>⟨by omega,v⟩,?_⟩;try conv=>cbv
  obtain⟨X2,Y2,au⟩:=bB F b f C u;obtain⟨X3,Y3,av⟩:=bB F b f C v;obtain⟨a8,Z,aa,a1,ab,a2,eb,N,ai⟩:=ch F (by decide) au av (d:=3600) (by decide) (by decide);refine cL a ai ⟨t4,t4,trivial⟩ ?_;try conv=>cbv
  refine⟨fun _=>Et (by kernel_rfl),?_⟩;intro aA G;conv=>cbv
  cases aA <;> conv=>cbv
  ·have aw:=DR G;obtain⟨_,h0,g⟩:=M.resolve_right (fun h=>absurd h.1 (by omega));have hn:=cz h0;intro aB H;conv=>cbv
   cases aB <;> conv=>cbv
   ·have ax:=DR H;obtain⟨_,aS,hm⟩:=N.resolve_right (fun h=>absurd h.1 (by omega));rintro aC ⟨aO,f50⟩;conv=>cbv
    refine .inr ?_;obtain⟨J0,B⟩:=xJ fun vs bl k=>∃(k':Nat) (i:Int),vs=[.one (.sl Cw Q),.one (.Am 5 0 0),.one (.Am 7 0 0),.one (.sl Cw Q),.one (.int .i64 aC),.one (.int .i64 i)]/\bl=[.var 0 [.sl (.sl AA) a5,.sl AA T,.sl (.sl AA) a6,.sl AA U,.sl (.sl AA) a7,.sl AA Y],.var 0 [.sl (.sl AA) a8,.sl AA Z,.sl (.sl AA) aa,.sl AA a1,.sl (.sl AA) ab,.sl AA a2]]/\(AK i k'/\k'<=Q.length)/\k=Q.length-k'
    refine⟨[3,5,7,49,50,51],[5,7],J0,⟨Q.length-0,by rw[B];exact⟨0,0,rfl,rfl,⟨Ah 0,Nat.zero_le _⟩,rfl⟩⟩,?_⟩;intro vs bl aW hj;rw[B] at hj;obtain⟨k',i,rfl,rfl,⟨hi,aU⟩,aV⟩:=hj;conv=>cbv
    have ei:=hi.eq;intro aD I;conv=>cbv
    cases aD <;> conv=>cbv
    ·have ay:=AR I;obtain⟨aQ,o⟩:=CY (tA Y0 Y1=tA Y2 Y3/\tB X0 Y0 X1 Y1=tB X2 Y2 X3 Y3);refine cL a (dK F g hm (by decide) (by decide) (by decide) o) ⟨⟨rfl,rfl,rfl,rfl,rfl,rfl,trivial⟩,⟨rfl,rfl,rfl,rfl,rfl,rfl,trivial⟩,trivial⟩ ?_;try conv=>cbv
     refine cL a (dQ F g hm (by decide) (by decide) (by decide) o) ⟨⟨rfl,rfl,rfl,rfl,rfl,rfl,trivial⟩,⟨rfl,rfl,rfl,rfl,rfl,rfl,trivial⟩,trivial⟩ ?_;try conv=>cbv
     intro aF K;conv=>cbv
     cases aF <;> conv=>cbv
     ·have R:=PW K;exact absurd rfl R
     have R:=PX K;obtain⟨aR,p⟩:=CY ((tA Y0 Y1=tA Y2 Y3/\tB X0 Y0 X1 Y1=tB X2 Y2 X3 Y3)/\tC X0 Y0 X1 Y1=tC X2 Y2 X3 Y3);refine cL a (cU F g hm (by decide) (by decide) (by decide) (by decide) (by decide) p) ⟨⟨rfl,rfl,rfl,rfl,rfl,rfl,trivial⟩,⟨rfl,rfl,rfl,rfl,rfl,rfl,trivial⟩,trivial⟩ ?_;try conv=>cbv
     refine cL a (dP F g hm (by decide) (by decide) (by decide) (by decide) (by decide) p) ⟨⟨rfl,rfl,rfl,rfl,rfl,rfl,trivial⟩,⟨rfl,rfl,rfl,rfl,rfl,rfl,trivial⟩,trivial⟩ ?_;try conv=>cbv
     intro aG L;conv=>cbv
     cases aG <;> conv=>cbv
     ·have S:=PW L;exact absurd rfl S
     have S:=PX L;refine cL a (cU F g g (by decide) (by decide) (by decide) (by decide) (by decide) (e:=true) ⟨fun _=>⟨⟨rfl,rfl⟩,rfl⟩,fun _=>rfl⟩) ⟨⟨rfl,rfl,rfl,rfl,rfl,rfl,trivial⟩,⟨rfl,rfl,rfl,rfl,rfl,rfl,trivial⟩,trivial⟩ ?_;try conv=>cbv
     obtain⟨aM,ak,af⟩:=dm F g (by decide) (by decide);refine cL a af ⟨⟨rfl,rfl,rfl,rfl,rfl,rfl,trivial⟩,trivial⟩ ?_;try conv=>cbv
     obtain⟨aN,al,ag⟩:=eB F g (by decide) (by decide);refine cL a ag ⟨⟨rfl,rfl,rfl,rfl,rfl,rfl,trivial⟩,trivial⟩ ?_;try conv=>cbv
     refine cL a (cu F ak al (by decide) (by decide) (by decide) (by decide) rfl rfl) ⟨t4,rfl,t4,rfl,trivial⟩ ?_;try conv=>cbv
     refine⟨fun _=>Et (by kernel_rfl),?_⟩;exact fA ⟨t2,trivial⟩ rfl (by simp)
    have ay:=AS I;refine .inr ?_;obtain⟨aL,A⟩:=AG (l:=Q) (i:=k') (by omega);refine⟨aL,fun _=>⟨by omega,by rw[show (i).toNat=k' by omega];exact A⟩,?_⟩;try conv=>cbv
    obtain⟨ad,ae,q⟩:=bB F b f C A;obtain⟨aP,j⟩:=CY (tA Y0 Y1*ad+tB X0 Y0 X1 Y1*ae=tC X0 Y0 X1 Y1);refine cL a (cW F g q (by decide) (by decide) j) ⟨⟨rfl,rfl,rfl,rfl,rfl,rfl,trivial⟩,t4,trivial⟩ ?_;try conv=>cbv
    refine cL a (rOn F g q (by decide) j) ⟨⟨rfl,rfl,rfl,rfl,rfl,rfl,trivial⟩,t4,trivial⟩ ?_;try conv=>cbv
    intro aE J;conv=>cbv
    refine⟨fun _=>Et (by kernel_rfl),?_⟩;cases aE <;> conv=>cbv
    ·have P:=Pa J;intro aY aT;conv=>cbv
     refine g1 (by omega) ?_;refine⟨Q.length-(k'+1),?_,?_⟩
     ·omega
     rw[B];exact⟨k'+1,_,rfl,rfl,⟨⟨by omega⟩,by omega⟩,rfl⟩
    have P:=Pb J;exact absurd rfl P
   have ax:=DS H;exact fA ⟨t2,trivial⟩ rfl (by simp)
  have aw:=DS G;exact fA ⟨t2,trivial⟩ rfl (by simp)
 have O:=Cs D;refine cL a cE trivial ?_;try conv=>cbv
 exact fA ⟨t2,trivial⟩ rfl (by simp)
end Go.Abs
