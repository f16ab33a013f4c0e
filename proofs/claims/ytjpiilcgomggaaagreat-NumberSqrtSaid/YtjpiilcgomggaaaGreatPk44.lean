/- Part 45 of a proof. Conditions: each theorem's own. -/
import Derived.Test.YtjpiilcgomggaaaGreatPk43
set_option linter.all false
set_option maxHeartbeats 8000000
open Go.Proofs
namespace Go.Abs
open Go.RowKit
variable {S:Nat} {V:List Re} {X:List (el Bl)} {ns:List Nu} {sq:Bool} {x:Re}
theorem Wo:∀h,h<=4->Fit h 512 Sm
 |0,_|1,_|2,_|3,_|4,_=>⟨by decide +kernel,by decide +kernel,by decide +kernel,by decide +kernel⟩
 | _+5,h=>absurd h (by omega)
theorem Wm:∀h,h<=4->Cu h 512 Sm
 |0,_|1,_|2,_|3,_|4,_=>⟨by decide +kernel,by decide +kernel,by decide +kernel,by decide +kernel⟩
 | _+5,h=>absurd h (by omega)
theorem Xn:2*Sm+EE 4 512<=60000000000000:=by decide +kernel
theorem Wb:EE 4 512<=8192:=by decide +kernel
theorem Wu:GG 3 512<=40000:=by decide +kernel
theorem Gh {w:List (List Rat)} (hw:AQ w) (tb:TB 512 w) (d:w.length<=4) (c:512<=S) (b:S<=Sm):CP (fun u=>u<:+w) 512 0 S:=
 WC hw tb d (by decide) c (fun h a=>(Wo h a).mono b) (fun h a=>(Wm h a).mono b) (by have:=Xn;omega)
theorem Zg {TT:List (List Rat)->Prop} {R K:Nat} (G:Gam TT R K S) {u:List (List Rat)} (hu:TT u) (hx:El u S x) (h:AQ u) (j:u.length<=3) (a:El u 4096 x) (g:0<=x->TB 512 (Aa u x)):
  ∃(T:List LR) (A:LR) (e:Int),CF 17 [.agg [.sl (.sl AA) (tw u),.sl AA (em u x)]] (.AG [(true,[.sl (.sl AA) T,.sl AA A]),(false,[.int .i64 e])])/\
   ((x<0/\T=[]/\A=[]/\e=7)\/(0<=x/\T=tw (Aa u x)/\A=em (Aa u x) (Re.sqrt x)/\e=0))/\(0<=x->El (Aa u x) 65536 (Re.sqrt x)/\AQ (Aa u x)/\(Aa u x).length<=u.length+1):=by
 have hlen:(Aa u x).length<=u.length+1:=by
  by_cases c:Sq u x
  ·rw[CY c];omega
  rw[C4 c];exact Nat.le_refl _
 have f:0<=x->El (Aa u x) 65536 (Re.sqrt x)/\AQ (Aa u x)/\(Aa u x).length<=u.length+1:=fun d=>by
  have i:=Iw h a.mem d;refine⟨?_,i,hlen⟩
  by_cases c:Sq u x
  ·have ht:AU 512 u:=⟨h,by have:=g d;rwa [CY c] at this,by decide,by omega⟩;have m:GG u.length 512<=GG 3 512:=JD j (Nat.le_refl _);have:=Wu;rw[CY c];exact (a.sqrt ht ((Hv d).1 c) (Re.CB d)).mono (by omega)
  have l:x≠0:=fun e=>c ⟨0,BM _,by rw[e];grind⟩
  have k:=Kj h a.mem (by grind) c;rw[C4 c,<-Gs a.mem];exact (F6 k).mono (Nat.zero_le _)
 by_cases d:x<0
 ·exact⟨[],[],7,Tx G hu rfl rfl hx d,.inl ⟨d,rfl,rfl,rfl⟩,f⟩
 have b:0<=x:=by grind
 obtain⟨k1,k2,n⟩:=f b;have C:=Gh k2 (g b) (by omega) (S:=65536) (by decide) (by decide);exact⟨_,_,0,LU C.toGam (HE u x) rfl rfl (a.mono (by decide)) (List.suffix_refl _) b rfl rfl k1 (by decide),.inr ⟨b,rfl,rfl,rfl⟩,f⟩
theorem ZY {a:Nu} (h:BI V a) (b:V.length<=3):El a.1 4096 a.2/\(0<=a.2->TB 512 (Aa a.1 a.2))/\El a.1 4096 (a.2*a.2)/\TB 512 (Aa a.1 (a.2*a.2)):=by
 have f:=Nat.le_trans h.len b;have tb:=h.tb b;have ht:AU 256 a.1:=⟨h.red,tb,by decide,by omega⟩;have he:=h.el b;have g:EE a.1.length 256<=EE 3 256:=Ft f (Nat.le_refl _);have i:EE 3 256<=2000:=by decide +kernel
 refine⟨he.mono (by decide),fun j=>?_,(he.mul ht he).mono (by omega),?_⟩
 ·by_cases d:Sq a.1 a.2
  ·rw[CY d];exact tb.mono (by decide)
  rw[C4 d];intro r c;rcases List.mem_cons.1 c with rfl | c
  ·exact he.bd
  exact (tb r c).mono (by decide)
 rw[CY ⟨_,h.mem,rfl⟩];exact tb.mono (by decide)
theorem Y0 (h:¬Ao x<0):0<=x:=by have:=Sc h;grind
theorem Y1 (h:0<=x):0<=Ao x:=by rcases DV x with⟨a,b⟩ |⟨a,b⟩ |⟨a,b⟩ <;> first | omega | (exfalso;grind)
theorem aK (f:ns=(runN (X.take 24)).1) (d:ns=[]):CF 3 [.one (.sl Bl X),.one (.bool sq)] (.one (.bool true)):=by
 refine AE Tryz.func3 (by kernel_rfl) rfl fun E c=>?_
 conv=>cbv
 refine cL c (V8 f d) t1 ?_;try conv=>cbv
 refine cL c Lt trivial ?_;try conv=>cbv
 intro g a;cases a.trans (rfl:_=false);conv=>cbv
 intro h b;cases b.trans (rfl:_=true);conv=>cbv
 refine cL c Lt trivial ?_;try conv=>cbv
 exact fA ⟨t2,trivial⟩ rfl (by simp)
theorem aL (ag:ns=(runN (X.take 24)).1) (J:ns≠[]) (i:V.length<=3) (d:∀n∈ns,BI V n):CF 3 [.one (.sl Bl X),.one (.bool sq)] (.one (.bool true)):=by
 obtain⟨a,ha⟩:∃z,z=ns.getLastD Gz:=⟨_,rfl⟩
 obtain⟨b,hb⟩:∃z,z=Du ns (ns.length/2):=⟨_,rfl⟩
 have s:a∈ns:=ha ▸ Qp J;have I:b∈ns:=hb ▸ MJ J _;have t:=C5 i d s;have l:=C5 i d I;have O:=((d a s).el i).mono (by decide:512<=Rm);have aC:=((d b I).el i).mono (by decide:512<=Rm);have aE:=(QH i d s I).1;obtain⟨T1,v⟩:=B9 (tw a.1);obtain⟨A1,u⟩:=BB (em a.1 a.2);obtain⟨T2,ad⟩:=B9 (tw b.1);obtain⟨A2,ab⟩:=BB (em b.1 b.2);have j:=ZY (d a s) i;have H:=Wk i d t;have W:=(d a s).red;refine AE Tryz.func3 (by kernel_rfl) rfl fun E p=>?_
 conv=>cbv
 refine cL p (V9 ag J i d ha hb v u ad ab) t1 ?_;try conv=>cbv
 refine cL p Lt trivial ?_;try conv=>cbv
 intro aF a6;cases a6.trans (rfl:_=false);conv=>cbv
 intro aG a7;cases a7.trans (rfl:_=false);conv=>cbv
 obtain⟨a5,q⟩:=xK fun vs bl=>∃(T:List LR) (A:LR) (x:Re),vs=[.one (.An 5 0 0)]/\bl=[.var 0 [.sl (.sl AA) T,.sl AA A]]/\(T=tw a.1/\A=em a.1 x)/\El a.1 4096 x/\(0<=x->TB 512 (Aa a.1 x))
 refine .inl ⟨[5],[5],a5,?_,?_⟩
 ·intro vs bl hj;rw[q] at hj;obtain⟨T,A,x,rfl,rfl,⟨hT,hA⟩,hx,l⟩:=hj;conv=>cbv
  obtain⟨ax,aw,ay,N,y,P⟩:=Zg (EP i d (S:=Rm) (by decide) (by decide)).toGam t (hx.mono (by decide)) W H hx l
  have N2:EF Tryz.prog false 17 [.agg [.sl (.sl AA) T,.sl AA A]] (.AG [(true,[.sl (.sl AA) ax,.sl AA aw]),(false,[.int .i64 ay])]):=by rw[hT,hA];exact N
  refine cL p N2 ⟨t2,trivial⟩ ?_;try conv=>cbv
  obtain⟨aN,Q⟩:=xI (Ao x);refine cL p (JP (EP i d (S:=Rm) (by decide) (by decide)) t hT hA (hx.mono (by decide)) Q) ⟨t2,trivial⟩ ?_;try conv=>cbv
  intro aj K;conv=>cbv
  cases aj <;> conv=>cbv
  ·have ah:=AR K;have w:=Y0 (by omega:¬Ao x<0);obtain⟨_,f,g,o⟩:=y.resolve_left (fun h=>absurd h.1 (by grind));obtain⟨c,k,af⟩:=P w;have Z:Re.sqrt x*Re.sqrt x=x:=Re.CB w;have ae:(Aa a.1 x).length<=4:=by omega
   obtain⟨ar,F⟩:=B9 (tw (Aa a.1 x));obtain⟨an,C⟩:=BB (em (Aa a.1 x) x)
   have hex:El (Aa a.1 x) 200000 x:=by
    have h4:=Ft (h:=(Aa a.1 x).length) (h':=4) (R:=512) (R':=512) ae (Nat.le_refl _);have h5:=Wb;have:=c.mul ((Gh k (l w) (by omega) (S:=65536) (by decide) (by decide)).AN (List.suffix_refl _)) c;rw[Z] at this;exact this.mono (by omega)
   refine cL (r:= .AG [(true,[.sl (.sl AA) ar,.sl AA an]),(false,[.int .i64 0])]) p (JO (Gh k (l w) (by omega) (S:=65536) (by decide) (by decide)) (List.suffix_refl _) (List.suffix_refl _) f f g g c c (by rw[F,KF]) (by rw[C,KF,Z])) ⟨t2,t2,trivial⟩ ?_;try conv=>cbv
   intro B4 L;conv=>cbv
   cases B4 <;> conv=>cbv
   ·have a1:=Ac L;exact absurd o a1
   have a1:=Ad L;refine cL p (Uh (Gh k (l w) (by omega) (S:=65536) (by decide) (by decide)) (List.suffix_refl _) f g c) ⟨t2,trivial⟩ ?_;try conv=>cbv
   obtain⟨aO,U⟩:=xI (Ao (Re.sqrt x));refine cL p (JP (Gh k (l w) (by omega) (S:=65536) (by decide) (by decide)) (List.suffix_refl _) f g c U) ⟨t2,trivial⟩ ?_;try conv=>cbv
   intro ak M;conv=>cbv
   cases ak <;> conv=>cbv
   ·have ai:=DC M;exact absurd (Y1 (Re.DO x)) (by omega)
   have ai:=DD M;intro aH a8;cases a8.trans (show _=true by decide);conv=>cbv
   refine cL (r:=.one (.bool true)) p (Uf (Gh k (l w) (by omega) (S:=200000) (by decide) (by decide)) (List.suffix_refl _) (HE _ _) F hT C hA hex (hx.mono (by decide)) (Gh k (l w) (by omega) (S:=1000000) (by decide) (by decide)) (by decide) (by simp)) ⟨t2,t2,trivial⟩ ?_;try conv=>cbv
   have m:=K7 (n:=(Aa a.1 x,Re.sqrt x)) k c.mem;obtain⟨a2,G⟩:=B9 (tw (DX (Aa a.1 x,Re.sqrt x)).1);obtain⟨ao,Y⟩:=BB (em (DX (Aa a.1 x,Re.sqrt x)).1 (Re.sqrt x));have au:a2.length<=a.1.length+1:=by rw[G,Au];exact Nat.le_trans m.2.1.len af
   have aD:T.length=a.1.length:=by rw[hT,Au]
   refine cL (r:= .agg [.sl (.sl AA) a2,.sl AA ao]) p (Lc k c.mem (by omega) (by rw[m.1,m.2.2]) f g G Y) ⟨t2,trivial⟩ ?_;try conv=>cbv
   rintro aI ⟨az,f74⟩;conv=>cbv
   rintro aJ ⟨aA,f77⟩;conv=>cbv
   intro aK aB;conv=>cbv
   refine g1 (by omega) ?_;intro aM aa;conv=>cbv
   refine⟨fun _=>YB (by kernel_rfl),?_⟩;exact fA ⟨⟨rfl,congrArg _ (by rw[aa];exact (decide_eq_true (by omega)).symm),trivial⟩,trivial⟩ rfl (by simp)
  have ah:=AS K;have av:=Sd (by omega:Ao x<0);obtain⟨_,f,g,o⟩:=y.resolve_right (fun h=>absurd h.1 (by grind))
  have N3:EF Tryz.prog false 19 [.agg [.sl (.sl AA) ax,.sl AA aw],.one (.int .i64 ay),.agg [.sl (.sl AA) [],.sl AA []],.one (.int .i64 7)] (.one (.bool true)):=by rw[f,g,o];exact XQ
  refine cL p N3 ⟨t2,rfl,⟨.inr ⟨_,rfl⟩,.inr ⟨_,rfl⟩,trivial⟩,rfl,trivial⟩ ?_;try conv=>cbv
  exact fA ⟨t2,trivial⟩ rfl (by simp)
 cases sq <;> conv=>cbv
 ·rw[q];exact⟨_,_,_,rfl,rfl,⟨v,u⟩,j.1,j.2.1⟩
 obtain⟨aq,D⟩:=B9 (tw a.1);obtain⟨al,B⟩:=BB (em a.1 (a.2*a.2));refine cL (r:= .AG [(true,[.sl (.sl AA) aq,.sl AA al]),(false,[.int .i64 0])]) p (JO (EP i d (S:=Rm) (by decide) (by decide)) t t v v u u O O (by rw[D,KF]) (by rw[B,KF])) ⟨t2,t2,trivial⟩ ?_;try conv=>cbv
 rw[q];exact⟨_,_,_,rfl,rfl,⟨D,B⟩,j.2.2.1,fun _=>j.2.2.2⟩
end Go.Abs
