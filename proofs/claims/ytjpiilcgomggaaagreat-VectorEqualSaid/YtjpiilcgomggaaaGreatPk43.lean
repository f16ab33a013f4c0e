/- Part 44 of a proof. Conditions: each theorem's own. -/
import Derived.Test.YtjpiilcgomggaaaGreatPk42
set_option linter.all false
set_option maxHeartbeats 8000000
open Go.Proofs
namespace Go.Abs
open Go.RowKit
variable {A:LR} {S k:Nat} {b1 b2:Bool} {l1 l2:List UInt32} {q:Rat} {u:List (List Rat)}
theorem aR (X:List (el Bl)):∃V:List Re,V.length<=3/\∀n∈(runN X).1,BI V n:=by
 obtain⟨a,V,b,c⟩:=NN X;exact⟨V,Nat.le_trans b a,c⟩
theorem Fp (h:Bf q):BF q:=⟨by have:=KK.2 h.1;omega,by have:=KK.2 h.2;omega⟩
theorem We (h:AQ u):em u (Re.ofRat q)=AW (q::List.replicate (2^u.length-1) 0):=by rw[em,HK q h]
theorem WH (p:Rat):0=D5 p p:=(beq_iff_eq.1 ((Jg p p).symm.trans (decide_eq_true rfl))).symm
theorem P5 {V:List Re} {n:Nu} (h:BI V n) (b:V.length<=3) (c:0<=n.2):El (Aa n.1 n.2) Rm (Re.sqrt n.2):=by
 have f:=Nat.le_trans h.len b;have ht:AU 256 n.1:=⟨h.red,h.tb b,by decide,by omega⟩;have j:GG n.1.length 256<=GG 3 256:=JD f (Nat.le_refl _);have d:GG 3 256<=100000:=by decide +kernel
 by_cases a:Sq n.1 n.2
 ·rw[CY a];exact ((h.el b).sqrt ht ((Hv c).1 a) (Re.CB c)).mono (by show _<=802678;omega)
 have g:n.2≠0:=fun e=>a ⟨0,BM _,by rw[e];grind⟩
 have i:=Kj h.red h.mem (by grind) a;rw[C4 a,<-Gs h.mem];exact (F6 i).mono (Nat.zero_le _)
theorem EO {a b:Nat} (h:a<18446744073709551616) (i:b<18446744073709551616) (f:Rm<=S) (g:S<=Sm):CP (Tf (PN [A6 a,A6 b])) Rm Cm S/\Tf (PN [A6 a,A6 b]) (A6 a).1/\Tf (PN [A6 a,A6 b]) (A6 b).1:=by
 have c:∀n∈[A6 a,A6 b],BI [qn a,qn b] n:=fun n c=>by
  simp only[List.mem_cons,List.not_mem_nil,or_false] at c;rcases c with rfl | rfl
  ·exact (Cs h).mono (fun v d=>by rw[List.mem_singleton.1 d];simp)
  exact (Cs i).mono (fun v d=>by rw[List.mem_singleton.1 d];simp)
 exact⟨EP (V:=[qn a,qn b]) (show 2<=3 by decide) c f g,C5 (V:=[qn a,qn b]) (show 2<=3 by decide) c (by simp),C5 (V:=[qn a,qn b]) (show 2<=3 by decide) c (by simp)⟩
theorem J3 (b:Rm<=S) (c:S<=Sm):CP (Tf (PN [([[6]],Ca)])) Rm Cm S/\Tf (PN [([[6]],Ca)]) [[6]]:=by
 have a:∀n∈[(([[6]],Ca):Nu)],BI [qn 6] n:=fun n a=>by rw[List.mem_singleton.1 a];exact FG
 exact⟨EP (V:=[qn 6]) (by decide) a b c,C5 (V:=[qn 6]) (by decide) a (List.mem_singleton.2 rfl)⟩
theorem Js (a:k<18446744073709551616):El [] Rm (qn k):=((Qf a).el (by decide)).mono (by decide)
theorem F7 (a:k<18446744073709551616):El (A6 k).1 Rm (Re.sqrt (qn k)):=((Cs a).el (show 1<=3 by decide)).mono (by decide)
theorem P7:El [[6]] 512 (Re.sqrt (qn 6)):=by
 have:=(Cs (k:=6) (by decide)).el (by decide);rw[A6,u6] at this;exact this
theorem Wd:El [[6]] Rm (qn 2*Re.sqrt (qn 6)):=by
 have ht:AU 256 [[6]]:=⟨Iv,FG.tb (by decide),by decide,by decide⟩
 have b:El [[6]] 512 (qn 2):=by
  refine (El.rat Iv (Ee (a:=[((2:Nat):Rat)]) (fun q c=>by rw[List.mem_singleton.1 c];exact ED (by decide)))).mono (by decide)
 exact (b.mul ht P7).mono (by decide +kernel)
theorem YX (h:k≠0):qn k≠0:=fun e=>h (Rat.natCast_inj.1 (Re.Ff.1 (show Re.ofRat ((k:Nat):Rat)=Re.ofRat ((0:Nat):Rat) from e)))
theorem Kt (h:k≠0):Re.sqrt (qn k)≠0:=fun e=>YX h (by have:=Re.CB (DU k);rw[e] at this;rw[<-this];grind)
theorem W1:Re.sqrt (qn 2)*D7 (Re.sqrt (qn 8))=Re.ofRat (1/2):=by
 have c:Re.sqrt (qn 8)=qn 2*Re.sqrt (qn 2):=by rw[show (8:Nat)=2*2*2 from rfl,Nb (2*2) 2,CB]
 have a:=IZ (Kt (k:=8) (by decide))
 generalize D7 (Re.sqrt (qn 8))=i at*
 rw[c] at a
 have e:Re.ofRat (1/2)*qn 2=1:=by
  rw[qn,<-Re.ofRat_mul,show (1/2:Rat)*((2:Nat):Rat)=1 by decide +kernel];rfl
 have b:Re.ofRat (1/2)*(qn 2*Re.sqrt (qn 2)*i)=Re.sqrt (qn 2)*i:=by
  have:Re.ofRat (1/2)*(qn 2*Re.sqrt (qn 2)*i)=(Re.ofRat (1/2)*qn 2)*(Re.sqrt (qn 2)*i):=by grind
  rw[this,e];grind
 rw[<-b,a];grind
theorem Q1 {x y:Re} (hx:0<=x) (c:0<=y) (h:x*x<y*y):x<y:=by
 apply Classical.byContradiction;intro b;have a:0<=x-y:=by grind
 have:=Re.Hj a (show 0<=x+y by grind)
 grind
theorem Ww:Ao (qn 1+Re.sqrt (qn 5)-Re.ofRat (3236/1000))=1:=by
 have a:=Re.CB (DU 5);have b:(0:Re)<=Re.ofRat (2236/1000):=by have:Re.ofRat 0<=Re.ofRat (2236/1000):=Re.Ip.2 (by decide +kernel);exact this
 have h:Re.ofRat (2236/1000)<Re.sqrt (qn 5):=by
  refine Q1 b (Re.DO _) ?_;rw[a,<-Re.ofRat_mul,qn];exact Re.FH.2 (by decide +kernel)
 have e:Re.ofRat (3236/1000)=Re.ofRat (2236/1000)+qn 1:=by rw[qn,<-Re.ofRat_add];exact congrArg _ (by decide +kernel)
 refine Ev ?_;rw[e];grind
theorem Wv:Ao (qn 1+Re.sqrt (qn 5)-Re.ofRat (3238/1000))= -1:=by
 have a:=Re.CB (DU 5);have b:(0:Re)<=Re.ofRat (2238/1000):=by have:Re.ofRat 0<=Re.ofRat (2238/1000):=Re.Ip.2 (by decide +kernel);exact this
 have h:Re.sqrt (qn 5)<Re.ofRat (2238/1000):=by
  refine Q1 (Re.DO _) b ?_;rw[a,<-Re.ofRat_mul,qn];exact Re.FH.2 (by decide +kernel)
 have e:Re.ofRat (3238/1000)=Re.ofRat (2238/1000)+qn 1:=by rw[qn,<-Re.ofRat_add];exact congrArg _ (by decide +kernel)
 refine Ht ?_;rw[e];grind
theorem Qn:El (Al (A6 2).1 (A6 3).1) 8589934592 (Re.sqrt (qn 2)+Re.sqrt (qn 3))/\Tf PA (Al (A6 2).1 (A6 3).1):=by
 have G:=(PA.J5 (Nat.le_refl Rm) (by decide)).toGam;have t2:Tf PA (A6 2).1:=Tf.of PA.Dg (.inr (.inl (List.suffix_refl _)));have t3:Tf PA (A6 3).1:=Tf.of PA.Dg (.inr (.inr (List.suffix_refl _)));obtain⟨a,d,f⟩:=G.Al t2 t3;have b:=G.BA t2 a d (F7 (k:=2) (by decide));have c:=G.BA t3 a f (F7 (k:=3) (by decide));exact⟨(b.add (G.AN a).red c).mono (by decide),a⟩
theorem UN (h:AQ u) (hA:A=em u (Re.ofRat q)) (j:Aq q b1 l1 b2 l2):CF 126 [.one (.sl AA A)] (.AG [(true,[.bool b1,.sl .u32 l1,.bool b2,.sl .u32 l2]),(false,[.bool true])]):=by
 rw[We h] at hA;have p:A.length=1+(2^u.length-1):=by rw[hA];simp;omega
 have d:A[0]? =some ((b1,l1),(b2,l2)):=by rw[hA,<-j.rp];rfl
 refine AE Tryz.func126 (by kernel_rfl) rfl fun E t=>?_
 conv=>cbv
 rintro F ⟨C,f5⟩;conv=>cbv
 intro z n;conv=>cbv
 cases z <;> conv=>cbv
 ·have o:=Ac n;intro D w;conv=>cbv
  refine g2 (by omega) ?_;rintro a9 B ⟨f,v⟩;conv=>cbv
  intro x g;conv=>cbv
  refine cL (r:= .one (.bool true)) t (Lf (X:=x) (xs:=List.replicate (2^u.length-1) 0) (by rw[g,f,List.take_of_length_le (by omega),hA];rfl) (decide_eq_true (fun q j=>List.eq_of_mem_replicate j)).symm) t1 ?_;try conv=>cbv
  intro y c;cases c.trans (rfl:_=false);conv=>cbv
  obtain⟨m,b⟩:=AF (l:=A) (i:=0) (by omega);refine⟨m,fun _=>⟨by omega,b⟩,?_⟩;try conv=>cbv
  have a:=Option.some.inj (b.symm.trans d);exact fA ⟨⟨rfl,congrArg _ (by rw[a]),congrArg _ (by rw[a]),congrArg _ (by rw[a]),congrArg _ (by rw[a]),trivial⟩,t2,trivial⟩ rfl (by simp)
 have o:=Ad n;exact absurd o (by omega)
theorem Tv {T1:List LR} (h:AQ u) (hA:A=em u (Re.ofRat q)) (b:Aq q b1 l1 b2 l2) (c:BF q):CF 61 [.agg [.sl (.sl AA) T1,.sl AA A]] (.AG [(true,[.bool b1,.sl .u32 l1,.bool b2,.sl .u32 l2]),(false,[.bool true])]):=by
 refine AE Tryz.func61 (by kernel_rfl) rfl fun E a=>?_
 conv=>cbv
 refine cL a (UN h hA b) t1 ?_;try conv=>cbv
 refine cL a (MA b c) ⟨t4,trivial⟩ ?_;try conv=>cbv
 exact fA ⟨⟨rfl,rfl,rfl,rfl,rfl,trivial⟩,t2,trivial⟩ rfl (by simp)
theorem Hg {x:Int} {T:List LR} (h:x=(k:Int)) (j:k<4294967296) (hT:T=tw (A6 k).1) (hA:A=em (A6 k).1 (A6 k).2):CF 66 [.one (.int .i64 x)] (.agg [.sl (.sl AA) T,.sl AA A]):=by
 have d:=Qf (k:=k) (by omega);obtain⟨i,b,c⟩:=Hq d (by decide) (DU k) (Nat.le_refl Rm) (by decide);have f:BF ((x:Int):Rat):=Fp (by rw[h];exact ED (k:=k) (by omega));refine AE Tryz.func66 (by kernel_rfl) rfl fun E g=>?_
 conv=>cbv
 obtain⟨l,a⟩:=BB (em [] (qn k));refine cL (r:= .agg [.sl (.sl AA) (([]:List LR)),.sl AA l]) g (JG (by omega) f (by rw[a,h];rfl)) t1 ?_;try conv=>cbv
 refine cL g (LU i.toGam b rfl a (Js (by omega)) c (DU k) hT hA ((Cs (k:=k) (by omega)).el (show 1<=3 by decide)) (by decide)) ⟨t2,trivial⟩ ?_;try conv=>cbv
 exact fA ⟨t3,trivial⟩ rfl (by simp)
abbrev Sa:Nat:=8589934592
abbrev Sb:Nat:=34359738368
theorem Wc:El (A6 5).1 Sa (qn 1+Re.sqrt (qn 5)):=by
 have G:=(EO (a:=5) (b:=5) (by decide) (by decide) (Nat.le_refl Rm) (by decide))
 have c:El (A6 5).1 Rm (qn 1):=by
  refine (El.rat (Cs (k:=5) (by decide)).red (Ee (a:=[((1:Nat):Rat)]) (fun q d=>by rw[List.mem_singleton.1 d];exact ED (by decide)))).mono (by decide)
 exact (c.add (Cs (k:=5) (by decide)).red (F7 (by decide))).mono (by decide)
theorem P6 (h:Bf q) (b:64<=S:=by decide):El [] S (Re.ofRat q):=(El.rat ND (Ee (a:=[q]) (fun p c=>by rw[List.mem_singleton.1 c];exact h))).mono b
instance (q:Rat):Decidable (Bf q):=inferInstanceAs (Decidable (_/\_))
theorem Lt:CF 15 [] (.one (.bool true)):=by
 refine AE Tryz.func15 (by kernel_rfl) rfl fun E c=>?_
 conv=>cbv
 obtain⟨b9,L⟩:=B9 (tw (A6 2).1);obtain⟨aZ,o⟩:=BB (em (A6 2).1 (Re.sqrt (qn 2)));refine cL c (Hg (k:=2) rfl (by decide) L o) t1 ?_;try conv=>cbv
 obtain⟨ba,M⟩:=B9 (tw (A6 8).1);obtain⟨v20,p⟩:=BB (em (A6 8).1 (Re.sqrt (qn 8)));refine cL c (Hg (k:=8) rfl (by decide) M p) t1 ?_;try conv=>cbv
 obtain⟨aw,ab⟩:=B9 (tw (Al (A6 2).1 (A6 8).1));obtain⟨ak,t⟩:=BB (em (Al (A6 2).1 (A6 8).1) (Re.ofRat (1/2)));refine cL (r:= .AG [(true,[.sl (.sl AA) aw,.sl AA ak]),(false,[.int .i64 0])]) c (Tt (EO (a:=2) (b:=8) (by decide) (by decide) (Nat.le_refl Rm) (by decide)).1.toGam (EO (by decide) (by decide) (Nat.le_refl Rm) (by decide)).2.1 (EO (by decide) (by decide) (Nat.le_refl Rm) (by decide)).2.2 L M o p (F7 (by decide)) (F7 (by decide)) (KD (Cs (k:=8) (by decide)).red (Cs (k:=8) (by decide)).mem (Kt (by decide))) (IZ (Kt (by decide))) ((Cs (k:=8) (by decide)).inv (by decide) (Kt (by decide))) (Qb _ (Nat.le_trans (Cs (k:=8) (by decide)).len (by decide))) ab (by rw[t];exact congrArg _ W1.symm)) ⟨t2,t2,trivial⟩ ?_;try conv=>cbv
 obtain⟨gb,gl,gc,gm,n⟩:=A9 (1/2:Rat);have d:=(EO (a:=2) (b:=8) (by decide) (by decide) (Nat.le_refl Rm) (by decide));have aa:=(d.1.toGam.AN (d.1.toGam.Al d.2.1 d.2.2).1).red;refine cL c (Tv aa t n (Fp (by decide +kernel:Bf (1/2:Rat)))) ⟨t2,trivial⟩ ?_;try conv=>cbv
 intro aS ad;cases ad.trans (show _=false by decide);conv=>cbv
 intro aT ae;cases ae.trans (rfl:_=false);conv=>cbv
 obtain⟨aB,aH,aE,aK,j⟩:=A9 (1/2:Rat);have a5:(1/2:Rat)=Rat.divInt 1 2:=by decide +kernel
 refine cL c (G6 (by decide) (by decide) (by decide) a5 j) t2 ?_;try conv=>cbv
 refine cL c (OU n j (Fp (by decide +kernel:Bf (1/2:Rat))) (Fp (by decide +kernel:Bf (1/2:Rat))) (WH _)) ⟨t4,t4,trivial⟩ ?_;try conv=>cbv
 intro aU af;cases af.trans (show _=false by decide);conv=>cbv
 refine g2 rfl ?_;obtain⟨al,v⟩:=BB (em [] (qn 2));refine cL (r:= .agg [.sl (.sl AA) (([]:List LR)),.sl AA al]) c (JG (x:=2) (by decide) (Fp (ED (k:=2) (by decide))) (by rw[v];rfl)) t1 ?_;try conv=>cbv
 obtain⟨ax,N⟩:=B9 (tw [[6]]);obtain⟨an,w⟩:=BB (em [[6]] (Re.sqrt (qn 6)));refine cL (r:= .agg [.sl (.sl AA) ax,.sl AA an]) c (Hg (k:=6) rfl (by decide) (by rw[N,A6,u6]) (by rw[w,A6,u6])) t1 ?_;try conv=>cbv
 obtain⟨ay,O⟩:=B9 (tw [[6]]);obtain⟨ao,y⟩:=BB (em [[6]] (qn 2*Re.sqrt (qn 6)));refine cL (r:= .AG [(true,[.sl (.sl AA) ay,.sl AA ao]),(false,[.int .i64 0])]) c (N7 (J3 (Nat.le_refl Rm) (by decide)).1.toGam .nil (J3 (Nat.le_refl Rm) (by decide)).2 rfl N v w (Js (by decide)) (P7.mono (by decide)) (by rw[O,HY]) (by rw[y,HY])) ⟨t2,t2,trivial⟩ ?_;try conv=>cbv
 obtain⟨aq,z⟩:=BB (em [] (qn 5));refine cL (r:= .agg [.sl (.sl AA) (([]:List LR)),.sl AA aq]) c (JG (x:=5) (by decide) (Fp (ED (k:=5) (by decide))) (by rw[z];rfl)) t1 ?_;try conv=>cbv
 obtain⟨az,P⟩:=B9 (tw [[6]]);obtain⟨ar,B⟩:=BB (em [[6]] (Ca));refine cL (r:= .AG [(true,[.sl (.sl AA) az,.sl AA ar]),(false,[.int .i64 0])]) c (LQ (J3 (Nat.le_refl Rm) (by decide)).1.toGam .nil (J3 (Nat.le_refl Rm) (by decide)).2 rfl O z y (Js (by decide)) Wd (by rw[P,HY]) (by rw[B,HY];rfl)) ⟨t2,t2,trivial⟩ ?_;try conv=>cbv
 refine g2 rfl ?_;obtain⟨bb,Q⟩:=B9 (tw (Aa [[6]] Ca));obtain⟨b0,C⟩:=BB (em (Aa [[6]] Ca) (Re.sqrt Ca));refine cL c (LU (Hq FG (by decide) F9 (Nat.le_refl Rm) (by decide)).1.toGam (Hq FG (by decide) F9 (Nat.le_refl Rm) (by decide)).2.1 P B ((FG.el (by decide)).mono (by decide)) (Hq FG (by decide) F9 (Nat.le_refl Rm) (by decide)).2.2 F9 Q C (P5 FG (by decide) F9) (by decide)) ⟨t2,trivial⟩ ?_;try conv=>cbv
 obtain⟨bc,R⟩:=B9 (tw (A6 2).1);obtain⟨b3,D⟩:=BB (em (A6 2).1 (Re.sqrt (qn 2)));refine cL c (Hg (k:=2) rfl (by decide) R D) t1 ?_;try conv=>cbv
 obtain⟨bd,T⟩:=B9 (tw (A6 3).1);obtain⟨b4,F⟩:=BB (em (A6 3).1 (Re.sqrt (qn 3)));refine cL c (Hg (k:=3) rfl (by decide) T F) t1 ?_;try conv=>cbv
 obtain⟨bf,U⟩:=B9 (tw (Al (A6 2).1 (A6 3).1));obtain⟨b5,G⟩:=BB (em (Al (A6 2).1 (A6 3).1) (Re.sqrt (qn 2)+Re.sqrt (qn 3)));refine cL c (LQ (EO (a:=2) (b:=3) (by decide) (by decide) (Nat.le_refl Rm) (by decide)).1.toGam (EO (by decide) (by decide) (Nat.le_refl Rm) (by decide)).2.1 (EO (by decide) (by decide) (Nat.le_refl Rm) (by decide)).2.2 R T D F (F7 (by decide)) (F7 (by decide)) U G) ⟨t2,t2,trivial⟩ ?_;try conv=>cbv
 obtain⟨au,H⟩:=BB (em [] (qn 1));refine cL (r:= .agg [.sl (.sl AA) (([]:List LR)),.sl AA au]) c (JG (x:=1) (by decide) (Fp (ED (k:=1) (by decide))) (by rw[H];rfl)) t1 ?_;try conv=>cbv
 obtain⟨bg,W⟩:=B9 (tw (A6 5).1);obtain⟨b6,I⟩:=BB (em (A6 5).1 (Re.sqrt (qn 5)));refine cL c (Hg (k:=5) rfl (by decide) W I) t1 ?_;try conv=>cbv
 obtain⟨aA,i⟩:=B9 (tw (A6 5).1);obtain⟨av,h⟩:=BB (em (A6 5).1 (qn 1+Re.sqrt (qn 5)));refine cL (r:= .AG [(true,[.sl (.sl AA) aA,.sl AA av]),(false,[.int .i64 0])]) c (LQ (EO (a:=5) (b:=5) (by decide) (by decide) (Nat.le_refl Rm) (by decide)).1.toGam .nil (EO (by decide) (by decide) (Nat.le_refl Rm) (by decide)).2.1 rfl W H I (Js (by decide)) (F7 (by decide)) (by rw[i,HY]) (by rw[h,HY])) ⟨t2,t2,trivial⟩ ?_;try conv=>cbv
 obtain⟨aC,aI,aF,aL,l⟩:=A9 (3236/1000:Rat);have a6:(3236/1000:Rat)=Rat.divInt 3236 1000:=by decide +kernel
 refine cL c (G6 (by decide) (by decide) (by decide) a6 l) t2 ?_;try conv=>cbv
 obtain⟨b7,J⟩:=BB (em [] (Re.ofRat (3236/1000)));refine cL c (LS l (Fp (by decide +kernel:Bf (3236/1000:Rat))) J) ⟨t4,trivial⟩ ?_;try conv=>cbv
 have g:El (A6 5).1 Sa (qn 1+Re.sqrt (qn 5)):=Wc;have a8:=(EO (a:=5) (b:=5) (by decide) (by decide) (S:=Sa) (by decide) (by decide)).1;have f:=(EO (a:=5) (b:=5) (by decide) (by decide) (S:=Sb) (by decide) (by decide));refine cL c (N6 a8.toGam f.2.1 .nil i rfl h J g (P6 (by decide +kernel)) f.1.toGam (by decide) Ww.symm) ⟨t2,t2,trivial⟩ ?_;try conv=>cbv
 refine g2 rfl ?_;obtain⟨aD,aJ,aG,aM,m⟩:=A9 (3238/1000:Rat);have a7:(3238/1000:Rat)=Rat.divInt 3238 1000:=by decide +kernel
 refine cL c (G6 (by decide) (by decide) (by decide) a7 m) t2 ?_;try conv=>cbv
 obtain⟨b8,K⟩:=BB (em [] (Re.ofRat (3238/1000)));refine cL c (LS m (Fp (by decide +kernel:Bf (3238/1000:Rat))) K) ⟨t4,trivial⟩ ?_;try conv=>cbv
 refine cL c (N6 a8.toGam f.2.1 .nil i rfl h K g (P6 (by decide +kernel)) f.1.toGam (by decide) Wv.symm) ⟨t2,t2,trivial⟩ ?_;try conv=>cbv
 refine g2 rfl ?_;intro aV ag;cases ag.trans (show _=true by decide);conv=>cbv
 intro aW ah;cases ah.trans (show _=true by decide);conv=>cbv
 intro aX ai;cases ai.trans (show _=true by decide);conv=>cbv
 intro aY aj;cases aj.trans (show _=true by decide);conv=>cbv
 refine cL (r:= .one (.bool true)) c (Tu (PA.J5 (S:=Sa) (by decide) (by decide)).toGam (Tf.of PA.Dg (.inl (List.suffix_refl _))) Qn.2 Q U C G ((P5 FG (by decide) F9).mono (by decide)) Qn.1 (by simp[RF])) ⟨t2,t2,trivial⟩ ?_;try conv=>cbv
 intro aN X;cases X.trans (show _=true by decide);conv=>cbv
 intro aO Y;cases Y.trans (show _=true by decide);conv=>cbv
 intro aP Z;cases Z.trans (show _=true by decide);conv=>cbv
 intro aQ a1;cases a1.trans (show _=true by decide);conv=>cbv
 intro aR a2;cases a2.trans (show _=true by decide);conv=>cbv
 exact fA ⟨t2,trivial⟩ rfl (by simp)
end Go.Abs
namespace Go.Abs
open Go.RowKit
def orM (g:Nat->Nat):List Nat->Nat
 | []=>0
 | k::r=>Nat.lor (Nat.lor (Nat.pow 2 k) (g k)) (orM g r)
def aY (acc:List Nat) (n k:Nat):Nat:=match Nat.ble (k+1) n with | true=>acc.getD (n-1-k) 0 | false=>0
def bD:List Oper->List Nat->Nat->List Nat
 | [],acc,_=>acc
 | o::r,acc,n=>bD r (orM (aY acc n) (EJ o)::acc) (n+1)
def bw (ops:List Oper) (tr:Tr):Bool:=PC ops&&((fun acc=>(List.range ops.length).all fun j=>(List.range j).all fun i=>
 Nat.testBit (aY acc ops.length j) i||
  (match ops[i]?,ops[j]?,tr[i]?,tr[j]? with
   | some oi,some oj,some ti,some tj=>JZ ops oi oj ti tj
   | _,_,_,_=>false)) (bD ops [] 0))
variable {s:Nat} {u:List (List Rat)} {x:Re}
theorem bx {g:Nat->Nat} {i:Nat}:∀{l:List Nat},(orM g l).testBit i=true↔∃k∈l,i=k\/(g k).testBit i=true
 | []=>by simp[orM]
 | k::r=>by
  have c:=bx (g:=g) (i:=i) (l:=r)
  show ((2^k ||| g k) ||| orM g r).testBit i=true↔_
  rw[Nat.testBit_or,Nat.testBit_or,Nat.testBit_two_pow,Bool.or_eq_true,Bool.or_eq_true,c];simp only[List.mem_cons,decide_eq_true_eq]
  constructor
  ·rintro ((h | h) |⟨m,b,a⟩)
   ·exact⟨k,.inl rfl,.inl h.symm⟩
   ·exact⟨k,.inl rfl,.inr h⟩
   exact⟨m,.inr b,a⟩
  rintro⟨m,rfl | b,a⟩
  ·exact .inl (a.imp Eq.symm id)
  exact .inr ⟨m,b,a⟩
theorem cQ {x:Nat} {acc:List Nat} {n k:Nat} (h:k≠n):aY (x::acc) (n+1) k=aY acc n k:=by
 unfold aY
 by_cases c:k<n
 ·rw[Nat.ble_eq_true_of_le (by omega:k+1<=n+1),Nat.ble_eq_true_of_le (by omega:k+1<=n)]
  show (x::acc).getD (n+1-1-k) 0=acc.getD (n-1-k) 0
  rw[show n+1-1-k=(n-1-k)+1 by omega];rfl
 have a:Nat.ble (k+1) (n+1)=false:=by rw[<-Bool.not_eq_true,Nat.ble_eq];omega
 have b:Nat.ble (k+1) n=false:=by rw[<-Bool.not_eq_true,Nat.ble_eq];omega
 rw[a,b]
theorem bc:∀(ops:List Oper) {acc:List (List Nat)} {m:List Nat},(∀j i,(aY m acc.length j).testBit i=true↔i∈acc.getD j [])->∀j i,(aY (bD ops m acc.length) (acc.length+ops.length) j).testBit i=true↔i∈(Dc ops acc).getD j []
 | [],_,_,h=>h
 | o::r,acc,m,h=>by
  rw[Dc,bD]
  have:=bc r (acc:=acc++[(EJ o).flatMap fun j=>j::acc.getD j []]) (m:=orM (aY m acc.length) (EJ o)::m) (fun j i=>by
   rw[List.length_append,List.length_singleton]
   by_cases e:j=acc.length
   ·subst e
    have b:aY (orM (aY m acc.length) (EJ o)::m) (acc.length+1) acc.length=orM (aY m acc.length) (EJ o):=by
     unfold aY;rw[Nat.ble_eq_true_of_le (Nat.le_refl _)]
     show (_::m).getD (acc.length+1-1-acc.length) 0=_
     rw[show acc.length+1-1-acc.length=0 by omega];rfl
    rw[b,bx];have c:(acc++[(EJ o).flatMap fun j=>j::acc.getD j []]).getD acc.length []=(EJ o).flatMap fun j=>j::acc.getD j []:=by simp
    rw[c,List.mem_flatMap]
    constructor
    ·rintro⟨k,a,h'⟩;exact⟨k,a,List.mem_cons.2 (h'.imp id (h k i).1)⟩
    rintro⟨k,a,h'⟩;exact⟨k,a,(List.mem_cons.1 h').imp id (h k i).2⟩
   rw[cQ e,h]
   by_cases d:j<acc.length
   ·simp only[List.getD_eq_getElem?_getD,List.getElem?_append_left d]
   simp only[List.getD_eq_getElem?_getD];rw[List.getElem?_eq_none (by omega),List.getElem?_eq_none (by simp;omega)])
  rw[List.length_append,List.length_singleton] at this;rw[List.length_cons,show acc.length+(r.length+1)=acc.length+1+r.length by omega];exact this
theorem YB {ops:List Oper} {b:Tr} (h:bw ops b=true):Gp ops b=true:=by
 unfold bw at h;unfold Gp;rw[Bool.and_eq_true] at h ⊢;refine⟨h.1,?_⟩;have a:=bc ops (acc:=[]) (m:=[]) (fun j i=>by unfold aY;split <;> simp);rw[List.length_nil,Nat.zero_add] at a
 have e:∀j i,((Dc ops []).getD j []).contains i=Nat.testBit (aY (bD ops [] 0) ops.length j) i:=fun j i=>by
  rw[Bool.eq_iff_iff,List.contains_iff_mem];exact (a j i).symm
 have c:=h.2;unfold My;simp only[e];exact c
theorem Zp {t:List (List Rat)}:∀{s:List (List Rat)},AQ (s++t)->Av (s++t) t->s=[]
 | [],_,_=>rfl
 | r::s,h,b=>by
  have a:AQ (r::(s++t)):=h;exact absurd ⟨_,Jt s _ (b _ (GD (s++t) r)),Bk a⟩ a.2.2.2
theorem El.up {r:List Rat} (h:AQ (r::u)) (hx:El u s x):El (r::u) s x:=by
 have a:El u 0 0:=El.rat h.1 EK;have:=PF h hx.mem a.mem hx.bd a.bd;rw[show x+0*rt u r=x by grind] at this;exact⟨FZ hx.mem,this⟩
theorem El.TP (hx:El u s x):∀{v:List (List Rat)},AQ (v++u)->El (v++u) s x
 | [],_=>hx
 | _::_,h=>El.up h (El.TP hx h.1)
theorem WC {R:Nat} {w:List (List Rat)} (hw:AQ w) (tb:TB R w) (j:w.length<=4) {S:Nat} (hR:R<=60000000000000) (f:R<=S) (g:∀h,h<=4->Fit h R S) (i:∀h,h<=4->Cu h R S) (l:2*S+EE 4 R<=60000000000000):CP (fun u=>u<:+w) R 0 S:=by
 have hle:∀{u},u<:+w->u.length<=4:=fun {u} h=>Nat.le_trans h.length_le j
 have key:∀{u t},u<:+w->t<:+w->Av u t->u<:+t:=fun {u t} hu ht a=>by
  rcases List.suffix_or_suffix_of_suffix hu ht with h | h
  ·exact h
  obtain⟨s,rfl⟩:=h;have:=Zp (Fj hu hw) a;rw[this];exact List.suffix_refl _
 refine {AN:=fun {u} h=>⟨Fj h hw,fun r b=>tb r (h.subset b),hR,by have:=hle h;omega⟩,ht:=fun {u} h=>by have:=hle h;omega,nil:=List.nil_suffix,sub:=fun {r u} h=>(List.suffix_cons r u).trans h,Aa:=fun {t r u} ht h a=>?_,BA:=fun {u v s x} hu d a hx=>?_,fit:=fun {u} h=>g _ (hle h),mul:=fun {u} h=>?_,RS:=f,F8:=fun {u} h=>i _ (hle h)}
 ·have b:=Fj h hw;have c:=key ((List.suffix_cons r u).trans h) ht a;rcases List.suffix_or_suffix_of_suffix h ht with k | k
  ·rw[CY ⟨_,IV k _ (GD u r),Bk b⟩];exact ht
  rcases List.suffix_cons_iff.1 k with e | k
  ·rw[CY ⟨_,by rw[e];exact GD u r,Bk b⟩];exact ht
  have e:t=u:=TC k c;rw[e,Ox b];exact h
 ·have:=key hu d a;obtain⟨s',rfl⟩:=this;exact (hx.TP (Fj d hw)).mono (Nat.le_refl _)
 have:=Ft (h:=u.length) (h':=4) (R:=R) (R':=R) (hle h) (Nat.le_refl _);omega
end Go.Abs
namespace Go.Abs
open Go.RowKit
abbrev S1:Nat:=1000000000
theorem cV:∀h,h<=3->EE h Rm<=6000000
 |0,_|1,_|2,_|3,_=>by decide +kernel
 | _+4,h=>absurd h (by omega)
section
variable {V:List Re} {ns:List Nu}
theorem Wk (a:V.length<=3) (h:∀n∈ns,BI V n) {u:List (List Rat)} (hu:Tf (PN ns) u):u.length<=3:=Nat.le_trans (hu.len (PN.Dg a h) (fun b=>PN.A3 h b)) a
theorem bQ (g:V.length<=3) (h:∀n∈ns,BI V n) {u v:List (List Rat)} {x y:Re} {s q:Nat} (hu:Tf (PN ns) u) (c:Tf (PN ns) v) (i:s<=Sm) (b:max s Rm+Cm<=q) (hx:El u s x) (j:El v s y):
  Tf (PN ns) (Al u v)/\El (Al u v) q x/\El (Al u v) q y:=by
 have G:=(EP g h (S:=max s Rm) (Nat.le_max_right _ _) (Nat.max_le.2 ⟨i,by decide⟩)).toGam;obtain⟨a,d,f⟩:=G.Al hu c;exact⟨a,(G.BA hu a d (hx.mono (Nat.le_max_left _ _))).mono b,(G.BA c a f (j.mono (Nat.le_max_left _ _))).mono b⟩
theorem dM (a:V.length<=3) (h:∀n∈ns,BI V n) {u v:List (List Rat)} {x y:Re} {s q t:Nat} (hu:Tf (PN ns) u) (i:Tf (PN ns) v) (c:s<=Sm) (hx:El u s x) (j:El v s y) (b:max s Rm+Cm<=q) (ht:2*q+6000000<=t):El (Al u v) t (x+y):=by
 obtain⟨d,f,g⟩:=bQ a h hu i c b hx j
 clear b c
 exact (f.add (d.red (PN.Dg a h)) g).mono (by omega)
theorem dO (a:V.length<=3) (h:∀n∈ns,BI V n) {u v:List (List Rat)} {x y:Re} {s q t:Nat} (hu:Tf (PN ns) u) (i:Tf (PN ns) v) (c:s<=Sm) (hx:El u s x) (j:El v s y) (b:max s Rm+Cm<=q) (ht:2*q+6000000<=t):El (Al u v) t (x-y):=by
 obtain⟨d,f,g⟩:=bQ a h hu i c b hx j
 clear b c
 exact (f.sub (d.red (PN.Dg a h)) g).mono (by omega)
theorem dN (a:V.length<=3) (h:∀n∈ns,BI V n) {u v:List (List Rat)} {x y:Re} {s q t:Nat} (hu:Tf (PN ns) u) (i:Tf (PN ns) v) (d:s<=Sm) (hx:El u s x) (j:El v s y) (c:max s Rm+Cm<=q) (ht:2*q+6000000<=t):El (Al u v) t (x*y):=by
 obtain⟨b,f,g⟩:=bQ a h hu i d c hx j;have G:=(EP a h (Nat.le_refl Rm) (by decide)).toGam;have he:=cV _ (Wk a h b);have:=f.mul (G.AN b) g
 generalize EE (Al u v).length Rm=e at*
 clear c d G
 exact this.mono (by omega)
end
theorem dT:max Rm Rm+Cm<=455921699:=by decide +kernel
theorem num_1:2*455921699+6000000<=S1:=by decide +kernel
theorem dR:2*455921699+6000000<=Sa:=by decide +kernel
theorem dU:max S1 Rm+Cm<=1455119021:=by decide +kernel
theorem dS:2*1455119021+6000000<=Sa:=by decide +kernel
theorem dQ {TT:List (List Rat)->Prop} {R K S:Nat} (G:CP TT R K S) {T1 T2:List LR} {A1 A2:LR} {u v:List (List Rat)} {x y:Re} (hu:TT u) (m:TT v) (b:T1=tw u) (g:T2=tw v) (a:A1=em u x) (f:A2=em v y) (hx:El u S x) (n:El v S y) {K2 S2:Nat} (j:CP TT R K2 S2) (l:2*(S+K)+1<=S2) (h:x=y):CF 19 [.agg [.sl (.sl AA) T1,.sl AA A1],.one (.int .i64 0),.agg [.sl (.sl AA) T2,.sl AA A2],.one (.int .i64 0)] (.one (.bool true)):=by
 refine AE Tryz.func19 (by kernel_rfl) rfl fun E i=>?_
 conv=>cbv
 intro o c;cases c.trans (show _=false by decide);conv=>cbv
 intro p d;cases d.trans (show _=true by decide);conv=>cbv
 refine cL i (Uh G hu b a hx) ⟨t2,trivial⟩ ?_;try conv=>cbv
 refine cL (r:= .one (.bool true)) i (Uf G hu m b g a f hx n j l (by simp[h])) ⟨t2,t2,trivial⟩ ?_;try conv=>cbv
 exact fA ⟨t2,trivial⟩ rfl (by simp)
theorem dP:CF 19 [.agg [.sl (.sl AA) (([]:List LR)),.sl AA (([]:LR))],.one (.int .i64 6),.agg [.sl (.sl AA) (([]:List LR)),.sl AA (([]:LR))],.one (.int .i64 6)] (.one (.bool true)):=by
 refine AE Tryz.func19 (by kernel_rfl) rfl fun E p=>?_
 conv=>cbv
 intro j f;cases f.trans (show _=true by decide);conv=>cbv
 intro l g;cases g.trans (show _=true by decide);conv=>cbv
 rintro m ⟨c,f17⟩;conv=>cbv
 intro i a;conv=>cbv
 cases i <;> conv=>cbv
 ·have b:=Ac a;exact absurd b (by have:=c;simp at this;omega)
 have b:=Ad a;rintro n ⟨d,f23⟩;conv=>cbv
 intro o h;conv=>cbv
 exact fA ⟨⟨rfl,congrArg _ (by rw[h,d];rfl),trivial⟩,trivial⟩ rfl (by simp)
theorem XQ:CF 19 [.agg [.sl (.sl AA) (([]:List LR)),.sl AA (([]:LR))],.one (.int .i64 7),.agg [.sl (.sl AA) (([]:List LR)),.sl AA (([]:LR))],.one (.int .i64 7)] (.one (.bool true)):=by
 refine AE Tryz.func19 (by kernel_rfl) rfl fun E p=>?_
 conv=>cbv
 intro j f;cases f.trans (show _=true by decide);conv=>cbv
 intro l g;cases g.trans (show _=true by decide);conv=>cbv
 rintro m ⟨c,f17⟩;conv=>cbv
 intro i a;conv=>cbv
 cases i <;> conv=>cbv
 ·have b:=Ac a;exact absurd b (by have:=c;simp at this;omega)
 have b:=Ad a;rintro n ⟨d,f23⟩;conv=>cbv
 intro o h;conv=>cbv
 exact fA ⟨⟨rfl,congrArg _ (by rw[h,d];rfl),trivial⟩,trivial⟩ rfl (by simp)
theorem V8 {X:List (el Bl)} {ns:List Nu} (f:ns=(runN (X.take 24)).1) (d:ns=[]):CF 14 [.one (.sl Bl X)] (.AG [(true,[.sl (.sl AA) (([]:List LR)),.sl AA (([]:LR))]),(true,[.sl (.sl AA) (([]:List LR)),.sl AA (([]:LR))]),(false,[.bool false])]):=by
 refine AE Tryz.func14 (by kernel_rfl) rfl fun E j=>?_
 conv=>cbv
 obtain⟨h,b⟩:∃z:List (el AZ),z=ns.map nm:=⟨_,rfl⟩
 refine cL (r:= .one (.sl AZ h)) j (OK (by rw[b,f])) t1 ?_;try conv=>cbv
 rintro l ⟨i,f9⟩;conv=>cbv
 intro g a;conv=>cbv
 cases g <;> conv=>cbv
 ·have c:=Ac a;exact absurd c (by have:=i;rw[b,d] at this;simp at this;omega)
 have c:=Ad a;exact fA ⟨⟨rfl,.inr (.inl ⟨_,rfl⟩),.inr (.inl ⟨_,rfl⟩),trivial⟩,⟨rfl,.inr (.inl ⟨_,rfl⟩),.inr (.inl ⟨_,rfl⟩),trivial⟩,t2,trivial⟩ rfl (by simp)
theorem V9 {X:List (el Bl)} {ns:List Nu} (B:ns=(runN (X.take 24)).1) (g:ns≠[]) {V:List Re} (R:V.length<=3) (h:∀n∈ns,BI V n) {a b:Nu} (T:a=ns.getLastD Gz) (U:b=Du ns (ns.length/2)) {T1 T2:List LR} {A1 A2:LR} (w:T1=tw a.1) (p:A1=em a.1 a.2) (x:T2=tw b.1) (t:A2=em b.1 b.2):CF 14 [.one (.sl Bl X)] (.AG [(true,[.sl (.sl AA) T1,.sl AA A1]),(true,[.sl (.sl AA) T2,.sl AA A2]),(false,[.bool true])]):=by
 have L:0<ns.length:=List.length_pos_iff.2 g;obtain⟨m,c⟩:∃z:List (el AZ),z=ns.map nm:=⟨_,rfl⟩
 have Q:m.length=ns.length:=by rw[c,List.length_map]
 refine AE Tryz.func14 (by kernel_rfl) rfl fun E v=>?_
 conv=>cbv
 refine cL (r:= .one (.sl AZ m)) v (OK (by rw[c,B])) t1 ?_;try conv=>cbv
 rintro n9 ⟨e9,f9⟩;conv=>cbv
 intro G f;conv=>cbv
 cases G <;> conv=>cbv
 ·have j:=Ac f;refine cL v (UQ c (fun n K=>⟨(h n K).cos,(h n K).EU⟩)) t1 ?_;try conv=>cbv
  intro W o;cases o.trans (rfl:_=false);conv=>cbv
  rintro Y ⟨M,f20⟩;conv=>cbv
  intro H O;conv=>cbv
  refine g1 (by omega) ?_;obtain⟨I,d⟩:=AF (l:=m) (i:=(H).toNat) (by omega);refine⟨I,fun _=>⟨by omega,d⟩,?_⟩;try conv=>cbv
  rintro Z ⟨N,f26⟩;conv=>cbv
  intro a1 P;conv=>cbv
  refine g2 ⟨by omega,by omega,i64 (by omega)⟩ ?_;refine cL v (UR c g ⟨by omega⟩ U x t) t2 ?_;try conv=>cbv
  refine⟨fun _=>by kernel_rfl,?_⟩;obtain⟨u,y,D,F,C⟩:=Cy c d;have J:a=(u,y):=by rw[T,Qo C (by omega)]
  exact fA ⟨⟨rfl,congrArg _ (by rw[w,J];exact D.symm),congrArg _ (by rw[p,J];exact F.symm),trivial⟩,t3,t2,trivial⟩ rfl (by simp)
 have j:=Ad f;exact absurd j (by omega)
end Go.Abs
