/- Part 29 of a proof. Conditions: each theorem's own. -/
import Derived.Test.YtmhbikooakmagaaGreatRk25
set_option linter.all false
set_option maxHeartbeats 8000000
set_option maxRecDepth 20000
open Go.Proofs
namespace Go.Abs
open Go.RowKit
variable {A:LR} {S k:Nat} {b1 b2:Bool} {l1 l2:List UInt32} {q:Rat} {u:List (List Rat)}
theorem V5 (h:AT u):em u (Re.ofRat q)=Aa (q::List.replicate (2^u.length-1) 0):=by rw[em,Hh q h]
theorem Ng (p:Rat):0=Fq p p:=(beq_iff_eq.1 ((Nh p p).symm.trans (decide_eq_true rfl))).symm
theorem Vv {V:List Re} {n:Nu} (h:BP V n) (hV:V.length<=3) (a:0<=n.2):El (Ar n.1 n.2) Rm (Re.sqrt n.2):=by
 have c:=Nat.le_trans h.len hV;have ht:Ae 256 n.1:=⟨h.red,h.tb hV,by decide,by omega⟩;have g:GG n.1.length 256<=GG 3 256:=PR c (Nat.le_refl _);have b:GG 3 256<=50000:=by decide +kernel
 by_cases hs:Sq n.1 n.2
 ·rw[Ec hs];exact ((h.el hV).sqrt ht ((JU a).1 hs) (Re.DS a)).mono (by show _<=93478;omega)
 have d:n.2≠0:=fun e=>hs ⟨0,Bx _,by rw[e];grind⟩
 have f:=MM h.red h.mem (by grind) hs;rw[Dq hs,<-Ip h.mem];exact (JD f).mono (Nat.zero_le _)
theorem GC {a b:Nat} (ha:a<18446744073709551616) (hb:b<18446744073709551616) (f:Rm<=S) (g:S<=Sm):Cj (Tf (PN [Bm a,Bm b])) Rm Cm S/\Tf (PN [Bm a,Bm b]) (Bm a).1/\Tf (PN [Bm a,Bm b]) (Bm b).1:=by
 have c:∀n∈[Bm a,Bm b],BP [qn a,qn b] n:=fun n c=>by
  simp only[List.mem_cons,List.not_mem_nil,or_false] at c;rcases c with rfl | rfl
  ·exact (D6 ha).mono (fun v d=>by rw[List.mem_singleton.1 d];simp)
  exact (D6 hb).mono (fun v d=>by rw[List.mem_singleton.1 d];simp)
 exact⟨Ga (V:=[qn a,qn b]) (show 2<=3 by decide) c f g,EH (V:=[qn a,qn b]) (show 2<=3 by decide) c (by simp),EH (V:=[qn a,qn b]) (show 2<=3 by decide) c (by simp)⟩
theorem N3 (b:Rm<=S) (c:S<=Sm):Cj (Tf (PN [([[6]],Dh)])) Rm Cm S/\Tf (PN [([[6]],Dh)]) [[6]]:=by
 have a:∀n∈[(([[6]],Dh):Nu)],BP [qn 6] n:=fun n a=>by rw[List.mem_singleton.1 a];exact HK
 exact⟨Ga (V:=[qn 6]) (by decide) a b c,EH (V:=[qn 6]) (by decide) a (List.mem_singleton.2 rfl)⟩
theorem Nv (a:k<18446744073709551616):El [] Rm (qn k):=((Wq a).el (by decide)).mono (by decide)
theorem IG (a:k<18446744073709551616):El (Bm k).1 Rm (Re.sqrt (qn k)):=((D6 a).el (show 1<=3 by decide)).mono (by decide)
theorem Vx:El [[6]] 512 (Re.sqrt (qn 6)):=by
 have:=(D6 (k:=6) (by decide)).el (by decide);rw[Bm,u6] at this;exact this
theorem gP:El [[6]] Rm (qn 2*Re.sqrt (qn 6)):=by
 have ht:Ae 256 [[6]]:=⟨MK,HK.tb (by decide),by decide,by decide⟩
 have b:El [[6]] 512 (qn 2):=by
  refine (El.rat MK (F8 (a:=[((2:Nat):Rat)]) (fun q c=>by rw[List.mem_singleton.1 c];exact FN (by decide)))).mono (by decide)
 exact (b.mul ht Vx).mono (by decide +kernel)
theorem lF (h:k≠0):qn k≠0:=fun e=>h (Rat.natCast_inj.1 (Re.E0.1 (show Re.ofRat ((k:Nat):Rat)=Re.ofRat ((0:Nat):Rat) from e)))
theorem Ot (h:k≠0):Re.sqrt (qn k)≠0:=fun e=>lF h (by have:=Re.DS (Fg k);rw[e] at this;rw[<-this];grind)
theorem rt_sqn (k:Nat):Re.sqrt (qn (k*k))=qn k:=Re.Hv (Re.Ev _) (Fg k) (by rw[Re.DS (Fg _),lE])
theorem iC:Re.sqrt (qn 2)*Ci (Re.sqrt (qn 8))=Re.ofRat (1/2):=by
 have b:Re.sqrt (qn 8)=qn 2*Re.sqrt (qn 2):=by rw[show (8:Nat)=2*2*2 from rfl,Se (2*2) 2,rt_sqn]
 have hi:=Gh (Ot (k:=8) (by decide))
 generalize Ci (Re.sqrt (qn 8))=i at*
 rw[b] at hi
 have e:Re.ofRat (1/2)*qn 2=1:=by
  rw[qn,<-Re.ofRat_mul,show (1/2:Rat)*((2:Nat):Rat)=1 by decide +kernel];rfl
 have a:Re.ofRat (1/2)*(qn 2*Re.sqrt (qn 2)*i)=Re.sqrt (qn 2)*i:=by
  have:Re.ofRat (1/2)*(qn 2*Re.sqrt (qn 2)*i)=(Re.ofRat (1/2)*qn 2)*(Re.sqrt (qn 2)*i):=by grind
  rw[this,e];grind
 rw[<-a,hi];grind
theorem XM {x y:Re} (c:0<=x) (d:0<=y) (h:x*x<y*y):x<y:=by
 apply Classical.byContradiction;intro b;have a:0<=x-y:=by grind
 have:=Re.IU a (show 0<=x+y by grind)
 grind
theorem g0:An (qn 1+Re.sqrt (qn 5)-Re.ofRat (3236/1000))=1:=by
 have a:=Re.DS (Fg 5);have b:(0:Re)<=Re.ofRat (2236/1000):=by have:Re.ofRat 0<=Re.ofRat (2236/1000):=Re.Kc.2 (by decide +kernel);exact this
 have h:Re.ofRat (2236/1000)<Re.sqrt (qn 5):=by
  refine XM b (Re.Ev _) ?_;rw[a,<-Re.ofRat_mul,qn];exact Re.HO.2 (by decide +kernel)
 have e:Re.ofRat (3236/1000)=Re.ofRat (2236/1000)+qn 1:=by rw[qn,<-Re.ofRat_add];exact congrArg _ (by decide +kernel)
 refine F0 ?_;rw[e];grind
theorem gz:An (qn 1+Re.sqrt (qn 5)-Re.ofRat (3238/1000))= -1:=by
 have a:=Re.DS (Fg 5);have b:(0:Re)<=Re.ofRat (2238/1000):=by have:Re.ofRat 0<=Re.ofRat (2238/1000):=Re.Kc.2 (by decide +kernel);exact this
 have h:Re.sqrt (qn 5)<Re.ofRat (2238/1000):=by
  refine XM (Re.Ev _) b ?_;rw[a,<-Re.ofRat_mul,qn];exact Re.HO.2 (by decide +kernel)
 have e:Re.ofRat (3238/1000)=Re.ofRat (2238/1000)+qn 1:=by rw[qn,<-Re.ofRat_add];exact congrArg _ (by decide +kernel)
 refine JS ?_;rw[e];grind
theorem W4:El (A0 (Bm 2).1 (Bm 3).1) 8589934592 (Re.sqrt (qn 2)+Re.sqrt (qn 3))/\Tf PA (A0 (Bm 2).1 (Bm 3).1):=by
 have G:=(PA.KK (Nat.le_refl Rm) (by decide)).toGam;have t2:Tf PA (Bm 2).1:=Tf.of PA.EL (.inr (.inl (List.suffix_refl _)));have t3:Tf PA (Bm 3).1:=Tf.of PA.EL (.inr (.inr (List.suffix_refl _)));obtain⟨a,d,h3⟩:=G.A0 t2 t3;have b:=G.Bi t2 a d (IG (k:=2) (by decide));have c:=G.Bi t3 a h3 (IG (k:=3) (by decide));exact⟨(b.add (G.Ag a).red c).mono (by decide),a⟩
theorem cD (h:AT u) (c:A=em u (Re.ofRat q)) (j:BH q b1 l1 b2 l2):CF 135 [.one (.sl AA A)] (.AG [(true,(BS b1 l1 b2 l2)),(false,[.bool true])]):=by
 rw[V5 h] at c;have p:A.length=1+(2^u.length-1):=by rw[c];simp;omega
 have d:A[0]? =some ((b1,l1),(b2,l2)):=by rw[c,<-j.rp];rfl
 refine AJ Tryz.func135 fun E s=>?_
 conv=>cbv
 rintro C ⟨z,f5⟩;conv=>cbv
 intro x n;conv=>cbv
 cases x <;> conv=>cbv
 ·have o:=Ah n;intro B v;conv=>cbv
  refine AH ?_;rintro a9 y ⟨f,t⟩;conv=>cbv
  intro w g;conv=>cbv
  refine AB (r:= .one (.bool true)) s (NK (X:=w) (xs:=List.replicate (2^u.length-1) 0) (by rw[g,f,List.take_of_length_le (by omega),c];rfl) (decide_eq_true (fun q j=>List.eq_of_mem_replicate j)).symm) ?_;try conv=>cbv
  refine AU ?_;conv=>cbv
  obtain⟨m,b⟩:=AK (l:=A) (i:=0) (by omega);refine⟨m,fun _=>⟨by omega,b⟩,?_⟩;try conv=>cbv
  have a:=Option.some.inj (b.symm.trans d);exact AD ⟨⟨rfl,congrArg _ (by rw[a]),congrArg _ (by rw[a]),congrArg _ (by rw[a]),congrArg _ (by rw[a]),trivial⟩,t2,trivial⟩
 have o:=Aj n;exact absurd o (by omega)
theorem TL {T1:List LR} (h:AT u) (c:A=em u (Re.ofRat q)) (b:BH q b1 l1 b2 l2) (hs:Bu q):CF 29 [.agg (AR T1 A)] (.AG [(true,(BS b1 l1 b2 l2)),(false,[.bool true])]):=by
 refine AJ Tryz.func29 fun E a=>?_
 conv=>cbv
 refine AB a (cD h c b) ?_;conv=>cbv
 refine AB a (QY b hs) ?_;conv=>cbv
 exact AD ⟨⟨rfl,rfl,rfl,rfl,rfl,trivial⟩,t2,trivial⟩
theorem KV {x:Int} {T:List LR} (h:x=(k:Int)) (m:k<4294967296) (l:T=tw (Bm k).1) (i:A=em (Bm k).1 (Bm k).2):CF 109 [.one (.int .i64 x)] (.agg (AR T A)):=by
 have d:=Wq (k:=k) (by omega);obtain⟨j,b,c⟩:=Ko d (by decide) (Fg k) (Nat.le_refl Rm);have f:Bu ((x:Int):Rat):=F1 (by rw[h];exact FN (k:=k) (by omega));refine AJ Tryz.func109 fun E g=>?_
 conv=>cbv
 obtain⟨n,a⟩:=Bo (em [] (qn k));refine AB (r:= .agg [.sl (.sl AA) (([]:List LR)),.sl AA n]) g (Jg (by omega) f (by rw[a,h];rfl)) ?_;try conv=>cbv
 refine AB g (PY j.toGam b rfl a (Nv (by omega)) c (Fg k) l i ((D6 (k:=k) (by omega)).el (show 1<=3 by decide)) (by decide)) ?_;conv=>cbv
 exact AD ⟨t3,trivial⟩
abbrev Sa:Nat:=8589934592
abbrev Sb:Nat:=34359738368
theorem gO:El (Bm 5).1 Sa (qn 1+Re.sqrt (qn 5)):=by
 have G:=(GC (a:=5) (b:=5) (by decide) (by decide) (Nat.le_refl Rm) (by decide))
 have c:El (Bm 5).1 Rm (qn 1):=by
  refine (El.rat (D6 (k:=5) (by decide)).red (F8 (a:=[((1:Nat):Rat)]) (fun q d=>by rw[List.mem_singleton.1 d];exact FN (by decide)))).mono (by decide)
 exact (c.add (D6 (k:=5) (by decide)).red (IG (by decide))).mono (by decide)
theorem Vw (h:B9 q) (b:64<=S:=by decide):El [] S (Re.ofRat q):=(El.rat Kl (F8 (a:=[q]) (fun p c=>by rw[List.mem_singleton.1 c];exact h))).mono b
theorem IC:CF 21 [] (.one (.bool true)):=by
 refine AJ Tryz.func21 fun E c=>?_
 conv=>cbv
 obtain⟨aH,K⟩:=DE (tw (Bm 2).1);obtain⟨az,o⟩:=Bo (em (Bm 2).1 (Re.sqrt (qn 2)));refine AB c (KV (k:=2) rfl (by decide) K o) ?_;conv=>cbv
 obtain⟨aI,L⟩:=DE (tw (Bm 8).1);obtain⟨v20,p⟩:=Bo (em (Bm 8).1 (Re.sqrt (qn 8)));refine AB c (KV (k:=8) rfl (by decide) L p) ?_;conv=>cbv
 obtain⟨ae,a1⟩:=DE (tw (A0 (Bm 2).1 (Bm 8).1));obtain⟨a2,s⟩:=Bo (em (A0 (Bm 2).1 (Bm 8).1) (Re.ofRat (1/2)));refine AB (r:= .AG [(true,[.sl (.sl AA) ae,.sl AA a2]),(false,[.int .i64 0])]) c (TH (GC (a:=2) (b:=8) (by decide) (by decide) (Nat.le_refl Rm) (by decide)).1.toGam (GC (by decide) (by decide) (Nat.le_refl Rm) (by decide)).2.1 (GC (by decide) (by decide) (Nat.le_refl Rm) (by decide)).2.2 K L o p (IG (by decide)) (IG (by decide)) (Ln (D6 (k:=8) (by decide)).red (D6 (k:=8) (by decide)).mem (Ot (by decide))) (Gh (Ot (by decide))) ((D6 (k:=8) (by decide)).inv (by decide) (Ot (by decide))) (Wg _ (Nat.le_trans (D6 (k:=8) (by decide)).len (by decide))) a1 (by rw[s];exact congrArg _ iC.symm)) ?_;try conv=>cbv
 obtain⟨gb,gl,gc,gm,n⟩:=Be (1/2:Rat);have d:=(GC (a:=2) (b:=8) (by decide) (by decide) (Nat.le_refl Rm) (by decide));have Z:=(d.1.toGam.Ag (d.1.toGam.A0 d.2.1 d.2.2).1).red;refine AB c (TL Z s n (F1 (by decide +kernel:B9 (1/2:Rat)))) ?_;conv=>cbv
 refine AU ?_;conv=>cbv
 refine AU ?_;conv=>cbv
 obtain⟨aj,ar,an,aw,j⟩:=Be (1/2:Rat);have V:(1/2:Rat)=Rat.divInt 1 2:=by decide +kernel
 refine AB c (I2 (by decide) (by decide) (by decide) V j) ?_;conv=>cbv
 refine AB c (LI n j (F1 (by decide +kernel:B9 (1/2:Rat))) (F1 (by decide +kernel:B9 (1/2:Rat))) (Ng _)) ?_;conv=>cbv
 refine AU ?_;conv=>cbv
 refine g2 rfl ?_;obtain⟨a5,t⟩:=Bo (em [] (qn 2));refine AB (r:= .agg [.sl (.sl AA) (([]:List LR)),.sl AA a5]) c (Jg (x:=2) (by decide) (F1 (FN (k:=2) (by decide))) (by rw[t];rfl)) ?_;try conv=>cbv
 obtain⟨af,M⟩:=DE (tw [[6]]);obtain⟨a6,v⟩:=Bo (em [[6]] (Re.sqrt (qn 6)));refine AB (r:= .agg [.sl (.sl AA) af,.sl AA a6]) c (KV (k:=6) rfl (by decide) (by rw[M,Bm,u6]) (by rw[v,Bm,u6])) ?_;conv=>cbv
 obtain⟨ag,N⟩:=DE (tw [[6]]);obtain⟨a7,w⟩:=Bo (em [[6]] (qn 2*Re.sqrt (qn 6)));refine AB (r:= .AG [(true,[.sl (.sl AA) ag,.sl AA a7]),(false,[.int .i64 0])]) c (PX (N3 (Nat.le_refl Rm) (by decide)).1.toGam .nil (N3 (Nat.le_refl Rm) (by decide)).2 rfl M t v (Nv (by decide)) (Vx.mono (by decide)) (by rw[N,KP]) (by rw[w,KP])) ?_;conv=>cbv
 obtain⟨a8,y⟩:=Bo (em [] (qn 5));refine AB (r:= .agg [.sl (.sl AA) (([]:List LR)),.sl AA a8]) c (Jg (x:=5) (by decide) (F1 (FN (k:=5) (by decide))) (by rw[y];rfl)) ?_;try conv=>cbv
 obtain⟨ah,O⟩:=DE (tw [[6]]);obtain⟨aa,z⟩:=Bo (em [[6]] (Dh));refine AB (r:= .AG [(true,[.sl (.sl AA) ah,.sl AA aa]),(false,[.int .i64 0])]) c (Mz (N3 (Nat.le_refl Rm) (by decide)).1.toGam .nil (N3 (Nat.le_refl Rm) (by decide)).2 rfl N y w (Nv (by decide)) gP (by rw[O,KP]) (by rw[z,KP];rfl)) ?_;try conv=>cbv
 refine g2 rfl ?_;obtain⟨aJ,P⟩:=DE (tw (Ar [[6]] Dh));obtain⟨aA,B⟩:=Bo (em (Ar [[6]] Dh) (Re.sqrt Dh));refine AB c (PY (Ko HK (by decide) IJ (Nat.le_refl Rm)).1.toGam (Ko HK (by decide) IJ (Nat.le_refl Rm)).2.1 O z ((HK.el (by decide)).mono (by decide)) (Ko HK (by decide) IJ (Nat.le_refl Rm)).2.2 IJ P B (Vv HK (by decide) IJ) (by decide)) ?_;conv=>cbv
 obtain⟨aK,Q⟩:=DE (tw (Bm 2).1);obtain⟨aB,C⟩:=Bo (em (Bm 2).1 (Re.sqrt (qn 2)));refine AB c (KV (k:=2) rfl (by decide) Q C) ?_;conv=>cbv
 obtain⟨aL,R⟩:=DE (tw (Bm 3).1);obtain⟨aC,D⟩:=Bo (em (Bm 3).1 (Re.sqrt (qn 3)));refine AB c (KV (k:=3) rfl (by decide) R D) ?_;conv=>cbv
 obtain⟨aM,T⟩:=DE (tw (A0 (Bm 2).1 (Bm 3).1));obtain⟨aD,F⟩:=Bo (em (A0 (Bm 2).1 (Bm 3).1) (Re.sqrt (qn 2)+Re.sqrt (qn 3)));refine AB c (Mz (GC (a:=2) (b:=3) (by decide) (by decide) (Nat.le_refl Rm) (by decide)).1.toGam (GC (by decide) (by decide) (Nat.le_refl Rm) (by decide)).2.1 (GC (by decide) (by decide) (Nat.le_refl Rm) (by decide)).2.2 Q R C D (IG (by decide)) (IG (by decide)) T F) ?_;conv=>cbv
 obtain⟨ab,G⟩:=Bo (em [] (qn 1));refine AB (r:= .agg [.sl (.sl AA) (([]:List LR)),.sl AA ab]) c (Jg (x:=1) (by decide) (F1 (FN (k:=1) (by decide))) (by rw[G];rfl)) ?_;try conv=>cbv
 obtain⟨aN,U⟩:=DE (tw (Bm 5).1);obtain⟨aE,H⟩:=Bo (em (Bm 5).1 (Re.sqrt (qn 5)));refine AB c (KV (k:=5) rfl (by decide) U H) ?_;conv=>cbv
 obtain⟨ai,i⟩:=DE (tw (Bm 5).1);obtain⟨ad,h⟩:=Bo (em (Bm 5).1 (qn 1+Re.sqrt (qn 5)));refine AB (r:= .AG [(true,[.sl (.sl AA) ai,.sl AA ad]),(false,[.int .i64 0])]) c (Mz (GC (a:=5) (b:=5) (by decide) (by decide) (Nat.le_refl Rm) (by decide)).1.toGam .nil (GC (by decide) (by decide) (Nat.le_refl Rm) (by decide)).2.1 rfl U G H (Nv (by decide)) (IG (by decide)) (by rw[i,KP]) (by rw[h,KP])) ?_;conv=>cbv
 obtain⟨ak,au,ao,ax,l⟩:=Be (3236/1000:Rat);have W:(3236/1000:Rat)=Rat.divInt 3236 1000:=by decide +kernel
 refine AB c (I2 (by decide) (by decide) (by decide) W l) ?_;conv=>cbv
 obtain⟨aF,I⟩:=Bo (em [] (Re.ofRat (3236/1000)));refine AB c (K6 l (F1 (by decide +kernel:B9 (3236/1000:Rat))) I) ?_;conv=>cbv
 have g:El (Bm 5).1 Sa (qn 1+Re.sqrt (qn 5)):=gO;have Y:=(GC (a:=5) (b:=5) (by decide) (by decide) (S:=Sa) (by decide) (by decide)).1;have f:=(GC (a:=5) (b:=5) (by decide) (by decide) (S:=Sb) (by decide) (by decide));refine AB c (PW Y.toGam f.2.1 .nil i rfl h I g (Vw (by decide +kernel)) f.1.toGam (by decide) g0.symm) ?_;conv=>cbv
 refine g2 rfl ?_;obtain⟨al,av,aq,ay,m⟩:=Be (3238/1000:Rat);have X:(3238/1000:Rat)=Rat.divInt 3238 1000:=by decide +kernel
 refine AB c (I2 (by decide) (by decide) (by decide) X m) ?_;conv=>cbv
 obtain⟨aG,J⟩:=Bo (em [] (Re.ofRat (3238/1000)));refine AB c (K6 m (F1 (by decide +kernel:B9 (3238/1000:Rat))) J) ?_;conv=>cbv
 refine AB c (PW Y.toGam f.2.1 .nil i rfl h J g (Vw (by decide +kernel)) f.1.toGam (by decide) gz.symm) ?_;conv=>cbv
 refine g2 rfl ?_;refine Bc ?_;conv=>cbv
 refine Bc ?_;conv=>cbv
 refine Bc ?_;conv=>cbv
 refine Bc ?_;conv=>cbv
 refine AB (r:= .one (.bool true)) c (TJ (PA.KK (S:=Sa) (by decide) (by decide)).toGam (Tf.of PA.EL (.inl (List.suffix_refl _))) W4.2 P T B F ((Vv HK (by decide) IJ).mono (by decide)) W4.1 (by simp[Xm])) ?_;conv=>cbv
 refine Bc ?_;conv=>cbv
 refine Bc ?_;conv=>cbv
 refine Bc ?_;conv=>cbv
 refine Bc ?_;conv=>cbv
 refine Bc ?_;conv=>cbv
 exact AD ⟨t2,trivial⟩
end Go.Abs
