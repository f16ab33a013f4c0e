/- Part 44 of a proof. Conditions: each theorem's own. -/
import Derived.Test.YtfilemenbchajaaGreatPk42
set_option linter.all false
set_option maxHeartbeats 8000000
set_option maxRecDepth 20000
open Go.Proofs
namespace Go.Abs
open Go.RowKit
theorem Uu {o:el Bf} {n d:Int} (a:n=IK o.2.2.2.1) (b:d=((o.2.2.2.2.toNat%8+1:Nat):Int)):FM o=Rat.divInt n d:=by subst a b;rfl
theorem KS {st:List Nu×Nat} {o:el Bf} (h:st.1=[]\/o.1.toNat%6=0):Cu st o=(([],Re.ofRat (FM o)),st.2):=by unfold Cu;rw[if_pos h]
theorem HU {st:List Nu×Nat} {o:el Bf} (a:st.1≠[]) (b:o.1.toNat%6≠0):Cu st o=DY (o.1.toNat%6) (CE st.1 o.2.1.toNat) (CE st.1 o.2.2.1.toNat) st.2:=by
 unfold Cu;rw[if_neg (fun h=>h.elim a b)]
theorem cZ (a b:Nu) (r:Nat):DY 1 a b r=((BH a.1 b.1,a.2+b.2),r):=by unfold DY;rw[if_pos rfl]
theorem ck (a b:Nu) (r:Nat):DY 2 a b r=((BH a.1 b.1,a.2-b.2),r):=by unfold DY;rw[if_neg (by decide),if_pos rfl]
theorem cj (a b:Nu) (r:Nat):DY 3 a b r=((BH a.1 b.1,a.2*b.2),r):=by unfold DY;rw[if_neg (by decide),if_neg (by decide),if_pos rfl]
theorem ch {a b:Nu} (r:Nat) (h:b.2=0):DY 4 a b r=(a,r):=by unfold DY;rw[if_neg (by decide),if_neg (by decide),if_neg (by decide),if_pos rfl,if_pos h]
theorem cg {a b:Nu} (r:Nat) (h:b.2≠0):DY 4 a b r=((BH a.1 b.1,a.2*As b.2),r):=by unfold DY;rw[if_neg (by decide),if_neg (by decide),if_neg (by decide),if_pos rfl,if_neg h]
theorem UT (a b:Nu) {r:Nat} (h:r<3):DY 5 a b r=((Ax a.1 (DD a.2),Re.sqrt (DD a.2)),r+1):=by unfold DY;rw[if_neg (by decide),if_neg (by decide),if_neg (by decide),if_neg (by decide),if_pos h]
theorem US (a b:Nu) {r:Nat} (h:¬r<3):DY 5 a b r=(a,r):=by unfold DY;rw[if_neg (by decide),if_neg (by decide),if_neg (by decide),if_neg (by decide),if_neg h]
theorem get_eq {ns:List Nu} {i j:Nat} {n:Nu} (h:ns[j]? =some n) (a:j=i%ns.length):CE ns i=n:=by
 unfold CE;rw[List.getD_eq_getElem?_getD,<-a,h];rfl
theorem aL:∀h,h<=3->II h Rm Rm<=60000000000000
 |0,_|1,_|2,_|3,_=>by decide +kernel
 | _+4,h=>absurd h (by omega)
theorem aM:∀h,h<=3->II h 256 512<=Rm
 |0,_|1,_|2,_|3,_=>by decide +kernel
 | _+4,h=>absurd h (by omega)
section
variable {V:List Re} {ns:List Nu}
theorem BY.tb {n:Nu} (h:BY V n) (hV:V.length<=3):TB 256 n.1:=(PN.HF (ns:=[n]) hV (fun m hm=>by rw[List.mem_singleton.1 hm];exact h)).tb (PN.self (List.mem_singleton.2 rfl))
theorem BY.inv {n:Nu} (h:BY V n) (hV:V.length<=3) (a:n.2≠0):El n.1 Rm (As n.2):=by
 have b:=Nat.le_trans h.len hV;have ht:Al 256 n.1:=⟨h.red,h.tb hV,by decide,by omega⟩;exact ((h.el hV).inv ht (Ly h.red h.mem a) (Cy a)).mono (aM _ b)
theorem BY.abs {n:Nu} (h:BY V n):BY V (n.1,DD n.2):=by
 refine⟨h.red,TC h.mem,h.BE,h.Fk,fun q a=>?_⟩;have a:q∈co n.1 (DD n.2):=a;unfold DD at a
 split at a
 ·rw[Jv h.red h.mem] at a;obtain⟨p,b,rfl⟩:=List.mem_map.1 a;have:=h.cos p b;exact⟨by show (-p.num).natAbs<_;rw[Int.natAbs_neg];exact this.1,this.2⟩
 exact h.cos q a
theorem VE {n:Nu} (h:BY V n) (hV:V.length<=2) (f:0<=n.2) {S:Nat} (g:Rm<=S) (i:S<=Sm):Cv (Tf fun u=>u<:+Ax n.1 n.2) Rm Cm S/\Tf (fun u=>u<:+Ax n.1 n.2) n.1/\Tf (fun u=>u<:+Ax n.1 n.2) (Ax n.1 n.2):=by
 have j:=PJ h.red h.mem f;have k:=h.len
 have b:TB 256 (Ax n.1 n.2):=by
  by_cases d:Sq n.1 n.2
  ·rw[EW d];exact h.tb (by omega)
  rw[D9 d];intro r a;rcases List.mem_cons.1 a with rfl | a
  ·refine (LN h.cos).mono ?_;rw[CQ h.mem];have:2^n.1.length<=2^2:=CX (by omega);omega
  exact h.tb (by omega) r a
 have I:Db (fun u=>u<:+Ax n.1 n.2) 256:=⟨fun {u} hu=>Uy hu j,fun {u} hu=>fun r a=>b r (hu.subset a),fun {r u} hu=>(List.suffix_cons r u).trans hu⟩;refine⟨Sx I (fun {u} hu=>?_) g i,Tf.of I (LJ _ _),Tf.of I (List.suffix_refl _)⟩
 have:=hu.len I (V:=n.2::V) (fun {u} hu v c=>by
  rcases P7 h.mem v (WV hu v c) with rfl | c
  ·exact List.mem_cons_self
  exact List.mem_cons_of_mem _ (h.BE v c))
 rw[List.length_cons] at this;omega
theorem Zk (hV:V.length<=3) (c:∀n∈ns,BY V n) {a b:Nu} (ha:a∈ns) (hb:b∈ns) {r:Nat}:∃(T A h g:_) (e:Int),CF 103 [.agg [.sl (.sl AA) (tw a.1),.sl AA (em a.1 a.2)],.agg [.sl (.sl AA) (tw b.1),.sl AA (em b.1 b.2)]] (.AE [(true,[.sl (.sl AA) T,.sl AA A]),(false,[.int .i64 e])])/\
  CF 189 [.agg [.sl (.sl AA) T,.sl AA A],.one (.int .i64 e),.agg [.sl (.sl AA) (tw a.1),.sl AA (em a.1 a.2)]] (.agg [.sl (.sl AA) h,.sl AA g])/\h=tw (DY 4 a b r).1.1/\g=em (DY 4 a b r).1.1 (DY 4 a b r).1.2/\(DY 4 a b r).2=r:=by
 have G:=Hw hV c (Nat.le_refl Rm) (by decide);have i:=((c a ha).el hV).mono (by decide:512<=Rm);have j:=((c b hb).el hV).mono (by decide:512<=Rm)
 by_cases d:b.2=0
 ·rw[ch r d];exact⟨_,_,_,_,_,Xc G (EZ hV c ha) (EZ hV c hb) rfl rfl rfl rfl i j d,YA,rfl,rfl,rfl⟩
 rw[cg r d];have f:=Nat.le_trans (c b hb).len hV;exact⟨_,_,_,_,_,Qn G (EZ hV c ha) (EZ hV c hb) rfl rfl rfl rfl i j (Ly (c b hb).red (c b hb).mem d) (Cy d) ((c b hb).inv hV d) (aL _ f) rfl rfl,IU,rfl,rfl,rfl⟩
end
theorem aw (x:Nu):Er [] x=x:=by unfold Er;rw[if_neg (fun h=>h.1 rfl)]
theorem au {l:List Nu} {x:Nu} (h:l≠[]) (a:Gv x):Er l x=l.getLastD FN:=by unfold Er;rw[if_pos ⟨h,a⟩]
theorem ax {l:List Nu} {x:Nu} (a:¬Gv x):Er l x=x:=by unfold Er;rw[if_neg (fun h=>a h.2)]
theorem TY {n:Nu}:Ku n.1.reverse (co n.1 n.2)↔Gv n:=by
 unfold Ku Gv;simp only[List.mem_reverse]
theorem a7 {l:List Nu} {j:Nat} {n:Nu} (h:l[j]? =some n) (a:j+1=l.length):l.getLastD FN=n:=by
 rw[List.getLastD_eq_getLast?,List.getLast?_eq_getElem?,show l.length-1=j by omega,h];rfl
theorem VQ:∀(xs:List (el Bf)) (st:List Nu×Nat),(xs.foldl Gt st).1.length=st.1.length+xs.length
 | [],_=>rfl
 | o::xs,st=>by
  rw[List.foldl_cons,VQ xs (Gt st o),List.length_cons];unfold Gt;rw[List.length_append,List.length_singleton];omega
theorem ef {x:Re} (h:BJ x<0):x<0:=by rcases EP x with⟨a,b⟩ |⟨a,b⟩ |⟨a,b⟩ <;> first | exact a | (exfalso;omega)
theorem ee {x:Re} (h:¬BJ x<0):¬x<0:=by rcases EP x with⟨a,b⟩ |⟨a,b⟩ |⟨a,b⟩ <;> first | (exfalso;omega) | (rw[a];exact fun h=>by grind) | (intro h;grind)
theorem NJ {X:List (el Bf)} {L:List (el Am)} (hL:L=(runN (X.take 24)).1.map nm):CF 104 [.one (.sl Bf X)] (.one (.sl Am L)):=by
 refine AH Tryz.func104 (by kernel_rfl) rfl fun E I=>?_
 conv=>cbv
 refine .inr ?_;obtain⟨J0,aJ⟩:=xJ fun vs bl k=>(vs=[.one (.sl Bf X),.one .nil,.one (.int .i64 0),.one (.int .i64 0)]/\bl=[.dead 0]/\k=24)\/(∃(o:List (el Am)) (n k':Nat) (rr j:Int),vs=[.one (.sl Bf X),.one (.AT Am 157 0 0 n),.one (.int .i64 rr),.one (.int .i64 j)]/\bl=[.arr 0 Am o]/\(AS j k'/\k'<=X.length/\k'<=24/\0<k'/\n=o.length)/\(o=(runN (X.take k')).1.map nm/\AS rr (runN (X.take k')).2)/\k=24-k')
 refine⟨[0,3,4,5],[157],J0,⟨24,by rw[aJ];exact .inl ⟨rfl,rfl,rfl⟩⟩,?_⟩;intro vs bl dt hj;rw[aJ] at hj;rcases hj with⟨rfl,rfl,aL⟩ |⟨o,n,k',rr,j,rfl,rfl,⟨hj,dr,cW,bO,hn⟩,⟨ho,f⟩,aL⟩
 ·conv=>cbv
  obtain⟨k',aL⟩:=xN 0;obtain⟨S,V,hV,c⟩:=Pc (X.take k');obtain⟨st,B⟩:∃s,s=runN (X.take k'):=⟨_,rfl⟩
  rw[<-B] at S hV c;have aa:st.1=[]:=by rw[B,aL];rfl
  have bS:st.2=0:=by rw[B,aL];rfl
  rintro cG ⟨c9,f22⟩;conv=>cbv
  intro bk af;conv=>cbv
  cases bk <;> conv=>cbv
  ·have bh:=Ad af;exact fA ⟨⟨rfl,.inr (.inl ⟨_,congrArg _ (by rw[hL,show X.take 24=[] by rw[List.take_eq_nil_iff];right;exact List.eq_nil_of_length_eq_zero (by omega)];rfl)⟩),trivial⟩,trivial⟩ rfl (by simp)
  have bh:=Ae af;intro c5 aG;cases aG.trans (show _=true by decide);conv=>cbv
  refine .inr ?_;obtain⟨a,F⟩:=AG (l:=X) (i:=0) (by omega);refine⟨a,fun _=>⟨by omega,F⟩,?_⟩;try conv=>cbv
  intro bn ag;have b5:=ag.eq;have f33:=ag.lt;conv=>cbv
  intro aB P;have ae:=P.eq;have bz:=P.lt;conv=>cbv
  intro a6 A;have Y:=A.eq;have b6:=A.lt;conv=>cbv
  intro O u;have H:=u.eq;have aF:=u.lt;conv=>cbv
  have cx:bn=((a.1.toNat:Nat):Int):=b5;have cy:aB=((a.2.1.toNat:Nat):Int):=ae;have cz:a6=((a.2.2.1.toNat:Nat):Int):=Y;have cA:O=((a.2.2.2.2.toNat:Nat):Int):=H;intro bo Z;conv=>cbv
  have Z:=wrap_i64 Z;have ah:bo=IK a.2.2.2.1:=Z;intro cH cb;conv=>cbv
  refine g2 (by omega) ?_;intro cI ai;conv=>cbv
  have ai:=wrap_i64 ai;intro bp cc;conv=>cbv
  refine g1 (by omega) ?_;obtain⟨aM,U⟩:=CY (em [] (Re.ofRat (FM a)));have cB:=P9 a.2.2.2.1;refine cL (r:= .agg [.sl (.sl AA) (([]:List LR)),.sl AA aM]) I (K7 (q:=FM a) (by omega) (by omega) (by omega) (Uu ah (by show bp=((a.2.2.2.2.toNat%8+1:Nat):Int);omega)) U) t2 ?_;try conv=>cbv
  intro c6 aH;cases aH.trans (show _=false by decide);conv=>cbv
  refine .inr ?_;intro b0 a8;cases a8.trans (show _=false by decide);conv=>cbv
  refine .inr ?_;obtain⟨_,b4,cq,aT,bg⟩:=KR (st:=st) ⟨S,V,hV,c⟩ a;have cr:b4.length<=8:=by have:=(KR (st:=st) ⟨S,V,hV,c⟩ a).1;omega
  have v:=OU (l:=[]) (x:=(Cu st a).1) (fun n hn=>by simp at hn) bg (fun he=>by rw[KS (.inl aa)];exact PH a);obtain⟨kk,a5⟩:∃z:Nu,z=Er [] (Cu st a).1:=⟨_,rfl⟩
  rw[<-a5] at v;have t:=Pz v.red v.mem;have bP:kk=([],Re.ofRat (FM a)):=by rw[a5,aw,KS (.inl aa)]
  have cp:(([]:List LR):List LR)=tw kk.1:=by rw[bP];rfl
  have cn:aM=em kk.1 kk.2:=by rw[bP];exact U
  obtain⟨y,D⟩:=E7 (tw (Ex kk).1);obtain⟨w,C⟩:=CY (em (Ex kk).1 (Ex kk).2);refine cL (r:= .agg [.sl (.sl AA) y,.sl AA w]) I (Qu v.red v.mem (by have:=v.len;omega) (by rw[t.1,t.2.2]) cp cn D (by rw[C,t.2.2])) ⟨t2,trivial⟩ ?_;try conv=>cbv
  refine⟨[(y,w)],fun _=>⟨rfl,by decide,rfl,⟨rfl,by first | exact t1 | exact t2 | exact t4 | simp[Aw,BF,cells],trivial⟩⟩,.inr ?_⟩;try conv=>cbv
  refine .inl ⟨[(y,w)],fun _=>⟨rfl,by show (1)*48<=140737488355328;(try simp only[List.length_take,List.length_drop]);omega⟩,?_⟩;intro b1 bC;conv=>cbv
  intro bm ca;conv=>cbv
  refine g1 (by omega) ?_;refine⟨24-(k'+1),?_,?_⟩
  ·omega
  rw[aJ];have G:X[k']? =some a:=by (first | exact F | (rw[<-F];congr 1 <;> omega))
  refine .inr ⟨_,_,k'+1,0,bm,rfl,rfl,⟨⟨by omega⟩,by have:=Gd G;omega,by omega,by omega,bC⟩,?_,rfl⟩;rw[Bi (x:=a) G,VL,<-B];refine⟨by rw[Gt,aa,List.nil_append,<-a5,D,C];rfl,?_⟩
  show AS 0 (Cu st a).2
  rw[KS (.inl aa),bS];exact BC 0
 conv=>cbv
 have ej:=hj.eq;have aE:=f.eq;obtain⟨S,V,hV,c⟩:=Pc (X.take k');obtain⟨st,B⟩:∃s,s=runN (X.take k'):=⟨_,rfl⟩
 rw[<-B] at S hV c;rw[<-B] at ho f aE;have hlen:st.1.length=k':=by rw[B,runN,VQ,List.length_nil,List.length_take];omega
 have ds:o.length=k':=by rw[ho,List.length_map,hlen]
 have N:st.1≠[]:=fun e=>by rw[e] at hlen;simp at hlen;omega
 have g:=Nat.le_trans hV S;rintro cG ⟨c9,f22⟩;conv=>cbv
 intro bk af;conv=>cbv
 cases bk <;> conv=>cbv
 ·have bh:=Ad af;exact fA ⟨⟨rfl,.inl ⟨_,rfl,by omega,congrArg _ (by have e:X.take 24=X.take k':=(by first | rw[show k'=24 by omega] | rw[List.take_of_length_le (by omega),List.take_of_length_le (by omega)]);rw[hL,hn,List.drop_zero,List.take_length,ho,B,e])⟩,trivial⟩,trivial⟩ rfl (by simp)
 have bh:=Ae af;intro c5 aG;conv=>cbv
 cases c5 <;> conv=>cbv
 ·have cC:=Ad aG;exact fA ⟨⟨rfl,.inl ⟨_,rfl,by omega,congrArg _ (by have e:X.take 24=X.take k':=(by first | rw[show k'=24 by omega] | rw[List.take_of_length_le (by omega),List.take_of_length_le (by omega)]);rw[hL,hn,List.drop_zero,List.take_length,ho,B,e])⟩,trivial⟩,trivial⟩ rfl (by simp)
 have cC:=Ae aG;refine .inr ?_;obtain⟨a,F⟩:=AG (l:=X) (i:=k') (by omega);refine⟨a,fun _=>⟨by omega,by rw[show (j).toNat=k' by omega];exact F⟩,?_⟩;try conv=>cbv
 intro bn ag;have b5:=ag.eq;have f33:=ag.lt;conv=>cbv
 intro aB P;have ae:=P.eq;have bz:=P.lt;conv=>cbv
 intro a6 A;have Y:=A.eq;have b6:=A.lt;conv=>cbv
 intro O u;have H:=u.eq;have aF:=u.lt;conv=>cbv
 have cx:bn=((a.1.toNat:Nat):Int):=b5;have cy:aB=((a.2.1.toNat:Nat):Int):=ae;have cz:a6=((a.2.2.1.toNat:Nat):Int):=Y;have cA:O=((a.2.2.2.2.toNat:Nat):Int):=H;intro bo Z;conv=>cbv
 have Z:=wrap_i64 Z;have ah:bo=IK a.2.2.2.1:=Z;intro cH cb;conv=>cbv
 refine g2 (by omega) ?_;intro cI ai;conv=>cbv
 have ai:=wrap_i64 ai;intro bp cc;conv=>cbv
 refine g1 (by omega) ?_;obtain⟨aM,U⟩:=CY (em [] (Re.ofRat (FM a)));have cB:=P9 a.2.2.2.1;refine cL (r:= .agg [.sl (.sl AA) (([]:List LR)),.sl AA aM]) I (K7 (q:=FM a) (by omega) (by omega) (by omega) (Uu ah (by show bp=((a.2.2.2.2.toNat%8+1:Nat):Int);omega)) U) t2 ?_;try conv=>cbv
 intro du cd;have dh:=cd.eq;conv=>cbv
 intro c6 aH;conv=>cbv
 cases c6 <;> conv=>cbv
 ·have c1:=CA aH;exact absurd c1 (by omega)
 have c1:=CB aH;intro dv dp;conv=>cbv
 refine g2 (by omega) ?_;intro cJ bD;conv=>cbv
 obtain⟨c8,m⟩:=xK fun vs bl=>∃(T7:List LR) (A7:LR) (r7:Int),vs=[.one (.sl Bf X),.one (.AT Am 157 0 0 n),.one (.int .i64 r7),.one (.int .i64 j),.one (.AD 7 0 0)]/\bl=[.var 0 [.sl (.sl AA) T7,.sl AA A7],.arr 0 Am o]/\(T7=tw (Cu st a).1.1/\A7=em (Cu st a).1.1 (Cu st a).1.2)/\AS r7 (Cu st a).2
 refine .inl ⟨[0,3,4,5,7],[7,157],c8,?_,?_⟩
 ·intro vs bl hj;rw[m] at hj;obtain⟨T7,A7,r7,rfl,rfl,⟨bK,bI⟩,bQ⟩:=hj;conv=>cbv
  have dn:=bQ.eq;intro da bA;have cT:=bA.eq;conv=>cbv
  intro b0 a8;conv=>cbv
  cases b0 <;> conv=>cbv
  ·have aZ:=CA a8;exact absurd aZ (by omega)
  have aZ:=CB a8;obtain⟨bx,a2⟩:=CV (Ku (Cu st a).1.1.reverse (co (Cu st a).1.1 (Cu st a).1.2));refine cL I (X9 bK bI a2) ⟨t2,trivial⟩ ?_;try conv=>cbv
  obtain⟨bw,a1⟩:=xK fun vs bl=>∃(T8:List LR) (A8:LR),vs=[.one (.sl Bf X),.one (.AT Am 157 0 0 n),.one (.int .i64 r7),.one (.int .i64 j),.one (.AD 7 0 0)]/\bl=[.var 0 [.sl (.sl AA) T8,.sl AA A8],.arr 0 Am o]/\(T8=tw (Er st.1 (Cu st a).1).1/\A8=em (Er st.1 (Cu st a).1).1 (Er st.1 (Cu st a).1).2)
  refine .inl ⟨[0,3,4,5,7],[7,157],bw,?_,?_⟩
  ·intro vs bl hj;rw[a1] at hj;obtain⟨T8,A8,rfl,rfl,bL,bJ⟩:=hj;conv=>cbv
   obtain⟨_,b4,cq,aT,bg⟩:=KR (st:=st) ⟨S,V,hV,c⟩ a;have cr:b4.length<=8:=by have:=(KR (st:=st) ⟨S,V,hV,c⟩ a).1;omega
   have v:=OU (l:=st.1) (x:=(Cu st a).1) aT bg (fun he=>by rw[KS (.inl he)];exact PH a);obtain⟨kk,a5⟩:∃z:Nu,z=Er st.1 (Cu st a).1:=⟨_,rfl⟩
   rw[<-a5] at v;have t:=Pz v.red v.mem;rw[<-a5] at bL bJ;obtain⟨y,D⟩:=E7 (tw (Ex kk).1);obtain⟨w,C⟩:=CY (em (Ex kk).1 (Ex kk).2);refine cL (r:= .agg [.sl (.sl AA) y,.sl AA w]) I (Qu v.red v.mem (by have:=v.len;omega) (by rw[t.1,t.2.2]) bL bJ D (by rw[C,t.2.2])) ⟨t2,trivial⟩ ?_;try conv=>cbv
   refine⟨[(y,w)],fun _=>⟨rfl,by decide,rfl,⟨rfl,by first | exact t1 | exact t2 | exact t4 | simp[Aw,BF,cells],trivial⟩⟩,.inr ?_⟩;try conv=>cbv
   refine .inl ⟨[(y,w)],fun _=>⟨rfl,by (first | rfl | omega),rfl,by show (o.length+1)*48<=140737488355328;(try simp only[List.length_take,List.length_drop]);omega⟩,?_⟩;intro (aA:List (el Am)) b1 aC;have bb:aA=(o:List (el Am))++([(y,w)]:List (el Am)):=aC.1;have bd:b1=List.length (α:=(el Am)) aA:=aC.2;conv=>cbv
   intro bm ca;conv=>cbv
   refine g1 (by omega) ?_;refine⟨24-(k'+1),?_,?_⟩
   ·omega
   rw[aJ];have G:X[k']? =some a:=by (first | exact F | (rw[<-F];congr 1 <;> omega))
   refine .inr ⟨aA,_,k'+1,r7,bm,rfl,rfl,⟨⟨by omega⟩,by have:=Gd G;omega,by omega,by omega,bd⟩,?_,rfl⟩;rw[Bi (x:=a) G,VL,<-B];exact⟨by rw[bb,ho,Gt,List.map_append,<-a5,D,C];rfl,bQ⟩
  cases bx <;> conv=>cbv
  ·rw[a1];refine⟨_,_,rfl,rfl,?_⟩ <;> rw[ax (fun hl=>Bool.false_ne_true (a2.2 (TY.2 hl)))]
   exact⟨bK,bI⟩
  intro db bB;have cU:=bB.eq;conv=>cbv
  intro dc cV;conv=>cbv
  refine g1 (by omega) ?_;refine g2 (by omega) ?_;intro bV ct;conv=>cbv
  obtain⟨c7,az⟩:=AG (l:=o) (i:=bV) (by omega);refine⟨c7,fun _=>az,?_⟩;try conv=>cbv
  rw[a1];obtain⟨u3,y3,bT,bU,cw⟩:=Dq ho az;refine⟨_,_,rfl,rfl,?_⟩ <;> rw[au N (TY.1 (a2.1 rfl)),a7 cw (by omega)]
  exact⟨bT,bU⟩
 cases cJ <;> conv=>cbv
 ·have cD:=Dg bD;rw[m];refine⟨_,_,_,rfl,rfl,?_,?_⟩ <;> rw[KS (.inr (by omega))]
  ·exact⟨rfl,U⟩
  exact f
 have cD:=Dh bD;intro cK bE;conv=>cbv
 have bE:=wrap_i64 bE;intro cM cf;have di:=cf.eq;conv=>cbv
 intro cN cg;conv=>cbv
 refine g2 (by omega) ?_;obtain⟨d58,bM,dj,cu⟩:∃d:Nat,d=a.2.1.toNat%k'/\cN=d/\d<k':=⟨_,rfl,by rw[cg,show cK=((a.2.1.toNat:Nat):Int) by omega,show cM=(k':Int) by omega];exact (Int.natCast_emod _ _).symm,Nat.mod_lt _ bO⟩
 refine g2 (by omega) ?_;intro bW cX;conv=>cbv
 obtain⟨aD,aX⟩:=AG (l:=o) (i:=bW) (by omega);refine⟨aD,fun _=>aX,?_⟩;try conv=>cbv
 intro cO bF;conv=>cbv
 have bF:=wrap_i64 bF;intro cP ch;have dk:=ch.eq;conv=>cbv
 intro cQ cl;conv=>cbv
 refine g2 (by omega) ?_;obtain⟨d67,bN,dm,cv⟩:∃d:Nat,d=a.2.2.1.toNat%k'/\cQ=d/\d<k':=⟨_,rfl,by rw[cl,show cO=((a.2.2.1.toNat:Nat):Int) by omega,show cP=(k':Int) by omega];exact (Int.natCast_emod _ _).symm,Nat.mod_lt _ bO⟩
 refine g2 (by omega) ?_;intro bX cY;conv=>cbv
 obtain⟨bu,aY⟩:=AG (l:=o) (i:=bX) (by omega);refine⟨bu,fun _=>aY,?_⟩;try conv=>cbv
 refine g2 rfl ?_;obtain⟨u1,y1,h,p,K⟩:=Dq ho aX;obtain⟨u2,y2,ab,ad,M⟩:=Dq ho aY;have J:=List.mem_of_getElem? K;have ao:=List.mem_of_getElem? M;have Q:bW=a.2.1.toNat%st.1.length:=by rw[hlen,<-bM];omega
 have R:bX=a.2.2.1.toNat%st.1.length:=by rw[hlen,<-bN];omega
 have an:=((c _ J).el g).mono (by decide:512<=Rm);have b8:=((c _ ao).el g).mono (by decide:512<=Rm);intro dw dq;conv=>cbv
 refine g2 (by omega) ?_;refine .inr ?_;intro cS bH;conv=>cbv
 refine .inr ?_;cases cS <;> conv=>cbv
 ·have cF:=Au bH;intro c2 aQ;conv=>cbv
  refine .inr ?_;cases c2 <;> conv=>cbv
  ·have bY:=Au aQ;intro c3 aR;conv=>cbv
   refine .inr ?_;cases c3 <;> conv=>cbv
   ·have bZ:=Au aR;intro c4 aS;conv=>cbv
    refine .inr ?_;cases c4 <;> conv=>cbv
    ·have c0:=Au aS;obtain⟨dx,bR⟩:=xI (BJ y1);refine cL I (NQ (Hw g c (Nat.le_refl Rm) (by decide)) (EZ g c J) h p an bR) ⟨t2,trivial⟩ ?_;try conv=>cbv
     intro cR bG;conv=>cbv
     refine .inr ?_;cases cR <;> conv=>cbv
     ·have cE:=Ad bG;intro bq aj;conv=>cbv
      refine .inr ?_;cases bq <;> conv=>cbv
      ·have bj:=Ad aj;rw[m];have b:=HU (o:=a) N (by omega:a.1.toNat%6≠0);rw[get_eq K Q,get_eq M R] at b;rw[show a.1.toNat%6=5 by omega,US _ _ (by omega)] at b;refine⟨_,_,_,rfl,rfl,?_,?_⟩ <;> rw[b]
       ·exact⟨h,p⟩
       exact f
      have bj:=Ae aj;intro br cm;conv=>cbv
      refine g1 (by omega) ?_;have ak:=(c _ J).abs;have al:DD y1=y1:=by unfold DD;rw[if_neg (ee (by omega))]
      obtain⟨hG,b9,ba⟩:=VE ak (by omega) (IX _) (Nat.le_refl Rm) (by decide);obtain⟨bt,W⟩:=E7 (tw (Ax u1 (DD y1)));obtain⟨bs,T⟩:=CY (em (Ax u1 (DD y1)) (Re.sqrt (DD y1)));refine cL (r:= .AE [(true,[.sl (.sl AA) bt,.sl AA bs]),(false,[.int .i64 0])]) I (NR hG b9 h (by show _=em u1 (DD y1);rw[al];exact p) ((ak.el g).mono (by decide)) ba (IX _) W T) ⟨t2,trivial⟩ ?_;try conv=>cbv
      refine cL I IU ⟨t2,rfl,t2,trivial⟩ ?_;try conv=>cbv
      rw[m];have b:=HU (o:=a) N (by omega:a.1.toNat%6≠0);rw[get_eq K Q,get_eq M R] at b;rw[show a.1.toNat%6=5 by omega,UT _ _ (by omega)] at b;refine⟨_,_,_,rfl,rfl,?_,?_⟩ <;> rw[b]
      ·exact⟨W,T⟩
      exact⟨by show br=((st.2+1:Nat):Int);omega⟩
     have cE:=Ae bG;obtain⟨dy,aU⟩:=CY (em u1 (-y1));refine cL I (NP (Hw g c (Nat.le_refl Rm) (by decide)) (EZ g c J) h p an aU) ⟨t2,trivial⟩ ?_;try conv=>cbv
     intro bq aj;conv=>cbv
     refine .inr ?_;cases bq <;> conv=>cbv
     ·have bj:=Ad aj;rw[m];have b:=HU (o:=a) N (by omega:a.1.toNat%6≠0);rw[get_eq K Q,get_eq M R] at b;rw[show a.1.toNat%6=5 by omega,US _ _ (by omega)] at b;refine⟨_,_,_,rfl,rfl,?_,?_⟩ <;> rw[b]
      ·exact⟨h,p⟩
      exact f
     have bj:=Ae aj;intro br cm;conv=>cbv
     refine g1 (by omega) ?_;have ak:=(c _ J).abs;have al:DD y1= -y1:=by unfold DD;rw[if_pos (ef (by omega))]
     obtain⟨hG,b9,ba⟩:=VE ak (by omega) (IX _) (Nat.le_refl Rm) (by decide);obtain⟨bt,W⟩:=E7 (tw (Ax u1 (DD y1)));obtain⟨bs,T⟩:=CY (em (Ax u1 (DD y1)) (Re.sqrt (DD y1)));refine cL (r:= .AE [(true,[.sl (.sl AA) bt,.sl AA bs]),(false,[.int .i64 0])]) I (NR hG b9 h (by show _=em u1 (DD y1);rw[al];exact aU) ((ak.el g).mono (by decide)) ba (IX _) W T) ⟨t2,trivial⟩ ?_;try conv=>cbv
     refine cL I IU ⟨t2,rfl,t2,trivial⟩ ?_;try conv=>cbv
     rw[m];have b:=HU (o:=a) N (by omega:a.1.toNat%6≠0);rw[get_eq K Q,get_eq M R] at b;rw[show a.1.toNat%6=5 by omega,UT _ _ (by omega)] at b;refine⟨_,_,_,rfl,rfl,?_,?_⟩ <;> rw[b]
     ·exact⟨W,T⟩
     exact⟨by show br=((st.2+1:Nat):Int);omega⟩
    have c0:=Av aS;obtain⟨aO,aN,b3,b2,aP,b7,bc,aK,aI,bf⟩:=Zk g c J ao (r:=st.2);refine .inl ⟨[.agg [.sl (.sl AA) aD.1,.sl AA aD.2],.agg [.sl (.sl AA) bu.1,.sl AA bu.2]],.AE [(true,[.sl (.sl AA) aO,.sl AA aN]),(false,[.int .i64 aP])],fun _=>⟨t2,t2,trivial⟩,fun _=>Fu I (by rw[h,p,ab,ad];exact b7),?_⟩;try conv=>cbv
    refine .inl ⟨[.agg [.sl (.sl AA) aO,.sl AA aN],.one (.int .i64 aP),.agg [.sl (.sl AA) aD.1,.sl AA aD.2]],.agg [.sl (.sl AA) b3,.sl AA b2],fun _=>⟨t2,rfl,t2,trivial⟩,fun _=>Fu I (by rw[h,p];exact bc),?_⟩;try conv=>cbv
    rw[m];have b:=HU (o:=a) N (by omega:a.1.toNat%6≠0);rw[get_eq K Q,get_eq M R] at b;rw[show a.1.toNat%6=4 by omega] at b;refine⟨_,_,_,rfl,rfl,?_,?_⟩ <;> rw[b]
    ·exact⟨aK,aI⟩
    rw[bf];exact f
   have bZ:=Av aR;obtain⟨dg,ay⟩:=E7 (tw (BH u1 u2));obtain⟨de,ar⟩:=CY (em (BH u1 u2) (y1*y2));refine cL I (NO (Hw g c (Nat.le_refl Rm) (by decide)) (EZ g c J) (EZ g c ao) h ab p ad an b8 ay ar) ⟨t2,t2,trivial⟩ ?_;try conv=>cbv
   refine cL I IU ⟨t2,rfl,t2,trivial⟩ ?_;try conv=>cbv
   rw[m];have b:=HU (o:=a) N (by omega:a.1.toNat%6≠0);rw[get_eq K Q,get_eq M R] at b;rw[show a.1.toNat%6=3 by omega,cj] at b;refine⟨_,_,_,rfl,rfl,?_,?_⟩ <;> rw[b]
   ·exact⟨ay,ar⟩
   exact f
  have bY:=Av aQ;obtain⟨df,av⟩:=E7 (tw (BH u1 u2));obtain⟨dd,aq⟩:=CY (em (BH u1 u2) (y1-y2));refine cL I (NS (Hw g c (Nat.le_refl Rm) (by decide)) (EZ g c J) (EZ g c ao) h ab p ad an b8 av aq) ⟨t2,t2,trivial⟩ ?_;try conv=>cbv
  refine cL I IU ⟨t2,rfl,t2,trivial⟩ ?_;try conv=>cbv
  rw[m];have b:=HU (o:=a) N (by omega:a.1.toNat%6≠0);rw[get_eq K Q,get_eq M R] at b;rw[show a.1.toNat%6=2 by omega,ck] at b;refine⟨_,_,_,rfl,rfl,?_,?_⟩ <;> rw[b]
  ·exact⟨av,aq⟩
  exact f
 have cF:=Av bH;obtain⟨dA,aW⟩:=E7 (tw (BH u1 u2));obtain⟨dz,aV⟩:=CY (em (BH u1 u2) (y1+y2));refine cL I (NN (Hw g c (Nat.le_refl Rm) (by decide)) (EZ g c J) (EZ g c ao) h ab p ad an b8 aW aV) ⟨t2,t2,trivial⟩ ?_;try conv=>cbv
 refine cL I IU ⟨t2,rfl,t2,trivial⟩ ?_;try conv=>cbv
 rw[m];have b:=HU (o:=a) N (by omega:a.1.toNat%6≠0);rw[get_eq K Q,get_eq M R] at b;rw[show a.1.toNat%6=1 by omega,cZ] at b;refine⟨_,_,_,rfl,rfl,?_,?_⟩ <;> rw[b]
 ·exact⟨aW,aV⟩
 exact f
end Go.Abs
namespace Go.Abs
open Go.RowKit
theorem iP (X:List (el Bf)):∃V:List Re,V.length<=3/\∀n∈(runN X).1,BY V n:=by
 obtain⟨h3,V,hV,a⟩:=Pc X;exact⟨V,Nat.le_trans hV h3,a⟩
instance (q:Rat):Decidable (Bz q):=inferInstanceAs (Decidable (_/\_))
theorem Ha {q:Rat} (h:Bz q):Bj q:=⟨by have:=L5.2 h.1;omega,by have:=L5.2 h.2;omega⟩
end Go.Abs
namespace Go.Abs
open Go.RowKit
def orM (g:Nat->Nat):List Nat->Nat
 | []=>0
 | k::r=>Nat.lor (Nat.lor (Nat.pow 2 k) (g k)) (orM g r)
def Ek (acc:List Nat) (n k:Nat):Nat:=match Nat.ble (k+1) n with | true=>acc.getD (n-1-k) 0 | false=>0
def Jn:List Oper->List Nat->Nat->List Nat
 | [],acc,_=>acc
 | o::r,acc,n=>Jn r (orM (Ek acc n) (Dy o)::acc) (n+1)
def UN (ops:List Oper) (tr:Tr):Bool:=RY ops&&((fun acc=>(List.range ops.length).all fun j=>(List.range j).all fun i=>
 Nat.testBit (Ek acc ops.length j) i||
  (match ops[i]?,ops[j]?,tr[i]?,tr[j]? with
   | some oi,some oj,some ti,some tj=>Ji ops oi oj ti tj
   | _,_,_,_=>false)) (Jn ops [] 0))
theorem UU {g:Nat->Nat} {i:Nat}:∀{l:List Nat},(orM g l).testBit i=true↔∃k∈l,i=k\/(g k).testBit i=true
 | []=>by simp[orM]
 | k::r=>by
  have c:=UU (g:=g) (i:=i) (l:=r)
  show ((2^k ||| g k) ||| orM g r).testBit i=true↔_
  rw[Nat.testBit_or,Nat.testBit_or,Nat.testBit_two_pow,Bool.or_eq_true,Bool.or_eq_true,c];simp only[List.mem_cons,decide_eq_true_eq]
  constructor
  ·rintro ((h | h) |⟨m,b,a⟩)
   ·exact⟨k,.inl rfl,.inl h.symm⟩
   ·exact⟨k,.inl rfl,.inr h⟩
   exact⟨m,.inr b,a⟩
  rintro⟨m,rfl | b,a⟩
  ·exact .inl (a.imp Eq.symm id)
  exact .inr ⟨m,b,a⟩
theorem Yq {x:Nat} {acc:List Nat} {n k:Nat} (h:k≠n):Ek (x::acc) (n+1) k=Ek acc n k:=by
 unfold Ek
 by_cases c:k<n
 ·rw[Nat.ble_eq_true_of_le (by omega:k+1<=n+1),Nat.ble_eq_true_of_le (by omega:k+1<=n)]
  show (x::acc).getD (n+1-1-k) 0=acc.getD (n-1-k) 0
  rw[show n+1-1-k=(n-1-k)+1 by omega];rfl
 have a:Nat.ble (k+1) (n+1)=false:=by rw[<-Bool.not_eq_true,Nat.ble_eq];omega
 have b:Nat.ble (k+1) n=false:=by rw[<-Bool.not_eq_true,Nat.ble_eq];omega
 rw[a,b]
theorem Rj:∀(ops:List Oper) {acc:List (List Nat)} {m:List Nat},(∀j i,(Ek m acc.length j).testBit i=true↔i∈acc.getD j [])->∀j i,(Ek (Jn ops m acc.length) (acc.length+ops.length) j).testBit i=true↔i∈(EX ops acc).getD j []
 | [],_,_,h=>h
 | o::r,acc,m,h=>by
  rw[EX,Jn]
  have:=Rj r (acc:=acc++[(Dy o).flatMap fun j=>j::acc.getD j []]) (m:=orM (Ek m acc.length) (Dy o)::m) (fun j i=>by
   rw[List.length_append,List.length_singleton]
   by_cases e:j=acc.length
   ·subst e
    have b:Ek (orM (Ek m acc.length) (Dy o)::m) (acc.length+1) acc.length=orM (Ek m acc.length) (Dy o):=by
     unfold Ek;rw[Nat.ble_eq_true_of_le (Nat.le_refl _)]
     show (_::m).getD (acc.length+1-1-acc.length) 0=_
     rw[show acc.length+1-1-acc.length=0 by omega];rfl
    rw[b,UU];have c:(acc++[(Dy o).flatMap fun j=>j::acc.getD j []]).getD acc.length []=(Dy o).flatMap fun j=>j::acc.getD j []:=by simp
    rw[c,List.mem_flatMap]
    constructor
    ·rintro⟨k,a,h'⟩;exact⟨k,a,List.mem_cons.2 (h'.imp id (h k i).1)⟩
    rintro⟨k,a,h'⟩;exact⟨k,a,(List.mem_cons.1 h').imp id (h k i).2⟩
   rw[Yq e,h]
   by_cases d:j<acc.length
   ·simp only[List.getD_eq_getElem?_getD,List.getElem?_append_left d]
   simp only[List.getD_eq_getElem?_getD];rw[List.getElem?_eq_none (by omega),List.getElem?_eq_none (by simp;omega)])
  rw[List.length_append,List.length_singleton] at this;rw[List.length_cons,show acc.length+(r.length+1)=acc.length+1+r.length by omega];exact this
theorem Aq {ops:List Oper} {tr:Tr} (h:UN ops tr=true):H7 ops tr=true:=by
 unfold UN at h;unfold H7;rw[Bool.and_eq_true] at h ⊢;refine⟨h.1,?_⟩;have a:=Rj ops (acc:=[]) (m:=[]) (fun j i=>by unfold Ek;split <;> simp);rw[List.length_nil,Nat.zero_add] at a
 have e:∀j i,((EX ops []).getD j []).contains i=Nat.testBit (Ek (Jn ops [] 0) ops.length j) i:=fun j i=>by
  rw[Bool.eq_iff_iff,List.contains_iff_mem];exact (a j i).symm
 have b:=h.2;unfold UP;simp only[e];exact b
end Go.Abs
