/- Part 44 of a proof. Conditions: each theorem's own. -/
import Derived.Test.YtoonaidhfikkeaaGreatPk41
import Derived.Test.YtoonaidhfikkeaaGreatPk42
set_option linter.all false
set_option maxHeartbeats 8000000
open Go.Proofs
namespace Go.Abs
open Go.RowKit
theorem Ry {o:el Bi} {n d:Int} (a:n=G1 o.2.2.2.1) (b:d=((o.2.2.2.2.toNat%8+1:Nat):Int)):EV o=Rat.divInt n d:=by subst a b;rfl
theorem Iw {st:List Nu×Nat} {o:el Bi} (h:st.1=[]\/o.1.toNat%6=0):CG st o=(([],Re.ofRat (EV o)),st.2):=by unfold CG;rw[if_pos h]
theorem GU {st:List Nu×Nat} {o:el Bi} (a:st.1≠[]) (b:o.1.toNat%6≠0):CG st o=Ct (o.1.toNat%6) (Bf st.1 o.2.1.toNat) (Bf st.1 o.2.2.1.toNat) st.2:=by
 unfold CG;rw[if_neg (fun h=>h.elim a b)]
theorem YI (a b:Nu) (r:Nat):Ct 1 a b r=((Aj a.1 b.1,a.2+b.2),r):=by unfold Ct;rw[if_pos rfl]
theorem YM (a b:Nu) (r:Nat):Ct 2 a b r=((Aj a.1 b.1,a.2-b.2),r):=by unfold Ct;rw[if_neg (by decide),if_pos rfl]
theorem YL (a b:Nu) (r:Nat):Ct 3 a b r=((Aj a.1 b.1,a.2*b.2),r):=by unfold Ct;rw[if_neg (by decide),if_neg (by decide),if_pos rfl]
theorem YK {a b:Nu} (r:Nat) (h:b.2=0):Ct 4 a b r=(a,r):=by unfold Ct;rw[if_neg (by decide),if_neg (by decide),if_neg (by decide),if_pos rfl,if_pos h]
theorem YJ {a b:Nu} (r:Nat) (h:b.2≠0):Ct 4 a b r=((Aj a.1 b.1,a.2*Dk b.2),r):=by unfold Ct;rw[if_neg (by decide),if_neg (by decide),if_neg (by decide),if_pos rfl,if_neg h]
theorem Rb (a b:Nu) {r:Nat} (h:r<3):Ct 5 a b r=((Ag a.1 (CX a.2),Re.sqrt (CX a.2)),r+1):=by unfold Ct;rw[if_neg (by decide),if_neg (by decide),if_neg (by decide),if_neg (by decide),if_pos h]
theorem Ra (a b:Nu) {r:Nat} (h:¬r<3):Ct 5 a b r=(a,r):=by unfold Ct;rw[if_neg (by decide),if_neg (by decide),if_neg (by decide),if_neg (by decide),if_neg h]
theorem get_eq {ns:List Nu} {i j:Nat} {n:Nu} (h:ns[j]? =some n) (a:j=i%ns.length):Bf ns i=n:=by
 unfold Bf;rw[List.getD_eq_getElem?_getD,<-a,h];rfl
theorem W8:∀h,h<=3->II h Rm Rm<=60000000000000
 |0,_|1,_|2,_|3,_=>by decide +kernel
 | _+4,h=>absurd h (by omega)
theorem W9:∀h,h<=3->II h 256 512<=Rm
 |0,_|1,_|2,_|3,_=>by decide +kernel
 | _+4,h=>absurd h (by omega)
section
variable {V:List Re} {ns:List Nu}
theorem BG.tb {n:Nu} (h:BG V n) (a:V.length<=3):TB 256 n.1:=(PN.EA (ns:=[n]) a (fun m hm=>by rw[List.mem_singleton.1 hm];exact h)).tb (PN.self (List.mem_singleton.2 rfl))
theorem BG.inv {n:Nu} (h:BG V n) (a:V.length<=3) (b:n.2≠0):El n.1 Rm (Dk n.2):=by
 have c:=Nat.le_trans h.len a;have ht:AU 256 n.1:=⟨h.red,h.tb a,by decide,by omega⟩;exact ((h.el a).inv ht (KB h.red h.mem b) (HW b)).mono (W9 _ c)
theorem BG.abs {n:Nu} (h:BG V n):BG V (n.1,CX n.2):=by
 refine⟨h.red,Qg h.mem,h.BA,h.EH,fun q a=>?_⟩;have a:q∈co n.1 (CX n.2):=a;unfold CX at a
 split at a
 ·rw[IS h.red h.mem] at a;obtain⟨p,b,rfl⟩:=List.mem_map.1 a;have:=h.cos p b;exact⟨by show (-p.num).natAbs<_;rw[Int.natAbs_neg];exact this.1,this.2⟩
 exact h.cos q a
theorem SG {n:Nu} (h:BG V n) (k:V.length<=2) (f:0<=n.2) {S:Nat} (g:Rm<=S) (i:S<=Sm):CH (Tf fun u=>u<:+Ag n.1 n.2) Rm Cm S/\Tf (fun u=>u<:+Ag n.1 n.2) n.1/\Tf (fun u=>u<:+Ag n.1 n.2) (Ag n.1 n.2):=by
 have j:=Ki h.red h.mem f;have l:=h.len
 have b:TB 256 (Ag n.1 n.2):=by
  by_cases d:Sq n.1 n.2
  ·rw[DA d];exact h.tb (by omega)
  rw[DK d];intro r a;rcases List.mem_cons.1 a with rfl | a
  ·refine (Fe h.cos).mono ?_;rw[CB h.mem];have:2^n.1.length<=2^2:=Bn (by omega);omega
  exact h.tb (by omega) r a
 have I:De (fun u=>u<:+Ag n.1 n.2) 256:=⟨fun {u} hu=>Fs hu j,fun {u} hu=>fun r a=>b r (hu.subset a),fun {r u} hu=>(List.suffix_cons r u).trans hu⟩;refine⟨J3 I (fun {u} hu=>?_) g i,Tf.of I (JX _ _),Tf.of I (List.suffix_refl _)⟩
 have:=hu.len I (V:=n.2::V) (fun {u} hu v c=>by
  rcases K7 h.mem v (JC hu v c) with rfl | c
  ·exact List.mem_cons_self
  exact List.mem_cons_of_mem _ (h.BA v c))
 rw[List.length_cons] at this;omega
theorem We (d:V.length<=3) (c:∀n∈ns,BG V n) {a b:Nu} (g:a∈ns) (hb:b∈ns) {r:Nat}:∃(T A j i:_) (e:Int),CF 115 [.agg [.sl (.sl AA) (tw a.1),.sl AA (em a.1 a.2)],.agg [.sl (.sl AA) (tw b.1),.sl AA (em b.1 b.2)]] (.AF [(true,[.sl (.sl AA) T,.sl AA A]),(false,[.int .i64 e])])/\
  CF 113 [.agg [.sl (.sl AA) T,.sl AA A],.one (.int .i64 e),.agg [.sl (.sl AA) (tw a.1),.sl AA (em a.1 a.2)]] (.agg [.sl (.sl AA) j,.sl AA i])/\j=tw (Ct 4 a b r).1.1/\i=em (Ct 4 a b r).1.1 (Ct 4 a b r).1.2/\(Ct 4 a b r).2=r:=by
 have G:=Gk d c (Nat.le_refl Rm) (by decide);have k:=((c a g).el d).mono (by decide:512<=Rm);have l:=((c b hb).el d).mono (by decide:512<=Rm)
 by_cases f:b.2=0
 ·rw[YK r f];exact⟨_,_,_,_,_,Uk G (Di d c g) (Di d c hb) rfl rfl rfl rfl k l f,VF,rfl,rfl,rfl⟩
 rw[YJ r f];have h:=Nat.le_trans (c b hb).len d;exact⟨_,_,_,_,_,OY G (Di d c g) (Di d c hb) rfl rfl rfl rfl k l (KB (c b hb).red (c b hb).mem f) (HW f) ((c b hb).inv d f) (W8 _ h) rfl rfl,HA,rfl,rfl,rfl⟩
end
theorem XV (x:Nu):D1 [] x=x:=by unfold D1;rw[if_neg (fun h=>h.1 rfl)]
theorem XU {l:List Nu} {x:Nu} (h:l≠[]) (a:F0 x):D1 l x=l.getLastD E8:=by unfold D1;rw[if_pos ⟨h,a⟩]
theorem XW {l:List Nu} {x:Nu} (a:¬F0 x):D1 l x=x:=by unfold D1;rw[if_neg (fun h=>a h.2)]
theorem Qy {n:Nu}:JF n.1.reverse (co n.1 n.2)↔F0 n:=by
 unfold JF F0;simp only[List.mem_reverse]
theorem XX {l:List Nu} {j:Nat} {n:Nu} (h:l[j]? =some n) (a:j+1=l.length):l.getLastD E8=n:=by
 rw[List.getLastD_eq_getLast?,List.getLast?_eq_getElem?,show l.length-1=j by omega,h];rfl
theorem SV:∀(xs:List (el Bi)) (st:List Nu×Nat),(xs.foldl Fy st).1.length=st.1.length+xs.length
 | [],_=>rfl
 | o::xs,st=>by
  rw[List.foldl_cons,SV xs (Fy st o),List.length_cons];unfold Fy;rw[List.length_append,List.length_singleton];omega
theorem Y8 {x:Re} (h:At x<0):x<0:=by rcases Dp x with⟨a,b⟩ |⟨a,b⟩ |⟨a,b⟩ <;> first | exact a | (exfalso;omega)
theorem Y7 {x:Re} (h:¬At x<0):¬x<0:=by rcases Dp x with⟨a,b⟩ |⟨a,b⟩ |⟨a,b⟩ <;> first | (exfalso;omega) | (rw[a];exact fun h=>by grind) | (intro h;grind)
theorem LW {X:List (el Bi)} {L:List (el AY)} (hL:L=(runN (X.take 24)).1.map nm):CF 54 [.one (.sl Bi X)] (.one (.sl AY L)):=by
 refine AE Tryz.func54 (by kernel_rfl) rfl fun E J=>?_
 conv=>cbv
 refine .inr ?_;obtain⟨J0,aH⟩:=xJ fun vs bl k=>(vs=[.one (.sl Bi X),.one .nil,.one (.int .i64 0),.one (.int .i64 0)]/\bl=[.dead 0]/\k=24)\/(∃(o:List (el AY)) (n k':Nat) (rr j:Int),vs=[.one (.sl Bi X),.one (.AM AY 157 0 0 n),.one (.int .i64 rr),.one (.int .i64 j)]/\bl=[.arr 0 AY o]/\(AK j k'/\k'<=X.length/\k'<=24/\0<k'/\n=o.length)/\(o=(runN (X.take k')).1.map nm/\AK rr (runN (X.take k')).2)/\k=24-k')
 refine⟨[0,3,4,5],[157],J0,⟨24,by rw[aH];exact .inl ⟨rfl,rfl,rfl⟩⟩,?_⟩;intro vs bl dn hj;rw[aH] at hj;rcases hj with⟨rfl,rfl,aJ⟩ |⟨o,n,k',rr,j,rfl,rfl,⟨hj,dk,cS,bM,hn⟩,⟨ho,f⟩,aJ⟩
 ·conv=>cbv
  obtain⟨k',aJ⟩:=xN 0;obtain⟨T,V,hV,c⟩:=NR (X.take k');obtain⟨st,C⟩:∃s,s=runN (X.take k'):=⟨_,rfl⟩
  rw[<-C] at T hV c;have ab:st.1=[]:=by rw[C,aJ];rfl
  have bQ:st.2=0:=by rw[C,aJ];rfl
  rintro cC ⟨c7,f22⟩;conv=>cbv
  intro bh ag;conv=>cbv
  cases bh <;> conv=>cbv
  ·have bf:=AR ag;exact fA ⟨⟨rfl,.inr (.inl ⟨_,congrArg _ (by rw[hL,show X.take 24=[] by rw[List.take_eq_nil_iff];right;exact List.eq_nil_of_length_eq_zero (by omega)];rfl)⟩),trivial⟩,trivial⟩ rfl (by simp)
  have bf:=AS ag;intro c3 aE;cases aE.trans (show _=true by decide);conv=>cbv
  refine .inr ?_;obtain⟨a,G⟩:=AG (l:=X) (i:=0) (by omega);refine⟨a,fun _=>⟨by omega,G⟩,?_⟩;try conv=>cbv
  intro bk ah;have b3:=ah.eq;have f33:=ah.lt;conv=>cbv
  intro az Q;have af:=Q.eq;have bw:=Q.lt;conv=>cbv
  intro a8 B;have a1:=B.eq;have b4:=B.lt;conv=>cbv
  intro P v;have I:=v.eq;have aD:=v.lt;conv=>cbv
  have ct:bk=((a.1.toNat:Nat):Int):=b3;have cu:az=((a.2.1.toNat:Nat):Int):=af;have cv:a8=((a.2.2.1.toNat:Nat):Int):=a1;have cw:P=((a.2.2.2.2.toNat:Nat):Int):=I;intro bm a2;conv=>cbv
  have a2:=wrap_i64 a2;have ai:bm=G1 a.2.2.2.1:=a2;intro cD c9;conv=>cbv
  refine g2 (by omega) ?_;intro cE aj;conv=>cbv
  have aj:=wrap_i64 aj;intro bn ca;conv=>cbv
  refine g1 (by omega) ?_;obtain⟨aK,W⟩:=Bu (em [] (Re.ofRat (EV a)));have cx:=Nx a.2.2.2.1;refine cL (r:= .agg [.sl (.sl AA) (([]:List LR)),.sl AA aK]) J (La (q:=EV a) (by omega) (by omega) (by omega) (Ry ai (by show bn=((a.2.2.2.2.toNat%8+1:Nat):Int);omega)) W) t2 ?_;try conv=>cbv
  intro c4 aF;cases aF.trans (show _=false by decide);conv=>cbv
  refine .inr ?_;intro aY aa;cases aa.trans (show _=false by decide);conv=>cbv
  refine .inr ?_;obtain⟨_,b2,cl,aR,bd⟩:=Iv (st:=st) ⟨T,V,hV,c⟩ a;have cm:b2.length<=8:=by have:=(Iv (st:=st) ⟨T,V,hV,c⟩ a).1;omega
  have w:=Md (l:=[]) (x:=(CG st a).1) (fun n hn=>by simp at hn) bd (fun he=>by rw[Iw (.inl ab)];exact NG a);obtain⟨kk,a7⟩:∃z:Nu,z=D1 [] (CG st a).1:=⟨_,rfl⟩
  rw[<-a7] at w;have t:=No w.red w.mem;have bN:kk=([],Re.ofRat (EV a)):=by rw[a7,XV,Iw (.inl ab)]
  have ck:(([]:List LR):List LR)=tw kk.1:=by rw[bN];rfl
  have cj:aK=em kk.1 kk.2:=by rw[bN];exact W
  obtain⟨A,F⟩:=EG (tw (D7 kk).1);obtain⟨y,D⟩:=Bu (em (D7 kk).1 (D7 kk).2);refine cL (r:= .agg [.sl (.sl AA) A,.sl AA y]) J (Og w.red w.mem (by have:=w.len;omega) (by rw[t.1,t.2.2]) ck cj F (by rw[D,t.2.2])) ⟨t2,trivial⟩ ?_;try conv=>cbv
  refine⟨[(A,y)],fun _=>⟨rfl,by decide,rfl,⟨rfl,by first | exact t1 | exact t2 | exact t4 | simp[Ac,Ak,cells],trivial⟩⟩,.inr ?_⟩;try conv=>cbv
  refine .inl ⟨[(A,y)],fun _=>⟨rfl,by show (1)*48<=140737488355328;(try simp only[List.length_take,List.length_drop]);omega⟩,?_⟩;intro aZ bA;conv=>cbv
  intro bj c8;conv=>cbv
  refine g1 (by omega) ?_;refine⟨24-(k'+1),?_,?_⟩
  ·omega
  rw[aH];have H:X[k']? =some a:=by (first | exact G | (rw[<-G];congr 1 <;> omega))
  refine .inr ⟨_,_,k'+1,0,bj,rfl,rfl,⟨⟨by omega⟩,by have:=Fg H;omega,by omega,by omega,bA⟩,?_,rfl⟩;rw[BJ (x:=a) H,SO,<-C];refine⟨by rw[Fy,ab,List.nil_append,<-a7,F,D];rfl,?_⟩
  show AK 0 (CG st a).2
  rw[Iw (.inl ab),bQ];exact Ah 0
 conv=>cbv
 have ej:=hj.eq;have aC:=f.eq;obtain⟨T,V,hV,c⟩:=NR (X.take k');obtain⟨st,C⟩:∃s,s=runN (X.take k'):=⟨_,rfl⟩
 rw[<-C] at T hV c;rw[<-C] at ho f aC;have hlen:st.1.length=k':=by rw[C,runN,SV,List.length_nil,List.length_take];omega
 have dm:o.length=k':=by rw[ho,List.length_map,hlen]
 have O:st.1≠[]:=fun e=>by rw[e] at hlen;simp at hlen;omega
 have g:=Nat.le_trans hV T;rintro cC ⟨c7,f22⟩;conv=>cbv
 intro bh ag;conv=>cbv
 cases bh <;> conv=>cbv
 ·have bf:=AR ag;exact fA ⟨⟨rfl,.inl ⟨_,rfl,by omega,congrArg _ (by have e:X.take 24=X.take k':=(by first | rw[show k'=24 by omega] | rw[List.take_of_length_le (by omega),List.take_of_length_le (by omega)]);rw[hL,hn,List.drop_zero,List.take_length,ho,C,e])⟩,trivial⟩,trivial⟩ rfl (by simp)
 have bf:=AS ag;intro c3 aE;conv=>cbv
 cases c3 <;> conv=>cbv
 ·have cy:=AR aE;exact fA ⟨⟨rfl,.inl ⟨_,rfl,by omega,congrArg _ (by have e:X.take 24=X.take k':=(by first | rw[show k'=24 by omega] | rw[List.take_of_length_le (by omega),List.take_of_length_le (by omega)]);rw[hL,hn,List.drop_zero,List.take_length,ho,C,e])⟩,trivial⟩,trivial⟩ rfl (by simp)
 have cy:=AS aE;refine .inr ?_;obtain⟨a,G⟩:=AG (l:=X) (i:=k') (by omega);refine⟨a,fun _=>⟨by omega,by rw[show (j).toNat=k' by omega];exact G⟩,?_⟩;try conv=>cbv
 intro bk ah;have b3:=ah.eq;have f33:=ah.lt;conv=>cbv
 intro az Q;have af:=Q.eq;have bw:=Q.lt;conv=>cbv
 intro a8 B;have a1:=B.eq;have b4:=B.lt;conv=>cbv
 intro P v;have I:=v.eq;have aD:=v.lt;conv=>cbv
 have ct:bk=((a.1.toNat:Nat):Int):=b3;have cu:az=((a.2.1.toNat:Nat):Int):=af;have cv:a8=((a.2.2.1.toNat:Nat):Int):=a1;have cw:P=((a.2.2.2.2.toNat:Nat):Int):=I;intro bm a2;conv=>cbv
 have a2:=wrap_i64 a2;have ai:bm=G1 a.2.2.2.1:=a2;intro cD c9;conv=>cbv
 refine g2 (by omega) ?_;intro cE aj;conv=>cbv
 have aj:=wrap_i64 aj;intro bn ca;conv=>cbv
 refine g1 (by omega) ?_;obtain⟨aK,W⟩:=Bu (em [] (Re.ofRat (EV a)));have cx:=Nx a.2.2.2.1;refine cL (r:= .agg [.sl (.sl AA) (([]:List LR)),.sl AA aK]) J (La (q:=EV a) (by omega) (by omega) (by omega) (Ry ai (by show bn=((a.2.2.2.2.toNat%8+1:Nat):Int);omega)) W) t2 ?_;try conv=>cbv
 intro dp cb;have dc:=cb.eq;conv=>cbv
 intro c4 aF;conv=>cbv
 cases c4 <;> conv=>cbv
 ·have bZ:=Bc aF;exact absurd bZ (by omega)
 have bZ:=Be aF;intro dq di;conv=>cbv
 refine g2 (by omega) ?_;intro cF bB;conv=>cbv
 obtain⟨c6,m⟩:=xK fun vs bl=>∃(T7:List LR) (A7:LR) (r7:Int),vs=[.one (.sl Bi X),.one (.AM AY 157 0 0 n),.one (.int .i64 r7),.one (.int .i64 j),.one (.Am 7 0 0)]/\bl=[.var 0 [.sl (.sl AA) T7,.sl AA A7],.arr 0 AY o]/\(T7=tw (CG st a).1.1/\A7=em (CG st a).1.1 (CG st a).1.2)/\AK r7 (CG st a).2
 refine .inl ⟨[0,3,4,5,7],[7,157],c6,?_,?_⟩
 ·intro vs bl hj;rw[m] at hj;obtain⟨T7,A7,r7,rfl,rfl,⟨bI,bG⟩,bO⟩:=hj;conv=>cbv
  have dh:=bO.eq;intro cV bx;have cP:=bx.eq;conv=>cbv
  intro aY aa;conv=>cbv
  cases aY <;> conv=>cbv
  ·have aX:=Bc aa;exact absurd aX (by omega)
  have aX:=Be aa;obtain⟨bu,a6⟩:=CY (JF (CG st a).1.1.reverse (co (CG st a).1.1 (CG st a).1.2));refine cL J (VE bI bG a6) ⟨t2,trivial⟩ ?_;try conv=>cbv
  obtain⟨bt,a5⟩:=xK fun vs bl=>∃(T8:List LR) (A8:LR),vs=[.one (.sl Bi X),.one (.AM AY 157 0 0 n),.one (.int .i64 r7),.one (.int .i64 j),.one (.Am 7 0 0)]/\bl=[.var 0 [.sl (.sl AA) T8,.sl AA A8],.arr 0 AY o]/\(T8=tw (D1 st.1 (CG st a).1).1/\A8=em (D1 st.1 (CG st a).1).1 (D1 st.1 (CG st a).1).2)
  refine .inl ⟨[0,3,4,5,7],[7,157],bt,?_,?_⟩
  ·intro vs bl hj;rw[a5] at hj;obtain⟨T8,A8,rfl,rfl,bJ,bH⟩:=hj;conv=>cbv
   obtain⟨_,b2,cl,aR,bd⟩:=Iv (st:=st) ⟨T,V,hV,c⟩ a;have cm:b2.length<=8:=by have:=(Iv (st:=st) ⟨T,V,hV,c⟩ a).1;omega
   have w:=Md (l:=st.1) (x:=(CG st a).1) aR bd (fun he=>by rw[Iw (.inl he)];exact NG a);obtain⟨kk,a7⟩:∃z:Nu,z=D1 st.1 (CG st a).1:=⟨_,rfl⟩
   rw[<-a7] at w;have t:=No w.red w.mem;rw[<-a7] at bJ bH;obtain⟨A,F⟩:=EG (tw (D7 kk).1);obtain⟨y,D⟩:=Bu (em (D7 kk).1 (D7 kk).2);refine cL (r:= .agg [.sl (.sl AA) A,.sl AA y]) J (Og w.red w.mem (by have:=w.len;omega) (by rw[t.1,t.2.2]) bJ bH F (by rw[D,t.2.2])) ⟨t2,trivial⟩ ?_;try conv=>cbv
   refine⟨[(A,y)],fun _=>⟨rfl,by decide,rfl,⟨rfl,by first | exact t1 | exact t2 | exact t4 | simp[Ac,Ak,cells],trivial⟩⟩,.inr ?_⟩;try conv=>cbv
   refine .inl ⟨[(A,y)],fun _=>⟨rfl,by (first | rfl | omega),rfl,by show (o.length+1)*48<=140737488355328;(try simp only[List.length_take,List.length_drop]);omega⟩,?_⟩;intro (ay:List (el AY)) aZ aA;have b9:ay=(o:List (el AY))++([(A,y)]:List (el AY)):=aA.1;have bb:aZ=List.length (α:=(el AY)) ay:=aA.2;conv=>cbv
   intro bj c8;conv=>cbv
   refine g1 (by omega) ?_;refine⟨24-(k'+1),?_,?_⟩
   ·omega
   rw[aH];have H:X[k']? =some a:=by (first | exact G | (rw[<-G];congr 1 <;> omega))
   refine .inr ⟨ay,_,k'+1,r7,bj,rfl,rfl,⟨⟨by omega⟩,by have:=Fg H;omega,by omega,by omega,bb⟩,?_,rfl⟩;rw[BJ (x:=a) H,SO,<-C];exact⟨by rw[b9,ho,Fy,List.map_append,<-a7,F,D];rfl,bO⟩
  cases bu <;> conv=>cbv
  ·rw[a5];refine⟨_,_,rfl,rfl,?_⟩ <;> rw[XW (fun hl=>Bool.false_ne_true (a6.2 (Qy.2 hl)))]
   exact⟨bI,bG⟩
  intro cW bz;have cQ:=bz.eq;conv=>cbv
  intro cX cR;conv=>cbv
  refine g1 (by omega) ?_;refine g2 (by omega) ?_;intro bT cn;conv=>cbv
  obtain⟨c5,ax⟩:=AG (l:=o) (i:=bT) (by omega);refine⟨c5,fun _=>ax,?_⟩;try conv=>cbv
  rw[a5];obtain⟨u3,y3,bR,bS,cr⟩:=C6 ho ax;refine⟨_,_,rfl,rfl,?_⟩ <;> rw[XU O (Qy.1 (a6.1 rfl)),XX cr (by omega)]
  exact⟨bR,bS⟩
 cases cF <;> conv=>cbv
 ·have cz:=DR bB;rw[m];refine⟨_,_,_,rfl,rfl,?_,?_⟩ <;> rw[Iw (.inr (by omega))]
  ·exact⟨rfl,W⟩
  exact f
 have cz:=DS bB;intro cG bC;conv=>cbv
 have bC:=wrap_i64 bC;intro cH cc;have dd:=cc.eq;conv=>cbv
 intro cI cd;conv=>cbv
 refine g2 (by omega) ?_;obtain⟨d58,bK,de,cp⟩:∃d:Nat,d=a.2.1.toNat%k'/\cI=d/\d<k':=⟨_,rfl,by rw[cd,show cG=((a.2.1.toNat:Nat):Int) by omega,show cH=(k':Int) by omega];exact (Int.natCast_emod _ _).symm,Nat.mod_lt _ bM⟩
 refine g2 (by omega) ?_;intro bU cT;conv=>cbv
 obtain⟨aB,aV⟩:=AG (l:=o) (i:=bU) (by omega);refine⟨aB,fun _=>aV,?_⟩;try conv=>cbv
 intro cJ bD;conv=>cbv
 have bD:=wrap_i64 bD;intro cK cf;have df:=cf.eq;conv=>cbv
 intro cM cg;conv=>cbv
 refine g2 (by omega) ?_;obtain⟨d67,bL,dg,cq⟩:∃d:Nat,d=a.2.2.1.toNat%k'/\cM=d/\d<k':=⟨_,rfl,by rw[cg,show cJ=((a.2.2.1.toNat:Nat):Int) by omega,show cK=(k':Int) by omega];exact (Int.natCast_emod _ _).symm,Nat.mod_lt _ bM⟩
 refine g2 (by omega) ?_;intro bV cU;conv=>cbv
 obtain⟨bs,aW⟩:=AG (l:=o) (i:=bV) (by omega);refine⟨bs,fun _=>aW,?_⟩;try conv=>cbv
 refine g2 rfl ?_;obtain⟨u1,Z,h,p,M⟩:=C6 ho aV;obtain⟨u2,y2,ad,ae,N⟩:=C6 ho aW;have K:=List.mem_of_getElem? M;have aq:=List.mem_of_getElem? N;have R:bU=a.2.1.toNat%st.1.length:=by rw[hlen,<-bK];omega
 have S:bV=a.2.2.1.toNat%st.1.length:=by rw[hlen,<-bL];omega
 have ao:=((c _ K).el g).mono (by decide:512<=Rm);have b6:=((c _ aq).el g).mono (by decide:512<=Rm);intro dr dj;conv=>cbv
 refine g2 (by omega) ?_;refine .inr ?_;intro cO bF;conv=>cbv
 refine .inr ?_;cases cO <;> conv=>cbv
 ·have cB:=Ab bF;intro c0 aO;conv=>cbv
  refine .inr ?_;cases c0 <;> conv=>cbv
  ·have bW:=Ab aO;intro c1 aP;conv=>cbv
   refine .inr ?_;cases c1 <;> conv=>cbv
   ·have bX:=Ab aP;intro c2 aQ;conv=>cbv
    refine .inr ?_;cases c2 <;> conv=>cbv
    ·have bY:=Ab aQ;obtain⟨ds,bP⟩:=xI (At Z);refine cL J (Ld (Gk g c (Nat.le_refl Rm) (by decide)) (Di g c K) h p ao bP) ⟨t2,trivial⟩ ?_;try conv=>cbv
     intro cN bE;conv=>cbv
     refine .inr ?_;cases cN <;> conv=>cbv
     ·have cA:=AR bE;intro bo ak;conv=>cbv
      refine .inr ?_;cases bo <;> conv=>cbv
      ·have bg:=AR ak;rw[m];have b:=GU (o:=a) O (by omega:a.1.toNat%6≠0);rw[get_eq M R,get_eq N S] at b;rw[show a.1.toNat%6=5 by omega,Ra _ _ (by omega)] at b;refine⟨_,_,_,rfl,rfl,?_,?_⟩ <;> rw[b]
       ·exact⟨h,p⟩
       exact f
      have bg:=AS ak;intro bp ch;conv=>cbv
      refine g1 (by omega) ?_;have al:=(c _ K).abs;have an:CX Z=Z:=by unfold CX;rw[if_neg (Y7 (by omega))]
      obtain⟨hG,b7,b8⟩:=SG al (by omega) (HD _) (Nat.le_refl Rm) (by decide);obtain⟨br,Y⟩:=EG (tw (Ag u1 (CX Z)));obtain⟨bq,U⟩:=Bu (em (Ag u1 (CX Z)) (Re.sqrt (CX Z)));refine cL (r:= .AF [(true,[.sl (.sl AA) br,.sl AA bq]),(false,[.int .i64 0])]) J (OZ hG b7 h (by show _=em u1 (CX Z);rw[an];exact p) ((al.el g).mono (by decide)) b8 (HD _) Y U) ⟨t2,trivial⟩ ?_;try conv=>cbv
      refine cL J HA ⟨t2,rfl,t2,trivial⟩ ?_;try conv=>cbv
      rw[m];have b:=GU (o:=a) O (by omega:a.1.toNat%6≠0);rw[get_eq M R,get_eq N S] at b;rw[show a.1.toNat%6=5 by omega,Rb _ _ (by omega)] at b;refine⟨_,_,_,rfl,rfl,?_,?_⟩ <;> rw[b]
      ·exact⟨Y,U⟩
      exact⟨by show bp=((st.2+1:Nat):Int);omega⟩
     have cA:=AS bE;obtain⟨dt,aS⟩:=Bu (em u1 (-Z));refine cL J (Lc (Gk g c (Nat.le_refl Rm) (by decide)) (Di g c K) h p ao aS) ⟨t2,trivial⟩ ?_;try conv=>cbv
     intro bo ak;conv=>cbv
     refine .inr ?_;cases bo <;> conv=>cbv
     ·have bg:=AR ak;rw[m];have b:=GU (o:=a) O (by omega:a.1.toNat%6≠0);rw[get_eq M R,get_eq N S] at b;rw[show a.1.toNat%6=5 by omega,Ra _ _ (by omega)] at b;refine⟨_,_,_,rfl,rfl,?_,?_⟩ <;> rw[b]
      ·exact⟨h,p⟩
      exact f
     have bg:=AS ak;intro bp ch;conv=>cbv
     refine g1 (by omega) ?_;have al:=(c _ K).abs;have an:CX Z= -Z:=by unfold CX;rw[if_pos (Y8 (by omega))]
     obtain⟨hG,b7,b8⟩:=SG al (by omega) (HD _) (Nat.le_refl Rm) (by decide);obtain⟨br,Y⟩:=EG (tw (Ag u1 (CX Z)));obtain⟨bq,U⟩:=Bu (em (Ag u1 (CX Z)) (Re.sqrt (CX Z)));refine cL (r:= .AF [(true,[.sl (.sl AA) br,.sl AA bq]),(false,[.int .i64 0])]) J (OZ hG b7 h (by show _=em u1 (CX Z);rw[an];exact aS) ((al.el g).mono (by decide)) b8 (HD _) Y U) ⟨t2,trivial⟩ ?_;try conv=>cbv
     refine cL J HA ⟨t2,rfl,t2,trivial⟩ ?_;try conv=>cbv
     rw[m];have b:=GU (o:=a) O (by omega:a.1.toNat%6≠0);rw[get_eq M R,get_eq N S] at b;rw[show a.1.toNat%6=5 by omega,Rb _ _ (by omega)] at b;refine⟨_,_,_,rfl,rfl,?_,?_⟩ <;> rw[b]
     ·exact⟨Y,U⟩
     exact⟨by show bp=((st.2+1:Nat):Int);omega⟩
    have bY:=Ad aQ;obtain⟨aM,aL,b1,b0,aN,b5,ba,aI,aG,bc⟩:=We g c K aq (r:=st.2);refine .inl ⟨[.agg [.sl (.sl AA) aB.1,.sl AA aB.2],.agg [.sl (.sl AA) bs.1,.sl AA bs.2]],.AF [(true,[.sl (.sl AA) aM,.sl AA aL]),(false,[.int .i64 aN])],fun _=>⟨t2,t2,trivial⟩,fun _=>E3 J (by rw[h,p,ad,ae];exact b5),?_⟩;try conv=>cbv
    refine .inl ⟨[.agg [.sl (.sl AA) aM,.sl AA aL],.one (.int .i64 aN),.agg [.sl (.sl AA) aB.1,.sl AA aB.2]],.agg [.sl (.sl AA) b1,.sl AA b0],fun _=>⟨t2,rfl,t2,trivial⟩,fun _=>E3 J (by rw[h,p];exact ba),?_⟩;try conv=>cbv
    rw[m];have b:=GU (o:=a) O (by omega:a.1.toNat%6≠0);rw[get_eq M R,get_eq N S] at b;rw[show a.1.toNat%6=4 by omega] at b;refine⟨_,_,_,rfl,rfl,?_,?_⟩ <;> rw[b]
    ·exact⟨aI,aG⟩
    rw[bc];exact f
   have bX:=Ad aP;obtain⟨db,aw⟩:=EG (tw (Aj u1 u2));obtain⟨cZ,au⟩:=Bu (em (Aj u1 u2) (Z*y2));refine cL J (Lb (Gk g c (Nat.le_refl Rm) (by decide)) (Di g c K) (Di g c aq) h ad p ae ao b6 aw au) ⟨t2,t2,trivial⟩ ?_;try conv=>cbv
   refine cL J HA ⟨t2,rfl,t2,trivial⟩ ?_;try conv=>cbv
   rw[m];have b:=GU (o:=a) O (by omega:a.1.toNat%6≠0);rw[get_eq M R,get_eq N S] at b;rw[show a.1.toNat%6=3 by omega,YL] at b;refine⟨_,_,_,rfl,rfl,?_,?_⟩ <;> rw[b]
   ·exact⟨aw,au⟩
   exact f
  have bW:=Ad aO;obtain⟨da,av⟩:=EG (tw (Aj u1 u2));obtain⟨cY,ar⟩:=Bu (em (Aj u1 u2) (Z-y2));refine cL J (Le (Gk g c (Nat.le_refl Rm) (by decide)) (Di g c K) (Di g c aq) h ad p ae ao b6 av ar) ⟨t2,t2,trivial⟩ ?_;try conv=>cbv
  refine cL J HA ⟨t2,rfl,t2,trivial⟩ ?_;try conv=>cbv
  rw[m];have b:=GU (o:=a) O (by omega:a.1.toNat%6≠0);rw[get_eq M R,get_eq N S] at b;rw[show a.1.toNat%6=2 by omega,YM] at b;refine⟨_,_,_,rfl,rfl,?_,?_⟩ <;> rw[b]
  ·exact⟨av,ar⟩
  exact f
 have cB:=Ad bF;obtain⟨dv,aU⟩:=EG (tw (Aj u1 u2));obtain⟨du,aT⟩:=Bu (em (Aj u1 u2) (Z+y2));refine cL J (LZ (Gk g c (Nat.le_refl Rm) (by decide)) (Di g c K) (Di g c aq) h ad p ae ao b6 aU aT) ⟨t2,t2,trivial⟩ ?_;try conv=>cbv
 refine cL J HA ⟨t2,rfl,t2,trivial⟩ ?_;try conv=>cbv
 rw[m];have b:=GU (o:=a) O (by omega:a.1.toNat%6≠0);rw[get_eq M R,get_eq N S] at b;rw[show a.1.toNat%6=1 by omega,YI] at b;refine⟨_,_,_,rfl,rfl,?_,?_⟩ <;> rw[b]
 ·exact⟨aU,aT⟩
 exact f
end Go.Abs
namespace Go.Abs
open Go.RowKit
theorem bE (X:List (el Bi)):∃V:List Re,V.length<=3/\∀n∈(runN X).1,BG V n:=by
 obtain⟨a,V,b,c⟩:=NR X;exact⟨V,Nat.le_trans b a,c⟩
instance (q:Rat):Decidable (Bq q):=inferInstanceAs (Decidable (_/\_))
theorem ZG {q:Rat} (h:Bq q):BK q:=⟨by have:=KH.2 h.1;omega,by have:=KH.2 h.2;omega⟩
end Go.Abs
namespace Go.Abs
open Go.RowKit
def orM (g:Nat->Nat):List Nat->Nat
 | []=>0
 | k::r=>Nat.lor (Nat.lor (Nat.pow 2 k) (g k)) (orM g r)
def Dw (acc:List Nat) (n k:Nat):Nat:=match Nat.ble (k+1) n with | true=>acc.getD (n-1-k) 0 | false=>0
def IL:List Oper->List Nat->Nat->List Nat
 | [],acc,_=>acc
 | o::r,acc,n=>IL r (orM (Dw acc n) (DB o)::acc) (n+1)
def RV (ops:List Oper) (tr:Tr):Bool:=PK ops&&((fun acc=>(List.range ops.length).all fun j=>(List.range j).all fun i=>
 Nat.testBit (Dw acc ops.length j) i||
  (match ops[i]?,ops[j]?,tr[i]?,tr[j]? with
   | some oi,some oj,some ti,some tj=>IF ops oi oj ti tj
   | _,_,_,_=>false)) (IL ops [] 0))
variable {s:Nat} {u:List (List Rat)} {x:Re}
theorem Rc {g:Nat->Nat} {i:Nat}:∀{l:List Nat},(orM g l).testBit i=true↔∃k∈l,i=k\/(g k).testBit i=true
 | []=>by simp[orM]
 | k::r=>by
  have c:=Rc (g:=g) (i:=i) (l:=r)
  show ((2^k ||| g k) ||| orM g r).testBit i=true↔_
  rw[Nat.testBit_or,Nat.testBit_or,Nat.testBit_two_pow,Bool.or_eq_true,Bool.or_eq_true,c];simp only[List.mem_cons,decide_eq_true_eq]
  constructor
  ·rintro ((h | h) |⟨m,b,a⟩)
   ·exact⟨k,.inl rfl,.inl h.symm⟩
   ·exact⟨k,.inl rfl,.inr h⟩
   exact⟨m,.inr b,a⟩
  rintro⟨m,rfl | b,a⟩
  ·exact .inl (a.imp Eq.symm id)
  exact .inr ⟨m,b,a⟩
theorem Vz {x:Nat} {acc:List Nat} {n k:Nat} (h:k≠n):Dw (x::acc) (n+1) k=Dw acc n k:=by
 unfold Dw
 by_cases c:k<n
 ·rw[Nat.ble_eq_true_of_le (by omega:k+1<=n+1),Nat.ble_eq_true_of_le (by omega:k+1<=n)]
  show (x::acc).getD (n+1-1-k) 0=acc.getD (n-1-k) 0
  rw[show n+1-1-k=(n-1-k)+1 by omega];rfl
 have a:Nat.ble (k+1) (n+1)=false:=by rw[<-Bool.not_eq_true,Nat.ble_eq];omega
 have b:Nat.ble (k+1) n=false:=by rw[<-Bool.not_eq_true,Nat.ble_eq];omega
 rw[a,b]
theorem PU:∀(ops:List Oper) {acc:List (List Nat)} {m:List Nat},(∀j i,(Dw m acc.length j).testBit i=true↔i∈acc.getD j [])->∀j i,(Dw (IL ops m acc.length) (acc.length+ops.length) j).testBit i=true↔i∈(Dg ops acc).getD j []
 | [],_,_,h=>h
 | o::r,acc,m,h=>by
  rw[Dg,IL]
  have:=PU r (acc:=acc++[(DB o).flatMap fun j=>j::acc.getD j []]) (m:=orM (Dw m acc.length) (DB o)::m) (fun j i=>by
   rw[List.length_append,List.length_singleton]
   by_cases e:j=acc.length
   ·subst e
    have b:Dw (orM (Dw m acc.length) (DB o)::m) (acc.length+1) acc.length=orM (Dw m acc.length) (DB o):=by
     unfold Dw;rw[Nat.ble_eq_true_of_le (Nat.le_refl _)]
     show (_::m).getD (acc.length+1-1-acc.length) 0=_
     rw[show acc.length+1-1-acc.length=0 by omega];rfl
    rw[b,Rc];have c:(acc++[(DB o).flatMap fun j=>j::acc.getD j []]).getD acc.length []=(DB o).flatMap fun j=>j::acc.getD j []:=by simp
    rw[c,List.mem_flatMap]
    constructor
    ·rintro⟨k,a,h'⟩;exact⟨k,a,List.mem_cons.2 (h'.imp id (h k i).1)⟩
    rintro⟨k,a,h'⟩;exact⟨k,a,(List.mem_cons.1 h').imp id (h k i).2⟩
   rw[Vz e,h]
   by_cases d:j<acc.length
   ·simp only[List.getD_eq_getElem?_getD,List.getElem?_append_left d]
   simp only[List.getD_eq_getElem?_getD];rw[List.getElem?_eq_none (by omega),List.getElem?_eq_none (by simp;omega)])
  rw[List.length_append,List.length_singleton] at this;rw[List.length_cons,show acc.length+(r.length+1)=acc.length+1+r.length by omega];exact this
theorem Et {ops:List Oper} {b:Tr} (h:RV ops b=true):Gr ops b=true:=by
 unfold RV at h;unfold Gr;rw[Bool.and_eq_true] at h ⊢;refine⟨h.1,?_⟩;have a:=PU ops (acc:=[]) (m:=[]) (fun j i=>by unfold Dw;split <;> simp);rw[List.length_nil,Nat.zero_add] at a
 have e:∀j i,((Dg ops []).getD j []).contains i=Nat.testBit (Dw (IL ops [] 0) ops.length j) i:=fun j i=>by
  rw[Bool.eq_iff_iff,List.contains_iff_mem];exact (a j i).symm
 have c:=h.2;unfold RX;simp only[e];exact c
theorem Zv {t:List (List Rat)}:∀{s:List (List Rat)},AQ (s++t)->Aq (s++t) t->s=[]
 | [],_,_=>rfl
 | r::s,h,b=>by
  have a:AQ (r::(s++t)):=h;exact absurd ⟨_,IW s _ (b _ (FI (s++t) r)),Bg a⟩ a.2.2.2
theorem El.up {r:List Rat} (h:AQ (r::u)) (a:El u s x):El (r::u) s x:=by
 have b:El u 0 0:=El.rat h.1 EM;have:=PO h a.mem b.mem a.bd b.bd;rw[show x+0*rt u r=x by grind] at this;exact⟨FJ a.mem,this⟩
theorem El.TS (a:El u s x):∀{v:List (List Rat)},AQ (v++u)->El (v++u) s x
 | [],_=>a
 | _::_,h=>El.up h (El.TS a h.1)
theorem ak {R:Nat} {w:List (List Rat)} (hw:AQ w) (tb:TB R w) (j:w.length<=4) {S:Nat} (hR:R<=60000000000000) (f:R<=S) (g:∀h,h<=4->Fit h R S) (i:∀h,h<=4->C3 h R S) (hM:2*S+EE 4 R<=60000000000000):CH (fun u=>u<:+w) R 0 S:=by
 have hle:∀{u},u<:+w->u.length<=4:=fun {u} h=>Nat.le_trans h.length_le j
 have key:∀{u t},u<:+w->t<:+w->Aq u t->u<:+t:=fun {u t} hu ht a=>by
  rcases List.suffix_or_suffix_of_suffix hu ht with h | h
  ·exact h
  obtain⟨s,rfl⟩:=h;have:=Zv (Fs hu hw) a;rw[this];exact List.suffix_refl _
 refine {AL:=fun {u} h=>⟨Fs h hw,fun r b=>tb r (h.subset b),hR,by have:=hle h;omega⟩,ht:=fun {u} h=>by have:=hle h;omega,nil:=List.nil_suffix,sub:=fun {r u} h=>(List.suffix_cons r u).trans h,Ag:=fun {t r u} ht h a=>?_,BF:=fun {u v s x} hu d a l=>?_,fit:=fun {u} h=>g _ (hle h),mul:=fun {u} h=>?_,RS:=f,GB:=fun {u} h=>i _ (hle h)}
 ·have b:=Fs h hw;have c:=key ((List.suffix_cons r u).trans h) ht a;rcases List.suffix_or_suffix_of_suffix h ht with k | k
  ·rw[DA ⟨_,IY k _ (FI u r),Bg b⟩];exact ht
  rcases List.suffix_cons_iff.1 k with e | k
  ·rw[DA ⟨_,by rw[e];exact FI u r,Bg b⟩];exact ht
  have e:t=u:=TF k c;rw[e,O6 b];exact h
 ·have:=key hu d a;obtain⟨s',rfl⟩:=this;exact (l.TS (Fs d hw)).mono (Nat.le_refl _)
 have:=GZ (h:=u.length) (h':=4) (R:=R) (R':=R) (hle h) (Nat.le_refl _);omega
end Go.Abs
