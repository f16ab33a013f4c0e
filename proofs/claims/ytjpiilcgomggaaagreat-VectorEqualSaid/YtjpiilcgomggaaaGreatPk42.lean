/- Part 43 of a proof. Conditions: each theorem's own. -/
import Derived.Test.YtjpiilcgomggaaaGreatPk41
set_option linter.all false
set_option maxHeartbeats 8000000
open Go.Proofs
namespace Go.Abs
open Go.RowKit
theorem Rw {o:el Bl} {n d:Int} (a:n=Gx o.2.2.2.1) (b:d=((o.2.2.2.2.toNat%8+1:Nat):Int)):EV o=Rat.divInt n d:=by subst a b;rfl
theorem Iu {st:List Nu×Nat} {o:el Bl} (h:st.1=[]\/o.1.toNat%6=0):CA st o=(([],Re.ofRat (EV o)),st.2):=by unfold CA;rw[if_pos h]
theorem GR {st:List Nu×Nat} {o:el Bl} (a:st.1≠[]) (b:o.1.toNat%6≠0):CA st o=Cq (o.1.toNat%6) (Du st.1 o.2.1.toNat) (Du st.1 o.2.2.1.toNat) st.2:=by
 unfold CA;rw[if_neg (fun h=>h.elim a b)]
theorem YE (a b:Nu) (r:Nat):Cq 1 a b r=((Al a.1 b.1,a.2+b.2),r):=by unfold Cq;rw[if_pos rfl]
theorem YI (a b:Nu) (r:Nat):Cq 2 a b r=((Al a.1 b.1,a.2-b.2),r):=by unfold Cq;rw[if_neg (by decide),if_pos rfl]
theorem YH (a b:Nu) (r:Nat):Cq 3 a b r=((Al a.1 b.1,a.2*b.2),r):=by unfold Cq;rw[if_neg (by decide),if_neg (by decide),if_pos rfl]
theorem YG {a b:Nu} (r:Nat) (h:b.2=0):Cq 4 a b r=(a,r):=by unfold Cq;rw[if_neg (by decide),if_neg (by decide),if_neg (by decide),if_pos rfl,if_pos h]
theorem YF {a b:Nu} (r:Nat) (h:b.2≠0):Cq 4 a b r=((Al a.1 b.1,a.2*D7 b.2),r):=by unfold Cq;rw[if_neg (by decide),if_neg (by decide),if_neg (by decide),if_pos rfl,if_neg h]
theorem Rb (a b:Nu) {r:Nat} (h:r<3):Cq 5 a b r=((Aa a.1 (CR a.2),Re.sqrt (CR a.2)),r+1):=by unfold Cq;rw[if_neg (by decide),if_neg (by decide),if_neg (by decide),if_neg (by decide),if_pos h]
theorem Ra (a b:Nu) {r:Nat} (h:¬r<3):Cq 5 a b r=(a,r):=by unfold Cq;rw[if_neg (by decide),if_neg (by decide),if_neg (by decide),if_neg (by decide),if_neg h]
theorem get_eq {ns:List Nu} {i j:Nat} {n:Nu} (h:ns[j]? =some n) (a:j=i%ns.length):Du ns i=n:=by
 unfold Du;rw[List.getD_eq_getElem?_getD,<-a,h];rfl
theorem Qb:∀h,h<=3->II h Rm Rm<=60000000000000
 |0,_|1,_|2,_|3,_=>by decide +kernel
 | _+4,h=>absurd h (by omega)
theorem W9:∀h,h<=3->II h 256 512<=Rm
 |0,_|1,_|2,_|3,_=>by decide +kernel
 | _+4,h=>absurd h (by omega)
section
variable {V:List Re} {ns:List Nu}
theorem BI.tb {n:Nu} (h:BI V n) (a:V.length<=3):TB 256 n.1:=(PN.Dg (ns:=[n]) a (fun m hm=>by rw[List.mem_singleton.1 hm];exact h)).tb (PN.self (List.mem_singleton.2 rfl))
theorem BI.inv {n:Nu} (h:BI V n) (a:V.length<=3) (b:n.2≠0):El n.1 Rm (D7 n.2):=by
 have c:=Nat.le_trans h.len a;have ht:AU 256 n.1:=⟨h.red,h.tb a,by decide,by omega⟩;exact ((h.el a).inv ht (KD h.red h.mem b) (IZ b)).mono (W9 _ c)
theorem BI.abs {n:Nu} (h:BI V n):BI V (n.1,CR n.2):=by
 refine⟨h.red,Qc h.mem,h.A3,h.EU,fun q a=>?_⟩;have a:q∈co n.1 (CR n.2):=a;unfold CR at a
 split at a
 ·rw[IS h.red h.mem] at a;obtain⟨p,b,rfl⟩:=List.mem_map.1 a;have:=h.cos p b;exact⟨by show (-p.num).natAbs<_;rw[Int.natAbs_neg];exact this.1,this.2⟩
 exact h.cos q a
theorem Hq {n:Nu} (h:BI V n) (k:V.length<=2) (f:0<=n.2) {S:Nat} (g:Rm<=S) (i:S<=Sm):CP (Tf fun u=>u<:+Aa n.1 n.2) Rm Cm S/\Tf (fun u=>u<:+Aa n.1 n.2) n.1/\Tf (fun u=>u<:+Aa n.1 n.2) (Aa n.1 n.2):=by
 have j:=Iw h.red h.mem f;have l:=h.len
 have b:TB 256 (Aa n.1 n.2):=by
  by_cases d:Sq n.1 n.2
  ·rw[CY d];exact h.tb (by omega)
  rw[C4 d];intro r a;rcases List.mem_cons.1 a with rfl | a
  ·refine (Ee h.cos).mono ?_;rw[B6 h.mem];have:2^n.1.length<=2^2:=Bh (by omega);omega
  exact h.tb (by omega) r a
 have I:D3 (fun u=>u<:+Aa n.1 n.2) 256:=⟨fun {u} hu=>Fj hu j,fun {u} hu=>fun r a=>b r (hu.subset a),fun {r u} hu=>(List.suffix_cons r u).trans hu⟩;refine⟨MI I (fun {u} hu=>?_) g i,Tf.of I (HE _ _),Tf.of I (List.suffix_refl _)⟩
 have:=hu.len I (V:=n.2::V) (fun {u} hu v c=>by
  rcases LA h.mem v (JB hu v c) with rfl | c
  ·exact List.mem_cons_self
  exact List.mem_cons_of_mem _ (h.A3 v c))
 rw[List.length_cons] at this;omega
theorem WW (d:V.length<=3) (c:∀n∈ns,BI V n) {a b:Nu} (h:a∈ns) (f:b∈ns) {r:Nat}:∃(T A k j:_) (e:Int),CF 86 [.agg [.sl (.sl AA) (tw a.1),.sl AA (em a.1 a.2)],.agg [.sl (.sl AA) (tw b.1),.sl AA (em b.1 b.2)]] (.AG [(true,[.sl (.sl AA) T,.sl AA A]),(false,[.int .i64 e])])/\
  CF 84 [.agg [.sl (.sl AA) T,.sl AA A],.one (.int .i64 e),.agg [.sl (.sl AA) (tw a.1),.sl AA (em a.1 a.2)]] (.agg [.sl (.sl AA) k,.sl AA j])/\k=tw (Cq 4 a b r).1.1/\j=em (Cq 4 a b r).1.1 (Cq 4 a b r).1.2/\(Cq 4 a b r).2=r:=by
 have G:=EP d c (Nat.le_refl Rm) (by decide);have l:=((c a h).el d).mono (by decide:512<=Rm);have m:=((c b f).el d).mono (by decide:512<=Rm)
 by_cases g:b.2=0
 ·rw[YG r g];exact⟨_,_,_,_,_,Ue G (C5 d c h) (C5 d c f) rfl rfl rfl rfl l m g,U8,rfl,rfl,rfl⟩
 rw[YF r g];have i:=Nat.le_trans (c b f).len d;exact⟨_,_,_,_,_,Ud G (C5 d c h) (C5 d c f) rfl rfl rfl rfl l m (KD (c b f).red (c b f).mem g) (IZ g) ((c b f).inv d g) (Qb _ i) rfl rfl,G8,rfl,rfl,rfl⟩
end
theorem XU (x:Nu):Dx [] x=x:=by unfold Dx;rw[if_neg (fun h=>h.1 rfl)]
theorem XT {l:List Nu} {x:Nu} (h:l≠[]) (a:Fv x):Dx l x=l.getLastD Gz:=by unfold Dx;rw[if_pos ⟨h,a⟩]
theorem XV {l:List Nu} {x:Nu} (a:¬Fv x):Dx l x=x:=by unfold Dx;rw[if_neg (fun h=>a h.2)]
theorem Q0 {n:Nu}:JF n.1.reverse (co n.1 n.2)↔Fv n:=by
 unfold JF Fv;simp only[List.mem_reverse]
theorem Qo {l:List Nu} {j:Nat} {n:Nu} (h:l[j]? =some n) (a:j+1=l.length):l.getLastD Gz=n:=by
 rw[List.getLastD_eq_getLast?,List.getLast?_eq_getElem?,show l.length-1=j by omega,h];rfl
theorem SN:∀(xs:List (el Bl)) (st:List Nu×Nat),(xs.foldl Fs st).1.length=st.1.length+xs.length
 | [],_=>rfl
 | o::xs,st=>by
  rw[List.foldl_cons,SN xs (Fs st o),List.length_cons];unfold Fs;rw[List.length_append,List.length_singleton];omega
theorem Sd {x:Re} (h:Ao x<0):x<0:=by rcases DV x with⟨a,b⟩ |⟨a,b⟩ |⟨a,b⟩ <;> first | exact a | (exfalso;omega)
theorem Sc {x:Re} (h:¬Ao x<0):¬x<0:=by rcases DV x with⟨a,b⟩ |⟨a,b⟩ |⟨a,b⟩ <;> first | (exfalso;omega) | (rw[a];exact fun h=>by grind) | (intro h;grind)
theorem OK {X:List (el Bl)} {L:List (el AZ)} (hL:L=(runN (X.take 24)).1.map nm):CF 23 [.one (.sl Bl X)] (.one (.sl AZ L)):=by
 refine AE Tryz.func23 (by kernel_rfl) rfl fun E I=>?_
 conv=>cbv
 refine .inr ?_;obtain⟨J0,aG⟩:=xJ fun vs bl k=>(vs=[.one (.sl Bl X),.one .nil,.one (.int .i64 0),.one (.int .i64 0)]/\bl=[.dead 0]/\k=24)\/(∃(o:List (el AZ)) (n k':Nat) (rr j:Int),vs=[.one (.sl Bl X),.one (.AL AZ 157 0 0 n),.one (.int .i64 rr),.one (.int .i64 j)]/\bl=[.arr 0 AZ o]/\(AK j k'/\k'<=X.length/\k'<=24/\0<k'/\n=o.length)/\(o=(runN (X.take k')).1.map nm/\AK rr (runN (X.take k')).2)/\k=24-k')
 refine⟨[0,3,4,5],[157],J0,⟨24,by rw[aG];exact .inl ⟨rfl,rfl,rfl⟩⟩,?_⟩;intro vs bl dm hj;rw[aG] at hj;rcases hj with⟨rfl,rfl,aI⟩ |⟨o,n,k',rr,j,rfl,rfl,⟨hj,dj,cR,bL,hn⟩,⟨ho,f⟩,aI⟩
 ·conv=>cbv
  obtain⟨k',aI⟩:=xN 0;obtain⟨S,V,hV,c⟩:=NN (X.take k');obtain⟨st,B⟩:∃s,s=runN (X.take k'):=⟨_,rfl⟩
  rw[<-B] at S hV c;have aa:st.1=[]:=by rw[B,aI];rfl
  have bP:st.2=0:=by rw[B,aI];rfl
  rintro cB ⟨c6,f22⟩;conv=>cbv
  intro bg af;conv=>cbv
  cases bg <;> conv=>cbv
  ·have bd:=AR af;exact fA ⟨⟨rfl,.inr (.inl ⟨_,congrArg _ (by rw[hL,show X.take 24=[] by rw[List.take_eq_nil_iff];right;exact List.eq_nil_of_length_eq_zero (by omega)];rfl)⟩),trivial⟩,trivial⟩ rfl (by simp)
  have bd:=AS af;intro c2 aD;cases aD.trans (show _=true by decide);conv=>cbv
  refine .inr ?_;obtain⟨a,F⟩:=AF (l:=X) (i:=0) (by omega);refine⟨a,fun _=>⟨by omega,F⟩,?_⟩;try conv=>cbv
  intro bj ag;have b2:=ag.eq;have f33:=ag.lt;conv=>cbv
  intro ay P;have ae:=P.eq;have bu:=P.lt;conv=>cbv
  intro a7 A;have Z:=A.eq;have b3:=A.lt;conv=>cbv
  intro O u;have H:=u.eq;have aC:=u.lt;conv=>cbv
  have cr:bj=((a.1.toNat:Nat):Int):=b2;have ct:ay=((a.2.1.toNat:Nat):Int):=ae;have cu:a7=((a.2.2.1.toNat:Nat):Int):=Z;have cv:O=((a.2.2.2.2.toNat:Nat):Int):=H;intro bk a1;conv=>cbv
  have a1:=wrap_i64 a1;have ah:bk=Gx a.2.2.2.1:=a1;intro cC c8;conv=>cbv
  refine g2 (by omega) ?_;intro cD ai;conv=>cbv
  have ai:=wrap_i64 ai;intro bm c9;conv=>cbv
  refine g1 (by omega) ?_;obtain⟨aJ,U⟩:=BB (em [] (Re.ofRat (EV a)));have cw:=Np a.2.2.2.1;refine cL (r:= .agg [.sl (.sl AA) (([]:List LR)),.sl AA aJ]) I (OP (q:=EV a) (by omega) (by omega) (by omega) (Rw ah (by show bm=((a.2.2.2.2.toNat%8+1:Nat):Int);omega)) U) t2 ?_;try conv=>cbv
  intro c3 aE;cases aE.trans (show _=false by decide);conv=>cbv
  refine .inr ?_;intro aX a8;cases a8.trans (show _=false by decide);conv=>cbv
  refine .inr ?_;obtain⟨_,b1,ck,aQ,bc⟩:=It (st:=st) ⟨S,V,hV,c⟩ a;have cl:b1.length<=8:=by have:=(It (st:=st) ⟨S,V,hV,c⟩ a).1;omega
  have v:=Ma (l:=[]) (x:=(CA st a).1) (fun n hn=>by simp at hn) bc (fun he=>by rw[Iu (.inl aa)];exact NB a);obtain⟨kk,a6⟩:∃z:Nu,z=Dx [] (CA st a).1:=⟨_,rfl⟩
  rw[<-a6] at v;have t:=K7 v.red v.mem;have bM:kk=([],Re.ofRat (EV a)):=by rw[a6,XU,Iu (.inl aa)]
  have cj:(([]:List LR):List LR)=tw kk.1:=by rw[bM];rfl
  have ch:aJ=em kk.1 kk.2:=by rw[bM];exact U
  obtain⟨y,D⟩:=B9 (tw (DX kk).1);obtain⟨w,C⟩:=BB (em (DX kk).1 (DX kk).2);refine cL (r:= .agg [.sl (.sl AA) y,.sl AA w]) I (Lc v.red v.mem (by have:=v.len;omega) (by rw[t.1,t.2.2]) cj ch D (by rw[C,t.2.2])) ⟨t2,trivial⟩ ?_;try conv=>cbv
  refine⟨[(y,w)],fun _=>⟨rfl,by decide,rfl,⟨rfl,by first | exact t1 | exact t2 | exact t4 | simp[Ae,Ak,cells],trivial⟩⟩,.inr ?_⟩;try conv=>cbv
  refine .inl ⟨[(y,w)],fun _=>⟨rfl,by show (1)*48<=140737488355328;(try simp only[List.length_take,List.length_drop]);omega⟩,?_⟩;intro aY bz;conv=>cbv
  intro bh c7;conv=>cbv
  refine g1 (by omega) ?_;refine⟨24-(k'+1),?_,?_⟩
  ·omega
  rw[aG];have G:X[k']? =some a:=by (first | exact F | (rw[<-F];congr 1 <;> omega))
  refine .inr ⟨_,_,k'+1,0,bh,rfl,rfl,⟨⟨by omega⟩,by have:=GA G;omega,by omega,by omega,bz⟩,?_,rfl⟩;rw[BG (x:=a) G,SI,<-B];refine⟨by rw[Fs,aa,List.nil_append,<-a6,D,C];rfl,?_⟩
  show AK 0 (CA st a).2
  rw[Iu (.inl aa),bP];exact Ai 0
 conv=>cbv
 have ej:=hj.eq;have aB:=f.eq;obtain⟨S,V,hV,c⟩:=NN (X.take k');obtain⟨st,B⟩:∃s,s=runN (X.take k'):=⟨_,rfl⟩
 rw[<-B] at S hV c;rw[<-B] at ho f aB;have hlen:st.1.length=k':=by rw[B,runN,SN,List.length_nil,List.length_take];omega
 have dk:o.length=k':=by rw[ho,List.length_map,hlen]
 have N:st.1≠[]:=fun e=>by rw[e] at hlen;simp at hlen;omega
 have g:=Nat.le_trans hV S;rintro cB ⟨c6,f22⟩;conv=>cbv
 intro bg af;conv=>cbv
 cases bg <;> conv=>cbv
 ·have bd:=AR af;exact fA ⟨⟨rfl,.inl ⟨_,rfl,by omega,congrArg _ (by have e:X.take 24=X.take k':=(by first | rw[show k'=24 by omega] | rw[List.take_of_length_le (by omega),List.take_of_length_le (by omega)]);rw[hL,hn,List.drop_zero,List.take_length,ho,B,e])⟩,trivial⟩,trivial⟩ rfl (by simp)
 have bd:=AS af;intro c2 aD;conv=>cbv
 cases c2 <;> conv=>cbv
 ·have cx:=AR aD;exact fA ⟨⟨rfl,.inl ⟨_,rfl,by omega,congrArg _ (by have e:X.take 24=X.take k':=(by first | rw[show k'=24 by omega] | rw[List.take_of_length_le (by omega),List.take_of_length_le (by omega)]);rw[hL,hn,List.drop_zero,List.take_length,ho,B,e])⟩,trivial⟩,trivial⟩ rfl (by simp)
 have cx:=AS aD;refine .inr ?_;obtain⟨a,F⟩:=AF (l:=X) (i:=k') (by omega);refine⟨a,fun _=>⟨by omega,by rw[show (j).toNat=k' by omega];exact F⟩,?_⟩;try conv=>cbv
 intro bj ag;have b2:=ag.eq;have f33:=ag.lt;conv=>cbv
 intro ay P;have ae:=P.eq;have bu:=P.lt;conv=>cbv
 intro a7 A;have Z:=A.eq;have b3:=A.lt;conv=>cbv
 intro O u;have H:=u.eq;have aC:=u.lt;conv=>cbv
 have cr:bj=((a.1.toNat:Nat):Int):=b2;have ct:ay=((a.2.1.toNat:Nat):Int):=ae;have cu:a7=((a.2.2.1.toNat:Nat):Int):=Z;have cv:O=((a.2.2.2.2.toNat:Nat):Int):=H;intro bk a1;conv=>cbv
 have a1:=wrap_i64 a1;have ah:bk=Gx a.2.2.2.1:=a1;intro cC c8;conv=>cbv
 refine g2 (by omega) ?_;intro cD ai;conv=>cbv
 have ai:=wrap_i64 ai;intro bm c9;conv=>cbv
 refine g1 (by omega) ?_;obtain⟨aJ,U⟩:=BB (em [] (Re.ofRat (EV a)));have cw:=Np a.2.2.2.1;refine cL (r:= .agg [.sl (.sl AA) (([]:List LR)),.sl AA aJ]) I (OP (q:=EV a) (by omega) (by omega) (by omega) (Rw ah (by show bm=((a.2.2.2.2.toNat%8+1:Nat):Int);omega)) U) t2 ?_;try conv=>cbv
 intro dn ca;have db:=ca.eq;conv=>cbv
 intro c3 aE;conv=>cbv
 cases c3 <;> conv=>cbv
 ·have bY:=BZ aE;exact absurd bY (by omega)
 have bY:=Ba aE;intro dp dh;conv=>cbv
 refine g2 (by omega) ?_;intro cE bA;conv=>cbv
 obtain⟨c5,m⟩:=xK fun vs bl=>∃(T7:List LR) (A7:LR) (r7:Int),vs=[.one (.sl Bl X),.one (.AL AZ 157 0 0 n),.one (.int .i64 r7),.one (.int .i64 j),.one (.An 7 0 0)]/\bl=[.var 0 [.sl (.sl AA) T7,.sl AA A7],.arr 0 AZ o]/\(T7=tw (CA st a).1.1/\A7=em (CA st a).1.1 (CA st a).1.2)/\AK r7 (CA st a).2
 refine .inl ⟨[0,3,4,5,7],[7,157],c5,?_,?_⟩
 ·intro vs bl hj;rw[m] at hj;obtain⟨T7,A7,r7,rfl,rfl,⟨bH,bF⟩,bN⟩:=hj;conv=>cbv
  have dg:=bN.eq;intro cU bw;have cO:=bw.eq;conv=>cbv
  intro aX a8;conv=>cbv
  cases aX <;> conv=>cbv
  ·have aW:=BZ a8;exact absurd aW (by omega)
  have aW:=Ba a8;obtain⟨bt,a5⟩:=CZ (JF (CA st a).1.1.reverse (co (CA st a).1.1 (CA st a).1.2));refine cL I (U7 bH bF a5) ⟨t2,trivial⟩ ?_;try conv=>cbv
  obtain⟨bs,a2⟩:=xK fun vs bl=>∃(T8:List LR) (A8:LR),vs=[.one (.sl Bl X),.one (.AL AZ 157 0 0 n),.one (.int .i64 r7),.one (.int .i64 j),.one (.An 7 0 0)]/\bl=[.var 0 [.sl (.sl AA) T8,.sl AA A8],.arr 0 AZ o]/\(T8=tw (Dx st.1 (CA st a).1).1/\A8=em (Dx st.1 (CA st a).1).1 (Dx st.1 (CA st a).1).2)
  refine .inl ⟨[0,3,4,5,7],[7,157],bs,?_,?_⟩
  ·intro vs bl hj;rw[a2] at hj;obtain⟨T8,A8,rfl,rfl,bI,bG⟩:=hj;conv=>cbv
   obtain⟨_,b1,ck,aQ,bc⟩:=It (st:=st) ⟨S,V,hV,c⟩ a;have cl:b1.length<=8:=by have:=(It (st:=st) ⟨S,V,hV,c⟩ a).1;omega
   have v:=Ma (l:=st.1) (x:=(CA st a).1) aQ bc (fun he=>by rw[Iu (.inl he)];exact NB a);obtain⟨kk,a6⟩:∃z:Nu,z=Dx st.1 (CA st a).1:=⟨_,rfl⟩
   rw[<-a6] at v;have t:=K7 v.red v.mem;rw[<-a6] at bI bG;obtain⟨y,D⟩:=B9 (tw (DX kk).1);obtain⟨w,C⟩:=BB (em (DX kk).1 (DX kk).2);refine cL (r:= .agg [.sl (.sl AA) y,.sl AA w]) I (Lc v.red v.mem (by have:=v.len;omega) (by rw[t.1,t.2.2]) bI bG D (by rw[C,t.2.2])) ⟨t2,trivial⟩ ?_;try conv=>cbv
   refine⟨[(y,w)],fun _=>⟨rfl,by decide,rfl,⟨rfl,by first | exact t1 | exact t2 | exact t4 | simp[Ae,Ak,cells],trivial⟩⟩,.inr ?_⟩;try conv=>cbv
   refine .inl ⟨[(y,w)],fun _=>⟨rfl,by (first | rfl | omega),rfl,by show (o.length+1)*48<=140737488355328;(try simp only[List.length_take,List.length_drop]);omega⟩,?_⟩;intro (ax:List (el AZ)) aY az;have b8:ax=(o:List (el AZ))++([(y,w)]:List (el AZ)):=az.1;have ba:aY=List.length (α:=(el AZ)) ax:=az.2;conv=>cbv
   intro bh c7;conv=>cbv
   refine g1 (by omega) ?_;refine⟨24-(k'+1),?_,?_⟩
   ·omega
   rw[aG];have G:X[k']? =some a:=by (first | exact F | (rw[<-F];congr 1 <;> omega))
   refine .inr ⟨ax,_,k'+1,r7,bh,rfl,rfl,⟨⟨by omega⟩,by have:=GA G;omega,by omega,by omega,ba⟩,?_,rfl⟩;rw[BG (x:=a) G,SI,<-B];exact⟨by rw[b8,ho,Fs,List.map_append,<-a6,D,C];rfl,bN⟩
  cases bt <;> conv=>cbv
  ·rw[a2];refine⟨_,_,rfl,rfl,?_⟩ <;> rw[XV (fun hl=>Bool.false_ne_true (a5.2 (Q0.2 hl)))]
   exact⟨bH,bF⟩
  intro cV bx;have cP:=bx.eq;conv=>cbv
  intro cW cQ;conv=>cbv
  refine g1 (by omega) ?_;refine g2 (by omega) ?_;intro bS cm;conv=>cbv
  obtain⟨c4,aw⟩:=AF (l:=o) (i:=bS) (by omega);refine⟨c4,fun _=>aw,?_⟩;try conv=>cbv
  rw[a2];obtain⟨u3,y3,bQ,bR,cq⟩:=Cy ho aw;refine⟨_,_,rfl,rfl,?_⟩ <;> rw[XT N (Q0.1 (a5.1 rfl)),Qo cq (by omega)]
  exact⟨bQ,bR⟩
 cases cE <;> conv=>cbv
 ·have cy:=DK bA;rw[m];refine⟨_,_,_,rfl,rfl,?_,?_⟩ <;> rw[Iu (.inr (by omega))]
  ·exact⟨rfl,U⟩
  exact f
 have cy:=DL bA;intro cF bB;conv=>cbv
 have bB:=wrap_i64 bB;intro cG cb;have dc:=cb.eq;conv=>cbv
 intro cH cc;conv=>cbv
 refine g2 (by omega) ?_;obtain⟨d58,bJ,dd,cn⟩:∃d:Nat,d=a.2.1.toNat%k'/\cH=d/\d<k':=⟨_,rfl,by rw[cc,show cF=((a.2.1.toNat:Nat):Int) by omega,show cG=(k':Int) by omega];exact (Int.natCast_emod _ _).symm,Nat.mod_lt _ bL⟩
 refine g2 (by omega) ?_;intro bT cS;conv=>cbv
 obtain⟨aA,aU⟩:=AF (l:=o) (i:=bT) (by omega);refine⟨aA,fun _=>aU,?_⟩;try conv=>cbv
 intro cI bC;conv=>cbv
 have bC:=wrap_i64 bC;intro cJ cd;have de:=cd.eq;conv=>cbv
 intro cK cf;conv=>cbv
 refine g2 (by omega) ?_;obtain⟨d67,bK,df,cp⟩:∃d:Nat,d=a.2.2.1.toNat%k'/\cK=d/\d<k':=⟨_,rfl,by rw[cf,show cI=((a.2.2.1.toNat:Nat):Int) by omega,show cJ=(k':Int) by omega];exact (Int.natCast_emod _ _).symm,Nat.mod_lt _ bL⟩
 refine g2 (by omega) ?_;intro bU cT;conv=>cbv
 obtain⟨br,aV⟩:=AF (l:=o) (i:=bU) (by omega);refine⟨br,fun _=>aV,?_⟩;try conv=>cbv
 refine g2 rfl ?_;obtain⟨u1,Y,h,p,K⟩:=Cy ho aU;obtain⟨u2,y2,ab,ad,M⟩:=Cy ho aV;have J:=List.mem_of_getElem? K;have ao:=List.mem_of_getElem? M;have Q:bT=a.2.1.toNat%st.1.length:=by rw[hlen,<-bJ];omega
 have R:bU=a.2.2.1.toNat%st.1.length:=by rw[hlen,<-bK];omega
 have an:=((c _ J).el g).mono (by decide:512<=Rm);have b5:=((c _ ao).el g).mono (by decide:512<=Rm);intro dq di;conv=>cbv
 refine g2 (by omega) ?_;refine .inr ?_;intro cN bE;conv=>cbv
 refine .inr ?_;cases cN <;> conv=>cbv
 ·have cA:=Ac bE;intro bZ aN;conv=>cbv
  refine .inr ?_;cases bZ <;> conv=>cbv
  ·have bV:=Ac aN;intro c0 aO;conv=>cbv
   refine .inr ?_;cases c0 <;> conv=>cbv
   ·have bW:=Ac aO;intro c1 aP;conv=>cbv
    refine .inr ?_;cases c1 <;> conv=>cbv
    ·have bX:=Ac aP;obtain⟨dr,bO⟩:=xI (Ao Y);refine cL I (JP (EP g c (Nat.le_refl Rm) (by decide)) (C5 g c J) h p an bO) ⟨t2,trivial⟩ ?_;try conv=>cbv
     intro cM bD;conv=>cbv
     refine .inr ?_;cases cM <;> conv=>cbv
     ·have cz:=AR bD;intro bn aj;conv=>cbv
      refine .inr ?_;cases bn <;> conv=>cbv
      ·have bf:=AR aj;rw[m];have b:=GR (o:=a) N (by omega:a.1.toNat%6≠0);rw[get_eq K Q,get_eq M R] at b;rw[show a.1.toNat%6=5 by omega,Ra _ _ (by omega)] at b;refine⟨_,_,_,rfl,rfl,?_,?_⟩ <;> rw[b]
       ·exact⟨h,p⟩
       exact f
      have bf:=AS aj;intro bo cg;conv=>cbv
      refine g1 (by omega) ?_;have ak:=(c _ J).abs;have al:CR Y=Y:=by unfold CR;rw[if_neg (Sc (by omega))]
      obtain⟨hG,b6,b7⟩:=Hq ak (by omega) (HB _) (Nat.le_refl Rm) (by decide);obtain⟨bq,W⟩:=B9 (tw (Aa u1 (CR Y)));obtain⟨bp,T⟩:=BB (em (Aa u1 (CR Y)) (Re.sqrt (CR Y)));refine cL (r:= .AG [(true,[.sl (.sl AA) bq,.sl AA bp]),(false,[.int .i64 0])]) I (OR hG b6 h (by show _=em u1 (CR Y);rw[al];exact p) ((ak.el g).mono (by decide)) b7 (HB _) W T) ⟨t2,trivial⟩ ?_;try conv=>cbv
      refine cL I G8 ⟨t2,rfl,t2,trivial⟩ ?_;try conv=>cbv
      rw[m];have b:=GR (o:=a) N (by omega:a.1.toNat%6≠0);rw[get_eq K Q,get_eq M R] at b;rw[show a.1.toNat%6=5 by omega,Rb _ _ (by omega)] at b;refine⟨_,_,_,rfl,rfl,?_,?_⟩ <;> rw[b]
      ·exact⟨W,T⟩
      exact⟨by show bo=((st.2+1:Nat):Int);omega⟩
     have cz:=AS bD;obtain⟨ds,aR⟩:=BB (em u1 (-Y));refine cL I (OQ (EP g c (Nat.le_refl Rm) (by decide)) (C5 g c J) h p an aR) ⟨t2,trivial⟩ ?_;try conv=>cbv
     intro bn aj;conv=>cbv
     refine .inr ?_;cases bn <;> conv=>cbv
     ·have bf:=AR aj;rw[m];have b:=GR (o:=a) N (by omega:a.1.toNat%6≠0);rw[get_eq K Q,get_eq M R] at b;rw[show a.1.toNat%6=5 by omega,Ra _ _ (by omega)] at b;refine⟨_,_,_,rfl,rfl,?_,?_⟩ <;> rw[b]
      ·exact⟨h,p⟩
      exact f
     have bf:=AS aj;intro bo cg;conv=>cbv
     refine g1 (by omega) ?_;have ak:=(c _ J).abs;have al:CR Y= -Y:=by unfold CR;rw[if_pos (Sd (by omega))]
     obtain⟨hG,b6,b7⟩:=Hq ak (by omega) (HB _) (Nat.le_refl Rm) (by decide);obtain⟨bq,W⟩:=B9 (tw (Aa u1 (CR Y)));obtain⟨bp,T⟩:=BB (em (Aa u1 (CR Y)) (Re.sqrt (CR Y)));refine cL (r:= .AG [(true,[.sl (.sl AA) bq,.sl AA bp]),(false,[.int .i64 0])]) I (OR hG b6 h (by show _=em u1 (CR Y);rw[al];exact aR) ((ak.el g).mono (by decide)) b7 (HB _) W T) ⟨t2,trivial⟩ ?_;try conv=>cbv
     refine cL I G8 ⟨t2,rfl,t2,trivial⟩ ?_;try conv=>cbv
     rw[m];have b:=GR (o:=a) N (by omega:a.1.toNat%6≠0);rw[get_eq K Q,get_eq M R] at b;rw[show a.1.toNat%6=5 by omega,Rb _ _ (by omega)] at b;refine⟨_,_,_,rfl,rfl,?_,?_⟩ <;> rw[b]
     ·exact⟨W,T⟩
     exact⟨by show bo=((st.2+1:Nat):Int);omega⟩
    have bX:=Ad aP;obtain⟨aL,aK,b0,aZ,aM,b4,b9,aH,aF,bb⟩:=WW g c J ao (r:=st.2);refine .inl ⟨[.agg [.sl (.sl AA) aA.1,.sl AA aA.2],.agg [.sl (.sl AA) br.1,.sl AA br.2]],.AG [(true,[.sl (.sl AA) aL,.sl AA aK]),(false,[.int .i64 aM])],fun _=>⟨t2,t2,trivial⟩,fun _=>Ez I (by rw[h,p,ab,ad];exact b4),?_⟩;try conv=>cbv
    refine .inl ⟨[.agg [.sl (.sl AA) aL,.sl AA aK],.one (.int .i64 aM),.agg [.sl (.sl AA) aA.1,.sl AA aA.2]],.agg [.sl (.sl AA) b0,.sl AA aZ],fun _=>⟨t2,rfl,t2,trivial⟩,fun _=>Ez I (by rw[h,p];exact b9),?_⟩;try conv=>cbv
    rw[m];have b:=GR (o:=a) N (by omega:a.1.toNat%6≠0);rw[get_eq K Q,get_eq M R] at b;rw[show a.1.toNat%6=4 by omega] at b;refine⟨_,_,_,rfl,rfl,?_,?_⟩ <;> rw[b]
    ·exact⟨aH,aF⟩
    rw[bb];exact f
   have bW:=Ad aO;obtain⟨da,av⟩:=B9 (tw (Al u1 u2));obtain⟨cY,ar⟩:=BB (em (Al u1 u2) (Y*y2));refine cL I (JO (EP g c (Nat.le_refl Rm) (by decide)) (C5 g c J) (C5 g c ao) h ab p ad an b5 av ar) ⟨t2,t2,trivial⟩ ?_;try conv=>cbv
   refine cL I G8 ⟨t2,rfl,t2,trivial⟩ ?_;try conv=>cbv
   rw[m];have b:=GR (o:=a) N (by omega:a.1.toNat%6≠0);rw[get_eq K Q,get_eq M R] at b;rw[show a.1.toNat%6=3 by omega,YH] at b;refine⟨_,_,_,rfl,rfl,?_,?_⟩ <;> rw[b]
   ·exact⟨av,ar⟩
   exact f
  have bV:=Ad aN;obtain⟨cZ,au⟩:=B9 (tw (Al u1 u2));obtain⟨cX,aq⟩:=BB (em (Al u1 u2) (Y-y2));refine cL I (OS (EP g c (Nat.le_refl Rm) (by decide)) (C5 g c J) (C5 g c ao) h ab p ad an b5 au aq) ⟨t2,t2,trivial⟩ ?_;try conv=>cbv
  refine cL I G8 ⟨t2,rfl,t2,trivial⟩ ?_;try conv=>cbv
  rw[m];have b:=GR (o:=a) N (by omega:a.1.toNat%6≠0);rw[get_eq K Q,get_eq M R] at b;rw[show a.1.toNat%6=2 by omega,YI] at b;refine⟨_,_,_,rfl,rfl,?_,?_⟩ <;> rw[b]
  ·exact⟨au,aq⟩
  exact f
 have cA:=Ad bE;obtain⟨du,aT⟩:=B9 (tw (Al u1 u2));obtain⟨dt,aS⟩:=BB (em (Al u1 u2) (Y+y2));refine cL I (OO (EP g c (Nat.le_refl Rm) (by decide)) (C5 g c J) (C5 g c ao) h ab p ad an b5 aT aS) ⟨t2,t2,trivial⟩ ?_;try conv=>cbv
 refine cL I G8 ⟨t2,rfl,t2,trivial⟩ ?_;try conv=>cbv
 rw[m];have b:=GR (o:=a) N (by omega:a.1.toNat%6≠0);rw[get_eq K Q,get_eq M R] at b;rw[show a.1.toNat%6=1 by omega,YE] at b;refine⟨_,_,_,rfl,rfl,?_,?_⟩ <;> rw[b]
 ·exact⟨aT,aS⟩
 exact f
end Go.Abs
namespace Go.Abs
def qn (k:Nat):Re:=Re.ofRat ((k:Nat):Rat)
noncomputable def A6 (k:Nat):Nu:=(Aa [] (qn k),Re.sqrt (qn k))
noncomputable def MT (k:Nat):Nu:=([],qn k)
theorem ND:AQ []:=trivial
theorem ES (k:Nat) (u:List (List Rat)):In u (qn k):=FY _ u
theorem DU (k:Nat):0<=qn k:=by
 have:Re.ofRat 0<=Re.ofRat ((k:Nat):Rat):=Re.Ip.2 Rat.natCast_nonneg;exact this
theorem ED {k:Nat} (h:k<18446744073709551616):Bf ((k:Nat):Rat):=by
 refine⟨?_,?_⟩
 ·rw[show ((k:Nat):Rat).num=(k:Int) from rfl,Int.natAbs_natCast];exact h
 rw[show ((k:Nat):Rat).den=1 from rfl];decide
theorem Y8 {n:Int} (h:n.natAbs<18446744073709551616):Bf ((n:Int):Rat):=⟨h,by rw[show ((n:Int):Rat).den=1 from rfl];decide⟩
theorem Qf {k:Nat} (h:k<18446744073709551616):BI [] (MT k):=
 ⟨trivial,ES k [],fun v c=>by simp[MT,A3] at c,fun s b=>by simp[MT] at b,fun q a=>by
  have a:q∈co [] (qn k):=a;rw[qn,Bn] at a;rw[List.mem_singleton.1 a];exact ED h⟩
theorem Cs {k:Nat} (h:k<18446744073709551616):BI [qn k] (A6 k):=by
 have g:=DU k;refine⟨Iw ND (ES k []) g,Lk (ES k []) g,fun v i=>?_,fun s d q b=>?_,fun q b=>?_⟩
 ·rcases LA (ES k []) v i with rfl | i
  ·exact List.mem_singleton.2 rfl
  simp[A3] at i
 ·have d:s∈Aa [] (qn k):=d
  by_cases a:Sq [] (qn k)
  ·rw[CY a] at d;simp at d
  rw[C4 a] at d;rw[List.mem_singleton.1 d,qn,Bn] at b;rw[List.mem_singleton.1 b];exact ED h
 have b:q∈co (Aa [] (qn k)) (Re.sqrt (qn k)):=b
 by_cases a:Sq [] (qn k)
 ·rw[CY a] at b;obtain⟨r,j⟩:=Bb.1 ((Hv g).1 a);rw[j,Bn] at b;rw[List.mem_singleton.1 b]
  have c:r*r=((k:Int):Rat):=by
   have:=Re.CB g;rw[j,<-Re.ofRat_mul] at this;exact Re.Ff.1 this
  obtain⟨m,hm⟩:=MU c;rw[hm];refine Y8 ?_;rw[hm,<-Rat.intCast_mul] at c;have o:m*m=(k:Int):=Rat.intCast_inj.1 c
  have p:m.natAbs*m.natAbs=k:=by
   have:=congrArg Int.natAbs o;rwa [Int.natAbs_mul,Int.natAbs_natCast] at this
  have t:m.natAbs<=m.natAbs*m.natAbs:=by
   rcases Nat.eq_zero_or_pos m.natAbs with e | e
   ·omega
   exact Nat.le_mul_of_pos_left _ e
  omega
 have f:=Kj ND (ES k []) (by
  have:qn k≠0:=fun e=>a ⟨0,BM [],by rw[e];grind⟩
  grind) a
 rw[C4 a,<-Gs (ES k [])] at b;rw[CT f (BM []) (MR []) (show rt [] (co [] (qn k))=0+1*rt [] (co [] (qn k)) by grind)] at b;have l:co [] (0:Re)=[0]:=Bn 0;have n:co [] (1:Re)=[1]:=Bn 1;rw[l,n] at b;rcases List.mem_cons.1 b with rfl | b
 ·exact ED (k:=0) (by decide)
 rw[List.mem_singleton.1 b];exact ED (k:=1) (by decide)
theorem HY (u:List (List Rat)):Al [] u=u:=by
 show CJ (CJ [] []) u=u
 rw[join_self];unfold CJ
 split
 ·rename_i h;exact (List.suffix_nil.1 h).symm
 rw[if_pos (List.nil_suffix)]
theorem KF (u:List (List Rat)):Al u u=u:=by
 show CJ (CJ [] u) u=u
 have:CJ [] u=u:=by
  unfold CJ
  split
  ·rename_i h;exact (List.suffix_nil.1 h).symm
  rw[if_pos (List.nil_suffix)]
 rw[this,join_self]
theorem X8 {k m:Nat} (b:m*m<k) (c:k<(m+1)*(m+1)):¬Sq [] (qn k):=by
 rw[qn,NZ]
 rintro⟨r,_,a⟩
 have a:r*r=((k:Int):Rat):=a;obtain⟨n,g⟩:=MU a;rw[g,<-Rat.intCast_mul] at a;have d:n*n=(k:Int):=Rat.intCast_inj.1 a
 have f:n.natAbs*n.natAbs=k:=by
  have:=congrArg Int.natAbs d;rwa [Int.natAbs_mul,Int.natAbs_natCast] at this
 rw[<-f] at b c;have h:=Nat.mul_self_lt_mul_self_iff.1 b;have i:=Nat.mul_self_lt_mul_self_iff.1 c;omega
theorem Yp {a b:Re} (c:0<=a) (d:0<=b):Re.sqrt a*Re.sqrt b=Re.sqrt (a*b):=by
 have g:=Re.CB c;have h:=Re.CB d;have f:=Re.CB (Re.Hj c d);refine Re.Fq (Re.Hj (Re.DO a) (Re.DO b)) (Re.DO _) ?_;rw[f];grind
theorem Rt (a b:Nat):qn (a*b)=qn a*qn b:=by
 rw[qn,EL,Re.ofRat_mul];rfl
theorem YW (a b:Nat):qn (a+b)=qn a+qn b:=by
 rw[qn,Rat.natCast_add,Re.ofRat_add];rfl
theorem CB (k:Nat):Re.sqrt (qn (k*k))=qn k:=by
 refine Re.Fq (Re.DO _) (DU k) ?_;rw[Re.CB (DU _),Rt]
theorem Nb (a b:Nat):Re.sqrt (qn (a*b))=Re.sqrt (qn a)*Re.sqrt (qn b):=by
 rw[Yp (DU a) (DU b),Rt]
noncomputable def Ca:Re:=qn 5+qn 2*Re.sqrt (qn 6)
theorem u6:Aa [] (qn 6)=[[6]]:=by
 rw[C4 (X8 (k:=6) (m:=2) (by decide) (by decide)),qn,Bn];rfl
theorem Iv:AQ [[6]]:=by rw[<-u6];exact (Cs (k:=6) (by decide)).red
theorem SG:rt [] [6]=Re.sqrt (qn 6):=by
 have:=Gs (u:=[]) (v:=qn 6) (ES 6 []);rw[qn,Bn] at this;exact this
theorem MQ:In [[6]] Ca:=Bo.2 ⟨qn 5,qn 2,ES 5 [],ES 2 [],by rw[SG];rfl⟩
theorem Ph:co [[6]] Ca=[5,2]:=by
 rw[CT Iv (ES 5 []) (ES 2 []) (show Ca=qn 5+qn 2*rt [] [6] by rw[SG];rfl),qn,qn,Bn,Bn];rfl
theorem F9:0<=Ca:=by
 have a:=DU 5;have b:=Re.Hj (DU 2) (Re.DO (qn 6));unfold Ca;grind
theorem FG:BI [qn 6] ([[6]],Ca):=by
 have b:=Cs (k:=6) (by decide);refine⟨Iv,MQ,?_,?_,fun q a=>?_⟩
 ·have:=b.A3;rw[A6,u6] at this;exact this
 ·have:=b.EU;rw[A6,u6] at this;exact this
 have a:q∈co [[6]] Ca:=a;rw[Ph] at a;rcases List.mem_cons.1 a with rfl | a
 ·exact ED (k:=5) (by decide)
 rw[List.mem_singleton.1 a];exact ED (k:=2) (by decide)
theorem RF:Re.sqrt Ca=Re.sqrt (qn 2)+Re.sqrt (qn 3):=by
 have c:=Re.CB (DU 2);have d:=Re.CB (DU 3);have f:=Re.DO (qn 2);have g:=Re.DO (qn 3);refine Re.Fq (Re.DO _) (by grind) ?_;rw[Re.CB F9,Ca,show (6:Nat)=2*3 from rfl,Nb 2 3];have b:qn 5=qn 2+qn 3:=YW 2 3;have a:qn 2=2:=rfl
 grind
def PA (u:List (List Rat)):Prop:=u<:+Aa [[6]] Ca\/u<:+Aa [] (qn 2)\/u<:+Aa [] (qn 3)
theorem PA.Dg:D3 PA 256:=by
 have i:=Iw Iv MQ F9;have c:=(Cs (k:=2) (by decide)).red;have d:=(Cs (k:=3) (by decide)).red
 have t2:TB 256 (Aa [] (qn 2)):=by
  intro r a;refine (Ee ((Cs (k:=2) (by decide)).EU r a)).mono ?_;have:=Is c a;have h:=(Cs (k:=2) (by decide)).len;have:2^(A6 2).1.length<=2^1:=Bh h;have:(2:Nat)^1=2:=rfl;have e:(A6 2).1=Aa [] (qn 2):=rfl;rw[e] at*;omega
 have t3:TB 256 (Aa [] (qn 3)):=by
  intro r a;refine (Ee ((Cs (k:=3) (by decide)).EU r a)).mono ?_;have:=Is d a;have h:=(Cs (k:=3) (by decide)).len;have:2^(A6 3).1.length<=2^1:=Bh h;have:(2:Nat)^1=2:=rfl;have e:(A6 3).1=Aa [] (qn 3):=rfl;rw[e] at*;omega
 have f:∀q∈([6]:List Rat),Bf q:=fun q g=>by rw[List.mem_singleton.1 g];exact ED (k:=6) (by decide)
 have t1:TB 256 (Aa [[6]] Ca):=by
  by_cases b:Sq [[6]] Ca
  ·rw[CY b];intro r a;rw[List.mem_singleton.1 a];exact (Ee f).mono (by decide)
  rw[C4 b];intro r a;rcases List.mem_cons.1 a with rfl | a
  ·exact (Ee FG.cos).mono (by show 64*(co [[6]] Ca).length<=256;rw[Ph];decide)
  rw[List.mem_singleton.1 a];exact (Ee f).mono (by decide)
 refine⟨fun {u} h=>?_,fun {u} h=>?_,fun {r u} h=>?_⟩
 ·rcases h with h | h | h
  ·exact Fj h i
  ·exact Fj h c
  exact Fj h d
 ·rcases h with h | h | h
  ·exact fun r a=>t1 r (h.subset a)
  ·exact fun r a=>t2 r (h.subset a)
  exact fun r a=>t3 r (h.subset a)
 rcases h with h | h | h
 ·exact .inl ((List.suffix_cons r u).trans h)
 ·exact .inr (.inl ((List.suffix_cons r u).trans h))
 exact .inr (.inr ((List.suffix_cons r u).trans h))
theorem PA.A3 {u:List (List Rat)} (h:PA u):∀v∈A3 u,v∈[Ca,qn 6,qn 2,qn 3]:=by
 intro v a;rcases h with h | h | h
 ·rcases LA MQ v (JB h v a) with rfl | a
  ·simp
  have:=FG.A3 v a;rw[List.mem_singleton.1 this];simp
 ·have:=(Cs (k:=2) (by decide)).A3 v (JB h v a);rw[List.mem_singleton.1 this];simp
 have:=(Cs (k:=3) (by decide)).A3 v (JB h v a);rw[List.mem_singleton.1 this];simp
theorem Qe {u:List (List Rat)} {x y:Re} {k:Nat} (h:AQ u) (b:k≠0) (hx:In u x) (e:x=qn k*y):In u y:=by
 obtain⟨i,a,c⟩:=DR h (ES k u) (fun e=>b (by
  have:Re.ofRat ((k:Nat):Rat)=Re.ofRat ((0:Nat):Rat):=e;exact Rat.natCast_inj.1 (Re.Ff.1 this)))
 have:y=x*i:=by grind
 rw[this];exact Ab h hx a
theorem Nf {u:List (List Rat)} (h:AQ u) (a:In u (Re.sqrt (qn 2))\/In u (Re.sqrt (qn 3))/\In u (Re.sqrt (qn 6))) (b:In u (Re.sqrt (qn 3))\/In u (Re.sqrt (qn 2))/\In u (Re.sqrt (qn 6))):
  In u (Re.sqrt (qn 2))/\In u (Re.sqrt (qn 3))/\In u (Re.sqrt (qn 6))/\In u (Re.sqrt Ca):=by
 have f:=Re.CB (DU 2);have g:=Re.CB (DU 3);have c:Re.sqrt (qn 6)=Re.sqrt (qn 2)*Re.sqrt (qn 3):=Nb 2 3;have k2:In u (Re.sqrt (qn 2)):=a.elim id fun⟨x,y⟩=>Qe h (k:=3) (by decide) (Ab h x y) (by rw[c];grind)
 have d:In u (Re.sqrt (qn 3)):=b.elim id fun⟨x,y⟩=>Qe h (k:=2) (by decide) (Ab h x y) (by rw[c];grind)
 exact⟨k2,d,by rw[c];exact Ab h k2 d,by rw[RF];exact B3 k2 d⟩
theorem Xz {α:Type} {l m:List α} (h:l.Nodup) (f:∀x∈l,x∈m) (hm:m.length<=l.length):∀x∈m,x∈l:=by
 intro x hx;apply Classical.byContradiction;intro g;obtain⟨a,b,rfl⟩:=List.append_of_mem hx
 have:=Im (l:=l) (m:=a++b) h (fun y d=>by
  rcases List.mem_append.1 (f y d) with c | c
  ·exact List.mem_append_left _ c
  rcases List.mem_cons.1 c with rfl | c
  ·exact absurd d g
  exact List.mem_append_right _ c)
 rw[List.length_append,List.length_cons] at hm;rw[List.length_append] at this;omega
theorem PA.len {u:List (List Rat)} (h:Tf PA u):u.length<=3:=by
 have c:=h.red PA.Dg;have i:=h.A3 PA.Dg (fun h=>PA.A3 h);have g:=LB c;have q:=Im g i;rw[JA] at q;apply Classical.byContradiction;intro k;have d:=Xz g i (by rw[JA];show 4<=u.length;omega)
 match u,c,i,d,k with
 | [],_,_,_,k=>simp at k
 | r::u,c,i,d,k=>
  have l:¬In u (Re.sqrt (AI u r)):=fun s=>c.2.2.2 ⟨_,s,Re.CB (by have:=c.2.2.1;grind)⟩
  have key:∀v∈[Ca,qn 6,qn 2,qn 3],v≠AI u r->In u (Re.sqrt v):=fun v o n=>by
   rcases List.mem_cons.1 (d v o) with e | e
   ·exact absurd e n
   exact Nn e
  have p:=i (AI u r) List.mem_cons_self;have ne:∀{a b:Nat},a≠b->qn a≠qn b:=fun {a b} m e=>m (Rat.natCast_inj.1 (Re.Ff.1 e))
  by_cases f:AI u r=qn 2
  ·have a:=key (qn 3) (by simp) (by rw[f];exact ne (by decide));have b:=key (qn 6) (by simp) (by rw[f];exact ne (by decide));exact l (by rw[f];exact (Nf c.1 (.inr ⟨a,b⟩) (.inl a)).1)
  have k2:=key (qn 2) (by simp) (Ne.symm f)
  by_cases j:AI u r=qn 3
  ·have b:=key (qn 6) (by simp) (by rw[j];exact ne (by decide));exact l (by rw[j];exact (Nf c.1 (.inl k2) (.inr ⟨k2,b⟩)).2.1)
  have w:=key (qn 3) (by simp) (Ne.symm j);have t:=Nf c.1 (.inl k2) (.inl w);simp only[List.mem_cons,List.not_mem_nil,or_false] at p;rcases p with e | e | e | e
  ·exact l (by rw[e];exact t.2.2.2)
  ·exact l (by rw[e];exact t.2.2.1)
  ·exact f e
  exact j e
theorem PA.J5 {S:Nat} (a:Rm<=S) (b:S<=Sm):CP (Tf PA) Rm Cm S:=MI PA.Dg (fun h=>PA.len h) a b
end Go.Abs
