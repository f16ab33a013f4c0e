/- Part 26 of a proof. Conditions: each theorem's own. -/
import Derived.Test.YtmhbikooakmagaaGreatRk24
set_option linter.all false
set_option maxHeartbeats 8000000
set_option maxRecDepth 20000
open Go.Proofs
namespace Go.Abs
open Go.RowKit
theorem Ys {o:el Bn} {n d:Int} (a:n=JZ o.2.2.2.1) (b:d=((o.2.2.2.2.toNat%8+1:Nat):Int)):GL o=Rat.divInt n d:=by subst a b;rfl
theorem MJ {st:List Nu×Nat} {o:el Bn} (h:st.1=[]\/o.1.toNat%6=0):DG st o=(([],Re.ofRat (GL o)),st.2):=by unfold DG;rw[if_pos h]
theorem Ij {st:List Nu×Nat} {o:el Bn} (a:st.1≠[]) (b:o.1.toNat%6≠0):DG st o=D3 (o.1.toNat%6) (CV st.1 o.2.1.toNat) (CV st.1 o.2.2.1.toNat) st.2:=by
 unfold DG;rw[if_neg (fun h=>h.elim a b)]
theorem kH (a b:Nu) (r:Nat):D3 1 a b r=((A0 a.1 b.1,a.2+b.2),r):=by unfold D3;rw[if_pos rfl]
theorem kL (a b:Nu) (r:Nat):D3 2 a b r=((A0 a.1 b.1,a.2-b.2),r):=by unfold D3;rw[if_neg (by decide),if_pos rfl]
theorem kK (a b:Nu) (r:Nat):D3 3 a b r=((A0 a.1 b.1,a.2*b.2),r):=by unfold D3;rw[if_neg (by decide),if_neg (by decide),if_pos rfl]
theorem kJ {a b:Nu} (r:Nat) (h:b.2=0):D3 4 a b r=(a,r):=by unfold D3;rw[if_neg (by decide),if_neg (by decide),if_neg (by decide),if_pos rfl,if_pos h]
theorem kI {a b:Nu} (r:Nat) (h:b.2≠0):D3 4 a b r=((A0 a.1 b.1,a.2*Ci b.2),r):=by unfold D3;rw[if_neg (by decide),if_neg (by decide),if_neg (by decide),if_pos rfl,if_neg h]
theorem YM (a b:Nu) {r:Nat} (h:r<3):D3 5 a b r=((Ar a.1 (DY a.2),Re.sqrt (DY a.2)),r+1):=by unfold D3;rw[if_neg (by decide),if_neg (by decide),if_neg (by decide),if_neg (by decide),if_pos h]
theorem YL (a b:Nu) {r:Nat} (h:¬r<3):D3 5 a b r=(a,r):=by unfold D3;rw[if_neg (by decide),if_neg (by decide),if_neg (by decide),if_neg (by decide),if_neg h]
theorem get_eq {ns:List Nu} {i j:Nat} {n:Nu} (h:ns[j]? =some n) (a:j=i%ns.length):CV ns i=n:=by
 unfold CV;rw[List.getD_eq_getElem?_getD,<-a,h];rfl
theorem Wg:∀h,h<=3->II h Rm Rm<=60000000000000
 |0,_|1,_|2,_|3,_=>by decide +kernel
 | _+4,h=>absurd h (by omega)
theorem iQ:∀h,h<=3->II h 256 512<=Rm
 |0,_|1,_|2,_|3,_=>by decide +kernel
 | _+4,h=>absurd h (by omega)
section
variable {V:List Re} {ns:List Nu}
theorem BP.tb {n:Nu} (h:BP V n) (hV:V.length<=3):TB 256 n.1:=(PN.EL (ns:=[n]) hV (fun m hm=>by rw[List.mem_singleton.1 hm];exact h)).tb (PN.self (List.mem_singleton.2 rfl))
theorem BP.inv {n:Nu} (h:BP V n) (hV:V.length<=3) (a:n.2≠0):El n.1 Rm (Ci n.2):=by
 have b:=Nat.le_trans h.len hV;have ht:Ae 256 n.1:=⟨h.red,h.tb hV,by decide,by omega⟩;exact ((h.el hV).inv ht (Ln h.red h.mem a) (Gh a)).mono (iQ _ b)
theorem BP.abs {n:Nu} (h:BP V n):BP V (n.1,DY n.2):=by
 refine⟨h.red,Wi h.mem,h.Aq,h.E2,fun q a=>?_⟩;have a:q∈co n.1 (DY n.2):=a;unfold DY at a
 split at a
 ·rw[Lg h.red h.mem] at a;obtain⟨p,b,rfl⟩:=List.mem_map.1 a;have:=h.cos p b;exact⟨by show (-p.num).natAbs<_;rw[Int.natAbs_neg];exact this.1,this.2⟩
 exact h.cos q a
theorem Ko {n:Nu} (h:BP V n) (hV:V.length<=2) (d:0<=n.2) {S:Nat} (f:Rm<=S) (g:S<=Sm:=by first|omega|decide):Cj (Tf fun u=>u<:+Ar n.1 n.2) Rm Cm S/\Tf (fun u=>u<:+Ar n.1 n.2) n.1/\Tf (fun u=>u<:+Ar n.1 n.2) (Ar n.1 n.2):=by
 have i:=ML h.red h.mem d;have j:=h.len
 have b:TB 256 (Ar n.1 n.2):=by
  by_cases hs:Sq n.1 n.2
  ·rw[Ec hs];exact h.tb (by omega)
  rw[Dq hs];intro r a;rcases List.mem_cons.1 a with rfl | a
  ·refine (F8 h.cos).mono ?_;rw[CU h.mem];have:2^n.1.length<=2^2:=CP;omega
  exact h.tb (by omega) r a
 have I:DU (fun u=>u<:+Ar n.1 n.2) 256:=⟨fun {u} hu=>Il hu i,fun {u} hu=>fun r a=>b r (hu.subset a),fun {r u} hu=>(List.suffix_cons r u).trans hu⟩;refine⟨Qn I (fun {u} hu=>?_) f g,Tf.of I (NP _ _),Tf.of I (List.suffix_refl _)⟩
 have:=hu.len I (V:=n.2::V) (fun {u} hu v c=>by
  rcases Mp h.mem v (JX hu v c) with rfl | c
  ·exact List.mem_cons_self
  exact List.mem_cons_of_mem _ (h.Aq v c))
 rw[List.length_cons] at this;omega
theorem gK (hV:V.length<=3) (c:∀n∈ns,BP V n) {a b:Nu} (ha:a∈ns) (hb:b∈ns) {r:Nat}:∃(T A h g:_) (e:Int),CF 103 [.agg [.sl (.sl AA) (tw a.1),.sl AA (em a.1 a.2)],.agg [.sl (.sl AA) (tw b.1),.sl AA (em b.1 b.2)]] (.AG [(true,(AR T A)),(false,[.int .i64 e])])/\
  CF 100 [.agg [.sl (.sl AA) T,.sl AA A],.one (.int .i64 e),.agg [.sl (.sl AA) (tw a.1),.sl AA (em a.1 a.2)]] (.agg [.sl (.sl AA) h,.sl AA g])/\h=tw (D3 4 a b r).1.1/\g=em (D3 4 a b r).1.1 (D3 4 a b r).1.2/\(D3 4 a b r).2=r:=by
 have G:=Ga hV c (Nat.le_refl Rm);have i:=((c a ha).el hV).mono (by decide:512<=Rm);have j:=((c b hb).el hV).mono (by decide:512<=Rm)
 by_cases d:b.2=0
 ·rw[kJ r d];exact⟨_,_,_,_,_,cT G (EH hV c ha) (EH hV c hb) rfl rfl rfl rfl i j d,dT,rfl,rfl,rfl⟩
 rw[kI r d];have f:=Nat.le_trans (c b hb).len hV;exact⟨_,_,_,_,_,Tm G (EH hV c ha) (EH hV c hb) rfl rfl rfl rfl i j (Ln (c b hb).red (c b hb).mem d) (Gh d) ((c b hb).inv hV d) (Wg _ f) rfl rfl,Jo,rfl,rfl,rfl⟩
end
theorem jC (x:Nu):Fa [] x=x:=by unfold Fa;rw[if_neg (fun h=>h.1 rfl)]
theorem jB {l:List Nu} {x:Nu} (h:l≠[]) (a:H3 x):Fa l x=l.getLastD F3:=by unfold Fa;rw[if_pos ⟨h,a⟩]
theorem jD {l:List Nu} {x:Nu} (a:¬H3 x):Fa l x=x:=by unfold Fa;rw[if_neg (fun h=>a h.2)]
theorem XI {n:Nu}:My n.1.reverse (co n.1 n.2)↔H3 n:=by
 unfold My H3;simp only[List.mem_reverse]
theorem jE {l:List Nu} {j:Nat} {n:Nu} (h:l[j]? =some n) (a:j+1=l.length):l.getLastD F3=n:=by
 rw[List.getLastD_eq_getLast?,List.getLast?_eq_getElem?,show l.length-1=j by omega,h];rfl
theorem SN:∀(xs:List (el Bn)) (st:List Nu×Nat),(xs.foldl HU st).1.length=st.1.length+xs.length
 | [],_=>rfl
 | o::xs,st=>by
  rw[List.foldl_cons,SN xs (HU st o),List.length_cons];unfold HU;rw[List.length_append,List.length_singleton];omega
theorem mK {x:Re} (h:An x<0):x<0:=by rcases Df x with⟨a,b⟩ |⟨a,b⟩ |⟨a,b⟩ <;> first | exact a | (exfalso;omega)
theorem mJ {x:Re} (h:¬An x<0):¬x<0:=by rcases Df x with⟨a,b⟩ |⟨a,b⟩ |⟨a,b⟩ <;> first | (exfalso;omega) | (rw[a];exact fun h=>by grind) | (intro h;grind)
theorem LF {X:List (el Bn)} {L:List (el At)} (hL:L=(runN (X.take 24)).1.map nm):CF 20 [.one (.sl Bn X)] (.one (.sl At L)):=by
 refine AJ Tryz.func20 fun E I=>?_
 conv=>cbv
 refine .inr ?_;obtain⟨J0,aC⟩:=xJ fun vs bl k=>(vs=[.one (.sl Bn X),.one .nil,.one (.int .i64 0),.one (.int .i64 0)]/\bl=[.dead 0]/\k=24)\/(∃(o:List (el At)) (n k':Nat) (rr j:Int),vs=[.one (.sl Bn X),.one (.AN At 157 0 0 n),.one (.int .i64 rr),.one (.int .i64 j)]/\bl=[.arr 0 At o]/\(AO j k'/\k'<=X.length/\k'<=24/\0<k'/\n=o.length)/\(o=(runN (X.take k')).1.map nm/\AO rr (runN (X.take k')).2)/\k=24-k')
 refine⟨[],[0,3,4,5],[157],J0,⟨24,by rw[aC];exact .inl ⟨rfl,rfl,rfl⟩⟩,?_⟩;intro vs bl cZ hj;rw[aC] at hj;rcases hj with⟨rfl,rfl,aE⟩ |⟨o,n,k',rr,j,rfl,rfl,⟨hj,cX,cF,bE,hn⟩,⟨ho,f⟩,aE⟩
 ·conv=>cbv
  obtain⟨k',aE⟩:=xN 0;obtain⟨S,V,hV,c⟩:=SM (X.take k');obtain⟨st,B⟩:∃s,s=runN (X.take k'):=⟨_,rfl⟩
  rw[<-B] at S hV c;have a7:st.1=[]:=by rw[B,aE];rfl
  have bI:st.2=0:=by rw[B,aE];rfl
  rintro n22 ⟨bY,f22⟩;conv=>cbv
  intro n23 ad;conv=>cbv
  cases n23 <;> conv=>cbv
  ·have b9:=AW ad;exact AD ⟨⟨rfl,.inr (.inl ⟨_,congrArg _ (by rw[hL,show X.take 24=[] by rw[List.take_eq_nil_iff];right;exact List.eq_nil_of_length_eq_zero (by omega)];rfl)⟩),trivial⟩,trivial⟩
  have b9:=AY ad;refine Bc ?_;conv=>cbv
  refine .inr ?_;obtain⟨a,F⟩:=AK (l:=X) (i:=0) (by omega);refine⟨a,fun _=>⟨by omega,F⟩,?_⟩;try conv=>cbv
  intro n33 ae;have aY:=ae.eq;have f33:=ae.lt;conv=>cbv
  intro aw P;have ab:=P.eq;have bk:=P.lt;conv=>cbv
  intro a6 A;have Y:=A.eq;have aZ:=A.lt;conv=>cbv
  intro O u;have H:=u.eq;have aA:=u.lt;conv=>cbv
  have ch:n33=((a.1.toNat:Nat):Int):=aY;have cj:aw=((a.2.1.toNat:Nat):Int):=ab;have ck:a6=((a.2.2.1.toNat:Nat):Int):=Y;have cl:O=((a.2.2.2.2.toNat:Nat):Int):=H;intro n36 Z;conv=>cbv
  have Z:=wrap_i64 Z;have af:n36=JZ a.2.2.2.1:=Z;intro n39 c0;conv=>cbv
  refine AH ?_;intro n40 ag;conv=>cbv
  have ag:=wrap_i64 ag;intro n41 c1;conv=>cbv
  refine AI ?_;obtain⟨aF,U⟩:=Bo (em [] (Re.ofRat (GL a)));have cm:=S3 a.2.2.2.1;refine AB (r:= .agg [.sl (.sl AA) (([]:List LR)),.sl AA aF]) I (Tn (q:=GL a) (by omega) (by omega) (by omega) (Ys af (by show n41=((a.2.2.2.2.toNat%8+1:Nat):Int);omega)) U) ?_;try conv=>cbv
  refine AU ?_;conv=>cbv
  refine .inr ?_;refine AU ?_;conv=>cbv
  refine .inr ?_;obtain⟨_,aX,ca,aN,b8⟩:=MI (st:=st) ⟨S,V,hV,c⟩ a;have cb:aX.length<=8:=by have:=(MI (st:=st) ⟨S,V,hV,c⟩ a).1;omega
  have v:=Q6 (l:=[]) (x:=(DG st a).1) (fun n hn=>by simp at hn) b8 (fun he=>by rw[MJ (.inl a7)];exact SA a);obtain⟨kk,a5⟩:∃z:Nu,z=Fa [] (DG st a).1:=⟨_,rfl⟩
  rw[<-a5] at v;have t:=O9 v.red v.mem;have bF:kk=([],Re.ofRat (GL a)):=by rw[a5,jC,MJ (.inl a7)]
  have c9:(([]:List LR):List LR)=tw kk.1:=by rw[bF];rfl
  have c8:aF=em kk.1 kk.2:=by rw[bF];exact U
  obtain⟨y,D⟩:=DE (tw (DM kk).1);obtain⟨w,C⟩:=Bo (em (DM kk).1 (DM kk).2);refine AB (r:= .agg [.sl (.sl AA) y,.sl AA w]) I (ND v.red v.mem (by have:=v.len;omega) (by rw[t.1,t.2.2]) c9 c8 D (by rw[C,t.2.2])) ?_;try conv=>cbv
  refine⟨[(y,w)],fun _=>⟨rfl,by decide,rfl,⟨rfl,by first | exact t1 | exact t2 | exact t4 | simp[Ao,BA,cells],trivial⟩⟩,.inr ?_⟩;try conv=>cbv
  refine .inl ⟨[(y,w)],fun _=>⟨rfl,by show (1)*48<=140737488355328;(try simp only[List.length_take,List.length_drop]);omega⟩,?_⟩;intro aU bo;conv=>cbv
  intro n29 bZ;conv=>cbv
  refine AI ?_;refine⟨24-(k'+1),?_,?_⟩
  ·omega
  rw[aC];have G:X[k']? =some a:=by (first | exact F | (rw[<-F];congr 1 <;> omega))
  refine .inr ⟨_,_,k'+1,0,n29,rfl,rfl,⟨⟨by omega⟩,by have:=Gb G;omega,by omega,by omega,bo⟩,?_,rfl⟩;rw[Cg (x:=a) G,ZM,<-B];refine⟨by rw[HU,a7,List.nil_append,<-a5,D,C];rfl,?_⟩
  show AO 0 (DG st a).2
  rw[MJ (.inl a7),bI];exact Al 0
 conv=>cbv
 have ej:=hj.eq;have az:=f.eq;obtain⟨S,V,hV,c⟩:=SM (X.take k');obtain⟨st,B⟩:∃s,s=runN (X.take k'):=⟨_,rfl⟩
 rw[<-B] at S hV c;rw[<-B] at ho f az;have hlen:st.1.length=k':=by rw[B,runN,SN,List.length_nil,List.length_take];omega
 have cY:o.length=k':=by rw[ho,List.length_map,hlen]
 have N:st.1≠[]:=fun e=>by rw[e] at hlen;simp at hlen;omega
 have g:=Nat.le_trans hV S;rintro n22 ⟨bY,f22⟩;conv=>cbv
 intro n23 ad;conv=>cbv
 cases n23 <;> conv=>cbv
 ·have b9:=AW ad;exact AD ⟨⟨rfl,.inl ⟨_,rfl,by omega,congrArg _ (by have e:X.take 24=X.take k':=(by first | rw[show k'=24 by omega] | rw[List.take_of_length_le (by omega),List.take_of_length_le (by omega)]);rw[hL,hn,List.drop_zero,List.take_length,ho,B,e])⟩,trivial⟩,trivial⟩
 have b9:=AY ad;intro n26 bp;conv=>cbv
 cases n26 <;> conv=>cbv
 ·have cn:=AW bp;exact AD ⟨⟨rfl,.inl ⟨_,rfl,by omega,congrArg _ (by have e:X.take 24=X.take k':=(by first | rw[show k'=24 by omega] | rw[List.take_of_length_le (by omega),List.take_of_length_le (by omega)]);rw[hL,hn,List.drop_zero,List.take_length,ho,B,e])⟩,trivial⟩,trivial⟩
 have cn:=AY bp;refine .inr ?_;obtain⟨a,F⟩:=AK (l:=X) (i:=k') (by omega);refine⟨a,fun _=>⟨by omega,by rw[show (j).toNat=k' by omega];exact F⟩,?_⟩;try conv=>cbv
 intro n33 ae;have aY:=ae.eq;have f33:=ae.lt;conv=>cbv
 intro aw P;have ab:=P.eq;have bk:=P.lt;conv=>cbv
 intro a6 A;have Y:=A.eq;have aZ:=A.lt;conv=>cbv
 intro O u;have H:=u.eq;have aA:=u.lt;conv=>cbv
 have ch:n33=((a.1.toNat:Nat):Int):=aY;have cj:aw=((a.2.1.toNat:Nat):Int):=ab;have ck:a6=((a.2.2.1.toNat:Nat):Int):=Y;have cl:O=((a.2.2.2.2.toNat:Nat):Int):=H;intro n36 Z;conv=>cbv
 have Z:=wrap_i64 Z;have af:n36=JZ a.2.2.2.1:=Z;intro n39 c0;conv=>cbv
 refine AH ?_;intro n40 ag;conv=>cbv
 have ag:=wrap_i64 ag;intro n41 c1;conv=>cbv
 refine AI ?_;obtain⟨aF,U⟩:=Bo (em [] (Re.ofRat (GL a)));have cm:=S3 a.2.2.2.1;refine AB (r:= .agg [.sl (.sl AA) (([]:List LR)),.sl AA aF]) I (Tn (q:=GL a) (by omega) (by omega) (by omega) (Ys af (by show n41=((a.2.2.2.2.toNat%8+1:Nat):Int);omega)) U) ?_;try conv=>cbv
 intro n44 c2;have cP:=c2.eq;conv=>cbv
 intro n45 bq;conv=>cbv
 cases n45 <;> conv=>cbv
 ·have bR:=Bq bq;exact absurd bR (by omega)
 have bR:=Br bq;intro n49 cV;conv=>cbv
 refine AH ?_;intro ct br;conv=>cbv
 obtain⟨bX,m⟩:=xK fun vs bl=>∃(T7:List LR) (A7:LR) (r7:Int),vs=[.one (.sl Bn X),.one (.AN At 157 0 0 n),.one (.int .i64 r7),.one (.int .i64 j),.one (.Ab 7 0 0)]/\bl=[.var 0 [.sl (.sl AA) T7,.sl AA A7],.arr 0 At o]/\(T7=tw (DG st a).1.1/\A7=em (DG st a).1.1 (DG st a).1.2)/\AO r7 (DG st a).2
 refine .inl ⟨[0,3,4,5,7],[7,157],bX,?_,?_⟩
 ·intro vs bl hj;rw[m] at hj;obtain⟨T7,A7,r7,rfl,rfl,⟨bA,bx⟩,bG⟩:=hj;conv=>cbv
  have cU:=bG.eq;intro cI bm;have cC:=bm.eq;conv=>cbv
  intro bV aM;conv=>cbv
  cases bV <;> conv=>cbv
  ·have aT:=Bq aM;exact absurd aT (by omega)
  have aT:=Br aM;obtain⟨bj,a2⟩:=Dv (My (DG st a).1.1.reverse (co (DG st a).1.1 (DG st a).1.2));refine AB I (dS bA bx a2) ?_;conv=>cbv
  obtain⟨bh,a1⟩:=xK fun vs bl=>∃(T8:List LR) (A8:LR),vs=[.one (.sl Bn X),.one (.AN At 157 0 0 n),.one (.int .i64 r7),.one (.int .i64 j),.one (.Ab 7 0 0)]/\bl=[.var 0 [.sl (.sl AA) T8,.sl AA A8],.arr 0 At o]/\(T8=tw (Fa st.1 (DG st a).1).1/\A8=em (Fa st.1 (DG st a).1).1 (Fa st.1 (DG st a).1).2)
  refine .inl ⟨[0,3,4,5,7],[7,157],bh,?_,?_⟩
  ·intro vs bl hj;rw[a1] at hj;obtain⟨T8,A8,rfl,rfl,bB,bz⟩:=hj;conv=>cbv
   obtain⟨_,aX,ca,aN,b8⟩:=MI (st:=st) ⟨S,V,hV,c⟩ a;have cb:aX.length<=8:=by have:=(MI (st:=st) ⟨S,V,hV,c⟩ a).1;omega
   have v:=Q6 (l:=st.1) (x:=(DG st a).1) aN b8 (fun he=>by rw[MJ (.inl he)];exact SA a);obtain⟨kk,a5⟩:∃z:Nu,z=Fa st.1 (DG st a).1:=⟨_,rfl⟩
   rw[<-a5] at v;have t:=O9 v.red v.mem;rw[<-a5] at bB bz;obtain⟨y,D⟩:=DE (tw (DM kk).1);obtain⟨w,C⟩:=Bo (em (DM kk).1 (DM kk).2);refine AB (r:= .agg [.sl (.sl AA) y,.sl AA w]) I (ND v.red v.mem (by have:=v.len;omega) (by rw[t.1,t.2.2]) bB bz D (by rw[C,t.2.2])) ?_;try conv=>cbv
   refine⟨[(y,w)],fun _=>⟨rfl,by decide,rfl,⟨rfl,by first | exact t1 | exact t2 | exact t4 | simp[Ao,BA,cells],trivial⟩⟩,.inr ?_⟩;try conv=>cbv
   refine .inl ⟨[(y,w)],fun _=>⟨rfl,by (first | rfl | omega),rfl,by show (o.length+1)*48<=140737488355328;(try simp only[List.length_take,List.length_drop]);omega⟩,?_⟩;intro (av:List (el At)) aU ax;have b4:av=(o:List (el At))++([(y,w)]:List (el At)):=ax.1;have b6:aU=List.length (α:=(el At)) av:=ax.2;conv=>cbv
   intro n29 bZ;conv=>cbv
   refine AI ?_;refine⟨24-(k'+1),?_,?_⟩
   ·omega
   rw[aC];have G:X[k']? =some a:=by (first | exact F | (rw[<-F];congr 1 <;> omega))
   refine .inr ⟨av,_,k'+1,r7,n29,rfl,rfl,⟨⟨by omega⟩,by have:=Gb G;omega,by omega,by omega,b6⟩,?_,rfl⟩;rw[Cg (x:=a) G,ZM,<-B];exact⟨by rw[b4,ho,HU,List.map_append,<-a5,D,C];rfl,bG⟩
  cases bj <;> conv=>cbv
  ·rw[a1];refine⟨_,_,rfl,rfl,?_⟩ <;> rw[jD (fun hl=>Bool.false_ne_true (a2.2 (XI.2 hl)))]
   exact⟨bA,bx⟩
  intro cJ bn;have cD:=bn.eq;conv=>cbv
  intro cK cE;conv=>cbv
  refine AI ?_;refine AH ?_;intro bL cc;conv=>cbv
  obtain⟨bW,au⟩:=AK (l:=o) (i:=bL) (by omega);refine⟨bW,fun _=>au,?_⟩;try conv=>cbv
  rw[a1];obtain⟨u3,y3,bJ,bK,cg⟩:=Hj ho au;refine⟨_,_,rfl,rfl,?_⟩ <;> rw[jB N (XI.1 (a2.1 rfl)),jE cg (by omega)]
  exact⟨bJ,bK⟩
 cases ct <;> conv=>cbv
 ·have cp:=Co br;rw[m];refine⟨_,_,_,rfl,rfl,?_,?_⟩ <;> rw[MJ (.inr (by omega))]
  ·exact⟨rfl,U⟩
  exact f
 have cp:=Cp br;intro cu bs;conv=>cbv
 have bs:=wrap_i64 bs;intro cv c3;have cQ:=c3.eq;conv=>cbv
 intro cw c4;conv=>cbv
 refine AH ?_;obtain⟨d58,bC,cR,cd⟩:∃d:Nat,d=a.2.1.toNat%k'/\cw=d/\d<k':=⟨_,rfl,by rw[c4,show cu=((a.2.1.toNat:Nat):Int) by omega,show cv=(k':Int) by omega];exact (Int.natCast_emod _ _).symm,Nat.mod_lt _ bE⟩
 refine AH ?_;intro bM cG;conv=>cbv
 obtain⟨ay,aR⟩:=AK (l:=o) (i:=bM) (by omega);refine⟨ay,fun _=>aR,?_⟩;try conv=>cbv
 intro cx bt;conv=>cbv
 have bt:=wrap_i64 bt;intro cy c5;have cS:=c5.eq;conv=>cbv
 intro cz c6;conv=>cbv
 refine AH ?_;obtain⟨d67,bD,cT,cf⟩:∃d:Nat,d=a.2.2.1.toNat%k'/\cz=d/\d<k':=⟨_,rfl,by rw[c6,show cx=((a.2.2.1.toNat:Nat):Int) by omega,show cy=(k':Int) by omega];exact (Int.natCast_emod _ _).symm,Nat.mod_lt _ bE⟩
 refine AH ?_;intro bN cH;conv=>cbv
 obtain⟨bg,aS⟩:=AK (l:=o) (i:=bN) (by omega);refine⟨bg,fun _=>aS,?_⟩;try conv=>cbv
 refine g2 rfl ?_;obtain⟨u1,y1,h,p,K⟩:=Hj ho aR;obtain⟨u2,y2,a8,aa,M⟩:=Hj ho aS;have J:=List.mem_of_getElem? K;have al:=List.mem_of_getElem? M;have Q:bM=a.2.1.toNat%st.1.length:=by rw[hlen,<-bC];omega
 have R:bN=a.2.2.1.toNat%st.1.length:=by rw[hlen,<-bD];omega
 have ak:=((c _ J).el g).mono (by decide:512<=Rm);have b1:=((c _ al).el g).mono (by decide:512<=Rm);intro da cW;conv=>cbv
 refine AH ?_;refine .inr ?_;intro cB bw;conv=>cbv
 refine .inr ?_;cases cB <;> conv=>cbv
 ·have cr:=Ah bw;intro bS aJ;conv=>cbv
  refine .inr ?_;cases bS <;> conv=>cbv
  ·have bO:=Ah aJ;intro bT aK;conv=>cbv
   refine .inr ?_;cases bT <;> conv=>cbv
   ·have bP:=Ah aK;intro bU aL;conv=>cbv
    refine .inr ?_;cases bU <;> conv=>cbv
    ·have bQ:=Ah aL;obtain⟨db,bH⟩:=xI (An y1);refine AB I (Pk (Ga g c (Nat.le_refl Rm)) (EH g c J) h p ak bH) ?_;conv=>cbv
     intro cA bu;conv=>cbv
     refine .inr ?_;cases cA <;> conv=>cbv
     ·have cq:=AW bu;intro bb ah;conv=>cbv
      refine .inr ?_;cases bb <;> conv=>cbv
      ·have ba:=AW ah;rw[m];have b:=Ij (o:=a) N (by omega:a.1.toNat%6≠0);rw[get_eq K Q,get_eq M R] at b;rw[show a.1.toNat%6=5 by omega,YL _ _ (by omega)] at b;refine⟨_,_,_,rfl,rfl,?_,?_⟩ <;> rw[b]
       ·exact⟨h,p⟩
       exact f
      have ba:=AY ah;intro bc c7;conv=>cbv
      refine AI ?_;have ai:=(c _ J).abs;have aj:DY y1=y1:=by unfold DY;rw[if_neg (mJ (by omega))]
      obtain⟨hG,b2,b3⟩:=Ko ai (by omega) (Jq _) (Nat.le_refl Rm);obtain⟨bf,W⟩:=DE (tw (Ar u1 (DY y1)));obtain⟨bd,T⟩:=Bo (em (Ar u1 (DY y1)) (Re.sqrt (DY y1)));refine AB (r:= .AG [(true,[.sl (.sl AA) bf,.sl AA bd]),(false,[.int .i64 0])]) I (Pm hG b2 h (by show _=em u1 (DY y1);rw[aj];exact p) ((ai.el g).mono (by decide)) b3 (Jq _) W T) ?_;try conv=>cbv
      refine AB I Jo ?_;conv=>cbv
      rw[m];have b:=Ij (o:=a) N (by omega:a.1.toNat%6≠0);rw[get_eq K Q,get_eq M R] at b;rw[show a.1.toNat%6=5 by omega,YM _ _ (by omega)] at b;refine⟨_,_,_,rfl,rfl,?_,?_⟩ <;> rw[b]
      ·exact⟨W,T⟩
      exact⟨by show bc=((st.2+1:Nat):Int);omega⟩
     have cq:=AY bu;obtain⟨dc,aO⟩:=Bo (em u1 (-y1));refine AB I (Pj (Ga g c (Nat.le_refl Rm)) (EH g c J) h p ak aO) ?_;conv=>cbv
     intro bb ah;conv=>cbv
     refine .inr ?_;cases bb <;> conv=>cbv
     ·have ba:=AW ah;rw[m];have b:=Ij (o:=a) N (by omega:a.1.toNat%6≠0);rw[get_eq K Q,get_eq M R] at b;rw[show a.1.toNat%6=5 by omega,YL _ _ (by omega)] at b;refine⟨_,_,_,rfl,rfl,?_,?_⟩ <;> rw[b]
      ·exact⟨h,p⟩
      exact f
     have ba:=AY ah;intro bc c7;conv=>cbv
     refine AI ?_;have ai:=(c _ J).abs;have aj:DY y1= -y1:=by unfold DY;rw[if_pos (mK (by omega))]
     obtain⟨hG,b2,b3⟩:=Ko ai (by omega) (Jq _) (Nat.le_refl Rm);obtain⟨bf,W⟩:=DE (tw (Ar u1 (DY y1)));obtain⟨bd,T⟩:=Bo (em (Ar u1 (DY y1)) (Re.sqrt (DY y1)));refine AB (r:= .AG [(true,[.sl (.sl AA) bf,.sl AA bd]),(false,[.int .i64 0])]) I (Pm hG b2 h (by show _=em u1 (DY y1);rw[aj];exact aO) ((ai.el g).mono (by decide)) b3 (Jq _) W T) ?_;try conv=>cbv
     refine AB I Jo ?_;conv=>cbv
     rw[m];have b:=Ij (o:=a) N (by omega:a.1.toNat%6≠0);rw[get_eq K Q,get_eq M R] at b;rw[show a.1.toNat%6=5 by omega,YM _ _ (by omega)] at b;refine⟨_,_,_,rfl,rfl,?_,?_⟩ <;> rw[b]
     ·exact⟨W,T⟩
     exact⟨by show bc=((st.2+1:Nat):Int);omega⟩
    have bQ:=Aj aL;obtain⟨aH,aG,aW,aV,aI,b0,b5,aD,aB,b7⟩:=gK g c J al (r:=st.2);refine .inl ⟨[.agg [.sl (.sl AA) ay.1,.sl AA ay.2],.agg [.sl (.sl AA) bg.1,.sl AA bg.2]],.AG [(true,[.sl (.sl AA) aH,.sl AA aG]),(false,[.int .i64 aI])],fun _=>⟨t2,t2,trivial⟩,fun _=>E6 I (by rw[h,p,a8,aa];exact b0),?_⟩;try conv=>cbv
    refine .inl ⟨[.agg [.sl (.sl AA) aH,.sl AA aG],.one (.int .i64 aI),.agg [.sl (.sl AA) ay.1,.sl AA ay.2]],.agg [.sl (.sl AA) aW,.sl AA aV],fun _=>⟨t2,rfl,t2,trivial⟩,fun _=>E6 I (by rw[h,p];exact b5),?_⟩;try conv=>cbv
    rw[m];have b:=Ij (o:=a) N (by omega:a.1.toNat%6≠0);rw[get_eq K Q,get_eq M R] at b;rw[show a.1.toNat%6=4 by omega] at b;refine⟨_,_,_,rfl,rfl,?_,?_⟩ <;> rw[b]
    ·exact⟨aD,aB⟩
    rw[b7];exact f
   have bP:=Aj aK;obtain⟨cO,ar⟩:=DE (tw (A0 u1 u2));obtain⟨cM,ao⟩:=Bo (em (A0 u1 u2) (y1*y2));refine AB I (Ph (Ga g c (Nat.le_refl Rm)) (EH g c J) (EH g c al) h a8 p aa ak b1 ar ao) ?_;conv=>cbv
   refine AB I Jo ?_;conv=>cbv
   rw[m];have b:=Ij (o:=a) N (by omega:a.1.toNat%6≠0);rw[get_eq K Q,get_eq M R] at b;rw[show a.1.toNat%6=3 by omega,kK] at b;refine⟨_,_,_,rfl,rfl,?_,?_⟩ <;> rw[b]
   ·exact⟨ar,ao⟩
   exact f
  have bO:=Aj aJ;obtain⟨cN,aq⟩:=DE (tw (A0 u1 u2));obtain⟨cL,an⟩:=Bo (em (A0 u1 u2) (y1-y2));refine AB I (Pn (Ga g c (Nat.le_refl Rm)) (EH g c J) (EH g c al) h a8 p aa ak b1 aq an) ?_;conv=>cbv
  refine AB I Jo ?_;conv=>cbv
  rw[m];have b:=Ij (o:=a) N (by omega:a.1.toNat%6≠0);rw[get_eq K Q,get_eq M R] at b;rw[show a.1.toNat%6=2 by omega,kL] at b;refine⟨_,_,_,rfl,rfl,?_,?_⟩ <;> rw[b]
  ·exact⟨aq,an⟩
  exact f
 have cr:=Aj bw;obtain⟨de,aQ⟩:=DE (tw (A0 u1 u2));obtain⟨dd,aP⟩:=Bo (em (A0 u1 u2) (y1+y2));refine AB I (Pf (Ga g c (Nat.le_refl Rm)) (EH g c J) (EH g c al) h a8 p aa ak b1 aQ aP) ?_;conv=>cbv
 refine AB I Jo ?_;conv=>cbv
 rw[m];have b:=Ij (o:=a) N (by omega:a.1.toNat%6≠0);rw[get_eq K Q,get_eq M R] at b;rw[show a.1.toNat%6=1 by omega,kH] at b;refine⟨_,_,_,rfl,rfl,?_,?_⟩ <;> rw[b]
 ·exact⟨aQ,aP⟩
 exact f
def qn (k:Nat):Re:=Re.ofRat ((k:Nat):Rat)
noncomputable def Bm (k:Nat):Nu:=(Ar [] (qn k),Re.sqrt (qn k))
noncomputable def Q0 (k:Nat):Nu:=([],qn k)
theorem Kl:AT []:=trivial
theorem GH (k:Nat) (u:List (List Rat)):In u (qn k):=EK _ u
theorem Fg (k:Nat):0<=qn k:=by
 have:Re.ofRat 0<=Re.ofRat ((k:Nat):Rat):=Re.Kc.2 Rat.natCast_nonneg;exact this
theorem FN {k:Nat} (h:k<18446744073709551616):B9 ((k:Nat):Rat):=by
 refine⟨?_,?_⟩
 ·rw[show ((k:Nat):Rat).num=(k:Int) from rfl,Int.natAbs_natCast];exact h
 rw[show ((k:Nat):Rat).den=1 from rfl];decide
theorem mS {n:Int} (h:n.natAbs<18446744073709551616):B9 ((n:Int):Rat):=⟨h,by rw[show ((n:Int):Rat).den=1 from rfl];decide⟩
theorem Wq {k:Nat} (h:k<18446744073709551616):BP [] (Q0 k):=
 ⟨trivial,GH k [],fun v b=>by simp[Q0,Aq] at b,fun s hs=>by simp[Q0] at hs,fun q a=>by
  have a:q∈co [] (qn k):=a;rw[qn,CQ] at a;rw[List.mem_singleton.1 a];exact FN h⟩
theorem D6 {k:Nat} (h:k<18446744073709551616):BP [qn k] (Bm k):=by
 have f:=Fg k;refine⟨ML Kl (GH k []) f,LM (GH k []) f,fun v g=>?_,fun s hs q b=>?_,fun q b=>?_⟩
 ·rcases Mp (GH k []) v g with rfl | g
  ·exact List.mem_singleton.2 rfl
  simp[Aq] at g
 ·have hs:s∈Ar [] (qn k):=hs
  by_cases a:Sq [] (qn k)
  ·rw[Ec a] at hs;simp at hs
  rw[Dq a] at hs;rw[List.mem_singleton.1 hs,qn,CQ] at b;rw[List.mem_singleton.1 b];exact FN h
 have b:q∈co (Ar [] (qn k)) (Re.sqrt (qn k)):=b
 by_cases a:Sq [] (qn k)
 ·rw[Ec a] at b;obtain⟨r,i⟩:=CN.1 ((JU f).1 a);rw[i,CQ] at b;rw[List.mem_singleton.1 b]
  have c:r*r=((k:Int):Rat):=by
   have:=Re.DS f;rw[i,<-Re.ofRat_mul] at this;exact Re.E0.1 this
  obtain⟨m,hm⟩:=Q1 c;rw[hm];refine mS ?_;rw[hm,<-Rat.intCast_mul] at c;have n:m*m=(k:Int):=Rat.intCast_inj.1 c
  have h3:m.natAbs*m.natAbs=k:=by
   have:=congrArg Int.natAbs n;rwa [Int.natAbs_mul,Int.natAbs_natCast] at this
  have o:m.natAbs<=m.natAbs*m.natAbs:=by
   rcases Nat.eq_zero_or_pos m.natAbs with e | e
   ·omega
   exact Nat.le_mul_of_pos_left _ e
  omega
 have d:=MM Kl (GH k []) (by
  have:qn k≠0:=fun e=>a ⟨0,Bx [],by rw[e];grind⟩
  grind) a
 rw[Dq a,<-Ip (GH k [])] at b;rw[Cz d (Bx []) (OD []) (show rt [] (co [] (qn k))=0+1*rt [] (co [] (qn k)) by grind)] at b;have j:co [] (0:Re)=[0]:=CQ 0;have l:co [] (1:Re)=[1]:=CQ 1;rw[j,l] at b;rcases List.mem_cons.1 b with rfl | b
 ·exact FN (k:=0) (by decide)
 rw[List.mem_singleton.1 b];exact FN (k:=1) (by decide)
theorem KP (u:List (List Rat)):A0 [] u=u:=by
 show DO (DO [] []) u=u
 rw[join_self];unfold DO
 split
 ·rename_i h;exact (List.suffix_nil.1 h).symm
 rw[if_pos (List.nil_suffix)]
theorem iz (u:List (List Rat)):DO [] u=u:=by
 unfold DO
 split
 ·rename_i h;exact (List.suffix_nil.1 h).symm
 rw[if_pos (List.nil_suffix)]
theorem ix (u v:List (List Rat)):A0 u v=DO u v:=by
 show DO (DO [] u) v=_
 rw[iz]
theorem Xu {k m:Nat} (b:m*m<k) (c:k<(m+1)*(m+1)):¬Sq [] (qn k):=by
 rw[qn,Sd]
 rintro⟨r,_,a⟩
 have a:r*r=((k:Int):Rat):=a;obtain⟨n,f⟩:=Q1 a;rw[f,<-Rat.intCast_mul] at a;have h3:n*n=(k:Int):=Rat.intCast_inj.1 a
 have d:n.natAbs*n.natAbs=k:=by
  have:=congrArg Int.natAbs h3;rwa [Int.natAbs_mul,Int.natAbs_natCast] at this
 rw[<-d] at b c;have g:=Nat.mul_self_lt_mul_self_iff.1 b;have h:=Nat.mul_self_lt_mul_self_iff.1 c;omega
theorem lu {a b:Re} (ha:0<=a) (hb:0<=b):Re.sqrt a*Re.sqrt b=Re.sqrt (a*b):=by
 have c:=Re.DS ha;have d:=Re.DS hb;have h3:=Re.DS (Re.IU ha hb);refine Re.Hv (Re.IU (Re.Ev a) (Re.Ev b)) (Re.Ev _) ?_;rw[h3];grind
theorem lE (a b:Nat):qn (a*b)=qn a*qn b:=by
 rw[qn,Fp,Re.ofRat_mul];rfl
theorem lD (a b:Nat):qn (a+b)=qn a+qn b:=by
 rw[qn,Rat.natCast_add,Re.ofRat_add];rfl
theorem Se (a b:Nat):Re.sqrt (qn (a*b))=Re.sqrt (qn a)*Re.sqrt (qn b):=by
 rw[lu (Fg a) (Fg b),lE]
noncomputable def Dh:Re:=qn 5+qn 2*Re.sqrt (qn 6)
theorem u6:Ar [] (qn 6)=[[6]]:=by
 rw[Dq (Xu (k:=6) (m:=2) (by decide) (by decide)),qn,CQ];rfl
theorem MK:AT [[6]]:=by rw[<-u6];exact (D6 (k:=6) (by decide)).red
theorem ZJ:rt [] [6]=Re.sqrt (qn 6):=by
 have:=Ip (u:=[]) (v:=qn 6) (GH 6 []);rw[qn,CQ] at this;exact this
theorem Qv:In [[6]] Dh:=CW.2 ⟨qn 5,qn 2,GH 5 [],GH 2 [],by rw[ZJ];rfl⟩
theorem VS:co [[6]] Dh=[5,2]:=by
 rw[Cz MK (GH 5 []) (GH 2 []) (show Dh=qn 5+qn 2*rt [] [6] by rw[ZJ];rfl),qn,qn,CQ,CQ];rfl
theorem IJ:0<=Dh:=by
 have a:=Fg 5;have b:=Re.IU (Fg 2) (Re.Ev (qn 6));unfold Dh;grind
theorem HK:BP [qn 6] ([[6]],Dh):=by
 have b:=D6 (k:=6) (by decide);refine⟨MK,Qv,?_,?_,fun q a=>?_⟩
 ·have:=b.Aq;rw[Bm,u6] at this;exact this
 ·have:=b.E2;rw[Bm,u6] at this;exact this
 have a:q∈co [[6]] Dh:=a;rw[VS] at a;rcases List.mem_cons.1 a with rfl | a
 ·exact FN (k:=5) (by decide)
 rw[List.mem_singleton.1 a];exact FN (k:=2) (by decide)
theorem Xm:Re.sqrt Dh=Re.sqrt (qn 2)+Re.sqrt (qn 3):=by
 have c:=Re.DS (Fg 2);have h3:=Re.DS (Fg 3);have d:=Re.Ev (qn 2);have f:=Re.Ev (qn 3);refine Re.Hv (Re.Ev _) (by grind) ?_;rw[Re.DS IJ,Dh,show (6:Nat)=2*3 from rfl,Se 2 3];have b:qn 5=qn 2+qn 3:=lD 2 3;have a:qn 2=2:=rfl
 grind
def PA (u:List (List Rat)):Prop:=u<:+Ar [[6]] Dh\/u<:+Ar [] (qn 2)\/u<:+Ar [] (qn 3)
theorem PA.EL:DU PA 256:=by
 have g:=ML MK Qv IJ;have b:=(D6 (k:=2) (by decide)).red;have c:=(D6 (k:=3) (by decide)).red
 have t2:TB 256 (Ar [] (qn 2)):=by
  intro r a;refine (F8 ((D6 (k:=2) (by decide)).E2 r a)).mono ?_;have:=Kk b a;have h:=(D6 (k:=2) (by decide)).len;have:2^(Bm 2).1.length<=2^1:=CP h;have:(2:Nat)^1=2:=rfl;have e:(Bm 2).1=Ar [] (qn 2):=rfl;rw[e] at*;omega
 have t3:TB 256 (Ar [] (qn 3)):=by
  intro r a;refine (F8 ((D6 (k:=3) (by decide)).E2 r a)).mono ?_;have:=Kk c a;have h:=(D6 (k:=3) (by decide)).len;have:2^(Bm 3).1.length<=2^1:=CP h;have:(2:Nat)^1=2:=rfl;have e:(Bm 3).1=Ar [] (qn 3):=rfl;rw[e] at*;omega
 have d:∀q∈([6]:List Rat),B9 q:=fun q f=>by rw[List.mem_singleton.1 f];exact FN (k:=6) (by decide)
 have t1:TB 256 (Ar [[6]] Dh):=by
  by_cases hs:Sq [[6]] Dh
  ·rw[Ec hs];intro r a;rw[List.mem_singleton.1 a];exact (F8 d).mono (by decide)
  rw[Dq hs];intro r a;rcases List.mem_cons.1 a with rfl | a
  ·exact (F8 HK.cos).mono (by show 64*(co [[6]] Dh).length<=256;rw[VS];decide)
  rw[List.mem_singleton.1 a];exact (F8 d).mono (by decide)
 refine⟨fun {u} h=>?_,fun {u} h=>?_,fun {r u} h=>?_⟩
 ·rcases h with h | h | h
  ·exact Il h g
  ·exact Il h b
  exact Il h c
 ·rcases h with h | h | h
  ·exact fun r a=>t1 r (h.subset a)
  ·exact fun r a=>t2 r (h.subset a)
  exact fun r a=>t3 r (h.subset a)
 rcases h with h | h | h
 ·exact .inl ((List.suffix_cons r u).trans h)
 ·exact .inr (.inl ((List.suffix_cons r u).trans h))
 exact .inr (.inr ((List.suffix_cons r u).trans h))
theorem PA.Aq {u:List (List Rat)} (h:PA u):∀v∈Aq u,v∈[Dh,qn 6,qn 2,qn 3]:=by
 intro v a;rcases h with h | h | h
 ·rcases Mp Qv v (JX h v a) with rfl | a
  ·simp
  have:=HK.Aq v a;rw[List.mem_singleton.1 this];simp
 ·have:=(D6 (k:=2) (by decide)).Aq v (JX h v a);rw[List.mem_singleton.1 this];simp
 have:=(D6 (k:=3) (by decide)).Aq v (JX h v a);rw[List.mem_singleton.1 this];simp
theorem Wj {u:List (List Rat)} {x y:Re} {k:Nat} (h:AT u) (a:k≠0) (b:In u x) (e:x=qn k*y):In u y:=by
 obtain⟨i,hi,c⟩:=Eg h (GH k u) (fun e=>a (by
  have:Re.ofRat ((k:Nat):Rat)=Re.ofRat ((0:Nat):Rat):=e;exact Rat.natCast_inj.1 (Re.E0.1 this)))
 have:y=x*i:=by grind
 rw[this];exact Ak h b hi
theorem Si {u:List (List Rat)} (h:AT u) (a:In u (Re.sqrt (qn 2))\/In u (Re.sqrt (qn 3))/\In u (Re.sqrt (qn 6))) (b:In u (Re.sqrt (qn 3))\/In u (Re.sqrt (qn 2))/\In u (Re.sqrt (qn 6))):
  In u (Re.sqrt (qn 2))/\In u (Re.sqrt (qn 3))/\In u (Re.sqrt (qn 6))/\In u (Re.sqrt Dh):=by
 have f:=Re.DS (Fg 2);have h3:=Re.DS (Fg 3);have c:Re.sqrt (qn 6)=Re.sqrt (qn 2)*Re.sqrt (qn 3):=Se 2 3;have k2:In u (Re.sqrt (qn 2)):=a.elim id fun⟨x,y⟩=>Wj h (k:=3) (by decide) (Ak h x y) (by rw[c];grind)
 have d:In u (Re.sqrt (qn 3)):=b.elim id fun⟨x,y⟩=>Wj h (k:=2) (by decide) (Ak h x y) (by rw[c];grind)
 exact⟨k2,d,by rw[c];exact Ak h k2 d,by rw[Xm];exact C0 k2 d⟩
theorem jn {α:Type} {l m:List α} (h:l.Nodup) (f:∀x∈l,x∈m) (hm:m.length<=l.length):∀x∈m,x∈l:=by
 intro x i;apply Classical.byContradiction;intro g;obtain⟨a,b,rfl⟩:=List.append_of_mem i
 have:=IW (l:=l) (m:=a++b) h (fun y d=>by
  rcases List.mem_append.1 (f y d) with c | c
  ·exact List.mem_append_left _ c
  rcases List.mem_cons.1 c with rfl | c
  ·exact absurd d g
  exact List.mem_append_right _ c)
 rw[List.length_append,List.length_cons] at hm;rw[List.length_append] at this;omega
theorem PA.len {u:List (List Rat)} (h:Tf PA u):u.length<=3:=by
 have c:=h.red PA.EL;have i:=h.Aq PA.EL (fun h=>PA.Aq h);have g:=Hw c;have p:=IW g i;rw[Iu] at p;apply Classical.byContradiction;intro k;have d:=jn g i (by rw[Iu];show 4<=u.length;omega)
 match u,c,i,d,k with
 | [],_,_,_,k=>simp at k
 | r::u,c,i,d,k=>
  have hs:¬In u (Re.sqrt (AM u r)):=fun hi=>c.2.2.2 ⟨_,hi,Re.DS (by have:=c.2.2.1;grind)⟩
  have key:∀v∈[Dh,qn 6,qn 2,qn 3],v≠AM u r->In u (Re.sqrt v):=fun v n m=>by
   rcases List.mem_cons.1 (d v n) with e | e
   ·exact absurd e m
   exact JW e
  have o:=i (AM u r) List.mem_cons_self;have ne:∀{a b:Nat},a≠b->qn a≠qn b:=fun {a b} l e=>l (Rat.natCast_inj.1 (Re.E0.1 e))
  by_cases f:AM u r=qn 2
  ·have a:=key (qn 3) (by simp) (by rw[f];exact ne (by decide));have b:=key (qn 6) (by simp) (by rw[f];exact ne (by decide));exact hs (by rw[f];exact (Si c.1 (.inr ⟨a,b⟩) (.inl a)).1)
  have k2:=key (qn 2) (by simp) (Ne.symm f)
  by_cases j:AM u r=qn 3
  ·have b:=key (qn 6) (by simp) (by rw[j];exact ne (by decide));exact hs (by rw[j];exact (Si c.1 (.inl k2) (.inr ⟨k2,b⟩)).2.1)
  have q:=key (qn 3) (by simp) (Ne.symm j);have t:=Si c.1 (.inl k2) (.inl q);simp only[List.mem_cons,List.not_mem_nil,or_false] at o;rcases o with e | e | e | e
  ·exact hs (by rw[e];exact t.2.2.2)
  ·exact hs (by rw[e];exact t.2.2.1)
  ·exact f e
  exact j e
theorem PA.KK {S:Nat} (a:Rm<=S) (b:S<=Sm):Cj (Tf PA) Rm Cm S:=Qn PA.EL (fun h=>PA.len h) a b
theorem pF (X:List (el Bn)):∃V:List Re,V.length<=3/\∀n∈(runN X).1,BP V n:=by
 obtain⟨h3,V,hV,a⟩:=SM X;exact⟨V,Nat.le_trans hV h3,a⟩
instance (q:Rat):Decidable (B9 q):=inferInstanceAs (Decidable (_/\_))
theorem F1 {q:Rat} (h:B9 q):Bu q:=⟨by have:=OK.2 h.1;omega,by have:=OK.2 h.2;omega⟩
def orM (g:Nat->Nat):List Nat->Nat
 | []=>0
 | k::r=>Nat.lor (Nat.lor (Nat.pow 2 k) (g k)) (orM g r)
def FV (acc:List Nat) (n k:Nat):Nat:=match Nat.ble (k+1) n with | true=>acc.getD (n-1-k) 0 | false=>0
def LW:List Oper->List Nat->Nat->List Nat
 | [],acc,_=>acc
 | o::r,acc,n=>LW r (orM (FV acc n) (Ed o)::acc) (n+1)
def Ro (ops:List Oper) (tr:Tr):Bool:=Ue ops&&((fun acc=>(List.range ops.length).all fun j=>(List.range j).all fun i=>
 Nat.testBit (FV acc ops.length j) i||
  (match ops[i]?,ops[j]?,tr[i]?,tr[j]? with
   | some oi,some oj,some ti,some tj=>LN ops oi oj ti tj
   | _,_,_,_=>false)) (LW ops [] 0))
theorem YN {g:Nat->Nat} {i:Nat}:∀{l:List Nat},(orM g l).testBit i=true↔∃k∈l,i=k\/(g k).testBit i=true
 | []=>by simp[orM]
 | k::r=>by
  have c:=YN (g:=g) (i:=i) (l:=r)
  show ((2^k ||| g k) ||| orM g r).testBit i=true↔_
  rw[Nat.testBit_or,Nat.testBit_or,Nat.testBit_two_pow,Bool.or_eq_true,Bool.or_eq_true,c];simp only[List.mem_cons,decide_eq_true_eq]
  constructor
  ·rintro ((h | h) |⟨m,b,a⟩)
   ·exact⟨k,.inl rfl,.inl h.symm⟩
   ·exact⟨k,.inl rfl,.inr h⟩
   exact⟨m,.inr b,a⟩
  rintro⟨m,rfl | b,a⟩
  ·exact .inl (a.imp Eq.symm id)
  exact .inr ⟨m,b,a⟩
theorem eV {x:Nat} {acc:List Nat} {n k:Nat} (h:k≠n):FV (x::acc) (n+1) k=FV acc n k:=by
 unfold FV
 by_cases c:k<n
 ·rw[Nat.ble_eq_true_of_le (by omega:k+1<=n+1),Nat.ble_eq_true_of_le (by omega:k+1<=n)]
  show (x::acc).getD (n+1-1-k) 0=acc.getD (n-1-k) 0
  rw[show n+1-1-k=(n-1-k)+1 by omega];rfl
 have a:Nat.ble (k+1) (n+1)=false:=by rw[<-Bool.not_eq_true,Nat.ble_eq];omega
 have b:Nat.ble (k+1) n=false:=by rw[<-Bool.not_eq_true,Nat.ble_eq];omega
 rw[a,b]
theorem Un:∀(ops:List Oper) {acc:List (List Nat)} {m:List Nat},(∀j i,(FV m acc.length j).testBit i=true↔i∈acc.getD j [])->∀j i,(FV (LW ops m acc.length) (acc.length+ops.length) j).testBit i=true↔i∈(FB ops acc).getD j []
 | [],_,_,h=>h
 | o::r,acc,m,h=>by
  rw[FB,LW]
  have:=Un r (acc:=acc++[(Ed o).flatMap fun j=>j::acc.getD j []]) (m:=orM (FV m acc.length) (Ed o)::m) (fun j i=>by
   rw[List.length_append,List.length_singleton]
   by_cases e:j=acc.length
   ·subst e
    have b:FV (orM (FV m acc.length) (Ed o)::m) (acc.length+1) acc.length=orM (FV m acc.length) (Ed o):=by
     unfold FV;rw[Nat.ble_eq_true_of_le (Nat.le_refl _)]
     show (_::m).getD (acc.length+1-1-acc.length) 0=_
     rw[show acc.length+1-1-acc.length=0 by omega];rfl
    rw[b,YN];have c:(acc++[(Ed o).flatMap fun j=>j::acc.getD j []]).getD acc.length []=(Ed o).flatMap fun j=>j::acc.getD j []:=by simp
    rw[c,List.mem_flatMap]
    constructor
    ·rintro⟨k,a,h'⟩;exact⟨k,a,List.mem_cons.2 (h'.imp id (h k i).1)⟩
    rintro⟨k,a,h'⟩;exact⟨k,a,(List.mem_cons.1 h').imp id (h k i).2⟩
   rw[eV e,h]
   by_cases d:j<acc.length
   ·simp only[List.getD_eq_getElem?_getD,List.getElem?_append_left d]
   simp only[List.getD_eq_getElem?_getD];rw[List.getElem?_eq_none (by omega),List.getElem?_eq_none (by simp;omega)])
  rw[List.length_append,List.length_singleton] at this;rw[List.length_cons,show acc.length+(r.length+1)=acc.length+1+r.length by omega];exact this
theorem kA {ops:List Oper} {tr:Tr} (h:Ro ops tr=true):Ia ops tr=true:=by
 unfold Ro at h;unfold Ia;rw[Bool.and_eq_true] at h ⊢;refine⟨h.1,?_⟩;have a:=Un ops (acc:=[]) (m:=[]) (fun j i=>by unfold FV;split <;> simp);rw[List.length_nil,Nat.zero_add] at a
 have e:∀j i,((FB ops []).getD j []).contains i=Nat.testBit (FV (LW ops [] 0) ops.length j) i:=fun j i=>by
  rw[Bool.eq_iff_iff,List.contains_iff_mem];exact (a j i).symm
 have b:=h.2;unfold YG;simp only[e];exact b
end Go.Abs
