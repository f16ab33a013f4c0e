/- Part 26 of a proof. Conditions: each theorem's own. -/
import Derived.Test.YtmaoeopjnhfplaaGreatPk24
set_option linter.all false
set_option maxHeartbeats 8000000
set_option maxRecDepth 20000
open Go.Proofs
namespace Go.Abs
open Go.RowKit
theorem ch {o:el Bh} {n d:Int} (a:n=L5 o.2.2.2.1) (b:d=((o.2.2.2.2.toNat%8+1:Nat):Int)):IL o=Rat.divInt n d:=by subst a b;rfl
theorem O7 {st:List Nu×Nat} {o:el Bh} (h:st.1=[]\/o.1.toNat%6=0):Eu st o=(([],Re.ofRat (IL o)),st.2):=by unfold Eu;rw[if_pos h]
theorem LL {st:List Nu×Nat} {o:el Bh} (a:st.1≠[]) (b:o.1.toNat%6≠0):Eu st o=Fq (o.1.toNat%6) (EG st.1 o.2.1.toNat) (EG st.1 o.2.2.1.toNat) st.2:=by
 unfold Eu;rw[if_neg (fun h=>h.elim a b)]
theorem pI (a b:Nu) (r:Nat):Fq 1 a b r=((Bz a.1 b.1,a.2+b.2),r):=by unfold Fq;rw[if_pos rfl]
theorem pM (a b:Nu) (r:Nat):Fq 2 a b r=((Bz a.1 b.1,a.2-b.2),r):=by unfold Fq;rw[if_neg (by decide),if_pos rfl]
theorem pL (a b:Nu) (r:Nat):Fq 3 a b r=((Bz a.1 b.1,a.2*b.2),r):=by unfold Fq;rw[if_neg (by decide),if_neg (by decide),if_pos rfl]
theorem pK {a b:Nu} (r:Nat) (h:b.2=0):Fq 4 a b r=(a,r):=by unfold Fq;rw[if_neg (by decide),if_neg (by decide),if_neg (by decide),if_pos rfl,if_pos h]
theorem pJ {a b:Nu} (r:Nat) (h:b.2≠0):Fq 4 a b r=((Bz a.1 b.1,a.2*AE b.2),r):=by unfold Fq;rw[if_neg (by decide),if_neg (by decide),if_neg (by decide),if_pos rfl,if_neg h]
theorem bW (a b:Nu) {r:Nat} (h:r<3):Fq 5 a b r=((Aj a.1 (FH a.2),Re.sqrt (FH a.2)),r+1):=by unfold Fq;rw[if_neg (by decide),if_neg (by decide),if_neg (by decide),if_neg (by decide),if_pos h]
theorem bV (a b:Nu) {r:Nat} (h:¬r<3):Fq 5 a b r=(a,r):=by unfold Fq;rw[if_neg (by decide),if_neg (by decide),if_neg (by decide),if_neg (by decide),if_neg h]
theorem get_eq {ns:List Nu} {i j:Nat} {n:Nu} (h:ns[j]? =some n) (a:j=i%ns.length):EG ns i=n:=by
 unfold EG;rw[List.getD_eq_getElem?_getD,<-a,h];rfl
theorem mU:∀h,h<=3->II h Rm Rm<=60000000000000
 |0,_|1,_|2,_|3,_=>by decide +kernel
 | _+4,h=>absurd h (by omega)
theorem mV:∀h,h<=3->II h 256 512<=Rm
 |0,_|1,_|2,_|3,_=>by decide +kernel
 | _+4,h=>absurd h (by omega)
section
variable {V:List Re} {ns:List Nu}
theorem CL.tb {n:Nu} (h:CL V n) (hV:V.length<=3):TB 256 n.1:=(PN.Kq (ns:=[n]) hV (fun m hm=>by rw[List.mem_singleton.1 hm];exact h)).tb (PN.self (List.mem_singleton.2 rfl))
theorem CL.inv {n:Nu} (h:CL V n) (hV:V.length<=3) (a:n.2≠0):El n.1 Rm (AE n.2):=by
 have b:=Nat.le_trans h.len hV;have ht:Bb 256 n.1:=⟨h.red,h.tb hV,by decide,by omega⟩;exact ((h.el hV).inv ht (Qx h.red h.mem a) (F6 a)).mono (mV _ b)
theorem CL.abs {n:Nu} (h:CL V n):CL V (n.1,FH n.2):=by
 refine⟨h.red,Zn h.mem,h.BP,h.Je,fun q a=>?_⟩;have a:q∈co n.1 (FH n.2):=a;unfold FH at a
 split at a
 ·rw[MT h.red h.mem] at a;obtain⟨p,b,rfl⟩:=List.mem_map.1 a;have:=h.cos p b;exact⟨by show (-p.num).natAbs<_;rw[Int.natAbs_neg];exact this.1,this.2⟩
 exact h.cos q a
theorem dJ {n:Nu} (h:CL V n) (hV:V.length<=2) (f:0<=n.2) {S:Nat} (g:Rm<=S) (i:S<=Sm:=by first|omega|decide):EM (Tf fun u=>u<:+Aj n.1 n.2) Rm Cm S/\Tf (fun u=>u<:+Aj n.1 n.2) n.1/\Tf (fun u=>u<:+Aj n.1 n.2) (Aj n.1 n.2):=by
 have j:=Ec h.red h.mem f;have k:=h.len
 have b:TB 256 (Aj n.1 n.2):=by
  by_cases d:Sq n.1 n.2
  ·rw[ED d];exact h.tb (by omega)
  rw[C8 d];intro r a;rcases List.mem_cons.1 a with rfl | a
  ·refine (QG h.cos).mono ?_;rw[EF h.mem];have:2^n.1.length<=2^2:=C0;omega
  exact h.tb (by omega) r a
 have I:CA (fun u=>u<:+Aj n.1 n.2) 256:=⟨fun {u} hu=>Vq hu j,fun {u} hu=>fun r a=>b r (hu.subset a),fun {r u} hu=>(List.suffix_cons r u).trans hu⟩;refine⟨ZZ I (fun {u} hu=>?_) g i,Tf.of I (QC _ _),Tf.of I (List.suffix_refl _)⟩
 have:=hu.len I (V:=n.2::V) (fun {u} hu v c=>by
  rcases fE h.mem v (fF hu v c) with rfl | c
  ·exact List.mem_cons_self
  exact List.mem_cons_of_mem _ (h.BP v c))
 rw[List.length_cons] at this;omega
theorem lJ (hV:V.length<=3) (c:∀n∈ns,CL V n) {a b:Nu} (ha:a∈ns) (hb:b∈ns) {r:Nat}:∃(T A h g:_) (e:Int),CF 172 [.agg [.sl (.sl AA) (tw a.1),.sl AA (em a.1 a.2)],.agg [.sl (.sl AA) (tw b.1),.sl AA (em b.1 b.2)]] (.AI [(true,(As T A)),(false,[.int .i64 e])])/\
  CF 223 [.agg [.sl (.sl AA) T,.sl AA A],.one (.int .i64 e),.agg [.sl (.sl AA) (tw a.1),.sl AA (em a.1 a.2)]] (.agg [.sl (.sl AA) h,.sl AA g])/\h=tw (Fq 4 a b r).1.1/\g=em (Fq 4 a b r).1.1 (Fq 4 a b r).1.2/\(Fq 4 a b r).2=r:=by
 have G:=Lp hV c (Nat.le_refl Rm);have i:=((c a ha).el hV).mono (by decide:512<=Rm);have j:=((c b hb).el hV).mono (by decide:512<=Rm)
 by_cases d:b.2=0
 ·rw[pK r d];exact⟨_,_,_,_,_,iM G (G1 hV c ha) (G1 hV c hb) rfl rfl rfl rfl i j d,jG,rfl,rfl,rfl⟩
 rw[pJ r d];have f:=Nat.le_trans (c b hb).len hV;exact⟨_,_,_,_,_,XK G (G1 hV c ha) (G1 hV c hb) rfl rfl rfl rfl i j (Qx (c b hb).red (c b hb).mem d) (F6 d) ((c b hb).inv hV d) (mU _ f) rfl rfl,MF,rfl,rfl,rfl⟩
end
theorem nB (x:Nu):Hg [] x=x:=by unfold Hg;rw[if_neg (fun h=>h.1 rfl)]
theorem nA {l:List Nu} {x:Nu} (h:l≠[]) (a:Ka x):Hg l x=l.getLastD JD:=by unfold Hg;rw[if_pos ⟨h,a⟩]
theorem nC {l:List Nu} {x:Nu} (a:¬Ka x):Hg l x=x:=by unfold Hg;rw[if_neg (fun h=>a h.2)]
theorem aI {n:Nu}:Pm n.1.reverse (co n.1 n.2)↔Ka n:=by
 unfold Pm Ka;simp only[List.mem_reverse]
theorem nF {l:List Nu} {j:Nat} {n:Nu} (h:l[j]? =some n) (a:j+1=l.length):l.getLastD JD=n:=by
 rw[List.getLastD_eq_getLast?,List.getLast?_eq_getElem?,show l.length-1=j by omega,h];rfl
theorem dW:∀(xs:List (el Bh)) (st:List Nu×Nat),(xs.foldl KV st).1.length=st.1.length+xs.length
 | [],_=>rfl
 | o::xs,st=>by
  rw[List.foldl_cons,dW xs (KV st o),List.length_cons];unfold KV;rw[List.length_append,List.length_singleton];omega
theorem rF {x:Re} (h:Bi x<0):x<0:=by rcases GR x with⟨a,b⟩ |⟨a,b⟩ |⟨a,b⟩ <;> first | exact a | (exfalso;omega)
theorem rE {x:Re} (h:¬Bi x<0):¬x<0:=by rcases GR x with⟨a,b⟩ |⟨a,b⟩ |⟨a,b⟩ <;> first | (exfalso;omega) | (rw[a];exact fun h=>by grind) | (intro h;grind)
theorem XG {X:List (el Bh)} {L:List (el Bc)} (hL:L=(runN (X.take 24)).1.map nm):CF 153 [.one (.sl Bh X)] (.one (.sl Bc L)):=by
 refine Av Tryz.func153 fun E I=>?_
 conv=>cbv
 refine .inr ?_;obtain⟨J0,aC⟩:=xJ fun vs bl k=>(vs=[.one (.sl Bh X),.one .nil,.one (.int .i64 0),.one (.int .i64 0)]/\bl=[.dead 0]/\k=24)\/(∃(o:List (el Bc)) (n k':Nat) (rr j:Int),vs=[.one (.sl Bh X),.one (.BI Bc 157 0 0 n),.one (.int .i64 rr),.one (.int .i64 j)]/\bl=[.arr 0 Bc o]/\(BG j k'/\k'<=X.length/\k'<=24/\0<k'/\n=o.length)/\(o=(runN (X.take k')).1.map nm/\BG rr (runN (X.take k')).2)/\k=24-k')
 refine⟨[0,3,4,5],[157],J0,⟨24,by rw[aC];exact .inl ⟨rfl,rfl,rfl⟩⟩,?_⟩;intro vs bl dp hj;rw[aC] at hj;rcases hj with⟨rfl,rfl,aE⟩ |⟨o,n,k',rr,j,rfl,rfl,⟨hj,dm,cT,bK,hn⟩,⟨ho,f⟩,aE⟩
 ·conv=>cbv
  obtain⟨k',aE⟩:=xN 0;obtain⟨S,V,hV,c⟩:=V3 (X.take k');obtain⟨st,B⟩:∃s,s=runN (X.take k'):=⟨_,rfl⟩
  rw[<-B] at S hV c;have a7:st.1=[]:=by rw[B,aE];rfl
  have bO:st.2=0:=by rw[B,aE];rfl
  rintro cC ⟨c6,f22⟩;conv=>cbv
  intro bc ad;conv=>cbv
  cases bc <;> conv=>cbv
  ·have ba:=BX ad;exact AF ⟨⟨rfl,.inr (.inl ⟨_,congrArg _ (by rw[hL,show X.take 24=[] by rw[List.take_eq_nil_iff];right;exact List.eq_nil_of_length_eq_zero (by omega)];rfl)⟩),trivial⟩,trivial⟩
  have ba:=BY ad;refine BM ?_;conv=>cbv
  refine .inr ?_;obtain⟨a,F⟩:=Ao (l:=X) (i:=0) (by omega);refine⟨a,fun _=>⟨by omega,F⟩,?_⟩;try conv=>cbv
  intro bf ae;have aZ:=ae.eq;have f33:=ae.lt;conv=>cbv
  intro aw P;have ab:=P.eq;have br:=P.lt;conv=>cbv
  intro a6 A;have Y:=A.eq;have b0:=A.lt;conv=>cbv
  intro O u;have H:=u.eq;have aA:=u.lt;conv=>cbv
  have ct:bf=((a.1.toNat:Nat):Int):=aZ;have cu:aw=((a.2.1.toNat:Nat):Int):=ab;have cv:a6=((a.2.2.1.toNat:Nat):Int):=Y;have cw:O=((a.2.2.2.2.toNat:Nat):Int):=H;intro bg Z;conv=>cbv
  have Z:=wrap_i64 Z;have af:bg=L5 a.2.2.2.1:=Z;intro cE c8;conv=>cbv
  refine AY ?_;intro cF ag;conv=>cbv
  have ag:=wrap_i64 ag;intro bh c9;conv=>cbv
  refine Ah ?_;obtain⟨aF,U⟩:=EV (em [] (Re.ofRat (IL a)));have cx:=We a.2.2.2.1;refine AB (r:= .agg [.sl (.sl AA) (([]:List LR)),.sl AA aF]) I (XL (q:=IL a) (by omega) (by omega) (by omega) (ch af (by show bh=((a.2.2.2.2.toNat%8+1:Nat):Int);omega)) U) ?_;try conv=>cbv
  refine AR ?_;conv=>cbv
  refine .inr ?_;refine AR ?_;conv=>cbv
  refine .inr ?_;obtain⟨_,aY,cl,aO,b9⟩:=O6 (st:=st) ⟨S,V,hV,c⟩ a;have cm:aY.length<=8:=by have:=(O6 (st:=st) ⟨S,V,hV,c⟩ a).1;omega
  have v:=UZ (l:=[]) (x:=(Eu st a).1) (fun n hn=>by simp at hn) b9 (fun he=>by rw[O7 (.inl a7)];exact Vg a);obtain⟨kk,a5⟩:∃z:Nu,z=Hg [] (Eu st a).1:=⟨_,rfl⟩
  rw[<-a5] at v;have t:=WW v.red v.mem;have bL:kk=([],Re.ofRat (IL a)):=by rw[a5,nB,O7 (.inl a7)]
  have ck:(([]:List LR):List LR)=tw kk.1:=by rw[bL];rfl
  have cj:aF=em kk.1 kk.2:=by rw[bL];exact U
  obtain⟨y,D⟩:=H0 (tw (Hn kk).1);obtain⟨w,C⟩:=EV (em (Hn kk).1 (Hn kk).2);refine AB (r:= .agg [.sl (.sl AA) y,.sl AA w]) I (XS v.red v.mem (by have:=v.len;omega) (by rw[t.1,t.2.2]) ck cj D (by rw[C,t.2.2])) ?_;try conv=>cbv
  refine⟨[(y,w)],fun _=>⟨rfl,by decide,rfl,⟨rfl,by first | exact t1 | exact t2 | exact t4 | simp[Bg,Bo,cells],trivial⟩⟩,.inr ?_⟩;try conv=>cbv
  refine .inl ⟨[(y,w)],fun _=>⟨rfl,by show (1)*48<=140737488355328;(try simp only[List.length_take,List.length_drop]);omega⟩,?_⟩;intro aV bu;conv=>cbv
  intro bd c7;conv=>cbv
  refine Ah ?_;refine⟨24-(k'+1),?_,?_⟩
  ·omega
  rw[aC];have G:X[k']? =some a:=by (first | exact F | (rw[<-F];congr 1 <;> omega))
  refine .inr ⟨_,_,k'+1,0,bd,rfl,rfl,⟨⟨by omega⟩,by have:=J6 G;omega,by omega,by omega,bu⟩,?_,rfl⟩;rw[Cb (x:=a) G,dR,<-B];refine⟨by rw[KV,a7,List.nil_append,<-a5,D,C];rfl,?_⟩
  show BG 0 (Eu st a).2
  rw[O7 (.inl a7),bO];exact Bv 0
 conv=>cbv
 have ej:=hj.eq;have az:=f.eq;obtain⟨S,V,hV,c⟩:=V3 (X.take k');obtain⟨st,B⟩:∃s,s=runN (X.take k'):=⟨_,rfl⟩
 rw[<-B] at S hV c;rw[<-B] at ho f az;have hlen:st.1.length=k':=by rw[B,runN,dW,List.length_nil,List.length_take];omega
 have dn:o.length=k':=by rw[ho,List.length_map,hlen]
 have N:st.1≠[]:=fun e=>by rw[e] at hlen;simp at hlen;omega
 have g:=Nat.le_trans hV S;rintro cC ⟨c6,f22⟩;conv=>cbv
 intro bc ad;conv=>cbv
 cases bc <;> conv=>cbv
 ·have ba:=BX ad;exact AF ⟨⟨rfl,.inl ⟨_,rfl,by omega,congrArg _ (by have e:X.take 24=X.take k':=(by first | rw[show k'=24 by omega] | rw[List.take_of_length_le (by omega),List.take_of_length_le (by omega)]);rw[hL,hn,List.drop_zero,List.take_length,ho,B,e])⟩,trivial⟩,trivial⟩
 have ba:=BY ad;intro cD bw;conv=>cbv
 cases cD <;> conv=>cbv
 ·have cy:=BX bw;exact AF ⟨⟨rfl,.inl ⟨_,rfl,by omega,congrArg _ (by have e:X.take 24=X.take k':=(by first | rw[show k'=24 by omega] | rw[List.take_of_length_le (by omega),List.take_of_length_le (by omega)]);rw[hL,hn,List.drop_zero,List.take_length,ho,B,e])⟩,trivial⟩,trivial⟩
 have cy:=BY bw;refine .inr ?_;obtain⟨a,F⟩:=Ao (l:=X) (i:=k') (by omega);refine⟨a,fun _=>⟨by omega,by rw[show (j).toNat=k' by omega];exact F⟩,?_⟩;try conv=>cbv
 intro bf ae;have aZ:=ae.eq;have f33:=ae.lt;conv=>cbv
 intro aw P;have ab:=P.eq;have br:=P.lt;conv=>cbv
 intro a6 A;have Y:=A.eq;have b0:=A.lt;conv=>cbv
 intro O u;have H:=u.eq;have aA:=u.lt;conv=>cbv
 have ct:bf=((a.1.toNat:Nat):Int):=aZ;have cu:aw=((a.2.1.toNat:Nat):Int):=ab;have cv:a6=((a.2.2.1.toNat:Nat):Int):=Y;have cw:O=((a.2.2.2.2.toNat:Nat):Int):=H;intro bg Z;conv=>cbv
 have Z:=wrap_i64 Z;have af:bg=L5 a.2.2.2.1:=Z;intro cE c8;conv=>cbv
 refine AY ?_;intro cF ag;conv=>cbv
 have ag:=wrap_i64 ag;intro bh c9;conv=>cbv
 refine Ah ?_;obtain⟨aF,U⟩:=EV (em [] (Re.ofRat (IL a)));have cx:=We a.2.2.2.1;refine AB (r:= .agg [.sl (.sl AA) (([]:List LR)),.sl AA aF]) I (XL (q:=IL a) (by omega) (by omega) (by omega) (ch af (by show bh=((a.2.2.2.2.toNat%8+1:Nat):Int);omega)) U) ?_;try conv=>cbv
 intro dq ca;have dd:=ca.eq;conv=>cbv
 intro cG bx;conv=>cbv
 cases cG <;> conv=>cbv
 ·have bZ:=Ct bx;exact absurd bZ (by omega)
 have bZ:=Cu bx;intro dr dj;conv=>cbv
 refine AY ?_;intro cH bz;conv=>cbv
 obtain⟨c5,m⟩:=xK fun vs bl=>∃(T7:List LR) (A7:LR) (r7:Int),vs=[.one (.sl Bh X),.one (.BI Bc 157 0 0 n),.one (.int .i64 r7),.one (.int .i64 j),.one (.BC 7 0 0)]/\bl=[.var 0 [.sl (.sl AA) T7,.sl AA A7],.arr 0 Bc o]/\(T7=tw (Eu st a).1.1/\A7=em (Eu st a).1.1 (Eu st a).1.2)/\BG r7 (Eu st a).2
 refine .inl ⟨[0,3,4,5,7],[7,157],c5,?_,?_⟩
 ·intro vs bl hj;rw[m] at hj;obtain⟨T7,A7,r7,rfl,rfl,⟨bG,bE⟩,bM⟩:=hj;conv=>cbv
  have di:=bM.eq;intro cW bs;have cQ:=bs.eq;conv=>cbv
  intro c3 aN;conv=>cbv
  cases c3 <;> conv=>cbv
  ·have aU:=Ct aN;exact absurd aU (by omega)
  have aU:=Cu aN;obtain⟨bq,a2⟩:=Ep (Pm (Eu st a).1.1.reverse (co (Eu st a).1.1 (Eu st a).1.2));refine AB I (jF bG bE a2) ?_;conv=>cbv
  obtain⟨bp,a1⟩:=xK fun vs bl=>∃(T8:List LR) (A8:LR),vs=[.one (.sl Bh X),.one (.BI Bc 157 0 0 n),.one (.int .i64 r7),.one (.int .i64 j),.one (.BC 7 0 0)]/\bl=[.var 0 [.sl (.sl AA) T8,.sl AA A8],.arr 0 Bc o]/\(T8=tw (Hg st.1 (Eu st a).1).1/\A8=em (Hg st.1 (Eu st a).1).1 (Hg st.1 (Eu st a).1).2)
  refine .inl ⟨[0,3,4,5,7],[7,157],bp,?_,?_⟩
  ·intro vs bl hj;rw[a1] at hj;obtain⟨T8,A8,rfl,rfl,bH,bF⟩:=hj;conv=>cbv
   obtain⟨_,aY,cl,aO,b9⟩:=O6 (st:=st) ⟨S,V,hV,c⟩ a;have cm:aY.length<=8:=by have:=(O6 (st:=st) ⟨S,V,hV,c⟩ a).1;omega
   have v:=UZ (l:=st.1) (x:=(Eu st a).1) aO b9 (fun he=>by rw[O7 (.inl he)];exact Vg a);obtain⟨kk,a5⟩:∃z:Nu,z=Hg st.1 (Eu st a).1:=⟨_,rfl⟩
   rw[<-a5] at v;have t:=WW v.red v.mem;rw[<-a5] at bH bF;obtain⟨y,D⟩:=H0 (tw (Hn kk).1);obtain⟨w,C⟩:=EV (em (Hn kk).1 (Hn kk).2);refine AB (r:= .agg [.sl (.sl AA) y,.sl AA w]) I (XS v.red v.mem (by have:=v.len;omega) (by rw[t.1,t.2.2]) bH bF D (by rw[C,t.2.2])) ?_;try conv=>cbv
   refine⟨[(y,w)],fun _=>⟨rfl,by decide,rfl,⟨rfl,by first | exact t1 | exact t2 | exact t4 | simp[Bg,Bo,cells],trivial⟩⟩,.inr ?_⟩;try conv=>cbv
   refine .inl ⟨[(y,w)],fun _=>⟨rfl,by (first | rfl | omega),rfl,by show (o.length+1)*48<=140737488355328;(try simp only[List.length_take,List.length_drop]);omega⟩,?_⟩;intro (av:List (el Bc)) aV ax;have b5:av=(o:List (el Bc))++([(y,w)]:List (el Bc)):=ax.1;have b7:aV=List.length (α:=(el Bc)) av:=ax.2;conv=>cbv
   intro bd c7;conv=>cbv
   refine Ah ?_;refine⟨24-(k'+1),?_,?_⟩
   ·omega
   rw[aC];have G:X[k']? =some a:=by (first | exact F | (rw[<-F];congr 1 <;> omega))
   refine .inr ⟨av,_,k'+1,r7,bd,rfl,rfl,⟨⟨by omega⟩,by have:=J6 G;omega,by omega,by omega,b7⟩,?_,rfl⟩;rw[Cb (x:=a) G,dR,<-B];exact⟨by rw[b5,ho,KV,List.map_append,<-a5,D,C];rfl,bM⟩
  cases bq <;> conv=>cbv
  ·rw[a1];refine⟨_,_,rfl,rfl,?_⟩ <;> rw[nC (fun hl=>Bool.false_ne_true (a2.2 (aI.2 hl)))]
   exact⟨bG,bE⟩
  intro cX bt;have cR:=bt.eq;conv=>cbv
  intro cY cS;conv=>cbv
  refine Ah ?_;refine AY ?_;intro bR cn;conv=>cbv
  obtain⟨c4,au⟩:=Ao (l:=o) (i:=bR) (by omega);refine⟨c4,fun _=>au,?_⟩;try conv=>cbv
  rw[a1];obtain⟨u3,y3,bP,bQ,cr⟩:=GK ho au;refine⟨_,_,rfl,rfl,?_⟩ <;> rw[nA N (aI.1 (a2.1 rfl)),nF cr (by omega)]
  exact⟨bP,bQ⟩
 cases cH <;> conv=>cbv
 ·have cz:=Es bz;rw[m];refine⟨_,_,_,rfl,rfl,?_,?_⟩ <;> rw[O7 (.inr (by omega))]
  ·exact⟨rfl,U⟩
  exact f
 have cz:=Et bz;intro cI bA;conv=>cbv
 have bA:=wrap_i64 bA;intro cJ cb;have de:=cb.eq;conv=>cbv
 intro cK cc;conv=>cbv
 refine AY ?_;obtain⟨d58,bI,df,cp⟩:∃d:Nat,d=a.2.1.toNat%k'/\cK=d/\d<k':=⟨_,rfl,by rw[cc,show cI=((a.2.1.toNat:Nat):Int) by omega,show cJ=(k':Int) by omega];exact (Int.natCast_emod _ _).symm,Nat.mod_lt _ bK⟩
 refine AY ?_;intro bS cU;conv=>cbv
 obtain⟨ay,aS⟩:=Ao (l:=o) (i:=bS) (by omega);refine⟨ay,fun _=>aS,?_⟩;try conv=>cbv
 intro cL bB;conv=>cbv
 have bB:=wrap_i64 bB;intro cM cd;have dg:=cd.eq;conv=>cbv
 intro cN cf;conv=>cbv
 refine AY ?_;obtain⟨d67,bJ,dh,cq⟩:∃d:Nat,d=a.2.2.1.toNat%k'/\cN=d/\d<k':=⟨_,rfl,by rw[cf,show cL=((a.2.2.1.toNat:Nat):Int) by omega,show cM=(k':Int) by omega];exact (Int.natCast_emod _ _).symm,Nat.mod_lt _ bK⟩
 refine AY ?_;intro bT cV;conv=>cbv
 obtain⟨bo,aT⟩:=Ao (l:=o) (i:=bT) (by omega);refine⟨bo,fun _=>aT,?_⟩;try conv=>cbv
 refine g2 rfl ?_;obtain⟨u1,y1,h,p,K⟩:=GK ho aS;obtain⟨u2,y2,a8,aa,M⟩:=GK ho aT;have J:=List.mem_of_getElem? K;have al:=List.mem_of_getElem? M;have Q:bS=a.2.1.toNat%st.1.length:=by rw[hlen,<-bI];omega
 have R:bT=a.2.2.1.toNat%st.1.length:=by rw[hlen,<-bJ];omega
 have ak:=((c _ J).el g).mono (by decide:512<=Rm);have b2:=((c _ al).el g).mono (by decide:512<=Rm);intro ds dk;conv=>cbv
 refine AY ?_;refine .inr ?_;intro cP bD;conv=>cbv
 refine .inr ?_;cases cP <;> conv=>cbv
 ·have cB:=BR bD;intro c0 aK;conv=>cbv
  refine .inr ?_;cases c0 <;> conv=>cbv
  ·have bU:=BR aK;intro c1 aL;conv=>cbv
   refine .inr ?_;cases c1 <;> conv=>cbv
   ·have bX:=BR aL;intro c2 aM;conv=>cbv
    refine .inr ?_;cases c2 <;> conv=>cbv
    ·have bY:=BR aM;obtain⟨dt,bN⟩:=xI (Bi y1);refine AB I (Sl (Lp g c (Nat.le_refl Rm)) (G1 g c J) h p ak bN) ?_;conv=>cbv
     intro cO bC;conv=>cbv
     refine .inr ?_;cases cO <;> conv=>cbv
     ·have cA:=BX bC;intro bj ah;conv=>cbv
      refine .inr ?_;cases bj <;> conv=>cbv
      ·have bb:=BX ah;rw[m];have b:=LL (o:=a) N (by omega:a.1.toNat%6≠0);rw[get_eq K Q,get_eq M R] at b;rw[show a.1.toNat%6=5 by omega,bV _ _ (by omega)] at b;refine⟨_,_,_,rfl,rfl,?_,?_⟩ <;> rw[b]
       ·exact⟨h,p⟩
       exact f
      have bb:=BY ah;intro bk cg;conv=>cbv
      refine Ah ?_;have ai:=(c _ J).abs;have aj:FH y1=y1:=by unfold FH;rw[if_neg (rE (by omega))]
      obtain⟨hG,b3,b4⟩:=dJ ai (by omega) (MI _) (Nat.le_refl Rm);obtain⟨bn,W⟩:=H0 (tw (Aj u1 (FH y1)));obtain⟨bm,T⟩:=EV (em (Aj u1 (FH y1)) (Re.sqrt (FH y1)));refine AB (r:= .AI [(true,[.sl (.sl AA) bn,.sl AA bm]),(false,[.int .i64 0])]) I (Sn hG b3 h (by show _=em u1 (FH y1);rw[aj];exact p) ((ai.el g).mono (by decide)) b4 (MI _) W T) ?_;try conv=>cbv
      refine AB I MF ?_;conv=>cbv
      rw[m];have b:=LL (o:=a) N (by omega:a.1.toNat%6≠0);rw[get_eq K Q,get_eq M R] at b;rw[show a.1.toNat%6=5 by omega,bW _ _ (by omega)] at b;refine⟨_,_,_,rfl,rfl,?_,?_⟩ <;> rw[b]
      ·exact⟨W,T⟩
      exact⟨by show bk=((st.2+1:Nat):Int);omega⟩
     have cA:=BY bC;obtain⟨du,aP⟩:=EV (em u1 (-y1));refine AB I (Sk (Lp g c (Nat.le_refl Rm)) (G1 g c J) h p ak aP) ?_;conv=>cbv
     intro bj ah;conv=>cbv
     refine .inr ?_;cases bj <;> conv=>cbv
     ·have bb:=BX ah;rw[m];have b:=LL (o:=a) N (by omega:a.1.toNat%6≠0);rw[get_eq K Q,get_eq M R] at b;rw[show a.1.toNat%6=5 by omega,bV _ _ (by omega)] at b;refine⟨_,_,_,rfl,rfl,?_,?_⟩ <;> rw[b]
      ·exact⟨h,p⟩
      exact f
     have bb:=BY ah;intro bk cg;conv=>cbv
     refine Ah ?_;have ai:=(c _ J).abs;have aj:FH y1= -y1:=by unfold FH;rw[if_pos (rF (by omega))]
     obtain⟨hG,b3,b4⟩:=dJ ai (by omega) (MI _) (Nat.le_refl Rm);obtain⟨bn,W⟩:=H0 (tw (Aj u1 (FH y1)));obtain⟨bm,T⟩:=EV (em (Aj u1 (FH y1)) (Re.sqrt (FH y1)));refine AB (r:= .AI [(true,[.sl (.sl AA) bn,.sl AA bm]),(false,[.int .i64 0])]) I (Sn hG b3 h (by show _=em u1 (FH y1);rw[aj];exact aP) ((ai.el g).mono (by decide)) b4 (MI _) W T) ?_;try conv=>cbv
     refine AB I MF ?_;conv=>cbv
     rw[m];have b:=LL (o:=a) N (by omega:a.1.toNat%6≠0);rw[get_eq K Q,get_eq M R] at b;rw[show a.1.toNat%6=5 by omega,bW _ _ (by omega)] at b;refine⟨_,_,_,rfl,rfl,?_,?_⟩ <;> rw[b]
     ·exact⟨W,T⟩
     exact⟨by show bk=((st.2+1:Nat):Int);omega⟩
    have bY:=BS aM;obtain⟨aH,aG,aX,aW,aJ,b1,b6,aD,aB,b8⟩:=lJ g c J al (r:=st.2);refine .inl ⟨[.agg [.sl (.sl AA) ay.1,.sl AA ay.2],.agg [.sl (.sl AA) bo.1,.sl AA bo.2]],.AI [(true,[.sl (.sl AA) aH,.sl AA aG]),(false,[.int .i64 aJ])],fun _=>⟨t2,t2,trivial⟩,fun _=>IN I (by rw[h,p,a8,aa];exact b1),?_⟩;try conv=>cbv
    refine .inl ⟨[.agg [.sl (.sl AA) aH,.sl AA aG],.one (.int .i64 aJ),.agg [.sl (.sl AA) ay.1,.sl AA ay.2]],.agg [.sl (.sl AA) aX,.sl AA aW],fun _=>⟨t2,rfl,t2,trivial⟩,fun _=>IN I (by rw[h,p];exact b6),?_⟩;try conv=>cbv
    rw[m];have b:=LL (o:=a) N (by omega:a.1.toNat%6≠0);rw[get_eq K Q,get_eq M R] at b;rw[show a.1.toNat%6=4 by omega] at b;refine⟨_,_,_,rfl,rfl,?_,?_⟩ <;> rw[b]
    ·exact⟨aD,aB⟩
    rw[b8];exact f
   have bX:=BS aL;obtain⟨dc,ar⟩:=H0 (tw (Bz u1 u2));obtain⟨da,ao⟩:=EV (em (Bz u1 u2) (y1*y2));refine AB I (Sj (Lp g c (Nat.le_refl Rm)) (G1 g c J) (G1 g c al) h a8 p aa ak b2 ar ao) ?_;conv=>cbv
   refine AB I MF ?_;conv=>cbv
   rw[m];have b:=LL (o:=a) N (by omega:a.1.toNat%6≠0);rw[get_eq K Q,get_eq M R] at b;rw[show a.1.toNat%6=3 by omega,pL] at b;refine⟨_,_,_,rfl,rfl,?_,?_⟩ <;> rw[b]
   ·exact⟨ar,ao⟩
   exact f
  have bU:=BS aK;obtain⟨db,aq⟩:=H0 (tw (Bz u1 u2));obtain⟨cZ,an⟩:=EV (em (Bz u1 u2) (y1-y2));refine AB I (So (Lp g c (Nat.le_refl Rm)) (G1 g c J) (G1 g c al) h a8 p aa ak b2 aq an) ?_;conv=>cbv
  refine AB I MF ?_;conv=>cbv
  rw[m];have b:=LL (o:=a) N (by omega:a.1.toNat%6≠0);rw[get_eq K Q,get_eq M R] at b;rw[show a.1.toNat%6=2 by omega,pM] at b;refine⟨_,_,_,rfl,rfl,?_,?_⟩ <;> rw[b]
  ·exact⟨aq,an⟩
  exact f
 have cB:=BS bD;obtain⟨dw,aR⟩:=H0 (tw (Bz u1 u2));obtain⟨dv,aQ⟩:=EV (em (Bz u1 u2) (y1+y2));refine AB I (Si (Lp g c (Nat.le_refl Rm)) (G1 g c J) (G1 g c al) h a8 p aa ak b2 aR aQ) ?_;conv=>cbv
 refine AB I MF ?_;conv=>cbv
 rw[m];have b:=LL (o:=a) N (by omega:a.1.toNat%6≠0);rw[get_eq K Q,get_eq M R] at b;rw[show a.1.toNat%6=1 by omega,pI] at b;refine⟨_,_,_,rfl,rfl,?_,?_⟩ <;> rw[b]
 ·exact⟨aR,aQ⟩
 exact f
def qn (k:Nat):Re:=Re.ofRat ((k:Nat):Rat)
noncomputable def rtN (k:Nat):Nu:=(Aj [] (qn k),Re.sqrt (qn k))
noncomputable def tN (k:Nat):Nu:=([],qn k)
theorem mz (u:List (List Rat)):FZ [] u=u:=by
 unfold FZ
 split
 ·rename_i h;exact (List.suffix_nil.1 h).symm
 rw[if_pos (List.nil_suffix)]
theorem mw (u v:List (List Rat)):Bz u v=FZ u v:=by
 show FZ (FZ [] u) v=_
 rw[mz]
noncomputable def ll:Re:=qn 5+qn 2*Re.sqrt (qn 6)
def PA (u:List (List Rat)):Prop:=u<:+Aj [[6]] ll\/u<:+Aj [] (qn 2)\/u<:+Aj [] (qn 3)
theorem tU (X:List (el Bh)):∃V:List Re,V.length<=3/\∀n∈(runN X).1,CL V n:=by
 obtain⟨h3,V,hV,a⟩:=V3 X;exact⟨V,Nat.le_trans hV h3,a⟩
instance (q:Rat):Decidable (Co q):=inferInstanceAs (Decidable (_/\_))
theorem NP {q:Rat} (h:Co q):Cp q:=⟨by have:=Q4.2 h.1;omega,by have:=Q4.2 h.2;omega⟩
def orM (g:Nat->Nat):List Nat->Nat
 | []=>0
 | k::r=>Nat.lor (Nat.lor (Nat.pow 2 k) (g k)) (orM g r)
def Hb (acc:List Nat) (n k:Nat):Nat:=match Nat.ble (k+1) n with | true=>acc.getD (n-1-k) 0 | false=>0
def N6:List Oper->List Nat->Nat->List Nat
 | [],acc,_=>acc
 | o::r,acc,n=>N6 r (orM (Hb acc n) (GV o)::acc) (n+1)
def VI (ops:List Oper) (tr:Tr):Bool:=YC ops&&((fun acc=>(List.range ops.length).all fun j=>(List.range j).all fun i=>
 Nat.testBit (Hb acc ops.length j) i||
  (match ops[i]?,ops[j]?,tr[i]?,tr[j]? with
   | some oi,some oj,some ti,some tj=>Ny ops oi oj ti tj
   | _,_,_,_=>false)) (N6 ops [] 0))
theorem bX {g:Nat->Nat} {i:Nat}:∀{l:List Nat},(orM g l).testBit i=true↔∃k∈l,i=k\/(g k).testBit i=true
 | []=>by simp[orM]
 | k::r=>by
  have c:=bX (g:=g) (i:=i) (l:=r)
  show ((2^k ||| g k) ||| orM g r).testBit i=true↔_
  rw[Nat.testBit_or,Nat.testBit_or,Nat.testBit_two_pow,Bool.or_eq_true,Bool.or_eq_true,c];simp only[List.mem_cons,decide_eq_true_eq]
  constructor
  ·rintro ((h | h) |⟨m,b,a⟩)
   ·exact⟨k,.inl rfl,.inl h.symm⟩
   ·exact⟨k,.inl rfl,.inr h⟩
   exact⟨m,.inr b,a⟩
  rintro⟨m,rfl | b,a⟩
  ·exact .inl (a.imp Eq.symm id)
  exact .inr ⟨m,b,a⟩
theorem j5 {x:Nat} {acc:List Nat} {n k:Nat} (h:k≠n):Hb (x::acc) (n+1) k=Hb acc n k:=by
 unfold Hb
 by_cases c:k<n
 ·rw[Nat.ble_eq_true_of_le (by omega:k+1<=n+1),Nat.ble_eq_true_of_le (by omega:k+1<=n)]
  show (x::acc).getD (n+1-1-k) 0=acc.getD (n-1-k) 0
  rw[show n+1-1-k=(n-1-k)+1 by omega];rfl
 have a:Nat.ble (k+1) (n+1)=false:=by rw[<-Bool.not_eq_true,Nat.ble_eq];omega
 have b:Nat.ble (k+1) n=false:=by rw[<-Bool.not_eq_true,Nat.ble_eq];omega
 rw[a,b]
theorem YK:∀(ops:List Oper) {acc:List (List Nat)} {m:List Nat},(∀j i,(Hb m acc.length j).testBit i=true↔i∈acc.getD j [])->∀j i,(Hb (N6 ops m acc.length) (acc.length+ops.length) j).testBit i=true↔i∈(HK ops acc).getD j []
 | [],_,_,h=>h
 | o::r,acc,m,h=>by
  rw[HK,N6]
  have:=YK r (acc:=acc++[(GV o).flatMap fun j=>j::acc.getD j []]) (m:=orM (Hb m acc.length) (GV o)::m) (fun j i=>by
   rw[List.length_append,List.length_singleton]
   by_cases e:j=acc.length
   ·subst e
    have e1:Hb (orM (Hb m acc.length) (GV o)::m) (acc.length+1) acc.length=orM (Hb m acc.length) (GV o):=by
     unfold Hb;rw[Nat.ble_eq_true_of_le (Nat.le_refl _)]
     show (_::m).getD (acc.length+1-1-acc.length) 0=_
     rw[show acc.length+1-1-acc.length=0 by omega];rfl
    rw[e1,bX];have e2:(acc++[(GV o).flatMap fun j=>j::acc.getD j []]).getD acc.length []=(GV o).flatMap fun j=>j::acc.getD j []:=by simp
    rw[e2,List.mem_flatMap]
    constructor
    ·rintro⟨k,a,h'⟩;exact⟨k,a,List.mem_cons.2 (h'.imp id (h k i).1)⟩
    rintro⟨k,a,h'⟩;exact⟨k,a,(List.mem_cons.1 h').imp id (h k i).2⟩
   rw[j5 e,h]
   by_cases b:j<acc.length
   ·simp only[List.getD_eq_getElem?_getD,List.getElem?_append_left b]
   simp only[List.getD_eq_getElem?_getD];rw[List.getElem?_eq_none (by omega),List.getElem?_eq_none (by simp;omega)])
  rw[List.length_append,List.length_singleton] at this;rw[List.length_cons,show acc.length+(r.length+1)=acc.length+1+r.length by omega];exact this
theorem pD {ops:List Oper} {tr:Tr} (h:VI ops tr=true):LB ops tr=true:=by
 unfold VI at h;unfold LB;rw[Bool.and_eq_true] at h ⊢;refine⟨h.1,?_⟩;have a:=YK ops (acc:=[]) (m:=[]) (fun j i=>by unfold Hb;split <;> simp);rw[List.length_nil,Nat.zero_add] at a
 have e:∀j i,((HK ops []).getD j []).contains i=Nat.testBit (Hb (N6 ops [] 0) ops.length j) i:=fun j i=>by
  rw[Bool.eq_iff_iff,List.contains_iff_mem];exact (a j i).symm
 have b:=h.2;unfold bR;simp only[e];exact b
end Go.Abs
