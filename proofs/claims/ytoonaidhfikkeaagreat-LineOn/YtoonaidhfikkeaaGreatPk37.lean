/- Part 38 of a proof. Conditions: each theorem's own. -/
import Derived.Test.YtoonaidhfikkeaaGreatPk36
set_option linter.all false
set_option maxHeartbeats 8000000
open Go.Proofs
namespace Go.Abs
open Go.RowKit
variable {K R S:Nat} {L:List (el AY)} {T:List LR} {TT:List (List Rat)->Prop}
theorem Wa (G:Gam TT R K S) {ns:List (List (List Rat)×Re)} (z:∀n∈ns,TT n.1) (Q:L=ns.map nm) (hT:T=tw (AZ ns)):CF 199 [.one (.sl AY L)] (.AF [(false,[.sl (.sl AA) T]),(false,[.int .i64 0])]):=by
 have a6:L.length=ns.length:=by rw[Q,List.length_map]
 refine AE Tryz.func199 (by kernel_rfl) rfl fun E M=>?_
 conv=>cbv
 intro Y C;have a5:=C.eq;have f10:=C.le;conv=>cbv
 refine .inr ?_
 obtain⟨J0,j⟩:∃J:List AV->List AH->Nat->Prop,J=fun vs O k=>(∃(i':Nat) (n i:Int),vs=[.one .nil,.one (.sl AY L),.one (.int .i64 n),.one (.int .i64 i)]/\O=[]/\(B1 n L.length/\AK i i'/\i'<=L.length)/\tw (AZ (ns.take i'))=[]/\k=L.length-i')\/
  (∃(N:List LR) (i':Nat) (n i:Int),vs=[.one (.sl (.sl AA) N),.one (.sl AY L),.one (.int .i64 n),.one (.int .i64 i)]/\O=[]/\(B1 n L.length/\AK i i'/\i'<=L.length)/\N=tw (AZ (ns.take i'))/\k=L.length-i'):=⟨_,rfl⟩
 refine⟨[4,9,10,11],[],J0,⟨L.length,by rw[j];exact .inl ⟨0,Y,0,rfl,rfl,⟨C,Ah 0,by omega⟩,rfl,rfl⟩⟩,?_⟩;intro vs O a7 hj;rw[j] at hj;rcases hj with⟨i',n,i,rfl,rfl,⟨s,U,V⟩,P,W⟩ |⟨N,i',n,i,rfl,rfl,⟨s,U,V⟩,d,W⟩
 ·conv=>cbv
  have en:=s.eq;have ei:=U.eq;have d:=P.symm;intro H t;conv=>cbv
  cases H <;> conv=>cbv
  ·have F:=AR t;exact fA ⟨⟨rfl,.inr (.inl ⟨_,congrArg _ (by rw[hT,<-List.take_of_length_le (show ns.length<=i' by omega)];exact P)⟩),trivial⟩,t2,trivial⟩ rfl (by simp)
  have F:=AS t;refine .inr ?_;obtain⟨I,o⟩:=AG (l:=L) (i:=i') (by omega);refine⟨I,fun _=>⟨by omega,by rw[show (i).toNat=i' by omega];exact o⟩,?_⟩;try conv=>cbv
  obtain⟨u,y,g,X,w⟩:=C6 Q o;have hu:TT u:=z _ (List.mem_of_getElem? w);have f:=KD w;unfold Bw at f;have p:TT (AZ (ns.take i')):=G.AZ (fun n s=>z n (List.mem_of_mem_take s));refine .inr ?_;obtain⟨A,a⟩:=CY (u<:+(AZ (ns.take i')));refine cL M (F7 (G.AL p) (G.AL hu) d g a) ⟨.inr ⟨_,rfl⟩,rfl,trivial⟩ ?_;try conv=>cbv
  refine .inr ?_;cases A <;> conv=>cbv
  ·have h:=fun q=>Bool.false_ne_true (a.2 q)
   obtain⟨B,b⟩:=CY ((AZ (ns.take i'))<:+u);refine cL M (F7 (G.AL hu) (G.AL p) g d b) ⟨rfl,.inr ⟨_,rfl⟩,trivial⟩ ?_;try conv=>cbv
   refine .inr ?_;cases B <;> conv=>cbv
   ·have r:=fun q=>Bool.false_ne_true (b.2 q)
    obtain⟨a1,m⟩:=xV (tw (ext (AZ (ns.take i')) u));obtain⟨a2,x⟩:=xV (Bp (AZ (ns.take i')) u);refine cL M (Jw G p hu d g m x) ⟨.inr ⟨_,rfl⟩,rfl,trivial⟩ ?_;try conv=>cbv
    intro Z D;cases D.trans (show _=false by decide);conv=>cbv
    intro c v;conv=>cbv
    refine g1 (by omega) ?_;refine⟨L.length-(i'+1),?_,?_⟩
    ·omega
    rw[j];exact .inr ⟨_,i'+1,n,c,rfl,rfl,⟨s,⟨by omega⟩,by omega⟩,by rw[f,if_neg h,if_neg r,m],rfl⟩
   have r:=b.1 rfl;intro c v;conv=>cbv
   refine g1 (by omega) ?_;refine⟨L.length-(i'+1),?_,?_⟩
   ·omega
   rw[j];exact .inr ⟨_,i'+1,n,c,rfl,rfl,⟨s,⟨by omega⟩,by omega⟩,by rw[f,if_neg h,if_pos r];exact g,rfl⟩
  have h:=a.1 rfl;intro c v;conv=>cbv
  refine g1 (by omega) ?_;refine⟨L.length-(i'+1),?_,?_⟩
  ·omega
  rw[j];exact .inl ⟨i'+1,n,c,rfl,rfl,⟨s,⟨by omega⟩,by omega⟩,by rw[f,if_pos h];exact P,rfl⟩
 conv=>cbv
 have en:=s.eq;have ei:=U.eq;intro H t;conv=>cbv
 cases H <;> conv=>cbv
 ·have F:=AR t;exact fA ⟨⟨rfl,congrArg _ (by rw[hT,d,List.take_of_length_le (show ns.length<=i' by omega)]),trivial⟩,t2,trivial⟩ rfl (by simp)
 have F:=AS t;refine .inr ?_;obtain⟨I,o⟩:=AG (l:=L) (i:=i') (by omega);refine⟨I,fun _=>⟨by omega,by rw[show (i).toNat=i' by omega];exact o⟩,?_⟩;try conv=>cbv
 obtain⟨u,y,g,X,w⟩:=C6 Q o;have hu:TT u:=z _ (List.mem_of_getElem? w);have f:=KD w;unfold Bw at f;have p:TT (AZ (ns.take i')):=G.AZ (fun n s=>z n (List.mem_of_mem_take s));refine .inr ?_;obtain⟨A,a⟩:=CY (u<:+(AZ (ns.take i')));refine cL M (F7 (G.AL p) (G.AL hu) d g a) t2 ?_;try conv=>cbv
 refine .inr ?_;cases A <;> conv=>cbv
 ·have h:=fun q=>Bool.false_ne_true (a.2 q)
  obtain⟨B,b⟩:=CY ((AZ (ns.take i'))<:+u);refine cL M (F7 (G.AL hu) (G.AL p) g d b) t2 ?_;try conv=>cbv
  refine .inr ?_;cases B <;> conv=>cbv
  ·have r:=fun q=>Bool.false_ne_true (b.2 q)
   obtain⟨a1,m⟩:=xV (tw (ext (AZ (ns.take i')) u));obtain⟨a2,x⟩:=xV (Bp (AZ (ns.take i')) u);refine cL M (Jw G p hu d g m x) t2 ?_;try conv=>cbv
   intro Z D;cases D.trans (show _=false by decide);conv=>cbv
   intro c v;conv=>cbv
   refine g1 (by omega) ?_;refine⟨L.length-(i'+1),?_,?_⟩
   ·omega
   rw[j];exact .inr ⟨_,i'+1,n,c,rfl,rfl,⟨s,⟨by omega⟩,by omega⟩,by rw[f,if_neg h,if_neg r,m],rfl⟩
  have r:=b.1 rfl;intro c v;conv=>cbv
  refine g1 (by omega) ?_;refine⟨L.length-(i'+1),?_,?_⟩
  ·omega
  rw[j];exact .inr ⟨_,i'+1,n,c,rfl,rfl,⟨s,⟨by omega⟩,by omega⟩,by rw[f,if_neg h,if_pos r];exact g,rfl⟩
 have h:=a.1 rfl;intro c v;conv=>cbv
 refine g1 (by omega) ?_;refine⟨L.length-(i'+1),?_,?_⟩
 ·omega
 rw[j];exact .inr ⟨_,i'+1,n,c,rfl,rfl,⟨s,⟨by omega⟩,by omega⟩,by rw[f,if_pos h,<-d],rfl⟩
theorem LN (G:Gam TT R K S) {ns:List (List (List Rat)×Re)} (C:∀n∈ns,TT n.1) (hL:L=ns.map nm) (a6:∀n∈ns,El n.1 S n.2) (hlen:ns.length<=1000000) {O:List (el AY)} (hO:O=ns.map (fun n=>nm (AZ ns,n.2))):CF 150 [.one (.sl AY L)] (.AF [(false,[.sl AY O]),(false,[.int .i64 0])]):=by
 have af:L.length=ns.length:=by rw[hL,List.length_map]
 have a:TT (AZ ns):=G.AZ C;obtain⟨T,d⟩:=xV (tw (AZ ns));refine AE Tryz.func150 (by kernel_rfl) rfl fun E A=>?_
 conv=>cbv
 refine cL A (Wa G C hL d) t1 ?_;try conv=>cbv
 intro aj a8;cases a8.trans (show _=false by decide);conv=>cbv
 intro ab Q;have ae:=Q.eq;have f21:=Q.le;conv=>cbv
 refine .inr ?_
 obtain⟨J0,B⟩:∃J:List AV->List AH->Nat->Prop,J=fun vs bl k=>(∃(n i:Int),vs=[.one (.sl (.sl AA) T),.one .nil,.one (.sl AY L),.one (.int .i64 n),.one (.int .i64 i)]/\bl=[.dead 0]/\(B1 n L.length/\AK i 0)/\k=L.length)\/
  (∃(o:List (el AY)) (mm i':Nat) (n i:Int),vs=[.one (.sl (.sl AA) T),.one (.AM AY 56 0 0 mm),.one (.sl AY L),.one (.int .i64 n),.one (.int .i64 i)]/\bl=[.arr 0 AY o]/\(B1 n L.length/\AK i i'/\i'<=L.length/\mm=o.length)/\o=(ns.take i').map (fun n=>nm (AZ ns,n.2))/\k=L.length-i'):=⟨_,rfl⟩
 refine⟨[4,6,20,21,22],[56],J0,⟨L.length,by rw[B];exact .inl ⟨ab,0,rfl,rfl,⟨Q,Ah 0⟩,rfl⟩⟩,?_⟩;intro vs bl ai hj;rw[B] at hj;rcases hj with⟨n,i,rfl,rfl,⟨Y,hi⟩,aa⟩ |⟨o,mm,i',n,i,rfl,rfl,⟨Y,hi,ag,X⟩,hinv,aa⟩
 ·conv=>cbv
  have en:=Y.eq;have ei:=hi.eq;obtain⟨i',a7⟩:=xN 0;intro a1 D;conv=>cbv
  cases a1 <;> conv=>cbv
  ·have Z:=AR D;exact fA ⟨⟨rfl,.inr (.inl ⟨_,congrArg _ (by rw[hO,show ns=[] from List.eq_nil_of_length_eq_zero (by omega)];rfl)⟩),trivial⟩,t2,trivial⟩ rfl (by simp)
  have Z:=AS D;refine .inr ?_;obtain⟨a5,p⟩:=AG (l:=L) (i:=i') (by omega);refine⟨a5,fun _=>⟨by omega,by rw[show (i).toNat=i' by omega];exact p⟩,?_⟩;try conv=>cbv
  obtain⟨u,y,I,M,v⟩:=C6 hL p;have w:=List.mem_of_getElem? v;have hu:TT u:=C _ w;have g:El u S y:=a6 _ w;have f:Aq u (AZ ns):=Eh G C _ w;obtain⟨t,b⟩:=xR (em (AZ ns) y);obtain⟨P,c⟩:=CY (u<:+AZ ns);refine cL A (F7 (G.AL a) (G.AL hu) d I c) t2 ?_;try conv=>cbv
  refine .inr ?_;cases P <;> conv=>cbv
  ·have N:=fun q=>Bool.false_ne_true (c.2 q)
   obtain⟨a2,m⟩:=xV (Bp (AZ ns) u);have j:=Ei (G.AL a).red (G.AL hu).red f;refine cL (r:= .AF [(true,[.sl (.sl AA) T,.sl (.sl AA) a2]),(false,[.int .i64 0])]) A (Jw G a hu d I (by rw[j];exact d) m) t2 ?_;try conv=>cbv
   intro ad U;cases U.trans (show _=false by decide);conv=>cbv
   refine cL (r:= .one (.sl AA t)) A (MS G a hu f d (by rw[m];have:=EI (G.AL a).red (G.AL hu).red;rwa [j] at this) M g b) ⟨t2,rfl,trivial⟩ ?_;try conv=>cbv
   refine cL (r:= .agg [.sl (.sl AA) T,.sl AA t]) A (HM (G.AL a) d b (G.BF hu a f g) (by have:=G.mul a;omega)) ⟨t2,trivial⟩ ?_;try conv=>cbv
   refine⟨[(T,t)],fun _=>⟨rfl,by decide,rfl,⟨rfl,by first | exact t1 | exact t2 | exact t4 | simp[Ac,Ak,cells],trivial⟩⟩,.inr ?_⟩;try conv=>cbv
   refine .inl ⟨[(T,t)],fun _=>⟨rfl,by show (1)*48<=140737488355328;(try simp only[List.length_take,List.length_drop]);omega⟩,?_⟩;intro h V;conv=>cbv
   intro z W;conv=>cbv
   refine g1 (by omega) ?_;refine⟨L.length-(i'+1),?_,?_⟩
   ·omega
   rw[B];exact .inr ⟨_,h,i'+1,n,z,rfl,rfl,⟨Y,⟨by omega⟩,by omega,V⟩,by rw[BJ v,List.map_append,a7];simp[nm,d,b],rfl⟩
  have N:=c.1 rfl;refine cL A (Kc (G.AL a) d M g.mem N b) t2 ?_;try conv=>cbv
  refine cL (r:= .agg [.sl (.sl AA) T,.sl AA t]) A (HM (G.AL a) d b (G.BF hu a f g) (by have:=G.mul a;omega)) ⟨t2,trivial⟩ ?_;try conv=>cbv
  refine⟨[(T,t)],fun _=>⟨rfl,by decide,rfl,⟨rfl,by first | exact t1 | exact t2 | exact t4 | simp[Ac,Ak,cells],trivial⟩⟩,.inr ?_⟩;try conv=>cbv
  refine .inl ⟨[(T,t)],fun _=>⟨rfl,by show (1)*48<=140737488355328;(try simp only[List.length_take,List.length_drop]);omega⟩,?_⟩;intro h V;conv=>cbv
  intro z W;conv=>cbv
  refine g1 (by omega) ?_;refine⟨L.length-(i'+1),?_,?_⟩
  ·omega
  rw[B];exact .inr ⟨_,h,i'+1,n,z,rfl,rfl,⟨Y,⟨by omega⟩,by omega,V⟩,by rw[BJ v,List.map_append,a7];simp[nm,d,b],rfl⟩
 conv=>cbv
 have en:=Y.eq;have ei:=hi.eq;have ah:o.length<=L.length:=by rw[hinv,List.length_map,List.length_take];omega
 intro a1 D;conv=>cbv
 cases a1 <;> conv=>cbv
 ·have Z:=AR D;exact fA ⟨⟨rfl,.inl ⟨_,rfl,by omega,congrArg _ (by rw[hO,X,hinv,List.drop_zero,List.take_length,List.take_of_length_le (show ns.length<=i' by omega)])⟩,trivial⟩,t2,trivial⟩ rfl (by simp)
 have Z:=AS D;refine .inr ?_;obtain⟨a5,p⟩:=AG (l:=L) (i:=i') (by omega);refine⟨a5,fun _=>⟨by omega,by rw[show (i).toNat=i' by omega];exact p⟩,?_⟩;try conv=>cbv
 obtain⟨u,y,I,M,v⟩:=C6 hL p;have w:=List.mem_of_getElem? v;have hu:TT u:=C _ w;have g:El u S y:=a6 _ w;have f:Aq u (AZ ns):=Eh G C _ w;obtain⟨t,b⟩:=xR (em (AZ ns) y);obtain⟨P,c⟩:=CY (u<:+AZ ns);refine cL A (F7 (G.AL a) (G.AL hu) d I c) t2 ?_;try conv=>cbv
 refine .inr ?_;cases P <;> conv=>cbv
 ·have N:=fun q=>Bool.false_ne_true (c.2 q)
  obtain⟨a2,m⟩:=xV (Bp (AZ ns) u);have j:=Ei (G.AL a).red (G.AL hu).red f;refine cL (r:= .AF [(true,[.sl (.sl AA) T,.sl (.sl AA) a2]),(false,[.int .i64 0])]) A (Jw G a hu d I (by rw[j];exact d) m) t2 ?_;try conv=>cbv
  intro ad U;cases U.trans (show _=false by decide);conv=>cbv
  refine cL (r:= .one (.sl AA t)) A (MS G a hu f d (by rw[m];have:=EI (G.AL a).red (G.AL hu).red;rwa [j] at this) M g b) ⟨t2,rfl,trivial⟩ ?_;try conv=>cbv
  refine cL (r:= .agg [.sl (.sl AA) T,.sl AA t]) A (HM (G.AL a) d b (G.BF hu a f g) (by have:=G.mul a;omega)) ⟨t2,trivial⟩ ?_;try conv=>cbv
  refine⟨[(T,t)],fun _=>⟨rfl,by decide,rfl,⟨rfl,by first | exact t1 | exact t2 | exact t4 | simp[Ac,Ak,cells],trivial⟩⟩,.inr ?_⟩;try conv=>cbv
  refine .inl ⟨[(T,t)],fun _=>⟨rfl,X,rfl,by show (o.length+1)*48<=140737488355328;(try simp only[List.length_take,List.length_drop]);omega⟩,?_⟩;intro (x:List (el AY)) h s;have F:x=(o:List (el AY))++([(T,t)]:List (el AY)):=s.1;have H:h=List.length (α:=(el AY)) x:=s.2;conv=>cbv
  intro z W;conv=>cbv
  refine g1 (by omega) ?_;refine⟨L.length-(i'+1),?_,?_⟩
  ·omega
  rw[B];exact .inr ⟨x,h,i'+1,n,z,rfl,rfl,⟨Y,⟨by omega⟩,by omega,H⟩,by rw[F,hinv,BJ v,List.map_append];simp[nm,d,b],rfl⟩
 have N:=c.1 rfl;refine cL A (Kc (G.AL a) d M g.mem N b) t2 ?_;try conv=>cbv
 refine cL (r:= .agg [.sl (.sl AA) T,.sl AA t]) A (HM (G.AL a) d b (G.BF hu a f g) (by have:=G.mul a;omega)) ⟨t2,trivial⟩ ?_;try conv=>cbv
 refine⟨[(T,t)],fun _=>⟨rfl,by decide,rfl,⟨rfl,by first | exact t1 | exact t2 | exact t4 | simp[Ac,Ak,cells],trivial⟩⟩,.inr ?_⟩;try conv=>cbv
 refine .inl ⟨[(T,t)],fun _=>⟨rfl,X,rfl,by show (o.length+1)*48<=140737488355328;(try simp only[List.length_take,List.length_drop]);omega⟩,?_⟩;intro (x:List (el AY)) h s;have F:x=(o:List (el AY))++([(T,t)]:List (el AY)):=s.1;have H:h=List.length (α:=(el AY)) x:=s.2;conv=>cbv
 intro z W;conv=>cbv
 refine g1 (by omega) ?_;refine⟨L.length-(i'+1),?_,?_⟩
 ·omega
 rw[B];exact .inr ⟨x,h,i'+1,n,z,rfl,rfl,⟨Y,⟨by omega⟩,by omega,H⟩,by rw[F,hinv,BJ v,List.map_append];simp[nm,d,b],rfl⟩
noncomputable def Aj (u v:List (List Rat)):List (List Rat):=AZ [(u,0),(v,0)]
theorem MA (G:Gam TT R K S) {T1 T2:List LR} {A1 A2:LR} {u v:List (List Rat)} {x y:Re} (hu:TT u) (U:TT v) (w:T1=tw u) (D:T2=tw v) (s:A1=em u x) (t:A2=em v y) (V:El u S x) (W:El v S y) {A B C:LR} {g:FuncId} (P:T=tw (Aj u v)) (J:A=em (Aj u v) x) (M:B=em (Aj u v) y) (Q:CF g [.one (.sl (.sl AA) T),.one (.sl AA A),.one (.sl AA B)] (.one (.sl AA C))):CF 170 [.agg [.sl (.sl AA) T1,.sl AA A1],.agg [.sl (.sl AA) T2,.sl AA A2],.one (.fn g)] (.AF [(true,[.sl (.sl AA) T,.sl AA C]),(false,[.int .i64 0])]):=by
 obtain⟨O,m⟩:∃z:List (el AY),z=[(T,A),(T,B)]:=⟨_,rfl⟩
 have N:O.length=2:=by rw[m];rfl
 have F:O[0]? =some (T,A):=by rw[m];rfl
 have I:O[1]? =some (T,B):=by rw[m];rfl
 refine AE Tryz.func170 (by kernel_rfl) rfl fun E H=>?_
 conv=>cbv
 refine⟨[(T1,A1),(T2,A2)],fun _=>⟨rfl,by decide,rfl,⟨rfl,by first | exact t1 | exact t2 | exact t4 | simp[Ac,Ak,cells],⟨rfl,by first | exact t1 | exact t2 | exact t4 | simp[Ac,Ak,cells],trivial⟩⟩⟩,.inr ?_⟩;try conv=>cbv
 refine cL (r:= .AF [(false,[.sl AY O]),(false,[.int .i64 0])]) H (LN (ns:=[(u,x),(v,y)]) G (by intro n f;simp at f;rcases f with rfl | rfl;exact hu;exact U) (by rw[w,D,s,t];rfl) (by intro n f;simp at f;rcases f with rfl | rfl;exact V;exact W) (by show 2<=1000000;decide) (by rw[m,P,J,M];rfl)) t1 ?_;try conv=>cbv
 intro X q;cases q.trans (show _=false by decide);conv=>cbv
 obtain⟨h,a⟩:=AG (l:=O) (i:=0) (by omega);refine⟨h,fun _=>⟨by omega,a⟩,?_⟩;try conv=>cbv
 obtain⟨j,b⟩:=AG (l:=O) (i:=0) (by omega);refine⟨j,fun _=>⟨by omega,b⟩,?_⟩;try conv=>cbv
 obtain⟨k,c⟩:=AG (l:=O) (i:=1) (by omega);refine⟨k,fun _=>⟨by omega,c⟩,?_⟩;try conv=>cbv
 have d:=Option.some.inj (a.symm.trans F);have o:=Option.some.inj (b.symm.trans F);have p:=Option.some.inj (c.symm.trans I);refine .inl ⟨[.one (.sl (.sl AA) h.1),.one (.sl AA j.2),.one (.sl AA k.2)],.one (.sl AA C),fun _=>t3,fun _=>E3 H (by rw[d,o,p];exact Q),?_⟩;try conv=>cbv
 refine g2 rfl ?_;exact fA ⟨⟨rfl,congrArg _ (by rw[d]),rfl,trivial⟩,t2,trivial⟩ rfl (by simp)
end Go.Abs
namespace Go.Abs
open Go.RowKit
section
variable {TT:List (List Rat)->Prop} {R K S:Nat}
theorem Gam.Aj (G:Gam TT R K S) {u v:List (List Rat)} (hu:TT u) (c:TT v):TT (Go.Abs.Aj u v)/\Aq u (Go.Abs.Aj u v)/\Aq v (Go.Abs.Aj u v):=by
 have a:∀n∈[(u,(0:Re)),(v,0)],TT n.1:=by intro n b;simp at b;rcases b with rfl | rfl;exact hu;exact c
 have he:=Eh G a;exact⟨G.AZ a,he (u,0) (by simp),he (v,0) (by simp)⟩
end
theorem EG (a:List LR):∃z:List LR,z=a:=⟨_,rfl⟩
theorem Bu (a:LR):∃z:LR,z=a:=⟨_,rfl⟩
theorem Ty {TT:List (List Rat)->Prop} {R K S:Nat} (G:Gam TT R K S) {T1 T2:List LR} {A1 A2:LR} {u v:List (List Rat)} {x y:Re} (hu:TT u) (i:TT v) (d:T1=tw u) (f:T2=tw v) (b:A1=em u x) (c:A2=em v y) (o:El u S x) (p:El v S y) {T:List LR} {C:LR} (n:T=tw (Aj u v)) (q:C=em (Aj u v) (x+y)):CF 128 [.agg [.sl (.sl AA) T1,.sl AA A1],.agg [.sl (.sl AA) T2,.sl AA A2]] (.AF [(true,[.sl (.sl AA) T,.sl AA C]),(false,[.int .i64 0])]):=by
 obtain⟨a,g,h⟩:=G.Aj hu i;have j:=G.BF hu a g o;have k:=G.BF i a h p;have hmul:=G.mul a;obtain⟨A,l⟩:=Bu (em (Aj u v) x);obtain⟨B,m⟩:=Bu (em (Aj u v) y);refine AE Tryz.func128 (by kernel_rfl) rfl fun E r=>?_
 conv=>cbv
 refine cL r (MA G hu i d f b c o p n l m (G4 (G.AL a) n l m j k (by omega) (by omega) q)) ⟨t2,t2,rfl,trivial⟩ ?_;try conv=>cbv
 exact fA ⟨t3,t2,trivial⟩ rfl (by simp)
theorem UD {TT:List (List Rat)->Prop} {R K S:Nat} (G:Gam TT R K S) {T1 T2:List LR} {A1 A2:LR} {u v:List (List Rat)} {x y:Re} (hu:TT u) (i:TT v) (d:T1=tw u) (f:T2=tw v) (b:A1=em u x) (c:A2=em v y) (o:El u S x) (p:El v S y) {T:List LR} {C:LR} (n:T=tw (Aj u v)) (q:C=em (Aj u v) (x-y)):CF 122 [.agg [.sl (.sl AA) T1,.sl AA A1],.agg [.sl (.sl AA) T2,.sl AA A2]] (.AF [(true,[.sl (.sl AA) T,.sl AA C]),(false,[.int .i64 0])]):=by
 obtain⟨a,g,h⟩:=G.Aj hu i;have j:=G.BF hu a g o;have k:=G.BF i a h p;have hmul:=G.mul a;obtain⟨A,l⟩:=Bu (em (Aj u v) x);obtain⟨B,m⟩:=Bu (em (Aj u v) y);refine AE Tryz.func122 (by kernel_rfl) rfl fun E r=>?_
 conv=>cbv
 refine cL r (MA G hu i d f b c o p n l m (JJ (G.AL a) n l m j k (by omega) (by omega) q)) ⟨t2,t2,rfl,trivial⟩ ?_;try conv=>cbv
 exact fA ⟨t3,t2,trivial⟩ rfl (by simp)
theorem OF {TT:List (List Rat)->Prop} {R K S:Nat} (G:Gam TT R K S) {T1 T2:List LR} {A1 A2:LR} {u v:List (List Rat)} {x y:Re} (hu:TT u) (i:TT v) (d:T1=tw u) (f:T2=tw v) (b:A1=em u x) (c:A2=em v y) (o:El u S x) (p:El v S y) {T:List LR} {C:LR} (n:T=tw (Aj u v)) (q:C=em (Aj u v) (x*y)):CF 124 [.agg [.sl (.sl AA) T1,.sl AA A1],.agg [.sl (.sl AA) T2,.sl AA A2]] (.AF [(true,[.sl (.sl AA) T,.sl AA C]),(false,[.int .i64 0])]):=by
 obtain⟨a,g,h⟩:=G.Aj hu i;have j:=G.BF hu a g o;have k:=G.BF i a h p;have hmul:=G.mul a;obtain⟨A,l⟩:=Bu (em (Aj u v) x);obtain⟨B,m⟩:=Bu (em (Aj u v) y);refine AE Tryz.func124 (by kernel_rfl) rfl fun E r=>?_
 conv=>cbv
 refine cL r (MA G hu i d f b c o p n l m (FA (G.AL a) n l m j k (by omega) q)) ⟨t2,t2,rfl,trivial⟩ ?_;try conv=>cbv
 exact fA ⟨t3,t2,trivial⟩ rfl (by simp)
theorem UB {TT:List (List Rat)->Prop} {R K S:Nat} (G:Gam TT R K S) {T1:List LR} {A1:LR} {u:List (List Rat)} {x:Re} (hu:TT u) (b:T1=tw u) (a:A1=em u x) (d:El u S x) {C:LR} (f:C=em u (-x)):CF 62 [.agg [.sl (.sl AA) T1,.sl AA A1]] (.agg [.sl (.sl AA) T1,.sl AA C]):=by
 have hmul:=G.mul hu;refine AE Tryz.func62 (by kernel_rfl) rfl fun E c=>?_
 conv=>cbv
 refine cL c (HM (G.AL hu) b a d (by omega)) ⟨t2,trivial⟩ ?_;try conv=>cbv
 refine cL c (OH (G.AL hu) b a d (by omega) f) t2 ?_;try conv=>cbv
 exact fA ⟨t3,trivial⟩ rfl (by simp)
theorem UC {TT:List (List Rat)->Prop} {R K S:Nat} (G:Gam TT R K S) {T1:List LR} {A1:LR} {u:List (List Rat)} {x:Re} (hu:TT u) (b:T1=tw u) (a:A1=em u x) (g:El u S x) {c:Int} (f:c=At x):CF 56 [.agg [.sl (.sl AA) T1,.sl AA A1]] (.one (.int .i64 c)):=by
 refine AE Tryz.func56 (by kernel_rfl) rfl fun E d=>?_
 conv=>cbv
 refine cL d (G7 (G.AL hu) b a g ((G.fit hu).mono (Nat.le_add_right _ _)).v0 (G.fit hu).vR f) t2 ?_;try conv=>cbv
 exact fA ⟨t2,trivial⟩ rfl (by simp)
theorem ah {TT:List (List Rat)->Prop} {R K S:Nat} (G:Gam TT R K S) {T1:List LR} {A1:LR} {u:List (List Rat)} {x:Re} (hu:TT u) (c:T1=tw u) (b:A1=em u x) (k:El u S x) (hw:TT (Ag u x)) (i:0<=x) {T:List LR} {C:LR} (h:T=tw (Ag u x)) (f:C=em (Ag u x) (Re.sqrt x)) {s:Nat} (j:El (Ag u x) s (Re.sqrt x)) (d:s<=60000000000000):CF 125 [.agg [.sl (.sl AA) T1,.sl AA A1]] (.AF [(true,[.sl (.sl AA) T,.sl AA C]),(false,[.int .i64 0])]):=by
 refine AE Tryz.func125 (by kernel_rfl) rfl fun E g=>?_
 conv=>cbv
 refine cL g (LI (G.AL hu) (G.AL hw) (G.ht hw) c b k ((G.fit hu).mono (Nat.le_add_right _ _)) i h f) t2 ?_;try conv=>cbv
 intro l a;cases a.trans (show _=false by decide);conv=>cbv
 refine cL g (HM (G.AL hw) h f j d) ⟨t2,trivial⟩ ?_;try conv=>cbv
 exact fA ⟨t3,t2,trivial⟩ rfl (by simp)
theorem aj {TT:List (List Rat)->Prop} {R K S:Nat} (G:Gam TT R K S) {T1:List LR} {A1:LR} {u:List (List Rat)} {x:Re} (hu:TT u) (c:T1=tw u) (b:A1=em u x) (g:El u S x) (f:x<0):CF 125 [.agg [.sl (.sl AA) T1,.sl AA A1]] (.AF [(true,[.sl (.sl AA) (([]:List LR)),.sl AA (([]:LR))]),(false,[.int .i64 7])]):=by
 refine AE Tryz.func125 (by kernel_rfl) rfl fun E d=>?_
 conv=>cbv
 refine cL d (Vl (B:=[]) (G.AL hu) c b g ((G.fit hu).mono (Nat.le_add_right _ _)) f) t2 ?_;try conv=>cbv
 intro h a;cases a.trans (show _=true by decide);conv=>cbv
 exact fA ⟨⟨rfl,.inr (.inl ⟨_,rfl⟩),.inr (.inl ⟨_,rfl⟩),trivial⟩,t2,trivial⟩ rfl (by simp)
theorem Tz {TT:List (List Rat)->Prop} {R K S:Nat} (G:Gam TT R K S) {T1 T2:List LR} {A1 A2:LR} {u v:List (List Rat)} {x y:Re} (hu:TT u) (m:TT v) (h:T1=tw u) (b:T2=tw v) (d:A1=em u x) (f:A2=em v y) (q:El u S x) (r:El v S y) {i:Re} (p:In v i) (k:y*i=1) (j:El v S i) (g:II v.length R S<=60000000000000) {T:List LR} {C:LR} (o:T=tw (Aj u v)) (n:C=em (Aj u v) (x*i)):CF 60 [.agg [.sl (.sl AA) T1,.sl AA A1],.agg [.sl (.sl AA) T2,.sl AA A2]] (.AF [(true,[.sl (.sl AA) T,.sl AA C]),(false,[.int .i64 0])]):=by
 refine AE Tryz.func60 (by kernel_rfl) rfl fun E l=>?_
 conv=>cbv
 obtain⟨t,a⟩:=Bu (em v i);refine cL l (JE (G.AL m) b f r p k g a) t2 ?_;try conv=>cbv
 intro s c;cases c.trans (show _=false by decide);conv=>cbv
 refine cL l (OF G hu m h b d a q j o n) ⟨t2,t2,trivial⟩ ?_;try conv=>cbv
 exact fA ⟨t3,t2,trivial⟩ rfl (by simp)
theorem af {TT:List (List Rat)->Prop} {R K S:Nat} (G:Gam TT R K S) {T1 T2:List LR} {A1 A2:LR} {u v:List (List Rat)} {x y:Re} (hu:TT u) (j:TT v) (i:T1=tw u) (d:T2=tw v) (g:A1=em u x) (b:A2=em v y) (l:El u S x) (m:El v S y) (f:y=0) (c:EE v.length R+R<=60000000000000):CF 60 [.agg [.sl (.sl AA) T1,.sl AA A1],.agg [.sl (.sl AA) T2,.sl AA A2]] (.AF [(true,[.sl (.sl AA) (([]:List LR)),.sl AA (([]:LR))]),(false,[.int .i64 6])]):=by
 refine AE Tryz.func60 (by kernel_rfl) rfl fun E h=>?_
 conv=>cbv
 refine cL (r:= .AF [(false,[.sl AA (([]:LR))]),(false,[.int .i64 6])]) h (Tv (G.AL j) d (b.trans (by rw[f])) c) t2 ?_;try conv=>cbv
 intro k a;cases a.trans (show _=true by decide);conv=>cbv
 exact fA ⟨⟨rfl,.inr (.inl ⟨_,rfl⟩),.inr (.inl ⟨_,rfl⟩),trivial⟩,t2,trivial⟩ rfl (by simp)
theorem ME {u:List (List Rat)} {x y:Re} (a:In u x) (b:In u y):em u x=em u y↔x=y:=
 ⟨fun h=>by rw[<-DC a,<-DC b,SK h],fun h=>by rw[h]⟩
theorem TF {u v:List (List Rat)} (h:u<:+v) (k:v<:+u):u=v:=h.eq_of_length_le k.length_le
theorem UA {TT:List (List Rat)->Prop} {R K S:Nat} (G:Gam TT R K S) {T1 T2:List LR} {A1 A2:LR} {u v:List (List Rat)} {x y:Re} (hu:TT u) (N:TT v) (t:T1=tw u) (w:T2=tw v) (p:A1=em u x) (s:A2=em v y) (U:El u S x) (V:El v S y) {c:Bool} (hc:c=true↔x=y):CF 101 [.agg [.sl (.sl AA) T1,.sl AA A1],.agg [.sl (.sl AA) T2,.sl AA A2]] (.one (.bool c)):=by
 obtain⟨I,a1,a2⟩:=G.Aj hu N;have C:=G.BF hu I a1 U;have D:=G.BF N I a2 V;have hmul:=G.mul I;obtain⟨A,J⟩:=Bu (em (Aj u v) x);obtain⟨B,M⟩:=Bu (em (Aj u v) y);obtain⟨T,hT⟩:=EG (tw (Aj u v));obtain⟨O,P⟩:∃z:List (el AY),z=[(T,A),(T,B)]:=⟨_,rfl⟩
 have a6:O.length=2:=by rw[P];rfl
 have h0:O[0]? =some (T,A):=by rw[P];rfl
 have h1:O[1]? =some (T,B):=by rw[P];rfl
 refine AE Tryz.func101 (by kernel_rfl) rfl fun E H=>?_
 conv=>cbv
 obtain⟨Y,g⟩:=CY (v<:+u);refine cL H (F7 (G.AL hu) (G.AL N) t w g) t2 ?_;try conv=>cbv
 cases Y <;> conv=>cbv
 ·have W:=fun q=>Bool.false_ne_true (g.2 q)
  refine⟨[(T1,A1),(T2,A2)],fun _=>⟨rfl,by decide,rfl,⟨rfl,by first | exact t1 | exact t2 | exact t4 | simp[Ac,Ak,cells],⟨rfl,by first | exact t1 | exact t2 | exact t4 | simp[Ac,Ak,cells],trivial⟩⟩⟩,.inr ?_⟩;try conv=>cbv
  refine cL (r:= .AF [(false,[.sl AY O]),(false,[.int .i64 0])]) H (LN (ns:=[(u,x),(v,y)]) G (by intro n k;simp at k;rcases k with rfl | rfl;exact hu;exact N) (by rw[t,w,p,s];rfl) (by intro n k;simp at k;rcases k with rfl | rfl;exact U;exact V) (by show 2<=1000000;decide) (by rw[P,hT,J,M];rfl)) t1 ?_;try conv=>cbv
  intro a5 F;cases F.trans (show _=true by decide);conv=>cbv
  obtain⟨m,a⟩:=AG (l:=O) (i:=0) (by omega);refine⟨m,fun _=>⟨by omega,a⟩,?_⟩;try conv=>cbv
  obtain⟨o,b⟩:=AG (l:=O) (i:=1) (by omega);refine⟨o,fun _=>⟨by omega,b⟩,?_⟩;try conv=>cbv
  have d:=Option.some.inj (a.symm.trans h0);have f:=Option.some.inj (b.symm.trans h1);have j:c=decide (m.2=o.2):=by rw[Bool.eq_iff_iff,decide_eq_true_eq,hc,d,f,J,M];exact (ME C.mem D.mem).symm
  refine cL (r:= .one (.bool c)) H (Ks (by rw[d];exact J) (by rw[f];exact M) (C.BE (by omega)) (D.BE (by omega)) j) t2 ?_;try conv=>cbv
  refine g2 rfl ?_;exact fA ⟨t2,trivial⟩ rfl (by simp)
 have W:=g.1 rfl;obtain⟨Z,h⟩:=CY (u<:+v);refine cL H (F7 (G.AL N) (G.AL hu) w t h) t2 ?_;try conv=>cbv
 cases Z <;> conv=>cbv
 ·have X:=fun q=>Bool.false_ne_true (h.2 q)
  refine⟨[(T1,A1),(T2,A2)],fun _=>⟨rfl,by decide,rfl,⟨rfl,by first | exact t1 | exact t2 | exact t4 | simp[Ac,Ak,cells],⟨rfl,by first | exact t1 | exact t2 | exact t4 | simp[Ac,Ak,cells],trivial⟩⟩⟩,.inr ?_⟩;try conv=>cbv
  refine cL (r:= .AF [(false,[.sl AY O]),(false,[.int .i64 0])]) H (LN (ns:=[(u,x),(v,y)]) G (by intro n k;simp at k;rcases k with rfl | rfl;exact hu;exact N) (by rw[t,w,p,s];rfl) (by intro n k;simp at k;rcases k with rfl | rfl;exact U;exact V) (by show 2<=1000000;decide) (by rw[P,hT,J,M];rfl)) t1 ?_;try conv=>cbv
  intro a5 F;cases F.trans (show _=true by decide);conv=>cbv
  obtain⟨m,a⟩:=AG (l:=O) (i:=0) (by omega);refine⟨m,fun _=>⟨by omega,a⟩,?_⟩;try conv=>cbv
  obtain⟨o,b⟩:=AG (l:=O) (i:=1) (by omega);refine⟨o,fun _=>⟨by omega,b⟩,?_⟩;try conv=>cbv
  have d:=Option.some.inj (a.symm.trans h0);have f:=Option.some.inj (b.symm.trans h1);have j:c=decide (m.2=o.2):=by rw[Bool.eq_iff_iff,decide_eq_true_eq,hc,d,f,J,M];exact (ME C.mem D.mem).symm
  refine cL (r:= .one (.bool c)) H (Ks (by rw[d];exact J) (by rw[f];exact M) (C.BE (by omega)) (D.BE (by omega)) j) t2 ?_;try conv=>cbv
  refine g2 rfl ?_;exact fA ⟨t2,trivial⟩ rfl (by simp)
 have X:=h.1 rfl;have Q:=TF X W;have j:c=decide (A1=A2):=by rw[Bool.eq_iff_iff,decide_eq_true_eq,hc,p,s,<-Q];exact (ME U.mem (Q ▸ V.mem)).symm
 refine cL H (Ks p s (U.BE (by omega)) (V.BE (by omega)) j) t2 ?_;try conv=>cbv
 exact fA ⟨t2,trivial⟩ rfl (by simp)
theorem OE {q:Rat} {b1 b2:Bool} {l1 l2:List UInt32} {C:LR} (a:Ap q b1 l1 b2 l2) (d:BK q) (b:C=em [] (Re.ofRat q)):CF 110 [.agg [.bool b1,.sl .u32 l1,.bool b2,.sl .u32 l2]] (.agg [.sl (.sl AA) (([]:List LR)),.sl AA C]):=by
 refine AE Tryz.func110 (by kernel_rfl) rfl fun E c=>?_
 conv=>cbv
 refine cL c (Px a d) ⟨t4,trivial⟩ ?_;try conv=>cbv
 refine⟨[((b1,l1),(b2,l2))],fun _=>⟨rfl,by decide,rfl,⟨rfl,by first | exact t1 | exact t2 | exact t4 | simp[Ac,Ak,cells],trivial⟩⟩,.inr ?_⟩;try conv=>cbv
 exact fA ⟨⟨rfl,.inr (.inl ⟨_,rfl⟩),congrArg _ (by rw[b,Ci,<-a.rp]),trivial⟩,trivial⟩ rfl (by simp)
theorem ag {x:Int} {C:LR} (f: -9223372036854775808<=x/\x<9223372036854775808) (d:BK x) (c:C=em [] (Re.ofRat x)):CF 120 [.one (.int .i64 x)] (.agg [.sl (.sl AA) (([]:List LR)),.sl AA C]):=by
 refine AE Tryz.func120 (by kernel_rfl) rfl fun E b=>?_
 conv=>cbv
 obtain⟨i,j,g,h,a⟩:=BD (x:Rat);refine cL b (EZ f rfl a) t1 ?_;try conv=>cbv
 refine cL b (OE a d c) ⟨t4,trivial⟩ ?_;try conv=>cbv
 exact fA ⟨t3,trivial⟩ rfl (by simp)
end Go.Abs
