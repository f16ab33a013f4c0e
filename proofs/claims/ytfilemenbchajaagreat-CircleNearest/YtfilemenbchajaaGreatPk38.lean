/- Part 39 of a proof. Conditions: each theorem's own. -/
import Derived.Test.YtfilemenbchajaaGreatPk37
set_option linter.all false
set_option maxHeartbeats 8000000
set_option maxRecDepth 20000
open Go.Proofs
namespace Go.Abs
open Go.RowKit
variable {K R S:Nat} {L:List (el Am)} {T:List LR} {TT:List (List Rat)->Prop}
theorem Zd (G:Gam TT R K S) {ns:List (List (List Rat)×Re)} (z:∀n∈ns,TT n.1) (Q:L=ns.map nm) (hT:T=tw (Ap ns)):CF 255 [.one (.sl Am L)] (.AE [(false,[.sl (.sl AA) T]),(false,[.int .i64 0])]):=by
 have a6:L.length=ns.length:=by rw[Q,List.length_map]
 refine AH Tryz.func255 (by kernel_rfl) rfl fun E M=>?_
 conv=>cbv
 intro Y C;have a5:=C.eq;have f10:=C.le;conv=>cbv
 refine .inr ?_
 obtain⟨J0,j⟩:∃J:List AV->List AM->Nat->Prop,J=fun vs O k=>(∃(i':Nat) (n i:Int),vs=[.one .nil,.one (.sl Am L),.one (.int .i64 n),.one (.int .i64 i)]/\O=[]/\(Cb n L.length/\AS i i'/\i'<=L.length)/\tw (Ap (ns.take i'))=[]/\k=L.length-i')\/
  (∃(N:List LR) (i':Nat) (n i:Int),vs=[.one (.sl (.sl AA) N),.one (.sl Am L),.one (.int .i64 n),.one (.int .i64 i)]/\O=[]/\(Cb n L.length/\AS i i'/\i'<=L.length)/\N=tw (Ap (ns.take i'))/\k=L.length-i'):=⟨_,rfl⟩
 refine⟨[4,9,10,11],[],J0,⟨L.length,by rw[j];exact .inl ⟨0,Y,0,rfl,rfl,⟨C,BC 0,by omega⟩,rfl,rfl⟩⟩,?_⟩;intro vs O a7 hj;rw[j] at hj;rcases hj with⟨i',n,i,rfl,rfl,⟨s,U,V⟩,P,W⟩ |⟨N,i',n,i,rfl,rfl,⟨s,U,V⟩,d,W⟩
 ·conv=>cbv
  have en:=s.eq;have ei:=U.eq;have d:=P.symm;intro H t;conv=>cbv
  cases H <;> conv=>cbv
  ·have F:=Ad t;exact fA ⟨⟨rfl,.inr (.inl ⟨_,congrArg _ (by rw[hT,<-List.take_of_length_le (show ns.length<=i' by omega)];exact P)⟩),trivial⟩,t2,trivial⟩ rfl (by simp)
  have F:=Ae t;refine .inr ?_;obtain⟨I,o⟩:=AG (l:=L) (i:=i') (by omega);refine⟨I,fun _=>⟨by omega,by rw[show (i).toNat=i' by omega];exact o⟩,?_⟩;try conv=>cbv
  obtain⟨u,y,g,X,w⟩:=Dq Q o;have hu:TT u:=z _ (List.mem_of_getElem? w);have f:=L0 w;unfold DO at f;have p:TT (Ap (ns.take i')):=G.Ap (fun n s=>z n (List.mem_of_mem_take s));refine .inr ?_;obtain⟨A,a⟩:=CV (u<:+(Ap (ns.take i')));refine cL M (G5 (G.AU p) (G.AU hu) d g a) ⟨.inr ⟨_,rfl⟩,rfl,trivial⟩ ?_;try conv=>cbv
  refine .inr ?_;cases A <;> conv=>cbv
  ·have h:=fun q=>Bool.false_ne_true (a.2 q)
   obtain⟨B,b⟩:=CV ((Ap (ns.take i'))<:+u);refine cL M (G5 (G.AU hu) (G.AU p) g d b) ⟨rfl,.inr ⟨_,rfl⟩,trivial⟩ ?_;try conv=>cbv
   refine .inr ?_;cases B <;> conv=>cbv
   ·have r:=fun q=>Bool.false_ne_true (b.2 q)
    obtain⟨a1,m⟩:=xV (tw (ext (Ap (ns.take i')) u));obtain⟨a2,x⟩:=xV (CT (Ap (ns.take i')) u);refine cL M (Lo G p hu d g m x) ⟨.inr ⟨_,rfl⟩,rfl,trivial⟩ ?_;try conv=>cbv
    intro Z D;cases D.trans (show _=false by decide);conv=>cbv
    intro c v;conv=>cbv
    refine g1 (by omega) ?_;refine⟨L.length-(i'+1),?_,?_⟩
    ·omega
    rw[j];exact .inr ⟨_,i'+1,n,c,rfl,rfl,⟨s,⟨by omega⟩,by omega⟩,by rw[f,if_neg h,if_neg r,m],rfl⟩
   have r:=b.1 rfl;intro c v;conv=>cbv
   refine g1 (by omega) ?_;refine⟨L.length-(i'+1),?_,?_⟩
   ·omega
   rw[j];exact .inr ⟨_,i'+1,n,c,rfl,rfl,⟨s,⟨by omega⟩,by omega⟩,by rw[f,if_neg h,if_pos r];exact g,rfl⟩
  have h:=a.1 rfl;intro c v;conv=>cbv
  refine g1 (by omega) ?_;refine⟨L.length-(i'+1),?_,?_⟩
  ·omega
  rw[j];exact .inl ⟨i'+1,n,c,rfl,rfl,⟨s,⟨by omega⟩,by omega⟩,by rw[f,if_pos h];exact P,rfl⟩
 conv=>cbv
 have en:=s.eq;have ei:=U.eq;intro H t;conv=>cbv
 cases H <;> conv=>cbv
 ·have F:=Ad t;exact fA ⟨⟨rfl,congrArg _ (by rw[hT,d,List.take_of_length_le (show ns.length<=i' by omega)]),trivial⟩,t2,trivial⟩ rfl (by simp)
 have F:=Ae t;refine .inr ?_;obtain⟨I,o⟩:=AG (l:=L) (i:=i') (by omega);refine⟨I,fun _=>⟨by omega,by rw[show (i).toNat=i' by omega];exact o⟩,?_⟩;try conv=>cbv
 obtain⟨u,y,g,X,w⟩:=Dq Q o;have hu:TT u:=z _ (List.mem_of_getElem? w);have f:=L0 w;unfold DO at f;have p:TT (Ap (ns.take i')):=G.Ap (fun n s=>z n (List.mem_of_mem_take s));refine .inr ?_;obtain⟨A,a⟩:=CV (u<:+(Ap (ns.take i')));refine cL M (G5 (G.AU p) (G.AU hu) d g a) t2 ?_;try conv=>cbv
 refine .inr ?_;cases A <;> conv=>cbv
 ·have h:=fun q=>Bool.false_ne_true (a.2 q)
  obtain⟨B,b⟩:=CV ((Ap (ns.take i'))<:+u);refine cL M (G5 (G.AU hu) (G.AU p) g d b) t2 ?_;try conv=>cbv
  refine .inr ?_;cases B <;> conv=>cbv
  ·have r:=fun q=>Bool.false_ne_true (b.2 q)
   obtain⟨a1,m⟩:=xV (tw (ext (Ap (ns.take i')) u));obtain⟨a2,x⟩:=xV (CT (Ap (ns.take i')) u);refine cL M (Lo G p hu d g m x) t2 ?_;try conv=>cbv
   intro Z D;cases D.trans (show _=false by decide);conv=>cbv
   intro c v;conv=>cbv
   refine g1 (by omega) ?_;refine⟨L.length-(i'+1),?_,?_⟩
   ·omega
   rw[j];exact .inr ⟨_,i'+1,n,c,rfl,rfl,⟨s,⟨by omega⟩,by omega⟩,by rw[f,if_neg h,if_neg r,m],rfl⟩
  have r:=b.1 rfl;intro c v;conv=>cbv
  refine g1 (by omega) ?_;refine⟨L.length-(i'+1),?_,?_⟩
  ·omega
  rw[j];exact .inr ⟨_,i'+1,n,c,rfl,rfl,⟨s,⟨by omega⟩,by omega⟩,by rw[f,if_neg h,if_pos r];exact g,rfl⟩
 have h:=a.1 rfl;intro c v;conv=>cbv
 refine g1 (by omega) ?_;refine⟨L.length-(i'+1),?_,?_⟩
 ·omega
 rw[j];exact .inr ⟨_,i'+1,n,c,rfl,rfl,⟨s,⟨by omega⟩,by omega⟩,by rw[f,if_pos h,<-d],rfl⟩
theorem ND (G:Gam TT R K S) {ns:List (List (List Rat)×Re)} (C:∀n∈ns,TT n.1) (hL:L=ns.map nm) (a6:∀n∈ns,El n.1 S n.2) (hlen:ns.length<=1000000) {O:List (el Am)} (hO:O=ns.map (fun n=>nm (Ap ns,n.2))):CF 195 [.one (.sl Am L)] (.AE [(false,[.sl Am O]),(false,[.int .i64 0])]):=by
 have af:L.length=ns.length:=by rw[hL,List.length_map]
 have a:TT (Ap ns):=G.Ap C;obtain⟨T,d⟩:=xV (tw (Ap ns));refine AH Tryz.func195 (by kernel_rfl) rfl fun E A=>?_
 conv=>cbv
 refine cL A (Zd G C hL d) t1 ?_;try conv=>cbv
 intro aj a8;cases a8.trans (show _=false by decide);conv=>cbv
 intro ab Q;have ae:=Q.eq;have f21:=Q.le;conv=>cbv
 refine .inr ?_
 obtain⟨J0,B⟩:∃J:List AV->List AM->Nat->Prop,J=fun vs bl k=>(∃(n i:Int),vs=[.one (.sl (.sl AA) T),.one .nil,.one (.sl Am L),.one (.int .i64 n),.one (.int .i64 i)]/\bl=[.dead 0]/\(Cb n L.length/\AS i 0)/\k=L.length)\/
  (∃(o:List (el Am)) (mm i':Nat) (n i:Int),vs=[.one (.sl (.sl AA) T),.one (.AT Am 56 0 0 mm),.one (.sl Am L),.one (.int .i64 n),.one (.int .i64 i)]/\bl=[.arr 0 Am o]/\(Cb n L.length/\AS i i'/\i'<=L.length/\mm=o.length)/\o=(ns.take i').map (fun n=>nm (Ap ns,n.2))/\k=L.length-i'):=⟨_,rfl⟩
 refine⟨[4,6,20,21,22],[56],J0,⟨L.length,by rw[B];exact .inl ⟨ab,0,rfl,rfl,⟨Q,BC 0⟩,rfl⟩⟩,?_⟩;intro vs bl ai hj;rw[B] at hj;rcases hj with⟨n,i,rfl,rfl,⟨Y,hi⟩,aa⟩ |⟨o,mm,i',n,i,rfl,rfl,⟨Y,hi,ag,X⟩,hinv,aa⟩
 ·conv=>cbv
  have en:=Y.eq;have ei:=hi.eq;obtain⟨i',a7⟩:=xN 0;intro a1 D;conv=>cbv
  cases a1 <;> conv=>cbv
  ·have Z:=Ad D;exact fA ⟨⟨rfl,.inr (.inl ⟨_,congrArg _ (by rw[hO,show ns=[] from List.eq_nil_of_length_eq_zero (by omega)];rfl)⟩),trivial⟩,t2,trivial⟩ rfl (by simp)
  have Z:=Ae D;refine .inr ?_;obtain⟨a5,p⟩:=AG (l:=L) (i:=i') (by omega);refine⟨a5,fun _=>⟨by omega,by rw[show (i).toNat=i' by omega];exact p⟩,?_⟩;try conv=>cbv
  obtain⟨u,y,I,M,v⟩:=Dq hL p;have w:=List.mem_of_getElem? v;have hu:TT u:=C _ w;have g:El u S y:=a6 _ w;have f:BK u (Ap ns):=FY G C _ w;obtain⟨t,b⟩:=xR (em (Ap ns) y);obtain⟨P,c⟩:=CV (u<:+Ap ns);refine cL A (G5 (G.AU a) (G.AU hu) d I c) t2 ?_;try conv=>cbv
  refine .inr ?_;cases P <;> conv=>cbv
  ·have N:=fun q=>Bool.false_ne_true (c.2 q)
   obtain⟨a2,m⟩:=xV (CT (Ap ns) u);have j:=FZ (G.AU a).red (G.AU hu).red f;refine cL (r:= .AE [(true,[.sl (.sl AA) T,.sl (.sl AA) a2]),(false,[.int .i64 0])]) A (Lo G a hu d I (by rw[j];exact d) m) t2 ?_;try conv=>cbv
   intro ad U;cases U.trans (show _=false by decide);conv=>cbv
   refine cL (r:= .one (.sl AA t)) A (OO G a hu f d (by rw[m];have:=E8 (G.AU a).red (G.AU hu).red;rwa [j] at this) M g b) ⟨t2,rfl,trivial⟩ ?_;try conv=>cbv
   refine cL (r:= .agg [.sl (.sl AA) T,.sl AA t]) A (Ii (G.AU a) d b (G.Be hu a f g) (by have:=G.mul a;omega)) ⟨t2,trivial⟩ ?_;try conv=>cbv
   refine⟨[(T,t)],fun _=>⟨rfl,by decide,rfl,⟨rfl,by first | exact t1 | exact t2 | exact t4 | simp[Aw,BF,cells],trivial⟩⟩,.inr ?_⟩;try conv=>cbv
   refine .inl ⟨[(T,t)],fun _=>⟨rfl,by show (1)*48<=140737488355328;(try simp only[List.length_take,List.length_drop]);omega⟩,?_⟩;intro h V;conv=>cbv
   intro z W;conv=>cbv
   refine g1 (by omega) ?_;refine⟨L.length-(i'+1),?_,?_⟩
   ·omega
   rw[B];exact .inr ⟨_,h,i'+1,n,z,rfl,rfl,⟨Y,⟨by omega⟩,by omega,V⟩,by rw[Bi v,List.map_append,a7];simp[nm,d,b],rfl⟩
  have N:=c.1 rfl;refine cL A (MT (G.AU a) d M g.mem N b) t2 ?_;try conv=>cbv
  refine cL (r:= .agg [.sl (.sl AA) T,.sl AA t]) A (Ii (G.AU a) d b (G.Be hu a f g) (by have:=G.mul a;omega)) ⟨t2,trivial⟩ ?_;try conv=>cbv
  refine⟨[(T,t)],fun _=>⟨rfl,by decide,rfl,⟨rfl,by first | exact t1 | exact t2 | exact t4 | simp[Aw,BF,cells],trivial⟩⟩,.inr ?_⟩;try conv=>cbv
  refine .inl ⟨[(T,t)],fun _=>⟨rfl,by show (1)*48<=140737488355328;(try simp only[List.length_take,List.length_drop]);omega⟩,?_⟩;intro h V;conv=>cbv
  intro z W;conv=>cbv
  refine g1 (by omega) ?_;refine⟨L.length-(i'+1),?_,?_⟩
  ·omega
  rw[B];exact .inr ⟨_,h,i'+1,n,z,rfl,rfl,⟨Y,⟨by omega⟩,by omega,V⟩,by rw[Bi v,List.map_append,a7];simp[nm,d,b],rfl⟩
 conv=>cbv
 have en:=Y.eq;have ei:=hi.eq;have ah:o.length<=L.length:=by rw[hinv,List.length_map,List.length_take];omega
 intro a1 D;conv=>cbv
 cases a1 <;> conv=>cbv
 ·have Z:=Ad D;exact fA ⟨⟨rfl,.inl ⟨_,rfl,by omega,congrArg _ (by rw[hO,X,hinv,List.drop_zero,List.take_length,List.take_of_length_le (show ns.length<=i' by omega)])⟩,trivial⟩,t2,trivial⟩ rfl (by simp)
 have Z:=Ae D;refine .inr ?_;obtain⟨a5,p⟩:=AG (l:=L) (i:=i') (by omega);refine⟨a5,fun _=>⟨by omega,by rw[show (i).toNat=i' by omega];exact p⟩,?_⟩;try conv=>cbv
 obtain⟨u,y,I,M,v⟩:=Dq hL p;have w:=List.mem_of_getElem? v;have hu:TT u:=C _ w;have g:El u S y:=a6 _ w;have f:BK u (Ap ns):=FY G C _ w;obtain⟨t,b⟩:=xR (em (Ap ns) y);obtain⟨P,c⟩:=CV (u<:+Ap ns);refine cL A (G5 (G.AU a) (G.AU hu) d I c) t2 ?_;try conv=>cbv
 refine .inr ?_;cases P <;> conv=>cbv
 ·have N:=fun q=>Bool.false_ne_true (c.2 q)
  obtain⟨a2,m⟩:=xV (CT (Ap ns) u);have j:=FZ (G.AU a).red (G.AU hu).red f;refine cL (r:= .AE [(true,[.sl (.sl AA) T,.sl (.sl AA) a2]),(false,[.int .i64 0])]) A (Lo G a hu d I (by rw[j];exact d) m) t2 ?_;try conv=>cbv
  intro ad U;cases U.trans (show _=false by decide);conv=>cbv
  refine cL (r:= .one (.sl AA t)) A (OO G a hu f d (by rw[m];have:=E8 (G.AU a).red (G.AU hu).red;rwa [j] at this) M g b) ⟨t2,rfl,trivial⟩ ?_;try conv=>cbv
  refine cL (r:= .agg [.sl (.sl AA) T,.sl AA t]) A (Ii (G.AU a) d b (G.Be hu a f g) (by have:=G.mul a;omega)) ⟨t2,trivial⟩ ?_;try conv=>cbv
  refine⟨[(T,t)],fun _=>⟨rfl,by decide,rfl,⟨rfl,by first | exact t1 | exact t2 | exact t4 | simp[Aw,BF,cells],trivial⟩⟩,.inr ?_⟩;try conv=>cbv
  refine .inl ⟨[(T,t)],fun _=>⟨rfl,X,rfl,by show (o.length+1)*48<=140737488355328;(try simp only[List.length_take,List.length_drop]);omega⟩,?_⟩;intro (x:List (el Am)) h s;have F:x=(o:List (el Am))++([(T,t)]:List (el Am)):=s.1;have H:h=List.length (α:=(el Am)) x:=s.2;conv=>cbv
  intro z W;conv=>cbv
  refine g1 (by omega) ?_;refine⟨L.length-(i'+1),?_,?_⟩
  ·omega
  rw[B];exact .inr ⟨x,h,i'+1,n,z,rfl,rfl,⟨Y,⟨by omega⟩,by omega,H⟩,by rw[F,hinv,Bi v,List.map_append];simp[nm,d,b],rfl⟩
 have N:=c.1 rfl;refine cL A (MT (G.AU a) d M g.mem N b) t2 ?_;try conv=>cbv
 refine cL (r:= .agg [.sl (.sl AA) T,.sl AA t]) A (Ii (G.AU a) d b (G.Be hu a f g) (by have:=G.mul a;omega)) ⟨t2,trivial⟩ ?_;try conv=>cbv
 refine⟨[(T,t)],fun _=>⟨rfl,by decide,rfl,⟨rfl,by first | exact t1 | exact t2 | exact t4 | simp[Aw,BF,cells],trivial⟩⟩,.inr ?_⟩;try conv=>cbv
 refine .inl ⟨[(T,t)],fun _=>⟨rfl,X,rfl,by show (o.length+1)*48<=140737488355328;(try simp only[List.length_take,List.length_drop]);omega⟩,?_⟩;intro (x:List (el Am)) h s;have F:x=(o:List (el Am))++([(T,t)]:List (el Am)):=s.1;have H:h=List.length (α:=(el Am)) x:=s.2;conv=>cbv
 intro z W;conv=>cbv
 refine g1 (by omega) ?_;refine⟨L.length-(i'+1),?_,?_⟩
 ·omega
 rw[B];exact .inr ⟨x,h,i'+1,n,z,rfl,rfl,⟨Y,⟨by omega⟩,by omega,H⟩,by rw[F,hinv,Bi v,List.map_append];simp[nm,d,b],rfl⟩
noncomputable def BH (u v:List (List Rat)):List (List Rat):=Ap [(u,0),(v,0)]
theorem N4 (G:Gam TT R K S) {T1 T2:List LR} {A1 A2:LR} {u v:List (List Rat)} {x y:Re} (hu:TT u) (U:TT v) (w:T1=tw u) (D:T2=tw v) (s:A1=em u x) (t:A2=em v y) (V:El u S x) (W:El v S y) {A B C:LR} {g:FuncId} (P:T=tw (BH u v)) (J:A=em (BH u v) x) (M:B=em (BH u v) y) (Q:CF g [.one (.sl (.sl AA) T),.one (.sl AA A),.one (.sl AA B)] (.one (.sl AA C))):CF 259 [.agg [.sl (.sl AA) T1,.sl AA A1],.agg [.sl (.sl AA) T2,.sl AA A2],.one (.fn g)] (.AE [(true,[.sl (.sl AA) T,.sl AA C]),(false,[.int .i64 0])]):=by
 obtain⟨O,m⟩:∃z:List (el Am),z=[(T,A),(T,B)]:=⟨_,rfl⟩
 have N:O.length=2:=by rw[m];rfl
 have F:O[0]? =some (T,A):=by rw[m];rfl
 have I:O[1]? =some (T,B):=by rw[m];rfl
 refine AH Tryz.func259 (by kernel_rfl) rfl fun E H=>?_
 conv=>cbv
 refine⟨[(T1,A1),(T2,A2)],fun _=>⟨rfl,by decide,rfl,⟨rfl,by first | exact t1 | exact t2 | exact t4 | simp[Aw,BF,cells],⟨rfl,by first | exact t1 | exact t2 | exact t4 | simp[Aw,BF,cells],trivial⟩⟩⟩,.inr ?_⟩;try conv=>cbv
 refine cL (r:= .AE [(false,[.sl Am O]),(false,[.int .i64 0])]) H (ND (ns:=[(u,x),(v,y)]) G (by intro n f;simp at f;rcases f with rfl | rfl;exact hu;exact U) (by rw[w,D,s,t];rfl) (by intro n f;simp at f;rcases f with rfl | rfl;exact V;exact W) (by show 2<=1000000;decide) (by rw[m,P,J,M];rfl)) t1 ?_;try conv=>cbv
 intro X q;cases q.trans (show _=false by decide);conv=>cbv
 obtain⟨h,a⟩:=AG (l:=O) (i:=0) (by omega);refine⟨h,fun _=>⟨by omega,a⟩,?_⟩;try conv=>cbv
 obtain⟨j,b⟩:=AG (l:=O) (i:=0) (by omega);refine⟨j,fun _=>⟨by omega,b⟩,?_⟩;try conv=>cbv
 obtain⟨k,c⟩:=AG (l:=O) (i:=1) (by omega);refine⟨k,fun _=>⟨by omega,c⟩,?_⟩;try conv=>cbv
 have d:=Option.some.inj (a.symm.trans F);have o:=Option.some.inj (b.symm.trans F);have p:=Option.some.inj (c.symm.trans I);refine .inl ⟨[.one (.sl (.sl AA) h.1),.one (.sl AA j.2),.one (.sl AA k.2)],.one (.sl AA C),fun _=>t3,fun _=>Fu H (by rw[d,o,p];exact Q),?_⟩;try conv=>cbv
 refine g2 rfl ?_;exact fA ⟨⟨rfl,congrArg _ (by rw[d]),rfl,trivial⟩,t2,trivial⟩ rfl (by simp)
end Go.Abs
namespace Go.Abs
open Go.RowKit
section
variable {TT:List (List Rat)->Prop} {R K S:Nat}
theorem Gam.BH (G:Gam TT R K S) {u v:List (List Rat)} (hu:TT u) (c:TT v):TT (Go.Abs.BH u v)/\BK u (Go.Abs.BH u v)/\BK v (Go.Abs.BH u v):=by
 have a:∀n∈[(u,(0:Re)),(v,0)],TT n.1:=by intro n b;simp at b;rcases b with rfl | rfl;exact hu;exact c
 have he:=FY G a;exact⟨G.Ap a,he (u,0) (by simp),he (v,0) (by simp)⟩
end
theorem E7 (a:List LR):∃z:List LR,z=a:=⟨_,rfl⟩
theorem CY (a:LR):∃z:LR,z=a:=⟨_,rfl⟩
theorem W0 {TT:List (List Rat)->Prop} {R K S:Nat} (G:Gam TT R K S) {T1 T2:List LR} {A1 A2:LR} {u v:List (List Rat)} {x y:Re} (hu:TT u) (i:TT v) (d:T1=tw u) (f:T2=tw v) (b:A1=em u x) (c:A2=em v y) (o:El u S x) (p:El v S y) {T:List LR} {C:LR} (n:T=tw (BH u v)) (q:C=em (BH u v) (x+y)):CF 207 [.agg [.sl (.sl AA) T1,.sl AA A1],.agg [.sl (.sl AA) T2,.sl AA A2]] (.AE [(true,[.sl (.sl AA) T,.sl AA C]),(false,[.int .i64 0])]):=by
 obtain⟨a,g,h⟩:=G.BH hu i;have j:=G.Be hu a g o;have k:=G.Be i a h p;have hmul:=G.mul a;obtain⟨A,l⟩:=CY (em (BH u v) x);obtain⟨B,m⟩:=CY (em (BH u v) y);refine AH Tryz.func207 (by kernel_rfl) rfl fun E r=>?_
 conv=>cbv
 refine cL r (N4 G hu i d f b c o p n l m (IN (G.AU a) n l m j k (by omega) (by omega) q)) ⟨t2,t2,rfl,trivial⟩ ?_;try conv=>cbv
 exact fA ⟨t3,t2,trivial⟩ rfl (by simp)
theorem W7 {TT:List (List Rat)->Prop} {R K S:Nat} (G:Gam TT R K S) {T1 T2:List LR} {A1 A2:LR} {u v:List (List Rat)} {x y:Re} (hu:TT u) (i:TT v) (d:T1=tw u) (f:T2=tw v) (b:A1=em u x) (c:A2=em v y) (o:El u S x) (p:El v S y) {T:List LR} {C:LR} (n:T=tw (BH u v)) (q:C=em (BH u v) (x-y)):CF 200 [.agg [.sl (.sl AA) T1,.sl AA A1],.agg [.sl (.sl AA) T2,.sl AA A2]] (.AE [(true,[.sl (.sl AA) T,.sl AA C]),(false,[.int .i64 0])]):=by
 obtain⟨a,g,h⟩:=G.BH hu i;have j:=G.Be hu a g o;have k:=G.Be i a h p;have hmul:=G.mul a;obtain⟨A,l⟩:=CY (em (BH u v) x);obtain⟨B,m⟩:=CY (em (BH u v) y);refine AH Tryz.func200 (by kernel_rfl) rfl fun E r=>?_
 conv=>cbv
 refine cL r (N4 G hu i d f b c o p n l m (Ky (G.AU a) n l m j k (by omega) (by omega) q)) ⟨t2,t2,rfl,trivial⟩ ?_;try conv=>cbv
 exact fA ⟨t3,t2,trivial⟩ rfl (by simp)
theorem QS {TT:List (List Rat)->Prop} {R K S:Nat} (G:Gam TT R K S) {T1 T2:List LR} {A1 A2:LR} {u v:List (List Rat)} {x y:Re} (hu:TT u) (i:TT v) (d:T1=tw u) (f:T2=tw v) (b:A1=em u x) (c:A2=em v y) (o:El u S x) (p:El v S y) {T:List LR} {C:LR} (n:T=tw (BH u v)) (q:C=em (BH u v) (x*y)):CF 205 [.agg [.sl (.sl AA) T1,.sl AA A1],.agg [.sl (.sl AA) T2,.sl AA A2]] (.AE [(true,[.sl (.sl AA) T,.sl AA C]),(false,[.int .i64 0])]):=by
 obtain⟨a,g,h⟩:=G.BH hu i;have j:=G.Be hu a g o;have k:=G.Be i a h p;have hmul:=G.mul a;obtain⟨A,l⟩:=CY (em (BH u v) x);obtain⟨B,m⟩:=CY (em (BH u v) y);refine AH Tryz.func205 (by kernel_rfl) rfl fun E r=>?_
 conv=>cbv
 refine cL r (N4 G hu i d f b c o p n l m (Fz (G.AU a) n l m j k (by omega) q)) ⟨t2,t2,rfl,trivial⟩ ?_;try conv=>cbv
 exact fA ⟨t3,t2,trivial⟩ rfl (by simp)
theorem W4 {TT:List (List Rat)->Prop} {R K S:Nat} (G:Gam TT R K S) {T1:List LR} {A1:LR} {u:List (List Rat)} {x:Re} (hu:TT u) (b:T1=tw u) (a:A1=em u x) (d:El u S x) {C:LR} (f:C=em u (-x)):CF 101 [.agg [.sl (.sl AA) T1,.sl AA A1]] (.agg [.sl (.sl AA) T1,.sl AA C]):=by
 have hmul:=G.mul hu;refine AH Tryz.func101 (by kernel_rfl) rfl fun E c=>?_
 conv=>cbv
 refine cL c (Ii (G.AU hu) b a d (by omega)) ⟨t2,trivial⟩ ?_;try conv=>cbv
 refine cL c (QU (G.AU hu) b a d (by omega) f) t2 ?_;try conv=>cbv
 exact fA ⟨t3,trivial⟩ rfl (by simp)
theorem W5 {TT:List (List Rat)->Prop} {R K S:Nat} (G:Gam TT R K S) {T1:List LR} {A1:LR} {u:List (List Rat)} {x:Re} (hu:TT u) (b:T1=tw u) (a:A1=em u x) (g:El u S x) {c:Int} (f:c=BJ x):CF 99 [.agg [.sl (.sl AA) T1,.sl AA A1]] (.one (.int .i64 c)):=by
 refine AH Tryz.func99 (by kernel_rfl) rfl fun E d=>?_
 conv=>cbv
 refine cL d (JZ (G.AU hu) b a g ((G.fit hu).mono (Nat.le_add_right _ _)).v0 (G.fit hu).vR f) t2 ?_;try conv=>cbv
 exact fA ⟨t2,trivial⟩ rfl (by simp)
theorem W6 {TT:List (List Rat)->Prop} {R K S:Nat} (G:Gam TT R K S) {T1:List LR} {A1:LR} {u:List (List Rat)} {x:Re} (hu:TT u) (c:T1=tw u) (b:A1=em u x) (k:El u S x) (hw:TT (Ax u x)) (i:0<=x) {T:List LR} {C:LR} (h:T=tw (Ax u x)) (f:C=em (Ax u x) (Re.sqrt x)) {s:Nat} (j:El (Ax u x) s (Re.sqrt x)) (d:s<=60000000000000):CF 86 [.agg [.sl (.sl AA) T1,.sl AA A1]] (.AE [(true,[.sl (.sl AA) T,.sl AA C]),(false,[.int .i64 0])]):=by
 refine AH Tryz.func86 (by kernel_rfl) rfl fun E g=>?_
 conv=>cbv
 refine cL g (NA (G.AU hu) (G.AU hw) (G.ht hw) c b k ((G.fit hu).mono (Nat.le_add_right _ _)) i h f) t2 ?_;try conv=>cbv
 intro l a;cases a.trans (show _=false by decide);conv=>cbv
 refine cL g (Ii (G.AU hw) h f j d) ⟨t2,trivial⟩ ?_;try conv=>cbv
 exact fA ⟨t3,t2,trivial⟩ rfl (by simp)
theorem W1 {TT:List (List Rat)->Prop} {R K S:Nat} (G:Gam TT R K S) {T1 T2:List LR} {A1 A2:LR} {u v:List (List Rat)} {x y:Re} (hu:TT u) (m:TT v) (h:T1=tw u) (b:T2=tw v) (d:A1=em u x) (f:A2=em v y) (q:El u S x) (r:El v S y) {i:Re} (p:In v i) (k:y*i=1) (j:El v S i) (g:II v.length R S<=60000000000000) {T:List LR} {C:LR} (o:T=tw (BH u v)) (n:C=em (BH u v) (x*i)):CF 122 [.agg [.sl (.sl AA) T1,.sl AA A1],.agg [.sl (.sl AA) T2,.sl AA A2]] (.AE [(true,[.sl (.sl AA) T,.sl AA C]),(false,[.int .i64 0])]):=by
 refine AH Tryz.func122 (by kernel_rfl) rfl fun E l=>?_
 conv=>cbv
 obtain⟨t,a⟩:=CY (em v i);refine cL l (Ks (G.AU m) b f r p k g a) t2 ?_;try conv=>cbv
 intro s c;cases c.trans (show _=false by decide);conv=>cbv
 refine cL l (QS G hu m h b d a q j o n) ⟨t2,t2,trivial⟩ ?_;try conv=>cbv
 exact fA ⟨t3,t2,trivial⟩ rfl (by simp)
theorem N8 {u:List (List Rat)} {x y:Re} (a:In u x) (b:In u y):em u x=em u y↔x=y:=
 ⟨fun h=>by rw[<-Df a,<-Df b,VI h],fun h=>by rw[h]⟩
theorem gE {u v:List (List Rat)} (h:u<:+v) (k:v<:+u):u=v:=h.eq_of_length_le k.length_le
theorem W2 {TT:List (List Rat)->Prop} {R K S:Nat} (G:Gam TT R K S) {T1 T2:List LR} {A1 A2:LR} {u v:List (List Rat)} {x y:Re} (hu:TT u) (N:TT v) (t:T1=tw u) (w:T2=tw v) (p:A1=em u x) (s:A2=em v y) (U:El u S x) (V:El v S y) {c:Bool} (hc:c=true↔x=y):CF 107 [.agg [.sl (.sl AA) T1,.sl AA A1],.agg [.sl (.sl AA) T2,.sl AA A2]] (.one (.bool c)):=by
 obtain⟨I,a1,a2⟩:=G.BH hu N;have C:=G.Be hu I a1 U;have D:=G.Be N I a2 V;have hmul:=G.mul I;obtain⟨A,J⟩:=CY (em (BH u v) x);obtain⟨B,M⟩:=CY (em (BH u v) y);obtain⟨T,hT⟩:=E7 (tw (BH u v));obtain⟨O,P⟩:∃z:List (el Am),z=[(T,A),(T,B)]:=⟨_,rfl⟩
 have a6:O.length=2:=by rw[P];rfl
 have h0:O[0]? =some (T,A):=by rw[P];rfl
 have h1:O[1]? =some (T,B):=by rw[P];rfl
 refine AH Tryz.func107 (by kernel_rfl) rfl fun E H=>?_
 conv=>cbv
 obtain⟨Y,g⟩:=CV (v<:+u);refine cL H (G5 (G.AU hu) (G.AU N) t w g) t2 ?_;try conv=>cbv
 cases Y <;> conv=>cbv
 ·have W:=fun q=>Bool.false_ne_true (g.2 q)
  refine⟨[(T1,A1),(T2,A2)],fun _=>⟨rfl,by decide,rfl,⟨rfl,by first | exact t1 | exact t2 | exact t4 | simp[Aw,BF,cells],⟨rfl,by first | exact t1 | exact t2 | exact t4 | simp[Aw,BF,cells],trivial⟩⟩⟩,.inr ?_⟩;try conv=>cbv
  refine cL (r:= .AE [(false,[.sl Am O]),(false,[.int .i64 0])]) H (ND (ns:=[(u,x),(v,y)]) G (by intro n k;simp at k;rcases k with rfl | rfl;exact hu;exact N) (by rw[t,w,p,s];rfl) (by intro n k;simp at k;rcases k with rfl | rfl;exact U;exact V) (by show 2<=1000000;decide) (by rw[P,hT,J,M];rfl)) t1 ?_;try conv=>cbv
  intro a5 F;cases F.trans (show _=true by decide);conv=>cbv
  obtain⟨m,a⟩:=AG (l:=O) (i:=0) (by omega);refine⟨m,fun _=>⟨by omega,a⟩,?_⟩;try conv=>cbv
  obtain⟨o,b⟩:=AG (l:=O) (i:=1) (by omega);refine⟨o,fun _=>⟨by omega,b⟩,?_⟩;try conv=>cbv
  have d:=Option.some.inj (a.symm.trans h0);have f:=Option.some.inj (b.symm.trans h1);have j:c=decide (m.2=o.2):=by rw[Bool.eq_iff_iff,decide_eq_true_eq,hc,d,f,J,M];exact (N8 C.mem D.mem).symm
  refine cL (r:= .one (.bool c)) H (Mn (by rw[d];exact J) (by rw[f];exact M) (C.Bh (by omega)) (D.Bh (by omega)) j) t2 ?_;try conv=>cbv
  refine g2 rfl ?_;exact fA ⟨t2,trivial⟩ rfl (by simp)
 have W:=g.1 rfl;obtain⟨Z,h⟩:=CV (u<:+v);refine cL H (G5 (G.AU N) (G.AU hu) w t h) t2 ?_;try conv=>cbv
 cases Z <;> conv=>cbv
 ·have X:=fun q=>Bool.false_ne_true (h.2 q)
  refine⟨[(T1,A1),(T2,A2)],fun _=>⟨rfl,by decide,rfl,⟨rfl,by first | exact t1 | exact t2 | exact t4 | simp[Aw,BF,cells],⟨rfl,by first | exact t1 | exact t2 | exact t4 | simp[Aw,BF,cells],trivial⟩⟩⟩,.inr ?_⟩;try conv=>cbv
  refine cL (r:= .AE [(false,[.sl Am O]),(false,[.int .i64 0])]) H (ND (ns:=[(u,x),(v,y)]) G (by intro n k;simp at k;rcases k with rfl | rfl;exact hu;exact N) (by rw[t,w,p,s];rfl) (by intro n k;simp at k;rcases k with rfl | rfl;exact U;exact V) (by show 2<=1000000;decide) (by rw[P,hT,J,M];rfl)) t1 ?_;try conv=>cbv
  intro a5 F;cases F.trans (show _=true by decide);conv=>cbv
  obtain⟨m,a⟩:=AG (l:=O) (i:=0) (by omega);refine⟨m,fun _=>⟨by omega,a⟩,?_⟩;try conv=>cbv
  obtain⟨o,b⟩:=AG (l:=O) (i:=1) (by omega);refine⟨o,fun _=>⟨by omega,b⟩,?_⟩;try conv=>cbv
  have d:=Option.some.inj (a.symm.trans h0);have f:=Option.some.inj (b.symm.trans h1);have j:c=decide (m.2=o.2):=by rw[Bool.eq_iff_iff,decide_eq_true_eq,hc,d,f,J,M];exact (N8 C.mem D.mem).symm
  refine cL (r:= .one (.bool c)) H (Mn (by rw[d];exact J) (by rw[f];exact M) (C.Bh (by omega)) (D.Bh (by omega)) j) t2 ?_;try conv=>cbv
  refine g2 rfl ?_;exact fA ⟨t2,trivial⟩ rfl (by simp)
 have X:=h.1 rfl;have Q:=gE X W;have j:c=decide (A1=A2):=by rw[Bool.eq_iff_iff,decide_eq_true_eq,hc,p,s,<-Q];exact (N8 U.mem (Q ▸ V.mem)).symm
 refine cL H (Mn p s (U.Bh (by omega)) (V.Bh (by omega)) j) t2 ?_;try conv=>cbv
 exact fA ⟨t2,trivial⟩ rfl (by simp)
theorem QR {q:Rat} {b1 b2:Bool} {l1 l2:List UInt32} {C:LR} (a:BM q b1 l1 b2 l2) (d:Bj q) (b:C=em [] (Re.ofRat q)):CF 184 [.agg [.bool b1,.sl .u32 l1,.bool b2,.sl .u32 l2]] (.agg [.sl (.sl AA) (([]:List LR)),.sl AA C]):=by
 refine AH Tryz.func184 (by kernel_rfl) rfl fun E c=>?_
 conv=>cbv
 refine cL c (SK a d) ⟨t4,trivial⟩ ?_;try conv=>cbv
 refine⟨[((b1,l1),(b2,l2))],fun _=>⟨rfl,by decide,rfl,⟨rfl,by first | exact t1 | exact t2 | exact t4 | simp[Aw,BF,cells],trivial⟩⟩,.inr ?_⟩;try conv=>cbv
 exact fA ⟨⟨rfl,.inr (.inl ⟨_,rfl⟩),congrArg _ (by rw[b,DT,<-a.rp]),trivial⟩,trivial⟩ rfl (by simp)
theorem Hi {x:Int} {C:LR} (f: -9223372036854775808<=x/\x<9223372036854775808) (d:Bj x) (c:C=em [] (Re.ofRat x)):CF 102 [.one (.int .i64 x)] (.agg [.sl (.sl AA) (([]:List LR)),.sl AA C]):=by
 refine AH Tryz.func102 (by kernel_rfl) rfl fun E b=>?_
 conv=>cbv
 obtain⟨i,j,g,h,a⟩:=Bb (x:Rat);refine cL b (F1 f rfl a) t1 ?_;try conv=>cbv
 refine cL b (QR a d c) ⟨t4,trivial⟩ ?_;try conv=>cbv
 exact fA ⟨t3,trivial⟩ rfl (by simp)
end Go.Abs
