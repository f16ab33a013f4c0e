/- Part 38 of a proof. Conditions: each theorem's own. -/
import Derived.Test.YtjpiilcgomggaaaGreatPk36
set_option linter.all false
set_option maxHeartbeats 8000000
open Go.Proofs
namespace Go.Abs
open Go.RowKit
variable {K R S:Nat} {L:List (el AZ)} {T:List LR} {TT:List (List Rat)->Prop}
theorem WS (G:Gam TT R K S) {ns:List (List (List Rat)×Re)} (z:∀n∈ns,TT n.1) (Q:L=ns.map nm) (hT:T=tw (AY ns)):CF 91 [.one (.sl AZ L)] (.AG [(false,[.sl (.sl AA) T]),(false,[.int .i64 0])]):=by
 have a6:L.length=ns.length:=by rw[Q,List.length_map]
 refine AE Tryz.func91 (by kernel_rfl) rfl fun E M=>?_
 conv=>cbv
 intro Y C;have a5:=C.eq;have f10:=C.le;conv=>cbv
 refine .inr ?_
 obtain⟨J0,j⟩:∃J:List AV->List AH->Nat->Prop,J=fun vs O k=>(∃(i':Nat) (n i:Int),vs=[.one .nil,.one (.sl AZ L),.one (.int .i64 n),.one (.int .i64 i)]/\O=[]/\(Bu n L.length/\AK i i'/\i'<=L.length)/\tw (AY (ns.take i'))=[]/\k=L.length-i')\/
  (∃(N:List LR) (i':Nat) (n i:Int),vs=[.one (.sl (.sl AA) N),.one (.sl AZ L),.one (.int .i64 n),.one (.int .i64 i)]/\O=[]/\(Bu n L.length/\AK i i'/\i'<=L.length)/\N=tw (AY (ns.take i'))/\k=L.length-i'):=⟨_,rfl⟩
 refine⟨[4,9,10,11],[],J0,⟨L.length,by rw[j];exact .inl ⟨0,Y,0,rfl,rfl,⟨C,Ai 0,by omega⟩,rfl,rfl⟩⟩,?_⟩;intro vs O a7 hj;rw[j] at hj;rcases hj with⟨i',n,i,rfl,rfl,⟨s,U,V⟩,P,W⟩ |⟨N,i',n,i,rfl,rfl,⟨s,U,V⟩,d,W⟩
 ·conv=>cbv
  have en:=s.eq;have ei:=U.eq;have d:=P.symm;intro H t;conv=>cbv
  cases H <;> conv=>cbv
  ·have F:=AR t;exact fA ⟨⟨rfl,.inr (.inl ⟨_,congrArg _ (by rw[hT,<-List.take_of_length_le (show ns.length<=i' by omega)];exact P)⟩),trivial⟩,t2,trivial⟩ rfl (by simp)
  have F:=AS t;refine .inr ?_;obtain⟨I,o⟩:=AF (l:=L) (i:=i') (by omega);refine⟨I,fun _=>⟨by omega,by rw[show (i).toNat=i' by omega];exact o⟩,?_⟩;try conv=>cbv
  obtain⟨u,y,g,X,w⟩:=Cy Q o;have hu:TT u:=z _ (List.mem_of_getElem? w);have f:=KG w;unfold CJ at f;have p:TT (AY (ns.take i')):=G.AY (fun n s=>z n (List.mem_of_mem_take s));refine .inr ?_;obtain⟨A,a⟩:=CZ (u<:+(AY (ns.take i')));refine cL M (F2 (G.AN p) (G.AN hu) d g a) ⟨.inr ⟨_,rfl⟩,rfl,trivial⟩ ?_;try conv=>cbv
  refine .inr ?_;cases A <;> conv=>cbv
  ·have h:=fun q=>Bool.false_ne_true (a.2 q)
   obtain⟨B,b⟩:=CZ ((AY (ns.take i'))<:+u);refine cL M (F2 (G.AN hu) (G.AN p) g d b) ⟨rfl,.inr ⟨_,rfl⟩,trivial⟩ ?_;try conv=>cbv
   refine .inr ?_;cases B <;> conv=>cbv
   ·have r:=fun q=>Bool.false_ne_true (b.2 q)
    obtain⟨a1,m⟩:=xV (tw (ext (AY (ns.take i')) u));obtain⟨a2,x⟩:=xV (Bj (AY (ns.take i')) u);refine cL M (Jz G p hu d g m x) ⟨.inr ⟨_,rfl⟩,rfl,trivial⟩ ?_;try conv=>cbv
    intro Z D;cases D.trans (show _=false by decide);conv=>cbv
    intro c v;conv=>cbv
    refine g1 (by omega) ?_;refine⟨L.length-(i'+1),?_,?_⟩
    ·omega
    rw[j];exact .inr ⟨_,i'+1,n,c,rfl,rfl,⟨s,⟨by omega⟩,by omega⟩,by rw[f,if_neg h,if_neg r,m],rfl⟩
   have r:=b.1 rfl;intro c v;conv=>cbv
   refine g1 (by omega) ?_;refine⟨L.length-(i'+1),?_,?_⟩
   ·omega
   rw[j];exact .inr ⟨_,i'+1,n,c,rfl,rfl,⟨s,⟨by omega⟩,by omega⟩,by rw[f,if_neg h,if_pos r];exact g,rfl⟩
  have h:=a.1 rfl;intro c v;conv=>cbv
  refine g1 (by omega) ?_;refine⟨L.length-(i'+1),?_,?_⟩
  ·omega
  rw[j];exact .inl ⟨i'+1,n,c,rfl,rfl,⟨s,⟨by omega⟩,by omega⟩,by rw[f,if_pos h];exact P,rfl⟩
 conv=>cbv
 have en:=s.eq;have ei:=U.eq;intro H t;conv=>cbv
 cases H <;> conv=>cbv
 ·have F:=AR t;exact fA ⟨⟨rfl,congrArg _ (by rw[hT,d,List.take_of_length_le (show ns.length<=i' by omega)]),trivial⟩,t2,trivial⟩ rfl (by simp)
 have F:=AS t;refine .inr ?_;obtain⟨I,o⟩:=AF (l:=L) (i:=i') (by omega);refine⟨I,fun _=>⟨by omega,by rw[show (i).toNat=i' by omega];exact o⟩,?_⟩;try conv=>cbv
 obtain⟨u,y,g,X,w⟩:=Cy Q o;have hu:TT u:=z _ (List.mem_of_getElem? w);have f:=KG w;unfold CJ at f;have p:TT (AY (ns.take i')):=G.AY (fun n s=>z n (List.mem_of_mem_take s));refine .inr ?_;obtain⟨A,a⟩:=CZ (u<:+(AY (ns.take i')));refine cL M (F2 (G.AN p) (G.AN hu) d g a) t2 ?_;try conv=>cbv
 refine .inr ?_;cases A <;> conv=>cbv
 ·have h:=fun q=>Bool.false_ne_true (a.2 q)
  obtain⟨B,b⟩:=CZ ((AY (ns.take i'))<:+u);refine cL M (F2 (G.AN hu) (G.AN p) g d b) t2 ?_;try conv=>cbv
  refine .inr ?_;cases B <;> conv=>cbv
  ·have r:=fun q=>Bool.false_ne_true (b.2 q)
   obtain⟨a1,m⟩:=xV (tw (ext (AY (ns.take i')) u));obtain⟨a2,x⟩:=xV (Bj (AY (ns.take i')) u);refine cL M (Jz G p hu d g m x) t2 ?_;try conv=>cbv
   intro Z D;cases D.trans (show _=false by decide);conv=>cbv
   intro c v;conv=>cbv
   refine g1 (by omega) ?_;refine⟨L.length-(i'+1),?_,?_⟩
   ·omega
   rw[j];exact .inr ⟨_,i'+1,n,c,rfl,rfl,⟨s,⟨by omega⟩,by omega⟩,by rw[f,if_neg h,if_neg r,m],rfl⟩
  have r:=b.1 rfl;intro c v;conv=>cbv
  refine g1 (by omega) ?_;refine⟨L.length-(i'+1),?_,?_⟩
  ·omega
  rw[j];exact .inr ⟨_,i'+1,n,c,rfl,rfl,⟨s,⟨by omega⟩,by omega⟩,by rw[f,if_neg h,if_pos r];exact g,rfl⟩
 have h:=a.1 rfl;intro c v;conv=>cbv
 refine g1 (by omega) ?_;refine⟨L.length-(i'+1),?_,?_⟩
 ·omega
 rw[j];exact .inr ⟨_,i'+1,n,c,rfl,rfl,⟨s,⟨by omega⟩,by omega⟩,by rw[f,if_pos h,<-d],rfl⟩
theorem LP (G:Gam TT R K S) {ns:List (List (List Rat)×Re)} (B:∀n∈ns,TT n.1) (hL:L=ns.map nm) (a5:∀n∈ns,El n.1 S n.2) (hlen:ns.length<=1000000) {O:List (el AZ)} (hO:O=ns.map (fun n=>nm (AY ns,n.2))):CF 25 [.one (.sl AZ L)] (.AG [(false,[.sl AZ O]),(false,[.int .i64 0])]):=by
 have ae:L.length=ns.length:=by rw[hL,List.length_map]
 have a:TT (AY ns):=G.AY B;obtain⟨T,hT⟩:=xV (tw (AY ns));refine AE Tryz.func25 (by kernel_rfl) rfl fun E z=>?_
 conv=>cbv
 refine cL z (WS G B hL hT) t1 ?_;try conv=>cbv
 intro ai a7;cases a7.trans (show _=false by decide);conv=>cbv
 intro aa P;have ad:=P.eq;have f21:=P.le;conv=>cbv
 refine .inr ?_
 obtain⟨J0,A⟩:∃J:List AV->List AH->Nat->Prop,J=fun vs bl k=>(∃(n i:Int),vs=[.one (.sl (.sl AA) T),.one .nil,.one (.sl AZ L),.one (.int .i64 n),.one (.int .i64 i)]/\bl=[.dead 0]/\(Bu n L.length/\AK i 0)/\k=L.length)\/
  (∃(o:List (el AZ)) (mm i':Nat) (n i:Int),vs=[.one (.sl (.sl AA) T),.one (.AL AZ 56 0 0 mm),.one (.sl AZ L),.one (.int .i64 n),.one (.int .i64 i)]/\bl=[.arr 0 AZ o]/\(Bu n L.length/\AK i i'/\i'<=L.length/\mm=o.length)/\o=(ns.take i').map (fun n=>nm (AY ns,n.2))/\k=L.length-i'):=⟨_,rfl⟩
 refine⟨[4,6,20,21,22],[56],J0,⟨L.length,by rw[A];exact .inl ⟨aa,0,rfl,rfl,⟨P,Ai 0⟩,rfl⟩⟩,?_⟩;intro vs bl ah hj;rw[A] at hj;rcases hj with⟨n,i,rfl,rfl,⟨X,hi⟩,a8⟩ |⟨o,mm,i',n,i,rfl,rfl,⟨X,hi,af,W⟩,hinv,a8⟩
 ·conv=>cbv
  have en:=X.eq;have ei:=hi.eq;obtain⟨i',a6⟩:=xN 0;intro Z C;conv=>cbv
  cases Z <;> conv=>cbv
  ·have Y:=AR C;exact fA ⟨⟨rfl,.inr (.inl ⟨_,congrArg _ (by rw[hO,show ns=[] from List.eq_nil_of_length_eq_zero (by omega)];rfl)⟩),trivial⟩,t2,trivial⟩ rfl (by simp)
  have Y:=AS C;refine .inr ?_;obtain⟨a2,m⟩:=AF (l:=L) (i:=i') (by omega);refine⟨a2,fun _=>⟨by omega,by rw[show (i).toNat=i' by omega];exact m⟩,?_⟩;try conv=>cbv
  obtain⟨u,y,H,I,t⟩:=Cy hL m;have v:=List.mem_of_getElem? t;have hu:TT u:=B _ v;have f:El u S y:=a5 _ v;have d:Av u (AY ns):=Ei G B _ v;obtain⟨s,b⟩:=xR (em (AY ns) y);obtain⟨N,c⟩:=CZ (u<:+AY ns);refine cL z (F2 (G.AN a) (G.AN hu) hT H c) t2 ?_;try conv=>cbv
  refine .inr ?_;cases N <;> conv=>cbv
  ·have M:=fun q=>Bool.false_ne_true (c.2 q)
   obtain⟨a1,j⟩:=xV (Bj (AY ns) u);have h:=Ej (G.AN a).red (G.AN hu).red d;refine cL (r:= .AG [(true,[.sl (.sl AA) T,.sl (.sl AA) a1]),(false,[.int .i64 0])]) z (Jz G a hu hT H (by rw[h];exact hT) j) t2 ?_;try conv=>cbv
   intro ab Q;cases Q.trans (show _=false by decide);conv=>cbv
   refine cL (r:= .one (.sl AA s)) z (MP G a hu d hT (by rw[j];have:=EC (G.AN a).red (G.AN hu).red;rwa [h] at this) I f b) ⟨t2,rfl,trivial⟩ ?_;try conv=>cbv
   refine cL (r:= .agg [.sl (.sl AA) T,.sl AA s]) z (HN (G.AN a) hT b (G.BA hu a d f) (by have:=G.mul a;omega)) ⟨t2,trivial⟩ ?_;try conv=>cbv
   refine⟨[(T,s)],fun _=>⟨rfl,by decide,rfl,⟨rfl,by first | exact t1 | exact t2 | exact t4 | simp[Ae,Ak,cells],trivial⟩⟩,.inr ?_⟩;try conv=>cbv
   refine .inl ⟨[(T,s)],fun _=>⟨rfl,by show (1)*48<=140737488355328;(try simp only[List.length_take,List.length_drop]);omega⟩,?_⟩;intro g U;conv=>cbv
   intro x V;conv=>cbv
   refine g1 (by omega) ?_;refine⟨L.length-(i'+1),?_,?_⟩
   ·omega
   rw[A];exact .inr ⟨_,g,i'+1,n,x,rfl,rfl,⟨X,⟨by omega⟩,by omega,U⟩,by rw[BG t,List.map_append,a6];simp[nm,hT,b],rfl⟩
  have M:=c.1 rfl;refine cL z (Ke (G.AN a) hT I f.mem M b) t2 ?_;try conv=>cbv
  refine cL (r:= .agg [.sl (.sl AA) T,.sl AA s]) z (HN (G.AN a) hT b (G.BA hu a d f) (by have:=G.mul a;omega)) ⟨t2,trivial⟩ ?_;try conv=>cbv
  refine⟨[(T,s)],fun _=>⟨rfl,by decide,rfl,⟨rfl,by first | exact t1 | exact t2 | exact t4 | simp[Ae,Ak,cells],trivial⟩⟩,.inr ?_⟩;try conv=>cbv
  refine .inl ⟨[(T,s)],fun _=>⟨rfl,by show (1)*48<=140737488355328;(try simp only[List.length_take,List.length_drop]);omega⟩,?_⟩;intro g U;conv=>cbv
  intro x V;conv=>cbv
  refine g1 (by omega) ?_;refine⟨L.length-(i'+1),?_,?_⟩
  ·omega
  rw[A];exact .inr ⟨_,g,i'+1,n,x,rfl,rfl,⟨X,⟨by omega⟩,by omega,U⟩,by rw[BG t,List.map_append,a6];simp[nm,hT,b],rfl⟩
 conv=>cbv
 have en:=X.eq;have ei:=hi.eq;have ag:o.length<=L.length:=by rw[hinv,List.length_map,List.length_take];omega
 intro Z C;conv=>cbv
 cases Z <;> conv=>cbv
 ·have Y:=AR C;exact fA ⟨⟨rfl,.inl ⟨_,rfl,by omega,congrArg _ (by rw[hO,W,hinv,List.drop_zero,List.take_length,List.take_of_length_le (show ns.length<=i' by omega)])⟩,trivial⟩,t2,trivial⟩ rfl (by simp)
 have Y:=AS C;refine .inr ?_;obtain⟨a2,m⟩:=AF (l:=L) (i:=i') (by omega);refine⟨a2,fun _=>⟨by omega,by rw[show (i).toNat=i' by omega];exact m⟩,?_⟩;try conv=>cbv
 obtain⟨u,y,H,I,t⟩:=Cy hL m;have v:=List.mem_of_getElem? t;have hu:TT u:=B _ v;have f:El u S y:=a5 _ v;have d:Av u (AY ns):=Ei G B _ v;obtain⟨s,b⟩:=xR (em (AY ns) y);obtain⟨N,c⟩:=CZ (u<:+AY ns);refine cL z (F2 (G.AN a) (G.AN hu) hT H c) t2 ?_;try conv=>cbv
 refine .inr ?_;cases N <;> conv=>cbv
 ·have M:=fun q=>Bool.false_ne_true (c.2 q)
  obtain⟨a1,j⟩:=xV (Bj (AY ns) u);have h:=Ej (G.AN a).red (G.AN hu).red d;refine cL (r:= .AG [(true,[.sl (.sl AA) T,.sl (.sl AA) a1]),(false,[.int .i64 0])]) z (Jz G a hu hT H (by rw[h];exact hT) j) t2 ?_;try conv=>cbv
  intro ab Q;cases Q.trans (show _=false by decide);conv=>cbv
  refine cL (r:= .one (.sl AA s)) z (MP G a hu d hT (by rw[j];have:=EC (G.AN a).red (G.AN hu).red;rwa [h] at this) I f b) ⟨t2,rfl,trivial⟩ ?_;try conv=>cbv
  refine cL (r:= .agg [.sl (.sl AA) T,.sl AA s]) z (HN (G.AN a) hT b (G.BA hu a d f) (by have:=G.mul a;omega)) ⟨t2,trivial⟩ ?_;try conv=>cbv
  refine⟨[(T,s)],fun _=>⟨rfl,by decide,rfl,⟨rfl,by first | exact t1 | exact t2 | exact t4 | simp[Ae,Ak,cells],trivial⟩⟩,.inr ?_⟩;try conv=>cbv
  refine .inl ⟨[(T,s)],fun _=>⟨rfl,W,rfl,by show (o.length+1)*48<=140737488355328;(try simp only[List.length_take,List.length_drop]);omega⟩,?_⟩;intro (w:List (el AZ)) g p;have D:w=(o:List (el AZ))++([(T,s)]:List (el AZ)):=p.1;have F:g=List.length (α:=(el AZ)) w:=p.2;conv=>cbv
  intro x V;conv=>cbv
  refine g1 (by omega) ?_;refine⟨L.length-(i'+1),?_,?_⟩
  ·omega
  rw[A];exact .inr ⟨w,g,i'+1,n,x,rfl,rfl,⟨X,⟨by omega⟩,by omega,F⟩,by rw[D,hinv,BG t,List.map_append];simp[nm,hT,b],rfl⟩
 have M:=c.1 rfl;refine cL z (Ke (G.AN a) hT I f.mem M b) t2 ?_;try conv=>cbv
 refine cL (r:= .agg [.sl (.sl AA) T,.sl AA s]) z (HN (G.AN a) hT b (G.BA hu a d f) (by have:=G.mul a;omega)) ⟨t2,trivial⟩ ?_;try conv=>cbv
 refine⟨[(T,s)],fun _=>⟨rfl,by decide,rfl,⟨rfl,by first | exact t1 | exact t2 | exact t4 | simp[Ae,Ak,cells],trivial⟩⟩,.inr ?_⟩;try conv=>cbv
 refine .inl ⟨[(T,s)],fun _=>⟨rfl,W,rfl,by show (o.length+1)*48<=140737488355328;(try simp only[List.length_take,List.length_drop]);omega⟩,?_⟩;intro (w:List (el AZ)) g p;have D:w=(o:List (el AZ))++([(T,s)]:List (el AZ)):=p.1;have F:g=List.length (α:=(el AZ)) w:=p.2;conv=>cbv
 intro x V;conv=>cbv
 refine g1 (by omega) ?_;refine⟨L.length-(i'+1),?_,?_⟩
 ·omega
 rw[A];exact .inr ⟨w,g,i'+1,n,x,rfl,rfl,⟨X,⟨by omega⟩,by omega,F⟩,by rw[D,hinv,BG t,List.map_append];simp[nm,hT,b],rfl⟩
noncomputable def Al (u v:List (List Rat)):List (List Rat):=AY [(u,0),(v,0)]
theorem L6 (G:Gam TT R K S) {T1 T2:List LR} {A1 A2:LR} {u v:List (List Rat)} {x y:Re} (hu:TT u) (P:TT v) (w:T1=tw u) (D:T2=tw v) (s:A1=em u x) (t:A2=em v y) (hx:El u S x) (Q:El v S y) {A B C:LR} {g:FuncId} (hT:T=tw (Al u v)) (hA:A=em (Al u v) x) (J:B=em (Al u v) y) (N:CF g [.one (.sl (.sl AA) T),.one (.sl AA A),.one (.sl AA B)] (.one (.sl AA C))):CF 134 [.agg [.sl (.sl AA) T1,.sl AA A1],.agg [.sl (.sl AA) T2,.sl AA A2],.one (.fn g)] (.AG [(true,[.sl (.sl AA) T,.sl AA C]),(false,[.int .i64 0])]):=by
 obtain⟨O,m⟩:∃z:List (el AZ),z=[(T,A),(T,B)]:=⟨_,rfl⟩
 have M:O.length=2:=by rw[m];rfl
 have F:O[0]? =some (T,A):=by rw[m];rfl
 have I:O[1]? =some (T,B):=by rw[m];rfl
 refine AE Tryz.func134 (by kernel_rfl) rfl fun E H=>?_
 conv=>cbv
 refine⟨[(T1,A1),(T2,A2)],fun _=>⟨rfl,by decide,rfl,⟨rfl,by first | exact t1 | exact t2 | exact t4 | simp[Ae,Ak,cells],⟨rfl,by first | exact t1 | exact t2 | exact t4 | simp[Ae,Ak,cells],trivial⟩⟩⟩,.inr ?_⟩;try conv=>cbv
 refine cL (r:= .AG [(false,[.sl AZ O]),(false,[.int .i64 0])]) H (LP (ns:=[(u,x),(v,y)]) G (by intro n f;simp at f;rcases f with rfl | rfl;exact hu;exact P) (by rw[w,D,s,t];rfl) (by intro n f;simp at f;rcases f with rfl | rfl;exact hx;exact Q) (by show 2<=1000000;decide) (by rw[m,hT,hA,J];rfl)) t1 ?_;try conv=>cbv
 intro U q;cases q.trans (show _=false by decide);conv=>cbv
 obtain⟨h,a⟩:=AF (l:=O) (i:=0) (by omega);refine⟨h,fun _=>⟨by omega,a⟩,?_⟩;try conv=>cbv
 obtain⟨j,b⟩:=AF (l:=O) (i:=0) (by omega);refine⟨j,fun _=>⟨by omega,b⟩,?_⟩;try conv=>cbv
 obtain⟨k,c⟩:=AF (l:=O) (i:=1) (by omega);refine⟨k,fun _=>⟨by omega,c⟩,?_⟩;try conv=>cbv
 have d:=Option.some.inj (a.symm.trans F);have o:=Option.some.inj (b.symm.trans F);have p:=Option.some.inj (c.symm.trans I);refine .inl ⟨[.one (.sl (.sl AA) h.1),.one (.sl AA j.2),.one (.sl AA k.2)],.one (.sl AA C),fun _=>t3,fun _=>Ez H (by rw[d,o,p];exact N),?_⟩;try conv=>cbv
 refine g2 rfl ?_;exact fA ⟨⟨rfl,congrArg _ (by rw[d]),rfl,trivial⟩,t2,trivial⟩ rfl (by simp)
end Go.Abs
namespace Go.Abs
open Go.RowKit
section
variable {TT:List (List Rat)->Prop} {R K S:Nat}
theorem Gam.Al (G:Gam TT R K S) {u v:List (List Rat)} (hu:TT u) (c:TT v):TT (Go.Abs.Al u v)/\Av u (Go.Abs.Al u v)/\Av v (Go.Abs.Al u v):=by
 have a:∀n∈[(u,(0:Re)),(v,0)],TT n.1:=by intro n b;simp at b;rcases b with rfl | rfl;exact hu;exact c
 have he:=Ei G a;exact⟨G.AY a,he (u,0) (by simp),he (v,0) (by simp)⟩
end
theorem B9 (a:List LR):∃z:List LR,z=a:=⟨_,rfl⟩
theorem BB (a:LR):∃z:LR,z=a:=⟨_,rfl⟩
theorem LQ {TT:List (List Rat)->Prop} {R K S:Nat} (G:Gam TT R K S) {T1 T2:List LR} {A1 A2:LR} {u v:List (List Rat)} {x y:Re} (hu:TT u) (i:TT v) (d:T1=tw u) (f:T2=tw v) (b:A1=em u x) (c:A2=em v y) (hx:El u S x) (m:El v S y) {T:List LR} {C:LR} (hT:T=tw (Al u v)) (n:C=em (Al u v) (x+y)):CF 70 [.agg [.sl (.sl AA) T1,.sl AA A1],.agg [.sl (.sl AA) T2,.sl AA A2]] (.AG [(true,[.sl (.sl AA) T,.sl AA C]),(false,[.int .i64 0])]):=by
 obtain⟨a,g,h⟩:=G.Al hu i;have j:=G.BA hu a g hx;have k:=G.BA i a h m;have hmul:=G.mul a;obtain⟨A,hA⟩:=BB (em (Al u v) x);obtain⟨B,l⟩:=BB (em (Al u v) y);refine AE Tryz.func70 (by kernel_rfl) rfl fun E o=>?_
 conv=>cbv
 refine cL o (L6 G hu i d f b c hx m hT hA l (G0 (G.AN a) hT hA l j k (by omega) (by omega) n)) ⟨t2,t2,rfl,trivial⟩ ?_;try conv=>cbv
 exact fA ⟨t3,t2,trivial⟩ rfl (by simp)
theorem Ty {TT:List (List Rat)->Prop} {R K S:Nat} (G:Gam TT R K S) {T1 T2:List LR} {A1 A2:LR} {u v:List (List Rat)} {x y:Re} (hu:TT u) (i:TT v) (d:T1=tw u) (f:T2=tw v) (b:A1=em u x) (c:A2=em v y) (hx:El u S x) (m:El v S y) {T:List LR} {C:LR} (hT:T=tw (Al u v)) (n:C=em (Al u v) (x-y)):CF 115 [.agg [.sl (.sl AA) T1,.sl AA A1],.agg [.sl (.sl AA) T2,.sl AA A2]] (.AG [(true,[.sl (.sl AA) T,.sl AA C]),(false,[.int .i64 0])]):=by
 obtain⟨a,g,h⟩:=G.Al hu i;have j:=G.BA hu a g hx;have k:=G.BA i a h m;have hmul:=G.mul a;obtain⟨A,hA⟩:=BB (em (Al u v) x);obtain⟨B,l⟩:=BB (em (Al u v) y);refine AE Tryz.func115 (by kernel_rfl) rfl fun E o=>?_
 conv=>cbv
 refine cL o (L6 G hu i d f b c hx m hT hA l (JK (G.AN a) hT hA l j k (by omega) (by omega) n)) ⟨t2,t2,rfl,trivial⟩ ?_;try conv=>cbv
 exact fA ⟨t3,t2,trivial⟩ rfl (by simp)
theorem N7 {TT:List (List Rat)->Prop} {R K S:Nat} (G:Gam TT R K S) {T1 T2:List LR} {A1 A2:LR} {u v:List (List Rat)} {x y:Re} (hu:TT u) (i:TT v) (d:T1=tw u) (f:T2=tw v) (b:A1=em u x) (c:A2=em v y) (hx:El u S x) (m:El v S y) {T:List LR} {C:LR} (hT:T=tw (Al u v)) (n:C=em (Al u v) (x*y)):CF 68 [.agg [.sl (.sl AA) T1,.sl AA A1],.agg [.sl (.sl AA) T2,.sl AA A2]] (.AG [(true,[.sl (.sl AA) T,.sl AA C]),(false,[.int .i64 0])]):=by
 obtain⟨a,g,h⟩:=G.Al hu i;have j:=G.BA hu a g hx;have k:=G.BA i a h m;have hmul:=G.mul a;obtain⟨A,hA⟩:=BB (em (Al u v) x);obtain⟨B,l⟩:=BB (em (Al u v) y);refine AE Tryz.func68 (by kernel_rfl) rfl fun E o=>?_
 conv=>cbv
 refine cL o (L6 G hu i d f b c hx m hT hA l (E5 (G.AN a) hT hA l j k (by omega) n)) ⟨t2,t2,rfl,trivial⟩ ?_;try conv=>cbv
 exact fA ⟨t3,t2,trivial⟩ rfl (by simp)
theorem aN {TT:List (List Rat)->Prop} {R K S:Nat} (G:Gam TT R K S) {T1:List LR} {A1:LR} {u:List (List Rat)} {x:Re} (hu:TT u) (b:T1=tw u) (a:A1=em u x) (hx:El u S x) {C:LR} (d:C=em u (-x)):CF 111 [.agg [.sl (.sl AA) T1,.sl AA A1]] (.agg [.sl (.sl AA) T1,.sl AA C]):=by
 have hmul:=G.mul hu;refine AE Tryz.func111 (by kernel_rfl) rfl fun E c=>?_
 conv=>cbv
 refine cL c (HN (G.AN hu) b a hx (by omega)) ⟨t2,trivial⟩ ?_;try conv=>cbv
 refine cL c (N9 (G.AN hu) b a hx (by omega) d) t2 ?_;try conv=>cbv
 exact fA ⟨t3,trivial⟩ rfl (by simp)
theorem Tw {TT:List (List Rat)->Prop} {R K S:Nat} (G:Gam TT R K S) {T1:List LR} {A1:LR} {u:List (List Rat)} {x:Re} (hu:TT u) (b:T1=tw u) (a:A1=em u x) (hx:El u S x) {c:Int} (f:c=Ao x):CF 118 [.agg [.sl (.sl AA) T1,.sl AA A1]] (.one (.int .i64 c)):=by
 refine AE Tryz.func118 (by kernel_rfl) rfl fun E d=>?_
 conv=>cbv
 refine cL d (G4 (G.AN hu) b a hx ((G.fit hu).mono (Nat.le_add_right _ _)).v0 (G.fit hu).vR f) t2 ?_;try conv=>cbv
 exact fA ⟨t2,trivial⟩ rfl (by simp)
theorem LU {TT:List (List Rat)->Prop} {R K S:Nat} (G:Gam TT R K S) {T1:List LR} {A1:LR} {u:List (List Rat)} {x:Re} (hu:TT u) (c:T1=tw u) (b:A1=em u x) (hx:El u S x) (hw:TT (Aa u x)) (h:0<=x) {T:List LR} {C:LR} (hT:T=tw (Aa u x)) (f:C=em (Aa u x) (Re.sqrt x)) {s:Nat} (i:El (Aa u x) s (Re.sqrt x)) (d:s<=60000000000000):CF 17 [.agg [.sl (.sl AA) T1,.sl AA A1]] (.AG [(true,[.sl (.sl AA) T,.sl AA C]),(false,[.int .i64 0])]):=by
 refine AE Tryz.func17 (by kernel_rfl) rfl fun E g=>?_
 conv=>cbv
 refine cL g (LL (G.AN hu) (G.AN hw) (G.ht hw) c b hx ((G.fit hu).mono (Nat.le_add_right _ _)) h hT f) t2 ?_;try conv=>cbv
 intro j a;cases a.trans (show _=false by decide);conv=>cbv
 refine cL g (HN (G.AN hw) hT f i d) ⟨t2,trivial⟩ ?_;try conv=>cbv
 exact fA ⟨t3,t2,trivial⟩ rfl (by simp)
theorem Tx {TT:List (List Rat)->Prop} {R K S:Nat} (G:Gam TT R K S) {T1:List LR} {A1:LR} {u:List (List Rat)} {x:Re} (hu:TT u) (c:T1=tw u) (b:A1=em u x) (hx:El u S x) (f:x<0):CF 17 [.agg [.sl (.sl AA) T1,.sl AA A1]] (.AG [(true,[.sl (.sl AA) (([]:List LR)),.sl AA (([]:LR))]),(false,[.int .i64 7])]):=by
 refine AE Tryz.func17 (by kernel_rfl) rfl fun E d=>?_
 conv=>cbv
 refine cL d (Vc (B:=[]) (G.AN hu) c b hx ((G.fit hu).mono (Nat.le_add_right _ _)) f) t2 ?_;try conv=>cbv
 intro g a;cases a.trans (show _=true by decide);conv=>cbv
 exact fA ⟨⟨rfl,.inr (.inl ⟨_,rfl⟩),.inr (.inl ⟨_,rfl⟩),trivial⟩,t2,trivial⟩ rfl (by simp)
theorem Tt {TT:List (List Rat)->Prop} {R K S:Nat} (G:Gam TT R K S) {T1 T2:List LR} {A1 A2:LR} {u v:List (List Rat)} {x y:Re} (hu:TT u) (m:TT v) (h:T1=tw u) (b:T2=tw v) (d:A1=em u x) (f:A2=em v y) (hx:El u S x) (p:El v S y) {i:Re} (o:In v i) (k:y*i=1) (j:El v S i) (g:II v.length R S<=60000000000000) {T:List LR} {C:LR} (hT:T=tw (Al u v)) (n:C=em (Al u v) (x*i)):CF 65 [.agg [.sl (.sl AA) T1,.sl AA A1],.agg [.sl (.sl AA) T2,.sl AA A2]] (.AG [(true,[.sl (.sl AA) T,.sl AA C]),(false,[.int .i64 0])]):=by
 refine AE Tryz.func65 (by kernel_rfl) rfl fun E l=>?_
 conv=>cbv
 obtain⟨r,a⟩:=BB (em v i);refine cL l (JE (G.AN m) b f p o k g a) t2 ?_;try conv=>cbv
 intro q c;cases c.trans (show _=false by decide);conv=>cbv
 refine cL l (N7 G hu m h b d a hx j hT n) ⟨t2,t2,trivial⟩ ?_;try conv=>cbv
 exact fA ⟨t3,t2,trivial⟩ rfl (by simp)
theorem aM {TT:List (List Rat)->Prop} {R K S:Nat} (G:Gam TT R K S) {T1 T2:List LR} {A1 A2:LR} {u v:List (List Rat)} {x y:Re} (hu:TT u) (j:TT v) (i:T1=tw u) (d:T2=tw v) (g:A1=em u x) (b:A2=em v y) (hx:El u S x) (l:El v S y) (f:y=0) (c:EE v.length R+R<=60000000000000):CF 65 [.agg [.sl (.sl AA) T1,.sl AA A1],.agg [.sl (.sl AA) T2,.sl AA A2]] (.AG [(true,[.sl (.sl AA) (([]:List LR)),.sl AA (([]:LR))]),(false,[.int .i64 6])]):=by
 refine AE Tryz.func65 (by kernel_rfl) rfl fun E h=>?_
 conv=>cbv
 refine cL (r:= .AG [(false,[.sl AA (([]:LR))]),(false,[.int .i64 6])]) h (Tp (G.AN j) d (b.trans (by rw[f])) c) t2 ?_;try conv=>cbv
 intro k a;cases a.trans (show _=true by decide);conv=>cbv
 exact fA ⟨⟨rfl,.inr (.inl ⟨_,rfl⟩),.inr (.inl ⟨_,rfl⟩),trivial⟩,t2,trivial⟩ rfl (by simp)
theorem N6 {TT:List (List Rat)->Prop} {R K S:Nat} (G:Gam TT R K S) {T1 T2:List LR} {A1 A2:LR} {u v:List (List Rat)} {x y:Re} (hu:TT u) (m:TT v) (i:T1=tw u) (j:T2=tw v) (g:A1=em u x) (h:A2=em v y) (hx:El u S x) (q:El v S y) {K2 S2:Nat} (r:Gam TT R K2 S2) (w:2*(S+K)+1<=S2) {c:Int} (s:c=Ao (x-y)):CF 71 [.agg [.sl (.sl AA) T1,.sl AA A1],.agg [.sl (.sl AA) T2,.sl AA A2]] (.AG [(false,[.int .i64 c]),(false,[.int .i64 0])]):=by
 obtain⟨a,k,l⟩:=G.Al hu m;have n:=G.BA hu a k hx;have o:=G.BA m a l q;have hmul:=G.mul a;refine AE Tryz.func71 (by kernel_rfl) rfl fun E p=>?_
 conv=>cbv
 obtain⟨A,d⟩:=B9 (tw (Al u v));obtain⟨z,b⟩:=BB (em (Al u v) (x-y));refine cL p (Ty G hu m i j g h hx q d b) ⟨t2,t2,trivial⟩ ?_;try conv=>cbv
 intro t f;cases f.trans (show _=false by decide);conv=>cbv
 refine cL p (Tw r a d b ((n.sub (G.AN a).red o).mono (by omega)) s) ⟨t2,trivial⟩ ?_;try conv=>cbv
 exact fA ⟨t2,t2,trivial⟩ rfl (by simp)
theorem MC {u:List (List Rat)} {x y:Re} (hx:In u x) (a:In u y):em u x=em u y↔x=y:=
 ⟨fun h=>by rw[<-DA hx,<-DA a,SE h],fun h=>by rw[h]⟩
theorem TC {u v:List (List Rat)} (h:u<:+v) (k:v<:+u):u=v:=h.eq_of_length_le k.length_le
theorem Tu {TT:List (List Rat)->Prop} {R K S:Nat} (G:Gam TT R K S) {T1 T2:List LR} {A1 A2:LR} {u v:List (List Rat)} {x y:Re} (hu:TT u) (M:TT v) (t:T1=tw u) (w:T2=tw v) (p:A1=em u x) (s:A2=em v y) (hx:El u S x) (Q:El v S y) {c:Bool} (Y:c=true↔x=y):CF 73 [.agg [.sl (.sl AA) T1,.sl AA A1],.agg [.sl (.sl AA) T2,.sl AA A2]] (.one (.bool c)):=by
 obtain⟨I,Z,a1⟩:=G.Al hu M;have C:=G.BA hu I Z hx;have D:=G.BA M I a1 Q;have hmul:=G.mul I;obtain⟨A,hA⟩:=BB (em (Al u v) x);obtain⟨B,J⟩:=BB (em (Al u v) y);obtain⟨T,hT⟩:=B9 (tw (Al u v));obtain⟨O,N⟩:∃z:List (el AZ),z=[(T,A),(T,B)]:=⟨_,rfl⟩
 have a5:O.length=2:=by rw[N];rfl
 have h0:O[0]? =some (T,A):=by rw[N];rfl
 have h1:O[1]? =some (T,B):=by rw[N];rfl
 refine AE Tryz.func73 (by kernel_rfl) rfl fun E H=>?_
 conv=>cbv
 obtain⟨W,g⟩:=CZ (v<:+u);refine cL H (F2 (G.AN hu) (G.AN M) t w g) t2 ?_;try conv=>cbv
 cases W <;> conv=>cbv
 ·have U:=fun q=>Bool.false_ne_true (g.2 q)
  refine⟨[(T1,A1),(T2,A2)],fun _=>⟨rfl,by decide,rfl,⟨rfl,by first | exact t1 | exact t2 | exact t4 | simp[Ae,Ak,cells],⟨rfl,by first | exact t1 | exact t2 | exact t4 | simp[Ae,Ak,cells],trivial⟩⟩⟩,.inr ?_⟩;try conv=>cbv
  refine cL (r:= .AG [(false,[.sl AZ O]),(false,[.int .i64 0])]) H (LP (ns:=[(u,x),(v,y)]) G (by intro n k;simp at k;rcases k with rfl | rfl;exact hu;exact M) (by rw[t,w,p,s];rfl) (by intro n k;simp at k;rcases k with rfl | rfl;exact hx;exact Q) (by show 2<=1000000;decide) (by rw[N,hT,hA,J];rfl)) t1 ?_;try conv=>cbv
  intro a2 F;cases F.trans (show _=true by decide);conv=>cbv
  obtain⟨m,a⟩:=AF (l:=O) (i:=0) (by omega);refine⟨m,fun _=>⟨by omega,a⟩,?_⟩;try conv=>cbv
  obtain⟨o,b⟩:=AF (l:=O) (i:=1) (by omega);refine⟨o,fun _=>⟨by omega,b⟩,?_⟩;try conv=>cbv
  have d:=Option.some.inj (a.symm.trans h0);have f:=Option.some.inj (b.symm.trans h1);have j:c=decide (m.2=o.2):=by rw[Bool.eq_iff_iff,decide_eq_true_eq,Y,d,f,hA,J];exact (MC C.mem D.mem).symm
  refine cL (r:= .one (.bool c)) H (Ku (by rw[d];exact hA) (by rw[f];exact J) (C.BC (by omega)) (D.BC (by omega)) j) t2 ?_;try conv=>cbv
  refine g2 rfl ?_;exact fA ⟨t2,trivial⟩ rfl (by simp)
 have U:=g.1 rfl;obtain⟨X,h⟩:=CZ (u<:+v);refine cL H (F2 (G.AN M) (G.AN hu) w t h) t2 ?_;try conv=>cbv
 cases X <;> conv=>cbv
 ·have V:=fun q=>Bool.false_ne_true (h.2 q)
  refine⟨[(T1,A1),(T2,A2)],fun _=>⟨rfl,by decide,rfl,⟨rfl,by first | exact t1 | exact t2 | exact t4 | simp[Ae,Ak,cells],⟨rfl,by first | exact t1 | exact t2 | exact t4 | simp[Ae,Ak,cells],trivial⟩⟩⟩,.inr ?_⟩;try conv=>cbv
  refine cL (r:= .AG [(false,[.sl AZ O]),(false,[.int .i64 0])]) H (LP (ns:=[(u,x),(v,y)]) G (by intro n k;simp at k;rcases k with rfl | rfl;exact hu;exact M) (by rw[t,w,p,s];rfl) (by intro n k;simp at k;rcases k with rfl | rfl;exact hx;exact Q) (by show 2<=1000000;decide) (by rw[N,hT,hA,J];rfl)) t1 ?_;try conv=>cbv
  intro a2 F;cases F.trans (show _=true by decide);conv=>cbv
  obtain⟨m,a⟩:=AF (l:=O) (i:=0) (by omega);refine⟨m,fun _=>⟨by omega,a⟩,?_⟩;try conv=>cbv
  obtain⟨o,b⟩:=AF (l:=O) (i:=1) (by omega);refine⟨o,fun _=>⟨by omega,b⟩,?_⟩;try conv=>cbv
  have d:=Option.some.inj (a.symm.trans h0);have f:=Option.some.inj (b.symm.trans h1);have j:c=decide (m.2=o.2):=by rw[Bool.eq_iff_iff,decide_eq_true_eq,Y,d,f,hA,J];exact (MC C.mem D.mem).symm
  refine cL (r:= .one (.bool c)) H (Ku (by rw[d];exact hA) (by rw[f];exact J) (C.BC (by omega)) (D.BC (by omega)) j) t2 ?_;try conv=>cbv
  refine g2 rfl ?_;exact fA ⟨t2,trivial⟩ rfl (by simp)
 have V:=h.1 rfl;have P:=TC V U;have j:c=decide (A1=A2):=by rw[Bool.eq_iff_iff,decide_eq_true_eq,Y,p,s,<-P];exact (MC hx.mem (P ▸ Q.mem)).symm
 refine cL H (Ku p s (hx.BC (by omega)) (Q.BC (by omega)) j) t2 ?_;try conv=>cbv
 exact fA ⟨t2,trivial⟩ rfl (by simp)
theorem LS {q:Rat} {b1 b2:Bool} {l1 l2:List UInt32} {C:LR} (a:Aq q b1 l1 b2 l2) (d:BF q) (b:C=em [] (Re.ofRat q)):CF 72 [.agg [.bool b1,.sl .u32 l1,.bool b2,.sl .u32 l2]] (.agg [.sl (.sl AA) (([]:List LR)),.sl AA C]):=by
 refine AE Tryz.func72 (by kernel_rfl) rfl fun E c=>?_
 conv=>cbv
 refine cL c (MA a d) ⟨t4,trivial⟩ ?_;try conv=>cbv
 refine⟨[((b1,l1),(b2,l2))],fun _=>⟨rfl,by decide,rfl,⟨rfl,by first | exact t1 | exact t2 | exact t4 | simp[Ae,Ak,cells],trivial⟩⟩,.inr ?_⟩;try conv=>cbv
 exact fA ⟨⟨rfl,.inr (.inl ⟨_,rfl⟩),congrArg _ (by rw[b,Cg,<-a.rp]),trivial⟩,trivial⟩ rfl (by simp)
theorem JG {x:Int} {C:LR} (hx: -9223372036854775808<=x/\x<9223372036854775808) (d:BF x) (c:C=em [] (Re.ofRat x)):CF 69 [.one (.int .i64 x)] (.agg [.sl (.sl AA) (([]:List LR)),.sl AA C]):=by
 refine AE Tryz.func69 (by kernel_rfl) rfl fun E b=>?_
 conv=>cbv
 obtain⟨h,i,f,g,a⟩:=A9 (x:Rat);refine cL b (EZ hx rfl a) t1 ?_;try conv=>cbv
 refine cL b (LS a d c) ⟨t4,trivial⟩ ?_;try conv=>cbv
 exact fA ⟨t3,trivial⟩ rfl (by simp)
end Go.Abs
