/- Part 41 of a proof. Conditions: each theorem's own. -/
import Derived.Test.YtfilemenbchajaaGreatPk39
set_option linter.all false
set_option maxHeartbeats 8000000
set_option maxRecDepth 20000
open Go.Proofs
namespace Go.Abs
open Go.RowKit
theorem XZ {TT:List (List Rat)->Prop} {R K S:Nat} (G:Cv TT R K S) {L:List (el Am)} {ns:List (List (List Rat)×Re)} (a2:∀n∈ns,TT n.1) (hL:L=ns.map nm) (aC:∀n∈ns,El n.1 S n.2) (hlen:ns.length<=1000000) {O:List (el Am)} (hO:O=ns.map (fun n=>nm (Ap ns,n.2))):CF 222 [.one (.sl Am L)] (.AE [(false,[.sl Am O]),(false,[.int .i64 0])]):=by
 have bf:L.length=ns.length:=by rw[hL,List.length_map]
 have c:TT (Ap ns):=G.Ap a2;refine AH Tryz.func222 (by kernel_rfl) rfl fun E hE=>?_
 conv=>cbv
 refine .inr ?_
 obtain⟨J0,au⟩:∃J:List AV->List AM->Nat->Prop,J=fun vs bl k=>(∃(i':Nat) (i:Int),vs=[.one (.sl Am L),.one .nil,.one (.int .i64 i)]/\bl=[]/\(AS i i'/\i'<=L.length)/\tw (Ap (ns.take i'))=[]/\k=L.length-i')\/
  (∃(Ti:List LR) (i':Nat) (i:Int),vs=[.one (.sl Am L),.one (.sl (.sl AA) Ti),.one (.int .i64 i)]/\bl=[]/\(AS i i'/\i'<=L.length)/\Ti=tw (Ap (ns.take i'))/\k=L.length-i'):=⟨_,rfl⟩
 refine⟨[0,4,5],[],J0,⟨L.length,by rw[au];exact .inl ⟨0,0,rfl,rfl,⟨BC 0,by omega⟩,rfl,rfl⟩⟩,?_⟩;intro vs bl bg hj;rw[au] at hj;rcases hj with⟨i',i,rfl,rfl,⟨hi,aS⟩,h0,b9⟩ |⟨Ti,i',i,rfl,rfl,⟨hi,aS⟩,ah,b9⟩
 ·conv=>cbv
  have ei:=hi.eq;have ah:=h0.symm;have b5:(Ap (ns.take i')).length=0:=by rw[<-BU,h0];rfl
  rintro bb ⟨b7,f17⟩;conv=>cbv
  intro b1 aQ;conv=>cbv
  cases b1 <;> conv=>cbv
  ·have aZ:=Ad aQ;refine .inr ?_;obtain⟨J1,a1⟩:=xJ fun vs bl k=>(∃(i:Int),vs=[.one (.sl Am L),.one .nil,.one .nil,.one (.int .i64 i)]/\bl=[.dead 0]/\(AS i 0)/\tw (Ap ns)=[]/\k=L.length)\/(∃(o:List (el Am)) (mm i':Nat) (i:Int),vs=[.one (.sl Am L),.one .nil,.one (.AT Am 113 0 0 mm),.one (.int .i64 i)]/\bl=[.arr 0 Am o]/\(AS i i'/\i'<=L.length/\mm=o.length)/\tw (Ap ns)=[]/\o=(ns.take i').map (fun n=>nm (Ap ns,n.2))/\k=L.length-i')\/(∃(T:List LR) (i:Int),vs=[.one (.sl Am L),.one (.sl (.sl AA) T),.one .nil,.one (.int .i64 i)]/\bl=[.dead 0]/\(AS i 0)/\tw (Ap ns)=T/\k=L.length)\/(∃(T:List LR) (o:List (el Am)) (mm i':Nat) (i:Int),vs=[.one (.sl Am L),.one (.sl (.sl AA) T),.one (.AT Am 113 0 0 mm),.one (.int .i64 i)]/\bl=[.arr 0 Am o]/\(AS i i'/\i'<=L.length/\mm=o.length)/\tw (Ap ns)=T/\o=(ns.take i').map (fun n=>nm (Ap ns,n.2))/\k=L.length-i')
   refine⟨[0,4,9,10],[113],J1,⟨L.length,by rw[a1];exact .inl ⟨0,rfl,rfl,BC 0,by rw[<-List.take_of_length_le (show ns.length<=i' by omega)];exact h0,rfl⟩⟩,?_⟩;intro vs bl ba hj;rw[a1] at hj;rcases hj with⟨i,rfl,rfl,hi,d,aL⟩ |⟨o,mm,i',i,rfl,rfl,⟨hi,aS,ai⟩,d,hinv,aL⟩ |⟨T,i,rfl,rfl,hi,d,aL⟩ |⟨T,o,mm,i',i,rfl,rfl,⟨hi,aS,ai⟩,d,hinv,aL⟩
   ·conv=>cbv
    have ei:=hi.eq;obtain⟨i',aw⟩:=xN 0;have hT:=d.symm;rintro aM ⟨aJ,f69⟩;conv=>cbv
    intro an V;conv=>cbv
    cases an <;> conv=>cbv
    ·have al:=Ad V;exact fA ⟨⟨rfl,.inr (.inl ⟨_,congrArg _ (by rw[hO,show ns=[] from List.eq_nil_of_length_eq_zero (by omega)];rfl)⟩),trivial⟩,t2,trivial⟩ rfl (by simp)
    have al:=Ae V;refine .inr ?_;obtain⟨m,a⟩:=AG (l:=L) (i:=i') (by omega);refine⟨m,fun _=>⟨by omega,by rw[show (i).toNat=i' by omega];exact a⟩,?_⟩;try conv=>cbv
    obtain⟨u,y,g,N,s⟩:=Dq hL a;have t:=List.mem_of_getElem? s;have hu:TT u:=a2 _ t;have P:El u S y:=aC _ t;have ay:List.length (α:=LR) m.1=u.length:=by rw[g,BU]
    have W:BK u (Ap ns):=FY G.toGam a2 _ t;obtain⟨H,p⟩:=xR (em (Ap ns) y);obtain⟨ad,v⟩:=CV (u<:+Ap ns);refine cL hE (Ej (G.AU c) (G.AU hu) hT g v) ⟨.inr ⟨_,rfl⟩,rfl,trivial⟩ ?_;try conv=>cbv
    refine .inr ?_;cases ad <;> conv=>cbv
    ·obtain⟨Z,A⟩:=AG (l:=L) (i:=i') (by omega);refine⟨Z,fun _=>⟨by omega,by rw[show (i).toNat=i' by omega];exact A⟩,?_⟩;try conv=>cbv
     have af:Z=m:=Option.some.inj (A.symm.trans a);obtain⟨ao,X⟩:=xV (tw (Ap ns));obtain⟨aq,x⟩:=xV (CT (Ap ns) u);have w:=FZ (G.AU c).red (G.AU hu).red W;refine cL (r:= .AE [(false,[.sl (.sl AA) ao]),(false,[.sl (.sl AA) aq]),(false,[.int .i64 0])]) hE (FD G c hu hT (by rw[af];exact g) (by rw[w];exact X) x) ⟨.inr ⟨_,rfl⟩,rfl,trivial⟩ ?_;try conv=>cbv
     obtain⟨B,f⟩:=AG (l:=L) (i:=i') (by omega);refine⟨B,fun _=>⟨by omega,by rw[show (i).toNat=i' by omega];exact f⟩,?_⟩;try conv=>cbv
     have Q:B=m:=Option.some.inj (f.symm.trans a);refine cL (r:= .one (.sl AA H)) hE (GZ G.toGam c hu W hT (by rw[x];have:=E8 (G.AU c).red (G.AU hu).red;rwa [w] at this) (by rw[Q];exact N) P p) ⟨.inr ⟨_,rfl⟩,rfl,rfl,trivial⟩ ?_;try conv=>cbv
     refine⟨[([],H)],fun _=>⟨rfl,by decide,rfl,⟨rfl,⟨.inr ⟨_,rfl⟩,rfl,trivial⟩,trivial⟩⟩,.inr ?_⟩;try conv=>cbv
     refine .inl ⟨[([],H)],fun _=>⟨rfl,by show (1)*48<=140737488355328;(try simp only[List.length_take,List.length_drop]);omega⟩,?_⟩;intro b U;conv=>cbv
     intro F ag;conv=>cbv
     refine g1 (by omega) ?_;refine⟨L.length-(i'+1),?_,?_⟩
     ·omega
     rw[a1];exact .inr (.inl ⟨_,b,i'+1,F,rfl,rfl,⟨⟨by omega⟩,by omega,U⟩,d,by rw[Bi s,List.map_append,aw];simp[nm,d,p],rfl⟩)
    obtain⟨Y,z⟩:=AG (l:=L) (i:=i') (by omega);refine⟨Y,fun _=>⟨by omega,by rw[show (i).toNat=i' by omega];exact z⟩,?_⟩;try conv=>cbv
    have ae:Y=m:=Option.some.inj (z.symm.trans a);refine cL (r:= .one (.sl AA H)) hE (F5 (G.AU c) hT (by rw[ae];exact N) P.mem (v.1 rfl) p) ⟨.inr ⟨_,rfl⟩,rfl,trivial⟩ ?_;try conv=>cbv
    refine⟨[([],H)],fun _=>⟨rfl,by decide,rfl,⟨rfl,⟨.inr ⟨_,rfl⟩,rfl,trivial⟩,trivial⟩⟩,.inr ?_⟩;try conv=>cbv
    refine .inl ⟨[([],H)],fun _=>⟨rfl,by show (1)*48<=140737488355328;(try simp only[List.length_take,List.length_drop]);omega⟩,?_⟩;intro b U;conv=>cbv
    intro F ag;conv=>cbv
    refine g1 (by omega) ?_;refine⟨L.length-(i'+1),?_,?_⟩
    ·omega
    rw[a1];exact .inr (.inl ⟨_,b,i'+1,F,rfl,rfl,⟨⟨by omega⟩,by omega,U⟩,d,by rw[Bi s,List.map_append,aw];simp[nm,d,p],rfl⟩)
   ·conv=>cbv
    have ei:=hi.eq;have aY:o.length<=L.length:=by rw[hinv,List.length_map,List.length_take];omega
    have hT:=d.symm;rintro aM ⟨aJ,f69⟩;conv=>cbv
    intro an V;conv=>cbv
    cases an <;> conv=>cbv
    ·have al:=Ad V;exact fA ⟨⟨rfl,.inl ⟨_,rfl,by omega,congrArg _ (by rw[hO,ai,hinv,List.drop_zero,List.take_length,List.take_of_length_le (show ns.length<=i' by omega)])⟩,trivial⟩,t2,trivial⟩ rfl (by simp)
    have al:=Ae V;refine .inr ?_;obtain⟨m,a⟩:=AG (l:=L) (i:=i') (by omega);refine⟨m,fun _=>⟨by omega,by rw[show (i).toNat=i' by omega];exact a⟩,?_⟩;try conv=>cbv
    obtain⟨u,y,g,N,s⟩:=Dq hL a;have t:=List.mem_of_getElem? s;have hu:TT u:=a2 _ t;have P:El u S y:=aC _ t;have ay:List.length (α:=LR) m.1=u.length:=by rw[g,BU]
    have W:BK u (Ap ns):=FY G.toGam a2 _ t;obtain⟨H,p⟩:=xR (em (Ap ns) y);obtain⟨ad,v⟩:=CV (u<:+Ap ns);refine cL hE (Ej (G.AU c) (G.AU hu) hT g v) ⟨.inr ⟨_,rfl⟩,rfl,trivial⟩ ?_;try conv=>cbv
    refine .inr ?_;cases ad <;> conv=>cbv
    ·obtain⟨Z,A⟩:=AG (l:=L) (i:=i') (by omega);refine⟨Z,fun _=>⟨by omega,by rw[show (i).toNat=i' by omega];exact A⟩,?_⟩;try conv=>cbv
     have af:Z=m:=Option.some.inj (A.symm.trans a);obtain⟨ao,X⟩:=xV (tw (Ap ns));obtain⟨aq,x⟩:=xV (CT (Ap ns) u);have w:=FZ (G.AU c).red (G.AU hu).red W;refine cL (r:= .AE [(false,[.sl (.sl AA) ao]),(false,[.sl (.sl AA) aq]),(false,[.int .i64 0])]) hE (FD G c hu hT (by rw[af];exact g) (by rw[w];exact X) x) ⟨.inr ⟨_,rfl⟩,rfl,trivial⟩ ?_;try conv=>cbv
     obtain⟨B,f⟩:=AG (l:=L) (i:=i') (by omega);refine⟨B,fun _=>⟨by omega,by rw[show (i).toNat=i' by omega];exact f⟩,?_⟩;try conv=>cbv
     have Q:B=m:=Option.some.inj (f.symm.trans a);refine cL (r:= .one (.sl AA H)) hE (GZ G.toGam c hu W hT (by rw[x];have:=E8 (G.AU c).red (G.AU hu).red;rwa [w] at this) (by rw[Q];exact N) P p) ⟨.inr ⟨_,rfl⟩,rfl,rfl,trivial⟩ ?_;try conv=>cbv
     refine⟨[([],H)],fun _=>⟨rfl,by decide,rfl,⟨rfl,⟨.inr ⟨_,rfl⟩,rfl,trivial⟩,trivial⟩⟩,.inr ?_⟩;try conv=>cbv
     refine .inl ⟨[([],H)],fun _=>⟨rfl,ai,rfl,by show (o.length+1)*48<=140737488355328;(try simp only[List.length_take,List.length_drop]);omega⟩,?_⟩;intro (h:List (el Am)) b j;have C:h=(o:List (el Am))++([([],H)]:List (el Am)):=j.1;have D:b=List.length (α:=(el Am)) h:=j.2;conv=>cbv
     intro F ag;conv=>cbv
     refine g1 (by omega) ?_;refine⟨L.length-(i'+1),?_,?_⟩
     ·omega
     rw[a1];exact .inr (.inl ⟨h,b,i'+1,F,rfl,rfl,⟨⟨by omega⟩,by omega,D⟩,d,by rw[C,hinv,Bi s,List.map_append];simp[nm,d,p],rfl⟩)
    obtain⟨Y,z⟩:=AG (l:=L) (i:=i') (by omega);refine⟨Y,fun _=>⟨by omega,by rw[show (i).toNat=i' by omega];exact z⟩,?_⟩;try conv=>cbv
    have ae:Y=m:=Option.some.inj (z.symm.trans a);refine cL (r:= .one (.sl AA H)) hE (F5 (G.AU c) hT (by rw[ae];exact N) P.mem (v.1 rfl) p) ⟨.inr ⟨_,rfl⟩,rfl,trivial⟩ ?_;try conv=>cbv
    refine⟨[([],H)],fun _=>⟨rfl,by decide,rfl,⟨rfl,⟨.inr ⟨_,rfl⟩,rfl,trivial⟩,trivial⟩⟩,.inr ?_⟩;try conv=>cbv
    refine .inl ⟨[([],H)],fun _=>⟨rfl,ai,rfl,by show (o.length+1)*48<=140737488355328;(try simp only[List.length_take,List.length_drop]);omega⟩,?_⟩;intro (h:List (el Am)) b j;have C:h=(o:List (el Am))++([([],H)]:List (el Am)):=j.1;have D:b=List.length (α:=(el Am)) h:=j.2;conv=>cbv
    intro F ag;conv=>cbv
    refine g1 (by omega) ?_;refine⟨L.length-(i'+1),?_,?_⟩
    ·omega
    rw[a1];exact .inr (.inl ⟨h,b,i'+1,F,rfl,rfl,⟨⟨by omega⟩,by omega,D⟩,d,by rw[C,hinv,Bi s,List.map_append];simp[nm,d,p],rfl⟩)
   ·conv=>cbv
    have ei:=hi.eq;obtain⟨i',aw⟩:=xN 0;have hT:=d.symm;rintro aM ⟨aJ,f69⟩;conv=>cbv
    intro an V;conv=>cbv
    cases an <;> conv=>cbv
    ·have al:=Ad V;exact fA ⟨⟨rfl,.inr (.inl ⟨_,congrArg _ (by rw[hO,show ns=[] from List.eq_nil_of_length_eq_zero (by omega)];rfl)⟩),trivial⟩,t2,trivial⟩ rfl (by simp)
    have al:=Ae V;refine .inr ?_;obtain⟨m,a⟩:=AG (l:=L) (i:=i') (by omega);refine⟨m,fun _=>⟨by omega,by rw[show (i).toNat=i' by omega];exact a⟩,?_⟩;try conv=>cbv
    obtain⟨u,y,g,N,s⟩:=Dq hL a;have t:=List.mem_of_getElem? s;have hu:TT u:=a2 _ t;have P:El u S y:=aC _ t;have ay:List.length (α:=LR) m.1=u.length:=by rw[g,BU]
    have W:BK u (Ap ns):=FY G.toGam a2 _ t;obtain⟨H,p⟩:=xR (em (Ap ns) y);obtain⟨ad,v⟩:=CV (u<:+Ap ns);refine cL hE (Ej (G.AU c) (G.AU hu) hT g v) t2 ?_;try conv=>cbv
    refine .inr ?_;cases ad <;> conv=>cbv
    ·obtain⟨Z,A⟩:=AG (l:=L) (i:=i') (by omega);refine⟨Z,fun _=>⟨by omega,by rw[show (i).toNat=i' by omega];exact A⟩,?_⟩;try conv=>cbv
     have af:Z=m:=Option.some.inj (A.symm.trans a);obtain⟨ao,X⟩:=xV (tw (Ap ns));obtain⟨aq,x⟩:=xV (CT (Ap ns) u);have w:=FZ (G.AU c).red (G.AU hu).red W;refine cL (r:= .AE [(false,[.sl (.sl AA) ao]),(false,[.sl (.sl AA) aq]),(false,[.int .i64 0])]) hE (FD G c hu hT (by rw[af];exact g) (by rw[w];exact X) x) t2 ?_;try conv=>cbv
     obtain⟨B,f⟩:=AG (l:=L) (i:=i') (by omega);refine⟨B,fun _=>⟨by omega,by rw[show (i).toNat=i' by omega];exact f⟩,?_⟩;try conv=>cbv
     have Q:B=m:=Option.some.inj (f.symm.trans a);refine cL (r:= .one (.sl AA H)) hE (GZ G.toGam c hu W hT (by rw[x];have:=E8 (G.AU c).red (G.AU hu).red;rwa [w] at this) (by rw[Q];exact N) P p) t3 ?_;try conv=>cbv
     refine⟨[(T,H)],fun _=>⟨rfl,by decide,rfl,⟨rfl,by first | exact t1 | exact t2 | exact t4 | simp[Aw,BF,cells],trivial⟩⟩,.inr ?_⟩;try conv=>cbv
     refine .inl ⟨[(T,H)],fun _=>⟨rfl,by show (1)*48<=140737488355328;(try simp only[List.length_take,List.length_drop]);omega⟩,?_⟩;intro b U;conv=>cbv
     intro F ag;conv=>cbv
     refine g1 (by omega) ?_;refine⟨L.length-(i'+1),?_,?_⟩
     ·omega
     rw[a1];exact .inr (.inr (.inr ⟨T,_,b,i'+1,F,rfl,rfl,⟨⟨by omega⟩,by omega,U⟩,d,by rw[Bi s,List.map_append,aw];simp[nm,d,p],rfl⟩))
    obtain⟨Y,z⟩:=AG (l:=L) (i:=i') (by omega);refine⟨Y,fun _=>⟨by omega,by rw[show (i).toNat=i' by omega];exact z⟩,?_⟩;try conv=>cbv
    have ae:Y=m:=Option.some.inj (z.symm.trans a);refine cL (r:= .one (.sl AA H)) hE (F5 (G.AU c) hT (by rw[ae];exact N) P.mem (v.1 rfl) p) t2 ?_;try conv=>cbv
    refine⟨[(T,H)],fun _=>⟨rfl,by decide,rfl,⟨rfl,by first | exact t1 | exact t2 | exact t4 | simp[Aw,BF,cells],trivial⟩⟩,.inr ?_⟩;try conv=>cbv
    refine .inl ⟨[(T,H)],fun _=>⟨rfl,by show (1)*48<=140737488355328;(try simp only[List.length_take,List.length_drop]);omega⟩,?_⟩;intro b U;conv=>cbv
    intro F ag;conv=>cbv
    refine g1 (by omega) ?_;refine⟨L.length-(i'+1),?_,?_⟩
    ·omega
    rw[a1];exact .inr (.inr (.inr ⟨T,_,b,i'+1,F,rfl,rfl,⟨⟨by omega⟩,by omega,U⟩,d,by rw[Bi s,List.map_append,aw];simp[nm,d,p],rfl⟩))
   conv=>cbv
   have ei:=hi.eq;have aY:o.length<=L.length:=by rw[hinv,List.length_map,List.length_take];omega
   have hT:=d.symm;rintro aM ⟨aJ,f69⟩;conv=>cbv
   intro an V;conv=>cbv
   cases an <;> conv=>cbv
   ·have al:=Ad V;exact fA ⟨⟨rfl,.inl ⟨_,rfl,by omega,congrArg _ (by rw[hO,ai,hinv,List.drop_zero,List.take_length,List.take_of_length_le (show ns.length<=i' by omega)])⟩,trivial⟩,t2,trivial⟩ rfl (by simp)
   have al:=Ae V;refine .inr ?_;obtain⟨m,a⟩:=AG (l:=L) (i:=i') (by omega);refine⟨m,fun _=>⟨by omega,by rw[show (i).toNat=i' by omega];exact a⟩,?_⟩;try conv=>cbv
   obtain⟨u,y,g,N,s⟩:=Dq hL a;have t:=List.mem_of_getElem? s;have hu:TT u:=a2 _ t;have P:El u S y:=aC _ t;have ay:List.length (α:=LR) m.1=u.length:=by rw[g,BU]
   have W:BK u (Ap ns):=FY G.toGam a2 _ t;obtain⟨H,p⟩:=xR (em (Ap ns) y);obtain⟨ad,v⟩:=CV (u<:+Ap ns);refine cL hE (Ej (G.AU c) (G.AU hu) hT g v) t2 ?_;try conv=>cbv
   refine .inr ?_;cases ad <;> conv=>cbv
   ·obtain⟨Z,A⟩:=AG (l:=L) (i:=i') (by omega);refine⟨Z,fun _=>⟨by omega,by rw[show (i).toNat=i' by omega];exact A⟩,?_⟩;try conv=>cbv
    have af:Z=m:=Option.some.inj (A.symm.trans a);obtain⟨ao,X⟩:=xV (tw (Ap ns));obtain⟨aq,x⟩:=xV (CT (Ap ns) u);have w:=FZ (G.AU c).red (G.AU hu).red W;refine cL (r:= .AE [(false,[.sl (.sl AA) ao]),(false,[.sl (.sl AA) aq]),(false,[.int .i64 0])]) hE (FD G c hu hT (by rw[af];exact g) (by rw[w];exact X) x) t2 ?_;try conv=>cbv
    obtain⟨B,f⟩:=AG (l:=L) (i:=i') (by omega);refine⟨B,fun _=>⟨by omega,by rw[show (i).toNat=i' by omega];exact f⟩,?_⟩;try conv=>cbv
    have Q:B=m:=Option.some.inj (f.symm.trans a);refine cL (r:= .one (.sl AA H)) hE (GZ G.toGam c hu W hT (by rw[x];have:=E8 (G.AU c).red (G.AU hu).red;rwa [w] at this) (by rw[Q];exact N) P p) t3 ?_;try conv=>cbv
    refine⟨[(T,H)],fun _=>⟨rfl,by decide,rfl,⟨rfl,by first | exact t1 | exact t2 | exact t4 | simp[Aw,BF,cells],trivial⟩⟩,.inr ?_⟩;try conv=>cbv
    refine .inl ⟨[(T,H)],fun _=>⟨rfl,ai,rfl,by show (o.length+1)*48<=140737488355328;(try simp only[List.length_take,List.length_drop]);omega⟩,?_⟩;intro (h:List (el Am)) b j;have C:h=(o:List (el Am))++([(T,H)]:List (el Am)):=j.1;have D:b=List.length (α:=(el Am)) h:=j.2;conv=>cbv
    intro F ag;conv=>cbv
    refine g1 (by omega) ?_;refine⟨L.length-(i'+1),?_,?_⟩
    ·omega
    rw[a1];exact .inr (.inr (.inr ⟨T,h,b,i'+1,F,rfl,rfl,⟨⟨by omega⟩,by omega,D⟩,d,by rw[C,hinv,Bi s,List.map_append];simp[nm,d,p],rfl⟩))
   obtain⟨Y,z⟩:=AG (l:=L) (i:=i') (by omega);refine⟨Y,fun _=>⟨by omega,by rw[show (i).toNat=i' by omega];exact z⟩,?_⟩;try conv=>cbv
   have ae:Y=m:=Option.some.inj (z.symm.trans a);refine cL (r:= .one (.sl AA H)) hE (F5 (G.AU c) hT (by rw[ae];exact N) P.mem (v.1 rfl) p) t2 ?_;try conv=>cbv
   refine⟨[(T,H)],fun _=>⟨rfl,by decide,rfl,⟨rfl,by first | exact t1 | exact t2 | exact t4 | simp[Aw,BF,cells],trivial⟩⟩,.inr ?_⟩;try conv=>cbv
   refine .inl ⟨[(T,H)],fun _=>⟨rfl,ai,rfl,by show (o.length+1)*48<=140737488355328;(try simp only[List.length_take,List.length_drop]);omega⟩,?_⟩;intro (h:List (el Am)) b j;have C:h=(o:List (el Am))++([(T,H)]:List (el Am)):=j.1;have D:b=List.length (α:=(el Am)) h:=j.2;conv=>cbv
   intro F ag;conv=>cbv
   refine g1 (by omega) ?_;refine⟨L.length-(i'+1),?_,?_⟩
   ·omega
   rw[a1];exact .inr (.inr (.inr ⟨T,h,b,i'+1,F,rfl,rfl,⟨⟨by omega⟩,by omega,D⟩,d,by rw[C,hinv,Bi s,List.map_append];simp[nm,d,p],rfl⟩))
  have aZ:=Ae aQ;refine .inr ?_;obtain⟨ab,M⟩:=AG (l:=L) (i:=i') (by omega);refine⟨ab,fun _=>⟨by omega,by rw[show (i).toNat=i' by omega];exact M⟩,?_⟩;try conv=>cbv
  obtain⟨u,y,g,N,s⟩:=Dq hL M;have t:=List.mem_of_getElem? s;have hu:TT u:=a2 _ t;have P:El u S y:=aC _ t;have ay:List.length (α:=LR) ab.1=u.length:=by rw[g,BU]
  have ak:=L0 s;unfold DO at ak
  dsimp only at ak
  have ax:TT (Ap (ns.take i')):=G.Ap (fun n hn=>a2 n (List.mem_of_mem_take hn));rintro b2 ⟨aV,f26⟩;conv=>cbv
  have b6:b2=(u.length:Int):=aV.trans (congrArg (fun n:Nat=>(n:Int)) ay);intro b3 aR;conv=>cbv
  cases b3 <;> conv=>cbv
  ·have b0:=CA aR;refine .inr ?_;obtain⟨aA,a8⟩:=AG (l:=L) (i:=i') (by omega);refine⟨aA,fun _=>⟨by omega,by rw[show (i).toNat=i' by omega];exact a8⟩,?_⟩;try conv=>cbv
   have aH:aA=ab:=Option.some.inj (a8.symm.trans M);obtain⟨aG,I⟩:=CV (u<:+(Ap (ns.take i')));refine cL (r:= .one (.bool aG)) hE (Ej (G.AU ax) (G.AU hu) ah (by rw[aH];exact g) I) ⟨.inr ⟨_,rfl⟩,rfl,trivial⟩ ?_;try conv=>cbv
   intro C1 av;conv=>cbv
   refine .inr ?_;cases C1 <;> conv=>cbv
   ·have a5:=CJ av;intro a6 aD;conv=>cbv
    refine g1 (by omega) ?_;refine⟨L.length-(i'+1),?_,?_⟩
    ·omega
    rw[au];exact .inl ⟨i'+1,a6,rfl,rfl,⟨⟨by omega⟩,by omega⟩,by rw[ak,if_pos (I.1 a5)];exact h0,rfl⟩
   have a5:=CK av;obtain⟨aB,aa⟩:=AG (l:=L) (i:=i') (by omega);refine⟨aB,fun _=>⟨by omega,by rw[show (i).toNat=i' by omega];exact aa⟩,?_⟩;try conv=>cbv
   have aI:aB=ab:=Option.some.inj (aa.symm.trans M);obtain⟨aN,a7⟩:=xV (tw (ext (Ap (ns.take i')) u));obtain⟨aO,az⟩:=xV (CT (Ap (ns.take i')) u);refine cL (r:= .AE [(false,[.sl (.sl AA) aN]),(false,[.sl (.sl AA) aO]),(false,[.int .i64 0])]) hE (FD G ax hu ah (by rw[aI];exact g) a7 az) ⟨.inr ⟨_,rfl⟩,rfl,trivial⟩ ?_;try conv=>cbv
   intro b4 aK;cases aK.trans (show _=false by decide);conv=>cbv
   intro a6 aD;conv=>cbv
   refine g1 (by omega) ?_;refine⟨L.length-(i'+1),?_,?_⟩
   ·omega
   rw[au];exact .inr ⟨_,i'+1,a6,rfl,rfl,⟨⟨by omega⟩,by omega⟩,by rw[ak,if_neg (fun q=>by have:=I.2 q;rw[a5] at this;cases this),if_neg (fun aj=>by first | (have:=ar.2 aj;cases this) | exact absurd (show u<:+Ap (List.take i' ns) from by rw[aj.eq_of_length_le (by omega)];exact List.suffix_refl _) (fun q=>by have:=I.2 q;rw[a5] at this;cases this)),a7],rfl⟩
  have b0:=CB aR;obtain⟨aT,aE⟩:=AG (l:=L) (i:=i') (by omega);refine⟨aT,fun _=>⟨by omega,by rw[show (i).toNat=i' by omega];exact aE⟩,?_⟩;try conv=>cbv
  have aW:aT=ab:=Option.some.inj (aE.symm.trans M);obtain⟨aP,ar⟩:=CV ((Ap (ns.take i'))<:+u);refine cL (r:= .one (.bool aP)) hE (Ej (G.AU hu) (G.AU ax) (by rw[aW];exact g) ah ar) ⟨rfl,.inr ⟨_,rfl⟩,trivial⟩ ?_;try conv=>cbv
  refine .inr ?_;cases aP <;> conv=>cbv
  ·obtain⟨aA,a8⟩:=AG (l:=L) (i:=i') (by omega);refine⟨aA,fun _=>⟨by omega,by rw[show (i).toNat=i' by omega];exact a8⟩,?_⟩;try conv=>cbv
   have aH:aA=ab:=Option.some.inj (a8.symm.trans M);obtain⟨aG,I⟩:=CV (u<:+(Ap (ns.take i')));refine cL (r:= .one (.bool aG)) hE (Ej (G.AU ax) (G.AU hu) ah (by rw[aH];exact g) I) ⟨.inr ⟨_,rfl⟩,rfl,trivial⟩ ?_;try conv=>cbv
   intro C1 av;conv=>cbv
   refine .inr ?_;cases C1 <;> conv=>cbv
   ·have a5:=CJ av;intro a6 aD;conv=>cbv
    refine g1 (by omega) ?_;refine⟨L.length-(i'+1),?_,?_⟩
    ·omega
    rw[au];exact .inl ⟨i'+1,a6,rfl,rfl,⟨⟨by omega⟩,by omega⟩,by rw[ak,if_pos (I.1 a5)];exact h0,rfl⟩
   have a5:=CK av;obtain⟨aB,aa⟩:=AG (l:=L) (i:=i') (by omega);refine⟨aB,fun _=>⟨by omega,by rw[show (i).toNat=i' by omega];exact aa⟩,?_⟩;try conv=>cbv
   have aI:aB=ab:=Option.some.inj (aa.symm.trans M);obtain⟨aN,a7⟩:=xV (tw (ext (Ap (ns.take i')) u));obtain⟨aO,az⟩:=xV (CT (Ap (ns.take i')) u);refine cL (r:= .AE [(false,[.sl (.sl AA) aN]),(false,[.sl (.sl AA) aO]),(false,[.int .i64 0])]) hE (FD G ax hu ah (by rw[aI];exact g) a7 az) ⟨.inr ⟨_,rfl⟩,rfl,trivial⟩ ?_;try conv=>cbv
   intro b4 aK;cases aK.trans (show _=false by decide);conv=>cbv
   intro a6 aD;conv=>cbv
   refine g1 (by omega) ?_;refine⟨L.length-(i'+1),?_,?_⟩
   ·omega
   rw[au];exact .inr ⟨_,i'+1,a6,rfl,rfl,⟨⟨by omega⟩,by omega⟩,by rw[ak,if_neg (fun q=>by have:=I.2 q;rw[a5] at this;cases this),if_neg (fun aj=>by first | (have:=ar.2 aj;cases this) | exact absurd (show u<:+Ap (List.take i' ns) from by rw[aj.eq_of_length_le (by omega)];exact List.suffix_refl _) (fun q=>by have:=I.2 q;rw[a5] at this;cases this)),a7],rfl⟩
  obtain⟨aU,aF⟩:=AG (l:=L) (i:=i') (by omega);refine⟨aU,fun _=>⟨by omega,by rw[show (i).toNat=i' by omega];exact aF⟩,?_⟩;try conv=>cbv
  have aX:aU=ab:=Option.some.inj (aF.symm.trans M);intro a6 aD;conv=>cbv
  refine g1 (by omega) ?_;refine⟨L.length-(i'+1),?_,?_⟩
  ·omega
  rw[au];exact .inr ⟨_,i'+1,a6,rfl,rfl,⟨⟨by omega⟩,by omega⟩,by rw[ak,if_neg (fun aj=>by have:=aj.length_le;omega),if_pos (ar.1 rfl),aX];exact g,rfl⟩
 conv=>cbv
 have ei:=hi.eq;have b5:(Ap (ns.take i')).length=List.length (α:=LR) Ti:=by rw[ah,BU]
 rintro bb ⟨b7,f17⟩;conv=>cbv
 intro b1 aQ;conv=>cbv
 cases b1 <;> conv=>cbv
 ·have aZ:=Ad aQ;refine .inr ?_;obtain⟨J1,a1⟩:=xJ fun vs bl k=>(∃(i:Int),vs=[.one (.sl Am L),.one .nil,.one .nil,.one (.int .i64 i)]/\bl=[.dead 0]/\(AS i 0)/\tw (Ap ns)=[]/\k=L.length)\/(∃(o:List (el Am)) (mm i':Nat) (i:Int),vs=[.one (.sl Am L),.one .nil,.one (.AT Am 113 0 0 mm),.one (.int .i64 i)]/\bl=[.arr 0 Am o]/\(AS i i'/\i'<=L.length/\mm=o.length)/\tw (Ap ns)=[]/\o=(ns.take i').map (fun n=>nm (Ap ns,n.2))/\k=L.length-i')\/(∃(T:List LR) (i:Int),vs=[.one (.sl Am L),.one (.sl (.sl AA) T),.one .nil,.one (.int .i64 i)]/\bl=[.dead 0]/\(AS i 0)/\tw (Ap ns)=T/\k=L.length)\/(∃(T:List LR) (o:List (el Am)) (mm i':Nat) (i:Int),vs=[.one (.sl Am L),.one (.sl (.sl AA) T),.one (.AT Am 113 0 0 mm),.one (.int .i64 i)]/\bl=[.arr 0 Am o]/\(AS i i'/\i'<=L.length/\mm=o.length)/\tw (Ap ns)=T/\o=(ns.take i').map (fun n=>nm (Ap ns,n.2))/\k=L.length-i')
  refine⟨[0,4,9,10],[113],J1,⟨L.length,by rw[a1];exact .inr (.inr (.inl ⟨Ti,0,rfl,rfl,BC 0,by rw[ah,List.take_of_length_le (show ns.length<=i' by omega)],rfl⟩))⟩,?_⟩;intro vs bl ba hj;rw[a1] at hj;rcases hj with⟨i,rfl,rfl,hi,d,aL⟩ |⟨o,mm,i',i,rfl,rfl,⟨hi,aS,ai⟩,d,hinv,aL⟩ |⟨T,i,rfl,rfl,hi,d,aL⟩ |⟨T,o,mm,i',i,rfl,rfl,⟨hi,aS,ai⟩,d,hinv,aL⟩
  ·conv=>cbv
   have ei:=hi.eq;obtain⟨i',aw⟩:=xN 0;have hT:=d.symm;rintro aM ⟨aJ,f69⟩;conv=>cbv
   intro an V;conv=>cbv
   cases an <;> conv=>cbv
   ·have al:=Ad V;exact fA ⟨⟨rfl,.inr (.inl ⟨_,congrArg _ (by rw[hO,show ns=[] from List.eq_nil_of_length_eq_zero (by omega)];rfl)⟩),trivial⟩,t2,trivial⟩ rfl (by simp)
   have al:=Ae V;refine .inr ?_;obtain⟨m,a⟩:=AG (l:=L) (i:=i') (by omega);refine⟨m,fun _=>⟨by omega,by rw[show (i).toNat=i' by omega];exact a⟩,?_⟩;try conv=>cbv
   obtain⟨u,y,g,N,s⟩:=Dq hL a;have t:=List.mem_of_getElem? s;have hu:TT u:=a2 _ t;have P:El u S y:=aC _ t;have ay:List.length (α:=LR) m.1=u.length:=by rw[g,BU]
   have W:BK u (Ap ns):=FY G.toGam a2 _ t;obtain⟨H,p⟩:=xR (em (Ap ns) y);obtain⟨ad,v⟩:=CV (u<:+Ap ns);refine cL hE (Ej (G.AU c) (G.AU hu) hT g v) ⟨.inr ⟨_,rfl⟩,rfl,trivial⟩ ?_;try conv=>cbv
   refine .inr ?_;cases ad <;> conv=>cbv
   ·obtain⟨Z,A⟩:=AG (l:=L) (i:=i') (by omega);refine⟨Z,fun _=>⟨by omega,by rw[show (i).toNat=i' by omega];exact A⟩,?_⟩;try conv=>cbv
    have af:Z=m:=Option.some.inj (A.symm.trans a);obtain⟨ao,X⟩:=xV (tw (Ap ns));obtain⟨aq,x⟩:=xV (CT (Ap ns) u);have w:=FZ (G.AU c).red (G.AU hu).red W;refine cL (r:= .AE [(false,[.sl (.sl AA) ao]),(false,[.sl (.sl AA) aq]),(false,[.int .i64 0])]) hE (FD G c hu hT (by rw[af];exact g) (by rw[w];exact X) x) ⟨.inr ⟨_,rfl⟩,rfl,trivial⟩ ?_;try conv=>cbv
    obtain⟨B,f⟩:=AG (l:=L) (i:=i') (by omega);refine⟨B,fun _=>⟨by omega,by rw[show (i).toNat=i' by omega];exact f⟩,?_⟩;try conv=>cbv
    have Q:B=m:=Option.some.inj (f.symm.trans a);refine cL (r:= .one (.sl AA H)) hE (GZ G.toGam c hu W hT (by rw[x];have:=E8 (G.AU c).red (G.AU hu).red;rwa [w] at this) (by rw[Q];exact N) P p) ⟨.inr ⟨_,rfl⟩,rfl,rfl,trivial⟩ ?_;try conv=>cbv
    refine⟨[([],H)],fun _=>⟨rfl,by decide,rfl,⟨rfl,⟨.inr ⟨_,rfl⟩,rfl,trivial⟩,trivial⟩⟩,.inr ?_⟩;try conv=>cbv
    refine .inl ⟨[([],H)],fun _=>⟨rfl,by show (1)*48<=140737488355328;(try simp only[List.length_take,List.length_drop]);omega⟩,?_⟩;intro b U;conv=>cbv
    intro F ag;conv=>cbv
    refine g1 (by omega) ?_;refine⟨L.length-(i'+1),?_,?_⟩
    ·omega
    rw[a1];exact .inr (.inl ⟨_,b,i'+1,F,rfl,rfl,⟨⟨by omega⟩,by omega,U⟩,d,by rw[Bi s,List.map_append,aw];simp[nm,d,p],rfl⟩)
   obtain⟨Y,z⟩:=AG (l:=L) (i:=i') (by omega);refine⟨Y,fun _=>⟨by omega,by rw[show (i).toNat=i' by omega];exact z⟩,?_⟩;try conv=>cbv
   have ae:Y=m:=Option.some.inj (z.symm.trans a);refine cL (r:= .one (.sl AA H)) hE (F5 (G.AU c) hT (by rw[ae];exact N) P.mem (v.1 rfl) p) ⟨.inr ⟨_,rfl⟩,rfl,trivial⟩ ?_;try conv=>cbv
   refine⟨[([],H)],fun _=>⟨rfl,by decide,rfl,⟨rfl,⟨.inr ⟨_,rfl⟩,rfl,trivial⟩,trivial⟩⟩,.inr ?_⟩;try conv=>cbv
   refine .inl ⟨[([],H)],fun _=>⟨rfl,by show (1)*48<=140737488355328;(try simp only[List.length_take,List.length_drop]);omega⟩,?_⟩;intro b U;conv=>cbv
   intro F ag;conv=>cbv
   refine g1 (by omega) ?_;refine⟨L.length-(i'+1),?_,?_⟩
   ·omega
   rw[a1];exact .inr (.inl ⟨_,b,i'+1,F,rfl,rfl,⟨⟨by omega⟩,by omega,U⟩,d,by rw[Bi s,List.map_append,aw];simp[nm,d,p],rfl⟩)
  ·conv=>cbv
   have ei:=hi.eq;have aY:o.length<=L.length:=by rw[hinv,List.length_map,List.length_take];omega
   have hT:=d.symm;rintro aM ⟨aJ,f69⟩;conv=>cbv
   intro an V;conv=>cbv
   cases an <;> conv=>cbv
   ·have al:=Ad V;exact fA ⟨⟨rfl,.inl ⟨_,rfl,by omega,congrArg _ (by rw[hO,ai,hinv,List.drop_zero,List.take_length,List.take_of_length_le (show ns.length<=i' by omega)])⟩,trivial⟩,t2,trivial⟩ rfl (by simp)
   have al:=Ae V;refine .inr ?_;obtain⟨m,a⟩:=AG (l:=L) (i:=i') (by omega);refine⟨m,fun _=>⟨by omega,by rw[show (i).toNat=i' by omega];exact a⟩,?_⟩;try conv=>cbv
   obtain⟨u,y,g,N,s⟩:=Dq hL a;have t:=List.mem_of_getElem? s;have hu:TT u:=a2 _ t;have P:El u S y:=aC _ t;have ay:List.length (α:=LR) m.1=u.length:=by rw[g,BU]
   have W:BK u (Ap ns):=FY G.toGam a2 _ t;obtain⟨H,p⟩:=xR (em (Ap ns) y);obtain⟨ad,v⟩:=CV (u<:+Ap ns);refine cL hE (Ej (G.AU c) (G.AU hu) hT g v) ⟨.inr ⟨_,rfl⟩,rfl,trivial⟩ ?_;try conv=>cbv
   refine .inr ?_;cases ad <;> conv=>cbv
   ·obtain⟨Z,A⟩:=AG (l:=L) (i:=i') (by omega);refine⟨Z,fun _=>⟨by omega,by rw[show (i).toNat=i' by omega];exact A⟩,?_⟩;try conv=>cbv
    have af:Z=m:=Option.some.inj (A.symm.trans a);obtain⟨ao,X⟩:=xV (tw (Ap ns));obtain⟨aq,x⟩:=xV (CT (Ap ns) u);have w:=FZ (G.AU c).red (G.AU hu).red W;refine cL (r:= .AE [(false,[.sl (.sl AA) ao]),(false,[.sl (.sl AA) aq]),(false,[.int .i64 0])]) hE (FD G c hu hT (by rw[af];exact g) (by rw[w];exact X) x) ⟨.inr ⟨_,rfl⟩,rfl,trivial⟩ ?_;try conv=>cbv
    obtain⟨B,f⟩:=AG (l:=L) (i:=i') (by omega);refine⟨B,fun _=>⟨by omega,by rw[show (i).toNat=i' by omega];exact f⟩,?_⟩;try conv=>cbv
    have Q:B=m:=Option.some.inj (f.symm.trans a);refine cL (r:= .one (.sl AA H)) hE (GZ G.toGam c hu W hT (by rw[x];have:=E8 (G.AU c).red (G.AU hu).red;rwa [w] at this) (by rw[Q];exact N) P p) ⟨.inr ⟨_,rfl⟩,rfl,rfl,trivial⟩ ?_;try conv=>cbv
    refine⟨[([],H)],fun _=>⟨rfl,by decide,rfl,⟨rfl,⟨.inr ⟨_,rfl⟩,rfl,trivial⟩,trivial⟩⟩,.inr ?_⟩;try conv=>cbv
    refine .inl ⟨[([],H)],fun _=>⟨rfl,ai,rfl,by show (o.length+1)*48<=140737488355328;(try simp only[List.length_take,List.length_drop]);omega⟩,?_⟩;intro (h:List (el Am)) b j;have C:h=(o:List (el Am))++([([],H)]:List (el Am)):=j.1;have D:b=List.length (α:=(el Am)) h:=j.2;conv=>cbv
    intro F ag;conv=>cbv
    refine g1 (by omega) ?_;refine⟨L.length-(i'+1),?_,?_⟩
    ·omega
    rw[a1];exact .inr (.inl ⟨h,b,i'+1,F,rfl,rfl,⟨⟨by omega⟩,by omega,D⟩,d,by rw[C,hinv,Bi s,List.map_append];simp[nm,d,p],rfl⟩)
   obtain⟨Y,z⟩:=AG (l:=L) (i:=i') (by omega);refine⟨Y,fun _=>⟨by omega,by rw[show (i).toNat=i' by omega];exact z⟩,?_⟩;try conv=>cbv
   have ae:Y=m:=Option.some.inj (z.symm.trans a);refine cL (r:= .one (.sl AA H)) hE (F5 (G.AU c) hT (by rw[ae];exact N) P.mem (v.1 rfl) p) ⟨.inr ⟨_,rfl⟩,rfl,trivial⟩ ?_;try conv=>cbv
   refine⟨[([],H)],fun _=>⟨rfl,by decide,rfl,⟨rfl,⟨.inr ⟨_,rfl⟩,rfl,trivial⟩,trivial⟩⟩,.inr ?_⟩;try conv=>cbv
   refine .inl ⟨[([],H)],fun _=>⟨rfl,ai,rfl,by show (o.length+1)*48<=140737488355328;(try simp only[List.length_take,List.length_drop]);omega⟩,?_⟩;intro (h:List (el Am)) b j;have C:h=(o:List (el Am))++([([],H)]:List (el Am)):=j.1;have D:b=List.length (α:=(el Am)) h:=j.2;conv=>cbv
   intro F ag;conv=>cbv
   refine g1 (by omega) ?_;refine⟨L.length-(i'+1),?_,?_⟩
   ·omega
   rw[a1];exact .inr (.inl ⟨h,b,i'+1,F,rfl,rfl,⟨⟨by omega⟩,by omega,D⟩,d,by rw[C,hinv,Bi s,List.map_append];simp[nm,d,p],rfl⟩)
  ·conv=>cbv
   have ei:=hi.eq;obtain⟨i',aw⟩:=xN 0;have hT:=d.symm;rintro aM ⟨aJ,f69⟩;conv=>cbv
   intro an V;conv=>cbv
   cases an <;> conv=>cbv
   ·have al:=Ad V;exact fA ⟨⟨rfl,.inr (.inl ⟨_,congrArg _ (by rw[hO,show ns=[] from List.eq_nil_of_length_eq_zero (by omega)];rfl)⟩),trivial⟩,t2,trivial⟩ rfl (by simp)
   have al:=Ae V;refine .inr ?_;obtain⟨m,a⟩:=AG (l:=L) (i:=i') (by omega);refine⟨m,fun _=>⟨by omega,by rw[show (i).toNat=i' by omega];exact a⟩,?_⟩;try conv=>cbv
   obtain⟨u,y,g,N,s⟩:=Dq hL a;have t:=List.mem_of_getElem? s;have hu:TT u:=a2 _ t;have P:El u S y:=aC _ t;have ay:List.length (α:=LR) m.1=u.length:=by rw[g,BU]
   have W:BK u (Ap ns):=FY G.toGam a2 _ t;obtain⟨H,p⟩:=xR (em (Ap ns) y);obtain⟨ad,v⟩:=CV (u<:+Ap ns);refine cL hE (Ej (G.AU c) (G.AU hu) hT g v) t2 ?_;try conv=>cbv
   refine .inr ?_;cases ad <;> conv=>cbv
   ·obtain⟨Z,A⟩:=AG (l:=L) (i:=i') (by omega);refine⟨Z,fun _=>⟨by omega,by rw[show (i).toNat=i' by omega];exact A⟩,?_⟩;try conv=>cbv
    have af:Z=m:=Option.some.inj (A.symm.trans a);obtain⟨ao,X⟩:=xV (tw (Ap ns));obtain⟨aq,x⟩:=xV (CT (Ap ns) u);have w:=FZ (G.AU c).red (G.AU hu).red W;refine cL (r:= .AE [(false,[.sl (.sl AA) ao]),(false,[.sl (.sl AA) aq]),(false,[.int .i64 0])]) hE (FD G c hu hT (by rw[af];exact g) (by rw[w];exact X) x) t2 ?_;try conv=>cbv
    obtain⟨B,f⟩:=AG (l:=L) (i:=i') (by omega);refine⟨B,fun _=>⟨by omega,by rw[show (i).toNat=i' by omega];exact f⟩,?_⟩;try conv=>cbv
    have Q:B=m:=Option.some.inj (f.symm.trans a);refine cL (r:= .one (.sl AA H)) hE (GZ G.toGam c hu W hT (by rw[x];have:=E8 (G.AU c).red (G.AU hu).red;rwa [w] at this) (by rw[Q];exact N) P p) t3 ?_;try conv=>cbv
    refine⟨[(T,H)],fun _=>⟨rfl,by decide,rfl,⟨rfl,by first | exact t1 | exact t2 | exact t4 | simp[Aw,BF,cells],trivial⟩⟩,.inr ?_⟩;try conv=>cbv
    refine .inl ⟨[(T,H)],fun _=>⟨rfl,by show (1)*48<=140737488355328;(try simp only[List.length_take,List.length_drop]);omega⟩,?_⟩;intro b U;conv=>cbv
    intro F ag;conv=>cbv
    refine g1 (by omega) ?_;refine⟨L.length-(i'+1),?_,?_⟩
    ·omega
    rw[a1];exact .inr (.inr (.inr ⟨T,_,b,i'+1,F,rfl,rfl,⟨⟨by omega⟩,by omega,U⟩,d,by rw[Bi s,List.map_append,aw];simp[nm,d,p],rfl⟩))
   obtain⟨Y,z⟩:=AG (l:=L) (i:=i') (by omega);refine⟨Y,fun _=>⟨by omega,by rw[show (i).toNat=i' by omega];exact z⟩,?_⟩;try conv=>cbv
   have ae:Y=m:=Option.some.inj (z.symm.trans a);refine cL (r:= .one (.sl AA H)) hE (F5 (G.AU c) hT (by rw[ae];exact N) P.mem (v.1 rfl) p) t2 ?_;try conv=>cbv
   refine⟨[(T,H)],fun _=>⟨rfl,by decide,rfl,⟨rfl,by first | exact t1 | exact t2 | exact t4 | simp[Aw,BF,cells],trivial⟩⟩,.inr ?_⟩;try conv=>cbv
   refine .inl ⟨[(T,H)],fun _=>⟨rfl,by show (1)*48<=140737488355328;(try simp only[List.length_take,List.length_drop]);omega⟩,?_⟩;intro b U;conv=>cbv
   intro F ag;conv=>cbv
   refine g1 (by omega) ?_;refine⟨L.length-(i'+1),?_,?_⟩
   ·omega
   rw[a1];exact .inr (.inr (.inr ⟨T,_,b,i'+1,F,rfl,rfl,⟨⟨by omega⟩,by omega,U⟩,d,by rw[Bi s,List.map_append,aw];simp[nm,d,p],rfl⟩))
  conv=>cbv
  have ei:=hi.eq;have aY:o.length<=L.length:=by rw[hinv,List.length_map,List.length_take];omega
  have hT:=d.symm;rintro aM ⟨aJ,f69⟩;conv=>cbv
  intro an V;conv=>cbv
  cases an <;> conv=>cbv
  ·have al:=Ad V;exact fA ⟨⟨rfl,.inl ⟨_,rfl,by omega,congrArg _ (by rw[hO,ai,hinv,List.drop_zero,List.take_length,List.take_of_length_le (show ns.length<=i' by omega)])⟩,trivial⟩,t2,trivial⟩ rfl (by simp)
  have al:=Ae V;refine .inr ?_;obtain⟨m,a⟩:=AG (l:=L) (i:=i') (by omega);refine⟨m,fun _=>⟨by omega,by rw[show (i).toNat=i' by omega];exact a⟩,?_⟩;try conv=>cbv
  obtain⟨u,y,g,N,s⟩:=Dq hL a;have t:=List.mem_of_getElem? s;have hu:TT u:=a2 _ t;have P:El u S y:=aC _ t;have ay:List.length (α:=LR) m.1=u.length:=by rw[g,BU]
  have W:BK u (Ap ns):=FY G.toGam a2 _ t;obtain⟨H,p⟩:=xR (em (Ap ns) y);obtain⟨ad,v⟩:=CV (u<:+Ap ns);refine cL hE (Ej (G.AU c) (G.AU hu) hT g v) t2 ?_;try conv=>cbv
  refine .inr ?_;cases ad <;> conv=>cbv
  ·obtain⟨Z,A⟩:=AG (l:=L) (i:=i') (by omega);refine⟨Z,fun _=>⟨by omega,by rw[show (i).toNat=i' by omega];exact A⟩,?_⟩;try conv=>cbv
   have af:Z=m:=Option.some.inj (A.symm.trans a);obtain⟨ao,X⟩:=xV (tw (Ap ns));obtain⟨aq,x⟩:=xV (CT (Ap ns) u);have w:=FZ (G.AU c).red (G.AU hu).red W;refine cL (r:= .AE [(false,[.sl (.sl AA) ao]),(false,[.sl (.sl AA) aq]),(false,[.int .i64 0])]) hE (FD G c hu hT (by rw[af];exact g) (by rw[w];exact X) x) t2 ?_;try conv=>cbv
   obtain⟨B,f⟩:=AG (l:=L) (i:=i') (by omega);refine⟨B,fun _=>⟨by omega,by rw[show (i).toNat=i' by omega];exact f⟩,?_⟩;try conv=>cbv
   have Q:B=m:=Option.some.inj (f.symm.trans a);refine cL (r:= .one (.sl AA H)) hE (GZ G.toGam c hu W hT (by rw[x];have:=E8 (G.AU c).red (G.AU hu).red;rwa [w] at this) (by rw[Q];exact N) P p) t3 ?_;try conv=>cbv
   refine⟨[(T,H)],fun _=>⟨rfl,by decide,rfl,⟨rfl,by first | exact t1 | exact t2 | exact t4 | simp[Aw,BF,cells],trivial⟩⟩,.inr ?_⟩;try conv=>cbv
   refine .inl ⟨[(T,H)],fun _=>⟨rfl,ai,rfl,by show (o.length+1)*48<=140737488355328;(try simp only[List.length_take,List.length_drop]);omega⟩,?_⟩;intro (h:List (el Am)) b j;have C:h=(o:List (el Am))++([(T,H)]:List (el Am)):=j.1;have D:b=List.length (α:=(el Am)) h:=j.2;conv=>cbv
   intro F ag;conv=>cbv
   refine g1 (by omega) ?_;refine⟨L.length-(i'+1),?_,?_⟩
   ·omega
   rw[a1];exact .inr (.inr (.inr ⟨T,h,b,i'+1,F,rfl,rfl,⟨⟨by omega⟩,by omega,D⟩,d,by rw[C,hinv,Bi s,List.map_append];simp[nm,d,p],rfl⟩))
  obtain⟨Y,z⟩:=AG (l:=L) (i:=i') (by omega);refine⟨Y,fun _=>⟨by omega,by rw[show (i).toNat=i' by omega];exact z⟩,?_⟩;try conv=>cbv
  have ae:Y=m:=Option.some.inj (z.symm.trans a);refine cL (r:= .one (.sl AA H)) hE (F5 (G.AU c) hT (by rw[ae];exact N) P.mem (v.1 rfl) p) t2 ?_;try conv=>cbv
  refine⟨[(T,H)],fun _=>⟨rfl,by decide,rfl,⟨rfl,by first | exact t1 | exact t2 | exact t4 | simp[Aw,BF,cells],trivial⟩⟩,.inr ?_⟩;try conv=>cbv
  refine .inl ⟨[(T,H)],fun _=>⟨rfl,ai,rfl,by show (o.length+1)*48<=140737488355328;(try simp only[List.length_take,List.length_drop]);omega⟩,?_⟩;intro (h:List (el Am)) b j;have C:h=(o:List (el Am))++([(T,H)]:List (el Am)):=j.1;have D:b=List.length (α:=(el Am)) h:=j.2;conv=>cbv
  intro F ag;conv=>cbv
  refine g1 (by omega) ?_;refine⟨L.length-(i'+1),?_,?_⟩
  ·omega
  rw[a1];exact .inr (.inr (.inr ⟨T,h,b,i'+1,F,rfl,rfl,⟨⟨by omega⟩,by omega,D⟩,d,by rw[C,hinv,Bi s,List.map_append];simp[nm,d,p],rfl⟩))
 have aZ:=Ae aQ;refine .inr ?_;obtain⟨ab,M⟩:=AG (l:=L) (i:=i') (by omega);refine⟨ab,fun _=>⟨by omega,by rw[show (i).toNat=i' by omega];exact M⟩,?_⟩;try conv=>cbv
 obtain⟨u,y,g,N,s⟩:=Dq hL M;have t:=List.mem_of_getElem? s;have hu:TT u:=a2 _ t;have P:El u S y:=aC _ t;have ay:List.length (α:=LR) ab.1=u.length:=by rw[g,BU]
 have ak:=L0 s;unfold DO at ak
 dsimp only at ak
 have ax:TT (Ap (ns.take i')):=G.Ap (fun n hn=>a2 n (List.mem_of_mem_take hn));rintro b2 ⟨aV,f26⟩;conv=>cbv
 have b6:b2=(u.length:Int):=aV.trans (congrArg (fun n:Nat=>(n:Int)) ay);rintro bc ⟨b8,f28⟩;conv=>cbv
 have bd:bc=((Ap (ns.take i')).length:Int):=b8.trans (congrArg (fun n:Nat=>(n:Int)) b5.symm);intro b3 aR;conv=>cbv
 cases b3 <;> conv=>cbv
 ·have b0:=CA aR;refine .inr ?_;obtain⟨aA,a8⟩:=AG (l:=L) (i:=i') (by omega);refine⟨aA,fun _=>⟨by omega,by rw[show (i).toNat=i' by omega];exact a8⟩,?_⟩;try conv=>cbv
  have aH:aA=ab:=Option.some.inj (a8.symm.trans M);obtain⟨aG,I⟩:=CV (u<:+(Ap (ns.take i')));refine cL (r:= .one (.bool aG)) hE (Ej (G.AU ax) (G.AU hu) ah (by rw[aH];exact g) I) t2 ?_;try conv=>cbv
  intro C1 av;conv=>cbv
  refine .inr ?_;cases C1 <;> conv=>cbv
  ·have a5:=CJ av;intro a6 aD;conv=>cbv
   refine g1 (by omega) ?_;refine⟨L.length-(i'+1),?_,?_⟩
   ·omega
   rw[au];exact .inr ⟨_,i'+1,a6,rfl,rfl,⟨⟨by omega⟩,by omega⟩,by rw[ak,if_pos (I.1 a5),<-ah],rfl⟩
  have a5:=CK av;obtain⟨aB,aa⟩:=AG (l:=L) (i:=i') (by omega);refine⟨aB,fun _=>⟨by omega,by rw[show (i).toNat=i' by omega];exact aa⟩,?_⟩;try conv=>cbv
  have aI:aB=ab:=Option.some.inj (aa.symm.trans M);obtain⟨aN,a7⟩:=xV (tw (ext (Ap (ns.take i')) u));obtain⟨aO,az⟩:=xV (CT (Ap (ns.take i')) u);refine cL (r:= .AE [(false,[.sl (.sl AA) aN]),(false,[.sl (.sl AA) aO]),(false,[.int .i64 0])]) hE (FD G ax hu ah (by rw[aI];exact g) a7 az) t2 ?_;try conv=>cbv
  intro b4 aK;cases aK.trans (show _=false by decide);conv=>cbv
  intro a6 aD;conv=>cbv
  refine g1 (by omega) ?_;refine⟨L.length-(i'+1),?_,?_⟩
  ·omega
  rw[au];exact .inr ⟨_,i'+1,a6,rfl,rfl,⟨⟨by omega⟩,by omega⟩,by rw[ak,if_neg (fun q=>by have:=I.2 q;rw[a5] at this;cases this),if_neg (fun aj=>by first | (have:=ar.2 aj;cases this) | exact absurd (show u<:+Ap (List.take i' ns) from by rw[aj.eq_of_length_le (by omega)];exact List.suffix_refl _) (fun q=>by have:=I.2 q;rw[a5] at this;cases this)),a7],rfl⟩
 have b0:=CB aR;obtain⟨aT,aE⟩:=AG (l:=L) (i:=i') (by omega);refine⟨aT,fun _=>⟨by omega,by rw[show (i).toNat=i' by omega];exact aE⟩,?_⟩;try conv=>cbv
 have aW:aT=ab:=Option.some.inj (aE.symm.trans M);obtain⟨aP,ar⟩:=CV ((Ap (ns.take i'))<:+u);refine cL (r:= .one (.bool aP)) hE (Ej (G.AU hu) (G.AU ax) (by rw[aW];exact g) ah ar) t2 ?_;try conv=>cbv
 refine .inr ?_;cases aP <;> conv=>cbv
 ·obtain⟨aA,a8⟩:=AG (l:=L) (i:=i') (by omega);refine⟨aA,fun _=>⟨by omega,by rw[show (i).toNat=i' by omega];exact a8⟩,?_⟩;try conv=>cbv
  have aH:aA=ab:=Option.some.inj (a8.symm.trans M);obtain⟨aG,I⟩:=CV (u<:+(Ap (ns.take i')));refine cL (r:= .one (.bool aG)) hE (Ej (G.AU ax) (G.AU hu) ah (by rw[aH];exact g) I) t2 ?_;try conv=>cbv
  intro C1 av;conv=>cbv
  refine .inr ?_;cases C1 <;> conv=>cbv
  ·have a5:=CJ av;intro a6 aD;conv=>cbv
   refine g1 (by omega) ?_;refine⟨L.length-(i'+1),?_,?_⟩
   ·omega
   rw[au];exact .inr ⟨_,i'+1,a6,rfl,rfl,⟨⟨by omega⟩,by omega⟩,by rw[ak,if_pos (I.1 a5),<-ah],rfl⟩
  have a5:=CK av;obtain⟨aB,aa⟩:=AG (l:=L) (i:=i') (by omega);refine⟨aB,fun _=>⟨by omega,by rw[show (i).toNat=i' by omega];exact aa⟩,?_⟩;try conv=>cbv
  have aI:aB=ab:=Option.some.inj (aa.symm.trans M);obtain⟨aN,a7⟩:=xV (tw (ext (Ap (ns.take i')) u));obtain⟨aO,az⟩:=xV (CT (Ap (ns.take i')) u);refine cL (r:= .AE [(false,[.sl (.sl AA) aN]),(false,[.sl (.sl AA) aO]),(false,[.int .i64 0])]) hE (FD G ax hu ah (by rw[aI];exact g) a7 az) t2 ?_;try conv=>cbv
  intro b4 aK;cases aK.trans (show _=false by decide);conv=>cbv
  intro a6 aD;conv=>cbv
  refine g1 (by omega) ?_;refine⟨L.length-(i'+1),?_,?_⟩
  ·omega
  rw[au];exact .inr ⟨_,i'+1,a6,rfl,rfl,⟨⟨by omega⟩,by omega⟩,by rw[ak,if_neg (fun q=>by have:=I.2 q;rw[a5] at this;cases this),if_neg (fun aj=>by first | (have:=ar.2 aj;cases this) | exact absurd (show u<:+Ap (List.take i' ns) from by rw[aj.eq_of_length_le (by omega)];exact List.suffix_refl _) (fun q=>by have:=I.2 q;rw[a5] at this;cases this)),a7],rfl⟩
 obtain⟨aU,aF⟩:=AG (l:=L) (i:=i') (by omega);refine⟨aU,fun _=>⟨by omega,by rw[show (i).toNat=i' by omega];exact aF⟩,?_⟩;try conv=>cbv
 have aX:aU=ab:=Option.some.inj (aF.symm.trans M);intro a6 aD;conv=>cbv
 refine g1 (by omega) ?_;refine⟨L.length-(i'+1),?_,?_⟩
 ·omega
 rw[au];exact .inr ⟨_,i'+1,a6,rfl,rfl,⟨⟨by omega⟩,by omega⟩,by rw[ak,if_neg (fun aj=>by have:=aj.length_le;omega),if_pos (ar.1 rfl),aX];exact g,rfl⟩
end Go.Abs
