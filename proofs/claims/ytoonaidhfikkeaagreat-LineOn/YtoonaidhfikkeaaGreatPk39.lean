/- Part 40 of a proof. Conditions: each theorem's own. -/
import Derived.Test.YtoonaidhfikkeaaGreatPk38
set_option linter.all false
set_option maxHeartbeats 8000000
open Go.Proofs
namespace Go.Abs
open Go.RowKit
theorem Ug {TT:List (List Rat)->Prop} {R K S:Nat} (G:CH TT R K S) {L:List (el AY)} {ns:List (List (List Rat)×Re)} (a2:∀n∈ns,TT n.1) (hL:L=ns.map nm) (aC:∀n∈ns,El n.1 S n.2) (hlen:ns.length<=1000000) {O:List (el AY)} (hO:O=ns.map (fun n=>nm (AZ ns,n.2))):CF 143 [.one (.sl AY L)] (.AF [(false,[.sl AY O]),(false,[.int .i64 0])]):=by
 have bf:L.length=ns.length:=by rw[hL,List.length_map]
 have c:TT (AZ ns):=G.AZ a2;refine AE Tryz.func143 (by kernel_rfl) rfl fun E hE=>?_
 conv=>cbv
 refine .inr ?_
 obtain⟨J0,au⟩:∃J:List AV->List AH->Nat->Prop,J=fun vs bl k=>(∃(i':Nat) (i:Int),vs=[.one (.sl AY L),.one .nil,.one (.int .i64 i)]/\bl=[]/\(AK i i'/\i'<=L.length)/\tw (AZ (ns.take i'))=[]/\k=L.length-i')\/
  (∃(Ti:List LR) (i':Nat) (i:Int),vs=[.one (.sl AY L),.one (.sl (.sl AA) Ti),.one (.int .i64 i)]/\bl=[]/\(AK i i'/\i'<=L.length)/\Ti=tw (AZ (ns.take i'))/\k=L.length-i'):=⟨_,rfl⟩
 refine⟨[0,4,5],[],J0,⟨L.length,by rw[au];exact .inl ⟨0,0,rfl,rfl,⟨Ah 0,by omega⟩,rfl,rfl⟩⟩,?_⟩;intro vs bl bg hj;rw[au] at hj;rcases hj with⟨i',i,rfl,rfl,⟨hi,aS⟩,h0,b9⟩ |⟨Ti,i',i,rfl,rfl,⟨hi,aS⟩,ah,b9⟩
 ·conv=>cbv
  have ei:=hi.eq;have ah:=h0.symm;have b5:(AZ (ns.take i')).length=0:=by rw[<-Ay,h0];rfl
  rintro bb ⟨b7,f17⟩;conv=>cbv
  intro b1 aQ;conv=>cbv
  cases b1 <;> conv=>cbv
  ·have aZ:=AR aQ;refine .inr ?_;obtain⟨J1,a1⟩:=xJ fun vs bl k=>(∃(i:Int),vs=[.one (.sl AY L),.one .nil,.one .nil,.one (.int .i64 i)]/\bl=[.dead 0]/\(AK i 0)/\tw (AZ ns)=[]/\k=L.length)\/(∃(o:List (el AY)) (mm i':Nat) (i:Int),vs=[.one (.sl AY L),.one .nil,.one (.AM AY 113 0 0 mm),.one (.int .i64 i)]/\bl=[.arr 0 AY o]/\(AK i i'/\i'<=L.length/\mm=o.length)/\tw (AZ ns)=[]/\o=(ns.take i').map (fun n=>nm (AZ ns,n.2))/\k=L.length-i')\/(∃(T:List LR) (i:Int),vs=[.one (.sl AY L),.one (.sl (.sl AA) T),.one .nil,.one (.int .i64 i)]/\bl=[.dead 0]/\(AK i 0)/\tw (AZ ns)=T/\k=L.length)\/(∃(T:List LR) (o:List (el AY)) (mm i':Nat) (i:Int),vs=[.one (.sl AY L),.one (.sl (.sl AA) T),.one (.AM AY 113 0 0 mm),.one (.int .i64 i)]/\bl=[.arr 0 AY o]/\(AK i i'/\i'<=L.length/\mm=o.length)/\tw (AZ ns)=T/\o=(ns.take i').map (fun n=>nm (AZ ns,n.2))/\k=L.length-i')
   refine⟨[0,4,9,10],[113],J1,⟨L.length,by rw[a1];exact .inl ⟨0,rfl,rfl,Ah 0,by rw[<-List.take_of_length_le (show ns.length<=i' by omega)];exact h0,rfl⟩⟩,?_⟩;intro vs bl ba hj;rw[a1] at hj;rcases hj with⟨i,rfl,rfl,hi,d,aL⟩ |⟨o,mm,i',i,rfl,rfl,⟨hi,aS,ai⟩,d,hinv,aL⟩ |⟨T,i,rfl,rfl,hi,d,aL⟩ |⟨T,o,mm,i',i,rfl,rfl,⟨hi,aS,ai⟩,d,hinv,aL⟩
   ·conv=>cbv
    have ei:=hi.eq;obtain⟨i',aw⟩:=xN 0;have hT:=d.symm;rintro aM ⟨aJ,f69⟩;conv=>cbv
    intro an V;conv=>cbv
    cases an <;> conv=>cbv
    ·have al:=AR V;exact fA ⟨⟨rfl,.inr (.inl ⟨_,congrArg _ (by rw[hO,show ns=[] from List.eq_nil_of_length_eq_zero (by omega)];rfl)⟩),trivial⟩,t2,trivial⟩ rfl (by simp)
    have al:=AS V;refine .inr ?_;obtain⟨m,a⟩:=AG (l:=L) (i:=i') (by omega);refine⟨m,fun _=>⟨by omega,by rw[show (i).toNat=i' by omega];exact a⟩,?_⟩;try conv=>cbv
    obtain⟨u,y,g,N,s⟩:=C6 hL a;have t:=List.mem_of_getElem? s;have hu:TT u:=a2 _ t;have P:El u S y:=aC _ t;have ay:List.length (α:=LR) m.1=u.length:=by rw[g,Ay]
    have W:Aq u (AZ ns):=Eh G.toGam a2 _ t;obtain⟨H,p⟩:=xR (em (AZ ns) y);obtain⟨ad,v⟩:=CY (u<:+AZ ns);refine cL hE (Dv (G.AL c) (G.AL hu) hT g v) ⟨.inr ⟨_,rfl⟩,rfl,trivial⟩ ?_;try conv=>cbv
    refine .inr ?_;cases ad <;> conv=>cbv
    ·obtain⟨Z,A⟩:=AG (l:=L) (i:=i') (by omega);refine⟨Z,fun _=>⟨by omega,by rw[show (i).toNat=i' by omega];exact A⟩,?_⟩;try conv=>cbv
     have af:Z=m:=Option.some.inj (A.symm.trans a);obtain⟨ao,X⟩:=xV (tw (AZ ns));obtain⟨aq,x⟩:=xV (Bp (AZ ns) u);have w:=Ei (G.AL c).red (G.AL hu).red W;refine cL (r:= .AF [(false,[.sl (.sl AA) ao]),(false,[.sl (.sl AA) aq]),(false,[.int .i64 0])]) hE (EK G c hu hT (by rw[af];exact g) (by rw[w];exact X) x) ⟨.inr ⟨_,rfl⟩,rfl,trivial⟩ ?_;try conv=>cbv
     obtain⟨B,f⟩:=AG (l:=L) (i:=i') (by omega);refine⟨B,fun _=>⟨by omega,by rw[show (i).toNat=i' by omega];exact f⟩,?_⟩;try conv=>cbv
     have Q:B=m:=Option.some.inj (f.symm.trans a);refine cL (r:= .one (.sl AA H)) hE (Fb G.toGam c hu W hT (by rw[x];have:=EI (G.AL c).red (G.AL hu).red;rwa [w] at this) (by rw[Q];exact N) P p) ⟨.inr ⟨_,rfl⟩,rfl,rfl,trivial⟩ ?_;try conv=>cbv
     refine⟨[([],H)],fun _=>⟨rfl,by decide,rfl,⟨rfl,⟨.inr ⟨_,rfl⟩,rfl,trivial⟩,trivial⟩⟩,.inr ?_⟩;try conv=>cbv
     refine .inl ⟨[([],H)],fun _=>⟨rfl,by show (1)*48<=140737488355328;(try simp only[List.length_take,List.length_drop]);omega⟩,?_⟩;intro b U;conv=>cbv
     intro F ag;conv=>cbv
     refine g1 (by omega) ?_;refine⟨L.length-(i'+1),?_,?_⟩
     ·omega
     rw[a1];exact .inr (.inl ⟨_,b,i'+1,F,rfl,rfl,⟨⟨by omega⟩,by omega,U⟩,d,by rw[BJ s,List.map_append,aw];simp[nm,d,p],rfl⟩)
    obtain⟨Y,z⟩:=AG (l:=L) (i:=i') (by omega);refine⟨Y,fun _=>⟨by omega,by rw[show (i).toNat=i' by omega];exact z⟩,?_⟩;try conv=>cbv
    have ae:Y=m:=Option.some.inj (z.symm.trans a);refine cL (r:= .one (.sl AA H)) hE (FE (G.AL c) hT (by rw[ae];exact N) P.mem (v.1 rfl) p) ⟨.inr ⟨_,rfl⟩,rfl,trivial⟩ ?_;try conv=>cbv
    refine⟨[([],H)],fun _=>⟨rfl,by decide,rfl,⟨rfl,⟨.inr ⟨_,rfl⟩,rfl,trivial⟩,trivial⟩⟩,.inr ?_⟩;try conv=>cbv
    refine .inl ⟨[([],H)],fun _=>⟨rfl,by show (1)*48<=140737488355328;(try simp only[List.length_take,List.length_drop]);omega⟩,?_⟩;intro b U;conv=>cbv
    intro F ag;conv=>cbv
    refine g1 (by omega) ?_;refine⟨L.length-(i'+1),?_,?_⟩
    ·omega
    rw[a1];exact .inr (.inl ⟨_,b,i'+1,F,rfl,rfl,⟨⟨by omega⟩,by omega,U⟩,d,by rw[BJ s,List.map_append,aw];simp[nm,d,p],rfl⟩)
   ·conv=>cbv
    have ei:=hi.eq;have aY:o.length<=L.length:=by rw[hinv,List.length_map,List.length_take];omega
    have hT:=d.symm;rintro aM ⟨aJ,f69⟩;conv=>cbv
    intro an V;conv=>cbv
    cases an <;> conv=>cbv
    ·have al:=AR V;exact fA ⟨⟨rfl,.inl ⟨_,rfl,by omega,congrArg _ (by rw[hO,ai,hinv,List.drop_zero,List.take_length,List.take_of_length_le (show ns.length<=i' by omega)])⟩,trivial⟩,t2,trivial⟩ rfl (by simp)
    have al:=AS V;refine .inr ?_;obtain⟨m,a⟩:=AG (l:=L) (i:=i') (by omega);refine⟨m,fun _=>⟨by omega,by rw[show (i).toNat=i' by omega];exact a⟩,?_⟩;try conv=>cbv
    obtain⟨u,y,g,N,s⟩:=C6 hL a;have t:=List.mem_of_getElem? s;have hu:TT u:=a2 _ t;have P:El u S y:=aC _ t;have ay:List.length (α:=LR) m.1=u.length:=by rw[g,Ay]
    have W:Aq u (AZ ns):=Eh G.toGam a2 _ t;obtain⟨H,p⟩:=xR (em (AZ ns) y);obtain⟨ad,v⟩:=CY (u<:+AZ ns);refine cL hE (Dv (G.AL c) (G.AL hu) hT g v) ⟨.inr ⟨_,rfl⟩,rfl,trivial⟩ ?_;try conv=>cbv
    refine .inr ?_;cases ad <;> conv=>cbv
    ·obtain⟨Z,A⟩:=AG (l:=L) (i:=i') (by omega);refine⟨Z,fun _=>⟨by omega,by rw[show (i).toNat=i' by omega];exact A⟩,?_⟩;try conv=>cbv
     have af:Z=m:=Option.some.inj (A.symm.trans a);obtain⟨ao,X⟩:=xV (tw (AZ ns));obtain⟨aq,x⟩:=xV (Bp (AZ ns) u);have w:=Ei (G.AL c).red (G.AL hu).red W;refine cL (r:= .AF [(false,[.sl (.sl AA) ao]),(false,[.sl (.sl AA) aq]),(false,[.int .i64 0])]) hE (EK G c hu hT (by rw[af];exact g) (by rw[w];exact X) x) ⟨.inr ⟨_,rfl⟩,rfl,trivial⟩ ?_;try conv=>cbv
     obtain⟨B,f⟩:=AG (l:=L) (i:=i') (by omega);refine⟨B,fun _=>⟨by omega,by rw[show (i).toNat=i' by omega];exact f⟩,?_⟩;try conv=>cbv
     have Q:B=m:=Option.some.inj (f.symm.trans a);refine cL (r:= .one (.sl AA H)) hE (Fb G.toGam c hu W hT (by rw[x];have:=EI (G.AL c).red (G.AL hu).red;rwa [w] at this) (by rw[Q];exact N) P p) ⟨.inr ⟨_,rfl⟩,rfl,rfl,trivial⟩ ?_;try conv=>cbv
     refine⟨[([],H)],fun _=>⟨rfl,by decide,rfl,⟨rfl,⟨.inr ⟨_,rfl⟩,rfl,trivial⟩,trivial⟩⟩,.inr ?_⟩;try conv=>cbv
     refine .inl ⟨[([],H)],fun _=>⟨rfl,ai,rfl,by show (o.length+1)*48<=140737488355328;(try simp only[List.length_take,List.length_drop]);omega⟩,?_⟩;intro (h:List (el AY)) b j;have C:h=(o:List (el AY))++([([],H)]:List (el AY)):=j.1;have D:b=List.length (α:=(el AY)) h:=j.2;conv=>cbv
     intro F ag;conv=>cbv
     refine g1 (by omega) ?_;refine⟨L.length-(i'+1),?_,?_⟩
     ·omega
     rw[a1];exact .inr (.inl ⟨h,b,i'+1,F,rfl,rfl,⟨⟨by omega⟩,by omega,D⟩,d,by rw[C,hinv,BJ s,List.map_append];simp[nm,d,p],rfl⟩)
    obtain⟨Y,z⟩:=AG (l:=L) (i:=i') (by omega);refine⟨Y,fun _=>⟨by omega,by rw[show (i).toNat=i' by omega];exact z⟩,?_⟩;try conv=>cbv
    have ae:Y=m:=Option.some.inj (z.symm.trans a);refine cL (r:= .one (.sl AA H)) hE (FE (G.AL c) hT (by rw[ae];exact N) P.mem (v.1 rfl) p) ⟨.inr ⟨_,rfl⟩,rfl,trivial⟩ ?_;try conv=>cbv
    refine⟨[([],H)],fun _=>⟨rfl,by decide,rfl,⟨rfl,⟨.inr ⟨_,rfl⟩,rfl,trivial⟩,trivial⟩⟩,.inr ?_⟩;try conv=>cbv
    refine .inl ⟨[([],H)],fun _=>⟨rfl,ai,rfl,by show (o.length+1)*48<=140737488355328;(try simp only[List.length_take,List.length_drop]);omega⟩,?_⟩;intro (h:List (el AY)) b j;have C:h=(o:List (el AY))++([([],H)]:List (el AY)):=j.1;have D:b=List.length (α:=(el AY)) h:=j.2;conv=>cbv
    intro F ag;conv=>cbv
    refine g1 (by omega) ?_;refine⟨L.length-(i'+1),?_,?_⟩
    ·omega
    rw[a1];exact .inr (.inl ⟨h,b,i'+1,F,rfl,rfl,⟨⟨by omega⟩,by omega,D⟩,d,by rw[C,hinv,BJ s,List.map_append];simp[nm,d,p],rfl⟩)
   ·conv=>cbv
    have ei:=hi.eq;obtain⟨i',aw⟩:=xN 0;have hT:=d.symm;rintro aM ⟨aJ,f69⟩;conv=>cbv
    intro an V;conv=>cbv
    cases an <;> conv=>cbv
    ·have al:=AR V;exact fA ⟨⟨rfl,.inr (.inl ⟨_,congrArg _ (by rw[hO,show ns=[] from List.eq_nil_of_length_eq_zero (by omega)];rfl)⟩),trivial⟩,t2,trivial⟩ rfl (by simp)
    have al:=AS V;refine .inr ?_;obtain⟨m,a⟩:=AG (l:=L) (i:=i') (by omega);refine⟨m,fun _=>⟨by omega,by rw[show (i).toNat=i' by omega];exact a⟩,?_⟩;try conv=>cbv
    obtain⟨u,y,g,N,s⟩:=C6 hL a;have t:=List.mem_of_getElem? s;have hu:TT u:=a2 _ t;have P:El u S y:=aC _ t;have ay:List.length (α:=LR) m.1=u.length:=by rw[g,Ay]
    have W:Aq u (AZ ns):=Eh G.toGam a2 _ t;obtain⟨H,p⟩:=xR (em (AZ ns) y);obtain⟨ad,v⟩:=CY (u<:+AZ ns);refine cL hE (Dv (G.AL c) (G.AL hu) hT g v) t2 ?_;try conv=>cbv
    refine .inr ?_;cases ad <;> conv=>cbv
    ·obtain⟨Z,A⟩:=AG (l:=L) (i:=i') (by omega);refine⟨Z,fun _=>⟨by omega,by rw[show (i).toNat=i' by omega];exact A⟩,?_⟩;try conv=>cbv
     have af:Z=m:=Option.some.inj (A.symm.trans a);obtain⟨ao,X⟩:=xV (tw (AZ ns));obtain⟨aq,x⟩:=xV (Bp (AZ ns) u);have w:=Ei (G.AL c).red (G.AL hu).red W;refine cL (r:= .AF [(false,[.sl (.sl AA) ao]),(false,[.sl (.sl AA) aq]),(false,[.int .i64 0])]) hE (EK G c hu hT (by rw[af];exact g) (by rw[w];exact X) x) t2 ?_;try conv=>cbv
     obtain⟨B,f⟩:=AG (l:=L) (i:=i') (by omega);refine⟨B,fun _=>⟨by omega,by rw[show (i).toNat=i' by omega];exact f⟩,?_⟩;try conv=>cbv
     have Q:B=m:=Option.some.inj (f.symm.trans a);refine cL (r:= .one (.sl AA H)) hE (Fb G.toGam c hu W hT (by rw[x];have:=EI (G.AL c).red (G.AL hu).red;rwa [w] at this) (by rw[Q];exact N) P p) t3 ?_;try conv=>cbv
     refine⟨[(T,H)],fun _=>⟨rfl,by decide,rfl,⟨rfl,by first | exact t1 | exact t2 | exact t4 | simp[Ac,Ak,cells],trivial⟩⟩,.inr ?_⟩;try conv=>cbv
     refine .inl ⟨[(T,H)],fun _=>⟨rfl,by show (1)*48<=140737488355328;(try simp only[List.length_take,List.length_drop]);omega⟩,?_⟩;intro b U;conv=>cbv
     intro F ag;conv=>cbv
     refine g1 (by omega) ?_;refine⟨L.length-(i'+1),?_,?_⟩
     ·omega
     rw[a1];exact .inr (.inr (.inr ⟨T,_,b,i'+1,F,rfl,rfl,⟨⟨by omega⟩,by omega,U⟩,d,by rw[BJ s,List.map_append,aw];simp[nm,d,p],rfl⟩))
    obtain⟨Y,z⟩:=AG (l:=L) (i:=i') (by omega);refine⟨Y,fun _=>⟨by omega,by rw[show (i).toNat=i' by omega];exact z⟩,?_⟩;try conv=>cbv
    have ae:Y=m:=Option.some.inj (z.symm.trans a);refine cL (r:= .one (.sl AA H)) hE (FE (G.AL c) hT (by rw[ae];exact N) P.mem (v.1 rfl) p) t2 ?_;try conv=>cbv
    refine⟨[(T,H)],fun _=>⟨rfl,by decide,rfl,⟨rfl,by first | exact t1 | exact t2 | exact t4 | simp[Ac,Ak,cells],trivial⟩⟩,.inr ?_⟩;try conv=>cbv
    refine .inl ⟨[(T,H)],fun _=>⟨rfl,by show (1)*48<=140737488355328;(try simp only[List.length_take,List.length_drop]);omega⟩,?_⟩;intro b U;conv=>cbv
    intro F ag;conv=>cbv
    refine g1 (by omega) ?_;refine⟨L.length-(i'+1),?_,?_⟩
    ·omega
    rw[a1];exact .inr (.inr (.inr ⟨T,_,b,i'+1,F,rfl,rfl,⟨⟨by omega⟩,by omega,U⟩,d,by rw[BJ s,List.map_append,aw];simp[nm,d,p],rfl⟩))
   conv=>cbv
   have ei:=hi.eq;have aY:o.length<=L.length:=by rw[hinv,List.length_map,List.length_take];omega
   have hT:=d.symm;rintro aM ⟨aJ,f69⟩;conv=>cbv
   intro an V;conv=>cbv
   cases an <;> conv=>cbv
   ·have al:=AR V;exact fA ⟨⟨rfl,.inl ⟨_,rfl,by omega,congrArg _ (by rw[hO,ai,hinv,List.drop_zero,List.take_length,List.take_of_length_le (show ns.length<=i' by omega)])⟩,trivial⟩,t2,trivial⟩ rfl (by simp)
   have al:=AS V;refine .inr ?_;obtain⟨m,a⟩:=AG (l:=L) (i:=i') (by omega);refine⟨m,fun _=>⟨by omega,by rw[show (i).toNat=i' by omega];exact a⟩,?_⟩;try conv=>cbv
   obtain⟨u,y,g,N,s⟩:=C6 hL a;have t:=List.mem_of_getElem? s;have hu:TT u:=a2 _ t;have P:El u S y:=aC _ t;have ay:List.length (α:=LR) m.1=u.length:=by rw[g,Ay]
   have W:Aq u (AZ ns):=Eh G.toGam a2 _ t;obtain⟨H,p⟩:=xR (em (AZ ns) y);obtain⟨ad,v⟩:=CY (u<:+AZ ns);refine cL hE (Dv (G.AL c) (G.AL hu) hT g v) t2 ?_;try conv=>cbv
   refine .inr ?_;cases ad <;> conv=>cbv
   ·obtain⟨Z,A⟩:=AG (l:=L) (i:=i') (by omega);refine⟨Z,fun _=>⟨by omega,by rw[show (i).toNat=i' by omega];exact A⟩,?_⟩;try conv=>cbv
    have af:Z=m:=Option.some.inj (A.symm.trans a);obtain⟨ao,X⟩:=xV (tw (AZ ns));obtain⟨aq,x⟩:=xV (Bp (AZ ns) u);have w:=Ei (G.AL c).red (G.AL hu).red W;refine cL (r:= .AF [(false,[.sl (.sl AA) ao]),(false,[.sl (.sl AA) aq]),(false,[.int .i64 0])]) hE (EK G c hu hT (by rw[af];exact g) (by rw[w];exact X) x) t2 ?_;try conv=>cbv
    obtain⟨B,f⟩:=AG (l:=L) (i:=i') (by omega);refine⟨B,fun _=>⟨by omega,by rw[show (i).toNat=i' by omega];exact f⟩,?_⟩;try conv=>cbv
    have Q:B=m:=Option.some.inj (f.symm.trans a);refine cL (r:= .one (.sl AA H)) hE (Fb G.toGam c hu W hT (by rw[x];have:=EI (G.AL c).red (G.AL hu).red;rwa [w] at this) (by rw[Q];exact N) P p) t3 ?_;try conv=>cbv
    refine⟨[(T,H)],fun _=>⟨rfl,by decide,rfl,⟨rfl,by first | exact t1 | exact t2 | exact t4 | simp[Ac,Ak,cells],trivial⟩⟩,.inr ?_⟩;try conv=>cbv
    refine .inl ⟨[(T,H)],fun _=>⟨rfl,ai,rfl,by show (o.length+1)*48<=140737488355328;(try simp only[List.length_take,List.length_drop]);omega⟩,?_⟩;intro (h:List (el AY)) b j;have C:h=(o:List (el AY))++([(T,H)]:List (el AY)):=j.1;have D:b=List.length (α:=(el AY)) h:=j.2;conv=>cbv
    intro F ag;conv=>cbv
    refine g1 (by omega) ?_;refine⟨L.length-(i'+1),?_,?_⟩
    ·omega
    rw[a1];exact .inr (.inr (.inr ⟨T,h,b,i'+1,F,rfl,rfl,⟨⟨by omega⟩,by omega,D⟩,d,by rw[C,hinv,BJ s,List.map_append];simp[nm,d,p],rfl⟩))
   obtain⟨Y,z⟩:=AG (l:=L) (i:=i') (by omega);refine⟨Y,fun _=>⟨by omega,by rw[show (i).toNat=i' by omega];exact z⟩,?_⟩;try conv=>cbv
   have ae:Y=m:=Option.some.inj (z.symm.trans a);refine cL (r:= .one (.sl AA H)) hE (FE (G.AL c) hT (by rw[ae];exact N) P.mem (v.1 rfl) p) t2 ?_;try conv=>cbv
   refine⟨[(T,H)],fun _=>⟨rfl,by decide,rfl,⟨rfl,by first | exact t1 | exact t2 | exact t4 | simp[Ac,Ak,cells],trivial⟩⟩,.inr ?_⟩;try conv=>cbv
   refine .inl ⟨[(T,H)],fun _=>⟨rfl,ai,rfl,by show (o.length+1)*48<=140737488355328;(try simp only[List.length_take,List.length_drop]);omega⟩,?_⟩;intro (h:List (el AY)) b j;have C:h=(o:List (el AY))++([(T,H)]:List (el AY)):=j.1;have D:b=List.length (α:=(el AY)) h:=j.2;conv=>cbv
   intro F ag;conv=>cbv
   refine g1 (by omega) ?_;refine⟨L.length-(i'+1),?_,?_⟩
   ·omega
   rw[a1];exact .inr (.inr (.inr ⟨T,h,b,i'+1,F,rfl,rfl,⟨⟨by omega⟩,by omega,D⟩,d,by rw[C,hinv,BJ s,List.map_append];simp[nm,d,p],rfl⟩))
  have aZ:=AS aQ;refine .inr ?_;obtain⟨ab,M⟩:=AG (l:=L) (i:=i') (by omega);refine⟨ab,fun _=>⟨by omega,by rw[show (i).toNat=i' by omega];exact M⟩,?_⟩;try conv=>cbv
  obtain⟨u,y,g,N,s⟩:=C6 hL M;have t:=List.mem_of_getElem? s;have hu:TT u:=a2 _ t;have P:El u S y:=aC _ t;have ay:List.length (α:=LR) ab.1=u.length:=by rw[g,Ay]
  have ak:=KD s;unfold Bw at ak
  dsimp only at ak
  have ax:TT (AZ (ns.take i')):=G.AZ (fun n hn=>a2 n (List.mem_of_mem_take hn));rintro b2 ⟨aV,f26⟩;conv=>cbv
  have b6:b2=(u.length:Int):=aV.trans (congrArg (fun n:Nat=>(n:Int)) ay);intro b3 aR;conv=>cbv
  cases b3 <;> conv=>cbv
  ·have b0:=Bc aR;refine .inr ?_;obtain⟨aA,a8⟩:=AG (l:=L) (i:=i') (by omega);refine⟨aA,fun _=>⟨by omega,by rw[show (i).toNat=i' by omega];exact a8⟩,?_⟩;try conv=>cbv
   have aH:aA=ab:=Option.some.inj (a8.symm.trans M);obtain⟨aG,I⟩:=CY (u<:+(AZ (ns.take i')));refine cL (r:= .one (.bool aG)) hE (Dv (G.AL ax) (G.AL hu) ah (by rw[aH];exact g) I) ⟨.inr ⟨_,rfl⟩,rfl,trivial⟩ ?_;try conv=>cbv
   intro CL av;conv=>cbv
   refine .inr ?_;cases CL <;> conv=>cbv
   ·have a5:=Cr av;intro a6 aD;conv=>cbv
    refine g1 (by omega) ?_;refine⟨L.length-(i'+1),?_,?_⟩
    ·omega
    rw[au];exact .inl ⟨i'+1,a6,rfl,rfl,⟨⟨by omega⟩,by omega⟩,by rw[ak,if_pos (I.1 a5)];exact h0,rfl⟩
   have a5:=Cs av;obtain⟨aB,aa⟩:=AG (l:=L) (i:=i') (by omega);refine⟨aB,fun _=>⟨by omega,by rw[show (i).toNat=i' by omega];exact aa⟩,?_⟩;try conv=>cbv
   have aI:aB=ab:=Option.some.inj (aa.symm.trans M);obtain⟨aN,a7⟩:=xV (tw (ext (AZ (ns.take i')) u));obtain⟨aO,az⟩:=xV (Bp (AZ (ns.take i')) u);refine cL (r:= .AF [(false,[.sl (.sl AA) aN]),(false,[.sl (.sl AA) aO]),(false,[.int .i64 0])]) hE (EK G ax hu ah (by rw[aI];exact g) a7 az) ⟨.inr ⟨_,rfl⟩,rfl,trivial⟩ ?_;try conv=>cbv
   intro b4 aK;cases aK.trans (show _=false by decide);conv=>cbv
   intro a6 aD;conv=>cbv
   refine g1 (by omega) ?_;refine⟨L.length-(i'+1),?_,?_⟩
   ·omega
   rw[au];exact .inr ⟨_,i'+1,a6,rfl,rfl,⟨⟨by omega⟩,by omega⟩,by rw[ak,if_neg (fun q=>by have:=I.2 q;rw[a5] at this;cases this),if_neg (fun aj=>by first | (have:=ar.2 aj;cases this) | exact absurd (show u<:+AZ (List.take i' ns) from by rw[aj.eq_of_length_le (by omega)];exact List.suffix_refl _) (fun q=>by have:=I.2 q;rw[a5] at this;cases this)),a7],rfl⟩
  have b0:=Be aR;obtain⟨aT,aE⟩:=AG (l:=L) (i:=i') (by omega);refine⟨aT,fun _=>⟨by omega,by rw[show (i).toNat=i' by omega];exact aE⟩,?_⟩;try conv=>cbv
  have aW:aT=ab:=Option.some.inj (aE.symm.trans M);obtain⟨aP,ar⟩:=CY ((AZ (ns.take i'))<:+u);refine cL (r:= .one (.bool aP)) hE (Dv (G.AL hu) (G.AL ax) (by rw[aW];exact g) ah ar) ⟨rfl,.inr ⟨_,rfl⟩,trivial⟩ ?_;try conv=>cbv
  refine .inr ?_;cases aP <;> conv=>cbv
  ·obtain⟨aA,a8⟩:=AG (l:=L) (i:=i') (by omega);refine⟨aA,fun _=>⟨by omega,by rw[show (i).toNat=i' by omega];exact a8⟩,?_⟩;try conv=>cbv
   have aH:aA=ab:=Option.some.inj (a8.symm.trans M);obtain⟨aG,I⟩:=CY (u<:+(AZ (ns.take i')));refine cL (r:= .one (.bool aG)) hE (Dv (G.AL ax) (G.AL hu) ah (by rw[aH];exact g) I) ⟨.inr ⟨_,rfl⟩,rfl,trivial⟩ ?_;try conv=>cbv
   intro CL av;conv=>cbv
   refine .inr ?_;cases CL <;> conv=>cbv
   ·have a5:=Cr av;intro a6 aD;conv=>cbv
    refine g1 (by omega) ?_;refine⟨L.length-(i'+1),?_,?_⟩
    ·omega
    rw[au];exact .inl ⟨i'+1,a6,rfl,rfl,⟨⟨by omega⟩,by omega⟩,by rw[ak,if_pos (I.1 a5)];exact h0,rfl⟩
   have a5:=Cs av;obtain⟨aB,aa⟩:=AG (l:=L) (i:=i') (by omega);refine⟨aB,fun _=>⟨by omega,by rw[show (i).toNat=i' by omega];exact aa⟩,?_⟩;try conv=>cbv
   have aI:aB=ab:=Option.some.inj (aa.symm.trans M);obtain⟨aN,a7⟩:=xV (tw (ext (AZ (ns.take i')) u));obtain⟨aO,az⟩:=xV (Bp (AZ (ns.take i')) u);refine cL (r:= .AF [(false,[.sl (.sl AA) aN]),(false,[.sl (.sl AA) aO]),(false,[.int .i64 0])]) hE (EK G ax hu ah (by rw[aI];exact g) a7 az) ⟨.inr ⟨_,rfl⟩,rfl,trivial⟩ ?_;try conv=>cbv
   intro b4 aK;cases aK.trans (show _=false by decide);conv=>cbv
   intro a6 aD;conv=>cbv
   refine g1 (by omega) ?_;refine⟨L.length-(i'+1),?_,?_⟩
   ·omega
   rw[au];exact .inr ⟨_,i'+1,a6,rfl,rfl,⟨⟨by omega⟩,by omega⟩,by rw[ak,if_neg (fun q=>by have:=I.2 q;rw[a5] at this;cases this),if_neg (fun aj=>by first | (have:=ar.2 aj;cases this) | exact absurd (show u<:+AZ (List.take i' ns) from by rw[aj.eq_of_length_le (by omega)];exact List.suffix_refl _) (fun q=>by have:=I.2 q;rw[a5] at this;cases this)),a7],rfl⟩
  obtain⟨aU,aF⟩:=AG (l:=L) (i:=i') (by omega);refine⟨aU,fun _=>⟨by omega,by rw[show (i).toNat=i' by omega];exact aF⟩,?_⟩;try conv=>cbv
  have aX:aU=ab:=Option.some.inj (aF.symm.trans M);intro a6 aD;conv=>cbv
  refine g1 (by omega) ?_;refine⟨L.length-(i'+1),?_,?_⟩
  ·omega
  rw[au];exact .inr ⟨_,i'+1,a6,rfl,rfl,⟨⟨by omega⟩,by omega⟩,by rw[ak,if_neg (fun aj=>by have:=aj.length_le;omega),if_pos (ar.1 rfl),aX];exact g,rfl⟩
 conv=>cbv
 have ei:=hi.eq;have b5:(AZ (ns.take i')).length=List.length (α:=LR) Ti:=by rw[ah,Ay]
 rintro bb ⟨b7,f17⟩;conv=>cbv
 intro b1 aQ;conv=>cbv
 cases b1 <;> conv=>cbv
 ·have aZ:=AR aQ;refine .inr ?_;obtain⟨J1,a1⟩:=xJ fun vs bl k=>(∃(i:Int),vs=[.one (.sl AY L),.one .nil,.one .nil,.one (.int .i64 i)]/\bl=[.dead 0]/\(AK i 0)/\tw (AZ ns)=[]/\k=L.length)\/(∃(o:List (el AY)) (mm i':Nat) (i:Int),vs=[.one (.sl AY L),.one .nil,.one (.AM AY 113 0 0 mm),.one (.int .i64 i)]/\bl=[.arr 0 AY o]/\(AK i i'/\i'<=L.length/\mm=o.length)/\tw (AZ ns)=[]/\o=(ns.take i').map (fun n=>nm (AZ ns,n.2))/\k=L.length-i')\/(∃(T:List LR) (i:Int),vs=[.one (.sl AY L),.one (.sl (.sl AA) T),.one .nil,.one (.int .i64 i)]/\bl=[.dead 0]/\(AK i 0)/\tw (AZ ns)=T/\k=L.length)\/(∃(T:List LR) (o:List (el AY)) (mm i':Nat) (i:Int),vs=[.one (.sl AY L),.one (.sl (.sl AA) T),.one (.AM AY 113 0 0 mm),.one (.int .i64 i)]/\bl=[.arr 0 AY o]/\(AK i i'/\i'<=L.length/\mm=o.length)/\tw (AZ ns)=T/\o=(ns.take i').map (fun n=>nm (AZ ns,n.2))/\k=L.length-i')
  refine⟨[0,4,9,10],[113],J1,⟨L.length,by rw[a1];exact .inr (.inr (.inl ⟨Ti,0,rfl,rfl,Ah 0,by rw[ah,List.take_of_length_le (show ns.length<=i' by omega)],rfl⟩))⟩,?_⟩;intro vs bl ba hj;rw[a1] at hj;rcases hj with⟨i,rfl,rfl,hi,d,aL⟩ |⟨o,mm,i',i,rfl,rfl,⟨hi,aS,ai⟩,d,hinv,aL⟩ |⟨T,i,rfl,rfl,hi,d,aL⟩ |⟨T,o,mm,i',i,rfl,rfl,⟨hi,aS,ai⟩,d,hinv,aL⟩
  ·conv=>cbv
   have ei:=hi.eq;obtain⟨i',aw⟩:=xN 0;have hT:=d.symm;rintro aM ⟨aJ,f69⟩;conv=>cbv
   intro an V;conv=>cbv
   cases an <;> conv=>cbv
   ·have al:=AR V;exact fA ⟨⟨rfl,.inr (.inl ⟨_,congrArg _ (by rw[hO,show ns=[] from List.eq_nil_of_length_eq_zero (by omega)];rfl)⟩),trivial⟩,t2,trivial⟩ rfl (by simp)
   have al:=AS V;refine .inr ?_;obtain⟨m,a⟩:=AG (l:=L) (i:=i') (by omega);refine⟨m,fun _=>⟨by omega,by rw[show (i).toNat=i' by omega];exact a⟩,?_⟩;try conv=>cbv
   obtain⟨u,y,g,N,s⟩:=C6 hL a;have t:=List.mem_of_getElem? s;have hu:TT u:=a2 _ t;have P:El u S y:=aC _ t;have ay:List.length (α:=LR) m.1=u.length:=by rw[g,Ay]
   have W:Aq u (AZ ns):=Eh G.toGam a2 _ t;obtain⟨H,p⟩:=xR (em (AZ ns) y);obtain⟨ad,v⟩:=CY (u<:+AZ ns);refine cL hE (Dv (G.AL c) (G.AL hu) hT g v) ⟨.inr ⟨_,rfl⟩,rfl,trivial⟩ ?_;try conv=>cbv
   refine .inr ?_;cases ad <;> conv=>cbv
   ·obtain⟨Z,A⟩:=AG (l:=L) (i:=i') (by omega);refine⟨Z,fun _=>⟨by omega,by rw[show (i).toNat=i' by omega];exact A⟩,?_⟩;try conv=>cbv
    have af:Z=m:=Option.some.inj (A.symm.trans a);obtain⟨ao,X⟩:=xV (tw (AZ ns));obtain⟨aq,x⟩:=xV (Bp (AZ ns) u);have w:=Ei (G.AL c).red (G.AL hu).red W;refine cL (r:= .AF [(false,[.sl (.sl AA) ao]),(false,[.sl (.sl AA) aq]),(false,[.int .i64 0])]) hE (EK G c hu hT (by rw[af];exact g) (by rw[w];exact X) x) ⟨.inr ⟨_,rfl⟩,rfl,trivial⟩ ?_;try conv=>cbv
    obtain⟨B,f⟩:=AG (l:=L) (i:=i') (by omega);refine⟨B,fun _=>⟨by omega,by rw[show (i).toNat=i' by omega];exact f⟩,?_⟩;try conv=>cbv
    have Q:B=m:=Option.some.inj (f.symm.trans a);refine cL (r:= .one (.sl AA H)) hE (Fb G.toGam c hu W hT (by rw[x];have:=EI (G.AL c).red (G.AL hu).red;rwa [w] at this) (by rw[Q];exact N) P p) ⟨.inr ⟨_,rfl⟩,rfl,rfl,trivial⟩ ?_;try conv=>cbv
    refine⟨[([],H)],fun _=>⟨rfl,by decide,rfl,⟨rfl,⟨.inr ⟨_,rfl⟩,rfl,trivial⟩,trivial⟩⟩,.inr ?_⟩;try conv=>cbv
    refine .inl ⟨[([],H)],fun _=>⟨rfl,by show (1)*48<=140737488355328;(try simp only[List.length_take,List.length_drop]);omega⟩,?_⟩;intro b U;conv=>cbv
    intro F ag;conv=>cbv
    refine g1 (by omega) ?_;refine⟨L.length-(i'+1),?_,?_⟩
    ·omega
    rw[a1];exact .inr (.inl ⟨_,b,i'+1,F,rfl,rfl,⟨⟨by omega⟩,by omega,U⟩,d,by rw[BJ s,List.map_append,aw];simp[nm,d,p],rfl⟩)
   obtain⟨Y,z⟩:=AG (l:=L) (i:=i') (by omega);refine⟨Y,fun _=>⟨by omega,by rw[show (i).toNat=i' by omega];exact z⟩,?_⟩;try conv=>cbv
   have ae:Y=m:=Option.some.inj (z.symm.trans a);refine cL (r:= .one (.sl AA H)) hE (FE (G.AL c) hT (by rw[ae];exact N) P.mem (v.1 rfl) p) ⟨.inr ⟨_,rfl⟩,rfl,trivial⟩ ?_;try conv=>cbv
   refine⟨[([],H)],fun _=>⟨rfl,by decide,rfl,⟨rfl,⟨.inr ⟨_,rfl⟩,rfl,trivial⟩,trivial⟩⟩,.inr ?_⟩;try conv=>cbv
   refine .inl ⟨[([],H)],fun _=>⟨rfl,by show (1)*48<=140737488355328;(try simp only[List.length_take,List.length_drop]);omega⟩,?_⟩;intro b U;conv=>cbv
   intro F ag;conv=>cbv
   refine g1 (by omega) ?_;refine⟨L.length-(i'+1),?_,?_⟩
   ·omega
   rw[a1];exact .inr (.inl ⟨_,b,i'+1,F,rfl,rfl,⟨⟨by omega⟩,by omega,U⟩,d,by rw[BJ s,List.map_append,aw];simp[nm,d,p],rfl⟩)
  ·conv=>cbv
   have ei:=hi.eq;have aY:o.length<=L.length:=by rw[hinv,List.length_map,List.length_take];omega
   have hT:=d.symm;rintro aM ⟨aJ,f69⟩;conv=>cbv
   intro an V;conv=>cbv
   cases an <;> conv=>cbv
   ·have al:=AR V;exact fA ⟨⟨rfl,.inl ⟨_,rfl,by omega,congrArg _ (by rw[hO,ai,hinv,List.drop_zero,List.take_length,List.take_of_length_le (show ns.length<=i' by omega)])⟩,trivial⟩,t2,trivial⟩ rfl (by simp)
   have al:=AS V;refine .inr ?_;obtain⟨m,a⟩:=AG (l:=L) (i:=i') (by omega);refine⟨m,fun _=>⟨by omega,by rw[show (i).toNat=i' by omega];exact a⟩,?_⟩;try conv=>cbv
   obtain⟨u,y,g,N,s⟩:=C6 hL a;have t:=List.mem_of_getElem? s;have hu:TT u:=a2 _ t;have P:El u S y:=aC _ t;have ay:List.length (α:=LR) m.1=u.length:=by rw[g,Ay]
   have W:Aq u (AZ ns):=Eh G.toGam a2 _ t;obtain⟨H,p⟩:=xR (em (AZ ns) y);obtain⟨ad,v⟩:=CY (u<:+AZ ns);refine cL hE (Dv (G.AL c) (G.AL hu) hT g v) ⟨.inr ⟨_,rfl⟩,rfl,trivial⟩ ?_;try conv=>cbv
   refine .inr ?_;cases ad <;> conv=>cbv
   ·obtain⟨Z,A⟩:=AG (l:=L) (i:=i') (by omega);refine⟨Z,fun _=>⟨by omega,by rw[show (i).toNat=i' by omega];exact A⟩,?_⟩;try conv=>cbv
    have af:Z=m:=Option.some.inj (A.symm.trans a);obtain⟨ao,X⟩:=xV (tw (AZ ns));obtain⟨aq,x⟩:=xV (Bp (AZ ns) u);have w:=Ei (G.AL c).red (G.AL hu).red W;refine cL (r:= .AF [(false,[.sl (.sl AA) ao]),(false,[.sl (.sl AA) aq]),(false,[.int .i64 0])]) hE (EK G c hu hT (by rw[af];exact g) (by rw[w];exact X) x) ⟨.inr ⟨_,rfl⟩,rfl,trivial⟩ ?_;try conv=>cbv
    obtain⟨B,f⟩:=AG (l:=L) (i:=i') (by omega);refine⟨B,fun _=>⟨by omega,by rw[show (i).toNat=i' by omega];exact f⟩,?_⟩;try conv=>cbv
    have Q:B=m:=Option.some.inj (f.symm.trans a);refine cL (r:= .one (.sl AA H)) hE (Fb G.toGam c hu W hT (by rw[x];have:=EI (G.AL c).red (G.AL hu).red;rwa [w] at this) (by rw[Q];exact N) P p) ⟨.inr ⟨_,rfl⟩,rfl,rfl,trivial⟩ ?_;try conv=>cbv
    refine⟨[([],H)],fun _=>⟨rfl,by decide,rfl,⟨rfl,⟨.inr ⟨_,rfl⟩,rfl,trivial⟩,trivial⟩⟩,.inr ?_⟩;try conv=>cbv
    refine .inl ⟨[([],H)],fun _=>⟨rfl,ai,rfl,by show (o.length+1)*48<=140737488355328;(try simp only[List.length_take,List.length_drop]);omega⟩,?_⟩;intro (h:List (el AY)) b j;have C:h=(o:List (el AY))++([([],H)]:List (el AY)):=j.1;have D:b=List.length (α:=(el AY)) h:=j.2;conv=>cbv
    intro F ag;conv=>cbv
    refine g1 (by omega) ?_;refine⟨L.length-(i'+1),?_,?_⟩
    ·omega
    rw[a1];exact .inr (.inl ⟨h,b,i'+1,F,rfl,rfl,⟨⟨by omega⟩,by omega,D⟩,d,by rw[C,hinv,BJ s,List.map_append];simp[nm,d,p],rfl⟩)
   obtain⟨Y,z⟩:=AG (l:=L) (i:=i') (by omega);refine⟨Y,fun _=>⟨by omega,by rw[show (i).toNat=i' by omega];exact z⟩,?_⟩;try conv=>cbv
   have ae:Y=m:=Option.some.inj (z.symm.trans a);refine cL (r:= .one (.sl AA H)) hE (FE (G.AL c) hT (by rw[ae];exact N) P.mem (v.1 rfl) p) ⟨.inr ⟨_,rfl⟩,rfl,trivial⟩ ?_;try conv=>cbv
   refine⟨[([],H)],fun _=>⟨rfl,by decide,rfl,⟨rfl,⟨.inr ⟨_,rfl⟩,rfl,trivial⟩,trivial⟩⟩,.inr ?_⟩;try conv=>cbv
   refine .inl ⟨[([],H)],fun _=>⟨rfl,ai,rfl,by show (o.length+1)*48<=140737488355328;(try simp only[List.length_take,List.length_drop]);omega⟩,?_⟩;intro (h:List (el AY)) b j;have C:h=(o:List (el AY))++([([],H)]:List (el AY)):=j.1;have D:b=List.length (α:=(el AY)) h:=j.2;conv=>cbv
   intro F ag;conv=>cbv
   refine g1 (by omega) ?_;refine⟨L.length-(i'+1),?_,?_⟩
   ·omega
   rw[a1];exact .inr (.inl ⟨h,b,i'+1,F,rfl,rfl,⟨⟨by omega⟩,by omega,D⟩,d,by rw[C,hinv,BJ s,List.map_append];simp[nm,d,p],rfl⟩)
  ·conv=>cbv
   have ei:=hi.eq;obtain⟨i',aw⟩:=xN 0;have hT:=d.symm;rintro aM ⟨aJ,f69⟩;conv=>cbv
   intro an V;conv=>cbv
   cases an <;> conv=>cbv
   ·have al:=AR V;exact fA ⟨⟨rfl,.inr (.inl ⟨_,congrArg _ (by rw[hO,show ns=[] from List.eq_nil_of_length_eq_zero (by omega)];rfl)⟩),trivial⟩,t2,trivial⟩ rfl (by simp)
   have al:=AS V;refine .inr ?_;obtain⟨m,a⟩:=AG (l:=L) (i:=i') (by omega);refine⟨m,fun _=>⟨by omega,by rw[show (i).toNat=i' by omega];exact a⟩,?_⟩;try conv=>cbv
   obtain⟨u,y,g,N,s⟩:=C6 hL a;have t:=List.mem_of_getElem? s;have hu:TT u:=a2 _ t;have P:El u S y:=aC _ t;have ay:List.length (α:=LR) m.1=u.length:=by rw[g,Ay]
   have W:Aq u (AZ ns):=Eh G.toGam a2 _ t;obtain⟨H,p⟩:=xR (em (AZ ns) y);obtain⟨ad,v⟩:=CY (u<:+AZ ns);refine cL hE (Dv (G.AL c) (G.AL hu) hT g v) t2 ?_;try conv=>cbv
   refine .inr ?_;cases ad <;> conv=>cbv
   ·obtain⟨Z,A⟩:=AG (l:=L) (i:=i') (by omega);refine⟨Z,fun _=>⟨by omega,by rw[show (i).toNat=i' by omega];exact A⟩,?_⟩;try conv=>cbv
    have af:Z=m:=Option.some.inj (A.symm.trans a);obtain⟨ao,X⟩:=xV (tw (AZ ns));obtain⟨aq,x⟩:=xV (Bp (AZ ns) u);have w:=Ei (G.AL c).red (G.AL hu).red W;refine cL (r:= .AF [(false,[.sl (.sl AA) ao]),(false,[.sl (.sl AA) aq]),(false,[.int .i64 0])]) hE (EK G c hu hT (by rw[af];exact g) (by rw[w];exact X) x) t2 ?_;try conv=>cbv
    obtain⟨B,f⟩:=AG (l:=L) (i:=i') (by omega);refine⟨B,fun _=>⟨by omega,by rw[show (i).toNat=i' by omega];exact f⟩,?_⟩;try conv=>cbv
    have Q:B=m:=Option.some.inj (f.symm.trans a);refine cL (r:= .one (.sl AA H)) hE (Fb G.toGam c hu W hT (by rw[x];have:=EI (G.AL c).red (G.AL hu).red;rwa [w] at this) (by rw[Q];exact N) P p) t3 ?_;try conv=>cbv
    refine⟨[(T,H)],fun _=>⟨rfl,by decide,rfl,⟨rfl,by first | exact t1 | exact t2 | exact t4 | simp[Ac,Ak,cells],trivial⟩⟩,.inr ?_⟩;try conv=>cbv
    refine .inl ⟨[(T,H)],fun _=>⟨rfl,by show (1)*48<=140737488355328;(try simp only[List.length_take,List.length_drop]);omega⟩,?_⟩;intro b U;conv=>cbv
    intro F ag;conv=>cbv
    refine g1 (by omega) ?_;refine⟨L.length-(i'+1),?_,?_⟩
    ·omega
    rw[a1];exact .inr (.inr (.inr ⟨T,_,b,i'+1,F,rfl,rfl,⟨⟨by omega⟩,by omega,U⟩,d,by rw[BJ s,List.map_append,aw];simp[nm,d,p],rfl⟩))
   obtain⟨Y,z⟩:=AG (l:=L) (i:=i') (by omega);refine⟨Y,fun _=>⟨by omega,by rw[show (i).toNat=i' by omega];exact z⟩,?_⟩;try conv=>cbv
   have ae:Y=m:=Option.some.inj (z.symm.trans a);refine cL (r:= .one (.sl AA H)) hE (FE (G.AL c) hT (by rw[ae];exact N) P.mem (v.1 rfl) p) t2 ?_;try conv=>cbv
   refine⟨[(T,H)],fun _=>⟨rfl,by decide,rfl,⟨rfl,by first | exact t1 | exact t2 | exact t4 | simp[Ac,Ak,cells],trivial⟩⟩,.inr ?_⟩;try conv=>cbv
   refine .inl ⟨[(T,H)],fun _=>⟨rfl,by show (1)*48<=140737488355328;(try simp only[List.length_take,List.length_drop]);omega⟩,?_⟩;intro b U;conv=>cbv
   intro F ag;conv=>cbv
   refine g1 (by omega) ?_;refine⟨L.length-(i'+1),?_,?_⟩
   ·omega
   rw[a1];exact .inr (.inr (.inr ⟨T,_,b,i'+1,F,rfl,rfl,⟨⟨by omega⟩,by omega,U⟩,d,by rw[BJ s,List.map_append,aw];simp[nm,d,p],rfl⟩))
  conv=>cbv
  have ei:=hi.eq;have aY:o.length<=L.length:=by rw[hinv,List.length_map,List.length_take];omega
  have hT:=d.symm;rintro aM ⟨aJ,f69⟩;conv=>cbv
  intro an V;conv=>cbv
  cases an <;> conv=>cbv
  ·have al:=AR V;exact fA ⟨⟨rfl,.inl ⟨_,rfl,by omega,congrArg _ (by rw[hO,ai,hinv,List.drop_zero,List.take_length,List.take_of_length_le (show ns.length<=i' by omega)])⟩,trivial⟩,t2,trivial⟩ rfl (by simp)
  have al:=AS V;refine .inr ?_;obtain⟨m,a⟩:=AG (l:=L) (i:=i') (by omega);refine⟨m,fun _=>⟨by omega,by rw[show (i).toNat=i' by omega];exact a⟩,?_⟩;try conv=>cbv
  obtain⟨u,y,g,N,s⟩:=C6 hL a;have t:=List.mem_of_getElem? s;have hu:TT u:=a2 _ t;have P:El u S y:=aC _ t;have ay:List.length (α:=LR) m.1=u.length:=by rw[g,Ay]
  have W:Aq u (AZ ns):=Eh G.toGam a2 _ t;obtain⟨H,p⟩:=xR (em (AZ ns) y);obtain⟨ad,v⟩:=CY (u<:+AZ ns);refine cL hE (Dv (G.AL c) (G.AL hu) hT g v) t2 ?_;try conv=>cbv
  refine .inr ?_;cases ad <;> conv=>cbv
  ·obtain⟨Z,A⟩:=AG (l:=L) (i:=i') (by omega);refine⟨Z,fun _=>⟨by omega,by rw[show (i).toNat=i' by omega];exact A⟩,?_⟩;try conv=>cbv
   have af:Z=m:=Option.some.inj (A.symm.trans a);obtain⟨ao,X⟩:=xV (tw (AZ ns));obtain⟨aq,x⟩:=xV (Bp (AZ ns) u);have w:=Ei (G.AL c).red (G.AL hu).red W;refine cL (r:= .AF [(false,[.sl (.sl AA) ao]),(false,[.sl (.sl AA) aq]),(false,[.int .i64 0])]) hE (EK G c hu hT (by rw[af];exact g) (by rw[w];exact X) x) t2 ?_;try conv=>cbv
   obtain⟨B,f⟩:=AG (l:=L) (i:=i') (by omega);refine⟨B,fun _=>⟨by omega,by rw[show (i).toNat=i' by omega];exact f⟩,?_⟩;try conv=>cbv
   have Q:B=m:=Option.some.inj (f.symm.trans a);refine cL (r:= .one (.sl AA H)) hE (Fb G.toGam c hu W hT (by rw[x];have:=EI (G.AL c).red (G.AL hu).red;rwa [w] at this) (by rw[Q];exact N) P p) t3 ?_;try conv=>cbv
   refine⟨[(T,H)],fun _=>⟨rfl,by decide,rfl,⟨rfl,by first | exact t1 | exact t2 | exact t4 | simp[Ac,Ak,cells],trivial⟩⟩,.inr ?_⟩;try conv=>cbv
   refine .inl ⟨[(T,H)],fun _=>⟨rfl,ai,rfl,by show (o.length+1)*48<=140737488355328;(try simp only[List.length_take,List.length_drop]);omega⟩,?_⟩;intro (h:List (el AY)) b j;have C:h=(o:List (el AY))++([(T,H)]:List (el AY)):=j.1;have D:b=List.length (α:=(el AY)) h:=j.2;conv=>cbv
   intro F ag;conv=>cbv
   refine g1 (by omega) ?_;refine⟨L.length-(i'+1),?_,?_⟩
   ·omega
   rw[a1];exact .inr (.inr (.inr ⟨T,h,b,i'+1,F,rfl,rfl,⟨⟨by omega⟩,by omega,D⟩,d,by rw[C,hinv,BJ s,List.map_append];simp[nm,d,p],rfl⟩))
  obtain⟨Y,z⟩:=AG (l:=L) (i:=i') (by omega);refine⟨Y,fun _=>⟨by omega,by rw[show (i).toNat=i' by omega];exact z⟩,?_⟩;try conv=>cbv
  have ae:Y=m:=Option.some.inj (z.symm.trans a);refine cL (r:= .one (.sl AA H)) hE (FE (G.AL c) hT (by rw[ae];exact N) P.mem (v.1 rfl) p) t2 ?_;try conv=>cbv
  refine⟨[(T,H)],fun _=>⟨rfl,by decide,rfl,⟨rfl,by first | exact t1 | exact t2 | exact t4 | simp[Ac,Ak,cells],trivial⟩⟩,.inr ?_⟩;try conv=>cbv
  refine .inl ⟨[(T,H)],fun _=>⟨rfl,ai,rfl,by show (o.length+1)*48<=140737488355328;(try simp only[List.length_take,List.length_drop]);omega⟩,?_⟩;intro (h:List (el AY)) b j;have C:h=(o:List (el AY))++([(T,H)]:List (el AY)):=j.1;have D:b=List.length (α:=(el AY)) h:=j.2;conv=>cbv
  intro F ag;conv=>cbv
  refine g1 (by omega) ?_;refine⟨L.length-(i'+1),?_,?_⟩
  ·omega
  rw[a1];exact .inr (.inr (.inr ⟨T,h,b,i'+1,F,rfl,rfl,⟨⟨by omega⟩,by omega,D⟩,d,by rw[C,hinv,BJ s,List.map_append];simp[nm,d,p],rfl⟩))
 have aZ:=AS aQ;refine .inr ?_;obtain⟨ab,M⟩:=AG (l:=L) (i:=i') (by omega);refine⟨ab,fun _=>⟨by omega,by rw[show (i).toNat=i' by omega];exact M⟩,?_⟩;try conv=>cbv
 obtain⟨u,y,g,N,s⟩:=C6 hL M;have t:=List.mem_of_getElem? s;have hu:TT u:=a2 _ t;have P:El u S y:=aC _ t;have ay:List.length (α:=LR) ab.1=u.length:=by rw[g,Ay]
 have ak:=KD s;unfold Bw at ak
 dsimp only at ak
 have ax:TT (AZ (ns.take i')):=G.AZ (fun n hn=>a2 n (List.mem_of_mem_take hn));rintro b2 ⟨aV,f26⟩;conv=>cbv
 have b6:b2=(u.length:Int):=aV.trans (congrArg (fun n:Nat=>(n:Int)) ay);rintro bc ⟨b8,f28⟩;conv=>cbv
 have bd:bc=((AZ (ns.take i')).length:Int):=b8.trans (congrArg (fun n:Nat=>(n:Int)) b5.symm);intro b3 aR;conv=>cbv
 cases b3 <;> conv=>cbv
 ·have b0:=Bc aR;refine .inr ?_;obtain⟨aA,a8⟩:=AG (l:=L) (i:=i') (by omega);refine⟨aA,fun _=>⟨by omega,by rw[show (i).toNat=i' by omega];exact a8⟩,?_⟩;try conv=>cbv
  have aH:aA=ab:=Option.some.inj (a8.symm.trans M);obtain⟨aG,I⟩:=CY (u<:+(AZ (ns.take i')));refine cL (r:= .one (.bool aG)) hE (Dv (G.AL ax) (G.AL hu) ah (by rw[aH];exact g) I) t2 ?_;try conv=>cbv
  intro CL av;conv=>cbv
  refine .inr ?_;cases CL <;> conv=>cbv
  ·have a5:=Cr av;intro a6 aD;conv=>cbv
   refine g1 (by omega) ?_;refine⟨L.length-(i'+1),?_,?_⟩
   ·omega
   rw[au];exact .inr ⟨_,i'+1,a6,rfl,rfl,⟨⟨by omega⟩,by omega⟩,by rw[ak,if_pos (I.1 a5),<-ah],rfl⟩
  have a5:=Cs av;obtain⟨aB,aa⟩:=AG (l:=L) (i:=i') (by omega);refine⟨aB,fun _=>⟨by omega,by rw[show (i).toNat=i' by omega];exact aa⟩,?_⟩;try conv=>cbv
  have aI:aB=ab:=Option.some.inj (aa.symm.trans M);obtain⟨aN,a7⟩:=xV (tw (ext (AZ (ns.take i')) u));obtain⟨aO,az⟩:=xV (Bp (AZ (ns.take i')) u);refine cL (r:= .AF [(false,[.sl (.sl AA) aN]),(false,[.sl (.sl AA) aO]),(false,[.int .i64 0])]) hE (EK G ax hu ah (by rw[aI];exact g) a7 az) t2 ?_;try conv=>cbv
  intro b4 aK;cases aK.trans (show _=false by decide);conv=>cbv
  intro a6 aD;conv=>cbv
  refine g1 (by omega) ?_;refine⟨L.length-(i'+1),?_,?_⟩
  ·omega
  rw[au];exact .inr ⟨_,i'+1,a6,rfl,rfl,⟨⟨by omega⟩,by omega⟩,by rw[ak,if_neg (fun q=>by have:=I.2 q;rw[a5] at this;cases this),if_neg (fun aj=>by first | (have:=ar.2 aj;cases this) | exact absurd (show u<:+AZ (List.take i' ns) from by rw[aj.eq_of_length_le (by omega)];exact List.suffix_refl _) (fun q=>by have:=I.2 q;rw[a5] at this;cases this)),a7],rfl⟩
 have b0:=Be aR;obtain⟨aT,aE⟩:=AG (l:=L) (i:=i') (by omega);refine⟨aT,fun _=>⟨by omega,by rw[show (i).toNat=i' by omega];exact aE⟩,?_⟩;try conv=>cbv
 have aW:aT=ab:=Option.some.inj (aE.symm.trans M);obtain⟨aP,ar⟩:=CY ((AZ (ns.take i'))<:+u);refine cL (r:= .one (.bool aP)) hE (Dv (G.AL hu) (G.AL ax) (by rw[aW];exact g) ah ar) t2 ?_;try conv=>cbv
 refine .inr ?_;cases aP <;> conv=>cbv
 ·obtain⟨aA,a8⟩:=AG (l:=L) (i:=i') (by omega);refine⟨aA,fun _=>⟨by omega,by rw[show (i).toNat=i' by omega];exact a8⟩,?_⟩;try conv=>cbv
  have aH:aA=ab:=Option.some.inj (a8.symm.trans M);obtain⟨aG,I⟩:=CY (u<:+(AZ (ns.take i')));refine cL (r:= .one (.bool aG)) hE (Dv (G.AL ax) (G.AL hu) ah (by rw[aH];exact g) I) t2 ?_;try conv=>cbv
  intro CL av;conv=>cbv
  refine .inr ?_;cases CL <;> conv=>cbv
  ·have a5:=Cr av;intro a6 aD;conv=>cbv
   refine g1 (by omega) ?_;refine⟨L.length-(i'+1),?_,?_⟩
   ·omega
   rw[au];exact .inr ⟨_,i'+1,a6,rfl,rfl,⟨⟨by omega⟩,by omega⟩,by rw[ak,if_pos (I.1 a5),<-ah],rfl⟩
  have a5:=Cs av;obtain⟨aB,aa⟩:=AG (l:=L) (i:=i') (by omega);refine⟨aB,fun _=>⟨by omega,by rw[show (i).toNat=i' by omega];exact aa⟩,?_⟩;try conv=>cbv
  have aI:aB=ab:=Option.some.inj (aa.symm.trans M);obtain⟨aN,a7⟩:=xV (tw (ext (AZ (ns.take i')) u));obtain⟨aO,az⟩:=xV (Bp (AZ (ns.take i')) u);refine cL (r:= .AF [(false,[.sl (.sl AA) aN]),(false,[.sl (.sl AA) aO]),(false,[.int .i64 0])]) hE (EK G ax hu ah (by rw[aI];exact g) a7 az) t2 ?_;try conv=>cbv
  intro b4 aK;cases aK.trans (show _=false by decide);conv=>cbv
  intro a6 aD;conv=>cbv
  refine g1 (by omega) ?_;refine⟨L.length-(i'+1),?_,?_⟩
  ·omega
  rw[au];exact .inr ⟨_,i'+1,a6,rfl,rfl,⟨⟨by omega⟩,by omega⟩,by rw[ak,if_neg (fun q=>by have:=I.2 q;rw[a5] at this;cases this),if_neg (fun aj=>by first | (have:=ar.2 aj;cases this) | exact absurd (show u<:+AZ (List.take i' ns) from by rw[aj.eq_of_length_le (by omega)];exact List.suffix_refl _) (fun q=>by have:=I.2 q;rw[a5] at this;cases this)),a7],rfl⟩
 obtain⟨aU,aF⟩:=AG (l:=L) (i:=i') (by omega);refine⟨aU,fun _=>⟨by omega,by rw[show (i).toNat=i' by omega];exact aF⟩,?_⟩;try conv=>cbv
 have aX:aU=ab:=Option.some.inj (aF.symm.trans M);intro a6 aD;conv=>cbv
 refine g1 (by omega) ?_;refine⟨L.length-(i'+1),?_,?_⟩
 ·omega
 rw[au];exact .inr ⟨_,i'+1,a6,rfl,rfl,⟨⟨by omega⟩,by omega⟩,by rw[ak,if_neg (fun aj=>by have:=aj.length_le;omega),if_pos (ar.1 rfl),aX];exact g,rfl⟩
end Go.Abs
