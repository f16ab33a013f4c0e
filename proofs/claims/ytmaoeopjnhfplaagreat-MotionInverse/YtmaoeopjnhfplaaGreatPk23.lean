/- Part 24 of a proof. Conditions: each theorem's own. -/
import Derived.Test.YtmaoeopjnhfplaaGreatPk22
set_option linter.all false
set_option maxHeartbeats 8000000
set_option maxRecDepth 20000
open Go.Proofs
namespace Go.Abs
open Go.RowKit
theorem iI {TT:List (List Rat)->Prop} {R K S:Nat} (G:EM TT R K S) {L:List (el Bc)} {ns:List (List (List Rat)×Re)} (a5:∀n∈ns,TT n.1) (hL:L=ns.map nm) (aD:∀n∈ns,El n.1 S n.2) (hlen:ns.length<=1000000) {O:List (el Bc)} (hO:O=ns.map (fun n=>nm (Bf ns,n.2))):CF 288 [.one (.sl Bc L)] (.AI [(false,[.sl Bc O]),(false,[.int .i64 0])]):=by
 have bd:L.length=ns.length:=by rw[hL,List.length_map]
 have c:TT (Bf ns):=G.Bf a5;refine Av Tryz.func288 fun E hE=>?_
 conv=>cbv
 refine .inr ?_
 obtain⟨J0,av⟩:∃J:List AV->List BA->Nat->Prop,J=fun vs bl k=>(∃(i':Nat) (i:Int),vs=[.one (.sl Bc L),.one .nil,.one (.int .i64 i)]/\bl=[]/\(BG i i'/\i'<=L.length)/\tw (Bf (ns.take i'))=[]/\k=L.length-i')\/
  (∃(Ti:List LR) (i':Nat) (i:Int),vs=[.one (.sl Bc L),.one (.sl (.sl AA) Ti),.one (.int .i64 i)]/\bl=[]/\(BG i i'/\i'<=L.length)/\Ti=tw (Bf (ns.take i'))/\k=L.length-i'):=⟨_,rfl⟩
 refine⟨[0,4,5],[],J0,⟨L.length,by rw[av];exact .inl ⟨0,0,rfl,rfl,⟨Bv 0,by omega⟩,rfl,rfl⟩⟩,?_⟩;intro vs bl bf hj;rw[av] at hj;rcases hj with⟨i',i,rfl,rfl,⟨hi,aS⟩,h0,b8⟩ |⟨Ti,i',i,rfl,rfl,⟨hi,aS⟩,ai,b8⟩
 ·conv=>cbv
  have ei:=hi.eq;have ai:=h0.symm;have b4:(Bf (ns.take i')).length=0:=by rw[<-CI,h0];rfl
  rintro ba ⟨b6,f17⟩;conv=>cbv
  intro b1 aQ;conv=>cbv
  cases b1 <;> conv=>cbv
  ·have aZ:=BX aQ;refine .inr ?_;obtain⟨J1,a2⟩:=xJ fun vs bl k=>(∃(i:Int),vs=[.one (.sl Bc L),.one .nil,.one .nil,.one (.int .i64 i)]/\bl=[.dead 0]/\(BG i 0)/\tw (Bf ns)=[]/\k=L.length)\/(∃(o:List (el Bc)) (mm i':Nat) (i:Int),vs=[.one (.sl Bc L),.one .nil,.one (.BI Bc 113 0 0 mm),.one (.int .i64 i)]/\bl=[.arr 0 Bc o]/\(BG i i'/\i'<=L.length/\mm=o.length)/\tw (Bf ns)=[]/\o=(ns.take i').map (fun n=>nm (Bf ns,n.2))/\k=L.length-i')\/(∃(T:List LR) (i:Int),vs=[.one (.sl Bc L),.one (.sl (.sl AA) T),.one .nil,.one (.int .i64 i)]/\bl=[.dead 0]/\(BG i 0)/\tw (Bf ns)=T/\k=L.length)\/(∃(T:List LR) (o:List (el Bc)) (mm i':Nat) (i:Int),vs=[.one (.sl Bc L),.one (.sl (.sl AA) T),.one (.BI Bc 113 0 0 mm),.one (.int .i64 i)]/\bl=[.arr 0 Bc o]/\(BG i i'/\i'<=L.length/\mm=o.length)/\tw (Bf ns)=T/\o=(ns.take i').map (fun n=>nm (Bf ns,n.2))/\k=L.length-i')
   refine⟨[0,4,9,10],[113],J1,⟨L.length,by rw[a2];exact .inl ⟨0,rfl,rfl,Bv 0,by rw[<-List.take_of_length_le (show ns.length<=i' by omega)];exact h0,rfl⟩⟩,?_⟩;intro vs bl b9 hj;rw[a2] at hj;rcases hj with⟨i,rfl,rfl,hi,d,aL⟩ |⟨o,mm,i',i,rfl,rfl,⟨hi,aS,aj⟩,d,hinv,aL⟩ |⟨T,i,rfl,rfl,hi,d,aL⟩ |⟨T,o,mm,i',i,rfl,rfl,⟨hi,aS,aj⟩,d,hinv,aL⟩
   ·conv=>cbv
    have ei:=hi.eq;obtain⟨i',ax⟩:=xN 0;have hT:=d.symm;rintro aM ⟨aK,f69⟩;conv=>cbv
    intro ao W;conv=>cbv
    cases ao <;> conv=>cbv
    ·have an:=BX W;exact AF ⟨⟨rfl,.inr (.inl ⟨_,congrArg _ (by rw[hO,show ns=[] from List.eq_nil_of_length_eq_zero (by omega)];rfl)⟩),trivial⟩,t2,trivial⟩
    have an:=BY W;refine .inr ?_;obtain⟨m,a⟩:=Ao (l:=L) (i:=i') (by omega);refine⟨m,fun _=>⟨by omega,by rw[show (i).toNat=i' by omega];exact a⟩,?_⟩;try conv=>cbv
    obtain⟨u,y,g,N,s⟩:=GK hL a;have t:=List.mem_of_getElem? s;have hu:TT u:=a5 _ t;have P:El u S y:=aD _ t;have az:List.length (α:=LR) m.1=u.length:=by rw[g,CI]
    have X:Bl u (Bf ns):=Io G.toGam a5 _ t;obtain⟨H,p⟩:=xR (em (Bf ns) y);obtain⟨ae,v⟩:=Ep (u<:+Bf ns);refine cL hE (Ha (G.BJ c) (G.BJ hu) hT g v) ⟨.inr ⟨_,rfl⟩,rfl,trivial⟩ ?_;try conv=>cbv
    refine .inr ?_;cases ae <;> conv=>cbv
    ·obtain⟨a1,A⟩:=Ao (l:=L) (i:=i') (by omega);refine⟨a1,fun _=>⟨by omega,by rw[show (i).toNat=i' by omega];exact A⟩,?_⟩;try conv=>cbv
     have ag:a1=m:=Option.some.inj (A.symm.trans a);obtain⟨aq,Y⟩:=xV (tw (Bf ns));obtain⟨ar,x⟩:=xV (EO (Bf ns) u);have w:=Ip (G.BJ c).red (G.BJ hu).red X;refine cL (r:= .AI [(false,[.sl (.sl AA) aq]),(false,[.sl (.sl AA) ar]),(false,[.int .i64 0])]) hE (IB G c hu hT (by rw[ag];exact g) (by rw[w];exact Y) x) ⟨.inr ⟨_,rfl⟩,rfl,trivial⟩ ?_;try conv=>cbv
     obtain⟨B,f⟩:=Ao (l:=L) (i:=i') (by omega);refine⟨B,fun _=>⟨by omega,by rw[show (i).toNat=i' by omega];exact f⟩,?_⟩;try conv=>cbv
     have Q:B=m:=Option.some.inj (f.symm.trans a);refine cL (r:= .one (.sl AA H)) hE (Jy G.toGam c hu X hT (by rw[x];have:=H6 (G.BJ c).red (G.BJ hu).red;rwa [w] at this) (by rw[Q];exact N) P p) ⟨.inr ⟨_,rfl⟩,rfl,rfl,trivial⟩ ?_;try conv=>cbv
     refine⟨[([],H)],fun _=>⟨rfl,by decide,rfl,⟨rfl,⟨.inr ⟨_,rfl⟩,rfl,trivial⟩,trivial⟩⟩,.inr ?_⟩;try conv=>cbv
     refine .inl ⟨[([],H)],fun _=>⟨rfl,by show (1)*48<=140737488355328;(try simp only[List.length_take,List.length_drop]);omega⟩,?_⟩;intro b U;conv=>cbv
     intro F ah;conv=>cbv
     refine Ah ?_;refine⟨L.length-(i'+1),?_,?_⟩
     ·omega
     rw[a2];exact .inr (.inl ⟨_,b,i'+1,F,rfl,rfl,⟨⟨by omega⟩,by omega,U⟩,d,by rw[Cb s,List.map_append,ax];simp[nm,d,p],rfl⟩)
    obtain⟨Z,z⟩:=Ao (l:=L) (i:=i') (by omega);refine⟨Z,fun _=>⟨by omega,by rw[show (i).toNat=i' by omega];exact z⟩,?_⟩;try conv=>cbv
    have af:Z=m:=Option.some.inj (z.symm.trans a);refine cL (r:= .one (.sl AA H)) hE (JM (G.BJ c) hT (by rw[af];exact N) P.mem (v.1 rfl) p) ⟨.inr ⟨_,rfl⟩,rfl,trivial⟩ ?_;try conv=>cbv
    refine⟨[([],H)],fun _=>⟨rfl,by decide,rfl,⟨rfl,⟨.inr ⟨_,rfl⟩,rfl,trivial⟩,trivial⟩⟩,.inr ?_⟩;try conv=>cbv
    refine .inl ⟨[([],H)],fun _=>⟨rfl,by show (1)*48<=140737488355328;(try simp only[List.length_take,List.length_drop]);omega⟩,?_⟩;intro b U;conv=>cbv
    intro F ah;conv=>cbv
    refine Ah ?_;refine⟨L.length-(i'+1),?_,?_⟩
    ·omega
    rw[a2];exact .inr (.inl ⟨_,b,i'+1,F,rfl,rfl,⟨⟨by omega⟩,by omega,U⟩,d,by rw[Cb s,List.map_append,ax];simp[nm,d,p],rfl⟩)
   ·conv=>cbv
    have ei:=hi.eq;have aY:o.length<=L.length:=by rw[hinv,List.length_map,List.length_take];omega
    have hT:=d.symm;rintro aM ⟨aK,f69⟩;conv=>cbv
    intro ao W;conv=>cbv
    cases ao <;> conv=>cbv
    ·have an:=BX W;exact AF ⟨⟨rfl,.inl ⟨_,rfl,by omega,congrArg _ (by rw[hO,aj,hinv,List.drop_zero,List.take_length,List.take_of_length_le (show ns.length<=i' by omega)])⟩,trivial⟩,t2,trivial⟩
    have an:=BY W;refine .inr ?_;obtain⟨m,a⟩:=Ao (l:=L) (i:=i') (by omega);refine⟨m,fun _=>⟨by omega,by rw[show (i).toNat=i' by omega];exact a⟩,?_⟩;try conv=>cbv
    obtain⟨u,y,g,N,s⟩:=GK hL a;have t:=List.mem_of_getElem? s;have hu:TT u:=a5 _ t;have P:El u S y:=aD _ t;have az:List.length (α:=LR) m.1=u.length:=by rw[g,CI]
    have X:Bl u (Bf ns):=Io G.toGam a5 _ t;obtain⟨H,p⟩:=xR (em (Bf ns) y);obtain⟨ae,v⟩:=Ep (u<:+Bf ns);refine cL hE (Ha (G.BJ c) (G.BJ hu) hT g v) ⟨.inr ⟨_,rfl⟩,rfl,trivial⟩ ?_;try conv=>cbv
    refine .inr ?_;cases ae <;> conv=>cbv
    ·obtain⟨a1,A⟩:=Ao (l:=L) (i:=i') (by omega);refine⟨a1,fun _=>⟨by omega,by rw[show (i).toNat=i' by omega];exact A⟩,?_⟩;try conv=>cbv
     have ag:a1=m:=Option.some.inj (A.symm.trans a);obtain⟨aq,Y⟩:=xV (tw (Bf ns));obtain⟨ar,x⟩:=xV (EO (Bf ns) u);have w:=Ip (G.BJ c).red (G.BJ hu).red X;refine cL (r:= .AI [(false,[.sl (.sl AA) aq]),(false,[.sl (.sl AA) ar]),(false,[.int .i64 0])]) hE (IB G c hu hT (by rw[ag];exact g) (by rw[w];exact Y) x) ⟨.inr ⟨_,rfl⟩,rfl,trivial⟩ ?_;try conv=>cbv
     obtain⟨B,f⟩:=Ao (l:=L) (i:=i') (by omega);refine⟨B,fun _=>⟨by omega,by rw[show (i).toNat=i' by omega];exact f⟩,?_⟩;try conv=>cbv
     have Q:B=m:=Option.some.inj (f.symm.trans a);refine cL (r:= .one (.sl AA H)) hE (Jy G.toGam c hu X hT (by rw[x];have:=H6 (G.BJ c).red (G.BJ hu).red;rwa [w] at this) (by rw[Q];exact N) P p) ⟨.inr ⟨_,rfl⟩,rfl,rfl,trivial⟩ ?_;try conv=>cbv
     refine⟨[([],H)],fun _=>⟨rfl,by decide,rfl,⟨rfl,⟨.inr ⟨_,rfl⟩,rfl,trivial⟩,trivial⟩⟩,.inr ?_⟩;try conv=>cbv
     refine .inl ⟨[([],H)],fun _=>⟨rfl,aj,rfl,by show (o.length+1)*48<=140737488355328;(try simp only[List.length_take,List.length_drop]);omega⟩,?_⟩;intro (h:List (el Bc)) b j;have C:h=(o:List (el Bc))++([([],H)]:List (el Bc)):=j.1;have D:b=List.length (α:=(el Bc)) h:=j.2;conv=>cbv
     intro F ah;conv=>cbv
     refine Ah ?_;refine⟨L.length-(i'+1),?_,?_⟩
     ·omega
     rw[a2];exact .inr (.inl ⟨h,b,i'+1,F,rfl,rfl,⟨⟨by omega⟩,by omega,D⟩,d,by rw[C,hinv,Cb s,List.map_append];simp[nm,d,p],rfl⟩)
    obtain⟨Z,z⟩:=Ao (l:=L) (i:=i') (by omega);refine⟨Z,fun _=>⟨by omega,by rw[show (i).toNat=i' by omega];exact z⟩,?_⟩;try conv=>cbv
    have af:Z=m:=Option.some.inj (z.symm.trans a);refine cL (r:= .one (.sl AA H)) hE (JM (G.BJ c) hT (by rw[af];exact N) P.mem (v.1 rfl) p) ⟨.inr ⟨_,rfl⟩,rfl,trivial⟩ ?_;try conv=>cbv
    refine⟨[([],H)],fun _=>⟨rfl,by decide,rfl,⟨rfl,⟨.inr ⟨_,rfl⟩,rfl,trivial⟩,trivial⟩⟩,.inr ?_⟩;try conv=>cbv
    refine .inl ⟨[([],H)],fun _=>⟨rfl,aj,rfl,by show (o.length+1)*48<=140737488355328;(try simp only[List.length_take,List.length_drop]);omega⟩,?_⟩;intro (h:List (el Bc)) b j;have C:h=(o:List (el Bc))++([([],H)]:List (el Bc)):=j.1;have D:b=List.length (α:=(el Bc)) h:=j.2;conv=>cbv
    intro F ah;conv=>cbv
    refine Ah ?_;refine⟨L.length-(i'+1),?_,?_⟩
    ·omega
    rw[a2];exact .inr (.inl ⟨h,b,i'+1,F,rfl,rfl,⟨⟨by omega⟩,by omega,D⟩,d,by rw[C,hinv,Cb s,List.map_append];simp[nm,d,p],rfl⟩)
   ·conv=>cbv
    have ei:=hi.eq;obtain⟨i',ax⟩:=xN 0;have hT:=d.symm;rintro aM ⟨aK,f69⟩;conv=>cbv
    intro ao W;conv=>cbv
    cases ao <;> conv=>cbv
    ·have an:=BX W;exact AF ⟨⟨rfl,.inr (.inl ⟨_,congrArg _ (by rw[hO,show ns=[] from List.eq_nil_of_length_eq_zero (by omega)];rfl)⟩),trivial⟩,t2,trivial⟩
    have an:=BY W;refine .inr ?_;obtain⟨m,a⟩:=Ao (l:=L) (i:=i') (by omega);refine⟨m,fun _=>⟨by omega,by rw[show (i).toNat=i' by omega];exact a⟩,?_⟩;try conv=>cbv
    obtain⟨u,y,g,N,s⟩:=GK hL a;have t:=List.mem_of_getElem? s;have hu:TT u:=a5 _ t;have P:El u S y:=aD _ t;have az:List.length (α:=LR) m.1=u.length:=by rw[g,CI]
    have X:Bl u (Bf ns):=Io G.toGam a5 _ t;obtain⟨H,p⟩:=xR (em (Bf ns) y);obtain⟨ae,v⟩:=Ep (u<:+Bf ns);refine AB hE (Ha (G.BJ c) (G.BJ hu) hT g v) ?_;conv=>cbv
    refine .inr ?_;cases ae <;> conv=>cbv
    ·obtain⟨a1,A⟩:=Ao (l:=L) (i:=i') (by omega);refine⟨a1,fun _=>⟨by omega,by rw[show (i).toNat=i' by omega];exact A⟩,?_⟩;try conv=>cbv
     have ag:a1=m:=Option.some.inj (A.symm.trans a);obtain⟨aq,Y⟩:=xV (tw (Bf ns));obtain⟨ar,x⟩:=xV (EO (Bf ns) u);have w:=Ip (G.BJ c).red (G.BJ hu).red X;refine AB (r:= .AI [(false,[.sl (.sl AA) aq]),(false,[.sl (.sl AA) ar]),(false,[.int .i64 0])]) hE (IB G c hu hT (by rw[ag];exact g) (by rw[w];exact Y) x) ?_;try conv=>cbv
     obtain⟨B,f⟩:=Ao (l:=L) (i:=i') (by omega);refine⟨B,fun _=>⟨by omega,by rw[show (i).toNat=i' by omega];exact f⟩,?_⟩;try conv=>cbv
     have Q:B=m:=Option.some.inj (f.symm.trans a);refine AB (r:= .one (.sl AA H)) hE (Jy G.toGam c hu X hT (by rw[x];have:=H6 (G.BJ c).red (G.BJ hu).red;rwa [w] at this) (by rw[Q];exact N) P p) ?_;try conv=>cbv
     refine⟨[(T,H)],fun _=>⟨rfl,by decide,rfl,⟨rfl,by first | exact t1 | exact t2 | exact t4 | simp[Bg,Bo,cells],trivial⟩⟩,.inr ?_⟩;try conv=>cbv
     refine .inl ⟨[(T,H)],fun _=>⟨rfl,by show (1)*48<=140737488355328;(try simp only[List.length_take,List.length_drop]);omega⟩,?_⟩;intro b U;conv=>cbv
     intro F ah;conv=>cbv
     refine Ah ?_;refine⟨L.length-(i'+1),?_,?_⟩
     ·omega
     rw[a2];exact .inr (.inr (.inr ⟨T,_,b,i'+1,F,rfl,rfl,⟨⟨by omega⟩,by omega,U⟩,d,by rw[Cb s,List.map_append,ax];simp[nm,d,p],rfl⟩))
    obtain⟨Z,z⟩:=Ao (l:=L) (i:=i') (by omega);refine⟨Z,fun _=>⟨by omega,by rw[show (i).toNat=i' by omega];exact z⟩,?_⟩;try conv=>cbv
    have af:Z=m:=Option.some.inj (z.symm.trans a);refine AB (r:= .one (.sl AA H)) hE (JM (G.BJ c) hT (by rw[af];exact N) P.mem (v.1 rfl) p) ?_;try conv=>cbv
    refine⟨[(T,H)],fun _=>⟨rfl,by decide,rfl,⟨rfl,by first | exact t1 | exact t2 | exact t4 | simp[Bg,Bo,cells],trivial⟩⟩,.inr ?_⟩;try conv=>cbv
    refine .inl ⟨[(T,H)],fun _=>⟨rfl,by show (1)*48<=140737488355328;(try simp only[List.length_take,List.length_drop]);omega⟩,?_⟩;intro b U;conv=>cbv
    intro F ah;conv=>cbv
    refine Ah ?_;refine⟨L.length-(i'+1),?_,?_⟩
    ·omega
    rw[a2];exact .inr (.inr (.inr ⟨T,_,b,i'+1,F,rfl,rfl,⟨⟨by omega⟩,by omega,U⟩,d,by rw[Cb s,List.map_append,ax];simp[nm,d,p],rfl⟩))
   conv=>cbv
   have ei:=hi.eq;have aY:o.length<=L.length:=by rw[hinv,List.length_map,List.length_take];omega
   have hT:=d.symm;rintro aM ⟨aK,f69⟩;conv=>cbv
   intro ao W;conv=>cbv
   cases ao <;> conv=>cbv
   ·have an:=BX W;exact AF ⟨⟨rfl,.inl ⟨_,rfl,by omega,congrArg _ (by rw[hO,aj,hinv,List.drop_zero,List.take_length,List.take_of_length_le (show ns.length<=i' by omega)])⟩,trivial⟩,t2,trivial⟩
   have an:=BY W;refine .inr ?_;obtain⟨m,a⟩:=Ao (l:=L) (i:=i') (by omega);refine⟨m,fun _=>⟨by omega,by rw[show (i).toNat=i' by omega];exact a⟩,?_⟩;try conv=>cbv
   obtain⟨u,y,g,N,s⟩:=GK hL a;have t:=List.mem_of_getElem? s;have hu:TT u:=a5 _ t;have P:El u S y:=aD _ t;have az:List.length (α:=LR) m.1=u.length:=by rw[g,CI]
   have X:Bl u (Bf ns):=Io G.toGam a5 _ t;obtain⟨H,p⟩:=xR (em (Bf ns) y);obtain⟨ae,v⟩:=Ep (u<:+Bf ns);refine AB hE (Ha (G.BJ c) (G.BJ hu) hT g v) ?_;conv=>cbv
   refine .inr ?_;cases ae <;> conv=>cbv
   ·obtain⟨a1,A⟩:=Ao (l:=L) (i:=i') (by omega);refine⟨a1,fun _=>⟨by omega,by rw[show (i).toNat=i' by omega];exact A⟩,?_⟩;try conv=>cbv
    have ag:a1=m:=Option.some.inj (A.symm.trans a);obtain⟨aq,Y⟩:=xV (tw (Bf ns));obtain⟨ar,x⟩:=xV (EO (Bf ns) u);have w:=Ip (G.BJ c).red (G.BJ hu).red X;refine AB (r:= .AI [(false,[.sl (.sl AA) aq]),(false,[.sl (.sl AA) ar]),(false,[.int .i64 0])]) hE (IB G c hu hT (by rw[ag];exact g) (by rw[w];exact Y) x) ?_;try conv=>cbv
    obtain⟨B,f⟩:=Ao (l:=L) (i:=i') (by omega);refine⟨B,fun _=>⟨by omega,by rw[show (i).toNat=i' by omega];exact f⟩,?_⟩;try conv=>cbv
    have Q:B=m:=Option.some.inj (f.symm.trans a);refine AB (r:= .one (.sl AA H)) hE (Jy G.toGam c hu X hT (by rw[x];have:=H6 (G.BJ c).red (G.BJ hu).red;rwa [w] at this) (by rw[Q];exact N) P p) ?_;try conv=>cbv
    refine⟨[(T,H)],fun _=>⟨rfl,by decide,rfl,⟨rfl,by first | exact t1 | exact t2 | exact t4 | simp[Bg,Bo,cells],trivial⟩⟩,.inr ?_⟩;try conv=>cbv
    refine .inl ⟨[(T,H)],fun _=>⟨rfl,aj,rfl,by show (o.length+1)*48<=140737488355328;(try simp only[List.length_take,List.length_drop]);omega⟩,?_⟩;intro (h:List (el Bc)) b j;have C:h=(o:List (el Bc))++([(T,H)]:List (el Bc)):=j.1;have D:b=List.length (α:=(el Bc)) h:=j.2;conv=>cbv
    intro F ah;conv=>cbv
    refine Ah ?_;refine⟨L.length-(i'+1),?_,?_⟩
    ·omega
    rw[a2];exact .inr (.inr (.inr ⟨T,h,b,i'+1,F,rfl,rfl,⟨⟨by omega⟩,by omega,D⟩,d,by rw[C,hinv,Cb s,List.map_append];simp[nm,d,p],rfl⟩))
   obtain⟨Z,z⟩:=Ao (l:=L) (i:=i') (by omega);refine⟨Z,fun _=>⟨by omega,by rw[show (i).toNat=i' by omega];exact z⟩,?_⟩;try conv=>cbv
   have af:Z=m:=Option.some.inj (z.symm.trans a);refine AB (r:= .one (.sl AA H)) hE (JM (G.BJ c) hT (by rw[af];exact N) P.mem (v.1 rfl) p) ?_;try conv=>cbv
   refine⟨[(T,H)],fun _=>⟨rfl,by decide,rfl,⟨rfl,by first | exact t1 | exact t2 | exact t4 | simp[Bg,Bo,cells],trivial⟩⟩,.inr ?_⟩;try conv=>cbv
   refine .inl ⟨[(T,H)],fun _=>⟨rfl,aj,rfl,by show (o.length+1)*48<=140737488355328;(try simp only[List.length_take,List.length_drop]);omega⟩,?_⟩;intro (h:List (el Bc)) b j;have C:h=(o:List (el Bc))++([(T,H)]:List (el Bc)):=j.1;have D:b=List.length (α:=(el Bc)) h:=j.2;conv=>cbv
   intro F ah;conv=>cbv
   refine Ah ?_;refine⟨L.length-(i'+1),?_,?_⟩
   ·omega
   rw[a2];exact .inr (.inr (.inr ⟨T,h,b,i'+1,F,rfl,rfl,⟨⟨by omega⟩,by omega,D⟩,d,by rw[C,hinv,Cb s,List.map_append];simp[nm,d,p],rfl⟩))
  have aZ:=BY aQ;refine .inr ?_;obtain⟨ad,M⟩:=Ao (l:=L) (i:=i') (by omega);refine⟨ad,fun _=>⟨by omega,by rw[show (i).toNat=i' by omega];exact M⟩,?_⟩;try conv=>cbv
  obtain⟨u,y,g,N,s⟩:=GK hL M;have t:=List.mem_of_getElem? s;have hu:TT u:=a5 _ t;have P:El u S y:=aD _ t;have az:List.length (α:=LR) ad.1=u.length:=by rw[g,CI]
  have al:=Qz s;unfold FZ at al
  dsimp only at al
  have ay:TT (Bf (ns.take i')):=G.Bf (fun n hn=>a5 n (List.mem_of_mem_take hn));rintro b2 ⟨aV,f26⟩;conv=>cbv
  have b5:b2=(u.length:Int):=aV.trans (congrArg (fun n:Nat=>(n:Int)) az);intro b3 aR;conv=>cbv
  cases b3 <;> conv=>cbv
  ·have b0:=Ct aR;refine .inr ?_;obtain⟨aB,aa⟩:=Ao (l:=L) (i:=i') (by omega);refine⟨aB,fun _=>⟨by omega,by rw[show (i).toNat=i' by omega];exact aa⟩,?_⟩;try conv=>cbv
   have aI:aB=ad:=Option.some.inj (aa.symm.trans M);obtain⟨aH,I⟩:=Ep (u<:+(Bf (ns.take i')));refine cL (r:= .one (.bool aH)) hE (Ha (G.BJ ay) (G.BJ hu) ai (by rw[aI];exact g) I) ⟨.inr ⟨_,rfl⟩,rfl,trivial⟩ ?_;try conv=>cbv
   intro E5 aw;conv=>cbv
   refine .inr ?_;cases E5 <;> conv=>cbv
   ·have a6:=Fo aw;intro a7 aE;conv=>cbv
    refine Ah ?_;refine⟨L.length-(i'+1),?_,?_⟩
    ·omega
    rw[av];exact .inl ⟨i'+1,a7,rfl,rfl,⟨⟨by omega⟩,by omega⟩,by rw[al,if_pos (I.1 a6)];exact h0,rfl⟩
   have a6:=Fp aw;obtain⟨aC,ab⟩:=Ao (l:=L) (i:=i') (by omega);refine⟨aC,fun _=>⟨by omega,by rw[show (i).toNat=i' by omega];exact ab⟩,?_⟩;try conv=>cbv
   have aJ:aC=ad:=Option.some.inj (ab.symm.trans M);obtain⟨aN,a8⟩:=xV (tw (ext (Bf (ns.take i')) u));obtain⟨aO,aA⟩:=xV (EO (Bf (ns.take i')) u);refine cL (r:= .AI [(false,[.sl (.sl AA) aN]),(false,[.sl (.sl AA) aO]),(false,[.int .i64 0])]) hE (IB G ay hu ai (by rw[aJ];exact g) a8 aA) ⟨.inr ⟨_,rfl⟩,rfl,trivial⟩ ?_;try conv=>cbv
   refine AR ?_;conv=>cbv
   intro a7 aE;conv=>cbv
   refine Ah ?_;refine⟨L.length-(i'+1),?_,?_⟩
   ·omega
   rw[av];exact .inr ⟨_,i'+1,a7,rfl,rfl,⟨⟨by omega⟩,by omega⟩,by rw[al,if_neg (fun q=>by have:=I.2 q;rw[a6] at this;cases this),if_neg (fun ak=>by first | (have:=au.2 ak;cases this) | exact absurd (show u<:+Bf (List.take i' ns) from by rw[ak.eq_of_length_le (by omega)];exact List.suffix_refl _) (fun q=>by have:=I.2 q;rw[a6] at this;cases this)),a8],rfl⟩
  have b0:=Cu aR;obtain⟨aT,aF⟩:=Ao (l:=L) (i:=i') (by omega);refine⟨aT,fun _=>⟨by omega,by rw[show (i).toNat=i' by omega];exact aF⟩,?_⟩;try conv=>cbv
  have aW:aT=ad:=Option.some.inj (aF.symm.trans M);obtain⟨aP,au⟩:=Ep ((Bf (ns.take i'))<:+u);refine cL (r:= .one (.bool aP)) hE (Ha (G.BJ hu) (G.BJ ay) (by rw[aW];exact g) ai au) ⟨rfl,.inr ⟨_,rfl⟩,trivial⟩ ?_;try conv=>cbv
  refine .inr ?_;cases aP <;> conv=>cbv
  ·obtain⟨aB,aa⟩:=Ao (l:=L) (i:=i') (by omega);refine⟨aB,fun _=>⟨by omega,by rw[show (i).toNat=i' by omega];exact aa⟩,?_⟩;try conv=>cbv
   have aI:aB=ad:=Option.some.inj (aa.symm.trans M);obtain⟨aH,I⟩:=Ep (u<:+(Bf (ns.take i')));refine cL (r:= .one (.bool aH)) hE (Ha (G.BJ ay) (G.BJ hu) ai (by rw[aI];exact g) I) ⟨.inr ⟨_,rfl⟩,rfl,trivial⟩ ?_;try conv=>cbv
   intro E5 aw;conv=>cbv
   refine .inr ?_;cases E5 <;> conv=>cbv
   ·have a6:=Fo aw;intro a7 aE;conv=>cbv
    refine Ah ?_;refine⟨L.length-(i'+1),?_,?_⟩
    ·omega
    rw[av];exact .inl ⟨i'+1,a7,rfl,rfl,⟨⟨by omega⟩,by omega⟩,by rw[al,if_pos (I.1 a6)];exact h0,rfl⟩
   have a6:=Fp aw;obtain⟨aC,ab⟩:=Ao (l:=L) (i:=i') (by omega);refine⟨aC,fun _=>⟨by omega,by rw[show (i).toNat=i' by omega];exact ab⟩,?_⟩;try conv=>cbv
   have aJ:aC=ad:=Option.some.inj (ab.symm.trans M);obtain⟨aN,a8⟩:=xV (tw (ext (Bf (ns.take i')) u));obtain⟨aO,aA⟩:=xV (EO (Bf (ns.take i')) u);refine cL (r:= .AI [(false,[.sl (.sl AA) aN]),(false,[.sl (.sl AA) aO]),(false,[.int .i64 0])]) hE (IB G ay hu ai (by rw[aJ];exact g) a8 aA) ⟨.inr ⟨_,rfl⟩,rfl,trivial⟩ ?_;try conv=>cbv
   refine AR ?_;conv=>cbv
   intro a7 aE;conv=>cbv
   refine Ah ?_;refine⟨L.length-(i'+1),?_,?_⟩
   ·omega
   rw[av];exact .inr ⟨_,i'+1,a7,rfl,rfl,⟨⟨by omega⟩,by omega⟩,by rw[al,if_neg (fun q=>by have:=I.2 q;rw[a6] at this;cases this),if_neg (fun ak=>by first | (have:=au.2 ak;cases this) | exact absurd (show u<:+Bf (List.take i' ns) from by rw[ak.eq_of_length_le (by omega)];exact List.suffix_refl _) (fun q=>by have:=I.2 q;rw[a6] at this;cases this)),a8],rfl⟩
  obtain⟨aU,aG⟩:=Ao (l:=L) (i:=i') (by omega);refine⟨aU,fun _=>⟨by omega,by rw[show (i).toNat=i' by omega];exact aG⟩,?_⟩;try conv=>cbv
  have aX:aU=ad:=Option.some.inj (aG.symm.trans M);intro a7 aE;conv=>cbv
  refine Ah ?_;refine⟨L.length-(i'+1),?_,?_⟩
  ·omega
  rw[av];exact .inr ⟨_,i'+1,a7,rfl,rfl,⟨⟨by omega⟩,by omega⟩,by rw[al,if_neg (fun ak=>by have:=ak.length_le;omega),if_pos (au.1 rfl),aX];exact g,rfl⟩
 conv=>cbv
 have ei:=hi.eq;have b4:(Bf (ns.take i')).length=List.length (α:=LR) Ti:=by rw[ai,CI]
 rintro ba ⟨b6,f17⟩;conv=>cbv
 intro b1 aQ;conv=>cbv
 cases b1 <;> conv=>cbv
 ·have aZ:=BX aQ;refine .inr ?_;obtain⟨J1,a2⟩:=xJ fun vs bl k=>(∃(i:Int),vs=[.one (.sl Bc L),.one .nil,.one .nil,.one (.int .i64 i)]/\bl=[.dead 0]/\(BG i 0)/\tw (Bf ns)=[]/\k=L.length)\/(∃(o:List (el Bc)) (mm i':Nat) (i:Int),vs=[.one (.sl Bc L),.one .nil,.one (.BI Bc 113 0 0 mm),.one (.int .i64 i)]/\bl=[.arr 0 Bc o]/\(BG i i'/\i'<=L.length/\mm=o.length)/\tw (Bf ns)=[]/\o=(ns.take i').map (fun n=>nm (Bf ns,n.2))/\k=L.length-i')\/(∃(T:List LR) (i:Int),vs=[.one (.sl Bc L),.one (.sl (.sl AA) T),.one .nil,.one (.int .i64 i)]/\bl=[.dead 0]/\(BG i 0)/\tw (Bf ns)=T/\k=L.length)\/(∃(T:List LR) (o:List (el Bc)) (mm i':Nat) (i:Int),vs=[.one (.sl Bc L),.one (.sl (.sl AA) T),.one (.BI Bc 113 0 0 mm),.one (.int .i64 i)]/\bl=[.arr 0 Bc o]/\(BG i i'/\i'<=L.length/\mm=o.length)/\tw (Bf ns)=T/\o=(ns.take i').map (fun n=>nm (Bf ns,n.2))/\k=L.length-i')
  refine⟨[0,4,9,10],[113],J1,⟨L.length,by rw[a2];exact .inr (.inr (.inl ⟨Ti,0,rfl,rfl,Bv 0,by rw[ai,List.take_of_length_le (show ns.length<=i' by omega)],rfl⟩))⟩,?_⟩;intro vs bl b9 hj;rw[a2] at hj;rcases hj with⟨i,rfl,rfl,hi,d,aL⟩ |⟨o,mm,i',i,rfl,rfl,⟨hi,aS,aj⟩,d,hinv,aL⟩ |⟨T,i,rfl,rfl,hi,d,aL⟩ |⟨T,o,mm,i',i,rfl,rfl,⟨hi,aS,aj⟩,d,hinv,aL⟩
  ·conv=>cbv
   have ei:=hi.eq;obtain⟨i',ax⟩:=xN 0;have hT:=d.symm;rintro aM ⟨aK,f69⟩;conv=>cbv
   intro ao W;conv=>cbv
   cases ao <;> conv=>cbv
   ·have an:=BX W;exact AF ⟨⟨rfl,.inr (.inl ⟨_,congrArg _ (by rw[hO,show ns=[] from List.eq_nil_of_length_eq_zero (by omega)];rfl)⟩),trivial⟩,t2,trivial⟩
   have an:=BY W;refine .inr ?_;obtain⟨m,a⟩:=Ao (l:=L) (i:=i') (by omega);refine⟨m,fun _=>⟨by omega,by rw[show (i).toNat=i' by omega];exact a⟩,?_⟩;try conv=>cbv
   obtain⟨u,y,g,N,s⟩:=GK hL a;have t:=List.mem_of_getElem? s;have hu:TT u:=a5 _ t;have P:El u S y:=aD _ t;have az:List.length (α:=LR) m.1=u.length:=by rw[g,CI]
   have X:Bl u (Bf ns):=Io G.toGam a5 _ t;obtain⟨H,p⟩:=xR (em (Bf ns) y);obtain⟨ae,v⟩:=Ep (u<:+Bf ns);refine cL hE (Ha (G.BJ c) (G.BJ hu) hT g v) ⟨.inr ⟨_,rfl⟩,rfl,trivial⟩ ?_;try conv=>cbv
   refine .inr ?_;cases ae <;> conv=>cbv
   ·obtain⟨a1,A⟩:=Ao (l:=L) (i:=i') (by omega);refine⟨a1,fun _=>⟨by omega,by rw[show (i).toNat=i' by omega];exact A⟩,?_⟩;try conv=>cbv
    have ag:a1=m:=Option.some.inj (A.symm.trans a);obtain⟨aq,Y⟩:=xV (tw (Bf ns));obtain⟨ar,x⟩:=xV (EO (Bf ns) u);have w:=Ip (G.BJ c).red (G.BJ hu).red X;refine cL (r:= .AI [(false,[.sl (.sl AA) aq]),(false,[.sl (.sl AA) ar]),(false,[.int .i64 0])]) hE (IB G c hu hT (by rw[ag];exact g) (by rw[w];exact Y) x) ⟨.inr ⟨_,rfl⟩,rfl,trivial⟩ ?_;try conv=>cbv
    obtain⟨B,f⟩:=Ao (l:=L) (i:=i') (by omega);refine⟨B,fun _=>⟨by omega,by rw[show (i).toNat=i' by omega];exact f⟩,?_⟩;try conv=>cbv
    have Q:B=m:=Option.some.inj (f.symm.trans a);refine cL (r:= .one (.sl AA H)) hE (Jy G.toGam c hu X hT (by rw[x];have:=H6 (G.BJ c).red (G.BJ hu).red;rwa [w] at this) (by rw[Q];exact N) P p) ⟨.inr ⟨_,rfl⟩,rfl,rfl,trivial⟩ ?_;try conv=>cbv
    refine⟨[([],H)],fun _=>⟨rfl,by decide,rfl,⟨rfl,⟨.inr ⟨_,rfl⟩,rfl,trivial⟩,trivial⟩⟩,.inr ?_⟩;try conv=>cbv
    refine .inl ⟨[([],H)],fun _=>⟨rfl,by show (1)*48<=140737488355328;(try simp only[List.length_take,List.length_drop]);omega⟩,?_⟩;intro b U;conv=>cbv
    intro F ah;conv=>cbv
    refine Ah ?_;refine⟨L.length-(i'+1),?_,?_⟩
    ·omega
    rw[a2];exact .inr (.inl ⟨_,b,i'+1,F,rfl,rfl,⟨⟨by omega⟩,by omega,U⟩,d,by rw[Cb s,List.map_append,ax];simp[nm,d,p],rfl⟩)
   obtain⟨Z,z⟩:=Ao (l:=L) (i:=i') (by omega);refine⟨Z,fun _=>⟨by omega,by rw[show (i).toNat=i' by omega];exact z⟩,?_⟩;try conv=>cbv
   have af:Z=m:=Option.some.inj (z.symm.trans a);refine cL (r:= .one (.sl AA H)) hE (JM (G.BJ c) hT (by rw[af];exact N) P.mem (v.1 rfl) p) ⟨.inr ⟨_,rfl⟩,rfl,trivial⟩ ?_;try conv=>cbv
   refine⟨[([],H)],fun _=>⟨rfl,by decide,rfl,⟨rfl,⟨.inr ⟨_,rfl⟩,rfl,trivial⟩,trivial⟩⟩,.inr ?_⟩;try conv=>cbv
   refine .inl ⟨[([],H)],fun _=>⟨rfl,by show (1)*48<=140737488355328;(try simp only[List.length_take,List.length_drop]);omega⟩,?_⟩;intro b U;conv=>cbv
   intro F ah;conv=>cbv
   refine Ah ?_;refine⟨L.length-(i'+1),?_,?_⟩
   ·omega
   rw[a2];exact .inr (.inl ⟨_,b,i'+1,F,rfl,rfl,⟨⟨by omega⟩,by omega,U⟩,d,by rw[Cb s,List.map_append,ax];simp[nm,d,p],rfl⟩)
  ·conv=>cbv
   have ei:=hi.eq;have aY:o.length<=L.length:=by rw[hinv,List.length_map,List.length_take];omega
   have hT:=d.symm;rintro aM ⟨aK,f69⟩;conv=>cbv
   intro ao W;conv=>cbv
   cases ao <;> conv=>cbv
   ·have an:=BX W;exact AF ⟨⟨rfl,.inl ⟨_,rfl,by omega,congrArg _ (by rw[hO,aj,hinv,List.drop_zero,List.take_length,List.take_of_length_le (show ns.length<=i' by omega)])⟩,trivial⟩,t2,trivial⟩
   have an:=BY W;refine .inr ?_;obtain⟨m,a⟩:=Ao (l:=L) (i:=i') (by omega);refine⟨m,fun _=>⟨by omega,by rw[show (i).toNat=i' by omega];exact a⟩,?_⟩;try conv=>cbv
   obtain⟨u,y,g,N,s⟩:=GK hL a;have t:=List.mem_of_getElem? s;have hu:TT u:=a5 _ t;have P:El u S y:=aD _ t;have az:List.length (α:=LR) m.1=u.length:=by rw[g,CI]
   have X:Bl u (Bf ns):=Io G.toGam a5 _ t;obtain⟨H,p⟩:=xR (em (Bf ns) y);obtain⟨ae,v⟩:=Ep (u<:+Bf ns);refine cL hE (Ha (G.BJ c) (G.BJ hu) hT g v) ⟨.inr ⟨_,rfl⟩,rfl,trivial⟩ ?_;try conv=>cbv
   refine .inr ?_;cases ae <;> conv=>cbv
   ·obtain⟨a1,A⟩:=Ao (l:=L) (i:=i') (by omega);refine⟨a1,fun _=>⟨by omega,by rw[show (i).toNat=i' by omega];exact A⟩,?_⟩;try conv=>cbv
    have ag:a1=m:=Option.some.inj (A.symm.trans a);obtain⟨aq,Y⟩:=xV (tw (Bf ns));obtain⟨ar,x⟩:=xV (EO (Bf ns) u);have w:=Ip (G.BJ c).red (G.BJ hu).red X;refine cL (r:= .AI [(false,[.sl (.sl AA) aq]),(false,[.sl (.sl AA) ar]),(false,[.int .i64 0])]) hE (IB G c hu hT (by rw[ag];exact g) (by rw[w];exact Y) x) ⟨.inr ⟨_,rfl⟩,rfl,trivial⟩ ?_;try conv=>cbv
    obtain⟨B,f⟩:=Ao (l:=L) (i:=i') (by omega);refine⟨B,fun _=>⟨by omega,by rw[show (i).toNat=i' by omega];exact f⟩,?_⟩;try conv=>cbv
    have Q:B=m:=Option.some.inj (f.symm.trans a);refine cL (r:= .one (.sl AA H)) hE (Jy G.toGam c hu X hT (by rw[x];have:=H6 (G.BJ c).red (G.BJ hu).red;rwa [w] at this) (by rw[Q];exact N) P p) ⟨.inr ⟨_,rfl⟩,rfl,rfl,trivial⟩ ?_;try conv=>cbv
    refine⟨[([],H)],fun _=>⟨rfl,by decide,rfl,⟨rfl,⟨.inr ⟨_,rfl⟩,rfl,trivial⟩,trivial⟩⟩,.inr ?_⟩;try conv=>cbv
    refine .inl ⟨[([],H)],fun _=>⟨rfl,aj,rfl,by show (o.length+1)*48<=140737488355328;(try simp only[List.length_take,List.length_drop]);omega⟩,?_⟩;intro (h:List (el Bc)) b j;have C:h=(o:List (el Bc))++([([],H)]:List (el Bc)):=j.1;have D:b=List.length (α:=(el Bc)) h:=j.2;conv=>cbv
    intro F ah;conv=>cbv
    refine Ah ?_;refine⟨L.length-(i'+1),?_,?_⟩
    ·omega
    rw[a2];exact .inr (.inl ⟨h,b,i'+1,F,rfl,rfl,⟨⟨by omega⟩,by omega,D⟩,d,by rw[C,hinv,Cb s,List.map_append];simp[nm,d,p],rfl⟩)
   obtain⟨Z,z⟩:=Ao (l:=L) (i:=i') (by omega);refine⟨Z,fun _=>⟨by omega,by rw[show (i).toNat=i' by omega];exact z⟩,?_⟩;try conv=>cbv
   have af:Z=m:=Option.some.inj (z.symm.trans a);refine cL (r:= .one (.sl AA H)) hE (JM (G.BJ c) hT (by rw[af];exact N) P.mem (v.1 rfl) p) ⟨.inr ⟨_,rfl⟩,rfl,trivial⟩ ?_;try conv=>cbv
   refine⟨[([],H)],fun _=>⟨rfl,by decide,rfl,⟨rfl,⟨.inr ⟨_,rfl⟩,rfl,trivial⟩,trivial⟩⟩,.inr ?_⟩;try conv=>cbv
   refine .inl ⟨[([],H)],fun _=>⟨rfl,aj,rfl,by show (o.length+1)*48<=140737488355328;(try simp only[List.length_take,List.length_drop]);omega⟩,?_⟩;intro (h:List (el Bc)) b j;have C:h=(o:List (el Bc))++([([],H)]:List (el Bc)):=j.1;have D:b=List.length (α:=(el Bc)) h:=j.2;conv=>cbv
   intro F ah;conv=>cbv
   refine Ah ?_;refine⟨L.length-(i'+1),?_,?_⟩
   ·omega
   rw[a2];exact .inr (.inl ⟨h,b,i'+1,F,rfl,rfl,⟨⟨by omega⟩,by omega,D⟩,d,by rw[C,hinv,Cb s,List.map_append];simp[nm,d,p],rfl⟩)
  ·conv=>cbv
   have ei:=hi.eq;obtain⟨i',ax⟩:=xN 0;have hT:=d.symm;rintro aM ⟨aK,f69⟩;conv=>cbv
   intro ao W;conv=>cbv
   cases ao <;> conv=>cbv
   ·have an:=BX W;exact AF ⟨⟨rfl,.inr (.inl ⟨_,congrArg _ (by rw[hO,show ns=[] from List.eq_nil_of_length_eq_zero (by omega)];rfl)⟩),trivial⟩,t2,trivial⟩
   have an:=BY W;refine .inr ?_;obtain⟨m,a⟩:=Ao (l:=L) (i:=i') (by omega);refine⟨m,fun _=>⟨by omega,by rw[show (i).toNat=i' by omega];exact a⟩,?_⟩;try conv=>cbv
   obtain⟨u,y,g,N,s⟩:=GK hL a;have t:=List.mem_of_getElem? s;have hu:TT u:=a5 _ t;have P:El u S y:=aD _ t;have az:List.length (α:=LR) m.1=u.length:=by rw[g,CI]
   have X:Bl u (Bf ns):=Io G.toGam a5 _ t;obtain⟨H,p⟩:=xR (em (Bf ns) y);obtain⟨ae,v⟩:=Ep (u<:+Bf ns);refine AB hE (Ha (G.BJ c) (G.BJ hu) hT g v) ?_;conv=>cbv
   refine .inr ?_;cases ae <;> conv=>cbv
   ·obtain⟨a1,A⟩:=Ao (l:=L) (i:=i') (by omega);refine⟨a1,fun _=>⟨by omega,by rw[show (i).toNat=i' by omega];exact A⟩,?_⟩;try conv=>cbv
    have ag:a1=m:=Option.some.inj (A.symm.trans a);obtain⟨aq,Y⟩:=xV (tw (Bf ns));obtain⟨ar,x⟩:=xV (EO (Bf ns) u);have w:=Ip (G.BJ c).red (G.BJ hu).red X;refine AB (r:= .AI [(false,[.sl (.sl AA) aq]),(false,[.sl (.sl AA) ar]),(false,[.int .i64 0])]) hE (IB G c hu hT (by rw[ag];exact g) (by rw[w];exact Y) x) ?_;try conv=>cbv
    obtain⟨B,f⟩:=Ao (l:=L) (i:=i') (by omega);refine⟨B,fun _=>⟨by omega,by rw[show (i).toNat=i' by omega];exact f⟩,?_⟩;try conv=>cbv
    have Q:B=m:=Option.some.inj (f.symm.trans a);refine AB (r:= .one (.sl AA H)) hE (Jy G.toGam c hu X hT (by rw[x];have:=H6 (G.BJ c).red (G.BJ hu).red;rwa [w] at this) (by rw[Q];exact N) P p) ?_;try conv=>cbv
    refine⟨[(T,H)],fun _=>⟨rfl,by decide,rfl,⟨rfl,by first | exact t1 | exact t2 | exact t4 | simp[Bg,Bo,cells],trivial⟩⟩,.inr ?_⟩;try conv=>cbv
    refine .inl ⟨[(T,H)],fun _=>⟨rfl,by show (1)*48<=140737488355328;(try simp only[List.length_take,List.length_drop]);omega⟩,?_⟩;intro b U;conv=>cbv
    intro F ah;conv=>cbv
    refine Ah ?_;refine⟨L.length-(i'+1),?_,?_⟩
    ·omega
    rw[a2];exact .inr (.inr (.inr ⟨T,_,b,i'+1,F,rfl,rfl,⟨⟨by omega⟩,by omega,U⟩,d,by rw[Cb s,List.map_append,ax];simp[nm,d,p],rfl⟩))
   obtain⟨Z,z⟩:=Ao (l:=L) (i:=i') (by omega);refine⟨Z,fun _=>⟨by omega,by rw[show (i).toNat=i' by omega];exact z⟩,?_⟩;try conv=>cbv
   have af:Z=m:=Option.some.inj (z.symm.trans a);refine AB (r:= .one (.sl AA H)) hE (JM (G.BJ c) hT (by rw[af];exact N) P.mem (v.1 rfl) p) ?_;try conv=>cbv
   refine⟨[(T,H)],fun _=>⟨rfl,by decide,rfl,⟨rfl,by first | exact t1 | exact t2 | exact t4 | simp[Bg,Bo,cells],trivial⟩⟩,.inr ?_⟩;try conv=>cbv
   refine .inl ⟨[(T,H)],fun _=>⟨rfl,by show (1)*48<=140737488355328;(try simp only[List.length_take,List.length_drop]);omega⟩,?_⟩;intro b U;conv=>cbv
   intro F ah;conv=>cbv
   refine Ah ?_;refine⟨L.length-(i'+1),?_,?_⟩
   ·omega
   rw[a2];exact .inr (.inr (.inr ⟨T,_,b,i'+1,F,rfl,rfl,⟨⟨by omega⟩,by omega,U⟩,d,by rw[Cb s,List.map_append,ax];simp[nm,d,p],rfl⟩))
  conv=>cbv
  have ei:=hi.eq;have aY:o.length<=L.length:=by rw[hinv,List.length_map,List.length_take];omega
  have hT:=d.symm;rintro aM ⟨aK,f69⟩;conv=>cbv
  intro ao W;conv=>cbv
  cases ao <;> conv=>cbv
  ·have an:=BX W;exact AF ⟨⟨rfl,.inl ⟨_,rfl,by omega,congrArg _ (by rw[hO,aj,hinv,List.drop_zero,List.take_length,List.take_of_length_le (show ns.length<=i' by omega)])⟩,trivial⟩,t2,trivial⟩
  have an:=BY W;refine .inr ?_;obtain⟨m,a⟩:=Ao (l:=L) (i:=i') (by omega);refine⟨m,fun _=>⟨by omega,by rw[show (i).toNat=i' by omega];exact a⟩,?_⟩;try conv=>cbv
  obtain⟨u,y,g,N,s⟩:=GK hL a;have t:=List.mem_of_getElem? s;have hu:TT u:=a5 _ t;have P:El u S y:=aD _ t;have az:List.length (α:=LR) m.1=u.length:=by rw[g,CI]
  have X:Bl u (Bf ns):=Io G.toGam a5 _ t;obtain⟨H,p⟩:=xR (em (Bf ns) y);obtain⟨ae,v⟩:=Ep (u<:+Bf ns);refine AB hE (Ha (G.BJ c) (G.BJ hu) hT g v) ?_;conv=>cbv
  refine .inr ?_;cases ae <;> conv=>cbv
  ·obtain⟨a1,A⟩:=Ao (l:=L) (i:=i') (by omega);refine⟨a1,fun _=>⟨by omega,by rw[show (i).toNat=i' by omega];exact A⟩,?_⟩;try conv=>cbv
   have ag:a1=m:=Option.some.inj (A.symm.trans a);obtain⟨aq,Y⟩:=xV (tw (Bf ns));obtain⟨ar,x⟩:=xV (EO (Bf ns) u);have w:=Ip (G.BJ c).red (G.BJ hu).red X;refine AB (r:= .AI [(false,[.sl (.sl AA) aq]),(false,[.sl (.sl AA) ar]),(false,[.int .i64 0])]) hE (IB G c hu hT (by rw[ag];exact g) (by rw[w];exact Y) x) ?_;try conv=>cbv
   obtain⟨B,f⟩:=Ao (l:=L) (i:=i') (by omega);refine⟨B,fun _=>⟨by omega,by rw[show (i).toNat=i' by omega];exact f⟩,?_⟩;try conv=>cbv
   have Q:B=m:=Option.some.inj (f.symm.trans a);refine AB (r:= .one (.sl AA H)) hE (Jy G.toGam c hu X hT (by rw[x];have:=H6 (G.BJ c).red (G.BJ hu).red;rwa [w] at this) (by rw[Q];exact N) P p) ?_;try conv=>cbv
   refine⟨[(T,H)],fun _=>⟨rfl,by decide,rfl,⟨rfl,by first | exact t1 | exact t2 | exact t4 | simp[Bg,Bo,cells],trivial⟩⟩,.inr ?_⟩;try conv=>cbv
   refine .inl ⟨[(T,H)],fun _=>⟨rfl,aj,rfl,by show (o.length+1)*48<=140737488355328;(try simp only[List.length_take,List.length_drop]);omega⟩,?_⟩;intro (h:List (el Bc)) b j;have C:h=(o:List (el Bc))++([(T,H)]:List (el Bc)):=j.1;have D:b=List.length (α:=(el Bc)) h:=j.2;conv=>cbv
   intro F ah;conv=>cbv
   refine Ah ?_;refine⟨L.length-(i'+1),?_,?_⟩
   ·omega
   rw[a2];exact .inr (.inr (.inr ⟨T,h,b,i'+1,F,rfl,rfl,⟨⟨by omega⟩,by omega,D⟩,d,by rw[C,hinv,Cb s,List.map_append];simp[nm,d,p],rfl⟩))
  obtain⟨Z,z⟩:=Ao (l:=L) (i:=i') (by omega);refine⟨Z,fun _=>⟨by omega,by rw[show (i).toNat=i' by omega];exact z⟩,?_⟩;try conv=>cbv
  have af:Z=m:=Option.some.inj (z.symm.trans a);refine AB (r:= .one (.sl AA H)) hE (JM (G.BJ c) hT (by rw[af];exact N) P.mem (v.1 rfl) p) ?_;try conv=>cbv
  refine⟨[(T,H)],fun _=>⟨rfl,by decide,rfl,⟨rfl,by first | exact t1 | exact t2 | exact t4 | simp[Bg,Bo,cells],trivial⟩⟩,.inr ?_⟩;try conv=>cbv
  refine .inl ⟨[(T,H)],fun _=>⟨rfl,aj,rfl,by show (o.length+1)*48<=140737488355328;(try simp only[List.length_take,List.length_drop]);omega⟩,?_⟩;intro (h:List (el Bc)) b j;have C:h=(o:List (el Bc))++([(T,H)]:List (el Bc)):=j.1;have D:b=List.length (α:=(el Bc)) h:=j.2;conv=>cbv
  intro F ah;conv=>cbv
  refine Ah ?_;refine⟨L.length-(i'+1),?_,?_⟩
  ·omega
  rw[a2];exact .inr (.inr (.inr ⟨T,h,b,i'+1,F,rfl,rfl,⟨⟨by omega⟩,by omega,D⟩,d,by rw[C,hinv,Cb s,List.map_append];simp[nm,d,p],rfl⟩))
 have aZ:=BY aQ;refine .inr ?_;obtain⟨ad,M⟩:=Ao (l:=L) (i:=i') (by omega);refine⟨ad,fun _=>⟨by omega,by rw[show (i).toNat=i' by omega];exact M⟩,?_⟩;try conv=>cbv
 obtain⟨u,y,g,N,s⟩:=GK hL M;have t:=List.mem_of_getElem? s;have hu:TT u:=a5 _ t;have P:El u S y:=aD _ t;have az:List.length (α:=LR) ad.1=u.length:=by rw[g,CI]
 have al:=Qz s;unfold FZ at al
 dsimp only at al
 have ay:TT (Bf (ns.take i')):=G.Bf (fun n hn=>a5 n (List.mem_of_mem_take hn));rintro b2 ⟨aV,f26⟩;conv=>cbv
 have b5:b2=(u.length:Int):=aV.trans (congrArg (fun n:Nat=>(n:Int)) az);rintro bb ⟨b7,f28⟩;conv=>cbv
 have bc:bb=((Bf (ns.take i')).length:Int):=b7.trans (congrArg (fun n:Nat=>(n:Int)) b4.symm);intro b3 aR;conv=>cbv
 cases b3 <;> conv=>cbv
 ·have b0:=Ct aR;refine .inr ?_;obtain⟨aB,aa⟩:=Ao (l:=L) (i:=i') (by omega);refine⟨aB,fun _=>⟨by omega,by rw[show (i).toNat=i' by omega];exact aa⟩,?_⟩;try conv=>cbv
  have aI:aB=ad:=Option.some.inj (aa.symm.trans M);obtain⟨aH,I⟩:=Ep (u<:+(Bf (ns.take i')));refine AB (r:= .one (.bool aH)) hE (Ha (G.BJ ay) (G.BJ hu) ai (by rw[aI];exact g) I) ?_;try conv=>cbv
  intro E5 aw;conv=>cbv
  refine .inr ?_;cases E5 <;> conv=>cbv
  ·have a6:=Fo aw;intro a7 aE;conv=>cbv
   refine Ah ?_;refine⟨L.length-(i'+1),?_,?_⟩
   ·omega
   rw[av];exact .inr ⟨_,i'+1,a7,rfl,rfl,⟨⟨by omega⟩,by omega⟩,by rw[al,if_pos (I.1 a6),<-ai],rfl⟩
  have a6:=Fp aw;obtain⟨aC,ab⟩:=Ao (l:=L) (i:=i') (by omega);refine⟨aC,fun _=>⟨by omega,by rw[show (i).toNat=i' by omega];exact ab⟩,?_⟩;try conv=>cbv
  have aJ:aC=ad:=Option.some.inj (ab.symm.trans M);obtain⟨aN,a8⟩:=xV (tw (ext (Bf (ns.take i')) u));obtain⟨aO,aA⟩:=xV (EO (Bf (ns.take i')) u);refine AB (r:= .AI [(false,[.sl (.sl AA) aN]),(false,[.sl (.sl AA) aO]),(false,[.int .i64 0])]) hE (IB G ay hu ai (by rw[aJ];exact g) a8 aA) ?_;try conv=>cbv
  refine AR ?_;conv=>cbv
  intro a7 aE;conv=>cbv
  refine Ah ?_;refine⟨L.length-(i'+1),?_,?_⟩
  ·omega
  rw[av];exact .inr ⟨_,i'+1,a7,rfl,rfl,⟨⟨by omega⟩,by omega⟩,by rw[al,if_neg (fun q=>by have:=I.2 q;rw[a6] at this;cases this),if_neg (fun ak=>by first | (have:=au.2 ak;cases this) | exact absurd (show u<:+Bf (List.take i' ns) from by rw[ak.eq_of_length_le (by omega)];exact List.suffix_refl _) (fun q=>by have:=I.2 q;rw[a6] at this;cases this)),a8],rfl⟩
 have b0:=Cu aR;obtain⟨aT,aF⟩:=Ao (l:=L) (i:=i') (by omega);refine⟨aT,fun _=>⟨by omega,by rw[show (i).toNat=i' by omega];exact aF⟩,?_⟩;try conv=>cbv
 have aW:aT=ad:=Option.some.inj (aF.symm.trans M);obtain⟨aP,au⟩:=Ep ((Bf (ns.take i'))<:+u);refine AB (r:= .one (.bool aP)) hE (Ha (G.BJ hu) (G.BJ ay) (by rw[aW];exact g) ai au) ?_;try conv=>cbv
 refine .inr ?_;cases aP <;> conv=>cbv
 ·obtain⟨aB,aa⟩:=Ao (l:=L) (i:=i') (by omega);refine⟨aB,fun _=>⟨by omega,by rw[show (i).toNat=i' by omega];exact aa⟩,?_⟩;try conv=>cbv
  have aI:aB=ad:=Option.some.inj (aa.symm.trans M);obtain⟨aH,I⟩:=Ep (u<:+(Bf (ns.take i')));refine AB (r:= .one (.bool aH)) hE (Ha (G.BJ ay) (G.BJ hu) ai (by rw[aI];exact g) I) ?_;try conv=>cbv
  intro E5 aw;conv=>cbv
  refine .inr ?_;cases E5 <;> conv=>cbv
  ·have a6:=Fo aw;intro a7 aE;conv=>cbv
   refine Ah ?_;refine⟨L.length-(i'+1),?_,?_⟩
   ·omega
   rw[av];exact .inr ⟨_,i'+1,a7,rfl,rfl,⟨⟨by omega⟩,by omega⟩,by rw[al,if_pos (I.1 a6),<-ai],rfl⟩
  have a6:=Fp aw;obtain⟨aC,ab⟩:=Ao (l:=L) (i:=i') (by omega);refine⟨aC,fun _=>⟨by omega,by rw[show (i).toNat=i' by omega];exact ab⟩,?_⟩;try conv=>cbv
  have aJ:aC=ad:=Option.some.inj (ab.symm.trans M);obtain⟨aN,a8⟩:=xV (tw (ext (Bf (ns.take i')) u));obtain⟨aO,aA⟩:=xV (EO (Bf (ns.take i')) u);refine AB (r:= .AI [(false,[.sl (.sl AA) aN]),(false,[.sl (.sl AA) aO]),(false,[.int .i64 0])]) hE (IB G ay hu ai (by rw[aJ];exact g) a8 aA) ?_;try conv=>cbv
  refine AR ?_;conv=>cbv
  intro a7 aE;conv=>cbv
  refine Ah ?_;refine⟨L.length-(i'+1),?_,?_⟩
  ·omega
  rw[av];exact .inr ⟨_,i'+1,a7,rfl,rfl,⟨⟨by omega⟩,by omega⟩,by rw[al,if_neg (fun q=>by have:=I.2 q;rw[a6] at this;cases this),if_neg (fun ak=>by first | (have:=au.2 ak;cases this) | exact absurd (show u<:+Bf (List.take i' ns) from by rw[ak.eq_of_length_le (by omega)];exact List.suffix_refl _) (fun q=>by have:=I.2 q;rw[a6] at this;cases this)),a8],rfl⟩
 obtain⟨aU,aG⟩:=Ao (l:=L) (i:=i') (by omega);refine⟨aU,fun _=>⟨by omega,by rw[show (i).toNat=i' by omega];exact aG⟩,?_⟩;try conv=>cbv
 have aX:aU=ad:=Option.some.inj (aG.symm.trans M);intro a7 aE;conv=>cbv
 refine Ah ?_;refine⟨L.length-(i'+1),?_,?_⟩
 ·omega
 rw[av];exact .inr ⟨_,i'+1,a7,rfl,rfl,⟨⟨by omega⟩,by omega⟩,by rw[al,if_neg (fun ak=>by have:=ak.length_le;omega),if_pos (au.1 rfl),aX];exact g,rfl⟩
abbrev Nu:=List (List Rat)×Re
def Co (q:Rat):Prop:=q.num.natAbs<18446744073709551616/\q.den<18446744073709551616
theorem ZC:∀{a:List Rat},(∀q∈a,Co q)->∃D:Nat,0<D/\D<=2^(64*a.length)/\DN D a
 | [],_=>⟨1,by decide,by simp,fun q c=>by simp at c⟩
 | q::a,h=>by
  obtain⟨D,d,f,g⟩:=ZC (a:=a) (fun x b=>h x (List.mem_cons_of_mem _ b));have c:=(h q List.mem_cons_self).2;refine⟨q.den*D,Nat.mul_pos q.den_pos d,?_,fun x b=>?_⟩
  ·have:=Nat.mul_le_mul (show q.den<=2^64 by omega) f;rw[<-Nat.pow_add] at this;rw[List.length_cons,show 64*(a.length+1)=64+64*a.length by omega];exact this
  rcases List.mem_cons.1 b with rfl | b
  ·refine⟨x.num*D,?_⟩;rw[Rat.intCast_mul,<-NG x,Ih];have:((D:Int):Rat)=(D:Rat):=rfl
   grind
  exact g.dvd ⟨q.den,by grind⟩ x b
theorem ou {q:Rat} {B:Nat} (h:q.num.natAbs<=B): -(B:Rat)<=q/\q<=B:=by
 have d:1<=q.den:=q.den_pos;have f:B*1<=B*q.den:=Nat.mul_le_mul_left B d
 have key:q.num<=(B:Int)*q.den/\ -((B:Int)*q.den)<=q.num:=by
  have:((B*q.den:Nat):Int)=(B:Int)*q.den:=Int.natCast_mul _ _;omega
 have e:=NG q
 have c:(0:Rat)<q.den:=by
  have:((0:Nat):Rat)<(q.den:Rat):=Rat.natCast_lt_natCast.2 q.den_pos;simpa using this
 have k1:(q.num:Rat)<=(B:Rat)*q.den:=by
  have:=Rat.intCast_le_intCast.2 key.1;rw[Rat.intCast_mul] at this;exact this
 have k2: -((B:Rat)*q.den)<=(q.num:Rat):=by
  have:=Rat.intCast_le_intCast.2 key.2;rw[Rat.intCast_neg,Rat.intCast_mul] at this;exact this
 rw[<-e] at k1 k2
 constructor
 ·apply Classical.byContradiction;intro hc;have:=Rat.mul_pos (a:= -(B:Rat)-q) (b:=q.den) (by grind) c
  grind
 apply Classical.byContradiction;intro hc;have:=Rat.mul_pos (a:=q-(B:Rat)) (b:=q.den) (by grind) c
 grind
theorem QG {a:List Rat} (h:∀q∈a,Co q):Bd (64*a.length) a:=by
 obtain⟨D,c,d,f⟩:=ZC h;refine⟨D,c,d,f,fun q b=>?_⟩;have g:1<=a.length:=List.length_pos_of_mem b;exact ou (Nat.le_trans (Nat.le_of_lt (h q b).1) (show 2^64<=2^(64*a.length) from C0))
structure CL (V:List Re) (n:Nu):Prop where
 red:BF n.1
 mem:In n.1 n.2
 BP:∀v∈BP n.1,v∈V
 Je:∀s∈n.1,∀q∈s,Co q
 cos:∀q∈co n.1 n.2,Co q
theorem CL.mono {V a:List Re} {n:Nu} (h:CL V n) (hV:∀v∈V,v∈a):CL a n:=⟨h.red,h.mem,fun v b=>hV v (h.BP v b),h.Je,h.cos⟩
theorem CL.len {V:List Re} {n:Nu} (h:CL V n):n.1.length<=V.length:=by rw[<-Jl];exact Ja (HE h.red) h.BP
theorem Vb:∀{u:List (List Rat)} {r:List Rat},BF u->r∈u->2*r.length<=2^u.length
 | [],_,_,h=>by simp at h
 | s::u,r,h,a=>by
  rw[CW];rcases List.mem_cons.1 a with rfl | a
  ·rw[h.2.1];omega
  have:=Vb h.1 a;omega
theorem fF {u w:List (List Rat)} (h:u<:+w):∀v∈BP u,v∈BP w:=by
 obtain⟨t,rfl⟩:=h
 induction t with
 | nil=>exact fun v a=>a
 | cons r t b=>exact fun v a=>List.mem_cons_of_mem _ (b v a)
def PN (ns:List Nu) (u:List (List Rat)):Prop:=∃n∈ns,u<:+n.1
section
variable {V:List Re} {ns:List Nu}
theorem bw {k:Nat} (h:k<=3):2^k<=8:=C0 h
theorem PN.Kq (hV:V.length<=3) (h:∀n∈ns,CL V n):CA (PN ns) 256:=by
 refine⟨fun {u} ⟨n,a,c⟩=>Vq c (h n a).red,fun {u} ⟨n,a,c⟩=>fun r d=>?_,fun {r u} ⟨n,a,c⟩=>⟨n,a,(List.suffix_cons r u).trans c⟩⟩;have b:=c.subset d;have f:=Vb (h n a).red b;have g:=bw (Nat.le_trans (h n a).len hV);exact (QG ((h n a).Je r b)).mono (by omega)
theorem PN.BP (h:∀n∈ns,CL V n) {u:List (List Rat)} (hu:PN ns u):∀v∈BP u,v∈V:=by
 obtain⟨n,a,b⟩:=hu;exact fun v c=>(h n a).BP v (fF b v c)
theorem PN.self {n:Nu} (a:n∈ns):PN ns n.1:=⟨n,a,List.suffix_refl _⟩
end
theorem CL.el {V:List Re} {n:Nu} (h:CL V n) (hV:V.length<=3):El n.1 512 n.2:=by
 refine⟨h.mem,(QG h.cos).mono ?_⟩;have a:=bw (Nat.le_trans h.len hV);rw[EF h.mem];omega
abbrev Rm:Nat:=93478
abbrev Cm:Nat:=53200000
abbrev Sm:Nat:=500000000000
theorem qu:RR 256 3<=Rm:=by decide +kernel
theorem kV:CC 3 Rm 3 Rm<=Cm:=by decide +kernel
theorem lj:∀h,h<=3->Fit h Rm (Sm+Cm)
 |0,_|1,_|2,_|3,_=>⟨by decide +kernel,by decide +kernel,by decide +kernel,by decide +kernel⟩
 | _+4,h=>absurd h (by omega)
theorem lY:∀h,h<=3->FW h Rm (Sm+Cm)
 |0,_|1,_|2,_|3,_=>⟨by decide +kernel,by decide +kernel,by decide +kernel,by decide +kernel⟩
 | _+4,h=>absurd h (by omega)
theorem og:2*(Sm+Cm)+EE 3 Rm<=60000000000000:=by decide +kernel
theorem ZZ {P:List (List Rat)->Prop} (I:CA P 256) (hm:∀{u},Tf P u->u.length<=3) {S:Nat} (a:Rm<=S) (c:S<=Sm):EM (Tf P) Rm Cm S:=
 {Tf.UH I hm qu a kV (fun h b=>(lj h b).mono (by omega)) (Nat.le_trans (by omega) og) with HO:=fun {u} hu=>(lY _ (hm hu)).mono (by omega)}
open Classical in
noncomputable def AE (x:Re):Re:=if h:x≠0 then Classical.choose (Re.ON h) else 0
theorem F6 {x:Re} (h:x≠0):x*AE x=1:=by
 unfold AE;rw[dif_pos h];exact Classical.choose_spec (Re.ON h)
theorem Qx {u:List (List Rat)} {x:Re} (hu:BF u) (b:In u x) (a:x≠0):In u (AE x):=by
 obtain⟨y,c,e⟩:=Em hu b a;have e2:=F6 a
 rw[show AE x=y by
  have:AE x=AE x*(x*y):=by rw[e];grind
  rw[this];have:AE x*(x*y)=(x*AE x)*y:=by grind
  rw[this,e2];grind]
 exact c
open Classical in
noncomputable def FH (x:Re):Re:=if x<0 then -x else x
theorem MI (x:Re):0<=FH x:=by unfold FH;split <;> grind
theorem Zn {u:List (List Rat)} {x:Re} (a:In u x):In u (FH x):=by unfold FH;split;exact Hw a;exact a
open Classical in
noncomputable def Hn (n:Nu):Nu:=if h:BF n.1/\In n.1 n.2 then (Classical.choose (WY h.1 h.2 (Nat.le_refl _)),n.2) else n
theorem WW {n:Nu} (a:BF n.1) (b:In n.1 n.2):I9 n.1.length (n.1.reverse,co n.1 n.2)=((Hn n).1.reverse,co (Hn n).1 (Hn n).2)/\Js n.1 n.2 (Hn n).1/\(Hn n).2=n.2:=by
 unfold Hn;rw[dif_pos ⟨a,b⟩];have:=Classical.choose_spec (WY a b (Nat.le_refl _));exact⟨this.1,this.2,rfl⟩
def Ka (n:Nu):Prop:=(∃q∈co n.1 n.2,¬Co q)\/∃s∈n.1,∃q∈s,¬Co q
noncomputable def Fq (k:Nat) (a b:Nu) (roots:Nat):Nu×Nat:=by
 classical
 exact if k=1 then ((Bz a.1 b.1,a.2+b.2),roots)
 else if k=2 then ((Bz a.1 b.1,a.2-b.2),roots)
 else if k=3 then ((Bz a.1 b.1,a.2*b.2),roots)
 else if k=4 then (if b.2=0 then a else (Bz a.1 b.1,a.2*AE b.2),roots)
 else if roots<3 then ((Aj a.1 (FH a.2),Re.sqrt (FH a.2)),roots+1) else (a,roots)
def JD:Nu:=([],0)
noncomputable def EG (l:List Nu) (i:Nat):Nu:=l.getD (i%l.length) JD
def L5 (n:Int):Int:=(n+9223372036854775808)%18446744073709551616-9223372036854775808
theorem We (n:Int): -9223372036854775808<=L5 n/\L5 n<9223372036854775808:=by unfold L5;omega
def IL (o:el Bh):Rat:=Rat.divInt (L5 o.2.2.2.1) ((o.2.2.2.2.toNat%8+1:Nat):Int)
noncomputable def Eu (st:List Nu×Nat) (o:el Bh):Nu×Nat:=by
 classical
 exact if st.1=[]\/o.1.toNat%6=0 then (([],Re.ofRat (IL o)),st.2) else Fq (o.1.toNat%6) (EG st.1 o.2.1.toNat) (EG st.1 o.2.2.1.toNat) st.2
noncomputable def Hg (l:List Nu) (x:Nu):Nu:=by
 classical
 exact if l≠[]/\Ka x then l.getLastD JD else x
noncomputable def KV (st:List Nu×Nat) (o:el Bh):List Nu×Nat:=(st.1++[Hn (Hg st.1 (Eu st o).1)],(Eu st o).2)
noncomputable def runN (xs:List (el Bh)):List Nu×Nat:=xs.foldl KV ([],0)
theorem dR (xs:List (el Bh)) (o:el Bh):runN (xs++[o])=KV (runN xs) o:=by rw[runN,List.foldl_append];rfl
def MC (st:List Nu×Nat):Prop:=st.2<=3/\∃V:List Re,V.length<=st.2/\∀n∈st.1,CL V n
theorem CL.trim {V:List Re} {n:Nu} (h:CL V n):CL V (Hn n):=by
 obtain⟨_,t,e⟩:=WW h.red h.mem;refine⟨t.red,by rw[e];exact t.mem,fun v f=>h.BP v (t.BP v f),fun s d q a=>?_,fun q a=>?_⟩
 ·obtain⟨g,c,b⟩:=t.Je s d q a;exact h.Je g c q b
 rw[e] at a;exact h.cos q (t.cos q a)
theorem CL.pC {V:List Re} {n:Nu} (b:BF n.1) (c:In n.1 n.2) (h3:∀v∈Go.Abs.BP n.1,v∈V) (h:¬Ka n):CL V n:=
 ⟨b,c,h3,fun s d q a=>Classical.byContradiction fun hc=>h (.inr ⟨s,d,q,a,hc⟩),fun q a=>Classical.byContradiction fun hc=>h (.inl ⟨q,a,hc⟩)⟩
theorem UI {l:List Nu} (h:l≠[]) (i:Nat):EG l i∈l:=by
 have:i%l.length<l.length:=Nat.mod_lt _ (List.length_pos_iff.2 h);unfold EG;rw[List.getD_eq_getElem?_getD,List.getElem?_eq_getElem this];exact List.getElem_mem this
theorem nG {l:List Nu} (h:l≠[]):l.getLastD JD∈l:=by
 cases l with
 | nil=>exact absurd rfl h
 | cons a l=>rw[List.getLastD_cons];cases l with
  | nil=>exact List.mem_cons_self
  | cons b l=>rw[List.getLastD_eq_getLast?];exact List.mem_cons_of_mem _ (by
   rw[List.getLast?_eq_some_getLast (by simp)];exact List.getLast_mem _)
section
variable {V:List Re} {ns:List Nu}
theorem Lp (hV:V.length<=3) (h:∀n∈ns,CL V n) {S:Nat} (a:Rm<=S) (b:S<=Sm:=by first|omega|decide):EM (Tf (PN ns)) Rm Cm S:=
 ZZ (PN.Kq hV h) (fun {u} hu=>Nat.le_trans (hu.len (PN.Kq hV h) (fun c=>PN.BP h c)) hV) a b
theorem G1 (hV:V.length<=3) (h:∀n∈ns,CL V n) {n:Nu} (a:n∈ns):Tf (PN ns) n.1:=Tf.of (PN.Kq hV h) (PN.self a)
structure Nj (V:List Re) (n:Nu):Prop where
 red:BF n.1
 mem:In n.1 n.2
 BP:∀v∈BP n.1,v∈V
theorem Nj.Rc (hV:V.length<=3) (h:∀n∈ns,CL V n) {n:Nu} (ht:Tf (PN ns) n.1) (hm:In n.1 n.2):Nj V n:=
 ⟨ht.red (PN.Kq hV h),hm,ht.BP (PN.Kq hV h) (fun a=>PN.BP h a)⟩
theorem CL.dG {n:Nu} (h:CL V n):Nj V n:=⟨h.red,h.mem,h.BP⟩
theorem lT (hV:V.length<=3) (h:∀n∈ns,CL V n) {a b:Nu} (ha:a∈ns) (hb:b∈ns):Tf (PN ns) (Bz a.1 b.1)/\In (Bz a.1 b.1) a.2/\In (Bz a.1 b.1) b.2:=by
 have G:=(Lp hV h (Nat.le_refl Rm)).toGam;obtain⟨c,d,h3⟩:=G.Bz (G1 hV h ha) (G1 hV h hb);exact⟨c,d _ (h a ha).mem,h3 _ (h b hb).mem⟩
theorem fE {u:List (List Rat)} {v:Re} (c:In u v):∀x∈BP (Aj u v),x=v\/x∈BP u:=by
 by_cases b:Sq u v
 ·rw[ED b];exact fun x a=> .inr a
 rw[C8 b];intro x a;rcases List.mem_cons.1 a with rfl | a
 ·exact .inl (FR c)
 exact .inr a
theorem Ec {u:List (List Rat)} {v:Re} (h:BF u) (a:In u v) (c:0<=v):BF (Aj u v):=by
 by_cases b:v=0
 ·subst b;rw[ED ⟨0,CZ u,by grind⟩];exact h
 exact Vo h a (by grind)
theorem O6 {st:List Nu×Nat} (h:MC st) (o:el Bh):(Eu st o).2<=3/\∃V,V.length<=(Eu st o).2/\(∀n∈st.1,CL V n)/\Nj V (Eu st o).1:=by
 obtain⟨h3,V,hV,c⟩:=h;have d:=Nat.le_trans hV h3;unfold Eu
 split
 ·exact⟨h3,V,hV,c,trivial,⟨[IL o],rfl,rfl⟩,fun v g=>by simp[Go.Abs.BP] at g⟩
 rename_i hc
 have i:st.1≠[]:=fun e=>hc (.inl e)
 have ha:=UI i o.2.1.toNat;have hb:=UI i o.2.2.1.toNat
 generalize EG st.1 o.2.1.toNat=a at*
 generalize EG st.1 o.2.2.1.toNat=b at*
 obtain⟨j,k,l⟩:=lT d c ha hb;have p:=j.red (PN.Kq d c);unfold Fq
 split
 ·exact⟨h3,V,hV,c,.Rc d c j (ES k l)⟩
 split
 ·exact⟨h3,V,hV,c,.Rc d c j (GM k l)⟩
 split
 ·exact⟨h3,V,hV,c,.Rc d c j (BN p k l)⟩
 split
 ·refine⟨h3,V,hV,c,?_⟩
  dsimp only
  split
  ·exact (c a ha).dG
  rename_i m
  exact .Rc d c j (BN p k (Qx p l m))
 split
 ·rename_i q
  have f:=Zn (c a ha).mem;refine⟨by show st.2+1<=3;omega,FH a.2::V,by show _+1<=st.2+1;omega,fun n hm=>(c n hm).mono fun v g=>List.mem_cons_of_mem _ g,Ec (c a ha).red f (MI _),Sy f (MI _),fun v g=>?_⟩;rcases fE f v g with rfl | g
  ·exact List.mem_cons_self
  exact List.mem_cons_of_mem _ ((c a ha).BP v g)
 exact⟨h3,V,hV,c,(c a ha).dG⟩
end
theorem rL {n:Int} {d:Nat} (b:n.natAbs<18446744073709551616) (c:0<d) (a:d<18446744073709551616):Co (Rat.divInt n d):=by
 have e:(Rat.divInt n d)=mkRat n d:=Rat.divInt_ofNat n d;rw[e]
 constructor
 ·have:=Rat.num_mkRat n d;rw[this]
  split
  ·simp
  refine Nat.lt_of_le_of_lt ?_ b;exact Int.natAbs_ediv_le_natAbs _ _
 have:=Rat.den_mkRat n d;rw[this]
 split
 ·decide
 exact Nat.lt_of_le_of_lt (Nat.div_le_self _ _) a
theorem UZ {V:List Re} {l:List Nu} {x:Nu} (d:∀n∈l,CL V n) (a:Nj V x) (c:l=[]->¬Ka x):CL V (Hg l x):=by
 unfold Hg
 split
 ·rename_i h;exact d _ (nG h.1)
 rename_i h
 refine .pC a.red a.mem a.BP fun b=>?_
 by_cases he:l=[]
 ·exact c he b
 exact h ⟨he,b⟩
theorem Vg (o:el Bh):¬Ka ([],Re.ofRat (IL o)):=by
 have d:Co (IL o):=rL (by have:=We o.2.2.2.1;omega) (by omega) (by omega);rintro (⟨q,c,b⟩ |⟨s,a,_⟩)
 ·rw[Ew] at c;rw[List.mem_singleton.1 c] at b;exact b d
 simp at a
theorem sF {st:List Nu×Nat} (h:MC st) (o:el Bh):MC (KV st o):=by
 obtain⟨b,V,c,h3,d⟩:=O6 h o;refine⟨b,V,c,fun n a=>?_⟩;rcases List.mem_append.1 a with a | a
 ·exact h3 n a
 rw[List.mem_singleton.1 a];refine (UZ h3 d fun he=>?_).trim;have:(Eu st o).1=([],Re.ofRat (IL o)):=by unfold Eu;rw[if_pos (.inl he)]
 rw[this];exact Vg o
theorem dY:∀{xs:List (el Bh)} {st:List Nu×Nat},MC st->MC (xs.foldl KV st)
 | [],_,h=>h
 | o::xs,_,h=>dY (xs:=xs) (sF h o)
theorem V3 (xs:List (el Bh)):MC (runN xs):=dY ⟨by decide,[],by simp,by simp⟩
end Go.Abs
