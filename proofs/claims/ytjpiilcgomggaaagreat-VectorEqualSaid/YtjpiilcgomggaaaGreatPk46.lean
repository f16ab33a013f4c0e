/- Part 47 of a proof. Conditions: each theorem's own. -/
import Derived.Test.YtjpiilcgomggaaaGreatPk45
set_option linter.all false
set_option maxHeartbeats 8000000
open Go.Proofs
namespace Go.Abs
open Go.RowKit
noncomputable def vm (p:Vee):el TE:=(nm p.1,nm p.2)
noncomputable def aX (ns:List Nu) (W:List UInt8):List Vee:=(List.range (W.length/2)).map fun i=>(Du ns (W.getD (2*i) 0).toNat,Du ns (W.getD (2*i+1) 0).toNat)
variable {A:LR} {L:List (el AZ)} {Q:List (el TE)} {V:List Re} {X:List (el Bl)}
theorem cg (ns:List Nu) (W:List UInt8):(aX ns W).length=W.length/2:=by rw[aX,List.length_map,List.length_range]
theorem cH {W:List UInt8} {i:Nat} {x:UInt8} (h:W[i]? =some x):W.getD i 0=x:=by rw[List.getD_eq_getElem?_getD,h];rfl
theorem bz {ns:List Nu} {W:List UInt8} {i:Nat} {x y:UInt8} (hx:W[2*i]? =some x) (a:W[2*i+1]? =some y):(aX ns W).take (i+1)=(aX ns W).take i++[(Du ns x.toNat,Du ns y.toNat)]:=by
 have b:=GA a
 have h:(aX ns W)[i]? =some (Du ns x.toNat,Du ns y.toNat):=by
  rw[aX,List.getElem?_map,List.getElem?_range (by omega)]
  show some (Du ns (W.getD (2*i) 0).toNat,Du ns (W.getD (2*i+1) 0).toNat)=_
  rw[cH hx,cH a]
 exact BG h
theorem bj (ns:List Nu) (i:Nat):Du ns i∈ns\/Du ns i=Gz:=by
 by_cases h:ns=[]
 ·right;subst h;rfl
 exact .inl (MJ h i)
theorem ch {ns:List Nu} {W:List UInt8} {p:Vee} (h:p∈aX ns W):(p.1∈ns\/p.1=Gz)/\(p.2∈ns\/p.2=Gz):=by
 obtain⟨i,_,rfl⟩:=List.mem_map.1 h;exact⟨bj _ _,bj _ _⟩
theorem cf {ns:List Nu} {W:List UInt8} (d:V.length<=3) (h:∀n∈ns,BI V n) {i:Nat} {x:el TE} (f:Q=(aX ns W).map vm) (hx:Q[i]? =some x):∃p,(aX ns W)[i]? =some p/\Wvv (Tf (PN ns)) (Lvv 0) x.1.1 x.1.2 x.2.1 x.2.2 p:=by
 rw[f,List.getElem?_map] at hx;cases c:(aX ns W)[i]? with
 | none=>rw[c] at hx;simp at hx
 | some p=>
  rw[c] at hx;have e:vm p=x:=Option.some.inj hx;obtain⟨m1,m2⟩:=ch (List.mem_of_getElem? c);have a:=bu d h m1;have b:=bu d h m2;rw[<-e];exact⟨p,rfl,⟨⟨a.2,rfl,rfl,a.1⟩,⟨b.2,rfl,rfl,b.1⟩⟩⟩
theorem cO {i:Int} (d:L=[]) (hA:A=em [] 0):CF 64 [.one (.sl AZ L),.one (.int .i64 i)] (.agg [.sl (.sl AA) (([]:List LR)),.sl AA A]):=by
 have f:L.length=0:=by rw[d];rfl
 refine AE Tryz.func64 (by kernel_rfl) rfl fun E c=>?_
 conv=>cbv
 rintro j ⟨h,f6⟩;conv=>cbv
 intro g a;conv=>cbv
 cases g <;> conv=>cbv
 ·have b:=Ac a;exact absurd b (by omega)
 have b:=Ad a;refine cL (r:= .agg [.sl (.sl AA) (([]:List LR)),.sl AA A]) c (cP (x:=0) (by decide) (by rw[hA];rfl)) t1 ?_;try conv=>cbv
 exact fA ⟨t3,trivial⟩ rfl (by simp)
theorem bJ {ns:List Nu} {i:Int} {i':Nat} {n:Nu} {T:List LR} (a:L=ns.map nm) (c:AK i i') (b:n=Du ns i') (hT:T=tw n.1) (hA:A=em n.1 n.2):CF 64 [.one (.sl AZ L),.one (.int .i64 i)] (.agg [.sl (.sl AA) T,.sl AA A]):=by
 by_cases h:ns=[]
 ·subst h;have e:n=Gz:=b;rw[e] at hT hA;rw[show T=[] from hT];exact cO a hA
 exact UR a h c b hT hA
theorem c6 {W:List UInt8} {ns:List Nu} (g:ns=(runN (X.take 24)).1) (p:V.length<=3) (c:∀n∈ns,BI V n) (u:24<W.length):CF 104 [.agg [.sl Bl X,.sl .u8 W]] (.AG [(false,[.sl TE (([]:List (el TE)))]),(false,[.bool false])]):=by
 refine AE Tryz.func104 (by kernel_rfl) rfl fun E j=>?_
 conv=>cbv
 obtain⟨L9,b⟩:∃z:List (el AZ),z=ns.map nm:=⟨_,rfl⟩
 refine cL (r:= .one (.sl AZ L9)) j (OK (by rw[b,g])) t1 ?_;try conv=>cbv
 refine cL j (UQ b (fun n l=>⟨(c n l).cos,(c n l).EU⟩)) t1 ?_;try conv=>cbv
 intro s f;cases f.trans (rfl:_=false);conv=>cbv
 rintro t ⟨o,f16⟩;conv=>cbv
 intro h a;conv=>cbv
 cases h <;> conv=>cbv
 ·have d:=BZ a;exact absurd d (by omega)
 have d:=Ba a;exact fA ⟨⟨rfl,.inr (.inl ⟨_,rfl⟩),trivial⟩,t2,trivial⟩ rfl (by simp)
theorem c7 {W:List UInt8} {ns:List Nu} (af:ns=(runN (X.take 24)).1) (ar:V.length<=3) (Y:∀n∈ns,BI V n) (hW:W.length<=24) (hQ:Q=(aX ns W).map vm):CF 104 [.agg [.sl Bl X,.sl .u8 W]] (.AG [(false,[.sl TE Q]),(false,[.bool true])]):=by
 have aw:=cg ns W;refine AE Tryz.func104 (by kernel_rfl) rfl fun E N=>?_
 conv=>cbv
 obtain⟨L9,w⟩:∃z:List (el AZ),z=ns.map nm:=⟨_,rfl⟩
 refine cL (r:= .one (.sl AZ L9)) N (OK (by rw[w,af])) t1 ?_;try conv=>cbv
 refine cL N (UQ w (fun n hn=>⟨(Y n hn).cos,(Y n hn).EU⟩)) t1 ?_;try conv=>cbv
 intro ay a7;cases a7.trans (rfl:_=false);conv=>cbv
 rintro az ⟨aq,f16⟩;conv=>cbv
 intro ag P;conv=>cbv
 cases ag <;> conv=>cbv
 ·have Z:=BZ P;refine .inr ?_;obtain⟨J0,G⟩:=xJ fun vs bl k=>(∃(k':Nat) (j:Int),vs=[.one (.An 1 0 0),.one (.sl AZ L9),.one .nil,.one (.int .i64 j)]/\bl=[.var 0 [.sl Bl X,.sl .u8 W],.dead 0]/\(AK j (2*k')/\k'=0)/\k=W.length/2-k')\/(∃(o:List (el TE)) (n k':Nat) (j:Int),vs=[.one (.An 1 0 0),.one (.sl AZ L9),.one (.AL TE 47 0 0 n),.one (.int .i64 j)]/\bl=[.var 0 [.sl Bl X,.sl .u8 W],.arr 0 TE o]/\(AK j (2*k')/\k'<=W.length/2/\n=o.length)/\o=((aX ns W).take k').map vm/\k=W.length/2-k')
  refine⟨[1,4,5,6],[1,47],J0,⟨W.length/2-0,by rw[G];exact .inl ⟨0,0,rfl,rfl,⟨Ai 0,rfl⟩,rfl⟩⟩,?_⟩;intro vs bl ax O;rw[G] at O;rcases O with⟨k',j,rfl,rfl,⟨O,S⟩,ae⟩ |⟨o,n,k',j,rfl,rfl,⟨O,au,hn⟩,hinv,ae⟩
  ·conv=>cbv
   have ej:=O.eq;intro ah a8;conv=>cbv
   refine g1 (by omega) ?_;rintro ai ⟨a2,f23⟩;conv=>cbv
   intro K x;conv=>cbv
   cases K <;> conv=>cbv
   ·have I:=AR x;exact fA ⟨⟨rfl,.inr (.inl ⟨_,congrArg _ (by rw[hQ,List.eq_nil_of_length_eq_zero (show (aX ns W).length=0 by omega)];rfl)⟩),trivial⟩,t2,trivial⟩ rfl (by simp)
   have I:=AS x;refine .inr ?_;obtain⟨a,h⟩:=AF (l:=W) (i:=(2*k')) (by omega);refine⟨a,fun _=>⟨by omega,by rw[show (j).toNat=(2*k') by omega];exact h⟩,?_⟩;try conv=>cbv
   intro ak y;have a5:=y.eq;have f33:=y.lt;conv=>cbv
   intro al B;conv=>cbv
   have B:=wrap_i64 B;obtain⟨u,f⟩:=B9 (tw (Du ns a.toNat).1);obtain⟨s,c⟩:=BB (em (Du ns a.toNat).1 (Du ns a.toNat).2);refine cL N (bJ w ⟨by omega⟩ rfl f c) t2 ?_;try conv=>cbv
   intro M ab;conv=>cbv
   refine g1 (by omega) ?_;obtain⟨b,p⟩:=AF (l:=W) (i:=(2*k'+1)) (by omega);refine⟨b,fun _=>⟨by omega,by rw[show (M).toNat=(2*k'+1) by omega];exact p⟩,?_⟩;try conv=>cbv
   intro an D;have a6:=D.eq;have f42:=D.lt;conv=>cbv
   intro ao F;conv=>cbv
   have F:=wrap_i64 F;obtain⟨v,g⟩:=B9 (tw (Du ns b.toNat).1);obtain⟨t,d⟩:=BB (em (Du ns b.toNat).1 (Du ns b.toNat).2);refine cL N (bJ w ⟨by omega⟩ rfl g d) t2 ?_;try conv=>cbv
   refine⟨[((u,s),(v,t))],fun _=>⟨rfl,by decide,rfl,⟨rfl,by first | exact t1 | exact t2 | exact t4 | simp[Ae,Ak,cells],trivial⟩⟩,.inr ?_⟩;try conv=>cbv
   refine .inl ⟨[((u,s),(v,t))],fun _=>⟨rfl,by show (1)*96<=140737488355328;(try simp only[List.length_take,List.length_drop]);omega⟩,?_⟩;intro a1 ad;conv=>cbv
   refine⟨fun _=>by kernel_rfl,?_⟩;intro aj aa;conv=>cbv
   refine g1 (by omega) ?_;refine⟨W.length/2-(k'+1),?_,?_⟩
   ·omega
   rw[G];exact .inr ⟨_,_,k'+1,_,rfl,rfl,⟨⟨by omega⟩,by omega,ad⟩,by rw[bz h p,List.map_append,f,c,g,d,S];rfl,rfl⟩
  conv=>cbv
  have ej:=O.eq;have av:o.length<=12:=by rw[hinv,List.length_map,List.length_take];omega
  intro ah a8;conv=>cbv
  refine g1 (by omega) ?_;rintro ai ⟨a2,f23⟩;conv=>cbv
  intro K x;conv=>cbv
  cases K <;> conv=>cbv
  ·have I:=AR x;exact fA ⟨⟨rfl,.inl ⟨_,rfl,by omega,congrArg _ (by rw[hQ,hn,List.drop_zero,List.take_length,hinv,List.take_of_length_le (by omega)])⟩,trivial⟩,t2,trivial⟩ rfl (by simp)
  have I:=AS x;refine .inr ?_;obtain⟨a,h⟩:=AF (l:=W) (i:=(2*k')) (by omega);refine⟨a,fun _=>⟨by omega,by rw[show (j).toNat=(2*k') by omega];exact h⟩,?_⟩;try conv=>cbv
  intro ak y;have a5:=y.eq;have f33:=y.lt;conv=>cbv
  intro al B;conv=>cbv
  have B:=wrap_i64 B;obtain⟨u,f⟩:=B9 (tw (Du ns a.toNat).1);obtain⟨s,c⟩:=BB (em (Du ns a.toNat).1 (Du ns a.toNat).2);refine cL N (bJ w ⟨by omega⟩ rfl f c) t2 ?_;try conv=>cbv
  intro M ab;conv=>cbv
  refine g1 (by omega) ?_;obtain⟨b,p⟩:=AF (l:=W) (i:=(2*k'+1)) (by omega);refine⟨b,fun _=>⟨by omega,by rw[show (M).toNat=(2*k'+1) by omega];exact p⟩,?_⟩;try conv=>cbv
  intro an D;have a6:=D.eq;have f42:=D.lt;conv=>cbv
  intro ao F;conv=>cbv
  have F:=wrap_i64 F;obtain⟨v,g⟩:=B9 (tw (Du ns b.toNat).1);obtain⟨t,d⟩:=BB (em (Du ns b.toNat).1 (Du ns b.toNat).2);refine cL N (bJ w ⟨by omega⟩ rfl g d) t2 ?_;try conv=>cbv
  refine⟨[((u,s),(v,t))],fun _=>⟨rfl,by decide,rfl,⟨rfl,by first | exact t1 | exact t2 | exact t4 | simp[Ae,Ak,cells],trivial⟩⟩,.inr ?_⟩;try conv=>cbv
  refine .inl ⟨[((u,s),(v,t))],fun _=>⟨rfl,by (first | rfl | omega),rfl,by show (o.length+1)*96<=140737488355328;(try simp only[List.length_take,List.length_drop]);omega⟩,?_⟩;intro (J:List (el TE)) a1 H;have T:J=(o:List (el TE))++([((u,s),(v,t))]:List (el TE)):=H.1;have U:a1=List.length (α:=(el TE)) J:=H.2;conv=>cbv
  refine⟨fun _=>by kernel_rfl,?_⟩;intro aj aa;conv=>cbv
  refine g1 (by omega) ?_;refine⟨W.length/2-(k'+1),?_,?_⟩
  ·omega
  rw[G];exact .inr ⟨J,_,k'+1,_,rfl,rfl,⟨⟨by omega⟩,by omega,U⟩,by rw[T,hinv,bz h p,List.map_append,f,c,g,d];rfl,rfl⟩
 have Z:=Ba P;exact absurd Z (by omega)
end Go.Abs
namespace Go.Abs
open Go.RowKit
noncomputable def ag (ns:List Nu) (W:List UInt8):List (el TE):=if W.length<=24 then (aX ns W).map vm else []
variable {A1 A2:LR} {C R i' k m:Nat} {Q:List (el TE)} {T1 T2:List LR} {TT:List (List Rat)->Prop} {V:List Re} {X:List (el Bl)} {c:Bool} {i:Int} {ns:List Nu} {q:Rat}
theorem bA (h:Bf q):El [] (Lvv 0) (Re.ofRat q):=(El.rat (u:=[]) trivial (q:=q) (Ee (a:=[q]) (fun x hx=>by rw[List.mem_singleton.1 hx];exact h))).mono (show 64<=Lvv 0 by decide)
theorem aq (F:Ctx TT Rm Cm Lvv 7) {p:Rat} (b:Bf p) (c:Bf q):∃A a,Wvv TT (Lvv 0) [] A [] a (qV p q):=by
 obtain⟨A,h⟩:=Nvv.rat F (Nat.zero_le _) (bA b);obtain⟨a,h'⟩:=Nvv.rat F (Nat.zero_le _) (bA c);exact⟨A,a,h,h'⟩
theorem a7 (F:Ctx TT Rm Cm Lvv 7) (a:k<=7):El [] (Lvv k) (Re.ofRat (1/2)):=(bA (by decide +kernel)).mono (F.mono a (Nat.zero_le _))
theorem cS (a b:Nat) (f:a<18446744073709551616) (g:b<18446744073709551616):Ctx (Tf (PN [A6 a,A6 b])) Rm Cm Lvv 7/\Tf (PN [A6 a,A6 b]) (A6 a).1/\Tf (PN [A6 a,A6 b]) (A6 b).1:=by
 have c:∀n∈[A6 a,A6 b],BI [qn a,qn b] n:=fun n c=>by
  simp only[List.mem_cons,List.not_mem_nil,or_false] at c;rcases c with rfl | rfl
  ·exact (Cs f).mono (fun v d=>by rw[List.mem_singleton.1 d];simp)
  exact (Cs g).mono (fun v d=>by rw[List.mem_singleton.1 d];simp)
 exact⟨ah (V:=[qn a,qn b]) (show 2<=3 by decide) c,C5 (V:=[qn a,qn b]) (show 2<=3 by decide) c (by simp),C5 (V:=[qn a,qn b]) (show 2<=3 by decide) c (by simp)⟩
theorem cA (a:k<18446744073709551616) (h:TT (A6 k).1):∃T A,Nvv TT (Lvv 0) T A (A6 k):=⟨_,_,h,rfl,rfl,F7 a⟩
theorem bf (a b:Rat) {n:Nat} (h:a*a+b*b=n):aW (qV a b) (qV a b)=MT n:=by
 have e:Al [] []=[]:=HY []
 show (Al (Al [] []) (Al [] []),Re.ofRat a*Re.ofRat a+Re.ofRat b*Re.ofRat b)=([],Re.ofRat n)
 rw[e,e,<-Re.ofRat_mul,<-Re.ofRat_mul,<-Re.ofRat_add,h]
theorem dB {W:List UInt8} (d:ns=(runN (X.take 24)).1) (b:V.length<=3) (f:∀n∈ns,BI V n) (p:AK i i') (l:W.length<=24) (j:Q=(aX ns W).map vm) (o:c=decide (i'<=Q.length)):CF 30 [.agg [.sl Bl X,.sl .u8 W],.one (.int .i64 i)] (.AG [(false,[.sl TE Q]),(false,[.bool c])]):=by
 have t:=p.eq;refine AE Tryz.func30 (by kernel_rfl) rfl fun E h=>?_
 conv=>cbv
 refine cL h (c7 d b f l j) ⟨t2,trivial⟩ ?_;try conv=>cbv
 rintro r ⟨g,f17⟩;conv=>cbv
 intro s a;conv=>cbv
 exact fA ⟨t2,⟨rfl,congrArg _ (by rw[o,a,Bool.eq_iff_iff,decide_eq_true_eq,decide_eq_true_eq];omega),trivial⟩,trivial⟩ rfl (by simp)
theorem dA {W:List UInt8} (b:ns=(runN (X.take 24)).1) (a:V.length<=3) (c:∀n∈ns,BI V n) (f:24<W.length):CF 30 [.agg [.sl Bl X,.sl .u8 W],.one (.int .i64 i)] (.AG [(false,[.sl TE (([]:List (el TE)))]),(false,[.bool false])]):=by
 refine AE Tryz.func30 (by kernel_rfl) rfl fun E d=>?_
 conv=>cbv
 refine cL d (c6 b a c f) ⟨t2,trivial⟩ ?_;try conv=>cbv
 exact fA ⟨t2,t2,trivial⟩ rfl (by simp)
theorem a8 {W:List UInt8} (b:ns=(runN (X.take 24)).1) (a:V.length<=3) (d:∀n∈ns,BI V n) (f:Q=ag ns W) (h:AK i i') (j:0<i') (g:c=decide (i'<=Q.length)):CF 30 [.agg [.sl Bl X,.sl .u8 W],.one (.int .i64 i)] (.AG [(false,[.sl TE Q]),(false,[.bool c])]):=by
 unfold ag at f
 split at f
 ·exact dB b a d h (by assumption) f g
 subst f;rw[g,decide_eq_false (by simp;omega)];exact dA b a d (by omega)
theorem aZ {W:List UInt8} (b:V.length<=3) (h:∀n∈ns,BI V n) {i:Nat} {x:el TE} (a:Q=ag ns W) (hx:Q[i]? =some x):∃p,Wvv (Tf (PN ns)) (Lvv 0) x.1.1 x.1.2 x.2.1 x.2.2 p:=by
 unfold ag at a
 split at a
 ·obtain⟨p,_,c⟩:=cf b h a hx;exact⟨p,c⟩
 subst a;simp at hx
theorem bR {L:Nat->Nat} (F:Ctx TT R C L m) {a b:Nu} (h:k<m) (g:Nvv TT (L k) T1 A1 a) (j:Nvv TT (L k) T2 A2 b) (he:a.2=b.2):CF 36 [.agg [.sl (.sl AA) T1,.sl AA A1],.one (.int .i64 0),.agg [.sl (.sl AA) T2,.sl AA A2],.one (.int .i64 0)] (.one (.bool true)):=by
 refine AE Tryz.func36 (by kernel_rfl) rfl fun E f=>?_
 conv=>cbv
 intro l c;cases c.trans (show _=true by decide);conv=>cbv
 intro n d;cases d.trans (show _=true by decide);conv=>cbv
 refine cL f (bO F (Nat.le_of_lt h) g) ⟨t2,trivial⟩ ?_;try conv=>cbv
 refine cL (r:= .one (.bool true)) f (ay F h g j (by simp[he])) ⟨t2,t2,trivial⟩ ?_;try conv=>cbv
 exact fA ⟨t2,trivial⟩ rfl (by simp)
theorem bm {L:Nat->Nat} (F:Ctx TT R C L m) {T3 T4:List LR} {A3 A4:LR} {p q:Vee} (d:k<m) (f:Wvv TT (L k) T1 A1 T2 A2 p) (g:Wvv TT (L k) T3 A3 T4 A4 q) (he:au p q):CF 42 [.agg [.sl (.sl AA) T1,.sl AA A1,.sl (.sl AA) T2,.sl AA A2],.one (.int .i64 0),.agg [.sl (.sl AA) T3,.sl AA A3,.sl (.sl AA) T4,.sl AA A4],.one (.int .i64 0)] (.one (.bool true)):=by
 refine AE Tryz.func42 (by kernel_rfl) rfl fun E c=>?_
 conv=>cbv
 intro h a;cases a.trans (show _=true by decide);conv=>cbv
 intro j b;cases b.trans (show _=true by decide);conv=>cbv
 refine cL c (dD F (Nat.le_of_lt d) f) ⟨t4,trivial⟩ ?_;try conv=>cbv
 refine cL (r:= .one (.bool true)) c (cu F d f g (by simp[he])) ⟨t4,t4,trivial⟩ ?_;try conv=>cbv
 exact fA ⟨t2,trivial⟩ rfl (by simp)
theorem aa:CF 31 [] (.one (.bool true)):=by
 obtain⟨F,t25,P⟩:=cS 25 2 (by decide) (by decide);refine AE Tryz.func31 (by kernel_rfl) rfl fun E a=>?_
 conv=>cbv
 obtain⟨ae,af,d⟩:=aq F (p:=((1:Int):Rat)) (q:=((0:Int):Rat)) (by decide +kernel) (by decide +kernel);refine cL a (az (x:=1) (y:=0) (by decide) (by decide) d.x.hA d.y.hA) t2 ?_;try conv=>cbv
 obtain⟨ag,ah,f⟩:=aq F (p:=((0:Int):Rat)) (q:=((1:Int):Rat)) (by decide +kernel) (by decide +kernel);refine cL a (az (x:=0) (y:=1) (by decide) (by decide) f.x.hA f.y.hA) t2 ?_;try conv=>cbv
 obtain⟨_,O⟩:=d.left F (by decide);obtain⟨aX,aN,z⟩:=O.dot F (by decide) f;refine cL a (bC F (by decide) d f z) ⟨t4,t4,trivial⟩ ?_;try conv=>cbv
 obtain⟨ai,an,t⟩:=aq F (p:=((3:Int):Rat)) (q:=((4:Int):Rat)) (by decide +kernel) (by decide +kernel);refine cL a (az (x:=3) (y:=4) (by decide) (by decide) t.x.hA t.y.hA) t2 ?_;try conv=>cbv
 have o:aW (qV ((3:Int):Rat) ((4:Int):Rat)) (qV ((3:Int):Rat) ((4:Int):Rat))=MT 25:=bf _ _ (by decide +kernel);obtain⟨U,S,B⟩:=cA (k:=25) (by decide) t25;refine cL (r:= .AG [(true,[.sl (.sl AA) U,.sl AA S]),(false,[.int .i64 0])]) a (cF F (by decide) t (by decide) (by rw[o];exact t25) (by rw[o];exact DU 25) (by rw[o];exact B) (by decide)) ⟨t4,trivial⟩ ?_;try conv=>cbv
 obtain⟨ao,ar,u⟩:=aq F (p:=((1:Int):Rat)) (q:=((1:Int):Rat)) (by decide +kernel) (by decide +kernel);refine cL a (az (x:=1) (y:=1) (by decide) (by decide) u.x.hA u.y.hA) t2 ?_;try conv=>cbv
 have s:aW (qV ((1:Int):Rat) ((1:Int):Rat)) (qV ((1:Int):Rat) ((1:Int):Rat))=MT 2:=bf _ _ (by decide +kernel);obtain⟨V,T,b⟩:=cA (k:=2) (by decide) P;refine cL (r:= .AG [(true,[.sl (.sl AA) V,.sl AA T]),(false,[.int .i64 0])]) a (cF F (by decide) u (by decide) (by rw[s];exact P) (by rw[s];exact DU 2) (by rw[s];exact b) (by decide)) ⟨t4,trivial⟩ ?_;try conv=>cbv
 obtain⟨aY,aO,D⟩:=b.mul F (by decide) b;refine cL a (bG F (by decide) b b D) ⟨t2,t2,trivial⟩ ?_;try conv=>cbv
 obtain⟨av,aw,g⟩:=aq F (p:=((0:Int):Rat)) (q:=((0:Int):Rat)) (by decide +kernel) (by decide +kernel);refine cL a (az (x:=0) (y:=0) (by decide) (by decide) g.x.hA g.y.hA) t2 ?_;try conv=>cbv
 obtain⟨ax,ay,h⟩:=aq F (p:=((1:Int):Rat)) (q:=((3:Int):Rat)) (by decide +kernel) (by decide +kernel);refine cL a (az (x:=1) (y:=3) (by decide) (by decide) h.x.hA h.y.hA) t2 ?_;try conv=>cbv
 obtain⟨aZ,aP,b0,aQ,G⟩:=g.aj F (by decide) (a7 F (by decide)) h;refine cL a (bX F (by decide) (a7 F (by decide)) g h G) ⟨t4,t4,trivial⟩ ?_;try conv=>cbv
 obtain⟨aR,H⟩:=Nvv.rat F (k:=0) (by decide) (q:=((1:Int):Rat)) (bA (by decide +kernel));refine cL a (JG (x:=1) (by decide) (Fp (by decide +kernel)) H.hA) t1 ?_;try conv=>cbv
 have W:(ak (qV ((1:Int):Rat) ((0:Int):Rat)) (qV ((0:Int):Rat) ((1:Int):Rat))).2=Re.ofRat ((1:Int):Rat):=by
  show -Re.ofRat ((0:Int):Rat)*Re.ofRat ((0:Int):Rat)+Re.ofRat ((1:Int):Rat)*Re.ofRat ((1:Int):Rat)=_
  rw[<-Re.ofRat_neg,<-Re.ofRat_mul,<-Re.ofRat_mul,<-Re.ofRat_add];exact congrArg _ (by decide +kernel)
 refine cL a (bF F (by decide) z (H.up F (by decide) (by decide)) (c:=true) ⟨fun _=>W,fun _=>rfl⟩) ⟨t2,t2,trivial⟩ ?_;try conv=>cbv
 intro B4 a5;cases a5.trans (show _=true by decide);conv=>cbv
 obtain⟨aA,aB,j⟩:=aq F (p:=((3:Int):Rat)) (q:=((4:Int):Rat)) (by decide +kernel) (by decide +kernel);refine cL a (az (x:=3) (y:=4) (by decide) (by decide) j.x.hA j.y.hA) t2 ?_;try conv=>cbv
 obtain⟨aS,I⟩:=j.left F (by decide);refine cL a (bW F (by decide) j I) ⟨t4,trivial⟩ ?_;try conv=>cbv
 obtain⟨aC,aD,v⟩:=aq F (p:=((-4:Int):Rat)) (q:=((3:Int):Rat)) (by decide +kernel) (by decide +kernel);refine cL a (az (x:= -4) (y:=3) (by decide) (by decide) v.x.hA v.y.hA) t2 ?_;try conv=>cbv
 have Y:au (bE (qV ((3:Int):Rat) ((4:Int):Rat))) (qV ((-4:Int):Rat) ((3:Int):Rat)):=⟨by show -Re.ofRat ((4:Int):Rat)=Re.ofRat ((-4:Int):Rat);rw[<-Re.ofRat_neg];exact congrArg _ (by decide +kernel),rfl⟩;refine cL a (bL F (by decide) I v (c:=true) ⟨fun _=>Y,fun _=>rfl⟩) ⟨t4,t4,trivial⟩ ?_;try conv=>cbv
 obtain⟨aT,J⟩:=Nvv.rat F (k:=0) (by decide) (q:=((5:Int):Rat)) (bA (by decide +kernel));refine cL a (JG (x:=5) (by decide) (Fp (by decide +kernel)) J.hA) t1 ?_;try conv=>cbv
 have Z:(A6 25).2=Re.ofRat ((5:Int):Rat):=by
  show Re.sqrt (qn (5*5))=_
  rw[Nb 5 5,Re.CB (DU 5)];rfl
 refine cL a (bF F (by decide) B J (c:=true) ⟨fun _=>Z,fun _=>rfl⟩) ⟨t2,t2,trivial⟩ ?_;try conv=>cbv
 intro b1 a6;cases a6.trans (show _=true by decide);conv=>cbv
 intro b2 a8;cases a8.trans (show _=true by decide);conv=>cbv
 intro b3 ab;cases ab.trans (show _=true by decide);conv=>cbv
 obtain⟨aU,K⟩:=Nvv.rat F (k:=0) (by decide) (q:=((2:Int):Rat)) (bA (by decide +kernel));refine cL a (JG (x:=2) (by decide) (Fp (by decide +kernel)) K.hA) t1 ?_;try conv=>cbv
 have a1:(al (A6 2) (A6 2)).2=Re.ofRat ((2:Int):Rat):=Re.CB (DU 2);refine cL a (bF F (by decide) D (K.up F (by decide) (by decide)) (c:=true) ⟨fun _=>a1,fun _=>rfl⟩) ⟨t2,t2,trivial⟩ ?_;try conv=>cbv
 intro b4 ad;cases ad.trans (show _=true by decide);conv=>cbv
 obtain⟨aF,aJ,aH,aL,l⟩:=A9 (1/2:Rat);have M:(1/2:Rat)=Rat.divInt 1 2:=by decide +kernel
 refine cL a (G6 (by decide) (by decide) (by decide) M l) t2 ?_;try conv=>cbv
 obtain⟨aG,aK,aI,aM,n⟩:=A9 (3/2:Rat);have N:(3/2:Rat)=Rat.divInt 3 2:=by decide +kernel
 refine cL a (G6 (by decide) (by decide) (by decide) N n) t2 ?_;try conv=>cbv
 obtain⟨aV,aE,w⟩:=aq F (p:=1/2) (q:=3/2) (by decide +kernel) (by decide +kernel);refine cL a (cn l n (Fp (by decide +kernel:Bf (1/2:Rat))) (Fp (by decide +kernel:Bf (3/2:Rat))) w.x.hA w.y.hA) ⟨t4,t4,trivial⟩ ?_;try conv=>cbv
 have a2:au (bB (qV ((0:Int):Rat) ((0:Int):Rat)) (qV ((1:Int):Rat) ((3:Int):Rat))) (qV (1/2) (3/2)):=by
  constructor
  ·show (Re.ofRat ((0:Int):Rat)+Re.ofRat ((1:Int):Rat))*Re.ofRat (1/2)=Re.ofRat (1/2)
   rw[<-Re.ofRat_add,<-Re.ofRat_mul];exact congrArg _ (by decide +kernel)
  show (Re.ofRat ((0:Int):Rat)+Re.ofRat ((3:Int):Rat))*Re.ofRat (1/2)=Re.ofRat (3/2)
  rw[<-Re.ofRat_add,<-Re.ofRat_mul];exact congrArg _ (by decide +kernel)
 refine cL a (bL F (by decide) G (w.up F (by decide) (by decide)) (c:=true) ⟨fun _=>a2,fun _=>rfl⟩) ⟨t4,t4,trivial⟩ ?_;try conv=>cbv
 refine⟨fun _=>YB (by kernel_rfl),?_⟩;exact fA ⟨t2,trivial⟩ rfl (by simp)
end Go.Abs
