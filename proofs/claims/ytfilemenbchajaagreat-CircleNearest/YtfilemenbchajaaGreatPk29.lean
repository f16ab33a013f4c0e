/- Part 30 of a proof. Conditions: each theorem's own. -/
import Derived.Test.YtfilemenbchajaaGreatPk26
import Derived.Test.YtfilemenbchajaaGreatPk28
set_option linter.all false
set_option maxHeartbeats 8000000
set_option maxRecDepth 20000
open Go.Proofs
namespace Go.Abs
open Go.RowKit
variable {C X Z:LR} {R i zn:Nat} {T:List LR} {b1 b2:Bool} {l1 l2:List UInt32} {q:Rat} {u:List (List Rat)} {xs:List Rat}
theorem HC {x:el AA} (b:X=Ao xs) (a:X[i]? =some x):∃q,BM q x.1.1 x.1.2 x.2.1 x.2.2/\xs[i]? =some q/\x=rp q:=by
 rw[b,Ao,List.getElem?_map] at a;cases h:xs[i]? with
 | none=>rw[h] at a;simp at a
 | some q=>
  rw[h] at a;have e:x=rp q:=(Option.some.inj a).symm;exact⟨q,by rw[e];exact E1 q,rfl,e⟩
theorem Mm (h:xs[i]? =some q):Ao (xs.take (i+1))=Ao (xs.take i)++[rp q]:=by
 rw[Bi h,Ao,Ao,List.map_append];rfl
theorem Qx {c:Bool} (v:X=Ao xs) (w:c=decide (∀q∈xs,q=0)):CF 224 [.one (.sl AA X)] (.one (.bool c)):=by
 have D:X.length=xs.length:=by rw[v,List.length_map]
 refine AH Tryz.func224 (by kernel_rfl) rfl fun E Q=>?_
 conv=>cbv
 refine .inr ?_;obtain⟨A,d⟩:=xJ fun vs B k=>∃(i':Nat) (i:Int),vs=[.one (.sl AA X),.one (.int .i64 i)]/\(AS i i'/\i'<=X.length)/\(∀q∈xs.take i',q=0)/\k=X.length-i'
 refine⟨[0,3],[],A,⟨X.length-0,by rw[d];exact⟨0,0,rfl,⟨BC 0,by omega⟩,by simp,rfl⟩⟩,?_⟩;intro vs B K x;rw[d] at x;obtain⟨i',i,rfl,⟨F,G⟩,hinv,H⟩:=x;conv=>cbv
 have O:=F.eq;rintro S ⟨N,f6⟩;conv=>cbv
 intro L t;conv=>cbv
 cases L <;> conv=>cbv
 ·have J:=Ad t;exact fA ⟨⟨rfl,congrArg _ (by rw[w,decide_eq_true];intro z a;rw[<-List.take_of_length_le (show xs.length<=i' by omega)] at a;exact hinv z a),trivial⟩,trivial⟩ rfl (by simp)
 have J:=Ae t;refine .inr ?_;obtain⟨j,b⟩:=AG (l:=X) (i:=i') (by omega);refine⟨j,fun _=>⟨by omega,by rw[show (i).toNat=i' by omega];exact b⟩,?_⟩;try conv=>cbv
 obtain⟨q,y,g,I⟩:=HC v b;rintro p ⟨m,f16⟩;conv=>cbv
 have s:p=((List.length (α:=UInt32) j.1.2:Nat):Int):=m;intro r f;conv=>cbv
 cases r <;> conv=>cbv
 ·have o:=CA f;intro M P;conv=>cbv
  refine g1 (by omega) ?_;refine⟨X.length-(i'+1),?_,?_⟩
  ·omega
  rw[d];refine⟨i'+1,M,rfl,⟨⟨by omega⟩,by omega⟩,?_,rfl⟩;intro z a;rw[Bi g] at a;rcases List.mem_append.1 a with a | a
  ·exact hinv z a
  rw[List.mem_singleton.1 a];exact Rat.num_eq_zero.1 (y.num.Eb.1 (by omega))
 have o:=CB f;have n:q≠0:=fun e=>by have:=y.num.Eb.2 (Rat.num_eq_zero.2 e);omega
 exact fA ⟨⟨rfl,congrArg _ (by rw[w,decide_eq_false];exact fun h=>n (h q (List.mem_of_getElem? g))),trivial⟩,trivial⟩ rfl (by simp)
theorem Q4 {n:Int} (m:X=Ao xs) (D:DL xs) (N:n=(xs.length:Int)):CF 277 [.one (.sl AA X),.one (.int .i64 n)] (.one (.bool true)):=by
 have w:X.length=xs.length:=by rw[m,List.length_map]
 refine AH Tryz.func277 (by kernel_rfl) rfl fun E v=>?_
 conv=>cbv
 refine .inr ?_;obtain⟨p,b⟩:=xJ fun vs r k=>∃(i':Nat) (i:Int),vs=[.one (.sl AA X),.one (.int .i64 n),.one (.int .i64 i)]/\(AS i i'/\i'<=X.length)/\k=X.length-i'
 refine⟨[0,1,5],[],p,⟨X.length-0,by rw[b];exact⟨0,0,rfl,⟨BC 0,by omega⟩,rfl⟩⟩,?_⟩;intro vs r G o;rw[b] at o;obtain⟨i',i,rfl,⟨x,y⟩,z⟩:=o;conv=>cbv
 have M:=x.eq;rintro O ⟨L,f8⟩;conv=>cbv
 intro K j;conv=>cbv
 cases K <;> conv=>cbv
 ·have F:=Ad j;rintro I ⟨s,f19⟩;conv=>cbv
  intro J d;conv=>cbv
  exact fA ⟨⟨rfl,congrArg _ (by rw[d];simp;omega),trivial⟩,trivial⟩ rfl (by simp)
 have F:=Ae j;refine .inr ?_;obtain⟨h,a⟩:=AG (l:=X) (i:=i') (by omega);refine⟨h,fun _=>⟨by omega,by rw[show (i).toNat=i' by omega];exact a⟩,?_⟩;try conv=>cbv
 obtain⟨q,A,B,f⟩:=Fa m D a;refine cL v (Xm A f) ⟨t4,trivial⟩ ?_;try conv=>cbv
 intro H c;cases c.trans (rfl:_=false);conv=>cbv
 intro g t;conv=>cbv
 refine g1 (by omega) ?_;refine⟨X.length-(i'+1),?_,?_⟩
 ·omega
 rw[b];exact⟨i'+1,g,rfl,⟨⟨by omega⟩,by omega⟩,rfl⟩
theorem Qt (h:Al R u) (p:T=tw u):CF 276 [.one (.sl (.sl AA) T)] (.one (.bool true)):=by
 have x:T.length=u.length:=by rw[p,BU]
 have z:=h.ht;refine AH Tryz.func276 (by kernel_rfl) rfl fun E w=>?_
 conv=>cbv
 refine .inr ?_;obtain⟨t,b⟩:=xJ fun vs v k=>∃(i':Nat) (i:Int),vs=[.one (.sl (.sl AA) T),.one (.int .i64 i)]/\(AS i i'/\i'<=T.length)/\k=T.length-i'
 refine⟨[0,3],[],t,⟨T.length-0,by rw[b];exact⟨0,0,rfl,⟨BC 0,by omega⟩,rfl⟩⟩,?_⟩;intro vs v G s;rw[b] at s;obtain⟨i',i,rfl,⟨A,B⟩,D⟩:=s;conv=>cbv
 have M:=A.eq;rintro O ⟨L,f6⟩;conv=>cbv
 intro J o;conv=>cbv
 cases J <;> conv=>cbv
 ·have F:=Ad o;exact fA ⟨t2,trivial⟩ rfl (by simp)
 have F:=Ae o;refine .inr ?_;obtain⟨n,a⟩:=AG (l:=T) (i:=i') (by omega);refine⟨n,fun _=>⟨by omega,by rw[show (i).toNat=i' by omega];exact a⟩,?_⟩;try conv=>cbv
 obtain⟨y,j,d⟩:=Hy p a;have m:=JE h.red _ y d;intro H f;conv=>cbv
 refine g2 (by omega) ?_;have c:=(D3 (k:=i') f (by omega) (by omega)).eq;refine cL (r:= .one (.bool true)) w (Q4 j ((h.tb y (List.mem_reverse.1 (List.mem_of_getElem? d))).Bh h.hR) (by rw[m];exact c)) t2 ?_;try conv=>cbv
 intro I g;cases g.trans (rfl:_=false);conv=>cbv
 refine g2 rfl ?_;intro K N;conv=>cbv
 refine g1 (by omega) ?_;refine⟨T.length-(i'+1),?_,?_⟩
 ·omega
 rw[b];exact⟨i'+1,K,rfl,⟨⟨by omega⟩,by omega⟩,rfl⟩
theorem Jc {A:LR} {s:Nat} {x:Re} (h:Al R u) (g:T=tw u) (l:A=em u x) (j:El u s x) (n:s<=60000000000000):CF 228 [.one (.sl (.sl AA) T),.one (.sl AA A)] (.one (.bool true)):=by
 have d:T.length=u.length:=by rw[g,BU]
 have m:=h.ht;refine AH Tryz.func228 (by kernel_rfl) rfl fun E f=>?_
 conv=>cbv
 refine cL f (Qt h g) t1 ?_;try conv=>cbv
 rintro o ⟨b,f10⟩;conv=>cbv
 intro p c;conv=>cbv
 refine g2 (by omega) ?_;have a:=(D3 (k:=u.length) c (b.trans (congrArg _ d)) (by omega)).eq;refine cL (r:= .one (.bool true)) f (Q4 l (j.Bh n) (by rw[j.len];exact a)) t2 ?_;try conv=>cbv
 exact fA ⟨t2,trivial⟩ rfl (by simp)
theorem Qk (h:Al R u) (N:T=tw u) (V:BM q b1 l1 b2 l2) (L:C=em u (Re.ofRat q)) (A:zn=C.length):CF 225 [.one (.sl (.sl AA) T),.agg [.bool b1,.sl .u32 l1,.bool b2,.sl .u32 l2]] (.one (.own AA C zn)):=by
 have y:T.length=u.length:=by rw[N,BU]
 have O:=h.ht;have I:=Cq h.ht;have U:=DG u.length;refine AH Tryz.func225 (by kernel_rfl) rfl fun E M=>?_
 conv=>cbv
 refine⟨[((b1,l1),(b2,l2))],fun _=>⟨rfl,by decide,rfl,⟨rfl,by first | exact t1 | exact t2 | exact t4 | simp[Aw,BF,cells],trivial⟩⟩,.inl ?_⟩;try conv=>cbv
 refine .inr ?_;obtain⟨J,p⟩:=xJ fun vs F k=>∃(o:LR) (mm j:Nat),vs=[.one (.sl (.sl AA) T),.one (.AT AA 7 0 0 mm)]/\F=[.arr 0 AA o]/\(mm=o.length/\o.length=j+1/\o.length<=2^u.length)/\o=rp q::List.replicate j (rp 0)/\k=2^u.length-o.length
 refine⟨[0,5],[7],J,⟨2^u.length-[rp q].length,by rw[p];exact⟨[rp q],1,0,rfl,by rw[V.rp];rfl,⟨rfl,rfl,by show 1<=_;omega⟩,rfl,rfl⟩⟩,?_⟩;intro vs F W G;rw[p] at G;obtain⟨o,mm,j,rfl,rfl,⟨s,Q,S⟩,hinv,P⟩:=G;conv=>cbv
 intro n9 K;have e9:=K.eq;conv=>cbv
 rintro Y ⟨w,f11⟩;conv=>cbv
 intro a1 x;conv=>cbv
 refine g2 (by omega) ?_;have H:=(D3 (k:=u.length) x (w.trans (congrArg _ y)) (by omega)).eq;intro D r;conv=>cbv
 cases D <;> conv=>cbv
 ·have B:=Ad r;have g:C=o:=by rw[L,em,Ih q h.red,hinv,show j=2^u.length-1 by omega,Ao,List.map_cons,List.map_replicate]
  exact fA ⟨⟨rfl,.inr (.inl ⟨_,_,by decide,rfl,rfl,s,rfl,C2 (g) (by rw[A,g])⟩),trivial⟩,trivial⟩ rfl (by simp)
 have B:=Ae r;refine .inr ?_;obtain⟨d,f,b,c,m⟩:=Bb (((0:Int):Rat));refine cL M (D7 (by omega) rfl m) t1 ?_;try conv=>cbv
 refine⟨[((d,f),(b,c))],fun _=>⟨rfl,by decide,rfl,⟨rfl,by first | exact t1 | exact t2 | exact t4 | simp[Aw,BF,cells],trivial⟩⟩,.inr ?_⟩;try conv=>cbv
 refine .inl ⟨[((d,f),(b,c))],fun _=>⟨rfl,s,rfl,by show (o.length+1)*64<=140737488355328;(try simp only[List.length_take,List.length_drop]);omega⟩,?_⟩;intro (a:LR) v n;have l:a=(o:LR)++([((d,f),(b,c))]:LR):=n.1;have t:v=List.length (α:=(el AA)) a:=n.2;conv=>cbv
 have z:a.length=o.length+1:=by rw[l];simp
 refine⟨2^u.length-a.length,?_,?_⟩
 ·omega
 rw[p];exact⟨a,v,j+1,rfl,rfl,⟨t,by omega,by omega⟩,by rw[l,hinv,List.replicate_succ',List.cons_append,<-m.rp];rfl,rfl⟩
theorem FC (h:Al R u) (b:T=tw u) (c:BM q b1 l1 b2 l2) (a:C=em u (Re.ofRat q)):CF 225 [.one (.sl (.sl AA) T),.agg [.bool b1,.sl .u32 l1,.bool b2,.sl .u32 l2]] (.one (.sl AA C)):=Cl (Qk h b c a rfl)
theorem Xf (G:X=Ao xs) (hl:xs.length<=1000000) (O:Z=Ao (xs.map (- ·))):CF 106 [.one (.sl (.sl AA) T),.one (.sl AA X)] (.one (.sl AA Z)):=by
 have V:X.length=xs.length:=by rw[G,List.length_map]
 refine AH Tryz.func106 (by kernel_rfl) rfl fun E N=>?_
 conv=>cbv
 refine .inr ?_
 obtain⟨Q,j⟩:∃J:List AV->List AM->Nat->Prop,J=fun vs B k=>(∃(i:Int),vs=[.one (.sl AA X),.one .nil,.one (.int .i64 i)]/\B=[.dead 0]/\AS i 0/\k=X.length)\/
  (∃(o:LR) (mm i':Nat) (i:Int),vs=[.one (.sl AA X),.one (.AT AA 20 0 0 mm),.one (.int .i64 i)]/\B=[.arr 0 AA o]/\(AS i i'/\i'<=X.length/\mm=o.length)/\o=Ao ((xs.map (- ·)).take i')/\k=X.length-i'):=⟨_,rfl⟩
 refine⟨[1,5,6],[20],Q,⟨X.length,by rw[j];exact .inl ⟨0,rfl,rfl,BC 0,rfl⟩⟩,?_⟩;intro vs B a1 P;rw[j] at P;rcases P with⟨i,rfl,rfl,H,K⟩ |⟨o,mm,i',i,rfl,rfl,⟨H,W,z⟩,hinv,K⟩
 ·conv=>cbv
  have U:=H.eq;obtain⟨i',I⟩:=xN 0;rintro n9 ⟨S,f9⟩;conv=>cbv
  intro v h;conv=>cbv
  cases v <;> conv=>cbv
  ·have s:=Ad h;exact fA ⟨⟨rfl,.inr (.inl ⟨_,congrArg _ (by rw[O,show xs=[] from List.eq_nil_of_length_eq_zero (by omega)];rfl)⟩),trivial⟩,trivial⟩ rfl (by simp)
  have s:=Ae h;refine .inr ?_;obtain⟨x,f⟩:=AG (l:=X) (i:=i') (by omega);refine⟨x,fun _=>⟨by omega,by rw[show (i).toNat=i' by omega];exact f⟩,?_⟩;try conv=>cbv
  obtain⟨q,L,p,M⟩:=HC G f;have r:(xs.map (- ·))[i']? =some (-q):=by rw[List.getElem?_map,p];rfl
  obtain⟨c,d,a,b,g⟩:=Bb (-q);refine cL N (Qp L rfl g) ⟨t4,trivial⟩ ?_;try conv=>cbv
  refine⟨[((c,d),(a,b))],fun _=>⟨rfl,by decide,rfl,⟨rfl,by first | exact t1 | exact t2 | exact t4 | simp[Aw,BF,cells],trivial⟩⟩,.inr ?_⟩;try conv=>cbv
  refine .inl ⟨[((c,d),(a,b))],fun _=>⟨rfl,by show (1)*64<=140737488355328;(try simp only[List.length_take,List.length_drop]);omega⟩,?_⟩;intro m F;conv=>cbv
  intro w D;conv=>cbv
  refine g1 (by omega) ?_;refine⟨X.length-(i'+1),?_,?_⟩
  ·omega
  rw[j];exact .inr ⟨_,m,i'+1,w,rfl,rfl,⟨⟨by omega⟩,by omega,F⟩,by rw[Mm r,I,<-g.rp];rfl,rfl⟩
 conv=>cbv
 have U:=H.eq;have Y:o.length<=X.length:=by rw[hinv,Ao,List.length_map,List.length_take,List.length_map];omega
 rintro n9 ⟨S,f9⟩;conv=>cbv
 intro v h;conv=>cbv
 cases v <;> conv=>cbv
 ·have s:=Ad h;exact fA ⟨⟨rfl,.inl ⟨_,rfl,by omega,congrArg _ (by rw[O,z,hinv,List.drop_zero,List.take_length,List.take_of_length_le (by rw[List.length_map];omega)])⟩,trivial⟩,trivial⟩ rfl (by simp)
 have s:=Ae h;refine .inr ?_;obtain⟨x,f⟩:=AG (l:=X) (i:=i') (by omega);refine⟨x,fun _=>⟨by omega,by rw[show (i).toNat=i' by omega];exact f⟩,?_⟩;try conv=>cbv
 obtain⟨q,L,p,M⟩:=HC G f;have r:(xs.map (- ·))[i']? =some (-q):=by rw[List.getElem?_map,p];rfl
 obtain⟨c,d,a,b,g⟩:=Bb (-q);refine cL N (Qp L rfl g) ⟨t4,trivial⟩ ?_;try conv=>cbv
 refine⟨[((c,d),(a,b))],fun _=>⟨rfl,by decide,rfl,⟨rfl,by first | exact t1 | exact t2 | exact t4 | simp[Aw,BF,cells],trivial⟩⟩,.inr ?_⟩;try conv=>cbv
 refine .inl ⟨[((c,d),(a,b))],fun _=>⟨rfl,z,rfl,by show (o.length+1)*64<=140737488355328;(try simp only[List.length_take,List.length_drop]);omega⟩,?_⟩;intro (t:LR) m n;have y:t=(o:LR)++([((c,d),(a,b))]:LR):=n.1;have A:m=List.length (α:=(el AA)) t:=n.2;conv=>cbv
 intro w D;conv=>cbv
 refine g1 (by omega) ?_;refine⟨X.length-(i'+1),?_,?_⟩
 ·omega
 rw[j];exact .inr ⟨t,m,i'+1,w,rfl,rfl,⟨⟨by omega⟩,by omega,A⟩,by rw[y,hinv,Mm r,<-g.rp],rfl⟩
theorem XR {Y:LR} {ys:List Rat} (S:X=Ao xs) (U:Y=Ao ys) (hs:DL xs) (ht:DL ys) (aa:ys.length=xs.length) (hl:xs.length<=1000000) (hZ:Z=Ao (List.zipWith (· + ·) xs ys)) (M:zn=Z.length):CF 175 [.one (.sl (.sl AA) T),.one (.sl AA X),.one (.sl AA Y)] (.one (.own AA Z zn)):=by
 have a5:X.length=xs.length:=by rw[S,List.length_map]
 have a6:Y.length=ys.length:=by rw[U,List.length_map]
 refine AH Tryz.func175 (by kernel_rfl) rfl fun E hE=>?_
 conv=>cbv
 refine .inr ?_
 obtain⟨J0,m⟩:∃J:List AV->List AM->Nat->Prop,J=fun vs N k=>(∃(i:Int),vs=[.one (.sl AA X),.one (.sl AA Y),.one .nil,.one (.int .i64 i)]/\N=[.dead 0]/\AS i 0/\k=X.length)\/
  (∃(o:LR) (mm i':Nat) (i:Int),vs=[.one (.sl AA X),.one (.sl AA Y),.one (.AT AA 26 0 0 mm),.one (.int .i64 i)]/\N=[.arr 0 AA o]/\(AS i i'/\i'<=X.length/\mm=o.length)/\o=Ao ((List.zipWith (· + ·) xs ys).take i')/\k=X.length-i'):=⟨_,rfl⟩
 refine⟨[1,2,7,8],[26],J0,⟨X.length,by rw[m];exact .inl ⟨0,rfl,rfl,BC 0,rfl⟩⟩,?_⟩;intro vs N ab hj;rw[m] at hj;rcases hj with⟨i,rfl,rfl,V,a1⟩ |⟨o,mm,i',i,rfl,rfl,⟨V,a7,I⟩,hinv,a1⟩
 ·conv=>cbv
  have ei:=V.eq;obtain⟨i',W⟩:=xN 0;rintro a2 ⟨O,f11⟩;conv=>cbv
  intro B j;conv=>cbv
  cases B <;> conv=>cbv
  ·have z:=Ad j;have L:Z=[]:=by rw[hZ,show xs=[] from List.eq_nil_of_length_eq_zero (by omega)];rfl
   exact fA ⟨⟨rfl,.inr (.inr ⟨_,C2 (L) (by rw[M,L];rfl)⟩),trivial⟩,trivial⟩ rfl (by simp)
  have z:=Ae j;refine .inr ?_;obtain⟨F,f⟩:=AG (l:=X) (i:=i') (by omega);refine⟨F,fun _=>⟨by omega,by rw[show (i).toNat=i' by omega];exact f⟩,?_⟩;try conv=>cbv
  obtain⟨G,g⟩:=AG (l:=Y) (i:=i') (by omega);refine⟨G,fun _=>⟨by omega,by rw[show (i).toNat=i' by omega];exact g⟩,?_⟩;try conv=>cbv
  obtain⟨p,hp,t,x⟩:=Fa S hs f;obtain⟨q,hq,v,y⟩:=Fa U ht g;have w:(List.zipWith (· + ·) xs ys)[i']? =some (p+q):=by rw[List.getElem?_zipWith,t,v]
  obtain⟨c,d,a,b,h⟩:=Bb (p+q);refine cL hE (Qo hp hq x y rfl h) ⟨t4,t4,trivial⟩ ?_;try conv=>cbv
  refine⟨[((c,d),(a,b))],fun _=>⟨rfl,by decide,rfl,⟨rfl,by first | exact t1 | exact t2 | exact t4 | simp[Aw,BF,cells],trivial⟩⟩,.inr ?_⟩;try conv=>cbv
  refine .inl ⟨[((c,d),(a,b))],fun _=>⟨rfl,by show (1)*64<=140737488355328;(try simp only[List.length_take,List.length_drop]);omega⟩,?_⟩;intro n Q;conv=>cbv
  refine g2 rfl ?_;intro D P;conv=>cbv
  refine g1 (by omega) ?_;refine⟨X.length-(i'+1),?_,?_⟩
  ·omega
  rw[m];exact .inr ⟨_,n,i'+1,D,rfl,rfl,⟨⟨by omega⟩,by omega,Q⟩,by rw[Mm w,W,<-h.rp];rfl,rfl⟩
 conv=>cbv
 have ei:=V.eq;have a8:o.length<=X.length:=by rw[hinv,Ao,List.length_map,List.length_take,List.length_zipWith];omega
 rintro a2 ⟨O,f11⟩;conv=>cbv
 intro B j;conv=>cbv
 cases B <;> conv=>cbv
 ·have z:=Ad j;have r:Z=o:=by rw[hZ,hinv,List.take_of_length_le (by rw[List.length_zipWith];omega)]
  exact fA ⟨⟨rfl,.inr (.inl ⟨_,_,by decide,rfl,rfl,I,rfl,C2 (r) (by rw[M,r])⟩),trivial⟩,trivial⟩ rfl (by simp)
 have z:=Ae j;refine .inr ?_;obtain⟨F,f⟩:=AG (l:=X) (i:=i') (by omega);refine⟨F,fun _=>⟨by omega,by rw[show (i).toNat=i' by omega];exact f⟩,?_⟩;try conv=>cbv
 obtain⟨G,g⟩:=AG (l:=Y) (i:=i') (by omega);refine⟨G,fun _=>⟨by omega,by rw[show (i).toNat=i' by omega];exact g⟩,?_⟩;try conv=>cbv
 obtain⟨p,hp,t,x⟩:=Fa S hs f;obtain⟨q,hq,v,y⟩:=Fa U ht g;have w:(List.zipWith (· + ·) xs ys)[i']? =some (p+q):=by rw[List.getElem?_zipWith,t,v]
 obtain⟨c,d,a,b,h⟩:=Bb (p+q);refine cL hE (Qo hp hq x y rfl h) ⟨t4,t4,trivial⟩ ?_;try conv=>cbv
 refine⟨[((c,d),(a,b))],fun _=>⟨rfl,by decide,rfl,⟨rfl,by first | exact t1 | exact t2 | exact t4 | simp[Aw,BF,cells],trivial⟩⟩,.inr ?_⟩;try conv=>cbv
 refine .inl ⟨[((c,d),(a,b))],fun _=>⟨rfl,I,rfl,by show (o.length+1)*64<=140737488355328;(try simp only[List.length_take,List.length_drop]);omega⟩,?_⟩;intro (A:LR) n s;have H:A=(o:LR)++([((c,d),(a,b))]:LR):=s.1;have K:n=List.length (α:=(el AA)) A:=s.2;conv=>cbv
 refine g2 rfl ?_;intro D P;conv=>cbv
 refine g1 (by omega) ?_;refine⟨X.length-(i'+1),?_,?_⟩
 ·omega
 rw[m];exact .inr ⟨A,n,i'+1,D,rfl,rfl,⟨⟨by omega⟩,by omega,K⟩,by rw[H,hinv,Mm w,<-h.rp],rfl⟩
end Go.Abs
