/- Part 29 of a proof. Conditions: each theorem's own. -/
import Derived.Test.YtoonaidhfikkeaaGreatPk25
import Derived.Test.YtoonaidhfikkeaaGreatPk27
set_option linter.all false
set_option maxHeartbeats 8000000
open Go.Proofs
namespace Go.Abs
open Go.RowKit
variable {C X Z:LR} {R i zn:Nat} {T:List LR} {b1 b2:Bool} {l1 l2:List UInt32} {q:Rat} {u:List (List Rat)} {xs:List Rat}
theorem GC {x:el AA} (b:X=AW xs) (a:X[i]? =some x):∃q,Ap q x.1.1 x.1.2 x.2.1 x.2.2/\xs[i]? =some q/\x=rp q:=by
 rw[b,AW,List.getElem?_map] at a;cases h:xs[i]? with
 | none=>rw[h] at a;simp at a
 | some q=>
  rw[h] at a;have e:x=rp q:=(Option.some.inj a).symm;exact⟨q,by rw[e];exact EB q,rfl,e⟩
theorem Kr (h:xs[i]? =some q):AW (xs.take (i+1))=AW (xs.take i)++[rp q]:=by
 rw[BJ h,AW,AW,List.map_append];rfl
theorem Oj {c:Bool} (v:X=AW xs) (w:c=decide (∀q∈xs,q=0)):CF 145 [.one (.sl AA X)] (.one (.bool c)):=by
 have F:X.length=xs.length:=by rw[v,List.length_map]
 refine AE Tryz.func145 (by kernel_rfl) rfl fun E S=>?_
 conv=>cbv
 refine .inr ?_;obtain⟨B,d⟩:=xJ fun A D k=>∃(i':Nat) (i:Int),A=[.one (.sl AA X),.one (.int .i64 i)]/\(AK i i'/\i'<=X.length)/\(∀q∈xs.take i',q=0)/\k=X.length-i'
 refine⟨[0,3],[],B,⟨X.length-0,by rw[d];exact⟨0,0,rfl,⟨Ah 0,by omega⟩,by simp,rfl⟩⟩,?_⟩;intro A D L x;rw[d] at x;obtain⟨i',i,rfl,⟨G,H⟩,hinv,I⟩:=x;conv=>cbv
 have P:=G.eq;rintro U ⟨O,f6⟩;conv=>cbv
 intro M t;conv=>cbv
 cases M <;> conv=>cbv
 ·have K:=AR t;exact fA ⟨⟨rfl,congrArg _ (by rw[w,decide_eq_true];intro z a;rw[<-List.take_of_length_le (show xs.length<=i' by omega)] at a;exact hinv z a),trivial⟩,trivial⟩ rfl (by simp)
 have K:=AS t;refine .inr ?_;obtain⟨j,b⟩:=AG (l:=X) (i:=i') (by omega);refine⟨j,fun _=>⟨by omega,by rw[show (i).toNat=i' by omega];exact b⟩,?_⟩;try conv=>cbv
 obtain⟨q,y,g,J⟩:=GC v b;rintro p ⟨m,f16⟩;conv=>cbv
 have s:p=((List.length (α:=UInt32) j.1.2:Nat):Int):=m;intro r f;conv=>cbv
 cases r <;> conv=>cbv
 ·have o:=Bc f;intro N Q;conv=>cbv
  refine g1 (by omega) ?_;refine⟨X.length-(i'+1),?_,?_⟩
  ·omega
  rw[d];refine⟨i'+1,N,rfl,⟨⟨by omega⟩,by omega⟩,?_,rfl⟩;intro z a;rw[BJ g] at a;rcases List.mem_append.1 a with a | a
  ·exact hinv z a
  rw[List.mem_singleton.1 a];exact Rat.num_eq_zero.1 (y.num.Dm.1 (by omega))
 have o:=Be f;have n:q≠0:=fun e=>by have:=y.num.Dm.2 (Rat.num_eq_zero.2 e);omega
 exact fA ⟨⟨rfl,congrArg _ (by rw[w,decide_eq_false];exact fun h=>n (h q (List.mem_of_getElem? g))),trivial⟩,trivial⟩ rfl (by simp)
theorem Ot {n:Int} (m:X=AW xs) (F:Cf xs) (O:n=(xs.length:Int)):CF 135 [.one (.sl AA X),.one (.int .i64 n)] (.one (.bool true)):=by
 have x:X.length=xs.length:=by rw[m,List.length_map]
 refine AE Tryz.func135 (by kernel_rfl) rfl fun E w=>?_
 conv=>cbv
 refine .inr ?_;obtain⟨r,b⟩:=xJ fun p s k=>∃(i':Nat) (i:Int),p=[.one (.sl AA X),.one (.int .i64 n),.one (.int .i64 i)]/\(AK i i'/\i'<=X.length)/\k=X.length-i'
 refine⟨[0,1,5],[],r,⟨X.length-0,by rw[b];exact⟨0,0,rfl,⟨Ah 0,by omega⟩,rfl⟩⟩,?_⟩;intro p s H o;rw[b] at o;obtain⟨i',i,rfl,⟨y,z⟩,A⟩:=o;conv=>cbv
 have N:=y.eq;rintro P ⟨M,f8⟩;conv=>cbv
 intro L j;conv=>cbv
 cases L <;> conv=>cbv
 ·have G:=AR j;rintro J ⟨t,f19⟩;conv=>cbv
  intro K d;conv=>cbv
  exact fA ⟨⟨rfl,congrArg _ (by rw[d];simp;omega),trivial⟩,trivial⟩ rfl (by simp)
 have G:=AS j;refine .inr ?_;obtain⟨h,a⟩:=AG (l:=X) (i:=i') (by omega);refine⟨h,fun _=>⟨by omega,by rw[show (i).toNat=i' by omega];exact a⟩,?_⟩;try conv=>cbv
 obtain⟨q,B,D,f⟩:=Ej m F a;refine cL w (Uv B f) ⟨t4,trivial⟩ ?_;try conv=>cbv
 intro I c;cases c.trans (rfl:_=false);conv=>cbv
 intro g v;conv=>cbv
 refine g1 (by omega) ?_;refine⟨X.length-(i'+1),?_,?_⟩
 ·omega
 rw[b];exact⟨i'+1,g,rfl,⟨⟨by omega⟩,by omega⟩,rfl⟩
theorem Of (h:AU R u) (p:T=tw u):CF 134 [.one (.sl (.sl AA) T)] (.one (.bool true)):=by
 have z:T.length=u.length:=by rw[p,Ay]
 have A:=h.ht;refine AE Tryz.func134 (by kernel_rfl) rfl fun E x=>?_
 conv=>cbv
 refine .inr ?_;obtain⟨v,b⟩:=xJ fun t w k=>∃(i':Nat) (i:Int),t=[.one (.sl (.sl AA) T),.one (.int .i64 i)]/\(AK i i'/\i'<=T.length)/\k=T.length-i'
 refine⟨[0,3],[],v,⟨T.length-0,by rw[b];exact⟨0,0,rfl,⟨Ah 0,by omega⟩,rfl⟩⟩,?_⟩;intro t w H s;rw[b] at s;obtain⟨i',i,rfl,⟨B,D⟩,F⟩:=s;conv=>cbv
 have N:=B.eq;rintro P ⟨M,f6⟩;conv=>cbv
 intro K o;conv=>cbv
 cases K <;> conv=>cbv
 ·have G:=AR o;exact fA ⟨t2,trivial⟩ rfl (by simp)
 have G:=AS o;refine .inr ?_;obtain⟨n,a⟩:=AG (l:=T) (i:=i') (by omega);refine⟨n,fun _=>⟨by omega,by rw[show (i).toNat=i' by omega];exact a⟩,?_⟩;try conv=>cbv
 obtain⟨y,j,d⟩:=Gl p a;have m:=Hq h.red _ y d;intro I f;conv=>cbv
 refine g2 (by omega) ?_;have c:=(DF (k:=i') f (by omega) (by omega)).eq;refine cL (r:= .one (.bool true)) x (Ot j ((h.tb y (List.mem_reverse.1 (List.mem_of_getElem? d))).BE h.hR) (by rw[m];exact c)) t2 ?_;try conv=>cbv
 intro J g;cases g.trans (rfl:_=false);conv=>cbv
 refine g2 rfl ?_;intro L O;conv=>cbv
 refine g1 (by omega) ?_;refine⟨T.length-(i'+1),?_,?_⟩
 ·omega
 rw[b];exact⟨i'+1,L,rfl,⟨⟨by omega⟩,by omega⟩,rfl⟩
theorem H9 {A:LR} {s:Nat} {x:Re} (h:AU R u) (g:T=tw u) (l:A=em u x) (j:El u s x) (n:s<=60000000000000):CF 84 [.one (.sl (.sl AA) T),.one (.sl AA A)] (.one (.bool true)):=by
 have d:T.length=u.length:=by rw[g,Ay]
 have m:=h.ht;refine AE Tryz.func84 (by kernel_rfl) rfl fun E f=>?_
 conv=>cbv
 refine cL f (Of h g) t1 ?_;try conv=>cbv
 rintro o ⟨b,f10⟩;conv=>cbv
 intro p c;conv=>cbv
 refine g2 (by omega) ?_;have a:=(DF (k:=u.length) c (b.trans (congrArg _ d)) (by omega)).eq;refine cL (r:= .one (.bool true)) f (Ot l (j.BE n) (by rw[j.len];exact a)) t2 ?_;try conv=>cbv
 exact fA ⟨t2,trivial⟩ rfl (by simp)
theorem OV (h:AU R u) (O:T=tw u) (W:Ap q b1 l1 b2 l2) (M:C=em u (Re.ofRat q)) (A:zn=C.length):CF 146 [.one (.sl (.sl AA) T),.agg [.bool b1,.sl .u32 l1,.bool b2,.sl .u32 l2]] (.one (.own AA C zn)):=by
 have y:T.length=u.length:=by rw[O,Ay]
 have P:=h.ht;have I:=CA h.ht;have V:=Ce u.length;refine AE Tryz.func146 (by kernel_rfl) rfl fun E N=>?_
 conv=>cbv
 refine⟨[((b1,l1),(b2,l2))],fun _=>⟨rfl,by decide,rfl,⟨rfl,by first | exact t1 | exact t2 | exact t4 | simp[Ac,Ak,cells],trivial⟩⟩,.inl ?_⟩;try conv=>cbv
 refine .inr ?_;obtain⟨K,p⟩:=xJ fun J F k=>∃(o:LR) (mm j:Nat),J=[.one (.sl (.sl AA) T),.one (.AM AA 7 0 0 mm)]/\F=[.arr 0 AA o]/\(mm=o.length/\o.length=j+1/\o.length<=2^u.length)/\o=rp q::List.replicate j (rp 0)/\k=2^u.length-o.length
 refine⟨[0,5],[7],K,⟨2^u.length-[rp q].length,by rw[p];exact⟨[rp q],1,0,rfl,by rw[W.rp];rfl,⟨rfl,rfl,by show 1<=_;omega⟩,rfl,rfl⟩⟩,?_⟩;intro J F Y G;rw[p] at G;obtain⟨o,mm,j,rfl,rfl,⟨s,S,U⟩,hinv,Q⟩:=G;conv=>cbv
 intro n9 L;have e9:=L.eq;conv=>cbv
 rintro a1 ⟨w,f11⟩;conv=>cbv
 intro a2 x;conv=>cbv
 refine g2 (by omega) ?_;have H:=(DF (k:=u.length) x (w.trans (congrArg _ y)) (by omega)).eq;intro D r;conv=>cbv
 cases D <;> conv=>cbv
 ·have B:=AR r;have g:C=o:=by rw[M,em,IT q h.red,hinv,show j=2^u.length-1 by omega,AW,List.map_cons,List.map_replicate]
  exact fA ⟨⟨rfl,.inr (.inl ⟨_,_,by decide,rfl,rfl,s,rfl,CM (g) (by rw[A,g])⟩),trivial⟩,trivial⟩ rfl (by simp)
 have B:=AS r;refine .inr ?_;obtain⟨d,f,b,c,m⟩:=BD (((0:Int):Rat));refine cL N (DI (by omega) rfl m) t1 ?_;try conv=>cbv
 refine⟨[((d,f),(b,c))],fun _=>⟨rfl,by decide,rfl,⟨rfl,by first | exact t1 | exact t2 | exact t4 | simp[Ac,Ak,cells],trivial⟩⟩,.inr ?_⟩;try conv=>cbv
 refine .inl ⟨[((d,f),(b,c))],fun _=>⟨rfl,s,rfl,by show (o.length+1)*64<=140737488355328;(try simp only[List.length_take,List.length_drop]);omega⟩,?_⟩;intro (a:LR) v n;have l:a=(o:LR)++([((d,f),(b,c))]:LR):=n.1;have t:v=List.length (α:=(el AA)) a:=n.2;conv=>cbv
 have z:a.length=o.length+1:=by rw[l];simp
 refine⟨2^u.length-a.length,?_,?_⟩
 ·omega
 rw[p];exact⟨a,v,j+1,rfl,rfl,⟨t,by omega,by omega⟩,by rw[l,hinv,List.replicate_succ',List.cons_append,<-m.rp];rfl,rfl⟩
theorem EJ (h:AU R u) (b:T=tw u) (c:Ap q b1 l1 b2 l2) (a:C=em u (Re.ofRat q)):CF 146 [.one (.sl (.sl AA) T),.agg [.bool b1,.sl .u32 l1,.bool b2,.sl .u32 l2]] (.one (.sl AA C)):=B8 (OV h b c a rfl)
theorem Uo (G:X=AW xs) (hl:xs.length<=1000000) (P:Z=AW (xs.map (- ·))):CF 94 [.one (.sl (.sl AA) T),.one (.sl AA X)] (.one (.sl AA Z)):=by
 have W:X.length=xs.length:=by rw[G,List.length_map]
 refine AE Tryz.func94 (by kernel_rfl) rfl fun E O=>?_
 conv=>cbv
 refine .inr ?_
 obtain⟨S,j⟩:∃J:List AV->List AH->Nat->Prop,J=fun N B k=>(∃(i:Int),N=[.one (.sl AA X),.one .nil,.one (.int .i64 i)]/\B=[.dead 0]/\AK i 0/\k=X.length)\/
  (∃(o:LR) (mm i':Nat) (i:Int),N=[.one (.sl AA X),.one (.AM AA 20 0 0 mm),.one (.int .i64 i)]/\B=[.arr 0 AA o]/\(AK i i'/\i'<=X.length/\mm=o.length)/\o=AW ((xs.map (- ·)).take i')/\k=X.length-i'):=⟨_,rfl⟩
 refine⟨[1,5,6],[20],S,⟨X.length,by rw[j];exact .inl ⟨0,rfl,rfl,Ah 0,rfl⟩⟩,?_⟩;intro N B a2 Q;rw[j] at Q;rcases Q with⟨i,rfl,rfl,H,K⟩ |⟨o,mm,i',i,rfl,rfl,⟨H,Y,z⟩,hinv,K⟩
 ·conv=>cbv
  have V:=H.eq;obtain⟨i',I⟩:=xN 0;rintro n9 ⟨U,f9⟩;conv=>cbv
  intro v h;conv=>cbv
  cases v <;> conv=>cbv
  ·have s:=AR h;exact fA ⟨⟨rfl,.inr (.inl ⟨_,congrArg _ (by rw[P,show xs=[] from List.eq_nil_of_length_eq_zero (by omega)];rfl)⟩),trivial⟩,trivial⟩ rfl (by simp)
  have s:=AS h;refine .inr ?_;obtain⟨x,f⟩:=AG (l:=X) (i:=i') (by omega);refine⟨x,fun _=>⟨by omega,by rw[show (i).toNat=i' by omega];exact f⟩,?_⟩;try conv=>cbv
  obtain⟨q,L,p,M⟩:=GC G f;have r:(xs.map (- ·))[i']? =some (-q):=by rw[List.getElem?_map,p];rfl
  obtain⟨c,d,a,b,g⟩:=BD (-q);refine cL O (Ob L rfl g) ⟨t4,trivial⟩ ?_;try conv=>cbv
  refine⟨[((c,d),(a,b))],fun _=>⟨rfl,by decide,rfl,⟨rfl,by first | exact t1 | exact t2 | exact t4 | simp[Ac,Ak,cells],trivial⟩⟩,.inr ?_⟩;try conv=>cbv
  refine .inl ⟨[((c,d),(a,b))],fun _=>⟨rfl,by show (1)*64<=140737488355328;(try simp only[List.length_take,List.length_drop]);omega⟩,?_⟩;intro m F;conv=>cbv
  intro w D;conv=>cbv
  refine g1 (by omega) ?_;refine⟨X.length-(i'+1),?_,?_⟩
  ·omega
  rw[j];exact .inr ⟨_,m,i'+1,w,rfl,rfl,⟨⟨by omega⟩,by omega,F⟩,by rw[Kr r,I,<-g.rp];rfl,rfl⟩
 conv=>cbv
 have V:=H.eq;have a1:o.length<=X.length:=by rw[hinv,AW,List.length_map,List.length_take,List.length_map];omega
 rintro n9 ⟨U,f9⟩;conv=>cbv
 intro v h;conv=>cbv
 cases v <;> conv=>cbv
 ·have s:=AR h;exact fA ⟨⟨rfl,.inl ⟨_,rfl,by omega,congrArg _ (by rw[P,z,hinv,List.drop_zero,List.take_length,List.take_of_length_le (by rw[List.length_map];omega)])⟩,trivial⟩,trivial⟩ rfl (by simp)
 have s:=AS h;refine .inr ?_;obtain⟨x,f⟩:=AG (l:=X) (i:=i') (by omega);refine⟨x,fun _=>⟨by omega,by rw[show (i).toNat=i' by omega];exact f⟩,?_⟩;try conv=>cbv
 obtain⟨q,L,p,M⟩:=GC G f;have r:(xs.map (- ·))[i']? =some (-q):=by rw[List.getElem?_map,p];rfl
 obtain⟨c,d,a,b,g⟩:=BD (-q);refine cL O (Ob L rfl g) ⟨t4,trivial⟩ ?_;try conv=>cbv
 refine⟨[((c,d),(a,b))],fun _=>⟨rfl,by decide,rfl,⟨rfl,by first | exact t1 | exact t2 | exact t4 | simp[Ac,Ak,cells],trivial⟩⟩,.inr ?_⟩;try conv=>cbv
 refine .inl ⟨[((c,d),(a,b))],fun _=>⟨rfl,z,rfl,by show (o.length+1)*64<=140737488355328;(try simp only[List.length_take,List.length_drop]);omega⟩,?_⟩;intro (t:LR) m n;have y:t=(o:LR)++([((c,d),(a,b))]:LR):=n.1;have A:m=List.length (α:=(el AA)) t:=n.2;conv=>cbv
 intro w D;conv=>cbv
 refine g1 (by omega) ?_;refine⟨X.length-(i'+1),?_,?_⟩
 ·omega
 rw[j];exact .inr ⟨t,m,i'+1,w,rfl,rfl,⟨⟨by omega⟩,by omega,A⟩,by rw[y,hinv,Kr r,<-g.rp],rfl⟩
theorem UY {Y:LR} {ys:List Rat} (S:X=AW xs) (U:Y=AW ys) (hs:Cf xs) (ht:Cf ys) (aa:ys.length=xs.length) (hl:xs.length<=1000000) (hZ:Z=AW (List.zipWith (· + ·) xs ys)) (M:zn=Z.length):CF 147 [.one (.sl (.sl AA) T),.one (.sl AA X),.one (.sl AA Y)] (.one (.own AA Z zn)):=by
 have a5:X.length=xs.length:=by rw[S,List.length_map]
 have a6:Y.length=ys.length:=by rw[U,List.length_map]
 refine AE Tryz.func147 (by kernel_rfl) rfl fun E hE=>?_
 conv=>cbv
 refine .inr ?_
 obtain⟨J0,m⟩:∃J:List AV->List AH->Nat->Prop,J=fun vs N k=>(∃(i:Int),vs=[.one (.sl AA X),.one (.sl AA Y),.one .nil,.one (.int .i64 i)]/\N=[.dead 0]/\AK i 0/\k=X.length)\/
  (∃(o:LR) (mm i':Nat) (i:Int),vs=[.one (.sl AA X),.one (.sl AA Y),.one (.AM AA 26 0 0 mm),.one (.int .i64 i)]/\N=[.arr 0 AA o]/\(AK i i'/\i'<=X.length/\mm=o.length)/\o=AW ((List.zipWith (· + ·) xs ys).take i')/\k=X.length-i'):=⟨_,rfl⟩
 refine⟨[1,2,7,8],[26],J0,⟨X.length,by rw[m];exact .inl ⟨0,rfl,rfl,Ah 0,rfl⟩⟩,?_⟩;intro vs N ab hj;rw[m] at hj;rcases hj with⟨i,rfl,rfl,V,a1⟩ |⟨o,mm,i',i,rfl,rfl,⟨V,a7,I⟩,hinv,a1⟩
 ·conv=>cbv
  have ei:=V.eq;obtain⟨i',W⟩:=xN 0;rintro a2 ⟨O,f11⟩;conv=>cbv
  intro B j;conv=>cbv
  cases B <;> conv=>cbv
  ·have z:=AR j;have L:Z=[]:=by rw[hZ,show xs=[] from List.eq_nil_of_length_eq_zero (by omega)];rfl
   exact fA ⟨⟨rfl,.inr (.inr ⟨_,CM (L) (by rw[M,L];rfl)⟩),trivial⟩,trivial⟩ rfl (by simp)
  have z:=AS j;refine .inr ?_;obtain⟨F,f⟩:=AG (l:=X) (i:=i') (by omega);refine⟨F,fun _=>⟨by omega,by rw[show (i).toNat=i' by omega];exact f⟩,?_⟩;try conv=>cbv
  obtain⟨G,g⟩:=AG (l:=Y) (i:=i') (by omega);refine⟨G,fun _=>⟨by omega,by rw[show (i).toNat=i' by omega];exact g⟩,?_⟩;try conv=>cbv
  obtain⟨p,hp,t,x⟩:=Ej S hs f;obtain⟨q,hq,v,y⟩:=Ej U ht g;have w:(List.zipWith (· + ·) xs ys)[i']? =some (p+q):=by rw[List.getElem?_zipWith,t,v]
  obtain⟨c,d,a,b,h⟩:=BD (p+q);refine cL hE (Oa hp hq x y rfl h) ⟨t4,t4,trivial⟩ ?_;try conv=>cbv
  refine⟨[((c,d),(a,b))],fun _=>⟨rfl,by decide,rfl,⟨rfl,by first | exact t1 | exact t2 | exact t4 | simp[Ac,Ak,cells],trivial⟩⟩,.inr ?_⟩;try conv=>cbv
  refine .inl ⟨[((c,d),(a,b))],fun _=>⟨rfl,by show (1)*64<=140737488355328;(try simp only[List.length_take,List.length_drop]);omega⟩,?_⟩;intro n Q;conv=>cbv
  refine g2 rfl ?_;intro D P;conv=>cbv
  refine g1 (by omega) ?_;refine⟨X.length-(i'+1),?_,?_⟩
  ·omega
  rw[m];exact .inr ⟨_,n,i'+1,D,rfl,rfl,⟨⟨by omega⟩,by omega,Q⟩,by rw[Kr w,W,<-h.rp];rfl,rfl⟩
 conv=>cbv
 have ei:=V.eq;have a8:o.length<=X.length:=by rw[hinv,AW,List.length_map,List.length_take,List.length_zipWith];omega
 rintro a2 ⟨O,f11⟩;conv=>cbv
 intro B j;conv=>cbv
 cases B <;> conv=>cbv
 ·have z:=AR j;have r:Z=o:=by rw[hZ,hinv,List.take_of_length_le (by rw[List.length_zipWith];omega)]
  exact fA ⟨⟨rfl,.inr (.inl ⟨_,_,by decide,rfl,rfl,I,rfl,CM (r) (by rw[M,r])⟩),trivial⟩,trivial⟩ rfl (by simp)
 have z:=AS j;refine .inr ?_;obtain⟨F,f⟩:=AG (l:=X) (i:=i') (by omega);refine⟨F,fun _=>⟨by omega,by rw[show (i).toNat=i' by omega];exact f⟩,?_⟩;try conv=>cbv
 obtain⟨G,g⟩:=AG (l:=Y) (i:=i') (by omega);refine⟨G,fun _=>⟨by omega,by rw[show (i).toNat=i' by omega];exact g⟩,?_⟩;try conv=>cbv
 obtain⟨p,hp,t,x⟩:=Ej S hs f;obtain⟨q,hq,v,y⟩:=Ej U ht g;have w:(List.zipWith (· + ·) xs ys)[i']? =some (p+q):=by rw[List.getElem?_zipWith,t,v]
 obtain⟨c,d,a,b,h⟩:=BD (p+q);refine cL hE (Oa hp hq x y rfl h) ⟨t4,t4,trivial⟩ ?_;try conv=>cbv
 refine⟨[((c,d),(a,b))],fun _=>⟨rfl,by decide,rfl,⟨rfl,by first | exact t1 | exact t2 | exact t4 | simp[Ac,Ak,cells],trivial⟩⟩,.inr ?_⟩;try conv=>cbv
 refine .inl ⟨[((c,d),(a,b))],fun _=>⟨rfl,I,rfl,by show (o.length+1)*64<=140737488355328;(try simp only[List.length_take,List.length_drop]);omega⟩,?_⟩;intro (A:LR) n s;have H:A=(o:LR)++([((c,d),(a,b))]:LR):=s.1;have K:n=List.length (α:=(el AA)) A:=s.2;conv=>cbv
 refine g2 rfl ?_;intro D P;conv=>cbv
 refine g1 (by omega) ?_;refine⟨X.length-(i'+1),?_,?_⟩
 ·omega
 rw[m];exact .inr ⟨A,n,i'+1,D,rfl,rfl,⟨⟨by omega⟩,by omega,K⟩,by rw[H,hinv,Kr w,<-h.rp],rfl⟩
end Go.Abs
