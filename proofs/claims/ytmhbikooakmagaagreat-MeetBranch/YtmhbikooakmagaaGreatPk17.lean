/- Part 18 of a proof. Conditions: each theorem's own. -/
import Derived.Shelf.Spec.SlicesGrow
import Derived.Test.YtmhbikooakmagaaGreatPk16
set_option linter.all false
set_option maxHeartbeats 8000000
set_option maxRecDepth 20000
open Go.Proofs
namespace Go.Abs
open Go.RowKit
variable {C X Z:LR} {R i zn:Nat} {T:List LR} {b1 b2:Bool} {l1 l2:List UInt32} {q:Rat} {u:List (List Rat)} {xs:List Rat}
theorem J8 {x:el AA} (f:X=BD xs) (d:X[i]? =some x):∃q,Bn q x.1.1 x.1.2 x.2.1 x.2.2/\xs[i]? =some q/\x=rp q:=by
 rw[f,BD,List.getElem?_map] at d;cases h:xs[i]? with
 | none=>rw[h] at d;simp at d
 | some q=>
  rw[h] at d;have e:x=rp q:=(Option.some.inj d).symm;exact⟨q,by rw[e];exact HK q,rfl,e⟩
theorem ZY (h:xs[i]? =some q):BD (xs.take (i+1))=BD (xs.take i)++[rp q]:=by
 rw[C4 h,BD,BD,List.map_append];rfl
theorem Ur {c:Bool} (I:X=BD xs) (hc:c=decide (∀q∈xs,q=0)):CF 255 [.one (.sl AA X)] (.one (.bool c)):=by
 have N:X.length=xs.length:=by rw[I,List.length_map]
 refine AJ Tryz.func255 fun E hE=>?_
 conv=>cbv
 refine .inr ?_;obtain⟨L,g⟩:=xJ fun vs M k=>∃(i':Nat) (i:Int),vs=[.one (.sl AA X),.one (.int .i64 i)]/\(AW i i'/\i'<=X.length)/\(∀q∈xs.take i',q=0)/\k=X.length-i'
 refine⟨[],[0,3],[],L,⟨X.length-0,by rw[g];exact⟨0,0,rfl,⟨Bb 0,by omega⟩,by simp,rfl⟩⟩,?_⟩;intro vs M V J;rw[g] at J;obtain⟨i',i,rfl,⟨O,P⟩,hinv,Q⟩:=J;conv=>cbv
 have ei:=O.eq;rintro n6 ⟨e6,f6⟩;conv=>cbv
 intro W H;conv=>cbv
 cases W <;> conv=>cbv
 ·have U:=BB H;exact AD ⟨⟨rfl,congrArg _ (by rw[hc,decide_eq_true];intro z d;rw[<-List.take_of_length_le (show xs.length<=i' by omega)] at d;exact hinv z d),trivial⟩,trivial⟩
 have U:=BC H;refine .inr ?_;obtain⟨n,f⟩:=AP (l:=X) (i:=i') (by omega);refine⟨n,fun _=>⟨by omega,by rw[show (i).toNat=i' by omega];exact f⟩,?_⟩;try conv=>cbv
 obtain⟨q,K,m,S⟩:=J8 I f;rintro D ⟨o,f16⟩;conv=>cbv
 have G:D=((List.length (α:=UInt32) n.1.2:Nat):Int):=o;intro F j;conv=>cbv
 cases F <;> conv=>cbv
 ·have w:=Cg j;intro n9 h9;conv=>cbv
  refine AN ?_;refine⟨X.length-(i'+1),?_,?_⟩
  ·omega
  rw[g];refine⟨i'+1,n9,rfl,⟨⟨by omega⟩,by omega⟩,?_,rfl⟩;intro z d;rw[C4 m] at d;rcases List.mem_append.1 d with d | d
  ·exact hinv z d
  rw[List.mem_singleton.1 d];exact Rat.num_eq_zero.1 (K.num.GR.1 (by omega))
 have w:=Ch j;have v:q≠0:=fun e=>by have:=K.num.GR.2 (Rat.num_eq_zero.2 e);omega
 exact AD ⟨⟨rfl,congrArg _ (by rw[hc,decide_eq_false];exact fun h=>v (h q (List.mem_of_getElem? m))),trivial⟩,trivial⟩
theorem Uy {n:Int} (v:X=BD xs) (O:D7 xs) (hn:n=(xs.length:Int)):CF 245 [.one (.sl AA X),.one (.int .i64 n)] (.one (.bool true)):=by
 have I:X.length=xs.length:=by rw[v,List.length_map]
 refine AJ Tryz.func245 fun E H=>?_
 conv=>cbv
 refine .inr ?_;obtain⟨z,f⟩:=xJ fun vs D k=>∃(i':Nat) (i:Int),vs=[.one (.sl AA X),.one (.int .i64 n),.one (.int .i64 i)]/\(AW i i'/\i'<=X.length)/\k=X.length-i'
 refine⟨[],[0,1,5],[],z,⟨X.length-0,by rw[f];exact⟨0,0,rfl,⟨Bb 0,by omega⟩,rfl⟩⟩,?_⟩;intro vs D Q w;rw[f] at w;obtain⟨i',i,rfl,⟨J,K⟩,L⟩:=w;conv=>cbv
 have ei:=J.eq;rintro n8 ⟨W,f8⟩;conv=>cbv
 intro V o;conv=>cbv
 cases V <;> conv=>cbv
 ·have P:=BB o;rintro S ⟨F,f19⟩;conv=>cbv
  intro U g;conv=>cbv
  exact AD ⟨⟨rfl,congrArg _ (by rw[g];simp;omega),trivial⟩,trivial⟩
 have P:=BC o;refine .inr ?_;obtain⟨m,d⟩:=AP (l:=X) (i:=i') (by omega);refine⟨m,fun _=>⟨by omega,by rw[show (i).toNat=i' by omega];exact d⟩,?_⟩;try conv=>cbv
 obtain⟨q,M,N,h⟩:=Io v O d;refine AB H (dT M h) ?_;conv=>cbv
 refine AO ?_;conv=>cbv
 intro j G;conv=>cbv
 refine AN ?_;refine⟨X.length-(i'+1),?_,?_⟩
 ·omega
 rw[f];exact⟨i'+1,j,rfl,⟨⟨by omega⟩,by omega⟩,rfl⟩
theorem Um (h:At R u) (z:T=tw u):CF 244 [.one (.sl (.sl AA) T)] (.one (.bool true)):=by
 have I:T.length=u.length:=by rw[z,CB]
 have J:=h.ht;refine AJ Tryz.func244 fun E H=>?_
 conv=>cbv
 refine .inr ?_;obtain⟨F,f⟩:=xJ fun vs G k=>∃(i':Nat) (i:Int),vs=[.one (.sl (.sl AA) T),.one (.int .i64 i)]/\(AW i i'/\i'<=T.length)/\k=T.length-i'
 refine⟨[],[0,3],[],F,⟨T.length-0,by rw[f];exact⟨0,0,rfl,⟨Bb 0,by omega⟩,rfl⟩⟩,?_⟩;intro vs G O D;rw[f] at D;obtain⟨i',i,rfl,⟨K,L⟩,M⟩:=D;conv=>cbv
 have V:=K.eq;rintro n6 ⟨U,f6⟩;conv=>cbv
 intro Q w;conv=>cbv
 cases Q <;> conv=>cbv
 ·have N:=BB w;exact AD ⟨t2,trivial⟩
 have N:=BC w;refine .inr ?_;obtain⟨v,d⟩:=AP (l:=T) (i:=i') (by omega);refine⟨v,fun _=>⟨by omega,by rw[show (i).toNat=i' by omega];exact d⟩,?_⟩;try conv=>cbv
 obtain⟨y,n,j⟩:=J7 z d;have o:=LV h.red _ y j;intro P m;conv=>cbv
 refine AI ?_;have g:=(Fg (k:=i') m (by omega)).eq;refine AB (r:= .one (.bool true)) H (Uy n ((h.tb y (List.mem_reverse.1 (List.mem_of_getElem? j))).CJ h.hR) (by rw[o];exact g)) ?_;try conv=>cbv
 refine AO ?_;conv=>cbv
 refine g2 rfl ?_;intro S W;conv=>cbv
 refine AN ?_;refine⟨T.length-(i'+1),?_,?_⟩
 ·omega
 rw[f];exact⟨i'+1,S,rfl,⟨⟨by omega⟩,by omega⟩,rfl⟩
theorem Nj {A:LR} {s:Nat} {x:Re} (h:At R u) (m:T=tw u) (o:A=em u x) (n:El u s x) (w:s<=60000000000000:=by omega):CF 130 [.one (.sl (.sl AA) T),.one (.sl AA A)] (.one (.bool true)):=by
 have j:T.length=u.length:=by rw[m,CB]
 have v:=h.ht;refine AJ Tryz.func130 fun E l=>?_
 conv=>cbv
 refine AB l (Um h m) ?_;conv=>cbv
 rintro z ⟨f,f10⟩;conv=>cbv
 intro D g;conv=>cbv
 refine AI ?_;have d:=(Fg (k:=u.length) g (f.trans (congrArg _ j))).eq;refine AB (r:= .one (.bool true)) l (Uy o (n.CJ w) (by rw[n.len];exact d)) ?_;try conv=>cbv
 exact AD ⟨t2,trivial⟩
theorem Ud (h:At R u) (hT:T=tw u) (hq:Bn q b1 l1 b2 l2) (hC:C=em u (Re.ofRat q)) (N:zn=C.length):CF 239 [.one (.sl (.sl AA) T),.agg (B5 b1 l1 b2 l2)] (.one (.own AA C zn)):=by
 have L:T.length=u.length:=by rw[hT,CB]
 have a1:=h.ht;have V:=DS h.ht;have a7:=C2 u.length;refine AJ Tryz.func239 fun E hE=>?_
 conv=>cbv
 refine⟨[((b1,l1),(b2,l2))],fun _=>⟨rfl,by decide,rfl,⟨rfl,by first | exact t1 | exact t2 | exact t4 | simp[BV,Bm,cells],trivial⟩⟩,.inl ?_⟩;try conv=>cbv
 refine .inr ?_;obtain⟨W,D⟩:=xJ fun vs Q k=>∃(o:LR) (mm j:Nat),vs=[.one (.sl (.sl AA) T),.one (.AS AA 7 0 0 mm)]/\Q=[.arr 0 AA o]/\(mm=o.length/\o.length=j+1/\o.length<=2^u.length)/\o=rp q::List.replicate j (rp 0)/\k=2^u.length-o.length
 refine⟨[],[0,5],[7],W,⟨2^u.length-[rp q].length,by rw[D];exact⟨[rp q],1,0,rfl,by rw[hq.rp];rfl,⟨rfl,rfl,by show 1<=_;omega⟩,rfl,rfl⟩⟩,?_⟩;intro vs Q a8 S;rw[D] at S;obtain⟨o,mm,j,rfl,rfl,⟨G,a5,a6⟩,hinv,a2⟩:=S;conv=>cbv
 intro n9 h9;have e9:=h9.eq;conv=>cbv
 rintro aa ⟨J,f11⟩;conv=>cbv
 intro ab K;conv=>cbv
 refine AI ?_;have U:=(Fg (k:=u.length) K (J.trans (congrArg _ L))).eq;intro P F;conv=>cbv
 cases P <;> conv=>cbv
 ·have O:=BB F;have n:C=o:=by rw[hC,em,IA q h.red,hinv,show j=2^u.length-1 by omega,BD,List.map_cons,List.map_replicate]
  exact AD ⟨⟨rfl,.inr (.inl ⟨_,_,by decide,rfl,rfl,G,rfl,Dn (n) (by rw[N,n])⟩),trivial⟩,trivial⟩
 have O:=BC F;refine .inr ?_;obtain⟨l,m,f,g,w⟩:=CH (((0:Int):Rat));refine AB hE (Fk (by omega) rfl w) ?_;conv=>cbv
 refine⟨[((l,m),(f,g))],fun _=>⟨rfl,by decide,rfl,⟨rfl,by first | exact t1 | exact t2 | exact t4 | simp[BV,Bm,cells],trivial⟩⟩,.inr ?_⟩;try conv=>cbv
 refine .inl ⟨[((l,m),(f,g))],fun _=>⟨rfl,G,rfl,by show (o.length+1)*64<=140737488355328;(try simp only[List.length_take,List.length_drop]);omega⟩,?_⟩;intro (d:LR) I z;have v:d=(o:LR)++([((l,m),(f,g))]:LR):=z.1;have H:I=List.length (α:=(el AA)) d:=z.2;conv=>cbv
 have M:d.length=o.length+1:=by rw[v];simp
 refine⟨2^u.length-d.length,?_,?_⟩
 ·omega
 rw[D];exact⟨d,I,j+1,rfl,rfl,⟨H,by omega,by omega⟩,by rw[v,hinv,List.replicate_succ',List.cons_append,<-w.rp];rfl,rfl⟩
theorem HD (h:At R u) (f:T=tw u) (g:Bn q b1 l1 b2 l2) (d:C=em u (Re.ofRat q)):CF 239 [.one (.sl (.sl AA) T),.agg (B5 b1 l1 b2 l2)] (.one (.sl AA C)):=DQ (Ud h f g d rfl)
theorem dJ (P:X=BD xs) (hl:xs.length<=1000000) (hZ:Z=BD (xs.map (- ·))):CF 221 [.one (.sl (.sl AA) T),.one (.sl AA X)] (.one (.sl AA Z)):=by
 have W:X.length=xs.length:=by rw[P,List.length_map]
 refine AJ Tryz.func221 fun E V=>?_
 conv=>cbv
 refine .inr ?_;obtain⟨S,v⟩:=xJ fun vs O k=>∃(o:LR) (mm i':Nat) (i:Int),vs=[.one (.sl AA X),.one (.AS AA 5 0 0 mm),.one (.int .i64 i)]/\O=[.arr 0 AA o]/\(AW i i'/\i'<=X.length/\mm=o.length)/\o=BD ((xs.map (- ·)).take i')/\k=X.length-i'
 refine⟨[(5,AA,true)],[1,5,6],[5],S,⟨X.length,by rw[v];exact⟨[],0,0,0,rfl,rfl,⟨Bb 0,Nat.zero_le _,rfl⟩,rfl,rfl⟩⟩,?_⟩;intro vs O a7 Q;rw[v] at Q;obtain⟨o,mm,i',i,rfl,rfl,⟨hi,a1,F⟩,hinv,a2⟩:=Q;conv=>cbv
 have ei:=hi.eq;have a5:o.length<=X.length:=by rw[hinv,BD,List.length_map,List.length_take,List.length_map];omega
 rintro n9 ⟨e9,f9⟩;conv=>cbv
 intro L z;conv=>cbv
 cases L <;> conv=>cbv
 ·have K:=BB z;exact AD ⟨⟨rfl,.inl ⟨_,rfl,by omega,congrArg _ (by rw[hZ,F,hinv,List.drop_zero,List.take_length,List.take_of_length_le (by rw[List.length_map];omega)])⟩,trivial⟩,trivial⟩
 have K:=BC z;refine .inr ?_;obtain⟨N,j⟩:=AP (l:=X) (i:=i') (by omega);refine⟨N,fun _=>⟨by omega,by rw[show (i).toNat=i' by omega];exact j⟩,?_⟩;try conv=>cbv
 obtain⟨q,hq,I,a6⟩:=J8 P j;have J:(xs.map (- ·))[i']? =some (-q):=by rw[List.getElem?_map,I];rfl
 obtain⟨g,h,d,f,m⟩:=CH (-q);refine AB V (dQ hq rfl m) ?_;conv=>cbv
 refine⟨[((g,h),(d,f))],fun _=>⟨rfl,by decide,rfl,⟨rfl,by first | exact t1 | exact t2 | exact t4 | simp[BV,Bm,cells],trivial⟩⟩,.inr ?_⟩;try conv=>cbv
 refine .inl ⟨[((g,h),(d,f))],fun _=>⟨rfl,F,rfl,by show (o.length+1)*64<=140737488355328;(try simp only[List.length_take,List.length_drop]);omega⟩,?_⟩;intro (w:LR) H n;have D:w=(o:LR)++([((g,h),(d,f))]:LR):=n.1;have G:H=List.length (α:=(el AA)) w:=n.2;conv=>cbv
 intro M U;conv=>cbv
 refine AN ?_;refine⟨X.length-(i'+1),?_,?_⟩
 ·omega
 rw[v];exact⟨w,H,i'+1,M,rfl,rfl,⟨⟨by omega⟩,by omega,G⟩,by rw[D,hinv,ZY J,<-m.rp],rfl⟩
theorem cm {Y:LR} {ys:List Rat} (hX:X=BD xs) (hY:Y=BD ys) (hs:D7 xs) (ht:D7 ys) (ab:ys.length=xs.length) (hl:xs.length<=1000000) (hZ:Z=BD (List.zipWith (· + ·) xs ys)) (P:zn=Z.length):CF 217 [.one (.sl (.sl AA) T),.one (.sl AA X),.one (.sl AA Y)] (.one (.own AA Z zn)):=by
 have a5:X.length=xs.length:=by rw[hX,List.length_map]
 have a6:Y.length=ys.length:=by rw[hY,List.length_map]
 refine AJ Tryz.func217 fun E hE=>?_
 conv=>cbv
 refine .inr ?_;obtain⟨J0,z⟩:=xJ fun vs bl k=>∃(o:LR) (mm i':Nat) (i:Int),vs=[.one (.sl AA X),.one (.sl AA Y),.one (.AS AA 7 0 0 mm),.one (.int .i64 i)]/\bl=[.arr 0 AA o]/\(AW i i'/\i'<=X.length/\mm=o.length)/\o=BD ((List.zipWith (· + ·) xs ys).take i')/\k=X.length-i'
 refine⟨[(7,AA,true)],[1,2,7,8],[7],J0,⟨X.length,by rw[z];exact⟨[],0,0,0,rfl,rfl,⟨Bb 0,Nat.zero_le _,rfl⟩,rfl,rfl⟩⟩,?_⟩;intro vs bl ad hj;rw[z] at hj;obtain⟨o,mm,i',i,rfl,rfl,⟨hi,a7,H⟩,hinv,a8⟩:=hj;conv=>cbv
 have ei:=hi.eq;have aa:o.length<=X.length:=by rw[hinv,BD,List.length_map,List.length_take,List.length_zipWith];omega
 rintro ae ⟨a1,f11⟩;conv=>cbv
 intro S F;conv=>cbv
 cases S <;> conv=>cbv
 ·have Q:=BB F;have j:Z=o:=by rw[hZ,hinv,List.take_of_length_le (by rw[List.length_zipWith];omega)]
  exact AD ⟨⟨rfl,.inr (.inl ⟨_,_,by decide,rfl,rfl,H,rfl,Dn (j) (by rw[P,j])⟩),trivial⟩,trivial⟩
 have Q:=BC F;refine .inr ?_;obtain⟨V,m⟩:=AP (l:=X) (i:=i') (by omega);refine⟨V,fun _=>⟨by omega,by rw[show (i).toNat=i' by omega];exact m⟩,?_⟩;try conv=>cbv
 obtain⟨W,n⟩:=AP (l:=Y) (i:=i') (by omega);refine⟨W,fun _=>⟨by omega,by rw[show (i).toNat=i' by omega];exact n⟩,?_⟩;try conv=>cbv
 obtain⟨p,hp,K,N⟩:=Io hX hs m;obtain⟨q,hq,L,O⟩:=Io hY ht n;have M:(List.zipWith (· + ·) xs ys)[i']? =some (p+q):=by rw[List.getElem?_zipWith,K,L]
 obtain⟨g,h,d,f,v⟩:=CH (p+q);refine AB hE (dM hp hq N O rfl v) ?_;conv=>cbv
 refine⟨[((g,h),(d,f))],fun _=>⟨rfl,by decide,rfl,⟨rfl,by first | exact t1 | exact t2 | exact t4 | simp[BV,Bm,cells],trivial⟩⟩,.inr ?_⟩;try conv=>cbv
 refine .inl ⟨[((g,h),(d,f))],fun _=>⟨rfl,H,rfl,by show (o.length+1)*64<=140737488355328;(try simp only[List.length_take,List.length_drop]);omega⟩,?_⟩;intro (D:LR) J w;have G:D=(o:LR)++([((g,h),(d,f))]:LR):=w.1;have I:J=List.length (α:=(el AA)) D:=w.2;conv=>cbv
 refine g2 rfl ?_;intro U a2;conv=>cbv
 refine AN ?_;refine⟨X.length-(i'+1),?_,?_⟩
 ·omega
 rw[z];exact⟨D,J,i'+1,U,rfl,rfl,⟨⟨by omega⟩,by omega,I⟩,by rw[G,hinv,ZY M,<-v.rp],rfl⟩
end Go.Abs
namespace Go.Abs
open Go.RowKit
variable {A B C X Y Z:LR} {R s t zn:Nat} {T:List LR} {a b p q x y:Re} {r:List Rat} {u:List (List Rat)}
theorem Ig (h:AZ u) (g:In u x) (f:X=em u x) (d:x=0):CF 255 [.one (.sl AA X)] (.one (.bool true)):=
 Ur f (decide_eq_true ((MM h g).2 d)).symm
theorem JC (h:AZ u) (g:In u x) (f:X=em u x) (d:x≠0):CF 255 [.one (.sl AA X)] (.one (.bool false)):=
 Ur f (decide_eq_false (fun k=>d ((MM h g).1 k))).symm
theorem Us (h:At R u) (j:X=em u x) (k:Y=em u y) (d:El u s x) (f:El u t y) (m:s<=60000000000000) (ht:t<=60000000000000) (l:Z=em u (x+y)) (g:zn=Z.length):
  CF 217 [.one (.sl (.sl AA) T),.one (.sl AA X),.one (.sl AA Y)] (.one (.own AA Z zn)):=
 cm j k (d.CJ m) (f.CJ ht) (by rw[d.len,f.len]) (by rw[d.len];exact Jc h.ht) (by rw[l,Wd h.red d.mem f.mem]) g
theorem Ju (h:At R u) (d:X=em u x) (f:Y=em u y) (k:El u s x) (l:El u t y) (j:s<=60000000000000) (ht:t<=60000000000000) (g:Z=em u (x+y)):
 CF 217 [.one (.sl (.sl AA) T),.one (.sl AA X),.one (.sl AA Y)] (.one (.sl AA Z)):=DQ (Us h d f k l j ht g rfl)
theorem Ke (h:At R u) (f:X=em u x) (d:El u s x) (g:Z=em u (-x)):
  CF 221 [.one (.sl (.sl AA) T),.one (.sl AA X)] (.one (.sl AA Z)):=
 dJ f (by rw[d.len];exact Jc h.ht) (by rw[g,We h.red d.mem])
theorem Ns (h:At R u) (k:X=em u x) (l:Y=em u y) (o:El u s x) (j:El u t y) (n:s<=60000000000000) (ht:t<=60000000000000) (m:Z=em u (x-y)):CF 321 [.one (.sl (.sl AA) T),.one (.sl AA X),.one (.sl AA Y)] (.one (.sl AA Z)):=by
 refine AJ Tryz.func321 fun E g=>?_
 conv=>cbv
 obtain⟨v,d⟩:=xR (em u (-y));refine AB g (Ke h l j d) ?_;conv=>cbv
 obtain⟨w,f⟩:=xR (em u (x+ -y));refine AB g (Ju h k d o (j.neg h.red) n ht f) ?_;conv=>cbv
 exact AD ⟨⟨rfl,congrArg _ (by rw[m,f,show x-y=x+ -y by grind]),trivial⟩,trivial⟩
theorem dw {p q:Rat} (M:T=[]) (G:A=[rp p]) (H:B=[rp q]) (P:CL p) (ht:CL q) (I:C=[rp (p*q)]) (w:zn=C.length):CF 218 [.one (.sl (.sl AA) T),.one (.sl AA A),.one (.sl AA B)] (.one (.own AA C zn)):=by
 refine AJ Tryz.func218 fun E L=>?_
 conv=>cbv
 rintro Q ⟨v,f14⟩;conv=>cbv
 intro z h;conv=>cbv
 cases z <;> conv=>cbv
 ·have j:=Ao h;exact absurd (by rw[v,M];rfl) j
 have j:=BA h;have J:A.length=1:=by rw[G];rfl
 have K:B.length=1:=by rw[H];rfl
 obtain⟨D,d⟩:=AP (l:=A) (i:=0) (by omega);refine⟨D,fun _=>⟨by omega,d⟩,?_⟩;try conv=>cbv
 obtain⟨F,f⟩:=AP (l:=B) (i:=0) (by omega);refine⟨F,fun _=>⟨by omega,f⟩,?_⟩;try conv=>cbv
 have N:=Ff G d;have O:=Ff H f;obtain⟨n,o,k,m,g⟩:=CH (p*q);refine AB L (dP N O P ht rfl g) ?_;conv=>cbv
 refine⟨[((n,o),(k,m))],fun _=>⟨rfl,by decide,rfl,⟨rfl,by first | exact t1 | exact t2 | exact t4 | simp[BV,Bm,cells],trivial⟩⟩,.inl ?_⟩;try conv=>cbv
 refine g2 rfl ?_;exact AD ⟨⟨rfl,.inr (.inl ⟨_,_,by decide,rfl,rfl,rfl,rfl,Dn (by rw[I,g.rp]) (by rw[w,I];rfl)⟩),trivial⟩,trivial⟩
def L3 (R:Nat) (u:List (List Rat)):Prop:=∀{T:List LR} {A B C:LR} {zn s t:Nat} {x y:Re},T=tw u->A=em u x->B=em u y->El u s x->El u t y->s+t+EE u.length R<=60000000000000->C=em u (x*y)->zn=C.length->
 CF 218 [.one (.sl (.sl AA) T),.one (.sl AA A),.one (.sl AA B)] (.one (.own AA C zn))
theorem eA (h:At R (r::u)) (ih:L3 R u) (hT:T=tw (r::u)) (hA:A=em (r::u) x) (hB:B=em (r::u) y) (hx:El (r::u) s x) (hy:El (r::u) t y) (aW:s+t+EE (r::u).length R<=60000000000000) (G:x=p+q*rt u r) (hp:El u s p) (hq:El u s q) (H:y=a+b*rt u r) (ha:El u t a) (hb:El u t b) (h0:q=0) (h1:b=0) (hC:C=em (r::u) (x*y)) (ad:zn=C.length):CF 218 [.one (.sl (.sl AA) T),.one (.sl AA A),.one (.sl AA B)] (.one (.own AA C zn)):=by
 have aS:EE (r::u).length R=2*EE u.length R+R+2:=rfl;have aU:=El.DH h;have hR:=h.hR;have aV:=Cq h.red;have aT:T.length=u.length+1:=by rw[hT,CB];rfl
 have aQ:A.length=2^u.length+2^u.length:=by rw[hA,Bl hx.mem,B4]
 have aR:B.length=2^u.length+2^u.length:=by rw[hB,Bl hy.mem,B4]
 refine AJ Tryz.func218 fun E K=>?_
 conv=>cbv
 rintro b4 ⟨aJ,f14⟩;conv=>cbv
 intro aj J;conv=>cbv
 cases aj <;> conv=>cbv
 ·have a5:=Ao J;rintro b5 ⟨aK,f25⟩;conv=>cbv
  intro b6 aN;conv=>cbv
  refine g2 ⟨by omega,by omega,i64 (by omega)⟩ ?_;rintro b7 ⟨aL,f29⟩;conv=>cbv
  intro b8 aO;conv=>cbv
  refine AN ?_;intro aX ay;conv=>cbv
  refine AI ?_;intro a8 ar;conv=>cbv
  intro ae N;conv=>cbv
  rintro b9 ⟨aM,f34⟩;conv=>cbv
  intro ak aP;conv=>cbv
  refine AN ?_;obtain⟨an,a2⟩:=AP (l:=T) (i:=(T.length-1)) (by omega);refine⟨an,fun _=>⟨by omega,by rw[show (ak).toNat=(T.length-1) by omega];exact a2⟩,?_⟩;try conv=>cbv
  refine g2 rfl ?_;intro aY V;conv=>cbv
  refine AI ?_;rintro a6 aH ⟨ao,L⟩;conv=>cbv
  intro af O;conv=>cbv
  have w:af=em u q:=by rw[O,show a6=A.length/2 by omega,L,V,List.take_length,hA,CP h.red hp.mem hq.mem G]
  refine AB K (Ig h.tail.red hq.mem w h0) ?_;conv=>cbv
  intro aZ W;conv=>cbv
  refine AI ?_;rintro a7 aI ⟨aq,M⟩;conv=>cbv
  intro ag P;conv=>cbv
  have z:ag=em u b:=by rw[P,show a7=B.length/2 by omega,M,W,List.take_length,hB,CP h.red ha.mem hb.mem H]
  refine AB K (Ig h.tail.red hb.mem z h1) ?_;conv=>cbv
  refine g2 rfl ?_;intro b0 az;conv=>cbv
  refine AI ?_;intro aa au;conv=>cbv
  intro ah Q;conv=>cbv
  intro b3 aA;conv=>cbv
  refine AI ?_;intro ab av;conv=>cbv
  intro ai S;conv=>cbv
  have d:ae=tw u:=by rw[N,List.drop_zero,show a8=T.length-1 by omega,hT,Dq]
  have D:ah=em u p:=by rw[Q,List.drop_zero,show aa=A.length/2 by omega,hA,Co h.red hp.mem hq.mem G]
  have F:ai=em u a:=by rw[S,List.drop_zero,show ab=B.length/2 by omega,hB,Co h.red ha.mem hb.mem H]
  obtain⟨m,f⟩:=xR (em u (p*a));obtain⟨aC,g⟩:=xN m.length;refine AB K (ih d D F hp ha (by omega) f g) ?_;conv=>cbv
  refine g2 rfl ?_;obtain⟨aF,aG,aD,aE,o⟩:=CH (((0:Int):Rat));refine AB K (Fk (by omega) rfl o) ?_;conv=>cbv
  obtain⟨k,j⟩:=xR (em u (0));refine AB (r:= .one (.sl AA k)) K (HD h.tail d o (by rw[show Re.ofRat ((0:Int):Rat)=0 from rfl];exact j)) ?_;try conv=>cbv
  have aw:m.length=2^u.length:=by rw[f,Bl (hp.mul h.tail ha).mem]
  have aB:=DS h.tail.ht;have ax:k.length=2^u.length:=by rw[j,Bl (CG u)]
  refine .inl ⟨k,fun _=>⟨rfl,g,rfl,by show (m.length+k.length)*64<=140737488355328;(try simp only[List.length_take,List.length_drop]);omega⟩,?_⟩;intro (I:LR) al v;have U:I=(m:LR)++(k:LR):=v.1;have a1:al=List.length (α:=(el AA)) I:=v.2;conv=>cbv
  have n:C=I:=by rw[hC,U,f,j];exact Fp h.red (hp.mul h.tail ha).mem (CG u) (by rw[G,H,h0,h1];clear ih;grind)
  exact AD ⟨⟨rfl,.inr (.inl ⟨_,_,by decide,rfl,rfl,a1,rfl,Dn (n) (by rw[ad,n])⟩),trivial⟩,trivial⟩
 have a5:=BA J;exact absurd a5 (by omega)
theorem dz (h:At R (r::u)) (ih:L3 R u) (hT:T=tw (r::u)) (hA:A=em (r::u) x) (hB:B=em (r::u) y) (hx:El (r::u) s x) (hy:El (r::u) t y) (b7:s+t+EE (r::u).length R<=60000000000000) (m:x=p+q*rt u r) (k:El u s p) (hq:El u s q) (n:y=a+b*rt u r) (ha:El u t a) (hb:El u t b) (h0:q=0) (h1:b≠0) (hC:C=em (r::u) (x*y)) (ak:zn=C.length):CF 218 [.one (.sl (.sl AA) T),.one (.sl AA A),.one (.sl AA B)] (.one (.own AA C zn)):=by
 have b3:EE (r::u).length R=2*EE u.length R+R+2:=rfl;have b5:=El.DH h;have hR:=h.hR;have b6:=Cq h.red;have b4:T.length=u.length+1:=by rw[hT,CB];rfl
 have aZ:A.length=2^u.length+2^u.length:=by rw[hA,Bl hx.mem,B4]
 have b0:B.length=2^u.length+2^u.length:=by rw[hB,Bl hy.mem,B4]
 refine AJ Tryz.func218 fun E hE=>?_
 conv=>cbv
 rintro bg ⟨aS,f14⟩;conv=>cbv
 intro aw L;conv=>cbv
 cases aw <;> conv=>cbv
 ·have ab:=Ao L;rintro bh ⟨aT,f25⟩;conv=>cbv
  intro bj aW;conv=>cbv
  refine g2 ⟨by omega,by omega,i64 (by omega)⟩ ?_;rintro bk ⟨aU,f29⟩;conv=>cbv
  intro bl aX;conv=>cbv
  refine AN ?_;intro b8 aJ;conv=>cbv
  refine AI ?_;intro ag aD;conv=>cbv
  intro al P;conv=>cbv
  rintro bm ⟨aV,f34⟩;conv=>cbv
  intro ax aY;conv=>cbv
  refine AN ?_;obtain⟨az,aa⟩:=AP (l:=T) (i:=(T.length-1)) (by omega);refine⟨az,fun _=>⟨by omega,by rw[show (ax).toNat=(T.length-1) by omega];exact aa⟩,?_⟩;try conv=>cbv
  refine g2 rfl ?_;intro b9 a5;conv=>cbv
  refine AI ?_;rintro ad aP ⟨aA,M⟩;conv=>cbv
  intro an Q;conv=>cbv
  have D:an=em u q:=by rw[Q,show ad=A.length/2 by omega,M,a5,List.take_length,hA,CP h.red k.mem hq.mem m]
  refine AB hE (Ig h.tail.red hq.mem D h0) ?_;conv=>cbv
  intro ba a6;conv=>cbv
  refine AI ?_;rintro ae aQ ⟨aB,N⟩;conv=>cbv
  intro ao S;conv=>cbv
  have F:ao=em u b:=by rw[S,show ae=B.length/2 by omega,N,a6,List.take_length,hB,CP h.red ha.mem hb.mem n]
  refine AB hE (JC h.tail.red hb.mem F h1) ?_;conv=>cbv
  refine g2 rfl ?_;intro bb aK;conv=>cbv
  refine AI ?_;intro ah aE;conv=>cbv
  intro aq U;conv=>cbv
  intro bc aL;conv=>cbv
  refine AI ?_;intro ai aF;conv=>cbv
  intro ar V;conv=>cbv
  have d:al=tw u:=by rw[P,List.drop_zero,show ag=T.length-1 by omega,hT,Dq]
  have G:aq=em u p:=by rw[U,List.drop_zero,show ah=A.length/2 by omega,hA,Co h.red k.mem hq.mem m]
  have H:ar=em u a:=by rw[V,List.drop_zero,show ai=B.length/2 by omega,hB,Co h.red ha.mem hb.mem n]
  obtain⟨o,f⟩:=xR (em u (p*a));obtain⟨aO,g⟩:=xN o.length;refine AB hE (ih d G H k ha (by omega) f g) ?_;conv=>cbv
  refine g2 rfl ?_;intro bd aM;conv=>cbv
  refine AI ?_;intro aj aG;conv=>cbv
  intro au W;conv=>cbv
  intro bf a7;conv=>cbv
  refine AI ?_;rintro af aR ⟨aC,O⟩;conv=>cbv
  intro av a1;conv=>cbv
  have I:au=em u p:=by rw[W,List.drop_zero,show aj=A.length/2 by omega,hA,Co h.red k.mem hq.mem m]
  have J:av=em u b:=by rw[a1,show af=B.length/2 by omega,O,a7,List.take_length,hB,CP h.red ha.mem hb.mem n]
  obtain⟨v,j⟩:=xR (em u (p*b));refine AB hE (DQ (ih d I J k hb (by omega) j rfl)) ?_;conv=>cbv
  have aH:o.length=2^u.length:=by rw[f,Bl (k.mul h.tail ha).mem]
  have aN:=DS h.tail.ht;have aI:v.length=2^u.length:=by rw[j,Bl (k.mul h.tail hb).mem]
  refine .inl ⟨v,fun _=>⟨rfl,g,rfl,by show (o.length+v.length)*64<=140737488355328;(try simp only[List.length_take,List.length_drop]);omega⟩,?_⟩;intro (K:LR) ay z;have a2:K=(o:LR)++(v:LR):=z.1;have a8:ay=List.length (α:=(el AA)) K:=z.2;conv=>cbv
  refine g2 rfl ?_;have w:C=K:=by rw[hC,a2,f,j];exact Fp h.red (k.mul h.tail ha).mem (k.mul h.tail hb).mem (by rw[m,n,h0];clear ih;grind)
  exact AD ⟨⟨rfl,.inr (.inl ⟨_,_,by decide,rfl,rfl,a8,rfl,Dn (w) (by rw[ak,w])⟩),trivial⟩,trivial⟩
 have ab:=BA L;exact absurd ab (by omega)
theorem dy (h:At R (r::u)) (ih:L3 R u) (hT:T=tw (r::u)) (hA:A=em (r::u) x) (hB:B=em (r::u) y) (hx:El (r::u) s x) (hy:El (r::u) t y) (b8:s+t+EE (r::u).length R<=60000000000000) (k:x=p+q*rt u r) (L:El u s p) (J:El u s q) (m:y=a+b*rt u r) (ha:El u t a) (hb:El u t b) (h0:q≠0) (h1:b=0) (hC:C=em (r::u) (x*y)) (al:zn=C.length):CF 218 [.one (.sl (.sl AA) T),.one (.sl AA A),.one (.sl AA B)] (.one (.own AA C zn)):=by
 have b4:EE (r::u).length R=2*EE u.length R+R+2:=rfl;have b6:=El.DH h;have hR:=h.hR;have b7:=Cq h.red;have b5:T.length=u.length+1:=by rw[hT,CB];rfl
 have b0:A.length=2^u.length+2^u.length:=by rw[hA,Bl hx.mem,B4]
 have b3:B.length=2^u.length+2^u.length:=by rw[hB,Bl hy.mem,B4]
 refine AJ Tryz.func218 fun E hE=>?_
 conv=>cbv
 rintro bh ⟨aT,f14⟩;conv=>cbv
 intro ax M;conv=>cbv
 cases ax <;> conv=>cbv
 ·have ad:=Ao M;rintro bj ⟨aU,f25⟩;conv=>cbv
  intro bk aX;conv=>cbv
  refine g2 ⟨by omega,by omega,i64 (by omega)⟩ ?_;rintro bl ⟨aV,f29⟩;conv=>cbv
  intro bm aY;conv=>cbv
  refine AN ?_;intro b9 aK;conv=>cbv
  refine AI ?_;intro ah aE;conv=>cbv
  intro an Q;conv=>cbv
  rintro bn ⟨aW,f34⟩;conv=>cbv
  intro ay aZ;conv=>cbv
  refine AN ?_;obtain⟨aA,ab⟩:=AP (l:=T) (i:=(T.length-1)) (by omega);refine⟨aA,fun _=>⟨by omega,by rw[show (ay).toNat=(T.length-1) by omega];exact ab⟩,?_⟩;try conv=>cbv
  refine g2 rfl ?_;intro ba a6;conv=>cbv
  refine AI ?_;rintro ae aQ ⟨aB,N⟩;conv=>cbv
  intro ao S;conv=>cbv
  have z:ao=em u q:=by rw[S,show ae=A.length/2 by omega,N,a6,List.take_length,hA,CP h.red L.mem J.mem k]
  refine AB hE (JC h.tail.red J.mem z h0) ?_;conv=>cbv
  intro bb a7;conv=>cbv
  refine AI ?_;rintro af aR ⟨aC,O⟩;conv=>cbv
  intro aq U;conv=>cbv
  have D:aq=em u b:=by rw[U,show af=B.length/2 by omega,O,a7,List.take_length,hB,CP h.red ha.mem hb.mem m]
  refine AB hE (Ig h.tail.red hb.mem D h1) ?_;conv=>cbv
  refine g2 rfl ?_;intro bc aL;conv=>cbv
  refine AI ?_;intro ai aF;conv=>cbv
  intro ar V;conv=>cbv
  intro bd aM;conv=>cbv
  refine AI ?_;intro aj aG;conv=>cbv
  intro au W;conv=>cbv
  have d:an=tw u:=by rw[Q,List.drop_zero,show ah=T.length-1 by omega,hT,Dq]
  have F:ar=em u p:=by rw[V,List.drop_zero,show ai=A.length/2 by omega,hA,Co h.red L.mem J.mem k]
  have G:au=em u a:=by rw[W,List.drop_zero,show aj=B.length/2 by omega,hB,Co h.red ha.mem hb.mem m]
  obtain⟨n,f⟩:=xR (em u (p*a));obtain⟨aP,g⟩:=xN n.length;refine AB hE (ih d F G L ha (by omega) f g) ?_;conv=>cbv
  refine g2 rfl ?_;intro bf a8;conv=>cbv
  refine AI ?_;rintro ag aS ⟨aD,P⟩;conv=>cbv
  intro av a1;conv=>cbv
  intro bg aN;conv=>cbv
  refine AI ?_;intro ak aH;conv=>cbv
  intro aw a2;conv=>cbv
  have H:av=em u q:=by rw[a1,show ag=A.length/2 by omega,P,a8,List.take_length,hA,CP h.red L.mem J.mem k]
  have I:aw=em u a:=by rw[a2,List.drop_zero,show ak=B.length/2 by omega,hB,Co h.red ha.mem hb.mem m]
  obtain⟨o,j⟩:=xR (em u (q*a));refine AB hE (DQ (ih d H I J ha (by omega) j rfl)) ?_;conv=>cbv
  have aI:n.length=2^u.length:=by rw[f,Bl (L.mul h.tail ha).mem]
  have aO:=DS h.tail.ht;have aJ:o.length=2^u.length:=by rw[j,Bl (J.mul h.tail ha).mem]
  refine .inl ⟨o,fun _=>⟨rfl,g,rfl,by show (n.length+o.length)*64<=140737488355328;(try simp only[List.length_take,List.length_drop]);omega⟩,?_⟩;intro (K:LR) az w;have a5:K=(n:LR)++(o:LR):=w.1;have aa:az=List.length (α:=(el AA)) K:=w.2;conv=>cbv
  refine g2 rfl ?_;have v:C=K:=by rw[hC,a5,f,j];exact Fp h.red (L.mul h.tail ha).mem (J.mul h.tail ha).mem (by rw[k,m,h1];clear ih;grind)
  exact AD ⟨⟨rfl,.inr (.inl ⟨_,_,by decide,rfl,rfl,aa,rfl,Dn (v) (by rw[al,v])⟩),trivial⟩,trivial⟩
 have ad:=BA M;exact absurd ad (by omega)
theorem dx (h:At R (r::u)) (ih:L3 R u) (hT:T=tw (r::u)) (hA:A=em (r::u) x) (hB:B=em (r::u) y) (hx:El (r::u) s x) (hy:El (r::u) t y) (bT:s+t+EE (r::u).length R<=60000000000000) (m:x=p+q*rt u r) (k:El u s p) (f:El u s q) (n:y=a+b*rt u r) (ha:El u t a) (hb:El u t b) (h0:q≠0) (h1:b≠0) (hC:C=em (r::u) (x*y)) (b4:zn=C.length):CF 218 [.one (.sl (.sl AA) T),.one (.sl AA A),.one (.sl AA B)] (.one (.own AA C zn)):=by
 have bQ:EE (r::u).length R=2*EE u.length R+R+2:=rfl;have M:=El.DH h;have hR:=h.hR;have bS:=Cq h.red;have bR:T.length=u.length+1:=by rw[hT,CB];rfl
 have bO:A.length=2^u.length+2^u.length:=by rw[hA,Bl hx.mem,B4]
 have bP:B.length=2^u.length+2^u.length:=by rw[hB,Bl hy.mem,B4]
 refine AJ Tryz.func218 fun E H=>?_
 conv=>cbv
 rintro c1 ⟨bH,f14⟩;conv=>cbv
 intro bc ao;conv=>cbv
 cases bc <;> conv=>cbv
 ·have aH:=Ao ao;rintro c2 ⟨bI,f25⟩;conv=>cbv
  intro c3 bL;conv=>cbv
  refine g2 ⟨by omega,by omega,i64 (by omega)⟩ ?_;rintro c4 ⟨bJ,f29⟩;conv=>cbv
  intro c5 bM;conv=>cbv
  refine AN ?_;intro bU bq;conv=>cbv
  refine AI ?_;intro aS bm;conv=>cbv
  intro b5 aw;conv=>cbv
  rintro c6 ⟨bK,f34⟩;conv=>cbv
  intro bd bN;conv=>cbv
  refine AN ?_;obtain⟨aN,D⟩:=AP (l:=T) (i:=(T.length-1)) (by omega);refine⟨aN,fun _=>⟨by omega,by rw[show (bd).toNat=(T.length-1) by omega];exact D⟩,?_⟩;try conv=>cbv
  refine g2 rfl ?_;intro bV aD;conv=>cbv
  refine AI ?_;rintro aO bD ⟨bh,aq⟩;conv=>cbv
  intro b6 ax;conv=>cbv
  have a7:b6=em u q:=by rw[ax,show aO=A.length/2 by omega,aq,aD,List.take_length,hA,CP h.red k.mem f.mem m]
  refine AB H (JC h.tail.red f.mem a7 h0) ?_;conv=>cbv
  intro bW aE;conv=>cbv
  refine AI ?_;rintro aP bE ⟨bj,ar⟩;conv=>cbv
  intro b7 ay;conv=>cbv
  have a8:b7=em u b:=by rw[ay,show aP=B.length/2 by omega,ar,aE,List.take_length,hB,CP h.red ha.mem hb.mem n]
  refine AB H (JC h.tail.red hb.mem a8 h1) ?_;conv=>cbv
  refine g2 rfl ?_;intro bX br;conv=>cbv
  refine AI ?_;intro aT bn;conv=>cbv
  intro b8 az;conv=>cbv
  intro bY bs;conv=>cbv
  refine AI ?_;intro aU bo;conv=>cbv
  intro b9 aA;conv=>cbv
  have d:b5=tw u:=by rw[aw,List.drop_zero,show aS=T.length-1 by omega,hT,Dq]
  have aa:b8=em u p:=by rw[az,List.drop_zero,show aT=A.length/2 by omega,hA,Co h.red k.mem f.mem m]
  have ab:b9=em u a:=by rw[aA,List.drop_zero,show aU=B.length/2 by omega,hB,Co h.red ha.mem hb.mem n]
  obtain⟨c7,P⟩:=xR (em u (p*a));refine AB H (DQ (ih d aa ab k ha (by omega) P rfl)) ?_;conv=>cbv
  refine g2 rfl ?_;intro bZ aF;conv=>cbv
  refine AI ?_;rintro aQ bF ⟨bk,au⟩;conv=>cbv
  intro ba aB;conv=>cbv
  intro c0 aG;conv=>cbv
  refine AI ?_;rintro aR bG ⟨bl,av⟩;conv=>cbv
  intro bb aC;conv=>cbv
  have ad:ba=em u q:=by rw[aB,show aQ=A.length/2 by omega,au,aF,List.take_length,hA,CP h.red k.mem f.mem m]
  have ae:bb=em u b:=by rw[aC,show aR=B.length/2 by omega,av,aG,List.take_length,hB,CP h.red ha.mem hb.mem n]
  obtain⟨c8,Q⟩:=xR (em u (q*b));refine AB H (DQ (ih d ad ae f hb (by omega) Q rfl)) ?_;conv=>cbv
  have ai:aN=em u (AL u r):=by rw[hT,GA] at D;exact (Option.some.inj D).symm.trans (Eu h.red)
  obtain⟨c9,S⟩:=xR (em u (q*b*AL u r));refine AB H (DQ (ih d Q ai (f.mul h.tail hb) M (by omega) S rfl)) ?_;conv=>cbv
  obtain⟨N,w⟩:=xR (em u (p*a+q*b*AL u r));obtain⟨bC,z⟩:=xN N.length;refine AB H (Us h.tail P S (k.mul h.tail ha) ((f.mul h.tail hb).mul h.tail M) (by omega) (by omega) w z) ?_;conv=>cbv
  refine g2 rfl ?_;intro bu b0;conv=>cbv
  refine AI ?_;intro al aX;conv=>cbv
  intro aI W;conv=>cbv
  intro bw af;conv=>cbv
  refine AI ?_;rintro aj bf ⟨aV,U⟩;conv=>cbv
  intro aJ a1;conv=>cbv
  have I:aI=em u p:=by rw[W,List.drop_zero,show al=A.length/2 by omega,hA,Co h.red k.mem f.mem m]
  have J:aJ=em u b:=by rw[a1,show aj=B.length/2 by omega,U,af,List.take_length,hB,CP h.red ha.mem hb.mem n]
  obtain⟨bA,o⟩:=xR (em u (p*b));refine AB H (DQ (ih d I J k hb (by omega) o rfl)) ?_;conv=>cbv
  intro bx ag;conv=>cbv
  refine AI ?_;rintro ak bg ⟨aW,V⟩;conv=>cbv
  intro aK a2;conv=>cbv
  intro bz b3;conv=>cbv
  refine AI ?_;intro an aY;conv=>cbv
  intro aL a5;conv=>cbv
  have K:aK=em u q:=by rw[a2,show ak=A.length/2 by omega,V,ag,List.take_length,hA,CP h.red k.mem f.mem m]
  have L:aL=em u a:=by rw[a5,List.drop_zero,show an=B.length/2 by omega,hB,Co h.red ha.mem hb.mem n]
  obtain⟨bB,v⟩:=xR (em u (q*a));refine AB H (DQ (ih d K L f ha (by omega) v rfl)) ?_;conv=>cbv
  obtain⟨j,g⟩:=xR (em u (p*b+q*a));refine AB H (Ju h.tail o v (k.mul h.tail hb) (f.mul h.tail ha) (by omega) (by omega) g) ?_;conv=>cbv
  have bp:N.length=2^u.length:=by rw[w,Bl (DK (k.mul h.tail ha).mem ((f.mul h.tail hb).mul h.tail M).mem)]
  have aZ:j.length=2^u.length:=by rw[g,Bl (DK (k.mul h.tail hb).mem (f.mul h.tail ha).mem)]
  have bt:=DS h.tail.ht;refine .inl ⟨j,fun _=>⟨rfl,z,rfl,by show (N.length+j.length)*64<=140737488355328;(try simp only[List.length_take,List.length_drop]);omega⟩,?_⟩;intro (F:LR) aM G;have a6:F=(N:LR)++(j:LR):=G.1;have ah:aM=List.length (α:=(el AA)) F:=G.2;conv=>cbv
  refine g2 rfl ?_;have O:C=F:=by rw[hC,a6,w,g];exact Fp h.red (DK (k.mul h.tail ha).mem ((f.mul h.tail hb).mul h.tail M).mem) (DK (k.mul h.tail hb).mem (f.mul h.tail ha).mem) (by rw[m,n];clear ih;grind)
  exact AD ⟨⟨rfl,.inr (.inl ⟨_,_,by decide,rfl,rfl,ah,rfl,Dn (O) (by rw[b4,O])⟩),trivial⟩,trivial⟩
 have aH:=BA ao;exact absurd aH (by omega)
theorem bE (h:At R u):L3 R u:=by
 induction u with
 | nil=>
  intro T A B C zn s t x y z m n k l f o d;obtain⟨p,rfl⟩:=Cp.1 k.mem;obtain⟨q,rfl⟩:=Cp.1 l.mem;rw[EJ] at m n;rw[<-Re.ofRat_mul,EJ] at o;have v:=k.CJ (by omega);have w:=l.CJ (by omega);rw[De] at v w;exact dw z m n (v _ List.mem_cons_self) (w _ List.mem_cons_self) o d
 | cons r u G=>
  intro T A B C zn s t x y z m n k l f o d;obtain⟨p,q,g,v,w⟩:=El.parts h.red k;obtain⟨a,b,j,ha,hb⟩:=El.parts h.red l
  by_cases F:q=0
  ·by_cases D:b=0
   ·exact eA h (G h.tail) z m n k l f g v w j ha hb F D o d
   exact dz h (G h.tail) z m n k l f g v w j ha hb F D o d
  by_cases D:b=0
  ·exact dy h (G h.tail) z m n k l f g v w j ha hb F D o d
  exact dx h (G h.tail) z m n k l f g v w j ha hb F D o d
theorem D9 (h:At R u) (k:T=tw u) (f:A=em u x) (g:B=em u y) (l:El u s x) (m:El u t y) (d:s+t+EE u.length R<=60000000000000) (j:C=em u (x*y)):
 CF 218 [.one (.sl (.sl AA) T),.one (.sl AA A),.one (.sl AA B)] (.one (.sl AA C)):=DQ (bE h k f g l m d j rfl)
end Go.Abs
namespace Go.Abs
open Go.RowKit Go.Shelf Go.Proofs
def OX:Ren:=⟨fun k=>if k=4 then 370 else 0,fun k=>if k=3 then 3 else if k=4 then 4 else if k=9 then 9 else if k=20 then 20 else if k=22 then 34 else if k=25 then 69 else 0,fun k=>k⟩
theorem iB:Lays8.n4 Tryz.prog OX where
 mixed:=LJ
 f4:=⟨Tryz.f370.name,by kernel_rfl,by kernel_rfl⟩
 t0:=by kernel_rfl
 a0:=by intro w;kernel_rfl
 z0:=by intro w;kernel_rfl
 v0:=by intro w;kernel_rfl
 t3:=by kernel_rfl
 a3:=by intro w;kernel_rfl
 z3:=by intro w;kernel_rfl
 v3:=by intro w;kernel_rfl
 t4:=by kernel_rfl
 a4:=by intro w;kernel_rfl
 z4:=by intro w;kernel_rfl
 v4:=by intro w;kernel_rfl
 t9:=by kernel_rfl
 a9:=by intro w;kernel_rfl
 z9:=by intro w;kernel_rfl
 v9:=by intro w;kernel_rfl
 t20:=by kernel_rfl
 a20:=by intro w;kernel_rfl
 z20:=by intro w;kernel_rfl
 v20:=by intro w;kernel_rfl
 t22:=by kernel_rfl
 a22:=by intro w;kernel_rfl
 z22:=by intro w;kernel_rfl
 v22:=by intro w;kernel_rfl
theorem bW {n:Int} {k:Nat} (L:AW n k) (K:0<k) (P:k<=1000000:=by omega):CF 370 [.one .nil,.one (.int .i64 n)] (.one (.own AA [] 0)):=by
 refine⟨⟨_,_,Tryz.func370,by kernel_rfl,rfl⟩,⟨rfl,rfl⟩,?_⟩;intro w I vs O g
 match vs,g with
 | [v1,v2],⟨D,F,_⟩=>
  have v:v1= .slice none 0 0:=by rcases D with h | h;cases h;exact h
  have e2:v2= .int .i64 k:=by rcases F with h | h;cases h;rw[<-L.eq];exact h
  subst v;subst e2;obtain⟨_,i0,z,f,M,hb,_,j,m⟩:=(NR 34).sl rfl
  have l:z.cells.size=4:=by
   have:=(m (Dm w I)).length;rw[He] at this;have e:(TI 34).elem.size=4:=rfl;rw[e] at this;simpa using this.symm
  have d:i0.bytes=64:=hb;have N:i0.size=4:=M;have hc:=Any8.slices_Grow_grow iB i0 z f j (by omega) none 0 0 k [] w (by omega) (by omega) (by rw[d];omega) (by omega) (by simp) (fun _=>rfl) (fun a h=>by cases h);refine hc.mono fun e w' ⟨he,hw⟩=>?_
  have H:=grownCap_ge w (0+k) 0 (OX.t 25);have hle:=grownCap_le_maxLen w (0+k) 0 (OX.t 25) (by unfold maxLen;omega)
  generalize grownCap w (0+k) 0 (OX.t 25)=G at*
  subst hw
  have J:∀o:Obj,(w.drew.alloc o).heap[w.heap.size]? =some o:=fun o=>by
   show (w.heap.push o)[w.heap.size]? =_
   rw[Array.getElem?_push,if_pos rfl]
  refine⟨_,some w.heap.size,he,((Below.refl _ _).drew).alloc (Nat.le_refl _) _,.inr ⟨rfl,_,_,rfl,Nat.zero_le _,hle,Nat.zero_le _,.inr ⟨_,_,_,rfl,Nat.le_refl _,rfl,J _,?_,fun i y h=>by simp at h⟩⟩⟩
  show G*4<=_
  simp[size_zeroCells,l];omega
end Go.Abs
namespace Go.Abs
open Go.RowKit
variable {Z x:LR} {zn:Nat}
theorem Wz {X:List LR} {i:Nat} (h:X[i]? =some x):(X.take (i+1)).flatten=(X.take i).flatten++x:=by
 rw[C4 h,List.flatten_append];simp
theorem Wy {X:List LR} {i m:Nat} (h:X[i]? =some x) (hm:m=(X.take i).flatten.length):m+x.length=(X.take (i+1)).flatten.length:=by
 rw[Wz h,List.length_append,hm]
theorem Wx (X:List LR) (i:Nat):(X.take i).flatten.length<=X.flatten.length:=by
 conv=>rhs;rw[<-List.take_append_drop i X,List.flatten_append,List.length_append]
 omega
theorem UB {X:LR} (v:X.length<=1000000) (g:zn=X.length):CF 307 [.one (.sl AA X)] (.one (.own AA X zn)):=by
 refine AJ Tryz.func307 fun E o=>?_
 conv=>cbv
 intro n4 m;conv=>cbv
 refine⟨fun l=>?_,?_⟩
 ·conv=>cbv
  have d:X=[]:=by rw[m] at l;simpa using l
  exact AD ⟨⟨rfl,.inr (.inr ⟨_,Dn (d) (by rw[g,d];rfl)⟩),trivial⟩,trivial⟩
 refine⟨[],fun _=>⟨rfl,by decide,rfl,trivial⟩,.inl ?_⟩;try conv=>cbv
 refine .inl ⟨X,fun _=>⟨rfl,by (first | rfl | omega),rfl,by show (0+X.length)*64<=140737488355328;(try simp only[List.length_take,List.length_drop]);omega⟩,?_⟩;intro (k:LR) n h;have f:k=([]:LR)++(X:LR):=h.1;have j:n=List.length (α:=(el AA)) k:=h.2;conv=>cbv
 exact AD ⟨⟨rfl,.inr (.inl ⟨_,_,by decide,rfl,rfl,by rw[j],rfl,Dn (by rw[f];simp) (by rw[g,f];simp)⟩),trivial⟩,trivial⟩
theorem UA {X:LR} (d:X.length<=1000000):CF 307 [.one (.sl AA X)] (.one (.sl AA X)):=DQ (UB d rfl)
theorem bQ {X:List LR} (h0:0<X.flatten.length) (hX:X.flatten.length<=1000000) (hZ:Z=X.flatten) (a2:zn=Z.length):CF 329 [.one (.sl (.sl AA) X)] (.one (.own AA Z zn)):=by
 refine AJ Tryz.func329 fun E hE=>?_
 conv=>cbv
 intro a7 n;have ah:=n.eq;have f10:=n.le;conv=>cbv
 refine .inr ?_;obtain⟨J0,w⟩:=xJ fun vs U k=>∃(i' m':Nat) (m L i:Int),vs=[.one (.sl (.sl AA) X),.one (.int .i64 m),.one (.sl (.sl AA) X),.one (.int .i64 L),.one (.int .i64 i)]/\(DM L X.length/\AW i i'/\i'<=X.length/\AW m m')/\m'=(X.take i').flatten.length/\k=X.length-i'
 refine⟨[],[0,3,9,10,11],[],J0,⟨X.length-0,by rw[w];exact⟨0,0,0,a7,0,rfl,⟨n,Bb 0,by omega,Bb 0⟩,rfl,rfl⟩⟩,?_⟩;intro vs U au K;rw[w] at K;obtain⟨i',m',m,L,i,rfl,⟨I,W,a1,hm⟩,hinv,aq⟩:=K;conv=>cbv
 have eL:=I.eq;have ei:=W.eq;have em:=hm.eq;intro a8 F;conv=>cbv
 cases a8 <;> conv=>cbv
 ·have a5:=BB F;have ao:m'=X.flatten.length:=by rw[hinv,show i'=X.length by omega,List.take_length]
  refine AB hE (bW hm (by omega)) ?_;conv=>cbv
  intro ae v;have aj:=v.eq;have f26:=v.le;conv=>cbv
  refine .inr ?_;obtain⟨J1,z⟩:=xJ fun vs U k=>∃(i' mm:Nat) (o:LR) (L i:Int),vs=[.one (.AS AA 24 0 0 mm),.one (.sl (.sl AA) X),.one (.int .i64 L),.one (.int .i64 i)]/\U=[.arr 0 AA o]/\(DM L X.length/\AW i i'/\i'<=X.length/\mm=o.length)/\o=(X.take i').flatten/\k=X.length-i'
  refine⟨[],[6,25,26,27],[24],J1,⟨X.length-0,by rw[z];exact⟨0,0,[],ae,0,rfl,rfl,⟨v,Bb 0,by omega,rfl⟩,rfl,rfl⟩⟩,?_⟩;intro vs U av K;rw[z] at K;obtain⟨i',mm,o,L,i,rfl,rfl,⟨I,W,a1,N⟩,hinv,ar⟩:=K;conv=>cbv
  have eL:=I.eq;have ei:=W.eq;intro af H;conv=>cbv
  cases af <;> conv=>cbv
  ·have a6:=BB H;have g:Z=o:=by rw[hZ,hinv,show i'=X.length by omega,List.take_length]
   exact AD ⟨⟨rfl,.inr (.inl ⟨_,_,by decide,rfl,rfl,N,rfl,Dn (g) (by rw[a2,g])⟩),trivial⟩,trivial⟩
  have a6:=BC H;refine .inr ?_;obtain⟨f,d⟩:=AP (l:=X) (i:=i') (by omega);refine⟨f,fun _=>⟨by omega,by rw[show (i).toNat=i' by omega];exact d⟩,?_⟩;try conv=>cbv
  have J:=Wy d (congrArg _ hinv);have V:=Wx X (i'+1);refine .inl ⟨f,fun _=>⟨rfl,N,rfl,by show (o.length+f.length)*64<=140737488355328;(try simp only[List.length_take,List.length_drop]);omega⟩,?_⟩;intro (D:LR) Q j;have M:D=(o:LR)++(f:LR):=j.1;have O:Q=List.length (α:=(el AA)) D:=j.2;conv=>cbv
  intro ag an;conv=>cbv
  refine AN ?_;refine⟨X.length-(i'+1),?_,?_⟩
  ·omega
  rw[z];exact⟨i'+1,Q,D,L,ag,rfl,rfl,⟨I,⟨by omega⟩,by omega,by rw[O]⟩,by rw[M,hinv,Wz d],rfl⟩
 have a5:=BC F;refine .inr ?_;obtain⟨S,h⟩:=AP (l:=X) (i:=i') (by omega);refine⟨S,fun _=>⟨by omega,by rw[show (i).toNat=i' by omega];exact h⟩,?_⟩;try conv=>cbv
 rintro aw ⟨ai,f17⟩;conv=>cbv
 have J:=Wy h hinv;have V:=Wx X (i'+1);intro aa ak;conv=>cbv
 refine AN ?_;intro ab G;conv=>cbv
 refine .inr ?_;cases ab <;> conv=>cbv
 ·have P:=BB G;intro ad al;conv=>cbv
  refine AN ?_;refine⟨X.length-(i'+1),?_,?_⟩
  ·omega
  rw[w];exact⟨i'+1,m'+S.length,aa,L,ad,rfl,⟨I,⟨by omega⟩,by omega,⟨by omega⟩⟩,J,rfl⟩
 have P:=BC G;exact absurd P (by omega)
theorem OC {A B:LR} (f:0<A.length) (g:A.length+B.length<=1000000) (d:Z=A++B):CF 329 [.one (.sl (.sl AA) [A,B])] (.one (.sl AA Z)):=
 DQ (bQ (X:=[A,B]) (by simp;omega) (by simp;omega) (by simp[d]) rfl)
end Go.Abs
namespace Go.Abs
open Go.RowKit
def UX (f:FuncId) (R:Nat) (u:List (List Rat)):Prop:=∀{T:List LR} {A:LR} {s:Nat} {x:Re} {c:Int},T=tw u->A=em u x->El u s x->VV u.length R s<=60000000000000->c=BT x->
 CF f [.one (.sl (.sl AA) T),.one (.sl AA A)] (.one (.int .i64 c))
variable {A:LR} {R s:Nat} {T:List LR} {c:Int} {u:List (List Rat)} {x:Re}
theorem oU {p:Rat} (w:T=[]) (n:A=[rp p]) (hc:c=Ez p):CF 286 [.one (.sl (.sl AA) T),.one (.sl AA A)] (.one (.int .i64 c)):=by
 refine AJ Tryz.func286 fun E v=>?_
 conv=>cbv
 rintro z ⟨j,f14⟩;conv=>cbv
 intro k g;conv=>cbv
 cases k <;> conv=>cbv
 ·have h:=Ao g;exact absurd (by rw[j,w];rfl) h
 have h:=BA g;have o:A.length=1:=by rw[n];rfl
 obtain⟨m,f⟩:=AP (l:=A) (i:=0) (by omega);refine⟨m,fun _=>⟨by omega,f⟩,?_⟩;try conv=>cbv
 obtain⟨D,d⟩:=xI (Ez p);refine AB v (Nc (Ff n f) d) ?_;conv=>cbv
 exact AD ⟨⟨rfl,congrArg _ (hc.trans d.symm),trivial⟩,trivial⟩
theorem oV {r:List Rat} (h:At R (r::u)) (ih:UX 286 R u) (hT:T=tw (r::u)) (hA:A=em (r::u) x) (hx:El (r::u) s x) (hs:VV (r::u).length R s<=60000000000000) (hc:c=BT x):CF 286 [.one (.sl (.sl AA) T),.one (.sl AA A)] (.one (.int .i64 c)):=by
 obtain⟨p,q,m,w,o⟩:=El.parts h.red hx;have aD:T.length=u.length+1:=by rw[hT,CB];rfl
 have aC:A.length=2^u.length+2^u.length:=by rw[hA,Bl hx.mem,B4]
 have aF:VV (r::u).length R s=VV u.length R (2*s+2*EE u.length R+R+1):=rfl;have aG:=GY u.length R (2*s+2*EE u.length R+R+1);have aE:=Ib u.length R (s:=s) (t:=2*s+2*EE u.length R+R+1) (by omega);have hN:=El.norm h w.mem o.mem (m ▸ hx);have a5:=El.DH h;have v:=ZZ h.red;have ae:=Cq h.red;refine AJ Tryz.func286 fun E I=>?_
 conv=>cbv
 rintro aK ⟨ax,f14⟩;conv=>cbv
 intro ai N;conv=>cbv
 cases ai <;> conv=>cbv
 ·have a6:=Ao N;rintro aL ⟨ay,f21⟩;conv=>cbv
  intro a7 aA;conv=>cbv
  refine AN ?_;rintro aM ⟨az,f24⟩;conv=>cbv
  intro aN aB;conv=>cbv
  refine g2 ⟨by omega,by omega,i64 (by omega)⟩ ?_;intro aH au;conv=>cbv
  refine AI ?_;intro ab aq;conv=>cbv
  intro af V;conv=>cbv
  intro aI av;conv=>cbv
  refine AI ?_;intro ad ar;conv=>cbv
  intro ag W;conv=>cbv
  intro aJ a2;conv=>cbv
  refine AI ?_;rintro aa aw ⟨ao,U⟩;conv=>cbv
  intro ah a1;conv=>cbv
  refine g2 rfl ?_;have d:af=tw u:=by rw[V,List.drop_zero,show ab=T.length-1 by omega,hT,Dq]
  have j:ag=em u p:=by rw[W,List.drop_zero,show ad=A.length/2 by omega,hA,Co h.red w.mem o.mem m]
  have k:ah=em u q:=by rw[a1,show aa=A.length/2 by omega,U,a2,List.take_length,hA,CP h.red w.mem o.mem m]
  obtain⟨aP,f⟩:=xI (BT p);refine AB I (ih d j w (by omega) f) ?_;conv=>cbv
  obtain⟨aQ,g⟩:=xI (BT q);refine AB I (ih d k o (by omega) g) ?_;conv=>cbv
  refine .inr ?_;intro aj O;conv=>cbv
  cases aj <;> conv=>cbv
  ·have K:=Ao O;intro ak P;conv=>cbv
   cases ak <;> conv=>cbv
   ·have L:=Ao P;intro al Q;conv=>cbv
    cases al <;> conv=>cbv
    ·have M:=Ao Q;obtain⟨aR,z⟩:=xR (em u (p*p));refine AB I (H3 h.tail d j j w w (by omega) z) ?_;conv=>cbv
     obtain⟨a8,H⟩:=AP (l:=T) (i:=(a7).toNat) (by omega);refine⟨a8,fun _=>⟨by omega,H⟩,?_⟩;try conv=>cbv
     have J:a8=BD r:=by have:=GA r u;rw[<-hT,show T.length-1=a7.toNat by omega,H] at this;exact Option.some.inj this
     obtain⟨aS,D⟩:=xR (em u (q*q));refine AB I (H3 h.tail d k k o o (by omega) D) ?_;conv=>cbv
     obtain⟨aT,F⟩:=xR (em u (AL u r*(q*q)));refine AB I (H3 h.tail d (J.trans (Eu h.red)) D a5 (o.mul h.tail o) (by omega) F) ?_;conv=>cbv
     obtain⟨aU,G⟩:=xR (em u (p*p-AL u r*(q*q)));refine AB I (Ng h.tail d z F (w.mul h.tail w) (a5.mul h.tail (o.mul h.tail o)) (by omega) (by omega) G) ?_;conv=>cbv
     refine g2 rfl ?_;obtain⟨an,n⟩:=xI (BT (p*p-q*q*AL u r));refine AB (r:= .one (.int .i64 an)) I (ih d (G.trans (by congr 1;clear ih;grind)) hN (by omega) n) ?_;try conv=>cbv
     intro aO S;conv=>cbv
     refine⟨fun _=>by rw[S,f,n];exact Zn _ _,?_⟩;exact AD ⟨⟨rfl,congrArg _ (by rw[hc,S,f,n,m];exact Zr v ae (fun e=>M (by rw[f,e];exact Gk)) (fun e=>K (by rw[g,e];exact Gk)) (by rw[<-f,<-g];exact L)),trivial⟩,trivial⟩
    have M:=BA Q;exact AD ⟨⟨rfl,congrArg _ (by rw[hc,g,m];exact Zs v (Gj.1 (f ▸ M))),trivial⟩,trivial⟩
   have L:=BA P;exact AD ⟨⟨rfl,congrArg _ (by rw[hc,f,m];exact PR v (.inr (by rw[<-f,<-g];exact L))),trivial⟩,trivial⟩
  have K:=BA O;exact AD ⟨⟨rfl,congrArg _ (by rw[hc,f,m];exact PR v (.inl (Gj.1 (g ▸ K)))),trivial⟩,trivial⟩
 have a6:=BA N;exact absurd a6 (by omega)
theorem ae (h:At R u):UX 286 R u:=by
 induction u with
 | nil=>
  intro T A s x c f d g j hc;obtain⟨p,rfl⟩:=Cp.1 g.mem;rw[EJ] at d;exact oU f d (hc.trans (Zp p))
 | cons r u k=>
  intro T A s x c f d g j hc;exact oV h (k h.tail) f d g j hc
theorem cV (h:At R u) (v:T=tw u) (hs:VV u.length R R<=60000000000000):CF 340 [.one (.sl (.sl AA) T)] (.one (.bool true)):=by
 have a8:T.length=u.length:=by rw[v,CB]
 have H:El u 0 0:=El.rat h.red HF;refine AJ Tryz.func340 fun E M=>?_
 conv=>cbv
 obtain⟨ai,aj,ag,ah,I⟩:=CH (((0:Int):Rat));refine AB M (H4 (by omega) rfl I) ?_;conv=>cbv
 obtain⟨w8,G⟩:=xR (em u (0));refine AB M (Jq h v I ⟨by decide +kernel,by decide +kernel⟩ G) ?_;conv=>cbv
 refine AB (r:= .one (.bool true)) M (IW v h.G7 G (H.CJ (by omega)) (by rw[H.len,List.length_reverse];exact (decide_eq_true rfl).symm)) ?_;try conv=>cbv
 refine AO ?_;conv=>cbv
 intro S g;have a6:=g.eq;have f12:=g.le;conv=>cbv
 refine .inr ?_;obtain⟨J0,j⟩:=xJ fun vs bl k=>∃(i':Nat) (L i:Int),vs=[.one (.sl (.sl AA) T),.one (.sl (.sl AA) T),.one (.int .i64 L),.one (.int .i64 i)]/\(DM L T.length/\AW i i'/\i'<=T.length)/\k=T.length-i'
 refine⟨[],[0,11,12,13],[],J0,⟨T.length-0,by rw[j];exact⟨0,S,0,rfl,⟨g,Bb 0,by omega⟩,rfl⟩⟩,?_⟩;intro vs bl ad hj;rw[j] at hj;obtain⟨i',L,i,rfl,⟨hL,hi,aa⟩,ab⟩:=hj;conv=>cbv
 have eL:=hL.eq;have ei:=hi.eq;intro U n;conv=>cbv
 cases U <;> conv=>cbv
 ·have P:=BB n;exact AD ⟨t2,trivial⟩
 have P:=BC n;refine .inr ?_;obtain⟨K,f⟩:=AP (l:=T) (i:=i') (by omega);refine⟨K,fun _=>⟨by omega,by rw[show (i).toNat=i' by omega];exact f⟩,?_⟩;try conv=>cbv
 obtain⟨r,F,D⟩:=KJ (u:=u) (i:=i') (by omega);have z:AZ (r::pre u i'):=F ▸ (h.pre (i'+1)).red;have O:K=BD r:=by rw[<-v,f] at D;exact Option.some.inj D
 intro af a5;conv=>cbv
 refine AI ?_;intro N a2;conv=>cbv
 intro Q w;conv=>cbv
 have m:Q=tw (pre u i'):=by rw[w,List.drop_zero,show N=i' by omega,v,Ix]
 obtain⟨a1,d⟩:=xI (BT (AL (pre u i') r));refine AB (r:= .one (.int .i64 a1)) M (ae (h.pre i') m (O.trans (Eu z)) (El.DH (F ▸ h.pre (i'+1))) (by rw[Jd (by omega)];exact Nat.le_trans (L2 (by omega) R R) hs) d) ?_;try conv=>cbv
 intro V o;conv=>cbv
 cases V <;> conv=>cbv
 ·have J:=Me o;intro W a7;conv=>cbv
  refine AN ?_;refine⟨T.length-(i'+1),?_,?_⟩
  ·omega
  rw[j];exact⟨i'+1,L,W,rfl,⟨hL,⟨by omega⟩,by omega⟩,rfl⟩
 have J:=Mg o;exact absurd J (by rw[d,E8 z.2.2.1];omega)
theorem hH {L:List LR} (h:At R u) (G:T=tw u) (S:VV u.length R R<=60000000000000) (N:∀l∈L,∃x,l=em u x/\El u s x) (o:s<=60000000000000:=by omega):CF 285 [.one (.sl (.sl AA) T),.one (.sl (.sl AA) L)] (.one (.bool true)):=by
 refine AJ Tryz.func285 fun E F=>?_
 conv=>cbv
 intro V n;have W:=n.eq;have f8:=n.le;conv=>cbv
 refine .inr ?_;obtain⟨J,f⟩:=xJ fun vs K k=>∃(i':Nat) (m i:Int),vs=[.one (.sl (.sl AA) T),.one (.sl (.sl AA) L),.one (.int .i64 m),.one (.int .i64 i)]/\(DM m L.length/\AW i i'/\i'<=L.length)/\k=L.length-i'
 refine⟨[],[0,7,8,9],[],J,⟨L.length-0,by rw[f];exact⟨0,V,0,rfl,⟨n,Bb 0,by omega⟩,rfl⟩⟩,?_⟩;intro vs K U H;rw[f] at H;obtain⟨i',m,i,rfl,⟨hm,O,P⟩,Q⟩:=H;conv=>cbv
 have em:=hm.eq;have ei:=O.eq;intro z g;conv=>cbv
 cases z <;> conv=>cbv
 ·have w:=BB g;refine AB F (cV h G S) ?_;conv=>cbv
  exact AD ⟨t2,trivial⟩
 have w:=BC g;refine .inr ?_;obtain⟨j,d⟩:=AP (l:=L) (i:=i') (by omega);refine⟨j,fun _=>⟨by omega,by rw[show (i).toNat=i' by omega];exact d⟩,?_⟩;try conv=>cbv
 obtain⟨x,v,I⟩:=N j (List.mem_of_getElem? d);refine AB (r:= .one (.bool true)) F (IW G h.G7 v (I.CJ o) (by rw[I.len,List.length_reverse];exact (decide_eq_true rfl).symm)) ?_;try conv=>cbv
 refine AO ?_;conv=>cbv
 intro D M;conv=>cbv
 refine AN ?_;refine⟨L.length-(i'+1),?_,?_⟩
 ·omega
 rw[f];exact⟨i'+1,m,D,rfl,⟨hm,⟨by omega⟩,by omega⟩,rfl⟩
theorem Lz (h:At R u) (g:T=tw u) (d:A=em u x) (j:El u s x) (n:VV u.length R s<=60000000000000) (hR:VV u.length R R<=60000000000000) (hc:c=BT x):CF 203 [.one (.sl (.sl AA) T),.one (.sl AA A)] (.one (.int .i64 c)):=by
 have k:=GY u.length R s;refine AJ Tryz.func203 fun E f=>?_
 conv=>cbv
 refine⟨[A],fun _=>⟨rfl,by decide,rfl,⟨rfl,by first | exact t1 | exact t2 | exact t4 | simp[BV,Bm,cells],trivial⟩⟩,.inr ?_⟩;try conv=>cbv
 refine AB f (hH h g hR (fun l m=>⟨x,(List.mem_singleton.1 m).trans d,j⟩)) ?_;conv=>cbv
 refine AO ?_;conv=>cbv
 refine AB f (ae h g d j n hc) ?_;conv=>cbv
 exact AD ⟨t2,trivial⟩
end Go.Abs
