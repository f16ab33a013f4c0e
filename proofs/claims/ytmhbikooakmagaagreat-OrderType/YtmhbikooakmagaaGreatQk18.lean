/- Part 19 of a proof. Conditions: each theorem's own. -/
import Derived.Shelf.Spec.SlicesGrow
import Derived.Test.YtmhbikooakmagaaGreatQk17
set_option linter.all false
set_option maxHeartbeats 8000000
set_option maxRecDepth 20000
open Go.Proofs
namespace Go.Abs
open Go.RowKit
variable {C X Z:LR} {R i zn:Nat} {T:List LR} {b1 b2:Bool} {l1 l2:List UInt32} {q:Rat} {u:List (List Rat)} {xs:List Rat}
theorem Ha {x:el AA} (f:X=Ad xs) (d:X[i]? =some x):∃q,Ay q x.1.1 x.1.2 x.2.1 x.2.2/\xs[i]? =some q/\x=rp q:=by
 rw[f,Ad,List.getElem?_map] at d;cases h:xs[i]? with
 | none=>rw[h] at d;simp at d
 | some q=>
  rw[h] at d;have e:x=rp q:=(Option.some.inj d).symm;exact⟨q,by rw[e];exact FA q,rfl,e⟩
theorem Uq (h:xs[i]? =some q):Ad (xs.take (i+1))=Ad (xs.take i)++[rp q]:=by
 rw[CE h,Ad,Ad,List.map_append];rfl
theorem QN {c:Bool} (G:X=Ad xs) (H:c=decide (∀q∈xs,q=0)):CF 255 [.one (.sl AA X)] (.one (.bool c)):=by
 have M:X.length=xs.length:=by rw[G,List.length_map]
 refine AJ Tryz.func255 fun E hE=>?_
 conv=>cbv
 refine .inr ?_;obtain⟨K,g⟩:=xJ fun vs L k=>∃(i':Nat) (i:Int),vs=[.one (.sl AA X),.one (.int .i64 i)]/\(AQ i i'/\i'<=X.length)/\(∀q∈xs.take i',q=0)/\k=X.length-i'
 refine⟨[],[0,3],[],K,⟨X.length-0,by rw[g];exact⟨0,0,rfl,⟨An 0,by omega⟩,by simp,rfl⟩⟩,?_⟩;intro vs L U I;rw[g] at I;obtain⟨i',i,rfl,⟨N,O⟩,hinv,P⟩:=I;conv=>cbv
 have ei:=N.eq;rintro n6 ⟨e6,f6⟩;conv=>cbv
 intro V F;conv=>cbv
 cases V <;> conv=>cbv
 ·have S:=AW F;exact AD ⟨⟨rfl,congrArg _ (by rw[H,decide_eq_true];intro z d;rw[<-List.take_of_length_le (show xs.length<=i' by omega)] at d;exact hinv z d),trivial⟩,trivial⟩
 have S:=AY F;refine .inr ?_;obtain⟨n,f⟩:=AL (l:=X) (i:=i') (by omega);refine⟨n,fun _=>⟨by omega,by rw[show (i).toNat=i' by omega];exact f⟩,?_⟩;try conv=>cbv
 obtain⟨q,J,m,Q⟩:=Ha G f;rintro n16 ⟨o,f16⟩;conv=>cbv
 have D:n16=((List.length (α:=UInt32) n.1.2:Nat):Int):=o;intro n17 j;conv=>cbv
 cases n17 <;> conv=>cbv
 ·have w:=Bh j;intro W h9;conv=>cbv
  refine AH ?_;refine⟨X.length-(i'+1),?_,?_⟩
  ·omega
  rw[g];refine⟨i'+1,W,rfl,⟨⟨by omega⟩,by omega⟩,?_,rfl⟩;intro z d;rw[CE m] at d;rcases List.mem_append.1 d with d | d
  ·exact hinv z d
  rw[List.mem_singleton.1 d];exact Rat.num_eq_zero.1 (J.num.EW.1 (by omega))
 have w:=Bi j;have v:q≠0:=fun e=>by have:=J.num.EW.2 (Rat.num_eq_zero.2 e);omega
 exact AD ⟨⟨rfl,congrArg _ (by rw[H,decide_eq_false];exact fun h=>v (h q (List.mem_of_getElem? m))),trivial⟩,trivial⟩
theorem QV {n:Int} (v:X=Ad xs) (O:C4 xs) (W:n=(xs.length:Int)):CF 245 [.one (.sl AA X),.one (.int .i64 n)] (.one (.bool true)):=by
 have I:X.length=xs.length:=by rw[v,List.length_map]
 refine AJ Tryz.func245 fun E H=>?_
 conv=>cbv
 refine .inr ?_;obtain⟨z,f⟩:=xJ fun vs D k=>∃(i':Nat) (i:Int),vs=[.one (.sl AA X),.one (.int .i64 n),.one (.int .i64 i)]/\(AQ i i'/\i'<=X.length)/\k=X.length-i'
 refine⟨[],[0,1,5],[],z,⟨X.length-0,by rw[f];exact⟨0,0,rfl,⟨An 0,by omega⟩,rfl⟩⟩,?_⟩;intro vs D Q w;rw[f] at w;obtain⟨i',i,rfl,⟨J,K⟩,L⟩:=w;conv=>cbv
 have V:=J.eq;rintro n8 ⟨U,f8⟩;conv=>cbv
 intro S o;conv=>cbv
 cases S <;> conv=>cbv
 ·have P:=AW o;rintro n19 ⟨F,f19⟩;conv=>cbv
  intro n21 g;conv=>cbv
  exact AD ⟨⟨rfl,congrArg _ (by rw[g];simp;omega),trivial⟩,trivial⟩
 have P:=AY o;refine .inr ?_;obtain⟨m,d⟩:=AL (l:=X) (i:=i') (by omega);refine⟨m,fun _=>⟨by omega,by rw[show (i).toNat=i' by omega];exact d⟩,?_⟩;try conv=>cbv
 obtain⟨q,M,N,h⟩:=GV v O d;refine AB H (XP M h) ?_;conv=>cbv
 refine Ai ?_;conv=>cbv
 intro j G;conv=>cbv
 refine AH ?_;refine⟨X.length-(i'+1),?_,?_⟩
 ·omega
 rw[f];exact⟨i'+1,j,rfl,⟨⟨by omega⟩,by omega⟩,rfl⟩
theorem QJ (h:Aa R u) (z:T=tw u):CF 244 [.one (.sl (.sl AA) T)] (.one (.bool true)):=by
 have I:T.length=u.length:=by rw[z,BN]
 have J:=h.ht;refine AJ Tryz.func244 fun E H=>?_
 conv=>cbv
 refine .inr ?_;obtain⟨F,f⟩:=xJ fun vs G k=>∃(i':Nat) (i:Int),vs=[.one (.sl (.sl AA) T),.one (.int .i64 i)]/\(AQ i i'/\i'<=T.length)/\k=T.length-i'
 refine⟨[],[0,3],[],F,⟨T.length-0,by rw[f];exact⟨0,0,rfl,⟨An 0,by omega⟩,rfl⟩⟩,?_⟩;intro vs G O D;rw[f] at D;obtain⟨i',i,rfl,⟨K,L⟩,M⟩:=D;conv=>cbv
 have U:=K.eq;rintro W ⟨S,f6⟩;conv=>cbv
 intro P w;conv=>cbv
 cases P <;> conv=>cbv
 ·have N:=AW w;exact AD ⟨t2,trivial⟩
 have N:=AY w;refine .inr ?_;obtain⟨v,d⟩:=AL (l:=T) (i:=i') (by omega);refine⟨v,fun _=>⟨by omega,by rw[show (i).toNat=i' by omega];exact d⟩,?_⟩;try conv=>cbv
 obtain⟨y,n,j⟩:=HZ z d;have o:=Iq h.red _ y j;intro n15 m;conv=>cbv
 refine AG ?_;have g:=(Dy (k:=i') m (by omega)).eq;refine AB (r:= .one (.bool true)) H (QV n ((h.tb y (List.mem_reverse.1 (List.mem_of_getElem? j))).BT h.hR) (by rw[o];exact g)) ?_;try conv=>cbv
 refine Ai ?_;conv=>cbv
 refine g2 rfl ?_;intro Q V;conv=>cbv
 refine AH ?_;refine⟨T.length-(i'+1),?_,?_⟩
 ·omega
 rw[f];exact⟨i'+1,Q,rfl,⟨⟨by omega⟩,by omega⟩,rfl⟩
theorem Kd {A:LR} {s:Nat} {x:Re} (h:Aa R u) (m:T=tw u) (o:A=em u x) (n:El u s x) (w:s<=60000000000000:=by omega):CF 130 [.one (.sl (.sl AA) T),.one (.sl AA A)] (.one (.bool true)):=by
 have j:T.length=u.length:=by rw[m,BN]
 have v:=h.ht;refine AJ Tryz.func130 fun E l=>?_
 conv=>cbv
 refine AB l (QJ h m) ?_;conv=>cbv
 rintro z ⟨f,f10⟩;conv=>cbv
 intro D g;conv=>cbv
 refine AG ?_;have d:=(Dy (k:=u.length) g (f.trans (congrArg _ j))).eq;refine AB (r:= .one (.bool true)) l (QV o (n.BT w) (by rw[n.len];exact d)) ?_;try conv=>cbv
 exact AD ⟨t2,trivial⟩
theorem QB (h:Aa R u) (hT:T=tw u) (hq:Ay q b1 l1 b2 l2) (hC:C=em u (Re.ofRat q)) (M:zn=C.length):CF 239 [.one (.sl (.sl AA) T),.agg (BK b1 l1 b2 l2)] (.one (.own AA C zn)):=by
 have K:T.length=u.length:=by rw[hT,BN]
 have a1:=h.ht;have U:=CT h.ht;have a7:=Cu u.length;refine AJ Tryz.func239 fun E hE=>?_
 conv=>cbv
 refine⟨[((b1,l1),(b2,l2))],fun _=>⟨rfl,by decide,rfl,⟨rfl,by first | exact t1 | exact t2 | exact t4 | simp[Aj,Ar,cells],trivial⟩⟩,.inl ?_⟩;try conv=>cbv
 refine .inr ?_;obtain⟨V,D⟩:=xJ fun vs P k=>∃(o:LR) (mm j:Nat),vs=[.one (.sl (.sl AA) T),.one (.AN AA 7 0 0 mm)]/\P=[.arr 0 AA o]/\(mm=o.length/\o.length=j+1/\o.length<=2^u.length)/\o=rp q::List.replicate j (rp 0)/\k=2^u.length-o.length
 refine⟨[],[0,5],[7],V,⟨2^u.length-[rp q].length,by rw[D];exact⟨[rp q],1,0,rfl,by rw[hq.rp];rfl,⟨rfl,rfl,by show 1<=_;omega⟩,rfl,rfl⟩⟩,?_⟩;intro vs P a8 Q;rw[D] at Q;obtain⟨o,mm,j,rfl,rfl,⟨G,a5,a6⟩,hinv,a2⟩:=Q;conv=>cbv
 intro n9 W;have e9:=W.eq;conv=>cbv
 rintro aa ⟨I,f11⟩;conv=>cbv
 intro ab J;conv=>cbv
 refine AG ?_;have S:=(Dy (k:=u.length) J (I.trans (congrArg _ K))).eq;intro O F;conv=>cbv
 cases O <;> conv=>cbv
 ·have N:=AW F;have n:C=o:=by rw[hC,em,IB q h.red,hinv,show j=2^u.length-1 by omega,Ad,List.map_cons,List.map_replicate]
  exact AD ⟨⟨rfl,.inr (.inl ⟨_,_,by decide,rfl,rfl,G,rfl,CX (n) (by rw[M,n])⟩),trivial⟩,trivial⟩
 have N:=AY F;refine .inr ?_;obtain⟨l,m,f,g,w⟩:=BP (((0:Int):Rat));refine AB hE (D1 (by omega) rfl w) ?_;conv=>cbv
 refine⟨[((l,m),(f,g))],fun _=>⟨rfl,by decide,rfl,⟨rfl,by first | exact t1 | exact t2 | exact t4 | simp[Aj,Ar,cells],trivial⟩⟩,.inr ?_⟩;try conv=>cbv
 refine .inl ⟨[((l,m),(f,g))],fun _=>⟨rfl,G,rfl,by show (o.length+1)*64<=140737488355328;(try simp only[List.length_take,List.length_drop]);omega⟩,?_⟩;intro (d:LR) n17 z;have v:d=(o:LR)++([((l,m),(f,g))]:LR):=z.1;have H:n17=List.length (α:=(el AA)) d:=z.2;conv=>cbv
 have L:d.length=o.length+1:=by rw[v];simp
 refine⟨2^u.length-d.length,?_,?_⟩
 ·omega
 rw[D];exact⟨d,n17,j+1,rfl,rfl,⟨H,by omega,by omega⟩,by rw[v,hinv,List.replicate_succ',List.cons_append,<-w.rp];rfl,rfl⟩
theorem E3 (h:Aa R u) (f:T=tw u) (g:Ay q b1 l1 b2 l2) (d:C=em u (Re.ofRat q)):CF 239 [.one (.sl (.sl AA) T),.agg (BK b1 l1 b2 l2)] (.one (.sl AA C)):=CP (QB h f g d rfl)
theorem XG (O:X=Ad xs) (hl:xs.length<=1000000) (W:Z=Ad (xs.map (- ·))):CF 221 [.one (.sl (.sl AA) T),.one (.sl AA X)] (.one (.sl AA Z)):=by
 have V:X.length=xs.length:=by rw[O,List.length_map]
 refine AJ Tryz.func221 fun E U=>?_
 conv=>cbv
 refine .inr ?_;obtain⟨Q,v⟩:=xJ fun vs N k=>∃(o:LR) (mm i':Nat) (i:Int),vs=[.one (.sl AA X),.one (.AN AA 5 0 0 mm),.one (.int .i64 i)]/\N=[.arr 0 AA o]/\(AQ i i'/\i'<=X.length/\mm=o.length)/\o=Ad ((xs.map (- ·)).take i')/\k=X.length-i'
 refine⟨[(5,AA,true)],[1,5,6],[5],Q,⟨X.length,by rw[v];exact⟨[],0,0,0,rfl,rfl,⟨An 0,Nat.zero_le _,rfl⟩,rfl,rfl⟩⟩,?_⟩;intro vs N a7 P;rw[v] at P;obtain⟨o,mm,i',i,rfl,rfl,⟨hi,a1,F⟩,hinv,a2⟩:=P;conv=>cbv
 have ei:=hi.eq;have a5:o.length<=X.length:=by rw[hinv,Ad,List.length_map,List.length_take,List.length_map];omega
 rintro n9 ⟨e9,f9⟩;conv=>cbv
 intro K z;conv=>cbv
 cases K <;> conv=>cbv
 ·have J:=AW z;exact AD ⟨⟨rfl,.inl ⟨_,rfl,by omega,congrArg _ (by rw[W,F,hinv,List.drop_zero,List.take_length,List.take_of_length_le (by rw[List.length_map];omega)])⟩,trivial⟩,trivial⟩
 have J:=AY z;refine .inr ?_;obtain⟨M,j⟩:=AL (l:=X) (i:=i') (by omega);refine⟨M,fun _=>⟨by omega,by rw[show (i).toNat=i' by omega];exact j⟩,?_⟩;try conv=>cbv
 obtain⟨q,hq,H,a6⟩:=Ha O j;have I:(xs.map (- ·))[i']? =some (-q):=by rw[List.getElem?_map,H];rfl
 obtain⟨g,h,d,f,m⟩:=BP (-q);refine AB U (XM hq rfl m) ?_;conv=>cbv
 refine⟨[((g,h),(d,f))],fun _=>⟨rfl,by decide,rfl,⟨rfl,by first | exact t1 | exact t2 | exact t4 | simp[Aj,Ar,cells],trivial⟩⟩,.inr ?_⟩;try conv=>cbv
 refine .inl ⟨[((g,h),(d,f))],fun _=>⟨rfl,F,rfl,by show (o.length+1)*64<=140737488355328;(try simp only[List.length_take,List.length_drop]);omega⟩,?_⟩;intro (w:LR) n20 n;have D:w=(o:LR)++([((g,h),(d,f))]:LR):=n.1;have G:n20=List.length (α:=(el AA)) w:=n.2;conv=>cbv
 intro L S;conv=>cbv
 refine AH ?_;refine⟨X.length-(i'+1),?_,?_⟩
 ·omega
 rw[v];exact⟨w,n20,i'+1,L,rfl,rfl,⟨⟨by omega⟩,by omega,G⟩,by rw[D,hinv,Uq I,<-m.rp],rfl⟩
theorem Wy {Y:LR} {ys:List Rat} (hX:X=Ad xs) (hY:Y=Ad ys) (hs:C4 xs) (ht:C4 ys) (ab:ys.length=xs.length) (hl:xs.length<=1000000) (hZ:Z=Ad (List.zipWith (· + ·) xs ys)) (O:zn=Z.length):CF 217 [.one (.sl (.sl AA) T),.one (.sl AA X),.one (.sl AA Y)] (.one (.own AA Z zn)):=by
 have a5:X.length=xs.length:=by rw[hX,List.length_map]
 have a6:Y.length=ys.length:=by rw[hY,List.length_map]
 refine AJ Tryz.func217 fun E hE=>?_
 conv=>cbv
 refine .inr ?_;obtain⟨J0,z⟩:=xJ fun vs W k=>∃(o:LR) (mm i':Nat) (i:Int),vs=[.one (.sl AA X),.one (.sl AA Y),.one (.AN AA 7 0 0 mm),.one (.int .i64 i)]/\W=[.arr 0 AA o]/\(AQ i i'/\i'<=X.length/\mm=o.length)/\o=Ad ((List.zipWith (· + ·) xs ys).take i')/\k=X.length-i'
 refine⟨[(7,AA,true)],[1,2,7,8],[7],J0,⟨X.length,by rw[z];exact⟨[],0,0,0,rfl,rfl,⟨An 0,Nat.zero_le _,rfl⟩,rfl,rfl⟩⟩,?_⟩;intro vs W ad hj;rw[z] at hj;obtain⟨o,mm,i',i,rfl,rfl,⟨hi,a7,H⟩,hinv,a8⟩:=hj;conv=>cbv
 have ei:=hi.eq;have aa:o.length<=X.length:=by rw[hinv,Ad,List.length_map,List.length_take,List.length_zipWith];omega
 rintro ae ⟨a1,f11⟩;conv=>cbv
 intro Q F;conv=>cbv
 cases Q <;> conv=>cbv
 ·have P:=AW F;have j:Z=o:=by rw[hZ,hinv,List.take_of_length_le (by rw[List.length_zipWith];omega)]
  exact AD ⟨⟨rfl,.inr (.inl ⟨_,_,by decide,rfl,rfl,H,rfl,CX (j) (by rw[O,j])⟩),trivial⟩,trivial⟩
 have P:=AY F;refine .inr ?_;obtain⟨U,m⟩:=AL (l:=X) (i:=i') (by omega);refine⟨U,fun _=>⟨by omega,by rw[show (i).toNat=i' by omega];exact m⟩,?_⟩;try conv=>cbv
 obtain⟨V,n⟩:=AL (l:=Y) (i:=i') (by omega);refine⟨V,fun _=>⟨by omega,by rw[show (i).toNat=i' by omega];exact n⟩,?_⟩;try conv=>cbv
 obtain⟨p,hp,J,M⟩:=GV hX hs m;obtain⟨q,hq,K,N⟩:=GV hY ht n;have L:(List.zipWith (· + ·) xs ys)[i']? =some (p+q):=by rw[List.getElem?_zipWith,J,K]
 obtain⟨g,h,d,f,v⟩:=BP (p+q);refine AB hE (XI hp hq M N rfl v) ?_;conv=>cbv
 refine⟨[((g,h),(d,f))],fun _=>⟨rfl,by decide,rfl,⟨rfl,by first | exact t1 | exact t2 | exact t4 | simp[Aj,Ar,cells],trivial⟩⟩,.inr ?_⟩;try conv=>cbv
 refine .inl ⟨[((g,h),(d,f))],fun _=>⟨rfl,H,rfl,by show (o.length+1)*64<=140737488355328;(try simp only[List.length_take,List.length_drop]);omega⟩,?_⟩;intro (D:LR) n26 w;have G:D=(o:LR)++([((g,h),(d,f))]:LR):=w.1;have I:n26=List.length (α:=(el AA)) D:=w.2;conv=>cbv
 refine g2 rfl ?_;intro S a2;conv=>cbv
 refine AH ?_;refine⟨X.length-(i'+1),?_,?_⟩
 ·omega
 rw[z];exact⟨D,n26,i'+1,S,rfl,rfl,⟨⟨by omega⟩,by omega,I⟩,by rw[G,hinv,Uq L,<-v.rp],rfl⟩
end Go.Abs
namespace Go.Abs
open Go.RowKit
variable {A B C X Y Z:LR} {R s t zn:Nat} {T:List LR} {a b p q x y:Re} {r:List Rat} {u:List (List Rat)}
theorem GL (h:AS u) (g:In u x) (f:X=em u x) (d:x=0):CF 255 [.one (.sl AA X)] (.one (.bool true)):=
 QN f (decide_eq_true ((Ja h g).2 d)).symm
theorem Gp (h:AS u) (g:In u x) (f:X=em u x) (d:x≠0):CF 255 [.one (.sl AA X)] (.one (.bool false)):=
 QN f (decide_eq_false (fun k=>d ((Ja h g).1 k))).symm
theorem QO (h:Aa R u) (j:X=em u x) (k:Y=em u y) (d:El u s x) (f:El u t y) (m:s<=60000000000000) (ht:t<=60000000000000) (l:Z=em u (x+y)) (g:zn=Z.length):
  CF 217 [.one (.sl (.sl AA) T),.one (.sl AA X),.one (.sl AA Y)] (.one (.own AA Z zn)):=
 Wy j k (d.BT m) (f.BT ht) (by rw[d.len,f.len]) (by rw[d.len];exact G9 h.ht) (by rw[l,R6 h.red d.mem f.mem]) g
theorem HR (h:Aa R u) (d:X=em u x) (f:Y=em u y) (k:El u s x) (l:El u t y) (j:s<=60000000000000) (ht:t<=60000000000000) (g:Z=em u (x+y)):
 CF 217 [.one (.sl (.sl AA) T),.one (.sl AA X),.one (.sl AA Y)] (.one (.sl AA Z)):=CP (QO h d f k l j ht g rfl)
theorem H2 (h:Aa R u) (f:X=em u x) (d:El u s x) (g:Z=em u (-x)):
  CF 221 [.one (.sl (.sl AA) T),.one (.sl AA X)] (.one (.sl AA Z)):=
 XG f (by rw[d.len];exact G9 h.ht) (by rw[g,R7 h.red d.mem])
theorem Km (h:Aa R u) (k:X=em u x) (l:Y=em u y) (o:El u s x) (j:El u t y) (n:s<=60000000000000) (ht:t<=60000000000000) (m:Z=em u (x-y)):CF 321 [.one (.sl (.sl AA) T),.one (.sl AA X),.one (.sl AA Y)] (.one (.sl AA Z)):=by
 refine AJ Tryz.func321 fun E g=>?_
 conv=>cbv
 obtain⟨v,d⟩:=xR (em u (-y));refine AB g (H2 h l j d) ?_;conv=>cbv
 obtain⟨w,f⟩:=xR (em u (x+ -y));refine AB g (HR h k d o (j.neg h.red) n ht f) ?_;conv=>cbv
 exact AD ⟨⟨rfl,congrArg _ (by rw[m,f,show x-y=x+ -y by grind]),trivial⟩,trivial⟩
theorem Xm {p q:Rat} (L:T=[]) (F:A=[rp p]) (G:B=[rp q]) (O:BX p) (ht:BX q) (H:C=[rp (p*q)]) (w:zn=C.length):CF 218 [.one (.sl (.sl AA) T),.one (.sl AA A),.one (.sl AA B)] (.one (.own AA C zn)):=by
 refine AJ Tryz.func218 fun E K=>?_
 conv=>cbv
 rintro P ⟨v,f14⟩;conv=>cbv
 intro n15 h;conv=>cbv
 cases n15 <;> conv=>cbv
 ·have j:=Ac h;exact absurd (by rw[v,L];rfl) j
 have j:=Ae h;have I:A.length=1:=by rw[F];rfl
 have J:B.length=1:=by rw[G];rfl
 obtain⟨z,d⟩:=AL (l:=A) (i:=0) (by omega);refine⟨z,fun _=>⟨by omega,d⟩,?_⟩;try conv=>cbv
 obtain⟨D,f⟩:=AL (l:=B) (i:=0) (by omega);refine⟨D,fun _=>⟨by omega,f⟩,?_⟩;try conv=>cbv
 have M:=Dw F d;have N:=Dw G f;obtain⟨n,o,k,m,g⟩:=BP (p*q);refine AB K (XL M N O ht rfl g) ?_;conv=>cbv
 refine⟨[((n,o),(k,m))],fun _=>⟨rfl,by decide,rfl,⟨rfl,by first | exact t1 | exact t2 | exact t4 | simp[Aj,Ar,cells],trivial⟩⟩,.inl ?_⟩;try conv=>cbv
 refine g2 rfl ?_;exact AD ⟨⟨rfl,.inr (.inl ⟨_,_,by decide,rfl,rfl,rfl,rfl,CX (by rw[H,g.rp]) (by rw[w,H];rfl)⟩),trivial⟩,trivial⟩
def JG (R:Nat) (u:List (List Rat)):Prop:=∀{T:List LR} {A B C:LR} {zn s t:Nat} {x y:Re},T=tw u->A=em u x->B=em u y->El u s x->El u t y->s+t+EE u.length R<=60000000000000->C=em u (x*y)->zn=C.length->
 CF 218 [.one (.sl (.sl AA) T),.one (.sl AA A),.one (.sl AA B)] (.one (.own AA C zn))
theorem Xq (h:Aa R (r::u)) (ih:JG R u) (hT:T=tw (r::u)) (hA:A=em (r::u) x) (hB:B=em (r::u) y) (hx:El (r::u) s x) (hy:El (r::u) t y) (aT:s+t+EE (r::u).length R<=60000000000000) (G:x=p+q*rt u r) (hp:El u s p) (hq:El u s q) (H:y=a+b*rt u r) (ha:El u t a) (hb:El u t b) (h0:q=0) (h1:b=0) (hC:C=em (r::u) (x*y)) (ab:zn=C.length):CF 218 [.one (.sl (.sl AA) T),.one (.sl AA A),.one (.sl AA B)] (.one (.own AA C zn)):=by
 have aP:EE (r::u).length R=2*EE u.length R+R+2:=rfl;have aR:=El.CK h;have hR:=h.hR;have aS:=B4 h.red;have aQ:T.length=u.length+1:=by rw[hT,BN];rfl
 have aN:A.length=2^u.length+2^u.length:=by rw[hA,Aw hx.mem,BM]
 have aO:B.length=2^u.length+2^u.length:=by rw[hB,Aw hy.mem,BM]
 refine AJ Tryz.func218 fun E K=>?_
 conv=>cbv
 rintro aZ ⟨aG,f14⟩;conv=>cbv
 intro n15 J;conv=>cbv
 cases n15 <;> conv=>cbv
 ·have a5:=Ac J;rintro n25 ⟨aH,f25⟩;conv=>cbv
  intro n26 aK;conv=>cbv
  refine g2 ⟨by omega,by omega,i64 (by omega)⟩ ?_;rintro n29 ⟨aI,f29⟩;conv=>cbv
  intro n30 aL;conv=>cbv
  refine AH ?_;intro aU av;conv=>cbv
  refine AG ?_;intro a7 an;conv=>cbv
  intro ad N;conv=>cbv
  rintro n34 ⟨aJ,f34⟩;conv=>cbv
  intro n35 aM;conv=>cbv
  refine AH ?_;obtain⟨aj,a2⟩:=AL (l:=T) (i:=(T.length-1)) (by omega);refine⟨aj,fun _=>⟨by omega,by rw[show (n35).toNat=(T.length-1) by omega];exact a2⟩,?_⟩;try conv=>cbv
  refine g2 rfl ?_;intro aV V;conv=>cbv
  refine AG ?_;rintro a40 aE ⟨ak,L⟩;conv=>cbv
  intro ae O;conv=>cbv
  have w:ae=em u q:=by rw[O,show a40=A.length/2 by omega,L,V,List.take_length,hA,Bc h.red hp.mem hq.mem G]
  refine AB K (GL h.tail.red hq.mem w h0) ?_;conv=>cbv
  intro aW W;conv=>cbv
  refine AG ?_;rintro a6 aF ⟨al,M⟩;conv=>cbv
  intro af P;conv=>cbv
  have z:af=em u b:=by rw[P,show a6=B.length/2 by omega,M,W,List.take_length,hB,Bc h.red ha.mem hb.mem H]
  refine AB K (GL h.tail.red hb.mem z h1) ?_;conv=>cbv
  refine g2 rfl ?_;intro aX aw;conv=>cbv
  refine AG ?_;intro a8 ao;conv=>cbv
  intro ag Q;conv=>cbv
  intro aY ax;conv=>cbv
  refine AG ?_;intro aa aq;conv=>cbv
  intro ah S;conv=>cbv
  have d:ad=tw u:=by rw[N,List.drop_zero,show a7=T.length-1 by omega,hT,Ci]
  have D:ag=em u p:=by rw[Q,List.drop_zero,show a8=A.length/2 by omega,hA,Br h.red hp.mem hq.mem G]
  have F:ah=em u a:=by rw[S,List.drop_zero,show aa=B.length/2 by omega,hB,Br h.red ha.mem hb.mem H]
  obtain⟨m,f⟩:=xR (em u (p*a));obtain⟨az,g⟩:=xN m.length;refine AB K (ih d D F hp ha (by omega) f g) ?_;conv=>cbv
  refine g2 rfl ?_;obtain⟨aC,aD,aA,aB,o⟩:=BP (((0:Int):Rat));refine AB K (D1 (by omega) rfl o) ?_;conv=>cbv
  obtain⟨k,j⟩:=xR (em u (0));refine AB (r:= .one (.sl AA k)) K (E3 h.tail d o (by rw[show Re.ofRat ((0:Int):Rat)=0 from rfl];exact j)) ?_;try conv=>cbv
  have ar:m.length=2^u.length:=by rw[f,Aw (hp.mul h.tail ha).mem]
  have ay:=CT h.tail.ht;have au:k.length=2^u.length:=by rw[j,Aw (Bl u)]
  refine .inl ⟨k,fun _=>⟨rfl,g,rfl,by show (m.length+k.length)*64<=140737488355328;(try simp only[List.length_take,List.length_drop]);omega⟩,?_⟩;intro (I:LR) ai v;have U:I=(m:LR)++(k:LR):=v.1;have a1:ai=List.length (α:=(el AA)) I:=v.2;conv=>cbv
  have n:C=I:=by rw[hC,U,f,j];exact D6 h.red (hp.mul h.tail ha).mem (Bl u) (by rw[G,H,h0,h1];clear ih;grind)
  exact AD ⟨⟨rfl,.inr (.inl ⟨_,_,by decide,rfl,rfl,a1,rfl,CX (n) (by rw[ab,n])⟩),trivial⟩,trivial⟩
 have a5:=Ae J;exact absurd a5 (by omega)
theorem Xp (h:Aa R (r::u)) (ih:JG R u) (hT:T=tw (r::u)) (hA:A=em (r::u) x) (hB:B=em (r::u) y) (hx:El (r::u) s x) (hy:El (r::u) t y) (b4:s+t+EE (r::u).length R<=60000000000000) (m:x=p+q*rt u r) (k:El u s p) (hq:El u s q) (n:y=a+b*rt u r) (ha:El u t a) (hb:El u t b) (h0:q=0) (h1:b≠0) (hC:C=em (r::u) (x*y)) (aj:zn=C.length):CF 218 [.one (.sl (.sl AA) T),.one (.sl AA A),.one (.sl AA B)] (.one (.own AA C zn)):=by
 have aY:EE (r::u).length R=2*EE u.length R+R+2:=rfl;have b0:=El.CK h;have hR:=h.hR;have b3:=B4 h.red;have aZ:T.length=u.length+1:=by rw[hT,BN];rfl
 have aW:A.length=2^u.length+2^u.length:=by rw[hA,Aw hx.mem,BM]
 have aX:B.length=2^u.length+2^u.length:=by rw[hB,Aw hy.mem,BM]
 refine AJ Tryz.func218 fun E hE=>?_
 conv=>cbv
 rintro bc ⟨aP,f14⟩;conv=>cbv
 intro n15 L;conv=>cbv
 cases n15 <;> conv=>cbv
 ·have ab:=Ac L;rintro n25 ⟨aQ,f25⟩;conv=>cbv
  intro n26 aT;conv=>cbv
  refine g2 ⟨by omega,by omega,i64 (by omega)⟩ ?_;rintro n29 ⟨aR,f29⟩;conv=>cbv
  intro n30 aU;conv=>cbv
  refine AH ?_;intro b5 aG;conv=>cbv
  refine AG ?_;intro af aA;conv=>cbv
  intro ak P;conv=>cbv
  rintro n34 ⟨aS,f34⟩;conv=>cbv
  intro n35 aV;conv=>cbv
  refine AH ?_;obtain⟨aw,aa⟩:=AL (l:=T) (i:=(T.length-1)) (by omega);refine⟨aw,fun _=>⟨by omega,by rw[show (n35).toNat=(T.length-1) by omega];exact aa⟩,?_⟩;try conv=>cbv
  refine g2 rfl ?_;intro b6 a5;conv=>cbv
  refine AG ?_;rintro a40 aM ⟨ax,M⟩;conv=>cbv
  intro al Q;conv=>cbv
  have D:al=em u q:=by rw[Q,show a40=A.length/2 by omega,M,a5,List.take_length,hA,Bc h.red k.mem hq.mem m]
  refine AB hE (GL h.tail.red hq.mem D h0) ?_;conv=>cbv
  intro b7 a6;conv=>cbv
  refine AG ?_;rintro ad aN ⟨ay,N⟩;conv=>cbv
  intro an S;conv=>cbv
  have F:an=em u b:=by rw[S,show ad=B.length/2 by omega,N,a6,List.take_length,hB,Bc h.red ha.mem hb.mem n]
  refine AB hE (Gp h.tail.red hb.mem F h1) ?_;conv=>cbv
  refine g2 rfl ?_;intro b8 aH;conv=>cbv
  refine AG ?_;intro ag aB;conv=>cbv
  intro ao U;conv=>cbv
  intro b9 aI;conv=>cbv
  refine AG ?_;intro ah aC;conv=>cbv
  intro aq V;conv=>cbv
  have d:ak=tw u:=by rw[P,List.drop_zero,show af=T.length-1 by omega,hT,Ci]
  have G:ao=em u p:=by rw[U,List.drop_zero,show ag=A.length/2 by omega,hA,Br h.red k.mem hq.mem m]
  have H:aq=em u a:=by rw[V,List.drop_zero,show ah=B.length/2 by omega,hB,Br h.red ha.mem hb.mem n]
  obtain⟨o,f⟩:=xR (em u (p*a));obtain⟨aL,g⟩:=xN o.length;refine AB hE (ih d G H k ha (by omega) f g) ?_;conv=>cbv
  refine g2 rfl ?_;intro ba aJ;conv=>cbv
  refine AG ?_;intro ai aD;conv=>cbv
  intro ar W;conv=>cbv
  intro bb a7;conv=>cbv
  refine AG ?_;rintro ae aO ⟨az,O⟩;conv=>cbv
  intro au a1;conv=>cbv
  have I:ar=em u p:=by rw[W,List.drop_zero,show ai=A.length/2 by omega,hA,Br h.red k.mem hq.mem m]
  have J:au=em u b:=by rw[a1,show ae=B.length/2 by omega,O,a7,List.take_length,hB,Bc h.red ha.mem hb.mem n]
  obtain⟨v,j⟩:=xR (em u (p*b));refine AB hE (CP (ih d I J k hb (by omega) j rfl)) ?_;conv=>cbv
  have aE:o.length=2^u.length:=by rw[f,Aw (k.mul h.tail ha).mem]
  have aK:=CT h.tail.ht;have aF:v.length=2^u.length:=by rw[j,Aw (k.mul h.tail hb).mem]
  refine .inl ⟨v,fun _=>⟨rfl,g,rfl,by show (o.length+v.length)*64<=140737488355328;(try simp only[List.length_take,List.length_drop]);omega⟩,?_⟩;intro (K:LR) av z;have a2:K=(o:LR)++(v:LR):=z.1;have a8:av=List.length (α:=(el AA)) K:=z.2;conv=>cbv
  refine g2 rfl ?_;have w:C=K:=by rw[hC,a2,f,j];exact D6 h.red (k.mul h.tail ha).mem (k.mul h.tail hb).mem (by rw[m,n,h0];clear ih;grind)
  exact AD ⟨⟨rfl,.inr (.inl ⟨_,_,by decide,rfl,rfl,a8,rfl,CX (w) (by rw[aj,w])⟩),trivial⟩,trivial⟩
 have ab:=Ae L;exact absurd ab (by omega)
theorem Xo (h:Aa R (r::u)) (ih:JG R u) (hT:T=tw (r::u)) (hA:A=em (r::u) x) (hB:B=em (r::u) y) (hx:El (r::u) s x) (hy:El (r::u) t y) (b5:s+t+EE (r::u).length R<=60000000000000) (k:x=p+q*rt u r) (L:El u s p) (J:El u s q) (m:y=a+b*rt u r) (ha:El u t a) (hb:El u t b) (h0:q≠0) (h1:b=0) (hC:C=em (r::u) (x*y)) (ak:zn=C.length):CF 218 [.one (.sl (.sl AA) T),.one (.sl AA A),.one (.sl AA B)] (.one (.own AA C zn)):=by
 have aZ:EE (r::u).length R=2*EE u.length R+R+2:=rfl;have b3:=El.CK h;have hR:=h.hR;have b4:=B4 h.red;have b0:T.length=u.length+1:=by rw[hT,BN];rfl
 have aX:A.length=2^u.length+2^u.length:=by rw[hA,Aw hx.mem,BM]
 have aY:B.length=2^u.length+2^u.length:=by rw[hB,Aw hy.mem,BM]
 refine AJ Tryz.func218 fun E hE=>?_
 conv=>cbv
 rintro bd ⟨aQ,f14⟩;conv=>cbv
 intro n15 M;conv=>cbv
 cases n15 <;> conv=>cbv
 ·have ad:=Ac M;rintro n25 ⟨aR,f25⟩;conv=>cbv
  intro n26 aU;conv=>cbv
  refine g2 ⟨by omega,by omega,i64 (by omega)⟩ ?_;rintro n29 ⟨aS,f29⟩;conv=>cbv
  intro n30 aV;conv=>cbv
  refine AH ?_;intro b6 aH;conv=>cbv
  refine AG ?_;intro ag aB;conv=>cbv
  intro al Q;conv=>cbv
  rintro n34 ⟨aT,f34⟩;conv=>cbv
  intro n35 aW;conv=>cbv
  refine AH ?_;obtain⟨ax,ab⟩:=AL (l:=T) (i:=(T.length-1)) (by omega);refine⟨ax,fun _=>⟨by omega,by rw[show (n35).toNat=(T.length-1) by omega];exact ab⟩,?_⟩;try conv=>cbv
  refine g2 rfl ?_;intro b7 a6;conv=>cbv
  refine AG ?_;rintro a40 aN ⟨ay,N⟩;conv=>cbv
  intro an S;conv=>cbv
  have z:an=em u q:=by rw[S,show a40=A.length/2 by omega,N,a6,List.take_length,hA,Bc h.red L.mem J.mem k]
  refine AB hE (Gp h.tail.red J.mem z h0) ?_;conv=>cbv
  intro b8 a7;conv=>cbv
  refine AG ?_;rintro ae aO ⟨az,O⟩;conv=>cbv
  intro ao U;conv=>cbv
  have D:ao=em u b:=by rw[U,show ae=B.length/2 by omega,O,a7,List.take_length,hB,Bc h.red ha.mem hb.mem m]
  refine AB hE (GL h.tail.red hb.mem D h1) ?_;conv=>cbv
  refine g2 rfl ?_;intro b9 aI;conv=>cbv
  refine AG ?_;intro ah aC;conv=>cbv
  intro aq V;conv=>cbv
  intro ba aJ;conv=>cbv
  refine AG ?_;intro ai aD;conv=>cbv
  intro ar W;conv=>cbv
  have d:al=tw u:=by rw[Q,List.drop_zero,show ag=T.length-1 by omega,hT,Ci]
  have F:aq=em u p:=by rw[V,List.drop_zero,show ah=A.length/2 by omega,hA,Br h.red L.mem J.mem k]
  have G:ar=em u a:=by rw[W,List.drop_zero,show ai=B.length/2 by omega,hB,Br h.red ha.mem hb.mem m]
  obtain⟨n,f⟩:=xR (em u (p*a));obtain⟨aM,g⟩:=xN n.length;refine AB hE (ih d F G L ha (by omega) f g) ?_;conv=>cbv
  refine g2 rfl ?_;intro bb a8;conv=>cbv
  refine AG ?_;rintro af aP ⟨aA,P⟩;conv=>cbv
  intro au a1;conv=>cbv
  intro bc aK;conv=>cbv
  refine AG ?_;intro aj aE;conv=>cbv
  intro av a2;conv=>cbv
  have H:au=em u q:=by rw[a1,show af=A.length/2 by omega,P,a8,List.take_length,hA,Bc h.red L.mem J.mem k]
  have I:av=em u a:=by rw[a2,List.drop_zero,show aj=B.length/2 by omega,hB,Br h.red ha.mem hb.mem m]
  obtain⟨o,j⟩:=xR (em u (q*a));refine AB hE (CP (ih d H I J ha (by omega) j rfl)) ?_;conv=>cbv
  have aF:n.length=2^u.length:=by rw[f,Aw (L.mul h.tail ha).mem]
  have aL:=CT h.tail.ht;have aG:o.length=2^u.length:=by rw[j,Aw (J.mul h.tail ha).mem]
  refine .inl ⟨o,fun _=>⟨rfl,g,rfl,by show (n.length+o.length)*64<=140737488355328;(try simp only[List.length_take,List.length_drop]);omega⟩,?_⟩;intro (K:LR) aw w;have a5:K=(n:LR)++(o:LR):=w.1;have aa:aw=List.length (α:=(el AA)) K:=w.2;conv=>cbv
  refine g2 rfl ?_;have v:C=K:=by rw[hC,a5,f,j];exact D6 h.red (L.mul h.tail ha).mem (J.mul h.tail ha).mem (by rw[k,m,h1];clear ih;grind)
  exact AD ⟨⟨rfl,.inr (.inl ⟨_,_,by decide,rfl,rfl,aa,rfl,CX (v) (by rw[ak,v])⟩),trivial⟩,trivial⟩
 have ad:=Ae M;exact absurd ad (by omega)
theorem Xn (h:Aa R (r::u)) (ih:JG R u) (hT:T=tw (r::u)) (hA:A=em (r::u) x) (hB:B=em (r::u) y) (hx:El (r::u) s x) (hy:El (r::u) t y) (bQ:s+t+EE (r::u).length R<=60000000000000) (m:x=p+q*rt u r) (k:El u s p) (f:El u s q) (n:y=a+b*rt u r) (ha:El u t a) (hb:El u t b) (h0:q≠0) (h1:b≠0) (hC:C=em (r::u) (x*y)) (b3:zn=C.length):CF 218 [.one (.sl (.sl AA) T),.one (.sl AA A),.one (.sl AA B)] (.one (.own AA C zn)):=by
 have bN:EE (r::u).length R=2*EE u.length R+R+2:=rfl;have M:=El.CK h;have hR:=h.hR;have bP:=B4 h.red;have bO:T.length=u.length+1:=by rw[hT,BN];rfl
 have bL:A.length=2^u.length+2^u.length:=by rw[hA,Aw hx.mem,BM]
 have bM:B.length=2^u.length+2^u.length:=by rw[hB,Aw hy.mem,BM]
 refine AJ Tryz.func218 fun E H=>?_
 conv=>cbv
 rintro bY ⟨bE,f14⟩;conv=>cbv
 intro n15 ao;conv=>cbv
 cases n15 <;> conv=>cbv
 ·have aH:=Ac ao;rintro n25 ⟨bF,f25⟩;conv=>cbv
  intro n26 bI;conv=>cbv
  refine g2 ⟨by omega,by omega,i64 (by omega)⟩ ?_;rintro n29 ⟨bG,f29⟩;conv=>cbv
  intro n30 bJ;conv=>cbv
  refine AH ?_;intro bR bn;conv=>cbv
  refine AG ?_;intro aR bj;conv=>cbv
  intro b4 aw;conv=>cbv
  rintro n34 ⟨bH,f34⟩;conv=>cbv
  intro n35 bK;conv=>cbv
  refine AH ?_;obtain⟨aN,D⟩:=AL (l:=T) (i:=(T.length-1)) (by omega);refine⟨aN,fun _=>⟨by omega,by rw[show (n35).toNat=(T.length-1) by omega];exact D⟩,?_⟩;try conv=>cbv
  refine g2 rfl ?_;intro bS aD;conv=>cbv
  refine AG ?_;rintro a40 bA ⟨bd,aq⟩;conv=>cbv
  intro b5 ax;conv=>cbv
  have a7:b5=em u q:=by rw[ax,show a40=A.length/2 by omega,aq,aD,List.take_length,hA,Bc h.red k.mem f.mem m]
  refine AB H (Gp h.tail.red f.mem a7 h0) ?_;conv=>cbv
  intro bT aE;conv=>cbv
  refine AG ?_;rintro aO bB ⟨bf,ar⟩;conv=>cbv
  intro b6 ay;conv=>cbv
  have a8:b6=em u b:=by rw[ay,show aO=B.length/2 by omega,ar,aE,List.take_length,hB,Bc h.red ha.mem hb.mem n]
  refine AB H (Gp h.tail.red hb.mem a8 h1) ?_;conv=>cbv
  refine g2 rfl ?_;intro bU bo;conv=>cbv
  refine AG ?_;intro aS bk;conv=>cbv
  intro b7 az;conv=>cbv
  intro bV bp;conv=>cbv
  refine AG ?_;intro aT bl;conv=>cbv
  intro b8 aA;conv=>cbv
  have d:b4=tw u:=by rw[aw,List.drop_zero,show aR=T.length-1 by omega,hT,Ci]
  have aa:b7=em u p:=by rw[az,List.drop_zero,show aS=A.length/2 by omega,hA,Br h.red k.mem f.mem m]
  have ab:b8=em u a:=by rw[aA,List.drop_zero,show aT=B.length/2 by omega,hB,Br h.red ha.mem hb.mem n]
  obtain⟨bZ,P⟩:=xR (em u (p*a));refine AB H (CP (ih d aa ab k ha (by omega) P rfl)) ?_;conv=>cbv
  refine g2 rfl ?_;intro bW aF;conv=>cbv
  refine AG ?_;rintro aP bC ⟨bg,au⟩;conv=>cbv
  intro b9 aB;conv=>cbv
  intro bX aG;conv=>cbv
  refine AG ?_;rintro aQ bD ⟨bh,av⟩;conv=>cbv
  intro ba aC;conv=>cbv
  have ad:b9=em u q:=by rw[aB,show aP=A.length/2 by omega,au,aF,List.take_length,hA,Bc h.red k.mem f.mem m]
  have ae:ba=em u b:=by rw[aC,show aQ=B.length/2 by omega,av,aG,List.take_length,hB,Bc h.red ha.mem hb.mem n]
  obtain⟨c0,Q⟩:=xR (em u (q*b));refine AB H (CP (ih d ad ae f hb (by omega) Q rfl)) ?_;conv=>cbv
  have ai:aN=em u (AM u r):=by rw[hT,EL] at D;exact (Option.some.inj D).symm.trans (DR h.red)
  obtain⟨c1,S⟩:=xR (em u (q*b*AM u r));refine AB H (CP (ih d Q ai (f.mul h.tail hb) M (by omega) S rfl)) ?_;conv=>cbv
  obtain⟨N,w⟩:=xR (em u (p*a+q*b*AM u r));obtain⟨bz,z⟩:=xN N.length;refine AB H (QO h.tail P S (k.mul h.tail ha) ((f.mul h.tail hb).mul h.tail M) (by omega) (by omega) w z) ?_;conv=>cbv
  refine g2 rfl ?_;intro br aZ;conv=>cbv
  refine AG ?_;intro al aW;conv=>cbv
  intro aI W;conv=>cbv
  intro bs af;conv=>cbv
  refine AG ?_;rintro aj bb ⟨aU,U⟩;conv=>cbv
  intro aJ a1;conv=>cbv
  have I:aI=em u p:=by rw[W,List.drop_zero,show al=A.length/2 by omega,hA,Br h.red k.mem f.mem m]
  have J:aJ=em u b:=by rw[a1,show aj=B.length/2 by omega,U,af,List.take_length,hB,Bc h.red ha.mem hb.mem n]
  obtain⟨bw,o⟩:=xR (em u (p*b));refine AB H (CP (ih d I J k hb (by omega) o rfl)) ?_;conv=>cbv
  intro bt ag;conv=>cbv
  refine AG ?_;rintro ak bc ⟨aV,V⟩;conv=>cbv
  intro aK a2;conv=>cbv
  intro bu b0;conv=>cbv
  refine AG ?_;intro an aX;conv=>cbv
  intro aL a5;conv=>cbv
  have K:aK=em u q:=by rw[a2,show ak=A.length/2 by omega,V,ag,List.take_length,hA,Bc h.red k.mem f.mem m]
  have L:aL=em u a:=by rw[a5,List.drop_zero,show an=B.length/2 by omega,hB,Br h.red ha.mem hb.mem n]
  obtain⟨bx,v⟩:=xR (em u (q*a));refine AB H (CP (ih d K L f ha (by omega) v rfl)) ?_;conv=>cbv
  obtain⟨j,g⟩:=xR (em u (p*b+q*a));refine AB H (HR h.tail o v (k.mul h.tail hb) (f.mul h.tail ha) (by omega) (by omega) g) ?_;conv=>cbv
  have bm:N.length=2^u.length:=by rw[w,Aw (CQ (k.mul h.tail ha).mem ((f.mul h.tail hb).mul h.tail M).mem)]
  have aY:j.length=2^u.length:=by rw[g,Aw (CQ (k.mul h.tail hb).mem (f.mul h.tail ha).mem)]
  have bq:=CT h.tail.ht;refine .inl ⟨j,fun _=>⟨rfl,z,rfl,by show (N.length+j.length)*64<=140737488355328;(try simp only[List.length_take,List.length_drop]);omega⟩,?_⟩;intro (F:LR) aM G;have a6:F=(N:LR)++(j:LR):=G.1;have ah:aM=List.length (α:=(el AA)) F:=G.2;conv=>cbv
  refine g2 rfl ?_;have O:C=F:=by rw[hC,a6,w,g];exact D6 h.red (CQ (k.mul h.tail ha).mem ((f.mul h.tail hb).mul h.tail M).mem) (CQ (k.mul h.tail hb).mem (f.mul h.tail ha).mem) (by rw[m,n];clear ih;grind)
  exact AD ⟨⟨rfl,.inr (.inl ⟨_,_,by decide,rfl,rfl,ah,rfl,CX (O) (by rw[b3,O])⟩),trivial⟩,trivial⟩
 have aH:=Ae ao;exact absurd aH (by omega)
theorem WG (h:Aa R u):JG R u:=by
 induction u with
 | nil=>
  intro T A B C zn s t x y z m n k l f o d;obtain⟨p,rfl⟩:=Bv.1 k.mem;obtain⟨q,rfl⟩:=Bv.1 l.mem;rw[DD] at m n;rw[<-Re.ofRat_mul,DD] at o;have v:=k.BT (by omega);have w:=l.BT (by omega);rw[Cp] at v w;exact Xm z m n (v _ List.mem_cons_self) (w _ List.mem_cons_self) o d
 | cons r u G=>
  intro T A B C zn s t x y z m n k l f o d;obtain⟨p,q,g,v,w⟩:=El.parts h.red k;obtain⟨a,b,j,ha,hb⟩:=El.parts h.red l
  by_cases F:q=0
  ·by_cases D:b=0
   ·exact Xq h (G h.tail) z m n k l f g v w j ha hb F D o d
   exact Xp h (G h.tail) z m n k l f g v w j ha hb F D o d
  by_cases D:b=0
  ·exact Xo h (G h.tail) z m n k l f g v w j ha hb F D o d
  exact Xn h (G h.tail) z m n k l f g v w j ha hb F D o d
theorem C5 (h:Aa R u) (k:T=tw u) (f:A=em u x) (g:B=em u y) (l:El u s x) (m:El u t y) (d:s+t+EE u.length R<=60000000000000) (j:C=em u (x*y)):
 CF 218 [.one (.sl (.sl AA) T),.one (.sl AA A),.one (.sl AA B)] (.one (.sl AA C)):=CP (WG h k f g l m d j rfl)
end Go.Abs
namespace Go.Abs
open Go.RowKit Go.Shelf Go.Proofs
def LV:Ren:=⟨fun k=>if k=4 then 370 else 0,fun k=>if k=3 then 3 else if k=4 then 4 else if k=9 then 9 else if k=20 then 20 else if k=22 then 34 else if k=25 then 69 else 0,fun k=>k⟩
theorem Zs:Lays8.n4 Tryz.prog LV where
 mixed:=Hd
 f4:=⟨Tryz.f370.name,by kernel_rfl,by kernel_rfl⟩
 t0:=by kernel_rfl
 a0:=by intro w;kernel_rfl
 z0:=by intro w;kernel_rfl
 v0:=by intro w;kernel_rfl
 t3:=by kernel_rfl
 a3:=by intro w;kernel_rfl
 z3:=by intro w;kernel_rfl
 v3:=by intro w;kernel_rfl
 t4:=by kernel_rfl
 a4:=by intro w;kernel_rfl
 z4:=by intro w;kernel_rfl
 v4:=by intro w;kernel_rfl
 t9:=by kernel_rfl
 a9:=by intro w;kernel_rfl
 z9:=by intro w;kernel_rfl
 v9:=by intro w;kernel_rfl
 t20:=by kernel_rfl
 a20:=by intro w;kernel_rfl
 z20:=by intro w;kernel_rfl
 v20:=by intro w;kernel_rfl
 t22:=by kernel_rfl
 a22:=by intro w;kernel_rfl
 z22:=by intro w;kernel_rfl
 v22:=by intro w;kernel_rfl
theorem WU {n:Int} {k:Nat} (N:AQ n k) (M:0<k) (S:k<=1000000:=by omega):CF 370 [.one .nil,.one (.int .i64 n)] (.one (.own AA [] 0)):=by
 refine⟨⟨_,_,Tryz.func370,by kernel_rfl,rfl⟩,⟨rfl,rfl⟩,?_⟩;intro w I vs Q g
 match vs,g with
 | [v1,v2],⟨F,H,_⟩=>
  have v:v1= .slice none 0 0:=by rcases F with h | h;cases h;exact h
  have D:v2= .int .i64 k:=by rcases H with h | h;cases h;rw[<-N.eq];exact h
  subst v;subst D;obtain⟨_,i0,z,f,O,hb,_,j,m⟩:=(KN 34).sl rfl
  have l:z.cells.size=4:=by
   have:=(m (CR w I)).length;rw[E6] at this;have e:(TI 34).elem.size=4:=rfl;rw[e] at this;simpa using this.symm
  have d:i0.bytes=64:=hb;have P:i0.size=4:=O;have J:=Any8.slices_Grow_grow Zs i0 z f j (by omega) none 0 0 k [] w (by omega) (by omega) (by rw[d];omega) (by omega) (by simp) (fun _=>rfl) (fun a h=>by cases h);refine J.mono fun e w' ⟨he,hw⟩=>?_
  have K:=grownCap_ge w (0+k) 0 (LV.t 25);have hle:=grownCap_le_maxLen w (0+k) 0 (LV.t 25) (by unfold maxLen;omega)
  generalize grownCap w (0+k) 0 (LV.t 25)=G at*
  subst hw
  have L:∀o:Obj,(w.drew.alloc o).heap[w.heap.size]? =some o:=fun o=>by
   show (w.heap.push o)[w.heap.size]? =_
   rw[Array.getElem?_push,if_pos rfl]
  refine⟨_,some w.heap.size,he,((Below.refl _ _).drew).alloc (Nat.le_refl _) _,.inr ⟨rfl,_,_,rfl,Nat.zero_le _,hle,Nat.zero_le _,.inr ⟨_,_,_,rfl,Nat.le_refl _,rfl,L _,?_,fun i y h=>by simp at h⟩⟩⟩
  show G*4<=_
  simp[size_zeroCells,l];omega
end Go.Abs
namespace Go.Abs
open Go.RowKit
variable {Z x:LR} {zn:Nat}
theorem SL {X:List LR} {i:Nat} (h:X[i]? =some x):(X.take (i+1)).flatten=(X.take i).flatten++x:=by
 rw[CE h,List.flatten_append];simp
theorem SK {X:List LR} {i m:Nat} (h:X[i]? =some x) (hm:m=(X.take i).flatten.length):m+x.length=(X.take (i+1)).flatten.length:=by
 rw[SL h,List.length_append,hm]
theorem SJ (X:List LR) (i:Nat):(X.take i).flatten.length<=X.flatten.length:=by
 conv=>rhs;rw[<-List.take_append_drop i X,List.flatten_append,List.length_append]
 omega
theorem Pb {X:LR} (v:X.length<=1000000) (g:zn=X.length):CF 307 [.one (.sl AA X)] (.one (.own AA X zn)):=by
 refine AJ Tryz.func307 fun E o=>?_
 conv=>cbv
 intro n4 m;conv=>cbv
 refine⟨fun l=>?_,?_⟩
 ·conv=>cbv
  have d:X=[]:=by rw[m] at l;simpa using l
  exact AD ⟨⟨rfl,.inr (.inr ⟨_,CX (d) (by rw[g,d];rfl)⟩),trivial⟩,trivial⟩
 refine⟨[],fun _=>⟨rfl,by decide,rfl,trivial⟩,.inl ?_⟩;try conv=>cbv
 refine .inl ⟨X,fun _=>⟨rfl,by (first | rfl | omega),rfl,by show (0+X.length)*64<=140737488355328;(try simp only[List.length_take,List.length_drop]);omega⟩,?_⟩;intro (k:LR) n h;have f:k=([]:LR)++(X:LR):=h.1;have j:n=List.length (α:=(el AA)) k:=h.2;conv=>cbv
 exact AD ⟨⟨rfl,.inr (.inl ⟨_,_,by decide,rfl,rfl,by rw[j],rfl,CX (by rw[f];simp) (by rw[g,f];simp)⟩),trivial⟩,trivial⟩
theorem PZ {X:LR} (d:X.length<=1000000):CF 307 [.one (.sl AA X)] (.one (.sl AA X)):=CP (Pb d rfl)
theorem WO {X:List LR} (h0:0<X.flatten.length) (hX:X.flatten.length<=1000000) (hZ:Z=X.flatten) (a1:zn=Z.length):CF 329 [.one (.sl (.sl AA) X)] (.one (.own AA Z zn)):=by
 refine AJ Tryz.func329 fun E hE=>?_
 conv=>cbv
 intro a6 n;have a8:=n.eq;have f10:=n.le;conv=>cbv
 refine .inr ?_;obtain⟨J0,w⟩:=xJ fun vs S k=>∃(i' m':Nat) (m L i:Int),vs=[.one (.sl (.sl AA) X),.one (.int .i64 m),.one (.sl (.sl AA) X),.one (.int .i64 L),.one (.int .i64 i)]/\(CM L X.length/\AQ i i'/\i'<=X.length/\AQ m m')/\m'=(X.take i').flatten.length/\k=X.length-i'
 refine⟨[],[0,3,9,10,11],[],J0,⟨X.length-0,by rw[w];exact⟨0,0,0,a6,0,rfl,⟨n,An 0,by omega,An 0⟩,rfl,rfl⟩⟩,?_⟩;intro vs S aj K;rw[w] at K;obtain⟨i',m',m,L,i,rfl,⟨I,V,W,hm⟩,hinv,ah⟩:=K;conv=>cbv
 have eL:=I.eq;have ei:=V.eq;have em:=hm.eq;intro a7 F;conv=>cbv
 cases a7 <;> conv=>cbv
 ·have a2:=AW F;have ag:m'=X.flatten.length:=by rw[hinv,show i'=X.length by omega,List.take_length]
  refine AB hE (WU hm (by omega)) ?_;conv=>cbv
  intro n26 v;have ab:=v.eq;have f26:=v.le;conv=>cbv
  refine .inr ?_;obtain⟨J1,z⟩:=xJ fun vs S k=>∃(i' mm:Nat) (o:LR) (L i:Int),vs=[.one (.AN AA 24 0 0 mm),.one (.sl (.sl AA) X),.one (.int .i64 L),.one (.int .i64 i)]/\S=[.arr 0 AA o]/\(CM L X.length/\AQ i i'/\i'<=X.length/\mm=o.length)/\o=(X.take i').flatten/\k=X.length-i'
  refine⟨[],[6,25,26,27],[24],J1,⟨X.length-0,by rw[z];exact⟨0,0,[],n26,0,rfl,rfl,⟨v,An 0,by omega,rfl⟩,rfl,rfl⟩⟩,?_⟩;intro vs S ak K;rw[z] at K;obtain⟨i',mm,o,L,i,rfl,rfl,⟨I,V,W,N⟩,hinv,ai⟩:=K;conv=>cbv
  have eL:=I.eq;have ei:=V.eq;intro n28 H;conv=>cbv
  cases n28 <;> conv=>cbv
  ·have a5:=AW H;have g:Z=o:=by rw[hZ,hinv,show i'=X.length by omega,List.take_length]
   exact AD ⟨⟨rfl,.inr (.inl ⟨_,_,by decide,rfl,rfl,N,rfl,CX (g) (by rw[a1,g])⟩),trivial⟩,trivial⟩
  have a5:=AY H;refine .inr ?_;obtain⟨f,d⟩:=AL (l:=X) (i:=i') (by omega);refine⟨f,fun _=>⟨by omega,by rw[show (i).toNat=i' by omega];exact d⟩,?_⟩;try conv=>cbv
  have J:=SK d (congrArg _ hinv);have U:=SJ X (i'+1);refine .inl ⟨f,fun _=>⟨rfl,N,rfl,by show (o.length+f.length)*64<=140737488355328;(try simp only[List.length_take,List.length_drop]);omega⟩,?_⟩;intro (D:LR) n33 j;have M:D=(o:LR)++(f:LR):=j.1;have O:n33=List.length (α:=(el AA)) D:=j.2;conv=>cbv
  intro n34 af;conv=>cbv
  refine AH ?_;refine⟨X.length-(i'+1),?_,?_⟩
  ·omega
  rw[z];exact⟨i'+1,n33,D,L,n34,rfl,rfl,⟨I,⟨by omega⟩,by omega,by rw[O]⟩,by rw[M,hinv,SL d],rfl⟩
 have a2:=AY F;refine .inr ?_;obtain⟨Q,h⟩:=AL (l:=X) (i:=i') (by omega);refine⟨Q,fun _=>⟨by omega,by rw[show (i).toNat=i' by omega];exact h⟩,?_⟩;try conv=>cbv
 rintro n17 ⟨aa,f17⟩;conv=>cbv
 have J:=SK h hinv;have U:=SJ X (i'+1);intro n18 ad;conv=>cbv
 refine AH ?_;intro n20 G;conv=>cbv
 refine .inr ?_;cases n20 <;> conv=>cbv
 ·have P:=AW G;intro n22 ae;conv=>cbv
  refine AH ?_;refine⟨X.length-(i'+1),?_,?_⟩
  ·omega
  rw[w];exact⟨i'+1,m'+Q.length,n18,L,n22,rfl,⟨I,⟨by omega⟩,by omega,⟨by omega⟩⟩,J,rfl⟩
 have P:=AY G;exact absurd P (by omega)
theorem K7 {A B:LR} (f:0<A.length) (g:A.length+B.length<=1000000) (d:Z=A++B):CF 329 [.one (.sl (.sl AA) [A,B])] (.one (.sl AA Z)):=
 CP (WO (X:=[A,B]) (by simp;omega) (by simp;omega) (by simp[d]) rfl)
end Go.Abs
namespace Go.Abs
open Go.RowKit
def P6 (f:FuncId) (R:Nat) (u:List (List Rat)):Prop:=∀{T:List LR} {A:LR} {s:Nat} {x:Re} {c:Int},T=tw u->A=em u x->El u s x->VV u.length R s<=60000000000000->c=AZ x->
 CF f [.one (.sl (.sl AA) T),.one (.sl AA A)] (.one (.int .i64 c))
variable {A:LR} {R s:Nat} {T:List LR} {c:Int} {u:List (List Rat)} {x:Re}
theorem fH {p:Rat} (v:T=[]) (m:A=[rp p]) (w:c=Cw p):CF 286 [.one (.sl (.sl AA) T),.one (.sl AA A)] (.one (.int .i64 c)):=by
 refine AJ Tryz.func286 fun E o=>?_
 conv=>cbv
 rintro z ⟨j,f14⟩;conv=>cbv
 intro n15 g;conv=>cbv
 cases n15 <;> conv=>cbv
 ·have h:=Ac g;exact absurd (by rw[j,v];rfl) h
 have h:=Ae g;have n:A.length=1:=by rw[m];rfl
 obtain⟨k,f⟩:=AL (l:=A) (i:=0) (by omega);refine⟨k,fun _=>⟨by omega,f⟩,?_⟩;try conv=>cbv
 obtain⟨D,d⟩:=xI (Cw p);refine AB o (KX (Dw m f) d) ?_;conv=>cbv
 exact AD ⟨⟨rfl,congrArg _ (w.trans d.symm),trivial⟩,trivial⟩
theorem fI {r:List Rat} (h:Aa R (r::u)) (ih:P6 286 R u) (hT:T=tw (r::u)) (hA:A=em (r::u) x) (hx:El (r::u) s x) (hs:VV (r::u).length R s<=60000000000000) (hc:c=AZ x):CF 286 [.one (.sl (.sl AA) T),.one (.sl AA A)] (.one (.int .i64 c)):=by
 obtain⟨p,q,m,w,o⟩:=El.parts h.red hx;have aB:T.length=u.length+1:=by rw[hT,BN];rfl
 have aA:A.length=2^u.length+2^u.length:=by rw[hA,Aw hx.mem,BM]
 have aD:VV (r::u).length R s=VV u.length R (2*s+2*EE u.length R+R+1):=rfl;have aE:=Eb u.length R (2*s+2*EE u.length R+R+1);have aC:=GI u.length R (s:=s) (t:=2*s+2*EE u.length R+R+1) (by omega);have hN:=El.norm h w.mem o.mem (m ▸ hx);have a5:=El.CK h;have v:=Ur h.red;have ad:=B4 h.red;refine AJ Tryz.func286 fun E I=>?_
 conv=>cbv
 rintro aI ⟨av,f14⟩;conv=>cbv
 intro n15 N;conv=>cbv
 cases n15 <;> conv=>cbv
 ·have a6:=Ac N;rintro n21 ⟨aw,f21⟩;conv=>cbv
  intro n22 ay;conv=>cbv
  refine AH ?_;rintro n24 ⟨ax,f24⟩;conv=>cbv
  intro n25 az;conv=>cbv
  refine g2 ⟨by omega,by omega,i64 (by omega)⟩ ?_;intro aF aq;conv=>cbv
  refine AG ?_;intro aa an;conv=>cbv
  intro ae V;conv=>cbv
  intro aG ar;conv=>cbv
  refine AG ?_;intro ab ao;conv=>cbv
  intro af W;conv=>cbv
  intro aH a2;conv=>cbv
  refine AG ?_;rintro a8 au ⟨al,U⟩;conv=>cbv
  intro ag a1;conv=>cbv
  refine g2 rfl ?_;have d:ae=tw u:=by rw[V,List.drop_zero,show aa=T.length-1 by omega,hT,Ci]
  have j:af=em u p:=by rw[W,List.drop_zero,show ab=A.length/2 by omega,hA,Br h.red w.mem o.mem m]
  have k:ag=em u q:=by rw[a1,show a8=A.length/2 by omega,U,a2,List.take_length,hA,Bc h.red w.mem o.mem m]
  obtain⟨aK,f⟩:=xI (AZ p);refine AB I (ih d j w (by omega) f) ?_;conv=>cbv
  obtain⟨aL,g⟩:=xI (AZ q);refine AB I (ih d k o (by omega) g) ?_;conv=>cbv
  refine .inr ?_;intro ah O;conv=>cbv
  cases ah <;> conv=>cbv
  ·have K:=Ac O;intro ai P;conv=>cbv
   cases ai <;> conv=>cbv
   ·have L:=Ac P;intro aj Q;conv=>cbv
    cases aj <;> conv=>cbv
    ·have M:=Ac Q;obtain⟨aM,z⟩:=xR (em u (p*p));refine AB I (Fp h.tail d j j w w (by omega) z) ?_;conv=>cbv
     obtain⟨a7,H⟩:=AL (l:=T) (i:=(n22).toNat) (by omega);refine⟨a7,fun _=>⟨by omega,H⟩,?_⟩;try conv=>cbv
     have J:a7=Ad r:=by have:=EL r u;rw[<-hT,show T.length-1=n22.toNat by omega,H] at this;exact Option.some.inj this
     obtain⟨aN,D⟩:=xR (em u (q*q));refine AB I (Fp h.tail d k k o o (by omega) D) ?_;conv=>cbv
     obtain⟨aO,F⟩:=xR (em u (AM u r*(q*q)));refine AB I (Fp h.tail d (J.trans (DR h.red)) D a5 (o.mul h.tail o) (by omega) F) ?_;conv=>cbv
     obtain⟨aP,G⟩:=xR (em u (p*p-AM u r*(q*q)));refine AB I (Ka h.tail d z F (w.mul h.tail w) (a5.mul h.tail (o.mul h.tail o)) (by omega) (by omega) G) ?_;conv=>cbv
     refine g2 rfl ?_;obtain⟨ak,n⟩:=xI (AZ (p*p-q*q*AM u r));refine AB (r:= .one (.int .i64 ak)) I (ih d (G.trans (by congr 1;clear ih;grind)) hN (by omega) n) ?_;try conv=>cbv
     intro aJ S;conv=>cbv
     refine⟨fun _=>by rw[S,f,n];exact U7 _ _,?_⟩;exact AD ⟨⟨rfl,congrArg _ (by rw[hc,S,f,n,m];exact VA v ad (fun e=>M (by rw[f,e];exact E0)) (fun e=>K (by rw[g,e];exact E0)) (by rw[<-f,<-g];exact L)),trivial⟩,trivial⟩
    have M:=Ae Q;exact AD ⟨⟨rfl,congrArg _ (by rw[hc,g,m];exact VB v (Dx.1 (f ▸ M))),trivial⟩,trivial⟩
   have L:=Ae P;exact AD ⟨⟨rfl,congrArg _ (by rw[hc,f,m];exact MH v (.inr (by rw[<-f,<-g];exact L))),trivial⟩,trivial⟩
  have K:=Ae O;exact AD ⟨⟨rfl,congrArg _ (by rw[hc,f,m];exact MH v (.inl (Dx.1 (g ▸ K)))),trivial⟩,trivial⟩
 have a6:=Ae N;exact absurd a6 (by omega)
theorem V3 (h:Aa R u):P6 286 R u:=by
 induction u with
 | nil=>
  intro T A s x c f d j k g;obtain⟨p,rfl⟩:=Bv.1 j.mem;rw[DD] at d;exact fH f d (g.trans (Fg p))
 | cons r u l=>
  intro T A s x c f d j k g;exact fI h (l h.tail) f d j k g
theorem Wp (h:Aa R u) (v:T=tw u) (hs:VV u.length R R<=60000000000000):CF 340 [.one (.sl (.sl AA) T)] (.one (.bool true)):=by
 have a7:T.length=u.length:=by rw[v,BN]
 have H:El u 0 0:=El.rat h.red GP;refine AJ Tryz.func340 fun E M=>?_
 conv=>cbv
 obtain⟨ag,ah,ae,af,I⟩:=BP (((0:Int):Rat));refine AB M (Fq (by omega) rfl I) ?_;conv=>cbv
 obtain⟨w8,G⟩:=xR (em u (0));refine AB M (HM h v I ⟨by decide +kernel,by decide +kernel⟩ G) ?_;conv=>cbv
 refine AB (r:= .one (.bool true)) M (GC v h.E1 G (H.BT (by omega)) (by rw[H.len,List.length_reverse];exact (decide_eq_true rfl).symm)) ?_;try conv=>cbv
 refine Ai ?_;conv=>cbv
 intro S g;have a5:=g.eq;have f12:=g.le;conv=>cbv
 refine .inr ?_;obtain⟨J0,j⟩:=xJ fun vs bl k=>∃(i':Nat) (L i:Int),vs=[.one (.sl (.sl AA) T),.one (.sl (.sl AA) T),.one (.int .i64 L),.one (.int .i64 i)]/\(CM L T.length/\AQ i i'/\i'<=T.length)/\k=T.length-i'
 refine⟨[],[0,11,12,13],[],J0,⟨T.length-0,by rw[j];exact⟨0,S,0,rfl,⟨g,An 0,by omega⟩,rfl⟩⟩,?_⟩;intro vs bl ab hj;rw[j] at hj;obtain⟨i',L,i,rfl,⟨W,hi,a8⟩,aa⟩:=hj;conv=>cbv
 have eL:=W.eq;have ei:=hi.eq;intro U n;conv=>cbv
 cases U <;> conv=>cbv
 ·have P:=AW n;exact AD ⟨t2,trivial⟩
 have P:=AY n;refine .inr ?_;obtain⟨K,f⟩:=AL (l:=T) (i:=i') (by omega);refine⟨K,fun _=>⟨by omega,by rw[show (i).toNat=i' by omega];exact f⟩,?_⟩;try conv=>cbv
 obtain⟨r,F,D⟩:=Hk (u:=u) (i:=i') (by omega);have z:AS (r::pre u i'):=F ▸ (h.pre (i'+1)).red;have O:K=Ad r:=by rw[<-v,f] at D;exact Option.some.inj D
 intro ad a2;conv=>cbv
 refine AG ?_;intro N a1;conv=>cbv
 intro Q w;conv=>cbv
 have m:Q=tw (pre u i'):=by rw[w,List.drop_zero,show N=i' by omega,v,Gd]
 obtain⟨V,d⟩:=xI (AZ (AM (pre u i') r));refine AB (r:= .one (.int .i64 V)) M (V3 (h.pre i') m (O.trans (DR z)) (El.CK (F ▸ h.pre (i'+1))) (by rw[HA (by omega)];exact Nat.le_trans (JF (by omega) R R) hs) d) ?_;try conv=>cbv
 intro n23 o;conv=>cbv
 cases n23 <;> conv=>cbv
 ·have J:=IV o;intro n24 a6;conv=>cbv
  refine AH ?_;refine⟨T.length-(i'+1),?_,?_⟩
  ·omega
  rw[j];exact⟨i'+1,L,n24,rfl,⟨W,⟨by omega⟩,by omega⟩,rfl⟩
 have J:=IW o;exact absurd J (by rw[d,FE z.2.2.1];omega)
theorem Zq {L:List LR} (h:Aa R u) (F:T=tw u) (Q:VV u.length R R<=60000000000000) (M:∀l∈L,∃x,l=em u x/\El u s x) (o:s<=60000000000000:=by omega):CF 285 [.one (.sl (.sl AA) T),.one (.sl (.sl AA) L)] (.one (.bool true)):=by
 refine AJ Tryz.func285 fun E D=>?_
 conv=>cbv
 intro U n;have V:=n.eq;have f8:=n.le;conv=>cbv
 refine .inr ?_;obtain⟨I,f⟩:=xJ fun vs J k=>∃(i':Nat) (m i:Int),vs=[.one (.sl (.sl AA) T),.one (.sl (.sl AA) L),.one (.int .i64 m),.one (.int .i64 i)]/\(CM m L.length/\AQ i i'/\i'<=L.length)/\k=L.length-i'
 refine⟨[],[0,7,8,9],[],I,⟨L.length-0,by rw[f];exact⟨0,U,0,rfl,⟨n,An 0,by omega⟩,rfl⟩⟩,?_⟩;intro vs J S G;rw[f] at G;obtain⟨i',m,i,rfl,⟨hm,N,O⟩,P⟩:=G;conv=>cbv
 have em:=hm.eq;have W:=N.eq;intro z g;conv=>cbv
 cases z <;> conv=>cbv
 ·have w:=AW g;refine AB D (Wp h F Q) ?_;conv=>cbv
  exact AD ⟨t2,trivial⟩
 have w:=AY g;refine .inr ?_;obtain⟨j,d⟩:=AL (l:=L) (i:=i') (by omega);refine⟨j,fun _=>⟨by omega,by rw[show (i).toNat=i' by omega];exact d⟩,?_⟩;try conv=>cbv
 obtain⟨x,v,H⟩:=M j (List.mem_of_getElem? d);refine AB (r:= .one (.bool true)) D (GC F h.E1 v (H.BT o) (by rw[H.len,List.length_reverse];exact (decide_eq_true rfl).symm)) ?_;try conv=>cbv
 refine Ai ?_;conv=>cbv
 intro n17 K;conv=>cbv
 refine AH ?_;refine⟨L.length-(i'+1),?_,?_⟩
 ·omega
 rw[f];exact⟨i'+1,m,n17,rfl,⟨hm,⟨by omega⟩,by omega⟩,rfl⟩
theorem JD (h:Aa R u) (g:T=tw u) (d:A=em u x) (j:El u s x) (o:VV u.length R s<=60000000000000) (hR:VV u.length R R<=60000000000000) (k:c=AZ x):CF 203 [.one (.sl (.sl AA) T),.one (.sl AA A)] (.one (.int .i64 c)):=by
 have m:=Eb u.length R s;refine AJ Tryz.func203 fun E f=>?_
 conv=>cbv
 refine⟨[A],fun _=>⟨rfl,by decide,rfl,⟨rfl,by first | exact t1 | exact t2 | exact t4 | simp[Aj,Ar,cells],trivial⟩⟩,.inr ?_⟩;try conv=>cbv
 refine AB f (Zq h g hR (fun l n=>⟨x,(List.mem_singleton.1 n).trans d,j⟩)) ?_;conv=>cbv
 refine Ai ?_;conv=>cbv
 refine AB f (V3 h g d j o k) ?_;conv=>cbv
 exact AD ⟨t2,trivial⟩
end Go.Abs
