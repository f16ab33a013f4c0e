/- Part 19 of a proof. Conditions: each theorem's own. -/
import Derived.Shelf.Spec.SlicesGrow
import Derived.Test.YtmhbikooakmagaaGreatRk17
set_option linter.all false
set_option maxHeartbeats 8000000
set_option maxRecDepth 20000
open Go.Proofs
namespace Go.Abs
open Go.RowKit
variable {C X Z:LR} {R i zn:Nat} {T:List LR} {b1 b2:Bool} {l1 l2:List UInt32} {q:Rat} {u:List (List Rat)} {xs:List Rat}
theorem IK {x:el AA} (f:X=Aa xs) (d:X[i]? =some x):∃q,BH q x.1.1 x.1.2 x.2.1 x.2.2/\xs[i]? =some q/\x=rp q:=by
 rw[f,Aa,List.getElem?_map] at d;cases h:xs[i]? with
 | none=>rw[h] at d;simp at d
 | some q=>
  rw[h] at d;have e:x=rp q:=(Option.some.inj d).symm;exact⟨q,by rw[e];exact Ft q,rfl,e⟩
theorem ZI (h:xs[i]? =some q):Aa (xs.take (i+1))=Aa (xs.take i)++[rp q]:=by
 rw[Cg h,Aa,Aa,List.map_append];rfl
theorem NF {c:Bool} (G:X=Aa xs) (H:c=decide (∀q∈xs,q=0)):CF 255 [.one (.sl AA X)] (.one (.bool c)):=by
 have M:X.length=xs.length:=by rw[G,List.length_map]
 refine AJ Tryz.func255 fun E hE=>?_
 conv=>cbv
 refine .inr ?_;obtain⟨K,g⟩:=xJ fun vs L k=>∃(i':Nat) (i:Int),vs=[.one (.sl AA X),.one (.int .i64 i)]/\(AO i i'/\i'<=X.length)/\(∀q∈xs.take i',q=0)/\k=X.length-i'
 refine⟨[],[0,3],[],K,⟨X.length-0,by rw[g];exact⟨0,0,rfl,⟨Al 0,by omega⟩,by simp,rfl⟩⟩,?_⟩;intro vs L S I;rw[g] at I;obtain⟨i',i,rfl,⟨hi,N⟩,hinv,O⟩:=I;conv=>cbv
 have ei:=hi.eq;rintro n6 ⟨W,f6⟩;conv=>cbv
 intro U F;conv=>cbv
 cases U <;> conv=>cbv
 ·have Q:=AW F;exact AD ⟨⟨rfl,congrArg _ (by rw[H,decide_eq_true];intro z d;rw[<-List.take_of_length_le (show xs.length<=i' by omega)] at d;exact hinv z d),trivial⟩,trivial⟩
 have Q:=AY F;refine .inr ?_;obtain⟨n,f⟩:=AK (l:=X) (i:=i') (by omega);refine⟨n,fun _=>⟨by omega,by rw[show (i).toNat=i' by omega];exact f⟩,?_⟩;try conv=>cbv
 obtain⟨q,J,m,P⟩:=IK G f;rintro n16 ⟨o,f16⟩;conv=>cbv
 have D:n16=((List.length (α:=UInt32) n.1.2:Nat):Int):=o;intro n17 j;conv=>cbv
 cases n17 <;> conv=>cbv
 ·have w:=Bq j;intro V h9;conv=>cbv
  refine AI ?_;refine⟨X.length-(i'+1),?_,?_⟩
  ·omega
  rw[g];refine⟨i'+1,V,rfl,⟨⟨by omega⟩,by omega⟩,?_,rfl⟩;intro z d;rw[Cg m] at d;rcases List.mem_append.1 d with d | d
  ·exact hinv z d
  rw[List.mem_singleton.1 d];exact Rat.num_eq_zero.1 (J.num.FF.1 (by omega))
 have w:=Br j;have v:q≠0:=fun e=>by have:=J.num.FF.2 (Rat.num_eq_zero.2 e);omega
 exact AD ⟨⟨rfl,congrArg _ (by rw[H,decide_eq_false];exact fun h=>v (h q (List.mem_of_getElem? m))),trivial⟩,trivial⟩
theorem UD {n:Int} (v:X=Aa xs) (hs:Dn xs) (U:n=(xs.length:Int)):CF 245 [.one (.sl AA X),.one (.int .i64 n)] (.one (.bool true)):=by
 have I:X.length=xs.length:=by rw[v,List.length_map]
 refine AJ Tryz.func245 fun E H=>?_
 conv=>cbv
 refine .inr ?_;obtain⟨z,f⟩:=xJ fun vs D k=>∃(i':Nat) (i:Int),vs=[.one (.sl AA X),.one (.int .i64 n),.one (.int .i64 i)]/\(AO i i'/\i'<=X.length)/\k=X.length-i'
 refine⟨[],[0,1,5],[],z,⟨X.length-0,by rw[f];exact⟨0,0,rfl,⟨Al 0,by omega⟩,rfl⟩⟩,?_⟩;intro vs D O w;rw[f] at w;obtain⟨i',i,rfl,⟨hi,J⟩,K⟩:=w;conv=>cbv
 have S:=hi.eq;rintro V ⟨Q,f8⟩;conv=>cbv
 intro P o;conv=>cbv
 cases P <;> conv=>cbv
 ·have N:=AW o;rintro n19 ⟨F,f19⟩;conv=>cbv
  intro n21 g;conv=>cbv
  exact AD ⟨⟨rfl,congrArg _ (by rw[g];simp;omega),trivial⟩,trivial⟩
 have N:=AY o;refine .inr ?_;obtain⟨m,d⟩:=AK (l:=X) (i:=i') (by omega);refine⟨m,fun _=>⟨by omega,by rw[show (i).toNat=i' by omega];exact d⟩,?_⟩;try conv=>cbv
 obtain⟨q,L,M,h⟩:=Gc v hs d;refine AB H (cl L h) ?_;conv=>cbv
 refine AU ?_;conv=>cbv
 intro j G;conv=>cbv
 refine AI ?_;refine⟨X.length-(i'+1),?_,?_⟩
 ·omega
 rw[f];exact⟨i'+1,j,rfl,⟨⟨by omega⟩,by omega⟩,rfl⟩
theorem Tt (h:Ae R u) (z:T=tw u):CF 244 [.one (.sl (.sl AA) T)] (.one (.bool true)):=by
 have I:T.length=u.length:=by rw[z,Bb]
 have J:=h.ht;refine AJ Tryz.func244 fun E H=>?_
 conv=>cbv
 refine .inr ?_;obtain⟨F,f⟩:=xJ fun vs G k=>∃(i':Nat) (i:Int),vs=[.one (.sl (.sl AA) T),.one (.int .i64 i)]/\(AO i i'/\i'<=T.length)/\k=T.length-i'
 refine⟨[],[0,3],[],F,⟨T.length-0,by rw[f];exact⟨0,0,rfl,⟨Al 0,by omega⟩,rfl⟩⟩,?_⟩;intro vs G N D;rw[f] at D;obtain⟨i',i,rfl,⟨hi,K⟩,L⟩:=D;conv=>cbv
 have S:=hi.eq;rintro V ⟨Q,f6⟩;conv=>cbv
 intro O w;conv=>cbv
 cases O <;> conv=>cbv
 ·have M:=AW w;exact AD ⟨t2,trivial⟩
 have M:=AY w;refine .inr ?_;obtain⟨v,d⟩:=AK (l:=T) (i:=i') (by omega);refine⟨v,fun _=>⟨by omega,by rw[show (i).toNat=i' by omega];exact d⟩,?_⟩;try conv=>cbv
 obtain⟨y,n,j⟩:=Hk z d;have o:=Ik h.red _ y j;intro n15 m;conv=>cbv
 refine AH ?_;have g:=(Dt (k:=i') m (by omega)).eq;refine AB (r:= .one (.bool true)) H (UD n ((h.tb y (List.mem_reverse.1 (List.mem_of_getElem? j))).Bh h.hR) (by rw[o];exact g)) ?_;try conv=>cbv
 refine AU ?_;conv=>cbv
 refine g2 rfl ?_;intro P U;conv=>cbv
 refine AI ?_;refine⟨T.length-(i'+1),?_,?_⟩
 ·omega
 rw[f];exact⟨i'+1,P,rfl,⟨⟨by omega⟩,by omega⟩,rfl⟩
theorem Jn {A:LR} {s:Nat} {x:Re} (h:Ae R u) (m:T=tw u) (o:A=em u x) (n:El u s x) (hs:s<=60000000000000:=by omega):CF 130 [.one (.sl (.sl AA) T),.one (.sl AA A)] (.one (.bool true)):=by
 have j:T.length=u.length:=by rw[m,Bb]
 have v:=h.ht;refine AJ Tryz.func130 fun E l=>?_
 conv=>cbv
 refine AB l (Tt h m) ?_;conv=>cbv
 rintro w ⟨f,f10⟩;conv=>cbv
 intro z g;conv=>cbv
 refine AH ?_;have d:=(Dt (k:=u.length) g (f.trans (congrArg _ j))).eq;refine AB (r:= .one (.bool true)) l (UD o (n.Bh hs) (by rw[n.len];exact d)) ?_;try conv=>cbv
 exact AD ⟨t2,trivial⟩
theorem Th (h:Ae R u) (hT:T=tw u) (hq:BH q b1 l1 b2 l2) (hC:C=em u (Re.ofRat q)) (M:zn=C.length):CF 239 [.one (.sl (.sl AA) T),.agg (BS b1 l1 b2 l2)] (.one (.own AA C zn)):=by
 have K:T.length=u.length:=by rw[hT,Bb]
 have a1:=h.ht;have U:=DD h.ht;have a7:=De u.length;refine AJ Tryz.func239 fun E hE=>?_
 conv=>cbv
 refine⟨[((b1,l1),(b2,l2))],fun _=>⟨rfl,by decide,rfl,⟨rfl,by first | exact t1 | exact t2 | exact t4 | simp[Ao,BA,cells],trivial⟩⟩,.inl ?_⟩;try conv=>cbv
 refine .inr ?_;obtain⟨V,D⟩:=xJ fun vs P k=>∃(o:LR) (mm j:Nat),vs=[.one (.sl (.sl AA) T),.one (.AN AA 7 0 0 mm)]/\P=[.arr 0 AA o]/\(mm=o.length/\o.length=j+1/\o.length<=2^u.length)/\o=rp q::List.replicate j (rp 0)/\k=2^u.length-o.length
 refine⟨[],[0,5],[7],V,⟨2^u.length-[rp q].length,by rw[D];exact⟨[rp q],1,0,rfl,by rw[hq.rp];rfl,⟨rfl,rfl,by show 1<=_;omega⟩,rfl,rfl⟩⟩,?_⟩;intro vs P a8 Q;rw[D] at Q;obtain⟨o,mm,j,rfl,rfl,⟨G,a5,a6⟩,hinv,a2⟩:=Q;conv=>cbv
 intro n9 W;have e9:=W.eq;conv=>cbv
 rintro aa ⟨I,f11⟩;conv=>cbv
 intro ab J;conv=>cbv
 refine AH ?_;have S:=(Dt (k:=u.length) J (I.trans (congrArg _ K))).eq;intro O F;conv=>cbv
 cases O <;> conv=>cbv
 ·have N:=AW F;have n:C=o:=by rw[hC,em,Hh q h.red,hinv,show j=2^u.length-1 by omega,Aa,List.map_cons,List.map_replicate]
  exact AD ⟨⟨rfl,.inr (.inl ⟨_,_,by decide,rfl,rfl,G,rfl,C5 (n) (by rw[M,n])⟩),trivial⟩,trivial⟩
 have N:=AY F;refine .inr ?_;obtain⟨l,m,f,g,w⟩:=Be (((0:Int):Rat));refine AB hE (Ej (by omega) rfl w) ?_;conv=>cbv
 refine⟨[((l,m),(f,g))],fun _=>⟨rfl,by decide,rfl,⟨rfl,by first | exact t1 | exact t2 | exact t4 | simp[Ao,BA,cells],trivial⟩⟩,.inr ?_⟩;try conv=>cbv
 refine .inl ⟨[((l,m),(f,g))],fun _=>⟨rfl,G,rfl,by show (o.length+1)*64<=140737488355328;(try simp only[List.length_take,List.length_drop]);omega⟩,?_⟩;intro (d:LR) n17 z;have v:d=(o:LR)++([((l,m),(f,g))]:LR):=z.1;have H:n17=List.length (α:=(el AA)) d:=z.2;conv=>cbv
 have L:d.length=o.length+1:=by rw[v];simp
 refine⟨2^u.length-d.length,?_,?_⟩
 ·omega
 rw[D];exact⟨d,n17,j+1,rfl,rfl,⟨H,by omega,by omega⟩,by rw[v,hinv,List.replicate_succ',List.cons_append,<-w.rp];rfl,rfl⟩
theorem F4 (h:Ae R u) (f:T=tw u) (g:BH q b1 l1 b2 l2) (d:C=em u (Re.ofRat q)):CF 239 [.one (.sl (.sl AA) T),.agg (BS b1 l1 b2 l2)] (.one (.sl AA C)):=C8 (Th h f g d rfl)
theorem cV (O:X=Aa xs) (hl:xs.length<=1000000) (W:Z=Aa (xs.map (- ·))):CF 221 [.one (.sl (.sl AA) T),.one (.sl AA X)] (.one (.sl AA Z)):=by
 have V:X.length=xs.length:=by rw[O,List.length_map]
 refine AJ Tryz.func221 fun E U=>?_
 conv=>cbv
 refine .inr ?_;obtain⟨Q,v⟩:=xJ fun vs N k=>∃(o:LR) (mm i':Nat) (i:Int),vs=[.one (.sl AA X),.one (.AN AA 5 0 0 mm),.one (.int .i64 i)]/\N=[.arr 0 AA o]/\(AO i i'/\i'<=X.length/\mm=o.length)/\o=Aa ((xs.map (- ·)).take i')/\k=X.length-i'
 refine⟨[(5,AA,true)],[1,5,6],[5],Q,⟨X.length,by rw[v];exact⟨[],0,0,0,rfl,rfl,⟨Al 0,Nat.zero_le _,rfl⟩,rfl,rfl⟩⟩,?_⟩;intro vs N a7 P;rw[v] at P;obtain⟨o,mm,i',i,rfl,rfl,⟨hi,a1,F⟩,hinv,a2⟩:=P;conv=>cbv
 have ei:=hi.eq;have a5:o.length<=X.length:=by rw[hinv,Aa,List.length_map,List.length_take,List.length_map];omega
 rintro n9 ⟨e9,f9⟩;conv=>cbv
 intro K z;conv=>cbv
 cases K <;> conv=>cbv
 ·have J:=AW z;exact AD ⟨⟨rfl,.inl ⟨_,rfl,by omega,congrArg _ (by rw[W,F,hinv,List.drop_zero,List.take_length,List.take_of_length_le (by rw[List.length_map];omega)])⟩,trivial⟩,trivial⟩
 have J:=AY z;refine .inr ?_;obtain⟨M,j⟩:=AK (l:=X) (i:=i') (by omega);refine⟨M,fun _=>⟨by omega,by rw[show (i).toNat=i' by omega];exact j⟩,?_⟩;try conv=>cbv
 obtain⟨q,hq,H,a6⟩:=IK O j;have I:(xs.map (- ·))[i']? =some (-q):=by rw[List.getElem?_map,H];rfl
 obtain⟨g,h,d,f,m⟩:=Be (-q);refine AB U (cg hq rfl m) ?_;conv=>cbv
 refine⟨[((g,h),(d,f))],fun _=>⟨rfl,by decide,rfl,⟨rfl,by first | exact t1 | exact t2 | exact t4 | simp[Ao,BA,cells],trivial⟩⟩,.inr ?_⟩;try conv=>cbv
 refine .inl ⟨[((g,h),(d,f))],fun _=>⟨rfl,F,rfl,by show (o.length+1)*64<=140737488355328;(try simp only[List.length_take,List.length_drop]);omega⟩,?_⟩;intro (w:LR) n20 n;have D:w=(o:LR)++([((g,h),(d,f))]:LR):=n.1;have G:n20=List.length (α:=(el AA)) w:=n.2;conv=>cbv
 intro L S;conv=>cbv
 refine AI ?_;refine⟨X.length-(i'+1),?_,?_⟩
 ·omega
 rw[v];exact⟨w,n20,i'+1,L,rfl,rfl,⟨⟨by omega⟩,by omega,G⟩,by rw[D,hinv,ZI I,<-m.rp],rfl⟩
theorem cF {Y:LR} {ys:List Rat} (hX:X=Aa xs) (hY:Y=Aa ys) (hs:Dn xs) (ht:Dn ys) (ab:ys.length=xs.length) (hl:xs.length<=1000000) (hZ:Z=Aa (List.zipWith (· + ·) xs ys)) (O:zn=Z.length):CF 217 [.one (.sl (.sl AA) T),.one (.sl AA X),.one (.sl AA Y)] (.one (.own AA Z zn)):=by
 have a5:X.length=xs.length:=by rw[hX,List.length_map]
 have a6:Y.length=ys.length:=by rw[hY,List.length_map]
 refine AJ Tryz.func217 fun E hE=>?_
 conv=>cbv
 refine .inr ?_;obtain⟨J0,z⟩:=xJ fun vs W k=>∃(o:LR) (mm i':Nat) (i:Int),vs=[.one (.sl AA X),.one (.sl AA Y),.one (.AN AA 7 0 0 mm),.one (.int .i64 i)]/\W=[.arr 0 AA o]/\(AO i i'/\i'<=X.length/\mm=o.length)/\o=Aa ((List.zipWith (· + ·) xs ys).take i')/\k=X.length-i'
 refine⟨[(7,AA,true)],[1,2,7,8],[7],J0,⟨X.length,by rw[z];exact⟨[],0,0,0,rfl,rfl,⟨Al 0,Nat.zero_le _,rfl⟩,rfl,rfl⟩⟩,?_⟩;intro vs W ad hj;rw[z] at hj;obtain⟨o,mm,i',i,rfl,rfl,⟨hi,a7,H⟩,hinv,a8⟩:=hj;conv=>cbv
 have ei:=hi.eq;have aa:o.length<=X.length:=by rw[hinv,Aa,List.length_map,List.length_take,List.length_zipWith];omega
 rintro ae ⟨a1,f11⟩;conv=>cbv
 intro Q F;conv=>cbv
 cases Q <;> conv=>cbv
 ·have P:=AW F;have j:Z=o:=by rw[hZ,hinv,List.take_of_length_le (by rw[List.length_zipWith];omega)]
  exact AD ⟨⟨rfl,.inr (.inl ⟨_,_,by decide,rfl,rfl,H,rfl,C5 (j) (by rw[O,j])⟩),trivial⟩,trivial⟩
 have P:=AY F;refine .inr ?_;obtain⟨U,m⟩:=AK (l:=X) (i:=i') (by omega);refine⟨U,fun _=>⟨by omega,by rw[show (i).toNat=i' by omega];exact m⟩,?_⟩;try conv=>cbv
 obtain⟨V,n⟩:=AK (l:=Y) (i:=i') (by omega);refine⟨V,fun _=>⟨by omega,by rw[show (i).toNat=i' by omega];exact n⟩,?_⟩;try conv=>cbv
 obtain⟨p,hp,J,M⟩:=Gc hX hs m;obtain⟨q,hq,K,N⟩:=Gc hY ht n;have L:(List.zipWith (· + ·) xs ys)[i']? =some (p+q):=by rw[List.getElem?_zipWith,J,K]
 obtain⟨g,h,d,f,v⟩:=Be (p+q);refine AB hE (cX hp hq M N rfl v) ?_;conv=>cbv
 refine⟨[((g,h),(d,f))],fun _=>⟨rfl,by decide,rfl,⟨rfl,by first | exact t1 | exact t2 | exact t4 | simp[Ao,BA,cells],trivial⟩⟩,.inr ?_⟩;try conv=>cbv
 refine .inl ⟨[((g,h),(d,f))],fun _=>⟨rfl,H,rfl,by show (o.length+1)*64<=140737488355328;(try simp only[List.length_take,List.length_drop]);omega⟩,?_⟩;intro (D:LR) n26 w;have G:D=(o:LR)++([((g,h),(d,f))]:LR):=w.1;have I:n26=List.length (α:=(el AA)) D:=w.2;conv=>cbv
 refine g2 rfl ?_;intro S a2;conv=>cbv
 refine AI ?_;refine⟨X.length-(i'+1),?_,?_⟩
 ·omega
 rw[z];exact⟨D,n26,i'+1,S,rfl,rfl,⟨⟨by omega⟩,by omega,I⟩,by rw[G,hinv,ZI L,<-v.rp],rfl⟩
end Go.Abs
namespace Go.Abs
open Go.RowKit
variable {A B C X Y Z:LR} {R s t zn:Nat} {T:List LR} {a b p q x y:Re} {r:List Rat} {u:List (List Rat)}
theorem Hc (h:AT u) (g:In u x) (f:X=em u x) (d:x=0):CF 255 [.one (.sl AA X)] (.one (.bool true)):=
 NF f (decide_eq_true ((Lf h g).2 d)).symm
theorem H7 (h:AT u) (g:In u x) (f:X=em u x) (d:x≠0):CF 255 [.one (.sl AA X)] (.one (.bool false)):=
 NF f (decide_eq_false (fun k=>d ((Lf h g).1 k))).symm
theorem Tx (h:Ae R u) (j:X=em u x) (k:Y=em u y) (d:El u s x) (f:El u t y) (hs:s<=60000000000000) (ht:t<=60000000000000) (l:Z=em u (x+y)) (g:zn=Z.length):
  CF 217 [.one (.sl (.sl AA) T),.one (.sl AA X),.one (.sl AA Y)] (.one (.own AA Z zn)):=
 cF j k (d.Bh hs) (f.Bh ht) (by rw[d.len,f.len]) (by rw[d.len];exact Gp h.ht) (by rw[l,Vy h.red d.mem f.mem]) g
theorem I4 (h:Ae R u) (d:X=em u x) (f:Y=em u y) (j:El u s x) (k:El u t y) (hs:s<=60000000000000) (ht:t<=60000000000000) (g:Z=em u (x+y)):
 CF 217 [.one (.sl (.sl AA) T),.one (.sl AA X),.one (.sl AA Y)] (.one (.sl AA Z)):=C8 (Tx h d f j k hs ht g rfl)
theorem Jp (h:Ae R u) (f:X=em u x) (d:El u s x) (g:Z=em u (-x)):
  CF 221 [.one (.sl (.sl AA) T),.one (.sl AA X)] (.one (.sl AA Z)):=
 cV f (by rw[d.len];exact Gp h.ht) (by rw[g,Vz h.red d.mem])
theorem NJ (h:Ae R u) (k:X=em u x) (l:Y=em u y) (n:El u s x) (j:El u t y) (hs:s<=60000000000000) (ht:t<=60000000000000) (m:Z=em u (x-y)):CF 321 [.one (.sl (.sl AA) T),.one (.sl AA X),.one (.sl AA Y)] (.one (.sl AA Z)):=by
 refine AJ Tryz.func321 fun E g=>?_
 conv=>cbv
 obtain⟨o,d⟩:=xR (em u (-y));refine AB g (Jp h l j d) ?_;conv=>cbv
 obtain⟨v,f⟩:=xR (em u (x+ -y));refine AB g (I4 h k d n (j.neg h.red) hs ht f) ?_;conv=>cbv
 exact AD ⟨⟨rfl,congrArg _ (by rw[m,f,show x-y=x+ -y by grind]),trivial⟩,trivial⟩
theorem dV {p q:Rat} (L:T=[]) (F:A=[rp p]) (G:B=[rp q]) (hs:Bu p) (ht:Bu q) (H:C=[rp (p*q)]) (w:zn=C.length):CF 218 [.one (.sl (.sl AA) T),.one (.sl AA A),.one (.sl AA B)] (.one (.own AA C zn)):=by
 refine AJ Tryz.func218 fun E K=>?_
 conv=>cbv
 rintro O ⟨v,f14⟩;conv=>cbv
 intro n15 h;conv=>cbv
 cases n15 <;> conv=>cbv
 ·have j:=Ah h;exact absurd (by rw[v,L];rfl) j
 have j:=Aj h;have I:A.length=1:=by rw[F];rfl
 have J:B.length=1:=by rw[G];rfl
 obtain⟨z,d⟩:=AK (l:=A) (i:=0) (by omega);refine⟨z,fun _=>⟨by omega,d⟩,?_⟩;try conv=>cbv
 obtain⟨D,f⟩:=AK (l:=B) (i:=0) (by omega);refine⟨D,fun _=>⟨by omega,f⟩,?_⟩;try conv=>cbv
 have M:=Eh F d;have N:=Eh G f;obtain⟨n,o,k,m,g⟩:=Be (p*q);refine AB K (cZ M N hs ht rfl g) ?_;conv=>cbv
 refine⟨[((n,o),(k,m))],fun _=>⟨rfl,by decide,rfl,⟨rfl,by first | exact t1 | exact t2 | exact t4 | simp[Ao,BA,cells],trivial⟩⟩,.inl ?_⟩;try conv=>cbv
 refine g2 rfl ?_;exact AD ⟨⟨rfl,.inr (.inl ⟨_,_,by decide,rfl,rfl,rfl,rfl,C5 (by rw[H,g.rp]) (by rw[w,H];rfl)⟩),trivial⟩,trivial⟩
def LG (R:Nat) (u:List (List Rat)):Prop:=∀{T:List LR} {A B C:LR} {zn s t:Nat} {x y:Re},T=tw u->A=em u x->B=em u y->El u s x->El u t y->s+t+EE u.length R<=60000000000000->C=em u (x*y)->zn=C.length->
 CF 218 [.one (.sl (.sl AA) T),.one (.sl AA A),.one (.sl AA B)] (.one (.own AA C zn))
theorem dZ (h:Ae R (r::u)) (ih:LG R u) (hT:T=tw (r::u)) (hA:A=em (r::u) x) (hB:B=em (r::u) y) (hx:El (r::u) s x) (hy:El (r::u) t y) (aS:s+t+EE (r::u).length R<=60000000000000) (G:x=p+q*rt u r) (hp:El u s p) (hq:El u s q) (H:y=a+b*rt u r) (ha:El u t a) (hb:El u t b) (h0:q=0) (h1:b=0) (hC:C=em (r::u) (x*y)) (ab:zn=C.length):CF 218 [.one (.sl (.sl AA) T),.one (.sl AA A),.one (.sl AA B)] (.one (.own AA C zn)):=by
 have aO:EE (r::u).length R=2*EE u.length R+R+2:=rfl;have aQ:=El.Cv h;have hR:=h.hR;have aR:=Cb h.red;have aP:T.length=u.length+1:=by rw[hT,Bb];rfl
 have aM:A.length=2^u.length+2^u.length:=by rw[hA,BJ hx.mem,Bk]
 have aN:B.length=2^u.length+2^u.length:=by rw[hB,BJ hy.mem,Bk]
 refine AJ Tryz.func218 fun E K=>?_
 conv=>cbv
 rintro aY ⟨aF,f14⟩;conv=>cbv
 intro n15 J;conv=>cbv
 cases n15 <;> conv=>cbv
 ·have a5:=Ah J;rintro n25 ⟨aG,f25⟩;conv=>cbv
  intro n26 aJ;conv=>cbv
  refine g2 ⟨by omega,by omega,i64 (by omega)⟩ ?_;rintro n29 ⟨aH,f29⟩;conv=>cbv
  intro n30 aK;conv=>cbv
  refine AI ?_;intro aT au;conv=>cbv
  refine AH ?_;intro a7 al;conv=>cbv
  intro ad N;conv=>cbv
  rintro n34 ⟨aI,f34⟩;conv=>cbv
  intro n35 aL;conv=>cbv
  refine AI ?_;obtain⟨ai,a2⟩:=AK (l:=T) (i:=(T.length-1)) (by omega);refine⟨ai,fun _=>⟨by omega,by rw[show (n35).toNat=(T.length-1) by omega];exact a2⟩,?_⟩;try conv=>cbv
  refine g2 rfl ?_;intro aU V;conv=>cbv
  refine AH ?_;rintro a40 aD ⟨aj,L⟩;conv=>cbv
  intro ae O;conv=>cbv
  have w:ae=em u q:=by rw[O,show a40=A.length/2 by omega,L,V,List.take_length,hA,CA h.red hp.mem hq.mem G]
  refine AB K (Hc h.tail.red hq.mem w h0) ?_;conv=>cbv
  intro aV W;conv=>cbv
  refine AH ?_;rintro a6 aE ⟨ak,M⟩;conv=>cbv
  intro af P;conv=>cbv
  have z:af=em u b:=by rw[P,show a6=B.length/2 by omega,M,W,List.take_length,hB,CA h.red ha.mem hb.mem H]
  refine AB K (Hc h.tail.red hb.mem z h1) ?_;conv=>cbv
  refine g2 rfl ?_;intro aW av;conv=>cbv
  refine AH ?_;intro a8 an;conv=>cbv
  intro ag Q;conv=>cbv
  intro aX aw;conv=>cbv
  refine AH ?_;intro aa ao;conv=>cbv
  intro ah S;conv=>cbv
  have d:ad=tw u:=by rw[N,List.drop_zero,show a7=T.length-1 by omega,hT,DT]
  have D:ag=em u p:=by rw[Q,List.drop_zero,show a8=A.length/2 by omega,hA,CM h.red hp.mem hq.mem G]
  have F:ah=em u a:=by rw[S,List.drop_zero,show aa=B.length/2 by omega,hB,CM h.red ha.mem hb.mem H]
  obtain⟨m,f⟩:=xR (em u (p*a));obtain⟨ay,g⟩:=xN m.length;refine AB K (ih d D F hp ha (by omega) f g) ?_;conv=>cbv
  refine g2 rfl ?_;obtain⟨aB,aC,az,aA,o⟩:=Be (((0:Int):Rat));refine AB K (Ej (by omega) rfl o) ?_;conv=>cbv
  obtain⟨k,j⟩:=xR (em u (0));refine AB (r:= .one (.sl AA k)) K (F4 h.tail d o (by rw[show Re.ofRat ((0:Int):Rat)=0 from rfl];exact j)) ?_;try conv=>cbv
  have aq:m.length=2^u.length:=by rw[f,BJ (hp.mul h.tail ha).mem]
  have ax:=DD h.tail.ht;have ar:k.length=2^u.length:=by rw[j,BJ (Bx u)]
  refine .inl ⟨k,fun _=>⟨rfl,g,rfl,by show (m.length+k.length)*64<=140737488355328;(try simp only[List.length_take,List.length_drop]);omega⟩,?_⟩;intro (I:LR) n62 v;have U:I=(m:LR)++(k:LR):=v.1;have a1:n62=List.length (α:=(el AA)) I:=v.2;conv=>cbv
  have n:C=I:=by rw[hC,U,f,j];exact En h.red (hp.mul h.tail ha).mem (Bx u) (by rw[G,H,h0,h1];clear ih;grind)
  exact AD ⟨⟨rfl,.inr (.inl ⟨_,_,by decide,rfl,rfl,a1,rfl,C5 (n) (by rw[ab,n])⟩),trivial⟩,trivial⟩
 have a5:=Aj J;exact absurd a5 (by omega)
theorem dY (h:Ae R (r::u)) (ih:LG R u) (hT:T=tw (r::u)) (hA:A=em (r::u) x) (hB:B=em (r::u) y) (hx:El (r::u) s x) (hy:El (r::u) t y) (b4:s+t+EE (r::u).length R<=60000000000000) (m:x=p+q*rt u r) (k:El u s p) (hq:El u s q) (n:y=a+b*rt u r) (ha:El u t a) (hb:El u t b) (h0:q=0) (h1:b≠0) (hC:C=em (r::u) (x*y)) (aj:zn=C.length):CF 218 [.one (.sl (.sl AA) T),.one (.sl AA A),.one (.sl AA B)] (.one (.own AA C zn)):=by
 have aY:EE (r::u).length R=2*EE u.length R+R+2:=rfl;have b0:=El.Cv h;have hR:=h.hR;have b3:=Cb h.red;have aZ:T.length=u.length+1:=by rw[hT,Bb];rfl
 have aW:A.length=2^u.length+2^u.length:=by rw[hA,BJ hx.mem,Bk]
 have aX:B.length=2^u.length+2^u.length:=by rw[hB,BJ hy.mem,Bk]
 refine AJ Tryz.func218 fun E hE=>?_
 conv=>cbv
 rintro bc ⟨aP,f14⟩;conv=>cbv
 intro n15 L;conv=>cbv
 cases n15 <;> conv=>cbv
 ·have ab:=Ah L;rintro n25 ⟨aQ,f25⟩;conv=>cbv
  intro n26 aT;conv=>cbv
  refine g2 ⟨by omega,by omega,i64 (by omega)⟩ ?_;rintro n29 ⟨aR,f29⟩;conv=>cbv
  intro n30 aU;conv=>cbv
  refine AI ?_;intro b5 aG;conv=>cbv
  refine AH ?_;intro af aA;conv=>cbv
  intro ak P;conv=>cbv
  rintro n34 ⟨aS,f34⟩;conv=>cbv
  intro n35 aV;conv=>cbv
  refine AI ?_;obtain⟨aw,aa⟩:=AK (l:=T) (i:=(T.length-1)) (by omega);refine⟨aw,fun _=>⟨by omega,by rw[show (n35).toNat=(T.length-1) by omega];exact aa⟩,?_⟩;try conv=>cbv
  refine g2 rfl ?_;intro b6 a5;conv=>cbv
  refine AH ?_;rintro a40 aM ⟨ax,M⟩;conv=>cbv
  intro al Q;conv=>cbv
  have D:al=em u q:=by rw[Q,show a40=A.length/2 by omega,M,a5,List.take_length,hA,CA h.red k.mem hq.mem m]
  refine AB hE (Hc h.tail.red hq.mem D h0) ?_;conv=>cbv
  intro b7 a6;conv=>cbv
  refine AH ?_;rintro ad aN ⟨ay,N⟩;conv=>cbv
  intro an S;conv=>cbv
  have F:an=em u b:=by rw[S,show ad=B.length/2 by omega,N,a6,List.take_length,hB,CA h.red ha.mem hb.mem n]
  refine AB hE (H7 h.tail.red hb.mem F h1) ?_;conv=>cbv
  refine g2 rfl ?_;intro b8 aH;conv=>cbv
  refine AH ?_;intro ag aB;conv=>cbv
  intro ao U;conv=>cbv
  intro b9 aI;conv=>cbv
  refine AH ?_;intro ah aC;conv=>cbv
  intro aq V;conv=>cbv
  have d:ak=tw u:=by rw[P,List.drop_zero,show af=T.length-1 by omega,hT,DT]
  have G:ao=em u p:=by rw[U,List.drop_zero,show ag=A.length/2 by omega,hA,CM h.red k.mem hq.mem m]
  have H:aq=em u a:=by rw[V,List.drop_zero,show ah=B.length/2 by omega,hB,CM h.red ha.mem hb.mem n]
  obtain⟨o,f⟩:=xR (em u (p*a));obtain⟨aL,g⟩:=xN o.length;refine AB hE (ih d G H k ha (by omega) f g) ?_;conv=>cbv
  refine g2 rfl ?_;intro ba aJ;conv=>cbv
  refine AH ?_;intro ai aD;conv=>cbv
  intro ar W;conv=>cbv
  intro bb a7;conv=>cbv
  refine AH ?_;rintro ae aO ⟨az,O⟩;conv=>cbv
  intro au a1;conv=>cbv
  have I:ar=em u p:=by rw[W,List.drop_zero,show ai=A.length/2 by omega,hA,CM h.red k.mem hq.mem m]
  have J:au=em u b:=by rw[a1,show ae=B.length/2 by omega,O,a7,List.take_length,hB,CA h.red ha.mem hb.mem n]
  obtain⟨v,j⟩:=xR (em u (p*b));refine AB hE (C8 (ih d I J k hb (by omega) j rfl)) ?_;conv=>cbv
  have aE:o.length=2^u.length:=by rw[f,BJ (k.mul h.tail ha).mem]
  have aK:=DD h.tail.ht;have aF:v.length=2^u.length:=by rw[j,BJ (k.mul h.tail hb).mem]
  refine .inl ⟨v,fun _=>⟨rfl,g,rfl,by show (o.length+v.length)*64<=140737488355328;(try simp only[List.length_take,List.length_drop]);omega⟩,?_⟩;intro (K:LR) av z;have a2:K=(o:LR)++(v:LR):=z.1;have a8:av=List.length (α:=(el AA)) K:=z.2;conv=>cbv
  refine g2 rfl ?_;have w:C=K:=by rw[hC,a2,f,j];exact En h.red (k.mul h.tail ha).mem (k.mul h.tail hb).mem (by rw[m,n,h0];clear ih;grind)
  exact AD ⟨⟨rfl,.inr (.inl ⟨_,_,by decide,rfl,rfl,a8,rfl,C5 (w) (by rw[aj,w])⟩),trivial⟩,trivial⟩
 have ab:=Aj L;exact absurd ab (by omega)
theorem dX (h:Ae R (r::u)) (ih:LG R u) (hT:T=tw (r::u)) (hA:A=em (r::u) x) (hB:B=em (r::u) y) (hx:El (r::u) s x) (hy:El (r::u) t y) (b5:s+t+EE (r::u).length R<=60000000000000) (k:x=p+q*rt u r) (L:El u s p) (J:El u s q) (m:y=a+b*rt u r) (ha:El u t a) (hb:El u t b) (h0:q≠0) (h1:b=0) (hC:C=em (r::u) (x*y)) (ak:zn=C.length):CF 218 [.one (.sl (.sl AA) T),.one (.sl AA A),.one (.sl AA B)] (.one (.own AA C zn)):=by
 have aZ:EE (r::u).length R=2*EE u.length R+R+2:=rfl;have b3:=El.Cv h;have hR:=h.hR;have b4:=Cb h.red;have b0:T.length=u.length+1:=by rw[hT,Bb];rfl
 have aX:A.length=2^u.length+2^u.length:=by rw[hA,BJ hx.mem,Bk]
 have aY:B.length=2^u.length+2^u.length:=by rw[hB,BJ hy.mem,Bk]
 refine AJ Tryz.func218 fun E hE=>?_
 conv=>cbv
 rintro bd ⟨aQ,f14⟩;conv=>cbv
 intro n15 M;conv=>cbv
 cases n15 <;> conv=>cbv
 ·have ad:=Ah M;rintro n25 ⟨aR,f25⟩;conv=>cbv
  intro n26 aU;conv=>cbv
  refine g2 ⟨by omega,by omega,i64 (by omega)⟩ ?_;rintro n29 ⟨aS,f29⟩;conv=>cbv
  intro n30 aV;conv=>cbv
  refine AI ?_;intro b6 aH;conv=>cbv
  refine AH ?_;intro ag aB;conv=>cbv
  intro al Q;conv=>cbv
  rintro n34 ⟨aT,f34⟩;conv=>cbv
  intro n35 aW;conv=>cbv
  refine AI ?_;obtain⟨ax,ab⟩:=AK (l:=T) (i:=(T.length-1)) (by omega);refine⟨ax,fun _=>⟨by omega,by rw[show (n35).toNat=(T.length-1) by omega];exact ab⟩,?_⟩;try conv=>cbv
  refine g2 rfl ?_;intro b7 a6;conv=>cbv
  refine AH ?_;rintro a40 aN ⟨ay,N⟩;conv=>cbv
  intro an S;conv=>cbv
  have z:an=em u q:=by rw[S,show a40=A.length/2 by omega,N,a6,List.take_length,hA,CA h.red L.mem J.mem k]
  refine AB hE (H7 h.tail.red J.mem z h0) ?_;conv=>cbv
  intro b8 a7;conv=>cbv
  refine AH ?_;rintro ae aO ⟨az,O⟩;conv=>cbv
  intro ao U;conv=>cbv
  have D:ao=em u b:=by rw[U,show ae=B.length/2 by omega,O,a7,List.take_length,hB,CA h.red ha.mem hb.mem m]
  refine AB hE (Hc h.tail.red hb.mem D h1) ?_;conv=>cbv
  refine g2 rfl ?_;intro b9 aI;conv=>cbv
  refine AH ?_;intro ah aC;conv=>cbv
  intro aq V;conv=>cbv
  intro ba aJ;conv=>cbv
  refine AH ?_;intro ai aD;conv=>cbv
  intro ar W;conv=>cbv
  have d:al=tw u:=by rw[Q,List.drop_zero,show ag=T.length-1 by omega,hT,DT]
  have F:aq=em u p:=by rw[V,List.drop_zero,show ah=A.length/2 by omega,hA,CM h.red L.mem J.mem k]
  have G:ar=em u a:=by rw[W,List.drop_zero,show ai=B.length/2 by omega,hB,CM h.red ha.mem hb.mem m]
  obtain⟨n,f⟩:=xR (em u (p*a));obtain⟨aM,g⟩:=xN n.length;refine AB hE (ih d F G L ha (by omega) f g) ?_;conv=>cbv
  refine g2 rfl ?_;intro bb a8;conv=>cbv
  refine AH ?_;rintro af aP ⟨aA,P⟩;conv=>cbv
  intro au a1;conv=>cbv
  intro bc aK;conv=>cbv
  refine AH ?_;intro aj aE;conv=>cbv
  intro av a2;conv=>cbv
  have H:au=em u q:=by rw[a1,show af=A.length/2 by omega,P,a8,List.take_length,hA,CA h.red L.mem J.mem k]
  have I:av=em u a:=by rw[a2,List.drop_zero,show aj=B.length/2 by omega,hB,CM h.red ha.mem hb.mem m]
  obtain⟨o,j⟩:=xR (em u (q*a));refine AB hE (C8 (ih d H I J ha (by omega) j rfl)) ?_;conv=>cbv
  have aF:n.length=2^u.length:=by rw[f,BJ (L.mul h.tail ha).mem]
  have aL:=DD h.tail.ht;have aG:o.length=2^u.length:=by rw[j,BJ (J.mul h.tail ha).mem]
  refine .inl ⟨o,fun _=>⟨rfl,g,rfl,by show (n.length+o.length)*64<=140737488355328;(try simp only[List.length_take,List.length_drop]);omega⟩,?_⟩;intro (K:LR) aw w;have a5:K=(n:LR)++(o:LR):=w.1;have aa:aw=List.length (α:=(el AA)) K:=w.2;conv=>cbv
  refine g2 rfl ?_;have v:C=K:=by rw[hC,a5,f,j];exact En h.red (L.mul h.tail ha).mem (J.mul h.tail ha).mem (by rw[k,m,h1];clear ih;grind)
  exact AD ⟨⟨rfl,.inr (.inl ⟨_,_,by decide,rfl,rfl,aa,rfl,C5 (v) (by rw[ak,v])⟩),trivial⟩,trivial⟩
 have ad:=Aj M;exact absurd ad (by omega)
theorem dW (h:Ae R (r::u)) (ih:LG R u) (hT:T=tw (r::u)) (hA:A=em (r::u) x) (hB:B=em (r::u) y) (hx:El (r::u) s x) (hy:El (r::u) t y) (bQ:s+t+EE (r::u).length R<=60000000000000) (m:x=p+q*rt u r) (k:El u s p) (f:El u s q) (n:y=a+b*rt u r) (ha:El u t a) (hb:El u t b) (h0:q≠0) (h1:b≠0) (hC:C=em (r::u) (x*y)) (b3:zn=C.length):CF 218 [.one (.sl (.sl AA) T),.one (.sl AA A),.one (.sl AA B)] (.one (.own AA C zn)):=by
 have bN:EE (r::u).length R=2*EE u.length R+R+2:=rfl;have M:=El.Cv h;have hR:=h.hR;have bP:=Cb h.red;have bO:T.length=u.length+1:=by rw[hT,Bb];rfl
 have bL:A.length=2^u.length+2^u.length:=by rw[hA,BJ hx.mem,Bk]
 have bM:B.length=2^u.length+2^u.length:=by rw[hB,BJ hy.mem,Bk]
 refine AJ Tryz.func218 fun E H=>?_
 conv=>cbv
 rintro bY ⟨bE,f14⟩;conv=>cbv
 intro n15 ao;conv=>cbv
 cases n15 <;> conv=>cbv
 ·have aH:=Ah ao;rintro n25 ⟨bF,f25⟩;conv=>cbv
  intro n26 bI;conv=>cbv
  refine g2 ⟨by omega,by omega,i64 (by omega)⟩ ?_;rintro n29 ⟨bG,f29⟩;conv=>cbv
  intro n30 bJ;conv=>cbv
  refine AI ?_;intro bR bn;conv=>cbv
  refine AH ?_;intro aR bj;conv=>cbv
  intro b4 aw;conv=>cbv
  rintro n34 ⟨bH,f34⟩;conv=>cbv
  intro n35 bK;conv=>cbv
  refine AI ?_;obtain⟨aN,D⟩:=AK (l:=T) (i:=(T.length-1)) (by omega);refine⟨aN,fun _=>⟨by omega,by rw[show (n35).toNat=(T.length-1) by omega];exact D⟩,?_⟩;try conv=>cbv
  refine g2 rfl ?_;intro bS aD;conv=>cbv
  refine AH ?_;rintro a40 bA ⟨bd,aq⟩;conv=>cbv
  intro b5 ax;conv=>cbv
  have a7:b5=em u q:=by rw[ax,show a40=A.length/2 by omega,aq,aD,List.take_length,hA,CA h.red k.mem f.mem m]
  refine AB H (H7 h.tail.red f.mem a7 h0) ?_;conv=>cbv
  intro bT aE;conv=>cbv
  refine AH ?_;rintro aO bB ⟨bf,ar⟩;conv=>cbv
  intro b6 ay;conv=>cbv
  have a8:b6=em u b:=by rw[ay,show aO=B.length/2 by omega,ar,aE,List.take_length,hB,CA h.red ha.mem hb.mem n]
  refine AB H (H7 h.tail.red hb.mem a8 h1) ?_;conv=>cbv
  refine g2 rfl ?_;intro bU bo;conv=>cbv
  refine AH ?_;intro aS bk;conv=>cbv
  intro b7 az;conv=>cbv
  intro bV bp;conv=>cbv
  refine AH ?_;intro aT bl;conv=>cbv
  intro b8 aA;conv=>cbv
  have d:b4=tw u:=by rw[aw,List.drop_zero,show aR=T.length-1 by omega,hT,DT]
  have aa:b7=em u p:=by rw[az,List.drop_zero,show aS=A.length/2 by omega,hA,CM h.red k.mem f.mem m]
  have ab:b8=em u a:=by rw[aA,List.drop_zero,show aT=B.length/2 by omega,hB,CM h.red ha.mem hb.mem n]
  obtain⟨bZ,P⟩:=xR (em u (p*a));refine AB H (C8 (ih d aa ab k ha (by omega) P rfl)) ?_;conv=>cbv
  refine g2 rfl ?_;intro bW aF;conv=>cbv
  refine AH ?_;rintro aP bC ⟨bg,au⟩;conv=>cbv
  intro b9 aB;conv=>cbv
  intro bX aG;conv=>cbv
  refine AH ?_;rintro aQ bD ⟨bh,av⟩;conv=>cbv
  intro ba aC;conv=>cbv
  have ad:b9=em u q:=by rw[aB,show aP=A.length/2 by omega,au,aF,List.take_length,hA,CA h.red k.mem f.mem m]
  have ae:ba=em u b:=by rw[aC,show aQ=B.length/2 by omega,av,aG,List.take_length,hB,CA h.red ha.mem hb.mem n]
  obtain⟨c0,Q⟩:=xR (em u (q*b));refine AB H (C8 (ih d ad ae f hb (by omega) Q rfl)) ?_;conv=>cbv
  have ai:aN=em u (AM u r):=by rw[hT,E5] at D;exact (Option.some.inj D).symm.trans (EG h.red)
  obtain⟨c1,S⟩:=xR (em u (q*b*AM u r));refine AB H (C8 (ih d Q ai (f.mul h.tail hb) M (by omega) S rfl)) ?_;conv=>cbv
  obtain⟨N,w⟩:=xR (em u (p*a+q*b*AM u r));obtain⟨bz,z⟩:=xN N.length;refine AB H (Tx h.tail P S (k.mul h.tail ha) ((f.mul h.tail hb).mul h.tail M) (by omega) (by omega) w z) ?_;conv=>cbv
  refine g2 rfl ?_;intro br aZ;conv=>cbv
  refine AH ?_;intro al aW;conv=>cbv
  intro aI W;conv=>cbv
  intro bs af;conv=>cbv
  refine AH ?_;rintro aj bb ⟨aU,U⟩;conv=>cbv
  intro aJ a1;conv=>cbv
  have I:aI=em u p:=by rw[W,List.drop_zero,show al=A.length/2 by omega,hA,CM h.red k.mem f.mem m]
  have J:aJ=em u b:=by rw[a1,show aj=B.length/2 by omega,U,af,List.take_length,hB,CA h.red ha.mem hb.mem n]
  obtain⟨bw,o⟩:=xR (em u (p*b));refine AB H (C8 (ih d I J k hb (by omega) o rfl)) ?_;conv=>cbv
  intro bt ag;conv=>cbv
  refine AH ?_;rintro ak bc ⟨aV,V⟩;conv=>cbv
  intro aK a2;conv=>cbv
  intro bu b0;conv=>cbv
  refine AH ?_;intro an aX;conv=>cbv
  intro aL a5;conv=>cbv
  have K:aK=em u q:=by rw[a2,show ak=A.length/2 by omega,V,ag,List.take_length,hA,CA h.red k.mem f.mem m]
  have L:aL=em u a:=by rw[a5,List.drop_zero,show an=B.length/2 by omega,hB,CM h.red ha.mem hb.mem n]
  obtain⟨bx,v⟩:=xR (em u (q*a));refine AB H (C8 (ih d K L f ha (by omega) v rfl)) ?_;conv=>cbv
  obtain⟨j,g⟩:=xR (em u (p*b+q*a));refine AB H (I4 h.tail o v (k.mul h.tail hb) (f.mul h.tail ha) (by omega) (by omega) g) ?_;conv=>cbv
  have bm:N.length=2^u.length:=by rw[w,BJ (C0 (k.mul h.tail ha).mem ((f.mul h.tail hb).mul h.tail M).mem)]
  have aY:j.length=2^u.length:=by rw[g,BJ (C0 (k.mul h.tail hb).mem (f.mul h.tail ha).mem)]
  have bq:=DD h.tail.ht;refine .inl ⟨j,fun _=>⟨rfl,z,rfl,by show (N.length+j.length)*64<=140737488355328;(try simp only[List.length_take,List.length_drop]);omega⟩,?_⟩;intro (F:LR) aM G;have a6:F=(N:LR)++(j:LR):=G.1;have ah:aM=List.length (α:=(el AA)) F:=G.2;conv=>cbv
  refine g2 rfl ?_;have O:C=F:=by rw[hC,a6,w,g];exact En h.red (C0 (k.mul h.tail ha).mem ((f.mul h.tail hb).mul h.tail M).mem) (C0 (k.mul h.tail hb).mem (f.mul h.tail ha).mem) (by rw[m,n];clear ih;grind)
  exact AD ⟨⟨rfl,.inr (.inl ⟨_,_,by decide,rfl,rfl,ah,rfl,C5 (O) (by rw[b3,O])⟩),trivial⟩,trivial⟩
 have aH:=Aj ao;exact absurd aH (by omega)
theorem ar (h:Ae R u):LG R u:=by
 induction u with
 | nil=>
  intro T A B C zn s t x y z m n k l f o d;obtain⟨p,rfl⟩:=CN.1 k.mem;obtain⟨q,rfl⟩:=CN.1 l.mem;rw[Dx] at m n;rw[<-Re.ofRat_mul,Dx] at o;have v:=k.Bh (by omega);have w:=l.Bh (by omega);rw[CQ] at v w;exact dV z m n (v _ List.mem_cons_self) (w _ List.mem_cons_self) o d
 | cons r u G=>
  intro T A B C zn s t x y z m n k l f o d;obtain⟨p,q,g,v,w⟩:=El.parts h.red k;obtain⟨a,b,j,ha,hb⟩:=El.parts h.red l
  by_cases F:q=0
  ·by_cases D:b=0
   ·exact dZ h (G h.tail) z m n k l f g v w j ha hb F D o d
   exact dY h (G h.tail) z m n k l f g v w j ha hb F D o d
  by_cases D:b=0
  ·exact dX h (G h.tail) z m n k l f g v w j ha hb F D o d
  exact dW h (G h.tail) z m n k l f g v w j ha hb F D o d
theorem Dp (h:Ae R u) (k:T=tw u) (f:A=em u x) (g:B=em u y) (l:El u s x) (m:El u t y) (d:s+t+EE u.length R<=60000000000000) (j:C=em u (x*y)):
 CF 218 [.one (.sl (.sl AA) T),.one (.sl AA A),.one (.sl AA B)] (.one (.sl AA C)):=C8 (ar h k f g l m d j rfl)
end Go.Abs
namespace Go.Abs
open Go.RowKit Go.Shelf Go.Proofs
def N9:Ren:=⟨fun k=>if k=4 then 370 else 0,fun k=>if k=3 then 3 else if k=4 then 4 else if k=9 then 9 else if k=20 then 20 else if k=22 then 34 else if k=25 then 69 else 0,fun k=>k⟩
theorem g9:Lays8.n4 Tryz.prog N9 where
 mixed:=JG
 f4:=⟨Tryz.f370.name,by kernel_rfl,by kernel_rfl⟩
 t0:=by kernel_rfl
 a0:=by intro w;kernel_rfl
 z0:=by intro w;kernel_rfl
 v0:=by intro w;kernel_rfl
 t3:=by kernel_rfl
 a3:=by intro w;kernel_rfl
 z3:=by intro w;kernel_rfl
 v3:=by intro w;kernel_rfl
 t4:=by kernel_rfl
 a4:=by intro w;kernel_rfl
 z4:=by intro w;kernel_rfl
 v4:=by intro w;kernel_rfl
 t9:=by kernel_rfl
 a9:=by intro w;kernel_rfl
 z9:=by intro w;kernel_rfl
 v9:=by intro w;kernel_rfl
 t20:=by kernel_rfl
 a20:=by intro w;kernel_rfl
 z20:=by intro w;kernel_rfl
 v20:=by intro w;kernel_rfl
 t22:=by kernel_rfl
 a22:=by intro w;kernel_rfl
 z22:=by intro w;kernel_rfl
 v22:=by intro w;kernel_rfl
theorem bL {n:Int} {k:Nat} (N:AO n k) (M:0<k) (Q:k<=1000000:=by omega):CF 370 [.one .nil,.one (.int .i64 n)] (.one (.own AA [] 0)):=by
 refine⟨⟨_,_,Tryz.func370,by kernel_rfl,rfl⟩,⟨rfl,rfl⟩,?_⟩;intro w I vs P g
 match vs,g with
 | [v1,v2],⟨F,H,_⟩=>
  have v:v1= .slice none 0 0:=by rcases F with h | h;cases h;exact h
  have D:v2= .int .i64 k:=by rcases H with h | h;cases h;rw[<-N.eq];exact h
  subst v;subst D;obtain⟨_,i0,z,f,hs,hb,_,j,m⟩:=(Mj 34).sl rfl
  have l:z.cells.size=4:=by
   have:=(m (DC w I)).length;rw[GA] at this;have e:(TI 34).elem.size=4:=rfl;rw[e] at this;simpa using this.symm
  have d:i0.bytes=64:=hb;have O:i0.size=4:=hs;have J:=Any8.slices_Grow_grow g9 i0 z f j (by omega) none 0 0 k [] w (by omega) (by omega) (by rw[d];omega) (by omega) (by simp) (fun _=>rfl) (fun a h=>by cases h);refine J.mono fun e w' ⟨he,hw⟩=>?_
  have K:=grownCap_ge w (0+k) 0 (N9.t 25);have hle:=grownCap_le_maxLen w (0+k) 0 (N9.t 25) (by unfold maxLen;omega)
  generalize grownCap w (0+k) 0 (N9.t 25)=G at*
  subst hw
  have L:∀o:Obj,(w.drew.alloc o).heap[w.heap.size]? =some o:=fun o=>by
   show (w.heap.push o)[w.heap.size]? =_
   rw[Array.getElem?_push,if_pos rfl]
  refine⟨_,some w.heap.size,he,((Below.refl _ _).drew).alloc (Nat.le_refl _) _,.inr ⟨rfl,_,_,rfl,Nat.zero_le _,hle,Nat.zero_le _,.inr ⟨_,_,_,rfl,Nat.le_refl _,rfl,L _,?_,fun i y h=>by simp at h⟩⟩⟩
  show G*4<=_
  simp[size_zeroCells,l];omega
end Go.Abs
namespace Go.Abs
open Go.RowKit
variable {Z x:LR} {zn:Nat}
theorem WN {X:List LR} {i:Nat} (h:X[i]? =some x):(X.take (i+1)).flatten=(X.take i).flatten++x:=by
 rw[Cg h,List.flatten_append];simp
theorem WM {X:List LR} {i m:Nat} (h:X[i]? =some x) (hm:m=(X.take i).flatten.length):m+x.length=(X.take (i+1)).flatten.length:=by
 rw[WN h,List.length_append,hm]
theorem WL (X:List LR) (i:Nat):(X.take i).flatten.length<=X.flatten.length:=by
 conv=>rhs;rw[<-List.take_append_drop i X,List.flatten_append,List.length_append]
 omega
theorem S7 {X:LR} (v:X.length<=1000000) (g:zn=X.length):CF 307 [.one (.sl AA X)] (.one (.own AA X zn)):=by
 refine AJ Tryz.func307 fun E o=>?_
 conv=>cbv
 intro n4 m;conv=>cbv
 refine⟨fun l=>?_,?_⟩
 ·conv=>cbv
  have d:X=[]:=by rw[m] at l;simpa using l
  exact AD ⟨⟨rfl,.inr (.inr ⟨_,C5 (d) (by rw[g,d];rfl)⟩),trivial⟩,trivial⟩
 refine⟨[],fun _=>⟨rfl,by decide,rfl,trivial⟩,.inl ?_⟩;try conv=>cbv
 refine .inl ⟨X,fun _=>⟨rfl,by (first | rfl | omega),rfl,by show (0+X.length)*64<=140737488355328;(try simp only[List.length_take,List.length_drop]);omega⟩,?_⟩;intro (k:LR) n h;have f:k=([]:LR)++(X:LR):=h.1;have j:n=List.length (α:=(el AA)) k:=h.2;conv=>cbv
 exact AD ⟨⟨rfl,.inr (.inl ⟨_,_,by decide,rfl,rfl,by rw[j],rfl,C5 (by rw[f];simp) (by rw[g,f];simp)⟩),trivial⟩,trivial⟩
theorem S6 {X:LR} (d:X.length<=1000000):CF 307 [.one (.sl AA X)] (.one (.sl AA X)):=C8 (S7 d rfl)
theorem bF {X:List LR} (h0:0<X.flatten.length) (hX:X.flatten.length<=1000000) (hZ:Z=X.flatten) (W:zn=Z.length):CF 329 [.one (.sl (.sl AA) X)] (.one (.own AA Z zn)):=by
 refine AJ Tryz.func329 fun E hE=>?_
 conv=>cbv
 intro a5 n;have a7:=n.eq;have f10:=n.le;conv=>cbv
 refine .inr ?_;obtain⟨J0,w⟩:=xJ fun vs S k=>∃(i' m':Nat) (m L i:Int),vs=[.one (.sl (.sl AA) X),.one (.int .i64 m),.one (.sl (.sl AA) X),.one (.int .i64 L),.one (.int .i64 i)]/\(CT L X.length/\AO i i'/\i'<=X.length/\AO m m')/\m'=(X.take i').flatten.length/\k=X.length-i'
 refine⟨[],[0,3,9,10,11],[],J0,⟨X.length-0,by rw[w];exact⟨0,0,0,a5,0,rfl,⟨n,Al 0,by omega,Al 0⟩,rfl,rfl⟩⟩,?_⟩;intro vs S ai K;rw[w] at K;obtain⟨i',m',m,L,i,rfl,⟨I,hi,V,hm⟩,hinv,ag⟩:=K;conv=>cbv
 have eL:=I.eq;have ei:=hi.eq;have em:=hm.eq;intro a6 F;conv=>cbv
 cases a6 <;> conv=>cbv
 ·have a1:=AW F;have af:m'=X.flatten.length:=by rw[hinv,show i'=X.length by omega,List.take_length]
  refine AB hE (bL hm (by omega)) ?_;conv=>cbv
  intro n26 v;have aa:=v.eq;have f26:=v.le;conv=>cbv
  refine .inr ?_;obtain⟨J1,z⟩:=xJ fun vs S k=>∃(i' mm:Nat) (o:LR) (L i:Int),vs=[.one (.AN AA 24 0 0 mm),.one (.sl (.sl AA) X),.one (.int .i64 L),.one (.int .i64 i)]/\S=[.arr 0 AA o]/\(CT L X.length/\AO i i'/\i'<=X.length/\mm=o.length)/\o=(X.take i').flatten/\k=X.length-i'
  refine⟨[],[6,25,26,27],[24],J1,⟨X.length-0,by rw[z];exact⟨0,0,[],n26,0,rfl,rfl,⟨v,Al 0,by omega,rfl⟩,rfl,rfl⟩⟩,?_⟩;intro vs S aj K;rw[z] at K;obtain⟨i',mm,o,L,i,rfl,rfl,⟨I,hi,V,N⟩,hinv,ah⟩:=K;conv=>cbv
  have eL:=I.eq;have ei:=hi.eq;intro n28 H;conv=>cbv
  cases n28 <;> conv=>cbv
  ·have a2:=AW H;have g:Z=o:=by rw[hZ,hinv,show i'=X.length by omega,List.take_length]
   exact AD ⟨⟨rfl,.inr (.inl ⟨_,_,by decide,rfl,rfl,N,rfl,C5 (g) (by rw[W,g])⟩),trivial⟩,trivial⟩
  have a2:=AY H;refine .inr ?_;obtain⟨f,d⟩:=AK (l:=X) (i:=i') (by omega);refine⟨f,fun _=>⟨by omega,by rw[show (i).toNat=i' by omega];exact d⟩,?_⟩;try conv=>cbv
  have J:=WM d (congrArg _ hinv);have U:=WL X (i'+1);refine .inl ⟨f,fun _=>⟨rfl,N,rfl,by show (o.length+f.length)*64<=140737488355328;(try simp only[List.length_take,List.length_drop]);omega⟩,?_⟩;intro (D:LR) n33 j;have M:D=(o:LR)++(f:LR):=j.1;have O:n33=List.length (α:=(el AA)) D:=j.2;conv=>cbv
  intro n34 ae;conv=>cbv
  refine AI ?_;refine⟨X.length-(i'+1),?_,?_⟩
  ·omega
  rw[z];exact⟨i'+1,n33,D,L,n34,rfl,rfl,⟨I,⟨by omega⟩,by omega,by rw[O]⟩,by rw[M,hinv,WN d],rfl⟩
 have a1:=AY F;refine .inr ?_;obtain⟨Q,h⟩:=AK (l:=X) (i:=i') (by omega);refine⟨Q,fun _=>⟨by omega,by rw[show (i).toNat=i' by omega];exact h⟩,?_⟩;try conv=>cbv
 rintro n17 ⟨a8,f17⟩;conv=>cbv
 have J:=WM h hinv;have U:=WL X (i'+1);intro n18 ab;conv=>cbv
 refine AI ?_;intro n20 G;conv=>cbv
 refine .inr ?_;cases n20 <;> conv=>cbv
 ·have P:=AW G;intro n22 ad;conv=>cbv
  refine AI ?_;refine⟨X.length-(i'+1),?_,?_⟩
  ·omega
  rw[w];exact⟨i'+1,m'+Q.length,n18,L,n22,rfl,⟨I,⟨by omega⟩,by omega,⟨by omega⟩⟩,J,rfl⟩
 have P:=AY G;exact absurd P (by omega)
theorem Nj {A B:LR} (f:0<A.length) (g:A.length+B.length<=1000000) (d:Z=A++B):CF 329 [.one (.sl (.sl AA) [A,B])] (.one (.sl AA Z)):=
 C8 (bF (X:=[A,B]) (by simp;omega) (by simp;omega) (by simp[d]) rfl)
end Go.Abs
namespace Go.Abs
open Go.RowKit
def Td (f:FuncId) (R:Nat) (u:List (List Rat)):Prop:=∀{T:List LR} {A:LR} {s:Nat} {x:Re} {c:Int},T=tw u->A=em u x->El u s x->VV u.length R s<=60000000000000->c=An x->
 CF f [.one (.sl (.sl AA) T),.one (.sl AA A)] (.one (.int .i64 c))
variable {A:LR} {R s:Nat} {T:List LR} {c:Int} {u:List (List Rat)} {x:Re}
theorem oM {p:Rat} (v:T=[]) (m:A=[rp p]) (w:c=DR p):CF 286 [.one (.sl (.sl AA) T),.one (.sl AA A)] (.one (.int .i64 c)):=by
 refine AJ Tryz.func286 fun E o=>?_
 conv=>cbv
 rintro z ⟨j,f14⟩;conv=>cbv
 intro n15 g;conv=>cbv
 cases n15 <;> conv=>cbv
 ·have h:=Ah g;exact absurd (by rw[j,v];rfl) h
 have h:=Aj g;have n:A.length=1:=by rw[m];rfl
 obtain⟨k,f⟩:=AK (l:=A) (i:=0) (by omega);refine⟨k,fun _=>⟨by omega,f⟩,?_⟩;try conv=>cbv
 obtain⟨D,d⟩:=xI (DR p);refine AB o (LA (Eh m f) d) ?_;conv=>cbv
 exact AD ⟨⟨rfl,congrArg _ (w.trans d.symm),trivial⟩,trivial⟩
theorem oN {r:List Rat} (h:Ae R (r::u)) (ih:Td 286 R u) (hT:T=tw (r::u)) (hA:A=em (r::u) x) (hx:El (r::u) s x) (hs:VV (r::u).length R s<=60000000000000) (hc:c=An x):CF 286 [.one (.sl (.sl AA) T),.one (.sl AA A)] (.one (.int .i64 c)):=by
 obtain⟨p,q,m,w,o⟩:=El.parts h.red hx;have az:T.length=u.length+1:=by rw[hT,Bb];rfl
 have ay:A.length=2^u.length+2^u.length:=by rw[hA,BJ hx.mem,Bk]
 have aB:VV (r::u).length R s=VV u.length R (2*s+2*EE u.length R+R+1):=rfl;have aC:=FU u.length R (2*s+2*EE u.length R+R+1);have aA:=HY u.length R (s:=s) (t:=2*s+2*EE u.length R+R+1) (by omega);have hN:=El.norm h w.mem o.mem (m ▸ hx);have a5:=El.Cv h;have v:=ZK h.red;have ad:=Cb h.red;refine AJ Tryz.func286 fun E I=>?_
 conv=>cbv
 rintro aG ⟨ar,f14⟩;conv=>cbv
 intro n15 N;conv=>cbv
 cases n15 <;> conv=>cbv
 ·have a6:=Ah N;rintro n21 ⟨au,f21⟩;conv=>cbv
  intro n22 aw;conv=>cbv
  refine AI ?_;rintro n24 ⟨av,f24⟩;conv=>cbv
  intro n25 ax;conv=>cbv
  refine g2 ⟨by omega,by omega,i64 (by omega)⟩ ?_;intro aD an;conv=>cbv
  refine AH ?_;intro aa ak;conv=>cbv
  intro ae V;conv=>cbv
  intro aE ao;conv=>cbv
  refine AH ?_;intro ab al;conv=>cbv
  intro af W;conv=>cbv
  intro aF a2;conv=>cbv
  refine AH ?_;rintro a8 aq ⟨aj,U⟩;conv=>cbv
  intro ag a1;conv=>cbv
  refine g2 rfl ?_;have d:ae=tw u:=by rw[V,List.drop_zero,show aa=T.length-1 by omega,hT,DT]
  have j:af=em u p:=by rw[W,List.drop_zero,show ab=A.length/2 by omega,hA,CM h.red w.mem o.mem m]
  have k:ag=em u q:=by rw[a1,show a8=A.length/2 by omega,U,a2,List.take_length,hA,CA h.red w.mem o.mem m]
  obtain⟨aI,f⟩:=xI (An p);refine AB I (ih d j w (by omega) f) ?_;conv=>cbv
  obtain⟨aJ,g⟩:=xI (An q);refine AB I (ih d k o (by omega) g) ?_;conv=>cbv
  refine .inr ?_;intro n43 O;conv=>cbv
  cases n43 <;> conv=>cbv
  ·have K:=Ah O;intro ah P;conv=>cbv
   cases ah <;> conv=>cbv
   ·have L:=Ah P;intro n52 Q;conv=>cbv
    cases n52 <;> conv=>cbv
    ·have M:=Ah Q;obtain⟨aK,z⟩:=xR (em u (p*p));refine AB I (G3 h.tail d j j w w (by omega) z) ?_;conv=>cbv
     obtain⟨a7,H⟩:=AK (l:=T) (i:=(n22).toNat) (by omega);refine⟨a7,fun _=>⟨by omega,H⟩,?_⟩;try conv=>cbv
     have J:a7=Aa r:=by have:=E5 r u;rw[<-hT,show T.length-1=n22.toNat by omega,H] at this;exact Option.some.inj this
     obtain⟨aL,D⟩:=xR (em u (q*q));refine AB I (G3 h.tail d k k o o (by omega) D) ?_;conv=>cbv
     obtain⟨aM,F⟩:=xR (em u (AM u r*(q*q)));refine AB I (G3 h.tail d (J.trans (EG h.red)) D a5 (o.mul h.tail o) (by omega) F) ?_;conv=>cbv
     obtain⟨aN,G⟩:=xR (em u (p*p-AM u r*(q*q)));refine AB I (M5 h.tail d z F (w.mul h.tail w) (a5.mul h.tail (o.mul h.tail o)) (by omega) (by omega) G) ?_;conv=>cbv
     refine g2 rfl ?_;obtain⟨ai,n⟩:=xI (An (p*p-q*q*AM u r));refine AB (r:= .one (.int .i64 ai)) I (ih d (G.trans (by congr 1;clear ih;grind)) hN (by omega) n) ?_;try conv=>cbv
     intro aH S;conv=>cbv
     refine⟨fun _=>by rw[S,f,n];exact ZZ _ _,?_⟩;exact AD ⟨⟨rfl,congrArg _ (by rw[hc,S,f,n,m];exact Zb v ad (fun e=>M (by rw[f,e];exact EZ)) (fun e=>K (by rw[g,e];exact EZ)) (by rw[<-f,<-g];exact L)),trivial⟩,trivial⟩
    have M:=Aj Q;exact AD ⟨⟨rfl,congrArg _ (by rw[hc,g,m];exact Zc v (EP.1 (f ▸ M))),trivial⟩,trivial⟩
   have L:=Aj P;exact AD ⟨⟨rfl,congrArg _ (by rw[hc,f,m];exact Ov v (.inr (by rw[<-f,<-g];exact L))),trivial⟩,trivial⟩
  have K:=Aj O;exact AD ⟨⟨rfl,congrArg _ (by rw[hc,f,m];exact Ov v (.inl (EP.1 (g ▸ K)))),trivial⟩,trivial⟩
 have a6:=Aj N;exact absurd a6 (by omega)
theorem aV (h:Ae R u):Td 286 R u:=by
 induction u with
 | nil=>
  intro T A s x c f d j hs g;obtain⟨p,rfl⟩:=CN.1 j.mem;rw[Dx] at d;exact oM f d (g.trans (Gv p))
 | cons r u k=>
  intro T A s x c f d j hs g;exact oN h (k h.tail) f d j hs g
theorem bn (h:Ae R u) (v:T=tw u) (hs:VV u.length R R<=60000000000000):CF 340 [.one (.sl (.sl AA) T)] (.one (.bool true)):=by
 have a7:T.length=u.length:=by rw[v,Bb]
 have H:El u 0 0:=El.rat h.red Hf;refine AJ Tryz.func340 fun E M=>?_
 conv=>cbv
 obtain⟨ag,ah,ae,af,I⟩:=Be (((0:Int):Rat));refine AB M (G4 (by omega) rfl I) ?_;conv=>cbv
 obtain⟨w8,G⟩:=xR (em u (0));refine AB M (Iw h v I ⟨by decide +kernel,by decide +kernel⟩ G) ?_;conv=>cbv
 refine AB (r:= .one (.bool true)) M (G0 v h.Fj G (H.Bh (by omega)) (by rw[H.len,List.length_reverse];exact (decide_eq_true rfl).symm)) ?_;try conv=>cbv
 refine AU ?_;conv=>cbv
 intro S g;have a5:=g.eq;have f12:=g.le;conv=>cbv
 refine .inr ?_;obtain⟨J0,j⟩:=xJ fun vs bl k=>∃(i':Nat) (L i:Int),vs=[.one (.sl (.sl AA) T),.one (.sl (.sl AA) T),.one (.int .i64 L),.one (.int .i64 i)]/\(CT L T.length/\AO i i'/\i'<=T.length)/\k=T.length-i'
 refine⟨[],[0,11,12,13],[],J0,⟨T.length-0,by rw[j];exact⟨0,S,0,rfl,⟨g,Al 0,by omega⟩,rfl⟩⟩,?_⟩;intro vs bl ab hj;rw[j] at hj;obtain⟨i',L,i,rfl,⟨W,hi,a8⟩,aa⟩:=hj;conv=>cbv
 have eL:=W.eq;have ei:=hi.eq;intro U n;conv=>cbv
 cases U <;> conv=>cbv
 ·have P:=AW n;exact AD ⟨t2,trivial⟩
 have P:=AY n;refine .inr ?_;obtain⟨K,f⟩:=AK (l:=T) (i:=i') (by omega);refine⟨K,fun _=>⟨by omega,by rw[show (i).toNat=i' by omega];exact f⟩,?_⟩;try conv=>cbv
 obtain⟨r,F,D⟩:=Ig (u:=u) (i:=i') (by omega);have z:AT (r::pre u i'):=F ▸ (h.pre (i'+1)).red;have O:K=Aa r:=by rw[<-v,f] at D;exact Option.some.inj D
 intro ad a2;conv=>cbv
 refine AH ?_;intro N a1;conv=>cbv
 intro Q w;conv=>cbv
 have m:Q=tw (pre u i'):=by rw[w,List.drop_zero,show N=i' by omega,v,FI]
 obtain⟨V,d⟩:=xI (An (AM (pre u i') r));refine AB (r:= .one (.int .i64 V)) M (aV (h.pre i') m (O.trans (EG z)) (El.Cv (F ▸ h.pre (i'+1))) (by rw[GJ (by omega)];exact Nat.le_trans (I1 (by omega) R R) hs) d) ?_;try conv=>cbv
 intro n23 o;conv=>cbv
 cases n23 <;> conv=>cbv
 ·have J:=HH o;intro n24 a6;conv=>cbv
  refine AI ?_;refine⟨T.length-(i'+1),?_,?_⟩
  ·omega
  rw[j];exact⟨i'+1,L,n24,rfl,⟨W,⟨by omega⟩,by omega⟩,rfl⟩
 have J:=HI o;exact absurd J (by rw[d,F0 z.2.2.1];omega)
theorem g7 {L:List LR} (h:Ae R u) (F:T=tw u) (hs:VV u.length R R<=60000000000000) (M:∀l∈L,∃x,l=em u x/\El u s x) (o:s<=60000000000000:=by omega):CF 285 [.one (.sl (.sl AA) T),.one (.sl (.sl AA) L)] (.one (.bool true)):=by
 refine AJ Tryz.func285 fun E D=>?_
 conv=>cbv
 intro Q n;have S:=n.eq;have f8:=n.le;conv=>cbv
 refine .inr ?_;obtain⟨I,f⟩:=xJ fun vs J k=>∃(i':Nat) (m i:Int),vs=[.one (.sl (.sl AA) T),.one (.sl (.sl AA) L),.one (.int .i64 m),.one (.int .i64 i)]/\(CT m L.length/\AO i i'/\i'<=L.length)/\k=L.length-i'
 refine⟨[],[0,7,8,9],[],I,⟨L.length-0,by rw[f];exact⟨0,Q,0,rfl,⟨n,Al 0,by omega⟩,rfl⟩⟩,?_⟩;intro vs J P G;rw[f] at G;obtain⟨i',m,i,rfl,⟨hm,hi,N⟩,O⟩:=G;conv=>cbv
 have em:=hm.eq;have U:=hi.eq;intro z g;conv=>cbv
 cases z <;> conv=>cbv
 ·have w:=AW g;refine AB D (bn h F hs) ?_;conv=>cbv
  exact AD ⟨t2,trivial⟩
 have w:=AY g;refine .inr ?_;obtain⟨j,d⟩:=AK (l:=L) (i:=i') (by omega);refine⟨j,fun _=>⟨by omega,by rw[show (i).toNat=i' by omega];exact d⟩,?_⟩;try conv=>cbv
 obtain⟨x,v,H⟩:=M j (List.mem_of_getElem? d);refine AB (r:= .one (.bool true)) D (G0 F h.Fj v (H.Bh o) (by rw[H.len,List.length_reverse];exact (decide_eq_true rfl).symm)) ?_;try conv=>cbv
 refine AU ?_;conv=>cbv
 intro n17 K;conv=>cbv
 refine AI ?_;refine⟨L.length-(i'+1),?_,?_⟩
 ·omega
 rw[f];exact⟨i'+1,m,n17,rfl,⟨hm,⟨by omega⟩,by omega⟩,rfl⟩
theorem Jj (h:Ae R u) (g:T=tw u) (d:A=em u x) (j:El u s x) (hs:VV u.length R s<=60000000000000) (hR:VV u.length R R<=60000000000000) (k:c=An x):CF 203 [.one (.sl (.sl AA) T),.one (.sl AA A)] (.one (.int .i64 c)):=by
 have m:=FU u.length R s;refine AJ Tryz.func203 fun E f=>?_
 conv=>cbv
 refine⟨[A],fun _=>⟨rfl,by decide,rfl,⟨rfl,by first | exact t1 | exact t2 | exact t4 | simp[Ao,BA,cells],trivial⟩⟩,.inr ?_⟩;try conv=>cbv
 refine AB f (g7 h g hR (fun l n=>⟨x,(List.mem_singleton.1 n).trans d,j⟩)) ?_;conv=>cbv
 refine AU ?_;conv=>cbv
 refine AB f (aV h g d j hs k) ?_;conv=>cbv
 exact AD ⟨t2,trivial⟩
end Go.Abs
