/- Part 20 of a proof. Conditions: each theorem's own. -/
import Derived.Shelf.Spec.SlicesGrow
import Derived.Test.YtclgfoceefhnkaaGreatDoorLk18
set_option linter.all false
set_option maxHeartbeats 80000000
set_option maxRecDepth 20000
open Go.Proofs
namespace Go.Abs
open Go.RowKit
variable {C X Z:LR} {R i zn:Nat} {T:List LR} {b1 b2:Bool} {l1 l2:List UInt32} {q:Rat} {u:List (List Rat)} {xs:List Rat}
theorem H6 {x:el AA} (f:X=Aj xs) (d:X[i]? =some x):∃q,BE q x.1.1 x.1.2 x.2.1 x.2.2/\xs[i]? =some q/\x=rp q:=by
 rw[f,Aj,List.getElem?_map] at d;cases h:xs[i]? with
 | none=>rw[h] at d;simp at d
 | some q=>
  rw[h] at d;have e:x=rp q:=(Option.some.inj d).symm;exact⟨q,by rw[e];exact Fa q,rfl,e⟩
theorem Vy (h:xs[i]? =some q):Aj (xs.take (i+1))=Aj (xs.take i)++[rp q]:=by
 rw[Ck h,Aj,Aj,List.map_append];rfl
theorem RE {c:Bool} (H:X=Aj xs) (I:c=decide (∀q∈xs,q=0)):CF 204 [.one (.sl AA X)] (.one (.bool c)):=by
 have N:X.length=xs.length:=by rw[H,List.length_map]
 refine AM Tryz.func204 fun E hE=>?_
 conv=>cbv
 refine .inr ?_;obtain⟨L,g⟩:=xJ fun vs M k=>∃(i':Nat) (i:Int),vs=[.one (.sl AA X),.one (.int .i64 i)]/\(AR i i'/\i'<=X.length)/\(∀q∈xs.take i',q=0)/\k=X.length-i'
 refine⟨[],[0,3],[],L,⟨X.length-0,by rw[g];exact⟨0,0,rfl,⟨Ak 0,by omega⟩,by simp,rfl⟩⟩,?_⟩;intro vs M V J;rw[g] at J;obtain⟨i',i,rfl,⟨O,P⟩,hinv,Q⟩:=J;conv=>cbv
 have ei:=O.eq;rintro n6 ⟨e6,f6⟩;conv=>cbv
 intro W G;conv=>cbv
 cases W <;> conv=>cbv
 ·have U:=AY G;exact AD ⟨⟨rfl,congrArg _ (by rw[I,decide_eq_true];intro z d;rw[<-List.take_of_length_le (show xs.length<=i' by omega)] at d;exact hinv z d),trivial⟩,trivial⟩
 have U:=AZ G;refine .inr ?_;obtain⟨n,f⟩:=AL (l:=X) (i:=i') (by omega);refine⟨n,fun _=>⟨by omega,by rw[show (i).toNat=i' by omega];exact f⟩,?_⟩;try conv=>cbv
 obtain⟨q,K,m,S⟩:=H6 H f;rintro w ⟨o,f16⟩;conv=>cbv
 have F:w=((List.length (α:=UInt32) n.1.2:Nat):Int):=o;intro D j;conv=>cbv
 cases D <;> conv=>cbv
 ·have B0:=Bf j;intro n9 h9;conv=>cbv
  refine AI ?_;refine⟨X.length-(i'+1),?_,?_⟩
  ·omega
  rw[g];refine⟨i'+1,n9,rfl,⟨⟨by omega⟩,by omega⟩,?_,rfl⟩;intro z d;rw[Ck m] at d;rcases List.mem_append.1 d with d | d
  ·exact hinv z d
  rw[List.mem_singleton.1 d];exact Rat.num_eq_zero.1 (K.num.Eo.1 (by omega))
 have B0:=Bg j;have v:q≠0:=fun e=>by have:=K.num.Eo.2 (Rat.num_eq_zero.2 e);omega
 exact AD ⟨⟨rfl,congrArg _ (by rw[I,decide_eq_false];exact fun h=>v (h q (List.mem_of_getElem? m))),trivial⟩,trivial⟩
theorem RN {n:Int} (v:X=Aj xs) (O:DU xs) (hn:n=(xs.length:Int)):CF 297 [.one (.sl AA X),.one (.int .i64 n)] (.one (.bool true)):=by
 have I:X.length=xs.length:=by rw[v,List.length_map]
 refine AM Tryz.func297 fun E H=>?_
 conv=>cbv
 refine .inr ?_;obtain⟨z,f⟩:=xJ fun vs D k=>∃(i':Nat) (i:Int),vs=[.one (.sl AA X),.one (.int .i64 n),.one (.int .i64 i)]/\(AR i i'/\i'<=X.length)/\k=X.length-i'
 refine⟨[],[0,1,5],[],z,⟨X.length-0,by rw[f];exact⟨0,0,rfl,⟨Ak 0,by omega⟩,rfl⟩⟩,?_⟩;intro vs D Q w;rw[f] at w;obtain⟨i',i,rfl,⟨J,K⟩,L⟩:=w;conv=>cbv
 have ei:=J.eq;rintro n8 ⟨W,f8⟩;conv=>cbv
 intro V o;conv=>cbv
 cases V <;> conv=>cbv
 ·have P:=AY o;rintro S ⟨F,f19⟩;conv=>cbv
  intro U g;conv=>cbv
  exact AD ⟨⟨rfl,congrArg _ (by rw[g];simp;omega),trivial⟩,trivial⟩
 have P:=AZ o;refine .inr ?_;obtain⟨m,d⟩:=AL (l:=X) (i:=i') (by omega);refine⟨m,fun _=>⟨by omega,by rw[show (i).toNat=i' by omega];exact d⟩,?_⟩;try conv=>cbv
 obtain⟨q,M,N,h⟩:=G4 v O d;refine AB H (Yf M h) ?_;conv=>cbv
 refine BK ?_;conv=>cbv
 intro j G;conv=>cbv
 refine AI ?_;refine⟨X.length-(i'+1),?_,?_⟩
 ·omega
 rw[f];exact⟨i'+1,j,rfl,⟨⟨by omega⟩,by omega⟩,rfl⟩
theorem Q9 (h:Ah R u) (z:T=tw u):CF 296 [.one (.sl (.sl AA) T)] (.one (.bool true)):=by
 have I:T.length=u.length:=by rw[z,Bh]
 have J:=h.ht;refine AM Tryz.func296 fun E H=>?_
 conv=>cbv
 refine .inr ?_;obtain⟨F,f⟩:=xJ fun vs G k=>∃(i':Nat) (i:Int),vs=[.one (.sl (.sl AA) T),.one (.int .i64 i)]/\(AR i i'/\i'<=T.length)/\k=T.length-i'
 refine⟨[],[0,3],[],F,⟨T.length-0,by rw[f];exact⟨0,0,rfl,⟨Ak 0,by omega⟩,rfl⟩⟩,?_⟩;intro vs G O D;rw[f] at D;obtain⟨i',i,rfl,⟨K,L⟩,M⟩:=D;conv=>cbv
 have V:=K.eq;rintro n6 ⟨U,f6⟩;conv=>cbv
 intro Q w;conv=>cbv
 cases Q <;> conv=>cbv
 ·have N:=AY w;exact AD ⟨t2,trivial⟩
 have N:=AZ w;refine .inr ?_;obtain⟨v,d⟩:=AL (l:=T) (i:=i') (by omega);refine⟨v,fun _=>⟨by omega,by rw[show (i).toNat=i' by omega];exact d⟩,?_⟩;try conv=>cbv
 obtain⟨y,n,j⟩:=H5 z d;have o:=JL h.red _ y j;intro P m;conv=>cbv
 refine AH ?_;have g:=(EG (k:=i') m (by omega)).eq;refine AB (r:= .one (.bool true)) H (RN n ((h.tb y (List.mem_reverse.1 (List.mem_of_getElem? j))).B8 h.hR) (by rw[o];exact g)) ?_;try conv=>cbv
 refine BK ?_;conv=>cbv
 refine g2 rfl ?_;intro S W;conv=>cbv
 refine AI ?_;refine⟨T.length-(i'+1),?_,?_⟩
 ·omega
 rw[f];exact⟨i'+1,S,rfl,⟨⟨by omega⟩,by omega⟩,rfl⟩
theorem LI {A:LR} {s:Nat} {x:Re} (h:Ah R u) (m:T=tw u) (o:A=em u x) (n:El u s x) (w:s<=60000000000000:=by omega):CF 230 [.one (.sl (.sl AA) T),.one (.sl AA A)] (.one (.bool true)):=by
 have j:T.length=u.length:=by rw[m,Bh]
 have v:=h.ht;refine AM Tryz.func230 fun E l=>?_
 conv=>cbv
 refine AB l (Q9 h m) ?_;conv=>cbv
 rintro z ⟨f,f10⟩;conv=>cbv
 intro D g;conv=>cbv
 refine AH ?_;have d:=(EG (k:=u.length) g (f.trans (congrArg _ j))).eq;refine AB (r:= .one (.bool true)) l (RN o (n.B8 w) (by rw[n.len];exact d)) ?_;try conv=>cbv
 exact AD ⟨t2,trivial⟩
theorem Qs (h:Ah R u) (hT:T=tw u) (hq:BE q b1 l1 b2 l2) (hC:C=em u (Re.ofRat q)) (N:zn=C.length):CF 205 [.one (.sl (.sl AA) T),.agg (BV b1 l1 b2 l2)] (.one (.own AA C zn)):=by
 have L:T.length=u.length:=by rw[hT,Bh]
 have a1:=h.ht;have V:=Cu h.ht;have a7:=DR u.length;refine AM Tryz.func205 fun E hE=>?_
 conv=>cbv
 refine⟨[((b1,l1),(b2,l2))],fun _=>⟨rfl,by decide,rfl,⟨rfl,by first | exact t1 | exact t2 | exact t4 | simp[Aq,BG,cells],trivial⟩⟩,.inl ?_⟩;try conv=>cbv
 refine .inr ?_;obtain⟨W,D⟩:=xJ fun vs Q k=>∃(o:LR) (mm j:Nat),vs=[.one (.sl (.sl AA) T),.one (.AQ AA 7 0 0 mm)]/\Q=[.arr 0 AA o]/\(mm=o.length/\o.length=j+1/\o.length<=2^u.length)/\o=rp q::List.replicate j (rp 0)/\k=2^u.length-o.length
 refine⟨[],[0,5],[7],W,⟨2^u.length-[rp q].length,by rw[D];exact⟨[rp q],1,0,rfl,by rw[hq.rp];rfl,⟨rfl,rfl,by show 1<=_;omega⟩,rfl,rfl⟩⟩,?_⟩;intro vs Q a8 S;rw[D] at S;obtain⟨o,mm,j,rfl,rfl,⟨G,a5,a6⟩,hinv,a2⟩:=S;conv=>cbv
 intro n9 h9;have e9:=h9.eq;conv=>cbv
 rintro aa ⟨J,f11⟩;conv=>cbv
 intro ab K;conv=>cbv
 refine AH ?_;have U:=(EG (k:=u.length) K (J.trans (congrArg _ L))).eq;intro P F;conv=>cbv
 cases P <;> conv=>cbv
 ·have O:=AY F;have n:C=o:=by rw[hC,em,KG q h.red,hinv,show j=2^u.length-1 by omega,Aj,List.map_cons,List.map_replicate]
  exact AD ⟨⟨rfl,.inr (.inl ⟨_,_,by decide,rfl,rfl,G,rfl,DB (n) (by rw[N,n])⟩),trivial⟩,trivial⟩
 have O:=AZ F;refine .inr ?_;obtain⟨l,m,f,g,w⟩:=Bl (((0:Int):Rat));refine AB hE (D3 (by omega) rfl w) ?_;conv=>cbv
 refine⟨[((l,m),(f,g))],fun _=>⟨rfl,by decide,rfl,⟨rfl,by first | exact t1 | exact t2 | exact t4 | simp[Aq,BG,cells],trivial⟩⟩,.inr ?_⟩;try conv=>cbv
 refine .inl ⟨[((l,m),(f,g))],fun _=>⟨rfl,G,rfl,by show (o.length+1)*64<=140737488355328;(try simp only[List.length_take,List.length_drop]);omega⟩,?_⟩;intro (d:LR) I z;have v:d=(o:LR)++([((l,m),(f,g))]:LR):=z.1;have H:I=List.length (α:=(el AA)) d:=z.2;conv=>cbv
 have M:d.length=o.length+1:=by rw[v];simp
 refine⟨2^u.length-d.length,?_,?_⟩
 ·omega
 rw[D];exact⟨d,I,j+1,rfl,rfl,⟨H,by omega,by omega⟩,by rw[v,hinv,List.replicate_succ',List.cons_append,<-w.rp];rfl,rfl⟩
theorem FO (h:Ah R u) (f:T=tw u) (g:BE q b1 l1 b2 l2) (d:C=em u (Re.ofRat q)):CF 205 [.one (.sl (.sl AA) T),.agg (BV b1 l1 b2 l2)] (.one (.sl AA C)):=Ct (Qs h f g d rfl)
theorem YW (P:X=Aj xs) (hl:xs.length<=1000000) (hZ:Z=Aj (xs.map (- ·))):CF 98 [.one (.sl (.sl AA) T),.one (.sl AA X)] (.one (.sl AA Z)):=by
 have W:X.length=xs.length:=by rw[P,List.length_map]
 refine AM Tryz.func98 fun E V=>?_
 conv=>cbv
 refine .inr ?_;obtain⟨S,v⟩:=xJ fun vs O k=>∃(o:LR) (mm i':Nat) (i:Int),vs=[.one (.sl AA X),.one (.AQ AA 5 0 0 mm),.one (.int .i64 i)]/\O=[.arr 0 AA o]/\(AR i i'/\i'<=X.length/\mm=o.length)/\o=Aj ((xs.map (- ·)).take i')/\k=X.length-i'
 refine⟨[(5,AA,true)],[1,5,6],[5],S,⟨X.length,by rw[v];exact⟨[],0,0,0,rfl,rfl,⟨Ak 0,Nat.zero_le _,rfl⟩,rfl,rfl⟩⟩,?_⟩;intro vs O a7 Q;rw[v] at Q;obtain⟨o,mm,i',i,rfl,rfl,⟨hi,a1,F⟩,hinv,a2⟩:=Q;conv=>cbv
 have ei:=hi.eq;have a5:o.length<=X.length:=by rw[hinv,Aj,List.length_map,List.length_take,List.length_map];omega
 rintro n9 ⟨e9,f9⟩;conv=>cbv
 intro L z;conv=>cbv
 cases L <;> conv=>cbv
 ·have K:=AY z;exact AD ⟨⟨rfl,.inl ⟨_,rfl,by omega,congrArg _ (by rw[hZ,F,hinv,List.drop_zero,List.take_length,List.take_of_length_le (by rw[List.length_map];omega)])⟩,trivial⟩,trivial⟩
 have K:=AZ z;refine .inr ?_;obtain⟨N,j⟩:=AL (l:=X) (i:=i') (by omega);refine⟨N,fun _=>⟨by omega,by rw[show (i).toNat=i' by omega];exact j⟩,?_⟩;try conv=>cbv
 obtain⟨q,hq,I,a6⟩:=H6 P j;have J:(xs.map (- ·))[i']? =some (-q):=by rw[List.getElem?_map,I];rfl
 obtain⟨g,h,d,f,m⟩:=Bl (-q);refine AB V (Yc hq rfl m) ?_;conv=>cbv
 refine⟨[((g,h),(d,f))],fun _=>⟨rfl,by decide,rfl,⟨rfl,by first | exact t1 | exact t2 | exact t4 | simp[Aq,BG,cells],trivial⟩⟩,.inr ?_⟩;try conv=>cbv
 refine .inl ⟨[((g,h),(d,f))],fun _=>⟨rfl,F,rfl,by show (o.length+1)*64<=140737488355328;(try simp only[List.length_take,List.length_drop]);omega⟩,?_⟩;intro (w:LR) H n;have D:w=(o:LR)++([((g,h),(d,f))]:LR):=n.1;have G:H=List.length (α:=(el AA)) w:=n.2;conv=>cbv
 intro M U;conv=>cbv
 refine AI ?_;refine⟨X.length-(i'+1),?_,?_⟩
 ·omega
 rw[v];exact⟨w,H,i'+1,M,rfl,rfl,⟨⟨by omega⟩,by omega,G⟩,by rw[D,hinv,Vy J,<-m.rp],rfl⟩
theorem YD {Y:LR} {ys:List Rat} (hX:X=Aj xs) (hY:Y=Aj ys) (hs:DU xs) (ht:DU ys) (ab:ys.length=xs.length) (hl:xs.length<=1000000) (hZ:Z=Aj (List.zipWith (· + ·) xs ys)) (P:zn=Z.length):CF 115 [.one (.sl (.sl AA) T),.one (.sl AA X),.one (.sl AA Y)] (.one (.own AA Z zn)):=by
 have a5:X.length=xs.length:=by rw[hX,List.length_map]
 have a6:Y.length=ys.length:=by rw[hY,List.length_map]
 refine AM Tryz.func115 fun E hE=>?_
 conv=>cbv
 refine .inr ?_;obtain⟨J0,z⟩:=xJ fun vs bl k=>∃(o:LR) (mm i':Nat) (i:Int),vs=[.one (.sl AA X),.one (.sl AA Y),.one (.AQ AA 7 0 0 mm),.one (.int .i64 i)]/\bl=[.arr 0 AA o]/\(AR i i'/\i'<=X.length/\mm=o.length)/\o=Aj ((List.zipWith (· + ·) xs ys).take i')/\k=X.length-i'
 refine⟨[(7,AA,true)],[1,2,7,8],[7],J0,⟨X.length,by rw[z];exact⟨[],0,0,0,rfl,rfl,⟨Ak 0,Nat.zero_le _,rfl⟩,rfl,rfl⟩⟩,?_⟩;intro vs bl ad hj;rw[z] at hj;obtain⟨o,mm,i',i,rfl,rfl,⟨hi,a7,H⟩,hinv,a8⟩:=hj;conv=>cbv
 have ei:=hi.eq;have aa:o.length<=X.length:=by rw[hinv,Aj,List.length_map,List.length_take,List.length_zipWith];omega
 rintro ae ⟨a1,f11⟩;conv=>cbv
 intro S F;conv=>cbv
 cases S <;> conv=>cbv
 ·have Q:=AY F;have j:Z=o:=by rw[hZ,hinv,List.take_of_length_le (by rw[List.length_zipWith];omega)]
  exact AD ⟨⟨rfl,.inr (.inl ⟨_,_,by decide,rfl,rfl,H,rfl,DB (j) (by rw[P,j])⟩),trivial⟩,trivial⟩
 have Q:=AZ F;refine .inr ?_;obtain⟨V,m⟩:=AL (l:=X) (i:=i') (by omega);refine⟨V,fun _=>⟨by omega,by rw[show (i).toNat=i' by omega];exact m⟩,?_⟩;try conv=>cbv
 obtain⟨W,n⟩:=AL (l:=Y) (i:=i') (by omega);refine⟨W,fun _=>⟨by omega,by rw[show (i).toNat=i' by omega];exact n⟩,?_⟩;try conv=>cbv
 obtain⟨p,hp,K,N⟩:=G4 hX hs m;obtain⟨q,hq,L,O⟩:=G4 hY ht n;have M:(List.zipWith (· + ·) xs ys)[i']? =some (p+q):=by rw[List.getElem?_zipWith,K,L]
 obtain⟨g,h,d,f,v⟩:=Bl (p+q);refine AB hE (YY hp hq N O rfl v) ?_;conv=>cbv
 refine⟨[((g,h),(d,f))],fun _=>⟨rfl,by decide,rfl,⟨rfl,by first | exact t1 | exact t2 | exact t4 | simp[Aq,BG,cells],trivial⟩⟩,.inr ?_⟩;try conv=>cbv
 refine .inl ⟨[((g,h),(d,f))],fun _=>⟨rfl,H,rfl,by show (o.length+1)*64<=140737488355328;(try simp only[List.length_take,List.length_drop]);omega⟩,?_⟩;intro (D:LR) J w;have G:D=(o:LR)++([((g,h),(d,f))]:LR):=w.1;have I:J=List.length (α:=(el AA)) D:=w.2;conv=>cbv
 refine g2 rfl ?_;intro U a2;conv=>cbv
 refine AI ?_;refine⟨X.length-(i'+1),?_,?_⟩
 ·omega
 rw[z];exact⟨D,J,i'+1,U,rfl,rfl,⟨⟨by omega⟩,by omega,I⟩,by rw[G,hinv,Vy M,<-v.rp],rfl⟩
end Go.Abs
namespace Go.Abs
open Go.RowKit
variable {A B C X Y Z:LR} {R s t zn:Nat} {T:List LR} {a b p q x y:Re} {r:List Rat} {u:List (List Rat)}
theorem Gu (h:Ag u) (g:In u x) (f:X=em u x) (d:x=0):CF 204 [.one (.sl AA X)] (.one (.bool true)):=
 RE f (decide_eq_true ((KE h g).2 d)).symm
theorem HO (h:Ag u) (g:In u x) (f:X=em u x) (d:x≠0):CF 204 [.one (.sl AA X)] (.one (.bool false)):=
 RE f (decide_eq_false (fun k=>d ((KE h g).1 k))).symm
theorem RF (h:Ah R u) (j:X=em u x) (k:Y=em u y) (d:El u s x) (f:El u t y) (m:s<=60000000000000) (ht:t<=60000000000000) (l:Z=em u (x+y)) (g:zn=Z.length):
  CF 115 [.one (.sl (.sl AA) T),.one (.sl AA X),.one (.sl AA Y)] (.one (.own AA Z zn)):=
 YD j k (d.B8 m) (f.B8 ht) (by rw[d.len,f.len]) (by rw[d.len];exact Hf h.ht) (by rw[l,TA h.red d.mem f.mem]) g
theorem Hv (h:Ah R u) (d:X=em u x) (f:Y=em u y) (k:El u s x) (l:El u t y) (j:s<=60000000000000) (ht:t<=60000000000000) (g:Z=em u (x+y)):
 CF 115 [.one (.sl (.sl AA) T),.one (.sl AA X),.one (.sl AA Y)] (.one (.sl AA Z)):=Ct (RF h d f k l j ht g rfl)
theorem Ia (h:Ah R u) (f:X=em u x) (d:El u s x) (g:Z=em u (-x)):
  CF 98 [.one (.sl (.sl AA) T),.one (.sl AA X)] (.one (.sl AA Z)):=
 YW f (by rw[d.len];exact Hf h.ht) (by rw[g,TC h.red d.mem])
theorem LO (h:Ah R u) (k:X=em u x) (l:Y=em u y) (o:El u s x) (j:El u t y) (n:s<=60000000000000) (ht:t<=60000000000000) (m:Z=em u (x-y)):CF 315 [.one (.sl (.sl AA) T),.one (.sl AA X),.one (.sl AA Y)] (.one (.sl AA Z)):=by
 refine AM Tryz.func315 fun E g=>?_
 conv=>cbv
 obtain⟨v,d⟩:=xR (em u (-y));refine AB g (Ia h l j d) ?_;conv=>cbv
 obtain⟨w,f⟩:=xR (em u (x+ -y));refine AB g (Hv h k d o (j.neg h.red) n ht f) ?_;conv=>cbv
 exact AD ⟨⟨rfl,congrArg _ (by rw[m,f,show x-y=x+ -y by grind]),trivial⟩,trivial⟩
theorem Y3 {p q:Rat} (M:T=[]) (G:A=[rp p]) (H:B=[rp q]) (P:Bt p) (ht:Bt q) (I:C=[rp (p*q)]) (w:zn=C.length):CF 105 [.one (.sl (.sl AA) T),.one (.sl AA A),.one (.sl AA B)] (.one (.own AA C zn)):=by
 refine AM Tryz.func105 fun E L=>?_
 conv=>cbv
 rintro Q ⟨v,f14⟩;conv=>cbv
 intro z h;conv=>cbv
 cases z <;> conv=>cbv
 ·have j:=AN h;exact absurd (by rw[v,M];rfl) j
 have j:=AO h;have J:A.length=1:=by rw[G];rfl
 have K:B.length=1:=by rw[H];rfl
 obtain⟨D,d⟩:=AL (l:=A) (i:=0) (by omega);refine⟨D,fun _=>⟨by omega,d⟩,?_⟩;try conv=>cbv
 obtain⟨F,f⟩:=AL (l:=B) (i:=0) (by omega);refine⟨F,fun _=>⟨by omega,f⟩,?_⟩;try conv=>cbv
 have N:=ED G d;have O:=ED H f;obtain⟨n,o,k,m,g⟩:=Bl (p*q);refine AB L (Q0 N O P ht rfl g) ?_;conv=>cbv
 refine⟨[((n,o),(k,m))],fun _=>⟨rfl,by decide,rfl,⟨rfl,by first | exact t1 | exact t2 | exact t4 | simp[Aq,BG,cells],trivial⟩⟩,.inl ?_⟩;try conv=>cbv
 refine g2 rfl ?_;exact AD ⟨⟨rfl,.inr (.inl ⟨_,_,by decide,rfl,rfl,rfl,rfl,DB (by rw[I,g.rp]) (by rw[w,I];rfl)⟩),trivial⟩,trivial⟩
def Js (R:Nat) (u:List (List Rat)):Prop:=∀{T:List LR} {A B C:LR} {zn s t:Nat} {x y:Re},T=tw u->A=em u x->B=em u y->El u s x->El u t y->s+t+EE u.length R<=60000000000000->C=em u (x*y)->zn=C.length->
 CF 105 [.one (.sl (.sl AA) T),.one (.sl AA A),.one (.sl AA B)] (.one (.own AA C zn))
theorem Y7 (h:Ah R (r::u)) (ih:Js R u) (hT:T=tw (r::u)) (hA:A=em (r::u) x) (hB:B=em (r::u) y) (hx:El (r::u) s x) (hy:El (r::u) t y) (aX:s+t+EE (r::u).length R<=60000000000000) (G:x=p+q*rt u r) (hp:El u s p) (hq:El u s q) (H:y=a+b*rt u r) (L:El u t a) (hb:El u t b) (h0:q=0) (h1:b=0) (hC:C=em (r::u) (x*y)) (ae:zn=C.length):CF 105 [.one (.sl (.sl AA) T),.one (.sl AA A),.one (.sl AA B)] (.one (.own AA C zn)):=by
 have aT:EE (r::u).length R=2*EE u.length R+R+2:=rfl;have aV:=El.Cj h;have hR:=h.hR;have aW:=CX h.red;have aU:T.length=u.length+1:=by rw[hT,Bh];rfl
 have aR:A.length=2^u.length+2^u.length:=by rw[hA,BI hx.mem,Br]
 have aS:B.length=2^u.length+2^u.length:=by rw[hB,BI hy.mem,Br]
 refine AM Tryz.func105 fun E K=>?_
 conv=>cbv
 rintro b5 ⟨aK,f14⟩;conv=>cbv
 intro ak J;conv=>cbv
 cases ak <;> conv=>cbv
 ·have a6:=AN J;rintro b6 ⟨aL,f25⟩;conv=>cbv
  intro b7 aO;conv=>cbv
  refine g2 ⟨by omega,by omega,i64 (by omega)⟩ ?_;rintro b8 ⟨aM,f29⟩;conv=>cbv
  intro b9 aP;conv=>cbv
  refine AI ?_;intro aY az;conv=>cbv
  refine AH ?_;intro aa au;conv=>cbv
  intro af O;conv=>cbv
  rintro ba ⟨aN,f34⟩;conv=>cbv
  intro al aQ;conv=>cbv
  refine AI ?_;obtain⟨ao,a5⟩:=AL (l:=T) (i:=(T.length-1)) (by omega);refine⟨ao,fun _=>⟨by omega,by rw[show (al).toNat=(T.length-1) by omega];exact a5⟩,?_⟩;try conv=>cbv
  refine g2 rfl ?_;intro aZ W;conv=>cbv
  refine AH ?_;rintro a7 aI ⟨aq,M⟩;conv=>cbv
  intro ag P;conv=>cbv
  have w:ag=em u q:=by rw[P,show a7=A.length/2 by omega,M,W,List.take_length,hA,B6 h.red hp.mem hq.mem G]
  refine AB K (Gu h.tail.red hq.mem w h0) ?_;conv=>cbv
  intro b0 a1;conv=>cbv
  refine AH ?_;rintro a8 aJ ⟨ar,N⟩;conv=>cbv
  intro ah Q;conv=>cbv
  have z:ah=em u b:=by rw[Q,show a8=B.length/2 by omega,N,a1,List.take_length,hB,B6 h.red L.mem hb.mem H]
  refine AB K (Gu h.tail.red hb.mem z h1) ?_;conv=>cbv
  refine g2 rfl ?_;intro b3 aA;conv=>cbv
  refine AH ?_;intro ab av;conv=>cbv
  intro ai S;conv=>cbv
  intro b4 aB;conv=>cbv
  refine AH ?_;intro ad aw;conv=>cbv
  intro aj U;conv=>cbv
  have d:af=tw u:=by rw[O,List.drop_zero,show aa=T.length-1 by omega,hT,DD]
  have D:ai=em u p:=by rw[S,List.drop_zero,show ab=A.length/2 by omega,hA,CE h.red hp.mem hq.mem G]
  have F:aj=em u a:=by rw[U,List.drop_zero,show ad=B.length/2 by omega,hB,CE h.red L.mem hb.mem H]
  obtain⟨m,f⟩:=xR (em u (p*a));obtain⟨aD,g⟩:=xN m.length;refine AB K (ih d D F hp L (by omega) f g) ?_;conv=>cbv
  refine g2 rfl ?_;obtain⟨aG,aH,aE,aF,o⟩:=Bl (((0:Int):Rat));refine AB K (D3 (by omega) rfl o) ?_;conv=>cbv
  obtain⟨k,j⟩:=xR (em u (0));refine AB (r:= .one (.sl AA k)) K (FO h.tail d o (by rw[show Re.ofRat ((0:Int):Rat)=0 from rfl];exact j)) ?_;try conv=>cbv
  have ax:m.length=2^u.length:=by rw[f,BI (hp.mul h.tail L).mem]
  have aC:=Cu h.tail.ht;have ay:k.length=2^u.length:=by rw[j,BI (CH u)]
  refine .inl ⟨k,fun _=>⟨rfl,g,rfl,by show (m.length+k.length)*64<=140737488355328;(try simp only[List.length_take,List.length_drop]);omega⟩,?_⟩;intro (I:LR) an v;have V:I=(m:LR)++(k:LR):=v.1;have a2:an=List.length (α:=(el AA)) I:=v.2;conv=>cbv
  have n:C=I:=by rw[hC,V,f,j];exact EN h.red (hp.mul h.tail L).mem (CH u) (by rw[G,H,h0,h1];clear ih;grind)
  exact AD ⟨⟨rfl,.inr (.inl ⟨_,_,by decide,rfl,rfl,a2,rfl,DB (n) (by rw[ae,n])⟩),trivial⟩,trivial⟩
 have a6:=AO J;exact absurd a6 (by omega)
theorem Y6 (h:Ah R (r::u)) (ih:Js R u) (hT:T=tw (r::u)) (hA:A=em (r::u) x) (hB:B=em (r::u) y) (hx:El (r::u) s x) (hy:El (r::u) t y) (b9:s+t+EE (r::u).length R<=60000000000000) (m:x=p+q*rt u r) (k:El u s p) (hq:El u s q) (n:y=a+b*rt u r) (M:El u t a) (D:El u t b) (h0:q=0) (h1:b≠0) (hC:C=em (r::u) (x*y)) (an:zn=C.length):CF 105 [.one (.sl (.sl AA) T),.one (.sl AA A),.one (.sl AA B)] (.one (.own AA C zn)):=by
 have b5:EE (r::u).length R=2*EE u.length R+R+2:=rfl;have b7:=El.Cj h;have hR:=h.hR;have b8:=CX h.red;have b6:T.length=u.length+1:=by rw[hT,Bh];rfl
 have b3:A.length=2^u.length+2^u.length:=by rw[hA,BI hx.mem,Br]
 have b4:B.length=2^u.length+2^u.length:=by rw[hB,BI hy.mem,Br]
 refine AM Tryz.func105 fun E hE=>?_
 conv=>cbv
 rintro bj ⟨aU,f14⟩;conv=>cbv
 intro ay N;conv=>cbv
 cases ay <;> conv=>cbv
 ·have ae:=AN N;rintro bk ⟨aV,f25⟩;conv=>cbv
  intro bl aY;conv=>cbv
  refine g2 ⟨by omega,by omega,i64 (by omega)⟩ ?_;rintro bm ⟨aW,f29⟩;conv=>cbv
  intro bn aZ;conv=>cbv
  refine AI ?_;intro ba aL;conv=>cbv
  refine AH ?_;intro ai aF;conv=>cbv
  intro ao S;conv=>cbv
  rintro bo ⟨aX,f34⟩;conv=>cbv
  intro az b0;conv=>cbv
  refine AI ?_;obtain⟨aB,ad⟩:=AL (l:=T) (i:=(T.length-1)) (by omega);refine⟨aB,fun _=>⟨by omega,by rw[show (az).toNat=(T.length-1) by omega];exact ad⟩,?_⟩;try conv=>cbv
  refine g2 rfl ?_;intro bb a7;conv=>cbv
  refine AH ?_;rintro af aR ⟨aC,O⟩;conv=>cbv
  intro aq U;conv=>cbv
  have F:aq=em u q:=by rw[U,show af=A.length/2 by omega,O,a7,List.take_length,hA,B6 h.red k.mem hq.mem m]
  refine AB hE (Gu h.tail.red hq.mem F h0) ?_;conv=>cbv
  intro bc a8;conv=>cbv
  refine AH ?_;rintro ag aS ⟨aD,P⟩;conv=>cbv
  intro ar V;conv=>cbv
  have G:ar=em u b:=by rw[V,show ag=B.length/2 by omega,P,a8,List.take_length,hB,B6 h.red M.mem D.mem n]
  refine AB hE (HO h.tail.red D.mem G h1) ?_;conv=>cbv
  refine g2 rfl ?_;intro bd aM;conv=>cbv
  refine AH ?_;intro aj aG;conv=>cbv
  intro au W;conv=>cbv
  intro bf aN;conv=>cbv
  refine AH ?_;intro ak aH;conv=>cbv
  intro av a1;conv=>cbv
  have d:ao=tw u:=by rw[S,List.drop_zero,show ai=T.length-1 by omega,hT,DD]
  have H:au=em u p:=by rw[W,List.drop_zero,show aj=A.length/2 by omega,hA,CE h.red k.mem hq.mem m]
  have I:av=em u a:=by rw[a1,List.drop_zero,show ak=B.length/2 by omega,hB,CE h.red M.mem D.mem n]
  obtain⟨o,f⟩:=xR (em u (p*a));obtain⟨aQ,g⟩:=xN o.length;refine AB hE (ih d H I k M (by omega) f g) ?_;conv=>cbv
  refine g2 rfl ?_;intro bg aO;conv=>cbv
  refine AH ?_;intro al aI;conv=>cbv
  intro aw a2;conv=>cbv
  intro bh aa;conv=>cbv
  refine AH ?_;rintro ah aT ⟨aE,Q⟩;conv=>cbv
  intro ax a5;conv=>cbv
  have J:aw=em u p:=by rw[a2,List.drop_zero,show al=A.length/2 by omega,hA,CE h.red k.mem hq.mem m]
  have K:ax=em u b:=by rw[a5,show ah=B.length/2 by omega,Q,aa,List.take_length,hB,B6 h.red M.mem D.mem n]
  obtain⟨v,j⟩:=xR (em u (p*b));refine AB hE (Ct (ih d J K k D (by omega) j rfl)) ?_;conv=>cbv
  have aJ:o.length=2^u.length:=by rw[f,BI (k.mul h.tail M).mem]
  have aP:=Cu h.tail.ht;have aK:v.length=2^u.length:=by rw[j,BI (k.mul h.tail D).mem]
  refine .inl ⟨v,fun _=>⟨rfl,g,rfl,by show (o.length+v.length)*64<=140737488355328;(try simp only[List.length_take,List.length_drop]);omega⟩,?_⟩;intro (L:LR) aA z;have a6:L=(o:LR)++(v:LR):=z.1;have ab:aA=List.length (α:=(el AA)) L:=z.2;conv=>cbv
  refine g2 rfl ?_;have w:C=L:=by rw[hC,a6,f,j];exact EN h.red (k.mul h.tail M).mem (k.mul h.tail D).mem (by rw[m,n,h0];clear ih;grind)
  exact AD ⟨⟨rfl,.inr (.inl ⟨_,_,by decide,rfl,rfl,ab,rfl,DB (w) (by rw[an,w])⟩),trivial⟩,trivial⟩
 have ae:=AO N;exact absurd ae (by omega)
theorem Y5 (h:Ah R (r::u)) (ih:Js R u) (hT:T=tw (r::u)) (hA:A=em (r::u) x) (hB:B=em (r::u) y) (hx:El (r::u) s x) (hy:El (r::u) t y) (b9:s+t+EE (r::u).length R<=60000000000000) (m:x=p+q*rt u r) (M:El u s p) (K:El u s q) (n:y=a+b*rt u r) (k:El u t a) (hb:El u t b) (h0:q≠0) (h1:b=0) (hC:C=em (r::u) (x*y)) (an:zn=C.length):CF 105 [.one (.sl (.sl AA) T),.one (.sl AA A),.one (.sl AA B)] (.one (.own AA C zn)):=by
 have b5:EE (r::u).length R=2*EE u.length R+R+2:=rfl;have b7:=El.Cj h;have hR:=h.hR;have b8:=CX h.red;have b6:T.length=u.length+1:=by rw[hT,Bh];rfl
 have b3:A.length=2^u.length+2^u.length:=by rw[hA,BI hx.mem,Br]
 have b4:B.length=2^u.length+2^u.length:=by rw[hB,BI hy.mem,Br]
 refine AM Tryz.func105 fun E hE=>?_
 conv=>cbv
 rintro bj ⟨aU,f14⟩;conv=>cbv
 intro ay N;conv=>cbv
 cases ay <;> conv=>cbv
 ·have ae:=AN N;rintro bk ⟨aV,f25⟩;conv=>cbv
  intro bl aY;conv=>cbv
  refine g2 ⟨by omega,by omega,i64 (by omega)⟩ ?_;rintro bm ⟨aW,f29⟩;conv=>cbv
  intro bn aZ;conv=>cbv
  refine AI ?_;intro ba aL;conv=>cbv
  refine AH ?_;intro ai aF;conv=>cbv
  intro ao S;conv=>cbv
  rintro bo ⟨aX,f34⟩;conv=>cbv
  intro az b0;conv=>cbv
  refine AI ?_;obtain⟨aB,ad⟩:=AL (l:=T) (i:=(T.length-1)) (by omega);refine⟨aB,fun _=>⟨by omega,by rw[show (az).toNat=(T.length-1) by omega];exact ad⟩,?_⟩;try conv=>cbv
  refine g2 rfl ?_;intro bb a7;conv=>cbv
  refine AH ?_;rintro af aR ⟨aC,O⟩;conv=>cbv
  intro aq U;conv=>cbv
  have D:aq=em u q:=by rw[U,show af=A.length/2 by omega,O,a7,List.take_length,hA,B6 h.red M.mem K.mem m]
  refine AB hE (HO h.tail.red K.mem D h0) ?_;conv=>cbv
  intro bc a8;conv=>cbv
  refine AH ?_;rintro ag aS ⟨aD,P⟩;conv=>cbv
  intro ar V;conv=>cbv
  have F:ar=em u b:=by rw[V,show ag=B.length/2 by omega,P,a8,List.take_length,hB,B6 h.red k.mem hb.mem n]
  refine AB hE (Gu h.tail.red hb.mem F h1) ?_;conv=>cbv
  refine g2 rfl ?_;intro bd aM;conv=>cbv
  refine AH ?_;intro aj aG;conv=>cbv
  intro au W;conv=>cbv
  intro bf aN;conv=>cbv
  refine AH ?_;intro ak aH;conv=>cbv
  intro av a1;conv=>cbv
  have d:ao=tw u:=by rw[S,List.drop_zero,show ai=T.length-1 by omega,hT,DD]
  have G:au=em u p:=by rw[W,List.drop_zero,show aj=A.length/2 by omega,hA,CE h.red M.mem K.mem m]
  have H:av=em u a:=by rw[a1,List.drop_zero,show ak=B.length/2 by omega,hB,CE h.red k.mem hb.mem n]
  obtain⟨o,f⟩:=xR (em u (p*a));obtain⟨aQ,g⟩:=xN o.length;refine AB hE (ih d G H M k (by omega) f g) ?_;conv=>cbv
  refine g2 rfl ?_;intro bg aa;conv=>cbv
  refine AH ?_;rintro ah aT ⟨aE,Q⟩;conv=>cbv
  intro aw a2;conv=>cbv
  intro bh aO;conv=>cbv
  refine AH ?_;intro al aI;conv=>cbv
  intro ax a5;conv=>cbv
  have I:aw=em u q:=by rw[a2,show ah=A.length/2 by omega,Q,aa,List.take_length,hA,B6 h.red M.mem K.mem m]
  have J:ax=em u a:=by rw[a5,List.drop_zero,show al=B.length/2 by omega,hB,CE h.red k.mem hb.mem n]
  obtain⟨v,j⟩:=xR (em u (q*a));refine AB hE (Ct (ih d I J K k (by omega) j rfl)) ?_;conv=>cbv
  have aJ:o.length=2^u.length:=by rw[f,BI (M.mul h.tail k).mem]
  have aP:=Cu h.tail.ht;have aK:v.length=2^u.length:=by rw[j,BI (K.mul h.tail k).mem]
  refine .inl ⟨v,fun _=>⟨rfl,g,rfl,by show (o.length+v.length)*64<=140737488355328;(try simp only[List.length_take,List.length_drop]);omega⟩,?_⟩;intro (L:LR) aA z;have a6:L=(o:LR)++(v:LR):=z.1;have ab:aA=List.length (α:=(el AA)) L:=z.2;conv=>cbv
  refine g2 rfl ?_;have w:C=L:=by rw[hC,a6,f,j];exact EN h.red (M.mul h.tail k).mem (K.mul h.tail k).mem (by rw[m,n,h1];clear ih;grind)
  exact AD ⟨⟨rfl,.inr (.inl ⟨_,_,by decide,rfl,rfl,ab,rfl,DB (w) (by rw[an,w])⟩),trivial⟩,trivial⟩
 have ae:=AO N;exact absurd ae (by omega)
theorem Y4 (h:Ah R (r::u)) (ih:Js R u) (hT:T=tw (r::u)) (hA:A=em (r::u) x) (hB:B=em (r::u) y) (hx:El (r::u) s x) (hy:El (r::u) t y) (bV:s+t+EE (r::u).length R<=60000000000000) (o:x=p+q*rt u r) (n:El u s p) (g:El u s q) (v:y=a+b*rt u r) (m:El u t a) (f:El u t b) (h0:q≠0) (h1:b≠0) (hC:C=em (r::u) (x*y)) (b6:zn=C.length):CF 105 [.one (.sl (.sl AA) T),.one (.sl AA A),.one (.sl AA B)] (.one (.own AA C zn)):=by
 have bS:EE (r::u).length R=2*EE u.length R+R+2:=rfl;have O:=El.Cj h;have hR:=h.hR;have bU:=CX h.red;have bT:T.length=u.length+1:=by rw[hT,Bh];rfl
 have bQ:A.length=2^u.length+2^u.length:=by rw[hA,BI hx.mem,Br]
 have bR:B.length=2^u.length+2^u.length:=by rw[hB,BI hy.mem,Br]
 refine AM Tryz.func105 fun E J=>?_
 conv=>cbv
 rintro c3 ⟨bJ,f14⟩;conv=>cbv
 intro bf ar;conv=>cbv
 cases bf <;> conv=>cbv
 ·have aJ:=AN ar;rintro c4 ⟨bK,f25⟩;conv=>cbv
  intro c5 bN;conv=>cbv
  refine g2 ⟨by omega,by omega,i64 (by omega)⟩ ?_;rintro c6 ⟨bL,f29⟩;conv=>cbv
  intro c7 bO;conv=>cbv
  refine AI ?_;intro bW bs;conv=>cbv
  refine AH ?_;intro aU bo;conv=>cbv
  intro b7 ay;conv=>cbv
  rintro c8 ⟨bM,f34⟩;conv=>cbv
  intro bg bP;conv=>cbv
  refine AI ?_;obtain⟨aP,G⟩:=AL (l:=T) (i:=(T.length-1)) (by omega);refine⟨aP,fun _=>⟨by omega,by rw[show (bg).toNat=(T.length-1) by omega];exact G⟩,?_⟩;try conv=>cbv
  refine g2 rfl ?_;intro bX aF;conv=>cbv
  refine AH ?_;rintro aQ bF ⟨bk,au⟩;conv=>cbv
  intro b8 az;conv=>cbv
  have aa:b8=em u q:=by rw[az,show aQ=A.length/2 by omega,au,aF,List.take_length,hA,B6 h.red n.mem g.mem o]
  refine AB J (HO h.tail.red g.mem aa h0) ?_;conv=>cbv
  intro bY aG;conv=>cbv
  refine AH ?_;rintro aR bG ⟨bl,av⟩;conv=>cbv
  intro b9 aA;conv=>cbv
  have ab:b9=em u b:=by rw[aA,show aR=B.length/2 by omega,av,aG,List.take_length,hB,B6 h.red m.mem f.mem v]
  refine AB J (HO h.tail.red f.mem ab h1) ?_;conv=>cbv
  refine g2 rfl ?_;intro bZ bt;conv=>cbv
  refine AH ?_;intro aV bp;conv=>cbv
  intro ba aB;conv=>cbv
  intro c0 bu;conv=>cbv
  refine AH ?_;intro aW bq;conv=>cbv
  intro bb aC;conv=>cbv
  have d:b7=tw u:=by rw[ay,List.drop_zero,show aU=T.length-1 by omega,hT,DD]
  have ad:ba=em u p:=by rw[aB,List.drop_zero,show aV=A.length/2 by omega,hA,CE h.red n.mem g.mem o]
  have ae:bb=em u a:=by rw[aC,List.drop_zero,show aW=B.length/2 by omega,hB,CE h.red m.mem f.mem v]
  obtain⟨c9,S⟩:=xR (em u (p*a));refine AB J (Ct (ih d ad ae n m (by omega) S rfl)) ?_;conv=>cbv
  refine g2 rfl ?_;intro c1 aH;conv=>cbv
  refine AH ?_;rintro aS bH ⟨bm,aw⟩;conv=>cbv
  intro bc aD;conv=>cbv
  intro c2 aI;conv=>cbv
  refine AH ?_;rintro aT bI ⟨bn,ax⟩;conv=>cbv
  intro bd aE;conv=>cbv
  have af:bc=em u q:=by rw[aD,show aS=A.length/2 by omega,aw,aH,List.take_length,hA,B6 h.red n.mem g.mem o]
  have ag:bd=em u b:=by rw[aE,show aT=B.length/2 by omega,ax,aI,List.take_length,hB,B6 h.red m.mem f.mem v]
  obtain⟨ca,U⟩:=xR (em u (q*b));refine AB J (Ct (ih d af ag g f (by omega) U rfl)) ?_;conv=>cbv
  have ak:aP=em u (AP u r):=by rw[hT,Ed] at G;exact (Option.some.inj G).symm.trans (Dw h.red)
  obtain⟨cb,V⟩:=xR (em u (q*b*AP u r));refine AB J (Ct (ih d U ak (g.mul h.tail f) O (by omega) V rfl)) ?_;conv=>cbv
  obtain⟨P,D⟩:=xR (em u (p*a+q*b*AP u r));obtain⟨bE,F⟩:=xN P.length;refine AB J (RF h.tail S V (n.mul h.tail m) ((g.mul h.tail f).mul h.tail O) (by omega) (by omega) D F) ?_;conv=>cbv
  refine g2 rfl ?_;intro bx b4;conv=>cbv
  refine AH ?_;intro ao aZ;conv=>cbv
  intro aK a2;conv=>cbv
  intro bz ah;conv=>cbv
  refine AH ?_;rintro al bh ⟨aX,W⟩;conv=>cbv
  intro aL a5;conv=>cbv
  have K:aK=em u p:=by rw[a2,List.drop_zero,show ao=A.length/2 by omega,hA,CE h.red n.mem g.mem o]
  have L:aL=em u b:=by rw[a5,show al=B.length/2 by omega,W,ah,List.take_length,hB,B6 h.red m.mem f.mem v]
  obtain⟨bC,w⟩:=xR (em u (p*b));refine AB J (Ct (ih d K L n f (by omega) w rfl)) ?_;conv=>cbv
  intro bA ai;conv=>cbv
  refine AH ?_;rintro an bj ⟨aY,a1⟩;conv=>cbv
  intro aM a6;conv=>cbv
  intro bB b5;conv=>cbv
  refine AH ?_;intro aq b0;conv=>cbv
  intro aN a7;conv=>cbv
  have M:aM=em u q:=by rw[a6,show an=A.length/2 by omega,a1,ai,List.take_length,hA,B6 h.red n.mem g.mem o]
  have N:aN=em u a:=by rw[a7,List.drop_zero,show aq=B.length/2 by omega,hB,CE h.red m.mem f.mem v]
  obtain⟨bD,z⟩:=xR (em u (q*a));refine AB J (Ct (ih d M N g m (by omega) z rfl)) ?_;conv=>cbv
  obtain⟨k,j⟩:=xR (em u (p*b+q*a));refine AB J (Hv h.tail w z (n.mul h.tail f) (g.mul h.tail m) (by omega) (by omega) j) ?_;conv=>cbv
  have br:P.length=2^u.length:=by rw[D,BI (C0 (n.mul h.tail m).mem ((g.mul h.tail f).mul h.tail O).mem)]
  have b3:k.length=2^u.length:=by rw[j,BI (C0 (n.mul h.tail f).mem (g.mul h.tail m).mem)]
  have bw:=Cu h.tail.ht;refine .inl ⟨k,fun _=>⟨rfl,F,rfl,by show (P.length+k.length)*64<=140737488355328;(try simp only[List.length_take,List.length_drop]);omega⟩,?_⟩;intro (H:LR) aO I;have a8:H=(P:LR)++(k:LR):=I.1;have aj:aO=List.length (α:=(el AA)) H:=I.2;conv=>cbv
  refine g2 rfl ?_;have Q:C=H:=by rw[hC,a8,D,j];exact EN h.red (C0 (n.mul h.tail m).mem ((g.mul h.tail f).mul h.tail O).mem) (C0 (n.mul h.tail f).mem (g.mul h.tail m).mem) (by rw[o,v];clear ih;grind)
  exact AD ⟨⟨rfl,.inr (.inl ⟨_,_,by decide,rfl,rfl,aj,rfl,DB (Q) (by rw[b6,Q])⟩),trivial⟩,trivial⟩
 have aJ:=AO ar;exact absurd aJ (by omega)
theorem XO (h:Ah R u):Js R u:=by
 induction u with
 | nil=>
  intro T A B C zn s t x y z m n k l f o d;obtain⟨p,rfl⟩:=CV.1 k.mem;obtain⟨q,rfl⟩:=CV.1 l.mem;rw[Dl] at m n;rw[<-Re.ofRat_mul,Dl] at o;have v:=k.B8 (by omega);have w:=l.B8 (by omega);rw[DY] at v w;exact Y3 z m n (v _ List.mem_cons_self) (w _ List.mem_cons_self) o d
 | cons r u I=>
  intro T A B C zn s t x y z m n k l f o d;obtain⟨p,q,g,v,w⟩:=El.parts h.red k;obtain⟨a,b,j,G,H⟩:=El.parts h.red l
  by_cases F:q=0
  ·by_cases D:b=0
   ·exact Y7 h (I h.tail) z m n k l f g v w j G H F D o d
   exact Y6 h (I h.tail) z m n k l f g v w j G H F D o d
  by_cases D:b=0
  ·exact Y5 h (I h.tail) z m n k l f g v w j G H F D o d
  exact Y4 h (I h.tail) z m n k l f g v w j G H F D o d
theorem DW (h:Ah R u) (k:T=tw u) (f:A=em u x) (g:B=em u y) (l:El u s x) (m:El u t y) (d:s+t+EE u.length R<=60000000000000) (j:C=em u (x*y)):
 CF 105 [.one (.sl (.sl AA) T),.one (.sl AA A),.one (.sl AA B)] (.one (.sl AA C)):=Ct (XO h k f g l m d j rfl)
end Go.Abs
namespace Go.Abs
open Go.RowKit Go.Shelf Go.Proofs
def MA:Ren:=⟨fun k=>if k=4 then 395 else 0,fun k=>if k=3 then 3 else if k=4 then 4 else if k=9 then 9 else if k=20 then 20 else if k=22 then 26 else if k=25 then 79 else 0,fun k=>k⟩
theorem bM:Lays8.n4 Tryz.prog MA where
 mixed:=I9
 f4:=⟨Tryz.f395.name,by kernel_rfl,by kernel_rfl⟩
 t0:=by kernel_rfl
 a0:=by intro w;kernel_rfl
 z0:=by intro w;kernel_rfl
 v0:=by intro w;kernel_rfl
 t3:=by kernel_rfl
 a3:=by intro w;kernel_rfl
 z3:=by intro w;kernel_rfl
 v3:=by intro w;kernel_rfl
 t4:=by kernel_rfl
 a4:=by intro w;kernel_rfl
 z4:=by intro w;kernel_rfl
 v4:=by intro w;kernel_rfl
 t9:=by kernel_rfl
 a9:=by intro w;kernel_rfl
 z9:=by intro w;kernel_rfl
 v9:=by intro w;kernel_rfl
 t20:=by kernel_rfl
 a20:=by intro w;kernel_rfl
 z20:=by intro w;kernel_rfl
 v20:=by intro w;kernel_rfl
 t22:=by kernel_rfl
 a22:=by intro w;kernel_rfl
 z22:=by intro w;kernel_rfl
 v22:=by intro w;kernel_rfl
theorem Xj {n:Int} {k:Nat} (N:AR n k) (M:0<k) (S:k<=1000000:=by omega):CF 395 [.one .nil,.one (.int .i64 n)] (.one (.own AA [] 0)):=by
 refine⟨⟨_,_,Tryz.func395,by kernel_rfl,rfl⟩,⟨rfl,rfl⟩,?_⟩;intro w I vs Q _ g
 match vs,g with
 | [v1,v2],⟨D,F,_⟩=>
  have e1:v1= .slice none 0 0:=by rcases D with h | h;cases h;exact h
  have v:v2= .int .i64 k:=by rcases F with h | h;cases h;rw[<-N.eq];exact h
  subst e1;subst v;obtain⟨_,i0,z,f,O,H,_,j,m⟩:=(Ky 26).sl rfl
  have l:z.cells.size=4:=by
   have:=(m (Cb w I)).length;rw[FU] at this;have e:(TI 26).elem.size=4:=rfl;rw[e] at this;simpa using this.symm
  have d:i0.bytes=64:=H;have P:i0.size=4:=O;have J:=Any8.slices_Grow_grow bM i0 z f j (by omega) none 0 0 k [] w (by omega) (by omega) (by rw[d];omega) (by omega) (by simp) (fun _=>rfl) (fun a h=>by cases h);refine J.mono fun e w' ⟨he,hw⟩=>?_
  have K:=grownCap_ge w (0+k) 0 (MA.t 25);have hle:=grownCap_le_maxLen w (0+k) 0 (MA.t 25) (by unfold maxLen;omega)
  generalize grownCap w (0+k) 0 (MA.t 25)=G at*
  subst hw
  have L:∀o:Obj,(w.drew.alloc o).heap[w.heap.size]? =some o:=fun o=>by
   show (w.heap.push o)[w.heap.size]? =_
   rw[Array.getElem?_push,if_pos rfl]
  refine⟨_,some w.heap.size,he,((Below.refl _ _).drew).alloc (Nat.le_refl _) _,.inr ⟨rfl,_,_,rfl,Nat.zero_le _,hle,Nat.zero_le _,.inr ⟨_,_,_,rfl,Nat.le_refl _,rfl,L _,?_,fun i y h=>by simp at h⟩⟩⟩
  show G*4<=_
  simp[size_zeroCells,l];omega
end Go.Abs
namespace Go.Abs
open Go.RowKit
variable {Z x:LR} {zn:Nat}
theorem TP {X:List LR} {i:Nat} (h:X[i]? =some x):(X.take (i+1)).flatten=(X.take i).flatten++x:=by
 rw[Ck h,List.flatten_append];simp
theorem TO {X:List LR} {i m:Nat} (h:X[i]? =some x) (hm:m=(X.take i).flatten.length):m+x.length=(X.take (i+1)).flatten.length:=by
 rw[TP h,List.length_append,hm]
theorem TN (X:List LR) (i:Nat):(X.take i).flatten.length<=X.flatten.length:=by
 conv=>rhs;rw[<-List.take_append_drop i X,List.flatten_append,List.length_append]
 omega
theorem QK {X:LR} (v:X.length<=1000000) (g:zn=X.length):CF 293 [.one (.sl AA X)] (.one (.own AA X zn)):=by
 refine AM Tryz.func293 fun E o=>?_
 conv=>cbv
 intro n4 m;conv=>cbv
 refine⟨fun l=>?_,?_⟩
 ·conv=>cbv
  have d:X=[]:=by rw[m] at l;simpa using l
  exact AD ⟨⟨rfl,.inr (.inr ⟨_,DB (d) (by rw[g,d];rfl)⟩),trivial⟩,trivial⟩
 refine⟨[],fun _=>⟨rfl,by decide,rfl,trivial⟩,.inl ?_⟩;try conv=>cbv
 refine .inl ⟨X,fun _=>⟨rfl,by (first | rfl | omega),rfl,by show (0+X.length)*64<=140737488355328;(try simp only[List.length_take,List.length_drop]);omega⟩,?_⟩;intro (k:LR) n h;have f:k=([]:LR)++(X:LR):=h.1;have j:n=List.length (α:=(el AA)) k:=h.2;conv=>cbv
 exact AD ⟨⟨rfl,.inr (.inl ⟨_,_,by decide,rfl,rfl,by rw[j],rfl,DB (by rw[f];simp) (by rw[g,f];simp)⟩),trivial⟩,trivial⟩
theorem QJ {X:LR} (d:X.length<=1000000):CF 293 [.one (.sl AA X)] (.one (.sl AA X)):=Ct (QK d rfl)
theorem XX {X:List LR} (h0:0<X.flatten.length) (hX:X.flatten.length<=1000000) (hZ:Z=X.flatten) (a2:zn=Z.length):CF 375 [.one (.sl (.sl AA) X)] (.one (.own AA Z zn)):=by
 refine AM Tryz.func375 fun E hE=>?_
 conv=>cbv
 intro a7 n;have ah:=n.eq;have f10:=n.le;conv=>cbv
 refine .inr ?_;obtain⟨J0,w⟩:=xJ fun vs U k=>∃(i' m':Nat) (m L i:Int),vs=[.one (.sl (.sl AA) X),.one (.int .i64 m),.one (.sl (.sl AA) X),.one (.int .i64 L),.one (.int .i64 i)]/\(Cl L X.length/\AR i i'/\i'<=X.length/\AR m m')/\m'=(X.take i').flatten.length/\k=X.length-i'
 refine⟨[],[0,3,9,10,11],[],J0,⟨X.length-0,by rw[w];exact⟨0,0,0,a7,0,rfl,⟨n,Ak 0,by omega,Ak 0⟩,rfl,rfl⟩⟩,?_⟩;intro vs U au K;rw[w] at K;obtain⟨i',m',m,L,i,rfl,⟨I,W,a1,hm⟩,hinv,aq⟩:=K;conv=>cbv
 have eL:=I.eq;have ei:=W.eq;have em:=hm.eq;intro a8 F;conv=>cbv
 cases a8 <;> conv=>cbv
 ·have a5:=AY F;have ao:m'=X.flatten.length:=by rw[hinv,show i'=X.length by omega,List.take_length]
  refine AB hE (Xj hm (by omega)) ?_;conv=>cbv
  intro ae v;have aj:=v.eq;have f26:=v.le;conv=>cbv
  refine .inr ?_;obtain⟨J1,z⟩:=xJ fun vs U k=>∃(i' mm:Nat) (o:LR) (L i:Int),vs=[.one (.AQ AA 24 0 0 mm),.one (.sl (.sl AA) X),.one (.int .i64 L),.one (.int .i64 i)]/\U=[.arr 0 AA o]/\(Cl L X.length/\AR i i'/\i'<=X.length/\mm=o.length)/\o=(X.take i').flatten/\k=X.length-i'
  refine⟨[],[6,25,26,27],[24],J1,⟨X.length-0,by rw[z];exact⟨0,0,[],ae,0,rfl,rfl,⟨v,Ak 0,by omega,rfl⟩,rfl,rfl⟩⟩,?_⟩;intro vs U av K;rw[z] at K;obtain⟨i',mm,o,L,i,rfl,rfl,⟨I,W,a1,N⟩,hinv,ar⟩:=K;conv=>cbv
  have eL:=I.eq;have ei:=W.eq;intro af H;conv=>cbv
  cases af <;> conv=>cbv
  ·have a6:=AY H;have g:Z=o:=by rw[hZ,hinv,show i'=X.length by omega,List.take_length]
   exact AD ⟨⟨rfl,.inr (.inl ⟨_,_,by decide,rfl,rfl,N,rfl,DB (g) (by rw[a2,g])⟩),trivial⟩,trivial⟩
  have a6:=AZ H;refine .inr ?_;obtain⟨f,d⟩:=AL (l:=X) (i:=i') (by omega);refine⟨f,fun _=>⟨by omega,by rw[show (i).toNat=i' by omega];exact d⟩,?_⟩;try conv=>cbv
  have J:=TO d (congrArg _ hinv);have V:=TN X (i'+1);refine .inl ⟨f,fun _=>⟨rfl,N,rfl,by show (o.length+f.length)*64<=140737488355328;(try simp only[List.length_take,List.length_drop]);omega⟩,?_⟩;intro (D:LR) Q j;have M:D=(o:LR)++(f:LR):=j.1;have O:Q=List.length (α:=(el AA)) D:=j.2;conv=>cbv
  intro ag an;conv=>cbv
  refine AI ?_;refine⟨X.length-(i'+1),?_,?_⟩
  ·omega
  rw[z];exact⟨i'+1,Q,D,L,ag,rfl,rfl,⟨I,⟨by omega⟩,by omega,by rw[O]⟩,by rw[M,hinv,TP d],rfl⟩
 have a5:=AZ F;refine .inr ?_;obtain⟨S,h⟩:=AL (l:=X) (i:=i') (by omega);refine⟨S,fun _=>⟨by omega,by rw[show (i).toNat=i' by omega];exact h⟩,?_⟩;try conv=>cbv
 rintro aw ⟨ai,f17⟩;conv=>cbv
 have J:=TO h hinv;have V:=TN X (i'+1);intro aa ak;conv=>cbv
 refine AI ?_;intro ab G;conv=>cbv
 refine .inr ?_;cases ab <;> conv=>cbv
 ·have P:=AY G;intro ad al;conv=>cbv
  refine AI ?_;refine⟨X.length-(i'+1),?_,?_⟩
  ·omega
  rw[w];exact⟨i'+1,m'+S.length,aa,L,ad,rfl,⟨I,⟨by omega⟩,by omega,⟨by omega⟩⟩,J,rfl⟩
 have P:=AZ G;exact absurd P (by omega)
theorem Lk {A B:LR} (f:0<A.length) (g:A.length+B.length<=1000000) (d:Z=A++B):CF 375 [.one (.sl (.sl AA) [A,B])] (.one (.sl AA Z)):=
 Ct (XX (X:=[A,B]) (by simp;omega) (by simp;omega) (by simp[d]) rfl)
end Go.Abs
namespace Go.Abs
open Go.RowKit
def Qp (f:FuncId) (R:Nat) (u:List (List Rat)):Prop:=∀{T:List LR} {A:LR} {s:Nat} {x:Re} {c:Int},T=tw u->A=em u x->El u s x->VV u.length R s<=60000000000000->c=BJ x->
 CF f [.one (.sl (.sl AA) T),.one (.sl AA A)] (.one (.int .i64 c))
variable {A:LR} {R s:Nat} {T:List LR} {c:Int} {u:List (List Rat)} {x:Re}
theorem gn {p:Rat} (w:T=[]) (n:A=[rp p]) (z:c=DO p):CF 255 [.one (.sl (.sl AA) T),.one (.sl AA A)] (.one (.int .i64 c)):=by
 refine AM Tryz.func255 fun E v=>?_
 conv=>cbv
 rintro D ⟨j,f14⟩;conv=>cbv
 intro k g;conv=>cbv
 cases k <;> conv=>cbv
 ·have h:=AN g;exact absurd (by rw[j,w];rfl) h
 have h:=AO g;have o:A.length=1:=by rw[n];rfl
 obtain⟨m,f⟩:=AL (l:=A) (i:=0) (by omega);refine⟨m,fun _=>⟨by omega,f⟩,?_⟩;try conv=>cbv
 obtain⟨F,d⟩:=xI (DO p);refine AB v (LD (ED n f) d) ?_;conv=>cbv
 exact AD ⟨⟨rfl,congrArg _ (z.trans d.symm),trivial⟩,trivial⟩
theorem gp {r:List Rat} (h:Ah R (r::u)) (ih:Qp 255 R u) (hT:T=tw (r::u)) (hA:A=em (r::u) x) (hx:El (r::u) s x) (hs:VV (r::u).length R s<=60000000000000) (hc:c=BJ x):CF 255 [.one (.sl (.sl AA) T),.one (.sl AA A)] (.one (.int .i64 c)):=by
 obtain⟨p,q,m,w,o⟩:=El.parts h.red hx;have aD:T.length=u.length+1:=by rw[hT,Bh];rfl
 have aC:A.length=2^u.length+2^u.length:=by rw[hA,BI hx.mem,Br]
 have aF:VV (r::u).length R s=VV u.length R (2*s+2*EE u.length R+R+1):=rfl;have aG:=Eu u.length R (2*s+2*EE u.length R+R+1);have aE:=Gq u.length R (s:=s) (t:=2*s+2*EE u.length R+R+1) (by omega);have hN:=El.norm h w.mem o.mem (m ▸ hx);have a5:=El.Cj h;have v:=Vz h.red;have ae:=CX h.red;refine AM Tryz.func255 fun E I=>?_
 conv=>cbv
 rintro aK ⟨ax,f14⟩;conv=>cbv
 intro ai N;conv=>cbv
 cases ai <;> conv=>cbv
 ·have a6:=AN N;rintro aL ⟨ay,f21⟩;conv=>cbv
  intro a7 aA;conv=>cbv
  refine AI ?_;rintro aM ⟨az,f24⟩;conv=>cbv
  intro aN aB;conv=>cbv
  refine g2 ⟨by omega,by omega,i64 (by omega)⟩ ?_;intro aH au;conv=>cbv
  refine AH ?_;intro ab aq;conv=>cbv
  intro af V;conv=>cbv
  intro aI av;conv=>cbv
  refine AH ?_;intro ad ar;conv=>cbv
  intro ag W;conv=>cbv
  intro aJ a2;conv=>cbv
  refine AH ?_;rintro aa aw ⟨ao,U⟩;conv=>cbv
  intro ah a1;conv=>cbv
  refine g2 rfl ?_;have d:af=tw u:=by rw[V,List.drop_zero,show ab=T.length-1 by omega,hT,DD]
  have j:ag=em u p:=by rw[W,List.drop_zero,show ad=A.length/2 by omega,hA,CE h.red w.mem o.mem m]
  have k:ah=em u q:=by rw[a1,show aa=A.length/2 by omega,U,a2,List.take_length,hA,B6 h.red w.mem o.mem m]
  obtain⟨aP,f⟩:=xI (BJ p);refine AB I (ih d j w (by omega) f) ?_;conv=>cbv
  obtain⟨aQ,g⟩:=xI (BJ q);refine AB I (ih d k o (by omega) g) ?_;conv=>cbv
  refine .inr ?_;intro aj O;conv=>cbv
  cases aj <;> conv=>cbv
  ·have K:=AN O;intro ak P;conv=>cbv
   cases ak <;> conv=>cbv
   ·have L:=AN P;intro al Q;conv=>cbv
    cases al <;> conv=>cbv
    ·have M:=AN Q;obtain⟨aR,z⟩:=xR (em u (p*p));refine AB I (GP h.tail d j j w w (by omega) z) ?_;conv=>cbv
     obtain⟨a8,H⟩:=AL (l:=T) (i:=(a7).toNat) (by omega);refine⟨a8,fun _=>⟨by omega,H⟩,?_⟩;try conv=>cbv
     have J:a8=Aj r:=by have:=Ed r u;rw[<-hT,show T.length-1=a7.toNat by omega,H] at this;exact Option.some.inj this
     obtain⟨aS,D⟩:=xR (em u (q*q));refine AB I (GP h.tail d k k o o (by omega) D) ?_;conv=>cbv
     obtain⟨aT,F⟩:=xR (em u (AP u r*(q*q)));refine AB I (GP h.tail d (J.trans (Dw h.red)) D a5 (o.mul h.tail o) (by omega) F) ?_;conv=>cbv
     obtain⟨aU,G⟩:=xR (em u (p*p-AP u r*(q*q)));refine AB I (NS h.tail d z F (w.mul h.tail w) (a5.mul h.tail (o.mul h.tail o)) (by omega) (by omega) G) ?_;conv=>cbv
     refine g2 rfl ?_;obtain⟨an,n⟩:=xI (BJ (p*p-q*q*AP u r));refine AB (r:= .one (.int .i64 an)) I (ih d (G.trans (by congr 1;clear ih;grind)) hN (by omega) n) ?_;try conv=>cbv
     intro aO S;conv=>cbv
     refine⟨fun _=>by rw[S,f,n];exact WG _ _,?_⟩;exact AD ⟨⟨rfl,congrArg _ (by rw[hc,S,f,n,m];exact WM v ae (fun e=>M (by rw[f,e];exact Fh)) (fun e=>K (by rw[g,e];exact Fh)) (by rw[<-f,<-g];exact L)),trivial⟩,trivial⟩
    have M:=AO Q;exact AD ⟨⟨rfl,congrArg _ (by rw[hc,g,m];exact WN v (JP.1 (f ▸ M))),trivial⟩,trivial⟩
   have L:=AO P;exact AD ⟨⟨rfl,congrArg _ (by rw[hc,f,m];exact Mv v (.inr (by rw[<-f,<-g];exact L))),trivial⟩,trivial⟩
  have K:=AO O;exact AD ⟨⟨rfl,congrArg _ (by rw[hc,f,m];exact Mv v (.inl (JP.1 (g ▸ K)))),trivial⟩,trivial⟩
 have a6:=AO N;exact absurd a6 (by omega)
theorem XA (h:Ah R u):Qp 255 R u:=by
 induction u with
 | nil=>
  intro T A s x c f d j k g;obtain⟨p,rfl⟩:=CV.1 j.mem;rw[Dl] at d;exact gn f d (g.trans (WI p))
 | cons r u l=>
  intro T A s x c f d j k g;exact gp h (l h.tail) f d j k g
theorem X3 (h:Ah R u) (v:T=tw u) (hs:VV u.length R R<=60000000000000):CF 310 [.one (.sl (.sl AA) T)] (.one (.bool true)):=by
 have a8:T.length=u.length:=by rw[v,Bh]
 have H:El u 0 0:=El.rat h.red Gx;refine AM Tryz.func310 fun E M=>?_
 conv=>cbv
 obtain⟨ah,ai,af,ag,I⟩:=Bl (((0:Int):Rat));refine AB M (Gn (by omega) rfl I) ?_;conv=>cbv
 obtain⟨w8,G⟩:=xR (em u (0));refine AB M (Ho h v I ⟨by decide +kernel,by decide +kernel⟩ G) ?_;conv=>cbv
 refine AB (r:= .one (.bool true)) M (Gl v h.FK G (H.B8 (by omega)) (by rw[H.len,List.length_reverse];exact (decide_eq_true rfl).symm)) ?_;try conv=>cbv
 refine BK ?_;conv=>cbv
 intro S g;have a6:=g.eq;have f12:=g.le;conv=>cbv
 refine .inr ?_;obtain⟨J0,j⟩:=xJ fun vs bl k=>∃(i':Nat) (L i:Int),vs=[.one (.sl (.sl AA) T),.one (.sl (.sl AA) T),.one (.int .i64 L),.one (.int .i64 i)]/\(Cl L T.length/\AR i i'/\i'<=T.length)/\k=T.length-i'
 refine⟨[],[0,11,12,13],[],J0,⟨T.length-0,by rw[j];exact⟨0,S,0,rfl,⟨g,Ak 0,by omega⟩,rfl⟩⟩,?_⟩;intro vs bl ad hj;rw[j] at hj;obtain⟨i',L,i,rfl,⟨hL,hi,aa⟩,ab⟩:=hj;conv=>cbv
 have eL:=hL.eq;have ei:=hi.eq;intro U n;conv=>cbv
 cases U <;> conv=>cbv
 ·have P:=AY n;exact AD ⟨t2,trivial⟩
 have P:=AZ n;refine .inr ?_;obtain⟨K,f⟩:=AL (l:=T) (i:=i') (by omega);refine⟨K,fun _=>⟨by omega,by rw[show (i).toNat=i' by omega];exact f⟩,?_⟩;try conv=>cbv
 obtain⟨r,F,D⟩:=IG (u:=u) (i:=i') (by omega);have z:Ag (r::pre u i'):=F ▸ (h.pre (i'+1)).red;have O:K=Aj r:=by rw[<-v,f] at D;exact Option.some.inj D
 intro ae a5;conv=>cbv
 refine AH ?_;intro N a2;conv=>cbv
 intro Q w;conv=>cbv
 have m:Q=tw (pre u i'):=by rw[w,List.drop_zero,show N=i' by omega,v,HE]
 obtain⟨a1,d⟩:=xI (BJ (AP (pre u i') r));refine AB (r:= .one (.int .i64 a1)) M (XA (h.pre i') m (O.trans (Dw z)) (El.Cj (F ▸ h.pre (i'+1))) (by rw[Hg (by omega)];exact Nat.le_trans (Jq (by omega) R R) hs) d) ?_;try conv=>cbv
 intro V o;conv=>cbv
 cases V <;> conv=>cbv
 ·have J:=F4 o;intro W a7;conv=>cbv
  refine AI ?_;refine⟨T.length-(i'+1),?_,?_⟩
  ·omega
  rw[j];exact⟨i'+1,L,W,rfl,⟨hL,⟨by omega⟩,by omega⟩,rfl⟩
 have J:=F5 o;exact absurd J (by rw[d,GH z.2.2.1];omega)
theorem bK {L:List LR} (h:Ah R u) (G:T=tw u) (S:VV u.length R R<=60000000000000) (N:∀l∈L,∃x,l=em u x/\El u s x) (o:s<=60000000000000:=by omega):CF 254 [.one (.sl (.sl AA) T),.one (.sl (.sl AA) L)] (.one (.bool true)):=by
 refine AM Tryz.func254 fun E F=>?_
 conv=>cbv
 intro V n;have W:=n.eq;have f8:=n.le;conv=>cbv
 refine .inr ?_;obtain⟨J,f⟩:=xJ fun vs K k=>∃(i':Nat) (m i:Int),vs=[.one (.sl (.sl AA) T),.one (.sl (.sl AA) L),.one (.int .i64 m),.one (.int .i64 i)]/\(Cl m L.length/\AR i i'/\i'<=L.length)/\k=L.length-i'
 refine⟨[],[0,7,8,9],[],J,⟨L.length-0,by rw[f];exact⟨0,V,0,rfl,⟨n,Ak 0,by omega⟩,rfl⟩⟩,?_⟩;intro vs K U H;rw[f] at H;obtain⟨i',m,i,rfl,⟨hm,O,P⟩,Q⟩:=H;conv=>cbv
 have em:=hm.eq;have ei:=O.eq;intro z g;conv=>cbv
 cases z <;> conv=>cbv
 ·have w:=AY g;refine AB F (X3 h G S) ?_;conv=>cbv
  exact AD ⟨t2,trivial⟩
 have w:=AZ g;refine .inr ?_;obtain⟨j,d⟩:=AL (l:=L) (i:=i') (by omega);refine⟨j,fun _=>⟨by omega,by rw[show (i).toNat=i' by omega];exact d⟩,?_⟩;try conv=>cbv
 obtain⟨x,v,I⟩:=N j (List.mem_of_getElem? d);refine AB (r:= .one (.bool true)) F (Gl G h.FK v (I.B8 o) (by rw[I.len,List.length_reverse];exact (decide_eq_true rfl).symm)) ?_;try conv=>cbv
 refine BK ?_;conv=>cbv
 intro D M;conv=>cbv
 refine AI ?_;refine⟨L.length-(i'+1),?_,?_⟩
 ·omega
 rw[f];exact⟨i'+1,m,D,rfl,⟨hm,⟨by omega⟩,by omega⟩,rfl⟩
theorem Jo (h:Ah R u) (g:T=tw u) (d:A=em u x) (j:El u s x) (o:VV u.length R s<=60000000000000) (hR:VV u.length R R<=60000000000000) (k:c=BJ x):CF 166 [.one (.sl (.sl AA) T),.one (.sl AA A)] (.one (.int .i64 c)):=by
 have m:=Eu u.length R s;refine AM Tryz.func166 fun E f=>?_
 conv=>cbv
 refine⟨[A],fun _=>⟨rfl,by decide,rfl,⟨rfl,by first | exact t1 | exact t2 | exact t4 | simp[Aq,BG,cells],trivial⟩⟩,.inr ?_⟩;try conv=>cbv
 refine AB f (bK h g hR (fun l n=>⟨x,(List.mem_singleton.1 n).trans d,j⟩)) ?_;conv=>cbv
 refine BK ?_;conv=>cbv
 refine AB f (XA h g d j o k) ?_;conv=>cbv
 exact AD ⟨t2,trivial⟩
end Go.Abs
