/- Part 18 of a proof. Conditions: each theorem's own. -/
import Derived.Shelf.Spec.SlicesGrow
import Derived.Test.YtmaoeopjnhfplaaGreatPk16
set_option linter.all false
set_option maxHeartbeats 8000000
set_option maxRecDepth 20000
open Go.Proofs
namespace Go.Abs
open Go.RowKit
variable {C X Z:LR} {R i zn:Nat} {T:List LR} {b1 b2:Bool} {l1 l2:List UInt32} {q:Rat} {u:List (List Rat)} {xs:List Rat}
theorem Ko {x:el AA} (f:X=Be xs) (d:X[i]? =some x):∃q,B6 q x.1.1 x.1.2 x.2.1 x.2.2/\xs[i]? =some q/\x=rp q:=by
 rw[f,Be,List.getElem?_map] at d;cases h:xs[i]? with
 | none=>rw[h] at d;simp at d
 | some q=>
  rw[h] at d;have e:x=rp q:=(Option.some.inj d).symm;exact⟨q,by rw[e];exact Hx q,rfl,e⟩
theorem SC (h:xs[i]? =some q):Be (xs.take (i+1))=Be (xs.take i)++[rp q]:=by
 rw[Cb h,Be,Be,List.map_append];rfl
theorem XV {c:Bool} (I:X=Be xs) (hc:c=decide (∀q∈xs,q=0)):CF 285 [.one (.sl AA X)] (.one (.bool c)):=by
 have N:X.length=xs.length:=by rw[I,List.length_map]
 refine Av Tryz.func285 fun E hE=>?_
 conv=>cbv
 refine .inr ?_;obtain⟨L,g⟩:=xJ fun vs M k=>∃(i':Nat) (i:Int),vs=[.one (.sl AA X),.one (.int .i64 i)]/\(BG i i'/\i'<=X.length)/\(∀q∈xs.take i',q=0)/\k=X.length-i'
 refine⟨[0,3],[],L,⟨X.length-0,by rw[g];exact⟨0,0,rfl,⟨Bv 0,by omega⟩,by simp,rfl⟩⟩,?_⟩;intro vs M V J;rw[g] at J;obtain⟨i',i,rfl,⟨O,P⟩,hinv,Q⟩:=J;conv=>cbv
 have ei:=O.eq;rintro n6 ⟨e6,f6⟩;conv=>cbv
 intro W H;conv=>cbv
 cases W <;> conv=>cbv
 ·have U:=BX H;exact AF ⟨⟨rfl,congrArg _ (by rw[hc,decide_eq_true];intro z d;rw[<-List.take_of_length_le (show xs.length<=i' by omega)] at d;exact hinv z d),trivial⟩,trivial⟩
 have U:=BY H;refine .inr ?_;obtain⟨n,f⟩:=Ao (l:=X) (i:=i') (by omega);refine⟨n,fun _=>⟨by omega,by rw[show (i).toNat=i' by omega];exact f⟩,?_⟩;try conv=>cbv
 obtain⟨q,K,m,S⟩:=Ko I f;rintro D ⟨o,f16⟩;conv=>cbv
 have G:D=((List.length (α:=UInt32) n.1.2:Nat):Int):=o;intro F j;conv=>cbv
 cases F <;> conv=>cbv
 ·have w:=Ct j;intro n9 h9;conv=>cbv
  refine Ah ?_;refine⟨X.length-(i'+1),?_,?_⟩
  ·omega
  rw[g];refine⟨i'+1,n9,rfl,⟨⟨by omega⟩,by omega⟩,?_,rfl⟩;intro z d;rw[Cb m] at d;rcases List.mem_append.1 d with d | d
  ·exact hinv z d
  rw[List.mem_singleton.1 d];exact Rat.num_eq_zero.1 (K.num.HQ.1 (by omega))
 have w:=Cu j;have v:q≠0:=fun e=>by have:=K.num.HQ.2 (Rat.num_eq_zero.2 e);omega
 exact AF ⟨⟨rfl,congrArg _ (by rw[hc,decide_eq_false];exact fun h=>v (h q (List.mem_of_getElem? m))),trivial⟩,trivial⟩
theorem Xg {n:Int} (v:X=Be xs) (O:FX xs) (hn:n=(xs.length:Int)):CF 268 [.one (.sl AA X),.one (.int .i64 n)] (.one (.bool true)):=by
 have I:X.length=xs.length:=by rw[v,List.length_map]
 refine Av Tryz.func268 fun E H=>?_
 conv=>cbv
 refine .inr ?_;obtain⟨z,f⟩:=xJ fun vs D k=>∃(i':Nat) (i:Int),vs=[.one (.sl AA X),.one (.int .i64 n),.one (.int .i64 i)]/\(BG i i'/\i'<=X.length)/\k=X.length-i'
 refine⟨[0,1,5],[],z,⟨X.length-0,by rw[f];exact⟨0,0,rfl,⟨Bv 0,by omega⟩,rfl⟩⟩,?_⟩;intro vs D Q w;rw[f] at w;obtain⟨i',i,rfl,⟨J,K⟩,L⟩:=w;conv=>cbv
 have ei:=J.eq;rintro n8 ⟨W,f8⟩;conv=>cbv
 intro V o;conv=>cbv
 cases V <;> conv=>cbv
 ·have P:=BX o;rintro S ⟨F,f19⟩;conv=>cbv
  intro U g;conv=>cbv
  exact AF ⟨⟨rfl,congrArg _ (by rw[g];simp;omega),trivial⟩,trivial⟩
 have P:=BY o;refine .inr ?_;obtain⟨m,d⟩:=Ao (l:=X) (i:=i') (by omega);refine⟨m,fun _=>⟨by omega,by rw[show (i).toNat=i' by omega];exact d⟩,?_⟩;try conv=>cbv
 obtain⟨q,M,N,h⟩:=Iq v O d;refine AB H (iW M h) ?_;conv=>cbv
 refine AR ?_;conv=>cbv
 intro j G;conv=>cbv
 refine Ah ?_;refine⟨X.length-(i'+1),?_,?_⟩
 ·omega
 rw[f];exact⟨i'+1,j,rfl,⟨⟨by omega⟩,by omega⟩,rfl⟩
theorem XR (h:Bb R u) (z:T=tw u):CF 267 [.one (.sl (.sl AA) T)] (.one (.bool true)):=by
 have I:T.length=u.length:=by rw[z,CI]
 have J:=h.ht;refine Av Tryz.func267 fun E H=>?_
 conv=>cbv
 refine .inr ?_;obtain⟨F,f⟩:=xJ fun vs G k=>∃(i':Nat) (i:Int),vs=[.one (.sl (.sl AA) T),.one (.int .i64 i)]/\(BG i i'/\i'<=T.length)/\k=T.length-i'
 refine⟨[0,3],[],F,⟨T.length-0,by rw[f];exact⟨0,0,rfl,⟨Bv 0,by omega⟩,rfl⟩⟩,?_⟩;intro vs G O D;rw[f] at D;obtain⟨i',i,rfl,⟨K,L⟩,M⟩:=D;conv=>cbv
 have V:=K.eq;rintro n6 ⟨U,f6⟩;conv=>cbv
 intro Q w;conv=>cbv
 cases Q <;> conv=>cbv
 ·have N:=BX w;exact AF ⟨t2,trivial⟩
 have N:=BY w;refine .inr ?_;obtain⟨v,d⟩:=Ao (l:=T) (i:=i') (by omega);refine⟨v,fun _=>⟨by omega,by rw[show (i).toNat=i' by omega];exact d⟩,?_⟩;try conv=>cbv
 obtain⟨y,n,j⟩:=Lq z d;have o:=NJ h.red _ y j;intro P m;conv=>cbv
 refine AY ?_;have g:=(Ge (k:=i') m (by omega)).eq;refine AB (r:= .one (.bool true)) H (Xg n ((h.tb y (List.mem_reverse.1 (List.mem_of_getElem? j))).Cg h.hR) (by rw[o];exact g)) ?_;try conv=>cbv
 refine AR ?_;conv=>cbv
 refine g2 rfl ?_;intro S W;conv=>cbv
 refine Ah ?_;refine⟨T.length-(i'+1),?_,?_⟩
 ·omega
 rw[f];exact⟨i'+1,S,rfl,⟨⟨by omega⟩,by omega⟩,rfl⟩
theorem Np {A:LR} {s:Nat} {x:Re} (h:Bb R u) (m:T=tw u) (o:A=em u x) (n:El u s x) (w:s<=60000000000000:=by omega):CF 221 [.one (.sl (.sl AA) T),.one (.sl AA A)] (.one (.bool true)):=by
 have j:T.length=u.length:=by rw[m,CI]
 have v:=h.ht;refine Av Tryz.func221 fun E l=>?_
 conv=>cbv
 refine AB l (XR h m) ?_;conv=>cbv
 rintro z ⟨f,f10⟩;conv=>cbv
 intro D g;conv=>cbv
 refine AY ?_;have d:=(Ge (k:=u.length) g (f.trans (congrArg _ j))).eq;refine AB (r:= .one (.bool true)) l (Xg o (n.Cg w) (by rw[n.len];exact d)) ?_;try conv=>cbv
 exact AF ⟨t2,trivial⟩
theorem XH (h:Bb R u) (hT:T=tw u) (hq:B6 q b1 l1 b2 l2) (hC:C=em u (Re.ofRat q)) (N:zn=C.length):CF 286 [.one (.sl (.sl AA) T),.agg (CX b1 l1 b2 l2)] (.one (.own AA C zn)):=by
 have L:T.length=u.length:=by rw[hT,CI]
 have a1:=h.ht;have V:=Eo h.ht;have a7:=ER u.length;refine Av Tryz.func286 fun E hE=>?_
 conv=>cbv
 refine⟨[((b1,l1),(b2,l2))],fun _=>⟨rfl,by decide,rfl,⟨rfl,by first | exact t1 | exact t2 | exact t4 | simp[Bg,Bo,cells],trivial⟩⟩,.inl ?_⟩;try conv=>cbv
 refine .inr ?_;obtain⟨W,D⟩:=xJ fun vs Q k=>∃(o:LR) (mm j:Nat),vs=[.one (.sl (.sl AA) T),.one (.BI AA 7 0 0 mm)]/\Q=[.arr 0 AA o]/\(mm=o.length/\o.length=j+1/\o.length<=2^u.length)/\o=rp q::List.replicate j (rp 0)/\k=2^u.length-o.length
 refine⟨[0,5],[7],W,⟨2^u.length-[rp q].length,by rw[D];exact⟨[rp q],1,0,rfl,by rw[hq.rp];rfl,⟨rfl,rfl,by show 1<=_;omega⟩,rfl,rfl⟩⟩,?_⟩;intro vs Q a8 S;rw[D] at S;obtain⟨o,mm,j,rfl,rfl,⟨G,a5,a6⟩,hinv,a2⟩:=S;conv=>cbv
 intro n9 h9;have e9:=h9.eq;conv=>cbv
 rintro aa ⟨J,f11⟩;conv=>cbv
 intro ab K;conv=>cbv
 refine AY ?_;have U:=(Ge (k:=u.length) K (J.trans (congrArg _ L))).eq;intro P F;conv=>cbv
 cases P <;> conv=>cbv
 ·have O:=BX F;have n:C=o:=by rw[hC,em,JO q h.red,hinv,show j=2^u.length-1 by omega,Be,List.map_cons,List.map_replicate]
  exact AF ⟨⟨rfl,.inr (.inl ⟨_,_,by decide,rfl,rfl,G,rfl,E8 (n) (by rw[N,n])⟩),trivial⟩,trivial⟩
 have O:=BY F;refine .inr ?_;obtain⟨l,m,f,g,w⟩:=Ca (((0:Int):Rat));refine AB hE (Gi (by omega) rfl w) ?_;conv=>cbv
 refine⟨[((l,m),(f,g))],fun _=>⟨rfl,by decide,rfl,⟨rfl,by first | exact t1 | exact t2 | exact t4 | simp[Bg,Bo,cells],trivial⟩⟩,.inr ?_⟩;try conv=>cbv
 refine .inl ⟨[((l,m),(f,g))],fun _=>⟨rfl,G,rfl,by show (o.length+1)*64<=140737488355328;(try simp only[List.length_take,List.length_drop]);omega⟩,?_⟩;intro (d:LR) I z;have v:d=(o:LR)++([((l,m),(f,g))]:LR):=z.1;have H:I=List.length (α:=(el AA)) d:=z.2;conv=>cbv
 have M:d.length=o.length+1:=by rw[v];simp
 refine⟨2^u.length-d.length,?_,?_⟩
 ·omega
 rw[D];exact⟨d,I,j+1,rfl,rfl,⟨H,by omega,by omega⟩,by rw[v,hinv,List.replicate_succ',List.cons_append,<-w.rp];rfl,rfl⟩
theorem IA (h:Bb R u) (f:T=tw u) (g:B6 q b1 l1 b2 l2) (d:C=em u (Re.ofRat q)):CF 286 [.one (.sl (.sl AA) T),.agg (CX b1 l1 b2 l2)] (.one (.sl AA C)):=Ek (XH h f g d rfl)
theorem iP (U:X=Be xs) (hl:xs.length<=1000000) (hZ:Z=Be (xs.map (- ·))):CF 93 [.one (.sl (.sl AA) T),.one (.sl AA X)] (.one (.sl AA Z)):=by
 have a5:X.length=xs.length:=by rw[U,List.length_map]
 refine Av Tryz.func93 fun E hE=>?_
 conv=>cbv
 refine .inr ?_
 obtain⟨J0,v⟩:∃J:List AV->List BA->Nat->Prop,J=fun vs P k=>(∃(i:Int),vs=[.one (.sl AA X),.one .nil,.one (.int .i64 i)]/\P=[.dead 0]/\BG i 0/\k=X.length)\/
  (∃(o:LR) (mm i':Nat) (i:Int),vs=[.one (.sl AA X),.one (.BI AA 20 0 0 mm),.one (.int .i64 i)]/\P=[.arr 0 AA o]/\(BG i i'/\i'<=X.length/\mm=o.length)/\o=Be ((xs.map (- ·)).take i')/\k=X.length-i'):=⟨_,rfl⟩
 refine⟨[1,5,6],[20],J0,⟨X.length,by rw[v];exact .inl ⟨0,rfl,rfl,Bv 0,rfl⟩⟩,?_⟩;intro vs P a8 hj;rw[v] at hj;rcases hj with⟨i,rfl,rfl,V,a1⟩ |⟨o,mm,i',i,rfl,rfl,⟨V,a6,N⟩,hinv,a1⟩
 ·conv=>cbv
  have ei:=V.eq;obtain⟨i',W⟩:=xN 0;rintro n9 ⟨e9,f9⟩;conv=>cbv
  intro I n;conv=>cbv
  cases I <;> conv=>cbv
  ·have G:=BX n;exact AF ⟨⟨rfl,.inr (.inl ⟨_,congrArg _ (by rw[hZ,show xs=[] from List.eq_nil_of_length_eq_zero (by omega)];rfl)⟩),trivial⟩,trivial⟩
  have G:=BY n;refine .inr ?_;obtain⟨L,j⟩:=Ao (l:=X) (i:=i') (by omega);refine⟨L,fun _=>⟨by omega,by rw[show (i).toNat=i' by omega];exact j⟩,?_⟩;try conv=>cbv
  obtain⟨q,hq,D,a2⟩:=Ko U j;have F:(xs.map (- ·))[i']? =some (-q):=by rw[List.getElem?_map,D];rfl
  obtain⟨g,h,d,f,m⟩:=Ca (-q);refine AB hE (XN hq rfl m) ?_;conv=>cbv
  refine⟨[((g,h),(d,f))],fun _=>⟨rfl,by decide,rfl,⟨rfl,by first | exact t1 | exact t2 | exact t4 | simp[Bg,Bo,cells],trivial⟩⟩,.inr ?_⟩;try conv=>cbv
  refine .inl ⟨[((g,h),(d,f))],fun _=>⟨rfl,by show (1)*64<=140737488355328;(try simp only[List.length_take,List.length_drop]);omega⟩,?_⟩;intro w S;conv=>cbv
  intro K Q;conv=>cbv
  refine Ah ?_;refine⟨X.length-(i'+1),?_,?_⟩
  ·omega
  rw[v];exact .inr ⟨_,w,i'+1,K,rfl,rfl,⟨⟨by omega⟩,by omega,S⟩,by rw[SC F,W,<-m.rp];rfl,rfl⟩
 conv=>cbv
 have ei:=V.eq;have a7:o.length<=X.length:=by rw[hinv,Be,List.length_map,List.length_take,List.length_map];omega
 rintro n9 ⟨e9,f9⟩;conv=>cbv
 intro I n;conv=>cbv
 cases I <;> conv=>cbv
 ·have G:=BX n;exact AF ⟨⟨rfl,.inl ⟨_,rfl,by omega,congrArg _ (by rw[hZ,N,hinv,List.drop_zero,List.take_length,List.take_of_length_le (by rw[List.length_map];omega)])⟩,trivial⟩,trivial⟩
 have G:=BY n;refine .inr ?_;obtain⟨L,j⟩:=Ao (l:=X) (i:=i') (by omega);refine⟨L,fun _=>⟨by omega,by rw[show (i).toNat=i' by omega];exact j⟩,?_⟩;try conv=>cbv
 obtain⟨q,hq,D,a2⟩:=Ko U j;have F:(xs.map (- ·))[i']? =some (-q):=by rw[List.getElem?_map,D];rfl
 obtain⟨g,h,d,f,m⟩:=Ca (-q);refine AB hE (XN hq rfl m) ?_;conv=>cbv
 refine⟨[((g,h),(d,f))],fun _=>⟨rfl,by decide,rfl,⟨rfl,by first | exact t1 | exact t2 | exact t4 | simp[Bg,Bo,cells],trivial⟩⟩,.inr ?_⟩;try conv=>cbv
 refine .inl ⟨[((g,h),(d,f))],fun _=>⟨rfl,N,rfl,by show (o.length+1)*64<=140737488355328;(try simp only[List.length_take,List.length_drop]);omega⟩,?_⟩;intro (H:LR) w z;have M:H=(o:LR)++([((g,h),(d,f))]:LR):=z.1;have O:w=List.length (α:=(el AA)) H:=z.2;conv=>cbv
 intro K Q;conv=>cbv
 refine Ah ?_;refine⟨X.length-(i'+1),?_,?_⟩
 ·omega
 rw[v];exact .inr ⟨H,w,i'+1,K,rfl,rfl,⟨⟨by omega⟩,by omega,O⟩,by rw[M,hinv,SC F,<-m.rp],rfl⟩
theorem hH {Y:LR} {ys:List Rat} (hX:X=Be xs) (hY:Y=Be ys) (hs:FX xs) (ht:FX ys) (ah:ys.length=xs.length) (hl:xs.length<=1000000) (hZ:Z=Be (List.zipWith (· + ·) xs ys)) (a2:zn=Z.length):CF 246 [.one (.sl (.sl AA) T),.one (.sl AA X),.one (.sl AA Y)] (.one (.own AA Z zn)):=by
 have ad:X.length=xs.length:=by rw[hX,List.length_map]
 have ae:Y.length=ys.length:=by rw[hY,List.length_map]
 refine Av Tryz.func246 fun E hE=>?_
 conv=>cbv
 refine .inr ?_
 obtain⟨J0,w⟩:∃J:List AV->List BA->Nat->Prop,J=fun vs bl k=>(∃(i:Int),vs=[.one (.sl AA X),.one (.sl AA Y),.one .nil,.one (.int .i64 i)]/\bl=[.dead 0]/\BG i 0/\k=X.length)\/
  (∃(o:LR) (mm i':Nat) (i:Int),vs=[.one (.sl AA X),.one (.sl AA Y),.one (.BI AA 26 0 0 mm),.one (.int .i64 i)]/\bl=[.arr 0 AA o]/\(BG i i'/\i'<=X.length/\mm=o.length)/\o=Be ((List.zipWith (· + ·) xs ys).take i')/\k=X.length-i'):=⟨_,rfl⟩
 refine⟨[1,2,7,8],[26],J0,⟨X.length,by rw[w];exact .inl ⟨0,rfl,rfl,Bv 0,rfl⟩⟩,?_⟩;intro vs bl ai hj;rw[w] at hj;rcases hj with⟨i,rfl,rfl,hi,aa⟩ |⟨o,mm,i',i,rfl,rfl,⟨hi,af,V⟩,hinv,aa⟩
 ·conv=>cbv
  have ei:=hi.eq;obtain⟨i',a8⟩:=xN 0;rintro ab ⟨a5,f11⟩;conv=>cbv
  intro O v;conv=>cbv
  cases O <;> conv=>cbv
  ·have M:=BX v;have a1:Z=[]:=by rw[hZ,show xs=[] from List.eq_nil_of_length_eq_zero (by omega)];rfl
   exact AF ⟨⟨rfl,.inr (.inr ⟨_,E8 (a1) (by rw[a2,a1];rfl)⟩),trivial⟩,trivial⟩
  have M:=BY v;refine .inr ?_;obtain⟨Q,j⟩:=Ao (l:=X) (i:=i') (by omega);refine⟨Q,fun _=>⟨by omega,by rw[show (i).toNat=i' by omega];exact j⟩,?_⟩;try conv=>cbv
  obtain⟨S,m⟩:=Ao (l:=Y) (i:=i') (by omega);refine⟨S,fun _=>⟨by omega,by rw[show (i).toNat=i' by omega];exact m⟩,?_⟩;try conv=>cbv
  obtain⟨p,hp,G,K⟩:=Iq hX hs j;obtain⟨q,hq,H,L⟩:=Iq hY ht m;have I:(List.zipWith (· + ·) xs ys)[i']? =some (p+q):=by rw[List.getElem?_zipWith,G,H]
  obtain⟨g,h,d,f,n⟩:=Ca (p+q);refine AB hE (XM hp hq K L rfl n) ?_;conv=>cbv
  refine⟨[((g,h),(d,f))],fun _=>⟨rfl,by decide,rfl,⟨rfl,by first | exact t1 | exact t2 | exact t4 | simp[Bg,Bo,cells],trivial⟩⟩,.inr ?_⟩;try conv=>cbv
  refine .inl ⟨[((g,h),(d,f))],fun _=>⟨rfl,by show (1)*64<=140737488355328;(try simp only[List.length_take,List.length_drop]);omega⟩,?_⟩;intro z a7;conv=>cbv
  refine g2 rfl ?_;intro P a6;conv=>cbv
  refine Ah ?_;refine⟨X.length-(i'+1),?_,?_⟩
  ·omega
  rw[w];exact .inr ⟨_,z,i'+1,P,rfl,rfl,⟨⟨by omega⟩,by omega,a7⟩,by rw[SC I,a8,<-n.rp];rfl,rfl⟩
 conv=>cbv
 have ei:=hi.eq;have ag:o.length<=X.length:=by rw[hinv,Be,List.length_map,List.length_take,List.length_zipWith];omega
 rintro ab ⟨a5,f11⟩;conv=>cbv
 intro O v;conv=>cbv
 cases O <;> conv=>cbv
 ·have M:=BX v;have D:Z=o:=by rw[hZ,hinv,List.take_of_length_le (by rw[List.length_zipWith];omega)]
  exact AF ⟨⟨rfl,.inr (.inl ⟨_,_,by decide,rfl,rfl,V,rfl,E8 (D) (by rw[a2,D])⟩),trivial⟩,trivial⟩
 have M:=BY v;refine .inr ?_;obtain⟨Q,j⟩:=Ao (l:=X) (i:=i') (by omega);refine⟨Q,fun _=>⟨by omega,by rw[show (i).toNat=i' by omega];exact j⟩,?_⟩;try conv=>cbv
 obtain⟨S,m⟩:=Ao (l:=Y) (i:=i') (by omega);refine⟨S,fun _=>⟨by omega,by rw[show (i).toNat=i' by omega];exact m⟩,?_⟩;try conv=>cbv
 obtain⟨p,hp,G,K⟩:=Iq hX hs j;obtain⟨q,hq,H,L⟩:=Iq hY ht m;have I:(List.zipWith (· + ·) xs ys)[i']? =some (p+q):=by rw[List.getElem?_zipWith,G,H]
 obtain⟨g,h,d,f,n⟩:=Ca (p+q);refine AB hE (XM hp hq K L rfl n) ?_;conv=>cbv
 refine⟨[((g,h),(d,f))],fun _=>⟨rfl,by decide,rfl,⟨rfl,by first | exact t1 | exact t2 | exact t4 | simp[Bg,Bo,cells],trivial⟩⟩,.inr ?_⟩;try conv=>cbv
 refine .inl ⟨[((g,h),(d,f))],fun _=>⟨rfl,V,rfl,by show (o.length+1)*64<=140737488355328;(try simp only[List.length_take,List.length_drop]);omega⟩,?_⟩;intro (N:LR) z F;have U:N=(o:LR)++([((g,h),(d,f))]:LR):=F.1;have W:z=List.length (α:=(el AA)) N:=F.2;conv=>cbv
 refine g2 rfl ?_;intro P a6;conv=>cbv
 refine Ah ?_;refine⟨X.length-(i'+1),?_,?_⟩
 ·omega
 rw[w];exact .inr ⟨N,z,i'+1,P,rfl,rfl,⟨⟨by omega⟩,by omega,W⟩,by rw[U,hinv,SC I,<-n.rp],rfl⟩
end Go.Abs
namespace Go.Abs
open Go.RowKit
variable {A B C X Y Z:LR} {R s t zn:Nat} {T:List LR} {a b p q x y:Re} {r:List Rat} {u:List (List Rat)}
theorem Jw (h:BF u) (g:In u x) (f:X=em u x) (d:x=0):CF 285 [.one (.sl AA X)] (.one (.bool true)):=
 XV f (decide_eq_true ((OD h g).2 d)).symm
theorem Ke (h:BF u) (g:In u x) (f:X=em u x) (d:x≠0):CF 285 [.one (.sl AA X)] (.one (.bool false)):=
 XV f (decide_eq_false (fun k=>d ((OD h g).1 k))).symm
theorem XW (h:Bb R u) (j:X=em u x) (k:Y=em u y) (d:El u s x) (f:El u t y) (m:s<=60000000000000) (ht:t<=60000000000000) (l:Z=em u (x+y)) (g:zn=Z.length):
  CF 246 [.one (.sl (.sl AA) T),.one (.sl AA X),.one (.sl AA Y)] (.one (.own AA Z zn)):=
 hH j k (d.Cg m) (f.Cg ht) (by rw[d.len,f.len]) (by rw[d.len];exact LD h.ht) (by rw[l,ZG h.red d.mem f.mem]) g
theorem LZ (h:Bb R u) (d:X=em u x) (f:Y=em u y) (k:El u s x) (l:El u t y) (j:s<=60000000000000) (ht:t<=60000000000000) (g:Z=em u (x+y)):
 CF 246 [.one (.sl (.sl AA) T),.one (.sl AA X),.one (.sl AA Y)] (.one (.sl AA Z)):=Ek (XW h d f k l j ht g rfl)
theorem MG (h:Bb R u) (f:X=em u x) (d:El u s x) (g:Z=em u (-x)):
  CF 93 [.one (.sl (.sl AA) T),.one (.sl AA X)] (.one (.sl AA Z)):=
 iP f (by rw[d.len];exact LD h.ht) (by rw[g,ZH h.red d.mem])
theorem P7 (h:Bb R u) (k:X=em u x) (l:Y=em u y) (o:El u s x) (j:El u t y) (n:s<=60000000000000) (ht:t<=60000000000000) (m:Z=em u (x-y)):CF 315 [.one (.sl (.sl AA) T),.one (.sl AA X),.one (.sl AA Y)] (.one (.sl AA Z)):=by
 refine Av Tryz.func315 fun E g=>?_
 conv=>cbv
 obtain⟨v,d⟩:=xR (em u (-y));refine AB g (MG h l j d) ?_;conv=>cbv
 obtain⟨w,f⟩:=xR (em u (x+ -y));refine AB g (LZ h k d o (j.neg h.red) n ht f) ?_;conv=>cbv
 exact AF ⟨⟨rfl,congrArg _ (by rw[m,f,show x-y=x+ -y by grind]),trivial⟩,trivial⟩
theorem jI {p q:Rat} (M:T=[]) (G:A=[rp p]) (H:B=[rp q]) (P:Cp p) (ht:Cp q) (I:C=[rp (p*q)]) (w:zn=C.length):CF 247 [.one (.sl (.sl AA) T),.one (.sl AA A),.one (.sl AA B)] (.one (.own AA C zn)):=by
 refine Av Tryz.func247 fun E L=>?_
 conv=>cbv
 rintro Q ⟨v,f14⟩;conv=>cbv
 intro z h;conv=>cbv
 cases z <;> conv=>cbv
 ·have j:=BR h;exact absurd (by rw[v,M];rfl) j
 have j:=BS h;have J:A.length=1:=by rw[G];rfl
 have K:B.length=1:=by rw[H];rfl
 obtain⟨D,d⟩:=Ao (l:=A) (i:=0) (by omega);refine⟨D,fun _=>⟨by omega,d⟩,?_⟩;try conv=>cbv
 obtain⟨F,f⟩:=Ao (l:=B) (i:=0) (by omega);refine⟨F,fun _=>⟨by omega,f⟩,?_⟩;try conv=>cbv
 have N:=Gb G d;have O:=Gb H f;obtain⟨n,o,k,m,g⟩:=Ca (p*q);refine AB L (iT N O P ht rfl g) ?_;conv=>cbv
 refine⟨[((n,o),(k,m))],fun _=>⟨rfl,by decide,rfl,⟨rfl,by first | exact t1 | exact t2 | exact t4 | simp[Bg,Bo,cells],trivial⟩⟩,.inl ?_⟩;try conv=>cbv
 refine g2 rfl ?_;exact AF ⟨⟨rfl,.inr (.inl ⟨_,_,by decide,rfl,rfl,rfl,rfl,E8 (by rw[I,g.rp]) (by rw[w,I];rfl)⟩),trivial⟩,trivial⟩
def Nq (R:Nat) (u:List (List Rat)):Prop:=∀{T:List LR} {A B C:LR} {zn s t:Nat} {x y:Re},T=tw u->A=em u x->B=em u y->El u s x->El u t y->s+t+EE u.length R<=60000000000000->C=em u (x*y)->zn=C.length->
 CF 247 [.one (.sl (.sl AA) T),.one (.sl AA A),.one (.sl AA B)] (.one (.own AA C zn))
theorem jM (h:Bb R (r::u)) (ih:Nq R u) (hT:T=tw (r::u)) (hA:A=em (r::u) x) (hB:B=em (r::u) y) (hx:El (r::u) s x) (hy:El (r::u) t y) (aW:s+t+EE (r::u).length R<=60000000000000) (G:x=p+q*rt u r) (hp:El u s p) (hq:El u s q) (H:y=a+b*rt u r) (ha:El u t a) (hb:El u t b) (h0:q=0) (h1:b=0) (hC:C=em (r::u) (x*y)) (ad:zn=C.length):CF 247 [.one (.sl (.sl AA) T),.one (.sl AA A),.one (.sl AA B)] (.one (.own AA C zn)):=by
 have aS:EE (r::u).length R=2*EE u.length R+R+2:=rfl;have aU:=El.EX h;have hR:=h.hR;have aV:=DO h.red;have aT:T.length=u.length+1:=by rw[hT,CI];rfl
 have aQ:A.length=2^u.length+2^u.length:=by rw[hA,B5 hx.mem,CW]
 have aR:B.length=2^u.length+2^u.length:=by rw[hB,B5 hy.mem,CW]
 refine Av Tryz.func247 fun E K=>?_
 conv=>cbv
 rintro b4 ⟨aJ,f14⟩;conv=>cbv
 intro aj J;conv=>cbv
 cases aj <;> conv=>cbv
 ·have a5:=BR J;rintro b5 ⟨aK,f25⟩;conv=>cbv
  intro b6 aN;conv=>cbv
  refine g2 ⟨by omega,by omega,i64 (by omega)⟩ ?_;rintro b7 ⟨aL,f29⟩;conv=>cbv
  intro b8 aO;conv=>cbv
  refine Ah ?_;intro aX ay;conv=>cbv
  refine AY ?_;intro a8 ar;conv=>cbv
  intro ae N;conv=>cbv
  rintro b9 ⟨aM,f34⟩;conv=>cbv
  intro ak aP;conv=>cbv
  refine Ah ?_;obtain⟨an,a2⟩:=Ao (l:=T) (i:=(T.length-1)) (by omega);refine⟨an,fun _=>⟨by omega,by rw[show (ak).toNat=(T.length-1) by omega];exact a2⟩,?_⟩;try conv=>cbv
  refine g2 rfl ?_;intro aY V;conv=>cbv
  refine AY ?_;rintro a6 aH ⟨ao,L⟩;conv=>cbv
  intro af O;conv=>cbv
  have w:af=em u q:=by rw[O,show a6=A.length/2 by omega,L,V,List.take_length,hA,Cz h.red hp.mem hq.mem G]
  refine AB K (Jw h.tail.red hq.mem w h0) ?_;conv=>cbv
  intro aZ W;conv=>cbv
  refine AY ?_;rintro a7 aI ⟨aq,M⟩;conv=>cbv
  intro ag P;conv=>cbv
  have z:ag=em u b:=by rw[P,show a7=B.length/2 by omega,M,W,List.take_length,hB,Cz h.red ha.mem hb.mem H]
  refine AB K (Jw h.tail.red hb.mem z h1) ?_;conv=>cbv
  refine g2 rfl ?_;intro b0 az;conv=>cbv
  refine AY ?_;intro aa au;conv=>cbv
  intro ah Q;conv=>cbv
  intro b3 aA;conv=>cbv
  refine AY ?_;intro ab av;conv=>cbv
  intro ai S;conv=>cbv
  have d:ae=tw u:=by rw[N,List.drop_zero,show a8=T.length-1 by omega,hT,FF]
  have D:ah=em u p:=by rw[Q,List.drop_zero,show aa=A.length/2 by omega,hA,Dk h.red hp.mem hq.mem G]
  have F:ai=em u a:=by rw[S,List.drop_zero,show ab=B.length/2 by omega,hB,Dk h.red ha.mem hb.mem H]
  obtain⟨m,f⟩:=xR (em u (p*a));obtain⟨aC,g⟩:=xN m.length;refine AB K (ih d D F hp ha (by omega) f g) ?_;conv=>cbv
  refine g2 rfl ?_;obtain⟨aF,aG,aD,aE,o⟩:=Ca (((0:Int):Rat));refine AB K (Gi (by omega) rfl o) ?_;conv=>cbv
  obtain⟨k,j⟩:=xR (em u (0));refine AB (r:= .one (.sl AA k)) K (IA h.tail d o (by rw[show Re.ofRat ((0:Int):Rat)=0 from rfl];exact j)) ?_;try conv=>cbv
  have aw:m.length=2^u.length:=by rw[f,B5 (hp.mul h.tail ha).mem]
  have aB:=Eo h.tail.ht;have ax:k.length=2^u.length:=by rw[j,B5 (CZ u)]
  refine .inl ⟨k,fun _=>⟨rfl,g,rfl,by show (m.length+k.length)*64<=140737488355328;(try simp only[List.length_take,List.length_drop]);omega⟩,?_⟩;intro (I:LR) al v;have U:I=(m:LR)++(k:LR):=v.1;have a1:al=List.length (α:=(el AA)) I:=v.2;conv=>cbv
  have n:C=I:=by rw[hC,U,f,j];exact Gk h.red (hp.mul h.tail ha).mem (CZ u) (by rw[G,H,h0,h1];clear ih;grind)
  exact AF ⟨⟨rfl,.inr (.inl ⟨_,_,by decide,rfl,rfl,a1,rfl,E8 (n) (by rw[ad,n])⟩),trivial⟩,trivial⟩
 have a5:=BS J;exact absurd a5 (by omega)
theorem jL (h:Bb R (r::u)) (ih:Nq R u) (hT:T=tw (r::u)) (hA:A=em (r::u) x) (hB:B=em (r::u) y) (hx:El (r::u) s x) (hy:El (r::u) t y) (b7:s+t+EE (r::u).length R<=60000000000000) (m:x=p+q*rt u r) (k:El u s p) (hq:El u s q) (n:y=a+b*rt u r) (ha:El u t a) (hb:El u t b) (h0:q=0) (h1:b≠0) (hC:C=em (r::u) (x*y)) (ak:zn=C.length):CF 247 [.one (.sl (.sl AA) T),.one (.sl AA A),.one (.sl AA B)] (.one (.own AA C zn)):=by
 have b3:EE (r::u).length R=2*EE u.length R+R+2:=rfl;have b5:=El.EX h;have hR:=h.hR;have b6:=DO h.red;have b4:T.length=u.length+1:=by rw[hT,CI];rfl
 have aZ:A.length=2^u.length+2^u.length:=by rw[hA,B5 hx.mem,CW]
 have b0:B.length=2^u.length+2^u.length:=by rw[hB,B5 hy.mem,CW]
 refine Av Tryz.func247 fun E hE=>?_
 conv=>cbv
 rintro bg ⟨aS,f14⟩;conv=>cbv
 intro aw L;conv=>cbv
 cases aw <;> conv=>cbv
 ·have ab:=BR L;rintro bh ⟨aT,f25⟩;conv=>cbv
  intro bj aW;conv=>cbv
  refine g2 ⟨by omega,by omega,i64 (by omega)⟩ ?_;rintro bk ⟨aU,f29⟩;conv=>cbv
  intro bl aX;conv=>cbv
  refine Ah ?_;intro b8 aJ;conv=>cbv
  refine AY ?_;intro ag aD;conv=>cbv
  intro al P;conv=>cbv
  rintro bm ⟨aV,f34⟩;conv=>cbv
  intro ax aY;conv=>cbv
  refine Ah ?_;obtain⟨az,aa⟩:=Ao (l:=T) (i:=(T.length-1)) (by omega);refine⟨az,fun _=>⟨by omega,by rw[show (ax).toNat=(T.length-1) by omega];exact aa⟩,?_⟩;try conv=>cbv
  refine g2 rfl ?_;intro b9 a5;conv=>cbv
  refine AY ?_;rintro ad aP ⟨aA,M⟩;conv=>cbv
  intro an Q;conv=>cbv
  have D:an=em u q:=by rw[Q,show ad=A.length/2 by omega,M,a5,List.take_length,hA,Cz h.red k.mem hq.mem m]
  refine AB hE (Jw h.tail.red hq.mem D h0) ?_;conv=>cbv
  intro ba a6;conv=>cbv
  refine AY ?_;rintro ae aQ ⟨aB,N⟩;conv=>cbv
  intro ao S;conv=>cbv
  have F:ao=em u b:=by rw[S,show ae=B.length/2 by omega,N,a6,List.take_length,hB,Cz h.red ha.mem hb.mem n]
  refine AB hE (Ke h.tail.red hb.mem F h1) ?_;conv=>cbv
  refine g2 rfl ?_;intro bb aK;conv=>cbv
  refine AY ?_;intro ah aE;conv=>cbv
  intro aq U;conv=>cbv
  intro bc aL;conv=>cbv
  refine AY ?_;intro ai aF;conv=>cbv
  intro ar V;conv=>cbv
  have d:al=tw u:=by rw[P,List.drop_zero,show ag=T.length-1 by omega,hT,FF]
  have G:aq=em u p:=by rw[U,List.drop_zero,show ah=A.length/2 by omega,hA,Dk h.red k.mem hq.mem m]
  have H:ar=em u a:=by rw[V,List.drop_zero,show ai=B.length/2 by omega,hB,Dk h.red ha.mem hb.mem n]
  obtain⟨o,f⟩:=xR (em u (p*a));obtain⟨aO,g⟩:=xN o.length;refine AB hE (ih d G H k ha (by omega) f g) ?_;conv=>cbv
  refine g2 rfl ?_;intro bd aM;conv=>cbv
  refine AY ?_;intro aj aG;conv=>cbv
  intro au W;conv=>cbv
  intro bf a7;conv=>cbv
  refine AY ?_;rintro af aR ⟨aC,O⟩;conv=>cbv
  intro av a1;conv=>cbv
  have I:au=em u p:=by rw[W,List.drop_zero,show aj=A.length/2 by omega,hA,Dk h.red k.mem hq.mem m]
  have J:av=em u b:=by rw[a1,show af=B.length/2 by omega,O,a7,List.take_length,hB,Cz h.red ha.mem hb.mem n]
  obtain⟨v,j⟩:=xR (em u (p*b));refine AB hE (Ek (ih d I J k hb (by omega) j rfl)) ?_;conv=>cbv
  have aH:o.length=2^u.length:=by rw[f,B5 (k.mul h.tail ha).mem]
  have aN:=Eo h.tail.ht;have aI:v.length=2^u.length:=by rw[j,B5 (k.mul h.tail hb).mem]
  refine .inl ⟨v,fun _=>⟨rfl,g,rfl,by show (o.length+v.length)*64<=140737488355328;(try simp only[List.length_take,List.length_drop]);omega⟩,?_⟩;intro (K:LR) ay z;have a2:K=(o:LR)++(v:LR):=z.1;have a8:ay=List.length (α:=(el AA)) K:=z.2;conv=>cbv
  refine g2 rfl ?_;have w:C=K:=by rw[hC,a2,f,j];exact Gk h.red (k.mul h.tail ha).mem (k.mul h.tail hb).mem (by rw[m,n,h0];clear ih;grind)
  exact AF ⟨⟨rfl,.inr (.inl ⟨_,_,by decide,rfl,rfl,a8,rfl,E8 (w) (by rw[ak,w])⟩),trivial⟩,trivial⟩
 have ab:=BS L;exact absurd ab (by omega)
theorem jK (h:Bb R (r::u)) (ih:Nq R u) (hT:T=tw (r::u)) (hA:A=em (r::u) x) (hB:B=em (r::u) y) (hx:El (r::u) s x) (hy:El (r::u) t y) (b8:s+t+EE (r::u).length R<=60000000000000) (k:x=p+q*rt u r) (L:El u s p) (J:El u s q) (m:y=a+b*rt u r) (ha:El u t a) (hb:El u t b) (h0:q≠0) (h1:b=0) (hC:C=em (r::u) (x*y)) (al:zn=C.length):CF 247 [.one (.sl (.sl AA) T),.one (.sl AA A),.one (.sl AA B)] (.one (.own AA C zn)):=by
 have b4:EE (r::u).length R=2*EE u.length R+R+2:=rfl;have b6:=El.EX h;have hR:=h.hR;have b7:=DO h.red;have b5:T.length=u.length+1:=by rw[hT,CI];rfl
 have b0:A.length=2^u.length+2^u.length:=by rw[hA,B5 hx.mem,CW]
 have b3:B.length=2^u.length+2^u.length:=by rw[hB,B5 hy.mem,CW]
 refine Av Tryz.func247 fun E hE=>?_
 conv=>cbv
 rintro bh ⟨aT,f14⟩;conv=>cbv
 intro ax M;conv=>cbv
 cases ax <;> conv=>cbv
 ·have ad:=BR M;rintro bj ⟨aU,f25⟩;conv=>cbv
  intro bk aX;conv=>cbv
  refine g2 ⟨by omega,by omega,i64 (by omega)⟩ ?_;rintro bl ⟨aV,f29⟩;conv=>cbv
  intro bm aY;conv=>cbv
  refine Ah ?_;intro b9 aK;conv=>cbv
  refine AY ?_;intro ah aE;conv=>cbv
  intro an Q;conv=>cbv
  rintro bn ⟨aW,f34⟩;conv=>cbv
  intro ay aZ;conv=>cbv
  refine Ah ?_;obtain⟨aA,ab⟩:=Ao (l:=T) (i:=(T.length-1)) (by omega);refine⟨aA,fun _=>⟨by omega,by rw[show (ay).toNat=(T.length-1) by omega];exact ab⟩,?_⟩;try conv=>cbv
  refine g2 rfl ?_;intro ba a6;conv=>cbv
  refine AY ?_;rintro ae aQ ⟨aB,N⟩;conv=>cbv
  intro ao S;conv=>cbv
  have z:ao=em u q:=by rw[S,show ae=A.length/2 by omega,N,a6,List.take_length,hA,Cz h.red L.mem J.mem k]
  refine AB hE (Ke h.tail.red J.mem z h0) ?_;conv=>cbv
  intro bb a7;conv=>cbv
  refine AY ?_;rintro af aR ⟨aC,O⟩;conv=>cbv
  intro aq U;conv=>cbv
  have D:aq=em u b:=by rw[U,show af=B.length/2 by omega,O,a7,List.take_length,hB,Cz h.red ha.mem hb.mem m]
  refine AB hE (Jw h.tail.red hb.mem D h1) ?_;conv=>cbv
  refine g2 rfl ?_;intro bc aL;conv=>cbv
  refine AY ?_;intro ai aF;conv=>cbv
  intro ar V;conv=>cbv
  intro bd aM;conv=>cbv
  refine AY ?_;intro aj aG;conv=>cbv
  intro au W;conv=>cbv
  have d:an=tw u:=by rw[Q,List.drop_zero,show ah=T.length-1 by omega,hT,FF]
  have F:ar=em u p:=by rw[V,List.drop_zero,show ai=A.length/2 by omega,hA,Dk h.red L.mem J.mem k]
  have G:au=em u a:=by rw[W,List.drop_zero,show aj=B.length/2 by omega,hB,Dk h.red ha.mem hb.mem m]
  obtain⟨n,f⟩:=xR (em u (p*a));obtain⟨aP,g⟩:=xN n.length;refine AB hE (ih d F G L ha (by omega) f g) ?_;conv=>cbv
  refine g2 rfl ?_;intro bf a8;conv=>cbv
  refine AY ?_;rintro ag aS ⟨aD,P⟩;conv=>cbv
  intro av a1;conv=>cbv
  intro bg aN;conv=>cbv
  refine AY ?_;intro ak aH;conv=>cbv
  intro aw a2;conv=>cbv
  have H:av=em u q:=by rw[a1,show ag=A.length/2 by omega,P,a8,List.take_length,hA,Cz h.red L.mem J.mem k]
  have I:aw=em u a:=by rw[a2,List.drop_zero,show ak=B.length/2 by omega,hB,Dk h.red ha.mem hb.mem m]
  obtain⟨o,j⟩:=xR (em u (q*a));refine AB hE (Ek (ih d H I J ha (by omega) j rfl)) ?_;conv=>cbv
  have aI:n.length=2^u.length:=by rw[f,B5 (L.mul h.tail ha).mem]
  have aO:=Eo h.tail.ht;have aJ:o.length=2^u.length:=by rw[j,B5 (J.mul h.tail ha).mem]
  refine .inl ⟨o,fun _=>⟨rfl,g,rfl,by show (n.length+o.length)*64<=140737488355328;(try simp only[List.length_take,List.length_drop]);omega⟩,?_⟩;intro (K:LR) az w;have a5:K=(n:LR)++(o:LR):=w.1;have aa:az=List.length (α:=(el AA)) K:=w.2;conv=>cbv
  refine g2 rfl ?_;have v:C=K:=by rw[hC,a5,f,j];exact Gk h.red (L.mul h.tail ha).mem (J.mul h.tail ha).mem (by rw[k,m,h1];clear ih;grind)
  exact AF ⟨⟨rfl,.inr (.inl ⟨_,_,by decide,rfl,rfl,aa,rfl,E8 (v) (by rw[al,v])⟩),trivial⟩,trivial⟩
 have ad:=BS M;exact absurd ad (by omega)
theorem jJ (h:Bb R (r::u)) (ih:Nq R u) (hT:T=tw (r::u)) (hA:A=em (r::u) x) (hB:B=em (r::u) y) (hx:El (r::u) s x) (hy:El (r::u) t y) (bT:s+t+EE (r::u).length R<=60000000000000) (m:x=p+q*rt u r) (k:El u s p) (f:El u s q) (n:y=a+b*rt u r) (ha:El u t a) (hb:El u t b) (h0:q≠0) (h1:b≠0) (hC:C=em (r::u) (x*y)) (b4:zn=C.length):CF 247 [.one (.sl (.sl AA) T),.one (.sl AA A),.one (.sl AA B)] (.one (.own AA C zn)):=by
 have bQ:EE (r::u).length R=2*EE u.length R+R+2:=rfl;have M:=El.EX h;have hR:=h.hR;have bS:=DO h.red;have bR:T.length=u.length+1:=by rw[hT,CI];rfl
 have bO:A.length=2^u.length+2^u.length:=by rw[hA,B5 hx.mem,CW]
 have bP:B.length=2^u.length+2^u.length:=by rw[hB,B5 hy.mem,CW]
 refine Av Tryz.func247 fun E H=>?_
 conv=>cbv
 rintro c1 ⟨bH,f14⟩;conv=>cbv
 intro bc ao;conv=>cbv
 cases bc <;> conv=>cbv
 ·have aH:=BR ao;rintro c2 ⟨bI,f25⟩;conv=>cbv
  intro c3 bL;conv=>cbv
  refine g2 ⟨by omega,by omega,i64 (by omega)⟩ ?_;rintro c4 ⟨bJ,f29⟩;conv=>cbv
  intro c5 bM;conv=>cbv
  refine Ah ?_;intro bU bq;conv=>cbv
  refine AY ?_;intro aS bm;conv=>cbv
  intro b5 aw;conv=>cbv
  rintro c6 ⟨bK,f34⟩;conv=>cbv
  intro bd bN;conv=>cbv
  refine Ah ?_;obtain⟨aN,D⟩:=Ao (l:=T) (i:=(T.length-1)) (by omega);refine⟨aN,fun _=>⟨by omega,by rw[show (bd).toNat=(T.length-1) by omega];exact D⟩,?_⟩;try conv=>cbv
  refine g2 rfl ?_;intro bV aD;conv=>cbv
  refine AY ?_;rintro aO bD ⟨bh,aq⟩;conv=>cbv
  intro b6 ax;conv=>cbv
  have a7:b6=em u q:=by rw[ax,show aO=A.length/2 by omega,aq,aD,List.take_length,hA,Cz h.red k.mem f.mem m]
  refine AB H (Ke h.tail.red f.mem a7 h0) ?_;conv=>cbv
  intro bW aE;conv=>cbv
  refine AY ?_;rintro aP bE ⟨bj,ar⟩;conv=>cbv
  intro b7 ay;conv=>cbv
  have a8:b7=em u b:=by rw[ay,show aP=B.length/2 by omega,ar,aE,List.take_length,hB,Cz h.red ha.mem hb.mem n]
  refine AB H (Ke h.tail.red hb.mem a8 h1) ?_;conv=>cbv
  refine g2 rfl ?_;intro bX br;conv=>cbv
  refine AY ?_;intro aT bn;conv=>cbv
  intro b8 az;conv=>cbv
  intro bY bs;conv=>cbv
  refine AY ?_;intro aU bo;conv=>cbv
  intro b9 aA;conv=>cbv
  have d:b5=tw u:=by rw[aw,List.drop_zero,show aS=T.length-1 by omega,hT,FF]
  have aa:b8=em u p:=by rw[az,List.drop_zero,show aT=A.length/2 by omega,hA,Dk h.red k.mem f.mem m]
  have ab:b9=em u a:=by rw[aA,List.drop_zero,show aU=B.length/2 by omega,hB,Dk h.red ha.mem hb.mem n]
  obtain⟨c7,P⟩:=xR (em u (p*a));refine AB H (Ek (ih d aa ab k ha (by omega) P rfl)) ?_;conv=>cbv
  refine g2 rfl ?_;intro bZ aF;conv=>cbv
  refine AY ?_;rintro aQ bF ⟨bk,au⟩;conv=>cbv
  intro ba aB;conv=>cbv
  intro c0 aG;conv=>cbv
  refine AY ?_;rintro aR bG ⟨bl,av⟩;conv=>cbv
  intro bb aC;conv=>cbv
  have ad:ba=em u q:=by rw[aB,show aQ=A.length/2 by omega,au,aF,List.take_length,hA,Cz h.red k.mem f.mem m]
  have ae:bb=em u b:=by rw[aC,show aR=B.length/2 by omega,av,aG,List.take_length,hB,Cz h.red ha.mem hb.mem n]
  obtain⟨c8,Q⟩:=xR (em u (q*b));refine AB H (Ek (ih d ad ae f hb (by omega) Q rfl)) ?_;conv=>cbv
  have ai:aN=em u (Al u r):=by rw[hT,HD] at D;exact (Option.some.inj D).symm.trans (Ff h.red)
  obtain⟨c9,S⟩:=xR (em u (q*b*Al u r));refine AB H (Ek (ih d Q ai (f.mul h.tail hb) M (by omega) S rfl)) ?_;conv=>cbv
  obtain⟨N,w⟩:=xR (em u (p*a+q*b*Al u r));obtain⟨bC,z⟩:=xN N.length;refine AB H (XW h.tail P S (k.mul h.tail ha) ((f.mul h.tail hb).mul h.tail M) (by omega) (by omega) w z) ?_;conv=>cbv
  refine g2 rfl ?_;intro bu b0;conv=>cbv
  refine AY ?_;intro al aX;conv=>cbv
  intro aI W;conv=>cbv
  intro bw af;conv=>cbv
  refine AY ?_;rintro aj bf ⟨aV,U⟩;conv=>cbv
  intro aJ a1;conv=>cbv
  have I:aI=em u p:=by rw[W,List.drop_zero,show al=A.length/2 by omega,hA,Dk h.red k.mem f.mem m]
  have J:aJ=em u b:=by rw[a1,show aj=B.length/2 by omega,U,af,List.take_length,hB,Cz h.red ha.mem hb.mem n]
  obtain⟨bA,o⟩:=xR (em u (p*b));refine AB H (Ek (ih d I J k hb (by omega) o rfl)) ?_;conv=>cbv
  intro bx ag;conv=>cbv
  refine AY ?_;rintro ak bg ⟨aW,V⟩;conv=>cbv
  intro aK a2;conv=>cbv
  intro bz b3;conv=>cbv
  refine AY ?_;intro an aY;conv=>cbv
  intro aL a5;conv=>cbv
  have K:aK=em u q:=by rw[a2,show ak=A.length/2 by omega,V,ag,List.take_length,hA,Cz h.red k.mem f.mem m]
  have L:aL=em u a:=by rw[a5,List.drop_zero,show an=B.length/2 by omega,hB,Dk h.red ha.mem hb.mem n]
  obtain⟨bB,v⟩:=xR (em u (q*a));refine AB H (Ek (ih d K L f ha (by omega) v rfl)) ?_;conv=>cbv
  obtain⟨j,g⟩:=xR (em u (p*b+q*a));refine AB H (LZ h.tail o v (k.mul h.tail hb) (f.mul h.tail ha) (by omega) (by omega) g) ?_;conv=>cbv
  have bp:N.length=2^u.length:=by rw[w,B5 (ES (k.mul h.tail ha).mem ((f.mul h.tail hb).mul h.tail M).mem)]
  have aZ:j.length=2^u.length:=by rw[g,B5 (ES (k.mul h.tail hb).mem (f.mul h.tail ha).mem)]
  have bt:=Eo h.tail.ht;refine .inl ⟨j,fun _=>⟨rfl,z,rfl,by show (N.length+j.length)*64<=140737488355328;(try simp only[List.length_take,List.length_drop]);omega⟩,?_⟩;intro (F:LR) aM G;have a6:F=(N:LR)++(j:LR):=G.1;have ah:aM=List.length (α:=(el AA)) F:=G.2;conv=>cbv
  refine g2 rfl ?_;have O:C=F:=by rw[hC,a6,w,g];exact Gk h.red (ES (k.mul h.tail ha).mem ((f.mul h.tail hb).mul h.tail M).mem) (ES (k.mul h.tail hb).mem (f.mul h.tail ha).mem) (by rw[m,n];clear ih;grind)
  exact AF ⟨⟨rfl,.inr (.inl ⟨_,_,by decide,rfl,rfl,ah,rfl,E8 (O) (by rw[b4,O])⟩),trivial⟩,trivial⟩
 have aH:=BS ao;exact absurd aH (by omega)
theorem fR (h:Bb R u):Nq R u:=by
 induction u with
 | nil=>
  intro T A B C zn s t x y z m n k l f o d;obtain⟨p,rfl⟩:=Dl.1 k.mem;obtain⟨q,rfl⟩:=Dl.1 l.mem;rw[Fc] at m n;rw[<-Re.ofRat_mul,Fc] at o;have v:=k.Cg (by omega);have w:=l.Cg (by omega);rw[Ew] at v w;exact jI z m n (v _ List.mem_cons_self) (w _ List.mem_cons_self) o d
 | cons r u G=>
  intro T A B C zn s t x y z m n k l f o d;obtain⟨p,q,g,v,w⟩:=El.parts h.red k;obtain⟨a,b,j,ha,hb⟩:=El.parts h.red l
  by_cases F:q=0
  ·by_cases D:b=0
   ·exact jM h (G h.tail) z m n k l f g v w j ha hb F D o d
   exact jL h (G h.tail) z m n k l f g v w j ha hb F D o d
  by_cases D:b=0
  ·exact jK h (G h.tail) z m n k l f g v w j ha hb F D o d
  exact jJ h (G h.tail) z m n k l f g v w j ha hb F D o d
theorem FY (h:Bb R u) (k:T=tw u) (f:A=em u x) (g:B=em u y) (l:El u s x) (m:El u t y) (d:s+t+EE u.length R<=60000000000000) (j:C=em u (x*y)):
 CF 247 [.one (.sl (.sl AA) T),.one (.sl AA A),.one (.sl AA B)] (.one (.sl AA C)):=Ek (fR h k f g l m d j rfl)
end Go.Abs
namespace Go.Abs
open Go.RowKit Go.Shelf Go.Proofs
def Qt:Ren:=⟨fun k=>if k=4 then 380 else 0,fun k=>if k=3 then 3 else if k=4 then 4 else if k=9 then 9 else if k=20 then 20 else if k=22 then 30 else if k=25 then 171 else 0,fun k=>k⟩
theorem mH:Lays8.n4 Tryz.prog Qt where
 mixed:=Mw
 f4:=⟨Tryz.f380.name,by kernel_rfl,by kernel_rfl⟩
 t0:=by kernel_rfl
 a0:=by intro w;kernel_rfl
 z0:=by intro w;kernel_rfl
 v0:=by intro w;kernel_rfl
 t3:=by kernel_rfl
 a3:=by intro w;kernel_rfl
 z3:=by intro w;kernel_rfl
 v3:=by intro w;kernel_rfl
 t4:=by kernel_rfl
 a4:=by intro w;kernel_rfl
 z4:=by intro w;kernel_rfl
 v4:=by intro w;kernel_rfl
 t9:=by kernel_rfl
 a9:=by intro w;kernel_rfl
 z9:=by intro w;kernel_rfl
 v9:=by intro w;kernel_rfl
 t20:=by kernel_rfl
 a20:=by intro w;kernel_rfl
 z20:=by intro w;kernel_rfl
 v20:=by intro w;kernel_rfl
 t22:=by kernel_rfl
 a22:=by intro w;kernel_rfl
 z22:=by intro w;kernel_rfl
 v22:=by intro w;kernel_rfl
theorem fk {n:Int} {k:Nat} (K:BG n k) (J:0<k) (O:k<=1000000:=by omega):CF 380 [.one .nil,.one (.int .i64 n)] (.one (.own AA [] 0)):=by
 refine⟨⟨_,_,Tryz.func380,by kernel_rfl,rfl⟩,⟨rfl,rfl⟩,?_⟩;intro w I vs N g
 match vs,g with
 | [v1,v2],⟨v,D,_⟩=>
  have e1:v1= .slice none 0 0:=by rcases v with h | h;cases h;exact h
  have e2:v2= .int .i64 k:=by rcases D with h | h;cases h;rw[<-K.eq];exact h
  subst e1;subst e2;obtain⟨_,i0,z,f,L,hb,_,j,m⟩:=(PO 30).sl rfl
  have l:z.cells.size=4:=by
   have:=(m (E7 w I)).length;rw[Ij] at this;have e:(TI 30).elem.size=4:=rfl;rw[e] at this;simpa using this.symm
  have d:i0.bytes=64:=hb;have M:i0.size=4:=L;have hc:=Any8.slices_Grow_grow mH i0 z f j (by omega) none 0 0 k [] w (by omega) (by omega) (by rw[d];omega) (by omega) (by simp) (fun _=>rfl) (fun a h=>by cases h);refine hc.mono fun e w' ⟨he,hw⟩=>?_
  have F:=grownCap_ge w (0+k) 0 (Qt.t 25);have hle:=grownCap_le_maxLen w (0+k) 0 (Qt.t 25) (by unfold maxLen;omega)
  generalize grownCap w (0+k) 0 (Qt.t 25)=G at*
  subst hw
  have H:∀o:Obj,(w.drew.alloc o).heap[w.heap.size]? =some o:=fun o=>by
   show (w.heap.push o)[w.heap.size]? =_
   rw[Array.getElem?_push,if_pos rfl]
  refine⟨_,some w.heap.size,he,((Below.refl _ _).drew).alloc (Nat.le_refl _) _,.inr ⟨rfl,_,_,rfl,Nat.zero_le _,hle,Nat.zero_le _,.inr ⟨_,_,_,rfl,Nat.le_refl _,rfl,H _,?_,fun i y h=>by simp at h⟩⟩⟩
  show G*4<=_
  simp[size_zeroCells,l];omega
end Go.Abs
namespace Go.Abs
open Go.RowKit
variable {Z x:LR} {zn:Nat}
theorem ZV {X:List LR} {i:Nat} (h:X[i]? =some x):(X.take (i+1)).flatten=(X.take i).flatten++x:=by
 rw[Cb h,List.flatten_append];simp
theorem ZU {X:List LR} {i m:Nat} (h:X[i]? =some x) (hm:m=(X.take i).flatten.length):m+x.length=(X.take (i+1)).flatten.length:=by
 rw[ZV h,List.length_append,hm]
theorem ZT (X:List LR) (i:Nat):(X.take i).flatten.length<=X.flatten.length:=by
 conv=>rhs;rw[<-List.take_append_drop i X,List.flatten_append,List.length_append]
 omega
theorem Wn {X:LR} (v:X.length<=1000000) (g:zn=X.length):CF 239 [.one (.sl AA X)] (.one (.own AA X zn)):=by
 refine Av Tryz.func239 fun E o=>?_
 conv=>cbv
 intro n4 m;conv=>cbv
 refine⟨fun l=>?_,?_⟩
 ·conv=>cbv
  have d:X=[]:=by rw[m] at l;simpa using l
  exact AF ⟨⟨rfl,.inr (.inr ⟨_,E8 (d) (by rw[g,d];rfl)⟩),trivial⟩,trivial⟩
 refine⟨[],fun _=>⟨rfl,by decide,rfl,trivial⟩,.inl ?_⟩;try conv=>cbv
 refine .inl ⟨X,fun _=>⟨rfl,by (first | rfl | omega),rfl,by show (0+X.length)*64<=140737488355328;(try simp only[List.length_take,List.length_drop]);omega⟩,?_⟩;intro (k:LR) n h;have f:k=([]:LR)++(X:LR):=h.1;have j:n=List.length (α:=(el AA)) k:=h.2;conv=>cbv
 exact AF ⟨⟨rfl,.inr (.inl ⟨_,_,by decide,rfl,rfl,by rw[j],rfl,E8 (by rw[f];simp) (by rw[g,f];simp)⟩),trivial⟩,trivial⟩
theorem Wl {X:LR} (d:X.length<=1000000):CF 239 [.one (.sl AA X)] (.one (.sl AA X)):=Ek (Wn d rfl)
theorem fZ {X:List LR} (h0:0<X.flatten.length) (hX:X.flatten.length<=1000000) (hZ:Z=X.flatten) (a2:zn=Z.length):CF 361 [.one (.sl (.sl AA) X)] (.one (.own AA Z zn)):=by
 refine Av Tryz.func361 fun E hE=>?_
 conv=>cbv
 intro a7 n;have ah:=n.eq;have f10:=n.le;conv=>cbv
 refine .inr ?_;obtain⟨J0,w⟩:=xJ fun vs U k=>∃(i' m':Nat) (m L i:Int),vs=[.one (.sl (.sl AA) X),.one (.int .i64 m),.one (.sl (.sl AA) X),.one (.int .i64 L),.one (.int .i64 i)]/\(EY L X.length/\BG i i'/\i'<=X.length/\BG m m')/\m'=(X.take i').flatten.length/\k=X.length-i'
 refine⟨[0,3,9,10,11],[],J0,⟨X.length-0,by rw[w];exact⟨0,0,0,a7,0,rfl,⟨n,Bv 0,by omega,Bv 0⟩,rfl,rfl⟩⟩,?_⟩;intro vs U au K;rw[w] at K;obtain⟨i',m',m,L,i,rfl,⟨I,W,a1,hm⟩,hinv,aq⟩:=K;conv=>cbv
 have eL:=I.eq;have ei:=W.eq;have em:=hm.eq;intro a8 F;conv=>cbv
 cases a8 <;> conv=>cbv
 ·have a5:=BX F;have ao:m'=X.flatten.length:=by rw[hinv,show i'=X.length by omega,List.take_length]
  refine AB hE (fk hm (by omega)) ?_;conv=>cbv
  intro ae v;have aj:=v.eq;have f26:=v.le;conv=>cbv
  refine .inr ?_;obtain⟨J1,z⟩:=xJ fun vs U k=>∃(i' mm:Nat) (o:LR) (L i:Int),vs=[.one (.BI AA 24 0 0 mm),.one (.sl (.sl AA) X),.one (.int .i64 L),.one (.int .i64 i)]/\U=[.arr 0 AA o]/\(EY L X.length/\BG i i'/\i'<=X.length/\mm=o.length)/\o=(X.take i').flatten/\k=X.length-i'
  refine⟨[6,25,26,27],[24],J1,⟨X.length-0,by rw[z];exact⟨0,0,[],ae,0,rfl,rfl,⟨v,Bv 0,by omega,rfl⟩,rfl,rfl⟩⟩,?_⟩;intro vs U av K;rw[z] at K;obtain⟨i',mm,o,L,i,rfl,rfl,⟨I,W,a1,N⟩,hinv,ar⟩:=K;conv=>cbv
  have eL:=I.eq;have ei:=W.eq;intro af H;conv=>cbv
  cases af <;> conv=>cbv
  ·have a6:=BX H;have g:Z=o:=by rw[hZ,hinv,show i'=X.length by omega,List.take_length]
   exact AF ⟨⟨rfl,.inr (.inl ⟨_,_,by decide,rfl,rfl,N,rfl,E8 (g) (by rw[a2,g])⟩),trivial⟩,trivial⟩
  have a6:=BY H;refine .inr ?_;obtain⟨f,d⟩:=Ao (l:=X) (i:=i') (by omega);refine⟨f,fun _=>⟨by omega,by rw[show (i).toNat=i' by omega];exact d⟩,?_⟩;try conv=>cbv
  have J:=ZU d (congrArg _ hinv);have V:=ZT X (i'+1);refine .inl ⟨f,fun _=>⟨rfl,N,rfl,by show (o.length+f.length)*64<=140737488355328;(try simp only[List.length_take,List.length_drop]);omega⟩,?_⟩;intro (D:LR) Q j;have M:D=(o:LR)++(f:LR):=j.1;have O:Q=List.length (α:=(el AA)) D:=j.2;conv=>cbv
  intro ag an;conv=>cbv
  refine Ah ?_;refine⟨X.length-(i'+1),?_,?_⟩
  ·omega
  rw[z];exact⟨i'+1,Q,D,L,ag,rfl,rfl,⟨I,⟨by omega⟩,by omega,by rw[O]⟩,by rw[M,hinv,ZV d],rfl⟩
 have a5:=BY F;refine .inr ?_;obtain⟨S,h⟩:=Ao (l:=X) (i:=i') (by omega);refine⟨S,fun _=>⟨by omega,by rw[show (i).toNat=i' by omega];exact h⟩,?_⟩;try conv=>cbv
 rintro aw ⟨ai,f17⟩;conv=>cbv
 have J:=ZU h hinv;have V:=ZT X (i'+1);intro aa ak;conv=>cbv
 refine Ah ?_;intro ab G;conv=>cbv
 refine .inr ?_;cases ab <;> conv=>cbv
 ·have P:=BX G;intro ad al;conv=>cbv
  refine Ah ?_;refine⟨X.length-(i'+1),?_,?_⟩
  ·omega
  rw[w];exact⟨i'+1,m'+S.length,aa,L,ad,rfl,⟨I,⟨by omega⟩,by omega,⟨by omega⟩⟩,J,rfl⟩
 have P:=BY G;exact absurd P (by omega)
theorem QS {A B:LR} (f:0<A.length) (g:A.length+B.length<=1000000) (d:Z=A++B):CF 361 [.one (.sl (.sl AA) [A,B])] (.one (.sl AA Z)):=
 Ek (fZ (X:=[A,B]) (by simp;omega) (by simp;omega) (by simp[d]) rfl)
end Go.Abs
namespace Go.Abs
open Go.RowKit
def XD (f:FuncId) (R:Nat) (u:List (List Rat)):Prop:=∀{T:List LR} {A:LR} {s:Nat} {x:Re} {c:Int},T=tw u->A=em u x->El u s x->VV u.length R s<=60000000000000->c=Bi x->
 CF f [.one (.sl (.sl AA) T),.one (.sl AA A)] (.one (.int .i64 c))
variable {A:LR} {R s:Nat} {T:List LR} {c:Int} {u:List (List Rat)} {x:Re}
theorem sj {p:Rat} (w:T=[]) (n:A=[rp p]) (hc:c=GB p):CF 231 [.one (.sl (.sl AA) T),.one (.sl AA A)] (.one (.int .i64 c)):=by
 refine Av Tryz.func231 fun E v=>?_
 conv=>cbv
 rintro z ⟨j,f14⟩;conv=>cbv
 intro k g;conv=>cbv
 cases k <;> conv=>cbv
 ·have h:=BR g;exact absurd (by rw[j,w];rfl) h
 have h:=BS g;have o:A.length=1:=by rw[n];rfl
 obtain⟨m,f⟩:=Ao (l:=A) (i:=0) (by omega);refine⟨m,fun _=>⟨by omega,f⟩,?_⟩;try conv=>cbv
 obtain⟨D,d⟩:=xI (GB p);refine AB v (Po (Gb n f) d) ?_;conv=>cbv
 exact AF ⟨⟨rfl,congrArg _ (hc.trans d.symm),trivial⟩,trivial⟩
theorem sk {r:List Rat} (h:Bb R (r::u)) (ih:XD 231 R u) (hT:T=tw (r::u)) (hA:A=em (r::u) x) (hx:El (r::u) s x) (hs:VV (r::u).length R s<=60000000000000) (hc:c=Bi x):CF 231 [.one (.sl (.sl AA) T),.one (.sl AA A)] (.one (.int .i64 c)):=by
 obtain⟨p,q,m,w,o⟩:=El.parts h.red hx;have aD:T.length=u.length+1:=by rw[hT,CI];rfl
 have aC:A.length=2^u.length+2^u.length:=by rw[hA,B5 hx.mem,CW]
 have aF:VV (r::u).length R s=VV u.length R (2*s+2*EE u.length R+R+1):=rfl;have aG:=HZ u.length R (2*s+2*EE u.length R+R+1);have aE:=Jt u.length R (s:=s) (t:=2*s+2*EE u.length R+R+1) (by omega);have hN:=El.norm h w.mem o.mem (m ▸ hx);have a5:=El.EX h;have v:=dQ h.red;have ae:=DO h.red;refine Av Tryz.func231 fun E I=>?_
 conv=>cbv
 rintro aK ⟨ax,f14⟩;conv=>cbv
 intro ai N;conv=>cbv
 cases ai <;> conv=>cbv
 ·have a6:=BR N;rintro aL ⟨ay,f21⟩;conv=>cbv
  intro a7 aA;conv=>cbv
  refine Ah ?_;rintro aM ⟨az,f24⟩;conv=>cbv
  intro aN aB;conv=>cbv
  refine g2 ⟨by omega,by omega,i64 (by omega)⟩ ?_;intro aH au;conv=>cbv
  refine AY ?_;intro ab aq;conv=>cbv
  intro af V;conv=>cbv
  intro aI av;conv=>cbv
  refine AY ?_;intro ad ar;conv=>cbv
  intro ag W;conv=>cbv
  intro aJ a2;conv=>cbv
  refine AY ?_;rintro aa aw ⟨ao,U⟩;conv=>cbv
  intro ah a1;conv=>cbv
  refine g2 rfl ?_;have d:af=tw u:=by rw[V,List.drop_zero,show ab=T.length-1 by omega,hT,FF]
  have j:ag=em u p:=by rw[W,List.drop_zero,show ad=A.length/2 by omega,hA,Dk h.red w.mem o.mem m]
  have k:ah=em u q:=by rw[a1,show aa=A.length/2 by omega,U,a2,List.take_length,hA,Cz h.red w.mem o.mem m]
  obtain⟨aP,f⟩:=xI (Bi p);refine AB I (ih d j w (by omega) f) ?_;conv=>cbv
  obtain⟨aQ,g⟩:=xI (Bi q);refine AB I (ih d k o (by omega) g) ?_;conv=>cbv
  refine .inr ?_;intro aj O;conv=>cbv
  cases aj <;> conv=>cbv
  ·have K:=BR O;intro ak P;conv=>cbv
   cases ak <;> conv=>cbv
   ·have L:=BR P;intro al Q;conv=>cbv
    cases al <;> conv=>cbv
    ·have M:=BR Q;obtain⟨aR,z⟩:=xR (em u (p*p));refine AB I (JG h.tail d j j w w (by omega) z) ?_;conv=>cbv
     obtain⟨a8,H⟩:=Ao (l:=T) (i:=(a7).toNat) (by omega);refine⟨a8,fun _=>⟨by omega,H⟩,?_⟩;try conv=>cbv
     have J:a8=Be r:=by have:=HD r u;rw[<-hT,show T.length-1=a7.toNat by omega,H] at this;exact Option.some.inj this
     obtain⟨aS,D⟩:=xR (em u (q*q));refine AB I (JG h.tail d k k o o (by omega) D) ?_;conv=>cbv
     obtain⟨aT,F⟩:=xR (em u (Al u r*(q*q)));refine AB I (JG h.tail d (J.trans (Ff h.red)) D a5 (o.mul h.tail o) (by omega) F) ?_;conv=>cbv
     obtain⟨aU,G⟩:=xR (em u (p*p-Al u r*(q*q)));refine AB I (Pq h.tail d z F (w.mul h.tail w) (a5.mul h.tail (o.mul h.tail o)) (by omega) (by omega) G) ?_;conv=>cbv
     refine g2 rfl ?_;obtain⟨an,n⟩:=xI (Bi (p*p-q*q*Al u r));refine AB (r:= .one (.int .i64 an)) I (ih d (G.trans (by congr 1;clear ih;grind)) hN (by omega) n) ?_;try conv=>cbv
     intro aO S;conv=>cbv
     refine⟨fun _=>by rw[S,f,n];exact de _ _,?_⟩;exact AF ⟨⟨rfl,congrArg _ (by rw[hc,S,f,n,m];exact dg v ae (fun e=>M (by rw[f,e];exact GA)) (fun e=>K (by rw[g,e];exact GA)) (by rw[<-f,<-g];exact L)),trivial⟩,trivial⟩
    have M:=BS Q;exact AF ⟨⟨rfl,congrArg _ (by rw[hc,g,m];exact dh v (FV.1 (f ▸ M))),trivial⟩,trivial⟩
   have L:=BS P;exact AF ⟨⟨rfl,congrArg _ (by rw[hc,f,m];exact SE v (.inr (by rw[<-f,<-g];exact L))),trivial⟩,trivial⟩
  have K:=BS O;exact AF ⟨⟨rfl,congrArg _ (by rw[hc,f,m];exact SE v (.inl (FV.1 (g ▸ K)))),trivial⟩,trivial⟩
 have a6:=BS N;exact absurd a6 (by omega)
theorem fD (h:Bb R u):XD 231 R u:=by
 induction u with
 | nil=>
  intro T A s x c f d g j hc;obtain⟨p,rfl⟩:=Dl.1 g.mem;rw[Fc] at d;exact sj f d (hc.trans (df p))
 | cons r u k=>
  intro T A s x c f d g j hc;exact sk h (k h.tail) f d g j hc
theorem gp (h:Bb R u) (v:T=tw u) (hs:VV u.length R R<=60000000000000):CF 275 [.one (.sl (.sl AA) T)] (.one (.bool true)):=by
 have a8:T.length=u.length:=by rw[v,CI]
 have H:El u 0 0:=El.rat h.red Gz;refine Av Tryz.func275 fun E M=>?_
 conv=>cbv
 obtain⟨ah,ai,af,ag,I⟩:=Ca (((0:Int):Rat));refine AB M (JH (by omega) rfl I) ?_;conv=>cbv
 obtain⟨w8,G⟩:=xR (em u (0));refine AB M (LV h v I ⟨by decide +kernel,by decide +kernel⟩ G) ?_;conv=>cbv
 refine AB (r:= .one (.bool true)) M (Jp v h.H7 G (H.Cg (by omega)) (by rw[H.len,List.length_reverse];exact (decide_eq_true rfl).symm)) ?_;try conv=>cbv
 refine AR ?_;conv=>cbv
 intro S g;have a6:=g.eq;have f12:=g.le;conv=>cbv
 refine .inr ?_;obtain⟨J0,j⟩:=xJ fun vs bl k=>∃(i':Nat) (L i:Int),vs=[.one (.sl (.sl AA) T),.one (.sl (.sl AA) T),.one (.int .i64 L),.one (.int .i64 i)]/\(EY L T.length/\BG i i'/\i'<=T.length)/\k=T.length-i'
 refine⟨[0,11,12,13],[],J0,⟨T.length-0,by rw[j];exact⟨0,S,0,rfl,⟨g,Bv 0,by omega⟩,rfl⟩⟩,?_⟩;intro vs bl ad hj;rw[j] at hj;obtain⟨i',L,i,rfl,⟨hL,hi,aa⟩,ab⟩:=hj;conv=>cbv
 have eL:=hL.eq;have ei:=hi.eq;intro U n;conv=>cbv
 cases U <;> conv=>cbv
 ·have P:=BX n;exact AF ⟨t2,trivial⟩
 have P:=BY n;refine .inr ?_;obtain⟨K,f⟩:=Ao (l:=T) (i:=i') (by omega);refine⟨K,fun _=>⟨by omega,by rw[show (i).toNat=i' by omega];exact f⟩,?_⟩;try conv=>cbv
 obtain⟨r,F,D⟩:=LG (u:=u) (i:=i') (by omega);have z:BF (r::pre u i'):=F ▸ (h.pre (i'+1)).red;have O:K=Be r:=by rw[<-v,f] at D;exact Option.some.inj D
 intro ae a5;conv=>cbv
 refine AY ?_;intro N a2;conv=>cbv
 intro Q w;conv=>cbv
 have m:Q=tw (pre u i'):=by rw[w,List.drop_zero,show N=i' by omega,v,KH]
 obtain⟨a1,d⟩:=xI (Bi (Al (pre u i') r));refine AB (r:= .one (.int .i64 a1)) M (fD (h.pre i') m (O.trans (Ff z)) (El.EX (F ▸ h.pre (i'+1))) (by rw[LF (by omega)];exact Nat.le_trans (No (by omega) R R) hs) d) ?_;try conv=>cbv
 intro V o;conv=>cbv
 cases V <;> conv=>cbv
 ·have J:=Mp o;intro W a7;conv=>cbv
  refine Ah ?_;refine⟨T.length-(i'+1),?_,?_⟩
  ·omega
  rw[j];exact⟨i'+1,L,W,rfl,⟨hL,⟨by omega⟩,by omega⟩,rfl⟩
 have J:=Mq o;exact absurd J (by rw[d,EI z.2.2.1];omega)
theorem mF {L:List LR} (h:Bb R u) (G:T=tw u) (S:VV u.length R R<=60000000000000) (N:∀l∈L,∃x,l=em u x/\El u s x) (o:s<=60000000000000:=by omega):CF 230 [.one (.sl (.sl AA) T),.one (.sl (.sl AA) L)] (.one (.bool true)):=by
 refine Av Tryz.func230 fun E F=>?_
 conv=>cbv
 intro V n;have W:=n.eq;have f8:=n.le;conv=>cbv
 refine .inr ?_;obtain⟨J,f⟩:=xJ fun vs K k=>∃(i':Nat) (m i:Int),vs=[.one (.sl (.sl AA) T),.one (.sl (.sl AA) L),.one (.int .i64 m),.one (.int .i64 i)]/\(EY m L.length/\BG i i'/\i'<=L.length)/\k=L.length-i'
 refine⟨[0,7,8,9],[],J,⟨L.length-0,by rw[f];exact⟨0,V,0,rfl,⟨n,Bv 0,by omega⟩,rfl⟩⟩,?_⟩;intro vs K U H;rw[f] at H;obtain⟨i',m,i,rfl,⟨hm,O,P⟩,Q⟩:=H;conv=>cbv
 have em:=hm.eq;have ei:=O.eq;intro z g;conv=>cbv
 cases z <;> conv=>cbv
 ·have w:=BX g;refine AB F (gp h G S) ?_;conv=>cbv
  exact AF ⟨t2,trivial⟩
 have w:=BY g;refine .inr ?_;obtain⟨j,d⟩:=Ao (l:=L) (i:=i') (by omega);refine⟨j,fun _=>⟨by omega,by rw[show (i).toNat=i' by omega];exact d⟩,?_⟩;try conv=>cbv
 obtain⟨x,v,I⟩:=N j (List.mem_of_getElem? d);refine AB (r:= .one (.bool true)) F (Jp G h.H7 v (I.Cg o) (by rw[I.len,List.length_reverse];exact (decide_eq_true rfl).symm)) ?_;try conv=>cbv
 refine AR ?_;conv=>cbv
 intro D M;conv=>cbv
 refine Ah ?_;refine⟨L.length-(i'+1),?_,?_⟩
 ·omega
 rw[f];exact⟨i'+1,m,D,rfl,⟨hm,⟨by omega⟩,by omega⟩,rfl⟩
theorem Nl (h:Bb R u) (g:T=tw u) (d:A=em u x) (j:El u s x) (n:VV u.length R s<=60000000000000) (hR:VV u.length R R<=60000000000000) (hc:c=Bi x):CF 160 [.one (.sl (.sl AA) T),.one (.sl AA A)] (.one (.int .i64 c)):=by
 have k:=HZ u.length R s;refine Av Tryz.func160 fun E f=>?_
 conv=>cbv
 refine⟨[A],fun _=>⟨rfl,by decide,rfl,⟨rfl,by first | exact t1 | exact t2 | exact t4 | simp[Bg,Bo,cells],trivial⟩⟩,.inr ?_⟩;try conv=>cbv
 refine AB f (mF h g hR (fun l m=>⟨x,(List.mem_singleton.1 m).trans d,j⟩)) ?_;conv=>cbv
 refine AR ?_;conv=>cbv
 refine AB f (fD h g d j n hc) ?_;conv=>cbv
 exact AF ⟨t2,trivial⟩
end Go.Abs
