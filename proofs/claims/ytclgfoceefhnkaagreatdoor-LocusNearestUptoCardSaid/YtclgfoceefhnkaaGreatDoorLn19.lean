/- Part 20 of a proof. Conditions: each theorem's own. -/
import Derived.Test.YtclgfoceefhnkaaGreatDoorLn17
set_option linter.all false
set_option maxHeartbeats 80000000
set_option maxRecDepth 20000
open Go.Proofs
namespace Go.Abs
section
open Go.RowKit
variable {A:LR} {R:Nat} {T X Y:List LR} {b1 b2 c:Bool} {g:FuncId} {l1 l2:List UInt32} {u w:List (List Rat)} {x:Re} {xs ys:List Rat}
theorem RK (p q:Rat):decide (p=q)=(Gu p q==0):=by
 rw[Bool.eq_iff_iff,decide_eq_true_eq,beq_iff_eq];unfold Gu
 split
 ·rename_i h;exact⟨fun e=>by subst e;grind,fun e=>by omega⟩
 split
 ·rename_i h;exact⟨fun e=>by subst e;grind,fun e=>by omega⟩
 exact⟨fun _=>rfl,fun _=>by grind⟩
theorem TP {p q:Rat} (h:rp p=rp q):p=q:=by
 have b:=Gx p;rw[h] at b;have d:=Gx q;have e1:=b.num.nat;have f:=d.num.nat;have s1:=b.num.Eg;have s2:=d.num.Eg;have d1:=b.den.Eg;have d2:=d.den.Eg;exact Rat.ext (s1.trans s2.symm) (by have:=d1.trans d2.symm;omega)
theorem Zu (h:BI xs=BI ys):xs=ys:=List.map_inj_right (fun _ _=>TP) |>.1 h
def FD {α:Type} (p:α->α->Bool):List α->List α->Bool
 | [],[]=>true
 | x::X,y::Y=>p x y&&FD p X Y
 | _,_=>false
theorem Rj {α:Type} {p:α->α->Bool}:∀{X Y:List α},X.length≠Y.length->FD p X Y=false
 | [],[],h=>absurd rfl h
 |[],_::_,_|_::_,[],_=>rfl
 | x::X,y::Y,h=>by rw[FD,Rj (X:=X) (Y:=Y) (by simpa using h),Bool.and_false]
theorem Ou {α:Type} {p:α->α->Bool} {X Y:List α} {i:Nat} {x y:α} (b:X[i]? =some x) (d:Y[i]? =some y):FD p (X.drop i) (Y.drop i)=(p x y&&FD p (X.drop (i+1)) (Y.drop (i+1))):=by
 have f:=GW b;have h:=GW d;rw[List.drop_eq_getElem_cons f,List.drop_eq_getElem_cons h,FD];rw[List.getElem?_eq_getElem f] at b;rw[List.getElem?_eq_getElem h] at d;rw[Option.some.inj b,Option.some.inj d]
theorem Ri {α:Type} {p:α->α->Bool}:∀{X Y:List α},(∀x∈X,∀y∈Y,(p x y=true↔x=y))->(FD p X Y=true↔X=Y)
 |[],[],_|[],_::_,_|_::_,[],_=>by simp[FD]
 | x::X,y::Y,h=>by
  rw[FD,Bool.and_eq_true,h x List.mem_cons_self y List.mem_cons_self,Ri (fun a ha b hb=>h a (List.mem_cons_of_mem _ ha) b (List.mem_cons_of_mem _ hb))];simp
theorem oA {p q:Rat} {c1 c2:Bool} {m1 m2:List UInt32} (j:BY p b1 l1 b2 l2) (l:BY q c1 m1 c2 m2) (i:CR p) (ht:CR q) (h:c=decide (p=q)):CF 337 [.agg (Bw b1 l1 b2 l2),.agg (Bw c1 m1 c2 m2)] (.one (.bool c)):=by
 refine AG Tryz.func337 fun E f=>?_
 obtain⟨o,b⟩:=xI (Gu p q);refine AB f (dX j l i ht b) ?_;intro m d;exact AF (by rw[h,d,b];exact RK p q)
theorem dB {X Y:LR} {p:el AA->el AA->Bool} (Q:∀x∈X,∀y∈Y,CF g [.agg (cells AA x),.agg (cells AA y)] (.one (.bool (p x y)))) (H:c=FD p X Y):CF 336 [.one (.sl AA X),.one (.sl AA Y),.one (.fn g)] (.one (.bool c)):=by
 refine AG Tryz.func336 fun E P=>?_
 rintro a1 ⟨J,f11⟩ a2 ⟨M,f13⟩;refine Fa (fun t=>?_) fun t=>?_
 ·exact AF (by rw[H];exact Rj (by omega))
 intro B m;have N:=m.eq;have f16:=m.le;refine BN [] [1,2,15,16,17] [] (fun vs I k=>∃(i':Nat) (L i:Int),vs=[.one (.sl AA Y),.one (.fn g),.one (.sl AA X),.one (.int .i64 L),.one (.int .i64 i)]/\(DP L X.length/\AO i i'/\i'<=X.length)/\c=FD p (X.drop i') (Y.drop i')/\k=X.length-i') (X.length-0) ⟨0,B,0,rfl,⟨m,BD 0,by omega⟩,H,rfl⟩ ?_;rintro J0 s vs I Z ⟨i',L,i,rfl,⟨G,U,V⟩,hinv,W⟩;conv=>cbv
 have eL:=G.eq;have ei:=U.eq;refine BW (fun v=>?_) fun v=>?_
 ·exact AF (by rw[hinv,List.drop_eq_nil_of_le (by omega),List.drop_eq_nil_of_le (by omega)];rfl)
 refine .inr ?_;refine AW i' fun b h=>?_
 try conv=>cbv
 refine AW i' fun d j=>?_
 try conv=>cbv
 obtain⟨o,f⟩:=xB (p b d);refine .inl ⟨[.agg [.bool b.1.1,.sl .u32 b.1.2,.bool b.2.1,.sl .u32 b.2.2],.agg [.bool d.1.1,.sl .u32 d.1.2,.bool d.2.1,.sl .u32 d.2.2]],.one (.bool o),fun _=>⟨t4,t4,trivial⟩,fun _=>FG P ((by rw[f];exact Q b (List.mem_of_getElem? h) d (List.mem_of_getElem? j))),?_⟩;refine AS ?_;intro D l;cases D <;> conv=>cbv
 ·have z:=GD l;refine AK ?_;intro F O;refine⟨X.length-(i'+1),?_,?_⟩
  ·omega
  rw[s];refine⟨i'+1,L,F,rfl,⟨G,⟨by omega⟩,by omega⟩,?_,rfl⟩;rw[hinv,Ou h j,<-f,GD l,Bool.true_and]
 have z:=GF l;exact AF (by rw[hinv,Ou h j,<-f,GF l];rfl)
theorem dC {p:LR->LR->Bool} (Q:∀x∈X,∀y∈Y,CF g [.one (.sl AA x),.one (.sl AA y)] (.one (.bool (p x y)))) (H:c=FD p X Y):CF 335 [.one (.sl (.sl AA) X),.one (.sl (.sl AA) Y),.one (.fn g)] (.one (.bool c)):=by
 refine AG Tryz.func335 fun E P=>?_
 rintro a1 ⟨J,f11⟩ a2 ⟨M,f13⟩;refine Fa (fun t=>?_) fun t=>?_
 ·exact AF (by rw[H];exact Rj (by omega))
 intro B j;have N:=j.eq;have f16:=j.le;refine BN [] [1,2,15,16,17] [] (fun vs I k=>∃(i':Nat) (L i:Int),vs=[.one (.sl (.sl AA) Y),.one (.fn g),.one (.sl (.sl AA) X),.one (.int .i64 L),.one (.int .i64 i)]/\(DP L X.length/\AO i i'/\i'<=X.length)/\c=FD p (X.drop i') (Y.drop i')/\k=X.length-i') (X.length-0) ⟨0,B,0,rfl,⟨j,BD 0,by omega⟩,H,rfl⟩ ?_;rintro J0 s vs I Z ⟨i',L,i,rfl,⟨G,U,V⟩,hinv,W⟩;conv=>cbv
 have eL:=G.eq;have ei:=U.eq;refine BW (fun v=>?_) fun v=>?_
 ·exact AF (by rw[hinv,List.drop_eq_nil_of_le (by omega),List.drop_eq_nil_of_le (by omega)];rfl)
 refine .inr ?_;refine AW i' fun l d=>?_
 try conv=>cbv
 refine AW i' fun m f=>?_
 try conv=>cbv
 obtain⟨o,b⟩:=xB (p l m);refine .inl ⟨[.one (.sl AA l),.one (.sl AA m)],.one (.bool o),fun _=>t2,fun _=>FG P ((by rw[b];exact Q l (List.mem_of_getElem? d) m (List.mem_of_getElem? f))),?_⟩;refine AS ?_;intro D h;cases D <;> conv=>cbv
 ·have z:=GD h;refine AK ?_;intro F O;refine⟨X.length-(i'+1),?_,?_⟩
  ·omega
  rw[s];refine⟨i'+1,L,F,rfl,⟨G,⟨by omega⟩,by omega⟩,?_,rfl⟩;rw[hinv,Ou d f,<-b,GD h,Bool.true_and]
 have z:=GF h;exact AF (by rw[hinv,Ou d f,<-b,GF h];rfl)
theorem oF (f:D8 xs) (ht:D8 ys):∀x∈BI xs,∀y∈BI ys,CF 337 [.agg (cells AA x),.agg (cells AA y)] (.one (.bool (decide (x=y)))):=by
 intro x i y j;obtain⟨p,b,rfl⟩:=List.mem_map.1 i;obtain⟨q,d,rfl⟩:=List.mem_map.1 j;refine oA (Gx p) (Gx q) (f p b) (ht q d) ?_
 by_cases h:p=q
 ·subst h;simp
 rw[decide_eq_false h,decide_eq_false (fun e=>h (TP e))]
theorem Pu {X Y:LR} (h:X=BI xs) (i:Y=BI ys) (l:D8 xs) (ht:D8 ys) (j:c=decide (X=Y)):CF 283 [.one (.sl AA X),.one (.sl AA Y)] (.one (.bool c)):=by
 refine AG Tryz.func283 fun E f=>?_
 obtain⟨d,b⟩:=xB (FD (fun x y=>decide (x=y)) X Y);refine AB (r:= .one (.bool d)) f (dB (by rw[h,i];exact oF l ht) b) ?_;exact AF (by rw[j,b,Bool.eq_iff_iff,decide_eq_true_eq];exact (Ri (fun x _ y _=>by rw[decide_eq_true_eq])).symm)
theorem oB (hu:BF R u) (hw:BF R w) (b:∀x∈X,x∈tw u) (d:∀y∈Y,y∈tw w):∀x∈X,∀y∈Y,CF 283 [.one (.sl AA x),.one (.sl AA y)] (.one (.bool (decide (x=y)))):=by
 intro x i y j;obtain⟨p,f,rfl⟩:=List.mem_map.1 (b x i);obtain⟨q,h,rfl⟩:=List.mem_map.1 (d y j);exact Pu rfl rfl ((hu.tb p (List.mem_reverse.1 f)).CT hu.hR) ((hw.tb q (List.mem_reverse.1 h)).CT hw.hR) rfl
theorem WH (hu:BF R u) (hw:BF R w) (v:X=tw u) (z:Y=tw w) (j:c=(decide (Y.length<=X.length)&&decide (X.take Y.length=Y))):CF 282 [.one (.sl (.sl AA) X),.one (.sl (.sl AA) Y)] (.one (.bool c)):=by
 refine AG Tryz.func282 fun E t=>?_
 rintro J ⟨H,f6⟩ M ⟨I,f8⟩;refine UW (fun D=>?_) fun D=>?_
 ·exact AF (by rw[j,decide_eq_false (show ¬Y.length<=X.length by omega),Bool.false_and])
 rintro G ⟨s,f13⟩ F l f i h d;obtain⟨o,b⟩:=xB (FD (fun x y=>decide (x=y)) h Y);refine AB t (dC (oB hu hw (fun x m=>by rw[d,List.drop_zero] at m;rw[<-v];exact List.mem_of_mem_take m) (fun y B=>by rw[<-z];exact B)) b) ?_;exact AF (by rw[j,decide_eq_true (show Y.length<=X.length by omega),Bool.true_and,b,d,List.drop_zero,show f=Y.length by omega,Bool.eq_iff_iff,decide_eq_true_eq];exact (Ri (fun x _ y _=>by rw[decide_eq_true_eq])).symm)
theorem KU (h:tw u=tw w):u=w:=by
 have b:=(List.map_inj_right (fun _ _=>Zu)).1 h;exact List.reverse_inj.1 b
theorem UC:w<:+u↔((tw w).length<=(tw u).length/\(tw u).take (tw w).length=tw w):=by
 constructor
 ·rintro⟨v,rfl⟩
  have e:tw (v++w)=tw w++tw v:=by rw[tw,tw,tw,List.reverse_append,List.map_append]
  rw[e];exact⟨by simp,List.take_left⟩
 rintro⟨d,b⟩
 rw[CG,CG] at d;rw[CG,Ie] at b;rw[<-KU b];exact List.drop_suffix _ _
theorem gb (hu:BF R u) (hw:BF R w) (b:X=tw u) (d:Y=tw w) (h:w<:+u):CF 282 [.one (.sl (.sl AA) X),.one (.sl (.sl AA) Y)] (.one (.bool true)):=
 WH hu hw b d (by have:=UC.1 h;rw[b,d,decide_eq_true this.1,decide_eq_true this.2];rfl)
theorem ga (hu:BF R u) (hw:BF R w) (d:X=tw u) (f:Y=tw w) (h:¬w<:+u):CF 282 [.one (.sl (.sl AA) X),.one (.sl (.sl AA) Y)] (.one (.bool false)):=
 WH hu hw d f (by
  by_cases b:Y.length<=X.length
  ·rw[decide_eq_true b,decide_eq_false (fun i=>h (UC.2 (by rw[<-d,<-f];exact⟨b,i⟩)))];rfl
  rw[decide_eq_false b];rfl)
theorem Wp {q:Rat} (h:BY q b1 l1 b2 l2) (d:CR q):CF 301 [.agg (Bw b1 l1 b2 l2)] (.agg (Bw b1 l1 b2 l2)):=by
 have f:=h.small d;refine AG Tryz.func301 fun E b=>?_
 refine AB b (KZ rfl (by omega)) ?_;refine AB b (KZ rfl (by omega)) ?_;exact AE ⟨⟨rfl,rfl,rfl,rfl,rfl,trivial⟩,trivial⟩
theorem RW {X:LR} (M:X=BI xs) (hs:D8 xs) (hn:xs.length<=1000000):CF 256 [.one (.sl AA X)] (.one (.sl AA X)):=by
 have V:X.length=xs.length:=by rw[M,List.length_map]
 refine AG Tryz.func256 fun E U=>?_
 rintro n7 ⟨e7,f7⟩;refine⟨fun _=>⟨by omega,by omega,by show _*64<=140737488355328;omega⟩,?_⟩;intro B (D:LR) l;have a2:=l.1;have v:D=List.replicate B (((false,[]),(false,[])):el AA):=l.2;have P:D.length=B:=by rw[v,List.length_replicate]
 refine AS ?_;intro F f;have O:=f.eq;have f10:=f.le;refine BN [] [3,9,10,11] [8] (fun vs H k=>∃(o:LR) (m i':Nat) (L i:Int),vs=[.one (.AZ AA 8 0 0 m),.one (.sl AA X),.one (.int .i64 L),.one (.int .i64 i)]/\H=[.arr 0 AA o]/\(o.length=X.length/\m=X.length/\DP L X.length/\AO i i'/\i'<=X.length)/\o.take i'=X.take i'/\k=X.length-i') (X.length-0) ⟨D,B,0,F,0,rfl,rfl,⟨by omega,by omega,f,BD 0,by omega⟩,rfl,rfl⟩ ?_;rintro J0 t vs H a6 ⟨o,m,i',L,i,rfl,rfl,⟨ho,hm,J,W,Z⟩,hinv,a1⟩;conv=>cbv
 have eL:=J.eq;have ei:=W.eq;refine BW (fun z=>?_) fun z=>?_
 ·exact AE ⟨⟨rfl,.inl ⟨_,rfl,by omega,congrArg _ (by rw[hm,List.drop_zero];rw[show i'=X.length by omega] at hinv;rw[hinv,List.take_length])⟩,trivial⟩,trivial⟩
 refine .inr ?_;refine AW i' fun s d=>?_
 try conv=>cbv
 obtain⟨q,hq,a5,y⟩:=IS M hs d;refine AB U (Wp hq y) ?_;intro j N;refine⟨s,fun _=>⟨by show _<List.length (α:=(el AA)) o;(first | omega | (simp;omega)),t4⟩,?_⟩;intro (h:LR) (b:h=List.set (α:=(el AA)) o j s);have I:h.length=o.length:=by rw[b,List.length_set]
 refine AK ?_;intro G Q;refine⟨X.length-(i'+1),?_,?_⟩
 ·omega
 rw[t];refine⟨h,m,i'+1,L,G,rfl,rfl,⟨by omega,by omega,J,⟨by omega⟩,by omega⟩,?_,rfl⟩;rw[b,show j=i' by omega,P9 (by omega),hinv,<-DO d]
theorem Oh {s:Nat} (h:BF R u) (Q:T=tw u) (hA:A=em u x) (hx:El u s x) (hs:s<=60000000000000:=by omega):CF 167 [.agg (AJ T A)] (.agg (AJ T A)):=by
 have a2:T.length=u.length:=by rw[Q,CG]
 have a5:=h.ht;refine AG Tryz.func167 fun E P=>?_
 refine AB (r:= .one (.sl AA A)) P (RW hA (hx.CT hs) (by rw[hx.len];exact JL h.ht)) ?_;intro Z t;have a1:=t.eq;have f12:=t.le;refine .inr ?_;obtain⟨J0,j⟩:=xJ fun vs M k=>(∃(L i:Int),vs=[.one (.AR 2 0 0),.one (.AR 3 0 0),.one (.sl (.sl AA) T),.one (.int .i64 L),.one (.int .i64 i)]/\M=[.var 0 [.nil,.nil],.var 0 [.nil,.sl AA A],.dead 0]/\(DP L T.length/\AO i 0)/\k=T.length)\/(∃(o:List LR) (mm i':Nat) (L i:Int),vs=[.one (.AR 2 0 0),.one (.AR 3 0 0),.one (.sl (.sl AA) T),.one (.int .i64 L),.one (.int .i64 i)]/\M=[.var 0 [.nil,.nil],.var 0 [.AZ (.sl AA) 22 0 0 mm,.sl AA A],.arr 0 (.sl AA) o]/\(DP L T.length/\AO i i'/\i'<=T.length/\mm=o.length)/\o=T.take i'/\k=T.length-i')
 refine⟨[],[2,3,11,12,13],[2,3,22],J0,⟨T.length,by rw[j];exact .inl ⟨Z,0,rfl,rfl,⟨t,BD 0⟩,rfl⟩⟩,?_⟩;intro vs M a8 hj;rw[j] at hj;rcases hj with⟨L,i,rfl,rfl,⟨G,U⟩,W⟩ |⟨o,mm,i',L,i,rfl,rfl,⟨G,U,a6,I⟩,hinv,W⟩
 ·conv=>cbv
  have eL:=G.eq;have ei:=U.eq;obtain⟨i',V⟩:=xN 0;refine BW (fun B=>?_) fun B=>?_
  ·exact AE ⟨⟨rfl,.inr (.inl ⟨_,congrArg _ (List.eq_nil_of_length_eq_zero (by omega))⟩),rfl,trivial⟩,trivial⟩
  refine .inr ?_;refine AW i' fun b d=>?_
  try conv=>cbv
  obtain⟨y,v,f⟩:=Jv Q d;have z:y∈u:=List.mem_reverse.1 (List.mem_of_getElem? f);refine AB (r:= .one (.sl AA b)) P (RW v ((h.tb y z).CT h.hR) (by rw[Lf h.red _ y f];exact JL)) ?_;refine⟨[b],fun _=>⟨rfl,by decide,rfl,⟨rfl,by first | exact t1 | exact t2 | exact t4 | simp[BR,BV,cells],trivial⟩⟩,.inr ?_⟩;try conv=>cbv
  refine .inl ⟨[b],fun _=>⟨rfl,by show (1)*24<=140737488355328;(try simp only[List.length_take,List.length_drop]);omega⟩,?_⟩;refine AK ?_;intro l N F O;refine⟨T.length-(i'+1),?_,?_⟩
  ·omega
  rw[j];exact .inr ⟨[b],l,i'+1,L,F,rfl,rfl,⟨G,⟨by omega⟩,by omega,N⟩,by rw[DO d,V];rfl,rfl⟩
 conv=>cbv
 have eL:=G.eq;have ei:=U.eq;refine BW (fun B=>?_) fun B=>?_
 ·exact AE ⟨⟨rfl,.inl ⟨_,rfl,by omega,congrArg _ (by rw[I,hinv,List.drop_zero,List.take_length,show i'=T.length by omega,List.take_length])⟩,rfl,trivial⟩,trivial⟩
 refine .inr ?_;refine AW i' fun b d=>?_
 try conv=>cbv
 obtain⟨y,v,f⟩:=Jv Q d;have z:y∈u:=List.mem_reverse.1 (List.mem_of_getElem? f);refine AB (r:= .one (.sl AA b)) P (RW v ((h.tb y z).CT h.hR) (by rw[Lf h.red _ y f];exact JL)) ?_;refine⟨[b],fun _=>⟨rfl,by decide,rfl,⟨rfl,by first | exact t1 | exact t2 | exact t4 | simp[BR,BV,cells],trivial⟩⟩,.inr ?_⟩;try conv=>cbv
 have a7:o.length<=T.length:=by rw[hinv,List.length_take];omega
 refine .inl ⟨[b],fun _=>⟨rfl,I,rfl,by show (o.length+1)*24<=140737488355328;(try simp only[List.length_take,List.length_drop]);omega⟩,?_⟩;intro (D:List (el (.sl AA))) l m;have H:D=(o:List (el (.sl AA)))++([b]:List (el (.sl AA))):=m.1;have J:l=List.length (α:=(el (.sl AA))) D:=m.2;refine AK ?_;intro F O;refine⟨T.length-(i'+1),?_,?_⟩
 ·omega
 rw[j];exact .inr ⟨D,l,i'+1,L,F,rfl,rfl,⟨G,⟨by omega⟩,by omega,J⟩,by rw[H,hinv,DO d],rfl⟩
theorem Sw {C:LR} (h:BF R w) (hT:T=tw w) (P:A=em u x) (W:In u x) (hu:u<:+w) (hC:C=em w x):CF 288 [.one (.sl (.sl AA) T),.one (.sl AA A)] (.one (.sl AA C)):=by
 have I:T.length=w.length:=by rw[hT,CG]
 have a2:=h.ht;have a1:A.length=2^u.length:=by rw[P,Bn W]
 have M:=hu.length_le;have hle:2^u.length<=2^w.length:=Cb M;have V:=DX h.ht;have B:=XJ hu h.red W;refine AG Tryz.func288 fun E Q=>?_
 obtain⟨Z,v⟩:=xN A.length;refine AB Q (UZ (by omega) v) ?_;refine BN [] [0,5] [7] (fun vs O k=>∃(o:LR) (mm j:Nat),vs=[.one (.sl (.sl AA) T),.one (.AZ AA 7 0 0 mm)]/\O=[.arr 0 AA o]/\(mm=o.length/\o.length=2^u.length+j/\o.length<=2^w.length)/\o=A++List.replicate j (rp 0)/\k=2^w.length-o.length) (2^w.length-A.length) ⟨A,Z,0,rfl,rfl,⟨v,by omega,by omega⟩,by simp,rfl⟩ ?_;rintro J0 H vs O a8 ⟨o,mm,j,rfl,rfl,⟨y,a6,a7⟩,hinv,a5⟩;conv=>cbv
 intro n9 h9;have e9:=h9.eq;refine AK ?_;rintro aa ⟨F,f11⟩ ab G;have U:=(FA G (F.trans (congrArg _ I))).eq;refine BW (fun N=>?_) fun N=>?_
 ·exact AE ⟨⟨rfl,.inl ⟨_,rfl,by omega,congrArg _ (by rw[hC,y,List.drop_zero,List.take_length,hinv,B,P,show j=2^w.length-2^u.length by omega])⟩,trivial⟩,trivial⟩
 refine .inr ?_;obtain⟨f,i,b,d,s⟩:=CA (((0:Int):Rat));refine AB Q (Hb (by omega) rfl s) ?_;refine⟨[((f,i),(b,d))],fun _=>⟨rfl,by decide,rfl,⟨rfl,by first | exact t1 | exact t2 | exact t4 | simp[BR,BV,cells],trivial⟩⟩,.inr ?_⟩;try conv=>cbv
 refine .inl ⟨[((f,i),(b,d))],fun _=>⟨rfl,y,rfl,by show (o.length+1)*64<=140737488355328;(try simp only[List.length_take,List.length_drop]);omega⟩,?_⟩;intro (l:LR) D t;have m:l=(o:LR)++([((f,i),(b,d))]:LR):=t.1;have z:D=List.length (α:=(el AA)) l:=t.2;conv=>cbv
 have J:l.length=o.length+1:=by rw[m];simp
 exact Ba H ⟨l,D,j+1,rfl,rfl,⟨z,by omega,by omega⟩,by rw[m,hinv,List.replicate_succ',List.append_assoc,<-s.rp];rfl,rfl⟩
end
section
open Go.RowKit
def Fi (w:List (List Rat)) (RL:List LR):List (List Rat)->Prop
 | []=>True
 | r::u=>Fi w RL u/\∃wk,wk<:+w/\In wk (rt u r)/\RL[u.length]? =some (em wk (rt u r))
variable {A C:LR} {K R S a k mm n:Nat} {RL T:List LR} {TT:List (List Rat)->Prop} {p q x:Re} {r:List Rat} {u w:List (List Rat)}
theorem Fi.mono {w':List (List Rat)} {X:List LR} (h:w<:+w'):∀{u:List (List Rat)},Fi w RL u->Fi w' (RL++X) u
 | [],_=>trivial
 | r::u,⟨d,i,f,h3,b⟩=>⟨d.mono h,i,f.trans h,h3,by rw[List.getElem?_append_left (GW b)];exact b⟩
noncomputable def Ef (t:List (List Rat)):List (List Rat)->List LR
 | []=>[]
 | r::u=>Ef t u++[em (ext t (r::u)) (rt u r)]
theorem NQ (t:List (List Rat)):∀u,(Ef t u).length=u.length
 | []=>rfl
 | r::u=>by rw[Ef,List.length_append,NQ t u];rfl
theorem NS {t:List (List Rat)} (ht:AU t):∀{u:List (List Rat)},AU u->Fi (ext t u) (Ef t u) u
 | [],_=>trivial
 | r::u,hu=>by
  refine⟨(NS ht hu.1).mono (OJ _ _),ext t (r::u),List.suffix_refl _,(Ii ht hu).2.root,?_⟩;rw[Ef,List.getElem?_append_right (by rw[NQ];omega),NQ,Nat.sub_self];rfl
theorem Ro {t:List (List Rat)} (ht:AU t):∀{u:List (List Rat)},AU u->BT u t->ext t u=t
 | [],_,_=>rfl
 | r::u,hu,h=>by
  rw[ext,Ro ht hu.1 h.tail];exact Df ⟨rt u r,h.root,Cu hu⟩
def QW (f:FuncId) (S:Nat) (w u:List (List Rat)):Prop:=∀{T RL:List LR} {A C:LR} {x:Re},T=tw w->Fi w RL u->A=em u x->El u S x->C=em w x->
 CF f [.agg [.sl (.sl AA) T,.sl (.sl AA) RL],.one (.sl AA A)] (.one (.sl AA C))
def QX (f:FuncId) (S:Nat) (w u:List (List Rat)):Prop:=∀{T RL:List LR} {A C:LR} {x:Re} {mm:Nat},T=tw w->Fi w RL u->mm=RL.length->A=em u x->El u S x->C=em w x->
 Bv Tryz.prog f [.agg [.sl (.sl AA) T,.AZ (.sl AA) 0 0 0 mm],.one (.sl AA A)] (.arr 0 (.sl AA) RL) (.one (.sl AA C))
theorem ZP {b:Nat}:2^a<2^b↔a<b:=Nat.pow_lt_pow_iff_right (by decide)
theorem LI (ha:a=2^n+2^n) (h:2^(k+1)<a):k<n:=by
 have b:a=2^(n+1):=by rw[ha,Nat.pow_succ];omega
 rw[b,ZP] at h;omega
theorem LH (ha:a=2^n+2^n) (h:¬2^(k+1)<a):n<=k:=by
 have b:a=2^(n+1):=by rw[ha,Nat.pow_succ];omega
 rw[b,ZP] at h;omega
theorem j7 {u:List (List Rat)} {x:Re} (G:Gam TT R K S) (hw:TT w) (o:T=tw w) {q:Rat} (i:A=em [] (Re.ofRat q)) (s:CR q) (l:C=em w (Re.ofRat q)):CF 341 [.agg [.sl (.sl AA) T,.sl (.sl AA) RL],.one (.sl AA A)] (.one (.sl AA C)):=by
 have b:A=[rp q]:=i.trans (EB q);have j:A.length=1:=by rw[b];rfl
 refine AG Tryz.func341 fun E m=>?_
 rintro t ⟨h,f10⟩;refine CH (fun f=>?_) fun f=>?_
 ·exact absurd f (by omega)
 refine AW 0 fun v d=>?_
 try conv=>cbv
 refine AB m (Jc (G.BG hw) o (E7 b d) s l) ?_;exact AE ⟨t2,trivial⟩
theorem j9 (G:Gam TT R K S) (hw:TT w) (hT:T=tw w) (hu:TT (r::u)) (H:BT (r::u) w) (ih:QW 341 S w u) (hR:Fi w RL (r::u)) (F:A=em (r::u) x) (hx:El (r::u) S x) (i:x=p+q*rt u r) (O:El u S p) (P:El u S q) (h0:q=0) (hC:C=em w x):CF 341 [.agg [.sl (.sl AA) T,.sl (.sl AA) RL],.one (.sl AA A)] (.one (.sl AA C)):=by
 have h:=(G.BG hu).red;have j:A.length=2^u.length+2^u.length:=by rw[F,Bn hx.mem,B8]
 have ar:=DI u.length;have an:(r::u).length<=8:=G.ht hu;have a7:(r::u).length=u.length+1:=rfl;have hmul:=G.mul hw;have U:El w K (rt u r):=by have:=G.CL hu hw H (IL h);rwa [Nat.zero_add] at this
 obtain⟨wk,au,aa,M⟩:=hR.2;obtain⟨rk,Q⟩:=xR (em wk (rt u r));rw[<-Q] at M;refine AG Tryz.func341 fun E hE=>?_
 rintro ax ⟨ae,f10⟩;refine BO (fun v=>?_) fun v=>?_
 ·exact absurd v (by omega)
 rintro ay ⟨af,f19⟩ a1 aj;refine BN [] [1,2,5,6] [2] (fun vs bl k=>∃(k':Nat) (y kk:Int),vs=[.one (.sl AA A),.one (.AR 2 0 0),.one (.int .i64 y),.one (.int .i64 kk)]/\bl=[.var 0 [.sl (.sl AA) T,.sl (.sl AA) RL]]/\(AO y (A.length/2)/\AO kk k'/\k'<=u.length)/\k=u.length-k') (u.length-0) ⟨0,a1,0,rfl,rfl,⟨⟨by omega⟩,BD 0,by omega⟩,rfl⟩ ?_;rintro J0 I vs bl av ⟨k',y,kk,rfl,rfl,⟨l,J,aq⟩,ao⟩;have ah:=l.eq;have ai:=J.eq;refine AK ?_;rintro az ak aA D aB ⟨ag,f25⟩;have ab:=(FA (k:=k'+1) D (by omega)).eq;refine Cw (fun V=>?_) fun V=>?_
 ·refine .inr ?_;have N:k'<u.length:=LI j (show 2^(k'+1)<A.length by omega);refine AK ?_;intro a2 al;exact Ba I ⟨k'+1,y,a2,rfl,rfl,⟨l,⟨by omega⟩,by omega⟩,rfl⟩
 have N:k'=u.length:=by have:=LH j (show ¬2^(k'+1)<A.length by omega);omega
 refine AK ?_;intro m32 a8 B a6 W o;have d:W=em u p:=by rw[o,List.drop_zero,show B=A.length/2 by omega,F,Cs h O.mem P.mem i]
 obtain⟨aC,b⟩:=xR (em w (p));refine AB hE (ih hT hR.1 d O b) ?_;rintro aw t z ad ⟨a5,m⟩ Z s;have f:Z=em u q:=by rw[s,show z=A.length/2 by omega,m,t,List.take_length,F,Ca h O.mem P.mem i]
 refine AB hE (Jk (G.BG (G.sub hu)).red P.mem f h0) ?_;exact AF (by rw[hC,b];congr 1;rw[i,h0];clear ih;grind)
theorem j8 (G:Gam TT R K S) (hw:TT w) (F:T=tw w) (hu:TT (r::u)) (d:BT (r::u) w) (ih:QW 341 S w u) (hR:Fi w RL (r::u)) (Z:A=em (r::u) x) (hx:El (r::u) S x) (h:x=p+q*rt u r) (Q:El u S p) (v:El u S q) (h0:q≠0) (hC:C=em w x):CF 341 [.agg [.sl (.sl AA) T,.sl (.sl AA) RL],.one (.sl AA A)] (.one (.sl AA C)):=by
 have f:=(G.BG hu).red;have z:A.length=2^u.length+2^u.length:=by rw[Z,Bn hx.mem,B8]
 have aG:=DI u.length;have aD:(r::u).length<=8:=G.ht hu;have an:(r::u).length=u.length+1:=rfl;have hmul:=G.mul hw;have b:El w K (rt u r):=by have:=G.CL hu hw d (IL f);rwa [Nat.zero_add] at this
 obtain⟨wk,ab,U,D⟩:=hR.2;obtain⟨rk,V⟩:=xR (em wk (rt u r));rw[<-V] at D;refine AG Tryz.func341 fun E y=>?_
 rintro aK ⟨av,f10⟩;refine BO (fun W=>?_) fun W=>?_
 ·exact absurd W (by omega)
 rintro aL ⟨aw,f19⟩ ah aA;refine BN [] [1,2,5,6] [2] (fun vs bl k=>∃(k':Nat) (hv kk:Int),vs=[.one (.sl AA A),.one (.AR 2 0 0),.one (.int .i64 hv),.one (.int .i64 kk)]/\bl=[.var 0 [.sl (.sl AA) T,.sl (.sl AA) RL]]/\(AO hv (A.length/2)/\AO kk k'/\k'<=u.length)/\k=u.length-k') (u.length-0) ⟨0,ah,0,rfl,rfl,⟨⟨by omega⟩,BD 0,by omega⟩,rfl⟩ ?_;rintro J0 a7 vs bl aH ⟨k',hv,kk,rfl,rfl,⟨B,a8,aF⟩,aE⟩;have ay:=B.eq;have az:=a8.eq;refine AK ?_;rintro aM aB aN a6 aO ⟨ax,f25⟩;have aq:=(FA (k:=k'+1) a6 (by omega)).eq;refine Cw (fun ad=>?_) fun ad=>?_
 ·refine .inr ?_;have aa:k'<u.length:=LI z (show 2^(k'+1)<A.length by omega);refine AK ?_;intro ai aC;exact Ba a7 ⟨k'+1,hv,ai,rfl,rfl,⟨B,⟨by omega⟩,by omega⟩,rfl⟩
 have aa:k'=u.length:=by have:=LH z (show ¬2^(k'+1)<A.length by omega);omega
 refine AK ?_;intro m32 ao a5 al ae J;have o:ae=em u p:=by rw[J,List.drop_zero,show a5=A.length/2 by omega,Z,Cs f Q.mem v.mem h]
 obtain⟨aP,i⟩:=xR (em w (p));refine AB y (ih F hR.1 o Q i) ?_;rintro aI O a1 ar ⟨aj,H⟩ af M;have s:af=em u q:=by rw[M,show a1=A.length/2 by omega,H,O,List.take_length,Z,Ca f Q.mem v.mem h]
 refine AB y (IE (G.BG (G.sub hu)).red v.mem s h0) ?_;rintro aJ P a2 au ⟨ak,I⟩ ag N;have t:ag=em u q:=by rw[N,show a2=A.length/2 by omega,I,P,List.take_length,Z,Ca f Q.mem v.mem h]
 obtain⟨aQ,j⟩:=xR (em w (q));refine AB y (ih F hR.1 t v j) ?_;refine D6 D ?_;obtain⟨aR,l⟩:=xR (em w (rt u r));refine AB y (Sw (G.BG hw) F V U ab l) ?_;obtain⟨aS,m⟩:=xR (em w (q*rt u r));refine AB y (HZ (G.BG hw) F j l (G.CL (G.sub hu) hw d.tail v) b (by omega) m) ?_;refine AB (r:= .one (.sl AA C)) y (KX (G.BG hw) F i m (G.CL (G.sub hu) hw d.tail Q) ((G.CL (G.sub hu) hw d.tail v).mul (G.BG hw) b) (by omega) (by omega) (by rw[hC,h])) ?_;exact AE ⟨t2,trivial⟩
theorem kA {u:List (List Rat)} {x:Re} (s:mm=RL.length) (G:Gam TT R K S) (hw:TT w) (o:T=tw w) {q:Rat} (i:A=em [] (Re.ofRat q)) (t:CR q) (l:C=em w (Re.ofRat q)):Bv Tryz.prog 341 [.agg [.sl (.sl AA) T,.AZ (.sl AA) 0 0 0 mm],.one (.sl AA A)] (.arr 0 (.sl AA) RL) (.one (.sl AA C)):=by
 have b:A=[rp q]:=i.trans (EB q);have j:A.length=1:=by rw[b];rfl
 refine CK Tryz.func341 fun E m=>?_
 refine AS ?_;rintro v ⟨h,f10⟩;refine CH (fun f=>?_) fun f=>?_
 ·exact absurd f (by omega)
 refine AW 0 fun y d=>?_
 try conv=>cbv
 refine AB m (Jc (G.BG hw) o (E7 b d) t l) ?_;refine fun _=>⟨⟨⟨t2,trivial⟩,rfl,by simp⟩,rfl⟩
theorem kC (P:mm=RL.length) (G:Gam TT R K S) (hw:TT w) (hT:T=tw w) (hu:TT (r::u)) (I:BT (r::u) w) (ih:QX 341 S w u) (hR:Fi w RL (r::u)) (H:A=em (r::u) x) (hx:El (r::u) S x) (i:x=p+q*rt u r) (Q:El u S p) (U:El u S q) (h0:q=0) (hC:C=em w x):Bv Tryz.prog 341 [.agg [.sl (.sl AA) T,.AZ (.sl AA) 0 0 0 mm],.one (.sl AA A)] (.arr 0 (.sl AA) RL) (.one (.sl AA C)):=by
 have h:=(G.BG hu).red;have j:A.length=2^u.length+2^u.length:=by rw[H,Bn hx.mem,B8]
 have av:=DI u.length;have aq:(r::u).length<=8:=G.ht hu;have aa:(r::u).length=u.length+1:=rfl;have hmul:=G.mul hw;have W:El w K (rt u r):=by have:=G.CL hu hw I (IL h);rwa [Nat.zero_add] at this
 obtain⟨wk,aw,ad,N⟩:=hR.2;obtain⟨rk,V⟩:=xR (em wk (rt u r));rw[<-V] at N;refine CK Tryz.func341 fun E hE=>?_
 refine AS ?_;rintro az ⟨ag,f10⟩;refine BO (fun v=>?_) fun v=>?_
 ·exact absurd v (by omega)
 rintro aA ⟨ah,f19⟩ a2 al;refine BN [] [1,2,5,6] [0,2] (fun vs bl k=>∃(k':Nat) (z kk:Int),vs=[.one (.sl AA A),.one (.AR 2 0 0),.one (.int .i64 z),.one (.int .i64 kk)]/\bl=[.arr 0 (.sl AA) RL,.var 0 [.sl (.sl AA) T,.AZ (.sl AA) 0 0 0 mm]]/\(AO z (A.length/2)/\AO kk k'/\k'<=u.length)/\k=u.length-k') (u.length-0) ⟨0,a2,0,rfl,rfl,⟨⟨by omega⟩,BD 0,by omega⟩,rfl⟩ ?_;rintro J0 J vs bl ax ⟨k',z,kk,rfl,rfl,⟨l,M,au⟩,ar⟩;have aj:=l.eq;have ak:=M.eq;refine AK ?_;rintro aB an aC F aD ⟨ai,f25⟩;have ae:=(FA (k:=k'+1) F (by omega)).eq;refine Cw (fun Z=>?_) fun Z=>?_
 ·refine .inr ?_;have O:k'<u.length:=LI j (show 2^(k'+1)<A.length by omega);refine AK ?_;intro a5 ao;exact Ba J ⟨k'+1,z,a5,rfl,rfl,⟨l,⟨by omega⟩,by omega⟩,rfl⟩
 have O:k'=u.length:=by have:=LH j (show ¬2^(k'+1)<A.length by omega);omega
 refine AK ?_;intro m32 ab D a8 y o;have d:y=em u p:=by rw[o,List.drop_zero,show D=A.length/2 by omega,H,Cs h Q.mem U.mem i]
 obtain⟨a6,b⟩:=xR (em w (p));refine .inr (.inr (.inl ⟨0,.arr 0 (.sl AA) RL,[.agg [.sl (.sl AA) T,.AZ (.sl AA) 0 0 0 mm],.one (.sl AA y)],.one (.sl AA a6),fun _=>⟨rfl,⟨⟨rfl,⟨⟨rfl,rfl⟩,rfl⟩,trivial⟩,rfl,trivial⟩⟩,fun _=>CW hE (ih hT hR.1 P d Q b),?_⟩));refine AK ?_;rintro ay t B af ⟨a7,m⟩ a1 s;have f:a1=em u q:=by rw[s,show B=A.length/2 by omega,m,t,List.take_length,H,Ca h Q.mem U.mem i]
 refine AB hE (Jk (G.BG (G.sub hu)).red U.mem f h0) ?_;refine fun _=>⟨⟨⟨⟨rfl,congrArg _ (by rw[hC,b];congr 1;rw[i,h0];clear ih;grind),trivial⟩,trivial⟩,rfl,by simp⟩,rfl⟩
theorem kB (a2:mm=RL.length) (G:Gam TT R K S) (hw:TT w) (O:T=tw w) (hu:TT (r::u)) (d:BT (r::u) w) (ih:QX 341 S w u) (hR:Fi w RL (r::u)) (hA:A=em (r::u) x) (hx:El (r::u) S x) (m:x=p+q*rt u r) (hp:El u S p) (F:El u S q) (h0:q≠0) (hC:C=em w x):Bv Tryz.prog 341 [.agg [.sl (.sl AA) T,.AZ (.sl AA) 0 0 0 mm],.one (.sl AA A)] (.arr 0 (.sl AA) RL) (.one (.sl AA C)):=by
 have j:=(G.BG hu).red;have M:A.length=2^u.length+2^u.length:=by rw[hA,Bn hx.mem,B8]
 have aO:=DI u.length;have aL:(r::u).length<=8:=G.ht hu;have ax:(r::u).length=u.length+1:=rfl;have hmul:=G.mul hw;have b:El w K (rt u r):=by have:=G.CL hu hw d (IL j);rwa [Nat.zero_add] at this
 obtain⟨wk,aj,a5,f⟩:=hR.2;obtain⟨rk,h⟩:=xR (em wk (rt u r));rw[<-h] at f;refine CK Tryz.func341 fun E J=>?_
 refine AS ?_;rintro aS ⟨aD,f10⟩;refine BO (fun a7=>?_) fun a7=>?_
 ·exact absurd a7 (by omega)
 rintro aT ⟨aE,f19⟩ an aI;refine BN [] [1,2,5,6] [0,2] (fun vs bl k=>∃(k':Nat) (hv kk:Int),vs=[.one (.sl AA A),.one (.AR 2 0 0),.one (.int .i64 hv),.one (.int .i64 kk)]/\bl=[.arr 0 (.sl AA) RL,.var 0 [.sl (.sl AA) T,.AZ (.sl AA) 0 0 0 mm]]/\(AO hv (A.length/2)/\AO kk k'/\k'<=u.length)/\k=u.length-k') (u.length-0) ⟨0,an,0,rfl,rfl,⟨⟨by omega⟩,BD 0,by omega⟩,rfl⟩ ?_;rintro J0 ag vs bl aP ⟨k',hv,kk,rfl,rfl,⟨N,ah,aN⟩,aM⟩;have aG:=N.eq;have aH:=ah.eq;refine AK ?_;rintro aU aJ aV af aW ⟨aF,f25⟩;have aA:=(FA (k:=k'+1) af (by omega)).eq;refine Cw (fun ak=>?_) fun ak=>?_
 ·refine .inr ?_;have ai:k'<u.length:=LI M (show 2^(k'+1)<A.length by omega);refine AK ?_;intro ao aK;exact Ba ag ⟨k'+1,hv,ao,rfl,rfl,⟨N,⟨by omega⟩,by omega⟩,rfl⟩
 have ai:k'=u.length:=by have:=LH M (show ¬2^(k'+1)<A.length by omega);omega
 refine AK ?_;intro m32 az ae aw a8 U;have z:a8=em u p:=by rw[U,List.drop_zero,show ae=A.length/2 by omega,hA,Cs j hp.mem F.mem m]
 obtain⟨aq,o⟩:=xR (em w (p));refine .inr (.inr (.inl ⟨0,.arr 0 (.sl AA) RL,[.agg [.sl (.sl AA) T,.AZ (.sl AA) 0 0 0 mm],.one (.sl AA a8)],.one (.sl AA aq),fun _=>⟨rfl,⟨⟨rfl,⟨⟨rfl,rfl⟩,rfl⟩,trivial⟩,rfl,trivial⟩⟩,fun _=>CW J (ih O hR.1 a2 z hp o),?_⟩));refine AK ?_;rintro aQ Z ab aB ⟨au,P⟩ al V;have B:al=em u q:=by rw[V,show ab=A.length/2 by omega,P,Z,List.take_length,hA,Ca j hp.mem F.mem m]
 refine AB J (IE (G.BG (G.sub hu)).red F.mem B h0) ?_;rintro aR a1 ad aC ⟨av,Q⟩ aa W;have D:aa=em u q:=by rw[W,show ad=A.length/2 by omega,Q,a1,List.take_length,hA,Ca j hp.mem F.mem m]
 obtain⟨ar,s⟩:=xR (em w (q));refine .inr (.inr (.inl ⟨0,.arr 0 (.sl AA) RL,[.agg [.sl (.sl AA) T,.AZ (.sl AA) 0 0 0 mm],.one (.sl AA aa)],.one (.sl AA ar),fun _=>⟨rfl,⟨⟨rfl,⟨⟨rfl,rfl⟩,rfl⟩,trivial⟩,rfl,trivial⟩⟩,fun _=>CW J (ih O hR.1 a2 D F s),?_⟩));try conv=>cbv
 refine⟨fun _=>⟨by omega,by have:=GW f;omega⟩,?_⟩;intro a6 ay;conv=>cbv
 obtain⟨I,y⟩:=CM (l:=RL) (i:=a6) (by have:=GW f;omega);refine⟨I,fun _=>y,?_⟩;try conv=>cbv
 have H:I=rk:=by have:=y;rw[show a6=u.length by omega,f] at this;exact (Option.some.inj this).symm
 have h:I=em wk (rt u r):=H.trans h;obtain⟨aX,t⟩:=xR (em w (rt u r));refine AB J (Sw (G.BG hw) O h a5 aj t) ?_;obtain⟨aY,v⟩:=xR (em w (q*rt u r));refine AB J (HZ (G.BG hw) O s t (G.CL (G.sub hu) hw d.tail F) b (by omega) v) ?_;refine AB (r:= .one (.sl AA C)) J (KX (G.BG hw) O o v (G.CL (G.sub hu) hw d.tail hp) ((G.CL (G.sub hu) hw d.tail F).mul (G.BG hw) b) (by omega) (by omega) (by rw[hC,m])) ?_;refine fun _=>⟨⟨⟨t2,trivial⟩,rfl,by simp⟩,rfl⟩
theorem Xo (G:Gam TT R K S) (hw:TT w):∀{u:List (List Rat)},TT u->BT u w->QW 341 S w u:=by
 intro u
 induction u with
 | nil=>
  intro hu d T RL A C x l hR i b j;obtain⟨q,rfl⟩:=Ct.1 b.mem;have f:=b.CT (by have:=G.mul hw;omega);rw[Dg] at f;exact j7 (u:=[]) (x:=0) G hw l i (f q List.mem_cons_self) j
 | cons r u s=>
  intro hu d T RL A C x l hR i b j;obtain⟨p,q,h,o,f⟩:=El.parts (G.BG hu).red b
  by_cases m:q=0
  ·exact j9 G hw l hu d (s (G.sub hu) d.tail) hR i b h o f m j
  exact j8 G hw l hu d (s (G.sub hu) d.tail) hR i b h o f m j
theorem imD (G:Gam TT R K S) (hw:TT w):∀{u:List (List Rat)},TT u->BT u w->QX 341 S w u:=by
 intro u
 induction u with
 | nil=>
  intro hu f T RL A C x mm m hR b j d l;obtain⟨q,rfl⟩:=Ct.1 d.mem;have h:=d.CT (by have:=G.mul hw;omega);rw[Dg] at h;exact kA (u:=[]) (x:=0) b G hw m j (h q List.mem_cons_self) l
 | cons r u t=>
  intro hu f T RL A C x mm m hR b j d l;obtain⟨p,q,i,s,h⟩:=El.parts (G.BG hu).red d
  by_cases o:q=0
  ·exact kC b G hw m hu f (t (G.sub hu) f.tail) hR j d i s h o l
  exact kB b G hw m hu f (t (G.sub hu) f.tail) hR j d i s h o l
end
section
open Go.RowKit
variable {K R S:Nat} {T T2:List LR} {TT:List (List Rat)->Prop}
theorem QU {A B:LR} {R' s:Nat} {u:List (List Rat)} {v:Re} (h:BF R u) (h':BF R' (BC u v)) (o:(BC u v).length<=8) (j:T=tw u) (t:A=em u v) (m:El u s v) (y:Fit u.length R s) (i:0<=v) (b:T2=tw (BC u v)) (d:B=em (BC u v) (Re.sqrt v)):
  CF 227 [.one (.sl (.sl AA) T),.one (.sl AA A)] (.AI [(false,[.sl (.sl AA) T2]),(false,[.sl AA B]),(false,[.int .i64 0])]):=by
 by_cases f:Sq u v
 ·rw[Df f] at b d;have l:T2=T:=b.trans j.symm;subst l;exact gD h j t m y ((KQ i).1 f) (Re.Ll v) (Re.G5 i) d
 rw[DG f] at h' o b d;rw[<-Ik m.mem] at d;exact gE h j t m y (by rw[List.length_cons] at o;omega) i f rfl h' b d
theorem Lc (u:List (List Rat)) (i:Nat):pre u i<:+u:=List.drop_suffix _ _
theorem NI (u:List (List Rat)):pre u 0=[]:=by rw[pre,Nat.sub_zero,List.drop_length]
theorem EO (p:Prop):∃b:Bool,(b=true↔p):=by
 by_cases h:p
 ·exact⟨true,by simp[h]⟩
 exact⟨false,by simp[h]⟩
theorem MR {X Y:List LR} {u w:List (List Rat)} {c:Bool} (hu:BF R u) (hw:BF R w) (b:X=tw u) (d:Y=tw w) (h:c=true↔w<:+u):CF 282 [.one (.sl (.sl AA) X),.one (.sl (.sl AA) Y)] (.one (.bool c)):=by
 cases c with
 | true=>exact gb hu hw b d (h.1 rfl)
 | false=>exact ga hu hw b d (fun k=>by have:=h.2 k;cases this)
noncomputable def nm (n:List (List Rat)×Re):el AQ:=(tw n.1,em n.1 n.2)
noncomputable def CO (ns:List (List (List Rat)×Re)):List (List Rat):=ns.foldl (fun t n=>Eb t n.1) []
theorem kU (ns:List (List (List Rat)×Re)) (n:List (List Rat)×Re):CO (ns++[n])=Eb (CO ns) n.1:=by
 rw[CO,List.foldl_append];rfl
theorem X5 {ns:List (List (List Rat)×Re)} {i:Nat} {n:List (List Rat)×Re} (h:ns[i]? =some n):CO (ns.take (i+1))=Eb (CO (ns.take i)) n.1:=by
 rw[DO h,kU]
theorem IQ {X:List (el AQ)} {ns:List (List (List Rat)×Re)} {i:Nat} {x:el AQ} (d:X=ns.map nm) (b:X[i]? =some x):∃u y,x.1=tw u/\x.2=em u y/\ns[i]? =some (u,y):=by
 rw[d,List.getElem?_map] at b;cases h:ns[i]? with
 | none=>rw[h] at b;simp at b
 | some n=>
  rw[h] at b;have e:nm n=x:=Option.some.inj b;exact⟨n.1,n.2,by rw[<-e];rfl,by rw[<-e];rfl,rfl⟩
theorem Gam.CO (G:Gam TT R K S):∀{ns:List (List (List Rat)×Re)},(∀n∈ns,TT n.1)->TT (CO ns):=by
 have key:∀(ns:List (List (List Rat)×Re)) (t:List (List Rat)),TT t->(∀n∈ns,TT n.1)->TT (ns.foldl (fun t n=>Eb t n.1) t):=by
  intro ns
  induction ns with
  | nil=>intro t ht _;exact ht
  | cons n ns b=>intro t ht h;exact b _ (G.join ht (h n List.mem_cons_self)) (fun m hm=>h m (List.mem_cons_of_mem _ hm))
 intro ns h;exact key ns [] G.nil h
theorem Rg (G:Gam TT R K S) {ns:List (List (List Rat)×Re)} (h:∀n∈ns,TT n.1):∀n∈ns,BT n.1 (Go.Abs.CO ns):=by
 have key:∀(ns:List (List (List Rat)×Re)) (t:List (List Rat)),TT t->(∀n∈ns,TT n.1)->BT t (ns.foldl (fun t n=>Eb t n.1) t)/\∀n∈ns,BT n.1 (ns.foldl (fun t n=>Eb t n.1) t):=by
  intro ns
  induction ns with
  | nil=>intro t ht _;exact⟨BT.refl t,fun n b=>by simp at b⟩
  | cons n ns j=>
   intro t ht h;have b:=h n List.mem_cons_self;have f:=nO (G.BG ht).red (G.BG b).red;obtain⟨d,i⟩:=j _ (G.join ht b) (fun m hm=>h m (List.mem_cons_of_mem _ hm));refine⟨f.2.1.trans d,fun m hm=>?_⟩;rcases List.mem_cons.1 hm with rfl | hm
   ·exact f.2.2.trans d
   exact i m hm
 exact (key ns [] G.nil h).2
theorem XN {U RL:List LR} {t u:List (List Rat)} (G:Gam TT R K S) (ht:TT t) (hu:TT u) (hT:T=tw t) (hU:U=tw u) (ab:T2=tw (ext t u)) (a8:RL=Ef t u):CF 340 [.one (.sl (.sl AA) T),.one (.sl (.sl AA) U)] (.AI [(true,[.sl (.sl AA) T2,.sl (.sl AA) RL]),(false,[.int .i64 0])]):=by
 have an:U.length=u.length:=by rw[hU,CG]
 have ar:=G.ht hu;have aa:=G.RS;refine AG Tryz.func340 fun E hE=>?_
 intro ak P;have al:=P.eq;have f15:=P.le;refine .inr ?_;obtain⟨J0,J⟩:=xJ fun vs bl k=>(∃(L i:Int),vs=[.one (.AR 4 0 0),.one (.AR 6 0 0),.one (.sl (.sl AA) U),.one (.int .i64 L),.one (.int .i64 i)]/\bl=[.var 0 [.nil,.nil],.var 0 [.sl (.sl AA) T,.nil],.dead 0]/\(DP L U.length/\AO i 0)/\k=U.length)\/(∃(Ti o:List LR) (mm i':Nat) (L i:Int),vs=[.one (.AR 4 0 0),.one (.AR 6 0 0),.one (.sl (.sl AA) U),.one (.int .i64 L),.one (.int .i64 i)]/\bl=[.var 0 [.nil,.nil],.var 0 [.sl (.sl AA) Ti,.AZ (.sl AA) 39 0 0 mm],.arr 0 (.sl AA) o]/\(DP L U.length/\AO i i'/\i'<=U.length/\mm=o.length)/\Ti=tw (ext t (pre u i'))/\o=Ef t (pre u i')/\k=U.length-i')
 refine⟨[],[4,6,14,15,16],[4,6,39],J0,⟨U.length,by rw[J];exact .inl ⟨ak,0,rfl,rfl,⟨P,BD 0⟩,rfl⟩⟩,?_⟩;intro vs bl au hj;rw[J] at hj;rcases hj with⟨L,i,rfl,rfl,⟨hL,hi⟩,aj⟩ |⟨Ti,o,mm,i',L,i,rfl,rfl,⟨hL,hi,ao,W⟩,y,hinv,aj⟩
 ·conv=>cbv
  have eL:=hL.eq;have ei:=hi.eq;obtain⟨i',V⟩:=xN 0;have y:T=tw (ext t (pre u i')):=by rw[V,NI];exact hT
  refine BW (fun a2=>?_) fun a2=>?_
  ·have ag:u=[]:=List.eq_nil_of_length_eq_zero (by omega);exact AE ⟨⟨rfl,congrArg _ (by rw[ab,hT,ag];rfl),.inr (.inl ⟨_,congrArg _ (by rw[a8,ag];rfl)⟩),trivial⟩,t2,trivial⟩
  refine .inr ?_;refine AW i' fun N H=>?_
  try conv=>cbv
  obtain⟨r,v,D⟩:=KI (u:=u) (i:=i') (by omega);have f:TT (pre u i'):=G.Io (Lc u i') hu;have b:TT (r::pre u i'):=v ▸ G.Io (Lc u (i'+1)) hu;have B:=(G.BG b).red;have a1:N=em (pre u i') (AM (pre u i') r):=by rw[<-hU,H] at D;exact (Option.some.inj D).trans (Ea B)
  have d:TT (ext t (pre u i')):=G.ext ht f;have s:=(Ii (G.BG ht).red (G.BG f).red).2;have z:El (pre u i') S (AM (pre u i') r):=(El.Cz (G.BG b)).mono aa;have F:TT (BC (ext t (pre u i')) (AM (pre u i') r)):=G.BC d b s;have Q:ext t (pre u (i'+1))=BC (ext t (pre u i')) (AM (pre u i') r):=by rw[v];rfl
  have Z:Ef t (pre u (i'+1))=Ef t (pre u i')++[em (BC (ext t (pre u i')) (AM (pre u i') r)) (Re.sqrt (AM (pre u i') r))]:=by rw[v];rfl
  obtain⟨a7,j⟩:=xR (em (ext t (pre u i')) (AM (pre u i') r));refine cLy (r:= .one (.sl AA a7)) hE (Xo G d f s y (by rw[V,NI];trivial) a1 z j) ⟨⟨rfl,.inr ⟨_,rfl⟩,trivial⟩,rfl,trivial⟩ ?_;obtain⟨I,l⟩:=xV (tw (BC (ext t (pre u i')) (AM (pre u i') r)));obtain⟨h,m⟩:=xR (em (BC (ext t (pre u i')) (AM (pre u i') r)) (Re.sqrt (AM (pre u i') r)));refine AB (r:= .AI [(false,[.sl (.sl AA) I]),(false,[.sl AA h]),(false,[.int .i64 0])]) hE (QU (G.BG d) (G.BG F) (G.ht F) y j (G.CL f d s z) (G.fit d) (by have:=B.2.2.1;grind) l m) ?_;refine BH ?_;refine⟨[h],fun _=>⟨rfl,by decide,rfl,⟨rfl,by first | exact t1 | exact t2 | exact t4 | simp[BR,BV,cells],trivial⟩⟩,.inr ?_⟩;try conv=>cbv
  refine .inl ⟨[h],fun _=>⟨rfl,by show (1)*24<=140737488355328;(try simp only[List.length_take,List.length_drop]);omega⟩,?_⟩;refine AK ?_;intro M ah a6 ai;refine⟨U.length-(i'+1),?_,?_⟩
  ·omega
  rw[J];exact .inr ⟨I,[h],M,i'+1,L,a6,rfl,rfl,⟨hL,⟨by omega⟩,by omega,ah⟩,by rw[l,Q],by rw[Z,m,V,NI];rfl,rfl⟩
 conv=>cbv
 have eL:=hL.eq;have ei:=hi.eq;have aq:o.length<=U.length:=by rw[hinv,NQ,JM (by omega)];omega
 refine BW (fun a2=>?_) fun a2=>?_
 ·have af:pre u i'=u:=by rw[show i'=u.length by omega];exact ZQ u
  exact AE ⟨⟨rfl,congrArg _ (by rw[ab,y,af]),.inl ⟨_,rfl,by omega,congrArg _ (by rw[a8,W,List.drop_zero,List.take_length,hinv,af])⟩,trivial⟩,t2,trivial⟩
 refine .inr ?_;refine AW i' fun N H=>?_
 try conv=>cbv
 obtain⟨r,v,D⟩:=KI (u:=u) (i:=i') (by omega);have f:TT (pre u i'):=G.Io (Lc u i') hu;have b:TT (r::pre u i'):=v ▸ G.Io (Lc u (i'+1)) hu;have B:=(G.BG b).red;have a1:N=em (pre u i') (AM (pre u i') r):=by rw[<-hU,H] at D;exact (Option.some.inj D).trans (Ea B)
 have d:TT (ext t (pre u i')):=G.ext ht f;have s:=(Ii (G.BG ht).red (G.BG f).red).2;have z:El (pre u i') S (AM (pre u i') r):=(El.Cz (G.BG b)).mono aa;have F:TT (BC (ext t (pre u i')) (AM (pre u i') r)):=G.BC d b s;have Q:ext t (pre u (i'+1))=BC (ext t (pre u i')) (AM (pre u i') r):=by rw[v];rfl
 have Z:Ef t (pre u (i'+1))=Ef t (pre u i')++[em (BC (ext t (pre u i')) (AM (pre u i') r)) (Re.sqrt (AM (pre u i') r))]:=by rw[v];rfl
 obtain⟨a7,j⟩:=xR (em (ext t (pre u i')) (AM (pre u i') r));refine .inr (.inr (.inl ⟨39,.arr 0 (.sl AA) o,[.agg [.sl (.sl AA) Ti,.AZ (.sl AA) 0 0 0 mm],.one (.sl AA N)],.one (.sl AA a7),fun _=>⟨rfl,⟨⟨rfl,⟨⟨rfl,rfl⟩,rfl⟩,trivial⟩,rfl,trivial⟩⟩,fun _=>CW hE (imD G d f s y (by rw[hinv];exact NS (G.BG ht).red (G.BG f).red) W a1 z j),?_⟩));try conv=>cbv
 obtain⟨I,l⟩:=xV (tw (BC (ext t (pre u i')) (AM (pre u i') r)));obtain⟨h,m⟩:=xR (em (BC (ext t (pre u i')) (AM (pre u i') r)) (Re.sqrt (AM (pre u i') r)));refine AB (r:= .AI [(false,[.sl (.sl AA) I]),(false,[.sl AA h]),(false,[.int .i64 0])]) hE (QU (G.BG d) (G.BG F) (G.ht F) y j (G.CL f d s z) (G.fit d) (by have:=B.2.2.1;grind) l m) ?_;refine BH ?_;refine⟨[h],fun _=>⟨rfl,by decide,rfl,⟨rfl,by first | exact t1 | exact t2 | exact t4 | simp[BR,BV,cells],trivial⟩⟩,.inr ?_⟩;try conv=>cbv
 refine .inl ⟨[h],fun _=>⟨rfl,W,rfl,by show (o.length+1)*24<=140737488355328;(try simp only[List.length_take,List.length_drop]);omega⟩,?_⟩;intro (a5:List (el (.sl AA))) M O;have ad:a5=(o:List (el (.sl AA)))++([h]:List (el (.sl AA))):=O.1;have ae:M=List.length (α:=(el (.sl AA))) a5:=O.2;refine AK ?_;intro a6 ai;refine⟨U.length-(i'+1),?_,?_⟩
 ·omega
 rw[J];exact .inr ⟨I,a5,M,i'+1,L,a6,rfl,rfl,⟨hL,⟨by omega⟩,by omega,ae⟩,by rw[l,Q],by rw[ad,hinv,Z,m],rfl⟩
end
section
open Go.RowKit
variable {K R S:Nat} {L:List (el AQ)} {T:List LR} {TT:List (List Rat)->Prop}
theorem iN (G:Gam TT R K S) {ns:List (List (List Rat)×Re)} (F:∀n∈ns,TT n.1) (W:L=ns.map nm) (hT:T=tw (CO ns)):CF 339 [.one (.sl AQ L)] (.AI [(false,[.sl (.sl AA) T]),(false,[.int .i64 0])]):=by
 have a1:L.length=ns.length:=by rw[W,List.length_map]
 refine AG Tryz.func339 fun E P=>?_
 intro U s;have Z:=s.eq;have f10:=s.le;refine BN [(4,.sl AA,false)] [4,9,10,11] [] (fun vs V k=>∃(M:List LR) (i':Nat) (n i:Int),vs=[.one (.sl (.sl AA) M),.one (.sl AQ L),.one (.int .i64 n),.one (.int .i64 i)]/\V=[]/\(DP n L.length/\AO i i'/\i'<=L.length)/\M=tw (CO (ns.take i'))/\k=L.length-i') L.length ⟨[],0,U,0,rfl,rfl,⟨s,BD 0,by omega⟩,rfl,rfl⟩ ?_;rintro J0 t vs V a7 ⟨M,i',n,i,rfl,rfl,⟨B,hi,a2⟩,b,a5⟩;conv=>cbv
 have en:=B.eq;have ei:=hi.eq;refine BW (fun Q=>?_) fun Q=>?_
 ·exact AE ⟨⟨rfl,congrArg _ (by rw[hT,b,List.take_of_length_le (show ns.length<=i' by omega)]),trivial⟩,t2,trivial⟩
 refine .inr ?_;refine AW i' fun ab J=>?_
 try conv=>cbv
 obtain⟨u,y,l,a6,H⟩:=IQ W J;have hu:TT u:=F _ (List.mem_of_getElem? H);have j:=X5 H;unfold Eb at j;have v:TT (CO (ns.take i')):=G.CO (fun n B=>F n (List.mem_of_mem_take B));refine .inr ?_;obtain⟨N,d⟩:=EO (u<:+(CO (ns.take i')));refine AB P (MR (G.BG v) (G.BG hu) b l d) ?_;refine .inr ?_;cases N <;> conv=>cbv
 ·have m:=fun q=>Bool.false_ne_true (d.2 q)
  obtain⟨O,f⟩:=EO ((CO (ns.take i'))<:+u);refine AB P (MR (G.BG hu) (G.BG v) l b f) ?_;refine .inr ?_;cases O <;> conv=>cbv
  ·have z:=fun q=>Bool.false_ne_true (f.2 q)
   obtain⟨a8,o⟩:=xV (tw (ext (CO (ns.take i')) u));obtain⟨aa,I⟩:=xV (Ef (CO (ns.take i')) u);refine AB P (XN G v hu b l o I) ?_;refine BH ?_;intro h D;exact Ba t ⟨_,i'+1,n,h,rfl,rfl,⟨B,⟨by omega⟩,by omega⟩,by rw[j,if_neg m,if_neg z,o],rfl⟩
  have z:=f.1 rfl;refine AK ?_;intro h D;exact Ba t ⟨_,i'+1,n,h,rfl,rfl,⟨B,⟨by omega⟩,by omega⟩,by rw[j,if_neg m,if_pos z];exact l,rfl⟩
 have m:=d.1 rfl;refine AK ?_;intro h D;exact Ba t ⟨_,i'+1,n,h,rfl,rfl,⟨B,⟨by omega⟩,by omega⟩,by rw[j,if_pos m,<-b],rfl⟩
theorem QY (G:Gam TT R K S) {ns:List (List (List Rat)×Re)} (v:∀n∈ns,TT n.1) (hL:L=ns.map nm) (a6:∀n∈ns,El n.1 S n.2) (hlen:ns.length<=1000000) {O:List (el AQ)} (hO:O=ns.map (fun n=>nm (CO ns,n.2))):CF 284 [.one (.sl AQ L)] (.AI [(false,[.sl AQ O]),(false,[.int .i64 0])]):=by
 have ad:L.length=ns.length:=by rw[hL,List.length_map]
 have b:TT (CO ns):=G.CO v;obtain⟨T,t⟩:=xV (tw (CO ns));refine AG Tryz.func284 fun E J=>?_
 refine AB J (iN G v hL t) ?_;refine BH ?_;intro a8 I;have ab:=I.eq;have f21:=I.le;refine BN [(6,AQ,true)] [4,6,20,21,22] [6] (fun vs bl k=>∃(o:List (el AQ)) (mm i':Nat) (n i:Int),vs=[.one (.sl (.sl AA) T),.one (.AZ AQ 6 0 0 mm),.one (.sl AQ L),.one (.int .i64 n),.one (.int .i64 i)]/\bl=[.arr 0 AQ o]/\(DP n L.length/\AO i i'/\i'<=L.length/\mm=o.length)/\o=(ns.take i').map (fun n=>nm (CO ns,n.2))/\k=L.length-i') L.length ⟨[],0,0,a8,0,rfl,rfl,⟨I,BD 0,Nat.zero_le _,rfl⟩,rfl,rfl⟩ ?_;rintro J0 U vs bl ah ⟨o,mm,i',n,i,rfl,rfl,⟨hn,hi,ae,M⟩,hinv,af⟩;conv=>cbv
 have en:=hn.eq;have ei:=hi.eq;have ag:o.length<=L.length:=by rw[hinv,List.length_map,List.length_take];omega
 refine BW (fun a7=>?_) fun a7=>?_
 ·exact AE ⟨⟨rfl,.inl ⟨_,rfl,by omega,congrArg _ (by rw[hO,M,hinv,List.drop_zero,List.take_length,List.take_of_length_le (show ns.length<=i' by omega)])⟩,trivial⟩,t2,trivial⟩
 refine .inr ?_;refine AW i' fun ai V=>?_
 try conv=>cbv
 obtain⟨u,y,W,Z,N⟩:=IQ hL V;have P:=List.mem_of_getElem? N;have hu:TT u:=v _ P;have B:El u S y:=a6 _ P;have z:BT u (CO ns):=Rg G v _ P;obtain⟨D,h⟩:=xR (em (CO ns) y);obtain⟨a2,j⟩:=EO (u<:+CO ns);refine AB J (MR (G.BG b) (G.BG hu) t W j) ?_;refine .inr ?_;cases a2 <;> conv=>cbv
 ·have a1:=fun q=>Bool.false_ne_true (j.2 q)
  obtain⟨aa,H⟩:=xV (Ef (CO ns) u);have F:=Ro (G.BG b).red (G.BG hu).red z;refine AB (r:= .AI [(true,[.sl (.sl AA) T,.sl (.sl AA) aa]),(false,[.int .i64 0])]) J (XN G b hu t W (by rw[F];exact t) H) ?_;refine BH ?_;refine AB (r:= .one (.sl AA D)) J (Xo G b hu z t (by rw[H];have:=NS (G.BG b).red (G.BG hu).red;rwa [F] at this) Z B h) ?_;refine AB (r:= .agg [.sl (.sl AA) T,.sl AA D]) J (Oh (G.BG b) t h (G.CL hu b z B) (by have:=G.mul b;omega)) ?_;refine⟨[(T,D)],fun _=>⟨rfl,by decide,rfl,⟨rfl,by first | exact t1 | exact t2 | exact t4 | simp[BR,BV,cells],trivial⟩⟩,.inr ?_⟩;try conv=>cbv
  refine .inl ⟨[(T,D)],fun _=>⟨rfl,M,rfl,by show (o.length+1)*48<=140737488355328;(try simp only[List.length_take,List.length_drop]);omega⟩,?_⟩;intro (f:List (el AQ)) s d;have l:f=(o:List (el AQ))++([(T,D)]:List (el AQ)):=d.1;have m:s=List.length (α:=(el AQ)) f:=d.2;refine AK ?_;intro Q a5;exact Ba U ⟨f,s,i'+1,n,Q,rfl,rfl,⟨hn,⟨by omega⟩,by omega,m⟩,by rw[l,hinv,DO N,List.map_append];simp[nm,t,h],rfl⟩
 have a1:=j.1 rfl;refine AB J (Sw (G.BG b) t Z B.mem a1 h) ?_;refine AB (r:= .agg [.sl (.sl AA) T,.sl AA D]) J (Oh (G.BG b) t h (G.CL hu b z B) (by have:=G.mul b;omega)) ?_;refine⟨[(T,D)],fun _=>⟨rfl,by decide,rfl,⟨rfl,by first | exact t1 | exact t2 | exact t4 | simp[BR,BV,cells],trivial⟩⟩,.inr ?_⟩;try conv=>cbv
 refine .inl ⟨[(T,D)],fun _=>⟨rfl,M,rfl,by show (o.length+1)*48<=140737488355328;(try simp only[List.length_take,List.length_drop]);omega⟩,?_⟩;intro (f:List (el AQ)) s d;have l:f=(o:List (el AQ))++([(T,D)]:List (el AQ)):=d.1;have m:s=List.length (α:=(el AQ)) f:=d.2;refine AK ?_;intro Q a5;exact Ba U ⟨f,s,i'+1,n,Q,rfl,rfl,⟨hn,⟨by omega⟩,by omega,m⟩,by rw[l,hinv,DO N,List.map_append];simp[nm,t,h],rfl⟩
noncomputable def Bk (u v:List (List Rat)):List (List Rat):=CO [(u,0),(v,0)]
theorem RT (G:Gam TT R K S) {T1 T2:List LR} {A1 A2:LR} {u v:List (List Rat)} {x y:Re} (hu:TT u) (Z:TT v) (t:T1=tw u) (D:T2=tw v) (o:A1=em u x) (s:A2=em v y) (hx:El u S x) (hy:El v S y) {A B C:LR} {g:FuncId} (V:T=tw (Bk u v)) (P:A=em (Bk u v) x) (Q:B=em (Bk u v) y) (W:CF g [.one (.sl (.sl AA) T),.one (.sl AA A),.one (.sl AA B)] (.one (.sl AA C))):CF 252 [.agg (AJ T1 A1),.agg (AJ T2 A2),.one (.fn g)] (.AI [(true,(AJ T C)),(false,[.int .i64 0])]):=by
 obtain⟨O,j⟩:∃z:List (el AQ),z=[(T,A),(T,B)]:=⟨_,rfl⟩
 have U:O.length=2:=by rw[j];rfl
 have J:O[0]? =some (T,A):=by rw[j];rfl
 have N:O[1]? =some (T,B):=by rw[j];rfl
 refine AG Tryz.func252 fun E M=>?_
 refine⟨[(T1,A1),(T2,A2)],fun _=>⟨rfl,by decide,rfl,⟨rfl,by first | exact t1 | exact t2 | exact t4 | simp[BR,BV,cells],⟨rfl,by first | exact t1 | exact t2 | exact t4 | simp[BR,BV,cells],trivial⟩⟩⟩,.inr ?_⟩;try conv=>cbv
 refine AB (r:= .AI [(false,[.sl AQ O]),(false,[.int .i64 0])]) M (QY (ns:=[(u,x),(v,y)]) G (by intro n d;simp at d;rcases d with rfl | rfl;exact hu;exact Z) (by rw[t,D,o,s];rfl) (by intro n d;simp at d;rcases d with rfl | rfl;exact hx;exact hy) (by show 2<=1000000;decide) (by rw[j,V,P,Q];rfl)) ?_;refine BH ?_;refine AW 0 fun F f=>?_
 try conv=>cbv
 refine AW 0 fun H h=>?_
 try conv=>cbv
 refine AW 1 fun I i=>?_
 try conv=>cbv
 have b:=Option.some.inj (f.symm.trans J);have l:=Option.some.inj (h.symm.trans J);have m:=Option.some.inj (i.symm.trans N);refine .inl ⟨[.one (.sl (.sl AA) F.1),.one (.sl AA H.2),.one (.sl AA I.2)],.one (.sl AA C),fun _=>t3,fun _=>FG M (by rw[b,l,m];exact W),?_⟩;try conv=>cbv
 refine g2 rfl ?_;exact AE ⟨⟨rfl,congrArg _ (by rw[b]),rfl,trivial⟩,t2,trivial⟩
end
section
open Go.RowKit
section
variable {TT:List (List Rat)->Prop} {R K S:Nat}
theorem Gam.Bk (G:Gam TT R K S) {u v:List (List Rat)} (hu:TT u) (f:TT v):TT (Go.Abs.Bk u v)/\BT u (Go.Abs.Bk u v)/\BT v (Go.Abs.Bk u v):=by
 have b:∀n∈[(u,(0:Re)),(v,0)],TT n.1:=by intro n d;simp at d;rcases d with rfl | rfl;exact hu;exact f
 have he:=Rg G b;exact⟨G.CO b,he (u,0) (by simp),he (v,0) (by simp)⟩
end
theorem Hx (T0:List LR):∃z:List LR,z=T0:=⟨_,rfl⟩
theorem C8 (T0:LR):∃z:LR,z=T0:=⟨_,rfl⟩
theorem dM {TT:List (List Rat)->Prop} {R K S:Nat} (G:Gam TT R K S) {T1 T2:List LR} {A1 A2:LR} {u v:List (List Rat)} {x y:Re} (hu:TT u) (m:TT v) (h:T1=tw u) (i:T2=tw v) (d:A1=em u x) (f:A2=em v y) (F:El u S x) (H:El v S y) {T:List LR} {C:LR} (D:T=tw (Bk u v)) (I:C=em (Bk u v) (x+y)):CF 233 [.agg (AJ T1 A1),.agg (AJ T2 A2)] (.AI [(true,(AJ T C)),(false,[.int .i64 0])]):=by
 obtain⟨b,j,l⟩:=G.Bk hu m;have o:=G.CL hu b j F;have s:=G.CL m b l H;have hmul:=G.mul b;obtain⟨A,t⟩:=C8 (em (Bk u v) x);obtain⟨B,z⟩:=C8 (em (Bk u v) y);refine AG Tryz.func233 fun E J=>?_
 refine AB J (RT G hu m h i d f F H D t z (KX (G.BG b) D t z o s (by omega) (by omega) I)) ?_;exact AE ⟨t3,t2,trivial⟩
theorem dR {TT:List (List Rat)->Prop} {R K S:Nat} (G:Gam TT R K S) {T1 T2:List LR} {A1 A2:LR} {u v:List (List Rat)} {x y:Re} (hu:TT u) (m:TT v) (h:T1=tw u) (i:T2=tw v) (d:A1=em u x) (f:A2=em v y) (F:El u S x) (H:El v S y) {T:List LR} {C:LR} (D:T=tw (Bk u v)) (I:C=em (Bk u v) (x-y)):CF 165 [.agg (AJ T1 A1),.agg (AJ T2 A2)] (.AI [(true,(AJ T C)),(false,[.int .i64 0])]):=by
 obtain⟨b,j,l⟩:=G.Bk hu m;have o:=G.CL hu b j F;have s:=G.CL m b l H;have hmul:=G.mul b;obtain⟨A,t⟩:=C8 (em (Bk u v) x);obtain⟨B,z⟩:=C8 (em (Bk u v) y);refine AG Tryz.func165 fun E J=>?_
 refine AB J (RT G hu m h i d f F H D t z (N0 (G.BG b) D t z o s (by omega) (by omega) I)) ?_;exact AE ⟨t3,t2,trivial⟩
theorem Qa {TT:List (List Rat)->Prop} {R K S:Nat} (G:Gam TT R K S) {T1 T2:List LR} {A1 A2:LR} {u v:List (List Rat)} {x y:Re} (hu:TT u) (m:TT v) (h:T1=tw u) (i:T2=tw v) (d:A1=em u x) (f:A2=em v y) (F:El u S x) (H:El v S y) {T:List LR} {C:LR} (D:T=tw (Bk u v)) (I:C=em (Bk u v) (x*y)):CF 214 [.agg (AJ T1 A1),.agg (AJ T2 A2)] (.AI [(true,(AJ T C)),(false,[.int .i64 0])]):=by
 obtain⟨b,j,l⟩:=G.Bk hu m;have o:=G.CL hu b j F;have s:=G.CL m b l H;have hmul:=G.mul b;obtain⟨A,t⟩:=C8 (em (Bk u v) x);obtain⟨B,z⟩:=C8 (em (Bk u v) y);refine AG Tryz.func214 fun E J=>?_
 refine AB J (RT G hu m h i d f F H D t z (HZ (G.BG b) D t z o s (by omega) I)) ?_;exact AE ⟨t3,t2,trivial⟩
theorem Qb {TT:List (List Rat)->Prop} {R K S:Nat} (G:Gam TT R K S) {T1:List LR} {A1:LR} {u:List (List Rat)} {x:Re} (hu:TT u) (d:T1=tw u) (b:A1=em u x) (h:El u S x) {C:LR} (i:C=em u (-x)):CF 71 [.agg (AJ T1 A1)] (.agg (AJ T1 C)):=by
 have hmul:=G.mul hu;refine AG Tryz.func71 fun E f=>?_
 refine AB f (Oh (G.BG hu) d b h) ?_;refine AB f (Uo (G.BG hu) d b h (by omega) i) ?_;exact AE ⟨t3,trivial⟩
theorem Um {TT:List (List Rat)->Prop} {R K S:Nat} (G:Gam TT R K S) {T1:List LR} {A1:LR} {u:List (List Rat)} {x:Re} (hu:TT u) (d:T1=tw u) (b:A1=em u x) (i:El u S x) {c:Int} (h:c=Bm x):CF 70 [.agg (AJ T1 A1)] (.one (.int .i64 c)):=by
 refine AG Tryz.func70 fun E f=>?_
 refine AB f (L8 (G.BG hu) d b i ((G.fit hu).mono (Nat.le_add_right _ _)).v0 (G.fit hu).vR h) ?_;exact AE ⟨t2,trivial⟩
theorem dQ {TT:List (List Rat)->Prop} {R K S:Nat} (G:Gam TT R K S) {T1:List LR} {A1:LR} {u:List (List Rat)} {x:Re} (hu:TT u) (d:T1=tw u) (b:A1=em u x) (o:El u S x) (hw:TT (BC u x)) (l:0<=x) {T:List LR} {C:LR} (j:T=tw (BC u x)) (h:C=em (BC u x) (Re.sqrt x)) {s:Nat} (m:El (BC u x) s (Re.sqrt x)) (f:s<=60000000000000):CF 126 [.agg (AJ T1 A1)] (.AI [(true,(AJ T C)),(false,[.int .i64 0])]):=by
 refine AG Tryz.func126 fun E i=>?_
 refine AB i (QU (G.BG hu) (G.BG hw) (G.ht hw) d b o ((G.fit hu).mono (Nat.le_add_right _ _)) l j h) ?_;refine BH ?_;refine AB i (Oh (G.BG hw) j h m f) ?_;exact AE ⟨t3,t2,trivial⟩
theorem dN {TT:List (List Rat)->Prop} {R K S:Nat} (G:Gam TT R K S) {T1 T2:List LR} {A1 A2:LR} {u v:List (List Rat)} {x y:Re} (hu:TT u) (t:TT v) (l:T1=tw u) (d:T2=tw v) (f:A1=em u x) (h:A2=em v y) (F:El u S x) (H:El v S y) {i:Re} (D:In v i) (o:y*i=1) (m:El v S i) (j:II v.length R S<=60000000000000) {T:List LR} {C:LR} (B:T=tw (Bk u v)) (z:C=em (Bk u v) (x*i)):CF 224 [.agg (AJ T1 A1),.agg (AJ T2 A2)] (.AI [(true,(AJ T C)),(false,[.int .i64 0])]):=by
 refine AG Tryz.func224 fun E s=>?_
 obtain⟨I,b⟩:=C8 (em v i);refine AB s (Nv (G.BG t) d h H D o j b) ?_;refine BH ?_;refine AB s (Qa G hu t l d f b F m B z) ?_;exact AE ⟨t3,t2,trivial⟩
theorem Rc {u:List (List Rat)} {x y:Re} (b:In u x) (d:In u y):em u x=em u y↔x=y:=
 ⟨fun h=>by rw[<-EC b,<-EC d,Zu h],fun h=>by rw[h]⟩
theorem pL {u v:List (List Rat)} (h:u<:+v) (k:v<:+u):u=v:=h.eq_of_length_le k.length_le
theorem dO {TT:List (List Rat)->Prop} {R K S:Nat} (G:Gam TT R K S) {T1 T2:List LR} {A1 A2:LR} {u v:List (List Rat)} {x y:Re} (hu:TT u) (U:TT v) (t:T1=tw u) (D:T2=tw v) (o:A1=em u x) (s:A2=em v y) (Z:El u S x) (hy:El v S y) {c:Bool} (hc:c=true↔x=y):CF 221 [.agg (AJ T1 A1),.agg (AJ T2 A2)] (.one (.bool c)):=by
 obtain⟨J,a7,a8⟩:=G.Bk hu U;have F:=G.CL hu J a7 Z;have H:=G.CL U J a8 hy;have hmul:=G.mul J;obtain⟨A,P⟩:=C8 (em (Bk u v) x);obtain⟨B,Q⟩:=C8 (em (Bk u v) y);obtain⟨T,hT⟩:=Hx (tw (Bk u v));obtain⟨O,V⟩:∃z:List (el AQ),z=[(T,A),(T,B)]:=⟨_,rfl⟩
 have aa:O.length=2:=by rw[V];rfl
 have h0:O[0]? =some (T,A):=by rw[V];rfl
 have h1:O[1]? =some (T,B):=by rw[V];rfl
 refine AG Tryz.func221 fun E I=>?_
 obtain⟨a5,f⟩:=EO (v<:+u);refine AB I (MR (G.BG hu) (G.BG U) t D f) ?_;cases a5 <;> conv=>cbv
 ·have a1:=fun q=>Bool.false_ne_true (f.2 q)
  refine⟨[(T1,A1),(T2,A2)],fun _=>⟨rfl,by decide,rfl,⟨rfl,by first | exact t1 | exact t2 | exact t4 | simp[BR,BV,cells],⟨rfl,by first | exact t1 | exact t2 | exact t4 | simp[BR,BV,cells],trivial⟩⟩⟩,.inr ?_⟩;try conv=>cbv
  refine AB (r:= .AI [(false,[.sl AQ O]),(false,[.int .i64 0])]) I (QY (ns:=[(u,x),(v,y)]) G (by intro n j;simp at j;rcases j with rfl | rfl;exact hu;exact U) (by rw[t,D,o,s];rfl) (by intro n j;simp at j;rcases j with rfl | rfl;exact Z;exact hy) (by show 2<=1000000;decide) (by rw[V,hT,P,Q];rfl)) ?_;refine CU ?_;refine AW 0 fun M l=>?_
  try conv=>cbv
  refine AW 1 fun N m=>?_
  try conv=>cbv
  have b:=Option.some.inj (l.symm.trans h0);have d:=Option.some.inj (m.symm.trans h1);have i:c=decide (M.2=N.2):=by rw[Bool.eq_iff_iff,decide_eq_true_eq,hc,b,d,P,Q];exact (Rc F.mem H.mem).symm
  refine AB (r:= .one (.bool c)) I (Pu (by rw[b];exact P) (by rw[d];exact Q) (F.CT (by omega)) (H.CT (by omega)) i) ?_;exact AE ⟨t2,trivial⟩
 have a1:=f.1 rfl;obtain⟨a6,h⟩:=EO (u<:+v);refine AB I (MR (G.BG U) (G.BG hu) D t h) ?_;cases a6 <;> conv=>cbv
 ·have a2:=fun q=>Bool.false_ne_true (h.2 q)
  refine⟨[(T1,A1),(T2,A2)],fun _=>⟨rfl,by decide,rfl,⟨rfl,by first | exact t1 | exact t2 | exact t4 | simp[BR,BV,cells],⟨rfl,by first | exact t1 | exact t2 | exact t4 | simp[BR,BV,cells],trivial⟩⟩⟩,.inr ?_⟩;try conv=>cbv
  refine AB (r:= .AI [(false,[.sl AQ O]),(false,[.int .i64 0])]) I (QY (ns:=[(u,x),(v,y)]) G (by intro n j;simp at j;rcases j with rfl | rfl;exact hu;exact U) (by rw[t,D,o,s];rfl) (by intro n j;simp at j;rcases j with rfl | rfl;exact Z;exact hy) (by show 2<=1000000;decide) (by rw[V,hT,P,Q];rfl)) ?_;refine CU ?_;refine AW 0 fun M l=>?_
  try conv=>cbv
  refine AW 1 fun N m=>?_
  try conv=>cbv
  have b:=Option.some.inj (l.symm.trans h0);have d:=Option.some.inj (m.symm.trans h1);have i:c=decide (M.2=N.2):=by rw[Bool.eq_iff_iff,decide_eq_true_eq,hc,b,d,P,Q];exact (Rc F.mem H.mem).symm
  refine AB (r:= .one (.bool c)) I (Pu (by rw[b];exact P) (by rw[d];exact Q) (F.CT (by omega)) (H.CT (by omega)) i) ?_;exact AE ⟨t2,trivial⟩
 have a2:=h.1 rfl;have W:=pL a2 a1;have i:c=decide (A1=A2):=by rw[Bool.eq_iff_iff,decide_eq_true_eq,hc,o,s,<-W];exact (Rc Z.mem (W ▸ hy.mem)).symm
 refine AB I (Pu o s (Z.CT (by omega)) (hy.CT (by omega)) i) ?_;exact AE ⟨t2,trivial⟩
theorem Ul {q:Rat} {b1 b2:Bool} {l1 l2:List UInt32} {C:LR} (b:BY q b1 l1 b2 l2) (h:CR q) (d:C=em [] (Re.ofRat q)):CF 235 [.agg (Bw b1 l1 b2 l2)] (.agg (AJ [] C)):=by
 refine AG Tryz.func235 fun E f=>?_
 refine AB f (Wp b h) ?_;refine⟨[((b1,l1),(b2,l2))],fun _=>⟨rfl,by decide,rfl,⟨rfl,by first | exact t1 | exact t2 | exact t4 | simp[BR,BV,cells],trivial⟩⟩,.inr ?_⟩;try conv=>cbv
 exact AE ⟨⟨rfl,AL,congrArg _ (by rw[d,EB,<-b.rp]),trivial⟩,trivial⟩
theorem dP {x:Int} {C:LR} (i: -9223372036854775808<=x/\x<9223372036854775808) (h:CR x) (f:C=em [] (Re.ofRat x)):CF 155 [.one (.int .i64 x)] (.agg (AJ [] C)):=by
 refine AG Tryz.func155 fun E d=>?_
 obtain⟨m,o,j,l,b⟩:=CA (x:Rat);refine AB d (Hb i rfl b) ?_;refine AB d (Ul b h f) ?_;exact AE ⟨t3,trivial⟩
end
end Go.Abs
