/- Part 37 of a proof. Conditions: each theorem's own. -/
import Derived.Test.YtfilemenbchajaaGreatPk30
set_option linter.all false
set_option maxHeartbeats 8000000
set_option maxRecDepth 20000
open Go.Proofs
namespace Go.Abs
open Go.RowKit
variable {A:LR} {R:Nat} {T X Y:List LR} {b1 b2 c:Bool} {g:FuncId} {l1 l2:List UInt32} {u w:List (List Rat)} {x:Re} {xs ys:List Rat}
theorem Nx (p q:Rat):decide (p=q)=(FG p q==0):=by
 rw[Bool.eq_iff_iff,decide_eq_true_eq,beq_iff_eq];unfold FG
 split
 ·rename_i h;exact⟨fun e=>by subst e;grind,fun e=>by omega⟩
 split
 ·rename_i h;exact⟨fun e=>by subst e;grind,fun e=>by omega⟩
 exact⟨fun _=>rfl,fun _=>by grind⟩
theorem Pa {p q:Rat} (h:rp p=rp q):p=q:=by
 have a:=E1 p;rw[h] at a;have b:=E1 q;have d:=a.num.nat;have f:=b.num.nat;have s1:=a.num.ER;have s2:=b.num.ER;have d1:=a.den.ER;have d2:=b.den.ER;exact Rat.ext (s1.trans s2.symm) (by have:=d1.trans d2.symm;omega)
theorem VI (h:Ao xs=Ao ys):xs=ys:=List.map_inj_right (fun _ _=>Pa) |>.1 h
def EB {α:Type} (p:α->α->Bool):List α->List α->Bool
 | [],[]=>true
 | x::X,y::Y=>p x y&&EB p X Y
 | _,_=>false
theorem OC {α:Type} {p:α->α->Bool}:∀{X Y:List α},X.length≠Y.length->EB p X Y=false
 | [],[],h=>absurd rfl h
 |[],_::_,_|_::_,[],_=>rfl
 | x::X,y::Y,h=>by rw[EB,OC (X:=X) (Y:=Y) (by simpa using h),Bool.and_false]
theorem Lk {α:Type} {p:α->α->Bool} {X Y:List α} {i:Nat} {x y:α} (a:X[i]? =some x) (b:Y[i]? =some y):EB p (X.drop i) (Y.drop i)=(p x y&&EB p (X.drop (i+1)) (Y.drop (i+1))):=by
 have d:=E0 a;have f:=E0 b;rw[List.drop_eq_getElem_cons d,List.drop_eq_getElem_cons f,EB];rw[List.getElem?_eq_getElem d] at a;rw[List.getElem?_eq_getElem f] at b;rw[Option.some.inj a,Option.some.inj b]
theorem OB {α:Type} {p:α->α->Bool}:∀{X Y:List α},(∀x∈X,∀y∈Y,(p x y=true↔x=y))->(EB p X Y=true↔X=Y)
 |[],[],_|[],_::_,_|_::_,[],_=>by simp[EB]
 | x::X,y::Y,h=>by
  rw[EB,Bool.and_eq_true,h x List.mem_cons_self y List.mem_cons_self,OB (fun a ha b hb=>h a (List.mem_cons_of_mem _ ha) b (List.mem_cons_of_mem _ hb))];simp
theorem eS {p q:Rat} {c1 c2:Bool} {m1 m2:List UInt32} (i:BM p b1 l1 b2 l2) (j:BM q c1 m1 c2 m2) (h:Bj p) (ht:Bj q) (f:c=decide (p=q)):CF 253 [.agg [.bool b1,.sl .u32 l1,.bool b2,.sl .u32 l2],.agg [.bool c1,.sl .u32 m1,.bool c2,.sl .u32 m2]] (.one (.bool c)):=by
 refine AH Tryz.func253 (by kernel_rfl) rfl fun E d=>?_
 conv=>cbv
 obtain⟨l,a⟩:=xI (FG p q);refine cL d (XD i j h ht a) ⟨t4,t4,trivial⟩ ?_;try conv=>cbv
 intro k b;conv=>cbv
 exact fA ⟨⟨rfl,congrArg _ (by rw[f,b,a];exact Nx p q),trivial⟩,trivial⟩ rfl (by simp)
theorem Wt {X Y:LR} {p:el AA->el AA->Bool} (S:∀x∈X,∀y∈Y,CF g [.agg (cells AA x),.agg (cells AA y)] (.one (.bool (p x y)))) (H:c=EB p X Y):CF 252 [.one (.sl AA X),.one (.sl AA Y),.one (.fn g)] (.one (.bool c)):=by
 refine AH Tryz.func252 (by kernel_rfl) rfl fun E Q=>?_
 conv=>cbv
 rintro a1 ⟨M,f11⟩;conv=>cbv
 rintro a2 ⟨N,f13⟩;conv=>cbv
 intro z o;conv=>cbv
 cases z <;> conv=>cbv
 ·have s:=Dg o;intro B m;have O:=m.eq;have f16:=m.le;conv=>cbv
  refine .inr ?_;obtain⟨J,n⟩:=xJ fun vs K k=>∃(i':Nat) (L i:Int),vs=[.one (.sl AA Y),.one (.fn g),.one (.sl AA X),.one (.int .i64 L),.one (.int .i64 i)]/\(Cb L X.length/\AS i i'/\i'<=X.length)/\c=EB p (X.drop i') (Y.drop i')/\k=X.length-i'
  refine⟨[1,2,15,16,17],[],J,⟨X.length-0,by rw[n];exact⟨0,B,0,rfl,⟨m,BC 0,by omega⟩,H,rfl⟩⟩,?_⟩;intro vs K Z I;rw[n] at I;obtain⟨i',L,i,rfl,⟨G,U,V⟩,hinv,W⟩:=I;conv=>cbv
  have eL:=G.eq;have ei:=U.eq;intro C q;conv=>cbv
  cases C <;> conv=>cbv
  ·have t:=Ad q;exact fA ⟨⟨rfl,congrArg _ (by rw[hinv,List.drop_eq_nil_of_le (by omega),List.drop_eq_nil_of_le (by omega)];rfl),trivial⟩,trivial⟩ rfl (by simp)
  have t:=Ae q;refine .inr ?_;obtain⟨a,d⟩:=AG (l:=X) (i:=i') (by omega);refine⟨a,fun _=>⟨by omega,by rw[show (i).toNat=i' by omega];exact d⟩,?_⟩;try conv=>cbv
  obtain⟨b,f⟩:=AG (l:=Y) (i:=i') (by omega);refine⟨b,fun _=>⟨by omega,by rw[show (i).toNat=i' by omega];exact f⟩,?_⟩;try conv=>cbv
  obtain⟨r,h⟩:=xB (p a b);refine .inl ⟨[.agg [.bool a.1.1,.sl .u32 a.1.2,.bool a.2.1,.sl .u32 a.2.2],.agg [.bool b.1.1,.sl .u32 b.1.2,.bool b.2.1,.sl .u32 b.2.2]],.one (.bool r),fun _=>⟨t4,t4,trivial⟩,fun _=>Fu Q ((by rw[h];exact S a (List.mem_of_getElem? d) b (List.mem_of_getElem? f))),?_⟩;try conv=>cbv
  intro D j;conv=>cbv
  cases D <;> conv=>cbv
  ·have v:=CJ j;intro F P;conv=>cbv
   refine g1 (by omega) ?_;refine⟨X.length-(i'+1),?_,?_⟩
   ·omega
   rw[n];refine⟨i'+1,L,F,rfl,⟨G,⟨by omega⟩,by omega⟩,?_,rfl⟩;rw[hinv,Lk d f,<-h,CJ j,Bool.true_and]
  have v:=CK j;exact fA ⟨⟨rfl,congrArg _ (by rw[hinv,Lk d f,<-h,CK j];rfl),trivial⟩,trivial⟩ rfl (by simp)
 have s:=Dh o;exact fA ⟨⟨rfl,congrArg _ (by rw[H];exact OC (by omega)),trivial⟩,trivial⟩ rfl (by simp)
theorem Wu {p:LR->LR->Bool} (S:∀x∈X,∀y∈Y,CF g [.one (.sl AA x),.one (.sl AA y)] (.one (.bool (p x y)))) (H:c=EB p X Y):CF 251 [.one (.sl (.sl AA) X),.one (.sl (.sl AA) Y),.one (.fn g)] (.one (.bool c)):=by
 refine AH Tryz.func251 (by kernel_rfl) rfl fun E Q=>?_
 conv=>cbv
 rintro a1 ⟨M,f11⟩;conv=>cbv
 rintro a2 ⟨N,f13⟩;conv=>cbv
 intro z o;conv=>cbv
 cases z <;> conv=>cbv
 ·have s:=Dg o;intro B m;have O:=m.eq;have f16:=m.le;conv=>cbv
  refine .inr ?_;obtain⟨J,n⟩:=xJ fun vs K k=>∃(i':Nat) (L i:Int),vs=[.one (.sl (.sl AA) Y),.one (.fn g),.one (.sl (.sl AA) X),.one (.int .i64 L),.one (.int .i64 i)]/\(Cb L X.length/\AS i i'/\i'<=X.length)/\c=EB p (X.drop i') (Y.drop i')/\k=X.length-i'
  refine⟨[1,2,15,16,17],[],J,⟨X.length-0,by rw[n];exact⟨0,B,0,rfl,⟨m,BC 0,by omega⟩,H,rfl⟩⟩,?_⟩;intro vs K Z I;rw[n] at I;obtain⟨i',L,i,rfl,⟨G,U,V⟩,hinv,W⟩:=I;conv=>cbv
  have eL:=G.eq;have ei:=U.eq;intro C q;conv=>cbv
  cases C <;> conv=>cbv
  ·have t:=Ad q;exact fA ⟨⟨rfl,congrArg _ (by rw[hinv,List.drop_eq_nil_of_le (by omega),List.drop_eq_nil_of_le (by omega)];rfl),trivial⟩,trivial⟩ rfl (by simp)
  have t:=Ae q;refine .inr ?_;obtain⟨h,a⟩:=AG (l:=X) (i:=i') (by omega);refine⟨h,fun _=>⟨by omega,by rw[show (i).toNat=i' by omega];exact a⟩,?_⟩;try conv=>cbv
  obtain⟨j,b⟩:=AG (l:=Y) (i:=i') (by omega);refine⟨j,fun _=>⟨by omega,by rw[show (i).toNat=i' by omega];exact b⟩,?_⟩;try conv=>cbv
  obtain⟨r,d⟩:=xB (p h j);refine .inl ⟨[.one (.sl AA h),.one (.sl AA j)],.one (.bool r),fun _=>t2,fun _=>Fu Q ((by rw[d];exact S h (List.mem_of_getElem? a) j (List.mem_of_getElem? b))),?_⟩;try conv=>cbv
  intro D f;conv=>cbv
  cases D <;> conv=>cbv
  ·have v:=CJ f;intro F P;conv=>cbv
   refine g1 (by omega) ?_;refine⟨X.length-(i'+1),?_,?_⟩
   ·omega
   rw[n];refine⟨i'+1,L,F,rfl,⟨G,⟨by omega⟩,by omega⟩,?_,rfl⟩;rw[hinv,Lk a b,<-d,CJ f,Bool.true_and]
  have v:=CK f;exact fA ⟨⟨rfl,congrArg _ (by rw[hinv,Lk a b,<-d,CK f];rfl),trivial⟩,trivial⟩ rfl (by simp)
 have s:=Dh o;exact fA ⟨⟨rfl,congrArg _ (by rw[H];exact OC (by omega)),trivial⟩,trivial⟩ rfl (by simp)
theorem eV (d:DL xs) (ht:DL ys):∀x∈Ao xs,∀y∈Ao ys,CF 253 [.agg (cells AA x),.agg (cells AA y)] (.one (.bool (decide (x=y)))):=by
 intro x f y i;obtain⟨p,a,rfl⟩:=List.mem_map.1 f;obtain⟨q,b,rfl⟩:=List.mem_map.1 i;refine eS (E1 p) (E1 q) (d p a) (ht q b) ?_
 by_cases h:p=q
 ·subst h;simp
 rw[decide_eq_false h,decide_eq_false (fun e=>h (Pa e))]
theorem Mn {X Y:LR} (f:X=Ao xs) (h:Y=Ao ys) (j:DL xs) (ht:DL ys) (i:c=decide (X=Y)):CF 194 [.one (.sl AA X),.one (.sl AA Y)] (.one (.bool c)):=by
 refine AH Tryz.func194 (by kernel_rfl) rfl fun E d=>?_
 conv=>cbv
 obtain⟨b,a⟩:=xB (EB (fun x y=>decide (x=y)) X Y);refine cL (r:= .one (.bool b)) d (Wt (by rw[f,h];exact eV j ht) a) t3 ?_;try conv=>cbv
 exact fA ⟨⟨rfl,congrArg _ (by rw[i,a,Bool.eq_iff_iff,decide_eq_true_eq];exact (OB (fun x _ y _=>by rw[decide_eq_true_eq])).symm),trivial⟩,trivial⟩ rfl (by simp)
theorem eT (hu:Al R u) (hw:Al R w) (a:∀x∈X,x∈tw u) (b:∀y∈Y,y∈tw w):∀x∈X,∀y∈Y,CF 194 [.one (.sl AA x),.one (.sl AA y)] (.one (.bool (decide (x=y)))):=by
 intro x h y i;obtain⟨p,d,rfl⟩:=List.mem_map.1 (a x h);obtain⟨q,f,rfl⟩:=List.mem_map.1 (b y i);exact Mn rfl rfl ((hu.tb p (List.mem_reverse.1 d)).Bh hu.hR) ((hw.tb q (List.mem_reverse.1 f)).Bh hw.hR) rfl
theorem Rk (hu:Al R u) (hw:Al R w) (p:X=tw u) (q:Y=tw w) (j:c=(decide (Y.length<=X.length)&&decide (X.take Y.length=Y))):CF 193 [.one (.sl (.sl AA) X),.one (.sl (.sl AA) Y)] (.one (.bool c)):=by
 refine AH Tryz.func193 (by kernel_rfl) rfl fun E o=>?_
 conv=>cbv
 rintro D ⟨B,f6⟩;conv=>cbv
 rintro F ⟨C,f8⟩;conv=>cbv
 intro z h;conv=>cbv
 cases z <;> conv=>cbv
 ·have s:=I1 h;exact fA ⟨⟨rfl,congrArg _ (by rw[j,decide_eq_false (show ¬Y.length<=X.length by omega),Bool.false_and]),trivial⟩,trivial⟩ rfl (by simp)
 have s:=I2 h;rintro v ⟨n,f13⟩;conv=>cbv
 intro t k;conv=>cbv
 refine g2 (by omega) ?_;intro d i;conv=>cbv
 intro f b;conv=>cbv
 obtain⟨m,a⟩:=xB (EB (fun x y=>decide (x=y)) f Y);refine cL o (Wu (eT hu hw (fun x l=>by rw[b,List.drop_zero] at l;rw[<-p];exact List.mem_of_mem_take l) (fun y r=>by rw[<-q];exact r)) a) t3 ?_;try conv=>cbv
 exact fA ⟨⟨rfl,congrArg _ (by rw[j,decide_eq_true (show Y.length<=X.length by omega),Bool.true_and,a,b,List.drop_zero,show d=Y.length by omega,Bool.eq_iff_iff,decide_eq_true_eq];exact (OB (fun x _ y _=>by rw[decide_eq_true_eq])).symm),trivial⟩,trivial⟩ rfl (by simp)
theorem Mw (h:tw u=tw w):u=w:=by
 have a:=(List.map_inj_right (fun _ _=>VI)).1 h;exact List.reverse_inj.1 a
theorem Pu:w<:+u↔((tw w).length<=(tw u).length/\(tw u).take (tw w).length=tw w):=by
 constructor
 ·rintro⟨v,rfl⟩
  have e:tw (v++w)=tw w++tw v:=by rw[tw,tw,tw,List.reverse_append,List.map_append]
  rw[e];exact⟨by simp,List.take_left⟩
 rintro⟨b,a⟩
 rw[BU,BU] at b;rw[BU,Gk] at a;rw[<-Mw a];exact List.drop_suffix _ _
theorem ZB (hu:Al R u) (hw:Al R w) (a:X=tw u) (b:Y=tw w) (h:w<:+u):CF 193 [.one (.sl (.sl AA) X),.one (.sl (.sl AA) Y)] (.one (.bool true)):=
 Rk hu hw a b (by have:=Pu.1 h;rw[a,b,decide_eq_true this.1,decide_eq_true this.2];rfl)
theorem ZA (hu:Al R u) (hw:Al R w) (b:X=tw u) (d:Y=tw w) (h:¬w<:+u):CF 193 [.one (.sl (.sl AA) X),.one (.sl (.sl AA) Y)] (.one (.bool false)):=
 Rk hu hw b d (by
  by_cases a:Y.length<=X.length
  ·rw[decide_eq_true a,decide_eq_false (fun f=>h (Pu.2 (by rw[<-b,<-d];exact⟨a,f⟩)))];rfl
  rw[decide_eq_false a];rfl)
theorem SK {q:Rat} (f:BM q b1 l1 b2 l2) (b:Bj q):CF 242 [.agg [.bool b1,.sl .u32 l1,.bool b2,.sl .u32 l2]] (.agg [.bool b1,.sl .u32 l1,.bool b2,.sl .u32 l2]):=by
 have d:=f.small b;refine AH Tryz.func242 (by kernel_rfl) rfl fun E a=>?_
 conv=>cbv
 refine cL a (IP rfl (by omega)) t1 ?_;try conv=>cbv
 refine cL a (IP rfl (by omega)) t1 ?_;try conv=>cbv
 refine g2 rfl ?_;exact fA ⟨⟨rfl,rfl,rfl,rfl,rfl,trivial⟩,trivial⟩ rfl (by simp)
theorem N6 {X:LR} (H:X=Ao xs) (hs:DL xs) (hn:xs.length<=1000000):CF 237 [.one (.sl AA X)] (.one (.sl AA X)):=by
 have Q:X.length=xs.length:=by rw[H,List.length_map]
 refine AH Tryz.func237 (by kernel_rfl) rfl fun E P=>?_
 conv=>cbv
 rintro n7 ⟨e7,f7⟩;conv=>cbv
 refine⟨fun _=>⟨by omega,by omega,by show _*64<=140737488355328;omega⟩,?_⟩;intro x (y:LR) r;have W:=r.1;have s:y=List.replicate x (((false,[]),(false,[])):el AA):=r.2;have N:y.length=x:=by rw[s,List.length_replicate]
 conv=>cbv
 intro z d;have M:=d.eq;have f10:=d.le;conv=>cbv
 refine .inr ?_;obtain⟨K,f⟩:=xJ fun vs D k=>∃(o:LR) (m i':Nat) (L i:Int),vs=[.one (.AT AA 8 0 0 m),.one (.sl AA X),.one (.int .i64 L),.one (.int .i64 i)]/\D=[.arr 0 AA o]/\(o.length=X.length/\m=X.length/\Cb L X.length/\AS i i'/\i'<=X.length)/\o.take i'=X.take i'/\k=X.length-i'
 refine⟨[3,9,10,11],[8],K,⟨X.length-0,by rw[f];exact⟨y,x,0,z,0,rfl,rfl,⟨by omega,by omega,d,BC 0,by omega⟩,rfl,rfl⟩⟩,?_⟩;intro vs D a2 I;rw[f] at I;obtain⟨o,m,i',L,i,rfl,rfl,⟨ho,hm,G,S,U⟩,hinv,V⟩:=I;conv=>cbv
 have eL:=G.eq;have ei:=S.eq;intro B n;conv=>cbv
 cases B <;> conv=>cbv
 ·have v:=Ad n;exact fA ⟨⟨rfl,.inl ⟨_,rfl,by omega,congrArg _ (by rw[hm,List.drop_zero];rw[show i'=X.length by omega] at hinv;rw[hinv,List.take_length])⟩,trivial⟩,trivial⟩ rfl (by simp)
 have v:=Ae n;refine .inr ?_;obtain⟨j,a⟩:=AG (l:=X) (i:=i') (by omega);refine⟨j,fun _=>⟨by omega,by rw[show (i).toNat=i' by omega];exact a⟩,?_⟩;try conv=>cbv
 obtain⟨q,Z,a1,t⟩:=Fa H hs a;refine cL P (SK Z t) ⟨t4,trivial⟩ ?_;try conv=>cbv
 refine g2 (by omega) ?_;intro p J;conv=>cbv
 refine⟨j,fun _=>⟨by show _<List.length (α:=(el AA)) o;(first | omega | (simp;omega)),t4⟩,?_⟩;intro (h:LR) (b:h=List.set (α:=(el AA)) o p j);have F:h.length=o.length:=by rw[b,List.length_set]
 conv=>cbv
 intro C O;conv=>cbv
 refine g1 (by omega) ?_;refine⟨X.length-(i'+1),?_,?_⟩
 ·omega
 rw[f];refine⟨h,m,i'+1,L,C,rfl,rfl,⟨by omega,by omega,G,⟨by omega⟩,by omega⟩,?_,rfl⟩;rw[b,show p=i' by omega,Ms (by omega),hinv,<-Bi a]
theorem Ii {s:Nat} (h:Al R u) (O:T=tw u) (hA:A=em u x) (W:El u s x) (hs:s<=60000000000000):CF 178 [.agg [.sl (.sl AA) T,.sl AA A]] (.agg [.sl (.sl AA) T,.sl AA A]):=by
 have a2:T.length=u.length:=by rw[O,BU]
 have a5:=h.ht;refine AH Tryz.func178 (by kernel_rfl) rfl fun E N=>?_
 conv=>cbv
 refine cL (r:= .one (.sl AA A)) N (N6 hA (W.Bh hs) (by rw[W.len];exact HQ h.ht)) t1 ?_;try conv=>cbv
 intro U p;have a1:=p.eq;have f12:=p.le;conv=>cbv
 refine .inr ?_
 obtain⟨Z,j⟩:∃J:List AV->List AM->Nat->Prop,J=fun vs I k=>(∃(L i:Int),vs=[.one (.AD 2 0 0),.one (.AD 3 0 0),.one (.sl (.sl AA) T),.one (.int .i64 L),.one (.int .i64 i)]/\I=[.var 0 [.nil,.nil],.var 0 [.nil,.sl AA A],.dead 0]/\(Cb L T.length/\AS i 0)/\k=T.length)\/
  (∃(o:List LR) (mm i':Nat) (L i:Int),vs=[.one (.AD 2 0 0),.one (.AD 3 0 0),.one (.sl (.sl AA) T),.one (.int .i64 L),.one (.int .i64 i)]/\I=[.var 0 [.nil,.nil],.var 0 [.AT (.sl AA) 22 0 0 mm,.sl AA A],.arr 0 (.sl AA) o]/\(Cb L T.length/\AS i i'/\i'<=T.length/\mm=o.length)/\o=T.take i'/\k=T.length-i'):=⟨_,rfl⟩
 refine⟨[2,3,11,12,13],[2,3,22],Z,⟨T.length,by rw[j];exact .inl ⟨U,0,rfl,rfl,⟨p,BC 0⟩,rfl⟩⟩,?_⟩;intro vs I a8 V;rw[j] at V;rcases V with⟨L,i,rfl,rfl,⟨D,P⟩,S⟩ |⟨o,mm,i',L,i,rfl,rfl,⟨D,P,a6,G⟩,hinv,S⟩
 ·conv=>cbv
  have eL:=D.eq;have ei:=P.eq;obtain⟨i',Q⟩:=xN 0;intro B d;conv=>cbv
  cases B <;> conv=>cbv
  ·have v:=Ad d;exact fA ⟨⟨rfl,.inr (.inl ⟨_,congrArg _ (List.eq_nil_of_length_eq_zero (by omega))⟩),rfl,trivial⟩,trivial⟩ rfl (by simp)
  have v:=Ae d;refine .inr ?_;obtain⟨b,a⟩:=AG (l:=T) (i:=i') (by omega);refine⟨b,fun _=>⟨by omega,by rw[show (i).toNat=i' by omega];exact a⟩,?_⟩;try conv=>cbv
  obtain⟨y,q,f⟩:=Hy O a;have t:y∈u:=List.mem_reverse.1 (List.mem_of_getElem? f);refine cL (r:= .one (.sl AA b)) N (N6 q ((h.tb y t).Bh h.hR) (by rw[JE h.red _ y f];exact HQ (by omega))) t1 ?_;try conv=>cbv
  refine⟨[b],fun _=>⟨rfl,by decide,rfl,⟨rfl,by first | exact t1 | exact t2 | exact t4 | simp[Aw,BF,cells],trivial⟩⟩,.inr ?_⟩;try conv=>cbv
  refine .inl ⟨[b],fun _=>⟨rfl,by show (1)*24<=140737488355328;(try simp only[List.length_take,List.length_drop]);omega⟩,?_⟩;intro m K;conv=>cbv
  refine g2 rfl ?_;intro C M;conv=>cbv
  refine g1 (by omega) ?_;refine⟨T.length-(i'+1),?_,?_⟩
  ·omega
  rw[j];exact .inr ⟨[b],m,i'+1,L,C,rfl,rfl,⟨D,⟨by omega⟩,by omega,K⟩,by rw[Bi a,Q];rfl,rfl⟩
 conv=>cbv
 have eL:=D.eq;have ei:=P.eq;intro B d;conv=>cbv
 cases B <;> conv=>cbv
 ·have v:=Ad d;exact fA ⟨⟨rfl,.inl ⟨_,rfl,by omega,congrArg _ (by rw[G,hinv,List.drop_zero,List.take_length,show i'=T.length by omega,List.take_length])⟩,rfl,trivial⟩,trivial⟩ rfl (by simp)
 have v:=Ae d;refine .inr ?_;obtain⟨b,a⟩:=AG (l:=T) (i:=i') (by omega);refine⟨b,fun _=>⟨by omega,by rw[show (i).toNat=i' by omega];exact a⟩,?_⟩;try conv=>cbv
 obtain⟨y,q,f⟩:=Hy O a;have t:y∈u:=List.mem_reverse.1 (List.mem_of_getElem? f);refine cL (r:= .one (.sl AA b)) N (N6 q ((h.tb y t).Bh h.hR) (by rw[JE h.red _ y f];exact HQ (by omega))) t1 ?_;try conv=>cbv
 refine⟨[b],fun _=>⟨rfl,by decide,rfl,⟨rfl,by first | exact t1 | exact t2 | exact t4 | simp[Aw,BF,cells],trivial⟩⟩,.inr ?_⟩;try conv=>cbv
 have a7:o.length<=T.length:=by rw[hinv,List.length_take];omega
 refine .inl ⟨[b],fun _=>⟨rfl,G,rfl,by show (o.length+1)*24<=140737488355328;(try simp only[List.length_take,List.length_drop]);omega⟩,?_⟩;intro (z:List (el (.sl AA))) m n;have F:z=(o:List (el (.sl AA)))++([b]:List (el (.sl AA))):=n.1;have H:m=List.length (α:=(el (.sl AA))) z:=n.2;conv=>cbv
 refine g2 rfl ?_;intro C M;conv=>cbv
 refine g1 (by omega) ?_;refine⟨T.length-(i'+1),?_,?_⟩
 ·omega
 rw[j];exact .inr ⟨z,m,i'+1,L,C,rfl,rfl,⟨D,⟨by omega⟩,by omega,H⟩,by rw[F,hinv,Bi a],rfl⟩
theorem MT {C:LR} (h:Al R w) (Z:T=tw w) (K:A=em u x) (P:In u x) (hu:u<:+w) (W:C=em w x):CF 199 [.one (.sl (.sl AA) T),.one (.sl AA A)] (.one (.sl AA C)):=by
 have D:T.length=w.length:=by rw[Z,BU]
 have a1:=h.ht;have V:A.length=2^u.length:=by rw[K,BL P]
 have G:=hu.length_le;have hle:2^u.length<=2^w.length:=CX G;have O:=Cq h.ht;have v:=Sj hu h.red P;refine AH Tryz.func199 (by kernel_rfl) rfl fun E L=>?_
 conv=>cbv
 obtain⟨S,r⟩:=xN A.length;refine cL L (QF (by omega) r) t1 ?_;try conv=>cbv
 refine .inr ?_;obtain⟨Q,p⟩:=xJ fun vs J k=>∃(o:LR) (mm j:Nat),vs=[.one (.sl (.sl AA) T),.one (.AT AA 7 0 0 mm)]/\J=[.arr 0 AA o]/\(mm=o.length/\o.length=2^u.length+j/\o.length<=2^w.length)/\o=A++List.replicate j (rp 0)/\k=2^w.length-o.length
 refine⟨[0,5],[7],Q,⟨2^w.length-A.length,by rw[p];exact⟨A,S,0,rfl,rfl,⟨r,by omega,by omega⟩,by simp,rfl⟩⟩,?_⟩;intro vs J a7 M;rw[p] at M;obtain⟨o,mm,j,rfl,rfl,⟨s,a5,a6⟩,hinv,a2⟩:=M;conv=>cbv
 intro n9 U;have e9:=U.eq;conv=>cbv
 rintro a8 ⟨z,f11⟩;conv=>cbv
 intro aa B;conv=>cbv
 refine g2 (by omega) ?_;have N:=(D3 B (z.trans (congrArg _ D)) (by omega)).eq;intro I q;conv=>cbv
 cases I <;> conv=>cbv
 ·have H:=Ad q;exact fA ⟨⟨rfl,.inl ⟨_,rfl,by omega,congrArg _ (by rw[W,s,List.drop_zero,List.take_length,hinv,v,K,show j=2^w.length-2^u.length by omega])⟩,trivial⟩,trivial⟩ rfl (by simp)
 have H:=Ae q;refine .inr ?_;obtain⟨f,i,b,d,m⟩:=Bb (((0:Int):Rat));refine cL L (F1 (by omega) rfl m) t1 ?_;try conv=>cbv
 refine⟨[((f,i),(b,d))],fun _=>⟨rfl,by decide,rfl,⟨rfl,by first | exact t1 | exact t2 | exact t4 | simp[Aw,BF,cells],trivial⟩⟩,.inr ?_⟩;try conv=>cbv
 refine .inl ⟨[((f,i),(b,d))],fun _=>⟨rfl,s,rfl,by show (o.length+1)*64<=140737488355328;(try simp only[List.length_take,List.length_drop]);omega⟩,?_⟩;intro (a:LR) y n;have l:a=(o:LR)++([((f,i),(b,d))]:LR):=n.1;have t:y=List.length (α:=(el AA)) a:=n.2;conv=>cbv
 have F:a.length=o.length+1:=by rw[l];simp
 refine⟨2^w.length-a.length,?_,?_⟩
 ·omega
 rw[p];exact⟨a,y,j+1,rfl,rfl,⟨t,by omega,by omega⟩,by rw[l,hinv,List.replicate_succ',List.append_assoc,<-m.rp];rfl,rfl⟩
end Go.Abs
