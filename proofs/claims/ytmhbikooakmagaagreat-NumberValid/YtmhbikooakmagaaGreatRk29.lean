/- Part 30 of a proof. Conditions: each theorem's own. -/
import Derived.Test.YtmhbikooakmagaaGreatRk27
import Derived.Test.YtmhbikooakmagaaGreatRk28
set_option linter.all false
set_option maxHeartbeats 8000000
set_option maxRecDepth 20000
open Go.Proofs
namespace Go.Abs
open Go.RowKit
variable {A A1 X:LR} {T T1:List LR} {c:Bool} {i n:Nat} {m:Int} {u:List (List Rat)}
theorem Sx (b:Bool) (l:List UInt32):E7 b l=(decide ((AP (AE l)).length=l.length)&&(!b||decide (0<l.length))):=by
 unfold E7;cases h:l.getLast? with
 | none=>
  have:l=[]:=List.getLast?_eq_none_iff.1 h;subst this;simp[show AE []=0 from rfl,show AP 0=[] from Er.2 rfl]
 | some w=>
  obtain⟨m,rfl⟩:=List.getLast?_eq_some_iff.1 h;have a:0<(m++[w]).length:=by simp
  rw[decide_eq_true a,Bool.or_true,Bool.and_true,<-Ky]
  show (w !=0)=_
  by_cases hw:w=0
  ·subst hw;have:=O8 m;rw[Is,decide_eq_false (by simp;omega)];rfl
  rw[JV hw,decide_eq_true rfl];simpa using hw
theorem kC (h:X.length≠n):Dk n X=false:=by unfold Dk;rw[decide_eq_false h];rfl
theorem kB (h:X.length=n):Dk n X= !(X.any fun x=> !HQ x):=by
 unfold Dk;rw[decide_eq_true h,Bool.true_and,List.all_eq_not_any_not]
theorem Ob {X:List LR} {x:LR} (h:X[i]? =some x):EN i (X.drop i)=(Dk (2^i) x&&EN (i+1) (X.drop (i+1))):=by
 have hi:=Gb h;rw[List.drop_eq_getElem_cons hi,EN];rw[List.getElem?_eq_getElem hi] at h;rw[Option.some.inj h]
theorem GW {α:Type} {p:α->Bool} {X:List α} {x:α} (h:X[i]? =some x):(X.drop i).all p=(p x&&(X.drop (i+1)).all p):=by
 have hi:=Gb h;rw[List.drop_eq_getElem_cons hi,List.all_cons];rw[List.getElem?_eq_getElem hi] at h;rw[Option.some.inj h]
theorem lt6 {x:el AA} (h:DB x=true):x.1.2.length<=17592186042000/\x.2.2.length<=17592186042000:=by
 simp only[DB,Bool.and_eq_true,decide_eq_true_eq] at h;omega
theorem ef (hs:X.all DB=true):∀x∈X,CF 326 [.agg (cells AA x)] (.one (.bool (!HQ x))):=fun x a=>by
 have h:=lt6 (List.all_eq_true.1 hs x a);exact Ww rfl h.1 h.2
theorem XE (h:FG T A=true):A.all DB=true:=(Bool.and_eq_true _ _ ▸ h).1
theorem RE (h:FG T A=true):(T.all fun l=>l.all DB)=true:=(Bool.and_eq_true _ _ ▸ h).2
def LD (T:List LR) (A:LR):Prop:=(EN 0 T&&Dk (2^T.length) A)=true/\∃u,T=tw u/\AT u
theorem aW (h:true=(EN 0 T&&Dk (2^T.length) A)) (hs:FG T A=true) (b:T.length<=4):∃u,T=tw u/\Jf u:=by
 have a:=h.symm;rw[Bool.and_eq_true] at a;obtain⟨ts,e,d,h3⟩:=YH a.1 (RE hs);exact⟨ts.reverse,by rw[tw,List.reverse_reverse];exact e,gn d h3 (by rw[e,List.length_map] at b;exact b)⟩
theorem aX (a:c=true↔LD T A) (h:false=(EN 0 T&&Dk (2^T.length) A)):false=c:=by
 cases c with
 | false=>rfl
 | true=>have:=(a.1 rfl).1;rw[<-h] at this;exact this
theorem aY {b:Bool} (d:c=true↔LD T A) (h:true=(EN 0 T&&Dk (2^T.length) A)) (hu:T=tw u) (hb:b=true↔AT u):b=c:=by
 rw[Bool.eq_iff_iff,hb,d];exact⟨fun a=>⟨h.symm,u,hu,a⟩,fun⟨_,v,f,a⟩=>Mo (f.symm.trans hu) ▸ a⟩
theorem ae:VV 3 1540 1540<=60000000000000:=by decide +kernel
theorem lG:QQ 3 1540 1540<=60000000000000:=by decide +kernel
theorem nZ:SS 3 1540 1540<=60000000000000:=by decide +kernel
theorem mL {x:Re} (h:An x=1):0<x:=by
 rcases Df x with⟨a,b⟩ |⟨a,b⟩ |⟨a,b⟩
 ·rw[b] at h;exact absurd h (by decide)
 ·rw[b] at h;exact absurd h (by decide)
 exact a
theorem mM {x:Re} {r:Int} (h:r=An x) (k:0<r):0<x:=by
 rcases Df x with⟨a,b⟩ |⟨a,b⟩ |⟨a,b⟩
 ·rw[h,b] at k;exact absurd k (by decide)
 ·rw[h,b] at k;exact absurd k (by decide)
 exact a
theorem X4 {k:Int} (hs:X.all DB=true) (j:AO k n) (f:c=Dk n X):CF 257 [.one (.sl AA X),.one (.int .i64 k)] (.one (.bool c)):=by
 have s:=j.eq;refine AJ Tryz.func257 fun E h=>?_
 conv=>cbv
 rintro t ⟨r,f6⟩;conv=>cbv
 intro q d;conv=>cbv
 cases q <;> conv=>cbv
 ·have l:=Ah d;exact AD ⟨⟨rfl,congrArg _ (by rw[f];exact kC (by omega)),trivial⟩,trivial⟩
 have l:=Aj d;obtain⟨g,a⟩:=xB (X.any fun x=> !HQ x);refine AB h (PQ (p:=fun x=> !HQ x) (ef hs) a) ?_;conv=>cbv
 intro o b;conv=>cbv
 exact AD ⟨⟨rfl,congrArg _ (by rw[f,kB (by omega),b,a]),trivial⟩,trivial⟩
theorem lL {X:List LR} (hs:(X.all fun l=>l.all DB)=true) (M:X.length<=4) (z:c=EN 0 X):CF 256 [.one (.sl (.sl AA) X)] (.one (.bool c)):=by
 refine AJ Tryz.func256 fun E y=>?_
 conv=>cbv
 intro H o;have J:=o.eq;have f6:=o.le;conv=>cbv
 refine .inr ?_;obtain⟨s,d⟩:=xJ fun vs v k=>∃(i':Nat) (L i:Int),vs=[.one (.sl (.sl AA) X),.one (.int .i64 L),.one (.int .i64 i)]/\(CT L X.length/\AO i i'/\i'<=X.length)/\c=EN i' (X.drop i')/\k=X.length-i'
 refine⟨[],[5,6,7],[],s,⟨X.length-0,by rw[d];exact⟨0,H,0,rfl,⟨o,Al 0,by omega⟩,z,rfl⟩⟩,?_⟩;intro vs v F r;rw[d] at r;obtain⟨i',L,i,rfl,⟨q,hi,B⟩,hinv,C⟩:=r;conv=>cbv
 have K:=q.eq;have w:=hi.eq;intro I p;conv=>cbv
 cases I <;> conv=>cbv
 ·have D:=AW p;exact AD ⟨⟨rfl,congrArg _ (by rw[hinv,List.drop_eq_nil_of_le (by omega)];rfl),trivial⟩,trivial⟩
 have D:=AY p;refine .inr ?_;obtain⟨g,a⟩:=AK (l:=X) (i:=i') (by omega);refine⟨g,fun _=>⟨by omega,by rw[show (i).toNat=i' by omega];exact a⟩,?_⟩;try conv=>cbv
 intro G j;conv=>cbv
 refine AH ?_;obtain⟨t,b⟩:=xB (Dk (2^i') g);refine AB y (X4 (List.all_eq_true.1 hs g (List.mem_of_getElem? a)) (Dt j w) b) ?_;conv=>cbv
 intro n16 h;conv=>cbv
 cases n16 <;> conv=>cbv
 ·have f:=C3 h;intro n17 x;conv=>cbv
  refine AI ?_;refine⟨X.length-(i'+1),?_,?_⟩
  ·omega
  rw[d];exact⟨i'+1,L,n17,rfl,⟨q,⟨by omega⟩,by omega⟩,hinv.trans ((Ob a).trans (by rw[<-b,f];rfl)),rfl⟩
 have f:=C4 h;exact AD ⟨⟨rfl,congrArg _ (by rw[hinv,Ob a,<-b,f];rfl),trivial⟩,trivial⟩
theorem bK {X:List LR} {Y:LR} (hs:FG X Y=true) (l:X.length<=4) (h:c=(EN 0 X&&Dk (2^X.length) Y)):CF 138 [.one (.sl (.sl AA) X),.one (.sl AA Y)] (.one (.bool c)):=by
 refine AJ Tryz.func138 fun E g=>?_
 conv=>cbv
 obtain⟨k,b⟩:=xB (EN 0 X);refine AB g (lL (RE hs) l b) ?_;conv=>cbv
 cases k <;> conv=>cbv
 ·exact AD ⟨⟨rfl,congrArg _ (by rw[h,<-b];rfl),trivial⟩,trivial⟩
 rintro o ⟨d,f10⟩;conv=>cbv
 intro p f;conv=>cbv
 refine AH ?_;obtain⟨j,a⟩:=xB (Dk (2^X.length) Y);refine AB g (X4 (XE hs) (Dt f d) a) ?_;conv=>cbv
 exact AD ⟨⟨rfl,congrArg _ (by rw[h,<-b,<-a];rfl),trivial⟩,trivial⟩
theorem bu (F:Jf u) (z:T=tw u) (V:c=true↔AT u):CF 139 [.one (.sl (.sl AA) T)] (.one (.bool c)):=by
 have ao:T.length=u.length:=by rw[z,Bb]
 have an:=F.ht;have Y:AT (pre u 0):=by rw[pre,Nat.sub_zero,List.drop_length];exact trivial
 refine AJ Tryz.func139 fun E U=>?_
 conv=>cbv
 intro n8 S;have e8:=S.eq;have f8:=S.le;conv=>cbv
 refine .inr ?_;obtain⟨J0,p⟩:=xJ fun vs bl k=>∃(i':Nat) (L i:Int),vs=[.one (.sl (.sl AA) T),.one (.sl (.sl AA) T),.one (.int .i64 L),.one (.int .i64 i)]/\(CT L T.length/\AO i i'/\i'<=T.length)/\AT (pre u i')/\k=T.length-i'
 refine⟨[],[0,7,8,9],[],J0,⟨T.length-0,by rw[p];exact⟨0,n8,0,rfl,⟨S,Al 0,by omega⟩,Y,rfl⟩⟩,?_⟩;intro vs bl au hj;rw[p] at hj;obtain⟨i',L,i,rfl,⟨hL,hi,aq⟩,j,ar⟩:=hj;conv=>cbv
 have eL:=hL.eq;have ei:=hi.eq;intro ad v;conv=>cbv
 cases ad <;> conv=>cbv
 ·have a7:=AW v;exact AD ⟨⟨rfl,congrArg _ (V.2 (by rw[<-Og u,show u.length=i' by omega];exact j)),trivial⟩,trivial⟩
 have a7:=AY v;refine .inr ?_;obtain⟨N,o⟩:=AK (l:=T) (i:=i') (by omega);refine⟨N,fun _=>⟨by omega,by rw[show (i).toNat=i' by omega];exact o⟩,?_⟩;try conv=>cbv
 obtain⟨r,a1,Z,f,t,a5,C⟩:=F.step (i:=i') (by omega) j;have a2:∀x,T[i']? =some x->x=em (pre u i') (AM (pre u i') r):=fun x hx=>(Option.some.inj (hx.symm.trans (z ▸ a1))).trans Z
 have I:(pre u i').length<=3:=by rw[GJ (by omega)];omega
 have K:VV (pre u i').length 1540 1540<=60000000000000:=Nat.le_trans (I1 I _ _) ae;have a:=a2 _ o;intro aw ai;conv=>cbv
 refine AH ?_;intro O af;conv=>cbv
 intro aa D;conv=>cbv
 have q:aa=tw (pre u i'):=by rw[D,List.drop_zero,show O=i' by omega,z,FI]
 refine AB (r:= .one (.bool true)) U (G0 q t.Fj a (f.Bh (by decide)) (by rw[f.len,List.length_reverse];exact (decide_eq_true rfl).symm)) ?_;try conv=>cbv
 refine AU ?_;conv=>cbv
 intro ax aj;conv=>cbv
 refine AH ?_;intro P ag;conv=>cbv
 intro ab G;conv=>cbv
 have s:ab=tw (pre u i'):=by rw[G,List.drop_zero,show P=i' by omega,z,FI]
 obtain⟨az,J⟩:=xI (An (AM (pre u i') r));refine AB U (Jj t s a f K K J) ?_;conv=>cbv
 intro n26 y;conv=>cbv
 cases n26 <;> conv=>cbv
 ·have a8:=Co y;intro ay ak;conv=>cbv
  refine AH ?_;intro Q ah;conv=>cbv
  intro M H;conv=>cbv
  have d:M=tw (pre u i'):=by rw[H,List.drop_zero,show Q=i' by omega,z,FI]
  obtain⟨av,R,B,g⟩:∃(l:LR) (b:Bool),CF 258 [.one (.sl (.sl AA) M),.one (.sl AA N)] (.AG [(false,[.sl AA l]),(false,[.bool b])])/\(b=true↔Sq (pre u i') (AM (pre u i') r)):=by
   rcases O0 t f (Nat.le_trans (TS I _ _) lG) with⟨w,hw,a6,hy⟩ |⟨W,l,_,hn⟩
   ·exact⟨_,true,hy d a rfl,⟨fun _=>⟨w,hw,a6⟩,fun _=>rfl⟩⟩
   exact⟨l,false,hn d a,⟨fun h=>(by cases h),fun h=>absurd h W⟩⟩
  refine AB U B ?_;conv=>cbv
  cases R <;> conv=>cbv
  ·intro n37 al;conv=>cbv
   refine AI ?_;refine⟨T.length-(i'+1),?_,?_⟩
   ·omega
   rw[p];exact⟨i'+1,L,n37,rfl,⟨hL,⟨by omega⟩,by omega⟩,a5 (mL (by omega)) (fun h=>by cases g.2 h),rfl⟩
  exact AD ⟨⟨rfl,congrArg _ (Bool.eq_false_iff.2 fun e=>(C (V.1 e)).2 (g.1 rfl)),trivial⟩,trivial⟩
 have a8:=Cp y;exact AD ⟨⟨rfl,congrArg _ (Bool.eq_false_iff.2 fun e=>by have:=F0 (C (V.1 e)).1;omega),trivial⟩,trivial⟩
theorem bW (hs:FG T1 A1=true) (j:T1.length<=4) (h:c=true↔LD T1 A1):CF 33 [.agg (AR T1 A1)] (.one (.bool c)):=by
 refine AJ Tryz.func33 fun E g=>?_
 conv=>cbv
 rintro r ⟨q,f5⟩;conv=>cbv
 intro p f;conv=>cbv
 cases p <;> conv=>cbv
 ·have k:=HH f;exact absurd k (by omega)
 have k:=HI f;obtain⟨d,a⟩:=xB ((EN 0 T1&&Dk (2^T1.length) A1));refine AB g (bK hs j a) ?_;conv=>cbv
 cases d <;> conv=>cbv
 ·exact AD ⟨⟨rfl,congrArg _ ((aX h a).symm),trivial⟩,trivial⟩
 obtain⟨u,hu,o⟩:=aW a hs j;obtain⟨l,b⟩:=Dv (AT u);refine AB g (bu o hu b) ?_;conv=>cbv
 exact AD ⟨⟨rfl,congrArg _ ((aY h a hu b).symm),trivial⟩,trivial⟩
theorem Tv {b:Bool} {l:List UInt32} (h:c=E7 b l):CF 359 [.agg (BD b l)] (.one (.bool c)):=by
 refine AJ Tryz.func359 fun E r=>?_
 conv=>cbv
 obtain⟨x,d⟩:=xU (AP (AE l));refine AB r (I5 rfl d) ?_;conv=>cbv
 rintro v ⟨s,f6⟩;conv=>cbv
 rintro w ⟨t,f9⟩;conv=>cbv
 intro o f;conv=>cbv
 cases o <;> conv=>cbv
 ·have j:=Ah f;refine g2 rfl ?_;exact AD ⟨⟨rfl,congrArg _ (by rw[h,Sx,<-d,decide_eq_false (by omega)];rfl),trivial⟩,trivial⟩
 have j:=Aj f;intro p a;conv=>cbv
 cases p <;> conv=>cbv
 ·have k:=C3 a;rintro n18 ⟨q,f18⟩;conv=>cbv
  intro n19 g;conv=>cbv
  refine g2 rfl ?_;exact AD ⟨⟨rfl,congrArg _ (by have hb:b=true:=(by cases b with | false=>cases a | true=>rfl);rw[h,Sx,<-d,decide_eq_true (by omega),hb,g,Bool.eq_iff_iff];simp;omega),trivial⟩,trivial⟩
 have k:=C4 a;refine g2 rfl ?_;exact AD ⟨⟨rfl,congrArg _ (by have hb:b=false:=(by cases b with | true=>cases a | false=>rfl);rw[h,Sx,<-d,decide_eq_true (by omega),hb];rfl),trivial⟩,trivial⟩
theorem ck {b1 b2:Bool} {l1 l2:List UInt32} (k:c=Fk b1 l1 b2 l2) (s1:l1.length<=1000000) (s2:l2.length<=1000000):CF 317 [.agg (BS b1 l1 b2 l2)] (.one (.bool c)):=by
 refine AJ Tryz.func317 fun E h=>?_
 conv=>cbv
 obtain⟨t,a⟩:=xB (E7 b1 l1);refine AB h (Tv a) ?_;conv=>cbv
 cases t <;> conv=>cbv
 ·exact AD ⟨⟨rfl,congrArg _ (by rw[k];unfold Fk;rw[<-a];rfl),trivial⟩,trivial⟩
 obtain⟨v,b⟩:=xB (E7 b2 l2);refine AB h (Tv b) ?_;conv=>cbv
 cases v <;> conv=>cbv
 ·exact AD ⟨⟨rfl,congrArg _ (by rw[k];unfold Fk;rw[<-b];exact Bool.and_false _),trivial⟩,trivial⟩
 obtain⟨x,p⟩:=It.1 a.symm;obtain⟨y,l⟩:=It.1 b.symm;obtain⟨w,j⟩:=xI (CE y);refine AB h (I3 l j) ?_;conv=>cbv
 intro n15 g;conv=>cbv
 cases n15 <;> conv=>cbv
 ·have o:=Bq g;exact AD ⟨⟨rfl,congrArg _ (by rw[k];exact aa l),trivial⟩,trivial⟩
 have o:=Br g;obtain⟨q,r,f⟩:=Ac (((Nat.gcd x.natAbs y.natAbs:Nat):Int));refine AB h (GS p l f (by omega) (by omega)) ?_;conv=>cbv
 obtain⟨s,d⟩:=xB (decide (((Nat.gcd x.natAbs y.natAbs:Nat):Int)=1));refine AB h (H8 f d) ?_;conv=>cbv
 exact AD ⟨⟨rfl,congrArg _ (by rw[k];exact aZ a b p l (by omega) d),trivial⟩,trivial⟩
theorem UC {n:Int} {t:Nat} (K:n=(t:Int)) (hs:X.all DB=true) (r:c=Dk t X):CF 245 [.one (.sl AA X),.one (.int .i64 n)] (.one (.bool c)):=by
 refine AJ Tryz.func245 fun E B=>?_
 conv=>cbv
 refine .inr ?_;obtain⟨v,d⟩:=xJ fun vs x k=>∃(i':Nat) (i:Int),vs=[.one (.sl AA X),.one (.int .i64 n),.one (.int .i64 i)]/\(AO i i'/\i'<=X.length)/\X.all HQ=(X.drop i').all HQ/\k=X.length-i'
 refine⟨[],[0,1,5],[],v,⟨X.length-0,by rw[d];exact⟨0,0,rfl,⟨Al 0,by omega⟩,rfl,rfl⟩⟩,?_⟩;intro vs x G s;rw[d] at s;obtain⟨i',i,rfl,⟨hi,C⟩,hinv,D⟩:=s;conv=>cbv
 have J:=hi.eq;rintro L ⟨I,f8⟩;conv=>cbv
 intro H q;conv=>cbv
 cases H <;> conv=>cbv
 ·have F:=AW q;rintro n19 ⟨y,f19⟩;conv=>cbv
  intro n21 j;conv=>cbv
  exact AD ⟨⟨rfl,congrArg _ (by rw[r,Dk,hinv,List.drop_eq_nil_of_le (by omega),j,List.all_nil,Bool.and_true,Bool.eq_iff_iff];simp;omega),trivial⟩,trivial⟩
 have F:=AY q;refine .inr ?_;obtain⟨g,a⟩:=AK (l:=X) (i:=i') (by omega);refine⟨g,fun _=>⟨by omega,by rw[show (i).toNat=i' by omega];exact a⟩,?_⟩;try conv=>cbv
 have o:=List.all_eq_true.1 hs g (List.mem_of_getElem? a);simp only[DB,Bool.and_eq_true,decide_eq_true_eq] at o;obtain⟨w,b⟩:=xB (HQ g);refine AB B (ck b (Nat.le_trans o.1 (by decide)) (Nat.le_trans o.2 (by decide))) ?_;conv=>cbv
 intro n17 h;conv=>cbv
 cases n17 <;> conv=>cbv
 ·have f:=C3 h;intro p z;conv=>cbv
  refine AI ?_;refine⟨X.length-(i'+1),?_,?_⟩
  ·omega
  rw[d];exact⟨i'+1,p,rfl,⟨⟨by omega⟩,by omega⟩,hinv.trans ((GW a).trans (by rw[<-b,f];rfl)),rfl⟩
 have f:=C4 h;exact AD ⟨⟨rfl,congrArg _ (by rw[r,Dk,hinv,GW a,<-b,f];simp),trivial⟩,trivial⟩
theorem c8 (hs:(T.all fun l=>l.all DB)=true) (I:T.length<=4) (w:c=EN 0 T):CF 244 [.one (.sl (.sl AA) T)] (.one (.bool c)):=by
 refine AJ Tryz.func244 fun E v=>?_
 conv=>cbv
 refine .inr ?_;obtain⟨r,d⟩:=xJ fun vs t k=>∃(i':Nat) (i:Int),vs=[.one (.sl (.sl AA) T),.one (.int .i64 i)]/\(AO i i'/\i'<=T.length)/\c=EN i' (T.drop i')/\k=T.length-i'
 refine⟨[],[0,3],[],r,⟨T.length-0,by rw[d];exact⟨0,0,rfl,⟨Al 0,by omega⟩,w,rfl⟩⟩,?_⟩;intro vs t B q;rw[d] at q;obtain⟨i',i,rfl,⟨hi,x⟩,hinv,y⟩:=q;conv=>cbv
 have G:=hi.eq;rintro J ⟨F,f6⟩;conv=>cbv
 intro C p;conv=>cbv
 cases C <;> conv=>cbv
 ·have z:=AW p;exact AD ⟨⟨rfl,congrArg _ (by rw[hinv,List.drop_eq_nil_of_le (by omega)];rfl),trivial⟩,trivial⟩
 have z:=AY p;refine .inr ?_;obtain⟨g,a⟩:=AK (l:=T) (i:=i') (by omega);refine⟨g,fun _=>⟨by omega,by rw[show (i).toNat=i' by omega];exact a⟩,?_⟩;try conv=>cbv
 intro n15 o;conv=>cbv
 refine AH ?_;have j:=(Dt (k:=i') o (by omega)).eq;obtain⟨s,b⟩:=xB (Dk (2^i') g);refine AB v (UC j (List.all_eq_true.1 hs g (List.mem_of_getElem? a)) b) ?_;conv=>cbv
 intro n17 h;conv=>cbv
 refine g2 rfl ?_;cases n17 <;> conv=>cbv
 ·have f:=C3 h;intro D H;conv=>cbv
  refine AI ?_;refine⟨T.length-(i'+1),?_,?_⟩
  ·omega
  rw[d];exact⟨i'+1,D,rfl,⟨⟨by omega⟩,by omega⟩,hinv.trans ((Ob a).trans (by rw[<-b,f];rfl)),rfl⟩
 have f:=C4 h;exact AD ⟨⟨rfl,congrArg _ (by rw[hinv,Ob a,<-b,f];rfl),trivial⟩,trivial⟩
theorem cP (hs:FG T A=true) (p:T.length<=4) (j:c=(EN 0 T&&Dk (2^T.length) A)):CF 130 [.one (.sl (.sl AA) T),.one (.sl AA A)] (.one (.bool c)):=by
 refine AJ Tryz.func130 fun E h=>?_
 conv=>cbv
 obtain⟨o,b⟩:=xB (EN 0 T);refine AB h (c8 (RE hs) p b) ?_;conv=>cbv
 cases o <;> conv=>cbv
 ·exact AD ⟨⟨rfl,congrArg _ (by rw[j,<-b];rfl),trivial⟩,trivial⟩
 rintro q ⟨f,f10⟩;conv=>cbv
 intro r g;conv=>cbv
 refine AH ?_;have d:=(Dt (k:=T.length) g f).eq;obtain⟨l,a⟩:=xB (Dk (2^T.length) A);refine AB h (UC d (XE hs) a) ?_;conv=>cbv
 exact AD ⟨⟨rfl,congrArg _ (by rw[j,<-b,<-a];rfl),trivial⟩,trivial⟩
theorem cw (F:Jf u) (I:T=tw u) (Z:c=true↔AT u):CF 131 [.one (.sl (.sl AA) T)] (.one (.bool c)):=by
 have ar:T.length=u.length:=by rw[I,Bb]
 have aq:=F.ht;have a2:AT (pre u 0):=by rw[pre,Nat.sub_zero,List.drop_length];exact trivial
 refine AJ Tryz.func131 fun E Y=>?_
 conv=>cbv
 refine .inr ?_;obtain⟨J0,s⟩:=xJ fun vs bl k=>∃(i':Nat) (i:Int),vs=[.one (.sl (.sl AA) T),.one (.int .i64 i)]/\(AO i i'/\i'<=T.length)/\AT (pre u i')/\k=T.length-i'
 refine⟨[],[0,3],[],J0,⟨T.length-0,by rw[s];exact⟨0,0,rfl,⟨Al 0,by omega⟩,a2,rfl⟩⟩,?_⟩;intro vs bl aw hj;rw[s] at hj;obtain⟨i',i,rfl,⟨hi,au⟩,j,av⟩:=hj;conv=>cbv
 have ei:=hi.eq;rintro n8 ⟨e8,f8⟩;conv=>cbv
 intro n9 h9;conv=>cbv
 cases n9 <;> conv=>cbv
 ·have k9:=AW h9;exact AD ⟨⟨rfl,congrArg _ (Z.2 (by rw[<-Og u,show u.length=i' by omega];exact j)),trivial⟩,trivial⟩
 have k9:=AY h9;refine .inr ?_;intro ay ak;conv=>cbv
 refine AH ?_;intro S ah;conv=>cbv
 intro aa L;conv=>cbv
 obtain⟨af,o⟩:=AK (l:=T) (i:=i') (by omega);refine⟨af,fun _=>⟨by omega,by rw[show (i).toNat=i' by omega];exact o⟩,?_⟩;try conv=>cbv
 obtain⟨r,a6,a5,y,B,a7,K⟩:=F.step (i:=i') (by omega) j;have z:∀x,T[i']? =some x->x=em (pre u i') (AM (pre u i') r):=fun x hx=>(Option.some.inj (hx.symm.trans (I ▸ a6))).trans a5
 have O:(pre u i').length<=3:=by rw[GJ (by omega)];omega
 have C:VV (pre u i').length 1540 1540<=60000000000000:=Nat.le_trans (I1 O _ _) ae;have D:=z _ o;have t:aa=tw (pre u i'):=by rw[L,List.drop_zero,show S=i' by omega,I,FI]
 refine AB Y (Jn B t D y) ?_;conv=>cbv
 refine AU ?_;conv=>cbv
 intro az al;conv=>cbv
 refine AH ?_;intro U ai;conv=>cbv
 intro ab M;conv=>cbv
 obtain⟨ag,p⟩:=AK (l:=T) (i:=i') (by omega);refine⟨ag,fun _=>⟨by omega,by rw[show (i).toNat=i' by omega];exact p⟩,?_⟩;try conv=>cbv
 have v:ab=tw (pre u i'):=by rw[M,List.drop_zero,show U=i' by omega,I,FI]
 have G:=z _ p;obtain⟨aB,g⟩:=xI (An (AM (pre u i') r));refine AB Y (F5 B v G y C (by decide) C g) ?_;conv=>cbv
 intro n30 H;conv=>cbv
 refine g2 rfl ?_;cases n30 <;> conv=>cbv
 ·have P:=HH H;intro aA an;conv=>cbv
  refine AH ?_;intro W aj;conv=>cbv
  intro Q N;conv=>cbv
  obtain⟨R,q⟩:=AK (l:=T) (i:=i') (by omega);refine⟨R,fun _=>⟨by omega,by rw[show (i).toNat=i' by omega];exact q⟩,?_⟩;try conv=>cbv
  have a:Q=tw (pre u i'):=by rw[N,List.drop_zero,show W=i' by omega,I,FI]
  have d:=z _ q
  obtain⟨ax,V,J,f⟩:∃(l:LR) (b:Bool),CF 247 [.one (.sl (.sl AA) Q),.one (.sl AA R)] (.AG [(false,[.sl AA l]),(false,[.bool b])])/\(b=true↔Sq (pre u i') (AM (pre u i') r)):=by
   rcases PK B y (Nat.le_trans (TZ O _ _) nZ) C with⟨w,hw,a8,hy⟩ |⟨a1,l,hn⟩
   ·exact⟨_,true,hy a d rfl,⟨fun _=>⟨w,hw,a8⟩,fun _=>rfl⟩⟩
   exact⟨l,false,hn a d,⟨fun h=>(by cases h),fun h=>absurd h a1⟩⟩
  refine AB Y J ?_;conv=>cbv
  refine g2 rfl ?_;cases V <;> conv=>cbv
  ·intro ad ao;conv=>cbv
   refine AI ?_;refine⟨T.length-(i'+1),?_,?_⟩
   ·omega
   rw[s];exact⟨i'+1,ad,rfl,⟨⟨by omega⟩,by omega⟩,a7 (mM g P) (fun h=>by cases f.2 h),rfl⟩
  exact AD ⟨⟨rfl,congrArg _ (Bool.eq_false_iff.2 fun e=>(K (Z.1 e)).2 (f.1 rfl)),trivial⟩,trivial⟩
 have P:=HI H;exact AD ⟨⟨rfl,congrArg _ (Bool.eq_false_iff.2 fun e=>by have:=F0 (K (Z.1 e)).1;omega),trivial⟩,trivial⟩
theorem cU (hs:FG T1 A1=true) (j:T1.length<=4) (h:c=true↔LD T1 A1):CF 26 [.agg (AR T1 A1)] (.one (.bool c)):=by
 refine AJ Tryz.func26 fun E g=>?_
 conv=>cbv
 rintro r ⟨q,f5⟩;conv=>cbv
 intro p f;conv=>cbv
 cases p <;> conv=>cbv
 ·have k:=HH f;exact absurd k (by omega)
 have k:=HI f;obtain⟨d,a⟩:=xB ((EN 0 T1&&Dk (2^T1.length) A1));refine AB g (cP hs j a) ?_;conv=>cbv
 cases d <;> conv=>cbv
 ·exact AD ⟨⟨rfl,congrArg _ ((aX h a).symm),trivial⟩,trivial⟩
 obtain⟨u,hu,o⟩:=aW a hs j;obtain⟨l,b⟩:=Dv (AT u);refine AB g (cw o hu b) ?_;conv=>cbv
 exact AD ⟨⟨rfl,congrArg _ ((aY h a hu b).symm),trivial⟩,trivial⟩
theorem XL {x:el AA} {n:Int} (a:n=((List.length x.1.2:Nat):Int)) (b:m=((List.length x.2.2:Nat):Int)) (k1:¬n>6) (k2:¬m>6):DB x=true:=by
 unfold DB;rw[decide_eq_true (by omega),decide_eq_true (by omega)];rfl
theorem XJ {x:el AA} {n:Int} (a:n=((List.length x.1.2:Nat):Int)) (k1:n>6):DB x=false:=by unfold DB;rw[decide_eq_false (by omega)];rfl
theorem XK {x:el AA} (a:m=((List.length x.2.2:Nat):Int)) (k2:m>6):DB x=false:=by unfold DB;rw[decide_eq_false (p:=x.2.2.length<=6) (by omega)];exact Bool.and_false _
theorem cQ (hc:c=FG T A):CF 32 [.agg (AR T A)] (.one (.bool c)):=by
 refine AJ Tryz.func32 fun E hE=>?_
 conv=>cbv
 refine .inr ?_;obtain⟨J0,M⟩:=xJ fun vs v k=>∃(k':Nat) (j:Int),vs=[.one (.Ab 1 0 0),.one (.bool false),.one (.int .i64 j)]/\v=[.var 0 [.sl (.sl AA) T,.sl AA A]]/\(AO j k'/\k'<=A.length)/\A.all DB=(A.drop k').all DB/\k=A.length-k'
 refine⟨[],[1,2,3],[1],J0,⟨A.length-0,by rw[M];exact⟨0,0,rfl,rfl,⟨Al 0,by omega⟩,rfl,rfl⟩⟩,?_⟩;intro vs v aJ o;rw[M] at o;obtain⟨k',j,rfl,rfl,⟨o,aC⟩,hinv,aD⟩:=o;conv=>cbv
 have ej:=o.eq;rintro n9 ⟨e9,f9⟩;conv=>cbv
 intro ai W;conv=>cbv
 cases ai <;> conv=>cbv
 ·have aa:=AW W;refine .inr ?_;obtain⟨J1,N⟩:=xJ fun vs v k=>∃(m':Nat) (m:Int),vs=[.one (.Ab 1 0 0),.one (.bool false),.one (.int .i64 m)]/\v=[.var 0 [.sl (.sl AA) T,.sl AA A]]/\(AO m m'/\m'<=T.length)/\(T.all fun l=>l.all DB)=((T.drop m').all fun l=>l.all DB)/\k=T.length-m'
  refine⟨[],[1,2,4],[1],J1,⟨T.length-0,by rw[N];exact⟨0,0,rfl,rfl,⟨Al 0,by omega⟩,rfl,rfl⟩⟩,?_⟩;intro vs v aK o;rw[N] at o;obtain⟨m',m,rfl,rfl,⟨hm,aG⟩,b,aE⟩:=o;conv=>cbv
  have em:=hm.eq;rintro n36 ⟨av,f36⟩;conv=>cbv
  intro n37 a1;conv=>cbv
  cases n37 <;> conv=>cbv
  ·have ae:=AW a1;exact AD ⟨⟨rfl,congrArg _ (by rw[hc,FG,hinv,b,List.drop_eq_nil_of_le (by omega),List.drop_eq_nil_of_le (by omega)];rfl),trivial⟩,trivial⟩
  have ae:=AY a1;refine .inr ?_;obtain⟨s2,h⟩:∃s,T[m']? =some s:=AK (l:=T) (i:=m') (by omega)
  refine .inr ?_;obtain⟨J2,O⟩:=xJ fun vs v k=>∃(g:Nat) (p:Int),vs=[.one (.Ab 1 0 0),.one (.bool false),.one (.int .i64 m),.one (.int .i64 p)]/\v=[.var 0 [.sl (.sl AA) T,.sl AA A]]/\(AO p g/\g<=s2.length)/\s2.all DB=(s2.drop g).all DB/\k=s2.length-g
  refine⟨[],[1,2,4,5],[1],J2,⟨s2.length-0,by rw[O];exact⟨0,0,rfl,rfl,⟨Al 0,by omega⟩,rfl,rfl⟩⟩,?_⟩;intro vs v aL o;rw[O] at o;obtain⟨g,p,rfl,rfl,⟨hp,aH⟩,d,aF⟩:=o;conv=>cbv
  have ep:=hp.eq;obtain⟨Q,C⟩:=AK (l:=T) (i:=m') (by omega);refine⟨Q,fun _=>⟨by omega,by rw[show (m).toNat=m' by omega];exact C⟩,?_⟩;try conv=>cbv
  have a8:Q=s2:=Option.some.inj (C.symm.trans h);have aI:Q.length=s2.length:=by rw[a8]
  rintro n46 ⟨aw,f46⟩;conv=>cbv
  intro aj a2;conv=>cbv
  cases aj <;> conv=>cbv
  ·have af:=AW a2;intro n39 aA;conv=>cbv
   refine AI ?_;refine⟨T.length-(m'+1),?_,?_⟩
   ·omega
   rw[N];exact⟨m'+1,_,rfl,rfl,⟨⟨by omega⟩,by omega⟩,b.trans ((GW h).trans (by rw[d,List.drop_eq_nil_of_le (show s2.length<=g by omega)];rfl)),rfl⟩
  have af:=AY a2;refine .inr ?_;obtain⟨q,D⟩:=AK (l:=T) (i:=m') (by omega);refine⟨q,fun _=>⟨by omega,by rw[show (m).toNat=m' by omega];exact D⟩,?_⟩;try conv=>cbv
  have R:q=s2:=Option.some.inj (D.symm.trans h);have ao:q.length=s2.length:=by rw[R]
  obtain⟨r,F⟩:=AK (l:=q) (i:=g) (by omega);refine⟨r,fun _=>⟨by omega,by rw[show (p).toNat=g by omega];exact F⟩,?_⟩;try conv=>cbv
  have f:s2[g]? =some r:=R ▸ F;intro n60 K;have ax:=K.eq;have f60:=K.le;conv=>cbv
  have y:n60=((List.length r.1.2:Nat):Int):=K.eq;intro n61 a5;conv=>cbv
  cases n61 <;> conv=>cbv
  ·have ag:=Bq a5;obtain⟨t,G⟩:=AK (l:=T) (i:=m') (by omega);refine⟨t,fun _=>⟨by omega,by rw[show (m).toNat=m' by omega];exact G⟩,?_⟩;try conv=>cbv
   have S:t=s2:=Option.some.inj (G.symm.trans h);have aq:t.length=s2.length:=by rw[S]
   obtain⟨a7,H⟩:=AK (l:=t) (i:=g) (by omega);refine⟨a7,fun _=>⟨by omega,by rw[show (p).toNat=g by omega];exact H⟩,?_⟩;try conv=>cbv
   have V:=Option.some.inj ((show s2[g]? =some a7 from S ▸ H).symm.trans f);intro ak L;have ay:=L.eq;have f73:=L.le;conv=>cbv
   have z:ak=((List.length r.2.2:Nat):Int):=V ▸ L.eq;intro al a6;conv=>cbv
   cases al <;> conv=>cbv
   ·have ah:=Bq a6;intro n49 aB;conv=>cbv
    refine AI ?_;refine⟨s2.length-(g+1),?_,?_⟩
    ·omega
    rw[O];exact⟨g+1,_,rfl,rfl,⟨⟨by omega⟩,by omega⟩,d.trans ((GW f).trans (by rw[XL y z (by omega) (by omega)];rfl)),rfl⟩
   have ah:=Br a6;exact AD ⟨⟨rfl,congrArg _ (by rw[hc,FG,b,GW h,d,GW f,XK z (by omega)];simp),trivial⟩,trivial⟩
  have ag:=Br a5;exact AD ⟨⟨rfl,congrArg _ (by rw[hc,FG,b,GW h,d,GW f,XJ y (by omega)];simp),trivial⟩,trivial⟩
 have aa:=AY W;refine .inr ?_;obtain⟨P,a⟩:=AK (l:=A) (i:=k') (by omega);refine⟨P,fun _=>⟨by omega,by rw[show (j).toNat=k' by omega];exact a⟩,?_⟩;try conv=>cbv
 intro n20 I;have ar:=I.eq;have f20:=I.le;conv=>cbv
 have w:n20=((List.length P.1.2:Nat):Int):=I.eq;intro n21 Y;conv=>cbv
 cases n21 <;> conv=>cbv
 ·have ab:=Bq Y;obtain⟨an,B⟩:=AK (l:=A) (i:=k') (by omega);refine⟨an,fun _=>⟨by omega,by rw[show (j).toNat=k' by omega];exact B⟩,?_⟩;try conv=>cbv
  have U:=Option.some.inj (B.symm.trans a);intro n30 J;have au:=J.eq;have f30:=J.le;conv=>cbv
  have x:n30=((List.length P.2.2:Nat):Int):=U ▸ J.eq;intro n31 Z;conv=>cbv
  cases n31 <;> conv=>cbv
  ·have ad:=Bq Z;intro aM az;conv=>cbv
   refine AI ?_;refine⟨A.length-(k'+1),?_,?_⟩
   ·omega
   rw[M];exact⟨k'+1,_,rfl,rfl,⟨⟨by omega⟩,by omega⟩,hinv.trans ((GW a).trans (by rw[XL w x (by omega) (by omega)];rfl)),rfl⟩
  have ad:=Br Z;exact AD ⟨⟨rfl,congrArg _ (by rw[hc,FG,hinv,GW a,XK x (by omega)];rfl),trivial⟩,trivial⟩
 have ab:=Br Y;exact AD ⟨⟨rfl,congrArg _ (by rw[hc,FG,hinv,GW a,XJ w (by omega)];rfl),trivial⟩,trivial⟩
theorem o0:CF 5 [.agg (AR T A)] (.one (.bool true)):=by
 refine AJ Tryz.func5 fun E g=>?_
 conv=>cbv
 refine AB g IC ?_;conv=>cbv
 refine AU ?_;conv=>cbv
 rintro x ⟨w,f8⟩;conv=>cbv
 intro v o;conv=>cbv
 cases v <;> conv=>cbv
 ·have s:=Bq o;rintro t ⟨r,f14⟩;conv=>cbv
  intro n15 h;conv=>cbv
  cases n15 <;> conv=>cbv
  ·have l:=Bq h;obtain⟨p,a⟩:=xB (FG T A);refine AB g (cQ a) ?_;conv=>cbv
   intro n20 j;conv=>cbv
   cases n20 <;> conv=>cbv
   ·have k:=C3 j;have d:FG T A=true:=by rw[<-a,k]
    obtain⟨q,b⟩:=Dv (LD T A);refine AB g (bW d (by omega) b) ?_;conv=>cbv
    refine AB g (cU d (by omega) b) ?_;conv=>cbv
    intro n27 f;(have f:=f.trans (show _=true by simp));subst f;conv=>cbv
    refine g2 rfl ?_;exact AD ⟨t2,trivial⟩
   have k:=C4 j;refine AB g IC ?_;conv=>cbv
   exact AD ⟨t2,trivial⟩
  have l:=Br h;refine AB g IC ?_;conv=>cbv
  exact AD ⟨t2,trivial⟩
 have s:=Br o;refine AB g IC ?_;conv=>cbv
 exact AD ⟨t2,trivial⟩
end Go.Abs
