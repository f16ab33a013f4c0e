/- Part 31 of a proof. Conditions: each theorem's own. -/
import Derived.Test.YtclgfoceefhnkaaGreatDoorLn29
set_option linter.all false
set_option maxHeartbeats 80000000
set_option maxRecDepth 20000
open Go.Proofs
namespace Go.Abs
open Go.RowKit
def Qf (rv:Int) (b1:Bool) (l1:List UInt32) (b2:Bool) (l2:List UInt32):Prop:=Ez b1 l1 b2 l2=true/\l1.length<=1/\l2.length=1/\b2=false/\(rv=2->b1=false/\l1.length≠0)
def EX (rv:Int) (l:LR):Prop:=∀v∈l,Qf rv v.1.1 v.1.2 v.2.1 v.2.2
variable {b1 b2 c:Bool} {i:Nat} {kd rv sd:Int} {l vl:LR} {l1 l2:List UInt32}
theorem EX.step (h:EX rv (l.take i)) (d:l[i]? =some ((b1,l1),b2,l2)) (b:Qf rv b1 l1 b2 l2):EX rv (l.take (i+1)):=fun v a=>by
 rw[List.take_add_one,d] at a;rcases List.mem_append.1 a with a | a
 ·exact h v a
 obtain rfl:v=((b1,l1),b2,l2):=by simpa using a
 exact b
theorem EX.at (h:EX rv l) (a:l[i]? =some ((b1,l1),b2,l2)):Qf rv b1 l1 b2 l2:=h _ (List.mem_of_getElem? a)
theorem oY {P C:List Int} {V:List Ex} (W:Du kd) (Y:∀v∈vl,v.1.2.length<=4000000/\v.2.2.length<=4000000) (d:c=true↔EX (Cr kd).2.2.2.2.1 vl/\vl.length=V.length):CF 30 [.agg [.int .i64 kd,.sl .i64 P,.sl .i64 C,.sl .ex V,.int .i64 sd],.one (.sl AA vl)] (.one (.bool c)):=by
 refine AG Tryz.func30 fun E J=>?_
 obtain⟨⟨nm,ra,rb,rc,rd,re,rg⟩,g⟩:∃z:el Lo,z=Cr kd:=⟨_,rfl⟩
 obtain⟨K,r⟩:=xB (KC kd);rw[<-g] at d;have d:c=true↔EX rd vl/\vl.length=V.length:=d;refine AB J (Ur W g r) ?_;refine BN [] [1,2,5,7] [2,5] (fun vs I k=>∃(i':Nat) (i:Int),vs=[.one (.sl AA vl),.one (.AR 2 0 0),.one (.AR 5 0 0),.one (.int .i64 i)]/\I=[.var 0 [.int .i64 kd,.sl .i64 P,.sl .i64 C,.sl .ex V,.int .i64 sd],.var 0 [.str nm,.int .i64 ra,.int .i64 rb,.int .i64 rc,.int .i64 rd,.int .i64 re,.bool rg]]/\(AO i i'/\i'<=vl.length)/\EX rd (vl.take i')/\k=vl.length-i') (vl.length-0) ⟨0,0,rfl,rfl,⟨BD 0,by omega⟩,fun v h=>by simp at h,rfl⟩ ?_;rintro J0 p vs I a1 ⟨i',i,rfl,rfl,⟨T,U⟩,hinv,X⟩;have ei:=T.eq;refine AS ?_;rintro a2 ⟨M,f16⟩;refine BW (fun A=>?_) fun A=>?_
 ·rintro a8 ⟨R,f78⟩ aa ⟨S,f81⟩ ab y;exact AF (by rw[Bool.eq_iff_iff,d,y,beq_iff_eq];exact⟨fun q=>by have:=q.2;omega,fun q=>⟨fun v Z=>hinv v (by rw[List.take_of_length_le (by omega)];exact Z),by omega⟩⟩)
 refine .inr ?_;refine AW i' fun H a=>?_
 try conv=>cbv
 obtain⟨⟨b1,l1⟩,b2,l2⟩:=H;obtain⟨L,b⟩:=xB (Ez b1 l1 b2 l2);have s:=Y _ (List.mem_of_getElem? a);refine AB J (VH b s.1 s.2) ?_;refine Gm (fun f=>?_) fun f=>?_
 ·exact AF (Bool.eq_false_iff.2 fun z=>by obtain⟨m,u,w,n,o⟩:=EX.at (d.1 z).1 a;rw[<-b,f] at m;exact Bool.noConfusion m)
 refine D6 a ?_;rintro a5 ⟨N,f33⟩;refine FJ (fun B=>?_) fun B=>?_
 ·exact AF (Bool.eq_false_iff.2 fun z=>by obtain⟨m,u,w,n,o⟩:=EX.at (d.1 z).1 a;omega)
 refine D6 a ?_;rintro a6 ⟨O,f43⟩;refine Fa (fun D=>?_) fun D=>?_
 ·exact AF (Bool.eq_false_iff.2 fun z=>by obtain⟨m,u,w,n,o⟩:=EX.at (d.1 z).1 a;first | omega | exact Bool.noConfusion n)
 refine D6 a ?_;cases b2 <;> conv=>cbv
 ·refine CH (fun F=>?_) fun F=>?_
  ·intro j x;exact Ba p ⟨i'+1,j,rfl,rfl,⟨⟨by omega⟩,by omega⟩,hinv.step a ⟨b.symm.trans f,by omega,by omega,rfl,fun h=>absurd h (by omega)⟩,rfl⟩
  refine D6 a ?_;cases b1 <;> conv=>cbv
  ·refine D6 a ?_;rintro a7 ⟨Q,f72⟩;refine BO (fun G=>?_) fun G=>?_
   ·exact AF (Bool.eq_false_iff.2 fun z=>by obtain⟨m,u,w,n,o⟩:=EX.at (d.1 z).1 a;have q6:=o (by omega);omega)
   intro j x;exact Ba p ⟨i'+1,j,rfl,rfl,⟨⟨by omega⟩,by omega⟩,hinv.step a ⟨b.symm.trans f,by omega,by omega,rfl,fun _=>⟨rfl,by omega⟩⟩,rfl⟩
  exact AF (Bool.eq_false_iff.2 fun z=>by obtain⟨m,u,w,n,o⟩:=EX.at (d.1 z).1 a;exact Bool.noConfusion (o (by omega)).1)
 exact AF (Bool.eq_false_iff.2 fun z=>by obtain⟨m,u,w,n,o⟩:=EX.at (d.1 z).1 a;first | omega | exact Bool.noConfusion n)
theorem aL (x:Re):Bm (-x)= -Bm x:=by
 rcases Ew x with⟨a,b⟩ |⟨a,b⟩ |⟨a,b⟩
 ·rw[b,G1 (by grind)];rfl
 ·rw[b,a,show -(0:Re)=0 by grind,GK];rfl
 rw[b,JU (by grind)]
noncomputable def KL (n:Nu):Nu:=if Bm n.2=0 then ([],Re.ofRat ((1:Int):Rat)) else (n.1,DF n.2)
noncomputable def I5 (ns:List Nu) (Ah:Int) (W:List UInt8) (i:Nat):Nu:=if (i:Int)<2*Ah then Dt ns (W.getD i 0).toNat else KL (Dt ns (W.getD i 0).toNat)
noncomputable def GU (ns:List Nu) (Ah:Int) (W:List UInt8) (k:Nat):List Nu:=(List.range k).map (I5 ns Ah W)
theorem iP (ns:List Nu) (Ah:Int) (W:List UInt8) (k:Nat):GU ns Ah W (k+1)=GU ns Ah W k++[I5 ns Ah W k]:=by
 unfold GU;rw[List.range_succ,List.map_append];rfl
theorem RX (ns:List Nu) (Ah:Int) (W:List UInt8) (k:Nat):(GU ns Ah W k).length=k:=by unfold GU;rw[List.length_map,List.length_range]
structure QV (ns:List Nu) (kd sd Ah:Int) (P C:List Int) (V:List Ex) (vl:LR) (AY:List Int) (W:List UInt8):Prop where
 p0:0<=Ah
 p8:Ah<=8
 c3:AY.length<=3
 len:(W.length:Int)=2*Ah+(AY.length:Nat)
 va:Hf kd P C V sd Ah (AY.length:Nat)
 sh:EX (Cr kd).2.2.2.2.1 vl/\vl.length=V.length
 ne:ns≠[]
 cw:Dp Ah AY=true
 low:∀(i:Nat) (x:UInt8),W[i]? =some x->(Dt ns x.toNat).1.length<=1
theorem px {n x:Int} {l:List Int} (h:Dp n (l.take i)=true) (d:l[i]? =some x) (a:0<=x) (b:x<n):Dp n (l.take (i+1))=true:=by
 rw[List.take_add_one,d];unfold Dp at h ⊢;rw[List.all_append,h];simp[a,b]
theorem M5 {ns:List Nu} {W:List UInt8} {x:UInt8} (h:∀(j:Nat) (x:UInt8),j<i->W[j]? =some x->(Dt ns x.toNat).1.length<=1) (d:W[i]? =some x) (b:(Dt ns x.toNat).1.length<=1):∀(j:Nat) (x:UInt8),j<i+1->W[j]? =some x->(Dt ns x.toNat).1.length<=1:=fun j y f a=>by
 by_cases e:j=i
 ·subst e;rw[<-Option.some.inj (d.symm.trans a)];exact b
 exact h j y (by omega) a
theorem Wq {ns:List Nu} {Ah:Int} {W:List UInt8} {x:UInt8} (a:W[i]? =some x) (h:(i:Int)<2*Ah):I5 ns Ah W i=Dt ns x.toNat:=by
 unfold I5;rw[if_pos h,List.getD_eq_getElem?_getD,a];rfl
theorem MZ {ns:List Nu} {Ah:Int} {W:List UInt8} {x:UInt8} (a:W[i]? =some x) (h:¬(i:Int)<2*Ah):I5 ns Ah W i=KL (Dt ns x.toNat):=by
 unfold I5;rw[if_neg h,List.getD_eq_getElem?_getD,a];rfl
theorem M7 {ns:List Nu} {Ah:Int} {W:List UInt8} {l o:List (el AQ)} {n:Nu} (h:o=(GU ns Ah W i).map nm) (a:l=o++[nm n]) (b:I5 ns Ah W i=n):l=(GU ns Ah W (i+1)).map nm:=by
 rw[iP,List.map_append,<-h,a,b];rfl
theorem ck {Ah:Int} {P C:List Int} {V:List Ex} {AY:List Int} {X:List (el DC)} {W:List UInt8} {N:Nat} {ns:List Nu} {Vr:List Re} {L:List (el AQ)} (hk:Du kd) (bq:Du Ah) (hN:N<=1048576) (hV:∀(i:Nat) (e:Ex),V[i]? =some e->FO N e) (hs:∀v∈vl,v.1.2.length<=4000000/\v.2.2.length<=4000000) (aF:ns=(runN (X.take 24)).1) (H:Vr.length<=3) (A:∀n∈ns,Cc Vr n) (U:c=true↔QV ns kd sd Ah P C V vl AY W) (hL:L=if c=true then (GU ns Ah W W.length).map nm else []):CF 8 [.agg [.int .i64 kd,.sl .i64 P,.sl .i64 C,.sl .ex V,.int .i64 sd,.sl AA vl,.sl .i64 AY,.int .i64 Ah,.sl DC X,.sl .u8 W]] (.AI [(false,[.sl AQ L]),(false,[.bool c])]):=by
 refine AG Tryz.func8 fun E Z=>?_
 obtain⟨Ln,ab⟩:∃z:List (el AQ),z=ns.map nm:=⟨_,rfl⟩
 have aj:Ln.length=ns.length:=by rw[ab,List.length_map]
 refine AB (r:= .one (.sl AQ Ln)) Z (eC (by rw[ab,aF])) ?_;refine Cw (fun aG=>?_) fun aG=>?_
 ·have a:c=false:=Bool.eq_false_iff.2 fun z=>by have q:=U.1 z;have:=q.p0;omega
  exact AE ⟨⟨rfl,.inr (.inl ⟨_,congrArg _ (by rw[hL,a];rfl)⟩),trivial⟩,⟨rfl,congrArg _ (a),trivial⟩,trivial⟩
 refine FJ (fun aH=>?_) fun aH=>?_
 ·have a:c=false:=Bool.eq_false_iff.2 fun z=>by have q:=U.1 z;have:=q.p8;omega
  exact AE ⟨⟨rfl,.inr (.inl ⟨_,congrArg _ (by rw[hL,a];rfl)⟩),trivial⟩,⟨rfl,congrArg _ (a),trivial⟩,trivial⟩
 intro bt ao;have b7:=ao.eq;have f23:=ao.le;refine FJ (fun aI=>?_) fun aI=>?_
 ·have a:c=false:=Bool.eq_false_iff.2 fun z=>by have q:=U.1 z;have:=q.c3;omega
  exact AE ⟨⟨rfl,.inr (.inl ⟨_,congrArg _ (by rw[hL,a];rfl)⟩),trivial⟩,⟨rfl,congrArg _ (a),trivial⟩,trivial⟩
 rintro bu ⟨b8,f29⟩ bw bf bx ⟨b9,f35⟩ bz bg;refine Fa (fun aM=>?_) fun aM=>?_
 ·have a:c=false:=Bool.eq_false_iff.2 fun z=>by have q:=U.1 z;have:=q.len;omega
  exact AE ⟨⟨rfl,.inr (.inl ⟨_,congrArg _ (by rw[hL,a];rfl)⟩),trivial⟩,⟨rfl,congrArg _ (a),trivial⟩,trivial⟩
 intro aS aq;have ba:=aq.eq;have f46:=aq.le;obtain⟨aC,a2⟩:=EO (Hf kd P C V sd Ah (AY.length:Nat));refine AB (r:= .one (.bool aC)) Z (dx hk hN hV (by rw[show aS=((AY.length:Nat):Int) by omega];exact a2)) ?_;refine Gm (fun al=>?_) fun al=>?_
 ·have a:c=false:=Bool.eq_false_iff.2 fun z=>by have q:=U.1 z;exact Bool.noConfusion (al.symm.trans (a2.2 q.va))
  exact AE ⟨⟨rfl,.inr (.inl ⟨_,congrArg _ (by rw[hL,a];rfl)⟩),trivial⟩,⟨rfl,congrArg _ (a),trivial⟩,trivial⟩
 obtain⟨b6,a5⟩:=EO (EX (Cr kd).2.2.2.2.1 vl/\vl.length=V.length);refine AB Z (oY hk hs a5) ?_;refine Gm (fun an=>?_) fun an=>?_
 ·have a:c=false:=Bool.eq_false_iff.2 fun z=>by have q:=U.1 z;exact Bool.noConfusion (an.symm.trans (a5.2 q.sh))
  exact AE ⟨⟨rfl,.inr (.inl ⟨_,congrArg _ (by rw[hL,a];rfl)⟩),trivial⟩,⟨rfl,congrArg _ (a),trivial⟩,trivial⟩
 refine AB Z (dz ab fun n hn=>⟨(A n hn).cos,(A n hn).Ih⟩) ?_;refine BH ?_;rintro bA ⟨bb,f65⟩;refine BO (fun aN=>?_) fun aN=>?_
 ·have a:c=false:=Bool.eq_false_iff.2 fun z=>by have q:=U.1 z;exact q.ne (List.eq_nil_of_length_eq_zero (by have:=aj;omega))
  exact AE ⟨⟨rfl,.inr (.inl ⟨_,congrArg _ (by rw[hL,a];rfl)⟩),trivial⟩,⟨rfl,congrArg _ (a),trivial⟩,trivial⟩
 refine BN [] [1,4,5] [1] (fun vs bl k=>∃(i':Nat) (i:Int),vs=[.one (.AR 1 0 0),.one (.sl AQ Ln),.one (.int .i64 i)]/\bl=[.var 0 [.int .i64 kd,.sl .i64 P,.sl .i64 C,.sl .ex V,.int .i64 sd,.sl AA vl,.sl .i64 AY,.int .i64 Ah,.sl DC X,.sl .u8 W]]/\(AO i i'/\i'<=AY.length)/\(0<=Ah/\Ah<=8/\AY.length<=3/\(W.length:Int)=2*Ah+(AY.length:Nat)/\Hf kd P C V sd Ah (AY.length:Nat)/\(EX (Cr kd).2.2.2.2.1 vl/\vl.length=V.length)/\ns≠[])/\Dp Ah (AY.take i')=true/\k=AY.length-i') (AY.length-0) ⟨0,0,rfl,rfl,⟨BD 0,by omega⟩,⟨by omega,by omega,by omega,by omega,a2.1 al,a5.1 an,fun z=>by rw[z] at aj;have h0:Ln.length=0:=aj;omega⟩,rfl,rfl⟩ ?_;rintro J0 aD vs bl br ⟨i',i,rfl,rfl,⟨hi,bk⟩,f,a6,bn⟩;conv=>cbv
 have ei:=hi.eq;have av:=f.2.2.2.2.2.2;rintro bB ⟨bc,f71⟩;conv=>cbv
 refine Cw (fun aO=>?_) fun aO=>?_
 ·refine .inr ?_;refine AW i' fun bD Q=>?_
  try conv=>cbv
  refine Cw (fun aP=>?_) fun aP=>?_
  ·have a:c=false:=Bool.eq_false_iff.2 fun z=>by have q:=U.1 z;have:=KV q.cw Q;omega
   exact AE ⟨⟨rfl,.inr (.inl ⟨_,congrArg _ (by rw[hL,a];rfl)⟩),trivial⟩,⟨rfl,congrArg _ (a),trivial⟩,trivial⟩
  refine D6 Q ?_;intro aU ar;cases aU <;> conv=>cbv
  ·have aQ:=K8 ar;refine AK ?_;intro aT bh;exact Ba aD ⟨i'+1,aT,rfl,rfl,⟨⟨by omega⟩,by omega⟩,f,px a6 Q (by omega) (by omega),rfl⟩
  have aQ:=LA ar;have a:c=false:=Bool.eq_false_iff.2 fun z=>by have q:=U.1 z;have:=KV q.cw Q;omega
  exact AE ⟨⟨rfl,.inr (.inl ⟨_,congrArg _ (by rw[hL,a];rfl)⟩),trivial⟩,⟨rfl,congrArg _ (a),trivial⟩,trivial⟩
 refine BN [(6,AQ,true)] [1,4,6,7] [1,6] (fun vs bl k=>∃(o:List (el AQ)) (m R:Nat) (j:Int),vs=[.one (.AR 1 0 0),.one (.sl AQ Ln),.one (.AZ AQ 6 0 0 m),.one (.int .i64 j)]/\bl=[.var 0 [.int .i64 kd,.sl .i64 P,.sl .i64 C,.sl .ex V,.int .i64 sd,.sl AA vl,.sl .i64 AY,.int .i64 Ah,.sl DC X,.sl .u8 W],.arr 0 AQ o]/\(AO j R/\R<=W.length/\m=o.length)/\o=(GU ns Ah W R).map nm/\(∀(i:Nat) (x:UInt8),i<R->W[i]? =some x->(Dt ns x.toNat).1.length<=1)/\k=W.length-R) (W.length-0) ⟨[],0,0,0,rfl,rfl,⟨BD 0,by omega,rfl⟩,rfl,fun i x h=>absurd h (Nat.not_lt_zero i),rfl⟩ ?_;rintro J1 a1 vs bl bs ⟨o,m,R,j,rfl,rfl,⟨hj,bm,hm⟩,u,F,bo⟩;conv=>cbv
 have ej:=hj.eq;have bp:o.length=R:=by rw[u,List.length_map,RX]
 have a6:Dp Ah (AY.take AY.length)=true:=by have h9:=a6;rw[List.take_of_length_le (by omega)] at h9;rw[List.take_length];exact h9
 have aY:W.length<=19:=by have:=f;omega
 rintro bC ⟨bd,f94⟩;conv=>cbv
 refine BW (fun aR=>?_) fun aR=>?_
 ·exact AE ⟨⟨rfl,.inl ⟨_,rfl,by omega,congrArg _ (by rw[hL,U.2 ⟨f.1,f.2.1,f.2.2.1,f.2.2.2.1,f.2.2.2.2.1,f.2.2.2.2.2.1,f.2.2.2.2.2.2,by rw[show AY=AY.take AY.length from (List.take_length).symm];exact a6,fun i x hx=>F i x (by have:=C6 hx;omega) hx⟩,if_pos rfl,show W.length=R by omega,<-u,List.drop_zero,hm,List.take_length])⟩,trivial⟩,⟨rfl,congrArg _ (by have aE:=U.2 ⟨f.1,f.2.1,f.2.2.1,f.2.2.2.1,f.2.2.2.2.1,f.2.2.2.2.2.1,f.2.2.2.2.2.2,by rw[show AY=AY.take AY.length from (List.take_length).symm];exact a6,fun i x hx=>F i x (by have:=C6 hx;omega) hx⟩;exact aE),trivial⟩,trivial⟩
 refine .inr ?_;refine AW R fun ai g=>?_
 refine AS ?_;intro aZ ae b0 af;have aV:=ae.eq;have f103:=ae.lt;have af:=wrap_i64 af;obtain⟨J,y⟩:∃z:Nu,z=Dt ns ai.toNat:=⟨_,rfl⟩
 have T:J∈ns:=by rw[y];exact O4 av _
 have ad:=((A _ T).el H).mono (by decide:512<=Rm);obtain⟨T5,G⟩:=Hx (tw J.1);obtain⟨A5,S⟩:=C8 (em J.1 J.2);have bj:T5.length=J.1.length:=by rw[G,tw,List.length_map,List.length_reverse]
 refine AB Z (eA ab av (i':=ai.toNat) ⟨by omega⟩ y G S) ?_;rintro b3 ⟨aW,f108⟩;refine FJ (fun aw=>?_) fun aw=>?_
 ·have a:c=false:=Bool.eq_false_iff.2 fun z=>by have q:=U.1 z;have:=q.low _ _ g;rw[<-y] at this;omega
  exact AE ⟨⟨rfl,.inr (.inl ⟨_,congrArg _ (by rw[hL,a];rfl)⟩),trivial⟩,⟨rfl,congrArg _ (a),trivial⟩,trivial⟩
 intro b4 aX az ag;refine .inr ?_;cases az <;> conv=>cbv
 ·have ax:=K8 ag;refine⟨[(T5,A5)],fun _=>⟨rfl,by decide,rfl,⟨rfl,by first | exact t1 | exact t2 | exact t4 | simp[BR,BV,cells],trivial⟩⟩,.inl ?_⟩;try conv=>cbv
  refine .inl ⟨[(T5,A5)],fun _=>⟨rfl,by (first | rfl | omega),⟨_,rfl,by simp <;> omega,by simp⟩,by show (o.length+1)*48<=140737488355328;(try simp only[List.length_take,List.length_drop]);omega⟩,?_⟩;intro (b:List (el AQ)) w d;have p:b=(o:List (el AQ))++([(T5,A5)]:List (el AQ)):=d.1;have s:w=List.length (α:=(el AQ)) b:=d.2;refine AK ?_;intro I aa;exact Ba a1 ⟨b,_,R+1,I,rfl,rfl,⟨⟨by omega⟩,by omega,s⟩,M7 (n:=J) u (p.trans (by rw[S,G];rfl)) ((Wq g (by omega)).trans y.symm),M5 F g (by rw[<-y];omega),rfl⟩
 have ax:=LA ag;obtain⟨b5,ak⟩:=xI (Bm J.2);refine AB Z (Kd (Gv H A (Nat.le_refl Rm)) (Ep H A T) G S ad ak) ?_;intro aA ah;refine .inr ?_;cases aA <;> conv=>cbv
 ·have ay:=Dw ah;obtain⟨aB,O⟩:=xI (Bm J.2);refine AB Z (Kd (Gv H A (Nat.le_refl Rm)) (Ep H A T) G S ad O) ?_;intro a8 K;refine .inr ?_;cases a8 <;> conv=>cbv
  ·have a7:=Bp K;refine⟨[(T5,A5)],fun _=>⟨rfl,by decide,rfl,⟨rfl,by first | exact t1 | exact t2 | exact t4 | simp[BR,BV,cells],trivial⟩⟩,.inl ?_⟩;try conv=>cbv
   refine .inl ⟨[(T5,A5)],fun _=>⟨rfl,by (first | rfl | omega),⟨_,rfl,by simp <;> omega,by simp⟩,by show (o.length+1)*48<=140737488355328;(try simp only[List.length_take,List.length_drop]);omega⟩,?_⟩;intro (b:List (el AQ)) w d;have p:b=(o:List (el AQ))++([(T5,A5)]:List (el AQ)):=d.1;have s:w=List.length (α:=(el AQ)) b:=d.2;refine AK ?_;intro I aa;exact Ba a1 ⟨b,_,R+1,I,rfl,rfl,⟨⟨by omega⟩,by omega,s⟩,M7 (n:=((J.1,J.2):Nu)) u (p.trans (by rw[S,G];rfl)) ((MZ g (by omega)).trans (by rw[<-y];unfold KL DF;rw[if_neg (by omega),if_neg (aJ (by omega))])),M5 F g (by rw[<-y];omega),rfl⟩
  have a7:=Br K;obtain⟨B,D⟩:=C8 (em [] (Re.ofRat ((1:Int):Rat)));refine AB Z (Gq (by decide) D) ?_;refine⟨[(([]:List LR),B)],fun _=>⟨rfl,by decide,rfl,⟨rfl,by first | exact t1 | exact t2 | exact t4 | simp[BR,BV,cells],trivial⟩⟩,.inl ?_⟩;try conv=>cbv
  refine .inl ⟨[(([]:List LR),B)],fun _=>⟨rfl,by (first | rfl | omega),⟨_,rfl,by simp <;> omega,by simp⟩,by show (o.length+1)*48<=140737488355328;(try simp only[List.length_take,List.length_drop]);omega⟩,?_⟩;intro (b:List (el AQ)) w d;have p:b=(o:List (el AQ))++([(([]:List LR),B)]:List (el AQ)):=d.1;have s:w=List.length (α:=(el AQ)) b:=d.2;refine AK ?_;intro I aa;exact Ba a1 ⟨b,_,R+1,I,rfl,rfl,⟨⟨by omega⟩,by omega,s⟩,M7 (n:=(([],Re.ofRat ((1:Int):Rat)):Nu)) u (p.trans (by rw[D];rfl)) ((MZ g (by omega)).trans (by rw[<-y];unfold KL;rw[if_pos (by first | omega | (have:=aL J.2;omega))])),M5 F g (by rw[<-y];omega),rfl⟩
 have ay:=Dx ah;obtain⟨Y,M⟩:=C8 (em J.1 (-J.2));have au:=aK (by omega:Bm J.2<0);refine AB Z (N6 (Gv H A (Nat.le_refl Rm)) (Ep H A T) G S ad M) ?_;obtain⟨aB,O⟩:=xI (Bm (-J.2));refine AB Z (Kd (Gv H A (Nat.le_refl Rm)) (Ep H A T) G M (ad.neg (A _ T).red) O) ?_;intro a8 K;refine .inr ?_;cases a8 <;> conv=>cbv
 ·have a7:=Bp K;refine⟨[(T5,Y)],fun _=>⟨rfl,by decide,rfl,⟨rfl,by first | exact t1 | exact t2 | exact t4 | simp[BR,BV,cells],trivial⟩⟩,.inl ?_⟩;try conv=>cbv
  refine .inl ⟨[(T5,Y)],fun _=>⟨rfl,by (first | rfl | omega),⟨_,rfl,by simp <;> omega,by simp⟩,by show (o.length+1)*48<=140737488355328;(try simp only[List.length_take,List.length_drop]);omega⟩,?_⟩;intro (b:List (el AQ)) w d;have p:b=(o:List (el AQ))++([(T5,Y)]:List (el AQ)):=d.1;have s:w=List.length (α:=(el AQ)) b:=d.2;refine AK ?_;intro I aa;exact Ba a1 ⟨b,_,R+1,I,rfl,rfl,⟨⟨by omega⟩,by omega,s⟩,M7 (n:=((J.1,-J.2):Nu)) u (p.trans (by rw[M,G];rfl)) ((MZ g (by omega)).trans (by rw[<-y];unfold KL DF;rw[if_neg (by omega),if_pos au])),M5 F g (by rw[<-y];omega),rfl⟩
 have a7:=Br K;obtain⟨B,D⟩:=C8 (em [] (Re.ofRat ((1:Int):Rat)));refine AB Z (Gq (by decide) D) ?_;refine⟨[(([]:List LR),B)],fun _=>⟨rfl,by decide,rfl,⟨rfl,by first | exact t1 | exact t2 | exact t4 | simp[BR,BV,cells],trivial⟩⟩,.inl ?_⟩;try conv=>cbv
 refine .inl ⟨[(([]:List LR),B)],fun _=>⟨rfl,by (first | rfl | omega),⟨_,rfl,by simp <;> omega,by simp⟩,by show (o.length+1)*48<=140737488355328;(try simp only[List.length_take,List.length_drop]);omega⟩,?_⟩;intro (b:List (el AQ)) w d;have p:b=(o:List (el AQ))++([(([]:List LR),B)]:List (el AQ)):=d.1;have s:w=List.length (α:=(el AQ)) b:=d.2;refine AK ?_;intro I aa;exact Ba a1 ⟨b,_,R+1,I,rfl,rfl,⟨⟨by omega⟩,by omega,s⟩,M7 (n:=(([],Re.ofRat ((1:Int):Rat)):Nu)) u (p.trans (by rw[D];rfl)) ((MZ g (by omega)).trans (by rw[<-y];unfold KL;rw[if_pos (by first | omega | (have:=aL J.2;omega))])),M5 F g (by rw[<-y];omega),rfl⟩
end Go.Abs
namespace Go.Abs
open Go.RowKit
def E8 (cr:List (el AQ)) (p:Int):el Bz:=(cr.getD (2*p.toNat) ([],[]),cr.getD (2*p.toNat+1) ([],[]))
def Hy (cr:List (el AQ)) (Ah c:Int):el AQ:=cr.getD (2*Ah+c).toNat ([],[])
variable {cr:List (el AQ)} {i:Nat} {kd Ah sd t:Int} {vl:LR}
theorem me {p:Int} {x y:el AQ} (a:cr[2*p.toNat]? =some x) (b:cr[2*p.toNat+1]? =some y):E8 cr p=(x,y):=by
 unfold E8;rw[List.getD_eq_getElem?_getD,List.getD_eq_getElem?_getD,a,b];rfl
theorem nN {c:Int} {x:el AQ} (a:cr[(2*Ah+c).toNat]? =some x):Hy cr Ah c=x:=by
 unfold Hy;rw[List.getD_eq_getElem?_getD,a];rfl
theorem map_take {α β:Type} {f:α->β} {l:List α} {x:α} (h:l[i]? =some x):(l.take (i+1)).map f=(l.take i).map f++[f x]:=by
 rw[List.take_add_one,h,List.map_append];rfl
theorem SP {α β:Type} {f:α->β} {l:List α} {o Q:List β} (h:o=(l.take i).map f) (b:l.length<=i) (a:Q=l.map f):o=Q:=by
 rw[h,List.take_of_length_le b,a]
theorem Z6 {bk:Nat->Option Af} {a:List Nat} {n:Nat} {t:T} {l Q:List (el t)} (h:n=l.length) (e:l=Q):Pc bk a (if n=l.length then .one (.sl t l) else .one .B7)= .one (.sl t Q):=by
 rw[if_pos h,e];rfl
theorem yFR {b1 b2:Bool} {l1 l2:List UInt32}:CF 45 [.agg (Bw b1 l1 b2 l2)] (.agg [.sl (.sl AA) (([]:List LR)),.sl AA [((b1,l1),b2,l2)]]):=by
 refine AG Tryz.func45 fun E a=>?_
 refine⟨[((b1,l1),(b2,l2))],fun _=>⟨rfl,by decide,rfl,⟨rfl,by first | exact t1 | exact t2 | exact t4 | simp[BR,BV,cells],trivial⟩⟩,.inr ?_⟩;try conv=>cbv
 exact AE ⟨⟨rfl,AL,rfl,trivial⟩,trivial⟩
theorem qN {P C:List Int} {V:List Ex} {AY:List Int} (o:(cr.length:Int)=2*Ah+(AY.length:Nat)) (hb:(0<=Ah/\Ah<=8)/\AY.length<=3) (hf:CF 39 [.agg [.int .i64 kd,.sl .i64 P,.sl .i64 C,.sl .ex V,.int .i64 sd],.one (.sl .i64 AY),.one (.int .i64 t)] (.one (.int .i64 0))):CF 14 [.agg [.int .i64 kd,.sl .i64 P,.sl .i64 C,.sl .ex V,.int .i64 sd],.one (.sl AA vl),.one (.sl .i64 AY),.one (.int .i64 Ah),.one (.int .i64 t),.one (.sl AQ cr)] (.AI [(true,[.int .i64 0,BJ,BK,BJ,BK,BJ,BK,BJ,BK,BJ,BK,BJ,BK,BJ,BK,BJ,BK,BJ,BK,BJ,BK]),(false,[.int .i64 1])]):=by
 refine AG Tryz.func14 fun E h=>?_
 rintro j ⟨b,f36⟩ k f m ⟨d,f40⟩ n g;refine Fa (fun a=>?_) fun a=>?_
 ·exact absurd a (by omega)
 refine AB h hf ?_;refine CU ?_;exact AE ⟨⟨rfl,rfl,AL,AL,AL,AL,AL,AL,AL,AL,AL,AL,AL,AL,AL,AL,AL,AL,AL,AL,AL,AL,trivial⟩,t2,trivial⟩
theorem qO {P C:List Int} {V:List Ex} {AY:List Int} {Q:List (el Bz)} {nl rd:List (el AQ)} {k1 e:Int} {tg:Nat->List LR} {ag:Nat->LR} (hl:(cr.length:Int)=2*Ah+(AY.length:Nat)) (hb:(0<=Ah/\Ah<=8)/\AY.length<=3) (hk:1<=kd/\kd<=17) (bA:kd≠14/\kd≠15) (hP:∀p∈P,0<=p/\p<Ah) (cg:P.length<=4) (cf:C.length<=2) (ch:vl.length<=2) (hC:∀c∈C,0<=c/\c<(AY.length:Nat)) (hQ:Q=P.map (E8 cr)) (bD:nl=vl.map fun v=>(([],[v]):el AQ)) (bE:rd=C.map (Hy cr Ah)) {f9:Int} (bt:f9≠0) (hf:CF 39 [.agg [.int .i64 kd,.sl .i64 P,.sl .i64 C,.sl .ex V,.int .i64 sd],.one (.sl .i64 AY),.one (.int .i64 t)] (.one (.int .i64 f9))) (hn:CF 44 [.agg [.int .i64 kd,.sl .i64 P,.sl .i64 C,.sl .ex V,.int .i64 sd],.one (.int .i64 Ah),.one (.int .i64 (-1)),.one (.sl AQ cr)] (.one (.bool true))) (h1:Unit->kd=1->∃(q n1:el AQ),nl[0]? =some q/\nl[1]? =some n1/\CF 46 [.agg (AH q.1 q.2 n1.1 n1.2),.one (.int .i64 0)] (DK k1 tg ag e)) (h2:Unit->kd=2->∃(q:el AQ) (Ts:List LR) (As:LR) (pa:Int) (Ta:List LR) (Aa:LR) (Tb:List LR) (Ab:LR),nl[0]? =some q/\CF 47 [.agg (AJ q.1 q.2),.agg (AJ q.1 q.2)] (.AI [(true,(AJ Ts As)),(false,[.int .i64 0])])/\CF 49 [.agg [.int .i64 kd,.sl .i64 P,.sl .i64 C,.sl .ex V,.int .i64 sd],.one (.int .i64 0),.one (.int .i64 t)] (.one (.int .i64 pa))/\CF 15 [.one (.sl AQ cr),.one (.int .i64 pa)] (.agg (AH Ta Aa Tb Ab))/\CF 48 [.agg (AH Ta Aa Tb Ab),.agg (AJ Ts As),.one (.int .i64 0)] (DK k1 tg ag e)) (h3:Unit->kd=3->∃(b x1 x2:el Bz) (p0 S:Int),Q[0]? =some b/\Q[1]? =some x1/\Q[2]? =some x2/\P[0]? =some p0/\P[1]? =some S/\(p0=t->CF 50 [.agg (AH x1.1.1 x1.1.2 x1.2.1 x1.2.2),.agg (AH x2.1.1 x2.1.2 x2.2.1 x2.2.2)] (DK k1 tg ag e))/\(p0≠t->S=t->CF 50 [.agg (AH x2.1.1 x2.1.2 x2.2.1 x2.2.2),.agg (AH b.1.1 b.1.2 b.2.1 b.2.2)] (DK k1 tg ag e))/\(p0≠t->S≠t->CF 50 [.agg (AH x1.1.1 x1.1.2 x1.2.1 x1.2.2),.agg (AH b.1.1 b.1.2 b.2.1 b.2.2)] (DK k1 tg ag e))) (h4:Unit->kd=4->∃(x1 x2:el Bz) (q:el AQ) (Tl:List LR) (Al:LR) (Tm:List LR) (Am:LR) (Tn:List LR) (An:LR) (f:Int) (Tx:List LR) (Ax:LR) (Ty:List LR) (Ay:LR),Q[1]? =some x1/\Q[2]? =some x2/\nl[0]? =some q/\CF 51 [.agg (AH x1.1.1 x1.1.2 x1.2.1 x1.2.2),.agg (AH x2.1.1 x2.1.2 x2.2.1 x2.2.2),.agg (AJ q.1 q.2),.one (.int .i64 sd)] (.AI [(true,(CQ Tl Al Tm Am Tn An)),(false,[.int .i64 f])])/\CF 53 [.agg (AH x1.1.1 x1.1.2 x1.2.1 x1.2.2),.agg (AH x2.1.1 x2.1.2 x2.2.1 x2.2.2)] (.agg (AH Tx Ax Ty Ay))/\CF 52 [.agg (CQ Tl Al Tm Am Tn An),.agg (AH Tx Ax Ty Ay),.one (.int .i64 f)] (DK k1 tg ag e)) (h9:Unit->kd=9->∃(b x1 x2:el Bz) (p0 S:Int) (Ta:List LR) (Aa:LR) (Tb:List LR) (Ab:LR),Q[0]? =some b/\Q[1]? =some x1/\Q[2]? =some x2/\P[0]? =some p0/\P[1]? =some S/\(p0=t->CF 54 [.agg (AH x1.1.1 x1.1.2 x1.2.1 x1.2.2),.agg (AH x2.1.1 x2.1.2 x2.2.1 x2.2.2)] (.AI [(true,(AH Ta Aa Tb Ab)),(false,[.int .i64 0])]))/\(p0≠t->S=t->CF 55 [.agg (AH b.1.1 b.1.2 b.2.1 b.2.2),.agg (AH x2.1.1 x2.1.2 x2.2.1 x2.2.2)] (.AI [(true,(AH Ta Aa Tb Ab)),(false,[.int .i64 0])]))/\(p0≠t->S≠t->CF 55 [.agg (AH b.1.1 b.1.2 b.2.1 b.2.2),.agg (AH x1.1.1 x1.1.2 x1.2.1 x1.2.2)] (.AI [(true,(AH Ta Aa Tb Ab)),(false,[.int .i64 0])]))/\CF 46 [.agg (AH Ta Aa Tb Ab),.one (.int .i64 0)] (DK k1 tg ag e)) (bh:Unit->kd=10->∃(x2 x3:el Bz) (Tl:List LR) (Al:LR) (Tm:List LR) (Am:LR) (Tn:List LR) (An:LR) (f:Int),Q[2]? =some x2/\Q[3]? =some x3/\CF 56 [.agg (AH x2.1.1 x2.1.2 x2.2.1 x2.2.2),.agg (AH x3.1.1 x3.1.2 x3.2.1 x3.2.2)] (.AI [(true,(CQ Tl Al Tm Am Tn An)),(false,[.int .i64 f])])/\(f≠0->(k1=0/\tg=(fun _=>[])/\ag=fun _=>[])/\e=f)/\(f=0->∃(pa:Int) (Ta:List LR) (Aa:LR) (Tb:List LR) (Ab:LR) (Tc:List LR) (Ac:LR) (Td:List LR) (Ad:LR),CF 49 [.agg [.int .i64 kd,.sl .i64 P,.sl .i64 C,.sl .ex V,.int .i64 sd],.one (.int .i64 0),.one (.int .i64 t)] (.one (.int .i64 pa))/\CF 15 [.one (.sl AQ cr),.one (.int .i64 pa)] (.agg (AH Ta Aa Tb Ab))/\CF 57 [.agg (CQ Tl Al Tm Am Tn An),.agg (AH Ta Aa Tb Ab)] (.AI [(true,(AH Tc Ac Td Ad)),(false,[.int .i64 0])])/\CF 46 [.agg (AH Tc Ac Td Ad),.one (.int .i64 0)] (DK k1 tg ag e))) (bj:Unit->kd=11->∃(pa:Int) (Ta:List LR) (Aa:LR) (Tb:List LR) (Ab:LR) (Tc:List LR) (Ac:LR) (Td:List LR) (Ad:LR),CF 49 [.agg [.int .i64 kd,.sl .i64 P,.sl .i64 C,.sl .ex V,.int .i64 sd],.one (.int .i64 0),.one (.int .i64 t)] (.one (.int .i64 pa))/\CF 15 [.one (.sl AQ cr),.one (.int .i64 pa)] (.agg (AH Ta Aa Tb Ab))/\CF 36 [.one (.int .i64 1),.one (.int .i64 0)] (.agg (AH Tc Ac Td Ad))/\CF 58 [.agg (AH Ta Aa Tb Ab),.agg (AH Tc Ac Td Ad)] (DK k1 tg ag e)) (bk:Unit->kd=12->∃(pa:Int) (Ta:List LR) (Aa:LR) (Tb:List LR) (Ab:LR) (Tc:List LR) (Ac:LR) (Td:List LR) (Ad:LR),CF 49 [.agg [.int .i64 kd,.sl .i64 P,.sl .i64 C,.sl .ex V,.int .i64 sd],.one (.int .i64 0),.one (.int .i64 t)] (.one (.int .i64 pa))/\CF 15 [.one (.sl AQ cr),.one (.int .i64 pa)] (.agg (AH Ta Aa Tb Ab))/\CF 36 [.one (.int .i64 0),.one (.int .i64 1)] (.agg (AH Tc Ac Td Ad))/\CF 58 [.agg (AH Ta Aa Tb Ab),.agg (AH Tc Ac Td Ad)] (DK k1 tg ag e)) (bm:Unit->kd=13->∃(c0 p0:Int) (To:List LR) (Ao:LR) (Tp:List LR) (Ap:LR) (b:el Bz) (h:el AQ) (Ts:List LR) (As:LR),P[0]? =some p0/\Q[0]? =some b/\rd[0]? =some h/\CF 43 [.agg [.int .i64 kd,.sl .i64 P,.sl .i64 C,.sl .ex V,.int .i64 sd],.one (.sl .i64 AY),.one (.int .i64 0)] (.one (.int .i64 c0))/\CF 15 [.one (.sl AQ cr),.one (.int .i64 c0)] (.agg (AH To Ao Tp Ap))/\CF 47 [.agg (AJ h.1 h.2),.agg (AJ h.1 h.2)] (.AI [(true,(AJ Ts As)),(false,[.int .i64 0])])/\(p0≠t->CF 48 [.agg (AH b.1.1 b.1.2 b.2.1 b.2.2),.agg (AJ Ts As),.one (.int .i64 0)] (DK k1 tg ag e))/\(p0=t->CF 48 [.agg (AH To Ao Tp Ap),.agg (AJ Ts As),.one (.int .i64 0)] (DK k1 tg ag e))) (bn:Unit->kd=16->∃(b x1:el Bz) (h:el AQ) (Tl:List LR) (Al:LR) (Tm:List LR) (Am:LR) (Tn:List LR) (An:LR) (f:Int) (Tx:List LR) (Ax:LR) (Ty:List LR) (Ay:LR),Q[0]? =some b/\Q[1]? =some x1/\rd[0]? =some h/\CF 51 [.agg (AH b.1.1 b.1.2 b.2.1 b.2.2),.agg (AH x1.1.1 x1.1.2 x1.2.1 x1.2.2),.agg (AJ h.1 h.2),.one (.int .i64 sd)] (.AI [(true,(CQ Tl Al Tm Am Tn An)),(false,[.int .i64 f])])/\CF 53 [.agg (AH b.1.1 b.1.2 b.2.1 b.2.2),.agg (AH x1.1.1 x1.1.2 x1.2.1 x1.2.2)] (.agg (AH Tx Ax Ty Ay))/\CF 52 [.agg (CQ Tl Al Tm Am Tn An),.agg (AH Tx Ax Ty Ay),.one (.int .i64 f)] (DK k1 tg ag e)) (bo:Unit->kd=17->∃(c0 d1:Int) (To:List LR) (Ao:LR) (Tp:List LR) (Ap:LR) (Ti:List LR) (Ai:LR) (Tj:List LR) (Aj:LR) (h r1:el AQ) (Tm:List LR) (Am:LR) (Tu:List LR) (Au:LR) (Tq:List LR) (Aq:LR),rd[0]? =some h/\rd[1]? =some r1/\CF 43 [.agg [.int .i64 kd,.sl .i64 P,.sl .i64 C,.sl .ex V,.int .i64 sd],.one (.sl .i64 AY),.one (.int .i64 1)] (.one (.int .i64 d1))/\CF 15 [.one (.sl AQ cr),.one (.int .i64 d1)] (.agg (AH Ti Ai Tj Aj))/\CF 43 [.agg [.int .i64 kd,.sl .i64 P,.sl .i64 C,.sl .ex V,.int .i64 sd],.one (.sl .i64 AY),.one (.int .i64 0)] (.one (.int .i64 c0))/\CF 15 [.one (.sl AQ cr),.one (.int .i64 c0)] (.agg (AH To Ao Tp Ap))/\(sd≠1->CF 33 [.agg (AJ r1.1 r1.2)] (.agg (AJ Tm Am)))/\(sd≠1->CF 59 [.agg (AJ h.1 h.2),.agg (AJ Tm Am)] (.AI [(true,(AJ Tu Au)),(false,[.int .i64 0])]))/\(sd=1->CF 59 [.agg (AJ h.1 h.2),.agg (AJ r1.1 r1.2)] (.AI [(true,(AJ Tu Au)),(false,[.int .i64 0])]))/\CF 47 [.agg (AJ Tu Au),.agg (AJ Tu Au)] (.AI [(true,(AJ Tq Aq)),(false,[.int .i64 0])])/\(c0≠t->CF 48 [.agg (AH To Ao Tp Ap),.agg (AJ Tq Aq),.one (.int .i64 0)] (DK k1 tg ag e))/\(c0=t->CF 48 [.agg (AH Ti Ai Tj Aj),.agg (AJ Tq Aq),.one (.int .i64 0)] (DK k1 tg ag e))) (h5:Unit->5<=kd/\kd<=8->CF 60 [.agg [.int .i64 kd,.sl .i64 P,.sl .i64 C,.sl .ex V,.int .i64 sd],.one (.sl AQ nl),.one (.int .i64 t),.one (.sl Bz Q),.one (.sl AQ cr)] (DK k1 tg ag e)):CF 14 [.agg [.int .i64 kd,.sl .i64 P,.sl .i64 C,.sl .ex V,.int .i64 sd],.one (.sl AA vl),.one (.sl .i64 AY),.one (.int .i64 Ah),.one (.int .i64 t),.one (.sl AQ cr)] (.AI [(true,[.int .i64 k1,.sl (.sl AA) (tg 0),.sl AA (ag 0),.sl (.sl AA) (tg 1),.sl AA (ag 1),.sl (.sl AA) (tg 2),.sl AA (ag 2),.sl (.sl AA) (tg 3),.sl AA (ag 3),.sl (.sl AA) (tg 4),.sl AA (ag 4),.sl (.sl AA) (tg 5),.sl AA (ag 5),.sl (.sl AA) (tg 6),.sl AA (ag 6),.sl (.sl AA) (tg 7),.sl AA (ag 7),.sl (.sl AA) (tg 8),.sl AA (ag 8),.sl (.sl AA) (tg 9),.sl AA (ag 9)]),(false,[.int .i64 e])]):=by
 refine AG Tryz.func14 fun E a=>?_
 rintro cq ⟨bW,f36⟩ cu c5 cv ⟨bX,f40⟩ cw c6;refine Fa (fun aU=>?_) fun aU=>?_
 ·exact absurd aU (by omega)
 refine AB a hf ?_;refine BO (fun aV=>?_) fun aV=>?_
 ·exact absurd aV bt
 refine AB a hn ?_;refine BH ?_;refine BN [(14,Bz,true)] [1,2,3,4,5,6,12,13,14,15] [6,12,14] (fun vs bl k=>∃(o:List (el Bz)) (m i':Nat) (i:Int),vs=[.one (.sl AA vl),.one (.sl .i64 AY),.one (.int .i64 Ah),.one (.int .i64 t),.one (.sl AQ cr),.one (.AR 6 0 0),.one (.AR 12 0 0),.one (.int .i64 0),.one (.AZ Bz 14 0 0 m),.one (.int .i64 i)]/\bl=[.var 0 [.int .i64 kd,.sl .i64 P,.sl .i64 C,.sl .ex V,.int .i64 sd],.var 0 [.int .i64 0,.nil,.nil,.nil,.nil,.nil,.nil,.nil,.nil,.nil,.nil,.nil,.nil,.nil,.nil,.nil,.nil,.nil,.nil,.nil,.nil],.arr 0 Bz o]/\(AO i i'/\i'<=P.length/\m=o.length)/\o=(P.take i').map (E8 cr)/\k=P.length-i') (P.length-0) ⟨[],0,0,0,rfl,rfl,⟨BD 0,by omega,rfl⟩,rfl,rfl⟩ ?_;rintro J0 bq vs bl cl ⟨o1,m1,aC,i1,rfl,rfl,⟨bu,bQ,bB⟩,u,cc⟩;conv=>cbv
 have c2:=bu.eq;have bT:o1.length=aC:=by rw[u,List.length_map,List.length_take];omega
 rintro cx ⟨bY,f61⟩;conv=>cbv
 refine Cw (fun bH=>?_) fun bH=>?_
 ·refine .inr ?_;refine AW aC fun a2 a7=>?_
  try conv=>cbv
  have ck:=hP a2 (List.mem_of_getElem? a7);obtain⟨x,hx⟩:=CM (l:=cr) (i:=2*a2.toNat) (by omega);obtain⟨y,hy⟩:=CM (l:=cr) (i:=2*a2.toNat+1) (by omega);refine AB a (cJ (p0:=a2.toNat) ⟨by omega⟩ (by omega) hx hy) ?_;refine⟨[((x.1,x.2),(y.1,y.2))],fun _=>⟨rfl,by decide,rfl,⟨rfl,by first | exact t1 | exact t2 | exact t4 | simp[BR,BV,cells],trivial⟩⟩,.inl ?_⟩;try conv=>cbv
  refine .inl ⟨[((x.1,x.2),(y.1,y.2))],fun _=>⟨rfl,by (first | rfl | omega),⟨_,rfl,by simp <;> omega,by simp⟩,by show (o1.length+1)*96<=140737488355328;(try simp only[List.length_take,List.length_drop]);omega⟩,?_⟩;intro (aF:List (el Bz)) bL ao;have aO:aF=(o1:List (el Bz))++([((x.1,x.2),(y.1,y.2))]:List (el Bz)):=ao.1;have aQ:bL=List.length (α:=(el Bz)) aF:=ao.2;refine AK ?_;intro bK c7;exact Ba bq ⟨aF,_,aC+1,bK,rfl,rfl,⟨⟨by omega⟩,by omega,aQ⟩,aO.trans (by rw[u,map_take a7,me hx hy]),rfl⟩
 have bF:o1=Q:=SP u (by omega) hQ;refine BN [(14,AQ,false),(16,AQ,true)] [1,2,3,4,5,6,12,13,14,16,17,18] [6,12,16] (fun vs bl k=>∃(o:List (el AQ)) (m i':Nat) (i:Int),vs=[.one (.sl AA vl),.one (.sl .i64 AY),.one (.int .i64 Ah),.one (.int .i64 t),.one (.sl AQ cr),.one (.AR 6 0 0),.one (.AR 12 0 0),.one (.int .i64 0),.one (.sl Bz Q),.one (.AZ AQ 16 0 0 m),.one .nil,.one (.int .i64 i)]/\bl=[.var 0 [.int .i64 kd,.sl .i64 P,.sl .i64 C,.sl .ex V,.int .i64 sd],.var 0 [.int .i64 0,.nil,.nil,.nil,.nil,.nil,.nil,.nil,.nil,.nil,.nil,.nil,.nil,.nil,.nil,.nil,.nil,.nil,.nil,.nil,.nil],.arr 0 AQ o]/\(AO i i'/\i'<=vl.length/\m=o.length)/\o=(vl.take i').map (fun v=>(([],[v]):el AQ))/\k=vl.length-i') (vl.length-0) ⟨[],0,0,0,congrArg (fun z:AV=>([.one (.sl AA vl),.one (.sl .i64 AY),.one (.int .i64 Ah),.one (.int .i64 t),.one (.sl AQ cr),.one (.AR 6 0 0),.one (.AR 12 0 0),.one (.int .i64 0),z,.one (.AZ AQ 16 0 0 0),.one .nil,.one (.int .i64 0)]:List AV)) (Z6 bB bF),rfl,⟨BD 0,by omega,rfl⟩,rfl,rfl⟩ ?_
 rintro J1 br vs bl cm ⟨o2,m2,aD,i2,rfl,rfl,⟨bw,bR,bC⟩,w,cd⟩;conv=>cbv
 have c3:=bw.eq;have bU:o2.length=aD:=by rw[w,List.length_map,List.length_take];omega
 rintro cy ⟨bZ,f77⟩;conv=>cbv
 refine Cw (fun bI=>?_) fun bI=>?_
 ·refine .inr ?_;refine AW aD fun aH aS=>?_
  try conv=>cbv
  refine AB a yFR ?_;refine⟨[(([]:List LR),[aH])],fun _=>⟨rfl,by decide,rfl,⟨rfl,by first | exact t1 | exact t2 | exact t4 | simp[BR,BV,cells],trivial⟩⟩,.inl ?_⟩;try conv=>cbv
  refine .inl ⟨[(([]:List LR),[aH])],fun _=>⟨rfl,by (first | rfl | omega),⟨_,rfl,by simp <;> omega,by simp⟩,by show (o2.length+1)*48<=140737488355328;(try simp only[List.length_take,List.length_drop]);omega⟩,?_⟩;intro (aG:List (el AQ)) bN aq;have aP:aG=(o2:List (el AQ))++([(([]:List LR),[aH])]:List (el AQ)):=aq.1;have aR:bN=List.length (α:=(el AQ)) aG:=aq.2;refine AK ?_;intro bM c8;exact Ba br ⟨aG,_,aD+1,bM,rfl,rfl,⟨⟨by omega⟩,by omega,aR⟩,aP.trans (by rw[w,map_take aS]),rfl⟩
 have bG:o2=nl:=SP w (by omega) bD;refine BN [(16,AQ,false),(17,AQ,true)] [2,3,4,5,6,12,13,14,16,17,19] [6,12,17] (fun vs bl k=>∃(o:List (el AQ)) (m i':Nat) (i:Int),vs=[.one (.sl .i64 AY),.one (.int .i64 Ah),.one (.int .i64 t),.one (.sl AQ cr),.one (.AR 6 0 0),.one (.AR 12 0 0),.one (.int .i64 0),.one (.sl Bz Q),.one (.sl AQ nl),.one (.AZ AQ 17 0 0 m),.one (.int .i64 i)]/\bl=[.var 0 [.int .i64 kd,.sl .i64 P,.sl .i64 C,.sl .ex V,.int .i64 sd],.var 0 [.int .i64 0,.nil,.nil,.nil,.nil,.nil,.nil,.nil,.nil,.nil,.nil,.nil,.nil,.nil,.nil,.nil,.nil,.nil,.nil,.nil,.nil],.arr 0 AQ o]/\(AO i i'/\i'<=C.length/\m=o.length)/\o=(C.take i').map (Hy cr Ah)/\k=C.length-i') (C.length-0) ⟨[],0,0,0,congrArg (fun z:AV=>([.one (.sl .i64 AY),.one (.int .i64 Ah),.one (.int .i64 t),.one (.sl AQ cr),.one (.AR 6 0 0),.one (.AR 12 0 0),.one (.int .i64 0),.one (.sl Bz Q),z,.one (.AZ AQ 17 0 0 0),.one (.int .i64 0)]:List AV)) (Z6 bC bG),rfl,⟨BD 0,by omega,rfl⟩,rfl,rfl⟩ ?_
 rintro J2 bs vs bl cn ⟨o3,m3,aE,i3,rfl,rfl,⟨bx,bS,cj⟩,A,bA⟩;conv=>cbv
 have c4:=bx.eq;have bV:o3.length=aE:=by rw[A,List.length_map,List.length_take];omega
 rintro cz ⟨c1,f92⟩;conv=>cbv
 refine Cw (fun bJ=>?_) fun bJ=>?_
 ·refine .inr ?_;refine AK ?_;intro cA ca;refine AW aE fun W G=>?_
  try conv=>cbv
  have cb:=hC W (List.mem_of_getElem? G);refine AK ?_;intro an bP;refine AW ((an).toNat) fun n aB=>?_
  try conv=>cbv
  refine⟨[(n.1,n.2)],fun _=>⟨rfl,by decide,rfl,⟨rfl,by first | exact t1 | exact t2 | exact t4 | simp[BR,BV,cells],trivial⟩⟩,.inl ?_⟩;try conv=>cbv
  refine .inl ⟨[(n.1,n.2)],fun _=>⟨rfl,by (first | rfl | omega),⟨_,rfl,by simp <;> omega,by simp⟩,by show (o3.length+1)*48<=140737488355328;(try simp only[List.length_take,List.length_drop]);omega⟩,?_⟩;intro (O:List (el AQ)) aW U;have az:O=(o3:List (el AQ))++([(n.1,n.2)]:List (el AQ)):=U.1;have aA:aW=List.length (α:=(el AQ)) O:=U.2;refine AK ?_;intro bO c9;exact Ba bs ⟨O,_,aE+1,bO,rfl,rfl,⟨⟨by omega⟩,by omega,aA⟩,az.trans (by rw[A,map_take G,nN (show cr[(2*Ah+W).toNat]? =some n by rw[<-show an=2*Ah+W by omega];exact aB)]),rfl⟩
 have d:o3=rd:=SP A (by omega) bE;refine .inr ?_;refine BO (fun a8=>?_) fun a8=>?_
 ·obtain⟨q,n1,w0,w1,bp⟩:=h1 () a8;refine⟨q,fun _=>⟨by omega,w0⟩,?_⟩;try conv=>cbv
  refine⟨n1,fun _=>⟨by omega,w1⟩,?_⟩;try conv=>cbv
  refine AB a bp ?_;exact AE ⟨⟨rfl,rfl,rfl,rfl,rfl,rfl,rfl,rfl,rfl,rfl,rfl,rfl,rfl,rfl,rfl,rfl,rfl,rfl,rfl,rfl,rfl,rfl,trivial⟩,t2,trivial⟩
 refine BO (fun aa=>?_) fun aa=>?_
 ·obtain⟨q,Ts,As,pa,Ta,Aa,Tb,Ab,w0,g1,cp,ct,g2⟩:=h2 () aa;refine⟨q,fun _=>⟨by omega,w0⟩,?_⟩;try conv=>cbv
  refine⟨q,fun _=>⟨by omega,w0⟩,?_⟩;try conv=>cbv
  refine AB a g1 ?_;refine AB a cp ?_;refine AB a ct ?_;refine AB a g2 ?_;exact AE ⟨⟨rfl,rfl,rfl,rfl,rfl,rfl,rfl,rfl,rfl,rfl,rfl,rfl,rfl,rfl,rfl,rfl,rfl,rfl,rfl,rfl,rfl,rfl,trivial⟩,t2,trivial⟩
 refine BO (fun ab=>?_) fun ab=>?_
 ·obtain⟨b,x1,x2,p0,S,X,T,Y,z0,z1,g3,g4,g5⟩:=h3 () ab;refine⟨p0,fun _=>⟨by omega,z0⟩,?_⟩;try conv=>cbv
  refine BO (fun D=>?_) fun D=>?_
  ·refine⟨x1,fun _=>⟨by omega,T⟩,?_⟩;try conv=>cbv
   refine⟨x2,fun _=>⟨by omega,Y⟩,?_⟩;try conv=>cbv
   refine AB a ((g3 D)) ?_;exact AE ⟨⟨rfl,rfl,rfl,rfl,rfl,rfl,rfl,rfl,rfl,rfl,rfl,rfl,rfl,rfl,rfl,rfl,rfl,rfl,rfl,rfl,rfl,rfl,trivial⟩,t2,trivial⟩
  refine⟨S,fun _=>⟨by omega,z1⟩,?_⟩;try conv=>cbv
  refine CH (fun K=>?_) fun K=>?_
  ·refine⟨x1,fun _=>⟨by omega,T⟩,?_⟩;try conv=>cbv
   refine⟨b,fun _=>⟨by omega,X⟩,?_⟩;try conv=>cbv
   refine AB a ((g5 D K)) ?_;exact AE ⟨⟨rfl,rfl,rfl,rfl,rfl,rfl,rfl,rfl,rfl,rfl,rfl,rfl,rfl,rfl,rfl,rfl,rfl,rfl,rfl,rfl,rfl,rfl,trivial⟩,t2,trivial⟩
  refine⟨x2,fun _=>⟨by omega,Y⟩,?_⟩;try conv=>cbv
  refine⟨b,fun _=>⟨by omega,X⟩,?_⟩;try conv=>cbv
  refine AB a ((g4 D K)) ?_;exact AE ⟨⟨rfl,rfl,rfl,rfl,rfl,rfl,rfl,rfl,rfl,rfl,rfl,rfl,rfl,rfl,rfl,rfl,rfl,rfl,rfl,rfl,rfl,rfl,trivial⟩,t2,trivial⟩
 refine BO (fun ad=>?_) fun ad=>?_
 ·obtain⟨x1,x2,q,Tl,Al,Tm,Am,Tn,An,f,Tx,Ax,Ty,Ay,T,Y,w0,g6,g7,g8⟩:=h4 () ad;refine⟨x1,fun _=>⟨by omega,T⟩,?_⟩;try conv=>cbv
  refine⟨x2,fun _=>⟨by omega,Y⟩,?_⟩;try conv=>cbv
  refine⟨q,fun _=>⟨by omega,w0⟩,?_⟩;try conv=>cbv
  refine AB a g6 ?_;refine⟨x1,fun _=>⟨by omega,T⟩,?_⟩;try conv=>cbv
  refine⟨x2,fun _=>⟨by omega,Y⟩,?_⟩;try conv=>cbv
  refine AB a g7 ?_;refine AB a g8 ?_;exact AE ⟨⟨rfl,rfl,rfl,rfl,rfl,rfl,rfl,rfl,rfl,rfl,rfl,rfl,rfl,rfl,rfl,rfl,rfl,rfl,rfl,rfl,rfl,rfl,trivial⟩,t2,trivial⟩
 refine BO (fun ae=>?_) fun ae=>?_
 ·obtain⟨b,x1,x2,p0,S,Ta,Aa,Tb,Ab,X,T,Y,z0,z1,g9,aZ,b0,ar⟩:=h9 () ae;refine⟨p0,fun _=>⟨by omega,z0⟩,?_⟩;try conv=>cbv
  refine BO (fun F=>?_) fun F=>?_
  ·refine⟨x1,fun _=>⟨by omega,T⟩,?_⟩;try conv=>cbv
   refine⟨x2,fun _=>⟨by omega,Y⟩,?_⟩;try conv=>cbv
   refine AB a ((g9 F)) ?_;refine AB a ar ?_;exact AE ⟨⟨rfl,rfl,rfl,rfl,rfl,rfl,rfl,rfl,rfl,rfl,rfl,rfl,rfl,rfl,rfl,rfl,rfl,rfl,rfl,rfl,rfl,rfl,trivial⟩,t2,trivial⟩
  refine⟨S,fun _=>⟨by omega,z1⟩,?_⟩;try conv=>cbv
  refine CH (fun L=>?_) fun L=>?_
  ·refine⟨b,fun _=>⟨by omega,X⟩,?_⟩;try conv=>cbv
   refine⟨x1,fun _=>⟨by omega,T⟩,?_⟩;try conv=>cbv
   refine AB a ((b0 F L)) ?_;refine AB a ar ?_;exact AE ⟨⟨rfl,rfl,rfl,rfl,rfl,rfl,rfl,rfl,rfl,rfl,rfl,rfl,rfl,rfl,rfl,rfl,rfl,rfl,rfl,rfl,rfl,rfl,trivial⟩,t2,trivial⟩
  refine⟨b,fun _=>⟨by omega,X⟩,?_⟩;try conv=>cbv
  refine⟨x2,fun _=>⟨by omega,Y⟩,?_⟩;try conv=>cbv
  refine AB a ((aZ F L)) ?_;refine AB a ar ?_;exact AE ⟨⟨rfl,rfl,rfl,rfl,rfl,rfl,rfl,rfl,rfl,rfl,rfl,rfl,rfl,rfl,rfl,rfl,rfl,rfl,rfl,rfl,rfl,rfl,trivial⟩,t2,trivial⟩
 refine BO (fun af=>?_) fun af=>?_
 ·obtain⟨x2,x3,Tl,Al,Tm,Am,Tn,An,f,Y,q3,b3,b5,b6⟩:=bh () af;refine⟨x2,fun _=>⟨by omega,Y⟩,?_⟩;try conv=>cbv
  refine⟨x3,fun _=>⟨by omega,q3⟩,?_⟩;try conv=>cbv
  refine AB a b3 ?_;refine Fa (fun M=>?_) fun M=>?_
  ·obtain⟨⟨rfl,rfl,rfl⟩,rfl⟩:=b5 M;exact AE ⟨⟨rfl,rfl,AL,AL,AL,AL,AL,AL,AL,AL,AL,AL,AL,AL,AL,AL,AL,AL,AL,AL,AL,AL,trivial⟩,t2,trivial⟩
  obtain⟨pa,Ta,Aa,Tb,Ab,Tc,Ac,Td,Ad,cp,ct,b4,b7⟩:=b6 M;refine AB a cp ?_;refine AB a ct ?_;refine AB a b4 ?_;refine AB a b7 ?_;exact AE ⟨⟨rfl,rfl,rfl,rfl,rfl,rfl,rfl,rfl,rfl,rfl,rfl,rfl,rfl,rfl,rfl,rfl,rfl,rfl,rfl,rfl,rfl,rfl,trivial⟩,t2,trivial⟩
 refine BO (fun ah=>?_) fun ah=>?_
 ·obtain⟨pa,Ta,Aa,Tb,Ab,Tc,Ac,Td,Ad,cp,ct,b8,au⟩:=bj () ah;refine AB a cp ?_;refine AB a ct ?_;refine AB a b8 ?_;refine AB a au ?_;exact AE ⟨⟨rfl,rfl,rfl,rfl,rfl,rfl,rfl,rfl,rfl,rfl,rfl,rfl,rfl,rfl,rfl,rfl,rfl,rfl,rfl,rfl,rfl,rfl,trivial⟩,t2,trivial⟩
 refine BO (fun ai=>?_) fun ai=>?_
 ·obtain⟨pa,Ta,Aa,Tb,Ab,Tc,Ac,Td,Ad,cp,ct,b9,au⟩:=bk () ai;refine AB a cp ?_;refine AB a ct ?_;refine AB a b9 ?_;refine AB a au ?_;exact AE ⟨⟨rfl,rfl,rfl,rfl,rfl,rfl,rfl,rfl,rfl,rfl,rfl,rfl,rfl,rfl,rfl,rfl,rfl,rfl,rfl,rfl,rfl,rfl,trivial⟩,t2,trivial⟩
 refine BO (fun aj=>?_) fun aj=>?_
 ·obtain⟨c0,p0,To,Ao,Tp,Ap,b,h,Ts,As,z0,X,v0,Z,av,aI,ba,bb⟩:=bm () aj;refine AB a Z ?_;refine AB a av ?_;refine⟨p0,fun _=>⟨by omega,z0⟩,?_⟩;refine AS ?_;intro aX a5;refine .inr ?_;cases aX <;> conv=>cbv
  ·have N:=Ht a5;refine⟨fun _=>⟨by omega,by have:=C6 v0;rw[<-d] at this;omega⟩,?_⟩;intro H aw;conv=>cbv
   refine⟨h,fun _=>by rw[d,show H=0 by omega];exact v0,?_⟩;try conv=>cbv
   refine⟨fun _=>⟨by omega,by have:=C6 v0;rw[<-d] at this;omega⟩,?_⟩;intro I ax;conv=>cbv
   refine⟨h,fun _=>by rw[d,show I=0 by omega];exact v0,?_⟩;try conv=>cbv
   refine AB a aI ?_;refine AB a ((bb N)) ?_;exact AE ⟨⟨rfl,rfl,rfl,rfl,rfl,rfl,rfl,rfl,rfl,rfl,rfl,rfl,rfl,rfl,rfl,rfl,rfl,rfl,rfl,rfl,rfl,rfl,trivial⟩,t2,trivial⟩
  have N:=Hu a5;refine⟨b,fun _=>⟨by omega,X⟩,?_⟩;try conv=>cbv
  refine⟨fun _=>⟨by omega,by have:=C6 v0;rw[<-d] at this;omega⟩,?_⟩;intro H aw;conv=>cbv
  refine⟨h,fun _=>by rw[d,show H=0 by omega];exact v0,?_⟩;try conv=>cbv
  refine⟨fun _=>⟨by omega,by have:=C6 v0;rw[<-d] at this;omega⟩,?_⟩;intro I ax;conv=>cbv
  refine⟨h,fun _=>by rw[d,show I=0 by omega];exact v0,?_⟩;try conv=>cbv
  refine AB a aI ?_;refine AB a ((ba N)) ?_;exact AE ⟨⟨rfl,rfl,rfl,rfl,rfl,rfl,rfl,rfl,rfl,rfl,rfl,rfl,rfl,rfl,rfl,rfl,rfl,rfl,rfl,rfl,rfl,rfl,trivial⟩,t2,trivial⟩
 refine BO (fun ak=>?_) fun ak=>?_
 ·obtain⟨b,x1,h,Tl,Al,Tm,Am,Tn,An,f,Tx,Ax,Ty,Ay,X,T,v0,bc,bd,g8⟩:=bn () ak;refine⟨b,fun _=>⟨by omega,X⟩,?_⟩;try conv=>cbv
  refine⟨x1,fun _=>⟨by omega,T⟩,?_⟩;try conv=>cbv
  refine⟨fun _=>⟨by omega,by have:=C6 v0;rw[<-d] at this;omega⟩,?_⟩;intro aT bz;conv=>cbv
  refine⟨h,fun _=>by rw[d,show aT=0 by omega];exact v0,?_⟩;try conv=>cbv
  refine AB a bc ?_;refine⟨b,fun _=>⟨by omega,X⟩,?_⟩;try conv=>cbv
  refine⟨x1,fun _=>⟨by omega,T⟩,?_⟩;try conv=>cbv
  refine AB a bd ?_;refine AB a g8 ?_;exact AE ⟨⟨rfl,rfl,rfl,rfl,rfl,rfl,rfl,rfl,rfl,rfl,rfl,rfl,rfl,rfl,rfl,rfl,rfl,rfl,rfl,rfl,rfl,rfl,trivial⟩,t2,trivial⟩
 refine CH (fun al=>?_) fun al=>?_
 ·have h5:=h5 () (by omega);refine AB a h5 ?_;exact AE ⟨⟨rfl,rfl,rfl,rfl,rfl,rfl,rfl,rfl,rfl,rfl,rfl,rfl,rfl,rfl,rfl,rfl,rfl,rfl,rfl,rfl,rfl,rfl,trivial⟩,t2,trivial⟩
 obtain⟨c0,d1,To,Ao,Tp,Ap,Ti,Ai,Tj,Aj,h,r1,Tm,Am,Tu,Au,Tq,Aq,v0,v1,bf,bg,Z,av,aJ,aK,aL,a1,aM,aN⟩:=bo () al;refine AB a bf ?_;refine AB a bg ?_;refine AB a Z ?_;intro aY a6;refine .inr ?_;cases aY <;> conv=>cbv
 ·have s:=Ht a6;refine⟨fun _=>⟨by omega,by have:=C6 v1;rw[<-d] at this;omega⟩,?_⟩;intro J ay;conv=>cbv
  refine⟨r1,fun _=>by rw[d,show J=1 by omega];exact v1,?_⟩;refine AS ?_;intro R r;refine .inr ?_;cases R <;> conv=>cbv
  ·have g:=Ht r;refine⟨fun _=>⟨by omega,by have:=C6 v0;rw[<-d] at this;omega⟩,?_⟩;intro j B;conv=>cbv
   refine⟨h,fun _=>by rw[d,show j=0 by omega];exact v0,?_⟩;try conv=>cbv
   refine AB a ((aL g)) ?_;refine BH ?_;refine AB a a1 ?_;refine AB a ((aN s)) ?_;exact AE ⟨⟨rfl,rfl,rfl,rfl,rfl,rfl,rfl,rfl,rfl,rfl,rfl,rfl,rfl,rfl,rfl,rfl,rfl,rfl,rfl,rfl,rfl,rfl,trivial⟩,t2,trivial⟩
  have g:=Hu r;refine AB a ((aJ g)) ?_;refine⟨fun _=>⟨by omega,by have:=C6 v0;rw[<-d] at this;omega⟩,?_⟩;intro j B;conv=>cbv
  refine⟨h,fun _=>by rw[d,show j=0 by omega];exact v0,?_⟩;try conv=>cbv
  refine AB a ((aK g)) ?_;refine BH ?_;refine AB a a1 ?_;refine AB a ((aN s)) ?_;exact AE ⟨⟨rfl,rfl,rfl,rfl,rfl,rfl,rfl,rfl,rfl,rfl,rfl,rfl,rfl,rfl,rfl,rfl,rfl,rfl,rfl,rfl,rfl,rfl,trivial⟩,t2,trivial⟩
 have s:=Hu a6;refine AB a Z ?_;refine AB a av ?_;refine⟨fun _=>⟨by omega,by have:=C6 v1;rw[<-d] at this;omega⟩,?_⟩;intro J ay;conv=>cbv
 refine⟨r1,fun _=>by rw[d,show J=1 by omega];exact v1,?_⟩;refine AS ?_;intro R r;refine .inr ?_;cases R <;> conv=>cbv
 ·have g:=Ht r;refine⟨fun _=>⟨by omega,by have:=C6 v0;rw[<-d] at this;omega⟩,?_⟩;intro j B;conv=>cbv
  refine⟨h,fun _=>by rw[d,show j=0 by omega];exact v0,?_⟩;try conv=>cbv
  refine AB a ((aL g)) ?_;refine BH ?_;refine AB a a1 ?_;refine AB a ((aM s)) ?_;exact AE ⟨⟨rfl,rfl,rfl,rfl,rfl,rfl,rfl,rfl,rfl,rfl,rfl,rfl,rfl,rfl,rfl,rfl,rfl,rfl,rfl,rfl,rfl,rfl,trivial⟩,t2,trivial⟩
 have g:=Hu r;refine AB a ((aJ g)) ?_;refine⟨fun _=>⟨by omega,by have:=C6 v0;rw[<-d] at this;omega⟩,?_⟩;intro j B;conv=>cbv
 refine⟨h,fun _=>by rw[d,show j=0 by omega];exact v0,?_⟩;try conv=>cbv
 refine AB a ((aK g)) ?_;refine BH ?_;refine AB a a1 ?_;refine AB a ((aM s)) ?_;exact AE ⟨⟨rfl,rfl,rfl,rfl,rfl,rfl,rfl,rfl,rfl,rfl,rfl,rfl,rfl,rfl,rfl,rfl,rfl,rfl,rfl,rfl,rfl,rfl,trivial⟩,t2,trivial⟩
end Go.Abs
