/- Part 17 of a proof. Conditions: each theorem's own. -/
import Derived.Test.YtmifleedghiimaaGreatDoorRb12
import Derived.Test.YtmifleedghiimaaGreatDoorRb13
import Derived.Test.YtmifleedghiimaaGreatDoorRb15
set_option linter.all false
set_option maxHeartbeats 80000000
set_option maxRecDepth 20000
open Go.Proofs
namespace Go.Abs
open Go.RowKit
section
def UP (rv:Int) (b1:Bool) (l1:List UInt32) (b2:Bool) (l2:List UInt32):Prop:=GV b1 l1 b2 l2=true/\l1.length<=1/\l2.length=1/\b2=false/\(rv=2->b1=false/\l1.length≠0)
def FE (rv:Int) (l:LR):Prop:=∀v∈l,UP rv v.1.1 v.1.2 v.2.1 v.2.2
variable {C P AF:List Int} {L:List (el Ae)} {N i:Nat} {V:List Ex} {Vr:List Re} {X:List (el C2)} {b1 b2 c:Bool} {kd rv sd:Int} {l vl:LR} {l1 l2:List UInt32}
def FE.step (h:FE rv (l.take i)) (d:l[i]? =some ((b1,l1),b2,l2)) (b:UP rv b1 l1 b2 l2):FE rv (l.take (i+1)):=fun v a=>by
 rw[List.take_add_one,d] at a;rcases List.mem_append.1 a with a | a
 ·exact h v a
 obtain rfl:v=((b1,l1),b2,l2):=by simpa using a
 exact b
def FE.at (h:FE rv l) (a:l[i]? =some ((b1,l1),b2,l2)):UP rv b1 l1 b2 l2:=h _ (List.mem_of_getElem? a)
def wq (hk:Ej kd) (hs:∀v∈vl,v.1.2.length<=4000000/\v.2.2.length<=4000000) (d:c=true↔FE (DO kd).2.2.2.2.1 vl/\vl.length=V.length):CF 13 [.agg (cC kd P C V sd),AQ vl] (.one (.bool c)):=by
 refine AL Tryz.func13 fun E O=>?_
 obtain⟨⟨nm,ra,rb,rc,rd,re,rg⟩,g⟩:∃z:el N6,z=DO kd:=⟨_,rfl⟩
 obtain⟨Q,s⟩:=xB (MT kd);rw[<-g] at d;have d:c=true↔FE rd vl/\vl.length=V.length:=d;refine AB O (YY hk g s) ?_;refine BX [] [1,2,5,7] [2,5] (fun vs M k=>∃(i':Nat) (i:Int),vs=[AQ vl,.one (.BU 2 0 0),.one (.BU 5 0 0),AH i]/\M=[.var 0 (cC kd P C V sd),.var 0 [.str nm,.int .i64 ra,.int .i64 rb,.int .i64 rc,.int .i64 rd,.int .i64 re,.bool rg]]/\(AZ i i'/\i'<=vl.length)/\FE rd (vl.take i')/\k=vl.length-i') (vl.length-0) ⟨0,0,rfl,rfl,⟨BM 0,AA⟩,fun v h=>by simp at h,rfl⟩ ?_;rintro J0 p vs M a5 ⟨i',i,rfl,rfl,⟨hi,a1⟩,hinv,a2⟩;have ei:=hi.eq;refine Af ?_;rintro a6 ⟨S,f16⟩;refine Bi (fun F=>?_) fun F=>?_
 ·rintro ab ⟨Y,f78⟩ ad ⟨Z,f81⟩ ae D;exact AO (by rw[Bool.eq_iff_iff,d,D,beq_iff_eq];exact⟨fun q=>by have:=q.2;omega,fun q=>⟨fun v hv=>hinv v (by rw[List.take_of_length_le AA];exact hv),AA⟩⟩)
 refine .inr ?_;refine BA i' fun K a=>?_
 try conv=>cbv
 obtain⟨⟨b1,l1⟩,b2,l2⟩:=K;obtain⟨R,b⟩:=xB (GV b1 l1 b2 l2);have u:=hs _ (List.mem_of_getElem? a);refine AB O (Yt b u.1 u.2) ?_;refine IH (fun f=>?_) fun f=>?_
 ·exact AO (Bool.eq_false_iff.2 fun z=>by obtain⟨m,x,y,n,o⟩:=FE.at (d.1 z).1 a;rw[<-b,f] at m;exact Bool.noConfusion m)
 refine CJ a ?_;rintro a7 ⟨T,f33⟩;refine Eb (fun G=>?_) fun G=>?_
 ·exact AO (Bool.eq_false_iff.2 fun z=>by obtain⟨m,x,y,n,o⟩:=FE.at (d.1 z).1 a;omega)
 refine CJ a ?_;rintro a8 ⟨U,f43⟩;refine HY (fun H=>?_) fun H=>?_
 ·exact AO (Bool.eq_false_iff.2 fun z=>by obtain⟨m,x,y,n,o⟩:=FE.at (d.1 z).1 a;first | omega | exact Bool.noConfusion n)
 refine CJ a ?_;cases b2 <;> conv=>cbv
 ·refine Cw (fun I=>?_) fun I=>?_
  ·intro j B;exact Bj p ⟨i'+1,j,rfl,rfl,⟨⟨AA⟩,AA⟩,hinv.step a ⟨b.symm.trans f,AA,AA,rfl,fun h=>absurd h AA⟩,rfl⟩
  refine CJ a ?_;cases b1 <;> conv=>cbv
  ·refine CJ a ?_;rintro aa ⟨W,f72⟩;refine BY (fun J=>?_) fun J=>?_
   ·exact AO (Bool.eq_false_iff.2 fun z=>by obtain⟨m,x,y,n,o⟩:=FE.at (d.1 z).1 a;have q6:=o AA;omega)
   intro j B;exact Bj p ⟨i'+1,j,rfl,rfl,⟨⟨AA⟩,AA⟩,hinv.step a ⟨b.symm.trans f,AA,AA,rfl,fun _=>⟨rfl,AA⟩⟩,rfl⟩
  exact AO (Bool.eq_false_iff.2 fun z=>by obtain⟨m,x,y,n,o⟩:=FE.at (d.1 z).1 a;exact Bool.noConfusion (o AA).1)
 exact AO (Bool.eq_false_iff.2 fun z=>by obtain⟨m,x,y,n,o⟩:=FE.at (d.1 z).1 a;first | omega | exact Bool.noConfusion n)
def iO (x:Re):Bv (-x)= -Bv x:=by
 rcases Gz x with⟨a,b⟩ |⟨a,b⟩ |⟨a,b⟩
 ·rw[b,JG (by grind)];rfl
 ·rw[b,a,show -(0:Re)=0 by grind,Ht];rfl
 rw[b,Lf (by grind)]
noncomputable def Mc (n:Nu):Nu:=if Bv n.2=0 then ([],Re.ofRat ((1:Int):Rat)) else (n.1,EG n.2)
noncomputable def Kx (ns:List Nu) (AE:Int) (W:List UInt8) (i:Nat):Nu:=if (i:Int)<2*AE then E6 ns (W.getD i 0).toNat else Mc (E6 ns (W.getD i 0).toNat)
noncomputable def HN (ns:List Nu) (AE:Int) (W:List UInt8) (k:Nat):List Nu:=(List.range k).map (Kx ns AE W)
def o5 (ns:List Nu) (AE:Int) (W:List UInt8) (k:Nat):HN ns AE W (k+1)=HN ns AE W k++[Kx ns AE W k]:=by
 unfold HN;rw[List.range_succ,List.map_append];rfl
def VL (ns:List Nu) (AE:Int) (W:List UInt8) (k:Nat):(HN ns AE W k).length=k:=by unfold HN;rw[List.length_map,List.length_range]
structure ON (ns:List Nu) (kd sd AE:Int) (P C:List Int) (V:List Ex) (vl:LR) (AF:List Int) (W:List UInt8):Prop where
 p0:0<=AE
 p8:AE<=8
 c3:AF.length<=3
 len:(W.length:Int)=2*AE+(AF.length:Nat)
 va:Hx kd P C V sd AE (AF.length:Nat)
 sh:FE (DO kd).2.2.2.2.1 vl/\vl.length=V.length
 ne:ns≠[]
 cw:Eg AE AF=true
 low:∀(i:Nat) (x:UInt8),W[i]? =some x->(E6 ns x.toNat).1.length<=1
def yv {n x:Int} {l:List Int} (h:Eg n (l.take i)=true) (d:l[i]? =some x) (a:0<=x) (b:x<n):Eg n (l.take (i+1))=true:=by
 rw[List.take_add_one,d];unfold Eg at h ⊢;rw[List.all_append,h];simp[a,b]
def PU {ns:List Nu} {W:List UInt8} {x:UInt8} (h:∀(j:Nat) (x:UInt8),j<i->W[j]? =some x->(E6 ns x.toNat).1.length<=1) (d:W[i]? =some x) (b:(E6 ns x.toNat).1.length<=1):∀(j:Nat) (x:UInt8),j<i+1->W[j]? =some x->(E6 ns x.toNat).1.length<=1:=fun j y f a=>by
 by_cases e:j=i
 ·subst e;rw[<-Option.some.inj (d.symm.trans a)];exact b
 exact h j y AA a
def aV {ns:List Nu} {AE:Int} {W:List UInt8} {x:UInt8} (a:W[i]? =some x) (h:(i:Int)<2*AE):Kx ns AE W i=E6 ns x.toNat:=by
 unfold Kx;rw[if_pos h,List.getD_eq_getElem?_getD,a];rfl
def Ov {ns:List Nu} {AE:Int} {W:List UInt8} {x:UInt8} (a:W[i]? =some x) (h:¬(i:Int)<2*AE):Kx ns AE W i=Mc (E6 ns x.toNat):=by
 unfold Kx;rw[if_neg h,List.getD_eq_getElem?_getD,a];rfl
def PY {ns:List Nu} {AE:Int} {W:List UInt8} {l o:List (el Ae)} {n:Nu} (h:o=(HN ns AE W i).map nm) (a:l=o++[nm n]) (b:Kx ns AE W i=n):l=(HN ns AE W (i+1)).map nm:=by
 rw[o5,List.map_append,<-h,a,b];rfl
def kf {AE:Int} {W:List UInt8} {ns:List Nu} (hk:Ej kd) (bq:Ej AE) (hN:N<=1048576) (hV:∀(i:Nat) (e:Ex),V[i]? =some e->Gl N e) (hs:∀v∈vl,v.1.2.length<=4000000/\v.2.2.length<=4000000) (aH:ns=(runN (X.take 24)).1) (M:Vr.length<=3) (F:∀n∈ns,DA Vr n) (hc:c=true↔ON ns kd sd AE P C V vl AF W) (J:L=if c=true then (HN ns AE W W.length).map nm else []) {ln:Nat} (I:ln=L.length):CF 4 [.agg [.int .i64 kd,.sl .i64 P,.sl .i64 C,.sl .ex V,.int .i64 sd,AT vl,.sl .i64 AF,.int .i64 AE,.sl C2 X,.sl .u8 W]] (.BI [(false,[.own Ae L ln]),(false,[.bool c])]):=by
 refine AL Tryz.func4 fun E hE=>?_
 obtain⟨Ln,ae⟩:∃z:List (el Ae),z=ns.map nm:=⟨_,rfl⟩
 have al:Ln.length=ns.length:=by rw[ae,List.length_map]
 refine AB (r:= .one (.sl Ae Ln)) hE (lu (by rw[ae,aH])) ?_;refine Dk (fun aI=>?_) fun aI=>?_
 ·have a:c=false:=Bool.eq_false_iff.2 fun z=>by have q:=hc.1 z;have:=q.p0;omega
  exact AN ⟨⟨rfl,.inr (.inr ⟨_,Dm (by rw[J,a];rfl) (by rw[I,J,a];rfl)⟩),trivial⟩,⟨rfl,congrArg _ (a),trivial⟩,trivial⟩
 refine Eb (fun aJ=>?_) fun aJ=>?_
 ·have a:c=false:=Bool.eq_false_iff.2 fun z=>by have q:=hc.1 z;have:=q.p8;omega
  exact AN ⟨⟨rfl,.inr (.inr ⟨_,Dm (by rw[J,a];rfl) (by rw[I,J,a];rfl)⟩),trivial⟩,⟨rfl,congrArg _ (a),trivial⟩,trivial⟩
 intro bt ar;have b7:=ar.eq;have f23:=ar.le;refine Eb (fun aK=>?_) fun aK=>?_
 ·have a:c=false:=Bool.eq_false_iff.2 fun z=>by have q:=hc.1 z;have:=q.c3;omega
  exact AN ⟨⟨rfl,.inr (.inr ⟨_,Dm (by rw[J,a];rfl) (by rw[I,J,a];rfl)⟩),trivial⟩,⟨rfl,congrArg _ (a),trivial⟩,trivial⟩
 rintro bu ⟨b8,f29⟩ bw bf bx ⟨b9,f35⟩ bz bg;refine HY (fun aL=>?_) fun aL=>?_
 ·have a:c=false:=Bool.eq_false_iff.2 fun z=>by have q:=hc.1 z;have:=q.len;omega
  exact AN ⟨⟨rfl,.inr (.inr ⟨_,Dm (by rw[J,a];rfl) (by rw[I,J,a];rfl)⟩),trivial⟩,⟨rfl,congrArg _ (a),trivial⟩,trivial⟩
 intro aR au;have ba:=au.eq;have f46:=au.le;obtain⟨aE,a7⟩:=Es (Hx kd P C V sd AE (AF.length:Nat));refine AB (r:= .one (.bool aE)) hE (lh hk hN hV (by rw[(AA:aR=((AF.length:Nat):Int))];exact a7)) ?_;refine IH (fun ao=>?_) fun ao=>?_
 ·have a:c=false:=Bool.eq_false_iff.2 fun z=>by have q:=hc.1 z;exact Bool.noConfusion (ao.symm.trans (a7.2 q.va))
  exact AN ⟨⟨rfl,.inr (.inr ⟨_,Dm (by rw[J,a];rfl) (by rw[I,J,a];rfl)⟩),trivial⟩,⟨rfl,congrArg _ (a),trivial⟩,trivial⟩
 obtain⟨b6,a8⟩:=Es (FE (DO kd).2.2.2.2.1 vl/\vl.length=V.length);refine AB hE (wq hk hs a8) ?_;refine IH (fun aq=>?_) fun aq=>?_
 ·have a:c=false:=Bool.eq_false_iff.2 fun z=>by have q:=hc.1 z;exact Bool.noConfusion (aq.symm.trans (a8.2 q.sh))
  exact AN ⟨⟨rfl,.inr (.inr ⟨_,Dm (by rw[J,a];rfl) (by rw[I,J,a];rfl)⟩),trivial⟩,⟨rfl,congrArg _ (a),trivial⟩,trivial⟩
 refine AB hE (lk ae fun n hn=>⟨(F n hn).cos,(F n hn).KV⟩) ?_;refine BG ?_;rintro bA ⟨bb,f65⟩;refine BY (fun aM=>?_) fun aM=>?_
 ·have a:c=false:=Bool.eq_false_iff.2 fun z=>by have q:=hc.1 z;exact q.ne (List.eq_nil_of_length_eq_zero (by have:=al;omega))
  exact AN ⟨⟨rfl,.inr (.inr ⟨_,Dm (by rw[J,a];rfl) (by rw[I,J,a];rfl)⟩),trivial⟩,⟨rfl,congrArg _ (a),trivial⟩,trivial⟩
 refine BX [] [1,4,5] [1] (fun vs bl k=>∃(i':Nat) (i:Int),vs=[.one (.BU 1 0 0),.one (.sl Ae Ln),AH i]/\bl=[.var 0 [.int .i64 kd,.sl .i64 P,.sl .i64 C,.sl .ex V,.int .i64 sd,AT vl,.sl .i64 AF,.int .i64 AE,.sl C2 X,.sl .u8 W]]/\(AZ i i'/\i'<=AF.length)/\(0<=AE/\AE<=8/\AF.length<=3/\(W.length:Int)=2*AE+(AF.length:Nat)/\Hx kd P C V sd AE (AF.length:Nat)/\(FE (DO kd).2.2.2.2.1 vl/\vl.length=V.length)/\ns≠[])/\Eg AE (AF.take i')=true/\k=AF.length-i') (AF.length-0) ⟨0,0,rfl,rfl,⟨BM 0,AA⟩,⟨AA,AA,AA,AA,a7.1 ao,a8.1 aq,fun z=>by rw[z] at al;have h0:Ln.length=0:=al;omega⟩,rfl,rfl⟩ ?_;rintro J0 aF vs bl br ⟨i',i,rfl,rfl,⟨hi,bk⟩,b,a1,bn⟩;conv=>cbv
 have ei:=hi.eq;have ax:=b.2.2.2.2.2.2;rintro bB ⟨bc,f71⟩;conv=>cbv
 refine Dk (fun aN=>?_) fun aN=>?_
 ·refine .inr ?_;refine BA i' fun bD Y=>?_
  try conv=>cbv
  refine Dk (fun aO=>?_) fun aO=>?_
  ·have a:c=false:=Bool.eq_false_iff.2 fun z=>by have q:=hc.1 z;have:=OG q.cw Y;omega
   exact AN ⟨⟨rfl,.inr (.inr ⟨_,Dm (by rw[J,a];rfl) (by rw[I,J,a];rfl)⟩),trivial⟩,⟨rfl,congrArg _ (a),trivial⟩,trivial⟩
  refine CJ Y ?_;intro aT av;cases aT <;> conv=>cbv
  ·have aP:=NT av;refine AM ?_;intro aS bh;exact Bj aF ⟨i'+1,aS,rfl,rfl,⟨⟨AA⟩,AA⟩,b,yv a1 Y AA AA,rfl⟩
  have aP:=NU av;have a:c=false:=Bool.eq_false_iff.2 fun z=>by have q:=hc.1 z;have:=OG q.cw Y;omega
  exact AN ⟨⟨rfl,.inr (.inr ⟨_,Dm (by rw[J,a];rfl) (by rw[I,J,a];rfl)⟩),trivial⟩,⟨rfl,congrArg _ (a),trivial⟩,trivial⟩
 refine BX [(6,Ae,true)] [1,4,6,7] [1,6] (fun vs bl k=>∃(o:List (el Ae)) (m U:Nat) (j:Int),vs=[.one (.BU 1 0 0),.one (.sl Ae Ln),.one (.Aj Ae 6 0 0 m),AH j]/\bl=[.var 0 [.int .i64 kd,.sl .i64 P,.sl .i64 C,.sl .ex V,.int .i64 sd,AT vl,.sl .i64 AF,.int .i64 AE,.sl C2 X,.sl .u8 W],.arr 0 Ae o]/\(AZ j U/\U<=W.length/\m=o.length)/\o=(HN ns AE W U).map nm/\(∀(i:Nat) (x:UInt8),i<U->W[i]? =some x->(E6 ns x.toNat).1.length<=1)/\k=W.length-U) (W.length-0) ⟨[],0,0,0,rfl,rfl,⟨BM 0,AA,rfl⟩,rfl,fun i x h=>absurd h (Nat.not_lt_zero i),rfl⟩ ?_;rintro J1 a6 vs bl bs ⟨o,m,U,j,rfl,rfl,⟨hj,bm,hm⟩,u,D,bo⟩;conv=>cbv
 have ej:=hj.eq;have bp:o.length=U:=by rw[u,List.length_map,VL]
 have a1:Eg AE (AF.take AF.length)=true:=by have h9:=a1;rw[List.take_of_length_le AA] at h9;rw[List.take_length];exact h9
 have aY:W.length<=19:=by have:=b;omega
 rintro bC ⟨bd,f94⟩;conv=>cbv
 refine Bi (fun aQ=>?_) fun aQ=>?_
 ·exact AN ⟨⟨rfl,.inr (.inl ⟨_,_,AD,rfl,rfl,hm,rfl,Dm (by rw[J,hc.2 ⟨b.1,b.2.1,b.2.2.1,b.2.2.2.1,b.2.2.2.2.1,b.2.2.2.2.2.1,b.2.2.2.2.2.2,by rw[show AF=AF.take AF.length from (List.take_length).symm];exact a1,fun i x hx=>D i x (by have:=EX hx;omega) hx⟩,if_pos rfl,(AA:W.length=U),<-u]) (by rw[I,J,hc.2 ⟨b.1,b.2.1,b.2.2.1,b.2.2.2.1,b.2.2.2.2.1,b.2.2.2.2.2.1,b.2.2.2.2.2.2,by rw[show AF=AF.take AF.length from (List.take_length).symm];exact a1,fun i x hx=>D i x (by have:=EX hx;omega) hx⟩,if_pos rfl,(AA:W.length=U),<-u])⟩),trivial⟩,⟨rfl,congrArg _ (by have aG:=hc.2 ⟨b.1,b.2.1,b.2.2.1,b.2.2.2.1,b.2.2.2.2.1,b.2.2.2.2.2.1,b.2.2.2.2.2.2,by rw[show AF=AF.take AF.length from (List.take_length).symm];exact a1,fun i x hx=>D i x (by have:=EX hx;omega) hx⟩;exact aG),trivial⟩,trivial⟩
 refine .inr ?_;refine BA U fun ak g=>?_
 refine Af ?_;intro aZ ag b0 ah;have aU:=ag.eq;have f103:=ag.lt;have ah:=wrap_i64 ah;obtain⟨Q,B⟩:∃z:Nu,z=E6 ns ak.toNat:=⟨_,rfl⟩
 have a2:Q∈ns:=by rw[B];exact Rx ax _
 have af:=((F _ a2).el M).mono (by decide:512<=Rm);obtain⟨T5,K⟩:=Jo (tw Q.1);obtain⟨A5,Z⟩:=D8 (em Q.1 Q.2);have bj:T5.length=Q.1.length:=by rw[K,tw,List.length_map,List.length_reverse]
 refine AB hE (ll ae ax (i':=ak.toNat) ⟨AA⟩ B K Z) ?_;rintro b3 ⟨aW,f108⟩;refine Eb (fun ay=>?_) fun ay=>?_
 ·have a:c=false:=Bool.eq_false_iff.2 fun z=>by have q:=hc.1 z;have:=q.low _ _ g;rw[<-B] at this;omega
  exact AN ⟨⟨rfl,.inr (.inr ⟨_,Dm (by rw[J,a];rfl) (by rw[I,J,a];rfl)⟩),trivial⟩,⟨rfl,congrArg _ (a),trivial⟩,trivial⟩
 intro b4 aX aB ai;refine .inr ?_;cases aB <;> conv=>cbv
 ·have az:=NT ai;refine⟨[(T5,A5)],Cj,.inl ?_⟩;try conv=>cbv
  refine .inl ⟨[(T5,A5)],fun _=>⟨rfl,by (first | rfl | omega),⟨_,rfl,by simp <;> omega,AS⟩,Ck (o.length+1) 48⟩,?_⟩;intro (d:List (el Ae)) y f;have p:d=(o:List (el Ae))++([(T5,A5)]:List (el Ae)):=f.1;have s:y=List.length (α:=(el Ae)) d:=f.2;refine AM ?_;intro O ad;exact Bj a6 ⟨d,_,U+1,O,rfl,rfl,⟨⟨AA⟩,AA,s⟩,PY (n:=Q) u (p.trans (by rw[Z,K];rfl)) ((aV g AA).trans B.symm),PU D g (by rw[<-B];omega),rfl⟩
 have az:=NU ai;obtain⟨b5,an⟩:=xI (Bv Q.2);refine AB hE (Mx (IV M F (Nat.le_refl Rm)) (GK M F a2) K Z af an) ?_;intro aC aj;refine .inr ?_;cases aC <;> conv=>cbv
 ·have aA:=EY aj;obtain⟨aD,T⟩:=xI (Bv Q.2);refine AB hE (Mx (IV M F (Nat.le_refl Rm)) (GK M F a2) K Z af T) ?_;intro ab R;refine .inr ?_;cases ab <;> conv=>cbv
  ·have aa:=CI R;refine⟨[(T5,A5)],Cj,.inl ?_⟩;try conv=>cbv
   refine .inl ⟨[(T5,A5)],fun _=>⟨rfl,by (first | rfl | omega),⟨_,rfl,by simp <;> omega,AS⟩,Ck (o.length+1) 48⟩,?_⟩;intro (d:List (el Ae)) y f;have p:d=(o:List (el Ae))++([(T5,A5)]:List (el Ae)):=f.1;have s:y=List.length (α:=(el Ae)) d:=f.2;refine AM ?_;intro O ad;exact Bj a6 ⟨d,_,U+1,O,rfl,rfl,⟨⟨AA⟩,AA,s⟩,PY (n:=((Q.1,Q.2):Nu)) u (p.trans (by rw[Z,K];rfl)) ((Ov g AA).trans (by rw[<-B];unfold Mc EG;rw[if_neg AA,if_neg (iM AA)])),PU D g (by rw[<-B];omega),rfl⟩
  have aa:=CL R;obtain⟨G,H⟩:=D8 (em [] (Re.ofRat ((1:Int):Rat)));refine AB hE (Ko AD H) ?_;refine⟨[(([]:List LR),G)],Cj,.inl ?_⟩;try conv=>cbv
  refine .inl ⟨[(([]:List LR),G)],fun _=>⟨rfl,by (first | rfl | omega),⟨_,rfl,by simp <;> omega,AS⟩,Ck (o.length+1) 48⟩,?_⟩;intro (d:List (el Ae)) y f;have p:d=(o:List (el Ae))++([(([]:List LR),G)]:List (el Ae)):=f.1;have s:y=List.length (α:=(el Ae)) d:=f.2;refine AM ?_;intro O ad;exact Bj a6 ⟨d,_,U+1,O,rfl,rfl,⟨⟨AA⟩,AA,s⟩,PY (n:=(([],Re.ofRat ((1:Int):Rat)):Nu)) u (p.trans (by rw[H];rfl)) ((Ov g AA).trans (by rw[<-B];unfold Mc;rw[if_pos (by first | omega | (have:=iO Q.2;omega))])),PU D g (by rw[<-B];omega),rfl⟩
 have aA:=EZ aj;obtain⟨a5,S⟩:=D8 (em Q.1 (-Q.2));have aw:=iN (by omega:Bv Q.2<0);refine AB hE (QU (IV M F (Nat.le_refl Rm)) (GK M F a2) K Z af S) ?_;obtain⟨aD,T⟩:=xI (Bv (-Q.2));refine AB hE (Mx (IV M F (Nat.le_refl Rm)) (GK M F a2) K S (af.neg (F _ a2).red) T) ?_;intro ab R;refine .inr ?_;cases ab <;> conv=>cbv
 ·have aa:=CI R;refine⟨[(T5,a5)],Cj,.inl ?_⟩;try conv=>cbv
  refine .inl ⟨[(T5,a5)],fun _=>⟨rfl,by (first | rfl | omega),⟨_,rfl,by simp <;> omega,AS⟩,Ck (o.length+1) 48⟩,?_⟩;intro (d:List (el Ae)) y f;have p:d=(o:List (el Ae))++([(T5,a5)]:List (el Ae)):=f.1;have s:y=List.length (α:=(el Ae)) d:=f.2;refine AM ?_;intro O ad;exact Bj a6 ⟨d,_,U+1,O,rfl,rfl,⟨⟨AA⟩,AA,s⟩,PY (n:=((Q.1,-Q.2):Nu)) u (p.trans (by rw[S,K];rfl)) ((Ov g AA).trans (by rw[<-B];unfold Mc EG;rw[if_neg AA,if_pos aw])),PU D g (by rw[<-B];omega),rfl⟩
 have aa:=CL R;obtain⟨G,H⟩:=D8 (em [] (Re.ofRat ((1:Int):Rat)));refine AB hE (Ko AD H) ?_;refine⟨[(([]:List LR),G)],Cj,.inl ?_⟩;try conv=>cbv
 refine .inl ⟨[(([]:List LR),G)],fun _=>⟨rfl,by (first | rfl | omega),⟨_,rfl,by simp <;> omega,AS⟩,Ck (o.length+1) 48⟩,?_⟩;intro (d:List (el Ae)) y f;have p:d=(o:List (el Ae))++([(([]:List LR),G)]:List (el Ae)):=f.1;have s:y=List.length (α:=(el Ae)) d:=f.2;refine AM ?_;intro O ad;exact Bj a6 ⟨d,_,U+1,O,rfl,rfl,⟨⟨AA⟩,AA,s⟩,PY (n:=(([],Re.ofRat ((1:Int):Rat)):Nu)) u (p.trans (by rw[H];rfl)) ((Ov g AA).trans (by rw[<-B];unfold Mc;rw[if_pos (by first | omega | (have:=iO Q.2;omega))])),PU D g (by rw[<-B];omega),rfl⟩
def ke {AE:Int} {W:List UInt8} {ns:List Nu} (k:Ej kd) (f:Ej AE) (h:N<=1048576) (hV:∀(i:Nat) (e:Ex),V[i]? =some e->Gl N e) (m:∀v∈vl,v.1.2.length<=4000000/\v.2.2.length<=4000000) (b:ns=(runN (X.take 24)).1) (a:Vr.length<=3) (d:∀n∈ns,DA Vr n) (j:c=true↔ON ns kd sd AE P C V vl AF W) (g:L=if c=true then (HN ns AE W W.length).map nm else []):CF 4 [.agg [.int .i64 kd,.sl .i64 P,.sl .i64 C,.sl .ex V,.int .i64 sd,AT vl,.sl .i64 AF,.int .i64 AE,.sl C2 X,.sl .u8 W]] (.BI [(false,[.sl Ae L]),(false,[.bool c])]):=
 (kf k f h hV m b a d j g rfl).yu
end
section
def Eh (T:List LR) (A:LR):Prop:=A=[]\/∃B,CF 84 [.agg [Ao T,AT A]] (.agg [Ao T,AT B])/\CF 84 [.agg [Ao T,AT B]] (.agg [Ao T,AT A])
variable {A A0 A1 A2 A3 A4 A5 A6 A7 A8 A9 Aa vl:LR} {C P AF:List Int} {T0 T1 T2 T3 T4 T5 T6 T7 T8 T9 Ta:List LR} {V:List Ex} {b1 b2:Bool} {cr:List (el Ae)} {k1 kd AE sd t:Int} {l1 l2:List UInt32} {r:Rat}
def Eh.get {T:List LR} (h:Eh T A) (a:0<A.length):∃B,CF 84 [.agg (AY T A)] (.agg (AY T B))/\CF 84 [.agg (AY T B)] (.agg (AY T A)):=
 h.resolve_left fun e=>by rw[e] at a;exact absurd a AS
def Mb (h:C4 r):El [] Rm (Re.ofRat r):=El.rat (show BE ([]:AG) from trivial) ((Oi (a:=[r]) (fun z b=>by rw[List.mem_singleton.1 b];exact h)).mono (AD:64*1<=Rm))
abbrev YO:AG->Prop:=Tf (PN [])
def bz {S:Nat} (a:Rm<=S) (b:S<=Sm):EA YO Rm Cm S:=IV (V:=[]) (ns:=[]) AD (fun n d=>by simp at d) a b
def g0:EA YO Rm Cm Rm:=bz (Nat.le_refl Rm) AD
def Wa (h:C4 r) (a:A=em [] (Re.ofRat r)):Eh [] A:=
 .inr ⟨em [] (-(Re.ofRat r)),UM g0.toGam g0.nil rfl a (Mb h) rfl,UM g0.toGam g0.nil rfl rfl ((Mb h).neg (show BE ([]:AG) from trivial)) (by rw[a,show- -(Re.ofRat r)=Re.ofRat r by grind])⟩
def VY {B:LR} {s:Rat} (h:C4 r) (a:C4 s) (b:A=em [] (Re.ofRat r)) (d:B=em [] (Re.ofRat s)) {c:Bool} (f:c=true↔Re.ofRat r=Re.ofRat s):CF 20 [.agg (AY [] A),.agg (AY [] B)] (.one (.bool c)):=
 Yq g0 g0.nil g0.nil rfl rfl b d (Mb h) (Mb a) (bz (S:=2*(Rm+Cm)+1) AD AD) Bg f
def Gd (T:List LR):Eh T []:= .inl rfl
abbrev Fi (k1:Int) (T0:List LR) (A0:LR) (T1:List LR) (A1:LR) (T2:List LR) (A2:LR) (T3:List LR) (A3:LR) (T4:List LR) (A4:LR) (T5:List LR) (A5:LR) (T6:List LR) (A6:LR) (T7:List LR) (A7:LR) (T8:List LR) (A8:LR) (T9:List LR) (A9:LR):List AC:=[.int .i64 k1,.sl (.sl AJ) T0,.sl AJ A0,.sl (.sl AJ) T1,.sl AJ A1,.sl (.sl AJ) T2,.sl AJ A2,.sl (.sl AJ) T3,.sl AJ A3,.sl (.sl AJ) T4,.sl AJ A4,.sl (.sl AJ) T5,.sl AJ A5,.sl (.sl AJ) T6,.sl AJ A6,.sl (.sl AJ) T7,.sl AJ A7,.sl (.sl AJ) T8,.sl AJ A8,.sl (.sl AJ) T9,.sl AJ A9]
def pI (h:Eh T3 A3):Bp Tryz.prog 83 [.one (.BU 0 0 7)] (.var 0 (Fi k1 T0 A0 T1 A1 T2 A2 T3 A3 T4 A4 T5 A5 T6 A6 T7 A7 T8 A8 T9 A9)) (.BI []) (.var 0 (Fi k1 T0 A0 T1 A1 T2 A2 T3 A3 T4 A4 T5 A5 T6 A6 T7 A7 T8 A8 T9 A9)):=by
 refine CM Tryz.func83 (by kernel_rfl) rfl fun E f=>?_
 refine Af ?_;rintro n ⟨m,f6⟩ k d;refine .inr ?_;cases k <;> conv=>cbv
 ·have j:=Gs d;refine AK
 have j:=Gt d;obtain⟨g,a,b⟩:=h.get AA;refine AB f a ?_;refine AB f b ?_;refine AK
def pJ (h:Eh T4 A4):Bp Tryz.prog 83 [.one (.BU 0 0 9)] (.var 0 (Fi k1 T0 A0 T1 A1 T2 A2 T3 A3 T4 A4 T5 A5 T6 A6 T7 A7 T8 A8 T9 A9)) (.BI []) (.var 0 (Fi k1 T0 A0 T1 A1 T2 A2 T3 A3 T4 A4 T5 A5 T6 A6 T7 A7 T8 A8 T9 A9)):=by
 refine CM Tryz.func83 (by kernel_rfl) rfl fun E f=>?_
 refine Af ?_;rintro n ⟨m,f6⟩ k d;refine .inr ?_;cases k <;> conv=>cbv
 ·have j:=Gs d;refine AK
 have j:=Gt d;obtain⟨g,a,b⟩:=h.get AA;refine AB f a ?_;refine AB f b ?_;refine AK
def pK (h:Eh T5 A5):Bp Tryz.prog 83 [.one (.BU 0 0 11)] (.var 0 (Fi k1 T0 A0 T1 A1 T2 A2 T3 A3 T4 A4 T5 A5 T6 A6 T7 A7 T8 A8 T9 A9)) (.BI []) (.var 0 (Fi k1 T0 A0 T1 A1 T2 A2 T3 A3 T4 A4 T5 A5 T6 A6 T7 A7 T8 A8 T9 A9)):=by
 refine CM Tryz.func83 (by kernel_rfl) rfl fun E f=>?_
 refine Af ?_;rintro n ⟨m,f6⟩ k d;refine .inr ?_;cases k <;> conv=>cbv
 ·have j:=Gs d;refine AK
 have j:=Gt d;obtain⟨g,a,b⟩:=h.get AA;refine AB f a ?_;refine AB f b ?_;refine AK
def pL (h:Eh T6 A6):Bp Tryz.prog 83 [.one (.BU 0 0 13)] (.var 0 (Fi k1 T0 A0 T1 A1 T2 A2 T3 A3 T4 A4 T5 A5 T6 A6 T7 A7 T8 A8 T9 A9)) (.BI []) (.var 0 (Fi k1 T0 A0 T1 A1 T2 A2 T3 A3 T4 A4 T5 A5 T6 A6 T7 A7 T8 A8 T9 A9)):=by
 refine CM Tryz.func83 (by kernel_rfl) rfl fun E f=>?_
 refine Af ?_;rintro n ⟨m,f6⟩ k d;refine .inr ?_;cases k <;> conv=>cbv
 ·have j:=Gs d;refine AK
 have j:=Gt d;obtain⟨g,a,b⟩:=h.get AA;refine AB f a ?_;refine AB f b ?_;refine AK
def pM (h:Eh T7 A7):Bp Tryz.prog 83 [.one (.BU 0 0 15)] (.var 0 (Fi k1 T0 A0 T1 A1 T2 A2 T3 A3 T4 A4 T5 A5 T6 A6 T7 A7 T8 A8 T9 A9)) (.BI []) (.var 0 (Fi k1 T0 A0 T1 A1 T2 A2 T3 A3 T4 A4 T5 A5 T6 A6 T7 A7 T8 A8 T9 A9)):=by
 refine CM Tryz.func83 (by kernel_rfl) rfl fun E f=>?_
 refine Af ?_;rintro n ⟨m,f6⟩ k d;refine .inr ?_;cases k <;> conv=>cbv
 ·have j:=Gs d;refine AK
 have j:=Gt d;obtain⟨g,a,b⟩:=h.get AA;refine AB f a ?_;refine AB f b ?_;refine AK
def pN (h:Eh T8 A8):Bp Tryz.prog 83 [.one (.BU 0 0 17)] (.var 0 (Fi k1 T0 A0 T1 A1 T2 A2 T3 A3 T4 A4 T5 A5 T6 A6 T7 A7 T8 A8 T9 A9)) (.BI []) (.var 0 (Fi k1 T0 A0 T1 A1 T2 A2 T3 A3 T4 A4 T5 A5 T6 A6 T7 A7 T8 A8 T9 A9)):=by
 refine CM Tryz.func83 (by kernel_rfl) rfl fun E f=>?_
 refine Af ?_;rintro n ⟨m,f6⟩ k d;refine .inr ?_;cases k <;> conv=>cbv
 ·have j:=Gs d;refine AK
 have j:=Gt d;obtain⟨g,a,b⟩:=h.get AA;refine AB f a ?_;refine AB f b ?_;refine AK
def pO (h:Eh T9 A9):Bp Tryz.prog 83 [.one (.BU 0 0 19)] (.var 0 (Fi k1 T0 A0 T1 A1 T2 A2 T3 A3 T4 A4 T5 A5 T6 A6 T7 A7 T8 A8 T9 A9)) (.BI []) (.var 0 (Fi k1 T0 A0 T1 A1 T2 A2 T3 A3 T4 A4 T5 A5 T6 A6 T7 A7 T8 A8 T9 A9)):=by
 refine CM Tryz.func83 (by kernel_rfl) rfl fun E f=>?_
 refine Af ?_;rintro n ⟨m,f6⟩ k d;refine .inr ?_;cases k <;> conv=>cbv
 ·have j:=Gs d;refine AK
 have j:=Gt d;obtain⟨g,a,b⟩:=h.get AA;refine AB f a ?_;refine AB f b ?_;refine AK
def SK (j:Eh T3 A3) (n:Eh T4 A4) (o:Eh T5 A5) (p:Eh T6 A6) (q:Eh T7 A7) (s:Eh T8 A8) (u:Eh T9 A9):CF 27 [.agg (Fi k1 T0 A0 T1 A1 T2 A2 T3 A3 T4 A4 T5 A5 T6 A6 T7 A7 T8 A8 T9 A9)] (.agg (Fi k1 T0 A0 T1 A1 T2 A2 T3 A3 T4 A4 T5 A5 T6 A6 T7 A7 T8 A8 T9 A9)):=by
 refine AL Tryz.func27 fun E g=>?_
 refine⟨fun _=>⟨rfl,AD,rfl⟩,?_⟩;try conv=>cbv
 intro v h;obtain rfl:v=7:=h.eq;conv=>cbv
 refine BX [] [1,2,3,22,23,24] [1,2] (fun vs x k=>∃(i m:Int),(i=0/\m=7\/i=1/\m=6\/i=2/\m=5\/i=3/\m=4\/i=4/\m=3\/i=5/\m=2\/i=6/\m=1\/i=7/\m=0)/\vs=[.one (.BU 1 0 0),.one (.BU 2 0 0),.one (.fn 83),.one (.LX [(1,0,7),(1,0,9),(1,0,11),(1,0,13),(1,0,15),(1,0,17),(1,0,19)]),AH 7,AH i]/\x=[.var 0 (Fi k1 T0 A0 T1 A1 T2 A2 T3 A3 T4 A4 T5 A5 T6 A6 T7 A7 T8 A8 T9 A9),.var 0 [.int .i64 0,.nil,.nil,.nil,.nil,.nil,.nil,.nil,.nil,.nil,.nil,.nil,.nil,.nil,.nil,.nil,.nil,.nil,.nil,.nil,.nil]]/\k=m.toNat) 7 ⟨0,7,.inl ⟨rfl,rfl⟩,rfl,rfl,rfl⟩ ?_;rintro B b vs x z y;rcases y with⟨_,_,⟨rfl,rfl⟩ |⟨rfl,rfl⟩ |⟨rfl,rfl⟩ |⟨rfl,rfl⟩ |⟨rfl,rfl⟩ |⟨rfl,rfl⟩ |⟨rfl,rfl⟩ |⟨rfl,rfl⟩,rfl,rfl,d⟩
 ·conv=>cbv
  refine CN ?_;refine .inr ?_;refine⟨(1,0,7),fun _=>⟨AD,rfl⟩,?_⟩;try conv=>cbv
  refine Dh 1 rfl (BJ g (pI j)) AK ?_;refine AM ?_;intro a f;refine⟨6,?_,?_⟩
  ·rw[d];decide
  rw[b];exact⟨a,_,.inr (.inl ⟨AA,rfl⟩),rfl,rfl,rfl⟩
 ·conv=>cbv
  refine CN ?_;refine .inr ?_;refine⟨(1,0,9),fun _=>⟨AD,rfl⟩,?_⟩;try conv=>cbv
  refine Dh 1 rfl (BJ g (pJ n)) AK ?_;refine AM ?_;intro a f;refine⟨5,?_,?_⟩
  ·rw[d];decide
  rw[b];exact⟨a,_,.inr (.inr (.inl ⟨AA,rfl⟩)),rfl,rfl,rfl⟩
 ·conv=>cbv
  refine CN ?_;refine .inr ?_;refine⟨(1,0,11),fun _=>⟨AD,rfl⟩,?_⟩;try conv=>cbv
  refine Dh 1 rfl (BJ g (pK o)) AK ?_;refine AM ?_;intro a f;refine⟨4,?_,?_⟩
  ·rw[d];decide
  rw[b];exact⟨a,_,.inr (.inr (.inr (.inl ⟨AA,rfl⟩))),rfl,rfl,rfl⟩
 ·conv=>cbv
  refine CN ?_;refine .inr ?_;refine⟨(1,0,13),fun _=>⟨AD,rfl⟩,?_⟩;try conv=>cbv
  refine Dh 1 rfl (BJ g (pL p)) AK ?_;refine AM ?_;intro a f;refine⟨3,?_,?_⟩
  ·rw[d];decide
  rw[b];exact⟨a,_,.inr (.inr (.inr (.inr (.inl ⟨AA,rfl⟩)))),rfl,rfl,rfl⟩
 ·conv=>cbv
  refine CN ?_;refine .inr ?_;refine⟨(1,0,15),fun _=>⟨AD,rfl⟩,?_⟩;try conv=>cbv
  refine Dh 1 rfl (BJ g (pM q)) AK ?_;refine AM ?_;intro a f;refine⟨2,?_,?_⟩
  ·rw[d];decide
  rw[b];exact⟨a,_,.inr (.inr (.inr (.inr (.inr (.inl ⟨AA,rfl⟩))))),rfl,rfl,rfl⟩
 ·conv=>cbv
  refine CN ?_;refine .inr ?_;refine⟨(1,0,17),fun _=>⟨AD,rfl⟩,?_⟩;try conv=>cbv
  refine Dh 1 rfl (BJ g (pN s)) AK ?_;refine AM ?_;intro a f;refine⟨1,?_,?_⟩
  ·rw[d];decide
  rw[b];exact⟨a,_,.inr (.inr (.inr (.inr (.inr (.inr (.inl ⟨AA,rfl⟩)))))),rfl,rfl,rfl⟩
 ·conv=>cbv
  refine CN ?_;refine .inr ?_;refine⟨(1,0,19),fun _=>⟨AD,rfl⟩,?_⟩;try conv=>cbv
  refine Dh 1 rfl (BJ g (pO u)) AK ?_;refine AM ?_;intro a f;refine⟨0,?_,?_⟩
  ·rw[d];decide
  rw[b];exact⟨a,_,.inr (.inr (.inr (.inr (.inr (.inr (.inr (⟨AA,rfl⟩))))))),rfl,rfl,rfl⟩
 conv=>cbv
 refine BG ?_;exact AN AK
def gj {k0:Int} (f:CF 23 [.agg (cC kd P C V sd),.one (.sl .i64 AF),AH t] (AH k0)) (h:k0≠0) (hR:Bp Tryz.prog 25 [Bf,AH (-1)] (.var 0 (BN kd P C V sd vl AF AE cr 0)) (.one (.bool true)) (.var 0 (BN kd P C V sd vl AF AE cr 0))) (g:Bp Tryz.prog 26 [Bf,AH t] (.var 0 (BN kd P C V sd vl AF AE cr 0)) (.agg (Fi k1 T0 A0 T1 A1 T2 A2 T3 A3 T4 A4 T5 A5 T6 A6 T7 A7 T8 A8 T9 A9)) (.var 0 (BN kd P C V sd vl AF AE cr 0))) (d:CF 27 [.agg (Fi k1 T0 A0 T1 A1 T2 A2 T3 A3 T4 A4 T5 A5 T6 A6 T7 A7 T8 A8 T9 A9)] (.agg (Fi k1 T0 A0 T1 A1 T2 A2 T3 A3 T4 A4 T5 A5 T6 A6 T7 A7 T8 A8 T9 A9))):CF 6 [.agg (cC kd P C V sd),AQ vl,.one (.sl .i64 AF),AH AE,AH t,.one (.sl Ae cr)] (BK (Fi k1 T0 A0 T1 A1 T2 A2 T3 A3 T4 A4 T5 A5 T6 A6 T7 A7 T8 A8 T9 A9) 0):=by
 refine AL Tryz.func6 fun E b=>?_
 refine AB b f ?_;refine BY (fun a=>?_) fun a=>?_
 ·exact absurd a h
 refine Dh 22 rfl (BJ b (hR)) AK ?_;try conv=>cbv
 refine BG ?_;refine Dh 22 rfl (BJ b (g)) AK ?_;try conv=>cbv
 refine BG ?_;refine AB b d ?_;exact AN AK
def vj {kd:Int} {C:List Int} {i:Int} {r:List Int} (v:r=C1 t P 0) (f:P.length<=1000000) (g:r[0]? =some i) (k:i=0\/i=1) {j0:Nat} (H:(j0:Int)=1-i) {p:Int} {p0:Nat} {x y:el Ae} (u:AZ p p0) (hb:p0<=1000000) (B:cr[2*p0]? =some x) (D:cr[2*p0+1]? =some y) (q:P[j0]? =some p) {Tz:List LR} {Az:LR} (z:vl[0]? =some ((b1,l1),b2,l2)) (n:CF 129 [.agg (CP b1 l1 b2 l2)] (.agg (AY Ta Aa))) (o:CF 131 [.agg (AY Ta Aa),.agg (AY Ta Aa)] (BK (AY Tz Az) 0)) {rs:Int} (s:CF 64 [.agg (AY Tz Az)] (AH rs)) (h:rs≠0):Bp Tryz.prog 26 [Bf,AH t] (.var 0 (BN 2 P [] V sd vl AF AE cr 0)) (.agg [.int .i64 2,BB,BC,BB,BC,BB,BC,BB,BC,BB,BC,Ao x.1,AT x.2,Ao y.1,AT y.2,Ao Tz,AT Az,BB,BC,BB,BC]) (.var 0 (BN 2 P [] V sd vl AF AE cr 0)):=by
 refine CM Tryz.func26 (by kernel_rfl) rfl fun E a=>?_
 refine Af ?_;rintro j ⟨d,f15⟩;have G:j=0:=d;refine Eb (fun b=>?_) fun b=>?_
 ·exact absurd b AA
 refine AB a (Sl f v) ?_;refine CJ g ?_;refine .inr ?_;refine BG ?_;refine CN ?_;intro F m;refine Dh 0 rfl (BJ a (gl (i0:=j0) ⟨AA⟩ u hb B D q)) ⟨⟨⟨rfl,rfl⟩,rfl⟩,rfl,trivial⟩ ?_;try conv=>cbv
 refine BR rfl (BJ a (gx (BM 0) z n)) AK ?_
 refine BR rfl (BJ a (Ld o)) AK ?_
 refine BR rfl (BJ a (Jp (e1:=0) (by rw[if_neg h]) s)) AK ?_
 refine AK
def zW {Tb Tc Td:List LR} {Ab Ac Ad:LR} (b:CF 20 [.agg (AY Ta Aa),.agg (AY Tc Ac)] (.one (.bool true))) (d:CF 20 [.agg (AY Tb Ab),.agg (AY Td Ad)] (.one (.bool true))):CF 21 [.agg (Ag Ta Aa Tb Ab),.agg (Ag Tc Ac Td Ad)] (.one (.bool true)):=by
 refine AL Tryz.func21 fun E a=>?_
 refine AB a b ?_;refine AB a d ?_;exact AN ⟨t2,trivial⟩
def zR {f g:Rat} {c1 c2:Bool} {m1 m2:List UInt32} (h:Bn f b1 l1 c1 m1) (j:Bn g b2 l2 c2 m2) (a:A1=em [] (Re.ofRat f)) (b:A2=em [] (Re.ofRat g)):CF 57 [.agg (CP b1 l1 c1 m1),.agg (CP b2 l2 c2 m2)] (.agg (Ag [] A1 [] A2)):=by
 refine AL Tryz.func57 fun E d=>?_
 refine AB d (QT h a) ?_;refine AB d (QT j b) ?_;exact AN AK
def zS {x y:Int} (h: -9223372036854775808<=x/\x<9223372036854775808) (j: -9223372036854775808<=y/\y<9223372036854775808) (a:A1=em [] (Re.ofRat x)) (b:A2=em [] (Re.ofRat y)):CF 22 [AH x,AH y] (.agg (Ag [] A1 [] A2)):=by
 refine AL Tryz.func22 fun E d=>?_
 obtain⟨b1,l1,c1,m1,f⟩:=Ca (x:Rat);refine AB d (Ff h rfl f) ?_;obtain⟨b2,l2,c2,m2,g⟩:=Ca (y:Rat);refine AB d (Ff j rfl g) ?_;refine AB d (zR f g a b) ?_;exact AN AK
def SP:CF 5 [] (.one (.bool true)):=by
 obtain⟨A3,f⟩:=xR (em [] (Re.ofRat ((3:Int):Rat)));have u:C4 ((3:Int):Rat):=by decide +kernel
 obtain⟨A4,g⟩:=xR (em [] (Re.ofRat ((4:Int):Rat)));have v:C4 ((4:Int):Rat):=by decide +kernel
 obtain⟨A0,k⟩:=xR (em [] (Re.ofRat ((0:Int):Rat)));have M:C4 ((0:Int):Rat):=by decide +kernel
 obtain⟨n,a⟩:=xR (em [] (Re.ofRat ((25:Int):Rat)));have h:C4 ((25:Int):Rat):=by decide +kernel
 obtain⟨f1,g1,f2,g2,hf⟩:=Ca (5:Rat);have B:C4 (5:Rat):=by decide +kernel
 obtain⟨A5,j⟩:=xR (em [] (Re.ofRat 5));have J:Re.ofRat ((25:Int):Rat)=Re.ofRat 5*Re.ofRat 5:=by rw[<-Re.ofRat_mul];exact congrArg Re.ofRat (by decide +kernel)
 have G:=UL (T:=[]) (C:=n) g0.toGam g0.nil g0.nil rfl rfl j j (Mb B) (Mb B) rfl (by rw[a,J];rfl);obtain⟨D,m⟩:=xI (Bv (Re.ofRat ((25:Int):Rat)));have H:=YU (c:=D) (T1:=[]) g0.toGam g0.nil rfl a (Mb h) m;have s:D≠0:=fun z=>absurd (Re.MS.1 ((G0.1 (m.symm.trans z)).trans Re.tY.symm)) (by decide +kernel)
 have I:=VY (c:=true) h h a a AK;have c3:=VY (c:=true) u u f f AK;have F:=VY (c:=true) v v g g AK;have o:=gj (V:=[Ex.mk 1 ((f1,g1),(f2,g2)) ByteArray.empty []]) (sd:=0) (AE:=2) (P:=[0,1]) (C:=[]) (AF:=[]) (t:=1) (vl:=[((f1,g1),f2,g2)]) (cr:=[((([]:List LR)),A3),((([]:List LR)),A4),((([]:List LR)),A0),((([]:List LR)),A0)]) (QI (P:=[0,1]) (C:=[]) (AF:=[]) (t:=1) (c:=2) AD rfl (HB) (HB) AD) AD (gm (q:=false) (b:=true) AD (fun _=>YL (p:=fun _=>false) (fun x K=>by simp at K) rfl) rfl) (vj (kd:=2) (C:=[]) (i:=1) (r:=[1]) (j0:=0) (p:=0) (p0:=0) (x:=([],A3)) (y:=([],A4)) AD AD rfl (.inr rfl) AD (BM 0) AD rfl rfl rfl rfl (Lu hf (Ii B) j) G H s) (SK (Gd _) (Gd _) (Wa u f) (Wa v g) (Wa h a) (Gd _) (Gd _))
 refine IN Tryz.func5 fun E d=>?_
 conv=>cbv
 refine Be d (Ff (x:=5) AD (by decide +kernel) hf) ?_;conv=>cbv
 refine⟨[((f1,g1),(f2,g2))],Cj,.inr ?_⟩;try conv=>cbv
 refine⟨[(0:Int),(1:Int)],fun _=>⟨rfl,AD,rfl,AK⟩,.inr ?_⟩;try conv=>cbv
 refine⟨((f1,g1),f2,g2),fun _=>⟨AA,rfl⟩,?_⟩;try conv=>cbv
 refine⟨[Ex.mk 1 ((f1,g1),(f2,g2)) ByteArray.empty []],fun _=>⟨rfl,AD,rfl,⟨rfl,⟨rfl,rfl,rfl,rfl,rfl,rfl,.inr ⟨_,rfl⟩,trivial⟩,trivial⟩⟩,.inr ?_⟩;try conv=>cbv
 refine Be d (Ko AD f) ?_;conv=>cbv
 refine Be d (Ko AD g) ?_;conv=>cbv
 refine Be d (Ko AD k) ?_;conv=>cbv
 refine Be d (Ko AD k) ?_;conv=>cbv
 refine⟨[(([]:List LR),A3),(([]:List LR),A4),(([]:List LR),A0),(([]:List LR),A0)],fun _=>⟨rfl,AD,rfl,⟨rfl,DB,⟨rfl,DB,⟨rfl,DB,⟨rfl,DB,trivial⟩⟩⟩⟩⟩,.inr ?_⟩;try conv=>cbv
 refine cL d o ⟨⟨rfl,rfl,.inr ⟨_,rfl⟩,rfl,rfl,trivial⟩,rfl,.inr ⟨_,rfl⟩,rfl,rfl,rfl,trivial⟩ ?_;try conv=>cbv
 refine B8 ?_;refine⟨[(0:Int),(1:Int),(0:Int),(2:Int)],fun _=>⟨rfl,AD,rfl,AK⟩,.inr ?_⟩;try conv=>cbv
 refine⟨[(1:Int)],fun _=>⟨rfl,AD,rfl,⟨rfl,t1,trivial⟩⟩,.inr ?_⟩;try conv=>cbv
 refine⟨[(0:Int)],fun _=>⟨rfl,AD,rfl,⟨rfl,t1,trivial⟩⟩,.inr ?_⟩;try conv=>cbv
 refine G7 ?_;conv=>cbv
 refine G7 ?_;conv=>cbv
 refine Be d (Ko AD a) ?_;conv=>cbv
 refine Be d I ?_;conv=>cbv
 refine Be d (zS (x:=3) (y:=4) AD AD f g) ?_;conv=>cbv
 refine Be d (zW c3 F) ?_;conv=>cbv
 refine cL d (QI (c:=2) (P:=[0,1,0,2]) (C:=[]) (AF:=[]) (t:=0) AD rfl (HB) (HB) AD) ⟨⟨rfl,rfl,.inr ⟨_,rfl⟩,.inr ⟨_,rfl⟩,rfl,trivial⟩,.inr ⟨_,rfl⟩,rfl,trivial⟩ ?_;try conv=>cbv
 refine G7 ?_;conv=>cbv
 refine cL d (QI (c:=1) (P:=[0,1,0,2]) (C:=[]) (AF:=[]) (t:=1) AD rfl (HB) (HB) AD) ⟨⟨rfl,rfl,.inr ⟨_,rfl⟩,.inr ⟨_,rfl⟩,rfl,trivial⟩,.inr ⟨_,rfl⟩,rfl,trivial⟩ ?_;try conv=>cbv
 refine G7 ?_;conv=>cbv
 refine⟨[(0:Int)],fun _=>⟨rfl,AD,rfl,⟨rfl,t1,trivial⟩⟩,.inr ?_⟩;try conv=>cbv
 refine cL d (Yf (c:=true) (P:=[1]) (C:=[0]) (AF:=[0]) (t:=0) AD (HB) AD) ⟨⟨rfl,rfl,rfl,.inr ⟨_,rfl⟩,rfl,trivial⟩,rfl,rfl,trivial⟩ ?_;try conv=>cbv
 refine⟨[(1:Int)],fun _=>⟨rfl,AD,rfl,⟨rfl,t1,trivial⟩⟩,.inr ?_⟩;try conv=>cbv
 refine cL d (Yf (c:=false) (P:=[1]) (C:=[0]) (AF:=[1]) (t:=0) AD (HB) AD) ⟨⟨rfl,rfl,rfl,.inr ⟨_,rfl⟩,rfl,trivial⟩,rfl,rfl,trivial⟩ ?_;try conv=>cbv
 refine G7 ?_;conv=>cbv
 refine B8 ?_;exact AN ⟨t2,trivial⟩
end
section
end
section
noncomputable def oC (xp yp xq yq δ:Re):Re:=(xp+ -(yq-yp)*δ)*(yq-yp)+(yp+(xq-xp)*δ)* -(xq-xp)
variable {CQ CR CW C3 Df:LR} {CT CU CX C5 Dg:List LR} {TT:AG->Prop} {kp kq kt:Nat} {vt xp xq yp yq:Re} {w:AG}
def S7 {x:Re} {r:Int} (h:0<=x) (e:r=Bv x):¬r<0:=by rcases Gz x with⟨a,b⟩ |⟨a,b⟩ |⟨a,b⟩ <;> first | omega | (exfalso;grind)
def jq {Fc:AG->Prop} {w0:AG} {R0 b0 c0 f q0 p0 k0 a j:Nat} {v:Re} {T1 T2:List LR} {A1 A2:LR} {xa ya:Re} (k:Fm Fc w0 R0 b0 c0 f q0 p0) (b:Vm Fc w0 b0 k0 k0 T1 A1 T2 A2 xa ya) (u:xa*xa+ya*ya=v) (s:Rt Fc w0 b0 a TT w 1950000 j v) (q:2*k0+c0+2<=f) (x:4*k0+3<=a):∃g d,Nm TT w 1950000 (j) g d (Re.sqrt v)/\CF 189 [.agg (Ag T1 A1 T2 A2)] (BK (AY g d) 0):=by
 obtain⟨T5,A5,o,m⟩:=QB k b;obtain⟨T6,A6,p,n,_⟩:=s.get (AA:_<=a) (o.cast u);refine⟨T6,A6,p.mono AA,?_⟩;refine AL Tryz.func189 fun E h=>?_
 refine AB h m ?_;refine BG ?_;refine AB h n ?_;exact AN ⟨t3,t2,trivial⟩
def sH (F:Fd TT w) (k:Vm TT w 1950000 kp kp CT CQ CU CR xp yp) (m:Vm TT w 1950000 kq kq CX CW C5 C3 xq yq) (ht:Nm TT w 1950000 kt Dg Df vt) (f:vt<0) (j:kt+111<=80000):CF 135 [.agg (Ag CT CQ CU CR),.agg (Ag CX CW C5 C3),.agg (AY Dg Df),AH 1] (BK (DL [] [] [] [] [] []) 7):=by
 obtain⟨d,a,b,g⟩:=Gw F ht;obtain rfl:d= -1:=a.trans (Lf f);refine AL Tryz.func135 fun E h=>?_
 refine .inr ?_;refine BG ?_;refine AB h b ?_;refine CN ?_;exact AN AK
def sF (F:Fd TT w) (n:Vm TT w 1950000 kp kp CT CQ CU CR xp yp) (o:Vm TT w 1950000 kq kq CX CW C5 C3 xq yq) (ht:Nm TT w 1950000 kt Dg Df vt) (g:0<=vt) (m:xp=xq/\yp=yq) (p:2*kp+2*kq+kt+443<=80000):CF 135 [.agg (Ag CT CQ CU CR),.agg (Ag CX CW C5 C3),.agg (AY Dg Df),AH 1] (BK (DL [] [] [] [] [] []) 11):=by
 obtain⟨k,a,b,h⟩:=Gw F ht;have f:=S7 g a;refine AL Tryz.func135 fun E j=>?_
 refine .inr ?_;refine BG ?_;refine AB j b ?_;refine Dk (fun d=>?_) fun d=>?_
 ·exact absurd d f
 refine AB j (IG F n o AA AA AA AA (e:=true) ⟨fun _=>m,fun _=>rfl⟩) ?_;exact AN AK
def sG (F:Fd TT w) (k:Vm TT w 1950000 kp kp CT CQ CU CR xp yp) (m:Vm TT w 1950000 kq kq CX CW C5 C3 xq yq) (ht:Nm TT w 1950000 kt Dg Df vt) (f:vt<0) (j:kt+111<=80000):CF 135 [.agg (Ag CT CQ CU CR),.agg (Ag CX CW C5 C3),.agg (AY Dg Df),AH (-1)] (BK (DL [] [] [] [] [] []) 7):=by
 obtain⟨d,a,b,g⟩:=Gw F ht;obtain rfl:d= -1:=a.trans (Lf f);refine AL Tryz.func135 fun E h=>?_
 refine .inr ?_;refine CN ?_;refine BG ?_;refine AB h b ?_;refine CN ?_;exact AN AK
def sC (F:Fd TT w) (n:Vm TT w 1950000 kp kp CT CQ CU CR xp yp) (o:Vm TT w 1950000 kq kq CX CW C5 C3 xq yq) (ht:Nm TT w 1950000 kt Dg Df vt) (g:0<=vt) (m:xp=xq/\yp=yq) (p:2*kp+2*kq+kt+443<=80000):CF 135 [.agg (Ag CT CQ CU CR),.agg (Ag CX CW C5 C3),.agg (AY Dg Df),AH (-1)] (BK (DL [] [] [] [] [] []) 11):=by
 obtain⟨k,a,b,h⟩:=Gw F ht;have f:=S7 g a;refine AL Tryz.func135 fun E j=>?_
 refine .inr ?_;refine CN ?_;refine BG ?_;refine AB j b ?_;refine Dk (fun d=>?_) fun d=>?_
 ·exact absurd d f
 refine AB j (IG F n o AA AA AA AA (e:=true) ⟨fun _=>m,fun _=>rfl⟩) ?_;exact AN AK
end
section
abbrev FB:Type:=List LR
abbrev FC:Type:=LR
abbrev cV (z:el Co):List AC:=[.sl (.sl AJ) z.1.1,.sl AJ z.1.2,.sl (.sl AJ) z.2.1,.sl AJ z.2.2]
abbrev cN (z:el Ae):List AC:=[.sl (.sl AJ) z.1,.sl AJ z.2]
def Nm.to {TT:AG->Prop} {w:AG} {b b' k k':Nat} {T:FB} {A:FC} {x:Re} (h:Nm TT w b k T A x) (e:k*b<=k'*b'):Nm TT w b' k' T A x:=by
 obtain⟨u,a,d,h3,f,g⟩:=h;exact⟨u,a,d,h3,f,g.mono e⟩
def Vm.to {TT:AG->Prop} {w:AG} {b b' k k':Nat} {T d:FB} {A a:FC} {x y:Re} (h:Vm TT w b k k T A d a x y) (e:k*b<=k'*b'):Vm TT w b' k' k' T A d a x y:=⟨h.x.to e,h.y.to e⟩
def Db {TT:AG->Prop} {w:AG} {R b c M q p k:Nat} (F:Fm TT w R b c M q p) {T:FB} {A:FC} {x:Re} (h:Nm TT w b k T A x) (a:k+c+1<=M):Eh T A:=by
 obtain⟨B,d,c1,_⟩:=JD F h a;obtain⟨D,f,c2,_⟩:=JD F d a;obtain rfl:D=A:=f.data h (by grind);exact .inr ⟨B,c1,c2⟩
abbrev EL (l:List FB) (i:Nat):FB:=l.getD i []
abbrev EF (l:List FC) (i:Nat):FC:=l.getD i []
def sY {x y:Re} (h:¬(x=0/\y=0)):¬(un x=0/\y*Bl (fs x y)=0):=fun⟨a,b⟩=>by
 rcases sZ h with e |⟨_,e⟩
 ·exact Sw (e.symm.trans a)
 exact Sw (e.symm.trans b)
def getD_some {α:Type} {l:List α} {i:Nat} {d:α} (h:i<l.length):l[i]? =some (l.getD i d):=by
 rw[List.getD_eq_getElem?_getD,List.getElem?_eq_getElem h];rfl
def Hl {α:Type} {l:List α} (h:l.length=1):∃a,l=[a]:=match l,h with | [a],_=>⟨a,rfl⟩
def HR {α:Type} {l:List α} (h:l.length=2):∃a b,l=[a,b]:=match l,h with | [a,b],_=>⟨a,b,rfl⟩
def LI {α:Type} {l:List α} (h:l.length=3):∃a b c,l=[a,b,c]:=match l,h with | [a,b,c],_=>⟨a,b,c,rfl⟩
def H9 {α:Type} {l:List α} (h:l.length=4):∃a b c d,l=[a,b,c,d]:=match l,h with | [a,b,c,d],_=>⟨a,b,c,d,rfl⟩
def Nq {a b t n:Int} (ha:0<=a/\a<n) (hb:0<=b/\b<n):0<=(if a=t then b else a)/\(if a=t then b else a)<n:=by split <;> assumption
abbrev zz:T:= .pr jV (.pr (.sl AJ) (.pr (.sl .i64) (.pr .i64 (.pr (.sl C2) (.sl .u8)))))
def tL {TT:AG->Prop} {w:AG} {b k:Nat} {u:AG} {x:Re} (h:Nm TT w b k (tw u) (em u x) x) (hw:BE w):Nm TT w b k (tw u) (em u (EG x)) (EG x):=by
 unfold EG
 split
 ·obtain⟨v,d,a,_,f,he⟩:=h;obtain rfl:=OB a;exact⟨u,d,rfl,rfl,Hi f,he.neg hw⟩
 exact h
section
variable {P:AG->Prop} {V:List Re} {w:AG}
abbrev VF (P:AG->Prop) (w:AG) (k:Nat) (z:el Co) (x y:Re):Prop:=Vm (Tf P) w 2100 k k z.1.1 z.1.2 z.2.1 z.2.2 x y
abbrev NF (P:AG->Prop) (w:AG) (k:Nat) (z:el Ae) (x:Re):Prop:=Nm (Tf P) w 2100 k z.1 z.2 x
variable {cr:List (el Ae)} {AE:Int} {nc:Nat}
def Hx.kk {k:Int} {Q C:List Int} {X:List Ex} {sd n:Int} (h:Hx k Q C X sd AE n):1<=k/\k<=17:=by
 have:=h.ok;unfold MT at this;exact of_decide_eq_true this
def Hx.ls {k:Int} {Q C:List Int} {X:List Ex} {sd n:Int} (h:Hx k Q C X sd AE n):(Q.length<=4/\C.length<=2/\X.length<=2)/\(k=13\/k=16->1<=C.length)/\(k=17->2<=C.length)/\(k=4->1<=Q.length)/\(k=5\/k=6\/k=7\/k=8->Q.length=4)/\(k=10->2<=Q.length):=by
 have a:=h.np;have b:=h.nc;have c:=h.nv;have d:=h.kk
 have hle:∀k:Int,1<=k->k<=17->(@LE.le Int _ (DO k).2.1 4/\ @LE.le Int _ (DO k).2.2.1 2/\ @LE.le Int _ (DO k).2.2.2.1 2)/\(k=13\/k=16-> @LE.le Int _ 1 (DO k).2.2.1)/\(k=17-> @LE.le Int _ 2 (DO k).2.2.1)/\(k=4-> @LE.le Int _ 1 (DO k).2.1)/\(k=5\/k=6\/k=7\/k=8-> @Eq Int (DO k).2.1 4)/\(k=10-> @LE.le Int _ 2 (DO k).2.1):=fun k q s=>by
  have f:k=1\/k=2\/k=3\/k=4\/k=5\/k=6\/k=7\/k=8\/k=9\/k=10\/k=11\/k=12\/k=13\/k=14\/k=15\/k=16\/k=17:=AA
  rcases f with rfl | rfl | rfl | rfl | rfl | rfl | rfl | rfl | rfl | rfl | rfl | rfl | rfl | rfl | rfl | rfl | rfl <;> decide
 obtain⟨⟨l1,l2,l3⟩,g,j,m,o,p⟩:=hle k d.1 d.2;refine⟨⟨AA,AA,AA⟩,fun e=>?_,fun e=>?_,fun e=>?_,fun e=>?_,fun e=>?_⟩
 ·have:=g e;omega
 ·have:=j e;omega
 ·have:=m e;omega
 ·have:=o e;omega
 have:=p e;omega
def MB {AF C:List Int} {i:Nat} (hw:Eg AE AF=true) (b:∀c∈C,0<=c/\c<(AF.length:Nat)) (a:i<C.length):0<=CY AF C i/\CY AF C i<AE:=by
 have h:=b _ (List.getElem_mem a);rw[RE (List.getElem?_eq_getElem a) (List.getElem?_eq_getElem (AA:C[i].toNat<AF.length))];exact OG hw (List.getElem?_eq_getElem _)
structure FA (P:AG->Prop) (w:AG) (cr:List (el Ae)) (AE:Int) (nc:Nat):Prop where
 len:(cr.length:Int)=2*AE+(nc:Nat)
 b:(0<=AE/\AE<=8)/\nc<=3
 nm:∀(i:Nat) (x:el Ae),cr[i]? =some x->∃v,NF P w 20 x v
def FA.at (H:FA P w cr AE nc) {p:Int} (d:0<=p/\p<AE):CF 8 [.one (.sl Ae cr),AH p] (.agg (cV (Ie cr p))):=by
 have a:=H.len;have hb:=H.b;exact yAt (p0:=p.toNat) ⟨AA⟩ AA (getD_some AA) (getD_some AA)
def FA.rd (H:FA P w cr AE nc) {c:Int} (a:0<=c/\c<(nc:Nat)):cr[(2*AE+c).toNat]? =some (Hs cr AE c):=by
 have d:=H.len;have hb:=H.b;exact getD_some AA
def FA.D9 (H:FA P w cr AE nc) {c:Int} (a:0<=c/\c<(nc:Nat)):∃v,NF P w 20 (Hs cr AE c) v:=H.nm _ _ (H.rd a)
end
end
end Go.Abs
