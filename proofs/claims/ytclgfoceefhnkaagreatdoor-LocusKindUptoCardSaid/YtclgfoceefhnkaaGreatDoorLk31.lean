/- Part 32 of a proof. Conditions: each theorem's own. -/
import Derived.Test.YtclgfoceefhnkaaGreatDoorLk30
set_option linter.all false
set_option maxHeartbeats 80000000
set_option maxRecDepth 20000
open Go.Proofs
namespace Go.Abs
open Go.RowKit
def NQ (rv:Int) (b1:Bool) (l1:List UInt32) (b2:Bool) (l2:List UInt32):Prop:=D6 b1 l1 b2 l2=true/\l1.length<=1/\l2.length=1/\b2=false/\(rv=2->b1=false/\l1.length≠0)
def EJ (rv:Int) (l:LR):Prop:=∀v∈l,NQ rv v.1.1 v.1.2 v.2.1 v.2.2
variable {b1 b2 c:Bool} {i:Nat} {kd rv sd:Int} {l vl:LR} {l1 l2:List UInt32}
theorem EJ.step (h:EJ rv (l.take i)) (d:l[i]? =some ((b1,l1),b2,l2)) (b:NQ rv b1 l1 b2 l2):EJ rv (l.take (i+1)):=fun v a=>by
 rw[List.take_add_one,d] at a;rcases List.mem_append.1 a with a | a
 ·exact h v a
 obtain rfl:v=((b1,l1),b2,l2):=by simpa using a
 exact b
theorem EJ.at (h:EJ rv l) (a:l[i]? =some ((b1,l1),b2,l2)):NQ rv b1 l1 b2 l2:=h _ (List.mem_of_getElem? a)
theorem fL {P C:List Int} {V:List Ex} (hk:Db kd) (hs:∀v∈vl,v.1.2.length<=4000000/\v.2.2.length<=4000000) (d:c=true↔EJ (CD kd).2.2.2.2.1 vl/\vl.length=V.length):CF 30 [.agg [.int .i64 kd,.sl .i64 P,.sl .i64 C,.sl .ex V,.int .i64 sd],.one (.sl AA vl)] (.one (.bool c)):=by
 refine CA Tryz.func30 (by kernel_rfl) rfl fun E X=>?_
 conv=>cbv
 obtain⟨⟨nm,ra,rb,rc,rd,re,rg⟩,m⟩:∃z:el JW,z=CD kd:=⟨_,rfl⟩
 obtain⟨a1,B⟩:=xB (ID kd);rw[<-m] at d;have d:c=true↔EJ rd vl/\vl.length=V.length:=d;refine AB X (Qe hk m B) ?_;conv=>cbv
 refine .inr ?_;obtain⟨Z,f⟩:=xJ fun vs W k=>∃(i':Nat) (i:Int),vs=[.one (.sl AA vl),.one (.Ae 2 0 0),.one (.Ae 5 0 0),.one (.int .i64 i)]/\W=[.var 0 [.int .i64 kd,.sl .i64 P,.sl .i64 C,.sl .ex V,.int .i64 sd],.var 0 [.str nm,.int .i64 ra,.int .i64 rb,.int .i64 rc,.int .i64 rd,.int .i64 re,.bool rg]]/\(AR i i'/\i'<=vl.length)/\EJ rd (vl.take i')/\k=vl.length-i'
 refine⟨[],[1,2,5,7],[2,5],Z,⟨vl.length-0,by rw[f];exact⟨0,0,rfl,rfl,⟨Ak 0,by omega⟩,fun v h=>by simp at h,rfl⟩⟩,?_⟩;intro vs W af Y;rw[f] at Y;obtain⟨i',i,rfl,rfl,⟨hi,ad⟩,hinv,ae⟩:=Y;conv=>cbv
 have ei:=hi.eq;rintro ag ⟨a5,f16⟩;conv=>cbv
 intro O t;conv=>cbv
 cases O <;> conv=>cbv
 ·have B0:=AY t;rintro ak ⟨aa,f78⟩;conv=>cbv
  rintro al ⟨ab,f81⟩;conv=>cbv
  intro an J;conv=>cbv
  exact AD ⟨⟨rfl,congrArg _ (by rw[Bool.eq_iff_iff,d,J,beq_iff_eq];exact⟨fun q=>by have:=q.2;omega,fun q=>⟨fun v hv=>hinv v (by rw[List.take_of_length_le (by omega)];exact hv),by omega⟩⟩),trivial⟩,trivial⟩
 have B0:=AZ t;refine .inr ?_;obtain⟨H,a⟩:=AL (l:=vl) (i:=i') (by omega);refine⟨H,fun _=>⟨by omega,by rw[show (i).toNat=i' by omega];exact a⟩,?_⟩;try conv=>cbv
 obtain⟨⟨b1,l1⟩,b2,l2⟩:=H;obtain⟨a2,b⟩:=xB (D6 b1 l1 b2 l2);have D:=hs _ (List.mem_of_getElem? a);refine AB X (Q5 b D.1 D.2) ?_;conv=>cbv
 intro Q u;conv=>cbv
 cases Q <;> conv=>cbv
 ·have j:=CN u;refine⟨_,fun _=>⟨by omega,by rw[show i.toNat=i' by omega];exact a⟩,?_⟩;try conv=>cbv
  rintro ah ⟨a6,f33⟩;conv=>cbv
  intro R w;conv=>cbv
  cases R <;> conv=>cbv
  ·have K:=Bf w;refine⟨_,fun _=>⟨by omega,by rw[show i.toNat=i' by omega];exact a⟩,?_⟩;try conv=>cbv
   rintro ai ⟨a7,f43⟩;conv=>cbv
   intro S x;conv=>cbv
   cases S <;> conv=>cbv
   ·have L:=BY x;refine⟨_,fun _=>⟨by omega,by rw[show i.toNat=i' by omega];exact a⟩,?_⟩;try conv=>cbv
    cases b2 <;> conv=>cbv
    ·intro T y;conv=>cbv
     cases T <;> conv=>cbv
     ·have M:=AN y;intro n I;conv=>cbv
      refine AI ?_;refine⟨vl.length-(i'+1),?_,?_⟩
      ·omega
      rw[f];exact⟨i'+1,n,rfl,rfl,⟨⟨by omega⟩,by omega⟩,hinv.step a ⟨b.symm.trans j,by omega,by omega,rfl,fun h=>absurd h (by omega)⟩,rfl⟩
     have M:=AO y;refine⟨_,fun _=>⟨by omega,by rw[show i.toNat=i' by omega];exact a⟩,?_⟩;try conv=>cbv
     cases b1 <;> conv=>cbv
     ·refine⟨_,fun _=>⟨by omega,by rw[show i.toNat=i' by omega];exact a⟩,?_⟩;try conv=>cbv
      rintro aj ⟨a8,f72⟩;conv=>cbv
      intro U A;conv=>cbv
      cases U <;> conv=>cbv
      ·have N:=AN A;intro n I;conv=>cbv
       refine AI ?_;refine⟨vl.length-(i'+1),?_,?_⟩
       ·omega
       rw[f];exact⟨i'+1,n,rfl,rfl,⟨⟨by omega⟩,by omega⟩,hinv.step a ⟨b.symm.trans j,by omega,by omega,rfl,fun _=>⟨rfl,by omega⟩⟩,rfl⟩
      have N:=AO A;exact AD ⟨⟨rfl,congrArg _ (Bool.eq_false_iff.2 fun z=>by obtain⟨o,F,G,p,s⟩:=EJ.at (d.1 z).1 a;have q6:=s (by omega);omega),trivial⟩,trivial⟩
     exact AD ⟨⟨rfl,congrArg _ (Bool.eq_false_iff.2 fun z=>by obtain⟨o,F,G,p,s⟩:=EJ.at (d.1 z).1 a;exact Bool.noConfusion (s (by omega)).1),trivial⟩,trivial⟩
    exact AD ⟨⟨rfl,congrArg _ (Bool.eq_false_iff.2 fun z=>by obtain⟨o,F,G,p,s⟩:=EJ.at (d.1 z).1 a;first | omega | exact Bool.noConfusion p),trivial⟩,trivial⟩
   have L:=BZ x;exact AD ⟨⟨rfl,congrArg _ (Bool.eq_false_iff.2 fun z=>by obtain⟨o,F,G,p,s⟩:=EJ.at (d.1 z).1 a;first | omega | exact Bool.noConfusion p),trivial⟩,trivial⟩
  have K:=Bg w;exact AD ⟨⟨rfl,congrArg _ (Bool.eq_false_iff.2 fun z=>by obtain⟨o,F,G,p,s⟩:=EJ.at (d.1 z).1 a;omega),trivial⟩,trivial⟩
 have j:=CO u;exact AD ⟨⟨rfl,congrArg _ (Bool.eq_false_iff.2 fun z=>by obtain⟨o,F,G,p,s⟩:=EJ.at (d.1 z).1 a;rw[<-b,j] at o;exact Bool.noConfusion o),trivial⟩,trivial⟩
theorem WL (x:Re):BJ (-x)= -BJ x:=by
 rcases Ec x with⟨a,b⟩ |⟨a,b⟩ |⟨a,b⟩
 ·rw[b,GH (by grind)];rfl
 ·rw[b,a,show -(0:Re)=0 by grind,Fh];rfl
 rw[b,JQ (by grind)]
noncomputable def JJ (n:Nu):Nu:=if BJ n.2=0 then ([],Re.ofRat ((1:Int):Rat)) else (n.1,Cy n.2)
noncomputable def H3 (ns:List Nu) (Ap:Int) (W:List UInt8) (i:Nat):Nu:=if (i:Int)<2*Ap then Da ns (W.getD i 0).toNat else JJ (Da ns (W.getD i 0).toNat)
noncomputable def GV (ns:List Nu) (Ap:Int) (W:List UInt8) (k:Nat):List Nu:=(List.range k).map (H3 ns Ap W)
theorem aO (ns:List Nu) (Ap:Int) (W:List UInt8) (k:Nat):GV ns Ap W (k+1)=GV ns Ap W k++[H3 ns Ap W k]:=by
 unfold GV;rw[List.range_succ,List.map_append];rfl
theorem aN (ns:List Nu) (Ap:Int) (W:List UInt8) (k:Nat):(GV ns Ap W k).length=k:=by unfold GV;rw[List.length_map,List.length_range]
structure K6 (ns:List Nu) (kd sd Ap:Int) (P C:List Int) (V:List Ex) (vl:LR) (AU:List Int) (W:List UInt8):Prop where
 p0:0<=Ap
 p8:Ap<=8
 c3:AU.length<=3
 len:(W.length:Int)=2*Ap+(AU.length:Nat)
 va:FF kd P C V sd Ap (AU.length:Nat)
 sh:EJ (CD kd).2.2.2.2.1 vl/\vl.length=V.length
 ne:ns≠[]
 cw:DE Ap AU=true
 low:∀(i:Nat) (x:UInt8),W[i]? =some x->(Da ns x.toNat).1.length<=1
theorem g7 {n x:Int} {l:List Int} (h:DE n (l.take i)=true) (d:l[i]? =some x) (a:0<=x) (b:x<n):DE n (l.take (i+1))=true:=by
 rw[List.take_add_one,d];unfold DE at h ⊢;rw[List.all_append,h];simp[a,b]
theorem KW {ns:List Nu} {W:List UInt8} {x:UInt8} (h:∀(j:Nat) (x:UInt8),j<i->W[j]? =some x->(Da ns x.toNat).1.length<=1) (d:W[i]? =some x) (b:(Da ns x.toNat).1.length<=1):∀(j:Nat) (x:UInt8),j<i+1->W[j]? =some x->(Da ns x.toNat).1.length<=1:=fun j y f a=>by
 by_cases e:j=i
 ·subst e;rw[<-Option.some.inj (d.symm.trans a)];exact b
 exact h j y (by omega) a
theorem aP {ns:List Nu} {Ap:Int} {W:List UInt8} {x:UInt8} (a:W[i]? =some x) (h:(i:Int)<2*Ap):H3 ns Ap W i=Da ns x.toNat:=by
 unfold H3;rw[if_pos h,List.getD_eq_getElem?_getD,a];rfl
theorem Ll {ns:List Nu} {Ap:Int} {W:List UInt8} {x:UInt8} (a:W[i]? =some x) (h:¬(i:Int)<2*Ap):H3 ns Ap W i=JJ (Da ns x.toNat):=by
 unfold H3;rw[if_neg h,List.getD_eq_getElem?_getD,a];rfl
theorem KX {ns:List Nu} {Ap:Int} {W:List UInt8} {l o:List (el An)} {n:Nu} (h:o=(GV ns Ap W i).map nm) (a:l=o++[nm n]) (b:H3 ns Ap W i=n):l=(GV ns Ap W (i+1)).map nm:=by
 rw[aO,List.map_append,<-h,a,b];rfl
theorem XZ {Ap:Int} {P C:List Int} {V:List Ex} {AU:List Int} {X:List (el CT)} {W:List UInt8} {N:Nat} {ns:List Nu} {Vr:List Re} {L:List (el An)} (hk:Db kd) (bL:Db Ap) (hN:N<=1048576) (hV:∀(i:Nat) (e:Ex),V[i]? =some e->EW N e) (hs:∀v∈vl,v.1.2.length<=4000000/\v.2.2.length<=4000000) (aR:ns=(runN (X.take 24)).1) (I:Vr.length<=3) (A:∀n∈ns,CL Vr n) (Y:c=true↔K6 ns kd sd Ap P C V vl AU W) (hL:L=if c=true then (GV ns Ap W W.length).map nm else []):CF 8 [.agg [.int .i64 kd,.sl .i64 P,.sl .i64 C,.sl .ex V,.int .i64 sd,.sl AA vl,.sl .i64 AU,.int .i64 Ap,.sl CT X,.sl .u8 W]] (.AJ [(false,[.sl An L]),(false,[.bool c])]):=by
 refine CA Tryz.func8 (by kernel_rfl) rfl fun E hE=>?_
 conv=>cbv
 obtain⟨Ln,ab⟩:∃z:List (el An),z=ns.map nm:=⟨_,rfl⟩
 have ak:Ln.length=ns.length:=by rw[ab,List.length_map]
 refine AB (r:= .one (.sl An Ln)) hE (YH (by rw[ab,aR])) ?_;conv=>cbv
 intro b3 aq;conv=>cbv
 cases b3 <;> conv=>cbv
 ·have aS:=AY aq;intro b4 ar;conv=>cbv
  cases b4 <;> conv=>cbv
  ·have aT:=Bf ar;rintro bO ⟨bt,f23⟩;conv=>cbv
   intro b5 au;conv=>cbv
   cases b5 <;> conv=>cbv
   ·have aU:=Bf au;rintro bP ⟨bu,f29⟩;conv=>cbv
    intro bQ bC;conv=>cbv
    refine AI ?_;rintro bR ⟨bw,f35⟩;conv=>cbv
    intro bS bD;conv=>cbv
    refine AI ?_;intro b6 av;conv=>cbv
    cases b6 <;> conv=>cbv
    ·have aV:=BY av;rintro b7 ⟨bx,f46⟩;conv=>cbv
     obtain⟨aO,a1⟩:=EM (FF kd P C V sd Ap (AU.length:Nat));refine AB (r:= .one (.bool aO)) hE (YC hk hN hV (by rw[show b7=((AU.length:Nat):Int) by omega];exact a1)) ?_;try conv=>cbv
     intro b8 aw;conv=>cbv
     cases b8 <;> conv=>cbv
     ·have an:=CN aw;obtain⟨bs,a2⟩:=EM (EJ (CD kd).2.2.2.2.1 vl/\vl.length=V.length);refine AB hE (fL hk hs a2) ?_;conv=>cbv
      intro b9 ax;conv=>cbv
      cases b9 <;> conv=>cbv
      ·have ao:=CN ax;refine AB hE (YE ab fun n hn=>⟨(A n hn).cos,(A n hn).HG⟩) ?_;conv=>cbv
       refine BK ?_;conv=>cbv
       rintro bT ⟨bz,f65⟩;conv=>cbv
       intro ba ay;conv=>cbv
       cases ba <;> conv=>cbv
       ·have aW:=AN ay;refine .inr ?_;obtain⟨J0,aj⟩:=xJ fun vs bl k=>∃(i':Nat) (i:Int),vs=[.one (.Ae 1 0 0),.one (.sl An Ln),.one (.int .i64 i)]/\bl=[.var 0 [.int .i64 kd,.sl .i64 P,.sl .i64 C,.sl .ex V,.int .i64 sd,.sl AA vl,.sl .i64 AU,.int .i64 Ap,.sl CT X,.sl .u8 W]]/\(AR i i'/\i'<=AU.length)/\(0<=Ap/\Ap<=8/\AU.length<=3/\(W.length:Int)=2*Ap+(AU.length:Nat)/\FF kd P C V sd Ap (AU.length:Nat)/\(EJ (CD kd).2.2.2.2.1 vl/\vl.length=V.length)/\ns≠[])/\DE Ap (AU.take i')=true/\k=AU.length-i'
        refine⟨[],[1,4,5],[1],J0,⟨AU.length-0,by rw[aj];exact⟨0,0,rfl,rfl,⟨Ak 0,by omega⟩,⟨by omega,by omega,by omega,by omega,a1.1 an,a2.1 ao,fun z=>by rw[z] at ak;have h0:Ln.length=0:=ak;omega⟩,rfl,rfl⟩⟩,?_⟩;intro vs bl bM hj;rw[aj] at hj;obtain⟨i',i,rfl,rfl,⟨hi,bG⟩,f,a5,bI⟩:=hj;conv=>cbv
        have ei:=hi.eq;have aE:=f.2.2.2.2.2.2;rintro bU ⟨bA,f71⟩;conv=>cbv
        intro bb az;conv=>cbv
        cases bb <;> conv=>cbv
        ·have aX:=AY az;refine .inr ?_;obtain⟨J1,R⟩:=xJ fun vs bl k=>∃(o:List (el An)) (m G:Nat) (j:Int),vs=[.one (.Ae 1 0 0),.one (.sl An Ln),.one (.AQ An 6 0 0 m),.one (.int .i64 j)]/\bl=[.var 0 [.int .i64 kd,.sl .i64 P,.sl .i64 C,.sl .ex V,.int .i64 sd,.sl AA vl,.sl .i64 AU,.int .i64 Ap,.sl CT X,.sl .u8 W],.arr 0 An o]/\(AR j G/\G<=W.length/\m=o.length)/\o=(GV ns Ap W G).map nm/\(∀(i:Nat) (x:UInt8),i<G->W[i]? =some x->(Da ns x.toNat).1.length<=1)/\k=W.length-G
         refine⟨[(6,An,true)],[1,4,6,7],[1,6],J1,⟨W.length-0,by rw[R];exact⟨[],0,0,0,rfl,rfl,⟨Ak 0,by omega,rfl⟩,rfl,fun i x h=>absurd h (Nat.not_lt_zero i),rfl⟩⟩,?_⟩;intro vs bl bN hj;rw[R] at hj;obtain⟨o,m,G,j,rfl,rfl,⟨hj,bH,hm⟩,u,F,bJ⟩:=hj;conv=>cbv
         have ej:=hj.eq;have bK:o.length=G:=by rw[u,List.length_map,aN]
         have a5:DE Ap (AU.take AU.length)=true:=by have h9:=a5;rw[List.take_of_length_le (by omega)] at h9;rw[List.take_length];exact h9
         have bm:W.length<=19:=by have:=f;omega
         rintro bV ⟨bB,f94⟩;conv=>cbv
         intro bg aC;conv=>cbv
         cases bg <;> conv=>cbv
         ·have b0:=AY aC;exact AD ⟨⟨rfl,.inl ⟨_,rfl,by omega,congrArg _ (by rw[hL,Y.2 ⟨f.1,f.2.1,f.2.2.1,f.2.2.2.1,f.2.2.2.2.1,f.2.2.2.2.2.1,f.2.2.2.2.2.2,by rw[show AU=AU.take AU.length from (List.take_length).symm];exact a5,fun i x hx=>F i x (by have:=Dm hx;omega) hx⟩,if_pos rfl,show W.length=G by omega,<-u,List.drop_zero,hm,List.take_length])⟩,trivial⟩,⟨rfl,congrArg _ (by have aQ:=Y.2 ⟨f.1,f.2.1,f.2.2.1,f.2.2.2.1,f.2.2.2.2.1,f.2.2.2.2.2.1,f.2.2.2.2.2.2,by rw[show AU=AU.take AU.length from (List.take_length).symm];exact a5,fun i x hx=>F i x (by have:=Dm hx;omega) hx⟩;exact aQ),trivial⟩,trivial⟩
         have b0:=AZ aC;refine .inr ?_;obtain⟨a8,p⟩:=AL (l:=W) (i:=G) (by omega);refine⟨a8,fun _=>⟨by omega,by rw[show (j).toNat=G by omega];exact p⟩,?_⟩;try conv=>cbv
         intro bn ae;have bh:=ae.eq;have f103:=ae.lt;conv=>cbv
         intro bo af;conv=>cbv
         have af:=wrap_i64 af;obtain⟨K,y⟩:∃z:Nu,z=Da ns a8.toNat:=⟨_,rfl⟩
         have U:K∈ns:=by rw[y];exact OR aE _
         have ad:=((A _ U).el I).mono (by decide:512<=Rm);obtain⟨T5,H⟩:=HF (tw K.1);obtain⟨A5,T⟩:=DS (em K.1 K.2);have bF:T5.length=K.1.length:=by rw[H,tw,List.length_map,List.length_reverse]
         refine AB hE (YF ab aE (i':=a8.toNat) ⟨by omega⟩ y H T) ?_;conv=>cbv
         rintro bp ⟨bj,f108⟩;conv=>cbv
         intro aI ag;conv=>cbv
         cases aI <;> conv=>cbv
         ·have aF:=Bf ag;intro bq bk;conv=>cbv
          refine AI ?_;intro aJ ah;conv=>cbv
          refine .inr ?_;cases aJ <;> conv=>cbv
          ·have aG:=DI ah;refine⟨[(T5,A5)],fun _=>⟨rfl,by decide,rfl,⟨rfl,by first | exact t1 | exact t2 | exact t4 | simp[Aq,BG,cells],trivial⟩⟩,.inl ?_⟩;try conv=>cbv
           refine .inl ⟨[(T5,A5)],fun _=>⟨rfl,by (first | rfl | omega),⟨_,rfl,by simp <;> omega,by simp⟩,by show (o.length+1)*48<=140737488355328;(try simp only[List.length_take,List.length_drop]);omega⟩,?_⟩;intro (b:List (el An)) w d;have s:b=(o:List (el An))++([(T5,A5)]:List (el An)):=d.1;have t:w=List.length (α:=(el An)) b:=d.2;conv=>cbv
           intro J aa;conv=>cbv
           refine AI ?_;refine⟨W.length-(G+1),?_,?_⟩
           ·omega
           rw[R];exact⟨b,_,G+1,J,rfl,rfl,⟨⟨by omega⟩,by omega,t⟩,KX (n:=K) u (s.trans (by rw[T,H];rfl)) ((aP p (by omega)).trans y.symm),KW F p (by rw[<-y];omega),rfl⟩
          have aG:=DJ ah;obtain⟨br,al⟩:=xI (BJ K.2);refine AB hE (Jt (FY I A (Nat.le_refl Rm)) (EB I A U) H T ad al) ?_;conv=>cbv
          intro aK ai;conv=>cbv
          refine .inr ?_;cases aK <;> conv=>cbv
          ·have aH:=AY ai;obtain⟨aL,S⟩:=xI (BJ K.2);refine AB hE (Jt (FY I A (Nat.le_refl Rm)) (EB I A U) H T ad S) ?_;conv=>cbv
           intro a7 M;conv=>cbv
           refine .inr ?_;cases a7 <;> conv=>cbv
           ·have a6:=AN M;refine⟨[(T5,A5)],fun _=>⟨rfl,by decide,rfl,⟨rfl,by first | exact t1 | exact t2 | exact t4 | simp[Aq,BG,cells],trivial⟩⟩,.inl ?_⟩;try conv=>cbv
            refine .inl ⟨[(T5,A5)],fun _=>⟨rfl,by (first | rfl | omega),⟨_,rfl,by simp <;> omega,by simp⟩,by show (o.length+1)*48<=140737488355328;(try simp only[List.length_take,List.length_drop]);omega⟩,?_⟩;intro (b:List (el An)) w d;have s:b=(o:List (el An))++([(T5,A5)]:List (el An)):=d.1;have t:w=List.length (α:=(el An)) b:=d.2;conv=>cbv
            intro J aa;conv=>cbv
            refine AI ?_;refine⟨W.length-(G+1),?_,?_⟩
            ·omega
            rw[R];exact⟨b,_,G+1,J,rfl,rfl,⟨⟨by omega⟩,by omega,t⟩,KX (n:=((K.1,K.2):Nu)) u (s.trans (by rw[T,H];rfl)) ((Ll p (by omega)).trans (by rw[<-y];unfold JJ Cy;rw[if_neg (by omega),if_neg (WJ (by omega))])),KW F p (by rw[<-y];omega),rfl⟩
           have a6:=AO M;obtain⟨B,D⟩:=DS (em [] (Re.ofRat ((1:Int):Rat)));refine AB hE (Ht (by decide) D) ?_;conv=>cbv
           refine⟨[(([]:List LR),B)],fun _=>⟨rfl,by decide,rfl,⟨rfl,by first | exact t1 | exact t2 | exact t4 | simp[Aq,BG,cells],trivial⟩⟩,.inl ?_⟩;try conv=>cbv
           refine .inl ⟨[(([]:List LR),B)],fun _=>⟨rfl,by (first | rfl | omega),⟨_,rfl,by simp <;> omega,by simp⟩,by show (o.length+1)*48<=140737488355328;(try simp only[List.length_take,List.length_drop]);omega⟩,?_⟩;intro (b:List (el An)) w d;have s:b=(o:List (el An))++([(([]:List LR),B)]:List (el An)):=d.1;have t:w=List.length (α:=(el An)) b:=d.2;conv=>cbv
           intro J aa;conv=>cbv
           refine AI ?_;refine⟨W.length-(G+1),?_,?_⟩
           ·omega
           rw[R];exact⟨b,_,G+1,J,rfl,rfl,⟨⟨by omega⟩,by omega,t⟩,KX (n:=(([],Re.ofRat ((1:Int):Rat)):Nu)) u (s.trans (by rw[D];rfl)) ((Ll p (by omega)).trans (by rw[<-y];unfold JJ;rw[if_pos (by first | omega | (have:=WL K.2;omega))])),KW F p (by rw[<-y];omega),rfl⟩
          have aH:=AZ ai;obtain⟨Z,Q⟩:=DS (em K.1 (-K.2));have aD:=WK (by omega:BJ K.2<0);refine AB hE (NV (FY I A (Nat.le_refl Rm)) (EB I A U) H T ad Q) ?_;conv=>cbv
          obtain⟨aL,S⟩:=xI (BJ (-K.2));refine AB hE (Jt (FY I A (Nat.le_refl Rm)) (EB I A U) H Q (ad.neg (A _ U).red) S) ?_;conv=>cbv
          intro a7 M;conv=>cbv
          refine .inr ?_;cases a7 <;> conv=>cbv
          ·have a6:=AN M;refine⟨[(T5,Z)],fun _=>⟨rfl,by decide,rfl,⟨rfl,by first | exact t1 | exact t2 | exact t4 | simp[Aq,BG,cells],trivial⟩⟩,.inl ?_⟩;try conv=>cbv
           refine .inl ⟨[(T5,Z)],fun _=>⟨rfl,by (first | rfl | omega),⟨_,rfl,by simp <;> omega,by simp⟩,by show (o.length+1)*48<=140737488355328;(try simp only[List.length_take,List.length_drop]);omega⟩,?_⟩;intro (b:List (el An)) w d;have s:b=(o:List (el An))++([(T5,Z)]:List (el An)):=d.1;have t:w=List.length (α:=(el An)) b:=d.2;conv=>cbv
           intro J aa;conv=>cbv
           refine AI ?_;refine⟨W.length-(G+1),?_,?_⟩
           ·omega
           rw[R];exact⟨b,_,G+1,J,rfl,rfl,⟨⟨by omega⟩,by omega,t⟩,KX (n:=((K.1,-K.2):Nu)) u (s.trans (by rw[Q,H];rfl)) ((Ll p (by omega)).trans (by rw[<-y];unfold JJ Cy;rw[if_neg (by omega),if_pos aD])),KW F p (by rw[<-y];omega),rfl⟩
          have a6:=AO M;obtain⟨B,D⟩:=DS (em [] (Re.ofRat ((1:Int):Rat)));refine AB hE (Ht (by decide) D) ?_;conv=>cbv
          refine⟨[(([]:List LR),B)],fun _=>⟨rfl,by decide,rfl,⟨rfl,by first | exact t1 | exact t2 | exact t4 | simp[Aq,BG,cells],trivial⟩⟩,.inl ?_⟩;try conv=>cbv
          refine .inl ⟨[(([]:List LR),B)],fun _=>⟨rfl,by (first | rfl | omega),⟨_,rfl,by simp <;> omega,by simp⟩,by show (o.length+1)*48<=140737488355328;(try simp only[List.length_take,List.length_drop]);omega⟩,?_⟩;intro (b:List (el An)) w d;have s:b=(o:List (el An))++([(([]:List LR),B)]:List (el An)):=d.1;have t:w=List.length (α:=(el An)) b:=d.2;conv=>cbv
          intro J aa;conv=>cbv
          refine AI ?_;refine⟨W.length-(G+1),?_,?_⟩
          ·omega
          rw[R];exact⟨b,_,G+1,J,rfl,rfl,⟨⟨by omega⟩,by omega,t⟩,KX (n:=(([],Re.ofRat ((1:Int):Rat)):Nu)) u (s.trans (by rw[D];rfl)) ((Ll p (by omega)).trans (by rw[<-y];unfold JJ;rw[if_pos (by first | omega | (have:=WL K.2;omega))])),KW F p (by rw[<-y];omega),rfl⟩
         have aF:=Bg ag;have a:c=false:=Bool.eq_false_iff.2 fun z=>by have q:=Y.1 z;have:=q.low _ _ p;rw[<-y] at this;omega
         exact AD ⟨⟨rfl,.inr (.inl ⟨_,congrArg _ (by rw[hL,a];rfl)⟩),trivial⟩,⟨rfl,congrArg _ (a),trivial⟩,trivial⟩
        have aX:=AZ az;refine .inr ?_;obtain⟨aM,O⟩:=AL (l:=AU) (i:=i') (by omega);refine⟨aM,fun _=>⟨by omega,by rw[show (i).toNat=i' by omega];exact O⟩,?_⟩;try conv=>cbv
        intro bd aA;conv=>cbv
        cases bd <;> conv=>cbv
        ·have aY:=AY aA;refine⟨aM,fun _=>⟨by omega,by rw[show i.toNat=i' by omega];exact O⟩,?_⟩;try conv=>cbv
         intro bf aB;conv=>cbv
         refine BO ?_;cases bf <;> conv=>cbv
         ·have aZ:=DI aB;intro bc bE;conv=>cbv
          refine AI ?_;refine⟨AU.length-(i'+1),?_,?_⟩
          ·omega
          rw[aj];exact⟨i'+1,bc,rfl,rfl,⟨⟨by omega⟩,by omega⟩,f,g7 a5 O (by omega) (by omega),rfl⟩
         have aZ:=DJ aB;have a:c=false:=Bool.eq_false_iff.2 fun z=>by have q:=Y.1 z;have:=Je q.cw O;omega
         exact AD ⟨⟨rfl,.inr (.inl ⟨_,congrArg _ (by rw[hL,a];rfl)⟩),trivial⟩,⟨rfl,congrArg _ (a),trivial⟩,trivial⟩
        have aY:=AZ aA;refine BO ?_;have a:c=false:=Bool.eq_false_iff.2 fun z=>by have q:=Y.1 z;have:=Je q.cw O;omega
        exact AD ⟨⟨rfl,.inr (.inl ⟨_,congrArg _ (by rw[hL,a];rfl)⟩),trivial⟩,⟨rfl,congrArg _ (a),trivial⟩,trivial⟩
       have aW:=AO ay;have a:c=false:=Bool.eq_false_iff.2 fun z=>by have q:=Y.1 z;exact q.ne (List.eq_nil_of_length_eq_zero (by have:=ak;omega))
       exact AD ⟨⟨rfl,.inr (.inl ⟨_,congrArg _ (by rw[hL,a];rfl)⟩),trivial⟩,⟨rfl,congrArg _ (a),trivial⟩,trivial⟩
      have ao:=CO ax;have a:c=false:=Bool.eq_false_iff.2 fun z=>by have q:=Y.1 z;exact Bool.noConfusion (ao.symm.trans (a2.2 q.sh))
      exact AD ⟨⟨rfl,.inr (.inl ⟨_,congrArg _ (by rw[hL,a];rfl)⟩),trivial⟩,⟨rfl,congrArg _ (a),trivial⟩,trivial⟩
     have an:=CO aw;have a:c=false:=Bool.eq_false_iff.2 fun z=>by have q:=Y.1 z;exact Bool.noConfusion (an.symm.trans (a1.2 q.va))
     exact AD ⟨⟨rfl,.inr (.inl ⟨_,congrArg _ (by rw[hL,a];rfl)⟩),trivial⟩,⟨rfl,congrArg _ (a),trivial⟩,trivial⟩
    have aV:=BZ av;have a:c=false:=Bool.eq_false_iff.2 fun z=>by have q:=Y.1 z;have:=q.len;omega
    exact AD ⟨⟨rfl,.inr (.inl ⟨_,congrArg _ (by rw[hL,a];rfl)⟩),trivial⟩,⟨rfl,congrArg _ (a),trivial⟩,trivial⟩
   have aU:=Bg au;have a:c=false:=Bool.eq_false_iff.2 fun z=>by have q:=Y.1 z;have:=q.c3;omega
   exact AD ⟨⟨rfl,.inr (.inl ⟨_,congrArg _ (by rw[hL,a];rfl)⟩),trivial⟩,⟨rfl,congrArg _ (a),trivial⟩,trivial⟩
  have aT:=Bg ar;have a:c=false:=Bool.eq_false_iff.2 fun z=>by have q:=Y.1 z;have:=q.p8;omega
  exact AD ⟨⟨rfl,.inr (.inl ⟨_,congrArg _ (by rw[hL,a];rfl)⟩),trivial⟩,⟨rfl,congrArg _ (a),trivial⟩,trivial⟩
 have aS:=AZ aq;have a:c=false:=Bool.eq_false_iff.2 fun z=>by have q:=Y.1 z;have:=q.p0;omega
 exact AD ⟨⟨rfl,.inr (.inl ⟨_,congrArg _ (by rw[hL,a];rfl)⟩),trivial⟩,⟨rfl,congrArg _ (a),trivial⟩,trivial⟩
end Go.Abs
namespace Go.Abs
open Go.RowKit
variable {Aa Ab Ax vl:LR} {Ta Tb Tx:List LR} {Gy e e1 f1 i kd Ap r sd:Int} {cr:List (el An)} {g:FuncId} {i0 p0:Nat}
theorem EX {A1 A2 A3 A4 A5 X:Prop} {d:Nat->AG->Prop} {f h j:Nat->AG->List AV->AV->AG->Prop} (id:Nat) {b:AG} {a:List AV} {r:AV} {b1:AG} (k:d id b) (n:h id b a r b1) (m:f id b a r b1) (o:j id b a r b1):
  A1\/A2\/A3\/A4\/A5\/(∃(id:Nat) (b:AG) (a:List AV) (r:AV) (b1:AG),(Unit->d id b/\f id b a r b1)/\(Unit->h id b a r b1)/\j id b a r b1)\/X:=
 .inr (.inr (.inr (.inr (.inr (.inl ⟨id,b,a,r,b1,fun _=>⟨k,m⟩,fun _=>n,o⟩)))))
abbrev Dh (kd:Int) (P C:List Int) (V:List Ex) (sd:Int) (vl:LR) (AU:List Int) (Ap:Int) (cr:List (el An)) (e:Int):List AC:=[.int .i64 kd,.sl .i64 P,.sl .i64 C,.sl .ex V,.int .i64 sd,.sl AA vl,.sl .i64 AU,.int .i64 Ap,.sl An cr,.int .i64 e]
abbrev GK:T:= .pr Wu (.pr (.sl AA) (.pr (.sl .i64) (.pr .i64 (.pr (.sl An) .i64))))
theorem eZ {P C:List Int} {V:List Ex} {AU:List Int} {p:Int} {x y:el An} (j:AR p p0) (s:p0<=1000000) (k:cr[2*p0]? =some x) (m:cr[2*p0+1]? =some y):DV Tryz.prog 236 [.one (.Ae 0 0 0),.one (.int .i64 p)] (.var 0 (Dh kd P C V sd vl AU Ap cr e)) (.agg (IB x.1 x.2 y.1 y.2)) (.var 0 (Dh kd P C V sd vl AU Ap cr e)):=by
 have o:=j.eq;refine Eg Tryz.func236 (by kernel_rfl) rfl fun E q=>?_
 conv=>cbv
 intro a d;conv=>cbv
 refine AI ?_;refine⟨x,fun _=>⟨by omega,by rw[show a.toNat=2*p0 by omega];exact k⟩,?_⟩;try conv=>cbv
 intro n f;conv=>cbv
 refine AI ?_;intro b h;conv=>cbv
 refine AI ?_;refine⟨y,fun _=>⟨by omega,by rw[show b.toNat=2*p0+1 by omega];exact m⟩,?_⟩;try conv=>cbv
 refine BO ?_;refine fun _=>⟨⟨⟨⟨rfl,rfl,rfl,rfl,rfl,trivial⟩,trivial⟩,rfl,by simp⟩,rfl⟩
theorem et {P C:List Int} {V:List Ex} {AU:List Int} (f:AR i i0) {p:Int} {x y:el An} (h:AR p p0) (d:p0<=1000000) (j:cr[2*p0]? =some x) (k:cr[2*p0+1]? =some y) (b:P[i0]? =some p):DV Tryz.prog 144 [.one (.Ae 0 0 0),.one (.int .i64 i)] (.var 0 (Dh kd P C V sd vl AU Ap cr e)) (.agg (IB x.1 x.2 y.1 y.2)) (.var 0 (Dh kd P C V sd vl AU Ap cr e)):=by
 have m:=f.eq;refine Eg Tryz.func144 (by kernel_rfl) rfl fun E a=>?_
 conv=>cbv
 refine⟨p,fun _=>⟨by omega,by rw[show i.toNat=i0 by omega];exact b⟩,?_⟩;try conv=>cbv
 refine EX 0 rfl (Ee a (eZ h d j k)) ⟨⟨⟨rfl,rfl⟩,rfl⟩,rfl,trivial⟩ ?_;try conv=>cbv
 refine fun _=>⟨⟨⟨⟨rfl,rfl,rfl,rfl,rfl,trivial⟩,trivial⟩,rfl,by simp⟩,rfl⟩
theorem fB {P C:List Int} {V:List Ex} {AU:List Int} {b1 b2:Bool} {l1 l2:List UInt32} {b:List LR} {a:LR} (h:AR i i0) (j:vl[i0]? =some ((b1,l1),b2,l2)) (f:CF 235 [.agg (BV b1 l1 b2 l2)] (.agg (Ay b a))):DV Tryz.prog 146 [.one (.Ae 0 0 0),.one (.int .i64 i)] (.var 0 (Dh kd P C V sd vl AU Ap cr e)) (.agg (Ay b a)) (.var 0 (Dh kd P C V sd vl AU Ap cr e)):=by
 have k:=h.eq;refine Eg Tryz.func146 (by kernel_rfl) rfl fun E d=>?_
 conv=>cbv
 refine⟨((b1,l1),b2,l2),fun _=>⟨by omega,by rw[show i.toNat=i0 by omega];exact j⟩,?_⟩;try conv=>cbv
 refine AB d f ?_;conv=>cbv
 refine fun _=>⟨⟨⟨t3,trivial⟩,rfl,by simp⟩,rfl⟩
theorem ef {P C:List Int} {V:List Ex} {AU:List Int} (he:e1=if e=0 then f1 else e):DV Tryz.prog 160 [.one (.Ae 0 0 0),.agg (Ay Ta Aa),.one (.int .i64 f1)] (.var 0 (Dh kd P C V sd vl AU Ap cr e)) (.agg (Ay Ta Aa)) (.var 0 (Dh kd P C V sd vl AU Ap cr e1)):=by
 refine Eg Tryz.func160 (by kernel_rfl) rfl fun E f=>?_
 conv=>cbv
 intro d b;conv=>cbv
 refine .inr ?_;cases d <;> conv=>cbv
 ·have a:=AN b;refine fun _=>⟨⟨⟨t3,trivial⟩,rfl,by simp⟩,by rw[he,if_neg a];rfl⟩
 have a:=AO b;refine fun _=>⟨⟨⟨t3,trivial⟩,rfl,by simp⟩,by rw[he,if_pos a];rfl⟩
theorem eh {P C:List Int} {V:List Ex} {AU:List Int} (a:CF g [.agg (Ay Ta Aa),.agg (Ay Tb Ab)] (.AJ [(true,(Ay Tx Ax)),(false,[.int .i64 f1])])):DV Tryz.prog 164 [.one (.Ae 0 0 0),.one (.fn g),.agg (Ay Ta Aa),.agg (Ay Tb Ab)] (.var 0 (Dh kd P C V sd vl AU Ap cr 0)) (.agg (Ay Tx Ax)) (.var 0 (Dh kd P C V sd vl AU Ap cr f1)):=by
 refine Eg Tryz.func164 (by kernel_rfl) rfl fun E b=>?_
 conv=>cbv
 refine BK ?_;conv=>cbv
 refine AB b a ?_;conv=>cbv
 refine EX 0 rfl (Ee b (ef (e:=0) (e1:=f1) (by simp))) ⟨⟨⟨rfl,rfl⟩,rfl⟩,t2,rfl,trivial⟩ ?_;try conv=>cbv
 refine fun _=>⟨⟨⟨t3,trivial⟩,rfl,by simp⟩,rfl⟩
theorem ez {P C:List Int} {V:List Ex} {AU:List Int} (a:CF 214 [.agg (Ay Ta Aa),.agg (Ay Ta Aa)] (.AJ [(true,(Ay Tx Ax)),(false,[.int .i64 f1])])):DV Tryz.prog 145 [.one (.Ae 0 0 0),.agg (Ay Ta Aa)] (.var 0 (Dh kd P C V sd vl AU Ap cr 0)) (.agg (Ay Tx Ax)) (.var 0 (Dh kd P C V sd vl AU Ap cr f1)):=by
 refine Eg Tryz.func145 (by kernel_rfl) rfl fun E b=>?_
 conv=>cbv
 refine EX 0 rfl (Ee b (eh a)) ⟨⟨⟨rfl,rfl⟩,rfl⟩,rfl,t2,t2,trivial⟩ ?_;try conv=>cbv
 refine fun _=>⟨⟨⟨t3,trivial⟩,rfl,by simp⟩,rfl⟩
theorem eY {P C:List Int} {V:List Ex} {AU:List Int} {f:List LR} {d:LR} (he:e1=if r=0 then 6 else 0) (k:CF 70 [.agg (Ay f d)] (.one (.int .i64 r))):DV Tryz.prog 143 [.one (.Ae 0 0 0),.agg (IB Ta Aa Tb Ab),.agg (Ay f d)] (.var 0 (Dh kd P C V sd vl AU Ap cr 0)) (.agg [.int .i64 2,E6,E7,E6,E7,E6,E7,E6,E7,E6,E7,.sl (.sl AA) Ta,.sl AA Aa,.sl (.sl AA) Tb,.sl AA Ab,.sl (.sl AA) f,.sl AA d,E6,E7,E6,E7]) (.var 0 (Dh kd P C V sd vl AU Ap cr e1)):=by
 refine Eg Tryz.func143 (by kernel_rfl) rfl fun E j=>?_
 conv=>cbv
 refine Cc ?_;conv=>cbv
 refine AB j k ?_;conv=>cbv
 intro h b;conv=>cbv
 refine .inr ?_;cases h <;> conv=>cbv
 ·have a:=AN b;refine fun _=>⟨⟨⟨⟨rfl,rfl,Bo,Bo,Bo,Bo,Bo,Bo,Bo,Bo,Bo,Bo,rfl,rfl,rfl,rfl,rfl,rfl,Bo,Bo,Bo,Bo,trivial⟩,trivial⟩,rfl,by simp⟩,by rw[he,if_neg a];rfl⟩
 have a:=AO b;refine fun _=>⟨⟨⟨⟨rfl,rfl,Bo,Bo,Bo,Bo,Bo,Bo,Bo,Bo,Bo,Bo,rfl,rfl,rfl,rfl,rfl,rfl,Bo,Bo,Bo,Bo,trivial⟩,trivial⟩,rfl,by simp⟩,by rw[he,if_pos a];rfl⟩
abbrev Ph (kd:Int) (P C:List Int) (V:List Ex) (sd:Int) (vl:LR) (AU:List Int) (Ap:Int) (cr:List (el An)) (e:Int):el GK:=((kd,P,C,V,sd),vl,AU,Ap,cr,e)
def G7 (p:Int->Bool):Nat->List Int->Int
 | _,[]=> -1
 | i,x::r=>if p x=true then (i:Int) else G7 p (i+1) r
theorem Tp {p:Int->Bool} {X:List Int} {i:Nat} {x:Int} (h:X[i]? =some x):G7 p i (X.drop i)=if p x=true then (i:Int) else G7 p (i+1) (X.drop (i+1)):=by
 have a:=Dm h;rw[List.drop_eq_getElem_cons a,G7];rw[List.getElem?_eq_getElem a] at h;rw[Option.some.inj h]
theorem To (p:Int->Bool):∀(l:List Int) (i:Nat),decide (G7 p i l >= 0)=l.any p
 | [],i=>rfl
 | x::r,i=>by
  rw[G7,List.any_cons]
  by_cases e:p x=true
  ·rw[if_pos e,e];simp
  rw[if_neg e,To p r (i+1),Bool.eq_false_iff.2 e];rfl
theorem Xk {X:List Int} {s:el GK} {p:Int->Bool} (A:∀x∈X,CF g [.one (.int .i64 x),.one (.BW .i64 Gy 0),.one (.BW (.rf GK) s 0)] (.one (.bool (p x)))) (D:r=G7 p 0 X):CF 232 [.one (.sl .i64 X),.one (.CJ g [⟨.i64,Gy⟩,⟨(.rf GK),s⟩])] (.one (.int .i64 r)):=by
 refine CA Tryz.func232 (by kernel_rfl) rfl fun E z=>?_
 conv=>cbv
 intro H o;have J:=o.eq;have f7:=o.le;conv=>cbv
 refine .inr ?_;obtain⟨v,f⟩:=xJ fun vs w k=>∃(d:Nat) (L j:Int),vs=[.one (.sl .i64 X),.one (.CJ g [⟨.i64,Gy⟩,⟨.rf GK,s⟩]),.one (.int .i64 L),.one (.int .i64 j)]/\(Cl L X.length/\AR j d/\d<=X.length)/\r=G7 p d (X.drop d)/\k=X.length-d
 refine⟨[],[0,1,7,8],[],v,⟨X.length-0,by rw[f];exact⟨0,H,0,rfl,⟨o,Ak 0,by omega⟩,D,rfl⟩⟩,?_⟩;intro vs w G n;rw[f] at n;obtain⟨d,L,j,rfl,⟨u,n,B⟩,hinv,C⟩:=n;conv=>cbv
 have K:=u.eq;have M:=n.eq;intro I t;conv=>cbv
 cases I <;> conv=>cbv
 ·have F:=AY t;exact AD ⟨⟨rfl,congrArg _ (by rw[hinv,List.drop_eq_nil_of_le (by omega)];rfl),trivial⟩,trivial⟩
 have F:=AZ t;refine .inr ?_;obtain⟨h,a⟩:=AL (l:=X) (i:=d) (by omega);refine⟨h,fun _=>⟨by omega,by rw[show (j).toNat=d by omega];exact a⟩,?_⟩;try conv=>cbv
 obtain⟨m,b⟩:=xB (p h);refine cL (args:= [.one (.int .i64 h),.one (.BW .i64 Gy 0),.one (.BW (.rf GK) s 0)]) (r:= .one (.bool m)) z ((by rw[b];exact A h (List.mem_of_getElem? a))) ⟨rfl,rfl,rfl,trivial⟩ ?_;try conv=>cbv
 cases m <;> conv=>cbv
 ·intro q y;conv=>cbv
  refine AI ?_;refine⟨X.length-(d+1),?_,?_⟩
  ·omega
  rw[f];exact⟨d+1,L,q,rfl,⟨u,⟨by omega⟩,by omega⟩,hinv.trans ((Tp a).trans (by rw[<-b];rfl)),rfl⟩
 exact AD ⟨⟨rfl,congrArg _ (by rw[hinv,Tp a,<-b,if_pos rfl];omega),trivial⟩,trivial⟩
theorem XY {X:List Int} {b:el GK} {p:Int->Bool} (j:∀x∈X,CF g [.one (.int .i64 x),.one (.BW .i64 Gy 0),.one (.BW (.rf GK) b 0)] (.one (.bool (p x)))) {c:Bool} (h:c=X.any p):CF 138 [.one (.sl .i64 X),.one (.CJ g [⟨.i64,Gy⟩,⟨(.rf GK),b⟩])] (.one (.bool c)):=by
 refine CA Tryz.func138 (by kernel_rfl) rfl fun E f=>?_
 conv=>cbv
 obtain⟨m,a⟩:=xI (G7 p 0 X);refine cL f (Xk j a) ⟨rfl,rfl,trivial⟩ ?_;conv=>cbv
 intro k d;conv=>cbv
 exact AD ⟨⟨rfl,congrArg _ (by rw[h,d,a];exact (To p X 0).symm),trivial⟩,trivial⟩
theorem eu {P C:List Int} {V:List Ex} {AU:List Int} {q b:Bool} (x:0<=Ap/\Ap<=1000000) (p:CF 138 [.one (.sl .i64 C),.one (.CJ 139 [⟨.i64,Gy⟩,⟨.rf GK,(Ph kd P C V sd vl AU Ap cr e)⟩])] (.one (.bool q))) (j:b=(decide ((cr.length:Int)=2*Ap+(AU.length:Nat))&& !q)):DV Tryz.prog 67 [.one (.Ae 0 0 0),.one (.int .i64 Gy)] (.var 0 (Dh kd P C V sd vl AU Ap cr e)) (.one (.bool b)) (.var 0 (Dh kd P C V sd vl AU Ap cr e)):=by
 refine Eg Tryz.func67 (by kernel_rfl) rfl fun E o=>?_
 conv=>cbv
 rintro y ⟨w,f9⟩;conv=>cbv
 intro s m;conv=>cbv
 refine AI ?_;rintro t ⟨k,f19⟩;conv=>cbv
 intro u n;conv=>cbv
 refine AI ?_;intro h a;conv=>cbv
 refine BO ?_;cases h <;> conv=>cbv
 ·have f:=BY a;refine .inr (.inr (.inr (.inr (.inr (.inl ⟨[0],[.one (.sl .i64 C),.one (.CJ 139 [⟨.i64,Gy⟩,⟨(.rf GK),(Ph kd P C V sd vl AU Ap cr e)⟩])],.one (.bool q),fun _=>⟨rfl,⟨[⟨.i64,Gy⟩,⟨(.rf GK),(Ph kd P C V sd vl AU Ap cr e)⟩],⟨rfl,⟨0,0,by simp,rfl,rfl⟩,trivial⟩,rfl⟩,trivial⟩,fun _=>ES o (LP rfl p),?_⟩)))));try conv=>cbv
  intro v d;conv=>cbv
  refine fun _=>⟨⟨⟨⟨rfl,congrArg _ (by rw[j,decide_eq_true (by omega),d];rfl),trivial⟩,trivial⟩,rfl,by simp⟩,rfl⟩
 have f:=BZ a;refine fun _=>⟨⟨⟨⟨rfl,congrArg _ (by rw[j,decide_eq_false (by omega)];rfl),trivial⟩,trivial⟩,rfl,by simp⟩,rfl⟩
end Go.Abs
