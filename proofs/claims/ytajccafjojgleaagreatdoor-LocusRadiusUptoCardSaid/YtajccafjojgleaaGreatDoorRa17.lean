/- Part 18 of a proof. Conditions: each theorem's own. -/
import Derived.Test.YtajccafjojgleaaGreatDoorRa16
set_option linter.all false
set_option maxHeartbeats 80000000
set_option maxRecDepth 20000
open Go.Proofs
namespace Go.Abs
open Go.RowKit
section
variable {L U X Y Z c d:List (el AS)} {N i:Int} {b e f m n:Nat} {b1 b2:Bool} {l1 l2:List UInt32} {x:Rat}
theorem fQ {a b:List Int} {r:Int} (ha:(∀v∈a,0<=v/\v<1000)) (hb:(∀v∈b,0<=v/\v<1000)) (t:r=Gp a b):CF 198 [.one (.sl .i64 a),.one (.sl .i64 b)] (AH r):=by
 refine AM Tryz.func198 fun E hE=>?_
 rintro n7 ⟨e7,f7⟩ n9 ⟨e9,f9⟩;refine Gn (fun u=>?_) fun u=>?_
 ·rintro a5 ⟨H,f12⟩ a6 ⟨I,f14⟩ a7 K;exact AL (by rw[t,jo AA];omega)
 refine BI [] [0,1,5] [] (fun vs G k=>∃(i':Nat) (i:Int),vs=[.one (.sl .i64 a),.one (.sl .i64 b),AH i]/\G=[]/\(AR i i'/\i'<=a.length)/\HA (a.drop i') (b.drop i')=HA a b/\k=a.length-i') (a.length-0) ⟨0,0,rfl,rfl,⟨BD 0,AA⟩,rfl,rfl⟩ ?_;rintro J0 q vs G T ⟨i',i,rfl,rfl,⟨Q,R⟩,s,S⟩;have ei:=Q.eq;refine AW ?_;rintro a8 ⟨J,f18⟩;refine BQ (fun w=>?_) fun w=>?_
 ·exact AL (by rw[t,Xi AA,<-s,List.drop_of_length_le AA,jm])
 refine .inr ?_;refine Ae i' fun A g=>?_
 try conv=>cbv
 refine Ae i' fun B h=>?_
 try conv=>cbv
 have a1:=ha _ (List.mem_of_getElem? g);have a2:=hb _ (List.mem_of_getElem? h);intro z j;conv=>cbv
 refine⟨fun _=>by kernel_rfl,?_⟩;cases z <;> conv=>cbv
 ·have p:=Ji j;refine AK ?_;intro y M;exact BT q ⟨i'+1,y,rfl,rfl,⟨⟨AA⟩,AA⟩,by rw[<-s,Xg (i:=i') g h,if_neg AA],rfl⟩
 have p:=Jj j;refine Ae i' fun D l=>?_
 try conv=>cbv
 refine Ae i' fun F o=>?_
 try conv=>cbv
 have ab:@Eq Int D A:=Option.some.inj (l.symm.trans g);have ad:@Eq Int F B:=Option.some.inj (o.symm.trans h);refine AK ?_;intro aa O;exact AL (by rw[t,Xi AA,<-s,Xg (i:=i') g h,if_pos p];omega)
theorem sx {l L:List Int} (hl:l.length<=100000) (hL:L=CQ l):CF 197 [.one (.sl .i64 l)] (.one (.sl .i64 L)):=by
 refine AM Tryz.func197 fun E hE=>?_
 refine⟨[],fun _=>⟨rfl,AE,rfl,trivial⟩,.inl ?_⟩;try conv=>cbv
 refine .inl ⟨l,fun _=>⟨rfl,by (first | rfl | omega),rfl,B5 (0+l.length) 8⟩,?_⟩;intro (l8:List (el .i64)) S M;have v:l8=([]:List (el .i64))++(l:List (el .i64)):=M.1;have a6:S=List.length (α:=(el .i64)) l8:=M.2;conv=>cbv
 refine BI [] [3,4] [6] (fun vs D k=>∃(o:List Int) (i':Nat) (i:Int),vs=[.one (.AU .i64 6 0 0 S),AH i]/\D=[.arr 0 .i64 o]/\(AR i i'/\i'<=l.length/\o.length=l.length)/\o=CQ (l.take i')++l.drop i'/\k=l.length-i') (l.length-0) ⟨l8,0,0,rfl,rfl,⟨BD 0,AA,by rw[v];rfl⟩,by rw[v];rfl,rfl⟩ ?_;rintro J0 G vs D aE ⟨o,i',i,rfl,rfl,⟨hi,ay,aC⟩,ho,az⟩;conv=>cbv
 have ei:=hi.eq;have aB:S=l.length:=by rw[a6,v];rfl
 intro aG T;have aq:=T.eq;conv=>cbv
 refine BQ (fun a7=>?_) fun a7=>?_
 ·exact AN ⟨⟨rfl,.inl ⟨_,rfl,AA,congrArg _ (by rw[hL,List.drop_zero,List.take_of_length_le AA,rJ ho AA])⟩,trivial⟩,trivial⟩
 refine .inr ?_;refine BI [] [3,4,5] [6] (fun vs D k=>∃(a:List Int) (k':Nat) (kk:Int),vs=[.one (.AU .i64 6 0 0 S),AH i,AH kk]/\D=[.arr 0 .i64 a]/\AR kk k'/\FF l a i' k'/\k=k') i' ⟨o,i',i,rfl,rfl,hi,FF.start ho AA,rfl⟩ ?_;rintro J1 a2 vs D aF ⟨a,k',kk,rfl,rfl,a5,R,aA⟩;conv=>cbv
 have ar:=a5.eq;obtain⟨H,aD⟩:=R.len;refine FC (fun a8=>?_) fun a8=>?_
 ·refine AK ?_;intro B a1;exact BT G ⟨a,i'+1,B,rfl,rfl,⟨⟨AA⟩,AA,H⟩,FF.zero (by rw[<-show k'=0 by omega];exact R),rfl⟩
 intro aH au w ai;obtain⟨O,g⟩:=Bj (l:=a) (i:=w) AA;refine⟨O,fun _=>g,?_⟩;refine AK ?_;intro y aj;obtain⟨Q,h⟩:=Bj (l:=a) (i:=y) AA;refine⟨Q,fun _=>h,?_⟩;refine AW ?_;intro ab F;refine⟨fun _=>by kernel_rfl,?_⟩;cases ab <;> conv=>cbv
 ·have aa:=Fi F;refine AK ?_;intro B a1;exact BT G ⟨a,i'+1,B,rfl,rfl,⟨⟨AA⟩,AA,H⟩,R.le2 AA (by rw[(AA:k'-1=w)];exact g) (by rw[(AA:k'=y)];exact h) AA,rfl⟩
 have aa:=Fj F;refine .inr ?_;refine AK ?_;intro aI aw z ak;obtain⟨r,j⟩:=Bj (l:=a) (i:=z) AA;refine⟨r,fun _=>j,?_⟩;refine AK ?_;intro aJ ax A al;obtain⟨s,p⟩:=Bj (l:=a) (i:=A) AA;refine⟨s,fun _=>p,?_⟩;try conv=>cbv
 have af:s=O:=Option.some.inj (p.symm.trans (by rw[(AA:A=w)];exact g));have ae:r=Q:=Option.some.inj (j.symm.trans (by rw[(AA:z=y)];exact h));refine AK ?_;intro I an;refine⟨r,fun _=>⟨by show _<List.length (α:=(el .i64)) a;(first | omega | (simp;omega)),C5⟩,?_⟩;intro (q:List (el .i64)) (t:q=List.set (α:=(el .i64)) a I r);have ag:q.length=a.length:=by rw[t,List.length_set]
 refine AK ?_;intro J ao;refine⟨s,fun _=>⟨by show _<List.length (α:=(el .i64)) q;(first | omega | (simp;omega)),C5⟩,?_⟩;intro (K:List (el .i64)) (u:K=List.set (α:=(el .i64)) q J s);have ah:K.length=q.length:=by rw[u,List.length_set]
 conv=>cbv
 refine⟨fun _=>by kernel_rfl,?_⟩;refine AK ?_;intro ad av;exact BT a2 ⟨_,k'-1,ad,rfl,rfl,⟨AA⟩,by rw[u,t,(AA:I=k'-1),(AA:J=k')];exact R.gt2 AA (by rw[(AA:k'-1=A)];exact p) (by rw[(AA:k'=z)];exact j) (by rw[ae,af];omega),rfl⟩
theorem RT {l:List Mo} {lc:List (el AS)} {nl:Nat} (h:HT l) (hl:lc=BN l) (c6:nl=lc.length) (hL:L=BN (Ho l)):Dn Tryz.prog 143 [.one (.AU AS 0 0 0 nl)] (.arr 0 AS lc) (.one (.sl AS L)):=by
 have c4:lc.length=l.length:=by rw[hl,IG]
 have c5:=h.len;refine Fx Tryz.func143 fun E hE=>?_
 conv=>cbv
 refine⟨[],fun _=>⟨rfl,AE,rfl,trivial⟩,.inl ?_⟩;try conv=>cbv
 refine BI [(3,AS,true)] [0,3,4] [0,3,68] (fun vs bl k=>∃(o:List Mo) (c:List (el AS)) (X:AV) (B3 ay:Af) (m i':Nat) (i:Int),vs=[.one (.AU AS 0 0 0 nl),X,AH i]/\bl=[.arr 0 AS lc,B3,ay]/\(AR i i'/\i'<=l.length/\m=c.length)/\(c=BN o/\o=Hn (l.take i'))/\((X= .one (.AU AS 3 0 0 m)/\B3= .arr 0 AS c)\/(X= .one (.AU AS 68 0 0 m)/\ay= .arr 0 AS c/\∃c3,B3= .arr 0 AS c3))/\k=l.length-i') (l.length-0) ⟨[],[],_,_,_,0,0,0,rfl,rfl,⟨BD 0,AA,rfl⟩,⟨rfl,rfl⟩,.inl ⟨rfl,rfl⟩,rfl⟩ ?_;rintro J0 aC vs bl c7 ⟨o,c,X,B3,ay,m,i',i,rfl,rfl,⟨hi,bX,hm⟩,⟨hc,ho⟩,hX,bZ⟩;conv=>cbv
 have ei:=hi.eq;obtain⟨T,bw⟩:=h.pre i';rw[<-ho] at T bw;have bt:c.length=o.length:=by rw[hc,IG]
 intro cb bq;have bR:=bq.eq;conv=>cbv
 refine BQ (fun bA=>?_) fun bA=>?_
 ·refine⟨[],fun _=>⟨rfl,AE,rfl,trivial⟩,.inl ?_⟩;try conv=>cbv
  refine .inr ?_;obtain⟨J2,aj⟩:=xJ fun vs bl k=>∃(K:List (el AS)) (n j':Nat) (j:Int),vs=[.one (.sl AS c),.one (.AU AS 88 0 0 n),AH j]/\bl=[.arr 0 AS lc,.arr 0 AS K]/\(AR j j'/\j'<=c.length/\n=K.length)/\K=BN (IC o j')/\k=c.length-j'
  refine⟨[(3,AS,false)],[3,8,9],[0,88],J2,⟨c.length-0,by rw[aj];exact (by rcases hX with⟨rfl,rfl⟩ |⟨rfl,rfl,c3,rfl⟩ <;> exact⟨[],0,0,0,congrArg (fun z:AV=>([z,.one (.AU AS 88 0 0 0),AH 0]:List AV)) (qQ hm),rfl,⟨BD 0,AA,rfl⟩,rfl,rfl⟩)⟩,?_⟩;intro vs bl c9 hj;rw[aj] at hj;obtain⟨K,n,j',j,rfl,rfl,⟨hj,bY,hn⟩,hK,c1⟩:=hj;conv=>cbv
  have ej:=hj.eq;have bW:K.length<=c.length:=by rw[hK,IG,bt];exact my _ _
  rintro cd ⟨bT,f91⟩;conv=>cbv
  refine BQ (fun bE=>?_) fun bE=>?_
  ·refine fun _=>⟨⟨⟨⟨rfl,.inl ⟨_,rfl,AA,congrArg _ (by rw[hL,List.drop_zero,hn,List.take_length,hK,mu AA,ho,List.take_of_length_le AA];rfl)⟩,trivial⟩,trivial⟩,rfl,Ai⟩,rfl⟩
  refine .inr ?_;obtain⟨g,a6⟩:=Bj (l:=c) (i:=j.toNat) AA;obtain⟨ba,Q,aq⟩:=IF (by rw[<-hc];exact a6);rw[(AA:j.toNat=j')] at Q;obtain⟨bQ,_⟩:=T ba (List.mem_of_getElem? Q);refine Cj a6 ?_;obtain⟨bf,H⟩:∃z,z=Dm ba.1:=⟨_,rfl⟩
  refine AB (r:= .one (.int .i64 bf)) hE (On (by rw[aq];exact FL _) H) ?_;intro bb an;refine .inr ?_;cases bb <;> conv=>cbv
  ·have b9:=Ji an;refine AK ?_;intro aN bs;exact BT aj ⟨K,n,j'+1,aN,rfl,rfl,⟨⟨AA⟩,AA,hn⟩,by rw[mw Q ((dI H).1 AA)];exact hK,rfl⟩
  have b9:=Jj an;refine Cj a6 ?_;refine⟨[(((g.1.1.1,g.1.1.2),(g.1.2.1,g.1.2.2)),g.2)],fun _=>⟨rfl,AE,rfl,Ao⟩,.inl ?_⟩;try conv=>cbv
  refine .inl ⟨[(((g.1.1.1,g.1.1.2),(g.1.2.1,g.1.2.2)),g.2)],fun _=>⟨rfl,by (first | rfl | omega),⟨_,rfl,by simp <;> omega,Ai⟩,B5 (K.length+1) 88⟩,?_⟩;intro (a8:List (el AS)) ax ad;have aE:a8=(K:List (el AS))++([(((g.1.1.1,g.1.1.2),(g.1.2.1,g.1.2.2)),g.2)]:List (el AS)):=ad.1;have aF:ax=List.length (α:=(el AS)) a8:=ad.2;refine AK ?_;intro aN bs;exact BT aj ⟨a8,ax,j'+1,aN,rfl,rfl,⟨⟨AA⟩,AA,aF⟩,by rw[mz Q (fun e=>by have:=(dI H).2 e;omega)];exact nf hK aq aE,rfl⟩
 refine .inr ?_;obtain⟨a,A⟩:=Bj (l:=lc) (i:=i') AA;obtain⟨ak,O,M⟩:=IF (by rw[<-hl];exact A);obtain⟨⟨b6,b5⟩,bH⟩:=h.at (List.mem_of_getElem? O);have bc:a.2=ak.2:=by rw[M]
 refine AK ?_;intro bx bJ;refine⟨a,fun _=>(by rw[(AA:bx=i')];exact A),?_⟩;try conv=>cbv
 obtain⟨q,av⟩:∃z:List Int,z=CQ a.2:=⟨_,rfl⟩
 have hv:q=CQ ak.2:=by rw[av,bc]
 have b7:∀v∈q,0<=v/\v<1000:=fun v hm=>b5 v ((MV ak.2).mem_iff.1 (by rw[<-hv];exact hm))
 refine AB (r:= .one (.sl .i64 q)) hE (sx (by show List.length (Prod.snd _)<=_;rw[bc];omega) av) ?_;refine .inr ?_;obtain⟨J1,aD⟩:=xJ fun vs bl k=>∃(k':Nat) (kk:Int),vs=[.one (.AU AS 0 0 0 nl),.one (.AU AS 3 0 0 m),AH i,.one (.sl .i64 q),AH kk]/\bl=[.arr 0 AS lc,.arr 0 AS c]/\(AR kk k'/\k'<=c.length)/\HS q o k'/\k=c.length-k'
 refine⟨[(3,AS,true)],[0,3,4,5,6],[0,3],J1,⟨c.length-0,by rw[aD];exact (by rcases hX with⟨rfl,rfl⟩ |⟨rfl,rfl,c3,rfl⟩ <;> exact⟨0,0,rfl,rfl,⟨BD 0,AA⟩,HS.zero,rfl⟩)⟩,?_⟩;intro vs bl c8 hj;rw[aD] at hj;obtain⟨k',kk,rfl,rfl,⟨bu,c2⟩,hP,c0⟩:=hj;conv=>cbv
 have bU:=bu.eq;intro cc br;have bS:=br.eq;conv=>cbv
 refine BQ (fun bB=>?_) fun bB=>?_
 ·intro bG aB;have bo:=aB.eq;conv=>cbv
  refine DF (fun a7=>?_) fun a7=>?_
  ·exact absurd a7 AA
  refine⟨[],fun _=>⟨rfl,AE,rfl,trivial⟩,.inl ?_⟩;refine AK ?_;rintro bk aT aO az ⟨b3,aV⟩;refine .inl ⟨c.take k',fun _=>⟨rfl,by (first | rfl | omega),⟨_,rfl,AA,by rw[(AA:aO=0),(AA:az=k')];rfl⟩,by show (0+(c.take k').length)*88<=140737488355328;(try simp only[List.length_take,List.length_drop]);omega⟩,?_⟩;intro (t:List (el AS)) aL D;have w:t=([]:List (el AS))++(c.take k':List (el AS)):=D.1;have aZ:aL=List.length (α:=(el AS)) t:=D.2;refine AK ?_;intro aI aY;refine⟨a,fun _=>(by rw[(AA:aI=i')];exact A),?_⟩;try conv=>cbv
  refine⟨[(((a.1.1.1,a.1.1.2),(a.1.2.1,a.1.2.2)),q)],fun _=>⟨rfl,AE,rfl,Ao⟩,.inl ?_⟩;try conv=>cbv
  have aA:t.length=k':=by rw[w,List.nil_append,List.length_take];omega
  refine .inl ⟨[(((a.1.1.1,a.1.1.2),(a.1.2.1,a.1.2.2)),q)],fun _=>⟨rfl,by (first | rfl | omega),⟨_,rfl,Nat.le_refl _,rfl⟩,B5 (t.length+1) 88⟩,?_⟩;intro (u:List (el AS)) aM F;have y:u=(t:List (el AS))++([(((a.1.1.1,a.1.1.2),(a.1.2.1,a.1.2.2)),q)]:List (el AS)):=F.1;have b0:aM=List.length (α:=(el AS)) u:=F.2;refine AK ?_;rintro bj bm ⟨aS,aU⟩ aP bn ⟨b4,aW⟩;have bp:u.length=k'+1:=by rw[y,List.length_append,aA];rfl
  refine .inl ⟨c.drop k',fun _=>⟨rfl,by (first | rfl | omega),⟨_,rfl,AA,by rw[(AA:aP=k'),List.take_of_length_le (by rw[List.length_drop];omega)];rfl⟩,by show (u.length+(c.drop k').length)*88<=140737488355328;(try simp only[List.length_take,List.length_drop]);omega⟩,?_⟩;intro (I:List (el AS)) ab G;have R:I=(u:List (el AS))++(c.drop k':List (el AS)):=G.1;have S:ab=List.length (α:=(el AS)) I:=G.2;refine AK ?_;intro aa aR;exact BT aC ⟨_,I,_,_,_,ab,i'+1,aa,rfl,rfl,⟨⟨AA⟩,AA,S⟩,⟨ZM hc M hv w y R,by rw[ho,VO O,<-ho];exact (W9 (k:=k') (by rw[<-hv];exact hP.stop (.inl AA)) (fun z hz=>by have:=Dg hz;omega)).symm⟩,.inr ⟨rfl,rfl,_,rfl⟩,rfl⟩
 intro B bK;obtain⟨al,a1⟩:=Bj (l:=c) (i:=B) AA;refine⟨al,fun _=>a1,?_⟩;try conv=>cbv
 obtain⟨m32,p,aX⟩:=IF (by rw[<-hc];exact a1);have J:al.2=m32.2:=by rw[aX]
 obtain⟨bg,s⟩:∃z,z=Gp al.2 q:=⟨_,rfl⟩
 refine AB (r:= .one (.int .i64 bg)) hE (fQ (by have q:=(T m32 (List.mem_of_getElem? p)).2;rw[<-J] at q;exact q) b7 s) ?_;refine DF (fun bC=>?_) fun bC=>?_
 ·refine .inr ?_;refine AK ?_;intro bF bV;exact BT aD ⟨k'+1,bF,rfl,rfl,⟨⟨AA⟩,AA⟩,hP.up (show o[k']? =some m32 by rw[(AA:k'=B)];exact p) (by rw[<-J,<-s];omega),rfl⟩
 intro bG aB;have bo:=aB.eq;conv=>cbv
 refine BQ (fun a7=>?_) fun a7=>?_
 ·exact absurd a7 AA
 intro b8 bL;obtain⟨bh,a2⟩:=Bj (l:=c) (i:=b8) AA;refine⟨bh,fun _=>a2,?_⟩;try conv=>cbv
 obtain⟨ca,bP,bI⟩:=IF (by rw[<-hc];exact a2);refine AB (r:= .one (.int .i64 bg)) hE ((by rw[show bh=al from Option.some.inj (a2.symm.trans (by rw[(AA:b8=B)];exact a1))];exact fQ (by have q:=(T m32 (List.mem_of_getElem? p)).2;rw[<-J] at q;exact q) b7 s)) ?_;refine BS (fun bD=>?_) fun bD=>?_
 ·intro aG bM;obtain⟨ae,a5⟩:=Bj (l:=c) (i:=aG) AA;refine⟨ae,fun _=>a5,?_⟩;refine AK ?_;intro bz bN;refine⟨a,fun _=>(by rw[(AA:bz=i')];exact A),?_⟩;try conv=>cbv
  obtain⟨aK,au,ao⟩:=IF (by rw[<-hc];exact a5);have bd:aK=m32:=Option.some.inj (au.symm.trans (by rw[(AA:aG=B)];exact p));obtain⟨ah,ai,af,ag,aw⟩:=By (aK.1+ak.1);refine AB (r:= .agg [.bool ah,.sl .u32 ai,.bool af,.sl .u32 ag]) hE (Wc (by rw[ao];exact FL _) (by rw[M];exact FL _) (T aK (List.mem_of_getElem? au)).1 b6 rfl aw) ?_;intro aH bO;refine⟨ae,(((ah,ai),(af,ag)),ae.2),fun _=>⟨(by rw[(AA:aH=aG)];exact a5),rfl,Ao⟩,?_⟩;intro (aJ:List (el AS)) (ar:aJ=List.set (α:=(el AS)) c aH ((((ah,ai),(af,ag)),ae.2)));have aQ:aJ.length=c.length:=by rw[ar,List.length_set]
  conv=>cbv
  refine⟨fun _=>by kernel_rfl,?_⟩;refine AK ?_;intro aa aR;exact BT aC ⟨_,aJ,_,_,_,m,i'+1,aa,rfl,rfl,⟨⟨AA⟩,AA,by rw[aQ];exact hm⟩,⟨qS (m:=m32) hc aw (show ae.2=m32.2 by rw[ao,bd]) (by rw[ar,(AA:aH=k')]),by rw[ho,VO O,<-ho,jR (k:=k') (by rw[<-hv];exact hP.stop (.inr ⟨m32,(show o[k']? =some m32 by rw[(AA:k'=B)];exact p),by rw[<-J,<-s];omega⟩)) (show o[k']? =some m32 by rw[(AA:k'=B)];exact p) (by rw[<-hv,<-J,<-s];omega),bd]⟩,.inl ⟨rfl,rfl⟩,rfl⟩
 refine⟨[],fun _=>⟨rfl,AE,rfl,trivial⟩,.inl ?_⟩;refine AK ?_;rintro bk aT aO az ⟨b3,aV⟩;refine .inl ⟨c.take k',fun _=>⟨rfl,by (first | rfl | omega),⟨_,rfl,AA,by rw[(AA:aO=0),(AA:az=k')];rfl⟩,by show (0+(c.take k').length)*88<=140737488355328;(try simp only[List.length_take,List.length_drop]);omega⟩,?_⟩;intro (t:List (el AS)) aL D;have w:t=([]:List (el AS))++(c.take k':List (el AS)):=D.1;have aZ:aL=List.length (α:=(el AS)) t:=D.2;refine AK ?_;intro aI aY;refine⟨a,fun _=>(by rw[(AA:aI=i')];exact A),?_⟩;try conv=>cbv
 refine⟨[(((a.1.1.1,a.1.1.2),(a.1.2.1,a.1.2.2)),q)],fun _=>⟨rfl,AE,rfl,Ao⟩,.inl ?_⟩;try conv=>cbv
 have aA:t.length=k':=by rw[w,List.nil_append,List.length_take];omega
 refine .inl ⟨[(((a.1.1.1,a.1.1.2),(a.1.2.1,a.1.2.2)),q)],fun _=>⟨rfl,by (first | rfl | omega),⟨_,rfl,Nat.le_refl _,rfl⟩,B5 (t.length+1) 88⟩,?_⟩;intro (u:List (el AS)) aM F;have y:u=(t:List (el AS))++([(((a.1.1.1,a.1.1.2),(a.1.2.1,a.1.2.2)),q)]:List (el AS)):=F.1;have b0:aM=List.length (α:=(el AS)) u:=F.2;refine AK ?_;rintro bj bm ⟨aS,aU⟩ aP bn ⟨b4,aW⟩;have bp:u.length=k'+1:=by rw[y,List.length_append,aA];rfl
 refine .inl ⟨c.drop k',fun _=>⟨rfl,by (first | rfl | omega),⟨_,rfl,AA,by rw[(AA:aP=k'),List.take_of_length_le (by rw[List.length_drop];omega)];rfl⟩,by show (u.length+(c.drop k').length)*88<=140737488355328;(try simp only[List.length_take,List.length_drop]);omega⟩,?_⟩;intro (I:List (el AS)) ab G;have R:I=(u:List (el AS))++(c.drop k':List (el AS)):=G.1;have S:ab=List.length (α:=(el AS)) I:=G.2;refine AK ?_;intro aa aR;exact BT aC ⟨_,I,_,_,_,ab,i'+1,aa,rfl,rfl,⟨⟨AA⟩,AA,S⟩,⟨ZM hc M hv w y R,by rw[ho,VO O,<-ho];exact (W9 (k:=k') (by rw[<-hv];exact hP.stop (.inr ⟨m32,(show o[k']? =some m32 by rw[(AA:k'=B)];exact p),by rw[<-J,<-s];omega⟩)) (fun z hz=>by rw[<-Option.some.inj ((show o[k']? =some m32 by rw[(AA:k'=B)];exact p).symm.trans hz),<-hv,<-J,<-s];omega)).symm⟩,.inr ⟨rfl,rfl,_,rfl⟩,rfl⟩
theorem Vo {p q:List Mo} (t:PV n e b 1000 p) (u:PV m e b 1000 q) (z:n+m<=100000) (he:e<=100) (hb:(b+1)*(n+m+1)<=60000000000000) (r:c=BN p) (s:d=BN q) (y:L=BN (EW p q)):CF 86 [.one (.sl AS c),.one (.sl AS d)] (.one (.sl AS L)):=by
 have lc:c.length<=n:=by rw[r,IG];exact t.pb.len
 have ld:d.length<=m:=by rw[s,IG];exact u.pb.len
 refine AM Tryz.func86 fun E w=>?_
 refine⟨[],fun _=>⟨rfl,AE,rfl,trivial⟩,.inl ?_⟩;try conv=>cbv
 refine .inl ⟨c,fun _=>⟨rfl,by (first | rfl | omega),rfl,B5 (0+c.length) 88⟩,?_⟩;intro (g:List (el AS)) B h;have a:g=([]:List (el AS))++(c:List (el AS)):=h.1;have A:B=List.length (α:=(el AS)) g:=h.2;conv=>cbv
 have D:g.length=c.length:=by rw[a];rfl
 refine .inl ⟨d,fun _=>⟨rfl,by (first | rfl | omega),rfl,B5 (g.length+d.length) 88⟩,?_⟩;intro (o:List (el AS)) v j;have k:o=(g:List (el AS))++(d:List (el AS)):=j.1;have l:v=List.length (α:=(el AS)) o:=j.2;conv=>cbv
 refine .inr (.inr (.inr (.inl ⟨5,.arr 3 AS o,[.one (.AU AS 0 0 0 v)],.one (.sl AS L),Ao,fun _=>Fq w (RT (qg t u z he hb) (by rw[k,a,r,s,UA];rfl) l (by rw[y];rfl)),?_⟩)));try conv=>cbv
 exact AN ⟨t2,trivial⟩
theorem sw {p:List Mo} (G:PV n e b 1000 p) (hx:BV x b1 l1 b2 l2) (hf:Bd f [x]) (hn:n<=100000) (he:e<=100) (hb:(b+f+1)*(n+1)<=60000000000000) (Q:c=BN p) (S:L=BN (Iy p x)):CF 144 [.one (.sl AS c),.agg (Br b1 l1 b2 l2)] (.one (.sl AS L)):=by
 have lc:c.length=p.length:=by rw[Q,IG]
 have lp:=G.pb.len;have T:b+f+1<=60000000000000:=Nat.le_trans (Nat.le_mul_of_pos_right _ (Nat.succ_pos n)) hb;refine AM Tryz.func144 fun E O=>?_
 refine BI [(5,AS,true)] [0,3,5,6] [3,5] (fun vs K k=>∃(D:List (el AS)) (m i':Nat) (i:Int),vs=[.one (.sl AS c),.one (.BE 3 0 0),.one (.AU AS 5 0 0 m),AH i]/\K=[.var 0 [.bool b1,.sl .u32 l1,.bool b2,.sl .u32 l2],.arr 0 AS D]/\(AR i i'/\i'<=p.length/\m=D.length/\D.length=i')/\D=BN ((p.take i').map fun m=>(m.1*x,m.2))/\k=p.length-i') (p.length-0) ⟨[],0,0,0,rfl,rfl,⟨BD 0,AA,rfl,rfl⟩,rfl,rfl⟩ ?_;rintro J0 F vs K a5 ⟨D,m,i',i,rfl,rfl,⟨hi,a1,hm,B⟩,M,a2⟩;have ei:=hi.eq;refine AW ?_;rintro n9 ⟨e9,f9⟩;refine BQ (fun H=>?_) fun H=>?_
 ·refine .inr (.inr (.inr (.inl ⟨5,.arr 0 AS D,[.one (.AU AS 0 0 0 m)],.one (.sl AS L),Ao,fun _=>Fq O (RT (qj G hf hn he hb) (by rw[M,List.take_of_length_le AA]) hm (by rw[S];rfl)),?_⟩)));try conv=>cbv
  exact AN ⟨t2,trivial⟩
 refine .inr ?_;obtain⟨y,q⟩:=Bj (l:=c) (i:=i.toNat) AA;obtain⟨I,o,s⟩:=IF (by rw[<-Q];exact q);rw[(AA:i.toNat=i')] at o;refine Cj q ?_;obtain⟨h,j,a,g,u⟩:=By (I.1*x);refine AB (r:= .agg [.bool h,.sl .u32 j,.bool a,.sl .u32 g]) O (Om (by rw[s];exact FL _) hx (G.at AA (List.mem_of_getElem? o)).1 (Qo hf AA) rfl u) ?_;refine Cj q ?_;refine⟨[(((h,j),(a,g)),y.2)],fun _=>⟨rfl,AE,rfl,Ao⟩,.inl ?_⟩;try conv=>cbv
 refine .inl ⟨[(((h,j),(a,g)),y.2)],fun _=>⟨rfl,by (first | rfl | omega),⟨_,rfl,by simp <;> omega,Ai⟩,B5 (D.length+1) 88⟩,?_⟩;intro (w:List (el AS)) A v;have t:w=(D:List (el AS))++([(((h,j),(a,g)),y.2)]:List (el AS)):=v.1;have z:A=List.length (α:=(el AS)) w:=v.2;conv=>cbv
 refine⟨fun _=>by kernel_rfl,?_⟩;refine AK ?_;intro J R;exact BT F ⟨w,A,i'+1,J,rfl,rfl,⟨⟨AA⟩,AA,z,by rw[t,List.length_append,B];rfl⟩,by rw[qP o];exact Zz M u (by rw[s]) t,rfl⟩
theorem KD {p q:List Mo} (v:PV n e b 1000 p) (j:PV m e f 1000 q) (hf:(f+2)*m<=b) (u:n+m<=100000) (he:e<=100) (hb:(b+1)*(n+m+1)<=60000000000000) (t:(f+2)*(m+1)<=60000000000000) (o:c=BN p) (s:d=BN q) (l:L=BN (CH p q)):CF 79 [.one (.sl AS c),.one (.sl AS d)] (.one (.sl AS L)):=by
 refine AM Tryz.func79 fun E h=>?_
 obtain⟨A,B,w,y,g⟩:=By (-1);refine AB h (Ec AA (by decide +kernel) g) ?_;obtain⟨D,a⟩:∃z:List (el AS),z=BN (Iy q (-1)):=⟨_,rfl⟩
 refine AB h (sw j g O9 AA he t s a) ?_;have k:PV m e b 1000 (Iy q (-1)):=⟨(Ud j.pb O9).mono Bi Bi hf,et j.vr⟩;refine AB (r:= .one (.sl AS L)) h (Vo v k u he hb o a (by rw[l];rfl)) ?_;exact AN ⟨t2,trivial⟩
theorem Mn {p q:List Mo} {g:Nat} (hp:PV n e b 1000 p) (hq:PV m f g 1000 q) (hn:n*m<=100000) (he:e+f<=100) (hb:(b+g+1)*(n*m+1)<=60000000000000) (hc:c=BN p) (hd:d=BN q) (hL:L=BN (Dj p q)):CF 84 [.one (.sl AS c),.one (.sl AS d)] (.one (.sl AS L)):=by
 have lc:c.length=p.length:=by rw[hc,IG]
 have ld:d.length=q.length:=by rw[hd,IG]
 have aC:b+g+1<=60000000000000:=Nat.le_trans (Nat.le_mul_of_pos_right _ (Nat.succ_pos _)) hb;have aj:p.length*q.length<=100000:=Nat.le_trans (Nat.mul_le_mul hp.pb.len hq.pb.len) hn;refine AM Tryz.func84 fun E hE=>?_
 refine BI [(5,AS,true)] [0,1,5,6] [5] (fun vs bl k=>∃(D:List (el AS)) (m1 i':Nat) (i:Int),vs=[.one (.sl AS c),.one (.sl AS d),.one (.AU AS 5 0 0 m1),AH i]/\bl=[.arr 0 AS D]/\(AR i i'/\i'<=p.length/\m1=D.length/\D.length=i'*q.length)/\D=BN ((p.take i').flatMap (fun m=>E6 m q))/\k=p.length-i') (p.length-0) ⟨[],0,0,0,rfl,rfl,⟨BD 0,AA,rfl,Ai⟩,rfl,rfl⟩ ?_;rintro J0 ag vs bl aH ⟨D,m1,i',i,rfl,rfl,⟨hi,aD,a6,af⟩,hD,aF⟩;have ei:=hi.eq;refine AW ?_;rintro aJ ⟨ay,f11⟩;refine BQ (fun ak=>?_) fun ak=>?_
 ·refine .inr (.inr (.inr (.inl ⟨5,.arr 0 AS D,[.one (.AU AS 0 0 0 m1)],.one (.sl AS L),Ao,fun _=>Fq hE (RT (qh hp hq hn he hb) (by rw[hD,List.take_of_length_le AA]) a6 (by rw[hL];rfl)),?_⟩)));try conv=>cbv
  exact AN ⟨t2,trivial⟩
 refine .inr ?_;obtain⟨G,y⟩:=Bj (l:=c) (i:=i.toNat) AA;obtain⟨F,v,t⟩:=IF (by rw[<-hc];exact y);rw[(AA:i.toNat=i')] at v;have av:=hp.at AA (List.mem_of_getElem? v);have ad:G.2=F.2:=by rw[t]
 have hmul:i'*q.length+q.length<=100000:=by rw[<-Nat.succ_mul];exact Nat.le_trans (Nat.mul_le_mul_right _ AA) aj
 refine BI [] [0,1,5,6,7] [5] (fun vs bl k=>∃(J:List (el AS)) (m2 H:Nat) (j:Int),vs=[.one (.sl AS c),.one (.sl AS d),.one (.AU AS 5 0 0 m2),AH i,AH j]/\bl=[.arr 0 AS J]/\(AR j H/\H<=q.length/\m2=J.length/\J.length=i'*q.length+H)/\J=BN ((p.take i').flatMap (fun m=>E6 m q)++E6 F (q.take H))/\k=q.length-H) (q.length-0) ⟨D,m1,0,0,rfl,rfl,⟨BD 0,AA,a6,af⟩,by rw[show E6 F (q.take 0)=[] from rfl,List.append_nil];exact hD,rfl⟩ ?_;rintro J1 ah vs bl aI ⟨J,m2,H,j,rfl,rfl,⟨hj,aE,ai,K⟩,a2,aG⟩;have ej:=hj.eq;refine AW ?_;rintro aK ⟨az,f17⟩;refine BQ (fun al=>?_) fun al=>?_
 ·intro an aA;exact BT ag ⟨J,m2,i'+1,an,rfl,rfl,⟨⟨AA⟩,AA,ai,by rw[K,Nat.succ_mul,(AA:H=q.length)]⟩,by rw[lV v,<-o9 (m:=F) (i:=H) (q:=q) AA];exact a2,rfl⟩
 refine .inr ?_;obtain⟨I,z⟩:=Bj (l:=d) (i:=j.toNat) AA;obtain⟨aa,w,u⟩:=IF (by rw[<-hd];exact z);rw[(AA:j.toNat=H)] at w;have aw:=hq.at AA (List.mem_of_getElem? w);have au:I.2=aa.2:=by rw[u]
 refine⟨[],fun _=>⟨rfl,AE,rfl,trivial⟩,.inl ?_⟩;try conv=>cbv
 refine Cj y ?_;refine .inl ⟨G.2,fun _=>⟨rfl,by (first | rfl | omega),rfl,by show (0+G.2.length)*8<=140737488355328;rw[ad];omega⟩,?_⟩;intro (A:List (el .i64)) aq R;have M:A=([]:List (el .i64))++(G.2:List (el .i64)):=R.1;have ax:aq=List.length (α:=(el .i64)) A:=R.2;conv=>cbv
 refine Cj z ?_;have ae:A.length=G.2.length:=by rw[M];rfl
 refine .inr (.inl ⟨I.2,fun _=>⟨rfl,by (first | rfl | omega),rfl,by show (A.length+I.2.length)*8<=140737488355328;rw[ae,ad,au];omega⟩,?_⟩);intro (B:List (el .i64)) ar S;have a5:B=(A:List (el .i64))++(I.2:List (el .i64)):=S.1;have a7:ar=List.length (α:=(el .i64)) B:=S.2;conv=>cbv
 refine⟨fun _=>a7,?_⟩;refine⟨fun _=>by kernel_rfl,?_⟩;refine Cj y ?_;refine Cj z ?_;obtain⟨o,s,a,h,Q⟩:=By (F.1*aa.1);refine AB (r:= .agg [.bool o,.sl .u32 s,.bool a,.sl .u32 h]) hE (Om (by rw[t];exact FL _) (by rw[u];exact FL _) av.1 aw.1 rfl Q) ?_;refine⟨[(((o,s),(a,h)),B)],fun _=>⟨rfl,AE,rfl,Ao⟩,.inl ?_⟩;try conv=>cbv
 refine .inl ⟨[(((o,s),(a,h)),B)],fun _=>⟨rfl,by (first | rfl | omega),⟨_,rfl,by simp <;> omega,Ai⟩,B5 (J.length+1) 88⟩,?_⟩;intro (a1:List (el AS)) ab T;have O:a1=(J:List (el AS))++([(((o,s),(a,h)),B)]:List (el AS)):=T.1;have a8:ab=List.length (α:=(el AS)) a1:=T.2;conv=>cbv
 refine⟨fun _=>by kernel_rfl,?_⟩;refine AK ?_;intro ao aB;exact BT ah ⟨a1,ab,H+1,ao,rfl,rfl,⟨⟨AA⟩,AA,a8,by rw[O,List.length_append,K];rfl⟩,by rw[pA w,<-List.append_assoc];exact Zz a2 Q (by rw[a5,M,t,u];rfl) O,rfl⟩
theorem ss (h:BV x b1 l1 b2 l2) (hf:Bd b [x]) (hb:b<=20000000000000) (g:L=BN (Ek x)):CF 76 [.agg (Br b1 l1 b2 l2)] (.one (.sl AS L)):=by
 refine AM Tryz.func76 fun E a=>?_
 refine⟨[(((b1,l1),(b2,l2)),[])],fun _=>⟨rfl,AE,rfl,⟨rfl,⟨rfl,rfl,rfl,rfl,.inr ⟨_,rfl⟩,trivial⟩,trivial⟩⟩,.inl ?_⟩;try conv=>cbv
 refine .inr (.inr (.inr (.inl ⟨5,.arr 1 AS [(((b1,l1),(b2,l2)),[])],[.one (.AU AS 0 0 0 1)],.one (.sl AS L),Ao,fun _=>Fq a (RT (qi hf hb) (by show _=[(rp x,[])];rw[h.rp]) rfl (by rw[g];rfl)),?_⟩)));try conv=>cbv
 exact AN ⟨t2,trivial⟩
theorem RU {v:Int} (o:L=BN (B7 v)):CF 78 [AH v] (.one (.sl AS L)):=by
 refine AM Tryz.func78 fun E l=>?_
 obtain⟨j,k,g,h,a⟩:=By (1);refine AB l (Ec AA (by decide +kernel) a) ?_;refine⟨[v],fun _=>⟨rfl,AE,rfl,⟨rfl,t1,trivial⟩⟩,.inr ?_⟩;try conv=>cbv
 refine⟨[(((j,k),(g,h)),[v])],fun _=>⟨rfl,AE,rfl,Ao⟩,.inl ?_⟩;try conv=>cbv
 exact AN ⟨⟨rfl,.inl ⟨_,rfl,Ai,congrArg _ (by rw[o];show [(rp 1,[v])]=_;rw[a.rp];rfl)⟩,trivial⟩,trivial⟩
theorem sr {p:List Mo} (h:VR N p) (hd:∀m∈p,m.2.length<=100000) (O:c=BN p):CF 87 [.one (.sl AS c),AH N] (.one (.bool true)):=by
 have lc:c.length=p.length:=by rw[O,IG]
 refine AM Tryz.func87 fun E hE=>?_
 refine BI [] [0,1,5] [] (fun vs s k=>∃(i':Nat) (i:Int),vs=[.one (.sl AS c),AH N,AH i]/\s=[]/\(AR i i'/\i'<=p.length)/\k=p.length-i') (p.length-0) ⟨0,0,rfl,rfl,⟨BD 0,AA⟩,rfl⟩ ?_;rintro J0 D vs s a8 ⟨i',i,rfl,rfl,⟨hi,a2⟩,a6⟩;have ei:=hi.eq;refine AW ?_;rintro n9 ⟨e9,f9⟩;refine BQ (fun G=>?_) fun G=>?_
 ·exact AN ⟨t2,trivial⟩
 refine .inr ?_;obtain⟨r,g⟩:=Bj (l:=c) (i:=i.toNat) AA;obtain⟨a,v,t⟩:=IF (by rw[<-O];exact g);have u:=List.mem_of_getElem? v;have A:r.2=a.2:=by rw[t]
 have q:r.2.length=a.2.length:=by rw[A]
 have Q:=hd a u;refine BI [] [0,1,5,6] [] (fun vs s k=>∃(w:Nat) (j:Int),vs=[.one (.sl AS c),AH N,AH i,AH j]/\s=[]/\(AR j w/\w<=a.2.length)/\k=a.2.length-w) (a.2.length-0) ⟨0,0,rfl,rfl,⟨BD 0,AA⟩,rfl⟩ ?_;rintro J1 F vs s aa ⟨w,j,rfl,rfl,⟨hj,a5⟩,a7⟩;conv=>cbv
 have ej:=hj.eq;refine Cj g ?_;rintro J ⟨B,f19⟩;have S:J=(a.2.length:Int):=B.trans (congrArg _ q);refine BQ (fun H=>?_) fun H=>?_
 ·intro I T;exact BT D ⟨i'+1,I,rfl,rfl,⟨⟨AA⟩,AA⟩,rfl⟩
 refine .inr ?_;obtain⟨M,o⟩:=Bj (l:=r.2) (i:=j.toNat) (by rw[q];omega);have R:=h a u M (by rw[<-A];exact List.mem_of_getElem? o);refine Cj g ?_;refine Cj o ?_;refine DF (fun y=>?_) fun y=>?_
 ·exact absurd y AA
 refine Cj g ?_;refine Cj o ?_;refine Mk (fun z=>?_) fun z=>?_
 ·exact absurd z AA
 intro K a1;exact BT F ⟨w+1,K,rfl,rfl,⟨⟨AA⟩,AA⟩,rfl⟩
def Jt (i:Int):Ar:=(B7 (2*i),B7 (2*i+1))
theorem O7 (h:0<=i/\i<490):Eu 1 1 2 1000 (Jt i):=⟨(Gi ⟨AA,AA⟩).mono AE AE AE (Int.le_refl _),(Gi ⟨AA,AA⟩).mono AE AE AE (Int.le_refl _)⟩
theorem XS (h:0<=i/\i<490):Eu 1 1 4 1000 (Jt i):=⟨(O7 h).1.mono AE AE AE (Int.le_refl _),(O7 h).2.mono AE AE AE (Int.le_refl _)⟩
theorem Eu.to {n' a b':Nat} {A:Ar} (h:Eu n e b N A) (g:n<=n':=by decide) (j:e<=a:=by decide) (h3:b<=b':=by decide):Eu n' a b' N A:=⟨h.1.mono g j h3 (Int.le_refl _),h.2.mono g j h3 (Int.le_refl _)⟩
theorem fS (t:0<=i/\i<490) (o:X=BN (Jt i).1) (p:Y=BN (Jt i).2):CF 80 [AH i] (.agg [.sl AS X,.sl AS Y]):=by
 refine AM Tryz.func80 fun E h=>?_
 intro n4 j;obtain⟨q,a⟩:∃z:List (el AS),z=BN (B7 (2*i)):=⟨_,rfl⟩
 refine AB (r:= .one (.sl AS q)) h (RU (by rw[a,j])) ?_;intro u k v l;obtain⟨s,g⟩:∃z:List (el AS),z=BN (B7 (2*i+1)):=⟨_,rfl⟩
 refine AB (r:= .one (.sl AS s)) h (RU (by rw[g,l,k])) ?_;exact Dk (by rw[o,a];rfl) (by rw[p,g];rfl)
theorem LC {j:Int} (o:0<=i/\i<490) (p:0<=j/\j<490) (q:X=BN (Aw i j).1) (r:Y=BN (Aw i j).2):CF 77 [AH i,AH j] (.agg [.sl AS X,.sl AS Y]):=by
 refine AM Tryz.func77 fun E l=>?_
 obtain⟨u8,h⟩:∃z:List (el AS),z=BN (Jt i).1:=⟨_,rfl⟩
 obtain⟨t,k⟩:∃z:List (el AS),z=BN (Jt i).2:=⟨_,rfl⟩
 refine AB l (fS o h k) ?_;obtain⟨s,a⟩:∃z:List (el AS),z=BN (Jt j).1:=⟨_,rfl⟩
 obtain⟨v10,g⟩:∃z:List (el AS),z=BN (Jt j).2:=⟨_,rfl⟩
 refine AB l (fS p a g) ?_;refine AB l (KD (b:=4) (XS p).1 (O7 o).1 AE AE AE AE AE a h q) ?_;refine AB l (KD (b:=4) (XS p).2 (O7 o).2 AE AE AE AE AE g k r) ?_;exact AN ⟨t3,trivial⟩
theorem Vq {A B:Ar} (h:Eu 4 1 28 1000 A) (j:Eu 4 1 28 1000 B) (p:X=BN A.1) (q:Y=BN A.2) (s:Z=BN B.1) (o:U=BN B.2) (l:L=BN (CU A B)):CF 81 [.agg [.sl AS X,.sl AS Y],.agg [.sl AS Z,.sl AS U]] (.one (.sl AS L)):=by
 refine AM Tryz.func81 fun E k=>?_
 obtain⟨u,g⟩:∃z:List (el AS),z=BN (Dj A.1 B.1):=⟨_,rfl⟩
 refine AB k (Mn h.1 j.1 AE AE AE p s g) ?_;obtain⟨t,a⟩:∃z:List (el AS),z=BN (Dj A.2 B.2):=⟨_,rfl⟩
 refine AB k (Mn h.2 j.2 AE AE AE q o a) ?_;refine AB (r:= .one (.sl AS L)) k (Vo (Hl h.1 j.1) (Hl h.2 j.2) AE AE AE g a (by rw[l];rfl)) ?_;exact AN ⟨t2,trivial⟩
theorem sk {A B:Ar} (h:Eu 4 1 28 1000 A) (j:Eu 4 1 28 1000 B) (p:X=BN A.1) (q:Y=BN A.2) (s:Z=BN B.1) (o:U=BN B.2) (l:L=BN (EM A B)):CF 83 [.agg [.sl AS X,.sl AS Y],.agg [.sl AS Z,.sl AS U]] (.one (.sl AS L)):=by
 refine AM Tryz.func83 fun E k=>?_
 obtain⟨u,g⟩:∃z:List (el AS),z=BN (Dj A.1 B.2):=⟨_,rfl⟩
 refine AB k (Mn h.1 j.2 AE AE AE p o g) ?_;obtain⟨t,a⟩:∃z:List (el AS),z=BN (Dj A.2 B.1):=⟨_,rfl⟩
 refine AB k (Mn h.2 j.1 AE AE AE q s a) ?_;refine AB (r:= .one (.sl AS L)) k (KD (b:=100000) ((Hl h.1 j.2).mono Bi Bi AE (Int.le_refl _)) (Hl h.2 j.1) AE AE AE AE AE g a (by rw[l];rfl)) ?_;exact AN ⟨t2,trivial⟩
theorem RQ {p:List Mo} (g:PV n e b 1000 p) (k:n*n<=100000) (he:e+e<=100) (hb:(b+b+1)*(n*n+1)<=60000000000000) (a:c=BN p) (j:L=BN (CV p)):CF 82 [.one (.sl AS c)] (.one (.sl AS L)):=by
 refine AM Tryz.func82 fun E h=>?_
 refine AB (r:= .one (.sl AS L)) h (Mn g g k he hb a a (by rw[j];rfl)) ?_;exact AN ⟨t2,trivial⟩
end
section
theorem su {kd sd AI p q r s c d:Int} {Q C AJ:List Int} {X:List Ex} {vl:LR} {v:List Mo} {w:Rat} {L:List (el (.sl AS))} (hk:13<=kd/\kd<=17) (aY:kd=17->sd=1) (b9:0<=AI/\AI<=100) (hQ:(∀x∈Q,0<=x/\x<490)) (cA:Q.length<=4) (hC:(∀x∈C,0<=x/\x<(AJ.length:Nat))) (cz:C.length<=2) (cB:AJ.length<=3) (b6:(∀x∈AJ,0<=x/\x<490)) (hv:JH vl v) (hp:p=Q.getD 0 0) (hq:q=Q.getD 1 0) (hr:r=Q.getD 2 0) (hs:s=Q.getD 3 0) (hc:c=Hc AJ C 0) (hd:d=Hc AJ C 1) (hL:L=(HH kd sd p q r s v w (C1 AI C 0) (C1 AI C 1) c d).map BN):CF 29 [.agg (cC kd Q C X sd),AO vl,.one (.sl .i64 AJ),AH AI] (.one (.sl (.sl AS) L)):=by
 have ip:0<=p/\p<490:=hp ▸ Qf hQ;have iq:0<=q/\q<490:=hq ▸ Qf hQ;have ir:0<=r/\r<490:=hr ▸ Qf hQ;have is:0<=s/\s<490:=hs ▸ Qf hQ;have ic:0<=c/\c<490:=hc ▸ X6 b6;have id:0<=d/\d<490:=hd ▸ X6 b6;have gv:=hv.pv;have b4:∀x∈C,0<=x/\x<100:=fun x hx=>by have:=hC x hx;omega
 have gr:PV 1 1 4 1000 (C1 AI C 0):=bY b4 b9;have gs:PV 1 1 4 1000 (C1 AI C 1):=bY b4 b9;refine AM Tryz.func29 fun E g=>?_
 refine⟨[],fun _=>⟨rfl,AE,rfl,trivial⟩,.inl ?_⟩;try conv=>cbv
 refine .inl ⟨Q,fun _=>⟨rfl,by (first | rfl | omega),rfl,B5 (0+Q.length) 8⟩,?_⟩;intro (ah:List (el .i64)) bZ aK;have aq:ah=([]:List (el .i64))++(Q:List (el .i64)):=aK.1;have c7:bZ=List.length (α:=(el .i64)) ah:=aK.2;conv=>cbv
 refine⟨[(0:Int),(0:Int),(0:Int),(0:Int)],fun _=>⟨rfl,AE,rfl,Ao⟩,.inl ?_⟩;try conv=>cbv
 have cy:ah.length=Q.length:=by rw[aq];rfl
 refine .inr (.inl ⟨[(0:Int),(0:Int),(0:Int),(0:Int)],fun _=>⟨rfl,by (first | rfl | omega),⟨_,rfl,Nat.le_refl _,rfl⟩,B5 (ah.length+4) 8⟩,?_⟩);intro (h:List (el .i64)) c0 aL;have b7:h=(ah:List (el .i64))++([(0:Int),(0:Int),(0:Int),(0:Int)]:List (el .i64)):=aL.1;have b8:c0=List.length (α:=(el .i64)) h:=aL.2;conv=>cbv
 refine⟨fun _=>b8,?_⟩;have ai:h=Q++[0,0,0,0]:=by rw[b7,aq];rfl
 have z0:h[0]? =some p:=by rw[ai,hp];exact Qe AE
 have z1:h[1]? =some q:=by rw[ai,hq];exact Qe AE
 have z2:h[2]? =some r:=by rw[ai,hr];exact Qe AE
 have z3:h[3]? =some s:=by rw[ai,hs];exact Qe AE
 refine⟨[],fun _=>⟨rfl,AE,rfl,trivial⟩,.inr ?_⟩;refine AW ?_;rintro cD ⟨cv,f30⟩ c1 aZ;obtain⟨bJ,H⟩:=xK fun vs bl=>∃(V9:List (el AS)),vs=[AO vl,.one (.sl .i64 AJ),AH AI,.one (.BE 4 0 0),.one (.sl .i64 h),.one (.sl AS V9)]/\bl=[.var 0 (cC kd Q C X sd)]/\V9=BN v
 refine .inl ⟨[1,2,3,4,9,10],[4],bJ,?_,?_⟩
 ·intro vs bl hj;rw[H] at hj;obtain⟨V9,rfl,rfl,bS⟩:=hj;conv=>cbv
  refine⟨p,fun _=>⟨AA,z0⟩,?_⟩;try conv=>cbv
  refine⟨q,fun _=>⟨AA,z1⟩,?_⟩;try conv=>cbv
  obtain⟨bo,D⟩:∃z:List (el AS),z=BN (Aw p q).1:=⟨_,rfl⟩
  obtain⟨bs,F⟩:∃z:List (el AS),z=BN (Aw p q).2:=⟨_,rfl⟩
  have G:=KQ ip iq;refine AB g (LC ip iq D F) ?_;refine⟨q,fun _=>⟨AA,z1⟩,?_⟩;try conv=>cbv
  refine⟨r,fun _=>⟨AA,z2⟩,?_⟩;try conv=>cbv
  obtain⟨bp,ba⟩:∃z:List (el AS),z=BN (Aw q r).1:=⟨_,rfl⟩
  obtain⟨bt,bd⟩:∃z:List (el AS),z=BN (Aw q r).2:=⟨_,rfl⟩
  have cr:=KQ iq ir;refine AB g (LC iq ir ba bd) ?_;refine⟨q,fun _=>⟨AA,z1⟩,?_⟩;try conv=>cbv
  refine⟨p,fun _=>⟨AA,z0⟩,?_⟩;try conv=>cbv
  obtain⟨bq,bb⟩:∃z:List (el AS),z=BN (Aw q p).1:=⟨_,rfl⟩
  obtain⟨bu,bf⟩:∃z:List (el AS),z=BN (Aw q p).2:=⟨_,rfl⟩
  have ct:=KQ iq ip;refine AB g (LC iq ip bb bf) ?_;refine⟨r,fun _=>⟨AA,z2⟩,?_⟩;try conv=>cbv
  refine⟨s,fun _=>⟨AA,z3⟩,?_⟩;try conv=>cbv
  obtain⟨br,bc⟩:∃z:List (el AS),z=BN (Aw r s).1:=⟨_,rfl⟩
  obtain⟨bw,bg⟩:∃z:List (el AS),z=BN (Aw r s).2:=⟨_,rfl⟩
  have cu:=KQ ir is;refine AB g (LC ir is bc bg) ?_;refine⟨[],fun _=>⟨rfl,AE,rfl,trivial⟩,.inr ?_⟩;try conv=>cbv
  refine⟨[],fun _=>⟨rfl,AE,rfl,trivial⟩,.inr ?_⟩;refine AW ?_;rintro cE ⟨cw,f68⟩ c2 b0;obtain⟨bK,I⟩:=xK fun vs bl=>∃(R9:List (el AS)) (a:Int),vs=[AO vl,.one (.sl .i64 AJ),AH AI,.one (.BE 4 0 0),.one (.sl .i64 h),.one (.sl AS V9),.one (.BE 11 0 0),.one (.BE 12 0 0),.one (.BE 13 0 0),.one (.BE 14 0 0),.one (.sl AS R9),.one (.sl AS []),AH a,AH 0]/\bl=[.var 0 (cC kd Q C X sd),.var 0 [.sl AS bo,.sl AS bs],.var 0 [.sl AS bp,.sl AS bt],.var 0 [.sl AS bq,.sl AS bu],.var 0 [.sl AS br,.sl AS bw]]/\R9=BN (C1 AI C 0)/\a=c
  refine .inl ⟨[1,2,3,4,9,10,11,12,13,14,15,16,17,18],[4,11,12,13,14],bK,?_,?_⟩
  ·intro vs bl hj;rw[I] at hj;obtain⟨R9,a,rfl,rfl,K,rfl⟩:=hj;refine AW ?_;rintro cH ⟨cx,f87⟩ c3 b3;obtain⟨bL,J⟩:=xK fun vs bl=>∃(S9:List (el AS)) (d9:Int),vs=[AO vl,.one (.sl .i64 AJ),AH AI,.one (.BE 4 0 0),.one (.sl .i64 h),.one (.sl AS V9),.one (.BE 11 0 0),.one (.BE 12 0 0),.one (.BE 13 0 0),.one (.BE 14 0 0),.one (.sl AS R9),.one (.sl AS S9),AH a,AH d9]/\bl=[.var 0 (cC kd Q C X sd),.var 0 [.sl AS bo,.sl AS bs],.var 0 [.sl AS bp,.sl AS bt],.var 0 [.sl AS bq,.sl AS bu],.var 0 [.sl AS br,.sl AS bw]]/\S9=BN (C1 AI C 1)/\d9=d
   refine .inl ⟨[1,2,3,4,9,10,11,12,13,14,15,16,17,18],[4,11,12,13,14],bL,?_,?_⟩
   ·intro vs bl hj;rw[J] at hj;obtain⟨S9,d9,rfl,rfl,b5,rfl⟩:=hj;conv=>cbv
    refine .inr ?_;refine BS (fun ax=>?_) fun ax=>?_
    ·exact absurd ax AA
    refine BS (fun ay=>?_) fun ay=>?_
    ·exact absurd ay AA
    refine BS (fun az=>?_) fun az=>?_
    ·exact absurd az AA
    refine BS (fun aA=>?_) fun aA=>?_
    ·exact absurd aA AA
    refine BS (fun aB=>?_) fun aB=>?_
    ·exact absurd aB AA
    refine BS (fun aC=>?_) fun aC=>?_
    ·exact absurd aC AA
    refine BS (fun aD=>?_) fun aD=>?_
    ·exact absurd aD AA
    refine BS (fun aE=>?_) fun aE=>?_
    ·exact absurd aE AA
    refine BS (fun aF=>?_) fun aF=>?_
    ·exact absurd aF AA
    refine BS (fun aG=>?_) fun aG=>?_
    ·exact absurd aG AA
    refine BS (fun aH=>?_) fun aH=>?_
    ·exact absurd aH AA
    refine BS (fun aI=>?_) fun aI=>?_
    ·exact absurd aI AA
    refine BS (fun bj=>?_) fun bj=>?_
    ·refine⟨p,fun _=>⟨AA,z0⟩,?_⟩;try conv=>cbv
     obtain⟨c8,o⟩:∃z:List (el AS),z=BN (Aw a p).1:=⟨_,rfl⟩
     obtain⟨cb,u⟩:∃z:List (el AS),z=BN (Aw a p).2:=⟨_,rfl⟩
     have A:=KQ ic ip;refine AB g (LC ic ip o u) ?_;obtain⟨cf,R⟩:∃z:List (el AS),z=BN (CU (Aw a p) (Aw a p)):=⟨_,rfl⟩
     have aS:PV 8 2 424 1000 (CU (Aw a p) (Aw a p)):=Kt A A;refine AB g (Vq A.to A.to o u o u R) ?_;obtain⟨cg,S⟩:∃z:List (el AS),z=BN (CV (C1 AI C 0)):=⟨_,rfl⟩
     have aT:PV 1 2 9 1000 (CV (C1 AI C 0)):=Jy gr;refine AB g (RQ gr AE AE AE K S) ?_;obtain⟨bx,T⟩:∃z:List (el AS),z=BN (CH (CU (Aw a p) (Aw a p)) (CV (C1 AI C 0))):=⟨_,rfl⟩
     refine AB g (KD aS aT AE AE AE AE AE R S T) ?_;refine⟨[bx],Ca,.inl ?_⟩;try conv=>cbv
     exact AN ⟨⟨rfl,.inl ⟨_,rfl,by exact Nat.le_refl _,congrArg _ (by rw[hL,(AA:kd=13),aM,List.map_cons,<-T];rfl)⟩,trivial⟩,trivial⟩
    refine BS (fun bk=>?_) fun bk=>?_
    ·obtain⟨bz,a1⟩:∃z:List (el AS),z=BN (CH (C1 AI C 0) (v)):=⟨_,rfl⟩
     refine AB g (KD (gr.mono Bi AE AE (Int.le_refl _):PV 1 1 2103 1000 _) gv AE AE AE AE AE K bS a1) ?_;refine⟨[bz],Ca,.inl ?_⟩;try conv=>cbv
     exact AN ⟨⟨rfl,.inl ⟨_,rfl,by exact Nat.le_refl _,congrArg _ (by rw[hL,(AA:kd=14),aN,List.map_cons,<-a1];rfl)⟩,trivial⟩,trivial⟩
    refine BS (fun bm=>?_) fun bm=>?_
    ·obtain⟨bA,a2⟩:∃z:List (el AS),z=BN (CH (C1 AI C 0) (C1 AI C 1)):=⟨_,rfl⟩
     refine AB g (KD (gr.mono Bi AE AE (Int.le_refl _):PV 1 1 6 1000 _) gs AE AE AE AE AE K b5 a2) ?_;refine⟨[bA],Ca,.inl ?_⟩;try conv=>cbv
     exact AN ⟨⟨rfl,.inl ⟨_,rfl,by exact Nat.le_refl _,congrArg _ (by rw[hL,(AA:kd=15),aO,List.map_cons,<-a2];rfl)⟩,trivial⟩,trivial⟩
    refine CN (fun bn=>?_) fun bn=>?_
    ·obtain⟨ca,t⟩:∃z:List (el AS),z=BN (Aw a d9).1:=⟨_,rfl⟩
     obtain⟨cd,y⟩:∃z:List (el AS),z=BN (Aw a d9).2:=⟨_,rfl⟩
     have B:=KQ ic id;refine AB g (LC ic id t y) ?_;refine CN (fun aJ=>?_) fun aJ=>?_
     ·exact absurd (aY AA) aJ
     obtain⟨cn,ad⟩:∃z:List (el AS),z=BN (CU (Aw a d9) (Aw a d9)):=⟨_,rfl⟩
     have aW:PV 8 2 424 1000 (CU (Aw a d9) (Aw a d9)):=Kt B B;refine AB g (Vq B.to B.to t y t y ad) ?_;obtain⟨cp,ae⟩:∃z:List (el AS),z=BN (EW (C1 AI C 0) (C1 AI C 1)):=⟨_,rfl⟩
     have ao:PV 2 1 10 1000 (EW (C1 AI C 0) (C1 AI C 1)):=Ul gr gs;refine AB g (Vo gr gs AE AE AE K b5 ae) ?_;obtain⟨cq,af⟩:∃z:List (el AS),z=BN (CV (EW (C1 AI C 0) (C1 AI C 1))):=⟨_,rfl⟩
     have aX:PV 4 2 84 1000 (CV (EW (C1 AI C 0) (C1 AI C 1))):=Jy ao;refine AB g (RQ ao AE AE AE ae af) ?_;obtain⟨bC,ag⟩:∃z:List (el AS),z=BN (CH (CU (Aw a d9) (Aw a d9)) (CV (EW (C1 AI C 0) (C1 AI C 1)))):=⟨_,rfl⟩
     refine AB g (KD aW aX AE AE AE AE AE ad af ag) ?_;refine⟨[bC],Ca,.inl ?_⟩;try conv=>cbv
     exact AN ⟨⟨rfl,.inl ⟨_,rfl,by exact Nat.le_refl _,congrArg _ (by rw[hL,(AA:kd=17),aY AA,aQ,List.map_cons,<-ag];rfl)⟩,trivial⟩,trivial⟩
    refine⟨p,fun _=>⟨AA,z0⟩,?_⟩;try conv=>cbv
    obtain⟨c9,M⟩:∃z:List (el AS),z=BN (Aw p a).1:=⟨_,rfl⟩
    obtain⟨cc,O⟩:∃z:List (el AS),z=BN (Aw p a).2:=⟨_,rfl⟩
    have aj:=KQ ip ic;refine AB g (LC ip ic M O) ?_;obtain⟨ch,a5⟩:∃z:List (el AS),z=BN (EM (Aw p q) (Aw p a)):=⟨_,rfl⟩
    have ak:PV 8 2 2152 1000 (EM (Aw p q) (Aw p a)):=bO G aj;refine AB g (sk G.to aj.to D F M O a5) ?_;obtain⟨cj,a6⟩:∃z:List (el AS),z=BN (CV (EM (Aw p q) (Aw p a))):=⟨_,rfl⟩
    have aU:PV 64 4 275520 1000 (CV (EM (Aw p q) (Aw p a))):=Jy ak;refine AB g (RQ ak AE AE AE a5 a6) ?_;obtain⟨ck,a7⟩:∃z:List (el AS),z=BN (CV (C1 AI C 0)):=⟨_,rfl⟩
    have al:PV 1 2 9 1000 (CV (C1 AI C 0)):=Jy gr;refine AB g (RQ gr AE AE AE K a7) ?_;obtain⟨cl,a8⟩:∃z:List (el AS),z=BN (CU (Aw p q) (Aw p q)):=⟨_,rfl⟩
    have an:PV 8 2 424 1000 (CU (Aw p q) (Aw p q)):=Kt G G;refine AB g (Vq G.to G.to D F D F a8) ?_;obtain⟨cm,aa⟩:∃z:List (el AS),z=BN (Dj (CV (C1 AI C 0)) (CU (Aw p q) (Aw p q))):=⟨_,rfl⟩
    have aV:PV 8 4 3472 1000 (Dj (CV (C1 AI C 0)) (CU (Aw p q) (Aw p q))):=Hl al an;refine AB g (Mn al an AE AE AE a7 a8 aa) ?_;obtain⟨bB,ab⟩:∃z:List (el AS),z=BN (CH (CV (EM (Aw p q) (Aw p a))) (Dj (CV (C1 AI C 0)) (CU (Aw p q) (Aw p q)))):=⟨_,rfl⟩
    refine AB g (KD aU aV AE AE AE AE AE a6 aa ab) ?_;refine⟨[bB],Ca,.inl ?_⟩;try conv=>cbv
    refine⟨fun _=>by kernel_rfl,?_⟩;exact AN ⟨⟨rfl,.inl ⟨_,rfl,by exact Nat.le_refl _,congrArg _ (by rw[hL,(AA:kd=16),aP,List.map_cons,<-ab];rfl)⟩,trivial⟩,trivial⟩
   cases c3 <;> conv=>cbv
   ·have bV:=Fi b3;rw[J];exact⟨[],0,rfl,rfl,by rw[bX AA];rfl,by rw[hd,X7 AA]⟩
   have bV:=Fj b3;obtain⟨bI,k⟩:=Bj (l:=C) (i:=1) AA;have cL:=hC bI (List.mem_of_getElem? k);refine AK ?_;intro cI bQ;refine Cj k ?_;intro cJ bR;obtain⟨bF,av⟩:∃z:List (el AS),z=BN (C1 AI C 1):=⟨_,rfl⟩
   refine AB (r:= .one (.sl AS bF)) g (RU (by rw[av,bW k,bR,bQ])) ?_;refine Cj k ?_;refine Ae ((bI).toNat) fun bG aR=>?_
   try conv=>cbv
   refine⟨fun _=>by kernel_rfl,?_⟩;rw[J];exact⟨bF,bG,rfl,rfl,av,by rw[hd,X5 k aR]⟩
  cases c2 <;> conv=>cbv
  ·have bU:=Fi b0;rw[I];exact⟨[],0,rfl,rfl,by rw[bX AA];rfl,by rw[hc,X7 AA]⟩
  have bU:=Fj b0;obtain⟨bH,j⟩:=Bj (l:=C) (i:=0) AA;have cK:=hC bH (List.mem_of_getElem? j);refine AK ?_;intro cF bN;refine Cj j ?_;intro cG bP;obtain⟨bE,au⟩:∃z:List (el AS),z=BN (C1 AI C 0):=⟨_,rfl⟩
  refine AB (r:= .one (.sl AS bE)) g (RU (by rw[au,bW j,bP,bN])) ?_;refine Cj j ?_;refine Ae ((bH).toNat) fun c6 bh=>?_
  try conv=>cbv
  refine⟨fun _=>by kernel_rfl,?_⟩;rw[I];exact⟨bE,c6,rfl,rfl,au,by rw[hc,X5 j bh]⟩
 cases c1 <;> conv=>cbv
 ·have bT:=Fi aZ;rw[H];exact⟨[],rfl,rfl,by rw[hv.nil AA];rfl⟩
 have bT:=Fj aZ;refine Ae 0 fun c5 aw=>?_
 try conv=>cbv
 obtain⟨xq,lq,Yf,bM,rfl⟩:∃x l,vl=rp x::l/\Bd 2100 [x]/\v=Ek x:=hv.cons AA
 have c4:c5=rp xq:=by rw[Yf] at aw;exact (Option.some.inj aw).symm
 obtain⟨bD,ar⟩:∃z:List (el AS),z=BN (Ek xq):=⟨_,rfl⟩
 refine AB (r:= .one (.sl AS bD)) g (ss (by rw[c4];exact FL _) bM AE ar) ?_;rw[H];exact⟨bD,rfl,rfl,ar⟩
end
section
theorem so {p:List Mo} {N:Int} {cr:List (el AY)} {c:List (el AS)} {z:el AY} (h:OX cr p z) (hv:VR N p) (hN:N=(cr.length:Nat)) (hd:∀m∈p,m.2.length<=100000) (hc:c=BN p):CF 30 [.one (.sl AS c),.one (.sl AY cr)] (BY (AZ z.1 z.2) 0):=by
 obtain⟨zs,s,az,af,a7,a8,O⟩:=h;have lc:c.length=p.length:=by rw[hc,IG]
 refine AM Tryz.func30 fun E K=>?_
 rintro aC ⟨a1,f13⟩;refine AB (r:= .one (.bool true)) K (sr (by rw[a1,<-hN];exact hv) hd hc) ?_;refine BM ?_;obtain⟨T,w⟩:=xR (em [] (Re.ofRat ((0:Int):Rat)));refine AB K (JI AE w) ?_;refine BI [] [0,1,4,6,7] [4,6] (fun vs J k=>∃(T1:List LR) (A1:LR) (i':Nat) (i:Int),vs=[.one (.sl AS c),.one (.sl AY cr),.one (.BE 4 0 0),.one (.BE 6 0 0),AH i]/\J=[.var 0 [.nil,.nil],.var 0 [BP T1,Au A1]]/\(AR i i'/\i'<=p.length)/\s i'=(T1,A1)/\k=p.length-i') (p.length-0) ⟨[],T,0,0,rfl,rfl,⟨BD 0,AA⟩,by rw[a7,w,Ds];rfl,rfl⟩ ?_;rintro J0 a5 vs J aA ⟨T1,A1,i',i,rfl,rfl,⟨hi,av⟩,H,ax⟩;have ei:=hi.eq;refine AW ?_;rintro aD ⟨ao,f20⟩;refine BQ (fun ag=>?_) fun ag=>?_
 ·exact AN ⟨⟨rfl,congrArg _ (by rw[<-O,(AA:p.length=i'),H]),congrArg _ (by rw[<-O,(AA:p.length=i'),H]),trivial⟩,t2,trivial⟩
 refine .inr ?_;obtain⟨g,o⟩:=Bj (l:=c) (i:=i.toNat) AA;obtain⟨a,t,B⟩:=IF (by rw[<-hc];exact o);rw[(AA:i.toNat=i')] at t;have M:=List.mem_of_getElem? t;have S:g.2=a.2:=by rw[B]
 have G:g.2.length=a.2.length:=by rw[S]
 have al:=hd a M;obtain⟨zi,R⟩:=Bj (l:=zs) (i:=i') AA;obtain⟨xf,aa,ab,ad⟩:=af i' a zi t R;refine Cj o ?_;obtain⟨I,A⟩:=xR ([((g.1.1.1,g.1.1.2),g.1.2.1,g.1.2.2)]);refine AB (r:= .agg [.sl (.sl AG) (([]:List LR)),Au I]) K ((by rw[A];exact yFR)) ?_;refine BI [] [0,1,4,6,7,8,9,10] [4,6,8] (fun vs J k=>∃(T2:List LR) (A2:LR) (u:Nat) (j:Int),vs=[.one (.sl AS c),.one (.sl AY cr),.one (.BE 4 0 0),.one (.BE 6 0 0),AH i,.one (.BE 8 0 0),AH 0,AH j]/\J=[.var 0 [.nil,.nil],.var 0 [BP T1,Au A1],.var 0 [BP T2,Au A2]]/\(AR j u/\u<=a.2.length)/\xf u=(T2,A2)/\k=a.2.length-u) (a.2.length-0) ⟨[],I,0,0,rfl,rfl,⟨BD 0,AA⟩,by rw[aa,A,B],rfl⟩ ?_;rintro J1 a6 vs J aB ⟨T2,A2,u,j,rfl,rfl,⟨hj,aw⟩,Q,ay⟩;conv=>cbv
 have ej:=hj.eq;refine Cj o ?_;rintro aj ⟨a2,f36⟩;have aq:aj=(a.2.length:Int):=a2.trans (congrArg _ G);refine BQ (fun ah=>?_) fun ah=>?_
 ·obtain⟨⟨T4,A4⟩,h4⟩:∃z,z=s (i'+1):=⟨_,rfl⟩
  have ae:zi=(T2,A2):=by rw[<-ad,<-Q,(AA:a.2.length=u)]
  refine AB (r:= .Aj [(true,[BP T4,Au A4]),(false,[.int .i64 0])]) K ((by have q:=a8 i' zi R;rw[H,<-h4,ae] at q;exact q)) ?_;refine BM ?_;intro ai ar;exact BT a5 ⟨T4,A4,i'+1,ai,rfl,rfl,⟨⟨AA⟩,AA⟩,h4.symm,rfl⟩
 refine .inr ?_;obtain⟨v,F⟩:=Bj (l:=g.2) (i:=j.toNat) (by rw[G];omega);have D:a.2[u]? =some v:=by rw[<-S,<-show j.toNat=u by omega];exact F
 have an:=hv a M v (List.mem_of_getElem? D);obtain⟨y,hy⟩:=Bj (l:=cr) (i:=v.toNat) AA;refine Cj o ?_;refine Cj F ?_;refine Cj hy ?_;obtain⟨⟨T3,A3⟩,h3⟩:∃z,z=xf (u+1):=⟨_,rfl⟩
 refine AB (r:= .Aj [(true,[BP T3,Au A3]),(false,[.int .i64 0])]) K ((by have q:=ab u v y D hy;rw[Q,<-h3] at q;exact q)) ?_;refine BM ?_;intro ak au;exact BT a6 ⟨T3,A3,u+1,ak,rfl,rfl,⟨⟨AA⟩,AA⟩,h3.symm,rfl⟩
end
section
variable {C P AJ:List Int} {V:List Ex} {W:List UInt8} {X:List (el C6)} {kd AI sd:Int} {ns:List Nu} {vl:LR}
theorem eh {rv:Int}:∀{l:LR},EO rv l->∃g:List Rat,l=g.map rp/\∀q∈g,Ct q
 | [],_=>⟨[],rfl,fun _ h=>by simp at h⟩
 | v::l,h=>by
  obtain⟨q,k,o,_⟩:=VD h (i:=0) rfl;obtain⟨g,e,j⟩:=eh (l:=l) fun x a=>h x (List.mem_cons_of_mem _ a)
  refine⟨q::g,by rw[List.map_cons,<-e,k.rp],fun x a=>?_⟩;rcases List.mem_cons.1 a with rfl | a
  ·exact o
  exact j x a
theorem r9 {a:List Rat} (h:∀q∈a,Ct q):JH (a.map rp) (ef a):=by
 cases a with
 | nil=>exact .inl ⟨rfl,rfl⟩
 | cons q l=>exact .inr ⟨q,l.map rp,rfl,Ha (h q List.mem_cons_self),rfl⟩
theorem Vh {n:Int} {l:List Int} (h:Dy n l=true):∀x∈l,0<=x/\x<n:=fun x a=>of_decide_eq_true (List.all_eq_true.1 h x a)
theorem pH {V:List Re} (hV:V.length<=3) (g:∀n∈ns,CY V n) {Q:List Int} {X:List Ex} (h:OU ns kd sd AI Q C X vl AJ W) {L:List (el AY)} (I:L=(GS ns AI W W.length).map nm) {t:Int} (ht:0<=t/\t<(AJ.length:Nat)):
  ∃(e:Int) (T:List LR) (A:LR),CF 6 [.agg (cC kd Q C X sd),AO vl,.one (.sl .i64 AJ),AH AI,AH t,.one (.sl AY L)] (BY [BP T,Au A] e)/\
   (e=0->CF 7 [.agg [BP T,Au A]] (AH 1)/\∃B:List (List (el AS)),CF 29 [.agg (cC kd Q C X sd),AO vl,.one (.sl .i64 AJ),AH AI] (.one (.sl (.sl AS) B))/\∀q∈B,∃y:el AY,CF 30 [.one (.sl AS q),.one (.sl AY (L.set (2*AI+t).toNat (T,A)))] (BY (cN y) 0)/\CF 7 [.agg (cN y)] (AH 0)):=by
 obtain⟨w,l⟩:=nV hV g;have F:=l.fl To;have H:=kJ l g h;rw[<-I] at H;have hlen:=H.len;have s:=h.p0;have J:=h.p8;have r:=h.c3;rcases pI l F H ht h.va h.sh h.cw with⟨e,he,T,A,c⟩ |⟨z,c1,c2,p,k,⟨n,b,_,j⟩,y,G,D⟩
 ·exact⟨e,T,A,c,fun h=>absurd h he⟩
 refine⟨0,z.1,z.2,c1,fun _=>⟨c2,[BN p],?_,fun q u=>?_⟩⟩
 ·obtain⟨K,e,u⟩:=eh h.sh.1;rw[e] at k
  have o:13<=kd/\kd<=17/\(kd=17->sd=1):=by
   unfold Mr at k;rcases k with⟨rfl,_⟩ |⟨rfl,_⟩ |⟨rfl,_⟩ |⟨rfl,_⟩ |⟨rfl,rfl,_⟩ <;> exact⟨AA,AA,AA⟩
  have a:=h.va.ls.1;exact su (w:=0) ⟨o.1,o.2.1⟩ o.2.2 ⟨s,AA⟩ (fun x v=>by have:=Vh h.va.wp x v;omega) a.1 (Vh h.va.wc) a.2.1 r (fun x v=>by have:=Vh h.cw x v;omega) (by rw[e];exact r9 u) rfl rfl rfl rfl rfl rfl (by rw[oS k];rfl)
 rw[List.mem_singleton.1 u];exact⟨y,so G j.vr (by rw[List.length_set];exact hlen.symm) (fun m hm=>Nat.le_trans (j.pb.Ef m hm) AE) rfl,D⟩
theorem nA {cr:List (el AY)} {a:List (List (el AS))} (A:CF 29 [.agg (cC kd P C V sd),AO vl,.one (.sl .i64 AJ),AH AI] (.one (.sl (.sl AS) a))) (j:∀q∈a,∃y:el AY,CF 30 [.one (.sl AS q),.one (.sl AY cr)] (BY (cN y) 0)/\CF 7 [.agg (cN y)] (AH 0)):CF 8 [.agg [.int .i64 kd,.sl .i64 P,.sl .i64 C,.sl .ex V,.int .i64 sd,Au vl,.sl .i64 AJ,.int .i64 AI,.sl C6 X,.sl .u8 W],.one (.sl AY cr)] (.one (.bool true)):=by
 refine AM Tryz.func8 fun E h=>?_
 refine AB h A ?_;rintro p ⟨w,f18⟩;refine BI [] [1,17,18,19] [] (fun vs t k=>∃(i':Nat) (i:Int),vs=[.one (.sl AY cr),.one (.sl (.sl AS) a),AH p,AH i]/\t=[]/\(AR i i'/\i'<=a.length)/\k=a.length-i') (a.length-0) ⟨0,0,rfl,rfl,⟨BD 0,AA⟩,rfl⟩ ?_;rintro H l vs t G ⟨i',i,rfl,rfl,⟨B,D⟩,F⟩;conv=>cbv
 have I:=B.eq;refine BQ (fun o=>?_) fun o=>?_
 ·exact AN ⟨t2,trivial⟩
 refine .inr ?_;refine Ae i' fun s g=>?_
 try conv=>cbv
 obtain⟨y,u,v⟩:=j s (List.mem_of_getElem? g);refine AB h u ?_;refine BM ?_;refine AB h v ?_;refine BM ?_;intro r z;exact BT l ⟨i'+1,r,rfl,rfl,⟨⟨AA⟩,AA⟩,rfl⟩
theorem s9 {D:Int} {N:Nat} {K:List Re} (hk:EF kd) (H:EF AI) (hN:N<=1048576) (hV:∀(i:Nat) (e:Ex),V[i]? =some e->Fw N e) (hs:∀v∈vl,v.1.2.length<=4000000/\v.2.2.length<=4000000) (G:ns=(runN (X.take 24)).1) (s:K.length<=3) (w:∀n∈ns,CY K n):CF 3 [.agg [.int .i64 kd,.sl .i64 P,.sl .i64 C,.sl .ex V,.int .i64 sd,Au vl,.sl .i64 AJ,.int .i64 AI,.sl C6 X,.sl .u8 W],AH D] (.one (.bool true)):=by
 refine AM Tryz.func3 fun E k=>?_
 obtain⟨Q,u⟩:=Ez (OU ns kd sd AI P C V vl AJ W);obtain⟨j,r⟩:∃z:List (el AY),z=if Q=true then (GS ns AI W W.length).map nm else []:=⟨_,rfl⟩
 obtain⟨B,g⟩:=xN j.length;refine AB k (fb hk H hN hV hs G s w u r g) ?_;refine AB k QK ?_;refine BM ?_;refine G5 (fun o=>?_) fun o=>?_
 ·refine AB k QK ?_;exact AN ⟨t2,trivial⟩
 refine DF (fun I=>?_) fun I=>?_
 ·refine AB k QK ?_;exact AN ⟨t2,trivial⟩
 intro a7 q;have a1:=q.eq;have f28:=q.le;refine Mk (fun J=>?_) fun J=>?_
 ·refine AB k QK ?_;exact AN ⟨t2,trivial⟩
 have a:=u.1 o;have M:j=(GS ns AI W W.length).map nm:=by rw[r,o];rfl
 have a6:j.length=W.length:=by rw[M,List.length_map,PU]
 have q1:=a.len;have q2:=a.p0;have q3:=a.p8;have q4:=a.c3;obtain⟨e1,T1,A1,cZ,F⟩:=pH s w a M (t:=D) ⟨AA,AA⟩;refine .inr (.inr (.inr (.inr (.inr (.inr (.inr ⟨AY,[.agg (cC kd P C V sd),AO vl,.one (.sl .i64 AJ),AH AI,AH D,.one (.sl AY j)],.Aj [(true,[BP T1,Au A1]),(false,[.int .i64 e1])],fun _=>⟨⟨rfl,rfl,rfl,rfl,rfl,trivial⟩,rfl,rfl,rfl,rfl,⟨rfl,_,rfl,by simp <;> omega,(by rw[g,List.drop_zero,List.take_length])⟩,trivial⟩,fun _=>⟨Gl k (cZ),rfl⟩,?_⟩))))));try conv=>cbv
 refine Gn (fun A=>?_) fun A=>?_
 ·exact AN ⟨t2,trivial⟩
 obtain⟨S,ps,T,R⟩:=F A;refine AK ?_;intro Du a2 Dr a5 y O;refine⟨(T1,A1),fun _=>⟨by show _<List.length (α:=(el AY)) j;(first | omega | (simp;omega)),C5⟩,?_⟩;intro (h:List (el AY)) (l:h=List.set (α:=(el AY)) j y (T1,A1));have p:h.length=j.length:=by rw[l,List.length_set]
 conv=>cbv
 refine AB k S ?_;refine DJ ?_;refine .inr (.inl ⟨[.agg [.int .i64 kd,.sl .i64 P,.sl .i64 C,.sl .ex V,.int .i64 sd,Au vl,.sl .i64 AJ,.int .i64 AI,.sl C6 X,.sl .u8 W],.one (.sl AY ((h).take B))],.one (.bool true),fun _=>⟨⟨rfl,rfl,rfl,rfl,rfl,rfl,rfl,rfl,rfl,rfl,trivial⟩,⟨_,rfl,by simp <;> omega,Ai⟩,trivial⟩,fun _=>Gl k (M8 rfl (by rw[show List.take B h=List.set j (2*AI+D).toNat (T1,A1) by rw[g,<-p,List.take_length,l,(AA:y=(2*AI+D).toNat)]];exact nA T R)),?_⟩);try conv=>cbv
 exact AN ⟨t2,trivial⟩
end
end Go.Abs
