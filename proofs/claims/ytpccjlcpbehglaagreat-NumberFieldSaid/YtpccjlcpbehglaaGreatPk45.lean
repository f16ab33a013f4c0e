/- Part 46 of a proof. Conditions: each theorem's own. -/
import Derived.Test.YtpccjlcpbehglaaGreatPk44
set_option linter.all false
set_option maxHeartbeats 8000000
open Go.Proofs
namespace Go.Abs
open Go.RowKit
variable {K R S:Nat} {T T2:List LR} {TT:List (List Rat)→Prop}
theorem Adjoin_v {A B:LR} {R' s:Nat} {u:List (List Rat)} {v:Re} (h:Twr R u) (h':Twr R' (adj u v)) (h8:(adj u v).length≤8) (hT:T=tw u) (hA:A=em u v) (hx:El u s v) (hF:Fit u.length R s) (h0:0≤v) (hT2:T2=tw (adj u v)) (hB:B=em (adj u v) (Re.sqrt v)):
  CF 72 [.one (.sl (.sl tRat) T),.one (.sl tRat A)] (.tup [(false,[.sl (.sl tRat) T2]),(false,[.sl tRat B]),(false,[.int .i64 0])]):=by
 by_cases hs:Sq u v
 ·rw[adj_in hs] at hT2 hB
  have hTT:T2=T:=hT2.trans hT.symm
  subst hTT
  exact ad_in h hT hA hx hF ((sq_sqrt h0).1 hs) (Re.sqrt_nn v) (Re.sqrt_sq h0) hB
 ·rw[adj_new hs] at h' h8 hT2 hB
  rw[←rt_new hx.mem] at hB
  exact ad_new h hT hA hx hF (by rw[List.length_cons] at h8;omega) h0 hs rfl h' hT2 hB
theorem pre_suffix (u:List (List Rat)) (i:Nat):pre u i<:+u:=List.drop_suffix _ _
theorem pre_zero (u:List (List Rat)):pre u 0=[]:=by rw[pre,Nat.sub_zero,List.drop_length]
theorem bool_ex (p:Prop):∃b:Bool,(b=true↔p):=by
 by_cases h:p
 ·exact⟨true,by simp[h]⟩
 ·exact⟨false,by simp[h]⟩
theorem begins_d {X Y:List LR} {u w:List (List Rat)} {c:Bool} (hu:Twr R u) (hw:Twr R w) (hX:X=tw u) (hY:Y=tw w) (h:c=true↔w<:+u):CF 77 [.one (.sl (.sl tRat) X),.one (.sl (.sl tRat) Y)] (.one (.bool c)):=by
 cases c with
 | true=>exact begins_t hu hw hX hY (h.1 rfl)
 | false=>exact begins_f hu hw hX hY (fun k=>by have:=h.2 k;cases this)
noncomputable def nm (n:List (List Rat)×Re):el tNum:=(tw n.1,em n.1 n.2)
noncomputable def joinL (ns:List (List (List Rat)×Re)):List (List Rat):=ns.foldl (fun t n=>joinT t n.1) []
theorem joinL_snoc (ns:List (List (List Rat)×Re)) (n:List (List Rat)×Re):joinL (ns++[n])=joinT (joinL ns) n.1:=by
 rw[joinL,List.foldl_append];rfl
theorem joinL_take {ns:List (List (List Rat)×Re)} {i:Nat} {n:List (List Rat)×Re} (h:ns[i]? =some n):joinL (ns.take (i+1))=joinT (joinL (ns.take i)) n.1:=by
 rw[take_snoc h,joinL_snoc]
theorem get_nm {X:List (el tNum)} {ns:List (List (List Rat)×Re)} {i:Nat} {x:el tNum} (hX:X=ns.map nm) (hx:X[i]? =some x):∃u y,x.1=tw u∧x.2=em u y∧ns[i]? =some (u,y):=by
 rw[hX,List.getElem?_map] at hx
 cases h:ns[i]? with
 | none=>rw[h] at hx;simp at hx
 | some n=>
  rw[h] at hx
  have e:nm n=x:=Option.some.inj hx
  exact⟨n.1,n.2,by rw[←e];rfl,by rw[←e];rfl,rfl⟩
theorem Gam.joinL (G:Gam TT R K S):∀{ns:List (List (List Rat)×Re)},(∀n∈ns,TT n.1)→TT (joinL ns):=by
 have key:∀(ns:List (List (List Rat)×Re)) (t:List (List Rat)),TT t→(∀n∈ns,TT n.1)→TT (ns.foldl (fun t n=>joinT t n.1) t):=by
  intro ns
  induction ns with
  | nil=>intro t ht _;exact ht
  | cons n ns ih=>intro t ht h;exact ih _ (G.join ht (h n List.mem_cons_self)) (fun m hm=>h m (List.mem_cons_of_mem _ hm))
 intro ns h
 exact key ns [] G.nil h
theorem emb_joinL (G:Gam TT R K S) {ns:List (List (List Rat)×Re)} (h:∀n∈ns,TT n.1):∀n∈ns,Emb n.1 (Go.Abs.joinL ns):=by
 have key:∀(ns:List (List (List Rat)×Re)) (t:List (List Rat)),TT t→(∀n∈ns,TT n.1)→Emb t (ns.foldl (fun t n=>joinT t n.1) t)∧∀n∈ns,Emb n.1 (ns.foldl (fun t n=>joinT t n.1) t):=by
  intro ns
  induction ns with
  | nil=>intro t ht _;exact⟨Emb.refl t,fun n hn=>by simp at hn⟩
  | cons n ns ih=>
   intro t ht h
   have hn:=h n List.mem_cons_self
   have hj:=red_join (G.twr ht).red (G.twr hn).red
   obtain⟨h1,h2⟩:=ih _ (G.join ht hn) (fun m hm=>h m (List.mem_cons_of_mem _ hm))
   refine⟨hj.2.1.trans h1,fun m hm=>?_⟩
   rcases List.mem_cons.1 hm with rfl | hm
   ·exact hj.2.2.trans h1
   ·exact h2 m hm
 exact (key ns [] G.nil h).2
theorem extend_ok {U RL:List LR} {t u:List (List Rat)} (G:Gam TT R K S) (ht:TT t) (hu:TT u) (hT:T=tw t) (hU:U=tw u) (hT2:T2=tw (ext t u)) (hRL:RL=rootsL t u):CF 89 [.one (.sl (.sl tRat) T),.one (.sl (.sl tRat) U)] (.tup [(true,[.sl (.sl tRat) T2,.sl (.sl tRat) RL]),(false,[.int .i64 0])]):=by
 have hUl:U.length=u.length:=by rw[hU,tw_len]
 have hul:=G.ht hu
 have hRS:=G.RS
 refine acall_fn Tryz.func89 (by kernel_rfl) rfl fun E hE=>?_
 conv=>cbv
 intro n15 h15;have e15:=h15.eq;have f15:=h15.le;conv=>cbv
 refine .inr ?_
 obtain⟨J0,hJ0⟩:∃J:List AV→List Blk→Nat→Prop,J=fun vs bl k=>(∃(L i:Int),vs=[.one (.lptr 4 0 0),.one (.lptr 6 0 0),.one (.sl (.sl tRat) U),.one (.int .i64 L),.one (.int .i64 i)]∧bl=[.var 0 [.nil,.nil],.var 0 [.sl (.sl tRat) T,.nil],.dead 0]∧(LenIs L U.length∧NatIs i 0)∧k=U.length)∨
  (∃(Ti o:List LR) (mm i':Nat) (L i:Int),vs=[.one (.lptr 4 0 0),.one (.lptr 6 0 0),.one (.sl (.sl tRat) U),.one (.int .i64 L),.one (.int .i64 i)]∧bl=[.var 0 [.nil,.nil],.var 0 [.sl (.sl tRat) Ti,.lsl (.sl tRat) 39 0 0 mm],.arr 0 (.sl tRat) o]∧(LenIs L U.length∧NatIs i i'∧i'≤U.length∧mm=o.length)∧Ti=tw (ext t (pre u i'))∧o=rootsL t (pre u i')∧k=U.length-i'):=⟨_,rfl⟩
 refine⟨[4,6,14,15,16],[4,6,39],J0,⟨U.length,by rw[hJ0];exact .inl ⟨n15,0,rfl,rfl,⟨h15,natIs 0⟩,rfl⟩⟩,?_⟩
 intro vs bl kk0 hj;rw[hJ0] at hj
 rcases hj with⟨L,i,rfl,rfl,⟨hL,hi⟩,hk0⟩ |⟨Ti,o,mm,i',L,i,rfl,rfl,⟨hL,hi,hiL,hmm⟩,hTi,hinv,hk0⟩
 ·conv=>cbv
  have eL:=hL.eq
  have ei:=hi.eq
  obtain⟨i',hi'⟩:∃z:Nat,z=0:=⟨_,rfl⟩
  have hTi:T=tw (ext t (pre u i')):=by rw[hi',pre_zero];exact hT
  intro n17 h17;conv=>cbv
  cases n17 <;> conv=>cbv
  ·have k17:=lss_f h17
   have hu0:u=[]:=List.eq_nil_of_length_eq_zero (by omega)
   exact fA ⟨⟨rfl,congrArg _ (by rw[hT2,hT,hu0];rfl),.inr (.inl ⟨_,congrArg _ (by rw[hRL,hu0];rfl)⟩),trivial⟩,⟨rfl,rfl,trivial⟩,trivial⟩ rfl (by simp)
  ·have k17:=lss_t h17
   refine .inr ?_
   obtain⟨x18,hx18⟩:=get_ex (l:=U) (i:=i') (by omega)
   refine⟨x18,fun _=>⟨by omega,by rw[show (i).toNat=i' by omega];exact hx18⟩,?_⟩
   try conv=>cbv
   obtain⟨r,hrp,hri⟩:=pre_succ (u:=u) (i:=i') (by omega)
   have hpu:TT (pre u i'):=G.suf (pre_suffix u i') hu
   have hpu1:TT (r::pre u i'):=hrp ▸ G.suf (pre_suffix u (i'+1)) hu
   have hrd:=(G.twr hpu1).red
   have hrx:x18=em (pre u i') (evR (pre u i') r):=by rw[←hU,hx18] at hri;exact (Option.some.inj hri).trans (em_rad hrd)
   have hwi:TT (ext t (pre u i')):=G.ext ht hpu
   have hei:=(red_ext (G.twr ht).red (G.twr hpu).red).2
   have hrE:El (pre u i') S (evR (pre u i') r):=(El.rad (G.twr hpu1)).mono hRS
   have hwj:TT (adj (ext t (pre u i')) (evR (pre u i') r)):=G.adj hwi hpu1 hei
   have hej:ext t (pre u (i'+1))=adj (ext t (pre u i')) (evR (pre u i') r):=by rw[hrp];rfl
   have hrj:rootsL t (pre u (i'+1))=rootsL t (pre u i')++[em (adj (ext t (pre u i')) (evR (pre u i') r)) (Re.sqrt (evR (pre u i') r))]:=by rw[hrp];rfl
   obtain⟨w25,hw25⟩:∃z:LR,z=em (ext t (pre u i')) (evR (pre u i') r):=⟨_,rfl⟩
   refine cL (r:= .one (.sl tRat w25)) hE (imC G hwi hpu hei hTi (by rw[hi',pre_zero];trivial) hrx hrE hw25) ⟨⟨rfl,.inr ⟨_,rfl⟩,trivial⟩,rfl,trivial⟩ ?_
   try conv=>cbv
   obtain⟨w27,hw27⟩:∃z:List LR,z=tw (adj (ext t (pre u i')) (evR (pre u i') r)):=⟨_,rfl⟩
   obtain⟨w28,hw28⟩:∃z:LR,z=em (adj (ext t (pre u i')) (evR (pre u i') r)) (Re.sqrt (evR (pre u i') r)):=⟨_,rfl⟩
   refine cL (r:= .tup [(false,[.sl (.sl tRat) w27]),(false,[.sl tRat w28]),(false,[.int .i64 0])]) hE (Adjoin_v (G.twr hwi) (G.twr hwj) (G.ht hwj) hTi hw25 (G.emb hpu hwi hei hrE) (G.fit hwi) (by have:=hrd.2.2.1;grind) hw27 hw28) ⟨rfl,rfl,trivial⟩ ?_
   try conv=>cbv
   refine⟨fun _=>rfl,?_⟩
   intro n31 h31;(have h31:=h31.trans (show _=false by decide));subst h31;conv=>cbv
   refine⟨[w28],fun _=>⟨rfl,by decide,rfl,⟨rfl,by first | exact⟨rfl,trivial⟩ | exact⟨rfl,rfl,trivial⟩ | exact⟨rfl,rfl,rfl,rfl,trivial⟩ | simp[allC,leC,cells],trivial⟩⟩,.inr ?_⟩
   try conv=>cbv
   refine .inl ⟨[w28],fun _=>⟨rfl,by show (1)*24≤140737488355328;(try simp only[List.length_take,List.length_drop]);omega⟩,?_⟩
   intro n39 h39;conv=>cbv
   intro n42 h42;conv=>cbv
   refine⟨fun _=>i64 (by omega),?_⟩
   refine⟨U.length-(i'+1),?_,?_⟩
   ·omega
   rw[hJ0]
   exact .inr ⟨w27,[w28],n39,i'+1,L,n42,rfl,rfl,⟨hL,⟨by omega⟩,by omega,h39⟩,by rw[hw27,hej],by rw[hrj,hw28,hi',pre_zero];rfl,rfl⟩
 ·conv=>cbv
  have eL:=hL.eq
  have ei:=hi.eq
  have hol:o.length≤U.length:=by rw[hinv,rootsL_len,pre_len (by omega)];omega
  intro n17 h17;conv=>cbv
  cases n17 <;> conv=>cbv
  ·have k17:=lss_f h17
   have hpa:pre u i'=u:=by rw[show i'=u.length by omega];exact pre_all u
   exact fA ⟨⟨rfl,congrArg _ (by rw[hT2,hTi,hpa]),.inl ⟨_,rfl,by omega,congrArg _ (by rw[hRL,hmm,List.drop_zero,List.take_length,hinv,hpa])⟩,trivial⟩,⟨rfl,rfl,trivial⟩,trivial⟩ rfl (by simp)
  ·have k17:=lss_t h17
   refine .inr ?_
   obtain⟨x18,hx18⟩:=get_ex (l:=U) (i:=i') (by omega)
   refine⟨x18,fun _=>⟨by omega,by rw[show (i).toNat=i' by omega];exact hx18⟩,?_⟩
   try conv=>cbv
   obtain⟨r,hrp,hri⟩:=pre_succ (u:=u) (i:=i') (by omega)
   have hpu:TT (pre u i'):=G.suf (pre_suffix u i') hu
   have hpu1:TT (r::pre u i'):=hrp ▸ G.suf (pre_suffix u (i'+1)) hu
   have hrd:=(G.twr hpu1).red
   have hrx:x18=em (pre u i') (evR (pre u i') r):=by rw[←hU,hx18] at hri;exact (Option.some.inj hri).trans (em_rad hrd)
   have hwi:TT (ext t (pre u i')):=G.ext ht hpu
   have hei:=(red_ext (G.twr ht).red (G.twr hpu).red).2
   have hrE:El (pre u i') S (evR (pre u i') r):=(El.rad (G.twr hpu1)).mono hRS
   have hwj:TT (adj (ext t (pre u i')) (evR (pre u i') r)):=G.adj hwi hpu1 hei
   have hej:ext t (pre u (i'+1))=adj (ext t (pre u i')) (evR (pre u i') r):=by rw[hrp];rfl
   have hrj:rootsL t (pre u (i'+1))=rootsL t (pre u i')++[em (adj (ext t (pre u i')) (evR (pre u i') r)) (Re.sqrt (evR (pre u i') r))]:=by rw[hrp];rfl
   obtain⟨w25,hw25⟩:∃z:LR,z=em (ext t (pre u i')) (evR (pre u i') r):=⟨_,rfl⟩
   refine .inr (.inr (.inl ⟨39,.arr 0 (.sl tRat) o,[.agg [.sl (.sl tRat) Ti,.lsl (.sl tRat) 0 0 0 mm],.one (.sl tRat x18)],.one (.sl tRat w25),fun _=>⟨rfl,⟨⟨rfl,⟨⟨rfl,rfl⟩,rfl⟩,trivial⟩,rfl,trivial⟩⟩,fun _=>useD hE (imD G hwi hpu hei hTi (by rw[hinv];exact roots_ok (G.twr ht).red (G.twr hpu).red) hmm hrx hrE hw25),?_⟩))
   try conv=>cbv
   obtain⟨w27,hw27⟩:∃z:List LR,z=tw (adj (ext t (pre u i')) (evR (pre u i') r)):=⟨_,rfl⟩
   obtain⟨w28,hw28⟩:∃z:LR,z=em (adj (ext t (pre u i')) (evR (pre u i') r)) (Re.sqrt (evR (pre u i') r)):=⟨_,rfl⟩
   refine cL (r:= .tup [(false,[.sl (.sl tRat) w27]),(false,[.sl tRat w28]),(false,[.int .i64 0])]) hE (Adjoin_v (G.twr hwi) (G.twr hwj) (G.ht hwj) hTi hw25 (G.emb hpu hwi hei hrE) (G.fit hwi) (by have:=hrd.2.2.1;grind) hw27 hw28) ⟨rfl,rfl,trivial⟩ ?_
   try conv=>cbv
   refine⟨fun _=>rfl,?_⟩
   intro n31 h31;(have h31:=h31.trans (show _=false by decide));subst h31;conv=>cbv
   refine⟨[w28],fun _=>⟨rfl,by decide,rfl,⟨rfl,by first | exact⟨rfl,trivial⟩ | exact⟨rfl,rfl,trivial⟩ | exact⟨rfl,rfl,rfl,rfl,trivial⟩ | simp[allC,leC,cells],trivial⟩⟩,.inr ?_⟩
   try conv=>cbv
   refine .inl ⟨[w28],fun _=>⟨rfl,hmm,rfl,by show (o.length+1)*24≤140737488355328;(try simp only[List.length_take,List.length_drop]);omega⟩,?_⟩
   intro (l39:List (el (.sl tRat))) n39 ql39;have hl39:l39=(o:List (el (.sl tRat)))++([w28]:List (el (.sl tRat))):=ql39.1;have hn39:n39=List.length (α:=(el (.sl tRat))) l39:=ql39.2;conv=>cbv
   intro n42 h42;conv=>cbv
   refine⟨fun _=>i64 (by omega),?_⟩
   refine⟨U.length-(i'+1),?_,?_⟩
   ·omega
   rw[hJ0]
   exact .inr ⟨w27,l39,n39,i'+1,L,n42,rfl,rfl,⟨hL,⟨by omega⟩,by omega,hn39⟩,by rw[hw27,hej],by rw[hl39,hinv,hrj,hw28],rfl⟩
end Go.Abs
namespace Go.Abs
open Go.RowKit
variable {K R S:Nat} {L:List (el tNum)} {T:List LR} {TT:List (List Rat)→Prop}
theorem common_ok (G:Gam TT R K S) {ns:List (List (List Rat)×Re)} (hns:∀n∈ns,TT n.1) (hL:L=ns.map nm) (hT:T=tw (joinL ns)):CF 88 [.one (.sl tNum L)] (.tup [(false,[.sl (.sl tRat) T]),(false,[.int .i64 0])]):=by
 have hLl:L.length=ns.length:=by rw[hL,List.length_map]
 refine acall_fn Tryz.func88 (by kernel_rfl) rfl fun E hE=>?_
 conv=>cbv
 intro n10 h10;have e10:=h10.eq;have f10:=h10.le;conv=>cbv
 refine .inr ?_
 obtain⟨J0,hJ0⟩:∃J:List AV→List Blk→Nat→Prop,J=fun vs bl k=>(∃(i':Nat) (n i:Int),vs=[.one .nil,.one (.sl tNum L),.one (.int .i64 n),.one (.int .i64 i)]∧bl=[]∧(LenIs n L.length∧NatIs i i'∧i'≤L.length)∧tw (joinL (ns.take i'))=[]∧k=L.length-i')∨
  (∃(Ti:List LR) (i':Nat) (n i:Int),vs=[.one (.sl (.sl tRat) Ti),.one (.sl tNum L),.one (.int .i64 n),.one (.int .i64 i)]∧bl=[]∧(LenIs n L.length∧NatIs i i'∧i'≤L.length)∧Ti=tw (joinL (ns.take i'))∧k=L.length-i'):=⟨_,rfl⟩
 refine⟨[4,9,10,11],[],J0,⟨L.length,by rw[hJ0];exact .inl ⟨0,n10,0,rfl,rfl,⟨h10,natIs 0,by omega⟩,rfl,rfl⟩⟩,?_⟩
 intro vs bl kk0 hj;rw[hJ0] at hj
 rcases hj with⟨i',n,i,rfl,rfl,⟨hn,hi,hiL⟩,h0,hk0⟩ |⟨Ti,i',n,i,rfl,rfl,⟨hn,hi,hiL⟩,hTi,hk0⟩
 ·conv=>cbv
  have en:=hn.eq
  have ei:=hi.eq
  have hTi:=h0.symm
  intro n12 h12;conv=>cbv
  cases n12 <;> conv=>cbv
  ·have k12:=lss_f h12
   exact fA ⟨⟨rfl,.inr (.inl ⟨_,congrArg _ (by rw[hT,←List.take_of_length_le (show ns.length≤i' by omega)];exact h0)⟩),trivial⟩,⟨rfl,rfl,trivial⟩,trivial⟩ rfl (by simp)
  ·have k12:=lss_t h12
   refine .inr ?_
   obtain⟨x13,hx13⟩:=get_ex (l:=L) (i:=i') (by omega)
   refine⟨x13,fun _=>⟨by omega,by rw[show (i).toNat=i' by omega];exact hx13⟩,?_⟩
   try conv=>cbv
   obtain⟨u,y,hxu,hxy,hnu⟩:=get_nm hL hx13
   have hu:TT u:=hns _ (List.mem_of_getElem? hnu)
   have hst:=joinL_take hnu
   unfold joinT at hst
   have htk:TT (joinL (ns.take i')):=G.joinL (fun n hn=>hns n (List.mem_of_mem_take hn))
   refine .inr ?_
   obtain⟨c31,hc31⟩:=bool_ex (u<:+(joinL (ns.take i')))
   refine cL hE (begins_d (G.twr htk) (G.twr hu) hTi hxu hc31) ⟨.inr ⟨_,rfl⟩,rfl,trivial⟩ ?_
   try conv=>cbv
   refine .inr ?_
   cases c31 <;> conv=>cbv
   ·have k31:=fun q=>Bool.false_ne_true (hc31.2 q)
    obtain⟨c36,hc36⟩:=bool_ex ((joinL (ns.take i'))<:+u)
    refine cL hE (begins_d (G.twr hu) (G.twr htk) hxu hTi hc36) ⟨rfl,.inr ⟨_,rfl⟩,trivial⟩ ?_
    try conv=>cbv
    refine .inr ?_
    cases c36 <;> conv=>cbv
    ·have k36:=fun q=>Bool.false_ne_true (hc36.2 q)
     obtain⟨w20,hw20⟩:∃z:List LR,z=tw (ext (joinL (ns.take i')) u):=⟨_,rfl⟩
     obtain⟨w21,hw21⟩:∃z:List LR,z=rootsL (joinL (ns.take i')) u:=⟨_,rfl⟩
     refine cL hE (extend_ok G htk hu hTi hxu hw20 hw21) ⟨.inr ⟨_,rfl⟩,rfl,trivial⟩ ?_
     try conv=>cbv
     intro n23 h23;(have h23:=h23.trans (show _=false by decide));subst h23;conv=>cbv
     intro n39 h39;conv=>cbv
     refine⟨fun _=>i64 (by omega),?_⟩
     refine⟨L.length-(i'+1),?_,?_⟩
     ·omega
     rw[hJ0]
     exact .inr ⟨_,i'+1,n,n39,rfl,rfl,⟨hn,⟨by omega⟩,by omega⟩,by rw[hst,if_neg k31,if_neg k36,hw20],rfl⟩
    ·have k36:=hc36.1 rfl
     intro n39 h39;conv=>cbv
     refine⟨fun _=>i64 (by omega),?_⟩
     refine⟨L.length-(i'+1),?_,?_⟩
     ·omega
     rw[hJ0]
     exact .inr ⟨_,i'+1,n,n39,rfl,rfl,⟨hn,⟨by omega⟩,by omega⟩,by rw[hst,if_neg k31,if_pos k36];exact hxu,rfl⟩
   ·have k31:=hc31.1 rfl
    intro n39 h39;conv=>cbv
    refine⟨fun _=>i64 (by omega),?_⟩
    refine⟨L.length-(i'+1),?_,?_⟩
    ·omega
    rw[hJ0]
    exact .inl ⟨i'+1,n,n39,rfl,rfl,⟨hn,⟨by omega⟩,by omega⟩,by rw[hst,if_pos k31];exact h0,rfl⟩
 ·conv=>cbv
  have en:=hn.eq
  have ei:=hi.eq
  intro n12 h12;conv=>cbv
  cases n12 <;> conv=>cbv
  ·have k12:=lss_f h12
   exact fA ⟨⟨rfl,congrArg _ (by rw[hT,hTi,List.take_of_length_le (show ns.length≤i' by omega)]),trivial⟩,⟨rfl,rfl,trivial⟩,trivial⟩ rfl (by simp)
  ·have k12:=lss_t h12
   refine .inr ?_
   obtain⟨x13,hx13⟩:=get_ex (l:=L) (i:=i') (by omega)
   refine⟨x13,fun _=>⟨by omega,by rw[show (i).toNat=i' by omega];exact hx13⟩,?_⟩
   try conv=>cbv
   obtain⟨u,y,hxu,hxy,hnu⟩:=get_nm hL hx13
   have hu:TT u:=hns _ (List.mem_of_getElem? hnu)
   have hst:=joinL_take hnu
   unfold joinT at hst
   have htk:TT (joinL (ns.take i')):=G.joinL (fun n hn=>hns n (List.mem_of_mem_take hn))
   refine .inr ?_
   obtain⟨c31,hc31⟩:=bool_ex (u<:+(joinL (ns.take i')))
   refine cA hE (begins_d (G.twr htk) (G.twr hu) hTi hxu hc31) ?_
   try conv=>cbv
   refine .inr ?_
   cases c31 <;> conv=>cbv
   ·have k31:=fun q=>Bool.false_ne_true (hc31.2 q)
    obtain⟨c36,hc36⟩:=bool_ex ((joinL (ns.take i'))<:+u)
    refine cA hE (begins_d (G.twr hu) (G.twr htk) hxu hTi hc36) ?_
    try conv=>cbv
    refine .inr ?_
    cases c36 <;> conv=>cbv
    ·have k36:=fun q=>Bool.false_ne_true (hc36.2 q)
     obtain⟨w20,hw20⟩:∃z:List LR,z=tw (ext (joinL (ns.take i')) u):=⟨_,rfl⟩
     obtain⟨w21,hw21⟩:∃z:List LR,z=rootsL (joinL (ns.take i')) u:=⟨_,rfl⟩
     refine cA hE (extend_ok G htk hu hTi hxu hw20 hw21) ?_
     try conv=>cbv
     intro n23 h23;(have h23:=h23.trans (show _=false by decide));subst h23;conv=>cbv
     intro n39 h39;conv=>cbv
     refine⟨fun _=>i64 (by omega),?_⟩
     refine⟨L.length-(i'+1),?_,?_⟩
     ·omega
     rw[hJ0]
     exact .inr ⟨_,i'+1,n,n39,rfl,rfl,⟨hn,⟨by omega⟩,by omega⟩,by rw[hst,if_neg k31,if_neg k36,hw20],rfl⟩
    ·have k36:=hc36.1 rfl
     intro n39 h39;conv=>cbv
     refine⟨fun _=>i64 (by omega),?_⟩
     refine⟨L.length-(i'+1),?_,?_⟩
     ·omega
     rw[hJ0]
     exact .inr ⟨_,i'+1,n,n39,rfl,rfl,⟨hn,⟨by omega⟩,by omega⟩,by rw[hst,if_neg k31,if_pos k36];exact hxu,rfl⟩
   ·have k31:=hc31.1 rfl
    intro n39 h39;conv=>cbv
    refine⟨fun _=>i64 (by omega),?_⟩
    refine⟨L.length-(i'+1),?_,?_⟩
    ·omega
    rw[hJ0]
    exact .inr ⟨_,i'+1,n,n39,rfl,rfl,⟨hn,⟨by omega⟩,by omega⟩,by rw[hst,if_pos k31,←hTi],rfl⟩
theorem Join_ok (G:Gam TT R K S) {ns:List (List (List Rat)×Re)} (hns:∀n∈ns,TT n.1) (hL:L=ns.map nm) (hel:∀n∈ns,El n.1 S n.2) (hlen:ns.length≤1000000) {O:List (el tNum)} (hO:O=ns.map (fun n=>nm (joinL ns,n.2))):CF 32 [.one (.sl tNum L)] (.tup [(false,[.sl tNum O]),(false,[.int .i64 0])]):=by
 have hLl:L.length=ns.length:=by rw[hL,List.length_map]
 have htj:TT (joinL ns):=G.joinL hns
 obtain⟨T,hT⟩:∃z:List LR,z=tw (joinL ns):=⟨_,rfl⟩
 refine acall_fn Tryz.func32 (by kernel_rfl) rfl fun E hE=>?_
 conv=>cbv
 refine cA hE (common_ok G hns hL hT) ?_
 try conv=>cbv
 intro n18 h18;(have h18:=h18.trans (show _=false by decide));subst h18;conv=>cbv
 intro n21 h21;have e21:=h21.eq;have f21:=h21.le;conv=>cbv
 refine .inr ?_
 obtain⟨J0,hJ0⟩:∃J:List AV→List Blk→Nat→Prop,J=fun vs bl k=>(∃(n i:Int),vs=[.one (.sl (.sl tRat) T),.one .nil,.one (.sl tNum L),.one (.int .i64 n),.one (.int .i64 i)]∧bl=[.dead 0]∧(LenIs n L.length∧NatIs i 0)∧k=L.length)∨
  (∃(o:List (el tNum)) (mm i':Nat) (n i:Int),vs=[.one (.sl (.sl tRat) T),.one (.lsl tNum 56 0 0 mm),.one (.sl tNum L),.one (.int .i64 n),.one (.int .i64 i)]∧bl=[.arr 0 tNum o]∧(LenIs n L.length∧NatIs i i'∧i'≤L.length∧mm=o.length)∧o=(ns.take i').map (fun n=>nm (joinL ns,n.2))∧k=L.length-i'):=⟨_,rfl⟩
 refine⟨[4,6,20,21,22],[56],J0,⟨L.length,by rw[hJ0];exact .inl ⟨n21,0,rfl,rfl,⟨h21,natIs 0⟩,rfl⟩⟩,?_⟩
 intro vs bl kk0 hj;rw[hJ0] at hj
 rcases hj with⟨n,i,rfl,rfl,⟨hn,hi⟩,hk0⟩ |⟨o,mm,i',n,i,rfl,rfl,⟨hn,hi,hiL,hmm⟩,hinv,hk0⟩
 ·conv=>cbv
  have en:=hn.eq
  have ei:=hi.eq
  obtain⟨i',hi'⟩:∃z:Nat,z=0:=⟨_,rfl⟩
  intro n23 h23;conv=>cbv
  cases n23 <;> conv=>cbv
  ·have k23:=lss_f h23
   exact fA ⟨⟨rfl,.inr (.inl ⟨_,congrArg _ (by rw[hO,show ns=[] from List.eq_nil_of_length_eq_zero (by omega)];rfl)⟩),trivial⟩,⟨rfl,rfl,trivial⟩,trivial⟩ rfl (by simp)
  ·have k23:=lss_t h23
   refine .inr ?_
   obtain⟨x24,hx24⟩:=get_ex (l:=L) (i:=i') (by omega)
   refine⟨x24,fun _=>⟨by omega,by rw[show (i).toNat=i' by omega];exact hx24⟩,?_⟩
   try conv=>cbv
   obtain⟨u,y,hxu,hxy,hnu⟩:=get_nm hL hx24
   have hun:=List.mem_of_getElem? hnu
   have hu:TT u:=hns _ hun
   have hye:El u S y:=hel _ hun
   have huj:Emb u (joinL ns):=emb_joinL G hns _ hun
   obtain⟨wC,hwC⟩:∃z:LR,z=em (joinL ns) y:=⟨_,rfl⟩
   obtain⟨c31,hc31⟩:=bool_ex (u<:+joinL ns)
   refine cA hE (begins_d (G.twr htj) (G.twr hu) hT hxu hc31) ?_
   try conv=>cbv
   refine .inr ?_
   cases c31 <;> conv=>cbv
   ·have k31:=fun q=>Bool.false_ne_true (hc31.2 q)
    obtain⟨w43,hw43⟩:∃z:List LR,z=rootsL (joinL ns) u:=⟨_,rfl⟩
    have hext:=ext_eq (G.twr htj).red (G.twr hu).red huj
    refine cL (r:= .tup [(true,[.sl (.sl tRat) T,.sl (.sl tRat) w43]),(false,[.int .i64 0])]) hE (extend_ok G htj hu hT hxu (by rw[hext];exact hT) hw43) ⟨rfl,rfl,trivial⟩ ?_
    try conv=>cbv
    intro n45 h45;(have h45:=h45.trans (show _=false by decide));subst h45;conv=>cbv
    refine cL (r:= .one (.sl tRat wC)) hE (imC G htj hu huj hT (by rw[hw43];have:=roots_ok (G.twr htj).red (G.twr hu).red;rwa [hext] at this) hxy hye hwC) ⟨⟨rfl,rfl,trivial⟩,rfl,trivial⟩ ?_
    try conv=>cbv
    refine cL (r:= .agg [.sl (.sl tRat) T,.sl tRat wC]) hE (detach_ok (G.twr htj) hT hwC (G.emb hu htj huj hye) (by have:=G.mul htj;omega)) ⟨⟨rfl,rfl,trivial⟩,trivial⟩ ?_
    try conv=>cbv
    refine⟨[(T,wC)],fun _=>⟨rfl,by decide,rfl,⟨rfl,by first | exact⟨rfl,trivial⟩ | exact⟨rfl,rfl,trivial⟩ | exact⟨rfl,rfl,rfl,rfl,trivial⟩ | simp[allC,leC,cells],trivial⟩⟩,.inr ?_⟩
    try conv=>cbv
    refine .inl ⟨[(T,wC)],fun _=>⟨rfl,by show (1)*48≤140737488355328;(try simp only[List.length_take,List.length_drop]);omega⟩,?_⟩
    intro n56 h56;conv=>cbv
    intro n57 h57;conv=>cbv
    refine⟨fun _=>i64 (by omega),?_⟩
    refine⟨L.length-(i'+1),?_,?_⟩
    ·omega
    rw[hJ0]
    exact .inr ⟨_,n56,i'+1,n,n57,rfl,rfl,⟨hn,⟨by omega⟩,by omega,h56⟩,by rw[take_snoc hnu,List.map_append,hi'];simp[nm,hT,hwC],rfl⟩
   ·have k31:=hc31.1 rfl
    refine cA hE (pad_ok (G.twr htj) hT hxy hye.mem k31 hwC) ?_
    try conv=>cbv
    refine cL (r:= .agg [.sl (.sl tRat) T,.sl tRat wC]) hE (detach_ok (G.twr htj) hT hwC (G.emb hu htj huj hye) (by have:=G.mul htj;omega)) ⟨⟨rfl,rfl,trivial⟩,trivial⟩ ?_
    try conv=>cbv
    refine⟨[(T,wC)],fun _=>⟨rfl,by decide,rfl,⟨rfl,by first | exact⟨rfl,trivial⟩ | exact⟨rfl,rfl,trivial⟩ | exact⟨rfl,rfl,rfl,rfl,trivial⟩ | simp[allC,leC,cells],trivial⟩⟩,.inr ?_⟩
    try conv=>cbv
    refine .inl ⟨[(T,wC)],fun _=>⟨rfl,by show (1)*48≤140737488355328;(try simp only[List.length_take,List.length_drop]);omega⟩,?_⟩
    intro n56 h56;conv=>cbv
    intro n57 h57;conv=>cbv
    refine⟨fun _=>i64 (by omega),?_⟩
    refine⟨L.length-(i'+1),?_,?_⟩
    ·omega
    rw[hJ0]
    exact .inr ⟨_,n56,i'+1,n,n57,rfl,rfl,⟨hn,⟨by omega⟩,by omega,h56⟩,by rw[take_snoc hnu,List.map_append,hi'];simp[nm,hT,hwC],rfl⟩
 ·conv=>cbv
  have en:=hn.eq
  have ei:=hi.eq
  have hol:o.length≤L.length:=by rw[hinv,List.length_map,List.length_take];omega
  intro n23 h23;conv=>cbv
  cases n23 <;> conv=>cbv
  ·have k23:=lss_f h23
   exact fA ⟨⟨rfl,.inl ⟨_,rfl,by omega,congrArg _ (by rw[hO,hmm,hinv,List.drop_zero,List.take_length,List.take_of_length_le (show ns.length≤i' by omega)])⟩,trivial⟩,⟨rfl,rfl,trivial⟩,trivial⟩ rfl (by simp)
  ·have k23:=lss_t h23
   refine .inr ?_
   obtain⟨x24,hx24⟩:=get_ex (l:=L) (i:=i') (by omega)
   refine⟨x24,fun _=>⟨by omega,by rw[show (i).toNat=i' by omega];exact hx24⟩,?_⟩
   try conv=>cbv
   obtain⟨u,y,hxu,hxy,hnu⟩:=get_nm hL hx24
   have hun:=List.mem_of_getElem? hnu
   have hu:TT u:=hns _ hun
   have hye:El u S y:=hel _ hun
   have huj:Emb u (joinL ns):=emb_joinL G hns _ hun
   obtain⟨wC,hwC⟩:∃z:LR,z=em (joinL ns) y:=⟨_,rfl⟩
   obtain⟨c31,hc31⟩:=bool_ex (u<:+joinL ns)
   refine cA hE (begins_d (G.twr htj) (G.twr hu) hT hxu hc31) ?_
   try conv=>cbv
   refine .inr ?_
   cases c31 <;> conv=>cbv
   ·have k31:=fun q=>Bool.false_ne_true (hc31.2 q)
    obtain⟨w43,hw43⟩:∃z:List LR,z=rootsL (joinL ns) u:=⟨_,rfl⟩
    have hext:=ext_eq (G.twr htj).red (G.twr hu).red huj
    refine cL (r:= .tup [(true,[.sl (.sl tRat) T,.sl (.sl tRat) w43]),(false,[.int .i64 0])]) hE (extend_ok G htj hu hT hxu (by rw[hext];exact hT) hw43) ⟨rfl,rfl,trivial⟩ ?_
    try conv=>cbv
    intro n45 h45;(have h45:=h45.trans (show _=false by decide));subst h45;conv=>cbv
    refine cL (r:= .one (.sl tRat wC)) hE (imC G htj hu huj hT (by rw[hw43];have:=roots_ok (G.twr htj).red (G.twr hu).red;rwa [hext] at this) hxy hye hwC) ⟨⟨rfl,rfl,trivial⟩,rfl,trivial⟩ ?_
    try conv=>cbv
    refine cL (r:= .agg [.sl (.sl tRat) T,.sl tRat wC]) hE (detach_ok (G.twr htj) hT hwC (G.emb hu htj huj hye) (by have:=G.mul htj;omega)) ⟨⟨rfl,rfl,trivial⟩,trivial⟩ ?_
    try conv=>cbv
    refine⟨[(T,wC)],fun _=>⟨rfl,by decide,rfl,⟨rfl,by first | exact⟨rfl,trivial⟩ | exact⟨rfl,rfl,trivial⟩ | exact⟨rfl,rfl,rfl,rfl,trivial⟩ | simp[allC,leC,cells],trivial⟩⟩,.inr ?_⟩
    try conv=>cbv
    refine .inl ⟨[(T,wC)],fun _=>⟨rfl,hmm,rfl,by show (o.length+1)*48≤140737488355328;(try simp only[List.length_take,List.length_drop]);omega⟩,?_⟩
    intro (l56:List (el tNum)) n56 ql56;have hl56:l56=(o:List (el tNum))++([(T,wC)]:List (el tNum)):=ql56.1;have hn56:n56=List.length (α:=(el tNum)) l56:=ql56.2;conv=>cbv
    intro n57 h57;conv=>cbv
    refine⟨fun _=>i64 (by omega),?_⟩
    refine⟨L.length-(i'+1),?_,?_⟩
    ·omega
    rw[hJ0]
    exact .inr ⟨l56,n56,i'+1,n,n57,rfl,rfl,⟨hn,⟨by omega⟩,by omega,hn56⟩,by rw[hl56,hinv,take_snoc hnu,List.map_append];simp[nm,hT,hwC],rfl⟩
   ·have k31:=hc31.1 rfl
    refine cA hE (pad_ok (G.twr htj) hT hxy hye.mem k31 hwC) ?_
    try conv=>cbv
    refine cL (r:= .agg [.sl (.sl tRat) T,.sl tRat wC]) hE (detach_ok (G.twr htj) hT hwC (G.emb hu htj huj hye) (by have:=G.mul htj;omega)) ⟨⟨rfl,rfl,trivial⟩,trivial⟩ ?_
    try conv=>cbv
    refine⟨[(T,wC)],fun _=>⟨rfl,by decide,rfl,⟨rfl,by first | exact⟨rfl,trivial⟩ | exact⟨rfl,rfl,trivial⟩ | exact⟨rfl,rfl,rfl,rfl,trivial⟩ | simp[allC,leC,cells],trivial⟩⟩,.inr ?_⟩
    try conv=>cbv
    refine .inl ⟨[(T,wC)],fun _=>⟨rfl,hmm,rfl,by show (o.length+1)*48≤140737488355328;(try simp only[List.length_take,List.length_drop]);omega⟩,?_⟩
    intro (l56:List (el tNum)) n56 ql56;have hl56:l56=(o:List (el tNum))++([(T,wC)]:List (el tNum)):=ql56.1;have hn56:n56=List.length (α:=(el tNum)) l56:=ql56.2;conv=>cbv
    intro n57 h57;conv=>cbv
    refine⟨fun _=>i64 (by omega),?_⟩
    refine⟨L.length-(i'+1),?_,?_⟩
    ·omega
    rw[hJ0]
    exact .inr ⟨l56,n56,i'+1,n,n57,rfl,rfl,⟨hn,⟨by omega⟩,by omega,hn56⟩,by rw[hl56,hinv,take_snoc hnu,List.map_append];simp[nm,hT,hwC],rfl⟩
noncomputable def join2 (u v:List (List Rat)):List (List Rat):=joinL [(u,0),(v,0)]
theorem combine_ok (G:Gam TT R K S) {T1 T2:List LR} {A1 A2:LR} {u v:List (List Rat)} {x y:Re} (hu:TT u) (hv:TT v) (hT1:T1=tw u) (hT2:T2=tw v) (hA1:A1=em u x) (hA2:A2=em v y) (hx:El u S x) (hy:El v S y) {A B C:LR} {g:FuncId} (hT:T=tw (join2 u v)) (hA:A=em (join2 u v) x) (hB:B=em (join2 u v) y) (hg:CF g [.one (.sl (.sl tRat) T),.one (.sl tRat A),.one (.sl tRat B)] (.one (.sl tRat C))):CF 65 [.agg [.sl (.sl tRat) T1,.sl tRat A1],.agg [.sl (.sl tRat) T2,.sl tRat A2],.one (.fn g)] (.tup [(true,[.sl (.sl tRat) T,.sl tRat C]),(false,[.int .i64 0])]):=by
 obtain⟨O,hO⟩:∃z:List (el tNum),z=[(T,A),(T,B)]:=⟨_,rfl⟩
 have hOl:O.length=2:=by rw[hO];rfl
 have h0:O[0]? =some (T,A):=by rw[hO];rfl
 have h1:O[1]? =some (T,B):=by rw[hO];rfl
 refine acall_fn Tryz.func65 (by kernel_rfl) rfl fun E hE=>?_
 conv=>cbv
 refine⟨[(T1,A1),(T2,A2)],fun _=>⟨rfl,by decide,rfl,⟨rfl,by first | exact⟨rfl,trivial⟩ | exact⟨rfl,rfl,trivial⟩ | exact⟨rfl,rfl,rfl,rfl,trivial⟩ | simp[allC,leC,cells],⟨rfl,by first | exact⟨rfl,trivial⟩ | exact⟨rfl,rfl,trivial⟩ | exact⟨rfl,rfl,rfl,rfl,trivial⟩ | simp[allC,leC,cells],trivial⟩⟩⟩,.inr ?_⟩
 try conv=>cbv
 refine cL (r:= .tup [(false,[.sl tNum O]),(false,[.int .i64 0])]) hE (Join_ok (ns:=[(u,x),(v,y)]) G (by intro n hn;simp at hn;rcases hn with rfl | rfl;exact hu;exact hv) (by rw[hT1,hT2,hA1,hA2];rfl) (by intro n hn;simp at hn;rcases hn with rfl | rfl;exact hx;exact hy) (by show 2≤1000000;decide) (by rw[hO,hT,hA,hB];rfl)) ⟨rfl,trivial⟩ ?_
 try conv=>cbv
 intro n19 h19;(have h19:=h19.trans (show _=false by decide));subst h19;conv=>cbv
 obtain⟨x23,hx23⟩:=get_ex (l:=O) (i:=0) (by omega)
 refine⟨x23,fun _=>⟨by omega,hx23⟩,?_⟩
 try conv=>cbv
 obtain⟨x30,hx30⟩:=get_ex (l:=O) (i:=0) (by omega)
 refine⟨x30,fun _=>⟨by omega,hx30⟩,?_⟩
 try conv=>cbv
 obtain⟨x34,hx34⟩:=get_ex (l:=O) (i:=1) (by omega)
 refine⟨x34,fun _=>⟨by omega,hx34⟩,?_⟩
 try conv=>cbv
 have e23:=Option.some.inj (hx23.symm.trans h0)
 have e30:=Option.some.inj (hx30.symm.trans h0)
 have e34:=Option.some.inj (hx34.symm.trans h1)
 refine .inl ⟨[.one (.sl (.sl tRat) x23.1),.one (.sl tRat x30.2),.one (.sl tRat x34.2)],.one (.sl tRat C),fun _=>⟨rfl,rfl,rfl,trivial⟩,fun _=>useC hE (by rw[e23,e30,e34];exact hg),?_⟩
 try conv=>cbv
 refine⟨fun _=>rfl,?_⟩
 exact fA ⟨⟨rfl,congrArg _ (by rw[e23]),rfl,trivial⟩,⟨rfl,rfl,trivial⟩,trivial⟩ rfl (by simp)
end Go.Abs
