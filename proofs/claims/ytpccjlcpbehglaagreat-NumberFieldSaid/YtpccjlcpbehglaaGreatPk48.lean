/- Part 49 of a proof. Conditions: each theorem's own. -/
import Derived.Test.YtpccjlcpbehglaaGreatPk47
set_option linter.all false
set_option maxHeartbeats 8000000
open Go.Proofs
namespace Go.Abs
open Go.RowKit
theorem YJoin_ok {TT:List (List Rat)→Prop} {R K S:Nat} (G:GamY TT R K S) {L:List (el tNum)} {ns:List (List (List Rat)×Re)} (hns:∀n∈ns,TT n.1) (hL:L=ns.map nm) (hel:∀n∈ns,El n.1 S n.2) (hlen:ns.length≤1000000) {O:List (el tNum)} (hO:O=ns.map (fun n=>nm (joinL ns,n.2))):CF 33 [.one (.sl tNum L)] (.tup [(false,[.sl tNum O]),(false,[.int .i64 0])]):=by
 have hLl:L.length=ns.length:=by rw[hL,List.length_map]
 have htj:TT (joinL ns):=G.joinL hns
 refine acall_fn Tryz.func33 (by kernel_rfl) rfl fun E hE=>?_
 conv=>cbv
 refine .inr ?_
 obtain⟨J0,hJ0⟩:∃J:List AV→List Blk→Nat→Prop,J=fun vs bl k=>(∃(i':Nat) (i:Int),vs=[.one (.sl tNum L),.one .nil,.one (.int .i64 i)]∧bl=[]∧(NatIs i i'∧i'≤L.length)∧tw (joinL (ns.take i'))=[]∧k=L.length-i')∨
  (∃(Ti:List LR) (i':Nat) (i:Int),vs=[.one (.sl tNum L),.one (.sl (.sl tRat) Ti),.one (.int .i64 i)]∧bl=[]∧(NatIs i i'∧i'≤L.length)∧Ti=tw (joinL (ns.take i'))∧k=L.length-i'):=⟨_,rfl⟩
 refine⟨[0,4,5],[],J0,⟨L.length,by rw[hJ0];exact .inl ⟨0,0,rfl,rfl,⟨natIs 0,by omega⟩,rfl,rfl⟩⟩,?_⟩
 intro vs bl kk0 hj;rw[hJ0] at hj
 rcases hj with⟨i',i,rfl,rfl,⟨hi,hiL⟩,h0,hk0⟩ |⟨Ti,i',i,rfl,rfl,⟨hi,hiL⟩,hTi,hk0⟩
 ·conv=>cbv
  have ei:=hi.eq
  have hTi:=h0.symm
  have htl:(joinL (ns.take i')).length=0:=by rw[←tw_len,h0];rfl
  intro n17 h17;have e17:=h17.eq;have f17:=h17.le;conv=>cbv
  intro n18 h18;conv=>cbv
  cases n18 <;> conv=>cbv
  ·have k18:=lss_f h18
   refine .inr ?_
   obtain⟨J1,hJ1⟩:∃J:List AV→List Blk→Nat→Prop,J=fun vs bl k=>(∃(i:Int),vs=[.one (.sl tNum L),.one .nil,.one .nil,.one (.int .i64 i)]∧bl=[.dead 0]∧(NatIs i 0)∧tw (joinL ns)=[]∧k=L.length)∨(∃(o:List (el tNum)) (mm i':Nat) (i:Int),vs=[.one (.sl tNum L),.one .nil,.one (.lsl tNum 113 0 0 mm),.one (.int .i64 i)]∧bl=[.arr 0 tNum o]∧(NatIs i i'∧i'≤L.length∧mm=o.length)∧tw (joinL ns)=[]∧o=(ns.take i').map (fun n=>nm (joinL ns,n.2))∧k=L.length-i')∨(∃(T:List LR) (i:Int),vs=[.one (.sl tNum L),.one (.sl (.sl tRat) T),.one .nil,.one (.int .i64 i)]∧bl=[.dead 0]∧(NatIs i 0)∧tw (joinL ns)=T∧k=L.length)∨(∃(T:List LR) (o:List (el tNum)) (mm i':Nat) (i:Int),vs=[.one (.sl tNum L),.one (.sl (.sl tRat) T),.one (.lsl tNum 113 0 0 mm),.one (.int .i64 i)]∧bl=[.arr 0 tNum o]∧(NatIs i i'∧i'≤L.length∧mm=o.length)∧tw (joinL ns)=T∧o=(ns.take i').map (fun n=>nm (joinL ns,n.2))∧k=L.length-i'):=⟨_,rfl⟩
   refine⟨[0,4,9,10],[113],J1,⟨L.length,by rw[hJ1];exact .inl ⟨0,rfl,rfl,natIs 0,by rw[←List.take_of_length_le (show ns.length≤i' by omega)];exact h0,rfl⟩⟩,?_⟩
   intro vs bl kk1 hj;rw[hJ1] at hj
   rcases hj with⟨i,rfl,rfl,hi,hTn,hk1⟩ |⟨o,mm,i',i,rfl,rfl,⟨hi,hiL,hmm⟩,hTn,hinv,hk1⟩ |⟨T,i,rfl,rfl,hi,hTn,hk1⟩ |⟨T,o,mm,i',i,rfl,rfl,⟨hi,hiL,hmm⟩,hTn,hinv,hk1⟩
   ·conv=>cbv
    have ei:=hi.eq
    obtain⟨i',hi'⟩:∃z:Nat,z=0:=⟨_,rfl⟩
    have hT:=hTn.symm
    intro n69 h69;have e69:=h69.eq;have f69:=h69.le;conv=>cbv
    intro n70 h70;conv=>cbv
    cases n70 <;> conv=>cbv
    ·have k70:=lss_f h70
     exact fA ⟨⟨rfl,.inr (.inl ⟨_,congrArg _ (by rw[hO,show ns=[] from List.eq_nil_of_length_eq_zero (by omega)];rfl)⟩),trivial⟩,⟨rfl,rfl,trivial⟩,trivial⟩ rfl (by simp)
    ·have k70:=lss_t h70
     refine .inr ?_
     obtain⟨x78,hx78⟩:=get_ex (l:=L) (i:=i') (by omega)
     refine⟨x78,fun _=>⟨by omega,by rw[show (i).toNat=i' by omega];exact hx78⟩,?_⟩
     try conv=>cbv
     obtain⟨u,y,hxu,hxy,hnu⟩:=get_nm hL hx78
     have hun:=List.mem_of_getElem? hnu
     have hu:TT u:=hns _ hun
     have hye:El u S y:=hel _ hun
     have hul:List.length (α:=LR) x78.1=u.length:=by rw[hxu,tw_len]
     have huj:Emb u (joinL ns):=emb_joinL G.toGam hns _ hun
     obtain⟨wC,hwC⟩:∃z:LR,z=em (joinL ns) y:=⟨_,rfl⟩
     obtain⟨c81,hc81⟩:=bool_ex (u<:+joinL ns)
     refine cL hE (Ybegins_d (G.twr htj) (G.twr hu) hT hxu hc81) ⟨.inr ⟨_,rfl⟩,rfl,trivial⟩ ?_
     try conv=>cbv
     refine .inr ?_
     cases c81 <;> conv=>cbv
     ·obtain⟨x94,hx94⟩:=get_ex (l:=L) (i:=i') (by omega)
      refine⟨x94,fun _=>⟨by omega,by rw[show (i).toNat=i' by omega];exact hx94⟩,?_⟩
      try conv=>cbv
      have e94:x94=x78:=Option.some.inj (hx94.symm.trans hx78)
      obtain⟨w98,hw98⟩:∃z:List LR,z=tw (joinL ns):=⟨_,rfl⟩
      obtain⟨w99,hw99⟩:∃z:List LR,z=rootsL (joinL ns) u:=⟨_,rfl⟩
      have hext:=ext_eq (G.twr htj).red (G.twr hu).red huj
      refine cL (r:= .tup [(false,[.sl (.sl tRat) w98]),(false,[.sl (.sl tRat) w99]),(false,[.int .i64 0])]) hE (Yextend_ok G htj hu hT (by rw[e94];exact hxu) (by rw[hext];exact hw98) hw99) ⟨.inr ⟨_,rfl⟩,rfl,trivial⟩ ?_
      try conv=>cbv
      obtain⟨x105,hx105⟩:=get_ex (l:=L) (i:=i') (by omega)
      refine⟨x105,fun _=>⟨by omega,by rw[show (i).toNat=i' by omega];exact hx105⟩,?_⟩
      try conv=>cbv
      have e105:x105=x78:=Option.some.inj (hx105.symm.trans hx78)
      refine cL (r:= .one (.sl tRat wC)) hE (YimC G.toGam htj hu huj hT (by rw[hw99];have:=roots_ok (G.twr htj).red (G.twr hu).red;rwa [hext] at this) (by rw[e105];exact hxy) hye hwC) ⟨.inr ⟨_,rfl⟩,rfl,rfl,trivial⟩ ?_
      try conv=>cbv
      refine⟨[([],wC)],fun _=>⟨rfl,by decide,rfl,⟨rfl,⟨.inr ⟨_,rfl⟩,rfl,trivial⟩,trivial⟩⟩,.inr ?_⟩
      try conv=>cbv
      refine .inl ⟨[([],wC)],fun _=>⟨rfl,by show (1)*48≤140737488355328;(try simp only[List.length_take,List.length_drop]);omega⟩,?_⟩
      intro n113 h113;conv=>cbv
      intro n72 h72;conv=>cbv
      refine⟨fun _=>i64 (by omega),?_⟩
      refine⟨L.length-(i'+1),?_,?_⟩
      ·omega
      rw[hJ1]
      exact .inr (.inl ⟨_,n113,i'+1,n72,rfl,rfl,⟨⟨by omega⟩,by omega,h113⟩,hTn,by rw[take_snoc hnu,List.map_append,hi'];simp[nm,hTn,hwC],rfl⟩)
     ·obtain⟨x85,hx85⟩:=get_ex (l:=L) (i:=i') (by omega)
      refine⟨x85,fun _=>⟨by omega,by rw[show (i).toNat=i' by omega];exact hx85⟩,?_⟩
      try conv=>cbv
      have e85:x85=x78:=Option.some.inj (hx85.symm.trans hx78)
      refine cL (r:= .one (.sl tRat wC)) hE (Ylift_ok (G.twr htj) hT (by rw[e85];exact hxy) hye.mem (hc81.1 rfl) hwC) ⟨.inr ⟨_,rfl⟩,rfl,trivial⟩ ?_
      try conv=>cbv
      refine⟨[([],wC)],fun _=>⟨rfl,by decide,rfl,⟨rfl,⟨.inr ⟨_,rfl⟩,rfl,trivial⟩,trivial⟩⟩,.inr ?_⟩
      try conv=>cbv
      refine .inl ⟨[([],wC)],fun _=>⟨rfl,by show (1)*48≤140737488355328;(try simp only[List.length_take,List.length_drop]);omega⟩,?_⟩
      intro n113 h113;conv=>cbv
      intro n72 h72;conv=>cbv
      refine⟨fun _=>i64 (by omega),?_⟩
      refine⟨L.length-(i'+1),?_,?_⟩
      ·omega
      rw[hJ1]
      exact .inr (.inl ⟨_,n113,i'+1,n72,rfl,rfl,⟨⟨by omega⟩,by omega,h113⟩,hTn,by rw[take_snoc hnu,List.map_append,hi'];simp[nm,hTn,hwC],rfl⟩)
   ·conv=>cbv
    have ei:=hi.eq
    have hol:o.length≤L.length:=by rw[hinv,List.length_map,List.length_take];omega
    have hT:=hTn.symm
    intro n69 h69;have e69:=h69.eq;have f69:=h69.le;conv=>cbv
    intro n70 h70;conv=>cbv
    cases n70 <;> conv=>cbv
    ·have k70:=lss_f h70
     exact fA ⟨⟨rfl,.inl ⟨_,rfl,by omega,congrArg _ (by rw[hO,hmm,hinv,List.drop_zero,List.take_length,List.take_of_length_le (show ns.length≤i' by omega)])⟩,trivial⟩,⟨rfl,rfl,trivial⟩,trivial⟩ rfl (by simp)
    ·have k70:=lss_t h70
     refine .inr ?_
     obtain⟨x78,hx78⟩:=get_ex (l:=L) (i:=i') (by omega)
     refine⟨x78,fun _=>⟨by omega,by rw[show (i).toNat=i' by omega];exact hx78⟩,?_⟩
     try conv=>cbv
     obtain⟨u,y,hxu,hxy,hnu⟩:=get_nm hL hx78
     have hun:=List.mem_of_getElem? hnu
     have hu:TT u:=hns _ hun
     have hye:El u S y:=hel _ hun
     have hul:List.length (α:=LR) x78.1=u.length:=by rw[hxu,tw_len]
     have huj:Emb u (joinL ns):=emb_joinL G.toGam hns _ hun
     obtain⟨wC,hwC⟩:∃z:LR,z=em (joinL ns) y:=⟨_,rfl⟩
     obtain⟨c81,hc81⟩:=bool_ex (u<:+joinL ns)
     refine cL hE (Ybegins_d (G.twr htj) (G.twr hu) hT hxu hc81) ⟨.inr ⟨_,rfl⟩,rfl,trivial⟩ ?_
     try conv=>cbv
     refine .inr ?_
     cases c81 <;> conv=>cbv
     ·obtain⟨x94,hx94⟩:=get_ex (l:=L) (i:=i') (by omega)
      refine⟨x94,fun _=>⟨by omega,by rw[show (i).toNat=i' by omega];exact hx94⟩,?_⟩
      try conv=>cbv
      have e94:x94=x78:=Option.some.inj (hx94.symm.trans hx78)
      obtain⟨w98,hw98⟩:∃z:List LR,z=tw (joinL ns):=⟨_,rfl⟩
      obtain⟨w99,hw99⟩:∃z:List LR,z=rootsL (joinL ns) u:=⟨_,rfl⟩
      have hext:=ext_eq (G.twr htj).red (G.twr hu).red huj
      refine cL (r:= .tup [(false,[.sl (.sl tRat) w98]),(false,[.sl (.sl tRat) w99]),(false,[.int .i64 0])]) hE (Yextend_ok G htj hu hT (by rw[e94];exact hxu) (by rw[hext];exact hw98) hw99) ⟨.inr ⟨_,rfl⟩,rfl,trivial⟩ ?_
      try conv=>cbv
      obtain⟨x105,hx105⟩:=get_ex (l:=L) (i:=i') (by omega)
      refine⟨x105,fun _=>⟨by omega,by rw[show (i).toNat=i' by omega];exact hx105⟩,?_⟩
      try conv=>cbv
      have e105:x105=x78:=Option.some.inj (hx105.symm.trans hx78)
      refine cL (r:= .one (.sl tRat wC)) hE (YimC G.toGam htj hu huj hT (by rw[hw99];have:=roots_ok (G.twr htj).red (G.twr hu).red;rwa [hext] at this) (by rw[e105];exact hxy) hye hwC) ⟨.inr ⟨_,rfl⟩,rfl,rfl,trivial⟩ ?_
      try conv=>cbv
      refine⟨[([],wC)],fun _=>⟨rfl,by decide,rfl,⟨rfl,⟨.inr ⟨_,rfl⟩,rfl,trivial⟩,trivial⟩⟩,.inr ?_⟩
      try conv=>cbv
      refine .inl ⟨[([],wC)],fun _=>⟨rfl,hmm,rfl,by show (o.length+1)*48≤140737488355328;(try simp only[List.length_take,List.length_drop]);omega⟩,?_⟩
      intro (l113:List (el tNum)) n113 ql113;have hl113:l113=(o:List (el tNum))++([([],wC)]:List (el tNum)):=ql113.1;have hn113:n113=List.length (α:=(el tNum)) l113:=ql113.2;conv=>cbv
      intro n72 h72;conv=>cbv
      refine⟨fun _=>i64 (by omega),?_⟩
      refine⟨L.length-(i'+1),?_,?_⟩
      ·omega
      rw[hJ1]
      exact .inr (.inl ⟨l113,n113,i'+1,n72,rfl,rfl,⟨⟨by omega⟩,by omega,hn113⟩,hTn,by rw[hl113,hinv,take_snoc hnu,List.map_append];simp[nm,hTn,hwC],rfl⟩)
     ·obtain⟨x85,hx85⟩:=get_ex (l:=L) (i:=i') (by omega)
      refine⟨x85,fun _=>⟨by omega,by rw[show (i).toNat=i' by omega];exact hx85⟩,?_⟩
      try conv=>cbv
      have e85:x85=x78:=Option.some.inj (hx85.symm.trans hx78)
      refine cL (r:= .one (.sl tRat wC)) hE (Ylift_ok (G.twr htj) hT (by rw[e85];exact hxy) hye.mem (hc81.1 rfl) hwC) ⟨.inr ⟨_,rfl⟩,rfl,trivial⟩ ?_
      try conv=>cbv
      refine⟨[([],wC)],fun _=>⟨rfl,by decide,rfl,⟨rfl,⟨.inr ⟨_,rfl⟩,rfl,trivial⟩,trivial⟩⟩,.inr ?_⟩
      try conv=>cbv
      refine .inl ⟨[([],wC)],fun _=>⟨rfl,hmm,rfl,by show (o.length+1)*48≤140737488355328;(try simp only[List.length_take,List.length_drop]);omega⟩,?_⟩
      intro (l113:List (el tNum)) n113 ql113;have hl113:l113=(o:List (el tNum))++([([],wC)]:List (el tNum)):=ql113.1;have hn113:n113=List.length (α:=(el tNum)) l113:=ql113.2;conv=>cbv
      intro n72 h72;conv=>cbv
      refine⟨fun _=>i64 (by omega),?_⟩
      refine⟨L.length-(i'+1),?_,?_⟩
      ·omega
      rw[hJ1]
      exact .inr (.inl ⟨l113,n113,i'+1,n72,rfl,rfl,⟨⟨by omega⟩,by omega,hn113⟩,hTn,by rw[hl113,hinv,take_snoc hnu,List.map_append];simp[nm,hTn,hwC],rfl⟩)
   ·conv=>cbv
    have ei:=hi.eq
    obtain⟨i',hi'⟩:∃z:Nat,z=0:=⟨_,rfl⟩
    have hT:=hTn.symm
    intro n69 h69;have e69:=h69.eq;have f69:=h69.le;conv=>cbv
    intro n70 h70;conv=>cbv
    cases n70 <;> conv=>cbv
    ·have k70:=lss_f h70
     exact fA ⟨⟨rfl,.inr (.inl ⟨_,congrArg _ (by rw[hO,show ns=[] from List.eq_nil_of_length_eq_zero (by omega)];rfl)⟩),trivial⟩,⟨rfl,rfl,trivial⟩,trivial⟩ rfl (by simp)
    ·have k70:=lss_t h70
     refine .inr ?_
     obtain⟨x78,hx78⟩:=get_ex (l:=L) (i:=i') (by omega)
     refine⟨x78,fun _=>⟨by omega,by rw[show (i).toNat=i' by omega];exact hx78⟩,?_⟩
     try conv=>cbv
     obtain⟨u,y,hxu,hxy,hnu⟩:=get_nm hL hx78
     have hun:=List.mem_of_getElem? hnu
     have hu:TT u:=hns _ hun
     have hye:El u S y:=hel _ hun
     have hul:List.length (α:=LR) x78.1=u.length:=by rw[hxu,tw_len]
     have huj:Emb u (joinL ns):=emb_joinL G.toGam hns _ hun
     obtain⟨wC,hwC⟩:∃z:LR,z=em (joinL ns) y:=⟨_,rfl⟩
     obtain⟨c81,hc81⟩:=bool_ex (u<:+joinL ns)
     refine cA hE (Ybegins_d (G.twr htj) (G.twr hu) hT hxu hc81) ?_
     try conv=>cbv
     refine .inr ?_
     cases c81 <;> conv=>cbv
     ·obtain⟨x94,hx94⟩:=get_ex (l:=L) (i:=i') (by omega)
      refine⟨x94,fun _=>⟨by omega,by rw[show (i).toNat=i' by omega];exact hx94⟩,?_⟩
      try conv=>cbv
      have e94:x94=x78:=Option.some.inj (hx94.symm.trans hx78)
      obtain⟨w98,hw98⟩:∃z:List LR,z=tw (joinL ns):=⟨_,rfl⟩
      obtain⟨w99,hw99⟩:∃z:List LR,z=rootsL (joinL ns) u:=⟨_,rfl⟩
      have hext:=ext_eq (G.twr htj).red (G.twr hu).red huj
      refine cL (r:= .tup [(false,[.sl (.sl tRat) w98]),(false,[.sl (.sl tRat) w99]),(false,[.int .i64 0])]) hE (Yextend_ok G htj hu hT (by rw[e94];exact hxu) (by rw[hext];exact hw98) hw99) ⟨rfl,rfl,trivial⟩ ?_
      try conv=>cbv
      obtain⟨x105,hx105⟩:=get_ex (l:=L) (i:=i') (by omega)
      refine⟨x105,fun _=>⟨by omega,by rw[show (i).toNat=i' by omega];exact hx105⟩,?_⟩
      try conv=>cbv
      have e105:x105=x78:=Option.some.inj (hx105.symm.trans hx78)
      refine cL (r:= .one (.sl tRat wC)) hE (YimC G.toGam htj hu huj hT (by rw[hw99];have:=roots_ok (G.twr htj).red (G.twr hu).red;rwa [hext] at this) (by rw[e105];exact hxy) hye hwC) ⟨rfl,rfl,rfl,trivial⟩ ?_
      try conv=>cbv
      refine⟨[(T,wC)],fun _=>⟨rfl,by decide,rfl,⟨rfl,by first | exact⟨rfl,trivial⟩ | exact⟨rfl,rfl,trivial⟩ | exact⟨rfl,rfl,rfl,rfl,trivial⟩ | simp[allC,leC,cells],trivial⟩⟩,.inr ?_⟩
      try conv=>cbv
      refine .inl ⟨[(T,wC)],fun _=>⟨rfl,by show (1)*48≤140737488355328;(try simp only[List.length_take,List.length_drop]);omega⟩,?_⟩
      intro n113 h113;conv=>cbv
      intro n72 h72;conv=>cbv
      refine⟨fun _=>i64 (by omega),?_⟩
      refine⟨L.length-(i'+1),?_,?_⟩
      ·omega
      rw[hJ1]
      exact .inr (.inr (.inr ⟨T,_,n113,i'+1,n72,rfl,rfl,⟨⟨by omega⟩,by omega,h113⟩,hTn,by rw[take_snoc hnu,List.map_append,hi'];simp[nm,hTn,hwC],rfl⟩))
     ·obtain⟨x85,hx85⟩:=get_ex (l:=L) (i:=i') (by omega)
      refine⟨x85,fun _=>⟨by omega,by rw[show (i).toNat=i' by omega];exact hx85⟩,?_⟩
      try conv=>cbv
      have e85:x85=x78:=Option.some.inj (hx85.symm.trans hx78)
      refine cL (r:= .one (.sl tRat wC)) hE (Ylift_ok (G.twr htj) hT (by rw[e85];exact hxy) hye.mem (hc81.1 rfl) hwC) ⟨rfl,rfl,trivial⟩ ?_
      try conv=>cbv
      refine⟨[(T,wC)],fun _=>⟨rfl,by decide,rfl,⟨rfl,by first | exact⟨rfl,trivial⟩ | exact⟨rfl,rfl,trivial⟩ | exact⟨rfl,rfl,rfl,rfl,trivial⟩ | simp[allC,leC,cells],trivial⟩⟩,.inr ?_⟩
      try conv=>cbv
      refine .inl ⟨[(T,wC)],fun _=>⟨rfl,by show (1)*48≤140737488355328;(try simp only[List.length_take,List.length_drop]);omega⟩,?_⟩
      intro n113 h113;conv=>cbv
      intro n72 h72;conv=>cbv
      refine⟨fun _=>i64 (by omega),?_⟩
      refine⟨L.length-(i'+1),?_,?_⟩
      ·omega
      rw[hJ1]
      exact .inr (.inr (.inr ⟨T,_,n113,i'+1,n72,rfl,rfl,⟨⟨by omega⟩,by omega,h113⟩,hTn,by rw[take_snoc hnu,List.map_append,hi'];simp[nm,hTn,hwC],rfl⟩))
   ·conv=>cbv
    have ei:=hi.eq
    have hol:o.length≤L.length:=by rw[hinv,List.length_map,List.length_take];omega
    have hT:=hTn.symm
    intro n69 h69;have e69:=h69.eq;have f69:=h69.le;conv=>cbv
    intro n70 h70;conv=>cbv
    cases n70 <;> conv=>cbv
    ·have k70:=lss_f h70
     exact fA ⟨⟨rfl,.inl ⟨_,rfl,by omega,congrArg _ (by rw[hO,hmm,hinv,List.drop_zero,List.take_length,List.take_of_length_le (show ns.length≤i' by omega)])⟩,trivial⟩,⟨rfl,rfl,trivial⟩,trivial⟩ rfl (by simp)
    ·have k70:=lss_t h70
     refine .inr ?_
     obtain⟨x78,hx78⟩:=get_ex (l:=L) (i:=i') (by omega)
     refine⟨x78,fun _=>⟨by omega,by rw[show (i).toNat=i' by omega];exact hx78⟩,?_⟩
     try conv=>cbv
     obtain⟨u,y,hxu,hxy,hnu⟩:=get_nm hL hx78
     have hun:=List.mem_of_getElem? hnu
     have hu:TT u:=hns _ hun
     have hye:El u S y:=hel _ hun
     have hul:List.length (α:=LR) x78.1=u.length:=by rw[hxu,tw_len]
     have huj:Emb u (joinL ns):=emb_joinL G.toGam hns _ hun
     obtain⟨wC,hwC⟩:∃z:LR,z=em (joinL ns) y:=⟨_,rfl⟩
     obtain⟨c81,hc81⟩:=bool_ex (u<:+joinL ns)
     refine cA hE (Ybegins_d (G.twr htj) (G.twr hu) hT hxu hc81) ?_
     try conv=>cbv
     refine .inr ?_
     cases c81 <;> conv=>cbv
     ·obtain⟨x94,hx94⟩:=get_ex (l:=L) (i:=i') (by omega)
      refine⟨x94,fun _=>⟨by omega,by rw[show (i).toNat=i' by omega];exact hx94⟩,?_⟩
      try conv=>cbv
      have e94:x94=x78:=Option.some.inj (hx94.symm.trans hx78)
      obtain⟨w98,hw98⟩:∃z:List LR,z=tw (joinL ns):=⟨_,rfl⟩
      obtain⟨w99,hw99⟩:∃z:List LR,z=rootsL (joinL ns) u:=⟨_,rfl⟩
      have hext:=ext_eq (G.twr htj).red (G.twr hu).red huj
      refine cL (r:= .tup [(false,[.sl (.sl tRat) w98]),(false,[.sl (.sl tRat) w99]),(false,[.int .i64 0])]) hE (Yextend_ok G htj hu hT (by rw[e94];exact hxu) (by rw[hext];exact hw98) hw99) ⟨rfl,rfl,trivial⟩ ?_
      try conv=>cbv
      obtain⟨x105,hx105⟩:=get_ex (l:=L) (i:=i') (by omega)
      refine⟨x105,fun _=>⟨by omega,by rw[show (i).toNat=i' by omega];exact hx105⟩,?_⟩
      try conv=>cbv
      have e105:x105=x78:=Option.some.inj (hx105.symm.trans hx78)
      refine cL (r:= .one (.sl tRat wC)) hE (YimC G.toGam htj hu huj hT (by rw[hw99];have:=roots_ok (G.twr htj).red (G.twr hu).red;rwa [hext] at this) (by rw[e105];exact hxy) hye hwC) ⟨rfl,rfl,rfl,trivial⟩ ?_
      try conv=>cbv
      refine⟨[(T,wC)],fun _=>⟨rfl,by decide,rfl,⟨rfl,by first | exact⟨rfl,trivial⟩ | exact⟨rfl,rfl,trivial⟩ | exact⟨rfl,rfl,rfl,rfl,trivial⟩ | simp[allC,leC,cells],trivial⟩⟩,.inr ?_⟩
      try conv=>cbv
      refine .inl ⟨[(T,wC)],fun _=>⟨rfl,hmm,rfl,by show (o.length+1)*48≤140737488355328;(try simp only[List.length_take,List.length_drop]);omega⟩,?_⟩
      intro (l113:List (el tNum)) n113 ql113;have hl113:l113=(o:List (el tNum))++([(T,wC)]:List (el tNum)):=ql113.1;have hn113:n113=List.length (α:=(el tNum)) l113:=ql113.2;conv=>cbv
      intro n72 h72;conv=>cbv
      refine⟨fun _=>i64 (by omega),?_⟩
      refine⟨L.length-(i'+1),?_,?_⟩
      ·omega
      rw[hJ1]
      exact .inr (.inr (.inr ⟨T,l113,n113,i'+1,n72,rfl,rfl,⟨⟨by omega⟩,by omega,hn113⟩,hTn,by rw[hl113,hinv,take_snoc hnu,List.map_append];simp[nm,hTn,hwC],rfl⟩))
     ·obtain⟨x85,hx85⟩:=get_ex (l:=L) (i:=i') (by omega)
      refine⟨x85,fun _=>⟨by omega,by rw[show (i).toNat=i' by omega];exact hx85⟩,?_⟩
      try conv=>cbv
      have e85:x85=x78:=Option.some.inj (hx85.symm.trans hx78)
      refine cL (r:= .one (.sl tRat wC)) hE (Ylift_ok (G.twr htj) hT (by rw[e85];exact hxy) hye.mem (hc81.1 rfl) hwC) ⟨rfl,rfl,trivial⟩ ?_
      try conv=>cbv
      refine⟨[(T,wC)],fun _=>⟨rfl,by decide,rfl,⟨rfl,by first | exact⟨rfl,trivial⟩ | exact⟨rfl,rfl,trivial⟩ | exact⟨rfl,rfl,rfl,rfl,trivial⟩ | simp[allC,leC,cells],trivial⟩⟩,.inr ?_⟩
      try conv=>cbv
      refine .inl ⟨[(T,wC)],fun _=>⟨rfl,hmm,rfl,by show (o.length+1)*48≤140737488355328;(try simp only[List.length_take,List.length_drop]);omega⟩,?_⟩
      intro (l113:List (el tNum)) n113 ql113;have hl113:l113=(o:List (el tNum))++([(T,wC)]:List (el tNum)):=ql113.1;have hn113:n113=List.length (α:=(el tNum)) l113:=ql113.2;conv=>cbv
      intro n72 h72;conv=>cbv
      refine⟨fun _=>i64 (by omega),?_⟩
      refine⟨L.length-(i'+1),?_,?_⟩
      ·omega
      rw[hJ1]
      exact .inr (.inr (.inr ⟨T,l113,n113,i'+1,n72,rfl,rfl,⟨⟨by omega⟩,by omega,hn113⟩,hTn,by rw[hl113,hinv,take_snoc hnu,List.map_append];simp[nm,hTn,hwC],rfl⟩))
  ·have k18:=lss_t h18
   refine .inr ?_
   obtain⟨x23,hx23⟩:=get_ex (l:=L) (i:=i') (by omega)
   refine⟨x23,fun _=>⟨by omega,by rw[show (i).toNat=i' by omega];exact hx23⟩,?_⟩
   try conv=>cbv
   obtain⟨u,y,hxu,hxy,hnu⟩:=get_nm hL hx23
   have hun:=List.mem_of_getElem? hnu
   have hu:TT u:=hns _ hun
   have hye:El u S y:=hel _ hun
   have hul:List.length (α:=LR) x23.1=u.length:=by rw[hxu,tw_len]
   have hst:=joinL_take hnu
   unfold joinT at hst
   dsimp only at hst
   have htk:TT (joinL (ns.take i')):=G.joinL (fun n hn=>hns n (List.mem_of_mem_take hn))
   intro n26 h26;have e26:=h26.eq;have f26:=h26.le;conv=>cbv
   have hul2:n26=(u.length:Int):=e26.trans (congrArg (fun n:Nat=>(n:Int)) hul)
   intro n29 h29;conv=>cbv
   cases n29 <;> conv=>cbv
   ·have k29:=gtr_f h29
    refine .inr ?_
    obtain⟨x47,hx47⟩:=get_ex (l:=L) (i:=i') (by omega)
    refine⟨x47,fun _=>⟨by omega,by rw[show (i).toNat=i' by omega];exact hx47⟩,?_⟩
    try conv=>cbv
    have e47:x47=x23:=Option.some.inj (hx47.symm.trans hx23)
    obtain⟨c50,hc50⟩:=bool_ex (u<:+(joinL (ns.take i')))
    refine cL (r:= .one (.bool c50)) hE (Ybegins_d (G.twr htk) (G.twr hu) hTi (by rw[e47];exact hxu) hc50) ⟨.inr ⟨_,rfl⟩,rfl,trivial⟩ ?_
    try conv=>cbv
    intro n51 h51;conv=>cbv
    refine .inr ?_
    cases n51 <;> conv=>cbv
    ·have k51:=not_f h51
     intro n20 h20;conv=>cbv
     refine⟨fun _=>i64 (by omega),?_⟩
     refine⟨L.length-(i'+1),?_,?_⟩
     ·omega
     rw[hJ0]
     exact .inl ⟨i'+1,n20,rfl,rfl,⟨⟨by omega⟩,by omega⟩,by rw[hst,if_pos (hc50.1 k51)];exact h0,rfl⟩
    ·have k51:=not_t h51
     obtain⟨x56,hx56⟩:=get_ex (l:=L) (i:=i') (by omega)
     refine⟨x56,fun _=>⟨by omega,by rw[show (i).toNat=i' by omega];exact hx56⟩,?_⟩
     try conv=>cbv
     have e56:x56=x23:=Option.some.inj (hx56.symm.trans hx23)
     obtain⟨w60,hw60⟩:∃z:List LR,z=tw (ext (joinL (ns.take i')) u):=⟨_,rfl⟩
     obtain⟨w61,hw61⟩:∃z:List LR,z=rootsL (joinL (ns.take i')) u:=⟨_,rfl⟩
     refine cL (r:= .tup [(false,[.sl (.sl tRat) w60]),(false,[.sl (.sl tRat) w61]),(false,[.int .i64 0])]) hE (Yextend_ok G htk hu hTi (by rw[e56];exact hxu) hw60 hw61) ⟨.inr ⟨_,rfl⟩,rfl,trivial⟩ ?_
     try conv=>cbv
     intro n64 h64;(have h64:=h64.trans (show _=false by decide));subst h64;conv=>cbv
     intro n20 h20;conv=>cbv
     refine⟨fun _=>i64 (by omega),?_⟩
     refine⟨L.length-(i'+1),?_,?_⟩
     ·omega
     rw[hJ0]
     exact .inr ⟨_,i'+1,n20,rfl,rfl,⟨⟨by omega⟩,by omega⟩,by rw[hst,if_neg (fun q=>by have:=hc50.2 q;rw[k51] at this;cases this),if_neg (fun hsf=>by first | (have:=hc37.2 hsf;cases this) | exact absurd (show u<:+joinL (List.take i' ns) from by rw[hsf.eq_of_length_le (by omega)];exact List.suffix_refl _) (fun q=>by have:=hc50.2 q;rw[k51] at this;cases this)),hw60],rfl⟩
   ·have k29:=gtr_t h29
    obtain⟨x33,hx33⟩:=get_ex (l:=L) (i:=i') (by omega)
    refine⟨x33,fun _=>⟨by omega,by rw[show (i).toNat=i' by omega];exact hx33⟩,?_⟩
    try conv=>cbv
    have e33:x33=x23:=Option.some.inj (hx33.symm.trans hx23)
    obtain⟨c37,hc37⟩:=bool_ex ((joinL (ns.take i'))<:+u)
    refine cL (r:= .one (.bool c37)) hE (Ybegins_d (G.twr hu) (G.twr htk) (by rw[e33];exact hxu) hTi hc37) ⟨rfl,.inr ⟨_,rfl⟩,trivial⟩ ?_
    try conv=>cbv
    refine .inr ?_
    cases c37 <;> conv=>cbv
    ·obtain⟨x47,hx47⟩:=get_ex (l:=L) (i:=i') (by omega)
     refine⟨x47,fun _=>⟨by omega,by rw[show (i).toNat=i' by omega];exact hx47⟩,?_⟩
     try conv=>cbv
     have e47:x47=x23:=Option.some.inj (hx47.symm.trans hx23)
     obtain⟨c50,hc50⟩:=bool_ex (u<:+(joinL (ns.take i')))
     refine cL (r:= .one (.bool c50)) hE (Ybegins_d (G.twr htk) (G.twr hu) hTi (by rw[e47];exact hxu) hc50) ⟨.inr ⟨_,rfl⟩,rfl,trivial⟩ ?_
     try conv=>cbv
     intro n51 h51;conv=>cbv
     refine .inr ?_
     cases n51 <;> conv=>cbv
     ·have k51:=not_f h51
      intro n20 h20;conv=>cbv
      refine⟨fun _=>i64 (by omega),?_⟩
      refine⟨L.length-(i'+1),?_,?_⟩
      ·omega
      rw[hJ0]
      exact .inl ⟨i'+1,n20,rfl,rfl,⟨⟨by omega⟩,by omega⟩,by rw[hst,if_pos (hc50.1 k51)];exact h0,rfl⟩
     ·have k51:=not_t h51
      obtain⟨x56,hx56⟩:=get_ex (l:=L) (i:=i') (by omega)
      refine⟨x56,fun _=>⟨by omega,by rw[show (i).toNat=i' by omega];exact hx56⟩,?_⟩
      try conv=>cbv
      have e56:x56=x23:=Option.some.inj (hx56.symm.trans hx23)
      obtain⟨w60,hw60⟩:∃z:List LR,z=tw (ext (joinL (ns.take i')) u):=⟨_,rfl⟩
      obtain⟨w61,hw61⟩:∃z:List LR,z=rootsL (joinL (ns.take i')) u:=⟨_,rfl⟩
      refine cL (r:= .tup [(false,[.sl (.sl tRat) w60]),(false,[.sl (.sl tRat) w61]),(false,[.int .i64 0])]) hE (Yextend_ok G htk hu hTi (by rw[e56];exact hxu) hw60 hw61) ⟨.inr ⟨_,rfl⟩,rfl,trivial⟩ ?_
      try conv=>cbv
      intro n64 h64;(have h64:=h64.trans (show _=false by decide));subst h64;conv=>cbv
      intro n20 h20;conv=>cbv
      refine⟨fun _=>i64 (by omega),?_⟩
      refine⟨L.length-(i'+1),?_,?_⟩
      ·omega
      rw[hJ0]
      exact .inr ⟨_,i'+1,n20,rfl,rfl,⟨⟨by omega⟩,by omega⟩,by rw[hst,if_neg (fun q=>by have:=hc50.2 q;rw[k51] at this;cases this),if_neg (fun hsf=>by first | (have:=hc37.2 hsf;cases this) | exact absurd (show u<:+joinL (List.take i' ns) from by rw[hsf.eq_of_length_le (by omega)];exact List.suffix_refl _) (fun q=>by have:=hc50.2 q;rw[k51] at this;cases this)),hw60],rfl⟩
    ·obtain⟨x41,hx41⟩:=get_ex (l:=L) (i:=i') (by omega)
     refine⟨x41,fun _=>⟨by omega,by rw[show (i).toNat=i' by omega];exact hx41⟩,?_⟩
     try conv=>cbv
     have e41:x41=x23:=Option.some.inj (hx41.symm.trans hx23)
     intro n20 h20;conv=>cbv
     refine⟨fun _=>i64 (by omega),?_⟩
     refine⟨L.length-(i'+1),?_,?_⟩
     ·omega
     rw[hJ0]
     exact .inr ⟨_,i'+1,n20,rfl,rfl,⟨⟨by omega⟩,by omega⟩,by rw[hst,if_neg (fun hsf=>by have:=hsf.length_le;omega),if_pos (hc37.1 rfl),e41];exact hxu,rfl⟩
 ·conv=>cbv
  have ei:=hi.eq
  have htl:(joinL (ns.take i')).length=List.length (α:=LR) Ti:=by rw[hTi,tw_len]
  intro n17 h17;have e17:=h17.eq;have f17:=h17.le;conv=>cbv
  intro n18 h18;conv=>cbv
  cases n18 <;> conv=>cbv
  ·have k18:=lss_f h18
   refine .inr ?_
   obtain⟨J1,hJ1⟩:∃J:List AV→List Blk→Nat→Prop,J=fun vs bl k=>(∃(i:Int),vs=[.one (.sl tNum L),.one .nil,.one .nil,.one (.int .i64 i)]∧bl=[.dead 0]∧(NatIs i 0)∧tw (joinL ns)=[]∧k=L.length)∨(∃(o:List (el tNum)) (mm i':Nat) (i:Int),vs=[.one (.sl tNum L),.one .nil,.one (.lsl tNum 113 0 0 mm),.one (.int .i64 i)]∧bl=[.arr 0 tNum o]∧(NatIs i i'∧i'≤L.length∧mm=o.length)∧tw (joinL ns)=[]∧o=(ns.take i').map (fun n=>nm (joinL ns,n.2))∧k=L.length-i')∨(∃(T:List LR) (i:Int),vs=[.one (.sl tNum L),.one (.sl (.sl tRat) T),.one .nil,.one (.int .i64 i)]∧bl=[.dead 0]∧(NatIs i 0)∧tw (joinL ns)=T∧k=L.length)∨(∃(T:List LR) (o:List (el tNum)) (mm i':Nat) (i:Int),vs=[.one (.sl tNum L),.one (.sl (.sl tRat) T),.one (.lsl tNum 113 0 0 mm),.one (.int .i64 i)]∧bl=[.arr 0 tNum o]∧(NatIs i i'∧i'≤L.length∧mm=o.length)∧tw (joinL ns)=T∧o=(ns.take i').map (fun n=>nm (joinL ns,n.2))∧k=L.length-i'):=⟨_,rfl⟩
   refine⟨[0,4,9,10],[113],J1,⟨L.length,by rw[hJ1];exact .inr (.inr (.inl ⟨Ti,0,rfl,rfl,natIs 0,by rw[hTi,List.take_of_length_le (show ns.length≤i' by omega)],rfl⟩))⟩,?_⟩
   intro vs bl kk1 hj;rw[hJ1] at hj
   rcases hj with⟨i,rfl,rfl,hi,hTn,hk1⟩ |⟨o,mm,i',i,rfl,rfl,⟨hi,hiL,hmm⟩,hTn,hinv,hk1⟩ |⟨T,i,rfl,rfl,hi,hTn,hk1⟩ |⟨T,o,mm,i',i,rfl,rfl,⟨hi,hiL,hmm⟩,hTn,hinv,hk1⟩
   ·conv=>cbv
    have ei:=hi.eq
    obtain⟨i',hi'⟩:∃z:Nat,z=0:=⟨_,rfl⟩
    have hT:=hTn.symm
    intro n69 h69;have e69:=h69.eq;have f69:=h69.le;conv=>cbv
    intro n70 h70;conv=>cbv
    cases n70 <;> conv=>cbv
    ·have k70:=lss_f h70
     exact fA ⟨⟨rfl,.inr (.inl ⟨_,congrArg _ (by rw[hO,show ns=[] from List.eq_nil_of_length_eq_zero (by omega)];rfl)⟩),trivial⟩,⟨rfl,rfl,trivial⟩,trivial⟩ rfl (by simp)
    ·have k70:=lss_t h70
     refine .inr ?_
     obtain⟨x78,hx78⟩:=get_ex (l:=L) (i:=i') (by omega)
     refine⟨x78,fun _=>⟨by omega,by rw[show (i).toNat=i' by omega];exact hx78⟩,?_⟩
     try conv=>cbv
     obtain⟨u,y,hxu,hxy,hnu⟩:=get_nm hL hx78
     have hun:=List.mem_of_getElem? hnu
     have hu:TT u:=hns _ hun
     have hye:El u S y:=hel _ hun
     have hul:List.length (α:=LR) x78.1=u.length:=by rw[hxu,tw_len]
     have huj:Emb u (joinL ns):=emb_joinL G.toGam hns _ hun
     obtain⟨wC,hwC⟩:∃z:LR,z=em (joinL ns) y:=⟨_,rfl⟩
     obtain⟨c81,hc81⟩:=bool_ex (u<:+joinL ns)
     refine cL hE (Ybegins_d (G.twr htj) (G.twr hu) hT hxu hc81) ⟨.inr ⟨_,rfl⟩,rfl,trivial⟩ ?_
     try conv=>cbv
     refine .inr ?_
     cases c81 <;> conv=>cbv
     ·obtain⟨x94,hx94⟩:=get_ex (l:=L) (i:=i') (by omega)
      refine⟨x94,fun _=>⟨by omega,by rw[show (i).toNat=i' by omega];exact hx94⟩,?_⟩
      try conv=>cbv
      have e94:x94=x78:=Option.some.inj (hx94.symm.trans hx78)
      obtain⟨w98,hw98⟩:∃z:List LR,z=tw (joinL ns):=⟨_,rfl⟩
      obtain⟨w99,hw99⟩:∃z:List LR,z=rootsL (joinL ns) u:=⟨_,rfl⟩
      have hext:=ext_eq (G.twr htj).red (G.twr hu).red huj
      refine cL (r:= .tup [(false,[.sl (.sl tRat) w98]),(false,[.sl (.sl tRat) w99]),(false,[.int .i64 0])]) hE (Yextend_ok G htj hu hT (by rw[e94];exact hxu) (by rw[hext];exact hw98) hw99) ⟨.inr ⟨_,rfl⟩,rfl,trivial⟩ ?_
      try conv=>cbv
      obtain⟨x105,hx105⟩:=get_ex (l:=L) (i:=i') (by omega)
      refine⟨x105,fun _=>⟨by omega,by rw[show (i).toNat=i' by omega];exact hx105⟩,?_⟩
      try conv=>cbv
      have e105:x105=x78:=Option.some.inj (hx105.symm.trans hx78)
      refine cL (r:= .one (.sl tRat wC)) hE (YimC G.toGam htj hu huj hT (by rw[hw99];have:=roots_ok (G.twr htj).red (G.twr hu).red;rwa [hext] at this) (by rw[e105];exact hxy) hye hwC) ⟨.inr ⟨_,rfl⟩,rfl,rfl,trivial⟩ ?_
      try conv=>cbv
      refine⟨[([],wC)],fun _=>⟨rfl,by decide,rfl,⟨rfl,⟨.inr ⟨_,rfl⟩,rfl,trivial⟩,trivial⟩⟩,.inr ?_⟩
      try conv=>cbv
      refine .inl ⟨[([],wC)],fun _=>⟨rfl,by show (1)*48≤140737488355328;(try simp only[List.length_take,List.length_drop]);omega⟩,?_⟩
      intro n113 h113;conv=>cbv
      intro n72 h72;conv=>cbv
      refine⟨fun _=>i64 (by omega),?_⟩
      refine⟨L.length-(i'+1),?_,?_⟩
      ·omega
      rw[hJ1]
      exact .inr (.inl ⟨_,n113,i'+1,n72,rfl,rfl,⟨⟨by omega⟩,by omega,h113⟩,hTn,by rw[take_snoc hnu,List.map_append,hi'];simp[nm,hTn,hwC],rfl⟩)
     ·obtain⟨x85,hx85⟩:=get_ex (l:=L) (i:=i') (by omega)
      refine⟨x85,fun _=>⟨by omega,by rw[show (i).toNat=i' by omega];exact hx85⟩,?_⟩
      try conv=>cbv
      have e85:x85=x78:=Option.some.inj (hx85.symm.trans hx78)
      refine cL (r:= .one (.sl tRat wC)) hE (Ylift_ok (G.twr htj) hT (by rw[e85];exact hxy) hye.mem (hc81.1 rfl) hwC) ⟨.inr ⟨_,rfl⟩,rfl,trivial⟩ ?_
      try conv=>cbv
      refine⟨[([],wC)],fun _=>⟨rfl,by decide,rfl,⟨rfl,⟨.inr ⟨_,rfl⟩,rfl,trivial⟩,trivial⟩⟩,.inr ?_⟩
      try conv=>cbv
      refine .inl ⟨[([],wC)],fun _=>⟨rfl,by show (1)*48≤140737488355328;(try simp only[List.length_take,List.length_drop]);omega⟩,?_⟩
      intro n113 h113;conv=>cbv
      intro n72 h72;conv=>cbv
      refine⟨fun _=>i64 (by omega),?_⟩
      refine⟨L.length-(i'+1),?_,?_⟩
      ·omega
      rw[hJ1]
      exact .inr (.inl ⟨_,n113,i'+1,n72,rfl,rfl,⟨⟨by omega⟩,by omega,h113⟩,hTn,by rw[take_snoc hnu,List.map_append,hi'];simp[nm,hTn,hwC],rfl⟩)
   ·conv=>cbv
    have ei:=hi.eq
    have hol:o.length≤L.length:=by rw[hinv,List.length_map,List.length_take];omega
    have hT:=hTn.symm
    intro n69 h69;have e69:=h69.eq;have f69:=h69.le;conv=>cbv
    intro n70 h70;conv=>cbv
    cases n70 <;> conv=>cbv
    ·have k70:=lss_f h70
     exact fA ⟨⟨rfl,.inl ⟨_,rfl,by omega,congrArg _ (by rw[hO,hmm,hinv,List.drop_zero,List.take_length,List.take_of_length_le (show ns.length≤i' by omega)])⟩,trivial⟩,⟨rfl,rfl,trivial⟩,trivial⟩ rfl (by simp)
    ·have k70:=lss_t h70
     refine .inr ?_
     obtain⟨x78,hx78⟩:=get_ex (l:=L) (i:=i') (by omega)
     refine⟨x78,fun _=>⟨by omega,by rw[show (i).toNat=i' by omega];exact hx78⟩,?_⟩
     try conv=>cbv
     obtain⟨u,y,hxu,hxy,hnu⟩:=get_nm hL hx78
     have hun:=List.mem_of_getElem? hnu
     have hu:TT u:=hns _ hun
     have hye:El u S y:=hel _ hun
     have hul:List.length (α:=LR) x78.1=u.length:=by rw[hxu,tw_len]
     have huj:Emb u (joinL ns):=emb_joinL G.toGam hns _ hun
     obtain⟨wC,hwC⟩:∃z:LR,z=em (joinL ns) y:=⟨_,rfl⟩
     obtain⟨c81,hc81⟩:=bool_ex (u<:+joinL ns)
     refine cL hE (Ybegins_d (G.twr htj) (G.twr hu) hT hxu hc81) ⟨.inr ⟨_,rfl⟩,rfl,trivial⟩ ?_
     try conv=>cbv
     refine .inr ?_
     cases c81 <;> conv=>cbv
     ·obtain⟨x94,hx94⟩:=get_ex (l:=L) (i:=i') (by omega)
      refine⟨x94,fun _=>⟨by omega,by rw[show (i).toNat=i' by omega];exact hx94⟩,?_⟩
      try conv=>cbv
      have e94:x94=x78:=Option.some.inj (hx94.symm.trans hx78)
      obtain⟨w98,hw98⟩:∃z:List LR,z=tw (joinL ns):=⟨_,rfl⟩
      obtain⟨w99,hw99⟩:∃z:List LR,z=rootsL (joinL ns) u:=⟨_,rfl⟩
      have hext:=ext_eq (G.twr htj).red (G.twr hu).red huj
      refine cL (r:= .tup [(false,[.sl (.sl tRat) w98]),(false,[.sl (.sl tRat) w99]),(false,[.int .i64 0])]) hE (Yextend_ok G htj hu hT (by rw[e94];exact hxu) (by rw[hext];exact hw98) hw99) ⟨.inr ⟨_,rfl⟩,rfl,trivial⟩ ?_
      try conv=>cbv
      obtain⟨x105,hx105⟩:=get_ex (l:=L) (i:=i') (by omega)
      refine⟨x105,fun _=>⟨by omega,by rw[show (i).toNat=i' by omega];exact hx105⟩,?_⟩
      try conv=>cbv
      have e105:x105=x78:=Option.some.inj (hx105.symm.trans hx78)
      refine cL (r:= .one (.sl tRat wC)) hE (YimC G.toGam htj hu huj hT (by rw[hw99];have:=roots_ok (G.twr htj).red (G.twr hu).red;rwa [hext] at this) (by rw[e105];exact hxy) hye hwC) ⟨.inr ⟨_,rfl⟩,rfl,rfl,trivial⟩ ?_
      try conv=>cbv
      refine⟨[([],wC)],fun _=>⟨rfl,by decide,rfl,⟨rfl,⟨.inr ⟨_,rfl⟩,rfl,trivial⟩,trivial⟩⟩,.inr ?_⟩
      try conv=>cbv
      refine .inl ⟨[([],wC)],fun _=>⟨rfl,hmm,rfl,by show (o.length+1)*48≤140737488355328;(try simp only[List.length_take,List.length_drop]);omega⟩,?_⟩
      intro (l113:List (el tNum)) n113 ql113;have hl113:l113=(o:List (el tNum))++([([],wC)]:List (el tNum)):=ql113.1;have hn113:n113=List.length (α:=(el tNum)) l113:=ql113.2;conv=>cbv
      intro n72 h72;conv=>cbv
      refine⟨fun _=>i64 (by omega),?_⟩
      refine⟨L.length-(i'+1),?_,?_⟩
      ·omega
      rw[hJ1]
      exact .inr (.inl ⟨l113,n113,i'+1,n72,rfl,rfl,⟨⟨by omega⟩,by omega,hn113⟩,hTn,by rw[hl113,hinv,take_snoc hnu,List.map_append];simp[nm,hTn,hwC],rfl⟩)
     ·obtain⟨x85,hx85⟩:=get_ex (l:=L) (i:=i') (by omega)
      refine⟨x85,fun _=>⟨by omega,by rw[show (i).toNat=i' by omega];exact hx85⟩,?_⟩
      try conv=>cbv
      have e85:x85=x78:=Option.some.inj (hx85.symm.trans hx78)
      refine cL (r:= .one (.sl tRat wC)) hE (Ylift_ok (G.twr htj) hT (by rw[e85];exact hxy) hye.mem (hc81.1 rfl) hwC) ⟨.inr ⟨_,rfl⟩,rfl,trivial⟩ ?_
      try conv=>cbv
      refine⟨[([],wC)],fun _=>⟨rfl,by decide,rfl,⟨rfl,⟨.inr ⟨_,rfl⟩,rfl,trivial⟩,trivial⟩⟩,.inr ?_⟩
      try conv=>cbv
      refine .inl ⟨[([],wC)],fun _=>⟨rfl,hmm,rfl,by show (o.length+1)*48≤140737488355328;(try simp only[List.length_take,List.length_drop]);omega⟩,?_⟩
      intro (l113:List (el tNum)) n113 ql113;have hl113:l113=(o:List (el tNum))++([([],wC)]:List (el tNum)):=ql113.1;have hn113:n113=List.length (α:=(el tNum)) l113:=ql113.2;conv=>cbv
      intro n72 h72;conv=>cbv
      refine⟨fun _=>i64 (by omega),?_⟩
      refine⟨L.length-(i'+1),?_,?_⟩
      ·omega
      rw[hJ1]
      exact .inr (.inl ⟨l113,n113,i'+1,n72,rfl,rfl,⟨⟨by omega⟩,by omega,hn113⟩,hTn,by rw[hl113,hinv,take_snoc hnu,List.map_append];simp[nm,hTn,hwC],rfl⟩)
   ·conv=>cbv
    have ei:=hi.eq
    obtain⟨i',hi'⟩:∃z:Nat,z=0:=⟨_,rfl⟩
    have hT:=hTn.symm
    intro n69 h69;have e69:=h69.eq;have f69:=h69.le;conv=>cbv
    intro n70 h70;conv=>cbv
    cases n70 <;> conv=>cbv
    ·have k70:=lss_f h70
     exact fA ⟨⟨rfl,.inr (.inl ⟨_,congrArg _ (by rw[hO,show ns=[] from List.eq_nil_of_length_eq_zero (by omega)];rfl)⟩),trivial⟩,⟨rfl,rfl,trivial⟩,trivial⟩ rfl (by simp)
    ·have k70:=lss_t h70
     refine .inr ?_
     obtain⟨x78,hx78⟩:=get_ex (l:=L) (i:=i') (by omega)
     refine⟨x78,fun _=>⟨by omega,by rw[show (i).toNat=i' by omega];exact hx78⟩,?_⟩
     try conv=>cbv
     obtain⟨u,y,hxu,hxy,hnu⟩:=get_nm hL hx78
     have hun:=List.mem_of_getElem? hnu
     have hu:TT u:=hns _ hun
     have hye:El u S y:=hel _ hun
     have hul:List.length (α:=LR) x78.1=u.length:=by rw[hxu,tw_len]
     have huj:Emb u (joinL ns):=emb_joinL G.toGam hns _ hun
     obtain⟨wC,hwC⟩:∃z:LR,z=em (joinL ns) y:=⟨_,rfl⟩
     obtain⟨c81,hc81⟩:=bool_ex (u<:+joinL ns)
     refine cA hE (Ybegins_d (G.twr htj) (G.twr hu) hT hxu hc81) ?_
     try conv=>cbv
     refine .inr ?_
     cases c81 <;> conv=>cbv
     ·obtain⟨x94,hx94⟩:=get_ex (l:=L) (i:=i') (by omega)
      refine⟨x94,fun _=>⟨by omega,by rw[show (i).toNat=i' by omega];exact hx94⟩,?_⟩
      try conv=>cbv
      have e94:x94=x78:=Option.some.inj (hx94.symm.trans hx78)
      obtain⟨w98,hw98⟩:∃z:List LR,z=tw (joinL ns):=⟨_,rfl⟩
      obtain⟨w99,hw99⟩:∃z:List LR,z=rootsL (joinL ns) u:=⟨_,rfl⟩
      have hext:=ext_eq (G.twr htj).red (G.twr hu).red huj
      refine cL (r:= .tup [(false,[.sl (.sl tRat) w98]),(false,[.sl (.sl tRat) w99]),(false,[.int .i64 0])]) hE (Yextend_ok G htj hu hT (by rw[e94];exact hxu) (by rw[hext];exact hw98) hw99) ⟨rfl,rfl,trivial⟩ ?_
      try conv=>cbv
      obtain⟨x105,hx105⟩:=get_ex (l:=L) (i:=i') (by omega)
      refine⟨x105,fun _=>⟨by omega,by rw[show (i).toNat=i' by omega];exact hx105⟩,?_⟩
      try conv=>cbv
      have e105:x105=x78:=Option.some.inj (hx105.symm.trans hx78)
      refine cL (r:= .one (.sl tRat wC)) hE (YimC G.toGam htj hu huj hT (by rw[hw99];have:=roots_ok (G.twr htj).red (G.twr hu).red;rwa [hext] at this) (by rw[e105];exact hxy) hye hwC) ⟨rfl,rfl,rfl,trivial⟩ ?_
      try conv=>cbv
      refine⟨[(T,wC)],fun _=>⟨rfl,by decide,rfl,⟨rfl,by first | exact⟨rfl,trivial⟩ | exact⟨rfl,rfl,trivial⟩ | exact⟨rfl,rfl,rfl,rfl,trivial⟩ | simp[allC,leC,cells],trivial⟩⟩,.inr ?_⟩
      try conv=>cbv
      refine .inl ⟨[(T,wC)],fun _=>⟨rfl,by show (1)*48≤140737488355328;(try simp only[List.length_take,List.length_drop]);omega⟩,?_⟩
      intro n113 h113;conv=>cbv
      intro n72 h72;conv=>cbv
      refine⟨fun _=>i64 (by omega),?_⟩
      refine⟨L.length-(i'+1),?_,?_⟩
      ·omega
      rw[hJ1]
      exact .inr (.inr (.inr ⟨T,_,n113,i'+1,n72,rfl,rfl,⟨⟨by omega⟩,by omega,h113⟩,hTn,by rw[take_snoc hnu,List.map_append,hi'];simp[nm,hTn,hwC],rfl⟩))
     ·obtain⟨x85,hx85⟩:=get_ex (l:=L) (i:=i') (by omega)
      refine⟨x85,fun _=>⟨by omega,by rw[show (i).toNat=i' by omega];exact hx85⟩,?_⟩
      try conv=>cbv
      have e85:x85=x78:=Option.some.inj (hx85.symm.trans hx78)
      refine cL (r:= .one (.sl tRat wC)) hE (Ylift_ok (G.twr htj) hT (by rw[e85];exact hxy) hye.mem (hc81.1 rfl) hwC) ⟨rfl,rfl,trivial⟩ ?_
      try conv=>cbv
      refine⟨[(T,wC)],fun _=>⟨rfl,by decide,rfl,⟨rfl,by first | exact⟨rfl,trivial⟩ | exact⟨rfl,rfl,trivial⟩ | exact⟨rfl,rfl,rfl,rfl,trivial⟩ | simp[allC,leC,cells],trivial⟩⟩,.inr ?_⟩
      try conv=>cbv
      refine .inl ⟨[(T,wC)],fun _=>⟨rfl,by show (1)*48≤140737488355328;(try simp only[List.length_take,List.length_drop]);omega⟩,?_⟩
      intro n113 h113;conv=>cbv
      intro n72 h72;conv=>cbv
      refine⟨fun _=>i64 (by omega),?_⟩
      refine⟨L.length-(i'+1),?_,?_⟩
      ·omega
      rw[hJ1]
      exact .inr (.inr (.inr ⟨T,_,n113,i'+1,n72,rfl,rfl,⟨⟨by omega⟩,by omega,h113⟩,hTn,by rw[take_snoc hnu,List.map_append,hi'];simp[nm,hTn,hwC],rfl⟩))
   ·conv=>cbv
    have ei:=hi.eq
    have hol:o.length≤L.length:=by rw[hinv,List.length_map,List.length_take];omega
    have hT:=hTn.symm
    intro n69 h69;have e69:=h69.eq;have f69:=h69.le;conv=>cbv
    intro n70 h70;conv=>cbv
    cases n70 <;> conv=>cbv
    ·have k70:=lss_f h70
     exact fA ⟨⟨rfl,.inl ⟨_,rfl,by omega,congrArg _ (by rw[hO,hmm,hinv,List.drop_zero,List.take_length,List.take_of_length_le (show ns.length≤i' by omega)])⟩,trivial⟩,⟨rfl,rfl,trivial⟩,trivial⟩ rfl (by simp)
    ·have k70:=lss_t h70
     refine .inr ?_
     obtain⟨x78,hx78⟩:=get_ex (l:=L) (i:=i') (by omega)
     refine⟨x78,fun _=>⟨by omega,by rw[show (i).toNat=i' by omega];exact hx78⟩,?_⟩
     try conv=>cbv
     obtain⟨u,y,hxu,hxy,hnu⟩:=get_nm hL hx78
     have hun:=List.mem_of_getElem? hnu
     have hu:TT u:=hns _ hun
     have hye:El u S y:=hel _ hun
     have hul:List.length (α:=LR) x78.1=u.length:=by rw[hxu,tw_len]
     have huj:Emb u (joinL ns):=emb_joinL G.toGam hns _ hun
     obtain⟨wC,hwC⟩:∃z:LR,z=em (joinL ns) y:=⟨_,rfl⟩
     obtain⟨c81,hc81⟩:=bool_ex (u<:+joinL ns)
     refine cA hE (Ybegins_d (G.twr htj) (G.twr hu) hT hxu hc81) ?_
     try conv=>cbv
     refine .inr ?_
     cases c81 <;> conv=>cbv
     ·obtain⟨x94,hx94⟩:=get_ex (l:=L) (i:=i') (by omega)
      refine⟨x94,fun _=>⟨by omega,by rw[show (i).toNat=i' by omega];exact hx94⟩,?_⟩
      try conv=>cbv
      have e94:x94=x78:=Option.some.inj (hx94.symm.trans hx78)
      obtain⟨w98,hw98⟩:∃z:List LR,z=tw (joinL ns):=⟨_,rfl⟩
      obtain⟨w99,hw99⟩:∃z:List LR,z=rootsL (joinL ns) u:=⟨_,rfl⟩
      have hext:=ext_eq (G.twr htj).red (G.twr hu).red huj
      refine cL (r:= .tup [(false,[.sl (.sl tRat) w98]),(false,[.sl (.sl tRat) w99]),(false,[.int .i64 0])]) hE (Yextend_ok G htj hu hT (by rw[e94];exact hxu) (by rw[hext];exact hw98) hw99) ⟨rfl,rfl,trivial⟩ ?_
      try conv=>cbv
      obtain⟨x105,hx105⟩:=get_ex (l:=L) (i:=i') (by omega)
      refine⟨x105,fun _=>⟨by omega,by rw[show (i).toNat=i' by omega];exact hx105⟩,?_⟩
      try conv=>cbv
      have e105:x105=x78:=Option.some.inj (hx105.symm.trans hx78)
      refine cL (r:= .one (.sl tRat wC)) hE (YimC G.toGam htj hu huj hT (by rw[hw99];have:=roots_ok (G.twr htj).red (G.twr hu).red;rwa [hext] at this) (by rw[e105];exact hxy) hye hwC) ⟨rfl,rfl,rfl,trivial⟩ ?_
      try conv=>cbv
      refine⟨[(T,wC)],fun _=>⟨rfl,by decide,rfl,⟨rfl,by first | exact⟨rfl,trivial⟩ | exact⟨rfl,rfl,trivial⟩ | exact⟨rfl,rfl,rfl,rfl,trivial⟩ | simp[allC,leC,cells],trivial⟩⟩,.inr ?_⟩
      try conv=>cbv
      refine .inl ⟨[(T,wC)],fun _=>⟨rfl,hmm,rfl,by show (o.length+1)*48≤140737488355328;(try simp only[List.length_take,List.length_drop]);omega⟩,?_⟩
      intro (l113:List (el tNum)) n113 ql113;have hl113:l113=(o:List (el tNum))++([(T,wC)]:List (el tNum)):=ql113.1;have hn113:n113=List.length (α:=(el tNum)) l113:=ql113.2;conv=>cbv
      intro n72 h72;conv=>cbv
      refine⟨fun _=>i64 (by omega),?_⟩
      refine⟨L.length-(i'+1),?_,?_⟩
      ·omega
      rw[hJ1]
      exact .inr (.inr (.inr ⟨T,l113,n113,i'+1,n72,rfl,rfl,⟨⟨by omega⟩,by omega,hn113⟩,hTn,by rw[hl113,hinv,take_snoc hnu,List.map_append];simp[nm,hTn,hwC],rfl⟩))
     ·obtain⟨x85,hx85⟩:=get_ex (l:=L) (i:=i') (by omega)
      refine⟨x85,fun _=>⟨by omega,by rw[show (i).toNat=i' by omega];exact hx85⟩,?_⟩
      try conv=>cbv
      have e85:x85=x78:=Option.some.inj (hx85.symm.trans hx78)
      refine cL (r:= .one (.sl tRat wC)) hE (Ylift_ok (G.twr htj) hT (by rw[e85];exact hxy) hye.mem (hc81.1 rfl) hwC) ⟨rfl,rfl,trivial⟩ ?_
      try conv=>cbv
      refine⟨[(T,wC)],fun _=>⟨rfl,by decide,rfl,⟨rfl,by first | exact⟨rfl,trivial⟩ | exact⟨rfl,rfl,trivial⟩ | exact⟨rfl,rfl,rfl,rfl,trivial⟩ | simp[allC,leC,cells],trivial⟩⟩,.inr ?_⟩
      try conv=>cbv
      refine .inl ⟨[(T,wC)],fun _=>⟨rfl,hmm,rfl,by show (o.length+1)*48≤140737488355328;(try simp only[List.length_take,List.length_drop]);omega⟩,?_⟩
      intro (l113:List (el tNum)) n113 ql113;have hl113:l113=(o:List (el tNum))++([(T,wC)]:List (el tNum)):=ql113.1;have hn113:n113=List.length (α:=(el tNum)) l113:=ql113.2;conv=>cbv
      intro n72 h72;conv=>cbv
      refine⟨fun _=>i64 (by omega),?_⟩
      refine⟨L.length-(i'+1),?_,?_⟩
      ·omega
      rw[hJ1]
      exact .inr (.inr (.inr ⟨T,l113,n113,i'+1,n72,rfl,rfl,⟨⟨by omega⟩,by omega,hn113⟩,hTn,by rw[hl113,hinv,take_snoc hnu,List.map_append];simp[nm,hTn,hwC],rfl⟩))
  ·have k18:=lss_t h18
   refine .inr ?_
   obtain⟨x23,hx23⟩:=get_ex (l:=L) (i:=i') (by omega)
   refine⟨x23,fun _=>⟨by omega,by rw[show (i).toNat=i' by omega];exact hx23⟩,?_⟩
   try conv=>cbv
   obtain⟨u,y,hxu,hxy,hnu⟩:=get_nm hL hx23
   have hun:=List.mem_of_getElem? hnu
   have hu:TT u:=hns _ hun
   have hye:El u S y:=hel _ hun
   have hul:List.length (α:=LR) x23.1=u.length:=by rw[hxu,tw_len]
   have hst:=joinL_take hnu
   unfold joinT at hst
   dsimp only at hst
   have htk:TT (joinL (ns.take i')):=G.joinL (fun n hn=>hns n (List.mem_of_mem_take hn))
   intro n26 h26;have e26:=h26.eq;have f26:=h26.le;conv=>cbv
   have hul2:n26=(u.length:Int):=e26.trans (congrArg (fun n:Nat=>(n:Int)) hul)
   intro n28 h28;have e28:=h28.eq;have f28:=h28.le;conv=>cbv
   have htl2:n28=((joinL (ns.take i')).length:Int):=e28.trans (congrArg (fun n:Nat=>(n:Int)) htl.symm)
   intro n29 h29;conv=>cbv
   cases n29 <;> conv=>cbv
   ·have k29:=gtr_f h29
    refine .inr ?_
    obtain⟨x47,hx47⟩:=get_ex (l:=L) (i:=i') (by omega)
    refine⟨x47,fun _=>⟨by omega,by rw[show (i).toNat=i' by omega];exact hx47⟩,?_⟩
    try conv=>cbv
    have e47:x47=x23:=Option.some.inj (hx47.symm.trans hx23)
    obtain⟨c50,hc50⟩:=bool_ex (u<:+(joinL (ns.take i')))
    refine cL (r:= .one (.bool c50)) hE (Ybegins_d (G.twr htk) (G.twr hu) hTi (by rw[e47];exact hxu) hc50) ⟨rfl,rfl,trivial⟩ ?_
    try conv=>cbv
    intro n51 h51;conv=>cbv
    refine .inr ?_
    cases n51 <;> conv=>cbv
    ·have k51:=not_f h51
     intro n20 h20;conv=>cbv
     refine⟨fun _=>i64 (by omega),?_⟩
     refine⟨L.length-(i'+1),?_,?_⟩
     ·omega
     rw[hJ0]
     exact .inr ⟨_,i'+1,n20,rfl,rfl,⟨⟨by omega⟩,by omega⟩,by rw[hst,if_pos (hc50.1 k51),←hTi],rfl⟩
    ·have k51:=not_t h51
     obtain⟨x56,hx56⟩:=get_ex (l:=L) (i:=i') (by omega)
     refine⟨x56,fun _=>⟨by omega,by rw[show (i).toNat=i' by omega];exact hx56⟩,?_⟩
     try conv=>cbv
     have e56:x56=x23:=Option.some.inj (hx56.symm.trans hx23)
     obtain⟨w60,hw60⟩:∃z:List LR,z=tw (ext (joinL (ns.take i')) u):=⟨_,rfl⟩
     obtain⟨w61,hw61⟩:∃z:List LR,z=rootsL (joinL (ns.take i')) u:=⟨_,rfl⟩
     refine cL (r:= .tup [(false,[.sl (.sl tRat) w60]),(false,[.sl (.sl tRat) w61]),(false,[.int .i64 0])]) hE (Yextend_ok G htk hu hTi (by rw[e56];exact hxu) hw60 hw61) ⟨rfl,rfl,trivial⟩ ?_
     try conv=>cbv
     intro n64 h64;(have h64:=h64.trans (show _=false by decide));subst h64;conv=>cbv
     intro n20 h20;conv=>cbv
     refine⟨fun _=>i64 (by omega),?_⟩
     refine⟨L.length-(i'+1),?_,?_⟩
     ·omega
     rw[hJ0]
     exact .inr ⟨_,i'+1,n20,rfl,rfl,⟨⟨by omega⟩,by omega⟩,by rw[hst,if_neg (fun q=>by have:=hc50.2 q;rw[k51] at this;cases this),if_neg (fun hsf=>by first | (have:=hc37.2 hsf;cases this) | exact absurd (show u<:+joinL (List.take i' ns) from by rw[hsf.eq_of_length_le (by omega)];exact List.suffix_refl _) (fun q=>by have:=hc50.2 q;rw[k51] at this;cases this)),hw60],rfl⟩
   ·have k29:=gtr_t h29
    obtain⟨x33,hx33⟩:=get_ex (l:=L) (i:=i') (by omega)
    refine⟨x33,fun _=>⟨by omega,by rw[show (i).toNat=i' by omega];exact hx33⟩,?_⟩
    try conv=>cbv
    have e33:x33=x23:=Option.some.inj (hx33.symm.trans hx23)
    obtain⟨c37,hc37⟩:=bool_ex ((joinL (ns.take i'))<:+u)
    refine cL (r:= .one (.bool c37)) hE (Ybegins_d (G.twr hu) (G.twr htk) (by rw[e33];exact hxu) hTi hc37) ⟨rfl,rfl,trivial⟩ ?_
    try conv=>cbv
    refine .inr ?_
    cases c37 <;> conv=>cbv
    ·obtain⟨x47,hx47⟩:=get_ex (l:=L) (i:=i') (by omega)
     refine⟨x47,fun _=>⟨by omega,by rw[show (i).toNat=i' by omega];exact hx47⟩,?_⟩
     try conv=>cbv
     have e47:x47=x23:=Option.some.inj (hx47.symm.trans hx23)
     obtain⟨c50,hc50⟩:=bool_ex (u<:+(joinL (ns.take i')))
     refine cL (r:= .one (.bool c50)) hE (Ybegins_d (G.twr htk) (G.twr hu) hTi (by rw[e47];exact hxu) hc50) ⟨rfl,rfl,trivial⟩ ?_
     try conv=>cbv
     intro n51 h51;conv=>cbv
     refine .inr ?_
     cases n51 <;> conv=>cbv
     ·have k51:=not_f h51
      intro n20 h20;conv=>cbv
      refine⟨fun _=>i64 (by omega),?_⟩
      refine⟨L.length-(i'+1),?_,?_⟩
      ·omega
      rw[hJ0]
      exact .inr ⟨_,i'+1,n20,rfl,rfl,⟨⟨by omega⟩,by omega⟩,by rw[hst,if_pos (hc50.1 k51),←hTi],rfl⟩
     ·have k51:=not_t h51
      obtain⟨x56,hx56⟩:=get_ex (l:=L) (i:=i') (by omega)
      refine⟨x56,fun _=>⟨by omega,by rw[show (i).toNat=i' by omega];exact hx56⟩,?_⟩
      try conv=>cbv
      have e56:x56=x23:=Option.some.inj (hx56.symm.trans hx23)
      obtain⟨w60,hw60⟩:∃z:List LR,z=tw (ext (joinL (ns.take i')) u):=⟨_,rfl⟩
      obtain⟨w61,hw61⟩:∃z:List LR,z=rootsL (joinL (ns.take i')) u:=⟨_,rfl⟩
      refine cL (r:= .tup [(false,[.sl (.sl tRat) w60]),(false,[.sl (.sl tRat) w61]),(false,[.int .i64 0])]) hE (Yextend_ok G htk hu hTi (by rw[e56];exact hxu) hw60 hw61) ⟨rfl,rfl,trivial⟩ ?_
      try conv=>cbv
      intro n64 h64;(have h64:=h64.trans (show _=false by decide));subst h64;conv=>cbv
      intro n20 h20;conv=>cbv
      refine⟨fun _=>i64 (by omega),?_⟩
      refine⟨L.length-(i'+1),?_,?_⟩
      ·omega
      rw[hJ0]
      exact .inr ⟨_,i'+1,n20,rfl,rfl,⟨⟨by omega⟩,by omega⟩,by rw[hst,if_neg (fun q=>by have:=hc50.2 q;rw[k51] at this;cases this),if_neg (fun hsf=>by first | (have:=hc37.2 hsf;cases this) | exact absurd (show u<:+joinL (List.take i' ns) from by rw[hsf.eq_of_length_le (by omega)];exact List.suffix_refl _) (fun q=>by have:=hc50.2 q;rw[k51] at this;cases this)),hw60],rfl⟩
    ·obtain⟨x41,hx41⟩:=get_ex (l:=L) (i:=i') (by omega)
     refine⟨x41,fun _=>⟨by omega,by rw[show (i).toNat=i' by omega];exact hx41⟩,?_⟩
     try conv=>cbv
     have e41:x41=x23:=Option.some.inj (hx41.symm.trans hx23)
     intro n20 h20;conv=>cbv
     refine⟨fun _=>i64 (by omega),?_⟩
     refine⟨L.length-(i'+1),?_,?_⟩
     ·omega
     rw[hJ0]
     exact .inr ⟨_,i'+1,n20,rfl,rfl,⟨⟨by omega⟩,by omega⟩,by rw[hst,if_neg (fun hsf=>by have:=hsf.length_le;omega),if_pos (hc37.1 rfl),e41];exact hxu,rfl⟩
end Go.Abs
