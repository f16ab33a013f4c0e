/- Part 31 of a proof. Conditions: each theorem's own. -/
import Derived.Shelf.SlicesE.Delete
import Derived.Test.YtmhbikooakmagaaGreatRk26
import Derived.Test.YtmhbikooakmagaaGreatRk28
set_option linter.all false
set_option maxHeartbeats 8000000
set_option maxRecDepth 20000
open Go.Proofs
namespace Go.Abs
open Go.RowKit Go.Shelf Go.Proofs Go.Sort
theorem cLx {E:Env} {b:Bool} {g:FuncId} {args:List AV} {r:AV} {K:AV->Prop} {X:Prop} (c:env Tryz.prog=E) (h:E8 Tryz.prog b g args r) (d:K r) (hs:Em BA args args:=by exact ⟨rfl,rfl,trivial⟩):
 (∃(a:List AV) (r:AV),(Unit->Em BA args a)/\(Unit->E.C b g a r)/\K r)\/X:= .inl ⟨args,r,fun _=>hs,fun _=>E6 c h,d⟩
def lR:Ren:=⟨fun k=>match k with | 45=>127 | _=>0,
 fun k=>match k with | 3=>3 | 4=>4 | 22=>33 | 23=>34 | _=>0,fun k=>k⟩
variable {b i m:Nat}
theorem jH:SlLaysE.n45 Tryz.prog lR where
 mixed:=by kernel_rfl
 f45:=⟨Func.name Tryz.f127,by kernel_rfl,Tryz.func127.trans (congrArg some (by kernel_rfl))⟩
 t0:=Tryz.underlying0
 a0:=Tryz.isAgg0
 z0:=Tryz.sizeOf0
 v0:=Tryz.zeroValue0
 t3:=Tryz.underlying3
 a3:=Tryz.isAgg3
 z3:=Tryz.sizeOf3
 v3:=Tryz.zeroValue3
 t4:=Tryz.underlying4
 a4:=Tryz.isAgg4
 z4:=Tryz.sizeOf4
 v4:=Tryz.zeroValue4
 t22:=Tryz.underlying33
 a22:=Tryz.isAgg33
 z22:=Tryz.sizeOf33
 v22:=Tryz.zeroValue33
 a23:=Tryz.isAgg34
 z23:=Tryz.sizeOf34
def GZ (v:Value):Value:=bif v.oneCell' then v else .slice none 0 0
theorem gQ:OneCell GZ:=fun v=>by
 unfold GZ;cases h:v.oneCell'
 ·rfl
 exact h
theorem V9 {v:Value} (h:v.oneCell'=true):GZ v=v:=by unfold GZ;rw[h];rfl
theorem jS {w:World} {k:Nat} {f:Array Value->Array Value} (h:k≠b):(mapBlock w b f).heap[k]? =w.heap[k]? :=by simp[mapBlock,Array.getElem?_modify,Ne.symm h]
theorem jT {w:World} {f:Array Value->Array Value} {c:Array Value} {e:TypeId} {a:Nat×Nat} (h:w.heap[b]? =some (.cells c e a)):(mapBlock w b f).heap[b]? =some (.cells (f c) e a):=by
 simp[mapBlock,Array.getElem?_modify,h,onCells]
theorem gG {α:Type} {l:List α} {y:α} (hm:m<l.length) (h:(l.take m++l.drop (m+1))[i]? =some y):l[if i<m then i else i+1]? =some y:=by
 have a:(l.take m).length=m:=by simp;omega
 by_cases k:i<m
 ·rw[List.getElem?_append_left (by omega),List.getElem?_take,if_pos k] at h;rw[if_pos k];exact h
 rw[List.getElem?_append_right (by omega),List.getElem?_drop,a,show m+1+(i-m)=i+1 by omega] at h;rw[if_neg k];exact h
theorem lC {off:Nat} {D c:Array Value} {v:Value} (hi:i<D.size) (d:off+i<c.size) (a:D[i]? =some v):(putCells GZ off D c)[off+i]? =some (GZ v):=by
 unfold putCells;rw[Array.getElem?_mapIdx,Array.getElem?_eq_getElem d,Option.map_some,if_pos ⟨by omega,by omega⟩,Nat.add_sub_cancel_left,getElem!_pos D i hi];rw[Array.getElem?_eq_getElem hi] at a;rw[Option.some.inj a]
theorem gF {l:List LR} {i j:Int} (hi:i=(m:Int)) (hj:j=((m+1:Nat):Int)) (hm:m<l.length):Mv Tryz.prog 127 (.sl AA) l [.one (.int .i64 i),.one (.int .i64 j)] (l.take m++l.drop (m+1)):=by
 subst hi hj;refine⟨⟨_,_,Tryz.func127,by kernel_rfl,rfl⟩,?_⟩;intro w I J ob v0 vs hI hJ h0 hb hlen hargs
 match vs,hargs with
 | [v1,v2],⟨a1,a2,_⟩=>
 obtain rfl:v1= .int .i64 m:=a1.resolve_left (by simp);obtain rfl:v2= .int .i64 ((m+1:Nat):Int):=a2.resolve_left (by simp);obtain⟨base,cap,rfl,k1,k2,_,k3⟩:=h0.2 rfl;rcases k3 with k3 |⟨b,arr,e,hbb,rfl,hh0,hsz⟩
 ·omega
 have hbb:ob=some b:=hbb;subst hbb;have hh:w.heap[b]? =some (.cells arr e (0,0)):=hh0;have hsz':cap<=arr.size:=by simpa [T.size] using hsz
 obtain⟨b',arr',e',q1,q2,q3⟩:=hb.resolve_left fun q=>by rw[q.2] at hm;simp at hm
 obtain rfl:b'=b:=(Option.some.inj q1).symm
 obtain⟨rfl,_⟩:arr'=arr/\e'=e:=by
  have q2':w.heap[b']? =_:=q2;rw[hh] at q2';cases Option.some.inj q2';exact⟨rfl,rfl⟩
 have hcell:∀(j:Nat) (y:LR),l[j]? =some y->∃u:Value,arr'[j]? =some u/\rep w I (.sl AA) y [u]:=fun j y hy=>by
  obtain⟨us,r1,r2⟩:=q3 j y hy;have r1:rep w I (.sl AA) y us:=r1;obtain⟨bs,cp,rfl,_⟩:=id r1;refine⟨_,?_,r1⟩;have r3:w.rangeAt b' (j*T.size (.sl AA)) _:=r2;have:=r3 0 _ rfl;simpa [T.size,World.cell?,hh] using this
 have hone:∀(j:Nat) (y:LR) (u:Value),l[j]? =some y->arr'[j]? =some u->u.oneCell'=true:=fun j y u hy hu=>by
  obtain⟨u',h1,h2⟩:=hcell j y hy;obtain rfl:=Option.some.inj (h1.symm.trans hu);exact MR _ _ _ h2 _ (by simp)
 obtain⟨d,hd⟩:∃d,d=arr'.extract 0 l.length:=⟨_,rfl⟩
 have hds:d.size=l.length:=by rw[hd,Array.size_extract];omega
 have hdg:∀j,j<l.length->d[j]? =arr'[j]? :=fun j hj=>by rw[hd,Array.getElem?_extract,if_pos (by omega),Nat.zero_add]
 have hH:Holds GZ w b' 0 d:=fun j hj=>by
  rw[hds] at hj;obtain⟨y,hy⟩:∃y,l[j]? =some y:=⟨_,List.getElem?_eq_getElem hj⟩
  obtain⟨u,h1,h2⟩:=hcell j y hy
  have h3:d[j]! =u:=by
   have:=(hdg j hj).trans h1;rw[Array.getElem?_eq_getElem (by omega)] at this;rw[getElem!_pos d j (by omega)];exact Option.some.inj this
  refine⟨?_,by simp[World.frozen?,hh]⟩;rw[h3,V9 (hone j y u hy h1),Nat.zero_add];simpa [World.cell?,hh] using h1
 have hb0:0*T.size (.sl AA)=0:=by simp
 rw[hb0,show l.length=d.size from hds.symm];refine (AnyE.slices_Delete jH GZ gQ (.slice none 0 0) Tryz.zeroValue34 ((Tryz.prog.info? 34).get (by kernel_rfl)) (Option.some_get _).symm (by kernel_rfl) b' 0 cap m (m+1) d w hH (by omega) k2 (by omega) (by omega)).mono fun e2 w' ⟨h1,q,h2⟩=>⟨_,some b',h1,?_⟩
 obtain⟨D,hD⟩:∃D:Array Value,D=(d.toList.take m++d.toList.drop (m+1)++List.replicate (m+1-m) (Value.slice none 0 0)).toArray:=⟨_,rfl⟩
 rw[<-hD] at h2;have hDs:D.size=l.length:=by rw[hD];simp;omega
 have hw:w'=mapBlock (Go.Sort.ahead w q) b' (putCells GZ 0 D):=h2;have hself:w'.heap[b']? =some (.cells (putCells GZ 0 D arr') e (0,0)):=by rw[hw];exact jT hh
 have hoth:∀k,k≠b'->w'.heap[k]? =w.heap[k]? :=fun k hk=>by rw[hw];exact jS hk
 have hps:(putCells GZ 0 D arr').size=arr'.size:=by simp[putCells]
 have hl':(l.take m++l.drop (m+1)).length=l.length-1:=by simp;omega
 refine⟨⟨by rw[hw];rfl,by rw[hw];rfl,by rw[hw];rfl,by rw[h2,size_putRow];exact Nat.le_refl _,fun k _ hk=>hoth k fun e=>hk (by rw[e])⟩,fun b2 arr2 e2 hb2 hh2=>?_,.inl rfl,by omega,⟨⟨rfl,Nat.le_refl _⟩,fun _=>⟨_,_,by rw[hl',hds,Nat.add_sub_cancel_left],by omega,k2,by simp,.inr ⟨b',_,e,rfl,by simp,hself,by rw[hps];simp[T.size];omega⟩⟩⟩,.inr ⟨b',_,e,rfl,hself,fun i y hy=>?_⟩⟩
 ·obtain rfl:=Option.some.inj hb2;rw[hh] at hh2;cases Option.some.inj hh2;exact⟨_,hself,hps⟩
 have hi:=(List.getElem?_eq_some_iff.1 hy).1;rw[hl'] at hi;have hy2:=gG hm hy;obtain⟨u,h3,h4⟩:=hcell _ y hy2;refine⟨[u],CD (w':=w') (fun k hk=>⟨⟨.inl hk,by rw[h2,size_putRow];exact (hI k hk).1,fun e=>(hI k hk).2 e,fun e=>(hI k hk).2 e⟩,hoth k fun e=>(hI k hk).2 (by rw[e])⟩) (.sl AA) y [u] h4,?_⟩
 have hDi:D[i]? =some u:=by
  have hk2:(if i<m then i else i+1)<l.length:=by split <;> omega
  have h5:=(hdg _ hk2).trans h3;rw[hD]
  by_cases k:i<m
  ·rw[if_pos k] at h5;simp only[List.getElem?_toArray];rw[List.append_assoc,List.getElem?_append_left (by simp;omega),List.getElem?_take,if_pos k,Array.getElem?_toList];exact h5
  rw[if_neg k] at h5;have e1:(d.toList.take m).length=m:=by simp;omega
  simp only[List.getElem?_toArray];rw[List.append_assoc,List.getElem?_append_right (by omega),e1,List.getElem?_append_left (by simp;omega),List.getElem?_drop,show m+1+(i-m)=i+1 by omega,Array.getElem?_toList];exact h5
 have h6:=lC (off:=0) (D:=D) (c:=arr') (i:=i) (by omega) (by omega) hDi;rw[Nat.zero_add,V9 (hone _ y u hy2 h3)] at h6;intro jj v hv
 match jj,hv with
 | 0,hv=>
  obtain rfl:=Option.some.inj hv
  show w'.cell? ⟨b',i*T.size (.sl AA)+0,none⟩=_
  simp[World.cell?,hself,T.size];exact h6
end Go.Abs
namespace Go.Abs
open Go.RowKit
variable {A C:LR} {R i':Nat} {T X:List LR} {c:Bool} {g:FuncId} {u:List (List Rat)} {x:Re} {xs:List Rat}
theorem NR {c a:Int} {p:Nat} (h:c=IntKind.i64.wrap (BitVec.ofInt IntKind.i64.bits a &&& BitVec.ofInt IntKind.i64.bits 1).toNat) (ha:a=(p:Int)) (j:p<4611686018427387904):c=a%2:=by
 have f:=wrap_i64 h
 have e:(BitVec.ofInt 64 a &&& BitVec.ofInt 64 1:BitVec 64).toNat=p%2:=by
  rw[ha,show BitVec.ofInt 64 (p:Int)=BitVec.ofNat 64 p from BitVec.ofInt_natCast 64 _,show BitVec.ofInt 64 1=BitVec.ofNat 64 1 from rfl,BitVec.toNat_and,BitVec.toNat_ofNat,BitVec.toNat_ofNat,Nat.mod_eq_of_lt (by omega),Nat.mod_eq_of_lt (by decide),Nat.and_one_is_mod]
 have d:((BitVec.ofInt IntKind.i64.bits a &&& BitVec.ofInt IntKind.i64.bits 1).toNat:Int)=((p%2:Nat):Int):=congrArg _ e;rw[d] at f;omega
open Classical in
noncomputable def Kb (i:Nat) (y:LR):Bool:=decide (∃s,y=Aa s/\Bp i 0 s=true)
open Classical in
theorem X8 (i:Nat) (s:List Rat):Kb i (Aa s)=Bp i 0 s:=by
 unfold Kb;cases h:Bp i 0 s with
 | true=>exact decide_eq_true ⟨s,rfl,h⟩
 | false=>exact decide_eq_false fun⟨z,e,a⟩=>by rw[<-SL e,h] at a;cases a
theorem X7 (i:Nat):∀ts:List (List Rat),(ts.map Aa).any (Kb i)=ts.any (Bp i 0)
 | []=>rfl
 | s::ts=>by rw[List.map_cons,List.any_cons,List.any_cons,X8,X7 i ts]
def Hl (p:LR->Bool):Nat->List LR->Int
 | _,[]=> -1
 | i,x::l=>if p x=true then i else Hl p (i+1) l
theorem Wd {p:LR->Bool} {i:Nat} {x:LR} (h:X[i]? =some x):Hl p i (X.drop i)=if p x=true then (i:Int) else Hl p (i+1) (X.drop (i+1)):=by
 have hi:=FY h;rw[List.drop_eq_getElem_cons hi,Hl];rw[List.getElem?_eq_getElem hi] at h;rw[Option.some.inj h]
theorem Wc (p:LR->Bool):∀(X:List LR) (i:Nat),decide (Hl p i X >= 0)=X.any p
 | [],i=>rfl
 | x::X,i=>by
  rw[Hl,List.any_cons]
  split
  ·rename_i h;rw[h,Bool.true_or];exact decide_eq_true (by omega)
  rename_i h;rw[Bool.eq_false_iff.2 h,Bool.false_or];exact Wc p X (i+1)
theorem YC {i:Int} (W:A=Aa xs) (hi:AO i i') (h6:i'<=60) (hl:xs.length<=1000000) (Y:c=Bp i' 0 xs):CF 123 [.one (.sl AA A),.one (.int .i64 i)] (.one (.bool c)):=by
 have ei:=hi.eq;have a1:A.length=xs.length:=by rw[W,List.length_map]
 refine AJ Tryz.func123 fun E hE=>?_
 conv=>cbv
 intro n8 K;have e8:=K.eq;have f8:=K.le;conv=>cbv
 refine .inr ?_;obtain⟨Z,f⟩:=xJ fun vs bl k=>∃(k':Nat) (L j:Int),vs=[.one (.sl AA A),.one (.int .i64 i),.one (.sl AA A),.one (.int .i64 L),.one (.int .i64 j)]/\(CT L A.length/\AO j k'/\k'<=xs.length)/\Bp i' 0 xs=Bp i' k' (xs.drop k')/\k=xs.length-k'
 refine⟨[],[0,1,7,8,9],[],Z,⟨xs.length-0,by rw[f];exact⟨0,n8,0,rfl,⟨K,Al 0,by omega⟩,by rw[List.drop_zero],rfl⟩⟩,?_⟩;intro vs bl a6 H;rw[f] at H;obtain⟨k',L,j,rfl,⟨M,H,a2⟩,hinv,a5⟩:=H;conv=>cbv
 have eL:=M.eq;have ej:=H.eq;intro Q v;conv=>cbv
 cases Q <;> conv=>cbv
 ·have P:=AW v;exact AD ⟨⟨rfl,congrArg _ (by rw[Y,hinv,show k'=xs.length by omega,List.drop_length];rfl),trivial⟩,trivial⟩
 have P:=AY v;refine .inr ?_;obtain⟨S,s⟩:=AK (l:=A) (i:=k') (by omega);refine⟨S,fun _=>⟨by omega,by rw[show (j).toNat=k' by omega];exact s⟩,?_⟩;try conv=>cbv
 intro n16 I;conv=>cbv
 refine AH ?_;obtain⟨d16,n,a⟩:∃d:Nat,d=k'/2^i'/\n16=d:=⟨_,rfl,shr_var (p:=k') (e:=i') I (by omega) (by omega) (by show i'<=64;omega)⟩
 intro n17 w;conv=>cbv
 have N:d16<=k':=n ▸ Nat.div_le_self _ _;have h:=NV (k:=k') (i:=i') (by rw[a,n]) (NR w a (by omega));have U:=NR w a (by omega);intro n18 y;conv=>cbv
 cases n18 <;> conv=>cbv
 ·have D:=Ah y;intro n24 J;conv=>cbv
  refine AI ?_;refine⟨xs.length-(k'+1),?_,?_⟩
  ·omega
  rw[f];refine⟨k'+1,L,n24,rfl,⟨M,⟨by omega⟩,by omega⟩,?_,rfl⟩;rw[hinv,YB (by omega) (h.2.2 (by omega))]
 have D:=Aj y;obtain⟨G,B,o,_⟩:=IK W s;obtain⟨a7,r⟩:=xI (DR G);refine AB hE (LA B r) ?_;conv=>cbv
 intro n22 z;conv=>cbv
 cases n22 <;> conv=>cbv
 ·have F:=Co z;intro n24 J;conv=>cbv
  refine AI ?_;refine⟨xs.length-(k'+1),?_,?_⟩
  ·omega
  rw[f];refine⟨k'+1,L,n24,rfl,⟨M,⟨by omega⟩,by omega⟩,?_,rfl⟩;have O:G=0:=Zd (by omega);rw[hinv,L8 o,O];simp
 have F:=Cp z;exact AD ⟨⟨rfl,congrArg _ (by rw[Y,hinv,L8 o,h.1.2 D,bne_iff_ne.2 (fun e=>F (by rw[r,e];rfl))];rfl),trivial⟩,trivial⟩
theorem ag {i:Int} (hA:A=Aa xs) (hi:AO i i') (h6:i'<=60) (hl:xs.length<=1000000) (hC:C=Aa (BR i' 0 xs)):CF 126 [.one (.sl AA A),.one (.int .i64 i)] (.one (.sl AA C)):=by
 have ei:=hi.eq;have a5:A.length=xs.length:=by rw[hA,List.length_map]
 refine AJ Tryz.func126 fun E hE=>?_
 conv=>cbv
 intro n9 N;have e9:=N.eq;have f9:=N.le;conv=>cbv
 refine .inr ?_;obtain⟨J0,h⟩:=xJ fun vs Z k=>∃(o:LR) (n k':Nat) (L j:Int),vs=[.one (.sl AA A),.one (.int .i64 i),.one (.AN AA 5 0 0 n),.one (.sl AA A),.one (.int .i64 L),.one (.int .i64 j)]/\Z=[.arr 0 AA o]/\(CT L A.length/\AO j k'/\k'<=xs.length/\n=o.length)/\o=Aa (BR i' 0 (xs.take k'))/\k=xs.length-k'
 refine⟨[(5,AA,true)],[0,1,5,8,9,10],[5],J0,⟨xs.length-0,by rw[h];exact⟨[],0,0,n9,0,rfl,rfl,⟨N,Al 0,by omega,rfl⟩,rfl,rfl⟩⟩,?_⟩;intro vs Z aa J;rw[h] at J;obtain⟨o,n,k',L,j,rfl,rfl,⟨O,J,a6,hn⟩,hinv,a7⟩:=J;conv=>cbv
 have eL:=O.eq;have ej:=J.eq;have a8:o.length<=xs.length:=by rw[hinv,List.length_map];have:=Sz i' 0 (xs.take k');rw[List.length_take] at this;omega
 intro Y z;conv=>cbv
 cases Y <;> conv=>cbv
 ·have U:=AW z;exact AD ⟨⟨rfl,.inl ⟨_,rfl,by omega,congrArg _ (by rw[hC,hn,List.drop_zero,List.take_length,hinv,show k'=xs.length by omega,List.take_length])⟩,trivial⟩,trivial⟩
 have U:=AY z;refine .inr ?_;obtain⟨a,v⟩:=AK (l:=A) (i:=k') (by omega);refine⟨a,fun _=>⟨by omega,by rw[show (j).toNat=k' by omega];exact v⟩,?_⟩;try conv=>cbv
 intro n17 K;conv=>cbv
 refine AH ?_;obtain⟨d17,s,f⟩:∃d:Nat,d=k'/2^i'/\n17=d:=⟨_,rfl,shr_var (p:=k') (e:=i') K (by omega) (by omega) (by show i'<=64;omega)⟩
 intro n18 B;conv=>cbv
 have P:d17<=k':=s ▸ Nat.div_le_self _ _;have r:=NV (k:=k') (i:=i') (by rw[f,s]) (NR B f (by omega));have a1:=NR B f (by omega);intro n19 D;conv=>cbv
 refine .inr ?_;cases n19 <;> conv=>cbv
 ·have W:=Ah D;intro n24 M;conv=>cbv
  refine AI ?_;refine⟨xs.length-(k'+1),?_,?_⟩
  ·omega
  rw[h];obtain⟨qq,Q⟩:=AK (l:=xs) (i:=k') (by omega);exact⟨o,n,k'+1,L,n24,rfl,rfl,⟨O,⟨by omega⟩,by omega,hn⟩,by rw[PH Q,if_pos (r.1.2 (by omega)),List.append_nil];exact hinv,rfl⟩
 have W:=Aj D
 obtain⟨I,a2,H,S⟩:∃q,BH q (rp q).1.1 (rp q).1.2 (rp q).2.1 (rp q).2.2/\xs[k']? =some q/\A[k']? =some (rp q):=by
  obtain⟨q,hq⟩:=AK (l:=xs) (i:=k') (by omega);exact⟨q,Ft q,hq,by rw[hA,List.getElem?_map,hq];rfl⟩
 refine⟨[((a.1.1,a.1.2),(a.2.1,a.2.2))],fun _=>⟨rfl,by decide,rfl,⟨rfl,by first | exact t1 | exact t2 | exact t4 | simp[Ao,BA,cells],trivial⟩⟩,.inr ?_⟩;try conv=>cbv
 refine .inl ⟨[((a.1.1,a.1.2),(a.2.1,a.2.2))],fun _=>⟨rfl,by (first | rfl | omega),rfl,by show (o.length+1)*64<=140737488355328;(try simp only[List.length_take,List.length_drop]);omega⟩,?_⟩;intro (y:LR) n23 w;have F:y=(o:LR)++([((a.1.1,a.1.2),(a.2.1,a.2.2))]:LR):=w.1;have G:n23=List.length (α:=(el AA)) y:=w.2;conv=>cbv
 intro n24 M;conv=>cbv
 refine AI ?_;refine⟨xs.length-(k'+1),?_,?_⟩
 ·omega
 rw[h];have ex:a=rp I:=by have:=v.symm.trans S;exact Option.some.inj this
 refine⟨y,_,k'+1,L,n24,rfl,rfl,⟨O,⟨by omega⟩,by omega,G⟩,?_,rfl⟩;rw[PH H,if_neg (by rw[r.2.2 (by omega)];decide)];rw[F,hinv];show _=List.map rp _;rw[List.map_append];show _=Aa _++[rp I];rw[<-ex]
theorem oD {i:Int} (d:A=Aa xs) (hi:AO i i') (a:i'<=60) (j:xs.length<=1000000) (h:c=Bp i' 0 xs):CF 125 [.one (.sl AA A),.one (.CX .i64 i 0)] (.one (.bool c)):=by
 refine AJ Tryz.func125 fun E f=>?_
 conv=>cbv
 refine AB f (YC d hi a j h) ?_;conv=>cbv
 exact AD ⟨t2,trivial⟩
theorem j8 {ts:List (List Rat)} {i:Int} (f:X=ts.map Aa) (hi:AO i i') (d:i'<=60) (h:∀s∈ts,s.length<=1000000):∀y∈X,CF 125 [.one (.sl AA y),.one (.CX .i64 i 0)] (.one (.bool (Kb i' y))):=fun y a=>by
 rw[f] at a;obtain⟨s,hs,rfl⟩:=List.mem_map.1 a;exact oD rfl hi d (h s hs) (X8 i' s)
theorem bM {i:Int} {p:LR->Bool} {r:Int} (G:∀x∈X,CF g [.one (.sl AA x),.one (.CX .i64 i 0)] (.one (.bool (p x)))) (J:r=Hl p 0 X):CF 242 [.one (.sl (.sl AA) X),.one (.CZ g [⟨.i64,i⟩])] (.one (.int .i64 r)):=by
 refine AJ Tryz.func242 fun E F=>?_
 conv=>cbv
 intro N v;have P:=v.eq;have f7:=v.le;conv=>cbv
 refine .inr ?_;obtain⟨z,h⟩:=xJ fun vs B k=>∃(f:Nat) (L j:Int),vs=[.one (.sl (.sl AA) X),.one (.CZ g [⟨.i64,i⟩]),.one (.int .i64 L),.one (.int .i64 j)]/\(CT L X.length/\AO j f/\f<=X.length)/\r=Hl p f (X.drop f)/\k=X.length-f
 refine⟨[],[0,1,7,8],[],z,⟨X.length-0,by rw[h];exact⟨0,N,0,rfl,⟨v,Al 0,by omega⟩,J,rfl⟩⟩,?_⟩;intro vs B M s;rw[h] at s;obtain⟨f,L,j,rfl,⟨y,s,H⟩,hinv,I⟩:=s;conv=>cbv
 have Q:=y.eq;have S:=s.eq;intro O w;conv=>cbv
 cases O <;> conv=>cbv
 ·have K:=AW w;exact AD ⟨⟨rfl,congrArg _ (by rw[hinv,List.drop_eq_nil_of_le (by omega)];rfl),trivial⟩,trivial⟩
 have K:=AY w;refine .inr ?_;obtain⟨n,a⟩:=AK (l:=X) (i:=f) (by omega);refine⟨n,fun _=>⟨by omega,by rw[show (j).toNat=f by omega];exact a⟩,?_⟩;try conv=>cbv
 obtain⟨o,d⟩:=xB (p n);refine cLx (r:= .one (.bool o)) F ((by rw[d];exact G n (List.mem_of_getElem? a))) ?_;try conv=>cbv
 cases o <;> conv=>cbv
 ·intro n18 D;conv=>cbv
  refine AI ?_;refine⟨X.length-(f+1),?_,?_⟩
  ·omega
  rw[h];refine⟨f+1,L,n18,rfl,⟨y,⟨by omega⟩,by omega⟩,?_,rfl⟩;rw[hinv,Wd a,<-d];rfl
 exact AD ⟨⟨rfl,congrArg _ (by rw[hinv,Wd a,<-d,if_pos rfl];omega),trivial⟩,trivial⟩
theorem bG {i:Int} {p:LR->Bool} (j:∀x∈X,CF g [.one (.sl AA x),.one (.CX .i64 i 0)] (.one (.bool (p x)))) (h:c=X.any p):CF 124 [.one (.sl (.sl AA) X),.one (.CZ g [⟨.i64,i⟩])] (.one (.bool c)):=by
 refine AJ Tryz.func124 fun E f=>?_
 conv=>cbv
 obtain⟨l,a⟩:=xI (Hl p 0 X);refine cLx f (bM j a) ?_;conv=>cbv
 intro k d;conv=>cbv
 exact AD ⟨⟨rfl,congrArg _ (by rw[h,d,a];exact (Wc p X 0).symm),trivial⟩,trivial⟩
theorem gI {s:Nat} (h:Ae R u) (Q:T=tw u) (hA:A=em u x) (hx:El u s x) (hs:s<=60000000000000) {tn:Nat} (W:tn=T.length):CF 122 [.agg (AR T A)] (.agg [.own (.sl AA) T tn,.sl AA A]):=by
 have a2:T.length=u.length:=by rw[Q,Bb]
 have a5:=h.ht;refine AJ Tryz.func122 fun E P=>?_
 conv=>cbv
 refine AB (r:= .one (.sl AA A)) P (KA hA (hx.Bh hs) (by rw[hx.len];exact Gp h.ht)) ?_;try conv=>cbv
 intro Y v;have a1:=v.eq;have f12:=v.le;conv=>cbv
 refine .inr ?_
 obtain⟨J0,n⟩:∃J:List AV->List AL->Nat->Prop,J=fun vs M k=>(∃(L i:Int),vs=[.one (.Ab 2 0 0),.one (.Ab 3 0 0),.one (.sl (.sl AA) T),.one (.int .i64 L),.one (.int .i64 i)]/\M=[.var 0 [.nil,.nil],.var 0 [.nil,.sl AA A],.dead 0]/\(CT L T.length/\AO i 0)/\k=T.length)\/
  (∃(o:List LR) (mm i':Nat) (L i:Int),vs=[.one (.Ab 2 0 0),.one (.Ab 3 0 0),.one (.sl (.sl AA) T),.one (.int .i64 L),.one (.int .i64 i)]/\M=[.var 0 [.nil,.nil],.var 0 [.AN (.sl AA) 22 0 0 mm,.sl AA A],.arr 0 (.sl AA) o]/\(CT L T.length/\AO i i'/\i'<=T.length/\mm=o.length)/\o=T.take i'/\k=T.length-i'):=⟨_,rfl⟩
 refine⟨[],[2,3,11,12,13],[2,3,22],J0,⟨T.length,by rw[n];exact .inl ⟨Y,0,rfl,rfl,⟨v,Al 0⟩,rfl⟩⟩,?_⟩;intro vs M a8 Z;rw[n] at Z;rcases Z with⟨L,i,rfl,rfl,⟨G,hi⟩,U⟩ |⟨o,mm,i',L,i,rfl,rfl,⟨G,hi,a6,I⟩,hinv,U⟩
 ·conv=>cbv
  have eL:=G.eq;have ei:=hi.eq;obtain⟨i',S⟩:=xN 0;intro F f;conv=>cbv
  cases F <;> conv=>cbv
  ·have B:=AW f;exact AD ⟨⟨rfl,.inr (.inr ⟨_,C5 (List.eq_nil_of_length_eq_zero (by omega)) (by omega)⟩),rfl,trivial⟩,trivial⟩
  have B:=AY f;refine .inr ?_;obtain⟨d,a⟩:=AK (l:=T) (i:=i') (by omega);refine⟨d,fun _=>⟨by omega,by rw[show (i).toNat=i' by omega];exact a⟩,?_⟩;try conv=>cbv
  obtain⟨y,w,j⟩:=Hk Q a;have z:y∈u:=List.mem_reverse.1 (List.mem_of_getElem? j);refine AB (r:= .one (.sl AA d)) P (KA w ((h.tb y z).Bh h.hR) (by rw[Ik h.red _ y j];exact Gp)) ?_;try conv=>cbv
  refine⟨[d],fun _=>⟨rfl,by decide,rfl,⟨rfl,by first | exact t1 | exact t2 | exact t4 | simp[Ao,BA,cells],trivial⟩⟩,.inr ?_⟩;try conv=>cbv
  refine .inl ⟨[d],fun _=>⟨rfl,by show (1)*24<=140737488355328;(try simp only[List.length_take,List.length_drop]);omega⟩,?_⟩;intro n22 N;conv=>cbv
  refine g2 rfl ?_;intro n24 O;conv=>cbv
  refine AI ?_;refine⟨T.length-(i'+1),?_,?_⟩
  ·omega
  rw[n];exact .inr ⟨[d],n22,i'+1,L,n24,rfl,rfl,⟨G,⟨by omega⟩,by omega,N⟩,by rw[Cg a,S];rfl,rfl⟩
 conv=>cbv
 have eL:=G.eq;have ei:=hi.eq;intro F f;conv=>cbv
 cases F <;> conv=>cbv
 ·have B:=AW f;exact AD ⟨⟨rfl,.inr (.inl ⟨_,_,by decide,rfl,rfl,I,rfl,C5 (by rw[hinv,show i'=T.length by omega,List.take_length]) (by rw[W,hinv,show i'=T.length by omega,List.take_length])⟩),rfl,trivial⟩,trivial⟩
 have B:=AY f;refine .inr ?_;obtain⟨d,a⟩:=AK (l:=T) (i:=i') (by omega);refine⟨d,fun _=>⟨by omega,by rw[show (i).toNat=i' by omega];exact a⟩,?_⟩;try conv=>cbv
 obtain⟨y,w,j⟩:=Hk Q a;have z:y∈u:=List.mem_reverse.1 (List.mem_of_getElem? j);refine AB (r:= .one (.sl AA d)) P (KA w ((h.tb y z).Bh h.hR) (by rw[Ik h.red _ y j];exact Gp)) ?_;try conv=>cbv
 refine⟨[d],fun _=>⟨rfl,by decide,rfl,⟨rfl,by first | exact t1 | exact t2 | exact t4 | simp[Ao,BA,cells],trivial⟩⟩,.inr ?_⟩;try conv=>cbv
 have a7:o.length<=T.length:=by rw[hinv,List.length_take];omega
 refine .inl ⟨[d],fun _=>⟨rfl,I,rfl,by show (o.length+1)*24<=140737488355328;(try simp only[List.length_take,List.length_drop]);omega⟩,?_⟩;intro (D:List (el (.sl AA))) n22 p;have H:D=(o:List (el (.sl AA)))++([d]:List (el (.sl AA))):=p.1;have K:n22=List.length (α:=(el (.sl AA))) D:=p.2;conv=>cbv
 refine g2 rfl ?_;intro n24 O;conv=>cbv
 refine AI ?_;refine⟨T.length-(i'+1),?_,?_⟩
 ·omega
 rw[n];exact .inr ⟨D,n22,i'+1,L,n24,rfl,rfl,⟨G,⟨by omega⟩,by omega,K⟩,by rw[H,hinv,Cg a],rfl⟩
theorem M0 {T2:List LR} {s:Nat} {wF:List (List Rat)} (h:Ae R u) (hx:El u s x) (hs:s<=60000000000000) (hl:u.length<=8) (hw:EA u.length (u.reverse,co u x)=(wF.reverse,co wF x)) (hT:T=tw u) (hA:A=em u x) (aD:T2=tw wF) (hC:C=em wF x):CF 24 [.agg (AR T A)] (.agg (AR T2 C)):=by
 have bd:T.length=u.length:=by rw[hT,Bb]
 refine AJ Tryz.func24 fun E hE=>?_
 conv=>cbv
 obtain⟨tn,an⟩:=xN T.length;refine AB hE (gI h hT hA hx hs an) ?_;conv=>cbv
 intro n9 h9;have e9:=h9.eq;conv=>cbv
 intro aO b6;conv=>cbv
 refine AI ?_;refine .inr ?_
 obtain⟨J0,a5⟩:∃J:List AV->List AL->Nat->Prop,J=fun vs M k=>∃(w:List (List Rat)) (O:List LR) (B:LR) (n j:Nat) (i:Int),vs=[.one (.Ab 1 0 0),.one (.Ab 2 0 0),.one (.Ab 3 0 0)]/\M=[.var 0 [.AN (.sl AA) 6 0 0 n,.sl AA B],.var 0 [.nil,.nil],.var 0 [.int .i64 i],.arr 0 (.sl AA) O]/\
  (AO (i+1) j/\n=O.length/\O=tw w/\B=em w x)/\(AT w/\In w x/\j<=w.length/\w.length<=8)/\EA j (w.reverse,co w x)=(wF.reverse,co wF x)/\k=j:=⟨_,rfl⟩
 refine⟨[],[1,2,3],[1,2,3,6],J0,⟨u.length,by rw[a5];exact⟨u,T,A,tn,u.length,aO,rfl,rfl,⟨⟨by omega⟩,an,hT,hA⟩,⟨h.red,hx.mem,Nat.le_refl _,hl⟩,hw,rfl⟩⟩,?_⟩;intro vs M bl U;rw[a5] at U;obtain⟨w,O,B,n,j,i,rfl,rfl,⟨hi,hn,hO,hB⟩,⟨I,K,bg,D⟩,a,bh⟩:=U;conv=>cbv
 have ei:=hi.eq;obtain⟨i',bf⟩:=xN (j-1);intro aP af;conv=>cbv
 cases aP <;> conv=>cbv
 ·have aM:=EI af;exact AD ⟨⟨rfl,.inl ⟨_,rfl,by omega,congrArg _ (by rw[aD,hn,List.drop_zero,List.take_length,hO];have:=a;rw[show j=0 by omega,EA] at this;rw[tw,tw,(Prod.mk.inj this).1])⟩,congrArg _ (by rw[hC,hB];have:=a;rw[show j=0 by omega,EA] at this;rw[em,em,(Prod.mk.inj this).2]),trivial⟩,trivial⟩
 have aM:=EJ af
 obtain⟨K1,G⟩:∃J:List AV->List AL->Prop,J=fun vs M=>∃(F:List (List Rat)) (O2:List LR) (B2:LR) (n2:Nat),vs=[.one (.Ab 1 0 0),.one (.Ab 2 0 0),.one (.Ab 3 0 0)]/\M=[.var 0 [.AN (.sl AA) 6 0 0 n2,.sl AA B2],.var 0 [.nil,.nil],.var 0 [.int .i64 i],.arr 0 (.sl AA) O2]/\
  (n2=O2.length/\O2=tw F/\B2=em F x)/\(AT F/\In F x/\i'<=F.length/\F.length<=8)/\EA i' (F.reverse,co F x)=(wF.reverse,co wF x):=⟨_,rfl⟩
 refine .inl ⟨[1,2,3],[1,2,3,6],K1,?_,?_⟩
 ·intro vs M U;rw[G] at U;obtain⟨F,O2,B2,n2,rfl,rfl,⟨aH,aC,aB⟩,⟨ar,au,ak,aq⟩,ao⟩:=U;conv=>cbv
  intro aQ b7;conv=>cbv
  refine AI ?_;refine⟨i',?_,?_⟩
  ·omega
  rw[a5];exact⟨F,O2,B2,n2,i',aQ,rfl,rfl,⟨⟨by omega⟩,aH,aC,aB⟩,⟨ar,au,ak,aq⟩,ao,rfl⟩
 try conv=>cbv
 have aF:j=i'+1:=by omega
 subst aF;have H:AO i i':=⟨by omega⟩;obtain⟨ts,r⟩:∃z:List (List Rat),z=w.reverse:=⟨_,rfl⟩
 have a7:O=ts.map Aa:=by rw[hO,r];rfl
 have bk:ts.length=w.length:=by rw[r,List.length_reverse]
 have bc:O.length=ts.length:=by rw[a7,List.length_map]
 have ai:(co w x).length<=1000000:=by rw[CU K];exact Nat.le_trans (CP D) (by decide)
 have W:∀s∈ts,s.length<=1000000:=fun s hs=>by have h1:=Kk I (List.mem_reverse.1 (r ▸ hs));have h2:2^w.length<=2^8:=CP D;omega
 obtain⟨ay,f⟩:=xB (Bp i' 0 (co w x));refine AB hE (YC (xs:=co w x) hB H (by omega) ai f) ?_;conv=>cbv
 cases ay <;> conv=>cbv
 ·intro n23 b8;conv=>cbv
  refine AI ?_;refine AH ?_;rintro a24 b3 ⟨aU,aV⟩;conv=>cbv
  rintro L a1 ⟨b0,aW⟩;conv=>cbv
  have Q:((O).drop L).take a1=(ts.drop (i'+1)).map Aa:=by rw[a7,show L=i'+1 by omega,List.take_of_length_le (by simp;omega),List.map_drop]
  obtain⟨a2,S⟩:=xB ((((O).drop L).take a1).any (Kb i'));have d:a2=(ts.drop (i'+1)).any (Bp i' 0):=by rw[S,Q];exact X7 _ _
  refine .inr (.inl ⟨[.one (.sl (.sl AA) (((O).drop L).take a1)),.one (.CZ 125 [⟨.i64,i⟩])],.one (.bool a2),fun _=>⟨⟨_,rfl,by omega,rfl⟩,⟨[⟨.i64,i⟩],t1,rfl⟩,trivial⟩,fun _=>E6 hE (I7 rfl (bG (p:=Kb i') (j8 Q H (by omega) fun s hs=>W s (List.mem_of_mem_drop hs)) S)),?_⟩);try conv=>cbv
  cases a2 <;> conv=>cbv
  ·obtain⟨ae,N⟩:=xR (Aa (BR i' 0 (co w x)));refine AB hE (ag (xs:=co w x) hB H (by omega) ai N) ?_;conv=>cbv
   intro n34 b9;conv=>cbv
   refine AI ?_;refine .inr ?_
   obtain⟨J1,a6⟩:∃J:List AV->List AL->Nat->Prop,J=fun vs M k=>∃(o:List LR) (k2:Nat) (j2:Int),vs=[.one (.Ab 1 0 0),.one (.Ab 2 0 0),.one (.Ab 3 0 0),.one (.int .i64 j2)]/\M=[.var 0 [.AN (.sl AA) 6 0 0 n,.sl AA ae],.var 0 [.nil,.nil],.var 0 [.int .i64 i],.arr 0 (.sl AA) o]/\
    (AO j2 k2/\i'<k2/\k2<=ts.length/\o.length=ts.length)/\(∀m,o[m]? =(ts[m]?).map fun s=>Aa (if i'<m/\m<k2 then BR i' 0 s else s))/\k=ts.length-k2:=⟨_,rfl⟩
   refine⟨[],[1,2,3,4],[1,2,3,6],J1,⟨ts.length-(i'+1),by rw[a6];exact⟨O,i'+1,n34,rfl,rfl,⟨⟨by omega⟩,by omega,by omega,by omega⟩,fun m=>by
    have aI:¬(i'<m/\m<i'+1):=by omega
    simp only[aI,if_false];rw[a7,List.getElem?_map],rfl⟩⟩,?_⟩
   intro vs M bm U;rw[a6] at U;obtain⟨o,k2,j2,rfl,rfl,⟨aE,aj,aZ,aJ⟩,hq,bj⟩:=U;conv=>cbv
   have b5:=aE.eq;intro n38 aA;have b4:=aA.eq;conv=>cbv
   intro n39 ah;conv=>cbv
   cases n39 <;> conv=>cbv
   ·have aN:=AW ah;intro aR bb;conv=>cbv
    refine AI ?_;obtain⟨ax,P⟩:=xV (o.take i'++o.drop (i'+1));refine .inr (.inr (.inr (.inr (.inr ⟨[.one (.int .i64 i),.one (.int .i64 aR)],ax,fun _=>⟨⟨rfl,by omega⟩,rfl,t2⟩,fun _=>Sv hE (by rw[P];exact gF (m:=i') (by omega) (by omega) (by omega)),?_⟩))));intro aS al;conv=>cbv
    rw[G]
    have v:¬(Bp i' 0 (co w x)||(ts.drop (i'+1)).any (Bp i' 0))=true:=by
     rw[<-f,<-d];exact Bool.false_ne_true
    obtain⟨w1,e1,aa,aG⟩:=Sp I K (by omega:i'<w.length);have e2:=e1;unfold Gw at e2;rw[<-r,if_neg v] at e2;have e3:=Prod.mk.inj e2;rw[show k2=ts.length by omega] at hq;refine⟨w1,_,ae,aS,rfl,rfl,⟨al,?_,?_⟩,⟨aa.red,aa.mem,aG,Nat.le_trans aa.len D⟩,by rw[EA,e1] at a;exact a⟩
    ·rw[P,XU (by omega) hq,e3.1];rfl
    rw[N,em,<-e3.2]
   have aN:=AY ah;refine .inr ?_;refine AH ?_;intro aL aX;conv=>cbv
   obtain⟨ad,Z⟩:=AK (l:=o) (i:=aL) (by omega);refine⟨ad,fun _=>Z,?_⟩;try conv=>cbv
   obtain⟨s7,a8⟩:=AK (l:=ts) (i:=k2) (by omega);have aK:o[k2]? =some ad:=by rw[<-Z];congr 1;omega
   have az:ad=Aa s7:=by have h1:=hq k2;rw[a8,aK,Option.map_some,if_neg (by omega)] at h1;exact Option.some.inj h1
   obtain⟨aw,Y⟩:=xR (Aa (BR i' 0 s7));refine AB hE (ag az H (by omega) (W s7 (List.mem_of_getElem? a8)) Y) ?_;conv=>cbv
   refine AH ?_;intro av aY;conv=>cbv
   refine⟨aw,fun _=>⟨by show _<List.length (α:=(el (.sl AA))) o;(first | omega | (simp;omega)),by first | exact t1 | exact t2 | exact t4 | simp[Ao,BA,cells]⟩,?_⟩;intro (ab:List (el (.sl AA))) (y:ab=List.set (α:=(el (.sl AA))) o av aw);have aT:ab.length=o.length:=by rw[y,List.length_set]
   conv=>cbv
   refine g2 rfl ?_;intro n41 ba;conv=>cbv
   refine AI ?_;refine⟨ts.length-(k2+1),?_,?_⟩
   ·omega
   rw[a6];exact⟨ab,k2+1,n41,rfl,rfl,⟨⟨by omega⟩,by omega,by omega,by rw[y,List.length_set];exact aJ⟩,by rw[y,show av=k2 by omega];exact XV hq a8 aj Y,rfl⟩
  rw[G]
  have v:(Bp i' 0 (co w x)||(ts.drop (i'+1)).any (Bp i' 0))=true:=by
   first | (rw[<-f];rfl) | (rw[<-d,Bool.or_true])
  have e1:Gw i' (w.reverse,co w x)=(w.reverse,co w x):=by
   unfold Gw;rw[<-r,if_pos v]
  exact⟨w,O,B,n,rfl,rfl,⟨hn,hO,hB⟩,⟨I,K,by omega,D⟩,by rw[EA,e1] at a;exact a⟩
 rw[G]
 have v:(Bp i' 0 (co w x)||(ts.drop (i'+1)).any (Bp i' 0))=true:=by
  first | (rw[<-f];rfl) | (rw[<-d,Bool.or_true])
 have e1:Gw i' (w.reverse,co w x)=(w.reverse,co w x):=by
  unfold Gw;rw[<-r,if_pos v]
 exact⟨w,O,B,n,rfl,rfl,⟨hn,hO,hB⟩,⟨I,K,by omega,D⟩,by rw[EA,e1] at a;exact a⟩
end Go.Abs
namespace Go.Abs
def K8 (t t':List (List Rat)) (u:List (List Rat)):Prop:=u<:+t\/u<:+t'
theorem Bd.sub {k:Nat} {a b:List Rat} (h:Bd k a) (hb:∀q∈b,q∈a):Bd k b:=by
 obtain⟨D,f,j,l,h3⟩:=h;exact⟨D,f,j,fun q d=>l q (hb q d),fun q d=>h3 q (hb q d)⟩
theorem gx {P:List (List Rat)->Prop} (I:DU P 1540) {V:List Re} (hV:∀{u},P u->∀v∈Aq u,v∈V) (h3:V.length<=3) {S:Nat} (a:Rm<=S) (f:S<=Sm):Cj (Tf P) Rm Cm S:=
 {Tf.gp I hV h3 (by decide +kernel:1540+CC 1 1540 1 1540<=Rm) a U8 (fun h d=>(WK h d).mono (by omega)) (Nat.le_trans (by omega) XX) with IH:=fun {u} hu=>(WJ _ (Nat.le_trans (hu.len I hV) h3)).mono (by omega)}
section
variable {V:List Re} {ns:List Nu} {t t':List (List Rat)} {x:Re}
theorem oB (d:V.length<=3) (a:∀n∈ns,BP V n) (ht:Tf (PN ns) t) (k:FT t x t'):DU (K8 t t') 1540/\∀{u},K8 t t' u->∀v∈Aq u,v∈V:=by
 have I:=PN.EL d a;have B:=ht.red I;have f:TB 1540 t:=(ht.Sh I (fun o=>PN.Aq a o) d).2.mono (by decide +kernel)
 have j:TB 1540 t':=fun s hs=>by
  obtain⟨s2,w,y⟩:=k.E2 s hs;exact (f s2 w).sub y
 have p:∀v∈Aq t,v∈V:=ht.Aq I (fun o=>PN.Aq a o)
 refine⟨⟨fun {u} h=>h.elim (fun z=>Il z B) fun z=>Il z k.red,fun {u} h s hs=>h.elim (fun z=>f s (z.subset hs)) fun z=>j s (z.subset hs),fun {r u} h=>h.imp (fun z=>(List.suffix_cons r u).trans z) fun z=>(List.suffix_cons r u).trans z⟩,fun {u} h v l=>?_⟩;rcases h with h | h
 ·exact p v (JX h v l)
 exact p v (k.Aq v (JX h v l))
theorem aK (a:V.length<=3) (d:∀n∈ns,BP V n) (ht:Tf (PN ns) t) (k:FT t x t'):Tf (K8 t t') t/\Tf (K8 t t') t'/\∀{S:Nat},Rm<=S->S<=Sm->Cj (Tf (K8 t t')) Rm Cm S:=by
 obtain⟨I,j⟩:=oB a d ht k;exact⟨Tf.of I (.inl (List.suffix_refl _)),Tf.of I (.inr (List.suffix_refl _)),fun f h=>gx I j a f h⟩
theorem aJ {s:Nat} (h:El t s x) (k:FT t x t'):El t' s x:=⟨k.mem,h.bd.sub fun q a=>k.cos q a⟩
end
end Go.Abs
namespace Go.Abs
open Go.RowKit
variable {A:LR} {T1:List LR} {V:List Re} {b1 b2:Bool} {l1 l2:List UInt32} {ns:List Nu} {q:Rat} {u:List (List Rat)} {xs:List Rat}
theorem Q7 (X:List (el Bn)):(runN (X.take 24)).1.length<=24:=by
 have:=SN (X.take 24) ([],0);have a:(X.take 24).length<=24:=by rw[List.length_take];omega
 show ((X.take 24).foldl HU ([],0)).1.length<=24
 rw[this];simpa using a
theorem WS {O:List (el At)} {t:List (List Rat)} {i:Nat} {x:el At} (f:O=ns.map (fun n=>nm (t,n.2))) (a:O[i]? =some x):∃n,ns[i]? =some n/\x.1=tw t/\x.2=em t n.2:=by
 rw[f,List.getElem?_map] at a;cases d:ns[i]? with
 | none=>rw[d] at a;simp at a
 | some n=>
  rw[d] at a;have e:nm (t,n.2)=x:=Option.some.inj a;exact⟨n,rfl,by rw[<-e];rfl,by rw[<-e];rfl⟩
theorem fz {x:Re} (hu:AT u) (f:In u x) (h:∀z∈(co u x).drop 1,z=0):∃r,x=Re.ofRat r:=by
 have a:=CU f;have n:=Nat.two_pow_pos u.length;cases d:co u x with
 | nil=>rw[d] at a;simp at a;omega
 | cons r l=>
  rw[d] at a h
  have j:l=List.replicate (2^u.length-1) 0:=by
   rw[List.length_cons] at a;exact List.eq_replicate_iff.2 ⟨by omega,fun z k=>h z k⟩
  refine⟨r,?_⟩;rw[<-Dr f,<-Dr (EK r u),Hh r hu,d,j]
theorem gB (d:l1.length<=1000000) (f:l2.length<=1000000):CF 136 [.agg (BS b1 l1 b2 l2)] (.agg (BS b1 l1 b2 l2)):=by
 refine AJ Tryz.func136 fun E a=>?_
 conv=>cbv
 refine AB a (Hz rfl (by omega)) ?_;conv=>cbv
 refine AB a (Hz rfl (by omega)) ?_;conv=>cbv
 refine BG ?_;exact AD ⟨⟨rfl,rfl,rfl,rfl,rfl,trivial⟩,trivial⟩
theorem cC (f:A=Aa xs) (n:¬∀q∈xs.drop 1,q=0):CF 135 [.one (.sl AA A)] (.AG [(true,[.bool false,.sl .u32 [],.bool false,.sl .u32 []]),(false,[.bool false])]):=by
 refine AJ Tryz.func135 fun E h=>?_
 conv=>cbv
 rintro z ⟨w,f5⟩;conv=>cbv
 intro s d;conv=>cbv
 cases s <;> conv=>cbv
 ·have o:=Ah d;intro y l;conv=>cbv
  refine AH ?_;rintro a9 v ⟨j,k⟩;conv=>cbv
  intro p a;conv=>cbv
  refine AB (r:= .one (.bool false)) h (NK (X:=p) (xs:=xs.drop 1) (by rw[a,show a9=1 by omega,List.take_of_length_le (by omega),f];exact (List.map_drop ..).symm) (decide_eq_false n).symm) ?_;try conv=>cbv
  refine Bc ?_;conv=>cbv
  exact AD ⟨⟨rfl,rfl,Bj,rfl,Bj,trivial⟩,t2,trivial⟩
 have o:=Aj d;exact AD ⟨⟨rfl,rfl,Bj,rfl,Bj,trivial⟩,t2,trivial⟩
theorem bV (d:A=Aa xs) (f:¬∀q∈xs.drop 1,q=0):CF 29 [.agg (AR T1 A)] (.AG [(true,[.bool false,.sl .u32 [],.bool false,.sl .u32 []]),(false,[.bool false])]):=by
 refine AJ Tryz.func29 fun E a=>?_
 conv=>cbv
 refine AB a (cC d f) ?_;conv=>cbv
 refine AB a (gB (by decide) (by decide)) ?_;conv=>cbv
 exact AD ⟨⟨rfl,rfl,rfl,rfl,rfl,trivial⟩,t2,trivial⟩
theorem cm (f:A=Aa xs) (n:¬∀q∈xs.drop 1,q=0):CF 137 [.one (.sl AA A)] (.AG [(true,[.bool false,.sl .u32 [],.bool false,.sl .u32 []]),(false,[.bool false])]):=by
 refine AJ Tryz.func137 fun E h=>?_
 conv=>cbv
 rintro z ⟨w,f5⟩;conv=>cbv
 intro s d;conv=>cbv
 cases s <;> conv=>cbv
 ·have o:=Ah d;intro y l;conv=>cbv
  refine AH ?_;rintro a9 v ⟨j,k⟩;conv=>cbv
  intro p a;conv=>cbv
  refine AB (r:= .one (.bool false)) h (NF (X:=p) (xs:=xs.drop 1) (by rw[a,show a9=1 by omega,List.take_of_length_le (by omega),f];exact (List.map_drop ..).symm) (decide_eq_false n).symm) ?_;try conv=>cbv
  refine Bc ?_;conv=>cbv
  exact AD ⟨⟨rfl,rfl,Bj,rfl,Bj,trivial⟩,t2,trivial⟩
 have o:=Aj d;exact AD ⟨⟨rfl,rfl,Bj,rfl,Bj,trivial⟩,t2,trivial⟩
theorem cq (a:A=Aa xs) (f:¬∀q∈xs.drop 1,q=0):CF 30 [.agg (AR T1 A)] (.AG [(true,[.bool false,.sl .u32 [],.bool false,.sl .u32 []]),(false,[.bool false])]):=by
 refine AJ Tryz.func30 fun E d=>?_
 conv=>cbv
 refine AB d (cm a f) ?_;conv=>cbv
 exact AD ⟨⟨rfl,rfl,rfl,rfl,rfl,trivial⟩,t2,trivial⟩
theorem cn (h:AT u) (f:A=em u (Re.ofRat q)) (o:BH q b1 l1 b2 l2):CF 137 [.one (.sl AA A)] (.AG [(true,(BS b1 l1 b2 l2)),(false,[.bool true])]):=by
 rw[V5 h] at f;have w:A.length=1+(2^u.length-1):=by rw[f];simp;omega
 have j:A[0]? =some ((b1,l1),(b2,l2)):=by rw[f,<-o.rp];rfl
 refine AJ Tryz.func137 fun E y=>?_
 conv=>cbv
 rintro J ⟨H,f5⟩;conv=>cbv
 intro F s;conv=>cbv
 cases F <;> conv=>cbv
 ·have v:=Ah s;intro I B;conv=>cbv
  refine AH ?_;rintro a9 G ⟨k,z⟩;conv=>cbv
  intro D n;conv=>cbv
  refine AB (r:= .one (.bool true)) y (NF (X:=D) (xs:=List.replicate (2^u.length-1) 0) (by rw[n,k,List.take_of_length_le (by omega),f];rfl) (decide_eq_true (fun q o=>List.eq_of_mem_replicate o)).symm) ?_;try conv=>cbv
  refine AU ?_;conv=>cbv
  obtain⟨p,d⟩:=AK (l:=A) (i:=0) (by omega);refine⟨p,fun _=>⟨by omega,d⟩,?_⟩;try conv=>cbv
  have a:=Option.some.inj (d.symm.trans j);exact AD ⟨⟨rfl,congrArg _ (by rw[a]),congrArg _ (by rw[a]),congrArg _ (by rw[a]),congrArg _ (by rw[a]),trivial⟩,t2,trivial⟩
 have v:=Aj s;exact absurd v (by omega)
theorem cr (h:AT u) (a:A=em u (Re.ofRat q)) (f:BH q b1 l1 b2 l2):CF 30 [.agg (AR T1 A)] (.AG [(true,(BS b1 l1 b2 l2)),(false,[.bool true])]):=by
 refine AJ Tryz.func30 fun E d=>?_
 conv=>cbv
 refine AB d (cn h a f) ?_;conv=>cbv
 exact AD ⟨⟨rfl,rfl,rfl,rfl,rfl,trivial⟩,t2,trivial⟩
theorem TK {c:Int} (d:c=(T1.length:Int)):CF 31 [.agg (AR T1 A)] (.one (.int .i64 c)):=by
 refine AJ Tryz.func31 fun E f=>?_
 conv=>cbv
 rintro h ⟨a,f5⟩;conv=>cbv
 exact AD ⟨⟨rfl,congrArg _ (by rw[d];exact a.symm),trivial⟩,trivial⟩
theorem o6 {X:List (el Bn)} (h:ns=(runN (X.take 24)).1) (p:ns=[]):CF 4 [.one (.sl Bn X)] (.one (.bool true)):=by
 have l:=Q7 X;rw[<-h] at l;obtain⟨d,a⟩:∃z:List (el At),z=ns.map nm:=⟨_,rfl⟩
 have n:d.length=ns.length:=by rw[a,List.length_map]
 have s:ns.length=0:=by rw[p];rfl
 refine AJ Tryz.func4 fun E k=>?_
 conv=>cbv
 refine AB (r:= .one (.sl At d)) k (LF (by rw[a,h])) ?_;conv=>cbv
 refine AB k IC ?_;conv=>cbv
 refine AU ?_;conv=>cbv
 rintro n20 ⟨o,f20⟩;conv=>cbv
 intro n21 f;conv=>cbv
 cases n21 <;> conv=>cbv
 ·have j:=Ah f;exact absurd j (by omega)
 have j:=Aj f;refine AB k IC ?_;conv=>cbv
 exact AD ⟨t2,trivial⟩
theorem bQ {X:List (el Bn)} (ab:ns=(runN (X.take 24)).1) (h0:ns≠[]) (d:V.length<=3) (a:∀n∈ns,BP V n) {r:Rat} (hr:∀q,ns[ns.length-1]? =some q->q.2=Re.ofRat r):CF 4 [.one (.sl Bn X)] (.one (.bool true)):=by
 have aq:=Q7 X;rw[<-ab] at aq;obtain⟨a1,h⟩:∃z:List (el At),z=ns.map nm:=⟨_,rfl⟩
 have aB:a1.length=ns.length:=by rw[h,List.length_map]
 have aC:0<ns.length:=List.length_pos_iff.2 h0;have Z:=Ga d a (S:=Rm) (by decide);have J:∀q∈ns,Tf (PN ns) q.1:=fun q Y=>EH d a Y
 have aa:∀q∈ns,El q.1 Rm q.2:=fun q Y=>((a q Y).el d).mono (by decide)
 obtain⟨t,ht⟩:∃z,z=Bf ns:=⟨_,rfl⟩
 have B:Tf (PN ns) t:=ht ▸ Z.toGam.Bf J;have D:=B.red (PN.EL d a);obtain⟨O,hO⟩:∃z:List (el At),z=ns.map (fun q=>nm (t,q.2)):=⟨_,rfl⟩
 have aQ:O.length=ns.length:=by rw[hO,List.length_map]
 refine AJ Tryz.func4 fun E j=>?_
 conv=>cbv
 refine AB (r:= .one (.sl At a1)) j (LF (by rw[h,ab])) ?_;conv=>cbv
 refine AB j IC ?_;conv=>cbv
 refine AU ?_;conv=>cbv
 rintro n20 ⟨aF,f20⟩;conv=>cbv
 intro n21 a5;conv=>cbv
 cases n21 <;> conv=>cbv
 ·have ag:=Ah a5;refine AB j (M7 h (fun n hn=>⟨(a n hn).cos,(a n hn).E2⟩)) ?_;conv=>cbv
  refine AU ?_;conv=>cbv
  refine AB (r:= .AG [(false,[.sl At O]),(false,[.int .i64 0])]) j (Pe Z J h aa (by omega) (by rw[hO,ht])) ?_;conv=>cbv
  refine AU ?_;conv=>cbv
  rintro n38 ⟨aG,f38⟩;conv=>cbv
  intro n39 aO;conv=>cbv
  refine AI ?_;obtain⟨G,L⟩:=AK (l:=O) (i:=(n39).toNat) (by omega);refine⟨G,fun _=>⟨by omega,L⟩,?_⟩;try conv=>cbv
  obtain⟨q,Y,v,f⟩:=WS hO L;have Q:=List.mem_of_getElem? Y;have ar:ns[ns.length-1]? =some q:=by rw[<-Y];congr 1;omega
  have o:El t (Rm+Cm) q.2:=Z.toGam.Bi (J q Q) B (by rw[ht];exact Lj Z.toGam J q Q) (aa q Q);obtain⟨t2,hw,hk⟩:∃t2,EA t.length (t.reverse,co t q.2)=(t2.reverse,co t2 q.2)/\FT t q.2 t2:=Mm D o.mem (Nat.le_refl _)
  obtain⟨T2,I⟩:=DE (tw t2);obtain⟨H,y⟩:=Bo (em t2 q.2);obtain⟨k1,k2,kG⟩:=aK d a B hk;have kS:=kG (S:=Rm+Cm) (by decide) (by decide);have e2:=aJ o hk;have aT:t.length<=3:=Nat.le_trans (B.len (PN.EL d a) (fun hp=>PN.Aq a hp)) d;have af:=e2.Bh (by decide);refine AB j (M0 (Z.toGam.Ag B) o (by decide) (by omega) hw v f I y) ?_;conv=>cbv
  refine AB j (ND D o.mem (by omega) hw v f I y) ?_;conv=>cbv
  refine BG ?_;refine AB j (To kS k2 I y e2) ?_;conv=>cbv
  refine AU ?_;conv=>cbv
  rintro n52 ⟨aH,f52⟩;conv=>cbv
  rintro aV ⟨aI,f55⟩;conv=>cbv
  intro av a6;conv=>cbv
  cases av <;> conv=>cbv
  ·have ah:=Co a6;rintro n61 ⟨aL,f61⟩;conv=>cbv
   rintro aW ⟨aM,f64⟩;conv=>cbv
   intro aw a7;conv=>cbv
   cases aw <;> conv=>cbv
   ·have ai:=Co a7;refine AB j (Pg kS k1 k2 v I f y o e2 (kG (S:=300000000) (by decide) (by decide)) (by decide) (c:=true) ⟨fun _=>rfl,fun _=>rfl⟩) ?_;conv=>cbv
    refine AU ?_;conv=>cbv
    rintro ax ⟨aN,f75⟩;conv=>cbv
    refine .inr ?_;obtain⟨J0,P⟩:=xJ fun vs bl k=>∃(i':Nat) (i:Int),vs=[.one (.Ab 6 0 0),.one (.Ab 7 0 0),.one (.Ab 8 0 0),.one (.int .i64 ax),.one (.int .i64 i)]/\bl=[.var 0 [.sl (.sl AA) G.1,.sl AA G.2],.var 0 [.sl (.sl AA) T2,.sl AA H],.var 0 [.sl (.sl AA) T2,.sl AA H]]/\(AO i i'/\i'<=H.length)/\k=H.length-i'
    refine⟨[],[6,7,8,75,76],[6,7,8],J0,⟨H.length-0,by rw[P];exact⟨0,0,rfl,rfl,⟨Al 0,Nat.zero_le _⟩,rfl⟩⟩,?_⟩;intro vs bl aU hj;rw[P] at hj;obtain⟨i',i,rfl,rfl,⟨hi,aR⟩,aS⟩:=hj;conv=>cbv
    have ei:=hi.eq;intro ay a8;conv=>cbv
    cases ay <;> conv=>cbv
    ·have au:=AW a8;obtain⟨gb,gl,gc,gm,hg⟩:=Be r;have ae:=hr q ar;have w:=f;rw[ae] at w;have W:Bu r:=(o.Bh (by decide)) r (by rw[ae,Hh r D];exact List.mem_cons_self);refine AB j (TL D w hg W) ?_;conv=>cbv
     refine AB j (cr D w hg) ?_;conv=>cbv
     obtain⟨aE,U⟩:=xI ((G.1.length:Int));refine AB j (TK U) ?_;conv=>cbv
     rintro aj ⟨a2,f106⟩;conv=>cbv
     have aA:aj=(G.1.length:Int):=a2;intro ak K;conv=>cbv
     cases ak <;> conv=>cbv
     ·have N:=Ah K;exact absurd (by omega) N
     have N:=Aj K;intro aD s;(have s:=s.trans (show _=true by simp));subst s;conv=>cbv
     refine AU ?_;conv=>cbv
     refine AB j (LI hg hg W W (Ng r)) ?_;conv=>cbv
     refine Bc ?_;conv=>cbv
     refine BG ?_;exact AD ⟨Go.Abs.t2,trivial⟩
    have au:=AY a8;refine .inr ?_;obtain⟨al,F⟩:=AK (l:=H) (i:=i') (by omega);refine⟨al,fun _=>⟨by omega,by rw[show (i).toNat=i' by omega];exact F⟩,?_⟩;try conv=>cbv
    obtain⟨an,M⟩:=AK (l:=H) (i:=i') (by omega);refine⟨an,fun _=>⟨by omega,by rw[show (i).toNat=i' by omega];exact M⟩,?_⟩;try conv=>cbv
    have ao:an=al:=Option.some.inj (M.symm.trans F);obtain⟨p,hp,_,ad⟩:=Gc (show H=Aa (co t2 q.2) from y) af F;refine AB (r:= .one (.int .i64 0)) j (LI hp (by rw[ao];exact hp) ad ad (Ng p)) ?_;try conv=>cbv
    refine AU ?_;conv=>cbv
    refine BG ?_;intro az aP;conv=>cbv
    refine AI ?_;refine⟨H.length-(i'+1),?_,?_⟩
    ·omega
    rw[P];exact⟨i'+1,az,rfl,rfl,⟨⟨by omega⟩,by omega⟩,rfl⟩
   have ai:=Cp a7;exact absurd (by omega) ai
  have ah:=Cp a6;exact absurd (by omega) ah
 have ag:=Aj a5;exact absurd ag (by omega)
theorem bP {X:List (el Bn)} (ad:ns=(runN (X.take 24)).1) (h0:ns≠[]) (f:V.length<=3) (a:∀n∈ns,BP V n) (hr:∀q,ns[ns.length-1]? =some q->∀r,q.2≠Re.ofRat r):CF 4 [.one (.sl Bn X)] (.one (.bool true)):=by
 have av:=Q7 X;rw[<-ad] at av;obtain⟨a1,o⟩:∃z:List (el At),z=ns.map nm:=⟨_,rfl⟩
 have aF:a1.length=ns.length:=by rw[o,List.length_map]
 have aG:0<ns.length:=List.length_pos_iff.2 h0;have G1:=Ga f a (S:=Rm) (by decide);have I:∀q∈ns,Tf (PN ns) q.1:=fun q Z=>EH f a Z
 have ab:∀q∈ns,El q.1 Rm q.2:=fun q Z=>((a q Z).el f).mono (by decide)
 obtain⟨t,ht⟩:∃z,z=Bf ns:=⟨_,rfl⟩
 have D:Tf (PN ns) t:=ht ▸ G1.toGam.Bf I;have Y:=D.red (PN.EL f a);obtain⟨O,hO⟩:∃z:List (el At),z=ns.map (fun q=>nm (t,q.2)):=⟨_,rfl⟩
 have aU:O.length=ns.length:=by rw[hO,List.length_map]
 refine AJ Tryz.func4 fun E v=>?_
 conv=>cbv
 refine AB (r:= .one (.sl At a1)) v (LF (by rw[o,ad])) ?_;conv=>cbv
 refine AB v IC ?_;conv=>cbv
 refine AU ?_;conv=>cbv
 rintro n20 ⟨aL,f20⟩;conv=>cbv
 intro n21 a6;conv=>cbv
 cases n21 <;> conv=>cbv
 ·have ah:=Ah a6;refine AB v (M7 o (fun n hn=>⟨(a n hn).cos,(a n hn).E2⟩)) ?_;conv=>cbv
  refine AU ?_;conv=>cbv
  refine AB (r:= .AG [(false,[.sl At O]),(false,[.int .i64 0])]) v (Pe G1 I o ab (by omega) (by rw[hO,ht])) ?_;conv=>cbv
  refine AU ?_;conv=>cbv
  rintro n38 ⟨aM,f38⟩;conv=>cbv
  intro n39 aS;conv=>cbv
  refine AI ?_;obtain⟨j,L⟩:=AK (l:=O) (i:=(n39).toNat) (by omega);refine⟨j,fun _=>⟨by omega,L⟩,?_⟩;try conv=>cbv
  obtain⟨q,Z,y,d⟩:=WS hO L;have U:=List.mem_of_getElem? Z;have aw:ns[ns.length-1]? =some q:=by rw[<-Z];congr 1;omega
  have s:El t (Rm+Cm) q.2:=G1.toGam.Bi (I q U) D (by rw[ht];exact Lj G1.toGam I q U) (ab q U);obtain⟨t2,hw,hk⟩:∃t2,EA t.length (t.reverse,co t q.2)=(t2.reverse,co t2 q.2)/\FT t q.2 t2:=Mm Y s.mem (Nat.le_refl _)
  obtain⟨T2,H⟩:=DE (tw t2);obtain⟨G,B⟩:=Bo (em t2 q.2);obtain⟨k1,k2,kG⟩:=aK f a D hk;have kS:=kG (S:=Rm+Cm) (by decide) (by decide);have e2:=aJ s hk;have aX:t.length<=3:=Nat.le_trans (D.len (PN.EL f a) (fun hp=>PN.Aq a hp)) f;have ag:=e2.Bh (by decide);refine AB v (M0 (G1.toGam.Ag D) s (by decide) (by omega) hw y d H B) ?_;conv=>cbv
  refine AB v (ND Y s.mem (by omega) hw y d H B) ?_;conv=>cbv
  refine BG ?_;refine AB v (To kS k2 H B e2) ?_;conv=>cbv
  refine AU ?_;conv=>cbv
  rintro n52 ⟨aN,f52⟩;conv=>cbv
  rintro aZ ⟨aO,f55⟩;conv=>cbv
  intro ay a7;conv=>cbv
  cases ay <;> conv=>cbv
  ·have ai:=Co a7;rintro n61 ⟨aP,f61⟩;conv=>cbv
   rintro b0 ⟨aQ,f64⟩;conv=>cbv
   intro az a8;conv=>cbv
   cases az <;> conv=>cbv
   ·have aj:=Co a8;refine AB v (Pg kS k1 k2 y H d B s e2 (kG (S:=300000000) (by decide) (by decide)) (by decide) (c:=true) ⟨fun _=>rfl,fun _=>rfl⟩) ?_;conv=>cbv
    refine AU ?_;conv=>cbv
    rintro aA ⟨aR,f75⟩;conv=>cbv
    refine .inr ?_;obtain⟨J0,Q⟩:=xJ fun vs bl k=>∃(i':Nat) (i:Int),vs=[.one (.Ab 6 0 0),.one (.Ab 7 0 0),.one (.Ab 8 0 0),.one (.int .i64 aA),.one (.int .i64 i)]/\bl=[.var 0 [.sl (.sl AA) j.1,.sl AA j.2],.var 0 [.sl (.sl AA) T2,.sl AA G],.var 0 [.sl (.sl AA) T2,.sl AA G]]/\(AO i i'/\i'<=G.length)/\k=G.length-i'
    refine⟨[],[6,7,8,75,76],[6,7,8],J0,⟨G.length-0,by rw[Q];exact⟨0,0,rfl,rfl,⟨Al 0,Nat.zero_le _⟩,rfl⟩⟩,?_⟩;intro vs bl aY hj;rw[Q] at hj;obtain⟨i',i,rfl,rfl,⟨hi,aV⟩,aW⟩:=hj;conv=>cbv
    have ei:=hi.eq;intro aB aa;conv=>cbv
    cases aB <;> conv=>cbv
    ·have ax:=AW aa;have ae:¬∀z∈(co t q.2).drop 1,z=0:=fun h=>by obtain⟨r,e⟩:=fz Y s.mem h;exact hr q aw r e
     refine AB v (bV (show j.2=Aa (co t q.2) from d) ae) ?_;conv=>cbv
     refine AB v (cq (show j.2=Aa (co t q.2) from d) ae) ?_;conv=>cbv
     obtain⟨aI,W⟩:=xI ((j.1.length:Int));refine AB v (TK W) ?_;conv=>cbv
     rintro ak ⟨a2,f106⟩;conv=>cbv
     have aD:ak=(j.1.length:Int):=a2;intro al J;conv=>cbv
     cases al <;> conv=>cbv
     ·have N:=Ah J;exact absurd (by omega) N
     have N:=Aj J;intro aH w;(have w:=w.trans (show _=true by simp));subst w;conv=>cbv
     refine Bc ?_;conv=>cbv
     rintro an ⟨a5,f120⟩;conv=>cbv
     have aE:an=0:=a5;intro ao K;conv=>cbv
     cases ao <;> conv=>cbv
     ·have P:=Ah K;exact absurd (by omega) P
     have P:=Aj K;refine BG ?_;exact AD ⟨Go.Abs.t2,trivial⟩
    have ax:=AY aa;refine .inr ?_;obtain⟨aq,F⟩:=AK (l:=G) (i:=i') (by omega);refine⟨aq,fun _=>⟨by omega,by rw[show (i).toNat=i' by omega];exact F⟩,?_⟩;try conv=>cbv
    obtain⟨ar,M⟩:=AK (l:=G) (i:=i') (by omega);refine⟨ar,fun _=>⟨by omega,by rw[show (i).toNat=i' by omega];exact M⟩,?_⟩;try conv=>cbv
    have au:ar=aq:=Option.some.inj (M.symm.trans F);obtain⟨p,hp,_,af⟩:=Gc (show G=Aa (co t2 q.2) from B) ag F;refine AB (r:= .one (.int .i64 0)) v (LI hp (by rw[au];exact hp) af af (Ng p)) ?_;try conv=>cbv
    refine AU ?_;conv=>cbv
    refine BG ?_;intro aC aT;conv=>cbv
    refine AI ?_;refine⟨G.length-(i'+1),?_,?_⟩
    ·omega
    rw[Q];exact⟨i'+1,aC,rfl,rfl,⟨⟨by omega⟩,by omega⟩,rfl⟩
   have aj:=Cp a8;exact absurd (by omega) aj
  have ai:=Cp a7;exact absurd (by omega) ai
 have ah:=Aj a6;exact absurd ah (by omega)
theorem o7 {X:List (el Bn)} (d:ns=(runN (X.take 24)).1) (k:ns≠[]) (a:V.length<=3) (f:∀n∈ns,BP V n):CF 4 [.one (.sl Bn X)] (.one (.bool true)):=by
 by_cases h:∃r,∀q,ns[ns.length-1]? =some q->q.2=Re.ofRat r
 ·obtain⟨r,h⟩:=h;exact bQ d k a f h
 exact bP d k a f fun q l r e=>h ⟨r,fun o j=>by rw[<-Option.some.inj (l.symm.trans j)];exact e⟩
end Go.Abs
