/- Part 4 of a proof. Conditions: each theorem's own. -/
import Derived.Laws.Cover3
import Derived.Test.YtoonaidhfikkeaaGreatPk02
set_option linter.all false
set_option maxHeartbeats 8000000
namespace Go.Abs
open Go.RowKit
section
variable {P:Program} {E:Env} {TI:TypeId->Info}
theorem ZL (G:∀t,Cg P t (TI t)) {o:Oper} {op:BinOp} {t L:TypeId} {x y:Operand} (z:o.op= .binOp op t x y L):Sound P E TI o:=by
 intro w0 X β s a w S f h N Q A;simp only[BS,z] at h;have r:=Br S.BV x;have v:=Br S.BV y
 split at h
 ·rename_i k m k' n he g
  rw[he] at r;rw[g] at v;have i:a.eval x= .int k m:=A0 r (by simp);have j:a.eval y= .int k' n:=A0 v (by simp)
  split at h
  ·rename_i J
   obtain⟨c,B⟩:∃c,f=⟨.one c,[],[]⟩/\arith op k m n (fun d=>d=c):=by
    cases op <;> cases k <;> simp only[arith] at h ⊢ <;> first
     | (obtain⟨q,H⟩:=h _ rfl;exact⟨_,H.symm,fun _ e=>⟨by first | exact q | (rw[e];exact q),by rw[e]⟩⟩)
     | exact⟨_,(h _ rfl).symm,fun _ e=>by rw[e]⟩
   obtain⟨rfl,B⟩:=B;obtain⟨u,hu,F⟩:=PG (P:=P) (w:=w) (t:=t) J B;refine BW (u:=u) (w':=w) ?_ (A _ _ _ (S.val (Or.inr (F _))));simp only[execOp,z,i,j,Sem.run_bind,Wi,Result.andThen_ok,hu,Sem.run_pure]
  exact h.elim
 ·rename_i m n he g
  rw[he] at r;rw[g] at v;have i:a.eval x= .bool m:=A0 r (by simp);have j:a.eval y= .bool n:=A0 v (by simp);obtain⟨q,h⟩:=h;have hu:=(G t).isb q
  have D:(Op.equal t (.bool m) (.bool n)).run P w= .ok (m==n) w:=by
   have I:∀d,(Op.equalIn (d+1) t (.bool m) (.bool n)).run P w= .ok (m==n) w:=fun d=>by
    unfold Op.equalIn;simp[run_underlying hu]
   exact I 9999
  have C:∀op:BinOp,(eqGuard op t x y (.bool m) (.bool n)).run P w= .ok () w:=by
   intro op;unfold eqGuard;cases op <;> simp
  cases op <;> simp only at h
  all_goals first
   | exact h.elim
   | (obtain rfl:=h _ rfl
      refine BW (w':=w) ?_ (A _ _ _ (S.val (Or.inr rfl)));simp[execOp,z,i,j,Sem.run_bind,C,binOp,D,bne])
 ·rename_i ty l he g
  rw[he] at r;rw[g] at v;have F:=A0 r (by simp);have j:a.eval y= .slice none 0 0:=A0 v (by simp);obtain⟨q,h⟩:=h;obtain⟨base,cap,K,_,_,p⟩:=F;have i:a.eval x= .slice base l.length cap:=by simpa using K
  obtain⟨hu,_⟩:=(G t).sl q;have D:(Op.equal t (.slice base l.length cap) (.slice none 0 0)).run P w= .ok base.isNone w:=run_equal_slice_nil w t _ base l.length cap hu
  have C:∀op:BinOp,(eqGuard op t x y (.slice base l.length cap) (.slice none 0 0)).run P w= .ok () w:=by
   intro op;unfold eqGuard;cases op <;> simp
  cases op <;> simp only at h
  all_goals first
   | exact h.elim
   | (obtain rfl:=h _ rfl
      refine BW (u:= .bool base.isNone) (w':=w) ?_ (A _ _ _ (S.val (Or.inr ⟨_,rfl,fun hb=>?_⟩)))
      ·simp[execOp,z,i,j,Sem.run_bind,C,binOp,D]
      rcases p with rfl |⟨b,off,rfl,_⟩
      ·rfl
      simp at hb)
 exact h.elim
theorem Zc {o:Oper} {op:UnOp} {t:TypeId} {x:Operand} (l:o.op= .unOp op t x):Sound P E TI o:=by
 intro w0 X β s a w S f h N Q q;simp only[BS,l] at h;have i:=Br S.BV x
 split at h
 ·rename_i b he
  rw[he] at i;have g:a.eval x= .bool b:=A0 i (by simp);obtain rfl:=(h _ rfl);exact BW (u:= .bool (!b)) (w':=w) (by simp[execOp,l,g,Op.unary]) (q _ _ _ (S.val (Or.inr rfl)))
 ·rename_i k n he
  rw[he] at i;have g:a.eval x= .int k n:=A0 i (by simp)
  obtain⟨c,j⟩:∃c,f=⟨.one c,[],[]⟩/\arith .sub k 0 n (fun d=>d=c):=by
   cases k <;> simp only[arith] at h ⊢ <;> first
    | (obtain⟨p,r⟩:=h _ rfl;exact⟨_,r.symm,fun _ e=>⟨by first | exact p | (rw[e];exact p),by rw[e]⟩⟩)
    | exact⟨_,(h _ rfl).symm,fun _ e=>by rw[e]⟩
  obtain⟨rfl,j⟩:=j;obtain⟨u,hu,v⟩:=PG (P:=P) (w:=w) (t:=t) (.inl rfl) j;have m:(Op.intArith .sub k 0 n).run P w= .ok u w:=by simpa [binOp] using hu
  exact BW (u:=u) (w':=w) (by simp[execOp,l,g,Op.unary,m]) (q _ _ _ (S.val (Or.inr (v _))))
 exact h.elim
theorem ZQ (g:∀t,Cg P t (TI t)) {o:Oper} {src dst:TypeId} {x:Operand} (i:o.op= .convert src dst x):Sound P E TI o:=by
 intro w0 X β s a w S f h N Q l;simp only[BS,i] at h;obtain⟨p,h⟩:=h;have j:=Br S.BV x
 split at h
 ·rename_i k k' n m he
  rw[he] at j;have c:a.eval x= .int k' n:=A0 j (by simp);obtain rfl:=h _ rfl;obtain⟨_,_,d,_,_,_,_,hu,_⟩:=(g src).info p;have b:=(g dst).kind k m;refine BW (u:= .int k (k.wrap n)) (w':=w) ?_ (l _ _ _ (S.val (Or.inr rfl)));simp[execOp,i,c,convert,run_underlying hu,run_underlying b,Conv.intToInt]
 exact h.elim
theorem ZS (M:∀t,Cg P t (TI t)) {o:Oper} {t:TypeId} {x:Operand} {i:Nat} (B:o.op= .field t x i):Sound P E TI o:=by
 intro w0 X β s a w S f h N Q L;simp only[BS,B] at h;obtain⟨O,h⟩:=h;have C:=Br S.BV x
 split at h
 ·rename_i b n g cs z he
  split at h
  ·rename_i A
   subst h;rw[he] at C;obtain⟨arr,T,k⟩:=C;obtain⟨V,hu,hlen,l⟩:=(M t).fields O (by intro e;simp[e] at z);obtain⟨q,d,F,G,v,W,H,I,y⟩:=l i b n g z;have c:AO (Ae (cx X w β (AD s.bk))) (Dr cs b n) ((arr.toList.drop b).take n):=by rw[Hv];exact (k.drop b).take n
   have m:((arr.toList.drop b).take n).length=n:=by rw[<-c.length,A]
   refine BW (u:=valOf g ((arr.toList.drop b).take n)) (w':=w) ?_
    (L _ _ _ (S.val (R7 c (fun e=>by rw[A];exact y e))))
   have j:(part q.type arr b).run P w= .ok (valOf g ((arr.toList.drop b).take n)) w:=by
    unfold part;rw[Sem.run_bind,SU H,Result.andThen_ok,I];cases g with
    | true=>
     cases p:P.info? q.type with
     | none=>simp[p] at v
     | some U=>
      have R:U.size=n:=by simpa [p] using v
      have D:arr.extract b (b+n)=((arr.toList.drop b).take n).toArray:=by
       apply Array.ext';simp only[Array.toList_extract,List.extract_eq_take_drop];rw[show b+n-b=n by omega]
      simp[sizeOf,typeInfo,p,R,D,valOf]
    | false=>
     have:=y rfl;subst this;have J:arr.toList.drop b≠[]:=by intro e;simp[e] at m
     obtain⟨u,r,e⟩:=List.exists_cons_of_ne_nil J
     have K:arr[b]? =some u:=by
      have:=congrArg (·[0]?) e;simpa using this
     simp[K,e,valOf]
   simp[execOp,B,T,Instr.field,run_underlying hu,F,asAgg,G,j]
  exact h.elim
 exact h.elim
theorem Wn {a:Field} {b off n:Nat} {w:World} (d:(P.info? a.type).map (·.size)=some n) (g:0<n):(fieldPlace ⟨b,off,none⟩ a).run P w= .ok ⟨b,off+a.offset,none⟩ w:=by
 cases c:P.info? a.type with
 | none=>simp[c] at d
 | some f=>
  have h:f.size=n:=by simpa [c] using d
  have:¬f.size=0:=by omega
  simp[fieldPlace,sizeOf,typeInfo,c,this,Addr.add_mid]
theorem ZT (I:∀t,Cg P t (TI t)) {o:Oper} {t:TypeId} {x:Operand} {i:Nat} (G:o.op= .fieldAddr t x i):Sound P E TI o:=by
 intro w0 X β s a w S f h N Q D;simp only[BS,G] at h;obtain⟨J,h⟩:=h;have m:=Br S.BV x
 have go:∀(c n:Nat) (g:Bool) (b off:Nat),(TI t).fields[i]? =some (c,n,g)->a.eval x= .pointer (some ⟨b,off,none⟩)->(execOp a.eval o).run P w= .ok (.value (.pointer (some ⟨b,off+c,none⟩))) w:=by
  intro c n g b off l z;obtain⟨L,hu,hlen,F⟩:=(I t).fields J (by intro e;simp[e] at l);obtain⟨K,d,A,B,C,H,M,O,R⟩:=F i c n g l;subst B;simp[execOp,G,z,Instr.fieldAt,run_underlying hu,A,Instr.sureAddr,Wn C H]
 split at h
 ·rename_i c n g id v off l he
  split at h
  ·rename_i z
   subst h;rw[he] at m;have r:=A0 m (by simp);obtain⟨b,hb,p⟩:=r.2 z.symm;exact BW (go c n g b off l p) (D _ _ _ (S.val (Or.inr ⟨⟨rfl,r.1.2⟩,fun _=>⟨b,hb,rfl⟩⟩)))
  exact h.elim
 ·rename_i c n g u y off l he
  subst h;rw[he] at m;obtain⟨b,q,us,p,A,B,C⟩:=A0 m (by simp);exact BW (go c n g b (q+off) l p) (D _ _ _ (S.val (Or.inr ⟨b,q,us,by rw[Nat.add_assoc],A,B,C⟩)))
 ·rename_i c n g u id v j k l he
  split at h
  ·rename_i z
   subst h;rw[he] at m;have r:=A0 m (by simp);obtain⟨b,hb,p⟩:=r.2 z.symm;exact BW (go c n g b _ l p) (D _ _ _ (S.val (Or.inr ⟨⟨rfl,r.1.2⟩,fun _=>⟨b,hb,by rw[Nat.add_assoc]⟩⟩)))
  exact h.elim
 exact h.elim
end
end Go.Abs
namespace Go.Abs
open Go.RowKit
section
variable {P:Program} {E:Env} {TI:TypeId->Info}
theorem Rw {w:World} {b off n:Nat} {arr:Array Value} {e:TypeId} (h:w.heap[b]? =some (.cells arr e (0,0))):w.rangeAt b off ((arr.toList.drop off).take n):=by
 intro j v a
 have:arr[off+j]? =some v:=by
  rw[List.getElem?_take] at a
  split at a
  ·simpa using a
  cases a
 simp[World.cell?,h,this]
theorem Rx {w:World} {b o off n:Nat} {us:List Value} (h:w.rangeAt b o us):w.rangeAt b (o+off) ((us.drop off).take n):=by
 intro j v a;rw[Nat.add_assoc];refine h (off+j) v ?_;rw[List.getElem?_take] at a
 split at a
 ·simpa using a
 cases a
theorem run_load {t:TypeId} {i:Info} {w:World} {b o:Nat} {us:List Value} (n:Cg P t i) (p:i.known=true) (h:w.rangeAt b o us) (c:us.length=i.size):
  (Instr.loadAt t (.pointer (some ⟨b,o,none⟩))).run P w= .ok (valOf i.agg us) w:=by
 obtain⟨s,z,d,j,k,q,r,f,g,l⟩:=n.info p;cases a:i.agg with
 | true=>exact run_loadAt_mid w b o t us d h f (g.trans a) (by simp[j,k,c])
 | false=>
  have m:=l a;rw[m] at c
  match us,c with
  | [u],_=>exact Yz f (g.trans a) (show w.cell? ⟨b,o,none⟩=some u by simpa using h 0 u (by simp))
theorem ZV (G:∀t,Cg P t (TI t)) {o:Oper} {t:TypeId} {x:Operand} (I:o.op= .load t x):Sound P E TI o:=by
 intro w0 X β s a w S f h N Q K;simp only[BS,I,IP] at h;obtain⟨H,h⟩:=h;have p:=Br S.BV x;have D:(TI t).agg=false->(TI t).size=1:=by obtain⟨_,_,_,_,_,_,_,_,_,J⟩:=(G t).info H;exact J
 have go:∀(b q:Nat) (cs:List AC) (us:List Value),a.eval x= .pointer (some ⟨b,q,none⟩)->w.rangeAt b q us->AO (Ae (cx X w β (AD s.bk))) cs us->cs.length=(TI t).size->
   ∀rd,f=⟨CJ ((TI t).agg,cs),[],rd⟩->o.wp P a w N Q:=by
  intro b q cs us g B d m rd M;subst M;have:=run_load (G t) H B (d.length ▸ m);exact BW (u:=valOf (TI t).agg us) (w':=w) (by simp[execOp,I,g,this]) (K _ _ _ (S.val (R7 d (fun e=>by rw[m];exact D e))))
 split at h
 ·rename_i id v off he
  rw[he] at p;have B:=A0 p (by simp)
  split at h
  ·rename_i R cs hb
   split at h
   ·rename_i A
    obtain⟨b,arr,e,j,r,z⟩:=S.blocks id _ hb;have F:v=AN (AD s.bk) id:=by unfold AN;rw[hb];exact A.1.symm
    obtain⟨b',c,g⟩:=B.2 F;obtain rfl:b=b':=Option.some.inj (j.symm.trans c);refine go b off _ _ g (Rw r (n:=(TI t).size)) ?_ A.2 _ h.symm;rw[Hv];exact (z.drop off).take _
   exact h.elim
  exact h.elim
 ·rename_i u y off he
  rw[he] at p;obtain⟨b,q,us,g,j,r,z⟩:=A0 p (by simp)
  split at h
  ·rename_i m
   refine go b (q+off) _ _ g (Rx z (n:=(TI t).size)) ?_ m _ h.symm;rw[Hv];exact (((FO _ u y us).1 r).drop off).take _
  exact h.elim
 ·rename_i u id v i k he
  rw[he] at p;have B:=A0 p (by simp)
  split at h
  ·rename_i R U l hb
   split at h
   ·rename_i A
    obtain rfl:=T.beq_eq A.2;obtain⟨y,O,h⟩:=h;have F:v=AN (AD s.bk) id:=by unfold AN;rw[hb];exact A.1.symm
    obtain⟨b',c,g⟩:=B.2 F;have C:=S.blocks id _ hb;rcases C with⟨j,r⟩ |⟨b,arr,e,j,r,z⟩
    ·exact absurd (j.symm.trans c) (by simp)
    obtain rfl:b=b':=Option.some.inj (j.symm.trans c);obtain⟨us,hu,L⟩:=z i y (O ())
    split at h
    ·rename_i m
     refine go b (i*u.size+k) _ _ g (Rx L (n:=(TI t).size)) ?_ m _ h.symm;rw[Hv];exact (((FO _ u y us).1 hu).drop k).take _
    exact h.elim
   exact h.elim
  exact h.elim
 exact h.elim
theorem Av.new {w0:World} {X:WX} {β:Nat->Option Nat} {s:St} {a:Act} {w:World} (S:Av w0 X β s a w) {dst d:Nat} (A:dst=d) {av:AV} {As:AH} {rd:List Nat} {u:Value} {w':World} {arr:Array Value} {e:TypeId}
  (hw:w'.heap=w.heap.push (.cells arr e (0,0))) (l:w'.os=w.os) (f:w'.tape=w.tape) (g:w'.output=w.output)
  (m:As.AN=AN (AD s.bk) d+1) (p:As.short)
  (x:∀y:Cx,(cx X w β (AD s.bk)).le y->y.w=w'->y.β d=some w.heap.size->B5 y d As)
  (D:∀y:Cx,(cx X w β (AD s.bk)).le y->y.w=w'->y.β d=some w.heap.size->y.cv d=AN (AD s.bk) d+1->Au y av u):
  ∃q,Av w0 X q (s.app (some dst) ⟨av,[(d,As)],rd⟩) (a.put (some dst) u) w':=by
 subst A;have c:∀b,b<w.heap.size->w'.heap[b]? =w.heap[b]? :=fun b hb=>by rw[hw,Array.getElem?_push,if_neg (by omega)]
 have n:∀b o,w.heap[b]? =some o->b<w.heap.size:=fun b o h=>by
  rcases Nat.lt_or_ge b w.heap.size with h' | h'
  ·exact h'
  simp[Array.getElem?_eq_none h'] at h
 by_cases j:dst<s.bk.length
 ·refine⟨fun k=>if k=dst then some w.heap.size else β k,S.write j p (fun k B=>by simp[B]) (by omega) (fun e=>absurd e (by omega)) (fun b hb _=>c b hb) (by rw[hw];simp)
   (fun b i e' r=>⟨i,(c b (n b _ r)).trans r,rfl⟩) l f g (fun _ b hb=> .inr ?_) (fun hle=>?_) (fun hle=>?_)⟩
  ·simp at hb;omega
  ·exact x _ hle rfl (by show (if dst=dst then _ else _)=_;simp)
  exact D _ hle rfl (by show (if dst=dst then _ else _)=_;simp) (by show AN _ dst=_;rw[Dt _ _ _ j,if_pos rfl,m])
 have t:s.bk.length<=dst:=by omega
 have v:s.sl.length<=dst:=by have:=S.len;have:=S.Fi;omega
 refine⟨β,?_⟩
 have C:s.app (some dst) ⟨av,[(dst,As)],rd⟩=s.app none ⟨.one .BB,[],rd⟩:=by
  simp[St.app,Dn,By,Fw _ _ _ t,Fw _ _ _ v]
 have z:a.put (some dst) u=a.put none undef:=by
  have:a.tmps.size<=dst:=by have:=S.len;omega
  simp[Act.put,Array.setIfInBounds_eq_of_size_le this]
 rw[C,z];exact S.ext c (by rw[hw];simp) l f g (GW _ _)
theorem SW {w:World} (t:TypeId) (v:Value):(newVar t v).run P w= .ok ⟨w.heap.size,0,none⟩ {w with heap:=w.heap.push (.cells v.cells t (0,0))}:=by
 simp[newVar,newRow,newObj,Sem.run]
theorem ZJ (p:∀t,Cg P t (TI t)) {o:Oper} {t:TypeId} (j:o.op= .alloc t) (r:o.dst≠none):Sound P E TI o:=by
 intro w0 X β s a w S f h N Q i;simp only[BS,j] at h;obtain⟨v,h⟩:=h;subst h;obtain⟨G,z,d,l,A,m,n,B,C,D⟩:=(p t).info v
 have b:(execOp a.eval o).run P w= .ok (.value (.pointer (some ⟨w.heap.size,0,none⟩))) {w with heap:=w.heap.push (.cells z.cells t (0,0))}:=by
  simp[execOp,j,Instr.alloc,zeroValue,typeInfo,l,m,SW]
 obtain⟨q,g⟩:=Option.ne_none_iff_exists'.1 r;have c:Aw o=q:=by simp[Aw,g]
 rw[c,g] at i
 obtain⟨x,k⟩:=S.new (dst:=q) (d:=q) rfl (av:= .one (.Am q (AN (AD s.bk) q+1) 0)) (As:= .var (AN (AD s.bk) q+1) (TI t).zero) (rd:=[q]) (u:= .pointer (some ⟨w.heap.size,0,none⟩))
  (w':={w with heap:=w.heap.push (.cells z.cells t (0,0))}) (arr:=z.cells) (e:=t) rfl rfl rfl rfl rfl trivial
  (fun y _ hw hb=>⟨_,z.cells,t,hb,by rw[hw];simp,n y⟩) (fun y _ _ hb F=>Or.inr ⟨⟨rfl,by omega⟩,fun _=>⟨_,hb,rfl⟩⟩)
 exact BW b (by rw[g];exact i _ _ _ k)
theorem ZM {o:Oper} {t:TypeId} {x:Operand} (p:o.op= .box t x) (v:o.dst≠none):Sound P E TI o:=by
 intro w0 X β s a w S f h N Q m;simp only[BS,p] at h;have z:=Br S.BV x
 have b:(ev s.sl x).full=true/\f=⟨.one (.Am (Aw o) (AN (AD s.bk) (Aw o)+1) 0),[(Aw o,.var (AN (AD s.bk) (Aw o)+1) (ev s.sl x).cs)],[Aw o]⟩:=by
  split at h
  ·exact h.elim
  ·exact h.elim
  rename_i B C
  refine⟨?_,h.symm⟩;cases D:ev s.sl x with
  | one c=>cases c <;> simp_all [AV.full]
  | agg cs=>rfl
  | AF xs=>simp_all
 obtain⟨j,rfl⟩:=b;have k:∀xs,ev s.sl x≠ .AF xs:=fun xs e=>by rw[e] at j;simp[AV.full] at j
 have n:=(Iz z k).cells j
 have g:(execOp a.eval o).run P w= .ok (.value (.pointer (some ⟨w.heap.size,0,none⟩))) {w with heap:=w.heap.push (.cells (a.eval x).cells t (0,0))}:=by
  simp[execOp,p,Instr.box,SW]
 obtain⟨q,l⟩:=Option.ne_none_iff_exists'.1 v;have i:Aw o=q:=by simp[Aw,l]
 rw[i,l] at m
 obtain⟨A,r⟩:=S.new (dst:=q) (d:=q) rfl (av:= .one (.Am q (AN (AD s.bk) q+1) 0)) (As:= .var (AN (AD s.bk) q+1) (ev s.sl x).cs) (rd:=[q]) (u:= .pointer (some ⟨w.heap.size,0,none⟩))
  (w':={w with heap:=w.heap.push (.cells (a.eval x).cells t (0,0))}) (arr:=(a.eval x).cells) (e:=t) rfl rfl rfl rfl rfl trivial
  (fun y hle hw hb=>⟨_,_,t,hb,by rw[hw];simp,n.mono fun _ _=>Ae.mono hle⟩) (fun y _ _ hb n=>Or.inr ⟨⟨rfl,by omega⟩,fun _=>⟨_,hb,rfl⟩⟩)
 exact BW g (by rw[l];exact m _ _ _ r)
end
end Go.Abs
namespace Go.Abs
open Go.RowKit
theorem NB {α:Type} (l:List α) (o:Nat):CN l o []=l:=by
 induction l generalizing o with
 | nil=>cases o <;> rfl
 | cons c l a=>cases o with
  | zero=>rfl
  | succ o=>simp[CN,a]
theorem NC {α:Type}:∀(l:List α) (o:Nat) (v:α) (r:List α),CN (l.set o v) (o+1) r=CN l o (v::r)
 |[],0,_,_|[],_+1,_,_=>rfl
 | c::l,0,v,r=>by simp[CN]
 | c::l,o+1,v,r=>by simp[CN,NC l o v r]
theorem AO.CN {α γ:Type} {R:α->γ->Prop}:∀{l:List α} {m:List γ} (o:Nat) {xs:List α} {ys:List γ},AO R l m->AO R xs ys->AO R (CN l o xs) (CN m o ys)
 |[],[],0,[],[],_,_|[],[],0,_::_,_::_,_,_|[],[],_+1,_,_,_,_=>trivial
 | _::_,_::_,0,[],[],h,_=>h
 | _::_,_::_,0,_::_,_::_,h,h'=>⟨h'.1,AO.CN 0 h.2 h'.2⟩
 | _::_,_::_,o+1,_,_,h,h'=>⟨h.1,AO.CN o h.2 h'⟩
 |[],_::_,_,_,_,h,_|_::_,[],_,_,_,h,_=>h.elim
 |_,_,0,[],_::_,_,h'|_,_,0,_::_,[],_,h'=>h'.elim
theorem Ht (b:Nat):∀(c:List Value) (o:Nat) (w:World) (arr:Array Value) (e:TypeId),w.heap[b]? =some (.cells arr e (0,0))->
  ∃a,(w.setCells b o c).heap[b]? =some (.cells a e (0,0))/\a.toList=CN arr.toList o c/\a.size=arr.size
 | [],o,w,arr,e,h=>⟨arr,h,(NB _ _).symm,rfl⟩
 | v::r,o,w,arr,e,h=>by
  have d:(w.setCell ⟨b,o,none⟩ v).heap[b]? =some (.cells (arr.setIfInBounds o v) e (0,0)):=by
   simp[World.setCell,Array.getElem?_modify,h]
  obtain⟨a,f,g,i⟩:=Ht b r (o+1) _ _ e d;exact⟨a,f,by rw[g,Array.toList_setIfInBounds,NC],by simpa using i⟩
theorem I5 (b:Nat):∀(a:List Value) (o:Nat) (w:World) (k:Nat),k≠b->(w.setCells b o a).heap[k]? =w.heap[k]?
 | [],_,_,_,_=>rfl
 | v::r,o,w,k,h=>by
  rw[World.setCells,I5 b r (o+1) _ k h];simp[World.setCell,Array.getElem?_modify,Ne.symm h]
theorem NU (b:Nat):∀(a:List Value) (o:Nat) (w:World),(w.setCells b o a).os=w.os/\(w.setCells b o a).tape=w.tape/\(w.setCells b o a).output=w.output/\(w.setCells b o a).heap.size=w.heap.size
 | [],_,_=>⟨rfl,rfl,rfl,rfl⟩
 | v::r,o,w=>by
  obtain⟨c,d,f,g⟩:=NU b r (o+1) (w.setCell ⟨b,o,none⟩ v);exact⟨c,d,f,g.trans (by simp[World.setCell])⟩
theorem Ni {w:World} {b off n:Nat} {arr:Array Value} {e:TypeId} (h:w.heap[b]? =some (.cells arr e (0,0))) (c:off+n<=arr.size):w.there b off n:=by
 intro j a;have:off+j<arr.size:=by omega
 simp[World.cell?,World.frozen?,h,this]
section
variable {P:Program} {E:Env} {TI:TypeId->Info}
theorem KF {x:Cx}:∀{c d:AC} {v:Value},Ak c d->Ae x c v->Ae x d v
 |.int _ _,_,_,h,r|.bool _,_,_,h,r|.fn _,_,_,h,r|.sl _ _,_,_,h,r=>by rw[show _=_ from h];exact r
 | .nil,_,_,h,r=>by
  rcases h with rfl |⟨t,rfl⟩
  ·exact r
  rw[show _=_ from r];exact⟨none,0,rfl,Nat.le_refl _,by simp,.inl rfl⟩
 |.BB,_,_,h,_|.AM _ _ _ _ _,_,_,h,_|.CI _ _ _ _ _,_,_,h,_|.Am _ _ _,_,_,h,_|.B3 _ _ _ _ _,_,_,h,_|.CU _ _ _,_,_,h,_|.ub _,_,_,h,_|.own _ _ _,_,_,h,_=>h.elim
theorem JY {x:Cx} {R:AC->AC->Prop} (hR:∀c d v,R c d->Ae x c v->Ae x d v):∀{l m:List AC} {a:List Value},Ac R l m->AO (Ae x) l a->AO (Ae x) m a
 | [],[],[],_,_=>trivial
 | _::_,_::_,_::_,h,r=>⟨hR _ _ _ h.1 r.1,JY hR h.2 r.2⟩
 |[],_::_,_,h,_|_::_,[],_,h,_=>h.elim
 |[],[],_::_,_,r|_::_,_::_,[],_,r=>r.elim
theorem Db {bk:Nat->Option AH} {id:Nat} {b:AH} (h:bk id=some b):AN bk id=b.AN:=by unfold AN;rw[h]
theorem Zb (hT:∀t,Cg P t (TI t)) {o:Oper} {t:TypeId} {p x:Operand} (ho:o.op= .store t p x):Sound P E TI o:=by
 intro w0 X β s a w S f h N Q hN;simp only[BS,ho] at h;obtain⟨hk,h⟩:=h;have hp:=Br S.BV p;have hx:=Br S.BV x;obtain⟨ti,z,d,h1,h2,h3,h4,h5,h6,h7⟩:=(hT t).info hk
 have go:∀(id b q:Nat) (arr:Array Value) (e:TypeId) (As:AH) (ys:List AC),a.eval p= .pointer (some ⟨b,q,none⟩)->id<s.bk.length->live (AD s.bk) id->β id=some b->w.heap[b]? =some (.cells arr e (0,0))->
   AO (Ae (cx X w β (AD s.bk))) ys (a.eval x).cells.toList->ys.length=(TI t).size->q+(TI t).size<=arr.size->As.AN=AN (AD s.bk) id->As.short->
   (∀y:Cx,(cx X w β (AD s.bk)).le y->y.w=w.setCells b q (a.eval x).cells.toList->y.β id=some b->B5 y id As)->∀rd,f=⟨.one .BB,[(id,As)],rd⟩->o.wp P a w N Q:=by
  intro id b q arr e As ys D a6 hl hb hh A hlen hq an ai hB rd hf;subst hf;have M:(a.eval x).cells.size=ti.size:=by have:=A.length;simp only[Array.length_toList] at this;omega
  have a1:=Y0 (P:=P) (t:=t) (b:=b) (o:=q) (v:=a.eval x) h1 M (Ni hh (by omega)) (A.one);obtain⟨c1,c2,c3,c4⟩:=NU b (a.eval x).cells.toList q w;refine aO (w':=w.setCells b q (a.eval x).cells.toList) (by simp[execOp,ho,D,a1]) (hN β _ _ ?_);refine S.write a6 ai (fun _ _=>rfl) (by omega) (fun _=>⟨rfl,fun _=>hl⟩) (fun k _ hk=>I5 b _ _ _ k (fun e=>hk hl (e ▸ hb))) (by omega) (fun k r e' Y=>?_) c1 c2 c3 (fun _ k ad=> .inl ⟨ad,hl⟩) (fun hle=>hB _ hle rfl hb) (fun _=>GW _ _)
  by_cases e1:k=b
  ·subst e1;obtain⟨V,g1,g2,H⟩:=Ht k (a.eval x).cells.toList q w r e' Y;exact⟨V,g1,H⟩
  exact⟨r,(I5 b _ _ _ k e1).trans Y,rfl⟩
 have C:∀{id:Nat} {b:AH},AD s.bk id=some b->id<s.bk.length:=fun {id b} hb=>by
  rcases Nat.lt_or_ge id s.bk.length with h | h
  ·exact h
  rw[GK _ _ h] at hb;cases hb
 split at h
 ·rename_i id v off he
  rw[he] at hp;have hr:=A0 hp (by simp)
  split at h
  ·exact h.elim
  ·exact h.elim
  ·rename_i v' cs a8 aa ab
   have hb:AD s.bk id=some (.var v' cs):=by assumption
   split at h
   ·rename_i hc
    obtain⟨U,hlen,al⟩:=hc;subst U
    have g:(ev s.sl x).full=true:=by
     cases R:ev s.sl x with
     | one c=>cases c <;> simp_all [AV.full]
     | agg cs=>rfl
     | AF xs=>simp_all
    have L:∀xs,ev s.sl x≠ .AF xs:=fun xs e=>by rw[e] at g;simp[AV.full] at g
    have A:=(Iz hx L).cells g;obtain⟨b,arr,e,g1,g2,H⟩:=S.blocks id _ hb;have R:v'=AN (AD s.bk) id:=(Db hb).symm;obtain⟨b',F,D⟩:=hr.2 R;obtain rfl:b=b':=Option.some.inj (g1.symm.trans F);have a2:=H.length;simp only[Array.length_toList] at a2;refine go id b off arr e _ _ D (C hb) ⟨_,hb,rfl⟩ g1 g2 A hlen (by omega) (by simpa [AH.AN] using R) (by trivial) (fun y hle hw J=>?_) _ h.symm;obtain⟨r,q1,q2,q3⟩:=Ht b (a.eval x).cells.toList off w arr e g2;refine⟨b,r,e,J,by rw[hw];exact q1,?_⟩;rw[q2];exact ((H.mono fun _ _=>Ae.mono hle).CN off (A.mono fun _ _=>Ae.mono hle))
   exact h.elim
  exact h.elim
 ·rename_i u id v i k he
  rw[he] at hp;have hr:=A0 hp (by simp)
  split at h
  ·exact h.elim
  ·exact h.elim
  ·rename_i v' u' l a8 aa ab
   have hb:AD s.bk id=some (.arr v' u' l):=by assumption
   split at h
   ·rename_i hc
    obtain⟨U,ae,M,aj⟩:=hc;subst U ae;obtain rfl:=T.beq_eq aj;obtain⟨z',hz,h⟩:=h;obtain⟨hi,W⟩:=hz ()
    have g:(ev s.sl x).full=true:=by
     cases R:ev s.sl x with
     | one c=>cases c <;> simp_all [AV.full]
     | agg cs=>rfl
     | AF xs=>simp_all
    have L:∀xs,ev s.sl x≠ .AF xs:=fun xs e=>by rw[e] at g;simp[AV.full] at g
    have A:=JY (fun _ _ _=>KF) W ((Iz hx L).cells g);have R:v'=AN (AD s.bk) id:=(Db hb).symm;obtain⟨b',F,D⟩:=hr.2 R;have ah:=S.blocks id _ hb;rcases ah with⟨g1,g2⟩ |⟨b,arr,e,g1,g2,H⟩
    ·exact absurd (g1.symm.trans F) (by simp)
    obtain rfl:b=b':=Option.some.inj (g1.symm.trans F);have hn:=T.size_pos u
    have af:i*u.size+u.size<=arr.size:=by
     obtain⟨us,G,O⟩:=H i l[i] (by simp[hi]);have ak:=Fu _ _ _ G;have ag:u.size-1<us.length:=by omega
     have:=O (u.size-1) us[u.size-1] (by simp[ag]);simp only[World.cell?,g2] at this
     have B:i*u.size+(u.size-1)<arr.size:=by
      rcases Nat.lt_or_ge (i*u.size+(u.size-1)) arr.size with B | B
      ·exact B
      simp[Array.getElem?_eq_none B] at this
     omega
    refine go id b (i*u.size) arr e _ _ D (C hb) ⟨_,hb,rfl⟩ g1 g2 A (by rw[Ee];exact M.symm) (by omega) (by simpa [AH.AN] using R) (by have:=S.lens id _ hb;simpa [AH.short] using this) (fun y hle hw J=>?_) _ (h _ rfl).symm;refine Or.inr ?_;obtain⟨r,q1,q2,q3⟩:=Ht b (a.eval x).cells.toList (i*u.size) w arr e g2;refine⟨b,r,e,J,by rw[hw];exact q1,fun j y' hj=>?_⟩;have a5:(a.eval x).cells.toList.length=u.size:=by rw[<-A.length,Ee]
    by_cases Z:j=i
    ·subst Z;have:y'=z':=by simp[List.getElem?_set,hi] at hj;exact hj.symm
     subst this;refine⟨(a.eval x).cells.toList,((FO _ u y' _).2 (A.mono fun _ _=>Ae.mono hle)),fun m v hm=>?_⟩;rw[hw]
     have K:m<(a.eval x).cells.toList.length:=by
      rcases Nat.lt_or_ge m (a.eval x).cells.toList.length with B | B
      ·exact B
      simp[List.getElem?_eq_none B] at hm
     rw[World.cell?_setCells_in b _ (j*u.size) w (fun m hm=>(Ni g2 (n:=u.size) (by omega) m (by omega)).1) m K];simp[List.getElem?_eq_getElem K] at hm;simpa using hm
    have a7:l[j]? =some y':=by simpa [List.getElem?_set,Ne.symm Z] using hj
    obtain⟨us,G,O⟩:=H j y' a7;refine⟨us,Bo hle.I u y' us G,fun m v hm=>?_⟩;have ak:=Fu _ _ _ G
    have K:m<us.length:=by
     rcases Nat.lt_or_ge m us.length with B | B
     ·exact B
     simp[List.getElem?_eq_none B] at hm
    rw[hw,World.cell?_setCells_out b _ (i*u.size) w _ (fun _ _=>?_)]
    ·exact O m v hm
    show j*u.size+m<i*u.size\/i*u.size+_<=j*u.size+m
    rw[a5];rcases Nat.lt_or_ge j i with B | B
    ·left
     have:(j+1)*u.size<=i*u.size:=Nat.mul_le_mul_right _ B;rw[Nat.add_mul] at this;omega
    right
    have:(i+1)*u.size<=j*u.size:=Nat.mul_le_mul_right _ (by omega);rw[Nat.add_mul] at this;omega
   exact h.elim
  exact h.elim
 exact h.elim
end
end Go.Abs
namespace Go.Abs
open Go.RowKit
section
variable {P:Program} {E:Env} {TI:TypeId->Info}
theorem Sp {w:World} {t:TypeId} {a:TypeInfo} (h:P.info? t=some a):(sizeOf t).run P w= .ok a.size w:=by simp[sizeOf,typeInfo,h]
theorem ZU (R:∀t,Cg P t (TI t)) {o:Oper} {t:TypeId} {x i:Operand} (J:o.op= .indexAddr t x i):Sound P E TI o:=by
 intro w0 X β s a w S f h N Q I;simp only[BS,J] at h;obtain⟨V,h⟩:=h;obtain⟨hu,ei,z,g1,g2,g3,g4,g5,g6⟩:=(R t).sl V;have r:=Br S.BV x;have q:=Br S.BV i
 have go:∀(b off len cap:Nat) (k:IntKind) (n:Int),a.eval x= .slice (some ⟨b,off,none⟩) len cap->a.eval i= .int k n->0<=n->n<len->
   (execOp a.eval o).run P w= .ok (.value (.pointer (some ⟨b,off+n.toNat*(TI t).elem.size,none⟩))) w:=by
  intro b off len cap k n p F L A;simp[execOp,J,p,F,Instr.indexAt,asIntOf,run_underlying hu,Sp g1,g2,L,A,Addr.add_mid]
 split at h
 ·rename_i u l k n he d
  rw[he] at r;rw[d] at q;have g:a.eval i= .int k n:=A0 q (by simp);obtain⟨base,cap,p,A,M,B⟩:=A0 r (by simp);obtain⟨c,y,hy,h⟩:=h;obtain rfl:=T.beq_eq c;obtain⟨j,m⟩:=hy ();subst h
  have D:n.toNat<l.length:=by
   rcases Nat.lt_or_ge n.toNat l.length with C | C
   ·exact C
   simp[List.getElem?_eq_none C] at m
  rcases B with rfl |⟨b,off,rfl,O,U⟩
  ·simp at D
  obtain⟨us,G,H⟩:=U n.toNat y m;refine BW (go b off l.length cap k n (by simpa using p) g j (by omega)) (I _ _ _ (S.val (Or.inr ⟨b,off+n.toNat*(TI t).elem.size,us,by rw[Nat.add_zero],O,G,H⟩)))
 ·rename_i u id v off len k n he d
  rw[he] at r;rw[d] at q;have g:a.eval i= .int k n:=A0 q (by simp);obtain⟨c,h⟩:=h;obtain rfl:=T.beq_eq c
  split at h
  ·rename_i p
   have K:=A0 r (by simp);obtain⟨base,cap,Y,A,M,_,B⟩:=K.2 p.symm;obtain⟨F,h⟩:=h;obtain⟨j,W⟩:=F ();obtain rfl:=h _ rfl;rcases B with rfl |⟨b,arr,e,hb,rfl,hh,Z⟩
   ·omega
   refine BW (go b (off*(TI t).elem.size) len cap k n Y g j (by omega)) (I _ _ _ (S.val (Or.inr ⟨⟨rfl,K.1.2⟩,fun _=>⟨b,hb,?_⟩⟩)));rw[Nat.add_mul,Nat.add_zero]
  exact h.elim
 exact h.elim
theorem Hu {w:World} {k:IntKind} {n:Int} {y:Nat} {c:BoundsCode} (a:0<=n) (b:n<=y):(Instr.sliceBound (.int k n) y c).run P w= .ok n.toNat w:=by
 simp[Instr.sliceBound,asIntOf,a,b]
theorem Lt {w:World} {a:Act} {x:Cx} {lo z A:Option Operand} {s:St} (v:∀o,Au x (ev s.sl o) (a.eval o)) {len cap:Nat} (y:len<=cap) {R:Nat->Nat->Bool->Prop}
  (h:F6 len (lo.map (ev s.sl)) (z.map (ev s.sl)) (A.map (ev s.sl)) R):
  ∃(l q m:Nat) (c:Bool),(Instr.sliceBounds true len cap (lo.map a.eval) (z.map a.eval) (A.map a.eval)).run P w= .ok (l,q,m) w/\l<=q/\q<=len/\q<=m/\m<=cap/\(c=true->m=q/\l=0)/\(c=false->m=cap)/\R l q c:=by
 have b:∀{o:Operand} {k:IntKind} {n:Int},ev s.sl o= .one (.int k n)->a.eval o= .int k n:=fun {o k n} e=>by
  have:=v o;rw[e] at this;exact A0 this (by simp)
 unfold F6 at h
 split at h
 ·rename_i f d g
  simp only[Option.map_eq_none_iff] at f d g;subst f d g;exact⟨0,len,cap,false,by simp[Instr.sliceBounds],Nat.zero_le _,Nat.le_refl _,y,Nat.le_refl _,by simp,fun _=>rfl,h _ rfl⟩
 ·rename_i k n f d g
  simp only[Option.map_eq_none_iff,Option.map_eq_some_iff] at f d g;obtain⟨p,rfl,f⟩:=f;subst d g;obtain⟨hb,h⟩:=h;obtain⟨i,j⟩:=hb ();have j:n<=(len:Int):=by omega
  exact⟨n.toNat,len,cap,false,by simp[Instr.sliceBounds,b f,Hu i j],by omega,Nat.le_refl _,y,Nat.le_refl _,by simp,fun _=>rfl,h _ _ ⟨rfl,rfl⟩⟩
 ·rename_i k n f d g
  simp only[Option.map_eq_none_iff,Option.map_eq_some_iff] at f d g;obtain⟨p,rfl,d⟩:=d;subst f g;obtain⟨hb,h⟩:=h;obtain⟨i,j⟩:=hb ();have r:n<=(cap:Int):=by omega
  exact⟨0,n.toNat,cap,false,by simp[Instr.sliceBounds,b d,Hu i r],by omega,by omega,by omega,Nat.le_refl _,by simp,fun _=>rfl,h _ rfl⟩
 ·rename_i k n k' n' f d g
  simp only[Option.map_eq_none_iff,Option.map_eq_some_iff] at f d g;obtain⟨p,rfl,f⟩:=f;obtain⟨B,rfl,d⟩:=d;subst g;obtain⟨hb,h⟩:=h;obtain⟨i,j,r⟩:=hb ();have t:n'<=(cap:Int):=by omega
  have u:n<=(n'.toNat:Int):=by omega
  exact⟨n.toNat,n'.toNat,cap,false,by simp[Instr.sliceBounds,b f,b d,Hu (show 0<=n' by omega) t,Hu i u],by omega,by omega,by omega,Nat.le_refl _,by simp,fun _=>rfl,h _ _ ⟨rfl,rfl⟩⟩
 ·rename_i k n k' n' f d g
  simp only[Option.map_eq_none_iff,Option.map_eq_some_iff] at f d g;obtain⟨p,rfl,d⟩:=d;obtain⟨B,rfl,g⟩:=g;subst f;obtain⟨hb,h⟩:=h;obtain⟨i,j,r⟩:=hb ();subst j;have t:n<=(cap:Int):=by omega
  have u:n<=(n.toNat:Int):=by omega
  exact⟨0,n.toNat,n.toNat,true,by simp[Instr.sliceBounds,b d,b g,Hu i t,Hu i u],by omega,by omega,by omega,by omega,fun _=>⟨rfl,rfl⟩,by simp,h _ rfl⟩
 exact h.elim
theorem Za (hT:∀t,Cg P t (TI t)) {o:Oper} {t:TypeId} {x:Operand} {lo V Y:Option Operand} (W:o.op= .slice t x lo V Y):Sound P E TI o:=by
 intro w0 X β s a w S f h N Q r;simp only[BS,W] at h;obtain⟨hk,h⟩:=h;obtain⟨hu,ei,z,g1,g2,g3,g4,g5,g6⟩:=(hT t).sl hk;have k:=Br S.BV x
 have go:∀(base:Option Addr) (len cap l q m:Nat),a.eval x= .slice base len cap->(Instr.sliceBounds true len cap (lo.map a.eval) (V.map a.eval) (Y.map a.eval)).run P w= .ok (l,q,m) w->
   (execOp a.eval o).run P w= .ok (.value (.slice (if m=l then base else base.map (·.add (l*(TI t).elem.size))) (q-l) (m-l))) w:=by
  intro base len cap l q m n g;simp[execOp,W,n,Instr.sliceAt,run_underlying hu,Instr.slice,g,Sp g1,g2]
 unfold F5 at h
 split at h
 ·rename_i u l he
  rw[he] at k;obtain⟨base,cap,n,D,Z,F⟩:=A0 k (by simp);obtain⟨d,h⟩:=h;obtain rfl:=T.beq_eq d;obtain⟨p,q,m,c,g,b1,b2,b3,O,B,R,hR⟩:=Lt (P:=P) (w:=w) (Br S.BV) D (h _ rfl);obtain rfl:=hR _ rfl;refine BW (go base l.length cap p q m (by simpa using n) g) (r _ _ _ (S.val (Or.inr ?_)));have hlen:((l.take q).drop p).length=q-p:=by simp;omega
  refine⟨_,m-p,by rw[hlen],by rw[hlen];omega,by rw[hlen];omega,?_⟩
  by_cases J:q=p
  ·left;subst J;simp
  right
  rcases F with rfl |⟨b,off,rfl,hI,hc⟩
  ·simp at b2;omega
  refine⟨b,off+p*(TI t).elem.size,by rw[if_neg (by omega)];simp[Addr.add_mid],hI,fun j y A=>?_⟩
  have H:l[p+j]? =some y:=by
   rw[List.getElem?_drop,List.getElem?_take] at A
   split at A
   ·exact A
   cases A
  obtain⟨us,K,L⟩:=hc (p+j) y H;exact⟨us,K,by rw[show off+p*(TI t).elem.size+j*(TI t).elem.size=off+(p+j)*(TI t).elem.size by rw[Nat.add_mul];omega];exact L⟩
 ·rename_i u id v off len he
  rw[he] at k;obtain⟨d,h⟩:=h;obtain rfl:=T.beq_eq d
  split at h
  ·rename_i M
   have i:=A0 k (by simp);obtain⟨base,cap,hs,D,Z,_,F⟩:=i.2 M.symm;obtain⟨p,q,m,c,g,b1,b2,b3,O,B,R,hR⟩:=Lt (P:=P) (w:=w) (Br S.BV) D h;have hR:=hR _ _ ⟨rfl,rfl⟩;refine BW (go base len cap p q m hs g) ?_
   have U:∀C,(C=true->m-p=q-p)->E9 w (β id) (TI t).elem.size (off+p) (q-p) C (.slice (if m=p then base else base.map (·.add (p*(TI t).elem.size))) (q-p) (m-p)):=by
    intro C G;refine⟨_,m-p,rfl,by omega,by omega,G,?_⟩
    by_cases I:m=p
    ·left;omega
    right
    rcases F with rfl |⟨b,arr,e,hb,rfl,hh,a1⟩
    ·omega
    refine⟨b,arr,e,hb,by rw[if_neg I];simp[Addr.add_mid,Nat.add_mul],hh,?_⟩;have:(off+p+(m-p))*(TI t).elem.size<=(off+cap)*(TI t).elem.size:=Nat.mul_le_mul_right _ (by omega);omega
   cases c with
   | true=>
    obtain rfl:=hR;exact r _ _ _ (S.val (Or.inr ⟨⟨rfl,i.1.2⟩,fun _=>U true (fun _=>by have:=B rfl;omega)⟩))
   | false=>
    obtain rfl:=hR;exact r _ _ _ (S.val (Or.inr ⟨⟨rfl,i.1.2⟩,fun _=>U false (by simp)⟩))
  exact h.elim
 ·rename_i he
  rw[he] at k;have n:a.eval x= .slice none 0 0:=A0 k (by simp);obtain⟨p,q,m,c,g,b1,b2,b3,O,B,R,hR⟩:=Lt (P:=P) (w:=w) (cap:=0) (Br S.BV) (Nat.le_refl _) h;obtain rfl:=hR;have:p=0:=by omega
  have:q=0:=by omega
  have:m=0:=by omega
  subst_vars;exact BW (go none 0 0 0 0 0 n g) (r _ _ _ (S.val (Or.inr (by simp[Ae]))))
 exact h.elim
end
end Go.Abs
