/- Part 5 of a proof. Conditions: each theorem's own. -/
import Derived.Laws.Cover3
import Derived.Test.YtfilemenbchajaaGreatPk03
set_option linter.all false
set_option maxHeartbeats 8000000
set_option maxRecDepth 20000
namespace Go.Abs
open Go.RowKit
section
variable {P:Program} {E:Env} {TI:TypeId->Info}
theorem fI (G:∀t,DI P t (TI t)) {o:Oper} {op:BinOp} {t L:TypeId} {x y:Operand} (z:o.op= .binOp op t x y L):Sound P E TI o:=by
 intro w0 X β s a w S f h N Q A;simp only[Bv,z] at h;have r:=CU S.Bx x;have v:=CU S.Bx y
 split at h
 ·rename_i k m k' n he g
  rw[he] at r;rw[g] at v;have i:a.eval x= .int k m:=BX r (by simp);have j:a.eval y= .int k' n:=BX v (by simp)
  split at h
  ·rename_i J
   obtain⟨c,B⟩:∃c,f=⟨.one c,[],[]⟩/\arith op k m n (fun d=>d=c):=by
    cases op <;> cases k <;> simp only[arith] at h ⊢ <;> first
     | (obtain⟨q,H⟩:=h _ rfl;exact⟨_,H.symm,fun _ e=>⟨by first | exact q | (rw[e];exact q),by rw[e]⟩⟩)
     | exact⟨_,(h _ rfl).symm,fun _ e=>by rw[e]⟩
   obtain⟨rfl,B⟩:=B;obtain⟨u,hu,F⟩:=RU (P:=P) (w:=w) (t:=t) J B;refine By (u:=u) (w':=w) ?_ (A _ _ _ (S.val (Or.inr (F _))));simp only[execOp,z,i,j,Sem.run_bind,Zo,Result.andThen_ok,hu,Sem.run_pure]
  exact h.elim
 ·rename_i m n he g
  rw[he] at r;rw[g] at v;have i:a.eval x= .bool m:=BX r (by simp);have j:a.eval y= .bool n:=BX v (by simp);obtain⟨q,h⟩:=h;have hu:=(G t).isb q
  have D:(Op.equal t (.bool m) (.bool n)).run P w= .ok (m==n) w:=by
   have I:∀d,(Op.equalIn (d+1) t (.bool m) (.bool n)).run P w= .ok (m==n) w:=fun d=>by
    unfold Op.equalIn;simp[run_underlying hu]
   exact I 9999
  have C:∀op:BinOp,(eqGuard op t x y (.bool m) (.bool n)).run P w= .ok () w:=by
   intro op;unfold eqGuard;cases op <;> simp
  cases op <;> simp only at h
  all_goals first
   | exact h.elim
   | (obtain rfl:=h _ rfl
      refine By (w':=w) ?_ (A _ _ _ (S.val (Or.inr rfl)));simp[execOp,z,i,j,Sem.run_bind,C,binOp,D,bne])
 ·rename_i ty l he g
  rw[he] at r;rw[g] at v;have F:=BX r (by simp);have j:a.eval y= .slice none 0 0:=BX v (by simp);obtain⟨q,h⟩:=h;obtain⟨base,cap,K,_,_,p⟩:=F;have i:a.eval x= .slice base l.length cap:=by simpa using K
  obtain⟨hu,_⟩:=(G t).sl q;have D:(Op.equal t (.slice base l.length cap) (.slice none 0 0)).run P w= .ok base.isNone w:=run_equal_slice_nil w t _ base l.length cap hu
  have C:∀op:BinOp,(eqGuard op t x y (.slice base l.length cap) (.slice none 0 0)).run P w= .ok () w:=by
   intro op;unfold eqGuard;cases op <;> simp
  cases op <;> simp only at h
  all_goals first
   | exact h.elim
   | (obtain rfl:=h _ rfl
      refine By (u:= .bool base.isNone) (w':=w) ?_ (A _ _ _ (S.val (Or.inr ⟨_,rfl,fun hb=>?_⟩)))
      ·simp[execOp,z,i,j,Sem.run_bind,C,binOp,D]
      rcases p with rfl |⟨b,off,rfl,_⟩
      ·rfl
      simp at hb)
 exact h.elim
theorem fZ {o:Oper} {op:UnOp} {t:TypeId} {x:Operand} (l:o.op= .unOp op t x):Sound P E TI o:=by
 intro w0 X β s a w S f h N Q q;simp only[Bv,l] at h;have i:=CU S.Bx x
 split at h
 ·rename_i b he
  rw[he] at i;have g:a.eval x= .bool b:=BX i (by simp);obtain rfl:=(h _ rfl);exact By (u:= .bool (!b)) (w':=w) (by simp[execOp,l,g,Op.unary]) (q _ _ _ (S.val (Or.inr rfl)))
 ·rename_i k n he
  rw[he] at i;have g:a.eval x= .int k n:=BX i (by simp)
  obtain⟨c,j⟩:∃c,f=⟨.one c,[],[]⟩/\arith .sub k 0 n (fun d=>d=c):=by
   cases k <;> simp only[arith] at h ⊢ <;> first
    | (obtain⟨p,r⟩:=h _ rfl;exact⟨_,r.symm,fun _ e=>⟨by first | exact p | (rw[e];exact p),by rw[e]⟩⟩)
    | exact⟨_,(h _ rfl).symm,fun _ e=>by rw[e]⟩
  obtain⟨rfl,j⟩:=j;obtain⟨u,hu,v⟩:=RU (P:=P) (w:=w) (t:=t) (.inl rfl) j;have m:(Op.intArith .sub k 0 n).run P w= .ok u w:=by simpa [binOp] using hu
  exact By (u:=u) (w':=w) (by simp[execOp,l,g,Op.unary,m]) (q _ _ _ (S.val (Or.inr (v _))))
 exact h.elim
theorem fN (g:∀t,DI P t (TI t)) {o:Oper} {src dst:TypeId} {x:Operand} (i:o.op= .convert src dst x):Sound P E TI o:=by
 intro w0 X β s a w S f h N Q l;simp only[Bv,i] at h;obtain⟨p,h⟩:=h;have j:=CU S.Bx x
 split at h
 ·rename_i k k' n m he
  rw[he] at j;have c:a.eval x= .int k' n:=BX j (by simp);obtain rfl:=h _ rfl;obtain⟨_,_,d,_,_,_,_,hu,_⟩:=(g src).info p;have b:=(g dst).kind k m;refine By (u:= .int k (k.wrap n)) (w':=w) ?_ (l _ _ _ (S.val (Or.inr rfl)));simp[execOp,i,c,convert,run_underlying hu,run_underlying b,Conv.intToInt]
 exact h.elim
theorem fP (L:∀t,DI P t (TI t)) {o:Oper} {t:TypeId} {x:Operand} {i:Nat} (A:o.op= .field t x i):Sound P E TI o:=by
 intro w0 X β s a w S f h N Q K;simp only[Bv,A] at h;obtain⟨M,h⟩:=h;have B:=CU S.Bx x
 split at h
 ·rename_i b n g cs y he
  split at h
  ·rename_i z
   subst h;rw[he] at B;obtain⟨arr,R,k⟩:=B;obtain⟨fs,hu,hlen,l⟩:=(L t).fields M (by intro e;simp[e] at y);obtain⟨q,d,D,F,h3,U,G,H,v⟩:=l i b n g y;have c:AY (Az (cx X w β (AF s.bk))) (Ef cs b n) ((arr.toList.drop b).take n):=by rw[JJ];exact (k.drop b).take n
   have m:((arr.toList.drop b).take n).length=n:=by rw[<-c.length,z]
   refine By (u:=valOf g ((arr.toList.drop b).take n)) (w':=w) ?_
    (K _ _ _ (S.val (U3 c (fun e=>by rw[z];exact v e))))
   have j:(part q.type arr b).run P w= .ok (valOf g ((arr.toList.drop b).take n)) w:=by
    unfold part;rw[Sem.run_bind,VP G,Result.andThen_ok,H];cases g with
    | true=>
     cases p:P.info? q.type with
     | none=>simp[p] at h3
     | some T=>
      have O:T.size=n:=by simpa [p] using h3
      have C:arr.extract b (b+n)=((arr.toList.drop b).take n).toArray:=by
       apply Array.ext';simp only[Array.toList_extract,List.extract_eq_take_drop];rw[show b+n-b=n by omega]
      simp[sizeOf,typeInfo,p,O,C,valOf]
    | false=>
     have:=v rfl;subst this;have I:arr.toList.drop b≠[]:=by intro e;simp[e] at m
     obtain⟨u,r,e⟩:=List.exists_cons_of_ne_nil I
     have J:arr[b]? =some u:=by
      have:=congrArg (·[0]?) e;simpa using this
     simp[J,e,valOf]
   simp[execOp,A,R,Instr.field,run_underlying hu,D,asAgg,F,j]
  exact h.elim
 exact h.elim
theorem Zu {a:Field} {b off n:Nat} {w:World} (h3:(P.info? a.type).map (·.size)=some n) (f:0<n):(fieldPlace ⟨b,off,none⟩ a).run P w= .ok ⟨b,off+a.offset,none⟩ w:=by
 cases c:P.info? a.type with
 | none=>simp[c] at h3
 | some d=>
  have g:d.size=n:=by simpa [c] using h3
  have:¬d.size=0:=by omega
  simp[fieldPlace,sizeOf,typeInfo,c,this,Addr.add_mid]
theorem fQ (H:∀t,DI P t (TI t)) {o:Oper} {t:TypeId} {x:Operand} {i:Nat} (F:o.op= .fieldAddr t x i):Sound P E TI o:=by
 intro w0 X β s a w S f h N Q C;simp only[Bv,F] at h;obtain⟨I,h⟩:=h;have m:=CU S.Bx x
 have go:∀(c n:Nat) (g:Bool) (b off:Nat),(TI t).fields[i]? =some (c,n,g)->a.eval x= .pointer (some ⟨b,off,none⟩)->(execOp a.eval o).run P w= .ok (.value (.pointer (some ⟨b,off+c,none⟩))) w:=by
  intro c n g b off l z;obtain⟨fs,hu,hlen,D⟩:=(H t).fields I (by intro e;simp[e] at l);obtain⟨J,d,A,B,h3,G,K,L,M⟩:=D i c n g l;subst B;simp[execOp,F,z,Instr.fieldAt,run_underlying hu,A,Instr.sureAddr,Zu h3 G]
 split at h
 ·rename_i c n g id v off l he
  split at h
  ·rename_i z
   subst h;rw[he] at m;have r:=BX m (by simp);obtain⟨b,hb,p⟩:=r.2 z.symm;exact By (go c n g b off l p) (C _ _ _ (S.val (Or.inr ⟨⟨rfl,r.1.2⟩,fun _=>⟨b,hb,rfl⟩⟩)))
  exact h.elim
 ·rename_i c n g u y off l he
  subst h;rw[he] at m;obtain⟨b,q,us,p,A,B,h3⟩:=BX m (by simp);exact By (go c n g b (q+off) l p) (C _ _ _ (S.val (Or.inr ⟨b,q,us,by rw[Nat.add_assoc],A,B,h3⟩)))
 ·rename_i c n g u id v j k l he
  split at h
  ·rename_i z
   subst h;rw[he] at m;have r:=BX m (by simp);obtain⟨b,hb,p⟩:=r.2 z.symm;exact By (go c n g b _ l p) (C _ _ _ (S.val (Or.inr ⟨⟨rfl,r.1.2⟩,fun _=>⟨b,hb,by rw[Nat.add_assoc]⟩⟩)))
  exact h.elim
 exact h.elim
end
end Go.Abs
namespace Go.Abs
open Go.RowKit
section
variable {P:Program} {E:Env} {TI:TypeId->Info}
theorem Us {w:World} {b off n:Nat} {arr:Array Value} {e:TypeId} (h:w.heap[b]? =some (.cells arr e (0,0))):w.rangeAt b off ((arr.toList.drop off).take n):=by
 intro j v a
 have:arr[off+j]? =some v:=by
  rw[List.getElem?_take] at a
  split at a
  ·simpa using a
  cases a
 simp[World.cell?,h,this]
theorem Ut {w:World} {b o off n:Nat} {us:List Value} (h:w.rangeAt b o us):w.rangeAt b (o+off) ((us.drop off).take n):=by
 intro j v a;rw[Nat.add_assoc];refine h (off+j) v ?_;rw[List.getElem?_take] at a
 split at a
 ·simpa using a
 cases a
theorem run_load {t:TypeId} {i:Info} {w:World} {b o:Nat} {us:List Value} (n:DI P t i) (p:i.known=true) (h:w.rangeAt b o us) (c:us.length=i.size):
  (Instr.loadAt t (.pointer (some ⟨b,o,none⟩))).run P w= .ok (valOf i.agg us) w:=by
 obtain⟨r,z,d,j,k,h3,q,f,g,l⟩:=n.info p;cases a:i.agg with
 | true=>exact run_loadAt_mid w b o t us d h f (g.trans a) (by simp[j,k,c])
 | false=>
  have m:=l a;rw[m] at c
  match us,c with
  | [u],_=>exact eQ f (g.trans a) (show w.cell? ⟨b,o,none⟩=some u by simpa using h 0 u (by simp))
theorem fS (F:∀t,DI P t (TI t)) {o:Oper} {t:TypeId} {x:Operand} (H:o.op= .load t x):Sound P E TI o:=by
 intro w0 X β s a w S f h N Q J;simp only[Bv,H,Js] at h;obtain⟨G,h⟩:=h;have p:=CU S.Bx x;have C:(TI t).agg=false->(TI t).size=1:=by obtain⟨_,_,_,_,_,_,_,_,_,I⟩:=(F t).info G;exact I
 have go:∀(b q:Nat) (cs:List AC) (us:List Value),a.eval x= .pointer (some ⟨b,q,none⟩)->w.rangeAt b q us->AY (Az (cx X w β (AF s.bk))) cs us->cs.length=(TI t).size->
   ∀rd,f=⟨Cz ((TI t).agg,cs),[],rd⟩->o.wp P a w N Q:=by
  intro b q cs us g A d m rd K;subst K;have:=run_load (F t) G A (d.length ▸ m);exact By (u:=valOf (TI t).agg us) (w':=w) (by simp[execOp,H,g,this]) (J _ _ _ (S.val (U3 d (fun e=>by rw[m];exact C e))))
 split at h
 ·rename_i id v off he
  rw[he] at p;have A:=BX p (by simp)
  split at h
  ·rename_i M cs hb
   split at h
   ·rename_i z
    obtain⟨b,arr,e,j,r,h3⟩:=S.blocks id _ hb;have D:v=AW (AF s.bk) id:=by unfold AW;rw[hb];exact z.1.symm
    obtain⟨b',c,g⟩:=A.2 D;obtain rfl:b=b':=Option.some.inj (j.symm.trans c);refine go b off _ _ g (Us r (n:=(TI t).size)) ?_ z.2 _ h.symm;rw[JJ];exact (h3.drop off).take _
   exact h.elim
  exact h.elim
 ·rename_i u y off he
  rw[he] at p;obtain⟨b,q,us,g,j,r,h3⟩:=BX p (by simp)
  split at h
  ·rename_i m
   refine go b (q+off) _ _ g (Ut h3 (n:=(TI t).size)) ?_ m _ h.symm;rw[JJ];exact (((GM _ u y us).1 r).drop off).take _
  exact h.elim
 ·rename_i u id v i k he
  rw[he] at p;have A:=BX p (by simp)
  split at h
  ·rename_i M O l hb
   split at h
   ·rename_i z
    obtain rfl:=T.beq_eq z.2;obtain⟨y,L,h⟩:=h;have D:v=AW (AF s.bk) id:=by unfold AW;rw[hb];exact z.1.symm
    obtain⟨b',c,g⟩:=A.2 D;have B:=S.blocks id _ hb;rcases B with⟨j,r⟩ |⟨b,arr,e,j,r,h3⟩
    ·exact absurd (j.symm.trans c) (by simp)
    obtain rfl:b=b':=Option.some.inj (j.symm.trans c);obtain⟨us,hu,ha⟩:=h3 i y (L ())
    split at h
    ·rename_i m
     refine go b (i*u.size+k) _ _ g (Ut ha (n:=(TI t).size)) ?_ m _ h.symm;rw[JJ];exact (((GM _ u y us).1 hu).drop k).take _
    exact h.elim
   exact h.elim
  exact h.elim
 exact h.elim
theorem BR.new {w0:World} {X:WX} {β:Nat->Option Nat} {s:St} {a:Act} {w:World} (S:BR w0 X β s a w) {dst d:Nat} (z:dst=d) {av:AV} {BO:AM} {rd:List Nat} {u:Value} {w':World} {arr:Array Value} {e:TypeId}
  (hw:w'.heap=w.heap.push (.cells arr e (0,0))) (l:w'.os=w.os) (f:w'.tape=w.tape) (g:w'.output=w.output)
  (m:BO.AW=AW (AF s.bk) d+1) (p:BO.short)
  (x:∀y:Cx,(cx X w β (AF s.bk)).le y->y.w=w'->y.β d=some w.heap.size->Ci y d BO)
  (C:∀y:Cx,(cx X w β (AF s.bk)).le y->y.w=w'->y.β d=some w.heap.size->y.cv d=AW (AF s.bk) d+1->BQ y av u):
  ∃q,BR w0 X q (s.app (some dst) ⟨av,[(d,BO)],rd⟩) (a.put (some dst) u) w':=by
 subst z;have c:∀b,b<w.heap.size->w'.heap[b]? =w.heap[b]? :=fun b hb=>by rw[hw,Array.getElem?_push,if_neg (by omega)]
 have n:∀b o,w.heap[b]? =some o->b<w.heap.size:=fun b o h=>by
  rcases Nat.lt_or_ge b w.heap.size with h' | h'
  ·exact h'
  simp[Array.getElem?_eq_none h'] at h
 by_cases j:dst<s.bk.length
 ·refine⟨fun k=>if k=dst then some w.heap.size else β k,S.write j p (fun k A=>by simp[A]) (by omega) (fun e=>absurd e (by omega)) (fun b hb _=>c b hb) (by rw[hw];simp)
   (fun b i e' r=>⟨i,(c b (n b _ r)).trans r,rfl⟩) l f g (fun _ b hb=> .inr ?_) (fun hle=>?_) (fun hle=>?_)⟩
  ·simp at hb;omega
  ·exact x _ hle rfl (by show (if dst=dst then _ else _)=_;simp)
  exact C _ hle rfl (by show (if dst=dst then _ else _)=_;simp) (by show AW _ dst=_;rw[Eg _ _ _ j,if_pos rfl,m])
 have t:s.bk.length<=dst:=by omega
 have v:s.sl.length<=dst:=by have:=S.len;have:=S.Gf;omega
 refine⟨β,?_⟩
 have B:s.app (some dst) ⟨av,[(dst,BO)],rd⟩=s.app none ⟨.one .BZ,[],rd⟩:=by
  simp[St.app,Ed,CZ,Gr _ _ _ t,Gr _ _ _ v]
 have ha:a.put (some dst) u=a.put none undef:=by
  have:a.tmps.size<=dst:=by have:=S.len;omega
  simp[Act.put,Array.setIfInBounds_eq_of_size_le this]
 rw[B,ha];exact S.ext c (by rw[hw];simp) l f g (HX _ _)
theorem VR {w:World} (t:TypeId) (v:Value):(newVar t v).run P w= .ok ⟨w.heap.size,0,none⟩ {w with heap:=w.heap.push (.cells v.cells t (0,0))}:=by
 simp[newVar,newRow,newObj,Sem.run]
theorem fG (n:∀t,DI P t (TI t)) {o:Oper} {t:TypeId} (j:o.op= .alloc t) (p:o.dst≠none):Sound P E TI o:=by
 intro w0 X β s a w S f h N Q i;simp only[Bv,j] at h;obtain⟨r,h⟩:=h;subst h;obtain⟨F,z,d,l,x,h3,m,A,B,C⟩:=(n t).info r
 have b:(execOp a.eval o).run P w= .ok (.value (.pointer (some ⟨w.heap.size,0,none⟩))) {w with heap:=w.heap.push (.cells z.cells t (0,0))}:=by
  simp[execOp,j,Instr.alloc,zeroValue,typeInfo,l,h3,VR]
 obtain⟨q,g⟩:=Option.ne_none_iff_exists'.1 p;have c:BS o=q:=by simp[BS,g]
 rw[c,g] at i
 obtain⟨v,k⟩:=S.new (dst:=q) (d:=q) rfl (av:= .one (.AD q (AW (AF s.bk) q+1) 0)) (BO:= .var (AW (AF s.bk) q+1) (TI t).zero) (rd:=[q]) (u:= .pointer (some ⟨w.heap.size,0,none⟩))
  (w':={w with heap:=w.heap.push (.cells z.cells t (0,0))}) (arr:=z.cells) (e:=t) rfl rfl rfl rfl rfl trivial
  (fun y _ hw hb=>⟨_,z.cells,t,hb,by rw[hw];simp,m y⟩) (fun y _ _ hb D=>Or.inr ⟨⟨rfl,by omega⟩,fun _=>⟨_,hb,rfl⟩⟩)
 exact By b (by rw[g];exact i _ _ _ k)
theorem fJ {o:Oper} {t:TypeId} {x:Operand} (p:o.op= .box t x) (v:o.dst≠none):Sound P E TI o:=by
 intro w0 X β s a w S f h N Q m;simp only[Bv,p] at h;have z:=CU S.Bx x
 have b:(ev s.sl x).full=true/\f=⟨.one (.AD (BS o) (AW (AF s.bk) (BS o)+1) 0),[(BS o,.var (AW (AF s.bk) (BS o)+1) (ev s.sl x).cs)],[BS o]⟩:=by
  split at h
  ·exact h.elim
  ·exact h.elim
  rename_i B C
  refine⟨?_,h.symm⟩;cases D:ev s.sl x with
  | one c=>cases c <;> simp_all [AV.full]
  | agg cs=>rfl
  | AE xs=>simp_all
 obtain⟨j,rfl⟩:=b;have k:∀xs,ev s.sl x≠ .AE xs:=fun xs e=>by rw[e] at j;simp[AV.full] at j
 have n:=(KW z k).cells j
 have g:(execOp a.eval o).run P w= .ok (.value (.pointer (some ⟨w.heap.size,0,none⟩))) {w with heap:=w.heap.push (.cells (a.eval x).cells t (0,0))}:=by
  simp[execOp,p,Instr.box,VR]
 obtain⟨q,l⟩:=Option.ne_none_iff_exists'.1 v;have i:BS o=q:=by simp[BS,l]
 rw[i,l] at m
 obtain⟨A,r⟩:=S.new (dst:=q) (d:=q) rfl (av:= .one (.AD q (AW (AF s.bk) q+1) 0)) (BO:= .var (AW (AF s.bk) q+1) (ev s.sl x).cs) (rd:=[q]) (u:= .pointer (some ⟨w.heap.size,0,none⟩))
  (w':={w with heap:=w.heap.push (.cells (a.eval x).cells t (0,0))}) (arr:=(a.eval x).cells) (e:=t) rfl rfl rfl rfl rfl trivial
  (fun y hle hw hb=>⟨_,_,t,hb,by rw[hw];simp,n.mono fun _ _=>Az.mono hle⟩) (fun y _ _ hb n=>Or.inr ⟨⟨rfl,by omega⟩,fun _=>⟨_,hb,rfl⟩⟩)
 exact By g (by rw[l];exact m _ _ _ r)
end
end Go.Abs
namespace Go.Abs
open Go.RowKit
theorem O8 {α:Type} (l:List α) (o:Nat):C3 l o []=l:=by
 induction l generalizing o with
 | nil=>cases o <;> rfl
 | cons c l a=>cases o with
  | zero=>rfl
  | succ o=>simp[C3,a]
theorem O9 {α:Type}:∀(l:List α) (o:Nat) (v:α) (r:List α),C3 (l.set o v) (o+1) r=C3 l o (v::r)
 |[],0,_,_|[],_+1,_,_=>rfl
 | c::l,0,v,r=>by simp[C3]
 | c::l,o+1,v,r=>by simp[C3,O9 l o v r]
theorem AY.C3 {α γ:Type} {R:α->γ->Prop}:∀{l:List α} {m:List γ} (o:Nat) {xs:List α} {ys:List γ},AY R l m->AY R xs ys->AY R (C3 l o xs) (C3 m o ys)
 |[],[],0,[],[],_,_|[],[],0,_::_,_::_,_,_|[],[],_+1,_,_,_,_=>trivial
 | _::_,_::_,0,[],[],h,_=>h
 | _::_,_::_,0,_::_,_::_,h,h'=>⟨h'.1,AY.C3 0 h.2 h'.2⟩
 | _::_,_::_,o+1,_,_,h,h'=>⟨h.1,AY.C3 o h.2 h'⟩
 |[],_::_,_,_,_,h,_|_::_,[],_,_,_,h,_=>h.elim
 |_,_,0,[],_::_,_,h'|_,_,0,_::_,[],_,h'=>h'.elim
theorem JG (b:Nat):∀(vs:List Value) (o:Nat) (w:World) (arr:Array Value) (e:TypeId),w.heap[b]? =some (.cells arr e (0,0))->
  ∃a,(w.setCells b o vs).heap[b]? =some (.cells a e (0,0))/\a.toList=C3 arr.toList o vs/\a.size=arr.size
 | [],o,w,arr,e,h=>⟨arr,h,(O8 _ _).symm,rfl⟩
 | v::r,o,w,arr,e,h=>by
  have c:(w.setCell ⟨b,o,none⟩ v).heap[b]? =some (.cells (arr.setIfInBounds o v) e (0,0)):=by
   simp[World.setCell,Array.getElem?_modify,h]
  obtain⟨a,d,h3,f⟩:=JG b r (o+1) _ _ e c;exact⟨a,d,by rw[h3,Array.toList_setIfInBounds,O9],by simpa using f⟩
theorem Kf (b:Nat):∀(vs:List Value) (o:Nat) (w:World) (k:Nat),k≠b->(w.setCells b o vs).heap[k]? =w.heap[k]?
 | [],_,_,_,_=>rfl
 | v::r,o,w,k,h=>by
  rw[World.setCells,Kf b r (o+1) _ k h];simp[World.setCell,Array.getElem?_modify,Ne.symm h]
theorem Pf (b:Nat):∀(vs:List Value) (o:Nat) (w:World),(w.setCells b o vs).os=w.os/\(w.setCells b o vs).tape=w.tape/\(w.setCells b o vs).output=w.output/\(w.setCells b o vs).heap.size=w.heap.size
 | [],_,_=>⟨rfl,rfl,rfl,rfl⟩
 | v::r,o,w=>by
  obtain⟨a,c,h3,d⟩:=Pf b r (o+1) (w.setCell ⟨b,o,none⟩ v);exact⟨a,c,h3,d.trans (by simp[World.setCell])⟩
theorem Pv {w:World} {b off n:Nat} {arr:Array Value} {e:TypeId} (h:w.heap[b]? =some (.cells arr e (0,0))) (c:off+n<=arr.size):w.there b off n:=by
 intro j a;have:off+j<arr.size:=by omega
 simp[World.cell?,World.frozen?,h,this]
section
variable {P:Program} {E:Env} {TI:TypeId->Info}
theorem L3 {x:Cx}:∀{c d:AC} {v:Value},BF c d->Az x c v->Az x d v
 |.int _ _,_,_,h,r|.bool _,_,_,h,r|.fn _,_,_,h,r|.sl _ _,_,_,h,r=>by rw[show _=_ from h];exact r
 | .nil,_,_,h,r=>by
  rcases h with rfl |⟨t,rfl⟩
  ·exact r
  rw[show _=_ from r];exact⟨none,0,rfl,Nat.le_refl _,by simp,.inl rfl⟩
 |.BZ,_,_,h,_|.AT _ _ _ _ _,_,_,h,_|.Cw _ _ _ _ _,_,_,h,_|.AD _ _ _,_,_,h,_|.Cd _ _ _ _ _,_,_,h,_|.C8 _ _ _,_,_,h,_|.ub _,_,_,h,_|.own _ _ _,_,_,h,_=>h.elim
theorem LK {x:Cx} {R:AC->AC->Prop} (hR:∀c d v,R c d->Az x c v->Az x d v):∀{l m:List AC} {vs:List Value},Aw R l m->AY (Az x) l vs->AY (Az x) m vs
 | [],[],[],_,_=>trivial
 | _::_,_::_,_::_,h,r=>⟨hR _ _ _ h.1 r.1,LK hR h.2 r.2⟩
 |[],_::_,_,h,_|_::_,[],_,h,_=>h.elim
 |[],[],_::_,_,r|_::_,_::_,[],_,r=>r.elim
theorem ET {bk:Nat->Option AM} {id:Nat} {b:AM} (h:bk id=some b):AW bk id=b.AW:=by unfold AW;rw[h]
theorem fY (hT:∀t,DI P t (TI t)) {o:Oper} {t:TypeId} {p x:Operand} (ho:o.op= .store t p x):Sound P E TI o:=by
 intro w0 X β s a w S f h N Q hN;simp only[Bv,ho] at h;obtain⟨hk,h⟩:=h;have hp:=CU S.Bx p;have hx:=CU S.Bx x;obtain⟨ti,z,d,h1,h2,h3,h4,h5,h6,h7⟩:=(hT t).info hk
 have go:∀(id b q:Nat) (arr:Array Value) (e:TypeId) (BO:AM) (ys:List AC),a.eval p= .pointer (some ⟨b,q,none⟩)->id<s.bk.length->live (AF s.bk) id->β id=some b->w.heap[b]? =some (.cells arr e (0,0))->
   AY (Az (cx X w β (AF s.bk))) ys (a.eval x).cells.toList->ys.length=(TI t).size->q+(TI t).size<=arr.size->BO.AW=AW (AF s.bk) id->BO.short->
   (∀y:Cx,(cx X w β (AF s.bk)).le y->y.w=w.setCells b q (a.eval x).cells.toList->y.β id=some b->Ci y id BO)->∀rd,f=⟨.one .BZ,[(id,BO)],rd⟩->o.wp P a w N Q:=by
  intro id b q arr e BO ys D a6 hl hb hh A hlen hq an ai hB rd hf;subst hf;have M:(a.eval x).cells.size=ti.size:=by have:=A.length;simp only[Array.length_toList] at this;omega
  have a1:=eR (P:=P) (t:=t) (b:=b) (o:=q) (v:=a.eval x) h1 M (Pv hh (by omega)) (A.one);obtain⟨c1,c2,c3,c4⟩:=Pf b (a.eval x).cells.toList q w;refine gq (w':=w.setCells b q (a.eval x).cells.toList) (by simp[execOp,ho,D,a1]) (hN β _ _ ?_);refine S.write a6 ai (fun _ _=>rfl) (by omega) (fun _=>⟨rfl,fun _=>hl⟩) (fun k _ hk=>Kf b _ _ _ k (fun e=>hk hl (e ▸ hb))) (by omega) (fun k r e' Y=>?_) c1 c2 c3 (fun _ k ad=> .inl ⟨ad,hl⟩) (fun hle=>hB _ hle rfl hb) (fun _=>HX _ _)
  by_cases e1:k=b
  ·subst e1;obtain⟨V,g1,g2,H⟩:=JG k (a.eval x).cells.toList q w r e' Y;exact⟨V,g1,H⟩
  exact⟨r,(Kf b _ _ _ k e1).trans Y,rfl⟩
 have C:∀{id:Nat} {b:AM},AF s.bk id=some b->id<s.bk.length:=fun {id b} hb=>by
  rcases Nat.lt_or_ge id s.bk.length with h | h
  ·exact h
  rw[HN _ _ h] at hb;cases hb
 split at h
 ·rename_i id v off he
  rw[he] at hp;have hr:=BX hp (by simp)
  split at h
  ·exact h.elim
  ·exact h.elim
  ·rename_i v' cs a8 aa ab
   have hb:AF s.bk id=some (.var v' cs):=by assumption
   split at h
   ·rename_i hc
    obtain⟨U,hlen,al⟩:=hc;subst U
    have g:(ev s.sl x).full=true:=by
     cases R:ev s.sl x with
     | one c=>cases c <;> simp_all [AV.full]
     | agg cs=>rfl
     | AE xs=>simp_all
    have L:∀xs,ev s.sl x≠ .AE xs:=fun xs e=>by rw[e] at g;simp[AV.full] at g
    have A:=(KW hx L).cells g;obtain⟨b,arr,e,g1,g2,H⟩:=S.blocks id _ hb;have R:v'=AW (AF s.bk) id:=(ET hb).symm;obtain⟨b',F,D⟩:=hr.2 R;obtain rfl:b=b':=Option.some.inj (g1.symm.trans F);have a2:=H.length;simp only[Array.length_toList] at a2;refine go id b off arr e _ _ D (C hb) ⟨_,hb,rfl⟩ g1 g2 A hlen (by omega) (by simpa [AM.AW] using R) (by trivial) (fun y hle hw J=>?_) _ h.symm;obtain⟨r,q1,q2,q3⟩:=JG b (a.eval x).cells.toList off w arr e g2;refine⟨b,r,e,J,by rw[hw];exact q1,?_⟩;rw[q2];exact ((H.mono fun _ _=>Az.mono hle).C3 off (A.mono fun _ _=>Az.mono hle))
   exact h.elim
  exact h.elim
 ·rename_i u id v i k he
  rw[he] at hp;have hr:=BX hp (by simp)
  split at h
  ·exact h.elim
  ·exact h.elim
  ·rename_i v' u' l a8 aa ab
   have hb:AF s.bk id=some (.arr v' u' l):=by assumption
   split at h
   ·rename_i hc
    obtain⟨U,ae,M,aj⟩:=hc;subst U ae;obtain rfl:=T.beq_eq aj;obtain⟨z',hz,h⟩:=h;obtain⟨hi,W⟩:=hz ()
    have g:(ev s.sl x).full=true:=by
     cases R:ev s.sl x with
     | one c=>cases c <;> simp_all [AV.full]
     | agg cs=>rfl
     | AE xs=>simp_all
    have L:∀xs,ev s.sl x≠ .AE xs:=fun xs e=>by rw[e] at g;simp[AV.full] at g
    have A:=LK (fun _ _ _=>L3) W ((KW hx L).cells g);have R:v'=AW (AF s.bk) id:=(ET hb).symm;obtain⟨b',F,D⟩:=hr.2 R;have ah:=S.blocks id _ hb;rcases ah with⟨g1,g2⟩ |⟨b,arr,e,g1,g2,H⟩
    ·exact absurd (g1.symm.trans F) (by simp)
    obtain rfl:b=b':=Option.some.inj (g1.symm.trans F);have hn:=T.size_pos u
    have af:i*u.size+u.size<=arr.size:=by
     obtain⟨us,G,O⟩:=H i l[i] (by simp[hi]);have ak:=HY _ _ _ G;have ag:u.size-1<us.length:=by omega
     have:=O (u.size-1) us[u.size-1] (by simp[ag]);simp only[World.cell?,g2] at this
     have B:i*u.size+(u.size-1)<arr.size:=by
      rcases Nat.lt_or_ge (i*u.size+(u.size-1)) arr.size with B | B
      ·exact B
      simp[Array.getElem?_eq_none B] at this
     omega
    refine go id b (i*u.size) arr e _ _ D (C hb) ⟨_,hb,rfl⟩ g1 g2 A (by rw[FV];exact M.symm) (by omega) (by simpa [AM.AW] using R) (by have:=S.lens id _ hb;simpa [AM.short] using this) (fun y hle hw J=>?_) _ (h _ rfl).symm;refine Or.inr ?_;obtain⟨r,q1,q2,q3⟩:=JG b (a.eval x).cells.toList (i*u.size) w arr e g2;refine⟨b,r,e,J,by rw[hw];exact q1,fun j y' hj=>?_⟩;have a5:(a.eval x).cells.toList.length=u.size:=by rw[<-A.length,FV]
    by_cases Z:j=i
    ·subst Z;have:y'=z':=by simp[List.getElem?_set,hi] at hj;exact hj.symm
     subst this;refine⟨(a.eval x).cells.toList,((GM _ u y' _).2 (A.mono fun _ _=>Az.mono hle)),fun m v hm=>?_⟩;rw[hw]
     have K:m<(a.eval x).cells.toList.length:=by
      rcases Nat.lt_or_ge m (a.eval x).cells.toList.length with B | B
      ·exact B
      simp[List.getElem?_eq_none B] at hm
     rw[World.cell?_setCells_in b _ (j*u.size) w (fun m hm=>(Pv g2 (n:=u.size) (by omega) m (by omega)).1) m K];simp[List.getElem?_eq_getElem K] at hm;simpa using hm
    have a7:l[j]? =some y':=by simpa [List.getElem?_set,Ne.symm Z] using hj
    obtain⟨us,G,O⟩:=H j y' a7;refine⟨us,CR hle.I u y' us G,fun m v hm=>?_⟩;have ak:=HY _ _ _ G
    have K:m<us.length:=by
     rcases Nat.lt_or_ge m us.length with B | B
     ·exact B
     simp[List.getElem?_eq_none B] at hm
    rw[hw,World.cell?_setCells_out b _ (i*u.size) w _ (fun _ _=>?_)]
    ·exact O m v hm
    show j*u.size+m<i*u.size\/i*u.size+_<=j*u.size+m
    rw[a5];rcases Nat.lt_or_ge j i with B | B
    ·left
     have:(j+1)*u.size<=i*u.size:=Nat.mul_le_mul_right _ B;rw[Nat.add_mul] at this;omega
    right
    have:(i+1)*u.size<=j*u.size:=Nat.mul_le_mul_right _ (by omega);rw[Nat.add_mul] at this;omega
   exact h.elim
  exact h.elim
 exact h.elim
end
end Go.Abs
namespace Go.Abs
open Go.RowKit
section
variable {P:Program} {E:Env} {TI:TypeId->Info}
theorem Vn {w:World} {t:TypeId} {a:TypeInfo} (h:P.info? t=some a):(sizeOf t).run P w= .ok a.size w:=by simp[sizeOf,typeInfo,h]
theorem fR (O:∀t,DI P t (TI t)) {o:Oper} {t:TypeId} {x i:Operand} (I:o.op= .indexAddr t x i):Sound P E TI o:=by
 intro w0 X β s a w S f h N Q H;simp only[Bv,I] at h;obtain⟨U,h⟩:=h;obtain⟨hu,ei,z,g1,g2,g3,g4,g5,g6⟩:=(O t).sl U;have r:=CU S.Bx x;have q:=CU S.Bx i
 have go:∀(b off len cap:Nat) (k:IntKind) (n:Int),a.eval x= .slice (some ⟨b,off,none⟩) len cap->a.eval i= .int k n->0<=n->n<len->
   (execOp a.eval o).run P w= .ok (.value (.pointer (some ⟨b,off+n.toNat*(TI t).elem.size,none⟩))) w:=by
  intro b off len cap k n p D K A;simp[execOp,I,p,D,Instr.indexAt,asIntOf,run_underlying hu,Vn g1,g2,K,A,Addr.add_mid]
 split at h
 ·rename_i u l k n he d
  rw[he] at r;rw[d] at q;have g:a.eval i= .int k n:=BX q (by simp);obtain⟨base,cap,p,A,L,h3⟩:=BX r (by simp);obtain⟨c,y,Z,h⟩:=h;obtain rfl:=T.beq_eq c;obtain⟨j,m⟩:=Z ();subst h
  have C:n.toNat<l.length:=by
   rcases Nat.lt_or_ge n.toNat l.length with B | B
   ·exact B
   simp[List.getElem?_eq_none B] at m
  rcases h3 with rfl |⟨b,off,rfl,M,R⟩
  ·simp at C
  obtain⟨us,F,G⟩:=R n.toNat y m;refine By (go b off l.length cap k n (by simpa using p) g j (by omega)) (H _ _ _ (S.val (Or.inr ⟨b,off+n.toNat*(TI t).elem.size,us,by rw[Nat.add_zero],M,F,G⟩)))
 ·rename_i u id v off len k n he d
  rw[he] at r;rw[d] at q;have g:a.eval i= .int k n:=BX q (by simp);obtain⟨c,h⟩:=h;obtain rfl:=T.beq_eq c
  split at h
  ·rename_i p
   have J:=BX r (by simp);obtain⟨base,cap,W,A,L,_,h3⟩:=J.2 p.symm;obtain⟨D,h⟩:=h;obtain⟨j,V⟩:=D ();obtain rfl:=h _ rfl;rcases h3 with rfl |⟨b,arr,e,hb,rfl,hh,Y⟩
   ·omega
   refine By (go b (off*(TI t).elem.size) len cap k n W g j (by omega)) (H _ _ _ (S.val (Or.inr ⟨⟨rfl,J.1.2⟩,fun _=>⟨b,hb,?_⟩⟩)));rw[Nat.add_mul,Nat.add_zero]
  exact h.elim
 exact h.elim
theorem JI {w:World} {k:IntKind} {n:Int} {y:Nat} {c:BoundsCode} (a:0<=n) (b:n<=y):(Instr.sliceBound (.int k n) y c).run P w= .ok n.toNat w:=by
 simp[Instr.sliceBound,asIntOf,a,b]
theorem Ni {w:World} {a:Act} {x:Cx} {lo y mx:Option Operand} {s:St} (u:∀o,BQ x (ev s.sl o) (a.eval o)) {len cap:Nat} (v:len<=cap) {R:Nat->Nat->Bool->Prop}
  (h:G4 len (lo.map (ev s.sl)) (y.map (ev s.sl)) (mx.map (ev s.sl)) R):
  ∃(l q m:Nat) (c:Bool),(Instr.sliceBounds true len cap (lo.map a.eval) (y.map a.eval) (mx.map a.eval)).run P w= .ok (l,q,m) w/\l<=q/\q<=len/\q<=m/\m<=cap/\(c=true->m=q/\l=0)/\(c=false->m=cap)/\R l q c:=by
 have b:∀{o:Operand} {k:IntKind} {n:Int},ev s.sl o= .one (.int k n)->a.eval o= .int k n:=fun {o k n} e=>by
  have:=u o;rw[e] at this;exact BX this (by simp)
 unfold G4 at h
 split at h
 ·rename_i f d g
  simp only[Option.map_eq_none_iff] at f d g;subst f d g;exact⟨0,len,cap,false,by simp[Instr.sliceBounds],Nat.zero_le _,Nat.le_refl _,v,Nat.le_refl _,by simp,fun _=>rfl,h _ rfl⟩
 ·rename_i k n f d g
  simp only[Option.map_eq_none_iff,Option.map_eq_some_iff] at f d g;obtain⟨p,rfl,f⟩:=f;subst d g;obtain⟨hb,h⟩:=h;obtain⟨i,j⟩:=hb ();have j:n<=(len:Int):=by omega
  exact⟨n.toNat,len,cap,false,by simp[Instr.sliceBounds,b f,JI i j],by omega,Nat.le_refl _,v,Nat.le_refl _,by simp,fun _=>rfl,h _ _ ⟨rfl,rfl⟩⟩
 ·rename_i k n f d g
  simp only[Option.map_eq_none_iff,Option.map_eq_some_iff] at f d g;obtain⟨p,rfl,d⟩:=d;subst f g;obtain⟨hb,h⟩:=h;obtain⟨i,j⟩:=hb ();have r:n<=(cap:Int):=by omega
  exact⟨0,n.toNat,cap,false,by simp[Instr.sliceBounds,b d,JI i r],by omega,by omega,by omega,Nat.le_refl _,by simp,fun _=>rfl,h _ rfl⟩
 ·rename_i k n k' n' f d g
  simp only[Option.map_eq_none_iff,Option.map_eq_some_iff] at f d g;obtain⟨p,rfl,f⟩:=f;obtain⟨z,rfl,d⟩:=d;subst g;obtain⟨hb,h⟩:=h;obtain⟨i,j,r⟩:=hb ();have h3:n'<=(cap:Int):=by omega
  have t:n<=(n'.toNat:Int):=by omega
  exact⟨n.toNat,n'.toNat,cap,false,by simp[Instr.sliceBounds,b f,b d,JI (show 0<=n' by omega) h3,JI i t],by omega,by omega,by omega,Nat.le_refl _,by simp,fun _=>rfl,h _ _ ⟨rfl,rfl⟩⟩
 ·rename_i k n k' n' f d g
  simp only[Option.map_eq_none_iff,Option.map_eq_some_iff] at f d g;obtain⟨p,rfl,d⟩:=d;obtain⟨z,rfl,g⟩:=g;subst f;obtain⟨hb,h⟩:=h;obtain⟨i,j,r⟩:=hb ();subst j;have h3:n<=(cap:Int):=by omega
  have t:n<=(n.toNat:Int):=by omega
  exact⟨0,n.toNat,n.toNat,true,by simp[Instr.sliceBounds,b d,b g,JI i h3,JI i t],by omega,by omega,by omega,by omega,fun _=>⟨rfl,rfl⟩,by simp,h _ rfl⟩
 exact h.elim
theorem fX (Z:∀t,DI P t (TI t)) {o:Oper} {t:TypeId} {x:Operand} {lo U mx:Option Operand} (V:o.op= .slice t x lo U mx):Sound P E TI o:=by
 intro w0 X β s a w S f h N Q r;simp only[Bv,V] at h;obtain⟨hk,h⟩:=h;obtain⟨hu,ei,z,g1,g2,g3,g4,g5,g6⟩:=(Z t).sl hk;have k:=CU S.Bx x
 have go:∀(base:Option Addr) (len cap l q m:Nat),a.eval x= .slice base len cap->(Instr.sliceBounds true len cap (lo.map a.eval) (U.map a.eval) (mx.map a.eval)).run P w= .ok (l,q,m) w->
   (execOp a.eval o).run P w= .ok (.value (.slice (if m=l then base else base.map (·.add (l*(TI t).elem.size))) (q-l) (m-l))) w:=by
  intro base len cap l q m n g;simp[execOp,V,n,Instr.sliceAt,run_underlying hu,Instr.slice,g,Vn g1,g2]
 unfold G3 at h
 split at h
 ·rename_i u l he
  rw[he] at k;obtain⟨base,cap,n,D,W,h3⟩:=BX k (by simp);obtain⟨d,h⟩:=h;obtain rfl:=T.beq_eq d;obtain⟨p,q,m,c,g,b1,b2,b3,M,B,O,hR⟩:=Ni (P:=P) (w:=w) (CU S.Bx) D (h _ rfl);obtain rfl:=hR _ rfl;refine By (go base l.length cap p q m (by simpa using n) g) (r _ _ _ (S.val (Or.inr ?_)));have hlen:((l.take q).drop p).length=q-p:=by simp;omega
  refine⟨_,m-p,by rw[hlen],by rw[hlen];omega,by rw[hlen];omega,?_⟩
  by_cases I:q=p
  ·left;subst I;simp
  right
  rcases h3 with rfl |⟨b,off,rfl,Y,hc⟩
  ·simp at b2;omega
  refine⟨b,off+p*(TI t).elem.size,by rw[if_neg (by omega)];simp[Addr.add_mid],Y,fun j y A=>?_⟩
  have G:l[p+j]? =some y:=by
   rw[List.getElem?_drop,List.getElem?_take] at A
   split at A
   ·exact A
   cases A
  obtain⟨us,J,K⟩:=hc (p+j) y G;exact⟨us,J,by rw[show off+p*(TI t).elem.size+j*(TI t).elem.size=off+(p+j)*(TI t).elem.size by rw[Nat.add_mul];omega];exact K⟩
 ·rename_i u id v off len he
  rw[he] at k;obtain⟨d,h⟩:=h;obtain rfl:=T.beq_eq d
  split at h
  ·rename_i L
   have i:=BX k (by simp);obtain⟨base,cap,hs,D,W,_,h3⟩:=i.2 L.symm;obtain⟨p,q,m,c,g,b1,b2,b3,M,B,O,hR⟩:=Ni (P:=P) (w:=w) (CU S.Bx) D h;have hR:=hR _ _ ⟨rfl,rfl⟩;refine By (go base len cap p q m hs g) ?_
   have R:∀C,(C=true->m-p=q-p)->Fy w (β id) (TI t).elem.size (off+p) (q-p) C (.slice (if m=p then base else base.map (·.add (p*(TI t).elem.size))) (q-p) (m-p)):=by
    intro C F;refine⟨_,m-p,rfl,by omega,by omega,F,?_⟩
    by_cases H:m=p
    ·left;omega
    right
    rcases h3 with rfl |⟨b,arr,e,hb,rfl,hh,a1⟩
    ·omega
    refine⟨b,arr,e,hb,by rw[if_neg H];simp[Addr.add_mid,Nat.add_mul],hh,?_⟩;have:(off+p+(m-p))*(TI t).elem.size<=(off+cap)*(TI t).elem.size:=Nat.mul_le_mul_right _ (by omega);omega
   cases c with
   | true=>
    obtain rfl:=hR;exact r _ _ _ (S.val (Or.inr ⟨⟨rfl,i.1.2⟩,fun _=>R true (fun _=>by have:=B rfl;omega)⟩))
   | false=>
    obtain rfl:=hR;exact r _ _ _ (S.val (Or.inr ⟨⟨rfl,i.1.2⟩,fun _=>R false (by simp)⟩))
  exact h.elim
 ·rename_i he
  rw[he] at k;have n:a.eval x= .slice none 0 0:=BX k (by simp);obtain⟨p,q,m,c,g,b1,b2,b3,M,B,O,hR⟩:=Ni (P:=P) (w:=w) (cap:=0) (CU S.Bx) (Nat.le_refl _) h;obtain rfl:=hR;have:p=0:=by omega
  have:q=0:=by omega
  have:m=0:=by omega
  subst_vars;exact By (go none 0 0 0 0 0 n g) (r _ _ _ (S.val (Or.inr (by simp[Az]))))
 exact h.elim
end
end Go.Abs
