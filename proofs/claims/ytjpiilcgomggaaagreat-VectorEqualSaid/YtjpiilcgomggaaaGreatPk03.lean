/- Part 4 of a proof. Conditions: each theorem's own. -/
import Derived.Laws.Cover3
import Derived.Test.YtjpiilcgomggaaaGreatPk02
set_option linter.all false
set_option maxHeartbeats 8000000
namespace Go.Abs
open Go.RowKit
section
variable {P:Program} {E:Env} {TI:TypeId->Info}
theorem ZD (hT:∀t,Ce P t (TI t)) {o:Oper} {op:BinOp} {t K:TypeId} {x y:Operand} (v:o.op= .binOp op t x y K):Sound P E TI o:=by
 intro w0 X β s a w S f h N Q z;simp only[BP,v] at h;have hx:=Bm S.BS x;have r:=Bm S.BS y
 split at h
 ·rename_i k m k' n he g
  rw[he] at hx;rw[g] at r;have i:a.eval x= .int k m:=A0 hx (by simp);have j:a.eval y= .int k' n:=A0 r (by simp)
  split at h
  ·rename_i I
   obtain⟨c,A⟩:∃c,f=⟨.one c,[],[]⟩/\arith op k m n (fun d=>d=c):=by
    cases op <;> cases k <;> simp only[arith] at h ⊢ <;> first
     | (obtain⟨q,F⟩:=h _ rfl;exact⟨_,F.symm,fun _ e=>⟨by first | exact q | (rw[e];exact q),by rw[e]⟩⟩)
     | exact⟨_,(h _ rfl).symm,fun _ e=>by rw[e]⟩
   obtain⟨rfl,A⟩:=A;obtain⟨u,hu,D⟩:=O7 (P:=P) (w:=w) (t:=t) I A;refine BT (u:=u) (w':=w) ?_ (z _ _ _ (S.val (Or.inr (D _))));simp only[execOp,v,i,j,Sem.run_bind,Wg,Result.andThen_ok,hu,Sem.run_pure]
  exact h.elim
 ·rename_i m n he g
  rw[he] at hx;rw[g] at r;have i:a.eval x= .bool m:=A0 hx (by simp);have j:a.eval y= .bool n:=A0 r (by simp);obtain⟨q,h⟩:=h;have hu:=(hT t).isb q
  have C:(Op.equal t (.bool m) (.bool n)).run P w= .ok (m==n) w:=by
   have H:∀d,(Op.equalIn (d+1) t (.bool m) (.bool n)).run P w= .ok (m==n) w:=fun d=>by
    unfold Op.equalIn;simp[run_underlying hu]
   exact H 9999
  have B:∀op:BinOp,(eqGuard op t x y (.bool m) (.bool n)).run P w= .ok () w:=by
   intro op;unfold eqGuard;cases op <;> simp
  cases op <;> simp only at h
  all_goals first
   | exact h.elim
   | (obtain rfl:=h _ rfl
      refine BT (w':=w) ?_ (z _ _ _ (S.val (Or.inr rfl)));simp[execOp,v,i,j,Sem.run_bind,B,binOp,C,bne])
 ·rename_i ty l he g
  rw[he] at hx;rw[g] at r;have D:=A0 hx (by simp);have j:a.eval y= .slice none 0 0:=A0 r (by simp);obtain⟨q,h⟩:=h;obtain⟨base,cap,J,_,_,p⟩:=D;have i:a.eval x= .slice base l.length cap:=by simpa using J
  obtain⟨hu,_⟩:=(hT t).sl q;have C:(Op.equal t (.slice base l.length cap) (.slice none 0 0)).run P w= .ok base.isNone w:=run_equal_slice_nil w t _ base l.length cap hu
  have B:∀op:BinOp,(eqGuard op t x y (.slice base l.length cap) (.slice none 0 0)).run P w= .ok () w:=by
   intro op;unfold eqGuard;cases op <;> simp
  cases op <;> simp only at h
  all_goals first
   | exact h.elim
   | (obtain rfl:=h _ rfl
      refine BT (u:= .bool base.isNone) (w':=w) ?_ (z _ _ _ (S.val (Or.inr ⟨_,rfl,fun G=>?_⟩)))
      ·simp[execOp,v,i,j,Sem.run_bind,B,binOp,C]
      rcases p with rfl |⟨b,off,rfl,_⟩
      ·rfl
      simp at G)
 exact h.elim
theorem ZU {o:Oper} {op:UnOp} {t:TypeId} {x:Operand} (j:o.op= .unOp op t x):Sound P E TI o:=by
 intro w0 X β s a w S f h N Q p;simp only[BP,j] at h;have hx:=Bm S.BS x
 split at h
 ·rename_i b he
  rw[he] at hx;have g:a.eval x= .bool b:=A0 hx (by simp);obtain rfl:=(h _ rfl);exact BT (u:= .bool (!b)) (w':=w) (by simp[execOp,j,g,Op.unary]) (p _ _ _ (S.val (Or.inr rfl)))
 ·rename_i k n he
  rw[he] at hx;have g:a.eval x= .int k n:=A0 hx (by simp)
  obtain⟨c,i⟩:∃c,f=⟨.one c,[],[]⟩/\arith .sub k 0 n (fun d=>d=c):=by
   cases k <;> simp only[arith] at h ⊢ <;> first
    | (obtain⟨m,q⟩:=h _ rfl;exact⟨_,q.symm,fun _ e=>⟨by first | exact m | (rw[e];exact m),by rw[e]⟩⟩)
    | exact⟨_,(h _ rfl).symm,fun _ e=>by rw[e]⟩
  obtain⟨rfl,i⟩:=i;obtain⟨u,hu,r⟩:=O7 (P:=P) (w:=w) (t:=t) (.inl rfl) i;have l:(Op.intArith .sub k 0 n).run P w= .ok u w:=by simpa [binOp] using hu
  exact BT (u:=u) (w':=w) (by simp[execOp,j,g,Op.unary,l]) (p _ _ _ (S.val (Or.inr (r _))))
 exact h.elim
theorem ZI (hT:∀t,Ce P t (TI t)) {o:Oper} {src dst:TypeId} {x:Operand} (g:o.op= .convert src dst x):Sound P E TI o:=by
 intro w0 X β s a w S f h N Q i;simp only[BP,g] at h;obtain⟨l,h⟩:=h;have hx:=Bm S.BS x
 split at h
 ·rename_i k k' n j he
  rw[he] at hx;have c:a.eval x= .int k' n:=A0 hx (by simp);obtain rfl:=h _ rfl;obtain⟨_,_,d,_,_,_,_,hu,_⟩:=(hT src).info l;have b:=(hT dst).kind k j;refine BT (u:= .int k (k.wrap n)) (w':=w) ?_ (i _ _ _ (S.val (Or.inr rfl)));simp[execOp,g,c,convert,run_underlying hu,run_underlying b,Conv.intToInt]
 exact h.elim
theorem ZK (hT:∀t,Ce P t (TI t)) {o:Oper} {t:TypeId} {x:Operand} {i:Nat} (B:o.op= .field t x i):Sound P E TI o:=by
 intro w0 X β s a w S f h N Q K;simp only[BP,B] at h;obtain⟨L,h⟩:=h;have hx:=Bm S.BS x
 split at h
 ·rename_i b n g cs z he
  split at h
  ·rename_i A
   subst h;rw[he] at hx;obtain⟨arr,O,k⟩:=hx;obtain⟨T,hu,hlen,l⟩:=(hT t).fields L (by intro e;simp[e] at z);obtain⟨q,d,D,F,v,U,G,H,y⟩:=l i b n g z;have c:AO (Af (cx X w β (AD s.bk))) (Dk cs b n) ((arr.toList.drop b).take n):=by rw[Hw];exact (k.drop b).take n
   have m:((arr.toList.drop b).take n).length=n:=by rw[<-c.length,A]
   refine BT (u:=valOf g ((arr.toList.drop b).take n)) (w':=w) ?_
    (K _ _ _ (S.val (Rz c (fun e=>by rw[A];exact y e))))
   have j:(part q.type arr b).run P w= .ok (valOf g ((arr.toList.drop b).take n)) w:=by
    unfold part;rw[Sem.run_bind,SM G,Result.andThen_ok,H];cases g with
    | true=>
     cases p:P.info? q.type with
     | none=>simp[p] at v
     | some R=>
      have M:R.size=n:=by simpa [p] using v
      have C:arr.extract b (b+n)=((arr.toList.drop b).take n).toArray:=by
       apply Array.ext';simp only[Array.toList_extract,List.extract_eq_take_drop];rw[show b+n-b=n by omega]
      simp[sizeOf,typeInfo,p,M,C,valOf]
    | false=>
     have:=y rfl;subst this;have I:arr.toList.drop b≠[]:=by intro e;simp[e] at m
     obtain⟨u,r,e⟩:=List.exists_cons_of_ne_nil I
     have J:arr[b]? =some u:=by
      have:=congrArg (·[0]?) e;simpa using this
     simp[J,e,valOf]
   simp[execOp,B,O,Instr.field,run_underlying hu,D,asAgg,F,j]
  exact h.elim
 exact h.elim
theorem Wl {a:Field} {b off n:Nat} {w:World} (d:(P.info? a.type).map (·.size)=some n) (g:0<n):(fieldPlace ⟨b,off,none⟩ a).run P w= .ok ⟨b,off+a.offset,none⟩ w:=by
 cases c:P.info? a.type with
 | none=>simp[c] at d
 | some f=>
  have h:f.size=n:=by simpa [c] using d
  have:¬f.size=0:=by omega
  simp[fieldPlace,sizeOf,typeInfo,c,this,Addr.add_mid]
theorem ZL (hT:∀t,Ce P t (TI t)) {o:Oper} {t:TypeId} {x:Operand} {i:Nat} (G:o.op= .fieldAddr t x i):Sound P E TI o:=by
 intro w0 X β s a w S f h N Q C;simp only[BP,G] at h;obtain⟨I,h⟩:=h;have hx:=Bm S.BS x
 have go:∀(c n:Nat) (g:Bool) (b off:Nat),(TI t).fields[i]? =some (c,n,g)->a.eval x= .pointer (some ⟨b,off,none⟩)->(execOp a.eval o).run P w= .ok (.value (.pointer (some ⟨b,off+c,none⟩))) w:=by
  intro c n g b off l r;obtain⟨K,hu,hlen,F⟩:=(hT t).fields I (by intro e;simp[e] at l);obtain⟨J,d,z,A,B,H,L,M,O⟩:=F i c n g l;subst A;simp[execOp,G,r,Instr.fieldAt,run_underlying hu,z,Instr.sureAddr,Wl B H]
 split at h
 ·rename_i c n g id v off l he
  split at h
  ·rename_i r
   subst h;rw[he] at hx;have p:=A0 hx (by simp);obtain⟨b,D,m⟩:=p.2 r.symm;exact BT (go c n g b off l m) (C _ _ _ (S.val (Or.inr ⟨⟨rfl,p.1.2⟩,fun _=>⟨b,D,rfl⟩⟩)))
  exact h.elim
 ·rename_i c n g u y off l he
  subst h;rw[he] at hx;obtain⟨b,q,us,m,z,A,B⟩:=A0 hx (by simp);exact BT (go c n g b (q+off) l m) (C _ _ _ (S.val (Or.inr ⟨b,q,us,by rw[Nat.add_assoc],z,A,B⟩)))
 ·rename_i c n g u id v j k l he
  split at h
  ·rename_i r
   subst h;rw[he] at hx;have p:=A0 hx (by simp);obtain⟨b,D,m⟩:=p.2 r.symm;exact BT (go c n g b _ l m) (C _ _ _ (S.val (Or.inr ⟨⟨rfl,p.1.2⟩,fun _=>⟨b,D,by rw[Nat.add_assoc]⟩⟩)))
  exact h.elim
 exact h.elim
end
end Go.Abs
namespace Go.Abs
open Go.RowKit
section
variable {P:Program} {E:Env} {TI:TypeId->Info}
theorem Ru {w:World} {b off n:Nat} {arr:Array Value} {e:TypeId} (h:w.heap[b]? =some (.cells arr e (0,0))):w.rangeAt b off ((arr.toList.drop off).take n):=by
 intro j v a
 have:arr[off+j]? =some v:=by
  rw[List.getElem?_take] at a
  split at a
  ·simpa using a
  cases a
 simp[World.cell?,h,this]
theorem Rv {w:World} {b o off n:Nat} {us:List Value} (h:w.rangeAt b o us):w.rangeAt b (o+off) ((us.drop off).take n):=by
 intro j v a;rw[Nat.add_assoc];refine h (off+j) v ?_;rw[List.getElem?_take] at a
 split at a
 ·simpa using a
 cases a
theorem run_load {t:TypeId} {i:Info} {w:World} {b o:Nat} {us:List Value} (hT:Ce P t i) (n:i.known=true) (h:w.rangeAt b o us) (c:us.length=i.size):
  (Instr.loadAt t (.pointer (some ⟨b,o,none⟩))).run P w= .ok (valOf i.agg us) w:=by
 obtain⟨r,z,d,j,k,p,q,f,g,l⟩:=hT.info n;cases a:i.agg with
 | true=>exact run_loadAt_mid w b o t us d h f (g.trans a) (by simp[j,k,c])
 | false=>
  have m:=l a;rw[m] at c
  match us,c with
  | [u],_=>exact Ys f (g.trans a) (show w.cell? ⟨b,o,none⟩=some u by simpa using h 0 u (by simp))
theorem ZN (hT:∀t,Ce P t (TI t)) {o:Oper} {t:TypeId} {x:Operand} (H:o.op= .load t x):Sound P E TI o:=by
 intro w0 X β s a w S f h N Q J;simp only[BP,H,IP] at h;obtain⟨G,h⟩:=h;have hx:=Bm S.BS x;have D:(TI t).agg=false->(TI t).size=1:=by obtain⟨_,_,_,_,_,_,_,_,_,I⟩:=(hT t).info G;exact I
 have go:∀(b q:Nat) (cs:List AC) (us:List Value),a.eval x= .pointer (some ⟨b,q,none⟩)->w.rangeAt b q us->AO (Af (cx X w β (AD s.bk))) cs us->cs.length=(TI t).size->
   ∀rd,f=⟨CE ((TI t).agg,cs),[],rd⟩->o.wp P a w N Q:=by
  intro b q cs us g B d m rd L;subst L;have:=run_load (hT t) G B (d.length ▸ m);exact BT (u:=valOf (TI t).agg us) (w':=w) (by simp[execOp,H,g,this]) (J _ _ _ (S.val (Rz d (fun e=>by rw[m];exact D e))))
 split at h
 ·rename_i id v off he
  rw[he] at hx;have B:=A0 hx (by simp)
  split at h
  ·rename_i O cs z
   split at h
   ·rename_i A
    obtain⟨b,arr,e,j,p,r⟩:=S.blocks id _ z;have F:v=AM (AD s.bk) id:=by unfold AM;rw[z];exact A.1.symm
    obtain⟨b',c,g⟩:=B.2 F;obtain rfl:b=b':=Option.some.inj (j.symm.trans c);refine go b off _ _ g (Ru p (n:=(TI t).size)) ?_ A.2 _ h.symm;rw[Hw];exact (r.drop off).take _
   exact h.elim
  exact h.elim
 ·rename_i u y off he
  rw[he] at hx;obtain⟨b,q,us,g,j,p,r⟩:=A0 hx (by simp)
  split at h
  ·rename_i m
   refine go b (q+off) _ _ g (Rv r (n:=(TI t).size)) ?_ m _ h.symm;rw[Hw];exact (((FK _ u y us).1 p).drop off).take _
  exact h.elim
 ·rename_i u id v i k he
  rw[he] at hx;have B:=A0 hx (by simp)
  split at h
  ·rename_i O R l z
   split at h
   ·rename_i A
    obtain rfl:=T.beq_eq A.2;obtain⟨y,M,h⟩:=h;have F:v=AM (AD s.bk) id:=by unfold AM;rw[z];exact A.1.symm
    obtain⟨b',c,g⟩:=B.2 F;have C:=S.blocks id _ z;rcases C with⟨j,p⟩ |⟨b,arr,e,j,p,r⟩
    ·exact absurd (j.symm.trans c) (by simp)
    obtain rfl:b=b':=Option.some.inj (j.symm.trans c);obtain⟨us,hu,K⟩:=r i y (M ())
    split at h
    ·rename_i m
     refine go b (i*u.size+k) _ _ g (Rv K (n:=(TI t).size)) ?_ m _ h.symm;rw[Hw];exact (((FK _ u y us).1 hu).drop k).take _
    exact h.elim
   exact h.elim
  exact h.elim
 exact h.elim
theorem Aw.new {w0:World} {X:WX} {β:Nat->Option Nat} {s:St} {a:Act} {w:World} (S:Aw w0 X β s a w) {dst d:Nat} (B:dst=d) {av:AV} {As:AH} {rd:List Nat} {u:Value} {w':World} {arr:Array Value} {e:TypeId}
  (hw:w'.heap=w.heap.push (.cells arr e (0,0))) (l:w'.os=w.os) (f:w'.tape=w.tape) (g:w'.output=w.output)
  (m:As.AM=AM (AD s.bk) d+1) (q:As.short)
  (z:∀y:Cx,(cx X w β (AD s.bk)).le y->y.w=w'->y.β d=some w.heap.size->Bx y d As)
  (F:∀y:Cx,(cx X w β (AD s.bk)).le y->y.w=w'->y.β d=some w.heap.size->y.cv d=AM (AD s.bk) d+1->At y av u):
  ∃r,Aw w0 X r (s.app (some dst) ⟨av,[(d,As)],rd⟩) (a.put (some dst) u) w':=by
 subst B;have c:∀b,b<w.heap.size->w'.heap[b]? =w.heap[b]? :=fun b n=>by rw[hw,Array.getElem?_push,if_neg (by omega)]
 have p:∀b o,w.heap[b]? =some o->b<w.heap.size:=fun b o h=>by
  rcases Nat.lt_or_ge b w.heap.size with h' | h'
  ·exact h'
  simp[Array.getElem?_eq_none h'] at h
 by_cases j:dst<s.bk.length
 ·refine⟨fun k=>if k=dst then some w.heap.size else β k,S.write j q (fun k C=>by simp[C]) (by omega) (fun e=>absurd e (by omega)) (fun b n _=>c b n) (by rw[hw];simp)
   (fun b i e' t=>⟨i,(c b (p b _ t)).trans t,rfl⟩) l f g (fun _ b n=> .inr ?_) (fun hle=>?_) (fun hle=>?_)⟩
  ·simp at n;omega
  ·exact z _ hle rfl (by show (if dst=dst then _ else _)=_;simp)
  exact F _ hle rfl (by show (if dst=dst then _ else _)=_;simp) (by show AM _ dst=_;rw[Dm _ _ _ j,if_pos rfl,m])
 have v:s.bk.length<=dst:=by omega
 have x:s.sl.length<=dst:=by have:=S.len;have:=S.Fa;omega
 refine⟨β,?_⟩
 have D:s.app (some dst) ⟨av,[(dst,As)],rd⟩=s.app none ⟨.one .A4,[],rd⟩:=by
  simp[St.app,Di,Bq,Fo _ _ _ v,Fo _ _ _ x]
 have A:a.put (some dst) u=a.put none undef:=by
  have:a.tmps.size<=dst:=by have:=S.len;omega
  simp[Act.put,Array.setIfInBounds_eq_of_size_le this]
 rw[D,A];exact S.ext c (by rw[hw];simp) l f g (GU _ _)
theorem SO {w:World} (t:TypeId) (v:Value):(newVar t v).run P w= .ok ⟨w.heap.size,0,none⟩ {w with heap:=w.heap.push (.cells v.cells t (0,0))}:=by
 simp[newVar,newRow,newObj,Sem.run]
theorem ZB (hT:∀t,Ce P t (TI t)) {o:Oper} {t:TypeId} (k:o.op= .alloc t) (r:o.dst≠none):Sound P E TI o:=by
 intro w0 X β s a w S f h N Q j;simp only[BP,k] at h;obtain⟨v,h⟩:=h;subst h;obtain⟨G,z,d,m,A,n,p,B,C,D⟩:=(hT t).info v
 have b:(execOp a.eval o).run P w= .ok (.value (.pointer (some ⟨w.heap.size,0,none⟩))) {w with heap:=w.heap.push (.cells z.cells t (0,0))}:=by
  simp[execOp,k,Instr.alloc,zeroValue,typeInfo,m,n,SO]
 obtain⟨q,i⟩:=Option.ne_none_iff_exists'.1 r;have g:Ax o=q:=by simp[Ax,i]
 rw[g,i] at j
 obtain⟨x,l⟩:=S.new (dst:=q) (d:=q) rfl (av:= .one (.An q (AM (AD s.bk) q+1) 0)) (As:= .var (AM (AD s.bk) q+1) (TI t).zero) (rd:=[q]) (u:= .pointer (some ⟨w.heap.size,0,none⟩))
  (w':={w with heap:=w.heap.push (.cells z.cells t (0,0))}) (arr:=z.cells) (e:=t) rfl rfl rfl rfl rfl trivial
  (fun y _ hw c=>⟨_,z.cells,t,c,by rw[hw];simp,p y⟩) (fun y _ _ c F=>Or.inr ⟨⟨rfl,by omega⟩,fun _=>⟨_,c,rfl⟩⟩)
 exact BT b (by rw[i];exact j _ _ _ l)
theorem ZE {o:Oper} {t:TypeId} {x:Operand} (r:o.op= .box t x) (z:o.dst≠none):Sound P E TI o:=by
 intro w0 X β s a w S f h N Q n;simp only[BP,r] at h;have hx:=Bm S.BS x
 have b:(ev s.sl x).full=true/\f=⟨.one (.An (Ax o) (AM (AD s.bk) (Ax o)+1) 0),[(Ax o,.var (AM (AD s.bk) (Ax o)+1) (ev s.sl x).cs)],[Ax o]⟩:=by
  split at h
  ·exact h.elim
  ·exact h.elim
  rename_i B C
  refine⟨?_,h.symm⟩;cases D:ev s.sl x with
  | one c=>cases c <;> simp_all [AV.full]
  | agg cs=>rfl
  | AG xs=>simp_all
 obtain⟨k,rfl⟩:=b;have l:∀xs,ev s.sl x≠ .AG xs:=fun xs e=>by rw[e] at k;simp[AV.full] at k
 have p:=(Iz hx l).cells k
 have g:(execOp a.eval o).run P w= .ok (.value (.pointer (some ⟨w.heap.size,0,none⟩))) {w with heap:=w.heap.push (.cells (a.eval x).cells t (0,0))}:=by
  simp[execOp,r,Instr.box,SO]
 obtain⟨q,m⟩:=Option.ne_none_iff_exists'.1 z;have j:Ax o=q:=by simp[Ax,m]
 rw[j,m] at n
 obtain⟨A,v⟩:=S.new (dst:=q) (d:=q) rfl (av:= .one (.An q (AM (AD s.bk) q+1) 0)) (As:= .var (AM (AD s.bk) q+1) (ev s.sl x).cs) (rd:=[q]) (u:= .pointer (some ⟨w.heap.size,0,none⟩))
  (w':={w with heap:=w.heap.push (.cells (a.eval x).cells t (0,0))}) (arr:=(a.eval x).cells) (e:=t) rfl rfl rfl rfl rfl trivial
  (fun y hle hw i=>⟨_,_,t,i,by rw[hw];simp,p.mono fun _ _=>Af.mono hle⟩) (fun y _ _ i p=>Or.inr ⟨⟨rfl,by omega⟩,fun _=>⟨_,i,rfl⟩⟩)
 exact BT g (by rw[m];exact n _ _ _ v)
end
end Go.Abs
namespace Go.Abs
open Go.RowKit
theorem M7 {α:Type} (l:List α) (o:Nat):CI l o []=l:=by
 induction l generalizing o with
 | nil=>cases o <;> rfl
 | cons c l a=>cases o with
  | zero=>rfl
  | succ o=>simp[CI,a]
theorem M8 {α:Type}:∀(l:List α) (o:Nat) (v:α) (r:List α),CI (l.set o v) (o+1) r=CI l o (v::r)
 |[],0,_,_|[],_+1,_,_=>rfl
 | c::l,0,v,r=>by simp[CI]
 | c::l,o+1,v,r=>by simp[CI,M8 l o v r]
theorem AO.CI {α γ:Type} {R:α->γ->Prop}:∀{l:List α} {m:List γ} (o:Nat) {xs:List α} {ys:List γ},AO R l m->AO R xs ys->AO R (CI l o xs) (CI m o ys)
 |[],[],0,[],[],_,_|[],[],0,_::_,_::_,_,_|[],[],_+1,_,_,_,_=>trivial
 | _::_,_::_,0,[],[],h,_=>h
 | _::_,_::_,0,_::_,_::_,h,h'=>⟨h'.1,AO.CI 0 h.2 h'.2⟩
 | _::_,_::_,o+1,_,_,h,h'=>⟨h.1,AO.CI o h.2 h'⟩
 |[],_::_,_,_,_,h,_|_::_,[],_,_,_,h,_=>h.elim
 |_,_,0,[],_::_,_,h'|_,_,0,_::_,[],_,h'=>h'.elim
theorem Hs (b:Nat):∀(c:List Value) (o:Nat) (w:World) (arr:Array Value) (e:TypeId),w.heap[b]? =some (.cells arr e (0,0))->
  ∃a,(w.setCells b o c).heap[b]? =some (.cells a e (0,0))/\a.toList=CI arr.toList o c/\a.size=arr.size
 | [],o,w,arr,e,h=>⟨arr,h,(M7 _ _).symm,rfl⟩
 | v::r,o,w,arr,e,h=>by
  have d:(w.setCell ⟨b,o,none⟩ v).heap[b]? =some (.cells (arr.setIfInBounds o v) e (0,0)):=by
   simp[World.setCell,Array.getElem?_modify,h]
  obtain⟨a,f,g,i⟩:=Hs b r (o+1) _ _ e d;exact⟨a,f,by rw[g,Array.toList_setIfInBounds,M8],by simpa using i⟩
theorem I5 (b:Nat):∀(a:List Value) (o:Nat) (w:World) (k:Nat),k≠b->(w.setCells b o a).heap[k]? =w.heap[k]?
 | [],_,_,_,_=>rfl
 | v::r,o,w,k,h=>by
  rw[World.setCells,I5 b r (o+1) _ k h];simp[World.setCell,Array.getElem?_modify,Ne.symm h]
theorem NQ (b:Nat):∀(a:List Value) (o:Nat) (w:World),(w.setCells b o a).os=w.os/\(w.setCells b o a).tape=w.tape/\(w.setCells b o a).output=w.output/\(w.setCells b o a).heap.size=w.heap.size
 | [],_,_=>⟨rfl,rfl,rfl,rfl⟩
 | v::r,o,w=>by
  obtain⟨c,d,f,g⟩:=NQ b r (o+1) (w.setCell ⟨b,o,none⟩ v);exact⟨c,d,f,g.trans (by simp[World.setCell])⟩
theorem Nd {w:World} {b off n:Nat} {arr:Array Value} {e:TypeId} (h:w.heap[b]? =some (.cells arr e (0,0))) (c:off+n<=arr.size):w.there b off n:=by
 intro j a;have:off+j<arr.size:=by omega
 simp[World.cell?,World.frozen?,h,this]
section
variable {P:Program} {E:Env} {TI:TypeId->Info}
theorem KI {x:Cx}:∀{c d:AC} {v:Value},Ak c d->Af x c v->Af x d v
 |.int _ _,_,_,h,r|.bool _,_,_,h,r|.fn _,_,_,h,r|.sl _ _,_,_,h,r=>by rw[show _=_ from h];exact r
 | .nil,_,_,h,r=>by
  rcases h with rfl |⟨t,rfl⟩
  ·exact r
  rw[show _=_ from r];exact⟨none,0,rfl,Nat.le_refl _,by simp,.inl rfl⟩
 |.A4,_,_,h,_|.AL _ _ _ _ _,_,_,h,_|.CD _ _ _ _ _,_,_,h,_|.An _ _ _,_,_,h,_|.Bv _ _ _ _ _,_,_,h,_|.CN _ _ _,_,_,h,_|.ub _,_,_,h,_|.own _ _ _,_,_,h,_=>h.elim
theorem JY {x:Cx} {R:AC->AC->Prop} (hR:∀c d v,R c d->Af x c v->Af x d v):∀{l m:List AC} {a:List Value},Ae R l m->AO (Af x) l a->AO (Af x) m a
 | [],[],[],_,_=>trivial
 | _::_,_::_,_::_,h,r=>⟨hR _ _ _ h.1 r.1,JY hR h.2 r.2⟩
 |[],_::_,_,h,_|_::_,[],_,h,_=>h.elim
 |[],[],_::_,_,r|_::_,_::_,[],_,r=>r.elim
theorem DZ {bk:Nat->Option AH} {id:Nat} {b:AH} (h:bk id=some b):AM bk id=b.AM:=by unfold AM;rw[h]
theorem ZT (hT:∀t,Ce P t (TI t)) {o:Oper} {t:TypeId} {p x:Operand} (ho:o.op= .store t p x):Sound P E TI o:=by
 intro w0 X β s a w S f h N Q hN;simp only[BP,ho] at h;obtain⟨hk,h⟩:=h;have hp:=Bm S.BS p;have hx:=Bm S.BS x;obtain⟨ti,z,d,h1,h2,h3,h4,h5,h6,h7⟩:=(hT t).info hk
 have go:∀(id b q:Nat) (arr:Array Value) (e:TypeId) (As:AH) (ys:List AC),a.eval p= .pointer (some ⟨b,q,none⟩)->id<s.bk.length->live (AD s.bk) id->β id=some b->w.heap[b]? =some (.cells arr e (0,0))->
   AO (Af (cx X w β (AD s.bk))) ys (a.eval x).cells.toList->ys.length=(TI t).size->q+(TI t).size<=arr.size->As.AM=AM (AD s.bk) id->As.short->
   (∀y:Cx,(cx X w β (AD s.bk)).le y->y.w=w.setCells b q (a.eval x).cells.toList->y.β id=some b->Bx y id As)->∀rd,f=⟨.one .A4,[(id,As)],rd⟩->o.wp P a w N Q:=by
  intro id b q arr e As ys F a7 hl B hh A hlen hq ao aj hB rd hf;subst hf;have O:(a.eval x).cells.size=ti.size:=by have:=A.length;simp only[Array.length_toList] at this;omega
  have a2:=Yt (P:=P) (t:=t) (b:=b) (o:=q) (v:=a.eval x) h1 O (Nd hh (by omega)) (A.one);obtain⟨c1,c2,c3,c4⟩:=NQ b (a.eval x).cells.toList q w;refine aF (w':=w.setCells b q (a.eval x).cells.toList) (by simp[execOp,ho,F,a2]) (hN β _ _ ?_);refine S.write a7 aj (fun _ _=>rfl) (by omega) (fun _=>⟨rfl,fun _=>hl⟩) (fun k _ hk=>I5 b _ _ _ k (fun e=>hk hl (e ▸ B))) (by omega) (fun k r e' Z=>?_) c1 c2 c3 (fun _ k ae=> .inl ⟨ae,hl⟩) (fun hle=>hB _ hle rfl B) (fun _=>GU _ _)
  by_cases e1:k=b
  ·subst e1;obtain⟨W,g1,g2,J⟩:=Hs k (a.eval x).cells.toList q w r e' Z;exact⟨W,g1,J⟩
  exact⟨r,(I5 b _ _ _ k e1).trans Z,rfl⟩
 have D:∀{id:Nat} {b:AH},AD s.bk id=some b->id<s.bk.length:=fun {id b} B=>by
  rcases Nat.lt_or_ge id s.bk.length with h | h
  ·exact h
  rw[GL _ _ h] at B;cases B
 split at h
 ·rename_i id v off he
  rw[he] at hp;have hr:=A0 hp (by simp)
  split at h
  ·exact h.elim
  ·exact h.elim
  ·rename_i v' cs aa ab ad
   have B:AD s.bk id=some (.var v' cs):=by assumption
   split at h
   ·rename_i hc
    obtain⟨V,hlen,an⟩:=hc;subst V
    have g:(ev s.sl x).full=true:=by
     cases U:ev s.sl x with
     | one c=>cases c <;> simp_all [AV.full]
     | agg cs=>rfl
     | AG xs=>simp_all
    have M:∀xs,ev s.sl x≠ .AG xs:=fun xs e=>by rw[e] at g;simp[AV.full] at g
    have A:=(Iz hx M).cells g;obtain⟨b,arr,e,g1,g2,J⟩:=S.blocks id _ B;have U:v'=AM (AD s.bk) id:=(DZ B).symm;obtain⟨b',G,F⟩:=hr.2 U;obtain rfl:b=b':=Option.some.inj (g1.symm.trans G);have a5:=J.length;simp only[Array.length_toList] at a5;refine go id b off arr e _ _ F (D B) ⟨_,B,rfl⟩ g1 g2 A hlen (by omega) (by simpa [AH.AM] using U) (by trivial) (fun y hle hw K=>?_) _ h.symm;obtain⟨r,q1,q2,q3⟩:=Hs b (a.eval x).cells.toList off w arr e g2;refine⟨b,r,e,K,by rw[hw];exact q1,?_⟩;rw[q2];exact ((J.mono fun _ _=>Af.mono hle).CI off (A.mono fun _ _=>Af.mono hle))
   exact h.elim
  exact h.elim
 ·rename_i u id v i k he
  rw[he] at hp;have hr:=A0 hp (by simp)
  split at h
  ·exact h.elim
  ·exact h.elim
  ·rename_i v' u' l aa ab ad
   have B:AD s.bk id=some (.arr v' u' l):=by assumption
   split at h
   ·rename_i hc
    obtain⟨V,af,O,ak⟩:=hc;subst V af;obtain rfl:=T.beq_eq ak;obtain⟨z',hz,h⟩:=h;obtain⟨hi,Y⟩:=hz ()
    have g:(ev s.sl x).full=true:=by
     cases U:ev s.sl x with
     | one c=>cases c <;> simp_all [AV.full]
     | agg cs=>rfl
     | AG xs=>simp_all
    have M:∀xs,ev s.sl x≠ .AG xs:=fun xs e=>by rw[e] at g;simp[AV.full] at g
    have A:=JY (fun _ _ _=>KI) Y ((Iz hx M).cells g);have U:v'=AM (AD s.bk) id:=(DZ B).symm;obtain⟨b',G,F⟩:=hr.2 U;have ai:=S.blocks id _ B;rcases ai with⟨g1,g2⟩ |⟨b,arr,e,g1,g2,J⟩
    ·exact absurd (g1.symm.trans G) (by simp)
    obtain rfl:b=b':=Option.some.inj (g1.symm.trans G);have hn:=T.size_pos u
    have ag:i*u.size+u.size<=arr.size:=by
     obtain⟨us,H,R⟩:=J i l[i] (by simp[hi]);have al:=GV _ _ _ H;have ah:u.size-1<us.length:=by omega
     have:=R (u.size-1) us[u.size-1] (by simp[ah]);simp only[World.cell?,g2] at this
     have C:i*u.size+(u.size-1)<arr.size:=by
      rcases Nat.lt_or_ge (i*u.size+(u.size-1)) arr.size with C | C
      ·exact C
      simp[Array.getElem?_eq_none C] at this
     omega
    refine go id b (i*u.size) arr e _ _ F (D B) ⟨_,B,rfl⟩ g1 g2 A (by rw[Ef];exact O.symm) (by omega) (by simpa [AH.AM] using U) (by have:=S.lens id _ B;simpa [AH.short] using this) (fun y hle hw K=>?_) _ (h _ rfl).symm;refine Or.inr ?_;obtain⟨r,q1,q2,q3⟩:=Hs b (a.eval x).cells.toList (i*u.size) w arr e g2;refine⟨b,r,e,K,by rw[hw];exact q1,fun j y' hj=>?_⟩;have a6:(a.eval x).cells.toList.length=u.size:=by rw[<-A.length,Ef]
    by_cases a1:j=i
    ·subst a1;have:y'=z':=by simp[List.getElem?_set,hi] at hj;exact hj.symm
     subst this;refine⟨(a.eval x).cells.toList,((FK _ u y' _).2 (A.mono fun _ _=>Af.mono hle)),fun m v hm=>?_⟩;rw[hw]
     have L:m<(a.eval x).cells.toList.length:=by
      rcases Nat.lt_or_ge m (a.eval x).cells.toList.length with C | C
      ·exact C
      simp[List.getElem?_eq_none C] at hm
     rw[World.cell?_setCells_in b _ (j*u.size) w (fun m hm=>(Nd g2 (n:=u.size) (by omega) m (by omega)).1) m L];simp[List.getElem?_eq_getElem L] at hm;simpa using hm
    have a8:l[j]? =some y':=by simpa [List.getElem?_set,Ne.symm a1] using hj
    obtain⟨us,H,R⟩:=J j y' a8;refine⟨us,Bi hle.I u y' us H,fun m v hm=>?_⟩;have al:=GV _ _ _ H
    have L:m<us.length:=by
     rcases Nat.lt_or_ge m us.length with C | C
     ·exact C
     simp[List.getElem?_eq_none C] at hm
    rw[hw,World.cell?_setCells_out b _ (i*u.size) w _ (fun _ _=>?_)]
    ·exact R m v hm
    show j*u.size+m<i*u.size\/i*u.size+_<=j*u.size+m
    rw[a6];rcases Nat.lt_or_ge j i with C | C
    ·left
     have:(j+1)*u.size<=i*u.size:=Nat.mul_le_mul_right _ C;rw[Nat.add_mul] at this;omega
    right
    have:(i+1)*u.size<=j*u.size:=Nat.mul_le_mul_right _ (by omega);rw[Nat.add_mul] at this;omega
   exact h.elim
  exact h.elim
 exact h.elim
end
end Go.Abs
namespace Go.Abs
open Go.RowKit
section
variable {P:Program} {E:Env} {TI:TypeId->Info}
theorem Sn {w:World} {t:TypeId} {a:TypeInfo} (h:P.info? t=some a):(sizeOf t).run P w= .ok a.size w:=by simp[sizeOf,typeInfo,h]
theorem ZM (hT:∀t,Ce P t (TI t)) {o:Oper} {t:TypeId} {x i:Operand} (I:o.op= .indexAddr t x i):Sound P E TI o:=by
 intro w0 X β s a w S f h N Q H;simp only[BP,I] at h;obtain⟨U,h⟩:=h;obtain⟨hu,ei,z,g1,g2,g3,g4,g5,g6⟩:=(hT t).sl U;have hx:=Bm S.BS x;have q:=Bm S.BS i
 have go:∀(b off len cap:Nat) (k:IntKind) (n:Int),a.eval x= .slice (some ⟨b,off,none⟩) len cap->a.eval i= .int k n->0<=n->n<len->
   (execOp a.eval o).run P w= .ok (.value (.pointer (some ⟨b,off+n.toNat*(TI t).elem.size,none⟩))) w:=by
  intro b off len cap k n p D K r;simp[execOp,I,p,D,Instr.indexAt,asIntOf,run_underlying hu,Sn g1,g2,K,r,Addr.add_mid]
 split at h
 ·rename_i u l k n he d
  rw[he] at hx;rw[d] at q;have g:a.eval i= .int k n:=A0 q (by simp);obtain⟨base,cap,p,r,L,A⟩:=A0 hx (by simp);obtain⟨c,y,Z,h⟩:=h;obtain rfl:=T.beq_eq c;obtain⟨j,m⟩:=Z ();subst h
  have C:n.toNat<l.length:=by
   rcases Nat.lt_or_ge n.toNat l.length with B | B
   ·exact B
   simp[List.getElem?_eq_none B] at m
  rcases A with rfl |⟨b,off,rfl,M,R⟩
  ·simp at C
  obtain⟨us,F,G⟩:=R n.toNat y m;refine BT (go b off l.length cap k n (by simpa using p) g j (by omega)) (H _ _ _ (S.val (Or.inr ⟨b,off+n.toNat*(TI t).elem.size,us,by rw[Nat.add_zero],M,F,G⟩)))
 ·rename_i u id v off len k n he d
  rw[he] at hx;rw[d] at q;have g:a.eval i= .int k n:=A0 q (by simp);obtain⟨c,h⟩:=h;obtain rfl:=T.beq_eq c
  split at h
  ·rename_i p
   have J:=A0 hx (by simp);obtain⟨base,cap,W,r,L,_,A⟩:=J.2 p.symm;obtain⟨D,h⟩:=h;obtain⟨j,V⟩:=D ();obtain rfl:=h _ rfl;rcases A with rfl |⟨b,arr,e,O,rfl,hh,Y⟩
   ·omega
   refine BT (go b (off*(TI t).elem.size) len cap k n W g j (by omega)) (H _ _ _ (S.val (Or.inr ⟨⟨rfl,J.1.2⟩,fun _=>⟨b,O,?_⟩⟩)));rw[Nat.add_mul,Nat.add_zero]
  exact h.elim
 exact h.elim
theorem Hu {w:World} {k:IntKind} {n:Int} {y:Nat} {c:BoundsCode} (a:0<=n) (b:n<=y):(Instr.sliceBound (.int k n) y c).run P w= .ok n.toNat w:=by
 simp[Instr.sliceBound,asIntOf,a,b]
theorem Lr {w:World} {a:Act} {x:Cx} {lo A B:Option Operand} {s:St} (y:∀o,At x (ev s.sl o) (a.eval o)) {len cap:Nat} (z:len<=cap) {R:Nat->Nat->Bool->Prop}
  (h:F1 len (lo.map (ev s.sl)) (A.map (ev s.sl)) (B.map (ev s.sl)) R):
  ∃(l q m:Nat) (c:Bool),(Instr.sliceBounds true len cap (lo.map a.eval) (A.map a.eval) (B.map a.eval)).run P w= .ok (l,q,m) w/\l<=q/\q<=len/\q<=m/\m<=cap/\(c=true->m=q/\l=0)/\(c=false->m=cap)/\R l q c:=by
 have b:∀{o:Operand} {k:IntKind} {n:Int},ev s.sl o= .one (.int k n)->a.eval o= .int k n:=fun {o k n} e=>by
  have:=y o;rw[e] at this;exact A0 this (by simp)
 unfold F1 at h
 split at h
 ·rename_i f d g
  simp only[Option.map_eq_none_iff] at f d g;subst f d g;exact⟨0,len,cap,false,by simp[Instr.sliceBounds],Nat.zero_le _,Nat.le_refl _,z,Nat.le_refl _,by simp,fun _=>rfl,h _ rfl⟩
 ·rename_i k n f d g
  simp only[Option.map_eq_none_iff,Option.map_eq_some_iff] at f d g;obtain⟨p,rfl,f⟩:=f;subst d g;obtain⟨j,h⟩:=h;obtain⟨i,r⟩:=j ();have r:n<=(len:Int):=by omega
  exact⟨n.toNat,len,cap,false,by simp[Instr.sliceBounds,b f,Hu i r],by omega,Nat.le_refl _,z,Nat.le_refl _,by simp,fun _=>rfl,h _ _ ⟨rfl,rfl⟩⟩
 ·rename_i k n f d g
  simp only[Option.map_eq_none_iff,Option.map_eq_some_iff] at f d g;obtain⟨p,rfl,d⟩:=d;subst f g;obtain⟨j,h⟩:=h;obtain⟨i,r⟩:=j ();have t:n<=(cap:Int):=by omega
  exact⟨0,n.toNat,cap,false,by simp[Instr.sliceBounds,b d,Hu i t],by omega,by omega,by omega,Nat.le_refl _,by simp,fun _=>rfl,h _ rfl⟩
 ·rename_i k n k' n' f d g
  simp only[Option.map_eq_none_iff,Option.map_eq_some_iff] at f d g;obtain⟨p,rfl,f⟩:=f;obtain⟨C,rfl,d⟩:=d;subst g;obtain⟨j,h⟩:=h;obtain⟨i,r,t⟩:=j ();have u:n'<=(cap:Int):=by omega
  have v:n<=(n'.toNat:Int):=by omega
  exact⟨n.toNat,n'.toNat,cap,false,by simp[Instr.sliceBounds,b f,b d,Hu (show 0<=n' by omega) u,Hu i v],by omega,by omega,by omega,Nat.le_refl _,by simp,fun _=>rfl,h _ _ ⟨rfl,rfl⟩⟩
 ·rename_i k n k' n' f d g
  simp only[Option.map_eq_none_iff,Option.map_eq_some_iff] at f d g;obtain⟨p,rfl,d⟩:=d;obtain⟨C,rfl,g⟩:=g;subst f;obtain⟨j,h⟩:=h;obtain⟨i,r,t⟩:=j ();subst r;have u:n<=(cap:Int):=by omega
  have v:n<=(n.toNat:Int):=by omega
  exact⟨0,n.toNat,n.toNat,true,by simp[Instr.sliceBounds,b d,b g,Hu i u,Hu i v],by omega,by omega,by omega,by omega,fun _=>⟨rfl,rfl⟩,by simp,h _ rfl⟩
 exact h.elim
theorem ZS (hT:∀t,Ce P t (TI t)) {o:Oper} {t:TypeId} {x:Operand} {lo U W:Option Operand} (V:o.op= .slice t x lo U W):Sound P E TI o:=by
 intro w0 X β s a w S f h N Q n;simp only[BP,V] at h;obtain⟨hk,h⟩:=h;obtain⟨hu,ei,z,g1,g2,g3,g4,g5,g6⟩:=(hT t).sl hk;have hx:=Bm S.BS x
 have go:∀(base:Option Addr) (len cap l q m:Nat),a.eval x= .slice base len cap->(Instr.sliceBounds true len cap (lo.map a.eval) (U.map a.eval) (W.map a.eval)).run P w= .ok (l,q,m) w->
   (execOp a.eval o).run P w= .ok (.value (.slice (if m=l then base else base.map (·.add (l*(TI t).elem.size))) (q-l) (m-l))) w:=by
  intro base len cap l q m k g;simp[execOp,V,k,Instr.sliceAt,run_underlying hu,Instr.slice,g,Sn g1,g2]
 unfold F0 at h
 split at h
 ·rename_i u l he
  rw[he] at hx;obtain⟨base,cap,k,C,Y,D⟩:=A0 hx (by simp);obtain⟨d,h⟩:=h;obtain rfl:=T.beq_eq d;obtain⟨p,q,m,c,g,b1,b2,b3,M,A,O,hR⟩:=Lr (P:=P) (w:=w) (Bm S.BS) C (h _ rfl);obtain rfl:=hR _ rfl;refine BT (go base l.length cap p q m (by simpa using k) g) (n _ _ _ (S.val (Or.inr ?_)));have hlen:((l.take q).drop p).length=q-p:=by simp;omega
  refine⟨_,m-p,by rw[hlen],by rw[hlen];omega,by rw[hlen];omega,?_⟩
  by_cases I:q=p
  ·left;subst I;simp
  right
  rcases D with rfl |⟨b,off,rfl,Z,hc⟩
  ·simp at b2;omega
  refine⟨b,off+p*(TI t).elem.size,by rw[if_neg (by omega)];simp[Addr.add_mid],Z,fun j y r=>?_⟩
  have G:l[p+j]? =some y:=by
   rw[List.getElem?_drop,List.getElem?_take] at r
   split at r
   ·exact r
   cases r
  obtain⟨us,J,K⟩:=hc (p+j) y G;exact⟨us,J,by rw[show off+p*(TI t).elem.size+j*(TI t).elem.size=off+(p+j)*(TI t).elem.size by rw[Nat.add_mul];omega];exact K⟩
 ·rename_i u id v off len he
  rw[he] at hx;obtain⟨d,h⟩:=h;obtain rfl:=T.beq_eq d
  split at h
  ·rename_i L
   have i:=A0 hx (by simp);obtain⟨base,cap,hs,C,Y,_,D⟩:=i.2 L.symm;obtain⟨p,q,m,c,g,b1,b2,b3,M,A,O,hR⟩:=Lr (P:=P) (w:=w) (Bm S.BS) C h;have hR:=hR _ _ ⟨rfl,rfl⟩;refine BT (go base len cap p q m hs g) ?_
   have R:∀B,(B=true->m-p=q-p)->E4 w (β id) (TI t).elem.size (off+p) (q-p) B (.slice (if m=p then base else base.map (·.add (p*(TI t).elem.size))) (q-p) (m-p)):=by
    intro B F;refine⟨_,m-p,rfl,by omega,by omega,F,?_⟩
    by_cases H:m=p
    ·left;omega
    right
    rcases D with rfl |⟨b,arr,e,hb,rfl,hh,a1⟩
    ·omega
    refine⟨b,arr,e,hb,by rw[if_neg H];simp[Addr.add_mid,Nat.add_mul],hh,?_⟩;have:(off+p+(m-p))*(TI t).elem.size<=(off+cap)*(TI t).elem.size:=Nat.mul_le_mul_right _ (by omega);omega
   cases c with
   | true=>
    obtain rfl:=hR;exact n _ _ _ (S.val (Or.inr ⟨⟨rfl,i.1.2⟩,fun _=>R true (fun _=>by have:=A rfl;omega)⟩))
   | false=>
    obtain rfl:=hR;exact n _ _ _ (S.val (Or.inr ⟨⟨rfl,i.1.2⟩,fun _=>R false (by simp)⟩))
  exact h.elim
 ·rename_i he
  rw[he] at hx;have k:a.eval x= .slice none 0 0:=A0 hx (by simp);obtain⟨p,q,m,c,g,b1,b2,b3,M,A,O,hR⟩:=Lr (P:=P) (w:=w) (cap:=0) (Bm S.BS) (Nat.le_refl _) h;obtain rfl:=hR;have:p=0:=by omega
  have:q=0:=by omega
  have:m=0:=by omega
  subst_vars;exact BT (go none 0 0 0 0 0 k g) (n _ _ _ (S.val (Or.inr (by simp[Af]))))
 exact h.elim
end
end Go.Abs
