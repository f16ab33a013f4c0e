/- Part 3 of a proof. Conditions: each theorem's own. -/
import Derived.Laws.Cover3
import Derived.Deep.AppendSrc
import Derived.Deep.Upon
import Derived.Test.YtmhbikooakmagaaGreatPk01
set_option linter.all false
set_option maxHeartbeats 8000000
set_option maxRecDepth 20000
namespace Go.Abs
open Go.RowKit
section
variable {P:Program} {E:Env} {TI:TypeId->Info} {w0:World} {X:WX} {β:Nat->Option Nat} {s:St} {a:Act} {w:World}
theorem Cc {o:Oper} {u:Value} {w':World} {N:Act->World->Prop} {Q:Exit->Act->World->Prop} (c:(execOp a.eval o).run P w= .ok (.value u) w') (b:N (a.put o.dst u) w'):o.wp P a w N Q:=by
 unfold Oper.wp;rw[c];exact b
theorem od {o:Oper} {w':World} {N:Act->World->Prop} {Q:Exit->Act->World->Prop} (c:(execOp a.eval o).run P w= .ok .skip w') (b:N (a.put o.dst undef) w'):o.wp P a w N Q:=by
 unfold Oper.wp;rw[c];exact b
def Sound (P:Program) (E:Env) (TI:TypeId->Info) (o:Oper):Prop:=
 ∀{w0:World} {X:WX} {β:Nat->Option Nat} {s:St} {a:Act} {w:World},Bo w0 X β s a w->∀{f:B3},Ca E TI o (Bv o) (ev s.sl) (AH s.bk) (fun g=>g=f)->
  ∀{N:Act->World->Prop} {Q:Exit->Act->World->Prop},(∀β' a' w',Bo w0 X β' (s.app o.dst f) a' w'->N a' w')->o.wp P a w N Q
theorem nT {o:Oper} {x:Operand} (b:o.op= .move x):Sound P E TI o:=by
 intro w0 X β s a w S f h N Q c;simp only[Ca,b] at h;subst h;exact Cc (u:=a.eval x) (w':=w) (by simp[execOp,b]) (c _ _ _ (S.val (C1 S.CW x)))
theorem nG {o:Oper} {x:Operand} (b:o.op= .assign x):Sound P E TI o:=by
 intro w0 X β s a w S f h N Q c;simp only[Ca,b] at h;subst h;exact Cc (u:=a.eval x) (w':=w) (by simp[execOp,b]) (c _ _ _ (S.val (C1 S.CW x)))
theorem nV {o:Oper} {c x y:Operand} (d:o.op= .pick c x y):Sound P E TI o:=by
 intro w0 X β s a w S f h N Q g;simp only[Ca,d] at h;have hc:=C1 S.CW c
 split at h
 ·rename_i he
  rw[he] at hc;have b:a.eval c= .bool true:=by rcases hc with hc | hc <;> simp_all [BR]
  subst h;exact Cc (u:=a.eval x) (w':=w) (by simp[execOp,d,b,asBool]) (g _ _ _ (S.val (C1 S.CW x)))
 ·rename_i he
  rw[he] at hc;have b:a.eval c= .bool false:=by rcases hc with hc | hc <;> simp_all [BR]
  subst h;exact Cc (u:=a.eval y) (w':=w) (by simp[execOp,d,b,asBool]) (g _ _ _ (S.val (C1 S.CW y)))
 exact h.elim
theorem By {x:Cx} {c:AC} {v:Value} (h:Bu x (.one c) v) (hc:c≠ .Bz):BR x c v:=(show c= .Bz\/BR x c v from h).resolve_left hc
theorem nU {o:Oper} {x:Operand} (i:o.op= .nilCheck x):Sound P E TI o:=by
 intro w0 X β s a w S f h N Q j;simp only[Ca,i] at h;have d:=C1 S.CW x
 split at h
 ·rename_i id v off he
  split at h
  ·rename_i k
   subst h;have c:=d;rw[he] at d;obtain⟨b,_,hb⟩:=(By d (by simp)).2 k.symm;exact Cc (u:=a.eval x) (w':=w) (by simp[execOp,i,hb]) (j _ _ _ (S.val c))
  exact h.elim
 ·rename_i g he
  subst h;have c:=d;rw[he] at d;have hb:a.eval x= .func (.func g) #[] #[]:=By d (by simp);exact Cc (u:=a.eval x) (w':=w) (by simp[execOp,i,hb]) (j _ _ _ (S.val c))
 exact h.elim
theorem nN {o:Oper} {x:Operand} {i:Nat} (d:o.op= .extract x i):Sound P E TI o:=by
 intro w0 X β s a w S f h N Q j;simp only[Ca,d] at h;have g:=C1 S.CW x
 split at h
 ·rename_i xs he
  rw[he] at g;obtain⟨arr,l,b⟩:=g
  split at h
  ·rename_i y m
   subst h;obtain⟨u,hu,k⟩:=b.get i y m;have c:arr[i]? =some u:=by simpa using hu
   exact Cc (u:=u) (w':=w) (by simp[execOp,d,l,Instr.extract,c]) (j _ _ _ (S.val (mR k)))
  exact h.elim
 exact h.elim
theorem Pd {c:Int} (h:Ip c):IntKind.i64.wrap c=c:=IntWalk.i64_in c ⟨h.1,by have:=h.2;omega⟩
theorem fG {op:BinOp} {k k':IntKind} {x y:Int} {c:AC} {t:TypeId} (n:k=k'\/op= .shl\/op= .shr) (h:arith op k x y (fun d=>d=c)):
  ∃u,(binOp op t (.int k x) (.int k' y)).run P w= .ok u w/\∀Γ,BR Γ c u:=by
 have g:∀{p q:Int},0<=p->p.tdiv q=p/q:=fun h=>Int.tdiv_eq_ediv_of_nonneg h
 have i:∀{p q:Int},0<=p->p.tmod q=p%q:=fun h=>Int.tmod_eq_emod_of_nonneg h
 by_cases j:op= .shl\/op= .shr
 ·rcases j with rfl | rfl
  ·have h':=h _ rfl;obtain⟨b,rfl⟩:=h';have l:¬y<0:=by have:=b ();omega
   exact⟨_,by simp only[binOp,Op.shift,if_neg l];rfl,fun _=>rfl⟩
  have h':=h _ rfl;obtain⟨b,rfl⟩:=h';have l:¬y<0:=by have:=b ();omega
  exact⟨_,by simp only[binOp,Op.shift,if_neg l];rfl,fun _=>rfl⟩
 have n:k=k':=n.resolve_right j;subst n
 have hb:∀f,f≠ .shl->f≠ .shr->binOp f t (.int k x) (.int k y)=(match f with
  | .add | .sub | .mul=>Op.intArith f k x y | .quo | .rem=>Op.intDiv f k x y | .and | .or | .xor | .andNot=>Op.intBits f k x y | _=>Op.intCmp f x y):=by
  intro f b m;cases f <;> simp_all [binOp]
 rw[hb op (fun e=>j (.inl e)) (fun e=>j (.inr e))];cases op
 case shl=>exact absurd (.inl rfl) j
 case shr=>exact absurd (.inr rfl) j
 case eql=>obtain rfl:=h _ rfl;exact⟨_,rfl,fun _=>rfl⟩
 case neq=>obtain rfl:=h _ rfl;exact⟨_,rfl,fun _=>rfl⟩
 case lss=>obtain rfl:=h _ rfl;exact⟨_,rfl,fun _=>rfl⟩
 case leq=>obtain rfl:=h _ rfl;exact⟨_,rfl,fun _=>rfl⟩
 case gtr=>obtain rfl:=h _ rfl;exact⟨_,rfl,fun _=>rfl⟩
 case geq=>obtain rfl:=h _ rfl;exact⟨_,rfl,fun _=>rfl⟩
 case and=>obtain rfl:=h _ rfl;exact⟨_,rfl,fun _=>rfl⟩
 case or=>obtain rfl:=h _ rfl;exact⟨_,rfl,fun _=>rfl⟩
 case xor=>obtain rfl:=h _ rfl;exact⟨_,rfl,fun _=>rfl⟩
 case andNot=>obtain rfl:=h _ rfl;exact⟨_,rfl,fun _=>rfl⟩
 case add=>
  cases k
  case i64=>obtain⟨b,rfl⟩:=h _ rfl;exact⟨_,rfl,fun _=>by show _=_;rw[Pd (b ())]⟩
  all_goals (obtain rfl:=h _ rfl;exact⟨_,rfl,fun _=>rfl⟩)
 case sub=>
  cases k
  case i64=>obtain⟨b,rfl⟩:=h _ rfl;exact⟨_,rfl,fun _=>by show _=_;rw[Pd (b ())]⟩
  all_goals (obtain rfl:=h _ rfl;exact⟨_,rfl,fun _=>rfl⟩)
 case mul=>
  cases k
  case i64=>obtain⟨b,rfl⟩:=h _ rfl;exact⟨_,rfl,fun _=>by show _=_;rw[Pd (b ())]⟩
  all_goals (obtain rfl:=h _ rfl;exact⟨_,rfl,fun _=>rfl⟩)
 case quo=>
  cases k
  case i64=>
   obtain⟨b,rfl⟩:=h _ rfl;obtain⟨b,m,h3⟩:=b ();exact⟨_,by simp only[Op.intDiv,if_neg (show ¬y=0 by omega)];rfl,fun _=>by show _=_;rw[g b,Pd h3]⟩
  all_goals
   obtain⟨b,rfl⟩:=h _ rfl;obtain⟨b,m⟩:=b ();exact⟨_,by simp only[Op.intDiv,if_neg (show ¬y=0 by omega)];rfl,fun _=>by show _=_;rw[g b]⟩
 case rem=>
  cases k
  all_goals
   obtain⟨b,rfl⟩:=h _ rfl;obtain⟨b,m⟩:=b ();exact⟨_,by simp only[Op.intDiv,if_neg (show ¬y=0 by omega)];rfl,fun _=>by show _=_;rw[i b]⟩
theorem gU (op:BinOp) (t:TypeId) (x y:Operand) (k k':IntKind) (m n:Int):(eqGuard op t x y (.int k m) (.int k' n)).run P w= .ok () w:=by
 unfold eqGuard;cases op <;> simp
end
section
variable {P:Program} {E:Env} {TI:TypeId->Info}
theorem nH (F:∀t,D1 P t (TI t)) {o:Oper} {op:BinOp} {t L:TypeId} {x y:Operand} (z:o.op= .binOp op t x y L):Sound P E TI o:=by
 intro w0 X β s a w S f h N Q A;simp only[Ca,z] at h;have r:=C1 S.CW x;have v:=C1 S.CW y
 split at h
 ·rename_i k m k' n he g
  rw[he] at r;rw[g] at v;have i:a.eval x= .int k m:=By r (by simp);have j:a.eval y= .int k' n:=By v (by simp)
  split at h
  ·rename_i J
   obtain⟨c,hc⟩:∃c,f=⟨.one c,[],[]⟩/\arith op k m n (fun d=>d=c):=by
    cases op <;> cases k <;> simp only[arith] at h ⊢ <;> first
     | (obtain⟨q,G⟩:=h _ rfl;exact⟨_,G.symm,fun _ e=>⟨by first | exact q | (rw[e];exact q),by rw[e]⟩⟩)
     | exact⟨_,(h _ rfl).symm,fun _ e=>by rw[e]⟩
   obtain⟨rfl,hc⟩:=hc;obtain⟨u,hu,D⟩:=fG (P:=P) (w:=w) (t:=t) J hc;refine Cc (u:=u) (w':=w) ?_ (A _ _ _ (S.val (Or.inr (D _))));simp only[execOp,z,i,j,Sem.run_bind,gU,Result.andThen_ok,hu,Sem.run_pure]
  exact h.elim
 ·rename_i m n he g
  rw[he] at r;rw[g] at v;have i:a.eval x= .bool m:=By r (by simp);have j:a.eval y= .bool n:=By v (by simp);obtain⟨q,h⟩:=h;have hu:=(F t).isb q
  have C:(Op.equal t (.bool m) (.bool n)).run P w= .ok (m==n) w:=by
   have H:∀d,(Op.equalIn (d+1) t (.bool m) (.bool n)).run P w= .ok (m==n) w:=fun d=>by
    unfold Op.equalIn;simp[run_underlying hu]
   exact H 9999
  have B:∀op:BinOp,(eqGuard op t x y (.bool m) (.bool n)).run P w= .ok () w:=by
   intro op;unfold eqGuard;cases op <;> simp
  cases op <;> simp only at h
  all_goals first
   | exact h.elim
   | (obtain rfl:=h _ rfl
      refine Cc (w':=w) ?_ (A _ _ _ (S.val (Or.inr rfl)));simp[execOp,z,i,j,Sem.run_bind,B,binOp,C,bne])
 ·rename_i ty l he g
  rw[he] at r;rw[g] at v;have D:=By r (by simp);have j:a.eval y= .slice none 0 0:=By v (by simp);obtain⟨q,h⟩:=h;obtain⟨base,cap,K,_,_,p⟩:=D;have i:a.eval x= .slice base l.length cap:=by simpa using K
  obtain⟨hu,_⟩:=(F t).sl q;have C:(Op.equal t (.slice base l.length cap) (.slice none 0 0)).run P w= .ok base.isNone w:=run_equal_slice_nil w t _ base l.length cap hu
  have B:∀op:BinOp,(eqGuard op t x y (.slice base l.length cap) (.slice none 0 0)).run P w= .ok () w:=by
   intro op;unfold eqGuard;cases op <;> simp
  cases op <;> simp only at h
  all_goals first
   | exact h.elim
   | (obtain rfl:=h _ rfl
      refine Cc (u:= .bool base.isNone) (w':=w) ?_ (A _ _ _ (S.val (Or.inr ⟨_,rfl,fun hb=>?_⟩)))
      ·simp[execOp,z,i,j,Sem.run_bind,B,binOp,C]
      rcases p with rfl |⟨b,off,rfl,_⟩
      ·rfl
      simp at hb)
 exact h.elim
theorem nY {o:Oper} {op:UnOp} {t:TypeId} {x:Operand} (g:o.op= .unOp op t x):Sound P E TI o:=by
 intro w0 X β s a w S f h N Q j;simp only[Ca,g] at h;have d:=C1 S.CW x
 split at h
 ·rename_i b he
  rw[he] at d;have c:a.eval x= .bool b:=By d (by simp);obtain rfl:=(h _ rfl);exact Cc (u:= .bool (!b)) (w':=w) (by simp[execOp,g,c,Op.unary]) (j _ _ _ (S.val (Or.inr rfl)))
 ·rename_i k n he
  rw[he] at d;have c:a.eval x= .int k n:=By d (by simp);obtain rfl:=h _ rfl;have i:(Op.intArith .sub k 0 n).run P w= .ok (.int k (k.wrap (0-n))) w:=rfl;exact Cc (u:= .int k (k.wrap (0-n))) (w':=w) (by simp[execOp,g,c,Op.unary,i]) (j _ _ _ (S.val (Or.inr rfl)))
 exact h.elim
theorem nM (g:∀t,D1 P t (TI t)) {o:Oper} {src dst:TypeId} {x:Operand} (i:o.op= .convert src dst x):Sound P E TI o:=by
 intro w0 X β s a w S f h N Q l;simp only[Ca,i] at h;obtain⟨p,h⟩:=h;have j:=C1 S.CW x
 split at h
 ·rename_i k k' n m he
  rw[he] at j;have c:a.eval x= .int k' n:=By j (by simp);obtain rfl:=h _ rfl;obtain⟨_,_,d,_,_,_,_,hu,_⟩:=(g src).info p;have b:=(g dst).kind k m;refine Cc (u:= .int k (k.wrap n)) (w':=w) ?_ (l _ _ _ (S.val (Or.inr rfl)));simp[execOp,i,c,convert,run_underlying hu,run_underlying b,Conv.intToInt]
 exact h.elim
theorem nO (L:∀t,D1 P t (TI t)) {o:Oper} {t:TypeId} {x:Operand} {i:Nat} (z:o.op= .field t x i):Sound P E TI o:=by
 intro w0 X β s a w S f h N Q K;simp only[Ca,z] at h;obtain⟨M,h⟩:=h;have A:=C1 S.CW x
 split at h
 ·rename_i b n g cs v he
  split at h
  ·rename_i y
   subst h;rw[he] at A;obtain⟨arr,R,k⟩:=A;obtain⟨fs,hu,hlen,l⟩:=(L t).fields M (by intro e;simp[e] at v);obtain⟨fl,d,C,D,h3,U,F,G,q⟩:=l i b n g v;have c:Ai (BR (cx X w β (AH s.bk))) (GV cs b n) ((arr.toList.drop b).take n):=by rw[Lg];exact (k.drop b).take n
   have m:((arr.toList.drop b).take n).length=n:=by rw[<-c.length,y]
   refine Cc (u:=valOf g ((arr.toList.drop b).take n)) (w':=w) ?_
    (K _ _ _ (S.val (ZH c (fun e=>by rw[y];exact q e))))
   have j:(part fl.type arr b).run P w= .ok (valOf g ((arr.toList.drop b).take n)) w:=by
    unfold part;rw[Sem.run_bind,Ze F,Result.andThen_ok,G];cases g with
    | true=>
     cases p:P.info? fl.type with
     | none=>simp[p] at h3
     | some T=>
      have O:T.size=n:=by simpa [p] using h3
      have B:arr.extract b (b+n)=((arr.toList.drop b).take n).toArray:=by
       apply Array.ext';simp only[Array.toList_extract,List.extract_eq_take_drop];rw[show b+n-b=n by omega]
      simp[sizeOf,typeInfo,p,O,B,valOf]
    | false=>
     have:=q rfl;subst this;have H:arr.toList.drop b≠[]:=by intro e;simp[e] at m
     obtain⟨u,r,e⟩:=List.exists_cons_of_ne_nil H
     have J:arr[b]? =some u:=by
      have:=congrArg (·[0]?) e;simpa using this
     simp[J,e,valOf]
   simp[execOp,z,R,Instr.field,run_underlying hu,C,asAgg,D,j]
  exact h.elim
 exact h.elim
theorem gb {fl:Field} {b off n:Nat} {w:World} (h3:(P.info? fl.type).map (·.size)=some n) (f:0<n):(fieldPlace ⟨b,off,none⟩ fl).run P w= .ok ⟨b,off+fl.offset,none⟩ w:=by
 cases c:P.info? fl.type with
 | none=>simp[c] at h3
 | some d=>
  have g:d.size=n:=by simpa [c] using h3
  have:¬d.size=0:=by omega
  simp[fieldPlace,sizeOf,typeInfo,c,this,Addr.add_mid]
theorem nP (H:∀t,D1 P t (TI t)) {o:Oper} {t:TypeId} {x:Operand} {i:Nat} (F:o.op= .fieldAddr t x i):Sound P E TI o:=by
 intro w0 X β s a w S f h N Q C;simp only[Ca,F] at h;obtain⟨J,h⟩:=h;have m:=C1 S.CW x
 have go:∀(c n:Nat) (g:Bool) (b off:Nat),(TI t).fields[i]? =some (c,n,g)->a.eval x= .pointer (some ⟨b,off,none⟩)->(execOp a.eval o).run P w= .ok (.value (.pointer (some ⟨b,off+c,none⟩))) w:=by
  intro c n g b off l z;obtain⟨fs,hu,hlen,D⟩:=(H t).fields J (by intro e;simp[e] at l);obtain⟨fl,d,A,B,h3,G,K,L,M⟩:=D i c n g l;subst B;simp[execOp,F,z,Instr.fieldAt,run_underlying hu,A,Instr.sureAddr,gb h3 G]
 split at h
 ·rename_i c n g id v off l he
  split at h
  ·rename_i z
   subst h;rw[he] at m;have r:=By m (by simp);obtain⟨b,hb,p⟩:=r.2 z.symm;exact Cc (go c n g b off l p) (C _ _ _ (S.val (Or.inr ⟨⟨rfl,r.1.2⟩,fun _=>⟨b,hb,rfl⟩⟩)))
  exact h.elim
 ·rename_i c n g u y off l he
  subst h;rw[he] at m;obtain⟨b,q,us,p,A,B,h3⟩:=By m (by simp);exact Cc (go c n g b (q+off) l p) (C _ _ _ (S.val (Or.inr ⟨b,q,us,by rw[Nat.add_assoc],A,B,h3⟩)))
 ·rename_i c n g u id v j k l he
  split at h
  ·rename_i z
   subst h;rw[he] at m;have r:=By m (by simp);obtain⟨b,hb,p⟩:=r.2 z.symm;exact Cc (go c n g b _ l p) (C _ _ _ (S.val (Or.inr ⟨⟨rfl,r.1.2⟩,fun _=>⟨b,hb,by rw[Nat.add_assoc]⟩⟩)))
  exact h.elim
 exact h.elim
end
section
variable {P:Program} {E:Env} {TI:TypeId->Info}
theorem Y7 {w:World} {b off n:Nat} {arr:Array Value} {e:TypeId} (h:w.heap[b]? =some (.cells arr e (0,0))):w.rangeAt b off ((arr.toList.drop off).take n):=by
 intro j v c
 have:arr[off+j]? =some v:=by
  rw[List.getElem?_take] at c
  split at c
  ·simpa using c
  cases c
 simp[World.cell?,h,this]
theorem Y8 {w:World} {b o off n:Nat} {us:List Value} (h:w.rangeAt b o us):w.rangeAt b (o+off) ((us.drop off).take n):=by
 intro j v c;rw[Nat.add_assoc];refine h (off+j) v ?_;rw[List.getElem?_take] at c
 split at c
 ·simpa using c
 cases c
theorem run_load {t:TypeId} {i:Info} {w:World} {b o:Nat} {us:List Value} (p:D1 P t i) (q:i.known=true) (j:w.rangeAt b o us) (f:us.length=i.size):
  (Instr.loadAt t (.pointer (some ⟨b,o,none⟩))).run P w= .ok (valOf i.agg us) w:=by
 obtain⟨v,z,d,k,l,h3,r,g,h,m⟩:=p.info q;cases c:i.agg with
 | true=>exact run_loadAt_mid w b o t us d j g (h.trans c) (by simp[k,l,f])
 | false=>
  have n:=m c;rw[n] at f
  match us,f with
  | [u],_=>exact mg g (h.trans c) (show w.cell? ⟨b,o,none⟩=some u by simpa using j 0 u (by simp))
theorem nR (D:∀t,D1 P t (TI t)) {o:Oper} {t:TypeId} {x:Operand} (G:o.op= .load t x):Sound P E TI o:=by
 intro w0 X β s a w S f h N Q J;simp only[Ca,G,MK] at h;obtain⟨F,h⟩:=h;have p:=C1 S.CW x;have B:(TI t).agg=false->(TI t).size=1:=by obtain⟨_,_,_,_,_,_,_,_,_,H⟩:=(D t).info F;exact H
 have go:∀(b q:Nat) (cs:List AC) (us:List Value),a.eval x= .pointer (some ⟨b,q,none⟩)->w.rangeAt b q us->Ai (BR (cx X w β (AH s.bk))) cs us->cs.length=(TI t).size->
   ∀rd,f=⟨Dh ((TI t).agg,cs),[],rd⟩->o.wp P a w N Q:=by
  intro b q cs us g z d m rd K;subst K;have:=run_load (D t) F z (d.length ▸ m);exact Cc (u:=valOf (TI t).agg us) (w':=w) (by simp[execOp,G,g,this]) (J _ _ _ (S.val (ZH d (fun e=>by rw[m];exact B e))))
 split at h
 ·rename_i id v off he
  rw[he] at p;have z:=By p (by simp)
  split at h
  ·rename_i M cs hb
   split at h
   ·rename_i hc
    obtain⟨b,arr,e,j,r,h3⟩:=S.blocks id _ hb;have C:v=AR (AH s.bk) id:=by unfold AR;rw[hb];exact hc.1.symm
    obtain⟨b',c,g⟩:=z.2 C;obtain rfl:b=b':=Option.some.inj (j.symm.trans c);refine go b off _ _ g (Y7 r (n:=(TI t).size)) ?_ hc.2 _ h.symm;rw[Lg];exact (h3.drop off).take _
   exact h.elim
  exact h.elim
 ·rename_i u y off he
  rw[he] at p;obtain⟨b,q,us,g,j,r,h3⟩:=By p (by simp)
  split at h
  ·rename_i m
   refine go b (q+off) _ _ g (Y8 h3 (n:=(TI t).size)) ?_ m _ h.symm;rw[Lg];exact (((IP _ u y us).1 r).drop off).take _
  exact h.elim
 ·rename_i u id v i k he
  rw[he] at p;have z:=By p (by simp)
  split at h
  ·rename_i M O l hb
   split at h
   ·rename_i hc
    obtain rfl:=T.beq_eq hc.2;obtain⟨y,L,h⟩:=h;have C:v=AR (AH s.bk) id:=by unfold AR;rw[hb];exact hc.1.symm
    obtain⟨b',c,g⟩:=z.2 C;have A:=S.blocks id _ hb;rcases A with⟨j,r⟩ |⟨b,arr,e,j,r,h3⟩
    ·exact absurd (j.symm.trans c) (by simp)
    obtain rfl:b=b':=Option.some.inj (j.symm.trans c);obtain⟨us,hu,ha⟩:=h3 i y (L ())
    split at h
    ·rename_i m
     refine go b (i*u.size+k) _ _ g (Y8 ha (n:=(TI t).size)) ?_ m _ h.symm;rw[Lg];exact (((IP _ u y us).1 hu).drop k).take _
    exact h.elim
   exact h.elim
  exact h.elim
 exact h.elim
theorem Bo.new {w0:World} {X:WX} {β:Nat->Option Nat} {s:St} {a:Act} {w:World} (S:Bo w0 X β s a w) {dst d:Nat} (z:dst=d) {av:AV} {Bp:AM} {rd:List Nat} {u:Value} {w':World} {arr:Array Value} {e:TypeId}
  (hw:w'.heap=w.heap.push (.cells arr e (0,0))) (l:w'.os=w.os) (f:w'.tape=w.tape) (g:w'.output=w.output)
  (m:Bp.AR=AR (AH s.bk) d+1) (p:Bp.short)
  (x:∀y:Cx,(cx X w β (AH s.bk)).le y->y.w=w'->y.β d=some w.heap.size->DJ y d Bp)
  (C:∀y:Cx,(cx X w β (AH s.bk)).le y->y.w=w'->y.β d=some w.heap.size->y.cv d=AR (AH s.bk) d+1->Bu y av u):
  ∃β',Bo w0 X β' (s.app (some dst) ⟨av,[(d,Bp)],rd⟩) (a.put (some dst) u) w':=by
 subst z;have c:∀b,b<w.heap.size->w'.heap[b]? =w.heap[b]? :=fun b hb=>by rw[hw,Array.getElem?_push,if_neg (by omega)]
 have n:∀b o,w.heap[b]? =some o->b<w.heap.size:=fun b o h=>by
  rcases Nat.lt_or_ge b w.heap.size with h' | h'
  ·exact h'
  simp[Array.getElem?_eq_none h'] at h
 by_cases j:dst<s.bk.length
 ·refine⟨fun k=>if k=dst then some w.heap.size else β k,S.write j p (fun k A=>by simp[A]) (by omega) (fun e=>absurd e (by omega)) (fun b hb _=>c b hb) (by rw[hw];simp)
   (fun b i e' q=>⟨i,(c b (n b _ q)).trans q,rfl⟩) l f g (fun _ b hb=> .inr ?_) (fun hle=>?_) (fun hle=>?_)⟩
  ·simp at hb;omega
  ·exact x _ hle rfl (by show (if dst=dst then _ else _)=_;simp)
  exact C _ hle rfl (by show (if dst=dst then _ else _)=_;simp) (by show AR _ dst=_;rw[GC _ _ _ j,if_pos rfl,m])
 have r:s.bk.length<=dst:=by omega
 have v:s.sl.length<=dst:=by have:=S.len;have:=S.IG;omega
 refine⟨β,?_⟩
 have B:s.app (some dst) ⟨av,[(dst,Bp)],rd⟩=s.app none ⟨.one .Bz,[],rd⟩:=by
  simp[St.app,GS,DB,Hu _ _ _ r,Hu _ _ _ v]
 have ha:a.put (some dst) u=a.put none undef:=by
  have:a.tmps.size<=dst:=by have:=S.len;omega
  simp[Act.put,Array.setIfInBounds_eq_of_size_le this]
 rw[B,ha];exact S.ext c (by rw[hw];simp) l f g (Jh _ _)
theorem Zg {w:World} (t:TypeId) (v:Value):(newVar t v).run P w= .ok ⟨w.heap.size,0,none⟩ {w with heap:=w.heap.push (.cells v.cells t (0,0))}:=by
 simp[newVar,newRow,newObj,Sem.run]
theorem nF (n:∀t,D1 P t (TI t)) {o:Oper} {t:TypeId} (j:o.op= .alloc t) (p:o.dst≠none):Sound P E TI o:=by
 intro w0 X β s a w S f h N Q i;simp only[Ca,j] at h;obtain⟨r,h⟩:=h;subst h;obtain⟨C,z,d,l,v,h3,m,x,A,B⟩:=(n t).info r
 have b:(execOp a.eval o).run P w= .ok (.value (.pointer (some ⟨w.heap.size,0,none⟩))) {w with heap:=w.heap.push (.cells z.cells t (0,0))}:=by
  simp[execOp,j,Instr.alloc,zeroValue,typeInfo,l,h3,Zg]
 obtain⟨q,g⟩:=Option.ne_none_iff_exists'.1 p;have c:Bv o=q:=by simp[Bv,g]
 rw[c,g] at i
 obtain⟨β',k⟩:=S.new (dst:=q) (d:=q) rfl (av:= .one (.Ag q (AR (AH s.bk) q+1) 0)) (Bp:= .var (AR (AH s.bk) q+1) (TI t).zero) (rd:=[q]) (u:= .pointer (some ⟨w.heap.size,0,none⟩))
  (w':={w with heap:=w.heap.push (.cells z.cells t (0,0))}) (arr:=z.cells) (e:=t) rfl rfl rfl rfl rfl trivial
  (fun y _ hw hb=>⟨_,z.cells,t,hb,by rw[hw];simp,m y⟩) (fun y _ _ hb hc=>Or.inr ⟨⟨rfl,by omega⟩,fun _=>⟨_,hb,rfl⟩⟩)
 exact Cc b (by rw[g];exact i _ _ _ k)
theorem nI {o:Oper} {t:TypeId} {x:Operand} (n:o.op= .box t x) (r:o.dst≠none):Sound P E TI o:=by
 intro w0 X β s a w S f h N Q m;simp only[Ca,n] at h;have v:=C1 S.CW x
 have b:(ev s.sl x).full=true/\f=⟨.one (.Ag (Bv o) (AR (AH s.bk) (Bv o)+1) 0),[(Bv o,.var (AR (AH s.bk) (Bv o)+1) (ev s.sl x).cs)],[Bv o]⟩:=by
  split at h
  ·exact h.elim
  ·exact h.elim
  rename_i z A
  refine⟨?_,h.symm⟩;cases B:ev s.sl x with
  | one c=>cases c <;> simp_all [AV.full]
  | agg cs=>rfl
  | AF xs=>simp_all
 obtain⟨j,rfl⟩:=b;have k:∀xs,ev s.sl x≠ .AF xs:=fun xs e=>by rw[e] at j;simp[AV.full] at j
 have hc:=(ND v k).cells j
 have g:(execOp a.eval o).run P w= .ok (.value (.pointer (some ⟨w.heap.size,0,none⟩))) {w with heap:=w.heap.push (.cells (a.eval x).cells t (0,0))}:=by
  simp[execOp,n,Instr.box,Zg]
 obtain⟨q,l⟩:=Option.ne_none_iff_exists'.1 r;have i:Bv o=q:=by simp[Bv,l]
 rw[i,l] at m
 obtain⟨β',p⟩:=S.new (dst:=q) (d:=q) rfl (av:= .one (.Ag q (AR (AH s.bk) q+1) 0)) (Bp:= .var (AR (AH s.bk) q+1) (ev s.sl x).cs) (rd:=[q]) (u:= .pointer (some ⟨w.heap.size,0,none⟩))
  (w':={w with heap:=w.heap.push (.cells (a.eval x).cells t (0,0))}) (arr:=(a.eval x).cells) (e:=t) rfl rfl rfl rfl rfl trivial
  (fun y hle hw hb=>⟨_,_,t,hb,by rw[hw];simp,hc.mono fun _ _=>BR.mono hle⟩) (fun y _ _ hb hc=>Or.inr ⟨⟨rfl,by omega⟩,fun _=>⟨_,hb,rfl⟩⟩)
 exact Cc g (by rw[l];exact m _ _ _ p)
end
theorem SL {α:Type} (l:List α) (o:Nat):Dj l o []=l:=by
 induction l generalizing o with
 | nil=>cases o <;> rfl
 | cons c l b=>cases o with
  | zero=>rfl
  | succ o=>simp[Dj,b]
theorem SM {α:Type}:∀(l:List α) (o:Nat) (v:α) (r:List α),Dj (l.set o v) (o+1) r=Dj l o (v::r)
 |[],0,_,_|[],_+1,_,_=>rfl
 | c::l,0,v,r=>by simp[Dj]
 | c::l,o+1,v,r=>by simp[Dj,SM l o v r]
theorem Ai.Dj {α γ:Type} {R:α->γ->Prop}:∀{l:List α} {m:List γ} (o:Nat) {xs:List α} {ys:List γ},Ai R l m->Ai R xs ys->Ai R (Dj l o xs) (Dj m o ys)
 |[],[],0,[],[],_,_|[],[],0,_::_,_::_,_,_|[],[],_+1,_,_,_,_=>trivial
 | _::_,_::_,0,[],[],h,_=>h
 | _::_,_::_,0,_::_,_::_,h,h'=>⟨h'.1,Ai.Dj 0 h.2 h'.2⟩
 | _::_,_::_,o+1,_,_,h,h'=>⟨h.1,Ai.Dj o h.2 h'⟩
 |[],_::_,_,_,_,h,_|_::_,[],_,_,_,h,_=>h.elim
 |_,_,0,[],_::_,_,h'|_,_,0,_::_,[],_,h'=>h'.elim
theorem LZ (b:Nat):∀(vs:List Value) (o:Nat) (w:World) (arr:Array Value) (e:TypeId),w.heap[b]? =some (.cells arr e (0,0))->
  ∃c,(w.setCells b o vs).heap[b]? =some (.cells c e (0,0))/\c.toList=Dj arr.toList o vs/\c.size=arr.size
 | [],o,w,arr,e,h=>⟨arr,h,(SL _ _).symm,rfl⟩
 | v::r,o,w,arr,e,h=>by
  have d:(w.setCell ⟨b,o,none⟩ v).heap[b]? =some (.cells (arr.setIfInBounds o v) e (0,0)):=by
   simp[World.setCell,Array.getElem?_modify,h]
  obtain⟨c,f,h3,g⟩:=LZ b r (o+1) _ _ e d;exact⟨c,f,by rw[h3,Array.toList_setIfInBounds,SM],by simpa using g⟩
theorem NO (b:Nat):∀(vs:List Value) (o:Nat) (w:World) (k:Nat),k≠b->(w.setCells b o vs).heap[k]? =w.heap[k]?
 | [],_,_,_,_=>rfl
 | v::r,o,w,k,h=>by
  rw[World.setCells,NO b r (o+1) _ k h];simp[World.setCell,Array.getElem?_modify,Ne.symm h]
theorem Su (b:Nat):∀(vs:List Value) (o:Nat) (w:World),(w.setCells b o vs).os=w.os/\(w.setCells b o vs).tape=w.tape/\(w.setCells b o vs).output=w.output/\(w.setCells b o vs).heap.size=w.heap.size
 | [],_,_=>⟨rfl,rfl,rfl,rfl⟩
 | v::r,o,w=>by
  obtain⟨c,d,h3,f⟩:=Su b r (o+1) (w.setCell ⟨b,o,none⟩ v);exact⟨c,d,h3,f.trans (by simp[World.setCell])⟩
theorem TG {w:World} {b off n:Nat} {arr:Array Value} {e:TypeId} (h:w.heap[b]? =some (.cells arr e (0,0))) (d:off+n<=arr.size):w.there b off n:=by
 intro j c;have:off+j<arr.size:=by omega
 simp[World.cell?,World.frozen?,h,this]
section
variable {P:Program} {E:Env} {TI:TypeId->Info}
theorem Od {x:Cx}:∀{c d:AC} {v:Value},Bm c d->BR x c v->BR x d v
 |.int _ _,_,_,h,r|.bool _,_,_,h,r|.fn _,_,_,h,r|.sl _ _,_,_,h,r=>by rw[show _=_ from h];exact r
 | .nil,_,_,h,r=>by
  rcases h with rfl |⟨t,rfl⟩
  ·exact r
  rw[show _=_ from r];exact⟨none,0,rfl,Nat.le_refl _,by simp,.inl rfl⟩
 |.Bz,_,_,h,_|.AS _ _ _ _ _,_,_,h,_|.Df _ _ _ _ _,_,_,h,_|.Ag _ _ _,_,_,h,_|.DE _ _ _ _ _,_,_,h,_|.Dp _ _ _,_,_,h,_|.ub _,_,_,h,_|.own _ _ _,_,_,h,_=>h.elim
theorem Nz {x:Cx} {R:AC->AC->Prop} (hR:∀c d v,R c d->BR x c v->BR x d v):∀{l m:List AC} {vs:List Value},BV R l m->Ai (BR x) l vs->Ai (BR x) m vs
 | [],[],[],_,_=>trivial
 | _::_,_::_,_::_,h,r=>⟨hR _ _ _ h.1 r.1,Nz hR h.2 r.2⟩
 |[],_::_,_,h,_|_::_,[],_,h,_=>h.elim
 |[],[],_::_,_,r|_::_,_::_,[],_,r=>r.elim
theorem GB {bk:Nat->Option AM} {id:Nat} {b:AM} (h:bk id=some b):AR bk id=b.AR:=by unfold AR;rw[h]
theorem nX (hT:∀t,D1 P t (TI t)) {o:Oper} {t:TypeId} {p x:Operand} (ho:o.op= .store t p x):Sound P E TI o:=by
 intro w0 X β s a w S f h N Q hN;simp only[Ca,ho] at h;obtain⟨hk,h⟩:=h;have hp:=C1 S.CW p;have hx:=C1 S.CW x;obtain⟨ti,z,d,h1,h2,h3,h4,h5,h6,h7⟩:=(hT t).info hk
 have go:∀(id b q:Nat) (arr:Array Value) (e:TypeId) (Bp:AM) (ys:List AC),a.eval p= .pointer (some ⟨b,q,none⟩)->id<s.bk.length->live (AH s.bk) id->β id=some b->w.heap[b]? =some (.cells arr e (0,0))->
   Ai (BR (cx X w β (AH s.bk))) ys (a.eval x).cells.toList->ys.length=(TI t).size->q+(TI t).size<=arr.size->Bp.AR=AR (AH s.bk) id->Bp.short->
   (∀y:Cx,(cx X w β (AH s.bk)).le y->y.w=w.setCells b q (a.eval x).cells.toList->y.β id=some b->DJ y id Bp)->∀rd,f=⟨.one .Bz,[(id,Bp)],rd⟩->o.wp P a w N Q:=by
  intro id b q arr e Bp ys D a6 hl hb hh A hlen hq an ai hB rd hf;subst hf;have M:(a.eval x).cells.size=ti.size:=by have:=A.length;simp only[Array.length_toList] at this;omega
  have a1:=mh (P:=P) (t:=t) (b:=b) (o:=q) (v:=a.eval x) h1 M (TG hh (by omega)) (A.one);obtain⟨c1,c2,c3,c4⟩:=Su b (a.eval x).cells.toList q w;refine od (w':=w.setCells b q (a.eval x).cells.toList) (by simp[execOp,ho,D,a1]) (hN β _ _ ?_);refine S.write a6 ai (fun _ _=>rfl) (by omega) (fun _=>⟨rfl,fun _=>hl⟩) (fun k _ hk=>NO b _ _ _ k (fun e=>hk hl (e ▸ hb))) (by omega) (fun k r e' Y=>?_) c1 c2 c3 (fun _ k ad=> .inl ⟨ad,hl⟩) (fun hle=>hB _ hle rfl hb) (fun _=>Jh _ _)
  by_cases e1:k=b
  ·subst e1;obtain⟨V,g1,g2,H⟩:=LZ k (a.eval x).cells.toList q w r e' Y;exact⟨V,g1,H⟩
  exact⟨r,(NO b _ _ _ k e1).trans Y,rfl⟩
 have C:∀{id:Nat} {b:AM},AH s.bk id=some b->id<s.bk.length:=fun {id b} hb=>by
  rcases Nat.lt_or_ge id s.bk.length with h | h
  ·exact h
  rw[JZ _ _ h] at hb;cases hb
 split at h
 ·rename_i id v off he
  rw[he] at hp;have hr:=By hp (by simp)
  split at h
  ·exact h.elim
  ·exact h.elim
  ·rename_i v' cs a8 aa ab
   have hb:AH s.bk id=some (.var v' cs):=by assumption
   split at h
   ·rename_i hc
    obtain⟨U,hlen,al⟩:=hc;subst U
    have g:(ev s.sl x).full=true:=by
     cases R:ev s.sl x with
     | one c=>cases c <;> simp_all [AV.full]
     | agg cs=>rfl
     | AF xs=>simp_all
    have L:∀xs,ev s.sl x≠ .AF xs:=fun xs e=>by rw[e] at g;simp[AV.full] at g
    have A:=(ND hx L).cells g;obtain⟨b,arr,e,g1,g2,H⟩:=S.blocks id _ hb;have R:v'=AR (AH s.bk) id:=(GB hb).symm;obtain⟨b',F,D⟩:=hr.2 R;obtain rfl:b=b':=Option.some.inj (g1.symm.trans F);have a2:=H.length;simp only[Array.length_toList] at a2;refine go id b off arr e _ _ D (C hb) ⟨_,hb,rfl⟩ g1 g2 A hlen (by omega) (by simpa [AM.AR] using R) (by trivial) (fun y hle hw J=>?_) _ h.symm;obtain⟨r,q1,q2,q3⟩:=LZ b (a.eval x).cells.toList off w arr e g2;refine⟨b,r,e,J,by rw[hw];exact q1,?_⟩;rw[q2];exact ((H.mono fun _ _=>BR.mono hle).Dj off (A.mono fun _ _=>BR.mono hle))
   exact h.elim
  exact h.elim
 ·rename_i u id v i k he
  rw[he] at hp;have hr:=By hp (by simp)
  split at h
  ·exact h.elim
  ·exact h.elim
  ·rename_i v' u' l a8 aa ab
   have hb:AH s.bk id=some (.arr v' u' l):=by assumption
   split at h
   ·rename_i hc
    obtain⟨U,ae,M,aj⟩:=hc;subst U ae;obtain rfl:=T.beq_eq aj;obtain⟨z',hz,h⟩:=h;obtain⟨hi,W⟩:=hz ()
    have g:(ev s.sl x).full=true:=by
     cases R:ev s.sl x with
     | one c=>cases c <;> simp_all [AV.full]
     | agg cs=>rfl
     | AF xs=>simp_all
    have L:∀xs,ev s.sl x≠ .AF xs:=fun xs e=>by rw[e] at g;simp[AV.full] at g
    have A:=Nz (fun _ _ _=>Od) W ((ND hx L).cells g);have R:v'=AR (AH s.bk) id:=(GB hb).symm;obtain⟨b',F,D⟩:=hr.2 R;have ah:=S.blocks id _ hb;rcases ah with⟨g1,g2⟩ |⟨b,arr,e,g1,g2,H⟩
    ·exact absurd (g1.symm.trans F) (by simp)
    obtain rfl:b=b':=Option.some.inj (g1.symm.trans F);have hn:=T.size_pos u
    have af:i*u.size+u.size<=arr.size:=by
     obtain⟨us,G,O⟩:=H i l[i] (by simp[hi]);have ak:=Ji _ _ _ G;have ag:u.size-1<us.length:=by omega
     have:=O (u.size-1) us[u.size-1] (by simp[ag]);simp only[World.cell?,g2] at this
     have B:i*u.size+(u.size-1)<arr.size:=by
      rcases Nat.lt_or_ge (i*u.size+(u.size-1)) arr.size with B | B
      ·exact B
      simp[Array.getElem?_eq_none B] at this
     omega
    refine go id b (i*u.size) arr e _ _ D (C hb) ⟨_,hb,rfl⟩ g1 g2 A (by rw[He];exact M.symm) (by omega) (by simpa [AM.AR] using R) (by have:=S.lens id _ hb;simpa [AM.short] using this) (fun y hle hw J=>?_) _ (h _ rfl).symm;refine Or.inr ?_;obtain⟨r,q1,q2,q3⟩:=LZ b (a.eval x).cells.toList (i*u.size) w arr e g2;refine⟨b,r,e,J,by rw[hw];exact q1,fun j y' hj=>?_⟩;have a5:(a.eval x).cells.toList.length=u.size:=by rw[<-A.length,He]
    by_cases Z:j=i
    ·subst Z;have:y'=z':=by simp[List.getElem?_set,hi] at hj;exact hj.symm
     subst this;refine⟨(a.eval x).cells.toList,((IP _ u y' _).2 (A.mono fun _ _=>BR.mono hle)),fun m v hm=>?_⟩;rw[hw]
     have K:m<(a.eval x).cells.toList.length:=by
      rcases Nat.lt_or_ge m (a.eval x).cells.toList.length with B | B
      ·exact B
      simp[List.getElem?_eq_none B] at hm
     rw[World.cell?_setCells_in b _ (j*u.size) w (fun m hm=>(TG g2 (n:=u.size) (by omega) m (by omega)).1) m K];simp[List.getElem?_eq_getElem K] at hm;simpa using hm
    have a7:l[j]? =some y':=by simpa [List.getElem?_set,Ne.symm Z] using hj
    obtain⟨us,G,O⟩:=H j y' a7;refine⟨us,C0 hle.I u y' us G,fun m v hm=>?_⟩;have ak:=Ji _ _ _ G
    have K:m<us.length:=by
     rcases Nat.lt_or_ge m us.length with B | B
     ·exact B
     simp[List.getElem?_eq_none B] at hm
    rw[hw,World.cell?_setCells_out b _ (i*u.size) w _ (fun _ _=>?_)]
    ·exact O m v hm
    show j*u.size+m<i*u.size\/i*u.size+_<=j*u.size+m
    rw[a5];rcases Nat.lt_or_ge j i with B | B
    ·left
     have:(j+1)*u.size<=i*u.size:=Nat.mul_le_mul_right _ B;rw[Nat.add_mul] at this;omega
    right
    have:(i+1)*u.size<=j*u.size:=Nat.mul_le_mul_right _ (by omega);rw[Nat.add_mul] at this;omega
   exact h.elim
  exact h.elim
 exact h.elim
end
section
variable {P:Program} {E:Env} {TI:TypeId->Info}
theorem Zz {w:World} {t:TypeId} {b:TypeInfo} (h:P.info? t=some b):(sizeOf t).run P w= .ok b.size w:=by simp[sizeOf,typeInfo,h]
theorem nQ (R:∀t,D1 P t (TI t)) {o:Oper} {t:TypeId} {x i:Operand} (J:o.op= .indexAddr t x i):Sound P E TI o:=by
 intro w0 X β s a w S f h N Q H;simp only[Ca,J] at h;obtain⟨U,h⟩:=h;obtain⟨hu,ei,z,g1,g2,g3,g4,g5,g6⟩:=(R t).sl U;have r:=C1 S.CW x;have q:=C1 S.CW i
 have go:∀(b off len cap:Nat) (k:IntKind) (n:Int),a.eval x= .slice (some ⟨b,off,none⟩) len cap->a.eval i= .int k n->0<=n->n<len->
   (execOp a.eval o).run P w= .ok (.value (.pointer (some ⟨b,off+n.toNat*(TI t).elem.size,none⟩))) w:=by
  intro b off len cap k n p D L A;simp[execOp,J,p,D,Instr.indexAt,asIntOf,run_underlying hu,Zz g1,g2,L,A,Addr.add_mid]
 split at h
 ·rename_i u l k n he d
  rw[he] at r;rw[d] at q;have g:a.eval i= .int k n:=By q (by simp);obtain⟨base,cap,p,A,M,h3⟩:=By r (by simp);obtain⟨c,y,Z,h⟩:=h;obtain rfl:=T.beq_eq c;obtain⟨j,m⟩:=Z ();subst h
  have C:n.toNat<l.length:=by
   rcases Nat.lt_or_ge n.toNat l.length with B | B
   ·exact B
   simp[List.getElem?_eq_none B] at m
  rcases h3 with rfl |⟨b,off,rfl,O,hc⟩
  ·simp at C
  obtain⟨us,F,G⟩:=hc n.toNat y m;refine Cc (go b off l.length cap k n (by simpa using p) g j (by omega)) (H _ _ _ (S.val (Or.inr ⟨b,off+n.toNat*(TI t).elem.size,us,by rw[Nat.add_zero],O,F,G⟩)))
 ·rename_i u id v off len k n he d
  rw[he] at r;rw[d] at q;have g:a.eval i= .int k n:=By q (by simp);obtain⟨c,h⟩:=h;obtain rfl:=T.beq_eq c
  split at h
  ·rename_i p
   have K:=By r (by simp);obtain⟨base,cap,W,A,M,_,h3⟩:=K.2 p.symm;obtain⟨D,h⟩:=h;obtain⟨j,V⟩:=D ();obtain rfl:=h _ rfl;rcases h3 with rfl |⟨b,arr,e,hb,rfl,hh,Y⟩
   ·omega
   refine Cc (go b (off*(TI t).elem.size) len cap k n W g j (by omega)) (H _ _ _ (S.val (Or.inr ⟨⟨rfl,K.1.2⟩,fun _=>⟨b,hb,?_⟩⟩)));rw[Nat.add_mul,Nat.add_zero]
  exact h.elim
 exact h.elim
theorem Le {w:World} {k:IntKind} {n:Int} {y:Nat} {c:BoundsCode} (b:0<=n) (d:n<=y):(Instr.sliceBound (.int k n) y c).run P w= .ok n.toNat w:=by
 simp[Instr.sliceBound,asIntOf,b,d]
theorem QO {w:World} {a:Act} {x:Cx} {lo v mx:Option Operand} {s:St} (u:∀o,Bu x (ev s.sl o) (a.eval o)) {len cap:Nat} (hc:len<=cap) {R:Nat->Nat->Bool->Prop}
  (h:JF len (lo.map (ev s.sl)) (v.map (ev s.sl)) (mx.map (ev s.sl)) R):
  ∃(l q m:Nat) (c:Bool),(Instr.sliceBounds true len cap (lo.map a.eval) (v.map a.eval) (mx.map a.eval)).run P w= .ok (l,q,m) w/\l<=q/\q<=len/\q<=m/\m<=cap/\(c=true->m=q/\l=0)/\(c=false->m=cap)/\R l q c:=by
 have b:∀{o:Operand} {k:IntKind} {n:Int},ev s.sl o= .one (.int k n)->a.eval o= .int k n:=fun {o k n} e=>by
  have:=u o;rw[e] at this;exact By this (by simp)
 unfold JF at h
 split at h
 ·rename_i d e2 f
  simp only[Option.map_eq_none_iff] at d e2 f;subst d e2 f;exact⟨0,len,cap,false,by simp[Instr.sliceBounds],Nat.zero_le _,Nat.le_refl _,hc,Nat.le_refl _,by simp,fun _=>rfl,h _ rfl⟩
 ·rename_i k n d e2 f
  simp only[Option.map_eq_none_iff,Option.map_eq_some_iff] at d e2 f;obtain⟨p,rfl,d⟩:=d;subst e2 f;obtain⟨hb,h⟩:=h;obtain⟨g,i⟩:=hb ();have i:n<=(len:Int):=by omega
  exact⟨n.toNat,len,cap,false,by simp[Instr.sliceBounds,b d,Le g i],by omega,Nat.le_refl _,hc,Nat.le_refl _,by simp,fun _=>rfl,h _ _ ⟨rfl,rfl⟩⟩
 ·rename_i k n d e2 f
  simp only[Option.map_eq_none_iff,Option.map_eq_some_iff] at d e2 f;obtain⟨p,rfl,e2⟩:=e2;subst d f;obtain⟨hb,h⟩:=h;obtain⟨g,i⟩:=hb ();have j:n<=(cap:Int):=by omega
  exact⟨0,n.toNat,cap,false,by simp[Instr.sliceBounds,b e2,Le g j],by omega,by omega,by omega,Nat.le_refl _,by simp,fun _=>rfl,h _ rfl⟩
 ·rename_i k n k' n' d e2 f
  simp only[Option.map_eq_none_iff,Option.map_eq_some_iff] at d e2 f;obtain⟨p,rfl,d⟩:=d;obtain⟨y,rfl,e2⟩:=e2;subst f;obtain⟨hb,h⟩:=h;obtain⟨g,i,j⟩:=hb ();have h3:n'<=(cap:Int):=by omega
  have r:n<=(n'.toNat:Int):=by omega
  exact⟨n.toNat,n'.toNat,cap,false,by simp[Instr.sliceBounds,b d,b e2,Le (show 0<=n' by omega) h3,Le g r],by omega,by omega,by omega,Nat.le_refl _,by simp,fun _=>rfl,h _ _ ⟨rfl,rfl⟩⟩
 ·rename_i k n k' n' d e2 f
  simp only[Option.map_eq_none_iff,Option.map_eq_some_iff] at d e2 f;obtain⟨p,rfl,e2⟩:=e2;obtain⟨y,rfl,f⟩:=f;subst d;obtain⟨hb,h⟩:=h;obtain⟨g,i,j⟩:=hb ();subst i;have h3:n<=(cap:Int):=by omega
  have r:n<=(n.toNat:Int):=by omega
  exact⟨0,n.toNat,n.toNat,true,by simp[Instr.sliceBounds,b e2,b f,Le g h3,Le g r],by omega,by omega,by omega,by omega,fun _=>⟨rfl,rfl⟩,by simp,h _ rfl⟩
 exact h.elim
theorem nW (Z:∀t,D1 P t (TI t)) {o:Oper} {t:TypeId} {x:Operand} {lo U mx:Option Operand} (V:o.op= .slice t x lo U mx):Sound P E TI o:=by
 intro w0 X β s a w S f h N Q r;simp only[Ca,V] at h;obtain⟨hk,h⟩:=h;obtain⟨hu,ei,z,g1,g2,g3,g4,g5,g6⟩:=(Z t).sl hk;have k:=C1 S.CW x
 have go:∀(base:Option Addr) (len cap l q m:Nat),a.eval x= .slice base len cap->(Instr.sliceBounds true len cap (lo.map a.eval) (U.map a.eval) (mx.map a.eval)).run P w= .ok (l,q,m) w->
   (execOp a.eval o).run P w= .ok (.value (.slice (if m=l then base else base.map (·.add (l*(TI t).elem.size))) (q-l) (m-l))) w:=by
  intro base len cap l q m n g;simp[execOp,V,n,Instr.sliceAt,run_underlying hu,Instr.slice,g,Zz g1,g2]
 unfold JE at h
 split at h
 ·rename_i u l he
  rw[he] at k;obtain⟨base,cap,n,C,W,h3⟩:=By k (by simp);obtain⟨d,h⟩:=h;obtain rfl:=T.beq_eq d;obtain⟨p,q,m,c,g,b1,b2,b3,M,B,O,hR⟩:=QO (P:=P) (w:=w) (C1 S.CW) C (h _ rfl);obtain rfl:=hR _ rfl;refine Cc (go base l.length cap p q m (by simpa using n) g) (r _ _ _ (S.val (Or.inr ?_)));have hlen:((l.take q).drop p).length=q-p:=by simp;omega
  refine⟨_,m-p,by rw[hlen],by rw[hlen];omega,by rw[hlen];omega,?_⟩
  by_cases H:q=p
  ·left;subst H;simp
  right
  rcases h3 with rfl |⟨b,off,rfl,Y,hc⟩
  ·simp at b2;omega
  refine⟨b,off+p*(TI t).elem.size,by rw[if_neg (by omega)];simp[Addr.add_mid],Y,fun j y A=>?_⟩
  have F:l[p+j]? =some y:=by
   rw[List.getElem?_drop,List.getElem?_take] at A
   split at A
   ·exact A
   cases A
  obtain⟨us,J,K⟩:=hc (p+j) y F;exact⟨us,J,by rw[show off+p*(TI t).elem.size+j*(TI t).elem.size=off+(p+j)*(TI t).elem.size by rw[Nat.add_mul];omega];exact K⟩
 ·rename_i u id v off len he
  rw[he] at k;obtain⟨d,h⟩:=h;obtain rfl:=T.beq_eq d
  split at h
  ·rename_i L
   have i:=By k (by simp);obtain⟨base,cap,hs,C,W,_,h3⟩:=i.2 L.symm;obtain⟨p,q,m,c,g,b1,b2,b3,M,B,O,hR⟩:=QO (P:=P) (w:=w) (C1 S.CW) C h;have hR:=hR _ _ ⟨rfl,rfl⟩;refine Cc (go base len cap p q m hs g) ?_
   have R:∀fl,(fl=true->m-p=q-p)->H2 w (β id) (TI t).elem.size (off+p) (q-p) fl (.slice (if m=p then base else base.map (·.add (p*(TI t).elem.size))) (q-p) (m-p)):=by
    intro fl D;refine⟨_,m-p,rfl,by omega,by omega,D,?_⟩
    by_cases G:m=p
    ·left;omega
    right
    rcases h3 with rfl |⟨b,arr,e,hb,rfl,hh,a1⟩
    ·omega
    refine⟨b,arr,e,hb,by rw[if_neg G];simp[Addr.add_mid,Nat.add_mul],hh,?_⟩;have:(off+p+(m-p))*(TI t).elem.size<=(off+cap)*(TI t).elem.size:=Nat.mul_le_mul_right _ (by omega);omega
   cases c with
   | true=>
    obtain rfl:=hR;exact r _ _ _ (S.val (Or.inr ⟨⟨rfl,i.1.2⟩,fun _=>R true (fun _=>by have:=B rfl;omega)⟩))
   | false=>
    obtain rfl:=hR;exact r _ _ _ (S.val (Or.inr ⟨⟨rfl,i.1.2⟩,fun _=>R false (by simp)⟩))
  exact h.elim
 ·rename_i he
  rw[he] at k;have n:a.eval x= .slice none 0 0:=By k (by simp);obtain⟨p,q,m,c,g,b1,b2,b3,M,B,O,hR⟩:=QO (P:=P) (w:=w) (cap:=0) (C1 S.CW) (Nat.le_refl _) h;obtain rfl:=hR;have:p=0:=by omega
  have:q=0:=by omega
  have:m=0:=by omega
  subst_vars;exact Cc (go none 0 0 0 0 0 n g) (r _ _ _ (S.val (Or.inr (by simp[BR]))))
 exact h.elim
end
def DP (w:World) (I:Nat->Prop) (t:T):List (el t)->List Value->Prop
 | [],fl=>fl=[]
 | x::l,fl=>∃us r,fl=us++r/\rep w I t x us/\DP w I t l r
section
variable {w:World} {I:Nat->Prop} {t:T}
theorem SX {b o:Nat} {us vs:List Value}:w.rangeAt b o (us++vs)↔w.rangeAt b o us/\w.rangeAt b (o+us.length) vs:=by
 constructor
 ·intro h;refine⟨fun j v c=>h j v ?_,fun j v c=>?_⟩
  ·rw[List.getElem?_append_left]
   ·exact c
   rcases Nat.lt_or_ge j us.length with d | d
   ·exact d
   simp[List.getElem?_eq_none d] at c
  rw[Nat.add_assoc];exact h (us.length+j) v (by rw[List.getElem?_append_right (by omega)];simpa using c)
 rintro⟨f,g⟩ j v c
 rcases Nat.lt_or_ge j us.length with d | d
 ·rw[List.getElem?_append_left d] at c;exact f j v c
 rw[List.getElem?_append_right d] at c;have:=g _ v c;rwa [show o+us.length+(j-us.length)=o+j by omega] at this
theorem DP.length:∀{l:List (el t)} {fl:List Value},DP w I t l fl->fl.length=l.length*t.size
 | [],_,h=>by rw[show _=_ from h];simp
 | _::_,_,⟨us,r,e,b,c⟩=>by rw[e,List.length_append,Ji _ _ _ b,DP.length c,List.length_cons,Nat.succ_mul];omega
theorem DP.one:∀{l:List (el t)} {fl:List Value},DP w I t l fl->∀u∈fl,u.oneCell'=true
 | [],_,h,u,hu=>by rw[show _=_ from h] at hu;simp at hu
 | _::_,_,⟨us,r,e,b,c⟩,u,hu=>by
  rw[e] at hu;rcases List.mem_append.1 hu with h | h
  ·exact PI _ _ _ b u h
  exact DP.one c u h
theorem DP.append:∀{l l':List (el t)} {fl b:List Value},DP w I t l fl->DP w I t l' b->DP w I t (l++l') (fl++b)
 | [],_,_,_,h,h'=>by rw[show _=_ from h];exact h'
 | _::_,_,_,_,⟨us,r,e,c,d⟩,h'=>⟨us,r++_,by rw[e,List.append_assoc],c,DP.append d h'⟩
theorem DP.mono {w':World} {c:Nat->Prop} (hm:∀b,I b->c b/\w'.heap[b]? =w.heap[b]?):∀{l:List (el t)} {fl:List Value},DP w I t l fl->DP w' c t l fl
 | [],_,h=>h
 | _::_,_,⟨us,r,e,d,f⟩=>⟨us,r,e,C0 hm _ _ _ d,DP.mono hm f⟩
theorem Sn {b:Nat}:∀{l:List (el t)} {off:Nat},(∀(i:Nat) (x:el t),l[i]? =some x->∃us,rep w I t x us/\w.rangeAt b (off+i*t.size) us)->∃fl,DP w I t l fl/\w.rangeAt b off fl
 | [],_,_=>⟨[],rfl,fun j v g=>by simp at g⟩
 | x::l,off,h=>by
  obtain⟨us,c,d⟩:=h 0 x (by simp)
  obtain⟨fl,h3,f⟩:=Sn (l:=l) (off:=off+t.size) fun i y k=>by
   obtain⟨us,g1,g2⟩:=h (i+1) y (by simpa using k);exact⟨us,g1,by rw[show off+t.size+i*t.size=off+(i+1)*t.size by rw[Nat.add_mul];omega];exact g2⟩
  refine⟨us++fl,⟨us,fl,rfl,c,h3⟩,SX.2 ⟨by simpa using d,?_⟩⟩;rw[Ji _ _ _ c];exact f
theorem NK {b:Nat}:∀{l:List (el t)} {fl:List Value} {off:Nat},DP w I t l fl->w.rangeAt b off fl->∀(i:Nat) (x:el t),l[i]? =some x->∃us,rep w I t x us/\w.rangeAt b (off+i*t.size) us
 | [],_,_,_,_,_,_,c=>by simp at c
 | _::_,_,_,⟨us,r,e,f,_⟩,d,0,x,c=>by
  simp at c;subst c;rw[e] at d;exact⟨us,f,by simpa using (SX.1 d).1⟩
 | _::_,_,off,⟨us,r,e,f,h⟩,d,i+1,x,c=>by
  rw[e] at d;have h3:=(SX.1 d).2;rw[Ji _ _ _ f] at h3;obtain⟨g,g1,g2⟩:=NK h h3 i x (by simpa using c);exact⟨g,g1,by rw[show off+(i+1)*t.size=off+t.size+i*t.size by rw[Nat.add_mul];omega];exact g2⟩
end
theorem Z4 {P:Program} {w:World} {β:Nat->Option Nat} {s:St} {a:Act} {w0:World} {X:WX} (S:Bo w0 X β s a w) {c:AC} {v:Value} {t:T} {l:List (el t)} {q e':TypeId} (r:P.underlying q=some (.slice e'))
  (z:BR (cx X w β (AH s.bk)) c v) (h:Fh (AH s.bk) c (.sl t l)):∃news,Src P t.size q v l.length news w/\DP w (cx X w β (AH s.bk)).I t l news:=by
 have some:∀{b off n cap:Nat},v= .slice (some ⟨b,off,none⟩) n cap->n=l.length->(∀(i:Nat) (x:el t),l[i]? =some x->∃us,rep w (cx X w β (AH s.bk)).I t x us/\w.rangeAt b (off+i*t.size) us)->
   ∃news,Src P t.size q v l.length news w/\DP w (cx X w β (AH s.bk)).I t l news:=by
  intro b off n cap f K hc;obtain⟨fl,m,g⟩:=Sn hc;refine⟨fl,?_,m⟩;rw[f,K];exact Src.ofSlice w r _ _ _ fl m.length (fun j u hu=>by rw[Addr.add_mid];exact g j u hu) m.one
 have d:∀{base:Option Addr} {cap:Nat},v= .slice base 0 cap->l=[]->∃news,Src P t.size q v l.length news w/\DP w (cx X w β (AH s.bk)).I t l news:=by
  intro base cap f J;subst J f;refine⟨[],?_,rfl⟩;cases base with
  | none=>exact Src.ofNil w r cap
  | some F=>exact Src.ofSlice w r F 0 cap [] (by simp) (fun j u hu=>by simp at hu) (by simp)
 cases c with
 | sl k l'=>
  have h:AC.sl t l=AC.sl k l':=h;simp only[AC.sl.injEq] at h;obtain⟨H,g⟩:=h;subst H;have h3:=eq_of_heq g;subst h3;obtain⟨base,cap,f,m,g,h3⟩:=z;have f:v= .slice base l.length cap:=by simpa using f
  rcases h3 with rfl |⟨b,off,rfl,O,hc⟩
  ·exact d f rfl
  exact some f rfl hc
 | nil=>
  rcases h with h |⟨k,h⟩
  ·cases h
  obtain⟨rfl,g⟩:t=k/\HEq l ([]:List (el k)):=by simpa using h
  obtain rfl:=eq_of_heq g;exact d (show v= .slice none 0 0 from z) rfl
 | AS k id vv off len=>
  obtain⟨l',hb,hle,h⟩:=h;obtain⟨rfl,g⟩:t=k/\HEq l ((l'.drop off).take len):=by simpa using h
  obtain rfl:=eq_of_heq g;have f:vv=AR (AH s.bk) id:=by rw[GB hb];rfl
  obtain⟨base,cap,D,m,g,_,h3⟩:=z.2 f;have hlen:((l'.drop off).take len).length=len:=by simp;omega
  by_cases y:len=0
  ·subst y;exact d D (by simp)
  rcases h3 with rfl |⟨b,arr,e,o,rfl,Q,L⟩
  ·omega
  have A:=S.blocks id _ hb;rcases A with⟨g1,g2⟩ |⟨b',C,e',g1,g2,G⟩
  ·exact absurd (g1.symm.trans o) (by simp)
  obtain rfl:b'=b:=Option.some.inj (g1.symm.trans o);refine some D hlen.symm fun i x p=>?_
  have B:l'[off+i]? =Option.some x:=by
   rw[List.getElem?_take] at p
   split at p
   ·simpa using p
   cases p
  obtain⟨us,M,N⟩:=G _ x B;exact⟨us,M,by rw[<-Nat.add_mul];exact N⟩
 | _=>exact (show False by simp[Fh] at h).elim
theorem VM {P:Program} {w:World} {t k ty e:TypeId} {c:TypeInfo} {z:Value} {n:Nat} (ht:P.underlying t=some (.slice e)) (F:P.info? e=some c) (Q:c.zero=some z) (i:c.size=n) (L:z.cells.size=n)
  {base:Option Addr} {len cap:Nat} (H:len<=cap) {olds:List Value} (h:olds.length=len*n)
  (hb:cap=0\/∃b off arr e',base=some ⟨b,off,none⟩/\w.heap[b]? =some (.cells arr e' (0,0))/\off+cap*n<=arr.size/\w.rangeAt b off olds)
  {x:Value} {m:Nat} {news:List Value} (y:Src P n k x m news w) (f:(len+m)*c.bytes<=140737488355328) (p:0<c.bytes):
  (m=0/\(Builtin.append_ #[t,k] ty #[.slice base len cap,x]).run P w= .ok (.slice base len cap) w)\/
  (∃b off,len+m<=cap/\base=some ⟨b,off,none⟩/\(Builtin.append_ #[t,k] ty #[.slice base len cap,x]).run P w= .ok (.slice base (len+m) cap) (w.setCells b (off+len*n) news))\/
  (∃r arr w',len+m<=r/\r<=maxLen/\w'.heap=w.heap.push (.cells arr e (0,0))/\w'.os=w.os/\w'.tape=w.tape/\w'.output=w.output/\arr.size=r*n/\w'.rangeAt w.heap.size 0 (olds++news)/\
   (Builtin.append_ #[t,k] ty #[.slice base len cap,x]).run P w= .ok (.slice (some ⟨w.heap.size,0,none⟩) (len+m) r) w'):=by
 subst i;have o:=y.newsLen;have J:len+m<=140737488355328:=Nat.le_trans (Nat.le_mul_of_pos_right _ p) f
 by_cases hm:m=0
 ·subst hm;have:news=[]:=by simpa using o
  subst this;exact .inl ⟨rfl,run_append_nothing (P:=P) w t k ty e c ht F base len cap H x y⟩
 by_cases d:len+m<=cap
 ·rcases hb with rfl |⟨b,off,arr,e',rfl,D,K,M⟩
  ·omega
  have l:∀j,j<news.length->off+len*c.size+j<arr.size:=fun j g=>by
   have:(len+m)*c.size<=cap*c.size:=Nat.mul_le_mul_right _ d;rw[Nat.add_mul] at this;omega
  exact .inr (.inl ⟨b,off,d,rfl,run_append_room_src (P:=P) w t k ty e c ht F b off len cap x m news y d
   (fun j g=>by simp[World.cell?,D,l j g]) (fun j g=>by simp[World.frozen?,D])⟩)
 have hold:(Builtin.firstCells c.size len (.slice base len cap)).run P w.drew= .ok olds.toArray w.drew:=by
  rcases hb with rfl |⟨b,off,arr,e',rfl,D,K,M⟩
  ·obtain rfl:len=0:=by omega
   have:olds=[]:=by simpa using h
   subst this;cases base with
   | none=>exact run_firstCells_none w.drew c.size 0 0 0
   | some N=>exact run_firstCells_some w.drew c.size 0 N 0 0 [] (by simp) (fun j u hu=>by simp at hu)
  exact run_firstCells_some w.drew c.size len _ len cap olds h fun j u hu=>by rw[Addr.add_mid];simpa using M j u hu
 have A:len+m<=maxLen:=by unfold maxLen;omega
 have q:=run_append_grow_src (P:=P) w t k ty e c z ht F Q base len cap olds hold x m news y (by omega) (by omega) (growslice_fits (by omega) f);have C:=grownCap_ge w (len+m) cap e;refine .inr (.inr ⟨grownCap w (len+m) cap e,(olds++news).toArray++Builtin.zeroCells z.cells (grownCap w (len+m) cap e-(len+m)),(w.drew.alloc (.cells ((olds++news).toArray++Builtin.zeroCells z.cells (grownCap w (len+m) cap e-(len+m))) e)),C,grownCap_le_maxLen w (len+m) cap e A,?_,rfl,rfl,rfl,?_,?_,q⟩)
 ·rfl
 ·simp only[Array.size_append,List.size_toArray,List.length_append,size_zeroCells,L,h,o,<-Nat.add_mul]
  congr 1;omega
 intro j v g;have O:(w.drew.alloc (.cells ((olds++news).toArray++Builtin.zeroCells z.cells (grownCap w (len+m) cap e-(len+m))) e)).cell? ⟨w.heap.size,j,none⟩=_:=World.cell?_alloc_new w.drew _ _ j;rw[Nat.zero_add,O]
 have G:j<(olds++news).length:=by
  rcases Nat.lt_or_ge j (olds++news).length with B | B
  ·exact B
  rw[List.getElem?_eq_none B] at g;cases g
 rw[Array.getElem?_append_left (by simpa using G)];simpa using g
section
variable {P:Program} {E:Env} {TI:TypeId->Info}
theorem nS (hT:∀t,D1 P t (TI t)) {o:Oper} {t:TypeId} {x y:Operand} (W:o.op= .makeSlice t x y) (hd:o.dst≠none):Sound P E TI o:=by
 intro w0 X β s a w S f h N Q V;simp only[Ca,W] at h;obtain⟨hk,h⟩:=h;obtain⟨hu,b,z,g1,g2,g3,g4,g5,R⟩:=(hT t).sl hk;have Z:=C1 S.CW x;have hy:=C1 S.CW y
 split at h
 ·rename_i k n k' m he D
  rw[he] at Z;rw[D] at hy;have J:a.eval x= .int k n:=By Z (by simp);have K:a.eval y= .int k' m:=By hy (by simp);obtain⟨hc,h⟩:=h;obtain⟨h0,h1,U⟩:=hc ();obtain rfl:=h _ _ ⟨rfl,rfl⟩;unfold fits at U;have Y:0<b.bytes:=g4;have a1:m.toNat<=140737488355328:=Nat.le_trans (Nat.le_mul_of_pos_right _ (by omega)) U
  have hb:(b.bytes:Int)*m<=281474976710656:=by
   have O:((b.bytes*m.toNat:Nat):Int)<=281474976710656:=by rw[Nat.mul_comm,g3];omega
   rw[Int.natCast_mul] at O;rwa [Int.toNat_of_nonneg (by omega)] at O
  have r:=run_make (P:=P) w t _ b z hu g1 g5 k k' n m h0 h1 hb (by omega);obtain⟨q,H⟩:=Option.ne_none_iff_exists'.1 hd;have C:Bv o=q:=by simp[Bv,H]
  rw[C,H] at V
  have L:z.cells.toList.length=(TI t).elem.size:=by
   have:=(R (cx X w β (AH s.bk))).length;rw[He] at this;exact this.symm
  have M:z.cells.size=b.size:=by simp only[Array.length_toList] at L;omega
  have a2:=T.size_pos (TI t).elem
  have g:∀i j,i<m.toNat->j<(TI t).elem.size->(madeCells z.cells (m.toNat*b.size))[i*(TI t).elem.size+j]? =z.cells[j]? :=by
   intro i j l p
   have c:i*(TI t).elem.size+j<m.toNat*b.size:=by
    rw[g2];have:(i+1)*(TI t).elem.size<=m.toNat*(TI t).elem.size:=Nat.mul_le_mul_right _ l;rw[Nat.add_mul] at this;omega
   have A:(i*(TI t).elem.size+j)%z.cells.size=j:=by
    rw[M,g2,Nat.add_comm,Nat.add_mul_mod_self_right,Nat.mod_eq_of_lt p]
   have B:j<z.cells.size:=by omega
   simp only[madeCells,Array.getElem?_map];rw[Array.getElem?_range];simp[c,A,B]
  have hB:∀y:Cx,y.w=w.alloc (.cells (madeCells z.cells (m.toNat*b.size)) (TI t).DR)->y.β q=some w.heap.size->DJ y q (.arr (AR (AH s.bk) q+1) (TI t).elem (List.replicate n.toNat (TI t).CT)):=by
   intro y hw hb;refine Or.inr ⟨_,_,_,hb,by rw[hw];exact heap_alloc_new w _,fun i u l=>?_⟩
   have F:i<n.toNat:=by
    rcases Nat.lt_or_ge i n.toNat with c | c
    ·exact c
    rw[List.getElem?_eq_none (by simpa using c)] at l;cases l
   have:u=(TI t).CT:=by simpa [List.getElem?_replicate,F,eq_comm] using l
   subst this;refine⟨z.cells.toList,(IP y _ _ _).2 (R y),fun j v p=>?_⟩
   have G:j<(TI t).elem.size:=by
    rcases Nat.lt_or_ge j (TI t).elem.size with c | c
    ·exact c
    rw[List.getElem?_eq_none (by omega)] at p;cases p
   rw[hw,World.cell?_alloc_new,g i j (by omega) G];simpa using p
  obtain⟨β',S'⟩:=S.new (dst:=q) (d:=q) rfl (av:= .one (.AS (TI t).elem q (AR (AH s.bk) q+1) 0 n.toNat)) (Bp:= .arr (AR (AH s.bk) q+1) (TI t).elem (List.replicate n.toNat (TI t).CT)) (rd:=[q])
   (u:= .slice (some ⟨w.heap.size,0,none⟩) n.toNat m.toNat)
   (w':=w.alloc (.cells (madeCells z.cells (m.toNat*b.size)) (TI t).DR)) (arr:=madeCells z.cells (m.toNat*b.size)) (e:=(TI t).DR) rfl rfl rfl rfl rfl (by simp[AM.short];omega)
   (fun y _ hw hb=>hB y hw hb)
   (fun y _ hw hb hc=>Or.inr ⟨⟨rfl,by omega⟩,fun _=>⟨_,_,rfl,by omega,by unfold maxLen;omega,by simp,.inr ⟨_,_,_,hb,by rw[Nat.zero_mul],by rw[hw];exact heap_alloc_new w _,by rw[size_madeCells,g2,Nat.zero_add];exact Nat.le_refl _⟩⟩⟩)
  refine Cc (u:= .slice (some ⟨w.heap.size,0,none⟩) n.toNat m.toNat) (w':=w.alloc (.cells (madeCells z.cells (m.toNat*b.size)) (TI t).DR)) ?_ (by rw[H];exact V _ _ _ S');simp[execOp,W,J,K,r]
 exact h.elim
theorem S7 {w0:World} {X:WX} {β:Nat->Option Nat} {s:St} {a:Act} {w:World} (S:Bo w0 X β s a w) {t tx ty e e2:TypeId} {ei:TypeInfo} {z:Value} {u:T} (ht:P.underlying t=some (.slice e)) (al:P.underlying tx=some (.slice e2)) (hi:P.info? e=some ei)
  (hz:ei.zero=some z) (Y:ei.size=u.size) (an:z.cells.size=u.size) (Q:0<ei.bytes)
  {base:Option Addr} {len cap:Nat} (aa:len<=cap) (a5:cap<=maxLen) {id:Nat} {l l2:List (el u)} (r:l.length=len)
  (hb:(cap=0)\/∃b arr e',β id=some b/\live (AH s.bk) id/\base=some ⟨b,0,none⟩/\w.heap[b]? =some (.cells arr e' (0,0))/\cap*u.size<=arr.size/\
   ∀(i:Nat) (y:el u),l[i]? =some y->∃us,rep w (cx X w β (AH s.bk)).I u y us/\w.rangeAt b (i*u.size) us)
  {c:AC} {x:Value} (hr:BR (cx X w β (AH s.bk)) c x) (ak:Fh (AH s.bk) c (.sl u l2)) (a6:fits (len+l2.length) ei.bytes)
  {dst:Option Nat} {vv:Nat} {rd:List Nat} (p:id<s.bk.length) (au:vv=AR (AH s.bk) id+1):
  ∃v' w' β',(Builtin.append_ #[t,tx] ty #[.slice base len cap,x]).run P w= .ok v' w'/\
   Bo w0 X β' (s.app dst ⟨.one (.AS u id vv 0 (l++l2).length),[(id,.arr vv u (l++l2))],rd⟩) (a.put dst v') w':=by
 obtain⟨news,hs,G⟩:=Z4 S al hr ak
 have holds:∃olds,DP w (cx X w β (AH s.bk)).I u l olds/\(cap=0\/∃b off arr e',base=some ⟨b,off,none⟩/\w.heap[b]? =some (.cells arr e' (0,0))/\off+cap*u.size<=arr.size/\w.rangeAt b off olds):=by
  rcases hb with rfl |⟨b,arr,e',h1,_,h2,h3,h4,h5⟩
  ·have:l=[]:=List.eq_nil_of_length_eq_zero (by omega);subst this;exact⟨[],rfl,.inl rfl⟩
  obtain⟨fl,q1,q2⟩:=Sn (off:=0) (fun i y J=>by simpa using h5 i y J);exact⟨fl,q1,.inr ⟨b,0,arr,e',h2,h3,by omega,q2⟩⟩
 obtain⟨olds,ab,ai⟩:=holds;have a2:(len+l2.length)*ei.bytes<=140737488355328:=a6;have aq:len+l2.length<=140737488355328:=Nat.le_trans (Nat.le_mul_of_pos_right _ Q) a2;have hlen:(l++l2).length=len+l2.length:=by simp[r]
 have H:(AM.arr vv u (l++l2)).short:=by show (l++l2).length<=_;omega
 have ae:∀b o,w.heap[b]? =some o->b<w.heap.size:=fun b o h=>by
  rcases Nat.lt_or_ge b w.heap.size with h' | h'
  ·exact h'
  simp[Array.getElem?_eq_none h'] at h
 rcases VM (P:=P) (ty:=ty) ht hi hz Y an aa (by rw[ab.length,r]) ai hs a2 Q with⟨hm,g⟩ |⟨b',ad,D,f,g⟩ |⟨c',arr,w',h1,h2,h3,h4,h5,h6,h7,h8,g⟩
 ·have L:l2=[]:=List.eq_nil_of_length_eq_zero hm;subst L;rcases hb with rfl |⟨b,arr,e',q,d,rfl,B,Z,F⟩
  ·have W:l=[]:=List.eq_nil_of_length_eq_zero (by omega);subst W
   refine⟨_,w,fun k=>if k=id then none else β k,g,S.write p H (fun k hk=>by simp[hk]) (by simp[AM.AR];omega) (fun e=>by simp[AM.AR] at e;omega) (fun _ _ _=>rfl) (Nat.le_refl _)
    (fun b arr e B=>⟨arr,B,rfl⟩) rfl rfl rfl (fun _ b hb=>by simp at hb) (fun _=>Or.inl ⟨by show (if id=id then _ else _)=_;simp,rfl⟩) (fun _=>Or.inr ⟨⟨rfl,?_⟩,fun _=>?_⟩)⟩
   ·show vv<=AR _ id;rw[GC _ _ _ p,if_pos rfl];simp[AM.AR]
   exact⟨base,0,by simp at r;simp[r.symm],by simp,by simp,by simp,.inl rfl⟩
  refine⟨_,w,β,g,S.write p H (fun _ _=>rfl) (by simp[AM.AR];omega) (fun _=>⟨rfl,fun _=>d⟩) (fun _ _ _=>rfl) (Nat.le_refl _) (fun b arr e B=>⟨arr,B,rfl⟩) rfl rfl rfl (fun _ b hb=> .inl ⟨hb,d⟩)
   (fun hle=>Or.inr ⟨b,arr,e',q,B,fun i y J=>?_⟩) (fun _=>Or.inr ⟨⟨rfl,?_⟩,fun _=>?_⟩)⟩
  ·rw[List.append_nil] at J;obtain⟨us,q1,q2⟩:=F i y J;exact⟨us,C0 hle.I _ _ _ q1,q2⟩
  ·show vv<=AR _ id;rw[GC _ _ _ p,if_pos rfl];simp[AM.AR]
  exact⟨some ⟨b,0,none⟩,cap,by simp[r],by simp[r,aa],a5,by simp,.inr ⟨b,arr,e',q,by simp,B,by simpa using Z⟩⟩
 ·rcases hb with rfl |⟨b,arr,e',q,d,K,B,Z,F⟩
  ·have L:l2.length=0:=by omega
   have af:news=[]:=by have:=hs.newsLen;rw[L,Nat.zero_mul] at this;exact List.eq_nil_of_length_eq_zero this
   have a8:l2=[]:=List.eq_nil_of_length_eq_zero L;have W:l=[]:=List.eq_nil_of_length_eq_zero (by omega);subst a8 W af
   refine⟨_,_,fun k=>if k=id then none else β k,g,S.write p H (fun k hk=>by simp[hk]) (by simp[AM.AR];omega) (fun e=>by simp[AM.AR] at e;omega) (fun _ _ _=>rfl) (Nat.le_refl _)
    (fun b arr e B=>⟨arr,B,rfl⟩) rfl rfl rfl (fun _ b hb=>by simp at hb) (fun _=>Or.inl ⟨by show (if id=id then _ else _)=_;simp,rfl⟩) (fun _=>Or.inr ⟨⟨rfl,?_⟩,fun _=>?_⟩)⟩
   ·show vv<=AR _ id;rw[GC _ _ _ p,if_pos rfl];simp[AM.AR]
   simp at r;subst r;exact⟨base,0,by simp,by simp,by simp,by simp,.inl rfl⟩
  obtain⟨rfl,rfl⟩:b'=b/\ad=0:=by rw[K] at f;simp at f;exact⟨f.1.symm,f.2.symm⟩
  obtain⟨c1,c2,c3,c4⟩:=Su b' news (0+len*u.size) w;obtain⟨A,q1,q2,q3⟩:=LZ b' news (0+len*u.size) w arr e' B;have ah:=hs.newsLen;have U:(len+l2.length)*u.size<=arr.size:=Nat.le_trans (Nat.mul_le_mul_right _ D) Z
  refine⟨_,_,β,g,S.write p H (fun _ _=>rfl) (by simp[AM.AR];omega) (fun _=>⟨rfl,fun _=>d⟩) (fun k hk ag=>NO b' _ _ _ k (fun e=>ag d (e ▸ q))) (by omega) (fun k M e2 a7=>?_) c1 c2 c3 (fun _ b hb=> .inl ⟨hb,d⟩)
   (fun hle=>Or.inr ⟨b',A,e',q,q1,fun i y J=>?_⟩) (fun _=>Or.inr ⟨⟨rfl,?_⟩,fun _=>?_⟩)⟩
  ·by_cases e1:k=b'
   ·subst e1;obtain⟨a1,R,p2,p3⟩:=LZ k news (0+len*u.size) w M e2 a7;exact⟨a1,R,p3⟩
   exact⟨M,(NO b' _ _ _ k e1).trans a7,rfl⟩
  ·rcases Nat.lt_or_ge i l.length with C | C
   ·rw[List.getElem?_append_left C] at J;obtain⟨us,R,p2⟩:=F i y J;refine⟨us,C0 hle.I _ _ _ R,fun j v hj=>?_⟩;have ar:=Ji _ _ _ R
    have V:j<us.length:=by
     rcases Nat.lt_or_ge j us.length with C | C
     ·exact C
     simp[List.getElem?_eq_none C] at hj
    have ao:i*u.size+j<len*u.size:=by
     have:(i+1)*u.size<=len*u.size:=Nat.mul_le_mul_right _ (by omega);rw[Nat.add_mul] at this;omega
    show (w.setCells b' (0+len*u.size) news).cell? _=_
    rw[World.cell?_setCells_out b' _ _ w _ (fun _ _=> .inl (by show i*u.size+j<_;omega))];exact p2 j v hj
   rw[List.getElem?_append_right C] at J
   have aj:(w.setCells b' (0+len*u.size) news).rangeAt b' (0+len*u.size) news:=by
    intro j v hj
    have V:j<news.length:=by
     rcases Nat.lt_or_ge j news.length with C | C
     ·exact C
     simp[List.getElem?_eq_none C] at hj
    rw[World.cell?_setCells_in b' news _ w (fun m hm=>(TG B (n:=news.length) (by rw[ah];rw[Nat.add_mul] at U;omega) m hm).1) j V];simp[List.getElem?_eq_getElem V] at hj;simpa using hj
   obtain⟨us,R,p2⟩:=NK (DP.mono hle.I G) aj _ y J;refine⟨us,R,?_⟩;rwa [show 0+len*u.size+(i-l.length)*u.size=i*u.size by rw[r] at C ⊢;rw[Nat.zero_add,<-Nat.add_mul];congr 1;omega] at p2
  ·show vv<=AR _ id;rw[GC _ _ _ p,if_pos rfl];simp[AM.AR]
  exact⟨some ⟨b',0,none⟩,cap,by rw[hlen,f],by rw[hlen];exact D,a5,by simp,.inr ⟨b',A,e',q,by simp,q1,by simp;omega⟩⟩
 have N:∀b,b<w.heap.size->w'.heap[b]? =w.heap[b]? :=fun b hb=>by rw[h3,Array.getElem?_push,if_neg (by omega)]
 have O:w'.heap[w.heap.size]? =some (.cells arr e (0,0)):=by rw[h3];simp
 refine⟨_,w',fun k=>if k=id then some w.heap.size else β k,g,S.write p H (fun k hk=>by simp[hk]) (by simp[AM.AR];omega) (fun e=>by simp[AM.AR] at e;omega) (fun b hb _=>N b hb) (by rw[h3];simp)
  (fun b A e' B=>⟨A,(N b (ae b _ B)).trans B,rfl⟩) h4 h5 h6 (fun _ b hb=> .inr (by simp at hb;omega)) (fun hle=>Or.inr ⟨w.heap.size,arr,e,by show (if id=id then _ else _)=_;simp,O,fun i y J=>?_⟩) (fun _=>Or.inr ⟨⟨rfl,?_⟩,fun _=>?_⟩)⟩
 ·obtain⟨us,R,p2⟩:=NK ((DP.mono hle.I ab).append (DP.mono hle.I G)) h8 i y J;exact⟨us,R,by simpa using p2⟩
 ·show vv<=AR _ id;rw[GC _ _ _ p,if_pos rfl];simp[AM.AR]
 exact⟨some ⟨w.heap.size,0,none⟩,c',by rw[hlen],by rw[hlen];exact h1,h2,by simp,.inr ⟨w.heap.size,arr,e,by show (if id=id then _ else _)=_;simp,by simp,O,by rw[h7];simp⟩⟩
end
end Go.Abs
