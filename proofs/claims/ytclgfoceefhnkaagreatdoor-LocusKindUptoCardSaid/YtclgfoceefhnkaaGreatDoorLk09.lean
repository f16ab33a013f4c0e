/- Part 10 of a proof. Conditions: each theorem's own. -/
import Derived.Deep.Slices
import Derived.ProofKit
import Derived.Test.YtclgfoceefhnkaaGreatDoorLk08
set_option linter.all false
set_option maxHeartbeats 80000000
set_option maxRecDepth 20000
open Go.Proofs
namespace Go.Abs
open Go.RowKit Go.ChangeShapes Go.WideShapes Go.Deep
def H9 (P:Program) (k:IntKind) (t:TypeId):Bool:=match P.underlying t with | some (.int j)=>decide (j=k) | _=>false
def okF (P:Program) (ok:T->TypeId->Bool):T->List Field->Nat->Bool
 | _,[],_=>false
 | t,[f],o=>f.offset==o&&(P.cellsOf f.type==t.size&&ok t f.type)
 | .pr a b,f::fs,o=>(f.offset==o&&(P.cellsOf f.type==a.size&&ok a f.type))&&okF P ok b fs (o+a.size)
 | _,_,_=>false
abbrev HV:T:= .pr .i64 (.pr (.pr (.pr .bool (.sl .u32)) (.pr .bool (.sl .u32))) (.pr .str (.sl .ex)))
def JE (P:Program) (ok:T->TypeId->Bool) (t:TypeId):T->TypeId->Bool
 | .sl .ex,u=>match P.underlying u with | some (.slice e)=>e==t | _=>false
 | τ,u=>ok τ u
def Ea (P:Program):Nat->T->TypeId->Bool
 | 0,_,_=>false
 | n+1,τ,t=>match τ with
  | .u8=>H9 P .u8 t
  | .u32=>H9 P .u32 t
  | .u64=>H9 P .u64 t
  | .i8=>H9 P .i8 t
  | .i64=>H9 P .i64 t
  | .bool=>match P.underlying t with | some .bool=>true | _=>false
  | .sl e=>match P.underlying t with | some (.slice u)=>Ea P n e u&&(P.cellsOf u==e.size&&decide (0<P.bytesOf u)) | _=>false
  | .pr a b=>match P.underlying t with | some (.struct fs)=>okF P (Ea P n) (.pr a b) fs.toList 0&&P.cellsOf t==a.size+b.size | _=>false
  | .str=>match P.underlying t with | some .string=>true | _=>false
  | .ex=>match P.underlying t with | some (.struct fs)=>okF P (JE P (Ea P n) t) HV fs.toList 0&&(P.cellsOf t==7&&decide (0<P.bytesOf t)) | _=>false
  | .rf _=>false
 inductive EW:Nat->Ex->Prop
  | mk (N:Nat) (y:Ex):y.v.1.2.length<=N+1->y.v.2.2.length<=N+1->y.name.size<=N+1->y.args.length<=N+1->(∀z∈y.args,EW N z)->EW (N+1) y
def Fi:Nat->(t:T)->el t->Prop
 | N,.sl t,l=>l.length<=N/\∀x∈l,Fi (N-1) t x
 | N,.pr a b,x=>Fi N a x.1/\Fi N b x.2
 | N,.str,s=>s.size<=N
 | N,.ex,x=>EW N x
 | _,_,_=>True
structure IV {H:Type} (B:DataW H->Nat):Prop where
 len:∀e s,e.length<=B (.slice e s)
 el:∀e s d,d∈e->B d<B (.slice e s)
 agg:∀l d,d∈l->B d<B (.agg l)
 str:∀b,b.length<=B (.lit (.string b))
theorem GY {P:Program} {k:IntKind} {t:TypeId} (h:H9 P k t=true):P.underlying t=some (.int k):=by
 unfold H9 at h
 split at h
 ·rename_i j e;rw[e,of_decide_eq_true h]
 simp at h
theorem QD {k:IntKind} {n:Int} (h:(Lit.int k n).wf=true):k.min<=n/\n<=k.max:=by
 simpa [Lit.wf] using h
theorem PC {H:Type} {enc:TypeId×Value->H} {P:Program} {w:World} {base:Nat} {sp:Nat->Bool} {s:Bool} {n m:Nat} {cs:List Value} {ok:T->TypeId->Bool} {B:DataW H->Nat} {Z:Nat->Prop}
  (j:∀(T:T) (t:TypeId) (cs:List Value) (x:DataW H×List MemPlace),ok T t=true->DataW.trod enc P w base sp s n t cs=some x->SizeOf.sizeOf x.1<m->(∀N,Z N->B x.1<=N)->(∀k∈x.1.weights P t,k<=reachBytes)->∃y:el T,rep w (fun b=>b<w.heap.size) T y cs/\∀N,Z N->Fi N T y):
  ∀(T:T) (c:List Field) (o:Nat),okF P ok T c o=true->cs.length=o+T.size->
   (∀(i:Nat) (f:Field),c[i]? =some f->∃x,DataW.trod enc P w base sp s n f.type ((cs.drop f.offset).take (P.cellsOf f.type))=some x/\SizeOf.sizeOf x.1<m/\(∀N,Z N->B x.1<=N)/\∀k∈x.1.weights P f.type,k<=reachBytes)->∃y:el T,rep w (fun b=>b<w.heap.size) T y (cs.drop o)/\∀N,Z N->Fi N T y
 | T,[],o,h,_,_=>by cases T <;> simp[okF] at h
 | T,[f],o,h,D,l=>by
  have h':(f.offset==o&&(P.cellsOf f.type==T.size&&ok T f.type))=true:=by cases T <;> exact h
  simp only[Bool.and_eq_true,beq_iff_eq] at h';obtain⟨x,l,u,q,hw⟩:=l 0 f rfl;rw[h'.1,h'.2.1,List.take_of_length_le (by rw[List.length_drop];omega)] at l;exact j T _ _ _ h'.2.2 l u q hw
 | .pr a b,f::g::c,o,h,D,l=>by
  have h':((f.offset==o&&(P.cellsOf f.type==a.size&&ok a f.type))&&okF P ok b (g::c) (o+a.size))=true:=h;simp only[Bool.and_eq_true,beq_iff_eq] at h';have u:(T.pr a b).size=a.size+b.size:=rfl;obtain⟨x,p,r,q,hw⟩:=l 0 f rfl;rw[h'.1.1,h'.1.2.1] at p;obtain⟨F,v,g1⟩:=j a _ _ _ h'.1.2.2 p r q hw;obtain⟨G,A,g2⟩:=PC j b (g::c) (o+a.size) h'.2 (by omega) (fun i f C=>l (i+1) f C);refine⟨(F,G),⟨_,_,?_,v,A⟩,fun N z=>⟨g1 N z,g2 N z⟩⟩;rw[<-List.drop_drop,List.take_append_drop]
 |.u8,f::g::c,o,h,_,_|.u32,f::g::c,o,h,_,_|.u64,f::g::c,o,h,_,_|.i8,f::g::c,o,h,_,_|.i64,f::g::c,o,h,_,_|.bool,f::g::c,o,h,_,_|.sl _,f::g::c,o,h,_,_|.str,f::g::c,o,h,_,_|.ex,f::g::c,o,h,_,_|.rf _,f::g::c,o,h,_,_=>by simp[okF] at h
theorem Wf {w:World} {a:Addr} {v:Value} (h:w.cell? a=some v):a.spot=none/\a.block<w.heap.size:=by
 unfold World.cell? at h
 split at h
 ·rename_i c e l b
  refine⟨?_,(Array.getElem?_eq_some_iff.1 b).1⟩;cases f:a.spot with
  | none=>rfl
  | some x=>simp[f] at h
 simp at h
theorem LU {a:Addr} (h:a.spot=none) (i:Nat):a.add i=⟨a.block,a.off+i,none⟩:=by
 unfold Addr.add;cases a;simp only at h;subst h
 split <;> simp_all
theorem UX {α:Type} {p:Nat->α->Prop}:∀(n:Nat),(∀i,i<n->∃x,p i x)->∃l:List α,l.length=n/\∀i x,l[i]? =some x->p i x
 | 0,_=>⟨[],rfl,fun i x h=>by simp at h⟩
 | n+1,h=>by
  obtain⟨l,b,g⟩:=UX n fun i c=>h i (by omega)
  obtain⟨x,j⟩:=h n (by omega);refine⟨l++[x],by simp[b],fun i y a=>?_⟩
  by_cases c:i<n
  ·rw[List.getElem?_append_left (by omega)] at a;exact g i y a
  rw[List.getElem?_append_right (by omega)] at a
  have:i=n:=by
   apply Classical.byContradiction;intro f;rw[List.getElem?_eq_none (by simp;omega)] at a;simp at a
  subst this;rw[b,Nat.sub_self] at a;simp at a;subst a;exact j
theorem Ue {H:Type} {P:Program} {e:TypeId} {d:DataW H} {q:Nat}:∀{l:List (DataW H)},d∈l->q∈d.weights P e->q∈DataW.weightsAll P e l
 | [],h,_=>by simp at h
 | a::l,h,b=>by
  rw[DataW.weightsAll,List.mem_append];rcases List.mem_cons.1 h with rfl | h
  ·exact .inl b
  exact .inr (Ue h b)
theorem Uf {H:Type} {P:Program} {q:Nat}:∀{ts:List TypeId} {l:List (DataW H)} (i:Nat) (t:TypeId) (d:DataW H),ts[i]? =some t->l[i]? =some d->q∈d.weights P t->q∈DataW.weightsEach P ts l
 |[],_,i,t,d,h,_,_|_::_,[],i,t,d,_,h,_=>by simp at h
 | u::ts,a::l,0,t,d,h,h',b=>by
  rw[DataW.weightsEach,List.mem_append];simp at h h';subst h;subst h';exact .inl b
 | u::ts,a::l,i+1,t,d,h,h',b=>by
  rw[DataW.weightsEach,List.mem_append];exact .inr (Uf i t d h h' b)
theorem VD {H:Type} {enc:TypeId×Value->H} {P:Program} {w:World} {base:Nat} {sp:Nat->Bool} {Z:Bool} {e:T} {u t:TypeId} (hu:P.underlying t=some (.slice u)) (O:P.cellsOf u=e.size) (L:0<P.bytesOf u) {B:DataW H->Nat} (Y:IV B)
  {n:Nat} {cs:List Value} {x:DataW H×List MemPlace} (hx:DataW.trod enc P w base sp Z n t cs=some x) (hw:∀k∈x.1.weights P t,k<=reachBytes)
  (Q:∀(n:Nat) (cs:List Value) (z:DataW H×List MemPlace),SizeOf.sizeOf z.1<SizeOf.sizeOf x.1->DataW.trod enc P w base sp Z n u cs=some z->(∀k∈z.1.weights P u,k<=reachBytes)->∃y:el e,rep w (fun b=>b<w.heap.size) e y cs/\∀N,B z.1<=N->Fi N e y):
  ∃y:el (.sl e),rep w (fun b=>b<w.heap.size) (.sl e) y cs/\∀N,B x.1<=N->Fi N (.sl e) y:=by
 rcases open_slice hu hx with⟨rfl,rfl⟩ |⟨a,len,cap,k,j,D,Pl,rfl,hb,S,a2,hk,g,s⟩
 ·exact⟨[],⟨none,0,rfl,Nat.le_refl _,Nat.zero_le _,.inl rfl⟩,fun _ _=>⟨Nat.zero_le _,fun _ h=>by cases h⟩⟩
 have a6:len<=k:=by rw[hk];split <;> omega
 rw[O] at s;have m:=congrArg Prod.fst g;simp only at m;rw[g] at hw
 have V:∀i,i<len->SizeOf.sizeOf (D i)<SizeOf.sizeOf x.1:=fun i s=>by
  have c:=List.sizeOf_lt_of_mem (List.mem_map.2 ⟨i,List.mem_range.2 s,rfl⟩:D i∈(List.range len).map D);rw[g];simp only[DataW.slice.sizeOf_spec];omega
 have J:DataW.weights P t (DataW.slice ((List.range len).map D) ((List.range (k-len)).map fun j=>D (len+j)))=(((List.range len).map D).length+((List.range (k-len)).map fun j=>D (len+j)).length)*P.bytesOf u::(DataW.weightsAll P u ((List.range len).map D)++DataW.weightsAll P u ((List.range (k-len)).map fun j=>D (len+j))):=by
  unfold DataW.weights;rw[hu]
 have I:len<=140737488355328:=by
  have:=hw _ (by rw[J];exact List.mem_cons_self);simp only[List.length_map,List.length_range] at this;have h3:len<=(len+(k-len))*P.bytesOf u:=Nat.le_trans (Nat.le_add_right _ _) (Nat.le_mul_of_pos_right _ L);have h4:reachBytes<=140737488355328:=by decide
  omega
 have hs:=T.size_pos e
 have K:0<len->a.spot=none:=fun A=>by
  obtain⟨us,M,ht⟩:=s 0 (by omega);obtain⟨_,hlen,f⟩:=World.cells?_some M;have A:=f 0 hs;rw[List.getElem?_eq_getElem (by omega),Nat.zero_mul] at A;have c:=(Wf A).1;unfold Addr.add at c;simpa using c
 obtain⟨l,hl,U⟩:=UX (α:=el e) (p:=fun i y=>(∀N,B x.1<=N->Fi (N-1) e y)/\∃us,rep w (fun b=>b<w.heap.size) e y us/\a.spot=none/\a.block<w.heap.size/\w.rangeAt a.block (a.off+i*e.size) us) len (fun i G=>by
  obtain⟨us,M,ht⟩:=s i (by omega);obtain⟨y,hy,W⟩:=Q _ _ _ (V i (by omega)) ht (fun q F=>hw q (by rw[J];exact List.mem_cons_of_mem _ (List.mem_append_left _ (Ue (List.mem_map.2 ⟨i,List.mem_range.2 G,rfl⟩) F))));obtain⟨_,hlen,f⟩:=World.cells?_some M;have A:=f 0 hs;rw[List.getElem?_eq_getElem (by omega)] at A;have c:=Wf A;have C:a.spot=none:=K (by omega)
  have r:a.block<w.heap.size:=by
   have:=c.2;rw[LU C,LU rfl] at this;exact this
  refine⟨y,fun N F=>W (N-1) (by show B (D i)<=N-1;have h5:=Y.el ((List.range len).map D) ((List.range (k-len)).map fun j=>D (len+j)) _ (List.mem_map.2 ⟨i,List.mem_range.2 G,rfl⟩);rw[<-m] at h5;omega),us,hy,C,r,fun j v R=>?_⟩
  have a5:j<us.length:=by
   apply Classical.byContradiction;intro hn;rw[List.getElem?_eq_none (by omega)] at R;simp at R
  have:=f j (by omega);rw[LU C,LU rfl] at this;rw[this];exact R)
 subst hl;refine⟨l,⟨some a,cap,rfl,S,I,?_⟩,fun N F=>⟨?_,fun z X=>?_⟩⟩
 rotate_left
 ·have c:=Y.len ((List.range l.length).map D) ((List.range (k-l.length)).map fun j=>D (l.length+j));rw[List.length_map,List.length_range] at c;rw[g] at F;exact Nat.le_trans c F
 ·obtain⟨i,s⟩:=List.mem_iff_getElem?.1 X;exact (U i z s).1 N F
 cases l with
 | nil=>exact .inl rfl
 | cons y l=>
  right
  obtain⟨_,_,_,C,r,_⟩:=U 0 y rfl;obtain⟨ab,ao,a1⟩:=a;simp only at C;subst C;exact⟨ab,ao,rfl,r,fun i z X=>by obtain⟨_,us,c,_,_,h2⟩:=U i z X;exact⟨us,c,h2⟩⟩
theorem VC {H:Type} {enc:TypeId×Value->H} {P:Program} {w:World} {base:Nat} {sp:Nat->Bool} {j:Bool} {t:TypeId} {c:Array Field} (hu:P.underlying t=some (.struct c)) {B:DataW H->Nat} (l:IV B)
  {n:Nat} {cs:List Value} {x:DataW H×List MemPlace} (r:DataW.trod enc P w base sp j n t cs=some x) (hw:∀k∈x.1.weights P t,k<=reachBytes):
  ∃n',cs.length=P.cellsOf t/\∀(i:Nat) (f:Field),c.toList[i]? =some f->∃z,DataW.trod enc P w base sp j n' f.type ((cs.drop f.offset).take (P.cellsOf f.type))=some z/\SizeOf.sizeOf z.1<SizeOf.sizeOf x.1/\
   B z.1<B x.1/\∀k∈z.1.weights P f.type,k<=reachBytes:=by
 obtain⟨xs,n',_,b,h,s,m⟩:=DataW.trod_struct hu r;refine⟨n',h,fun i f g=>?_⟩;have a:c[i]? =some f:=by rw[<-Array.getElem?_toList];exact g
 have v:i<c.size:=(Array.getElem?_eq_some_iff.1 a).1;refine⟨xs[i]'(by omega),?_,?_,?_,fun q p=>hw q ?_⟩
 ·rw[m i f a];exact List.getElem?_eq_getElem (by omega)
 ·have u:=List.sizeOf_lt_of_mem (List.mem_map.2 ⟨xs[i]'(by omega),List.getElem_mem _,rfl⟩:(xs[i]'(by omega)).1∈xs.map (·.1));rw[b];simp only[DataW.agg.sizeOf_spec];omega
 ·rw[b];exact l.agg _ _ (List.mem_map.2 ⟨xs[i]'(by omega),List.getElem_mem _,rfl⟩)
 rw[b]
 have e:DataW.weights P t (DataW.agg (xs.map (·.1)))=DataW.weightsEach P (c.toList.map (·.type)) (xs.map (·.1)):=by
  unfold DataW.weights;rw[hu]
 rw[e];exact Uf i f.type (xs[i]'(by omega)).1 (by rw[List.getElem?_map,g];rfl) (by rw[List.getElem?_map,List.getElem?_eq_getElem (by omega)];rfl) p
theorem eB {w:World} {I:Nat->Prop} {y:el HV} {vs:List Value} (h:rep w I HV y vs):GQ w I (.mk y.1 y.2.1 y.2.2.1 y.2.2.2) vs:=by
 have a:=(EF (Cb w I) HV y vs).1 h;exact (EF (Cb w I) .ex (.mk y.1 y.2.1 y.2.2.1 y.2.2.2) vs).2 a
theorem VB {H:Type} {enc:TypeId×Value->H} {P:Program} {w:World} {base:Nat} {sp:Nat->Bool} {K:Bool} {t:TypeId} {v:Array Field} {ok:T->TypeId->Bool} (hu:P.underlying t=some (.struct v))
  (a:okF P (JE P ok t) HV v.toList 0=true) (c:P.cellsOf t=7) (h:0<P.bytesOf t) {B:DataW H->Nat} (D:IV B)
  (l:∀(T:T) (t:TypeId) (cs:List Value) (x:DataW H×List MemPlace) (n:Nat),ok T t=true->DataW.trod enc P w base sp K n t cs=some x->(∀k∈x.1.weights P t,k<=reachBytes)->∃y:el T,rep w (fun b=>b<w.heap.size) T y cs/\∀N,B x.1<=N->Fi N T y):
  ∀(k n:Nat) (cs:List Value) (x:DataW H×List MemPlace),SizeOf.sizeOf x.1<k->DataW.trod enc P w base sp K n t cs=some x->(∀k∈x.1.weights P t,k<=reachBytes)->∃y:el .ex,rep w (fun b=>b<w.heap.size) .ex y cs/\∀N,B x.1<=N->Fi N .ex y
 | 0,_,_,_,W,_,_=>by omega
 | k+1,n,cs,x,W,Y,hw=>by
  obtain⟨n',F,j⟩:=VC hu D Y hw
  have p:0<B x.1:=by
   cases L:v.toList with
   | nil=>rw[L] at a;simp[okF] at a
   | cons f r=>obtain⟨z,_,_,A,_⟩:=j 0 f (by rw[L];rfl);exact Nat.lt_of_le_of_lt (Nat.zero_le _) A
  obtain⟨y,O,I⟩:=PC (w:=w) (n:=n') (m:=SizeOf.sizeOf x.1) (cs:=cs) (ok:=JE P ok t) (B:=B) (Z:=fun N=>B x.1<=N) (fun τ u cs z g A hs M s=>by
   unfold JE at g
   split at g
   ·split at g
    ·rename_i e he
     simp only[beq_iff_eq] at g;subst g;obtain⟨y,g1,g2⟩:=VD he (by rw[c];rfl) h D A s fun n2 C z2 X J G=>VB hu a c h D l k n2 C z2 (by omega) J G
     exact⟨y,g1,fun N q=>g2 N (M N q)⟩
    cases g
   obtain⟨y,g1,g2⟩:=l _ _ _ _ _ g A s;exact⟨y,g1,fun N q=>g2 N (M N q)⟩) HV v.toList 0 a (by rw[F,c];rfl) (fun i f V=>by
   obtain⟨z,Q,R,S,U⟩:=j i f V;exact⟨z,Q,R,fun N q=>Nat.le_trans (Nat.le_of_lt S) q,U⟩)
  rw[List.drop_zero] at O;refine⟨_,eB O,fun N q=>?_⟩;have:=I N q;cases N with
  | zero=>have:=p;omega
  | succ N=>exact .mk N _ this.2.1.1.2.1 this.2.1.2.2.1 this.2.2.1 this.2.2.2.1 this.2.2.2.2
theorem Me {H:Type} {enc:TypeId×Value->H} {P:Program} {w:World} {base:Nat} {sp:Nat->Bool} {K:Bool} {B:DataW H->Nat} (j:IV B):
  ∀(m:Nat) (T:T) (t:TypeId),Ea P m T t=true->∀(n:Nat) (cs:List Value) (x:DataW H×List MemPlace),DataW.trod enc P w base sp K n t cs=some x->(∀k∈x.1.weights P t,k<=reachBytes)->
   ∃y:el T,rep w (fun b=>b<w.heap.size) T y cs/\∀N,B x.1<=N->Fi N T y
 | 0,_,_,h,_,_,_,_,_=>by simp[Ea] at h
 | m+1,.u8,t,h,n,cs,x,c,hw=>by
  obtain⟨v,rfl,rfl,g⟩:=DataW.trod_int (GY h) c;have D:(0:Int)<=v/\v<=255:=QD g;refine⟨UInt8.ofNat v.toNat,?_,fun _ _=>trivial⟩
  show [Value.int .u8 v]=[Value.int .u8 _]
  rw[UInt8.toNat_ofNat'];congr 2;omega
 | m+1,.u32,t,h,n,cs,x,c,hw=>by
  obtain⟨v,rfl,rfl,g⟩:=DataW.trod_int (GY h) c;have D:(0:Int)<=v/\v<=4294967295:=QD g;refine⟨UInt32.ofNat v.toNat,?_,fun _ _=>trivial⟩
  show [Value.int .u32 v]=[Value.int .u32 _]
  rw[UInt32.toNat_ofNat'];congr 2;omega
 | m+1,.u64,t,h,n,cs,x,c,hw=>by
  obtain⟨v,rfl,rfl,g⟩:=DataW.trod_int (GY h) c;have D:(0:Int)<=v/\v<=18446744073709551615:=QD g;refine⟨UInt64.ofNat v.toNat,?_,fun _ _=>trivial⟩
  show [Value.int .u64 v]=[Value.int .u64 _]
  rw[UInt64.toNat_ofNat'];congr 2;omega
 | m+1,.i8,t,h,n,cs,x,c,hw=>by
  obtain⟨v,rfl,rfl,g⟩:=DataW.trod_int (GY h) c;exact⟨v,rfl,fun _ _=>trivial⟩
 | m+1,.i64,t,h,n,cs,x,c,hw=>by
  obtain⟨v,rfl,rfl,g⟩:=DataW.trod_int (GY h) c;exact⟨v,rfl,fun _ _=>trivial⟩
 | m+1,.bool,t,h,n,cs,x,c,hw=>by
  have h':(match P.underlying t with | some .bool=>true | _=>false)=true:=h
  split at h'
  ·rename_i e
   obtain⟨v,rfl,rfl⟩:=DataW.trod_bool e c;exact⟨v,rfl,fun _ _=>trivial⟩
  simp at h'
 | m+1,.sl e,t,h,n,cs,x,c,hw=>by
  have h':(match P.underlying t with | some (.slice u)=>Ea P m e u&&(P.cellsOf u==e.size&&decide (0<P.bytesOf u)) | _=>false)=true:=h
  split at h'
  ·rename_i u hu
   simp only[Bool.and_eq_true,beq_iff_eq,decide_eq_true_eq] at h';exact VD hu h'.2.1 h'.2.2 j c hw fun n cs z _ C l=>Me j m e u h'.1 n cs z C l
  simp at h'
 | m+1,.str,t,h,n,cs,x,c,hw=>by
  have h':(match P.underlying t with | some .string=>true | _=>false)=true:=h
  split at h'
  ·rename_i e
   obtain⟨v,rfl,rfl,_⟩:=DataW.trod_string e c;exact⟨v,rfl,fun N q=>Nat.le_trans (by have:=j.str v.data.toList;rw[Array.length_toList] at this;exact this) q⟩
  simp at h'
 | m+1,.rf _,t,h,n,cs,x,c,hw=>by cases (show false=true from h)
 | m+1,.ex,t,h,n,cs,x,c,hw=>by
  have h':(match P.underlying t with | some (.struct p)=>okF P (JE P (Ea P m) t) HV p.toList 0&&(P.cellsOf t==7&&decide (0<P.bytesOf t)) | _=>false)=true:=h
  split at h'
  ·rename_i p hu
   simp only[Bool.and_eq_true,beq_iff_eq,decide_eq_true_eq] at h';exact VB hu h'.1 h'.2.1 h'.2.2 j (fun T t cs x n A c hw=>Me j m T t A n cs x c hw) _ n cs x (Nat.lt_succ_self _) c hw
  simp at h'
 | m+1,.pr a b,t,h,n,cs,x,c,hw=>by
  have h':(match P.underlying t with | some (.struct p)=>okF P (Ea P m) (.pr a b) p.toList 0&&P.cellsOf t==a.size+b.size | _=>false)=true:=h
  split at h'
  ·rename_i p hu
   simp only[Bool.and_eq_true,beq_iff_eq] at h';obtain⟨n',r,s⟩:=VC hu j c hw
   have:=PC (w:=w) (n:=n') (m:=SizeOf.sizeOf x.1) (cs:=cs) (ok:=Ea P m) (B:=B) (Z:=fun N=>B x.1<=N) (fun T t cs z A C _ M l=>by
    obtain⟨y,g1,g2⟩:=Me j m T t A n' cs z C l;exact⟨y,g1,fun N q=>g2 N (M N q)⟩) (.pr a b) p.toList 0 h'.1 (by rw[r,h'.2,Nat.zero_add];rfl) (fun i f L=>by
    obtain⟨z,F,G,I,J⟩:=s i f L;exact⟨z,F,G,fun N q=>Nat.le_trans (Nat.le_of_lt I) q,J⟩)
   exact this
  simp at h'
end Go.Abs
namespace Go.Abs
open Go.RowKit Go.ChangeShapes Go.WideShapes Go.Deep
def HL:List T->Type
 | []=>PUnit
 | t::ts=>el t×HL ts
def Np:(ts:List T)->HL ts->List AV
 | [],_=>[]
 | t::ts,x=>Rw t x.1::Np ts x.2
def Gb (P:Program):List T->List TypeId->Bool
 | [],[]=>true
 | τ::τs,t::ts=>(Ea P 20 τ t&&(P.readableRec t&&decide (t<P.types.size)))&&Gb P τs ts
 | _,_=>false
theorem Hz {v:Value} {c:Value} (h:v.cells.toList=[c]) (a:v.oneCell'=true):v=c:=by
 rw[Mc a] at h;simpa using h
theorem dz {P:Program} {w:World} {I:Nat->Prop} {r:Reach} {b:Nat} {m:Nat}:∀{τ:T} {t:TypeId} {v:Value} {y:el τ},Ea P (m+1) τ t=true->Value.okWide P w r b t v->rep w I τ y v.cells.toList->BF (Cb w I) (Rw τ y) v
 | .u8,t,v,y,h,g,f=>by
  obtain⟨n,rfl⟩:=okWide_int (GY h) g;exact .inr (Hz f rfl)
 | .u32,t,v,y,h,g,f=>by
  obtain⟨n,rfl⟩:=okWide_int (GY h) g;exact .inr (Hz f rfl)
 | .u64,t,v,y,h,g,f=>by
  obtain⟨n,rfl⟩:=okWide_int (GY h) g;exact .inr (Hz f rfl)
 | .i8,t,v,y,h,g,f=>by
  obtain⟨n,rfl⟩:=okWide_int (GY h) g;exact .inr (Hz f rfl)
 | .i64,t,v,y,h,g,f=>by
  obtain⟨n,rfl⟩:=okWide_int (GY h) g;exact .inr (Hz f rfl)
 | .bool,t,v,y,h,g,f=>by
  have h':(match P.underlying t with | some .bool=>true | _=>false)=true:=h
  split at h'
  ·rename_i e
   obtain⟨n,rfl⟩:=okWide_bool e g;exact .inr (Hz f rfl)
  simp at h'
 | .str,t,v,y,h,g,f=>by
  have h':(match P.underlying t with | some .string=>true | _=>false)=true:=h
  split at h'
  ·rename_i e
   obtain⟨n,rfl⟩:=okWide_string e g;exact .inr (Hz f rfl)
  simp at h'
 | .rf _,t,v,y,h,g,f=>by cases (show false=true from h)
 | .ex,t,v,y,h,g,f=>by
  have h':(match P.underlying t with | some (.struct i)=>okF P (JE P (Ea P m) t) HV i.toList 0&&(P.cellsOf t==7&&decide (0<P.bytesOf t)) | _=>false)=true:=h
  split at h'
  ·rename_i i hu
   obtain⟨cs,rfl,_⟩:=okWide_struct hu g;exact⟨cs,rfl,(EF (Cb w I) _ _ _).1 f⟩
  simp at h'
 | .sl e,t,v,y,h,g,f=>by
  have h':(match P.underlying t with | some (.slice u)=>Ea P m e u&&(P.cellsOf u==e.size&&decide (0<P.bytesOf u)) | _=>false)=true:=h
  split at h'
  ·rename_i u hu
   obtain⟨a,l,c,rfl⟩:=okWide_slice hu g;exact .inr f
  simp at h'
 | .pr a b',t,v,y,h,g,f=>by
  have h':(match P.underlying t with | some (.struct i)=>okF P (Ea P m) (.pr a b') i.toList 0&&P.cellsOf t==a.size+b'.size | _=>false)=true:=h
  split at h'
  ·rename_i i hu
   obtain⟨cs,rfl,_⟩:=okWide_struct hu g;exact⟨cs,rfl,(EF (Cb w I) _ _ _).1 f⟩
  simp at h'
theorem Ru {H:Type} {enc:TypeId×Value->H} {P:Program} (l:laidOutB P=true) {W i:World} (j:Below W.heap.size W i):∀(a:List T) (ts:List TypeId) (vs:List Value) (f:List (DataW H)) (ps:List MemPlace),Gb P a ts=true->
  DataW.TrodAll enc P W 0 (fun _=>true) true ts vs f ps->(∀p∈ps,p.block<W.heap.size)->DataW.TrodAll enc P i 0 (fun b=>decide (b<W.heap.size)) true ts vs f ps
 | [],[],[],[],_,_,h,_=>h
 | τ::a,t::ts,v::vs,d::f,ps,h,⟨p,q,m,n,e⟩,c=>by
  have h':((Ea P 20 τ t&&(P.readableRec t&&decide (t<P.types.size)))&&Gb P a ts)=true:=h;simp only[Bool.and_eq_true,decide_eq_true_eq] at h';subst e;exact⟨p,q,Below.trod l h'.1.2.1 h'.1.2.2 m j (fun x g=>c x (List.mem_append_left _ g)),Ru l j a ts vs f q h'.2 n (fun x g=>c x (List.mem_append_right _ g)),rfl⟩
 |[],t::ts,_,_,_,h,_,_|_::_,[],_,_,_,h,_,_=>by simp[Gb] at h
 |[],[],[],_::_,_,_,h,_|[],[],_::_,_,_,_,h,_|_::_,_::_,[],_,_,_,h,_|_::_,_::_,_::_,[],_,_,h,_=>h.elim
def MD:(t:T)->el t->Prop
 | .i64,n=>Db n
 | .pr a b,x=>MD a x.1/\MD b x.2
 | _,_=>True
def OY:(ts:List T)->HL ts->Prop
 | [],_=>True
 | t::ts,x=>MD t x.1/\OY ts x.2
def Pr:(ts:List T)->HL ts->Prop
 | [],_=>True
 | t::ts,x=>Fi 1048576 t x.1/\Pr ts x.2
theorem Nz {P:Program} {w:World} {r:Reach} {b:Nat} {u:TypeId} {n:Int} (h:Cell.okWide P w r b u (.int .i64 n)):Db n:=by
 cases hu:P.underlying u with
 | none=>simp[Cell.okWide,Cell.ok,hu] at h
 | some d=>
  cases d <;> simp[Cell.okWide,Cell.ok,hu] at h
  obtain⟨rfl,c,f⟩:=h;have e1:IntKind.i64.min= -9223372036854775808:=rfl;have a:IntKind.i64.max=9223372036854775807:=rfl;unfold Db;omega
theorem Z8 {P:Program} {w:World} {r:Reach} {b:Nat} {t:TypeId} {v:Value} (h:Value.okWide P w r b t v):∀n,Value.int .i64 n∈v.cells.toList->Db n:=by
 intro n a;unfold Value.okWide at h
 split at h
 ·obtain⟨cs,rfl,_,ts,_,_,c⟩:=h;obtain⟨i,f⟩:=List.mem_iff_getElem?.1 (show Value.int .i64 n∈cs.toList from a);obtain⟨u,_,hu⟩:=c i _ (by rw[<-Array.getElem?_toList];exact f);exact Nz hu
 ·obtain⟨cs,rfl,_,ts,_,_,c⟩:=h;obtain⟨i,f⟩:=List.mem_iff_getElem?.1 (show Value.int .i64 n∈cs.toList from a);obtain⟨u,_,hu⟩:=c i _ (by rw[<-Array.getElem?_toList];exact f);exact Nz hu
 cases v with
 | agg cs=>
  cases hu:P.underlying t with
  | none=>simp[Cell.okWide,Cell.ok,hu] at h
  | some d=>cases d <;> simp[Cell.okWide,Cell.ok,hu] at h
 | int k m=>
  have e:Value.int .i64 n=Value.int k m:=by simpa [Value.cells] using a
  rw[<-e] at h;exact Nz h
 | _=>exact absurd a (by simp[Value.cells])
theorem Ob {w:World} {I:Nat->Prop}:∀(t:T) (y:el t) (vs:List Value),rep w I t y vs->(∀n,Value.int .i64 n∈vs->Db n)->MD t y
 | .i64,y,_,f,h=>h y (by rw[show _=_ from f];exact List.mem_singleton.2 rfl)
 | .pr a b,y,_,f,h=>by
  obtain⟨v1,v2,rfl,g,i⟩:=f;exact⟨Ob a _ _ g fun n c=>h n (List.mem_append_left _ c),Ob b _ _ i fun n c=>h n (List.mem_append_right _ c)⟩
 |.u8,_,_,_,_|.u32,_,_,_,_|.u64,_,_,_,_|.i8,_,_,_,_|.bool,_,_,_,_|.sl _,_,_,_,_|.str,_,_,_,_|.ex,_,_,_,_|.rf _,_,_,_,_=>trivial
theorem Rs {H:Type} {enc:TypeId×Value->H} {P:Program} {w:World} {base:Nat} {B:DataW H->Nat} (r:IV B):∀(a:List T) (ts:List TypeId) (vs:List Value) (c:List (DataW H)) (ps:List MemPlace),Gb P a ts=true->
  DataW.TrodAll enc P w 0 (fun _=>true) true ts vs c ps->(∀(j:Nat) t v,ts[j]? =some t->vs[j]? =some v->Value.okWide P w .any base t v)->(∀k∈DataW.weightsEach P ts c,k<=reachBytes)->(∀d∈c,B d<=1048576)->
   c.length=a.length/\∃xs:HL a,AT (BF (Cb w fun b=>b<w.heap.size)) (Np a xs) vs/\OY a xs/\Pr a xs
 | [],[],[],[],_,_,_,_,_,_=>⟨rfl,⟨⟩,trivial,trivial,trivial⟩
 | τ::a,t::ts,v::vs,d::c,ps,h,⟨p,q,z,A,_⟩,i,hw,f=>by
  have h':((Ea P 20 τ t&&(P.readableRec t&&decide (t<P.types.size)))&&Gb P a ts)=true:=h;simp only[Bool.and_eq_true] at h';obtain⟨e,xs,l,D,g⟩:=Rs r a ts vs c q h'.2 A (fun j u x hu l=>i (j+1) u x hu l) (fun k f=>hw k (by rw[DataW.weightsEach];exact List.mem_append_right _ f)) (fun d C=>f d (List.mem_cons_of_mem _ C));obtain⟨n,F⟩:=z;obtain⟨y,s,m⟩:=Me r 20 τ t h'.1.1 n _ _ F (fun k f=>hw k (by rw[DataW.weightsEach];exact List.mem_append_left _ f));exact⟨by simp[e],(y,xs),⟨dz h'.1.1 (i 0 t v rfl rfl) s,l⟩,⟨Ob _ _ _ s (Z8 (i 0 t v rfl rfl)),D⟩,m _ (f d List.mem_cons_self),g⟩
 |[],t::ts,_,_,_,h,_,_,_,_|_::_,[],_,_,_,h,_,_,_,_=>by simp[Gb] at h
 |[],[],[],_::_,_,_,h,_,_,_|[],[],_::_,_,_,_,h,_,_,_|_::_,_::_,[],_,_,_,h,_,_,_|_::_,_::_,_::_,[],_,_,h,_,_,_=>h.elim
theorem iT {P:Program} {f:FuncId} {fn:Func} {s:ChangeSpec} {a:List T} {tb:TypeId} (S:laidOutB P=true) (m:Gb P a fn.params.toList=true)
  (z:fn.resultTypes= #[tb]) (D:P.underlying tb=some .bool) (c:s.vars=[])
  (A:∀(H:Type) (g:List (DataW H)),g.length=a.length->s.fn H (g++[])={results:=[.lit (.bool true)],args:=g})
  (M:∀xs:HL a,OY a xs->Pr a xs->Eh P false f (Np a xs) (.one (.bool true)))
  (H:Type) {B:DataW H->Nat} (N:IV B) (enc:TypeId×Value->H) (W:World) (base:Nat) (args:Array Value) (g gs:List (DataW H)) (before:List MemPlace)
  (n:∀(j:Nat) t v,fn.params[j]? =some t->args[j]? =some v->Value.okWide P W .any base t v)
  (K:DataW.Whole enc P fn.params.toList s.vars false W args.toList g gs before)
  (O:FD W fun b=>b<W.heap.size)
  (hw:(DataW.weightsEach P (fn.params.toList++s.plain.varTypes P) (g++gs)).all (·<=reachBytes)=true) (w:∀d∈g,B d<=1048576):
  Calls P f args W fun e I=>∃v,e= .returned v/\s.post enc P fn false true false false W args v I:=by
 have l:=K;obtain⟨p,q,i,J,rfl,R,U⟩:=K;rw[c] at J;obtain⟨rfl,rfl⟩:=trodVars_none J
 have F:s.plain.varTypes P=[]:=by
  unfold DataSpec.varTypes ChangeSpec.plain;simp[c]
 rw[F,List.append_nil,List.append_nil,List.all_eq_true] at hw;obtain⟨hlen,xs,G,r,C⟩:=Rs N a fn.params.toList args.toList g p m i (fun j t v ht X=>n j t v (by rw[<-Array.getElem?_toList];exact ht) (by rw[<-Array.getElem?_toList];exact X)) (fun k w=>by simpa using hw k w) w;obtain⟨_,_,Q⟩:=M xs r C;have y:∀x∈p,x.block<W.heap.size:=fun x G=>l.lt x (List.mem_append_left _ G)
 refine (Q W (fun b=>b<W.heap.size) args.toList (fun _ h=>h) O G).mono fun e I ⟨u,bo,he,L,V⟩=>?_
 have hu:u= .bool true:=by
  rcases V with h | h
  ·cases h
  exact h
 subst hu;refine⟨_,he,g,[],p++[],[],p,[],l,?_,?_,?_,?_,fun h=>by cases h⟩
 ·rw[z,A H g hlen];exact trodAll_mk1 (shut_bool D true)
 ·rw[A H g hlen];exact Ru S L a _ _ g p m i y
 ·rw[c,A H g hlen]
  rfl
 exact L.frame _
end Go.Abs
namespace Go.Abs
open Go.RowKit
def Hs:TypeId->Info
 |228|149=>{size:=1,zero:=[.int .i64 0],agg:=true,Ba:=false,fields:=[(0,1,false)]}
 | 43=>{size:=6,zero:=[.nil,.nil,.nil,.nil,.nil,.nil],agg:=true,Ba:=false,fields:=[(0,2,true),(2,2,true),(4,2,true)]}
 |162|167=>{size:=1,zero:=[.int .i64 0],agg:=true,Ba:=false,fields:=[(0,1,false)]}
 | 47=>{size:=6,zero:=[.nil,.nil,.nil,.nil,.nil,.nil],agg:=true,Ba:=false,fields:=[(0,4,true),(4,2,true)]}
 | 49=>{size:=21,zero:=[.int .i64 0,.nil,.nil,.nil,.nil,.nil,.nil,.nil,.nil,.nil,.nil,.nil,.nil,.nil,.nil,.nil,.nil,.nil,.nil,.nil,.nil],agg:=true,Ba:=false,fields:=[(0,1,false),(1,6,true),(7,4,true),(11,6,true),(17,4,true)]}
 | 22=>{size:=1,zero:=[.nil],sl:=true,Bw:=3,elem:= .i64,Ba:=(0:el .i64),Dk:=8}
 | t=>TI t
theorem gU (t:TypeId):Cw Tryz.prog t (Hs t):=by
 unfold Hs
 split <;> first | exact Ky _ | exact NB (by kernel_rfl)
def Z3 (E:Env) (fn:Func) (r:AV) (b1:Option AG) (s:St):Prop:=
 match fn.body with
 | some c=>CZ E Hs fn.ntmps c (post Hs fn.results.toList r b1) s
 | none=>False
def Z2 (E:Env) (fn:Func) (r:AV) (b0:AG) (s:St):Prop:=
 match fn.body with
 | some c=>CZ E Hs fn.ntmps c (HD Hs fn.results.toList r b0) s
 | none=>False
end Go.Abs
namespace Go.Abs
def AE:List UInt32->Nat
 | []=>0
 | x::l=>x.toNat+4294967296*AE l
def HY:Nat->Nat->List UInt32
 | 0,_=>[]
 | f+1,n=>if n=0 then [] else UInt32.ofNat n::HY f (n/4294967296)
def AS (n:Nat):List UInt32:=HY n n
variable {k:Nat} {o:List UInt32}
theorem On:∀(f n:Nat),n<=f->HY f n=HY n n
 | 0,n,h=>by rw[show n=0 by omega]
 | f+1,n,h=>by
  cases n with
  | zero=>simp[HY]
  | succ n=>
   simp only[HY];rw[On f _ (by omega),On n _ (by omega)]
theorem E5:AS 0=[]:=rfl
theorem KU {n:Nat} (h:n≠0):AS n=UInt32.ofNat n::AS (n/4294967296):=by
 cases n with
 | zero=>exact (h rfl).elim
 | succ n=>
  show HY (n+1) (n+1)=_
  rw[HY,if_neg (by omega),On n _ (by omega)]
  rfl
theorem Aw (n:Nat):AE (AS n)=n:=by
 induction n using Nat.strongRecOn with
 | ind n a=>
  by_cases h:n=0
  ·subst h;rfl
  rw[KU h,AE,a _ (by omega)];simp[UInt32.toNat_ofNat'];omega
theorem Dg (n:Nat):2^(32*(n+1))=4294967296*2^(32*n):=by
 rw[Nat.mul_add,Nat.pow_add,Nat.mul_comm]
theorem MW (a b:List UInt32):AE (a++b)=AE a+2^(32*a.length)*AE b:=by
 induction a with
 | nil=>simp[AE]
 | cons x a c=>
  rw[List.cons_append,AE,AE,c,List.length_cons,Dg]
  generalize 2^(32*a.length)=p
  grind
theorem CI (l:List UInt32):AE l<2^(32*l.length):=by
 induction l with
 | nil=>simp[AE]
 | cons x l a=>
  rw[AE,List.length_cons,Dg]
  generalize 2^(32*l.length)=p at*
  have:=x.toNat_lt;omega
theorem Ep {n:Nat} (h:n<2^(32*k)):(AS n).length<=k:=by
 induction k generalizing n with
 | zero=>have:n=0:=by simpa using h
         subst this;simp[E5]
 | succ k b=>
  by_cases a:n=0
  ·subst a;simp[E5]
  rw[KU a,List.length_cons];rw[Dg] at h;have:=b (n:=n/4294967296) (by omega);omega
theorem UO {n:Nat} (h:2^(32*k)<=n):k+1<=(AS n).length:=by
 have a:=CI (AS n);rw[Aw] at a;have b:2^(32*k)<2^(32*(AS n).length):=Nat.lt_of_le_of_lt h a;have:=(Nat.pow_lt_pow_iff_right (by decide:1<2)).1 b;omega
theorem KZ {a b:List UInt32} (c:a.length=b.length) (h:AE a=AE b):a=b:=by
 induction a generalizing b with
 | nil=>cases b with
  | nil=>rfl
  | cons _ _=>simp at c
 | cons x a i=>cases b with
  | nil=>simp at c
  | cons y b=>
   simp only[AE] at h;have j:=x.toNat_lt;have l:=y.toNat_lt;have f:x.toNat=y.toNat:=by omega
   have g:AE a=AE b:=by omega
   rw[UInt32.toNat_inj.1 f,i (by simpa using c) g]
theorem Oo {l:List UInt32} (h:l=[]\/2^(32*(l.length-1))<=AE l):AS (AE l)=l:=by
 rcases h with rfl | h
 ·rfl
 apply KZ _ (Aw _);have a:=Ep (CI l);have b:=UO h;omega
theorem Df {a b:Nat} (h:a<=b:=by omega):(AS a).length<=(AS b).length:=by
 apply Ep;have:=CI (AS b);rw[Aw] at this;omega
theorem Dx {n:Nat}:AS n=[]↔n=0:=by
 constructor
 ·intro h;have:=Aw n;rw[h] at this;exact this.symm
 rintro rfl;rfl
theorem UW {n:Nat} (h:n≠0):2^(32*((AS n).length-1))<=n:=by
 apply Classical.byContradiction;intro a;have:=Ep (n:=n) (k:=(AS n).length-1) (by omega);have:AS n≠[]:=fun e=>h (Dx.1 e)
 have:(AS n).length≠0:=by simpa using this
 omega
theorem Dp (l:List UInt32) (x:UInt32):AE (l++[x])=AE l+2^(32*l.length)*x.toNat:=by
 rw[MW];simp[AE]
theorem CB {l:List UInt32} {i:Nat} {x:UInt32} (h:l[i]? =some x):AE (l.take (i+1))=AE (l.take i)+2^(32*i)*x.toNat:=by
 have a:i<l.length:=by
  apply Classical.byContradiction;intro b;rw[List.getElem?_eq_none (by omega)] at h;exact absurd h (by simp)
 rw[List.take_succ_eq_append_getElem a,Dp];have:l[i]=x:=by simpa [List.getElem?_eq_getElem a] using h
 rw[this,List.length_take,Nat.min_eq_left (by omega)]
theorem E8 (l:List UInt32) (i:Nat) (h:i<=l.length):AE l=AE (l.take i)+2^(32*i)*AE (l.drop i):=by
 conv=>lhs;rw[<-List.take_append_drop i l,MW,List.length_take,Nat.min_eq_left h]
def B1:List UInt32->List UInt32
 | []=>[]
 | x::l=>match B1 l with
  | []=>if x=0 then [] else [x]
  | y::r=>x::y::r
theorem Hl:∀(l:List UInt32),B1 (l++[0])=B1 l
 | []=>rfl
 | x::l=>by simp[B1,Hl l]
theorem IQ {x:UInt32} (a:x≠0):∀(l:List UInt32),B1 (l++[x])=l++[x]
 | []=>by simp[B1,a]
 | y::l=>by
  rw[List.cons_append,B1,IQ a l];cases l <;> rfl
theorem JZ (l:List UInt32):B1 l=AS (AE l):=by
 induction l with
 | nil=>rfl
 | cons x l b=>
  rw[B1,b,AE];have c:=x.toNat_lt
  by_cases h:AE l=0
  ·rw[h,E5]
   by_cases a:x=0
   ·subst a;simp[E5]
   have:x.toNat≠0:=fun e=>a (UInt32.toNat_inj.1 e)
   rw[if_neg a,KU (by omega),show (x.toNat+4294967296*0)/4294967296=0 by omega,E5];simp
  rw[KU (n:=x.toNat+_) (by omega),show (x.toNat+4294967296*AE l)/4294967296=AE l by omega];rw[KU h]
  show x::_=_
  congr 1
  apply UInt32.toNat_inj.1;rw[UInt32.toNat_ofNat'];omega
def HX:Nat->Nat->Nat
 | 0,_=>0
 | f+1,n=>if n=0 then 0 else
  let r:=2*HX f (n/4)
  if (r+1)*(r+1)<=n then r+1 else r
def BL (n:Nat):Nat:=HX n n
theorem Oh:∀(f n:Nat),n<=f->HX f n*HX f n<=n/\n<(HX f n+1)*(HX f n+1)
 | 0,n,h=>by rw[show n=0 by omega];decide
 | f+1,n,h=>by
  rw[HX]
  by_cases a:n=0
  ·rw[if_pos a,a];decide
  rw[if_neg a];have:=Oh f (n/4) (by omega)
  generalize HX f (n/4)=r at*
  simp only;have e1:(2*r)*(2*r)=4*(r*r):=by grind
  have b:(2*r+1+1)*(2*r+1+1)=4*((r+1)*(r+1)):=by grind
  split
  ·refine⟨by assumption,?_⟩;rw[b];omega
  refine⟨?_,by omega⟩;rw[e1];omega
theorem KO (n:Nat):BL n*BL n<=n:=(Oh n n (Nat.le_refl _)).1
theorem MQ (n:Nat):n<(BL n+1)*(BL n+1):=(Oh n n (Nat.le_refl _)).2
theorem UG {n r:Nat} (c:r*r<=n) (f:n<(r+1)*(r+1)):BL n=r:=by
 have g:=KO n;have h:=MQ n
 generalize BL n=s at*
 have a:s<r+1:=Nat.mul_self_lt_mul_self_iff.1 (by omega);have b:r<s+1:=Nat.mul_self_lt_mul_self_iff.1 (by omega);omega
theorem DA {l:List UInt32} {i:Nat} (h:l.length<=i):AE (l.take i)=AE l:=by rw[List.take_of_length_le h]
theorem Lg {A B c xi yi i s:Nat} {w:UInt32} (a:o.length=i) (h:AE o+2^(32*i)*c=A+B) (b:s=c+xi+yi) (hw:w.toNat=s%4294967296):
  AE (o++[w])+2^(32*(i+1))*(s/4294967296)=(A+2^(32*i)*xi)+(B+2^(32*i)*yi):=by
 rw[Dp,Dg,a,hw]
 generalize 2^(32*i)=P at*
 have:s%4294967296+4294967296*(s/4294967296)=s:=by omega
 have e:P*(s%4294967296)+4294967296*P*(s/4294967296)=P*s:=by rw[<-this];grind
 subst b
 grind
theorem Ny {w:UInt32} (hw:w.toNat≠0):AS (AE (o++[w]))=o++[w]:=by
 apply Oo
 right
 rw[Dp,List.length_append];have:2^(32*o.length)*1<=2^(32*o.length)*w.toNat:=Nat.mul_le_mul_left _ (by omega);simp;omega
theorem SI {p q:Nat} (h:AE o=p+q) (a:o.length=(AS p).length):o=AS (p+q):=by
 rw[<-h];refine (Oo ?_).symm
 by_cases b:p=0
 ·left
  subst b;simpa [E5] using a
 right
 have:=UW b;rw[a];omega
theorem HC (n:Nat):AE (List.replicate n 0)=0:=by
 induction n with
 | zero=>rfl
 | succ n a=>rw[List.replicate_succ,AE,a];rfl
theorem P0:∀(l:List UInt32),l.take (B1 l).length=B1 l
 | []=>rfl
 | x::l=>by
  have b:=P0 l;rw[B1];cases h:B1 l with
  | nil=>
   by_cases a:x=0
   ·simp[a]
   simp[a]
  | cons y r=>
   rw[h] at b;simpa using b
theorem M8 (l:List UInt32):(B1 l).length<=l.length:=by
 rw[<-P0,List.length_take];omega
theorem D1 {l:List UInt32} {n m:Nat} (c:n<=l.length) (hm:m=(B1 (l.take n)).length):m<=n/\l.take m=AS (AE (l.take n)):=by
 have b:=M8 (l.take n);rw[List.length_take] at b;have a:=P0 (l.take n);rw[<-hm,List.take_take,Nat.min_eq_left (by omega)] at a;exact⟨by omega,by rw[a,JZ]⟩
end Go.Abs
namespace Go.Abs
variable {B d:Rat}
theorem dr (e:Rat):e=e.num/e.den:=by
 have h:=Rat.mkRat_self e;rw[Rat.mkRat_eq_div] at h;exact h.symm
theorem JK (e:Rat):e*e.den=e.num:=by
 have h:(e.den:Rat)≠0:=by
  intro h;exact e.den_nz (Rat.natCast_eq_zero_iff.1 h)
 have:=dr e
 grind
theorem dt {e:Rat} (h:0<e):0<e.num:=by
 have:=(Rat.lt_iff 0 e).1 h;simpa using this
theorem JA {a e:Rat} (c:a<=B) (f: -B<=a) (g:d<=e) (h: -e<=d):a*d<=B*e:=by
 have p:=Rat.mul_nonneg (a:=B-a) (b:=e+d) (by grind) (by grind);have q:=Rat.mul_nonneg (a:=B+a) (b:=e-d) (by grind) (by grind)
 grind
theorem ck {a e:Rat} (f:a<=B) (g: -B<=a) (b:d<=e) (c: -e<=d): -(B*e)<=a*d:=by
 have:=JA (a:= -a) (d:=d) (B:=B) (e:=e) (by grind) (by grind) b c
 grind
structure CS where
 f:Nat->Rat
 GU:∀e:Rat,0<e->∃N,∀n m,N<=n->N<=m->f n-f m<e
namespace CS
def eqv (a b:CS):Prop:=∀e:Rat,0<e->∃N,∀n,N<=n->a.f n-b.f n<e/\b.f n-a.f n<e
theorem ax (a:CS):eqv a a:=fun e he=>⟨0,fun n _=>by grind⟩
theorem TJ {a b:CS} (h:eqv a b):eqv b a:=fun e he=>by
 obtain⟨N,c⟩:=h e he;exact⟨N,fun n f=>⟨(c n f).2,(c n f).1⟩⟩
theorem ay {a b c:CS} (h:eqv a b) (k:eqv b c):eqv a c:=fun e he=>by
 obtain⟨N,g⟩:=h (e/2) (by grind);obtain⟨M,f⟩:=k (e/2) (by grind);refine⟨max N M,fun n i=>?_⟩;have:=g n (by omega);have:=f n (by omega)
 grind
instance st:Setoid CS:=⟨eqv,ax,TJ,ay⟩
theorem aw {a b:CS} (h:∀n,a.f n=b.f n):a ≈ b:=fun e he=>⟨0,fun n _=>by have:=h n;grind⟩
theorem J8 (a:CS):∃B:Rat,0<B/\∃N,∀n,N<=n->a.f n<=B/\ -B<=a.f n:=by
 obtain⟨N,c⟩:=a.GU 1 (by decide)
 have i:0<=max (a.f N) (-(a.f N)):=by
  rcases Rat.le_total (a:=a.f N) (b:= -(a.f N)) with h | h
  ·rw[Rat.max_def,if_pos h];grind
  by_cases h':a.f N<= -(a.f N)
  ·rw[Rat.max_def,if_pos h'];grind
  rw[Rat.max_def,if_neg h'];grind
 have j:a.f N<=max (a.f N) (-(a.f N)):=by rw[Rat.max_def];split <;> grind
 have l: -(a.f N)<=max (a.f N) (-(a.f N)):=by rw[Rat.max_def];split <;> grind
 refine⟨max (a.f N) (-(a.f N))+1,by grind,N,fun n g=>?_⟩;have:=c n N g (Nat.le_refl _);have:=c N n (Nat.le_refl _) g
 grind
def const (q:Rat):CS:=⟨fun _=>q,fun e he=>⟨0,fun n m _ _=>by grind⟩⟩
def add (a b:CS):CS:=⟨fun n=>a.f n+b.f n,fun e he=>by
 obtain⟨N,hN⟩:=a.GU (e/2) (by grind);obtain⟨M,hM⟩:=b.GU (e/2) (by grind);refine⟨max N M,fun n m hn hm=>?_⟩;have:=hN n m (by omega) (by omega);have:=hM n m (by omega) (by omega)
 grind⟩
def neg (a:CS):CS:=⟨fun n=> -a.f n,fun e he=>by
 obtain⟨N,hN⟩:=a.GU e he;refine⟨N,fun n m hn hm=>?_⟩;have:=hN m n hm hn
 grind⟩
theorem Ug {x y u v A e:Rat} (n:0<A) (r:0<B) (he:0<e) (g:x<=A) (c: -A<=x) (f:v<=B) (b: -B<=v)
  (i:x-u<e/(2*B)) (j:u-x<e/(2*B)) (l:y-v<e/(2*A)) (m:v-y<e/(2*A)):x*y-u*v<=e:=by
 have p:=JA (a:=x) (d:=y-v) (B:=A) (e:=e/(2*A)) g c (by grind) (by grind);have q:=JA (a:=v) (d:=x-u) (B:=B) (e:=e/(2*B)) f b (by grind) (by grind);have e1:A*(e/(2*A))=e/2:=by grind
 have h:B*(e/(2*B))=e/2:=by grind
 grind
def mul (a b:CS):CS:=⟨fun n=>a.f n*b.f n,fun e he=>by
 obtain⟨A,hA,N,hN⟩:=a.J8;obtain⟨B,hB,M,hM⟩:=b.J8;have p1:0<(e/2)/(2*B):=by rw[Rat.div_def];exact Rat.mul_pos (by grind) (Rat.inv_pos.2 (by grind))
 have p2:0<(e/2)/(2*A):=by rw[Rat.div_def];exact Rat.mul_pos (by grind) (Rat.inv_pos.2 (by grind))
 obtain⟨P,hP⟩:=a.GU _ p1;obtain⟨Q,hQ⟩:=b.GU _ p2;refine⟨max (max N M) (max P Q),fun n m hn hm=>?_⟩;have hn1:=hN n (by omega);have hm1:=hM m (by omega);have:=Ug (e:=e/2) hA hB (by grind) hn1.1 hn1.2 hm1.1 hm1.2 (hP n m (by omega) (by omega)) (hP m n (by omega) (by omega)) (hQ n m (by omega) (by omega)) (hQ m n (by omega) (by omega))
 grind⟩
theorem add_congr {a b c d:CS} (h:a ≈ c) (k:b ≈ d):add a b ≈ add c d:=fun e he=>by
 obtain⟨N,i⟩:=h (e/2) (by grind);obtain⟨M,g⟩:=k (e/2) (by grind);refine⟨max N M,fun n j=>?_⟩;have:=i n (by omega);have:=g n (by omega)
 show a.f n+b.f n-(c.f n+d.f n)<e/\c.f n+d.f n-(a.f n+b.f n)<e
 grind
theorem neg_congr {a c:CS} (h:a ≈ c):neg a ≈ neg c:=fun e he=>by
 obtain⟨N,b⟩:=h e he;refine⟨N,fun n g=>?_⟩;have:=b n g
 show -a.f n- -c.f n<e/\ -c.f n- -a.f n<e
 grind
theorem mul_congr {a b c d:CS} (h:a ≈ c) (k:b ≈ d):mul a b ≈ mul c d:=fun e he=>by
 obtain⟨A,m,N,t⟩:=a.J8;obtain⟨B,r,M,s⟩:=d.J8;have w:0<(e/2)/(2*B):=by rw[Rat.div_def];exact Rat.mul_pos (by grind) (Rat.inv_pos.2 (by grind))
 have x:0<(e/2)/(2*A):=by rw[Rat.div_def];exact Rat.mul_pos (by grind) (Rat.inv_pos.2 (by grind))
 obtain⟨P,u⟩:=h _ w;obtain⟨Q,v⟩:=k _ x;refine⟨max (max N M) (max P Q),fun n z=>?_⟩;have i:=t n (by omega);have g:=s n (by omega);have j:=u n (by omega);have l:=v n (by omega);have t1:=Ug (e:=e/2) m r (by grind) i.1 i.2 g.1 g.2 j.1 j.2 l.1 l.2;have p:=JA (a:=a.f n) (d:=d.f n-b.f n) (B:=A) (e:=(e/2)/(2*A)) i.1 i.2 (by grind) (by grind);have q:=JA (a:=d.f n) (d:=c.f n-a.f n) (B:=B) (e:=(e/2)/(2*B)) g.1 g.2 (by grind) (by grind);have e1:A*((e/2)/(2*A))=e/4:=by grind
 have y:B*((e/2)/(2*B))=e/4:=by grind
 show a.f n*b.f n-c.f n*d.f n<e/\c.f n*d.f n-a.f n*b.f n<e
 grind
def pos (a:CS):Prop:=∃e:Rat,0<e/\∃N,∀n,N<=n->e<a.f n
theorem VR {a b:CS} (h:a ≈ b) (k:pos a):pos b:=by
 obtain⟨e,he,N,f⟩:=k;obtain⟨M,c⟩:=h (e/2) (by grind);refine⟨e/2,by grind,max N M,fun n g=>?_⟩;have:=f n (by omega);have:=c n (by omega)
 grind
theorem de {a b:CS} (h:a ≈ b):pos a=pos b:=propext ⟨VR h,VR (TJ h)⟩
theorem tri (a:CS):a ≈ const 0\/pos a\/pos (neg a):=by
 apply Classical.byContradiction;intro h;apply h;refine .inl fun e he=>?_
 obtain⟨N,b⟩:=a.GU (e/2) (by grind);refine⟨N,fun n c=>?_⟩
 show a.f n-0<e/\0-a.f n<e
 constructor
 ·apply Classical.byContradiction;intro g;refine h (.inr (.inl ⟨e/4,by grind,N,fun m hm=>?_⟩));have:=b n m c hm
  grind
 apply Classical.byContradiction;intro g;refine h (.inr (.inr ⟨e/4,by grind,N,fun m hm=>?_⟩));have:=b m n hm c
 show e/4< -a.f m
 grind
theorem bw {x y c e:Rat} (i:0<c) (j:c<x) (l:c<y) (he:0<e) (h:x-y<e*(c*c)):y⁻¹-x⁻¹<e:=by
 have f:0<x*y:=Rat.mul_pos (by grind) (by grind);have e1:y⁻¹-x⁻¹=(x-y)*(x*y)⁻¹:=by grind
 have g:e=e*(x*y)*(x*y)⁻¹:=by grind
 have p:=Rat.mul_nonneg (a:=x-c) (b:=y) (by grind) (by grind);have m:=Rat.mul_nonneg (a:=c) (b:=y-c) (by grind) (by grind);have q:=Rat.mul_nonneg (a:=e) (b:=x*y-c*c) (by grind) (by grind);have r:=Rat.mul_pos (a:=e*(x*y)-(x-y)) (b:=(x*y)⁻¹) (by grind) (Rat.inv_pos.2 f)
 grind
theorem KN {a:CS} (h:pos a):∃b:CS,mul a b ≈ const 1:=by
 obtain⟨c,i,N,g⟩:=h;refine⟨⟨fun n=>(a.f (max N n))⁻¹,fun e he=>?_⟩,?_⟩
 ·have j:0<c*c:=Rat.mul_pos i i;obtain⟨M,p⟩:=a.GU (e*(c*c)) (Rat.mul_pos he j);refine⟨M,fun n m l hm=>?_⟩;exact bw i (g _ (by omega)) (g _ (by omega)) he (p _ _ (by omega) (by omega))
 intro e he;refine⟨N,fun n l=>?_⟩;have:=g n l;have q:a.f n*(a.f (max N n))⁻¹=1:=by rw[Nat.max_eq_right l];grind
 show a.f n*(a.f (max N n))⁻¹-1<e/\1-a.f n*(a.f (max N n))⁻¹<e
 grind
theorem mul_pos {a b:CS} (h:pos a) (k:pos b):pos (mul a b):=by
 obtain⟨c,l,N,j⟩:=h;obtain⟨d,g,M,i⟩:=k;refine⟨c*d,Rat.mul_pos l g,max N M,fun n s=>?_⟩;have m:=j n (by omega);have r:=i n (by omega);have p:=Rat.mul_pos (a:=a.f n-c) (b:=d) (by grind) g;have q:=Rat.mul_pos (a:=a.f n) (b:=b.f n-d) (by grind) (by grind)
 show c*d<a.f n*b.f n
 grind
theorem add_pos {a b:CS} (h:pos a) (k:pos b):pos (add a b):=by
 obtain⟨c,m,N,i⟩:=h;obtain⟨d,p,M,g⟩:=k;refine⟨c+d,by grind,max N M,fun n q=>?_⟩;have j:=i n (by omega);have l:=g n (by omega)
 show c+d<a.f n+b.f n
 grind
theorem dI {a:CS} (h:pos a):¬pos (neg a):=by
 rintro⟨d,m,M,b⟩
 obtain⟨c,l,N,g⟩:=h;have i:=g (max N M) (by omega);have j:d< -a.f (max N M):=b (max N M) (by omega)
 grind
theorem dJ:¬pos (const 0):=by
 rintro⟨d,c,M,a⟩
 have b:d<0:=a M (by omega)
 grind
theorem JH (k:Nat):(0:Rat)<2^k:=Rat.pow_pos (by decide)
theorem JG (k:Nat):(0:Rat)<(2^k)⁻¹:=Rat.inv_pos.2 (JH k)
theorem cz (k:Nat):(k:Rat)<2^k:=by
 have:=Nat.lt_two_pow_self (n:=k);have h:((k:Nat):Rat)<((2^k:Nat):Rat):=Rat.natCast_lt_natCast.2 this;simpa using h
theorem small (e:Rat) (he:0<e):∃N:Nat,∀n:Nat,N<=n->((2:Rat)^n)⁻¹<e:=by
 refine⟨e.den,fun n i=>?_⟩;have j:=cz n;have l:(e.den:Rat)<=(n:Rat):=Rat.natCast_le_natCast.2 i
 have m:1<=e*e.den:=by
  have:e*e.den=e.num:=JK e;rw[this];have g:0<e.num:=dt he;have f:((1:Int):Rat)<=e.num:=Rat.intCast_le_intCast.2 g;exact f
 have f:=JH n;have g:=Rat.mul_lt_mul_of_pos_left (a:=(e.den:Rat)) (b:=2^n) (c:=e) (by grind) he;have p:((2:Rat)^n)⁻¹*2^n=1:=by grind
 have h:=JG n;have q:=Rat.mul_pos (a:=e*2^n-1) (b:=(2^n)⁻¹) (by grind) h;have r:(e*2^n-1)*((2:Rat)^n)⁻¹=e-((2:Rat)^n)⁻¹:=by grind
 grind
def Ds (q:Rat) (k:Nat):Rat:=(BL (q*(2^k*2^k)).floor.toNat:Rat)*(2^k)⁻¹
theorem PZ (q:Rat) (k:Nat):0<=Ds q k:=
 Rat.mul_nonneg (by exact Rat.natCast_nonneg) (Rat.le_of_lt (JG k))
theorem Vq {q:Rat} (k:Nat) (h:q<=0):Ds q k=0:=by
 have c:q*(2^k*2^k)<=0:=by
  have:=Rat.mul_nonneg (a:= -q) (b:=2^k*2^k) (by grind) (Rat.le_of_lt (Rat.mul_pos (JH k) (JH k)))
  generalize (2:Rat)^k=x at*
  grind
 have f:(q*(2^k*2^k)).floor<=0:=by
  have:=Rat.floor_le (q*(2^k*2^k));have g:((q*(2^k*2^k)).floor:Rat)<=((0:Int):Rat):=Rat.le_trans this c;exact Rat.intCast_le_intCast.1 g
 rw[Ds,Int.toNat_of_nonpos f];have:BL 0=0:=rfl;rw[this];simp
theorem Vp {q:Rat} (k:Nat) (h:0<=q):Ds q k*Ds q k<=q:=by
 have m:=JH k;have l:=JG k;have c:0<=q*(2^k*2^k):=Rat.mul_nonneg h (Rat.le_of_lt (Rat.mul_pos m m));have n:=Rat.floor_le (q*(2^k*2^k));have f:0<=(q*(2^k*2^k)).floor:=Rat.le_floor_iff.2 (by simpa using c);have g:=KO (q*(2^k*2^k)).floor.toNat;rw[Ds]
 generalize s:BL (q*(2^k*2^k)).floor.toNat=r at*
 have i:((r*r:Nat):Rat)<=((q*(2^k*2^k)).floor.toNat:Rat):=Rat.natCast_le_natCast.2 g
 have j:((q*(2^k*2^k)).floor.toNat:Rat)=((q*(2^k*2^k)).floor:Rat):=by
  have:=Int.toNat_of_nonneg f;have p:(((q*(2^k*2^k)).floor.toNat:Int):Rat)=((q*(2^k*2^k)).floor:Rat):=by rw[this]
  exact p
 rw[j] at i
 have u:(r:Rat)*r<=q*(2^k*2^k):=by
  have:((r*r:Nat):Rat)=(r:Rat)*r:=by simp
  grind
 have v:=Rat.mul_nonneg (a:=q*(2^k*2^k)-(r:Rat)*r) (b:=(2^k)⁻¹*(2^k)⁻¹) (by grind) (Rat.le_of_lt (Rat.mul_pos l l));have e:(2:Rat)^k*(2^k)⁻¹=1:=by grind
 clear c n f g i j s
 generalize ((2:Rat)^k)⁻¹=y at*
 generalize (2:Rat)^k=x at*
 have t:(q*(x*x)-(r:Rat)*r)*(y*y)=q-r*y*(r*y):=by grind
 grind
theorem Ua (q:Rat) (k:Nat):q<(Ds q k+(2^k)⁻¹)*(Ds q k+(2^k)⁻¹):=by
 have s:=JH k;have h:=JG k;have g:=MQ (q*(2^k*2^k)).floor.toNat;rw[Ds]
 generalize m:BL (q*(2^k*2^k)).floor.toNat=r at*
 have i:q*(2^k*2^k)<(q*(2^k*2^k)).floor+1:=by
  have:=Rat.lt_floor_add_one (q*(2^k*2^k));rwa [Rat.intCast_add] at this
 have f:(q*(2^k*2^k)).floor<=((q*(2^k*2^k)).floor.toNat:Int):=Int.self_le_toNat _
 have c:((q*(2^k*2^k)).floor:Rat)<=((q*(2^k*2^k)).floor.toNat:Rat):=by
  exact Rat.intCast_le_intCast.2 f
 have j:((q*(2^k*2^k)).floor.toNat:Rat)+1<=((r:Rat)+1)*(r+1):=by
  have l:(q*(2^k*2^k)).floor.toNat+1<=(r+1)*(r+1):=g;have:=Rat.natCast_le_natCast.2 l;simpa using this
 have p:=Rat.mul_pos (a:=((r:Rat)+1)*(r+1)-q*(2^k*2^k)) (b:=(2^k)⁻¹*(2^k)⁻¹) (by grind) (Rat.mul_pos h h);have e:(2:Rat)^k*(2^k)⁻¹=1:=by grind
 clear i f g j c m
 generalize ((2:Rat)^k)⁻¹=y at*
 generalize (2:Rat)^k=x at*
 have n:(((r:Rat)+1)*(r+1)-q*(x*x))*(y*y)=(r*y+y)*(r*y+y)-q:=by grind
 grind
theorem Pa {p q e:Rat} {k l:Nat} (he:0<e) (n:((2:Rat)^l)⁻¹<e/2) (h:p-q<e*e/2):Ds p k-Ds q l<e:=by
 apply Classical.byContradiction;intro r;have f:=PZ q l;have g:=Ua q l
 have c:0<=p:=by
  apply Classical.byContradiction;intro m;have:=Vq (q:=p) k (by grind)
  grind
 have i:=Vp k c;have j:=JG l
 generalize Ds p k=s at*
 generalize Ds q l=t at*
 generalize ((2:Rat)^l)⁻¹=d at*
 have u:=Rat.mul_nonneg (a:=s-(t+d)-e/2) (b:=s+(t+d)) (by grind) (by grind);have v:=Rat.mul_nonneg (a:=e/2) (b:=s+t+d-e) (by grind) (by grind)
 grind
def sqrt (a:CS):CS:=⟨fun n=>Ds (a.f n) n,fun e he=>by
 obtain⟨N,hN⟩:=small (e/2) (by grind);obtain⟨M,hM⟩:=a.GU (e*e/2) (by have:=Rat.mul_pos he he;grind);refine⟨max N M,fun n m hn hm=>?_⟩;exact Pa he (hN m (by omega)) (hM n m (by omega) (by omega))⟩
theorem gJ {a b:CS} (h:a ≈ b):sqrt a ≈ sqrt b:=fun e he=>by
 obtain⟨N,c⟩:=small (e/2) (by grind);obtain⟨M,f⟩:=h (e*e/2) (by have:=Rat.mul_pos he he;grind);refine⟨max N M,fun n g=>?_⟩;have:=f n (by omega);exact⟨Pa he (c n (by omega)) this.1,Pa he (c n (by omega)) this.2⟩
theorem Hk {a:CS} (h:¬pos (neg a)):mul (sqrt a) (sqrt a) ≈ a:=fun e he=>by
 obtain⟨B,H,P,t⟩:=(sqrt a).J8;have y:0<e/(2*B+1):=by rw[Rat.div_def];exact Rat.mul_pos (by grind) (Rat.inv_pos.2 (by grind))
 obtain⟨N,r⟩:=small _ y;obtain⟨l,g⟩:=small 1 (by decide);obtain⟨M,q⟩:=a.GU (e/2) (by grind)
 have c:∃n,M<=n/\ -(e/2)<a.f n:=by
  apply Classical.byContradiction;intro u;apply h;refine⟨e/4,by grind,M,fun n j=>?_⟩;have:¬(-(e/2)<a.f n):=fun v=>u ⟨n,j,v⟩
  show e/4< -a.f n
  grind
 obtain⟨x,i,c⟩:=c;refine⟨max (max N l) (max M P),fun n j=>?_⟩;have m:=t n (by omega);have z:=r n (by omega);have A:=q x n i (by omega);have C:=Ua (a.f n) n;have D:=PZ (a.f n) n;have F:=JG n;have G:=g n (by omega)
 show Ds (a.f n) n*Ds (a.f n) n-a.f n<e/\a.f n-Ds (a.f n) n*Ds (a.f n) n<e
 have p:Ds (a.f n) n<=B:=m.1
 constructor
 ·by_cases w:0<=a.f n
  ·have:=Vp n w
   grind
  rw[Vq n (by grind)]
  grind
 generalize Ds (a.f n) n=s at*
 generalize ((2:Rat)^n)⁻¹=d at*
 have I:=Rat.mul_nonneg (a:=B-s) (b:=d) (by grind) (by grind);have J:=Rat.mul_nonneg (a:=1-d) (b:=d) (by grind) (by grind);have K:=Rat.mul_pos (a:=e/(2*B+1)-d) (b:=2*B+1) (by grind) (by grind);have L:e/(2*B+1)*(2*B+1)=e:=by grind
 grind
theorem JT (a:CS):¬pos (neg (sqrt a)):=by
 rintro⟨e,he,N,b⟩
 have c:e< -Ds (a.f N) N:=b N (Nat.le_refl _);have:=PZ (a.f N) N
 grind
end CS
def Re:Type:=Quotient CS.st
namespace Re
def mk (a:CS):Re:=Quotient.mk _ a
def ofRat (q:Rat):Re:=mk (CS.const q)
def add (x y:Re):Re:=Quotient.liftOn₂ x y (fun a b=>mk (CS.add a b)) fun _ _ _ _ h k=>Quotient.sound (CS.add_congr h k)
def mul (x y:Re):Re:=Quotient.liftOn₂ x y (fun a b=>mk (CS.mul a b)) fun _ _ _ _ h k=>Quotient.sound (CS.mul_congr h k)
def neg (x:Re):Re:=Quotient.liftOn x (fun a=>mk (CS.neg a)) fun _ _ h=>Quotient.sound (CS.neg_congr h)
def sqrt (x:Re):Re:=Quotient.liftOn x (fun a=>mk (CS.sqrt a)) fun _ _ h=>Quotient.sound (CS.gJ h)
def pos (x:Re):Prop:=Quotient.liftOn x CS.pos fun _ _ h=>CS.de h
def pow (x:Re):Nat->Re
 | 0=>ofRat 1
 | n+1=>mul (pow x n) x
instance:Add Re:=⟨add⟩
instance:Mul Re:=⟨mul⟩
instance:Neg Re:=⟨neg⟩
instance:Sub Re:=⟨fun a b=>add a (neg b)⟩
instance (n:Nat):OfNat Re n:=⟨ofRat n⟩
instance:NatCast Re:=⟨fun n=>ofRat n⟩
instance:IntCast Re:=⟨fun n=>ofRat n⟩
instance:Pow Re Nat:=⟨pow⟩
instance:SMul Nat Re:=⟨fun n a=>mul (ofRat n) a⟩
instance:SMul Int Re:=⟨fun n a=>mul (ofRat n) a⟩
instance:LT Re:=⟨fun a b=>pos (add b (neg a))⟩
instance:LE Re:=⟨fun a b=>¬pos (add a (neg b))⟩
theorem sound {a b:CS} (h:∀n,a.f n=b.f n):mk a=mk b:=Quotient.sound (CS.aw h)
theorem C1 {p:Re->Prop} (h:∀a,p (mk a)) (x:Re):p x:=Quotient.ind h x
theorem add_assoc (x y z:Re):x+y+z=x+(y+z):=by
 induction x using C1;induction y using C1;induction z using C1
 exact sound fun n=>Rat.add_assoc _ _ _
theorem add_comm (x y:Re):x+y=y+x:=by
 induction x using C1;induction y using C1
 exact sound fun n=>Rat.add_comm _ _
theorem add_zero (x:Re):x+0=x:=by
 induction x using C1
 exact sound fun n=>Rat.add_zero _
theorem neg_add_cancel (x:Re): -x+x=0:=by
 induction x using C1
 exact sound fun n=>Rat.neg_add_cancel _
theorem mul_assoc (x y z:Re):x*y*z=x*(y*z):=by
 induction x using C1;induction y using C1;induction z using C1
 exact sound fun n=>Rat.mul_assoc _ _ _
theorem mul_comm (x y:Re):x*y=y*x:=by
 induction x using C1;induction y using C1
 exact sound fun n=>Rat.mul_comm _ _
theorem mul_one (x:Re):x*1=x:=by
 induction x using C1
 exact sound fun n=>Rat.mul_one _
theorem left_distrib (x y z:Re):x*(y+z)=x*y+x*z:=by
 induction x using C1;induction y using C1;induction z using C1
 exact sound fun n=>Rat.mul_add _ _ _
theorem zero_mul (x:Re):0*x=0:=by
 induction x using C1
 exact sound fun n=>Rat.zero_mul _
theorem ofRat_add (p q:Rat):ofRat (p+q)=ofRat p+ofRat q:=rfl
theorem ofRat_mul (p q:Rat):ofRat (p*q)=ofRat p*ofRat q:=rfl
theorem ofRat_neg (p:Rat):ofRat (-p)= -ofRat p:=rfl
abbrev QL {C:Type->Type} {α:Type} (_:C α):Type->Type:=C
abbrev X4:Type->Type:=QL Dyadic.instCommRing
abbrev NP:Type->Type:=QL Dyadic.instCommRing.toRing.toSemiring
instance:X4 Re where
 add_assoc:=add_assoc
 add_comm:=add_comm
 add_zero:=add_zero
 neg_add_cancel:=neg_add_cancel
 mul_assoc:=mul_assoc
 mul_comm:=mul_comm
 mul_one:=mul_one
 one_mul:=fun x=>by rw[mul_comm,mul_one]
 left_distrib:=left_distrib
 right_distrib:=fun x y z=>by rw[mul_comm,left_distrib,mul_comm z x,mul_comm z y]
 zero_mul:=zero_mul
 mul_zero:=fun x=>by rw[mul_comm,zero_mul]
 pow_zero:=fun _=>rfl
 pow_succ:=fun _ _=>rfl
 sub_eq_add_neg:=fun _ _=>rfl
 neg_zsmul:=fun i x=>by
  show mul (ofRat ((-i:Int):Rat)) x=neg (mul (ofRat (i:Rat)) x)
  rw[Rat.intCast_neg]
  induction x using C1
  exact sound fun n=>Rat.neg_mul _ _
 zsmul_natCast_eq_nsmul:=fun _ _=>rfl
 nsmul_eq_natCast_mul:=fun _ _=>rfl
 ofNat_succ:=fun n=>by
  show ofRat ((n+1:Nat):Rat)=ofRat (n:Rat)+ofRat 1
  rw[Rat.natCast_add,ofRat_add]
  rfl
 ofNat_eq_natCast:=fun _=>rfl
 intCast_ofNat:=fun _=>rfl
 intCast_neg:=fun i=>by
  show ofRat ((-i:Int):Rat)=neg (ofRat (i:Rat))
  rw[Rat.intCast_neg]
  rfl
theorem lt_def (x y:Re):x<y↔pos (y-x):=Iff.rfl
theorem le_def (x y:Re):x<=y↔¬pos (x-y):=Iff.rfl
theorem dg {x y:Re}:pos x->pos y->pos (x*y):=by
 induction x using C1;induction y using C1
 exact CS.mul_pos
theorem dd {x y:Re}:pos x->pos y->pos (x+y):=by
 induction x using C1;induction y using C1
 exact CS.add_pos
theorem VP {x:Re}:pos x->¬pos (-x):=by
 induction x using C1
 exact CS.dI
theorem dm:¬pos 0:=CS.dJ
theorem VS (x:Re):x=0\/pos x\/pos (-x):=by
 induction x using C1
 rcases CS.tri _ with h | h | h
 ·exact .inl (Quotient.sound h)
 ·exact .inr (.inl h)
 exact .inr (.inr h)
theorem VQ {q:Rat}:pos (ofRat q)↔0<q:=by
 constructor
 ·rintro⟨e,he,N,a⟩
  have:e<q:=a N (Nat.le_refl _)
  grind
 intro h;exact⟨q/2,by grind,0,fun n _=>by show q/2<q;grind⟩
theorem le_trans' {x y z:Re} (h:x<=y) (k:y<=z):x<=z:=by
 rw[le_def] at*;intro a;rcases VS (x-y) with e | e | e
 ·rw[show x-z=(x-y)+(y-z) by grind,e,show 0+(y-z)=y-z by grind] at a;exact k a
 ·exact h e
 have:=dd a e;rw[show x-z+ -(x-y)=y-z by grind] at this;exact k this
theorem cP (x y:Re):x<=y\/y<=x:=by
 rw[le_def,le_def]
 by_cases h:pos (x-y)
 ·right
  have:=VP h;rwa [show -(x-y)=y-x by grind] at this
 exact .inl h
theorem cN {x y:Re} (h:x<=y) (k:y<=x):x=y:=by
 rw[le_def] at*;rcases VS (x-y) with e | e | e
 ·grind
 ·exact (h e).elim
 rw[show -(x-y)=y-x by grind] at e;exact (k e).elim
theorem cZ (x y:Re):x<y↔x<=y/\¬y<=x:=by
 rw[lt_def,le_def,le_def]
 constructor
 ·intro h;refine⟨?_,fun k=>k h⟩;have:=VP h;rwa [show -(y-x)=x-y by grind] at this
 rintro⟨_,h⟩
 exact Classical.not_not.1 h
instance:Std.IsLinearOrder Re where
 le_refl:=fun x=>by
  rw[le_def,show x-x=0 by grind];exact dm
 le_trans:=fun _ _ _=>le_trans'
 le_antisymm:=fun _ _=>cN
 le_total:=cP
instance:Std.LawfulOrderLT Re where
 lt_iff:=cZ
abbrev Xt {C:(β:Type)->(s:NP β)->(l:LE β)->(t:LT β)->Std.IsPreorder β->Prop} {α:Type} {s:NP α} {l:LE α} {t:LT α} {p:Std.IsPreorder α} (_:C α s l t p):(β:Type)->(s:NP β)->(l:LE β)->(t:LT β)->Std.IsPreorder β->Prop:=C
theorem Ot {a b c:Re} (h:a<b) (f:0<c):c*a<c*b:=by
 rw[lt_def] at*;rw[show c*b-c*a=(c-0)*(b-a) by grind];exact dg f h
instance:Xt Dyadic.instOrderedRing Re inferInstance inferInstance inferInstance inferInstance where
 add_le_left_iff:=fun c=>by
  rename_i a b
  rw[le_def,le_def,show a+c-(b+c)=a-b by grind]
 zero_lt_one:=by
  rw[lt_def]
  show pos (ofRat 1-ofRat 0)
  have:ofRat 1-ofRat 0=ofRat 1:=by
   show (1:Re)-0=1
   grind
  rw[this,VQ]
  decide
 mul_lt_mul_of_pos_left:=fun h hc=>Ot h hc
 mul_lt_mul_of_pos_right:=fun h hc=>by
  rename_i a b c
  rw[mul_comm a c,mul_comm b c];exact Ot h hc
theorem mul_pos {x y:Re} (h:0<x) (k:0<y):0<x*y:=by
 have:=Ot k h
 grind
theorem Ui {x y:Re} (h:0<=x) (k:0<=y):0<=x*y:=by
 by_cases h':0<x
 ·by_cases k':0<y
  ·have:=mul_pos h' k'
   grind
  have:y=0:=by grind
  subst this
  grind
 have:x=0:=by grind
 subst this
 grind
theorem dM:ofRat 0=0:=rfl
theorem Hc {p q:Rat}:ofRat p<ofRat q↔p<q:=by
 rw[lt_def]
 have:ofRat q-ofRat p=ofRat (q-p):=by
  rw[show q-p=q+ -p by grind,ofRat_add,ofRat_neg];grind
 rw[this,VQ]
 grind
theorem U3 {p q:Rat}:ofRat p<=ofRat q↔p<=q:=by
 have:= @Hc q p
 grind
theorem JB {p q:Rat}:ofRat p=ofRat q↔p=q:=by
 constructor
 ·intro h;have a:=(@U3 p q).1 (by grind);have b:=(@U3 q p).1 (by grind)
  grind
 rintro rfl;rfl
theorem UB {x:Re} (h:0<x):∃y,x*y=1:=by
 rw[lt_def,show x-0=x by grind] at h
 induction x using C1
 obtain⟨b,a⟩:=CS.KN h;exact⟨mk b,Quotient.sound a⟩
theorem KN {x:Re} (h:x≠0):∃y,x*y=1:=by
 by_cases a:0<x
 ·exact UB a
 obtain⟨y,b⟩:=UB (x:= -x) (by grind);exact⟨-y,by grind⟩
theorem JT (x:Re):0<=sqrt x:=by
 rw[le_def,show 0-sqrt x= -sqrt x by grind]
 induction x using C1
 exact CS.JT _
theorem Hk {x:Re} (h:0<=x):sqrt x*sqrt x=x:=by
 rw[le_def,show 0-x= -x by grind] at h
 induction x using C1
 exact Quotient.sound (CS.Hk h)
theorem FX {x y:Re} (h:x*y=0):x=0\/y=0:=by
 by_cases a:x=0
 ·exact .inl a
 obtain⟨z,b⟩:=KN a
 right
 have:y=(x*z)*y:=by rw[b];grind
 grind
theorem Pw (x:Re):0<=x*x:=by
 by_cases h:0<=x
 ·exact Ui h h
 have:=Ui (x:= -x) (y:= -x) (by grind) (by grind)
 grind
theorem JS {x y:Re} (a:0<=x) (b:0<=y) (h:x*x=y*y):x=y:=by
 have:(x-y)*(x+y)=0:=by grind
 rcases FX this with e | e
 ·grind
 grind
end Re
end Go.Abs
