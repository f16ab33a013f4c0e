/- Part 7 of a proof. Conditions: each theorem's own. -/
import Derived.Deep.Slices
import Derived.ProofKit
import Derived.Test.YtclgfoceefhnkaaGreatDoorLn05
set_option linter.all false
set_option maxHeartbeats 80000000
set_option maxRecDepth 20000
namespace Go.Abs
open Go.RowKit Go.ChangeShapes Go.WideShapes Go.Deep
def J4 (P:Program) (k:IntKind) (t:TypeId):Bool:=match P.underlying t with | some (.int j)=>decide (j=k) | _=>false
def okF (P:Program) (ok:T->TypeId->Bool):T->List Field->Nat->Bool
 | _,[],_=>false
 | t,[f],o=>f.offset==o&&(P.cellsOf f.type==t.size&&ok t f.type)
 | .pr a b,f::fs,o=>(f.offset==o&&(P.cellsOf f.type==a.size&&ok a f.type))&&okF P ok b fs (o+a.size)
 | _,_,_=>false
abbrev I7:T:= .pr .i64 (.pr (.pr (.pr .bool (.sl .u32)) (.pr .bool (.sl .u32))) (.pr .str (.sl .ex)))
def LW (P:Program) (ok:T->TypeId->Bool) (t:TypeId):T->TypeId->Bool
 | .sl .ex,u=>match P.underlying u with | some (.slice e)=>e==t | _=>false
 | τ,u=>ok τ u
def FT (P:Program):Nat->T->TypeId->Bool
 | 0,_,_=>false
 | n+1,τ,t=>match τ with
  | .u8=>J4 P .u8 t
  | .u32=>J4 P .u32 t
  | .u64=>J4 P .u64 t
  | .i8=>J4 P .i8 t
  | .i64=>J4 P .i64 t
  | .bool=>match P.underlying t with | some .bool=>true | _=>false
  | .sl e=>match P.underlying t with | some (.slice u)=>FT P n e u&&(P.cellsOf u==e.size&&decide (0<P.bytesOf u)) | _=>false
  | .pr a b=>match P.underlying t with | some (.struct fs)=>okF P (FT P n) (.pr a b) fs.toList 0&&P.cellsOf t==a.size+b.size | _=>false
  | .str=>match P.underlying t with | some .string=>true | _=>false
  | .ex=>match P.underlying t with | some (.struct fs)=>okF P (LW P (FT P n) t) I7 fs.toList 0&&(P.cellsOf t==7&&decide (0<P.bytesOf t)) | _=>false
  | .rf _=>false
 inductive FO:Nat->Ex->Prop
  | mk (N:Nat) (y:Ex):y.v.1.2.length<=N+1->y.v.2.2.length<=N+1->y.name.size<=N+1->y.args.length<=N+1->(∀z∈y.args,FO N z)->FO (N+1) y
def G3:Nat->(t:T)->el t->Prop
 | N,.sl t,l=>l.length<=N/\∀x∈l,G3 (N-1) t x
 | N,.pr a b,x=>G3 N a x.1/\G3 N b x.2
 | N,.str,s=>s.size<=N
 | N,.ex,x=>FO N x
 | _,_,_=>True
structure KY {H:Type} (B:DataW H->Nat):Prop where
 len:∀e s,e.length<=B (.slice e s)
 el:∀e s d,d∈e->B d<B (.slice e s)
 agg:∀l d,d∈l->B d<B (.agg l)
 str:∀b,b.length<=B (.lit (.string b))
theorem Hq {P:Program} {k:IntKind} {t:TypeId} (h:J4 P k t=true):P.underlying t=some (.int k):=by
 unfold J4 at h
 split at h
 ·rename_i j e;rw[e,of_decide_eq_true h]
 simp at h
theorem UN {k:IntKind} {n:Int} (h:(Lit.int k n).wf=true):k.min<=n/\n<=k.max:=by
 simpa [Lit.wf] using h
theorem So {H:Type} {enc:TypeId×Value->H} {P:Program} {w:World} {base:Nat} {sp:Nat->Bool} {r:Bool} {n m:Nat} {cs:List Value} {ok:T->TypeId->Bool} {B:DataW H->Nat} {Z:Nat->Prop}
  (c:∀(T:T) (t:TypeId) (cs:List Value) (x:DataW H×List MemPlace),ok T t=true->DataW.trod enc P w base sp r n t cs=some x->SizeOf.sizeOf x.1<m->(∀N,Z N->B x.1<=N)->(∀k∈x.1.weights P t,k<=reachBytes)->∃y:el T,rep w (fun b=>b<w.heap.size) T y cs/\∀N,Z N->G3 N T y):
  ∀(T:T) (fs:List Field) (o:Nat),okF P ok T fs o=true->cs.length=o+T.size->
   (∀(i:Nat) (f:Field),fs[i]? =some f->∃x,DataW.trod enc P w base sp r n f.type ((cs.drop f.offset).take (P.cellsOf f.type))=some x/\SizeOf.sizeOf x.1<m/\(∀N,Z N->B x.1<=N)/\∀k∈x.1.weights P f.type,k<=reachBytes)->∃y:el T,rep w (fun b=>b<w.heap.size) T y (cs.drop o)/\∀N,Z N->G3 N T y
 | T,[],o,h,_,_=>by cases T <;> simp[okF] at h
 | T,[f],o,h,A,j=>by
  have h':(f.offset==o&&(P.cellsOf f.type==T.size&&ok T f.type))=true:=by cases T <;> exact h
  simp only[Bool.and_eq_true,beq_iff_eq] at h';obtain⟨x,j,s,p,hw⟩:=j 0 f rfl;rw[h'.1,h'.2.1,List.take_of_length_le (by rw[List.length_drop];omega)] at j;exact c T _ _ _ h'.2.2 j s p hw
 | .pr a b,f::g::fs,o,h,A,j=>by
  have h':((f.offset==o&&(P.cellsOf f.type==a.size&&ok a f.type))&&okF P ok b (g::fs) (o+a.size))=true:=h;simp only[Bool.and_eq_true,beq_iff_eq] at h';have s:(T.pr a b).size=a.size+b.size:=rfl;obtain⟨x,l,q,p,hw⟩:=j 0 f rfl;rw[h'.1.1,h'.1.2.1] at l;obtain⟨y1,u,g1⟩:=c a _ _ _ h'.1.2.2 l q p hw;obtain⟨y2,v,g2⟩:=So c b (g::fs) (o+a.size) h'.2 (by omega) (fun i f hf=>j (i+1) f hf);refine⟨(y1,y2),⟨_,_,?_,u,v⟩,fun N z=>⟨g1 N z,g2 N z⟩⟩;rw[<-List.drop_drop,List.take_append_drop]
 |.u8,f::g::fs,o,h,_,_|.u32,f::g::fs,o,h,_,_|.u64,f::g::fs,o,h,_,_|.i8,f::g::fs,o,h,_,_|.i64,f::g::fs,o,h,_,_|.bool,f::g::fs,o,h,_,_|.sl _,f::g::fs,o,h,_,_|.str,f::g::fs,o,h,_,_|.ex,f::g::fs,o,h,_,_|.rf _,f::g::fs,o,h,_,_=>by simp[okF] at h
theorem ak {w:World} {a:Addr} {v:Value} (h:w.cell? a=some v):a.spot=none/\a.block<w.heap.size:=by
 unfold World.cell? at h
 split at h
 ·rename_i c e l b
  refine⟨?_,(Array.getElem?_eq_some_iff.1 b).1⟩;cases f:a.spot with
  | none=>rfl
  | some x=>simp[f] at h
 simp at h
theorem OF {a:Addr} (h:a.spot=none) (i:Nat):a.add i=⟨a.block,a.off+i,none⟩:=by
 unfold Addr.add;cases a;simp only at h;subst h
 split <;> simp_all
theorem YL {α:Type} {p:Nat->α->Prop}:∀(n:Nat),(∀i,i<n->∃x,p i x)->∃l:List α,l.length=n/\∀i x,l[i]? =some x->p i x
 | 0,_=>⟨[],rfl,fun i x h=>by simp at h⟩
 | n+1,h=>by
  obtain⟨l,b,g⟩:=YL n fun i c=>h i (by omega)
  obtain⟨x,j⟩:=h n (by omega);refine⟨l++[x],by simp[b],fun i y a=>?_⟩
  by_cases c:i<n
  ·rw[List.getElem?_append_left (by omega)] at a;exact g i y a
  rw[List.getElem?_append_right (by omega)] at a
  have:i=n:=by
   apply Classical.byContradiction;intro f;rw[List.getElem?_eq_none (by simp;omega)] at a;simp at a
  subst this;rw[b,Nat.sub_self] at a;simp at a;subst a;exact j
theorem YT {H:Type} {P:Program} {e:TypeId} {d:DataW H} {q:Nat}:∀{l:List (DataW H)},d∈l->q∈d.weights P e->q∈DataW.weightsAll P e l
 | [],h,_=>by simp at h
 | a::l,h,b=>by
  rw[DataW.weightsAll,List.mem_append];rcases List.mem_cons.1 h with rfl | h
  ·exact .inl b
  exact .inr (YT h b)
theorem YU {H:Type} {P:Program} {q:Nat}:∀{ts:List TypeId} {l:List (DataW H)} (i:Nat) (t:TypeId) (d:DataW H),ts[i]? =some t->l[i]? =some d->q∈d.weights P t->q∈DataW.weightsEach P ts l
 |[],_,i,t,d,h,_,_|_::_,[],i,t,d,_,h,_=>by simp at h
 | u::ts,a::l,0,t,d,h,h',b=>by
  rw[DataW.weightsEach,List.mem_append];simp at h h';subst h;subst h';exact .inl b
 | u::ts,a::l,i+1,t,d,h,h',b=>by
  rw[DataW.weightsEach,List.mem_append];exact .inr (YU i t d h h' b)
theorem Y7 {H:Type} {enc:TypeId×Value->H} {P:Program} {w:World} {base:Nat} {sp:Nat->Bool} {Y:Bool} {e:T} {u t:TypeId} (hu:P.underlying t=some (.slice u)) (M:P.cellsOf u=e.size) (K:0<P.bytesOf u) {B:DataW H->Nat} (X:KY B)
  {n:Nat} {cs:List Value} {x:DataW H×List MemPlace} (hx:DataW.trod enc P w base sp Y n t cs=some x) (hw:∀k∈x.1.weights P t,k<=reachBytes)
  (O:∀(n:Nat) (cs:List Value) (z:DataW H×List MemPlace),SizeOf.sizeOf z.1<SizeOf.sizeOf x.1->DataW.trod enc P w base sp Y n u cs=some z->(∀k∈z.1.weights P u,k<=reachBytes)->∃y:el e,rep w (fun b=>b<w.heap.size) e y cs/\∀N,B z.1<=N->G3 N e y):
  ∃y:el (.sl e),rep w (fun b=>b<w.heap.size) (.sl e) y cs/\∀N,B x.1<=N->G3 N (.sl e) y:=by
 rcases open_slice hu hx with⟨rfl,rfl⟩ |⟨a,len,cap,k,j,D,Pl,rfl,hb,R,a2,hk,g,s⟩
 ·exact⟨[],⟨none,0,rfl,Nat.le_refl _,Nat.zero_le _,.inl rfl⟩,fun _ _=>⟨Nat.zero_le _,fun _ h=>by cases h⟩⟩
 have a6:len<=k:=by rw[hk];split <;> omega
 rw[M] at s;have m:=congrArg Prod.fst g;simp only at m;rw[g] at hw
 have U:∀i,i<len->SizeOf.sizeOf (D i)<SizeOf.sizeOf x.1:=fun i s=>by
  have c:=List.sizeOf_lt_of_mem (List.mem_map.2 ⟨i,List.mem_range.2 s,rfl⟩:D i∈(List.range len).map D);rw[g];simp only[DataW.slice.sizeOf_spec];omega
 have I:DataW.weights P t (DataW.slice ((List.range len).map D) ((List.range (k-len)).map fun j=>D (len+j)))=(((List.range len).map D).length+((List.range (k-len)).map fun j=>D (len+j)).length)*P.bytesOf u::(DataW.weightsAll P u ((List.range len).map D)++DataW.weightsAll P u ((List.range (k-len)).map fun j=>D (len+j))):=by
  unfold DataW.weights;rw[hu]
 have G:len<=140737488355328:=by
  have:=hw _ (by rw[I];exact List.mem_cons_self);simp only[List.length_map,List.length_range] at this;have h3:len<=(len+(k-len))*P.bytesOf u:=Nat.le_trans (Nat.le_add_right _ _) (Nat.le_mul_of_pos_right _ K);have h4:reachBytes<=140737488355328:=by decide
  omega
 have Z:=T.size_pos e
 have J:0<len->a.spot=none:=fun A=>by
  obtain⟨us,L,ht⟩:=s 0 (by omega);obtain⟨_,hlen,f⟩:=World.cells?_some L;have A:=f 0 Z;rw[List.getElem?_eq_getElem (by omega),Nat.zero_mul] at A;have c:=(ak A).1;unfold Addr.add at c;simpa using c
 obtain⟨l,hl,S⟩:=YL (α:=el e) (p:=fun i y=>(∀N,B x.1<=N->G3 (N-1) e y)/\∃us,rep w (fun b=>b<w.heap.size) e y us/\a.spot=none/\a.block<w.heap.size/\w.rangeAt a.block (a.off+i*e.size) us) len (fun i F=>by
  obtain⟨us,L,ht⟩:=s i (by omega);obtain⟨y,hy,V⟩:=O _ _ _ (U i (by omega)) ht (fun q C=>hw q (by rw[I];exact List.mem_cons_of_mem _ (List.mem_append_left _ (YT (List.mem_map.2 ⟨i,List.mem_range.2 F,rfl⟩) C))));obtain⟨_,hlen,f⟩:=World.cells?_some L;have A:=f 0 Z;rw[List.getElem?_eq_getElem (by omega)] at A;have c:=ak A;have ha:a.spot=none:=J (by omega)
  have r:a.block<w.heap.size:=by
   have:=c.2;rw[OF ha,OF rfl] at this;exact this
  refine⟨y,fun N C=>V (N-1) (by show B (D i)<=N-1;have h5:=X.el ((List.range len).map D) ((List.range (k-len)).map fun j=>D (len+j)) _ (List.mem_map.2 ⟨i,List.mem_range.2 F,rfl⟩);rw[<-m] at h5;omega),us,hy,ha,r,fun j v Q=>?_⟩
  have a5:j<us.length:=by
   apply Classical.byContradiction;intro hn;rw[List.getElem?_eq_none (by omega)] at Q;simp at Q
  have:=f j (by omega);rw[OF ha,OF rfl] at this;rw[this];exact Q)
 subst hl;refine⟨l,⟨some a,cap,rfl,R,G,?_⟩,fun N C=>⟨?_,fun z W=>?_⟩⟩
 rotate_left
 ·have c:=X.len ((List.range l.length).map D) ((List.range (k-l.length)).map fun j=>D (l.length+j));rw[List.length_map,List.length_range] at c;rw[g] at C;exact Nat.le_trans c C
 ·obtain⟨i,s⟩:=List.mem_iff_getElem?.1 W;exact (S i z s).1 N C
 cases l with
 | nil=>exact .inl rfl
 | cons y l=>
  right
  obtain⟨_,_,_,ha,r,_⟩:=S 0 y rfl;obtain⟨ab,ao,a1⟩:=a;simp only at ha;subst ha;exact⟨ab,ao,rfl,r,fun i z W=>by obtain⟨_,us,c,_,_,h2⟩:=S i z W;exact⟨us,c,h2⟩⟩
theorem Y6 {H:Type} {enc:TypeId×Value->H} {P:Program} {w:World} {base:Nat} {sp:Nat->Bool} {h:Bool} {t:TypeId} {fs:Array Field} (hu:P.underlying t=some (.struct fs)) {B:DataW H->Nat} (j:KY B)
  {n:Nat} {cs:List Value} {x:DataW H×List MemPlace} (m:DataW.trod enc P w base sp h n t cs=some x) (hw:∀k∈x.1.weights P t,k<=reachBytes):
  ∃n',cs.length=P.cellsOf t/\∀(i:Nat) (f:Field),fs.toList[i]? =some f->∃z,DataW.trod enc P w base sp h n' f.type ((cs.drop f.offset).take (P.cellsOf f.type))=some z/\SizeOf.sizeOf z.1<SizeOf.sizeOf x.1/\
   B z.1<B x.1/\∀k∈z.1.weights P f.type,k<=reachBytes:=by
 obtain⟨xs,n',_,b,g,p,hf⟩:=DataW.trod_struct hu m;refine⟨n',g,fun i f c=>?_⟩;have a:fs[i]? =some f:=by rw[<-Array.getElem?_toList];exact c
 have s:i<fs.size:=(Array.getElem?_eq_some_iff.1 a).1;refine⟨xs[i]'(by omega),?_,?_,?_,fun q l=>hw q ?_⟩
 ·rw[hf i f a];exact List.getElem?_eq_getElem (by omega)
 ·have r:=List.sizeOf_lt_of_mem (List.mem_map.2 ⟨xs[i]'(by omega),List.getElem_mem _,rfl⟩:(xs[i]'(by omega)).1∈xs.map (·.1));rw[b];simp only[DataW.agg.sizeOf_spec];omega
 ·rw[b];exact j.agg _ _ (List.mem_map.2 ⟨xs[i]'(by omega),List.getElem_mem _,rfl⟩)
 rw[b]
 have e:DataW.weights P t (DataW.agg (xs.map (·.1)))=DataW.weightsEach P (fs.toList.map (·.type)) (xs.map (·.1)):=by
  unfold DataW.weights;rw[hu]
 rw[e];exact YU i f.type (xs[i]'(by omega)).1 (by rw[List.getElem?_map,c];rfl) (by rw[List.getElem?_map,List.getElem?_eq_getElem (by omega)];rfl) l
theorem nU {w:World} {I:Nat->Prop} {y:el I7} {vs:List Value} (h:rep w I I7 y vs):Hc w I (.mk y.1 y.2.1 y.2.2.1 y.2.2.2) vs:=by
 have a:=(Gg (JG w I) I7 y vs).1 h;exact (Gg (JG w I) .ex (.mk y.1 y.2.1 y.2.2.1 y.2.2.2) vs).2 a
theorem Y5 {H:Type} {enc:TypeId×Value->H} {P:Program} {w:World} {base:Nat} {sp:Nat->Bool} {J:Bool} {t:TypeId} {fs:Array Field} {ok:T->TypeId->Bool} (hu:P.underlying t=some (.struct fs))
  (a:okF P (LW P ok t) I7 fs.toList 0=true) (c:P.cellsOf t=7) (h:0<P.bytesOf t) {B:DataW H->Nat} (C:KY B)
  (l:∀(T:T) (t:TypeId) (cs:List Value) (x:DataW H×List MemPlace) (n:Nat),ok T t=true->DataW.trod enc P w base sp J n t cs=some x->(∀k∈x.1.weights P t,k<=reachBytes)->∃y:el T,rep w (fun b=>b<w.heap.size) T y cs/\∀N,B x.1<=N->G3 N T y):
  ∀(k n:Nat) (cs:List Value) (x:DataW H×List MemPlace),SizeOf.sizeOf x.1<k->DataW.trod enc P w base sp J n t cs=some x->(∀k∈x.1.weights P t,k<=reachBytes)->∃y:el .ex,rep w (fun b=>b<w.heap.size) .ex y cs/\∀N,B x.1<=N->G3 N .ex y
 | 0,_,_,_,S,_,_=>by omega
 | k+1,n,cs,x,S,V,hw=>by
  obtain⟨n',D,j⟩:=Y6 hu C V hw
  have p:0<B x.1:=by
   cases K:fs.toList with
   | nil=>rw[K] at a;simp[okF] at a
   | cons f r=>obtain⟨z,_,_,v,_⟩:=j 0 f (by rw[K];rfl);exact Nat.lt_of_le_of_lt (Nat.zero_le _) v
  obtain⟨y,M,G⟩:=So (w:=w) (n:=n') (m:=SizeOf.sizeOf x.1) (cs:=cs) (ok:=LW P ok t) (B:=B) (Z:=fun N=>B x.1<=N) (fun τ u cs z g v Y L s=>by
   unfold LW at g
   split at g
   ·split at g
    ·rename_i e he
     simp only[beq_iff_eq] at g;subst g;obtain⟨y,g1,g2⟩:=Y7 he (by rw[c];rfl) h C v s fun W A X U I F=>Y5 hu a c h C l k W A X (by omega) I F
     exact⟨y,g1,fun N q=>g2 N (L N q)⟩
    cases g
   obtain⟨y,g1,g2⟩:=l _ _ _ _ _ g v s;exact⟨y,g1,fun N q=>g2 N (L N q)⟩) I7 fs.toList 0 a (by rw[D,c];rfl) (fun i f hf=>by
   obtain⟨z,O,Q,h3,R⟩:=j i f hf;exact⟨z,O,Q,fun N q=>Nat.le_trans (Nat.le_of_lt h3) q,R⟩)
  rw[List.drop_zero] at M;refine⟨_,nU M,fun N q=>?_⟩;have:=G N q;cases N with
  | zero=>have:=p;omega
  | succ N=>exact .mk N _ this.2.1.1.2.1 this.2.1.2.2.1 this.2.2.1 this.2.2.2.1 this.2.2.2.2
theorem Pg {H:Type} {enc:TypeId×Value->H} {P:Program} {w:World} {base:Nat} {sp:Nat->Bool} {G:Bool} {B:DataW H->Nat} (j:KY B):
  ∀(m:Nat) (T:T) (t:TypeId),FT P m T t=true->∀(n:Nat) (cs:List Value) (x:DataW H×List MemPlace),DataW.trod enc P w base sp G n t cs=some x->(∀k∈x.1.weights P t,k<=reachBytes)->
   ∃y:el T,rep w (fun b=>b<w.heap.size) T y cs/\∀N,B x.1<=N->G3 N T y
 | 0,_,_,h,_,_,_,_,_=>by simp[FT] at h
 | m+1,.u8,t,h,n,cs,x,c,hw=>by
  obtain⟨v,rfl,rfl,g⟩:=DataW.trod_int (Hq h) c;have hb:(0:Int)<=v/\v<=255:=UN g;refine⟨UInt8.ofNat v.toNat,?_,fun _ _=>trivial⟩
  show [Value.int .u8 v]=[Value.int .u8 _]
  rw[UInt8.toNat_ofNat'];congr 2;omega
 | m+1,.u32,t,h,n,cs,x,c,hw=>by
  obtain⟨v,rfl,rfl,g⟩:=DataW.trod_int (Hq h) c;have hb:(0:Int)<=v/\v<=4294967295:=UN g;refine⟨UInt32.ofNat v.toNat,?_,fun _ _=>trivial⟩
  show [Value.int .u32 v]=[Value.int .u32 _]
  rw[UInt32.toNat_ofNat'];congr 2;omega
 | m+1,.u64,t,h,n,cs,x,c,hw=>by
  obtain⟨v,rfl,rfl,g⟩:=DataW.trod_int (Hq h) c;have hb:(0:Int)<=v/\v<=18446744073709551615:=UN g;refine⟨UInt64.ofNat v.toNat,?_,fun _ _=>trivial⟩
  show [Value.int .u64 v]=[Value.int .u64 _]
  rw[UInt64.toNat_ofNat'];congr 2;omega
 | m+1,.i8,t,h,n,cs,x,c,hw=>by
  obtain⟨v,rfl,rfl,g⟩:=DataW.trod_int (Hq h) c;exact⟨v,rfl,fun _ _=>trivial⟩
 | m+1,.i64,t,h,n,cs,x,c,hw=>by
  obtain⟨v,rfl,rfl,g⟩:=DataW.trod_int (Hq h) c;exact⟨v,rfl,fun _ _=>trivial⟩
 | m+1,.bool,t,h,n,cs,x,c,hw=>by
  have h':(match P.underlying t with | some .bool=>true | _=>false)=true:=h
  split at h'
  ·rename_i e
   obtain⟨v,rfl,rfl⟩:=DataW.trod_bool e c;exact⟨v,rfl,fun _ _=>trivial⟩
  simp at h'
 | m+1,.sl e,t,h,n,cs,x,c,hw=>by
  have h':(match P.underlying t with | some (.slice u)=>FT P m e u&&(P.cellsOf u==e.size&&decide (0<P.bytesOf u)) | _=>false)=true:=h
  split at h'
  ·rename_i u hu
   simp only[Bool.and_eq_true,beq_iff_eq,decide_eq_true_eq] at h';exact Y7 hu h'.2.1 h'.2.2 j c hw fun n cs z _ A l=>Pg j m e u h'.1 n cs z A l
  simp at h'
 | m+1,.str,t,h,n,cs,x,c,hw=>by
  have h':(match P.underlying t with | some .string=>true | _=>false)=true:=h
  split at h'
  ·rename_i e
   obtain⟨v,rfl,rfl,_⟩:=DataW.trod_string e c;exact⟨v,rfl,fun N q=>Nat.le_trans (by have:=j.str v.data.toList;rw[Array.length_toList] at this;exact this) q⟩
  simp at h'
 | m+1,.rf _,t,h,n,cs,x,c,hw=>by cases (show false=true from h)
 | m+1,.ex,t,h,n,cs,x,c,hw=>by
  have h':(match P.underlying t with | some (.struct fs)=>okF P (LW P (FT P m) t) I7 fs.toList 0&&(P.cellsOf t==7&&decide (0<P.bytesOf t)) | _=>false)=true:=h
  split at h'
  ·rename_i fs hu
   simp only[Bool.and_eq_true,beq_iff_eq,decide_eq_true_eq] at h';exact Y5 hu h'.1 h'.2.1 h'.2.2 j (fun T t cs x n s c hw=>Pg j m T t s n cs x c hw) _ n cs x (Nat.lt_succ_self _) c hw
  simp at h'
 | m+1,.pr a b,t,h,n,cs,x,c,hw=>by
  have h':(match P.underlying t with | some (.struct fs)=>okF P (FT P m) (.pr a b) fs.toList 0&&P.cellsOf t==a.size+b.size | _=>false)=true:=h
  split at h'
  ·rename_i fs hu
   simp only[Bool.and_eq_true,beq_iff_eq] at h';obtain⟨n',p,r⟩:=Y6 hu j c hw
   have:=So (w:=w) (n:=n') (m:=SizeOf.sizeOf x.1) (cs:=cs) (ok:=FT P m) (B:=B) (Z:=fun N=>B x.1<=N) (fun T t cs z s A _ I l=>by
    obtain⟨y,g1,g2⟩:=Pg j m T t s n' cs z A l;exact⟨y,g1,fun N q=>g2 N (I N q)⟩) (.pr a b) fs.toList 0 h'.1 (by rw[p,h'.2,Nat.zero_add];rfl) (fun i f hf=>by
    obtain⟨z,C,D,h3,F⟩:=r i f hf;exact⟨z,C,D,fun N q=>Nat.le_trans (Nat.le_of_lt h3) q,F⟩)
   exact this
  simp at h'
end Go.Abs
namespace Go.Abs
open Go.RowKit Go.ChangeShapes Go.WideShapes Go.Deep
def HL:List T->Type
 | []=>PUnit
 | t::ts=>el t×HL ts
def Q5:(ts:List T)->HL ts->List AV
 | [],_=>[]
 | t::ts,x=>V5 t x.1::Q5 ts x.2
def Hv (P:Program):List T->List TypeId->Bool
 | [],[]=>true
 | τ::τs,t::ts=>(FT P 20 τ t&&(P.readableRec t&&decide (t<P.types.size)))&&Hv P τs ts
 | _,_=>false
theorem Jp {v:Value} {c:Value} (h:v.cells.toList=[c]) (a:v.oneCell'=true):v=c:=by
 rw[Pf a] at h;simpa using h
theorem nS {P:Program} {w:World} {I:Nat->Prop} {r:Reach} {b:Nat} {m:Nat}:∀{τ:T} {t:TypeId} {v:Value} {y:el τ},FT P (m+1) τ t=true->Value.okWide P w r b t v->rep w I τ y v.cells.toList->CX (JG w I) (V5 τ y) v
 | .u8,t,v,y,h,g,f=>by
  obtain⟨n,rfl⟩:=okWide_int (Hq h) g;exact .inr (Jp f rfl)
 | .u32,t,v,y,h,g,f=>by
  obtain⟨n,rfl⟩:=okWide_int (Hq h) g;exact .inr (Jp f rfl)
 | .u64,t,v,y,h,g,f=>by
  obtain⟨n,rfl⟩:=okWide_int (Hq h) g;exact .inr (Jp f rfl)
 | .i8,t,v,y,h,g,f=>by
  obtain⟨n,rfl⟩:=okWide_int (Hq h) g;exact .inr (Jp f rfl)
 | .i64,t,v,y,h,g,f=>by
  obtain⟨n,rfl⟩:=okWide_int (Hq h) g;exact .inr (Jp f rfl)
 | .bool,t,v,y,h,g,f=>by
  have h':(match P.underlying t with | some .bool=>true | _=>false)=true:=h
  split at h'
  ·rename_i e
   obtain⟨n,rfl⟩:=okWide_bool e g;exact .inr (Jp f rfl)
  simp at h'
 | .str,t,v,y,h,g,f=>by
  have h':(match P.underlying t with | some .string=>true | _=>false)=true:=h
  split at h'
  ·rename_i e
   obtain⟨n,rfl⟩:=okWide_string e g;exact .inr (Jp f rfl)
  simp at h'
 | .rf _,t,v,y,h,g,f=>by cases (show false=true from h)
 | .ex,t,v,y,h,g,f=>by
  have h':(match P.underlying t with | some (.struct fs)=>okF P (LW P (FT P m) t) I7 fs.toList 0&&(P.cellsOf t==7&&decide (0<P.bytesOf t)) | _=>false)=true:=h
  split at h'
  ·rename_i fs hu
   obtain⟨cs,rfl,_⟩:=okWide_struct hu g;exact⟨cs,rfl,(Gg (JG w I) _ _ _).1 f⟩
  simp at h'
 | .sl e,t,v,y,h,g,f=>by
  have h':(match P.underlying t with | some (.slice u)=>FT P m e u&&(P.cellsOf u==e.size&&decide (0<P.bytesOf u)) | _=>false)=true:=h
  split at h'
  ·rename_i u hu
   obtain⟨a,l,c,rfl⟩:=okWide_slice hu g;exact .inr f
  simp at h'
 | .pr a b',t,v,y,h,g,f=>by
  have h':(match P.underlying t with | some (.struct fs)=>okF P (FT P m) (.pr a b') fs.toList 0&&P.cellsOf t==a.size+b'.size | _=>false)=true:=h
  split at h'
  ·rename_i fs hu
   obtain⟨cs,rfl,_⟩:=okWide_struct hu g;exact⟨cs,rfl,(Gg (JG w I) _ _ _).1 f⟩
  simp at h'
theorem Vz {H:Type} {enc:TypeId×Value->H} {P:Program} (l:laidOutB P=true) {W j:World} (hb:Below W.heap.size W j):∀(a:List T) (ts:List TypeId) (vs:List Value) (f:List (DataW H)) (g:List MemPlace),Hv P a ts=true->
  DataW.TrodAll enc P W 0 (fun _=>true) true ts vs f g->(∀p∈g,p.block<W.heap.size)->DataW.TrodAll enc P j 0 (fun b=>decide (b<W.heap.size)) true ts vs f g
 | [],[],[],[],_,_,h,_=>h
 | τ::a,t::ts,v::vs,d::f,g,h,⟨p,q,m,n,e⟩,c=>by
  have h':((FT P 20 τ t&&(P.readableRec t&&decide (t<P.types.size)))&&Hv P a ts)=true:=h;simp only[Bool.and_eq_true,decide_eq_true_eq] at h';subst e;exact⟨p,q,Below.trod l h'.1.2.1 h'.1.2.2 m hb (fun x i=>c x (List.mem_append_left _ i)),Vz l hb a ts vs f q h'.2 n (fun x i=>c x (List.mem_append_right _ i)),rfl⟩
 |[],t::ts,_,_,_,h,_,_|_::_,[],_,_,_,h,_,_=>by simp[Hv] at h
 |[],[],[],_::_,_,_,h,_|[],[],_::_,_,_,_,h,_|_::_,_::_,[],_,_,_,h,_|_::_,_::_,_::_,[],_,_,h,_=>h.elim
def O8:(t:T)->el t->Prop
 | .i64,n=>Du n
 | .pr a b,x=>O8 a x.1/\O8 b x.2
 | _,_=>True
def R6:(ts:List T)->HL ts->Prop
 | [],_=>True
 | t::ts,x=>O8 t x.1/\R6 ts x.2
def TX:(ts:List T)->HL ts->Prop
 | [],_=>True
 | t::ts,x=>G3 1048576 t x.1/\TX ts x.2
theorem RH {P:Program} {w:World} {r:Reach} {b:Nat} {u:TypeId} {n:Int} (h:Cell.okWide P w r b u (.int .i64 n)):Du n:=by
 cases hu:P.underlying u with
 | none=>simp[Cell.okWide,Cell.ok,hu] at h
 | some d=>
  cases d <;> simp[Cell.okWide,Cell.ok,hu] at h
  obtain⟨rfl,c,f⟩:=h;have e1:IntKind.i64.min= -9223372036854775808:=rfl;have a:IntKind.i64.max=9223372036854775807:=rfl;unfold Du;omega
theorem iA {P:Program} {w:World} {r:Reach} {b:Nat} {t:TypeId} {v:Value} (h:Value.okWide P w r b t v):∀n,Value.int .i64 n∈v.cells.toList->Du n:=by
 intro n a;unfold Value.okWide at h
 split at h
 ·obtain⟨cs,rfl,_,ts,_,_,h3⟩:=h;obtain⟨i,c⟩:=List.mem_iff_getElem?.1 (show Value.int .i64 n∈cs.toList from a);obtain⟨u,_,hu⟩:=h3 i _ (by rw[<-Array.getElem?_toList];exact c);exact RH hu
 ·obtain⟨cs,rfl,_,ts,_,_,h3⟩:=h;obtain⟨i,c⟩:=List.mem_iff_getElem?.1 (show Value.int .i64 n∈cs.toList from a);obtain⟨u,_,hu⟩:=h3 i _ (by rw[<-Array.getElem?_toList];exact c);exact RH hu
 cases v with
 | agg cs=>
  cases hu:P.underlying t with
  | none=>simp[Cell.okWide,Cell.ok,hu] at h
  | some d=>cases d <;> simp[Cell.okWide,Cell.ok,hu] at h
 | int k m=>
  have e:Value.int .i64 n=Value.int k m:=by simpa [Value.cells] using a
  rw[<-e] at h;exact RH h
 | _=>exact absurd a (by simp[Value.cells])
theorem R7 {w:World} {I:Nat->Prop}:∀(t:T) (y:el t) (vs:List Value),rep w I t y vs->(∀n,Value.int .i64 n∈vs->Du n)->O8 t y
 | .i64,y,_,f,h=>h y (by rw[show _=_ from f];exact List.mem_singleton.2 rfl)
 | .pr a b,y,_,f,h=>by
  obtain⟨v1,v2,rfl,g,i⟩:=f;exact⟨R7 a _ _ g fun n c=>h n (List.mem_append_left _ c),R7 b _ _ i fun n c=>h n (List.mem_append_right _ c)⟩
 |.u8,_,_,_,_|.u32,_,_,_,_|.u64,_,_,_,_|.i8,_,_,_,_|.bool,_,_,_,_|.sl _,_,_,_,_|.str,_,_,_,_|.ex,_,_,_,_|.rf _,_,_,_,_=>trivial
theorem Vw {H:Type} {enc:TypeId×Value->H} {P:Program} {w:World} {base:Nat} {B:DataW H->Nat} (r:KY B):∀(a:List T) (ts:List TypeId) (vs:List Value) (c:List (DataW H)) (z:List MemPlace),Hv P a ts=true->
  DataW.TrodAll enc P w 0 (fun _=>true) true ts vs c z->(∀(j:Nat) t v,ts[j]? =some t->vs[j]? =some v->Value.okWide P w .any base t v)->(∀k∈DataW.weightsEach P ts c,k<=reachBytes)->(∀d∈c,B d<=1048576)->
   c.length=a.length/\∃xs:HL a,BM (CX (JG w fun b=>b<w.heap.size)) (Q5 a xs) vs/\R6 a xs/\TX a xs
 | [],[],[],[],_,_,_,_,_,_=>⟨rfl,⟨⟩,.nil,trivial,trivial⟩
 | τ::a,t::ts,v::vs,d::c,z,h,⟨p,q,A,C,_⟩,i,hw,f=>by
  have h':((FT P 20 τ t&&(P.readableRec t&&decide (t<P.types.size)))&&Hv P a ts)=true:=h;simp only[Bool.and_eq_true] at h';obtain⟨e,xs,l,F,g⟩:=Vw r a ts vs c q h'.2 C (fun j u x hu l=>i (j+1) u x hu l) (fun k f=>hw k (by rw[DataW.weightsEach];exact List.mem_append_right _ f)) (fun d D=>f d (List.mem_cons_of_mem _ D));obtain⟨n,G⟩:=A;obtain⟨y,s,m⟩:=Pg r 20 τ t h'.1.1 n _ _ G (fun k f=>hw k (by rw[DataW.weightsEach];exact List.mem_append_left _ f));exact⟨by simp[e],(y,xs),.cons (nS h'.1.1 (i 0 t v rfl rfl) s) l,⟨R7 _ _ _ s (iA (i 0 t v rfl rfl)),F⟩,m _ (f d List.mem_cons_self),g⟩
 |[],t::ts,_,_,_,h,_,_,_,_|_::_,[],_,_,_,h,_,_,_,_=>by simp[Hv] at h
 |[],[],[],_::_,_,_,h,_,_,_|[],[],_::_,_,_,_,h,_,_,_|_::_,_::_,[],_,_,_,h,_,_,_|_::_,_::_,_::_,[],_,_,h,_,_,_=>h.elim
theorem qk {P:Program} {f:FuncId} {fn:Func} {s:ChangeSpec} {a:List T} {tb:TypeId} (Q:laidOutB P=true) (m:Hv P a fn.params.toList=true)
  (A:fn.resultTypes= #[tb]) (F:P.underlying tb=some .bool) (c:s.vars=[])
  (C:∀(H:Type) (g:List (DataW H)),g.length=a.length->s.fn H (g++[])={results:=[.lit (.bool true)],args:=g})
  (K:∀xs:HL a,R6 a xs->TX a xs->Ej P false f (Q5 a xs) (.one (.bool true)))
  (H:Type) {B:DataW H->Nat} (L:KY B) (enc:TypeId×Value->H) (W:World) (base:Nat) (args:Array Value) (g gs:List (DataW H)) (before:List MemPlace)
  (n:∀(j:Nat) t v,fn.params[j]? =some t->args[j]? =some v->Value.okWide P W .any base t v)
  (J:DataW.Whole enc P fn.params.toList s.vars false W args.toList g gs before)
  (M:It W fun b=>b<W.heap.size)
  (hw:(DataW.weightsEach P (fn.params.toList++s.plain.varTypes P) (g++gs)).all (·<=reachBytes)=true) (y:∀d∈g,B d<=1048576):
  Calls P f args W fun e r=>∃v,e= .returned v/\s.post enc P fn false true false false W args v r:=by
 have l:=J;obtain⟨p,q,i,hV,rfl,O,R⟩:=J;rw[c] at hV;obtain⟨rfl,rfl⟩:=trodVars_none hV
 have G:s.plain.varTypes P=[]:=by
  unfold DataSpec.varTypes ChangeSpec.plain;simp[c]
 rw[G,List.append_nil,List.append_nil,List.all_eq_true] at hw;obtain⟨hlen,xs,I,w,D⟩:=Vw L a fn.params.toList args.toList g p m i (fun j t v ht U=>n j t v (by rw[<-Array.getElem?_toList];exact ht) (by rw[<-Array.getElem?_toList];exact U)) (fun k y=>by simpa using hw k y) y;obtain⟨_,_,N⟩:=K xs w D;have z:∀x∈p,x.block<W.heap.size:=fun x I=>l.lt x (List.mem_append_left _ I)
 refine (N W (fun b=>b<W.heap.size) none args.toList (.inr rfl) (fun _ h=>⟨h,nofun⟩) M ⟨trivial,trivial⟩ I).mono fun e r ⟨u,V,he,q,S,_⟩=>?_
 have hb:Below W.heap.size W r:=⟨q.os,q.tape,q.output,q.size,fun b h=>q.get b h nofun⟩
 have hu:u= .bool true:=by
  rcases S with h | h
  ·cases h
  exact h
 subst hu;refine⟨_,he,g,[],p++[],[],p,[],l,?_,?_,?_,?_,fun h=>by cases h⟩
 ·rw[A,C H g hlen];exact trodAll_mk1 (shut_bool F true)
 ·rw[C H g hlen];exact Vz Q hb a _ _ g p m i z
 ·rw[c,C H g hlen]
  rfl
 exact hb.frame _
end Go.Abs

namespace Go.Abs
def AD:List UInt32->Nat
 | []=>0
 | x::l=>x.toNat+4294967296*AD l
def JD:Nat->Nat->List UInt32
 | 0,_=>[]
 | f+1,n=>if n=0 then [] else UInt32.ofNat n::JD f (n/4294967296)
def AP (n:Nat):List UInt32:=JD n n
variable {k:Nat} {o:List UInt32}
theorem SL:∀(f n:Nat),n<=f->JD f n=JD n n
 | 0,n,h=>by rw[show n=0 by omega]
 | f+1,n,h=>by
  cases n with
  | zero=>simp[JD]
  | succ n=>
   simp only[JD];rw[SL f _ (by omega),SL n _ (by omega)]
theorem F8:AP 0=[]:=rfl
theorem M1 {n:Nat} (h:n≠0):AP n=UInt32.ofNat n::AP (n/4294967296):=by
 cases n with
 | zero=>exact (h rfl).elim
 | succ n=>
  show JD (n+1) (n+1)=_
  rw[JD,if_neg (by omega),SL n _ (by omega)]
  rfl
theorem BS (n:Nat):AD (AP n)=n:=by
 induction n using Nat.strongRecOn with
 | ind n a=>
  by_cases h:n=0
  ·subst h;rfl
  rw[M1 h,AD,a _ (by omega)];simp[UInt32.toNat_ofNat'];omega
theorem EG (n:Nat):2^(32*(n+1))=4294967296*2^(32*n):=by
 rw[Nat.mul_add,Nat.pow_add,Nat.mul_comm]
theorem PZ (a b:List UInt32):AD (a++b)=AD a+2^(32*a.length)*AD b:=by
 induction a with
 | nil=>simp[AD]
 | cons x a c=>
  rw[List.cons_append,AD,AD,c,List.length_cons,EG]
  generalize 2^(32*a.length)=p
  grind
theorem Cv (l:List UInt32):AD l<2^(32*l.length):=by
 induction l with
 | nil=>simp[AD]
 | cons x l a=>
  rw[AD,List.length_cons,EG]
  generalize 2^(32*l.length)=p at*
  have:=x.toNat_lt;omega
theorem Fq {n:Nat} (h:n<2^(32*k)):(AP n).length<=k:=by
 induction k generalizing n with
 | zero=>have:n=0:=by simpa using h
         subst this;simp[F8]
 | succ k b=>
  by_cases a:n=0
  ·subst a;simp[F8]
  rw[M1 a,List.length_cons];rw[EG] at h;have:=b (n:=n/4294967296) (by omega);omega
theorem YC {n:Nat} (h:2^(32*k)<=n):k+1<=(AP n).length:=by
 have a:=Cv (AP n);rw[BS] at a;have b:2^(32*k)<2^(32*(AP n).length):=Nat.lt_of_le_of_lt h a;have:=(Nat.pow_lt_pow_iff_right (by decide:1<2)).1 b;omega
theorem NA {a b:List UInt32} (c:a.length=b.length) (h:AD a=AD b):a=b:=by
 induction a generalizing b with
 | nil=>cases b with
  | nil=>rfl
  | cons _ _=>simp at c
 | cons x a i=>cases b with
  | nil=>simp at c
  | cons y b=>
   simp only[AD] at h;have j:=x.toNat_lt;have l:=y.toNat_lt;have f:x.toNat=y.toNat:=by omega
   have g:AD a=AD b:=by omega
   rw[UInt32.toNat_inj.1 f,i (by simpa using c) g]
theorem SM {l:List UInt32} (h:l=[]\/2^(32*(l.length-1))<=AD l):AP (AD l)=l:=by
 rcases h with rfl | h
 ·rfl
 apply NA _ (BS _);have a:=Fq (Cv l);have b:=YC h;omega
theorem EF {a b:Nat} (h:a<=b:=by omega):(AP a).length<=(AP b).length:=by
 apply Fq;have:=Cv (AP b);rw[BS] at this;omega
theorem Ec {n:Nat}:AP n=[]↔n=0:=by
 constructor
 ·intro h;have:=BS n;rw[h] at this;exact this.symm
 rintro rfl;rfl
theorem YI {n:Nat} (h:n≠0):2^(32*((AP n).length-1))<=n:=by
 apply Classical.byContradiction;intro a;have:=Fq (n:=n) (k:=(AP n).length-1) (by omega);have:AP n≠[]:=fun e=>h (Ec.1 e)
 have:(AP n).length≠0:=by simpa using this
 omega
theorem ET (l:List UInt32) (x:UInt32):AD (l++[x])=AD l+2^(32*l.length)*x.toNat:=by
 rw[PZ];simp[AD]
theorem Cq {l:List UInt32} {i:Nat} {x:UInt32} (h:l[i]? =some x):AD (l.take (i+1))=AD (l.take i)+2^(32*i)*x.toNat:=by
 have a:i<l.length:=by
  apply Classical.byContradiction;intro b;rw[List.getElem?_eq_none (by omega)] at h;exact absurd h (by simp)
 rw[List.take_succ_eq_append_getElem a,ET];have:l[i]=x:=by simpa [List.getElem?_eq_getElem a] using h
 rw[this,List.length_take,Nat.min_eq_left (by omega)]
theorem GB (l:List UInt32) (i:Nat) (h:i<=l.length):AD l=AD (l.take i)+2^(32*i)*AD (l.drop i):=by
 conv=>lhs;rw[<-List.take_append_drop i l,PZ,List.length_take,Nat.min_eq_left h]
def CV:List UInt32->List UInt32
 | []=>[]
 | x::l=>match CV l with
  | []=>if x=0 then [] else [x]
  | y::r=>x::y::r
theorem JW:∀(l:List UInt32),CV (l++[0])=CV l
 | []=>rfl
 | x::l=>by simp[CV,JW l]
theorem KT {x:UInt32} (a:x≠0):∀(l:List UInt32),CV (l++[x])=l++[x]
 | []=>by simp[CV,a]
 | y::l=>by
  rw[List.cons_append,CV,KT a l];cases l <;> rfl
theorem Lq (l:List UInt32):CV l=AP (AD l):=by
 induction l with
 | nil=>rfl
 | cons x l b=>
  rw[CV,b,AD];have c:=x.toNat_lt
  by_cases h:AD l=0
  ·rw[h,F8]
   by_cases a:x=0
   ·subst a;simp[F8]
   have:x.toNat≠0:=fun e=>a (UInt32.toNat_inj.1 e)
   rw[if_neg a,M1 (by omega),show (x.toNat+4294967296*0)/4294967296=0 by omega,F8];simp
  rw[M1 (n:=x.toNat+_) (by omega),show (x.toNat+4294967296*AD l)/4294967296=AD l by omega];rw[M1 h]
  show x::_=_
  congr 1
  apply UInt32.toNat_inj.1;rw[UInt32.toNat_ofNat'];omega
def JB:Nat->Nat->Nat
 | 0,_=>0
 | f+1,n=>if n=0 then 0 else
  let r:=2*JB f (n/4)
  if (r+1)*(r+1)<=n then r+1 else r
def Bt (n:Nat):Nat:=JB n n
theorem SD:∀(f n:Nat),n<=f->JB f n*JB f n<=n/\n<(JB f n+1)*(JB f n+1)
 | 0,n,h=>by rw[show n=0 by omega];decide
 | f+1,n,h=>by
  rw[JB]
  by_cases a:n=0
  ·rw[if_pos a,a];decide
  rw[if_neg a];have:=SD f (n/4) (by omega)
  generalize JB f (n/4)=r at*
  simp only;have e1:(2*r)*(2*r)=4*(r*r):=by grind
  have b:(2*r+1+1)*(2*r+1+1)=4*((r+1)*(r+1)):=by grind
  split
  ·refine⟨by assumption,?_⟩;rw[b];omega
  refine⟨?_,by omega⟩;rw[e1];omega
theorem Mw (n:Nat):Bt n*Bt n<=n:=(SD n n (Nat.le_refl _)).1
theorem PR (n:Nat):n<(Bt n+1)*(Bt n+1):=(SD n n (Nat.le_refl _)).2
theorem Xz {n r:Nat} (c:r*r<=n) (f:n<(r+1)*(r+1)):Bt n=r:=by
 have h3:=Mw n;have g:=PR n
 generalize Bt n=s at*
 have a:s<r+1:=Nat.mul_self_lt_mul_self_iff.1 (by omega);have b:r<s+1:=Nat.mul_self_lt_mul_self_iff.1 (by omega);omega
theorem Dk {l:List UInt32} {i:Nat} (h:l.length<=i):AD (l.take i)=AD l:=by rw[List.take_of_length_le h]
theorem OY {A B c xi yi i s:Nat} {w:UInt32} (a:o.length=i) (h:AD o+2^(32*i)*c=A+B) (b:s=c+xi+yi) (hw:w.toNat=s%4294967296):
  AD (o++[w])+2^(32*(i+1))*(s/4294967296)=(A+2^(32*i)*xi)+(B+2^(32*i)*yi):=by
 rw[ET,EG,a,hw]
 generalize 2^(32*i)=P at*
 have:s%4294967296+4294967296*(s/4294967296)=s:=by omega
 have e:P*(s%4294967296)+4294967296*P*(s/4294967296)=P*s:=by rw[<-this];grind
 subst b
 grind
theorem RG {w:UInt32} (hw:w.toNat≠0):AP (AD (o++[w]))=o++[w]:=by
 apply SM
 right
 rw[ET,List.length_append];have:2^(32*o.length)*1<=2^(32*o.length)*w.toNat:=Nat.mul_le_mul_left _ (by omega);simp;omega
theorem WT {p q:Nat} (h:AD o=p+q) (a:o.length=(AP p).length):o=AP (p+q):=by
 rw[<-h];refine (SM ?_).symm
 by_cases b:p=0
 ·left
  subst b;simpa [F8] using a
 right
 have:=YI b;rw[a];omega
theorem IX (n:Nat):AD (List.replicate n 0)=0:=by
 induction n with
 | zero=>rfl
 | succ n a=>rw[List.replicate_succ,AD,a];rfl
theorem UI:∀(l:List UInt32),l.take (CV l).length=CV l
 | []=>rfl
 | x::l=>by
  have b:=UI l;rw[CV];cases h:CV l with
  | nil=>
   by_cases a:x=0
   ·simp[a]
   simp[a]
  | cons y r=>
   rw[h] at b;simpa using b
theorem QD (l:List UInt32):(CV l).length<=l.length:=by
 rw[<-UI,List.length_take];omega
theorem Ei {l:List UInt32} {n m:Nat} (c:n<=l.length) (hm:m=(CV (l.take n)).length):m<=n/\l.take m=AP (AD (l.take n)):=by
 have b:=QD (l.take n);rw[List.length_take] at b;have a:=UI (l.take n);rw[<-hm,List.take_take,Nat.min_eq_left (by omega)] at a;exact⟨by omega,by rw[a,Lq]⟩
end Go.Abs
namespace Go.Abs
variable {B d:Rat}
theorem nL (e:Rat):e=e.num/e.den:=by
 have h:=Rat.mkRat_self e;rw[Rat.mkRat_eq_div] at h;exact h.symm
theorem Le (e:Rat):e*e.den=e.num:=by
 have h:(e.den:Rat)≠0:=by
  intro h;exact e.den_nz (Rat.natCast_eq_zero_iff.1 h)
 have:=nL e
 grind
theorem nM {e:Rat} (h:0<e):0<e.num:=by
 have:=(Rat.lt_iff 0 e).1 h;simpa using this
theorem LP {a e:Rat} (c:a<=B) (f: -B<=a) (h3:d<=e) (g: -e<=d):a*d<=B*e:=by
 have p:=Rat.mul_nonneg (a:=B-a) (b:=e+d) (by grind) (by grind);have q:=Rat.mul_nonneg (a:=B+a) (b:=e-d) (by grind) (by grind)
 grind
theorem lQ {a e:Rat} (c:a<=B) (f: -B<=a) (h3:d<=e) (b: -e<=d): -(B*e)<=a*d:=by
 have:=LP (a:= -a) (d:=d) (B:=B) (e:=e) (by grind) (by grind) h3 b
 grind
structure CS where
 f:Nat->Rat
 Hi:∀e:Rat,0<e->∃N,∀n m,N<=n->N<=m->f n-f m<e
namespace CS
def eqv (a b:CS):Prop:=∀e:Rat,0<e->∃N,∀n,N<=n->a.f n-b.f n<e/\b.f n-a.f n<e
theorem jH (a:CS):eqv a a:=fun e he=>⟨0,fun n _=>by grind⟩
theorem XM {a b:CS} (h:eqv a b):eqv b a:=fun e he=>by
 obtain⟨N,c⟩:=h e he;exact⟨N,fun n f=>⟨(c n f).2,(c n f).1⟩⟩
theorem jI {a b c:CS} (h:eqv a b) (k:eqv b c):eqv a c:=fun e he=>by
 obtain⟨N,g⟩:=h (e/2) (by grind);obtain⟨M,f⟩:=k (e/2) (by grind);refine⟨max N M,fun n i=>?_⟩;have:=g n (by omega);have:=f n (by omega)
 grind
instance st:Setoid CS:=⟨eqv,jH,XM,jI⟩
theorem jG {a b:CS} (h:∀n,a.f n=b.f n):a ≈ b:=fun e he=>⟨0,fun n _=>by have:=h n;grind⟩
theorem MP (a:CS):∃B:Rat,0<B/\∃N,∀n,N<=n->a.f n<=B/\ -B<=a.f n:=by
 obtain⟨N,c⟩:=a.Hi 1 (by decide)
 have i:0<=max (a.f N) (-(a.f N)):=by
  rcases Rat.le_total (a:=a.f N) (b:= -(a.f N)) with h | h
  ·rw[Rat.max_def,if_pos h];grind
  by_cases h':a.f N<= -(a.f N)
  ·rw[Rat.max_def,if_pos h'];grind
  rw[Rat.max_def,if_neg h'];grind
 have j:a.f N<=max (a.f N) (-(a.f N)):=by rw[Rat.max_def];split <;> grind
 have l: -(a.f N)<=max (a.f N) (-(a.f N)):=by rw[Rat.max_def];split <;> grind
 refine⟨max (a.f N) (-(a.f N))+1,by grind,N,fun n g=>?_⟩;have:=c n N g (Nat.le_refl _);have:=c N n (Nat.le_refl _) g
 grind
def const (q:Rat):CS:=⟨fun _=>q,fun e he=>⟨0,fun n m _ _=>by grind⟩⟩
def add (a b:CS):CS:=⟨fun n=>a.f n+b.f n,fun e he=>by
 obtain⟨N,hN⟩:=a.Hi (e/2) (by grind);obtain⟨M,hM⟩:=b.Hi (e/2) (by grind);refine⟨max N M,fun n m hn hm=>?_⟩;have:=hN n m (by omega) (by omega);have:=hM n m (by omega) (by omega)
 grind⟩
def neg (a:CS):CS:=⟨fun n=> -a.f n,fun e he=>by
 obtain⟨N,hN⟩:=a.Hi e he;refine⟨N,fun n m hn hm=>?_⟩;have:=hN m n hm hn
 grind⟩
theorem YW {x y u v A e:Rat} (m:0<A) (n:0<B) (he:0<e) (g:x<=A) (c: -A<=x) (f:v<=B) (b: -B<=v)
  (i:x-u<e/(2*B)) (j:u-x<e/(2*B)) (h3:y-v<e/(2*A)) (l:v-y<e/(2*A)):x*y-u*v<=e:=by
 have p:=LP (a:=x) (d:=y-v) (B:=A) (e:=e/(2*A)) g c (by grind) (by grind);have q:=LP (a:=v) (d:=x-u) (B:=B) (e:=e/(2*B)) f b (by grind) (by grind);have e1:A*(e/(2*A))=e/2:=by grind
 have h:B*(e/(2*B))=e/2:=by grind
 grind
def mul (a b:CS):CS:=⟨fun n=>a.f n*b.f n,fun e he=>by
 obtain⟨A,hA,N,hN⟩:=a.MP;obtain⟨B,hB,M,hM⟩:=b.MP;have p1:0<(e/2)/(2*B):=by rw[Rat.div_def];exact Rat.mul_pos (by grind) (Rat.inv_pos.2 (by grind))
 have p2:0<(e/2)/(2*A):=by rw[Rat.div_def];exact Rat.mul_pos (by grind) (Rat.inv_pos.2 (by grind))
 obtain⟨P,hP⟩:=a.Hi _ p1;obtain⟨Q,hQ⟩:=b.Hi _ p2;refine⟨max (max N M) (max P Q),fun n m hn hm=>?_⟩;have hn1:=hN n (by omega);have hm1:=hM m (by omega);have:=YW (e:=e/2) hA hB (by grind) hn1.1 hn1.2 hm1.1 hm1.2 (hP n m (by omega) (by omega)) (hP m n (by omega) (by omega)) (hQ n m (by omega) (by omega)) (hQ m n (by omega) (by omega))
 grind⟩
theorem add_congr {a b c d:CS} (h:a ≈ c) (k:b ≈ d):add a b ≈ add c d:=fun e he=>by
 obtain⟨N,i⟩:=h (e/2) (by grind);obtain⟨M,g⟩:=k (e/2) (by grind);refine⟨max N M,fun n j=>?_⟩;have:=i n (by omega);have:=g n (by omega)
 show a.f n+b.f n-(c.f n+d.f n)<e/\c.f n+d.f n-(a.f n+b.f n)<e
 grind
theorem neg_congr {a c:CS} (h:a ≈ c):neg a ≈ neg c:=fun e he=>by
 obtain⟨N,b⟩:=h e he;refine⟨N,fun n g=>?_⟩;have:=b n g
 show -a.f n- -c.f n<e/\ -c.f n- -a.f n<e
 grind
theorem mul_congr {a b c d:CS} (h:a ≈ c) (k:b ≈ d):mul a b ≈ mul c d:=fun e he=>by
 obtain⟨A,m,N,t⟩:=a.MP;obtain⟨B,r,M,s⟩:=d.MP;have w:0<(e/2)/(2*B):=by rw[Rat.div_def];exact Rat.mul_pos (by grind) (Rat.inv_pos.2 (by grind))
 have x:0<(e/2)/(2*A):=by rw[Rat.div_def];exact Rat.mul_pos (by grind) (Rat.inv_pos.2 (by grind))
 obtain⟨P,u⟩:=h _ w;obtain⟨Q,v⟩:=k _ x;refine⟨max (max N M) (max P Q),fun n z=>?_⟩;have i:=t n (by omega);have g:=s n (by omega);have j:=u n (by omega);have l:=v n (by omega);have t1:=YW (e:=e/2) m r (by grind) i.1 i.2 g.1 g.2 j.1 j.2 l.1 l.2;have p:=LP (a:=a.f n) (d:=d.f n-b.f n) (B:=A) (e:=(e/2)/(2*A)) i.1 i.2 (by grind) (by grind);have q:=LP (a:=d.f n) (d:=c.f n-a.f n) (B:=B) (e:=(e/2)/(2*B)) g.1 g.2 (by grind) (by grind);have e1:A*((e/2)/(2*A))=e/4:=by grind
 have y:B*((e/2)/(2*B))=e/4:=by grind
 show a.f n*b.f n-c.f n*d.f n<e/\c.f n*d.f n-a.f n*b.f n<e
 grind
def pos (a:CS):Prop:=∃e:Rat,0<e/\∃N,∀n,N<=n->e<a.f n
theorem ZM {a b:CS} (h:a ≈ b) (k:pos a):pos b:=by
 obtain⟨e,he,N,f⟩:=k;obtain⟨M,c⟩:=h (e/2) (by grind);refine⟨e/2,by grind,max N M,fun n g=>?_⟩;have:=f n (by omega);have:=c n (by omega)
 grind
theorem mU {a b:CS} (h:a ≈ b):pos a=pos b:=propext ⟨ZM h,ZM (XM h)⟩
theorem tri (a:CS):a ≈ const 0\/pos a\/pos (neg a):=by
 apply Classical.byContradiction;intro h;apply h;refine .inl fun e he=>?_
 obtain⟨N,b⟩:=a.Hi (e/2) (by grind);refine⟨N,fun n c=>?_⟩
 show a.f n-0<e/\0-a.f n<e
 constructor
 ·apply Classical.byContradiction;intro g;refine h (.inr (.inl ⟨e/4,by grind,N,fun m hm=>?_⟩));have:=b n m c hm
  grind
 apply Classical.byContradiction;intro g;refine h (.inr (.inr ⟨e/4,by grind,N,fun m hm=>?_⟩));have:=b m n hm c
 show e/4< -a.f m
 grind
theorem kL {x y c e:Rat} (i:0<c) (j:c<x) (l:c<y) (he:0<e) (h:x-y<e*(c*c)):y⁻¹-x⁻¹<e:=by
 have f:0<x*y:=Rat.mul_pos (by grind) (by grind);have e1:y⁻¹-x⁻¹=(x-y)*(x*y)⁻¹:=by grind
 have g:e=e*(x*y)*(x*y)⁻¹:=by grind
 have p:=Rat.mul_nonneg (a:=x-c) (b:=y) (by grind) (by grind);have m:=Rat.mul_nonneg (a:=c) (b:=y-c) (by grind) (by grind);have q:=Rat.mul_nonneg (a:=e) (b:=x*y-c*c) (by grind) (by grind);have r:=Rat.mul_pos (a:=e*(x*y)-(x-y)) (b:=(x*y)⁻¹) (by grind) (Rat.inv_pos.2 f)
 grind
theorem Mu {a:CS} (h:pos a):∃b:CS,mul a b ≈ const 1:=by
 obtain⟨c,i,N,g⟩:=h;refine⟨⟨fun n=>(a.f (max N n))⁻¹,fun e he=>?_⟩,?_⟩
 ·have j:0<c*c:=Rat.mul_pos i i;obtain⟨M,p⟩:=a.Hi (e*(c*c)) (Rat.mul_pos he j);refine⟨M,fun n m l hm=>?_⟩;exact kL i (g _ (by omega)) (g _ (by omega)) he (p _ _ (by omega) (by omega))
 intro e he;refine⟨N,fun n l=>?_⟩;have:=g n l;have q:a.f n*(a.f (max N n))⁻¹=1:=by rw[Nat.max_eq_right l];grind
 show a.f n*(a.f (max N n))⁻¹-1<e/\1-a.f n*(a.f (max N n))⁻¹<e
 grind
theorem mul_pos {a b:CS} (h:pos a) (k:pos b):pos (mul a b):=by
 obtain⟨c,l,N,j⟩:=h;obtain⟨d,g,M,i⟩:=k;refine⟨c*d,Rat.mul_pos l g,max N M,fun n s=>?_⟩;have m:=j n (by omega);have r:=i n (by omega);have p:=Rat.mul_pos (a:=a.f n-c) (b:=d) (by grind) g;have q:=Rat.mul_pos (a:=a.f n) (b:=b.f n-d) (by grind) (by grind)
 show c*d<a.f n*b.f n
 grind
theorem add_pos {a b:CS} (h:pos a) (k:pos b):pos (add a b):=by
 obtain⟨c,m,N,i⟩:=h;obtain⟨d,p,M,g⟩:=k;refine⟨c+d,by grind,max N M,fun n q=>?_⟩;have j:=i n (by omega);have l:=g n (by omega)
 show c+d<a.f n+b.f n
 grind
theorem lx {a:CS} (h:pos a):¬pos (neg a):=by
 rintro⟨d,m,M,b⟩
 obtain⟨c,l,N,g⟩:=h;have i:=g (max N M) (by omega);have j:d< -a.f (max N M):=b (max N M) (by omega)
 grind
theorem ly:¬pos (const 0):=by
 rintro⟨d,c,M,a⟩
 have b:d<0:=a M (by omega)
 grind
theorem Lb (k:Nat):(0:Rat)<2^k:=Rat.pow_pos (by decide)
theorem La (k:Nat):(0:Rat)<(2^k)⁻¹:=Rat.inv_pos.2 (Lb k)
theorem lZ (k:Nat):(k:Rat)<2^k:=by
 have:=Nat.lt_two_pow_self (n:=k);have h:((k:Nat):Rat)<((2^k:Nat):Rat):=Rat.natCast_lt_natCast.2 this;simpa using h
theorem small (e:Rat) (he:0<e):∃N:Nat,∀n:Nat,N<=n->((2:Rat)^n)⁻¹<e:=by
 refine⟨e.den,fun n i=>?_⟩;have j:=lZ n;have l:(e.den:Rat)<=(n:Rat):=Rat.natCast_le_natCast.2 i
 have h3:1<=e*e.den:=by
  have:e*e.den=e.num:=Le e;rw[this];have g:0<e.num:=nM he;have f:((1:Int):Rat)<=e.num:=Rat.intCast_le_intCast.2 g;exact f
 have f:=Lb n;have g:=Rat.mul_lt_mul_of_pos_left (a:=(e.den:Rat)) (b:=2^n) (c:=e) (by grind) he;have m:((2:Rat)^n)⁻¹*2^n=1:=by grind
 have h:=La n;have p:=Rat.mul_pos (a:=e*2^n-1) (b:=(2^n)⁻¹) (by grind) h;have q:(e*2^n-1)*((2:Rat)^n)⁻¹=e-((2:Rat)^n)⁻¹:=by grind
 grind
def EV (q:Rat) (k:Nat):Rat:=(Bt (q*(2^k*2^k)).floor.toNat:Rat)*(2^k)⁻¹
theorem TK (q:Rat) (k:Nat):0<=EV q k:=
 Rat.mul_nonneg (by exact Rat.natCast_nonneg) (Rat.le_of_lt (La k))
theorem Zo {q:Rat} (k:Nat) (h:q<=0):EV q k=0:=by
 have c:q*(2^k*2^k)<=0:=by
  have:=Rat.mul_nonneg (a:= -q) (b:=2^k*2^k) (by grind) (Rat.le_of_lt (Rat.mul_pos (Lb k) (Lb k)))
  generalize (2:Rat)^k=x at*
  grind
 have f:(q*(2^k*2^k)).floor<=0:=by
  have:=Rat.floor_le (q*(2^k*2^k));have h3:((q*(2^k*2^k)).floor:Rat)<=((0:Int):Rat):=Rat.le_trans this c;exact Rat.intCast_le_intCast.1 h3
 rw[EV,Int.toNat_of_nonpos f];have:Bt 0=0:=rfl;rw[this];simp
theorem Zn {q:Rat} (k:Nat) (h:0<=q):EV q k*EV q k<=q:=by
 have l:=Lb k;have j:=La k;have c:0<=q*(2^k*2^k):=Rat.mul_nonneg h (Rat.le_of_lt (Rat.mul_pos l l));have m:=Rat.floor_le (q*(2^k*2^k));have h3:0<=(q*(2^k*2^k)).floor:=Rat.le_floor_iff.2 (by simpa using c);have f:=Mw (q*(2^k*2^k)).floor.toNat;rw[EV]
 generalize p:Bt (q*(2^k*2^k)).floor.toNat=r at*
 have g:((r*r:Nat):Rat)<=((q*(2^k*2^k)).floor.toNat:Rat):=Rat.natCast_le_natCast.2 f
 have i:((q*(2^k*2^k)).floor.toNat:Rat)=((q*(2^k*2^k)).floor:Rat):=by
  have:=Int.toNat_of_nonneg h3;have n:(((q*(2^k*2^k)).floor.toNat:Int):Rat)=((q*(2^k*2^k)).floor:Rat):=by rw[this]
  exact n
 rw[i] at g
 have t:(r:Rat)*r<=q*(2^k*2^k):=by
  have:((r*r:Nat):Rat)=(r:Rat)*r:=by simp
  grind
 have u:=Rat.mul_nonneg (a:=q*(2^k*2^k)-(r:Rat)*r) (b:=(2^k)⁻¹*(2^k)⁻¹) (by grind) (Rat.le_of_lt (Rat.mul_pos j j));have e:(2:Rat)^k*(2^k)⁻¹=1:=by grind
 clear c m h3 f g i p
 generalize ((2:Rat)^k)⁻¹=y at*
 generalize (2:Rat)^k=x at*
 have s:(q*(x*x)-(r:Rat)*r)*(y*y)=q-r*y*(r*y):=by grind
 grind
theorem YS (q:Rat) (k:Nat):q<(EV q k+(2^k)⁻¹)*(EV q k+(2^k)⁻¹):=by
 have p:=Lb k;have g:=La k;have f:=PR (q*(2^k*2^k)).floor.toNat;rw[EV]
 generalize l:Bt (q*(2^k*2^k)).floor.toNat=r at*
 have h:q*(2^k*2^k)<(q*(2^k*2^k)).floor+1:=by
  have:=Rat.lt_floor_add_one (q*(2^k*2^k));rwa [Rat.intCast_add] at this
 have h3:(q*(2^k*2^k)).floor<=((q*(2^k*2^k)).floor.toNat:Int):=Int.self_le_toNat _
 have c:((q*(2^k*2^k)).floor:Rat)<=((q*(2^k*2^k)).floor.toNat:Rat):=by
  exact Rat.intCast_le_intCast.2 h3
 have i:((q*(2^k*2^k)).floor.toNat:Rat)+1<=((r:Rat)+1)*(r+1):=by
  have j:(q*(2^k*2^k)).floor.toNat+1<=(r+1)*(r+1):=f;have:=Rat.natCast_le_natCast.2 j;simpa using this
 have n:=Rat.mul_pos (a:=((r:Rat)+1)*(r+1)-q*(2^k*2^k)) (b:=(2^k)⁻¹*(2^k)⁻¹) (by grind) (Rat.mul_pos g g);have e:(2:Rat)^k*(2^k)⁻¹=1:=by grind
 clear h h3 f i c l
 generalize ((2:Rat)^k)⁻¹=y at*
 generalize (2:Rat)^k=x at*
 have m:(((r:Rat)+1)*(r+1)-q*(x*x))*(y*y)=(r*y+y)*(r*y+y)-q:=by grind
 grind
theorem TL {p q e:Rat} {k l:Nat} (he:0<e) (m:((2:Rat)^l)⁻¹<e/2) (h:p-q<e*e/2):EV p k-EV q l<e:=by
 apply Classical.byContradiction;intro n;have f:=TK q l;have g:=YS q l
 have c:0<=p:=by
  apply Classical.byContradiction;intro j;have:=Zo (q:=p) k (by grind)
  grind
 have h3:=Zn k c;have i:=La l
 generalize EV p k=s at*
 generalize EV q l=t at*
 generalize ((2:Rat)^l)⁻¹=d at*
 have r:=Rat.mul_nonneg (a:=s-(t+d)-e/2) (b:=s+(t+d)) (by grind) (by grind);have u:=Rat.mul_nonneg (a:=e/2) (b:=s+t+d-e) (by grind) (by grind)
 grind
def sqrt (a:CS):CS:=⟨fun n=>EV (a.f n) n,fun e he=>by
 obtain⟨N,hN⟩:=small (e/2) (by grind);obtain⟨M,hM⟩:=a.Hi (e*e/2) (by have:=Rat.mul_pos he he;grind);refine⟨max N M,fun n m hn hm=>?_⟩;exact TL he (hN m (by omega)) (hM n m (by omega) (by omega))⟩
theorem pC {a b:CS} (h:a ≈ b):sqrt a ≈ sqrt b:=fun e he=>by
 obtain⟨N,c⟩:=small (e/2) (by grind);obtain⟨M,f⟩:=h (e*e/2) (by have:=Rat.mul_pos he he;grind);refine⟨max N M,fun n g=>?_⟩;have:=f n (by omega);exact⟨TL he (c n (by omega)) this.1,TL he (c n (by omega)) this.2⟩
theorem G5 {a:CS} (h:¬pos (neg a)):mul (sqrt a) (sqrt a) ≈ a:=fun e he=>by
 obtain⟨B,G,P,t⟩:=(sqrt a).MP;have y:0<e/(2*B+1):=by rw[Rat.div_def];exact Rat.mul_pos (by grind) (Rat.inv_pos.2 (by grind))
 obtain⟨N,r⟩:=small _ y;obtain⟨l,g⟩:=small 1 (by decide);obtain⟨M,q⟩:=a.Hi (e/2) (by grind)
 have c:∃n,M<=n/\ -(e/2)<a.f n:=by
  apply Classical.byContradiction;intro u;apply h;refine⟨e/4,by grind,M,fun n j=>?_⟩;have:¬(-(e/2)<a.f n):=fun v=>u ⟨n,j,v⟩
  show e/4< -a.f n
  grind
 obtain⟨x,i,c⟩:=c;refine⟨max (max N l) (max M P),fun n j=>?_⟩;have m:=t n (by omega);have z:=r n (by omega);have h3:=q x n i (by omega);have A:=YS (a.f n) n;have C:=TK (a.f n) n;have D:=La n;have F:=g n (by omega)
 show EV (a.f n) n*EV (a.f n) n-a.f n<e/\a.f n-EV (a.f n) n*EV (a.f n) n<e
 have p:EV (a.f n) n<=B:=m.1
 constructor
 ·by_cases w:0<=a.f n
  ·have:=Zn n w
   grind
  rw[Zo n (by grind)]
  grind
 generalize EV (a.f n) n=s at*
 generalize ((2:Rat)^n)⁻¹=d at*
 have H:=Rat.mul_nonneg (a:=B-s) (b:=d) (by grind) (by grind);have I:=Rat.mul_nonneg (a:=1-d) (b:=d) (by grind) (by grind);have J:=Rat.mul_pos (a:=e/(2*B+1)-d) (b:=2*B+1) (by grind) (by grind);have K:e/(2*B+1)*(2*B+1)=e:=by grind
 grind
theorem Ll (a:CS):¬pos (neg (sqrt a)):=by
 rintro⟨e,he,N,b⟩
 have c:e< -EV (a.f N) N:=b N (Nat.le_refl _);have:=TK (a.f N) N
 grind
end CS
def Re:Type:=Quotient CS.st
namespace Re
def mk (a:CS):Re:=Quotient.mk _ a
def ofRat (q:Rat):Re:=mk (CS.const q)
def add (x y:Re):Re:=Quotient.liftOn₂ x y (fun a b=>mk (CS.add a b)) fun _ _ _ _ h k=>Quotient.sound (CS.add_congr h k)
def mul (x y:Re):Re:=Quotient.liftOn₂ x y (fun a b=>mk (CS.mul a b)) fun _ _ _ _ h k=>Quotient.sound (CS.mul_congr h k)
def neg (x:Re):Re:=Quotient.liftOn x (fun a=>mk (CS.neg a)) fun _ _ h=>Quotient.sound (CS.neg_congr h)
def sqrt (x:Re):Re:=Quotient.liftOn x (fun a=>mk (CS.sqrt a)) fun _ _ h=>Quotient.sound (CS.pC h)
def pos (x:Re):Prop:=Quotient.liftOn x CS.pos fun _ _ h=>CS.mU h
def pow (x:Re):Nat->Re
 | 0=>ofRat 1
 | n+1=>mul (pow x n) x
instance:Add Re:=⟨add⟩
instance:Mul Re:=⟨mul⟩
instance:Neg Re:=⟨neg⟩
instance:Sub Re:=⟨fun a b=>add a (neg b)⟩
instance (n:Nat):OfNat Re n:=⟨ofRat n⟩
instance:NatCast Re:=⟨fun n=>ofRat n⟩
instance:IntCast Re:=⟨fun n=>ofRat n⟩
instance:Pow Re Nat:=⟨pow⟩
instance:SMul Nat Re:=⟨fun n a=>mul (ofRat n) a⟩
instance:SMul Int Re:=⟨fun n a=>mul (ofRat n) a⟩
instance:LT Re:=⟨fun a b=>pos (add b (neg a))⟩
instance:LE Re:=⟨fun a b=>¬pos (add a (neg b))⟩
theorem sound {a b:CS} (h:∀n,a.f n=b.f n):mk a=mk b:=Quotient.sound (CS.jG h)
theorem Da {p:Re->Prop} (h:∀a,p (mk a)) (x:Re):p x:=Quotient.ind h x
theorem add_assoc (x y z:Re):x+y+z=x+(y+z):=by
 induction x using Da;induction y using Da;induction z using Da
 exact sound fun n=>Rat.add_assoc _ _ _
theorem add_comm (x y:Re):x+y=y+x:=by
 induction x using Da;induction y using Da
 exact sound fun n=>Rat.add_comm _ _
theorem add_zero (x:Re):x+0=x:=by
 induction x using Da
 exact sound fun n=>Rat.add_zero _
theorem neg_add_cancel (x:Re): -x+x=0:=by
 induction x using Da
 exact sound fun n=>Rat.neg_add_cancel _
theorem mul_assoc (x y z:Re):x*y*z=x*(y*z):=by
 induction x using Da;induction y using Da;induction z using Da
 exact sound fun n=>Rat.mul_assoc _ _ _
theorem mul_comm (x y:Re):x*y=y*x:=by
 induction x using Da;induction y using Da
 exact sound fun n=>Rat.mul_comm _ _
theorem mul_one (x:Re):x*1=x:=by
 induction x using Da
 exact sound fun n=>Rat.mul_one _
theorem left_distrib (x y z:Re):x*(y+z)=x*y+x*z:=by
 induction x using Da;induction y using Da;induction z using Da
 exact sound fun n=>Rat.mul_add _ _ _
theorem zero_mul (x:Re):0*x=0:=by
 induction x using Da
 exact sound fun n=>Rat.zero_mul _
theorem ofRat_add (p q:Rat):ofRat (p+q)=ofRat p+ofRat q:=rfl
theorem ofRat_mul (p q:Rat):ofRat (p*q)=ofRat p*ofRat q:=rfl
theorem ofRat_neg (p:Rat):ofRat (-p)= -ofRat p:=rfl
abbrev Ua {C:Type->Type} {α:Type} (_:C α):Type->Type:=C
abbrev dh:Type->Type:=Ua Dyadic.instCommRing
abbrev Qe:Type->Type:=Ua Dyadic.instCommRing.toRing.toSemiring
instance:dh Re where
 add_assoc:=add_assoc
 add_comm:=add_comm
 add_zero:=add_zero
 neg_add_cancel:=neg_add_cancel
 mul_assoc:=mul_assoc
 mul_comm:=mul_comm
 mul_one:=mul_one
 one_mul:=fun x=>by rw[mul_comm,mul_one]
 left_distrib:=left_distrib
 right_distrib:=fun x y z=>by rw[mul_comm,left_distrib,mul_comm z x,mul_comm z y]
 zero_mul:=zero_mul
 mul_zero:=fun x=>by rw[mul_comm,zero_mul]
 pow_zero:=fun _=>rfl
 pow_succ:=fun _ _=>rfl
 sub_eq_add_neg:=fun _ _=>rfl
 neg_zsmul:=fun i x=>by
  show mul (ofRat ((-i:Int):Rat)) x=neg (mul (ofRat (i:Rat)) x)
  rw[Rat.intCast_neg]
  induction x using Da
  exact sound fun n=>Rat.neg_mul _ _
 zsmul_natCast_eq_nsmul:=fun _ _=>rfl
 nsmul_eq_natCast_mul:=fun _ _=>rfl
 ofNat_succ:=fun n=>by
  show ofRat ((n+1:Nat):Rat)=ofRat (n:Rat)+ofRat 1
  rw[Rat.natCast_add,ofRat_add]
  rfl
 ofNat_eq_natCast:=fun _=>rfl
 intCast_ofNat:=fun _=>rfl
 intCast_neg:=fun i=>by
  show ofRat ((-i:Int):Rat)=neg (ofRat (i:Rat))
  rw[Rat.intCast_neg]
  rfl
theorem lt_def (x y:Re):x<y↔pos (y-x):=Iff.rfl
theorem le_def (x y:Re):x<=y↔¬pos (x-y):=Iff.rfl
theorem mV {x y:Re}:pos x->pos y->pos (x*y):=by
 induction x using Da;induction y using Da
 exact CS.mul_pos
theorem mT {x y:Re}:pos x->pos y->pos (x+y):=by
 induction x using Da;induction y using Da
 exact CS.add_pos
theorem ZK {x:Re}:pos x->¬pos (-x):=by
 induction x using Da
 exact CS.lx
theorem ma:¬pos 0:=CS.ly
theorem ZN (x:Re):x=0\/pos x\/pos (-x):=by
 induction x using Da
 rcases CS.tri _ with h | h | h
 ·exact .inl (Quotient.sound h)
 ·exact .inr (.inl h)
 exact .inr (.inr h)
theorem ZL {q:Rat}:pos (ofRat q)↔0<q:=by
 constructor
 ·rintro⟨e,he,N,a⟩
  have:e<q:=a N (Nat.le_refl _)
  grind
 intro h;exact⟨q/2,by grind,0,fun n _=>by show q/2<q;grind⟩
theorem le_trans' {x y z:Re} (h:x<=y) (k:y<=z):x<=z:=by
 rw[le_def] at*;intro a;rcases ZN (x-y) with e | e | e
 ·rw[show x-z=(x-y)+(y-z) by grind,e,show 0+(y-z)=y-z by grind] at a;exact k a
 ·exact h e
 have:=mT a e;rw[show x-z+ -(x-y)=y-z by grind] at this;exact k this
theorem ky (x y:Re):x<=y\/y<=x:=by
 rw[le_def,le_def]
 by_cases h:pos (x-y)
 ·right
  have:=ZK h;rwa [show -(x-y)=y-x by grind] at this
 exact .inl h
theorem kv {x y:Re} (h:x<=y) (k:y<=x):x=y:=by
 rw[le_def] at*;rcases ZN (x-y) with e | e | e
 ·grind
 ·exact (h e).elim
 rw[show -(x-y)=y-x by grind] at e;exact (k e).elim
theorem lH (x y:Re):x<y↔x<=y/\¬y<=x:=by
 rw[lt_def,le_def,le_def]
 constructor
 ·intro h;refine⟨?_,fun k=>k h⟩;have:=ZK h;rwa [show -(y-x)=x-y by grind] at this
 rintro⟨_,h⟩
 exact Classical.not_not.1 h
instance:Std.IsLinearOrder Re where
 le_refl:=fun x=>by
  rw[le_def,show x-x=0 by grind];exact ma
 le_trans:=fun _ _ _=>le_trans'
 le_antisymm:=fun _ _=>kv
 le_total:=ky
instance:Std.LawfulOrderLT Re where
 lt_iff:=lH
abbrev dT {C:(β:Type)->(s:Qe β)->(l:LE β)->(t:LT β)->Std.IsPreorder β->Prop} {α:Type} {s:Qe α} {l:LE α} {t:LT α} {p:Std.IsPreorder α} (_:C α s l t p):(β:Type)->(s:Qe β)->(l:LE β)->(t:LT β)->Std.IsPreorder β->Prop:=C
theorem SV {a b c:Re} (h:a<b) (f:0<c):c*a<c*b:=by
 rw[lt_def] at*;rw[show c*b-c*a=(c-0)*(b-a) by grind];exact mV f h
instance:dT Dyadic.instOrderedRing Re inferInstance inferInstance inferInstance inferInstance where
 add_le_left_iff:=fun c=>by
  rename_i a b
  rw[le_def,le_def,show a+c-(b+c)=a-b by grind]
 zero_lt_one:=by
  rw[lt_def]
  show pos (ofRat 1-ofRat 0)
  have:ofRat 1-ofRat 0=ofRat 1:=by
   show (1:Re)-0=1
   grind
  rw[this,ZL]
  decide
 mul_lt_mul_of_pos_left:=fun h hc=>SV h hc
 mul_lt_mul_of_pos_right:=fun h hc=>by
  rename_i a b c
  rw[mul_comm a c,mul_comm b c];exact SV h hc
theorem mul_pos {x y:Re} (h:0<x) (k:0<y):0<x*y:=by
 have:=SV k h
 grind
theorem YX {x y:Re} (h:0<=x) (k:0<=y):0<=x*y:=by
 by_cases h':0<x
 ·by_cases k':0<y
  ·have:=mul_pos h' k'
   grind
  have:y=0:=by grind
  subst this
  grind
 have:x=0:=by grind
 subst this
 grind
theorem mD:ofRat 0=0:=rfl
theorem HT {p q:Rat}:ofRat p<ofRat q↔p<q:=by
 rw[lt_def]
 have:ofRat q-ofRat p=ofRat (q-p):=by
  rw[show q-p=q+ -p by grind,ofRat_add,ofRat_neg];grind
 rw[this,ZL]
 grind
theorem Yt {p q:Rat}:ofRat p<=ofRat q↔p<=q:=by
 have:= @HT q p
 grind
theorem Ib {p q:Rat}:ofRat p=ofRat q↔p=q:=by
 constructor
 ·intro h;have a:=(@Yt p q).1 (by grind);have b:=(@Yt q p).1 (by grind)
  grind
 rintro rfl;rfl
theorem Xu {x:Re} (h:0<x):∃y,x*y=1:=by
 rw[lt_def,show x-0=x by grind] at h
 induction x using Da
 obtain⟨b,hb⟩:=CS.Mu h;exact⟨mk b,Quotient.sound hb⟩
theorem Mu {x:Re} (h:x≠0):∃y,x*y=1:=by
 by_cases a:0<x
 ·exact Xu a
 obtain⟨y,b⟩:=Xu (x:= -x) (by grind);exact⟨-y,by grind⟩
theorem Ll (x:Re):0<=sqrt x:=by
 rw[le_def,show 0-sqrt x= -sqrt x by grind]
 induction x using Da
 exact CS.Ll _
theorem G5 {x:Re} (h:0<=x):sqrt x*sqrt x=x:=by
 rw[le_def,show 0-x= -x by grind] at h
 induction x using Da
 exact Quotient.sound (CS.G5 h)
theorem F3 {x y:Re} (h:x*y=0):x=0\/y=0:=by
 by_cases a:x=0
 ·exact .inl a
 obtain⟨z,b⟩:=Mu a
 right
 have:y=(x*z)*y:=by rw[b];grind
 grind
theorem Ft (x:Re):0<=x*x:=by
 by_cases h:0<=x
 ·exact YX h h
 have:=YX (x:= -x) (y:= -x) (by grind) (by grind)
 grind
theorem Lk {x y:Re} (a:0<=x) (b:0<=y) (h:x*x=y*y):x=y:=by
 have:(x-y)*(x+y)=0:=by grind
 rcases F3 this with e | e
 ·grind
 grind
end Re
end Go.Abs
