/- Part 12 of a proof. Conditions: each theorem's own. -/
import Derived.Deep.Slices
import Derived.ProofKit
import Derived.Test.YtoonaidhfikkeaaGreatPk10
set_option linter.all false
set_option maxHeartbeats 8000000
open Go.Proofs
namespace Go.Abs
abbrev LR:=List (el AA)
abbrev CF:=EW Tryz.prog false
theorem cL {E:Env} {b:Bool} {g:FuncId} {args:List AV} {r:AV} {L:List AV->Prop} {K:AV->Prop} {X:Prop} (c:env Tryz.prog=E) (h:EW Tryz.prog b g args r) (f:L args) (d:K r):
 (∃(a:List AV) (r:AV),(Unit->L a)/\(Unit->E.C b g a r)/\K r)\/X:= .inl ⟨args,r,fun _=>f,fun _=>E3 c h,d⟩
theorem fA {A B C:Prop} (h:A) (hb:B) (a:C):(Unit->A/\B/\C)/\True:=⟨fun _=>⟨h,hb,a⟩,trivial⟩
theorem i64 {c:Int} (h: -9223372036854775808<=c/\c<9223372036854775808):Gm c:=h
theorem g2 {P:Sort _} {A C:Prop} (a:A) (h:C):(P->A)/\C:=⟨fun _=>a,h⟩
theorem g1 {P:Sort _} {C:Prop} {x:Int} (a: -9223372036854775808<=x/\x<9223372036854775808) (h:C):(P->Gm x)/\C:=⟨fun _=>i64 a,h⟩
theorem t1 {α:Sort _} {a:α}:a=a/\True:=⟨rfl,trivial⟩
theorem t2 {α β:Sort _} {a:α} {b:β}:a=a/\b=b/\True:=⟨rfl,t1⟩
theorem t3 {α β γ:Sort _} {a:α} {b:β} {c:γ}:a=a/\b=b/\c=c/\True:=⟨rfl,t2⟩
theorem t4 {α β γ δ:Sort _} {a:α} {b:β} {c:γ} {d:δ}:a=a/\b=b/\c=c/\d=d/\True:=⟨rfl,t3⟩
theorem xR (a:LR):∃z:LR,z=a:=⟨_,rfl⟩
theorem xV (a:List LR):∃z:List LR,z=a:=⟨_,rfl⟩
theorem xN (a:Nat):∃z:Nat,z=a:=⟨_,rfl⟩
theorem xI (a:Int):∃z:Int,z=a:=⟨_,rfl⟩
theorem xB (a:Bool):∃z:Bool,z=a:=⟨_,rfl⟩
theorem xU (a:List UInt32):∃z:List UInt32,z=a:=⟨_,rfl⟩
theorem xJ (a:List AV->List AH->Nat->Prop):∃J:List AV->List AH->Nat->Prop,J=a:=⟨_,rfl⟩
theorem xK (a:List AV->List AH->Prop):∃J:List AV->List AH->Prop,J=a:=⟨_,rfl⟩
end Go.Abs
namespace Go.Abs
open Go.RowKit Go.ChangeShapes Go.WideShapes Go.Deep
def Gn (P:Program) (k:IntKind) (t:TypeId):Bool:=match P.underlying t with | some (.int j)=>decide (j=k) | _=>false
def okF (P:Program) (ok:T->TypeId->Bool):T->List Field->Nat->Bool
 | _,[],_=>false
 | t,[f],o=>f.offset==o&&(P.cellsOf f.type==t.size&&ok t f.type)
 | .pr a b,f::fs,o=>(f.offset==o&&(P.cellsOf f.type==a.size&&ok a f.type))&&okF P ok b fs (o+a.size)
 | _,_,_=>false
def EF (P:Program):Nat->T->TypeId->Bool
 | 0,_,_=>false
 | n+1,τ,t=>match τ with
  | .u8=>Gn P .u8 t
  | .u32=>Gn P .u32 t
  | .u64=>Gn P .u64 t
  | .i8=>Gn P .i8 t
  | .i64=>Gn P .i64 t
  | .bool=>match P.underlying t with | some .bool=>true | _=>false
  | .sl e=>match P.underlying t with | some (.slice u)=>EF P n e u&&(P.cellsOf u==e.size&&decide (0<P.bytesOf u)) | _=>false
  | .pr a b=>match P.underlying t with | some (.struct fs)=>okF P (EF P n) (.pr a b) fs.toList 0&&P.cellsOf t==a.size+b.size | _=>false
theorem FK {P:Program} {k:IntKind} {t:TypeId} (h:Gn P k t=true):P.underlying t=some (.int k):=by
 unfold Gn at h
 split at h
 ·rename_i j e;rw[e,of_decide_eq_true h]
 simp at h
theorem Nw {k:IntKind} {n:Int} (h:(Lit.int k n).wf=true):k.min<=n/\n<=k.max:=by
 simpa [Lit.wf] using h
theorem RW {H:Type} {enc:TypeId×Value->H} {P:Program} {w:World} {base:Nat} {sp:Nat->Bool} {m:Bool} {n:Nat} {cs:List Value} {ok:T->TypeId->Bool}
  (d:∀(T:T) (t:TypeId) (cs:List Value) (x:DataW H×List MemPlace),ok T t=true->DataW.trod enc P w base sp m n t cs=some x->(∀k∈x.1.weights P t,k<=reachBytes)->∃y:el T,rep w (fun b=>b<w.heap.size) T y cs):
  ∀(T:T) (c:List Field) (o:Nat),okF P ok T c o=true->cs.length=o+T.size->
   (∀(i:Nat) (f:Field),c[i]? =some f->∃x,DataW.trod enc P w base sp m n f.type ((cs.drop f.offset).take (P.cellsOf f.type))=some x/\∀k∈x.1.weights P f.type,k<=reachBytes)->∃y:el T,rep w (fun b=>b<w.heap.size) T y (cs.drop o)
 | T,[],o,h,_,_=>by cases T <;> simp[okF] at h
 | T,[f],o,h,s,j=>by
  have h':(f.offset==o&&(P.cellsOf f.type==T.size&&ok T f.type))=true:=by cases T <;> exact h
  simp only[Bool.and_eq_true,beq_iff_eq] at h';obtain⟨x,j,hw⟩:=j 0 f rfl;rw[h'.1,h'.2.1,List.take_of_length_le (by rw[List.length_drop];omega)] at j;exact d T _ _ _ h'.2.2 j hw
 | .pr a b,f::g::c,o,h,s,j=>by
  have h':((f.offset==o&&(P.cellsOf f.type==a.size&&ok a f.type))&&okF P ok b (g::c) (o+a.size))=true:=h;simp only[Bool.and_eq_true,beq_iff_eq] at h';have z:(T.pr a b).size=a.size+b.size:=rfl;obtain⟨x,l,hw⟩:=j 0 f rfl;rw[h'.1.1,h'.1.2.1] at l;obtain⟨u,p⟩:=d a _ _ _ h'.1.2.2 l hw;obtain⟨v,q⟩:=RW d b (g::c) (o+a.size) h'.2 (by omega) (fun i f r=>j (i+1) f r);refine⟨(u,v),_,_,?_,p,q⟩;rw[<-List.drop_drop,List.take_append_drop]
 |.u8,f::g::c,o,h,_,_|.u32,f::g::c,o,h,_,_|.u64,f::g::c,o,h,_,_|.i8,f::g::c,o,h,_,_|.i64,f::g::c,o,h,_,_|.bool,f::g::c,o,h,_,_|.sl _,f::g::c,o,h,_,_=>by simp[okF] at h
theorem Sw {w:World} {a:Addr} {v:Value} (h:w.cell? a=some v):a.spot=none/\a.block<w.heap.size:=by
 unfold World.cell? at h
 split at h
 ·rename_i c e l b
  refine⟨?_,(Array.getElem?_eq_some_iff.1 b).1⟩;cases d:a.spot with
  | none=>rfl
  | some x=>simp[d] at h
 simp at h
theorem JV {a:Addr} (h:a.spot=none) (i:Nat):a.add i=⟨a.block,a.off+i,none⟩:=by
 unfold Addr.add;cases a;simp only at h;subst h
 split <;> simp_all
theorem Qx {α:Type} {p:Nat->α->Prop}:∀(n:Nat),(∀i,i<n->∃x,p i x)->∃l:List α,l.length=n/\∀i x,l[i]? =some x->p i x
 | 0,_=>⟨[],rfl,fun i x h=>by simp at h⟩
 | n+1,h=>by
  obtain⟨l,b,f⟩:=Qx n fun i c=>h i (by omega)
  obtain⟨x,g⟩:=h n (by omega);refine⟨l++[x],by simp[b],fun i y a=>?_⟩
  by_cases c:i<n
  ·rw[List.getElem?_append_left (by omega)] at a;exact f i y a
  rw[List.getElem?_append_right (by omega)] at a
  have:i=n:=by
   apply Classical.byContradiction;intro d;rw[List.getElem?_eq_none (by simp;omega)] at a;simp at a
  subst this;rw[b,Nat.sub_self] at a;simp at a;subst a;exact g
theorem Q2 {H:Type} {P:Program} {e:TypeId} {d:DataW H} {q:Nat}:∀{l:List (DataW H)},d∈l->q∈d.weights P e->q∈DataW.weightsAll P e l
 | [],h,_=>by simp at h
 | a::l,h,b=>by
  rw[DataW.weightsAll,List.mem_append];rcases List.mem_cons.1 h with rfl | h
  ·exact .inl b
  exact .inr (Q2 h b)
theorem Q3 {H:Type} {P:Program} {q:Nat}:∀{ts:List TypeId} {l:List (DataW H)} (i:Nat) (t:TypeId) (d:DataW H),ts[i]? =some t->l[i]? =some d->q∈d.weights P t->q∈DataW.weightsEach P ts l
 |[],_,i,t,d,h,_,_|_::_,[],i,t,d,_,h,_=>by simp at h
 | u::ts,a::l,0,t,d,h,h',b=>by
  rw[DataW.weightsEach,List.mem_append];simp at h h';subst h;subst h';exact .inl b
 | u::ts,a::l,i+1,t,d,h,h',b=>by
  rw[DataW.weightsEach,List.mem_append];exact .inr (Q3 i t d h h' b)
theorem M8 {H:Type} {enc:TypeId×Value->H} {P:Program} {w:World} {base:Nat} {sp:Nat->Bool} {hd:Bool}:
  ∀(m:Nat) (T:T) (t:TypeId),EF P m T t=true->∀(n:Nat) (cs:List Value) (x:DataW H×List MemPlace),DataW.trod enc P w base sp hd n t cs=some x->(∀k∈x.1.weights P t,k<=reachBytes)->
   ∃y:el T,rep w (fun b=>b<w.heap.size) T y cs
 | 0,_,_,h,_,_,_,_,_=>by simp[EF] at h
 | m+1,.u8,t,h,n,cs,x,c,hw=>by
  obtain⟨v,rfl,rfl,d⟩:=DataW.trod_int (FK h) c;have hb:(0:Int)<=v/\v<=255:=Nw d;refine⟨UInt8.ofNat v.toNat,?_⟩
  show [Value.int .u8 v]=[Value.int .u8 _]
  rw[UInt8.toNat_ofNat'];congr 2;omega
 | m+1,.u32,t,h,n,cs,x,c,hw=>by
  obtain⟨v,rfl,rfl,d⟩:=DataW.trod_int (FK h) c;have hb:(0:Int)<=v/\v<=4294967295:=Nw d;refine⟨UInt32.ofNat v.toNat,?_⟩
  show [Value.int .u32 v]=[Value.int .u32 _]
  rw[UInt32.toNat_ofNat'];congr 2;omega
 | m+1,.u64,t,h,n,cs,x,c,hw=>by
  obtain⟨v,rfl,rfl,d⟩:=DataW.trod_int (FK h) c;have hb:(0:Int)<=v/\v<=18446744073709551615:=Nw d;refine⟨UInt64.ofNat v.toNat,?_⟩
  show [Value.int .u64 v]=[Value.int .u64 _]
  rw[UInt64.toNat_ofNat'];congr 2;omega
 | m+1,.i8,t,h,n,cs,x,c,hw=>by
  obtain⟨v,rfl,rfl,d⟩:=DataW.trod_int (FK h) c;exact⟨v,rfl⟩
 | m+1,.i64,t,h,n,cs,x,c,hw=>by
  obtain⟨v,rfl,rfl,d⟩:=DataW.trod_int (FK h) c;exact⟨v,rfl⟩
 | m+1,.bool,t,h,n,cs,x,c,hw=>by
  have h':(match P.underlying t with | some .bool=>true | _=>false)=true:=h
  split at h'
  ·rename_i e
   obtain⟨v,rfl,rfl⟩:=DataW.trod_bool e c;exact⟨v,rfl⟩
  simp at h'
 | m+1,.sl e,t,h,n,cs,x,c,hw=>by
  have h':(match P.underlying t with | some (.slice u)=>EF P m e u&&(P.cellsOf u==e.size&&decide (0<P.bytesOf u)) | _=>false)=true:=h
  split at h'
  ·rename_i u hu
   simp only[Bool.and_eq_true,beq_iff_eq,decide_eq_true_eq] at h';rcases open_slice hu c with⟨rfl,rfl⟩ |⟨a,len,cap,k,j,D,Pl,rfl,hb,S,a1,hk,A,L⟩
   ·exact⟨[],none,0,rfl,Nat.le_refl _,Nat.zero_le _,.inl rfl⟩
   have a5:len<=k:=by rw[hk];split <;> omega
   rw[h'.2.1] at L;rw[A] at hw
   have K:DataW.weights P t (DataW.slice ((List.range len).map D) ((List.range (k-len)).map fun j=>D (len+j)))=(((List.range len).map D).length+((List.range (k-len)).map fun j=>D (len+j)).length)*P.bytesOf u::(DataW.weightsAll P u ((List.range len).map D)++DataW.weightsAll P u ((List.range (k-len)).map fun j=>D (len+j))):=by
    unfold DataW.weights;rw[hu]
   have J:len<=140737488355328:=by
    have:=hw _ (by rw[K];exact List.mem_cons_self);simp only[List.length_map,List.length_range] at this;have h3:len<=(len+(k-len))*P.bytesOf u:=Nat.le_trans (Nat.le_add_right _ _) (Nat.le_mul_of_pos_right _ h'.2.2);have h4:reachBytes<=140737488355328:=by decide
    omega
   have W:=T.size_pos e
   have M:0<len->a.spot=none:=fun C=>by
    obtain⟨us,N,ht⟩:=L 0 (by omega);obtain⟨_,hlen,g⟩:=World.cells?_some N;have C:=g 0 W;rw[List.getElem?_eq_getElem (by omega),Nat.zero_mul] at C;have F:=(Sw C).1;unfold Addr.add at F;simpa using F
   obtain⟨l,hl,V⟩:=Qx (α:=el e) (p:=fun i y=>∃us,rep w (fun b=>b<w.heap.size) e y us/\a.spot=none/\a.block<w.heap.size/\w.rangeAt a.block (a.off+i*e.size) us) len (fun i Q=>by
    obtain⟨us,N,ht⟩:=L i (by omega);obtain⟨y,hy⟩:=M8 m e u h'.1 _ _ _ ht (fun q U=>hw q (by rw[K];exact List.mem_cons_of_mem _ (List.mem_append_left _ (Q2 (List.mem_map.2 ⟨i,List.mem_range.2 Q,rfl⟩) U))));obtain⟨_,hlen,g⟩:=World.cells?_some N;have C:=g 0 W;rw[List.getElem?_eq_getElem (by omega)] at C;have F:=Sw C;have G:a.spot=none:=M (by omega)
    have s:a.block<w.heap.size:=by
     have:=F.2;rw[JV G,JV rfl] at this;exact this
    refine⟨y,us,hy,G,s,fun j v R=>?_⟩
    have a2:j<us.length:=by
     apply Classical.byContradiction;intro hn;rw[List.getElem?_eq_none (by omega)] at R;simp at R
    have:=g j (by omega);rw[JV G,JV rfl] at this;rw[this];exact R)
   subst hl;refine⟨l,some a,cap,rfl,S,J,?_⟩;cases l with
   | nil=>exact .inl rfl
   | cons y l=>
    right
    obtain⟨_,_,G,s,_⟩:=V 0 y rfl;obtain⟨X,Y,Z⟩:=a;simp only at G;subst G;exact⟨X,Y,rfl,s,fun i z hz=>by obtain⟨us,F,_,_,h2⟩:=V i z hz;exact⟨us,F,h2⟩⟩
  simp at h'
 | m+1,.pr a b,t,h,n,cs,x,c,hw=>by
  have h':(match P.underlying t with | some (.struct B)=>okF P (EF P m) (.pr a b) B.toList 0&&P.cellsOf t==a.size+b.size | _=>false)=true:=h
  split at h'
  ·rename_i B hu
   simp only[Bool.and_eq_true,beq_iff_eq] at h';obtain⟨xs,n',_,A,O,a6,hf⟩:=DataW.trod_struct hu c
   have:=RW (w:=w) (n:=n') (cs:=cs) (ok:=EF P m) (fun T t cs x ho c hw=>M8 m T t ho n' cs x c hw) (.pr a b) B.toList 0 h'.1 (by rw[O,h'.2,Nat.zero_add];rfl) (fun i f I=>by
    have r:B[i]? =some f:=by rw[<-Array.getElem?_toList];exact I
    have L:i<B.size:=(Array.getElem?_eq_some_iff.1 r).1;rw[hf i f r];refine⟨xs[i]'(by omega),List.getElem?_eq_getElem (by omega),fun q U=>hw q ?_⟩;rw[A]
    have e:DataW.weights P t (DataW.agg (xs.map (·.1)))=DataW.weightsEach P (B.toList.map (·.type)) (xs.map (·.1)):=by
     unfold DataW.weights;rw[hu]
    rw[e];exact Q3 i f.type (xs[i]'(by omega)).1 (by rw[List.getElem?_map,I];rfl) (by rw[List.getElem?_map,List.getElem?_eq_getElem (by omega)];rfl) U)
   exact this
  simp at h'
end Go.Abs
namespace Go.Abs
open Go.RowKit Go.ChangeShapes Go.WideShapes Go.Deep
def HL:List T->Type
 | []=>PUnit
 | t::ts=>el t×HL ts
def Lu:(ts:List T)->HL ts->List AV
 | [],_=>[]
 | t::ts,x=>PI t x.1::Lu ts x.2
def FM (P:Program):List T->List TypeId->Bool
 | [],[]=>true
 | τ::τs,t::ts=>(EF P 20 τ t&&(P.readableRec t&&decide (t<P.types.size)))&&FM P τs ts
 | _,_=>false
theorem HI {v:Value} {c:Value} (h:v.cells.toList=[c]) (a:v.oneCell'=true):v=c:=by
 rw[RY a] at h;simpa using h
theorem Ym {P:Program} {w:World} {I:Nat->Prop} {r:Reach} {b:Nat} {m:Nat}:∀{τ:T} {t:TypeId} {v:Value} {y:el τ},EF P (m+1) τ t=true->Value.okWide P w r b t v->rep w I τ y v.cells.toList->Au (CT w I) (PI τ y) v
 | .u8,t,v,y,h,f,d=>by
  obtain⟨n,rfl⟩:=okWide_int (FK h) f;exact .inr (HI d rfl)
 | .u32,t,v,y,h,f,d=>by
  obtain⟨n,rfl⟩:=okWide_int (FK h) f;exact .inr (HI d rfl)
 | .u64,t,v,y,h,f,d=>by
  obtain⟨n,rfl⟩:=okWide_int (FK h) f;exact .inr (HI d rfl)
 | .i8,t,v,y,h,f,d=>by
  obtain⟨n,rfl⟩:=okWide_int (FK h) f;exact .inr (HI d rfl)
 | .i64,t,v,y,h,f,d=>by
  obtain⟨n,rfl⟩:=okWide_int (FK h) f;exact .inr (HI d rfl)
 | .bool,t,v,y,h,f,d=>by
  have h':(match P.underlying t with | some .bool=>true | _=>false)=true:=h
  split at h'
  ·rename_i e
   obtain⟨n,rfl⟩:=okWide_bool e f;exact .inr (HI d rfl)
  simp at h'
 | .sl e,t,v,y,h,f,d=>by
  have h':(match P.underlying t with | some (.slice u)=>EF P m e u&&(P.cellsOf u==e.size&&decide (0<P.bytesOf u)) | _=>false)=true:=h
  split at h'
  ·rename_i u hu
   obtain⟨a,l,c,rfl⟩:=okWide_slice hu f;exact .inr d
  simp at h'
 | .pr a b',t,v,y,h,f,d=>by
  have h':(match P.underlying t with | some (.struct g)=>okF P (EF P m) (.pr a b') g.toList 0&&P.cellsOf t==a.size+b'.size | _=>false)=true:=h
  split at h'
  ·rename_i g hu
   obtain⟨cs,rfl,_⟩:=okWide_struct hu f;exact⟨cs,rfl,(FO (CT w I) _ _ _).1 d⟩
  simp at h'
theorem PE {H:Type} {enc:TypeId×Value->H} {P:Program} {w:World} {base:Nat}:∀(a:List T) (ts:List TypeId) (f:List Value) (c:List (DataW H)) (m:List MemPlace),FM P a ts=true->
  DataW.TrodAll enc P w 0 (fun _=>true) true ts f c m->(∀(j:Nat) t v,ts[j]? =some t->f[j]? =some v->Value.okWide P w .any base t v)->(∀k∈DataW.weightsEach P ts c,k<=reachBytes)->
   c.length=a.length/\∃xs:HL a,AO (Au (CT w fun b=>b<w.heap.size)) (Lu a xs) f
 | [],[],[],[],_,_,_,_,_=>⟨rfl,⟨⟩,trivial⟩
 | τ::a,t::ts,v::f,d::c,m,h,⟨p,q,r,s,_⟩,l,hw=>by
  have h':((EF P 20 τ t&&(P.readableRec t&&decide (t<P.types.size)))&&FM P a ts)=true:=h;simp only[Bool.and_eq_true] at h';obtain⟨e,xs,i⟩:=PE a ts f c q h'.2 s (fun j u x hu i=>l (j+1) u x hu i) (fun k g=>hw k (by rw[DataW.weightsEach];exact List.mem_append_right _ g));obtain⟨n,z⟩:=r;obtain⟨y,A⟩:=M8 20 τ t h'.1.1 n _ _ z (fun k g=>hw k (by rw[DataW.weightsEach];exact List.mem_append_left _ g));exact⟨by simp[e],(y,xs),Ym h'.1.1 (l 0 t v rfl rfl) A,i⟩
 |[],t::ts,_,_,_,h,_,_,_|_::_,[],_,_,_,h,_,_,_=>by simp[FM] at h
 |[],[],[],_::_,_,_,h,_,_|[],[],_::_,_,_,_,h,_,_|_::_,_::_,[],_,_,_,h,_,_|_::_,_::_,_::_,[],_,_,h,_,_=>h.elim
theorem PF {H:Type} {enc:TypeId×Value->H} {P:Program} (m:laidOutB P=true) {W l:World} (hb:Below W.heap.size W l):∀(a:List T) (ts:List TypeId) (i:List Value) (f:List (DataW H)) (g:List MemPlace),FM P a ts=true->
  DataW.TrodAll enc P W 0 (fun _=>true) true ts i f g->(∀p∈g,p.block<W.heap.size)->DataW.TrodAll enc P l 0 (fun b=>decide (b<W.heap.size)) true ts i f g
 | [],[],[],[],_,_,h,_=>h
 | τ::a,t::ts,v::i,d::f,g,h,⟨p,q,n,r,e⟩,c=>by
  have h':((EF P 20 τ t&&(P.readableRec t&&decide (t<P.types.size)))&&FM P a ts)=true:=h;simp only[Bool.and_eq_true,decide_eq_true_eq] at h';subst e;exact⟨p,q,Below.trod m h'.1.2.1 h'.1.2.2 n hb (fun x j=>c x (List.mem_append_left _ j)),PF m hb a ts i f q h'.2 r (fun x j=>c x (List.mem_append_right _ j)),rfl⟩
 |[],t::ts,_,_,_,h,_,_|_::_,[],_,_,_,h,_,_=>by simp[FM] at h
 |[],[],[],_::_,_,_,h,_|[],[],_::_,_,_,_,h,_|_::_,_::_,[],_,_,_,h,_|_::_,_::_,_::_,[],_,_,h,_=>h.elim
theorem ay {P:Program} {f:FuncId} {fn:Func} {s:ChangeSpec} {c:List T} {tb:TypeId} (K:laidOutB P=true) (l:FM P c fn.params.toList=true)
  (r:fn.resultTypes= #[tb]) (y:P.underlying tb=some .bool) (a:s.vars=[])
  (w:∀(H:Type) (d:List (DataW H)),d.length=c.length->s.fn H (d++[])={results:=[.lit (.bool true)],args:=d})
  (F:∀xs:HL c,EW P false f (Lu c xs) (.one (.bool true)))
  (H:Type) (enc:TypeId×Value->H) (W:World) (base:Nat) (args:Array Value) (d gs:List (DataW H)) (before:List MemPlace)
  (m:∀(j:Nat) t v,fn.params[j]? =some t->args[j]? =some v->Value.okWide P W .any base t v)
  (D:DataW.Whole enc P fn.params.toList s.vars false W args.toList d gs before)
  (hw:(DataW.weightsEach P (fn.params.toList++s.plain.varTypes P) (d++gs)).all (·<=reachBytes)=true):
  Calls P f args W fun e B=>∃v,e= .returned v/\s.post enc P fn false true false false W args v B:=by
 have i:=D;obtain⟨p,q,g,C,rfl,I,L⟩:=D;rw[a] at C;obtain⟨rfl,rfl⟩:=trodVars_none C
 have z:s.plain.varTypes P=[]:=by
  unfold DataSpec.varTypes ChangeSpec.plain;simp[a]
 rw[z,List.append_nil,List.append_nil,List.all_eq_true] at hw;obtain⟨hlen,xs,A⟩:=PE c fn.params.toList args.toList d p l g (fun j t v ht N=>m j t v (by rw[<-Array.getElem?_toList];exact ht) (by rw[<-Array.getElem?_toList];exact N)) (fun k J=>by simpa using hw k J);obtain⟨_,_,G⟩:=F xs;have n:∀x∈p,x.block<W.heap.size:=fun x A=>i.lt x (List.mem_append_left _ A)
 refine (G W (fun b=>b<W.heap.size) args.toList (fun _ h=>h) A).mono fun e B ⟨u,bo,he,hb,M⟩=>?_
 have hu:u= .bool true:=by
  rcases M with h | h
  ·cases h
  exact h
 subst hu;refine⟨_,he,d,[],p++[],[],p,[],i,?_,?_,?_,?_,fun h=>by cases h⟩
 ·rw[r,w H d hlen];exact trodAll_mk1 (shut_bool y true)
 ·rw[w H d hlen];exact PF K hb c _ _ d p l g n
 ·rw[a,w H d hlen]
  rfl
 exact hb.frame _
end Go.Abs
namespace Go.Abs
def AB:List UInt32->Nat
 | []=>0
 | x::l=>x.toNat+4294967296*AB l
def GH:Nat->Nat->List UInt32
 | 0,_=>[]
 | f+1,n=>if n=0 then [] else UInt32.ofNat n::GH f (n/4294967296)
def AJ (n:Nat):List UInt32:=GH n n
variable {k:Nat} {o:List UInt32}
theorem Mj:∀(f n:Nat),n<=f->GH f n=GH n n
 | 0,n,h=>by rw[show n=0 by omega]
 | f+1,n,h=>by
  cases n with
  | zero=>simp[GH]
  | succ n=>
   simp only[GH];rw[Mj f _ (by omega),Mj n _ (by omega)]
theorem ED:AJ 0=[]:=rfl
theorem Ik {n:Nat} (h:n≠0):AJ n=UInt32.ofNat n::AJ (n/4294967296):=by
 cases n with
 | zero=>exact (h rfl).elim
 | succ n=>
  show GH (n+1) (n+1)=_
  rw[GH,if_neg (by omega),Mj n _ (by omega)]
  rfl
theorem Af (n:Nat):AB (AJ n)=n:=by
 induction n using Nat.strongRecOn with
 | ind n a=>
  by_cases h:n=0
  ·subst h;rfl
  rw[Ik h,AB,a _ (by omega)];simp[UInt32.toNat_ofNat'];omega
theorem Cj (n:Nat):2^(32*(n+1))=4294967296*2^(32*n):=by
 rw[Nat.mul_add,Nat.pow_add,Nat.mul_comm]
theorem KT (a b:List UInt32):AB (a++b)=AB a+2^(32*a.length)*AB b:=by
 induction a with
 | nil=>simp[AB]
 | cons x a c=>
  rw[List.cons_append,AB,AB,c,List.length_cons,Cj]
  generalize 2^(32*a.length)=p
  grind
theorem Bk (l:List UInt32):AB l<2^(32*l.length):=by
 induction l with
 | nil=>simp[AB]
 | cons x l a=>
  rw[AB,List.length_cons,Cj]
  generalize 2^(32*l.length)=p at*
  have:=x.toNat_lt;omega
theorem EC {n:Nat} (h:n<2^(32*k)):(AJ n).length<=k:=by
 induction k generalizing n with
 | zero=>have:n=0:=by simpa using h
         subst this;simp[ED]
 | succ k b=>
  by_cases a:n=0
  ·subst a;simp[ED]
  rw[Ik a,List.length_cons];rw[Cj] at h;have:=b (n:=n/4294967296) (by omega);omega
theorem Qq {n:Nat} (h:2^(32*k)<=n):k+1<=(AJ n).length:=by
 have a:=Bk (AJ n);rw[Af] at a;have b:2^(32*k)<2^(32*(AJ n).length):=Nat.lt_of_le_of_lt h a;have:=(Nat.pow_lt_pow_iff_right (by decide:1<2)).1 b;omega
theorem Ip {a b:List UInt32} (c:a.length=b.length) (h:AB a=AB b):a=b:=by
 induction a generalizing b with
 | nil=>cases b with
  | nil=>rfl
  | cons _ _=>simp at c
 | cons x a g=>cases b with
  | nil=>simp at c
  | cons y b=>
   simp only[AB] at h;have i:=x.toNat_lt;have j:=y.toNat_lt;have d:x.toNat=y.toNat:=by omega
   have f:AB a=AB b:=by omega
   rw[UInt32.toNat_inj.1 d,g (by simpa using c) f]
theorem Mk {l:List UInt32} (h:l=[]\/2^(32*(l.length-1))<=AB l):AJ (AB l)=l:=by
 rcases h with rfl | h
 ·rfl
 apply Ip _ (Af _);have a:=EC (Bk l);have b:=Qq h;omega
theorem Cp {a b:Nat} (h:a<=b):(AJ a).length<=(AJ b).length:=by
 apply EC;have:=Bk (AJ b);rw[Af] at this;omega
theorem DX {n:Nat}:AJ n=[]↔n=0:=by
 constructor
 ·intro h;have:=Af n;rw[h] at this;exact this.symm
 rintro rfl;rfl
theorem Qw {n:Nat} (h:n≠0):2^(32*((AJ n).length-1))<=n:=by
 apply Classical.byContradiction;intro a;have:=EC (n:=n) (k:=(AJ n).length-1) (by omega);have:AJ n≠[]:=fun e=>h (DX.1 e)
 have:(AJ n).length≠0:=by simpa using this
 omega
theorem Cq (l:List UInt32) (x:UInt32):AB (l++[x])=AB l+2^(32*l.length)*x.toNat:=by
 rw[KT];simp[AB]
theorem Ba {l:List UInt32} {i:Nat} {x:UInt32} (h:l[i]? =some x):AB (l.take (i+1))=AB (l.take i)+2^(32*i)*x.toNat:=by
 have a:i<l.length:=by
  apply Classical.byContradiction;intro b;rw[List.getElem?_eq_none (by omega)] at h;exact absurd h (by simp)
 rw[List.take_succ_eq_append_getElem a,Cq];have:l[i]=x:=by simpa [List.getElem?_eq_getElem a] using h
 rw[this,List.length_take,Nat.min_eq_left (by omega)]
theorem D2 (l:List UInt32) (i:Nat) (h:i<=l.length):AB l=AB (l.take i)+2^(32*i)*AB (l.drop i):=by
 conv=>lhs;rw[<-List.take_append_drop i l,KT,List.length_take,Nat.min_eq_left h]
def BL:List UInt32->List UInt32
 | []=>[]
 | x::l=>match BL l with
  | []=>if x=0 then [] else [x]
  | y::r=>x::y::r
theorem Gy:∀(l:List UInt32),BL (l++[0])=BL l
 | []=>rfl
 | x::l=>by simp[BL,Gy l]
theorem Hy {x:UInt32} (a:x≠0):∀(l:List UInt32),BL (l++[x])=l++[x]
 | []=>by simp[BL,a]
 | y::l=>by
  rw[List.cons_append,BL,Hy a l];cases l <;> rfl
theorem I9 (l:List UInt32):BL l=AJ (AB l):=by
 induction l with
 | nil=>rfl
 | cons x l b=>
  rw[BL,b,AB];have c:=x.toNat_lt
  by_cases h:AB l=0
  ·rw[h,ED]
   by_cases a:x=0
   ·subst a;simp[ED]
   have:x.toNat≠0:=fun e=>a (UInt32.toNat_inj.1 e)
   rw[if_neg a,Ik (by omega),show (x.toNat+4294967296*0)/4294967296=0 by omega,ED];simp
  rw[Ik (n:=x.toNat+_) (by omega),show (x.toNat+4294967296*AB l)/4294967296=AB l by omega];rw[Ik h]
  show x::_=_
  congr 1
  apply UInt32.toNat_inj.1;rw[UInt32.toNat_ofNat'];omega
def GF:Nat->Nat->Nat
 | 0,_=>0
 | f+1,n=>if n=0 then 0 else
  let r:=2*GF f (n/4)
  if (r+1)*(r+1)<=n then r+1 else r
def Ar (n:Nat):Nat:=GF n n
theorem Mc:∀(f n:Nat),n<=f->GF f n*GF f n<=n/\n<(GF f n+1)*(GF f n+1)
 | 0,n,h=>by rw[show n=0 by omega];decide
 | f+1,n,h=>by
  rw[GF]
  by_cases a:n=0
  ·rw[if_pos a,a];decide
  rw[if_neg a];have:=Mc f (n/4) (by omega)
  generalize GF f (n/4)=r at*
  simp only;have b:(2*r)*(2*r)=4*(r*r):=by grind
  have c:(2*r+1+1)*(2*r+1+1)=4*((r+1)*(r+1)):=by grind
  split
  ·refine⟨by assumption,?_⟩;rw[c];omega
  refine⟨?_,by omega⟩;rw[b];omega
theorem Ie (n:Nat):Ar n*Ar n<=n:=(Mc n n (Nat.le_refl _)).1
theorem KM (n:Nat):n<(Ar n+1)*(Ar n+1):=(Mc n n (Nat.le_refl _)).2
theorem Qo {n r:Nat} (c:r*r<=n) (d:n<(r+1)*(r+1)):Ar n=r:=by
 have f:=Ie n;have g:=KM n
 generalize Ar n=s at*
 have a:s<r+1:=Nat.mul_self_lt_mul_self_iff.1 (by omega);have b:r<s+1:=Nat.mul_self_lt_mul_self_iff.1 (by omega);omega
theorem CR {l:List UInt32} {i:Nat} (h:l.length<=i):AB (l.take i)=AB l:=by rw[List.take_of_length_le h]
theorem Jf {A B c xi yi i s:Nat} {w:UInt32} (a:o.length=i) (h:AB o+2^(32*i)*c=A+B) (b:s=c+xi+yi) (hw:w.toNat=s%4294967296):
  AB (o++[w])+2^(32*(i+1))*(s/4294967296)=(A+2^(32*i)*xi)+(B+2^(32*i)*yi):=by
 rw[Cq,Cj,a,hw]
 generalize 2^(32*i)=P at*
 have:s%4294967296+4294967296*(s/4294967296)=s:=by omega
 have e:P*(s%4294967296)+4294967296*P*(s/4294967296)=P*s:=by rw[<-this];grind
 subst b
 grind
theorem L0 {w:UInt32} (hw:w.toNat≠0):AJ (AB (o++[w]))=o++[w]:=by
 apply Mk
 right
 rw[Cq,List.length_append];have:2^(32*o.length)*1<=2^(32*o.length)*w.toNat:=Nat.mul_le_mul_left _ (by omega);simp;omega
theorem Pe {p q:Nat} (h:AB o=p+q) (a:o.length=(AJ p).length):o=AJ (p+q):=by
 rw[<-h];refine (Mk ?_).symm
 by_cases b:p=0
 ·left
  subst b;simpa [ED] using a
 right
 have:=Qw b;rw[a];omega
theorem Fl (n:Nat):AB (List.replicate n 0)=0:=by
 induction n with
 | zero=>rfl
 | succ n a=>rw[List.replicate_succ,AB,a];rfl
theorem Nn:∀(l:List UInt32),l.take (BL l).length=BL l
 | []=>rfl
 | x::l=>by
  have b:=Nn l;rw[BL];cases h:BL l with
  | nil=>
   by_cases a:x=0
   ·simp[a]
   simp[a]
  | cons y r=>
   rw[h] at b;simpa using b
theorem Nl (l:List UInt32):(BL l).length<=l.length:=by
 rw[<-Nn,List.length_take];omega
theorem C2 {l:List UInt32} {n m:Nat} (c:n<=l.length) (hm:m=(BL (l.take n)).length):m<=n/\l.take m=AJ (AB (l.take n)):=by
 have b:=Nl (l.take n);rw[List.length_take] at b;have a:=Nn (l.take n);rw[<-hm,List.take_take,Nat.min_eq_left (by omega)] at a;exact⟨by omega,by rw[a,I9]⟩
end Go.Abs
