/- Part 13 of a proof. Conditions: each theorem's own. -/
import Derived.Deep.Slices
import Derived.ProofKit
import Derived.Test.YtfilemenbchajaaGreatPk11
set_option linter.all false
set_option maxHeartbeats 8000000
set_option maxRecDepth 20000
open Go.Proofs
namespace Go.Abs
abbrev LR:=List (el AA)
abbrev CF:=FB Tryz.prog false
theorem cL {E:Env} {b:Bool} {g:FuncId} {args:List AV} {r:AV} {L:List AV->Prop} {K:AV->Prop} {X:Prop} (c:env Tryz.prog=E) (h:FB Tryz.prog b g args r) (f:L args) (d:K r):
 (∃(a:List AV) (r:AV),(Unit->L a)/\(Unit->E.C b g a r)/\K r)\/X:= .inl ⟨args,r,fun _=>f,fun _=>Fu c h,d⟩
theorem fA {A B C:Prop} (h:A) (hb:B) (a:C):(Unit->A/\B/\C)/\True:=⟨fun _=>⟨h,hb,a⟩,trivial⟩
theorem i64 {c:Int} (h: -9223372036854775808<=c/\c<9223372036854775808):Hz c:=h
theorem g2 {P:Sort _} {A C:Prop} (a:A) (h:C):(P->A)/\C:=⟨fun _=>a,h⟩
theorem g1 {P:Sort _} {C:Prop} {x:Int} (a: -9223372036854775808<=x/\x<9223372036854775808) (h:C):(P->Hz x)/\C:=⟨fun _=>i64 a,h⟩
theorem t1 {α:Sort _} {a:α}:a=a/\True:=⟨rfl,trivial⟩
theorem t2 {α β:Sort _} {a:α} {b:β}:a=a/\b=b/\True:=⟨rfl,t1⟩
theorem t3 {α β γ:Sort _} {a:α} {b:β} {c:γ}:a=a/\b=b/\c=c/\True:=⟨rfl,t2⟩
theorem t4 {α β γ δ:Sort _} {a:α} {b:β} {c:γ} {d:δ}:a=a/\b=b/\c=c/\d=d/\True:=⟨rfl,t3⟩
theorem xR (a:LR):∃z:LR,z=a:=⟨_,rfl⟩
theorem xV (a:List LR):∃z:List LR,z=a:=⟨_,rfl⟩
theorem xN (a:Nat):∃z:Nat,z=a:=⟨_,rfl⟩
theorem xI (a:Int):∃z:Int,z=a:=⟨_,rfl⟩
theorem xB (a:Bool):∃z:Bool,z=a:=⟨_,rfl⟩
theorem xU (a:List UInt32):∃z:List UInt32,z=a:=⟨_,rfl⟩
theorem xJ (a:List AV->List AM->Nat->Prop):∃J:List AV->List AM->Nat->Prop,J=a:=⟨_,rfl⟩
theorem xK (a:List AV->List AM->Prop):∃J:List AV->List AM->Prop,J=a:=⟨_,rfl⟩
end Go.Abs
namespace Go.Abs
open Go.RowKit Go.ChangeShapes Go.WideShapes Go.Deep
def H2 (P:Program) (k:IntKind) (t:TypeId):Bool:=match P.underlying t with | some (.int j)=>decide (j=k) | _=>false
def okF (P:Program) (ok:T->TypeId->Bool):T->List Field->Nat->Bool
 | _,[],_=>false
 | t,[f],o=>f.offset==o&&(P.cellsOf f.type==t.size&&ok t f.type)
 | .pr a b,f::fs,o=>(f.offset==o&&(P.cellsOf f.type==a.size&&ok a f.type))&&okF P ok b fs (o+a.size)
 | _,_,_=>false
def E6 (P:Program):Nat->T->TypeId->Bool
 | 0,_,_=>false
 | n+1,τ,t=>match τ with
  | .u8=>H2 P .u8 t
  | .u32=>H2 P .u32 t
  | .u64=>H2 P .u64 t
  | .i8=>H2 P .i8 t
  | .i64=>H2 P .i64 t
  | .bool=>match P.underlying t with | some .bool=>true | _=>false
  | .sl e=>match P.underlying t with | some (.slice u)=>E6 P n e u&&(P.cellsOf u==e.size&&decide (0<P.bytesOf u)) | _=>false
  | .pr a b=>match P.underlying t with | some (.struct fs)=>okF P (E6 P n) (.pr a b) fs.toList 0&&P.cellsOf t==a.size+b.size | _=>false
theorem GD {P:Program} {k:IntKind} {t:TypeId} (h:H2 P k t=true):P.underlying t=some (.int k):=by
 unfold H2 at h
 split at h
 ·rename_i j e;rw[e,of_decide_eq_true h]
 simp at h
theorem P8 {k:IntKind} {n:Int} (h:(Lit.int k n).wf=true):k.min<=n/\n<=k.max:=by
 simpa [Lit.wf] using h
theorem UO {H:Type} {enc:TypeId×Value->H} {P:Program} {w:World} {base:Nat} {sp:Nat->Bool} {l:Bool} {n:Nat} {cs:List Value} {ok:T->TypeId->Bool}
  (c:∀(T:T) (t:TypeId) (cs:List Value) (x:DataW H×List MemPlace),ok T t=true->DataW.trod enc P w base sp l n t cs=some x->(∀k∈x.1.weights P t,k<=reachBytes)->∃y:el T,rep w (fun b=>b<w.heap.size) T y cs):
  ∀(T:T) (fs:List Field) (o:Nat),okF P ok T fs o=true->cs.length=o+T.size->
   (∀(i:Nat) (f:Field),fs[i]? =some f->∃x,DataW.trod enc P w base sp l n f.type ((cs.drop f.offset).take (P.cellsOf f.type))=some x/\∀k∈x.1.weights P f.type,k<=reachBytes)->∃y:el T,rep w (fun b=>b<w.heap.size) T y (cs.drop o)
 | T,[],o,h,_,_=>by cases T <;> simp[okF] at h
 | T,[f],o,h,r,d=>by
  have h':(f.offset==o&&(P.cellsOf f.type==T.size&&ok T f.type))=true:=by cases T <;> exact h
  simp only[Bool.and_eq_true,beq_iff_eq] at h';obtain⟨x,d,hw⟩:=d 0 f rfl;rw[h'.1,h'.2.1,List.take_of_length_le (by rw[List.length_drop];omega)] at d;exact c T _ _ _ h'.2.2 d hw
 | .pr a b,f::g::fs,o,h,r,d=>by
  have h':((f.offset==o&&(P.cellsOf f.type==a.size&&ok a f.type))&&okF P ok b (g::fs) (o+a.size))=true:=h;simp only[Bool.and_eq_true,beq_iff_eq] at h';have s:(T.pr a b).size=a.size+b.size:=rfl;obtain⟨x,j,hw⟩:=d 0 f rfl;rw[h'.1.1,h'.1.2.1] at j;obtain⟨y1,m⟩:=c a _ _ _ h'.1.2.2 j hw;obtain⟨y2,p⟩:=UO c b (g::fs) (o+a.size) h'.2 (by omega) (fun i f q=>d (i+1) f q);refine⟨(y1,y2),_,_,?_,m,p⟩;rw[<-List.drop_drop,List.take_append_drop]
 |.u8,f::g::fs,o,h,_,_|.u32,f::g::fs,o,h,_,_|.u64,f::g::fs,o,h,_,_|.i8,f::g::fs,o,h,_,_|.i64,f::g::fs,o,h,_,_|.bool,f::g::fs,o,h,_,_|.sl _,f::g::fs,o,h,_,_=>by simp[okF] at h
theorem Vv {w:World} {a:Addr} {v:Value} (h:w.cell? a=some v):a.spot=none/\a.block<w.heap.size:=by
 unfold World.cell? at h
 split at h
 ·rename_i c e l b
  refine⟨?_,(Array.getElem?_eq_some_iff.1 b).1⟩;cases d:a.spot with
  | none=>rfl
  | some x=>simp[d] at h
 simp at h
theorem LG {a:Addr} (h:a.spot=none) (i:Nat):a.add i=⟨a.block,a.off+i,none⟩:=by
 unfold Addr.add;cases a;simp only at h;subst h
 split <;> simp_all
theorem TX {α:Type} {p:Nat->α->Prop}:∀(n:Nat),(∀i,i<n->∃x,p i x)->∃l:List α,l.length=n/\∀i x,l[i]? =some x->p i x
 | 0,_=>⟨[],rfl,fun i x h=>by simp at h⟩
 | n+1,h=>by
  obtain⟨l,b,f⟩:=TX n fun i c=>h i (by omega)
  obtain⟨x,g⟩:=h n (by omega);refine⟨l++[x],by simp[b],fun i y a=>?_⟩
  by_cases c:i<n
  ·rw[List.getElem?_append_left (by omega)] at a;exact f i y a
  rw[List.getElem?_append_right (by omega)] at a
  have:i=n:=by
   apply Classical.byContradiction;intro d;rw[List.getElem?_eq_none (by simp;omega)] at a;simp at a
  subst this;rw[b,Nat.sub_self] at a;simp at a;subst a;exact g
theorem Tk {H:Type} {P:Program} {e:TypeId} {d:DataW H} {q:Nat}:∀{l:List (DataW H)},d∈l->q∈d.weights P e->q∈DataW.weightsAll P e l
 | [],h,_=>by simp at h
 | a::l,h,b=>by
  rw[DataW.weightsAll,List.mem_append];rcases List.mem_cons.1 h with rfl | h
  ·exact .inl b
  exact .inr (Tk h b)
theorem Tl {H:Type} {P:Program} {q:Nat}:∀{ts:List TypeId} {l:List (DataW H)} (i:Nat) (t:TypeId) (d:DataW H),ts[i]? =some t->l[i]? =some d->q∈d.weights P t->q∈DataW.weightsEach P ts l
 |[],_,i,t,d,h,_,_|_::_,[],i,t,d,_,h,_=>by simp at h
 | u::ts,a::l,0,t,d,h,h',b=>by
  rw[DataW.weightsEach,List.mem_append];simp at h h';subst h;subst h';exact .inl b
 | u::ts,a::l,i+1,t,d,h,h',b=>by
  rw[DataW.weightsEach,List.mem_append];exact .inr (Tl i t d h h' b)
theorem O5 {H:Type} {enc:TypeId×Value->H} {P:Program} {w:World} {base:Nat} {sp:Nat->Bool} {hd:Bool}:
  ∀(m:Nat) (T:T) (t:TypeId),E6 P m T t=true->∀(n:Nat) (cs:List Value) (x:DataW H×List MemPlace),DataW.trod enc P w base sp hd n t cs=some x->(∀k∈x.1.weights P t,k<=reachBytes)->
   ∃y:el T,rep w (fun b=>b<w.heap.size) T y cs
 | 0,_,_,h,_,_,_,_,_=>by simp[E6] at h
 | m+1,.u8,t,h,n,cs,x,c,hw=>by
  obtain⟨v,rfl,rfl,d⟩:=DataW.trod_int (GD h) c;have hb:(0:Int)<=v/\v<=255:=P8 d;refine⟨UInt8.ofNat v.toNat,?_⟩
  show [Value.int .u8 v]=[Value.int .u8 _]
  rw[UInt8.toNat_ofNat'];congr 2;omega
 | m+1,.u32,t,h,n,cs,x,c,hw=>by
  obtain⟨v,rfl,rfl,d⟩:=DataW.trod_int (GD h) c;have hb:(0:Int)<=v/\v<=4294967295:=P8 d;refine⟨UInt32.ofNat v.toNat,?_⟩
  show [Value.int .u32 v]=[Value.int .u32 _]
  rw[UInt32.toNat_ofNat'];congr 2;omega
 | m+1,.u64,t,h,n,cs,x,c,hw=>by
  obtain⟨v,rfl,rfl,d⟩:=DataW.trod_int (GD h) c;have hb:(0:Int)<=v/\v<=18446744073709551615:=P8 d;refine⟨UInt64.ofNat v.toNat,?_⟩
  show [Value.int .u64 v]=[Value.int .u64 _]
  rw[UInt64.toNat_ofNat'];congr 2;omega
 | m+1,.i8,t,h,n,cs,x,c,hw=>by
  obtain⟨v,rfl,rfl,d⟩:=DataW.trod_int (GD h) c;exact⟨v,rfl⟩
 | m+1,.i64,t,h,n,cs,x,c,hw=>by
  obtain⟨v,rfl,rfl,d⟩:=DataW.trod_int (GD h) c;exact⟨v,rfl⟩
 | m+1,.bool,t,h,n,cs,x,c,hw=>by
  have h':(match P.underlying t with | some .bool=>true | _=>false)=true:=h
  split at h'
  ·rename_i e
   obtain⟨v,rfl,rfl⟩:=DataW.trod_bool e c;exact⟨v,rfl⟩
  simp at h'
 | m+1,.sl e,t,h,n,cs,x,c,hw=>by
  have h':(match P.underlying t with | some (.slice u)=>E6 P m e u&&(P.cellsOf u==e.size&&decide (0<P.bytesOf u)) | _=>false)=true:=h
  split at h'
  ·rename_i u hu
   simp only[Bool.and_eq_true,beq_iff_eq,decide_eq_true_eq] at h';rcases open_slice hu c with⟨rfl,rfl⟩ |⟨a,len,cap,k,j,D,Pl,rfl,hb,Q,Z,hk,A,J⟩
   ·exact⟨[],none,0,rfl,Nat.le_refl _,Nat.zero_le _,.inl rfl⟩
   have a2:len<=k:=by rw[hk];split <;> omega
   rw[h'.2.1] at J;rw[A] at hw
   have I:DataW.weights P t (DataW.slice ((List.range len).map D) ((List.range (k-len)).map fun j=>D (len+j)))=(((List.range len).map D).length+((List.range (k-len)).map fun j=>D (len+j)).length)*P.bytesOf u::(DataW.weightsAll P u ((List.range len).map D)++DataW.weightsAll P u ((List.range (k-len)).map fun j=>D (len+j))):=by
    unfold DataW.weights;rw[hu]
   have G:len<=140737488355328:=by
    have:=hw _ (by rw[I];exact List.mem_cons_self);simp only[List.length_map,List.length_range] at this;have h3:len<=(len+(k-len))*P.bytesOf u:=Nat.le_trans (Nat.le_add_right _ _) (Nat.le_mul_of_pos_right _ h'.2.2);have h4:reachBytes<=140737488355328:=by decide
    omega
   have U:=T.size_pos e
   have K:0<len->a.spot=none:=fun B=>by
    obtain⟨us,L,ht⟩:=J 0 (by omega);obtain⟨_,hlen,g⟩:=World.cells?_some L;have B:=g 0 U;rw[List.getElem?_eq_getElem (by omega),Nat.zero_mul] at B;have C:=(Vv B).1;unfold Addr.add at C;simpa using C
   obtain⟨l,hl,S⟩:=TX (α:=el e) (p:=fun i y=>∃us,rep w (fun b=>b<w.heap.size) e y us/\a.spot=none/\a.block<w.heap.size/\w.rangeAt a.block (a.off+i*e.size) us) len (fun i N=>by
    obtain⟨us,L,ht⟩:=J i (by omega);obtain⟨y,hy⟩:=O5 m e u h'.1 _ _ _ ht (fun q R=>hw q (by rw[I];exact List.mem_cons_of_mem _ (List.mem_append_left _ (Tk (List.mem_map.2 ⟨i,List.mem_range.2 N,rfl⟩) R))));obtain⟨_,hlen,g⟩:=World.cells?_some L;have B:=g 0 U;rw[List.getElem?_eq_getElem (by omega)] at B;have C:=Vv B;have ha:a.spot=none:=K (by omega)
    have s:a.block<w.heap.size:=by
     have:=C.2;rw[LG ha,LG rfl] at this;exact this
    refine⟨y,us,hy,ha,s,fun j v O=>?_⟩
    have a1:j<us.length:=by
     apply Classical.byContradiction;intro hn;rw[List.getElem?_eq_none (by omega)] at O;simp at O
    have:=g j (by omega);rw[LG ha,LG rfl] at this;rw[this];exact O)
   subst hl;refine⟨l,some a,cap,rfl,Q,G,?_⟩;cases l with
   | nil=>exact .inl rfl
   | cons y l=>
    right
    obtain⟨_,_,ha,s,_⟩:=S 0 y rfl;obtain⟨V,W,X⟩:=a;simp only at ha;subst ha;exact⟨V,W,rfl,s,fun i z hz=>by obtain⟨us,C,_,_,Y⟩:=S i z hz;exact⟨us,C,Y⟩⟩
  simp at h'
 | m+1,.pr a b,t,h,n,cs,x,c,hw=>by
  have h':(match P.underlying t with | some (.struct fs)=>okF P (E6 P m) (.pr a b) fs.toList 0&&P.cellsOf t==a.size+b.size | _=>false)=true:=h
  split at h'
  ·rename_i fs hu
   simp only[Bool.and_eq_true,beq_iff_eq] at h';obtain⟨xs,n',_,A,M,a5,hf⟩:=DataW.trod_struct hu c
   have:=UO (w:=w) (n:=n') (cs:=cs) (ok:=E6 P m) (fun T t cs x ho c hw=>O5 m T t ho n' cs x c hw) (.pr a b) fs.toList 0 h'.1 (by rw[M,h'.2,Nat.zero_add];rfl) (fun i f F=>by
    have r:fs[i]? =some f:=by rw[<-Array.getElem?_toList];exact F
    have J:i<fs.size:=(Array.getElem?_eq_some_iff.1 r).1;rw[hf i f r];refine⟨xs[i]'(by omega),List.getElem?_eq_getElem (by omega),fun q R=>hw q ?_⟩;rw[A]
    have e:DataW.weights P t (DataW.agg (xs.map (·.1)))=DataW.weightsEach P (fs.toList.map (·.type)) (xs.map (·.1)):=by
     unfold DataW.weights;rw[hu]
    rw[e];exact Tl i f.type (xs[i]'(by omega)).1 (by rw[List.getElem?_map,F];rfl) (by rw[List.getElem?_map,List.getElem?_eq_getElem (by omega)];rfl) R)
   exact this
  simp at h'
end Go.Abs
namespace Go.Abs
open Go.RowKit Go.ChangeShapes Go.WideShapes Go.Deep
def HL:List T->Type
 | []=>PUnit
 | t::ts=>el t×HL ts
def Nj:(ts:List T)->HL ts->List AV
 | [],_=>[]
 | t::ts,x=>RW t x.1::Nj ts x.2
def GJ (P:Program):List T->List TypeId->Bool
 | [],[]=>true
 | τ::τs,t::ts=>(E6 P 20 τ t&&(P.readableRec t&&decide (t<P.types.size)))&&GJ P τs ts
 | _,_=>false
theorem Ic {v:Value} {c:Value} (h:v.cells.toList=[c]) (a:v.oneCell'=true):v=c:=by
 rw[UQ a] at h;simpa using h
theorem dw {P:Program} {w:World} {I:Nat->Prop} {r:Reach} {b:Nat} {m:Nat}:∀{τ:T} {t:TypeId} {v:Value} {y:el τ},E6 P (m+1) τ t=true->Value.okWide P w r b t v->rep w I τ y v.cells.toList->BQ (C7 w I) (RW τ y) v
 | .u8,t,v,y,h,f,d=>by
  obtain⟨n,rfl⟩:=okWide_int (GD h) f;exact .inr (Ic d rfl)
 | .u32,t,v,y,h,f,d=>by
  obtain⟨n,rfl⟩:=okWide_int (GD h) f;exact .inr (Ic d rfl)
 | .u64,t,v,y,h,f,d=>by
  obtain⟨n,rfl⟩:=okWide_int (GD h) f;exact .inr (Ic d rfl)
 | .i8,t,v,y,h,f,d=>by
  obtain⟨n,rfl⟩:=okWide_int (GD h) f;exact .inr (Ic d rfl)
 | .i64,t,v,y,h,f,d=>by
  obtain⟨n,rfl⟩:=okWide_int (GD h) f;exact .inr (Ic d rfl)
 | .bool,t,v,y,h,f,d=>by
  have h':(match P.underlying t with | some .bool=>true | _=>false)=true:=h
  split at h'
  ·rename_i e
   obtain⟨n,rfl⟩:=okWide_bool e f;exact .inr (Ic d rfl)
  simp at h'
 | .sl e,t,v,y,h,f,d=>by
  have h':(match P.underlying t with | some (.slice u)=>E6 P m e u&&(P.cellsOf u==e.size&&decide (0<P.bytesOf u)) | _=>false)=true:=h
  split at h'
  ·rename_i u hu
   obtain⟨a,l,c,rfl⟩:=okWide_slice hu f;exact .inr d
  simp at h'
 | .pr a b',t,v,y,h,f,d=>by
  have h':(match P.underlying t with | some (.struct fs)=>okF P (E6 P m) (.pr a b') fs.toList 0&&P.cellsOf t==a.size+b'.size | _=>false)=true:=h
  split at h'
  ·rename_i fs hu
   obtain⟨cs,rfl,_⟩:=okWide_struct hu f;exact⟨cs,rfl,(GM (C7 w I) _ _ _).1 d⟩
  simp at h'
theorem RQ {H:Type} {enc:TypeId×Value->H} {P:Program} {w:World} {base:Nat}:∀(a:List T) (ts:List TypeId) (vs:List Value) (c:List (DataW H)) (l:List MemPlace),GJ P a ts=true->
  DataW.TrodAll enc P w 0 (fun _=>true) true ts vs c l->(∀(j:Nat) t v,ts[j]? =some t->vs[j]? =some v->Value.okWide P w .any base t v)->(∀k∈DataW.weightsEach P ts c,k<=reachBytes)->
   c.length=a.length/\∃xs:HL a,AY (BQ (C7 w fun b=>b<w.heap.size)) (Nj a xs) vs
 | [],[],[],[],_,_,_,_,_=>⟨rfl,⟨⟩,trivial⟩
 | τ::a,t::ts,v::vs,d::c,l,h,⟨p,q,m,r,_⟩,i,hw=>by
  have h':((E6 P 20 τ t&&(P.readableRec t&&decide (t<P.types.size)))&&GJ P a ts)=true:=h;simp only[Bool.and_eq_true] at h';obtain⟨e,xs,g⟩:=RQ a ts vs c q h'.2 r (fun j u x hu g=>i (j+1) u x hu g) (fun k f=>hw k (by rw[DataW.weightsEach];exact List.mem_append_right _ f));obtain⟨n,s⟩:=m;obtain⟨y,z⟩:=O5 20 τ t h'.1.1 n _ _ s (fun k f=>hw k (by rw[DataW.weightsEach];exact List.mem_append_left _ f));exact⟨by simp[e],(y,xs),dw h'.1.1 (i 0 t v rfl rfl) z,g⟩
 |[],t::ts,_,_,_,h,_,_,_|_::_,[],_,_,_,h,_,_,_=>by simp[GJ] at h
 |[],[],[],_::_,_,_,h,_,_|[],[],_::_,_,_,_,h,_,_|_::_,_::_,[],_,_,_,h,_,_|_::_,_::_,_::_,[],_,_,h,_,_=>h.elim
theorem RT {H:Type} {enc:TypeId×Value->H} {P:Program} (l:laidOutB P=true) {W j:World} (hb:Below W.heap.size W j):∀(a:List T) (ts:List TypeId) (vs:List Value) (f:List (DataW H)) (g:List MemPlace),GJ P a ts=true->
  DataW.TrodAll enc P W 0 (fun _=>true) true ts vs f g->(∀p∈g,p.block<W.heap.size)->DataW.TrodAll enc P j 0 (fun b=>decide (b<W.heap.size)) true ts vs f g
 | [],[],[],[],_,_,h,_=>h
 | τ::a,t::ts,v::vs,d::f,g,h,⟨p,q,m,n,e⟩,c=>by
  have h':((E6 P 20 τ t&&(P.readableRec t&&decide (t<P.types.size)))&&GJ P a ts)=true:=h;simp only[Bool.and_eq_true,decide_eq_true_eq] at h';subst e;exact⟨p,q,Below.trod l h'.1.2.1 h'.1.2.2 m hb (fun x i=>c x (List.mem_append_left _ i)),RT l hb a ts vs f q h'.2 n (fun x i=>c x (List.mem_append_right _ i)),rfl⟩
 |[],t::ts,_,_,_,h,_,_|_::_,[],_,_,_,h,_,_=>by simp[GJ] at h
 |[],[],[],_::_,_,_,h,_|[],[],_::_,_,_,_,h,_|_::_,_::_,[],_,_,_,h,_|_::_,_::_,_::_,[],_,_,h,_=>h.elim
theorem iN {P:Program} {f:FuncId} {fn:Func} {s:ChangeSpec} {c:List T} {tb:TypeId} (J:laidOutB P=true) (l:GJ P c fn.params.toList=true)
  (r:fn.resultTypes= #[tb]) (y:P.underlying tb=some .bool) (a:s.vars=[])
  (w:∀(H:Type) (d:List (DataW H)),d.length=c.length->s.fn H (d++[])={results:=[.lit (.bool true)],args:=d})
  (D:∀xs:HL c,FB P false f (Nj c xs) (.one (.bool true)))
  (H:Type) (enc:TypeId×Value->H) (W:World) (base:Nat) (args:Array Value) (d gs:List (DataW H)) (before:List MemPlace)
  (m:∀(j:Nat) t v,fn.params[j]? =some t->args[j]? =some v->Value.okWide P W .any base t v)
  (C:DataW.Whole enc P fn.params.toList s.vars false W args.toList d gs before)
  (hw:(DataW.weightsEach P (fn.params.toList++s.plain.varTypes P) (d++gs)).all (·<=reachBytes)=true):
  Calls P f args W fun e B=>∃v,e= .returned v/\s.post enc P fn false true false false W args v B:=by
 have i:=C;obtain⟨p,q,g,hV,rfl,G,K⟩:=C;rw[a] at hV;obtain⟨rfl,rfl⟩:=trodVars_none hV
 have z:s.plain.varTypes P=[]:=by
  unfold DataSpec.varTypes ChangeSpec.plain;simp[a]
 rw[z,List.append_nil,List.append_nil,List.all_eq_true] at hw;obtain⟨hlen,xs,A⟩:=RQ c fn.params.toList args.toList d p l g (fun j t v ht M=>m j t v (by rw[<-Array.getElem?_toList];exact ht) (by rw[<-Array.getElem?_toList];exact M)) (fun k I=>by simpa using hw k I);obtain⟨_,_,F⟩:=D xs;have n:∀x∈p,x.block<W.heap.size:=fun x A=>i.lt x (List.mem_append_left _ A)
 refine (F W (fun b=>b<W.heap.size) args.toList (fun _ h=>h) A).mono fun e B ⟨u,bo,he,hb,L⟩=>?_
 have hu:u= .bool true:=by
  rcases L with h | h
  ·cases h
  exact h
 subst hu;refine⟨_,he,d,[],p++[],[],p,[],i,?_,?_,?_,?_,fun h=>by cases h⟩
 ·rw[r,w H d hlen];exact trodAll_mk1 (shut_bool y true)
 ·rw[w H d hlen];exact RT J hb c _ _ d p l g n
 ·rw[a,w H d hlen]
  rfl
 exact hb.frame _
end Go.Abs
namespace Go.Abs
def AB:List UInt32->Nat
 | []=>0
 | x::l=>x.toNat+4294967296*AB l
def HI:Nat->Nat->List UInt32
 | 0,_=>[]
 | f+1,n=>if n=0 then [] else UInt32.ofNat n::HI f (n/4294967296)
def AR (n:Nat):List UInt32:=HI n n
variable {k:Nat} {o:List UInt32}
theorem Oa:∀(f n:Nat),n<=f->HI f n=HI n n
 | 0,n,h=>by rw[show n=0 by omega]
 | f+1,n,h=>by
  cases n with
  | zero=>simp[HI]
  | succ n=>
   simp only[HI];rw[Oa f _ (by omega),Oa n _ (by omega)]
theorem E3:AR 0=[]:=rfl
theorem KB {n:Nat} (h:n≠0):AR n=UInt32.ofNat n::AR (n/4294967296):=by
 cases n with
 | zero=>exact (h rfl).elim
 | succ n=>
  show HI (n+1) (n+1)=_
  rw[HI,if_neg (by omega),Oa n _ (by omega)]
  rfl
theorem BB (n:Nat):AB (AR n)=n:=by
 induction n using Nat.strongRecOn with
 | ind n a=>
  by_cases h:n=0
  ·subst h;rfl
  rw[KB h,AB,a _ (by omega)];simp[UInt32.toNat_ofNat'];omega
theorem DR (n:Nat):2^(32*(n+1))=4294967296*2^(32*n):=by
 rw[Nat.mul_add,Nat.pow_add,Nat.mul_comm]
theorem ML (a b:List UInt32):AB (a++b)=AB a+2^(32*a.length)*AB b:=by
 induction a with
 | nil=>simp[AB]
 | cons x a c=>
  rw[List.cons_append,AB,AB,c,List.length_cons,DR]
  generalize 2^(32*a.length)=p
  grind
theorem CL (l:List UInt32):AB l<2^(32*l.length):=by
 induction l with
 | nil=>simp[AB]
 | cons x l a=>
  rw[AB,List.length_cons,DR]
  generalize 2^(32*l.length)=p at*
  have:=x.toNat_lt;omega
theorem E2 {n:Nat} (h:n<2^(32*k)):(AR n).length<=k:=by
 induction k generalizing n with
 | zero=>have:n=0:=by simpa using h
         subst this;simp[E3]
 | succ k b=>
  by_cases a:n=0
  ·subst a;simp[E3]
  rw[KB a,List.length_cons];rw[DR] at h;have:=b (n:=n/4294967296) (by omega);omega
theorem TN {n:Nat} (h:2^(32*k)<=n):k+1<=(AR n).length:=by
 have a:=CL (AR n);rw[BB] at a;have b:2^(32*k)<2^(32*(AR n).length):=Nat.lt_of_le_of_lt h a;have:=(Nat.pow_lt_pow_iff_right (by decide:1<2)).1 b;omega
theorem KI {a b:List UInt32} (c:a.length=b.length) (h:AB a=AB b):a=b:=by
 induction a generalizing b with
 | nil=>cases b with
  | nil=>rfl
  | cons _ _=>simp at c
 | cons x a g=>cases b with
  | nil=>simp at c
  | cons y b=>
   simp only[AB] at h;have i:=x.toNat_lt;have j:=y.toNat_lt;have d:x.toNat=y.toNat:=by omega
   have f:AB a=AB b:=by omega
   rw[UInt32.toNat_inj.1 d,g (by simpa using c) f]
theorem Ob {l:List UInt32} (h:l=[]\/2^(32*(l.length-1))<=AB l):AR (AB l)=l:=by
 rcases h with rfl | h
 ·rfl
 apply KI _ (BB _);have a:=E2 (CL l);have b:=TN h;omega
theorem DW {a b:Nat} (h:a<=b):(AR a).length<=(AR b).length:=by
 apply E2;have:=CL (AR b);rw[BB] at this;omega
theorem EL {n:Nat}:AR n=[]↔n=0:=by
 constructor
 ·intro h;have:=BB n;rw[h] at this;exact this.symm
 rintro rfl;rfl
theorem TV {n:Nat} (h:n≠0):2^(32*((AR n).length-1))<=n:=by
 apply Classical.byContradiction;intro a;have:=E2 (n:=n) (k:=(AR n).length-1) (by omega);have:AR n≠[]:=fun e=>h (EL.1 e)
 have:(AR n).length≠0:=by simpa using this
 omega
theorem DX (l:List UInt32) (x:UInt32):AB (l++[x])=AB l+2^(32*l.length)*x.toNat:=by
 rw[ML];simp[AB]
theorem B6 {l:List UInt32} {i:Nat} {x:UInt32} (h:l[i]? =some x):AB (l.take (i+1))=AB (l.take i)+2^(32*i)*x.toNat:=by
 have a:i<l.length:=by
  apply Classical.byContradiction;intro b;rw[List.getElem?_eq_none (by omega)] at h;exact absurd h (by simp)
 rw[List.take_succ_eq_append_getElem a,DX];have:l[i]=x:=by simpa [List.getElem?_eq_getElem a] using h
 rw[this,List.length_take,Nat.min_eq_left (by omega)]
theorem Es (l:List UInt32) (i:Nat) (h:i<=l.length):AB l=AB (l.take i)+2^(32*i)*AB (l.drop i):=by
 conv=>lhs;rw[<-List.take_append_drop i l,ML,List.length_take,Nat.min_eq_left h]
def Bk:List UInt32->List UInt32
 | []=>[]
 | x::l=>match Bk l with
  | []=>if x=0 then [] else [x]
  | y::r=>x::y::r
theorem IF:∀(l:List UInt32),Bk (l++[0])=Bk l
 | []=>rfl
 | x::l=>by simp[Bk,IF l]
theorem JM {x:UInt32} (a:x≠0):∀(l:List UInt32),Bk (l++[x])=l++[x]
 | []=>by simp[Bk,a]
 | y::l=>by
  rw[List.cons_append,Bk,JM a l];cases l <;> rfl
theorem Kl (l:List UInt32):Bk l=AR (AB l):=by
 induction l with
 | nil=>rfl
 | cons x l b=>
  rw[Bk,b,AB];have c:=x.toNat_lt
  by_cases h:AB l=0
  ·rw[h,E3]
   by_cases a:x=0
   ·subst a;simp[E3]
   have:x.toNat≠0:=fun e=>a (UInt32.toNat_inj.1 e)
   rw[if_neg a,KB (by omega),show (x.toNat+4294967296*0)/4294967296=0 by omega,E3];simp
  rw[KB (n:=x.toNat+_) (by omega),show (x.toNat+4294967296*AB l)/4294967296=AB l by omega];rw[KB h]
  show x::_=_
  congr 1
  apply UInt32.toNat_inj.1;rw[UInt32.toNat_ofNat'];omega
def HH:Nat->Nat->Nat
 | 0,_=>0
 | f+1,n=>if n=0 then 0 else
  let r:=2*HH f (n/4)
  if (r+1)*(r+1)<=n then r+1 else r
def BN (n:Nat):Nat:=HH n n
theorem OT:∀(f n:Nat),n<=f->HH f n*HH f n<=n/\n<(HH f n+1)*(HH f n+1)
 | 0,n,h=>by rw[show n=0 by omega];decide
 | f+1,n,h=>by
  rw[HH]
  by_cases a:n=0
  ·rw[if_pos a,a];decide
  rw[if_neg a];have:=OT f (n/4) (by omega)
  generalize HH f (n/4)=r at*
  simp only;have b:(2*r)*(2*r)=4*(r*r):=by grind
  have c:(2*r+1+1)*(2*r+1+1)=4*((r+1)*(r+1)):=by grind
  split
  ·refine⟨by assumption,?_⟩;rw[c];omega
  refine⟨?_,by omega⟩;rw[b];omega
theorem J6 (n:Nat):BN n*BN n<=n:=(OT n n (Nat.le_refl _)).1
theorem MC (n:Nat):n<(BN n+1)*(BN n+1):=(OT n n (Nat.le_refl _)).2
theorem TL {n r:Nat} (c:r*r<=n) (d:n<(r+1)*(r+1)):BN n=r:=by
 have h3:=J6 n;have f:=MC n
 generalize BN n=s at*
 have a:s<r+1:=Nat.mul_self_lt_mul_self_iff.1 (by omega);have b:r<s+1:=Nat.mul_self_lt_mul_self_iff.1 (by omega);omega
theorem C5 {l:List UInt32} {i:Nat} (h:l.length<=i):AB (l.take i)=AB l:=by rw[List.take_of_length_le h]
theorem LV {A B c xi yi i s:Nat} {w:UInt32} (a:o.length=i) (h:AB o+2^(32*i)*c=A+B) (b:s=c+xi+yi) (hw:w.toNat=s%4294967296):
  AB (o++[w])+2^(32*(i+1))*(s/4294967296)=(A+2^(32*i)*xi)+(B+2^(32*i)*yi):=by
 rw[DX,DR,a,hw]
 generalize 2^(32*i)=P at*
 have:s%4294967296+4294967296*(s/4294967296)=s:=by omega
 have e:P*(s%4294967296)+4294967296*P*(s/4294967296)=P*s:=by rw[<-this];grind
 subst b
 grind
theorem Nt {w:UInt32} (hw:w.toNat≠0):AR (AB (o++[w]))=o++[w]:=by
 apply Ob
 right
 rw[DX,List.length_append];have:2^(32*o.length)*1<=2^(32*o.length)*w.toNat:=Nat.mul_le_mul_left _ (by omega);simp;omega
theorem R3 {p q:Nat} (h:AB o=p+q) (a:o.length=(AR p).length):o=AR (p+q):=by
 rw[<-h];refine (Ob ?_).symm
 by_cases b:p=0
 ·left
  subst b;simpa [E3] using a
 right
 have:=TV b;rw[a];omega
theorem Gh (n:Nat):AB (List.replicate n 0)=0:=by
 induction n with
 | zero=>rfl
 | succ n a=>rw[List.replicate_succ,AB,a];rfl
theorem Py:∀(l:List UInt32),l.take (Bk l).length=Bk l
 | []=>rfl
 | x::l=>by
  have b:=Py l;rw[Bk];cases h:Bk l with
  | nil=>
   by_cases a:x=0
   ·simp[a]
   simp[a]
  | cons y r=>
   rw[h] at b;simpa using b
theorem Px (l:List UInt32):(Bk l).length<=l.length:=by
 rw[<-Py,List.length_take];omega
theorem Dl {l:List UInt32} {n m:Nat} (c:n<=l.length) (hm:m=(Bk (l.take n)).length):m<=n/\l.take m=AR (AB (l.take n)):=by
 have b:=Px (l.take n);rw[List.length_take] at b;have a:=Py (l.take n);rw[<-hm,List.take_take,Nat.min_eq_left (by omega)] at a;exact⟨by omega,by rw[a,Kl]⟩
end Go.Abs
