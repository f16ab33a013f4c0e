/- Part 8 of a proof. Conditions: each theorem's own. -/
import Derived.Deep.Slices
import Derived.ProofKit
import Derived.Test.YtmaoeopjnhfplaaGreatQk06
set_option linter.all false
set_option maxHeartbeats 8000000
set_option maxRecDepth 20000
open Go.Proofs
namespace Go.Abs
abbrev AD:AC:= .sl (.sl AA) []
abbrev AE:AC:= .sl AA []
abbrev Bi (b:Bool) (l:List UInt32):List AC:=[.bool b,.sl .u32 l]
abbrev B5 (b:Bool) (l:List UInt32) (c:Bool) (m:List UInt32):List AC:=[.bool b,.sl .u32 l,.bool c,.sl .u32 m]
abbrev AU (T1:List (List (el AA))) (A1:List (el AA)):List AC:=[.sl (.sl AA) T1,.sl AA A1]
abbrev AH (T1:List (List (el AA))) (A1:List (el AA)) (T2:List (List (el AA))) (A2:List (el AA)):List AC:=[.sl (.sl AA) T1,.sl AA A1,.sl (.sl AA) T2,.sl AA A2]
abbrev AN (T1:List (List (el AA))) (A1:List (el AA)) (T2:List (List (el AA))) (A2:List (el AA)) (T3:List (List (el AA))) (A3:List (el AA)):List AC:=[.sl (.sl AA) T1,.sl AA A1,.sl (.sl AA) T2,.sl AA A2,.sl (.sl AA) T3,.sl AA A3]
abbrev oP (T1:List (List (el AA))) (A1:List (el AA)) (T2:List (List (el AA))) (A2:List (el AA)) (T3:List (List (el AA))) (A3:List (el AA)) (T4:List (List (el AA))) (A4:List (el AA)):List AC:=[.sl (.sl AA) T1,.sl AA A1,.sl (.sl AA) T2,.sl AA A2,.sl (.sl AA) T3,.sl AA A3,.sl (.sl AA) T4,.sl AA A4]
abbrev CN (T1:List (List (el AA))) (A1:List (el AA)) (T2:List (List (el AA))) (A2:List (el AA)) (T3:List (List (el AA))) (A3:List (el AA)) (T4:List (List (el AA))) (A4:List (el AA)) (T5:List (List (el AA))) (A5:List (el AA)):List AC:=[.sl (.sl AA) T1,.sl AA A1,.sl (.sl AA) T2,.sl AA A2,.sl (.sl AA) T3,.sl AA A3,.sl (.sl AA) T4,.sl AA A4,.sl (.sl AA) T5,.sl AA A5]
abbrev oO (T1:List (List (el AA))) (A1:List (el AA)) (T2:List (List (el AA))) (A2:List (el AA)) (T3:List (List (el AA))) (A3:List (el AA)) (T4:List (List (el AA))) (A4:List (el AA)) (m:Bool):List AC:=[.sl (.sl AA) T1,.sl AA A1,.sl (.sl AA) T2,.sl AA A2,.sl (.sl AA) T3,.sl AA A3,.sl (.sl AA) T4,.sl AA A4,.bool m]
def NG:AC->Bool
 | .int _ _=>true | .bool _=>true | .fn _=>true | .nil=>true | .sl _ _=>true
 | _=>false
def LY:List AV->Bool
 | []=>true
 | .one c::l=>NG c&&LY l
 | .agg cs::l=>cs.all NG&&LY l
 | .AG _::_=>false
theorem X1:∀{c:AC},NG c=true->Bl c c
 |.int _ _,_|.bool _,_|.fn _,_=>rfl
 | .nil,_=> .inl rfl
 | .sl _ _,_=>rfl
theorem Vn:∀{cs:List AC},cs.all NG=true->BX Bl cs cs
 | [],_=>trivial
 | c::l,h=>by
  rw[List.all_cons,Bool.and_eq_true] at h;exact⟨X1 h.1,Vn h.2⟩
theorem QI:∀{a:List AV},LY a=true->GN Bl a a
 | [],_=>trivial
 | .one c::l,h=>by
  unfold LY at h;rw[Bool.and_eq_true] at h;exact⟨X1 h.1,QI h.2⟩
 | .agg cs::l,h=>by
  unfold LY at h;rw[Bool.and_eq_true] at h;exact⟨Vn h.1,QI h.2⟩
theorem AB {E:Env} {fl:Bool} {g:FuncId} {args:List AV} {r:AV} {K:AV->Prop} {X:Prop} (b:env Tryz.prog=E) (h:F6 Tryz.prog fl g args r) (c:K r) (d:LY args=true:=by rfl):
 (∃(a:List AV) (r:AV),(Unit->GN Bl args a)/\(Unit->E.C fl g a r)/\K r)\/X:= .inl ⟨args,r,fun _=>QI d,fun _=>HG b h,c⟩
def OZ:AC->AC
 | .AZ t _ _ off len=> .AZ t 0 0 off len
 | .As _ _ off=> .As 0 0 off
 | c=>c
def K5:List AV->List AV
 | []=>[]
 | .one c::l=> .one (OZ c)::K5 l
 | .agg cs::l=> .agg (cs.map OZ)::K5 l
 | .AG x::l=> .AG x::K5 l
def LD (id v:Nat):AC->Bool
 |.AZ _ i w _ _|.As i w _=>Nat.beq i id&&Nat.beq w v
 | c=>NG c
def LF (id v:Nat):List AV->Bool
 | []=>true
 | .one c::l=>LD id v c&&LF id v l
 | .agg cs::l=>cs.all (LD id v)&&LF id v l
 | .AG _::_=>false
theorem X7 {id v:Nat}:∀{c:AC},LD id v c=true->JK id v c (OZ c)
 | .AZ _ i w _ _,h=>by
  unfold LD at h;rw[Bool.and_eq_true] at h;exact⟨⟨Nat.eq_of_beq_eq_true h.1,Nat.eq_of_beq_eq_true h.2⟩,rfl⟩
 | .As i w _,h=>by
  unfold LD at h;rw[Bool.and_eq_true] at h;exact⟨⟨Nat.eq_of_beq_eq_true h.1,Nat.eq_of_beq_eq_true h.2⟩,rfl⟩
 |.int _ _,_|.bool _,_|.fn _,_=>rfl
 | .nil,_=> .inl rfl
 | .sl _ _,_=>rfl
theorem X5 {id v:Nat}:∀{cs:List AC},cs.all (LD id v)=true->BX (JK id v) cs (cs.map OZ)
 | [],_=>trivial
 | c::l,h=>by
  rw[List.all_cons,Bool.and_eq_true] at h;exact⟨X7 h.1,X5 h.2⟩
theorem RY {id v:Nat}:∀{a:List AV},LF id v a=true->GN (JK id v) a (K5 a)
 | [],_=>trivial
 | .one c::l,h=>by
  unfold LF at h;rw[Bool.and_eq_true] at h;exact⟨X7 h.1,RY h.2⟩
 | .agg cs::l,h=>by
  unfold LF at h;rw[Bool.and_eq_true] at h;exact⟨X5 h.1,RY h.2⟩
theorem Ai {E:Env} {g:FuncId} {args:List AV} {r:AV} {bk:Nat->Option AR} {K:Nat->AV->Prop} {c d i j:Prop} (id v:Nat) (l:env Tryz.prog=E) (h:Bp Tryz.prog g (K5 args) (.var 0 [.int .i64 0]) r) (m:K id r) (hb:bk id=some (.var v [.int .i64 0]):=by rfl) (n:LF id v args=true:=by rfl):
 c\/d\/i\/(∃(id:Nat) (b:AR) (a:List AV) (r:AV),(Unit->bk id=some b/\GN (JK id b.AY) args a)/\(Unit->E.D g a (b.FG 0) r)/\K id r)\/j:= .inr (.inr (.inr (.inl ⟨id,.var v [.int .i64 0],K5 args,r,fun _=>⟨hb,RY n⟩,fun _=>G4 l h,m⟩)))
theorem AJ {bk:Nat->Option AR} {t:T}:FE bk .nil (.sl t []):= .inr (.inl ⟨_,rfl⟩)
theorem AQ {P:Sort _} {C:Prop} {x:Int} (h:C) (a: -9223372036854775808<=x/\x<9223372036854775808:=by omega):(P->Gt x)/\C:=⟨fun _=>a,h⟩
theorem AM {P:Sort _} {A C:Prop} (h:C) (a:A:=by omega):(P->A)/\C:=⟨fun _=>a,h⟩
theorem AF {A B C:Prop} (h:A) (hb:B:=by rfl) (hc:C:=by simp):(Unit->A/\B/\C)/\True:=⟨fun _=>⟨h,hb,hc⟩,trivial⟩
theorem Aw {x:Bool} {K:Bool->Prop} (k:K true) (h:x=true:=by decide):∀c,c=x->K c:=fun _ e=>by rw[e,h];exact k
theorem AL {x:Bool} {K:Bool->Prop} (k:K false) (h:x=false:=by decide):∀c,c=x->K c:=fun _ e=>by rw[e,h];exact k
theorem AO {f:FuncId} {fn:Func} (a:Tryz.prog.funcs[f]? =some fn) {args:List AV} {r:AV} (h:∀E,env Tryz.prog=E->MD E fn r none (DT fn.ntmps args none)) (b:Gq fn=true:=by kernel_rfl) (c:(KH args&&(r.all CX&&(r.wf&&Nat.ble args.length fn.ntmps)))=true:=by rfl):F6 Tryz.prog false f args r:=et a b c h
end Go.Abs
namespace Go.Abs
open Go.RowKit Go.ChangeShapes Go.WideShapes Go.Deep
def Jz (P:Program) (k:IntKind) (t:TypeId):Bool:=match P.underlying t with | some (.int j)=>decide (j=k) | _=>false
def okF (P:Program) (ok:T->TypeId->Bool):T->List Field->Nat->Bool
 | _,[],_=>false
 | t,[f],o=>f.offset==o&&(P.cellsOf f.type==t.size&&ok t f.type)
 | .pr a b,f::fs,o=>(f.offset==o&&(P.cellsOf f.type==a.size&&ok a f.type))&&okF P ok b fs (o+a.size)
 | _,_,_=>false
def Gk (P:Program):Nat->T->TypeId->Bool
 | 0,_,_=>false
 | n+1,τ,t=>match τ with
  | .u8=>Jz P .u8 t
  | .u32=>Jz P .u32 t
  | .u64=>Jz P .u64 t
  | .i8=>Jz P .i8 t
  | .i64=>Jz P .i64 t
  | .bool=>match P.underlying t with | some .bool=>true | _=>false
  | .sl e=>match P.underlying t with | some (.slice u)=>Gk P n e u&&(P.cellsOf u==e.size&&decide (0<P.bytesOf u)) | _=>false
  | .pr a b=>match P.underlying t with | some (.struct fs)=>okF P (Gk P n) (.pr a b) fs.toList 0&&P.cellsOf t==a.size+b.size | _=>false
theorem Hy {P:Program} {k:IntKind} {t:TypeId} (h:Jz P k t=true):P.underlying t=some (.int k):=by
 unfold Jz at h
 split at h
 ·rename_i j e;rw[e,of_decide_eq_true h]
 simp at h
theorem UN {k:IntKind} {n:Int} (h:(Lit.int k n).wf=true):k.min<=n/\n<=k.max:=by
 simpa [Lit.wf] using h
theorem Yx {H:Type} {enc:TypeId×Value->H} {P:Program} {w:World} {base:Nat} {sp:Nat->Bool} {l:Bool} {n:Nat} {cs:List Value} {ok:T->TypeId->Bool}
  (c:∀(T:T) (t:TypeId) (cs:List Value) (x:DataW H×List MemPlace),ok T t=true->DataW.trod enc P w base sp l n t cs=some x->(∀k∈x.1.weights P t,k<=reachBytes)->∃y:el T,rep w (fun b=>b<w.heap.size) T y cs):
  ∀(T:T) (fs:List Field) (o:Nat),okF P ok T fs o=true->cs.length=o+T.size->
   (∀(i:Nat) (f:Field),fs[i]? =some f->∃x,DataW.trod enc P w base sp l n f.type ((cs.drop f.offset).take (P.cellsOf f.type))=some x/\∀k∈x.1.weights P f.type,k<=reachBytes)->∃y:el T,rep w (fun b=>b<w.heap.size) T y (cs.drop o)
 | T,[],o,h,_,_=>by cases T <;> simp[okF] at h
 | T,[f],o,h,s,d=>by
  have h':(f.offset==o&&(P.cellsOf f.type==T.size&&ok T f.type))=true:=by cases T <;> exact h
  simp only[Bool.and_eq_true,beq_iff_eq] at h';obtain⟨x,d,hw⟩:=d 0 f rfl;rw[h'.1,h'.2.1,List.take_of_length_le (by rw[List.length_drop];omega)] at d;exact c T _ _ _ h'.2.2 d hw
 | .pr a b,f::g::fs,o,h,s,d=>by
  have h':((f.offset==o&&(P.cellsOf f.type==a.size&&ok a f.type))&&okF P ok b (g::fs) (o+a.size))=true:=h;simp only[Bool.and_eq_true,beq_iff_eq] at h';have u:(T.pr a b).size=a.size+b.size:=rfl;obtain⟨x,j,hw⟩:=d 0 f rfl;rw[h'.1.1,h'.1.2.1] at j;obtain⟨y1,m⟩:=c a _ _ _ h'.1.2.2 j hw;obtain⟨y2,p⟩:=Yx c b (g::fs) (o+a.size) h'.2 (by omega) (fun i f q=>d (i+1) f q);refine⟨(y1,y2),_,_,?_,m,p⟩;rw[<-List.drop_drop,List.take_append_drop]
 |.u8,f::g::fs,o,h,_,_|.u32,f::g::fs,o,h,_,_|.u64,f::g::fs,o,h,_,_|.i8,f::g::fs,o,h,_,_|.i64,f::g::fs,o,h,_,_|.bool,f::g::fs,o,h,_,_|.sl _,f::g::fs,o,h,_,_=>by simp[okF] at h
theorem aP {w:World} {a:Addr} {v:Value} (h:w.cell? a=some v):a.spot=none/\a.block<w.heap.size:=by
 unfold World.cell? at h
 split at h
 ·rename_i c e l hc
  refine⟨?_,(Array.getElem?_eq_some_iff.1 hc).1⟩;cases b:a.spot with
  | none=>rfl
  | some x=>simp[b] at h
 simp at h
theorem Nn {a:Addr} (h:a.spot=none) (i:Nat):a.add i=⟨a.block,a.off+i,none⟩:=by
 unfold Addr.add;cases a;simp only at h;subst h
 split <;> simp_all
theorem YC {α:Type} {p:Nat->α->Prop}:∀(n:Nat),(∀i,i<n->∃x,p i x)->∃l:List α,l.length=n/\∀i x,l[i]? =some x->p i x
 | 0,_=>⟨[],rfl,fun i x h=>by simp at h⟩
 | n+1,h=>by
  obtain⟨l,b,g⟩:=YC n fun i c=>h i (by omega)
  obtain⟨x,j⟩:=h n (by omega);refine⟨l++[x],by simp[b],fun i y a=>?_⟩
  by_cases c:i<n
  ·rw[List.getElem?_append_left (by omega)] at a;exact g i y a
  rw[List.getElem?_append_right (by omega)] at a
  have:i=n:=by
   apply Classical.byContradiction;intro d;rw[List.getElem?_eq_none (by simp;omega)] at a;simp at a
  subst this;rw[b,Nat.sub_self] at a;simp at a;subst a;exact j
theorem YP {H:Type} {P:Program} {e:TypeId} {d:DataW H} {q:Nat}:∀{l:List (DataW H)},d∈l->q∈d.weights P e->q∈DataW.weightsAll P e l
 | [],h,_=>by simp at h
 | a::l,h,b=>by
  rw[DataW.weightsAll,List.mem_append];rcases List.mem_cons.1 h with rfl | h
  ·exact .inl b
  exact .inr (YP h b)
theorem YQ {H:Type} {P:Program} {q:Nat}:∀{ts:List TypeId} {l:List (DataW H)} (i:Nat) (t:TypeId) (d:DataW H),ts[i]? =some t->l[i]? =some d->q∈d.weights P t->q∈DataW.weightsEach P ts l
 |[],_,i,t,d,h,_,_|_::_,[],i,t,d,_,h,_=>by simp at h
 | u::ts,a::l,0,t,d,h,h',b=>by
  rw[DataW.weightsEach,List.mem_append];simp at h h';subst h;subst h';exact .inl b
 | u::ts,a::l,i+1,t,d,h,h',b=>by
  rw[DataW.weightsEach,List.mem_append];exact .inr (YQ i t d h h' b)
theorem Ow {H:Type} {enc:TypeId×Value->H} {P:Program} {w:World} {base:Nat} {sp:Nat->Bool} {hd:Bool}:
  ∀(m:Nat) (T:T) (t:TypeId),Gk P m T t=true->∀(n:Nat) (cs:List Value) (x:DataW H×List MemPlace),DataW.trod enc P w base sp hd n t cs=some x->(∀k∈x.1.weights P t,k<=reachBytes)->
   ∃y:el T,rep w (fun b=>b<w.heap.size) T y cs
 | 0,_,_,h,_,_,_,_,_=>by simp[Gk] at h
 | m+1,.u8,t,h,n,cs,x,c,hw=>by
  obtain⟨v,rfl,rfl,d⟩:=DataW.trod_int (Hy h) c;have hb:(0:Int)<=v/\v<=255:=UN d;refine⟨UInt8.ofNat v.toNat,?_⟩
  show [Value.int .u8 v]=[Value.int .u8 _]
  rw[UInt8.toNat_ofNat'];congr 2;omega
 | m+1,.u32,t,h,n,cs,x,c,hw=>by
  obtain⟨v,rfl,rfl,d⟩:=DataW.trod_int (Hy h) c;have hb:(0:Int)<=v/\v<=4294967295:=UN d;refine⟨UInt32.ofNat v.toNat,?_⟩
  show [Value.int .u32 v]=[Value.int .u32 _]
  rw[UInt32.toNat_ofNat'];congr 2;omega
 | m+1,.u64,t,h,n,cs,x,c,hw=>by
  obtain⟨v,rfl,rfl,d⟩:=DataW.trod_int (Hy h) c;have hb:(0:Int)<=v/\v<=18446744073709551615:=UN d;refine⟨UInt64.ofNat v.toNat,?_⟩
  show [Value.int .u64 v]=[Value.int .u64 _]
  rw[UInt64.toNat_ofNat'];congr 2;omega
 | m+1,.i8,t,h,n,cs,x,c,hw=>by
  obtain⟨v,rfl,rfl,d⟩:=DataW.trod_int (Hy h) c;exact⟨v,rfl⟩
 | m+1,.i64,t,h,n,cs,x,c,hw=>by
  obtain⟨v,rfl,rfl,d⟩:=DataW.trod_int (Hy h) c;exact⟨v,rfl⟩
 | m+1,.bool,t,h,n,cs,x,c,hw=>by
  have h':(match P.underlying t with | some .bool=>true | _=>false)=true:=h
  split at h'
  ·rename_i e
   obtain⟨v,rfl,rfl⟩:=DataW.trod_bool e c;exact⟨v,rfl⟩
  simp at h'
 | m+1,.sl e,t,h,n,cs,x,c,hw=>by
  have h':(match P.underlying t with | some (.slice u)=>Gk P m e u&&(P.cellsOf u==e.size&&decide (0<P.bytesOf u)) | _=>false)=true:=h
  split at h'
  ·rename_i u hu
   simp only[Bool.and_eq_true,beq_iff_eq,decide_eq_true_eq] at h';rcases open_slice hu c with⟨rfl,rfl⟩ |⟨a,len,cap,k,j,D,Pl,rfl,hb,Q,Z,hk,B,K⟩
   ·exact⟨[],none,0,rfl,Nat.le_refl _,Nat.zero_le _,.inl rfl⟩
   have a2:len<=k:=by rw[hk];split <;> omega
   rw[h'.2.1] at K;rw[B] at hw
   have J:DataW.weights P t (DataW.slice ((List.range len).map D) ((List.range (k-len)).map fun j=>D (len+j)))=(((List.range len).map D).length+((List.range (k-len)).map fun j=>D (len+j)).length)*P.bytesOf u::(DataW.weightsAll P u ((List.range len).map D)++DataW.weightsAll P u ((List.range (k-len)).map fun j=>D (len+j))):=by
    unfold DataW.weights;rw[hu]
   have I:len<=140737488355328:=by
    have:=hw _ (by rw[J];exact List.mem_cons_self);simp only[List.length_map,List.length_range] at this;have h3:len<=(len+(k-len))*P.bytesOf u:=Nat.le_trans (Nat.le_add_right _ _) (Nat.le_mul_of_pos_right _ h'.2.2);have h4:reachBytes<=140737488355328:=by decide
    omega
   have U:=T.size_pos e
   have L:0<len->a.spot=none:=fun C=>by
    obtain⟨us,hc,ht⟩:=K 0 (by omega);obtain⟨_,hlen,g⟩:=World.cells?_some hc;have C:=g 0 U;rw[List.getElem?_eq_getElem (by omega),Nat.zero_mul] at C;have F:=(aP C).1;unfold Addr.add at F;simpa using F
   obtain⟨l,hl,S⟩:=YC (α:=el e) (p:=fun i y=>∃us,rep w (fun b=>b<w.heap.size) e y us/\a.spot=none/\a.block<w.heap.size/\w.rangeAt a.block (a.off+i*e.size) us) len (fun i N=>by
    obtain⟨us,hc,ht⟩:=K i (by omega);obtain⟨y,hy⟩:=Ow m e u h'.1 _ _ _ ht (fun q R=>hw q (by rw[J];exact List.mem_cons_of_mem _ (List.mem_append_left _ (YP (List.mem_map.2 ⟨i,List.mem_range.2 N,rfl⟩) R))));obtain⟨_,hlen,g⟩:=World.cells?_some hc;have C:=g 0 U;rw[List.getElem?_eq_getElem (by omega)] at C;have F:=aP C;have ha:a.spot=none:=L (by omega)
    have A:a.block<w.heap.size:=by
     have:=F.2;rw[Nn ha,Nn rfl] at this;exact this
    refine⟨y,us,hy,ha,A,fun j v O=>?_⟩
    have a1:j<us.length:=by
     apply Classical.byContradiction;intro hn;rw[List.getElem?_eq_none (by omega)] at O;simp at O
    have:=g j (by omega);rw[Nn ha,Nn rfl] at this;rw[this];exact O)
   subst hl;refine⟨l,some a,cap,rfl,Q,I,?_⟩;cases l with
   | nil=>exact .inl rfl
   | cons y l=>
    right
    obtain⟨_,_,ha,A,_⟩:=S 0 y rfl;obtain⟨V,W,X⟩:=a;simp only at ha;subst ha;exact⟨V,W,rfl,A,fun i z hz=>by obtain⟨us,F,_,_,Y⟩:=S i z hz;exact⟨us,F,Y⟩⟩
  simp at h'
 | m+1,.pr a b,t,h,n,cs,x,c,hw=>by
  have h':(match P.underlying t with | some (.struct fs)=>okF P (Gk P m) (.pr a b) fs.toList 0&&P.cellsOf t==a.size+b.size | _=>false)=true:=h
  split at h'
  ·rename_i fs hu
   simp only[Bool.and_eq_true,beq_iff_eq] at h';obtain⟨xs,n',_,B,M,a5,hf⟩:=DataW.trod_struct hu c
   have:=Yx (w:=w) (n:=n') (cs:=cs) (ok:=Gk P m) (fun T t cs x ho c hw=>Ow m T t ho n' cs x c hw) (.pr a b) fs.toList 0 h'.1 (by rw[M,h'.2,Nat.zero_add];rfl) (fun i f G=>by
    have s:fs[i]? =some f:=by rw[<-Array.getElem?_toList];exact G
    have K:i<fs.size:=(Array.getElem?_eq_some_iff.1 s).1;rw[hf i f s];refine⟨xs[i]'(by omega),List.getElem?_eq_getElem (by omega),fun q R=>hw q ?_⟩;rw[B]
    have e:DataW.weights P t (DataW.agg (xs.map (·.1)))=DataW.weightsEach P (fs.toList.map (·.type)) (xs.map (·.1)):=by
     unfold DataW.weights;rw[hu]
    rw[e];exact YQ i f.type (xs[i]'(by omega)).1 (by rw[List.getElem?_map,G];rfl) (by rw[List.getElem?_map,List.getElem?_eq_getElem (by omega)];rfl) R)
   exact this
  simp at h'
end Go.Abs
namespace Go.Abs
open Go.RowKit Go.ChangeShapes Go.WideShapes Go.Deep
def HL:List T->Type
 | []=>PUnit
 | t::ts=>el t×HL ts
def L5:(ts:List T)->HL ts->List AV
 | [],_=>[]
 | t::ts,x=>Vu t x.1::L5 ts x.2
def GV (P:Program):List T->List TypeId->Bool
 | [],[]=>true
 | τ::τs,t::ts=>(Gk P 20 τ t&&(P.readableRec t&&decide (t<P.types.size)))&&GV P τs ts
 | _,_=>false
theorem Kf {v:Value} {c:Value} (h:v.cells.toList=[c]) (a:v.oneCell'=true):v=c:=by
 rw[Yz a] at h;simpa using h
theorem Zb {P:Program} {w:World} {I:Nat->Prop} {r:Reach} {b:Nat} {m:Nat}:∀{τ:T} {t:TypeId} {v:Value} {y:el τ},Gk P (m+1) τ t=true->Value.okWide P w r b t v->rep w I τ y v.cells.toList->Bt (Dq w I) (Vu τ y) v
 | .u8,t,v,y,h,g,d=>by
  obtain⟨n,rfl⟩:=okWide_int (Hy h) g;exact .inr (Kf d rfl)
 | .u32,t,v,y,h,g,d=>by
  obtain⟨n,rfl⟩:=okWide_int (Hy h) g;exact .inr (Kf d rfl)
 | .u64,t,v,y,h,g,d=>by
  obtain⟨n,rfl⟩:=okWide_int (Hy h) g;exact .inr (Kf d rfl)
 | .i8,t,v,y,h,g,d=>by
  obtain⟨n,rfl⟩:=okWide_int (Hy h) g;exact .inr (Kf d rfl)
 | .i64,t,v,y,h,g,d=>by
  obtain⟨n,rfl⟩:=okWide_int (Hy h) g;exact .inr (Kf d rfl)
 | .bool,t,v,y,h,g,d=>by
  have h':(match P.underlying t with | some .bool=>true | _=>false)=true:=h
  split at h'
  ·rename_i e
   obtain⟨n,rfl⟩:=okWide_bool e g;exact .inr (Kf d rfl)
  simp at h'
 | .sl e,t,v,y,h,g,d=>by
  have h':(match P.underlying t with | some (.slice u)=>Gk P m e u&&(P.cellsOf u==e.size&&decide (0<P.bytesOf u)) | _=>false)=true:=h
  split at h'
  ·rename_i u hu
   obtain⟨a,l,c,rfl⟩:=okWide_slice hu g;exact .inr d
  simp at h'
 | .pr a b',t,v,y,h,g,d=>by
  have h':(match P.underlying t with | some (.struct fs)=>okF P (Gk P m) (.pr a b') fs.toList 0&&P.cellsOf t==a.size+b'.size | _=>false)=true:=h
  split at h'
  ·rename_i fs hu
   obtain⟨cs,rfl,_⟩:=okWide_struct hu g;exact⟨cs,rfl,(H6 (Dq w I) _ _ _).1 d⟩
  simp at h'
theorem Vs {H:Type} {enc:TypeId×Value->H} {P:Program} {w:World} {base:Nat}:∀(a:List T) (ts:List TypeId) (vs:List Value) (c:List (DataW H)) (m:List MemPlace),GV P a ts=true->
  DataW.TrodAll enc P w 0 (fun _=>true) true ts vs c m->(∀(j:Nat) t v,ts[j]? =some t->vs[j]? =some v->Value.okWide P w .any base t v)->(∀k∈DataW.weightsEach P ts c,k<=reachBytes)->
   c.length=a.length/\∃xs:HL a,BA (Bt (Dq w fun b=>b<w.heap.size)) (L5 a xs) vs
 | [],[],[],[],_,_,_,_,_=>⟨rfl,⟨⟩,trivial⟩
 | τ::a,t::ts,v::vs,d::c,m,h,⟨p,q,s,z,_⟩,l,hw=>by
  have h':((Gk P 20 τ t&&(P.readableRec t&&decide (t<P.types.size)))&&GV P a ts)=true:=h;simp only[Bool.and_eq_true] at h';obtain⟨e,xs,i⟩:=Vs a ts vs c q h'.2 z (fun j u x hu i=>l (j+1) u x hu i) (fun k g=>hw k (by rw[DataW.weightsEach];exact List.mem_append_right _ g));obtain⟨n,A⟩:=s;obtain⟨y,B⟩:=Ow 20 τ t h'.1.1 n _ _ A (fun k g=>hw k (by rw[DataW.weightsEach];exact List.mem_append_left _ g));exact⟨by simp[e],(y,xs),Zb h'.1.1 (l 0 t v rfl rfl) B,i⟩
 |[],t::ts,_,_,_,h,_,_,_|_::_,[],_,_,_,h,_,_,_=>by simp[GV] at h
 |[],[],[],_::_,_,_,h,_,_|[],[],_::_,_,_,_,h,_,_|_::_,_::_,[],_,_,_,h,_,_|_::_,_::_,_::_,[],_,_,h,_,_=>h.elim
theorem QO {H:Type} {enc:TypeId×Value->H} {P:Program} (m:laidOutB P=true) {W l:World} (hb:Below W.heap.size W l):∀(a:List T) (ts:List TypeId) (vs:List Value) (g:List (DataW H)) (i:List MemPlace),GV P a ts=true->
  DataW.TrodAll enc P W 0 (fun _=>true) true ts vs g i->(∀p∈i,p.block<W.heap.size)->DataW.TrodAll enc P l 0 (fun b=>decide (b<W.heap.size)) true ts vs g i
 | [],[],[],[],_,_,h,_=>h
 | τ::a,t::ts,v::vs,d::g,i,h,⟨p,q,n,s,e⟩,c=>by
  have h':((Gk P 20 τ t&&(P.readableRec t&&decide (t<P.types.size)))&&GV P a ts)=true:=h;simp only[Bool.and_eq_true,decide_eq_true_eq] at h';subst e;exact⟨p,q,Below.trod m h'.1.2.1 h'.1.2.2 n hb (fun x j=>c x (List.mem_append_left _ j)),QO m hb a ts vs g q h'.2 s (fun x j=>c x (List.mem_append_right _ j)),rfl⟩
 |[],t::ts,_,_,_,h,_,_|_::_,[],_,_,_,h,_,_=>by simp[GV] at h
 |[],[],[],_::_,_,_,h,_|[],[],_::_,_,_,_,h,_|_::_,_::_,[],_,_,_,h,_|_::_,_::_,_::_,[],_,_,h,_=>h.elim
def OT:(t:T)->el t->Prop
 | .i64,n=>Gt n
 | .pr a b,x=>OT a x.1/\OT b x.2
 | _,_=>True
def RF:(ts:List T)->HL ts->Prop
 | [],_=>True
 | t::ts,x=>OT t x.1/\RF ts x.2
theorem Qf {P:Program} {w:World} {r:Reach} {b:Nat} {u:TypeId} {n:Int} (h:Cell.okWide P w r b u (.int .i64 n)):Gt n:=by
 cases hu:P.underlying u with
 | none=>simp[Cell.okWide,Cell.ok,hu] at h
 | some d=>
  cases d <;> simp[Cell.okWide,Cell.ok,hu] at h
  obtain⟨rfl,c,g⟩:=h;have a:IntKind.i64.min= -9223372036854775808:=rfl;have e2:IntKind.i64.max=9223372036854775807:=rfl;unfold Gt;omega
theorem gE {P:Program} {w:World} {r:Reach} {b:Nat} {t:TypeId} {v:Value} (h:Value.okWide P w r b t v):∀n,Value.int .i64 n∈v.cells.toList->Gt n:=by
 intro n a;unfold Value.okWide at h
 split at h
 ·obtain⟨cs,rfl,_,ts,_,_,h3⟩:=h;obtain⟨i,c⟩:=List.mem_iff_getElem?.1 (show Value.int .i64 n∈cs.toList from a);obtain⟨u,_,hu⟩:=h3 i _ (by rw[<-Array.getElem?_toList];exact c);exact Qf hu
 ·obtain⟨cs,rfl,_,ts,_,_,h3⟩:=h;obtain⟨i,c⟩:=List.mem_iff_getElem?.1 (show Value.int .i64 n∈cs.toList from a);obtain⟨u,_,hu⟩:=h3 i _ (by rw[<-Array.getElem?_toList];exact c);exact Qf hu
 cases v with
 | agg cs=>
  cases hu:P.underlying t with
  | none=>simp[Cell.okWide,Cell.ok,hu] at h
  | some d=>cases d <;> simp[Cell.okWide,Cell.ok,hu] at h
 | int k m=>
  have e:Value.int .i64 n=Value.int k m:=by simpa [Value.cells] using a
  rw[<-e] at h;exact Qf h
 | _=>exact absurd a (by simp[Value.cells])
theorem RG {w:World} {I:Nat->Prop}:∀(t:T) (y:el t) (vs:List Value),rep w I t y vs->(∀n,Value.int .i64 n∈vs->Gt n)->OT t y
 | .i64,y,_,d,h=>h y (by rw[show _=_ from d];exact List.mem_singleton.2 rfl)
 | .pr a b,y,_,d,h=>by
  obtain⟨v1,v2,rfl,g,i⟩:=d;exact⟨RG a _ _ g fun n c=>h n (List.mem_append_left _ c),RG b _ _ i fun n c=>h n (List.mem_append_right _ c)⟩
 |.u8,_,_,_,_|.u32,_,_,_,_|.u64,_,_,_,_|.i8,_,_,_,_|.bool,_,_,_,_|.sl _,_,_,_,_=>trivial
theorem Vt {H:Type} {enc:TypeId×Value->H} {P:Program} {w:World} {base:Nat}:∀(a:List T) (ts:List TypeId) (vs:List Value) (c:List (DataW H)) (s:List MemPlace),GV P a ts=true->
  DataW.TrodAll enc P w 0 (fun _=>true) true ts vs c s->(∀(j:Nat) t v,ts[j]? =some t->vs[j]? =some v->Value.okWide P w .any base t v)->(∀k∈DataW.weightsEach P ts c,k<=reachBytes)->
   c.length=a.length/\∃xs:HL a,BA (Bt (Dq w fun b=>b<w.heap.size)) (L5 a xs) vs/\RF a xs
 | [],[],[],[],_,_,_,_,_=>⟨rfl,⟨⟩,trivial,trivial⟩
 | τ::a,t::ts,v::vs,d::c,s,h,⟨p,q,z,A,_⟩,i,hw=>by
  have h':((Gk P 20 τ t&&(P.readableRec t&&decide (t<P.types.size)))&&GV P a ts)=true:=h;simp only[Bool.and_eq_true] at h';obtain⟨e,xs,l,B⟩:=Vt a ts vs c q h'.2 A (fun j u x hu l=>i (j+1) u x hu l) (fun k g=>hw k (by rw[DataW.weightsEach];exact List.mem_append_right _ g));obtain⟨n,C⟩:=z;obtain⟨y,m⟩:=Ow 20 τ t h'.1.1 n _ _ C (fun k g=>hw k (by rw[DataW.weightsEach];exact List.mem_append_left _ g));exact⟨by simp[e],(y,xs),⟨Zb h'.1.1 (i 0 t v rfl rfl) m,l⟩,RG _ _ _ m (gE (i 0 t v rfl rfl)),B⟩
 |[],t::ts,_,_,_,h,_,_,_|_::_,[],_,_,_,h,_,_,_=>by simp[GV] at h
 |[],[],[],_::_,_,_,h,_,_|[],[],_::_,_,_,_,h,_,_|_::_,_::_,[],_,_,_,h,_,_|_::_,_::_,_::_,[],_,_,h,_,_=>h.elim
theorem oL {P:Program} {f:FuncId} {fn:Func} {s:ChangeSpec} {c:List T} {tb:TypeId} (J:laidOutB P=true) (l:GV P c fn.params.toList=true)
  (w:fn.resultTypes= #[tb]) (z:P.underlying tb=some .bool) (a:s.vars=[])
  (y:∀(H:Type) (d:List (DataW H)),d.length=c.length->s.fn H (d++[])={results:=[.lit (.bool true)],args:=d})
  (F:∀xs:HL c,F6 P false f (L5 c xs) (.one (.bool true)))
  (H:Type) (enc:TypeId×Value->H) (W:World) (base:Nat) (args:Array Value) (d gs:List (DataW H)) (before:List MemPlace)
  (m:∀(j:Nat) t v,fn.params[j]? =some t->args[j]? =some v->Value.okWide P W .any base t v)
  (D:DataW.Whole enc P fn.params.toList s.vars false W args.toList d gs before)
  (hw:(DataW.weightsEach P (fn.params.toList++s.plain.varTypes P) (d++gs)).all (·<=reachBytes)=true):
  Calls P f args W fun e C=>∃v,e= .returned v/\s.post enc P fn false true false false W args v C:=by
 have i:=D;obtain⟨p,q,g,hV,rfl,G,K⟩:=D;rw[a] at hV;obtain⟨rfl,rfl⟩:=trodVars_none hV
 have A:s.plain.varTypes P=[]:=by
  unfold DataSpec.varTypes ChangeSpec.plain;simp[a]
 rw[A,List.append_nil,List.append_nil,List.all_eq_true] at hw;obtain⟨hlen,xs,B⟩:=Vs c fn.params.toList args.toList d p l g (fun j t v ht M=>m j t v (by rw[<-Array.getElem?_toList];exact ht) (by rw[<-Array.getElem?_toList];exact M)) (fun k I=>by simpa using hw k I);obtain⟨_,_,hc⟩:=F xs;have n:∀x∈p,x.block<W.heap.size:=fun x B=>i.lt x (List.mem_append_left _ B)
 refine (hc W (fun b=>b<W.heap.size) args.toList (fun _ h=>h) B).mono fun e C ⟨u,bo,he,hb,L⟩=>?_
 have hu:u= .bool true:=by
  rcases L with h | h
  ·cases h
  exact h
 subst hu;refine⟨_,he,d,[],p++[],[],p,[],i,?_,?_,?_,?_,fun h=>by cases h⟩
 ·rw[w,y H d hlen];exact trodAll_mk1 (shut_bool z true)
 ·rw[y H d hlen];exact QO J hb c _ _ d p l g n
 ·rw[a,y H d hlen]
  rfl
 exact hb.frame _
theorem oM {P:Program} {f:FuncId} {fn:Func} {s:ChangeSpec} {c:List T} {tb:TypeId} (K:laidOutB P=true) (l:GV P c fn.params.toList=true)
  (y:fn.resultTypes= #[tb]) (A:P.underlying tb=some .bool) (a:s.vars=[])
  (z:∀(H:Type) (d:List (DataW H)),d.length=c.length->s.fn H (d++[])={results:=[.lit (.bool true)],args:=d})
  (G:∀xs:HL c,RF c xs->F6 P false f (L5 c xs) (.one (.bool true)))
  (H:Type) (enc:TypeId×Value->H) (W:World) (base:Nat) (args:Array Value) (d gs:List (DataW H)) (before:List MemPlace)
  (m:∀(j:Nat) t v,fn.params[j]? =some t->args[j]? =some v->Value.okWide P W .any base t v)
  (F:DataW.Whole enc P fn.params.toList s.vars false W args.toList d gs before)
  (hw:(DataW.weightsEach P (fn.params.toList++s.plain.varTypes P) (d++gs)).all (·<=reachBytes)=true):
  Calls P f args W fun e D=>∃v,e= .returned v/\s.post enc P fn false true false false W args v D:=by
 have i:=F;obtain⟨p,q,g,hV,rfl,I,L⟩:=F;rw[a] at hV;obtain⟨rfl,rfl⟩:=trodVars_none hV
 have B:s.plain.varTypes P=[]:=by
  unfold DataSpec.varTypes ChangeSpec.plain;simp[a]
 rw[B,List.append_nil,List.append_nil,List.all_eq_true] at hw;obtain⟨hlen,xs,C,n⟩:=Vt c fn.params.toList args.toList d p l g (fun j t v ht N=>m j t v (by rw[<-Array.getElem?_toList];exact ht) (by rw[<-Array.getElem?_toList];exact N)) (fun k J=>by simpa using hw k J);obtain⟨_,_,hc⟩:=G xs n;have w:∀x∈p,x.block<W.heap.size:=fun x C=>i.lt x (List.mem_append_left _ C)
 refine (hc W (fun b=>b<W.heap.size) args.toList (fun _ h=>h) C).mono fun e D ⟨u,bo,he,hb,M⟩=>?_
 have hu:u= .bool true:=by
  rcases M with h | h
  ·cases h
  exact h
 subst hu;refine⟨_,he,d,[],p++[],[],p,[],i,?_,?_,?_,?_,fun h=>by cases h⟩
 ·rw[y,z H d hlen];exact trodAll_mk1 (shut_bool A true)
 ·rw[z H d hlen];exact QO K hb c _ _ d p l g w
 ·rw[a,z H d hlen]
  rfl
 exact hb.frame _
end Go.Abs
namespace Go.Abs
open Go.RowKit
def I3:TypeId->Info
 |199|207=>{size:=1,zero:=[.int .i64 0],agg:=true,CP:=false,fields:=[(0,1,false)]}
 | 75=>{size:=6,zero:=[.nil,.nil,.nil,.nil,.nil,.nil],agg:=true,CP:=false,fields:=[(0,2,true),(2,2,true),(4,2,true)]}
 |162|108=>{size:=1,zero:=[.int .i64 0],agg:=true,CP:=false,fields:=[(0,1,false)]}
 | 77=>{size:=6,zero:=[.nil,.nil,.nil,.nil,.nil,.nil],agg:=true,CP:=false,fields:=[(0,4,true),(4,2,true)]}
 | 34=>{size:=9,zero:=[.nil,.nil,.nil,.nil,.nil,.nil,.nil,.nil,.bool false],agg:=true,CP:=false,fields:=[(0,2,true),(2,2,true),(4,2,true),(6,2,true),(8,1,false)]}
 | 28=>{size:=2,zero:=[.int .u8 0,.int .u8 0],agg:=true,CP:=false,fields:=[(0,1,false),(1,1,false)]}
 | 50=>{size:=1,zero:=[.nil],sl:=true,DO:=4,elem:= .bool,CP:=(false:el .bool),GA:=1}
 | 71=>{size:=4,zero:=[.bool false,.int .u8 0,.int .u8 0,.bool false],agg:=true,CP:=false,fields:=[(0,1,false),(1,1,false),(2,1,false),(3,1,false)]}
 | 73=>{size:=9,zero:=[.bool false,.int .u8 0,.int .u8 0,.bool false,.bool false,.int .u8 0,.int .u8 0,.bool false,.int .i64 0],agg:=true,CP:=false,fields:=[(0,4,true),(4,4,true),(8,1,false)]}
 | 79=>{size:=21,zero:=[.int .i64 0,.nil,.nil,.nil,.nil,.nil,.nil,.nil,.nil,.nil,.nil,.nil,.nil,.nil,.nil,.nil,.nil,.nil,.nil,.nil,.nil],agg:=true,CP:=false,fields:=[(0,1,false),(1,6,true),(7,4,true),(11,6,true),(17,4,true)]}
 | 136=>{size:=1,zero:=[.int .i64 0],agg:=true,CP:=false,fields:=[(0,1,false)]}
 | 147=>{size:=10,zero:=[.nil,.nil,.nil,.nil,.nil,.nil,.nil,.nil,.nil,.nil],agg:=true,CP:=false,fields:=[(0,4,true),(4,4,true),(8,2,true)]}
 | 210=>{size:=1,zero:=[.nil],sl:=true,DO:=79,elem:=(.pr .i64 (.pr (.pr Bc BI) (.pr BI (.pr (.pr BI Bc) BI)))),CP:=((0,(([],[]),([],[]),([],[])),(([],[]),([],[])),((([],[]),([],[])),([],[])),(([],[]),([],[]))):el (.pr .i64 (.pr (.pr Bc BI) (.pr BI (.pr (.pr BI Bc) BI))))),GA:=488}
 | t=>TI t
variable {f:FuncId} {r:AV}
theorem ax (t:TypeId):Es Tryz.prog t (I3 t):=by
 unfold I3
 split <;> first | exact NJ _ | exact UG (by kernel_rfl)
def QY (E:Env) (fn:Func) (r:AV) (b1:Option AR) (s:St):Prop:=
 match fn.body with
 | some c=>DH E I3 fn.ntmps c (post I3 fn.results.toList r b1) s
 | none=>False
theorem eu {fn:Func} (d:Tryz.prog.funcs[f]? =some fn) (a:Gq fn=true) {args:List AV} (b:(KH args&&(r.all CX&&(r.wf&&Nat.ble args.length fn.ntmps)))=true)
  (h:∀E,env Tryz.prog=E->QY E fn r none (DT fn.ntmps args none)):F6 Tryz.prog false f args r:=by
 have h:=h _ rfl;unfold QY at h;unfold Gq at a;simp only[Bool.and_eq_true] at a b
 split at h
 ·rename_i c hc
  rw[hc] at a;exact Vf (TI:=I3) (n:=fn.ntmps) (c:=c) (rs:=fn.results.toList) ⟨⟨fn,d,by simpa using a.1,hc,rfl,rfl⟩,a.2,ax,K8⟩ b.1 ⟨b.2.1,b.2.2.1⟩ (Nat.le_of_ble_eq_true b.2.2.2) h
 exact h.elim
def QX (E:Env) (fn:Func) (r:AV) (b0:AR) (s:St):Prop:=
 match fn.body with
 | some c=>DH E I3 fn.ntmps c (Mr I3 fn.results.toList r b0) s
 | none=>False
theorem gS {fn:Func} (g:Tryz.prog.funcs[f]? =some fn) (b:Gq fn=true) {d:AR} {args:List AV} (a:(JL args&&(r.all BZ&&(d.lone&&(Nat.ble args.length fn.ntmps&&Nat.ble 1 fn.ntmps))))=true)
  (h:∀E,env Tryz.prog=E->QX E fn r d (DT fn.ntmps args (some d))):Bp Tryz.prog f args d r:=by
 have h:=h _ rfl;unfold QX at h;unfold Gq at b;simp only[Bool.and_eq_true] at b a
 split at h
 ·rename_i c hc
  rw[hc] at b;exact Wk (TI:=I3) (n:=fn.ntmps) (c:=c) (rs:=fn.results.toList) ⟨⟨fn,g,by simpa using b.1,hc,rfl,rfl⟩,b.2,ax,K8⟩ a.1 a.2.1 a.2.2.1 (Nat.le_of_ble_eq_true a.2.2.2.1) (Nat.le_of_ble_eq_true a.2.2.2.2) h
 exact h.elim
end Go.Abs
namespace Go.Abs
def AI:List UInt32->Nat
 | []=>0
 | x::l=>x.toNat+4294967296*AI l
def JM:Nat->Nat->List UInt32
 | 0,_=>[]
 | f+1,n=>if n=0 then [] else UInt32.ofNat n::JM f (n/4294967296)
def AW (n:Nat):List UInt32:=JM n n
variable {k:Nat} {o:List UInt32}
theorem Rg:∀(f n:Nat),n<=f->JM f n=JM n n
 | 0,n,h=>by rw[show n=0 by omega]
 | f+1,n,h=>by
  cases n with
  | zero=>simp[JM]
  | succ n=>
   simp only[JM];rw[Rg f _ (by omega),Rg n _ (by omega)]
theorem Gx:AW 0=[]:=rfl
theorem Mc {n:Nat} (h:n≠0):AW n=UInt32.ofNat n::AW (n/4294967296):=by
 cases n with
 | zero=>exact (h rfl).elim
 | succ n=>
  show JM (n+1) (n+1)=_
  rw[JM,if_neg (by omega),Rg n _ (by omega)]
  rfl
theorem BW (n:Nat):AI (AW n)=n:=by
 induction n using Nat.strongRecOn with
 | ind n a=>
  by_cases h:n=0
  ·subst h;rfl
  rw[Mc h,AI,a _ (by omega)];simp[UInt32.toNat_ofNat'];omega
theorem E3 (n:Nat):2^(32*(n+1))=4294967296*2^(32*n):=by
 rw[Nat.mul_add,Nat.pow_add,Nat.mul_comm]
theorem On (a b:List UInt32):AI (a++b)=AI a+2^(32*a.length)*AI b:=by
 induction a with
 | nil=>simp[AI]
 | cons x a c=>
  rw[List.cons_append,AI,AI,c,List.length_cons,E3]
  generalize 2^(32*a.length)=p
  grind
theorem Cy (l:List UInt32):AI l<2^(32*l.length):=by
 induction l with
 | nil=>simp[AI]
 | cons x l a=>
  rw[AI,List.length_cons,E3]
  generalize 2^(32*l.length)=p at*
  have:=x.toNat_lt;omega
theorem Gw {n:Nat} (h:n<2^(32*k)):(AW n).length<=k:=by
 induction k generalizing n with
 | zero=>have:n=0:=by simpa using h
         subst this;simp[Gx]
 | succ k b=>
  by_cases a:n=0
  ·subst a;simp[Gx]
  rw[Mc a,List.length_cons];rw[E3] at h;have:=b (n:=n/4294967296) (by omega);omega
theorem X2 {n:Nat} (h:2^(32*k)<=n):k+1<=(AW n).length:=by
 have a:=Cy (AW n);rw[BW] at a;have b:2^(32*k)<2^(32*(AW n).length):=Nat.lt_of_le_of_lt h a;have:=(Nat.pow_lt_pow_iff_right (by decide:1<2)).1 b;omega
theorem Mn {a b:List UInt32} (c:a.length=b.length) (h:AI a=AI b):a=b:=by
 induction a generalizing b with
 | nil=>cases b with
  | nil=>rfl
  | cons _ _=>simp at c
 | cons x a i=>cases b with
  | nil=>simp at c
  | cons y b=>
   simp only[AI] at h;have j:=x.toNat_lt;have l:=y.toNat_lt;have d:x.toNat=y.toNat:=by omega
   have g:AI a=AI b:=by omega
   rw[UInt32.toNat_inj.1 d,i (by simpa using c) g]
theorem Rh {l:List UInt32} (h:l=[]\/2^(32*(l.length-1))<=AI l):AW (AI l)=l:=by
 rcases h with rfl | h
 ·rfl
 apply Mn _ (BW _);have a:=Gw (Cy l);have b:=X2 h;omega
theorem FB {a b:Nat} (h:a<=b:=by omega):(AW a).length<=(AW b).length:=by
 apply Gw;have:=Cy (AW b);rw[BW] at this;omega
theorem GB {n:Nat}:AW n=[]↔n=0:=by
 constructor
 ·intro h;have:=BW n;rw[h] at this;exact this.symm
 rintro rfl;rfl
theorem YA {n:Nat} (h:n≠0):2^(32*((AW n).length-1))<=n:=by
 apply Classical.byContradiction;intro a;have:=Gw (n:=n) (k:=(AW n).length-1) (by omega);have:AW n≠[]:=fun e=>h (GB.1 e)
 have:(AW n).length≠0:=by simpa using this
 omega
theorem FC (l:List UInt32) (x:UInt32):AI (l++[x])=AI l+2^(32*l.length)*x.toNat:=by
 rw[On];simp[AI]
theorem Cq {l:List UInt32} {i:Nat} {x:UInt32} (h:l[i]? =some x):AI (l.take (i+1))=AI (l.take i)+2^(32*i)*x.toNat:=by
 have a:i<l.length:=by
  apply Classical.byContradiction;intro b;rw[List.getElem?_eq_none (by omega)] at h;exact absurd h (by simp)
 rw[List.take_succ_eq_append_getElem a,FC];have:l[i]=x:=by simpa [List.getElem?_eq_getElem a] using h
 rw[this,List.length_take,Nat.min_eq_left (by omega)]
theorem Gj (l:List UInt32) (i:Nat) (h:i<=l.length):AI l=AI (l.take i)+2^(32*i)*AI (l.drop i):=by
 conv=>lhs;rw[<-List.take_append_drop i l,On,List.length_take,Nat.min_eq_left h]
def CR:List UInt32->List UInt32
 | []=>[]
 | x::l=>match CR l with
  | []=>if x=0 then [] else [x]
  | y::r=>x::y::r
theorem KR:∀(l:List UInt32),CR (l++[0])=CR l
 | []=>rfl
 | x::l=>by simp[CR,KR l]
theorem Lj {x:UInt32} (a:x≠0):∀(l:List UInt32),CR (l++[x])=l++[x]
 | []=>by simp[CR,a]
 | y::l=>by
  rw[List.cons_append,CR,Lj a l];cases l <;> rfl
theorem NL (l:List UInt32):CR l=AW (AI l):=by
 induction l with
 | nil=>rfl
 | cons x l b=>
  rw[CR,b,AI];have c:=x.toNat_lt
  by_cases h:AI l=0
  ·rw[h,Gx]
   by_cases a:x=0
   ·subst a;simp[Gx]
   have:x.toNat≠0:=fun e=>a (UInt32.toNat_inj.1 e)
   rw[if_neg a,Mc (by omega),show (x.toNat+4294967296*0)/4294967296=0 by omega,Gx];simp
  rw[Mc (n:=x.toNat+_) (by omega),show (x.toNat+4294967296*AI l)/4294967296=AI l by omega];rw[Mc h]
  show x::_=_
  congr 1
  apply UInt32.toNat_inj.1;rw[UInt32.toNat_ofNat'];omega
def JJ:Nat->Nat->Nat
 | 0,_=>0
 | f+1,n=>if n=0 then 0 else
  let r:=2*JJ f (n/4)
  if (r+1)*(r+1)<=n then r+1 else r
def Br (n:Nat):Nat:=JJ n n
theorem RM:∀(f n:Nat),n<=f->JJ f n*JJ f n<=n/\n<(JJ f n+1)*(JJ f n+1)
 | 0,n,h=>by rw[show n=0 by omega];decide
 | f+1,n,h=>by
  rw[JJ]
  by_cases a:n=0
  ·rw[if_pos a,a];decide
  rw[if_neg a];have:=RM f (n/4) (by omega)
  generalize JJ f (n/4)=r at*
  simp only;have b:(2*r)*(2*r)=4*(r*r):=by grind
  have e2:(2*r+1+1)*(2*r+1+1)=4*((r+1)*(r+1)):=by grind
  split
  ·refine⟨by assumption,?_⟩;rw[e2];omega
  refine⟨?_,by omega⟩;rw[b];omega
theorem MV (n:Nat):Br n*Br n<=n:=(RM n n (Nat.le_refl _)).1
theorem Oe (n:Nat):n<(Br n+1)*(Br n+1):=(RM n n (Nat.le_refl _)).2
theorem Xu {n r:Nat} (c:r*r<=n) (d:n<(r+1)*(r+1)):Br n=r:=by
 have h3:=MV n;have g:=Oe n
 generalize Br n=s at*
 have a:s<r+1:=Nat.mul_self_lt_mul_self_iff.1 (by omega);have b:r<s+1:=Nat.mul_self_lt_mul_self_iff.1 (by omega);omega
theorem EJ {l:List UInt32} {i:Nat} (h:l.length<=i):AI (l.take i)=AI l:=by rw[List.take_of_length_le h]
theorem N0 {A B c xi yi i s:Nat} {w:UInt32} (a:o.length=i) (h:AI o+2^(32*i)*c=A+B) (b:s=c+xi+yi) (hw:w.toNat=s%4294967296):
  AI (o++[w])+2^(32*(i+1))*(s/4294967296)=(A+2^(32*i)*xi)+(B+2^(32*i)*yi):=by
 rw[FC,E3,a,hw]
 generalize 2^(32*i)=P at*
 have:s%4294967296+4294967296*(s/4294967296)=s:=by omega
 have e:P*(s%4294967296)+4294967296*P*(s/4294967296)=P*s:=by rw[<-this];grind
 subst b
 grind
theorem Qa {w:UInt32} (hw:w.toNat≠0):AW (AI (o++[w]))=o++[w]:=by
 apply Rh
 right
 rw[FC,List.length_append];have:2^(32*o.length)*1<=2^(32*o.length)*w.toNat:=Nat.mul_le_mul_left _ (by omega);simp;omega
theorem WL {p q:Nat} (h:AI o=p+q) (a:o.length=(AW p).length):o=AW (p+q):=by
 rw[<-h];refine (Rh ?_).symm
 by_cases b:p=0
 ·left
  subst b;simpa [Gx] using a
 right
 have:=YA b;rw[a];omega
theorem Ij (n:Nat):AI (List.replicate n 0)=0:=by
 induction n with
 | zero=>rfl
 | succ n a=>rw[List.replicate_succ,AI,a];rfl
theorem UD:∀(l:List UInt32),l.take (CR l).length=CR l
 | []=>rfl
 | x::l=>by
  have b:=UD l;rw[CR];cases h:CR l with
  | nil=>
   by_cases a:x=0
   ·simp[a]
   simp[a]
  | cons y r=>
   rw[h] at b;simpa using b
theorem UC (l:List UInt32):(CR l).length<=l.length:=by
 rw[<-UD,List.length_take];omega
theorem FR {l:List UInt32} {n m:Nat} (c:n<=l.length) (hm:m=(CR (l.take n)).length):m<=n/\l.take m=AW (AI (l.take n)):=by
 have b:=UC (l.take n);rw[List.length_take] at b;have a:=UD (l.take n);rw[<-hm,List.take_take,Nat.min_eq_left (by omega)] at a;exact⟨by omega,by rw[a,NL]⟩
end Go.Abs
