/- Part 8 of a proof. Conditions: each theorem's own. -/
import Derived.Deep.Slices
import Derived.ProofKit
import Derived.Test.YtmaoeopjnhfplaaGreatPk06
set_option linter.all false
set_option maxHeartbeats 8000000
set_option maxRecDepth 20000
open Go.Proofs
namespace Go.Abs
abbrev AG:AC:= .sl (.sl AA) []
abbrev AH:AC:= .sl AA []
abbrev B3 (b:Bool) (l:List UInt32):List AC:=[.bool b,.sl .u32 l]
abbrev CX (b:Bool) (l:List UInt32) (c:Bool) (m:List UInt32):List AC:=[.bool b,.sl .u32 l,.bool c,.sl .u32 m]
abbrev As (T1:List (List (el AA))) (A1:List (el AA)):List AC:=[.sl (.sl AA) T1,.sl AA A1]
abbrev AD (T1:List (List (el AA))) (A1:List (el AA)) (T2:List (List (el AA))) (A2:List (el AA)):List AC:=[.sl (.sl AA) T1,.sl AA A1,.sl (.sl AA) T2,.sl AA A2]
abbrev AS (T1:List (List (el AA))) (A1:List (el AA)) (T2:List (List (el AA))) (A2:List (el AA)) (T3:List (List (el AA))) (A3:List (el AA)):List AC:=[.sl (.sl AA) T1,.sl AA A1,.sl (.sl AA) T2,.sl AA A2,.sl (.sl AA) T3,.sl AA A3]
abbrev tS (T1:List (List (el AA))) (A1:List (el AA)) (T2:List (List (el AA))) (A2:List (el AA)) (T3:List (List (el AA))) (A3:List (el AA)) (T4:List (List (el AA))) (A4:List (el AA)):List AC:=[.sl (.sl AA) T1,.sl AA A1,.sl (.sl AA) T2,.sl AA A2,.sl (.sl AA) T3,.sl AA A3,.sl (.sl AA) T4,.sl AA A4]
abbrev B9 (T1:List (List (el AA))) (A1:List (el AA)) (T2:List (List (el AA))) (A2:List (el AA)) (T3:List (List (el AA))) (A3:List (el AA)) (T4:List (List (el AA))) (A4:List (el AA)) (T5:List (List (el AA))) (A5:List (el AA)):List AC:=[.sl (.sl AA) T1,.sl AA A1,.sl (.sl AA) T2,.sl AA A2,.sl (.sl AA) T3,.sl AA A3,.sl (.sl AA) T4,.sl AA A4,.sl (.sl AA) T5,.sl AA A5]
abbrev BQ (T1:List (List (el AA))) (A1:List (el AA)) (T2:List (List (el AA))) (A2:List (el AA)) (T3:List (List (el AA))) (A3:List (el AA)) (T4:List (List (el AA))) (A4:List (el AA)) (m:Bool):List AC:=[.sl (.sl AA) T1,.sl AA A1,.sl (.sl AA) T2,.sl AA A2,.sl (.sl AA) T3,.sl AA A3,.sl (.sl AA) T4,.sl AA A4,.bool m]
def PK:AC->Bool
 | .int _ _=>true | .bool _=>true | .fn _=>true | .nil=>true | .sl _ _=>true
 | _=>false
def NL:List AV->Bool
 | []=>true
 | .one c::l=>PK c&&NL l
 | .agg cs::l=>cs.all PK&&NL l
 | .AI _::_=>false
theorem Z5:∀{c:AC},PK c=true->Bo c c
 |.int _ _,_|.bool _,_|.fn _,_=>rfl
 | .nil,_=> .inl rfl
 | .sl _ _,_=>rfl
theorem Xx:∀{cs:List AC},cs.all PK=true->Bg Bo cs cs
 | [],_=>trivial
 | c::l,h=>by
  rw[List.all_cons,Bool.and_eq_true] at h;exact⟨Z5 h.1,Xx h.2⟩
theorem S3:∀{a:List AV},NL a=true->HI Bo a a
 | [],_=>trivial
 | .one c::l,h=>by
  unfold NL at h;rw[Bool.and_eq_true] at h;exact⟨Z5 h.1,S3 h.2⟩
 | .agg cs::l,h=>by
  unfold NL at h;rw[Bool.and_eq_true] at h;exact⟨Xx h.1,S3 h.2⟩
theorem AB {E:Env} {fl:Bool} {g:FuncId} {args:List AV} {r:AV} {K:AV->Prop} {X:Prop} (b:env Tryz.prog=E) (h:Gv Tryz.prog fl g args r) (c:K r) (d:NL args=true:=by rfl):
 (∃(a:List AV) (r:AV),(Unit->HI Bo args a)/\(Unit->E.C fl g a r)/\K r)\/X:= .inl ⟨args,r,fun _=>S3 d,fun _=>IN b h,c⟩
def Q6:AC->AC
 | .BI t _ _ off len=> .BI t 0 0 off len
 | .BC _ _ off=> .BC 0 0 off
 | c=>c
def Mr:List AV->List AV
 | []=>[]
 | .one c::l=> .one (Q6 c)::Mr l
 | .agg cs::l=> .agg (cs.map Q6)::Mr l
 | .AI x::l=> .AI x::Mr l
def My (id v:Nat):AC->Bool
 |.BI _ i w _ _|.BC i w _=>Nat.beq i id&&Nat.beq w v
 | c=>PK c
def Mz (id v:Nat):List AV->Bool
 | []=>true
 | .one c::l=>My id v c&&Mz id v l
 | .agg cs::l=>cs.all (My id v)&&Mz id v l
 | .AI _::_=>false
theorem aC {id v:Nat}:∀{c:AC},My id v c=true->Kt id v c (Q6 c)
 | .BI _ i w _ _,h=>by
  unfold My at h;rw[Bool.and_eq_true] at h;exact⟨⟨Nat.eq_of_beq_eq_true h.1,Nat.eq_of_beq_eq_true h.2⟩,rfl⟩
 | .BC i w _,h=>by
  unfold My at h;rw[Bool.and_eq_true] at h;exact⟨⟨Nat.eq_of_beq_eq_true h.1,Nat.eq_of_beq_eq_true h.2⟩,rfl⟩
 |.int _ _,_|.bool _,_|.fn _,_=>rfl
 | .nil,_=> .inl rfl
 | .sl _ _,_=>rfl
theorem aA {id v:Nat}:∀{cs:List AC},cs.all (My id v)=true->Bg (Kt id v) cs (cs.map Q6)
 | [],_=>trivial
 | c::l,h=>by
  rw[List.all_cons,Bool.and_eq_true] at h;exact⟨aC h.1,aA h.2⟩
theorem Uf {id v:Nat}:∀{a:List AV},Mz id v a=true->HI (Kt id v) a (Mr a)
 | [],_=>trivial
 | .one c::l,h=>by
  unfold Mz at h;rw[Bool.and_eq_true] at h;exact⟨aC h.1,Uf h.2⟩
 | .agg cs::l,h=>by
  unfold Mz at h;rw[Bool.and_eq_true] at h;exact⟨aA h.1,Uf h.2⟩
theorem AW {E:Env} {g:FuncId} {args:List AV} {r:AV} {bk:Nat->Option BA} {K:Nat->AV->Prop} {c d i P5:Prop} (id v:Nat) (j:env Tryz.prog=E) (h:Bk Tryz.prog g (Mr args) (.var 0 [.int .i64 0]) r) (l:K id r) (hb:bk id=some (.var v [.int .i64 0]):=by rfl) (m:Mz id v args=true:=by rfl):
 c\/d\/i\/(∃(id:Nat) (b:BA) (a:List AV) (r:AV),(Unit->bk id=some b/\HI (Kt id b.BK) args a)/\(Unit->E.D g a (b.Fu 0) r)/\K id r)\/P5:= .inr (.inr (.inr (.inl ⟨id,.var v [.int .i64 0],Mr args,r,fun _=>⟨hb,Uf m⟩,fun _=>H8 j h,l⟩)))
theorem AJ {bk:Nat->Option BA} {t:T}:Fs bk .nil (.sl t []):= .inr (.inl ⟨_,rfl⟩)
theorem Ah {P:Sort _} {C:Prop} {x:Int} (h:C) (a: -9223372036854775808<=x/\x<9223372036854775808:=by omega):(P->Gp x)/\C:=⟨fun _=>a,h⟩
theorem AY {P:Sort _} {A C:Prop} (h:C) (a:A:=by omega):(P->A)/\C:=⟨fun _=>a,h⟩
theorem AF {A B C:Prop} (h:A) (hb:B:=by rfl) (hc:C:=by simp):(Unit->A/\B/\C)/\True:=⟨fun _=>⟨h,hb,hc⟩,trivial⟩
theorem BM {x:Bool} {K:Bool->Prop} (k:K true) (h:x=true:=by decide):∀c,c=x->K c:=fun _ e=>by rw[e,h];exact k
theorem AR {x:Bool} {K:Bool->Prop} (k:K false) (h:x=false:=by decide):∀c,c=x->K c:=fun _ e=>by rw[e,h];exact k
theorem Av {f:FuncId} {fn:Func} (a:Tryz.prog.funcs[f]? =some fn) {args:List AV} {r:AV} (h:∀E,env Tryz.prog=E->N8 E fn r none (Eh fn.ntmps args none)) (b:Hr fn=true:=by kernel_rfl) (c:(Lz args&&(r.all C6&&(r.wf&&Nat.ble args.length fn.ntmps)))=true:=by rfl):Gv Tryz.prog false f args r:=jg a b c h
end Go.Abs
namespace Go.Abs
open Go.RowKit Go.ChangeShapes Go.WideShapes Go.Deep
def Lt (P:Program) (k:IntKind) (t:TypeId):Bool:=match P.underlying t with | some (.int j)=>decide (j=k) | _=>false
def okF (P:Program) (ok:T->TypeId->Bool):T->List Field->Nat->Bool
 | _,[],_=>false
 | t,[f],o=>f.offset==o&&(P.cellsOf f.type==t.size&&ok t f.type)
 | .pr a b,f::fs,o=>(f.offset==o&&(P.cellsOf f.type==a.size&&ok a f.type))&&okF P ok b fs (o+a.size)
 | _,_,_=>false
def Hk (P:Program):Nat->T->TypeId->Bool
 | 0,_,_=>false
 | n+1,τ,t=>match τ with
  | .u8=>Lt P .u8 t
  | .u32=>Lt P .u32 t
  | .u64=>Lt P .u64 t
  | .i8=>Lt P .i8 t
  | .i64=>Lt P .i64 t
  | .bool=>match P.underlying t with | some .bool=>true | _=>false
  | .sl e=>match P.underlying t with | some (.slice u)=>Hk P n e u&&(P.cellsOf u==e.size&&decide (0<P.bytesOf u)) | _=>false
  | .pr a b=>match P.underlying t with | some (.struct fs)=>okF P (Hk P n) (.pr a b) fs.toList 0&&P.cellsOf t==a.size+b.size | _=>false
theorem JT {P:Program} {k:IntKind} {t:TypeId} (h:Lt P k t=true):P.underlying t=some (.int k):=by
 unfold Lt at h
 split at h
 ·rename_i j e;rw[e,of_decide_eq_true h]
 simp at h
theorem Wd {k:IntKind} {n:Int} (h:(Lit.int k n).wf=true):k.min<=n/\n<=k.max:=by
 simpa [Lit.wf] using h
theorem bQ {H:Type} {enc:TypeId×Value->H} {P:Program} {w:World} {base:Nat} {sp:Nat->Bool} {l:Bool} {n:Nat} {cs:List Value} {ok:T->TypeId->Bool}
  (c:∀(T:T) (t:TypeId) (cs:List Value) (x:DataW H×List MemPlace),ok T t=true->DataW.trod enc P w base sp l n t cs=some x->(∀k∈x.1.weights P t,k<=reachBytes)->∃y:el T,rep w (fun b=>b<w.heap.size) T y cs):
  ∀(T:T) (fs:List Field) (o:Nat),okF P ok T fs o=true->cs.length=o+T.size->
   (∀(i:Nat) (f:Field),fs[i]? =some f->∃x,DataW.trod enc P w base sp l n f.type ((cs.drop f.offset).take (P.cellsOf f.type))=some x/\∀k∈x.1.weights P f.type,k<=reachBytes)->∃y:el T,rep w (fun b=>b<w.heap.size) T y (cs.drop o)
 | T,[],o,h,_,_=>by cases T <;> simp[okF] at h
 | T,[f],o,h,s,d=>by
  have h':(f.offset==o&&(P.cellsOf f.type==T.size&&ok T f.type))=true:=by cases T <;> exact h
  simp only[Bool.and_eq_true,beq_iff_eq] at h';obtain⟨x,d,hw⟩:=d 0 f rfl;rw[h'.1,h'.2.1,List.take_of_length_le (by rw[List.length_drop];omega)] at d;exact c T _ _ _ h'.2.2 d hw
 | .pr a b,f::g::fs,o,h,s,d=>by
  have h':((f.offset==o&&(P.cellsOf f.type==a.size&&ok a f.type))&&okF P ok b (g::fs) (o+a.size))=true:=h;simp only[Bool.and_eq_true,beq_iff_eq] at h';have u:(T.pr a b).size=a.size+b.size:=rfl;obtain⟨x,j,hw⟩:=d 0 f rfl;rw[h'.1.1,h'.1.2.1] at j;obtain⟨y1,m⟩:=c a _ _ _ h'.1.2.2 j hw;obtain⟨y2,p⟩:=bQ c b (g::fs) (o+a.size) h'.2 (by omega) (fun i f q=>d (i+1) f q);refine⟨(y1,y2),_,_,?_,m,p⟩;rw[<-List.drop_drop,List.take_append_drop]
 |.u8,f::g::fs,o,h,_,_|.u32,f::g::fs,o,h,_,_|.u64,f::g::fs,o,h,_,_|.i8,f::g::fs,o,h,_,_|.i64,f::g::fs,o,h,_,_|.bool,f::g::fs,o,h,_,_|.sl _,f::g::fs,o,h,_,_=>by simp[okF] at h
theorem eB {w:World} {a:Addr} {v:Value} (h:w.cell? a=some v):a.spot=none/\a.block<w.heap.size:=by
 unfold World.cell? at h
 split at h
 ·rename_i c e l hc
  refine⟨?_,(Array.getElem?_eq_some_iff.1 hc).1⟩;cases b:a.spot with
  | none=>rfl
  | some x=>simp[b] at h
 simp at h
theorem QA {a:Addr} (h:a.spot=none) (i:Nat):a.add i=⟨a.block,a.off+i,none⟩:=by
 unfold Addr.add;cases a;simp only at h;subst h
 split <;> simp_all
theorem aH {α:Type} {p:Nat->α->Prop}:∀(n:Nat),(∀i,i<n->∃x,p i x)->∃l:List α,l.length=n/\∀i x,l[i]? =some x->p i x
 | 0,_=>⟨[],rfl,fun i x h=>by simp at h⟩
 | n+1,h=>by
  obtain⟨l,b,g⟩:=aH n fun i c=>h i (by omega)
  obtain⟨x,j⟩:=h n (by omega);refine⟨l++[x],by simp[b],fun i y a=>?_⟩
  by_cases c:i<n
  ·rw[List.getElem?_append_left (by omega)] at a;exact g i y a
  rw[List.getElem?_append_right (by omega)] at a
  have:i=n:=by
   apply Classical.byContradiction;intro d;rw[List.getElem?_eq_none (by simp;omega)] at a;simp at a
  subst this;rw[b,Nat.sub_self] at a;simp at a;subst a;exact j
theorem ae {H:Type} {P:Program} {e:TypeId} {d:DataW H} {q:Nat}:∀{l:List (DataW H)},d∈l->q∈d.weights P e->q∈DataW.weightsAll P e l
 | [],h,_=>by simp at h
 | a::l,h,b=>by
  rw[DataW.weightsAll,List.mem_append];rcases List.mem_cons.1 h with rfl | h
  ·exact .inl b
  exact .inr (ae h b)
theorem af {H:Type} {P:Program} {q:Nat}:∀{ts:List TypeId} {l:List (DataW H)} (i:Nat) (t:TypeId) (d:DataW H),ts[i]? =some t->l[i]? =some d->q∈d.weights P t->q∈DataW.weightsEach P ts l
 |[],_,i,t,d,h,_,_|_::_,[],i,t,d,_,h,_=>by simp at h
 | u::ts,a::l,0,t,d,h,h',b=>by
  rw[DataW.weightsEach,List.mem_append];simp at h h';subst h;subst h';exact .inl b
 | u::ts,a::l,i+1,t,d,h,h',b=>by
  rw[DataW.weightsEach,List.mem_append];exact .inr (af i t d h h' b)
theorem Rh {H:Type} {enc:TypeId×Value->H} {P:Program} {w:World} {base:Nat} {sp:Nat->Bool} {hd:Bool}:
  ∀(m:Nat) (T:T) (t:TypeId),Hk P m T t=true->∀(n:Nat) (cs:List Value) (x:DataW H×List MemPlace),DataW.trod enc P w base sp hd n t cs=some x->(∀k∈x.1.weights P t,k<=reachBytes)->
   ∃y:el T,rep w (fun b=>b<w.heap.size) T y cs
 | 0,_,_,h,_,_,_,_,_=>by simp[Hk] at h
 | m+1,.u8,t,h,n,cs,x,c,hw=>by
  obtain⟨v,rfl,rfl,d⟩:=DataW.trod_int (JT h) c;have hb:(0:Int)<=v/\v<=255:=Wd d;refine⟨UInt8.ofNat v.toNat,?_⟩
  show [Value.int .u8 v]=[Value.int .u8 _]
  rw[UInt8.toNat_ofNat'];congr 2;omega
 | m+1,.u32,t,h,n,cs,x,c,hw=>by
  obtain⟨v,rfl,rfl,d⟩:=DataW.trod_int (JT h) c;have hb:(0:Int)<=v/\v<=4294967295:=Wd d;refine⟨UInt32.ofNat v.toNat,?_⟩
  show [Value.int .u32 v]=[Value.int .u32 _]
  rw[UInt32.toNat_ofNat'];congr 2;omega
 | m+1,.u64,t,h,n,cs,x,c,hw=>by
  obtain⟨v,rfl,rfl,d⟩:=DataW.trod_int (JT h) c;have hb:(0:Int)<=v/\v<=18446744073709551615:=Wd d;refine⟨UInt64.ofNat v.toNat,?_⟩
  show [Value.int .u64 v]=[Value.int .u64 _]
  rw[UInt64.toNat_ofNat'];congr 2;omega
 | m+1,.i8,t,h,n,cs,x,c,hw=>by
  obtain⟨v,rfl,rfl,d⟩:=DataW.trod_int (JT h) c;exact⟨v,rfl⟩
 | m+1,.i64,t,h,n,cs,x,c,hw=>by
  obtain⟨v,rfl,rfl,d⟩:=DataW.trod_int (JT h) c;exact⟨v,rfl⟩
 | m+1,.bool,t,h,n,cs,x,c,hw=>by
  have h':(match P.underlying t with | some .bool=>true | _=>false)=true:=h
  split at h'
  ·rename_i e
   obtain⟨v,rfl,rfl⟩:=DataW.trod_bool e c;exact⟨v,rfl⟩
  simp at h'
 | m+1,.sl e,t,h,n,cs,x,c,hw=>by
  have h':(match P.underlying t with | some (.slice u)=>Hk P m e u&&(P.cellsOf u==e.size&&decide (0<P.bytesOf u)) | _=>false)=true:=h
  split at h'
  ·rename_i u hu
   simp only[Bool.and_eq_true,beq_iff_eq,decide_eq_true_eq] at h';rcases open_slice hu c with⟨rfl,rfl⟩ |⟨a,len,cap,k,j,D,Pl,rfl,hb,Q,Z,hk,B,K⟩
   ·exact⟨[],none,0,rfl,Nat.le_refl _,Nat.zero_le _,.inl rfl⟩
   have a2:len<=k:=by rw[hk];split <;> omega
   rw[h'.2.1] at K;rw[B] at hw
   have J:DataW.weights P t (DataW.slice ((List.range len).map D) ((List.range (k-len)).map fun j=>D (len+j)))=(((List.range len).map D).length+((List.range (k-len)).map fun j=>D (len+j)).length)*P.bytesOf u::(DataW.weightsAll P u ((List.range len).map D)++DataW.weightsAll P u ((List.range (k-len)).map fun j=>D (len+j))):=by
    unfold DataW.weights;rw[hu]
   have I:len<=140737488355328:=by
    have:=hw _ (by rw[J];exact List.mem_cons_self);simp only[List.length_map,List.length_range] at this;have h3:len<=(len+(k-len))*P.bytesOf u:=Nat.le_trans (Nat.le_add_right _ _) (Nat.le_mul_of_pos_right _ h'.2.2);have h4:reachBytes<=140737488355328:=by decide
    omega
   have U:=T.size_pos e
   have L:0<len->a.spot=none:=fun C=>by
    obtain⟨us,hc,ht⟩:=K 0 (by omega);obtain⟨_,hlen,g⟩:=World.cells?_some hc;have C:=g 0 U;rw[List.getElem?_eq_getElem (by omega),Nat.zero_mul] at C;have F:=(eB C).1;unfold Addr.add at F;simpa using F
   obtain⟨l,hl,S⟩:=aH (α:=el e) (p:=fun i y=>∃us,rep w (fun b=>b<w.heap.size) e y us/\a.spot=none/\a.block<w.heap.size/\w.rangeAt a.block (a.off+i*e.size) us) len (fun i N=>by
    obtain⟨us,hc,ht⟩:=K i (by omega);obtain⟨y,hy⟩:=Rh m e u h'.1 _ _ _ ht (fun q R=>hw q (by rw[J];exact List.mem_cons_of_mem _ (List.mem_append_left _ (ae (List.mem_map.2 ⟨i,List.mem_range.2 N,rfl⟩) R))));obtain⟨_,hlen,g⟩:=World.cells?_some hc;have C:=g 0 U;rw[List.getElem?_eq_getElem (by omega)] at C;have F:=eB C;have ha:a.spot=none:=L (by omega)
    have A:a.block<w.heap.size:=by
     have:=F.2;rw[QA ha,QA rfl] at this;exact this
    refine⟨y,us,hy,ha,A,fun j v O=>?_⟩
    have a1:j<us.length:=by
     apply Classical.byContradiction;intro hn;rw[List.getElem?_eq_none (by omega)] at O;simp at O
    have:=g j (by omega);rw[QA ha,QA rfl] at this;rw[this];exact O)
   subst hl;refine⟨l,some a,cap,rfl,Q,I,?_⟩;cases l with
   | nil=>exact .inl rfl
   | cons y l=>
    right
    obtain⟨_,_,ha,A,_⟩:=S 0 y rfl;obtain⟨V,W,X⟩:=a;simp only at ha;subst ha;exact⟨V,W,rfl,A,fun i z hz=>by obtain⟨us,F,_,_,Y⟩:=S i z hz;exact⟨us,F,Y⟩⟩
  simp at h'
 | m+1,.pr a b,t,h,n,cs,x,c,hw=>by
  have h':(match P.underlying t with | some (.struct fs)=>okF P (Hk P m) (.pr a b) fs.toList 0&&P.cellsOf t==a.size+b.size | _=>false)=true:=h
  split at h'
  ·rename_i fs hu
   simp only[Bool.and_eq_true,beq_iff_eq] at h';obtain⟨xs,n',_,B,M,a5,hf⟩:=DataW.trod_struct hu c
   have:=bQ (w:=w) (n:=n') (cs:=cs) (ok:=Hk P m) (fun T t cs x ho c hw=>Rh m T t ho n' cs x c hw) (.pr a b) fs.toList 0 h'.1 (by rw[M,h'.2,Nat.zero_add];rfl) (fun i f G=>by
    have s:fs[i]? =some f:=by rw[<-Array.getElem?_toList];exact G
    have K:i<fs.size:=(Array.getElem?_eq_some_iff.1 s).1;rw[hf i f s];refine⟨xs[i]'(by omega),List.getElem?_eq_getElem (by omega),fun q R=>hw q ?_⟩;rw[B]
    have e:DataW.weights P t (DataW.agg (xs.map (·.1)))=DataW.weightsEach P (fs.toList.map (·.type)) (xs.map (·.1)):=by
     unfold DataW.weights;rw[hu]
    rw[e];exact af i f.type (xs[i]'(by omega)).1 (by rw[List.getElem?_map,G];rfl) (by rw[List.getElem?_map,List.getElem?_eq_getElem (by omega)];rfl) R)
   exact this
  simp at h'
end Go.Abs
namespace Go.Abs
open Go.RowKit Go.ChangeShapes Go.WideShapes Go.Deep
def HL:List T->Type
 | []=>PUnit
 | t::ts=>el t×HL ts
def N0:(ts:List T)->HL ts->List AV
 | [],_=>[]
 | t::ts,x=>YA t x.1::N0 ts x.2
def HS (P:Program):List T->List TypeId->Bool
 | [],[]=>true
 | τ::τs,t::ts=>(Hk P 20 τ t&&(P.readableRec t&&decide (t<P.types.size)))&&HS P τs ts
 | _,_=>false
theorem MQ {v:Value} {c:Value} (h:v.cells.toList=[c]) (a:v.oneCell'=true):v=c:=by
 rw[bT a] at h;simpa using h
theorem cu {P:Program} {w:World} {I:Nat->Prop} {r:Reach} {b:Nat} {m:Nat}:∀{τ:T} {t:TypeId} {v:Value} {y:el τ},Hk P (m+1) τ t=true->Value.okWide P w r b t v->rep w I τ y v.cells.toList->CB (E7 w I) (YA τ y) v
 | .u8,t,v,y,h,g,d=>by
  obtain⟨n,rfl⟩:=okWide_int (JT h) g;exact .inr (MQ d rfl)
 | .u32,t,v,y,h,g,d=>by
  obtain⟨n,rfl⟩:=okWide_int (JT h) g;exact .inr (MQ d rfl)
 | .u64,t,v,y,h,g,d=>by
  obtain⟨n,rfl⟩:=okWide_int (JT h) g;exact .inr (MQ d rfl)
 | .i8,t,v,y,h,g,d=>by
  obtain⟨n,rfl⟩:=okWide_int (JT h) g;exact .inr (MQ d rfl)
 | .i64,t,v,y,h,g,d=>by
  obtain⟨n,rfl⟩:=okWide_int (JT h) g;exact .inr (MQ d rfl)
 | .bool,t,v,y,h,g,d=>by
  have h':(match P.underlying t with | some .bool=>true | _=>false)=true:=h
  split at h'
  ·rename_i e
   obtain⟨n,rfl⟩:=okWide_bool e g;exact .inr (MQ d rfl)
  simp at h'
 | .sl e,t,v,y,h,g,d=>by
  have h':(match P.underlying t with | some (.slice u)=>Hk P m e u&&(P.cellsOf u==e.size&&decide (0<P.bytesOf u)) | _=>false)=true:=h
  split at h'
  ·rename_i u hu
   obtain⟨a,l,c,rfl⟩:=okWide_slice hu g;exact .inr d
  simp at h'
 | .pr a b',t,v,y,h,g,d=>by
  have h':(match P.underlying t with | some (.struct fs)=>okF P (Hk P m) (.pr a b') fs.toList 0&&P.cellsOf t==a.size+b'.size | _=>false)=true:=h
  split at h'
  ·rename_i fs hu
   obtain⟨cs,rfl,_⟩:=okWide_struct hu g;exact⟨cs,rfl,(Jg (E7 w I) _ _ _).1 d⟩
  simp at h'
theorem X8 {H:Type} {enc:TypeId×Value->H} {P:Program} {w:World} {base:Nat}:∀(a:List T) (ts:List TypeId) (vs:List Value) (c:List (DataW H)) (m:List MemPlace),HS P a ts=true->
  DataW.TrodAll enc P w 0 (fun _=>true) true ts vs c m->(∀(j:Nat) t v,ts[j]? =some t->vs[j]? =some v->Value.okWide P w .any base t v)->(∀k∈DataW.weightsEach P ts c,k<=reachBytes)->
   c.length=a.length/\∃xs:HL a,BO (CB (E7 w fun b=>b<w.heap.size)) (N0 a xs) vs
 | [],[],[],[],_,_,_,_,_=>⟨rfl,⟨⟩,trivial⟩
 | τ::a,t::ts,v::vs,d::c,m,h,⟨p,q,s,z,_⟩,l,hw=>by
  have h':((Hk P 20 τ t&&(P.readableRec t&&decide (t<P.types.size)))&&HS P a ts)=true:=h;simp only[Bool.and_eq_true] at h';obtain⟨e,xs,i⟩:=X8 a ts vs c q h'.2 z (fun j u x hu i=>l (j+1) u x hu i) (fun k g=>hw k (by rw[DataW.weightsEach];exact List.mem_append_right _ g));obtain⟨n,A⟩:=s;obtain⟨y,B⟩:=Rh 20 τ t h'.1.1 n _ _ A (fun k g=>hw k (by rw[DataW.weightsEach];exact List.mem_append_left _ g));exact⟨by simp[e],(y,xs),cu h'.1.1 (l 0 t v rfl rfl) B,i⟩
 |[],t::ts,_,_,_,h,_,_,_|_::_,[],_,_,_,h,_,_,_=>by simp[HS] at h
 |[],[],[],_::_,_,_,h,_,_|[],[],_::_,_,_,_,h,_,_|_::_,_::_,[],_,_,_,h,_,_|_::_,_::_,_::_,[],_,_,h,_,_=>h.elim
theorem TC {H:Type} {enc:TypeId×Value->H} {P:Program} (m:laidOutB P=true) {W l:World} (hb:Below W.heap.size W l):∀(a:List T) (ts:List TypeId) (vs:List Value) (g:List (DataW H)) (i:List MemPlace),HS P a ts=true->
  DataW.TrodAll enc P W 0 (fun _=>true) true ts vs g i->(∀p∈i,p.block<W.heap.size)->DataW.TrodAll enc P l 0 (fun b=>decide (b<W.heap.size)) true ts vs g i
 | [],[],[],[],_,_,h,_=>h
 | τ::a,t::ts,v::vs,d::g,i,h,⟨p,q,n,s,e⟩,c=>by
  have h':((Hk P 20 τ t&&(P.readableRec t&&decide (t<P.types.size)))&&HS P a ts)=true:=h;simp only[Bool.and_eq_true,decide_eq_true_eq] at h';subst e;exact⟨p,q,Below.trod m h'.1.2.1 h'.1.2.2 n hb (fun x j=>c x (List.mem_append_left _ j)),TC m hb a ts vs g q h'.2 s (fun x j=>c x (List.mem_append_right _ j)),rfl⟩
 |[],t::ts,_,_,_,h,_,_|_::_,[],_,_,_,h,_,_=>by simp[HS] at h
 |[],[],[],_::_,_,_,h,_|[],[],_::_,_,_,_,h,_|_::_,_::_,[],_,_,_,h,_|_::_,_::_,_::_,[],_,_,h,_=>h.elim
def Qw:(t:T)->el t->Prop
 | .i64,n=>Gp n
 | .pr a b,x=>Qw a x.1/\Qw b x.2
 | _,_=>True
def UR:(ts:List T)->HL ts->Prop
 | [],_=>True
 | t::ts,x=>Qw t x.1/\UR ts x.2
theorem TP {P:Program} {w:World} {r:Reach} {b:Nat} {u:TypeId} {n:Int} (h:Cell.okWide P w r b u (.int .i64 n)):Gp n:=by
 cases hu:P.underlying u with
 | none=>simp[Cell.okWide,Cell.ok,hu] at h
 | some d=>
  cases d <;> simp[Cell.okWide,Cell.ok,hu] at h
  obtain⟨rfl,a,c⟩:=h;have e1:IntKind.i64.min= -9223372036854775808:=rfl;have e2:IntKind.i64.max=9223372036854775807:=rfl;unfold Gp;omega
theorem kW {P:Program} {w:World} {r:Reach} {b:Nat} {t:TypeId} {v:Value} (h:Value.okWide P w r b t v):∀n,Value.int .i64 n∈v.cells.toList->Gp n:=by
 intro n a;unfold Value.okWide at h
 split at h
 ·obtain⟨cs,rfl,_,ts,_,_,h3⟩:=h;obtain⟨i,c⟩:=List.mem_iff_getElem?.1 (show Value.int .i64 n∈cs.toList from a);obtain⟨u,_,hu⟩:=h3 i _ (by rw[<-Array.getElem?_toList];exact c);exact TP hu
 ·obtain⟨cs,rfl,_,ts,_,_,h3⟩:=h;obtain⟨i,c⟩:=List.mem_iff_getElem?.1 (show Value.int .i64 n∈cs.toList from a);obtain⟨u,_,hu⟩:=h3 i _ (by rw[<-Array.getElem?_toList];exact c);exact TP hu
 cases v with
 | agg cs=>
  cases hu:P.underlying t with
  | none=>simp[Cell.okWide,Cell.ok,hu] at h
  | some d=>cases d <;> simp[Cell.okWide,Cell.ok,hu] at h
 | int k m=>
  have e:Value.int .i64 n=Value.int k m:=by simpa [Value.cells] using a
  rw[<-e] at h;exact TP h
 | _=>exact absurd a (by simp[Value.cells])
theorem US {w:World} {I:Nat->Prop}:∀(t:T) (y:el t) (vs:List Value),rep w I t y vs->(∀n,Value.int .i64 n∈vs->Gp n)->Qw t y
 | .i64,y,_,d,h=>h y (by rw[show _=_ from d];exact List.mem_singleton.2 rfl)
 | .pr a b,y,_,d,h=>by
  obtain⟨v1,v2,rfl,g,i⟩:=d;exact⟨US a _ _ g fun n c=>h n (List.mem_append_left _ c),US b _ _ i fun n c=>h n (List.mem_append_right _ c)⟩
 |.u8,_,_,_,_|.u32,_,_,_,_|.u64,_,_,_,_|.i8,_,_,_,_|.bool,_,_,_,_|.sl _,_,_,_,_=>trivial
theorem X9 {H:Type} {enc:TypeId×Value->H} {P:Program} {w:World} {base:Nat}:∀(a:List T) (ts:List TypeId) (vs:List Value) (c:List (DataW H)) (s:List MemPlace),HS P a ts=true->
  DataW.TrodAll enc P w 0 (fun _=>true) true ts vs c s->(∀(j:Nat) t v,ts[j]? =some t->vs[j]? =some v->Value.okWide P w .any base t v)->(∀k∈DataW.weightsEach P ts c,k<=reachBytes)->
   c.length=a.length/\∃xs:HL a,BO (CB (E7 w fun b=>b<w.heap.size)) (N0 a xs) vs/\UR a xs
 | [],[],[],[],_,_,_,_,_=>⟨rfl,⟨⟩,trivial,trivial⟩
 | τ::a,t::ts,v::vs,d::c,s,h,⟨p,q,z,A,_⟩,i,hw=>by
  have h':((Hk P 20 τ t&&(P.readableRec t&&decide (t<P.types.size)))&&HS P a ts)=true:=h;simp only[Bool.and_eq_true] at h';obtain⟨e,xs,l,B⟩:=X9 a ts vs c q h'.2 A (fun j u x hu l=>i (j+1) u x hu l) (fun k g=>hw k (by rw[DataW.weightsEach];exact List.mem_append_right _ g));obtain⟨n,C⟩:=z;obtain⟨y,m⟩:=Rh 20 τ t h'.1.1 n _ _ C (fun k g=>hw k (by rw[DataW.weightsEach];exact List.mem_append_left _ g));exact⟨by simp[e],(y,xs),⟨cu h'.1.1 (i 0 t v rfl rfl) m,l⟩,US _ _ _ m (kW (i 0 t v rfl rfl)),B⟩
 |[],t::ts,_,_,_,h,_,_,_|_::_,[],_,_,_,h,_,_,_=>by simp[HS] at h
 |[],[],[],_::_,_,_,h,_,_|[],[],_::_,_,_,_,h,_,_|_::_,_::_,[],_,_,_,h,_,_|_::_,_::_,_::_,[],_,_,h,_,_=>h.elim
theorem tP {P:Program} {f:FuncId} {fn:Func} {s:ChangeSpec} {c:List T} {tb:TypeId} (J:laidOutB P=true) (l:HS P c fn.params.toList=true)
  (w:fn.resultTypes= #[tb]) (z:P.underlying tb=some .bool) (a:s.vars=[])
  (y:∀(H:Type) (d:List (DataW H)),d.length=c.length->s.fn H (d++[])={results:=[.lit (.bool true)],args:=d})
  (F:∀xs:HL c,Gv P false f (N0 c xs) (.one (.bool true)))
  (H:Type) (enc:TypeId×Value->H) (W:World) (base:Nat) (args:Array Value) (d gs:List (DataW H)) (before:List MemPlace)
  (m:∀(j:Nat) t v,fn.params[j]? =some t->args[j]? =some v->Value.okWide P W .any base t v)
  (D:DataW.Whole enc P fn.params.toList s.vars false W args.toList d gs before)
  (hw:(DataW.weightsEach P (fn.params.toList++s.plain.varTypes P) (d++gs)).all (·<=reachBytes)=true):
  Calls P f args W fun e C=>∃v,e= .returned v/\s.post enc P fn false true false false W args v C:=by
 have i:=D;obtain⟨p,q,g,hV,rfl,G,K⟩:=D;rw[a] at hV;obtain⟨rfl,rfl⟩:=trodVars_none hV
 have A:s.plain.varTypes P=[]:=by
  unfold DataSpec.varTypes ChangeSpec.plain;simp[a]
 rw[A,List.append_nil,List.append_nil,List.all_eq_true] at hw;obtain⟨hlen,xs,B⟩:=X8 c fn.params.toList args.toList d p l g (fun j t v ht M=>m j t v (by rw[<-Array.getElem?_toList];exact ht) (by rw[<-Array.getElem?_toList];exact M)) (fun k I=>by simpa using hw k I);obtain⟨_,_,hc⟩:=F xs;have n:∀x∈p,x.block<W.heap.size:=fun x B=>i.lt x (List.mem_append_left _ B)
 refine (hc W (fun b=>b<W.heap.size) args.toList (fun _ h=>h) B).mono fun e C ⟨u,bo,he,hb,L⟩=>?_
 have hu:u= .bool true:=by
  rcases L with h | h
  ·cases h
  exact h
 subst hu;refine⟨_,he,d,[],p++[],[],p,[],i,?_,?_,?_,?_,fun h=>by cases h⟩
 ·rw[w,y H d hlen];exact trodAll_mk1 (shut_bool z true)
 ·rw[y H d hlen];exact TC J hb c _ _ d p l g n
 ·rw[a,y H d hlen]
  rfl
 exact hb.frame _
theorem tQ {P:Program} {f:FuncId} {fn:Func} {s:ChangeSpec} {c:List T} {tb:TypeId} (K:laidOutB P=true) (l:HS P c fn.params.toList=true)
  (y:fn.resultTypes= #[tb]) (A:P.underlying tb=some .bool) (a:s.vars=[])
  (z:∀(H:Type) (d:List (DataW H)),d.length=c.length->s.fn H (d++[])={results:=[.lit (.bool true)],args:=d})
  (G:∀xs:HL c,UR c xs->Gv P false f (N0 c xs) (.one (.bool true)))
  (H:Type) (enc:TypeId×Value->H) (W:World) (base:Nat) (args:Array Value) (d gs:List (DataW H)) (before:List MemPlace)
  (m:∀(j:Nat) t v,fn.params[j]? =some t->args[j]? =some v->Value.okWide P W .any base t v)
  (F:DataW.Whole enc P fn.params.toList s.vars false W args.toList d gs before)
  (hw:(DataW.weightsEach P (fn.params.toList++s.plain.varTypes P) (d++gs)).all (·<=reachBytes)=true):
  Calls P f args W fun e D=>∃v,e= .returned v/\s.post enc P fn false true false false W args v D:=by
 have i:=F;obtain⟨p,q,g,hV,rfl,I,L⟩:=F;rw[a] at hV;obtain⟨rfl,rfl⟩:=trodVars_none hV
 have B:s.plain.varTypes P=[]:=by
  unfold DataSpec.varTypes ChangeSpec.plain;simp[a]
 rw[B,List.append_nil,List.append_nil,List.all_eq_true] at hw;obtain⟨hlen,xs,C,n⟩:=X9 c fn.params.toList args.toList d p l g (fun j t v ht N=>m j t v (by rw[<-Array.getElem?_toList];exact ht) (by rw[<-Array.getElem?_toList];exact N)) (fun k J=>by simpa using hw k J);obtain⟨_,_,hc⟩:=G xs n;have w:∀x∈p,x.block<W.heap.size:=fun x C=>i.lt x (List.mem_append_left _ C)
 refine (hc W (fun b=>b<W.heap.size) args.toList (fun _ h=>h) C).mono fun e D ⟨u,bo,he,hb,M⟩=>?_
 have hu:u= .bool true:=by
  rcases M with h | h
  ·cases h
  exact h
 subst hu;refine⟨_,he,d,[],p++[],[],p,[],i,?_,?_,?_,?_,fun h=>by cases h⟩
 ·rw[y,z H d hlen];exact trodAll_mk1 (shut_bool A true)
 ·rw[z H d hlen];exact TC K hb c _ _ d p l g w
 ·rw[a,z H d hlen]
  rfl
 exact hb.frame _
end Go.Abs
namespace Go.Abs
open Go.RowKit
def Kc:TypeId->Info
 |199|207=>{size:=1,zero:=[.int .i64 0],agg:=true,Ck:=false,fields:=[(0,1,false)]}
 | 75=>{size:=6,zero:=[.nil,.nil,.nil,.nil,.nil,.nil],agg:=true,Ck:=false,fields:=[(0,2,true),(2,2,true),(4,2,true)]}
 |162|108=>{size:=1,zero:=[.int .i64 0],agg:=true,Ck:=false,fields:=[(0,1,false)]}
 | 77=>{size:=6,zero:=[.nil,.nil,.nil,.nil,.nil,.nil],agg:=true,Ck:=false,fields:=[(0,4,true),(4,2,true)]}
 | 34=>{size:=9,zero:=[.nil,.nil,.nil,.nil,.nil,.nil,.nil,.nil,.bool false],agg:=true,Ck:=false,fields:=[(0,2,true),(2,2,true),(4,2,true),(6,2,true),(8,1,false)]}
 | 28=>{size:=2,zero:=[.int .u8 0,.int .u8 0],agg:=true,Ck:=false,fields:=[(0,1,false),(1,1,false)]}
 | 50=>{size:=1,zero:=[.nil],sl:=true,Ef:=4,elem:= .bool,Ck:=(false:el .bool),G0:=1}
 | 71=>{size:=4,zero:=[.bool false,.int .u8 0,.int .u8 0,.bool false],agg:=true,Ck:=false,fields:=[(0,1,false),(1,1,false),(2,1,false),(3,1,false)]}
 | 73=>{size:=9,zero:=[.bool false,.int .u8 0,.int .u8 0,.bool false,.bool false,.int .u8 0,.int .u8 0,.bool false,.int .i64 0],agg:=true,Ck:=false,fields:=[(0,4,true),(4,4,true),(8,1,false)]}
 | 79=>{size:=21,zero:=[.int .i64 0,.nil,.nil,.nil,.nil,.nil,.nil,.nil,.nil,.nil,.nil,.nil,.nil,.nil,.nil,.nil,.nil,.nil,.nil,.nil,.nil],agg:=true,Ck:=false,fields:=[(0,1,false),(1,6,true),(7,4,true),(11,6,true),(17,4,true)]}
 | 136=>{size:=1,zero:=[.int .i64 0],agg:=true,Ck:=false,fields:=[(0,1,false)]}
 | 147=>{size:=10,zero:=[.nil,.nil,.nil,.nil,.nil,.nil,.nil,.nil,.nil,.nil],agg:=true,Ck:=false,fields:=[(0,4,true),(4,4,true),(8,2,true)]}
 | 210=>{size:=1,zero:=[.nil],sl:=true,Ef:=79,elem:=(.pr .i64 (.pr (.pr Bc BL) (.pr BL (.pr (.pr BL Bc) BL)))),Ck:=((0,(([],[]),([],[]),([],[])),(([],[]),([],[])),((([],[]),([],[])),([],[])),(([],[]),([],[]))):el (.pr .i64 (.pr (.pr Bc BL) (.pr BL (.pr (.pr BL Bc) BL))))),G0:=488}
 | t=>TI t
variable {f:FuncId} {r:AV}
theorem ef (t:TypeId):FP Tryz.prog t (Kc t):=by
 unfold Kc
 split <;> first | exact PO _ | exact WZ (by kernel_rfl)
def TM (E:Env) (fn:Func) (r:AV) (b1:Option BA) (s:St):Prop:=
 match fn.body with
 | some c=>EZ E Kc fn.ntmps c (post Kc fn.results.toList r b1) s
 | none=>False
theorem jh {fn:Func} (d:Tryz.prog.funcs[f]? =some fn) (a:Hr fn=true) {args:List AV} (b:(Lz args&&(r.all C6&&(r.wf&&Nat.ble args.length fn.ntmps)))=true)
  (h:∀E,env Tryz.prog=E->TM E fn r none (Eh fn.ntmps args none)):Gv Tryz.prog false f args r:=by
 have h:=h _ rfl;unfold TM at h;unfold Hr at a;simp only[Bool.and_eq_true] at a b
 split at h
 ·rename_i c hc
  rw[hc] at a;exact Xr (TI:=Kc) (n:=fn.ntmps) (c:=c) (rs:=fn.results.toList) ⟨⟨fn,d,by simpa using a.1,hc,rfl,rfl⟩,a.2,ef,Mw⟩ b.1 ⟨b.2.1,b.2.2.1⟩ (Nat.le_of_ble_eq_true b.2.2.2) h
 exact h.elim
def TL (E:Env) (fn:Func) (r:AV) (b0:BA) (s:St):Prop:=
 match fn.body with
 | some c=>EZ E Kc fn.ntmps c (On Kc fn.results.toList r b0) s
 | none=>False
theorem lE {fn:Func} (d:Tryz.prog.funcs[f]? =some fn) (b:Hr fn=true) {b0:BA} {args:List AV} (a:(Ku args&&(r.all Bt&&(b0.lone&&(Nat.ble args.length fn.ntmps&&Nat.ble 1 fn.ntmps))))=true)
  (h:∀E,env Tryz.prog=E->TL E fn r b0 (Eh fn.ntmps args (some b0))):Bk Tryz.prog f args b0 r:=by
 have h:=h _ rfl;unfold TL at h;unfold Hr at b;simp only[Bool.and_eq_true] at b a
 split at h
 ·rename_i c hc
  rw[hc] at b;exact Yt (TI:=Kc) (n:=fn.ntmps) (c:=c) (rs:=fn.results.toList) ⟨⟨fn,d,by simpa using b.1,hc,rfl,rfl⟩,b.2,ef,Mw⟩ a.1 a.2.1 a.2.2.1 (Nat.le_of_ble_eq_true a.2.2.2.1) (Nat.le_of_ble_eq_true a.2.2.2.2) h
 exact h.elim
end Go.Abs
namespace Go.Abs
def AQ:List UInt32->Nat
 | []=>0
 | x::l=>x.toNat+4294967296*AQ l
def Kx:Nat->Nat->List UInt32
 | 0,_=>[]
 | f+1,n=>if n=0 then [] else UInt32.ofNat n::Kx f (n/4294967296)
def BH (n:Nat):List UInt32:=Kx n n
variable {k:Nat} {o:List UInt32}
theorem Uk:∀(f n:Nat),n<=f->Kx f n=Kx n n
 | 0,n,h=>by rw[show n=0 by omega]
 | f+1,n,h=>by
  cases n with
  | zero=>simp[Kx]
  | succ n=>
   simp only[Kx];rw[Uk f _ (by omega),Uk n _ (by omega)]
theorem Hz:BH 0=[]:=rfl
theorem OV {n:Nat} (h:n≠0):BH n=UInt32.ofNat n::BH (n/4294967296):=by
 cases n with
 | zero=>exact (h rfl).elim
 | succ n=>
  show Kx (n+1) (n+1)=_
  rw[Kx,if_neg (by omega),Uk n _ (by omega)]
  rfl
theorem Br (n:Nat):AQ (BH n)=n:=by
 induction n using Nat.strongRecOn with
 | ind n a=>
  by_cases h:n=0
  ·subst h;rfl
  rw[OV h,AQ,a _ (by omega)];simp[UInt32.toNat_ofNat'];omega
theorem Fa (n:Nat):2^(32*(n+1))=4294967296*2^(32*n):=by
 rw[Nat.mul_add,Nat.pow_add,Nat.mul_comm]
theorem RW (a b:List UInt32):AQ (a++b)=AQ a+2^(32*a.length)*AQ b:=by
 induction a with
 | nil=>simp[AQ]
 | cons x a c=>
  rw[List.cons_append,AQ,AQ,c,List.length_cons,Fa]
  generalize 2^(32*a.length)=p
  grind
theorem EH (l:List UInt32):AQ l<2^(32*l.length):=by
 induction l with
 | nil=>simp[AQ]
 | cons x l a=>
  rw[AQ,List.length_cons,Fa]
  generalize 2^(32*l.length)=p at*
  have:=x.toNat_lt;omega
theorem Hy {n:Nat} (h:n<2^(32*k)):(BH n).length<=k:=by
 induction k generalizing n with
 | zero=>have:n=0:=by simpa using h
         subst this;simp[Hz]
 | succ k b=>
  by_cases a:n=0
  ·subst a;simp[Hz]
  rw[OV a,List.length_cons];rw[Fa] at h;have:=b (n:=n/4294967296) (by omega);omega
theorem Z6 {n:Nat} (h:2^(32*k)<=n):k+1<=(BH n).length:=by
 have a:=EH (BH n);rw[Br] at a;have b:2^(32*k)<2^(32*(BH n).length):=Nat.lt_of_le_of_lt h a;have:=(Nat.pow_lt_pow_iff_right (by decide:1<2)).1 b;omega
theorem Ok {a b:List UInt32} (c:a.length=b.length) (h:AQ a=AQ b):a=b:=by
 induction a generalizing b with
 | nil=>cases b with
  | nil=>rfl
  | cons _ _=>simp at c
 | cons x a i=>cases b with
  | nil=>simp at c
  | cons y b=>
   simp only[AQ] at h;have j:=x.toNat_lt;have l:=y.toNat_lt;have d:x.toNat=y.toNat:=by omega
   have g:AQ a=AQ b:=by omega
   rw[UInt32.toNat_inj.1 d,i (by simpa using c) g]
theorem Ul {l:List UInt32} (h:l=[]\/2^(32*(l.length-1))<=AQ l):BH (AQ l)=l:=by
 rcases h with rfl | h
 ·rfl
 apply Ok _ (Br _);have a:=Hy (EH l);have b:=Z6 h;omega
theorem Fj {a b:Nat} (h:a<=b:=by omega):(BH a).length<=(BH b).length:=by
 apply Hy;have:=EH (BH b);rw[Br] at this;omega
theorem G3 {n:Nat}:BH n=[]↔n=0:=by
 constructor
 ·intro h;have:=Br n;rw[h] at this;exact this.symm
 rintro rfl;rfl
theorem aG {n:Nat} (h:n≠0):2^(32*((BH n).length-1))<=n:=by
 apply Classical.byContradiction;intro a;have:=Hy (n:=n) (k:=(BH n).length-1) (by omega);have:BH n≠[]:=fun e=>h (G3.1 e)
 have:(BH n).length≠0:=by simpa using this
 omega
theorem Fk (l:List UInt32) (x:UInt32):AQ (l++[x])=AQ l+2^(32*l.length)*x.toNat:=by
 rw[RW];simp[AQ]
theorem DL {l:List UInt32} {i:Nat} {x:UInt32} (h:l[i]? =some x):AQ (l.take (i+1))=AQ (l.take i)+2^(32*i)*x.toNat:=by
 have a:i<l.length:=by
  apply Classical.byContradiction;intro b;rw[List.getElem?_eq_none (by omega)] at h;exact absurd h (by simp)
 rw[List.take_succ_eq_append_getElem a,Fk];have:l[i]=x:=by simpa [List.getElem?_eq_getElem a] using h
 rw[this,List.length_take,Nat.min_eq_left (by omega)]
theorem Hi (l:List UInt32) (i:Nat) (h:i<=l.length):AQ l=AQ (l.take i)+2^(32*i)*AQ (l.drop i):=by
 conv=>lhs;rw[<-List.take_append_drop i l,RW,List.length_take,Nat.min_eq_left h]
def Cr:List UInt32->List UInt32
 | []=>[]
 | x::l=>match Cr l with
  | []=>if x=0 then [] else [x]
  | y::r=>x::y::r
theorem L4:∀(l:List UInt32),Cr (l++[0])=Cr l
 | []=>rfl
 | x::l=>by simp[Cr,L4 l]
theorem NV {x:UInt32} (a:x≠0):∀(l:List UInt32),Cr (l++[x])=l++[x]
 | []=>by simp[Cr,a]
 | y::l=>by
  rw[List.cons_append,Cr,NV a l];cases l <;> rfl
theorem PR (l:List UInt32):Cr l=BH (AQ l):=by
 induction l with
 | nil=>rfl
 | cons x l b=>
  rw[Cr,b,AQ];have c:=x.toNat_lt
  by_cases h:AQ l=0
  ·rw[h,Hz]
   by_cases a:x=0
   ·subst a;simp[Hz]
   have:x.toNat≠0:=fun e=>a (UInt32.toNat_inj.1 e)
   rw[if_neg a,OV (by omega),show (x.toNat+4294967296*0)/4294967296=0 by omega,Hz];simp
  rw[OV (n:=x.toNat+_) (by omega),show (x.toNat+4294967296*AQ l)/4294967296=AQ l by omega];rw[OV h]
  show x::_=_
  congr 1
  apply UInt32.toNat_inj.1;rw[UInt32.toNat_ofNat'];omega
def Ks:Nat->Nat->Nat
 | 0,_=>0
 | f+1,n=>if n=0 then 0 else
  let r:=2*Ks f (n/4)
  if (r+1)*(r+1)<=n then r+1 else r
def B7 (n:Nat):Nat:=Ks n n
theorem UY:∀(f n:Nat),n<=f->Ks f n*Ks f n<=n/\n<(Ks f n+1)*(Ks f n+1)
 | 0,n,h=>by rw[show n=0 by omega];decide
 | f+1,n,h=>by
  rw[Ks]
  by_cases a:n=0
  ·rw[if_pos a,a];decide
  rw[if_neg a];have:=UY f (n/4) (by omega)
  generalize Ks f (n/4)=r at*
  simp only;have e1:(2*r)*(2*r)=4*(r*r):=by grind
  have e2:(2*r+1+1)*(2*r+1+1)=4*((r+1)*(r+1)):=by grind
  split
  ·refine⟨by assumption,?_⟩;rw[e2];omega
  refine⟨?_,by omega⟩;rw[e1];omega
theorem OO (n:Nat):B7 n*B7 n<=n:=(UY n n (Nat.le_refl _)).1
theorem RB (n:Nat):n<(B7 n+1)*(B7 n+1):=(UY n n (Nat.le_refl _)).2
theorem Zy {n r:Nat} (c:r*r<=n) (d:n<(r+1)*(r+1)):B7 n=r:=by
 have h3:=OO n;have g:=RB n
 generalize B7 n=s at*
 have a:s<r+1:=Nat.mul_self_lt_mul_self_iff.1 (by omega);have b:r<s+1:=Nat.mul_self_lt_mul_self_iff.1 (by omega);omega
theorem FD {l:List UInt32} {i:Nat} (h:l.length<=i):AQ (l.take i)=AQ l:=by rw[List.take_of_length_le h]
theorem QO {A B c xi yi i s:Nat} {w:UInt32} (a:o.length=i) (h:AQ o+2^(32*i)*c=A+B) (b:s=c+xi+yi) (hw:w.toNat=s%4294967296):
  AQ (o++[w])+2^(32*(i+1))*(s/4294967296)=(A+2^(32*i)*xi)+(B+2^(32*i)*yi):=by
 rw[Fk,Fa,a,hw]
 generalize 2^(32*i)=P at*
 have:s%4294967296+4294967296*(s/4294967296)=s:=by omega
 have e:P*(s%4294967296)+4294967296*P*(s/4294967296)=P*s:=by rw[<-this];grind
 subst b
 grind
theorem TO {w:UInt32} (hw:w.toNat≠0):BH (AQ (o++[w]))=o++[w]:=by
 apply Ul
 right
 rw[Fk,List.length_append];have:2^(32*o.length)*1<=2^(32*o.length)*w.toNat:=Nat.mul_le_mul_left _ (by omega);simp;omega
theorem YS {p q:Nat} (h:AQ o=p+q) (a:o.length=(BH p).length):o=BH (p+q):=by
 rw[<-h];refine (Ul ?_).symm
 by_cases b:p=0
 ·left
  subst b;simpa [Hz] using a
 right
 have:=aG b;rw[a];omega
theorem KE (n:Nat):AQ (List.replicate n 0)=0:=by
 induction n with
 | zero=>rfl
 | succ n a=>rw[List.replicate_succ,AQ,a];rfl
theorem WV:∀(l:List UInt32),l.take (Cr l).length=Cr l
 | []=>rfl
 | x::l=>by
  have b:=WV l;rw[Cr];cases h:Cr l with
  | nil=>
   by_cases a:x=0
   ·simp[a]
   simp[a]
  | cons y r=>
   rw[h] at b;simpa using b
theorem WU (l:List UInt32):(Cr l).length<=l.length:=by
 rw[<-WV,List.length_take];omega
theorem GC {l:List UInt32} {n m:Nat} (c:n<=l.length) (hm:m=(Cr (l.take n)).length):m<=n/\l.take m=BH (AQ (l.take n)):=by
 have b:=WU (l.take n);rw[List.length_take] at b;have a:=WV (l.take n);rw[<-hm,List.take_take,Nat.min_eq_left (by omega)] at a;exact⟨by omega,by rw[a,PR]⟩
end Go.Abs
