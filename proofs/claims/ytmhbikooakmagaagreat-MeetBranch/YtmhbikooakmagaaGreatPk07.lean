/- Part 8 of a proof. Conditions: each theorem's own. -/
import Derived.Deep.Slices
import Derived.ProofKit
import Derived.Test.YtmhbikooakmagaaGreatPk06
set_option linter.all false
set_option maxHeartbeats 8000000
set_option maxRecDepth 20000
open Go.Proofs
namespace Go.Abs
abbrev BI:AC:= .sl (.sl AA) []
abbrev BJ:AC:= .sl AA []
abbrev Bg (b:Bool) (l:List UInt32):List AC:=[.bool b,.sl .u32 l]
abbrev B5 (b:Bool) (l:List UInt32) (c:Bool) (m:List UInt32):List AC:=[.bool b,.sl .u32 l,.bool c,.sl .u32 m]
abbrev AK (T1:List (List (el AA))) (A1:List (el AA)):List AC:=[.sl (.sl AA) T1,.sl AA A1]
abbrev AG (T1:List (List (el AA))) (A1:List (el AA)) (T2:List (List (el AA))) (A2:List (el AA)):List AC:=[.sl (.sl AA) T1,.sl AA A1,.sl (.sl AA) T2,.sl AA A2]
abbrev AY (T1:List (List (el AA))) (A1:List (el AA)) (T2:List (List (el AA))) (A2:List (el AA)) (T3:List (List (el AA))) (A3:List (el AA)):List AC:=[.sl (.sl AA) T1,.sl AA A1,.sl (.sl AA) T2,.sl AA A2,.sl (.sl AA) T3,.sl AA A3]
abbrev pE (T1:List (List (el AA))) (A1:List (el AA)) (T2:List (List (el AA))) (A2:List (el AA)) (T3:List (List (el AA))) (A3:List (el AA)) (T4:List (List (el AA))) (A4:List (el AA)):List AC:=[.sl (.sl AA) T1,.sl AA A1,.sl (.sl AA) T2,.sl AA A2,.sl (.sl AA) T3,.sl AA A3,.sl (.sl AA) T4,.sl AA A4]
abbrev Ct (T1:List (List (el AA))) (A1:List (el AA)) (T2:List (List (el AA))) (A2:List (el AA)) (T3:List (List (el AA))) (A3:List (el AA)) (T4:List (List (el AA))) (A4:List (el AA)) (T5:List (List (el AA))) (A5:List (el AA)):List AC:=[.sl (.sl AA) T1,.sl AA A1,.sl (.sl AA) T2,.sl AA A2,.sl (.sl AA) T3,.sl AA A3,.sl (.sl AA) T4,.sl AA A4,.sl (.sl AA) T5,.sl AA A5]
abbrev pD (T1:List (List (el AA))) (A1:List (el AA)) (T2:List (List (el AA))) (A2:List (el AA)) (T3:List (List (el AA))) (A3:List (el AA)) (T4:List (List (el AA))) (A4:List (el AA)) (m:Bool):List AC:=[.sl (.sl AA) T1,.sl AA A1,.sl (.sl AA) T2,.sl AA A2,.sl (.sl AA) T3,.sl AA A3,.sl (.sl AA) T4,.sl AA A4,.bool m]
def NN:AC->Bool
 | .int _ _=>true | .bool _=>true | .fn _=>true | .nil=>true | .sl _ _=>true
 | _=>false
def LX:List AV->Bool
 | []=>true
 | .one c::l=>NN c&&LX l
 | .agg cs::l=>cs.all NN&&LX l
 | .AF _::_=>false
theorem Xe:∀{c:AC},NN c=true->Bm c c
 |.int _ _,_|.bool _,_|.fn _,_=>rfl
 | .nil,_=> .inl rfl
 | .sl _ _,_=>rfl
theorem VI:∀{cs:List AC},cs.all NN=true->BV Bm cs cs
 | [],_=>trivial
 | c::l,h=>by
  rw[List.all_cons,Bool.and_eq_true] at h;exact⟨Xe h.1,VI h.2⟩
theorem QI:∀{a:List AV},LX a=true->GK Bm a a
 | [],_=>trivial
 | .one c::l,h=>by
  unfold LX at h;rw[Bool.and_eq_true] at h;exact⟨Xe h.1,QI h.2⟩
 | .agg cs::l,h=>by
  unfold LX at h;rw[Bool.and_eq_true] at h;exact⟨VI h.1,QI h.2⟩
theorem AB {E:Env} {fl:Bool} {g:FuncId} {args:List AV} {r:AV} {K:AV->Prop} {X:Prop} (b:env Tryz.prog=E) (h:GF Tryz.prog fl g args r) (c:K r) (i:LX args=true:=by rfl):
 (∃(a:List AV) (r:AV),(Unit->GK Bm args a)/\(Unit->E.C fl g a r)/\K r)\/X:= .inl ⟨args,r,fun _=>QI i,fun _=>HT b h,c⟩
def Of:AC->AC
 | .AS t _ _ off len=> .AS t 0 0 off len
 | .Ag _ _ off=> .Ag 0 0 off
 | c=>c
def K8:List AV->List AV
 | []=>[]
 | .one c::l=> .one (Of c)::K8 l
 | .agg cs::l=> .agg (cs.map Of)::K8 l
 | .AF x::l=> .AF x::K8 l
def LL (id v:Nat):AC->Bool
 |.AS _ i w _ _|.Ag i w _=>Nat.beq i id&&Nat.beq w v
 | c=>NN c
def LM (id v:Nat):List AV->Bool
 | []=>true
 | .one c::l=>LL id v c&&LM id v l
 | .agg cs::l=>cs.all (LL id v)&&LM id v l
 | .AF _::_=>false
theorem Xm {id v:Nat}:∀{c:AC},LL id v c=true->JS id v c (Of c)
 | .AS _ i w _ _,h=>by
  unfold LL at h;rw[Bool.and_eq_true] at h;exact⟨⟨Nat.eq_of_beq_eq_true h.1,Nat.eq_of_beq_eq_true h.2⟩,rfl⟩
 | .Ag i w _,h=>by
  unfold LL at h;rw[Bool.and_eq_true] at h;exact⟨⟨Nat.eq_of_beq_eq_true h.1,Nat.eq_of_beq_eq_true h.2⟩,rfl⟩
 |.int _ _,_|.bool _,_|.fn _,_=>rfl
 | .nil,_=> .inl rfl
 | .sl _ _,_=>rfl
theorem Xk {id v:Nat}:∀{cs:List AC},cs.all (LL id v)=true->BV (JS id v) cs (cs.map Of)
 | [],_=>trivial
 | c::l,h=>by
  rw[List.all_cons,Bool.and_eq_true] at h;exact⟨Xm h.1,Xk h.2⟩
theorem RN {id v:Nat}:∀{a:List AV},LM id v a=true->GK (JS id v) a (K8 a)
 | [],_=>trivial
 | .one c::l,h=>by
  unfold LM at h;rw[Bool.and_eq_true] at h;exact⟨Xm h.1,RN h.2⟩
 | .agg cs::l,h=>by
  unfold LM at h;rw[Bool.and_eq_true] at h;exact⟨Xk h.1,RN h.2⟩
theorem Ah {E:Env} {g:FuncId} {args:List AV} {r:AV} {bk:Nat->Option AM} {K:Nat->AV->Prop} {c i j l:Prop} (id v:Nat) (m:env Tryz.prog=E) (h:BU Tryz.prog g (K8 args) (.var 0 [.int .i64 0]) r) (n:K id r) (hb:bk id=some (.var v [.int .i64 0]):=by rfl) (p:LM id v args=true:=by rfl):
 c\/i\/j\/(∃(id:Nat) (b:AM) (a:List AV) (r:AV),(Unit->bk id=some b/\GK (JS id b.AR) args a)/\(Unit->E.D g a (b.ES 0) r)/\K id r)\/l:= .inr (.inr (.inr (.inl ⟨id,.var v [.int .i64 0],K8 args,r,fun _=>⟨hb,RN p⟩,fun _=>G8 m h,n⟩)))
theorem AU {bk:Nat->Option AM} {t:T}:EP bk .nil (.sl t []):= .inr (.inl ⟨_,rfl⟩)
theorem AN {P:Sort _} {C:Prop} {x:Int} (h:C) (a: -9223372036854775808<=x/\x<9223372036854775808:=by omega):(P->Ip x)/\C:=⟨fun _=>a,h⟩
theorem AI {P:Sort _} {A C:Prop} (h:C) (a:A:=by omega):(P->A)/\C:=⟨fun _=>a,h⟩
theorem AD {A B C:Prop} (h:A) (hb:B:=by rfl) (hc:C:=by simp):(Unit->A/\B/\C)/\True:=⟨fun _=>⟨h,hb,hc⟩,trivial⟩
theorem BG {x:Bool} {K:Bool->Prop} (k:K true) (h:x=true:=by decide):∀c,c=x->K c:=fun _ e=>by rw[e,h];exact k
theorem AO {x:Bool} {K:Bool->Prop} (k:K false) (h:x=false:=by decide):∀c,c=x->K c:=fun _ e=>by rw[e,h];exact k
theorem AJ {f:FuncId} {fn:Func} (a:Tryz.prog.funcs[f]? =some fn) {args:List AV} {r:AV} (h:∀E,env Tryz.prog=E->MH E fn r none (DL fn.ntmps args none)) (b:Gs fn=true:=by kernel_rfl) (c:(KK args&&(r.all CR&&(r.wf&&Nat.ble args.length fn.ntmps)))=true:=by rfl):GF Tryz.prog false f args r:=eX a b c h
end Go.Abs
namespace Go.Abs
open Go.RowKit Go.ChangeShapes Go.WideShapes Go.Deep
def KB (P:Program) (k:IntKind) (t:TypeId):Bool:=match P.underlying t with | some (.int j)=>decide (j=k) | _=>false
def okF (P:Program) (ok:T->TypeId->Bool):T->List Field->Nat->Bool
 | _,[],_=>false
 | t,[f],o=>f.offset==o&&(P.cellsOf f.type==t.size&&ok t f.type)
 | .pr a b,f::fs,o=>(f.offset==o&&(P.cellsOf f.type==a.size&&ok a f.type))&&okF P ok b fs (o+a.size)
 | _,_,_=>false
def G3 (P:Program):Nat->T->TypeId->Bool
 | 0,_,_=>false
 | n+1,τ,t=>match τ with
  | .u8=>KB P .u8 t
  | .u32=>KB P .u32 t
  | .u64=>KB P .u64 t
  | .i8=>KB P .i8 t
  | .i64=>KB P .i64 t
  | .bool=>match P.underlying t with | some .bool=>true | _=>false
  | .sl e=>match P.underlying t with | some (.slice u)=>G3 P n e u&&(P.cellsOf u==e.size&&decide (0<P.bytesOf u)) | _=>false
  | .pr a b=>match P.underlying t with | some (.struct fs)=>okF P (G3 P n) (.pr a b) fs.toList 0&&P.cellsOf t==a.size+b.size | _=>false
theorem IF {P:Program} {k:IntKind} {t:TypeId} (h:KB P k t=true):P.underlying t=some (.int k):=by
 unfold KB at h
 split at h
 ·rename_i j e;rw[e,of_decide_eq_true h]
 simp at h
theorem TW {k:IntKind} {n:Int} (h:(Lit.int k n).wf=true):k.min<=n/\n<=k.max:=by
 simpa [Lit.wf] using h
theorem YV {H:Type} {enc:TypeId×Value->H} {P:Program} {w:World} {base:Nat} {sp:Nat->Bool} {m:Bool} {n:Nat} {cs:List Value} {ok:T->TypeId->Bool}
  (c:∀(T:T) (t:TypeId) (cs:List Value) (x:DataW H×List MemPlace),ok T t=true->DataW.trod enc P w base sp m n t cs=some x->(∀k∈x.1.weights P t,k<=reachBytes)->∃y:el T,rep w (fun b=>b<w.heap.size) T y cs):
  ∀(T:T) (fs:List Field) (o:Nat),okF P ok T fs o=true->cs.length=o+T.size->
   (∀(i:Nat) (f:Field),fs[i]? =some f->∃x,DataW.trod enc P w base sp m n f.type ((cs.drop f.offset).take (P.cellsOf f.type))=some x/\∀k∈x.1.weights P f.type,k<=reachBytes)->∃y:el T,rep w (fun b=>b<w.heap.size) T y (cs.drop o)
 | T,[],o,h,_,_=>by cases T <;> simp[okF] at h
 | T,[f],o,h,u,j=>by
  have h':(f.offset==o&&(P.cellsOf f.type==T.size&&ok T f.type))=true:=by cases T <;> exact h
  simp only[Bool.and_eq_true,beq_iff_eq] at h';obtain⟨x,j,hw⟩:=j 0 f rfl;rw[h'.1,h'.2.1,List.take_of_length_le (by rw[List.length_drop];omega)] at j;exact c T _ _ _ h'.2.2 j hw
 | .pr a b,f::g::fs,o,h,u,j=>by
  have h':((f.offset==o&&(P.cellsOf f.type==a.size&&ok a f.type))&&okF P ok b (g::fs) (o+a.size))=true:=h;simp only[Bool.and_eq_true,beq_iff_eq] at h';have v:(T.pr a b).size=a.size+b.size:=rfl;obtain⟨x,l,hw⟩:=j 0 f rfl;rw[h'.1.1,h'.1.2.1] at l;obtain⟨y1,p⟩:=c a _ _ _ h'.1.2.2 l hw;obtain⟨y2,q⟩:=YV c b (g::fs) (o+a.size) h'.2 (by omega) (fun i f s=>j (i+1) f s);refine⟨(y1,y2),_,_,?_,p,q⟩;rw[<-List.drop_drop,List.take_append_drop]
 |.u8,f::g::fs,o,h,_,_|.u32,f::g::fs,o,h,_,_|.u64,f::g::fs,o,h,_,_|.i8,f::g::fs,o,h,_,_|.i64,f::g::fs,o,h,_,_|.bool,f::g::fs,o,h,_,_|.sl _,f::g::fs,o,h,_,_=>by simp[okF] at h
theorem Z6 {w:World} {a:Addr} {v:Value} (h:w.cell? a=some v):a.spot=none/\a.block<w.heap.size:=by
 unfold World.cell? at h
 split at h
 ·rename_i c e l hc
  refine⟨?_,(Array.getElem?_eq_some_iff.1 hc).1⟩;cases b:a.spot with
  | none=>rfl
  | some x=>simp[b] at h
 simp at h
theorem Nw {a:Addr} (h:a.spot=none) (i:Nat):a.add i=⟨a.block,a.off+i,none⟩:=by
 unfold Addr.add;cases a;simp only at h;subst h
 split <;> simp_all
theorem Xr {α:Type} {p:Nat->α->Prop}:∀(n:Nat),(∀i,i<n->∃x,p i x)->∃l:List α,l.length=n/\∀i x,l[i]? =some x->p i x
 | 0,_=>⟨[],rfl,fun i x h=>by simp at h⟩
 | n+1,h=>by
  obtain⟨l,b,j⟩:=Xr n fun i c=>h i (by omega)
  obtain⟨x,m⟩:=h n (by omega);refine⟨l++[x],by simp[b],fun i y a=>?_⟩
  by_cases c:i<n
  ·rw[List.getElem?_append_left (by omega)] at a;exact j i y a
  rw[List.getElem?_append_right (by omega)] at a
  have:i=n:=by
   apply Classical.byContradiction;intro g;rw[List.getElem?_eq_none (by simp;omega)] at a;simp at a
  subst this;rw[b,Nat.sub_self] at a;simp at a;subst a;exact m
theorem X4 {H:Type} {P:Program} {e:TypeId} {d:DataW H} {q:Nat}:∀{l:List (DataW H)},d∈l->q∈d.weights P e->q∈DataW.weightsAll P e l
 | [],h,_=>by simp at h
 | a::l,h,b=>by
  rw[DataW.weightsAll,List.mem_append];rcases List.mem_cons.1 h with rfl | h
  ·exact .inl b
  exact .inr (X4 h b)
theorem X5 {H:Type} {P:Program} {q:Nat}:∀{ts:List TypeId} {l:List (DataW H)} (i:Nat) (t:TypeId) (d:DataW H),ts[i]? =some t->l[i]? =some d->q∈d.weights P t->q∈DataW.weightsEach P ts l
 |[],_,i,t,d,h,_,_|_::_,[],i,t,d,_,h,_=>by simp at h
 | u::ts,a::l,0,t,d,h,h',b=>by
  rw[DataW.weightsEach,List.mem_append];simp at h h';subst h;subst h';exact .inl b
 | u::ts,a::l,i+1,t,d,h,h',b=>by
  rw[DataW.weightsEach,List.mem_append];exact .inr (X5 i t d h h' b)
theorem SH {H:Type} {enc:TypeId×Value->H} {P:Program} {w:World} {base:Nat} {sp:Nat->Bool} {hd:Bool}:
  ∀(m:Nat) (T:T) (t:TypeId),G3 P m T t=true->∀(n:Nat) (cs:List Value) (x:DataW H×List MemPlace),DataW.trod enc P w base sp hd n t cs=some x->(∀k∈x.1.weights P t,k<=reachBytes)->
   ∃y:el T,rep w (fun b=>b<w.heap.size) T y cs
 | 0,_,_,h,_,_,_,_,_=>by simp[G3] at h
 | m+1,.u8,t,h,n,cs,x,c,hw=>by
  obtain⟨v,rfl,rfl,g⟩:=DataW.trod_int (IF h) c;have hb:(0:Int)<=v/\v<=255:=TW g;refine⟨UInt8.ofNat v.toNat,?_⟩
  show [Value.int .u8 v]=[Value.int .u8 _]
  rw[UInt8.toNat_ofNat'];congr 2;omega
 | m+1,.u32,t,h,n,cs,x,c,hw=>by
  obtain⟨v,rfl,rfl,g⟩:=DataW.trod_int (IF h) c;have hb:(0:Int)<=v/\v<=4294967295:=TW g;refine⟨UInt32.ofNat v.toNat,?_⟩
  show [Value.int .u32 v]=[Value.int .u32 _]
  rw[UInt32.toNat_ofNat'];congr 2;omega
 | m+1,.u64,t,h,n,cs,x,c,hw=>by
  obtain⟨v,rfl,rfl,g⟩:=DataW.trod_int (IF h) c;have hb:(0:Int)<=v/\v<=18446744073709551615:=TW g;refine⟨UInt64.ofNat v.toNat,?_⟩
  show [Value.int .u64 v]=[Value.int .u64 _]
  rw[UInt64.toNat_ofNat'];congr 2;omega
 | m+1,.i8,t,h,n,cs,x,c,hw=>by
  obtain⟨v,rfl,rfl,g⟩:=DataW.trod_int (IF h) c;exact⟨v,rfl⟩
 | m+1,.i64,t,h,n,cs,x,c,hw=>by
  obtain⟨v,rfl,rfl,g⟩:=DataW.trod_int (IF h) c;exact⟨v,rfl⟩
 | m+1,.bool,t,h,n,cs,x,c,hw=>by
  have h':(match P.underlying t with | some .bool=>true | _=>false)=true:=h
  split at h'
  ·rename_i e
   obtain⟨v,rfl,rfl⟩:=DataW.trod_bool e c;exact⟨v,rfl⟩
  simp at h'
 | m+1,.sl e,t,h,n,cs,x,c,hw=>by
  have h':(match P.underlying t with | some (.slice u)=>G3 P m e u&&(P.cellsOf u==e.size&&decide (0<P.bytesOf u)) | _=>false)=true:=h
  split at h'
  ·rename_i u hu
   simp only[Bool.and_eq_true,beq_iff_eq,decide_eq_true_eq] at h';rcases open_slice hu c with⟨rfl,rfl⟩ |⟨a,len,cap,k,j,D,Pl,rfl,hb,S,a1,hk,F,M⟩
   ·exact⟨[],none,0,rfl,Nat.le_refl _,Nat.zero_le _,.inl rfl⟩
   have a5:len<=k:=by rw[hk];split <;> omega
   rw[h'.2.1] at M;rw[F] at hw
   have L:DataW.weights P t (DataW.slice ((List.range len).map D) ((List.range (k-len)).map fun j=>D (len+j)))=(((List.range len).map D).length+((List.range (k-len)).map fun j=>D (len+j)).length)*P.bytesOf u::(DataW.weightsAll P u ((List.range len).map D)++DataW.weightsAll P u ((List.range (k-len)).map fun j=>D (len+j))):=by
    unfold DataW.weights;rw[hu]
   have K:len<=140737488355328:=by
    have:=hw _ (by rw[L];exact List.mem_cons_self);simp only[List.length_map,List.length_range] at this;have h3:len<=(len+(k-len))*P.bytesOf u:=Nat.le_trans (Nat.le_add_right _ _) (Nat.le_mul_of_pos_right _ h'.2.2);have h4:reachBytes<=140737488355328:=by decide
    omega
   have W:=T.size_pos e
   have N:0<len->a.spot=none:=fun G=>by
    obtain⟨us,hc,ht⟩:=M 0 (by omega);obtain⟨_,hlen,s⟩:=World.cells?_some hc;have G:=s 0 W;rw[List.getElem?_eq_getElem (by omega),Nat.zero_mul] at G;have I:=(Z6 G).1;unfold Addr.add at I;simpa using I
   obtain⟨l,hl,V⟩:=Xr (α:=el e) (p:=fun i y=>∃us,rep w (fun b=>b<w.heap.size) e y us/\a.spot=none/\a.block<w.heap.size/\w.rangeAt a.block (a.off+i*e.size) us) len (fun i Q=>by
    obtain⟨us,hc,ht⟩:=M i (by omega);obtain⟨y,hy⟩:=SH m e u h'.1 _ _ _ ht (fun q U=>hw q (by rw[L];exact List.mem_cons_of_mem _ (List.mem_append_left _ (X4 (List.mem_map.2 ⟨i,List.mem_range.2 Q,rfl⟩) U))));obtain⟨_,hlen,s⟩:=World.cells?_some hc;have G:=s 0 W;rw[List.getElem?_eq_getElem (by omega)] at G;have I:=Z6 G;have ha:a.spot=none:=N (by omega)
    have C:a.block<w.heap.size:=by
     have:=I.2;rw[Nw ha,Nw rfl] at this;exact this
    refine⟨y,us,hy,ha,C,fun j v R=>?_⟩
    have a2:j<us.length:=by
     apply Classical.byContradiction;intro hn;rw[List.getElem?_eq_none (by omega)] at R;simp at R
    have:=s j (by omega);rw[Nw ha,Nw rfl] at this;rw[this];exact R)
   subst hl;refine⟨l,some a,cap,rfl,S,K,?_⟩;cases l with
   | nil=>exact .inl rfl
   | cons y l=>
    right
    obtain⟨_,_,ha,C,_⟩:=V 0 y rfl;obtain⟨X,Y,Z⟩:=a;simp only at ha;subst ha;exact⟨X,Y,rfl,C,fun i z hz=>by obtain⟨us,I,_,_,h2⟩:=V i z hz;exact⟨us,I,h2⟩⟩
  simp at h'
 | m+1,.pr a b,t,h,n,cs,x,c,hw=>by
  have h':(match P.underlying t with | some (.struct fs)=>okF P (G3 P m) (.pr a b) fs.toList 0&&P.cellsOf t==a.size+b.size | _=>false)=true:=h
  split at h'
  ·rename_i fs hu
   simp only[Bool.and_eq_true,beq_iff_eq] at h';obtain⟨xs,n',_,F,O,a6,hf⟩:=DataW.trod_struct hu c
   have:=YV (w:=w) (n:=n') (cs:=cs) (ok:=G3 P m) (fun T t cs x ho c hw=>SH m T t ho n' cs x c hw) (.pr a b) fs.toList 0 h'.1 (by rw[O,h'.2,Nat.zero_add];rfl) (fun i f J=>by
    have A:fs[i]? =some f:=by rw[<-Array.getElem?_toList];exact J
    have M:i<fs.size:=(Array.getElem?_eq_some_iff.1 A).1;rw[hf i f A];refine⟨xs[i]'(by omega),List.getElem?_eq_getElem (by omega),fun q U=>hw q ?_⟩;rw[F]
    have e:DataW.weights P t (DataW.agg (xs.map (·.1)))=DataW.weightsEach P (fs.toList.map (·.type)) (xs.map (·.1)):=by
     unfold DataW.weights;rw[hu]
    rw[e];exact X5 i f.type (xs[i]'(by omega)).1 (by rw[List.getElem?_map,J];rfl) (by rw[List.getElem?_map,List.getElem?_eq_getElem (by omega)];rfl) U)
   exact this
  simp at h'
end Go.Abs
namespace Go.Abs
open Go.RowKit Go.ChangeShapes Go.WideShapes Go.Deep
def HL:List T->Type
 | []=>PUnit
 | t::ts=>el t×HL ts
def QP:(ts:List T)->HL ts->List AV
 | [],_=>[]
 | t::ts,x=>VP t x.1::QP ts x.2
def IL (P:Program):List T->List TypeId->Bool
 | [],[]=>true
 | τ::τs,t::ts=>(G3 P 20 τ t&&(P.readableRec t&&decide (t<P.types.size)))&&IL P τs ts
 | _,_=>false
theorem Kk {v:Value} {c:Value} (h:v.cells.toList=[c]) (a:v.oneCell'=true):v=c:=by
 rw[YX a] at h;simpa using h
theorem mQ {P:Program} {w:World} {I:Nat->Prop} {r:Reach} {b:Nat} {m:Nat}:∀{τ:T} {t:TypeId} {v:Value} {y:el τ},G3 P (m+1) τ t=true->Value.okWide P w r b t v->rep w I τ y v.cells.toList->Bu (Dm w I) (VP τ y) v
 | .u8,t,v,y,h,i,g=>by
  obtain⟨n,rfl⟩:=okWide_int (IF h) i;exact .inr (Kk g rfl)
 | .u32,t,v,y,h,i,g=>by
  obtain⟨n,rfl⟩:=okWide_int (IF h) i;exact .inr (Kk g rfl)
 | .u64,t,v,y,h,i,g=>by
  obtain⟨n,rfl⟩:=okWide_int (IF h) i;exact .inr (Kk g rfl)
 | .i8,t,v,y,h,i,g=>by
  obtain⟨n,rfl⟩:=okWide_int (IF h) i;exact .inr (Kk g rfl)
 | .i64,t,v,y,h,i,g=>by
  obtain⟨n,rfl⟩:=okWide_int (IF h) i;exact .inr (Kk g rfl)
 | .bool,t,v,y,h,i,g=>by
  have h':(match P.underlying t with | some .bool=>true | _=>false)=true:=h
  split at h'
  ·rename_i e
   obtain⟨n,rfl⟩:=okWide_bool e i;exact .inr (Kk g rfl)
  simp at h'
 | .sl e,t,v,y,h,i,g=>by
  have h':(match P.underlying t with | some (.slice u)=>G3 P m e u&&(P.cellsOf u==e.size&&decide (0<P.bytesOf u)) | _=>false)=true:=h
  split at h'
  ·rename_i u hu
   obtain⟨a,l,c,rfl⟩:=okWide_slice hu i;exact .inr g
  simp at h'
 | .pr a b',t,v,y,h,i,g=>by
  have h':(match P.underlying t with | some (.struct fs)=>okF P (G3 P m) (.pr a b') fs.toList 0&&P.cellsOf t==a.size+b'.size | _=>false)=true:=h
  split at h'
  ·rename_i fs hu
   obtain⟨cs,rfl,_⟩:=okWide_struct hu i;exact⟨cs,rfl,(IP (Dm w I) _ _ _).1 g⟩
  simp at h'
theorem VN {H:Type} {enc:TypeId×Value->H} {P:Program} {w:World} {base:Nat}:∀(a:List T) (ts:List TypeId) (vs:List Value) (c:List (DataW H)) (m:List MemPlace),IL P a ts=true->
  DataW.TrodAll enc P w 0 (fun _=>true) true ts vs c m->(∀(j:Nat) t v,ts[j]? =some t->vs[j]? =some v->Value.okWide P w .any base t v)->(∀k∈DataW.weightsEach P ts c,k<=reachBytes)->
   c.length=a.length/\∃xs:HL a,Ai (Bu (Dm w fun b=>b<w.heap.size)) (QP a xs) vs
 | [],[],[],[],_,_,_,_,_=>⟨rfl,⟨⟩,trivial⟩
 | τ::a,t::ts,v::vs,d::c,m,h,⟨p,q,s,z,_⟩,l,hw=>by
  have h':((G3 P 20 τ t&&(P.readableRec t&&decide (t<P.types.size)))&&IL P a ts)=true:=h;simp only[Bool.and_eq_true] at h';obtain⟨e,xs,i⟩:=VN a ts vs c q h'.2 z (fun j u x hu i=>l (j+1) u x hu i) (fun k g=>hw k (by rw[DataW.weightsEach];exact List.mem_append_right _ g));obtain⟨n,A⟩:=s;obtain⟨y,C⟩:=SH 20 τ t h'.1.1 n _ _ A (fun k g=>hw k (by rw[DataW.weightsEach];exact List.mem_append_left _ g));exact⟨by simp[e],(y,xs),mQ h'.1.1 (l 0 t v rfl rfl) C,i⟩
 |[],t::ts,_,_,_,h,_,_,_|_::_,[],_,_,_,h,_,_,_=>by simp[IL] at h
 |[],[],[],_::_,_,_,h,_,_|[],[],_::_,_,_,_,h,_,_|_::_,_::_,[],_,_,_,h,_,_|_::_,_::_,_::_,[],_,_,h,_,_=>h.elim
theorem VO {H:Type} {enc:TypeId×Value->H} {P:Program} (m:laidOutB P=true) {W l:World} (hb:Below W.heap.size W l):∀(a:List T) (ts:List TypeId) (vs:List Value) (g:List (DataW H)) (i:List MemPlace),IL P a ts=true->
  DataW.TrodAll enc P W 0 (fun _=>true) true ts vs g i->(∀p∈i,p.block<W.heap.size)->DataW.TrodAll enc P l 0 (fun b=>decide (b<W.heap.size)) true ts vs g i
 | [],[],[],[],_,_,h,_=>h
 | τ::a,t::ts,v::vs,d::g,i,h,⟨p,q,n,s,e⟩,c=>by
  have h':((G3 P 20 τ t&&(P.readableRec t&&decide (t<P.types.size)))&&IL P a ts)=true:=h;simp only[Bool.and_eq_true,decide_eq_true_eq] at h';subst e;exact⟨p,q,Below.trod m h'.1.2.1 h'.1.2.2 n hb (fun x j=>c x (List.mem_append_left _ j)),VO m hb a ts vs g q h'.2 s (fun x j=>c x (List.mem_append_right _ j)),rfl⟩
 |[],t::ts,_,_,_,h,_,_|_::_,[],_,_,_,h,_,_=>by simp[IL] at h
 |[],[],[],_::_,_,_,h,_|[],[],_::_,_,_,_,h,_|_::_,_::_,[],_,_,_,h,_|_::_,_::_,_::_,[],_,_,h,_=>h.elim
def RB:(t:T)->el t->Prop
 | .i64,n=>Ip n
 | .pr a b,x=>RB a x.1/\RB b x.2
 | _,_=>True
def iU:(ts:List T)->HL ts->Prop
 | [],_=>True
 | t::ts,x=>RB t x.1/\iU ts x.2
theorem pB {P:Program} {f:FuncId} {fn:Func} {s:ChangeSpec} {c:List T} {tb:TypeId} (L:laidOutB P=true) (m:IL P c fn.params.toList=true)
  (y:fn.resultTypes= #[tb]) (A:P.underlying tb=some .bool) (a:s.vars=[])
  (z:∀(H:Type) (g:List (DataW H)),g.length=c.length->s.fn H (g++[])={results:=[.lit (.bool true)],args:=g})
  (I:∀xs:HL c,GF P false f (QP c xs) (.one (.bool true)))
  (H:Type) (enc:TypeId×Value->H) (W:World) (base:Nat) (args:Array Value) (g gs:List (DataW H)) (before:List MemPlace)
  (n:∀(j:Nat) t v,fn.params[j]? =some t->args[j]? =some v->Value.okWide P W .any base t v)
  (G:DataW.Whole enc P fn.params.toList s.vars false W args.toList g gs before)
  (hw:(DataW.weightsEach P (fn.params.toList++s.plain.varTypes P) (g++gs)).all (·<=reachBytes)=true):
  Calls P f args W fun e F=>∃v,e= .returned v/\s.post enc P fn false true false false W args v F:=by
 have l:=G;obtain⟨p,q,i,hV,rfl,J,M⟩:=G;rw[a] at hV;obtain⟨rfl,rfl⟩:=trodVars_none hV
 have C:s.plain.varTypes P=[]:=by
  unfold DataSpec.varTypes ChangeSpec.plain;simp[a]
 rw[C,List.append_nil,List.append_nil,List.all_eq_true] at hw;obtain⟨hlen,xs,D⟩:=VN c fn.params.toList args.toList g p m i (fun j t v ht O=>n j t v (by rw[<-Array.getElem?_toList];exact ht) (by rw[<-Array.getElem?_toList];exact O)) (fun k K=>by simpa using hw k K);obtain⟨_,_,hc⟩:=I xs;have w:∀x∈p,x.block<W.heap.size:=fun x D=>l.lt x (List.mem_append_left _ D)
 refine (hc W (fun b=>b<W.heap.size) args.toList (fun _ h=>h) D).mono fun e F ⟨u,bo,he,hb,N⟩=>?_
 have hu:u= .bool true:=by
  rcases N with h | h
  ·cases h
  exact h
 subst hu;refine⟨_,he,g,[],p++[],[],p,[],l,?_,?_,?_,?_,fun h=>by cases h⟩
 ·rw[y,z H g hlen];exact trodAll_mk1 (shut_bool A true)
 ·rw[z H g hlen];exact VO L hb c _ _ g p m i w
 ·rw[a,z H g hlen]
  rfl
 exact hb.frame _
end Go.Abs
namespace Go.Abs
open Go.RowKit
def JA:TypeId->Info
 |244|172=>{size:=1,zero:=[.int .i64 0],agg:=true,CT:=false,fields:=[(0,1,false)]}
 | 38=>{size:=6,zero:=[.nil,.nil,.nil,.nil,.nil,.nil],agg:=true,CT:=false,fields:=[(0,2,true),(2,2,true),(4,2,true)]}
 |185|103=>{size:=1,zero:=[.int .i64 0],agg:=true,CT:=false,fields:=[(0,1,false)]}
 | 42=>{size:=6,zero:=[.nil,.nil,.nil,.nil,.nil,.nil],agg:=true,CT:=false,fields:=[(0,4,true),(4,2,true)]}
 | 28=>{size:=4,zero:=[.bool false,.int .u8 0,.int .u8 0,.bool false],agg:=true,CT:=false,fields:=[(0,1,false),(1,1,false),(2,1,false),(3,1,false)]}
 | 30=>{size:=9,zero:=[.bool false,.int .u8 0,.int .u8 0,.bool false,.bool false,.int .u8 0,.int .u8 0,.bool false,.int .i64 0],agg:=true,CT:=false,fields:=[(0,4,true),(4,4,true),(8,1,false)]}
 | 44=>{size:=21,zero:=[.int .i64 0,.nil,.nil,.nil,.nil,.nil,.nil,.nil,.nil,.nil,.nil,.nil,.nil,.nil,.nil,.nil,.nil,.nil,.nil,.nil,.nil],agg:=true,CT:=false,fields:=[(0,1,false),(1,6,true),(7,4,true),(11,6,true),(17,4,true)]}
 | 124=>{size:=1,zero:=[.int .i64 0],agg:=true,CT:=false,fields:=[(0,1,false)]}
 | 116=>{size:=10,zero:=[.nil,.nil,.nil,.nil,.nil,.nil,.nil,.nil,.nil,.nil],agg:=true,CT:=false,fields:=[(0,4,true),(4,4,true),(8,2,true)]}
 | 193=>{size:=1,zero:=[.nil],sl:=true,DR:=44,elem:=(.pr .i64 (.pr (.pr Bc Be) (.pr Be (.pr (.pr Be Bc) Be)))),CT:=((0,(([],[]),([],[]),([],[])),(([],[]),([],[])),((([],[]),([],[])),([],[])),(([],[]),([],[]))):el (.pr .i64 (.pr (.pr Bc Be) (.pr Be (.pr (.pr Be Bc) Be))))),GO:=488}
 | t=>TI t
variable {f:FuncId} {r:AV}
theorem aS (t:TypeId):D1 Tryz.prog t (JA t):=by
 unfold JA
 split <;> first | exact NR _ | exact TN (by kernel_rfl)
def QY (E:Env) (fn:Func) (r:AV) (b1:Option AM) (s:St):Prop:=
 match fn.body with
 | some c=>DD E JA fn.ntmps c (post JA fn.results.toList r b1) s
 | none=>False
theorem eY {fn:Func} (g:Tryz.prog.funcs[f]? =some fn) (a:Gs fn=true) {args:List AV} (b:(KK args&&(r.all CR&&(r.wf&&Nat.ble args.length fn.ntmps)))=true)
  (h:∀E,env Tryz.prog=E->QY E fn r none (DL fn.ntmps args none)):GF Tryz.prog false f args r:=by
 have h:=h _ rfl;unfold QY at h;unfold Gs at a;simp only[Bool.and_eq_true] at a b
 split at h
 ·rename_i c hc
  rw[hc] at a;exact VB (TI:=JA) (n:=fn.ntmps) (c:=c) (rs:=fn.results.toList) ⟨⟨fn,g,by simpa using a.1,hc,rfl,rfl⟩,a.2,aS,LJ⟩ b.1 ⟨b.2.1,b.2.2.1⟩ (Nat.le_of_ble_eq_true b.2.2.2) h
 exact h.elim
def QX (E:Env) (fn:Func) (r:AV) (b0:AM) (s:St):Prop:=
 match fn.body with
 | some c=>DD E JA fn.ntmps c (Mu JA fn.results.toList r b0) s
 | none=>False
theorem gK {fn:Func} (i:Tryz.prog.funcs[f]? =some fn) (b:Gs fn=true) {g:AM} {args:List AV} (a:(JT args&&(r.all BZ&&(g.lone&&(Nat.ble args.length fn.ntmps&&Nat.ble 1 fn.ntmps))))=true)
  (h:∀E,env Tryz.prog=E->QX E fn r g (DL fn.ntmps args (some g))):BU Tryz.prog f args g r:=by
 have h:=h _ rfl;unfold QX at h;unfold Gs at b;simp only[Bool.and_eq_true] at b a
 split at h
 ·rename_i c hc
  rw[hc] at b;exact WL (TI:=JA) (n:=fn.ntmps) (c:=c) (rs:=fn.results.toList) ⟨⟨fn,i,by simpa using b.1,hc,rfl,rfl⟩,b.2,aS,LJ⟩ a.1 a.2.1 a.2.2.1 (Nat.le_of_ble_eq_true a.2.2.2.1) (Nat.le_of_ble_eq_true a.2.2.2.2) h
 exact h.elim
end Go.Abs
namespace Go.Abs
def AE:List UInt32->Nat
 | []=>0
 | x::l=>x.toNat+4294967296*AE l
def JU:Nat->Nat->List UInt32
 | 0,_=>[]
 | f+1,n=>if n=0 then [] else UInt32.ofNat n::JU f (n/4294967296)
def AQ (n:Nat):List UInt32:=JU n n
variable {k:Nat} {o:List UInt32}
theorem RU:∀(f n:Nat),n<=f->JU f n=JU n n
 | 0,n,h=>by rw[show n=0 by omega]
 | f+1,n,h=>by
  cases n with
  | zero=>simp[JU]
  | succ n=>
   simp only[JU];rw[RU f _ (by omega),RU n _ (by omega)]
theorem Gy:AQ 0=[]:=rfl
theorem Mh {n:Nat} (h:n≠0):AQ n=UInt32.ofNat n::AQ (n/4294967296):=by
 cases n with
 | zero=>exact (h rfl).elim
 | succ n=>
  show JU (n+1) (n+1)=_
  rw[JU,if_neg (by omega),RU n _ (by omega)]
  rfl
theorem BS (n:Nat):AE (AQ n)=n:=by
 induction n using Nat.strongRecOn with
 | ind n a=>
  by_cases h:n=0
  ·subst h;rfl
  rw[Mh h,AE,a _ (by omega)];simp[UInt32.toNat_ofNat'];omega
theorem EF (n:Nat):2^(32*(n+1))=4294967296*2^(32*n):=by
 rw[Nat.mul_add,Nat.pow_add,Nat.mul_comm]
theorem Ox (a b:List UInt32):AE (a++b)=AE a+2^(32*a.length)*AE b:=by
 induction a with
 | nil=>simp[AE]
 | cons x a c=>
  rw[List.cons_append,AE,AE,c,List.length_cons,EF]
  generalize 2^(32*a.length)=p
  grind
theorem Cu (l:List UInt32):AE l<2^(32*l.length):=by
 induction l with
 | nil=>simp[AE]
 | cons x l a=>
  rw[AE,List.length_cons,EF]
  generalize 2^(32*l.length)=p at*
  have:=x.toNat_lt;omega
theorem Gx {n:Nat} (h:n<2^(32*k)):(AQ n).length<=k:=by
 induction k generalizing n with
 | zero=>have:n=0:=by simpa using h
         subst this;simp[Gy]
 | succ k b=>
  by_cases a:n=0
  ·subst a;simp[Gy]
  rw[Mh a,List.length_cons];rw[EF] at h;have:=b (n:=n/4294967296) (by omega);omega
theorem Xf {n:Nat} (h:2^(32*k)<=n):k+1<=(AQ n).length:=by
 have a:=Cu (AQ n);rw[BS] at a;have b:2^(32*k)<2^(32*(AQ n).length):=Nat.lt_of_le_of_lt h a;have:=(Nat.pow_lt_pow_iff_right (by decide:1<2)).1 b;omega
theorem Mr {a b:List UInt32} (c:a.length=b.length) (h:AE a=AE b):a=b:=by
 induction a generalizing b with
 | nil=>cases b with
  | nil=>rfl
  | cons _ _=>simp at c
 | cons x a j=>cases b with
  | nil=>simp at c
  | cons y b=>
   simp only[AE] at h;have l:=x.toNat_lt;have m:=y.toNat_lt;have g:x.toNat=y.toNat:=by omega
   have i:AE a=AE b:=by omega
   rw[UInt32.toNat_inj.1 g,j (by simpa using c) i]
theorem RV {l:List UInt32} (h:l=[]\/2^(32*(l.length-1))<=AE l):AQ (AE l)=l:=by
 rcases h with rfl | h
 ·rfl
 apply Mr _ (BS _);have a:=Gx (Cu l);have b:=Xf h;omega
theorem EM {a b:Nat} (h:a<=b:=by omega):(AQ a).length<=(AQ b).length:=by
 apply Gx;have:=Cu (AQ b);rw[BS] at this;omega
theorem F4 {n:Nat}:AQ n=[]↔n=0:=by
 constructor
 ·intro h;have:=BS n;rw[h] at this;exact this.symm
 rintro rfl;rfl
theorem Xp {n:Nat} (h:n≠0):2^(32*((AQ n).length-1))<=n:=by
 apply Classical.byContradiction;intro a;have:=Gx (n:=n) (k:=(AQ n).length-1) (by omega);have:AQ n≠[]:=fun e=>h (F4.1 e)
 have:(AQ n).length≠0:=by simpa using this
 omega
theorem EN (l:List UInt32) (x:UInt32):AE (l++[x])=AE l+2^(32*l.length)*x.toNat:=by
 rw[Ox];simp[AE]
theorem Ck {l:List UInt32} {i:Nat} {x:UInt32} (h:l[i]? =some x):AE (l.take (i+1))=AE (l.take i)+2^(32*i)*x.toNat:=by
 have a:i<l.length:=by
  apply Classical.byContradiction;intro b;rw[List.getElem?_eq_none (by omega)] at h;exact absurd h (by simp)
 rw[List.take_succ_eq_append_getElem a,EN];have:l[i]=x:=by simpa [List.getElem?_eq_getElem a] using h
 rw[this,List.length_take,Nat.min_eq_left (by omega)]
theorem Gf (l:List UInt32) (i:Nat) (h:i<=l.length):AE l=AE (l.take i)+2^(32*i)*AE (l.drop i):=by
 conv=>lhs;rw[<-List.take_append_drop i l,Ox,List.length_take,Nat.min_eq_left h]
def CM:List UInt32->List UInt32
 | []=>[]
 | x::l=>match CM l with
  | []=>if x=0 then [] else [x]
  | y::r=>x::y::r
theorem KQ:∀(l:List UInt32),CM (l++[0])=CM l
 | []=>rfl
 | x::l=>by simp[CM,KQ l]
theorem Lj {x:UInt32} (a:x≠0):∀(l:List UInt32),CM (l++[x])=l++[x]
 | []=>by simp[CM,a]
 | y::l=>by
  rw[List.cons_append,CM,Lj a l];cases l <;> rfl
theorem NT (l:List UInt32):CM l=AQ (AE l):=by
 induction l with
 | nil=>rfl
 | cons x l b=>
  rw[CM,b,AE];have c:=x.toNat_lt
  by_cases h:AE l=0
  ·rw[h,Gy]
   by_cases a:x=0
   ·subst a;simp[Gy]
   have:x.toNat≠0:=fun e=>a (UInt32.toNat_inj.1 e)
   rw[if_neg a,Mh (by omega),show (x.toNat+4294967296*0)/4294967296=0 by omega,Gy];simp
  rw[Mh (n:=x.toNat+_) (by omega),show (x.toNat+4294967296*AE l)/4294967296=AE l by omega];rw[Mh h]
  show x::_=_
  congr 1
  apply UInt32.toNat_inj.1;rw[UInt32.toNat_ofNat'];omega
def JR:Nat->Nat->Nat
 | 0,_=>0
 | f+1,n=>if n=0 then 0 else
  let r:=2*JR f (n/4)
  if (r+1)*(r+1)<=n then r+1 else r
def Bq (n:Nat):Nat:=JR n n
theorem RF:∀(f n:Nat),n<=f->JR f n*JR f n<=n/\n<(JR f n+1)*(JR f n+1)
 | 0,n,h=>by rw[show n=0 by omega];decide
 | f+1,n,h=>by
  rw[JR]
  by_cases a:n=0
  ·rw[if_pos a,a];decide
  rw[if_neg a];have:=RF f (n/4) (by omega)
  generalize JR f (n/4)=r at*
  simp only;have b:(2*r)*(2*r)=4*(r*r):=by grind
  have e2:(2*r+1+1)*(2*r+1+1)=4*((r+1)*(r+1)):=by grind
  split
  ·refine⟨by assumption,?_⟩;rw[e2];omega
  refine⟨?_,by omega⟩;rw[b];omega
theorem MY (n:Nat):Bq n*Bq n<=n:=(RF n n (Nat.le_refl _)).1
theorem Ok (n:Nat):n<(Bq n+1)*(Bq n+1):=(RF n n (Nat.le_refl _)).2
theorem XS {n r:Nat} (c:r*r<=n) (g:n<(r+1)*(r+1)):Bq n=r:=by
 have h3:=MY n;have h:=Ok n
 generalize Bq n=s at*
 have a:s<r+1:=Nat.mul_self_lt_mul_self_iff.1 (by omega);have b:r<s+1:=Nat.mul_self_lt_mul_self_iff.1 (by omega);omega
theorem Dl {l:List UInt32} {i:Nat} (h:l.length<=i):AE (l.take i)=AE l:=by rw[List.take_of_length_le h]
theorem N9 {A B c xi yi i s:Nat} {w:UInt32} (a:o.length=i) (h:AE o+2^(32*i)*c=A+B) (b:s=c+xi+yi) (hw:w.toNat=s%4294967296):
  AE (o++[w])+2^(32*(i+1))*(s/4294967296)=(A+2^(32*i)*xi)+(B+2^(32*i)*yi):=by
 rw[EN,EF,a,hw]
 generalize 2^(32*i)=P at*
 have:s%4294967296+4294967296*(s/4294967296)=s:=by omega
 have e:P*(s%4294967296)+4294967296*P*(s/4294967296)=P*s:=by rw[<-this];grind
 subst b
 grind
theorem Qa {w:UInt32} (hw:w.toNat≠0):AQ (AE (o++[w]))=o++[w]:=by
 apply RV
 right
 rw[EN,List.length_append];have:2^(32*o.length)*1<=2^(32*o.length)*w.toNat:=Nat.mul_le_mul_left _ (by omega);simp;omega
theorem Vr {p q:Nat} (h:AE o=p+q) (a:o.length=(AQ p).length):o=AQ (p+q):=by
 rw[<-h];refine (RV ?_).symm
 by_cases b:p=0
 ·left
  subst b;simpa [Gy] using a
 right
 have:=Xp b;rw[a];omega
theorem It (n:Nat):AE (List.replicate n 0)=0:=by
 induction n with
 | zero=>rfl
 | succ n a=>rw[List.replicate_succ,AE,a];rfl
theorem TK:∀(l:List UInt32),l.take (CM l).length=CM l
 | []=>rfl
 | x::l=>by
  have b:=TK l;rw[CM];cases h:CM l with
  | nil=>
   by_cases a:x=0
   ·simp[a]
   simp[a]
  | cons y r=>
   rw[h] at b;simpa using b
theorem TJ (l:List UInt32):(CM l).length<=l.length:=by
 rw[<-TK,List.length_take];omega
theorem E0 {l:List UInt32} {n m:Nat} (c:n<=l.length) (hm:m=(CM (l.take n)).length):m<=n/\l.take m=AQ (AE (l.take n)):=by
 have b:=TJ (l.take n);rw[List.length_take] at b;have a:=TK (l.take n);rw[<-hm,List.take_take,Nat.min_eq_left (by omega)] at a;exact⟨by omega,by rw[a,NT]⟩
end Go.Abs
namespace Go.Abs
variable {B d:Rat}
theorem mK (e:Rat):e=e.num/e.den:=by
 have h:=Rat.mkRat_self e;rw[Rat.mkRat_eq_div] at h;exact h.symm
theorem LU (e:Rat):e*e.den=e.num:=by
 have h:(e.den:Rat)≠0:=by
  intro h;exact e.den_nz (Rat.natCast_eq_zero_iff.1 h)
 have:=mK e
 grind
theorem mL {e:Rat} (h:0<e):0<e.num:=by
 have:=(Rat.lt_iff 0 e).1 h;simpa using this
theorem LK {a e:Rat} (c:a<=B) (g: -B<=a) (h3:d<=e) (h: -e<=d):a*d<=B*e:=by
 have p:=Rat.mul_nonneg (a:=B-a) (b:=e+d) (by grind) (by grind);have q:=Rat.mul_nonneg (a:=B+a) (b:=e-d) (by grind) (by grind)
 grind
theorem j7 {a e:Rat} (c:a<=B) (g: -B<=a) (h3:d<=e) (b: -e<=d): -(B*e)<=a*d:=by
 have:=LK (a:= -a) (d:=d) (B:=B) (e:=e) (by grind) (by grind) h3 b
 grind
structure CS where
 f:Nat->Rat
 H9:∀e:Rat,0<e->∃N,∀n m,N<=n->N<=m->f n-f m<e
namespace CS
def eqv (a b:CS):Prop:=∀e:Rat,0<e->∃N,∀n,N<=n->a.f n-b.f n<e/\b.f n-a.f n<e
theorem gW (a:CS):eqv a a:=fun e he=>⟨0,fun n _=>by grind⟩
theorem Wq {a b:CS} (h:eqv a b):eqv b a:=fun e he=>by
 obtain⟨N,c⟩:=h e he;exact⟨N,fun n g=>⟨(c n g).2,(c n g).1⟩⟩
theorem gX {a b c:CS} (h:eqv a b) (k:eqv b c):eqv a c:=fun e he=>by
 obtain⟨N,i⟩:=h (e/2) (by grind);obtain⟨M,g⟩:=k (e/2) (by grind);refine⟨max N M,fun n j=>?_⟩;have:=i n (by omega);have:=g n (by omega)
 grind
instance st:Setoid CS:=⟨eqv,gW,Wq,gX⟩
theorem gV {a b:CS} (h:∀n,a.f n=b.f n):a ≈ b:=fun e he=>⟨0,fun n _=>by have:=h n;grind⟩
theorem MD (a:CS):∃B:Rat,0<B/\∃N,∀n,N<=n->a.f n<=B/\ -B<=a.f n:=by
 obtain⟨N,c⟩:=a.H9 1 (by decide)
 have i:0<=max (a.f N) (-(a.f N)):=by
  rcases Rat.le_total (a:=a.f N) (b:= -(a.f N)) with h | h
  ·rw[Rat.max_def,if_pos h];grind
  by_cases h':a.f N<= -(a.f N)
  ·rw[Rat.max_def,if_pos h'];grind
  rw[Rat.max_def,if_neg h'];grind
 have j:a.f N<=max (a.f N) (-(a.f N)):=by rw[Rat.max_def];split <;> grind
 have l: -(a.f N)<=max (a.f N) (-(a.f N)):=by rw[Rat.max_def];split <;> grind
 refine⟨max (a.f N) (-(a.f N))+1,by grind,N,fun n g=>?_⟩;have:=c n N g (Nat.le_refl _);have:=c N n (Nat.le_refl _) g
 grind
def const (q:Rat):CS:=⟨fun _=>q,fun e he=>⟨0,fun n m _ _=>by grind⟩⟩
def add (a b:CS):CS:=⟨fun n=>a.f n+b.f n,fun e he=>by
 obtain⟨N,hN⟩:=a.H9 (e/2) (by grind);obtain⟨M,hM⟩:=b.H9 (e/2) (by grind);refine⟨max N M,fun n m hn hm=>?_⟩;have:=hN n m (by omega) (by omega);have:=hM n m (by omega) (by omega)
 grind⟩
def neg (a:CS):CS:=⟨fun n=> -a.f n,fun e he=>by
 obtain⟨N,hN⟩:=a.H9 e he;refine⟨N,fun n m hn hm=>?_⟩;have:=hN m n hm hn
 grind⟩
theorem X7 {x y u v A e:Rat} (n:0<A) (s:0<B) (he:0<e) (h:x<=A) (c: -A<=x) (g:v<=B) (b: -B<=v)
  (j:x-u<e/(2*B)) (l:u-x<e/(2*B)) (h3:y-v<e/(2*A)) (m:v-y<e/(2*A)):x*y-u*v<=e:=by
 have p:=LK (a:=x) (d:=y-v) (B:=A) (e:=e/(2*A)) h c (by grind) (by grind);have q:=LK (a:=v) (d:=x-u) (B:=B) (e:=e/(2*B)) g b (by grind) (by grind);have i:A*(e/(2*A))=e/2:=by grind
 have e2:B*(e/(2*B))=e/2:=by grind
 grind
def mul (a b:CS):CS:=⟨fun n=>a.f n*b.f n,fun e he=>by
 obtain⟨A,hA,N,hN⟩:=a.MD;obtain⟨B,hB,M,hM⟩:=b.MD;have p1:0<(e/2)/(2*B):=by rw[Rat.div_def];exact Rat.mul_pos (by grind) (Rat.inv_pos.2 (by grind))
 have p2:0<(e/2)/(2*A):=by rw[Rat.div_def];exact Rat.mul_pos (by grind) (Rat.inv_pos.2 (by grind))
 obtain⟨P,hP⟩:=a.H9 _ p1;obtain⟨Q,hQ⟩:=b.H9 _ p2;refine⟨max (max N M) (max P Q),fun n m hn hm=>?_⟩;have hn1:=hN n (by omega);have hm1:=hM m (by omega);have:=X7 (e:=e/2) hA hB (by grind) hn1.1 hn1.2 hm1.1 hm1.2 (hP n m (by omega) (by omega)) (hP m n (by omega) (by omega)) (hQ n m (by omega) (by omega)) (hQ m n (by omega) (by omega))
 grind⟩
theorem add_congr {a b c d:CS} (h:a ≈ c) (k:b ≈ d):add a b ≈ add c d:=fun e he=>by
 obtain⟨N,i⟩:=h (e/2) (by grind);obtain⟨M,g⟩:=k (e/2) (by grind);refine⟨max N M,fun n j=>?_⟩;have:=i n (by omega);have:=g n (by omega)
 show a.f n+b.f n-(c.f n+d.f n)<e/\c.f n+d.f n-(a.f n+b.f n)<e
 grind
theorem neg_congr {a c:CS} (h:a ≈ c):neg a ≈ neg c:=fun e he=>by
 obtain⟨N,b⟩:=h e he;refine⟨N,fun n g=>?_⟩;have:=b n g
 show -a.f n- -c.f n<e/\ -c.f n- -a.f n<e
 grind
theorem mul_congr {a b c d:CS} (h:a ≈ c) (k:b ≈ d):mul a b ≈ mul c d:=fun e he=>by
 obtain⟨A,m,N,u⟩:=a.MD;obtain⟨B,s,M,t⟩:=d.MD;have x:0<(e/2)/(2*B):=by rw[Rat.div_def];exact Rat.mul_pos (by grind) (Rat.inv_pos.2 (by grind))
 have y:0<(e/2)/(2*A):=by rw[Rat.div_def];exact Rat.mul_pos (by grind) (Rat.inv_pos.2 (by grind))
 obtain⟨P,v⟩:=h _ x;obtain⟨Q,w⟩:=k _ y;refine⟨max (max N M) (max P Q),fun n C=>?_⟩;have i:=u n (by omega);have g:=t n (by omega);have j:=v n (by omega);have l:=w n (by omega);have t1:=X7 (e:=e/2) m s (by grind) i.1 i.2 g.1 g.2 j.1 j.2 l.1 l.2;have p:=LK (a:=a.f n) (d:=d.f n-b.f n) (B:=A) (e:=(e/2)/(2*A)) i.1 i.2 (by grind) (by grind);have q:=LK (a:=d.f n) (d:=c.f n-a.f n) (B:=B) (e:=(e/2)/(2*B)) g.1 g.2 (by grind) (by grind);have z:A*((e/2)/(2*A))=e/4:=by grind
 have e2:B*((e/2)/(2*B))=e/4:=by grind
 show a.f n*b.f n-c.f n*d.f n<e/\c.f n*d.f n-a.f n*b.f n<e
 grind
def pos (a:CS):Prop:=∃e:Rat,0<e/\∃N,∀n,N<=n->e<a.f n
theorem Yr {a b:CS} (h:a ≈ b) (k:pos a):pos b:=by
 obtain⟨e,he,N,g⟩:=k;obtain⟨M,c⟩:=h (e/2) (by grind);refine⟨e/2,by grind,max N M,fun n i=>?_⟩;have:=g n (by omega);have:=c n (by omega)
 grind
theorem lI {a b:CS} (h:a ≈ b):pos a=pos b:=propext ⟨Yr h,Yr (Wq h)⟩
theorem tri (a:CS):a ≈ const 0\/pos a\/pos (neg a):=by
 apply Classical.byContradiction;intro h;apply h;refine .inl fun e he=>?_
 obtain⟨N,b⟩:=a.H9 (e/2) (by grind);refine⟨N,fun n c=>?_⟩
 show a.f n-0<e/\0-a.f n<e
 constructor
 ·apply Classical.byContradiction;intro hc;refine h (.inr (.inl ⟨e/4,by grind,N,fun m hm=>?_⟩));have:=b n m c hm
  grind
 apply Classical.byContradiction;intro hc;refine h (.inr (.inr ⟨e/4,by grind,N,fun m hm=>?_⟩));have:=b m n hm c
 show e/4< -a.f m
 grind
theorem ij {x y c e:Rat} (hc:0<c) (j:c<x) (l:c<y) (he:0<e) (h:x-y<e*(c*c)):y⁻¹-x⁻¹<e:=by
 have g:0<x*y:=Rat.mul_pos (by grind) (by grind);have i:y⁻¹-x⁻¹=(x-y)*(x*y)⁻¹:=by grind
 have e2:e=e*(x*y)*(x*y)⁻¹:=by grind
 have p:=Rat.mul_nonneg (a:=x-c) (b:=y) (by grind) (by grind);have m:=Rat.mul_nonneg (a:=c) (b:=y-c) (by grind) (by grind);have q:=Rat.mul_nonneg (a:=e) (b:=x*y-c*c) (by grind) (by grind);have r:=Rat.mul_pos (a:=e*(x*y)-(x-y)) (b:=(x*y)⁻¹) (by grind) (Rat.inv_pos.2 g)
 grind
theorem MW {a:CS} (h:pos a):∃b:CS,mul a b ≈ const 1:=by
 obtain⟨c,hc,N,g⟩:=h;refine⟨⟨fun n=>(a.f (max N n))⁻¹,fun e he=>?_⟩,?_⟩
 ·have i:0<c*c:=Rat.mul_pos hc hc;obtain⟨M,l⟩:=a.H9 (e*(c*c)) (Rat.mul_pos he i);refine⟨M,fun n m j hm=>?_⟩;exact ij hc (g _ (by omega)) (g _ (by omega)) he (l _ _ (by omega) (by omega))
 intro e he;refine⟨N,fun n j=>?_⟩;have:=g n j;have p:a.f n*(a.f (max N n))⁻¹=1:=by rw[Nat.max_eq_right j];grind
 show a.f n*(a.f (max N n))⁻¹-1<e/\1-a.f n*(a.f (max N n))⁻¹<e
 grind
theorem mul_pos {a b:CS} (h:pos a) (k:pos b):pos (mul a b):=by
 obtain⟨c,hc,N,j⟩:=h;obtain⟨d,g,M,i⟩:=k;refine⟨c*d,Rat.mul_pos hc g,max N M,fun n s=>?_⟩;have l:=j n (by omega);have m:=i n (by omega);have p:=Rat.mul_pos (a:=a.f n-c) (b:=d) (by grind) g;have q:=Rat.mul_pos (a:=a.f n) (b:=b.f n-d) (by grind) (by grind)
 show c*d<a.f n*b.f n
 grind
theorem add_pos {a b:CS} (h:pos a) (k:pos b):pos (add a b):=by
 obtain⟨c,hc,N,i⟩:=h;obtain⟨d,m,M,g⟩:=k;refine⟨c+d,by grind,max N M,fun n p=>?_⟩;have j:=i n (by omega);have l:=g n (by omega)
 show c+d<a.f n+b.f n
 grind
theorem kX {a:CS} (h:pos a):¬pos (neg a):=by
 rintro⟨d,l,M,b⟩
 obtain⟨c,hc,N,g⟩:=h;have i:=g (max N M) (by omega);have j:d< -a.f (max N M):=b (max N M) (by omega)
 grind
theorem kY:¬pos (const 0):=by
 rintro⟨d,c,M,a⟩
 have b:d<0:=a M (by omega)
 grind
theorem LP (k:Nat):(0:Rat)<2^k:=Rat.pow_pos (by decide)
theorem LO (k:Nat):(0:Rat)<(2^k)⁻¹:=Rat.inv_pos.2 (LP k)
theorem kI (k:Nat):(k:Rat)<2^k:=by
 have:=Nat.lt_two_pow_self (n:=k);have h:((k:Nat):Rat)<((2^k:Nat):Rat):=Rat.natCast_lt_natCast.2 this;simpa using h
theorem small (e:Rat) (he:0<e):∃N:Nat,∀n:Nat,N<=n->((2:Rat)^n)⁻¹<e:=by
 refine⟨e.den,fun n j=>?_⟩;have l:=kI n;have m:(e.den:Rat)<=(n:Rat):=Rat.natCast_le_natCast.2 j
 have h3:1<=e*e.den:=by
  have:e*e.den=e.num:=LU e;rw[this];have h:0<e.num:=mL he;have g:((1:Int):Rat)<=e.num:=Rat.intCast_le_intCast.2 h;exact g
 have g:=LP n;have h:=Rat.mul_lt_mul_of_pos_left (a:=(e.den:Rat)) (b:=2^n) (c:=e) (by grind) he;have p:((2:Rat)^n)⁻¹*2^n=1:=by grind
 have i:=LO n;have q:=Rat.mul_pos (a:=e*2^n-1) (b:=(2^n)⁻¹) (by grind) i;have s:(e*2^n-1)*((2:Rat)^n)⁻¹=e-((2:Rat)^n)⁻¹:=by grind
 grind
def ER (q:Rat) (k:Nat):Rat:=(Bq (q*(2^k*2^k)).floor.toNat:Rat)*(2^k)⁻¹
theorem Sk (q:Rat) (k:Nat):0<=ER q k:=
 Rat.mul_nonneg (by exact Rat.natCast_nonneg) (Rat.le_of_lt (LO k))
theorem ZR {q:Rat} (k:Nat) (h:q<=0):ER q k=0:=by
 have c:q*(2^k*2^k)<=0:=by
  have:=Rat.mul_nonneg (a:= -q) (b:=2^k*2^k) (by grind) (Rat.le_of_lt (Rat.mul_pos (LP k) (LP k)))
  generalize (2:Rat)^k=x at*
  grind
 have g:(q*(2^k*2^k)).floor<=0:=by
  have:=Rat.floor_le (q*(2^k*2^k));have h3:((q*(2^k*2^k)).floor:Rat)<=((0:Int):Rat):=Rat.le_trans this c;exact Rat.intCast_le_intCast.1 h3
 rw[ER,Int.toNat_of_nonpos g];have:Bq 0=0:=rfl;rw[this];simp
theorem ZQ {q:Rat} (k:Nat) (h:0<=q):ER q k*ER q k<=q:=by
 have m:=LP k;have l:=LO k;have c:0<=q*(2^k*2^k):=Rat.mul_nonneg h (Rat.le_of_lt (Rat.mul_pos m m));have n:=Rat.floor_le (q*(2^k*2^k));have h3:0<=(q*(2^k*2^k)).floor:=Rat.le_floor_iff.2 (by simpa using c);have g:=MY (q*(2^k*2^k)).floor.toNat;rw[ER]
 generalize s:Bq (q*(2^k*2^k)).floor.toNat=r at*
 have i:((r*r:Nat):Rat)<=((q*(2^k*2^k)).floor.toNat:Rat):=Rat.natCast_le_natCast.2 g
 have j:((q*(2^k*2^k)).floor.toNat:Rat)=((q*(2^k*2^k)).floor:Rat):=by
  have:=Int.toNat_of_nonneg h3;have p:(((q*(2^k*2^k)).floor.toNat:Int):Rat)=((q*(2^k*2^k)).floor:Rat):=by rw[this]
  exact p
 rw[j] at i
 have t:(r:Rat)*r<=q*(2^k*2^k):=by
  have:((r*r:Nat):Rat)=(r:Rat)*r:=by simp
  grind
 have u:=Rat.mul_nonneg (a:=q*(2^k*2^k)-(r:Rat)*r) (b:=(2^k)⁻¹*(2^k)⁻¹) (by grind) (Rat.le_of_lt (Rat.mul_pos l l));have e:(2:Rat)^k*(2^k)⁻¹=1:=by grind
 clear c n h3 g i j s
 generalize ((2:Rat)^k)⁻¹=y at*
 generalize (2:Rat)^k=x at*
 have e2:(q*(x*x)-(r:Rat)*r)*(y*y)=q-r*y*(r*y):=by grind
 grind
theorem Xu (q:Rat) (k:Nat):q<(ER q k+(2^k)⁻¹)*(ER q k+(2^k)⁻¹):=by
 have p:=LP k;have h:=LO k;have g:=Ok (q*(2^k*2^k)).floor.toNat;rw[ER]
 generalize m:Bq (q*(2^k*2^k)).floor.toNat=r at*
 have i:q*(2^k*2^k)<(q*(2^k*2^k)).floor+1:=by
  have:=Rat.lt_floor_add_one (q*(2^k*2^k));rwa [Rat.intCast_add] at this
 have h3:(q*(2^k*2^k)).floor<=((q*(2^k*2^k)).floor.toNat:Int):=Int.self_le_toNat _
 have c:((q*(2^k*2^k)).floor:Rat)<=((q*(2^k*2^k)).floor.toNat:Rat):=by
  exact Rat.intCast_le_intCast.2 h3
 have j:((q*(2^k*2^k)).floor.toNat:Rat)+1<=((r:Rat)+1)*(r+1):=by
  have l:(q*(2^k*2^k)).floor.toNat+1<=(r+1)*(r+1):=g;have:=Rat.natCast_le_natCast.2 l;simpa using this
 have n:=Rat.mul_pos (a:=((r:Rat)+1)*(r+1)-q*(2^k*2^k)) (b:=(2^k)⁻¹*(2^k)⁻¹) (by grind) (Rat.mul_pos h h);have e:(2:Rat)^k*(2^k)⁻¹=1:=by grind
 clear i h3 g j c m
 generalize ((2:Rat)^k)⁻¹=y at*
 generalize (2:Rat)^k=x at*
 have e2:(((r:Rat)+1)*(r+1)-q*(x*x))*(y*y)=(r*y+y)*(r*y+y)-q:=by grind
 grind
theorem Sl {p q e:Rat} {k l:Nat} (he:0<e) (m:((2:Rat)^l)⁻¹<e/2) (h:p-q<e*e/2):ER p k-ER q l<e:=by
 apply Classical.byContradiction;intro n;have g:=Sk q l;have i:=Xu q l
 have c:0<=p:=by
  apply Classical.byContradiction;intro hc;have:=ZR (q:=p) k (by grind)
  grind
 have h3:=ZQ k c;have j:=LO l
 generalize ER p k=s at*
 generalize ER q l=t at*
 generalize ((2:Rat)^l)⁻¹=d at*
 have u:=Rat.mul_nonneg (a:=s-(t+d)-e/2) (b:=s+(t+d)) (by grind) (by grind);have v:=Rat.mul_nonneg (a:=e/2) (b:=s+t+d-e) (by grind) (by grind)
 grind
def sqrt (a:CS):CS:=⟨fun n=>ER (a.f n) n,fun e he=>by
 obtain⟨N,hN⟩:=small (e/2) (by grind);obtain⟨M,hM⟩:=a.H9 (e*e/2) (by have:=Rat.mul_pos he he;grind);refine⟨max N M,fun n m hn hm=>?_⟩;exact Sl he (hN m (by omega)) (hM n m (by omega) (by omega))⟩
theorem np {a b:CS} (h:a ≈ b):sqrt a ≈ sqrt b:=fun e he=>by
 obtain⟨N,c⟩:=small (e/2) (by grind);obtain⟨M,g⟩:=h (e*e/2) (by have:=Rat.mul_pos he he;grind);refine⟨max N M,fun n i=>?_⟩;have:=g n (by omega);exact⟨Sl he (c n (by omega)) this.1,Sl he (c n (by omega)) this.2⟩
theorem HR {a:CS} (h:¬pos (neg a)):mul (sqrt a) (sqrt a) ≈ a:=fun e he=>by
 obtain⟨B,G,P,u⟩:=(sqrt a).MD;have y:0<e/(2*B+1):=by rw[Rat.div_def];exact Rat.mul_pos (by grind) (Rat.inv_pos.2 (by grind))
 obtain⟨N,t⟩:=small _ y;obtain⟨l,g⟩:=small 1 (by decide);obtain⟨M,q⟩:=a.H9 (e/2) (by grind)
 have c:∃n,M<=n/\ -(e/2)<a.f n:=by
  apply Classical.byContradiction;intro hc;apply h;refine⟨e/4,by grind,M,fun n j=>?_⟩;have:¬(-(e/2)<a.f n):=fun v=>hc ⟨n,j,v⟩
  show e/4< -a.f n
  grind
 obtain⟨x,i,c⟩:=c;refine⟨max (max N l) (max M P),fun n j=>?_⟩;have m:=u n (by omega);have z:=t n (by omega);have h3:=q x n i (by omega);have A:=Xu (a.f n) n;have C:=Sk (a.f n) n;have D:=LO n;have F:=g n (by omega)
 show ER (a.f n) n*ER (a.f n) n-a.f n<e/\a.f n-ER (a.f n) n*ER (a.f n) n<e
 have p:ER (a.f n) n<=B:=m.1
 constructor
 ·by_cases w:0<=a.f n
  ·have:=ZQ n w
   grind
  rw[ZR n (by grind)]
  grind
 generalize ER (a.f n) n=s at*
 generalize ((2:Rat)^n)⁻¹=d at*
 have H:=Rat.mul_nonneg (a:=B-s) (b:=d) (by grind) (by grind);have I:=Rat.mul_nonneg (a:=1-d) (b:=d) (by grind) (by grind);have J:=Rat.mul_pos (a:=e/(2*B+1)-d) (b:=2*B+1) (by grind) (by grind);have K:e/(2*B+1)*(2*B+1)=e:=by grind
 grind
theorem Jl (a:CS):¬pos (neg (sqrt a)):=by
 rintro⟨e,he,N,b⟩
 have c:e< -ER (a.f N) N:=b N (Nat.le_refl _);have:=Sk (a.f N) N
 grind
end CS
def Re:Type:=Quotient CS.st
namespace Re
def mk (a:CS):Re:=Quotient.mk _ a
def ofRat (q:Rat):Re:=mk (CS.const q)
def add (x y:Re):Re:=Quotient.liftOn₂ x y (fun a b=>mk (CS.add a b)) fun _ _ _ _ h k=>Quotient.sound (CS.add_congr h k)
def mul (x y:Re):Re:=Quotient.liftOn₂ x y (fun a b=>mk (CS.mul a b)) fun _ _ _ _ h k=>Quotient.sound (CS.mul_congr h k)
def neg (x:Re):Re:=Quotient.liftOn x (fun a=>mk (CS.neg a)) fun _ _ h=>Quotient.sound (CS.neg_congr h)
def sqrt (x:Re):Re:=Quotient.liftOn x (fun a=>mk (CS.sqrt a)) fun _ _ h=>Quotient.sound (CS.np h)
def pos (x:Re):Prop:=Quotient.liftOn x CS.pos fun _ _ h=>CS.lI h
def pow (x:Re):Nat->Re
 | 0=>ofRat 1
 | n+1=>mul (pow x n) x
instance:Add Re:=⟨add⟩
instance:Mul Re:=⟨mul⟩
instance:Neg Re:=⟨neg⟩
instance:Sub Re:=⟨fun a b=>add a (neg b)⟩
instance (n:Nat):OfNat Re n:=⟨ofRat n⟩
instance:NatCast Re:=⟨fun n=>ofRat n⟩
instance:IntCast Re:=⟨fun n=>ofRat n⟩
instance:Pow Re Nat:=⟨pow⟩
instance:SMul Nat Re:=⟨fun n a=>mul (ofRat n) a⟩
instance:SMul Int Re:=⟨fun n a=>mul (ofRat n) a⟩
instance:LT Re:=⟨fun a b=>pos (add b (neg a))⟩
instance:LE Re:=⟨fun a b=>¬pos (add a (neg b))⟩
theorem sound {a b:CS} (h:∀n,a.f n=b.f n):mk a=mk b:=Quotient.sound (CS.gV h)
theorem DV {p:Re->Prop} (h:∀a,p (mk a)) (x:Re):p x:=Quotient.ind h x
theorem add_assoc (x y z:Re):x+y+z=x+(y+z):=by
 induction x using DV;induction y using DV;induction z using DV
 exact sound fun n=>Rat.add_assoc _ _ _
theorem add_comm (x y:Re):x+y=y+x:=by
 induction x using DV;induction y using DV
 exact sound fun n=>Rat.add_comm _ _
theorem add_zero (x:Re):x+0=x:=by
 induction x using DV
 exact sound fun n=>Rat.add_zero _
theorem neg_add_cancel (x:Re): -x+x=0:=by
 induction x using DV
 exact sound fun n=>Rat.neg_add_cancel _
theorem mul_assoc (x y z:Re):x*y*z=x*(y*z):=by
 induction x using DV;induction y using DV;induction z using DV
 exact sound fun n=>Rat.mul_assoc _ _ _
theorem mul_comm (x y:Re):x*y=y*x:=by
 induction x using DV;induction y using DV
 exact sound fun n=>Rat.mul_comm _ _
theorem mul_one (x:Re):x*1=x:=by
 induction x using DV
 exact sound fun n=>Rat.mul_one _
theorem left_distrib (x y z:Re):x*(y+z)=x*y+x*z:=by
 induction x using DV;induction y using DV;induction z using DV
 exact sound fun n=>Rat.mul_add _ _ _
theorem zero_mul (x:Re):0*x=0:=by
 induction x using DV
 exact sound fun n=>Rat.zero_mul _
theorem ofRat_add (p q:Rat):ofRat (p+q)=ofRat p+ofRat q:=rfl
theorem ofRat_mul (p q:Rat):ofRat (p*q)=ofRat p*ofRat q:=rfl
theorem ofRat_neg (p:Rat):ofRat (-p)= -ofRat p:=rfl
abbrev UC {C:Type->Type} {α:Type} (_:C α):Type->Type:=C
abbrev cW:Type->Type:=UC Dyadic.instCommRing
abbrev Pr:Type->Type:=UC Dyadic.instCommRing.toRing.toSemiring
instance:cW Re where
 add_assoc:=add_assoc
 add_comm:=add_comm
 add_zero:=add_zero
 neg_add_cancel:=neg_add_cancel
 mul_assoc:=mul_assoc
 mul_comm:=mul_comm
 mul_one:=mul_one
 one_mul:=fun x=>by rw[mul_comm,mul_one]
 left_distrib:=left_distrib
 right_distrib:=fun x y z=>by rw[mul_comm,left_distrib,mul_comm z x,mul_comm z y]
 zero_mul:=zero_mul
 mul_zero:=fun x=>by rw[mul_comm,zero_mul]
 pow_zero:=fun _=>rfl
 pow_succ:=fun _ _=>rfl
 sub_eq_add_neg:=fun _ _=>rfl
 neg_zsmul:=fun i x=>by
  show mul (ofRat ((-i:Int):Rat)) x=neg (mul (ofRat (i:Rat)) x)
  rw[Rat.intCast_neg]
  induction x using DV
  exact sound fun n=>Rat.neg_mul _ _
 zsmul_natCast_eq_nsmul:=fun _ _=>rfl
 nsmul_eq_natCast_mul:=fun _ _=>rfl
 ofNat_succ:=fun n=>by
  show ofRat ((n+1:Nat):Rat)=ofRat (n:Rat)+ofRat 1
  rw[Rat.natCast_add,ofRat_add]
  rfl
 ofNat_eq_natCast:=fun _=>rfl
 intCast_ofNat:=fun _=>rfl
 intCast_neg:=fun i=>by
  show ofRat ((-i:Int):Rat)=neg (ofRat (i:Rat))
  rw[Rat.intCast_neg]
  rfl
theorem lt_def (x y:Re):x<y↔pos (y-x):=Iff.rfl
theorem le_def (x y:Re):x<=y↔¬pos (x-y):=Iff.rfl
theorem lJ {x y:Re}:pos x->pos y->pos (x*y):=by
 induction x using DV;induction y using DV
 exact CS.mul_pos
theorem lH {x y:Re}:pos x->pos y->pos (x+y):=by
 induction x using DV;induction y using DV
 exact CS.add_pos
theorem Yp {x:Re}:pos x->¬pos (-x):=by
 induction x using DV
 exact CS.kX
theorem lO:¬pos 0:=CS.kY
theorem Ys (x:Re):x=0\/pos x\/pos (-x):=by
 induction x using DV
 rcases CS.tri _ with h | h | h
 ·exact .inl (Quotient.sound h)
 ·exact .inr (.inl h)
 exact .inr (.inr h)
theorem Yq {q:Rat}:pos (ofRat q)↔0<q:=by
 constructor
 ·rintro⟨e,he,N,a⟩
  have:e<q:=a N (Nat.le_refl _)
  grind
 intro h;exact⟨q/2,by grind,0,fun n _=>by show q/2<q;grind⟩
theorem le_trans' {x y z:Re} (h:x<=y) (k:y<=z):x<=z:=by
 rw[le_def] at*;intro a;rcases Ys (x-y) with e | e | e
 ·rw[show x-z=(x-y)+(y-z) by grind,e,show 0+(y-z)=y-z by grind] at a;exact k a
 ·exact h e
 have:=lH a e;rw[show x-z+ -(x-y)=y-z by grind] at this;exact k this
theorem jN (x y:Re):x<=y\/y<=x:=by
 rw[le_def,le_def]
 by_cases h:pos (x-y)
 ·right
  have:=Yp h;rwa [show -(x-y)=y-x by grind] at this
 exact .inl h
theorem jL {x y:Re} (h:x<=y) (k:y<=x):x=y:=by
 rw[le_def] at*;rcases Ys (x-y) with e | e | e
 ·grind
 ·exact (h e).elim
 rw[show -(x-y)=y-x by grind] at e;exact (k e).elim
theorem jc (x y:Re):x<y↔x<=y/\¬y<=x:=by
 rw[lt_def,le_def,le_def]
 constructor
 ·intro h;refine⟨?_,fun k=>k h⟩;have:=Yp h;rwa [show -(y-x)=x-y by grind] at this
 rintro⟨_,h⟩
 exact Classical.not_not.1 h
instance:Std.IsLinearOrder Re where
 le_refl:=fun x=>by
  rw[le_def,show x-x=0 by grind];exact lO
 le_trans:=fun _ _ _=>le_trans'
 le_antisymm:=fun _ _=>jL
 le_total:=jN
instance:Std.LawfulOrderLT Re where
 lt_iff:=jc
abbrev bz {C:(β:Type)->(s:Pr β)->(l:LE β)->(t:LT β)->Std.IsPreorder β->Prop} {α:Type} {s:Pr α} {l:LE α} {t:LT α} {p:Std.IsPreorder α} (_:C α s l t p):(β:Type)->(s:Pr β)->(l:LE β)->(t:LT β)->Std.IsPreorder β->Prop:=C
theorem Rj {a b c:Re} (h:a<b) (hc:0<c):c*a<c*b:=by
 rw[lt_def] at*;rw[show c*b-c*a=(c-0)*(b-a) by grind];exact lJ hc h
instance:bz Dyadic.instOrderedRing Re inferInstance inferInstance inferInstance inferInstance where
 add_le_left_iff:=fun c=>by
  rename_i a b
  rw[le_def,le_def,show a+c-(b+c)=a-b by grind]
 zero_lt_one:=by
  rw[lt_def]
  show pos (ofRat 1-ofRat 0)
  have:ofRat 1-ofRat 0=ofRat 1:=by
   show (1:Re)-0=1
   grind
  rw[this,Yq]
  decide
 mul_lt_mul_of_pos_left:=fun h hc=>Rj h hc
 mul_lt_mul_of_pos_right:=fun h hc=>by
  rename_i a b c
  rw[mul_comm a c,mul_comm b c];exact Rj h hc
theorem mul_pos {x y:Re} (h:0<x) (k:0<y):0<x*y:=by
 have:=Rj k h
 grind
theorem X8 {x y:Re} (h:0<=x) (k:0<=y):0<=x*y:=by
 by_cases h':0<x
 ·by_cases k':0<y
  ·have:=mul_pos h' k'
   grind
  have:y=0:=by grind
  subst this
  grind
 have:x=0:=by grind
 subst this
 grind
theorem R7:ofRat 0=0:=rfl
theorem G1 {p q:Rat}:ofRat p<ofRat q↔p<q:=by
 rw[lt_def]
 have:ofRat q-ofRat p=ofRat (q-p):=by
  rw[show q-p=q+ -p by grind,ofRat_add,ofRat_neg];grind
 rw[this,Yq]
 grind
theorem R6 {p q:Rat}:ofRat p<=ofRat q↔p<=q:=by
 have:= @G1 q p
 grind
theorem F7 {p q:Rat}:ofRat p=ofRat q↔p=q:=by
 constructor
 ·intro h;have a:=(@R6 p q).1 (by grind);have b:=(@R6 q p).1 (by grind)
  grind
 rintro rfl;rfl
theorem XM {x:Re} (h:0<x):∃y,x*y=1:=by
 rw[lt_def,show x-0=x by grind] at h
 induction x using DV
 obtain⟨b,hb⟩:=CS.MW h;exact⟨mk b,Quotient.sound hb⟩
theorem MW {x:Re} (h:x≠0):∃y,x*y=1:=by
 by_cases a:0<x
 ·exact XM a
 obtain⟨y,b⟩:=XM (x:= -x) (by grind);exact⟨-y,by grind⟩
theorem Jl (x:Re):0<=sqrt x:=by
 rw[le_def,show 0-sqrt x= -sqrt x by grind]
 induction x using DV
 exact CS.Jl _
theorem HR {x:Re} (h:0<=x):sqrt x*sqrt x=x:=by
 rw[le_def,show 0-x= -x by grind] at h
 induction x using DV
 exact Quotient.sound (CS.HR h)
theorem Gu {x y:Re} (h:x*y=0):x=0\/y=0:=by
 by_cases a:x=0
 ·exact .inl a
 obtain⟨z,b⟩:=MW a
 right
 have:y=(x*z)*y:=by rw[b];grind
 grind
theorem I3 (x:Re):0<=x*x:=by
 by_cases h:0<=x
 ·exact X8 h h
 have:=X8 (x:= -x) (y:= -x) (by grind) (by grind)
 grind
theorem KO {x y:Re} (a:0<=x) (b:0<=y) (h:x*x=y*y):x=y:=by
 have:(x-y)*(x+y)=0:=by grind
 rcases Gu this with e | e
 ·grind
 grind
end Re
end Go.Abs
