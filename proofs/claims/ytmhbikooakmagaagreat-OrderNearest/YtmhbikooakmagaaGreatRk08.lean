/- Part 9 of a proof. Conditions: each theorem's own. -/
import Derived.Test.YtmhbikooakmagaaGreatRk07
set_option linter.all false
set_option maxHeartbeats 8000000
set_option maxRecDepth 20000
open Go.Proofs
namespace Go.Abs
open Go.RowKit Go.ChangeShapes Go.WideShapes Go.Deep
def HL:List T->Type
 | []=>PUnit
 | t::ts=>el t×HL ts
def QB:(ts:List T)->HL ts->List AV
 | [],_=>[]
 | t::ts,x=>Uc t x.1::QB ts x.2
def HP (P:Program):List T->List TypeId->Bool
 | [],[]=>true
 | τ::τs,t::ts=>(Fz P 20 τ t&&(P.readableRec t&&decide (t<P.types.size)))&&HP P τs ts
 | _,_=>false
theorem J6 {v:Value} {c:Value} (h:v.cells.toList=[c]) (g:v.oneCell'=true):v=c:=by
 rw[YI g] at h;simpa using h
theorem lU {P:Program} {w:World} {I:Nat->Prop} {r:Reach} {b:Nat} {m:Nat}:∀{τ:T} {t:TypeId} {v:Value} {y:el τ},Fz P (m+1) τ t=true->Value.okWide P w r b t v->rep w I τ y v.cells.toList->BK (DC w I) (Uc τ y) v
 | .u8,t,v,y,h,i,g=>by
  obtain⟨n,rfl⟩:=okWide_int (HF h) i;exact .inr (J6 g rfl)
 | .u32,t,v,y,h,i,g=>by
  obtain⟨n,rfl⟩:=okWide_int (HF h) i;exact .inr (J6 g rfl)
 | .u64,t,v,y,h,i,g=>by
  obtain⟨n,rfl⟩:=okWide_int (HF h) i;exact .inr (J6 g rfl)
 | .i8,t,v,y,h,i,g=>by
  obtain⟨n,rfl⟩:=okWide_int (HF h) i;exact .inr (J6 g rfl)
 | .i64,t,v,y,h,i,g=>by
  obtain⟨n,rfl⟩:=okWide_int (HF h) i;exact .inr (J6 g rfl)
 | .bool,t,v,y,h,i,g=>by
  have h':(match P.underlying t with | some .bool=>true | _=>false)=true:=h
  split at h'
  ·rename_i e
   obtain⟨n,rfl⟩:=okWide_bool e i;exact .inr (J6 g rfl)
  simp at h'
 | .sl e,t,v,y,h,i,g=>by
  have h':(match P.underlying t with | some (.slice u)=>Fz P m e u&&(P.cellsOf u==e.size&&decide (0<P.bytesOf u)) | _=>false)=true:=h
  split at h'
  ·rename_i u hu
   obtain⟨a,l,c,rfl⟩:=okWide_slice hu i;exact .inr g
  simp at h'
 | .pr a b',t,v,y,h,i,g=>by
  have h':(match P.underlying t with | some (.struct fs)=>okF P (Fz P m) (.pr a b') fs.toList 0&&P.cellsOf t==a.size+b'.size | _=>false)=true:=h
  split at h'
  ·rename_i fs hu
   obtain⟨cs,rfl,_⟩:=okWide_struct hu i;exact⟨cs,rfl,(Gr (DC w I) _ _ _).1 g⟩
  simp at h'
theorem UZ {H:Type} {enc:TypeId×Value->H} {P:Program} {w:World} {base:Nat}:∀(c:List T) (ts:List TypeId) (vs:List Value) (g:List (DataW H)) (ps:List MemPlace),HP P c ts=true->
  DataW.TrodAll enc P w 0 (fun _=>true) true ts vs g ps->(∀(j:Nat) t v,ts[j]? =some t->vs[j]? =some v->Value.okWide P w .any base t v)->(∀k∈DataW.weightsEach P ts g,k<=reachBytes)->
   g.length=c.length/\∃xs:HL c,AS (BK (DC w fun b=>b<w.heap.size)) (QB c xs) vs
 | [],[],[],[],_,_,_,_,_=>⟨rfl,⟨⟩,trivial⟩
 | τ::c,t::ts,v::vs,d::g,ps,h,⟨p,q,s,z,_⟩,m,hw=>by
  have h':((Fz P 20 τ t&&(P.readableRec t&&decide (t<P.types.size)))&&HP P c ts)=true:=h;simp only[Bool.and_eq_true] at h';obtain⟨e,xs,l⟩:=UZ c ts vs g q h'.2 z (fun j u x hu l=>m (j+1) u x hu l) (fun k i=>hw k (by rw[DataW.weightsEach];exact List.mem_append_right _ i));obtain⟨n,A⟩:=s;obtain⟨y,C⟩:=Ru 20 τ t h'.1.1 n _ _ A (fun k i=>hw k (by rw[DataW.weightsEach];exact List.mem_append_left _ i));exact⟨by simp[e],(y,xs),lU h'.1.1 (m 0 t v rfl rfl) C,l⟩
 |[],t::ts,_,_,_,h,_,_,_|_::_,[],_,_,_,h,_,_,_=>by simp[HP] at h
 |[],[],[],_::_,_,_,h,_,_|[],[],_::_,_,_,_,h,_,_|_::_,_::_,[],_,_,_,h,_,_|_::_,_::_,_::_,[],_,_,h,_,_=>h.elim
theorem Ub {H:Type} {enc:TypeId×Value->H} {P:Program} (m:laidOutB P=true) {W l:World} (hb:Below W.heap.size W l):∀(c:List T) (ts:List TypeId) (vs:List Value) (i:List (DataW H)) (ps:List MemPlace),HP P c ts=true->
  DataW.TrodAll enc P W 0 (fun _=>true) true ts vs i ps->(∀p∈ps,p.block<W.heap.size)->DataW.TrodAll enc P l 0 (fun b=>decide (b<W.heap.size)) true ts vs i ps
 | [],[],[],[],_,_,h,_=>h
 | τ::c,t::ts,v::vs,d::i,ps,h,⟨p,q,s,z,e⟩,g=>by
  have h':((Fz P 20 τ t&&(P.readableRec t&&decide (t<P.types.size)))&&HP P c ts)=true:=h;simp only[Bool.and_eq_true,decide_eq_true_eq] at h';subst e;exact⟨p,q,Below.trod m h'.1.2.1 h'.1.2.2 s hb (fun x j=>g x (List.mem_append_left _ j)),Ub m hb c ts vs i q h'.2 z (fun x j=>g x (List.mem_append_right _ j)),rfl⟩
 |[],t::ts,_,_,_,h,_,_|_::_,[],_,_,_,h,_,_=>by simp[HP] at h
 |[],[],[],_::_,_,_,h,_|[],[],_::_,_,_,_,h,_|_::_,_::_,[],_,_,_,h,_|_::_,_::_,_::_,[],_,_,h,_=>h.elim
def Qw:(t:T)->el t->Prop
 | .i64,n=>Hm n
 | .pr a b,x=>Qw a x.1/\Qw b x.2
 | _,_=>True
def iZ:(ts:List T)->HL ts->Prop
 | [],_=>True
 | t::ts,x=>Qw t x.1/\iZ ts x.2
theorem pA {P:Program} {f:FuncId} {fn:Func} {s:ChangeSpec} {g:List T} {tb:TypeId} (Q:laidOutB P=true) (z:HP P g fn.params.toList=true)
  (D:fn.resultTypes= #[tb]) (F:P.underlying tb=some .bool) (c:s.vars=[])
  (hs:∀(H:Type) (i:List (DataW H)),i.length=g.length->s.fn H (i++[])={results:=[.lit (.bool true)],args:=i})
  (L:∀xs:HL g,E8 P false f (QB g xs) (.one (.bool true)))
  (H:Type) (enc:TypeId×Value->H) (W:World) (base:Nat) (args:Array Value) (i gs:List (DataW H)) (before:List MemPlace)
  (A:∀(j:Nat) t v,fn.params[j]? =some t->args[j]? =some v->Value.okWide P W .any base t v)
  (K:DataW.Whole enc P fn.params.toList s.vars false W args.toList i gs before)
  (hw:(DataW.weightsEach P (fn.params.toList++s.plain.varTypes P) (i++gs)).all (·<=reachBytes)=true):
  Calls P f args W fun e J=>∃v,e= .returned v/\s.post enc P fn false true false false W args v J:=by
 have m:=K;obtain⟨p,q,l,hV,rfl,N,R⟩:=K;rw[c] at hV;obtain⟨rfl,rfl⟩:=trodVars_none hV
 have G:s.plain.varTypes P=[]:=by
  unfold DataSpec.varTypes ChangeSpec.plain;simp[c]
 rw[G,List.append_nil,List.append_nil,List.all_eq_true] at hw;obtain⟨hlen,xs,I⟩:=UZ g fn.params.toList args.toList i p z l (fun j t v ht U=>A j t v (by rw[<-Array.getElem?_toList];exact ht) (by rw[<-Array.getElem?_toList];exact U)) (fun k O=>by simpa using hw k O);obtain⟨_,_,M⟩:=L xs;have C:∀x∈p,x.block<W.heap.size:=fun x I=>m.lt x (List.mem_append_left _ I)
 refine (M W (fun b=>b<W.heap.size) args.toList (fun _ h=>h) I).mono fun e J ⟨u,bo,he,hb,S⟩=>?_
 have hu:u= .bool true:=by
  rcases S with h | h
  ·cases h
  exact h
 subst hu;refine⟨_,he,i,[],p++[],[],p,[],m,?_,?_,?_,?_,fun h=>by cases h⟩
 ·rw[D,hs H i hlen];exact trodAll_mk1 (shut_bool F true)
 ·rw[hs H i hlen];exact Ub Q hb g _ _ i p z l C
 ·rw[c,hs H i hlen]
  rfl
 exact hb.frame _
end Go.Abs
namespace Go.Abs
open Go.RowKit
def HX:TypeId->Info
 |244|172=>{size:=1,zero:=[.int .i64 0],agg:=true,By:=false,fields:=[(0,1,false)]}
 | 38=>{size:=6,zero:=[.nil,.nil,.nil,.nil,.nil,.nil],agg:=true,By:=false,fields:=[(0,2,true),(2,2,true),(4,2,true)]}
 |185|103=>{size:=1,zero:=[.int .i64 0],agg:=true,By:=false,fields:=[(0,1,false)]}
 | 42=>{size:=6,zero:=[.nil,.nil,.nil,.nil,.nil,.nil],agg:=true,By:=false,fields:=[(0,4,true),(4,2,true)]}
 | 28=>{size:=4,zero:=[.bool false,.int .u8 0,.int .u8 0,.bool false],agg:=true,By:=false,fields:=[(0,1,false),(1,1,false),(2,1,false),(3,1,false)]}
 | 30=>{size:=9,zero:=[.bool false,.int .u8 0,.int .u8 0,.bool false,.bool false,.int .u8 0,.int .u8 0,.bool false,.int .i64 0],agg:=true,By:=false,fields:=[(0,4,true),(4,4,true),(8,1,false)]}
 | 44=>{size:=21,zero:=[.int .i64 0,.nil,.nil,.nil,.nil,.nil,.nil,.nil,.nil,.nil,.nil,.nil,.nil,.nil,.nil,.nil,.nil,.nil,.nil,.nil,.nil],agg:=true,By:=false,fields:=[(0,1,false),(1,6,true),(7,4,true),(11,6,true),(17,4,true)]}
 | 124=>{size:=1,zero:=[.int .i64 0],agg:=true,By:=false,fields:=[(0,1,false)]}
 | 116=>{size:=10,zero:=[.nil,.nil,.nil,.nil,.nil,.nil,.nil,.nil,.nil,.nil],agg:=true,By:=false,fields:=[(0,4,true),(4,4,true),(8,2,true)]}
 | 193=>{size:=1,zero:=[.nil],sl:=true,Ct:=44,elem:=(.pr .i64 (.pr (.pr At Ai) (.pr Ai (.pr (.pr Ai At) Ai)))),By:=((0,(([],[]),([],[]),([],[])),(([],[]),([],[])),((([],[]),([],[])),([],[])),(([],[]),([],[]))):el (.pr .i64 (.pr (.pr At Ai) (.pr Ai (.pr (.pr Ai At) Ai))))),Ee:=488}
 | 83=>{size:=1,zero:=[.nil],sl:=true,Ct:=3,elem:= .i64,By:=(0:el .i64),Ee:=8}
 | 230=>{size:=10,zero:=[.nil,.nil,.nil,.nil,.nil,.nil,.nil,.nil,.nil,.nil],agg:=true,By:=false,fields:=[(0,2,true),(2,4,true),(6,4,true)]}
 | 231=>{size:=1,zero:=[.nil],sl:=true,Ct:=230,elem:=(.pr At (.pr Ai Ai)),By:=((([],[]),(([],[]),([],[])),(([],[]),([],[]))):el (.pr At (.pr Ai Ai))),Ee:=240}
 | t=>TI t
variable {f:FuncId} {r:AV}
theorem Sj (t:TypeId):DW Tryz.prog t (HX t):=by
 unfold HX
 split <;> first | exact Mj _ | exact Sr (by kernel_rfl)
def La (E:Env) (fn:Func) (r:AV) (b1:Option AL) (s:St):Prop:=
 match fn.body with
 | some c=>Cr E HX fn.ntmps c (post HX fn.results.toList r b1) s
 | none=>False
theorem dz {fn:Func} (l:Tryz.prog.funcs[f]? =some fn) (g:FD fn=true) {args:List AV} (i:(Ih args&&(r.all CB&&(r.wf&&Nat.ble args.length fn.ntmps)))=true)
  (h:∀E,env Tryz.prog=E->La E fn r none (Cw fn.ntmps args none)):E8 Tryz.prog false f args r:=by
 have h:=h _ rfl;unfold La at h;unfold FD at g;simp only[Bool.and_eq_true] at g i
 split at h
 ·rename_i c j
  rw[j] at g;exact UL (TI:=HX) (n:=fn.ntmps) (c:=c) (rs:=fn.results.toList) ⟨⟨fn,l,by simpa using g.1,j,rfl,rfl⟩,g.2,Sj,JG⟩ i.1 ⟨i.2.1,i.2.2.1⟩ (Nat.le_of_ble_eq_true i.2.2.2) h
 exact h.elim
def QG (E:Env) (fn:Func) (r:AV) (b0:AL) (s:St):Prop:=
 match fn.body with
 | some c=>Cr E HX fn.ntmps c (MF HX fn.results.toList r b0) s
 | none=>False
theorem gE {fn:Func} (m:Tryz.prog.funcs[f]? =some fn) (i:FD fn=true) {j:AL} {args:List AV} (g:(IQ args&&(r.all BB&&(j.lone&&(Nat.ble args.length fn.ntmps&&Nat.ble 1 fn.ntmps))))=true)
  (h:∀E,env Tryz.prog=E->QG E fn r j (Cw fn.ntmps args (some j))):Bv Tryz.prog f args j r:=by
 have h:=h _ rfl;unfold QG at h;unfold FD at i;simp only[Bool.and_eq_true] at i g
 split at h
 ·rename_i c l
  rw[l] at i;exact Vb (TI:=HX) (n:=fn.ntmps) (c:=c) (rs:=fn.results.toList) ⟨⟨fn,m,by simpa using i.1,l,rfl,rfl⟩,i.2,Sj,JG⟩ g.1 g.2.1 g.2.2.1 (Nat.le_of_ble_eq_true g.2.2.2.1) (Nat.le_of_ble_eq_true g.2.2.2.2) h
 exact h.elim
end Go.Abs
namespace Go.Abs
def AE:List UInt32->Nat
 | []=>0
 | x::l=>x.toNat+4294967296*AE l
def IS:Nat->Nat->List UInt32
 | 0,_=>[]
 | f+1,n=>if n=0 then [] else UInt32.ofNat n::IS f (n/4294967296)
def AP (n:Nat):List UInt32:=IS n n
variable {k:Nat} {o:List UInt32}
theorem RF:∀(f n:Nat),n<=f->IS f n=IS n n
 | 0,n,h=>by rw[show n=0 by omega]
 | f+1,n,h=>by
  cases n with
  | zero=>simp[IS]
  | succ n=>
   simp only[IS];rw[RF f _ (by omega),RF n _ (by omega)]
theorem Fv:AP 0=[]:=rfl
theorem Lv {n:Nat} (h:n≠0):AP n=UInt32.ofNat n::AP (n/4294967296):=by
 cases n with
 | zero=>exact (h rfl).elim
 | succ n=>
  show IS (n+1) (n+1)=_
  rw[IS,if_neg (by omega),RF n _ (by omega)]
  rfl
theorem Az (n:Nat):AE (AP n)=n:=by
 induction n using Nat.strongRecOn with
 | ind n c=>
  by_cases h:n=0
  ·subst h;rfl
  rw[Lv h,AE,c _ (by omega)];simp[UInt32.toNat_ofNat'];omega
theorem Ds (n:Nat):2^(32*(n+1))=4294967296*2^(32*n):=by
 rw[Nat.mul_add,Nat.pow_add,Nat.mul_comm]
theorem OW (a b:List UInt32):AE (a++b)=AE a+2^(32*a.length)*AE b:=by
 induction a with
 | nil=>simp[AE]
 | cons x a c=>
  rw[List.cons_append,AE,AE,c,List.length_cons,Ds]
  generalize 2^(32*a.length)=p
  grind
theorem CR (l:List UInt32):AE l<2^(32*l.length):=by
 induction l with
 | nil=>simp[AE]
 | cons x l c=>
  rw[AE,List.length_cons,Ds]
  generalize 2^(32*l.length)=p at*
  have:=x.toNat_lt;omega
theorem Fu {n:Nat} (h:n<2^(32*k)):(AP n).length<=k:=by
 induction k generalizing n with
 | zero=>have:n=0:=by simpa using h
         subst this;simp[Fv]
 | succ k g=>
  by_cases c:n=0
  ·subst c;simp[Fv]
  rw[Lv c,List.length_cons];rw[Ds] at h;have:=g (n:=n/4294967296) (by omega);omega
theorem W7 {n:Nat} (h:2^(32*k)<=n):k+1<=(AP n).length:=by
 have c:=CR (AP n);rw[Az] at c;have g:2^(32*k)<2^(32*(AP n).length):=Nat.lt_of_le_of_lt h c;have:=(Nat.pow_lt_pow_iff_right (by decide:1<2)).1 g;omega
theorem L2 {a b:List UInt32} (c:a.length=b.length) (h:AE a=AE b):a=b:=by
 induction a generalizing b with
 | nil=>cases b with
  | nil=>rfl
  | cons _ _=>simp at c
 | cons x a j=>cases b with
  | nil=>simp at c
  | cons y b=>
   simp only[AE] at h;have l:=x.toNat_lt;have m:=y.toNat_lt;have g:x.toNat=y.toNat:=by omega
   have i:AE a=AE b:=by omega
   rw[UInt32.toNat_inj.1 g,j (by simpa using c) i]
theorem RG {l:List UInt32} (h:l=[]\/2^(32*(l.length-1))<=AE l):AP (AE l)=l:=by
 rcases h with rfl | h
 ·rfl
 apply L2 _ (Az _);have c:=Fu (CR l);have g:=W7 h;omega
theorem D1 {a b:Nat} (h:a<=b:=by omega):(AP a).length<=(AP b).length:=by
 apply Fu;have:=CR (AP b);rw[Az] at this;omega
theorem Er {n:Nat}:AP n=[]↔n=0:=by
 constructor
 ·intro h;have:=Az n;rw[h] at this;exact this.symm
 rintro rfl;rfl
theorem XG {n:Nat} (h:n≠0):2^(32*((AP n).length-1))<=n:=by
 apply Classical.byContradiction;intro c;have:=Fu (n:=n) (k:=(AP n).length-1) (by omega);have:AP n≠[]:=fun e=>h (Er.1 e)
 have:(AP n).length≠0:=by simpa using this
 omega
theorem D2 (l:List UInt32) (x:UInt32):AE (l++[x])=AE l+2^(32*l.length)*x.toNat:=by
 rw[OW];simp[AE]
theorem CK {l:List UInt32} {i:Nat} {x:UInt32} (h:l[i]? =some x):AE (l.take (i+1))=AE (l.take i)+2^(32*i)*x.toNat:=by
 have hi:i<l.length:=by
  apply Classical.byContradiction;intro c;rw[List.getElem?_eq_none (by omega)] at h;exact absurd h (by simp)
 rw[List.take_succ_eq_append_getElem hi,D2];have:l[i]=x:=by simpa [List.getElem?_eq_getElem hi] using h
 rw[this,List.length_take,Nat.min_eq_left (by omega)]
theorem Fc (l:List UInt32) (i:Nat) (h:i<=l.length):AE l=AE (l.take i)+2^(32*i)*AE (l.drop i):=by
 conv=>lhs;rw[<-List.take_append_drop i l,OW,List.length_take,Nat.min_eq_left h]
def B4:List UInt32->List UInt32
 | []=>[]
 | x::l=>match B4 l with
  | []=>if x=0 then [] else [x]
  | y::r=>x::y::r
theorem Is:∀(l:List UInt32),B4 (l++[0])=B4 l
 | []=>rfl
 | x::l=>by simp[B4,Is l]
theorem JV {x:UInt32} (c:x≠0):∀(l:List UInt32),B4 (l++[x])=l++[x]
 | []=>by simp[B4,c]
 | y::l=>by
  rw[List.cons_append,B4,JV c l];cases l <;> rfl
theorem Ky (l:List UInt32):B4 l=AP (AE l):=by
 induction l with
 | nil=>rfl
 | cons x l g=>
  rw[B4,g,AE];have i:=x.toNat_lt
  by_cases h:AE l=0
  ·rw[h,Fv]
   by_cases c:x=0
   ·subst c;simp[Fv]
   have:x.toNat≠0:=fun e=>c (UInt32.toNat_inj.1 e)
   rw[if_neg c,Lv (by omega),show (x.toNat+4294967296*0)/4294967296=0 by omega,Fv];simp
  rw[Lv (n:=x.toNat+_) (by omega),show (x.toNat+4294967296*AE l)/4294967296=AE l by omega];rw[Lv h]
  show x::_=_
  congr 1
  apply UInt32.toNat_inj.1;rw[UInt32.toNat_ofNat'];omega
def IN:Nat->Nat->Nat
 | 0,_=>0
 | f+1,n=>if n=0 then 0 else
  let r:=2*IN f (n/4)
  if (r+1)*(r+1)<=n then r+1 else r
def BM (n:Nat):Nat:=IN n n
theorem Q5:∀(f n:Nat),n<=f->IN f n*IN f n<=n/\n<(IN f n+1)*(IN f n+1)
 | 0,n,h=>by rw[show n=0 by omega];decide
 | f+1,n,h=>by
  rw[IN]
  by_cases c:n=0
  ·rw[if_pos c,c];decide
  rw[if_neg c];have:=Q5 f (n/4) (by omega)
  generalize IN f (n/4)=r at*
  simp only;have g:(2*r)*(2*r)=4*(r*r):=by grind
  have i:(2*r+1+1)*(2*r+1+1)=4*((r+1)*(r+1)):=by grind
  split
  ·refine⟨by assumption,?_⟩;rw[i];omega
  refine⟨?_,by omega⟩;rw[g];omega
theorem Lq (n:Nat):BM n*BM n<=n:=(Q5 n n (Nat.le_refl _)).1
theorem OP (n:Nat):n<(BM n+1)*(BM n+1):=(Q5 n n (Nat.le_refl _)).2
theorem W1 {n r:Nat} (c:r*r<=n) (g:n<(r+1)*(r+1)):BM n=r:=by
 have h3:=Lq n;have h:=OP n
 generalize BM n=s at*
 have a:s<r+1:=Nat.mul_self_lt_mul_self_iff.1 (by omega);have b:r<s+1:=Nat.mul_self_lt_mul_self_iff.1 (by omega);omega
theorem DP {l:List UInt32} {i:Nat} (h:l.length<=i):AE (l.take i)=AE l:=by rw[List.take_of_length_le h]
theorem NZ {A B c xi yi i s:Nat} {w:UInt32} (g:o.length=i) (h:AE o+2^(32*i)*c=A+B) (hs:s=c+xi+yi) (hw:w.toNat=s%4294967296):
  AE (o++[w])+2^(32*(i+1))*(s/4294967296)=(A+2^(32*i)*xi)+(B+2^(32*i)*yi):=by
 rw[D2,Ds,g,hw]
 generalize 2^(32*i)=P at*
 have:s%4294967296+4294967296*(s/4294967296)=s:=by omega
 have e:P*(s%4294967296)+4294967296*P*(s/4294967296)=P*s:=by rw[<-this];grind
 subst hs
 grind
theorem QL {w:UInt32} (hw:w.toNat≠0):AP (AE (o++[w]))=o++[w]:=by
 apply RG
 right
 rw[D2,List.length_append];have:2^(32*o.length)*1<=2^(32*o.length)*w.toNat:=Nat.mul_le_mul_left _ (by omega);simp;omega
theorem U2 {p q:Nat} (h:AE o=p+q) (c:o.length=(AP p).length):o=AP (p+q):=by
 rw[<-h];refine (RG ?_).symm
 by_cases g:p=0
 ·left
  subst g;simpa [Fv] using c
 right
 have:=XG g;rw[c];omega
theorem Hp (n:Nat):AE (List.replicate n 0)=0:=by
 induction n with
 | zero=>rfl
 | succ n c=>rw[List.replicate_succ,AE,c];rfl
theorem Sn:∀(l:List UInt32),l.take (B4 l).length=B4 l
 | []=>rfl
 | x::l=>by
  have g:=Sn l;rw[B4];cases h:B4 l with
  | nil=>
   by_cases c:x=0
   ·simp[c]
   simp[c]
  | cons y r=>
   rw[h] at g;simpa using g
theorem O8 (l:List UInt32):(B4 l).length<=l.length:=by
 rw[<-Sn,List.length_take];omega
theorem ER {l:List UInt32} {n m:Nat} (h:n<=l.length) (hm:m=(B4 (l.take n)).length):m<=n/\l.take m=AP (AE (l.take n)):=by
 have g:=O8 (l.take n);rw[List.length_take] at g;have c:=Sn (l.take n);rw[<-hm,List.take_take,Nat.min_eq_left (by omega)] at c;exact⟨by omega,by rw[c,Ky]⟩
end Go.Abs
namespace Go.Abs
variable {B d:Rat}
theorem lM (e:Rat):e=e.num/e.den:=by
 have h:=Rat.mkRat_self e;rw[Rat.mkRat_eq_div] at h;exact h.symm
theorem JN (e:Rat):e*e.den=e.num:=by
 have h:(e.den:Rat)≠0:=by
  intro h;exact e.den_nz (Rat.natCast_eq_zero_iff.1 h)
 have:=lM e
 grind
theorem lN {e:Rat} (h:0<e):0<e.num:=by
 have:=(Rat.lt_iff 0 e).1 h;simpa using this
theorem Ka {a e:Rat} (c:a<=B) (g: -B<=a) (h3:d<=e) (h: -e<=d):a*d<=B*e:=by
 have p:=Rat.mul_nonneg (a:=B-a) (b:=e+d) (by grind) (by grind);have q:=Rat.mul_nonneg (a:=B+a) (b:=e-d) (by grind) (by grind)
 grind
theorem ja {a e:Rat} (g:a<=B) (h: -B<=a) (h3:d<=e) (c: -e<=d): -(B*e)<=a*d:=by
 have:=Ka (a:= -a) (d:=d) (B:=B) (e:=e) (by grind) (by grind) h3 c
 grind
structure CS where
 f:Nat->Rat
 HA:∀e:Rat,0<e->∃N,∀n m,N<=n->N<=m->f n-f m<e
namespace CS
def eqv (a b:CS):Prop:=∀e:Rat,0<e->∃N,∀n,N<=n->a.f n-b.f n<e/\b.f n-a.f n<e
theorem gT (a:CS):eqv a a:=fun e he=>⟨0,fun n _=>by grind⟩
theorem WA {a b:CS} (h:eqv a b):eqv b a:=fun e he=>by
 obtain⟨N,c⟩:=h e he;exact⟨N,fun n g=>⟨(c n g).2,(c n g).1⟩⟩
theorem gU {a b c:CS} (h:eqv a b) (k:eqv b c):eqv a c:=fun e he=>by
 obtain⟨N,i⟩:=h (e/2) (by grind);obtain⟨M,g⟩:=k (e/2) (by grind);refine⟨max N M,fun n j=>?_⟩;have:=i n (by omega);have:=g n (by omega)
 grind
instance st:Setoid CS:=⟨eqv,gT,WA,gU⟩
theorem gS {a b:CS} (h:∀n,a.f n=b.f n):a ≈ b:=fun e he=>⟨0,fun n _=>by have:=h n;grind⟩
theorem LV (a:CS):∃B:Rat,0<B/\∃N,∀n,N<=n->a.f n<=B/\ -B<=a.f n:=by
 obtain⟨N,c⟩:=a.HA 1 (by decide)
 have i:0<=max (a.f N) (-(a.f N)):=by
  rcases Rat.le_total (a:=a.f N) (b:= -(a.f N)) with h | h
  ·rw[Rat.max_def,if_pos h];grind
  by_cases h':a.f N<= -(a.f N)
  ·rw[Rat.max_def,if_pos h'];grind
  rw[Rat.max_def,if_neg h'];grind
 have j:a.f N<=max (a.f N) (-(a.f N)):=by rw[Rat.max_def];split <;> grind
 have l: -(a.f N)<=max (a.f N) (-(a.f N)):=by rw[Rat.max_def];split <;> grind
 refine⟨max (a.f N) (-(a.f N))+1,by grind,N,fun n g=>?_⟩;have:=c n N g (Nat.le_refl _);have:=c N n (Nat.le_refl _) g
 grind
def const (q:Rat):CS:=⟨fun _=>q,fun e he=>⟨0,fun n m _ _=>by grind⟩⟩
def add (a b:CS):CS:=⟨fun n=>a.f n+b.f n,fun e he=>by
 obtain⟨N,hN⟩:=a.HA (e/2) (by grind);obtain⟨M,hM⟩:=b.HA (e/2) (by grind);refine⟨max N M,fun n m hn hm=>?_⟩;have:=hN n m (by omega) (by omega);have:=hM n m (by omega) (by omega)
 grind⟩
def neg (a:CS):CS:=⟨fun n=> -a.f n,fun e he=>by
 obtain⟨N,hN⟩:=a.HA e he;refine⟨N,fun n m hn hm=>?_⟩;have:=hN m n hm hn
 grind⟩
theorem XW {x y u v A e:Rat} (C:0<A) (D:0<B) (he:0<e) (i:x<=A) (g: -A<=x) (h:v<=B) (c: -B<=v)
  (m:x-u<e/(2*B)) (s:u-x<e/(2*B)) (h3:y-v<e/(2*A)) (z:v-y<e/(2*A)):x*y-u*v<=e:=by
 have p:=Ka (a:=x) (d:=y-v) (B:=A) (e:=e/(2*A)) i g (by grind) (by grind);have q:=Ka (a:=v) (d:=x-u) (B:=B) (e:=e/(2*B)) h c (by grind) (by grind);have j:A*(e/(2*A))=e/2:=by grind
 have l:B*(e/(2*B))=e/2:=by grind
 grind
def mul (a b:CS):CS:=⟨fun n=>a.f n*b.f n,fun e he=>by
 obtain⟨A,hA,N,hN⟩:=a.LV;obtain⟨B,hB,M,hM⟩:=b.LV;have p1:0<(e/2)/(2*B):=by rw[Rat.div_def];exact Rat.mul_pos (by grind) (Rat.inv_pos.2 (by grind))
 have p2:0<(e/2)/(2*A):=by rw[Rat.div_def];exact Rat.mul_pos (by grind) (Rat.inv_pos.2 (by grind))
 obtain⟨P,hP⟩:=a.HA _ p1;obtain⟨Q,hQ⟩:=b.HA _ p2;refine⟨max (max N M) (max P Q),fun n m hn hm=>?_⟩;have hn1:=hN n (by omega);have hm1:=hM m (by omega);have:=XW (e:=e/2) hA hB (by grind) hn1.1 hn1.2 hm1.1 hm1.2 (hP n m (by omega) (by omega)) (hP m n (by omega) (by omega)) (hQ n m (by omega) (by omega)) (hQ m n (by omega) (by omega))
 grind⟩
theorem add_congr {a b c d:CS} (h:a ≈ c) (k:b ≈ d):add a b ≈ add c d:=fun e he=>by
 obtain⟨N,i⟩:=h (e/2) (by grind);obtain⟨M,g⟩:=k (e/2) (by grind);refine⟨max N M,fun n j=>?_⟩;have:=i n (by omega);have:=g n (by omega)
 show a.f n+b.f n-(c.f n+d.f n)<e/\c.f n+d.f n-(a.f n+b.f n)<e
 grind
theorem neg_congr {a c:CS} (h:a ≈ c):neg a ≈ neg c:=fun e he=>by
 obtain⟨N,g⟩:=h e he;refine⟨N,fun n i=>?_⟩;have:=g n i
 show -a.f n- -c.f n<e/\ -c.f n- -a.f n<e
 grind
theorem mul_congr {a b c d:CS} (h:a ≈ c) (k:b ≈ d):mul a b ≈ mul c d:=fun e he=>by
 obtain⟨A,m,N,z⟩:=a.LV;obtain⟨B,s,M,v⟩:=d.LV;have F:0<(e/2)/(2*B):=by rw[Rat.div_def];exact Rat.mul_pos (by grind) (Rat.inv_pos.2 (by grind))
 have G:0<(e/2)/(2*A):=by rw[Rat.div_def];exact Rat.mul_pos (by grind) (Rat.inv_pos.2 (by grind))
 obtain⟨P,C⟩:=h _ F;obtain⟨Q,D⟩:=k _ G;refine⟨max (max N M) (max P Q),fun n J=>?_⟩;have i:=z n (by omega);have g:=v n (by omega);have j:=C n (by omega);have l:=D n (by omega);have t1:=XW (e:=e/2) m s (by grind) i.1 i.2 g.1 g.2 j.1 j.2 l.1 l.2;have p:=Ka (a:=a.f n) (d:=d.f n-b.f n) (B:=A) (e:=(e/2)/(2*A)) i.1 i.2 (by grind) (by grind);have q:=Ka (a:=d.f n) (d:=c.f n-a.f n) (B:=B) (e:=(e/2)/(2*B)) g.1 g.2 (by grind) (by grind);have H:A*((e/2)/(2*A))=e/4:=by grind
 have I:B*((e/2)/(2*B))=e/4:=by grind
 show a.f n*b.f n-c.f n*d.f n<e/\c.f n*d.f n-a.f n*b.f n<e
 grind
def pos (a:CS):Prop:=∃e:Rat,0<e/\∃N,∀n,N<=n->e<a.f n
theorem Ye {a b:CS} (h:a ≈ b) (k:pos a):pos b:=by
 obtain⟨e,he,N,g⟩:=k;obtain⟨M,c⟩:=h (e/2) (by grind);refine⟨e/2,by grind,max N M,fun n i=>?_⟩;have:=g n (by omega);have:=c n (by omega)
 grind
theorem kh {a b:CS} (h:a ≈ b):pos a=pos b:=propext ⟨Ye h,Ye (WA h)⟩
theorem Kx (a:CS):a ≈ const 0\/pos a\/pos (neg a):=by
 apply Classical.byContradiction;intro h;apply h;refine .inl fun e he=>?_
 obtain⟨N,c⟩:=a.HA (e/2) (by grind);refine⟨N,fun n g=>?_⟩
 show a.f n-0<e/\0-a.f n<e
 constructor
 ·apply Classical.byContradiction;intro i;refine h (.inr (.inl ⟨e/4,by grind,N,fun m hm=>?_⟩));have:=c n m g hm
  grind
 apply Classical.byContradiction;intro i;refine h (.inr (.inr ⟨e/4,by grind,N,fun m hm=>?_⟩));have:=c m n hm g
 show e/4< -a.f m
 grind
theorem iq {x y c e:Rat} (l:0<c) (m:c<x) (s:c<y) (he:0<e) (h:x-y<e*(c*c)):y⁻¹-x⁻¹<e:=by
 have g:0<x*y:=Rat.mul_pos (by grind) (by grind);have i:y⁻¹-x⁻¹=(x-y)*(x*y)⁻¹:=by grind
 have j:e=e*(x*y)*(x*y)⁻¹:=by grind
 have p:=Rat.mul_nonneg (a:=x-c) (b:=y) (by grind) (by grind);have v:=Rat.mul_nonneg (a:=c) (b:=y-c) (by grind) (by grind);have q:=Rat.mul_nonneg (a:=e) (b:=x*y-c*c) (by grind) (by grind);have r:=Rat.mul_pos (a:=e*(x*y)-(x-y)) (b:=(x*y)⁻¹) (by grind) (Rat.inv_pos.2 g)
 grind
theorem Lp {a:CS} (h:pos a):∃b:CS,mul a b ≈ const 1:=by
 obtain⟨c,i,N,g⟩:=h;refine⟨⟨fun n=>(a.f (max N n))⁻¹,fun e he=>?_⟩,?_⟩
 ·have j:0<c*c:=Rat.mul_pos i i;obtain⟨M,q⟩:=a.HA (e*(c*c)) (Rat.mul_pos he j);refine⟨M,fun n m l hm=>?_⟩;exact iq i (g _ (by omega)) (g _ (by omega)) he (q _ _ (by omega) (by omega))
 intro e he;refine⟨N,fun n l=>?_⟩;have:=g n l;have s:a.f n*(a.f (max N n))⁻¹=1:=by rw[Nat.max_eq_right l];grind
 show a.f n*(a.f (max N n))⁻¹-1<e/\1-a.f n*(a.f (max N n))⁻¹<e
 grind
theorem mul_pos {a b:CS} (h:pos a) (k:pos b):pos (mul a b):=by
 obtain⟨c,l,N,j⟩:=h;obtain⟨d,g,M,i⟩:=k;refine⟨c*d,Rat.mul_pos l g,max N M,fun n v=>?_⟩;have m:=j n (by omega);have s:=i n (by omega);have p:=Rat.mul_pos (a:=a.f n-c) (b:=d) (by grind) g;have q:=Rat.mul_pos (a:=a.f n) (b:=b.f n-d) (by grind) (by grind)
 show c*d<a.f n*b.f n
 grind
theorem add_pos {a b:CS} (h:pos a) (k:pos b):pos (add a b):=by
 obtain⟨c,m,N,i⟩:=h;obtain⟨d,q,M,g⟩:=k;refine⟨c+d,by grind,max N M,fun n s=>?_⟩;have j:=i n (by omega);have l:=g n (by omega)
 show c+d<a.f n+b.f n
 grind
theorem jw {a:CS} (h:pos a):¬pos (neg a):=by
 rintro⟨d,q,M,g⟩
 obtain⟨c,m,N,i⟩:=h;have j:=i (max N M) (by omega);have l:d< -a.f (max N M):=g (max N M) (by omega)
 grind
theorem jx:¬pos (const 0):=by
 rintro⟨d,h,M,c⟩
 have g:d<0:=c M (by omega)
 grind
theorem Ki (k:Nat):(0:Rat)<2^k:=Rat.pow_pos (by decide)
theorem Kh (k:Nat):(0:Rat)<(2^k)⁻¹:=Rat.inv_pos.2 (Ki k)
theorem jg (k:Nat):(k:Rat)<2^k:=by
 have:=Nat.lt_two_pow_self (n:=k);have h:((k:Nat):Rat)<((2^k:Nat):Rat):=Rat.natCast_lt_natCast.2 this;simpa using h
theorem small (e:Rat) (he:0<e):∃N:Nat,∀n:Nat,N<=n->((2:Rat)^n)⁻¹<e:=by
 refine⟨e.den,fun n j=>?_⟩;have l:=jg n;have m:(e.den:Rat)<=(n:Rat):=Rat.natCast_le_natCast.2 j
 have h3:1<=e*e.den:=by
  have:e*e.den=e.num:=JN e;rw[this];have h:0<e.num:=lN he;have g:((1:Int):Rat)<=e.num:=Rat.intCast_le_intCast.2 h;exact g
 have g:=Ki n;have h:=Rat.mul_lt_mul_of_pos_left (a:=(e.den:Rat)) (b:=2^n) (c:=e) (by grind) he;have q:((2:Rat)^n)⁻¹*2^n=1:=by grind
 have i:=Kh n;have s:=Rat.mul_pos (a:=e*2^n-1) (b:=(2^n)⁻¹) (by grind) i;have v:(e*2^n-1)*((2:Rat)^n)⁻¹=e-((2:Rat)^n)⁻¹:=by grind
 grind
def D5 (q:Rat) (k:Nat):Rat:=(BM (q*(2^k*2^k)).floor.toNat:Rat)*(2^k)⁻¹
theorem SH (q:Rat) (k:Nat):0<=D5 q k:=
 Rat.mul_nonneg (by exact Rat.natCast_nonneg) (Rat.le_of_lt (Kh k))
theorem ZD {q:Rat} (k:Nat) (h:q<=0):D5 q k=0:=by
 have c:q*(2^k*2^k)<=0:=by
  have:=Rat.mul_nonneg (a:= -q) (b:=2^k*2^k) (by grind) (Rat.le_of_lt (Rat.mul_pos (Ki k) (Ki k)))
  generalize (2:Rat)^k=x at*
  grind
 have g:(q*(2^k*2^k)).floor<=0:=by
  have:=Rat.floor_le (q*(2^k*2^k));have h3:((q*(2^k*2^k)).floor:Rat)<=((0:Int):Rat):=Rat.le_trans this c;exact Rat.intCast_le_intCast.1 h3
 rw[D5,Int.toNat_of_nonpos g];have:BM 0=0:=rfl;rw[this];simp
theorem ZC {q:Rat} (k:Nat) (h:0<=q):D5 q k*D5 q k<=q:=by
 have l:=Ki k;have hi:=Kh k;have c:0<=q*(2^k*2^k):=Rat.mul_nonneg h (Rat.le_of_lt (Rat.mul_pos l l));have m:=Rat.floor_le (q*(2^k*2^k));have h3:0<=(q*(2^k*2^k)).floor:=Rat.le_floor_iff.2 (by simpa using c);have g:=Lq (q*(2^k*2^k)).floor.toNat;rw[D5]
 generalize v:BM (q*(2^k*2^k)).floor.toNat=r at*
 have i:((r*r:Nat):Rat)<=((q*(2^k*2^k)).floor.toNat:Rat):=Rat.natCast_le_natCast.2 g
 have j:((q*(2^k*2^k)).floor.toNat:Rat)=((q*(2^k*2^k)).floor:Rat):=by
  have:=Int.toNat_of_nonneg h3;have s:(((q*(2^k*2^k)).floor.toNat:Int):Rat)=((q*(2^k*2^k)).floor:Rat):=by rw[this]
  exact s
 rw[j] at i
 have A:(r:Rat)*r<=q*(2^k*2^k):=by
  have:((r*r:Nat):Rat)=(r:Rat)*r:=by simp
  grind
 have C:=Rat.mul_nonneg (a:=q*(2^k*2^k)-(r:Rat)*r) (b:=(2^k)⁻¹*(2^k)⁻¹) (by grind) (Rat.le_of_lt (Rat.mul_pos hi hi));have e:(2:Rat)^k*(2^k)⁻¹=1:=by grind
 clear c m h3 g i j v
 generalize ((2:Rat)^k)⁻¹=y at*
 generalize (2:Rat)^k=x at*
 have z:(q*(x*x)-(r:Rat)*r)*(y*y)=q-r*y*(r*y):=by grind
 grind
theorem XN (q:Rat) (k:Nat):q<(D5 q k+(2^k)⁻¹)*(D5 q k+(2^k)⁻¹):=by
 have v:=Ki k;have hi:=Kh k;have g:=OP (q*(2^k*2^k)).floor.toNat;rw[D5]
 generalize l:BM (q*(2^k*2^k)).floor.toNat=r at*
 have h:q*(2^k*2^k)<(q*(2^k*2^k)).floor+1:=by
  have:=Rat.lt_floor_add_one (q*(2^k*2^k));rwa [Rat.intCast_add] at this
 have h3:(q*(2^k*2^k)).floor<=((q*(2^k*2^k)).floor.toNat:Int):=Int.self_le_toNat _
 have c:((q*(2^k*2^k)).floor:Rat)<=((q*(2^k*2^k)).floor.toNat:Rat):=by
  exact Rat.intCast_le_intCast.2 h3
 have i:((q*(2^k*2^k)).floor.toNat:Rat)+1<=((r:Rat)+1)*(r+1):=by
  have j:(q*(2^k*2^k)).floor.toNat+1<=(r+1)*(r+1):=g;have:=Rat.natCast_le_natCast.2 j;simpa using this
 have s:=Rat.mul_pos (a:=((r:Rat)+1)*(r+1)-q*(2^k*2^k)) (b:=(2^k)⁻¹*(2^k)⁻¹) (by grind) (Rat.mul_pos hi hi);have e:(2:Rat)^k*(2^k)⁻¹=1:=by grind
 clear h h3 g i c l
 generalize ((2:Rat)^k)⁻¹=y at*
 generalize (2:Rat)^k=x at*
 have m:(((r:Rat)+1)*(r+1)-q*(x*x))*(y*y)=(r*y+y)*(r*y+y)-q:=by grind
 grind
theorem SI {p q e:Rat} {k l:Nat} (he:0<e) (v:((2:Rat)^l)⁻¹<e/2) (h:p-q<e*e/2):D5 p k-D5 q l<e:=by
 apply Classical.byContradiction;intro z;have g:=SH q l;have i:=XN q l
 have c:0<=p:=by
  apply Classical.byContradiction;intro m;have:=ZD (q:=p) k (by grind)
  grind
 have h3:=ZC k c;have j:=Kh l
 generalize D5 p k=s at*
 generalize D5 q l=t at*
 generalize ((2:Rat)^l)⁻¹=d at*
 have A:=Rat.mul_nonneg (a:=s-(t+d)-e/2) (b:=s+(t+d)) (by grind) (by grind);have C:=Rat.mul_nonneg (a:=e/2) (b:=s+t+d-e) (by grind) (by grind)
 grind
def sqrt (a:CS):CS:=⟨fun n=>D5 (a.f n) n,fun e he=>by
 obtain⟨N,hN⟩:=small (e/2) (by grind);obtain⟨M,hM⟩:=a.HA (e*e/2) (by have:=Rat.mul_pos he he;grind);refine⟨max N M,fun n m hn hm=>?_⟩;exact SI he (hN m (by omega)) (hM n m (by omega) (by omega))⟩
theorem nP {a b:CS} (h:a ≈ b):sqrt a ≈ sqrt b:=fun e he=>by
 obtain⟨N,c⟩:=small (e/2) (by grind);obtain⟨M,g⟩:=h (e*e/2) (by have:=Rat.mul_pos he he;grind);refine⟨max N M,fun n i=>?_⟩;have:=g n (by omega);exact⟨SI he (c n (by omega)) this.1,SI he (c n (by omega)) this.2⟩
theorem DS {a:CS} (h:¬pos (neg a)):mul (sqrt a) (sqrt a) ≈ a:=fun e he=>by
 obtain⟨B,Q,P,A⟩:=(sqrt a).LV;have H:0<e/(2*B+1):=by rw[Rat.div_def];exact Rat.mul_pos (by grind) (Rat.inv_pos.2 (by grind))
 obtain⟨N,z⟩:=small _ H;obtain⟨l,g⟩:=small 1 (by decide);obtain⟨M,v⟩:=a.HA (e/2) (by grind)
 have c:∃n,M<=n/\ -(e/2)<a.f n:=by
  apply Classical.byContradiction;intro C;apply h;refine⟨e/4,by grind,M,fun n j=>?_⟩;have:¬(-(e/2)<a.f n):=fun D=>C ⟨n,j,D⟩
  show e/4< -a.f n
  grind
 obtain⟨G,i,c⟩:=c;refine⟨max (max N l) (max M P),fun n j=>?_⟩;have m:=A n (by omega);have I:=z n (by omega);have h3:=v G n i (by omega);have J:=XN (a.f n) n;have K:=SH (a.f n) n;have L:=Kh n;have O:=g n (by omega)
 show D5 (a.f n) n*D5 (a.f n) n-a.f n<e/\a.f n-D5 (a.f n) n*D5 (a.f n) n<e
 have q:D5 (a.f n) n<=B:=m.1
 constructor
 ·by_cases F:0<=a.f n
  ·have:=ZC n F
   grind
  rw[ZD n (by grind)]
  grind
 generalize D5 (a.f n) n=s at*
 generalize ((2:Rat)^n)⁻¹=d at*
 have R:=Rat.mul_nonneg (a:=B-s) (b:=d) (by grind) (by grind);have S:=Rat.mul_nonneg (a:=1-d) (b:=d) (by grind) (by grind);have T:=Rat.mul_pos (a:=e/(2*B+1)-d) (b:=2*B+1) (by grind) (by grind);have U:e/(2*B+1)*(2*B+1)=e:=by grind
 grind
theorem Ev (a:CS):¬pos (neg (sqrt a)):=by
 rintro⟨e,he,N,c⟩
 have g:e< -D5 (a.f N) N:=c N (Nat.le_refl _);have:=SH (a.f N) N
 grind
end CS
def Re:Type:=Quotient CS.st
namespace Re
def mk (a:CS):Re:=Quotient.mk _ a
def ofRat (q:Rat):Re:=mk (CS.const q)
def add (x y:Re):Re:=Quotient.liftOn₂ x y (fun a b=>mk (CS.add a b)) fun _ _ _ _ h k=>Quotient.sound (CS.add_congr h k)
def mul (x y:Re):Re:=Quotient.liftOn₂ x y (fun a b=>mk (CS.mul a b)) fun _ _ _ _ h k=>Quotient.sound (CS.mul_congr h k)
def neg (x:Re):Re:=Quotient.liftOn x (fun a=>mk (CS.neg a)) fun _ _ h=>Quotient.sound (CS.neg_congr h)
def sqrt (x:Re):Re:=Quotient.liftOn x (fun a=>mk (CS.sqrt a)) fun _ _ h=>Quotient.sound (CS.nP h)
def pos (x:Re):Prop:=Quotient.liftOn x CS.pos fun _ _ h=>CS.kh h
def pow (x:Re):Nat->Re
 | 0=>ofRat 1
 | n+1=>mul (pow x n) x
instance:Add Re:=⟨add⟩
instance:Mul Re:=⟨mul⟩
instance:Neg Re:=⟨neg⟩
instance:Sub Re:=⟨fun a b=>add a (neg b)⟩
instance (n:Nat):OfNat Re n:=⟨ofRat n⟩
instance:NatCast Re:=⟨fun n=>ofRat n⟩
instance:IntCast Re:=⟨fun n=>ofRat n⟩
instance:Pow Re Nat:=⟨pow⟩
instance:SMul Nat Re:=⟨fun n a=>mul (ofRat n) a⟩
instance:SMul Int Re:=⟨fun n a=>mul (ofRat n) a⟩
instance:LT Re:=⟨fun a b=>pos (add b (neg a))⟩
instance:LE Re:=⟨fun a b=>¬pos (add a (neg b))⟩
theorem sound {a b:CS} (h:∀n,a.f n=b.f n):mk a=mk b:=Quotient.sound (CS.gS h)
theorem DF {p:Re->Prop} (h:∀a,p (mk a)) (x:Re):p x:=Quotient.ind h x
theorem add_assoc (x y z:Re):x+y+z=x+(y+z):=by
 induction x using DF;induction y using DF;induction z using DF
 exact sound fun n=>Rat.add_assoc _ _ _
theorem add_comm (x y:Re):x+y=y+x:=by
 induction x using DF;induction y using DF
 exact sound fun n=>Rat.add_comm _ _
theorem add_zero (x:Re):x+0=x:=by
 induction x using DF
 exact sound fun n=>Rat.add_zero _
theorem neg_add_cancel (x:Re): -x+x=0:=by
 induction x using DF
 exact sound fun n=>Rat.neg_add_cancel _
theorem mul_assoc (x y z:Re):x*y*z=x*(y*z):=by
 induction x using DF;induction y using DF;induction z using DF
 exact sound fun n=>Rat.mul_assoc _ _ _
theorem mul_comm (x y:Re):x*y=y*x:=by
 induction x using DF;induction y using DF
 exact sound fun n=>Rat.mul_comm _ _
theorem mul_one (x:Re):x*1=x:=by
 induction x using DF
 exact sound fun n=>Rat.mul_one _
theorem left_distrib (x y z:Re):x*(y+z)=x*y+x*z:=by
 induction x using DF;induction y using DF;induction z using DF
 exact sound fun n=>Rat.mul_add _ _ _
theorem zero_mul (x:Re):0*x=0:=by
 induction x using DF
 exact sound fun n=>Rat.zero_mul _
theorem ofRat_add (p q:Rat):ofRat (p+q)=ofRat p+ofRat q:=rfl
theorem ofRat_mul (p q:Rat):ofRat (p*q)=ofRat p*ofRat q:=rfl
theorem ofRat_neg (p:Rat):ofRat (-p)= -ofRat p:=rfl
abbrev S8 {C:Type->Type} {α:Type} (_:C α):Type->Type:=C
abbrev bw:Type->Type:=S8 Dyadic.instCommRing
abbrev Pb:Type->Type:=S8 Dyadic.instCommRing.toRing.toSemiring
instance:bw Re where
 add_assoc:=add_assoc
 add_comm:=add_comm
 add_zero:=add_zero
 neg_add_cancel:=neg_add_cancel
 mul_assoc:=mul_assoc
 mul_comm:=mul_comm
 mul_one:=mul_one
 one_mul:=fun x=>by rw[mul_comm,mul_one]
 left_distrib:=left_distrib
 right_distrib:=fun x y z=>by rw[mul_comm,left_distrib,mul_comm z x,mul_comm z y]
 zero_mul:=zero_mul
 mul_zero:=fun x=>by rw[mul_comm,zero_mul]
 pow_zero:=fun _=>rfl
 pow_succ:=fun _ _=>rfl
 sub_eq_add_neg:=fun _ _=>rfl
 neg_zsmul:=fun i x=>by
  show mul (ofRat ((-i:Int):Rat)) x=neg (mul (ofRat (i:Rat)) x)
  rw[Rat.intCast_neg]
  induction x using DF
  exact sound fun n=>Rat.neg_mul _ _
 zsmul_natCast_eq_nsmul:=fun _ _=>rfl
 nsmul_eq_natCast_mul:=fun _ _=>rfl
 ofNat_succ:=fun n=>by
  show ofRat ((n+1:Nat):Rat)=ofRat (n:Rat)+ofRat 1
  rw[Rat.natCast_add,ofRat_add]
  rfl
 ofNat_eq_natCast:=fun _=>rfl
 intCast_ofNat:=fun _=>rfl
 intCast_neg:=fun i=>by
  show ofRat ((-i:Int):Rat)=neg (ofRat (i:Rat))
  rw[Rat.intCast_neg]
  rfl
theorem lt_def (x y:Re):x<y↔pos (y-x):=Iff.rfl
theorem le_def (x y:Re):x<=y↔¬pos (x-y):=Iff.rfl
theorem kj {x y:Re}:pos x->pos y->pos (x*y):=by
 induction x using DF;induction y using DF
 exact CS.mul_pos
theorem kg {x y:Re}:pos x->pos y->pos (x+y):=by
 induction x using DF;induction y using DF
 exact CS.add_pos
theorem Yc {x:Re}:pos x->¬pos (-x):=by
 induction x using DF
 exact CS.jw
theorem ky:¬pos 0:=CS.jx
theorem Yf (x:Re):x=0\/pos x\/pos (-x):=by
 induction x using DF
 rcases CS.Kx _ with h | h | h
 ·exact .inl (Quotient.sound h)
 ·exact .inr (.inl h)
 exact .inr (.inr h)
theorem Yd {q:Rat}:pos (ofRat q)↔0<q:=by
 constructor
 ·rintro⟨e,he,N,c⟩
  have:e<q:=c N (Nat.le_refl _)
  grind
 intro h;exact⟨q/2,by grind,0,fun n _=>by show q/2<q;grind⟩
theorem le_trans' {x y z:Re} (h:x<=y) (k:y<=z):x<=z:=by
 rw[le_def] at*;intro c;rcases Yf (x-y) with e | e | e
 ·rw[show x-z=(x-y)+(y-z) by grind,e,show 0+(y-z)=y-z by grind] at c;exact k c
 ·exact h e
 have:=kg c e;rw[show x-z+ -(x-y)=y-z by grind] at this;exact k this
theorem jK (x y:Re):x<=y\/y<=x:=by
 rw[le_def,le_def]
 by_cases h:pos (x-y)
 ·right
  have:=Yc h;rwa [show -(x-y)=y-x by grind] at this
 exact .inl h
theorem jI {x y:Re} (h:x<=y) (k:y<=x):x=y:=by
 rw[le_def] at*;rcases Yf (x-y) with e | e | e
 ·grind
 ·exact (h e).elim
 rw[show -(x-y)=y-x by grind] at e;exact (k e).elim
theorem jQ (x y:Re):x<y↔x<=y/\¬y<=x:=by
 rw[lt_def,le_def,le_def]
 constructor
 ·intro h;refine⟨?_,fun k=>k h⟩;have:=Yc h;rwa [show -(y-x)=x-y by grind] at this
 rintro⟨_,h⟩
 exact Classical.not_not.1 h
instance:Std.IsLinearOrder Re where
 le_refl:=fun x=>by
  rw[le_def,show x-x=0 by grind];exact ky
 le_trans:=fun _ _ _=>le_trans'
 le_antisymm:=fun _ _=>jI
 le_total:=jK
instance:Std.LawfulOrderLT Re where
 lt_iff:=jQ
abbrev bY {C:(β:Type)->(s:Pb β)->(l:LE β)->(t:LT β)->Std.IsPreorder β->Prop} {α:Type} {s:Pb α} {l:LE α} {t:LT α} {p:Std.IsPreorder α} (_:C α s l t p):(β:Type)->(s:Pb β)->(l:LE β)->(t:LT β)->Std.IsPreorder β->Prop:=C
theorem RM {a b c:Re} (h:a<b) (g:0<c):c*a<c*b:=by
 rw[lt_def] at*;rw[show c*b-c*a=(c-0)*(b-a) by grind];exact kj g h
instance:bY Dyadic.instOrderedRing Re inferInstance inferInstance inferInstance inferInstance where
 add_le_left_iff:=fun c=>by
  rename_i a b
  rw[le_def,le_def,show a+c-(b+c)=a-b by grind]
 zero_lt_one:=by
  rw[lt_def]
  show pos (ofRat 1-ofRat 0)
  have:ofRat 1-ofRat 0=ofRat 1:=by
   show (1:Re)-0=1
   grind
  rw[this,Yd]
  decide
 mul_lt_mul_of_pos_left:=fun h hc=>RM h hc
 mul_lt_mul_of_pos_right:=fun h hc=>by
  rename_i a b c
  rw[mul_comm a c,mul_comm b c];exact RM h hc
theorem mul_pos {x y:Re} (h:0<x) (k:0<y):0<x*y:=by
 have:=RM k h
 grind
theorem IU {x y:Re} (h:0<=x) (k:0<=y):0<=x*y:=by
 by_cases h':0<x
 ·by_cases k':0<y
  ·have:=mul_pos h' k'
   grind
  have:y=0:=by grind
  subst this
  grind
 have:x=0:=by grind
 subst this
 grind
theorem Kd:ofRat 0=0:=rfl
theorem HO {p q:Rat}:ofRat p<ofRat q↔p<q:=by
 rw[lt_def]
 have:ofRat q-ofRat p=ofRat (q-p):=by
  rw[show q-p=q+ -p by grind,ofRat_add,ofRat_neg];grind
 rw[this,Yd]
 grind
theorem Kc {p q:Rat}:ofRat p<=ofRat q↔p<=q:=by
 have:= @HO q p
 grind
theorem E0 {p q:Rat}:ofRat p=ofRat q↔p=q:=by
 constructor
 ·intro h;have c:=(@Kc p q).1 (by grind);have g:=(@Kc q p).1 (by grind)
  grind
 rintro rfl;rfl
theorem Wt {x:Re} (h:0<x):∃y,x*y=1:=by
 rw[lt_def,show x-0=x by grind] at h
 induction x using DF
 obtain⟨b,hb⟩:=CS.Lp h;exact⟨mk b,Quotient.sound hb⟩
theorem Lp {x:Re} (h:x≠0):∃y,x*y=1:=by
 by_cases c:0<x
 ·exact Wt c
 obtain⟨y,g⟩:=Wt (x:= -x) (by grind);exact⟨-y,by grind⟩
theorem Ev (x:Re):0<=sqrt x:=by
 rw[le_def,show 0-sqrt x= -sqrt x by grind]
 induction x using DF
 exact CS.Ev _
theorem DS {x:Re} (h:0<=x):sqrt x*sqrt x=x:=by
 rw[le_def,show 0-x= -x by grind] at h
 induction x using DF
 exact Quotient.sound (CS.DS h)
theorem Cd {x y:Re} (h:x*y=0):x=0\/y=0:=by
 by_cases c:x=0
 ·exact .inl c
 obtain⟨z,g⟩:=Lp c
 right
 have:y=(x*z)*y:=by rw[g];grind
 grind
theorem Fi (x:Re):0<=x*x:=by
 by_cases h:0<=x
 ·exact IU h h
 have:=IU (x:= -x) (y:= -x) (by grind) (by grind)
 grind
theorem Hv {x y:Re} (c:0<=x) (g:0<=y) (h:x*x=y*y):x=y:=by
 have:(x-y)*(x+y)=0:=by grind
 rcases Cd this with e | e
 ·grind
 grind
end Re
end Go.Abs
namespace Go.Abs
def AM:List (List Rat)->List Rat->Re
 | [],a=>Re.ofRat (a.headD 0)
 | r::u,a=>AM u (a.take (2^u.length))+AM u (a.drop (2^u.length))*Re.sqrt (AM u r)
def rt (u:List (List Rat)) (r:List Rat):Re:=Re.sqrt (AM u r)
def In (u:List (List Rat)) (x:Re):Prop:=∃a:List Rat,a.length=2^u.length/\AM u a=x
def AT:List (List Rat)->Prop
 | []=>True
 | r::u=>AT u/\r.length=2^u.length/\0<AM u r/\¬∃w,In u w/\w*w=AM u r
noncomputable def co (u:List (List Rat)) (x:Re):List Rat:=by
 classical
 exact if h:In u x then Classical.choose h else []
variable {a:List Rat} {p x y:Re}
theorem Bk (r:List Rat) (u:List (List Rat)):2^(r::u).length=2^u.length+2^u.length:=by
 rw[List.length_cons,Nat.pow_succ];omega
theorem CN:In [] x↔∃q,x=Re.ofRat q:=by
 constructor
 ·rintro⟨a,_,rfl⟩;exact⟨_,rfl⟩
 rintro⟨q,rfl⟩;exact⟨[q],rfl,rfl⟩
theorem CW {r:List Rat} {u:List (List Rat)}:In (r::u) x↔∃p q,In u p/\In u q/\x=p+q*rt u r:=by
 constructor
 ·rintro⟨a,ha,rfl⟩
  rw[Bk] at ha;exact⟨_,_,⟨a.take (2^u.length),by rw[List.length_take];omega,rfl⟩,⟨a.drop (2^u.length),by rw[List.length_drop];omega,rfl⟩,rfl⟩
 rintro⟨p,q,⟨a,ha,rfl⟩,⟨b,hb,rfl⟩,rfl⟩
 refine⟨a++b,by rw[Bk,List.length_append];omega,?_⟩;rw[AM,<-ha,List.take_left,List.drop_left];rfl
theorem Nz:∀(u:List (List Rat)) (a b:List Rat),a.length=2^u.length->b.length=2^u.length->AM u (List.zipWith (· + ·) a b)=AM u a+AM u b
 | [],a,b,ha,hb=>by
  match a,b,ha,hb with
  | [p],[q],_,_=>exact Re.ofRat_add p q
 | r::u,a,b,ha,hb=>by
  rw[Bk] at ha hb;rw[AM,AM,AM,List.take_zipWith,List.drop_zipWith,Nz u _ _ (by rw[List.length_take];omega) (by rw[List.length_take];omega),Nz u _ _ (by rw[List.length_drop];omega) (by rw[List.length_drop];omega)]
  grind
theorem N0:∀(u:List (List Rat)) (a:List Rat),a.length=2^u.length->AM u (a.map (- ·))= -AM u a
 | [],a,ha=>by
  match a,ha with
  | [p],_=>exact Re.ofRat_neg p
 | r::u,a,ha=>by
  rw[Bk] at ha;rw[AM,AM,<-List.map_take,<-List.map_drop,N0 u _ (by rw[List.length_take];omega),N0 u _ (by rw[List.length_drop];omega)]
  grind
theorem Lk:∀(u:List (List Rat)) (n:Nat),AM u (List.replicate n 0)=0
 |[],0|[],n+1=>rfl
 | r::u,n=>by rw[AM,List.take_replicate,List.drop_replicate,Lk,Lk];grind
theorem EK (q:Rat):∀u,In u (Re.ofRat q)
 | []=>CN.2 ⟨q,rfl⟩
 | r::u=>CW.2 ⟨_,_,EK q u,⟨List.replicate (2^u.length) 0,List.length_replicate,Lk u _⟩,by grind⟩
theorem Bx (u:List (List Rat)):In u 0:=EK 0 u
theorem OD (u:List (List Rat)):In u 1:=EK 1 u
theorem C0 {u:List (List Rat)}:In u x->In u y->In u (x+y)
 |⟨a,ha,c⟩,⟨b,hb,g⟩=>⟨List.zipWith (· + ·) a b,by rw[List.length_zipWith];omega,by rw[Nz u a b ha hb,c,g]⟩
theorem Gf {u:List (List Rat)}:In u x->In u (-x)
 |⟨a,ha,c⟩=>⟨a.map (- ·),by rw[List.length_map,ha],by rw[N0 u a ha,c]⟩
theorem Ep {u:List (List Rat)} (h:In u x) (k:In u y):In u (x-y):=by
 have:=C0 h (Gf k);rwa [show x+ -y=x-y by grind] at this
theorem Cb {u:List (List Rat)} {r:List Rat} (h:AT (r::u)):rt u r*rt u r=AM u r:=Re.DS (by have:=h.2.2.1;grind)
theorem ly (u:List (List Rat)) (r:List Rat):0<=rt u r:=Re.Ev _
theorem CO {u:List (List Rat)} {r:List Rat} (h:AT (r::u)):In u (AM u r):=⟨r,h.2.1,rfl⟩
theorem Hn {u:List (List Rat)} {r:List Rat} (h:In u x):In (r::u) x:=CW.2 ⟨x,0,h,Bx u,by grind⟩
theorem JE (u:List (List Rat)) (r:List Rat):In (r::u) (rt u r):=CW.2 ⟨0,1,Bx u,OD u,by grind⟩
theorem Ak:∀{u:List (List Rat)} {x y:Re},AT u->In u x->In u y->In u (x*y)
 | [],x,y,_,g,i=>by
  obtain⟨p,rfl⟩:=CN.1 g;obtain⟨q,rfl⟩:=CN.1 i;exact CN.2 ⟨p*q,(Re.ofRat_mul p q).symm⟩
 | r::u,x,y,h,g,i=>by
  obtain⟨a,b,ha,hb,rfl⟩:=CW.1 g;obtain⟨c,d,j,l,rfl⟩:=CW.1 i;have m:=Cb h;refine CW.2 ⟨a*c+b*d*AM u r,a*d+b*c,C0 (Ak h.1 ha j) (Ak h.1 (Ak h.1 hb l) (CO h)),C0 (Ak h.1 ha l) (Ak h.1 hb j),?_⟩
  grind
theorem Xq {u:List (List Rat)} {r:List Rat} (h:AT (r::u)) {w:Re} (hw:In u w):w*w≠AM u r:=fun e=>h.2.2.2 ⟨w,hw,e⟩
theorem Eg:∀{u:List (List Rat)} {x:Re},AT u->In u x->x≠0->∃y,In u y/\x*y=1
 | [],x,_,l,g=>by
  obtain⟨p,rfl⟩:=CN.1 l;have D:p≠0:=fun e=>g (by rw[e];rfl)
  refine⟨Re.ofRat p⁻¹,CN.2 ⟨_,rfl⟩,?_⟩;rw[<-Re.ofRat_mul,show p*p⁻¹=1 by grind];rfl
 | r::u,x,h,l,g=>by
  obtain⟨a,b,ha,hb,rfl⟩:=CW.1 l;have F:=Cb h
  have z:a*a-b*b*AM u r≠0:=by
   intro e
   by_cases i:b=0
   ·have s:a=0:=by
     have:a*a=0:=by grind
     rcases Re.Cd this with e | e <;> exact e
    exact g (by grind)
   obtain⟨c,v,j⟩:=Eg h.1 hb i
   exact Xq h (Ak h.1 ha v) (by
    have C:a*a=b*b*AM u r:=by grind
    have q:a*c*(a*c)=(b*c)*(b*c)*AM u r:=by grind
    rw[q,j];grind)
  obtain⟨y,m,A⟩:=Eg h.1 (Ep (Ak h.1 ha ha) (Ak h.1 (Ak h.1 hb hb) (CO h))) z;refine⟨a*y+ -(b*y)*rt u r,CW.2 ⟨_,_,Ak h.1 ha m,Gf (Ak h.1 hb m),rfl⟩,?_⟩
  grind
theorem indep {u:List (List Rat)} {r:List Rat} (h:AT (r::u)) {q i g:Re} (A:In u p) (C:In u q) (j:In u i) (l:In u g) (e:p+q*rt u r=i+g*rt u r):p=i/\q=g:=by
 have F:=Cb h
 by_cases v:q-g=0
 ·have:q=g:=by grind
  subst this;exact⟨by grind,rfl⟩
 exfalso
 obtain⟨c,z,m⟩:=Eg h.1 (Ep C l) v;refine Xq h (Ak h.1 (Ep j A) z) ?_;have D:(q-g)*rt u r=i-p:=by grind
 have s:(i-p)*c=rt u r*((q-g)*c):=by grind
 rw[s,m];grind
theorem Qh:∀{u:List (List Rat)} {a b:List Rat},AT u->a.length=2^u.length->b.length=2^u.length->AM u a=AM u b->a=b
 | [],a,b,_,ha,hb,e=>by
  match a,b,ha,hb with
  | [p],[q],_,_=>exact congrArg (fun x=>[x]) (Re.E0.1 e)
 | r::u,a,b,h,ha,hb,e=>by
  rw[Bk] at ha hb;have l1:(a.take (2^u.length)).length=2^u.length:=by rw[List.length_take];omega
  have l2:(a.drop (2^u.length)).length=2^u.length:=by rw[List.length_drop];omega
  have l3:(b.take (2^u.length)).length=2^u.length:=by rw[List.length_take];omega
  have c:(b.drop (2^u.length)).length=2^u.length:=by rw[List.length_drop];omega
  obtain⟨g,i⟩:=indep h ⟨_,l1,rfl⟩ ⟨_,l2,rfl⟩ ⟨_,l3,rfl⟩ ⟨_,c,rfl⟩ e;rw[<-List.take_append_drop (2^u.length) a,<-List.take_append_drop (2^u.length) b,Qh h.1 l1 l3 g,Qh h.1 l2 c i]
theorem VW {u:List (List Rat)} (h:In u x):(co u x).length=2^u.length/\AM u (co u x)=x:=by
 unfold co;rw[dif_pos h];exact Classical.choose_spec h
theorem CU {u:List (List Rat)} (h:In u x):(co u x).length=2^u.length:=(VW h).1
theorem Dr {u:List (List Rat)} (h:In u x):AM u (co u x)=x:=(VW h).2
theorem JC {u:List (List Rat)} (h:AT u) (ha:a.length=2^u.length) (e:AM u a=x):co u x=a:=by
 have c:In u x:=⟨a,ha,e⟩;exact Qh h (CU c) ha ((Dr c).trans e.symm)
theorem VT {u:List (List Rat)} (h:AT u) (ha:a.length=2^u.length):co u (AM u a)=a:=JC h ha rfl
theorem Le {u:List (List Rat)} (h:AT u) (c:In u x) (g:In u y):co u (x+y)=List.zipWith (· + ·) (co u x) (co u y):=
 JC h (by rw[List.length_zipWith,CU c,CU g];omega) (by rw[Nz u _ _ (CU c) (CU g),Dr c,Dr g])
theorem Lg {u:List (List Rat)} (h:AT u) (c:In u x):co u (-x)=(co u x).map (- ·):=
 JC h (by rw[List.length_map,CU c]) (by rw[N0 u _ (CU c),Dr c])
theorem QV {u:List (List Rat)} (h:AT u):co u 0=List.replicate (2^u.length) 0:=JC h List.length_replicate (Lk u _)
theorem Cz {u:List (List Rat)} {r:List Rat} {q:Re} (h:AT (r::u)) (c:In u p) (g:In u q) (i:x=p+q*rt u r):co (r::u) x=co u p++co u q:=by
 refine JC h (by rw[List.length_append,CU c,CU g,Bk]) ?_;rw[AM,<-CU c,List.take_left,List.drop_left,Dr c,Dr g,i];rfl
theorem CQ (q:Rat):co [] (Re.ofRat q)=[q]:=JC (u:=[]) trivial rfl rfl
theorem Hh (q:Rat):∀{u:List (List Rat)},AT u->co u (Re.ofRat q)=q::List.replicate (2^u.length-1) 0
 | [],_=>CQ q
 | r::u,h=>by
  rw[Cz h (EK q u) (Bx u) (by grind),Hh q h.1,QV h.1,List.cons_append,List.replicate_append_replicate];have:1<=2^u.length:=Nat.one_le_two_pow;have:2^(r::u).length-1=2^u.length-1+2^u.length:=by rw[Bk];omega
  rw[this]
theorem fy {u:List (List Rat)} {r:List Rat} {q:Re} (h:AT (r::u)) (c:In u p) (g:In u q) (i:x=p+q*rt u r):(co (r::u) x).take (2^u.length)=co u p:=by
 rw[Cz h c g i,<-CU c,List.take_left]
theorem fx {u:List (List Rat)} {r:List Rat} {q:Re} (h:AT (r::u)) (c:In u p) (g:In u q) (i:x=p+q*rt u r):(co (r::u) x).drop (2^u.length)=co u q:=by
 rw[Cz h c g i,<-CU c,List.drop_left]
theorem Lf {u:List (List Rat)} (h:AT u) (i:In u x):(∀c∈co u x,c=0)↔x=0:=by
 constructor
 ·intro g;have:co u x=List.replicate (2^u.length) 0:=List.eq_replicate_iff.2 ⟨CU i,g⟩;rw[<-Dr i,this,Lk]
 rintro rfl c g;rw[QV h] at g;exact (List.mem_replicate.1 g).2
theorem lv {u:List (List Rat)} {r:List Rat} (h:AT (r::u)):rt u r≠0:=by
 intro e;have c:=Cb h;have:=h.2.2.1;rw[e] at c
 grind
theorem ZK {u:List (List Rat)} {r:List Rat} (h:AT (r::u)):0<rt u r:=by
 have:=lv h;have:=ly u r
 grind
end Go.Abs
namespace Go.Abs
def Sq (u:List (List Rat)) (x:Re):Prop:=∃w,In u w/\w*w=x
variable {a b n t w x:Re} {r:List Rat} {u:List (List Rat)}
theorem PC:(2:Re)≠0:=by
 intro h
 have c:(0:Re)<1:=by
  have:=Re.HO.2 (show (0:Rat)<1 by decide);exact this
 grind
theorem XY {y:Re} (c:x≠0) (g:y≠0):x*y≠0:=fun h=>by rcases Re.Cd h with e | e;exact c e;exact g e
theorem Z4 (h:x*x=0):x=0:=by rcases Re.Cd h with e | e <;> exact e
theorem Zy (h:AT (r::u)) (ha:In u a):Sq (r::u) a↔Sq u a\/∃i,In u i/\AM u r*i=1/\Sq u (a*i):=by
 have C:=Cb h
 constructor
 ·rintro⟨w,hw,e⟩
  obtain⟨c,d,j,m,rfl⟩:=CW.1 hw;have s:(c*c+d*d*AM u r)+(2*c*d)*rt u r=a+0*rt u r:=by grind
  have z:In u (2*c*d):=by
   have:=C0 (Ak h.1 j m) (Ak h.1 j m);rwa [show c*d+c*d=2*c*d by grind] at this
  obtain⟨A,v⟩:=indep h (C0 (Ak h.1 j j) (Ak h.1 (Ak h.1 m m) (CO h))) z ha (Bx u) s
  by_cases q:d=0
  ·left;exact⟨c,j,by grind⟩
  right
  have l:c=0:=by
   apply Classical.byContradiction;intro l;exact XY (XY PC l) q v
  obtain⟨i,hi,g⟩:=Eg h.1 (CO h) (by have:=h.2.2.1;grind);exact⟨i,hi,g,d,m,by grind⟩
 rintro (⟨w,hw,e⟩ |⟨i,hi,g,w,hw,e⟩)
 ·exact⟨w,Hn hw,e⟩
 refine⟨0+w*rt u r,CW.2 ⟨0,w,Bx u,hw,rfl⟩,?_⟩;have:a=a*(AM u r*i):=by rw[g];grind
 grind
theorem Z0 (h:AT (r::u)) (ha:In u a) (hb:In u b) (hw:Sq (r::u) (a+b*rt u r)):∃c d,In u c/\In u d/\c*c+d*d*AM u r=a/\2*c*d=b:=by
 have s:=Cb h;obtain⟨w,hw,e⟩:=hw;obtain⟨c,d,g,i,rfl⟩:=CW.1 hw;have j:(c*c+d*d*AM u r)+(2*c*d)*rt u r=a+b*rt u r:=by grind
 have q:In u (2*c*d):=by
  have:=C0 (Ak h.1 g i) (Ak h.1 g i);rwa [show c*d+c*d=2*c*d by grind] at this
 obtain⟨l,m⟩:=indep h (C0 (Ak h.1 g g) (Ak h.1 (Ak h.1 i i) (CO h))) q ha hb j;exact⟨c,d,g,i,l,m⟩
theorem Z1 (h:AT (r::u)) (ha:In u a) (hb:In u b) (hw:Sq (r::u) (a+b*rt u r)):Sq u (a*a-b*b*AM u r):=by
 obtain⟨c,d,g,i,j,l⟩:=Z0 h ha hb hw;exact⟨c*c-d*d*AM u r,Ep (Ak h.1 g g) (Ak h.1 (Ak h.1 i i) (CO h)),by grind⟩
theorem Z2 (h:AT (r::u)) (ha:In u a) (hb:In u b) (hw:Sq (r::u) (a+b*rt u r)) (i:n*n=a*a-b*b*AM u r) (ht:2*t=1):
  Sq u (t*(a+n))\/Sq u (t*(a-n)):=by
 obtain⟨c,d,q,s,l,m⟩:=Z0 h ha hb hw;have hm:(n-(c*c-d*d*AM u r))*(n+(c*c-d*d*AM u r))=0:=by grind
 rcases Re.Cd hm with e | e
 ·left
  have g:a+n=2*(c*c):=by clear i hm;grind
  have j:t*(2*(c*c))=2*t*(c*c):=by clear i hm l m g e;grind
  exact⟨c,q,by rw[g,j,ht];grind⟩
 right
 have g:a-n=2*(c*c):=by clear i hm;grind
 have j:t*(2*(c*c))=2*t*(c*c):=by clear i hm l m g e;grind
 exact⟨c,q,by rw[g,j,ht];grind⟩
theorem Zw {c i ρ s:Re} (D:n*n=a*a-b*b*ρ) (ht:2*t=1) (hs:s*s=ρ) (hw:w*w=t*(a+n)) (hi:(w+w)*i=1) (l:c=w+b*i*s):c*c=a+b*s:=by
 have g:w≠0:=by intro e;subst e;grind
 have m:2*(w*w)=a+n:=by rw[hw];grind
 have q:(a+n)*(a-n)=b*b*ρ:=by grind
 have h3:2*(w*w)*(b*i*(b*i)*ρ)*2=b*b*ρ:=by
  have:2*(w*w)*(b*i*(b*i)*ρ)*2=b*b*ρ*(((w+w)*i)*((w+w)*i)):=by grind
  rw[this,hi];grind
 have h:(a+n)*(2*(b*i*(b*i)*ρ)-(a-n))=0:=by grind
 have v:2*(b*i*(b*i)*ρ)-(a-n)=0:=by
  rcases Re.Cd h with e | e
  ·exfalso
   have:2*(w*w)=0:=by grind
   rcases Re.Cd this with e | e
   ·exact PC e
   exact g (Z4 e)
  exact e
 have z:2*w*(b*i)=b:=by
  have:2*w*(b*i)=b*((w+w)*i):=by grind
  rw[this,hi];grind
 have A:c*c=w*w+b*i*(b*i)*ρ+2*w*(b*i)*s:=by rw[l];grind
 have j:2*(w*w+b*i*(b*i)*ρ-a)=0:=by grind
 have C:w*w+b*i*(b*i)*ρ-a=0:=by
  rcases Re.Cd j with e | e
  ·exact absurd e PC
  exact e
 grind
theorem Zx (h:AT (r::u)) (c:b≠0) (j:n*n=a*a-b*b*AM u r) (ht:2*t=1) (hw:w*w=t*(a+n)):w≠0:=by
 intro e;subst e;have i:a+n=0:=by grind
 have g:b*b*AM u r=0:=by grind
 have h3:=h.2.2.1;rcases Re.Cd g with e | e
 ·exact c (Z4 e)
 grind
theorem Sd {q:Rat}:Sq [] (Re.ofRat q)↔∃r:Rat,0<=r/\r*r=q:=by
 constructor
 ·rintro⟨w,hw,e⟩
  obtain⟨r,rfl⟩:=CN.1 hw;rw[<-Re.ofRat_mul,Re.E0] at e;rcases Rat.le_total (a:=0) (b:=r) with h | h
  ·exact⟨r,h,e⟩
  exact⟨-r,by grind,by grind⟩
 rintro⟨r,_,e⟩
 exact⟨Re.ofRat r,CN.2 ⟨r,rfl⟩,by rw[<-Re.ofRat_mul,e]⟩
end Go.Abs
